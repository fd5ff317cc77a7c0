/-
  Texts of one proof, joined: part 8. No condition.
-/
import Derived.Test.YtaodmbolhoafcaaGreatDoorZp7
import Derived.DeepKeys4
import Derived.WideKeyArr
open List renaming length→E
open Go.RowKit Go.Proofs.Tryz
namespace Go.Proofs.YtaodmbolhoafcaaGreatDoor
set_option linter.unusedVariables false
set_option linter.unusedSimpArgs false
set_option maxRecDepth 20000
variable{B:Nat}{w0:World}{F:aR}{A A1 A2 B1 B2:bk}{n c c1 c2 b1 b2 g:Nat}{bound size:Int}{T:List cm}{LL:List MT}{L M:aR}{A3:bk}{c3:Nat}{l b:al}{es:List MapEntry}{cl:Nat}{most:Int}
theorem VY{P:Prop}(h:P:=by(simpa using h4.e1)):P:=h
theorem JM:type_of% @List.range_eq_range':= @List.range_eq_range'
def xd:cm->List cm->Prop
 |_,[]=>True
 |w,s::r=>u_ w s∧xd s r
def Lg:cm->List cm->cm
 |w,[]=>w
 |_,s::r=>Lg s r
theorem pt:∀(w:cm) (l:List cm) (x:cm),Lg w (l++[x])=x
 |_,[],_=>rfl
 |_,s::r,x=>pt s r x
theorem Oz:∀(w:cm) (a b:List cm),Lg w (a++b)=Lg (Lg w a) b
 |_,[],_=>rfl
 |_,s::r,b=>Oz s r b
theorem qn:∀(l:List cm),fF l (E l)=Lg [] l:=by
 intro l;rcases List.eq_nil_or_concat l with rfl|⟨l',x,rfl⟩
 ·rfl
 ·rw[List.concat_eq_append,pt];unfold fF;rw[aw ak];simp
theorem xd.app:∀{w:cm} {a b:List cm},xd w a->xd (Lg w a) b->xd w (a++b)
 |_,[],_,_,h=>h
 |_,s::r,b,h,k=>⟨h.1,xd.app h.2 k⟩
theorem xd.left:∀{w:cm} {a b:List cm},xd w (a++b)->xd w a
 |_,[],_,_=>trivial
 |_,s::r,b,h=>⟨h.1,xd.left h.2⟩
theorem xd.right:∀{w:cm} {a b:List cm},xd w (a++b)->xd (Lg w a) b
 |_,[],_,h=>h
 |_,s::r,b,h=>xd.right (a:=r) h.2
theorem xd.get:∀{w:cm} {l:List cm},xd w l->∀i,i<E l->u_ (if i=0 then w else l.getD (i-1) []) (l.getD i [])
 |_,[],_,i,hi=>absurd hi ak
 |w,s::r,h,0,_=>by simpa using h.1
 |w,s::r,h,i+1,hi=>by
  have:=xd.get h.2 i D_;cases i with
  |zero=>simpa using this
  |succ i=>simpa using this
theorem xd.afG:∀{w:cm} {l:List cm},(∀i,i<E l->u_ (if i=0 then w else l.getD (i-1) []) (l.getD i []))->xd w l
 |_,[],_=>trivial
 |w,s::r,h=>by
  refine⟨by simpa using h 0 ak,xd.afG λi hi=>?_⟩;have:=h (i+1) D_;cases i with
  |zero=>simpa using this
  |succ i=>simpa using this
theorem lF.ch{l:List cm}(h:lF l):xd [] l:=xd.afG h.1
theorem xd.ris{l:List cm}(h:xd [] l)(hl:E l<=1048576):lF l:=⟨h.get,hl⟩
theorem PJ:∀a b:cm,a.take (qP a b)=b.take (qP a b)
 |[],b=>by simp[qP]
 |x::a,[]=>by simp[qP]
 |x::a,y::b=>by
  unfold qP;split
  ·rename_i h;simp[h,PJ a b]
  ·simp
theorem ae':∀{a b:cm},tY a b->qP a b<E b
 |_,[],h=>absurd h (qS _)
 |[],y::b,_=>by simp[qP]
 |x::a,y::b,h=>by
  unfold qP;rw[u6]at h;split
  ·rename_i he;subst he;rcases h with h|⟨_,h⟩
   ·rw[Rj]at h;omega
   ·have:=ae' h;simp;omega
  ·simp
theorem amY{x:Nat}(h:x<128):E (aS x)=1:=by rw[pd h];rfl
theorem Jd{t:cm}(h:E t<128):E (fD t)=E t+1:=by
 unfold fD;rw[aX,amY h];omega
theorem QS:∀(was:cm) (r:List cm),E was<=25->(∀s∈r,E s<=25)->E (iY was r)<=E r*27
 |_,[],_,_=>by simp[iY]
 |was,s::r,hw,h=>by
  have hs:=h s ak;have:=QS s r hs (λx hx=>h x oR);have hl:=Bz was s;unfold iY;rw[aX,aX,amY aa,Jd ly,iG,dI,kz];omega
theorem Sj{X:List cm}(hl:E X<=64)(h:∀s∈X,E s<=25):E (dH X)<=2000:=by
 cases X with
 |nil=>simp[dH]
 |cons t r=>
  have ht:=h t ak;have:=QS t r ht (λx hx=>h x oR);simp only[dI]at hl;unfold dH;rw[aX,Jd aa];omega
theorem aoW{s:Cs}{was x:cm}{r:al}(h0:s.e=0)(hw:E was<=1000)(hm:u_ was x)(hr:s.rest=aS (qP was x)++fD (x.drop (qP was x))++r):tb s was false=x∧(tN s was false).e=0∧(tN s was false).rest=r:=by
 have hl:=Bz was x;have fN:=ae' (DI.1 hm.2.2);rw[bX]at hr;obtain⟨h1,h2⟩:=Cs.iT h0 (m:=E was) aa aa hr;have uk:=h2.cM hr;obtain⟨h3,h4⟩:=Cs.sp h2.e1 (m:=25) (by rw[iG];have:=hm.2.1;omega) aa uk;have wU:=h4.cM uk;have hX:nxX s was false=x:=by
  show was.take (s.int (E was))++(s.bZ (E was)).text 25=x;rw[h1,h3,PJ,jd]
 have hS:Uc s was false=(s.bZ (E was)).eT 25:=rfl;have hB:¬qT s was false:=by
  rintro(h|h|⟨_,h⟩)
  ·have h:(s.bZ (E was)).text 25=[]:=h;rw[h3]at h;have:=dQ List.length h;rw[iG]at this;simp at this;omega
  ·rw[hX]at h;exact h hm
  ·rw[hX]at h;exact h h1.symm
 have hC:tN s was false=(s.bZ (E was)).eT 25:=by
  unfold tN;rw[hS,aw VY,aw hB]
 refine⟨?_,by rw[hC];exact h4.e1,by rw[hC];exact wU⟩;unfold tb;rw[hS,aw VY,hX]
theorem aoV{s:Cs}{was x:cm}{r:al}(h0:s.e=0)(hm:u_ was x)(hr:s.rest=fD x++r):tb s was true=x∧(tN s was true).e=0∧(tN s was true).rest=r:=by
 obtain⟨h3,h4⟩:=Cs.sp h0 (m:=25) (by have:=hm.2.1;omega) aa hr;have wU:=h4.cM hr;have hX:nxX s was true=x:=by
  show was.take 0++s.text 25=x;rw[h3];rfl
 have hS:Uc s was true=s.eT 25:=rfl;have hB:¬qT s was true:=by
  rintro(h|h|⟨h,_⟩)
  ·have h:s.text 25=[]:=h;rw[h3]at h;exact hm.1 h
  ·rw[hX]at h;exact h hm
  ·cases h
 have hC:tN s was true=s.eT 25:=by
  unfold tN;rw[hS,aw VY,aw hB]
 refine⟨?_,by rw[hC];exact h4.e1,by rw[hC];exact wU⟩;unfold tb;rw[hS,aw VY,hX]
theorem Ji:∀(r out:List cm) (s:Cs),s.e=0->E (fF out (E out))<=1000->s.rest=iY (fF out (E out)) r->xd (fF out (E out)) r->ir (E r) false s out=(out++r,0)
 |[],out,s,h0,_,hr,_=>by
  have:=Cs.adF h0 hr;simp[ir,this]
 |x::r,out,s,h0,hw,hr,hc=>by
  obtain⟨h1,h2,h3⟩:=aoW h0 hw hc.1 hr;have hp:fF (out++[x]) (E (out++[x]))=x:=by rw[qn,pt]
  show ir (E r+1) false s out=_;unfold ir;rw[aw pK,h1,Ji r (out++[x]) _ h2 (by rw[hp];have:=hc.1.2.1;omega) (by rw[hp];exact h3) (by rw[hp];exact hc.2)];simp
theorem OF{X out:List cm}(oh:X≠[])(hc:xd (fF out (E out)) X):ir (E X) true ⟨dH X,0,0⟩ out=(out++X,0):=by
 cases X with
 |nil=>exact absurd rfl oh
 |cons x r=>
  obtain⟨h1,h2,h3⟩:=aoV (s:=⟨dH (x::r),0,0⟩) rfl hc.1 (show Cs.rest ⟨dH (x::r),0,0⟩=fD x++iY x r from rfl);have hp:fF (out++[x]) (E (out++[x]))=x:=by rw[qn,pt]
  show ir (E r+1) true _ out=_;unfold ir;rw[aw pK,h1,Ji r (out++[x]) _ h2 (by rw[hp];have:=hc.1.2.1;omega) (by rw[hp];exact h3) (by rw[hp];exact hc.2)];simp
theorem Yh:∀(ns:bf) (s:Cs) (out:bf) (r:al),s.e=0->(∀n∈ns,n<=2000)->s.rest=ns.flatMap aS++r->∃s',BZ (E ns) s out=(s',out++ns)∧oE s s' (ns.flatMap aS)
 |[],s,out,r,h0,_,hr=>⟨s,by simp[BZ],oE.nil h0⟩
 |n::ns,s,out,r,h0,hn,hr=>by
  have hn1:=hn n ak;rw[ka,bX]at hr;obtain⟨h1,h2⟩:=Cs.iT h0 (m:=2000) aa aa hr;obtain⟨s',h3,h4⟩:=Yh ns (s.bZ 2000) (out++[n]) r h2.e1 (λx hx=>hn x oR) (h2.cM hr);refine⟨s',?_,?_⟩
  ·show BZ (E ns+1) s out=_;unfold BZ;rw[aw (by simpa using h0),h1,h3];simp
  ·rw[ka];exact h2.trans h4
theorem ak'(l:List cm)(sz i:Nat):l.take (i*sz)++ck l sz i=l.take ((i+1)*sz):=by
 unfold ck;rw[kz,lz,List.take_add]
theorem NJ{l:List cm}{sz:Nat}(hR:lF l)(lK:1<=sz):∀(m i:Nat) (s:Cs) (r:al),i+m=h_ sz (E l)->s.e=0->s.rest=jq l sz (List.range' i m)++r->
  ∃s',pO sz (E l) ((List.range' i m).map λj=>E (dH (ck l sz j))) s (l.take (i*sz))=(l,s',0)∧oE s s' (jq l sz (List.range' i m))
 |0,i,s,r,hi,h0,hr=>by
  have xx:=Sq (sz:=sz) (n:=E l) lK;refine⟨s,?_,oE.nil h0⟩;have:i=h_ sz (E l):=by omega
  simp only[List.range'_zero,Ih,pO];rw[aw (by simpa using h0),this,fC xx]
 |m+1,i,s,r,hi,h0,hr=>by
  rw[List.range'_succ]at hr⊢;have fN:=(oF lK).1 (show i<h_ sz (E l) by omega);simp only[jq,ka,bX]at hr;obtain⟨h1,h2⟩:=Cs.mZ h0 (n:=(E (dH (ck l sz i)):Int)) rfl hr;have uk:=h2.cM hr;have De:E (l.take (i*sz))=i*sz:=by rw[eY];omega
  have asm:E (ck l sz i)=min sz (E l-i*sz):=by simp[ck]
  have oh:ck l sz i≠[]:=λh=>by have:=dQ List.length h;rw[asm]at this;simp at this;omega
  have hch:xd (fF (l.take (i*sz)) (E (l.take (i*sz)))) (ck l sz i):=by
   rw[qn];have h:=hR.ch;rw[<-jd (i*sz) l]at h;have h:=h.right;rw[<-jd sz (l.drop (i*sz))]at h;exact h.left
  have hF:=OF (out:=l.take (i*sz)) oh hch;rw[asm]at hF;obtain⟨s',h3,h4⟩:=NJ hR lK m (i+1) _ r aa h2.e1 uk;refine⟨s',?_,?_⟩
  ·simp only[kh,pO];rw[aw (by simpa using h2.e1),h1,De,hF,aw ak];show pO _ _ _ _ (l.take (i*sz)++ck l sz i)=_;rw[ak'];exact h3
  ·show oE s s' (jq l sz (i::List.range' (i+1) m));simp only[jq,ka];exact h2.trans h4
theorem ZC{l:List cm}{sz:Nat}(hR:lF l)(lK:1<=sz)(j_:sz<=64)(more:al):eo sz (fY sz l++more)=(l,E (fY sz l),0):=by
 have wS:=hR.le;have hb:(Cs.rest ⟨fY sz l++more,0,0⟩)=aS (E l)++(lS l sz (List.range (h_ sz (E l)))++(jq l sz (List.range (h_ sz (E l)))++more)):=by simp[Cs.rest,fY]
 have hl:=hR.2;obtain⟨h1,h2⟩:=Cs.iT (s:=⟨fY sz l++more,0,0⟩) rfl (m:=1048576) (x:=E l) aa aa hb;have uk:=h2.cM hb;have hN:uD (fY sz l++more)=E l:=h1;have hH:lS l sz (List.range (h_ sz (E l)))=((List.range (h_ sz (E l))).map λj=>E (dH (ck l sz j))).flatMap aS:=by simp[lS,List.flatMap_map]
 rw[hH]at uk;obtain⟨s2,h3,h4⟩:=Yh _ _ [] _ h2.e1 (λn hn=>by
  obtain⟨j,_,rfl⟩:=pC.1 hn;exact Sj (by simp[ck];omega) (λx hx=>wS x (AP hx))) uk
 have wU:=h4.cM uk;rw[JM]at wU;obtain⟨s3,h5,h6⟩:=NJ hR lK _ 0 s2 more aa h4.e1 wU;rw[dX,uR]at h3;have hS:mn sz (fY sz l++more)=(s2,(List.range (h_ sz (E l))).map λj=>E (dH (ck l sz j))):=by
  unfold mn;rw[hN,h3];rfl
 have hF:nh sz (fY sz l++more)=(l,s3,0):=by
  unfold nh;rw[hN,hS,JM];rw[qC,zl]at h5;exact h5
 have ug:s3.at_=E (fY sz l):=by
  have h7:=(h2.trans (h4.trans h6)).eq;rw[h7];have hH2:=dQ List.length hH;simp only[JM]at hH2;simp only[fY,aX,JM,hH2];omega
 rw[EH aa (by rw[hF]),hF,<-ug]
theorem FC:type_of% @Prod.ext:= @Prod.ext
theorem aoX{s:Cs}{was:cm}(hw:E was<=1000)(h:(tN s was false).e=0):u_ was (tb s was false)∧oE s (tN s was false) (aS (qP was (tb s was false))++fD ((tb s was false).drop (qP was (tb s was false)))):=by
 have hm:=Ud h;obtain⟨h1,h2,h3,h4⟩:=afD h;have S3:((s.bZ (E was)).eT 25).e=0:=h1;have hS:tN s was false=(s.bZ (E was)).eT 25:=h3;obtain⟨h5,h6⟩:=Cs.zQ S3;obtain⟨h7,h8,h9⟩:=Cs.LJ h5.e0;have hX:tb s was false=was.take (s.int (E was))++(s.bZ (E was)).text 25:=h4;have hl:qP was (tb s was false)=s.int (E was):=by
  refine jN.1 λq=>h2 (.inr (.inr ⟨rfl,λe=>q ?_⟩));rw[h4];exact e
 refine⟨hm,?_⟩;rw[hl,hS];have hd:(tb s was false).drop (s.int (E was))=(s.bZ (E was)).text 25:=by
  rw[hX,mo nf]
 rw[hd];exact h7.trans h5
theorem akg{s:Cs}{was:cm}(h:(tN s was true).e=0):u_ was (tb s was true)∧oE s (tN s was true) (fD (tb s was true)):=by
 have hm:=Ud h;obtain⟨h1,h2,h3,h4⟩:=afD h;have S3:(s.eT 25).e=0:=h1;have hS:tN s was true=s.eT 25:=h3;obtain⟨h5,h6⟩:=Cs.zQ S3;have hX:tb s was true=s.text 25:=h4;refine⟨hm,?_⟩;rw[hX,hS];exact h5
theorem adG{s:Cs}(h:s.yR.e=0):s.e=0∧s.rest=[]:=by
 obtain⟨h1,h2⟩:=Cs.ajb h;refine⟨h1,?_⟩;unfold Cs.left at h2;unfold Cs.rest;exact mU aa
theorem Jh:∀(m:Nat) (s:Cs) (out:List cm),E (fF out (E out))<=1000->(ir m false s out).2=0->∃r,(ir m false s out).1=out++r∧E r=m∧s.rest=iY (fF out (E out)) r∧xd (fF out (E out)) r∧s.e=0
 |0,s,out,hw,h=>by
  unfold ir at h⊢;split at h
  ·rename_i q;exact absurd h q
  ·rename_i q;rw[aw q];obtain⟨h1,h2⟩:=adG Nt;exact⟨[],ak,rfl,h2,trivial,h1⟩
 |m+1,s,out,hw,h=>by
  unfold ir at h⊢;split at h
  ·rename_i q;exact absurd h q
  ·rename_i q;rw[aw q];have q':(tN s (fF out (E out)) false).e=0:=by simpa using q
   obtain⟨h1,h2⟩:=aoX hw q';have hp:fF (out++[tb s (fF out (E out)) false]) (E (out++[tb s (fF out (E out)) false]))=tb s (fF out (E out)) false:=by rw[qn,pt]
   obtain⟨r,h3,h4,h5,h6,h7⟩:=Jh m _ (out++[tb s (fF out (E out)) false]) (by rw[hp];have:=h1.2.1;omega) h;rw[hp]at h5 h6;refine⟨tb s (fF out (E out)) false::r,by rw[h3];simp,by simp[h4],?_,⟨h1,h6⟩,h2.e0⟩;rw[h2.rest,h5];simp only[iY]
theorem ZP{m:Nat}{b:al}{out:List cm}(hm:1<=m)(h:(ir m true ⟨b,0,0⟩ out).2=0):∃r,(ir m true ⟨b,0,0⟩ out).1=out++r∧E r=m∧b=dH r∧xd (fF out (E out)) r:=by
 obtain⟨k,rfl⟩:∃k,m=k+1:=⟨m-1,aa⟩
 unfold ir at h⊢;split at h
 ·rename_i q;exact absurd h q
 ·rename_i q;rw[aw q];have q':(tN ⟨b,0,0⟩ (fF out (E out)) true).e=0:=by simpa using q
  obtain⟨h1,h2⟩:=akg q';have hp:fF (out++[tb ⟨b,0,0⟩ (fF out (E out)) true]) (E (out++[tb ⟨b,0,0⟩ (fF out (E out)) true]))=tb ⟨b,0,0⟩ (fF out (E out)) true:=by rw[qn,pt]
  obtain⟨r,h3,h4,h5,h6,h7⟩:=Jh k _ (out++[tb ⟨b,0,0⟩ (fF out (E out)) true]) (by rw[hp];have:=h1.2.1;omega) h;rw[hp]at h5 h6;refine⟨tb ⟨b,0,0⟩ (fF out (E out)) true::r,by rw[h3];simp,by simp[h4],?_,⟨h1,h6⟩⟩;have:=h2.rest;rw[h5]at this;simpa[Cs.rest,dH]using this
theorem QG:∀(k:Nat) (s s':Cs) (out S:bf),BZ k s out=(s',S)->s'.e=0->∃S',S=out++S'∧E S'=k∧oE s s' (S'.flatMap aS)
 |0,s,s',out,S,h,he=>by
  simp only[BZ,Df]at h;obtain⟨rfl,rfl⟩:=h;exact⟨[],ak,rfl,oE.nil he⟩
 |k+1,s,s',out,S,h,he=>by
  unfold BZ at h;split at h
  ·rename_i q;simp only[Df]at h;obtain⟨rfl,rfl⟩:=h;exact absurd he q
  ·obtain⟨S',h1,h2,h3⟩:=QG k _ _ _ _ h he;obtain⟨h4,h5,h6⟩:=Cs.LJ h3.e0;refine⟨s.int 2000::S',by rw[h1];simp,by simp[h2],?_⟩;rw[ka];exact h4.trans h3
theorem IU{sz n:Nat}(lK:1<=sz):∀(S:bf) (i:Nat) (s s':Cs) (out l:List cm),E out=min (i*sz) n->E S+i=h_ sz n->pO sz n S s out=(l,s',0)->
  E l=n∧(∃t,l=out++t∧xd (fF out (E out)) t)∧oE s s' (jq l sz (List.range' i (E S)))∧S=(List.range' i (E S)).map (λj=>E (dH (ck l sz j)))
 |[],i,s,s',out,l,ho,hS,h=>by
  unfold pO at h;split at h
  ·rename_i q;simp only[Df]at h;exact absurd h.2.2 q
  ·rename_i q;simp only[Df]at h;obtain⟨rfl,rfl,_⟩:=h;have xx:=Sq (sz:=sz) (n:=n) lK;have hi:i=h_ sz n:=by simpa using hS
   rw[<-hi]at xx;exact⟨aa,⟨[],ak,trivial⟩,oE.nil Nt,ak⟩
 |k::S,i,s,s',out,l,ho,hS,h=>by
  simp only[dI]at hS;have fN:=(oF lK).1 (show i<h_ sz n by omega);have hoi:E out=i*sz:=by omega
  have jg:(i+1)*sz=i*sz+sz:=kH i sz;unfold pO at h;split at h
  ·rename_i q;simp only[Df]at h;exact absurd h.2.2 q
  ·rename_i q;split at h
   ·rename_i q2;simp only[Df]at h;exact absurd h.2.2 q2
   ·rename_i q2;obtain⟨h1,h2,_⟩:=Cs.QT (show(s.cj k).e=0 by simpa using q);obtain⟨r,h3,h4,h5,h6⟩:=ZP aa (show(ir (min sz (n-E out)) true ⟨s.take k,0,0⟩ out).2=0 by simpa using q2);rw[h3]at h;obtain⟨h7,⟨t,h8,h9⟩,jU,pg⟩:=IU lK S (i+1) _ s' (out++r) l (by rw[aX,h4,jg];omega) aa h;have hck:ck l sz i=r:=by
     unfold ck;rw[h8,bX,<-hoi,CF];rcases uW (n-E out) sz with hc|hc
     ·have ht:t=[]:=by
       apply mS;have:=dQ List.length h8;rw[h7,aX,aX,h4]at this;omega
      rw[ht,gl,fC aa]
     ·rw[lA (by rw[h4];omega)]
    have hpr:fF (out++r) (E (out++r))=Lg (fF out (E out)) r:=by rw[qn,qn,Oz]
    rw[hpr]at h9;refine⟨h7,⟨r++t,by rw[h8,bX],h6.app h9⟩,?_,?_⟩
    ·simp only[dI,List.range'_succ,jq,ka];rw[hck,<-h5];exact h1.trans jU
    ·simp only[dI,List.range'_succ,kh];rw[hck,<-h5,h2,<-pg];simp
theorem Oe{sz:Nat}{b:al}(lK:1<=sz)(j_:sz<=64)(he:(eo sz b).2.2=0):lF (eo sz b).1∧(eo sz b).2.1<=E b∧fY sz (eo sz b).1=b.take (eo sz b).2.1:=by
 have hE:¬((sz:Int)<1∨64<(sz:Int)):=by omega
 have hF:(nh sz b).2.2=0:=jN.1 λh=>by
  rw[I_ hE h]at he;exact h he
 rw[EH hE hF];obtain⟨l,s',e⟩:∃l s',nh sz b=(l,s',0):=⟨_,_,FC rfl (FC rfl hF)⟩
 have e':=e;unfold nh at e';have Z':(mn sz b).1.e=0->E (mn sz b).2=h_ sz (uD b)∧oE (Cs.bZ ⟨b,0,0⟩ 1048576) (mn sz b).1 ((mn sz b).2.flatMap aS):=by
  intro h0;obtain⟨S',h1,h2,h3⟩:=QG (h_ sz (uD b)) (Cs.bZ ⟨b,0,0⟩ 1048576) (mn sz b).1 [] (mn sz b).2 rfl h0;rw[mW]at h1;rw[h1];exact⟨h2,h3⟩
 have h0:(mn sz b).1.e=0:=by
  generalize (mn sz b).2=S at e';generalize (mn sz b).1=u at e'⊢;cases S with
  |nil=>
   unfold pO at e';split at e'
   ·rename_i q;simp only[Df]at e';exact absurd e'.2.2 q
   ·rename_i q;simpa using q
  |cons k S=>
   unfold pO at e';split at e'
   ·rename_i q;simp only[Df]at e';exact absurd e'.2.2 q
   ·rename_i q;exact Cs.JR (s:=u) (k:=(k:Int).toNat) (er:=iz u.rest k) (show(u.cj k).e=0 by simpa using q)
 obtain⟨h1,h2⟩:=Z' h0;obtain⟨h3,⟨t,h4,h5⟩,h6,h7⟩:=IU lK _ 0 _ s' [] l ak aa e';rw[mW]at h4;subst h4;obtain⟨h8,h9,_⟩:=Cs.LJ h2.e0;have jU:=h8.trans (h2.trans h6);rw[h1]at h6 h7 jU;have hH:lS l sz (List.range (h_ sz (E l)))=(mn sz b).2.flatMap aS:=by
  rw[h7,JM,h3];simp[lS,List.flatMap_map]
 have hD:fY sz l=aS (Cs.int ⟨b,0,0⟩ 1048576)++((mn sz b).2.flatMap aS++jq l sz (List.range' 0 (h_ sz (uD b)))):=by
  unfold fY;rw[hH,h3,JM,bX];rfl
 rw[<-hD]at jU;have ug:s'.at_=E (fY sz l):=by rw[jU.eq];simp
 have Bk:b=fY sz l++s'.rest:=by simpa[Cs.rest]using jU.rest
 rw[e];simp only;rw[ug];have hN:(uD b:Int)<=1048576:=h9;refine⟨xd.ris (by simpa[fF]using h5) (by rw[h3];omega),?_,?_⟩
 ·conv=>rhs;rw[Bk]
  simp
 ·conv=>rhs;rw[Bk]
  rw[zh]
def M8(bound:Int):Nat->al->List (bf)->List (bf)×Int
 |0,b,out=>if E b≠0 then ([],2) else (out,0)
 |k+1,b,out=>
  if (jb bound b).2.2≠0 then ([],(jb bound b).2.2)
  else if E (jb bound b).1=0 then ([],2)
  else M8 bound k (b.drop (jb bound b).2.1) (out++[(jb bound b).1])
def Bp(size bound:Int)(b:al):List (bf)×Int:=M8 bound (E (eo size b).1) (b.drop (eo size b).2.1) []
def eW(size bound:Int)(b:al):List cm×List (bf)×Int:=
 if bound<0∨20000<bound then ([],[],13)
 else if (eo size b).2.2≠0 then ([],[],(eo size b).2.2)
 else if (Bp size bound b).2≠0 then ([],[],(Bp size bound b).2)
 else ((eo size b).1,(Bp size bound b).1,0)
theorem Xn{size bound:Int}{b:al}(h:bound<0∨20000<bound):eW size bound b=([],[],13):=ao h
theorem Xo{size bound:Int}{b:al}(h:¬(bound<0∨20000<bound))(h1:(eo size b).2.2≠0):eW size bound b=([],[],(eo size b).2.2):=by unfold eW;rw[aw h,ao h1]
theorem Xp{size bound:Int}{b:al}(h:¬(bound<0∨20000<bound))(h1:(eo size b).2.2=0)(h2:(Bp size bound b).2≠0):eW size bound b=([],[],(Bp size bound b).2):=by unfold eW;rw[aw h,aw D9,ao h2]
theorem LG{size bound:Int}{b:al}(h:¬(bound<0∨20000<bound))(h1:(eo size b).2.2=0)(h2:(Bp size bound b).2=0):eW size bound b=((eo size b).1,(Bp size bound b).1,0):=by unfold eW;rw[aw h,aw D9,aw pK]
theorem PT{bn:Nat}(hb:bn<=20000):∀(I out:List (bf)),(∀x∈I,x≠[]∧lE bn x)->M8 bn (E I) (I.flatMap (sC bn)) out=(out++I,0)
 |[],out,_=>by simp[M8]
 |x::r,out,h=>by
  obtain⟨h1,h2⟩:=h x ak;have hbk:=ZH h2 hb (r.flatMap (sC bn));rw[ka,dI,M8,hbk,aw ak,aw D9];simp only;rw[CF,PT hb r _ λy hy=>h y wN];simp
theorem XF{bound:Int}(RK:bound<=9223372036854775807):∀(k:Nat) (b:al) (out:List (bf)),(M8 bound k b out).2=0->∃I,(M8 bound k b out).1=out++I∧E I=k∧(∀x∈I,x≠[]∧lE bound.toNat x)∧I.flatMap (sC bound.toNat)=b
 |0,b,out,h=>by
  unfold M8 at h⊢;split at h
  ·exact absurd h ax
  ·rename_i q;rw[aw q];exact⟨[],ak,rfl,ak,by simpa using(mS Nt).symm⟩
 |k+1,b,out,h=>by
  unfold M8 at h⊢;split at h
  ·rename_i q;exact absurd h q
  ·rename_i q;split at h
   ·exact absurd h ax
   ·rename_i q2;rw[aw q,aw q2];obtain⟨bn,rfl,pB,hR,hB,hl⟩:=Oi RK Nt;obtain⟨I,h1,h2,h3,h4⟩:=XF RK k _ _ h;simp only[oo]at h3 h4⊢;refine⟨(jb bn b).1::I,by rw[h1];simp,by simp[h2],?_,?_⟩
    ·intro x hx;rcases fj.1 hx with rfl|hx
     ·exact⟨λe=>q2 Ea,hR⟩
     ·exact h3 x hx
    ·rw[ka,hB,h4,jd]
theorem ae1{sz bn:Nat}{T:List cm}{I:List (bf)}(h1:1<=sz)(h2:sz<=64)(hb:bn<=20000)(hR:lF T)(hl:E T=E I)(hI:∀x∈I,x≠[]∧lE bn x):eW sz bn (fY sz T++I.flatMap (sC bn))=(T,I,0):=by
 have hd:=ZC hR h1 h2 (I.flatMap (sC bn));have hL:Bp sz bn (fY sz T++I.flatMap (sC bn))=(I,0):=by
  unfold Bp;rw[hd];simp only;rw[CF,hl,PT hb I [] hI];simp
 rw[LG aa (by rw[hd]) (by rw[hL]),hd,hL]
theorem ajM{size bound:Int}{b:al}(h:(eW size bound b).2.2=0)(hs:size<=9223372036854775807):∃sz bn:Nat,size=sz∧bound=bn∧1<=sz∧sz<=64∧bn<=20000∧lF (eW size bound b).1∧E (eW size bound b).1=E (eW size bound b).2.1∧
  (∀x∈(eW size bound b).2.1,x≠[]∧lE bn x)∧fY sz (eW size bound b).1++(eW size bound b).2.1.flatMap (sC bn)=b:=by
 have q1:¬(bound<0∨20000<bound):=λq1=>by rw[Xn q1]at h;exact absurd h ax
 have q2:(eo size b).2.2=0:=bA λq2=>by rw[Xo q1 q2]at h;exact q2 h
 have q3:(Bp size bound b).2=0:=bA λq3=>by rw[Xp q1 q2 q3]at h;exact q3 h
 rw[LG q1 q2 q3];have q4:¬(size<1∨64<size):=λq=>by rw[vJ q]at q2;exact absurd q2 ax
 obtain⟨sz,rfl⟩:=gi (show 0<=size by omega);obtain⟨bn,rfl⟩:=gi (show 0<=bound by omega);obtain⟨e1,e2,e3⟩:=Oe (sz:=sz) aa aa q2;obtain⟨I,f1,f2,f3,f4⟩:=XF (bound:=bn) aa _ _ _ q3;rw[mW]at f1;have f1':(Bp sz bn b).1=I:=f1;rw[oo]at f3 f4;refine⟨sz,bn,rfl,rfl,aa,aa,aa,e1,?_,?_,?_⟩
 ·simp only;rw[f1',f2]
 ·simp only;rw[f1'];exact f3
 ·simp only;rw[f1',f4,e3,jd]
def mF(I:List (bf)):List (List Int):=I.map λl=>l.map (λ(n:Nat)=>(n:Int))
theorem TC{bn:Nat}{T:List cm}{I:List (bf)}(hb:bn<=20000)(hR:lF T)(hl:E T=E I)(hI:∀x∈I,x≠[]∧lE bn x):y9 bn T (mF I):=by
 refine⟨⟨aa,aa⟩,by simp[mF,hl],hR,λx hx=>?_⟩;obtain⟨y,hy,rfl⟩:=pC.1 hx;exact⟨λe=>(hI y hy).1 (List.map_eq_nil_iff.1 e),(tf _ _).2 (hI y hy).2⟩
theorem PR{bn:Nat}(hb:bn<=20000):∀I:List (bf),(∀x∈I,x≠[]∧lE bn x)->lsB bn (mF I)=I.flatMap (sC bn)
 |[],_=>by simp[lsB,mF]
 |x::r,h=>by
  have ih:=PR hb r λy hy=>h y wN;have e:RD bn (x.map (λ(n:Nat)=>(n:Int)))=(sC bn x,0):=Lb (by rintro(q|q|q);omega;omega;exact q ((tf _ _).2 (h x ak).2));unfold lsB mF at ih⊢;rw[kh,ka,ka,ih,e]
theorem JE{sz bn:Nat}{T:List cm}{I:List (bf)}(h1:1<=sz)(h2:sz<=64)(hb:bn<=20000)(hR:lF T)(hl:E T=E I)(hI:∀x∈I,x≠[]∧lE bn x):rp sz bn T (mF I)=(fY sz T++I.flatMap (sC bn),0):=by
 rw[LH h1 h2 (TC hb hR hl hI)];unfold LF;rw[PR hb I hI]
theorem Fj{bound:Int}{T:List cm}{I:List (List Int)}(h:y9 bound T I):∃(bn:Nat) (N:List (bf)),bound=bn∧bn<=20000∧I=mF N∧lF T∧E T=E N∧∀x∈N,x≠[]∧lE bn x:=by
 obtain⟨⟨h0,h1⟩,h2,h3,h4⟩:=h;obtain⟨bn,rfl⟩:=gi h0;have e:I=mF (I.map λl=>l.map Int.toNat):=by
  unfold mF;rw[sW]
  conv=>lhs;rw[<-List.map_id I]
  refine qB λx hx=>?_;obtain⟨xs,rfl⟩:=(h4 x hx).2.afw;simp[Function.comp_def]
 refine⟨bn,I.map λl=>l.map Int.toNat,rfl,aa,e,h3,pK,λx hx=>?_⟩;obtain⟨y,hy,rfl⟩:=pC.1 hx;obtain⟨xs,rfl⟩:=(h4 y hy).2.afw;have e2:(xs.map (λ(n:Nat)=>(n:Int))).map Int.toNat=xs:=by simp[Function.comp_def]
 rw[e2];exact⟨λq=>(h4 _ hy).1 (by rw[q];rfl),(tf _ _).1 (h4 _ hy).2⟩
theorem arO{L1 L2:List MT}(hL1:aM B w0 F 1 (.slice B1 (E L1) b1) (E L1) (L1.map Bn))(hI1:mD B w0 F L1)(hL2:aM B w0 F 1 (.slice B2 (E L2) b2) (E L2) (L2.map Bn))(hI2:mD B w0 F L2)(j_:E L1<=1000000000)(xC:∀e∈L1,E e.2.2<=9223372036854775807):
  aZ B w0 240 [.slice B1 (E L1) b1,.slice B2 (E L2) b2,.func (.func 241) #[] #[]] F (λr L=>r= .bool (decide (fZ L1=fZ L2))∧L=F):=by
 refine fw func240 32 [0,1,2] ?_;refine jt ?_;refine aj (λku=>?_) λku=>?_
 ·refine bK ?_;exact⟨by rw[oq λh=>ku (by have:=dQ List.length h;simp only[fZ,dX]at this;omega)],rfl⟩
 ·refine de ?_;refine aD (λzf zL zm=>∃(k:Nat),(k<=E L1∧(fZ L1).take k=(fZ L2).take k)∧E L1-k=zm∧Sub zf [(1,.slice B2 (E L2) b2),(2,.func (.func 241) #[] #[]),(15,.slice B1 (E L1) b1),(16,ah (E L1)),(17,ah k)]∧Wk zL (F)) _ ⟨0,⟨bU _,rfl⟩,rfl,bp,.refl _⟩ ?_;rintro _ _ _ ⟨k,⟨hk,heq⟩,rfl,hs,hp⟩;refine aT hs hp (bB ?_);refine aj (λiC=>?_) λiC=>?_
  ·have yf:k<E L1:=by omega
   have Jw:k<E L2:=by omega
   have hi1:=hI1.get yf;have hi2:=hI2.get Jw;have tT:=xC _ (bj yf rU);refine bK ?_;refine ab (au ag rfl aB aa (aou yf)) rfl (bO ?_);refine ab (au ag rfl aB aa (aou Jw)) rfl (bK ?_);refine vz (aQ func241 rfl rfl) rfl rfl (arP aB aB tT) rfl ?_;rintro _ _ ⟨rfl,cO⟩;obtain rfl:=cO.symm;refine bE ?_;refine aj (λz_=>?_) λz_=>?_
   ·refine bE ?_;refine ve [6] ?_;refine bK ?_;exact⟨by
     rw[oq];intro h;refine z_ ?_;have:=dQ (λl=>l.getD k []) h;simpa[fZ,List.getD,jw,fc yf,fc Jw]using this,rfl⟩
   ·refine bB ?_;refine ve [1,2,15,16,17] ?_;refine av ⟨_,aa,k+1,⟨aa,aeZ heq yf Jw (jN.1 z_)⟩,rfl,bp,.refl _⟩
  ·refine cF ?_;exact⟨by
    have h4:fZ L1=fZ L2:=by
     have:=heq
     rwa [fC (by simp only[fZ,dX];omega),fC (by simp only[fZ,dX];omega)]at this
    rw[oK h4],rfl⟩
theorem akA{T1 T2:List cm}{L1 L2:List MT}(h1:aM B w0 F 1 (.slice A1 (E T1) c1) (E T1) (strs T1))(hL1:aM B w0 F 1 (.slice B1 (E L1) b1) (E L1) (L1.map Bn))(hI1:mD B w0 F L1)(h2:aM B w0 F 1 (.slice A2 (E T2) c2) (E T2) (strs T2))(hL2:aM B w0 F 1 (.slice B2 (E L2) b2) (E L2) (L2.map Bn))(hI2:mD B w0 F L2)(hs:E T1<=1000000000)(j_:E L1<=1000000000)(xC:∀e∈L1,E e.2.2<=9223372036854775807):
  aZ B w0 195 [.agg [.slice A1 (E T1) c1,.slice B1 (E L1) b1].toArray,.agg [.slice A2 (E T2) c2,.slice B2 (E L2) b2].toArray] F (λr L=>r= .bool (decide (T1=T2∧fZ L1=fZ L2))∧L=F):=by
 refine fw func195 17 [0,1] ?_;refine bc ?_;refine bg λg2=>?_;refine bg λg3=>?_;refine bF ?_;refine bR 12 16 [] (T1=T2∧fZ L1=fZ L2) ?_ ?_
 ·refine b7 ?_;refine ai rfl (arQ aB aB aa) (aF ?_);refine cD (λjU=>?_) λjU=>?_
  ·refine bK ?_;refine ai rfl (arO aB (hI1.mono (gL [_,_] F)) aB (hI2.mono (gL [_,_] F)) j_ xC) (aF ?_);exact aL C6
  ·refine bF ?_;exact aL C6
 ·refine b7 ?_;refine aq (L':=F) (.s2 (.refl _)) (aF ?_);exact⟨rfl,rfl⟩
theorem apL{x:aJ}{t:cm}(h:t∈trm x):t≠[]:=by
 rcases dz.1 ((sk _ _).1 h)with h|h
 ·have:=(MK h).1;intro e;rw[e]at this;simp at this
 ·obtain⟨u,hu,rfl⟩:=pC.1 h;simp
theorem aj3{f:Nat->List cm}{n q:Nat}{s:cm}:q∈PS f n s↔q<n∧s∈f q:=by
 unfold PS;rw[CE,pj];simp
theorem NF{f:Nat->List cm}{n:Nat}{s:cm}:s∈sI f n↔∃q,q<n∧s∈f q:=by
 rw[sI,sk,List.mem_flatMap];simp only[pj]
theorem KF{L:List aJ}(hw:dN L<=1048576)(hn:E L<=20000):y9 (E L) (sI (B8 L) (E L)) ((KE (B8 L) (E L)).map λl=>l.map (λ(n:Nat)=>(n:Int))):=by
 have hl:E (sI (B8 L) (E L))<=dN L:=by
  have h1:=vq ((List.range (E L)).flatMap (B8 L));have h2:=Eb L (E L) (gC _);rw[ki]at h2;unfold sI;omega
 have tH:Nh (sI (B8 L) (E L)):=zM _;have hm:∀t∈sI (B8 L) (E L),t≠[]∧E t<=25:=λt h=>by
  obtain⟨q,_,hq⟩:=NF.1 h;exact⟨apL hq,ahw hq⟩
 refine⟨⟨aa,aa⟩,by simp[KE],⟨λi hi=>?_,aa⟩,λx hx=>?_⟩
 ·obtain⟨h1,h2⟩:=hm _ (bj hi []);refine⟨h1,h2,?_⟩;unfold fF;by_cases e:i=0
  ·rw[ao e];exact P4 h1
  ·rw[aw e];refine DI.2 ?_;have:=qK.1 tH (i-1) i aa hi aa;simpa[List.getD,fc hi,fc (show i-1<E (sI (B8 L) (E L)) by omega)]using this
 ·obtain⟨y,hy,rfl⟩:=pC.1 hx;obtain⟨s,hs,rfl⟩:=pC.1 hy;refine⟨λe=>TU.2 (NF.1 hs) (List.map_eq_nil_iff.1 e),(tf _ _).2 λi hi=>⟨(aj3.1 (bj hi 0)).1,λh0=>?_⟩⟩;have hp:(PS (B8 L) (E L) s).Pairwise (· < ·):=List.Pairwise.sublist List.filter_sublist List.pairwise_lt_range;have:=qK.1 hp (i-1) i aa hi aa;simpa[List.getD,fc hi,fc (show i-1<E (PS (B8 L) (E L) s) by omega)]using this
theorem IG{P:Prop}(h:P:=by(have:=qg hn;omega)):P:=h
def o2(o:aN):aN:=(o.1,o.2.1,o.2.2.1,0,0,0)
def ny(L:List aJ):List (bf):=KE (B8 L) (E L)
def nA(L:List aJ):List cm:=sI (B8 L) (E L)
def rq(o:aN)(L:List aJ):al:=(rp o.2.2.1 (E L) (nA L) (mF (ny L))).1
def yN(ns ss:bf)(c i:Nat):al:=aS ns.sum++(aS (E ns)++((ns.zip ss).flatMap (λp=>aS p.1++aS p.2)++(aS c++aS i)))
def fa(o:aN)(L:List aJ):ew:=jS false o.2.1 (dV o false L) L
def pN(L:List aJ):al:=cv (kR L)
def pP(o:aN)(L:List aJ):al:=cv (rq o L)
def qH(o:aN)(L:List aJ):al:=cv (yN (dV o false L) ((fa o L).map List.length) (E (pN L)) (E (pP o L)))
def dj(o:aN)(L:List aJ):al:=(fa o L).flatten++(pN L++(pP o L++(qH o L++fR (E (qH o L)) 4)))
def gb(o:aN)(L:List aJ):al×Int:=if ct 2 (o2 o)≠0 then ([],ct 2 (o2 o)) else if cV L≠0 then ([],cV L) else (dj o L,0)
def ftK(b:al):Nat:=Cs.fixed ⟨b.drop (E b-4),0,0⟩ 4
def ftD(b:al):al×Int:=aH ((b.take (E b-4)).drop (E b-4-ftK b))
def gh(b:al):al×al×Int:=
 if E b<4 then ([],[],1) else if E b-4<ftK b then ([],[],1) else (b.take (E b-4-ftK b),(ftD b).1,(ftD b).2)
def tR(m:Nat):Nat->Cs->bf->bf->bf×bf×Cs
 |0,s,ns,ss=>(ns,ss,s)
 |f+1,s,ns,ss=>if s.e≠0 then (ns,ss,s) else tR m f ((s.bZ m).bZ 8388608) (ns++[s.int m]) (ss++[(s.bZ m).int 8388608])
def Dv(d:al):Nat:=Cs.int ⟨d,0,0⟩ 20000
def dr1(d:al):Cs:=Cs.bZ ⟨d,0,0⟩ 20000
def MZ(d:al):Nat:=(dr1 d).int (Dv d)
def dr2(d:al):Cs:=(dr1 d).bZ (Dv d)
def fq(d:al):bf×bf×Cs:=tR (Dv d) (MZ d) (dr2 d) [] []
def Du(d:al):Nat:=(fq d).2.2.int 8388608
def WA(d:al):Cs:=(fq d).2.2.bZ 8388608
def drI(d:al):Nat:=(WA d).int 8388608
def dr5(d:al):Cs:=((WA d).bZ 8388608).yR
def HW(d:al)(room:Nat):Int:=
 if (dr5 d).e≠0 then (dr5 d).e else if 0∈(fq d).1∨(fq d).1.sum≠Dv d∨(fq d).2.1.sum+Du d+drI d≠room then 2 else 0
def sm:bf->al->ew
 |[],_=>[]
 |n::ss,r=>r.take n::sm ss (r.drop n)
structure iF where
 ns:bf
 ss:bf
 c:Nat
 i:Nat
 times:bf
 levels:al
 T:List cm
 I:List (bf)
 bH:ew
def iF.nil:iF:=⟨[],[],0,0,[],[],[],[],[]⟩
def q_(b:al):al:=(gh b).1
def d_(b:al):al:=(gh b).2.1
def boX(b:al):al:=(q_ b).drop (fq (d_ b)).2.1.sum
def xk(b:al):al:=(boX b).take (Du (d_ b))
def wz(b:al):al:=(boX b).drop (Du (d_ b))
def yE(n:Nat)(ch:al):Int:=
 if (aH ch).2≠0 then (aH ch).2 else if (oM n (aH ch).1).2.2.2≠0 then (oM n (aH ch).1).2.2.2 else if (oM n (aH ch).1).2.2.1<E (aH ch).1 then 2 else 0
def eG(o:aN)(b:al):iF×Int:=
 if ct 2 (o2 o)≠0 then (.nil,ct 2 (o2 o))
 else if (gh b).2.2≠0 then (.nil,(gh b).2.2)
 else if HW (d_ b) (E (q_ b))≠0 then (.nil,HW (d_ b) (E (q_ b)))
 else if yE (fq (d_ b)).1.sum (xk b)≠0 then (.nil,yE (fq (d_ b)).1.sum (xk b))
 else if (aH (wz b)).2≠0 then (.nil,(aH (wz b)).2)
 else if (eW o.2.2.1 ((fq (d_ b)).1.sum:Nat) (aH (wz b)).1).2.2≠0 then (.nil,(eW o.2.2.1 ((fq (d_ b)).1.sum:Nat) (aH (wz b)).1).2.2)
 else (⟨(fq (d_ b)).1,(fq (d_ b)).2.1,Du (d_ b),drI (d_ b),(oM ((fq (d_ b)).1.sum:Nat) (aH (xk b)).1).1,(oM ((fq (d_ b)).1.sum:Nat) (aH (xk b)).1).2.1,
  (eW o.2.2.1 ((fq (d_ b)).1.sum:Nat) (aH (wz b)).1).1,(eW o.2.2.1 ((fq (d_ b)).1.sum:Nat) (aH (wz b)).1).2.1,sm (fq (d_ b)).2.1 (q_ b)⟩,0)
def qo(ts:bf)(lv:al)(a:Nat)(L:List aJ):List aJ:=(List.range (E L)).map λi=>(ts.getD (a+i) 0,lv.getD (a+i) 0,(recAt L i).2.2.1,(recAt L i).2.2.2)
noncomputable def mw(x:iF)(k:Nat):List aJ×Int:=
 if (dP (x.bH.getD k [])).2.2≠0 then ([],(dP (x.bH.getD k [])).2.2)
 else if (dP (x.bH.getD k [])).2.1<E (x.bH.getD k []) then ([],2)
 else if (rE false (dP (x.bH.getD k [])).1).2≠0 then ([],(rE false (dP (x.bH.getD k [])).1).2)
 else if E (rE false (dP (x.bH.getD k [])).1).1≠x.ns.getD k 0 then ([],2)
 else (qo x.times x.levels (x.ns.take k).sum (rE false (dP (x.bH.getD k [])).1).1,0)
noncomputable def oL(x:iF):Nat->Nat->List aJ->List aJ×Int
 |0,_,out=>(out,0)
 |f+1,k,out=>if (mw x k).2≠0 then ([],(mw x k).2) else oL x f (k+1) (out++(mw x k).1)
noncomputable def jH(x:iF):List aJ×Int:=
 if (oL x (E x.bH) 0 []).2≠0 then ([],(oL x (E x.bH) 0 []).2)
 else if cV (oL x (E x.bH) 0 []).1≠0 then ([],cV (oL x (E x.bH) 0 []).1)
 else if¬(x.T=nA (oL x (E x.bH) 0 []).1∧x.I=ny (oL x (E x.bH) 0 []).1) then ([],15)
 else ((oL x (E x.bH) 0 []).1,0)
theorem AK{a b:List (bf)}(h:mF a=mF b):a=b:=
 (List.map_inj_right (f:=λl:bf=>l.map λ(n:Nat)=>(n:Int)) λx y h=>(List.map_inj_right (f:=λ(n:Nat)=>(n:Int)) λm n h=>Int.ofNat.inj h).1 h).1 h
theorem E3(b plain:Bool):∀(ns:bf) (L:List aJ),E (jS b plain ns L)=E ns
 |[],_=>rfl
 |n::ns,L=>by simp[jS,E3 b plain ns]
theorem I'{m:Nat}(hm:m<=20000):∀(ns ss:bf) (s:Cs) (r:al) (an uv:bf),E ns=E ss->s.e=0->(∀n∈ns,n<=m)->(∀n∈ss,n<=8388608)->
  s.rest=(ns.zip ss).flatMap (λp=>aS p.1++aS p.2)++r->∃s',tR m (E ns) s an uv=(an++ns,uv++ss,s')∧oE s s' ((ns.zip ss).flatMap λp=>aS p.1++aS p.2)
 |[],[],s,r,an,uv,_,h0,_,_,_=>⟨s,by simp[tR],oE.nil h0⟩
 |[],_::_,_,_,_,_,h,_,_,_,_=>by simp at h
 |_::_,[],_,_,_,_,h,_,_,_,_=>by simp at h
 |n::ns,k::ss,s,r,an,uv,hl,h0,h1,h2,hr=>by
  have uk:s.rest=aS n++(aS k++((ns.zip ss).flatMap (λp=>aS p.1++aS p.2)++r)):=by rw[hr];simp[bX]
  obtain⟨a1,d1⟩:=Cs.iT (m:=(m:Nat)) h0 (by have:=h1 n ak;omega) aa uk;have wU:=d1.cM uk;obtain⟨a2,d2⟩:=Cs.iT (m:=8388608) d1.e1 (by have:=h2 k ak;omega) aa wU;have hr3:=d2.cM wU;obtain⟨s',e1,e2⟩:=I' hm ns ss _ r (an++[n]) (uv++[k]) wM d2.e1 (λx hx=>h1 x oR) (λx hx=>h2 x oR) hr3;refine⟨s',?_,?_⟩
  ·rw[dI,tR,aw (by simpa using h0),a1,a2,e1];simp[bX]
  ·have:=(d1.trans d2).trans e2;simpa[bX]using this
theorem Kc:∀(fs:ew) (r:al),sm (fs.map List.length) (fs.flatten++r)=fs
 |[],_=>rfl
 |f::fs,r=>by
  rw[kh,sm,w3,bX,zh,CF,Kc fs r]
theorem qg{l:bf}{n:Nat}(h:n∈l):n<=l.sum:=by
 induction l with
 |nil=>cases h
 |cons a r ih=>
  rw[JL];rcases fj.1 h with e|e
  ·subst e;omega
  ·have:=ih e;omega
theorem adQ(fs:ew):E fs.flatten=(fs.map List.length).sum:=List.length_flatten
theorem Li{S:Nat}:∀{g l:bf},D3 S l g->g.sum=E l∧∀n∈g,1<=n
 |[],l,h=>by
  have:l=[]:=h;subst this;exact⟨rfl,λn hn=>by cases hn⟩
 |n::g,l,h=>by
  obtain⟨h1,h2,_,_,h5⟩:=h;obtain⟨i1,i2⟩:=Li h5;rw[iG]at i1;refine⟨by rw[JL,i1];omega,λm hm=>?_⟩;rcases fj.1 hm with e|e
  ·subst e;exact h1
  ·exact i2 m e
theorem Dy(o:aN)(b:Bool)(L:List aJ):(dV o b L).sum=E L∧∀n∈dV o b L,1<=n:=by
 have:=Li (kT o.1.toNat (lens b L))
 rwa [eK]at this
theorem UH(L:List aJ):∀(a n:Nat),a+n<=E L->qo (L.map (·.1)) (lv L) a (((L.drop a).take n).map (norm false))=(L.drop a).take n:=by
 intro a n h;apply jK
 ·simp[qo]
 ·intro i h1 h2;have hi:i<n:=by simp[eY]at h2;omega
  have hl:a+i<E L:=by omega
  simp only[qo,qL,w5,FA,List.getElem_drop];have e1:(L.map (·.1)).getD (a+i) 0=L[a+i].1:=by simp[ba,fc hl]
  have e2:(lv L).getD (a+i) 0=L[a+i].2.1:=by simp[lv,ba,fc hl]
  have e3:recAt (((L.drop a).take n).map (norm false)) i=norm false L[a+i]:=by
   unfold recAt;rw[ba,fc pK];simp
  rw[e1,e2,e3];simp[norm]
theorem JP{S:Nat}(hS:S<=32768){x:iF}{L:List aJ}(hx:∀r∈L,r.fits)(plain:Bool)(h1:x.bH=jS false plain x.ns L)(h2:x.times=L.map (·.1))(h3:x.levels=lv L)(hf0:D3 S (lens false L) x.ns):
  ∀(f k:Nat),k+f=E x.ns->(∀M,D3 S (lens false (L.drop (x.ns.take k).sum)) (x.ns.drop k)->jS false plain (x.ns.drop k) (L.drop (x.ns.take k).sum)=x.bH.drop k->M=L.take (x.ns.take k).sum->oL x f k M=(L,0))
 |0,k,hk,M,hf,Jr,hM=>by
  have:(x.ns.take k)=x.ns:=fC aa;rw[this,(Li hf0).1,eK,ki]at hM;rw[oL,hM]
 |f+1,k,hk,M,hf,Jr,hM=>by
  have Bl:k<E x.ns:=by omega
  obtain⟨a,ha⟩:=cK ((x.ns.take k).sum);obtain⟨n,hn⟩:=cK (x.ns.getD k 0);rw[<-ha]at hf Jr hM;have hd:=dD Bl 0;rw[<-hn]at hd;rw[hd]at hf Jr;obtain⟨f1,f2,f3,f4,f5⟩:=hf;rw[eK,iG]at f2;have yh:=pz hS (b:=false) (λr hr=>hx r (r8 hr)) f1 f3;rw[jS]at Jr;have hfk:x.bH.getD k []=(jY (dm false ((L.drop a).take n)) plain).1:=by
   have:(x.bH.drop k)[0]? =some (jY (dm false ((L.drop a).take n)) plain).1:=by rw[<-Jr];rfl
   rw[k_7,sX]at this;rw[ba,this];rfl
  have hbk:=NG (dm false ((L.drop a).take n)) plain yh [];rw[gl]at hbk;have uM:rE false (dm false ((L.drop a).take n))=(((L.drop a).take n).map (norm false),0):=by
   unfold rE;rw[BV _ ((L.drop a).take n) _ [] rfl (by unfold Cs.left;simp only;omega) (λr hr=>hx r (r8 (my hr))) acH,mW]
  have ye:mw x k=((L.drop a).take n,0):=by
   unfold mw;rw[hfk,hbk];simp only;rw[uM];simp only;rw[aw ak,aw aa,aw ak,aw (by rw[dX,eY,iG,<-hn];omega),h2,h3,<-ha,UH L a n aa]
  have xD:(x.ns.take (k+1)).sum=a+n:=by rw[aY Bl 0,w7,<-ha,<-hn];simp
  rw[oL,ye,aw ak];simp only;refine JP hS hx plain h1 h2 h3 hf0 f (k+1) aa _ ?_ ?_ ?_
  ·rw[xD,<-oi,xI];exact f5
  ·have:(x.bH.drop k).tail=x.bH.drop (k+1):=by rw[List.tail_drop]
   rw[<-this,<-Jr,List.tail_cons,xD,oi]
  ·rw[xD,hM,List.take_add]
theorem AJ{o:aN}{L:List aJ}(ho:ct 2 (o2 o)=0)(hc:cV L=0)(hx:∀x∈L,x.1<18446744073709551616)(hw:dN L<=1048576)(hlen:E (dj o L)<=8388608):
  ∃x,eG o (dj o L)=(x,0)∧x.ns=dV o false L∧jH x=(L,0):=by
 have fy:jB 2 (o2 o):=by
  unfold ct at ho;rw[ao (.inr (.inl rfl))]at ho;exact bA λh=>by rw[aw h]at ho;simp at ho
 obtain⟨⟨m1,m2⟩,_,m4,_,_⟩:=fy;obtain⟨m5,m6⟩:=m4 (.inr rfl);have m1:16<=o.1:=m1;have m2:o.1<=32768:=m2;have m5:1<=o.2.2.1:=m5;have m6:o.2.2.1<=64:=m6;have uh:E L<=20000∧(∀x∈L,x.fits):=by
  unfold cV at hc;have:¬(20000<E L∨(∃x∈L,u5 x)∨1048576<dN L):=λh=>by rw[ao h]at hc;simp at hc
  refine⟨aa,λx h=>⟨hx x h,?_,?_⟩⟩
  ·exact wY λk=>this (.inr (.inl ⟨x,h,.inl k⟩))
  ·exact wY λk=>this (.inr (.inl ⟨x,h,.inr k⟩))
 obtain⟨hl,hL⟩:=uh;obtain⟨sz,jg⟩:∃sz:Nat,o.2.2.1=sz:=⟨o.2.2.1.toNat,aa⟩
 obtain⟨RP,Tn⟩:=Dy o false L;have H9:=kT o.1.toNat (lens false L);have DC:E (dV o false L)<=E L:=by unfold dV;have:=nD o.1.toNat (lens false L);rwa [eK]at this
 obtain⟨fl,lg⟩:=cK ((fa o L).flatten);obtain⟨cs,ui⟩:=cK (pN L);obtain⟨ix,hix⟩:=cK (pP o L);obtain⟨dr,hdr⟩:=cK (qH o L);obtain⟨b,hb⟩:=cK (dj o L);have Bk:b=fl++(cs++(ix++(dr++fR (E dr) 4))):=by rw[hb,lg,ui,hix,hdr];rfl
 have di:E b=E fl+E cs+E ix+E dr+4:=by rw[Bk];simp;omega
 rw[<-hb]at hlen;have asq:E fl=((fa o L).map List.length).sum:=by rw[lg,adQ]
 have hk:ftK b=E dr:=by
  have e:b.drop (E b-4)=fR (E dr) 4:=by
   have:b=(fl++(cs++(ix++dr)))++fR (E dr) 4:=by rw[Bk];simp[bX]
   rw[this];exact mo bT
  unfold ftK Cs.fixed;rw[e,aw aa];have ht:Cs.take ⟨fR (E dr) 4,0,0⟩ 4=fR (E dr) 4:=by
   have:=(Cs.mZ (s:=⟨fR (E dr) 4,0,0⟩) (t:=fR (E dr) 4) (r:=[]) rfl (n:=4) ak acH).1;exact this
  rw[ht,FJ];exact jh aa
 have hbt:b.take (E b-4)=(fl++(cs++ix))++dr:=by
  have:b=((fl++(cs++ix))++dr)++fR (E dr) 4:=by rw[Bk];simp[bX]
  rw[this];exact lA bT
 have hft:gh b=(fl++(cs++ix),yN (dV o false L) ((fa o L).map List.length) (E cs) (E ix),0):=by
  have e1:(b.take (E b-4)).drop (E b-4-ftK b)=dr:=by
   rw[hbt,hk];exact mo bT
  have e2:b.take (E b-4-ftK b)=fl++(cs++ix):=by
   have:b=(fl++(cs++ix))++(dr++fR (E dr) 4):=by rw[Bk];simp[bX]
   rw[hk]
   conv=>lhs;arg 2;rw[this]
   exact lA bT
  have e3:ftD b=(yN (dV o false L) ((fa o L).map List.length) (E cs) (E ix),0):=by
   unfold ftD;rw[e1,hdr,ui,hix];exact iq _
  unfold gh;rw[aw aa,aw (by rw[hk];omega),e2,e3]
 obtain⟨D,hD⟩:=cK (yN (dV o false L) ((fa o L).map List.length) (E cs) (E ix));have r0:Cs.rest ⟨D,0,0⟩=aS (dV o false L).sum++(aS (E (dV o false L))++(((dV o false L).zip ((fa o L).map List.length)).flatMap (λp=>aS p.1++aS p.2)++(aS (E cs)++aS (E ix)))):=by
  unfold Cs.rest;rw[rr,hD];rfl
 obtain⟨n1,d1⟩:=Cs.iT (m:=20000) rfl aa aa r0;have r1:=d1.cM r0;have eR:Dv D=E L:=by unfold Dv;rw[n1,RP]
 obtain⟨n2,d2⟩:=Cs.iT (m:=(E L:Nat)) d1.e1 aa aa r1;have r2:=d2.cM r1;have eB:MZ D=E (dV o false L):=by unfold MZ dr1;rw[eR];exact n2
 have e2:dr2 D=(Cs.bZ ⟨D,0,0⟩ 20000).bZ (E L:Nat):=by unfold dr2 dr1;rw[eR]
 obtain⟨s3,h3,d3⟩:=I' (m:=E L) hl (dV o false L) ((fa o L).map List.length) _ _ [] [] (by rw[dX];unfold fa;rw[E3]) d2.e1 (λn hn=>IG) (λn hn=>IG) r2;have e3:fq D=(dV o false L,(fa o L).map List.length,s3):=by unfold fq;rw[eR,eB,e2,h3];simp
 have r3:=d3.cM r2;obtain⟨n4,d4⟩:=Cs.iT (x:=E cs) (m:=8388608) d3.e1 aa aa r3;have r4:=d4.cM r3;obtain⟨n5,d5⟩:=Cs.iT (x:=E ix) (m:=8388608) d4.e1 aa aa (r:=[]) (by rw[gl];exact r4);have eC:Du D=E cs:=by unfold Du;rw[e3];exact n4
 have e4:WA D=s3.bZ 8388608:=by unfold WA;rw[e3]
 have eI:drI D=E ix:=by unfold drI;rw[e4];exact n5
 have e5:(dr5 D).e=0:=by
  unfold dr5;rw[e4];exact Cs.adF d5.e1 (d5.cM (by rw[gl];exact r4))
 have hdE:HW D (E (fl++(cs++ix)))=0:=by
  unfold HW;rw[e5,aw ak,e3,eR,eC,eI];refine aw λh=>?_;rcases h with h|h|h
  ·have:=Tn 0 h;omega
  ·exact h RP
  ·apply h;simp only[aX];omega
 have hbx:boX b=cs++ix:=by
  unfold boX q_ d_;rw[hft];simp only;rw[<-hD,e3];simp only;exact mo asq
 have hbc:xk b=cs:=by
  unfold xk d_;rw[hbx,hft];simp only;rw[<-hD,eC];exact lA rfl
 have hbi:wz b=ix:=by
  unfold wz d_;rw[hbx,hft];simp only;rw[<-hD,eC];exact mo rfl
 have hcc:aH cs=(kR L,0):=by rw[ui];exact iq _
 have hci:aH ix=(rq o L,0):=by rw[hix];exact iq _
 have Tv:oM ((E L:Nat):Int) (kR L)=(L.map (·.1),lv L,E (kR L),0):=by
  have:=Zt hx hl []
  rwa [gl]at this
 have hio:=KF hw hl;obtain⟨bn,N,auI,ajx,hN,hRT,W9,hNI⟩:=Fj hio;have hbn:bn=E L:=by omega
 subst hbn;have hNe:N=ny L:=by
  have:mF N=mF (ny L):=by rw[<-hN];rfl
  exact AK this
 subst hNe;have hxe:rq o L=fY sz (nA L)++(ny L).flatMap (sC (E L)):=by
  unfold rq;rw[jg,JE (T:=nA L) (I:=ny L) aa aa ajx hRT W9 hNI]
 have hir:eW o.2.2.1 ((E L:Nat):Int) (rq o L)=(nA L,ny L,0):=by
  rw[hxe,jg];exact ae1 (T:=nA L) (I:=ny L) aa aa ajx hRT W9 hNI
 have yZ:yE (dV o false L).sum cs=0:=by
  unfold yE;rw[hcc,RP];simp only;rw[Tv];simp
 refine⟨⟨dV o false L,(fa o L).map List.length,E cs,E ix,L.map (·.1),lv L,nA L,ny L,fa o L⟩,?_,rfl,?_⟩
 ·have DA:q_ b=fl++(cs++ix):=by unfold q_;rw[hft]
  have RK:d_ b=D:=by unfold d_;rw[hft,hD]
  rw[<-hb];unfold eG;rw[ho,aw ak,hft];simp only;rw[aw ak,DA,RK,hdE,aw ak,e3,hbc,hbi];simp only;rw[yZ,aw ak,hci];simp only;rw[aw ak,RP,hir];simp only;rw[aw ak,eC,eI,hcc];simp only;rw[Tv,lg,Kc]
 ·have O9:oL ⟨dV o false L,(fa o L).map List.length,E cs,E ix,L.map (·.1),lv L,nA L,ny L,fa o L⟩ (E (fa o L)) 0 []=(L,0):=
   JP (S:=o.1.toNat) aa hL o.2.1 rfl rfl rfl H9 (E (fa o L)) 0 (by simp only[lV];unfold fa;rw[E3]) [] (by simp only[zl,List.sum_nil,rr];exact H9) (by simp[fa]) ak
  unfold jH;simp only;rw[O9];simp only;rw[aw ak,hc,aw ak,aw ak]
def xa(o:aN)(n:Nat):al:=
 (ef++[3])++([fS o.2.1,UInt8.ofNat o.2.2.1.toNat,UInt8.ofNat o.2.2.2.1.toNat,UInt8.ofNat o.2.2.2.2.1.toNat]++(fR o.2.2.2.2.2.toNat 2++(fR o.1.toNat 2++fR n 4)))
def jf(o:aN)(n:Nat):al:=cv (xa o n)
def ej(o:aN)(b:al):al×Int:=lZ o.2.2.2.1.toNat o.2.2.2.2.1.toNat o.2.2.2.2.2.toNat b
def je(o:aN)(b:al):al:=jf o (E b)++((ej o b).1++jf o (E b))
def sr(o:aN)(L:List aJ):al×Int:=
 if ct 3 o≠0 then ([],ct 3 o) else if (gb o L).2≠0 then ([],(gb o L).2) else if (ej o (dj o L)).2≠0 then ([],(ej o (dj o L)).2) else (je o (dj o L),0)
def rb(c:al):Prop:=(aH c).2=0∧(marked c).2=0∧(marked c).1=3
instance (c:List UInt8):Decidable (rb c):=inferInstanceAs (Decidable (_∧_∧_))
def eh(b:al):al×Int:=
 if E b<42 then ([],1) else if rb (b.take 21) then (b.take 21,0) else if rb (b.drop (E b-21)) then (b.drop (E b-21),0) else ([],5)
def DE(c:al):Cs:=⟨c.drop 5,0,0⟩
def lK(c:al):Cs:=(DE c).e_
def j_(c:al):Cs:=(lK c).e_
def xC(c:al):Cs:=(j_ c).e_
def M6(c:al):Cs:=(xC c).e_
def hs5(c:al):Cs:=(M6 c).lJ 2
def hs6(c:al):Cs:=(hs5 c).lJ 2
def Cz(c:al):UInt8:=(DE c).byte
def hO(c:al):aN:=((((hs5 c).fixed 2:Nat):Int),decide ((Cz c).toNat=1),((lK c).byte.toNat:Int),((j_ c).byte.toNat:Int),((xC c).byte.toNat:Int),(((M6 c).fixed 2:Nat):Int))
def hN(c:al):Nat:=(hs6 c).fixed 4
def hE(c:al):Int:=if 1<(Cz c).toNat then 2 else ct 3 (hO c)
noncomputable def Ah(b:al):al×bf×Int:=jW (hO (eh b).1).2.2.2.1.toNat (hO (eh b).1).2.2.2.2.1.toNat (hO (eh b).1).2.2.2.2.2.toNat (hN (eh b).1) ((b.take (E b-21)).drop 21)
def yY(b:al):Nat:=if b.take 21=b.drop (E b-21) then 0 else 1
noncomputable def cI(b:al):aN×al×Nat×Int:=
 if (eh b).2≠0 then (iV,[],0,(eh b).2) else if hE (eh b).1≠0 then (iV,[],0,hE (eh b).1)
 else if (Ah b).2.2≠0 then (iV,[],0,(Ah b).2.2) else (hO (eh b).1,(Ah b).1,E (Ah b).2.1+yY b,0)
noncomputable def zR(b:al):al×Nat×Int:=
 if (cI b).2.2.2≠0 then ([],0,(cI b).2.2.2) else if (ej (cI b).1 (cI b).2.1).2≠0 then ([],0,(ej (cI b).1 (cI b).2.1).2)
 else (je (cI b).1 (cI b).2.1,(cI b).2.2.1,0)
noncomputable def g_(b:al):aN×iF×Nat×Int:=
 if (cI b).2.2.2≠0 then (iV,.nil,0,(cI b).2.2.2)
 else if (eG (cI b).1 (cI b).2.1).2≠0 then (iV,.nil,0,(eG (cI b).1 (cI b).2.1).2)
 else ((cI b).1,(eG (cI b).1 (cI b).2.1).1,(cI b).2.2.1,0)
noncomputable def jI(b:al):aN×List aJ×Nat×Nat×Int:=
 if (g_ b).2.2.2≠0 then (iV,[],0,0,(g_ b).2.2.2) else if (jH (g_ b).2.1).2≠0 then (iV,[],0,0,(jH (g_ b).2.1).2)
 else ((g_ b).1,(jH (g_ b).2.1).1,E (g_ b).2.1.ns,(g_ b).2.2.1,0)
theorem jC{o:aN}(ho:ct 3 o=0):jB 3 o∧ct 2 (o2 o)=0:=by
 have fy:jB 3 o:=by
  unfold ct at ho;rw[ao (.inr (.inr rfl))]at ho;exact bA λh=>by rw[aw h]at ho;simp at ho
 refine⟨fy,?_⟩;obtain⟨h1,_,h3,_,_⟩:=fy;unfold ct;rw[ao (.inr (.inl rfl)),ao];exact⟨h1,λh=>absurd h aa,λ_=>h3 (.inl rfl),λ_=>⟨rfl,rfl,rfl⟩,λh=>absurd h aa⟩
theorem Cs.Bb{s:Cs}{x k:Nat}{r:al}(h0:s.e=0)(h1:1<=k)(h8:k<=8)(hx:x<2^(8*k))(hr:s.rest=fR x k++r):s.fixed k=x∧oE s (s.lJ k) (fR x k):=by
 obtain⟨a,d⟩:=Cs.mZ (n:=(k:Nat)) h0 ak hr;unfold Cs.fixed Cs.lJ;rw[aw aa,aw aa,a,FJ];exact⟨jh hx,d⟩
theorem te{x:Nat}(h:x<256):(UInt8.ofNat x).toNat=x:=by rw[tX];exact jh h
theorem zS(o:aN)(n:Nat):E (jf o n)=21:=by
 unfold jf xa;rw[dA];simp[ef]
theorem QZ(o:aN)(n:Nat):rb (jf o n):=by
 have hmk:marked (jf o n)=(3,0):=by
  have:=mr (v:=3) D8 (([fS o.2.1,UInt8.ofNat o.2.2.1.toNat,UInt8.ofNat o.2.2.2.1.toNat,UInt8.ofNat o.2.2.2.2.1.toNat]++(fR o.2.2.2.2.2.toNat 2++(fR o.1.toNat 2++fR n 4)))++jP (ma 0 (xa o n)));rw[<-this];congr 1
 refine⟨?_,by rw[hmk],by rw[hmk]⟩;unfold jf;rw[iq]
theorem Kj{o:aN}{n:Nat}(ho:ct 3 o=0)(hn:n<4294967296):hE (jf o n)=0∧hO (jf o n)=o∧hN (jf o n)=n:=by
 obtain⟨fy,_⟩:=jC ho;obtain⟨⟨m1,m2⟩,m3,m4,_,_⟩:=fy;obtain⟨⟨k1,k2⟩,⟨k3,k4⟩,⟨k5,k6⟩⟩:=m3 rfl;obtain⟨m5,m6⟩:=m4 (.inl rfl);obtain⟨x,hx⟩:=cK ((jf o n).drop 5);have r0:(DE (jf o n)).rest=fS o.2.1::(UInt8.ofNat o.2.2.1.toNat::(UInt8.ofNat o.2.2.2.1.toNat::(UInt8.ofNat o.2.2.2.2.1.toNat::(fR o.2.2.2.2.2.toNat 2++(fR o.1.toNat 2++(fR n 4++jP (ma 0 (xa o n)))))))):=by
  unfold DE Cs.rest jf cv xa;simp[ef]
 obtain⟨n1,d1⟩:=Cs.mE (s:=DE (jf o n)) rfl r0;have r1:(lK (jf o n)).rest=_:=d1.cM (p:=[fS o.2.1]) r0;obtain⟨n2,d2⟩:=Cs.mE (s:=lK (jf o n)) d1.e1 r1;have r2:(j_ (jf o n)).rest=_:=d2.cM (p:=[UInt8.ofNat o.2.2.1.toNat]) r1;obtain⟨n3,d3⟩:=Cs.mE (s:=j_ (jf o n)) d2.e1 r2;have r3:(xC (jf o n)).rest=_:=d3.cM (p:=[UInt8.ofNat o.2.2.2.1.toNat]) r2;obtain⟨n4,d4⟩:=Cs.mE (s:=xC (jf o n)) d3.e1 r3;have r4:(M6 (jf o n)).rest=_:=d4.cM (p:=[UInt8.ofNat o.2.2.2.2.1.toNat]) r3;obtain⟨n5,d5⟩:=Cs.Bb (s:=M6 (jf o n)) (k:=2) d4.e1 aa aa aa r4;have r5:(hs5 (jf o n)).rest=_:=d5.cM r4;obtain⟨n6,d6⟩:=Cs.Bb (s:=hs5 (jf o n)) (k:=2) d5.e1 aa aa aa r5;have r6:(hs6 (jf o n)).rest=_:=d6.cM r5;obtain⟨n7,d7⟩:=Cs.Bb (s:=hs6 (jf o n)) (k:=4) d6.e1 aa aa aa r6;have ePl:Cz (jf o n)=fS o.2.1:=n1;have lg:(fS o.2.1).toNat<=1∧(decide ((fS o.2.1).toNat=1)=o.2.1):=by cases o.2.1<;>exact⟨ax,ax⟩
 have eO:hO (jf o n)=o:=by
  unfold hO;rw[ePl,lg.2,n2,n3,n4,te aa,te aa,te aa];rw[show(M6 (jf o n)).fixed 2=_ from n5,show(hs5 (jf o n)).fixed 2=_ from n6];obtain⟨a,b,c,d,e,f⟩:=o;simp only at m1 m2 m5 m6 k1 k2 k3 k4 k5 k6⊢;rw[CL aa,CL aa,CL aa,CL aa,CL aa]
 refine⟨?_,eO,n7⟩;unfold hE;rw[ePl,aw aa,eO,ho]
theorem B7{o:aN}{b:al}(ho:ct 3 o=0)(hl:(ej o b).2=0):cI (je o b)=(o,b,0,0):=by
 have hlen:E b<=8388608:=by
  refine bA λh=>?_;have:(ej o b).2=13:=by
   unfold ej lZ yi;rw[ao (show 8388608<E b by omega),ao ax]
  omega
 obtain⟨fy,_⟩:=jC ho;obtain⟨_,m3,_⟩:=fy;obtain⟨⟨k1,k2⟩,⟨k3,k4⟩,⟨k5,k6⟩⟩:=m3 rfl;obtain⟨e1,e2,e3⟩:=Kj (n:=E b) ho aa;have hH:=zS o (E b);obtain⟨H,hHd⟩:=cK (jf o (E b));obtain⟨l,y8⟩:=cK ((ej o b).1);have hA:je o b=H++(l++H):=by unfold je;rw[<-hHd,<-y8]
 rw[<-hHd]at hH e1 e2 e3;have hAl:E (je o b)=42+E l:=by rw[hA];simp only[aX];omega
 have Ly:(je o b).take 21=H:=by rw[hA];exact lA hH
 have Xa:(je o b).drop (E (je o b)-21)=H:=by rw[hAl,hA,<-bX];exact mo rG
 have H':((je o b).take (E (je o b)-21)).drop 21=l:=by
  rw[hAl,hA,<-bX,lA rG];exact mo hH
 have Tg:eh (je o b)=(H,0):=by
  unfold eh;rw[aw aa,Ly,ao (by rw[hHd];exact QZ _ _)]
 have uM:Ah (je o b)=(b,[],0):=by
  unfold Ah;rw[Tg,H'];simp only;rw[e2,e3,y8];exact ae_ aa aa hl
 have hd:yY (je o b)=0:=by unfold yY;rw[Ly,Xa,ao rfl]
 unfold cI;rw[Tg];simp only;rw[aw ak,e1,aw ak,uM,aw ak,e2,hd];rfl
theorem U6{o:aN}{L:List aJ}(ho:ct 3 o=0)(hc:cV L=0)(hx:∀x∈L,x.1<18446744073709551616)(hw:dN L<=1048576)(hl:(ej o (dj o L)).2=0):
  jI (je o (dj o L))=(o,L,E (dV o false L),0,0):=by
 have hlen:E (dj o L)<=8388608:=by
  refine bA λh=>?_;have:(ej o (dj o L)).2=13:=by
   unfold ej lZ yi;rw[ao (show 8388608<E (dj o L) by omega),ao ax]
  omega
 obtain⟨x,h1,h2,h3⟩:=AJ (o:=o) (jC ho).2 hc hx hw hlen;have hM:=B7 ho hl;have hO:g_ (je o (dj o L))=(o,x,0,0):=by
  unfold g_;rw[hM];simp only;rw[aw ak,h1];simp
 unfold jI;rw[hO];simp only;rw[aw ak,h3,aw ak,h2]
def oZ(o:aN):al:=(ef++[2])++(aS o.1.toNat++(fS o.2.1::aS o.2.2.1.toNat))
def tr(o:aN):al:=cv (oZ o)
def qD(o:aN)(L:List aJ):al:=tr o++dj o L
def wI(o:aN)(L:List aJ):al×Int:=if ct 2 o≠0 then ([],ct 2 o) else if (gb o L).2≠0 then ([],(gb o L).2) else (qD o L,0)
def th1(b:al):Cs:=Cs.cj ⟨b,0,0⟩ 5
def th2(b:al):Cs:=(th1 b).bZ 32768
def abF(b:al):UInt8:=(th2 b).byte
def Yx(b:al):Cs:=if 1<(abF b).toNat then (th2 b).e_.failed 2 else (th2 b).e_
def th4(b:al):Cs:=(Yx b).bZ 64
def CV(b:al):Cs:=(th4 b).cj 4
def CW(b:al):aN:=(((th1 b).int 32768:Nat),decide ((abF b).toNat=1),((Yx b).int 64:Nat),0,0,0)
def sD(b:al):Nat×Int:=
 if (CV b).e≠0 then (0,(CV b).e) else if (aH (b.take (CV b).at_)).2≠0 then (0,(aH (b.take (CV b).at_)).2) else ((CV b).at_,ct 2 (CW b))
def iE(b:al):aN×iF×Int:=
 if (marked b).2≠0 then (iV,.nil,(marked b).2) else if (marked b).1≠2 then (iV,.nil,4)
 else if (sD b).2≠0 then (iV,.nil,(sD b).2)
 else if (eG (CW b) (b.drop (sD b).1)).2≠0 then (iV,.nil,(eG (CW b) (b.drop (sD b).1)).2)
 else (CW b,(eG (CW b) (b.drop (sD b).1)).1,0)
noncomputable def m7(b:al):aN×List aJ×Nat×Int:=
 if (iE b).2.2≠0 then (iV,[],0,(iE b).2.2) else if (jH (iE b).2.1).2≠0 then (iV,[],0,(jH (iE b).2.1).2)
 else ((iE b).1,(jH (iE b).2.1).1,E (iE b).2.1.ns,0)
theorem DN{o:aN}(ho:ct 2 o=0):jB 2 o∧o2 o=o:=by
 have fy:jB 2 o:=by
  unfold ct at ho;rw[ao (.inr (.inl rfl))]at ho;exact bA λh=>by rw[aw h]at ho;simp at ho
 refine⟨fy,?_⟩;obtain⟨_,_,_,m5,_⟩:=fy;obtain⟨k1,k2,k3⟩:=m5 aa;obtain⟨a,b,c,d,e,f⟩:=o;simp only at k1 k2 k3;subst k1;subst k2;subst k3;rfl
theorem ahE{o:aN}{L:List aJ}(ho:ct 2 o=0)(hc:cV L=0)(hx:∀x∈L,x.1<18446744073709551616)(hw:dN L<=1048576)(hlen:E (dj o L)<=8388608):
  m7 (qD o L)=(o,L,E (dV o false L),0):=by
 obtain⟨fy,he⟩:=DN ho;obtain⟨⟨m1,m2⟩,_,m4,_,_⟩:=fy;obtain⟨m5,m6⟩:=m4 (.inr rfl);obtain⟨x,h1,h2,h3⟩:=AJ (o:=o) (by rw[he];exact ho) hc hx hw hlen;obtain⟨b,hb⟩:=cK (qD o L);have hmk:marked b=(2,0):=by
  have:=mr (v:=2) D8 ((aS o.1.toNat++(fS o.2.1::aS o.2.2.1.toNat))++(jP (ma 0 (oZ o))++dj o L));rw[<-this,hb];congr 1;unfold qD tr cv oZ;show _=(ef++[2])++_;simp[bX]
 have r0:Cs.rest ⟨b,0,0⟩=(ef++[2])++(aS o.1.toNat++(fS o.2.1::(aS o.2.2.1.toNat++(jP (ma 0 (oZ o))++dj o L)))):=by
  unfold Cs.rest;rw[rr,hb];unfold qD tr cv oZ;simp[bX]
 obtain⟨_,d1⟩:=Cs.mZ (n:=5) rfl rfl r0;have r1:=d1.cM r0;obtain⟨n2,d2⟩:=Cs.iT (m:=32768) d1.e1 aa aa r1;have r2:=d2.cM r1;obtain⟨n3,d3⟩:=Cs.mE d2.e1 r2;have r3:=d3.cM (p:=[fS o.2.1]) r2;obtain⟨n4,d4⟩:=Cs.iT (m:=64) d3.e1 aa aa r3;have r4:=d4.cM r3;obtain⟨_,d5⟩:=Cs.mZ (n:=4) d4.e1 rfl r4;have lg:(fS o.2.1).toNat<=1∧(decide ((fS o.2.1).toNat=1)=o.2.1):=by cases o.2.1<;>exact⟨ax,ax⟩
 have e2:th2 b=(Cs.cj ⟨b,0,0⟩ 5).bZ 32768:=rfl;have ePl:abF b=fS o.2.1:=by unfold abF;rw[e2];exact n3
 have e3:Yx b=((Cs.cj ⟨b,0,0⟩ 5).bZ 32768).e_:=by unfold Yx;rw[ePl,aw aa,e2]
 have e4:th4 b=(((Cs.cj ⟨b,0,0⟩ 5).bZ 32768).e_).bZ 64:=by unfold th4;rw[e3]
 have eO:CW b=o:=by
  unfold CW;rw[show th1 b=Cs.cj ⟨b,0,0⟩ 5 from rfl,n2,ePl,lg.2,e3,n4]
  conv=>rhs;rw[<-he]
  unfold o2;congr 1
  ·omega
  ·congr 1;congr 1;omega
 have kU:=(((d1.trans d2).trans d3).trans d4).trans d5;have Xd:((ef++[2]:al)++aS o.1.toNat++[fS o.2.1]++aS o.2.2.1.toNat++jP (ma 0 (oZ o)))=tr o:=by unfold tr cv oZ;simp[bX]
 have e5:CV b=⟨b,E (tr o),0⟩:=by
  unfold CV;rw[e4,kU.eq,Xd];simp
 have hbt:b.take (E (tr o))=tr o:=by rw[hb];exact lA rfl
 have RK:b.drop (E (tr o))=dj o L:=by rw[hb];exact mo rfl
 have hcut:aH (tr o)=(oZ o,0):=iq _;have eE:sD b=(E (tr o),0):=by
  unfold sD;rw[e5];simp only;rw[hbt,hcut,aw ak,aw ak,eO,ho]
 have eOp:iE b=(o,x,0):=by
  unfold iE;rw[hmk];simp only;rw[aw ak,aw ak,eE];simp only;rw[aw ak,RK,eO,h1];simp
 unfold m7;rw[<-hb,eOp];simp only;rw[aw ak,h3,aw ak,h2]
theorem aqy{P:Prop}(h:P:=by(first|exact λh=>absurd h.1 (by omega)|exact⟨λh=>⟨by omega,h⟩,λh=>h.2⟩)):P:=h
theorem aqs{P:Prop}(h:P:=by(exact dR (by first|exact λh=>absurd h.1 (by omega)|exact⟨λh=>⟨by omega,h⟩,λh=>h.2⟩))):P:=h
theorem oA(x lo hi:Int):aZ B w0 115 [ah x,ah lo,ah hi] F (λr L=>r= .bool (decide (DW x lo hi))∧L=F):=by
 refine fw func115 15 [0,1,2] ?_;refine bI ?_;refine bR 8 14 [] (DW x lo hi) ?_ ?_
 ·refine b7 ?_;refine cD (λjU=>?_) λjU=>?_
  ·refine bB ?_;exact aL (by exact dG aqy)
  ·refine bE ?_;exact aL aqs
 ·refine bF ?_;exact⟨rfl,rfl⟩
theorem abx(o:aN):aZ B w0 116 [.agg (aN.cells o).toArray] F (λr L=>r= .bool (decide (Mw o))∧L=F):=by
 obtain⟨bl,pl,bu,da,pa,ch⟩:=o;refine b_ func116 19 rfl rfl rfl [(0,.agg #[ah bl,.bool pl,ah bu,ah da,ah pa,ah ch])] ⟨⟨rfl,rfl⟩,trivial⟩ ?_;refine bc ?_;refine bg λg1=>?_;refine bI ?_;refine ai rfl (oA da 1 255) (aF ?_);refine cD (λh6=>?_) λh6=>?_
 ·have hwd:1<=da∧da<=255:=h6;refine bz ?_;refine ai rfl (oA pa 0 (255-da)) (bc ?_);refine cD (λku=>?_) λku=>?_
  ·refine b7 ?_;refine ai rfl (oA ch 1 4096) (bc ?_);refine ve [2] ?_;refine bc ?_;refine aq (L':=F) (.skip (.refl _)) (aF ?_);exact⟨dQ Value.bool (zj.2 ⟨λh=>⟨h6,ku,h⟩,λh=>h.2.2⟩),rfl⟩
  ·refine b7 ?_;refine ve [2] ?_;refine bc ?_;refine aq (L':=F) (.skip (.refl _)) (aF ?_);exact⟨dQ Value.bool (oq (λh=>ku h.2.1)).symm,rfl⟩
 ·refine cF ?_;refine ve [2] ?_;refine bc ?_;refine aq (L':=F) (.skip (.refl _)) (aF ?_);exact⟨dQ Value.bool (oq (λh=>h6 h.1)).symm,rfl⟩
theorem u9(hb:fo B w0 F A c l)(hl:E l<=1099511627776):
  aZ B w0 107 [.slice A (E l) c] F (λr L=>r= .tuple #[ah (marked l).1,ah (marked l).2]∧L=F):=by
 refine dU.yw hb λnZ _=>?_;refine fw func107 29 [0] ?_;refine E' ?_;refine aj (λh5=>?_) λh5=>?_
 ·have e:marked l=(0,1):=ao aa;rw[e];refine bz ?_;exact⟨rfl,rfl⟩
 ·have h4:4<E l:=by omega
  have uh:=(l.getD 4 0).toNat_lt;have xz:=hb.jv (k:=4) aa;have hd2:(bv l).take (4*1)=bv (l.take 4):=by simp[bv,p_]
  rw[hd2]at xz;have hv1:(bv l)[4*1]? =some (.int .u8 ((l.getD 4 0).toNat:Int)):=by simp[bv,List.getD,fc h4]
  refine b7 ?_;refine ab (bV (i:=4) (size:=1) underlying27 ag rfl rfl rfl aa) rfl (ab (pT underlying27 underlying5 underlying9 rfl aB) rfl (b7 ?_));refine aj (λjU=>?_) λjU=>?_
  ·have e:marked l=(0,3):=by unfold marked;rw[aw aa,ao (λh=>jU (by rw[h];rfl))]
   rw[e];refine bz ?_;exact⟨rfl,rfl⟩
  ·have jU:l.take 4=ef:=jN.1 jU;refine b7 ?_;refine ab (aE (i:=4) (size:=1) underlying27 ag rfl rfl rfl aa aB) rfl ?_;refine ab (au ag rfl aB aa hv1) rfl (aF ?_);refine ai rfl (oA ((l.getD 4 0).toNat:Int) 1 3) (bc ?_);refine ve [0,4,16] ?_;refine aF ?_;refine aj (λlf=>?_) λlf=>?_
   ·have e:marked l=(0,4):=by unfold marked;rw[aw aa,aw (λh=>h jU),ao lf]
    rw[e];refine bz ?_;exact⟨rfl,rfl⟩
   ·have e:marked l=(((l.getD 4 0).toNat:Int),0):=by unfold marked;rw[aw aa,aw (λh=>h jU),aw lf]
    rw[e];refine bI ?_;refine ab (aE (i:=4) (size:=1) underlying27 ag rfl rfl rfl aa aB) rfl ?_;refine ab (au ag rfl aB aa hv1) rfl (bI ?_);exact⟨rfl,rfl⟩
section
section
variable{C:Cx}{fr:Fr}{L:aR}{x y:Operand}{f:Ch->aR}{t e ty:TypeId}{k:IntKind}{m n:Int}{v:Value}
theorem u7(z:Array Value):∀(nn:Nat),(madeCells z (nn*z.size)).toList=(List.replicate nn z.toList).flatten
 |0=>by simp[madeCells]
 |nn+1=>by
  have ih:=u7 z nn;rw[List.replicate_succ',List.flatten_append,<-ih];simp only[w3,List.flatten_nil,gl];apply jK
  ·simp[madeCells,kH]
  ·intro i h1 h2;simp only[madeCells,Array.toList_map,Array.toList_range,qL,w5];by_cases hi:i<nn*z.size
   ·rw[List.getElem_append_left (by simpa[madeCells]using hi)];simp
   ·have hz:i<(nn+1)*z.size:=by simpa[madeCells]using h1
    rw[kH]at hz;rw[List.getElem_append_right bT];obtain⟨j,rfl⟩:∃j,i=nn*z.size+j:=⟨i-nn*z.size,aa⟩
    have hj:j<z.size:=by omega
    simp only[dX,uR,zc,jL nn,Nat.mul_add_mod,jh hj];simp[getElem!_pos,hj]
theorem Jc{size bytes:Nat}{zv:Value}(T:tA C.P t e size bytes zv){k':IntKind}{nn cc:Nat}(he:ev fr x=some (.int k m))(hm:m=(nn:Int))(hy:ev fr y=some (.int k' n))(hn:n=(cc:Int))(hle:nn<=cc)(kx:bytes*cc<=281474976710656)(yd:cc<=281474976710656):
  q8 C fr L (.makeSlice t x y) ty (λp L'=>∃A,p= .slice A nn cc∧L'= .own e size A nn cc (List.replicate nn zv.cells.toList).flatten::L):=λa w ha hw d pos af gg=>by
 subst hm;subst hn;obtain⟨i,hi,hz,jg,Fc⟩:=T.hi;have hr:=run_make (P:=C.P) w t e i zv T.ht hi hz k k' (nn:Int) (cc:Int) aa aa (by rw[Fc,<-zi];omega) aa;simp only[oo,jg]at hr;have hzs:=T.hz;have lg:∀q:Nat,E ((List.replicate q zv.cells.toList).flatten)=q*size:=λq=>by
  rw[List.length_flatten,List.map_replicate,List.sum_replicate_nat,LO,hzs]
 refine⟨.slice (some ⟨w.heap.size,0,none⟩) nn cc,w.alloc (.cells (madeCells zv.cells (cc*size)) e),_,.inl (by simp[execOp,ha.tmp he,ha.tmp hy,hr]),⟨some ⟨w.heap.size,0,none⟩,rfl,rfl⟩,hw.gT (LN w _ none) ⟨lg nn,hle,?_⟩ ?_⟩
 ·by_cases rC:cc=0
  ·exact .inl rC
  ·refine .inr ⟨_,_,rfl,hw.base,FD w _,Cl,by simp[madeCells],?_⟩;rw[<-hzs,u7];obtain⟨d,rfl⟩:∃d,cc=nn+d:=⟨cc-nn,aa⟩
   have e2:(List.replicate (nn+d) zv.cells.toList).flatten=(List.replicate nn zv.cells.toList).flatten++(List.replicate d zv.cells.toList).flatten:=by
    rw[<-List.flatten_append,<-List.replicate_append_replicate]
   rw[e2];exact lA (by rw[lg,hzs])
 ·by_cases rC:cc=0
  ·left;simp[Ch.fp,rC]
  ·right;exact⟨w.heap.size,IL,gC _⟩
theorem agF{α:Type}{L us:List α}{j kk N:Nat}(hj:j+kk<=N)(hk:E us=kk)(hN:N<=E L):(L.take j++us++L.drop (j+kk)).take N=(L.take N).take j++us++(L.take N).drop (j+kk):=by
 have hl:E (L.take j)=j:=by rw[eY];omega
 rw[bX,PG,hl,fC aa,PG,hk,fC (by omega:E us<=N-j),LS,xH aa,LP,<-bX,show N-j-kk=N-(j+kk) by omega]
theorem EP{size nn c j:Nat}{A:bk}{xs us:cZ}(kk:Nat)(hs:p8 C.P t kk=true)(he:ev fr x=some (.pointer (A.map (·.add j))))(hv:ev fr y=some (.agg us.toArray))(h1:∀u∈us,u.oneCell'=true)(hk:E us=kk)(hm:na (.own e size A nn c xs) L f)(hj:j+kk<=E xs)(h0:0<kk):
  q8 C fr L (.store t x y) ty (λp L'=>L'=f (.own e size A nn c (xs.take j++us++xs.drop (j+kk)))):=λa w ha hw d pos af gg=>by
 obtain⟨q1,q2,q3⟩:=hw.all _ hm.mem;have rC:¬c=0:=λh=>by
  have:nn=0:=by omega
  subst this;rw[qC]at q1;omega
 obtain⟨g,cur,rfl,k1,k2,k3,k4,k5⟩:=q3.resolve_left rC;have H7:(⟨g,0,none⟩:Addr).add j=⟨g,j,none⟩:=by rw[Bu,lV]
 have uh:E xs<=cur.size:=by
  have:=dQ List.length k5;rw[eY,LO]at this;omega
 have hr:=run_storeCells_at (P:=C.P) g j e us 0 cur w k2 aa h1;have jg:(C.P.info? t).map (·.size)=some kk:=by
  have h:=hs;unfold p8 at h;rw[Bx]at h;have h2:=h.2;rw[beq_iff_eq]at h2;exact h2
 obtain⟨i,hi,hii⟩:∃i,C.P.info? t=some i∧i.size=kk:=by
  cases hq:C.P.info? t with
  |none=>rw[hq]at jg;cases jg
  |some i=>rw[hq]at jg;exact⟨i,rfl,by simpa using jg⟩
 have tU:(storeVar t ⟨g,j,none⟩ (.agg us.toArray)).run C.P w= .ok () (w.setRow g (cur.toList.take (j+0)++us++cur.toList.drop (j+0+E us)).toArray):=by
  simp[storeVar,sizeOf,typeInfo,hi,hii,Value.cells,hk,hr]
 refine⟨undef,w.setRow g (cur.toList.take (j+0)++us++cur.toList.drop (j+0+E us)).toArray,_,.inr ⟨?_,rfl⟩,rfl,?_⟩
 ·have he':ev fr x=some (.pointer (some ⟨g,j,none⟩)):=by rw[he];simp[H7]
  simp[execOp,Instr.storeAt,Instr.sureAddr,ha.tmp he',ha.tmp hv,tU]
 ·have RO:(Ch.own e size (some ⟨g,0,none⟩) nn c xs).fp=some g:=by simp[Ch.fp,rC]
  refine hw.RV hm ?_ (λ_=>⟨?_,q2,.inr ⟨g,_,rfl,k1,PE w g cur _ e _ k2,k3,?_,?_⟩⟩) (.inr (.inl rfl))
  ·rw[RO];exact⟨rfl,rfl,rfl,ak,λk _ hk=>PF w g k _ (λe=>hk yo)⟩
  ·simp only[aX,eY,iG];omega
  ·simp only[xG,aX,eY,iG,LO];rw[<-k4];omega
  ·have e2:=agF (L:=cur.toList) (us:=us) (j:=j) (kk:=kk) (N:=nn*size) aa hk (by rw[LO];omega);rw[k5]at e2;simp only[sX,hk];exact e2
end
theorem tj{xs us:cZ}{j n:Nat}(h:(xs.drop j).take n=us):∀(q:Nat) (u:Value),us[q]? =some u->xs[j+q]? =some u:=by
 subst h;intro q u hu;rw[If]at hu;split at hu
 ·rwa [k_7]at hu
 ·cases hu
end
section
section
variable{fr:Fr}{L L':aR}{g:Nat}{bt:TypeId}{cs:cZ}{f:Ch->aR}
theorem qX{P:Program}{fn:Func}{R:rF}{q u s kk:Nat}{ty:TypeId}(hr:fn.results= #[.cell q ty,.tmp u,.tmp s])(hq:look q fr=some (br g))(hs:p8 P ty kk=true)(hm:na (.bG g bt cs) L f)(hk:E cs=kk){v x:Value}(hu:look u fr=some v)(hx:look s fr=some x)(Ty:Wk L L')(h:R (.tuple #[.agg cs.toArray,v,x]) L'):Dp P fn R .ret fr L:=λB w0 a w ha hw=>by
 subst hk;refine⟨_,L',?_,h,Ty.sl hw⟩;have hl:=la (P:=P) (w:=w) (p:=⟨g,0,none⟩) hs (λj u hj=>acM);simp[results,hr,ha.at_ _ _ hq,ha.at_ _ _ hu,ha.at_ _ _ hx,asAddr,hl]
theorem nS{P:Program}{fn:Func}{R:rF}{q u s t kk:Nat}{ty:TypeId}(hr:fn.results= #[.cell q ty,.tmp u,.tmp s,.tmp t])(hq:look q fr=some (br g))(hs:p8 P ty kk=true)(hm:na (.bG g bt cs) L f)(hk:E cs=kk){v x y:Value}(hu:look u fr=some v)(hx:look s fr=some x)(hy:look t fr=some y)(Ty:Wk L L')(h:R (.tuple #[.agg cs.toArray,v,x,y]) L'):Dp P fn R .ret fr L:=λB w0 a w ha hw=>by
 subst hk;refine⟨_,L',?_,h,Ty.sl hw⟩;have hl:=la (P:=P) (w:=w) (p:=⟨g,0,none⟩) hs (λj u hj=>acM);simp[results,hr,ha.at_ _ _ hq,ha.at_ _ _ hu,ha.at_ _ _ hx,ha.at_ _ _ hy,asAddr,hl]
theorem Mk{P:Program}{fn:Func}{R:rF}{q u s t r kk:Nat}{ty:TypeId}(hr:fn.results= #[.cell q ty,.tmp u,.tmp s,.tmp t,.tmp r])(hq:look q fr=some (br g))(hs:p8 P ty kk=true)(hm:na (.bG g bt cs) L f)(hk:E cs=kk){v x y z:Value}(hu:look u fr=some v)(hx:look s fr=some x)(hy:look t fr=some y)(hz:look r fr=some z)(Ty:Wk L L')(h:R (.tuple #[.agg cs.toArray,v,x,y,z]) L'):Dp P fn R .ret fr L:=λB w0 a w ha hw=>by
 subst hk;refine⟨_,L',?_,h,Ty.sl hw⟩;have hl:=la (P:=P) (w:=w) (p:=⟨g,0,none⟩) hs (λj u hj=>acM);simp[results,hr,ha.at_ _ _ hq,ha.at_ _ _ hu,ha.at_ _ _ hx,ha.at_ _ _ hy,ha.at_ _ _ hz,asAddr,hl]
theorem Lc{C:Cx}{fr:Fr}{L:aR}{x y:Operand}{t ty e:TypeId}{size bytes:Nat}{zv:Value}(T:tA C.P t e size bytes zv){A:bk}{n c:Nat}{xs:cZ}(he:ev fr x=some (.slice A n c))(hx:aM C.B C.w0 L size (.slice A n c) n xs)(h0:0<n){yv:Value}{m:Nat}{news:cZ}(hy:ev fr y=some yv)(hb:aM C.B C.w0 L size yv m news)(h1:∀u∈news,u.oneCell'=true)(OY:c<n+m)(kx:(n+m)*bytes<=140737488355328)(yd:n+m<=140737488355328):
  q8 C fr L (.call {callee:=.builtin .append,args:= #[x,y],argTypes:= #[t,t]}) ty (λp L'=>∃A' c',p= .slice A' (n+m) c'∧L'= .own e size A' (n+m) c' (xs++news)::L):=λa w ha hw d pos af gg=>by
 obtain⟨i,hi,hz,jg,Fc⟩:=T.hi;subst jg Fc;obtain⟨X0,c0,e0,hnc,k1,hrx⟩:=hx w hw;injection e0 with e1 e2 e3;subst e1;subst e3;obtain⟨a0,ea,hab,holds⟩:=hrx h0;subst ea;obtain⟨X,cx,rfl,hmc,hl,uM⟩:=hb w hw;have hm0:0<m:=by omega
 obtain⟨ad,eX,_,Fg⟩:=uM hm0;subst eX;have aog:n+m<=maxLen:=by unfold maxLen;omega
 have hlen:E (xs++news)=(n+m)*i.size:=by rw[aX,k1,hl,kz]
 have xx:=grownCap_ge w (n+m) c e;have hr:=run_append_grow (P:=C.P) w t ty e i zv T.ht hi hz a0 n c xs k1 holds ad m cx news hl Fg aa aa (growslice_fits aa kx);have big:xe (w.drew.alloc (.cells (xs.toArray++news.toArray++Builtin.zeroCells zv.cells (grownCap w (n+m) c e-(n+m))) e)) C.B e i.size (some ⟨w.heap.size,0,none⟩) (n+m) (grownCap w (n+m) c e) (xs++news):=by
  refine⟨hlen,xx,.inr ⟨w.heap.size,_,rfl,hw.base,FD w.drew _,grownCap_le_maxLen w (n+m) c e aog,?_,?_⟩⟩
  ·simp only[Array.size_append,xG,size_zeroCells,T.hz,k1,hl,<-kz];congr 1;omega
  ·simp only[Array.toList_append,bX];rw[<-bX,<-hlen];exact zh
 refine⟨_,_,_,.inl ?_,⟨_,_,rfl,rfl⟩,hw.gT ?_ big ?_⟩
 ·simp[execOp,resolve,invoke,builtin,ha.tmp he,ha.tmp hy,hr]
 ·exact⟨rfl,rfl,rfl,ak,λk hk _=>heap_alloc_old w.drew _ hk⟩
 ·right;have:¬grownCap w (n+m) c e=0:=by omega
  exact⟨_,by simp[Ch.fp,this],gC _⟩
theorem pW{C:Cx}{x y:Operand}{t ty:TypeId}{o:Nat}{us:cZ}(kk:Nat)(hs:p8 C.P t kk=true)(he:ev fr x=some (.pointer (some ⟨g,o,none⟩)))(hv:ev fr y=some (.agg us.toArray))(h1:∀u∈us,u.oneCell'=true)(hm:na (.bG g bt cs) L f)(hk:E us=kk)(ho:o+kk<=E cs):
  q8 C fr L (.store t x y) ty (λp L'=>L'=f (.bG g bt (cs.take o++us++cs.drop (o+kk)))):=λa w ha hw d pos af gg=>by
 have hb:=(hw.all _ hm.mem).2;have hr:=run_storeCells_at (P:=C.P) g o bt us 0 cs.toArray w hb bT h1;have jg:(C.P.info? t).map (·.size)=some kk:=by
  have h:=hs;unfold p8 at h;rw[Bx]at h;have h2:=h.2;rw[beq_iff_eq]at h2;exact h2
 obtain⟨i,hi,hii⟩:∃i,C.P.info? t=some i∧i.size=kk:=by
  cases hq:C.P.info? t with
  |none=>rw[hq]at jg;cases jg
  |some i=>rw[hq]at jg;exact⟨i,rfl,by simpa using jg⟩
 simp only[sX]at hr;have tU:(storeVar t ⟨g,o,none⟩ (.agg us.toArray)).run C.P w= .ok () (w.setRow g (cs.take o++us++cs.drop (o+E us)).toArray):=by
  simp[storeVar,sizeOf,typeInfo,hi,hii,Value.cells,hk,hr]
 rw[<-hk];refine⟨undef,w.setRow g (cs.take o++us++cs.drop (o+E us)).toArray,_,.inr ⟨?_,rfl⟩,rfl,?_⟩
 ·simp[execOp,Instr.storeAt,Instr.sureAddr,ha.tmp he,ha.tmp hv,tU]
 ·refine hw.RV hm ?_ (λ⟨q1,q2⟩=>⟨q1,?_⟩) (.inr (.inl rfl))
  ·exact⟨rfl,rfl,rfl,ak,λk _ hk=>PF w g k _ (λe=>hk Ea)⟩
  ·exact PE w g cs.toArray _ bt _ q2
end
end
section
theorem Un(x y:aN)(w:World):(Op.equalIn 10000 23 (.agg (aN.cells x).toArray) (.agg (aN.cells y).toArray)).run Tryz.prog w= .ok (decide (x=y)) w:=by
 have p0:=λ(z:aN) w=>ic (P:=Tryz.prog) (t:=3) (xs:=(aN.cells z).toArray) (off:=0) (v:=ah z.1) ag rfl w;have p1:=λ(z:aN) w=>ic (P:=Tryz.prog) (t:=4) (xs:=(aN.cells z).toArray) (off:=1) (v:=.bool z.2.1) ag rfl w;have p2:=λ(z:aN) w=>ic (P:=Tryz.prog) (t:=3) (xs:=(aN.cells z).toArray) (off:=2) (v:=ah z.2.2.1) ag rfl w;have p3:=λ(z:aN) w=>ic (P:=Tryz.prog) (t:=3) (xs:=(aN.cells z).toArray) (off:=3) (v:=ah z.2.2.2.1) ag rfl w;have p4:=λ(z:aN) w=>ic (P:=Tryz.prog) (t:=3) (xs:=(aN.cells z).toArray) (off:=4) (v:=ah z.2.2.2.2.1) ag rfl w;have p5:=λ(z:aN) w=>ic (P:=Tryz.prog) (t:=3) (xs:=(aN.cells z).toArray) (off:=5) (v:=ah z.2.2.2.2.2) ag rfl w;have q0:=λ(a b:Int) w=>run_equalIn_int (P:=Tryz.prog) w 9998 3 .i64 .i64 a b underlying3;have q1:=λ(a b:Bool) w=>run_equalIn_bool' (P:=Tryz.prog) w 9998 4 a b underlying4;rw[run_equalIn_agg w 9999 _ _ _ ag ag];simp only[Program.fieldsOf,underlying23];simp[Op.eqFields,p0,p1,p2,p3,p4,p5];rw[q0];obtain⟨a,b,s,f,t,u⟩:=x;obtain⟨a',b',s',f',t',u'⟩:=y;by_cases h0:a=a'
 ·have e0:(a==a')=true:=by simp[h0]
  simp only[e0,uV];rw[q1];by_cases h1:b=b'
  ·have e1:(b==b')=true:=by simp[h1]
   simp only[e1,uV];rw[q0];by_cases h2:s=s'
   ·have e2:(s==s')=true:=by simp[h2]
    simp only[e2,uV];rw[q0];by_cases h3:f=f'
    ·have e3:(f==f')=true:=by simp[h3]
     simp only[e3,uV];rw[q0];by_cases h4:t=t'
     ·have e4:(t==t')=true:=by simp[h4]
      simp only[e4,uV];rw[q0];by_cases h5:u=u'
      ·simp[h0,h1,h2,h3,h4,h5]
      ·have h':(u==u')=false:=by rw[qN];exact h5
       simp[h5,h']
     ·have h':(t==t')=false:=by rw[qN];exact h4
      simp[h4,h']
    ·have h':(f==f')=false:=by rw[qN];exact h3
     simp[h3,h']
   ·have h':(s==s')=false:=by rw[qN];exact h2
    simp[h2,h']
  ·have h':(b==b')=false:=by rw[qN];exact h1
   simp[h1,h']
 ·have h':(a==a')=false:=by rw[qN];exact h0
  simp[h0,h']
section
variable{C:Cx}{fr:Fr}{L:aR}{x y:Operand}{ty yt:TypeId}{p q:aN}
theorem uB(hP:C.P=Tryz.prog)(p q:aN)(h1:ev fr x=some (.agg (aN.cells p).toArray))(h2:ev fr y=some (.agg (aN.cells q).toArray)):gR C fr L (.binOp .eql 23 x y yt) ty (.bool (decide (p=q))):=λa w ha hw d pos af g=>by
 have he:(eqGuard .eql 23 x y (.agg (aN.cells p).toArray) (.agg (aN.cells q).toArray)).run C.P w= .ok () w:=by rw[hP];exact run_eqGuard_agg w .eql _ x y _ _ ag
 have e1:(binOp .eql 23 (.agg (aN.cells p).toArray) (.agg (aN.cells q).toArray)).run C.P w= .ok (.bool (decide (p=q))) w:=by
  rw[hP,run_eql_struct,Un];simp
 simp only[execOp,ha.tmp h1,ha.tmp h2,LK,he,e1,uV,Ig]
end
theorem vj{v:Int}{o:aN}(h:v=1∨v=2∨v=3)(h2:¬jB v o):ct v o=9:=by unfold ct;rw[ao h,aw h2]
theorem Um{v:Int}{o:aN}(h:v=1∨v=2∨v=3)(h2:jB v o):ct v o=0:=by unfold ct;rw[ao h,ao h2]
theorem apb{v:Int}{o:aN}(h:¬(v=1∨v=2∨v=3)):ct v o=4:=by unfold ct;rw[aw h]
theorem kY(v:Int)(o:aN):aZ B w0 61 [ah v,.agg (aN.cells o).toArray] F (λr L=>r=ah (ct v o)∧L=F):=by
 obtain⟨bl,pl,bu,da,pa,ch⟩:=o;refine b_ func61 45 rfl rfl rfl [(0,ah v),(1,.agg #[ah bl,.bool pl,ah bu,ah da,ah pa,ah ch])] ⟨⟨rfl,rfl⟩,⟨rfl,rfl⟩,trivial⟩ ?_;refine bc ?_;refine bg λg3=>?_;refine bI ?_;refine ai rfl (oA bl 16 32768) (bB ?_);refine bh λg6=>?_;refine ajq ?_;refine aj (λnY=>?_) λnY=>?_
 ·refine bO ?_;refine cD (λoI=>?_) λoI=>?_
  ·refine bc ?_;refine ai rfl (abx (bl,pl,bu,da,pa,ch)) (de ?_);refine ve [3,5,6] ?_;refine bB ?_;refine cD (λkG=>?_) λkG=>?_
   ·refine b7 ?_;refine ai rfl (oA bu 1 64) (ei ?_);refine cD (λH6=>?_) λH6=>?_
    ·refine bz ?_;refine ab (bx [(0,_),(1,_)] [ah 0,.bool false,ah 0,ah 0,ah 0,ah 0] [0,1] [_,_,_,_,_,_] rfl rfl ag) rfl (aF ?_);refine ab (uB rfl (bl,pl,0,0,0,0) (bl,pl,0,0,0,0) rfl rfl) rfl (bc ?_);refine ve [5] ?_;refine bz ?_;refine ab (jm rfl) rfl (bc ?_);refine iH (λsT=>?_) λsT=>?_
     ·refine bI ?_;refine aq (.s2 (.refl _)) (aF ?_)
      (exfalso;simp at sT;done)
     ·refine bK ?_;refine aq (.s2 (.refl _)) (aF ?_)
      (refine⟨dQ (Value.int .i64) (Um aa ⟨(by assumption),λ_=>by assumption,λ_=>by assumption,λh=>absurd nY h,λh=>aa⟩).symm,rfl⟩;done)
    ·refine bK ?_;refine ve [5] ?_;refine H5 ?_;refine aq (.s2 (.refl _)) (aF ?_);exact⟨dQ (Value.int .i64) (vj aa (λh=>H6 (h.2.2.1 (.inl nY)))).symm,rfl⟩
   ·refine anU ?_;refine ve [5] ?_;refine H5 ?_;refine aq (.s2 (.refl _)) (aF ?_);exact⟨dQ (Value.int .i64) (vj aa (λh=>kG (h.2.1 nY))).symm,rfl⟩
  ·refine cF ?_;refine ve [3,5,6] ?_;refine ar_ ?_;refine ve [5] ?_;refine H5 ?_;refine aq (.s2 (.refl _)) (aF ?_);exact⟨dQ (Value.int .i64) (vj aa (λh=>oI h.1)).symm,rfl⟩
 ·refine bO ?_;refine aj (λku=>?_) λku=>?_
  ·refine de ?_;refine cD (λkG=>?_) λkG=>?_
   ·refine b7 ?_;refine ai rfl (oA bu 1 64) (bc ?_);refine ve [3,5,6] ?_;refine de ?_;refine cD (λH6=>?_) λH6=>?_
    ·refine bz ?_;refine ab (bx [(0,_),(1,_)] [ah 0,.bool false,ah 0,ah 0,ah 0,ah 0] [0,1] [_,_,_,_,_,_] rfl rfl ag) rfl (aF ?_);refine ab (uB rfl (bl,pl,0,da,pa,ch) (bl,pl,0,0,0,0) rfl rfl) rfl (cY ?_);refine ab (jm rfl) rfl (bc ?_);refine iH (λsT=>?_) λsT=>?_
     ·refine bE ?_;refine ve [4] ?_;refine bE ?_;refine aq (.s2 (.refl _)) (aF ?_)
      (refine⟨dQ (Value.int .i64) (vj aa (λh=>?_)).symm,rfl⟩;have k:=h.2.2.2.1 aa;simp only at k;simp[k.1,k.2.1,k.2.2]at sT;done)
     ·refine bF ?_;refine ve [4] ?_;refine bc ?_;refine aq (.s2 (.refl _)) (aF ?_)
      (simp at sT;exact⟨dQ (Value.int .i64) (Um aa ⟨(by assumption),λh=>by omega,λ_=>by assumption,λ_=>sT,λh=>aa⟩).symm,rfl⟩)
    ·refine ajq ?_;refine ve [4] ?_;refine bE ?_;refine aq (.s2 (.refl _)) (aF ?_);exact⟨dQ (Value.int .i64) (vj aa (λh=>H6 (h.2.2.1 (.inr ku)))).symm,rfl⟩
   ·refine b7 ?_;refine ve [3,5,6] ?_;refine auj ?_;refine ve [4] ?_;refine bE ?_;refine aq (.s2 (.refl _)) (aF ?_);exact⟨dQ (Value.int .i64) (vj aa (λh=>kG h.1)).symm,rfl⟩
  ·refine bK ?_;refine aj (λlf=>?_) λlf=>?_
   ·refine cF ?_;refine cD (λH6=>?_) λH6=>?_
    ·refine bz ?_;refine ab (bx [(0,_),(1,_)] [ah 0,.bool false,ah 0,ah 0,ah 0,ah 0] [0,1] [_,_,_,_,_,_] rfl rfl ag) rfl (aF ?_);refine ab (uB rfl (bl,pl,bu,da,pa,ch) (bl,pl,0,0,0,0) rfl rfl) rfl (bc ?_);refine ve [5] ?_;refine bz ?_;refine ab (jm rfl) rfl (bc ?_);refine iH (λsT=>?_) λsT=>?_
     ·refine bI ?_;refine aq (.s2 (.refl _)) (aF ?_)
      (refine⟨dQ (Value.int .i64) (vj aa (λh=>?_)).symm,rfl⟩;have k:=h.2.2.2.1 aa;have k2:=h.2.2.2.2 aa;simp only at k k2;simp[k.1,k.2.1,k.2.2,k2]at sT;done)
     ·refine bK ?_;refine aq (.s2 (.refl _)) (aF ?_)
      (simp at sT;exact⟨dQ (Value.int .i64) (Um aa ⟨(by assumption),λh=>by omega,λh=>by omega,λ_=>sT.2,λ_=>sT.1⟩).symm,rfl⟩)
    ·refine bK ?_;refine ve [5] ?_;refine H5 ?_;refine aq (.s2 (.refl _)) (aF ?_);exact⟨dQ (Value.int .i64) (vj aa (λh=>H6 h.1)).symm,rfl⟩
   ·refine jt ?_;refine ve [4] ?_;refine bF ?_;refine aq (.s2 (.refl _)) (aF ?_);exact⟨dQ (Value.int .i64) (apb aa).symm,rfl⟩
end
theorem Nq{P:Prop}(h:P:=by(simp[Value.oneCell'])):P:=h
theorem anK(p:Bool):aZ B w0 64 [.bool p] F (λr L=>r= .int .u8 ((if p then (1:UInt8) else 0).toNat:Int)∧L=F):=by
 refine fw func64 4 [0] ?_;refine de ?_;refine iH (λh3=>?_) λh3=>?_
 ·refine bK ?_;exact⟨by rw[h3];rfl,rfl⟩
 ·refine bO ?_;exact⟨by rw[h3];rfl,rfl⟩
theorem T3(v:Int):aZ B w0 62 [ah v] F (λr L=>∃A' c',r= .tuple #[.slice A' (E (qR v).1) c',ah (qR v).2]∧L= .own 5 1 A' (E (qR v).1) c' (bv (qR v).1)::F):=by
 refine fw func62 13 [0] ?_;refine bz ?_;refine ai rfl (oA v 1 3) (bE ?_);refine aj (λh6=>?_) λh6=>?_
 ·have e:qR v=([],4):=by unfold qR;rw[aw h6]
  refine bK ?_;refine aC 5 1 none (aF ?_);rw[e];exact⟨none,0,rfl,rfl⟩
 ·have hw:=bA h6;have hv:v=1∨v=2∨v=3:=by have:=hw.1;have:=hw.2;omega
  have e:qR v=([70,73,82,75,UInt8.ofNat v.toNat],0):=by unfold qR;rw[ao hw];rfl
  have hvv:((UInt8.ofNat v.toNat).toNat:Int)=v:=by rcases hv with rfl|rfl|rfl<;>rfl
  refine b7 ?_;refine cC (aG cB [_,_,_,_] rfl rfl cw aa aa) λA7=>mj (Lf underlying27 underlying5 rfl aW aa) rfl ?_;rintro _ _ ⟨g8,cur,kk,rfl,hA8,au6,auQ,uh,rfl⟩;subst hA8;refine aF ?_;refine ab (bm underlying3 underlying5 rfl (r:=v) (by rcases hv with rfl|rfl|rfl<;>rfl)) rfl (cC (aG cB [_] rfl rfl cw aa aa) λuu=>fK (Lc cB rfl (aM.obj (.tail _ (List.Mem.head _)) au6 auQ uh) aa rfl (aM.own (.head _)) Nq aa aa aa) λMN c12=>bF ?_);refine aq (.cons (.s2 (.refl _))) (aF ?_);rw[e];refine⟨MN,c12,rfl,?_⟩;simp[bv];omega
section
open Go.RowKit Go.WideMaps
abbrev K3:=UInt8×UInt8×UInt8
def Hv(k:K3):Value:=.agg #[.int .u8 (k.1.toNat:Int),.int .u8 (k.2.1.toNat:Int),.int .u8 (k.2.2.toNat:Int)]
theorem ajS{a b:K3}(h:Hv a=Hv b):a=b:=by
 obtain⟨a1,a2,a3⟩:=a;obtain⟨b1,b2,b3⟩:=b;simp only[Hv,Value.agg.injEq,Array.mk.injEq,aay,Value.int.injEq,true_and,and_true,Int.natCast_inj]at h;obtain⟨h1,h2,h3⟩:=h;rw[mR.1 h1,mR.1 h2,mR.1 h3]
theorem aaA{P:Program}{k e:TypeId}{q:IntKind}(A:ArrKey P k e 3)(he:P.underlying e=some (.int q))(jg:∃m,P.types.size=m+1){a b c:Int}(wa:(Lit.int q a).wf=true)(wb:(Lit.int q b).wf=true)(wc:(Lit.int q c).wf=true):
  keyOf P k (.agg #[.int q a,.int q b,.int q c])=some (.string (keyBytes [.int q a,.int q b,.int q c])):=by
 have hkt:=A.keyType jg;obtain⟨m,hm⟩:=jg;unfold keyOf;simp only[A.hu];rw[ao (by simp[hkt,Value.formed,A.hu,A.size]),hm];unfold Program.keyLits;simp only[A.hu,Value.cells];rw[ao (by rw[A.size];rfl),show List.range 3=[0,1,2] from rfl,List.mapM_cons,List.mapM_cons,List.mapM_cons,List.mapM_nil];simp[A.one,Program.keyLits,he,wa,wb,wc]
theorem wf_u8(c:UInt8):(Lit.int .u8 (c.toNat:Int)).wf=true:=by
 have:=c.toNat_lt;have h:∀n:Fin 256,(Lit.int .u8 ((n:Nat):Int)).wf=true:=by decide+kernel
 exact h ⟨c.toNat,aa⟩
structure acn(P:Program)(t k e:TypeId):Prop where
 um:P.underlying t=some (.map k e)
 A:ArrKey P k 5 3
 he:P.underlying 5=some (.int .u8)
 sz:∃m,P.types.size=m+1
 z:∀w,(zeroValue e).run P w= .ok (ah 0) w
theorem acn.key{P:Program}{t k e:TypeId}(T:acn P t k e)(x:K3):∃l,keyOf P k (Hv x)=some l:=⟨_,aaA T.A T.he T.sz (wf_u8 _) (wf_u8 _) (wf_u8 _)⟩
structure Hz(es:List MapEntry)(b:al)(m:Nat):Prop where
 ent:∀x∈es,∃(k:K3) (p:Nat),x.key=Hv k∧x.val=ah (p:Int)∧fb b k m=some p
 all:∀(k:K3) (p:Nat),fb b k m=some p->∃x∈es,x.key=Hv k
 nd:es.Pairwise λx y=>x.key≠y.key
theorem Hz.nil(b:al):Hz [] b 0:=⟨λx h=>absurd h ak,λk p h=>absurd h (by simp[fb]),List.Pairwise.nil⟩
theorem Hz.skip{es:List MapEntry}{b:al}{m:Nat}(h:Hz es b m)(hm:E b<m+3):Hz es b (m+1):=by
 have e:∀k,fb b k (m+1)=fb b k m:=λk=>by rw[fb,aw aa]
 refine⟨λx hx=>?_,λk p hk=>h.all k p (by rw[<-e];exact hk),h.nd⟩;obtain⟨k,p,h1,h2,h3⟩:=h.ent x hx;exact⟨k,p,h1,h2,by rw[e];exact h3⟩
abbrev lkp(o:Option Nat):Value:=.tuple #[ah ((o.getD 0:Nat):Int),.bool o.isSome]
section
variable{C:Cx}{fr:Fr}{L:aR}{x y z:Operand}{f:Ch->aR}{t k e ty:TypeId}{g:Nat}{es:List MapEntry}{cl m:Nat}{b:al}{s:K3}
theorem ZK(b:al):q8 C fr L (.makeMap t none) ty (λp L'=>∃g es cl,p= .map (some g)∧Hz es b 0∧L'= .obj g (.map es.toArray cl)::L):=λa w ha hw d pos af gg=>
 ⟨.map (some w.heap.size),w.alloc (.map #[] 0),.obj w.heap.size (.map #[] 0)::L,.inl (by simp[execOp,run_makeMap_plain]),⟨w.heap.size,[],0,rfl,Hz.nil b,rfl⟩,
  hw.gT (LN w _ none) ⟨hw.base,(MapKept.heap_alloc w (.map #[] 0)).1⟩ (.inr ⟨_,rfl,gC _⟩)⟩
theorem I7(T:acn C.P t k e)(hm:ev fr x=some (.map (some g)))(hx:ev fr y=some (Hv s))(hs:na (.obj g (.map es.toArray cl)) L f)(hk:Hz es b m):
  gR C fr L (.lookup t x y true) ty (lkp (fb b s m)):=λa w ha hw d pos af gg=>by
 have hb:w.heap[g]? =some (.map es.toArray cl):=(hw.all _ hs.mem).2;obtain⟨l,hl⟩:=T.key s;have hc:∀em,(Instr.checkKey em 10000 k (Hv s)).run C.P w= .ok () w:=λem=>T.A.law.check w em hl;have hf:=T.A.law.find w hl es λen hen=>by
  obtain⟨k',p,h1,_,_⟩:=hk.ent en hen;rw[h1];exact T.key k'
 rcases hf with⟨hf,Pb⟩|⟨j,en,hf,hj,xA⟩
 ·have hn:fb b s m=none:=by
   cases hh:fb b s m with
   |none=>rfl
   |some p=>
    obtain⟨en,hen,hke⟩:=hk.all s p hh;exact absurd hke (Pb en hen)
  rw[hn];simp[execOp,ha.tmp hm,ha.tmp hx,Instr.lookup,jk T.um,CN hb,hc,hf,T.z,Result.andThen,lkp]
 ·obtain⟨k',p,h1,h2,h3⟩:=hk.ent en (List.mem_of_getElem? hj);have To:k'=s:=ajS (h1.symm.trans xA);subst To;rw[h3];simp[execOp,ha.tmp hm,ha.tmp hx,Instr.lookup,jk T.um,CN hb,hc,hf,Result.andThen,h2,lkp]
theorem Hz.put{es:List MapEntry}{b:al}{m j:Nat}{en:MapEntry}(h:Hz es b m)(hm:m+3<=E b)(hj:es[j]? =some en)(hk:en.key=Hv (iU b m)):Hz (es.modify j λe=>{e with key:=Hv (iU b m),val:=ah (m:Int)}) b (m+1):=by
 have hjl:j<E es:=(Bw.1 hj).1;have hje:es[j]=en:=(Bw.1 hj).2;have hnd:=qK.1 h.nd;have xA:∀i (hi:i<E es),((es.modify j λe=>{e with key:=Hv (iU b m),val:=ah (m:Int)})[i]'D_).key=es[i].key:=λi hi=>by
  rw[List.getElem_modify];split
  ·rename_i e;subst e;rw[hje,hk]
  ·rfl
 refine⟨λx hx=>?_,λk p hp=>?_,?_⟩
 ·obtain⟨i,hi,rfl⟩:=ke hx;have RQ:i<E es:=by simpa using hi
  rw[List.getElem_modify];by_cases e:j=i
  ·rw[ao e];exact⟨iU b m,m,rfl,rfl,by rw[fb,ao ⟨hm,rfl⟩]⟩
  ·rw[aw e];obtain⟨k,p,h1,h2,h3⟩:=h.ent es[i] (oT RQ);refine⟨k,p,h1,h2,?_⟩;rw[fb,aw ?_];exact h3;rintro⟨_,Lz⟩;have oh:es[j].key≠es[i].key:=by
    rcases Nat.lt_or_gt_of_ne e with q|q
    ·exact hnd j i hjl RQ q
    ·exact λe2=>hnd i j RQ hjl q e2.symm
   exact oh (by rw[hje,hk,h1,Lz])
 ·rw[fb]at hp;by_cases hc:m+3<=E b∧iU b m=k
  ·refine⟨(es.modify j λe=>{e with key:=Hv (iU b m),val:=ah (m:Int)})[j]'(by simpa using hjl),oT _,?_⟩;rw[xA j hjl,hje,hk,hc.2]
  ·rw[aw hc]at hp;obtain⟨x,hx,hxk⟩:=h.all k p hp;obtain⟨i,hi,rfl⟩:=ke hx;exact⟨(es.modify j λe=>{e with key:=Hv (iU b m),val:=ah (m:Int)})[i]'D_,oT _,by rw[xA i hi];exact hxk⟩
 ·refine qK.2 λi i2 hi hi2 fN=>?_;have h1:i<E es:=by simpa using hi
  have h2:i2<E es:=by simpa using hi2
  rw[xA i h1,xA i2 h2];exact hnd i i2 h1 h2 fN
theorem Hz.add{es:List MapEntry}{b:al}{m n:Nat}(h:Hz es b m)(hm:m+3<=E b)(Pb:∀e∈es,e.key≠Hv (iU b m)):Hz (es++[{key:=Hv (iU b m),val:=ah (m:Int),born:=n}]) b (m+1):=by
 refine⟨λx hx=>?_,λk p hp=>?_,?_⟩
 ·rcases dz.1 hx with hx|hx
  ·obtain⟨k,p,h1,h2,h3⟩:=h.ent x hx;refine⟨k,p,h1,h2,?_⟩;rw[fb,aw ?_];exact h3;rintro⟨_,Lz⟩;exact Pb x hx (by rw[h1,Lz])
  ·rw[me.1 hx];exact⟨iU b m,m,rfl,rfl,by rw[fb,ao ⟨hm,rfl⟩]⟩
 ·rw[fb]at hp;by_cases hc:m+3<=E b∧iU b m=k
  ·exact⟨_,om _ (me.2 rfl),by rw[hc.2]⟩
  ·rw[aw hc]at hp;obtain⟨x,hx,hxk⟩:=h.all k p hp;exact⟨x,kI _ hx,hxk⟩
 ·refine tK.2 ⟨h.nd,Xv _ _,λx hx y hy=>?_⟩;rw[me.1 hy];exact Pb x hx
theorem Ot(T:acn C.P t k e)(hm:ev fr x=some (.map (some g)))(hx:ev fr y=some (Hv (iU b m)))(hv:ev fr z=some (ah (m:Int)))(hs:na (.obj g (.map es.toArray cl)) L f)(hk:Hz es b m)(hb3:m+3<=E b):
  q8 C fr L (.mapUpdate t x y z) ty (λp L'=>∃es' cl',Hz es' b (m+1)∧L'=f (.obj g (.map es'.toArray cl'))):=λa w ha hw d pos af gg=>by
 have hb:w.heap[g]? =some (.map es.toArray cl):=(hw.all _ hs.mem).2;obtain⟨l,hl⟩:=T.key (iU b m);have hc:∀em,(Instr.checkKey em 10000 k (Hv (iU b m))).run C.P w= .ok () w:=λem=>T.A.law.check w em hl;have hf:=T.A.law.find w hl es λen hen=>by
  obtain⟨k',p,h1,_,_⟩:=hk.ent en hen;rw[h1];exact T.key k'
 have fN:=(k_3.1 hb).1;have oC:∀o,SL C.B C.w0 (f (.obj g o)) {w with heap:=w.heap.setIfInBounds g o}:=λo=>
  hw.RV hs ⟨rfl,rfl,rfl,ak,λj _ hj=>by
   have:g≠j:=λe=>hj Ea;simp[this]⟩ (λh=>⟨h.1,by simp[fN]⟩) (.inr (.inl rfl))
 rcases hf with⟨hf,Pb⟩|⟨j,en,hf,hj,xA⟩
 ·refine⟨undef,_,_,.inr ⟨?_,rfl⟩,⟨es++[{key:=Hv (iU b m),val:=ah (m:Int),born:=cl}],cl+1,hk.add hb3 Pb,rfl⟩,oC _⟩;simp[execOp,ha.tmp hm,ha.tmp hx,ha.tmp hv,Instr.mapUpdate,jk T.um,CN hb,hc,hf,MapKept.run_setObj_map _ hb,Result.andThen]
 ·have hky:=T.A.law.stays w hl;have Lz:((es.toArray[j]?).map (·.key)).getD (Hv (iU b m))=Hv (iU b m):=by
   rw[List.getElem?_toArray,hj];exact xA
  refine⟨undef,_,_,.inr ⟨?_,rfl⟩,⟨es.modify j λe=>{e with key:=Hv (iU b m),val:=ah (m:Int)},cl,hk.put hb3 hj xA,rfl⟩,oC _⟩;simp only[execOp,ha.tmp hm,ha.tmp hx,ha.tmp hv,Instr.mapUpdate];simp[jk T.um,CN hb,hc,hf,Result.andThen];simp at Lz;simp[Lz,hky,MapKept.run_setObj_map _ hb]
end
theorem k3T:acn Tryz.prog 298 350 3:=⟨ag,⟨ag,ag,ag,ag⟩,ag,⟨Tryz.prog.types.size-1,ag⟩,λw=>ag⟩
end
def bS.cells(t:bS):cZ:=[.int .u8 (t.1.toNat:Int),ah t.2.1,ah t.2.2]
theorem afq(t:bS):aZ B w0 281 [.agg (bS.cells t).toArray] F (λr L=>r= .bool (decide (fm t))∧L=F):=by
 obtain⟨x,n,d⟩:=t;have hx:x=0↔((x.toNat:Nat):Int)=0:=⟨λh=>by rw[h];rfl,λh=>mR.1 (show x.toNat=(0:UInt8).toNat from by have e:(0:UInt8).toNat=0:=rfl;omega)⟩
 have hp:¬n=0->(fm (x,n,d)↔((x.toNat:Nat):Int)=0∧3<=n∧n<=257∧1<=d∧d<=4095):=λh=>by unfold fm;rw[aw h];exact and_congr hx Iff.rfl
 have hz:n=0->(fm (x,n,d)↔d=0):=λh=>by unfold fm;rw[ao h]
 refine b_ func281 32 rfl rfl rfl [(0,.agg #[.int .u8 (x.toNat:Int),ah n,ah d])] ⟨⟨rfl,rfl⟩,trivial⟩ ?_;refine bc ?_;refine bg λg1=>?_;refine de ?_;refine aj (λh5=>?_) λh5=>?_
 ·refine bz ?_;refine aq (L':=F) (.skip (.refl _)) (aF ?_);exact⟨dQ Value.bool (zj.2 (hz h5).symm),rfl⟩
 ·refine b7 ?_;refine bR 23 31 [] (((x.toNat:Nat):Int)=0∧3<=n∧n<=257∧1<=d∧d<=4095) ?_ ?_
  ·refine b7 ?_;refine cD (λnY=>?_) λnY=>?_
   ·refine bI ?_;refine cD (λiI=>?_) λiI=>?_
    ·refine bI ?_;refine cD (λrm=>?_) λrm=>?_
     ·refine bI ?_;refine cD (λkG=>?_) λkG=>?_
      ·refine bB ?_;exact aL pM
      ·refine bE ?_;exact aL xh
     ·refine bK ?_;exact aL xh
    ·refine cY ?_;exact aL xh
   ·refine sR ?_;exact aL xh
  ·refine b7 ?_;refine aq (L':=F) (.skip (.refl _)) (aF ?_);exact⟨dQ Value.bool (zj.2 (hp h5).symm),rfl⟩
section
variable{gm:Nat}
theorem aqY{P:Prop}(h:P:=by(rintro _ _ ⟨es6,cl6,hk6,rfl⟩;exact gD)):P:=h
theorem aql{P:Prop}(h:P:=by(exact dR (by first|exact λh=>absurd h.1 (by omega)|exact λh=>absurd h.2.1 (by omega)|exact⟨λh=>⟨by omega,by omega,ME.1 h⟩,λh=>ME.2 h.2.2⟩))):P:=h
theorem b_0{P:Prop}(h:P:=by(first|rfl|exact dS (by first|exact(λ⟨x,hx,_⟩=>by rw[M7.XK rn]at hx;cases hx)|exact(λ⟨x,hx,_⟩=>by rw[M7.XL (by omega)]at hx;cases hx)|exact(λ⟨y,hy,TA,_⟩=>by injection hy with hy;omega)|exact⟨λh=>⟨x,rfl,by omega,by omega⟩,λ⟨y,hy,TA,hy3⟩=>by omega⟩)|exact dR (by first|exact(λ⟨x,hx,_⟩=>by rw[M7.XK rn]at hx;cases hx)|exact(λ⟨x,hx,_⟩=>by rw[M7.XL (by omega)]at hx;cases hx)|exact(λ⟨y,hy,TA,_⟩=>by injection hy with hy;omega)|exact⟨λh=>⟨x,rfl,by omega,by omega⟩,λ⟨y,hy,TA,hy3⟩=>by omega⟩)|exact dG (by first|exact(λ⟨x,hx,_⟩=>by rw[M7.XK rn]at hx;cases hx)|exact(λ⟨x,hx,_⟩=>by rw[M7.XL (by omega)]at hx;cases hx)|exact(λ⟨y,hy,TA,_⟩=>by injection hy with hy;omega)|exact⟨λh=>⟨x,rfl,by omega,by omega⟩,λ⟨y,hy,TA,hy3⟩=>by omega⟩)|exact kr (by first|exact(λ⟨x,hx,_⟩=>by rw[M7.XK rn]at hx;cases hx)|exact(λ⟨x,hx,_⟩=>by rw[M7.XL (by omega)]at hx;cases hx)|exact(λ⟨y,hy,TA,_⟩=>by injection hy with hy;omega)|exact⟨λh=>⟨x,rfl,by omega,by omega⟩,λ⟨y,hy,TA,hy3⟩=>by omega⟩))):P:=h
theorem Ei{k:Nat}(h:k<E b):(bv b)[k*1]? =some (.int .u8 ((b.getD k 0).toNat:Int)):=by
 rw[cH];simp[bv,List.getD,fc h]
def vn(b:al)(p:Nat):Int:=if p+3<=E b then (match fb b (iU b p) p with|some q=>(q:Int)|none=>-1) else-1
def qV(b:al)(m:Nat):List Int:=(List.range m).map (vn b)
@[simp] theorem ap9(b:al)(m:Nat):E (qV b m)=m:=by simp[qV]
theorem xO(b:al)(m:Nat):qV b (m+1)=qV b m++[vn b m]:=by simp[qV,lT]
theorem J1{b:al}{m p:Nat}(h:p<m):(ints .i64 (qV b m))[p*1]? =some (ah (vn b p)):=by
 rw[cH];simp[ints,qV,h]
theorem af8{m:Nat}(h:¬m+3<=E b):ints .i64 (qV b m)++[Value.int .i64 (-1)]=ints .i64 (qV b (m+1)):=by
 rw[xO];simp[ints,vn,h]
theorem abb{m:Nat}(h:m+3<=E b)(hn:fb b (iU b m) m=none):ints .i64 (qV b m)++[Value.int .i64 (-1)]=ints .i64 (qV b (m+1)):=by
 rw[xO];simp[ints,vn,hn]
theorem abc{m p:Nat}(h:m+3<=E b)(hp:fb b (iU b m) m=some p):(ints .i64 (qV b m)++[Value.int .i64 (-1)]).set (m*1) (ah (((fb b (iU b m) m).getD 0:Nat):Int))=ints .i64 (qV b (m+1)):=by
 rw[xO,cH,qa _ _ ak,hp];simp[ints,vn,h,hp]
abbrev Ck(g gm:Nat)(es:List MapEntry)(cl:Nat)(A:bk)(c:Nat)(b:al)(m:Nat)(F:aR):aR:=
 .bG g 300 [.map (some gm),.slice A m c]:: .own 3 1 A m c (ints .i64 (qV b m)):: .obj gm (.map es.toArray cl)::F
theorem amq{at_:Nat}(hb:fo B w0 F A c b)(h:at_+3<=E b)(hl:E b<=1000000):
  aZ B w0 250 [.slice A (E b) c,ah at_] F (λr L=>r=Hv (iU b at_)∧L=F):=by
 refine dU.yw hb λnZ _=>?_;refine fw func250 20 [0,1] ?_;refine bc ?_;refine bh λg4=>?_;refine bE ?_;refine cE F ?_;refine ae 0 ?_;refine ae 1 ?_;refine ae 2 ?_;refine aU 3 rfl (au ag rfl aB aa (Ei aa)) ?_;refine ae 4 ?_;refine ae 5 ?_;refine ae 6 ?_;refine aU 7 rfl (aE (i:=at_+1) underlying27 ag rfl rfl aa aa aB) ?_;refine aU 8 rfl (au ag rfl aB aa (Ei aa)) ?_;refine ae 9 ?_;refine ae 10 ?_;refine ae 11 ?_;refine aU 12 rfl (aE (i:=at_+2) underlying27 ag rfl rfl aa aa aB) ?_;refine aU 13 rfl (au ag rfl aB aa (Ei aa)) ?_;refine aU 14 rfl (eZ [(0,_),(1,_),(2,_)] [_,_,_] rfl rfl ag) (aA 15 (aF ?_));refine cP [4] ?_;refine bc ?_;refine J_ rfl rfl ag aW gV (.skip (.refl _)) ?_;exact⟨rfl,rfl⟩
theorem aqg{at_:Nat}(hb:fo B w0 F A2 c2 b)(hk:Hz es b at_)(ug:at_<E b)(hl:E b<=1000000):
  aZ B w0 207 [br g,.slice A2 (E b) c2,ah at_] (Ck g gm es cl A c b at_ F)
   (λr L=>∃es' cl' A' c',r= .tuple #[]∧Hz es' b (at_+1)∧L=Ck g gm es' cl' A' c' b (at_+1) F):=by
 refine fw func207 49 [0,1,2] ?_;refine bI ?_;refine dL fT rfl rfl rfl rfl rfl (λ_=>rfl) aW aa aa ?_;intro _ Ce KQ;refine jt ?_;refine aj (λrm=>?_) λrm=>?_
 ·refine bc ?_;refine aq (L':=Ck g gm es cl Ce KQ b (at_+1) F) (bw rfl (az rfl (af8 aa) (.refl _))) (aF ?_);exact⟨es,cl,Ce,KQ,rfl,hk.skip aa,rfl⟩
 ·refine bB ?_;refine ai rfl (amq aB aa hl) ?_;refine bh λg6=>?_;refine aF ?_;refine ve [0,2,6] ?_;refine bO ?_;refine bL (I7 k3T rfl rfl aW hk) rfl (cF ?_);refine iH (λuI=>?_) λuI=>?_
  ·obtain⟨p,hp⟩:=Option.isSome_iff_exists.1 uI;have hpa:=lW hp;refine bO ?_;refine ve [0,2,6] ?_;refine aF ?_;refine cE (.bG g6 350 [.int .u8 ((b.getD at_ 0).toNat:Int),.int .u8 ((b.getD (at_+1) 0).toNat:Int),.int .u8 ((b.getD (at_+2) 0).toNat:Int)]:: .bG g 300 [.map (some gm),.slice Ce (at_+1) KQ]::F) ?_;refine ae 0 ?_;refine ae 1 ?_;refine ae 2 ?_;refine ae 3 ?_;refine ae 4 ?_;refine ae 5 ?_;refine aA 6 (kJ rfl .no (Ot k3T rfl rfl rfl aW hk aa) aqY ?_);rintro _ _ ⟨es6,cl6,hk6,rfl⟩;refine bc ?_;refine aq (L':=Ck g gm es6 cl6 Ce KQ b (at_+1) F) (.trans ((gE (gE (gE (.skip (.refl _)))))) (bw rfl (az rfl (abc aa hp) (.refl _)))) (aF ?_);exact⟨es6,cl6,Ce,KQ,rfl,hk6,rfl⟩
  ·refine bc ?_;refine cE (.bG g6 350 [.int .u8 ((b.getD at_ 0).toNat:Int),.int .u8 ((b.getD (at_+1) 0).toNat:Int),.int .u8 ((b.getD (at_+2) 0).toNat:Int)]:: .bG g 300 [.map (some gm),.slice Ce (at_+1) KQ]::F) ?_;refine ae 0 ?_;refine ae 1 ?_;refine ae 2 ?_;refine ae 3 ?_;refine ae 4 ?_;refine ae 5 ?_;refine aA 6 (kJ rfl .no (Ot k3T rfl rfl rfl aW hk aa) aqY ?_);rintro _ _ ⟨es6,cl6,hk6,rfl⟩;refine cP [] ?_;refine aF ?_;refine aq (L':=Ck g gm es6 cl6 Ce KQ b (at_+1) F) (.trans ((gE (gE (gE (.skip (.refl _)))))) (bw rfl (az rfl (abb aa (by simpa using uI)) (.refl _)))) (aF ?_);exact⟨es6,cl6,Ce,KQ,rfl,hk6,rfl⟩
theorem ME{x y:UInt8}:((x.toNat:Nat):Int)=(y.toNat:Int)↔x=y:=⟨λh=>mR.1 aa,λh=>by rw[h]⟩
theorem Y3{p a n:Nat}(hn:n<257)(h:a+n<E b)(he:b.getD (p+n) 0=b.getD (a+n) 0):nu b p a (257-n) n=nu b p a (257-(n+1)) (n+1):=by
 rw[show 257-n=(257-(n+1))+1 by omega,nu,ao ⟨hn,h,he⟩]
theorem R3{p a n:Nat}(hn:n<=257)(h:¬(n<257∧a+n<E b∧b.getD (p+n) 0=b.getD (a+n) 0)):nu b p a (257-n) n=n:=by
 by_cases e:n=257
 ·subst e;rfl
 ·rw[show 257-n=(257-(n+1))+1 by omega,nu,aw h]
theorem aik{p a:Nat}(hb:fo B w0 F A c b)(hp:p<a)(ha:a<E b)(hl:E b<=1000000):
  aZ B w0 251 [.slice A (E b) c,ah p,ah a] F (λr L=>r=ah (pJ b p a)∧L=F):=by
 refine fw func251 36 [0,1,2] ?_;refine cF ?_;refine aD (λzf zL zm=>∃(n:Nat),(n<=257∧nu b p a (257-n) n=pJ b p a)∧257-n=zm∧Sub zf [(0,.slice A (E b) c),(1,ah p),(2,ah a),(7,ah n)]∧Wk zL (F)) _ ⟨0,⟨bU _,rfl⟩,rfl,bp,.refl _⟩ ?_;rintro _ _ _ ⟨n,⟨hn,hN⟩,rfl,hs,hp⟩;refine aT hs hp ?_;clear hs hp;refine bE ?_;refine Dw 25 32 [0,1,2,7] (n<257∧a+n<E b∧b.getD (p+n) 0=b.getD (a+n) 0) ?_ ?_
 ·refine bE ?_;refine iP rfl rfl rfl (λjU=>?_) (λjU=>?_)
  ·refine cY ?_;refine iP rfl rfl rfl (λiC=>?_) (λiC=>?_)
   ·refine bK ?_;refine bL (aE (i:=p+n) underlying27 ag rfl rfl aa aa aB) rfl (aF ?_);refine bL (au ag rfl aB aa (Ei aa)) rfl (bO ?_);refine bL (aE (i:=a+n) underlying27 ag rfl rfl aa aa aB) rfl (aF ?_);refine bL (au ag rfl aB aa (Ei aa)) rfl (bE ?_);exact rj (by exact dG (by first|exact λh=>absurd h.1 (by omega)|exact λh=>absurd h.2.1 (by omega)|exact⟨λh=>⟨by omega,by omega,ME.1 h⟩,λh=>ME.2 h.2.2⟩))
   ·refine cY ?_;exact rj aql
  ·refine H5 ?_;exact rj aql
 ·refine bc ?_;refine aj (λCw=>?_) λCw=>?_
  ·refine bO ?_;refine av ⟨_,aa,n+1,⟨aa,by rw[<-Y3 Cw.1 Cw.2.1 Cw.2.2];exact hN⟩,rfl,bp,.refl _⟩
  ·have hNe:pJ b p a=n:=by rw[<-hN];exact R3 hn Cw
   refine cY ?_;exact⟨by rw[hNe],rfl⟩
theorem aaM{a f n d:Nat}{p:Option Nat}(h:¬(∃x,p=some x∧a-x<=4095∧n<257)):tL b a f p n d=(n,d):=by
 cases f with
 |zero=>rfl
 |succ f=>
  cases p with
  |none=>rfl
  |some x=>rw[tL,aw λhc=>h ⟨x,rfl,hc⟩]
def apc(o:Option Nat):Int:=match o with|some x=>(x:Int)|none=>-1
theorem aba{x:Nat}(h:x+3<=E b):vn b x=apc (fb b (iU b x) x):=by
 unfold vn apc;rw[ao h]
theorem zo{k:K3}:∀{m p:Nat},fb b k m=some p->p+3<=E b
 |0,p,h=>by cases h
 |m+1,p,h=>by
  unfold fb at h;split at h
  ·rename_i hc;injection h with h;omega
  ·exact zo h
def Sk(b:al)(a:Nat)(o:Option Nat)(q:Int):Prop:=((fb b (iU b a) a).isSome=true∧q=apc o)∨((fb b (iU b a) a).isSome=false∧o=none)
theorem Sk.start{a:Nat}:Sk b a (fb b (iU b a) a) (((fb b (iU b a) a).getD 0:Nat):Int):=by
 unfold Sk;cases fb b (iU b a) a with
 |none=>exact .inr ⟨rfl,rfl⟩
 |some x=>exact .inl ⟨rfl,rfl⟩
theorem Sk.get{a:Nat}{o:Option Nat}{q:Int}(h:Sk b a o q)(h1:(fb b (iU b a) a).isSome=true)(h2:q≠-1):∃x:Nat,o=some x∧q=x:=by
 rcases h with⟨_,h⟩|⟨h,_⟩
 ·cases o with
  |none=>exact absurd h h2
  |some x=>exact⟨x,rfl,h⟩
 ·rw[h]at h1;cases h1
theorem Sk.XK{a:Nat}{o:Option Nat}{q:Int}(h:Sk b a o q)(h1:(fb b (iU b a) a).isSome=false):o=none:=by
 rcases h with⟨h,_⟩|⟨_,h⟩
 ·rw[h]at h1;cases h1
 ·exact h
theorem Sk.XL{a:Nat}{o:Option Nat}{q:Int}(h:Sk b a o q)(h1:q=-1):o=none:=by
 rcases h with⟨_,h⟩|⟨_,h⟩
 ·cases o with
  |none=>rfl
  |some x=>
   have:q=(x:Int):=h;omega
 ·exact h
theorem Sk.atb{a x:Nat}{o:Option Nat}{q:Int}(h:Sk b a o q)(h1:o=some x)(h2:x+3<=E b):Sk b a (fb b (iU b x) x) (vn b x):=by
 rcases h with⟨h,_⟩|⟨_,h⟩
 ·exact .inl ⟨h,aba h2⟩
 ·rw[h]at h1;cases h1
theorem Sk.val{a x:Nat}{q:Int}(h:Sk b a (some x) q):q=x:=by
 rcases h with⟨_,h⟩|⟨_,h⟩
 ·exact h
 ·cases h
theorem afi{a f n d x:Nat}(h:a-x<=4095∧n<257):tL b a (f+1) (some x) n d=tL b a f (fb b (iU b x) x) (if n<pJ b x a then pJ b x a else n) (if n<pJ b x a then a-x else d):=by
 rw[tL,ao h];split<;>rfl
theorem aaN{a:Nat}(hb:fo B w0 F A2 c2 b)(hk:Hz es b a)(ha:a<E b)(hl:E b<=1000000):
  aZ B w0 206 [br g,.slice A2 (E b) c2,ah a] (Ck g gm es cl A c b a F)
   (λr L=>r= .tuple #[ah (dJ b a).1,ah (dJ b a).2]∧L=Ck g gm es cl A c b a F):=by
 have ajB:E b<a+3->dJ b a=(0,0):=λh=>by rw[dJ,ao h]
 refine fw func206 62 [0,1,2] ?_;refine jG ?_;refine aj (λkF=>?_) λkF=>?_
 ·refine bO ?_;exact⟨by rw[ajB aa];rfl,rfl⟩
 ·have hlg:dJ b a=tL b a a (fb b (iU b a) a) 0 0:=by rw[dJ,aw aa]
  refine bz ?_;refine gy aru rfl (amq aB aa hl) q9 rfl ?_;refine bL (I7 k3T rfl rfl aW hk) rfl (bO ?_);refine aD (λzf zL zm=>∃(o:Option Nat) (q:Int) (f n d:Nat),((∀x,o=some x->x<f)∧(∀x,o=some x->x+3<=E b∧x<a)∧Sk b a o q∧tL b a f o n d=dJ b a∧n<=257∧d<=a)∧f=zm∧Sub zf [(0,br g),(1,.slice A2 (E b) c2),(2,ah a),(6,ah n),(7,ah d),(8,ah q),(9,.bool (fb b (iU b a) a).isSome)]∧Wk zL (Ck g gm es cl A c b a F)) _ ⟨fb b (iU b a) a,(((fb b (iU b a) a).getD 0:Nat):Int),a,0,0,⟨λx h=>lW h,λx h=>⟨zo h,lW h⟩,Sk.start,hlg.symm,bU _,bU _⟩,rfl,bp,.refl _⟩ ?_;rintro _ _ _ ⟨o,q,f,n,d,⟨hof,hox,M7,RR,hn,hd⟩,rfl,hs,hp⟩;refine aT hs hp (bE ?_);refine bR 15 41 [0,1,2,6,7,8,9] (∃x,o=some x∧a-x<=4095∧n<257) ?_ ?_
  ·refine bc ?_;refine l7 rfl rfl rfl (λrn=>?_) (λrn=>?_)
   ·refine bF ?_;refine cD (λCw=>?_) λCw=>?_
    ·obtain⟨x,rfl,rfl⟩:=M7.get rn Cw;obtain⟨hx3,hx4⟩:=hox x rfl;refine bO ?_;refine cD (λDz=>?_) λDz=>?_
     ·refine b7 ?_;exact aL b_0
     ·refine bc ?_;exact aL b_0
    ·refine bK ?_;exact aL b_0
   ·refine cF ?_;exact aL b_0
  ·refine bc ?_;refine aj (λCy=>?_) λCy=>?_
   ·obtain⟨x,rfl,JD,Xl⟩:=Cy;obtain⟨hx3,hx4⟩:=hox x rfl;have hxf:=hof x rfl;obtain⟨f',rfl⟩:∃f',f=f'+1:=⟨f-1,aa⟩
    obtain rfl:=M7.val;have Hu:=ID b x a;have xy:=afi (b:=b) (a:=a) (f:=f') (d:=d) (x:=x) ⟨JD,Xl⟩;rw[RR]at xy;refine bO ?_;refine ai rfl (aik aB hx4 ha hl) (bz ?_);refine aj (λS5=>?_) λS5=>?_
    ·refine jG ?_;refine ab (au ag rfl aB aa (J1 aa)) rfl (aF ?_);refine ve [0,1,2,6,7,8,9] ?_;refine aF ?_;refine av ⟨_,aa,fb b (iU b x) x,vn b x,f',pJ b x a,a-x,⟨λy hy=>by have:=lW hy;omega,λy hy=>⟨zo hy,by have:=lW hy;omega⟩,M7.atb rfl hx3,by rw[ao aa,ao aa]at xy;exact xy.symm,Hu,aa⟩,rfl,bp,.refl _⟩
    ·refine bO ?_;refine ab (au ag rfl aB aa (J1 aa)) rfl (aF ?_);refine ve [0,1,2,6,7,8,9] ?_;refine aF ?_;refine av ⟨_,aa,fb b (iU b x) x,vn b x,f',n,d,⟨λy hy=>by have:=lW hy;omega,λy hy=>⟨zo hy,by have:=lW hy;omega⟩,M7.atb rfl hx3,by rw[aw aa,aw aa]at xy;exact xy.symm,hn,hd⟩,rfl,bp,.refl _⟩
   ·have hle:=aaM (b:=b) (a:=a) (f:=f) (d:=d) Cy;rw[RR]at hle;rw[hle];refine jt ?_;exact⟨rfl,rfl⟩
def lD(l:List bS):cZ:=l.flatMap bS.cells
theorem Kn(l:List bS)(t:bS):lD (l++[t])=lD l++bS.cells t:=by simp[lD]
theorem ZR{a f:Nat}(h:a<E b)(h3:¬3<=(dJ b a).1):findF b (f+1) a=(b.getD a 0,0,0)::findF b f (a+1):=by
 rw[findF,ao h,aw h3]
theorem OH{a f:Nat}(h:a<E b)(h3:3<=(dJ b a).1):findF b (f+1) a=(0,((dJ b a).1:Int),((dJ b a).2:Int))::findF b f (a+(dJ b a).1):=by
 rw[findF,ao h,ao h3]
theorem ZQ{a f:Nat}(h:¬a<E b):findF b f a=[]:=by
 cases f with
 |zero=>rfl
 |succ f=>rw[findF,aw h]
theorem TS{a:Nat}(h:3<=(dJ b a).1):a+(dJ b a).1<=E b∧(dJ b a).1<=257∧(dJ b a).2<=4095:=by
 obtain⟨h1,h2⟩:=qe b a;obtain⟨k1,k2,k3,k4⟩:=h2 aa;have:=(k4 ((dJ b a).1-1) aa).1;exact⟨aa,h1,k3⟩
theorem anI(hb:fo B w0 F A2 c2 b)(hl:E b<=1000000):
  aZ B w0 145 [.slice A2 (E b) c2] F
   (λr L=>∃A' c',r= .slice A' (E (jJ b)) c'∧L= .own 170 3 A' (E (jJ b)) c' (lD (jJ b))::F):=by
 refine fw func145 50 [0] ?_;refine bI ?_;refine mj (ZK b) rfl ?_;rintro _ _ ⟨gm,es0,cl0,rfl,DD,rfl⟩;refine ab (bx [(0,_)] [.map none,.slice none 0 0] [0] [_,_] rfl rfl ag) rfl (bg λHt=>?_);refine b7 ?_;refine a_ 3 1 none (bB ?_);refine a_ 170 3 none (bF ?_);refine aD (λzf zL zm=>∃(a f:Nat) (acc:List bS) (es:List MapEntry) (cl:Nat) (A3:bk) (c3:Nat) (A4:bk) (c4:Nat),(a<=E b∧E b-a<=f∧acc++findF b f a=jJ b∧Hz es b a∧E acc<=a)∧f=zm∧Sub zf [(0,.slice A2 (E b) c2),(3,br Ht),(4,.slice A4 (E acc) c4),(5,ah a)]∧Wk zL (.own 170 3 A4 (E acc) c4 (lD acc)::Ck Ht gm es cl A3 c3 b a F)) _ ⟨0,E b,[],es0,cl0,none,0,none,0,⟨bU _,aa,rfl,DD,gC _⟩,rfl,bp,.trans ((eu (gE (eu (eu (.refl _)))))) (az rfl rfl (bw rfl (az rfl rfl (.refl _))))⟩ ?_;rintro _ _ _ ⟨a,f,acc,es,cl,A3,c3,A4,c4,⟨ha,hf,mc,hk,Hu⟩,rfl,hs,hp⟩;refine aT hs hp (bO ?_);refine aj (λlf=>?_) λlf=>?_
 ·obtain⟨f',rfl⟩:∃f',f=f'+1:=⟨f-1,aa⟩
  refine bK ?_;refine ab (au ag rfl aB aa (Ei aa)) rfl ?_;refine ab (bx [(0,_)] [.int .u8 0,ah 0,ah 0] [0] [_,_,_] rfl rfl ag) rfl (bh λg6=>?_);refine bK ?_;refine dY (λzf zL=>∃(tl:UInt8) (tn td:Int) (st:Nat),(1<=st∧a+st<=E b∧findF b (f'+1) a=(tl,tn,td)::findF b f' (a+st))∧Sub zf [(0,.slice A2 (E b) c2),(3,br Ht),(4,.slice A4 (E acc) c4),(5,ah a),(6,br g6),(7,ah st)]∧Wk zL (.bG g6 170 [.int .u8 (tl.toNat:Int),ah tn,ah td]:: .own 170 3 A4 (E acc) c4 (lD acc)::Ck Ht gm es cl A3 c3 b a F)) ?_ ?_
  ·refine bF ?_;refine ai rfl ((aaN (g:=Ht) aB hk aa hl).perm ((BQ (BQ (BQ (fV (fV (.refl _)))))))) (de ?_);refine ve [0,3,4,5,6,7,8,9,30] ?_;refine aF ?_;refine aj (λz_=>?_) λz_=>?_
   ·have ar':3<=(dJ b a).1:=by omega
    obtain⟨tT,rR,M4⟩:=TS ar';refine b7 ?_;refine ab (bx [(1,_),(2,_)] [.int .u8 0,ah 0,ah 0] [1,2] [_,_,_] rfl rfl ag) rfl (bI ?_);exact bC ⟨0,((dJ b a).1:Int),((dJ b a).2:Int),(dJ b a).1,⟨aa,tT,OH aa ar'⟩,bp,(ur (ur (eu (eu (eu (.refl _))))))⟩
   ·refine aF ?_;exact bC ⟨b.getD a 0,0,0,1,⟨aa,aa,ZR aa aa⟩,bp,(ur (ur (eu (eu (eu (.refl _))))))⟩
  ·rintro _ _ ⟨tl,tn,td,st,⟨aeM,aeN,hft⟩,hs,hp⟩;refine aT hs hp (b7 ?_);refine sw amL rfl rfl rfl aa cw rfl rfl rfl (λ_=>rfl) aW aa aa ?_;intro _ MR NS;refine bz ?_;refine aD (λzf zL zm=>∃(m:Nat) (es2:List MapEntry) (cl2:Nat) (A5:bk) (c5:Nat),(m<=st∧Hz es2 b (a+m))∧st-m=zm∧Sub zf [(0,.slice A2 (E b) c2),(3,br Ht),(4,.slice MR (E acc+1) NS),(5,ah (a+m:Nat)),(39,ah st),(40,ah m)]∧Wk zL (.own 170 3 MR (E acc+1) NS (lD acc++[.int .u8 (tl.toNat:Int),ah tn,ah td])::Ck Ht gm es2 cl2 A5 c5 b (a+m) F)) _ ⟨0,es,cl,A3,c3,⟨bU _,hk⟩,rfl,bp,(gE (gE (gE (gE (.skip (.refl _))))))⟩ ?_;rintro _ _ _ ⟨m,es2,cl2,A5,c5,⟨hm,Jw⟩,rfl,hs,hp⟩;refine aT hs hp (bB ?_);refine aj (λCy=>?_) λCy=>?_
   ·refine bO ?_;refine be arf rfl ((aqg (g:=Ht) aB Jw aa hl).perm ((mC (mC (mC (fV (.refl _))))))) rfl ?_;rintro _ _ ⟨auc,atX,A45,c45,rfl,ass,cO⟩;obtain rfl:=cO.symm;refine cY ?_;refine av ⟨_,aa,m+1,auc,atX,A45,c45,⟨aa,ass⟩,rfl,bp,(ur (eu (eu (eu (.refl _)))))⟩
   ·obtain rfl:m=st:=by omega
    have xB:E (acc++[(tl,tn,td)])=E acc+1:=by simp
    refine bF ?_;refine av ⟨_,aa,a+m,f',acc++[(tl,tn,td)],es2,cl2,A5,c5,MR,NS,⟨aa,aa,by rw[<-mc,hft];simp[bX],Jw,aa⟩,rfl,bp,az aa (by rw[Kn];rfl) (.refl _)⟩
 ·have ye:=ZQ (b:=b) (a:=a) (f:=f) aa;rw[ye,gl]at mc;subst mc;refine cF ?_;refine aq (L':=.own 170 3 A4 (E (jJ b)) c4 (lD (jJ b))::F) ((eu (.s3 (.refl _)))) (aF ?_);exact⟨A4,c4,rfl,rfl⟩
end
section
variable{gm:Nat}{l:List bS}
def Kk(l:List bS)(k:Nat):bS:=l.getD k (0,0,0)
theorem G3{k:Nat}(h:k<E l):((lD l).drop (k*3)).take 3=bS.cells (Kk l k):=by
 induction l generalizing k with
 |nil=>simp at h
 |cons t r ih=>
  cases k with
  |zero=>simp[lD,bS.cells,Kk]
  |succ k=>
   have:=ih (k:=k) ng;have e:lD (t::r)=bS.cells t++lD r:=by simp[lD]
   rw[e,kH,zn (k*3) 3,List.drop_append,mU (by simp[bS.cells]),mW];simpa[bS.cells,Kk]using this
theorem JY(most:Int){out:al}{t:bS}{r:List bS}(h:¬fm t):iv most out (t::r)=([],7):=by rw[iv,ao h]
theorem JZ(most:Int){out:al}{t:bS}{r:List bS}(h:fm t)(h2:(E out:Int)<t.2.2):iv most out (t::r)=([],8):=by rw[iv,aw (λk=>k h),ao h2]
theorem Gh(most:Int){out:al}{t:bS}{r:List bS}(h:fm t)(h2:¬(E out:Int)<t.2.2)(h3:most-E out<max 1 t.2.1):iv most out (t::r)=([],6):=by rw[iv,aw (λk=>k h),aw h2,ao h3]
theorem J0(most:Int){out:al}{t:bS}{r:List bS}(h:fm t)(h2:¬(E out:Int)<t.2.2)(h3:¬most-E out<max 1 t.2.1)(h4:t.2.1=0):iv most out (t::r)=iv most (out++[t.1]) r:=by
 rw[iv,aw (λk=>k h),aw h2,aw h3,ao h4]
theorem Gf(most:Int){out:al}{t:bS}{r:List bS}(h:fm t)(h2:¬(E out:Int)<t.2.2)(h3:¬most-E out<max 1 t.2.1)(h4:¬t.2.1=0):iv most out (t::r)=iv most (mm t.2.2.toNat t.2.1.toNat out) r:=by
 rw[iv,aw (λk=>k h),aw h2,aw h3,aw h4]
theorem Ex(d:Nat):∀(n:Nat) (out:al),mm d (n+1) out=mm d n out++[(mm d n out).getD (E (mm d n out)-d) 0]
 |0,out=>rfl
 |n+1,out=>by rw[mm,Ex d n,mm]
theorem FV{tl:UInt8}{tn td:Int}(h:fm (tl,tn,td))(h0:¬tn=0):tl=0∧3<=tn∧tn<=257∧1<=td∧td<=4095:=by
 unfold fm at h
 rwa [aw h0]at h
def Yy(l:List bS):Prop:=∀t∈l,(-9223372036854775808<=t.2.1∧t.2.1<=9223372036854775807)∧-9223372036854775808<=t.2.2∧t.2.2<=9223372036854775807
theorem api(hb:aM B w0 F 3 (.slice A (E l) c) (E l) (lD l))(hl:E l<=1000000)(O_:-9223372036854775808<=most)(uj:most<=1000000)(kN:Yy l):
  aZ B w0 328 [.slice A (E l) c,ah most] F
   (λr L=>∃A' c',r= .tuple #[.slice A' (E (k_ l most).1) c',ah (k_ l most).2]∧L= .own 5 1 A' (E (k_ l most).1) c' (bv (k_ l most).1)::F):=by
 refine fw func328 62 [0,1] ?_;refine cY ?_;refine aj (λjU=>?_) λjU=>?_
 ·have e:k_ l most=([],13):=ao aa;rw[e];refine bK ?_;refine aC 5 1 none (aF ?_);exact⟨none,0,rfl,rfl⟩
 ·have mP:k_ l most=iv most [] l:=aw aa;refine bE ?_;refine a_ 5 1 none (cY ?_);refine aD (λzf zL zm=>∃(k:Nat) (out:al) (A6:bk) (c6:Nat),(k<=E l∧iv most out (l.drop k)=k_ l most∧(E out:Int)<=most)∧E l-k=zm∧Sub zf [(1,ah most),(6,.slice A6 (E out) c6),(11,.slice A (E l) c),(12,ah (E l)),(13,ah k)]∧Wk zL (.own 5 1 A6 (E out) c6 (bv out)::F)) _ ⟨0,[],none,0,⟨bU _,mP.symm,bT⟩,rfl,bp,.refl _⟩ ?_;rintro _ _ _ ⟨k,out,A6,c6,⟨hk,yg,LA⟩,rfl,hs,hp⟩;refine aT hs hp (bB ?_);refine aj (λku=>?_) λku=>?_
  ·obtain⟨⟨tl,tn,td⟩,ht⟩:∃t,t=Kk l k:=⟨_,rfl⟩
   have hd:l.drop k=(tl,tn,td)::l.drop (k+1):=by rw[ht];exact dD aa _
   have htv:=G3 (l:=l) (k:=k) aa;rw[<-ht]at htv;rw[hd]at yg;obtain⟨⟨ho1,ho2⟩,ho3,ho4⟩:=kN (tl,tn,td) (by rw[ht];exact bj aa _);have ho1:-9223372036854775808<=tn:=ho1;have ho2:tn<=9223372036854775807:=ho2;have ho3:-9223372036854775808<=td:=ho3;have ho4:td<=9223372036854775807:=ho4;refine bI ?_;refine ab (dq 3 ag rfl aB aa [.int .u8 (tl.toNat:Int),ah tn,ah td] (tj htv) rfl) rfl ?_;refine bh λg8=>?_;refine bK ?_;refine ai rfl (afq (tl,tn,td)) (b7 ?_);refine aj (λiI=>?_) λiI=>?_
   ·have aur:¬fm (tl,tn,td):=iI;rw[JY most aur]at yg;rw[<-yg];refine ei ?_;refine aC 5 1 none (aq (L':=.own 5 1 none 0 0 []::F) ((eu (.s2 (.refl _)))) (aF ?_));exact⟨none,0,rfl,rfl⟩
   ·have fy:fm (tl,tn,td):=jN.1 iI;refine bz ?_;refine aj (λmx=>?_) λmx=>?_
    ·rw[JZ most fy mx]at yg;rw[<-yg];refine b7 ?_;refine ve [4,5] ?_;refine bO ?_;refine aC 5 1 none (aq (L':=.own 5 1 none 0 0 []::F) ((eu (.s2 (.refl _)))) (aF ?_));exact⟨none,0,rfl,rfl⟩
    ·refine b7 ?_;refine ab (K6 rfl rfl) rfl (bB ?_);refine ve [1,6,8,11,12,13,27] ?_;refine aF ?_;refine aj (λkG=>?_) λkG=>?_
     ·rw[Gh most fy mx kG]at yg;rw[<-yg];refine ei ?_;refine aC 5 1 none (aq (L':=.own 5 1 none 0 0 []::F) ((eu (.s2 (.refl _)))) (aF ?_));exact⟨none,0,rfl,rfl⟩
     ·refine de ?_;refine aj (λDz=>?_) λDz=>?_
      ·rw[J0 most fy mx kG Dz]at yg;have xB:E (out++[tl])=E out+1:=by simp
       refine bF ?_;refine dL cB rfl rfl rfl rfl rfl (λ_=>rfl) aW aa aa ?_;intro _ MS c43;refine de ?_;refine av ⟨_,aa,k+1,out++[tl],MS,c43,⟨aa,yg,by rw[aX];simp;omega⟩,rfl,bp,.skip (az ak Co (.refl _))⟩
      ·rw[Gf most fy mx kG Dz]at yg;obtain⟨uk,wU,hr3,hr4,hr5⟩:=FV fy Dz;refine bz ?_;refine aD (λzf zL zm=>∃(m:Nat) (A7:bk) (c7:Nat),((m:Int)<=tn)∧tn.toNat-m=zm∧Sub zf [(1,ah most),(6,.slice A7 (E (mm td.toNat m out)) c7),(8,br g8),(11,.slice A (E l) c),(12,ah (E l)),(13,ah k),(45,ah tn),(46,ah m)]∧Wk zL (.bG g8 170 [.int .u8 (tl.toNat:Int),ah tn,ah td]:: .own 5 1 A7 (E (mm td.toNat m out)) c7 (bv (mm td.toNat m out))::F)) _ ⟨0,A6,c6,aa,rfl,bp,.refl _⟩ ?_;rintro _ _ _ ⟨m,A7,c7,hm,rfl,hs,hp⟩;refine aT hs hp (bB ?_);refine aj (λW5=>?_) λW5=>?_
       ·have uh:=pq td.toNat m out;have ui:=Ex td.toNat m out;have hcm:=pq td.toNat (m+1) out;refine cF ?_;refine ab (aE (i:=E (mm td.toNat m out)-td.toNat) underlying27 ag rfl rfl aa aa aB) rfl ?_;refine ab (au ag rfl aB aa (Ei (k:=E (mm td.toNat m out)-td.toNat) aa)) rfl ?_;refine dL cB rfl rfl rfl rfl rfl (λ_=>rfl) aW aa aa ?_;intro _ A58 c58;refine bK ?_;refine av ⟨_,aa,m+1,A58,c58,aa,rfl,bp,bw rfl (az aa (by rw[ui];simp[bv]) (.refl _))⟩
       ·obtain rfl:tn=m:=by omega
        have uh:=pq td.toNat m out;rw[oo]at yg;refine bz ?_;refine av ⟨_,aa,k+1,mm td.toNat m out,A7,c7,⟨aa,yg,aa⟩,rfl,bp,.skip (.refl _)⟩
  ·rw[mU aa,iv]at yg;rw[<-yg];refine ei ?_;exact⟨A6,c6,rfl,rfl⟩
end
end Go.Proofs.YtaodmbolhoafcaaGreatDoor
