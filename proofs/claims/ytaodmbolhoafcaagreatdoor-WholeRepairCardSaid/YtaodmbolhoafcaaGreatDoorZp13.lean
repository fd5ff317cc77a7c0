/-
  Texts of one proof, joined: part 13. No condition.
-/
import Derived.Test.YtaodmbolhoafcaaGreatDoorZp12
open List renaming length→E
open Go.RowKit Go.Proofs.Tryz
namespace Go.Proofs.YtaodmbolhoafcaaGreatDoor
set_option linter.unusedVariables false
set_option linter.unusedSimpArgs false
set_option maxRecDepth 20000
variable{B:Nat}{w0:World}{F L0:aR}{A A1 A2 A3 A4 A5 A6 Af Ao:bk}{n c c1 c2 c3 c4 c5 c6 cf co g gc:Nat}{v0 v1 v2 v3 v4 v5 v6 v7 v8 v9 va:Value}{s:Cs}{r k m N gp gq:Nat}
section
theorem PU{n:Nat}(hn:n<=1000000000):∀(f:Nat) (s:Cs) (o:al),n<=f+E o->E o<=n->(Im f n s o).2.e=0->E (Im f n s o).1=n
 |0,s,o,h1,h2,_=>by show E o=n;omega
 |f+1,s,o,h1,h2,h3=>by
  by_cases hc:E o<n∧s.e=0
  ·rw[TX hc]at h3⊢;have hT:(M_ n s o).e=0:=bA λk=>by
    rw[zw (λq=>k q.2)]at h3;exact k h3
   obtain⟨k1,k2,_⟩:=TY hT;have DD:RU n s o≠0:=λk=>k1 ⟨k2,.inl k⟩;have Bl:=afn (s:=s) h2 hn;exact PU hn f _ _ bT bT h3
  ·rw[zw hc]at h3⊢;have hh:¬E o<n:=λk=>hc ⟨k,h3⟩;show E o=n;omega
theorem Q2:∀(k was:Nat) (s:Cs),(CX k was s).2.e=0->E (CX k was s).1=k
 |0,_,_,_=>rfl
 |k+1,was,s,h=>by
  rw[CX]at h⊢;by_cases h0:s.e=0
  ·rw[ao h0]at h⊢;rw[dI,Q2 k _ _ h]
  ·rw[aw h0]at h;exact absurd h h0
theorem ahp:∀(k was:Nat) (s:Cs),∀t∈(CX k was s).1,t<18446744073709551616
 |0,_,_,t,h=>by cases h
 |k+1,was,s,t,h=>by
  rw[CX]at h;split at h
  ·rcases fj.1 h with rfl|h
   ·exact aih _ _
   ·exact ahp k _ _ t h
  ·cases h
theorem aga{n:Nat}{l:al}(h:(oM n l).2.2.2=0):E (oM n l).1=n∧E (oM n l).2.1=n∧n<=20000∧∀t∈(oM n l).1,t<18446744073709551616:=by
 by_cases h1:(n:Int)<0∨(20000:Int)<n
 ·rw[XY h1]at h;simp at h
 ·by_cases h2:(Ir n l).2.e=0
  ·rw[Ut h1 h2];have hv:=PU (n:=n) aa (n+1) (Na n l).2 [] ak ak h2;refine⟨?_,hv,aa,ahp _ _ _⟩;by_cases h0:n=0
   ·subst h0;rfl
   ·have ht:(Na n l).2.e=0:=bA λk=>by
     unfold Ir at h2;rw[zw (λq=>k q.2)]at h2;exact k h2
    exact Q2 _ _ _ ht
  ·rw[XZ h1 h2]at h;exact absurd h h2
theorem anq{o:aN}{b:al}(di:E b<=1000000)(h:¬ct 2 (o2 o)≠0)(h3:¬HW (d_ b) (E (q_ b))≠0)(h4:¬yE (fq (d_ b)).1.sum (xk b)≠0):tw (anp o b):=by
 have hdl:=K9 (d_ b);have Z9:=EK (d_ b);have hz:=EJ (bA h3);have yZ:(oM ((fq (d_ b)).1.sum:Nat) (aH (xk b)).1).2.2.2=0:=by
  have h4:=bA h4;unfold yE at h4;split at h4
  ·rename_i k;exact absurd h4 k
  ·split at h4
   ·rename_i k;exact absurd h4 k
   ·rename_i k;exact bA k
 obtain⟨r1,r2,r3,r4⟩:=aga yZ;have hom:=xL (.inr (.inl rfl)) (bA h);obtain⟨_,_,m4,_⟩:=hom;obtain⟨m5,m6⟩:=m4 (.inr rfl);have m6:o.2.2.1<=64:=m6;obtain⟨z1,z2,z3⟩:=ae0 (size:=o.2.2.1) (bound:=((fq (d_ b)).1.sum:Nat)) (b:=(aH (wz b)).1) aa;refine⟨?_,r1,r2,by show(fq (d_ b)).1.sum<=20000;omega,by show(fq (d_ b)).1.length<=20000;omega,λf hf=>?_,z1,z2,z3,r4⟩
 ·show(sm (fq (d_ b)).2.1 (q_ b)).length=E (fq (d_ b)).1;rw[vu];omega
 ·have hlr:=vM b;have hle:∀(ss:bf) (r:al),∀f∈sm ss r,E f<=E r:=by
   intro ss;induction ss with
   |nil=>intro r f hf;simp[sm]at hf
   |cons n ss ih=>
    intro r f hf;rw[sm]at hf;rcases fj.1 hf with rfl|hf
    ·rw[eY];omega
    ·have:=ih _ f hf;rw[iG]at this;omega
  have:=hle _ _ f hf;have e:(gh b).1=q_ b:=rfl;rw[e]at hlr;omega
theorem adK{x:iF}{k:Nat}(h:(mw x k).2=0):E (mw x k).1=x.ns.getD k 0:=by
 by_cases h1:(dP (x.bH.getD k [])).2.2≠0
 ·rw[SO h1]at h;exact absurd h h1
 ·by_cases h2:(dP (x.bH.getD k [])).2.1<E (x.bH.getD k [])
  ·rw[SP h1 h2]at h;simp at h
  ·by_cases h3:(rE false (dP (x.bH.getD k [])).1).2≠0
   ·rw[SQ h1 h2 h3]at h;exact absurd h h3
   ·by_cases h4:E (rE false (dP (x.bH.getD k [])).1).1≠x.ns.getD k 0
    ·rw[SR h1 h2 h3 h4]at h;simp at h
    ·rw[SS h1 h2 h3 h4];simp only;rw[lr];exact bA h4
theorem aje{x:iF}{k:Nat}(ho:tw x):∀r∈(mw x k).1,r.1<18446744073709551616:=λr hr=>by
 by_cases h1:(dP (x.bH.getD k [])).2.2≠0
 ·rw[SO h1]at hr;cases hr
 ·by_cases h2:(dP (x.bH.getD k [])).2.1<E (x.bH.getD k [])
  ·rw[SP h1 h2]at hr;cases hr
  ·by_cases h3:(rE false (dP (x.bH.getD k [])).1).2≠0
   ·rw[SQ h1 h2 h3]at hr;cases hr
   ·by_cases h4:E (rE false (dP (x.bH.getD k [])).1).1≠x.ns.getD k 0
    ·rw[SR h1 h2 h3 h4]at hr;cases hr
    ·rw[SS h1 h2 h3 h4]at hr;obtain⟨i,_,rfl⟩:=pC.1 hr;show x.times.getD _ 0<_;rw[ba];cases hq:x.times[(x.ns.take k).sum+i]? with
     |none=>simp
     |some t=>exact ho.tm t (List.mem_of_getElem? hq)
theorem PQ{x:iF}{f k:Nat}{out:List aJ}(h:(mw x k).2≠0):oL x (f+1) k out=([],(mw x k).2):=by rw[oL,ao h]
theorem XC{x:iF}{f k:Nat}{out:List aJ}(h:¬(mw x k).2≠0):oL x (f+1) k out=oL x f (k+1) (out++(mw x k).1):=by rw[oL,aw h]
theorem L4{x:iF}(ho:tw x):∀(f k:Nat) (out:List aJ),(∀r∈out,r.1<18446744073709551616)->∀r∈(oL x f k out).1,r.1<18446744073709551616
 |0,_,_,h,r,hr=>h r hr
 |f+1,k,out,h,r,hr=>by
  by_cases h1:(mw x k).2≠0
  ·rw[PQ h1]at hr;cases hr
  ·rw[XC h1]at hr;refine L4 ho f (k+1) _ (λq hq=>?_) r hr;rcases dz.1 hq with hq|hq
   ·exact h q hq
   ·exact aje ho q hq
theorem XD{x:iF}(ho:tw x):∀r∈(jH x).1,r.1<18446744073709551616:=λr hr=>by
 unfold jH at hr;split at hr
 ·cases hr
 ·split at hr
  ·cases hr
  ·split at hr
   ·cases hr
   ·exact L4 ho _ _ _ (λ_ h=>kC) r hr
section
variable{x:iF}
theorem aoI{e:Int}(h:oL x (E x.bH) 0 []=([],e))(he:e≠0):jH x=([],e):=by unfold jH;rw[h,ao he]
theorem aoJ{out:List aJ}(h:oL x (E x.bH) 0 []=(out,0))(hc:cV out≠0):jH x=([],cV out):=by unfold jH;rw[h,aw ak,ao hc]
theorem aoK{out:List aJ}(h:oL x (E x.bH) 0 []=(out,0))(hc:¬cV out≠0)(hi:¬(x.T=nA out∧x.I=ny out)):jH x=([],15):=by unfold jH;rw[h,aw ak,aw hc,ao hi]
theorem aoL{out:List aJ}(h:oL x (E x.bH) 0 []=(out,0))(hc:¬cV out≠0)(hi:x.T=nA out∧x.I=ny out):jH x=(out,0):=by unfold jH;rw[h,aw ak,aw hc,aw (λk=>k hi)]
end
theorem ahr{LL:List sA}{L:aR}(h:∀e∈LL,aM B w0 L 1 (kl e) (E e.2.2) (bD e.2.2)):mD B w0 L (toI LL):=λe he=>by
 obtain⟨x,hx,rfl⟩:=pC.1 he;have:=h x hx;have e1:ints .i64 (x.2.2.map λ(n:Nat)=>(n:Int))=bD x.2.2:=by simp[ints,bD]
 simp only[dX];rw[e1];exact this
theorem abK{LL:List sA}{m:Nat}(h:∀e∈LL,E e.2.2<=m)(hm:m<=9223372036854775807):∀e∈toI LL,E e.2.2<=9223372036854775807:=λe he=>by
 obtain⟨x,hx,rfl⟩:=pC.1 he;have:=h x hx;simp only[dX];omega
theorem akB{T1 T2:List cm}{L1 L2:List MT}{m1 m2 n2:Nat}(e1:m1=E L1)(e2:m2=E L2)(e3:n2=E T2)(h1:aM B w0 F 1 (.slice A1 (E T1) c1) (E T1) (strs T1))(hL1:aM B w0 F 1 (.slice A2 m1 c2) m1 (L1.map Bn))(hI1:mD B w0 F L1)(h2:aM B w0 F 1 (.slice A3 n2 c3) n2 (strs T2))(hL2:aM B w0 F 1 (.slice A4 m2 c4) m2 (L2.map Bn))(hI2:mD B w0 F L2)(hs:E T1<=1000000000)(j_:E L1<=1000000000)(xC:∀e∈L1,E e.2.2<=9223372036854775807):
  aZ B w0 195 [.agg [.slice A1 (E T1) c1,.slice A2 m1 c2].toArray,.agg [.slice A3 n2 c3,.slice A4 m2 c4].toArray] F (λr L=>r= .bool (decide (T1=T2∧fZ L1=fZ L2))∧L=F):=by
 subst e1;subst e2;subst e3;exact akA h1 hL1 hI1 h2 hL2 hI2 hs j_ xC
theorem ano(HT:bM B w0){x:iF}{FB:List lu}{LL:List sA}(ho:tw x)(tG:FB.map (·.2.2)=x.bH)(hLx:LL.map (·.2.2)=x.I)(hcn:E x.ns<=c1)(hn:aM B w0 (Bo g (.slice A1 (E x.ns) c1) v1 v2 v3 (.slice A3 (E x.times) c3) (.slice A4 (E x.levels) c4) (.slice A5 (E x.T) c5) (.slice A6 (E LL) c6) (.slice Af (E FB) cf) v9::F) 1 (.slice A1 (E x.ns) c1) (E x.ns) (bD x.ns))(ht:aM B w0 (Bo g (.slice A1 (E x.ns) c1) v1 v2 v3 (.slice A3 (E x.times) c3) (.slice A4 (E x.levels) c4) (.slice A5 (E x.T) c5) (.slice A6 (E LL) c6) (.slice Af (E FB) cf) v9::F) 1 (.slice A3 (E x.times) c3) (E x.times) (qF x.times))(hl:aM B w0 (Bo g (.slice A1 (E x.ns) c1) v1 v2 v3 (.slice A3 (E x.times) c3) (.slice A4 (E x.levels) c4) (.slice A5 (E x.T) c5) (.slice A6 (E LL) c6) (.slice Af (E FB) cf) v9::F) 1 (.slice A4 (E x.levels) c4) (E x.levels) (bv x.levels))(hT:aM B w0 (Bo g (.slice A1 (E x.ns) c1) v1 v2 v3 (.slice A3 (E x.times) c3) (.slice A4 (E x.levels) c4) (.slice A5 (E x.T) c5) (.slice A6 (E LL) c6) (.slice Af (E FB) cf) v9::F) 1 (.slice A5 (E x.T) c5) (E x.T) (strs x.T))(hI:aM B w0 (Bo g (.slice A1 (E x.ns) c1) v1 v2 v3 (.slice A3 (E x.times) c3) (.slice A4 (E x.levels) c4) (.slice A5 (E x.T) c5) (.slice A6 (E LL) c6) (.slice Af (E FB) cf) v9::F) 1 (.slice A6 (E LL) c6) (E LL) (LL.map kl))(hIe:∀e∈LL,aM B w0 (Bo g (.slice A1 (E x.ns) c1) v1 v2 v3 (.slice A3 (E x.times) c3) (.slice A4 (E x.levels) c4) (.slice A5 (E x.T) c5) (.slice A6 (E LL) c6) (.slice Af (E FB) cf) v9::F) 1 (kl e) (E e.2.2) (bD e.2.2))(hf:aM B w0 (Bo g (.slice A1 (E x.ns) c1) v1 v2 v3 (.slice A3 (E x.times) c3) (.slice A4 (E x.levels) c4) (.slice A5 (E x.T) c5) (.slice A6 (E LL) c6) (.slice Af (E FB) cf) v9::F) 1 (.slice Af (E FB) cf) (E FB) (FB.map dy))(Jr:∀e∈FB,aM B w0 (Bo g (.slice A1 (E x.ns) c1) v1 v2 v3 (.slice A3 (E x.times) c3) (.slice A4 (E x.levels) c4) (.slice A5 (E x.T) c5) (.slice A6 (E LL) c6) (.slice Af (E FB) cf) v9::F) 1 (dy e) (E e.2.2) (bv e.2.2)):
  aZ B w0 127 [br g] (Bo g (.slice A1 (E x.ns) c1) v1 v2 v3 (.slice A3 (E x.times) c3) (.slice A4 (E x.levels) c4) (.slice A5 (E x.T) c5) (.slice A6 (E LL) c6) (.slice Af (E FB) cf) v9::F)
   (λv L=>∃A' c',v= .tuple #[.slice A' (E (jH x).1) c',ah (jH x).2]∧L= .own 62 4 A' (E (jH x).1) c' (c_ (jH x).1)::Bo g (.slice A1 (E x.ns) c1) v1 v2 v3 (.slice A3 (E x.times) c3) (.slice A4 (E x.levels) c4) (.slice A5 (E x.T) c5) (.slice A6 (E LL) c6) (.slice Af (E FB) cf) v9::F):=by
 have S7:E FB=E x.bH:=by rw[<-tG,dX]
 have hLl:E LL=E x.I:=by rw[<-hLx,dX]
 obtain⟨o1,o2,o3,o4,o5,o6,o7,o8,o9,o10⟩:=ho;have ho:tw x:=⟨o1,o2,o3,o4,o5,o6,o7,o8,o9,o10⟩
 refine fw func127 46 [0] ?_;refine Bg ?_;refine a_ 62 4 none (jG ?_);refine aD (λzf zL zm=>∃(k:Nat) (out:List aJ) (Ao:bk) (co:Nat),(k<=E x.bH∧E out=(x.ns.take k).sum∧oL x (E x.bH-k) k out=oL x (E x.bH) 0 [])∧E x.bH-k=zm∧Sub zf [(0,br g),(4,.slice Ao (E out) co),(15,ah (E FB)),(16,ah (k:Int))]∧Wk zL (.own 62 4 Ao (E out) co (c_ out)::Bo g (.slice A1 (E x.ns) c1) v1 v2 v3 (.slice A3 (E x.times) c3) (.slice A4 (E x.levels) c4) (.slice A5 (E x.T) c5) (.slice A6 (E LL) c6) (.slice Af (E FB) cf) v9::F)) _ ⟨0,[],none,0,⟨bU _,ak,by rw[TL]⟩,rfl,bp,.refl _⟩ ?_;rintro _ _ _ ⟨k,out,Ao,co,⟨hk,LA,H_⟩,rfl,hs,hp⟩;refine aT hs hp (bB ?_);refine aj (λiI=>?_) λiI=>?_
 ·have hkf:E x.bH-k=(E x.bH-(k+1))+1:=by omega
  rw[hkf]at H_;have xD:=oz x.ns (k+1);have M7:(x.ns.take (k+1)).sum=(x.ns.take k).sum+x.ns.getD k 0:=by rw[aY aa 0,w7];simp
  refine ei ?_;refine ay rfl (.perm (acP HT (k:=k) (v6:=.slice A5 (E x.T) c5) (v7:=.slice A6 (E LL) c6) ho aa tG hcn (hn.mono (.cons_cons _ (.cons _ (.refl _)))) (ht.mono (.cons_cons _ (.cons _ (.refl _)))) (hl.mono (.cons_cons _ (.cons _ (.refl _)))) (hf.mono (.cons_cons _ (.cons _ (.refl _)))) (λe he=>(Jr e he).mono (.cons_cons _ (.cons _ (.refl _))))) ((mC (fV (.refl _))))) λVz Ho=>ei ?_;refine aj (λqy=>?_) λqy=>?_
  ·rw[PQ qy]at H_;have e:=aoI H_.symm qy;refine bF ?_;refine ve [2,3] ?_;refine bK ?_;refine aC 62 4 none (aq (.cons (.skip (.cons (.skip (.refl _))))) (aF ?_));rw[e];exact⟨none,0,rfl,rfl⟩
  ·rw[XC qy]at H_;have lg:=adK (bA qy);have Hu:E (out++(mw x k).1)=E out+E (mw x k).1:=aX;refine bF ?_;refine fK (bW Yi rfl aW rfl (aM.own (.head _)) (J9 _) aa aa) λRW c30=>aF ?_;refine ve [0,4,15,16] ?_;refine bB ?_;refine av ⟨_,aa,k+1,out++(mw x k).1,RW,c30,⟨aa,aa,H_⟩,rfl,bp,.trans ((sE (gE (.skip (.refl _))))) (az aa (by rw[we]) (.refl _))⟩
 ·obtain rfl:k=E x.bH:=by omega
  rw[oj,oL]at H_;refine bO ?_;refine ai rfl (pF out (aM.own (.head _))) (bO ?_);refine aj (λuI=>?_) λuI=>?_
  ·have e:=aoJ H_.symm uI;refine bO ?_;refine aC 62 4 none (aq (.cons (.skip (.refl _))) (aF ?_));rw[e];exact⟨none,0,rfl,rfl⟩
  ·obtain⟨q1,q2,q3⟩:=kQ (bA uI) (λr hr=>by
    have:=L4 ho (E x.bH) 0 [] (λ_ h=>kC) r (by rw[<-H_];exact hr);exact this)
   refine b7 ?_;refine cE (.own 62 4 Ao (E out) co (c_ out)::Bo g (.slice A1 (E x.ns) c1) v1 v2 v3 (.slice A3 (E x.times) c3) (.slice A4 (E x.levels) c4) (.slice A5 (E x.T) c5) (.slice A6 (E LL) c6) (.slice Af (E FB) cf) v9::F) ?_;refine ae 0 ?_;refine ae 1 ?_;refine ae 2 ?_;refine aU 3 rfl (bP 2 ag rfl aW [.slice A5 (E x.T) c5,.slice A6 (E LL) c6] rfl rfl) ?_;refine ae 4 ?_;refine aA 5 (gN rfl .no arJ rfl (Wb (L:=out) (aM.own (.head _)) q3) rfl (by rintro _ _ ⟨AT,cT,AL,cL,L2,rfl,rfl,hL2⟩;exact gD) ?_);rintro _ _ ⟨AT,cT,AL,cL,L2,rfl,cO,hL2⟩;obtain rfl:=cO.symm;refine aA 6 (js rfl rfl (akB (T1:=x.T) (T2:=nA out) (L1:=toI LL) (L2:=toI L2) (by rw[DU]) (by rw[DU];have:=dQ List.length hL2;simpa[KE,nA]using this.symm) rfl (hT.mono (.cons _ (.cons _ (.trans (.cons _ (.refl _)) (gL _ _))))) (by rw[YC];exact hI.mono (.cons _ (.cons _ (.trans (.cons _ (.refl _)) (gL _ _))))) (ahr λe he=>(hIe e he).mono (.cons _ (.cons _ (.trans (.cons _ (.refl _)) (gL _ _))))) (aM.own (.head _)) aqV (YB λe he=>.tail _ (.tail _ (kI _ (jy (f:=kj) he)))) aa (by rw[DU];omega) (λe he=>(abK (m:=20000) (λe he=>o9 _ (by rw[<-hLx];exact jy (f:=λy:sA=>y.2.2) he)) aa e he))) (ae 7 ?_));refine bc ?_;refine aj (λsT=>?_) λsT=>?_
   ·have hi:¬(x.T=nA out∧x.I=ny out):=λhh=>sT ⟨hh.1,by rw[zT,zT,hLx,hL2,hh.2];rfl⟩;have e:=aoK H_.symm uI hi;refine b7 ?_;refine ve [2,3] ?_;refine bE ?_;refine aC 62 4 none (aq (.cons (.s2 ((dB _ _).trans (.skip (.refl _))))) (aF ?_));rw[e];exact⟨none,0,rfl,rfl⟩
   ·have hi:x.T=nA out∧x.I=ny out:=by
     have hh:=bA sT;refine⟨hh.1,AK ?_⟩;have h2:=hh.2;rw[zT,zT,hLx,hL2]at h2;exact h2
    have e:=aoL H_.symm uI hi;refine bI ?_;refine ve [2,3] ?_;refine bc ?_;refine aq (.s2 (dB _ _)) (aF ?_);rw[e];exact⟨Ao,co,rfl,rfl⟩
theorem D0.open_{x:iF}{L:aR}(h:D0 B w0 L g x):∃(A1:bk) (c1:Nat) (A2:bk) (c2:Nat) (A3:bk) (c3:Nat) (A4:bk) (c4:Nat) (A5:bk) (c5:Nat) (A6:bk) (c6:Nat) (LX:List sA) (Af:bk) (cf:Nat) (FB:List lu) (va:Value) (M:aR),
  L.Perm (Bo g (.slice A1 (E x.ns) c1) (.slice A2 (E x.ss) c2) (ah x.c) (ah x.i) (.slice A3 (E x.times) c3) (.slice A4 (E x.levels) c4) (.slice A5 (E x.T) c5) (.slice A6 (E LX) c6) (.slice Af (E FB) cf) va::M)∧
  aM B w0 L 1 (.slice A1 (E x.ns) c1) (E x.ns) (bD x.ns)∧aM B w0 L 1 (.slice A3 (E x.times) c3) (E x.times) (qF x.times)∧aM B w0 L 1 (.slice A4 (E x.levels) c4) (E x.levels) (bv x.levels)∧
  aM B w0 L 1 (.slice A5 (E x.T) c5) (E x.T) (strs x.T)∧aM B w0 L 1 (.slice A6 (E LX) c6) (E LX) (LX.map kl)∧(∀e∈LX,aM B w0 L 1 (kl e) (E e.2.2) (bD e.2.2))∧LX.map (·.2.2)=x.I∧
  aM B w0 L 1 (.slice Af (E FB) cf) (E FB) (FB.map dy)∧(∀e∈FB,aM B w0 L 1 (dy e) (E e.2.2) (bv e.2.2))∧FB.map (·.2.2)=x.bH:=by
 obtain⟨A1,c1,A2,c2,A3,c3,A4,c4,A5,c5,A6,c6,LX,Af,cf,FB,va,h1,h2,h3,h4,h5,h6,h7,h8,h9,jU,pg⟩:=h;obtain⟨s,t,rfl⟩:=List.append_of_mem h1;exact⟨A1,c1,A2,c2,A3,c3,A4,c4,A5,c5,A6,c6,LX,Af,cf,FB,va,s++t,By,h2,h3,h4,h5,h6,h7,h8,h9,jU,pg⟩
theorem acU(HT:bM B w0){x:iF}{L:aR}(ho:tw x)(hB:D0 B w0 L g x):
  aZ B w0 127 [br g] L (λv K=>∃A' c',v= .tuple #[.slice A' (E (jH x).1) c',ah (jH x).2]∧K= .own 62 4 A' (E (jH x).1) c' (c_ (jH x).1)::L):=by
 obtain⟨A1,c1,A2,c2,A3,c3,A4,c4,A5,c5,A6,c6,LX,Af,cf,FB,va,M,hp,h2,h3,h4,h5,h6,h7,h8,h9,jU,pg⟩:=hB.open_;refine dU.yw h2 λhcn _=>?_;exact((ano HT ho pg h8 hcn (h2.perm hp) (h3.perm hp) (h4.perm hp) (h5.perm hp) (h6.perm hp) (λe he=>(h7 e he).perm hp) (h9.perm hp) (λe he=>(jU e he).perm hp)).perm hp).MB λv K ⟨A',c',h1,h2⟩=>⟨_,.dK (by rw[h2];exact(hp.symm.cons _)),A',c',h1,rfl⟩
theorem aeU:aZ B w0 112 [.slice none 0 c] F (λr L=>∃A' c',r= .slice A' 0 c'∧L= .own 3 1 A' 0 c' (bD [])::F):=by
 refine fw func112 8 [0] ?_;refine bO ?_;refine ab (sN underlying53 rfl rfl) rfl (bz ?_);refine aC 3 1 none (aF ?_);exact⟨none,0,rfl,rfl⟩
theorem aeV{ns:bf}{ad:Addr}(hb:aM B w0 F 1 (.slice (some ad) (E ns) c) (E ns) (bD ns))(hn:E ns<=1000000):
  aZ B w0 112 [.slice (some ad) (E ns) c] F (λr L=>∃A' c',r= .slice A' (E ns) c'∧L= .own 3 1 A' (E ns) c' (bD ns)::F):=by
 refine fw func112 8 [0] ?_;refine bO ?_;refine ab (sN underlying53 rfl rfl) rfl (bI ?_);refine cC (j0 fT) λA5=>aF ?_;refine fK (bW fT rfl aW rfl aB (afx _) aa aa) λA7 c7=>b7 ?_;rw[lV,mW];refine aF ?_;exact⟨_,_,rfl,rfl⟩
theorem aeW{ns:bf}(hb:aM B w0 F 1 (.slice A (E ns) c) (E ns) (bD ns))(hn:E ns<=1000000):
  aZ B w0 112 [.slice A (E ns) c] F (λr L=>∃A' c',r= .slice A' (E ns) c'∧L= .own 3 1 A' (E ns) c' (bD ns)::F):=by
 cases A with
 |none=>
  intro w hw;obtain⟨A',c',hv,hc,rR,hr⟩:=hb w hw;injection hv with q1 q2 q3;subst q1;have h0:ns=[]:=mS (bA λh=>by
   obtain⟨ad,e,_⟩:=hr aa;cases e)
  subst h0;exact aeU w hw
 |some ad=>
  exact aeV hb hn
theorem IP{x:iF}{L:aR}(ho:tw x)(hB:D0 B w0 L g x):
  aZ B w0 59 [br g] L (λv K=>∃A' c',v= .slice A' (E x.ns) c'∧K= .own 3 1 A' (E x.ns) c' (bD x.ns)::L):=by
 have Da:=ho.nl;obtain⟨A1,c1,A2,c2,A3,c3,A4,c4,A5,c5,A6,c6,LX,Af,cf,FB,va,M,hp,h2,h3,h4,h5,h6,h7,h8,h9,jU,pg⟩:=hB.open_;have h2:=h2.perm hp;refine dU.MB (R:=λv K=>∃A' c',v= .slice A' (E x.ns) c'∧K= .own 3 1 A' (E x.ns) c' (bD x.ns)::(Bo g (.slice A1 (E x.ns) c1) (.slice A2 (E x.ss) c2) (ah x.c) (ah x.i) (.slice A3 (E x.times) c3) (.slice A4 (E x.levels) c4) (.slice A5 (E x.T) c5) (.slice A6 (E LX) c6) (.slice Af (E FB) cf) va::M)) (dU.perm ?_ hp) λv K ⟨A',c',q1,q2⟩=>⟨_,.dK (by rw[q2];exact(hp.symm.cons _)),A',c',q1,rfl⟩
 refine fw func59 11 [0] ?_;refine E' ?_;refine ay rfl (aeW h2 aa) λwJ Ej=>bF ?_;exact⟨wJ,Ej,rfl,rfl⟩
end
theorem ze:type_of% @Nat.mul_le_mul_left:= @Nat.mul_le_mul_left
theorem WT{S:Nat}(hS:S<=32768)(pl:Bool):∀(g:bf) (L:List aJ),(∀x∈L,x.fits)->D3 S (lens false L) g->E (jS false pl g L).flatten<=33000*E g
 |[],_,_,_=>by simp[jS]
 |n::g,L,hL,hf=>by
  obtain⟨f1,f2,f3,f4,f5⟩:=hf;have yh:=pz (b:=false) hS hL f1 f3;have h1:=Ed (b:=dm false (L.take n)) (pl:=pl) yh;have h2:=WT hS pl g (L.drop n) (λx hx=>hL x (r8 hx)) VN;rw[jS,w3,aX,dI,uU,cH];have:=h1.1;omega
theorem Zf{o:aN}{L:List aJ}{M:Nat}(ho:ct 2 (o2 o)=0)(hc:cV L=0)(hx:∀x∈L,x.1<18446744073709551616)(hi:E (rq o L)<=M)(hM:M<=100000000000):
  E (dj o L)<=33000*E L+40*E L+M+1000+E (kR L):=by
 obtain⟨tT,rR,M4⟩:=kQ hc hx;have hom:=xL (.inr (.inl rfl)) ho;obtain⟨⟨m1,m2⟩,_,m4,_⟩:=hom;have m1:16<=o.1:=m1;have m2:o.1<=32768:=m2;have DC:E (dV o false L)<=E L:=by unfold dV;have:=nD o.1.toNat (lens false L);rwa [eK]at this
 have Jr:=WT (S:=o.1.toNat) aa o.2.1 (dV o false L) L rR (kT _ _);have hss:∀x∈(fa o L).map List.length,x<=33000*E L:=λx hx=>by
  have h1:=qg hx;rw[<-List.length_flatten]at h1;have:33000*E (dV o false L)<=33000*E L:=ze _ DC;exact jz h1 (jz Jr this)
 have xD:=Dy o false L;have uh:=rL (L:=L) aa;have hCl:E (pN L)=E (kR L)+4:=dA _;have hIl:E (pP o L)=E (rq o L)+4:=dA _;have hDl:E (qH o L)<=60+20*E L+4:=by
  unfold qH;rw[dA];have h1:=z8 (dV o false L) ((fa o L).map List.length) (λn hn=>IG) (λn hn=>by have:=hss n hn;omega) (E (dV o false L));have h2:vE (dV o false L) ((fa o L).map List.length) (E (dV o false L))=((dV o false L).zip ((fa o L).map List.length)).flatMap λp=>aS p.1++aS p.2:=by
   unfold vE;rw[fC (by rw[JJ];omega)]
  rw[h2]at h1;have h3:=aV (x:=(dV o false L).sum) aa;have h4:=aV (x:=E (dV o false L)) aa;have h5:=aV (x:=E (pN L)) aa;have h6:=aV (x:=E (pP o L)) aa;unfold yN;simp only[aX];omega
 unfold dj;have:33000*E (dV o false L)<=33000*E L:=ze _ DC;have aey:E (fa o L).flatten<=33000*E L:=jz Jr this;simp only[aX,qI];omega
theorem IT{o:aN}{L:List aJ}(ho:ct 2 (o2 o)=0)(hc:cV L=0)(hx:∀x∈L,x.1<18446744073709551616):E (dj o L)<=1000000000000:=by
 obtain⟨tT,rR,M4⟩:=kQ hc hx;have hom:=xL (.inr (.inl rfl)) ho;obtain⟨_,_,m4,_⟩:=hom;obtain⟨m5,m6⟩:=m4 (.inr rfl);have hi:=Pf (o:=o) m5 m6 M4 tT;have:=Zf (M:=60000000000) ho hc hx aa aa;have uh:=rL (L:=L) aa;omega
theorem abV(HT:bM B w0){o:aN}(h1:0<=o.1)(h2:o.1<=32768)(h3:0<=o.2.2.1)(h4:o.2.2.1<=64):
  aZ B w0 65 [.agg (aN.cells o).toArray] F (Hx (tr o) F):=by
 obtain⟨bl,pl,bu,da,pa,ch⟩:=o;simp only at h1 h2 h3 h4;obtain⟨S,rfl⟩:=gi h1;obtain⟨sz,rfl⟩:=gi h3;have hn1:=aV (x:=S) aa;have uK:=aV (x:=sz) aa;have hH:oZ ((S:Int),pl,(sz:Int),da,pa,ch)=(ef++[2])++(aS S++([fS pl]++aS sz)):=rfl;have hHl:E (oZ ((S:Int),pl,(sz:Int),da,pa,ch))<=30:=by
  rw[hH];simp only[aX,dI,sY,ef];omega
 have hTH:tr ((S:Int),pl,(sz:Int),da,pa,ch)=cv (oZ ((S:Int),pl,(sz:Int),da,pa,ch)):=rfl;rw[hTH];obtain⟨H0,hH0⟩:=cK (oZ ((S:Int),pl,(sz:Int),da,pa,ch));rw[<-hH0]at hH hHl⊢;refine b_ func65 26 rfl rfl rfl [(0,.agg #[ah (S:Int),.bool pl,ah (sz:Int),ah da,ah pa,ah ch])] ⟨⟨rfl,rfl⟩,trivial⟩ ?_;refine bc ?_;refine bg λg1=>?_;refine bK ?_;refine dY (λzf zL=>Sub zf [(1,br g1),(3,.int .u8 ((fS pl).toNat:Int))]∧Wk zL (.bG g1 23 [ah (S:Int),.bool pl,ah (sz:Int),ah da,ah pa,ah ch]::F)) ?_ ?_
 ·refine bB ?_;refine iH (λh7=>?_) λh7=>?_
  ·subst h7;refine bE ?_;exact bC ⟨bp,.refl _⟩
  ·subst h7;refine aF ?_;exact bC ⟨bp,.refl _⟩
 ·rintro _ _ ⟨hs,hp⟩;refine aT hs hp (bc ?_);refine ay rfl (T3 2) λA9 c9=>bK ?_;rw[show(qR 2).1=ef++[2] from rfl];refine cE (.own 5 1 A9 (E (ef++[2]:al)) c9 (bv (ef++[2])):: .bG g1 23 [ah (S:Int),.bool pl,ah (sz:Int),ah da,ah pa,ah ch]::F) ?_;refine ae 0 ?_;refine ae 1 ?_;refine ae 2 ?_;refine aU 3 rfl (bm underlying3 underlying60 rfl (r:=((S:Nat):Int)) (gj aa aa)) (ae 5 ?_);refine ae 7 ?_;refine ae 8 ?_;refine aU 9 rfl (bm underlying3 underlying60 rfl (r:=((sz:Nat):Int)) (gj aa aa)) (ib 4 6 ?_ ?_)
  ·refine b8 rfl rfl (jj S aa) λYW c16=>ib 6 10 ?_ ?_
   ·refine cX rfl (aG cB [_] rfl rfl cw aa aa) λtP=>aA 10 (b8 rfl rfl (jj sz aa) λVz Ho=>aA 11 (cX rfl (aG fQ [_,_,_,_] rfl rfl cw aa aa) λA23=>aA 12 (b8 rfl rfl (R5 (l1:=ef++[2]) (l2:=aS S) (l3:=[fS pl]) (l4:=aS sz) aB aB aB aB aB hH aa) λAD Dr=>?_)));refine aA 13 (b8 rfl rfl (rf HT (l:=H0) aB aa) λIx MW=>?_);refine ae 14 ?_;refine cP [2] ?_;refine bc ?_;refine aq ((eu (.s7 (.refl _)))) (aF ?_);exact⟨Ix,MW,rfl,rfl⟩
   ·refine b8 rfl rfl (jj sz aa) λVz Ho=>aA 6 (cX rfl (aG cB [_] rfl rfl cw aa aa) λtP=>aA 11 (cX rfl (aG fQ [_,_,_,_] rfl rfl cw aa aa) λA23=>aA 12 (b8 rfl rfl (R5 (l1:=ef++[2]) (l2:=aS S) (l3:=[fS pl]) (l4:=aS sz) aB aB aB aB aB hH aa) λAD Dr=>?_)));refine aA 13 (b8 rfl rfl (rf HT (l:=H0) aB aa) λIx MW=>?_);refine ae 14 ?_;refine cP [2] ?_;refine bc ?_;refine aq ((eu (.s7 (.refl _)))) (aF ?_);exact⟨Ix,MW,rfl,rfl⟩
  ·refine cX rfl (aG cB [_] rfl rfl cw aa aa) λtP=>aA 4 (b8 rfl rfl (jj S aa) λYW c16=>aA 10 (b8 rfl rfl (jj sz aa) λVz Ho=>aA 11 (cX rfl (aG fQ [_,_,_,_] rfl rfl cw aa aa) λA23=>aA 12 (b8 rfl rfl (R5 (l1:=ef++[2]) (l2:=aS S) (l3:=[fS pl]) (l4:=aS sz) aB aB aB aB aB hH aa) λAD Dr=>?_))));refine aA 13 (b8 rfl rfl (rf HT (l:=H0) aB aa) λIx MW=>?_);refine ae 14 ?_;refine cP [2] ?_;refine bc ?_;refine aq ((eu (.s7 (.refl _)))) (aF ?_);exact⟨Ix,MW,rfl,rfl⟩
theorem abZ(HT:bM B w0){o:aN}{L:List aJ}(hx:∀x∈L,x.1<18446744073709551616)(hb:aM B w0 F 4 (.slice A (E L) c) (E L) (c_ L)):
  aZ B w0 27 [.agg (aN.cells o).toArray,.slice A (E L) c] F (Nc (wI o L) F):=by
 have hO1:∀(h:ct 2 o≠0),wI o L=([],ct 2 o):=λh=>by unfold wI;rw[ao h]
 have hO2:∀(h:¬ct 2 o≠0) (h2:(gb o L).2≠0),wI o L=([],(gb o L).2):=λh h2=>by unfold wI;rw[aw h,ao h2]
 have hO3:∀(h:¬ct 2 o≠0) (h2:¬(gb o L).2≠0),wI o L=(qD o L,0):=λh h2=>by unfold wI;rw[aw h,aw h2]
 have hmk:=λ(h:¬ct 2 o≠0)=>DN (bA h);have hbw:∀(h2:¬(gb o L).2≠0),(gb o L).1=dj o L∧cV L=0:=λh2=>by
  unfold gb at h2⊢;by_cases q1:ct 2 (o2 o)≠0
  ·rw[ao q1]at h2;exact absurd q1 h2
  ·by_cases q2:cV L≠0
   ·rw[aw q1,ao q2]at h2;exact absurd q2 h2
   ·rw[aw q1,aw q2];exact⟨rfl,bA q2⟩
 obtain⟨W,hW⟩:=cK (wI o L);obtain⟨Y,hY⟩:=cK (gb o L);have O':=λM (hb:aM B w0 M 4 (.slice A (E L) c) (E L) (c_ L))=>Eg (F:=M) HT (o:=o) hx hb;rw[<-hW]at hO1 hO2 hO3⊢;rw[<-hY]at hO2 hO3 hbw;simp only[<-hY]at O';obtain⟨bl,pl,bu,da,pa,ch⟩:=o;refine b_ func27 28 rfl rfl rfl [(0,.agg #[ah bl,.bool pl,ah bu,ah da,ah pa,ah ch]),(1,.slice A (E L) c)] ⟨⟨rfl,rfl⟩,⟨rfl,rfl⟩,trivial⟩ ?_;refine bc ?_;refine bg λg2=>?_;refine bK ?_;refine ai rfl (kY 2 (bl,pl,bu,da,pa,ch)) (bO ?_);refine aj (λnY=>?_) λnY=>?_
 ·refine bO ?_;refine aC 5 1 none (aq (.cons (.skip (.refl _))) (aF ?_));rw[hO1 nY];exact⟨none,0,rfl,rfl⟩
 ·refine bB ?_;refine ay rfl (O' _ hb.cons) λVy c17=>ei ?_;refine aj (λmx=>?_) λmx=>?_
  ·refine bF ?_;refine ve [4,5] ?_;refine bE ?_;refine aC 5 1 none (aq (.cons (.s2 (.refl _))) (aF ?_));rw[hO2 nY mx];exact⟨none,0,rfl,rfl⟩
  ·obtain⟨fy,ho2⟩:=hmk nY;obtain⟨⟨m1,m2⟩,_,m4,_,_⟩:=fy;obtain⟨m5,m6⟩:=m4 (.inr rfl);have m5:1<=bu:=m5;have m6:bu<=64:=m6;have m1:16<=bl:=m1;have m2:bl<=32768:=m2;have hbB:=hbw mx;have OW:=IT (o:=(bl,pl,bu,da,pa,ch)) (L:=L) (by rw[ho2];exact bA nY) hbB.2 hx;have Xd:E (tr (bl,pl,bu,da,pa,ch))<=1000:=by
    unfold tr oZ;have hn1:=aV (x:=(bl:Int).toNat) aa;have uK:=aV (x:=(bu:Int).toNat) aa;rw[dA];simp only[aX,dI,sY,ef];omega
   have xB:E (qD (bl,pl,bu,da,pa,ch) L)=E (tr (bl,pl,bu,da,pa,ch))+E (dj (bl,pl,bu,da,pa,ch) L):=aX;refine bF ?_;refine ay rfl (abV HT (o:=(bl,pl,bu,da,pa,ch)) (by show 0<=bl;omega) m2 (by show 0<=bu;omega) m6) λAD Dr=>aF ?_;refine cC (aG fQ [_,_] rfl rfl cw aa aa) λtQ=>ay rfl (R4 (l:=qD (bl,pl,bu,da,pa,ch) L) (l1:=tr (bl,pl,bu,da,pa,ch)) (l2:=Y.1) aB aB aB (by rw[hbB.1];rfl) aa) λIy NR=>bc ?_;refine ve [4,5] ?_;refine bc ?_;refine aq ((eu (.s4 (.refl _)))) (aF ?_);rw[hO3 nY mx];exact⟨Iy,NR,rfl,rfl⟩
abbrev Tb(g gc:Nat)(o:aN):Ch:=.bG g 179 [br gc,ah o.1,.bool o.2.1,ah o.2.2.1,ah o.2.2.2.1,ah o.2.2.2.2.1,ah o.2.2.2.2.2]
theorem amQ(b:al):(th1 b).b=b:=Cs.cQ _ _ _
theorem ag8(b:al):(th2 b).b=b:=(Cs.cQ _ _ _).trans (amQ b)
theorem amR(b:al):(Yx b).b=b:=by
 unfold Yx;split
 ·rw[rM];exact(Cs.cQ _ _ _).trans (ag8 b)
 ·exact(Cs.cQ _ _ _).trans (ag8 b)
theorem amS(b:al):(th4 b).b=b:=(Cs.cQ _ _ _).trans (amR b)
theorem amT(b:al):(CV b).b=b:=(Cs.cQ _ _ _).trans (amS b)
theorem ag7{b:al}(h:E b<=1099511627776):cu (th1 b):=(pS h).cj
theorem UU{b:al}(h:E b<=1099511627776):cu (th2 b):=(ag7 h).bZ aa
theorem ag9{b:al}(h:E b<=1099511627776):cu (Yx b):=by
 unfold Yx;split
 ·exact(UU h).e_.failed _
 ·exact(UU h).e_
theorem ag_{b:al}(h:E b<=1099511627776):cu (th4 b):=(ag9 h).bZ aa
theorem ag'{b:al}(h:E b<=1099511627776):cu (CV b):=(ag_ h).cj
theorem abY(b:al):sD b=if (CV b).e≠0 then (0,(CV b).e) else if (aH (b.take (CV b).at_)).2≠0 then (0,(aH (b.take (CV b).at_)).2) else ((CV b).at_,ct 2 (CW b)):=rfl
theorem anu(HT:bM B w0){l:al}(e:n=E l)(hb:aM B w0 F 1 (.slice A n c) n (bv l))(hl:E l<=1099511627776):
  aZ B w0 176 [.slice A n c] F (λr L=>∃A' c',r= .tuple #[.slice A' (E (aH l).1) c',ah (aH l).2]∧L= .own 5 1 A' (E (aH l).1) c' (bv (aH l).1)::F):=by
 subst e;exact xl HT hb hl
theorem Ko(HT:bM B w0){b:al}{An:bk}{cn:Nat}(hb:fo B w0 F A c b)(hbn:fo B w0 F An cn b)(di:E b<=1000000000):
  aZ B w0 110 [br g,.slice A (E b) c] (Tb g gc iV::Cv gc An cn ⟨b,0,0⟩::F)
   (λr L=>r= .tuple #[ah ((sD b).1:Int),ah (sD b).2]∧L=Tb g gc (CW b)::Cv gc An cn (CV b)::F):=by
 refine dU.yw hb.cons.cons λnZ _=>?_;have k1:=amQ b;have k2:=ag8 b;have k3:=amR b;have k4:=amS b;have k5:=amT b;have at5:=(ag' (b:=b) aa).at_;rw[k5]at at5;have e1:th1 b=Cs.cj ⟨b,0,0⟩ 5:=rfl;have e2:th2 b=(th1 b).bZ 32768:=rfl;have e4:th4 b=(Yx b).bZ 64:=rfl;have e5:CV b=(th4 b).cj 4:=rfl;obtain⟨bl,H8⟩:=cK ((th1 b).int 32768);have an4:((bl:Nat):Int)<=32768:=by rw[H8];exact Cs.gI _ aa aa
 obtain⟨bu,an5⟩:=cK ((Yx b).int 64);have awb:((bu:Nat):Int)<=64:=by rw[an5];exact Cs.gI _ aa aa
 have hx8:=r' (abF b);obtain⟨y,hy⟩:=cK ((abF b).toNat);have hO:CW b=(((bl:Nat):Int),decide ((y:Int)=1),((bu:Nat):Int),0,0,0):=by
  unfold CW;rw[<-H8,<-an5,<-hy];congr 2;exact zj.2 ⟨λh=>by omega,λh=>aa⟩
 have hE:=abY b;have aeD:aM B w0 F 1 (.slice A (CV b).at_ c) (CV b).at_ (bv (b.take (CV b).at_)):=by
  have:=hb.jv (k:=(CV b).at_) at5;rw[kD,cH]at this;exact this
 have De:E (b.take (CV b).at_)=(CV b).at_:=by rw[eY];omega
 rw[hO]at hE⊢;rw[<-hy]at hx8;refine fw func110 88 [0,1] ?_;refine cF ?_;refine ay rfl (.perm (mI (g:=gc) (s:=⟨b,0,0⟩) (m:=5) (pS aa) hbn.cons aa aa) ((mC (fV (.refl _))))) λA14 c14=>bE ?_;rw[<-e1];refine vy ((eu (gE (.skip (.refl _))))) (bB ?_);refine ai rfl (ja (s:=th1 b) (most:=32768) (ag7 aa) (by rw[k1];exact hbn.cons) aa aa) (bI ?_);rw[<-e2,<-H8];refine bF ?_;refine ai rfl (o_ (s:=th2 b) (UU aa) (by rw[k2];exact hbn.cons)) (aF ?_);refine ve [0,1,6] ?_;refine aF ?_;refine dY (λzf zL=>Sub zf [(0,br g),(1,.slice A (E b) c),(6,.int .u8 (y:Int))]∧Wk zL (Cv gc An cn (Yx b)::Tb g gc (((bl:Nat):Int),false,0,0,0,0)::F)) ?_ ?_
 ·refine aF ?_;refine B_ [(0,br g),(1,.slice A (E b) c),(6,.int .u8 (y:Int))] ⟨rfl,rfl,(by rw[hy];rfl),trivial⟩ ?_;refine bF ?_;refine aj (λz_=>?_) λz_=>?_
  ·refine bF ?_;refine ai rfl (nQ 2) (aF ?_);exact bC ⟨bp,nr (by unfold Yx;rw[ao aa]) (.refl _)⟩
  ·refine aF ?_;exact bC ⟨bp,nr (by unfold Yx;rw[aw aa]) (.refl _)⟩
 ·rintro _ _ ⟨hs,hp⟩;refine aT hs hp (sR ?_);refine ai rfl (ja (s:=Yx b) (most:=64) (ag9 aa) (by rw[k3];exact hbn.cons) aa aa) (bI ?_);rw[<-e4,<-an5];refine bF ?_;refine ay rfl (mI (s:=th4 b) (m:=4) (ag_ aa) (by rw[k4];exact hbn.cons) aa aa) λA55 c55=>ve [0,1] ?_;refine bE ?_;rw[<-e5];refine vy ((eu (gE (.skip (.refl _))))) (bF ?_);refine ai rfl (gW) (bO ?_);refine aj (λh62=>?_) λh62=>?_
  ·refine bO ?_;refine aq ((gE (eu (.refl _)))) (aF ?_);exact⟨by rw[hE,ao h62];rfl,rfl⟩
  ·refine bz ?_;refine ai rfl (A_) (ab (bV (i:=(CV b).at_) (size:=1) underlying27 ag rfl rfl rfl aa) rfl (ay rfl (anu HT (l:=b.take (CV b).at_) De.symm aeD.cons.cons aa) λA72 c72=>bF ?_));refine ve [0,9] ?_;refine bI ?_;refine aj (λh76=>?_) λh76=>?_
   ·refine bO ?_;refine aq ((sE (gE (.skip (.refl _))))) (aF ?_);exact⟨by rw[hE,aw h62,ao h76];rfl,rfl⟩
   ·refine bK ?_;refine gy ara rfl (A_.jD ((mC (fV (.refl _))))) q9 rfl ?_;refine bE ?_;refine bL (bP 6 ag rfl aW (aN.cells (((bl:Nat):Int),decide ((y:Int)=1),((bu:Nat):Int),0,0,0)) rfl rfl) rfl ?_;refine gy at6 rfl (kY 2 (((bl:Nat):Int),decide ((y:Int)=1),((bu:Nat):Int),0,0,0)) q9 rfl ?_;refine bF ?_;refine aq ((sE (gE (.skip (.refl _))))) (aF ?_);exact⟨by rw[hE,aw h62,aw h76],rfl⟩
section
theorem Nu{P:Prop}(h:P:=by(rw[h];simp)):P:=h
theorem IV{o:aN}{b:al}(di:E b<=1000000)(h:(eG o b).2=0):tw (eG o b).1:=by
 by_cases h1:ct 2 (o2 o)≠0
 ·rw[KI h1]at h;exact absurd h h1
 ·by_cases h2:(gh b).2.2≠0
  ·rw[KJ h1 h2]at h;exact absurd h h2
  ·by_cases h3:HW (d_ b) (E (q_ b))≠0
   ·rw[KK h1 h2 h3]at h;exact absurd h h3
   ·by_cases h4:yE (fq (d_ b)).1.sum (xk b)≠0
    ·rw[KL h1 h2 h3 h4]at h;exact absurd h h4
    ·by_cases h5:(aH (wz b)).2≠0
     ·rw[V5 h1 h2 h3 h4 h5]at h;exact absurd h h5
     ·by_cases h6:(eW o.2.2.1 ((fq (d_ b)).1.sum:Nat) (aH (wz b)).1).2.2≠0
      ·rw[V6 h1 h2 h3 h4 h5 h6]at h;exact absurd h h6
      ·rw[V7 h1 h2 h3 h4 h5 h6];exact anq di h1 h3 h4
theorem V9(HT:bM B w0){o:aN}{b:al}(e:n=E b)(hb:aM B w0 F 1 (.slice A n c) n (bv b))(di:E b<=1000000)(h:(eG o b).2≠0):aZ B w0 111 [.agg (aN.cells o).toArray,.slice A n c] F (YY (eG o b).2 F):=by
 subst e;exact(V8 HT hb di).mono λr L hr=>hr.elim (λq=>q.2) λq=>absurd q.1 h
theorem V_(HT:bM B w0){o:aN}{b:al}(e:n=E b)(hb:aM B w0 F 1 (.slice A n c) n (bv b))(di:E b<=1000000)(h:(eG o b).2=0):aZ B w0 111 [.agg (aN.cells o).toArray,.slice A n c] F (aqa (eG o b).1 B w0 F):=by
 subst e;exact(V8 HT hb di).mono λr L hr=>hr.elim (λq=>absurd h q.1) λq=>q.2
section
variable{b:al}
theorem Vc(h:(marked b).2≠0):iE b=(iV,.nil,(marked b).2):=by unfold iE;rw[ao h]
theorem Vd(h:¬(marked b).2≠0)(h2:(marked b).1≠2):iE b=(iV,.nil,4):=by unfold iE;rw[aw h,ao h2]
theorem Ve(h:¬(marked b).2≠0)(h2:¬(marked b).1≠2)(h3:(sD b).2≠0):iE b=(iV,.nil,(sD b).2):=by unfold iE;rw[aw h,aw h2,ao h3]
theorem Vf(h:¬(marked b).2≠0)(h2:¬(marked b).1≠2)(h3:¬(sD b).2≠0)(h4:(eG (CW b) (b.drop (sD b).1)).2≠0):iE b=(iV,.nil,(eG (CW b) (b.drop (sD b).1)).2):=by unfold iE;rw[aw h,aw h2,aw h3,ao h4]
theorem Vg(h:¬(marked b).2≠0)(h2:¬(marked b).1≠2)(h3:¬(sD b).2≠0)(h4:¬(eG (CW b) (b.drop (sD b).1)).2≠0):iE b=(CW b,(eG (CW b) (b.drop (sD b).1)).1,0):=by unfold iE;rw[aw h,aw h2,aw h3,aw h4]
end
theorem aha{b:al}(h:E b<=1000000):(sD b).1<=E b:=by
 have at5:=(ag' (b:=b) aa).at_;rw[amT]at at5;unfold sD;split
 ·simp
 ·split
  ·simp
  ·exact at5
def atO(o:aN)(x:iF)(B:Nat)(w0:World)(F:aR)(r:Value)(L:aR):Prop:=∃g N,r= .tuple #[.agg (aN.cells o).toArray,br g,ah 0]∧L=N++F∧D0 B w0 N g x
def atP(e:Int)(F:aR)(r:Value)(L:aR):Prop:=r= .tuple #[.agg (aN.cells iV).toArray,.pointer none,ah e]∧L=F
theorem abW(HT:bM B w0){b:al}(hb:fo B w0 F A c b)(di:E b<=1000000)(h:(iE b).2.2≠0):aZ B w0 57 [.slice A (E b) c] F (atP (iE b).2.2 F):=by
 have hle:=aha di;have p6:=gw (CW b);have JA:=gw iV;refine fw func57 58 [0] ?_;refine bc ?_;refine bh λg2=>?_;refine bI ?_;refine ai rfl (u9 hb.cons aa) (jG ?_);refine aj (λkF=>?_) λkF=>?_
 ·refine bc ?_;refine ab (cJ [ah 0,.bool false,ah 0,ah 0,ah 0,ah 0] ag) rfl (bO ?_);refine qX rfl rfl ag aW gV rfl rfl (.skip (.refl _)) ?_;rw[Vc kF];exact⟨rfl,rfl⟩
 ·refine bI ?_;refine aj (λju=>?_) λju=>?_
  ·refine bc ?_;refine ab (cJ [ah 0,.bool false,ah 0,ah 0,ah 0,ah 0] ag) rfl (bE ?_);refine ve [2,3,4] ?_;refine b7 ?_;refine qX rfl rfl ag aW gV rfl rfl (.skip (.refl _)) ?_;rw[Vd kF ju];exact⟨rfl,rfl⟩
  ·refine bB ?_;refine fh rfl (nC hb.cons aa) λgn An cn=>ab (bx [(0,_)] [.pointer none,ah 0,.bool false,ah 0,ah 0,ah 0,ah 0] [0] [_,_,_,_,_,_,_] rfl rfl ag) rfl (bg λg27=>?_);refine aF ?_;refine ve [0,2,7] ?_;refine bF ?_;refine ai rfl (Ko HT hb.cons.cons (aM.own (.head _)) aa) (ei ?_);refine aj (λuI=>?_) λuI=>?_
   ·refine bc ?_;refine ab (cJ [ah 0,.bool false,ah 0,ah 0,ah 0,ah 0] ag) rfl (bK ?_);refine qX rfl rfl ag aW gV rfl rfl (.s4 (.refl _)) ?_;rw[Ve kF ju uI];exact⟨rfl,rfl⟩
   ·have h4:(eG (CW b) (b.drop (sD b).1)).2≠0:=λk=>by
     rw[Vg kF ju uI (by rw[k];simp)]at h;exact h rfl
    have hcut:aM B w0 F 1 (.slice (if c=(sD b).1 then A else A.map (·.add ((sD b).1*1))) (E b-(sD b).1) (c-(sD b).1)) (E b-(sD b).1) (bv (b.drop (sD b).1)):=by
     have:=hb.cut hle;rw[jR,cH]at this;rw[cH];exact this
    refine bE ?_;refine cE (Tb g27 gn (CW b)::Cv gn An cn (CV b):: .own 5 1 An (E b) cn (bv b):: .bG g2 23 [ah 0,.bool false,ah 0,ah 0,ah 0,ah 0]::F) ?_;refine ae 0 ?_;refine ae 1 ?_;refine ae 2 ?_;refine aU 3 rfl (bP 6 ag rfl aW (aN.cells (CW b)) rfl rfl) ?_;refine ae 4 ?_;refine ae 5 ?_;refine aU 6 rfl (bY (i:=(sD b).1) (size:=1) underlying27 ag rfl rfl rfl aa) (aA 7 (js rfl rfl (V9 HT (b:=b.drop (sD b).1) (by rw[iG]) hcut.cons.cons.cons.cons ly h4) (ae 8 ?_)));refine ae 9 ?_;refine ae 10 ?_;refine ae 11 ?_;refine ae 12 ?_;refine cP [2,6,7,9] ?_;refine bK ?_;refine aj (λJp=>?_) λJp=>?_
    ·refine bc ?_;refine ab (cJ [ah 0,.bool false,ah 0,ah 0,ah 0,ah 0] ag) rfl (bK ?_);refine qX rfl rfl ag aW gV rfl rfl (.s4 (.refl _)) ?_;rw[Vf kF ju uI h4];exact⟨rfl,rfl⟩
    ·exfalso;exact Jp h4
theorem abX(HT:bM B w0){b:al}(hb:fo B w0 F A c b)(di:E b<=1000000)(h:(iE b).2.2=0):aZ B w0 57 [.slice A (E b) c] F (atO (iE b).1 (iE b).2.1 B w0 F):=by
 have hle:=aha di;have p6:=gw (CW b);have JA:=gw iV;refine fw func57 58 [0] ?_;refine bc ?_;refine bh λg2=>?_;refine bI ?_;refine ai rfl (u9 hb.cons aa) (jG ?_);refine aj (λkF=>?_) λkF=>?_
 ·exfalso;rw[Vc kF]at h;exact kF h
 ·refine bI ?_;refine aj (λju=>?_) λju=>?_
  ·exfalso;rw[Vd kF ju]at h;exact absurd h ax
  ·refine bB ?_;refine fh rfl (nC hb.cons aa) λgn An cn=>ab (bx [(0,_)] [.pointer none,ah 0,.bool false,ah 0,ah 0,ah 0,ah 0] [0] [_,_,_,_,_,_,_] rfl rfl ag) rfl (bg λg27=>?_);refine aF ?_;refine ve [0,2,7] ?_;refine bF ?_;refine ai rfl (Ko HT hb.cons.cons (aM.own (.head _)) aa) (ei ?_);refine aj (λuI=>?_) λuI=>?_
   ·exfalso;rw[Ve kF ju uI]at h;exact uI h
   ·have h4:(eG (CW b) (b.drop (sD b).1)).2=0:=bA λk=>by
     rw[Vf kF ju uI k]at h;exact k h
    have hcut:aM B w0 F 1 (.slice (if c=(sD b).1 then A else A.map (·.add ((sD b).1*1))) (E b-(sD b).1) (c-(sD b).1)) (E b-(sD b).1) (bv (b.drop (sD b).1)):=by
     have:=hb.cut hle;rw[jR,cH]at this;rw[cH];exact this
    refine bE ?_;refine cE (Tb g27 gn (CW b)::Cv gn An cn (CV b):: .own 5 1 An (E b) cn (bv b):: .bG g2 23 [ah 0,.bool false,ah 0,ah 0,ah 0,ah 0]::F) ?_;refine ae 0 ?_;refine ae 1 ?_;refine ae 2 ?_;refine aU 3 rfl (bP 6 ag rfl aW (aN.cells (CW b)) rfl rfl) ?_;refine ae 4 ?_;refine ae 5 ?_;refine aU 6 rfl (bY (i:=(sD b).1) (size:=1) underlying27 ag rfl rfl rfl aa) (aA 7 (gN rfl .no alQ rfl (V_ HT (b:=b.drop (sD b).1) (by rw[iG]) hcut.cons.cons.cons.cons ly h4) rfl (by rintro _ _ ⟨gB,N,rfl,rfl,hBB⟩;exact gD) ?_));rintro _ _ ⟨gB,N,rfl,cO,hBB⟩;obtain rfl:=cO.symm;refine ae 8 ?_;refine ae 9 ?_;refine ae 10 ?_;refine ae 11 ?_;refine ae 12 ?_;refine cP [2,6,7,9] ?_;refine bE ?_;refine gx JG ?_;rw[mX,mX,mX,mX];refine bF ?_;refine aj (λJp=>?_) λJp=>?_
    ·exfalso;exact Jp rfl
    ·refine bI ?_;refine ab (bP 6 ag rfl aW (aN.cells (CW b)) rfl rfl) rfl (bI ?_);refine qX rfl rfl ag aW gV rfl rfl (.s4 (.dK JG)) ?_;rw[Vg kF ju uI (by rw[h4];simp)];exact⟨gB,N,rfl,rfl,hBB⟩
theorem Re{b:al}(di:E b<=1000000)(h:(iE b).2.2=0):tw (iE b).2.1:=by
 by_cases h1:(marked b).2≠0
 ·rw[Vc h1]at h;exact absurd h h1
 ·by_cases h2:(marked b).1≠2
  ·rw[Vd h1 h2]at h;exact absurd h ax
  ·by_cases h3:(sD b).2≠0
   ·rw[Ve h1 h2 h3]at h;exact absurd h h3
   ·by_cases h4:(eG (CW b) (b.drop (sD b).1)).2≠0
    ·rw[Vf h1 h2 h3 h4]at h;exact absurd h h4
    ·rw[Vg h1 h2 h3 h4];exact IV ly (bA h4)
theorem ahB{b:al}(h:(iE b).2.2≠0):m7 b=(iV,[],0,(iE b).2.2):=by unfold m7;rw[ao h]
theorem ahC{b:al}(h:¬(iE b).2.2≠0)(h2:(jH (iE b).2.1).2≠0):m7 b=(iV,[],0,(jH (iE b).2.1).2):=by unfold m7;rw[aw h,ao h2]
theorem ahD{b:al}(h:¬(iE b).2.2≠0)(h2:¬(jH (iE b).2.1).2≠0):m7 b=((iE b).1,(jH (iE b).2.1).1,E (iE b).2.1.ns,0):=by unfold m7;rw[aw h,aw h2]
theorem Rg(HT:bM B w0){b:al}(hb:fo B w0 F A c b)(di:E b<=1000000)(h:(iE b).2.2≠0):aZ B w0 69 [.slice A (E b) c] F (UnA (m7 b) F):=by
 have JA:=gw iV;refine fw func69 34 [0] ?_;refine bc ?_;refine bh λg2=>?_;refine bK ?_;refine ai rfl (abW HT hb.cons di h) (b7 ?_);refine bh λg6=>?_;refine cF ?_;refine aj (λiI=>?_) λiI=>?_
 ·refine bc ?_;refine ab (cJ [ah 0,.bool false,ah 0,ah 0,ah 0,ah 0] ag) rfl (bF ?_);refine ve [2,3,4,5] ?_;refine bE ?_;refine aC 62 4 none (nS rfl rfl ag aW gV rfl rfl rfl (.cons (.s2 (.refl _))) ?_);rw[ahB h];exact⟨none,0,rfl,rfl⟩
 ·exfalso;exact iI h
theorem Rh(HT:bM B w0){b:al}(hb:fo B w0 F A c b)(di:E b<=1000000)(h:(iE b).2.2=0):aZ B w0 69 [.slice A (E b) c] F (UnA (m7 b) F):=by
 have kN:=Re di h;have p6:=gw (iE b).1;refine fw func69 34 [0] ?_;refine bc ?_;refine bh λg2=>?_;refine bK ?_;refine be at3 rfl (abX HT hb.cons di h) rfl ?_;rintro _ _ ⟨gB,N,rfl,cO,hBB⟩;obtain rfl:=cO.symm;refine b7 ?_;refine bh λg6=>?_;refine bI ?_;refine gx (List.perm_middle.cons _) ?_;refine bF ?_;refine aj (λiI=>?_) λiI=>?_
 ·exfalso;exact iI rfl
 ·refine bF ?_;refine ay rfl (acU HT kN (hBB.mono (((wD _ _).cons _).cons _))) λAr cr=>bF ?_;refine ve [2,6,7,8,9] ?_;refine bK ?_;refine aj (λqy=>?_) λqy=>?_
  ·refine bc ?_;refine ab (cJ [ah 0,.bool false,ah 0,ah 0,ah 0,ah 0] ag) rfl (bO ?_);refine aC 62 4 none (nS rfl rfl ag aW gV rfl rfl rfl (.cons (.s3 (dB N F))) ?_);rw[ahC Nu qy];exact⟨none,0,rfl,rfl⟩
  ·refine bE ?_;refine cE (.own 62 4 Ar (E (jH (iE b).2.1).1) cr (c_ (jH (iE b).2.1).1):: .bG g6 23 (aN.cells (iE b).1)::(N++F)) ?_;refine aU 0 rfl (bP 6 ag rfl aW (aN.cells (iE b).1) rfl rfl) ?_;refine ae 1 ?_;refine ae 2 ?_;refine aA 3 (b8 rfl rfl (IP kN (hBB.mono (((((wD _ _)).cons _).cons _).cons _))) λAk ck=>ae 4 ?_);refine aA 5 (aF ?_);refine ae 6 ?_;refine ae 7 ?_;refine ae 8 ?_;refine bE ?_;refine nS rfl rfl ag aW gV rfl rfl rfl (.skip (.cons (.s2 (dB N F)))) ?_;rw[ahD Nu qy];exact⟨Ar,cr,rfl,rfl⟩
end
theorem OI{x:Nat}(hx:x<65536):aZ B w0 51 [.int .u64 x,ah 2] F (λr L=>∃A' c',r= .tuple #[.slice A' (E (fR x 2)) c',ah 0]∧L= .own 5 1 A' (E (fR x 2)) c' (bv (fR x 2))::F):=by
 have DE:((x:Nat):Int).fdiv (2^min ((16:Int)).toNat IntKind.u64.bits)=0:=by
  have:=Yf x (k:=2) aa;rw[show((8*2:Nat):Int)=16 from rfl]at this;rw[this,show 8*2=16 from rfl];have:x/2^16=0:=CI aa;omega
 refine fw func51 42 [0,1] ?_;refine cF ?_;refine aI rfl rfl rfl (λjU=>?_) (λjU=>?_)
 ·refine bF ?_;refine aI rfl rfl rfl (λku=>?_) (λku=>?_)
  ·refine bF ?_;refine cD (λiI=>?_) λiI=>?_
   ·refine b7 ?_;refine ab (eH rfl rfl (r:=16) rfl) rfl (aF ?_);refine ab (dv rfl rfl aa (r:=0) DE) rfl (bF ?_);refine ve [0,1,24] ?_;refine aF ?_;refine aj (λoB=>?_) λoB=>?_
    ·exfalso;exact oB rfl
    ·refine bF ?_;refine cC (ft (nn:=2) (cc:=2) cB rfl rfl rfl rfl rfl aa aa aa) λtQ=>cF ?_;refine aD (λzf zL zm=>∃(k:Nat),(k<=2)∧2-k=zm∧Sub zf [(0,.int .u64 x),(6,.slice tQ 2 2),(28,ah 2),(29,ah k)]∧Wk zL (.own 5 1 tQ 2 2 (bv (fR x k)++List.replicate (2-k) (.int .u8 0))::F)) _ ⟨0,bU _,rfl,bp,.refl _⟩ ?_;rintro _ _ _ ⟨k,hk,rfl,hs,hp⟩;refine aT hs hp (bB ?_);refine aj (λz_=>?_) λz_=>?_
     ·refine jt ?_;refine ab (eH rfl rfl (r:=((8*k:Nat):Int)) ((bq aa aa).trans aa)) rfl (ab (dv rfl rfl aa (r:=((x/2^(8*k):Nat):Int)) (Yf x aa)) rfl (ab (bm underlying60 underlying5 rfl (r:=((x/2^(8*k)%256:Nat):Int)) (z7 _)) rfl (bO ?_)));refine av ⟨_,aa,k+1,aa,rfl,bp,az rfl (by rw[cH];exact WO aa _ rfl) (.refl _)⟩
     ·obtain rfl:k=2:=by omega
      refine cY ?_;refine aq (L':=.own 5 1 tQ (E (fR x 2)) 2 (bv (fR x 2))::F) (az ak ak (.refl _)) (aF ?_);exact⟨tQ,2,ak,rfl⟩
   ·exfalso;omega
  ·exfalso;omega
 ·exfalso;omega
theorem E5(s:Cs):E (s.take 2)<=2:=by
 unfold Cs.take;split
 ·simp
 ·split
  ·simp
  ·rw[eY];omega
theorem IY(ho:cu s)(hb:aM B w0 F 1 (.slice A (E s.b) c) (E s.b) (bv s.b)):
  aZ B w0 197 [br g,ah 2] (Cv g A c s::F) (λr L=>r= .int .u64 (s.fixed 2)∧L=Cv g A c (s.lJ 2)::F):=by
 have e1:s.fixed 2=ji (s.take 2):=by unfold Cs.fixed;rw[aw aa]
 have e2:s.lJ 2=s.cj 2:=by unfold Cs.lJ;rw[aw aa]
 have hl:=E5 s;obtain⟨t,ht⟩:=cK (s.take 2);rw[e1,e2];rw[<-ht]at hl⊢;refine fw func197 34 [0,1] ?_;refine de ?_;refine aI rfl rfl rfl (λjU=>?_) (λjU=>?_)
 ·refine bB ?_;refine dw λnj=>?_;refine cF ?_;refine ay rfl (mI ho hb (m:=2) aa aa) λtP vH=>?_;rw[<-ht];refine bF ?_;refine aD (λzf zL zm=>∃(k:Nat),(k<=E t)∧E t-k=zm∧Sub zf [(5,.int .u64 (ji (t.take k))),(18,.slice tP (E t) vH),(19,ah (E t)),(20,ah k)]∧Wk zL (Cv g A c (s.cj 2):: .own 5 1 tP (E t) vH (bv t)::F)) _ ⟨0,bU _,rfl,bp,.refl _⟩ ?_;rintro _ _ _ ⟨k,hk,rfl,hs,hp⟩;refine aT hs hp (bB ?_);refine aj (λmx=>?_) λmx=>?_
  ·obtain⟨y,hy⟩:=cK ((t.getD k 0).toNat);have hy8:y<256:=by rw[hy];exact r' _
   have fN:=sb (t.take k);rw[eY,xH hk]at fN;have tH:ji (t.take (k+1))=ji (t.take k)+256^k*y:=by rw[aY aa 0,CO,eY,xH hk,<-hy]
   refine bK ?_;refine ab (au (v:=.int .u8 (y:Int)) ag rfl aB aa (by rw[hy];exact KN aa)) rfl (bI ?_);refine ab (bm underlying5 underlying60 rfl (r:=(y:Int)) (gj aa aa)) rfl (aF ?_);refine ab (eH rfl rfl (r:=((8*k:Nat):Int)) ((bq aa aa).trans aa)) rfl (ab (gk rfl rfl aa (r:=((y*256^k:Nat):Int)) (amH aa hy8)) rfl (ab (uC rfl rfl (r:=((ji (t.take (k+1)):Nat):Int)) ((asZ aa hy8 fN).trans wO)) rfl (bK ?_)));refine av ⟨_,aa,k+1,aa,rfl,bp,.refl _⟩
  ·obtain rfl:k=E t:=by omega
   rw[ki];refine cF ?_;refine aq (.cons (.skip (.refl _))) (aF ?_);exact⟨rfl,rfl⟩
 ·exfalso;omega
theorem anl{P:Prop}(h:P:=by(rw[te (by omega)];omega)):P:=h
theorem aqq{P:Prop}(h:P:=by(exact dR (by first|exact⟨λk=>⟨oI,mB,k⟩,λk=>k.2.2⟩|exact λk=>mB k.2.1|exact λk=>oI k.1))):P:=h
abbrev Hb(g:Nat)(o:aN)(n p:Nat):Ch:=.bG g 119 [ah o.1,.bool o.2.1,ah o.2.2.1,ah o.2.2.2.1,ah o.2.2.2.2.1,ah o.2.2.2.2.2,ah (n:Int),.int .u8 (p:Int)]
theorem Kh(HT:bM B w0){o:aN}{n p:Nat}(ho:ct 3 o=0)(hn:n<4294967296):
  aZ B w0 123 [br g] (Hb g o n p::F) (Hx (jf o n) (Hb g o n p::F)):=by
 obtain⟨⟨m1,m2⟩,m3,m4,_,_⟩:=(jC ho).1;obtain⟨⟨k1,k2⟩,⟨k3,k4⟩,⟨k5,k6⟩⟩:=m3 rfl;obtain⟨m5,m6⟩:=m4 (.inl rfl);clear ho m3 m4;obtain⟨bl,pl,bu,da,pa,ch⟩:=o;simp only at m1 m2 m5 m6 k1 k2 k3 k4 k5 k6;obtain⟨S,rfl⟩:=gi (show 0<=bl by omega);obtain⟨u,rfl⟩:=gi (show 0<=bu by omega);obtain⟨d,rfl⟩:=gi (show 0<=da by omega);obtain⟨q,rfl⟩:=gi (show 0<=pa by omega);obtain⟨hc,rfl⟩:=gi (show 0<=ch by omega);have hH:xa ((S:Int),pl,(u:Int),(d:Int),(q:Int),(hc:Int)) n=(ef++[3])++([fS pl,UInt8.ofNat u,UInt8.ofNat d,UInt8.ofNat q]++(fR hc 2++(fR S 2++fR n 4))):=rfl;have hHl:E (xa ((S:Int),pl,(u:Int),(d:Int),(q:Int),(hc:Int)) n)<=30:=by
  rw[hH];simp[ef]
 have hTH:jf ((S:Int),pl,(u:Int),(d:Int),(q:Int),(hc:Int)) n=cv (xa ((S:Int),pl,(u:Int),(d:Int),(q:Int),(hc:Int)) n):=rfl;rw[hTH];obtain⟨H0,hH0⟩:=cK (xa ((S:Int),pl,(u:Int),(d:Int),(q:Int),(hc:Int)) n);rw[<-hH0]at hH hHl⊢;refine fw func123 77 [0] ?_;refine bI ?_;refine ay rfl (T3 3) λx9 Hm=>bK ?_;rw[show(qR 3).1=ef++[3] from rfl];refine b7 ?_;refine dY (λzf zL=>Sub zf [(0,br g),(3,.slice x9 (E (ef++[3]:al)) Hm),(5,.int .u8 ((fS pl).toNat:Int))]∧Wk zL (.own 5 1 x9 (E (ef++[3]:al)) Hm (bv (ef++[3]))::Hb g ((S:Int),pl,(u:Int),(d:Int),(q:Int),(hc:Int)) n p::F)) ?_ ?_
 ·refine bO ?_;refine iH (λju=>?_) λju=>?_
  ·subst ju;refine bE ?_;exact bC ⟨bp,.refl _⟩
  ·subst ju;refine aF ?_;exact bC ⟨bp,.refl _⟩
 ·rintro _ _ ⟨hs,hp⟩;refine aT hs hp (bI ?_);refine ab (bm underlying3 underlying60 rfl (r:=((hc:Nat):Int)) (gj aa aa)) rfl (ay rfl (OI (x:=hc) aa) λCf Cq=>ei ?_);refine ab (bm underlying3 underlying60 rfl (r:=((S:Nat):Int)) (gj aa aa)) rfl (ay rfl (OI (x:=S) aa) λMR NS=>bF ?_);refine ve [0,3,5,6,8] ?_;refine bI ?_;refine ab (bm underlying3 underlying60 rfl (r:=((n:Nat):Int)) (gj aa aa)) rfl (ay rfl (OJ (x:=n) aa) λA47 c47=>bK ?_);refine cE (.own 5 1 A47 (E (fR n 4)) c47 (bv (fR n 4)):: .own 5 1 MR (E (fR S 2)) NS (bv (fR S 2)):: .own 5 1 Cf (E (fR hc 2)) Cq (bv (fR hc 2)):: .own 5 1 x9 (E (ef++[3]:al)) Hm (bv (ef++[3]))::Hb g ((S:Int),pl,(u:Int),(d:Int),(q:Int),(hc:Int)) n p::F) ?_;refine ae 0 ?_;refine ae 1 ?_;refine ae 2 ?_;refine ae 3 ?_;refine ae 4 ?_;refine ae 5 ?_;refine ae 6 ?_;refine aU 7 rfl (bm underlying3 underlying5 rfl (r:=((UInt8.ofNat u).toNat:Int)) ((z7 _).trans anl)) (ae 8 ?_);refine ae 9 ?_;refine ae 10 ?_;refine ae 11 ?_;refine ae 12 ?_;refine aU 13 rfl (bm underlying3 underlying5 rfl (r:=((UInt8.ofNat d).toNat:Int)) ((z7 _).trans anl)) (ae 14 ?_);refine ae 15 ?_;refine ae 16 ?_;refine ae 17 ?_;refine ae 18 ?_;refine aU 19 rfl (bm underlying3 underlying5 rfl (r:=((UInt8.ofNat q).toNat:Int)) ((z7 _).trans anl)) (ae 21 ?_);refine ae 22 ?_;refine ae 23 ?_;refine aA 20 (cX rfl (aG cB [_,_,_,_] rfl rfl cw aa aa) λA70=>aA 24 (cX rfl (aG fQ [_,_,_,_,_] rfl rfl cw aa aa) λA74=>aA 25 (b8 rfl rfl (KB (l1:=ef++[3]) (l2:=[fS pl,UInt8.ofNat u,UInt8.ofNat d,UInt8.ofNat q]) (l3:=fR hc 2) (l4:=fR S 2) (l5:=fR n 4) aB aB aB aB aB aB hH aa) λA75 c75=>?_)));refine aA 26 (b8 rfl rfl (rf HT (l:=H0) aB aa) λA76 c76=>?_);refine ae 27 ?_;refine cP [2] ?_;refine bc ?_;refine aq ((eu (wu7 (.s7 (.refl _))))) (aF ?_);exact⟨A76,c76,rfl,rfl⟩
theorem adj{b:al}(h:E b<42):aZ B w0 131 [.slice A (E b) c] F (λr L=>r= .tuple #[.slice none 0 0,.slice none 0 0,.bool false]∧L=F):=by
 refine fw func131 15 [0] ?_;refine jt ?_;refine Bf λh7=>?_;refine bz ?_;exact⟨rfl,rfl⟩
theorem N5{b:al}(di:E b<=1000000000)(hc:E b<=c)(h:¬E b<42):aZ B w0 131 [.slice A (E b) c] F (λr L=>r= .tuple #[.slice A 21 c,.slice (if c=E b-21 then A else A.map (·.add ((E b-21)*1))) (E b-(E b-21)) (c-(E b-21)),.bool true]∧L=F):=by
 refine fw func131 15 [0] ?_;refine jt ?_;refine dw λh7=>?_;refine bF ?_;refine bL (bV (i:=21) (size:=1) underlying27 ag rfl rfl rfl aa) rfl (bE ?_);refine bL (dC rfl rfl (r:=((E b-21:Nat):Int)) ((bq aa aa).trans aa)) rfl (bL (bY (i:=E b-21) (size:=1) underlying27 ag rfl rfl rfl aa) rfl (bI ?_));exact⟨rfl,rfl⟩
theorem N6(HT:bM B w0){l:al}(e:n=E l)(hb:aM B w0 F 1 (.slice A n c) n (bv l))(hl:E l<=1000000000):aZ B w0 196 [.slice A n c] F (λr L=>r= .bool (decide (rb l))∧L=F):=by
 subst e;refine b_ func196 27 rfl rfl rfl [(0,.slice A (E l) c)] ⟨⟨rfl,rfl⟩,trivial⟩ ?_;refine bK ?_;refine ay rfl (xl HT hb aa) λA9 c9=>bz ?_;refine ai rfl (u9 hb.cons aa) (bO ?_);refine bR 10 26 [] (rb l) ?_ ?_
 ·refine bE ?_;refine cD (λoI=>?_) λoI=>?_
  ·refine bF ?_;refine cD (λmB=>?_) λmB=>?_
   ·refine b7 ?_;exact aL (by exact dG (by first|exact⟨λk=>⟨oI,mB,k⟩,λk=>k.2.2⟩|exact λk=>mB k.2.1|exact λk=>oI k.1))
   ·refine bc ?_;exact aL aqq
  ·refine bB ?_;exact aL aqq
 ·refine b7 ?_;refine aq (.skip (.refl _)) (aF ?_);exact⟨rfl,rfl⟩
def RY(R:al×Int)(B:Nat)(w0:World)(F:aR)(r:Value)(L:aR):Prop:=∃A' c',r= .tuple #[.slice A' (E R.1) c',ah R.2]∧L=F∧aM B w0 F 1 (.slice A' (E R.1) c') (E R.1) (bv R.1)
theorem RY.nil{e:Int}{R:al×Int}(h:R=([],e)):RY R B w0 F (.tuple #[.slice none 0 0,ah e]) F:=by
 subst h;exact⟨none,0,rfl,rfl,aM.BI⟩
theorem ac3{b:al}(h:E b<42):eh b=([],1):=by unfold eh;rw[ao h]
theorem ac4{b:al}(h:¬E b<42)(h2:rb (b.take 21)):eh b=(b.take 21,0):=by unfold eh;rw[aw h,ao h2]
theorem ac5{b:al}(h:¬E b<42)(h2:¬rb (b.take 21))(h3:rb (b.drop (E b-21))):eh b=(b.drop (E b-21),0):=by unfold eh;rw[aw h,aw h2,ao h3]
theorem ac6{b:al}(h:¬E b<42)(h2:¬rb (b.take 21))(h3:¬rb (b.drop (E b-21))):eh b=([],5):=by unfold eh;rw[aw h,aw h2,aw h3]
theorem ac7{b:al}(h:E b<42):aZ B w0 128 [.slice A (E b) c] F (RY (eh b) B w0 F):=by
 refine fw func128 24 [0] ?_;refine bO ?_;refine ai rfl (adj h) (ei ?_);refine ab (jm rfl) rfl (bE ?_);refine iH (λnj=>?_) λnj=>?_
 ·refine bz ?_;exact RY.nil (ac3 h)
 ·exfalso;exact absurd nj ax
theorem al_{b:al}(h:¬E b<42)(hb:fo B w0 F A c b):aM B w0 F 1 (.slice A 21 c) 21 (bv (b.take 21)):=by
 have:=hb.jv (k:=21) aa;rw[kD,cH]at this;exact this
theorem al'{b:al}(h:¬E b<42)(hb:fo B w0 F A c b):aM B w0 F 1 (.slice (if c=E b-21 then A else A.map (·.add ((E b-21)*1))) (E b-(E b-21)) (c-(E b-21))) (E b-(E b-21)) (bv (b.drop (E b-21))):=by
 have:=hb.cut (k:=E b-21) aa;rw[jR,cH]at this;rw[cH];exact this
theorem ac8(HT:bM B w0){b:al}(hb:fo B w0 F A c b)(di:E b<=1000000000)(h:¬E b<42):aZ B w0 128 [.slice A (E b) c] F (RY (eh b) B w0 F):=by
 refine dU.yw hb λnZ _=>?_;have ha:=al_ h hb;have hz:=al' h hb;have l1:E (b.take 21)=21:=by rw[eY];omega
 have l2:E (b.drop (E b-21))=E b-(E b-21):=by rw[iG]
 refine fw func128 24 [0] ?_;refine bO ?_;refine ai rfl (N5 di nZ h) (ei ?_);refine ab (jm rfl) rfl (bE ?_);refine iH (λnj=>?_) λnj=>?_
 ·exfalso;exact absurd nj ax
 ·refine bE ?_;refine ai rfl (N6 HT (l:=b.take 21) l1.symm ha aa) (bE ?_);refine aj (λlf=>?_) λlf=>?_
  ·refine bF ?_;refine ve [2,3] ?_;refine bF ?_;rw[ac4 h lf];exact⟨A,c,by rw[l1],rfl,by rw[l1];exact ha⟩
  ·refine bE ?_;refine ai rfl (N6 HT (l:=b.drop (E b-21)) l2.symm hz aa) (aF ?_);refine ve [5,20] ?_;refine aF ?_;refine aj (λju=>?_) λju=>?_
   ·refine de ?_;rw[ac5 h lf ju];exact⟨_,_,by rw[l2],rfl,by rw[l2];exact hz⟩
   ·refine de ?_;exact RY.nil (ac6 h lf ju)
theorem yC(HT:bM B w0){b:al}(hb:fo B w0 F A c b)(di:E b<=1000000000):aZ B w0 128 [.slice A (E b) c] F (RY (eh b) B w0 F):=by
 by_cases h:E b<42
 ·exact ac7 h
 ·exact ac8 HT hb di h
theorem aop{l:al}(h:E l<=1000000000):cu (DE l)∧cu (lK l)∧cu (j_ l)∧cu (xC l)∧cu (M6 l)∧cu (hs5 l)∧cu (hs6 l):=by
 have h0:cu (DE l):=pS ly;have f2:∀{s:Cs},cu s->cu (s.lJ 2):=λ{s} k=>by unfold Cs.lJ;rw[aw aa];exact k.cj
 exact⟨h0,h0.cj,h0.cj.cj,h0.cj.cj.cj,h0.cj.cj.cj.cj,f2 h0.cj.cj.cj.cj,f2 (f2 h0.cj.cj.cj.cj)⟩
theorem avg(l:al):(DE l).b=l.drop 5∧(lK l).b=l.drop 5∧(j_ l).b=l.drop 5∧(xC l).b=l.drop 5∧(M6 l).b=l.drop 5∧(hs5 l).b=l.drop 5∧(hs6 l).b=l.drop 5:=by
 have f2:∀(s:Cs),(s.lJ 2).b=s.b:=λs=>by unfold Cs.lJ;rw[aw aa];exact Cs.cQ _ _ _
 have k1:(lK l).b=l.drop 5:=Cs.cQ _ _ _;have k2:(j_ l).b=l.drop 5:=(Cs.cQ _ _ _).trans k1;have k3:(xC l).b=l.drop 5:=(Cs.cQ _ _ _).trans k2;have k4:(M6 l).b=l.drop 5:=(Cs.cQ _ _ _).trans k3;have k5:(hs5 l).b=l.drop 5:=(f2 _).trans k4;exact⟨rfl,k1,k2,k3,k4,k5,(f2 _).trans k5⟩
theorem anv{l:al}(e:n=E l)(hb:aM B w0 F 1 (.slice A n c) n (bv l))(hl:E l<=1099511627776):
  aZ B w0 109 [.slice A n c] F (λr L=>∃g A' c',r=br g∧L=Cv g A' c' ⟨l,0,0⟩:: .own 5 1 A' (E l) c' (bv l)::F):=by
 subst e;exact nC hb hl
theorem WM(s:Cs):s.fixed 2<65536:=by
 unfold Cs.fixed;rw[aw aa];have h:=sb (s.take 2);have h2:=E5 s;exact uT h (gJ aa h2)
theorem WN(s:Cs):s.fixed 4<4294967296:=by
 unfold Cs.fixed;rw[aw aa];have h:=sb (s.take 4);have h2:=xq s;exact uT h (gJ aa h2)
theorem asd(l:al):hN l<4294967296:=WN _
theorem Q1{l:al}(e:n=E l)(h5:5<=E l)(hb:aM B w0 F 1 (.slice A n c) n (bv l))(hl:E l<=1000000000):
  aZ B w0 129 [.slice A n c] F (λr L=>(hE l≠0∧∃Y v,r= .tuple #[v,ah (hE l)]∧L=Y++F)∨(hE l=0∧∃g,r= .tuple #[br g,ah 0]∧L=Hb g (hO l) (hN l) (Cz l).toNat::F)):=by
 subst e;have RK:E (l.drop 5)=E l-5:=iG;have hcut:aM B w0 F 1 (.slice (if c=5 then A else A.map (·.add (5*1))) (E l-5) (c-5)) (E l-5) (bv (l.drop 5)):=by
  have:=hb.cut (k:=5) h5;rw[jR,cH]at this;rw[cH];exact this
 obtain⟨o0,o1,o2,o3,o4,o5,o6⟩:=aop hl;obtain⟨q0,q1,q2,q3,q4,q5,q6⟩:=avg l;have e1:lK l=(DE l).e_:=rfl;have e2:j_ l=(lK l).e_:=rfl;have e3:xC l=(j_ l).e_:=rfl;have e4:M6 l=(xC l).e_:=rfl;have e5:hs5 l=(M6 l).lJ 2:=rfl;have e6:hs6 l=(hs5 l).lJ 2:=rfl;obtain⟨y0,hy0⟩:=cK ((DE l).byte.toNat);obtain⟨y1,Pd⟩:=cK ((lK l).byte.toNat);obtain⟨y2,TA⟩:=cK ((j_ l).byte.toNat);obtain⟨y3,hy3⟩:=cK ((xC l).byte.toNat);obtain⟨y4,hy4⟩:=cK ((M6 l).fixed 2);obtain⟨y5,hy5⟩:=cK ((hs5 l).fixed 2);obtain⟨y6,hy6⟩:=cK ((hs6 l).fixed 4);have b0:y0<256:=by rw[hy0];exact r' _
 have b1:y1<256:=by rw[Pd];exact r' _
 have b2:y2<256:=by rw[TA];exact r' _
 have b3:y3<256:=by rw[hy3];exact r' _
 have b4:y4<65536:=by rw[hy4];exact WM _
 have b5:y5<65536:=by rw[hy5];exact WM _
 have b6:y6<4294967296:=by rw[hy6];exact WN _
 have hPP:(Cz l).toNat=y0:=hy0.symm;have hNN:hN l=y6:=hy6.symm;have hOO:hO l=((y5:Int),decide ((y0:Int)=1),(y1:Int),(y2:Int),(y3:Int),(y4:Int)):=by
  unfold hO;rw[hPP,<-Pd,<-TA,<-hy3,<-hy4,<-hy5];congr 2;exact zj.2 ⟨λh=>by omega,λh=>aa⟩
 have hEE:hE l=if 1<y0 then 2 else ct 3 (hO l):=by unfold hE;rw[hPP]
 rw[hOO,hNN,hPP];rw[hOO]at hEE;refine dU.yw hb λnZ _=>?_;refine b_ func129 74 rfl rfl rfl [(0,.slice A (E l) c)] ⟨⟨rfl,rfl⟩,trivial⟩ ?_;refine bO ?_;refine ab (bY (i:=5) (size:=1) underlying27 ag rfl rfl rfl aa) rfl (fh rfl (anv RK.symm hcut aa) λgn An cn=>b7 ?_);rw[show(⟨l.drop 5,0,0⟩:Cs)=DE l from rfl];refine bc ?_;refine ai rfl (o_ (s:=DE l) o0 (aM.own (.head _))) ?_;rw[<-e1,<-hy0];refine ab (bx [(2,_)] [ah 0,.bool false,ah 0,ah 0,ah 0,ah 0,ah 0,.int .u8 0] [7] [_,_,_,_,_,_,_,_] rfl rfl ag) rfl (bg λHt=>?_);refine b7 ?_;refine gx (.swap _ _ _) ?_;refine de ?_;refine ve [4,5] ?_;refine bI ?_;refine ai rfl (o_ (s:=lK l) o1 (by rw[q1];exact(aM.own (.head _)).cons)) ?_;rw[<-e2,<-Pd];refine bc ?_;refine ai rfl (o_ (s:=j_ l) o2 (by rw[q2];exact(aM.own (.head _)).cons)) ?_;rw[<-e3,<-TA];refine bc ?_;refine ai rfl (o_ (s:=xC l) o3 (by rw[q3];exact(aM.own (.head _)).cons)) ?_;rw[<-e4,<-hy3];refine cY ?_;refine ve [4,5] ?_;refine bB ?_;refine ai rfl (IY (s:=M6 l) o4 (by rw[q4];exact(aM.own (.head _)).cons)) ?_;rw[<-e5,<-hy4];refine bc ?_;refine ai rfl (IY (s:=hs5 l) o5 (by rw[q5];exact(aM.own (.head _)).cons)) ?_;rw[<-e6,<-hy5];refine jt ?_;refine ai rfl (IZ (s:=hs6 l) o6 (by rw[q6];exact(aM.own (.head _)).cons)) ?_;rw[<-hy6];refine b7 ?_;refine ve [5] ?_;refine de ?_;refine aj (λOT=>?_) λOT=>?_
 ·refine bO ?_;rw[ao aa]at hEE;rw[hEE];exact .inl ⟨ax,[_,_,_],_,rfl,rfl⟩
 ·refine bK ?_;refine ab (bP 6 ag rfl aW (aN.cells ((y5:Int),decide ((y0:Int)=1),(y1:Int),(y2:Int),(y3:Int),(y4:Int))) rfl rfl) rfl ?_;refine ai rfl (kY 3 ((y5:Int),decide ((y0:Int)=1),(y1:Int),(y2:Int),(y3:Int),(y4:Int))) (bF ?_);refine aq ((gE (.s2 (.refl _)))) (aF ?_);rw[aw aa]at hEE;rw[hEE];exact(Classical.em _).elim (λk=>.inr ⟨k,_,by rw[k],rfl⟩) λk=>.inl ⟨k,[_],_,rfl,rfl⟩
section
theorem yD{B g2 g3:Nat}{A:bk}{n c sz:Nat}(jg:1<=sz)(j_:sz<=10000)(hn:n<=1000000000000000)(hnc:n<=c)(hg:g2≠g3)(w:World)(h2:(Ch.bG g2 27 [.slice A n c]).holds B w)(h3:(Ch.bG g3 3 [ah sz]).holds B w):
  SeqStopsK Fence.wide 7 Tryz.prog 188 [br g2,br g3].toArray (λx:Fin (h_ sz n)=> #[HJ A sz n x.val])
   (am5 B [.bG g2 27 [.slice A n c],.bG g3 3 [ah sz]]) (λxs=>xs.map (·.val)=List.range (h_ sz n)) (λ_=>True) (h_ sz n) w:=by
 intro l J Jx W hW hJ hJx hY h0;have oC:∀w:World,(∀q∈[Ch.bG g2 27 [.slice A n c],.bG g3 3 [ah sz]],q.holds B w)->SL 0 w [Ch.bG g2 27 [.slice A n c],.bG g3 3 [ah sz]] w:=λw h=>by
  refine⟨Ij _ _,bU _,λc hc=>?_,ky.2 ⟨λd hd=>?_,ky.2 ⟨λ_ h=>kC,List.Pairwise.nil⟩⟩⟩
  ·have:=h c hc;simp only[fj,mV,oU]at hc;rcases hc with rfl|rfl<;>exact⟨bU _,this.2⟩
  ·rw[me.1 hd];exact .inr λe=>hg (PD e)
 have aoe:=(h2.lt rfl).2;have aof:=(h3.lt rfl).2;have hW0:∀q∈[Ch.bG g2 27 [.slice A n c],.bG g3 3 [ah sz]],q.holds B W:=by
  intro c hc;simp only[fj,mV,oU]at hc;rcases hc with rfl|rfl
  ·exact h2.keep λg hg=>by cases hg;exact hW.block _ aoe
  ·exact h3.keep λg hg=>by cases hg;exact hW.block _ aof
 have hdr:∀pre (w:World) k,J pre w->J pre (w.drewN k):=λpre w k h=>hJ pre w _ none h (rk w k) (λr e=>by cases e);generalize hLk:[Ch.bG g2 27 [.slice A n c],.bG g3 3 [ah sz]]=Lk at*;refine callsIn_of_wp func188 rfl trivial (w8 (Q:=YH 31 (TE (λw=>∃xs:List (Fin (h_ sz n)),xs.map (·.val)=List.range (h_ sz n)∧J xs w) (λw=>∃pre,True∧Jx pre w))) ?_ ?_) rfl
 ·have ha:=VI (N:=31) (args:=[.func (.yield l) #[] #[],br g2,br g3]) (fr0:=[(0,.func (.yield l) #[] #[]),(1,br g2),(2,br g3)]) ak ⟨⟨rfl,rfl⟩,⟨rfl,rfl⟩,⟨rfl,rfl⟩,trivial⟩;refine(?_ :VT Tryz.prog 31 _ _ _ W) _ ha;refine oQ (mv ?_);refine cN (oC W hW0) (mb rfl) rfl rfl ?_;refine nT [(0,_),(1,_),(2,_),(4,_)] ⟨rfl,rfl,rfl,rfl,trivial⟩ ?_;refine kK (zY ?_);refine YO (λi w=>i<=h_ sz n∧(∀c∈Lk,c.holds B w)∧∃pre:List (Fin (h_ sz n)),pre.map (·.val)=List.range i∧J pre w) (λi=>[(0,.func (.yield l) #[] #[]),(1,br g2),(2,br g3),(4,ah ((i*sz:Nat):Int))]) 4 (n+sz) (λi=>i*sz) (λi=>rfl) 0 ⟨bU _,hW0,[],rfl,h0⟩ ⟨rfl,rfl,rfl,by rw[qC];rfl,trivial⟩ ?_;rintro i w ⟨hi,hh,pre,Fi,hJp⟩;have hs:=oC w hh;rw[<-hLk]at hs;refine oQ (oQ (mv ?_));refine cN hs (ek rfl) rfl rfl ?_;refine cN hs (bQ ag rfl HF rfl) rfl rfl ?_;refine cN hs (pV underlying27 rfl) rfl rfl ?_;refine cN hs (yL rfl rfl) rfl rfl ?_;refine nT [(0,_),(1,_),(2,_),(4,_),(9,_)] ⟨rfl,rfl,rfl,rfl,rfl,trivial⟩ ?_;refine kK (Kq rfl (λfN=>?_) (λfN=>?_))
  ·refine DV ?_;have hin:i*sz<n:=by omega
   have hiN:=(oF jg).2 hin;have hlen:E pre<h_ sz n:=by
    have:=dQ List.length Fi;simp at this;omega
   have hE1:1<=yc sz n i:=by unfold yc;omega
   have hE2:yc sz n i<=sz:=by unfold yc;omega
   have hE3:i*sz+yc sz n i<=n:=by unfold yc;omega
   have hss:(i+1)*sz=i*sz+sz:=kH i sz;refine kK (oQ (zY (oQ (Hf ag ag ?_))));refine kL hs (bQ ag rfl HF rfl) rfl ?_;refine kL hs (bQ ag rfl HF rfl) rfl ?_;refine kL hs (ek rfl) rfl ?_;refine kL hs (bY (i:=i*sz) (size:=1) underlying27 ag rfl rfl rfl aa) rfl ?_;refine kL hs (pV underlying27 rfl) rfl ?_;refine kL hs (yM rfl rfl) rfl ?_;refine kL hs (mb rfl) rfl ?_;rw[show min (sz:Int) ((n-i*sz:Nat):Int)=((yc sz n i:Nat):Int) by unfold yc;omega];refine YP [(0,_),(1,_),(2,_),(4,_),(5,_)] ⟨rfl,rfl,rfl,rfl,rfl,trivial⟩ ?_;intro kd;have hJd:=hdr pre w kd hJp;have xz:∀c∈Lk,c.holds B (w.drewN kd):=λc hc=>(hh c hc).keep λg hg=>rfl;clear hh hJp hs;generalize w.drewN kd=w at*;have hs:=oC w xz;rw[<-hLk]at hs;refine kK (oQ (mv ?_));refine cN hs (ek rfl) rfl rfl ?_;refine cN hs (bQ ag rfl HF rfl) rfl rfl ?_;refine cN hs (ek rfl) rfl rfl ?_;refine cN hs (ek rfl) rfl rfl ?_;refine cN hs (ek rfl) rfl rfl ?_;refine cN hs (bJ rfl rfl (bq aa aa)) rfl rfl ?_;refine cN hs (ek rfl) rfl rfl ?_;refine cN hs (ek rfl) rfl rfl ?_;refine cN hs (bJ rfl rfl (bq aa aa)) rfl rfl ?_;refine cN hs (wP (i:=i*sz) (j:=i*sz+yc sz n i) (size:=1) underlying27 ag rfl rfl rfl rfl aa rfl aa aa aa) rfl rfl ?_;rw[cH,zc];refine Kr (u:=HJ A sz n i) rfl rfl (hY pre ⟨i,hiN⟩ w hJd hlen) rfl ?_ ?_
   ·rintro w' ⟨hJ',hK⟩;have hh':∀c∈Lk,c.holds B w':=λc hc=>hK c hc (xz c hc);have hs:=oC w' hh';rw[<-hLk]at hs;refine cN hs (AV rfl) rfl rfl ?_;refine nT [(0,_),(1,_),(2,_),(4,_),(30,_)] ⟨rfl,rfl,rfl,rfl,rfl,trivial⟩ ?_;refine kK (Hc rfl (DV ?_));refine kK (mv ?_);refine cN hs (ek rfl) rfl rfl ?_;refine cN hs (bQ ag rfl HF rfl) rfl rfl ?_;refine cN hs (bJ rfl rfl (r:=(((i+1)*sz:Nat):Int)) ((bq aa aa).trans aa)) rfl rfl ?_;refine cN hs (mb rfl) rfl rfl ?_;refine nT [(0,_),(1,_),(2,_),(4,_)] ⟨rfl,rfl,rfl,rfl,trivial⟩ ?_;exact⟨i+1,⟨hiN,hh',pre++[⟨i,hiN⟩],by rw[jx,Fi,lT];rfl,hJ'⟩,aa,rfl,rfl,rfl,rfl,trivial⟩
   ·intro w' hJ';have DE:SL w'.heap.size w' [] w':=SL.BI w';refine cN DE (AU rfl) rfl rfl ?_;refine nT [(30,_)] ⟨rfl,trivial⟩ ?_;refine kK (He rfl (ahY ?_));exact .inr ⟨_,trivial,hJ'⟩
  ·refine YN ?_;refine YI ?_;show TB 0 _ (Exit.exit 0) _ _;refine Yv ?_;have xx:¬i<h_ sz n:=λh=>fN (by have:=(oF jg).1 h;omega);obtain rfl:i=h_ sz n:=by omega
   exact .inl ⟨pre,Fi,hJp⟩
 ·rintro e a w ⟨fr,ha,hq⟩;cases e<;>first
   |exact hq.elim
   |exact⟨ha.defers,_,results_none rfl _ _ _,⟨_,rfl⟩,hq⟩
variable{B:Nat}{w0:World}{F:aR}{A:bk}{n c:Nat}
theorem NZ{sz:Nat}(jg:1<=sz):aZ B w0 121 [.slice A n c,ah sz] F (λv L=>∃g2 g3,v= .func (.func 188) #[] #[br g2,br g3]∧L= .bG g3 3 [ah sz]:: .bG g2 27 [.slice A n c]::F):=by
 refine fw func121 9 [0,1] ?_;refine bc ?_;refine bg λg2=>?_;refine bg λg3=>?_;refine bz ?_;refine dw λh6=>?_;refine bz ?_;exact⟨_,_,rfl,rfl⟩
end
def vN(k:Nat)(good:List Bool)(i:Nat):bf:=((List.range i).filter λj=>good.getD j false).take k
theorem ajh{good:List Bool}{i:Nat}(h:good.getD i false=true)(hl:E (vN k good i)<k):vN k good (i+1)=vN k good i++[i]:=by
 unfold vN at hl⊢;rw[eY]at hl;have e:E ((List.range i).filter λj=>good.getD j false)<k:=by omega
 rw[lT,Fy,PG,fC aa];congr 1;rw[uQ,ao ng,List.filter_nil];exact fC (by rw[qM];omega)
theorem adW{good:List Bool}{i:Nat}(hl:¬E (vN k good i)<k):vN k good (i+1)=vN k good i:=by
 unfold vN at hl⊢;rw[eY]at hl;rw[lT,Fy,PG];have:k-E ((List.range i).filter λj=>good.getD j false)=0:=by omega
 rw[this,zl,gl]
theorem anM{good:List Bool}{i:Nat}(h:good.getD i false=false):vN k good (i+1)=vN k good i:=by
 unfold vN;rw[lT,Fy,uQ,aw Nu,List.filter_nil,gl]
theorem Ka{PB:List lu}{good:List Bool}(hl:E good=E PB)(hn:E PB<=1000000)(hb:aM B w0 F 1 (.slice A (E PB) c) (E PB) (PB.map dy))(hg:aM B w0 F 1 (.slice A2 (E good) c2) (E good) (tD good)):
  aZ B w0 276 [ah (k:Int),.slice A (E PB) c,.slice A2 (E good) c2] F (λv L=>∃Aa ca Al cl,v= .tuple #[.slice Aa (E (cW k good)) ca,.slice Al (E (cW k good)) cl]∧
   L= .own 27 1 Al (E (cW k good)) cl (((cW k good).map (PB.getD · jl)).map dy):: .own 3 1 Aa (E (cW k good)) ca (bD (cW k good))::F):=by
 refine fw func276 38 [0,1,2] ?_;refine bK ?_;have hf0:E (vN k good 0)=0:=by simp[vN]
 refine a_ 3 1 none (a_ 27 1 none (bI ?_));refine aD (λzf zL zm=>∃(i:Nat) (Aa:bk) (ca:Nat) (Al:bk) (cl:Nat),(i<=E PB)∧E PB-i=zm∧Sub zf [(0,ah (k:Int)),(2,.slice A2 (E good) c2),(6,.slice Aa (E (vN k good i)) ca),(7,.slice Al (E (vN k good i)) cl),(10,.slice A (E PB) c),(11,ah (E PB)),(12,ah (i:Int))]∧Wk zL (.own 27 1 Al (E (vN k good i)) cl (((vN k good i).map (PB.getD · jl)).map dy):: .own 3 1 Aa (E (vN k good i)) ca (bD (vN k good i))::F)) _ ⟨0,none,0,none,0,bU _,rfl,bp,az (by simp[vN]) (by simp[vN]) (az (by simp[vN]) (by simp[vN,bD]) (.refl _))⟩ ?_;rintro _ _ _ ⟨i,Aa,ca,Al,cl,hi,rfl,hs,hp⟩;refine aT hs hp (bB ?_);refine aj (λnj=>?_) λnj=>?_
 ·have hpg:=Ip (PB:=PB) (i:=i) aa;have lg:E (vN k good i)<=i:=by
   unfold vN;have:=zb (λj=>good.getD j false) (List.range i);rw[uR]at this;rw[eY];omega
  refine bK ?_;refine ab (au ag rfl aB aa hpg) rfl (de ?_);refine l7 rfl rfl rfl (λmx=>?_) (λmx=>?_)
  ·refine bz ?_;refine aj (λqy=>?_) λqy=>?_
   ·have tH:=ajh (k:=k) (by simpa using mx) (show(vN k good i).length<k by omega);have aeO:E (vN k good (i+1))=E (vN k good i)+1:=by rw[tH];simp
    refine b7 ?_;refine dL fT rfl rfl rfl rfl rfl (λ_=>rfl) aW aa aa ?_;intro _ RW c30;refine aF ?_;refine ve [0,2,6,7,9,10,11,12] ?_;refine b7 ?_;refine dL fQ rfl rfl rfl rfl rfl (λ_=>rfl) aW aa aa ?_;intro _ xc yb;refine bK ?_;refine av ⟨_,aa,i+1,RW,c30,xc,yb,aa,rfl,bp,.trans ((eu (eu (.refl _)))) (az (by rw[tH];simp) (by rw[tH];simp) (az (by rw[tH];simp) (by rw[tH];simp[bD]) (.refl _)))⟩
   ·have tH:=adW (k:=k) (good:=good) (i:=i) aa;have aeO:E (vN k good (i+1))=E (vN k good i):=by rw[tH]
    refine bB ?_;refine ve [0,2,6,7,10,11,12] ?_;refine av ⟨_,aa,i+1,Aa,ca,Al,cl,aa,rfl,bp,az wO wO (az wO wO (.refl _))⟩
  ·have tH:=anM (k:=k) (by simpa using mx);have aeO:E (vN k good (i+1))=E (vN k good i):=by rw[tH]
   refine cY ?_;refine ve [0,2,6,7,10,11,12] ?_;refine av ⟨_,aa,i+1,Aa,ca,Al,cl,aa,rfl,bp,az wO wO (az wO wO (.refl _))⟩
 ·obtain rfl:i=E PB:=by omega
  have ye:vN k good (E PB)=cW k good:=by unfold vN cW;rw[hl]
  rw[ye];refine jt ?_;exact⟨Aa,ca,Al,cl,rfl,rfl⟩
theorem alE(vS:k+m<=255):aZ B w0 278 [ah (k:Int),ah (m:Int)] F (λv L=>∃A' c',v=wx A' (k+m) k ((k+m)*k) c'∧L= .own 5 1 A' ((k+m)*k) c' (bv (jX k m))::F):=by
 refine fw func278 30 [0,1] ?_;refine bc ?_;refine bh λg4=>?_;refine bF ?_;refine ay rfl (ajL aa) λMN c12=>bE ?_;refine bh λg5=>?_;refine bK ?_;refine ay rfl (NU vS) λMO c19=>bE ?_;refine bh λg7=>?_;refine bK ?_;refine cC (mK (size:=3) (kk:=2) (zv:=.agg #[ah 0,ah 0,.slice none 0 0]) (us:=[(0,wx MN k k (k*k) c12),(1,wx MO m k (m*k) c19)]) (cs:=aoO MN MO k m (k*k) (m*k) c12 c19) underlying440 ag aa aa aa ag rfl ag rfl) λIx=>ay rfl (akY (x:=Pe k) (y:=HI k m) vS (Xm k) (Ek k m) (aM.own (.head _)) aB aB) λtQ Cp=>bE ?_;refine bh λg9=>?_;refine bc ?_;refine ve [4,9] ?_;refine bK ?_;refine J_ rfl rfl ag aW gV ((gE (.s7 (.refl _)))) ?_;exact⟨tQ,Cp,rfl,rfl⟩
theorem ail{PB:List lu}(e:n=E PB)(hb:aM B w0 F 1 (.slice A n c) n (PB.map dy))(hl:E PB<=1000000):
  aZ B w0 190 [.slice A n c] F (λv L=>v= .bool (decide (sG (PB.map (·.2.2))))∧L=F):=by
 subst e;exact J' hb hl
theorem alg{PB:List lu}{cells:al}{nn:Nat}(e:n=E PB)(hk:E PB=k)(yf:1<=k)(hr:r<=255)(Jw:k<=255)(uh:E cells=r*k)(RS:nn<=1000000000)(Jy:∀e∈PB,E e.2.2=nn)(hc:aM B w0 F 1 (.slice A (r*k) c) (r*k) (bv cells))(hb:aM B w0 F 1 (.slice A2 n c2) n (PB.map dy))(hP:∀e∈PB,aM B w0 F 1 (dy e) (E e.2.2) (bv e.2.2)):
  aZ B w0 192 [wx A r k (r*k) c,.slice A2 n c2] F (PtA (Q4 r k cells (PB.map (·.2.2)) nn) none F):=by
 subst e;exact Kb hk yf hr Jw uh RS Jy hc hb hP
set_option maxHeartbeats 1000000 in
theorem ags{PB:List lu}{good:List Bool}{nn:Nat}(hk:1<=k)(vS:k+m<=255)(Cz:E PB=k+m)(DC:E good=k+m)(RS:nn<=1000000)(Jy:∀i,i<k+m->good.getD i false=true->E (PB.getD i jl).2.2=nn)(hb:aM B w0 F 1 (.slice A (E PB) c) (E PB) (PB.map dy))(hP:∀e∈PB,aM B w0 F 1 (dy e) (E e.2.2) (bv e.2.2))(hg:aM B w0 F 1 (.slice A2 (E good) c2) (E good) (tD good)):
  aZ B w0 243 [ah (k:Int),ah (m:Int),.slice A (E PB) c,.slice A2 (E good) c2] F (PtA (oX k m (PB.map (·.2.2)) good).1 (some (oX k m (PB.map (·.2.2)) good).2) F):=by
 have hfm:∀j,((cW j good).map (PB.getD · jl)).map (·.2.2)=ey j (PB.map (·.2.2)) good:=λj=>by
  unfold ey;rw[sW];exact qB λi _=>by rw[Gc];rfl
 have ye:∀j,∀e∈(cW j good).map (PB.getD · jl),E e.2.2=nn∧e∈PB:=λj e he=>by
  obtain⟨i,hi,rfl⟩:=pC.1 he;obtain⟨h1,h2⟩:=pv i hi;exact⟨Jy i aa h2,bj aa jl⟩
 have Hu:sG (ey (k+m) (PB.map (·.2.2)) good):=λb pB=>by
  have kU:∀x∈ey (k+m) (PB.map (·.2.2)) good,E x=nn:=λx hx=>by
   rw[<-hfm]at hx;obtain⟨e,he,rfl⟩:=pC.1 hx;exact(ye _ e he).1
  rw[kU b pB,n_ kU (List.length_pos_of_mem pB)]
 have av1:E (ey (k+m) (PB.map (·.2.2)) good)=E (cW (k+m) good):=by unfold ey;rw[dX]
 refine fw func243 118 [0,1,2,3] ?_;refine de ?_;refine ai rfl (Yb hk vS) (jG ?_);refine aI rfl rfl rfl (λz'=>?_) (λz'=>?_)
 ·refine cF ?_;refine ve [0,1,2,3,43] ?_;refine aF ?_;refine dw λZ4=>?_;refine bB ?_;refine ab (bJ rfl rfl (r:=((k+m:Nat):Int)) ((bq aa aa).trans aa)) rfl (bc ?_);refine be al4 rfl (Ka (k:=k+m) aa aa hb hg) rfl ?_;rintro _ _ ⟨Aa,ca,Al,cl,rfl,cO⟩;obtain rfl:=cO.symm;refine de ?_;refine ai rfl (ail (PB:=(cW (k+m) good).map (PB.getD · jl)) ak (aM.own (.head _)) (by have:=(sQ (k+m) good);simp;unfold cW;rw[eY];omega)) (bE ?_);refine aj (λZ6=>?_) λZ6=>?_
  ·exfalso;exact Z6 (by rw[hfm];exact Hu)
  ·refine bO ?_;refine ve [0,1,2,3,59] ?_;refine aF ?_;refine aj (λh59=>?_) λh59=>?_
   ·have em:oX k m (PB.map (·.2.2)) good=([],12):=by unfold oX;rw[aw (λh=>h Hu),ao aa]
    refine bK ?_;rw[em];refine aC 27 1 none (aq (.cons (.s2 (.refl _))) (aF ?_));exact⟨none,0,[],rfl,rfl,rfl⟩
   ·have em:oX k m (PB.map (·.2.2)) good=(nk k m (PB.map (·.2.2)) good++par m (nk k m (PB.map (·.2.2)) good),0):=by unfold oX;rw[aw (λh=>h Hu),aw aa]
    have lg:E (cW k good)=k:=by
     have:k<=E (cW (k+m) good):=by omega
     unfold cW at this⊢;rw[eY]at this⊢;omega
    have fN:∀a,a∈cW k good->a<k+m:=λa ha=>by have:=(pv a ha).1;omega
    have hP2:∀e∈(cW k good).map (PB.getD · jl),E e.2.2=nn:=λe he=>(ye k e he).1;refine bI ?_;refine be al4 rfl (Ka (k:=k) aa aa hb.cons.cons hg.cons.cons) rfl ?_;rintro _ _ ⟨Aa2,ca2,Al2,cl2,rfl,cO⟩;obtain rfl:=cO.symm;refine cY ?_;refine dY (λzf zL=>∃(DB:List lu) (Ad:bk) (cd:Nat) (K:aR),(E DB=k∧(∀e∈DB,E e.2.2=nn)∧DB.map (·.2.2)=nk k m (PB.map (·.2.2)) good∧aM B w0 K 1 (.slice Ad (E DB) cd) (E DB) (DB.map dy)∧(∀e∈DB,aM B w0 K 1 (dy e) (E e.2.2) (bv e.2.2))∧Wk K F)∧Sub zf [(0,ah (k:Int)),(1,ah (m:Int)),(14,.slice Ad (E DB) cd)]∧Wk zL (K)) ?_ ?_
    ·refine b7 ?_;refine ab (dC rfl rfl (r:=((k-1:Nat):Int)) ((bq aa aa).trans aa)) rfl (ab (aE (i:=k-1) (size:=1) underlying53 ag rfl rfl rfl aa (aM.own (.tail _ (.head _)))) rfl (ab (au ag rfl (aM.own (.tail _ (.head _))) aa (gv (v:=(cW k good).getD (k-1) 0) aa rfl)) rfl (aF ?_)));refine ab (dC rfl rfl (r:=((k-1:Nat):Int)) ((bq aa aa).trans aa)) rfl (aF ?_);refine ve [0,1,12,13,14,75] ?_;refine aF ?_;refine aj (λh75=>?_) λh75=>?_
     ·obtain⟨b,hbi,di,_⟩:=ae3 (n:=k) (m:=k9 k (jX k m) (cW k good)) (by rw[zD (nO k m) fN,lg]) (Qg vS lg (sQ k good) fN);have hmb:PW k m good=b:=by unfold PW;rw[hbi];rfl
      have mP:E (k9 k (jX k m) (cW k good))=k*k:=by rw[zD (nO k m) fN,lg]
      have hmd:nk k m (PB.map (·.2.2)) good=Q4 k k b (ey k (PB.map (·.2.2)) good) nn:=by
       unfold nk;rw[ao aa,hmb,<-hfm,n_ (n:=nn) (λx hx=>by
        obtain⟨e,he,rfl⟩:=pC.1 hx;exact hP2 e he) bT]
      refine b7 ?_;refine ay rfl (alE vS) λA79 c79=>?_;refine aF ?_;refine ay rfl (aph (x:=jX k m) (at_:=cW k good) vS aa (nO k m) aa fN (aM.own (.head _)) (aM.own (.tail _ (.tail _ (.head _))))) λA81 c81=>?_;refine bE ?_;refine bh λg15=>?_;refine bF ?_;rw[lg];refine bc ?_;refine ay rfl (aat (x:=k9 k (jX k m) (cW k good)) (b:=b) aa mP hbi (aM.own (.tail _ (.head _)))) λA86 c86=>?_;refine bE ?_;refine bh λg17=>?_;refine bc ?_;refine ve [0,1,13,17] ?_;refine b7 ?_;refine be alZ rfl (alg (PB:=(cW k good).map (PB.getD · jl)) (cells:=b) (nn:=nn) bT bT hk aa aa di aa hP2 (aM.own (.tail _ (.head _))) (aM.own (.tail _ (.tail _ (.tail _ (.tail _ (.tail _ (.head _))))))) (λe he=>by have:=hP e (ye k e he).2;repeat (first|exact this|apply aM.cons))) rfl ?_;rintro _ _ ⟨A91,c91,DB,rfl,cO,hDB⟩;obtain rfl:=cO.symm;refine bc ?_;exact bC ⟨DB,A91,c91,_,(by
       have hDl:E DB=k:=by have:=dQ List.length hDB;rw[dX,ld]at this;exact this
       refine⟨hDl,λe he=>?_,by rw[hDB,hmd,hfm],aM.own (.head _),λe he=>aM.own (.tail _ (kI _ (jy (f:=fE) he))),?_⟩
       ·have hm:e.2.2∈Q4 k k b (((cW k good).map (PB.getD · jl)).map (·.2.2)) nn:=hDB▸jy (f:=λx:lu=>x.2.2) he;exact G1 (λx hx=>by
         obtain⟨y,hy,rfl⟩:=pC.1 hx;exact hP2 y hy) _ hm
       ·exact .skip ((dB _ _).trans (by repeat (first|exact Wk.refl _|apply Wk.skip)))),bp,.refl _⟩
     ·have Aj:E ((cW k good).map (PB.getD · jl))=E (cW k good):=dX _;have hmd:nk k m (PB.map (·.2.2)) good=ey k (PB.map (·.2.2)) good:=by
       unfold nk;rw[aw aa]
      refine aF ?_;exact bC ⟨(cW k good).map (PB.getD · jl),Al2,cl2,_,(by
       refine⟨by rw[dX];exact lg,hP2,by rw[hfm,hmd],?_,λe he=>by have:=hP e (ye k e he).2;repeat (first|exact this|apply aM.cons),.s4 (.refl _)⟩;rw[dX];exact aM.own (.head _)),bp,.refl _⟩
    ·rintro _ _ ⟨DB,Ad,cd,K,⟨hDl,hDe,hDm,hDb,hDP,hKF⟩,hs,hp⟩;refine aT hs hp (b7 ?_);refine be alT rfl (Qe (PB:=DB) (nn:=nn) hDl hk vS aa hDe hDb hDP) rfl ?_;rintro _ _ ⟨A95,c95,FB,rfl,cO,tG⟩;obtain rfl:=cO.symm;refine de ?_;refine ab (bJ rfl rfl (r:=((k+m:Nat):Int)) ((bq aa aa).trans aa)) rfl (cC (ft (nn:=0) fQ rfl rfl rfl rfl rfl aa aa aa) λam3=>b7 ?_);refine dY (λzf zL=>∃(Ac:bk) (cc:Nat) (K2:aR),(aM B w0 K2 1 (.slice Ac (E (DB++FB)) cc) (E (DB++FB)) ((DB++FB).map dy)∧(∀e∈DB++FB,aM B w0 K2 1 (dy e) (E e.2.2) (bv e.2.2))∧Wk K2 F)∧Sub zf [(21,.slice am3 0 (k+m)),(105,.slice Ac (E (DB++FB)) cc),(106,ah (E (DB++FB))),(107,ah 0)]∧Wk zL (.own 27 1 am3 0 (k+m) []::K2)) ?_ ?_
     ·have S7:E FB=m:=by have:=dQ List.length tG;rw[dX,mg]at this;exact this
      have ajt:E (DB++FB)=E DB+E FB:=aX;refine bE ?_;refine cC (aG apz [_,_] rfl rfl cw aa aa) λatH=>?_;refine ay rfl (aa8 (V1:=DB.map dy) (V2:=FB.map dy) (aM.own (.head _)) (by have:=hDb;refine aM.cons (aM.cons (aM.cons (this.mono (gL _ _))))) (aM.own (.tail _ (.tail _ (.head _)))) Gn Gn aa aa aa) λatI atU=>?_;refine bc ?_;refine ve [21,105,106,107] ?_;exact bC ⟨atI,atU,_,(by
       rw[ajt];refine⟨by rw[jx];exact aM.own (.head _),λe he=>?_,?_⟩
       ·rcases dz.1 he with he|he
        ·have:=(hDP e he).mono (gL (FB.map fE) _);repeat (first|exact this|apply aM.cons)
        ·exact aM.own (.tail _ (.tail _ (.tail _ (kI _ (jy (f:=fE) he)))))
       ·exact .s3 ((dB _ _).trans hKF)),bp,(sE (eu (eu (.refl _))))⟩
     ·rintro _ _ ⟨Ac,cc,K2,⟨hcb,hcP,S8⟩,hs,hp⟩;refine aT hs hp ?_;have S7:E FB=m:=by have:=dQ List.length tG;rw[dX,mg]at this;exact this
      have ajt:E (DB++FB)=k+m:=by rw[aX];omega
      have aef:(DB++FB).map (·.2.2)=nk k m (PB.map (·.2.2)) good++par m (nk k m (PB.map (·.2.2)) good):=by rw[jx,tG,hDm]
      have asc:∀e∈DB++FB,E e.2.2=nn:=λe he=>by
       rcases dz.1 he with he|he
       ·exact hDe e he
       ·have hm:e.2.2∈par m (DB.map (·.2.2)):=tG▸jy (f:=λx:lu=>x.2.2) he;exact vk bT (λx hx=>by
         obtain⟨y,hy,rfl⟩:=pC.1 hx;exact hDe y hy) _ hm
      obtain⟨AB,hAB⟩:=cK (DB++FB);rw[<-hAB]at hcb hcP ajt aef asc⊢;refine aF ?_;refine aD (λzf zL zm=>∃(i:Nat) (Ao:bk) (co:Nat) (OB:List lu),(i<=E AB∧E OB=i∧OB.map (·.2.2)=(AB.map (·.2.2)).take i)∧E AB-i=zm∧Sub zf [(21,.slice Ao (E OB) co),(105,.slice Ac (E AB) cc),(106,ah (E AB)),(107,ah (i:Int))]∧Wk zL (.own 27 1 Ao (E OB) co (OB.map dy)::(OB.map fE++K2))) _ ⟨0,am3,k+m,[],⟨bU _,rfl,rfl⟩,rfl,bp,.refl _⟩ ?_;rintro _ _ _ ⟨i,Ao,co,OB,⟨hi,hOl,hOm⟩,rfl,hs,hp⟩;refine aT hs hp (bB ?_);refine aj (λauk=>?_) λauk=>?_
      ·have Tn:=Ip (PB:=AB) (i:=i) aa;have qz:=bj (l:=AB) (show i<E AB by omega) jl;have uN:(AB.map (·.2.2)).take (i+1)=(AB.map (·.2.2)).take i++[(AB.getD i jl).2.2]:=by rw[aY bT [],Gc]
       obtain⟨P,hPe⟩:=cK (AB.getD i jl);rw[<-hPe]at Tn qz uN;have hlP:=asc P qz;have hbP:aM B w0 (OB.map fE++K2) 1 (dy P) (E P.2.2) (bv P.2.2):=(hcP P qz).mono (gL _ _);have auN:aM B w0 (OB.map fE++K2) 1 (.slice Ac (E AB) cc) (E AB) (AB.map dy):=hcb.mono (gL _ _);refine bI ?_;refine ab (au ag rfl auN.cons aa Tn) rfl (bB ?_);refine ay rfl (vd (l:=P.2.2) rfl rfl hbP.cons aa) λaci acY=>dL fQ rfl rfl rfl rfl rfl (λ_=>rfl) aW aa aa ?_;intro _ ap_ aq2;refine bK ?_;have xB:E (OB++[((aci,acY,P.2.2):lu)])=E OB+1:=by simp
       refine av ⟨_,aa,i+1,ap_,aq2,OB++[((aci,acY,P.2.2):lu)],⟨aa,bT,by rw[jx,hOm,uN];rfl⟩,rfl,bp,.trans (q7 (PB:=OB) (F:=K2) (e:=((aci,acY,P.2.2):lu)) [.own 27 1 ap_ (E OB+1) aq2 (OB.map dy++[dy ((aci,acY,P.2.2):lu)])]) (az ak ak (.refl _))⟩
      ·obtain rfl:i=E AB:=by omega
       rw[fC ak]at hOm;refine cY ?_;rw[em];refine aq (.cons (MJ S8 _)) (aF ?_);exact⟨Ao,co,OB,rfl,rfl,by rw[hOm,aef]⟩
 ·exfalso;omega
theorem Wc{sz p:Nat}(h:1<=sz):h_ sz (p*sz)=p:=by
 unfold h_;rw[zn,Nat.add_mul_div_right _ _ aa,CI aa,lV]
theorem acw{sz p:Nat}(h1:1<=sz)(h2:sz<=10000)(hp:p<=100000)(hnc:p*sz<=c):
  aZ B w0 187 [.slice none 0 0,.func (.func 188) #[] #[br gp,br gq]] (.bG gq 3 [ah sz]:: .bG gp 27 [.slice A (p*sz) c]::F)
   (λv L=>∃A' c',v= .slice A' p c'∧L= .own 27 1 A' p c' ((List.range p).map λi=>HJ A sz (p*sz) i):: .bG gq 3 [ah sz]:: .bG gp 27 [.slice A (p*sz) c]::F):=by
 have hN:h_ sz (p*sz)=p:=Wc h1;have hps:p*sz<=100000*10000:=gU hp h2;refine yU func187 13 rfl rfl rfl [(0,.slice none 0 0),(1,.func (.func 188) #[] #[br gp,br gq])] ⟨⟨rfl,rfl⟩,⟨rfl,rfl⟩,trivial⟩ ?_;refine rB ?_;refine aF ?_;refine bg λg2=>?_;refine bc ?_;refine l9 ?_;refine MG ?_;refine a_ 27 1 none (bE ?_);refine l9 ?_;refine G9 (N:=h_ sz (p*sz)) alY rfl rfl rfl (λi:Fin (h_ sz (p*sz))=>HJ A sz (p*sz) i.val) (λxs=>xs.map (·.val)=List.range (h_ sz (p*sz))) (λ_=>True) [.bG gp 27 [.slice A (p*sz) c],.bG gq 3 [ah sz]]
  (λw hw=>yD h1 h2 aa hnc (λe=>by have:=(ky.1 (ky.1 (ky.1 hw.apart).2).2).1 _ r_;subst e;rcases this with h|h<;>simp[Ch.fp]at h) w (hw.all _ (lU _ (lU _ (lU _ r_)))) (hw.all _ (lU _ (lU _ r_))))
  (λ(_:List (Fin (h_ sz (p*sz)))) (_:bk×Nat)=>True) (λpre s=>.bG g2 52 [.slice s.1 (E pre) s.2]:: .own 27 1 s.1 (E pre) s.2 (pre.map λx=>HJ A sz (p*sz) x.val):: .bG gq 3 [ah sz]:: .bG gp 27 [.slice A (p*sz) c]::F)
  (λpre s q hq=>by simp only[Md hq,Mc hq]) (λq hq=>by
   simp only[fj,mV,oU]at hq;rcases hq with rfl|rfl
   ·exact⟨rfl,λpre s=>lU _ (lU _ (lU _ r_))⟩
   ·exact⟨rfl,λpre s=>lU _ (lU _ r_)⟩)
  (none,0) trivial ((gE (eu (.refl _)))) ?_ ?_
 ·rintro l' pre x ⟨A7,c7⟩ w1 _ mP aeo F';have Ts:E pre<p:=Nat.lt_of_lt_of_eq mP hN;have hmp:(pre++[x]).map (λx=>HJ A sz (p*sz) x.val)=pre.map (λx=>HJ A sz (p*sz) x.val)++[HJ A sz (p*sz) x.val]:=by simp
  have Aj:E (pre++[x])=E pre+1:=by simp
  simp only[mX,hmp,Aj];refine Ha ?_;refine nN ag ?_;refine bc ?_;refine dL fQ rfl rfl rfl rfl rfl (λ_=>rfl) aW aa aa ?_;intro _ uu ya;refine bc ?_;refine nq ?_;exact⟨(uu,ya),trivial,.refl _⟩
 ·rintro D xs ⟨A7,c7⟩ hS _;have LC:E xs=p:=by have:=dQ List.length hS;rw[dX,uR]at this;exact this.trans hN
  have hxm:xs.map (λx=>HJ A sz (p*sz) x.val)=(List.range p).map λi=>HJ A sz (p*sz) i:=by
   have e:List.range (h_ sz (p*sz))=List.range p:=dQ List.range hN;rw[<-hS.trans e,sW];rfl
  simp only[LC,hxm];refine ahV ?_;refine bE ?_;refine nq ?_;refine ahU rfl (.refl _) ?_;refine aq (.skip (.refl _)) (aF ?_);exact⟨A7,c7,rfl,rfl⟩
theorem Zq{sz p:Nat}(h1:1<=sz)(h2:sz<=10000)(hp:p<=100000)(hnc:p*sz<=c):
  aZ B w0 120 [.func (.func 188) #[] #[br gp,br gq]] (.bG gq 3 [ah sz]:: .bG gp 27 [.slice A (p*sz) c]::F)
   (λv L=>∃A' c',v= .slice A' p c'∧L= .own 27 1 A' p c' ((List.range p).map λi=>HJ A sz (p*sz) i):: .bG gq 3 [ah sz]:: .bG gp 27 [.slice A (p*sz) c]::F):=by
 refine fw func120 5 [0] ?_;refine bK ?_;refine ay rfl (acw h1 h2 hp hnc) λA4 c4=>bF ?_;exact⟨A4,c4,rfl,rfl⟩
theorem yA(sz:Nat):∀(p i:Nat) (x:al),i<p->(fI sz p x).getD i []=(x.drop (i*sz)).take sz
 |0,_,_,h=>by omega
 |p+1,0,x,_=>by rw[fI,qC];rfl
 |p+1,i+1,x,h=>by
  have:=yA sz p i (x.drop sz) aa;rw[fI,CJ,this,oi,kX,zn sz]
theorem V'{l:al}(hb:fo B w0 F A c l){sz i:Nat}(hz:1<=sz)(hi:i*sz+sz<=E l):aM B w0 F 1 (.slice (A.map (·.add (i*sz))) sz sz) sz (bv ((l.drop (i*sz)).take sz)):=λw hs=>by
 obtain⟨A',c',e,h1,h2,h3⟩:=hb w hs;obtain⟨rfl,_,rfl⟩:A=A'∧True∧c=c':=by injection e with a b d;exact⟨a,trivial,d⟩
 obtain⟨ad,rfl,h4,h5⟩:=h3 aa;refine⟨_,sz,rfl,gC _,bT,λ_=>⟨_,rfl,aqK,λj u hu=>?_⟩⟩;have hu':(bv l)[i*sz+j]? =some u:=by
  rw[<-kD,<-jR,If]at hu;split at hu
  ·rw[k_7]at hu;exact hu
  ·cases hu
 have:=h5 _ _ hu';show w.cell? ((ad.add (i*sz)).add j)=some u;rw[l_];exact this
def chP(A:bk)(sz p:Nat)(x:al):List lu:=(List.range p).map λi=>(A.map (·.add (i*sz)),sz,(fI sz p x).getD i [])
theorem Sr(A:bk)(sz p:Nat)(x:al):E (chP A sz p x)=p:=by simp[chP]
theorem AN(A:bk)(sz p:Nat)(x:al):(chP A sz p x).map (·.2.2)=fI sz p x:=by
 unfold chP;rw[sW]
 conv=>rhs;rw[<-qf (fI sz p x),du]
 rfl
theorem ac1{A:bk}{sz p:Nat}{x:al}(hx:E x=p*sz):(chP A sz p x).map dy=(List.range p).map λi=>HJ A sz (p*sz) i:=by
 unfold chP;rw[sW];refine qB λi hi=>?_;have hi:=pj.1 hi;have h1:=fW (k:=sz) hi;show Value.slice _ (E ((fI sz p x).getD i [])) _=_;rw[yA sz p i x hi,eY,iG];unfold HJ yc;rw[show min sz (p*sz-i*sz)=sz by omega,show min sz (E x-i*sz)=sz by omega]
theorem Wd{sz p:Nat}{x:al}(hz:1<=sz)(hx:E x=p*sz)(hb:fo B w0 F A c x):∀e∈chP A sz p x,aM B w0 F 1 (dy e) (E e.2.2) (bv e.2.2):=λe he=>by
 obtain⟨i,hi,rfl⟩:=pC.1 he;have hi:=pj.1 hi;have h1:=fW (k:=sz) hi;have:=V' hb hz (i:=i) aa;show aM B w0 F 1 (.slice _ (E ((fI sz p x).getD i [])) sz) (E ((fI sz p x).getD i [])) (bv ((fI sz p x).getD i []));rw[yA sz p i x hi];have hl:E ((x.drop (i*sz)).take sz)=sz:=by rw[eY,iG];omega
 rw[hl];exact this
theorem aiN{sz p:Nat}{x:al}(hx:E x=p*sz):∀e∈chP A sz p x,E e.2.2=sz:=λe he=>by
 have hm:e.2.2∈fI sz p x:=by rw[<-AN A];exact jy (f:=λy:lu=>y.2.2) he
 exact po sz p x hx _ hm
section
variable{ch:Nat}
abbrev ShV(k m ch:Nat):Value:=.agg #[ah (k:Int),ah (m:Int),ah (ch:Int)]
structure Hk(k m ch:Nat):Prop where
 k1:1<=k
 km:k+m<=255
 c1:1<=ch
 c2:ch<=4096
theorem Hk.kc(h:Hk k m ch):1<=k*ch∧k*ch<=255*4096:=
 ⟨Ik h.k1 h.c1,gU (by have:=h.km;omega) h.c2⟩
theorem Hk.laid(h:Hk k m ch):1<=(k+m)*(ch+4)∧(k+m)*(ch+4)<=255*4100:=
 ⟨Ik (by have:=h.k1;omega) aa,gU h.km (by have:=h.c2;omega)⟩
theorem Yn(k ch n:Nat):lM k ch n<=n+k*ch:=jz (rY _ _) aa
theorem zK(h:Hk k m ch):aZ B w0 119 [ShV k m ch] F (λv L=>v=ah ((k*ch:Nat):Int)∧L=F):=by
 have h1:=h.km;have h2:=h.c2;refine b_ func119 8 rfl rfl rfl [(0,.agg #[ah (k:Int),ah (m:Int),ah (ch:Int)])] ⟨⟨rfl,rfl⟩,trivial⟩ ?_;refine bc ?_;refine bg λg1=>?_;refine bO ?_;refine ab (eH rfl rfl (r:=((k*ch:Nat):Int)) (FZ aa aa)) rfl (b7 ?_);refine aq (.skip (.refl _)) (aF ?_);exact⟨rfl,rfl⟩
theorem Ms(h:Hk k m ch):aZ B w0 186 [ShV k m ch] F (λv L=>v=ah (((k+m)*(ch+4):Nat):Int)∧L=F):=by
 have h1:=h.km;have h2:=h.c2;refine b_ func186 12 rfl rfl rfl [(0,.agg #[ah (k:Int),ah (m:Int),ah (ch:Int)])] ⟨⟨rfl,rfl⟩,trivial⟩ ?_;refine bc ?_;refine bg λg1=>?_;refine bO ?_;refine ab (bJ rfl rfl (r:=((k+m:Nat):Int)) ((bq aa aa).trans aa)) rfl (bc ?_);refine ab (bJ rfl rfl (r:=((ch+4:Nat):Int)) ((bq aa aa).trans aa)) rfl (ab (eH rfl rfl (r:=(((k+m)*(ch+4):Nat):Int)) (FZ aa aa)) rfl (b7 ?_));refine aq (.skip (.refl _)) (aF ?_);exact⟨rfl,rfl⟩
theorem agN(h:Hk k m ch)(hn:n<=1000000000):aZ B w0 118 [ShV k m ch,ah (n:Int)] F (λv L=>v=ah ((lM k ch n:Nat):Int)∧L=F):=by
 have Xe:=h.kc;refine b_ func118 13 rfl rfl rfl [(0,.agg #[ah (k:Int),ah (m:Int),ah (ch:Int)]),(1,ah (n:Int))] ⟨⟨rfl,rfl⟩,⟨rfl,rfl⟩,trivial⟩ ?_;refine bc ?_;refine bg λg2=>?_;refine bI ?_;refine gy alS rfl (zK h) q9 rfl ?_;refine bL (bJ rfl rfl (r:=((n+k*ch:Nat):Int)) ((bq aa aa).trans aa)) rfl (bL (dC rfl rfl (r:=((n+k*ch-1:Nat):Int)) ((bq aa aa).trans aa)) rfl (aF ?_));refine gy alS rfl (zK h) q9 rfl ?_;refine bL (mJ rfl rfl aa (r:=((lM k ch n:Nat):Int)) (as8 aa)) rfl (b7 ?_);refine aq (.skip (.refl _)) (aF ?_);exact⟨rfl,rfl⟩
theorem apA(h:Hk k m ch):aZ B w0 185 [ShV k m ch,ah (n:Int)] F (λv L=>v= .bool (decide (n<=8388608))∧L=F):=by
 obtain⟨h1,h2,h3,h4⟩:=h;refine b_ func185 44 rfl rfl rfl [(0,.agg #[ah (k:Int),ah (m:Int),ah (ch:Int)]),(1,ah (n:Int))] ⟨⟨rfl,rfl⟩,⟨rfl,rfl⟩,trivial⟩ ?_;refine bc ?_;refine bg λg2=>?_;refine bO ?_;refine cD (λh8=>?_) λh8=>?_
 ·refine bI ?_;refine cD (λnj=>?_) λnj=>?_
  ·refine bI ?_;refine cD (λiC=>?_) λiC=>?_
   ·refine cY ?_;refine cD (λqy=>?_) λqy=>?_
    ·refine bI ?_;refine cD (λC_=>?_) λC_=>?_
     ·refine bI ?_;refine cD (λz'=>?_) λz'=>?_
      ·refine bF ?_;refine cD (λOS=>?_) λOS=>?_
       ·refine bF ?_;refine ve [4] ?_;refine bc ?_;refine aq (.skip (.refl _)) (aF ?_);exact⟨dQ _ (zj.2 aa),rfl⟩
       ·exfalso;omega
      ·exfalso;omega
     ·exfalso;omega
    ·exfalso;omega
   ·exfalso;omega
  ·exfalso;omega
 ·exfalso;omega
theorem QL(h:Hk k m ch)(hn:n<=8388608):iW k m ch n<=10000000*2000000:=by
 have:=Yn k ch n;have hk:=h.kc;have hl:=h.laid;exact gU aa aa
theorem ato(h:Hk k m ch)(hn:n<=8388608):IntKind.i64.wrap (((lM k ch n:Nat):Int)*(((k+m)*(ch+4):Nat):Int))=((iW k m ch n:Nat):Int):=by
 have:=QL h hn;have e:((lM k ch n:Nat):Int)*(((k+m)*(ch+4):Nat):Int)=((iW k m ch n:Nat):Int):=(zi _ _).symm;rw[e];exact bq aa aa
theorem Yl(h:Hk k m ch)(hn:n<=9223372036854775807):aZ B w0 117 [ah (k:Int),ah (m:Int),ah (ch:Int),ah (n:Int)] F (λv L=>v= .tuple #[ah (((if yi k m ch n=0 then iW k m ch n else 0:Nat)):Int),ah (yi k m ch n)]∧L=F):=by
 have hl:=h.laid;refine fw func117 29 [0,1,2,3] ?_;refine de ?_;refine ab (eZ [(0,_),(1,_),(2,_)] [_,_,_] rfl rfl ag) rfl (bh λg10=>?_);refine bK ?_;refine ai rfl (apA h) (bE ?_);refine aj (λoI=>?_) λoI=>?_
 ·have e:yi k m ch n=13:=by unfold yi;rw[ao aa]
  refine bK ?_;refine aq (.skip (.refl _)) (aF ?_);exact⟨by rw[e,aw aa];rfl,rfl⟩
 ·have uK:n<=8388608:=bA oI;have jg:=QL h uK;have e:yi k m ch n=if 16777216<iW k m ch n then 6 else 0:=by unfold yi;rw[aw aa]
  refine bB ?_;refine gy aq4 rfl (agN h aa) q9 rfl ?_;refine aF ?_;refine gy arc rfl (Ms h) q9 rfl ?_;refine bL (eH rfl rfl (r:=((iW k m ch n:Nat):Int)) (ato h uK)) rfl (aF ?_);refine lO [(11,_)] ⟨rfl,trivial⟩ ?_;refine bK ?_;refine aj (λkG=>?_) λkG=>?_
  ·rw[ao aa]at e;refine bK ?_;refine aq (.skip (.refl _)) (aF ?_);exact⟨by rw[e,aw aa];rfl,rfl⟩
  ·rw[aw aa]at e;refine bz ?_;refine aq (.skip (.refl _)) (aF ?_);exact⟨by rw[e,ao rfl],rfl⟩
end
section
variable{ch:Nat}
theorem afV{PB:List lu}{nn:Nat}(e:n=E PB)(hk:E PB=k)(yf:1<=k)(vS:k+m<=255)(RS:nn<=1000000000)(Jy:∀e∈PB,E e.2.2=nn)(hb:aM B w0 F 1 (.slice A2 n c2) n (PB.map dy))(hP:∀e∈PB,aM B w0 F 1 (dy e) (E e.2.2) (bv e.2.2)):
  aZ B w0 122 [ah (m:Int),.slice A2 n c2] F (PtA (par m (PB.map (·.2.2))) (some 0) F):=by
 subst e;exact Qe hk yf vS RS Jy hb hP
theorem aaD{f:Nat}{x:al}:rs k m ch (f+1) x=wG k m ch (x.take (k*ch))++rs k m ch f (x.drop (k*ch)):=rfl
theorem adk{b:al}{N:Nat}(h:E b<=N):(bv b).take (min (E b) N)++(List.replicate N (Value.int .u8 0)).drop (min (E b) N)=bv (b++List.replicate (N-E b) 0):=by
 rw[xH h,List.drop_replicate,fC ak];simp[bv]
theorem Lj{l:ew}{q:Nat}(hq:q<E l):(l.take (q+1)).flatMap cv=(l.take q).flatMap cv++cv (l.getD q []):=by
 rw[aY hq [],uP];simp
theorem avx{u v a b x y:Ch}{M K:aR}:(u::v::(M++a::b::x::y::K)).Perm (x::y::u::v::(M++a::b::K)):=by
 have h1:(a::b::x::y::K).Perm ([x,y]++(a::b::K)):=oV [a,b] [x,y] K;have h2:(M++a::b::x::y::K).Perm ([x,y]++(M++a::b::K)):=(h1.append_left M).trans (oV M [x,y] _);exact((h2.cons v).cons u).trans (oV [u,v] [x,y] (M++a::b::K))
set_option maxHeartbeats 1000000 in
theorem agI(HT:bM B w0)(h:Hk k m ch){b:al}(hb:fo B w0 F A c b)(di:E b<=1000000000000000):
  aZ B w0 66 [ah (k:Int),ah (m:Int),ah (ch:Int),.slice A (E b) c] F (λv L=>∃A' c',v= .tuple #[.slice A' (E (lZ k m ch b).1) c',ah (lZ k m ch b).2]∧L= .own 5 1 A' (E (lZ k m ch b).1) c' (bv (lZ k m ch b).1)::F):=by
 obtain⟨k1,km,ch1,ch2⟩:=h;have h:Hk k m ch:=⟨k1,km,ch1,ch2⟩
 have Xe:=h.kc;have y8:=h.laid;have mP:=ql (k:=k) (ch:=ch) aa b;have xx:=DT (k:=k) (ch:=ch) (n:=E b) aa;refine fw func66 83 [0,1,2,3] ?_;refine cY ?_;refine ai rfl (Yl h aa) (ei ?_);refine aj (λz_=>?_) λz_=>?_
 ·have e:lZ k m ch b=([],yi k m ch (E b)):=by unfold lZ;rw[ao z_]
  refine bF ?_;refine ve [8,9] ?_;refine bE ?_;refine aC 5 1 none (aF ?_);rw[e];exact⟨none,0,rfl,rfl⟩
 ·have e0:yi k m ch (E b)=0:=bA z_;have e:lZ k m ch b=(rs k m ch (lM k ch (E b)) (qk k ch b),0):=by unfold lZ;rw[aw z_]
  have H8:E b<=8388608:=by
   refine bA λhh=>?_;unfold yi at e0;rw[ao aa]at e0;exact absurd e0 ax
  have aeQ:iW k m ch (E b)<=16777216:=by
   refine bA λhh=>?_;unfold yi at e0;rw[aw aa,ao aa]at e0;exact absurd e0 ax
  rw[ao e0];have Z':=Yn k ch (E b);obtain⟨S,hS⟩:=cK (lM k ch (E b));obtain⟨D,hD⟩:=cK (k*ch);obtain⟨Ld,W6⟩:=cK ((k+m)*(ch+4));have hSd:S*D<=10000000*1044480:=gU aa aa;have av4:S*Ld<=16777216:=by rw[hS,W6];exact aeQ
  rw[<-hS,<-hD]at mP xx;rw[<-hS]at e Z';rw[<-hD]at Xe Z';rw[<-W6]at y8;have hpe:qk k ch b=b++List.replicate (S*D-E b) 0:=by unfold qk;rw[hS,hD]
  refine bI ?_;refine ab (eZ [(0,_),(1,_),(2,_)] [_,_,_] rfl rfl ag) rfl (bh λHt=>?_);refine aF ?_;refine ve [1,2,3,10,12] ?_;refine bc ?_;refine cE (.bG Ht 195 [ah (k:Int),ah (m:Int),ah (ch:Int)]::F) ?_;refine ae 0 ?_;refine ae 1 ?_;refine ae 2 ?_;refine ae 4 ?_;refine aA 3 (js rfl rfl (agN (n:=E b) h aa) (aA 5 (js rfl rfl (zK h) (aU 6 rfl (eH rfl rfl (r:=((S*D:Nat):Int)) (by rw[<-hS,<-hD,<-zi];exact bq aa aa)) (aA 7 (cX rfl (ft (nn:=S*D) (cc:=S*D) cB rfl rfl rfl rfl rfl aa aa aa) λMS=>ae 8 ?_))))));refine bB ?_;refine mj (Jb cB .hd rfl rfl (hb.cons.cons) (ra _)) rfl ?_;rintro _ _ ⟨rfl,rfl⟩;refine bE ?_;rw[adk xx,<-hpe];refine gx ((mC (fV (.refl _)))) ?_;obtain⟨K,hK⟩:=cK (.own 5 1 MS (S*D) (S*D) (bv (qk k ch b))::F);have hbK:aM B w0 K 1 (.slice MS (E (qk k ch b)) (S*D)) (E (qk k ch b)) (bv (qk k ch b)):=by rw[mP,hK];exact aM.own (.head _)
  have hKF:Wk K F:=by rw[hK];exact .skip (.refl _)
  rw[<-hK,show(Value.slice MS (S*D) (S*D))= .slice MS (E (qk k ch b)) (S*D) by rw[mP]];refine bc ?_;refine cC (ft (nn:=0) (cc:=iW k m ch (E b)) cB rfl rfl rfl rfl rfl aa aa aa) λA48=>bF ?_;refine aD (λzf zL zm=>∃(j:Nat) (R:al) (Ar:bk) (cr:Nat) (Ao:bk) (co:Nat) (acc:al),(j<=S∧E R=(S-j)*D∧E R<=cr∧aM B w0 K 1 (.slice Ar (E R) cr) (E R) (bv R)∧E acc=j*Ld∧acc++rs k m ch (S-j) R=rs k m ch S (qk k ch b))∧S-j=zm∧Sub zf [(1,ah (m:Int)),(2,ah (ch:Int)),(12,br Ht),(13,.slice Ar (E R) cr),(14,.slice Ao (E acc) co)]∧Wk zL (.own 5 1 Ao (E acc) co (bv acc):: .bG Ht 195 [ah (k:Int),ah (m:Int),ah (ch:Int)]::K)) _ ⟨0,qk k ch b,MS,S*D,A48,iW k m ch (E b),[],⟨bU _,by rw[TL];exact mP,aa,hbK,ak,by rw[TL];rfl⟩,rfl,bp,az rfl rfl (.refl _)⟩ ?_;rintro _ _ _ ⟨j,R,Ar,cr,Ao,co,acc,⟨hj,W8,hRc,W7,Hu,mc⟩,rfl,hs,hp⟩;refine aT hs hp (bK ?_);refine aj (λh51=>?_) λh51=>?_
  ·have hjS:j<S:=by
    refine bA λhh=>?_;have:S-j=0:=by omega
    rw[this,qC]at W8;omega
   have hSj:S-j=(S-(j+1))+1:=by omega
   rw[hSj,kX]at W8;rw[hSj,aaD,<-hD]at mc;have hLj:(j+1)*Ld<=S*Ld:=ph _ hjS;rw[kX]at hLj;obtain⟨X,hX⟩:=cK (R.take D);have W_:E X=D:=by rw[hX,eY];omega
   have hXk:E X=k*ch:=by rw[W_,hD]
   have hXb:aM B w0 K 1 (.slice Ar D cr) D (bv X):=by
    have:=W7.jv (k:=D) aa;rw[cH,kD,<-hX]at this;exact this
   have asf:aM B w0 K 1 (.slice Ar (E X) cr) (E X) (bv X):=by rw[W_];exact hXb
   have aeO:=vv (m:=m) k1 hXk;rw[<-W6]at aeO;rw[<-hX]at mc;have hcP:=Sr Ar ch k X;refine bI ?_;refine ai rfl (zK h) (ab (bV (i:=k*ch) (size:=1) underlying27 ag rfl rfl rfl aa) rfl (aF ?_));refine ay rfl (NZ ch1) λgp gq=>ay rfl (Zq (p:=k) ch1 aa aa aa) λA58 c58=>b7 ?_;rw[<-ac1 (A:=Ar) hXk];refine bE ?_;refine be alT rfl (afV (PB:=chP Ar ch k X) (nn:=ch) hcP.symm hcP k1 km aa (aiN hXk) (aM.own (.head _)) (λe he=>by have:=Wd ch1 hXk asf e he;exact this.cons.cons.cons.cons.cons)) rfl ?_;rintro _ _ ⟨A62,c62,FB,rfl,cO,tG⟩;obtain rfl:=cO.symm;refine bF ?_;refine ve [1,2,12,13,14,15,16] ?_;refine bc ?_;refine dY (λzf zL=>∃(A67:bk) (c67:Nat) (AB:List lu) (K2:aR),(E AB=k+m∧AB.map (·.2.2)=tp k m ch X∧aM B w0 K2 1 (.slice A67 (E AB) c67) (E AB) (AB.map dy)∧(∀e∈AB,aM B w0 K2 1 (dy e) (E e.2.2) (bv e.2.2))∧Wk K2 K)∧Sub zf [(1,ah (m:Int)),(2,ah (ch:Int)),(12,br Ht),(13,.slice Ar (E R) cr),(14,.slice Ao (E acc) co),(67,.slice A67 (E AB) c67),(68,ah (E AB)),(69,ah 0)]∧Wk zL (.own 5 1 Ao (E acc) co (bv acc):: .bG Ht 195 [ah (k:Int),ah (m:Int),ah (ch:Int)]::K2)) ?_ ?_
   ·rw[AN]at tG;have S7:E FB=m:=by have:=dQ List.length tG;rw[dX,mg]at this;exact this
    refine gx ((List.perm_middle.cons _).trans (.swap ..)) ?_;refine bE ?_;refine fK (bW fQ rfl aW rfl (aM.own (.tail _ (.head _))) Gn aa aa) λA67 c67=>bE ?_;have hl:E (chP Ar ch k X++FB)=k+m:=by rw[aX];omega
    exact bC ⟨A67,c67,chP Ar ch k X++FB,_,(by
     refine⟨hl,by rw[jx,AN,tG];rfl,?_,?_,?_⟩
     ·rw[hl,jx,show k+m=k+E FB by omega];exact aM.own (.head _)
     ·intro e he;rcases dz.1 he with he|he
      ·exact(Wd ch1 hXk asf e he).mono (.cons _ (.cons _ (.trans (.cons _ (.cons _ (.refl _))) (gL _ _))))
      ·exact aM.own (.tail _ (.tail _ (kI _ (jy (f:=fE) he))))
     ·exact .s2 ((dB _ _).trans (.s2 (.refl _)))),bp,.dK avx⟩
   ·rintro _ _ ⟨A67,c67,AB,K2,⟨ajt,aef,auB,auA,S8⟩,hs,hp⟩;refine aT hs hp ?_;have hPe:∀e∈AB,E e.2.2=ch:=λe he=>B3 k1 hXk _ (aef▸jy (f:=λy:lu=>y.2.2) he);refine aF ?_;refine aD (λzf zL zm=>∃(q:Nat) (Aq:bk) (cq:Nat) (C5:al),(q<=E AB∧C5=acc++((AB.map (·.2.2)).take q).flatMap cv∧E C5=E acc+q*(ch+4))∧E AB-q=zm∧Sub zf [(1,ah (m:Int)),(2,ah (ch:Int)),(12,br Ht),(13,.slice Ar (E R) cr),(14,.slice Aq (E C5) cq),(67,.slice A67 (E AB) c67),(68,ah (E AB)),(69,ah (q:Int))]∧Wk zL (.own 5 1 Aq (E C5) cq (bv C5):: .bG Ht 195 [ah (k:Int),ah (m:Int),ah (ch:Int)]::K2)) _ ⟨0,Ao,co,acc,⟨bU _,ak,ak⟩,rfl,bp,.refl _⟩ ?_;rintro _ _ _ ⟨q,Aq,cq,C5,⟨hq,amh,av'⟩,rfl,hs,hp⟩;refine aT hs hp (bB ?_);refine aj (λh70=>?_) λh70=>?_
    ·have Tn:=Ip (PB:=AB) (i:=q) aa;have qz:=bj (l:=AB) (show q<E AB by omega) jl;have hft:=Lj (l:=AB.map (·.2.2)) (q:=q) bT;rw[Gc]at hft;obtain⟨P,hP⟩:=cK (AB.getD q jl);rw[<-hP]at Tn qz hft;have hlP:=hPe P qz;have hbP:=auA P qz;have hqL:(q+1)*(ch+4)<=(k+m)*(ch+4):=ph _ aa;rw[kX,<-W6]at hqL;have hpp:=dA P.2.2;refine bI ?_;refine ab (au ag rfl auB.cons.cons aa Tn) rfl (bB ?_);refine ay rfl (rf HT (l:=P.2.2) hbP.cons.cons aa) λA75 c75=>fK (bW cB rfl aW rfl aB cw aa aa) λA76 c76=>bK ?_;have rR:E (C5++cv P.2.2)=E C5+E (cv P.2.2):=aX;refine av ⟨_,aa,q+1,A76,c76,C5++cv P.2.2,⟨aa,by rw[hft,amh,bX],by rw[rR,kX];omega⟩,rfl,bp,.skip (az ak ak (.refl _))⟩
    ·obtain rfl:q=E AB:=by omega
     have asI:C5=acc++wG k m ch X:=by
      rw[amh,fC ak,aef];rfl
     have auF:E C5=(j+1)*Ld:=by rw[kX,asI,aX,aeO];omega
     refine bK ?_;refine ai rfl (zK h) (ab (bY (i:=k*ch) (size:=1) underlying27 ag rfl rfl rfl aa) rfl (bE ?_));have Ah:E (R.drop D)=(S-(j+1))*D:=by rw[iG];omega
     have hcut:=W7.cut (k:=D) aa;rw[cH,jR]at hcut;have aei:E R-D=E (R.drop D):=by rw[iG]
     rw[aei]at hcut;rw[<-hD,aei,cH D];refine av ⟨_,aa,j+1,R.drop D,_,_,Aq,cq,C5,(by exact⟨hjS,Ah,aa,hcut,auF,by rw[asI,bX];exact mc⟩),rfl,bp,.cons (.cons S8)⟩
  ·have hjS:j=S:=by
    refine bA λhh=>?_;have:1*D<=(S-j)*D:=ph _ aa;omega
   subst hjS;rw[oj]at mc;have uJ:acc=rs k m ch j (qk k ch b):=by rw[<-mc];simp[rs]
   refine cY ?_;refine aq (.cons (.skip hKF)) (aF ?_);rw[e,<-uJ];exact⟨Ao,co,rfl,rfl⟩
end
section
variable{ch:Nat}
theorem acG{P:Prop}(h:P:=by(rw[M3];simp[bD])):P:=h
theorem AR{P:eF}{l:al}(hb:aM B w0 F 1 (.slice A n c) n P.Dn)(hP:∀x∈P,aM B w0 F 1 x.1 (E x.2) (bv x.2))(hn:n=E P)(kU:P.all=l)(hlen:E l<=1099511627776)(Cz:E P<=1099511627776):
  aZ B w0 93 [.slice A n c] F (λr L=>∃A' c',r= .slice A' (E l) c'∧L= .own 5 1 A' (E l) c' (bv l)::F):=by
 subst kU;exact dU.BK λw hw=>N4 (B:=w.heap.size) w hn (hb w hw) (λx hx=>hP x hx w hw) (gC _) hlen Cz
abbrev HC(g:Nat)(k m ch:Nat)(vo vb:Value)(at_:Nat):Ch:=.bG g 280 [ah (k:Int),ah (m:Int),ah (ch:Int),vo,vb,ah (at_:Int)]
def C7(x:al)(at_:Nat)(bad:bf):bf:=if (aH x).2≠0 then bad++[at_] else bad
theorem apf(HT:bM B w0){x:al}{vo:Value}{bad:bf}{at_:Nat}(hx:fo B w0 F A c x)(LC:E x<=1000000000)(ug:at_<=1000000000)(di:E bad<=1000000000):
  aZ B w0 242 [br g,.slice A (E x) c] (HC g k m ch vo (.slice A1 (E bad) c1) at_:: .own 3 1 A1 (E bad) c1 (bD bad)::F)
   (λv L=>∃A' c' Ab cb,v= .tuple #[.slice A' (E (aH x).1) c',.bool (decide ((aH x).2=0))]∧L= .own 5 1 A' (E (aH x).1) c' (bv (aH x).1)::HC g k m ch vo (.slice Ab (E (C7 x at_ bad)) cb) (at_+1):: .own 3 1 Ab (E (C7 x at_ bad)) cb (bD (C7 x at_ bad))::F):=by
 refine fw func242 38 [0,1] ?_;refine bO ?_;refine ay rfl (xl HT (l:=x) hx.cons.cons aa) λwJ Ej=>bI ?_;refine dY (λzf zL=>∃(Ab:bk) (cb:Nat),Sub zf [(0,br g),(6,.slice wJ (E (aH x).1) Ej),(7,ah (aH x).2)]∧Wk zL (.own 5 1 wJ (E (aH x).1) Ej (bv (aH x).1)::HC g k m ch vo (.slice Ab (E (C7 x at_ bad)) cb) at_:: .own 3 1 Ab (E (C7 x at_ bad)) cb (bD (C7 x at_ bad))::F)) ?_ ?_
 ·refine bB ?_;refine aj (λku=>?_) λku=>?_
  ·have M3:C7 x at_ bad=bad++[at_]:=by unfold C7;rw[ao ku]
   refine cE F ?_;refine ae 0 ?_;refine ae 1 ?_;refine ae 2 ?_;refine ae 3 ?_;refine ae 5 ?_;refine ae 6 ?_;refine ae 7 ?_;refine ib 4 8 ?_ ?_
   ·refine aF ?_;refine aA 8 (aF ?_);refine aA 9 (cX rfl (aG fT [_] rfl rfl cw aa aa) λAD=>aA 10 (fi rfl (bW fT rfl aW rfl aB cw aa aa) λIx MW=>?_));refine ae 11 ?_;refine ae 12 ?_;refine aA 13 (aF ?_);refine cP [0,6,7] ?_;exact bC ⟨Ix,MW,bp,.skip (.cons (bw (by rw[M3,aX];rfl) (az (by rw[M3];simp) acG (.refl _))))⟩
   ·refine aF ?_;refine ib 4 9 ?_ ?_
    ·refine aF ?_;refine aA 9 (cX rfl (aG fT [_] rfl rfl cw aa aa) λAD=>aA 10 (fi rfl (bW fT rfl aW rfl aB cw aa aa) λIx MW=>?_));refine ae 11 ?_;refine ae 12 ?_;refine aA 13 (aF ?_);refine cP [0,6,7] ?_;exact bC ⟨Ix,MW,bp,.skip (.cons (bw (by rw[M3,aX];rfl) (az (by rw[M3];simp) acG (.refl _))))⟩
    ·refine cX rfl (aG fT [_] rfl rfl cw aa aa) λAD=>aA 4 (aF ?_);refine aA 10 (fi rfl (bW fT rfl aW rfl aB cw aa aa) λIx MW=>?_);refine ae 11 ?_;refine ae 12 ?_;refine aA 13 (aF ?_);refine cP [0,6,7] ?_;exact bC ⟨Ix,MW,bp,.skip (.cons (bw (by rw[M3,aX];rfl) (az (by rw[M3];simp) acG (.refl _))))⟩
  ·have M3:C7 x at_ bad=bad:=by unfold C7;rw[aw ku]
   refine aF ?_;exact bC ⟨A1,c1,bp,.cons (bw (by rw[M3]) (az (by rw[M3]) (by rw[M3]) (.refl _)))⟩
 ·rintro _ _ ⟨Ab,cb,hs,hp⟩;refine aT hs hp (bB ?_);refine ab (bJ rfl rfl (r:=((at_+1:Nat):Int)) ((bq aa aa).trans aa)) rfl (jG ?_);exact⟨wJ,Ej,Ab,cb,rfl,rfl⟩
end
section
theorem nv{P:Program}{ops:Array Oper}{Q:Exit->Act->World->Prop}{md:Region.Mode}(ds:List Deferred):∀(fuel:Nat) (li:Array Bool) (a:Act) (w:World),wpAny P md ops Q fuel li a w->
  wpAny P md ops (λe a' w'=>∃a0:Act,a'={a0 with defers:=a0.defers++ds}∧Q e a0 w') fuel li {a with defers:=a.defers++ds} w
 |0,li,a,w,h=>⟨h.1,a,rfl,h.2⟩
 |fuel+1,li,a,w,h=>by
  refine⟨λhr=>⟨a,rfl,h.1 hr⟩,λi hi=>?_⟩;have h:=h.2 i hi;unfold wpOp at h⊢;cases ho:ops[i]? with
  |none=>
   simp only[ho]at h⊢;exact nv ds fuel _ a w h
  |some o=>
   simp only[ho]at h⊢;by_cases hw:Region.wanted o (yielded ops a.tmps)=true
   ·rw[ao hw]at h;rw[ao (show Region.wanted o (yielded ops ({a with defers:=a.defers++ds}:Act).tmps)=true from hw)];rcases h with h|⟨h1,a1,w1,h2⟩
    ·refine .inl ?_;have he:({a with defers:=a.defers++ds}:Act).eval=a.eval:=rfl;unfold Oper.wp at h⊢;rw[he];generalize (execOp a.eval o).run P w=res at*;cases res with
     |ok x w'=>
      cases x<;>simp only[Oper.upon]at h⊢<;>first
       |(rw[put_defers];exact nv ds fuel _ _ _ h)
       |(
        refine LM h λe w'' he=>?_;cases e<;>dsimp only at he⊢<;>first
         |(rw[put_defers];exact nv ds fuel _ _ _ he)
         |exact⟨_,rfl,he⟩
         |(obtain⟨a1,w1,h2⟩:=he;exact⟨_,w1,a1,rfl,h2⟩))
       |exact Rows.mono h λv w'' he=>by rw[put_defers];exact nv ds fuel _ _ _ he
       |(have h2:=nv ds fuel _ _ _ h;rw[<-put_defers]at h2;exact h2)
     |halt x w'=>cases x<;>simp only[Oper.upon]at h⊢<;>first|exact⟨_,rfl,h⟩|exact h
    ·exact .inr ⟨h1,_,w1,a1,rfl,h2⟩
   ·rw[aw hw]at h;rw[aw (show¬Region.wanted o (yielded ops ({a with defers:=a.defers++ds}:Act).tmps)=true from hw),put_defers];exact nv ds fuel _ _ _ h
def MQ(D:Nat)(C:Cx)(Q:Exit->Fr->aR->Prop):Exit->Act->World->Prop:=λe a w=>∃fr L,a.defers=[mark D]∧qv C.N fr {a with defers:=[]}∧SL C.B C.w0 L w∧Q e fr L
def x'(C:Cx)(D:Nat)(c:Code)(Q:Exit->Fr->aR->Prop)(fr:Fr)(L:aR):Prop:=∀a w,a.defers=[mark D]->qv C.N fr {a with defers:=[]}->SL C.B C.w0 L w->c.wp C.P (MQ D C Q) a w
def VF(D:Nat)(C:Cx)(y:Code)(Q:Exit->Fr->aR->Prop):Exit->Fr->aR->Prop
 | .normal,fr,L=>x' C D y Q fr L
 |e,fr,L=>Q e fr L
section
variable{C:Cx}{D:Nat}{Q:Exit->Fr->aR->Prop}{fr j8:Fr}{L L' S:aR}{x y cd Hq:Code}
theorem amu{e:Exit}{a':Act}{w':World}(h:∃a0:Act,a'={a0 with defers:=a0.defers++[mark D]}∧lift C Q e a0 w'):MQ D C Q e a' w':=by
 obtain⟨a0,rfl,fr,L,ha,hs,hq⟩:=h;refine⟨fr,L,by simp[ha.defers],?_,hs,hq⟩;have e0:({({a0 with defers:=a0.defers++[mark D]}:Act)with defers:=[]}:Act)=a0:=by rw[<-ha.defers]
 rw[e0];exact ha
theorem gQ{id:Nat}{tM:tx}(h:VL C tM.toArray Q tM fr L):x' C D (.region id tM.toArray false) Q fr L:=λa w hd ha hs=>by
 have h1:=mf [mark D] tM _ w (h {a with defers:=[]} w ha hs);rw[show({({a with defers:=[]}:Act)with defers:=({a with defers:=[]}:Act).defers++[mark D]}:Act)=a by rw[<-hd];rfl]at h1;exact zg (wp_region_lit h1) λe a w h=>amu h
theorem Rq{id:Nat}{l:tx}(hm:C.P.follows .mixedOrders=true)(hS:S.Sublist L)(h:VH C l.toArray S Q l.toArray.size (Array.replicate l.toArray.size false) fr L):x' C D (.region id l.toArray true) Q fr L:=λa w hd ha hs=>by
 have h1:=nv [mark D] _ _ _ _ (wpAny_of_held _ _ _ _ (h {a with defers:=[]} _ ha (hs.drewN 1) ((hs.drewN 1).sub hS)));rw[show({({a with defers:=[]}:Act)with defers:=({a with defers:=[]}:Act).defers++[mark D]}:Act)=a by rw[<-hd];rfl]at h1;refine zg (wp_region_any hm h1) λe a w ⟨a0,h2,h3⟩=>amu ⟨a0,h2,NoPanic.imp _ _ _ h3⟩
theorem jn(h:x' C D x (VF D C y Q) fr L):x' C D (.seq x y) Q fr L:=λa w hd ha hs=>by
 refine wp_seq (zg (h a w hd ha hs) λe a w ⟨fr,L,hd,ha,hs,hq⟩=>?_);cases e<;>first|exact hq a w hd ha hs|exact⟨fr,L,hd,ha,hs,hq⟩
theorem Kp{id:Nat}(h:x' C D x (InB id Q) fr L):x' C D (.block id x) Q fr L:=λa w hd ha hs=>by
 refine wp_block (zg (h a w hd ha hs) λe a w ⟨fr,L,hd,ha,hs,hq⟩=>?_);cases e with
 |exit i=>
  unfold Exit.inBlock InB at*;simp only at hq⊢;split
  ·rename_i hi;rw[ao hi]at hq;exact⟨fr,L,hd,ha,hs,hq⟩
  ·rename_i hi;rw[aw hi]at hq;exact⟨fr,L,hd,ha,hs,hq⟩
 |_=>exact⟨fr,L,hd,ha,hs,hq⟩
theorem zX(h:Q .normal fr L):x' C D .skip Q fr L:=λa w hd ha hs=>wp_skip ⟨fr,L,hd,ha,hs,h⟩
theorem ahW{id:Nat}(h:Q (.exit id) fr L):x' C D (.exit id) Q fr L:=λa w hd ha hs=>wp_exit ⟨fr,L,hd,ha,hs,h⟩
theorem zW(h:Q .ret fr L):x' C D .ret Q fr L:=λa w hd ha hs=>wp_ret ⟨fr,L,hd,ha,hs,h⟩
theorem qv.atv{N:Nat}{a:Act}(h:qv N fr {a with defers:=[]}){o:Operand}{v:Value}(he:ev fr o=some v):a.eval o=v:=by
 have:=h.tmp he;exact this
theorem Vn{c:Operand}(hc:ev fr c=some (.bool false))(h:x' C D y Q fr L):x' C D (.cond c x y) Q fr L:=λa w hd ha hs=>wp_cond_false (ha.atv hc) (h a w hd ha hs)
theorem ab8{tt:Nat}{b:Bool}(hc:look tt fr=some (.bool b))(ht:b=true->x' C D cd Q ((tt,.bool true)::fr) L)(hf:b=false->x' C D Hq Q ((tt,.bool false)::fr) L):x' C D (.cond (.tmp tt) cd Hq) Q fr L:=λa w hd ha hw=>
 wp_cond_split (ha.atv (o:=.tmp tt) hc) (λh=>ht h a w hd (ha.bool hc h) hw) (λh=>hf h a w hd (ha.bool hc h) hw)
theorem vA{tt:Nat}{p:Prop}[Decidable p](hc:look tt fr=some (.bool (decide p)))(ht:p->x' C D cd Q ((tt,.bool true)::fr) L)(hf:¬p->x' C D Hq Q ((tt,.bool false)::fr) L):x' C D (.cond (.tmp tt) cd Hq) Q fr L:=
 ab8 hc (λh=>ht (oJ h)) (λh=>hf (TK h))
theorem ab9(J:Fr->aR->Nat->Prop)(n0:Nat)(h0:J fr L n0)(round:∀n fr L,J fr L n->x' C D cd (InJ J n Q) fr L):x' C D (.loop cd) Q fr L:=λa w hd ha hw=>by
 refine wp_loop_ghost (λn a w=>∃fr L,J fr L n∧a.defers=[mark D]∧qv C.N fr {a with defers:=[]}∧SL C.B C.w0 L w) n0 ⟨fr,L,h0,hd,ha,hw⟩ ?_;rintro n a w ⟨fr,L,hJ,hd,ha,hw⟩;refine zg (round n fr L hJ a w hd ha hw) λe a w ⟨fr,L,hd,ha,hs,hq⟩=>?_;cases e with
 |normal=>
  obtain⟨n',k1,k2⟩:=hq;exact⟨n',k1,fr,L,k2,hd,ha,hs⟩
 |_=>exact⟨fr,L,hd,ha,hs,hq⟩
theorem dM(h:x' C D y Q fr L):VF D C y Q .normal fr L:=h
theorem UW{i:Nat}(h:Q (.exit i) fr L):VF D C y Q (.exit i) fr L:=h
theorem B5(h:Q .ret fr L):VF D C y Q .ret fr L:=h
theorem Vo(j8:Fr)(hs:Sub fr j8)(h:x' C D x Q j8 L):x' C D x Q fr L:=λa w hd ha hw=>h a w hd (ha.sub hs) hw
theorem ahX(hs:L.Perm L')(h:x' C D x Q fr L'):x' C D x Q fr L:=λa w hd ha hw=>h a w hd ha (hw.perm hs)
theorem apX(h:Wk L L')(k:x' C D x Q fr L'):x' C D x Q fr L:=λa w hd ha hw=>k a w hd ha (h.sl hw)
theorem alC{size nn c:Nat}{A:bk}{xs:cZ}(hb:aM C.B C.w0 L size (.slice A nn c) nn xs)(h:nn<=c->E xs=nn*size->x' C D x Q fr L):x' C D x Q fr L:=λa w hd ha hw=>by
 obtain⟨A',c',e,h1,h2,_⟩:=hb w hw;injection e with e1 e2 e3;subst e3;exact h h1 h2 a w hd ha hw
def RM(D:Nat)(P:Program)(fn:Func)(R:rF):Exit->Fr->aR->Prop
 | .ret,fr,L=>∃L',L.Perm (.obj D (.deferred (some []))::L')∧Dp P fn R .ret fr L'
 |_,_,_=>False
theorem ab7{fn:Func}{R:rF}{P:Program}{B N:Nat}{w0:World}{c:Code}(hN:fn.ntmps=N)(h:x' ⟨P,N,B,w0⟩ D c (RM D P fn R) fr L):VM ⟨P,N,B,w0⟩ D c (FG ⟨P,N,B,w0⟩ fn R) fr L:=λa w hd ha hs=>by
 subst hN;refine zg (h a w hd ha hs) λe a w ⟨fr,L,hd,ha,hs,hq⟩=>?_;cases e<;>first
  |exact hq.elim
  |obtain⟨L',hp,h⟩:=hq
   have Au:=hs.perm hp;obtain⟨v,L'',h1,h2,h3⟩:=h B w0 _ _ ha Au.ahJ;show LeavesInM _ _ _ _ _ _ a.defers _ _;rw[hd];exact⟨ak,.inl ⟨D,_,rfl,run_takeDeferred Au.head.2,v,h1,v,L'',rfl,h2,h3⟩⟩
end
end
end Go.Proofs.YtaodmbolhoafcaaGreatDoor
