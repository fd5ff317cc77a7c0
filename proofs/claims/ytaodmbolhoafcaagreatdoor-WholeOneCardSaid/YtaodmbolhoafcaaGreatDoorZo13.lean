/-
  Texts of one proof, joined: part 13. No condition.
-/
import Derived.Test.YtaodmbolhoafcaaGreatDoorZo12
open Go.RowKit Go.Proofs.Tryz
namespace Go.Proofs.YtaodmbolhoafcaaGreatDoor
set_option linter.unusedVariables false
set_option linter.unusedSimpArgs false
set_option maxRecDepth 20000
variable{B:Nat}{w0:World}{F L0:aQ}{A A1 A2 A3 A4 A5 A6 Af Ao:bj}{n c c1 c2 c3 c4 c5 c6 cf co g gc:Nat}{v0 v1 v2 v3 v4 v5 v6 v7 v8 v9 va:Value}{s:Cs}{r k m N gp gq:Nat}
section
theorem On{n:Nat}(hn:n≤1000000000):∀(f:Nat) (s:Cs) (o:al),n≤f+o.length→o.length≤n→(G0 f n s o).2.e=0→(G0 f n s o).1.length=n
 |0,s,o,h1,h2,_=>by show o.length=n;omega
 |f+1,s,o,h1,h2,h3=>by
  by_cases hc:o.length<n∧s.e=0
  ·rw[R9 hc]at h3⊢;have hT:(LJ n s o).e=0:=bH fun k=>by
    rw[yx (fun q=>k q.2)]at h3;exact k h3
   obtain⟨k1,k2,_⟩:=R_ hT;have CC:Qd n s o≠0:=fun k=>k1 ⟨k2,.inl k⟩;have B_:=adG (s:=s) h2 hn;exact On hn f _ _ bR bR h3
  ·rw[yx hc]at h3⊢;have hh:¬o.length<n:=fun k=>hc ⟨k,h3⟩;show o.length=n;omega
theorem Pn:∀(k was:Nat) (s:Cs),(BV k was s).2.e=0→(BV k was s).1.length=k
 |0,_,_,_=>rfl
 |k+1,was,s,h=>by
  rw[BV]at h⊢;by_cases h0:s.e=0
  ·rw[ao h0]at h⊢;rw[ef,Pn k _ _ h]
  ·rw[aw h0]at h;exact absurd h h0
theorem afC:∀(k was:Nat) (s:Cs),∀t∈(BV k was s).1,t<18446744073709551616
 |0,_,_,t,h=>by cases h
 |k+1,was,s,t,h=>by
  rw[BV]at h;split at h
  ·rcases fk.1 h with rfl|h
   ·exact agp _ _
   ·exact afC k _ _ t h
  ·cases h
theorem aep{n:Nat}{l:al}(h:(n_ n l).2.2.2=0):(n_ n l).1.length=n∧(n_ n l).2.1.length=n∧n≤20000∧∀t∈(n_ n l).1,t<18446744073709551616:=by
 by_cases h1:(n:Int)<0∨(20000:Int)<n
 ·rw[Wd h1]at h;simp at h
 ·by_cases h2:(G3 n l).2.e=0
  ·rw[SF h1 h2];have hv:=On (n:=n) aa (n+1) (LK n l).2 [] ak ak h2;refine⟨?_,hv,aa,afC _ _ _⟩;by_cases h0:n=0
   ·subst h0;rfl
   ·have ht:(LK n l).2.e=0:=bH fun k=>by
     unfold G3 at h2;rw[yx (fun q=>k q.2)]at h2;exact k h2
    exact Pn _ _ _ ht
  ·rw[We h1 h2]at h;exact absurd h h2
theorem alp{o:aR}{b:al}(de:b.length≤1000000)(h:¬cB 2 (o2 o)≠0)(h3:¬Gz (dT b) (qy b).length≠0)(h4:¬xJ (fa (dT b)).1.sum (wE b)≠0):sG (alo o b):=by
 have hdl:=JZ (dT b);have Yt:=DI (dT b);have hz:=DH (bH h3);have x7:(n_ ((fa (dT b)).1.sum:Nat) (aJ (wE b)).1).2.2.2=0:=by
  have h4:=bH h4;unfold xJ at h4;split at h4
  ·rename_i k;exact absurd h4 k
  ·split at h4
   ·rename_i k;exact absurd h4 k
   ·rename_i k;exact bH k
 obtain⟨r1,r2,r3,r4⟩:=aep x7;have hom:=AE (.inr (.inl rfl)) (bH h);obtain⟨_,_,m4,_⟩:=hom;obtain⟨m5,m6⟩:=m4 (.inr rfl);have m6:o.2.2.1≤64:=m6;obtain⟨z1,z2,z3⟩:=adi (size:=o.2.2.1) (bound:=((fa (dT b)).1.sum:Nat)) (b:=(aJ (vB b)).1) aa;refine⟨?_,r1,r2,by show(fa (dT b)).1.sum≤20000;omega,by show(fa (dT b)).1.length≤20000;omega,fun f hf=>?_,z1,z2,z3,r4⟩
 ·show(rD (fa (dT b)).2.1 (qy b)).length=(fa (dT b)).1.length;rw[uJ];omega
 ·have hlr:=uZ b;have hle:∀(ss:bf) (r:al),∀f∈rD ss r,f.length≤r.length:=by
   intro ss;induction ss with
   |nil=>intro r f hf;simp[rD]at hf
   |cons n ss ih=>
    intro r f hf;rw[rD]at hf;rcases fk.1 hf with rfl|hf
    ·rw[eS];omega
    ·have:=ih _ f hf;rw[iG]at this;omega
  have:=hle _ _ f hf;have e:(fZ b).1=qy b:=rfl;rw[e]at hlr;omega
theorem ab5{x:ir}{k:Nat}(h:(lZ x k).2=0):(lZ x k).1.length=x.ns.getD k 0:=by
 by_cases h1:(dK (x.bC.getD k [])).2.2≠0
 ·rw[Q3 h1]at h;exact absurd h h1
 ·by_cases h2:(dK (x.bC.getD k [])).2.1<(x.bC.getD k []).length
  ·rw[Q4 h1 h2]at h;simp at h
  ·by_cases h3:(qO false (dK (x.bC.getD k [])).1).2≠0
   ·rw[Q5 h1 h2 h3]at h;exact absurd h h3
   ·by_cases h4:(qO false (dK (x.bC.getD k [])).1).1.length≠x.ns.getD k 0
    ·rw[Q6 h1 h2 h3 h4]at h;simp at h
    ·rw[Q7 h1 h2 h3 h4];simp only;rw[kQ];exact bH h4
theorem ahk{x:ir}{k:Nat}(ho:sG x):∀r∈(lZ x k).1,r.1<18446744073709551616:=fun r hr=>by
 by_cases h1:(dK (x.bC.getD k [])).2.2≠0
 ·rw[Q3 h1]at hr;cases hr
 ·by_cases h2:(dK (x.bC.getD k [])).2.1<(x.bC.getD k []).length
  ·rw[Q4 h1 h2]at hr;cases hr
  ·by_cases h3:(qO false (dK (x.bC.getD k [])).1).2≠0
   ·rw[Q5 h1 h2 h3]at hr;cases hr
   ·by_cases h4:(qO false (dK (x.bC.getD k [])).1).1.length≠x.ns.getD k 0
    ·rw[Q6 h1 h2 h3 h4]at hr;cases hr
    ·rw[Q7 h1 h2 h3 h4]at hr;obtain⟨i,_,rfl⟩:=pQ.1 hr;show x.times.getD _ 0<_;rw[bk];cases hq:x.times[(x.ns.take k).sum+i]? with
     |none=>simp
     |some t=>exact ho.tm t (List.mem_of_getElem? hq)
theorem Oi{x:ir}{f k:Nat}{out:List aI}(h:(lZ x k).2≠0):nY x (f+1) k out=([],(lZ x k).2):=by rw[nY,ao h]
theorem VN{x:ir}{f k:Nat}{out:List aI}(h:¬(lZ x k).2≠0):nY x (f+1) k out=nY x f (k+1) (out++(lZ x k).1):=by rw[nY,aw h]
theorem KD{x:ir}(ho:sG x):∀(f k:Nat) (out:List aI),(∀r∈out,r.1<18446744073709551616)→∀r∈(nY x f k out).1,r.1<18446744073709551616
 |0,_,_,h,r,hr=>h r hr
 |f+1,k,out,h,r,hr=>by
  by_cases h1:(lZ x k).2≠0
  ·rw[Oi h1]at hr;cases hr
  ·rw[VN h1]at hr;refine KD ho f (k+1) _ (fun q hq=>?_) r hr;rcases dz.1 hq with hq|hq
   ·exact h q hq
   ·exact ahk ho q hq
theorem VO{x:ir}(ho:sG x):∀r∈(jl x).1,r.1<18446744073709551616:=fun r hr=>by
 unfold jl at hr;split at hr
 ·cases hr
 ·split at hr
  ·cases hr
  ·split at hr
   ·cases hr
   ·exact KD ho _ _ _ (fun _ h=>kl) r hr
section
variable{x:ir}
theorem amH{e:Int}(h:nY x x.bC.length 0 []=([],e))(he:e≠0):jl x=([],e):=by unfold jl;rw[h,ao he]
theorem amI{out:List aI}(h:nY x x.bC.length 0 []=(out,0))(hc:cP out≠0):jl x=([],cP out):=by unfold jl;rw[h,aw ak,ao hc]
theorem amJ{out:List aI}(h:nY x x.bC.length 0 []=(out,0))(hc:¬cP out≠0)(hi:¬(x.T=mW out∧x.I=mV out)):jl x=([],15):=by unfold jl;rw[h,aw ak,aw hc,ao hi]
theorem amK{out:List aI}(h:nY x x.bC.length 0 []=(out,0))(hc:¬cP out≠0)(hi:x.T=mW out∧x.I=mV out):jl x=(out,0):=by unfold jl;rw[h,aw ak,aw hc,aw (fun k=>k hi)]
end
theorem afF{LL:List rK}{L:aQ}(h:∀e∈LL,aK B w0 L 1 (jL e) e.2.2.length (bx e.2.2)):ma B w0 L (toI LL):=fun e he=>by
 obtain⟨x,hx,rfl⟩:=pQ.1 he;have:=h x hx;have e1:ints .i64 (x.2.2.map fun(n:Nat)=>(n:Int))=bx x.2.2:=by simp[ints,bx]
 simp only[eK];rw[e1];exact this
theorem aaf{LL:List rK}{m:Nat}(h:∀e∈LL,e.2.2.length≤m)(hm:m≤9223372036854775807):∀e∈toI LL,e.2.2.length≤9223372036854775807:=fun e he=>by
 obtain⟨x,hx,rfl⟩:=pQ.1 he;have:=h x hx;simp only[eK];omega
theorem aiE{T1 T2:List cj}{L1 L2:List Ls}{m1 m2 n2:Nat}(e1:m1=L1.length)(e2:m2=L2.length)(e3:n2=T2.length)(h1:aK B w0 F 1 (.slice A1 T1.length c1) T1.length (strs T1))(hL1:aK B w0 F 1 (.slice A2 m1 c2) m1 (L1.map zP))(hI1:ma B w0 F L1)(h2:aK B w0 F 1 (.slice A3 n2 c3) n2 (strs T2))(hL2:aK B w0 F 1 (.slice A4 m2 c4) m2 (L2.map zP))(hI2:ma B w0 F L2)(hs:T1.length≤1000000000)(jF:L1.length≤1000000000)(wS:∀e∈L1,e.2.2.length≤9223372036854775807):
  a_ B w0 195 [.agg [.slice A1 T1.length c1,.slice A2 m1 c2].toArray,.agg [.slice A3 n2 c3,.slice A4 m2 c4].toArray] F (fun r L=>r= .bool (decide (T1=T2∧fT L1=fT L2))∧L=F):=by
 subst e1;subst e2;subst e3;exact aiD h1 hL1 hI1 h2 hL2 hI2 hs jF wS
theorem aln(HT:bL B w0){x:ir}{FB:List kS}{LL:List rK}(ho:sG x)(sP:FB.map (·.2.2)=x.bC)(hLx:LL.map (·.2.2)=x.I)(hcn:x.ns.length≤c1)(hn:aK B w0 (Bo g (.slice A1 x.ns.length c1) v1 v2 v3 (.slice A3 x.times.length c3) (.slice A4 x.levels.length c4) (.slice A5 x.T.length c5) (.slice A6 LL.length c6) (.slice Af FB.length cf) v9::F) 1 (.slice A1 x.ns.length c1) x.ns.length (bx x.ns))(ht:aK B w0 (Bo g (.slice A1 x.ns.length c1) v1 v2 v3 (.slice A3 x.times.length c3) (.slice A4 x.levels.length c4) (.slice A5 x.T.length c5) (.slice A6 LL.length c6) (.slice Af FB.length cf) v9::F) 1 (.slice A3 x.times.length c3) x.times.length (p9 x.times))(hl:aK B w0 (Bo g (.slice A1 x.ns.length c1) v1 v2 v3 (.slice A3 x.times.length c3) (.slice A4 x.levels.length c4) (.slice A5 x.T.length c5) (.slice A6 LL.length c6) (.slice Af FB.length cf) v9::F) 1 (.slice A4 x.levels.length c4) x.levels.length (bv x.levels))(hT:aK B w0 (Bo g (.slice A1 x.ns.length c1) v1 v2 v3 (.slice A3 x.times.length c3) (.slice A4 x.levels.length c4) (.slice A5 x.T.length c5) (.slice A6 LL.length c6) (.slice Af FB.length cf) v9::F) 1 (.slice A5 x.T.length c5) x.T.length (strs x.T))(hI:aK B w0 (Bo g (.slice A1 x.ns.length c1) v1 v2 v3 (.slice A3 x.times.length c3) (.slice A4 x.levels.length c4) (.slice A5 x.T.length c5) (.slice A6 LL.length c6) (.slice Af FB.length cf) v9::F) 1 (.slice A6 LL.length c6) LL.length (LL.map jL))(hIe:∀e∈LL,aK B w0 (Bo g (.slice A1 x.ns.length c1) v1 v2 v3 (.slice A3 x.times.length c3) (.slice A4 x.levels.length c4) (.slice A5 x.T.length c5) (.slice A6 LL.length c6) (.slice Af FB.length cf) v9::F) 1 (jL e) e.2.2.length (bx e.2.2))(hf:aK B w0 (Bo g (.slice A1 x.ns.length c1) v1 v2 v3 (.slice A3 x.times.length c3) (.slice A4 x.levels.length c4) (.slice A5 x.T.length c5) (.slice A6 LL.length c6) (.slice Af FB.length cf) v9::F) 1 (.slice Af FB.length cf) FB.length (FB.map dq))(Io:∀e∈FB,aK B w0 (Bo g (.slice A1 x.ns.length c1) v1 v2 v3 (.slice A3 x.times.length c3) (.slice A4 x.levels.length c4) (.slice A5 x.T.length c5) (.slice A6 LL.length c6) (.slice Af FB.length cf) v9::F) 1 (dq e) e.2.2.length (bv e.2.2)):
  a_ B w0 127 [br g] (Bo g (.slice A1 x.ns.length c1) v1 v2 v3 (.slice A3 x.times.length c3) (.slice A4 x.levels.length c4) (.slice A5 x.T.length c5) (.slice A6 LL.length c6) (.slice Af FB.length cf) v9::F)
   (fun v L=>∃A' c',v= .tuple #[.slice A' (jl x).1.length c',ah (jl x).2]∧L= .own 62 4 A' (jl x).1.length c' (dh (jl x).1)::Bo g (.slice A1 x.ns.length c1) v1 v2 v3 (.slice A3 x.times.length c3) (.slice A4 x.levels.length c4) (.slice A5 x.T.length c5) (.slice A6 LL.length c6) (.slice Af FB.length cf) v9::F):=by
 have Rg:FB.length=x.bC.length:=by rw[←sP,eK]
 have hLl:LL.length=x.I.length:=by rw[←hLx,eK]
 obtain⟨o1,o2,o3,o4,o5,o6,o7,o8,o9,o10⟩:=ho;have ho:sG x:=⟨o1,o2,o3,o4,o5,o6,o7,o8,o9,o10⟩
 refine fw func127 46 [0] ?_;refine B9 ?_;refine aZ 62 4 none ?_;refine jQ ?_;refine aE (fun zf zL zm=>∃(k:Nat) (out:List aI) (Ao:bj) (co:Nat),(k≤x.bC.length∧out.length=(x.ns.take k).sum∧nY x (x.bC.length-k) k out=nY x x.bC.length 0 [])∧x.bC.length-k=zm∧Sub zf [(0,br g),(4,.slice Ao out.length co),(15,ah FB.length),(16,ah (k:Int))]∧Wk zL (.own 62 4 Ao out.length co (dh out)::Bo g (.slice A1 x.ns.length c1) v1 v2 v3 (.slice A3 x.times.length c3) (.slice A4 x.levels.length c4) (.slice A5 x.T.length c5) (.slice A6 LL.length c6) (.slice Af FB.length cf) v9::F)) _ ⟨0,[],none,0,⟨bS _,ak,by rw[Eo]⟩,rfl,bp,.refl _⟩ ?_;rintro _ _ _ ⟨k,out,Ao,co,⟨hk,Kl,GN⟩,rfl,hs,hp⟩;refine aU hs hp ?_;clear hs hp;refine bz ?_;refine aj (fun iF=>?_) fun iF=>?_
 ·have hkf:x.bC.length-k=(x.bC.length-(k+1))+1:=by omega
  rw[hkf]at GN;have wT:=nQ x.ns (k+1);have LF:(x.ns.take (k+1)).sum=(x.ns.take k).sum+x.ns.getD k 0:=by rw[ba aa 0,wi];simp
  refine dQ ?_;refine ay rfl (.perm (abe HT (k:=k) (v6:=.slice A5 x.T.length c5) (v7:=.slice A6 LL.length c6) ho aa sP hcn (hn.mono (.cons_cons _ (.cons _ (.refl _)))) (ht.mono (.cons_cons _ (.cons _ (.refl _)))) (hl.mono (.cons_cons _ (.cons _ (.refl _)))) (hf.mono (.cons_cons _ (.cons _ (.refl _)))) (fun e he=>(Io e he).mono (.cons_cons _ (.cons _ (.refl _))))) ((l_ (fR (.refl _))))) fun A22 c22=>?_;refine dQ ?_;refine aj (fun qc=>?_) fun qc=>?_
  ·rw[Oi qc]at GN;have e:=amH GN.symm qc;refine bG ?_;refine ve [2,3] ?_;refine bI ?_;refine aD 62 4 none ?_;refine aq (.cons (.skip (.cons (.skip (.refl _))))) ?_;refine aF ?_;rw[e];exact⟨none,0,rfl,rfl⟩
  ·rw[VN qc]at GN;have l9:=ab5 (bH qc);have D_:(out++(lZ x k).1).length=out.length+(lZ x k).1.length:=aY;refine bG ?_;refine fM (bT WC rfl aV rfl (aK.own (.head _)) (I3 _) aa aa) fun Qf c30=>?_;refine aF ?_;refine ve [0,4,15,16] ?_;refine bz ?_;refine av ⟨_,aa,k+1,out++(lZ x k).1,Qf,c30,⟨aa,aa,GN⟩,rfl,bp,.trans ((rQ (gk (.skip (.refl _))))) (ax aa (by rw[vj]) (.refl _))⟩
 ·obtain rfl:k=x.bC.length:=by omega
  rw[nE,nY]at GN;refine bO ?_;refine ai rfl (oP out (aK.own (.head _))) ?_;refine bO ?_;refine aj (fun tT=>?_) fun tT=>?_
  ·have e:=amI GN.symm tT;refine bO ?_;refine aD 62 4 none ?_;refine aq (.cons (.skip (.refl _))) ?_;refine aF ?_;rw[e];exact⟨none,0,rfl,rfl⟩
  ·obtain⟨q1,q2,q3⟩:=kq (bH tT) (fun r hr=>by
    have:=KD ho x.bC.length 0 [] (fun _ h=>kl) r (by rw[←GN];exact hr);exact this)
   refine b8 ?_;refine cF (.own 62 4 Ao out.length co (dh out)::Bo g (.slice A1 x.ns.length c1) v1 v2 v3 (.slice A3 x.times.length c3) (.slice A4 x.levels.length c4) (.slice A5 x.T.length c5) (.slice A6 LL.length c6) (.slice Af FB.length cf) v9::F) ?_;refine ae 0 ?_;refine ae 1 ?_;refine ae 2 ?_;refine aW 3 rfl (bY 2 ag rfl aV [.slice A5 x.T.length c5,.slice A6 LL.length c6] rfl rfl) ?_;refine ae 4 ?_;refine az 5 ?_;refine gz rfl .no apF rfl (Ul (L:=out) (aK.own (.head _)) q3) rfl (by rintro _ _ ⟨AT,cT,AL,cL,L2,rfl,rfl,hL2⟩;exact gD) ?_;rintro _ _ ⟨AT,cT,AL,cL,L2,rfl,cA,hL2⟩;obtain rfl:=cA.symm;refine az 6 ?_;refine iW rfl rfl (aiE (T1:=x.T) (T2:=mW out) (L1:=toI LL) (L2:=toI L2) (by rw[CS]) (by rw[CS];have:=dB List.length hL2;simpa[Jy,mW]using this.symm) rfl (hT.mono (.cons _ (.cons _ (.trans (.cons _ (.refl _)) (gx _ _))))) (by rw[W0];exact hI.mono (.cons _ (.cons _ (.trans (.cons _ (.refl _)) (gx _ _))))) (afF fun e he=>(hIe e he).mono (.cons _ (.cons _ (.trans (.cons _ (.refl _)) (gx _ _))))) (aK.own (.head _)) aoS (WZ fun e he=>.tail _ (.tail _ (j9 _ (jb (f:=jK) he)))) aa (by rw[CS];omega) (fun e he=>(aaf (m:=20000) (fun e he=>o9 _ (by rw[←hLx];exact jb (f:=fun y:rK=>y.2.2) he)) aa e he))) ?_;refine ae 7 ?_;refine be ?_;refine aj (fun tU=>?_) fun tU=>?_
   ·have hi:¬(x.T=mW out∧x.I=mV out):=fun hh=>tU ⟨hh.1,by rw[yT,yT,hLx,hL2,hh.2];rfl⟩;have e:=amJ GN.symm tT hi;refine b8 ?_;refine ve [2,3] ?_;refine bA ?_;refine aD 62 4 none ?_;refine aq (.cons (.skip (.skip ((dv _ _).trans (.skip (.refl _)))))) ?_;refine aF ?_;rw[e];exact⟨none,0,rfl,rfl⟩
   ·have hi:x.T=mW out∧x.I=mV out:=by
     have hh:=bH tU;refine⟨hh.1,zj ?_⟩;have h2:=hh.2;rw[yT,yT,hLx,hL2]at h2;exact h2
    have e:=amK GN.symm tT hi;refine bK ?_;refine ve [2,3] ?_;refine be ?_;refine aq (.skip (.skip (dv _ _))) ?_;refine aF ?_;rw[e];exact⟨Ao,co,rfl,rfl⟩
theorem CV.open_{x:ir}{L:aQ}(h:CV B w0 L g x):∃(A1:bj) (c1:Nat) (A2:bj) (c2:Nat) (A3:bj) (c3:Nat) (A4:bj) (c4:Nat) (A5:bj) (c5:Nat) (A6:bj) (c6:Nat) (LX:List rK) (Af:bj) (cf:Nat) (FB:List kS) (va:Value) (M:aQ),
  L.Perm (Bo g (.slice A1 x.ns.length c1) (.slice A2 x.ss.length c2) (ah x.c) (ah x.i) (.slice A3 x.times.length c3) (.slice A4 x.levels.length c4) (.slice A5 x.T.length c5) (.slice A6 LX.length c6) (.slice Af FB.length cf) va::M)∧
  aK B w0 L 1 (.slice A1 x.ns.length c1) x.ns.length (bx x.ns)∧aK B w0 L 1 (.slice A3 x.times.length c3) x.times.length (p9 x.times)∧aK B w0 L 1 (.slice A4 x.levels.length c4) x.levels.length (bv x.levels)∧
  aK B w0 L 1 (.slice A5 x.T.length c5) x.T.length (strs x.T)∧aK B w0 L 1 (.slice A6 LX.length c6) LX.length (LX.map jL)∧(∀e∈LX,aK B w0 L 1 (jL e) e.2.2.length (bx e.2.2))∧LX.map (·.2.2)=x.I∧
  aK B w0 L 1 (.slice Af FB.length cf) FB.length (FB.map dq)∧(∀e∈FB,aK B w0 L 1 (dq e) e.2.2.length (bv e.2.2))∧FB.map (·.2.2)=x.bC:=by
 obtain⟨A1,c1,A2,c2,A3,c3,A4,c4,A5,c5,A6,c6,LX,Af,cf,FB,va,h1,h2,h3,h4,h5,h6,h7,h8,h9,jx,pn⟩:=h;obtain⟨s,t,rfl⟩:=List.append_of_mem h1;exact⟨A1,c1,A2,c2,A3,c3,A4,c4,A5,c5,A6,c6,LX,Af,cf,FB,va,s++t,ym,h2,h3,h4,h5,h6,h7,h8,h9,jx,pn⟩
theorem abi(HT:bL B w0){x:ir}{L:aQ}(ho:sG x)(hB:CV B w0 L g x):
  a_ B w0 127 [br g] L (fun v K=>∃A' c',v= .tuple #[.slice A' (jl x).1.length c',ah (jl x).2]∧K= .own 62 4 A' (jl x).1.length c' (dh (jl x).1)::L):=by
 obtain⟨A1,c1,A2,c2,A3,c3,A4,c4,A5,c5,A6,c6,LX,Af,cf,FB,va,M,hp,h2,h3,h4,h5,h6,h7,h8,h9,jx,pn⟩:=hB.open_;refine dL.xk h2 fun hcn _=>?_;exact((aln HT ho pn h8 hcn (h2.perm hp) (h3.perm hp) (h4.perm hp) (h5.perm hp) (h6.perm hp) (fun e he=>(h7 e he).perm hp) (h9.perm hp) (fun e he=>(jx e he).perm hp)).perm hp).La fun v K ⟨A',c',h1,h2⟩=>⟨_,.dE (by rw[h2];exact(hp.symm.cons _)),A',c',h1,rfl⟩
theorem ada:a_ B w0 112 [.slice none 0 c] F (fun r L=>∃A' c',r= .slice A' 0 c'∧L= .own 3 1 A' 0 c' (bx [])::F):=by
 refine fw func112 8 [0] ?_;refine bO ?_;refine ab (r7 underlying53 rfl rfl) rfl ?_;refine bB ?_;refine aD 3 1 none ?_;refine aF ?_;exact⟨none,0,rfl,rfl⟩
theorem adb{ns:bf}{ad:Addr}(hb:aK B w0 F 1 (.slice (some ad) ns.length c) ns.length (bx ns))(hn:ns.length≤1000000):
  a_ B w0 112 [.slice (some ad) ns.length c] F (fun r L=>∃A' c',r= .slice A' ns.length c'∧L= .own 3 1 A' ns.length c' (bx ns)::F):=by
 refine fw func112 8 [0] ?_;refine bO ?_;refine ab (r7 underlying53 rfl rfl) rfl ?_;refine bK ?_;refine cC (lE fJ) fun A5=>?_;refine aF ?_;refine fM (bT fJ rfl aV rfl aA (adP _) aa aa) fun A7 c7=>?_;refine b8 ?_;rw[mw,nG];refine aF ?_;exact⟨_,_,rfl,rfl⟩
theorem ade{ns:bf}(hb:aK B w0 F 1 (.slice A ns.length c) ns.length (bx ns))(hn:ns.length≤1000000):
  a_ B w0 112 [.slice A ns.length c] F (fun r L=>∃A' c',r= .slice A' ns.length c'∧L= .own 3 1 A' ns.length c' (bx ns)::F):=by
 cases A with
 |none=>
  intro w hw;obtain⟨A',c',hv,hc,rO,hr⟩:=hb w hw;injection hv with q1 q2 q3;subst q1;have h0:ns=[]:=mr (bH fun h=>by
   obtain⟨ad,e,_⟩:=hr aa;cases e)
  subst h0;exact ada w hw
 |some ad=>
  exact adb hb hn
theorem Ht{x:ir}{L:aQ}(ho:sG x)(hB:CV B w0 L g x):
  a_ B w0 59 [br g] L (fun v K=>∃A' c',v= .slice A' x.ns.length c'∧K= .own 3 1 A' x.ns.length c' (bx x.ns)::L):=by
 have Vk:=ho.nl;obtain⟨A1,c1,A2,c2,A3,c3,A4,c4,A5,c5,A6,c6,LX,Af,cf,FB,va,M,hp,h2,h3,h4,h5,h6,h7,h8,h9,jx,pn⟩:=hB.open_;have h2:=h2.perm hp;refine dL.La (R:=fun v K=>∃A' c',v= .slice A' x.ns.length c'∧K= .own 3 1 A' x.ns.length c' (bx x.ns)::(Bo g (.slice A1 x.ns.length c1) (.slice A2 x.ss.length c2) (ah x.c) (ah x.i) (.slice A3 x.times.length c3) (.slice A4 x.levels.length c4) (.slice A5 x.T.length c5) (.slice A6 LX.length c6) (.slice Af FB.length cf) va::M)) (dL.perm ?_ hp) fun v K ⟨A',c',q1,q2⟩=>⟨_,.dE (by rw[q2];exact(hp.symm.cons _)),A',c',q1,rfl⟩
 refine fw func59 11 [0] ?_;refine GD ?_;refine ay rfl (ade h2 aa) fun wu F8=>?_;refine bG ?_;exact⟨wu,F8,rfl,rfl⟩
end
theorem yi:type_of% @Nat.mul_le_mul_left:= @Nat.mul_le_mul_left
theorem UZ{S:Nat}(hS:S≤32768)(pl:Bool):∀(g:bf) (L:List aI),(∀x∈L,x.fits)→CX S (lens false L) g→(ju false pl g L).flatten.length≤33000*g.length
 |[],_,_,_=>by simp[ju]
 |n::g,L,hL,hf=>by
  obtain⟨f1,f2,f3,f4,f5⟩:=hf;have Iv:=oJ (b:=false) hS hL f1 f3;have h1:=Da (b:=c_ false (L.take n)) (pl:=pl) Iv;have h2:=UZ hS pl g (L.drop n) (fun x hx=>hL x (rk hx)) agF;rw[ju,wm,aY,ef,ue,cE];have:=h1.1;omega
theorem XF{o:aR}{L:List aI}{M:Nat}(ho:cB 2 (o2 o)=0)(hc:cP L=0)(hx:∀x∈L,x.1<18446744073709551616)(hi:(qH o L).length≤M)(hM:M≤100000000000):
  (dy o L).length≤33000*L.length+40*L.length+M+1000+(ku L).length:=by
 obtain⟨tC,rO,LB⟩:=kq hc hx;have hom:=AE (.inr (.inl rfl)) ho;obtain⟨⟨m1,m2⟩,_,m4,_⟩:=hom;have m1:16≤o.1:=m1;have m2:o.1≤32768:=m2;have GM:(dR o false L).length≤L.length:=by unfold dR;have:=mZ o.1.toNat (lens false L);rwa [et]at this
 have Io:=UZ (S:=o.1.toNat) aa o.2.1 (dR o false L) L rO (ky _ _);have hss:∀x∈(eQ o L).map List.length,x≤33000*L.length:=fun x hx=>by
  have h1:=pD hx;rw[←List.length_flatten]at h1;have:33000*(dR o false L).length≤33000*L.length:=yi _ GM;exact jc h1 (jc Io this)
 have wT:=Cz o false L;have tB:=qV (L:=L) aa;have hCl:(oW L).length=(ku L).length+4:=du _;have hIl:(oY o L).length=(qH o L).length+4:=du _;have hDl:(p_ o L).length≤60+20*L.length+4:=by
  unfold p_;rw[du];have h1:=y9 (dR o false L) ((eQ o L).map List.length) (fun n hn=>Xy) (fun n hn=>by have:=hss n hn;omega) (dR o false L).length;have h2:uR (dR o false L) ((eQ o L).map List.length) (dR o false L).length=((dR o false L).zip ((eQ o L).map List.length)).flatMap fun p=>aS p.1++aS p.2:=by
   unfold uR;rw[fA (by rw[List.length_zip];omega)]
  rw[h2]at h1;have h3:=aT (x:=(dR o false L).sum) aa;have h4:=aT (x:=(dR o false L).length) aa;have h5:=aT (x:=(oW L).length) aa;have h6:=aT (x:=(oY o L).length) aa;unfold xP;simp only[aY];omega
 unfold dy;have:33000*(dR o false L).length≤33000*L.length:=yi _ GM;have acQ:(eQ o L).flatten.length≤33000*L.length:=jc Io this;simp only[aY,qb];omega
theorem Hw{o:aR}{L:List aI}(ho:cB 2 (o2 o)=0)(hc:cP L=0)(hx:∀x∈L,x.1<18446744073709551616):(dy o L).length≤1000000000000:=by
 obtain⟨tC,rO,LB⟩:=kq hc hx;have hom:=AE (.inr (.inl rfl)) ho;obtain⟨_,_,m4,_⟩:=hom;obtain⟨m5,m6⟩:=m4 (.inr rfl);have hi:=NI (o:=o) m5 m6 LB tC;have:=XF (M:=60000000000) ho hc hx aa aa;have tB:=qV (L:=L) aa;omega
theorem aap(HT:bL B w0){o:aR}(h1:0≤o.1)(h2:o.1≤32768)(h3:0≤o.2.2.1)(h4:o.2.2.1≤64):
  a_ B w0 65 [.agg (aR.cells o).toArray] F (Gh (sB o) F):=by
 obtain⟨bl,pl,bu,da,pa,ch⟩:=o;simp only at h1 h2 h3 h4;obtain⟨S,rfl⟩:=gJ h1;obtain⟨sz,rfl⟩:=gJ h3;have hn1:=aT (x:=S) aa;have tY:=aT (x:=sz) aa;have hH:ou ((S:Int),pl,(sz:Int),da,pa,ch)=(dY++[2])++(aS S++([fI pl]++aS sz)):=rfl;have hHl:(ou ((S:Int),pl,(sz:Int),da,pa,ch)).length≤30:=by
  rw[hH];simp only[aY,ef,sd,dY];omega
 have hTH:sB ((S:Int),pl,(sz:Int),da,pa,ch)=cX (ou ((S:Int),pl,(sz:Int),da,pa,ch)):=rfl;rw[hTH];obtain⟨H0,hH0⟩:=cK (ou ((S:Int),pl,(sz:Int),da,pa,ch));rw[←hH0]at hH hHl⊢;refine cm func65 26 rfl rfl rfl [(0,.agg #[ah (S:Int),.bool pl,ah (sz:Int),ah da,ah pa,ah ch])] ⟨⟨rfl,rfl⟩,trivial⟩ ?_;refine be ?_;refine bh fun g1=>?_;refine bI ?_;refine d_ (fun zf zL=>Sub zf [(1,br g1),(3,.int .u8 ((fI pl).toNat:Int))]∧Wk zL (.bE g1 23 [ah (S:Int),.bool pl,ah (sz:Int),ah da,ah pa,ah ch]::F)) ?_ ?_
 ·refine bz ?_;refine gZ (fun h7=>?_) fun h7=>?_
  ·subst h7;refine bA ?_;exact bD ⟨bp,.refl _⟩
  ·subst h7;refine aF ?_;exact bD ⟨bp,.refl _⟩
 ·rintro _ _ ⟨hs,hp⟩;refine aU hs hp ?_;clear hs hp;refine be ?_;refine ay rfl (Sb 2) fun A9 c9=>?_;refine bI ?_;rw[show(qm 2).1=dY++[2] from rfl];refine cF (.own 5 1 A9 (dY++[2]:al).length c9 (bv (dY++[2])):: .bE g1 23 [ah (S:Int),.bool pl,ah (sz:Int),ah da,ah pa,ah ch]::F) ?_;refine ae 0 ?_;refine ae 1 ?_;refine ae 2 ?_;refine aW 3 rfl (bm underlying3 underlying60 rfl (r:=((S:Nat):Int)) (f_ aa aa)) ?_;refine ae 5 ?_;refine ae 7 ?_;refine ae 8 ?_;refine aW 9 rfl (bm underlying3 underlying60 rfl (r:=((sz:Nat):Int)) (f_ aa aa)) ?_;refine gS 4 6 ?_ ?_
  ·refine b7 rfl rfl (iO S aa) fun Xk c16=>?_;refine gS 6 10 ?_ ?_
   ·refine cR rfl (aG cD [_] rfl rfl cw aa aa) fun tb=>?_;refine az 10 ?_;refine b7 rfl rfl (iO sz aa) fun A22 c22=>?_;refine az 11 ?_;refine cR rfl (aG fE [_,_,_,_] rfl rfl cw aa aa) fun A23=>?_;refine az 12 ?_;refine b7 rfl rfl (Qo (l1:=dY++[2]) (l2:=aS S) (l3:=[fI pl]) (l4:=aS sz) aA aA aA aA aA hH aa) fun Bg Di=>?_;refine az 13 ?_;refine b7 rfl rfl (qB HT (l:=H0) aA aa) fun Ha Lu=>?_;refine ae 14 ?_;refine cQ [2] ?_;refine be ?_;refine aq ((ed (.skip (.skip (.skip (.skip (.skip (.skip (.skip (.refl _)))))))))) ?_;refine aF ?_;exact⟨Ha,Lu,rfl,rfl⟩
   ·refine b7 rfl rfl (iO sz aa) fun A22 c22=>?_;refine az 6 ?_;refine cR rfl (aG cD [_] rfl rfl cw aa aa) fun tb=>?_;refine az 11 ?_;refine cR rfl (aG fE [_,_,_,_] rfl rfl cw aa aa) fun A23=>?_;refine az 12 ?_;refine b7 rfl rfl (Qo (l1:=dY++[2]) (l2:=aS S) (l3:=[fI pl]) (l4:=aS sz) aA aA aA aA aA hH aa) fun Bg Di=>?_;refine az 13 ?_;refine b7 rfl rfl (qB HT (l:=H0) aA aa) fun Ha Lu=>?_;refine ae 14 ?_;refine cQ [2] ?_;refine be ?_;refine aq ((ed (.skip (.skip (.skip (.skip (.skip (.skip (.skip (.refl _)))))))))) ?_;refine aF ?_;exact⟨Ha,Lu,rfl,rfl⟩
  ·refine cR rfl (aG cD [_] rfl rfl cw aa aa) fun tb=>?_;refine az 4 ?_;refine b7 rfl rfl (iO S aa) fun Xk c16=>?_;refine az 10 ?_;refine b7 rfl rfl (iO sz aa) fun A22 c22=>?_;refine az 11 ?_;refine cR rfl (aG fE [_,_,_,_] rfl rfl cw aa aa) fun A23=>?_;refine az 12 ?_;refine b7 rfl rfl (Qo (l1:=dY++[2]) (l2:=aS S) (l3:=[fI pl]) (l4:=aS sz) aA aA aA aA aA hH aa) fun Bg Di=>?_;refine az 13 ?_;refine b7 rfl rfl (qB HT (l:=H0) aA aa) fun Ha Lu=>?_;refine ae 14 ?_;refine cQ [2] ?_;refine be ?_;refine aq ((ed (.skip (.skip (.skip (.skip (.skip (.skip (.skip (.refl _)))))))))) ?_;refine aF ?_;exact⟨Ha,Lu,rfl,rfl⟩
theorem aat(HT:bL B w0){o:aR}{L:List aI}(hx:∀x∈L,x.1<18446744073709551616)(hb:aK B w0 F 4 (.slice A L.length c) L.length (dh L)):
  a_ B w0 27 [.agg (aR.cells o).toArray,.slice A L.length c] F (LQ (uM o L) F):=by
 have hO1:∀(h:cB 2 o≠0),uM o L=([],cB 2 o):=fun h=>by unfold uM;rw[ao h]
 have hO2:∀(h:¬cB 2 o≠0) (h2:(fX o L).2≠0),uM o L=([],(fX o L).2):=fun h h2=>by unfold uM;rw[aw h,ao h2]
 have hO3:∀(h:¬cB 2 o≠0) (h2:¬(fX o L).2≠0),uM o L=(p7 o L,0):=fun h h2=>by unfold uM;rw[aw h,aw h2]
 have hmk:=fun(h:¬cB 2 o≠0)=>CL (bH h);have hbw:∀(h2:¬(fX o L).2≠0),(fX o L).1=dy o L∧cP L=0:=fun h2=>by
  unfold fX at h2⊢;by_cases q1:cB 2 (o2 o)≠0
  ·rw[ao q1]at h2;exact absurd q1 h2
  ·by_cases q2:cP L≠0
   ·rw[aw q1,ao q2]at h2;exact absurd q2 h2
   ·rw[aw q1,aw q2];exact⟨rfl,bH q2⟩
 obtain⟨W,hW⟩:=cK (uM o L);obtain⟨Y,hY⟩:=cK (fX o L);have NB:=fun M (hb:aK B w0 M 4 (.slice A L.length c) L.length (dh L))=>Df (F:=M) HT (o:=o) hx hb;rw[←hW]at hO1 hO2 hO3⊢;rw[←hY]at hO2 hO3 hbw;simp only[←hY]at NB;obtain⟨bl,pl,bu,da,pa,ch⟩:=o;refine cm func27 28 rfl rfl rfl [(0,.agg #[ah bl,.bool pl,ah bu,ah da,ah pa,ah ch]),(1,.slice A L.length c)] ⟨⟨rfl,rfl⟩,⟨rfl,rfl⟩,trivial⟩ ?_;refine be ?_;refine bh fun g2=>?_;refine bI ?_;refine ai rfl (kF 2 (bl,pl,bu,da,pa,ch)) ?_;refine bO ?_;refine aj (fun mD=>?_) fun mD=>?_
 ·refine bO ?_;refine aD 5 1 none ?_;refine aq (.cons (.skip (.refl _))) ?_;refine aF ?_;rw[hO1 mD];exact⟨none,0,rfl,rfl⟩
 ·refine bz ?_;refine ay rfl (NB _ hb.cons) fun TP c17=>?_;refine dQ ?_;refine aj (fun l0=>?_) fun l0=>?_
  ·refine bG ?_;refine ve [4,5] ?_;refine bA ?_;refine aD 5 1 none ?_;refine aq (.cons (.skip (.skip (.refl _)))) ?_;refine aF ?_;rw[hO2 mD l0];exact⟨none,0,rfl,rfl⟩
  ·obtain⟨fG,ho2⟩:=hmk mD;obtain⟨⟨m1,m2⟩,_,m4,_,_⟩:=fG;obtain⟨m5,m6⟩:=m4 (.inr rfl);have m5:1≤bu:=m5;have m6:bu≤64:=m6;have m1:16≤bl:=m1;have m2:bl≤32768:=m2;have hbB:=hbw l0;have Ns:=Hw (o:=(bl,pl,bu,da,pa,ch)) (L:=L) (by rw[ho2];exact bH mD) hbB.2 hx;have Vi:(sB (bl,pl,bu,da,pa,ch)).length≤1000:=by
    unfold sB ou;have hn1:=aT (x:=(bl:Int).toNat) aa;have tY:=aT (x:=(bu:Int).toNat) aa;rw[du];simp only[aY,ef,sd,dY];omega
   have wR:(p7 (bl,pl,bu,da,pa,ch) L).length=(sB (bl,pl,bu,da,pa,ch)).length+(dy (bl,pl,bu,da,pa,ch) L).length:=aY;refine bG ?_;refine ay rfl (aap HT (o:=(bl,pl,bu,da,pa,ch)) (by show 0≤bl;omega) m2 (by show 0≤bu;omega) m6) fun Bg Di=>?_;refine aF ?_;refine cC (aG fE [_,_] rfl rfl cw aa aa) fun tc=>?_;refine ay rfl (Qn (l:=p7 (bl,pl,bu,da,pa,ch) L) (l1:=sB (bl,pl,bu,da,pa,ch)) (l2:=Y.1) aA aA aA (by rw[hbB.1];rfl) aa) fun Hc Ms=>?_;refine be ?_;refine ve [4,5] ?_;refine be ?_;refine aq ((ed (.skip (.skip (.skip (.skip (.refl _))))))) ?_;refine aF ?_;rw[hO3 mD l0];exact⟨Hc,Ms,rfl,rfl⟩
abbrev Tb(g gc:Nat)(o:aR):Ch:=.bE g 179 [br gc,ah o.1,.bool o.2.1,ah o.2.2.1,ah o.2.2.2.1,ah o.2.2.2.2.1,ah o.2.2.2.2.2]
theorem akP(b:al):(th1 b).b=b:=Cs.cN _ _ _
theorem afi(b:al):(th2 b).b=b:=(Cs.cN _ _ _).trans (akP b)
theorem akQ(b:al):(WU b).b=b:=by
 unfold WU;split
 ·rw[qW];exact(Cs.cN _ _ _).trans (afi b)
 ·exact(Cs.cN _ _ _).trans (afi b)
theorem akR(b:al):(th4 b).b=b:=(Cs.cN _ _ _).trans (akQ b)
theorem akS(b:al):(BT b).b=b:=(Cs.cN _ _ _).trans (akR b)
theorem afh{b:al}(h:b.length≤1099511627776):ct (th1 b):=(pd h).b_
theorem S7{b:al}(h:b.length≤1099511627776):ct (th2 b):=(afh h).bW aa
theorem afj{b:al}(h:b.length≤1099511627776):ct (WU b):=by
 unfold WU;split
 ·exact(S7 h).eJ.failed _
 ·exact(S7 h).eJ
theorem afk{b:al}(h:b.length≤1099511627776):ct (th4 b):=(afj h).bW aa
theorem afl{b:al}(h:b.length≤1099511627776):ct (BT b):=(afk h).b_
theorem aas(b:al):rP b=if (BT b).e≠0 then (0,(BT b).e) else if (aJ (b.take (BT b).at_)).2≠0 then (0,(aJ (b.take (BT b).at_)).2) else ((BT b).at_,cB 2 (BU b)):=rfl
theorem alu(HT:bL B w0){l:al}(e:n=l.length)(hb:aK B w0 F 1 (.slice A n c) n (bv l))(hl:l.length≤1099511627776):
  a_ B w0 176 [.slice A n c] F (fun r L=>∃A' c',r= .tuple #[.slice A' (aJ l).1.length c',ah (aJ l).2]∧L= .own 5 1 A' (aJ l).1.length c' (bv (aJ l).1)::F):=by
 subst e;exact wF HT hb hl
theorem Ji(HT:bL B w0){b:al}{An:bj}{cn:Nat}(hb:eM B w0 F A c b)(hbn:eM B w0 F An cn b)(de:b.length≤1000000000):
  a_ B w0 110 [br g,.slice A b.length c] (Tb g gc h_::Cv gc An cn ⟨b,0,0⟩::F)
   (fun r L=>r= .tuple #[ah ((rP b).1:Int),ah (rP b).2]∧L=Tb g gc (BU b)::Cv gc An cn (BT b)::F):=by
 refine dL.xk hb.cons.cons fun mm _=>?_;have k1:=akP b;have k2:=afi b;have k3:=akQ b;have k4:=akR b;have k5:=akS b;have at5:=(afl (b:=b) aa).at_;rw[k5]at at5;have e1:th1 b=Cs.b_ ⟨b,0,0⟩ 5:=rfl;have e2:th2 b=(th1 b).bW 32768:=rfl;have e4:th4 b=(WU b).bW 64:=rfl;have e5:BT b=(th4 b).b_ 4:=rfl;obtain⟨bl,GK⟩:=cK ((th1 b).int 32768);have al4:((bl:Nat):Int)≤32768:=by rw[GK];exact Cs.gw _ aa aa
 obtain⟨bu,al5⟩:=cK ((WU b).int 64);have atZ:((bu:Nat):Int)≤64:=by rw[al5];exact Cs.gw _ aa aa
 have hx8:=lT (Z' b);obtain⟨y,hy⟩:=cK ((Z' b).toNat);have hO:BU b=(((bl:Nat):Int),decide ((y:Int)=1),((bu:Nat):Int),0,0,0):=by
  unfold BU;rw[←GK,←al5,←hy];congr 2;exact sc.2 ⟨fun h=>by omega,fun h=>aa⟩
 have hE:=aas b;have acW:aK B w0 F 1 (.slice A (BT b).at_ c) (BT b).at_ (bv (b.take (BT b).at_)):=by
  have:=hb.iY (k:=(BT b).at_) at5;rw[jX,cE]at this;exact this
 have Ce:(b.take (BT b).at_).length=(BT b).at_:=by rw[eS];omega
 rw[hO]at hE⊢;rw[←hy]at hx8;refine fw func110 88 [0,1] ?_;refine cH ?_;refine ay rfl (.perm (mg (g:=gc) (s:=⟨b,0,0⟩) (m:=5) (pd aa) hbn.cons aa aa) ((l_ (fR (.refl _))))) fun A14 c14=>?_;refine bA ?_;rw[←e1];refine wq ((ed (gk (.skip (.refl _))))) ?_;refine bz ?_;refine ai rfl (iH (s:=th1 b) (most:=32768) (afh aa) (by rw[k1];exact hbn.cons) aa aa) ?_;refine bK ?_;rw[←e2,←GK];refine bG ?_;refine ai rfl (ov (s:=th2 b) (S7 aa) (by rw[k2];exact hbn.cons)) ?_;refine aF ?_;refine ve [0,1,6] ?_;refine aF ?_;refine d_ (fun zf zL=>Sub zf [(0,br g),(1,.slice A b.length c),(6,.int .u8 (y:Int))]∧Wk zL (Cv gc An cn (WU b)::Tb g gc (((bl:Nat):Int),false,0,0,0,0)::F)) ?_ ?_
 ·refine aF ?_;refine Ba [(0,br g),(1,.slice A b.length c),(6,.int .u8 (y:Int))] ⟨rfl,rfl,(by rw[hy];rfl),trivial⟩ ?_;refine bG ?_;refine aj (fun Bu=>?_) fun Bu=>?_
  ·refine bG ?_;refine ai rfl (nr 2) ?_;refine aF ?_;exact bD ⟨bp,mQ (by unfold WU;rw[ao aa]) (.refl _)⟩
  ·refine aF ?_;exact bD ⟨bp,mQ (by unfold WU;rw[aw aa]) (.refl _)⟩
 ·rintro _ _ ⟨hs,hp⟩;refine aU hs hp ?_;clear hs hp;refine tS ?_;refine ai rfl (iH (s:=WU b) (most:=64) (afj aa) (by rw[k3];exact hbn.cons) aa aa) ?_;refine bK ?_;rw[←e4,←al5];refine bG ?_;refine ay rfl (mg (s:=th4 b) (m:=4) (afk aa) (by rw[k4];exact hbn.cons) aa aa) fun A55 c55=>?_;refine ve [0,1] ?_;refine bA ?_;rw[←e5];refine wq ((ed (gk (.skip (.refl _))))) ?_;refine bG ?_;refine ai rfl (gM) ?_;refine bO ?_;refine aj (fun h62=>?_) fun h62=>?_
  ·refine bO ?_;refine aq ((gk (ed (.refl _)))) ?_;refine aF ?_;exact⟨by rw[hE,ao h62];rfl,rfl⟩
  ·refine bB ?_;refine ai rfl (zA) ?_;refine ab (bN (i:=(BT b).at_) (size:=1) underlying27 ag rfl rfl rfl aa) rfl ?_;refine ay rfl (alu HT (l:=b.take (BT b).at_) Ce.symm acW.cons.cons aa) fun A72 c72=>?_;refine bG ?_;refine ve [0,9] ?_;refine bK ?_;refine aj (fun h76=>?_) fun h76=>?_
   ·refine bO ?_;refine aq ((rQ (gk (.skip (.refl _))))) ?_;refine aF ?_;exact⟨by rw[hE,aw h62,ao h76];rfl,rfl⟩
   ·refine bI ?_;refine jz ao9 rfl (zA.jf ((l_ (fR (.refl _))))) wB rfl ?_;refine bA ?_;refine bZ (bY 6 ag rfl aV (aR.cells (((bl:Nat):Int),decide ((y:Int)=1),((bu:Nat):Int),0,0,0)) rfl rfl) rfl ?_;refine jz arS rfl (kF 2 (((bl:Nat):Int),decide ((y:Int)=1),((bu:Nat):Int),0,0,0)) wB rfl ?_;refine bG ?_;refine aq ((rQ (gk (.skip (.refl _))))) ?_;refine aF ?_;exact⟨by rw[hE,aw h62,aw h76],rfl⟩
section
theorem L9{P:Prop}(h:P:=by(rw[h];simp)):P:=h
theorem Hy{o:aR}{b:al}(de:b.length≤1000000)(h:(ei o b).2=0):sG (ei o b).1:=by
 by_cases h1:cB 2 (o2 o)≠0
 ·rw[JC h1]at h;exact absurd h h1
 ·by_cases h2:(fZ b).2.2≠0
  ·rw[JD h1 h2]at h;exact absurd h h2
  ·by_cases h3:Gz (dT b) (qy b).length≠0
   ·rw[JE h1 h2 h3]at h;exact absurd h h3
   ·by_cases h4:xJ (fa (dT b)).1.sum (wE b)≠0
    ·rw[JF h1 h2 h3 h4]at h;exact absurd h h4
    ·by_cases h5:(aJ (vB b)).2≠0
     ·rw[Ud h1 h2 h3 h4 h5]at h;exact absurd h h5
     ·by_cases h6:(eF o.2.2.1 ((fa (dT b)).1.sum:Nat) (aJ (vB b)).1).2.2≠0
      ·rw[Ue h1 h2 h3 h4 h5 h6]at h;exact absurd h h6
      ·rw[Uf h1 h2 h3 h4 h5 h6];exact alp de h1 h3 h4
theorem Uh(HT:bL B w0){o:aR}{b:al}(e:n=b.length)(hb:aK B w0 F 1 (.slice A n c) n (bv b))(de:b.length≤1000000)(h:(ei o b).2≠0):a_ B w0 111 [.agg (aR.cells o).toArray,.slice A n c] F (Xm (ei o b).2 F):=by
 subst e;exact(Ug HT hb de).mono fun r L hr=>hr.elim (fun q=>q.2) fun q=>absurd q.1 h
theorem Ui(HT:bL B w0){o:aR}{b:al}(e:n=b.length)(hb:aK B w0 F 1 (.slice A n c) n (bv b))(de:b.length≤1000000)(h:(ei o b).2=0):a_ B w0 111 [.agg (aR.cells o).toArray,.slice A n c] F (aoa (ei o b).1 B w0 F):=by
 subst e;exact(Ug HT hb de).mono fun r L hr=>hr.elim (fun q=>absurd h q.1) fun q=>q.2
section
variable{b:al}
theorem Tp(h:(marked b).2≠0):iq b=(h_,.nil,(marked b).2):=by unfold iq;rw[ao h]
theorem Tq(h:¬(marked b).2≠0)(h2:(marked b).1≠2):iq b=(h_,.nil,4):=by unfold iq;rw[aw h,ao h2]
theorem Tr(h:¬(marked b).2≠0)(h2:¬(marked b).1≠2)(h3:(rP b).2≠0):iq b=(h_,.nil,(rP b).2):=by unfold iq;rw[aw h,aw h2,ao h3]
theorem Ts(h:¬(marked b).2≠0)(h2:¬(marked b).1≠2)(h3:¬(rP b).2≠0)(h4:(ei (BU b) (b.drop (rP b).1)).2≠0):iq b=(h_,.nil,(ei (BU b) (b.drop (rP b).1)).2):=by unfold iq;rw[aw h,aw h2,aw h3,ao h4]
theorem Tt(h:¬(marked b).2≠0)(h2:¬(marked b).1≠2)(h3:¬(rP b).2≠0)(h4:¬(ei (BU b) (b.drop (rP b).1)).2≠0):iq b=(BU b,(ei (BU b) (b.drop (rP b).1)).1,0):=by unfold iq;rw[aw h,aw h2,aw h3,aw h4]
end
theorem afm{b:al}(h:b.length≤1000000):(rP b).1≤b.length:=by
 have at5:=(afl (b:=b) aa).at_;rw[akS]at at5;unfold rP;split
 ·simp
 ·split
  ·simp
  ·exact at5
def arI(o:aR)(x:ir)(B:Nat)(w0:World)(F:aQ)(r:Value)(L:aQ):Prop:=∃g N,r= .tuple #[.agg (aR.cells o).toArray,br g,ah 0]∧L=N++F∧CV B w0 N g x
def arJ(e:Int)(F:aQ)(r:Value)(L:aQ):Prop:=r= .tuple #[.agg (aR.cells h_).toArray,.pointer none,ah e]∧L=F
theorem aaq(HT:bL B w0){b:al}(hb:eM B w0 F A c b)(de:b.length≤1000000)(h:(iq b).2.2≠0):a_ B w0 57 [.slice A b.length c] F (arJ (iq b).2.2 F):=by
 have hle:=afm de;have pX:=fC (BU b);have Ed:=fC h_;refine fw func57 58 [0] ?_;refine be ?_;refine bc fun g2=>?_;refine bK ?_;refine ai rfl (uv hb.cons aa) ?_;refine jQ ?_;refine aj (fun kL=>?_) fun kL=>?_
 ·refine be ?_;refine ab (cu [ah 0,.bool false,ah 0,ah 0,ah 0,ah 0] ag) rfl ?_;refine bO ?_;refine qt rfl rfl ag aV gA rfl rfl (.skip (.refl _)) ?_;rw[Tp kL];exact⟨rfl,rfl⟩
 ·refine bK ?_;refine aj (fun iM=>?_) fun iM=>?_
  ·refine be ?_;refine ab (cu [ah 0,.bool false,ah 0,ah 0,ah 0,ah 0] ag) rfl ?_;refine bA ?_;refine ve [2,3,4] ?_;refine b8 ?_;refine qt rfl rfl ag aV gA rfl rfl (.skip (.refl _)) ?_;rw[Tq kL iM];exact⟨rfl,rfl⟩
  ·refine bz ?_;refine dX rfl (mY hb.cons aa) fun gn An cn=>?_;refine ab (bw [(0,_)] [.pointer none,ah 0,.bool false,ah 0,ah 0,ah 0,ah 0] [0] [_,_,_,_,_,_,_] rfl rfl ag) rfl ?_;refine bh fun g27=>?_;refine aF ?_;refine ve [0,2,7] ?_;refine bG ?_;refine ai rfl (Ji HT hb.cons.cons (aK.own (.head _)) aa) ?_;refine dQ ?_;refine aj (fun tT=>?_) fun tT=>?_
   ·refine be ?_;refine ab (cu [ah 0,.bool false,ah 0,ah 0,ah 0,ah 0] ag) rfl ?_;refine bI ?_;refine qt rfl rfl ag aV gA rfl rfl (.skip (.skip (.skip (.skip (.refl _))))) ?_;rw[Tr kL iM tT];exact⟨rfl,rfl⟩
   ·have h4:(ei (BU b) (b.drop (rP b).1)).2≠0:=fun k=>by
     rw[Tt kL iM tT (by rw[k];simp)]at h;exact h rfl
    have hcut:aK B w0 F 1 (.slice (if c=(rP b).1 then A else A.map (·.add ((rP b).1*1))) (b.length-(rP b).1) (c-(rP b).1)) (b.length-(rP b).1) (bv (b.drop (rP b).1)):=by
     have:=hb.cut hle;rw[js,cE]at this;rw[cE];exact this
    refine bA ?_;refine cF (Tb g27 gn (BU b)::Cv gn An cn (BT b):: .own 5 1 An b.length cn (bv b):: .bE g2 23 [ah 0,.bool false,ah 0,ah 0,ah 0,ah 0]::F) ?_;refine ae 0 ?_;refine ae 1 ?_;refine ae 2 ?_;refine aW 3 rfl (bY 6 ag rfl aV (aR.cells (BU b)) rfl rfl) ?_;refine ae 4 ?_;refine ae 5 ?_;refine aW 6 rfl (bQ (i:=(rP b).1) (size:=1) underlying27 ag rfl rfl rfl aa) ?_;refine az 7 ?_;refine iW rfl rfl (Uh HT (b:=b.drop (rP b).1) (by rw[iG]) hcut.cons.cons.cons.cons kU h4) ?_;refine ae 8 ?_;refine ae 9 ?_;refine ae 10 ?_;refine ae 11 ?_;refine ae 12 ?_;refine cQ [2,6,7,9] ?_;refine bI ?_;refine aj (fun Il=>?_) fun Il=>?_
    ·refine be ?_;refine ab (cu [ah 0,.bool false,ah 0,ah 0,ah 0,ah 0] ag) rfl ?_;refine bI ?_;refine qt rfl rfl ag aV gA rfl rfl (.skip (.skip (.skip (.skip (.refl _))))) ?_;rw[Ts kL iM tT h4];exact⟨rfl,rfl⟩
    ·exfalso;exact Il h4
theorem aar(HT:bL B w0){b:al}(hb:eM B w0 F A c b)(de:b.length≤1000000)(h:(iq b).2.2=0):a_ B w0 57 [.slice A b.length c] F (arI (iq b).1 (iq b).2.1 B w0 F):=by
 have hle:=afm de;have pX:=fC (BU b);have Ed:=fC h_;refine fw func57 58 [0] ?_;refine be ?_;refine bc fun g2=>?_;refine bK ?_;refine ai rfl (uv hb.cons aa) ?_;refine jQ ?_;refine aj (fun kL=>?_) fun kL=>?_
 ·exfalso;rw[Tp kL]at h;exact kL h
 ·refine bK ?_;refine aj (fun iM=>?_) fun iM=>?_
  ·exfalso;rw[Tq kL iM]at h;exact absurd h aB
  ·refine bz ?_;refine dX rfl (mY hb.cons aa) fun gn An cn=>?_;refine ab (bw [(0,_)] [.pointer none,ah 0,.bool false,ah 0,ah 0,ah 0,ah 0] [0] [_,_,_,_,_,_,_] rfl rfl ag) rfl ?_;refine bh fun g27=>?_;refine aF ?_;refine ve [0,2,7] ?_;refine bG ?_;refine ai rfl (Ji HT hb.cons.cons (aK.own (.head _)) aa) ?_;refine dQ ?_;refine aj (fun tT=>?_) fun tT=>?_
   ·exfalso;rw[Tr kL iM tT]at h;exact tT h
   ·have h4:(ei (BU b) (b.drop (rP b).1)).2=0:=bH fun k=>by
     rw[Ts kL iM tT k]at h;exact k h
    have hcut:aK B w0 F 1 (.slice (if c=(rP b).1 then A else A.map (·.add ((rP b).1*1))) (b.length-(rP b).1) (c-(rP b).1)) (b.length-(rP b).1) (bv (b.drop (rP b).1)):=by
     have:=hb.cut hle;rw[js,cE]at this;rw[cE];exact this
    refine bA ?_;refine cF (Tb g27 gn (BU b)::Cv gn An cn (BT b):: .own 5 1 An b.length cn (bv b):: .bE g2 23 [ah 0,.bool false,ah 0,ah 0,ah 0,ah 0]::F) ?_;refine ae 0 ?_;refine ae 1 ?_;refine ae 2 ?_;refine aW 3 rfl (bY 6 ag rfl aV (aR.cells (BU b)) rfl rfl) ?_;refine ae 4 ?_;refine ae 5 ?_;refine aW 6 rfl (bQ (i:=(rP b).1) (size:=1) underlying27 ag rfl rfl rfl aa) ?_;refine az 7 ?_;refine gz rfl .no ajM rfl (Ui HT (b:=b.drop (rP b).1) (by rw[iG]) hcut.cons.cons.cons.cons kU h4) rfl (by rintro _ _ ⟨gB,N,rfl,rfl,hBB⟩;exact gD) ?_;rintro _ _ ⟨gB,N,rfl,cA,hBB⟩;obtain rfl:=cA.symm;refine ae 8 ?_;refine ae 9 ?_;refine ae 10 ?_;refine ae 11 ?_;refine ae 12 ?_;refine cQ [2,6,7,9] ?_;refine bA ?_;refine fP IG ?_;rw[nI,nI,nI,nI];refine bG ?_;refine aj (fun Il=>?_) fun Il=>?_
    ·exfalso;exact Il rfl
    ·refine bK ?_;refine ab (bY 6 ag rfl aV (aR.cells (BU b)) rfl rfl) rfl ?_;refine bK ?_;refine qt rfl rfl ag aV gA rfl rfl (.skip (.skip (.skip (.skip (.dE IG))))) ?_;rw[Tt kL iM tT (by rw[h4];simp)];exact⟨gB,N,rfl,rfl,hBB⟩
theorem Px{b:al}(de:b.length≤1000000)(h:(iq b).2.2=0):sG (iq b).2.1:=by
 by_cases h1:(marked b).2≠0
 ·rw[Tp h1]at h;exact absurd h h1
 ·by_cases h2:(marked b).1≠2
  ·rw[Tq h1 h2]at h;exact absurd h aB
  ·by_cases h3:(rP b).2≠0
   ·rw[Tr h1 h2 h3]at h;exact absurd h h3
   ·by_cases h4:(ei (BU b) (b.drop (rP b).1)).2≠0
    ·rw[Ts h1 h2 h3 h4]at h;exact absurd h h4
    ·rw[Tt h1 h2 h3 h4];exact Hy kU (bH h4)
theorem afN{b:al}(h:(iq b).2.2≠0):mA b=(h_,[],0,(iq b).2.2):=by unfold mA;rw[ao h]
theorem afO{b:al}(h:¬(iq b).2.2≠0)(h2:(jl (iq b).2.1).2≠0):mA b=(h_,[],0,(jl (iq b).2.1).2):=by unfold mA;rw[aw h,ao h2]
theorem afP{b:al}(h:¬(iq b).2.2≠0)(h2:¬(jl (iq b).2.1).2≠0):mA b=((iq b).1,(jl (iq b).2.1).1,(iq b).2.1.ns.length,0):=by unfold mA;rw[aw h,aw h2]
theorem Pz(HT:bL B w0){b:al}(hb:eM B w0 F A c b)(de:b.length≤1000000)(h:(iq b).2.2≠0):a_ B w0 69 [.slice A b.length c] F (UnA (mA b) F):=by
 have Ed:=fC h_;refine fw func69 34 [0] ?_;refine be ?_;refine bc fun g2=>?_;refine bI ?_;refine ai rfl (aaq HT hb.cons de h) ?_;refine b8 ?_;refine bc fun g6=>?_;refine cH ?_;refine aj (fun iF=>?_) fun iF=>?_
 ·refine be ?_;refine ab (cu [ah 0,.bool false,ah 0,ah 0,ah 0,ah 0] ag) rfl ?_;refine bG ?_;refine ve [2,3,4,5] ?_;refine bA ?_;refine aD 62 4 none ?_;refine nv rfl rfl ag aV gA rfl rfl rfl (.cons (.skip (.skip (.refl _)))) ?_;rw[afN h];exact⟨none,0,rfl,rfl⟩
 ·exfalso;exact iF h
theorem PD(HT:bL B w0){b:al}(hb:eM B w0 F A c b)(de:b.length≤1000000)(h:(iq b).2.2=0):a_ B w0 69 [.slice A b.length c] F (UnA (mA b) F):=by
 have lj:=Px de h;have pX:=fC (iq b).1;refine fw func69 34 [0] ?_;refine be ?_;refine bc fun g2=>?_;refine bI ?_;refine aX arQ rfl (aar HT hb.cons de h) rfl ?_;rintro _ _ ⟨gB,N,rfl,cA,hBB⟩;obtain rfl:=cA.symm;refine b8 ?_;refine bc fun g6=>?_;refine bK ?_;refine fP (List.perm_middle.cons _) ?_;refine bG ?_;refine aj (fun iF=>?_) fun iF=>?_
 ·exfalso;exact iF rfl
 ·refine bG ?_;refine ay rfl (abi HT lj (hBB.mono (((vJ _ _).cons _).cons _))) fun Ar cr=>?_;refine bG ?_;refine ve [2,6,7,8,9] ?_;refine bI ?_;refine aj (fun qc=>?_) fun qc=>?_
  ·refine be ?_;refine ab (cu [ah 0,.bool false,ah 0,ah 0,ah 0,ah 0] ag) rfl ?_;refine bO ?_;refine aD 62 4 none ?_;refine nv rfl rfl ag aV gA rfl rfl rfl (.cons (.skip (.skip (.skip (dv N F))))) ?_;rw[afO L9 qc];exact⟨none,0,rfl,rfl⟩
  ·refine bA ?_;refine cF (.own 62 4 Ar (jl (iq b).2.1).1.length cr (dh (jl (iq b).2.1).1):: .bE g6 23 (aR.cells (iq b).1)::(N++F)) ?_;refine aW 0 rfl (bY 6 ag rfl aV (aR.cells (iq b).1) rfl rfl) ?_;refine ae 1 ?_;refine ae 2 ?_;refine az 3 ?_;refine b7 rfl rfl (Ht lj (hBB.mono (((((vJ _ _)).cons _).cons _).cons _))) fun Ak ck=>?_;refine ae 4 ?_;refine az 5 ?_;refine aF ?_;refine ae 6 ?_;refine ae 7 ?_;refine ae 8 ?_;refine bA ?_;refine nv rfl rfl ag aV gA rfl rfl rfl (.skip (.cons (.skip (.skip (dv N F))))) ?_;rw[afP L9 qc];exact⟨Ar,cr,rfl,rfl⟩
end
theorem Nf{x:Nat}(hx:x<65536):a_ B w0 51 [.int .u64 x,ah 2] F (fun r L=>∃A' c',r= .tuple #[.slice A' (fF x 2).length c',ah 0]∧L= .own 5 1 A' (fF x 2).length c' (bv (fF x 2))::F):=by
 have CD:((x:Nat):Int).fdiv (2^min ((16:Int)).toNat IntKind.u64.bits)=0:=by
  have:=Wz x (k:=2) aa;rw[show((8*2:Nat):Int)=16 from rfl]at this;rw[this,show 8*2=16 from rfl];have:x/2^16=0:=BB aa;omega
 refine fw func51 42 [0,1] ?_;refine cH ?_;refine aL rfl rfl rfl (fun jx=>?_) (fun jx=>?_)
 ·refine bG ?_;refine aL rfl rfl rfl (fun jZ=>?_) (fun jZ=>?_)
  ·refine bG ?_;refine cM (fun iF=>?_) fun iF=>?_
   ·refine b8 ?_;refine ab (eZ rfl rfl (r:=16) rfl) rfl ?_;refine aF ?_;refine ab (dj rfl rfl aa (r:=0) CD) rfl ?_;refine bG ?_;refine ve [0,1,24] ?_;refine aF ?_;refine aj (fun oh=>?_) fun oh=>?_
    ·exfalso;exact oh rfl
    ·refine bG ?_;refine cC (fb (nn:=2) (cc:=2) cD rfl rfl rfl rfl rfl aa aa aa) fun tc=>?_;refine cH ?_;refine aE (fun zf zL zm=>∃(k:Nat),(k≤2)∧2-k=zm∧Sub zf [(0,.int .u64 x),(6,.slice tc 2 2),(28,ah 2),(29,ah k)]∧Wk zL (.own 5 1 tc 2 2 (bv (fF x k)++List.replicate (2-k) (.int .u8 0))::F)) _ ⟨0,bS _,rfl,bp,.refl _⟩ ?_;rintro _ _ _ ⟨k,hk,rfl,hs,hp⟩;refine aU hs hp ?_;clear hs hp;refine bz ?_;refine aj (fun Bu=>?_) fun Bu=>?_
     ·refine jk ?_;refine ab (eZ rfl rfl (r:=((8*k:Nat):Int)) ((bF aa aa).trans aa)) rfl ?_;refine ab (dj rfl rfl aa (r:=((x/2^(8*k):Nat):Int)) (Wz x aa)) rfl ?_;refine ab (bm underlying60 underlying5 rfl (r:=((x/2^(8*k)%256:Nat):Int)) (y8 _)) rfl ?_;refine bO ?_;refine av ⟨_,aa,k+1,aa,rfl,bp,ax rfl (by rw[cE];exact UU aa _ rfl) (.refl _)⟩
     ·obtain rfl:k=2:=by omega
      refine dc ?_;refine aq (L':=.own 5 1 tc (fF x 2).length 2 (bv (fF x 2))::F) (ax ak ak (.refl _)) ?_;refine aF ?_;exact⟨tc,2,ak,rfl⟩
   ·exfalso;omega
  ·exfalso;omega
 ·exfalso;omega
theorem D4(s:Cs):(s.take 2).length≤2:=by
 unfold Cs.take;split
 ·simp
 ·split
  ·simp
  ·rw[eS];omega
theorem HD(ho:ct s)(hb:aK B w0 F 1 (.slice A s.b.length c) s.b.length (bv s.b)):
  a_ B w0 197 [br g,ah 2] (Cv g A c s::F) (fun r L=>r= .int .u64 (s.fixed 2)∧L=Cv g A c (s.k9 2)::F):=by
 have e1:s.fixed 2=iN (s.take 2):=by unfold Cs.fixed;rw[aw aa]
 have e2:s.k9 2=s.b_ 2:=by unfold Cs.k9;rw[aw aa]
 have hl:=D4 s;obtain⟨t,ht⟩:=cK (s.take 2);rw[e1,e2];rw[←ht]at hl⊢;refine fw func197 34 [0,1] ?_;refine cZ ?_;refine aL rfl rfl rfl (fun jx=>?_) (fun jx=>?_)
 ·refine bz ?_;refine dm fun mE=>?_;refine cH ?_;refine ay rfl (mg ho hb (m:=2) aa aa) fun tb uU=>?_;rw[←ht];refine bG ?_;refine aE (fun zf zL zm=>∃(k:Nat),(k≤t.length)∧t.length-k=zm∧Sub zf [(5,.int .u64 (iN (t.take k))),(18,.slice tb t.length uU),(19,ah t.length),(20,ah k)]∧Wk zL (Cv g A c (s.b_ 2):: .own 5 1 tb t.length uU (bv t)::F)) _ ⟨0,bS _,rfl,bp,.refl _⟩ ?_;rintro _ _ _ ⟨k,hk,rfl,hs,hp⟩;refine aU hs hp ?_;clear hs hp;refine bz ?_;refine aj (fun l0=>?_) fun l0=>?_
  ·obtain⟨y,hy⟩:=cK ((t.getD k 0).toNat);have hy8:y<256:=by rw[hy];exact lT _
   have fN:=rq (t.take k);rw[eS,zb hk]at fN;have sQ:iN (t.take (k+1))=iN (t.take k)+256^k*y:=by rw[ba aa 0,BK,eS,zb hk,←hy]
   refine bI ?_;refine ab (au (v:=.int .u8 (y:Int)) ag rfl aA aa (by rw[hy];exact JH aa)) rfl ?_;refine bK ?_;refine ab (bm underlying5 underlying60 rfl (r:=(y:Int)) (f_ aa aa)) rfl ?_;refine aF ?_;refine ab (eZ rfl rfl (r:=((8*k:Nat):Int)) ((bF aa aa).trans aa)) rfl ?_;refine ab (ga rfl rfl aa (r:=((y*256^k:Nat):Int)) (akG aa hy8)) rfl ?_;refine ab (tN rfl rfl (r:=((iN (t.take (k+1)):Nat):Int)) ((aqV aa hy8 fN).trans vR)) rfl ?_;refine bI ?_;refine av ⟨_,aa,k+1,aa,rfl,bp,.refl _⟩
  ·obtain rfl:k=t.length:=by omega
   rw[jS];refine cH ?_;refine aq (.cons (.skip (.refl _))) ?_;refine aF ?_;exact⟨rfl,rfl⟩
 ·exfalso;omega
theorem ali{P:Prop}(h:P:=by(rw[sk (by omega)];omega)):P:=h
theorem aoo{P:Prop}(h:P:=by(exact dN (by first|exact⟨fun k=>⟨pV,m7,k⟩,fun k=>k.2.2⟩|exact fun k=>m7 k.2.1|exact fun k=>pV k.1))):P:=h
theorem agz{P:Prop}(h:P:=by(exact eU (by first|exact⟨fun k=>⟨pV,m7,k⟩,fun k=>k.2.2⟩|exact fun k=>m7 k.2.1|exact fun k=>pV k.1))):P:=h
abbrev Hb(g:Nat)(o:aR)(n p:Nat):Ch:=.bE g 119 [ah o.1,.bool o.2.1,ah o.2.2.1,ah o.2.2.2.1,ah o.2.2.2.2.1,ah o.2.2.2.2.2,ah (n:Int),.int .u8 (p:Int)]
theorem Jc(HT:bL B w0){o:aR}{n p:Nat}(ho:cB 3 o=0)(hn:n<4294967296):
  a_ B w0 123 [br g] (Hb g o n p::F) (Gh (jm o n) (Hb g o n p::F)):=by
 obtain⟨⟨m1,m2⟩,m3,m4,_,_⟩:=(lW ho).1;obtain⟨⟨k1,k2⟩,⟨k3,k4⟩,⟨k5,k6⟩⟩:=m3 rfl;obtain⟨m5,m6⟩:=m4 (.inl rfl);clear ho m3 m4;obtain⟨bl,pl,bu,da,pa,ch⟩:=o;simp only at m1 m2 m5 m6 k1 k2 k3 k4 k5 k6;obtain⟨S,rfl⟩:=gJ (show 0≤bl by omega);obtain⟨u,rfl⟩:=gJ (show 0≤bu by omega);obtain⟨d,rfl⟩:=gJ (show 0≤da by omega);obtain⟨q,rfl⟩:=gJ (show 0≤pa by omega);obtain⟨hc,rfl⟩:=gJ (show 0≤ch by omega);have hH:wo ((S:Int),pl,(u:Int),(d:Int),(q:Int),(hc:Int)) n=(dY++[3])++([fI pl,UInt8.ofNat u,UInt8.ofNat d,UInt8.ofNat q]++(fF hc 2++(fF S 2++fF n 4))):=rfl;have hHl:(wo ((S:Int),pl,(u:Int),(d:Int),(q:Int),(hc:Int)) n).length≤30:=by
  rw[hH];simp[dY]
 have hTH:jm ((S:Int),pl,(u:Int),(d:Int),(q:Int),(hc:Int)) n=cX (wo ((S:Int),pl,(u:Int),(d:Int),(q:Int),(hc:Int)) n):=rfl;rw[hTH];obtain⟨H0,hH0⟩:=cK (wo ((S:Int),pl,(u:Int),(d:Int),(q:Int),(hc:Int)) n);rw[←hH0]at hH hHl⊢;refine fw func123 77 [0] ?_;refine bK ?_;refine ay rfl (Sb 3) fun xh F9=>?_;refine bI ?_;rw[show(qm 3).1=dY++[3] from rfl];refine b8 ?_;refine d_ (fun zf zL=>Sub zf [(0,br g),(3,.slice xh (dY++[3]:al).length F9),(5,.int .u8 ((fI pl).toNat:Int))]∧Wk zL (.own 5 1 xh (dY++[3]:al).length F9 (bv (dY++[3]))::Hb g ((S:Int),pl,(u:Int),(d:Int),(q:Int),(hc:Int)) n p::F)) ?_ ?_
 ·refine bO ?_;refine gZ (fun iM=>?_) fun iM=>?_
  ·subst iM;refine bA ?_;exact bD ⟨bp,.refl _⟩
  ·subst iM;refine aF ?_;exact bD ⟨bp,.refl _⟩
 ·rintro _ _ ⟨hs,hp⟩;refine aU hs hp ?_;clear hs hp;refine bK ?_;refine ab (bm underlying3 underlying60 rfl (r:=((hc:Nat):Int)) (f_ aa aa)) rfl ?_;refine ay rfl (Nf (x:=hc) aa) fun Bh Bp=>?_;refine dQ ?_;refine ab (bm underlying3 underlying60 rfl (r:=((S:Nat):Int)) (f_ aa aa)) rfl ?_;refine ay rfl (Nf (x:=S) aa) fun LP PU=>?_;refine bG ?_;refine ve [0,3,5,6,8] ?_;refine bK ?_;refine ab (bm underlying3 underlying60 rfl (r:=((n:Nat):Int)) (f_ aa aa)) rfl ?_;refine ay rfl (Ng (x:=n) aa) fun A47 c47=>?_;refine bI ?_;refine cF (.own 5 1 A47 (fF n 4).length c47 (bv (fF n 4)):: .own 5 1 LP (fF S 2).length PU (bv (fF S 2)):: .own 5 1 Bh (fF hc 2).length Bp (bv (fF hc 2)):: .own 5 1 xh (dY++[3]:al).length F9 (bv (dY++[3]))::Hb g ((S:Int),pl,(u:Int),(d:Int),(q:Int),(hc:Int)) n p::F) ?_;refine ae 0 ?_;refine ae 1 ?_;refine ae 2 ?_;refine ae 3 ?_;refine ae 4 ?_;refine ae 5 ?_;refine ae 6 ?_;refine aW 7 rfl (bm underlying3 underlying5 rfl (r:=((UInt8.ofNat u).toNat:Int)) ((y8 _).trans ali)) ?_;refine ae 8 ?_;refine ae 9 ?_;refine ae 10 ?_;refine ae 11 ?_;refine ae 12 ?_;refine aW 13 rfl (bm underlying3 underlying5 rfl (r:=((UInt8.ofNat d).toNat:Int)) ((y8 _).trans ali)) ?_;refine ae 14 ?_;refine ae 15 ?_;refine ae 16 ?_;refine ae 17 ?_;refine ae 18 ?_;refine aW 19 rfl (bm underlying3 underlying5 rfl (r:=((UInt8.ofNat q).toNat:Int)) ((y8 _).trans ali)) ?_;refine ae 21 ?_;refine ae 22 ?_;refine ae 23 ?_;refine az 20 ?_;refine cR rfl (aG cD [_,_,_,_] rfl rfl cw aa aa) fun A70=>?_;refine az 24 ?_;refine cR rfl (aG fE [_,_,_,_,_] rfl rfl cw aa aa) fun A74=>?_;refine az 25 ?_;refine b7 rfl rfl (Ju (l1:=dY++[3]) (l2:=[fI pl,UInt8.ofNat u,UInt8.ofNat d,UInt8.ofNat q]) (l3:=fF hc 2) (l4:=fF S 2) (l5:=fF n 4) aA aA aA aA aA aA hH aa) fun A75 c75=>?_;refine az 26 ?_;refine b7 rfl rfl (qB HT (l:=H0) aA aa) fun A76 c76=>?_;refine ae 27 ?_;refine cQ [2] ?_;refine be ?_;refine aq ((ed (wu7 (.skip (.skip (.skip (.skip (.skip (.skip (.skip (.refl _))))))))))) ?_;refine aF ?_;exact⟨A76,c76,rfl,rfl⟩
theorem abJ{b:al}(h:b.length<42):a_ B w0 131 [.slice A b.length c] F (fun r L=>r= .tuple #[.slice none 0 0,.slice none 0 0,.bool false]∧L=F):=by
 refine fw func131 15 [0] ?_;refine jk ?_;refine zH fun h7=>?_;refine bB ?_;exact⟨rfl,rfl⟩
theorem MH{b:al}(de:b.length≤1000000000)(hc:b.length≤c)(h:¬b.length<42):a_ B w0 131 [.slice A b.length c] F (fun r L=>r= .tuple #[.slice A 21 c,.slice (if c=b.length-21 then A else A.map (·.add ((b.length-21)*1))) (b.length-(b.length-21)) (c-(b.length-21)),.bool true]∧L=F):=by
 refine fw func131 15 [0] ?_;refine jk ?_;refine dm fun h7=>?_;refine bG ?_;refine bZ (bN (i:=21) (size:=1) underlying27 ag rfl rfl rfl aa) rfl ?_;refine bA ?_;refine bZ (dw rfl rfl (r:=((b.length-21:Nat):Int)) ((bF aa aa).trans aa)) rfl ?_;refine bZ (bQ (i:=b.length-21) (size:=1) underlying27 ag rfl rfl rfl aa) rfl ?_;refine bK ?_;exact⟨rfl,rfl⟩
theorem MI(HT:bL B w0){l:al}(e:n=l.length)(hb:aK B w0 F 1 (.slice A n c) n (bv l))(hl:l.length≤1000000000):a_ B w0 196 [.slice A n c] F (fun r L=>r= .bool (decide (zo l))∧L=F):=by
 subst e;refine cm func196 27 rfl rfl rfl [(0,.slice A l.length c)] ⟨⟨rfl,rfl⟩,trivial⟩ ?_;refine bI ?_;refine ay rfl (wF HT hb aa) fun A9 c9=>?_;refine bB ?_;refine ai rfl (uv hb.cons aa) ?_;refine bO ?_;refine bU 10 26 [] (zo l) ?_ ?_
 ·refine bA ?_;refine cM (fun pV=>?_) fun pV=>?_
  ·refine bG ?_;refine cM (fun m7=>?_) fun m7=>?_
   ·refine b8 ?_;exact aP aoo
   ·refine be ?_;exact aP agz
  ·refine bz ?_;exact aP agz
 ·refine b8 ?_;refine aq (.skip (.refl _)) ?_;refine aF ?_;exact⟨rfl,rfl⟩
def Qh(R:al×Int)(B:Nat)(w0:World)(F:aQ)(r:Value)(L:aQ):Prop:=∃A' c',r= .tuple #[.slice A' R.1.length c',ah R.2]∧L=F∧aK B w0 F 1 (.slice A' R.1.length c') R.1.length (bv R.1)
theorem Qh.nil{e:Int}{R:al×Int}(h:R=([],e)):Qh R B w0 F (.tuple #[.slice none 0 0,ah e]) F:=by
 subst h;exact⟨none,0,rfl,rfl,aK.Az⟩
theorem abu{b:al}(h:b.length<42):ek b=([],1):=by unfold ek;rw[ao h]
theorem abv{b:al}(h:¬b.length<42)(h2:zo (b.take 21)):ek b=(b.take 21,0):=by unfold ek;rw[aw h,ao h2]
theorem abw{b:al}(h:¬b.length<42)(h2:¬zo (b.take 21))(h3:zo (b.drop (b.length-21))):ek b=(b.drop (b.length-21),0):=by unfold ek;rw[aw h,aw h2,ao h3]
theorem abx{b:al}(h:¬b.length<42)(h2:¬zo (b.take 21))(h3:¬zo (b.drop (b.length-21))):ek b=([],5):=by unfold ek;rw[aw h,aw h2,aw h3]
theorem aby{b:al}(h:b.length<42):a_ B w0 128 [.slice A b.length c] F (Qh (ek b) B w0 F):=by
 refine fw func128 24 [0] ?_;refine bO ?_;refine ai rfl (abJ h) ?_;refine dQ ?_;refine ab (iR rfl) rfl ?_;refine bA ?_;refine gZ (fun mE=>?_) fun mE=>?_
 ·refine bB ?_;exact Qh.nil (abu h)
 ·exfalso;exact absurd mE aB
theorem Uz{b:al}(h:¬b.length<42)(hb:eM B w0 F A c b):aK B w0 F 1 (.slice A 21 c) 21 (bv (b.take 21)):=by
 have:=hb.iY (k:=21) aa;rw[jX,cE]at this;exact this
theorem UA{b:al}(h:¬b.length<42)(hb:eM B w0 F A c b):aK B w0 F 1 (.slice (if c=b.length-21 then A else A.map (·.add ((b.length-21)*1))) (b.length-(b.length-21)) (c-(b.length-21))) (b.length-(b.length-21)) (bv (b.drop (b.length-21))):=by
 have:=hb.cut (k:=b.length-21) aa;rw[js,cE]at this;rw[cE];exact this
theorem abz(HT:bL B w0){b:al}(hb:eM B w0 F A c b)(de:b.length≤1000000000)(h:¬b.length<42):a_ B w0 128 [.slice A b.length c] F (Qh (ek b) B w0 F):=by
 refine dL.xk hb fun mm _=>?_;have ha:=Uz h hb;have hz:=UA h hb;have l1:(b.take 21).length=21:=by rw[eS];omega
 have l2:(b.drop (b.length-21)).length=b.length-(b.length-21):=by rw[iG]
 refine fw func128 24 [0] ?_;refine bO ?_;refine ai rfl (MH de mm h) ?_;refine dQ ?_;refine ab (iR rfl) rfl ?_;refine bA ?_;refine gZ (fun mE=>?_) fun mE=>?_
 ·exfalso;exact absurd mE aB
 ·refine bA ?_;refine ai rfl (MI HT (l:=b.take 21) l1.symm ha aa) ?_;refine bA ?_;refine aj (fun ki=>?_) fun ki=>?_
  ·refine bG ?_;refine ve [2,3] ?_;refine bG ?_;rw[abv h ki];exact⟨A,c,by rw[l1],rfl,by rw[l1];exact ha⟩
  ·refine bA ?_;refine ai rfl (MI HT (l:=b.drop (b.length-21)) l2.symm hz aa) ?_;refine aF ?_;refine ve [5,20] ?_;refine aF ?_;refine aj (fun iM=>?_) fun iM=>?_
   ·refine cZ ?_;rw[abw h ki iM];exact⟨_,_,by rw[l2],rfl,by rw[l2];exact hz⟩
   ·refine cZ ?_;exact Qh.nil (abx h ki iM)
theorem xH(HT:bL B w0){b:al}(hb:eM B w0 F A c b)(de:b.length≤1000000000):a_ B w0 128 [.slice A b.length c] F (Qh (ek b) B w0 F):=by
 by_cases h:b.length<42
 ·exact aby h
 ·exact abz HT hb de h
theorem amm{l:al}(h:l.length≤1000000000):ct (CD l)∧ct (k_ l)∧ct (jF l)∧ct (wS l)∧ct (LD l)∧ct (hs5 l)∧ct (hs6 l):=by
 have h0:ct (CD l):=pd kU;have f2:∀{s:Cs},ct s→ct (s.k9 2):=fun {s} k=>by unfold Cs.k9;rw[aw aa];exact k.b_
 exact⟨h0,h0.b_,h0.b_.b_,h0.b_.b_.b_,h0.b_.b_.b_.b_,f2 h0.b_.b_.b_.b_,f2 (f2 h0.b_.b_.b_.b_)⟩
theorem asY(l:al):(CD l).b=l.drop 5∧(k_ l).b=l.drop 5∧(jF l).b=l.drop 5∧(wS l).b=l.drop 5∧(LD l).b=l.drop 5∧(hs5 l).b=l.drop 5∧(hs6 l).b=l.drop 5:=by
 have f2:∀(s:Cs),(s.k9 2).b=s.b:=fun s=>by unfold Cs.k9;rw[aw aa];exact Cs.cN _ _ _
 have k1:(k_ l).b=l.drop 5:=Cs.cN _ _ _;have k2:(jF l).b=l.drop 5:=(Cs.cN _ _ _).trans k1;have k3:(wS l).b=l.drop 5:=(Cs.cN _ _ _).trans k2;have k4:(LD l).b=l.drop 5:=(Cs.cN _ _ _).trans k3;have k5:(hs5 l).b=l.drop 5:=(f2 _).trans k4;exact⟨rfl,k1,k2,k3,k4,k5,(f2 _).trans k5⟩
theorem alv{l:al}(e:n=l.length)(hb:aK B w0 F 1 (.slice A n c) n (bv l))(hl:l.length≤1099511627776):
  a_ B w0 109 [.slice A n c] F (fun r L=>∃g A' c',r=br g∧L=Cv g A' c' ⟨l,0,0⟩:: .own 5 1 A' l.length c' (bv l)::F):=by
 subst e;exact mY hb hl
theorem US(s:Cs):s.fixed 2<65536:=by
 unfold Cs.fixed;rw[aw aa];have h:=rq (s.take 2);have h2:=D4 s;exact wg h (la aa h2)
theorem UT(s:Cs):s.fixed 4<4294967296:=by
 unfold Cs.fixed;rw[aw aa];have h:=rq (s.take 4);have h2:=wK s;exact wg h (la aa h2)
theorem aqa(l:al):hN l<4294967296:=UT _
theorem Pm{l:al}(e:n=l.length)(h5:5≤l.length)(hb:aK B w0 F 1 (.slice A n c) n (bv l))(hl:l.length≤1000000000):
  a_ B w0 129 [.slice A n c] F (fun r L=>(hE l≠0∧∃Y v,r= .tuple #[v,ah (hE l)]∧L=Y++F)∨(hE l=0∧∃g,r= .tuple #[br g,ah 0]∧L=Hb g (hO l) (hN l) (D9 l).toNat::F)):=by
 subst e;have P4:(l.drop 5).length=l.length-5:=iG;have hcut:aK B w0 F 1 (.slice (if c=5 then A else A.map (·.add (5*1))) (l.length-5) (c-5)) (l.length-5) (bv (l.drop 5)):=by
  have:=hb.cut (k:=5) h5;rw[js,cE]at this;rw[cE];exact this
 obtain⟨o0,o1,o2,o3,o4,o5,o6⟩:=amm hl;obtain⟨q0,q1,q2,q3,q4,q5,q6⟩:=asY l;have e1:k_ l=(CD l).eJ:=rfl;have e2:jF l=(k_ l).eJ:=rfl;have e3:wS l=(jF l).eJ:=rfl;have e4:LD l=(wS l).eJ:=rfl;have e5:hs5 l=(LD l).k9 2:=rfl;have e6:hs6 l=(hs5 l).k9 2:=rfl;obtain⟨y0,hy0⟩:=cK ((CD l).byte.toNat);obtain⟨y1,NG⟩:=cK ((k_ l).byte.toNat);obtain⟨y2,RP⟩:=cK ((jF l).byte.toNat);obtain⟨y3,hy3⟩:=cK ((wS l).byte.toNat);obtain⟨y4,hy4⟩:=cK ((LD l).fixed 2);obtain⟨y5,hy5⟩:=cK ((hs5 l).fixed 2);obtain⟨y6,hy6⟩:=cK ((hs6 l).fixed 4);have b0:y0<256:=by rw[hy0];exact lT _
 have b1:y1<256:=by rw[NG];exact lT _
 have b2:y2<256:=by rw[RP];exact lT _
 have b3:y3<256:=by rw[hy3];exact lT _
 have b4:y4<65536:=by rw[hy4];exact US _
 have b5:y5<65536:=by rw[hy5];exact US _
 have b6:y6<4294967296:=by rw[hy6];exact UT _
 have hPP:(D9 l).toNat=y0:=hy0.symm;have hNN:hN l=y6:=hy6.symm;have hOO:hO l=((y5:Int),decide ((y0:Int)=1),(y1:Int),(y2:Int),(y3:Int),(y4:Int)):=by
  unfold hO;rw[hPP,←NG,←RP,←hy3,←hy4,←hy5];congr 2;exact sc.2 ⟨fun h=>by omega,fun h=>aa⟩
 have hEE:hE l=if 1<y0 then 2 else cB 3 (hO l):=by unfold hE;rw[hPP]
 rw[hOO,hNN,hPP];rw[hOO]at hEE;refine dL.xk hb fun mm _=>?_;refine cm func129 74 rfl rfl rfl [(0,.slice A l.length c)] ⟨⟨rfl,rfl⟩,trivial⟩ ?_;refine bO ?_;refine ab (bQ (i:=5) (size:=1) underlying27 ag rfl rfl rfl aa) rfl ?_;refine dX rfl (alv P4.symm hcut aa) fun gn An cn=>?_;refine b8 ?_;rw[show(⟨l.drop 5,0,0⟩:Cs)=CD l from rfl];refine be ?_;refine ai rfl (ov (s:=CD l) o0 (aK.own (.head _))) ?_;rw[←e1,←hy0];refine ab (bw [(2,_)] [ah 0,.bool false,ah 0,ah 0,ah 0,ah 0,ah 0,.int .u8 0] [7] [_,_,_,_,_,_,_,_] rfl rfl ag) rfl ?_;refine bh fun Ij=>?_;refine b8 ?_;refine fP (.swap _ _ _) ?_;refine cZ ?_;refine ve [4,5] ?_;refine bK ?_;refine ai rfl (ov (s:=k_ l) o1 (by rw[q1];exact(aK.own (.head _)).cons)) ?_;rw[←e2,←NG];refine be ?_;refine ai rfl (ov (s:=jF l) o2 (by rw[q2];exact(aK.own (.head _)).cons)) ?_;rw[←e3,←RP];refine be ?_;refine ai rfl (ov (s:=wS l) o3 (by rw[q3];exact(aK.own (.head _)).cons)) ?_;rw[←e4,←hy3];refine dc ?_;refine ve [4,5] ?_;refine bz ?_;refine ai rfl (HD (s:=LD l) o4 (by rw[q4];exact(aK.own (.head _)).cons)) ?_;rw[←e5,←hy4];refine be ?_;refine ai rfl (HD (s:=hs5 l) o5 (by rw[q5];exact(aK.own (.head _)).cons)) ?_;rw[←e6,←hy5];refine jk ?_;refine ai rfl (HF (s:=hs6 l) o6 (by rw[q6];exact(aK.own (.head _)).cons)) ?_;rw[←hy6];refine b8 ?_;refine ve [5] ?_;refine cZ ?_;refine aj (fun Vb=>?_) fun Vb=>?_
 ·refine bO ?_;rw[ao aa]at hEE;rw[hEE];exact .inl ⟨aB,[_,_,_],_,rfl,rfl⟩
 ·refine bI ?_;refine ab (bY 6 ag rfl aV (aR.cells ((y5:Int),decide ((y0:Int)=1),(y1:Int),(y2:Int),(y3:Int),(y4:Int))) rfl rfl) rfl ?_;refine ai rfl (kF 3 ((y5:Int),decide ((y0:Int)=1),(y1:Int),(y2:Int),(y3:Int),(y4:Int))) ?_;refine bG ?_;refine aq ((gk (.skip (.skip (.refl _))))) ?_;refine aF ?_;rw[aw aa]at hEE;rw[hEE];exact(Classical.em _).elim (fun k=>.inr ⟨k,_,by rw[k],rfl⟩) fun k=>.inl ⟨k,[_],_,rfl,rfl⟩
section
theorem xI{B g2 g3:Nat}{A:bj}{n c sz:Nat}(iZ:1≤sz)(jF:sz≤10000)(hn:n≤1000000000000000)(hnc:n≤c)(hg:g2≠g3)(w:World)(h2:(Ch.bE g2 27 [.slice A n c]).holds B w)(h3:(Ch.bE g3 3 [ah sz]).holds B w):
  SeqStopsK Fence.wide 7 Tryz.prog 188 [br g2,br g3].toArray (fun x:Fin (gR sz n)=> #[Gu A sz n x.val])
   (ak5 B [.bE g2 27 [.slice A n c],.bE g3 3 [ah sz]]) (fun xs=>xs.map (·.val)=List.range (gR sz n)) (fun _=>True) (gR sz n) w:=by
 intro l J Jx W hW hJ hJx hY h0;have nS:∀w:World,(∀q∈[Ch.bE g2 27 [.slice A n c],.bE g3 3 [ah sz]],q.holds B w)→SL 0 w [Ch.bE g2 27 [.slice A n c],.bE g3 3 [ah sz]] w:=fun w h=>by
  refine⟨GX _ _,bS _,fun c hc=>?_,kE.2 ⟨fun d hd=>?_,kE.2 ⟨fun _ h=>kl,List.Pairwise.nil⟩⟩⟩
  ·have:=h c hc;simp only[fk,mv,oj]at hc;rcases hc with rfl|rfl<;>exact⟨bS _,this.2⟩
  ·rw[lJ.1 hd];exact .inr fun e=>hg (N0 e)
 have amd:=(h2.lt rfl).2;have ame:=(h3.lt rfl).2;have hW0:∀q∈[Ch.bE g2 27 [.slice A n c],.bE g3 3 [ah sz]],q.holds B W:=by
  intro c hc;simp only[fk,mv,oj]at hc;rcases hc with rfl|rfl
  ·exact h2.keep fun g hg=>by cases hg;exact hW.block _ amd
  ·exact h3.keep fun g hg=>by cases hg;exact hW.block _ ame
 have YA:∀pre (w:World) k,J pre w→J pre (w.drewN k):=fun pre w k h=>hJ pre w _ none h (qD w k) (fun r e=>by cases e);generalize hLk:[Ch.bE g2 27 [.slice A n c],.bE g3 3 [ah sz]]=Lk at*;refine callsIn_of_wp func188 rfl trivial (wj (Q:=W5 31 (TE (fun w=>∃xs:List (Fin (gR sz n)),xs.map (·.val)=List.range (gR sz n)∧J xs w) (fun w=>∃pre,True∧Jx pre w))) ?_ ?_) rfl
 ·have ha:=TW (N:=31) (args:=[.func (.yield l) #[] #[],br g2,br g3]) (fr0:=[(0,.func (.yield l) #[] #[]),(1,br g2),(2,br g3)]) ak ⟨⟨rfl,rfl⟩,⟨rfl,rfl⟩,⟨rfl,rfl⟩,trivial⟩;refine(?_ :VT Tryz.prog 31 _ _ _ W) _ ha;refine oc (lY ?_);refine cJ (nS W hW0) (lH rfl) rfl rfl ?_;refine nw [(0,_),(1,_),(2,_),(4,_)] ⟨rfl,rfl,rfl,rfl,trivial⟩ ?_;refine j_ (yY ?_);refine Xc (fun i w=>i≤gR sz n∧(∀c∈Lk,c.holds B w)∧∃pre:List (Fin (gR sz n)),pre.map (·.val)=List.range i∧J pre w) (fun i=>[(0,.func (.yield l) #[] #[]),(1,br g2),(2,br g3),(4,ah ((i*sz:Nat):Int))]) 4 (n+sz) (fun i=>i*sz) (fun i=>rfl) 0 ⟨bS _,hW0,[],rfl,h0⟩ ⟨rfl,rfl,rfl,by rw[se];rfl,trivial⟩ ?_;rintro i w ⟨hi,hh,pre,Ef,hJp⟩;have hs:=nS w hh;rw[←hLk]at hs;refine oc (oc (lY ?_));refine cJ hs (dV rfl) rfl rfl ?_;refine cJ hs (bM ag rfl Gr rfl) rfl rfl ?_;refine cJ hs (pg underlying27 rfl) rfl rfl ?_;refine cJ hs (xN rfl rfl) rfl rfl ?_;refine nw [(0,_),(1,_),(2,_),(4,_),(9,_)] ⟨rfl,rfl,rfl,rfl,rfl,trivial⟩ ?_;refine j_ (Jk rfl (fun fN=>?_) (fun fN=>?_))
  ·refine CT ?_;have YF:i*sz<n:=by omega
   have hiN:=(nU iZ).2 YF;have hlen:pre.length<gR sz n:=by
    have:=dB List.length Ef;simp at this;omega
   have hE1:1≤xn sz n i:=by unfold xn;omega
   have hE2:xn sz n i≤sz:=by unfold xn;omega
   have hE3:i*sz+xn sz n i≤n:=by unfold xn;omega
   have hss:(i+1)*sz=i*sz+sz:=j8 i sz;refine j_ (oc (yY (oc (F2 ag ag ?_))));refine ke hs (bM ag rfl Gr rfl) rfl ?_;refine ke hs (bM ag rfl Gr rfl) rfl ?_;refine ke hs (dV rfl) rfl ?_;refine ke hs (bQ (i:=i*sz) (size:=1) underlying27 ag rfl rfl rfl aa) rfl ?_;refine ke hs (pg underlying27 rfl) rfl ?_;refine ke hs (xO rfl rfl) rfl ?_;refine ke hs (lH rfl) rfl ?_;rw[show min (sz:Int) ((n-i*sz:Nat):Int)=((xn sz n i:Nat):Int) by unfold xn;omega];refine Xd [(0,_),(1,_),(2,_),(4,_),(5,_)] ⟨rfl,rfl,rfl,rfl,rfl,trivial⟩ ?_;intro kd;have hJd:=YA pre w kd hJp;have wP:∀c∈Lk,c.holds B (w.drewN kd):=fun c hc=>(hh c hc).keep fun g hg=>rfl;clear hh hJp hs;generalize w.drewN kd=w at*;have hs:=nS w wP;rw[←hLk]at hs;refine j_ (oc (lY ?_));refine cJ hs (dV rfl) rfl rfl ?_;refine cJ hs (bM ag rfl Gr rfl) rfl rfl ?_;refine cJ hs (dV rfl) rfl rfl ?_;refine cJ hs (dV rfl) rfl rfl ?_;refine cJ hs (dV rfl) rfl rfl ?_;refine cJ hs (bX rfl rfl (bF aa aa)) rfl rfl ?_;refine cJ hs (dV rfl) rfl rfl ?_;refine cJ hs (dV rfl) rfl rfl ?_;refine cJ hs (bX rfl rfl (bF aa aa)) rfl rfl ?_;refine cJ hs (vS (i:=i*sz) (j:=i*sz+xn sz n i) (size:=1) underlying27 ag rfl rfl rfl rfl aa rfl aa aa aa) rfl rfl ?_;rw[cE,yg];refine Jl (u:=Gu A sz n i) rfl rfl (hY pre ⟨i,hiN⟩ w hJd hlen) rfl ?_ ?_
   ·rintro w' ⟨hJ',hK⟩;have hh':∀c∈Lk,c.holds B w':=fun c hc=>hK c hc (wP c hc);have hs:=nS w' hh';rw[←hLk]at hs;refine cJ hs (zu rfl) rfl rfl ?_;refine nw [(0,_),(1,_),(2,_),(4,_),(30,_)] ⟨rfl,rfl,rfl,rfl,rfl,trivial⟩ ?_;refine j_ (FZ rfl (CT ?_));refine j_ (lY ?_);refine cJ hs (dV rfl) rfl rfl ?_;refine cJ hs (bM ag rfl Gr rfl) rfl rfl ?_;refine cJ hs (bX rfl rfl (r:=(((i+1)*sz:Nat):Int)) ((bF aa aa).trans aa)) rfl rfl ?_;refine cJ hs (lH rfl) rfl rfl ?_;refine nw [(0,_),(1,_),(2,_),(4,_)] ⟨rfl,rfl,rfl,rfl,trivial⟩ ?_;exact⟨i+1,⟨hiN,hh',pre++[⟨i,hiN⟩],by rw[ja,Ef,lq];rfl,hJ'⟩,aa,rfl,rfl,rfl,rfl,trivial⟩
   ·intro w' hJ';have CD:SL w'.heap.size w' [] w':=SL.Az w';refine cJ CD (zt rfl) rfl rfl ?_;refine nw [(30,_)] ⟨rfl,trivial⟩ ?_;refine j_ (F0 rfl (aga ?_));exact .inr ⟨_,trivial,hJ'⟩
  ·refine Xb ?_;refine W6 ?_;show TB 0 _ (Exit.exit 0) _ _;refine WS ?_;have wN:¬i<gR sz n:=fun h=>fN (by have:=(nU iZ).1 h;omega);obtain rfl:i=gR sz n:=by omega
   exact .inl ⟨pre,Ef,hJp⟩
 ·rintro e a w ⟨fr,ha,hq⟩;cases e<;>first
   |exact hq.elim
   |exact⟨ha.defers,_,results_none rfl _ _ _,⟨_,rfl⟩,hq⟩
variable{B:Nat}{w0:World}{F:aQ}{A:bj}{n c:Nat}
theorem MB{sz:Nat}(iZ:1≤sz):a_ B w0 121 [.slice A n c,ah sz] F (fun v L=>∃g2 g3,v= .func (.func 188) #[] #[br g2,br g3]∧L= .bE g3 3 [ah sz]:: .bE g2 27 [.slice A n c]::F):=by
 refine fw func121 9 [0,1] ?_;refine be ?_;refine bh fun g2=>?_;refine bh fun g3=>?_;refine bB ?_;refine dm fun h6=>?_;refine bB ?_;exact⟨_,_,rfl,rfl⟩
end
def u4(k:Nat)(good:List Bool)(i:Nat):bf:=((List.range i).filter fun j=>good.getD j false).take k
theorem ahm{good:List Bool}{i:Nat}(h:good.getD i false=true)(hl:(u4 k good i).length<k):u4 k good (i+1)=u4 k good i++[i]:=by
 unfold u4 at hl⊢;rw[eS]at hl;have e:((List.range i).filter fun j=>good.getD j false).length<k:=by omega
 rw[lq,Es,N8,fA aa];congr 1;rw[ud,ao ny,List.filter_nil];exact fA (by rw[qe];omega)
theorem acf{good:List Bool}{i:Nat}(hl:¬(u4 k good i).length<k):u4 k good (i+1)=u4 k good i:=by
 unfold u4 at hl⊢;rw[eS]at hl;rw[lq,Es,N8];have:k-((List.range i).filter fun j=>good.getD j false).length=0:=by omega
 rw[this,z8,gj]
theorem alM{good:List Bool}{i:Nat}(h:good.getD i false=false):u4 k good (i+1)=u4 k good i:=by
 unfold u4;rw[lq,Es,ud,aw L9,List.filter_nil,gj]
theorem I7{PB:List kS}{good:List Bool}(hl:good.length=PB.length)(hn:PB.length≤1000000)(hb:aK B w0 F 1 (.slice A PB.length c) PB.length (PB.map dq))(hg:aK B w0 F 1 (.slice A2 good.length c2) good.length (sM good)):
  a_ B w0 276 [ah (k:Int),.slice A PB.length c,.slice A2 good.length c2] F (fun v L=>∃Aa ca Al cl,v= .tuple #[.slice Aa (dG k good).length ca,.slice Al (dG k good).length cl]∧
   L= .own 27 1 Al (dG k good).length cl (((dG k good).map (PB.getD · iQ)).map dq):: .own 3 1 Aa (dG k good).length ca (bx (dG k good))::F):=by
 refine fw func276 38 [0,1,2] ?_;refine bI ?_;have hf0:(u4 k good 0).length=0:=by simp[u4]
 refine aZ 3 1 none ?_;refine aZ 27 1 none ?_;refine bK ?_;refine aE (fun zf zL zm=>∃(i:Nat) (Aa:bj) (ca:Nat) (Al:bj) (cl:Nat),(i≤PB.length)∧PB.length-i=zm∧Sub zf [(0,ah (k:Int)),(2,.slice A2 good.length c2),(6,.slice Aa (u4 k good i).length ca),(7,.slice Al (u4 k good i).length cl),(10,.slice A PB.length c),(11,ah PB.length),(12,ah (i:Int))]∧Wk zL (.own 27 1 Al (u4 k good i).length cl (((u4 k good i).map (PB.getD · iQ)).map dq):: .own 3 1 Aa (u4 k good i).length ca (bx (u4 k good i))::F)) _ ⟨0,none,0,none,0,bS _,rfl,bp,ax (by simp[u4]) (by simp[u4]) (ax (by simp[u4]) (by simp[u4,bx]) (.refl _))⟩ ?_;rintro _ _ _ ⟨i,Aa,ca,Al,cl,hi,rfl,hs,hp⟩;refine aU hs hp ?_;clear hs hp;refine bz ?_;refine aj (fun mE=>?_) fun mE=>?_
 ·have hpg:=G2 (PB:=PB) (i:=i) aa;have l9:(u4 k good i).length≤i:=by
   unfold u4;have:=BG (fun j=>good.getD j false) (List.range i);rw[wk]at this;rw[eS];omega
  refine bI ?_;refine ab (au ag rfl aA aa hpg) rfl ?_;refine cZ ?_;refine kK rfl rfl rfl (fun l0=>?_) (fun l0=>?_)
  ·refine bB ?_;refine aj (fun qc=>?_) fun qc=>?_
   ·have sQ:=ahm (k:=k) (by simpa using l0) (show(u4 k good i).length<k by omega);have ac7:(u4 k good (i+1)).length=(u4 k good i).length+1:=by rw[sQ];simp
    refine b8 ?_;refine dF fJ rfl rfl rfl rfl rfl (fun _=>rfl) aV aa aa ?_;intro _ Qf c30;refine aF ?_;refine ve [0,2,6,7,9,10,11,12] ?_;refine b8 ?_;refine dF fE rfl rfl rfl rfl rfl (fun _=>rfl) aV aa aa ?_;intro _ wv xm;refine bI ?_;refine av ⟨_,aa,i+1,Qf,c30,wv,xm,aa,rfl,bp,.trans ((ed (ed (.refl _)))) (ax (by rw[sQ];simp) (by rw[sQ];simp) (ax (by rw[sQ];simp) (by rw[sQ];simp[bx]) (.refl _)))⟩
   ·have sQ:=acf (k:=k) (good:=good) (i:=i) aa;have ac7:(u4 k good (i+1)).length=(u4 k good i).length:=by rw[sQ]
    refine bz ?_;refine ve [0,2,6,7,10,11,12] ?_;refine av ⟨_,aa,i+1,Aa,ca,Al,cl,aa,rfl,bp,ax vR vR (ax vR vR (.refl _))⟩
  ·have sQ:=alM (k:=k) (by simpa using l0);have ac7:(u4 k good (i+1)).length=(u4 k good i).length:=by rw[sQ]
   refine dc ?_;refine ve [0,2,6,7,10,11,12] ?_;refine av ⟨_,aa,i+1,Aa,ca,Al,cl,aa,rfl,bp,ax vR vR (ax vR vR (.refl _))⟩
 ·obtain rfl:i=PB.length:=by omega
  have xo:u4 k good PB.length=dG k good:=by unfold u4 dG;rw[hl]
  rw[xo];refine jk ?_;exact⟨Aa,ca,Al,cl,rfl,rfl⟩
theorem ajC(Gc:k+m≤255):a_ B w0 278 [ah (k:Int),ah (m:Int)] F (fun v L=>∃A' c',v=vz A' (k+m) k ((k+m)*k) c'∧L= .own 5 1 A' ((k+m)*k) c' (bv (lP k m))::F):=by
 refine fw func278 30 [0,1] ?_;refine be ?_;refine bc fun g4=>?_;refine bG ?_;refine ay rfl (ahN aa) fun PR c12=>?_;refine bA ?_;refine bc fun g5=>?_;refine bI ?_;refine ay rfl (Mw Gc) fun Lp c19=>?_;refine bA ?_;refine bc fun g7=>?_;refine bI ?_;refine cC (mi (size:=3) (kk:=2) (zv:=.agg #[ah 0,ah 0,.slice none 0 0]) (us:=[(0,vz PR k k (k*k) c12),(1,vz Lp m k (m*k) c19)]) (cs:=amN PR Lp k m (k*k) (m*k) c12 c19) underlying440 ag aa aa aa ag rfl ag rfl) fun Ha=>?_;refine ay rfl (ai1 (x:=NH k) (y:=Gt k m) Gc (Vq k) (Mv k m) (aK.own (.head _)) aA aA) fun tc Bn=>?_;refine bA ?_;refine bc fun g9=>?_;refine be ?_;refine ve [4,9] ?_;refine bI ?_;refine I4 rfl rfl ag aV gA ((gk (.skip (.skip (.skip (.skip (.skip (.skip (.skip (.refl _)))))))))) ?_;exact⟨tc,Bn,rfl,rfl⟩
theorem agt{PB:List kS}(e:n=PB.length)(hb:aK B w0 F 1 (.slice A n c) n (PB.map dq))(hl:PB.length≤1000000):
  a_ B w0 190 [.slice A n c] F (fun v L=>v= .bool (decide (rS (PB.map (·.2.2))))∧L=F):=by
 subst e;exact I6 hb hl
theorem ajh{PB:List kS}{cells:al}{nn:Nat}(e:n=PB.length)(hk:PB.length=k)(xp:1≤k)(hr:r≤255)(Ir:k≤255)(tB:cells.length=r*k)(Qa:nn≤1000000000)(Is:∀e∈PB,e.2.2.length=nn)(hc:aK B w0 F 1 (.slice A (r*k) c) (r*k) (bv cells))(hb:aK B w0 F 1 (.slice A2 n c2) n (PB.map dq))(hP:∀e∈PB,aK B w0 F 1 (dq e) e.2.2.length (bv e.2.2)):
  a_ B w0 192 [vz A r k (r*k) c,.slice A2 n c2] F (PtA (WY r k cells (PB.map (·.2.2)) nn) none F):=by
 subst e;exact I8 hk xp hr Ir tB Qa Is hc hb hP
set_option maxHeartbeats 1000000 in
theorem aeF{PB:List kS}{good:List Bool}{nn:Nat}(hk:1≤k)(Gc:k+m≤255)(D9:PB.length=k+m)(GM:good.length=k+m)(Qa:nn≤1000000)(Is:∀i,i<k+m→good.getD i false=true→(PB.getD i iQ).2.2.length=nn)(hb:aK B w0 F 1 (.slice A PB.length c) PB.length (PB.map dq))(hP:∀e∈PB,aK B w0 F 1 (dq e) e.2.2.length (bv e.2.2))(hg:aK B w0 F 1 (.slice A2 good.length c2) good.length (sM good)):
  a_ B w0 243 [ah (k:Int),ah (m:Int),.slice A PB.length c,.slice A2 good.length c2] F (PtA (qn k m (PB.map (·.2.2)) good).1 (some (qn k m (PB.map (·.2.2)) good).2) F):=by
 have hfm:∀j,((dG j good).map (PB.getD · iQ)).map (·.2.2)=iu j (PB.map (·.2.2)) good:=fun j=>by
  unfold iu;rw[vH];exact sb fun i _=>by rw[EV];rfl
 have xo:∀j,∀e∈(dG j good).map (PB.getD · iQ),e.2.2.length=nn∧e∈PB:=fun j e he=>by
  obtain⟨i,hi,rfl⟩:=pQ.1 he;obtain⟨h1,h2⟩:=zC i hi;exact⟨Is i aa h2,bg aa iQ⟩
 have D_:rS (iu (k+m) (PB.map (·.2.2)) good):=fun b oL=>by
  have mJ:∀x∈iu (k+m) (PB.map (·.2.2)) good,x.length=nn:=fun x hx=>by
   rw[←hfm]at hx;obtain⟨e,he,rfl⟩:=pQ.1 hx;exact(xo _ e he).1
  rw[mJ b oL,tW mJ (List.length_pos_of_mem oL)]
 have atK:(iu (k+m) (PB.map (·.2.2)) good).length=(dG (k+m) good).length:=by unfold iu;rw[eK]
 refine fw func243 118 [0,1,2,3] ?_;refine cZ ?_;refine ai rfl (Wu hk Gc) ?_;refine jQ ?_;refine aL rfl rfl rfl (fun y_=>?_) (fun y_=>?_)
 ·refine cH ?_;refine ve [0,1,2,3,43] ?_;refine aF ?_;refine dm fun Rf=>?_;refine bz ?_;refine ab (bX rfl rfl (r:=((k+m:Nat):Int)) ((bF aa aa).trans aa)) rfl ?_;refine be ?_;refine aX ajZ rfl (I7 (k:=k+m) aa aa hb hg) rfl ?_;rintro _ _ ⟨Aa,ca,Al,cl,rfl,cA⟩;obtain rfl:=cA.symm;refine cZ ?_;refine ai rfl (agt (PB:=(dG (k+m) good).map (PB.getD · iQ)) ak (aK.own (.head _)) (by have:=(xW (k+m) good);simp;unfold dG;rw[eS];omega)) ?_;refine bA ?_;refine aj (fun Yp=>?_) fun Yp=>?_
  ·exfalso;exact Yp (by rw[hfm];exact D_)
  ·refine bO ?_;refine ve [0,1,2,3,59] ?_;refine aF ?_;refine aj (fun h59=>?_) fun h59=>?_
   ·have em:qn k m (PB.map (·.2.2)) good=([],12):=by unfold qn;rw[aw (fun h=>h D_),ao aa]
    refine bI ?_;rw[em];refine aD 27 1 none ?_;refine aq (.cons (.skip (.skip (.refl _)))) ?_;refine aF ?_;exact⟨none,0,[],rfl,rfl,rfl⟩
   ·have em:qn k m (PB.map (·.2.2)) good=(oq k m (PB.map (·.2.2)) good++par m (oq k m (PB.map (·.2.2)) good),0):=by unfold qn;rw[aw (fun h=>h D_),aw aa]
    have l9:(dG k good).length=k:=by
     have:k≤(dG (k+m) good).length:=by omega
     unfold dG at this⊢;rw[eS]at this⊢;omega
    have fN:∀a,a∈dG k good→a<k+m:=fun a ha=>by have:=(zC a ha).1;omega
    have hP2:∀e∈(dG k good).map (PB.getD · iQ),e.2.2.length=nn:=fun e he=>(xo k e he).1;refine bK ?_;refine aX ajZ rfl (I7 (k:=k) aa aa hb.cons.cons hg.cons.cons) rfl ?_;rintro _ _ ⟨Aa2,ca2,Al2,cl2,rfl,cA⟩;obtain rfl:=cA.symm;refine dc ?_;refine d_ (fun zf zL=>∃(DB:List kS) (Ad:bj) (cd:Nat) (K:aQ),(DB.length=k∧(∀e∈DB,e.2.2.length=nn)∧DB.map (·.2.2)=oq k m (PB.map (·.2.2)) good∧aK B w0 K 1 (.slice Ad DB.length cd) DB.length (DB.map dq)∧(∀e∈DB,aK B w0 K 1 (dq e) e.2.2.length (bv e.2.2))∧Wk K F)∧Sub zf [(0,ah (k:Int)),(1,ah (m:Int)),(14,.slice Ad DB.length cd)]∧Wk zL (K)) ?_ ?_
    ·refine b8 ?_;refine ab (dw rfl rfl (r:=((k-1:Nat):Int)) ((bF aa aa).trans aa)) rfl ?_;refine ab (aC (i:=k-1) (size:=1) underlying53 ag rfl rfl rfl aa (aK.own (.tail _ (.head _)))) rfl ?_;refine ab (au ag rfl (aK.own (.tail _ (.head _))) aa (gb (v:=(dG k good).getD (k-1) 0) aa rfl)) rfl ?_;refine aF ?_;refine ab (dw rfl rfl (r:=((k-1:Nat):Int)) ((bF aa aa).trans aa)) rfl ?_;refine aF ?_;refine ve [0,1,12,13,14,75] ?_;refine aF ?_;refine aj (fun h75=>?_) fun h75=>?_
     ·obtain⟨b,hbi,de,_⟩:=amw (n:=k) (m:=lz k (lP k m) (dG k good)) (by rw[EW (sF k m) fN,l9]) (aek Gc l9 (xW k good) fN);have hmb:adJ k m good=b:=by unfold adJ;rw[hbi];rfl
      have mN:(lz k (lP k m) (dG k good)).length=k*k:=by rw[EW (sF k m) fN,l9]
      have hmd:oq k m (PB.map (·.2.2)) good=WY k k b (iu k (PB.map (·.2.2)) good) nn:=by
       unfold oq;rw[ao aa,hmb,←hfm,tW (n:=nn) (fun x hx=>by
        obtain⟨e,he,rfl⟩:=pQ.1 hx;exact hP2 e he) bR]
      refine b8 ?_;refine ay rfl (ajC Gc) fun A79 c79=>?_;refine aF ?_;refine ay rfl (ang (x:=lP k m) (at_:=dG k good) Gc aa (sF k m) aa fN (aK.own (.head _)) (aK.own (.tail _ (.tail _ (.head _))))) fun A81 c81=>?_;refine bA ?_;refine bc fun g15=>?_;refine bG ?_;rw[l9];refine be ?_;refine ay rfl (YW (x:=lz k (lP k m) (dG k good)) (b:=b) aa mN hbi (aK.own (.tail _ (.head _)))) fun A86 c86=>?_;refine bA ?_;refine bc fun g17=>?_;refine be ?_;refine ve [0,1,13,17] ?_;refine b8 ?_;refine aX ajU rfl (ajh (PB:=(dG k good).map (PB.getD · iQ)) (cells:=b) (nn:=nn) bR bR hk aa aa de aa hP2 (aK.own (.tail _ (.head _))) (aK.own (.tail _ (.tail _ (.tail _ (.tail _ (.tail _ (.head _))))))) (fun e he=>by have:=hP e (xo k e he).2;repeat (first|exact this|apply aK.cons))) rfl ?_;rintro _ _ ⟨A91,c91,DB,rfl,cA,hDB⟩;obtain rfl:=cA.symm;refine be ?_;exact bD ⟨DB,A91,c91,_,(by
       have hDl:DB.length=k:=by have:=dB List.length hDB;rw[eK,pM]at this;exact this
       refine⟨hDl,fun e he=>?_,by rw[hDB,hmd,hfm],aK.own (.head _),fun e he=>aK.own (.tail _ (j9 _ (jb (f:=fq) he))),?_⟩
       ·have hm:e.2.2∈WY k k b (((dG k good).map (PB.getD · iQ)).map (·.2.2)) nn:=hDB▸jb (f:=fun x:kS=>x.2.2) he;exact FL (fun x hx=>by
         obtain⟨y,hy,rfl⟩:=pQ.1 hx;exact hP2 y hy) _ hm
       ·exact .skip ((dv _ _).trans (by repeat (first|exact Wk.refl _|apply Wk.skip)))),bp,.refl _⟩
     ·have y':((dG k good).map (PB.getD · iQ)).length=(dG k good).length:=eK _;have hmd:oq k m (PB.map (·.2.2)) good=iu k (PB.map (·.2.2)) good:=by
       unfold oq;rw[aw aa]
      refine aF ?_;exact bD ⟨(dG k good).map (PB.getD · iQ),Al2,cl2,_,(by
       refine⟨by rw[eK];exact l9,hP2,by rw[hfm,hmd],?_,fun e he=>by have:=hP e (xo k e he).2;repeat (first|exact this|apply aK.cons),.skip (.skip (.skip (.skip (.refl _))))⟩;rw[eK];exact aK.own (.head _)),bp,.refl _⟩
    ·rintro _ _ ⟨DB,Ad,cd,K,⟨hDl,hDe,hDm,hDb,hDP,hKF⟩,hs,hp⟩;refine aU hs hp ?_;clear hs hp;refine b8 ?_;refine aX ajO rfl (OH (PB:=DB) (nn:=nn) hDl hk Gc aa hDe hDb hDP) rfl ?_;rintro _ _ ⟨A95,c95,FB,rfl,cA,sP⟩;obtain rfl:=cA.symm;refine cZ ?_;refine ab (bX rfl rfl (r:=((k+m:Nat):Int)) ((bF aa aa).trans aa)) rfl ?_;refine cC (fb (nn:=0) fE rfl rfl rfl rfl rfl aa aa aa) fun ak3=>?_;refine b8 ?_;refine d_ (fun zf zL=>∃(Ac:bj) (cc:Nat) (K2:aQ),(aK B w0 K2 1 (.slice Ac (DB++FB).length cc) (DB++FB).length ((DB++FB).map dq)∧(∀e∈DB++FB,aK B w0 K2 1 (dq e) e.2.2.length (bv e.2.2))∧Wk K2 F)∧Sub zf [(21,.slice ak3 0 (k+m)),(105,.slice Ac (DB++FB).length cc),(106,ah (DB++FB).length),(107,ah 0)]∧Wk zL (.own 27 1 ak3 0 (k+m) []::K2)) ?_ ?_
     ·have Rg:FB.length=m:=by have:=dB List.length sP;rw[eK,nc]at this;exact this
      have ahw:(DB++FB).length=DB.length+FB.length:=aY;refine bA ?_;refine cC (aG anE [_,_] rfl rfl cw aa aa) fun arC=>?_;refine ay rfl (ZD (V1:=DB.map dq) (V2:=FB.map dq) (aK.own (.head _)) (by have:=hDb;refine aK.cons (aK.cons (aK.cons (this.mono (gx _ _))))) (aK.own (.tail _ (.tail _ (.head _)))) E4 E4 aa aa aa) fun arD arL=>?_;refine be ?_;refine ve [21,105,106,107] ?_;exact bD ⟨arD,arL,_,(by
       rw[ahw];refine⟨by rw[ja];exact aK.own (.head _),fun e he=>?_,?_⟩
       ·rcases dz.1 he with he|he
        ·have:=(hDP e he).mono (gx (FB.map fq) _);repeat (first|exact this|apply aK.cons)
        ·exact aK.own (.tail _ (.tail _ (.tail _ (j9 _ (jb (f:=fq) he)))))
       ·exact .skip (.skip (.skip ((dv _ _).trans hKF)))),bp,(rQ (ed (ed (.refl _))))⟩
     ·rintro _ _ ⟨Ac,cc,K2,⟨Yy,hcP,Rh⟩,hs,hp⟩;refine aU hs hp ?_;clear hs hp;have Rg:FB.length=m:=by have:=dB List.length sP;rw[eK,nc]at this;exact this
      have ahw:(DB++FB).length=k+m:=by rw[aY];omega
      have acz:(DB++FB).map (·.2.2)=oq k m (PB.map (·.2.2)) good++par m (oq k m (PB.map (·.2.2)) good):=by rw[ja,sP,hDm]
      have ap':∀e∈DB++FB,e.2.2.length=nn:=fun e he=>by
       rcases dz.1 he with he|he
       ·exact hDe e he
       ·have hm:e.2.2∈par m (DB.map (·.2.2)):=sP▸jb (f:=fun x:kS=>x.2.2) he;exact yF bR (fun x hx=>by
         obtain⟨y,hy,rfl⟩:=pQ.1 hx;exact hDe y hy) _ hm
      obtain⟨AB,hAB⟩:=cK (DB++FB);rw[←hAB]at Yy hcP ahw acz ap'⊢;refine aF ?_;refine aE (fun zf zL zm=>∃(i:Nat) (Ao:bj) (co:Nat) (OB:List kS),(i≤AB.length∧OB.length=i∧OB.map (·.2.2)=(AB.map (·.2.2)).take i)∧AB.length-i=zm∧Sub zf [(21,.slice Ao OB.length co),(105,.slice Ac AB.length cc),(106,ah AB.length),(107,ah (i:Int))]∧Wk zL (.own 27 1 Ao OB.length co (OB.map dq)::(OB.map fq++K2))) _ ⟨0,ak3,k+m,[],⟨bS _,rfl,rfl⟩,rfl,bp,.refl _⟩ ?_;rintro _ _ _ ⟨i,Ao,co,OB,⟨hi,hOl,hOm⟩,rfl,hs,hp⟩;refine aU hs hp ?_;clear hs hp;refine bz ?_;refine aj (fun ar4=>?_) fun ar4=>?_
      ·have Rw:=G2 (PB:=AB) (i:=i) aa;have pW:=bg (l:=AB) (show i<AB.length by omega) iQ;have ua:(AB.map (·.2.2)).take (i+1)=(AB.map (·.2.2)).take i++[(AB.getD i iQ).2.2]:=by rw[ba bR [],EV]
       obtain⟨P,hPe⟩:=cK (AB.getD i iQ);rw[←hPe]at Rw pW ua;have hlP:=ap' P pW;have hbP:aK B w0 (OB.map fq++K2) 1 (dq P) P.2.2.length (bv P.2.2):=(hcP P pW).mono (gx _ _);have asv:aK B w0 (OB.map fq++K2) 1 (.slice Ac AB.length cc) AB.length (AB.map dq):=Yy.mono (gx _ _);refine bK ?_;refine ab (au ag rfl asv.cons aa Rw) rfl ?_;refine bz ?_;refine ay rfl (ux (l:=P.2.2) rfl rfl hbP.cons aa) fun aaL abo=>?_;refine dF fE rfl rfl rfl rfl rfl (fun _=>rfl) aV aa aa ?_;intro _ an_ aoX;refine bI ?_;have wR:(OB++[((aaL,abo,P.2.2):kS)]).length=OB.length+1:=by simp
       refine av ⟨_,aa,i+1,an_,aoX,OB++[((aaL,abo,P.2.2):kS)],⟨aa,bR,by rw[ja,hOm,ua];rfl⟩,rfl,bp,.trans (qv (PB:=OB) (F:=K2) (e:=((aaL,abo,P.2.2):kS)) [.own 27 1 an_ (OB.length+1) aoX (OB.map dq++[dq ((aaL,abo,P.2.2):kS)])]) (ax ak ak (.refl _))⟩
      ·obtain rfl:i=AB.length:=by omega
       rw[fA ak]at hOm;refine dc ?_;rw[em];refine aq (.cons (Li Rh _)) ?_;refine aF ?_;exact⟨Ao,co,OB,rfl,rfl,by rw[hOm,acz]⟩
 ·exfalso;omega
theorem Um{sz p:Nat}(h:1≤sz):gR sz (p*sz)=p:=by
 unfold gR;rw[sT,Nat.add_mul_div_right _ _ aa,BB aa,mw]
theorem aaX{sz p:Nat}(h1:1≤sz)(h2:sz≤10000)(hp:p≤100000)(hnc:p*sz≤c):
  a_ B w0 187 [.slice none 0 0,.func (.func 188) #[] #[br gp,br gq]] (.bE gq 3 [ah sz]:: .bE gp 27 [.slice A (p*sz) c]::F)
   (fun v L=>∃A' c',v= .slice A' p c'∧L= .own 27 1 A' p c' ((List.range p).map fun i=>Gu A sz (p*sz) i):: .bE gq 3 [ah sz]:: .bE gp 27 [.slice A (p*sz) c]::F):=by
 have hN:gR sz (p*sz)=p:=Um h1;have hps:p*sz≤100000*10000:=gL hp h2;refine xX func187 13 rfl rfl rfl [(0,.slice none 0 0),(1,.func (.func 188) #[] #[br gp,br gq])] ⟨⟨rfl,rfl⟩,⟨rfl,rfl⟩,trivial⟩ ?_;refine qL ?_;refine aF ?_;refine bh fun g2=>?_;refine be ?_;refine lF ?_;refine Lf ?_;refine aZ 27 1 none ?_;refine bA ?_;refine lF ?_;refine FV (N:=gR sz (p*sz)) ajT rfl rfl rfl (fun i:Fin (gR sz (p*sz))=>Gu A sz (p*sz) i.val) (fun xs=>xs.map (·.val)=List.range (gR sz (p*sz))) (fun _=>True) [.bE gp 27 [.slice A (p*sz) c],.bE gq 3 [ah sz]]
  (fun w hw=>xI h1 h2 aa hnc (fun e=>by have:=(kE.1 (kE.1 (kE.1 hw.apart).2).2).1 _ rn;subst e;rcases this with h|h<;>simp[Ch.fp]at h) w (hw.all _ (lr _ (lr _ (lr _ rn)))) (hw.all _ (lr _ (lr _ rn))))
  (fun(_:List (Fin (gR sz (p*sz)))) (_:bj×Nat)=>True) (fun pre s=>.bE g2 52 [.slice s.1 pre.length s.2]:: .own 27 1 s.1 pre.length s.2 (pre.map fun x=>Gu A sz (p*sz) x.val):: .bE gq 3 [ah sz]:: .bE gp 27 [.slice A (p*sz) c]::F)
  (fun pre s q hq=>by simp only[KN hq,KM hq]) (fun q hq=>by
   simp only[fk,mv,oj]at hq;rcases hq with rfl|rfl
   ·exact⟨rfl,fun pre s=>lr _ (lr _ (lr _ rn))⟩
   ·exact⟨rfl,fun pre s=>lr _ (lr _ rn)⟩)
  (none,0) trivial ((gk (ed (.refl _)))) ?_ ?_
 ·rintro l' pre x ⟨A7,c7⟩ w1 _ mN acI F';have RF:pre.length<p:=Nat.lt_of_lt_of_eq mN hN;have hmp:(pre++[x]).map (fun x=>Gu A sz (p*sz) x.val)=pre.map (fun x=>Gu A sz (p*sz) x.val)++[Gu A sz (p*sz) x.val]:=by simp
  have y':(pre++[x]).length=pre.length+1:=by simp
  simp only[nI,hmp,y'];refine FY ?_;refine nm ag ?_;refine be ?_;refine dF fE rfl rfl rfl rfl rfl (fun _=>rfl) aV aa aa ?_;intro _ tG xl;refine be ?_;refine nq ?_;exact⟨(tG,xl),trivial,.refl _⟩
 ·rintro D xs ⟨A7,c7⟩ hS _;have Qc:xs.length=p:=by have:=dB List.length hS;rw[eK,wk]at this;exact this.trans hN
  have hxm:xs.map (fun x=>Gu A sz (p*sz) x.val)=(List.range p).map fun i=>Gu A sz (p*sz) i:=by
   have e:List.range (gR sz (p*sz))=List.range p:=dB List.range hN;rw[←hS.trans e,vH];rfl
  simp only[Qc,hxm];refine af9 ?_;refine bA ?_;refine nq ?_;refine af8 rfl (.refl _) ?_;refine aq (.skip (.refl _)) ?_;refine aF ?_;exact⟨A7,c7,rfl,rfl⟩
theorem XO{sz p:Nat}(h1:1≤sz)(h2:sz≤10000)(hp:p≤100000)(hnc:p*sz≤c):
  a_ B w0 120 [.func (.func 188) #[] #[br gp,br gq]] (.bE gq 3 [ah sz]:: .bE gp 27 [.slice A (p*sz) c]::F)
   (fun v L=>∃A' c',v= .slice A' p c'∧L= .own 27 1 A' p c' ((List.range p).map fun i=>Gu A sz (p*sz) i):: .bE gq 3 [ah sz]:: .bE gp 27 [.slice A (p*sz) c]::F):=by
 refine fw func120 5 [0] ?_;refine bI ?_;refine ay rfl (aaX h1 h2 hp hnc) fun A4 c4=>?_;refine bG ?_;exact⟨A4,c4,rfl,rfl⟩
theorem xF(sz:Nat):∀(p i:Nat) (x:al),i<p→(mH sz p x).getD i []=(x.drop (i*sz)).take sz
 |0,_,_,h=>by omega
 |p+1,0,x,_=>by rw[mH,se];rfl
 |p+1,i+1,x,h=>by
  have:=xF sz p i (x.drop sz) aa;rw[mH,BE,this,qh,kD,sT sz]
theorem Uj{l:al}(hb:eM B w0 F A c l){sz i:Nat}(hz:1≤sz)(hi:i*sz+sz≤l.length):aK B w0 F 1 (.slice (A.map (·.add (i*sz))) sz sz) sz (bv ((l.drop (i*sz)).take sz)):=fun w hs=>by
 obtain⟨A',c',e,h1,h2,h3⟩:=hb w hs;obtain⟨rfl,_,rfl⟩:A=A'∧True∧c=c':=by injection e with a b d;exact⟨a,trivial,d⟩
 obtain⟨ad,rfl,h4,h5⟩:=h3 aa;refine⟨_,sz,rfl,gi _,bR,fun _=>⟨_,rfl,aoI,fun j u hu=>?_⟩⟩;have hu':(bv l)[i*sz+j]? =some u:=by
  rw[←jX,←js,GS]at hu;split at hu
  ·rw[k_7]at hu;exact hu
  ·cases hu
 have:=h5 _ _ hu';show w.cell? ((ad.add (i*sz)).add j)=some u;rw[lG];exact this
def chP(A:bj)(sz p:Nat)(x:al):List kS:=(List.range p).map fun i=>(A.map (·.add (i*sz)),sz,(mH sz p x).getD i [])
theorem QG(A:bj)(sz p:Nat)(x:al):(chP A sz p x).length=p:=by simp[chP]
theorem zk(A:bj)(sz p:Nat)(x:al):(chP A sz p x).map (·.2.2)=mH sz p x:=by
 unfold chP;rw[vH]
 conv=>rhs;rw[←pC (mH sz p x),kr]
 rfl
theorem abr{A:bj}{sz p:Nat}{x:al}(hx:x.length=p*sz):(chP A sz p x).map dq=(List.range p).map fun i=>Gu A sz (p*sz) i:=by
 unfold chP;rw[vH];refine sb fun i hi=>?_;have hi:=kB.1 hi;have h1:=fL (k:=sz) hi;show Value.slice _ ((mH sz p x).getD i []).length _=_;rw[xF sz p i x hi,eS,iG];unfold Gu xn;rw[show min sz (p*sz-i*sz)=sz by omega,show min sz (x.length-i*sz)=sz by omega]
theorem Un{sz p:Nat}{x:al}(hz:1≤sz)(hx:x.length=p*sz)(hb:eM B w0 F A c x):∀e∈chP A sz p x,aK B w0 F 1 (dq e) e.2.2.length (bv e.2.2):=fun e he=>by
 obtain⟨i,hi,rfl⟩:=pQ.1 he;have hi:=kB.1 hi;have h1:=fL (k:=sz) hi;have:=Uj hb hz (i:=i) aa;show aK B w0 F 1 (.slice _ ((mH sz p x).getD i []).length sz) ((mH sz p x).getD i []).length (bv ((mH sz p x).getD i []));rw[xF sz p i x hi];have hl:((x.drop (i*sz)).take sz).length=sz:=by rw[eS,iG];omega
 rw[hl];exact this
theorem agY{sz p:Nat}{x:al}(hx:x.length=p*sz):∀e∈chP A sz p x,e.2.2.length=sz:=fun e he=>by
 have hm:e.2.2∈mH sz p x:=by rw[←zk A];exact jb (f:=fun y:kS=>y.2.2) he
 exact qT sz p x hx _ hm
section
variable{ch:Nat}
abbrev ShV(k m ch:Nat):Value:=.agg #[ah (k:Int),ah (m:Int),ah (ch:Int)]
structure Gp(k m ch:Nat):Prop where
 k1:1≤k
 km:k+m≤255
 c1:1≤ch
 c2:ch≤4096
theorem Gp.kc(h:Gp k m ch):1≤k*ch∧k*ch≤255*4096:=
 ⟨N4 h.k1 h.c1,gL (by have:=h.km;omega) h.c2⟩
theorem Gp.laid(h:Gp k m ch):1≤(k+m)*(ch+4)∧(k+m)*(ch+4)≤255*4100:=
 ⟨N4 (by have:=h.k1;omega) aa,gL h.km (by have:=h.c2;omega)⟩
theorem WI(k ch n:Nat):lN k ch n≤n+k*ch:=jc (ri _ _) aa
theorem yM(h:Gp k m ch):a_ B w0 119 [ShV k m ch] F (fun v L=>v=ah ((k*ch:Nat):Int)∧L=F):=by
 have h1:=h.km;have h2:=h.c2;refine cm func119 8 rfl rfl rfl [(0,.agg #[ah (k:Int),ah (m:Int),ah (ch:Int)])] ⟨⟨rfl,rfl⟩,trivial⟩ ?_;refine be ?_;refine bh fun g1=>?_;refine bO ?_;refine ab (eZ rfl rfl (r:=((k*ch:Nat):Int)) (EM aa aa)) rfl ?_;refine b8 ?_;refine aq (.skip (.refl _)) ?_;refine aF ?_;exact⟨rfl,rfl⟩
theorem KZ(h:Gp k m ch):a_ B w0 186 [ShV k m ch] F (fun v L=>v=ah (((k+m)*(ch+4):Nat):Int)∧L=F):=by
 have h1:=h.km;have h2:=h.c2;refine cm func186 12 rfl rfl rfl [(0,.agg #[ah (k:Int),ah (m:Int),ah (ch:Int)])] ⟨⟨rfl,rfl⟩,trivial⟩ ?_;refine be ?_;refine bh fun g1=>?_;refine bO ?_;refine ab (bX rfl rfl (r:=((k+m:Nat):Int)) ((bF aa aa).trans aa)) rfl ?_;refine be ?_;refine ab (bX rfl rfl (r:=((ch+4:Nat):Int)) ((bF aa aa).trans aa)) rfl ?_;refine ab (eZ rfl rfl (r:=(((k+m)*(ch+4):Nat):Int)) (EM aa aa)) rfl ?_;refine b8 ?_;refine aq (.skip (.refl _)) ?_;refine aF ?_;exact⟨rfl,rfl⟩
theorem aeZ(h:Gp k m ch)(hn:n≤1000000000):a_ B w0 118 [ShV k m ch,ah (n:Int)] F (fun v L=>v=ah ((lN k ch n:Nat):Int)∧L=F):=by
 have hkc:=h.kc;refine cm func118 13 rfl rfl rfl [(0,.agg #[ah (k:Int),ah (m:Int),ah (ch:Int)]),(1,ah (n:Int))] ⟨⟨rfl,rfl⟩,⟨rfl,rfl⟩,trivial⟩ ?_;refine be ?_;refine bh fun g2=>?_;refine bK ?_;refine jz ajN rfl (yM h) wB rfl ?_;refine bZ (bX rfl rfl (r:=((n+k*ch:Nat):Int)) ((bF aa aa).trans aa)) rfl ?_;refine bZ (dw rfl rfl (r:=((n+k*ch-1:Nat):Int)) ((bF aa aa).trans aa)) rfl ?_;refine aF ?_;refine jz ajN rfl (yM h) wB rfl ?_;refine bZ (mh rfl rfl aa (r:=((lN k ch n:Nat):Int)) (aq4 aa)) rfl ?_;refine b8 ?_;refine aq (.skip (.refl _)) ?_;refine aF ?_;exact⟨rfl,rfl⟩
theorem anG(h:Gp k m ch):a_ B w0 185 [ShV k m ch,ah (n:Int)] F (fun v L=>v= .bool (decide (n≤8388608))∧L=F):=by
 obtain⟨h1,h2,h3,h4⟩:=h;refine cm func185 44 rfl rfl rfl [(0,.agg #[ah (k:Int),ah (m:Int),ah (ch:Int)]),(1,ah (n:Int))] ⟨⟨rfl,rfl⟩,⟨rfl,rfl⟩,trivial⟩ ?_;refine be ?_;refine bh fun g2=>?_;refine bO ?_;refine cM (fun h8=>?_) fun h8=>?_
 ·refine bK ?_;refine cM (fun mE=>?_) fun mE=>?_
  ·refine bK ?_;refine cM (fun jj=>?_) fun jj=>?_
   ·refine dc ?_;refine cM (fun qc=>?_) fun qc=>?_
    ·refine bK ?_;refine cM (fun D8=>?_) fun D8=>?_
     ·refine bK ?_;refine cM (fun y_=>?_) fun y_=>?_
      ·refine bG ?_;refine cM (fun h40=>?_) fun h40=>?_
       ·refine bG ?_;refine ve [4] ?_;refine be ?_;refine aq (.skip (.refl _)) ?_;refine aF ?_;exact⟨dB _ (sc.2 aa),rfl⟩
       ·exfalso;omega
      ·exfalso;omega
     ·exfalso;omega
    ·exfalso;omega
   ·exfalso;omega
  ·exfalso;omega
 ·exfalso;omega
theorem O'(h:Gp k m ch)(hn:n≤8388608):jg k m ch n≤10000000*2000000:=by
 have:=WI k ch n;have hk:=h.kc;have hl:=h.laid;exact gL aa aa
theorem ark(h:Gp k m ch)(hn:n≤8388608):IntKind.i64.wrap (((lN k ch n:Nat):Int)*(((k+m)*(ch+4):Nat):Int))=((jg k m ch n:Nat):Int):=by
 have:=O' h hn;have e:((lN k ch n:Nat):Int)*(((k+m)*(ch+4):Nat):Int)=((jg k m ch n:Nat):Int):=(z6 _ _).symm;rw[e];exact bF aa aa
theorem WG(h:Gp k m ch)(hn:n≤9223372036854775807):a_ B w0 117 [ah (k:Int),ah (m:Int),ah (ch:Int),ah (n:Int)] F (fun v L=>v= .tuple #[ah (((if zd k m ch n=0 then jg k m ch n else 0:Nat)):Int),ah (zd k m ch n)]∧L=F):=by
 have hl:=h.laid;refine fw func117 29 [0,1,2,3] ?_;refine cZ ?_;refine ab (eG [(0,_),(1,_),(2,_)] [_,_,_] rfl rfl ag) rfl ?_;refine bc fun g10=>?_;refine bI ?_;refine ai rfl (anG h) ?_;refine bA ?_;refine aj (fun pV=>?_) fun pV=>?_
 ·have e:zd k m ch n=13:=by unfold zd;rw[ao aa]
  refine bI ?_;refine aq (.skip (.refl _)) ?_;refine aF ?_;exact⟨by rw[e,aw aa];rfl,rfl⟩
 ·have tY:n≤8388608:=bH pV;have iZ:=O' h tY;have e:zd k m ch n=if 16777216<jg k m ch n then 6 else 0:=by unfold zd;rw[aw aa]
  refine bz ?_;refine jz aoZ rfl (aeZ h aa) wB rfl ?_;refine aF ?_;refine jz ao' rfl (KZ h) wB rfl ?_;refine bZ (eZ rfl rfl (r:=((jg k m ch n:Nat):Int)) (ark h tY)) rfl ?_;refine aF ?_;refine nj [(11,_)] ⟨rfl,trivial⟩ ?_;refine bI ?_;refine aj (fun kg=>?_) fun kg=>?_
  ·rw[ao aa]at e;refine bI ?_;refine aq (.skip (.refl _)) ?_;refine aF ?_;exact⟨by rw[e,aw aa];rfl,rfl⟩
  ·rw[aw aa]at e;refine bB ?_;refine aq (.skip (.refl _)) ?_;refine aF ?_;exact⟨by rw[e,ao rfl],rfl⟩
end
section
variable{ch:Nat}
theorem aec{PB:List kS}{nn:Nat}(e:n=PB.length)(hk:PB.length=k)(xp:1≤k)(Gc:k+m≤255)(Qa:nn≤1000000000)(Is:∀e∈PB,e.2.2.length=nn)(hb:aK B w0 F 1 (.slice A2 n c2) n (PB.map dq))(hP:∀e∈PB,aK B w0 F 1 (dq e) e.2.2.length (bv e.2.2)):
  a_ B w0 122 [ah (m:Int),.slice A2 n c2] F (PtA (par m (PB.map (·.2.2))) (some 0) F):=by
 subst e;exact OH hk xp Gc Qa Is hb hP
theorem Y7{f:Nat}{x:al}:uj k m ch (f+1) x=G6 k m ch (x.take (k*ch))++uj k m ch f (x.drop (k*ch)):=rfl
theorem abK{b:al}{N:Nat}(h:b.length≤N):(bv b).take (min b.length N)++(List.replicate N (Value.int .u8 0)).drop (min b.length N)=bv (b++List.replicate (N-b.length) 0):=by
 rw[zb h,List.drop_replicate,fA ak];simp[bv]
theorem J9{l:eH}{q:Nat}(hq:q<l.length):(l.take (q+1)).flatMap cX=(l.take q).flatMap cX++cX (l.getD q []):=by
 rw[ba hq [],uf];simp
theorem atg{u v a b x y:Ch}{M K:aQ}:(u::v::(M++a::b::x::y::K)).Perm (x::y::u::v::(M++a::b::K)):=by
 have h1:(a::b::x::y::K).Perm ([x,y]++(a::b::K)):=om [a,b] [x,y] K;have h2:(M++a::b::x::y::K).Perm ([x,y]++(M++a::b::K)):=(h1.append_left M).trans (om M [x,y] _);exact((h2.cons v).cons u).trans (om [u,v] [x,y] (M++a::b::K))
set_option maxHeartbeats 1000000 in
theorem anF(HT:bL B w0)(h:Gp k m ch){b:al}(hb:eM B w0 F A c b)(de:b.length≤1000000000000000):
  a_ B w0 66 [ah (k:Int),ah (m:Int),ah (ch:Int),.slice A b.length c] F (fun v L=>∃A' c',v= .tuple #[.slice A' (p6 k m ch b).1.length c',ah (p6 k m ch b).2]∧L= .own 5 1 A' (p6 k m ch b).1.length c' (bv (p6 k m ch b).1)::F):=by
 obtain⟨k1,km,ch1,ch2⟩:=h;have h:Gp k m ch:=⟨k1,km,ch1,ch2⟩
 have hkc:=h.kc;have Ge:=h.laid;have mN:=uD (k:=k) (ch:=ch) aa b;have wN:=CR (k:=k) (ch:=ch) (n:=b.length) aa;refine fw func66 83 [0,1,2,3] ?_;refine dc ?_;refine ai rfl (WG h aa) ?_;refine dQ ?_;refine aj (fun Bu=>?_) fun Bu=>?_
 ·have e:p6 k m ch b=([],zd k m ch b.length):=by unfold p6;rw[ao Bu]
  refine bG ?_;refine ve [8,9] ?_;refine bA ?_;refine aD 5 1 none ?_;refine aF ?_;rw[e];exact⟨none,0,rfl,rfl⟩
 ·have e0:zd k m ch b.length=0:=bH Bu;have e:p6 k m ch b=(uj k m ch (lN k ch b.length) (sn k ch b),0):=by unfold p6;rw[aw Bu]
  have GK:b.length≤8388608:=by
   refine bH fun hh=>?_;unfold zd at e0;rw[ao aa]at e0;exact absurd e0 aB
  have ac9:jg k m ch b.length≤16777216:=by
   refine bH fun hh=>?_;unfold zd at e0;rw[aw aa,ao aa]at e0;exact absurd e0 aB
  rw[ao e0];have Yv:=WI k ch b.length;obtain⟨S,hS⟩:=cK (lN k ch b.length);obtain⟨D,hD⟩:=cK (k*ch);obtain⟨Ld,Vc⟩:=cK ((k+m)*(ch+4));have hSd:S*D≤10000000*1044480:=gL aa aa;have atQ:S*Ld≤16777216:=by rw[hS,Vc];exact ac9
  rw[←hS,←hD]at mN wN;rw[←hS]at e Yv;rw[←hD]at hkc Yv;rw[←Vc]at Ge;have hpe:sn k ch b=b++List.replicate (S*D-b.length) 0:=by unfold sn;rw[hS,hD]
  refine bK ?_;refine ab (eG [(0,_),(1,_),(2,_)] [_,_,_] rfl rfl ag) rfl ?_;refine bc fun Ij=>?_;refine aF ?_;refine ve [1,2,3,10,12] ?_;refine be ?_;refine cF (.bE Ij 195 [ah (k:Int),ah (m:Int),ah (ch:Int)]::F) ?_;refine ae 0 ?_;refine ae 1 ?_;refine ae 2 ?_;refine ae 4 ?_;refine az 3 ?_;refine iW rfl rfl (aeZ (n:=b.length) h aa) ?_;refine az 5 ?_;refine iW rfl rfl (yM h) ?_;refine aW 6 rfl (eZ rfl rfl (r:=((S*D:Nat):Int)) (by rw[←hS,←hD,←z6];exact bF aa aa)) ?_;refine az 7 ?_;refine cR rfl (fb (nn:=S*D) (cc:=S*D) cD rfl rfl rfl rfl rfl aa aa aa) fun Lr=>?_;refine ae 8 ?_;refine bz ?_;refine lO (H8 cD .hd rfl rfl (hb.cons.cons) (qz _)) rfl ?_;rintro _ _ ⟨rfl,rfl⟩;refine bA ?_;rw[abK wN,←hpe];refine fP ((l_ (fR (.refl _)))) ?_;obtain⟨K,hK⟩:=cK (.own 5 1 Lr (S*D) (S*D) (bv (sn k ch b))::F);have hbK:aK B w0 K 1 (.slice Lr (sn k ch b).length (S*D)) (sn k ch b).length (bv (sn k ch b)):=by rw[mN,hK];exact aK.own (.head _)
  have hKF:Wk K F:=by rw[hK];exact .skip (.refl _)
  rw[←hK,show(Value.slice Lr (S*D) (S*D))= .slice Lr (sn k ch b).length (S*D) by rw[mN]];refine be ?_;refine cC (fb (nn:=0) (cc:=jg k m ch b.length) cD rfl rfl rfl rfl rfl aa aa aa) fun A48=>?_;refine bG ?_;refine aE (fun zf zL zm=>∃(j:Nat) (R:al) (Ar:bj) (cr:Nat) (Ao:bj) (co:Nat) (acc:al),(j≤S∧R.length=(S-j)*D∧R.length≤cr∧aK B w0 K 1 (.slice Ar R.length cr) R.length (bv R)∧acc.length=j*Ld∧acc++uj k m ch (S-j) R=uj k m ch S (sn k ch b))∧S-j=zm∧Sub zf [(1,ah (m:Int)),(2,ah (ch:Int)),(12,br Ij),(13,.slice Ar R.length cr),(14,.slice Ao acc.length co)]∧Wk zL (.own 5 1 Ao acc.length co (bv acc):: .bE Ij 195 [ah (k:Int),ah (m:Int),ah (ch:Int)]::K)) _ ⟨0,sn k ch b,Lr,S*D,A48,jg k m ch b.length,[],⟨bS _,by rw[Eo];exact mN,aa,hbK,ak,by rw[Eo];rfl⟩,rfl,bp,ax rfl rfl (.refl _)⟩ ?_;rintro _ _ _ ⟨j,R,Ar,cr,Ao,co,acc,⟨hj,Ve,hRc,Vd,D_,mI⟩,rfl,hs,hp⟩;refine aU hs hp ?_;clear hs hp;refine bI ?_;refine aj (fun h51=>?_) fun h51=>?_
  ·have hjS:j<S:=by
    refine bH fun hh=>?_;have:S-j=0:=by omega
    rw[this,se]at Ve;omega
   have hSj:S-j=(S-(j+1))+1:=by omega
   rw[hSj,kD]at Ve;rw[hSj,Y7,←hD]at mI;have hLj:(j+1)*Ld≤S*Ld:=oA _ hjS;rw[kD]at hLj;obtain⟨X,hX⟩:=cK (R.take D);have Vf:X.length=D:=by rw[hX,eS];omega
   have hXk:X.length=k*ch:=by rw[Vf,hD]
   have hXb:aK B w0 K 1 (.slice Ar D cr) D (bv X):=by
    have:=Vd.iY (k:=D) aa;rw[cE,jX,←hX]at this;exact this
   have aqc:aK B w0 K 1 (.slice Ar X.length cr) X.length (bv X):=by rw[Vf];exact hXb
   have ac7:=Fv (m:=m) k1 hXk;rw[←Vc]at ac7;rw[←hX]at mI;have hcP:=QG Ar ch k X;refine bK ?_;refine ai rfl (yM h) ?_;refine ab (bN (i:=k*ch) (size:=1) underlying27 ag rfl rfl rfl aa) rfl ?_;refine aF ?_;refine ay rfl (MB ch1) fun gp gq=>?_;refine ay rfl (XO (p:=k) ch1 aa aa aa) fun A58 c58=>?_;refine b8 ?_;rw[←abr (A:=Ar) hXk];refine bA ?_;refine aX ajO rfl (aec (PB:=chP Ar ch k X) (nn:=ch) hcP.symm hcP k1 km aa (agY hXk) (aK.own (.head _)) (fun e he=>by have:=Un ch1 hXk aqc e he;exact this.cons.cons.cons.cons.cons)) rfl ?_;rintro _ _ ⟨A62,c62,FB,rfl,cA,sP⟩;obtain rfl:=cA.symm;refine bG ?_;refine ve [1,2,12,13,14,15,16] ?_;refine be ?_;refine d_ (fun zf zL=>∃(A67:bj) (c67:Nat) (AB:List kS) (K2:aQ),(AB.length=k+m∧AB.map (·.2.2)=Cl k m ch X∧aK B w0 K2 1 (.slice A67 AB.length c67) AB.length (AB.map dq)∧(∀e∈AB,aK B w0 K2 1 (dq e) e.2.2.length (bv e.2.2))∧Wk K2 K)∧Sub zf [(1,ah (m:Int)),(2,ah (ch:Int)),(12,br Ij),(13,.slice Ar R.length cr),(14,.slice Ao acc.length co),(67,.slice A67 AB.length c67),(68,ah AB.length),(69,ah 0)]∧Wk zL (.own 5 1 Ao acc.length co (bv acc):: .bE Ij 195 [ah (k:Int),ah (m:Int),ah (ch:Int)]::K2)) ?_ ?_
   ·rw[zk]at sP;have Rg:FB.length=m:=by have:=dB List.length sP;rw[eK,nc]at this;exact this
    refine fP ((List.perm_middle.cons _).trans (.swap ..)) ?_;refine bA ?_;refine fM (bT fE rfl aV rfl (aK.own (.tail _ (.head _))) E4 aa aa) fun A67 c67=>?_;refine bA ?_;have hl:(chP Ar ch k X++FB).length=k+m:=by rw[aY];omega
    exact bD ⟨A67,c67,chP Ar ch k X++FB,_,(by
     refine⟨hl,by rw[ja,zk,sP];rfl,?_,?_,?_⟩
     ·rw[hl,ja,show k+m=k+FB.length by omega];exact aK.own (.head _)
     ·intro e he;rcases dz.1 he with he|he
      ·exact(Un ch1 hXk aqc e he).mono (.cons _ (.cons _ (.trans (.cons _ (.cons _ (.refl _))) (gx _ _))))
      ·exact aK.own (.tail _ (.tail _ (j9 _ (jb (f:=fq) he))))
     ·exact .skip (.skip ((dv _ _).trans (.skip (.skip (.refl _)))))),bp,.dE atg⟩
   ·rintro _ _ ⟨A67,c67,AB,K2,⟨ahw,acz,asi,ash,Rh⟩,hs,hp⟩;refine aU hs hp ?_;clear hs hp;have hPe:∀e∈AB,e.2.2.length=ch:=fun e he=>AV k1 hXk _ (acz▸jb (f:=fun y:kS=>y.2.2) he);refine aF ?_;refine aE (fun zf zL zm=>∃(q:Nat) (Aq:bj) (cq:Nat) (B5:al),(q≤AB.length∧B5=acc++((AB.map (·.2.2)).take q).flatMap cX∧B5.length=acc.length+q*(ch+4))∧AB.length-q=zm∧Sub zf [(1,ah (m:Int)),(2,ah (ch:Int)),(12,br Ij),(13,.slice Ar R.length cr),(14,.slice Aq B5.length cq),(67,.slice A67 AB.length c67),(68,ah AB.length),(69,ah (q:Int))]∧Wk zL (.own 5 1 Aq B5.length cq (bv B5):: .bE Ij 195 [ah (k:Int),ah (m:Int),ah (ch:Int)]::K2)) _ ⟨0,Ao,co,acc,⟨bS _,ak,ak⟩,rfl,bp,.refl _⟩ ?_;rintro _ _ _ ⟨q,Aq,cq,B5,⟨hq,aj',atX⟩,rfl,hs,hp⟩;refine aU hs hp ?_;clear hs hp;refine bz ?_;refine aj (fun h70=>?_) fun h70=>?_
    ·have Rw:=G2 (PB:=AB) (i:=q) aa;have pW:=bg (l:=AB) (show q<AB.length by omega) iQ;have hft:=J9 (l:=AB.map (·.2.2)) (q:=q) bR;rw[EV]at hft;obtain⟨P,hP⟩:=cK (AB.getD q iQ);rw[←hP]at Rw pW hft;have hlP:=hPe P pW;have hbP:=ash P pW;have hqL:(q+1)*(ch+4)≤(k+m)*(ch+4):=oA _ aa;rw[kD,←Vc]at hqL;have hpp:=du P.2.2;refine bK ?_;refine ab (au ag rfl asi.cons.cons aa Rw) rfl ?_;refine bz ?_;refine ay rfl (qB HT (l:=P.2.2) hbP.cons.cons aa) fun A75 c75=>?_;refine fM (bT cD rfl aV rfl aA cw aa aa) fun A76 c76=>?_;refine bI ?_;have rO:(B5++cX P.2.2).length=B5.length+(cX P.2.2).length:=aY;refine av ⟨_,aa,q+1,A76,c76,B5++cX P.2.2,⟨aa,by rw[hft,aj',bV],by rw[rO,kD];omega⟩,rfl,bp,.skip (ax ak ak (.refl _))⟩
    ·obtain rfl:q=AB.length:=by omega
     have aqE:B5=acc++G6 k m ch X:=by
      rw[aj',fA ak,acz];rfl
     have asm:B5.length=(j+1)*Ld:=by rw[kD,aqE,aY,ac7];omega
     refine bI ?_;refine ai rfl (yM h) ?_;refine ab (bQ (i:=k*ch) (size:=1) underlying27 ag rfl rfl rfl aa) rfl ?_;refine bA ?_;have Bw:(R.drop D).length=(S-(j+1))*D:=by rw[iG];omega
     have hcut:=Vd.cut (k:=D) aa;rw[cE,js]at hcut;have acC:R.length-D=(R.drop D).length:=by rw[iG]
     rw[acC]at hcut;rw[←hD,acC,cE D];refine av ⟨_,aa,j+1,R.drop D,_,_,Aq,cq,B5,(by exact⟨hjS,Bw,aa,hcut,asm,by rw[aqE,bV];exact mI⟩),rfl,bp,.cons (.cons Rh)⟩
  ·have hjS:j=S:=by
    refine bH fun hh=>?_;have:1*D≤(S-j)*D:=oA _ aa;omega
   subst hjS;rw[nE]at mI;have tX:acc=uj k m ch j (sn k ch b):=by rw[←mI];simp[uj]
   refine dc ?_;refine aq (.cons (.skip hKF)) ?_;refine aF ?_;rw[e,←tX];exact⟨Ao,co,rfl,rfl⟩
end
section
variable{ch:Nat}
theorem aa6{P:Prop}(h:P:=by(rw[LA];simp[bx])):P:=h
theorem zp{P:eh}{l:al}(hb:aK B w0 F 1 (.slice A n c) n P.Co)(hP:∀x∈P,aK B w0 F 1 x.1 x.2.length (bv x.2))(hn:n=P.length)(mJ:P.all=l)(hlen:l.length≤1099511627776)(D9:P.length≤1099511627776):
  a_ B w0 93 [.slice A n c] F (fun r L=>∃A' c',r= .slice A' l.length c'∧L= .own 5 1 A' l.length c' (bv l)::F):=by
 subst mJ;exact dL.AD fun w hw=>MG (B:=w.heap.size) w hn (hb w hw) (fun x hx=>hP x hx w hw) (gi _) hlen D9
abbrev Gn(g:Nat)(k m ch:Nat)(vo vb:Value)(at_:Nat):Ch:=.bE g 280 [ah (k:Int),ah (m:Int),ah (ch:Int),vo,vb,ah (at_:Int)]
def B6(x:al)(at_:Nat)(bad:bf):bf:=if (aJ x).2≠0 then bad++[at_] else bad
theorem ane(HT:bL B w0){x:al}{vo:Value}{bad:bf}{at_:Nat}(hx:eM B w0 F A c x)(Qc:x.length≤1000000000)(GJ:at_≤1000000000)(de:bad.length≤1000000000):
  a_ B w0 242 [br g,.slice A x.length c] (Gn g k m ch vo (.slice A1 bad.length c1) at_:: .own 3 1 A1 bad.length c1 (bx bad)::F)
   (fun v L=>∃A' c' Ab cb,v= .tuple #[.slice A' (aJ x).1.length c',.bool (decide ((aJ x).2=0))]∧L= .own 5 1 A' (aJ x).1.length c' (bv (aJ x).1)::Gn g k m ch vo (.slice Ab (B6 x at_ bad).length cb) (at_+1):: .own 3 1 Ab (B6 x at_ bad).length cb (bx (B6 x at_ bad))::F):=by
 refine fw func242 38 [0,1] ?_;refine bO ?_;refine ay rfl (wF HT (l:=x) hx.cons.cons aa) fun wu F8=>?_;refine bK ?_;refine d_ (fun zf zL=>∃(Ab:bj) (cb:Nat),Sub zf [(0,br g),(6,.slice wu (aJ x).1.length F8),(7,ah (aJ x).2)]∧Wk zL (.own 5 1 wu (aJ x).1.length F8 (bv (aJ x).1)::Gn g k m ch vo (.slice Ab (B6 x at_ bad).length cb) at_:: .own 3 1 Ab (B6 x at_ bad).length cb (bx (B6 x at_ bad))::F)) ?_ ?_
 ·refine bz ?_;refine aj (fun jZ=>?_) fun jZ=>?_
  ·have LA:B6 x at_ bad=bad++[at_]:=by unfold B6;rw[ao jZ]
   refine cF F ?_;refine ae 0 ?_;refine ae 1 ?_;refine ae 2 ?_;refine ae 3 ?_;refine ae 5 ?_;refine ae 6 ?_;refine ae 7 ?_;refine gS 4 8 ?_ ?_
   ·refine aF ?_;refine az 8 ?_;refine aF ?_;refine az 9 ?_;refine cR rfl (aG fJ [_] rfl rfl cw aa aa) fun Bg=>?_;refine az 10 ?_;refine eV rfl (bT fJ rfl aV rfl aA cw aa aa) fun Ha Lu=>?_;refine ae 11 ?_;refine ae 12 ?_;refine az 13 ?_;refine aF ?_;refine cQ [0,6,7] ?_;exact bD ⟨Ha,Lu,bp,.skip (.cons (bq (by rw[LA,aY];rfl) (ax (by rw[LA];simp) aa6 (.refl _))))⟩
   ·refine aF ?_;refine gS 4 9 ?_ ?_
    ·refine aF ?_;refine az 9 ?_;refine cR rfl (aG fJ [_] rfl rfl cw aa aa) fun Bg=>?_;refine az 10 ?_;refine eV rfl (bT fJ rfl aV rfl aA cw aa aa) fun Ha Lu=>?_;refine ae 11 ?_;refine ae 12 ?_;refine az 13 ?_;refine aF ?_;refine cQ [0,6,7] ?_;exact bD ⟨Ha,Lu,bp,.skip (.cons (bq (by rw[LA,aY];rfl) (ax (by rw[LA];simp) aa6 (.refl _))))⟩
    ·refine cR rfl (aG fJ [_] rfl rfl cw aa aa) fun Bg=>?_;refine az 4 ?_;refine aF ?_;refine az 10 ?_;refine eV rfl (bT fJ rfl aV rfl aA cw aa aa) fun Ha Lu=>?_;refine ae 11 ?_;refine ae 12 ?_;refine az 13 ?_;refine aF ?_;refine cQ [0,6,7] ?_;exact bD ⟨Ha,Lu,bp,.skip (.cons (bq (by rw[LA,aY];rfl) (ax (by rw[LA];simp) aa6 (.refl _))))⟩
  ·have LA:B6 x at_ bad=bad:=by unfold B6;rw[aw jZ]
   refine aF ?_;exact bD ⟨A1,c1,bp,.cons (bq (by rw[LA]) (ax (by rw[LA]) (by rw[LA]) (.refl _)))⟩
 ·rintro _ _ ⟨Ab,cb,hs,hp⟩;refine aU hs hp ?_;clear hs hp;refine bz ?_;refine ab (bX rfl rfl (r:=((at_+1:Nat):Int)) ((bF aa aa).trans aa)) rfl ?_;refine jQ ?_;exact⟨wu,F8,Ab,cb,rfl,rfl⟩
end
end Go.Proofs.YtaodmbolhoafcaaGreatDoor
