/-
  Texts of one proof, joined: part 13. No condition.
-/
import Derived.Test.YtaodmbolhoafcaaGreatDoorZr12
open Go.RowKit Go.Proofs.Tryz
namespace Go.Proofs.YtaodmbolhoafcaaGreatDoor
set_option linter.unusedVariables false
set_option linter.unusedSimpArgs false
set_option maxRecDepth 20000
variable{B:Nat}{w0:World}{F L0:aR}{A A1 A2 A3 A4 A5 A6 Af Ao:bj}{n c c1 c2 c3 c4 c5 c6 cf co g gc:Nat}{v0 v1 v2 v3 v4 v5 v6 v7 v8 v9 va:Value}{s:Cs}{r k m N gp gq:Nat}
section
theorem Ox{n:Nat}(hn:n≤1000000000):∀(f:Nat) (s:Cs) (o:al),n≤f+o.length→o.length≤n→(G6 f n s o).2.e=0→(G6 f n s o).1.length=n
 |0,s,o,h1,h2,_=>by show o.length=n;omega
 |f+1,s,o,h1,h2,h3=>by
  by_cases hc:o.length<n∧s.e=0
  ·rw[Sl hc]at h3⊢;have hT:(LO n s o).e=0:=bF fun k=>by
    rw[yA (fun q=>k q.2)]at h3;exact k h3
   obtain⟨k1,k2,_⟩:=Sm hT;have CA:Qm n s o≠0:=fun k=>k1 ⟨k2,.inl k⟩;have zQ:=adE (s:=s) h2 hn;exact Ox hn f _ _ bO bO h3
  ·rw[yA hc]at h3⊢;have hh:¬o.length<n:=fun k=>hc ⟨k,h3⟩;show o.length=n;omega
theorem PD:∀(k was:Nat) (s:Cs),(BW k was s).2.e=0→(BW k was s).1.length=k
 |0,_,_,_=>rfl
 |k+1,was,s,h=>by
  rw[BW]at h⊢;by_cases h0:s.e=0
  ·rw[aq h0]at h⊢;rw[eh,PD k _ _ h]
  ·rw[aw h0]at h;exact absurd h h0
theorem afB:∀(k was:Nat) (s:Cs),∀t∈(BW k was s).1,t<18446744073709551616
 |0,_,_,t,h=>by cases h
 |k+1,was,s,t,h=>by
  rw[BW]at h;split at h
  ·rcases fm.1 h with rfl|h
   ·exact agq _ _
   ·exact afB k _ _ t h
  ·cases h
theorem aen{n:Nat}{l:al}(h:(nW n l).2.2.2=0):(nW n l).1.length=n∧(nW n l).2.1.length=n∧n≤20000∧∀t∈(nW n l).1,t<18446744073709551616:=by
 by_cases h1:(n:Int)<0∨(20000:Int)<n
 ·rw[We h1]at h;simp at h
 ·by_cases h2:(G9 n l).2.e=0
  ·rw[SR h1 h2];have hv:=Ox (n:=n) aa (n+1) (LP n l).2 [] ak ak h2;refine⟨?_,hv,aa,afB _ _ _⟩;by_cases h0:n=0
   ·subst h0;rfl
   ·have ht:(LP n l).2.e=0:=bF fun k=>by
     unfold G9 at h2;rw[yA (fun q=>k q.2)]at h2;exact k h2
    exact PD _ _ _ ht
  ·rw[Wf h1 h2]at h;exact absurd h h2
theorem als{o:aO}{b:al}(dh:b.length≤1000000)(h:¬cm 2 (o2 o)≠0)(h3:¬GH (dT b) (qA b).length≠0)(h4:¬xK (fb (dT b)).1.sum (wD b)≠0):sC (alr o b):=by
 have hdl:=JZ (dT b);have Yt:=DE (dT b);have hz:=DD (bF h3);have x9:(nW ((fb (dT b)).1.sum:Nat) (aK (wD b)).1).2.2.2=0:=by
  have h4:=bF h4;unfold xK at h4;split at h4
  ·rename_i k;exact absurd h4 k
  ·split at h4
   ·rename_i k;exact absurd h4 k
   ·rename_i k;exact bF k
 obtain⟨r1,r2,r3,r4⟩:=aen x9;have hom:=w4 (.inr (.inl rfl)) (bF h);obtain⟨_,_,m4,_⟩:=hom;obtain⟨m5,m6⟩:=m4 (.inr rfl);have m6:o.2.2.1≤64:=m6;obtain⟨z1,z2,z3⟩:=adg (size:=o.2.2.1) (bound:=((fb (dT b)).1.sum:Nat)) (b:=(aK (vz b)).1) aa;refine⟨?_,r1,r2,by show(fb (dT b)).1.sum≤20000;omega,by show(fb (dT b)).1.length≤20000;omega,fun f hf=>?_,z1,z2,z3,r4⟩
 ·show(rE (fb (dT b)).2.1 (qA b)).length=(fb (dT b)).1.length;rw[uH];omega
 ·have hlr:=uW b;have hle:∀(ss:bc) (r:al),∀f∈rE ss r,f.length≤r.length:=by
   intro ss;induction ss with
   |nil=>intro r f hf;simp[rE]at hf
   |cons n ss ih=>
    intro r f hf;rw[rE]at hf;rcases fm.1 hf with rfl|hf
    ·rw[eV];omega
    ·have:=ih _ f hf;rw[iN]at this;omega
  have:=hle _ _ f hf;have e:(f_ b).1=qA b:=rfl;rw[e]at hlr;omega
theorem ab3{x:iv}{k:Nat}(h:(lU x k).2=0):(lU x k).1.length=x.ns.getD k 0:=by
 by_cases h1:(dL (x.bA.getD k [])).2.2≠0
 ·rw[Rc h1]at h;exact absurd h h1
 ·by_cases h2:(dL (x.bA.getD k [])).2.1<(x.bA.getD k []).length
  ·rw[Re h1 h2]at h;simp at h
  ·by_cases h3:(qQ false (dL (x.bA.getD k [])).1).2≠0
   ·rw[Rf h1 h2 h3]at h;exact absurd h h3
   ·by_cases h4:(qQ false (dL (x.bA.getD k [])).1).1.length≠x.ns.getD k 0
    ·rw[Rg h1 h2 h3 h4]at h;simp at h
    ·rw[Rh h1 h2 h3 h4];simp only;rw[kN];exact bF h4
theorem ahn{x:iv}{k:Nat}(ho:sC x):∀r∈(lU x k).1,r.1<18446744073709551616:=fun r hr=>by
 by_cases h1:(dL (x.bA.getD k [])).2.2≠0
 ·rw[Rc h1]at hr;cases hr
 ·by_cases h2:(dL (x.bA.getD k [])).2.1<(x.bA.getD k []).length
  ·rw[Re h1 h2]at hr;cases hr
  ·by_cases h3:(qQ false (dL (x.bA.getD k [])).1).2≠0
   ·rw[Rf h1 h2 h3]at hr;cases hr
   ·by_cases h4:(qQ false (dL (x.bA.getD k [])).1).1.length≠x.ns.getD k 0
    ·rw[Rg h1 h2 h3 h4]at hr;cases hr
    ·rw[Rh h1 h2 h3 h4]at hr;obtain⟨i,_,rfl⟩:=pS.1 hr;show x.times.getD _ 0<_;rw[bk];cases hq:x.times[(x.ns.take k).sum+i]? with
     |none=>simp
     |some t=>exact ho.tm t (List.mem_of_getElem? hq)
theorem Ot{x:iv}{f k:Nat}{out:List aH}(h:(lU x k).2≠0):nV x (f+1) k out=([],(lU x k).2):=by rw[nV,aq h]
theorem VP{x:iv}{f k:Nat}{out:List aH}(h:¬(lU x k).2≠0):nV x (f+1) k out=nV x f (k+1) (out++(lU x k).1):=by rw[nV,aw h]
theorem KE{x:iv}(ho:sC x):∀(f k:Nat) (out:List aH),(∀r∈out,r.1<18446744073709551616)→∀r∈(nV x f k out).1,r.1<18446744073709551616
 |0,_,_,h,r,hr=>h r hr
 |f+1,k,out,h,r,hr=>by
  by_cases h1:(lU x k).2≠0
  ·rw[Ot h1]at hr;cases hr
  ·rw[VP h1]at hr;refine KE ho f (k+1) _ (fun q hq=>?_) r hr;rcases dy.1 hq with hq|hq
   ·exact h q hq
   ·exact ahn ho q hq
theorem VS{x:iv}(ho:sC x):∀r∈(jn x).1,r.1<18446744073709551616:=fun r hr=>by
 unfold jn at hr;split at hr
 ·cases hr
 ·split at hr
  ·cases hr
  ·split at hr
   ·cases hr
   ·exact KE ho _ _ _ (fun _ h=>jY) r hr
section
variable{x:iv}
theorem amJ{e:Int}(h:nV x x.bA.length 0 []=([],e))(he:e≠0):jn x=([],e):=by unfold jn;rw[h,aq he]
theorem amK{out:List aH}(h:nV x x.bA.length 0 []=(out,0))(hc:cO out≠0):jn x=([],cO out):=by unfold jn;rw[h,aw ak,aq hc]
theorem amL{out:List aH}(h:nV x x.bA.length 0 []=(out,0))(hc:¬cO out≠0)(hi:¬(x.T=mR out∧x.I=mQ out)):jn x=([],15):=by unfold jn;rw[h,aw ak,aw hc,aq hi]
theorem amM{out:List aH}(h:nV x x.bA.length 0 []=(out,0))(hc:¬cO out≠0)(hi:x.T=mR out∧x.I=mQ out):jn x=(out,0):=by unfold jn;rw[h,aw ak,aw hc,aw (fun k=>k hi)]
end
theorem afE{LL:List rK}{L:aR}(h:∀e∈LL,aL B w0 L 1 (jQ e) e.2.2.length (bx e.2.2)):l6 B w0 L (toI LL):=fun e he=>by
 obtain⟨x,hx,rfl⟩:=pS.1 he;have:=h x hx;have e1:ints .i64 (x.2.2.map fun(n:Nat)=>(n:Int))=bx x.2.2:=by simp[ints,bx]
 simp only[eM];rw[e1];exact this
theorem aae{LL:List rK}{m:Nat}(h:∀e∈LL,e.2.2.length≤m)(hm:m≤9223372036854775807):∀e∈toI LL,e.2.2.length≤9223372036854775807:=fun e he=>by
 obtain⟨x,hx,rfl⟩:=pS.1 he;have:=h x hx;simp only[eM];omega
theorem aiI{T1 T2:List cj}{L1 L2:List Lv}{m1 m2 n2:Nat}(e1:m1=L1.length)(e2:m2=L2.length)(e3:n2=T2.length)(h1:aL B w0 F 1 (.slice A1 T1.length c1) T1.length (strs T1))(hL1:aL B w0 F 1 (.slice A2 m1 c2) m1 (L1.map zS))(hI1:l6 B w0 F L1)(h2:aL B w0 F 1 (.slice A3 n2 c3) n2 (strs T2))(hL2:aL B w0 F 1 (.slice A4 m2 c4) m2 (L2.map zS))(hI2:l6 B w0 F L2)(hs:T1.length≤1000000000)(jK:L1.length≤1000000000)(wS:∀e∈L1,e.2.2.length≤9223372036854775807):
  a_ B w0 195 [.agg [.slice A1 T1.length c1,.slice A2 m1 c2].toArray,.agg [.slice A3 n2 c3,.slice A4 m2 c4].toArray] F (fun r L=>r= .bool (decide (T1=T2∧fU L1=fU L2))∧L=F):=by
 subst e1;subst e2;subst e3;exact aiH h1 hL1 hI1 h2 hL2 hI2 hs jK wS
theorem alq(HT:bK B w0){x:iv}{FB:List kP}{LL:List rK}(ho:sC x)(sM:FB.map (·.2.2)=x.bA)(hLx:LL.map (·.2.2)=x.I)(hcn:x.ns.length≤c1)(hn:aL B w0 (Bo g (.slice A1 x.ns.length c1) v1 v2 v3 (.slice A3 x.times.length c3) (.slice A4 x.levels.length c4) (.slice A5 x.T.length c5) (.slice A6 LL.length c6) (.slice Af FB.length cf) v9::F) 1 (.slice A1 x.ns.length c1) x.ns.length (bx x.ns))(ht:aL B w0 (Bo g (.slice A1 x.ns.length c1) v1 v2 v3 (.slice A3 x.times.length c3) (.slice A4 x.levels.length c4) (.slice A5 x.T.length c5) (.slice A6 LL.length c6) (.slice Af FB.length cf) v9::F) 1 (.slice A3 x.times.length c3) x.times.length (p_ x.times))(hl:aL B w0 (Bo g (.slice A1 x.ns.length c1) v1 v2 v3 (.slice A3 x.times.length c3) (.slice A4 x.levels.length c4) (.slice A5 x.T.length c5) (.slice A6 LL.length c6) (.slice Af FB.length cf) v9::F) 1 (.slice A4 x.levels.length c4) x.levels.length (bv x.levels))(hT:aL B w0 (Bo g (.slice A1 x.ns.length c1) v1 v2 v3 (.slice A3 x.times.length c3) (.slice A4 x.levels.length c4) (.slice A5 x.T.length c5) (.slice A6 LL.length c6) (.slice Af FB.length cf) v9::F) 1 (.slice A5 x.T.length c5) x.T.length (strs x.T))(hI:aL B w0 (Bo g (.slice A1 x.ns.length c1) v1 v2 v3 (.slice A3 x.times.length c3) (.slice A4 x.levels.length c4) (.slice A5 x.T.length c5) (.slice A6 LL.length c6) (.slice Af FB.length cf) v9::F) 1 (.slice A6 LL.length c6) LL.length (LL.map jQ))(hIe:∀e∈LL,aL B w0 (Bo g (.slice A1 x.ns.length c1) v1 v2 v3 (.slice A3 x.times.length c3) (.slice A4 x.levels.length c4) (.slice A5 x.T.length c5) (.slice A6 LL.length c6) (.slice Af FB.length cf) v9::F) 1 (jQ e) e.2.2.length (bx e.2.2))(hf:aL B w0 (Bo g (.slice A1 x.ns.length c1) v1 v2 v3 (.slice A3 x.times.length c3) (.slice A4 x.levels.length c4) (.slice A5 x.T.length c5) (.slice A6 LL.length c6) (.slice Af FB.length cf) v9::F) 1 (.slice Af FB.length cf) FB.length (FB.map dq))(It:∀e∈FB,aL B w0 (Bo g (.slice A1 x.ns.length c1) v1 v2 v3 (.slice A3 x.times.length c3) (.slice A4 x.levels.length c4) (.slice A5 x.T.length c5) (.slice A6 LL.length c6) (.slice Af FB.length cf) v9::F) 1 (dq e) e.2.2.length (bv e.2.2)):
  a_ B w0 127 [bq g] (Bo g (.slice A1 x.ns.length c1) v1 v2 v3 (.slice A3 x.times.length c3) (.slice A4 x.levels.length c4) (.slice A5 x.T.length c5) (.slice A6 LL.length c6) (.slice Af FB.length cf) v9::F)
   (fun v L=>∃A' c',v= .tuple #[.slice A' (jn x).1.length c',ah (jn x).2]∧L= .own 62 4 A' (jn x).1.length c' (cU (jn x).1)::Bo g (.slice A1 x.ns.length c1) v1 v2 v3 (.slice A3 x.times.length c3) (.slice A4 x.levels.length c4) (.slice A5 x.T.length c5) (.slice A6 LL.length c6) (.slice Af FB.length cf) v9::F):=by
 have Rv:FB.length=x.bA.length:=by rw[←sM,eM]
 have hLl:LL.length=x.I.length:=by rw[←hLx,eM]
 obtain⟨o1,o2,o3,o4,o5,o6,o7,o8,o9,o10⟩:=ho;have ho:sC x:=⟨o1,o2,o3,o4,o5,o6,o7,o8,o9,o10⟩
 refine fw func127 46 [0] ?_;refine zK ?_;refine aY 62 4 none ?_;refine jU ?_;refine aD (fun zf zL zm=>∃(k:Nat) (out:List aH) (Ao:bj) (co:Nat),(k≤x.bA.length∧out.length=(x.ns.take k).sum∧nV x (x.bA.length-k) k out=nV x x.bA.length 0 [])∧x.bA.length-k=zm∧Sub zf [(0,bq g),(4,.slice Ao out.length co),(15,ah FB.length),(16,ah (k:Int))]∧Wk zL (.own 62 4 Ao out.length co (cU out)::Bo g (.slice A1 x.ns.length c1) v1 v2 v3 (.slice A3 x.times.length c3) (.slice A4 x.levels.length c4) (.slice A5 x.T.length c5) (.slice A6 LL.length c6) (.slice Af FB.length cf) v9::F)) _ ⟨0,[],none,0,⟨bS _,ak,by rw[Ek]⟩,rfl,bm,.refl _⟩ ?_;rintro _ _ _ ⟨k,out,Ao,co,⟨hk,Kl,GV⟩,rfl,hs,hp⟩;refine aU hs hp ?_;clear hs hp;refine bB ?_;refine aj (fun iy=>?_) fun iy=>?_
 ·have hkf:x.bA.length-k=(x.bA.length-(k+1))+1:=by omega
  rw[hkf]at GV;have wT:=nM x.ns (k+1);have LJ:(x.ns.take (k+1)).sum=(x.ns.take k).sum+x.ns.getD k 0:=by rw[aZ aa 0,wj];simp
  refine dX ?_;refine ay rfl (.perm (abb HT (k:=k) (v6:=.slice A5 x.T.length c5) (v7:=.slice A6 LL.length c6) ho aa sM hcn (hn.mono (.cons_cons _ (.cons _ (.refl _)))) (ht.mono (.cons_cons _ (.cons _ (.refl _)))) (hl.mono (.cons_cons _ (.cons _ (.refl _)))) (hf.mono (.cons_cons _ (.cons _ (.refl _)))) (fun e he=>(It e he).mono (.cons_cons _ (.cons _ (.refl _))))) ((l0 (fT (.refl _))))) fun A22 c22=>?_;refine dX ?_;refine aj (fun qG=>?_) fun qG=>?_
  ·rw[Ot qG]at GV;have e:=amJ GV.symm qG;refine bI ?_;refine ve [2,3] ?_;refine bM ?_;refine aC 62 4 none ?_;refine ao (.cons (.skip (.cons (.skip (.refl _))))) ?_;refine aE ?_;rw[e];exact⟨none,0,rfl,rfl⟩
  ·rw[VP qG]at GV;have lZ:=ab3 (bF qG);have GP:(out++(lU x k).1).length=out.length+(lU x k).1.length:=aX;refine bI ?_;refine gw (bW WD rfl aV rfl (aL.own (.head _)) (I7 _) aa aa) fun Qp c30=>?_;refine aE ?_;refine ve [0,4,15,16] ?_;refine bB ?_;refine av ⟨_,aa,k+1,out++(lU x k).1,Qp,c30,⟨aa,aa,GV⟩,rfl,bm,.trans ((rP (gl (.skip (.refl _))))) (ax aa (by rw[vh]) (.refl _))⟩
 ·obtain rfl:k=x.bA.length:=by omega
  rw[nA,nV]at GV;refine bP ?_;refine ai rfl (oS out (aL.own (.head _))) ?_;refine bP ?_;refine aj (fun tR=>?_) fun tR=>?_
  ·have e:=amK GV.symm tR;refine bP ?_;refine aC 62 4 none ?_;refine ao (.cons (.skip (.refl _))) ?_;refine aE ?_;rw[e];exact⟨none,0,rfl,rfl⟩
  ·obtain⟨q1,q2,q3⟩:=kj (bF tR) (fun r hr=>by
    have:=KE ho x.bA.length 0 [] (fun _ h=>jY) r (by rw[←GV];exact hr);exact this)
   refine b8 ?_;refine cC (.own 62 4 Ao out.length co (cU out)::Bo g (.slice A1 x.ns.length c1) v1 v2 v3 (.slice A3 x.times.length c3) (.slice A4 x.levels.length c4) (.slice A5 x.T.length c5) (.slice A6 LL.length c6) (.slice Af FB.length cf) v9::F) ?_;refine ab 0 ?_;refine ab 1 ?_;refine ab 2 ?_;refine aW 3 rfl (bQ 2 ag rfl aV [.slice A5 x.T.length c5,.slice A6 LL.length c6] rfl rfl) ?_;refine ab 4 ?_;refine az 5 ?_;refine gC rfl .no apt rfl (Us (L:=out) (aL.own (.head _)) q3) rfl (by rintro _ _ ⟨AT,cT,AL,cL,L2,rfl,rfl,hL2⟩;exact gF) ?_;rintro _ _ ⟨AT,cT,AL,cL,L2,rfl,cJ,hL2⟩;obtain rfl:=cJ.symm;refine az 6 ?_;refine iZ rfl rfl (aiI (T1:=x.T) (T2:=mR out) (L1:=toI LL) (L2:=toI L2) (by rw[CP]) (by rw[CP];have:=dC List.length hL2;simpa[JA,mR]using this.symm) rfl (hT.mono (.cons _ (.cons _ (.trans (.cons _ (.refl _)) (gz _ _))))) (by rw[WZ];exact hI.mono (.cons _ (.cons _ (.trans (.cons _ (.refl _)) (gz _ _))))) (afE fun e he=>(hIe e he).mono (.cons _ (.cons _ (.trans (.cons _ (.refl _)) (gz _ _))))) (aL.own (.head _)) aoK (WY fun e he=>.tail _ (.tail _ (j_ _ (je (f:=jP) he)))) aa (by rw[CP];omega) (fun e he=>(aae (m:=20000) (fun e he=>o9 _ (by rw[←hLx];exact je (f:=fun y:rK=>y.2.2) he)) aa e he))) ?_;refine ab 7 ?_;refine be ?_;refine aj (fun tS=>?_) fun tS=>?_
   ·have hi:¬(x.T=mR out∧x.I=mQ out):=fun hh=>tS ⟨hh.1,by rw[yU,yU,hLx,hL2,hh.2];rfl⟩;have e:=amL GV.symm tR hi;refine b8 ?_;refine ve [2,3] ?_;refine bH ?_;refine aC 62 4 none ?_;refine ao (.cons (.skip (.skip ((dA _ _).trans (.skip (.refl _)))))) ?_;refine aE ?_;rw[e];exact⟨none,0,rfl,rfl⟩
   ·have hi:x.T=mR out∧x.I=mQ out:=by
     have hh:=bF tS;refine⟨hh.1,zl ?_⟩;have h2:=hh.2;rw[yU,yU,hLx,hL2]at h2;exact h2
    have e:=amM GV.symm tR hi;refine bD ?_;refine ve [2,3] ?_;refine be ?_;refine ao (.skip (.skip (dA _ _))) ?_;refine aE ?_;rw[e];exact⟨Ao,co,rfl,rfl⟩
theorem CS.open_{x:iv}{L:aR}(h:CS B w0 L g x):∃(A1:bj) (c1:Nat) (A2:bj) (c2:Nat) (A3:bj) (c3:Nat) (A4:bj) (c4:Nat) (A5:bj) (c5:Nat) (A6:bj) (c6:Nat) (LX:List rK) (Af:bj) (cf:Nat) (FB:List kP) (va:Value) (M:aR),
  L.Perm (Bo g (.slice A1 x.ns.length c1) (.slice A2 x.ss.length c2) (ah x.c) (ah x.i) (.slice A3 x.times.length c3) (.slice A4 x.levels.length c4) (.slice A5 x.T.length c5) (.slice A6 LX.length c6) (.slice Af FB.length cf) va::M)∧
  aL B w0 L 1 (.slice A1 x.ns.length c1) x.ns.length (bx x.ns)∧aL B w0 L 1 (.slice A3 x.times.length c3) x.times.length (p_ x.times)∧aL B w0 L 1 (.slice A4 x.levels.length c4) x.levels.length (bv x.levels)∧
  aL B w0 L 1 (.slice A5 x.T.length c5) x.T.length (strs x.T)∧aL B w0 L 1 (.slice A6 LX.length c6) LX.length (LX.map jQ)∧(∀e∈LX,aL B w0 L 1 (jQ e) e.2.2.length (bx e.2.2))∧LX.map (·.2.2)=x.I∧
  aL B w0 L 1 (.slice Af FB.length cf) FB.length (FB.map dq)∧(∀e∈FB,aL B w0 L 1 (dq e) e.2.2.length (bv e.2.2))∧FB.map (·.2.2)=x.bA:=by
 obtain⟨A1,c1,A2,c2,A3,c3,A4,c4,A5,c5,A6,c6,LX,Af,cf,FB,va,h1,h2,h3,h4,h5,h6,h7,h8,h9,jB,pq⟩:=h;obtain⟨s,t,rfl⟩:=List.append_of_mem h1;exact⟨A1,c1,A2,c2,A3,c3,A4,c4,A5,c5,A6,c6,LX,Af,cf,FB,va,s++t,yp,h2,h3,h4,h5,h6,h7,h8,h9,jB,pq⟩
theorem abf(HT:bK B w0){x:iv}{L:aR}(ho:sC x)(hB:CS B w0 L g x):
  a_ B w0 127 [bq g] L (fun v K=>∃A' c',v= .tuple #[.slice A' (jn x).1.length c',ah (jn x).2]∧K= .own 62 4 A' (jn x).1.length c' (cU (jn x).1)::L):=by
 obtain⟨A1,c1,A2,c2,A3,c3,A4,c4,A5,c5,A6,c6,LX,Af,cf,FB,va,M,hp,h2,h3,h4,h5,h6,h7,h8,h9,jB,pq⟩:=hB.open_;refine dP.zk h2 fun hcn _=>?_;exact((alq HT ho pq h8 hcn (h2.perm hp) (h3.perm hp) (h4.perm hp) (h5.perm hp) (h6.perm hp) (fun e he=>(h7 e he).perm hp) (h9.perm hp) (fun e he=>(jB e he).perm hp)).perm hp).Lc fun v K ⟨A',c',h1,h2⟩=>⟨_,.dE (by rw[h2];exact(hp.symm.cons _)),A',c',h1,rfl⟩
theorem ac_:a_ B w0 112 [.slice none 0 c] F (fun r L=>∃A' c',r= .slice A' 0 c'∧L= .own 3 1 A' 0 c' (bx [])::F):=by
 refine fw func112 8 [0] ?_;refine bP ?_;refine ae (r7 underlying53 rfl rfl) rfl ?_;refine bz ?_;refine aC 3 1 none ?_;refine aE ?_;exact⟨none,0,rfl,rfl⟩
theorem ac'{ns:bc}{ad:Addr}(hb:aL B w0 F 1 (.slice (some ad) ns.length c) ns.length (bx ns))(hn:ns.length≤1000000):
  a_ B w0 112 [.slice (some ad) ns.length c] F (fun r L=>∃A' c',r= .slice A' ns.length c'∧L= .own 3 1 A' ns.length c' (bx ns)::F):=by
 refine fw func112 8 [0] ?_;refine bP ?_;refine ae (r7 underlying53 rfl rfl) rfl ?_;refine bD ?_;refine cH (sI fM) fun A5=>?_;refine aE ?_;refine gw (bW fM rfl aV rfl aB (adN _) aa aa) fun A7 c7=>?_;refine b8 ?_;rw[mC,nU];refine aE ?_;exact⟨_,_,rfl,rfl⟩
theorem ada{ns:bc}(hb:aL B w0 F 1 (.slice A ns.length c) ns.length (bx ns))(hn:ns.length≤1000000):
  a_ B w0 112 [.slice A ns.length c] F (fun r L=>∃A' c',r= .slice A' ns.length c'∧L= .own 3 1 A' ns.length c' (bx ns)::F):=by
 cases A with
 |none=>
  intro w hw;obtain⟨A',c',hv,hc,rN,hr⟩:=hb w hw;injection hv with q1 q2 q3;subst q1;have h0:ns=[]:=mi (bF fun h=>by
   obtain⟨ad,e,_⟩:=hr aa;cases e)
  subst h0;exact ac_ w hw
 |some ad=>
  exact ac' hb hn
theorem Hx{x:iv}{L:aR}(ho:sC x)(hB:CS B w0 L g x):
  a_ B w0 59 [bq g] L (fun v K=>∃A' c',v= .slice A' x.ns.length c'∧K= .own 3 1 A' x.ns.length c' (bx x.ns)::L):=by
 have Vn:=ho.nl;obtain⟨A1,c1,A2,c2,A3,c3,A4,c4,A5,c5,A6,c6,LX,Af,cf,FB,va,M,hp,h2,h3,h4,h5,h6,h7,h8,h9,jB,pq⟩:=hB.open_;have h2:=h2.perm hp;refine dP.Lc (R:=fun v K=>∃A' c',v= .slice A' x.ns.length c'∧K= .own 3 1 A' x.ns.length c' (bx x.ns)::(Bo g (.slice A1 x.ns.length c1) (.slice A2 x.ss.length c2) (ah x.c) (ah x.i) (.slice A3 x.times.length c3) (.slice A4 x.levels.length c4) (.slice A5 x.T.length c5) (.slice A6 LX.length c6) (.slice Af FB.length cf) va::M)) (dP.perm ?_ hp) fun v K ⟨A',c',q1,q2⟩=>⟨_,.dE (by rw[q2];exact(hp.symm.cons _)),A',c',q1,rfl⟩
 refine fw func59 11 [0] ?_;refine D3 ?_;refine ay rfl (ada h2 aa) fun xq HI=>?_;refine bI ?_;exact⟨xq,HI,rfl,rfl⟩
end
theorem yk:type_of% @Nat.mul_le_mul_left:= @Nat.mul_le_mul_left
theorem U6{S:Nat}(hS:S≤32768)(pl:Bool):∀(g:bc) (L:List aH),(∀x∈L,x.fits)→CU S (lens false L) g→(jy false pl g L).flatten.length≤33000*g.length
 |[],_,_,_=>by simp[jy]
 |n::g,L,hL,hf=>by
  obtain⟨f1,f2,f3,f4,f5⟩:=hf;have IA:=oL (b:=false) hS hL f1 f3;have h1:=C7 (b:=dc false (L.take n)) (pl:=pl) IA;have h2:=U6 hS pl g (L.drop n) (fun x hx=>hL x (rl hx)) agF;rw[jy,wo,aX,eh,ub,cE];have:=h1.1;omega
theorem XD{o:aO}{L:List aH}{M:Nat}(ho:cm 2 (o2 o)=0)(hc:cO L=0)(hx:∀x∈L,x.1<18446744073709551616)(hi:(qJ o L).length≤M)(hM:M≤100000000000):
  (dx o L).length≤33000*L.length+40*L.length+M+1000+(ko L).length:=by
 obtain⟨tA,rN,LG⟩:=kj hc hx;have hom:=w4 (.inr (.inl rfl)) ho;obtain⟨⟨m1,m2⟩,_,m4,_⟩:=hom;have m1:16≤o.1:=m1;have m2:o.1≤32768:=m2;have GU:(dR o false L).length≤L.length:=by unfold dR;have:=mU o.1.toNat (lens false L);rwa [et]at this
 have It:=U6 (S:=o.1.toNat) aa o.2.1 (dR o false L) L rN (kr _ _);have hss:∀x∈(eQ o L).map List.length,x≤33000*L.length:=fun x hx=>by
  have h1:=pF hx;rw[←List.length_flatten]at h1;have:33000*(dR o false L).length≤33000*L.length:=yk _ GU;exact jf h1 (jf It this)
 have wT:=Cy o false L;have tz:=qW (L:=L) aa;have hCl:(oZ L).length=(ko L).length+4:=du _;have hIl:(pb o L).length=(qJ o L).length+4:=du _;have hDl:(qa o L).length≤60+20*L.length+4:=by
  unfold qa;rw[du];have h1:=y_ (dR o false L) ((eQ o L).map List.length) (fun n hn=>Xy) (fun n hn=>by have:=hss n hn;omega) (dR o false L).length;have h2:uO (dR o false L) ((eQ o L).map List.length) (dR o false L).length=((dR o false L).zip ((eQ o L).map List.length)).flatMap fun p=>aS p.1++aS p.2:=by
   unfold uO;rw[fD (by rw[List.length_zip];omega)]
  rw[h2]at h1;have h3:=aT (x:=(dR o false L).sum) aa;have h4:=aT (x:=(dR o false L).length) aa;have h5:=aT (x:=(oZ L).length) aa;have h6:=aT (x:=(pb o L).length) aa;unfold xR;simp only[aX];omega
 unfold dx;have:33000*(dR o false L).length≤33000*L.length:=yk _ GU;have acO:(eQ o L).flatten.length≤33000*L.length:=jf It this;simp only[aX,qe];omega
theorem HA{o:aO}{L:List aH}(ho:cm 2 (o2 o)=0)(hc:cO L=0)(hx:∀x∈L,x.1<18446744073709551616):(dx o L).length≤1000000000000:=by
 obtain⟨tA,rN,LG⟩:=kj hc hx;have hom:=w4 (.inr (.inl rfl)) ho;obtain⟨_,_,m4,_⟩:=hom;obtain⟨m5,m6⟩:=m4 (.inr rfl);have hi:=NP (o:=o) m5 m6 LG tA;have:=XD (M:=60000000000) ho hc hx aa aa;have tz:=qW (L:=L) aa;omega
theorem aao(HT:bK B w0){o:aO}(h1:0≤o.1)(h2:o.1≤32768)(h3:0≤o.2.2.1)(h4:o.2.2.1≤64):
  a_ B w0 65 [.agg (aO.cells o).toArray] F (Gp (sr o) F):=by
 obtain⟨bl,pl,bu,da,pa,ch⟩:=o;simp only at h1 h2 h3 h4;obtain⟨S,rfl⟩:=gM h1;obtain⟨sz,rfl⟩:=gM h3;have hn1:=aT (x:=S) aa;have tW:=aT (x:=sz) aa;have hH:ou ((S:Int),pl,(sz:Int),da,pa,ch)=(dY++[2])++(aS S++([fL pl]++aS sz)):=rfl;have hHl:(ou ((S:Int),pl,(sz:Int),da,pa,ch)).length≤30:=by
  rw[hH];simp only[aX,eh,sb,dY];omega
 have hTH:sr ((S:Int),pl,(sz:Int),da,pa,ch)=cY (ou ((S:Int),pl,(sz:Int),da,pa,ch)):=rfl;rw[hTH];obtain⟨H0,hH0⟩:=cR (ou ((S:Int),pl,(sz:Int),da,pa,ch));rw[←hH0]at hH hHl⊢;refine cB func65 26 rfl rfl rfl [(0,.agg #[ah (S:Int),.bool pl,ah (sz:Int),ah da,ah pa,ah ch])] ⟨⟨rfl,rfl⟩,trivial⟩ ?_;refine be ?_;refine bf fun g1=>?_;refine bM ?_;refine d_ (fun zf zL=>Sub zf [(1,bq g1),(3,.int .u8 ((fL pl).toNat:Int))]∧Wk zL (.bE g1 23 [ah (S:Int),.bool pl,ah (sz:Int),ah da,ah pa,ah ch]::F)) ?_ ?_
 ·refine bB ?_;refine h_ (fun h7=>?_) fun h7=>?_
  ·subst h7;refine bH ?_;exact bC ⟨bm,.refl _⟩
  ·subst h7;refine aE ?_;exact bC ⟨bm,.refl _⟩
 ·rintro _ _ ⟨hs,hp⟩;refine aU hs hp ?_;clear hs hp;refine be ?_;refine ay rfl (Sq 2) fun A9 c9=>?_;refine bM ?_;rw[show(qo 2).1=dY++[2] from rfl];refine cC (.own 5 1 A9 (dY++[2]:al).length c9 (bv (dY++[2])):: .bE g1 23 [ah (S:Int),.bool pl,ah (sz:Int),ah da,ah pa,ah ch]::F) ?_;refine ab 0 ?_;refine ab 1 ?_;refine ab 2 ?_;refine aW 3 rfl (bw underlying3 underlying60 rfl (r:=((S:Nat):Int)) (ga aa aa)) ?_;refine ab 5 ?_;refine ab 7 ?_;refine ab 8 ?_;refine aW 9 rfl (bw underlying3 underlying60 rfl (r:=((sz:Nat):Int)) (ga aa aa)) ?_;refine gU 4 6 ?_ ?_
  ·refine b7 rfl rfl (iP S aa) fun A16 c16=>?_;refine gU 6 10 ?_ ?_
   ·refine cQ rfl (aF cN [_] rfl rfl cA aa aa) fun s8=>?_;refine az 10 ?_;refine b7 rfl rfl (iP sz aa) fun A22 c22=>?_;refine az 11 ?_;refine cQ rfl (aF fH [_,_,_,_] rfl rfl cA aa aa) fun A23=>?_;refine az 12 ?_;refine b7 rfl rfl (Qx (l1:=dY++[2]) (l2:=aS S) (l3:=[fL pl]) (l4:=aS sz) aB aB aB aB aB hH aa) fun Bh Dc=>?_;refine az 13 ?_;refine b7 rfl rfl (qC HT (l:=H0) aB aa) fun Hh Lx=>?_;refine ab 14 ?_;refine cP [2] ?_;refine be ?_;refine ao ((ef (.skip (.skip (.skip (.skip (.skip (.skip (.skip (.refl _)))))))))) ?_;refine aE ?_;exact⟨Hh,Lx,rfl,rfl⟩
   ·refine b7 rfl rfl (iP sz aa) fun A22 c22=>?_;refine az 6 ?_;refine cQ rfl (aF cN [_] rfl rfl cA aa aa) fun s8=>?_;refine az 11 ?_;refine cQ rfl (aF fH [_,_,_,_] rfl rfl cA aa aa) fun A23=>?_;refine az 12 ?_;refine b7 rfl rfl (Qx (l1:=dY++[2]) (l2:=aS S) (l3:=[fL pl]) (l4:=aS sz) aB aB aB aB aB hH aa) fun Bh Dc=>?_;refine az 13 ?_;refine b7 rfl rfl (qC HT (l:=H0) aB aa) fun Hh Lx=>?_;refine ab 14 ?_;refine cP [2] ?_;refine be ?_;refine ao ((ef (.skip (.skip (.skip (.skip (.skip (.skip (.skip (.refl _)))))))))) ?_;refine aE ?_;exact⟨Hh,Lx,rfl,rfl⟩
  ·refine cQ rfl (aF cN [_] rfl rfl cA aa aa) fun s8=>?_;refine az 4 ?_;refine b7 rfl rfl (iP S aa) fun A16 c16=>?_;refine az 10 ?_;refine b7 rfl rfl (iP sz aa) fun A22 c22=>?_;refine az 11 ?_;refine cQ rfl (aF fH [_,_,_,_] rfl rfl cA aa aa) fun A23=>?_;refine az 12 ?_;refine b7 rfl rfl (Qx (l1:=dY++[2]) (l2:=aS S) (l3:=[fL pl]) (l4:=aS sz) aB aB aB aB aB hH aa) fun Bh Dc=>?_;refine az 13 ?_;refine b7 rfl rfl (qC HT (l:=H0) aB aa) fun Hh Lx=>?_;refine ab 14 ?_;refine cP [2] ?_;refine be ?_;refine ao ((ef (.skip (.skip (.skip (.skip (.skip (.skip (.skip (.refl _)))))))))) ?_;refine aE ?_;exact⟨Hh,Lx,rfl,rfl⟩
theorem aas(HT:bK B w0){o:aO}{L:List aH}(hx:∀x∈L,x.1<18446744073709551616)(hb:aL B w0 F 4 (.slice A L.length c) L.length (cU L)):
  a_ B w0 27 [.agg (aO.cells o).toArray,.slice A L.length c] F (LV (vL o L) F):=by
 have hO1:∀(h:cm 2 o≠0),vL o L=([],cm 2 o):=fun h=>by unfold vL;rw[aq h]
 have hO2:∀(h:¬cm 2 o≠0) (h2:(fY o L).2≠0),vL o L=([],(fY o L).2):=fun h h2=>by unfold vL;rw[aw h,aq h2]
 have hO3:∀(h:¬cm 2 o≠0) (h2:¬(fY o L).2≠0),vL o L=(p8 o L,0):=fun h h2=>by unfold vL;rw[aw h,aw h2]
 have hmk:=fun(h:¬cm 2 o≠0)=>CJ (bF h);have hbw:∀(h2:¬(fY o L).2≠0),(fY o L).1=dx o L∧cO L=0:=fun h2=>by
  unfold fY at h2⊢;by_cases q1:cm 2 (o2 o)≠0
  ·rw[aq q1]at h2;exact absurd q1 h2
  ·by_cases q2:cO L≠0
   ·rw[aw q1,aq q2]at h2;exact absurd q2 h2
   ·rw[aw q1,aw q2];exact⟨rfl,bF q2⟩
 obtain⟨W,hW⟩:=cR (vL o L);obtain⟨Y,hY⟩:=cR (fY o L);have NJ:=fun M (hb:aL B w0 M 4 (.slice A L.length c) L.length (cU L))=>C_ (F:=M) HT (o:=o) hx hb;rw[←hW]at hO1 hO2 hO3⊢;rw[←hY]at hO2 hO3 hbw;simp only[←hY]at NJ;obtain⟨bl,pl,bu,da,pa,ch⟩:=o;refine cB func27 28 rfl rfl rfl [(0,.agg #[ah bl,.bool pl,ah bu,ah da,ah pa,ah ch]),(1,.slice A L.length c)] ⟨⟨rfl,rfl⟩,⟨rfl,rfl⟩,trivial⟩ ?_;refine be ?_;refine bf fun g2=>?_;refine bM ?_;refine ai rfl (kC 2 (bl,pl,bu,da,pa,ch)) ?_;refine bP ?_;refine aj (fun mF=>?_) fun mF=>?_
 ·refine bP ?_;refine aC 5 1 none ?_;refine ao (.cons (.skip (.refl _))) ?_;refine aE ?_;rw[hO1 mF];exact⟨none,0,rfl,rfl⟩
 ·refine bB ?_;refine ay rfl (NJ _ hb.cons) fun T4 c17=>?_;refine dX ?_;refine aj (fun lV=>?_) fun lV=>?_
  ·refine bI ?_;refine ve [4,5] ?_;refine bH ?_;refine aC 5 1 none ?_;refine ao (.cons (.skip (.skip (.refl _)))) ?_;refine aE ?_;rw[hO2 mF lV];exact⟨none,0,rfl,rfl⟩
  ·obtain⟨fJ,ho2⟩:=hmk mF;obtain⟨⟨m1,m2⟩,_,m4,_,_⟩:=fJ;obtain⟨m5,m6⟩:=m4 (.inr rfl);have m5:1≤bu:=m5;have m6:bu≤64:=m6;have m1:16≤bl:=m1;have m2:bl≤32768:=m2;have hbB:=hbw lV;have Nz:=HA (o:=(bl,pl,bu,da,pa,ch)) (L:=L) (by rw[ho2];exact bF mF) hbB.2 hx;have Vm:(sr (bl,pl,bu,da,pa,ch)).length≤1000:=by
    unfold sr ou;have hn1:=aT (x:=(bl:Int).toNat) aa;have tW:=aT (x:=(bu:Int).toNat) aa;rw[du];simp only[aX,eh,sb,dY];omega
   have wR:(p8 (bl,pl,bu,da,pa,ch) L).length=(sr (bl,pl,bu,da,pa,ch)).length+(dx (bl,pl,bu,da,pa,ch) L).length:=aX;refine bI ?_;refine ay rfl (aao HT (o:=(bl,pl,bu,da,pa,ch)) (by show 0≤bl;omega) m2 (by show 0≤bu;omega) m6) fun Bh Dc=>?_;refine aE ?_;refine cH (aF fH [_,_] rfl rfl cA aa aa) fun s_=>?_;refine ay rfl (Qw (l:=p8 (bl,pl,bu,da,pa,ch) L) (l1:=sr (bl,pl,bu,da,pa,ch)) (l2:=Y.1) aB aB aB (by rw[hbB.1];rfl) aa) fun Gn Ly=>?_;refine be ?_;refine ve [4,5] ?_;refine be ?_;refine ao ((ef (.skip (.skip (.skip (.skip (.refl _))))))) ?_;refine aE ?_;rw[hO3 mF lV];exact⟨Gn,Ly,rfl,rfl⟩
abbrev Tb(g gc:Nat)(o:aO):Ch:=.bE g 179 [bq gc,ah o.1,.bool o.2.1,ah o.2.2.1,ah o.2.2.2.1,ah o.2.2.2.2.1,ah o.2.2.2.2.2]
theorem akQ(b:al):(th1 b).b=b:=Cs.cK _ _ _
theorem afh(b:al):(th2 b).b=b:=(Cs.cK _ _ _).trans (akQ b)
theorem akR(b:al):(WU b).b=b:=by
 unfold WU;split
 ·rw[qX];exact(Cs.cK _ _ _).trans (afh b)
 ·exact(Cs.cK _ _ _).trans (afh b)
theorem akS(b:al):(th4 b).b=b:=(Cs.cK _ _ _).trans (akR b)
theorem akT(b:al):(BU b).b=b:=(Cs.cK _ _ _).trans (akS b)
theorem afg{b:al}(h:b.length≤1099511627776):cu (th1 b):=(pf h).b_
theorem Ti{b:al}(h:b.length≤1099511627776):cu (th2 b):=(afg h).bX aa
theorem afi{b:al}(h:b.length≤1099511627776):cu (WU b):=by
 unfold WU;split
 ·exact(Ti h).eJ.failed _
 ·exact(Ti h).eJ
theorem afj{b:al}(h:b.length≤1099511627776):cu (th4 b):=(afi h).bX aa
theorem afk{b:al}(h:b.length≤1099511627776):cu (BU b):=(afj h).b_
theorem aar(b:al):rO b=if (BU b).e≠0 then (0,(BU b).e) else if (aK (b.take (BU b).at_)).2≠0 then (0,(aK (b.take (BU b).at_)).2) else ((BU b).at_,cm 2 (BV b)):=rfl
theorem alx(HT:bK B w0){l:al}(e:n=l.length)(hb:aL B w0 F 1 (.slice A n c) n (bv l))(hl:l.length≤1099511627776):
  a_ B w0 176 [.slice A n c] F (fun r L=>∃A' c',r= .tuple #[.slice A' (aK l).1.length c',ah (aK l).2]∧L= .own 5 1 A' (aK l).1.length c' (bv (aK l).1)::F):=by
 subst e;exact wF HT hb hl
theorem Jl(HT:bK B w0){b:al}{An:bj}{cn:Nat}(hb:fq B w0 F A c b)(hbn:fq B w0 F An cn b)(dh:b.length≤1000000000):
  a_ B w0 110 [bq g,.slice A b.length c] (Tb g gc ib::Cv gc An cn ⟨b,0,0⟩::F)
   (fun r L=>r= .tuple #[ah ((rO b).1:Int),ah (rO b).2]∧L=Tb g gc (BV b)::Cv gc An cn (BU b)::F):=by
 refine dP.zk hb.cons.cons fun oA _=>?_;have k1:=akQ b;have k2:=afh b;have k3:=akR b;have k4:=akS b;have k5:=akT b;have at5:=(afk (b:=b) aa).at_;rw[k5]at at5;have e1:th1 b=Cs.b_ ⟨b,0,0⟩ 5:=rfl;have e2:th2 b=(th1 b).bX 32768:=rfl;have e4:th4 b=(WU b).bX 64:=rfl;have e5:BU b=(th4 b).b_ 4:=rfl;obtain⟨bl,GR⟩:=cR ((th1 b).int 32768);have al7:((bl:Nat):Int)≤32768:=by rw[GR];exact Cs.gy _ aa aa
 obtain⟨bu,al8⟩:=cR ((WU b).int 64);have atL:((bu:Nat):Int)≤64:=by rw[al8];exact Cs.gy _ aa aa
 have hx8:=mH (Z_ b);obtain⟨y,hy⟩:=cR ((Z_ b).toNat);have hO:BV b=(((bl:Nat):Int),decide ((y:Int)=1),((bu:Nat):Int),0,0,0):=by
  unfold BV;rw[←GR,←al8,←hy];congr 2;exact z_.2 ⟨fun h=>by omega,fun h=>aa⟩
 have hE:=aar b;have acU:aL B w0 F 1 (.slice A (BU b).at_ c) (BU b).at_ (bv (b.take (BU b).at_)):=by
  have:=hb.js (k:=(BU b).at_) at5;rw[kI,cE]at this;exact this
 have Cc:(b.take (BU b).at_).length=(BU b).at_:=by rw[eV];omega
 rw[hO]at hE⊢;rw[←hy]at hx8;refine fw func110 88 [0,1] ?_;refine cD ?_;refine ay rfl (.perm (ma (g:=gc) (s:=⟨b,0,0⟩) (m:=5) (pf aa) hbn.cons aa aa) ((l0 (fT (.refl _))))) fun A14 c14=>?_;refine bH ?_;rw[←e1];refine yX ((ef (gl (.skip (.refl _))))) ?_;refine bB ?_;refine ai rfl (iI (s:=th1 b) (most:=32768) (afg aa) (by rw[k1];exact hbn.cons) aa aa) ?_;refine bD ?_;rw[←e2,←GR];refine bI ?_;refine ai rfl (ov (s:=th2 b) (Ti aa) (by rw[k2];exact hbn.cons)) ?_;refine aE ?_;refine ve [0,1,6] ?_;refine aE ?_;refine d_ (fun zf zL=>Sub zf [(0,bq g),(1,.slice A b.length c),(6,.int .u8 (y:Int))]∧Wk zL (Cv gc An cn (WU b)::Tb g gc (((bl:Nat):Int),false,0,0,0,0)::F)) ?_ ?_
 ·refine aE ?_;refine Bb [(0,bq g),(1,.slice A b.length c),(6,.int .u8 (y:Int))] ⟨rfl,rfl,(by rw[hy];rfl),trivial⟩ ?_;refine bI ?_;refine aj (fun y'=>?_) fun y'=>?_
  ·refine bI ?_;refine ai rfl (nf 2) ?_;refine aE ?_;exact bC ⟨bm,mK (by unfold WU;rw[aq aa]) (.refl _)⟩
  ·refine aE ?_;exact bC ⟨bm,mK (by unfold WU;rw[aw aa]) (.refl _)⟩
 ·rintro _ _ ⟨hs,hp⟩;refine aU hs hp ?_;clear hs hp;refine tQ ?_;refine ai rfl (iI (s:=WU b) (most:=64) (afi aa) (by rw[k3];exact hbn.cons) aa aa) ?_;refine bD ?_;rw[←e4,←al8];refine bI ?_;refine ay rfl (ma (s:=th4 b) (m:=4) (afj aa) (by rw[k4];exact hbn.cons) aa aa) fun A55 c55=>?_;refine ve [0,1] ?_;refine bH ?_;rw[←e5];refine yX ((ef (gl (.skip (.refl _))))) ?_;refine bI ?_;refine ai rfl (gO) ?_;refine bP ?_;refine aj (fun h62=>?_) fun h62=>?_
  ·refine bP ?_;refine ao ((gl (ef (.refl _)))) ?_;refine aE ?_;exact⟨by rw[hE,aq h62];rfl,rfl⟩
  ·refine bz ?_;refine ai rfl (zC) ?_;refine ae (bZ (i:=(BU b).at_) (size:=1) underlying27 ag rfl rfl rfl aa) rfl ?_;refine ay rfl (alx HT (l:=b.take (BU b).at_) Cc.symm acU.cons.cons aa) fun A72 c72=>?_;refine bI ?_;refine ve [0,9] ?_;refine bD ?_;refine aj (fun h76=>?_) fun h76=>?_
   ·refine bP ?_;refine ao ((rP (gl (.skip (.refl _))))) ?_;refine aE ?_;exact⟨by rw[hE,aw h62,aq h76];rfl,rfl⟩
   ·refine bM ?_;refine jE aoZ rfl (zC.jj ((l0 (fT (.refl _))))) wA rfl ?_;refine bH ?_;refine bU (bQ 6 ag rfl aV (aO.cells (((bl:Nat):Int),decide ((y:Int)=1),((bu:Nat):Int),0,0,0)) rfl rfl) rfl ?_;refine jE arL rfl (kC 2 (((bl:Nat):Int),decide ((y:Int)=1),((bu:Nat):Int),0,0,0)) wA rfl ?_;refine bI ?_;refine ao ((rP (gl (.skip (.refl _))))) ?_;refine aE ?_;exact⟨by rw[hE,aw h62,aw h76],rfl⟩
section
theorem Mc{P:Prop}(h:P:=by(rw[h];simp)):P:=h
theorem HC{o:aO}{b:al}(dh:b.length≤1000000)(h:(ej o b).2=0):sC (ej o b).1:=by
 by_cases h1:cm 2 (o2 o)≠0
 ·rw[JE h1]at h;exact absurd h h1
 ·by_cases h2:(f_ b).2.2≠0
  ·rw[JF h1 h2]at h;exact absurd h h2
  ·by_cases h3:GH (dT b) (qA b).length≠0
   ·rw[JG h1 h2 h3]at h;exact absurd h h3
   ·by_cases h4:xK (fb (dT b)).1.sum (wD b)≠0
    ·rw[JH h1 h2 h3 h4]at h;exact absurd h h4
    ·by_cases h5:(aK (vz b)).2≠0
     ·rw[Uk h1 h2 h3 h4 h5]at h;exact absurd h h5
     ·by_cases h6:(eF o.2.2.1 ((fb (dT b)).1.sum:Nat) (aK (vz b)).1).2.2≠0
      ·rw[Ul h1 h2 h3 h4 h5 h6]at h;exact absurd h h6
      ·rw[Um h1 h2 h3 h4 h5 h6];exact als dh h1 h3 h4
theorem Uo(HT:bK B w0){o:aO}{b:al}(e:n=b.length)(hb:aL B w0 F 1 (.slice A n c) n (bv b))(dh:b.length≤1000000)(h:(ej o b).2≠0):a_ B w0 111 [.agg (aO.cells o).toArray,.slice A n c] F (Xk (ej o b).2 F):=by
 subst e;exact(Un HT hb dh).mono fun r L hr=>hr.elim (fun q=>q.2) fun q=>absurd q.1 h
theorem Up(HT:bK B w0){o:aO}{b:al}(e:n=b.length)(hb:aL B w0 F 1 (.slice A n c) n (bv b))(dh:b.length≤1000000)(h:(ej o b).2=0):a_ B w0 111 [.agg (aO.cells o).toArray,.slice A n c] F (an6 (ej o b).1 B w0 F):=by
 subst e;exact(Un HT hb dh).mono fun r L hr=>hr.elim (fun q=>absurd h q.1) fun q=>q.2
section
variable{b:al}
theorem TA(h:(marked b).2≠0):iu b=(ib,.nil,(marked b).2):=by unfold iu;rw[aq h]
theorem TC(h:¬(marked b).2≠0)(h2:(marked b).1≠2):iu b=(ib,.nil,4):=by unfold iu;rw[aw h,aq h2]
theorem TD(h:¬(marked b).2≠0)(h2:¬(marked b).1≠2)(h3:(rO b).2≠0):iu b=(ib,.nil,(rO b).2):=by unfold iu;rw[aw h,aw h2,aq h3]
theorem TF(h:¬(marked b).2≠0)(h2:¬(marked b).1≠2)(h3:¬(rO b).2≠0)(h4:(ej (BV b) (b.drop (rO b).1)).2≠0):iu b=(ib,.nil,(ej (BV b) (b.drop (rO b).1)).2):=by unfold iu;rw[aw h,aw h2,aw h3,aq h4]
theorem TH(h:¬(marked b).2≠0)(h2:¬(marked b).1≠2)(h3:¬(rO b).2≠0)(h4:¬(ej (BV b) (b.drop (rO b).1)).2≠0):iu b=(BV b,(ej (BV b) (b.drop (rO b).1)).1,0):=by unfold iu;rw[aw h,aw h2,aw h3,aw h4]
end
theorem afl{b:al}(h:b.length≤1000000):(rO b).1≤b.length:=by
 have at5:=(afk (b:=b) aa).at_;rw[akT]at at5;unfold rO;split
 ·simp
 ·split
  ·simp
  ·exact at5
def arA(o:aO)(x:iv)(B:Nat)(w0:World)(F:aR)(r:Value)(L:aR):Prop:=∃g N,r= .tuple #[.agg (aO.cells o).toArray,bq g,ah 0]∧L=N++F∧CS B w0 N g x
def arB(e:Int)(F:aR)(r:Value)(L:aR):Prop:=r= .tuple #[.agg (aO.cells ib).toArray,.pointer none,ah e]∧L=F
theorem aap(HT:bK B w0){b:al}(hb:fq B w0 F A c b)(dh:b.length≤1000000)(h:(iu b).2.2≠0):a_ B w0 57 [.slice A b.length c] F (arB (iu b).2.2 F):=by
 have hle:=afl dh;have oB:=fF (BV b);have D_:=fF ib;refine fw func57 58 [0] ?_;refine be ?_;refine bg fun g2=>?_;refine bD ?_;refine ai rfl (uq hb.cons aa) ?_;refine jU ?_;refine aj (fun kS=>?_) fun kS=>?_
 ·refine be ?_;refine ae (cv [ah 0,.bool false,ah 0,ah 0,ah 0,ah 0] ag) rfl ?_;refine bP ?_;refine qw rfl rfl ag aV gD rfl rfl (.skip (.refl _)) ?_;rw[TA kS];exact⟨rfl,rfl⟩
 ·refine bD ?_;refine aj (fun ja=>?_) fun ja=>?_
  ·refine be ?_;refine ae (cv [ah 0,.bool false,ah 0,ah 0,ah 0,ah 0] ag) rfl ?_;refine bH ?_;refine ve [2,3,4] ?_;refine b8 ?_;refine qw rfl rfl ag aV gD rfl rfl (.skip (.refl _)) ?_;rw[TC kS ja];exact⟨rfl,rfl⟩
  ·refine bB ?_;refine eK rfl (mT hb.cons aa) fun gn An cn=>?_;refine ae (br [(0,_)] [.pointer none,ah 0,.bool false,ah 0,ah 0,ah 0,ah 0] [0] [_,_,_,_,_,_,_] rfl rfl ag) rfl ?_;refine bf fun g27=>?_;refine aE ?_;refine ve [0,2,7] ?_;refine bI ?_;refine ai rfl (Jl HT hb.cons.cons (aL.own (.head _)) aa) ?_;refine dX ?_;refine aj (fun tR=>?_) fun tR=>?_
   ·refine be ?_;refine ae (cv [ah 0,.bool false,ah 0,ah 0,ah 0,ah 0] ag) rfl ?_;refine bM ?_;refine qw rfl rfl ag aV gD rfl rfl (.skip (.skip (.skip (.skip (.refl _))))) ?_;rw[TD kS ja tR];exact⟨rfl,rfl⟩
   ·have h4:(ej (BV b) (b.drop (rO b).1)).2≠0:=fun k=>by
     rw[TH kS ja tR (by rw[k];simp)]at h;exact h rfl
    have hcut:aL B w0 F 1 (.slice (if c=(rO b).1 then A else A.map (·.add ((rO b).1*1))) (b.length-(rO b).1) (c-(rO b).1)) (b.length-(rO b).1) (bv (b.drop (rO b).1)):=by
     have:=hb.cut hle;rw[jv,cE]at this;rw[cE];exact this
    refine bH ?_;refine cC (Tb g27 gn (BV b)::Cv gn An cn (BU b):: .own 5 1 An b.length cn (bv b):: .bE g2 23 [ah 0,.bool false,ah 0,ah 0,ah 0,ah 0]::F) ?_;refine ab 0 ?_;refine ab 1 ?_;refine ab 2 ?_;refine aW 3 rfl (bQ 6 ag rfl aV (aO.cells (BV b)) rfl rfl) ?_;refine ab 4 ?_;refine ab 5 ?_;refine aW 6 rfl (bT (i:=(rO b).1) (size:=1) underlying27 ag rfl rfl rfl aa) ?_;refine az 7 ?_;refine iZ rfl rfl (Uo HT (b:=b.drop (rO b).1) (by rw[iN]) hcut.cons.cons.cons.cons kR h4) ?_;refine ab 8 ?_;refine ab 9 ?_;refine ab 10 ?_;refine ab 11 ?_;refine ab 12 ?_;refine cP [2,6,7,9] ?_;refine bM ?_;refine aj (fun Iq=>?_) fun Iq=>?_
    ·refine be ?_;refine ae (cv [ah 0,.bool false,ah 0,ah 0,ah 0,ah 0] ag) rfl ?_;refine bM ?_;refine qw rfl rfl ag aV gD rfl rfl (.skip (.skip (.skip (.skip (.refl _))))) ?_;rw[TF kS ja tR h4];exact⟨rfl,rfl⟩
    ·exfalso;exact Iq h4
theorem aaq(HT:bK B w0){b:al}(hb:fq B w0 F A c b)(dh:b.length≤1000000)(h:(iu b).2.2=0):a_ B w0 57 [.slice A b.length c] F (arA (iu b).1 (iu b).2.1 B w0 F):=by
 have hle:=afl dh;have oB:=fF (BV b);have D_:=fF ib;refine fw func57 58 [0] ?_;refine be ?_;refine bg fun g2=>?_;refine bD ?_;refine ai rfl (uq hb.cons aa) ?_;refine jU ?_;refine aj (fun kS=>?_) fun kS=>?_
 ·exfalso;rw[TA kS]at h;exact kS h
 ·refine bD ?_;refine aj (fun ja=>?_) fun ja=>?_
  ·exfalso;rw[TC kS ja]at h;exact absurd h aA
  ·refine bB ?_;refine eK rfl (mT hb.cons aa) fun gn An cn=>?_;refine ae (br [(0,_)] [.pointer none,ah 0,.bool false,ah 0,ah 0,ah 0,ah 0] [0] [_,_,_,_,_,_,_] rfl rfl ag) rfl ?_;refine bf fun g27=>?_;refine aE ?_;refine ve [0,2,7] ?_;refine bI ?_;refine ai rfl (Jl HT hb.cons.cons (aL.own (.head _)) aa) ?_;refine dX ?_;refine aj (fun tR=>?_) fun tR=>?_
   ·exfalso;rw[TD kS ja tR]at h;exact tR h
   ·have h4:(ej (BV b) (b.drop (rO b).1)).2=0:=bF fun k=>by
     rw[TF kS ja tR k]at h;exact k h
    have hcut:aL B w0 F 1 (.slice (if c=(rO b).1 then A else A.map (·.add ((rO b).1*1))) (b.length-(rO b).1) (c-(rO b).1)) (b.length-(rO b).1) (bv (b.drop (rO b).1)):=by
     have:=hb.cut hle;rw[jv,cE]at this;rw[cE];exact this
    refine bH ?_;refine cC (Tb g27 gn (BV b)::Cv gn An cn (BU b):: .own 5 1 An b.length cn (bv b):: .bE g2 23 [ah 0,.bool false,ah 0,ah 0,ah 0,ah 0]::F) ?_;refine ab 0 ?_;refine ab 1 ?_;refine ab 2 ?_;refine aW 3 rfl (bQ 6 ag rfl aV (aO.cells (BV b)) rfl rfl) ?_;refine ab 4 ?_;refine ab 5 ?_;refine aW 6 rfl (bT (i:=(rO b).1) (size:=1) underlying27 ag rfl rfl rfl aa) ?_;refine az 7 ?_;refine gC rfl .no ajR rfl (Up HT (b:=b.drop (rO b).1) (by rw[iN]) hcut.cons.cons.cons.cons kR h4) rfl (by rintro _ _ ⟨gB,N,rfl,rfl,hBB⟩;exact gF) ?_;rintro _ _ ⟨gB,N,rfl,cJ,hBB⟩;obtain rfl:=cJ.symm;refine ab 8 ?_;refine ab 9 ?_;refine ab 10 ?_;refine ab 11 ?_;refine ab 12 ?_;refine cP [2,6,7,9] ?_;refine bH ?_;refine fR IK ?_;rw[nE,nE,nE,nE];refine bI ?_;refine aj (fun Iq=>?_) fun Iq=>?_
    ·exfalso;exact Iq rfl
    ·refine bD ?_;refine ae (bQ 6 ag rfl aV (aO.cells (BV b)) rfl rfl) rfl ?_;refine bD ?_;refine qw rfl rfl ag aV gD rfl rfl (.skip (.skip (.skip (.skip (.dE IK))))) ?_;rw[TH kS ja tR (by rw[h4];simp)];exact⟨gB,N,rfl,rfl,hBB⟩
theorem PM{b:al}(dh:b.length≤1000000)(h:(iu b).2.2=0):sC (iu b).2.1:=by
 by_cases h1:(marked b).2≠0
 ·rw[TA h1]at h;exact absurd h h1
 ·by_cases h2:(marked b).1≠2
  ·rw[TC h1 h2]at h;exact absurd h aA
  ·by_cases h3:(rO b).2≠0
   ·rw[TD h1 h2 h3]at h;exact absurd h h3
   ·by_cases h4:(ej (BV b) (b.drop (rO b).1)).2≠0
    ·rw[TF h1 h2 h3 h4]at h;exact absurd h h4
    ·rw[TH h1 h2 h3 h4];exact HC kR (bF h4)
theorem afM{b:al}(h:(iu b).2.2≠0):mq b=(ib,[],0,(iu b).2.2):=by unfold mq;rw[aq h]
theorem afN{b:al}(h:¬(iu b).2.2≠0)(h2:(jn (iu b).2.1).2≠0):mq b=(ib,[],0,(jn (iu b).2.1).2):=by unfold mq;rw[aw h,aq h2]
theorem afO{b:al}(h:¬(iu b).2.2≠0)(h2:¬(jn (iu b).2.1).2≠0):mq b=((iu b).1,(jn (iu b).2.1).1,(iu b).2.1.ns.length,0):=by unfold mq;rw[aw h,aw h2]
theorem PO(HT:bK B w0){b:al}(hb:fq B w0 F A c b)(dh:b.length≤1000000)(h:(iu b).2.2≠0):a_ B w0 69 [.slice A b.length c] F (UnA (mq b) F):=by
 have D_:=fF ib;refine fw func69 34 [0] ?_;refine be ?_;refine bg fun g2=>?_;refine bM ?_;refine ai rfl (aap HT hb.cons dh h) ?_;refine b8 ?_;refine bg fun g6=>?_;refine cD ?_;refine aj (fun iy=>?_) fun iy=>?_
 ·refine be ?_;refine ae (cv [ah 0,.bool false,ah 0,ah 0,ah 0,ah 0] ag) rfl ?_;refine bI ?_;refine ve [2,3,4,5] ?_;refine bH ?_;refine aC 62 4 none ?_;refine nk rfl rfl ag aV gD rfl rfl rfl (.cons (.skip (.skip (.refl _)))) ?_;rw[afM h];exact⟨none,0,rfl,rfl⟩
 ·exfalso;exact iy h
theorem PQ(HT:bK B w0){b:al}(hb:fq B w0 F A c b)(dh:b.length≤1000000)(h:(iu b).2.2=0):a_ B w0 69 [.slice A b.length c] F (UnA (mq b) F):=by
 have kT:=PM dh h;have oB:=fF (iu b).1;refine fw func69 34 [0] ?_;refine be ?_;refine bg fun g2=>?_;refine bM ?_;refine ba arJ rfl (aaq HT hb.cons dh h) rfl ?_;rintro _ _ ⟨gB,N,rfl,cJ,hBB⟩;obtain rfl:=cJ.symm;refine b8 ?_;refine bg fun g6=>?_;refine bD ?_;refine fR (List.perm_middle.cons _) ?_;refine bI ?_;refine aj (fun iy=>?_) fun iy=>?_
 ·exfalso;exact iy rfl
 ·refine bI ?_;refine ay rfl (abf HT kT (hBB.mono (((vH _ _).cons _).cons _))) fun Ar cr=>?_;refine bI ?_;refine ve [2,6,7,8,9] ?_;refine bM ?_;refine aj (fun qG=>?_) fun qG=>?_
  ·refine be ?_;refine ae (cv [ah 0,.bool false,ah 0,ah 0,ah 0,ah 0] ag) rfl ?_;refine bP ?_;refine aC 62 4 none ?_;refine nk rfl rfl ag aV gD rfl rfl rfl (.cons (.skip (.skip (.skip (dA N F))))) ?_;rw[afN Mc qG];exact⟨none,0,rfl,rfl⟩
  ·refine bH ?_;refine cC (.own 62 4 Ar (jn (iu b).2.1).1.length cr (cU (jn (iu b).2.1).1):: .bE g6 23 (aO.cells (iu b).1)::(N++F)) ?_;refine aW 0 rfl (bQ 6 ag rfl aV (aO.cells (iu b).1) rfl rfl) ?_;refine ab 1 ?_;refine ab 2 ?_;refine az 3 ?_;refine b7 rfl rfl (Hx kT (hBB.mono (((((vH _ _)).cons _).cons _).cons _))) fun Ak ck=>?_;refine ab 4 ?_;refine az 5 ?_;refine aE ?_;refine ab 6 ?_;refine ab 7 ?_;refine ab 8 ?_;refine bH ?_;refine nk rfl rfl ag aV gD rfl rfl rfl (.skip (.cons (.skip (.skip (dA N F))))) ?_;rw[afO Mc qG];exact⟨Ar,cr,rfl,rfl⟩
end
theorem Nn{x:Nat}(hx:x<65536):a_ B w0 51 [.int .u64 x,ah 2] F (fun r L=>∃A' c',r= .tuple #[.slice A' (fI x 2).length c',ah 0]∧L= .own 5 1 A' (fI x 2).length c' (bv (fI x 2))::F):=by
 have CB:((x:Nat):Int).fdiv (2^min ((16:Int)).toNat IntKind.u64.bits)=0:=by
  have:=WA x (k:=2) aa;rw[show((8*2:Nat):Int)=16 from rfl]at this;rw[this,show 8*2=16 from rfl];have:x/2^16=0:=BC aa;omega
 refine fw func51 42 [0,1] ?_;refine cD ?_;refine aI rfl rfl rfl (fun jB=>?_) (fun jB=>?_)
 ·refine bI ?_;refine aI rfl rfl rfl (fun jC=>?_) (fun jC=>?_)
  ·refine bI ?_;refine ct (fun iy=>?_) fun iy=>?_
   ·refine b8 ?_;refine ae (e_ rfl rfl (r:=16) rfl) rfl ?_;refine aE ?_;refine ae (di rfl rfl aa (r:=0) CB) rfl ?_;refine bI ?_;refine ve [0,1,24] ?_;refine aE ?_;refine aj (fun oh=>?_) fun oh=>?_
    ·exfalso;exact oh rfl
    ·refine bI ?_;refine cH (fc (nn:=2) (cc:=2) cN rfl rfl rfl rfl rfl aa aa aa) fun s_=>?_;refine cD ?_;refine aD (fun zf zL zm=>∃(k:Nat),(k≤2)∧2-k=zm∧Sub zf [(0,.int .u64 x),(6,.slice s_ 2 2),(28,ah 2),(29,ah k)]∧Wk zL (.own 5 1 s_ 2 2 (bv (fI x k)++List.replicate (2-k) (.int .u8 0))::F)) _ ⟨0,bS _,rfl,bm,.refl _⟩ ?_;rintro _ _ _ ⟨k,hk,rfl,hs,hp⟩;refine aU hs hp ?_;clear hs hp;refine bB ?_;refine aj (fun y'=>?_) fun y'=>?_
     ·refine i_ ?_;refine ae (e_ rfl rfl (r:=((8*k:Nat):Int)) ((bG aa aa).trans aa)) rfl ?_;refine ae (di rfl rfl aa (r:=((x/2^(8*k):Nat):Int)) (WA x aa)) rfl ?_;refine ae (bw underlying60 underlying5 rfl (r:=((x/2^(8*k)%256:Nat):Int)) (y9 _)) rfl ?_;refine bP ?_;refine av ⟨_,aa,k+1,aa,rfl,bm,ax rfl (by rw[cE];exact U0 aa _ rfl) (.refl _)⟩
     ·obtain rfl:k=2:=by omega
      refine c_ ?_;refine ao (L':=.own 5 1 s_ (fI x 2).length 2 (bv (fI x 2))::F) (ax ak ak (.refl _)) ?_;refine aE ?_;exact⟨s_,2,ak,rfl⟩
   ·exfalso;omega
  ·exfalso;omega
 ·exfalso;omega
theorem DY(s:Cs):(s.take 2).length≤2:=by
 unfold Cs.take;split
 ·simp
 ·split
  ·simp
  ·rw[eV];omega
theorem HN(ho:cu s)(hb:aL B w0 F 1 (.slice A s.b.length c) s.b.length (bv s.b)):
  a_ B w0 197 [bq g,ah 2] (Cv g A c s::F) (fun r L=>r= .int .u64 (s.fixed 2)∧L=Cv g A c (s.kZ 2)::F):=by
 have e1:s.fixed 2=iO (s.take 2):=by unfold Cs.fixed;rw[aw aa]
 have e2:s.kZ 2=s.b_ 2:=by unfold Cs.kZ;rw[aw aa]
 have hl:=DY s;obtain⟨t,ht⟩:=cR (s.take 2);rw[e1,e2];rw[←ht]at hl⊢;refine fw func197 34 [0,1] ?_;refine dm ?_;refine aI rfl rfl rfl (fun jB=>?_) (fun jB=>?_)
 ·refine bB ?_;refine dj fun nh=>?_;refine cD ?_;refine ay rfl (ma ho hb (m:=2) aa aa) fun s8 uR=>?_;rw[←ht];refine bI ?_;refine aD (fun zf zL zm=>∃(k:Nat),(k≤t.length)∧t.length-k=zm∧Sub zf [(5,.int .u64 (iO (t.take k))),(18,.slice s8 t.length uR),(19,ah t.length),(20,ah k)]∧Wk zL (Cv g A c (s.b_ 2):: .own 5 1 s8 t.length uR (bv t)::F)) _ ⟨0,bS _,rfl,bm,.refl _⟩ ?_;rintro _ _ _ ⟨k,hk,rfl,hs,hp⟩;refine aU hs hp ?_;clear hs hp;refine bB ?_;refine aj (fun lV=>?_) fun lV=>?_
  ·obtain⟨y,hy⟩:=cR ((t.getD k 0).toNat);have hy8:y<256:=by rw[hy];exact mH _
   have fP:=rr (t.take k);rw[eV,zd hk]at fP;have sN:iO (t.take (k+1))=iO (t.take k)+256^k*y:=by rw[aZ aa 0,BL,eV,zd hk,←hy]
   refine bM ?_;refine ae (au (v:=.int .u8 (y:Int)) ag rfl aB aa (by rw[hy];exact abh aa)) rfl ?_;refine bD ?_;refine ae (bw underlying5 underlying60 rfl (r:=(y:Int)) (ga aa aa)) rfl ?_;refine aE ?_;refine ae (e_ rfl rfl (r:=((8*k:Nat):Int)) ((bG aa aa).trans aa)) rfl ?_;refine ae (gb rfl rfl aa (r:=((y*256^k:Nat):Int)) (akH aa hy8)) rfl ?_;refine ae (tL rfl rfl (r:=((iO (t.take (k+1)):Nat):Int)) ((aqN aa hy8 fP).trans vS)) rfl ?_;refine bM ?_;refine av ⟨_,aa,k+1,aa,rfl,bm,.refl _⟩
  ·obtain rfl:k=t.length:=by omega
   rw[jN];refine cD ?_;refine ao (.cons (.skip (.refl _))) ?_;refine aE ?_;exact⟨rfl,rfl⟩
 ·exfalso;omega
theorem alk{P:Prop}(h:P:=by(rw[si (by omega)];omega)):P:=h
theorem aoi{P:Prop}(h:P:=by(exact eT (by first|exact⟨fun k=>⟨sL,oO,k⟩,fun k=>k.2.2⟩|exact fun k=>oO k.2.1|exact fun k=>sL k.1))):P:=h
abbrev Hb(g:Nat)(o:aO)(n p:Nat):Ch:=.bE g 119 [ah o.1,.bool o.2.1,ah o.2.2.1,ah o.2.2.2.1,ah o.2.2.2.2.1,ah o.2.2.2.2.2,ah (n:Int),.int .u8 (p:Int)]
theorem Jf(HT:bK B w0){o:aO}{n p:Nat}(ho:cm 3 o=0)(hn:n<4294967296):
  a_ B w0 123 [bq g] (Hb g o n p::F) (Gp (jo o n) (Hb g o n p::F)):=by
 obtain⟨⟨m1,m2⟩,m3,m4,_,_⟩:=(lR ho).1;obtain⟨⟨k1,k2⟩,⟨k3,k4⟩,⟨k5,k6⟩⟩:=m3 rfl;obtain⟨m5,m6⟩:=m4 (.inl rfl);clear ho m3 m4;obtain⟨bl,pl,bu,da,pa,ch⟩:=o;simp only at m1 m2 m5 m6 k1 k2 k3 k4 k5 k6;obtain⟨S,rfl⟩:=gM (show 0≤bl by omega);obtain⟨u,rfl⟩:=gM (show 0≤bu by omega);obtain⟨d,rfl⟩:=gM (show 0≤da by omega);obtain⟨q,rfl⟩:=gM (show 0≤pa by omega);obtain⟨hc,rfl⟩:=gM (show 0≤ch by omega);have hH:wq ((S:Int),pl,(u:Int),(d:Int),(q:Int),(hc:Int)) n=(dY++[3])++([fL pl,UInt8.ofNat u,UInt8.ofNat d,UInt8.ofNat q]++(fI hc 2++(fI S 2++fI n 4))):=rfl;have hHl:(wq ((S:Int),pl,(u:Int),(d:Int),(q:Int),(hc:Int)) n).length≤30:=by
  rw[hH];simp[dY]
 have hTH:jo ((S:Int),pl,(u:Int),(d:Int),(q:Int),(hc:Int)) n=cY (wq ((S:Int),pl,(u:Int),(d:Int),(q:Int),(hc:Int)) n):=rfl;rw[hTH];obtain⟨H0,hH0⟩:=cR (wq ((S:Int),pl,(u:Int),(d:Int),(q:Int),(hc:Int)) n);rw[←hH0]at hH hHl⊢;refine fw func123 77 [0] ?_;refine bD ?_;refine ay rfl (Sq 3) fun xi Gc=>?_;refine bM ?_;rw[show(qo 3).1=dY++[3] from rfl];refine b8 ?_;refine d_ (fun zf zL=>Sub zf [(0,bq g),(3,.slice xi (dY++[3]:al).length Gc),(5,.int .u8 ((fL pl).toNat:Int))]∧Wk zL (.own 5 1 xi (dY++[3]:al).length Gc (bv (dY++[3]))::Hb g ((S:Int),pl,(u:Int),(d:Int),(q:Int),(hc:Int)) n p::F)) ?_ ?_
 ·refine bP ?_;refine h_ (fun ja=>?_) fun ja=>?_
  ·subst ja;refine bH ?_;exact bC ⟨bm,.refl _⟩
  ·subst ja;refine aE ?_;exact bC ⟨bm,.refl _⟩
 ·rintro _ _ ⟨hs,hp⟩;refine aU hs hp ?_;clear hs hp;refine bD ?_;refine ae (bw underlying3 underlying60 rfl (r:=((hc:Nat):Int)) (ga aa aa)) rfl ?_;refine ay rfl (Nn (x:=hc) aa) fun Bi Bq=>?_;refine dX ?_;refine ae (bw underlying3 underlying60 rfl (r:=((S:Nat):Int)) (ga aa aa)) rfl ?_;refine ay rfl (Nn (x:=S) aa) fun LU P8=>?_;refine bI ?_;refine ve [0,3,5,6,8] ?_;refine bD ?_;refine ae (bw underlying3 underlying60 rfl (r:=((n:Nat):Int)) (ga aa aa)) rfl ?_;refine ay rfl (No (x:=n) aa) fun A47 c47=>?_;refine bM ?_;refine cC (.own 5 1 A47 (fI n 4).length c47 (bv (fI n 4)):: .own 5 1 LU (fI S 2).length P8 (bv (fI S 2)):: .own 5 1 Bi (fI hc 2).length Bq (bv (fI hc 2)):: .own 5 1 xi (dY++[3]:al).length Gc (bv (dY++[3]))::Hb g ((S:Int),pl,(u:Int),(d:Int),(q:Int),(hc:Int)) n p::F) ?_;refine ab 0 ?_;refine ab 1 ?_;refine ab 2 ?_;refine ab 3 ?_;refine ab 4 ?_;refine ab 5 ?_;refine ab 6 ?_;refine aW 7 rfl (bw underlying3 underlying5 rfl (r:=((UInt8.ofNat u).toNat:Int)) ((y9 _).trans alk)) ?_;refine ab 8 ?_;refine ab 9 ?_;refine ab 10 ?_;refine ab 11 ?_;refine ab 12 ?_;refine aW 13 rfl (bw underlying3 underlying5 rfl (r:=((UInt8.ofNat d).toNat:Int)) ((y9 _).trans alk)) ?_;refine ab 14 ?_;refine ab 15 ?_;refine ab 16 ?_;refine ab 17 ?_;refine ab 18 ?_;refine aW 19 rfl (bw underlying3 underlying5 rfl (r:=((UInt8.ofNat q).toNat:Int)) ((y9 _).trans alk)) ?_;refine ab 21 ?_;refine ab 22 ?_;refine ab 23 ?_;refine az 20 ?_;refine cQ rfl (aF cN [_,_,_,_] rfl rfl cA aa aa) fun A70=>?_;refine az 24 ?_;refine cQ rfl (aF fH [_,_,_,_,_] rfl rfl cA aa aa) fun A74=>?_;refine az 25 ?_;refine b7 rfl rfl (Jw (l1:=dY++[3]) (l2:=[fL pl,UInt8.ofNat u,UInt8.ofNat d,UInt8.ofNat q]) (l3:=fI hc 2) (l4:=fI S 2) (l5:=fI n 4) aB aB aB aB aB aB hH aa) fun A75 c75=>?_;refine az 26 ?_;refine b7 rfl rfl (qC HT (l:=H0) aB aa) fun A76 c76=>?_;refine ab 27 ?_;refine cP [2] ?_;refine be ?_;refine ao ((ef (wu7 (.skip (.skip (.skip (.skip (.skip (.skip (.skip (.refl _))))))))))) ?_;refine aE ?_;exact⟨A76,c76,rfl,rfl⟩
theorem abH{b:al}(h:b.length<42):a_ B w0 131 [.slice A b.length c] F (fun r L=>r= .tuple #[.slice none 0 0,.slice none 0 0,.bool false]∧L=F):=by
 refine fw func131 15 [0] ?_;refine i_ ?_;refine zJ fun h7=>?_;refine bz ?_;exact⟨rfl,rfl⟩
theorem MM{b:al}(dh:b.length≤1000000000)(hc:b.length≤c)(h:¬b.length<42):a_ B w0 131 [.slice A b.length c] F (fun r L=>r= .tuple #[.slice A 21 c,.slice (if c=b.length-21 then A else A.map (·.add ((b.length-21)*1))) (b.length-(b.length-21)) (c-(b.length-21)),.bool true]∧L=F):=by
 refine fw func131 15 [0] ?_;refine i_ ?_;refine dj fun h7=>?_;refine bI ?_;refine bU (bZ (i:=21) (size:=1) underlying27 ag rfl rfl rfl aa) rfl ?_;refine bH ?_;refine bU (dQ rfl rfl (r:=((b.length-21:Nat):Int)) ((bG aa aa).trans aa)) rfl ?_;refine bU (bT (i:=b.length-21) (size:=1) underlying27 ag rfl rfl rfl aa) rfl ?_;refine bD ?_;exact⟨rfl,rfl⟩
theorem MN(HT:bK B w0){l:al}(e:n=l.length)(hb:aL B w0 F 1 (.slice A n c) n (bv l))(hl:l.length≤1000000000):a_ B w0 196 [.slice A n c] F (fun r L=>r= .bool (decide (zq l))∧L=F):=by
 subst e;refine cB func196 27 rfl rfl rfl [(0,.slice A l.length c)] ⟨⟨rfl,rfl⟩,trivial⟩ ?_;refine bM ?_;refine ay rfl (wF HT hb aa) fun A9 c9=>?_;refine bz ?_;refine ai rfl (uq hb.cons aa) ?_;refine bP ?_;refine bR 10 26 [] (zq l) ?_ ?_
 ·refine bH ?_;refine ct (fun sL=>?_) fun sL=>?_
  ·refine bI ?_;refine ct (fun oO=>?_) fun oO=>?_
   ·refine b8 ?_;exact aM (by exact dU (by first|exact⟨fun k=>⟨sL,oO,k⟩,fun k=>k.2.2⟩|exact fun k=>oO k.2.1|exact fun k=>sL k.1))
   ·refine be ?_;exact aM aoi
  ·refine bB ?_;exact aM aoi
 ·refine b8 ?_;refine ao (.skip (.refl _)) ?_;refine aE ?_;exact⟨rfl,rfl⟩
def Qr(R:al×Int)(B:Nat)(w0:World)(F:aR)(r:Value)(L:aR):Prop:=∃A' c',r= .tuple #[.slice A' R.1.length c',ah R.2]∧L=F∧aL B w0 F 1 (.slice A' R.1.length c') R.1.length (bv R.1)
theorem Qr.nil{e:Int}{R:al×Int}(h:R=([],e)):Qr R B w0 F (.tuple #[.slice none 0 0,ah e]) F:=by
 subst h;exact⟨none,0,rfl,rfl,aL.AE⟩
theorem abr{b:al}(h:b.length<42):ek b=([],1):=by unfold ek;rw[aq h]
theorem abt{b:al}(h:¬b.length<42)(h2:zq (b.take 21)):ek b=(b.take 21,0):=by unfold ek;rw[aw h,aq h2]
theorem abu{b:al}(h:¬b.length<42)(h2:¬zq (b.take 21))(h3:zq (b.drop (b.length-21))):ek b=(b.drop (b.length-21),0):=by unfold ek;rw[aw h,aw h2,aq h3]
theorem abv{b:al}(h:¬b.length<42)(h2:¬zq (b.take 21))(h3:¬zq (b.drop (b.length-21))):ek b=([],5):=by unfold ek;rw[aw h,aw h2,aw h3]
theorem abw{b:al}(h:b.length<42):a_ B w0 128 [.slice A b.length c] F (Qr (ek b) B w0 F):=by
 refine fw func128 24 [0] ?_;refine bP ?_;refine ai rfl (abH h) ?_;refine dX ?_;refine ae (jx rfl) rfl ?_;refine bH ?_;refine h_ (fun nh=>?_) fun nh=>?_
 ·refine bz ?_;exact Qr.nil (abr h)
 ·exfalso;exact absurd nh aA
theorem aj_{b:al}(h:¬b.length<42)(hb:fq B w0 F A c b):aL B w0 F 1 (.slice A 21 c) 21 (bv (b.take 21)):=by
 have:=hb.js (k:=21) aa;rw[kI,cE]at this;exact this
theorem aj'{b:al}(h:¬b.length<42)(hb:fq B w0 F A c b):aL B w0 F 1 (.slice (if c=b.length-21 then A else A.map (·.add ((b.length-21)*1))) (b.length-(b.length-21)) (c-(b.length-21))) (b.length-(b.length-21)) (bv (b.drop (b.length-21))):=by
 have:=hb.cut (k:=b.length-21) aa;rw[jv,cE]at this;rw[cE];exact this
theorem abx(HT:bK B w0){b:al}(hb:fq B w0 F A c b)(dh:b.length≤1000000000)(h:¬b.length<42):a_ B w0 128 [.slice A b.length c] F (Qr (ek b) B w0 F):=by
 refine dP.zk hb fun oA _=>?_;have ha:=aj_ h hb;have hz:=aj' h hb;have l1:(b.take 21).length=21:=by rw[eV];omega
 have l2:(b.drop (b.length-21)).length=b.length-(b.length-21):=by rw[iN]
 refine fw func128 24 [0] ?_;refine bP ?_;refine ai rfl (MM dh oA h) ?_;refine dX ?_;refine ae (jx rfl) rfl ?_;refine bH ?_;refine h_ (fun nh=>?_) fun nh=>?_
 ·exfalso;exact absurd nh aA
 ·refine bH ?_;refine ai rfl (MN HT (l:=b.take 21) l1.symm ha aa) ?_;refine bH ?_;refine aj (fun kH=>?_) fun kH=>?_
  ·refine bI ?_;refine ve [2,3] ?_;refine bI ?_;rw[abt h kH];exact⟨A,c,by rw[l1],rfl,by rw[l1];exact ha⟩
  ·refine bH ?_;refine ai rfl (MN HT (l:=b.drop (b.length-21)) l2.symm hz aa) ?_;refine aE ?_;refine ve [5,20] ?_;refine aE ?_;refine aj (fun ja=>?_) fun ja=>?_
   ·refine dm ?_;rw[abu h kH ja];exact⟨_,_,by rw[l2],rfl,by rw[l2];exact hz⟩
   ·refine dm ?_;exact Qr.nil (abv h kH ja)
theorem xI(HT:bK B w0){b:al}(hb:fq B w0 F A c b)(dh:b.length≤1000000000):a_ B w0 128 [.slice A b.length c] F (Qr (ek b) B w0 F):=by
 by_cases h:b.length<42
 ·exact abw h
 ·exact abx HT hb dh h
theorem amp{l:al}(h:l.length≤1000000000):cu (CB l)∧cu (k9 l)∧cu (jK l)∧cu (wS l)∧cu (LI l)∧cu (hs5 l)∧cu (hs6 l):=by
 have h0:cu (CB l):=pf kR;have f2:∀{s:Cs},cu s→cu (s.kZ 2):=fun {s} k=>by unfold Cs.kZ;rw[aw aa];exact k.b_
 exact⟨h0,h0.b_,h0.b_.b_,h0.b_.b_.b_,h0.b_.b_.b_.b_,f2 h0.b_.b_.b_.b_,f2 (f2 h0.b_.b_.b_.b_)⟩
theorem asQ(l:al):(CB l).b=l.drop 5∧(k9 l).b=l.drop 5∧(jK l).b=l.drop 5∧(wS l).b=l.drop 5∧(LI l).b=l.drop 5∧(hs5 l).b=l.drop 5∧(hs6 l).b=l.drop 5:=by
 have f2:∀(s:Cs),(s.kZ 2).b=s.b:=fun s=>by unfold Cs.kZ;rw[aw aa];exact Cs.cK _ _ _
 have k1:(k9 l).b=l.drop 5:=Cs.cK _ _ _;have k2:(jK l).b=l.drop 5:=(Cs.cK _ _ _).trans k1;have k3:(wS l).b=l.drop 5:=(Cs.cK _ _ _).trans k2;have k4:(LI l).b=l.drop 5:=(Cs.cK _ _ _).trans k3;have k5:(hs5 l).b=l.drop 5:=(f2 _).trans k4;exact⟨rfl,k1,k2,k3,k4,k5,(f2 _).trans k5⟩
theorem aly{l:al}(e:n=l.length)(hb:aL B w0 F 1 (.slice A n c) n (bv l))(hl:l.length≤1099511627776):
  a_ B w0 109 [.slice A n c] F (fun r L=>∃g A' c',r=bq g∧L=Cv g A' c' ⟨l,0,0⟩:: .own 5 1 A' l.length c' (bv l)::F):=by
 subst e;exact mT hb hl
theorem UY(s:Cs):s.fixed 2<65536:=by
 unfold Cs.fixed;rw[aw aa];have h:=rr (s.take 2);have h2:=DY s;exact wh h (k_ aa h2)
theorem UZ(s:Cs):s.fixed 4<4294967296:=by
 unfold Cs.fixed;rw[aw aa];have h:=rr (s.take 4);have h2:=wK s;exact wh h (k_ aa h2)
theorem ap1(l:al):hN l<4294967296:=UZ _
theorem Pz{l:al}(e:n=l.length)(h5:5≤l.length)(hb:aL B w0 F 1 (.slice A n c) n (bv l))(hl:l.length≤1000000000):
  a_ B w0 129 [.slice A n c] F (fun r L=>(hE l≠0∧∃Y v,r= .tuple #[v,ah (hE l)]∧L=Y++F)∨(hE l=0∧∃g,r= .tuple #[bq g,ah 0]∧L=Hb g (hO l) (hN l) (D6 l).toNat::F)):=by
 subst e;have Qd:(l.drop 5).length=l.length-5:=iN;have hcut:aL B w0 F 1 (.slice (if c=5 then A else A.map (·.add (5*1))) (l.length-5) (c-5)) (l.length-5) (bv (l.drop 5)):=by
  have:=hb.cut (k:=5) h5;rw[jv,cE]at this;rw[cE];exact this
 obtain⟨o0,o1,o2,o3,o4,o5,o6⟩:=amp hl;obtain⟨q0,q1,q2,q3,q4,q5,q6⟩:=asQ l;have e1:k9 l=(CB l).eJ:=rfl;have e2:jK l=(k9 l).eJ:=rfl;have e3:wS l=(jK l).eJ:=rfl;have e4:LI l=(wS l).eJ:=rfl;have e5:hs5 l=(LI l).kZ 2:=rfl;have e6:hs6 l=(hs5 l).kZ 2:=rfl;obtain⟨y0,hy0⟩:=cR ((CB l).byte.toNat);obtain⟨y1,NN⟩:=cR ((k9 l).byte.toNat);obtain⟨y2,R0⟩:=cR ((jK l).byte.toNat);obtain⟨y3,hy3⟩:=cR ((wS l).byte.toNat);obtain⟨y4,hy4⟩:=cR ((LI l).fixed 2);obtain⟨y5,hy5⟩:=cR ((hs5 l).fixed 2);obtain⟨y6,hy6⟩:=cR ((hs6 l).fixed 4);have b0:y0<256:=by rw[hy0];exact mH _
 have b1:y1<256:=by rw[NN];exact mH _
 have b2:y2<256:=by rw[R0];exact mH _
 have b3:y3<256:=by rw[hy3];exact mH _
 have b4:y4<65536:=by rw[hy4];exact UY _
 have b5:y5<65536:=by rw[hy5];exact UY _
 have b6:y6<4294967296:=by rw[hy6];exact UZ _
 have hPP:(D6 l).toNat=y0:=hy0.symm;have hNN:hN l=y6:=hy6.symm;have hOO:hO l=((y5:Int),decide ((y0:Int)=1),(y1:Int),(y2:Int),(y3:Int),(y4:Int)):=by
  unfold hO;rw[hPP,←NN,←R0,←hy3,←hy4,←hy5];congr 2;exact z_.2 ⟨fun h=>by omega,fun h=>aa⟩
 have hEE:hE l=if 1<y0 then 2 else cm 3 (hO l):=by unfold hE;rw[hPP]
 rw[hOO,hNN,hPP];rw[hOO]at hEE;refine dP.zk hb fun oA _=>?_;refine cB func129 74 rfl rfl rfl [(0,.slice A l.length c)] ⟨⟨rfl,rfl⟩,trivial⟩ ?_;refine bP ?_;refine ae (bT (i:=5) (size:=1) underlying27 ag rfl rfl rfl aa) rfl ?_;refine eK rfl (aly Qd.symm hcut aa) fun gn An cn=>?_;refine b8 ?_;rw[show(⟨l.drop 5,0,0⟩:Cs)=CB l from rfl];refine be ?_;refine ai rfl (ov (s:=CB l) o0 (aL.own (.head _))) ?_;rw[←e1,←hy0];refine ae (br [(2,_)] [ah 0,.bool false,ah 0,ah 0,ah 0,ah 0,ah 0,.int .u8 0] [7] [_,_,_,_,_,_,_,_] rfl rfl ag) rfl ?_;refine bf fun Io=>?_;refine b8 ?_;refine fR (.swap _ _ _) ?_;refine dm ?_;refine ve [4,5] ?_;refine bD ?_;refine ai rfl (ov (s:=k9 l) o1 (by rw[q1];exact(aL.own (.head _)).cons)) ?_;rw[←e2,←NN];refine be ?_;refine ai rfl (ov (s:=jK l) o2 (by rw[q2];exact(aL.own (.head _)).cons)) ?_;rw[←e3,←R0];refine be ?_;refine ai rfl (ov (s:=wS l) o3 (by rw[q3];exact(aL.own (.head _)).cons)) ?_;rw[←e4,←hy3];refine c_ ?_;refine ve [4,5] ?_;refine bB ?_;refine ai rfl (HN (s:=LI l) o4 (by rw[q4];exact(aL.own (.head _)).cons)) ?_;rw[←e5,←hy4];refine be ?_;refine ai rfl (HN (s:=hs5 l) o5 (by rw[q5];exact(aL.own (.head _)).cons)) ?_;rw[←e6,←hy5];refine i_ ?_;refine ai rfl (HO (s:=hs6 l) o6 (by rw[q6];exact(aL.own (.head _)).cons)) ?_;rw[←hy6];refine b8 ?_;refine ve [5] ?_;refine dm ?_;refine aj (fun Vf=>?_) fun Vf=>?_
 ·refine bP ?_;rw[aq aa]at hEE;rw[hEE];exact .inl ⟨aA,[_,_,_],_,rfl,rfl⟩
 ·refine bM ?_;refine ae (bQ 6 ag rfl aV (aO.cells ((y5:Int),decide ((y0:Int)=1),(y1:Int),(y2:Int),(y3:Int),(y4:Int))) rfl rfl) rfl ?_;refine ai rfl (kC 3 ((y5:Int),decide ((y0:Int)=1),(y1:Int),(y2:Int),(y3:Int),(y4:Int))) ?_;refine bI ?_;refine ao ((gl (.skip (.skip (.refl _))))) ?_;refine aE ?_;rw[aw aa]at hEE;rw[hEE];exact(Classical.em _).elim (fun k=>.inr ⟨k,_,by rw[k],rfl⟩) fun k=>.inl ⟨k,[_],_,rfl,rfl⟩
section
theorem xJ{B g2 g3:Nat}{A:bj}{n c sz:Nat}(jb:1≤sz)(jK:sz≤10000)(hn:n≤1000000000000000)(hnc:n≤c)(hg:g2≠g3)(w:World)(h2:(Ch.bE g2 27 [.slice A n c]).holds B w)(h3:(Ch.bE g3 3 [ah sz]).holds B w):
  SeqStopsK Fence.wide 7 Tryz.prog 188 [bq g2,bq g3].toArray (fun x:Fin (gT sz n)=> #[GA A sz n x.val])
   (ak6 B [.bE g2 27 [.slice A n c],.bE g3 3 [ah sz]]) (fun xs=>xs.map (·.val)=List.range (gT sz n)) (fun _=>True) (gT sz n) w:=by
 intro l J Jx W hW hJ hJx hY h0;have nP:∀w:World,(∀q∈[Ch.bE g2 27 [.slice A n c],.bE g3 3 [ah sz]],q.holds B w)→SL 0 w [Ch.bE g2 27 [.slice A n c],.bE g3 3 [ah sz]] w:=fun w h=>by
  refine⟨G3 _ _,bS _,fun c hc=>?_,kB.2 ⟨fun d hd=>?_,kB.2 ⟨fun _ h=>jY,List.Pairwise.nil⟩⟩⟩
  ·have:=h c hc;simp only[fm,ml,oj]at hc;rcases hc with rfl|rfl<;>exact⟨bS _,this.2⟩
  ·rw[lE.1 hd];exact .inr fun e=>hg (N8 e)
 have amg:=(h2.lt rfl).2;have amh:=(h3.lt rfl).2;have hW0:∀q∈[Ch.bE g2 27 [.slice A n c],.bE g3 3 [ah sz]],q.holds B W:=by
  intro c hc;simp only[fm,ml,oj]at hc;rcases hc with rfl|rfl
  ·exact h2.keep fun g hg=>by cases hg;exact hW.block _ amg
  ·exact h3.keep fun g hg=>by cases hg;exact hW.block _ amh
 have YA:∀pre (w:World) k,J pre w→J pre (w.drewN k):=fun pre w k h=>hJ pre w _ none h (qE w k) (fun r e=>by cases e);generalize hLk:[Ch.bE g2 27 [.slice A n c],.bE g3 3 [ah sz]]=Lk at*;refine callsIn_of_wp func188 rfl trivial (wk (Q:=W4 31 (TE (fun w=>∃xs:List (Fin (gT sz n)),xs.map (·.val)=List.range (gT sz n)∧J xs w) (fun w=>∃pre,True∧Jx pre w))) ?_ ?_) rfl
 ·have ha:=T9 (N:=31) (args:=[.func (.yield l) #[] #[],bq g2,bq g3]) (fr0:=[(0,.func (.yield l) #[] #[]),(1,bq g2),(2,bq g3)]) ak ⟨⟨rfl,rfl⟩,⟨rfl,rfl⟩,⟨rfl,rfl⟩,trivial⟩;refine(?_ :VT Tryz.prog 31 _ _ _ W) _ ha;refine n_ (lT ?_);refine cI (nP W hW0) (lB rfl) rfl rfl ?_;refine nm [(0,_),(1,_),(2,_),(4,_)] ⟨rfl,rfl,rfl,rfl,trivial⟩ ?_;refine ka (y7 ?_);refine Xa (fun i w=>i≤gT sz n∧(∀c∈Lk,c.holds B w)∧∃pre:List (Fin (gT sz n)),pre.map (·.val)=List.range i∧J pre w) (fun i=>[(0,.func (.yield l) #[] #[]),(1,bq g2),(2,bq g3),(4,ah ((i*sz:Nat):Int))]) 4 (n+sz) (fun i=>i*sz) (fun i=>rfl) 0 ⟨bS _,hW0,[],rfl,h0⟩ ⟨rfl,rfl,rfl,by rw[sc];rfl,trivial⟩ ?_;rintro i w ⟨hi,hh,pre,Eb,hJp⟩;have hs:=nP w hh;rw[←hLk]at hs;refine n_ (n_ (lT ?_));refine cI hs (dV rfl) rfl rfl ?_;refine cI hs (bL ag rfl Gx rfl) rfl rfl ?_;refine cI hs (pj underlying27 rfl) rfl rfl ?_;refine cI hs (xP rfl rfl) rfl rfl ?_;refine nm [(0,_),(1,_),(2,_),(4,_),(9,_)] ⟨rfl,rfl,rfl,rfl,rfl,trivial⟩ ?_;refine ka (Jn rfl (fun fP=>?_) (fun fP=>?_))
  ·refine CQ ?_;have YF:i*sz<n:=by omega
   have hiN:=(nR jb).2 YF;have hlen:pre.length<gT sz n:=by
    have:=dC List.length Eb;simp at this;omega
   have hE1:1≤xm sz n i:=by unfold xm;omega
   have hE2:xm sz n i≤sz:=by unfold xm;omega
   have hE3:i*sz+xm sz n i≤n:=by unfold xm;omega
   have hss:(i+1)*sz=i*sz+sz:=j9 i sz;refine ka (n_ (y7 (n_ (F6 ag ag ?_))));refine ke hs (bL ag rfl Gx rfl) rfl ?_;refine ke hs (bL ag rfl Gx rfl) rfl ?_;refine ke hs (dV rfl) rfl ?_;refine ke hs (bT (i:=i*sz) (size:=1) underlying27 ag rfl rfl rfl aa) rfl ?_;refine ke hs (pj underlying27 rfl) rfl ?_;refine ke hs (xQ rfl rfl) rfl ?_;refine ke hs (lB rfl) rfl ?_;rw[show min (sz:Int) ((n-i*sz:Nat):Int)=((xm sz n i:Nat):Int) by unfold xm;omega];refine Xb [(0,_),(1,_),(2,_),(4,_),(5,_)] ⟨rfl,rfl,rfl,rfl,rfl,trivial⟩ ?_;intro kd;have hJd:=YA pre w kd hJp;have zb:∀c∈Lk,c.holds B (w.drewN kd):=fun c hc=>(hh c hc).keep fun g hg=>rfl;clear hh hJp hs;generalize w.drewN kd=w at*;have hs:=nP w zb;rw[←hLk]at hs;refine ka (n_ (lT ?_));refine cI hs (dV rfl) rfl rfl ?_;refine cI hs (bL ag rfl Gx rfl) rfl rfl ?_;refine cI hs (dV rfl) rfl rfl ?_;refine cI hs (dV rfl) rfl rfl ?_;refine cI hs (dV rfl) rfl rfl ?_;refine cI hs (bY rfl rfl (bG aa aa)) rfl rfl ?_;refine cI hs (dV rfl) rfl rfl ?_;refine cI hs (dV rfl) rfl rfl ?_;refine cI hs (bY rfl rfl (bG aa aa)) rfl rfl ?_;refine cI hs (vT (i:=i*sz) (j:=i*sz+xm sz n i) (size:=1) underlying27 ag rfl rfl rfl rfl aa rfl aa aa aa) rfl rfl ?_;rw[cE,yi];refine Jo (u:=GA A sz n i) rfl rfl (hY pre ⟨i,hiN⟩ w hJd hlen) rfl ?_ ?_
   ·rintro w' ⟨hJ',hK⟩;have hh':∀c∈Lk,c.holds B w':=fun c hc=>hK c hc (zb c hc);have hs:=nP w' hh';rw[←hLk]at hs;refine cI hs (zx rfl) rfl rfl ?_;refine nm [(0,_),(1,_),(2,_),(4,_),(30,_)] ⟨rfl,rfl,rfl,rfl,rfl,trivial⟩ ?_;refine ka (FY rfl (CQ ?_));refine ka (lT ?_);refine cI hs (dV rfl) rfl rfl ?_;refine cI hs (bL ag rfl Gx rfl) rfl rfl ?_;refine cI hs (bY rfl rfl (r:=(((i+1)*sz:Nat):Int)) ((bG aa aa).trans aa)) rfl rfl ?_;refine cI hs (lB rfl) rfl rfl ?_;refine nm [(0,_),(1,_),(2,_),(4,_)] ⟨rfl,rfl,rfl,rfl,trivial⟩ ?_;exact⟨i+1,⟨hiN,hh',pre++[⟨i,hiN⟩],by rw[jd,Eb,lk];rfl,hJ'⟩,aa,rfl,rfl,rfl,rfl,trivial⟩
   ·intro w' hJ';have CB:SL w'.heap.size w' [] w':=SL.AE w';refine cI CB (zw rfl) rfl rfl ?_;refine nm [(30,_)] ⟨rfl,trivial⟩ ?_;refine ka (FZ rfl (af' ?_));exact .inr ⟨_,trivial,hJ'⟩
  ·refine W_ ?_;refine W5 ?_;show TB 0 _ (Exit.exit 0) _ _;refine WS ?_;have wN:¬i<gT sz n:=fun h=>fP (by have:=(nR jb).1 h;omega);obtain rfl:i=gT sz n:=by omega
   exact .inl ⟨pre,Eb,hJp⟩
 ·rintro e a w ⟨fr,ha,hq⟩;cases e<;>first
   |exact hq.elim
   |exact⟨ha.defers,_,results_none rfl _ _ _,⟨_,rfl⟩,hq⟩
variable{B:Nat}{w0:World}{F:aR}{A:bj}{n c:Nat}
theorem MG{sz:Nat}(jb:1≤sz):a_ B w0 121 [.slice A n c,ah sz] F (fun v L=>∃g2 g3,v= .func (.func 188) #[] #[bq g2,bq g3]∧L= .bE g3 3 [ah sz]:: .bE g2 27 [.slice A n c]::F):=by
 refine fw func121 9 [0,1] ?_;refine be ?_;refine bf fun g2=>?_;refine bf fun g3=>?_;refine bz ?_;refine dj fun h6=>?_;refine bz ?_;exact⟨_,_,rfl,rfl⟩
end
def uX(k:Nat)(good:List Bool)(i:Nat):bc:=((List.range i).filter fun j=>good.getD j false).take k
theorem ahp{good:List Bool}{i:Nat}(h:good.getD i false=true)(hl:(uX k good i).length<k):uX k good (i+1)=uX k good i++[i]:=by
 unfold uX at hl⊢;rw[eV]at hl;have e:((List.range i).filter fun j=>good.getD j false).length<k:=by omega
 rw[lk,En,Oe,fD aa];congr 1;rw[ua,aq nu,List.filter_nil];exact fD (by rw[qg];omega)
theorem acd{good:List Bool}{i:Nat}(hl:¬(uX k good i).length<k):uX k good (i+1)=uX k good i:=by
 unfold uX at hl⊢;rw[eV]at hl;rw[lk,En,Oe];have:k-((List.range i).filter fun j=>good.getD j false).length=0:=by omega
 rw[this,Ah,gk]
theorem alQ{good:List Bool}{i:Nat}(h:good.getD i false=false):uX k good (i+1)=uX k good i:=by
 unfold uX;rw[lk,En,ua,aw Mc,List.filter_nil,gk]
theorem I_{PB:List kP}{good:List Bool}(hl:good.length=PB.length)(hn:PB.length≤1000000)(hb:aL B w0 F 1 (.slice A PB.length c) PB.length (PB.map dq))(hg:aL B w0 F 1 (.slice A2 good.length c2) good.length (sH good)):
  a_ B w0 276 [ah (k:Int),.slice A PB.length c,.slice A2 good.length c2] F (fun v L=>∃Aa ca Al cl,v= .tuple #[.slice Aa (dG k good).length ca,.slice Al (dG k good).length cl]∧
   L= .own 27 1 Al (dG k good).length cl (((dG k good).map (PB.getD · iR)).map dq):: .own 3 1 Aa (dG k good).length ca (bx (dG k good))::F):=by
 refine fw func276 38 [0,1,2] ?_;refine bM ?_;have hf0:(uX k good 0).length=0:=by simp[uX]
 refine aY 3 1 none ?_;refine aY 27 1 none ?_;refine bD ?_;refine aD (fun zf zL zm=>∃(i:Nat) (Aa:bj) (ca:Nat) (Al:bj) (cl:Nat),(i≤PB.length)∧PB.length-i=zm∧Sub zf [(0,ah (k:Int)),(2,.slice A2 good.length c2),(6,.slice Aa (uX k good i).length ca),(7,.slice Al (uX k good i).length cl),(10,.slice A PB.length c),(11,ah PB.length),(12,ah (i:Int))]∧Wk zL (.own 27 1 Al (uX k good i).length cl (((uX k good i).map (PB.getD · iR)).map dq):: .own 3 1 Aa (uX k good i).length ca (bx (uX k good i))::F)) _ ⟨0,none,0,none,0,bS _,rfl,bm,ax (by simp[uX]) (by simp[uX]) (ax (by simp[uX]) (by simp[uX,bx]) (.refl _))⟩ ?_;rintro _ _ _ ⟨i,Aa,ca,Al,cl,hi,rfl,hs,hp⟩;refine aU hs hp ?_;clear hs hp;refine bB ?_;refine aj (fun nh=>?_) fun nh=>?_
 ·have hpg:=G8 (PB:=PB) (i:=i) aa;have lZ:(uX k good i).length≤i:=by
   unfold uX;have:=BH (fun j=>good.getD j false) (List.range i);rw[wm]at this;rw[eV];omega
  refine bM ?_;refine ae (au ag rfl aB aa hpg) rfl ?_;refine dm ?_;refine nN rfl rfl rfl (fun lV=>?_) (fun lV=>?_)
  ·refine bz ?_;refine aj (fun qG=>?_) fun qG=>?_
   ·have sN:=ahp (k:=k) (by simpa using lV) (show(uX k good i).length<k by omega);have ac5:(uX k good (i+1)).length=(uX k good i).length+1:=by rw[sN];simp
    refine b8 ?_;refine dK fM rfl rfl rfl rfl rfl (fun _=>rfl) aV aa aa ?_;intro _ Qp c30;refine aE ?_;refine ve [0,2,6,7,9,10,11,12] ?_;refine b8 ?_;refine dK fH rfl rfl rfl rfl rfl (fun _=>rfl) aV aa aa ?_;intro _ vM wE;refine bM ?_;refine av ⟨_,aa,i+1,Qp,c30,vM,wE,aa,rfl,bm,.trans ((ef (ef (.refl _)))) (ax (by rw[sN];simp) (by rw[sN];simp) (ax (by rw[sN];simp) (by rw[sN];simp[bx]) (.refl _)))⟩
   ·have sN:=acd (k:=k) (good:=good) (i:=i) aa;have ac5:(uX k good (i+1)).length=(uX k good i).length:=by rw[sN]
    refine bB ?_;refine ve [0,2,6,7,10,11,12] ?_;refine av ⟨_,aa,i+1,Aa,ca,Al,cl,aa,rfl,bm,ax vS vS (ax vS vS (.refl _))⟩
  ·have sN:=alQ (k:=k) (by simpa using lV);have ac5:(uX k good (i+1)).length=(uX k good i).length:=by rw[sN]
   refine c_ ?_;refine ve [0,2,6,7,10,11,12] ?_;refine av ⟨_,aa,i+1,Aa,ca,Al,cl,aa,rfl,bm,ax vS vS (ax vS vS (.refl _))⟩
 ·obtain rfl:i=PB.length:=by omega
  have xn:uX k good PB.length=dG k good:=by unfold uX dG;rw[hl]
  rw[xn];refine i_ ?_;exact⟨Aa,ca,Al,cl,rfl,rfl⟩
theorem ajH(Gj:k+m≤255):a_ B w0 278 [ah (k:Int),ah (m:Int)] F (fun v L=>∃A' c',v=vx A' (k+m) k ((k+m)*k) c'∧L= .own 5 1 A' ((k+m)*k) c' (bv (lL k m))::F):=by
 refine fw func278 30 [0,1] ?_;refine be ?_;refine bg fun g4=>?_;refine bI ?_;refine ay rfl (ahS aa) fun P5 c12=>?_;refine bH ?_;refine bg fun g5=>?_;refine bM ?_;refine ay rfl (MA Gj) fun Lr c19=>?_;refine bH ?_;refine bg fun g7=>?_;refine bM ?_;refine cH (mb (size:=3) (kk:=2) (zv:=.agg #[ah 0,ah 0,.slice none 0 0]) (us:=[(0,vx P5 k k (k*k) c12),(1,vx Lr m k (m*k) c19)]) (cs:=amP P5 Lr k m (k*k) (m*k) c12 c19) underlying440 ag aa aa aa ag rfl ag rfl) fun Hh=>?_;refine ay rfl (ai4 (x:=NO k) (y:=Gz k m) Gj (Vs k) (Mz k m) (aL.own (.head _)) aB aB) fun s_ Bp=>?_;refine bH ?_;refine bg fun g9=>?_;refine be ?_;refine ve [4,9] ?_;refine bM ?_;refine I8 rfl rfl ag aV gD ((gl (.skip (.skip (.skip (.skip (.skip (.skip (.skip (.refl _)))))))))) ?_;exact⟨s_,Bp,rfl,rfl⟩
theorem agu{PB:List kP}(e:n=PB.length)(hb:aL B w0 F 1 (.slice A n c) n (PB.map dq))(hl:PB.length≤1000000):
  a_ B w0 190 [.slice A n c] F (fun v L=>v= .bool (decide (rS (PB.map (·.2.2))))∧L=F):=by
 subst e;exact I9 hb hl
theorem ajl{PB:List kP}{cells:al}{nn:Nat}(e:n=PB.length)(hk:PB.length=k)(xo:1≤k)(hr:r≤255)(Iw:k≤255)(tz:cells.length=r*k)(Qj:nn≤1000000000)(Ix:∀e∈PB,e.2.2.length=nn)(hc:aL B w0 F 1 (.slice A (r*k) c) (r*k) (bv cells))(hb:aL B w0 F 1 (.slice A2 n c2) n (PB.map dq))(hP:∀e∈PB,aL B w0 F 1 (dq e) e.2.2.length (bv e.2.2)):
  a_ B w0 192 [vx A r k (r*k) c,.slice A2 n c2] F (PtA (WX r k cells (PB.map (·.2.2)) nn) none F):=by
 subst e;exact I' hk xo hr Iw tz Qj Ix hc hb hP
set_option maxHeartbeats 1000000 in
theorem aeF{PB:List kP}{good:List Bool}{nn:Nat}(hk:1≤k)(Gj:k+m≤255)(D6:PB.length=k+m)(GU:good.length=k+m)(Qj:nn≤1000000)(Ix:∀i,i<k+m→good.getD i false=true→(PB.getD i iR).2.2.length=nn)(hb:aL B w0 F 1 (.slice A PB.length c) PB.length (PB.map dq))(hP:∀e∈PB,aL B w0 F 1 (dq e) e.2.2.length (bv e.2.2))(hg:aL B w0 F 1 (.slice A2 good.length c2) good.length (sH good)):
  a_ B w0 243 [ah (k:Int),ah (m:Int),.slice A PB.length c,.slice A2 good.length c2] F (PtA (qp k m (PB.map (·.2.2)) good).1 (some (qp k m (PB.map (·.2.2)) good).2) F):=by
 have hfm:∀j,((dG j good).map (PB.getD · iR)).map (·.2.2)=iw j (PB.map (·.2.2)) good:=fun j=>by
  unfold iw;rw[vF];exact sa fun i _=>by rw[ET];rfl
 have xn:∀j,∀e∈(dG j good).map (PB.getD · iR),e.2.2.length=nn∧e∈PB:=fun j e he=>by
  obtain⟨i,hi,rfl⟩:=pS.1 he;obtain⟨h1,h2⟩:=zE i hi;exact⟨Ix i aa h2,bh aa iR⟩
 have GP:rS (iw (k+m) (PB.map (·.2.2)) good):=fun b oP=>by
  have mA:∀x∈iw (k+m) (PB.map (·.2.2)) good,x.length=nn:=fun x hx=>by
   rw[←hfm]at hx;obtain⟨e,he,rfl⟩:=pS.1 hx;exact(xn _ e he).1
  rw[mA b oP,tU mA (List.length_pos_of_mem oP)]
 have atB:(iw (k+m) (PB.map (·.2.2)) good).length=(dG (k+m) good).length:=by unfold iw;rw[eM]
 refine fw func243 118 [0,1,2,3] ?_;refine dm ?_;refine ai rfl (Wv hk Gj) ?_;refine jU ?_;refine aI rfl rfl rfl (fun za=>?_) (fun za=>?_)
 ·refine cD ?_;refine ve [0,1,2,3,43] ?_;refine aE ?_;refine dj fun Yn=>?_;refine bB ?_;refine ae (bY rfl rfl (r:=((k+m:Nat):Int)) ((bG aa aa).trans aa)) rfl ?_;refine be ?_;refine ba aj4 rfl (I_ (k:=k+m) aa aa hb hg) rfl ?_;rintro _ _ ⟨Aa,ca,Al,cl,rfl,cJ⟩;obtain rfl:=cJ.symm;refine dm ?_;refine ai rfl (agu (PB:=(dG (k+m) good).map (PB.getD · iR)) ak (aL.own (.head _)) (by have:=(xY (k+m) good);simp;unfold dG;rw[eV];omega)) ?_;refine bH ?_;refine aj (fun Yq=>?_) fun Yq=>?_
  ·exfalso;exact Yq (by rw[hfm];exact GP)
  ·refine bP ?_;refine ve [0,1,2,3,59] ?_;refine aE ?_;refine aj (fun h59=>?_) fun h59=>?_
   ·have em:qp k m (PB.map (·.2.2)) good=([],12):=by unfold qp;rw[aw (fun h=>h GP),aq aa]
    refine bM ?_;rw[em];refine aC 27 1 none ?_;refine ao (.cons (.skip (.skip (.refl _)))) ?_;refine aE ?_;exact⟨none,0,[],rfl,rfl,rfl⟩
   ·have em:qp k m (PB.map (·.2.2)) good=(oq k m (PB.map (·.2.2)) good++par m (oq k m (PB.map (·.2.2)) good),0):=by unfold qp;rw[aw (fun h=>h GP),aw aa]
    have lZ:(dG k good).length=k:=by
     have:k≤(dG (k+m) good).length:=by omega
     unfold dG at this⊢;rw[eV]at this⊢;omega
    have fP:∀a,a∈dG k good→a<k+m:=fun a ha=>by have:=(zE a ha).1;omega
    have hP2:∀e∈(dG k good).map (PB.getD · iR),e.2.2.length=nn:=fun e he=>(xn k e he).1;refine bD ?_;refine ba aj4 rfl (I_ (k:=k) aa aa hb.cons.cons hg.cons.cons) rfl ?_;rintro _ _ ⟨Aa2,ca2,Al2,cl2,rfl,cJ⟩;obtain rfl:=cJ.symm;refine c_ ?_;refine d_ (fun zf zL=>∃(DB:List kP) (Ad:bj) (cd:Nat) (K:aR),(DB.length=k∧(∀e∈DB,e.2.2.length=nn)∧DB.map (·.2.2)=oq k m (PB.map (·.2.2)) good∧aL B w0 K 1 (.slice Ad DB.length cd) DB.length (DB.map dq)∧(∀e∈DB,aL B w0 K 1 (dq e) e.2.2.length (bv e.2.2))∧Wk K F)∧Sub zf [(0,ah (k:Int)),(1,ah (m:Int)),(14,.slice Ad DB.length cd)]∧Wk zL (K)) ?_ ?_
    ·refine b8 ?_;refine ae (dQ rfl rfl (r:=((k-1:Nat):Int)) ((bG aa aa).trans aa)) rfl ?_;refine ae (aG (i:=k-1) (size:=1) underlying53 ag rfl rfl rfl aa (aL.own (.tail _ (.head _)))) rfl ?_;refine ae (au ag rfl (aL.own (.tail _ (.head _))) aa (gd (v:=(dG k good).getD (k-1) 0) aa rfl)) rfl ?_;refine aE ?_;refine ae (dQ rfl rfl (r:=((k-1:Nat):Int)) ((bG aa aa).trans aa)) rfl ?_;refine aE ?_;refine ve [0,1,12,13,14,75] ?_;refine aE ?_;refine aj (fun h75=>?_) fun h75=>?_
     ·obtain⟨b,hbi,dh,_⟩:=amy (n:=k) (m:=lu k (lL k m) (dG k good)) (by rw[EU (sB k m) fP,lZ]) (aei Gj lZ (xY k good) fP);have hmb:adH k m good=b:=by unfold adH;rw[hbi];rfl
      have mG:(lu k (lL k m) (dG k good)).length=k*k:=by rw[EU (sB k m) fP,lZ]
      have hmd:oq k m (PB.map (·.2.2)) good=WX k k b (iw k (PB.map (·.2.2)) good) nn:=by
       unfold oq;rw[aq aa,hmb,←hfm,tU (n:=nn) (fun x hx=>by
        obtain⟨e,he,rfl⟩:=pS.1 hx;exact hP2 e he) bO]
      refine b8 ?_;refine ay rfl (ajH Gj) fun A79 c79=>?_;refine aE ?_;refine ay rfl (ani (x:=lL k m) (at_:=dG k good) Gj aa (sB k m) aa fP (aL.own (.head _)) (aL.own (.tail _ (.tail _ (.head _))))) fun A81 c81=>?_;refine bH ?_;refine bg fun g15=>?_;refine bI ?_;rw[lZ];refine be ?_;refine ay rfl (YV (x:=lu k (lL k m) (dG k good)) (b:=b) aa mG hbi (aL.own (.tail _ (.head _)))) fun A86 c86=>?_;refine bH ?_;refine bg fun g17=>?_;refine be ?_;refine ve [0,1,13,17] ?_;refine b8 ?_;refine ba ajZ rfl (ajl (PB:=(dG k good).map (PB.getD · iR)) (cells:=b) (nn:=nn) bO bO hk aa aa dh aa hP2 (aL.own (.tail _ (.head _))) (aL.own (.tail _ (.tail _ (.tail _ (.tail _ (.tail _ (.head _))))))) (fun e he=>by have:=hP e (xn k e he).2;repeat (first|exact this|apply aL.cons))) rfl ?_;rintro _ _ ⟨A91,c91,DB,rfl,cJ,hDB⟩;obtain rfl:=cJ.symm;refine be ?_;exact bC ⟨DB,A91,c91,_,(by
       have hDl:DB.length=k:=by have:=dC List.length hDB;rw[eM,pO]at this;exact this
       refine⟨hDl,fun e he=>?_,by rw[hDB,hmd,hfm],aL.own (.head _),fun e he=>aL.own (.tail _ (j_ _ (je (f:=fx) he))),?_⟩
       ·have hm:e.2.2∈WX k k b (((dG k good).map (PB.getD · iR)).map (·.2.2)) nn:=hDB▸je (f:=fun x:kP=>x.2.2) he;exact FK (fun x hx=>by
         obtain⟨y,hy,rfl⟩:=pS.1 hx;exact hP2 y hy) _ hm
       ·exact .skip ((dA _ _).trans (by repeat (first|exact Wk.refl _|apply Wk.skip)))),bm,.refl _⟩
     ·have By:((dG k good).map (PB.getD · iR)).length=(dG k good).length:=eM _;have hmd:oq k m (PB.map (·.2.2)) good=iw k (PB.map (·.2.2)) good:=by
       unfold oq;rw[aw aa]
      refine aE ?_;exact bC ⟨(dG k good).map (PB.getD · iR),Al2,cl2,_,(by
       refine⟨by rw[eM];exact lZ,hP2,by rw[hfm,hmd],?_,fun e he=>by have:=hP e (xn k e he).2;repeat (first|exact this|apply aL.cons),.skip (.skip (.skip (.skip (.refl _))))⟩;rw[eM];exact aL.own (.head _)),bm,.refl _⟩
    ·rintro _ _ ⟨DB,Ad,cd,K,⟨hDl,hDe,hDm,hDb,hDP,hKF⟩,hs,hp⟩;refine aU hs hp ?_;clear hs hp;refine b8 ?_;refine ba ajT rfl (OO (PB:=DB) (nn:=nn) hDl hk Gj aa hDe hDb hDP) rfl ?_;rintro _ _ ⟨A95,c95,FB,rfl,cJ,sM⟩;obtain rfl:=cJ.symm;refine dm ?_;refine ae (bY rfl rfl (r:=((k+m:Nat):Int)) ((bG aa aa).trans aa)) rfl ?_;refine cH (fc (nn:=0) fH rfl rfl rfl rfl rfl aa aa aa) fun ak4=>?_;refine b8 ?_;refine d_ (fun zf zL=>∃(Ac:bj) (cc:Nat) (K2:aR),(aL B w0 K2 1 (.slice Ac (DB++FB).length cc) (DB++FB).length ((DB++FB).map dq)∧(∀e∈DB++FB,aL B w0 K2 1 (dq e) e.2.2.length (bv e.2.2))∧Wk K2 F)∧Sub zf [(21,.slice ak4 0 (k+m)),(105,.slice Ac (DB++FB).length cc),(106,ah (DB++FB).length),(107,ah 0)]∧Wk zL (.own 27 1 ak4 0 (k+m) []::K2)) ?_ ?_
     ·have Rv:FB.length=m:=by have:=dC List.length sM;rw[eM,mZ]at this;exact this
      have ahA:(DB++FB).length=DB.length+FB.length:=aX;refine bH ?_;refine cH (aF anA [_,_] rfl rfl cA aa aa) fun aru=>?_;refine ay rfl (ZB (V1:=DB.map dq) (V2:=FB.map dq) (aL.own (.head _)) (by have:=hDb;refine aL.cons (aL.cons (aL.cons (this.mono (gz _ _))))) (aL.own (.tail _ (.tail _ (.head _)))) E2 E2 aa aa aa) fun arv arD=>?_;refine be ?_;refine ve [21,105,106,107] ?_;exact bC ⟨arv,arD,_,(by
       rw[ahA];refine⟨by rw[jd];exact aL.own (.head _),fun e he=>?_,?_⟩
       ·rcases dy.1 he with he|he
        ·have:=(hDP e he).mono (gz (FB.map fx) _);repeat (first|exact this|apply aL.cons)
        ·exact aL.own (.tail _ (.tail _ (.tail _ (j_ _ (je (f:=fx) he)))))
       ·exact .skip (.skip (.skip ((dA _ _).trans hKF)))),bm,(rP (ef (ef (.refl _))))⟩
     ·rintro _ _ ⟨Ac,cc,K2,⟨Yy,hcP,Rw⟩,hs,hp⟩;refine aU hs hp ?_;clear hs hp;have Rv:FB.length=m:=by have:=dC List.length sM;rw[eM,mZ]at this;exact this
      have ahA:(DB++FB).length=k+m:=by rw[aX];omega
      have acx:(DB++FB).map (·.2.2)=oq k m (PB.map (·.2.2)) good++par m (oq k m (PB.map (·.2.2)) good):=by rw[jd,sM,hDm]
      have ap0:∀e∈DB++FB,e.2.2.length=nn:=fun e he=>by
       rcases dy.1 he with he|he
       ·exact hDe e he
       ·have hm:e.2.2∈par m (DB.map (·.2.2)):=sM▸je (f:=fun x:kP=>x.2.2) he;exact yH bO (fun x hx=>by
         obtain⟨y,hy,rfl⟩:=pS.1 hx;exact hDe y hy) _ hm
      obtain⟨AB,hAB⟩:=cR (DB++FB);rw[←hAB]at Yy hcP ahA acx ap0⊢;refine aE ?_;refine aD (fun zf zL zm=>∃(i:Nat) (Ao:bj) (co:Nat) (OB:List kP),(i≤AB.length∧OB.length=i∧OB.map (·.2.2)=(AB.map (·.2.2)).take i)∧AB.length-i=zm∧Sub zf [(21,.slice Ao OB.length co),(105,.slice Ac AB.length cc),(106,ah AB.length),(107,ah (i:Int))]∧Wk zL (.own 27 1 Ao OB.length co (OB.map dq)::(OB.map fx++K2))) _ ⟨0,ak4,k+m,[],⟨bS _,rfl,rfl⟩,rfl,bm,.refl _⟩ ?_;rintro _ _ _ ⟨i,Ao,co,OB,⟨hi,hOl,hOm⟩,rfl,hs,hp⟩;refine aU hs hp ?_;clear hs hp;refine bB ?_;refine aj (fun arX=>?_) fun arX=>?_
      ·have RK:=G8 (PB:=AB) (i:=i) aa;have pY:=bh (l:=AB) (show i<AB.length by omega) iR;have tZ:(AB.map (·.2.2)).take (i+1)=(AB.map (·.2.2)).take i++[(AB.getD i iR).2.2]:=by rw[aZ bO [],ET]
       obtain⟨P,hPe⟩:=cR (AB.getD i iR);rw[←hPe]at RK pY tZ;have hlP:=ap0 P pY;have hbP:aL B w0 (OB.map fx++K2) 1 (dq P) P.2.2.length (bv P.2.2):=(hcP P pY).mono (gz _ _);have asn:aL B w0 (OB.map fx++K2) 1 (.slice Ac AB.length cc) AB.length (AB.map dq):=Yy.mono (gz _ _);refine bD ?_;refine ae (au ag rfl asn.cons aa RK) rfl ?_;refine bB ?_;refine ay rfl (uu (l:=P.2.2) rfl rfl hbP.cons aa) fun aaK abm=>?_;refine dK fH rfl rfl rfl rfl rfl (fun _=>rfl) aV aa aa ?_;intro _ an4 aoP;refine bM ?_;have wR:(OB++[((aaK,abm,P.2.2):kP)]).length=OB.length+1:=by simp
       refine av ⟨_,aa,i+1,an4,aoP,OB++[((aaK,abm,P.2.2):kP)],⟨aa,bO,by rw[jd,hOm,tZ];rfl⟩,rfl,bm,.trans (qy (PB:=OB) (F:=K2) (e:=((aaK,abm,P.2.2):kP)) [.own 27 1 an4 (OB.length+1) aoP (OB.map dq++[dq ((aaK,abm,P.2.2):kP)])]) (ax ak ak (.refl _))⟩
      ·obtain rfl:i=AB.length:=by omega
       rw[fD ak]at hOm;refine c_ ?_;rw[em];refine ao (.cons (Ll Rw _)) ?_;refine aE ?_;exact⟨Ao,co,OB,rfl,rfl,by rw[hOm,acx]⟩
 ·exfalso;omega
theorem Ut{sz p:Nat}(h:1≤sz):gT sz (p*sz)=p:=by
 unfold gT;rw[sQ,Nat.add_mul_div_right _ _ aa,BC aa,mC]
theorem aaW{sz p:Nat}(h1:1≤sz)(h2:sz≤10000)(hp:p≤100000)(hnc:p*sz≤c):
  a_ B w0 187 [.slice none 0 0,.func (.func 188) #[] #[bq gp,bq gq]] (.bE gq 3 [ah sz]:: .bE gp 27 [.slice A (p*sz) c]::F)
   (fun v L=>∃A' c',v= .slice A' p c'∧L= .own 27 1 A' p c' ((List.range p).map fun i=>GA A sz (p*sz) i):: .bE gq 3 [ah sz]:: .bE gp 27 [.slice A (p*sz) c]::F):=by
 have hN:gT sz (p*sz)=p:=Ut h1;have hps:p*sz≤100000*10000:=gN hp h2;refine xZ func187 13 rfl rfl rfl [(0,.slice none 0 0),(1,.func (.func 188) #[] #[bq gp,bq gq])] ⟨⟨rfl,rfl⟩,⟨rfl,rfl⟩,trivial⟩ ?_;refine qN ?_;refine aE ?_;refine bf fun g2=>?_;refine be ?_;refine lz ?_;refine Lh ?_;refine aY 27 1 none ?_;refine bH ?_;refine lz ?_;refine FU (N:=gT sz (p*sz)) ajY rfl rfl rfl (fun i:Fin (gT sz (p*sz))=>GA A sz (p*sz) i.val) (fun xs=>xs.map (·.val)=List.range (gT sz (p*sz))) (fun _=>True) [.bE gp 27 [.slice A (p*sz) c],.bE gq 3 [ah sz]]
  (fun w hw=>xJ h1 h2 aa hnc (fun e=>by have:=(kB.1 (kB.1 (kB.1 hw.apart).2).2).1 _ rp;subst e;rcases this with h|h<;>simp[Ch.fp]at h) w (hw.all _ (ll _ (ll _ (ll _ rp)))) (hw.all _ (ll _ (ll _ rp))))
  (fun(_:List (Fin (gT sz (p*sz)))) (_:bj×Nat)=>True) (fun pre s=>.bE g2 52 [.slice s.1 pre.length s.2]:: .own 27 1 s.1 pre.length s.2 (pre.map fun x=>GA A sz (p*sz) x.val):: .bE gq 3 [ah sz]:: .bE gp 27 [.slice A (p*sz) c]::F)
  (fun pre s q hq=>by simp only[KO hq,KN hq]) (fun q hq=>by
   simp only[fm,ml,oj]at hq;rcases hq with rfl|rfl
   ·exact⟨rfl,fun pre s=>ll _ (ll _ (ll _ rp))⟩
   ·exact⟨rfl,fun pre s=>ll _ (ll _ rp)⟩)
  (none,0) trivial ((gl (ef (.refl _)))) ?_ ?_
 ·rintro l' pre x ⟨A7,c7⟩ w1 _ mG acG F';have RT:pre.length<p:=Nat.lt_of_lt_of_eq mG hN;have hmp:(pre++[x]).map (fun x=>GA A sz (p*sz) x.val)=pre.map (fun x=>GA A sz (p*sz) x.val)++[GA A sz (p*sz) x.val]:=by simp
  have By:(pre++[x]).length=pre.length+1:=by simp
  simp only[nE,hmp,By];refine FX ?_;refine na ag ?_;refine be ?_;refine dK fH rfl rfl rfl rfl rfl (fun _=>rfl) aV aa aa ?_;intro _ tE xl;refine be ?_;refine nq ?_;exact⟨(tE,xl),trivial,.refl _⟩
 ·rintro D xs ⟨A7,c7⟩ hS _;have Ql:xs.length=p:=by have:=dC List.length hS;rw[eM,wm]at this;exact this.trans hN
  have hxm:xs.map (fun x=>GA A sz (p*sz) x.val)=(List.range p).map fun i=>GA A sz (p*sz) i:=by
   have e:List.range (gT sz (p*sz))=List.range p:=dC List.range hN;rw[←hS.trans e,vF];rfl
  simp only[Ql,hxm];refine af8 ?_;refine bH ?_;refine nq ?_;refine af7 rfl (.refl _) ?_;refine ao (.skip (.refl _)) ?_;refine aE ?_;exact⟨A7,c7,rfl,rfl⟩
theorem XM{sz p:Nat}(h1:1≤sz)(h2:sz≤10000)(hp:p≤100000)(hnc:p*sz≤c):
  a_ B w0 120 [.func (.func 188) #[] #[bq gp,bq gq]] (.bE gq 3 [ah sz]:: .bE gp 27 [.slice A (p*sz) c]::F)
   (fun v L=>∃A' c',v= .slice A' p c'∧L= .own 27 1 A' p c' ((List.range p).map fun i=>GA A sz (p*sz) i):: .bE gq 3 [ah sz]:: .bE gp 27 [.slice A (p*sz) c]::F):=by
 refine fw func120 5 [0] ?_;refine bM ?_;refine ay rfl (aaW h1 h2 hp hnc) fun A4 c4=>?_;refine bI ?_;exact⟨A4,c4,rfl,rfl⟩
theorem xG(sz:Nat):∀(p i:Nat) (x:al),i<p→(my sz p x).getD i []=(x.drop (i*sz)).take sz
 |0,_,_,h=>by omega
 |p+1,0,x,_=>by rw[my,sc];rfl
 |p+1,i+1,x,h=>by
  have:=xG sz p i (x.drop sz) aa;rw[my,BF,this,qj,kA,sQ sz]
theorem Uq{l:al}(hb:fq B w0 F A c l){sz i:Nat}(hz:1≤sz)(hi:i*sz+sz≤l.length):aL B w0 F 1 (.slice (A.map (·.add (i*sz))) sz sz) sz (bv ((l.drop (i*sz)).take sz)):=fun w hs=>by
 obtain⟨A',c',e,h1,h2,h3⟩:=hb w hs;obtain⟨rfl,_,rfl⟩:A=A'∧True∧c=c':=by injection e with a b d;exact⟨a,trivial,d⟩
 obtain⟨ad,rfl,h4,h5⟩:=h3 aa;refine⟨_,sz,rfl,gj _,bO,fun _=>⟨_,rfl,aoA,fun j u hu=>?_⟩⟩;have hu':(bv l)[i*sz+j]? =some u:=by
  rw[←kI,←jv,G0]at hu;split at hu
  ·rw[k_7]at hu;exact hu
  ·cases hu
 have:=h5 _ _ hu';show w.cell? ((ad.add (i*sz)).add j)=some u;rw[lA];exact this
def chP(A:bj)(sz p:Nat)(x:al):List kP:=(List.range p).map fun i=>(A.map (·.add (i*sz)),sz,(my sz p x).getD i [])
theorem QP(A:bj)(sz p:Nat)(x:al):(chP A sz p x).length=p:=by simp[chP]
theorem zn(A:bj)(sz p:Nat)(x:al):(chP A sz p x).map (·.2.2)=my sz p x:=by
 unfold chP;rw[vF]
 conv=>rhs;rw[←pE (my sz p x),kl]
 rfl
theorem abp{A:bj}{sz p:Nat}{x:al}(hx:x.length=p*sz):(chP A sz p x).map dq=(List.range p).map fun i=>GA A sz (p*sz) i:=by
 unfold chP;rw[vF];refine sa fun i hi=>?_;have hi:=ky.1 hi;have h1:=fO (k:=sz) hi;show Value.slice _ ((my sz p x).getD i []).length _=_;rw[xG sz p i x hi,eV,iN];unfold GA xm;rw[show min sz (p*sz-i*sz)=sz by omega,show min sz (x.length-i*sz)=sz by omega]
theorem Uu{sz p:Nat}{x:al}(hz:1≤sz)(hx:x.length=p*sz)(hb:fq B w0 F A c x):∀e∈chP A sz p x,aL B w0 F 1 (dq e) e.2.2.length (bv e.2.2):=fun e he=>by
 obtain⟨i,hi,rfl⟩:=pS.1 he;have hi:=ky.1 hi;have h1:=fO (k:=sz) hi;have:=Uq hb hz (i:=i) aa;show aL B w0 F 1 (.slice _ ((my sz p x).getD i []).length sz) ((my sz p x).getD i []).length (bv ((my sz p x).getD i []));rw[xG sz p i x hi];have hl:((x.drop (i*sz)).take sz).length=sz:=by rw[eV,iN];omega
 rw[hl];exact this
theorem agY{sz p:Nat}{x:al}(hx:x.length=p*sz):∀e∈chP A sz p x,e.2.2.length=sz:=fun e he=>by
 have hm:e.2.2∈my sz p x:=by rw[←zn A];exact je (f:=fun y:kP=>y.2.2) he
 exact qU sz p x hx _ hm
section
variable{ch:Nat}
abbrev ShV(k m ch:Nat):Value:=.agg #[ah (k:Int),ah (m:Int),ah (ch:Int)]
structure Gv(k m ch:Nat):Prop where
 k1:1≤k
 km:k+m≤255
 c1:1≤ch
 c2:ch≤4096
theorem Gv.kc(h:Gv k m ch):1≤k*ch∧k*ch≤255*4096:=
 ⟨N' h.k1 h.c1,gN (by have:=h.km;omega) h.c2⟩
theorem Gv.laid(h:Gv k m ch):1≤(k+m)*(ch+4)∧(k+m)*(ch+4)≤255*4100:=
 ⟨N' (by have:=h.k1;omega) aa,gN h.km (by have:=h.c2;omega)⟩
theorem WJ(k ch n:Nat):lJ k ch n≤n+k*ch:=jf (rj _ _) aa
theorem yN(h:Gv k m ch):a_ B w0 119 [ShV k m ch] F (fun v L=>v=ah ((k*ch:Nat):Int)∧L=F):=by
 have h1:=h.km;have h2:=h.c2;refine cB func119 8 rfl rfl rfl [(0,.agg #[ah (k:Int),ah (m:Int),ah (ch:Int)])] ⟨⟨rfl,rfl⟩,trivial⟩ ?_;refine be ?_;refine bf fun g1=>?_;refine bP ?_;refine ae (e_ rfl rfl (r:=((k*ch:Nat):Int)) (EK aa aa)) rfl ?_;refine b8 ?_;refine ao (.skip (.refl _)) ?_;refine aE ?_;exact⟨rfl,rfl⟩
theorem K4(h:Gv k m ch):a_ B w0 186 [ShV k m ch] F (fun v L=>v=ah (((k+m)*(ch+4):Nat):Int)∧L=F):=by
 have h1:=h.km;have h2:=h.c2;refine cB func186 12 rfl rfl rfl [(0,.agg #[ah (k:Int),ah (m:Int),ah (ch:Int)])] ⟨⟨rfl,rfl⟩,trivial⟩ ?_;refine be ?_;refine bf fun g1=>?_;refine bP ?_;refine ae (bY rfl rfl (r:=((k+m:Nat):Int)) ((bG aa aa).trans aa)) rfl ?_;refine be ?_;refine ae (bY rfl rfl (r:=((ch+4:Nat):Int)) ((bG aa aa).trans aa)) rfl ?_;refine ae (e_ rfl rfl (r:=(((k+m)*(ch+4):Nat):Int)) (EK aa aa)) rfl ?_;refine b8 ?_;refine ao (.skip (.refl _)) ?_;refine aE ?_;exact⟨rfl,rfl⟩
theorem aeY(h:Gv k m ch)(hn:n≤1000000000):a_ B w0 118 [ShV k m ch,ah (n:Int)] F (fun v L=>v=ah ((lJ k ch n:Nat):Int)∧L=F):=by
 have hkc:=h.kc;refine cB func118 13 rfl rfl rfl [(0,.agg #[ah (k:Int),ah (m:Int),ah (ch:Int)]),(1,ah (n:Int))] ⟨⟨rfl,rfl⟩,⟨rfl,rfl⟩,trivial⟩ ?_;refine be ?_;refine bf fun g2=>?_;refine bD ?_;refine jE ajS rfl (yN h) wA rfl ?_;refine bU (bY rfl rfl (r:=((n+k*ch:Nat):Int)) ((bG aa aa).trans aa)) rfl ?_;refine bU (dQ rfl rfl (r:=((n+k*ch-1:Nat):Int)) ((bG aa aa).trans aa)) rfl ?_;refine aE ?_;refine jE ajS rfl (yN h) wA rfl ?_;refine bU (qc rfl rfl aa (r:=((lJ k ch n:Nat):Int)) (aqW aa)) rfl ?_;refine b8 ?_;refine ao (.skip (.refl _)) ?_;refine aE ?_;exact⟨rfl,rfl⟩
theorem anC(h:Gv k m ch):a_ B w0 185 [ShV k m ch,ah (n:Int)] F (fun v L=>v= .bool (decide (n≤8388608))∧L=F):=by
 obtain⟨h1,h2,h3,h4⟩:=h;refine cB func185 44 rfl rfl rfl [(0,.agg #[ah (k:Int),ah (m:Int),ah (ch:Int)]),(1,ah (n:Int))] ⟨⟨rfl,rfl⟩,⟨rfl,rfl⟩,trivial⟩ ?_;refine be ?_;refine bf fun g2=>?_;refine bP ?_;refine ct (fun h8=>?_) fun h8=>?_
 ·refine bD ?_;refine ct (fun nh=>?_) fun nh=>?_
  ·refine bD ?_;refine ct (fun iU=>?_) fun iU=>?_
   ·refine c_ ?_;refine ct (fun qG=>?_) fun qG=>?_
    ·refine bD ?_;refine ct (fun D4=>?_) fun D4=>?_
     ·refine bD ?_;refine ct (fun za=>?_) fun za=>?_
      ·refine bI ?_;refine ct (fun h40=>?_) fun h40=>?_
       ·refine bI ?_;refine ve [4] ?_;refine be ?_;refine ao (.skip (.refl _)) ?_;refine aE ?_;exact⟨dC _ (z_.2 aa),rfl⟩
       ·exfalso;omega
      ·exfalso;omega
     ·exfalso;omega
    ·exfalso;omega
   ·exfalso;omega
  ·exfalso;omega
 ·exfalso;omega
theorem Pn(h:Gv k m ch)(hn:n≤8388608):jk k m ch n≤10000000*2000000:=by
 have:=WJ k ch n;have hk:=h.kc;have hl:=h.laid;exact gN aa aa
theorem arb(h:Gv k m ch)(hn:n≤8388608):IntKind.i64.wrap (((lJ k ch n:Nat):Int)*(((k+m)*(ch+4):Nat):Int))=((jk k m ch n:Nat):Int):=by
 have:=Pn h hn;have e:((lJ k ch n:Nat):Int)*(((k+m)*(ch+4):Nat):Int)=((jk k m ch n:Nat):Int):=(z8 _ _).symm;rw[e];exact bG aa aa
theorem WH(h:Gv k m ch)(hn:n≤9223372036854775807):a_ B w0 117 [ah (k:Int),ah (m:Int),ah (ch:Int),ah (n:Int)] F (fun v L=>v= .tuple #[ah (((if zg k m ch n=0 then jk k m ch n else 0:Nat)):Int),ah (zg k m ch n)]∧L=F):=by
 have hl:=h.laid;refine fw func117 29 [0,1,2,3] ?_;refine dm ?_;refine ae (eG [(0,_),(1,_),(2,_)] [_,_,_] rfl rfl ag) rfl ?_;refine bg fun g10=>?_;refine bM ?_;refine ai rfl (anC h) ?_;refine bH ?_;refine aj (fun sL=>?_) fun sL=>?_
 ·have e:zg k m ch n=13:=by unfold zg;rw[aq aa]
  refine bM ?_;refine ao (.skip (.refl _)) ?_;refine aE ?_;exact⟨by rw[e,aw aa];rfl,rfl⟩
 ·have tW:n≤8388608:=bF sL;have jb:=Pn h tW;have e:zg k m ch n=if 16777216<jk k m ch n then 6 else 0:=by unfold zg;rw[aw aa]
  refine bB ?_;refine jE aoR rfl (aeY h aa) wA rfl ?_;refine aE ?_;refine jE ao1 rfl (K4 h) wA rfl ?_;refine bU (e_ rfl rfl (r:=((jk k m ch n:Nat):Int)) (arb h tW)) rfl ?_;refine aE ?_;refine mu [(11,_)] ⟨rfl,trivial⟩ ?_;refine bM ?_;refine aj (fun ku=>?_) fun ku=>?_
  ·rw[aq aa]at e;refine bM ?_;refine ao (.skip (.refl _)) ?_;refine aE ?_;exact⟨by rw[e,aw aa];rfl,rfl⟩
  ·rw[aw aa]at e;refine bz ?_;refine ao (.skip (.refl _)) ?_;refine aE ?_;exact⟨by rw[e,aq rfl],rfl⟩
end
section
variable{ch:Nat}
theorem aea{PB:List kP}{nn:Nat}(e:n=PB.length)(hk:PB.length=k)(xo:1≤k)(Gj:k+m≤255)(Qj:nn≤1000000000)(Ix:∀e∈PB,e.2.2.length=nn)(hb:aL B w0 F 1 (.slice A2 n c2) n (PB.map dq))(hP:∀e∈PB,aL B w0 F 1 (dq e) e.2.2.length (bv e.2.2)):
  a_ B w0 122 [ah (m:Int),.slice A2 n c2] F (PtA (par m (PB.map (·.2.2))) (some 0) F):=by
 subst e;exact OO hk xo Gj Qj Ix hb hP
theorem Y5{f:Nat}{x:al}:ug k m ch (f+1) x=Ha k m ch (x.take (k*ch))++ug k m ch f (x.drop (k*ch)):=rfl
theorem abI{b:al}{N:Nat}(h:b.length≤N):(bv b).take (min b.length N)++(List.replicate N (Value.int .u8 0)).drop (min b.length N)=bv (b++List.replicate (N-b.length) 0):=by
 rw[zd h,List.drop_replicate,fD ak];simp[bv]
theorem J9{l:eH}{q:Nat}(hq:q<l.length):(l.take (q+1)).flatMap cY=(l.take q).flatMap cY++cY (l.getD q []):=by
 rw[aZ hq [],ud];simp
theorem as8{u v a b x y:Ch}{M K:aR}:(u::v::(M++a::b::x::y::K)).Perm (x::y::u::v::(M++a::b::K)):=by
 have h1:(a::b::x::y::K).Perm ([x,y]++(a::b::K)):=om [a,b] [x,y] K;have h2:(M++a::b::x::y::K).Perm ([x,y]++(M++a::b::K)):=(h1.append_left M).trans (om M [x,y] _);exact((h2.cons v).cons u).trans (om [u,v] [x,y] (M++a::b::K))
set_option maxHeartbeats 1000000 in
theorem anB(HT:bK B w0)(h:Gv k m ch){b:al}(hb:fq B w0 F A c b)(dh:b.length≤1000000000000000):
  a_ B w0 66 [ah (k:Int),ah (m:Int),ah (ch:Int),.slice A b.length c] F (fun v L=>∃A' c',v= .tuple #[.slice A' (p7 k m ch b).1.length c',ah (p7 k m ch b).2]∧L= .own 5 1 A' (p7 k m ch b).1.length c' (bv (p7 k m ch b).1)::F):=by
 obtain⟨k1,km,ch1,ch2⟩:=h;have h:Gv k m ch:=⟨k1,km,ch1,ch2⟩
 have hkc:=h.kc;have Gk:=h.laid;have mG:=uA (k:=k) (ch:=ch) aa b;have wN:=CO (k:=k) (ch:=ch) (n:=b.length) aa;refine fw func66 83 [0,1,2,3] ?_;refine c_ ?_;refine ai rfl (WH h aa) ?_;refine dX ?_;refine aj (fun y'=>?_) fun y'=>?_
 ·have e:p7 k m ch b=([],zg k m ch b.length):=by unfold p7;rw[aq y']
  refine bI ?_;refine ve [8,9] ?_;refine bH ?_;refine aC 5 1 none ?_;refine aE ?_;rw[e];exact⟨none,0,rfl,rfl⟩
 ·have e0:zg k m ch b.length=0:=bF y';have e:p7 k m ch b=(ug k m ch (lJ k ch b.length) (sj k ch b),0):=by unfold p7;rw[aw y']
  have GR:b.length≤8388608:=by
   refine bF fun hh=>?_;unfold zg at e0;rw[aq aa]at e0;exact absurd e0 aA
  have ac7:jk k m ch b.length≤16777216:=by
   refine bF fun hh=>?_;unfold zg at e0;rw[aw aa,aq aa]at e0;exact absurd e0 aA
  rw[aq e0];have Yv:=WJ k ch b.length;obtain⟨S,hS⟩:=cR (lJ k ch b.length);obtain⟨D,hD⟩:=cR (k*ch);obtain⟨Ld,Vg⟩:=cR ((k+m)*(ch+4));have hSd:S*D≤10000000*1044480:=gN aa aa;have atD:S*Ld≤16777216:=by rw[hS,Vg];exact ac7
  rw[←hS,←hD]at mG wN;rw[←hS]at e Yv;rw[←hD]at hkc Yv;rw[←Vg]at Gk;have hpe:sj k ch b=b++List.replicate (S*D-b.length) 0:=by unfold sj;rw[hS,hD]
  refine bD ?_;refine ae (eG [(0,_),(1,_),(2,_)] [_,_,_] rfl rfl ag) rfl ?_;refine bg fun Io=>?_;refine aE ?_;refine ve [1,2,3,10,12] ?_;refine be ?_;refine cC (.bE Io 195 [ah (k:Int),ah (m:Int),ah (ch:Int)]::F) ?_;refine ab 0 ?_;refine ab 1 ?_;refine ab 2 ?_;refine ab 4 ?_;refine az 3 ?_;refine iZ rfl rfl (aeY (n:=b.length) h aa) ?_;refine az 5 ?_;refine iZ rfl rfl (yN h) ?_;refine aW 6 rfl (e_ rfl rfl (r:=((S*D:Nat):Int)) (by rw[←hS,←hD,←z8];exact bG aa aa)) ?_;refine az 7 ?_;refine cQ rfl (fc (nn:=S*D) (cc:=S*D) cN rfl rfl rfl rfl rfl aa aa aa) fun Lu=>?_;refine ab 8 ?_;refine bB ?_;refine lK (Ia cN .hd rfl rfl (hb.cons.cons) (rW _)) rfl ?_;rintro _ _ ⟨rfl,rfl⟩;refine bH ?_;rw[abI wN,←hpe];refine fR ((l0 (fT (.refl _)))) ?_;obtain⟨K,hK⟩:=cR (.own 5 1 Lu (S*D) (S*D) (bv (sj k ch b))::F);have hbK:aL B w0 K 1 (.slice Lu (sj k ch b).length (S*D)) (sj k ch b).length (bv (sj k ch b)):=by rw[mG,hK];exact aL.own (.head _)
  have hKF:Wk K F:=by rw[hK];exact .skip (.refl _)
  rw[←hK,show(Value.slice Lu (S*D) (S*D))= .slice Lu (sj k ch b).length (S*D) by rw[mG]];refine be ?_;refine cH (fc (nn:=0) (cc:=jk k m ch b.length) cN rfl rfl rfl rfl rfl aa aa aa) fun A48=>?_;refine bI ?_;refine aD (fun zf zL zm=>∃(j:Nat) (R:al) (Ar:bj) (cr:Nat) (Ao:bj) (co:Nat) (acc:al),(j≤S∧R.length=(S-j)*D∧R.length≤cr∧aL B w0 K 1 (.slice Ar R.length cr) R.length (bv R)∧acc.length=j*Ld∧acc++ug k m ch (S-j) R=ug k m ch S (sj k ch b))∧S-j=zm∧Sub zf [(1,ah (m:Int)),(2,ah (ch:Int)),(12,bq Io),(13,.slice Ar R.length cr),(14,.slice Ao acc.length co)]∧Wk zL (.own 5 1 Ao acc.length co (bv acc):: .bE Io 195 [ah (k:Int),ah (m:Int),ah (ch:Int)]::K)) _ ⟨0,sj k ch b,Lu,S*D,A48,jk k m ch b.length,[],⟨bS _,by rw[Ek];exact mG,aa,hbK,ak,by rw[Ek];rfl⟩,rfl,bm,ax rfl rfl (.refl _)⟩ ?_;rintro _ _ _ ⟨j,R,Ar,cr,Ao,co,acc,⟨hj,Vi,hRc,Vh,GP,mz⟩,rfl,hs,hp⟩;refine aU hs hp ?_;clear hs hp;refine bM ?_;refine aj (fun h51=>?_) fun h51=>?_
  ·have hjS:j<S:=by
    refine bF fun hh=>?_;have:S-j=0:=by omega
    rw[this,sc]at Vi;omega
   have hSj:S-j=(S-(j+1))+1:=by omega
   rw[hSj,kA]at Vi;rw[hSj,Y5,←hD]at mz;have hLj:(j+1)*Ld≤S*Ld:=oC _ hjS;rw[kA]at hLj;obtain⟨X,hX⟩:=cR (R.take D);have Vj:X.length=D:=by rw[hX,eV];omega
   have hXk:X.length=k*ch:=by rw[Vj,hD]
   have hXb:aL B w0 K 1 (.slice Ar D cr) D (bv X):=by
    have:=Vh.js (k:=D) aa;rw[cE,kI,←hX]at this;exact this
   have ap3:aL B w0 K 1 (.slice Ar X.length cr) X.length (bv X):=by rw[Vj];exact hXb
   have ac5:=Fu (m:=m) k1 hXk;rw[←Vg]at ac5;rw[←hX]at mz;have hcP:=QP Ar ch k X;refine bD ?_;refine ai rfl (yN h) ?_;refine ae (bZ (i:=k*ch) (size:=1) underlying27 ag rfl rfl rfl aa) rfl ?_;refine aE ?_;refine ay rfl (MG ch1) fun gp gq=>?_;refine ay rfl (XM (p:=k) ch1 aa aa aa) fun A58 c58=>?_;refine b8 ?_;rw[←abp (A:=Ar) hXk];refine bH ?_;refine ba ajT rfl (aea (PB:=chP Ar ch k X) (nn:=ch) hcP.symm hcP k1 km aa (agY hXk) (aL.own (.head _)) (fun e he=>by have:=Uu ch1 hXk ap3 e he;exact this.cons.cons.cons.cons.cons)) rfl ?_;rintro _ _ ⟨A62,c62,FB,rfl,cJ,sM⟩;obtain rfl:=cJ.symm;refine bI ?_;refine ve [1,2,12,13,14,15,16] ?_;refine be ?_;refine d_ (fun zf zL=>∃(A67:bj) (c67:Nat) (AB:List kP) (K2:aR),(AB.length=k+m∧AB.map (·.2.2)=Ci k m ch X∧aL B w0 K2 1 (.slice A67 AB.length c67) AB.length (AB.map dq)∧(∀e∈AB,aL B w0 K2 1 (dq e) e.2.2.length (bv e.2.2))∧Wk K2 K)∧Sub zf [(1,ah (m:Int)),(2,ah (ch:Int)),(12,bq Io),(13,.slice Ar R.length cr),(14,.slice Ao acc.length co),(67,.slice A67 AB.length c67),(68,ah AB.length),(69,ah 0)]∧Wk zL (.own 5 1 Ao acc.length co (bv acc):: .bE Io 195 [ah (k:Int),ah (m:Int),ah (ch:Int)]::K2)) ?_ ?_
   ·rw[zn]at sM;have Rv:FB.length=m:=by have:=dC List.length sM;rw[eM,mZ]at this;exact this
    refine fR ((List.perm_middle.cons _).trans (.swap ..)) ?_;refine bH ?_;refine gw (bW fH rfl aV rfl (aL.own (.tail _ (.head _))) E2 aa aa) fun A67 c67=>?_;refine bH ?_;have hl:(chP Ar ch k X++FB).length=k+m:=by rw[aX];omega
    exact bC ⟨A67,c67,chP Ar ch k X++FB,_,(by
     refine⟨hl,by rw[jd,zn,sM];rfl,?_,?_,?_⟩
     ·rw[hl,jd,show k+m=k+FB.length by omega];exact aL.own (.head _)
     ·intro e he;rcases dy.1 he with he|he
      ·exact(Uu ch1 hXk ap3 e he).mono (.cons _ (.cons _ (.trans (.cons _ (.cons _ (.refl _))) (gz _ _))))
      ·exact aL.own (.tail _ (.tail _ (j_ _ (je (f:=fx) he))))
     ·exact .skip (.skip ((dA _ _).trans (.skip (.skip (.refl _)))))),bm,.dE as8⟩
   ·rintro _ _ ⟨A67,c67,AB,K2,⟨ahA,acx,asb,asa,Rw⟩,hs,hp⟩;refine aU hs hp ?_;clear hs hp;have hPe:∀e∈AB,e.2.2.length=ch:=fun e he=>AW k1 hXk _ (acx▸je (f:=fun y:kP=>y.2.2) he);refine aE ?_;refine aD (fun zf zL zm=>∃(q:Nat) (Aq:bj) (cq:Nat) (B6:al),(q≤AB.length∧B6=acc++((AB.map (·.2.2)).take q).flatMap cY∧B6.length=acc.length+q*(ch+4))∧AB.length-q=zm∧Sub zf [(1,ah (m:Int)),(2,ah (ch:Int)),(12,bq Io),(13,.slice Ar R.length cr),(14,.slice Aq B6.length cq),(67,.slice A67 AB.length c67),(68,ah AB.length),(69,ah (q:Int))]∧Wk zL (.own 5 1 Aq B6.length cq (bv B6):: .bE Io 195 [ah (k:Int),ah (m:Int),ah (ch:Int)]::K2)) _ ⟨0,Ao,co,acc,⟨bS _,ak,ak⟩,rfl,bm,.refl _⟩ ?_;rintro _ _ _ ⟨q,Aq,cq,B6,⟨hq,akg,atJ⟩,rfl,hs,hp⟩;refine aU hs hp ?_;clear hs hp;refine bB ?_;refine aj (fun h70=>?_) fun h70=>?_
    ·have RK:=G8 (PB:=AB) (i:=q) aa;have pY:=bh (l:=AB) (show q<AB.length by omega) iR;have hft:=J9 (l:=AB.map (·.2.2)) (q:=q) bO;rw[ET]at hft;obtain⟨P,hP⟩:=cR (AB.getD q iR);rw[←hP]at RK pY hft;have hlP:=hPe P pY;have hbP:=asa P pY;have hqL:(q+1)*(ch+4)≤(k+m)*(ch+4):=oC _ aa;rw[kA,←Vg]at hqL;have hpp:=du P.2.2;refine bD ?_;refine ae (au ag rfl asb.cons.cons aa RK) rfl ?_;refine bB ?_;refine ay rfl (qC HT (l:=P.2.2) hbP.cons.cons aa) fun A75 c75=>?_;refine gw (bW cN rfl aV rfl aB cA aa aa) fun A76 c76=>?_;refine bM ?_;have rN:(B6++cY P.2.2).length=B6.length+(cY P.2.2).length:=aX;refine av ⟨_,aa,q+1,A76,c76,B6++cY P.2.2,⟨aa,by rw[hft,akg,bV],by rw[rN,kA];omega⟩,rfl,bm,.skip (ax ak ak (.refl _))⟩
    ·obtain rfl:q=AB.length:=by omega
     have aqv:B6=acc++Ha k m ch X:=by
      rw[akg,fD ak,acx];rfl
     have ase:B6.length=(j+1)*Ld:=by rw[kA,aqv,aX,ac5];omega
     refine bM ?_;refine ai rfl (yN h) ?_;refine ae (bT (i:=k*ch) (size:=1) underlying27 ag rfl rfl rfl aa) rfl ?_;refine bH ?_;have Bv:(R.drop D).length=(S-(j+1))*D:=by rw[iN];omega
     have hcut:=Vh.cut (k:=D) aa;rw[cE,jv]at hcut;have acA:R.length-D=(R.drop D).length:=by rw[iN]
     rw[acA]at hcut;rw[←hD,acA,cE D];refine av ⟨_,aa,j+1,R.drop D,_,_,Aq,cq,B6,(by exact⟨hjS,Bv,aa,hcut,ase,by rw[aqv,bV];exact mz⟩),rfl,bm,.cons (.cons Rw)⟩
  ·have hjS:j=S:=by
    refine bF fun hh=>?_;have:1*D≤(S-j)*D:=oC _ aa;omega
   subst hjS;rw[nA]at mz;have tV:acc=ug k m ch j (sj k ch b):=by rw[←mz];simp[ug]
   refine c_ ?_;refine ao (.cons (.skip hKF)) ?_;refine aE ?_;rw[e,←tV];exact⟨Ao,co,rfl,rfl⟩
end
section
variable{ch:Nat}
theorem aa3{P:Prop}(h:P:=by(rw[LF];simp[bx])):P:=h
theorem zr{P:ei}{l:al}(hb:aL B w0 F 1 (.slice A n c) n P.Cm)(hP:∀x∈P,aL B w0 F 1 x.1 x.2.length (bv x.2))(hn:n=P.length)(mA:P.all=l)(hlen:l.length≤1099511627776)(D6:P.length≤1099511627776):
  a_ B w0 93 [.slice A n c] F (fun r L=>∃A' c',r= .slice A' l.length c'∧L= .own 5 1 A' l.length c' (bv l)::F):=by
 subst mA;exact dP.AH fun w hw=>ML (B:=w.heap.size) w hn (hb w hw) (fun x hx=>hP x hx w hw) (gj _) hlen D6
abbrev Gu(g:Nat)(k m ch:Nat)(vo vb:Value)(at_:Nat):Ch:=.bE g 280 [ah (k:Int),ah (m:Int),ah (ch:Int),vo,vb,ah (at_:Int)]
def B7(x:al)(at_:Nat)(bad:bc):bc:=if (aK x).2≠0 then bad++[at_] else bad
theorem ang(HT:bK B w0){x:al}{vo:Value}{bad:bc}{at_:Nat}(hx:fq B w0 F A c x)(Ql:x.length≤1000000000)(GQ:at_≤1000000000)(dh:bad.length≤1000000000):
  a_ B w0 242 [bq g,.slice A x.length c] (Gu g k m ch vo (.slice A1 bad.length c1) at_:: .own 3 1 A1 bad.length c1 (bx bad)::F)
   (fun v L=>∃A' c' Ab cb,v= .tuple #[.slice A' (aK x).1.length c',.bool (decide ((aK x).2=0))]∧L= .own 5 1 A' (aK x).1.length c' (bv (aK x).1)::Gu g k m ch vo (.slice Ab (B7 x at_ bad).length cb) (at_+1):: .own 3 1 Ab (B7 x at_ bad).length cb (bx (B7 x at_ bad))::F):=by
 refine fw func242 38 [0,1] ?_;refine bP ?_;refine ay rfl (wF HT (l:=x) hx.cons.cons aa) fun xq HI=>?_;refine bD ?_;refine d_ (fun zf zL=>∃(Ab:bj) (cb:Nat),Sub zf [(0,bq g),(6,.slice xq (aK x).1.length HI),(7,ah (aK x).2)]∧Wk zL (.own 5 1 xq (aK x).1.length HI (bv (aK x).1)::Gu g k m ch vo (.slice Ab (B7 x at_ bad).length cb) at_:: .own 3 1 Ab (B7 x at_ bad).length cb (bx (B7 x at_ bad))::F)) ?_ ?_
 ·refine bB ?_;refine aj (fun jC=>?_) fun jC=>?_
  ·have LF:B7 x at_ bad=bad++[at_]:=by unfold B7;rw[aq jC]
   refine cC F ?_;refine ab 0 ?_;refine ab 1 ?_;refine ab 2 ?_;refine ab 3 ?_;refine ab 5 ?_;refine ab 6 ?_;refine ab 7 ?_;refine gU 4 8 ?_ ?_
   ·refine aE ?_;refine az 8 ?_;refine aE ?_;refine az 9 ?_;refine cQ rfl (aF fM [_] rfl rfl cA aa aa) fun Bh=>?_;refine az 10 ?_;refine eW rfl (bW fM rfl aV rfl aB cA aa aa) fun Hh Lx=>?_;refine ab 11 ?_;refine ab 12 ?_;refine az 13 ?_;refine aE ?_;refine cP [0,6,7] ?_;exact bC ⟨Hh,Lx,bm,.skip (.cons (bp (by rw[LF,aX];rfl) (ax (by rw[LF];simp) aa3 (.refl _))))⟩
   ·refine aE ?_;refine gU 4 9 ?_ ?_
    ·refine aE ?_;refine az 9 ?_;refine cQ rfl (aF fM [_] rfl rfl cA aa aa) fun Bh=>?_;refine az 10 ?_;refine eW rfl (bW fM rfl aV rfl aB cA aa aa) fun Hh Lx=>?_;refine ab 11 ?_;refine ab 12 ?_;refine az 13 ?_;refine aE ?_;refine cP [0,6,7] ?_;exact bC ⟨Hh,Lx,bm,.skip (.cons (bp (by rw[LF,aX];rfl) (ax (by rw[LF];simp) aa3 (.refl _))))⟩
    ·refine cQ rfl (aF fM [_] rfl rfl cA aa aa) fun Bh=>?_;refine az 4 ?_;refine aE ?_;refine az 10 ?_;refine eW rfl (bW fM rfl aV rfl aB cA aa aa) fun Hh Lx=>?_;refine ab 11 ?_;refine ab 12 ?_;refine az 13 ?_;refine aE ?_;refine cP [0,6,7] ?_;exact bC ⟨Hh,Lx,bm,.skip (.cons (bp (by rw[LF,aX];rfl) (ax (by rw[LF];simp) aa3 (.refl _))))⟩
  ·have LF:B7 x at_ bad=bad:=by unfold B7;rw[aw jC]
   refine aE ?_;exact bC ⟨A1,c1,bm,.cons (bp (by rw[LF]) (ax (by rw[LF]) (by rw[LF]) (.refl _)))⟩
 ·rintro _ _ ⟨Ab,cb,hs,hp⟩;refine aU hs hp ?_;clear hs hp;refine bB ?_;refine ae (bY rfl rfl (r:=((at_+1:Nat):Int)) ((bG aa aa).trans aa)) rfl ?_;refine jU ?_;exact⟨xq,HI,Ab,cb,rfl,rfl⟩
end
end Go.Proofs.YtaodmbolhoafcaaGreatDoor
