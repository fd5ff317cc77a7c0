/-
  Texts of one proof, joined: part 13. No condition.
-/
import Derived.Test.YtaodmbolhoafcaaGreatDoorZc12
open Go.RowKit Go.Proofs.Tryz
namespace Go.Proofs.YtaodmbolhoafcaaGreatDoor
set_option linter.unusedVariables false
set_option linter.unusedSimpArgs false
set_option maxRecDepth 20000
variable{B:Nat}{w0:World}{F L0:aP}{A A1 A2 A3 A4 A5 A6 Af Ao:bj}{n c c1 c2 c3 c4 c5 c6 cf co g gc:Nat}{v0 v1 v2 v3 v4 v5 v6 v7 v8 v9 va:Value}{s:Cs}{r k m N gp gq:Nat}
section
theorem Om{n:Nat}(hn:n≤1000000000):∀(f:Nat) (s:Cs) (o:al),n≤f+o.length→o.length≤n→(GZ f n s o).2.e=0→(GZ f n s o).1.length=n
 |0,s,o,h1,h2,_=>by show o.length=n;omega
 |f+1,s,o,h1,h2,h3=>by
  by_cases hc:o.length<n∧s.e=0
  ·rw[R1 hc]at h3⊢;have hT:(LH n s o).e=0:=bH fun k=>by
    rw[yp (fun q=>k q.2)]at h3;exact k h3
   obtain⟨k1,k2,_⟩:=R3 hT;have CB:Qa n s o≠0:=fun k=>k1 ⟨k2,.inl k⟩;have Ca:=adr (s:=s) h2 hn;exact Om hn f _ _ bR bR h3
  ·rw[yp hc]at h3⊢;have hh:¬o.length<n:=fun k=>hc ⟨k,h3⟩;show o.length=n;omega
theorem Pk:∀(k was:Nat) (s:Cs),(BW k was s).2.e=0→(BW k was s).1.length=k
 |0,_,_,_=>rfl
 |k+1,was,s,h=>by
  rw[BW]at h⊢;by_cases h0:s.e=0
  ·rw[ao h0]at h⊢;rw[ef,Pk k _ _ h]
  ·rw[aw h0]at h;exact absurd h h0
theorem afm:∀(k was:Nat) (s:Cs),∀t∈(BW k was s).1,t<18446744073709551616
 |0,_,_,t,h=>by cases h
 |k+1,was,s,t,h=>by
  rw[BW]at h;split at h
  ·rcases fk.1 h with rfl|h
   ·exact agb _ _
   ·exact afm k _ _ t h
  ·cases h
theorem aea{n:Nat}{l:al}(h:(nW n l).2.2.2=0):(nW n l).1.length=n∧(nW n l).2.1.length=n∧n≤20000∧∀t∈(nW n l).1,t<18446744073709551616:=by
 by_cases h1:(n:Int)<0∨(20000:Int)<n
 ·rw[V4 h1]at h;simp at h
 ·by_cases h2:(G2 n l).2.e=0
  ·rw[Sy h1 h2];have hv:=Om (n:=n) aa (n+1) (LI n l).2 [] ak ak h2;refine⟨?_,hv,aa,afm _ _ _⟩;by_cases h0:n=0
   ·subst h0;rfl
   ·have ht:(LI n l).2.e=0:=bH fun k=>by
     unfold G2 at h2;rw[yp (fun q=>k q.2)]at h2;exact k h2
    exact Pk _ _ _ ht
  ·rw[V5 h1 h2]at h;exact absurd h h2
theorem ak9{o:aR}{b:al}(c_:b.length≤1000000)(h:¬cB 2 (o2 o)≠0)(h3:¬Gy (dT b) (qq b).length≠0)(h4:¬xE (fa (dT b)).1.sum (wy b)≠0):sw (ak8 o b):=by
 have hdl:=JX (dT b);have Yg:=DG (dT b);have hz:=DF (bH h3);have xX:(nW ((fa (dT b)).1.sum:Nat) (aI (wy b)).1).2.2.2=0:=by
  have h4:=bH h4;unfold xE at h4;split at h4
  ·rename_i k;exact absurd h4 k
  ·split at h4
   ·rename_i k;exact absurd h4 k
   ·rename_i k;exact bH k
 obtain⟨r1,r2,r3,r4⟩:=aea xX;have hom:=AF (.inr (.inl rfl)) (bH h);obtain⟨_,_,m4,_⟩:=hom;obtain⟨m5,m6⟩:=m4 (.inr rfl);have m6:o.2.2.1≤64:=m6;obtain⟨z1,z2,z3⟩:=ac3 (size:=o.2.2.1) (bound:=((fa (dT b)).1.sum:Nat)) (b:=(aI (vw b)).1) aa;refine⟨?_,r1,r2,by show(fa (dT b)).1.sum≤20000;omega,by show(fa (dT b)).1.length≤20000;omega,fun f hf=>?_,z1,z2,z3,r4⟩
 ·show(rz (fa (dT b)).2.1 (qq b)).length=(fa (dT b)).1.length;rw[uE];omega
 ·have hlr:=uT b;have hle:∀(ss:bf) (r:al),∀f∈rz ss r,f.length≤r.length:=by
   intro ss;induction ss with
   |nil=>intro r f hf;simp[rz]at hf
   |cons n ss ih=>
    intro r f hf;rw[rz]at hf;rcases fk.1 hf with rfl|hf
    ·rw[eS];omega
    ·have:=ih _ f hf;rw[iG]at this;omega
  have:=hle _ _ f hf;have e:(fZ b).1=qq b:=rfl;rw[e]at hlr;omega
theorem abQ{x:ir}{k:Nat}(h:(lV x k).2=0):(lV x k).1.length=x.ns.getD k 0:=by
 by_cases h1:(dK (x.bB.getD k [])).2.2≠0
 ·rw[QY h1]at h;exact absurd h h1
 ·by_cases h2:(dK (x.bB.getD k [])).2.1<(x.bB.getD k []).length
  ·rw[QZ h1 h2]at h;simp at h
  ·by_cases h3:(qH false (dK (x.bB.getD k [])).1).2≠0
   ·rw[Q0 h1 h2 h3]at h;exact absurd h h3
   ·by_cases h4:(qH false (dK (x.bB.getD k [])).1).1.length≠x.ns.getD k 0
    ·rw[Q1 h1 h2 h3 h4]at h;simp at h
    ·rw[Q2 h1 h2 h3 h4];simp only;rw[kM];exact bH h4
theorem ag9{x:ir}{k:Nat}(ho:sw x):∀r∈(lV x k).1,r.1<18446744073709551616:=fun r hr=>by
 by_cases h1:(dK (x.bB.getD k [])).2.2≠0
 ·rw[QY h1]at hr;cases hr
 ·by_cases h2:(dK (x.bB.getD k [])).2.1<(x.bB.getD k []).length
  ·rw[QZ h1 h2]at hr;cases hr
  ·by_cases h3:(qH false (dK (x.bB.getD k [])).1).2≠0
   ·rw[Q0 h1 h2 h3]at hr;cases hr
   ·by_cases h4:(qH false (dK (x.bB.getD k [])).1).1.length≠x.ns.getD k 0
    ·rw[Q1 h1 h2 h3 h4]at hr;cases hr
    ·rw[Q2 h1 h2 h3 h4]at hr;obtain⟨i,_,rfl⟩:=pM.1 hr;show x.times.getD _ 0<_;rw[bk];cases hq:x.times[(x.ns.take k).sum+i]? with
     |none=>simp
     |some t=>exact ho.tm t (List.mem_of_getElem? hq)
theorem Oh{x:ir}{f k:Nat}{out:List aK}(h:(lV x k).2≠0):nU x (f+1) k out=([],(lV x k).2):=by rw[nU,ao h]
theorem Vy{x:ir}{f k:Nat}{out:List aK}(h:¬(lV x k).2≠0):nU x (f+1) k out=nU x f (k+1) (out++(lV x k).1):=by rw[nU,aw h]
theorem KB{x:ir}(ho:sw x):∀(f k:Nat) (out:List aK),(∀r∈out,r.1<18446744073709551616)→∀r∈(nU x f k out).1,r.1<18446744073709551616
 |0,_,_,h,r,hr=>h r hr
 |f+1,k,out,h,r,hr=>by
  by_cases h1:(lV x k).2≠0
  ·rw[Oh h1]at hr;cases hr
  ·rw[Vy h1]at hr;refine KB ho f (k+1) _ (fun q hq=>?_) r hr;rcases dz.1 hq with hq|hq
   ·exact h q hq
   ·exact ag9 ho q hq
theorem Vz{x:ir}(ho:sw x):∀r∈(jl x).1,r.1<18446744073709551616:=fun r hr=>by
 unfold jl at hr;split at hr
 ·cases hr
 ·split at hr
  ·cases hr
  ·split at hr
   ·cases hr
   ·exact KB ho _ _ _ (fun _ h=>ki) r hr
section
variable{x:ir}
theorem amq{e:Int}(h:nU x x.bB.length 0 []=([],e))(he:e≠0):jl x=([],e):=by unfold jl;rw[h,ao he]
theorem amr{out:List aK}(h:nU x x.bB.length 0 []=(out,0))(hc:cO out≠0):jl x=([],cO out):=by unfold jl;rw[h,aw ak,ao hc]
theorem ams{out:List aK}(h:nU x x.bB.length 0 []=(out,0))(hc:¬cO out≠0)(hi:¬(x.T=mS out∧x.I=mR out)):jl x=([],15):=by unfold jl;rw[h,aw ak,aw hc,ao hi]
theorem amt{out:List aK}(h:nU x x.bB.length 0 []=(out,0))(hc:¬cO out≠0)(hi:x.T=mS out∧x.I=mR out):jl x=(out,0):=by unfold jl;rw[h,aw ak,aw hc,aw (fun k=>k hi)]
end
theorem afp{LL:List rG}{L:aP}(h:∀e∈LL,aJ B w0 L 1 (jM e) e.2.2.length (bx e.2.2)):l7 B w0 L (Z4 LL):=fun e he=>by
 obtain⟨x,hx,rfl⟩:=pM.1 he;have:=h x hx;have e1:ints .i64 (x.2.2.map fun(n:Nat)=>(n:Int))=bx x.2.2:=by simp[ints,bx]
 simp only[eK];rw[e1];exact this
theorem Z5{LL:List rG}{m:Nat}(h:∀e∈LL,e.2.2.length≤m)(hm:m≤9223372036854775807):∀e∈Z4 LL,e.2.2.length≤9223372036854775807:=fun e he=>by
 obtain⟨x,hx,rfl⟩:=pM.1 he;have:=h x hx;simp only[eK];omega
theorem air{T1 T2:List cm}{L1 L2:List Lq}{m1 m2 n2:Nat}(e1:m1=L1.length)(e2:m2=L2.length)(e3:n2=T2.length)(h1:aJ B w0 F 1 (.slice A1 T1.length c1) T1.length (strs T1))(hL1:aJ B w0 F 1 (.slice A2 m1 c2) m1 (L1.map zQ))(hI1:l7 B w0 F L1)(h2:aJ B w0 F 1 (.slice A3 n2 c3) n2 (strs T2))(hL2:aJ B w0 F 1 (.slice A4 m2 c4) m2 (L2.map zQ))(hI2:l7 B w0 F L2)(hs:T1.length≤1000000000)(jH:L1.length≤1000000000)(wN:∀e∈L1,e.2.2.length≤9223372036854775807):
  a_ B w0 195 [.agg [.slice A1 T1.length c1,.slice A2 m1 c2].toArray,.agg [.slice A3 n2 c3,.slice A4 m2 c4].toArray] F (fun r L=>r= .bool (decide (T1=T2∧fT L1=fT L2))∧L=F):=by
 subst e1;subst e2;subst e3;exact aiq h1 hL1 hI1 h2 hL2 hI2 hs jH wN
theorem ak7(HT:bI B w0){x:ir}{FB:List kO}{LL:List rG}(ho:sw x)(sH:FB.map (·.2.2)=x.bB)(hLx:LL.map (·.2.2)=x.I)(hcn:x.ns.length≤c1)(hn:aJ B w0 (Bo g (.slice A1 x.ns.length c1) v1 v2 v3 (.slice A3 x.times.length c3) (.slice A4 x.levels.length c4) (.slice A5 x.T.length c5) (.slice A6 LL.length c6) (.slice Af FB.length cf) v9::F) 1 (.slice A1 x.ns.length c1) x.ns.length (bx x.ns))(ht:aJ B w0 (Bo g (.slice A1 x.ns.length c1) v1 v2 v3 (.slice A3 x.times.length c3) (.slice A4 x.levels.length c4) (.slice A5 x.T.length c5) (.slice A6 LL.length c6) (.slice Af FB.length cf) v9::F) 1 (.slice A3 x.times.length c3) x.times.length (pZ x.times))(hl:aJ B w0 (Bo g (.slice A1 x.ns.length c1) v1 v2 v3 (.slice A3 x.times.length c3) (.slice A4 x.levels.length c4) (.slice A5 x.T.length c5) (.slice A6 LL.length c6) (.slice Af FB.length cf) v9::F) 1 (.slice A4 x.levels.length c4) x.levels.length (bv x.levels))(hT:aJ B w0 (Bo g (.slice A1 x.ns.length c1) v1 v2 v3 (.slice A3 x.times.length c3) (.slice A4 x.levels.length c4) (.slice A5 x.T.length c5) (.slice A6 LL.length c6) (.slice Af FB.length cf) v9::F) 1 (.slice A5 x.T.length c5) x.T.length (strs x.T))(hI:aJ B w0 (Bo g (.slice A1 x.ns.length c1) v1 v2 v3 (.slice A3 x.times.length c3) (.slice A4 x.levels.length c4) (.slice A5 x.T.length c5) (.slice A6 LL.length c6) (.slice Af FB.length cf) v9::F) 1 (.slice A6 LL.length c6) LL.length (LL.map jM))(hIe:∀e∈LL,aJ B w0 (Bo g (.slice A1 x.ns.length c1) v1 v2 v3 (.slice A3 x.times.length c3) (.slice A4 x.levels.length c4) (.slice A5 x.T.length c5) (.slice A6 LL.length c6) (.slice Af FB.length cf) v9::F) 1 (jM e) e.2.2.length (bx e.2.2))(hf:aJ B w0 (Bo g (.slice A1 x.ns.length c1) v1 v2 v3 (.slice A3 x.times.length c3) (.slice A4 x.levels.length c4) (.slice A5 x.T.length c5) (.slice A6 LL.length c6) (.slice Af FB.length cf) v9::F) 1 (.slice Af FB.length cf) FB.length (FB.map dq))(Il:∀e∈FB,aJ B w0 (Bo g (.slice A1 x.ns.length c1) v1 v2 v3 (.slice A3 x.times.length c3) (.slice A4 x.levels.length c4) (.slice A5 x.T.length c5) (.slice A6 LL.length c6) (.slice Af FB.length cf) v9::F) 1 (dq e) e.2.2.length (bv e.2.2)):
  a_ B w0 127 [br g] (Bo g (.slice A1 x.ns.length c1) v1 v2 v3 (.slice A3 x.times.length c3) (.slice A4 x.levels.length c4) (.slice A5 x.T.length c5) (.slice A6 LL.length c6) (.slice Af FB.length cf) v9::F)
   (fun v L=>∃A' c',v= .tuple #[.slice A' (jl x).1.length c',ah (jl x).2]∧L= .own 62 4 A' (jl x).1.length c' (di (jl x).1)::Bo g (.slice A1 x.ns.length c1) v1 v2 v3 (.slice A3 x.times.length c3) (.slice A4 x.levels.length c4) (.slice A5 x.T.length c5) (.slice A6 LL.length c6) (.slice Af FB.length cf) v9::F):=by
 have Ra:FB.length=x.bB.length:=by rw[←sH,eK]
 have hLl:LL.length=x.I.length:=by rw[←hLx,eK]
 obtain⟨o1,o2,o3,o4,o5,o6,o7,o8,o9,o10⟩:=ho;have ho:sw x:=⟨o1,o2,o3,o4,o5,o6,o7,o8,o9,o10⟩
 refine fw func127 46 [0] ?_;refine B_ ?_;refine aZ 62 4 none ?_;refine jS ?_;refine aE (fun zf zL zm=>∃(k:Nat) (out:List aK) (Ao:bj) (co:Nat),(k≤x.bB.length∧out.length=(x.ns.take k).sum∧nU x (x.bB.length-k) k out=nU x x.bB.length 0 [])∧x.bB.length-k=zm∧Sub zf [(0,br g),(4,.slice Ao out.length co),(15,ah FB.length),(16,ah (k:Int))]∧Wk zL (.own 62 4 Ao out.length co (di out)::Bo g (.slice A1 x.ns.length c1) v1 v2 v3 (.slice A3 x.times.length c3) (.slice A4 x.levels.length c4) (.slice A5 x.T.length c5) (.slice A6 LL.length c6) (.slice Af FB.length cf) v9::F)) _ ⟨0,[],none,0,⟨bT _,ak,by rw[El]⟩,rfl,bp,.refl _⟩ ?_;rintro _ _ _ ⟨k,out,Ao,co,⟨hk,Kj,GM⟩,rfl,hs,hp⟩;refine aU hs hp ?_;clear hs hp;refine bz ?_;refine aj (fun iF=>?_) fun iF=>?_
 ·have hkf:x.bB.length-k=(x.bB.length-(k+1))+1:=by omega
  rw[hkf]at GM;have wO:=nK x.ns (k+1);have LC:(x.ns.take (k+1)).sum=(x.ns.take k).sum+x.ns.getD k 0:=by rw[ba aa 0,vW];simp
  refine dQ ?_;refine ay rfl (.perm (aa2 HT (k:=k) (v6:=.slice A5 x.T.length c5) (v7:=.slice A6 LL.length c6) ho aa sH hcn (hn.mono (.cons_cons _ (.cons _ (.refl _)))) (ht.mono (.cons_cons _ (.cons _ (.refl _)))) (hl.mono (.cons_cons _ (.cons _ (.refl _)))) (hf.mono (.cons_cons _ (.cons _ (.refl _)))) (fun e he=>(Il e he).mono (.cons_cons _ (.cons _ (.refl _))))) ((l6 (fR (.refl _))))) fun A22 c22=>?_;refine dQ ?_;refine aj (fun qU=>?_) fun qU=>?_
  ·rw[Oh qU]at GM;have e:=amq GM.symm qU;refine bG ?_;refine ve [2,3] ?_;refine bJ ?_;refine aD 62 4 none ?_;refine aq (.cons (.skip (.cons (.skip (.refl _))))) ?_;refine aF ?_;rw[e];exact⟨none,0,rfl,rfl⟩
  ·rw[Vy qU]at GM;have l0:=abQ (bH qU);have Ga:(out++(lV x k).1).length=out.length+(lV x k).1.length:=aY;refine bG ?_;refine fN (bS Wo rfl aV rfl (aJ.own (.head _)) (I1 _) aa aa) fun Qc c30=>?_;refine aF ?_;refine ve [0,4,15,16] ?_;refine bz ?_;refine av ⟨_,aa,k+1,out++(lV x k).1,Qc,c30,⟨aa,aa,GM⟩,rfl,bp,.trans ((rM (gl (.skip (.refl _))))) (ax aa (by rw[u_]) (.refl _))⟩
 ·obtain rfl:k=x.bB.length:=by omega
  rw[nx,nU]at GM;refine bQ ?_;refine ai rfl (oK out (aJ.own (.head _))) ?_;refine bQ ?_;refine aj (fun qV=>?_) fun qV=>?_
  ·have e:=amr GM.symm qV;refine bQ ?_;refine aD 62 4 none ?_;refine aq (.cons (.skip (.refl _))) ?_;refine aF ?_;rw[e];exact⟨none,0,rfl,rfl⟩
  ·obtain⟨q1,q2,q3⟩:=ko (bH qV) (fun r hr=>by
    have:=KB ho x.bB.length 0 [] (fun _ h=>ki) r (by rw[←GM];exact hr);exact this)
   refine b8 ?_;refine cF (.own 62 4 Ao out.length co (di out)::Bo g (.slice A1 x.ns.length c1) v1 v2 v3 (.slice A3 x.times.length c3) (.slice A4 x.levels.length c4) (.slice A5 x.T.length c5) (.slice A6 LL.length c6) (.slice Af FB.length cf) v9::F) ?_;refine ae 0 ?_;refine ae 1 ?_;refine ae 2 ?_;refine aW 3 rfl (bU 2 ag rfl aV [.slice A5 x.T.length c5,.slice A6 LL.length c6] rfl rfl) ?_;refine ae 4 ?_;refine az 5 ?_;refine gA rfl .no apo rfl (Ud (L:=out) (aJ.own (.head _)) q3) rfl (by rintro _ _ ⟨AT,cT,AL,cL,L2,rfl,rfl,hL2⟩;exact gF) ?_;rintro _ _ ⟨AT,cT,AL,cL,L2,rfl,cA,hL2⟩;obtain rfl:=cA.symm;refine az 6 ?_;refine iW rfl rfl (air (T1:=x.T) (T2:=mS out) (L1:=Z4 LL) (L2:=Z4 L2) (by rw[CR]) (by rw[CR];have:=ek List.length hL2;simpa[Ju,mS]using this.symm) rfl (hT.mono (.cons _ (.cons _ (.trans (.cons _ (.refl _)) (gy _ _))))) (by rw[WN];exact hI.mono (.cons _ (.cons _ (.trans (.cons _ (.refl _)) (gy _ _))))) (afp fun e he=>(hIe e he).mono (.cons _ (.cons _ (.trans (.cons _ (.refl _)) (gy _ _))))) (aJ.own (.head _)) aoC (WM fun e he=>.tail _ (.tail _ (j8 _ (jc (f:=jL) he)))) aa (by rw[CR];omega) (fun e he=>(Z5 (m:=20000) (fun e he=>o9 _ (by rw[←hLx];exact jc (f:=fun y:rG=>y.2.2) he)) aa e he))) ?_;refine ae 7 ?_;refine be ?_;refine aj (fun tQ=>?_) fun tQ=>?_
   ·have hi:¬(x.T=mS out∧x.I=mR out):=fun hh=>tQ ⟨hh.1,by rw[yP,yP,hLx,hL2,hh.2];rfl⟩;have e:=ams GM.symm qV hi;refine b8 ?_;refine ve [2,3] ?_;refine bF ?_;refine aD 62 4 none ?_;refine aq (.cons (.skip (.skip ((dv _ _).trans (.skip (.refl _)))))) ?_;refine aF ?_;rw[e];exact⟨none,0,rfl,rfl⟩
   ·have hi:x.T=mS out∧x.I=mR out:=by
     have hh:=bH tQ;refine⟨hh.1,zi ?_⟩;have h2:=hh.2;rw[yP,yP,hLx,hL2]at h2;exact h2
    have e:=amt GM.symm qV hi;refine bL ?_;refine ve [2,3] ?_;refine be ?_;refine aq (.skip (.skip (dv _ _))) ?_;refine aF ?_;rw[e];exact⟨Ao,co,rfl,rfl⟩
theorem CU.open_{x:ir}{L:aP}(h:CU B w0 L g x):∃(A1:bj) (c1:Nat) (A2:bj) (c2:Nat) (A3:bj) (c3:Nat) (A4:bj) (c4:Nat) (A5:bj) (c5:Nat) (A6:bj) (c6:Nat) (LX:List rG) (Af:bj) (cf:Nat) (FB:List kO) (va:Value) (M:aP),
  L.Perm (Bo g (.slice A1 x.ns.length c1) (.slice A2 x.ss.length c2) (ah x.c) (ah x.i) (.slice A3 x.times.length c3) (.slice A4 x.levels.length c4) (.slice A5 x.T.length c5) (.slice A6 LX.length c6) (.slice Af FB.length cf) va::M)∧
  aJ B w0 L 1 (.slice A1 x.ns.length c1) x.ns.length (bx x.ns)∧aJ B w0 L 1 (.slice A3 x.times.length c3) x.times.length (pZ x.times)∧aJ B w0 L 1 (.slice A4 x.levels.length c4) x.levels.length (bv x.levels)∧
  aJ B w0 L 1 (.slice A5 x.T.length c5) x.T.length (strs x.T)∧aJ B w0 L 1 (.slice A6 LX.length c6) LX.length (LX.map jM)∧(∀e∈LX,aJ B w0 L 1 (jM e) e.2.2.length (bx e.2.2))∧LX.map (·.2.2)=x.I∧
  aJ B w0 L 1 (.slice Af FB.length cf) FB.length (FB.map dq)∧(∀e∈FB,aJ B w0 L 1 (dq e) e.2.2.length (bv e.2.2))∧FB.map (·.2.2)=x.bB:=by
 obtain⟨A1,c1,A2,c2,A3,c3,A4,c4,A5,c5,A6,c6,LX,Af,cf,FB,va,h1,h2,h3,h4,h5,h6,h7,h8,h9,jF,pg⟩:=h;obtain⟨s,t,rfl⟩:=List.append_of_mem h1;exact⟨A1,c1,A2,c2,A3,c3,A4,c4,A5,c5,A6,c6,LX,Af,cf,FB,va,s++t,yg,h2,h3,h4,h5,h6,h7,h8,h9,jF,pg⟩
theorem aa6(HT:bI B w0){x:ir}{L:aP}(ho:sw x)(hB:CU B w0 L g x):
  a_ B w0 127 [br g] L (fun v K=>∃A' c',v= .tuple #[.slice A' (jl x).1.length c',ah (jl x).2]∧K= .own 62 4 A' (jl x).1.length c' (di (jl x).1)::L):=by
 obtain⟨A1,c1,A2,c2,A3,c3,A4,c4,A5,c5,A6,c6,LX,Af,cf,FB,va,M,hp,h2,h3,h4,h5,h6,h7,h8,h9,jF,pg⟩:=hB.open_;refine dL.xf h2 fun hcn _=>?_;exact((ak7 HT ho pg h8 hcn (h2.perm hp) (h3.perm hp) (h4.perm hp) (h5.perm hp) (h6.perm hp) (fun e he=>(h7 e he).perm hp) (h9.perm hp) (fun e he=>(jF e he).perm hp)).perm hp).K9 fun v K ⟨A',c',h1,h2⟩=>⟨_,.dD (by rw[h2];exact(hp.symm.cons _)),A',c',h1,rfl⟩
theorem acX:a_ B w0 112 [.slice none 0 c] F (fun r L=>∃A' c',r= .slice A' 0 c'∧L= .own 3 1 A' 0 c' (bx [])::F):=by
 refine fw func112 8 [0] ?_;refine bQ ?_;refine ab (rV underlying53 rfl rfl) rfl ?_;refine bA ?_;refine aD 3 1 none ?_;refine aF ?_;exact⟨none,0,rfl,rfl⟩
theorem acY{ns:bf}{ad:Addr}(hb:aJ B w0 F 1 (.slice (some ad) ns.length c) ns.length (bx ns))(hn:ns.length≤1000000):
  a_ B w0 112 [.slice (some ad) ns.length c] F (fun r L=>∃A' c',r= .slice A' ns.length c'∧L= .own 3 1 A' ns.length c' (bx ns)::F):=by
 refine fw func112 8 [0] ?_;refine bQ ?_;refine ab (rV underlying53 rfl rfl) rfl ?_;refine bL ?_;refine cC (lz fJ) fun A5=>?_;refine aF ?_;refine fN (bS fJ rfl aV rfl aB (adA _) aa aa) fun A7 c7=>?_;refine b8 ?_;rw[mq,nA];refine aF ?_;exact⟨_,_,rfl,rfl⟩
theorem acZ{ns:bf}(hb:aJ B w0 F 1 (.slice A ns.length c) ns.length (bx ns))(hn:ns.length≤1000000):
  a_ B w0 112 [.slice A ns.length c] F (fun r L=>∃A' c',r= .slice A' ns.length c'∧L= .own 3 1 A' ns.length c' (bx ns)::F):=by
 cases A with
 |none=>
  intro w hw;obtain⟨A',c',hv,hc,rK,hr⟩:=hb w hw;injection hv with q1 q2 q3;subst q1;have h0:ns=[]:=mm (bH fun h=>by
   obtain⟨ad,e,_⟩:=hr aa;cases e)
  subst h0;exact acX w hw
 |some ad=>
  exact acY hb hn
theorem Hs{x:ir}{L:aP}(ho:sw x)(hB:CU B w0 L g x):
  a_ B w0 59 [br g] L (fun v K=>∃A' c',v= .slice A' x.ns.length c'∧K= .own 3 1 A' x.ns.length c' (bx x.ns)::L):=by
 have Va:=ho.nl;obtain⟨A1,c1,A2,c2,A3,c3,A4,c4,A5,c5,A6,c6,LX,Af,cf,FB,va,M,hp,h2,h3,h4,h5,h6,h7,h8,h9,jF,pg⟩:=hB.open_;have h2:=h2.perm hp;refine dL.K9 (R:=fun v K=>∃A' c',v= .slice A' x.ns.length c'∧K= .own 3 1 A' x.ns.length c' (bx x.ns)::(Bo g (.slice A1 x.ns.length c1) (.slice A2 x.ss.length c2) (ah x.c) (ah x.i) (.slice A3 x.times.length c3) (.slice A4 x.levels.length c4) (.slice A5 x.T.length c5) (.slice A6 LX.length c6) (.slice Af FB.length cf) va::M)) (dL.perm ?_ hp) fun v K ⟨A',c',q1,q2⟩=>⟨_,.dD (by rw[q2];exact(hp.symm.cons _)),A',c',q1,rfl⟩
 refine fw func59 11 [0] ?_;refine GC ?_;refine ay rfl (acZ h2 aa) fun wh F6=>?_;refine bG ?_;exact⟨wh,F6,rfl,rfl⟩
end
theorem yd:type_of% @Nat.mul_le_mul_left:= @Nat.mul_le_mul_left
theorem UQ{S:Nat}(hS:S≤32768)(pl:Bool):∀(g:bf) (L:List aK),(∀x∈L,x.fits)→CW S (lens false L) g→(jv false pl g L).flatten.length≤33000*g.length
 |[],_,_,_=>by simp[jv]
 |n::g,L,hL,hf=>by
  obtain⟨f1,f2,f3,f4,f5⟩:=hf;have It:=oF (b:=false) hS hL f1 f3;have h1:=C9 (b:=dc false (L.take n)) (pl:=pl) It;have h2:=UQ hS pl g (L.drop n) (fun x hx=>hL x (rf hx)) ags;rw[jv,v_,aY,ef,t_,cE];have:=h1.1;omega
theorem Xq{o:aR}{L:List aK}{M:Nat}(ho:cB 2 (o2 o)=0)(hc:cO L=0)(hx:∀x∈L,x.1<18446744073709551616)(hi:(qA o L).length≤M)(hM:M≤100000000000):
  (dy o L).length≤33000*L.length+40*L.length+M+1000+(kq L).length:=by
 obtain⟨tu,rK,Lz⟩:=ko hc hx;have hom:=AF (.inr (.inl rfl)) ho;obtain⟨⟨m1,m2⟩,_,m4,_⟩:=hom;have m1:16≤o.1:=m1;have m2:o.1≤32768:=m2;have GL:(dR o false L).length≤L.length:=by unfold dR;have:=mV o.1.toNat (lens false L);rwa [eo]at this
 have Il:=UQ (S:=o.1.toNat) aa o.2.1 (dR o false L) L rK (kv _ _);have hss:∀x∈(eQ o L).map List.length,x≤33000*L.length:=fun x hx=>by
  have h1:=pz hx;rw[←List.length_flatten]at h1;have:33000*(dR o false L).length≤33000*L.length:=yd _ GL;exact jd h1 (jd Il this)
 have wO:=Cy o false L;have r7:=qO (L:=L) aa;have hCl:(oT L).length=(kq L).length+4:=du _;have hIl:(oV o L).length=(qA o L).length+4:=du _;have hDl:(p7 o L).length≤60+20*L.length+4:=by
  unfold p7;rw[du];have h1:=yZ (dR o false L) ((eQ o L).map List.length) (fun n hn=>Xl) (fun n hn=>by have:=hss n hn;omega) (dR o false L).length;have h2:uL (dR o false L) ((eQ o L).map List.length) (dR o false L).length=((dR o false L).zip ((eQ o L).map List.length)).flatMap fun p=>aS p.1++aS p.2:=by
   unfold uL;rw[fL (by rw[List.length_zip];omega)]
  rw[h2]at h1;have h3:=aT (x:=(dR o false L).sum) aa;have h4:=aT (x:=(dR o false L).length) aa;have h5:=aT (x:=(oT L).length) aa;have h6:=aT (x:=(oV o L).length) aa;unfold xK;simp only[aY];omega
 unfold dy;have:33000*(dR o false L).length≤33000*L.length:=yd _ GL;have acB:(eQ o L).flatten.length≤33000*L.length:=jd Il this;simp only[aY,p8];omega
theorem Hv{o:aR}{L:List aK}(ho:cB 2 (o2 o)=0)(hc:cO L=0)(hx:∀x∈L,x.1<18446744073709551616):(dy o L).length≤1000000000000:=by
 obtain⟨tu,rK,Lz⟩:=ko hc hx;have hom:=AF (.inr (.inl rfl)) ho;obtain⟨_,_,m4,_⟩:=hom;obtain⟨m5,m6⟩:=m4 (.inr rfl);have hi:=NH (o:=o) m5 m6 Lz tu;have:=Xq (M:=60000000000) ho hc hx aa aa;have r7:=qO (L:=L) aa;omega
theorem aad(HT:bI B w0){o:aR}(h1:0≤o.1)(h2:o.1≤32768)(h3:0≤o.2.2.1)(h4:o.2.2.1≤64):
  a_ B w0 65 [.agg (aR.cells o).toArray] F (Gg (so o) F):=by
 obtain⟨bl,pl,bu,da,pa,ch⟩:=o;simp only at h1 h2 h3 h4;obtain⟨S,rfl⟩:=gM h1;obtain⟨sz,rfl⟩:=gM h3;have hn1:=aT (x:=S) aa;have tU:=aT (x:=sz) aa;have hH:om ((S:Int),pl,(sz:Int),da,pa,ch)=(dY++[2])++(aS S++([fI pl]++aS sz)):=rfl;have hHl:(om ((S:Int),pl,(sz:Int),da,pa,ch)).length≤30:=by
  rw[hH];simp only[aY,ef,r_,dY];omega
 have hTH:so ((S:Int),pl,(sz:Int),da,pa,ch)=cX (om ((S:Int),pl,(sz:Int),da,pa,ch)):=rfl;rw[hTH];obtain⟨H0,hH0⟩:=cN (om ((S:Int),pl,(sz:Int),da,pa,ch));rw[←hH0]at hH hHl⊢;refine ct func65 26 rfl rfl rfl [(0,.agg #[ah (S:Int),.bool pl,ah (sz:Int),ah da,ah pa,ah ch])] ⟨⟨rfl,rfl⟩,trivial⟩ ?_;refine be ?_;refine bh fun g1=>?_;refine bJ ?_;refine d_ (fun zf zL=>Sub zf [(1,br g1),(3,.int .u8 ((fI pl).toNat:Int))]∧Wk zL (.bD g1 23 [ah (S:Int),.bool pl,ah (sz:Int),ah da,ah pa,ah ch]::F)) ?_ ?_
 ·refine bz ?_;refine gD (fun h7=>?_) fun h7=>?_
  ·subst h7;refine bF ?_;exact bC ⟨bp,.refl _⟩
  ·subst h7;refine aF ?_;exact bC ⟨bp,.refl _⟩
 ·rintro _ _ ⟨hs,hp⟩;refine aU hs hp ?_;clear hs hp;refine be ?_;refine ay rfl (R5 2) fun A9 c9=>?_;refine bJ ?_;rw[show(qf 2).1=dY++[2] from rfl];refine cF (.own 5 1 A9 (dY++[2]:al).length c9 (bv (dY++[2])):: .bD g1 23 [ah (S:Int),.bool pl,ah (sz:Int),ah da,ah pa,ah ch]::F) ?_;refine ae 0 ?_;refine ae 1 ?_;refine ae 2 ?_;refine aW 3 rfl (bm underlying3 underlying60 rfl (r:=((S:Nat):Int)) (f_ aa aa)) ?_;refine ae 5 ?_;refine ae 7 ?_;refine ae 8 ?_;refine aW 9 rfl (bm underlying3 underlying60 rfl (r:=((sz:Nat):Int)) (f_ aa aa)) ?_;refine gV 4 6 ?_ ?_
  ·refine bZ rfl rfl (iN S aa) fun W8 c16=>?_;refine gV 6 10 ?_ ?_
   ·refine cR rfl (aG cD [_] rfl rfl cw aa aa) fun sX=>?_;refine az 10 ?_;refine bZ rfl rfl (iN sz aa) fun A22 c22=>?_;refine az 11 ?_;refine cR rfl (aG fD [_,_,_,_] rfl rfl cw aa aa) fun TJ=>?_;refine az 12 ?_;refine bZ rfl rfl (Qk (l1:=dY++[2]) (l2:=aS S) (l3:=[fI pl]) (l4:=aS sz) aB aB aB aB aB hH aa) fun Bi Df=>?_;refine az 13 ?_;refine bZ rfl rfl (qu HT (l:=H0) aB aa) fun G' Ls=>?_;refine ae 14 ?_;refine cQ [2] ?_;refine be ?_;refine aq ((ed (.skip (.skip (.skip (.skip (.skip (.skip (.skip (.refl _)))))))))) ?_;refine aF ?_;exact⟨G',Ls,rfl,rfl⟩
   ·refine bZ rfl rfl (iN sz aa) fun A22 c22=>?_;refine az 6 ?_;refine cR rfl (aG cD [_] rfl rfl cw aa aa) fun sX=>?_;refine az 11 ?_;refine cR rfl (aG fD [_,_,_,_] rfl rfl cw aa aa) fun TJ=>?_;refine az 12 ?_;refine bZ rfl rfl (Qk (l1:=dY++[2]) (l2:=aS S) (l3:=[fI pl]) (l4:=aS sz) aB aB aB aB aB hH aa) fun Bi Df=>?_;refine az 13 ?_;refine bZ rfl rfl (qu HT (l:=H0) aB aa) fun G' Ls=>?_;refine ae 14 ?_;refine cQ [2] ?_;refine be ?_;refine aq ((ed (.skip (.skip (.skip (.skip (.skip (.skip (.skip (.refl _)))))))))) ?_;refine aF ?_;exact⟨G',Ls,rfl,rfl⟩
  ·refine cR rfl (aG cD [_] rfl rfl cw aa aa) fun sX=>?_;refine az 4 ?_;refine bZ rfl rfl (iN S aa) fun W8 c16=>?_;refine az 10 ?_;refine bZ rfl rfl (iN sz aa) fun A22 c22=>?_;refine az 11 ?_;refine cR rfl (aG fD [_,_,_,_] rfl rfl cw aa aa) fun TJ=>?_;refine az 12 ?_;refine bZ rfl rfl (Qk (l1:=dY++[2]) (l2:=aS S) (l3:=[fI pl]) (l4:=aS sz) aB aB aB aB aB hH aa) fun Bi Df=>?_;refine az 13 ?_;refine bZ rfl rfl (qu HT (l:=H0) aB aa) fun G' Ls=>?_;refine ae 14 ?_;refine cQ [2] ?_;refine be ?_;refine aq ((ed (.skip (.skip (.skip (.skip (.skip (.skip (.skip (.refl _)))))))))) ?_;refine aF ?_;exact⟨G',Ls,rfl,rfl⟩
theorem aah(HT:bI B w0){o:aR}{L:List aK}(hx:∀x∈L,x.1<18446744073709551616)(hb:aJ B w0 F 4 (.slice A L.length c) L.length (di L)):
  a_ B w0 27 [.agg (aR.cells o).toArray,.slice A L.length c] F (LO (vG o L) F):=by
 have hO1:∀(h:cB 2 o≠0),vG o L=([],cB 2 o):=fun h=>by unfold vG;rw[ao h]
 have hO2:∀(h:¬cB 2 o≠0) (h2:(fX o L).2≠0),vG o L=([],(fX o L).2):=fun h h2=>by unfold vG;rw[aw h,ao h2]
 have hO3:∀(h:¬cB 2 o≠0) (h2:¬(fX o L).2≠0),vG o L=(pX o L,0):=fun h h2=>by unfold vG;rw[aw h,aw h2]
 have hmk:=fun(h:¬cB 2 o≠0)=>CK (bH h);have hbw:∀(h2:¬(fX o L).2≠0),(fX o L).1=dy o L∧cO L=0:=fun h2=>by
  unfold fX at h2⊢;by_cases q1:cB 2 (o2 o)≠0
  ·rw[ao q1]at h2;exact absurd q1 h2
  ·by_cases q2:cO L≠0
   ·rw[aw q1,ao q2]at h2;exact absurd q2 h2
   ·rw[aw q1,aw q2];exact⟨rfl,bH q2⟩
 obtain⟨W,hW⟩:=cN (vG o L);obtain⟨Y,hY⟩:=cN (fX o L);have NA:=fun M (hb:aJ B w0 M 4 (.slice A L.length c) L.length (di L))=>Da (F:=M) HT (o:=o) hx hb;rw[←hW]at hO1 hO2 hO3⊢;rw[←hY]at hO2 hO3 hbw;simp only[←hY]at NA;obtain⟨bl,pl,bu,da,pa,ch⟩:=o;refine ct func27 28 rfl rfl rfl [(0,.agg #[ah bl,.bool pl,ah bu,ah da,ah pa,ah ch]),(1,.slice A L.length c)] ⟨⟨rfl,rfl⟩,⟨rfl,rfl⟩,trivial⟩ ?_;refine be ?_;refine bh fun g2=>?_;refine bJ ?_;refine ai rfl (kD 2 (bl,pl,bu,da,pa,ch)) ?_;refine bQ ?_;refine aj (fun mA=>?_) fun mA=>?_
 ·refine bQ ?_;refine aD 5 1 none ?_;refine aq (.cons (.skip (.refl _))) ?_;refine aF ?_;rw[hO1 mA];exact⟨none,0,rfl,rfl⟩
 ·refine bz ?_;refine ay rfl (NA _ hb.cons) fun TI c17=>?_;refine dQ ?_;refine aj (fun lW=>?_) fun lW=>?_
  ·refine bG ?_;refine ve [4,5] ?_;refine bF ?_;refine aD 5 1 none ?_;refine aq (.cons (.skip (.skip (.refl _)))) ?_;refine aF ?_;rw[hO2 mA lW];exact⟨none,0,rfl,rfl⟩
  ·obtain⟨fG,ho2⟩:=hmk mA;obtain⟨⟨m1,m2⟩,_,m4,_,_⟩:=fG;obtain⟨m5,m6⟩:=m4 (.inr rfl);have m5:1≤bu:=m5;have m6:bu≤64:=m6;have m1:16≤bl:=m1;have m2:bl≤32768:=m2;have hbB:=hbw lW;have Nq:=Hv (o:=(bl,pl,bu,da,pa,ch)) (L:=L) (by rw[ho2];exact bH mA) hbB.2 hx;have U':(so (bl,pl,bu,da,pa,ch)).length≤1000:=by
    unfold so om;have hn1:=aT (x:=(bl:Int).toNat) aa;have tU:=aT (x:=(bu:Int).toNat) aa;rw[du];simp only[aY,ef,r_,dY];omega
   have wL:(pX (bl,pl,bu,da,pa,ch) L).length=(so (bl,pl,bu,da,pa,ch)).length+(dy (bl,pl,bu,da,pa,ch) L).length:=aY;refine bG ?_;refine ay rfl (aad HT (o:=(bl,pl,bu,da,pa,ch)) (by show 0≤bl;omega) m2 (by show 0≤bu;omega) m6) fun Bi Df=>?_;refine aF ?_;refine cC (aG fD [_,_] rfl rfl cw aa aa) fun sY=>?_;refine ay rfl (Qj (l:=pX (bl,pl,bu,da,pa,ch) L) (l1:=so (bl,pl,bu,da,pa,ch)) (l2:=Y.1) aB aB aB (by rw[hbB.1];rfl) aa) fun Ha Mq=>?_;refine be ?_;refine ve [4,5] ?_;refine be ?_;refine aq ((ed (.skip (.skip (.skip (.skip (.refl _))))))) ?_;refine aF ?_;rw[hO3 mA lW];exact⟨Ha,Mq,rfl,rfl⟩
abbrev Tb(g gc:Nat)(o:aR):Ch:=.bD g 179 [br gc,ah o.1,.bool o.2.1,ah o.2.2.1,ah o.2.2.2.1,ah o.2.2.2.2.1,ah o.2.2.2.2.2]
theorem aky(b:al):(th1 b).b=b:=Cs.cK _ _ _
theorem ae4(b:al):(th2 b).b=b:=(Cs.cK _ _ _).trans (aky b)
theorem akz(b:al):(WI b).b=b:=by
 unfold WI;split
 ·rw[qP];exact(Cs.cK _ _ _).trans (ae4 b)
 ·exact(Cs.cK _ _ _).trans (ae4 b)
theorem akA(b:al):(th4 b).b=b:=(Cs.cK _ _ _).trans (akz b)
theorem akB(b:al):(BU b).b=b:=(Cs.cK _ _ _).trans (akA b)
theorem ae3{b:al}(h:b.length≤1099511627776):cu (th1 b):=(oY h).b_
theorem S0{b:al}(h:b.length≤1099511627776):cu (th2 b):=(ae3 h).bX aa
theorem ae5{b:al}(h:b.length≤1099511627776):cu (WI b):=by
 unfold WI;split
 ·exact(S0 h).eJ.failed _
 ·exact(S0 h).eJ
theorem ae6{b:al}(h:b.length≤1099511627776):cu (th4 b):=(ae5 h).bX aa
theorem ae7{b:al}(h:b.length≤1099511627776):cu (BU b):=(ae6 h).b_
theorem aag(b:al):rL b=if (BU b).e≠0 then (0,(BU b).e) else if (aI (b.take (BU b).at_)).2≠0 then (0,(aI (b.take (BU b).at_)).2) else ((BU b).at_,cB 2 (BV b)):=rfl
theorem alb(HT:bI B w0){l:al}(e:n=l.length)(hb:aJ B w0 F 1 (.slice A n c) n (bv l))(hl:l.length≤1099511627776):
  a_ B w0 176 [.slice A n c] F (fun r L=>∃A' c',r= .tuple #[.slice A' (aI l).1.length c',ah (aI l).2]∧L= .own 5 1 A' (aI l).1.length c' (bv (aI l).1)::F):=by
 subst e;exact wz HT hb hl
theorem Jg(HT:bI B w0){b:al}{An:bj}{cn:Nat}(hb:eM B w0 F A c b)(hbn:eM B w0 F An cn b)(c_:b.length≤1000000000):
  a_ B w0 110 [br g,.slice A b.length c] (Tb g gc gR::Cv gc An cn ⟨b,0,0⟩::F)
   (fun r L=>r= .tuple #[ah ((rL b).1:Int),ah (rL b).2]∧L=Tb g gc (BV b)::Cv gc An cn (BU b)::F):=by
 refine dL.xf hb.cons.cons fun mh _=>?_;have k1:=aky b;have k2:=ae4 b;have k3:=akz b;have k4:=akA b;have k5:=akB b;have at5:=(ae7 (b:=b) aa).at_;rw[k5]at at5;have e1:th1 b=Cs.b_ ⟨b,0,0⟩ 5:=rfl;have e2:th2 b=(th1 b).bX 32768:=rfl;have e4:th4 b=(WI b).bX 64:=rfl;have e5:BU b=(th4 b).b_ 4:=rfl;obtain⟨bl,GJ⟩:=cN ((th1 b).int 32768);have alM:((bl:Nat):Int)≤32768:=by rw[GJ];exact Cs.gx _ aa aa
 obtain⟨bu,alN⟩:=cN ((WI b).int 64);have atG:((bu:Nat):Int)≤64:=by rw[alN];exact Cs.gx _ aa aa
 have hx8:=lQ (ZY b);obtain⟨y,hy⟩:=cN ((ZY b).toNat);have hO:BV b=(((bl:Nat):Int),decide ((y:Int)=1),((bu:Nat):Int),0,0,0):=by
  unfold BV;rw[←GJ,←alN,←hy];congr 2;exact z7.2 ⟨fun h=>by omega,fun h=>aa⟩
 have hE:=aag b;have acH:aJ B w0 F 1 (.slice A (BU b).at_ c) (BU b).at_ (bv (b.take (BU b).at_)):=by
  have:=hb.iZ (k:=(BU b).at_) at5;rw[jX,cE]at this;exact this
 have Ce:(b.take (BU b).at_).length=(BU b).at_:=by rw[eS];omega
 rw[hO]at hE⊢;rw[←hy]at hx8;refine fw func110 88 [0,1] ?_;refine cJ ?_;refine ay rfl (.perm (mb (g:=gc) (s:=⟨b,0,0⟩) (m:=5) (oY aa) hbn.cons aa aa) ((l6 (fR (.refl _))))) fun A14 c14=>?_;refine bF ?_;rw[←e1];refine wg ((ed (gl (.skip (.refl _))))) ?_;refine bz ?_;refine ai rfl (iH (s:=th1 b) (most:=32768) (ae3 aa) (by rw[k1];exact hbn.cons) aa aa) ?_;refine bL ?_;rw[←e2,←GJ];refine bG ?_;refine ai rfl (oo (s:=th2 b) (S0 aa) (by rw[k2];exact hbn.cons)) ?_;refine aF ?_;refine ve [0,1,6] ?_;refine aF ?_;refine d_ (fun zf zL=>Sub zf [(0,br g),(1,.slice A b.length c),(6,.int .u8 (y:Int))]∧Wk zL (Cv gc An cn (WI b)::Tb g gc (((bl:Nat):Int),false,0,0,0,0)::F)) ?_ ?_
 ·refine aF ?_;refine Bc [(0,br g),(1,.slice A b.length c),(6,.int .u8 (y:Int))] ⟨rfl,rfl,(by rw[hy];rfl),trivial⟩ ?_;refine bG ?_;refine aj (fun Bv=>?_) fun Bv=>?_
  ·refine bG ?_;refine ai rfl (ng 2) ?_;refine aF ?_;exact bC ⟨bp,mM (by unfold WI;rw[ao aa]) (.refl _)⟩
  ·refine aF ?_;exact bC ⟨bp,mM (by unfold WI;rw[aw aa]) (.refl _)⟩
 ·rintro _ _ ⟨hs,hp⟩;refine aU hs hp ?_;clear hs hp;refine tP ?_;refine ai rfl (iH (s:=WI b) (most:=64) (ae5 aa) (by rw[k3];exact hbn.cons) aa aa) ?_;refine bL ?_;rw[←e4,←alN];refine bG ?_;refine ay rfl (mb (s:=th4 b) (m:=4) (ae6 aa) (by rw[k4];exact hbn.cons) aa aa) fun A55 c55=>?_;refine ve [0,1] ?_;refine bF ?_;rw[←e5];refine wg ((ed (gl (.skip (.refl _))))) ?_;refine bG ?_;refine ai rfl (gO) ?_;refine bQ ?_;refine aj (fun h62=>?_) fun h62=>?_
  ·refine bQ ?_;refine aq ((gl (ed (.refl _)))) ?_;refine aF ?_;exact⟨by rw[hE,ao h62];rfl,rfl⟩
  ·refine bA ?_;refine ai rfl (zz) ?_;refine ab (bN (i:=(BU b).at_) (size:=1) underlying27 ag rfl rfl rfl aa) rfl ?_;refine ay rfl (alb HT (l:=b.take (BU b).at_) Ce.symm acH.cons.cons aa) fun A72 c72=>?_;refine bG ?_;refine ve [0,9] ?_;refine bL ?_;refine aj (fun h76=>?_) fun h76=>?_
   ·refine bQ ?_;refine aq ((rM (gl (.skip (.refl _))))) ?_;refine aF ?_;exact⟨by rw[hE,aw h62,ao h76];rfl,rfl⟩
   ·refine bJ ?_;refine iU aoT rfl (zz.jg ((l6 (fR (.refl _))))) vv rfl ?_;refine bF ?_;refine b7 (bU 6 ag rfl aV (aR.cells (((bl:Nat):Int),decide ((y:Int)=1),((bu:Nat):Int),0,0,0)) rfl rfl) rfl ?_;refine iU arH rfl (kD 2 (((bl:Nat):Int),decide ((y:Int)=1),((bu:Nat):Int),0,0,0)) vv rfl ?_;refine bG ?_;refine aq ((rM (gl (.skip (.refl _))))) ?_;refine aF ?_;exact⟨by rw[hE,aw h62,aw h76],rfl⟩
section
theorem L8{P:Prop}(h:P:=by(rw[h];simp)):P:=h
theorem Hx{o:aR}{b:al}(c_:b.length≤1000000)(h:(ei o b).2=0):sw (ei o b).1:=by
 by_cases h1:cB 2 (o2 o)≠0
 ·rw[Jz h1]at h;exact absurd h h1
 ·by_cases h2:(fZ b).2.2≠0
  ·rw[JA h1 h2]at h;exact absurd h h2
  ·by_cases h3:Gy (dT b) (qq b).length≠0
   ·rw[JB h1 h2 h3]at h;exact absurd h h3
   ·by_cases h4:xE (fa (dT b)).1.sum (wy b)≠0
    ·rw[JC h1 h2 h3 h4]at h;exact absurd h h4
    ·by_cases h5:(aI (vw b)).2≠0
     ·rw[T7 h1 h2 h3 h4 h5]at h;exact absurd h h5
     ·by_cases h6:(ey o.2.2.1 ((fa (dT b)).1.sum:Nat) (aI (vw b)).1).2.2≠0
      ·rw[T8 h1 h2 h3 h4 h5 h6]at h;exact absurd h h6
      ·rw[T9 h1 h2 h3 h4 h5 h6];exact ak9 c_ h1 h3 h4
theorem T'(HT:bI B w0){o:aR}{b:al}(e:n=b.length)(hb:aJ B w0 F 1 (.slice A n c) n (bv b))(c_:b.length≤1000000)(h:(ei o b).2≠0):a_ B w0 111 [.agg (aR.cells o).toArray,.slice A n c] F (Xa (ei o b).2 F):=by
 subst e;exact(T_ HT hb c_).mono fun r L hr=>hr.elim (fun q=>q.2) fun q=>absurd q.1 h
theorem Ua(HT:bI B w0){o:aR}{b:al}(e:n=b.length)(hb:aJ B w0 F 1 (.slice A n c) n (bv b))(c_:b.length≤1000000)(h:(ei o b).2=0):a_ B w0 111 [.agg (aR.cells o).toArray,.slice A n c] F (anU (ei o b).1 B w0 F):=by
 subst e;exact(T_ HT hb c_).mono fun r L hr=>hr.elim (fun q=>absurd h q.1) fun q=>q.2
section
variable{b:al}
theorem Ti(h:(marked b).2≠0):iq b=(gR,.nil,(marked b).2):=by unfold iq;rw[ao h]
theorem Tj(h:¬(marked b).2≠0)(h2:(marked b).1≠2):iq b=(gR,.nil,4):=by unfold iq;rw[aw h,ao h2]
theorem Tk(h:¬(marked b).2≠0)(h2:¬(marked b).1≠2)(h3:(rL b).2≠0):iq b=(gR,.nil,(rL b).2):=by unfold iq;rw[aw h,aw h2,ao h3]
theorem Tl(h:¬(marked b).2≠0)(h2:¬(marked b).1≠2)(h3:¬(rL b).2≠0)(h4:(ei (BV b) (b.drop (rL b).1)).2≠0):iq b=(gR,.nil,(ei (BV b) (b.drop (rL b).1)).2):=by unfold iq;rw[aw h,aw h2,aw h3,ao h4]
theorem Tm(h:¬(marked b).2≠0)(h2:¬(marked b).1≠2)(h3:¬(rL b).2≠0)(h4:¬(ei (BV b) (b.drop (rL b).1)).2≠0):iq b=(BV b,(ei (BV b) (b.drop (rL b).1)).1,0):=by unfold iq;rw[aw h,aw h2,aw h3,aw h4]
end
theorem ae8{b:al}(h:b.length≤1000000):(rL b).1≤b.length:=by
 have at5:=(ae7 (b:=b) aa).at_;rw[akB]at at5;unfold rL;split
 ·simp
 ·split
  ·simp
  ·exact at5
def arw(o:aR)(x:ir)(B:Nat)(w0:World)(F:aP)(r:Value)(L:aP):Prop:=∃g N,r= .tuple #[.agg (aR.cells o).toArray,br g,ah 0]∧L=N++F∧CU B w0 N g x
def arx(e:Int)(F:aP)(r:Value)(L:aP):Prop:=r= .tuple #[.agg (aR.cells gR).toArray,.pointer none,ah e]∧L=F
theorem aae(HT:bI B w0){b:al}(hb:eM B w0 F A c b)(c_:b.length≤1000000)(h:(iq b).2.2≠0):a_ B w0 57 [.slice A b.length c] F (arx (iq b).2.2 F):=by
 have hle:=ae8 c_;have qy:=fB (BV b);have Ea:=fB gR;refine fw func57 58 [0] ?_;refine be ?_;refine bc fun g2=>?_;refine bL ?_;refine ai rfl (uk hb.cons aa) ?_;refine jS ?_;refine aj (fun jG=>?_) fun jG=>?_
 ·refine be ?_;refine ab (cj [ah 0,.bool false,ah 0,ah 0,ah 0,ah 0] ag) rfl ?_;refine bQ ?_;refine ql rfl rfl ag aV gC rfl rfl (.skip (.refl _)) ?_;rw[Ti jG];exact⟨rfl,rfl⟩
 ·refine bL ?_;refine aj (fun iY=>?_) fun iY=>?_
  ·refine be ?_;refine ab (cj [ah 0,.bool false,ah 0,ah 0,ah 0,ah 0] ag) rfl ?_;refine bF ?_;refine ve [2,3,4] ?_;refine b8 ?_;refine ql rfl rfl ag aV gC rfl rfl (.skip (.refl _)) ?_;rw[Tj jG iY];exact⟨rfl,rfl⟩
  ·refine bz ?_;refine dX rfl (mU hb.cons aa) fun gn An cn=>?_;refine ab (bw [(0,_)] [.pointer none,ah 0,.bool false,ah 0,ah 0,ah 0,ah 0] [0] [_,_,_,_,_,_,_] rfl rfl ag) rfl ?_;refine bh fun g27=>?_;refine aF ?_;refine ve [0,2,7] ?_;refine bG ?_;refine ai rfl (Jg HT hb.cons.cons (aJ.own (.head _)) aa) ?_;refine dQ ?_;refine aj (fun qV=>?_) fun qV=>?_
   ·refine be ?_;refine ab (cj [ah 0,.bool false,ah 0,ah 0,ah 0,ah 0] ag) rfl ?_;refine bJ ?_;refine ql rfl rfl ag aV gC rfl rfl (.skip (.skip (.skip (.skip (.refl _))))) ?_;rw[Tk jG iY qV];exact⟨rfl,rfl⟩
   ·have h4:(ei (BV b) (b.drop (rL b).1)).2≠0:=fun k=>by
     rw[Tm jG iY qV (by rw[k];simp)]at h;exact h rfl
    have hcut:aJ B w0 F 1 (.slice (if c=(rL b).1 then A else A.map (·.add ((rL b).1*1))) (b.length-(rL b).1) (c-(rL b).1)) (b.length-(rL b).1) (bv (b.drop (rL b).1)):=by
     have:=hb.cut hle;rw[jt,cE]at this;rw[cE];exact this
    refine bF ?_;refine cF (Tb g27 gn (BV b)::Cv gn An cn (BU b):: .own 5 1 An b.length cn (bv b):: .bD g2 23 [ah 0,.bool false,ah 0,ah 0,ah 0,ah 0]::F) ?_;refine ae 0 ?_;refine ae 1 ?_;refine ae 2 ?_;refine aW 3 rfl (bU 6 ag rfl aV (aR.cells (BV b)) rfl rfl) ?_;refine ae 4 ?_;refine ae 5 ?_;refine aW 6 rfl (bP (i:=(rL b).1) (size:=1) underlying27 ag rfl rfl rfl aa) ?_;refine az 7 ?_;refine iW rfl rfl (T' HT (b:=b.drop (rL b).1) (by rw[iG]) hcut.cons.cons.cons.cons kQ h4) ?_;refine ae 8 ?_;refine ae 9 ?_;refine ae 10 ?_;refine ae 11 ?_;refine ae 12 ?_;refine cQ [2,6,7,9] ?_;refine bJ ?_;refine aj (fun Ij=>?_) fun Ij=>?_
    ·refine be ?_;refine ab (cj [ah 0,.bool false,ah 0,ah 0,ah 0,ah 0] ag) rfl ?_;refine bJ ?_;refine ql rfl rfl ag aV gC rfl rfl (.skip (.skip (.skip (.skip (.refl _))))) ?_;rw[Tl jG iY qV h4];exact⟨rfl,rfl⟩
    ·exfalso;exact Ij h4
theorem aaf(HT:bI B w0){b:al}(hb:eM B w0 F A c b)(c_:b.length≤1000000)(h:(iq b).2.2=0):a_ B w0 57 [.slice A b.length c] F (arw (iq b).1 (iq b).2.1 B w0 F):=by
 have hle:=ae8 c_;have qy:=fB (BV b);have Ea:=fB gR;refine fw func57 58 [0] ?_;refine be ?_;refine bc fun g2=>?_;refine bL ?_;refine ai rfl (uk hb.cons aa) ?_;refine jS ?_;refine aj (fun jG=>?_) fun jG=>?_
 ·exfalso;rw[Ti jG]at h;exact jG h
 ·refine bL ?_;refine aj (fun iY=>?_) fun iY=>?_
  ·exfalso;rw[Tj jG iY]at h;exact absurd h aA
  ·refine bz ?_;refine dX rfl (mU hb.cons aa) fun gn An cn=>?_;refine ab (bw [(0,_)] [.pointer none,ah 0,.bool false,ah 0,ah 0,ah 0,ah 0] [0] [_,_,_,_,_,_,_] rfl rfl ag) rfl ?_;refine bh fun g27=>?_;refine aF ?_;refine ve [0,2,7] ?_;refine bG ?_;refine ai rfl (Jg HT hb.cons.cons (aJ.own (.head _)) aa) ?_;refine dQ ?_;refine aj (fun qV=>?_) fun qV=>?_
   ·exfalso;rw[Tk jG iY qV]at h;exact qV h
   ·have h4:(ei (BV b) (b.drop (rL b).1)).2=0:=bH fun k=>by
     rw[Tl jG iY qV k]at h;exact k h
    have hcut:aJ B w0 F 1 (.slice (if c=(rL b).1 then A else A.map (·.add ((rL b).1*1))) (b.length-(rL b).1) (c-(rL b).1)) (b.length-(rL b).1) (bv (b.drop (rL b).1)):=by
     have:=hb.cut hle;rw[jt,cE]at this;rw[cE];exact this
    refine bF ?_;refine cF (Tb g27 gn (BV b)::Cv gn An cn (BU b):: .own 5 1 An b.length cn (bv b):: .bD g2 23 [ah 0,.bool false,ah 0,ah 0,ah 0,ah 0]::F) ?_;refine ae 0 ?_;refine ae 1 ?_;refine ae 2 ?_;refine aW 3 rfl (bU 6 ag rfl aV (aR.cells (BV b)) rfl rfl) ?_;refine ae 4 ?_;refine ae 5 ?_;refine aW 6 rfl (bP (i:=(rL b).1) (size:=1) underlying27 ag rfl rfl rfl aa) ?_;refine az 7 ?_;refine gA rfl .no ajB rfl (Ua HT (b:=b.drop (rL b).1) (by rw[iG]) hcut.cons.cons.cons.cons kQ h4) rfl (by rintro _ _ ⟨gB,N,rfl,rfl,hBB⟩;exact gF) ?_;rintro _ _ ⟨gB,N,rfl,cA,hBB⟩;obtain rfl:=cA.symm;refine ae 8 ?_;refine ae 9 ?_;refine ae 10 ?_;refine ae 11 ?_;refine ae 12 ?_;refine cQ [2,6,7,9] ?_;refine bF ?_;refine fP IE ?_;rw[nC,nC,nC,nC];refine bG ?_;refine aj (fun Ij=>?_) fun Ij=>?_
    ·exfalso;exact Ij rfl
    ·refine bL ?_;refine ab (bU 6 ag rfl aV (aR.cells (BV b)) rfl rfl) rfl ?_;refine bL ?_;refine ql rfl rfl ag aV gC rfl rfl (.skip (.skip (.skip (.skip (.dD IE))))) ?_;rw[Tm jG iY qV (by rw[h4];simp)];exact⟨gB,N,rfl,rfl,hBB⟩
theorem Pv{b:al}(c_:b.length≤1000000)(h:(iq b).2.2=0):sw (iq b).2.1:=by
 by_cases h1:(marked b).2≠0
 ·rw[Ti h1]at h;exact absurd h h1
 ·by_cases h2:(marked b).1≠2
  ·rw[Tj h1 h2]at h;exact absurd h aA
  ·by_cases h3:(rL b).2≠0
   ·rw[Tk h1 h2 h3]at h;exact absurd h h3
   ·by_cases h4:(ei (BV b) (b.drop (rL b).1)).2≠0
    ·rw[Tl h1 h2 h3 h4]at h;exact absurd h h4
    ·rw[Tm h1 h2 h3 h4];exact Hx kQ (bH h4)
theorem afx{b:al}(h:(iq b).2.2≠0):mw b=(gR,[],0,(iq b).2.2):=by unfold mw;rw[ao h]
theorem afy{b:al}(h:¬(iq b).2.2≠0)(h2:(jl (iq b).2.1).2≠0):mw b=(gR,[],0,(jl (iq b).2.1).2):=by unfold mw;rw[aw h,ao h2]
theorem afz{b:al}(h:¬(iq b).2.2≠0)(h2:¬(jl (iq b).2.1).2≠0):mw b=((iq b).1,(jl (iq b).2.1).1,(iq b).2.1.ns.length,0):=by unfold mw;rw[aw h,aw h2]
theorem Px(HT:bI B w0){b:al}(hb:eM B w0 F A c b)(c_:b.length≤1000000)(h:(iq b).2.2≠0):a_ B w0 69 [.slice A b.length c] F (UnA (mw b) F):=by
 have Ea:=fB gR;refine fw func69 34 [0] ?_;refine be ?_;refine bc fun g2=>?_;refine bJ ?_;refine ai rfl (aae HT hb.cons c_ h) ?_;refine b8 ?_;refine bc fun g6=>?_;refine cJ ?_;refine aj (fun iF=>?_) fun iF=>?_
 ·refine be ?_;refine ab (cj [ah 0,.bool false,ah 0,ah 0,ah 0,ah 0] ag) rfl ?_;refine bG ?_;refine ve [2,3,4,5] ?_;refine bF ?_;refine aD 62 4 none ?_;refine nk rfl rfl ag aV gC rfl rfl rfl (.cons (.skip (.skip (.refl _)))) ?_;rw[afx h];exact⟨none,0,rfl,rfl⟩
 ·exfalso;exact iF h
theorem Py(HT:bI B w0){b:al}(hb:eM B w0 F A c b)(c_:b.length≤1000000)(h:(iq b).2.2=0):a_ B w0 69 [.slice A b.length c] F (UnA (mw b) F):=by
 have lf:=Pv c_ h;have qy:=fB (iq b).1;refine fw func69 34 [0] ?_;refine be ?_;refine bc fun g2=>?_;refine bJ ?_;refine aX arF rfl (aaf HT hb.cons c_ h) rfl ?_;rintro _ _ ⟨gB,N,rfl,cA,hBB⟩;obtain rfl:=cA.symm;refine b8 ?_;refine bc fun g6=>?_;refine bL ?_;refine fP (List.perm_middle.cons _) ?_;refine bG ?_;refine aj (fun iF=>?_) fun iF=>?_
 ·exfalso;exact iF rfl
 ·refine bG ?_;refine ay rfl (aa6 HT lf (hBB.mono (((vC _ _).cons _).cons _))) fun Ar cr=>?_;refine bG ?_;refine ve [2,6,7,8,9] ?_;refine bJ ?_;refine aj (fun qU=>?_) fun qU=>?_
  ·refine be ?_;refine ab (cj [ah 0,.bool false,ah 0,ah 0,ah 0,ah 0] ag) rfl ?_;refine bQ ?_;refine aD 62 4 none ?_;refine nk rfl rfl ag aV gC rfl rfl rfl (.cons (.skip (.skip (.skip (dv N F))))) ?_;rw[afy L8 qU];exact⟨none,0,rfl,rfl⟩
  ·refine bF ?_;refine cF (.own 62 4 Ar (jl (iq b).2.1).1.length cr (di (jl (iq b).2.1).1):: .bD g6 23 (aR.cells (iq b).1)::(N++F)) ?_;refine aW 0 rfl (bU 6 ag rfl aV (aR.cells (iq b).1) rfl rfl) ?_;refine ae 1 ?_;refine ae 2 ?_;refine az 3 ?_;refine bZ rfl rfl (Hs lf (hBB.mono (((((vC _ _)).cons _).cons _).cons _))) fun Ak ck=>?_;refine ae 4 ?_;refine az 5 ?_;refine aF ?_;refine ae 6 ?_;refine ae 7 ?_;refine ae 8 ?_;refine bF ?_;refine nk rfl rfl ag aV gC rfl rfl rfl (.skip (.cons (.skip (.skip (dv N F))))) ?_;rw[afz L8 qU];exact⟨Ar,cr,rfl,rfl⟩
end
theorem Nd{x:Nat}(hx:x<65536):a_ B w0 51 [.int .u64 x,ah 2] F (fun r L=>∃A' c',r= .tuple #[.slice A' (fF x 2).length c',ah 0]∧L= .own 5 1 A' (fF x 2).length c' (bv (fF x 2))::F):=by
 have CC:((x:Nat):Int).fdiv (2^min ((16:Int)).toNat IntKind.u64.bits)=0:=by
  have:=Wl x (k:=2) aa;rw[show((8*2:Nat):Int)=16 from rfl]at this;rw[this,show 8*2=16 from rfl];have:x/2^16=0:=BC aa;omega
 refine fw func51 42 [0,1] ?_;refine cJ ?_;refine aL rfl rfl rfl (fun jF=>?_) (fun jF=>?_)
 ·refine bG ?_;refine aL rfl rfl rfl (fun kg=>?_) (fun kg=>?_)
  ·refine bG ?_;refine cP (fun iF=>?_) fun iF=>?_
   ·refine b8 ?_;refine ab (eZ rfl rfl (r:=16) rfl) rfl ?_;refine aF ?_;refine ab (dj rfl rfl aa (r:=0) CC) rfl ?_;refine bG ?_;refine ve [0,1,24] ?_;refine aF ?_;refine aj (fun oc=>?_) fun oc=>?_
    ·exfalso;exact oc rfl
    ·refine bG ?_;refine cC (fb (nn:=2) (cc:=2) cD rfl rfl rfl rfl rfl aa aa aa) fun sY=>?_;refine cJ ?_;refine aE (fun zf zL zm=>∃(k:Nat),(k≤2)∧2-k=zm∧Sub zf [(0,.int .u64 x),(6,.slice sY 2 2),(28,ah 2),(29,ah k)]∧Wk zL (.own 5 1 sY 2 2 (bv (fF x k)++List.replicate (2-k) (.int .u8 0))::F)) _ ⟨0,bT _,rfl,bp,.refl _⟩ ?_;rintro _ _ _ ⟨k,hk,rfl,hs,hp⟩;refine aU hs hp ?_;clear hs hp;refine bz ?_;refine aj (fun Bv=>?_) fun Bv=>?_
     ·refine jy ?_;refine ab (eZ rfl rfl (r:=((8*k:Nat):Int)) ((bE aa aa).trans aa)) rfl ?_;refine ab (dj rfl rfl aa (r:=((x/2^(8*k):Nat):Int)) (Wl x aa)) rfl ?_;refine ab (bm underlying60 underlying5 rfl (r:=((x/2^(8*k)%256:Nat):Int)) (yY _)) rfl ?_;refine bQ ?_;refine av ⟨_,aa,k+1,aa,rfl,bp,ax rfl (by rw[cE];exact UM aa _ rfl) (.refl _)⟩
     ·obtain rfl:k=2:=by omega
      refine de ?_;refine aq (L':=.own 5 1 sY (fF x 2).length 2 (bv (fF x 2))::F) (ax ak ak (.refl _)) ?_;refine aF ?_;exact⟨sY,2,ak,rfl⟩
   ·exfalso;omega
  ·exfalso;omega
 ·exfalso;omega
theorem D0(s:Cs):(s.take 2).length≤2:=by
 unfold Cs.take;split
 ·simp
 ·split
  ·simp
  ·rw[eS];omega
theorem HC(ho:cu s)(hb:aJ B w0 F 1 (.slice A s.b.length c) s.b.length (bv s.b)):
  a_ B w0 197 [br g,ah 2] (Cv g A c s::F) (fun r L=>r= .int .u64 (s.fixed 2)∧L=Cv g A c (s.kX 2)::F):=by
 have e1:s.fixed 2=iM (s.take 2):=by unfold Cs.fixed;rw[aw aa]
 have e2:s.kX 2=s.b_ 2:=by unfold Cs.kX;rw[aw aa]
 have hl:=D0 s;obtain⟨t,ht⟩:=cN (s.take 2);rw[e1,e2];rw[←ht]at hl⊢;refine fw func197 34 [0,1] ?_;refine cY ?_;refine aL rfl rfl rfl (fun jF=>?_) (fun jF=>?_)
 ·refine bz ?_;refine dm fun lA=>?_;refine cJ ?_;refine ay rfl (mb ho hb (m:=2) aa aa) fun sX uO=>?_;rw[←ht];refine bG ?_;refine aE (fun zf zL zm=>∃(k:Nat),(k≤t.length)∧t.length-k=zm∧Sub zf [(5,.int .u64 (iM (t.take k))),(18,.slice sX t.length uO),(19,ah t.length),(20,ah k)]∧Wk zL (Cv g A c (s.b_ 2):: .own 5 1 sX t.length uO (bv t)::F)) _ ⟨0,bT _,rfl,bp,.refl _⟩ ?_;rintro _ _ _ ⟨k,hk,rfl,hs,hp⟩;refine aU hs hp ?_;clear hs hp;refine bz ?_;refine aj (fun lW=>?_) fun lW=>?_
  ·obtain⟨y,hy⟩:=cN ((t.getD k 0).toNat);have hy8:y<256:=by rw[hy];exact lQ _
   have fE:=rl (t.take k);rw[eS,za hk]at fE;have sI:iM (t.take (k+1))=iM (t.take k)+256^k*y:=by rw[ba aa 0,BL,eS,za hk,←hy]
   refine bJ ?_;refine ab (au (v:=.int .u8 (y:Int)) ag rfl aB aa (by rw[hy];exact JE aa)) rfl ?_;refine bL ?_;refine ab (bm underlying5 underlying60 rfl (r:=(y:Int)) (f_ aa aa)) rfl ?_;refine aF ?_;refine ab (eZ rfl rfl (r:=((8*k:Nat):Int)) ((bE aa aa).trans aa)) rfl ?_;refine ab (ga rfl rfl aa (r:=((y*256^k:Nat):Int)) (akp aa hy8)) rfl ?_;refine ab (tK rfl rfl (r:=((iM (t.take (k+1)):Nat):Int)) ((aqJ aa hy8 fE).trans vL)) rfl ?_;refine bJ ?_;refine av ⟨_,aa,k+1,aa,rfl,bp,.refl _⟩
  ·obtain rfl:k=t.length:=by omega
   rw[jU];refine cJ ?_;refine aq (.cons (.skip (.refl _))) ?_;refine aF ?_;exact⟨rfl,rfl⟩
 ·exfalso;omega
theorem ak2{P:Prop}(h:P:=by(rw[sf (by omega)];omega)):P:=h
theorem an8{P:Prop}(h:P:=by(exact dN (by first|exact⟨fun k=>⟨pR,nM,k⟩,fun k=>k.2.2⟩|exact fun k=>nM k.2.1|exact fun k=>pR k.1))):P:=h
theorem agm{P:Prop}(h:P:=by(exact eU (by first|exact⟨fun k=>⟨pR,nM,k⟩,fun k=>k.2.2⟩|exact fun k=>nM k.2.1|exact fun k=>pR k.1))):P:=h
abbrev Hb(g:Nat)(o:aR)(n p:Nat):Ch:=.bD g 119 [ah o.1,.bool o.2.1,ah o.2.2.1,ah o.2.2.2.1,ah o.2.2.2.2.1,ah o.2.2.2.2.2,ah (n:Int),.int .u8 (p:Int)]
theorem Ja(HT:bI B w0){o:aR}{n p:Nat}(ho:cB 3 o=0)(hn:n<4294967296):
  a_ B w0 123 [br g] (Hb g o n p::F) (Gg (jm o n) (Hb g o n p::F)):=by
 obtain⟨⟨m1,m2⟩,m3,m4,_,_⟩:=(lT ho).1;obtain⟨⟨k1,k2⟩,⟨k3,k4⟩,⟨k5,k6⟩⟩:=m3 rfl;obtain⟨m5,m6⟩:=m4 (.inl rfl);clear ho m3 m4;obtain⟨bl,pl,bu,da,pa,ch⟩:=o;simp only at m1 m2 m5 m6 k1 k2 k3 k4 k5 k6;obtain⟨S,rfl⟩:=gM (show 0≤bl by omega);obtain⟨u,rfl⟩:=gM (show 0≤bu by omega);obtain⟨d,rfl⟩:=gM (show 0≤da by omega);obtain⟨q,rfl⟩:=gM (show 0≤pa by omega);obtain⟨hc,rfl⟩:=gM (show 0≤ch by omega);have hH:we ((S:Int),pl,(u:Int),(d:Int),(q:Int),(hc:Int)) n=(dY++[3])++([fI pl,UInt8.ofNat u,UInt8.ofNat d,UInt8.ofNat q]++(fF hc 2++(fF S 2++fF n 4))):=rfl;have hHl:(we ((S:Int),pl,(u:Int),(d:Int),(q:Int),(hc:Int)) n).length≤30:=by
  rw[hH];simp[dY]
 have hTH:jm ((S:Int),pl,(u:Int),(d:Int),(q:Int),(hc:Int)) n=cX (we ((S:Int),pl,(u:Int),(d:Int),(q:Int),(hc:Int)) n):=rfl;rw[hTH];obtain⟨H0,hH0⟩:=cN (we ((S:Int),pl,(u:Int),(d:Int),(q:Int),(hc:Int)) n);rw[←hH0]at hH hHl⊢;refine fw func123 77 [0] ?_;refine bL ?_;refine ay rfl (R5 3) fun xc F7=>?_;refine bJ ?_;rw[show(qf 3).1=dY++[3] from rfl];refine b8 ?_;refine d_ (fun zf zL=>Sub zf [(0,br g),(3,.slice xc (dY++[3]:al).length F7),(5,.int .u8 ((fI pl).toNat:Int))]∧Wk zL (.own 5 1 xc (dY++[3]:al).length F7 (bv (dY++[3]))::Hb g ((S:Int),pl,(u:Int),(d:Int),(q:Int),(hc:Int)) n p::F)) ?_ ?_
 ·refine bQ ?_;refine gD (fun iY=>?_) fun iY=>?_
  ·subst iY;refine bF ?_;exact bC ⟨bp,.refl _⟩
  ·subst iY;refine aF ?_;exact bC ⟨bp,.refl _⟩
 ·rintro _ _ ⟨hs,hp⟩;refine aU hs hp ?_;clear hs hp;refine bL ?_;refine ab (bm underlying3 underlying60 rfl (r:=((hc:Nat):Int)) (f_ aa aa)) rfl ?_;refine ay rfl (Nd (x:=hc) aa) fun Bj Br=>?_;refine dQ ?_;refine ab (bm underlying3 underlying60 rfl (r:=((S:Nat):Int)) (f_ aa aa)) rfl ?_;refine ay rfl (Nd (x:=S) aa) fun LN PR=>?_;refine bG ?_;refine ve [0,3,5,6,8] ?_;refine bL ?_;refine ab (bm underlying3 underlying60 rfl (r:=((n:Nat):Int)) (f_ aa aa)) rfl ?_;refine ay rfl (Nf (x:=n) aa) fun A47 c47=>?_;refine bJ ?_;refine cF (.own 5 1 A47 (fF n 4).length c47 (bv (fF n 4)):: .own 5 1 LN (fF S 2).length PR (bv (fF S 2)):: .own 5 1 Bj (fF hc 2).length Br (bv (fF hc 2)):: .own 5 1 xc (dY++[3]:al).length F7 (bv (dY++[3]))::Hb g ((S:Int),pl,(u:Int),(d:Int),(q:Int),(hc:Int)) n p::F) ?_;refine ae 0 ?_;refine ae 1 ?_;refine ae 2 ?_;refine ae 3 ?_;refine ae 4 ?_;refine ae 5 ?_;refine ae 6 ?_;refine aW 7 rfl (bm underlying3 underlying5 rfl (r:=((UInt8.ofNat u).toNat:Int)) ((yY _).trans ak2)) ?_;refine ae 8 ?_;refine ae 9 ?_;refine ae 10 ?_;refine ae 11 ?_;refine ae 12 ?_;refine aW 13 rfl (bm underlying3 underlying5 rfl (r:=((UInt8.ofNat d).toNat:Int)) ((yY _).trans ak2)) ?_;refine ae 14 ?_;refine ae 15 ?_;refine ae 16 ?_;refine ae 17 ?_;refine ae 18 ?_;refine aW 19 rfl (bm underlying3 underlying5 rfl (r:=((UInt8.ofNat q).toNat:Int)) ((yY _).trans ak2)) ?_;refine ae 21 ?_;refine ae 22 ?_;refine ae 23 ?_;refine az 20 ?_;refine cR rfl (aG cD [_,_,_,_] rfl rfl cw aa aa) fun A70=>?_;refine az 24 ?_;refine cR rfl (aG fD [_,_,_,_,_] rfl rfl cw aa aa) fun A74=>?_;refine az 25 ?_;refine bZ rfl rfl (Jr (l1:=dY++[3]) (l2:=[fI pl,UInt8.ofNat u,UInt8.ofNat d,UInt8.ofNat q]) (l3:=fF hc 2) (l4:=fF S 2) (l5:=fF n 4) aB aB aB aB aB aB hH aa) fun A75 c75=>?_;refine az 26 ?_;refine bZ rfl rfl (qu HT (l:=H0) aB aa) fun A76 c76=>?_;refine ae 27 ?_;refine cQ [2] ?_;refine be ?_;refine aq ((ed (wu7 (.skip (.skip (.skip (.skip (.skip (.skip (.skip (.refl _))))))))))) ?_;refine aF ?_;exact⟨A76,c76,rfl,rfl⟩
theorem abv{b:al}(h:b.length<42):a_ B w0 131 [.slice A b.length c] F (fun r L=>r= .tuple #[.slice none 0 0,.slice none 0 0,.bool false]∧L=F):=by
 refine fw func131 15 [0] ?_;refine jy ?_;refine zG fun h7=>?_;refine bA ?_;exact⟨rfl,rfl⟩
theorem MG{b:al}(c_:b.length≤1000000000)(hc:b.length≤c)(h:¬b.length<42):a_ B w0 131 [.slice A b.length c] F (fun r L=>r= .tuple #[.slice A 21 c,.slice (if c=b.length-21 then A else A.map (·.add ((b.length-21)*1))) (b.length-(b.length-21)) (c-(b.length-21)),.bool true]∧L=F):=by
 refine fw func131 15 [0] ?_;refine jy ?_;refine dm fun h7=>?_;refine bG ?_;refine b7 (bN (i:=21) (size:=1) underlying27 ag rfl rfl rfl aa) rfl ?_;refine bF ?_;refine b7 (dw rfl rfl (r:=((b.length-21:Nat):Int)) ((bE aa aa).trans aa)) rfl ?_;refine b7 (bP (i:=b.length-21) (size:=1) underlying27 ag rfl rfl rfl aa) rfl ?_;refine bL ?_;exact⟨rfl,rfl⟩
theorem MH(HT:bI B w0){l:al}(e:n=l.length)(hb:aJ B w0 F 1 (.slice A n c) n (bv l))(hl:l.length≤1000000000):a_ B w0 196 [.slice A n c] F (fun r L=>r= .bool (decide (zn l))∧L=F):=by
 subst e;refine ct func196 27 rfl rfl rfl [(0,.slice A l.length c)] ⟨⟨rfl,rfl⟩,trivial⟩ ?_;refine bJ ?_;refine ay rfl (wz HT hb aa) fun A9 c9=>?_;refine bA ?_;refine ai rfl (uk hb.cons aa) ?_;refine bQ ?_;refine bW 10 26 [] (zn l) ?_ ?_
 ·refine bF ?_;refine cP (fun pR=>?_) fun pR=>?_
  ·refine bG ?_;refine cP (fun nM=>?_) fun nM=>?_
   ·refine b8 ?_;exact aQ an8
   ·refine be ?_;exact aQ agm
  ·refine bz ?_;exact aQ agm
 ·refine b8 ?_;refine aq (.skip (.refl _)) ?_;refine aF ?_;exact⟨rfl,rfl⟩
def Qe(R:al×Int)(B:Nat)(w0:World)(F:aP)(r:Value)(L:aP):Prop:=∃A' c',r= .tuple #[.slice A' R.1.length c',ah R.2]∧L=F∧aJ B w0 F 1 (.slice A' R.1.length c') R.1.length (bv R.1)
theorem Qe.nil{e:Int}{R:al×Int}(h:R=([],e)):Qe R B w0 F (.tuple #[.slice none 0 0,ah e]) F:=by
 subst h;exact⟨none,0,rfl,rfl,aJ.AA⟩
theorem abf{b:al}(h:b.length<42):ej b=([],1):=by unfold ej;rw[ao h]
theorem abg{b:al}(h:¬b.length<42)(h2:zn (b.take 21)):ej b=(b.take 21,0):=by unfold ej;rw[aw h,ao h2]
theorem abh{b:al}(h:¬b.length<42)(h2:¬zn (b.take 21))(h3:zn (b.drop (b.length-21))):ej b=(b.drop (b.length-21),0):=by unfold ej;rw[aw h,aw h2,ao h3]
theorem abi{b:al}(h:¬b.length<42)(h2:¬zn (b.take 21))(h3:¬zn (b.drop (b.length-21))):ej b=([],5):=by unfold ej;rw[aw h,aw h2,aw h3]
theorem abj{b:al}(h:b.length<42):a_ B w0 128 [.slice A b.length c] F (Qe (ej b) B w0 F):=by
 refine fw func128 24 [0] ?_;refine bQ ?_;refine ai rfl (abv h) ?_;refine dQ ?_;refine ab (iQ rfl) rfl ?_;refine bF ?_;refine gD (fun lA=>?_) fun lA=>?_
 ·refine bA ?_;exact Qe.nil (abf h)
 ·exfalso;exact absurd lA aA
theorem Ur{b:al}(h:¬b.length<42)(hb:eM B w0 F A c b):aJ B w0 F 1 (.slice A 21 c) 21 (bv (b.take 21)):=by
 have:=hb.iZ (k:=21) aa;rw[jX,cE]at this;exact this
theorem Us{b:al}(h:¬b.length<42)(hb:eM B w0 F A c b):aJ B w0 F 1 (.slice (if c=b.length-21 then A else A.map (·.add ((b.length-21)*1))) (b.length-(b.length-21)) (c-(b.length-21))) (b.length-(b.length-21)) (bv (b.drop (b.length-21))):=by
 have:=hb.cut (k:=b.length-21) aa;rw[jt,cE]at this;rw[cE];exact this
theorem abk(HT:bI B w0){b:al}(hb:eM B w0 F A c b)(c_:b.length≤1000000000)(h:¬b.length<42):a_ B w0 128 [.slice A b.length c] F (Qe (ej b) B w0 F):=by
 refine dL.xf hb fun mh _=>?_;have ha:=Ur h hb;have hz:=Us h hb;have l1:(b.take 21).length=21:=by rw[eS];omega
 have l2:(b.drop (b.length-21)).length=b.length-(b.length-21):=by rw[iG]
 refine fw func128 24 [0] ?_;refine bQ ?_;refine ai rfl (MG c_ mh h) ?_;refine dQ ?_;refine ab (iQ rfl) rfl ?_;refine bF ?_;refine gD (fun lA=>?_) fun lA=>?_
 ·exfalso;exact absurd lA aA
 ·refine bF ?_;refine ai rfl (MH HT (l:=b.take 21) l1.symm ha aa) ?_;refine bF ?_;refine aj (fun kh=>?_) fun kh=>?_
  ·refine bG ?_;refine ve [2,3] ?_;refine bG ?_;rw[abg h kh];exact⟨A,c,by rw[l1],rfl,by rw[l1];exact ha⟩
  ·refine bF ?_;refine ai rfl (MH HT (l:=b.drop (b.length-21)) l2.symm hz aa) ?_;refine aF ?_;refine ve [5,20] ?_;refine aF ?_;refine aj (fun iY=>?_) fun iY=>?_
   ·refine cY ?_;rw[abh h kh iY];exact⟨_,_,by rw[l2],rfl,by rw[l2];exact hz⟩
   ·refine cY ?_;exact Qe.nil (abi h kh iY)
theorem xC(HT:bI B w0){b:al}(hb:eM B w0 F A c b)(c_:b.length≤1000000000):a_ B w0 128 [.slice A b.length c] F (Qe (ej b) B w0 F):=by
 by_cases h:b.length<42
 ·exact abj h
 ·exact abk HT hb c_ h
theorem al8{l:al}(h:l.length≤1000000000):cu (CC l)∧cu (kY l)∧cu (jH l)∧cu (wN l)∧cu (LB l)∧cu (hs5 l)∧cu (hs6 l):=by
 have h0:cu (CC l):=oY kQ;have f2:∀{s:Cs},cu s→cu (s.kX 2):=fun {s} k=>by unfold Cs.kX;rw[aw aa];exact k.b_
 exact⟨h0,h0.b_,h0.b_.b_,h0.b_.b_.b_,h0.b_.b_.b_.b_,f2 h0.b_.b_.b_.b_,f2 (f2 h0.b_.b_.b_.b_)⟩
theorem asM(l:al):(CC l).b=l.drop 5∧(kY l).b=l.drop 5∧(jH l).b=l.drop 5∧(wN l).b=l.drop 5∧(LB l).b=l.drop 5∧(hs5 l).b=l.drop 5∧(hs6 l).b=l.drop 5:=by
 have f2:∀(s:Cs),(s.kX 2).b=s.b:=fun s=>by unfold Cs.kX;rw[aw aa];exact Cs.cK _ _ _
 have k1:(kY l).b=l.drop 5:=Cs.cK _ _ _;have k2:(jH l).b=l.drop 5:=(Cs.cK _ _ _).trans k1;have k3:(wN l).b=l.drop 5:=(Cs.cK _ _ _).trans k2;have k4:(LB l).b=l.drop 5:=(Cs.cK _ _ _).trans k3;have k5:(hs5 l).b=l.drop 5:=(f2 _).trans k4;exact⟨rfl,k1,k2,k3,k4,k5,(f2 _).trans k5⟩
theorem alc{l:al}(e:n=l.length)(hb:aJ B w0 F 1 (.slice A n c) n (bv l))(hl:l.length≤1099511627776):
  a_ B w0 109 [.slice A n c] F (fun r L=>∃g A' c',r=br g∧L=Cv g A' c' ⟨l,0,0⟩:: .own 5 1 A' l.length c' (bv l)::F):=by
 subst e;exact mU hb hl
theorem UK(s:Cs):s.fixed 2<65536:=by
 unfold Cs.fixed;rw[aw aa];have h:=rl (s.take 2);have h2:=D0 s;exact vU h (kZ aa h2)
theorem UL(s:Cs):s.fixed 4<4294967296:=by
 unfold Cs.fixed;rw[aw aa];have h:=rl (s.take 4);have h2:=wE s;exact vU h (kZ aa h2)
theorem apW(l:al):hN l<4294967296:=UL _
theorem Pj{l:al}(e:n=l.length)(h5:5≤l.length)(hb:aJ B w0 F 1 (.slice A n c) n (bv l))(hl:l.length≤1000000000):
  a_ B w0 129 [.slice A n c] F (fun r L=>(hE l≠0∧∃Y v,r= .tuple #[v,ah (hE l)]∧L=Y++F)∨(hE l=0∧∃g,r= .tuple #[br g,ah 0]∧L=Hb g (hO l) (hN l) (D6 l).toNat::F)):=by
 subst e;have PZ:(l.drop 5).length=l.length-5:=iG;have hcut:aJ B w0 F 1 (.slice (if c=5 then A else A.map (·.add (5*1))) (l.length-5) (c-5)) (l.length-5) (bv (l.drop 5)):=by
  have:=hb.cut (k:=5) h5;rw[jt,cE]at this;rw[cE];exact this
 obtain⟨o0,o1,o2,o3,o4,o5,o6⟩:=al8 hl;obtain⟨q0,q1,q2,q3,q4,q5,q6⟩:=asM l;have e1:kY l=(CC l).eJ:=rfl;have e2:jH l=(kY l).eJ:=rfl;have e3:wN l=(jH l).eJ:=rfl;have e4:LB l=(wN l).eJ:=rfl;have e5:hs5 l=(LB l).kX 2:=rfl;have e6:hs6 l=(hs5 l).kX 2:=rfl;obtain⟨y0,hy0⟩:=cN ((CC l).byte.toNat);obtain⟨y1,NF⟩:=cN ((kY l).byte.toNat);obtain⟨y2,RF⟩:=cN ((jH l).byte.toNat);obtain⟨y3,hy3⟩:=cN ((wN l).byte.toNat);obtain⟨y4,hy4⟩:=cN ((LB l).fixed 2);obtain⟨y5,hy5⟩:=cN ((hs5 l).fixed 2);obtain⟨y6,hy6⟩:=cN ((hs6 l).fixed 4);have b0:y0<256:=by rw[hy0];exact lQ _
 have b1:y1<256:=by rw[NF];exact lQ _
 have b2:y2<256:=by rw[RF];exact lQ _
 have b3:y3<256:=by rw[hy3];exact lQ _
 have b4:y4<65536:=by rw[hy4];exact UK _
 have b5:y5<65536:=by rw[hy5];exact UK _
 have b6:y6<4294967296:=by rw[hy6];exact UL _
 have hPP:(D6 l).toNat=y0:=hy0.symm;have hNN:hN l=y6:=hy6.symm;have hOO:hO l=((y5:Int),decide ((y0:Int)=1),(y1:Int),(y2:Int),(y3:Int),(y4:Int)):=by
  unfold hO;rw[hPP,←NF,←RF,←hy3,←hy4,←hy5];congr 2;exact z7.2 ⟨fun h=>by omega,fun h=>aa⟩
 have hEE:hE l=if 1<y0 then 2 else cB 3 (hO l):=by unfold hE;rw[hPP]
 rw[hOO,hNN,hPP];rw[hOO]at hEE;refine dL.xf hb fun mh _=>?_;refine ct func129 74 rfl rfl rfl [(0,.slice A l.length c)] ⟨⟨rfl,rfl⟩,trivial⟩ ?_;refine bQ ?_;refine ab (bP (i:=5) (size:=1) underlying27 ag rfl rfl rfl aa) rfl ?_;refine dX rfl (alc PZ.symm hcut aa) fun gn An cn=>?_;refine b8 ?_;rw[show(⟨l.drop 5,0,0⟩:Cs)=CC l from rfl];refine be ?_;refine ai rfl (oo (s:=CC l) o0 (aJ.own (.head _))) ?_;rw[←e1,←hy0];refine ab (bw [(2,_)] [ah 0,.bool false,ah 0,ah 0,ah 0,ah 0,ah 0,.int .u8 0] [7] [_,_,_,_,_,_,_,_] rfl rfl ag) rfl ?_;refine bh fun Ih=>?_;refine b8 ?_;refine fP (.swap _ _ _) ?_;refine cY ?_;refine ve [4,5] ?_;refine bL ?_;refine ai rfl (oo (s:=kY l) o1 (by rw[q1];exact(aJ.own (.head _)).cons)) ?_;rw[←e2,←NF];refine be ?_;refine ai rfl (oo (s:=jH l) o2 (by rw[q2];exact(aJ.own (.head _)).cons)) ?_;rw[←e3,←RF];refine be ?_;refine ai rfl (oo (s:=wN l) o3 (by rw[q3];exact(aJ.own (.head _)).cons)) ?_;rw[←e4,←hy3];refine de ?_;refine ve [4,5] ?_;refine bz ?_;refine ai rfl (HC (s:=LB l) o4 (by rw[q4];exact(aJ.own (.head _)).cons)) ?_;rw[←e5,←hy4];refine be ?_;refine ai rfl (HC (s:=hs5 l) o5 (by rw[q5];exact(aJ.own (.head _)).cons)) ?_;rw[←e6,←hy5];refine jy ?_;refine ai rfl (HD (s:=hs6 l) o6 (by rw[q6];exact(aJ.own (.head _)).cons)) ?_;rw[←hy6];refine b8 ?_;refine ve [5] ?_;refine cY ?_;refine aj (fun U4=>?_) fun U4=>?_
 ·refine bQ ?_;rw[ao aa]at hEE;rw[hEE];exact .inl ⟨aA,[_,_,_],_,rfl,rfl⟩
 ·refine bJ ?_;refine ab (bU 6 ag rfl aV (aR.cells ((y5:Int),decide ((y0:Int)=1),(y1:Int),(y2:Int),(y3:Int),(y4:Int))) rfl rfl) rfl ?_;refine ai rfl (kD 3 ((y5:Int),decide ((y0:Int)=1),(y1:Int),(y2:Int),(y3:Int),(y4:Int))) ?_;refine bG ?_;refine aq ((gl (.skip (.skip (.refl _))))) ?_;refine aF ?_;rw[aw aa]at hEE;rw[hEE];exact(Classical.em _).elim (fun k=>.inr ⟨k,_,(by rw[k]),rfl⟩) fun k=>.inl ⟨k,[_],_,rfl,rfl⟩
section
theorem xD{B g2 g3:Nat}{A:bj}{n c sz:Nat}(i_:1≤sz)(jH:sz≤10000)(hn:n≤1000000000000000)(hnc:n≤c)(hg:g2≠g3)(w:World)(h2:(Ch.bD g2 27 [.slice A n c]).holds B w)(h3:(Ch.bD g3 3 [ah sz]).holds B w):
  SeqStopsK Fence.wide 7 Tryz.prog 188 [br g2,br g3].toArray (fun x:Fin (gU sz n)=> #[Gt A sz n x.val])
   (akO B [.bD g2 27 [.slice A n c],.bD g3 3 [ah sz]]) (fun xs=>xs.map (·.val)=List.range (gU sz n)) (fun _=>True) (gU sz n) w:=by
 intro l J Jx W hW hJ hJx hY h0;have nN:∀w:World,(∀q∈[Ch.bD g2 27 [.slice A n c],.bD g3 3 [ah sz]],q.holds B w)→SL 0 w [Ch.bD g2 27 [.slice A n c],.bD g3 3 [ah sz]] w:=fun w h=>by
  refine⟨GW _ _,bT _,fun c hc=>?_,kC.2 ⟨fun d hd=>?_,kC.2 ⟨fun _ h=>ki,List.Pairwise.nil⟩⟩⟩
  ·have:=h c hc;simp only[fk,mo,oe]at hc;rcases hc with rfl|rfl<;>exact⟨bT _,this.2⟩
  ·rw[lF.1 hd];exact .inr fun e=>hg (NZ e)
 have alZ:=(h2.lt rfl).2;have al0:=(h3.lt rfl).2;have hW0:∀q∈[Ch.bD g2 27 [.slice A n c],.bD g3 3 [ah sz]],q.holds B W:=by
  intro c hc;simp only[fk,mo,oe]at hc;rcases hc with rfl|rfl
  ·exact h2.keep fun g hg=>by cases hg;exact hW.block _ alZ
  ·exact h3.keep fun g hg=>by cases hg;exact hW.block _ al0
 have Yn:∀pre (w:World) k,J pre w→J pre (w.drewN k):=fun pre w k h=>hJ pre w _ none h (qv w k) (fun r e=>by cases e);generalize hLk:[Ch.bD g2 27 [.slice A n c],.bD g3 3 [ah sz]]=Lk at*;refine callsIn_of_wp func188 rfl trivial (vX (Q:=WT 31 (TE (fun w=>∃xs:List (Fin (gU sz n)),xs.map (·.val)=List.range (gU sz n)∧J xs w) (fun w=>∃pre,True∧Jx pre w))) ?_ ?_) rfl
 ·have ha:=TP (N:=31) (args:=[.func (.yield l) #[] #[],br g2,br g3]) (fr0:=[(0,.func (.yield l) #[] #[]),(1,br g2),(2,br g3)]) ak ⟨⟨rfl,rfl⟩,⟨rfl,rfl⟩,⟨rfl,rfl⟩,trivial⟩;refine(?_ :VT Tryz.prog 31 _ _ _ W) _ ha;refine n_ (lU ?_);refine cI (nN W hW0) (lE rfl) rfl rfl ?_;refine nm [(0,_),(1,_),(2,_),(4,_)] ⟨rfl,rfl,rfl,rfl,trivial⟩ ?_;refine j9 (yV ?_);refine W0 (fun i w=>i≤gU sz n∧(∀c∈Lk,c.holds B w)∧∃pre:List (Fin (gU sz n)),pre.map (·.val)=List.range i∧J pre w) (fun i=>[(0,.func (.yield l) #[] #[]),(1,br g2),(2,br g3),(4,ah ((i*sz:Nat):Int))]) 4 (n+sz) (fun i=>i*sz) (fun i=>rfl) 0 ⟨bT _,hW0,[],rfl,h0⟩ ⟨rfl,rfl,rfl,by rw[r'];rfl,trivial⟩ ?_;rintro i w ⟨hi,hh,pre,Ec,hJp⟩;have hs:=nN w hh;rw[←hLk]at hs;refine n_ (n_ (lU ?_));refine cI hs (dV rfl) rfl rfl ?_;refine cI hs (bM ag rfl Gq rfl) rfl rfl ?_;refine cI hs (pb underlying27 rfl) rfl rfl ?_;refine cI hs (xI rfl rfl) rfl rfl ?_;refine nm [(0,_),(1,_),(2,_),(4,_),(9,_)] ⟨rfl,rfl,rfl,rfl,rfl,trivial⟩ ?_;refine j9 (Ji rfl (fun fE=>?_) (fun fE=>?_))
  ·refine CS ?_;have Ys:i*sz<n:=by omega
   have hiN:=(nP i_).2 Ys;have hlen:pre.length<gU sz n:=by
    have:=ek List.length Ec;simp at this;omega
   have hE1:1≤xi sz n i:=by unfold xi;omega
   have hE2:xi sz n i≤sz:=by unfold xi;omega
   have hE3:i*sz+xi sz n i≤n:=by unfold xi;omega
   have hss:(i+1)*sz=i*sz+sz:=j0 i sz;refine j9 (n_ (yV (n_ (FZ ag ag ?_))));refine j_ hs (bM ag rfl Gq rfl) rfl ?_;refine j_ hs (bM ag rfl Gq rfl) rfl ?_;refine j_ hs (dV rfl) rfl ?_;refine j_ hs (bP (i:=i*sz) (size:=1) underlying27 ag rfl rfl rfl aa) rfl ?_;refine j_ hs (pb underlying27 rfl) rfl ?_;refine j_ hs (xJ rfl rfl) rfl ?_;refine j_ hs (lE rfl) rfl ?_;rw[show min (sz:Int) ((n-i*sz:Nat):Int)=((xi sz n i:Nat):Int) by unfold xi;omega];refine W1 [(0,_),(1,_),(2,_),(4,_),(5,_)] ⟨rfl,rfl,rfl,rfl,rfl,trivial⟩ ?_;intro kd;have hJd:=Yn pre w kd hJp;have wJ:∀c∈Lk,c.holds B (w.drewN kd):=fun c hc=>(hh c hc).keep fun g hg=>rfl;clear hh hJp hs;generalize w.drewN kd=w at*;have hs:=nN w wJ;rw[←hLk]at hs;refine j9 (n_ (lU ?_));refine cI hs (dV rfl) rfl rfl ?_;refine cI hs (bM ag rfl Gq rfl) rfl rfl ?_;refine cI hs (dV rfl) rfl rfl ?_;refine cI hs (dV rfl) rfl rfl ?_;refine cI hs (dV rfl) rfl rfl ?_;refine cI hs (bY rfl rfl (bE aa aa)) rfl rfl ?_;refine cI hs (dV rfl) rfl rfl ?_;refine cI hs (dV rfl) rfl rfl ?_;refine cI hs (bY rfl rfl (bE aa aa)) rfl rfl ?_;refine cI hs (vM (i:=i*sz) (j:=i*sz+xi sz n i) (size:=1) underlying27 ag rfl rfl rfl rfl aa rfl aa aa aa) rfl rfl ?_;rw[cE,yb];refine Jj (u:=Gt A sz n i) rfl rfl (hY pre ⟨i,hiN⟩ w hJd hlen) rfl ?_ ?_
   ·rintro w' ⟨hJ',hK⟩;have hh':∀c∈Lk,c.holds B w':=fun c hc=>hK c hc (wJ c hc);have hs:=nN w' hh';rw[←hLk]at hs;refine cI hs (zt rfl) rfl rfl ?_;refine nm [(0,_),(1,_),(2,_),(4,_),(30,_)] ⟨rfl,rfl,rfl,rfl,rfl,trivial⟩ ?_;refine j9 (FX rfl (CS ?_));refine j9 (lU ?_);refine cI hs (dV rfl) rfl rfl ?_;refine cI hs (bM ag rfl Gq rfl) rfl rfl ?_;refine cI hs (bY rfl rfl (r:=(((i+1)*sz:Nat):Int)) ((bE aa aa).trans aa)) rfl rfl ?_;refine cI hs (lE rfl) rfl rfl ?_;refine nm [(0,_),(1,_),(2,_),(4,_)] ⟨rfl,rfl,rfl,rfl,trivial⟩ ?_;exact⟨i+1,⟨hiN,hh',pre++[⟨i,hiN⟩],by rw[jb,Ec,lj];rfl,hJ'⟩,aa,rfl,rfl,rfl,rfl,trivial⟩
   ·intro w' hJ';have CC:SL w'.heap.size w' [] w':=SL.AA w';refine cI CC (zr rfl) rfl rfl ?_;refine nm [(30,_)] ⟨rfl,trivial⟩ ?_;refine j9 (FY rfl (afU ?_));exact .inr ⟨_,trivial,hJ'⟩
  ·refine WZ ?_;refine WU ?_;show TB 0 _ (Exit.exit 0) _ _;refine WG ?_;have wH:¬i<gU sz n:=fun h=>fE (by have:=(nP i_).1 h;omega);obtain rfl:i=gU sz n:=by omega
   exact .inl ⟨pre,Ec,hJp⟩
 ·rintro e a w ⟨fr,ha,hq⟩;cases e<;>first
   |exact hq.elim
   |exact⟨ha.defers,_,results_none rfl _ _ _,⟨_,rfl⟩,hq⟩
variable{B:Nat}{w0:World}{F:aP}{A:bj}{n c:Nat}
theorem MA{sz:Nat}(i_:1≤sz):a_ B w0 121 [.slice A n c,ah sz] F (fun v L=>∃g2 g3,v= .func (.func 188) #[] #[br g2,br g3]∧L= .bD g3 3 [ah sz]:: .bD g2 27 [.slice A n c]::F):=by
 refine fw func121 9 [0,1] ?_;refine be ?_;refine bh fun g2=>?_;refine bh fun g3=>?_;refine bA ?_;refine dm fun h6=>?_;refine bA ?_;exact⟨_,_,rfl,rfl⟩
end
def uU(k:Nat)(good:List Bool)(i:Nat):bf:=((List.range i).filter fun j=>good.getD j false).take k
theorem ag'{good:List Bool}{i:Nat}(h:good.getD i false=true)(hl:(uU k good i).length<k):uU k good (i+1)=uU k good i++[i]:=by
 unfold uU at hl⊢;rw[eS]at hl;have e:((List.range i).filter fun j=>good.getD j false).length<k:=by omega
 rw[lj,Eo,N7,fL aa];congr 1;rw[tZ,ao nr,List.filter_nil];exact fL (by rw[p_];omega)
theorem ab1{good:List Bool}{i:Nat}(hl:¬(uU k good i).length<k):uU k good (i+1)=uU k good i:=by
 unfold uU at hl⊢;rw[eS]at hl;rw[lj,Eo,N7];have:k-((List.range i).filter fun j=>good.getD j false).length=0:=by omega
 rw[this,z_,gk]
theorem alw{good:List Bool}{i:Nat}(h:good.getD i false=false):uU k good (i+1)=uU k good i:=by
 unfold uU;rw[lj,Eo,tZ,aw L8,List.filter_nil,gk]
theorem I5{PB:List kO}{good:List Bool}(hl:good.length=PB.length)(hn:PB.length≤1000000)(hb:aJ B w0 F 1 (.slice A PB.length c) PB.length (PB.map dq))(hg:aJ B w0 F 1 (.slice A2 good.length c2) good.length (sE good)):
  a_ B w0 276 [ah (k:Int),.slice A PB.length c,.slice A2 good.length c2] F (fun v L=>∃Aa ca Al cl,v= .tuple #[.slice Aa (dF k good).length ca,.slice Al (dF k good).length cl]∧
   L= .own 27 1 Al (dF k good).length cl (((dF k good).map (PB.getD · iP)).map dq):: .own 3 1 Aa (dF k good).length ca (bx (dF k good))::F):=by
 refine fw func276 38 [0,1,2] ?_;refine bJ ?_;have hf0:(uU k good 0).length=0:=by simp[uU]
 refine aZ 3 1 none ?_;refine aZ 27 1 none ?_;refine bL ?_;refine aE (fun zf zL zm=>∃(i:Nat) (Aa:bj) (ca:Nat) (Al:bj) (cl:Nat),(i≤PB.length)∧PB.length-i=zm∧Sub zf [(0,ah (k:Int)),(2,.slice A2 good.length c2),(6,.slice Aa (uU k good i).length ca),(7,.slice Al (uU k good i).length cl),(10,.slice A PB.length c),(11,ah PB.length),(12,ah (i:Int))]∧Wk zL (.own 27 1 Al (uU k good i).length cl (((uU k good i).map (PB.getD · iP)).map dq):: .own 3 1 Aa (uU k good i).length ca (bx (uU k good i))::F)) _ ⟨0,none,0,none,0,bT _,rfl,bp,ax (by simp[uU]) (by simp[uU]) (ax (by simp[uU]) (by simp[uU,bx]) (.refl _))⟩ ?_;rintro _ _ _ ⟨i,Aa,ca,Al,cl,hi,rfl,hs,hp⟩;refine aU hs hp ?_;clear hs hp;refine bz ?_;refine aj (fun lA=>?_) fun lA=>?_
 ·have hpg:=G1 (PB:=PB) (i:=i) aa;have l0:(uU k good i).length≤i:=by
   unfold uU;have:=BH (fun j=>good.getD j false) (List.range i);rw[vZ]at this;rw[eS];omega
  refine bJ ?_;refine ab (au ag rfl aB aa hpg) rfl ?_;refine cY ?_;refine my rfl rfl rfl (fun lW=>?_) (fun lW=>?_)
  ·refine bA ?_;refine aj (fun qU=>?_) fun qU=>?_
   ·have sI:=ag' (k:=k) (by simpa using lW) (show(uU k good i).length<k by omega);have acS:(uU k good (i+1)).length=(uU k good i).length+1:=by rw[sI];simp
    refine b8 ?_;refine dE fJ rfl rfl rfl rfl rfl (fun _=>rfl) aV aa aa ?_;intro _ Qc c30;refine aF ?_;refine ve [0,2,6,7,9,10,11,12] ?_;refine b8 ?_;refine dE fD rfl rfl rfl rfl rfl (fun _=>rfl) aV aa aa ?_;intro _ wi xh;refine bJ ?_;refine av ⟨_,aa,i+1,Qc,c30,wi,xh,aa,rfl,bp,.trans ((ed (ed (.refl _)))) (ax (by rw[sI];simp) (by rw[sI];simp) (ax (by rw[sI];simp) (by rw[sI];simp[bx]) (.refl _)))⟩
   ·have sI:=ab1 (k:=k) (good:=good) (i:=i) aa;have acS:(uU k good (i+1)).length=(uU k good i).length:=by rw[sI]
    refine bz ?_;refine ve [0,2,6,7,10,11,12] ?_;refine av ⟨_,aa,i+1,Aa,ca,Al,cl,aa,rfl,bp,ax vL vL (ax vL vL (.refl _))⟩
  ·have sI:=alw (k:=k) (by simpa using lW);have acS:(uU k good (i+1)).length=(uU k good i).length:=by rw[sI]
   refine de ?_;refine ve [0,2,6,7,10,11,12] ?_;refine av ⟨_,aa,i+1,Aa,ca,Al,cl,aa,rfl,bp,ax vL vL (ax vL vL (.refl _))⟩
 ·obtain rfl:i=PB.length:=by omega
  have xj:uU k good PB.length=dF k good:=by unfold uU dF;rw[hl]
  rw[xj];refine jy ?_;exact⟨Aa,ca,Al,cl,rfl,rfl⟩
theorem ajr(Gb:k+m≤255):a_ B w0 278 [ah (k:Int),ah (m:Int)] F (fun v L=>∃A' c',v=vt A' (k+m) k ((k+m)*k) c'∧L= .own 5 1 A' ((k+m)*k) c' (bv (lM k m))::F):=by
 refine fw func278 30 [0,1] ?_;refine be ?_;refine bc fun g4=>?_;refine bG ?_;refine ay rfl (ahB aa) fun PN c12=>?_;refine bF ?_;refine bc fun g5=>?_;refine bJ ?_;refine ay rfl (Mu Gb) fun Ln c19=>?_;refine bF ?_;refine bc fun g7=>?_;refine bJ ?_;refine cC (me (size:=3) (kk:=2) (zv:=.agg #[ah 0,ah 0,.slice none 0 0]) (us:=[(0,vt PN k k (k*k) c12),(1,vt Ln m k (m*k) c19)]) (cs:=amw PN Ln k m (k*k) (m*k) c12 c19) underlying440 ag aa aa aa ag rfl ag rfl) fun G'=>?_;refine ay rfl (aiO (x:=NG k) (y:=Gs k m) Gb (Vg k) (Mt k m) (aJ.own (.head _)) aB aB) fun sY Bq=>?_;refine bF ?_;refine bc fun g9=>?_;refine be ?_;refine ve [4,9] ?_;refine bJ ?_;refine I2 rfl rfl ag aV gC ((gl (.skip (.skip (.skip (.skip (.skip (.skip (.skip (.refl _)))))))))) ?_;exact⟨sY,Bq,rfl,rfl⟩
theorem agf{PB:List kO}(e:n=PB.length)(hb:aJ B w0 F 1 (.slice A n c) n (PB.map dq))(hl:PB.length≤1000000):
  a_ B w0 190 [.slice A n c] F (fun v L=>v= .bool (decide (rO (PB.map (·.2.2))))∧L=F):=by
 subst e;exact I4 hb hl
theorem ai7{PB:List kO}{cells:al}{nn:Nat}(e:n=PB.length)(hk:PB.length=k)(xk:1≤k)(hr:r≤255)(Ip:k≤255)(r7:cells.length=r*k)(P8:nn≤1000000000)(Iq:∀e∈PB,e.2.2.length=nn)(hc:aJ B w0 F 1 (.slice A (r*k) c) (r*k) (bv cells))(hb:aJ B w0 F 1 (.slice A2 n c2) n (PB.map dq))(hP:∀e∈PB,aJ B w0 F 1 (dq e) e.2.2.length (bv e.2.2)):
  a_ B w0 192 [vt A r k (r*k) c,.slice A2 n c2] F (PtA (WL r k cells (PB.map (·.2.2)) nn) none F):=by
 subst e;exact I6 hk xk hr Ip r7 P8 Iq hc hb hP
set_option maxHeartbeats 1000000 in
theorem aeq{PB:List kO}{good:List Bool}{nn:Nat}(hk:1≤k)(Gb:k+m≤255)(D6:PB.length=k+m)(GL:good.length=k+m)(P8:nn≤1000000)(Iq:∀i,i<k+m→good.getD i false=true→(PB.getD i iP).2.2.length=nn)(hb:aJ B w0 F 1 (.slice A PB.length c) PB.length (PB.map dq))(hP:∀e∈PB,aJ B w0 F 1 (dq e) e.2.2.length (bv e.2.2))(hg:aJ B w0 F 1 (.slice A2 good.length c2) good.length (sE good)):
  a_ B w0 243 [ah (k:Int),ah (m:Int),.slice A PB.length c,.slice A2 good.length c2] F (PtA (qg k m (PB.map (·.2.2)) good).1 (some (qg k m (PB.map (·.2.2)) good).2) F):=by
 have hfm:∀j,((dF j good).map (PB.getD · iP)).map (·.2.2)=iu j (PB.map (·.2.2)) good:=fun j=>by
  unfold iu;rw[vA];exact r9 fun i _=>by rw[ET];rfl
 have xj:∀j,∀e∈(dF j good).map (PB.getD · iP),e.2.2.length=nn∧e∈PB:=fun j e he=>by
  obtain⟨i,hi,rfl⟩:=pM.1 he;obtain⟨h1,h2⟩:=zB i hi;exact⟨Iq i aa h2,bg aa iP⟩
 have Ga:rO (iu (k+m) (PB.map (·.2.2)) good):=fun b oH=>by
  have mF:∀x∈iu (k+m) (PB.map (·.2.2)) good,x.length=nn:=fun x hx=>by
   rw[←hfm]at hx;obtain⟨e,he,rfl⟩:=pM.1 hx;exact(xj _ e he).1
  rw[mF b oH,tS mF (List.length_pos_of_mem oH)]
 have atw:(iu (k+m) (PB.map (·.2.2)) good).length=(dF (k+m) good).length:=by unfold iu;rw[eK]
 refine fw func243 118 [0,1,2,3] ?_;refine cY ?_;refine ai rfl (Wg hk Gb) ?_;refine jS ?_;refine aL rfl rfl rfl (fun y8=>?_) (fun y8=>?_)
 ·refine cJ ?_;refine ve [0,1,2,3,43] ?_;refine aF ?_;refine dm fun Yb=>?_;refine bz ?_;refine ab (bY rfl rfl (r:=((k+m:Nat):Int)) ((bE aa aa).trans aa)) rfl ?_;refine be ?_;refine aX ajO rfl (I5 (k:=k+m) aa aa hb hg) rfl ?_;rintro _ _ ⟨Aa,ca,Al,cl,rfl,cA⟩;obtain rfl:=cA.symm;refine cY ?_;refine ai rfl (agf (PB:=(dF (k+m) good).map (PB.getD · iP)) ak (aJ.own (.head _)) (by have:=(xR (k+m) good);simp;unfold dF;rw[eS];omega)) ?_;refine bF ?_;refine aj (fun Yd=>?_) fun Yd=>?_
  ·exfalso;exact Yd (by rw[hfm];exact Ga)
  ·refine bQ ?_;refine ve [0,1,2,3,59] ?_;refine aF ?_;refine aj (fun h59=>?_) fun h59=>?_
   ·have em:qg k m (PB.map (·.2.2)) good=([],12):=by unfold qg;rw[aw (fun h=>h Ga),ao aa]
    refine bJ ?_;rw[em];refine aD 27 1 none ?_;refine aq (.cons (.skip (.skip (.refl _)))) ?_;refine aF ?_;exact⟨none,0,[],rfl,rfl,rfl⟩
   ·have em:qg k m (PB.map (·.2.2)) good=(oi k m (PB.map (·.2.2)) good++par m (oi k m (PB.map (·.2.2)) good),0):=by unfold qg;rw[aw (fun h=>h Ga),aw aa]
    have l0:(dF k good).length=k:=by
     have:k≤(dF (k+m) good).length:=by omega
     unfold dF at this⊢;rw[eS]at this⊢;omega
    have fE:∀a,a∈dF k good→a<k+m:=fun a ha=>by have:=(zB a ha).1;omega
    have hP2:∀e∈(dF k good).map (PB.getD · iP),e.2.2.length=nn:=fun e he=>(xj k e he).1;refine bL ?_;refine aX ajO rfl (I5 (k:=k) aa aa hb.cons.cons hg.cons.cons) rfl ?_;rintro _ _ ⟨Aa2,ca2,Al2,cl2,rfl,cA⟩;obtain rfl:=cA.symm;refine de ?_;refine d_ (fun zf zL=>∃(DB:List kO) (Ad:bj) (cd:Nat) (K:aP),(DB.length=k∧(∀e∈DB,e.2.2.length=nn)∧DB.map (·.2.2)=oi k m (PB.map (·.2.2)) good∧aJ B w0 K 1 (.slice Ad DB.length cd) DB.length (DB.map dq)∧(∀e∈DB,aJ B w0 K 1 (dq e) e.2.2.length (bv e.2.2))∧Wk K F)∧Sub zf [(0,ah (k:Int)),(1,ah (m:Int)),(14,.slice Ad DB.length cd)]∧Wk zL (K)) ?_ ?_
    ·refine b8 ?_;refine ab (dw rfl rfl (r:=((k-1:Nat):Int)) ((bE aa aa).trans aa)) rfl ?_;refine ab (aC (i:=k-1) (size:=1) underlying53 ag rfl rfl rfl aa (aJ.own (.tail _ (.head _)))) rfl ?_;refine ab (au ag rfl (aJ.own (.tail _ (.head _))) aa (gb (v:=(dF k good).getD (k-1) 0) aa rfl)) rfl ?_;refine aF ?_;refine ab (dw rfl rfl (r:=((k-1:Nat):Int)) ((bE aa aa).trans aa)) rfl ?_;refine aF ?_;refine ve [0,1,12,13,14,75] ?_;refine aF ?_;refine aj (fun h75=>?_) fun h75=>?_
     ·obtain⟨b,hbi,c_,_⟩:=amf (n:=k) (m:=lr k (lM k m) (dF k good)) (by rw[EU (sv k m) fE,l0]) (ad6 Gb l0 (xR k good) fE);have hmb:adu k m good=b:=by unfold adu;rw[hbi];rfl
      have mJ:(lr k (lM k m) (dF k good)).length=k*k:=by rw[EU (sv k m) fE,l0]
      have hmd:oi k m (PB.map (·.2.2)) good=WL k k b (iu k (PB.map (·.2.2)) good) nn:=by
       unfold oi;rw[ao aa,hmb,←hfm,tS (n:=nn) (fun x hx=>by
        obtain⟨e,he,rfl⟩:=pM.1 hx;exact hP2 e he) bR]
      refine b8 ?_;refine ay rfl (ajr Gb) fun A79 c79=>?_;refine aF ?_;refine ay rfl (am0 (x:=lM k m) (at_:=dF k good) Gb aa (sv k m) aa fE (aJ.own (.head _)) (aJ.own (.tail _ (.tail _ (.head _))))) fun A81 c81=>?_;refine bF ?_;refine bc fun g15=>?_;refine bG ?_;rw[l0];refine be ?_;refine ay rfl (YJ (x:=lr k (lM k m) (dF k good)) (b:=b) aa mJ hbi (aJ.own (.tail _ (.head _)))) fun A86 c86=>?_;refine bF ?_;refine bc fun g17=>?_;refine be ?_;refine ve [0,1,13,17] ?_;refine b8 ?_;refine aX ajJ rfl (ai7 (PB:=(dF k good).map (PB.getD · iP)) (cells:=b) (nn:=nn) bR bR hk aa aa c_ aa hP2 (aJ.own (.tail _ (.head _))) (aJ.own (.tail _ (.tail _ (.tail _ (.tail _ (.tail _ (.head _))))))) (fun e he=>by have:=hP e (xj k e he).2;repeat (first|exact this|apply aJ.cons))) rfl ?_;rintro _ _ ⟨A91,c91,DB,rfl,cA,hDB⟩;obtain rfl:=cA.symm;refine be ?_;exact bC ⟨DB,A91,c91,_,(by
       have hDl:DB.length=k:=by have:=ek List.length hDB;rw[eK,pI]at this;exact this
       refine⟨hDl,fun e he=>?_,by rw[hDB,hmd,hfm],aJ.own (.head _),fun e he=>aJ.own (.tail _ (j8 _ (jc (f:=fq) he))),?_⟩
       ·have hm:e.2.2∈WL k k b (((dF k good).map (PB.getD · iP)).map (·.2.2)) nn:=hDB▸jc (f:=fun x:kO=>x.2.2) he;exact FJ (fun x hx=>by
         obtain⟨y,hy,rfl⟩:=pM.1 hx;exact hP2 y hy) _ hm
       ·exact .skip ((dv _ _).trans (by repeat (first|exact Wk.refl _|apply Wk.skip)))),bp,.refl _⟩
     ·have y9:((dF k good).map (PB.getD · iP)).length=(dF k good).length:=eK _;have hmd:oi k m (PB.map (·.2.2)) good=iu k (PB.map (·.2.2)) good:=by
       unfold oi;rw[aw aa]
      refine aF ?_;exact bC ⟨(dF k good).map (PB.getD · iP),Al2,cl2,_,(by
       refine⟨by rw[eK];exact l0,hP2,by rw[hfm,hmd],?_,fun e he=>by have:=hP e (xj k e he).2;repeat (first|exact this|apply aJ.cons),.skip (.skip (.skip (.skip (.refl _))))⟩;rw[eK];exact aJ.own (.head _)),bp,.refl _⟩
    ·rintro _ _ ⟨DB,Ad,cd,K,⟨hDl,hDe,hDm,hDb,hDP,hKF⟩,hs,hp⟩;refine aU hs hp ?_;clear hs hp;refine b8 ?_;refine aX ajD rfl (OF (PB:=DB) (nn:=nn) hDl hk Gb aa hDe hDb hDP) rfl ?_;rintro _ _ ⟨A95,c95,FB,rfl,cA,sH⟩;obtain rfl:=cA.symm;refine cY ?_;refine ab (bY rfl rfl (r:=((k+m:Nat):Int)) ((bE aa aa).trans aa)) rfl ?_;refine cC (fb (nn:=0) fD rfl rfl rfl rfl rfl aa aa aa) fun akM=>?_;refine b8 ?_;refine d_ (fun zf zL=>∃(Ac:bj) (cc:Nat) (K2:aP),(aJ B w0 K2 1 (.slice Ac (DB++FB).length cc) (DB++FB).length ((DB++FB).map dq)∧(∀e∈DB++FB,aJ B w0 K2 1 (dq e) e.2.2.length (bv e.2.2))∧Wk K2 F)∧Sub zf [(21,.slice akM 0 (k+m)),(105,.slice Ac (DB++FB).length cc),(106,ah (DB++FB).length),(107,ah 0)]∧Wk zL (.own 27 1 akM 0 (k+m) []::K2)) ?_ ?_
     ·have Ra:FB.length=m:=by have:=ek List.length sH;rw[eK,m7]at this;exact this
      have ahj:(DB++FB).length=DB.length+FB.length:=aY;refine bF ?_;refine cC (aG anm [_,_] rfl rfl cw aa aa) fun arp=>?_;refine ay rfl (Zq (V1:=DB.map dq) (V2:=FB.map dq) (aJ.own (.head _)) (by have:=hDb;refine aJ.cons (aJ.cons (aJ.cons (this.mono (gy _ _))))) (aJ.own (.tail _ (.tail _ (.head _)))) E2 E2 aa aa aa) fun arq arz=>?_;refine be ?_;refine ve [21,105,106,107] ?_;exact bC ⟨arq,arz,_,(by
       rw[ahj];refine⟨by rw[jb];exact aJ.own (.head _),fun e he=>?_,?_⟩
       ·rcases dz.1 he with he|he
        ·have:=(hDP e he).mono (gy (FB.map fq) _);repeat (first|exact this|apply aJ.cons)
        ·exact aJ.own (.tail _ (.tail _ (.tail _ (j8 _ (jc (f:=fq) he)))))
       ·exact .skip (.skip (.skip ((dv _ _).trans hKF)))),bp,(rM (ed (ed (.refl _))))⟩
     ·rintro _ _ ⟨Ac,cc,K2,⟨Yl,hcP,Rb⟩,hs,hp⟩;refine aU hs hp ?_;clear hs hp;have Ra:FB.length=m:=by have:=ek List.length sH;rw[eK,m7]at this;exact this
      have ahj:(DB++FB).length=k+m:=by rw[aY];omega
      have aci:(DB++FB).map (·.2.2)=oi k m (PB.map (·.2.2)) good++par m (oi k m (PB.map (·.2.2)) good):=by rw[jb,sH,hDm]
      have apV:∀e∈DB++FB,e.2.2.length=nn:=fun e he=>by
       rcases dz.1 he with he|he
       ·exact hDe e he
       ·have hm:e.2.2∈par m (DB.map (·.2.2)):=sH▸jc (f:=fun x:kO=>x.2.2) he;exact yA bR (fun x hx=>by
         obtain⟨y,hy,rfl⟩:=pM.1 hx;exact hDe y hy) _ hm
      obtain⟨AB,hAB⟩:=cN (DB++FB);rw[←hAB]at Yl hcP ahj aci apV⊢;refine aF ?_;refine aE (fun zf zL zm=>∃(i:Nat) (Ao:bj) (co:Nat) (OB:List kO),(i≤AB.length∧OB.length=i∧OB.map (·.2.2)=(AB.map (·.2.2)).take i)∧AB.length-i=zm∧Sub zf [(21,.slice Ao OB.length co),(105,.slice Ac AB.length cc),(106,ah AB.length),(107,ah (i:Int))]∧Wk zL (.own 27 1 Ao OB.length co (OB.map dq)::(OB.map fq++K2))) _ ⟨0,akM,k+m,[],⟨bT _,rfl,rfl⟩,rfl,bp,.refl _⟩ ?_;rintro _ _ _ ⟨i,Ao,co,OB,⟨hi,hOl,hOm⟩,rfl,hs,hp⟩;refine aU hs hp ?_;clear hs hp;refine bz ?_;refine aj (fun arT=>?_) fun arT=>?_
      ·have Rp:=G1 (PB:=AB) (i:=i) aa;have pS:=bg (l:=AB) (show i<AB.length by omega) iP;have tX:(AB.map (·.2.2)).take (i+1)=(AB.map (·.2.2)).take i++[(AB.getD i iP).2.2]:=by rw[ba bR [],ET]
       obtain⟨P,hPe⟩:=cN (AB.getD i iP);rw[←hPe]at Rp pS tX;have hlP:=apV P pS;have hbP:aJ B w0 (OB.map fq++K2) 1 (dq P) P.2.2.length (bv P.2.2):=(hcP P pS).mono (gy _ _);have asi:aJ B w0 (OB.map fq++K2) 1 (.slice Ac AB.length cc) AB.length (AB.map dq):=Yl.mono (gy _ _);refine bL ?_;refine ab (au ag rfl asi.cons aa Rp) rfl ?_;refine bz ?_;refine ay rfl (uq (l:=P.2.2) rfl rfl hbP.cons aa) fun aaz aba=>?_;refine dE fD rfl rfl rfl rfl rfl (fun _=>rfl) aV aa aa ?_;intro _ anS aoH;refine bJ ?_;have wL:(OB++[((aaz,aba,P.2.2):kO)]).length=OB.length+1:=by simp
       refine av ⟨_,aa,i+1,anS,aoH,OB++[((aaz,aba,P.2.2):kO)],⟨aa,bR,by rw[jb,hOm,tX];rfl⟩,rfl,bp,.trans (qn (PB:=OB) (F:=K2) (e:=((aaz,aba,P.2.2):kO)) [.own 27 1 anS (OB.length+1) aoH (OB.map dq++[dq ((aaz,aba,P.2.2):kO)])]) (ax ak ak (.refl _))⟩
      ·obtain rfl:i=AB.length:=by omega
       rw[fL ak]at hOm;refine de ?_;rw[em];refine aq (.cons (Lg Rb _)) ?_;refine aF ?_;exact⟨Ao,co,OB,rfl,rfl,by rw[hOm,aci]⟩
 ·exfalso;omega
theorem Ue{sz p:Nat}(h:1≤sz):gU sz (p*sz)=p:=by
 unfold gU;rw[sL,Nat.add_mul_div_right _ _ aa,BC aa,mq]
theorem aaK{sz p:Nat}(h1:1≤sz)(h2:sz≤10000)(hp:p≤100000)(hnc:p*sz≤c):
  a_ B w0 187 [.slice none 0 0,.func (.func 188) #[] #[br gp,br gq]] (.bD gq 3 [ah sz]:: .bD gp 27 [.slice A (p*sz) c]::F)
   (fun v L=>∃A' c',v= .slice A' p c'∧L= .own 27 1 A' p c' ((List.range p).map fun i=>Gt A sz (p*sz) i):: .bD gq 3 [ah sz]:: .bD gp 27 [.slice A (p*sz) c]::F):=by
 have hN:gU sz (p*sz)=p:=Ue h1;have hps:p*sz≤100000*10000:=gN hp h2;refine xS func187 13 rfl rfl rfl [(0,.slice none 0 0),(1,.func (.func 188) #[] #[br gp,br gq])] ⟨⟨rfl,rfl⟩,⟨rfl,rfl⟩,trivial⟩ ?_;refine qE ?_;refine aF ?_;refine bh fun g2=>?_;refine be ?_;refine lB ?_;refine Lc ?_;refine aZ 27 1 none ?_;refine bF ?_;refine lB ?_;refine FT (N:=gU sz (p*sz)) ajI rfl rfl rfl (fun i:Fin (gU sz (p*sz))=>Gt A sz (p*sz) i.val) (fun xs=>xs.map (·.val)=List.range (gU sz (p*sz))) (fun _=>True) [.bD gp 27 [.slice A (p*sz) c],.bD gq 3 [ah sz]]
  (fun w hw=>xD h1 h2 aa hnc (fun e=>by have:=(kC.1 (kC.1 (kC.1 hw.apart).2).2).1 _ rj;subst e;rcases this with h|h<;>simp[Ch.fp]at h) w (hw.all _ (lk _ (lk _ (lk _ rj)))) (hw.all _ (lk _ (lk _ rj))))
  (fun(_:List (Fin (gU sz (p*sz)))) (_:bj×Nat)=>True) (fun pre s=>.bD g2 52 [.slice s.1 pre.length s.2]:: .own 27 1 s.1 pre.length s.2 (pre.map fun x=>Gt A sz (p*sz) x.val):: .bD gq 3 [ah sz]:: .bD gp 27 [.slice A (p*sz) c]::F)
  (fun pre s q hq=>by simp only[KL hq,KK hq]) (fun q hq=>by
   simp only[fk,mo,oe]at hq;rcases hq with rfl|rfl
   ·exact⟨rfl,fun pre s=>lk _ (lk _ (lk _ rj))⟩
   ·exact⟨rfl,fun pre s=>lk _ (lk _ rj)⟩)
  (none,0) trivial ((gl (ed (.refl _)))) ?_ ?_
 ·rintro l' pre x ⟨A7,c7⟩ w1 _ mJ acs F';have Rx:pre.length<p:=Nat.lt_of_lt_of_eq mJ hN;have hmp:(pre++[x]).map (fun x=>Gt A sz (p*sz) x.val)=pre.map (fun x=>Gt A sz (p*sz) x.val)++[Gt A sz (p*sz) x.val]:=by simp
  have y9:(pre++[x]).length=pre.length+1:=by simp
  simp only[nC,hmp,y9];refine FW ?_;refine nc ag ?_;refine be ?_;refine dE fD rfl rfl rfl rfl rfl (fun _=>rfl) aV aa aa ?_;intro _ tz xg;refine be ?_;refine nq ?_;exact⟨(tz,xg),trivial,.refl _⟩
 ·rintro D xs ⟨A7,c7⟩ hS _;have P_:xs.length=p:=by have:=ek List.length hS;rw[eK,vZ]at this;exact this.trans hN
  have hxm:xs.map (fun x=>Gt A sz (p*sz) x.val)=(List.range p).map fun i=>Gt A sz (p*sz) i:=by
   have e:List.range (gU sz (p*sz))=List.range p:=ek List.range hN;rw[←hS.trans e,vA];rfl
  simp only[P_,hxm];refine afR ?_;refine bF ?_;refine nq ?_;refine afQ rfl (.refl _) ?_;refine aq (.skip (.refl _)) ?_;refine aF ?_;exact⟨A7,c7,rfl,rfl⟩
theorem Xz{sz p:Nat}(h1:1≤sz)(h2:sz≤10000)(hp:p≤100000)(hnc:p*sz≤c):
  a_ B w0 120 [.func (.func 188) #[] #[br gp,br gq]] (.bD gq 3 [ah sz]:: .bD gp 27 [.slice A (p*sz) c]::F)
   (fun v L=>∃A' c',v= .slice A' p c'∧L= .own 27 1 A' p c' ((List.range p).map fun i=>Gt A sz (p*sz) i):: .bD gq 3 [ah sz]:: .bD gp 27 [.slice A (p*sz) c]::F):=by
 refine fw func120 5 [0] ?_;refine bJ ?_;refine ay rfl (aaK h1 h2 hp hnc) fun A4 c4=>?_;refine bG ?_;exact⟨A4,c4,rfl,rfl⟩
theorem xA(sz:Nat):∀(p i:Nat) (x:al),i<p→(mD sz p x).getD i []=(x.drop (i*sz)).take sz
 |0,_,_,h=>by omega
 |p+1,0,x,_=>by rw[mD,r'];rfl
 |p+1,i+1,x,h=>by
  have:=xA sz p i (x.drop sz) aa;rw[mD,BF,this,qa,kB,sL sz]
theorem Ub{l:al}(hb:eM B w0 F A c l){sz i:Nat}(hz:1≤sz)(hi:i*sz+sz≤l.length):aJ B w0 F 1 (.slice (A.map (·.add (i*sz))) sz sz) sz (bv ((l.drop (i*sz)).take sz)):=fun w hs=>by
 obtain⟨A',c',e,h1,h2,h3⟩:=hb w hs;obtain⟨rfl,_,rfl⟩:A=A'∧True∧c=c':=by injection e with a b d;exact⟨a,trivial,d⟩
 obtain⟨ad,rfl,h4,h5⟩:=h3 aa;refine⟨_,sz,rfl,gj _,bR,fun _=>⟨_,rfl,aor,fun j u hu=>?_⟩⟩;have hu':(bv l)[i*sz+j]? =some u:=by
  rw[←jX,←jt,GR]at hu;split at hu
  ·rw[k_7]at hu;exact hu
  ·cases hu
 have:=h5 _ _ hu';show w.cell? ((ad.add (i*sz)).add j)=some u;rw[lD];exact this
def chP(A:bj)(sz p:Nat)(x:al):List kO:=(List.range p).map fun i=>(A.map (·.add (i*sz)),sz,(mD sz p x).getD i [])
theorem QA(A:bj)(sz p:Nat)(x:al):(chP A sz p x).length=p:=by simp[chP]
theorem zj(A:bj)(sz p:Nat)(x:al):(chP A sz p x).map (·.2.2)=mD sz p x:=by
 unfold chP;rw[vA]
 conv=>rhs;rw[←pw (mD sz p x),kp]
 rfl
theorem abd{A:bj}{sz p:Nat}{x:al}(hx:x.length=p*sz):(chP A sz p x).map dq=(List.range p).map fun i=>Gt A sz (p*sz) i:=by
 unfold chP;rw[vA];refine r9 fun i hi=>?_;have hi:=kz.1 hi;have h1:=fM (k:=sz) hi;show Value.slice _ ((mD sz p x).getD i []).length _=_;rw[xA sz p i x hi,eS,iG];unfold Gt xi;rw[show min sz (p*sz-i*sz)=sz by omega,show min sz (x.length-i*sz)=sz by omega]
theorem Uf{sz p:Nat}{x:al}(hz:1≤sz)(hx:x.length=p*sz)(hb:eM B w0 F A c x):∀e∈chP A sz p x,aJ B w0 F 1 (dq e) e.2.2.length (bv e.2.2):=fun e he=>by
 obtain⟨i,hi,rfl⟩:=pM.1 he;have hi:=kz.1 hi;have h1:=fM (k:=sz) hi;have:=Ub hb hz (i:=i) aa;show aJ B w0 F 1 (.slice _ ((mD sz p x).getD i []).length sz) ((mD sz p x).getD i []).length (bv ((mD sz p x).getD i []));rw[xA sz p i x hi];have hl:((x.drop (i*sz)).take sz).length=sz:=by rw[eS,iG];omega
 rw[hl];exact this
theorem agL{sz p:Nat}{x:al}(hx:x.length=p*sz):∀e∈chP A sz p x,e.2.2.length=sz:=fun e he=>by
 have hm:e.2.2∈mD sz p x:=by rw[←zj A];exact jc (f:=fun y:kO=>y.2.2) he
 exact qM sz p x hx _ hm
section
variable{ch:Nat}
abbrev ShV(k m ch:Nat):Value:=.agg #[ah (k:Int),ah (m:Int),ah (ch:Int)]
structure Gn(k m ch:Nat):Prop where
 k1:1≤k
 km:k+m≤255
 c1:1≤ch
 c2:ch≤4096
theorem Gn.kc(h:Gn k m ch):1≤k*ch∧k*ch≤255*4096:=
 ⟨N3 h.k1 h.c1,gN (by have:=h.km;omega) h.c2⟩
theorem Gn.laid(h:Gn k m ch):1≤(k+m)*(ch+4)∧(k+m)*(ch+4)≤255*4100:=
 ⟨N3 (by have:=h.k1;omega) aa,gN h.km (by have:=h.c2;omega)⟩
theorem Wv(k ch n:Nat):lK k ch n≤n+k*ch:=jd (q_ _ _) aa
theorem yI(h:Gn k m ch):a_ B w0 119 [ShV k m ch] F (fun v L=>v=ah ((k*ch:Nat):Int)∧L=F):=by
 have h1:=h.km;have h2:=h.c2;refine ct func119 8 rfl rfl rfl [(0,.agg #[ah (k:Int),ah (m:Int),ah (ch:Int)])] ⟨⟨rfl,rfl⟩,trivial⟩ ?_;refine be ?_;refine bh fun g1=>?_;refine bQ ?_;refine ab (eZ rfl rfl (r:=((k*ch:Nat):Int)) (EK aa aa)) rfl ?_;refine b8 ?_;refine aq (.skip (.refl _)) ?_;refine aF ?_;exact⟨rfl,rfl⟩
theorem KX(h:Gn k m ch):a_ B w0 186 [ShV k m ch] F (fun v L=>v=ah (((k+m)*(ch+4):Nat):Int)∧L=F):=by
 have h1:=h.km;have h2:=h.c2;refine ct func186 12 rfl rfl rfl [(0,.agg #[ah (k:Int),ah (m:Int),ah (ch:Int)])] ⟨⟨rfl,rfl⟩,trivial⟩ ?_;refine be ?_;refine bh fun g1=>?_;refine bQ ?_;refine ab (bY rfl rfl (r:=((k+m:Nat):Int)) ((bE aa aa).trans aa)) rfl ?_;refine be ?_;refine ab (bY rfl rfl (r:=((ch+4:Nat):Int)) ((bE aa aa).trans aa)) rfl ?_;refine ab (eZ rfl rfl (r:=(((k+m)*(ch+4):Nat):Int)) (EK aa aa)) rfl ?_;refine b8 ?_;refine aq (.skip (.refl _)) ?_;refine aF ?_;exact⟨rfl,rfl⟩
theorem aeJ(h:Gn k m ch)(hn:n≤1000000000):a_ B w0 118 [ShV k m ch,ah (n:Int)] F (fun v L=>v=ah ((lK k ch n:Nat):Int)∧L=F):=by
 have hkc:=h.kc;refine ct func118 13 rfl rfl rfl [(0,.agg #[ah (k:Int),ah (m:Int),ah (ch:Int)]),(1,ah (n:Int))] ⟨⟨rfl,rfl⟩,⟨rfl,rfl⟩,trivial⟩ ?_;refine be ?_;refine bh fun g2=>?_;refine bL ?_;refine iU ajC rfl (yI h) vv rfl ?_;refine b7 (bY rfl rfl (r:=((n+k*ch:Nat):Int)) ((bE aa aa).trans aa)) rfl ?_;refine b7 (dw rfl rfl (r:=((n+k*ch-1:Nat):Int)) ((bE aa aa).trans aa)) rfl ?_;refine aF ?_;refine iU ajC rfl (yI h) vv rfl ?_;refine b7 (mc rfl rfl aa (r:=((lK k ch n:Nat):Int)) (aqS aa)) rfl ?_;refine b8 ?_;refine aq (.skip (.refl _)) ?_;refine aF ?_;exact⟨rfl,rfl⟩
theorem ano(h:Gn k m ch):a_ B w0 185 [ShV k m ch,ah (n:Int)] F (fun v L=>v= .bool (decide (n≤8388608))∧L=F):=by
 obtain⟨h1,h2,h3,h4⟩:=h;refine ct func185 44 rfl rfl rfl [(0,.agg #[ah (k:Int),ah (m:Int),ah (ch:Int)]),(1,ah (n:Int))] ⟨⟨rfl,rfl⟩,⟨rfl,rfl⟩,trivial⟩ ?_;refine be ?_;refine bh fun g2=>?_;refine bQ ?_;refine cP (fun h8=>?_) fun h8=>?_
 ·refine bL ?_;refine cP (fun lA=>?_) fun lA=>?_
  ·refine bL ?_;refine cP (fun jk=>?_) fun jk=>?_
   ·refine de ?_;refine cP (fun qU=>?_) fun qU=>?_
    ·refine bL ?_;refine cP (fun D5=>?_) fun D5=>?_
     ·refine bL ?_;refine cP (fun y8=>?_) fun y8=>?_
      ·refine bG ?_;refine cP (fun h40=>?_) fun h40=>?_
       ·refine bG ?_;refine ve [4] ?_;refine be ?_;refine aq (.skip (.refl _)) ?_;refine aF ?_;exact⟨ek _ (z7.2 aa),rfl⟩
       ·exfalso;omega
      ·exfalso;omega
     ·exfalso;omega
    ·exfalso;omega
   ·exfalso;omega
  ·exfalso;omega
 ·exfalso;omega
theorem O9(h:Gn k m ch)(hn:n≤8388608):jh k m ch n≤10000000*2000000:=by
 have:=Wv k ch n;have hk:=h.kc;have hl:=h.laid;exact gN aa aa
theorem aq9(h:Gn k m ch)(hn:n≤8388608):IntKind.i64.wrap (((lK k ch n:Nat):Int)*(((k+m)*(ch+4):Nat):Int))=((jh k m ch n:Nat):Int):=by
 have:=O9 h hn;have e:((lK k ch n:Nat):Int)*(((k+m)*(ch+4):Nat):Int)=((jh k m ch n:Nat):Int):=(z6 _ _).symm;rw[e];exact bE aa aa
theorem Ws(h:Gn k m ch)(hn:n≤9223372036854775807):a_ B w0 117 [ah (k:Int),ah (m:Int),ah (ch:Int),ah (n:Int)] F (fun v L=>v= .tuple #[ah (((if zc k m ch n=0 then jh k m ch n else 0:Nat)):Int),ah (zc k m ch n)]∧L=F):=by
 have hl:=h.laid;refine fw func117 29 [0,1,2,3] ?_;refine cY ?_;refine ab (eG [(0,_),(1,_),(2,_)] [_,_,_] rfl rfl ag) rfl ?_;refine bc fun g10=>?_;refine bJ ?_;refine ai rfl (ano h) ?_;refine bF ?_;refine aj (fun pR=>?_) fun pR=>?_
 ·have e:zc k m ch n=13:=by unfold zc;rw[ao aa]
  refine bJ ?_;refine aq (.skip (.refl _)) ?_;refine aF ?_;exact⟨by rw[e,aw aa];rfl,rfl⟩
 ·have tU:n≤8388608:=bH pR;have i_:=O9 h tU;have e:zc k m ch n=if 16777216<jh k m ch n then 6 else 0:=by unfold zc;rw[aw aa]
  refine bz ?_;refine iU aoJ rfl (aeJ h aa) vv rfl ?_;refine aF ?_;refine iU aoV rfl (KX h) vv rfl ?_;refine b7 (eZ rfl rfl (r:=((jh k m ch n:Nat):Int)) (aq9 h tU)) rfl ?_;refine aF ?_;refine na [(11,_)] ⟨rfl,trivial⟩ ?_;refine bJ ?_;refine aj (fun ka=>?_) fun ka=>?_
  ·rw[ao aa]at e;refine bJ ?_;refine aq (.skip (.refl _)) ?_;refine aF ?_;exact⟨by rw[e,aw aa];rfl,rfl⟩
  ·rw[aw aa]at e;refine bA ?_;refine aq (.skip (.refl _)) ?_;refine aF ?_;exact⟨by rw[e,ao rfl],rfl⟩
end
section
variable{ch:Nat}
theorem adY{PB:List kO}{nn:Nat}(e:n=PB.length)(hk:PB.length=k)(xk:1≤k)(Gb:k+m≤255)(P8:nn≤1000000000)(Iq:∀e∈PB,e.2.2.length=nn)(hb:aJ B w0 F 1 (.slice A2 n c2) n (PB.map dq))(hP:∀e∈PB,aJ B w0 F 1 (dq e) e.2.2.length (bv e.2.2)):
  a_ B w0 122 [ah (m:Int),.slice A2 n c2] F (PtA (par m (PB.map (·.2.2))) (some 0) F):=by
 subst e;exact OF hk xk Gb P8 Iq hb hP
theorem YS{f:Nat}{x:al}:ue k m ch (f+1) x=G5 k m ch (x.take (k*ch))++ue k m ch f (x.drop (k*ch)):=rfl
theorem abw{b:al}{N:Nat}(h:b.length≤N):(bv b).take (min b.length N)++(List.replicate N (Value.int .u8 0)).drop (min b.length N)=bv (b++List.replicate (N-b.length) 0):=by
 rw[za h,List.drop_replicate,fL ak];simp[bv]
theorem J7{l:eH}{q:Nat}(hq:q<l.length):(l.take (q+1)).flatMap cX=(l.take q).flatMap cX++cX (l.getD q []):=by
 rw[ba hq [],ua];simp
theorem as3{u v a b x y:Ch}{M K:aP}:(u::v::(M++a::b::x::y::K)).Perm (x::y::u::v::(M++a::b::K)):=by
 have h1:(a::b::x::y::K).Perm ([x,y]++(a::b::K)):=og [a,b] [x,y] K;have h2:(M++a::b::x::y::K).Perm ([x,y]++(M++a::b::K)):=(h1.append_left M).trans (og M [x,y] _);exact((h2.cons v).cons u).trans (og [u,v] [x,y] (M++a::b::K))
set_option maxHeartbeats 1000000 in
theorem ann(HT:bI B w0)(h:Gn k m ch){b:al}(hb:eM B w0 F A c b)(c_:b.length≤1000000000000000):
  a_ B w0 66 [ah (k:Int),ah (m:Int),ah (ch:Int),.slice A b.length c] F (fun v L=>∃A' c',v= .tuple #[.slice A' (pW k m ch b).1.length c',ah (pW k m ch b).2]∧L= .own 5 1 A' (pW k m ch b).1.length c' (bv (pW k m ch b).1)::F):=by
 obtain⟨k1,km,ch1,ch2⟩:=h;have h:Gn k m ch:=⟨k1,km,ch1,ch2⟩
 have hkc:=h.kc;have Gc:=h.laid;have mJ:=uy (k:=k) (ch:=ch) aa b;have wH:=CQ (k:=k) (ch:=ch) (n:=b.length) aa;refine fw func66 83 [0,1,2,3] ?_;refine de ?_;refine ai rfl (Ws h aa) ?_;refine dQ ?_;refine aj (fun Bv=>?_) fun Bv=>?_
 ·have e:pW k m ch b=([],zc k m ch b.length):=by unfold pW;rw[ao Bv]
  refine bG ?_;refine ve [8,9] ?_;refine bF ?_;refine aD 5 1 none ?_;refine aF ?_;rw[e];exact⟨none,0,rfl,rfl⟩
 ·have e0:zc k m ch b.length=0:=bH Bv;have e:pW k m ch b=(ue k m ch (lK k ch b.length) (sg k ch b),0):=by unfold pW;rw[aw Bv]
  have GJ:b.length≤8388608:=by
   refine bH fun hh=>?_;unfold zc at e0;rw[ao aa]at e0;exact absurd e0 aA
  have acU:jh k m ch b.length≤16777216:=by
   refine bH fun hh=>?_;unfold zc at e0;rw[aw aa,ao aa]at e0;exact absurd e0 aA
  rw[ao e0];have Yi:=Wv k ch b.length;obtain⟨S,hS⟩:=cN (lK k ch b.length);obtain⟨D,hD⟩:=cN (k*ch);obtain⟨Ld,U5⟩:=cN ((k+m)*(ch+4));have hSd:S*D≤10000000*1044480:=gN aa aa;have aty:S*Ld≤16777216:=by rw[hS,U5];exact acU
  rw[←hS,←hD]at mJ wH;rw[←hS]at e Yi;rw[←hD]at hkc Yi;rw[←U5]at Gc;have hpe:sg k ch b=b++List.replicate (S*D-b.length) 0:=by unfold sg;rw[hS,hD]
  refine bL ?_;refine ab (eG [(0,_),(1,_),(2,_)] [_,_,_] rfl rfl ag) rfl ?_;refine bc fun Ih=>?_;refine aF ?_;refine ve [1,2,3,10,12] ?_;refine be ?_;refine cF (.bD Ih 195 [ah (k:Int),ah (m:Int),ah (ch:Int)]::F) ?_;refine ae 0 ?_;refine ae 1 ?_;refine ae 2 ?_;refine ae 4 ?_;refine az 3 ?_;refine iW rfl rfl (aeJ (n:=b.length) h aa) ?_;refine az 5 ?_;refine iW rfl rfl (yI h) ?_;refine aW 6 rfl (eZ rfl rfl (r:=((S*D:Nat):Int)) (by rw[←hS,←hD,←z6];exact bE aa aa)) ?_;refine az 7 ?_;refine cR rfl (fb (nn:=S*D) (cc:=S*D) cD rfl rfl rfl rfl rfl aa aa aa) fun Lp=>?_;refine ae 8 ?_;refine bz ?_;refine lL (H6 cD .hd rfl rfl (hb.cons.cons) (qs _)) rfl ?_;rintro _ _ ⟨rfl,rfl⟩;refine bF ?_;rw[abw wH,←hpe];refine fP ((l6 (fR (.refl _)))) ?_;obtain⟨K,hK⟩:=cN (.own 5 1 Lp (S*D) (S*D) (bv (sg k ch b))::F);have hbK:aJ B w0 K 1 (.slice Lp (sg k ch b).length (S*D)) (sg k ch b).length (bv (sg k ch b)):=by rw[mJ,hK];exact aJ.own (.head _)
  have hKF:Wk K F:=by rw[hK];exact .skip (.refl _)
  rw[←hK,show(Value.slice Lp (S*D) (S*D))= .slice Lp (sg k ch b).length (S*D) by rw[mJ]];refine be ?_;refine cC (fb (nn:=0) (cc:=jh k m ch b.length) cD rfl rfl rfl rfl rfl aa aa aa) fun A48=>?_;refine bG ?_;refine aE (fun zf zL zm=>∃(j:Nat) (R:al) (Ar:bj) (cr:Nat) (Ao:bj) (co:Nat) (acc:al),(j≤S∧R.length=(S-j)*D∧R.length≤cr∧aJ B w0 K 1 (.slice Ar R.length cr) R.length (bv R)∧acc.length=j*Ld∧acc++ue k m ch (S-j) R=ue k m ch S (sg k ch b))∧S-j=zm∧Sub zf [(1,ah (m:Int)),(2,ah (ch:Int)),(12,br Ih),(13,.slice Ar R.length cr),(14,.slice Ao acc.length co)]∧Wk zL (.own 5 1 Ao acc.length co (bv acc):: .bD Ih 195 [ah (k:Int),ah (m:Int),ah (ch:Int)]::K)) _ ⟨0,sg k ch b,Lp,S*D,A48,jh k m ch b.length,[],⟨bT _,by rw[El];exact mJ,aa,hbK,ak,by rw[El];rfl⟩,rfl,bp,ax rfl rfl (.refl _)⟩ ?_;rintro _ _ _ ⟨j,R,Ar,cr,Ao,co,acc,⟨hj,U7,hRc,U6,Ga,mE⟩,rfl,hs,hp⟩;refine aU hs hp ?_;clear hs hp;refine bJ ?_;refine aj (fun h51=>?_) fun h51=>?_
  ·have hjS:j<S:=by
    refine bH fun hh=>?_;have:S-j=0:=by omega
    rw[this,r']at U7;omega
   have hSj:S-j=(S-(j+1))+1:=by omega
   rw[hSj,kB]at U7;rw[hSj,YS,←hD]at mE;have hLj:(j+1)*Ld≤S*Ld:=ow _ hjS;rw[kB]at hLj;obtain⟨X,hX⟩:=cN (R.take D);have U8:X.length=D:=by rw[hX,eS];omega
   have hXk:X.length=k*ch:=by rw[U8,hD]
   have hXb:aJ B w0 K 1 (.slice Ar D cr) D (bv X):=by
    have:=U6.iZ (k:=D) aa;rw[cE,jX,←hX]at this;exact this
   have apY:aJ B w0 K 1 (.slice Ar X.length cr) X.length (bv X):=by rw[U8];exact hXb
   have acS:=Fs (m:=m) k1 hXk;rw[←U5]at acS;rw[←hX]at mE;have hcP:=QA Ar ch k X;refine bL ?_;refine ai rfl (yI h) ?_;refine ab (bN (i:=k*ch) (size:=1) underlying27 ag rfl rfl rfl aa) rfl ?_;refine aF ?_;refine ay rfl (MA ch1) fun gp gq=>?_;refine ay rfl (Xz (p:=k) ch1 aa aa aa) fun A58 c58=>?_;refine b8 ?_;rw[←abd (A:=Ar) hXk];refine bF ?_;refine aX ajD rfl (adY (PB:=chP Ar ch k X) (nn:=ch) hcP.symm hcP k1 km aa (agL hXk) (aJ.own (.head _)) (fun e he=>by have:=Uf ch1 hXk apY e he;exact this.cons.cons.cons.cons.cons)) rfl ?_;rintro _ _ ⟨A62,c62,FB,rfl,cA,sH⟩;obtain rfl:=cA.symm;refine bG ?_;refine ve [1,2,12,13,14,15,16] ?_;refine be ?_;refine d_ (fun zf zL=>∃(A67:bj) (c67:Nat) (AB:List kO) (K2:aP),(AB.length=k+m∧AB.map (·.2.2)=Cl k m ch X∧aJ B w0 K2 1 (.slice A67 AB.length c67) AB.length (AB.map dq)∧(∀e∈AB,aJ B w0 K2 1 (dq e) e.2.2.length (bv e.2.2))∧Wk K2 K)∧Sub zf [(1,ah (m:Int)),(2,ah (ch:Int)),(12,br Ih),(13,.slice Ar R.length cr),(14,.slice Ao acc.length co),(67,.slice A67 AB.length c67),(68,ah AB.length),(69,ah 0)]∧Wk zL (.own 5 1 Ao acc.length co (bv acc):: .bD Ih 195 [ah (k:Int),ah (m:Int),ah (ch:Int)]::K2)) ?_ ?_
   ·rw[zj]at sH;have Ra:FB.length=m:=by have:=ek List.length sH;rw[eK,m7]at this;exact this
    refine fP ((List.perm_middle.cons _).trans (.swap ..)) ?_;refine bF ?_;refine fN (bS fD rfl aV rfl (aJ.own (.tail _ (.head _))) E2 aa aa) fun A67 c67=>?_;refine bF ?_;have hl:(chP Ar ch k X++FB).length=k+m:=by rw[aY];omega
    exact bC ⟨A67,c67,chP Ar ch k X++FB,_,(by
     refine⟨hl,by rw[jb,zj,sH];rfl,?_,?_,?_⟩
     ·rw[hl,jb,show k+m=k+FB.length by omega];exact aJ.own (.head _)
     ·intro e he;rcases dz.1 he with he|he
      ·exact(Uf ch1 hXk apY e he).mono (.cons _ (.cons _ (.trans (.cons _ (.cons _ (.refl _))) (gy _ _))))
      ·exact aJ.own (.tail _ (.tail _ (j8 _ (jc (f:=fq) he))))
     ·exact .skip (.skip ((dv _ _).trans (.skip (.skip (.refl _)))))),bp,.dD as3⟩
   ·rintro _ _ ⟨A67,c67,AB,K2,⟨ahj,aci,ar9,ar8,Rb⟩,hs,hp⟩;refine aU hs hp ?_;clear hs hp;have hPe:∀e∈AB,e.2.2.length=ch:=fun e he=>AX k1 hXk _ (aci▸jc (f:=fun y:kO=>y.2.2) he);refine aF ?_;refine aE (fun zf zL zm=>∃(q:Nat) (Aq:bj) (cq:Nat) (B6:al),(q≤AB.length∧B6=acc++((AB.map (·.2.2)).take q).flatMap cX∧B6.length=acc.length+q*(ch+4))∧AB.length-q=zm∧Sub zf [(1,ah (m:Int)),(2,ah (ch:Int)),(12,br Ih),(13,.slice Ar R.length cr),(14,.slice Aq B6.length cq),(67,.slice A67 AB.length c67),(68,ah AB.length),(69,ah (q:Int))]∧Wk zL (.own 5 1 Aq B6.length cq (bv B6):: .bD Ih 195 [ah (k:Int),ah (m:Int),ah (ch:Int)]::K2)) _ ⟨0,Ao,co,acc,⟨bT _,ak,ak⟩,rfl,bp,.refl _⟩ ?_;rintro _ _ _ ⟨q,Aq,cq,B6,⟨hq,aj0,atE⟩,rfl,hs,hp⟩;refine aU hs hp ?_;clear hs hp;refine bz ?_;refine aj (fun h70=>?_) fun h70=>?_
    ·have Rp:=G1 (PB:=AB) (i:=q) aa;have pS:=bg (l:=AB) (show q<AB.length by omega) iP;have hft:=J7 (l:=AB.map (·.2.2)) (q:=q) bR;rw[ET]at hft;obtain⟨P,hP⟩:=cN (AB.getD q iP);rw[←hP]at Rp pS hft;have hlP:=hPe P pS;have hbP:=ar8 P pS;have hqL:(q+1)*(ch+4)≤(k+m)*(ch+4):=ow _ aa;rw[kB,←U5]at hqL;have hpp:=du P.2.2;refine bL ?_;refine ab (au ag rfl ar9.cons.cons aa Rp) rfl ?_;refine bz ?_;refine ay rfl (qu HT (l:=P.2.2) hbP.cons.cons aa) fun A75 c75=>?_;refine fN (bS cD rfl aV rfl aB cw aa aa) fun A76 c76=>?_;refine bJ ?_;have rK:(B6++cX P.2.2).length=B6.length+(cX P.2.2).length:=aY;refine av ⟨_,aa,q+1,A76,c76,B6++cX P.2.2,⟨aa,by rw[hft,aj0,bV],by rw[rK,kB];omega⟩,rfl,bp,.skip (ax ak ak (.refl _))⟩
    ·obtain rfl:q=AB.length:=by omega
     have aqr:B6=acc++G5 k m ch X:=by
      rw[aj0,fL ak,aci];rfl
     have asa:B6.length=(j+1)*Ld:=by rw[kB,aqr,aY,acS];omega
     refine bJ ?_;refine ai rfl (yI h) ?_;refine ab (bP (i:=k*ch) (size:=1) underlying27 ag rfl rfl rfl aa) rfl ?_;refine bF ?_;have Bx:(R.drop D).length=(S-(j+1))*D:=by rw[iG];omega
     have hcut:=U6.cut (k:=D) aa;rw[cE,jt]at hcut;have acm:R.length-D=(R.drop D).length:=by rw[iG]
     rw[acm]at hcut;rw[←hD,acm,cE D];refine av ⟨_,aa,j+1,R.drop D,_,_,Aq,cq,B6,(by exact⟨hjS,Bx,aa,hcut,asa,by rw[aqr,bV];exact mE⟩),rfl,bp,.cons (.cons Rb)⟩
  ·have hjS:j=S:=by
    refine bH fun hh=>?_;have:1*D≤(S-j)*D:=ow _ aa;omega
   subst hjS;rw[nx]at mE;have tT:acc=ue k m ch j (sg k ch b):=by rw[←mE];simp[ue]
   refine de ?_;refine aq (.cons (.skip hKF)) ?_;refine aF ?_;rw[e,←tT];exact⟨Ao,co,rfl,rfl⟩
end
section
variable{ch:Nat}
theorem aaS{P:Prop}(h:P:=by(rw[Ly];simp[bx])):P:=h
theorem zo{P:eh}{l:al}(hb:aJ B w0 F 1 (.slice A n c) n P.Co)(hP:∀x∈P,aJ B w0 F 1 x.1 x.2.length (bv x.2))(hn:n=P.length)(mF:P.all=l)(hlen:l.length≤1099511627776)(D6:P.length≤1099511627776):
  a_ B w0 93 [.slice A n c] F (fun r L=>∃A' c',r= .slice A' l.length c'∧L= .own 5 1 A' l.length c' (bv l)::F):=by
 subst mF;exact dL.AE fun w hw=>MF (B:=w.heap.size) w hn (hb w hw) (fun x hx=>hP x hx w hw) (gj _) hlen D6
abbrev Gm(g:Nat)(k m ch:Nat)(vo vb:Value)(at_:Nat):Ch:=.bD g 280 [ah (k:Int),ah (m:Int),ah (ch:Int),vo,vb,ah (at_:Int)]
def B7(x:al)(at_:Nat)(bad:bf):bf:=if (aI x).2≠0 then bad++[at_] else bad
theorem amY(HT:bI B w0){x:al}{vo:Value}{bad:bf}{at_:Nat}(hx:eM B w0 F A c x)(P_:x.length≤1000000000)(GI:at_≤1000000000)(c_:bad.length≤1000000000):
  a_ B w0 242 [br g,.slice A x.length c] (Gm g k m ch vo (.slice A1 bad.length c1) at_:: .own 3 1 A1 bad.length c1 (bx bad)::F)
   (fun v L=>∃A' c' Ab cb,v= .tuple #[.slice A' (aI x).1.length c',.bool (decide ((aI x).2=0))]∧L= .own 5 1 A' (aI x).1.length c' (bv (aI x).1)::Gm g k m ch vo (.slice Ab (B7 x at_ bad).length cb) (at_+1):: .own 3 1 Ab (B7 x at_ bad).length cb (bx (B7 x at_ bad))::F):=by
 refine fw func242 38 [0,1] ?_;refine bQ ?_;refine ay rfl (wz HT (l:=x) hx.cons.cons aa) fun wh F6=>?_;refine bL ?_;refine d_ (fun zf zL=>∃(Ab:bj) (cb:Nat),Sub zf [(0,br g),(6,.slice wh (aI x).1.length F6),(7,ah (aI x).2)]∧Wk zL (.own 5 1 wh (aI x).1.length F6 (bv (aI x).1)::Gm g k m ch vo (.slice Ab (B7 x at_ bad).length cb) at_:: .own 3 1 Ab (B7 x at_ bad).length cb (bx (B7 x at_ bad))::F)) ?_ ?_
 ·refine bz ?_;refine aj (fun kg=>?_) fun kg=>?_
  ·have Ly:B7 x at_ bad=bad++[at_]:=by unfold B7;rw[ao kg]
   refine cF F ?_;refine ae 0 ?_;refine ae 1 ?_;refine ae 2 ?_;refine ae 3 ?_;refine ae 5 ?_;refine ae 6 ?_;refine ae 7 ?_;refine gV 4 8 ?_ ?_
   ·refine aF ?_;refine az 8 ?_;refine aF ?_;refine az 9 ?_;refine cR rfl (aG fJ [_] rfl rfl cw aa aa) fun Bi=>?_;refine az 10 ?_;refine eV rfl (bS fJ rfl aV rfl aB cw aa aa) fun G' Ls=>?_;refine ae 11 ?_;refine ae 12 ?_;refine az 13 ?_;refine aF ?_;refine cQ [0,6,7] ?_;exact bC ⟨G',Ls,bp,.skip (.cons (bq (by rw[Ly,aY];rfl) (ax (by rw[Ly];simp) aaS (.refl _))))⟩
   ·refine aF ?_;refine gV 4 9 ?_ ?_
    ·refine aF ?_;refine az 9 ?_;refine cR rfl (aG fJ [_] rfl rfl cw aa aa) fun Bi=>?_;refine az 10 ?_;refine eV rfl (bS fJ rfl aV rfl aB cw aa aa) fun G' Ls=>?_;refine ae 11 ?_;refine ae 12 ?_;refine az 13 ?_;refine aF ?_;refine cQ [0,6,7] ?_;exact bC ⟨G',Ls,bp,.skip (.cons (bq (by rw[Ly,aY];rfl) (ax (by rw[Ly];simp) aaS (.refl _))))⟩
    ·refine cR rfl (aG fJ [_] rfl rfl cw aa aa) fun Bi=>?_;refine az 4 ?_;refine aF ?_;refine az 10 ?_;refine eV rfl (bS fJ rfl aV rfl aB cw aa aa) fun G' Ls=>?_;refine ae 11 ?_;refine ae 12 ?_;refine az 13 ?_;refine aF ?_;refine cQ [0,6,7] ?_;exact bC ⟨G',Ls,bp,.skip (.cons (bq (by rw[Ly,aY];rfl) (ax (by rw[Ly];simp) aaS (.refl _))))⟩
  ·have Ly:B7 x at_ bad=bad:=by unfold B7;rw[aw kg]
   refine aF ?_;exact bC ⟨A1,c1,bp,.cons (bq (by rw[Ly]) (ax (by rw[Ly]) (by rw[Ly]) (.refl _)))⟩
 ·rintro _ _ ⟨Ab,cb,hs,hp⟩;refine aU hs hp ?_;clear hs hp;refine bz ?_;refine ab (bY rfl rfl (r:=((at_+1:Nat):Int)) ((bE aa aa).trans aa)) rfl ?_;refine jS ?_;exact⟨wh,F6,Ab,cb,rfl,rfl⟩
end
end Go.Proofs.YtaodmbolhoafcaaGreatDoor
