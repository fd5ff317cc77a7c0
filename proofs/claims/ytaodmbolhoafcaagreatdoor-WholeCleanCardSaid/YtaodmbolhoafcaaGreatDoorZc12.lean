/-
  Texts of one proof, joined: part 12. No condition.
-/
import Derived.Test.YtaodmbolhoafcaaGreatDoorZc11
import Derived.Lib.AppendZeros
open Go.RowKit Go.Proofs.Tryz
namespace Go.Proofs.YtaodmbolhoafcaaGreatDoor
set_option linter.unusedVariables false
set_option linter.unusedSimpArgs false
set_option maxRecDepth 20000
variable{B:Nat}{w0:World}{F L0:aP}{A A1 A2 Ao:bj}{n c c1 c2 co g gc:Nat}{X:cV}{bt:TypeId}{v0 v1 v2 v3 v4 v5 v6 v7 v8 v9:Value}{f:Ch→aP}{r k m N:Nat}{cs:cV}{o:Nat}{A3 A4 A5 A6 Af:bj}{c3 c4 c5 c6 cf:Nat}{va:Value}
section
structure CU(B:Nat)(w0:World)(L:aP)(g:Nat)(x:ir):Prop where
 bo:∃(A1:bj) (c1:Nat) (A2:bj) (c2:Nat) (A3:bj) (c3:Nat) (A4:bj) (c4:Nat) (A5:bj) (c5:Nat) (A6:bj) (c6:Nat) (LL:List rG) (Af:bj) (cf:Nat) (FB:List kO) (va:Value),
  Bo g (.slice A1 x.ns.length c1) (.slice A2 x.ss.length c2) (ah x.c) (ah x.i) (.slice A3 x.times.length c3) (.slice A4 x.levels.length c4) (.slice A5 x.T.length c5) (.slice A6 LL.length c6) (.slice Af FB.length cf) va∈L∧
  aJ B w0 L 1 (.slice A1 x.ns.length c1) x.ns.length (bx x.ns)∧aJ B w0 L 1 (.slice A3 x.times.length c3) x.times.length (pZ x.times)∧aJ B w0 L 1 (.slice A4 x.levels.length c4) x.levels.length (bv x.levels)∧
  aJ B w0 L 1 (.slice A5 x.T.length c5) x.T.length (strs x.T)∧aJ B w0 L 1 (.slice A6 LL.length c6) LL.length (LL.map jM)∧(∀e∈LL,aJ B w0 L 1 (jM e) e.2.2.length (bx e.2.2))∧LL.map (·.2.2)=x.I∧
  aJ B w0 L 1 (.slice Af FB.length cf) FB.length (FB.map dq)∧(∀e∈FB,aJ B w0 L 1 (dq e) e.2.2.length (bv e.2.2))∧FB.map (·.2.2)=x.bB
theorem CU.mono{x:ir}{L M:aP}(h:CU B w0 L g x)(hs:L.Sublist M):CU B w0 M g x:=by
 obtain⟨A1,c1,A2,c2,A3,c3,A4,c4,A5,c5,A6,c6,LL,Af,cf,FB,va,h1,h2,h3,h4,h5,h6,h7,h8,h9,jF,pg⟩:=h;exact⟨A1,c1,A2,c2,A3,c3,A4,c4,A5,c5,A6,c6,LL,Af,cf,FB,va,hs.subset h1,h2.mono hs,h3.mono hs,h4.mono hs,h5.mono hs,h6.mono hs,fun e he=>(h7 e he).mono hs,h8,h9.mono hs,fun e he=>(jF e he).mono hs,pg⟩
theorem MO{m:Nat}:∀(f:Nat) (s:Cs) (ns ss:bf),ns.length=ss.length→(sZ m f s ns ss).1.length=(sZ m f s ns ss).2.1.length∧(sZ m f s ns ss).1.length≤ns.length+f
 |0,s,ns,ss,h=>by rw[sZ];exact⟨h,ak⟩
 |f+1,s,ns,ss,h=>by
  rw[sZ];split
  ·exact⟨h,cZ⟩
  ·have:=MO (m:=m) f ((s.bX m).bX 8388608) (ns++[s.int m]) (ss++[(s.bX m).int 8388608]) (by simp[h]);rw[aY,p_]at this;exact⟨this.1,by have:=this.2;omega⟩
theorem JX(d:al):(fa d).1.length=(fa d).2.1.length∧(fa d).1.length≤20000:=by
 have hR:=DG d;have hB:((Lu d:Nat):Int)≤Cw d:=Cs.gx _ aa aa;have:=MO (m:=Cw d) (Lu d) (dr2 d) [] [] rfl;unfold fa;exact⟨this.1,by have:=this.2;simp only[r_]at this;omega⟩
theorem DF{d:al}{room:Nat}(h:Gy d room=0):(fa d).1.sum=Cw d∧(fa d).2.1.sum+Cu d+drI d=room∧0∉(fa d).1:=by
 unfold Gy at h;split at h
 ·rename_i h1;exact absurd h h1
 ·split at h
  ·cases h
  ·rename_i h2;exact⟨bH fun k=>h2 (.inr (.inl k)),bH fun k=>h2 (.inr (.inr k)),fun k=>h2 (.inl k)⟩
theorem ME(HT:bI B w0){ch:al}{k n:Nat}(hn:n=ch.length)(hb:aJ B w0 F 1 (.slice A n c) n (bv ch))(hl:ch.length≤1000000000)(hk:k≤1000000000)(h:xE k ch≠0):
  a_ B w0 181 [.pointer (some ⟨g,4,none⟩),ah k,.slice A n c] (Bo g v0 v1 v2 v3 v4 v5 v6 v7 v8 v9::F) (fun r L=>r=ah (xE k ch)∧L=Bo g v0 v1 v2 v3 v4 v5 v6 v7 v8 v9::F):=by
 subst hn;exact(HO HT hb hl hk).mono fun r L h'=>⟨h'.1,h'.2.elim (fun q=>q.2) fun q=>absurd q.1 h⟩
theorem QH(HT:bI B w0){ch:al}{k n:Nat}(hn:n=ch.length)(hb:aJ B w0 F 1 (.slice A n c) n (bv ch))(hl:ch.length≤1000000000)(hk:k≤1000000000)(h:xE k ch=0):
  a_ B w0 181 [.pointer (some ⟨g,4,none⟩),ah k,.slice A n c] (Bo g v0 v1 v2 v3 v4 v5 v6 v7 v8 v9::F) (fun r L=>r=ah 0∧∃(A1:bj) (c1:Nat) (A2:bj) (c2:Nat),L=Bo g v0 v1 v2 v3 (.slice A1 (nW k (aI ch).1).1.length c1) (.slice A2 (nW k (aI ch).1).2.1.length c2) v6 v7 v8 v9:: .own 60 1 A1 (nW k (aI ch).1).1.length c1 (pZ (nW k (aI ch).1).1):: .own 5 1 A2 (nW k (aI ch).1).2.1.length c2 (bv (nW k (aI ch).1).2.1)::F):=by
 subst hn;exact(HO HT hb hl hk).mono fun r L h'=>⟨by rw[h'.1,h],h'.2.elim (fun q=>absurd h q.1) fun q=>q.2⟩
section
variable{o:aR}{b:al}
theorem Jz(h:cB 2 (o2 o)≠0):ei o b=(.nil,cB 2 (o2 o)):=by unfold ei;rw[ao h]
theorem JA(h:¬cB 2 (o2 o)≠0)(h2:(fZ b).2.2≠0):ei o b=(.nil,(fZ b).2.2):=by unfold ei;rw[aw h,ao h2]
theorem JB(h:¬cB 2 (o2 o)≠0)(h2:¬(fZ b).2.2≠0)(h3:Gy (dT b) (qq b).length≠0):ei o b=(.nil,Gy (dT b) (qq b).length):=by unfold ei;rw[aw h,aw h2,ao h3]
theorem JC(h:¬cB 2 (o2 o)≠0)(h2:¬(fZ b).2.2≠0)(h3:¬Gy (dT b) (qq b).length≠0)(h4:xE (fa (dT b)).1.sum (wy b)≠0):ei o b=(.nil,xE (fa (dT b)).1.sum (wy b)):=by unfold ei;rw[aw h,aw h2,aw h3,ao h4]
theorem T7(h:¬cB 2 (o2 o)≠0)(h2:¬(fZ b).2.2≠0)(h3:¬Gy (dT b) (qq b).length≠0)(h4:¬xE (fa (dT b)).1.sum (wy b)≠0)(h5:(aI (vw b)).2≠0):ei o b=(.nil,(aI (vw b)).2):=by unfold ei;rw[aw h,aw h2,aw h3,aw h4,ao h5]
theorem T8(h:¬cB 2 (o2 o)≠0)(h2:¬(fZ b).2.2≠0)(h3:¬Gy (dT b) (qq b).length≠0)(h4:¬xE (fa (dT b)).1.sum (wy b)≠0)(h5:¬(aI (vw b)).2≠0)(h6:(ey o.2.2.1 ((fa (dT b)).1.sum:Nat) (aI (vw b)).1).2.2≠0):ei o b=(.nil,(ey o.2.2.1 ((fa (dT b)).1.sum:Nat) (aI (vw b)).1).2.2):=by unfold ei;rw[aw h,aw h2,aw h3,aw h4,aw h5,ao h6]
def ak8(o:aR)(b:al):ir:=⟨(fa (dT b)).1,(fa (dT b)).2.1,Cu (dT b),drI (dT b),(nW ((fa (dT b)).1.sum:Nat) (aI (wy b)).1).1,(nW ((fa (dT b)).1.sum:Nat) (aI (wy b)).1).2.1,
 (ey o.2.2.1 ((fa (dT b)).1.sum:Nat) (aI (vw b)).1).1,(ey o.2.2.1 ((fa (dT b)).1.sum:Nat) (aI (vw b)).1).2.1,rz (fa (dT b)).2.1 (qq b)⟩
theorem T9(h:¬cB 2 (o2 o)≠0)(h2:¬(fZ b).2.2≠0)(h3:¬Gy (dT b) (qq b).length≠0)(h4:¬xE (fa (dT b)).1.sum (wy b)≠0)(h5:¬(aI (vw b)).2≠0)(h6:¬(ey o.2.2.1 ((fa (dT b)).1.sum:Nat) (aI (vw b)).1).2.2≠0):ei o b=(ak8 o b,0):=by unfold ei;rw[aw h,aw h2,aw h3,aw h4,aw h5,aw h6];rfl
end
def Xa(e:Int)(F:aP)(r:Value)(L:aP):Prop:=r= .tuple #[.pointer none,ah e]∧L=F
def anU(x:ir)(B:Nat)(w0:World)(F:aP)(r:Value)(L:aP):Prop:=∃g N,r= .tuple #[br g,ah 0]∧L=N++F∧CU B w0 N g x
theorem agx{o:aR}{b:al}(h:cB 2 (o2 o)≠0):a_ B w0 111 [.agg (aR.cells o).toArray,.slice A b.length c] F (Xa (ei o b).2 F):=by
 rw[Jz h];obtain⟨bl,pl,bu,da,pa,ch⟩:=o;refine ct func111 90 rfl rfl rfl [(0,.agg #[ah bl,.bool pl,ah bu,ah da,ah pa,ah ch]),(1,.slice A b.length c)] ⟨⟨rfl,rfl⟩,⟨rfl,rfl⟩,trivial⟩ ?_;refine be ?_;refine bh fun g2=>?_;refine bJ ?_;refine ai rfl (nt (bl,pl,bu,da,pa,ch)) ?_;refine bQ ?_;refine aj (fun jk=>?_) fun jk=>?_
 ·refine bQ ?_;refine aq (.skip (.refl _)) ?_;refine aF ?_;exact⟨rfl,rfl⟩
 ·exfalso;exact jk h
theorem agy(HT:bI B w0){o:aR}{b:al}(hb:eM B w0 F A c b)(c_:b.length≤1000000)(h:¬cB 2 (o2 o)≠0)(h2:(fZ b).2.2≠0):a_ B w0 111 [.agg (aR.cells o).toArray,.slice A b.length c] F (Xa (ei o b).2 F):=by
 rw[JA h h2];obtain⟨bl,pl,bu,da,pa,ch⟩:=o;refine ct func111 90 rfl rfl rfl [(0,.agg #[ah bl,.bool pl,ah bu,ah da,ah pa,ah ch]),(1,.slice A b.length c)] ⟨⟨rfl,rfl⟩,⟨rfl,rfl⟩,trivial⟩ ?_;refine be ?_;refine bh fun g2=>?_;refine bJ ?_;refine ai rfl (nt (bl,pl,bu,da,pa,ch)) ?_;refine bQ ?_;refine aj (fun jk=>?_) fun jk=>?_
 ·exfalso;exact h jk
 ·refine bG ?_;refine aX Um rfl (J8 HT hb.cons aa) rfl ?_;rintro _ _ ⟨Ar,cr,Ad,cd,Y,rfl,cA,RA,hbR,hbD⟩;obtain rfl:=cA.symm;refine jS ?_;refine aj (fun ka=>?_) fun ka=>?_
  ·refine bG ?_;refine ve [4,5] ?_;refine bF ?_;refine aq ((dv _ _).trans (.skip (.refl _))) ?_;refine aF ?_;exact⟨rfl,rfl⟩
  ·exfalso;exact ka h2
theorem uT(b:al):(fZ b).1.length≤b.length∧(fZ b).2.1.length≤b.length:=by
 unfold fZ;split
 ·exact⟨ak,ak⟩
 ·split
  ·exact⟨ak,ak⟩
  ·refine⟨by simp only[eS];omega,?_⟩;have:=oX ((b.take (b.length-4)).drop (b.length-4-ftK b));rw[iG,eS]at this;unfold ftD;simp only;omega
theorem agz(HT:bI B w0){o:aR}{b:al}(hb:eM B w0 F A c b)(c_:b.length≤1000000)(h:¬cB 2 (o2 o)≠0)(h2:¬(fZ b).2.2≠0)(h3:Gy (dT b) (qq b).length≠0):a_ B w0 111 [.agg (aR.cells o).toArray,.slice A b.length c] F (Xa (ei o b).2 F):=by
 rw[JB h h2 h3];obtain⟨bl,pl,bu,da,pa,ch⟩:=o;refine ct func111 90 rfl rfl rfl [(0,.agg #[ah bl,.bool pl,ah bu,ah da,ah pa,ah ch]),(1,.slice A b.length c)] ⟨⟨rfl,rfl⟩,⟨rfl,rfl⟩,trivial⟩ ?_;refine be ?_;refine bh fun g2=>?_;refine bJ ?_;refine ai rfl (nt (bl,pl,bu,da,pa,ch)) ?_;refine bQ ?_;refine aj (fun jk=>?_) fun jk=>?_
 ·exfalso;exact h jk
 ·refine bG ?_;refine aX Um rfl (J8 HT hb.cons aa) rfl ?_;rintro _ _ ⟨Ar,cr,Ad,cd,Y,rfl,cA,RA,hbR,hbD⟩;obtain rfl:=cA.symm;refine jS ?_;refine aj (fun ka=>?_) fun ka=>?_
  ·exfalso;exact h2 ka
  ·have GN:=og Y [.bD g2 23 [ah bl,.bool pl,ah bu,ah da,ah pa,ah ch]] F;refine fP GN ?_;have wG:=hbR.perm GN;have vy:=hbD.perm GN;have GP:Wk (Y++F) F:=dv Y F;obtain⟨K,hK⟩:=cN (Y++F);simp only[NY]at wG vy⊢;rw[←hK]at wG vy GP⊢;have eR:(fZ b).1=qq b:=rfl;have eD:(fZ b).2.1=dT b:=rfl;have hlr:=uT b;rw[eR,eD]at hlr;rw[eR]at wG RA⊢;rw[eD]at vy⊢;refine b8 ?_;refine ab (cj [.slice none 0 0,.slice none 0 0,ah 0,ah 0,.slice none 0 0,.slice none 0 0,.slice none 0 0,.slice none 0 0,.slice none 0 0,.slice none 0 0] ag) rfl ?_;refine bh fun g30=>?_;refine aF ?_;refine ve [2,7,8,10] ?_;refine bA ?_;refine aX abp rfl (zw (d:=dT b) (room:=(qq b).length) vy aa aa) rfl ?_;rintro _ _ ⟨rfl,A1,c1,A2,c2,cA⟩;obtain rfl:=cA.symm;refine bQ ?_;refine aj (fun Lx=>?_) fun Lx=>?_
   ·refine bQ ?_;refine aq (.skip (.skip (.skip (.skip GP)))) ?_;refine aF ?_;exact⟨rfl,rfl⟩
   ·exfalso;exact Lx h3
theorem agA(HT:bI B w0){o:aR}{b:al}(hb:eM B w0 F A c b)(c_:b.length≤1000000)(h:¬cB 2 (o2 o)≠0)(h2:¬(fZ b).2.2≠0)(h3:¬Gy (dT b) (qq b).length≠0)(h4:xE (fa (dT b)).1.sum (wy b)≠0):a_ B w0 111 [.agg (aR.cells o).toArray,.slice A b.length c] F (Xa (ei o b).2 F):=by
 rw[JC h h2 h3 h4];obtain⟨bl,pl,bu,da,pa,ch⟩:=o;refine ct func111 90 rfl rfl rfl [(0,.agg #[ah bl,.bool pl,ah bu,ah da,ah pa,ah ch]),(1,.slice A b.length c)] ⟨⟨rfl,rfl⟩,⟨rfl,rfl⟩,trivial⟩ ?_;refine be ?_;refine bh fun g2=>?_;refine bJ ?_;refine ai rfl (nt (bl,pl,bu,da,pa,ch)) ?_;refine bQ ?_;refine aj (fun jk=>?_) fun jk=>?_
 ·exfalso;exact h jk
 ·refine bG ?_;refine aX Um rfl (J8 HT hb.cons aa) rfl ?_;rintro _ _ ⟨Ar,cr,Ad,cd,Y,rfl,cA,RA,hbR,hbD⟩;obtain rfl:=cA.symm;refine jS ?_;refine aj (fun ka=>?_) fun ka=>?_
  ·exfalso;exact h2 ka
  ·have GN:=og Y [.bD g2 23 [ah bl,.bool pl,ah bu,ah da,ah pa,ah ch]] F;refine fP GN ?_;have wG:=hbR.perm GN;have vy:=hbD.perm GN;have GP:Wk (Y++F) F:=dv Y F;obtain⟨K,hK⟩:=cN (Y++F);simp only[NY]at wG vy⊢;rw[←hK]at wG vy GP⊢;have eR:(fZ b).1=qq b:=rfl;have eD:(fZ b).2.1=dT b:=rfl;have hlr:=uT b;rw[eR,eD]at hlr;rw[eR]at wG RA⊢;rw[eD]at vy⊢;refine b8 ?_;refine ab (cj [.slice none 0 0,.slice none 0 0,ah 0,ah 0,.slice none 0 0,.slice none 0 0,.slice none 0 0,.slice none 0 0,.slice none 0 0,.slice none 0 0] ag) rfl ?_;refine bh fun g30=>?_;refine aF ?_;refine ve [2,7,8,10] ?_;refine bA ?_;refine aX abp rfl (zw (d:=dT b) (room:=(qq b).length) vy aa aa) rfl ?_;rintro _ _ ⟨rfl,A1,c1,A2,c2,cA⟩;obtain rfl:=cA.symm;refine bQ ?_;refine aj (fun Lx=>?_) fun Lx=>?_
   ·exfalso;exact h3 Lx
   ·have hz:=DF (bH h3);have hdl:=JX (dT b);have Yg:=DG (dT b);have acn:aJ B w0 (.own 3 1 A1 (fa (dT b)).1.length c1 (bx (fa (dT b)).1):: .own 3 1 A2 (fa (dT b)).2.1.length c2 (bx (fa (dT b)).2.1):: .bD g2 23 [ah bl,.bool pl,ah bu,ah da,ah pa,ah ch]::K) 1 (.slice Ar (qq b).length cr) (qq b).length (bv (qq b)):=wG.cons.cons;refine bz ?_;refine aX ajG rfl (Mn (ss:=(fa (dT b)).2.1) (cc:=Cu (dT b)) (r:=qq b) acn RA (aJ.own (.tail _ (.head _))) aa aa aa) rfl ?_;rintro _ _ ⟨Af,cf,Ac,cc1,Ai,ci1,FB,rfl,cA,sH,hbC,hbI⟩;obtain rfl:=cA.symm;refine bG ?_;refine ve [2,10,12,13] ?_;refine be ?_;have acN:=og (FB.map fq) [.own 3 1 A1 (fa (dT b)).1.length c1 (bx (fa (dT b)).1),.own 3 1 A2 (fa (dT b)).2.1.length c2 (bx (fa (dT b)).2.1),.bD g2 23 [ah bl,.bool pl,ah bu,ah da,ah pa,ah ch]] K;refine fP ((acN.cons _).cons _) ?_;obtain⟨K2,Rb⟩:=cN (FB.map fq++K);have acV:Wk K2 F:=by rw[Rb];exact(dv _ _).trans GP
    have RB:(.own 3 1 A1 (fa (dT b)).1.length c1 (bx (fa (dT b)).1):: .own 3 1 A2 (fa (dT b)).2.1.length c2 (bx (fa (dT b)).2.1):: .bD g2 23 [ah bl,.bool pl,ah bu,ah da,ah pa,ah ch]::K).Sublist (.own 3 1 A1 (fa (dT b)).1.length c1 (bx (fa (dT b)).1):: .own 3 1 A2 (fa (dT b)).2.1.length c2 (bx (fa (dT b)).2.1):: .bD g2 23 [ah bl,.bool pl,ah bu,ah da,ah pa,ah ch]::K2):=by rw[Rb];exact((gy _ _).cons_cons _ |>.cons_cons _).cons_cons _
    have Re:=hbC.mono RB;have Rf:=hbI.mono RB;have alI:∀e∈FB,aJ B w0 K2 1 (dq e) e.2.2.length (bv e.2.2):=fun e he=>by rw[Rb];exact aJ.own (j8 _ (jc (f:=fq) he))
    clear hbC hbI RB acN acn wG vy;simp only[nC,nA];rw[←Rb];have eC:((qq b).drop (fa (dT b)).2.1.sum).take (Cu (dT b))=wy b:=rfl;have eI:((qq b).drop (fa (dT b)).2.1.sum).drop (Cu (dT b))=vw b:=rfl;rw[eC]at Re;rw[eI]at Rf;have lC:Cu (dT b)=(wy b).length:=by rw[←eC,eS,iG];omega
    have lI:(qq b).length-(fa (dT b)).2.1.sum-Cu (dT b)=(vw b).length:=by rw[←eI,iG,iG]
    rw[lI]at Rf⊢;obtain⟨fl,l0⟩:=cN ((fa (dT b)).2.1.length);rw[←l0]at Re Rf⊢;refine bL ?_;refine cC (fb SO rfl rfl rfl rfl rfl aa aa aa) fun A53=>?_;refine bL ?_;refine cF K2 ?_;refine ae 0 ?_;refine ae 1 ?_;refine ae 2 ?_;refine ae 3 ?_;refine ae 5 ?_;refine az 4 ?_;refine iW rfl rfl ((Jw (ns:=(fa (dT b)).1) aB aa aa).jg ((l6 (fR (.refl _))))) ?_;refine az 6 ?_;refine iW rfl rfl (.perm (ME HT (ch:=wy b) lC Re.cons.cons (by rw[←lC];omega) aa h4) ((l6 (fR (.refl _))))) ?_;refine ae 7 ?_;refine cQ [2,10,13,14] ?_;refine bL ?_;refine aj (fun h64=>?_) fun h64=>?_
    ·refine bQ ?_;refine aq (.skip (.skip (.skip (.skip (.skip (.skip acV)))))) ?_;refine aF ?_;exact⟨rfl,rfl⟩
    ·exfalso;exact h64 h4
theorem VY{size bound:Int}{x:Ch}{b:al}(hb:aJ B w0 (x::F) 1 (.slice A b.length c) b.length (bv b))(c_:b.length≤1000000):
  a_ B w0 183 [ah size,ah bound,.slice A b.length c] (x::F) (fun r L=>∃(A1:bj) (c1:Nat) (A2:bj) (c2:Nat) (LL:List rG),r= .tuple #[Gh A1 (ey size bound b).1.length c1 A2 LL.length c2,ah (ey size bound b).2.2]∧LL.map (·.2.2)=(ey size bound b).2.1∧
   L=x:: .own 9 1 A1 (ey size bound b).1.length c1 (strs (ey size bound b).1):: .own 53 1 A2 LL.length c2 (LL.map jM)::(LL.map jL++F)):=
 (aip hb c_).K9 fun v M ⟨A1,c1,A2,c2,LL,h1,h2,h3⟩=>by
  subst h3;refine⟨_,.dD ?_,A1,c1,A2,c2,LL,h1,h2,rfl⟩;exact og (_::_::LL.map jL) [x] F
def anT(R:ir×Int)(B:Nat)(w0:World)(F:aP)(r:Value)(L:aP):Prop:=(R.2≠0∧Xa R.2 F r L)∨(R.2=0∧anU R.1 B w0 F r L)
theorem LW{h a b x1 t l x2 f s1 s2 x3:Ch}{R P Y F:aP}:h::a::b::(R++(x1::t::l::x2::f::s1::s2::x3::(P++(Y++F))))=(h::a::b::(R++(x1::t::l::x2::f::s1::s2::x3::(P++Y))))++F:=by
 simp only[nC,bV]
theorem Mj{o:aR}{b:al}{fl c1 c2 c3 c4 c5 c6 cf:Nat}{A1 A2 A3 A4 A5 A6 Af:bj}{LL:List rG}{FB:List kO}{va:Value}{K2:aP}{x1 x2 x3:Ch}(l0:fl=(fa (dT b)).2.1.length)(sH:FB.map (·.2.2)=rz (fa (dT b)).2.1 (qq b))(cA:LL.map (·.2.2)=(ey o.2.2.1 ((fa (dT b)).1.sum:Nat) (aI (vw b)).1).2.1)(alI:∀e∈FB,aJ B w0 K2 1 (dq e) e.2.2.length (bv e.2.2)):
  CU B w0 (Bo g (.slice A1 (fa (dT b)).1.length c1) (.slice A2 fl c2) (ah (Cu (dT b))) (ah (drI (dT b))) (.slice A3 (nW ((fa (dT b)).1.sum:Nat) (aI (wy b)).1).1.length c3) (.slice A4 (nW ((fa (dT b)).1.sum:Nat) (aI (wy b)).1).2.1.length c4) (.slice A5 (ey o.2.2.1 ((fa (dT b)).1.sum:Nat) (aI (vw b)).1).1.length c5) (.slice A6 LL.length c6) (.slice Af fl cf) va::
   .own 9 1 A5 (ey o.2.2.1 ((fa (dT b)).1.sum:Nat) (aI (vw b)).1).1.length c5 (strs (ey o.2.2.1 ((fa (dT b)).1.sum:Nat) (aI (vw b)).1).1):: .own 53 1 A6 LL.length c6 (LL.map jM)::
   (LL.map jL++(x1:: .own 60 1 A3 (nW ((fa (dT b)).1.sum:Nat) (aI (wy b)).1).1.length c3 (pZ (nW ((fa (dT b)).1.sum:Nat) (aI (wy b)).1).1):: .own 5 1 A4 (nW ((fa (dT b)).1.sum:Nat) (aI (wy b)).1).2.1.length c4 (bv (nW ((fa (dT b)).1.sum:Nat) (aI (wy b)).1).2.1)::x2:: .own 27 1 Af fl cf (FB.map dq):: .own 3 1 A1 (fa (dT b)).1.length c1 (bx (fa (dT b)).1):: .own 3 1 A2 fl c2 (bx (fa (dT b)).2.1)::x3::K2))) g (ak8 o b):=by
 have hfb:FB.length=fl:=by have:=ek List.length sH;rw[eK,uE]at this;omega
 subst hfb;refine⟨A1,c1,A2,c2,A3,c3,A4,c4,A5,c5,A6,c6,LL,Af,cf,FB,va,?_,?_,?_,?_,?_,?_,?_,cA,?_,?_,sH⟩
 ·show Bo g (.slice A1 (fa (dT b)).1.length c1) (.slice A2 (fa (dT b)).2.1.length c2) _ _ _ _ _ _ _ _∈_;rw[←l0];exact .head _
 ·exact aJ.own (.tail _ (.tail _ (.tail _ (ny _ (.tail _ (.tail _ (.tail _ (.tail _ (.tail _ (.head _))))))))))
 ·exact aJ.own (.tail _ (.tail _ (.tail _ (ny _ (.tail _ (.head _))))))
 ·exact aJ.own (.tail _ (.tail _ (.tail _ (ny _ (.tail _ (.tail _ (.head _)))))))
 ·exact aJ.own (.tail _ (.head _))
 ·exact aJ.own (.tail _ (.tail _ (.head _)))
 ·exact fun e he=>aJ.own (.tail _ (.tail _ (.tail _ (j8 _ (jc (f:=jL) he)))))
 ·exact aJ.own (.tail _ (.tail _ (.tail _ (ny _ (.tail _ (.tail _ (.tail _ (.tail _ (.head _)))))))))
 ·exact fun e he=>(alI e he).mono (by
   refine .cons _ (.cons _ (.cons _ (.trans ?_ (gy _ _))));exact .cons _ (.cons _ (.cons _ (.cons _ (.cons _ (.cons _ (.cons _ (.cons _ (.refl _)))))))))
set_option maxHeartbeats 2000000 in
theorem agB(HT:bI B w0){o:aR}{b:al}(hb:eM B w0 F A c b)(c_:b.length≤1000000)(h:¬cB 2 (o2 o)≠0)(h2:¬(fZ b).2.2≠0)(h3:¬Gy (dT b) (qq b).length≠0)(h4:¬xE (fa (dT b)).1.sum (wy b)≠0):a_ B w0 111 [.agg (aR.cells o).toArray,.slice A b.length c] F (anT (ei o b) B w0 F):=by
 have h5a:=T7 h h2 h3 h4;have h6a:=T8 h h2 h3 h4;have h7a:=T9 h h2 h3 h4;obtain⟨bl,pl,bu,da,pa,ch⟩:=o;refine ct func111 90 rfl rfl rfl [(0,.agg #[ah bl,.bool pl,ah bu,ah da,ah pa,ah ch]),(1,.slice A b.length c)] ⟨⟨rfl,rfl⟩,⟨rfl,rfl⟩,trivial⟩ ?_;refine be ?_;refine bh fun g2=>?_;refine bJ ?_;refine ai rfl (nt (bl,pl,bu,da,pa,ch)) ?_;refine bQ ?_;refine aj (fun jk=>?_) fun jk=>?_
 ·exfalso;exact h jk
 ·refine bG ?_;refine aX Um rfl (J8 HT hb.cons aa) rfl ?_;rintro _ _ ⟨Ar,cr,Ad,cd,Y,rfl,cA,RA,hbR,hbD⟩;obtain rfl:=cA.symm;refine jS ?_;refine aj (fun ka=>?_) fun ka=>?_
  ·exfalso;exact h2 ka
  ·have GN:=og Y [.bD g2 23 [ah bl,.bool pl,ah bu,ah da,ah pa,ah ch]] F;refine fP GN ?_;have wG:=hbR.perm GN;have vy:=hbD.perm GN;have GP:Wk (Y++F) F:=dv Y F;obtain⟨K,hK⟩:=cN (Y++F);simp only[NY]at wG vy⊢;rw[←hK]at wG vy GP⊢;have eR:(fZ b).1=qq b:=rfl;have eD:(fZ b).2.1=dT b:=rfl;have hlr:=uT b;rw[eR,eD]at hlr;rw[eR]at wG RA⊢;rw[eD]at vy⊢;refine b8 ?_;refine ab (cj [.slice none 0 0,.slice none 0 0,ah 0,ah 0,.slice none 0 0,.slice none 0 0,.slice none 0 0,.slice none 0 0,.slice none 0 0,.slice none 0 0] ag) rfl ?_;refine bh fun g30=>?_;refine aF ?_;refine ve [2,7,8,10] ?_;refine bA ?_;refine aX abp rfl (zw (d:=dT b) (room:=(qq b).length) vy aa aa) rfl ?_;rintro _ _ ⟨rfl,A1,c1,A2,c2,cA⟩;obtain rfl:=cA.symm;refine bQ ?_;refine aj (fun Lx=>?_) fun Lx=>?_
   ·exfalso;exact h3 Lx
   ·have hz:=DF (bH h3);have hdl:=JX (dT b);have Yg:=DG (dT b);have acn:aJ B w0 (.own 3 1 A1 (fa (dT b)).1.length c1 (bx (fa (dT b)).1):: .own 3 1 A2 (fa (dT b)).2.1.length c2 (bx (fa (dT b)).2.1):: .bD g2 23 [ah bl,.bool pl,ah bu,ah da,ah pa,ah ch]::K) 1 (.slice Ar (qq b).length cr) (qq b).length (bv (qq b)):=wG.cons.cons;refine bz ?_;refine aX ajG rfl (Mn (ss:=(fa (dT b)).2.1) (cc:=Cu (dT b)) (r:=qq b) acn RA (aJ.own (.tail _ (.head _))) aa aa aa) rfl ?_;rintro _ _ ⟨Af,cf,Ac,cc1,Ai,ci1,FB,rfl,cA,sH,hbC,hbI⟩;obtain rfl:=cA.symm;refine bG ?_;refine ve [2,10,12,13] ?_;refine be ?_;have acN:=og (FB.map fq) [.own 3 1 A1 (fa (dT b)).1.length c1 (bx (fa (dT b)).1),.own 3 1 A2 (fa (dT b)).2.1.length c2 (bx (fa (dT b)).2.1),.bD g2 23 [ah bl,.bool pl,ah bu,ah da,ah pa,ah ch]] K;refine fP ((acN.cons _).cons _) ?_;obtain⟨K2,Rb⟩:=cN (FB.map fq++K);have acV:Wk K2 F:=by rw[Rb];exact(dv _ _).trans GP
    have RB:(.own 3 1 A1 (fa (dT b)).1.length c1 (bx (fa (dT b)).1):: .own 3 1 A2 (fa (dT b)).2.1.length c2 (bx (fa (dT b)).2.1):: .bD g2 23 [ah bl,.bool pl,ah bu,ah da,ah pa,ah ch]::K).Sublist (.own 3 1 A1 (fa (dT b)).1.length c1 (bx (fa (dT b)).1):: .own 3 1 A2 (fa (dT b)).2.1.length c2 (bx (fa (dT b)).2.1):: .bD g2 23 [ah bl,.bool pl,ah bu,ah da,ah pa,ah ch]::K2):=by rw[Rb];exact((gy _ _).cons_cons _ |>.cons_cons _).cons_cons _
    have Re:=hbC.mono RB;have Rf:=hbI.mono RB;have alI:∀e∈FB,aJ B w0 K2 1 (dq e) e.2.2.length (bv e.2.2):=fun e he=>by rw[Rb];exact aJ.own (j8 _ (jc (f:=fq) he))
    clear hbC hbI RB acN acn wG vy;simp only[nC,nA];rw[←Rb];have eC:((qq b).drop (fa (dT b)).2.1.sum).take (Cu (dT b))=wy b:=rfl;have eI:((qq b).drop (fa (dT b)).2.1.sum).drop (Cu (dT b))=vw b:=rfl;rw[eC]at Re;rw[eI]at Rf;have lC:Cu (dT b)=(wy b).length:=by rw[←eC,eS,iG];omega
    have lI:(qq b).length-(fa (dT b)).2.1.sum-Cu (dT b)=(vw b).length:=by rw[←eI,iG,iG]
    rw[lI]at Rf⊢;obtain⟨fl,l0⟩:=cN ((fa (dT b)).2.1.length);rw[←l0]at Re Rf⊢;refine bL ?_;refine cC (fb SO rfl rfl rfl rfl rfl aa aa aa) fun A53=>?_;refine bL ?_;refine cF K2 ?_;refine ae 0 ?_;refine ae 1 ?_;refine ae 2 ?_;refine ae 3 ?_;refine ae 5 ?_;refine az 4 ?_;refine iW rfl rfl ((Jw (ns:=(fa (dT b)).1) aB aa aa).jg ((l6 (fR (.refl _))))) ?_;refine az 6 ?_;refine gA rfl .no aoU rfl (.perm (QH HT (ch:=wy b) lC Re.cons.cons (by rw[←lC];omega) aa (bH h4)) ((l6 (fR (.refl _))))) rfl (by rintro _ _ ⟨rfl,A3,c3,A4,c4,rfl⟩;exact gF) ?_;rintro _ _ ⟨rfl,A3,c3,A4,c4,cA⟩;obtain rfl:=cA.symm;refine ae 7 ?_;refine cQ [2,10,13,14] ?_;refine bL ?_;refine dm fun h64=>?_;refine bz ?_;refine ay rfl (wz HT (l:=vw b) aB aa) fun A68 c68=>?_;refine de ?_;refine aj (fun Ye=>?_) fun Ye=>?_
    ·refine bQ ?_;refine aq (.skip (.skip (.skip (.skip (.skip (.skip (.skip (.skip (.skip acV))))))))) ?_;refine aF ?_;rw[h5a Ye];exact .inl ⟨Ye,rfl,rfl⟩
    ·refine b8 ?_;refine cF (([]:aP)) ?_;refine ae 0 ?_;refine ae 1 ?_;refine ae 3 ?_;refine ae 5 ?_;refine gV 2 4 ?_ ?_
     ·refine aF ?_;refine az 4 ?_;refine iW rfl rfl ((Jw (ns:=(fa (dT b)).1) aB aa aa).jg ((l6 (fR (.refl _))))) ?_;refine az 6 ?_;refine gA rfl .no ajH rfl (.perm (VY (b:=(aI (vw b)).1) (aJ.own (.tail _ (.head _))) (by have:=oX (vw b);omega)) ((l6 (fR (.refl _))))) rfl (by rintro _ _ ⟨A5,c5,A6,c6,LL,rfl,ack,rfl⟩;exact gF) ?_;rintro _ _ ⟨A5,c5,A6,c6,LL,rfl,ack,cA⟩;obtain rfl:=cA.symm;refine ae 7 ?_;refine ae 8 ?_;refine ae 9 ?_;refine ae 10 ?_;refine ae 11 ?_;refine az 12 ?_;refine kN rfl .no (pd 2 ag rfl rfl L4 aV rfl ak) Gr ?_;rintro _ _ rfl;refine ae 13 ?_;refine cQ [9,10] ?_;refine bL ?_;refine aj (fun h87=>?_) fun h87=>?_
      ·refine bQ ?_;refine aq (.skip (.skip (.skip ((dv _ _).trans (.skip (.skip (.skip (.skip (.skip (.skip (.skip (.skip acV)))))))))))) ?_;refine aF ?_;rw[h6a Ye h87];exact .inl ⟨h87,rfl,rfl⟩
      ·refine cY ?_;rw[h7a Ye h87];have hb3:∀e∈FB,aJ B w0 (FB.map fq++Y) 1 (dq e) e.2.2.length (bv e.2.2):=fun e he=>aJ.own (j8 _ (jc (f:=fq) he));rw[Rb,hK];exact .inr ⟨rfl,g30,_,rfl,LW,Mj (o:=(bl,pl,bu,da,pa,ch)) l0 sH ack hb3⟩
     ·refine iW rfl rfl ((Jw (ns:=(fa (dT b)).1) aB aa aa).jg ((l6 (fR (.refl _))))) ?_;refine az 2 ?_;refine aF ?_;refine az 6 ?_;refine gA rfl .no ajH rfl (.perm (VY (b:=(aI (vw b)).1) (aJ.own (.tail _ (.head _))) (by have:=oX (vw b);omega)) ((l6 (fR (.refl _))))) rfl (by rintro _ _ ⟨A5,c5,A6,c6,LL,rfl,ack,rfl⟩;exact gF) ?_;rintro _ _ ⟨A5,c5,A6,c6,LL,rfl,ack,cA⟩;obtain rfl:=cA.symm;refine ae 7 ?_;refine ae 8 ?_;refine ae 9 ?_;refine ae 10 ?_;refine ae 11 ?_;refine az 12 ?_;refine kN rfl .no (pd 2 ag rfl rfl L4 aV rfl ak) Gr ?_;rintro _ _ rfl;refine ae 13 ?_;refine cQ [9,10] ?_;refine bL ?_;refine aj (fun h87=>?_) fun h87=>?_
      ·refine bQ ?_;refine aq (.skip (.skip (.skip ((dv _ _).trans (.skip (.skip (.skip (.skip (.skip (.skip (.skip (.skip acV)))))))))))) ?_;refine aF ?_;rw[h6a Ye h87];exact .inl ⟨h87,rfl,rfl⟩
      ·refine cY ?_;rw[h7a Ye h87];have hb3:∀e∈FB,aJ B w0 (FB.map fq++Y) 1 (dq e) e.2.2.length (bv e.2.2):=fun e he=>aJ.own (j8 _ (jc (f:=fq) he));rw[Rb,hK];exact .inr ⟨rfl,g30,_,rfl,LW,Mj (o:=(bl,pl,bu,da,pa,ch)) l0 sH ack hb3⟩
theorem T_(HT:bI B w0){o:aR}{b:al}(hb:eM B w0 F A c b)(c_:b.length≤1000000):a_ B w0 111 [.agg (aR.cells o).toArray,.slice A b.length c] F (anT (ei o b) B w0 F):=by
 by_cases h:cB 2 (o2 o)≠0
 ·exact(agx h).mono fun r L hr=>.inl ⟨by rw[Jz h];exact h,hr⟩
 ·by_cases h2:(fZ b).2.2≠0
  ·exact(agy HT hb c_ h h2).mono fun r L hr=>.inl ⟨by rw[JA h h2];exact h2,hr⟩
  ·by_cases h3:Gy (dT b) (qq b).length≠0
   ·exact(agz HT hb c_ h h2 h3).mono fun r L hr=>.inl ⟨by rw[JB h h2 h3];exact h3,hr⟩
   ·by_cases h4:xE (fa (dT b)).1.sum (wy b)≠0
    ·exact(agA HT hb c_ h h2 h3 h4).mono fun r L hr=>.inl ⟨by rw[JC h h2 h3 h4];exact h4,hr⟩
    ·exact agB HT hb c_ h h2 h3 h4
end
theorem aqS{a b:Nat}(ha:a<9223372036854775808):IntKind.i64.wrap ((a:Int).tdiv (b:Int))=((a/b:Nat):Int):=by
 have e:(a:Int).tdiv (b:Int)=((a/b:Nat):Int):=(Int.ofNat_tdiv a b).symm;have h0:a/b<9223372036854775808:=NN (q_ a b) ha;rw[e];generalize a/b=x at h0;exact wrap_i64 _ aa aa
theorem TY{P:Prop}(h:P:=by(rw[hys];exact wM)):P:=h
theorem arc:((List.range 256).all fun a=>Nat.beq (a &&& 128) 0==Nat.blt a 128)=true:=by decide+kernel
theorem ard{a:Nat}(h:a<256):a &&& 128=0↔a<128:=by
 have:=x8.1 arc a (kz.2 h);have e:Nat.beq (a &&& 128) 0=Nat.blt a 128:=by simpa using this
 constructor
 ·intro k;rw[k]at e;exact(by simpa using e.symm)
 ·intro k;rw[show Nat.blt a 128=true by simpa using k]at e;exact ri e
theorem aq1(a:Nat):IntKind.u8.wrap ((a:Int)*2^min ((1:Int)).toNat IntKind.u8.bits)=((2*a%256:Nat):Int):=by
 show((a:Int)*2)%256=_;omega
theorem K_{a:Nat}(ha:a<256):a_ B w0 306 [.int .u8 (a:Int)] F (fun r L=>r= .int .u8 ((pQ a:Nat):Int)∧L=F):=by
 have h1:=ard ha;refine fw func306 11 [0] ?_;refine bQ ?_;refine ab (jY rfl rfl (r:=((a &&& 128:Nat):Int)) (an1 ha (b:=128) aA)) rfl ?_;refine bF ?_;refine aj (fun h5=>?_) fun h5=>?_
 ·have hc:¬a<128:=fun k=>h5 (by have:=h1.2 k;omega);have e:pQ a=(2*a%256) ^^^ 29:=by unfold pQ;rw[aw hc];congr 1;omega
  refine bF ?_;refine ab (ga rfl rfl aA (r:=((2*a%256:Nat):Int)) (aq1 a)) rfl ?_;refine ab (ly rfl rfl (r:=((pQ a:Nat):Int)) (by rw[e];exact ajt aa (b:=29) aA)) rfl ?_;refine bz ?_;exact⟨rfl,rfl⟩
 ·have hc:a<128:=h1.1 (by have:=bH h5;omega);have e:pQ a=2*a%256:=by unfold pQ;rw[ao hc];omega
  refine bG ?_;refine ab (ga rfl rfl aA (r:=((pQ a:Nat):Int)) (by rw[e];exact aq1 a)) rfl ?_;refine bG ?_;exact⟨rfl,rfl⟩
theorem VI(a o:Nat):∀f,fj f a 0 o=o
 |0=>rfl
 |f+1=>by unfold fj;rw[ao rfl]
theorem VF:∀(f b o:Nat),fj f 0 b o=o
 |0,_,_=>rfl
 |f+1,b,o=>by
  unfold fj;rw[show pQ 0=0 from rfl,VF f];split
  ·rfl
  ·split
   ·exact Nat.xor_zero o
   ·rfl
theorem akq(y:Nat):y >>> 1=y/2:=by rw[Vq]
theorem akT{n:Nat}(h:n<256):IntKind.u64.wrap ((BitVec.ofInt IntKind.u64.bits (n:Int) &&& BitVec.ofInt IntKind.u64.bits ((1:Nat):Int)).toNat:Int)=((n &&& 1:Nat):Int):=by
 have h1:n &&& 1=n%2:=En n;rw[akU (k:=.u64) (a:=n) (b:=1) (by show n<18446744073709551616;omega) aA];exact f_ aa aa
theorem Nj{f y:Nat}(h:y<2^f)(h0:y≠0):∃q,f=q+1:=by
 cases f with
 |zero=>simp at h;omega
 |succ q=>exact⟨q,rfl⟩
theorem Ka{a b:Nat}(ha:a<256)(hb:b<256):a_ B w0 305 [.int .u8 (a:Int),.int .u8 (b:Int)] F (fun r L=>r= .int .u8 ((fc a b:Nat):Int)∧L=F):=by
 refine fw func305 19 [0,1] ?_;refine cJ ?_;refine aE (fun zf zL zm=>∃(f x y o:Nat),(x<256∧y<2^f∧y<256∧o<256∧fj f x y o=fc a b)∧y=zm∧Sub zf [(0,.int .u8 (x:Int)),(1,.int .u8 (y:Int)),(5,.int .u8 (o:Int))]∧Wk zL (F)) _ ⟨8,a,b,0,⟨ha,hb,hb,aA,rfl⟩,rfl,bp,.refl _⟩ ?_;rintro _ _ _ ⟨f,x,y,o,⟨hx,hyf,hy,ho,hm⟩,rfl,hs,hp⟩;refine aU hs hp ?_;clear hs hp;refine bL ?_;refine aj (fun h7=>?_) fun h7=>?_
 ·obtain⟨f,rfl⟩:=Nj hyf aa;have hys:y >>> 1=y/2:=akq y;have hya:y &&& 1=y%2:=En y;have at6:y/2<2^f:=by rw[nD]at hyf;omega
  have wM:fj f (pQ x) (y/2) (if y%2=1 then o ^^^ x else o)=fc a b:=by rw[←hm];conv=>rhs;unfold fj;rw[aw (show¬y=0 by omega)]
  have hx2:=nR x hx;refine bJ ?_;refine ab (jY rfl rfl (r:=((y &&& 1:Nat):Int)) (an1 hy (b:=1) aA)) rfl ?_;refine bF ?_;refine aj (fun mA=>?_) fun mA=>?_
  ·rw[hya]at mA;rw[ao aa]at wM;have hox:=vp ho hx;refine bF ?_;refine ab (ly rfl rfl (r:=((o ^^^ x:Nat):Int)) (ajt ho hx)) rfl ?_;refine bG ?_;refine ai rfl (K_ hx) ?_;refine bz ?_;refine ab (dj rfl rfl aA (r:=((y >>> 1:Nat):Int)) (G4 y 1)) rfl ?_;refine be ?_;refine av ⟨_,aa,f,pQ x,y >>> 1,o ^^^ x,⟨hx2,aa,aa,hox,TY⟩,rfl,bp,.refl _⟩
  ·rw[hya]at mA;rw[aw aa]at wM;refine b8 ?_;refine ai rfl (K_ hx) ?_;refine bz ?_;refine ab (dj rfl rfl aA (r:=((y >>> 1:Nat):Int)) (G4 y 1)) rfl ?_;refine be ?_;refine av ⟨_,aa,f,pQ x,y >>> 1,o,⟨hx2,aa,aa,ho,TY⟩,rfl,bp,.refl _⟩
 ·obtain rfl:y=0:=by have:=bH h7;omega
  rw[VI]at hm;refine de ?_;exact⟨by rw[hm],rfl⟩
theorem ail(a o:Nat):∀f,tO f a 0 o=o
 |0=>rfl
 |f+1=>by unfold tO;rw[ao rfl]
theorem aqQ{a:Nat}(ha:a<256)(h0:a≠0):a_ B w0 274 [.int .u8 (a:Int),.int .u64 254] F (fun r L=>r= .int .u8 ((qT a:Nat):Int)∧L=F):=by
 have e0:tO 8 a 254 1=qT a:=by unfold qT;rw[aw h0]
 refine fw func274 28 [0,1] ?_;refine dQ ?_;refine dm fun h6=>?_;refine bL ?_;refine dm fun h9=>?_;refine cJ ?_;refine ab (nh rfl rfl aA (r:=254) aA) rfl ?_;refine b8 ?_;refine aE (fun zf zL zm=>∃(f x n o:Nat),(x<256∧n<2^f∧n<256∧o<256∧tO f x n o=qT a)∧n=zm∧Sub zf [(0,.int .u8 (x:Int)),(1,.int .u64 (n:Int)),(5,.int .u8 (o:Int))]∧Wk zL (F)) _ ⟨8,a,254,1,⟨ha,aA,aA,aA,e0⟩,rfl,bp,.refl _⟩ ?_;rintro _ _ _ ⟨f,x,n,o,⟨hx,hnf,hn,ho,hm⟩,rfl,hs,hp⟩;refine aU hs hp ?_;clear hs hp;refine bL ?_;refine aj (fun jG=>?_) fun jG=>?_
 ·obtain⟨f,rfl⟩:=Nj hnf aa;have hys:n >>> 1=n/2:=akq n;have hya:n &&& 1=n%2:=En n;have atS:n/2<2^f:=by rw[nD]at hnf;omega
  have wM:tO f (fc x x) (n/2) (if n%2=1 then fc o x else o)=qT a:=by rw[←hm];conv=>rhs;unfold tO;rw[aw (show¬n=0 by omega)]
  have hx2:=mul_lt x hx;refine bJ ?_;refine ab (jY rfl rfl (r:=((n &&& 1:Nat):Int)) (akT hn)) rfl ?_;refine bF ?_;refine aj (fun iY=>?_) fun iY=>?_
  ·rw[hya]at iY;rw[ao aa]at wM;have hox:=mul_lt x ho;refine bF ?_;refine ai rfl (Ka ho hx) ?_;refine bz ?_;refine ai rfl (Ka hx hx) ?_;refine bz ?_;refine ab (dj rfl rfl aA (r:=((n >>> 1:Nat):Int)) (G4 n 1)) rfl ?_;refine be ?_;refine av ⟨_,aa,f,fc x x,n >>> 1,fc o x,⟨hx2,aa,aa,hox,TY⟩,rfl,bp,.refl _⟩
  ·rw[hya]at iY;rw[aw aa]at wM;refine bG ?_;refine ai rfl (Ka hx hx) ?_;refine bz ?_;refine ab (dj rfl rfl aA (r:=((n >>> 1:Nat):Int)) (G4 n 1)) rfl ?_;refine be ?_;refine av ⟨_,aa,f,fc x x,n >>> 1,o,⟨hx2,aa,aa,ho,TY⟩,rfl,bp,.refl _⟩
 ·obtain rfl:n=0:=by omega
  rw[ail]at hm;refine de ?_;exact⟨by rw[hm],rfl⟩
theorem aj7{a:Nat}(ha:a<256):a_ B w0 236 [.int .u8 (a:Int)] F (fun r L=>r= .tuple #[.int .u8 ((qT a:Nat):Int),ah (if a=0 then 13 else 0)]∧L=F):=by
 refine fw func236 8 [0] ?_;refine de ?_;refine aj (fun h5=>?_) fun h5=>?_
 ·obtain rfl:a=0:=by omega
  refine bQ ?_;exact⟨rfl,rfl⟩
 ·have h0:a≠0:=by omega
  refine bG ?_;refine ai rfl (aqQ ha h0) ?_;refine bz ?_;exact⟨by rw[aw h0],rfl⟩
theorem IK:∀(f a b o:Nat),b<2^f→fj (f+1) a b o=fj f a b o
 |0,a,b,o,h=>by
  have:b=0:=by simpa using h
  subst this;rfl
 |f+1,a,b,o,h=>by
  rw[fj]
  conv=>rhs;rw[fj]
  split
  ·rfl
  ·exact IK f _ _ _ (by rw[nD]at h;omega)
theorem Y9(f:Nat){c i:Nat}(hc:c<256)(h1:1≤i)(hi:i/2<2^f):fj (f+1) c i 0=if i%2=1 then pQ (fj (f+1) c (i/2) 0) ^^^ c else pQ (fj (f+1) c (i/2) 0):=by
 have e1:fj (f+1) c i 0=fj f (pQ c) (i/2) (if i%2=1 then 0 ^^^ c else 0):=by rw[fj,aw aa]
 have e2:∀o,o<256→fj f (pQ c) (i/2) o=pQ (fj (f+1) c (i/2) 0) ^^^ o:=fun o ho=>by
  have h:=yu f (pQ c) 0 (i/2) 0 o (nR c hc) aA;rw[Nat.xor_zero,Nat.zero_xor,VF]at h;have h2:=KF f c (i/2) 0 hc aA;rw[show pQ 0=0 from rfl]at h2;rw[h,h2,IK f c (i/2) 0 hi]
 rw[e1];split
 ·rw[Nat.zero_xor,e2 c hc]
 ·rw[e2 0 aA,Nat.xor_zero]
theorem ady{c i:Nat}(hc:c<256)(hi:i<256)(h1:1≤i):fc c i=if i%2=1 then pQ (fc c (i/2)) ^^^ c else pQ (fc c (i/2)):=by
 unfold fc;exact Y9 7 hc h1 aa
def yH(c:Nat):List Int:=(List.range 256).map fun i=>((fc c i:Nat):Int)
theorem Fg(c:Nat):(yH c).length=256:=by simp[yH]
theorem Ff{c i:Nat}(hi:i<256):(yH c).getD i 0=((fc c i:Nat):Int):=by simp[yH,bk,hi]
theorem ahc{c:Nat}:fc c 0=0:=VI c 0 8
abbrev Rwb(g:Nat)(b:List Int):Ch:=.bD g 382 (ints .u8 b)
theorem yK{b:List Int}{i j:Nat}{v:Int}(hi:i<b.length):(b.set i v).getD j 0=if j=i then v else b.getD j 0:=by
 simp only[bk,BG];by_cases h:i=j
 ·subst h;simp[hi]
 ·rw[aw h,aw (Ne.symm h)]
theorem UY{c:Nat}(hc:c<256):a_ B w0 275 [.int .u8 (c:Int)] F (fun r L=>r= .agg (ints .u8 (yH c)).toArray∧L=F):=by
 refine fw func275 26 [0] ?_;refine be ?_;refine bc fun g2=>?_;refine b8 ?_;refine bc fun g3=>?_;refine bQ ?_;refine aE (fun zf zL zm=>∃(i:Nat) (b:List Int),(1≤i∧i≤256∧b.length=256∧∀j,j<i→b.getD j 0=((fc c j:Nat):Int))∧256-i=zm∧Sub zf [(0,.int .u8 (c:Int)),(2,br g2),(3,br g3),(4,ah (i:Int))]∧Wk zL (Rwb g3 b::Rwb g2 (List.replicate 256 0)::F)) _ ⟨1,List.replicate 256 0,⟨gj _,aA,rfl,fun j hj=>by
  obtain rfl:j=0:=by omega
  rw[ahc];rfl⟩,rfl,bp,.refl _⟩ ?_
 rintro _ _ _ ⟨i,b,⟨hi1,hi2,c_,hb⟩,rfl,hs,hp⟩;refine aU hs hp ?_;clear hs hp;refine bL ?_;refine aj (fun h6=>?_) fun h6=>?_
 ·obtain⟨v,hv⟩:=cN (fc c (i/2));have Yx:v<256:=by rw[hv];exact mul_lt _ hc
  have Vd:b.getD (i/2) 0=(v:Int):=by rw[hb _ aa,hv]
  have hh:=ady hc (show i<256 by omega) hi1;rw[←hv]at hh;have GL:=nR v Yx;refine bJ ?_;refine ab (mc rfl rfl aA (r:=((i/2:Nat):Int)) (aqS (b:=2) aa)) rfl ?_;refine ab (aM (i:=i/2) underlying382 ag rfl rfl rfl aa) rfl ?_;refine ab (eY ag rfl aV Gp) rfl ?_;rw[Vd];refine ai rfl (K_ Yx) ?_;refine ab (aM (i:=i) underlying382 ag rfl rfl rfl aa) rfl ?_;refine bz ?_;refine ab (nh rfl rfl aA (r:=((i%2:Nat):Int)) (by rw[Int.tmod_eq_emod_of_nonneg aa];omega)) rfl ?_;refine bF ?_;refine aj (fun jk=>?_) fun jk=>?_
  ·rw[ao aa]at hh;have kY:(b.set i ((pQ v:Nat):Int)).getD i 0=((pQ v:Nat):Int):=by rw[yK aa,ao rfl]
   refine be ?_;refine ab (aM (i:=i) underlying382 ag rfl rfl rfl aa) rfl ?_;refine ab (eY ag rfl aV Gp) rfl ?_;rw[kY];refine aF ?_;refine ab (ly rfl rfl (r:=((pQ v ^^^ c:Nat):Int)) (ajt GL hc)) rfl ?_;refine ab (aM (i:=i) underlying382 ag rfl rfl rfl aa) rfl ?_;refine aF ?_;refine ve [0,2,3,4] ?_;refine bL ?_;refine av ⟨_,aa,i+1,(b.set i ((pQ v:Nat):Int)).set i ((pQ v ^^^ c:Nat):Int),⟨aa,aa,by simp[c_],fun j hj=>by
    rw[yK bR,yK aa];by_cases e:j=i
    ·subst e;rw[ao rfl,hh]
    ·rw[aw e,aw e];exact hb j aa⟩,rfl,bp,.refl _⟩
  ·rw[aw aa]at hh;refine bJ ?_;refine av ⟨_,aa,i+1,b.set i ((pQ v:Nat):Int),⟨aa,aa,by simp[c_],fun j hj=>by
    rw[yK aa];by_cases e:j=i
    ·subst e;rw[ao rfl,hh]
    ·rw[aw e];exact hb j aa⟩,rfl,bp,.refl _⟩
 ·obtain rfl:i=256:=by omega
  obtain rfl:b=yH c:=by
   apply pV
   ·rw[c_,Fg]
   ·intro j h1 h2;have h3:=hb j aa;rw[←Ff aa,bk,bk,fm h1,fm h2]at h3;exact h3
  refine cJ ?_;refine I2 rfl rfl ag aV gC (.skip (.skip (.refl _))) ?_;exact⟨rfl,rfl⟩
section
section
variable{C:Cx}{fr:Fr}{L:aP}{x y:Operand}{f:Ch→aP}{t t2 e ty:TypeId}
theorem rW{bytes:Nat}{zv:Value}(T:sC C.P t e 1 bytes zv){A:bj}{n c i j:Nat}{xs:cV}(hs:mC (.own e 1 A n c xs) L f)(he:ev fr x=some (.slice (if c=i then A else A.map (·.add (i*1))) (j-i) (c-i)))(hi:i≤j)(hj:j≤n){yv:Value}{m:Nat}{news:cV}(hy:ev fr y=some yv)(hb:aJ C.B C.w0 L 1 yv m news)(h1:∀u∈news,u.oneCell'=true):
  qp C fr L (.call {callee:=.builtin .copy,args:= #[x,y],argTypes:= #[t,t2]}) ty (fun p L'=>p=ah (min m (j-i):Nat)∧L'=f (.own e 1 A n c (xs.take i++news.take (min m (j-i))++xs.drop (i+min m (j-i))))):=fun a w ha hw d pos af gg=>by
 obtain⟨ii,hii,hz,i_,D8⟩:=T.hi;have acT:(C.P.info? e).map (·.size)=some 1:=by rw[hii];simp[i_]
 obtain⟨X,cx,rfl,hmc,hl,tW⟩:=hb w hw;have al2:Nat.min m (j-i)=min m (j-i):=rfl;obtain⟨k1,k2,k3⟩:=hw.all _ hs.mem;rw[cE]at k1 hl;by_cases h0:min m (j-i)=0
 ·have hr:=run_copy_none (P:=C.P) w t t2 ty e (if c=i then A else A.map (·.add (i*1))) X (j-i) (c-i) m cx T.ht acT h0;refine⟨_,w,_,.inl ?_,⟨rfl,rfl⟩,?_⟩
  ·simp[execOp,resolve,invoke,builtin,ha.tmp he,ha.tmp hy];have:=hr;simp at this;rw[this];simp[goInt,h0]
  ·rw[h0,z_,gk,ta,jK];refine hw.Qb hs (NR w _) (fun h=>h) (.inr (.inl rfl))
 ·have qF:¬c=0:=by omega
  have hci:¬c=i:=by omega
  obtain⟨g,cur,rfl,Yj,hg,hcm,tR,ph⟩:=k3.resolve_left qF;clear k3;rw[cE]at tR ph;obtain⟨ad,rfl,_,fy⟩:=tW aa;clear tW al2;obtain⟨k,hk⟩:=cN (min m (j-i));have Gb:k≤m:=by omega
  have hkn:i+k≤n:=by omega
  have Nx:k=Nat.min m (j-i):=hk;rw[←hk]at h0⊢;clear hk;have al':∀j v,(news.take k)[j]? =some v→w.cell? (ad.add j)=some v:=fun q v hv=>by
   rw[GR]at hv;split at hv
   ·exact fy q v hv
   ·cases hv
  have hlen:(news.take k).length=k:=by rw[eS,hl];omega
  have GH:(⟨g,0,none⟩:Addr).add (i*1)=⟨g,i,none⟩:=by rw[zW,mq,cE]
  have GK:i+(news.take k).length≤cur.size:=by rw[hlen,tR];omega
  have hr:=run_copy_row (P:=C.P) w t t2 ty e g i (j-i) (c-i) ad m cx cur e (news.take k) T.ht acT hg (by rw[hlen];exact Nx) al' GK (fun v hv=>h1 v (lX hv));clear Nx;have r7:cur.toList.length=c:=by simpa using tR
  have e1:(xs.take i++news.take k++xs.drop (i+k)).length=n*1:=by
   simp only[aY,eS,iG,hl,k1];omega
  have e2:(cur.toList.take i++news.take k++cur.toList.drop (i+(news.take k).length)).length=c:=by
   simp only[aY,eS,iG,hl,r7];omega
  have e3:(cur.toList.take i++news.take k++cur.toList.drop (i+(news.take k).length)).take n=xs.take i++news.take k++xs.drop (i+k):=by
   have hx:xs=cur.toList.take n:=ph.symm;rw[hlen,N7,fL (by rw[aY,eS,hlen];omega),hx,Ix,RP,za aa];congr 2;rw[aY,eS,hlen,r7,za aa]
  refine⟨_,_,_,.inl ?_,⟨rfl,rfl⟩,hw.Qb hs (w':=w.setRow g (cur.toList.take i++news.take k++cur.toList.drop (i+(news.take k).length)).toArray) ?_ (fun _=>⟨e1,k2,.inr ⟨g,_,rfl,Yj,N0 w g cur _ e _ hg,hcm,by rw[wR,e2,cE],by rw[cE];exact e3⟩⟩) (.inr (.inl rfl))⟩
  ·simp only[execOp,resolve,invoke,builtin,ha.tmp he,ha.tmp hy,aw hci,sK,GH,Kr,GS,s_,List.map_toArray,kA,GU,hr];simp[goInt,hlen]
  ·rw[show(Ch.own e 1 (some ⟨g,0,none⟩) n c xs).fp=some g by simp[Ch.fp,qF]];exact⟨rfl,rfl,rfl,ak,fun k _ hk=>N2 w g k _ (fun e=>hk xq)⟩
abbrev G6(A:bj)(c i j:Nat):Value:=.slice (if c=i then A else A.map (·.add (i*1))) (i+j-i) (c-i)
theorem aJ.part{B:Nat}{w0:World}{A:bj}{n c i j:Nat}{l:al}(h:aJ B w0 L 1 (.slice A n c) n (bv l))(Io:i+j≤n):aJ B w0 L 1 (G6 A c i j) (i+j-i) (bv ((l.drop i).take j)):=by
 have:=(h.iZ (k:=i+j) Io).cut (k:=i) aa;have e:((bv l).take ((i+j)*1)).drop (i*1)=bv ((l.drop i).take j):=by
  rw[cE,cE];unfold bv;rw[←pn,←yc,RP];congr 2;omega
 rw[e]at this;exact this
theorem GB{v:Value}{A:bj}{n c i q:Nat}{xs:cV}(hs:pU C.P t=true)(he:ev fr x=some (.pointer ((if c=i then A else A.map (·.add (i*1))).map (·.add q))))(hv:ev fr y=some v)(h1:v.oneCell'=true)(hm:mC (.own e 1 A n c xs) L f)(hic:i<c)(hj:i*1+q<xs.length):
  qp C fr L (.store t x y) ty (fun p L'=>L'=f (.own e 1 A n c (xs.set (i*1+q) v))):=by
 refine pe (j:=i*1) (q:=q) hs ?_ hv h1 hm hj;rw[he,aw aa,Option.map_map];rfl
end
variable{B:Nat}{w0:World}{F L0:aP}{A A1 A2 Ao:bj}{n c c1 c2 co g gc:Nat}
theorem BB(x:Nat):(ints .u8 (yH x)).length=256:=by simp[ints,yH]
theorem set_mk{p:al}{y:UInt8}{k n:Nat}(h:p.length=k)(hk:k<n):(bv p++List.replicate (n-k) (Value.int .u8 0)).set (k*1) (.int .u8 (y.toNat:Int))=bv (p++[y])++List.replicate (n-(k+1)) (Value.int .u8 0):=by
 subst h;rw[show n-p.length=(n-(p.length+1))+1 by omega,zV,cE,wS _ _ Bn];simp[bv]
theorem X7{s b:al}{x:UInt8}{k:Nat}(h1:k<s.length)(h2:k<b.length):(qR s x b).take (k+1)=(qR s x b).take k++[s.getD k 0 ^^^ gm x (b.getD k 0)]:=by
 rw[ba (by unfold qR;rw[List.length_zipWith];omega) 0,Nk h1 h2]
theorem ahe{s b:al}{x:UInt8}(hl:s.length=b.length)(hs:eM B w0 F A c s)(hb:eM B w0 F A2 c2 b)(hn:s.length≤1000000000):
  a_ B w0 237 [.slice A s.length c,.int .u8 (x.toNat:Int),.slice A2 b.length c2] F (fun r L=>∃A' c',r= .tuple #[.slice A' s.length c',ah 0]∧L= .own 5 1 A' s.length c' (bv (qR s x b))::F):=by
 have GL:(qR s x b).length=s.length:=qS hl;refine fw func237 42 [0,1,2] ?_;refine jS ?_;refine dm fun kh=>?_;refine bG ?_;refine ai rfl (UY (sp x)) ?_;refine bc fun g8=>?_;refine kJ (nQ 256 ag rfl rfl (Ei _ _) aV rfl (BB _)) ?_;refine bz ?_;refine cC (fb cD rfl rfl rfl rfl rfl aa aa aa) fun A21=>?_;refine cJ ?_;refine aE (fun zf zL zm=>∃(k:Nat),(k≤s.length)∧s.length-k=zm∧Sub zf [(2,.slice A2 b.length c2),(8,br g8),(9,.slice A21 s.length s.length),(22,.slice A s.length c),(23,ah s.length),(24,ah k)]∧Wk zL (.own 5 1 A21 s.length s.length (bv ((qR s x b).take k)++List.replicate (s.length-k) (.int .u8 0))::Rwb g8 (yH x.toNat)::F)) _ ⟨0,bT _,rfl,bp,.refl _⟩ ?_;rintro _ _ _ ⟨k,hk,rfl,hs,hp⟩;refine aU hs hp ?_;clear hs hp;refine bz ?_;refine aj (fun zJ=>?_) fun zJ=>?_
 ·obtain⟨u,hu⟩:=cN (s.getD k 0);obtain⟨v,hv⟩:=cN (b.getD k 0);have Yx:=sp v;have y':=sp u;have hgt:=X7 (x:=x) (show k<s.length by omega) (show k<b.length by omega);rw[←hu,←hv]at hgt;have hrg:(yH x.toNat).getD v.toNat 0=(((gm x v).toNat:Nat):Int):=by rw[Ff Yx,iA]
  refine bQ ?_;rw[←hu];refine cJ ?_;rw[←hv];refine ab (aM (i:=v.toNat) underlying382 ag rfl rfl rfl Yx) rfl ?_;refine ab (eY ag rfl aV (by rw[Fg];exact Yx)) rfl ?_;rw[hrg];refine ab (ly rfl rfl (r:=(((u ^^^ gm x v).toNat:Nat):Int)) (by rw[UInt8.toNat_xor];exact ajt y' (sp _))) rfl ?_;refine ab (aC (i:=k) (size:=1) underlying27 ag rfl rfl rfl aa (aJ.own (.head _))) rfl ?_;refine kJ (iK ag rfl rfl rfl aV (by simp[bv];omega)) ?_;refine ve [2,8,9,22,23,24] ?_;refine bz ?_;refine av ⟨_,aa,k+1,aa,rfl,bp,ax rfl (by rw[hgt];exact set_mk np aa) (.refl _)⟩
 ·obtain rfl:k=s.length:=by omega
  refine de ?_;refine aq (L':=.own 5 1 A21 s.length s.length (bv (qR s x b))::F) (ax rfl (by rw[fL aa];simp) (.skip (.refl _))) ?_;refine aF ?_;exact⟨A21,_,rfl,rfl⟩
end
theorem aaX{P:Prop}(h:P:=by(rw[ox (by omega)])):P:=h
abbrev vt(A:bj)(r k n c:Nat):Value:=.agg #[ah (r:Int),ah (k:Int),.slice A n c]
abbrev CX(g:Nat)(A:bj)(r k n c:Nat):Ch:=.bD g 272 [ah (r:Int),ah (k:Int),.slice A n c]
theorem EK{a b:Nat}(ha:a≤1000000)(hb:b≤1000000):IntKind.i64.wrap ((a:Int)*(b:Int))=((a*b:Nat):Int):=by
 have:a*b≤1000000*1000000:=gN ha hb;rw[←z6];exact bE aa aa
theorem uJ{x:Nat}(h:x≤255):a_ B w0 233 [ah (x:Int)] F (fun r L=>r= .bool true∧L=F):=by
 refine fw func233 9 [0] ?_;refine bA ?_;refine cP (fun h5=>?_) fun h5=>?_
 ·refine bQ ?_;exact⟨aaX,rfl⟩
 ·exfalso;omega
theorem yq(hr:r≤255)(hk:k≤255)(hn:n=r*k):a_ B w0 307 [vt A r k n c] F (fun v L=>v= .bool true∧L=F):=by
 refine ct func307 22 rfl rfl rfl [(0,.agg #[ah (r:Int),ah (k:Int),.slice A n c])] ⟨⟨rfl,rfl⟩,trivial⟩ ?_;refine be ?_;refine bh fun g1=>?_;refine bL ?_;refine ai rfl (uJ hr) ?_;refine bz ?_;refine ai rfl (uJ hk) ?_;refine B_ ?_;refine ab (eZ rfl rfl (r:=((r*k:Nat):Int)) (EK aa aa)) rfl ?_;refine b8 ?_;refine ve [2] ?_;refine be ?_;refine aq (.skip (.refl _)) ?_;refine aF ?_;exact⟨aaX,rfl⟩
theorem On(i j:Nat):a_ B w0 330 [ah (i:Int),ah (j:Int)] F (fun v L=>v= .int .u8 (((if i=j then (1:UInt8) else 0).toNat:Nat):Int)∧L=F):=by
 refine fw func330 8 [0,1] ?_;refine de ?_;refine aj (fun h7=>?_) fun h7=>?_
 ·refine bJ ?_;exact⟨by rw[ao aa];rfl,rfl⟩
 ·refine bQ ?_;exact⟨by rw[aw aa];rfl,rfl⟩
theorem R4{ff:FuncId}{cap:cV}{Q:aP}(f:Nat→Nat→UInt8)(hr:r≤255)(hk:k≤255)(hc:aH Tryz.prog ff)(hQ:Q.Sublist F)(hf:∀(i j:Nat) (L:aP),i<r→j<k→Q.Sublist L→a_ B w0 ff ([ah (i:Int),ah (j:Int)]++cap) L (fun v L'=>v= .int .u8 (((f i j).toNat:Nat):Int)∧L'=L)):
  a_ B w0 234 [ah (r:Int),ah (k:Int),.func (.func ff) #[] cap.toArray] F (fun v L=>∃A' c',v=vt A' r k (r*k) c'∧L= .own 5 1 A' (r*k) c' (bv (qe r k f))::F):=by
 have hrk:r*k≤255*255:=gN hr hk;refine fw func234 37 [0,1,2] ?_;refine be ?_;refine bc fun g6=>?_;refine bJ ?_;refine ab (eZ rfl rfl (r:=((r*k:Nat):Int)) (EK aa aa)) rfl ?_;refine cC (fb (nn:=0) cD rfl rfl rfl rfl rfl aa aa aa) fun Bh=>?_;refine ab (eG [(0,_),(1,_),(2,_)] [_,_,_] rfl rfl ag) rfl ?_;refine bc fun g7=>?_;refine cY ?_;refine aE (fun zf zL zm=>∃(i:Nat) (A':bj) (c':Nat),(i≤r)∧r-i=zm∧Sub zf [(1,ah (k:Int)),(2,.func (.func ff) #[] cap.toArray),(6,br g6),(7,br g7),(17,ah (r:Int)),(18,ah (i:Int))]∧Wk zL (.own 5 1 A' (i*k) c' (bv (qe i k f))::CX g7 A' r k (i*k) c':: .bD g6 272 [ah 0,ah 0,.slice none 0 0]::F)) _ ⟨0,Bh,r*k,bT _,rfl,bp,.trans ((gl (ed (ed (.refl _))))) (ax ak (by simp[qe,bv]) (bq ak (.refl _)))⟩ ?_;rintro _ _ _ ⟨i,A',c',hi,rfl,hs,hp⟩;refine aU hs hp ?_;clear hs hp;refine bz ?_;refine aj (fun pR=>?_) fun pR=>?_
 ·have hik:=fM (k:=k) (show i<r by omega);refine B_ ?_;refine aE (fun zf zL zm=>∃(j:Nat) (A2:bj) (c2:Nat) (acc:al),(j≤k∧acc=qe i k f++(List.range j).map fun q=>f i q)∧k-j=zm∧Sub zf [(1,ah (k:Int)),(2,.func (.func ff) #[] cap.toArray),(6,br g6),(7,br g7),(8,ah (i:Int)),(17,ah (r:Int)),(18,ah (i:Int)),(21,ah (k:Int)),(22,ah (j:Int))]∧Wk zL (.own 5 1 A2 (i*k+j) c2 (bv acc)::CX g7 A2 r k (i*k+j) c2:: .bD g6 272 [ah 0,ah 0,.slice none 0 0]::F)) _ ⟨0,A',c',qe i k f,⟨bT _,ak⟩,rfl,bp,.refl _⟩ ?_;rintro _ _ _ ⟨j,A2,c2,acc,⟨hj,mE⟩,rfl,hs,hp⟩;refine aU hs hp ?_;clear hs hp;refine bz ?_;refine aj (fun nM=>?_) fun nM=>?_
  ·have hs:acc++[f i j]=qe i k f++(List.range (j+1)).map fun q=>f i q:=by rw[mE,lj];simp
   refine bA ?_;refine cF F ?_;refine ae 0 ?_;refine ae 2 ?_;refine ae 3 ?_;refine ae 4 ?_;refine gV 1 5 ?_ ?_
   ·refine aF ?_;refine az 5 ?_;refine pG rfl .no hc rfl rfl (hf i j _ aa aa (((hQ.cons _).cons _).cons _)) rfl Qr ?_;rintro _ _ ⟨rfl,cA⟩;obtain rfl:=cA.symm;refine az 6 ?_;refine cR rfl (aG cD [_] rfl rfl cw aa aa) fun Qd=>?_;refine az 7 ?_;refine eV rfl (bS cD rfl aV rfl aB cw aa aa) fun LM Mr=>?_;refine ae 8 ?_;refine az 9 ?_;refine bJ ?_;refine av ⟨_,aa,j+1,LM,Mr,acc++[f i j],⟨aa,hs⟩,rfl,bp,.skip (ax rfl Bn (.refl _))⟩
   ·refine pG rfl .no hc rfl rfl (hf i j _ aa aa (((hQ.cons _).cons _).cons _)) rfl Qr ?_;rintro _ _ ⟨rfl,cA⟩;obtain rfl:=cA.symm;refine gV 1 6 ?_ ?_
    ·refine aF ?_;refine az 6 ?_;refine cR rfl (aG cD [_] rfl rfl cw aa aa) fun Qd=>?_;refine az 7 ?_;refine eV rfl (bS cD rfl aV rfl aB cw aa aa) fun LM Mr=>?_;refine ae 8 ?_;refine az 9 ?_;refine bJ ?_;refine av ⟨_,aa,j+1,LM,Mr,acc++[f i j],⟨aa,hs⟩,rfl,bp,.skip (ax rfl Bn (.refl _))⟩
    ·refine cR rfl (aG cD [_] rfl rfl cw aa aa) fun Qd=>?_;refine az 1 ?_;refine aF ?_;refine az 7 ?_;refine eV rfl (bS cD rfl aV rfl aB cw aa aa) fun LM Mr=>?_;refine ae 8 ?_;refine az 9 ?_;refine bJ ?_;refine av ⟨_,aa,j+1,LM,Mr,acc++[f i j],⟨aa,hs⟩,rfl,bp,.skip (ax rfl Bn (.refl _))⟩
  ·obtain rfl:j=k:=by omega
   refine bA ?_;refine av ⟨_,aa,i+1,A2,c2,aa,rfl,bp,ax (by rw[kB]) (by rw[mE,EE]) (bq (by rw[kB]) (.refl _))⟩
 ·obtain rfl:i=r:=by omega
  refine cJ ?_;refine I2 rfl rfl ag aV gC ((ed (.skip (.skip (.refl _))))) ?_;exact⟨A',c',rfl,rfl⟩
theorem aoA{P:Prop}(h:P:=by(rw[kB,show a*k+k-a*k=k by omega];rfl)):P:=h
theorem ahB(hn:n≤255):a_ B w0 309 [ah (n:Int)] F (fun v L=>∃A' c',v= .tuple #[vt A' n n (n*n) c',ah 0]∧L= .own 5 1 A' (n*n) c' (bv (NG n))::F):=by
 refine fw func309 11 [0] ?_;refine be ?_;refine bc fun g2=>?_;refine bL ?_;refine ai rfl (uJ hn) ?_;refine bA ?_;refine ay rfl (R4 (Q:=[]) (cap:=[]) (fun i j=>if i=j then 1 else 0) hn hn ajP (NM _) (fun i j L _ _ _=>On i j)) fun wh F6=>?_;refine bG ?_;refine gT rfl rfl ag aV gC rfl ((ed (.skip (.refl _)))) ?_;exact⟨wh,F6,rfl,rfl⟩
theorem anN{a b:Nat}(ha:a<256)(hb:b<256):IntKind.i64.wrap ((BitVec.ofInt IntKind.i64.bits (a:Int) ^^^ BitVec.ofInt IntKind.i64.bits (b:Int)).toNat:Int)=((a ^^^ b:Nat):Int):=by
 have h:=vp ha hb;rw[anO (k:=.i64) (a:=a) (b:=b) (by show a<18446744073709551616;omega) (by show b<18446744073709551616;omega)];exact bE aa aa
theorem are{x:Nat}(h:x<256):(UInt8.ofNat x).toNat=x:=by rw[od];exact ja h
def agJ(k i j:Nat):UInt8:=kI (UInt8.ofNat ((k+i) ^^^ j))
theorem ala{i j:Nat}(h1:k+i≤255)(h2:j≤255):a_ B w0 235 [ah (i:Int),ah (j:Int),br g] (.bD g 3 [ah (k:Int)]::F) (fun v L=>v= .int .u8 (((agJ k i j).toNat:Nat):Int)∧L= .bD g 3 [ah (k:Int)]::F):=by
 have hx:=vp (a:=k+i) (b:=j) aa aa;have he:(agJ k i j).toNat=qT ((k+i) ^^^ j):=by unfold agJ;rw[wF,are hx]
 refine fw func235 19 [0,1,2] ?_;refine bQ ?_;refine ab (bY rfl rfl (r:=((k+i:Nat):Int)) ((bE aa aa).trans aa)) rfl ?_;refine aF ?_;refine ab (ly rfl rfl (r:=(((k+i) ^^^ j:Nat):Int)) (anN aa aa)) rfl ?_;refine aF ?_;refine ai rfl (aj7 hx) ?_;refine cY ?_;refine ve [5] ?_;refine bF ?_;exact⟨by rw[he],rfl⟩
theorem Mu(Gb:k+m≤255):a_ B w0 191 [ah (k:Int),ah (m:Int)] F (fun v L=>∃A' c',v= .tuple #[vt A' m k (m*k) c',ah 0]∧L= .own 5 1 A' (m*k) c' (bv (Gs k m))::F):=by
 refine fw func191 25 [0,1] ?_;refine be ?_;refine bh fun g2=>?_;refine bc fun g4=>?_;refine bL ?_;refine ai rfl (uJ aa) ?_;refine bG ?_;refine ai rfl (uJ aa) ?_;refine jy ?_;refine dm fun pR=>?_;refine bL ?_;refine ay rfl (R4 (Q:=[.bD g2 3 [ah (k:Int)]]) (cap:=[br g2]) (agJ k) aa aa ao7 (((NM F).cons_cons _).cons _) (fun i j L hi hj hs=>dL.at_mem (hs.subset (.head _)) fun M=>ala aa aa)) fun Bi Df=>?_;refine be ?_;refine ve [4,5] ?_;refine be ?_;refine gT rfl rfl ag aV gC rfl ((ed (.skip (.skip (.refl _))))) ?_;exact⟨Bi,Df,rfl,rfl⟩
theorem as4{i k:Nat}(hi:i≤100000)(hk:k≤100000):IntKind.i64.wrap (((i:Int)+1)*(k:Int))=((i*k+k:Nat):Int):=by
 rw[show((i:Int)+1)=((i+1:Nat):Int) by omega,EK aa aa,kB]
theorem EF{i:Nat}(hi:i≤100000)(hk:k≤100000)(hc:i*k+k≤c):a_ B w0 308 [vt A r k n c,ah (i:Int)] F (fun v L=>v=G6 A c (i*k) k∧L=F):=by
 refine ct func308 17 rfl rfl rfl [(0,.agg #[ah (r:Int),ah (k:Int),.slice A n c]),(1,ah (i:Int))] ⟨⟨rfl,rfl⟩,⟨rfl,rfl⟩,trivial⟩ ?_;refine be ?_;refine bh fun g2=>?_;refine bA ?_;refine ab (eZ rfl rfl (r:=((i*k:Nat):Int)) (EK aa aa)) rfl ?_;refine b8 ?_;refine ab (eZ rfl rfl (r:=((i*k+k:Nat):Int)) (as4 hi hk)) rfl ?_;refine ab (kr (i:=i*k) (j:=i*k+k) (size:=1) underlying27 ag rfl rfl rfl rfl rfl aa aa) rfl ?_;refine b8 ?_;refine aq (.skip (.refl _)) ?_;refine aF ?_;exact⟨rfl,rfl⟩
abbrev amw(A1 A2:bj)(k m n1 n2 c1 c2:Nat):cV:=[ah (k:Int),ah (k:Int),.slice A1 n1 c1,ah (m:Int),ah (k:Int),.slice A2 n2 c2]
theorem aiO(Gb:k+m≤255){x y:al}(hx:x.length=k*k)(hy:y.length=m*k)(hr:aJ B w0 F 3 (.slice A 2 c) 2 (amw A1 A2 k m (k*k) (m*k) c1 c2))(h1:aJ B w0 F 1 (.slice A1 (k*k) c1) (k*k) (bv x))(h2:aJ B w0 F 1 (.slice A2 (m*k) c2) (m*k) (bv y)):
  a_ B w0 310 [.slice A 2 c] F (fun v L=>∃A' c',v= .tuple #[vt A' (k+m) k ((k+m)*k) c',ah 0]∧L= .own 5 1 A' ((k+m)*k) c' (bv (x++y))::F):=by
 have Ki:k*k≤255*255:=gN aa aa;have hmk:m*k≤255*255:=gN aa aa;have wO:(k+m)*k=k*k+m*k:=mH ..;refine fw func310 52 [0] ?_;refine be ?_;refine bc fun g2=>?_;refine bG ?_;refine bc fun g4=>?_;refine b8 ?_;refine aZ 5 1 none ?_;refine bL ?_;refine aE (fun zf zL zm=>∃(i R C N:Nat) (A':bj) (c':Nat) (acc:al),((i=0∧R=0∧C=0∧N=0∧acc=[])∨(i=1∧R=k∧C=k∧N=k*k∧acc=x)∨(i=2∧R=k+m∧C=k∧N=k*k+m*k∧acc=x++y))∧2-i=zm∧Sub zf [(2,br g2),(4,br g4),(7,.slice A 2 c),(8,ah 2),(9,ah (i:Int))]∧Wk zL (.own 5 1 A' N c' (bv acc)::CX g4 A' R C N c':: .bD g2 272 [ah 0,ah 0,.slice none 0 0]::F)) _ ⟨0,0,0,0,none,0,[],.inl ⟨rfl,rfl,rfl,rfl,rfl⟩,rfl,bp,.refl _⟩ ?_;rintro _ _ _ ⟨i,R,C,N,A',c',acc,lf,rfl,hs,hp⟩;refine aU hs hp ?_;clear hs hp;refine bz ?_;refine aj (fun jF=>?_) fun jF=>?_
 ·obtain⟨q,hq⟩:=cN (if i=0 then k else m);obtain⟨Y,hY⟩:=cN (if i=0 then x else y);obtain⟨Aq,cq,fy,hbq⟩:∃(Aq:bj) (cq:Nat),(∀p u,([ah (q:Int),ah (k:Int),.slice Aq (q*k) cq]:cV)[p]? =some u→(amw A1 A2 k m (k*k) (m*k) c1 c2)[i*3+p]? =some u)∧aJ B w0 F 1 (.slice Aq (q*k) cq) (q*k) (bv Y):=by
   have hi:i=0∨i=1:=by omega
   rcases hi with rfl|rfl
   ·rw[ao rfl]at hq hY;subst hq;subst hY;exact⟨A1,c1,fun p u h=>by
     rcases p with _|_|_|p
     ·exact h
     ·exact h
     ·exact h
     ·simp at h,h1⟩
   ·rw[aw aa]at hq hY;subst hq;subst hY;exact⟨A2,c2,fun p u h=>by
     rcases p with _|_|_|p
     ·exact h
     ·exact h
     ·exact h
     ·simp at h,h2⟩
  have hql:q≤255:=by rw[hq];split<;>omega
  have hRq:R+q≤255:=by
   rw[hq];rcases lf with h|h|h
   ·rw[ao h.1];omega
   ·rw[aw aa];omega
   ·omega
  have hqk:q*k≤255*255:=gN aa aa;have hNk:N≤255*255+255*255:=by rcases lf with h|h|h<;>omega
  refine bJ ?_;refine ab (dI (j:=i*3) 3 ag rfl hr.cons.cons.cons aa [ah (q:Int),ah (k:Int),.slice Aq (q*k) cq] fy rfl) rfl ?_;refine bc fun g6=>?_;refine cY ?_;refine aj (fun jG=>?_) fun jG=>?_
  ·refine cY ?_;refine ai rfl (yq hql aa rfl) ?_;refine dQ ?_;refine aL rfl rfl rfl (fun rZ=>?_) (fun rZ=>?_)
   ·refine cJ ?_;refine ve [2,4,6,7,8,9,36] ?_;refine aF ?_;refine dm fun y8=>?_;refine bJ ?_;refine ab (bY rfl rfl (r:=((R+q:Nat):Int)) ((bE aa aa).trans aa)) rfl ?_;refine bQ ?_;refine fN (bS cD rfl aV rfl aB cw aa aa) fun A48 c48=>?_;refine bQ ?_;refine av ⟨_,aa,i+1,R+q,k,N+q*k,A48,c48,acc++Y,(by
     rcases lf with h|h|h
     ·refine .inr (.inl ?_);rw[ao h.1]at hq hY;rw[hq,hY,h.2.2.2.2,h.2.1,h.2.2.2.1];exact⟨aa,aa,rfl,aa,rfl⟩
     ·exact absurd jG aa
     ·exact absurd jG aa),rfl,bp,.skip (ax rfl ak (.refl _))⟩
   ·exfalso;omega
  ·have hC:C=k:=by rcases lf with h|h|h<;>omega
   subst hC;refine bz ?_;refine ai rfl (yq hql aa rfl) ?_;refine dQ ?_;refine aL rfl rfl rfl (fun rZ=>?_) (fun rZ=>?_)
   ·refine cJ ?_;refine ve [2,4,6,7,8,9,36] ?_;refine aF ?_;refine dm fun y8=>?_;refine bJ ?_;refine ab (bY rfl rfl (r:=((R+q:Nat):Int)) ((bE aa aa).trans aa)) rfl ?_;refine bQ ?_;refine fN (bS cD rfl aV rfl aB cw aa aa) fun A48 c48=>?_;refine bQ ?_;refine av ⟨_,aa,i+1,R+q,C,N+q*C,A48,c48,acc++Y,(by
     rcases lf with h|h|h
     ·exact absurd h.1 aa
     ·refine .inr (.inr ?_);rw[aw aa]at hq hY;rw[hq,hY,h.2.2.2.2,h.2.2.2.1];exact⟨aa,aa,rfl,rfl,rfl⟩
     ·omega),rfl,bp,.skip (ax rfl ak (.refl _))⟩
   ·exfalso;omega
 ·obtain⟨hi,hR,hC,hN,mE⟩:i=2∧R=k+m∧C=k∧N=k*k+m*k∧acc=x++y:=by
   rcases lf with h|h|h
   ·omega
   ·omega
   ·exact h
  subst hi;subst hR;subst hN;subst mE;refine de ?_;refine gT rfl rfl ag aV gC rfl ((ed (.skip (.skip (.refl _))))) ?_;subst hC;exact⟨A',c',by rw[wO],by rw[wO]⟩
theorem Sx{at_:bf}{x:al}{i:Nat}(hi:i<at_.length):lr k x (at_.take (i+1))=lr k x (at_.take i)++jf k x (at_.getD i 0):=by
 unfold lr;rw[ba hi 0,ua];simp
theorem am0{x:al}{at_:bf}(hr:r≤255)(hk:k≤255)(hx:x.length=r*k)(hl:at_.length≤255)(ha:∀a,a∈at_→a<r)(hb:aJ B w0 F 1 (.slice A (r*k) c) (r*k) (bv x))(hba:aJ B w0 F 1 (.slice A1 at_.length c1) at_.length (bx at_)):
  a_ B w0 277 [vt A r k (r*k) c,.slice A1 at_.length c1] F (fun v L=>∃A' c',v= .tuple #[vt A' at_.length k (at_.length*k) c',ah 0]∧L= .own 5 1 A' (at_.length*k) c' (bv (lr k x at_))::F):=by
 have hrk:r*k≤255*255:=gN hr hk;refine dL.xf hb fun mh _=>?_;refine ct func277 47 rfl rfl rfl [(0,.agg #[ah (r:Int),ah (k:Int),.slice A (r*k) c]),(1,.slice A1 at_.length c1)] ⟨⟨rfl,rfl⟩,⟨rfl,rfl⟩,trivial⟩ ?_;refine be ?_;refine bh fun g2=>?_;refine bc fun g4=>?_;refine bL ?_;refine ai rfl (yq hr hk rfl) ?_;refine cY ?_;refine dm fun kh=>?_;refine bJ ?_;refine ab (bw [(0,_),(1,_)] [ah 0,ah 0,.slice none 0 0] [0,1] [_,_,_] rfl rfl ag) rfl ?_;refine bc fun g6=>?_;refine bG ?_;refine aZ 5 1 none ?_;refine bL ?_;refine aE (fun zf zL zm=>∃(i:Nat) (A':bj) (c':Nat),(i≤at_.length)∧at_.length-i=zm∧Sub zf [(2,br g2),(4,br g4),(6,br g6),(23,.slice A1 at_.length c1),(24,ah at_.length),(25,ah (i:Int))]∧Wk zL (.own 5 1 A' (i*k) c' (bv (lr k x (at_.take i)))::CX g6 A' at_.length k (i*k) c':: .bD g4 272 [ah 0,ah 0,.slice none 0 0]::CX g2 A r k (r*k) c::F)) _ ⟨0,none,0,bT _,rfl,bp,ax ak (by simp[lr]) (bq ak (.refl _))⟩ ?_;rintro _ _ _ ⟨i,A',c',hi,rfl,hs,hp⟩;refine aU hs hp ?_;clear hs hp;refine bz ?_;refine aj (fun qU=>?_) fun qU=>?_
 ·obtain⟨a,hae⟩:=cN (at_.getD i 0);have har:a<r:=by rw[hae];exact ha _ (bg aa 0)
  have Cc:=fM (k:=k) har;have hps:=Sx (k:=k) (x:=x) (show i<at_.length by omega);rw[←hae]at hps;have hik:i*k≤255*255:=gN aa hk;have qY:aJ B w0 F 1 (G6 A c (a*k) k) (a*k+k-a*k) (bv (jf k x a)):=hb.part Cc;refine bL ?_;refine ab (au ag rfl hba.cons.cons.cons.cons aa (gb (v:=a) aa hae.symm)) rfl ?_;refine bQ ?_;refine aL rfl rfl rfl (fun D5=>?_) (fun D5=>?_)
  ·refine bA ?_;refine dm fun y8=>?_;refine be ?_;refine cF (.bD g4 272 [ah 0,ah 0,.slice none 0 0]::CX g2 A r k (r*k) c::F) ?_;refine ae 0 ?_;refine ae 2 ?_;refine ae 3 ?_;refine gV 1 4 ?_ ?_
   ·refine aF ?_;refine az 4 ?_;refine iW rfl rfl (EF aa aa aa) ?_;refine az 5 ?_;refine eV rfl (bS cD rfl aV rfl aB cw aa aa) fun Lp c43=>?_;refine ae 6 ?_;refine az 7 ?_;refine aF ?_;refine cQ [2,4,6,23,24,25] ?_;refine bz ?_;refine av ⟨_,aa,i+1,Lp,c43,aa,rfl,bp,ax (by rw[kB];omega) (by rw[hps];simp) (bq aoA (.refl _))⟩
   ·refine iW rfl rfl (EF aa aa aa) ?_;refine az 1 ?_;refine aF ?_;refine az 5 ?_;refine eV rfl (bS cD rfl aV rfl aB cw aa aa) fun Lp c43=>?_;refine ae 6 ?_;refine az 7 ?_;refine aF ?_;refine cQ [2,4,6,23,24,25] ?_;refine bz ?_;refine av ⟨_,aa,i+1,Lp,c43,aa,rfl,bp,ax (by rw[kB];omega) (by rw[hps];simp) (bq aoA (.refl _))⟩
  ·exfalso;omega
 ·obtain rfl:i=at_.length:=by omega
  rw[jU];refine de ?_;refine gT rfl rfl ag aV gC rfl ((ed (.skip (.skip (.skip (.refl _)))))) ?_;exact⟨A',c',rfl,rfl⟩
theorem uq{l:al}{n:Nat}{xs:cV}(e1:n=l.length)(e2:xs=bv l)(hb:aJ B w0 F 1 (.slice A n c) n xs)(hn:l.length≤1099511627776):
  a_ B w0 36 [.slice A n c] F (fun r L=>∃A' c',r= .slice A' l.length c'∧L= .own 5 1 A' l.length c' (bv l)::F):=by
 subst e1;subst e2;exact l_ l hb hn
theorem UX{s b:al}{x:UInt8}{n1 n2:Nat}(e1:n1=s.length)(e2:n2=b.length)(hl:s.length=b.length)(hs:aJ B w0 F 1 (.slice A n1 c) n1 (bv s))(hb:aJ B w0 F 1 (.slice A2 n2 c2) n2 (bv b))(hn:s.length≤1000000000):
  a_ B w0 237 [.slice A n1 c,.int .u8 (x.toNat:Int),.slice A2 n2 c2] F (fun r L=>∃A' c',r= .tuple #[.slice A' s.length c',ah 0]∧L= .own 5 1 A' s.length c' (bv (qR s x b))::F):=by
 subst e1;subst e2;exact ahe hl hs hb hn
theorem zp{x r:al}{i:Nat}(hr:r.length=k):(bv x).take (i*k)++(bv r).take (min r.length (i*k+k-i*k))++(bv x).drop (i*k+min r.length (i*k+k-i*k))=bv (oy k x i r):=by
 have e:min r.length (i*k+k-i*k)=k:=by omega
 rw[e,jX,jX,jt,←gv,←gv,fL (l:=r) aa];unfold oy;rw[bV]
theorem Y7{x r:al}{i:Nat}(hx:x.length=N*k)(hi:i<N)(hr:r.length=k):jf k (oy k x i r) i=r:=by
 have:=fM (k:=k) hi;unfold jf oy;rw[qb bR,po hr]
theorem Y8{x:al}{i:Nat}(hx:x.length=N*k)(hi:i<N):oy k x i (jf k x i)=x:=by
 have:=fM (k:=k) hi;unfold jf oy;rw[←qa,jK,jK]
theorem adx{x r:al}{i q:Nat}{v:UInt8}(hx:x.length=N*k)(hi:i<N)(hr:r.length=k)(hq:q<k):(bv (oy k x i r)).set (i*k*1+q) (.int .u8 ((v.toNat:Nat):Int))=bv (oy k x i (r.set q v)):=by
 have:=fM (k:=k) hi;unfold oy;rw[cE,gv,gv,wS _ _ bR,List.set_append_left _ _ bR];have e:i*k+q-(bv (x.take (i*k))).length=q:=by simp;omega
 rw[e,gv,gv];congr 2;simp[bv,Ku]
theorem pK{i:Nat}(hw:(cs.drop o).take 3=[ah (r:Int),ah (k:Int),.slice A n c])(hi:i≤100000)(hk:k≤100000)(hc:i*k+k≤c):a_ B w0 331 [.pointer (some ⟨g,o,none⟩),ah (i:Int)] (.bD g bt cs::F) (fun v L=>v=G6 A c (i*k) k∧L= .bD g bt cs::F):=by
 refine fw func331 11 [0,1] ?_;refine bA ?_;refine ab (bU 3 ag rfl aV [ah (r:Int),ah (k:Int),.slice A n c] hw rfl) rfl ?_;refine aF ?_;refine ai rfl (EF hi hk hc) ?_;refine bG ?_;exact⟨rfl,rfl⟩
theorem W4{x:al}{i j:Nat}(hw:(cs.drop o).take 3=[ah (r:Int),ah (k:Int),.slice A (N*k) c])(hx:x.length=N*k)(hN:N≤255)(hi:i<N)(hj:j<N)(hk:k≤255):
  a_ B w0 332 [.pointer (some ⟨g,o,none⟩),ah (i:Int),ah (j:Int)] (.own 5 1 A (N*k) c (bv x):: .bD g bt cs::F) (fun v L=>v= .tuple #[]∧L= .own 5 1 A (N*k) c (bv (pA k x i j)):: .bD g bt cs::F):=by
 refine dL.xf (aJ.own (.head _)) fun mh _=>?_;have h1:=fM (k:=k) hi;have h2:=fM (k:=k) hj;have l1:=eW hx hi;have l2:=eW hx hj;refine fw func332 26 [0,1,2] ?_;refine b8 ?_;refine ai rfl ((pK (i:=i) hw aa aa aa).jg ((l6 (fR (.refl _))))) ?_;refine ay rfl (uq (l:=jf k x i) aa rfl ((aJ.own (.head _)).part h1) aa) fun tz xg=>?_;refine be ?_;refine ai rfl ((pK (i:=j) hw aa aa aa).jg ((BN (fR (fR (.refl _)))))) ?_;refine ay rfl (uq (l:=jf k x j) aa rfl ((aJ.own (.tail _ (.head _))).part h2) aa) fun Bh JH=>?_;refine bJ ?_;refine ai rfl ((pK (i:=i) hw aa aa aa).jg ((pu3 (fR (fR (fR (.refl _))))))) ?_;refine aF ?_;refine lL (rW (i:=i*k) (j:=i*k+k) cD (.tl (.tl .hd)) rfl aa aa rfl (aJ.own (.head _)) (qs _)) rfl ?_;rintro _ _ ⟨rfl,rfl⟩;refine afP (.cons (.cons (ax rfl (zp l2) (.refl _)))) ?_;refine bG ?_;refine ai rfl ((pK (i:=j) hw aa aa aa).jg ((pu3 (fR (fR (fR (.refl _))))))) ?_;refine aF ?_;refine lL (rW (i:=j*k) (j:=j*k+k) cD (.tl (.tl .hd)) rfl aa aa rfl (aJ.own (.tail _ (.head _))) (qs _)) rfl ?_;rintro _ _ ⟨rfl,rfl⟩;refine afP (.cons (.cons (ax rfl (zp l1) (.refl _)))) ?_;refine ve [] ?_;refine aF ?_;refine aq (.skip (.skip (.refl _))) ?_;refine aF ?_;exact⟨rfl,rfl⟩
theorem SI{row:al}{q:Nat}{x:UInt8}(hq:q<row.length):((row.map (gm x)).take q++row.drop q).set q (gm x (row.getD q 0))=(row.map (gm x)).take (q+1)++row.drop (q+1):=by
 rw[wS _ _ bR,ba (by simpa using hq) 0,dx hq 0];have e:q-((row.map (gm x)).take q).length=0:=by simp;omega
 rw[e,List.set_cons_zero,bV];congr 1;simp[bk,hq]
theorem PK{x:al}{i:Nat}{y:UInt8}(hw:(cs.drop o).take 3=[ah (r:Int),ah (k:Int),.slice A (N*k) c])(hx:x.length=N*k)(hN:N≤255)(hi:i<N)(hk:k≤255):
  a_ B w0 333 [.pointer (some ⟨g,o,none⟩),ah (i:Int),.int .u8 (y.toNat:Int)] (.own 5 1 A (N*k) c (bv x):: .bD g bt cs::F) (fun v L=>v= .tuple #[]∧L= .own 5 1 A (N*k) c (bv (jV k x i y)):: .bD g bt cs::F):=by
 refine dL.xf (aJ.own (.head _)) fun mh _=>?_;have h1:=fM (k:=k) hi;have l1:=eW hx hi;obtain⟨row,Cc⟩:=cN (jf k x i);have hms:jV k x i y=oy k x i (row.map (gm y)):=by rw[Cc];rfl
 have Yz:oy k x i ((row.map (gm y)).take 0++row.drop 0)=x:=by rw[z_,nA,tb,Cc];exact Y8 hx hi
 rw[←Cc]at l1;refine fw func333 29 [0,1,2] ?_;refine bF ?_;refine ai rfl (UY (sp y)) ?_;refine bc fun g6=>?_;refine kJ (nQ 256 ag rfl rfl (Ei _ _) aV rfl (BB _)) ?_;refine bz ?_;refine ai rfl ((pK (i:=i) hw aa aa aa).jg ((BN (fR (fR (.refl _)))))) ?_;refine cY ?_;refine aE (fun zf zL zm=>∃(q:Nat),(q≤k)∧k-q=zm∧Sub zf [(6,br g6),(7,G6 A c (i*k) k),(15,G6 A c (i*k) k),(16,ah ((i*k+k-i*k:Nat):Int)),(17,ah (q:Int))]∧Wk zL (.own 5 1 A (N*k) c (bv (oy k x i ((row.map (gm y)).take q++row.drop q)))::Rwb g6 (yH y.toNat):: .bD g bt cs::F)) _ ⟨0,bT _,rfl,bp,.trans ((gl (ed (ed (.refl _))))) (ax rfl (by rw[Yz]) (.refl _))⟩ ?_;rintro _ _ _ ⟨q,hq,rfl,hs,hp⟩;refine aU hs hp ?_;clear hs hp;refine bz ?_;refine aj (fun jk=>?_) fun jk=>?_
 ·obtain⟨R,hR⟩:=cN ((row.map (gm y)).take q++row.drop q);have U7:R.length=k:=by rw[hR];simp;omega
  have hRm:jf k (oy k x i R) i=R:=Y7 hx hi U7;have y9:=rr hx hi U7;have sI:=SI (row:=row) (x:=y) (show q<row.length by omega);obtain⟨u,hu⟩:=cN (row.getD q 0);have hRq:R.getD q 0=u:=by rw[hR,hu,bk,bk,sO bR,k_7];congr 2;simp;omega
  have qY:aJ B w0 (.own 5 1 A (N*k) c (bv (oy k x i R))::Rwb g6 (yH y.toNat):: .bD g bt cs::F) 1 (G6 A c (i*k) k) (i*k+k-i*k) (bv R):=by
   have:=(aJ.own (B:=B) (w0:=w0) (L:=.own 5 1 A (N*k) c (bv (oy k x i R))::Rwb g6 (yH y.toNat):: .bD g bt cs::F) (.head _)).part h1;rw[show((oy k x i R).drop (i*k)).take k=R from hRm]at this;exact this
  have y':=sp u;have hrg:(yH y.toNat).getD u.toNat 0=(((gm y u).toNat:Nat):Int):=by rw[Ff y',iA]
  rw[←hR,←hu]at sI;rw[←hR];refine bL ?_;refine ab (aC (i:=q) (size:=1) underlying27 ag rfl rfl rfl aa qY) rfl ?_;refine ab (jo ag rfl qY aa) rfl ?_;rw[hRq];refine bJ ?_;refine ab (aM (i:=u.toNat) underlying382 ag rfl rfl rfl y') rfl ?_;refine ab (eY ag rfl aV (by rw[Fg];exact y')) rfl ?_;rw[hrg];refine ab (aC (i:=q) (size:=1) underlying27 ag rfl rfl rfl aa qY) rfl ?_;refine kJ (GB (q:=q*1) ag rfl rfl rfl .hd aa (by rw[HA,y9];omega)) ?_;refine bL ?_;refine av ⟨_,aa,q+1,aa,rfl,bp,ax rfl (by rw[cE q,adx hx hi U7 aa,sI]) (.refl _)⟩
 ·obtain rfl:q=k:=by omega
  have tT:(row.map (gm y)).take q++row.drop q=row.map (gm y):=by rw[fL bR,Iz aa,gk]
  rw[tT,←hms];refine bG ?_;refine aq ((ed (gl (.skip (.refl _))))) ?_;refine aF ?_;exact⟨rfl,rfl⟩
theorem afV{x:al}{i j:Nat}{y:UInt8}(hw:(cs.drop o).take 3=[ah (r:Int),ah (k:Int),.slice A (N*k) c])(hx:x.length=N*k)(hN:N≤255)(hi:i<N)(hj:j<N)(hk:k≤255):
  a_ B w0 334 [.pointer (some ⟨g,o,none⟩),ah (i:Int),.int .u8 (y.toNat:Int),ah (j:Int)] (.own 5 1 A (N*k) c (bv x):: .bD g bt cs::F) (fun v L=>v= .tuple #[]∧L= .own 5 1 A (N*k) c (bv (rp k x i y j)):: .bD g bt cs::F):=by
 refine dL.xf (aJ.own (.head _)) fun mh _=>?_;have h1:=fM (k:=k) hi;have h2:=fM (k:=k) hj;have l1:=eW hx hi;have l2:=eW hx hj;have l3:(qR (jf k x i) y (jf k x j)).length=k:=by rw[qS aa];exact l1
 refine fw func334 26 [0,1,2,3] ?_;refine b8 ?_;refine ai rfl ((pK (i:=i) hw aa aa aa).jg ((l6 (fR (.refl _))))) ?_;refine bF ?_;refine ai rfl ((pK (i:=j) hw aa aa aa).jg ((l6 (fR (.refl _))))) ?_;refine ay rfl (UX (s:=jf k x i) (b:=jf k x j) aa aa aa ((aJ.own (.head _)).part h1) ((aJ.own (.head _)).part h2) aa) fun sX uO=>?_;refine bL ?_;have l4:(jf k x i).length=(qR (jf k x i) y (jf k x j)).length:=by omega
 rw[l4];refine bF ?_;refine ai rfl ((pK (i:=i) hw aa aa aa).jg ((BN (fR (fR (.refl _)))))) ?_;refine aF ?_;refine lL (rW (i:=i*k) (j:=i*k+k) cD (.tl .hd) rfl aa aa rfl (aJ.own (.head _)) (qs _)) rfl ?_;rintro _ _ ⟨rfl,rfl⟩;refine afP (.cons (ax rfl (zp l3) (.refl _))) ?_;refine ve [] ?_;refine aF ?_;refine aq (.skip (.refl _)) ?_;refine aF ?_;exact⟨rfl,rfl⟩
abbrev PrB(g:Nat)(A1 A2:bj)(n c1 c2:Nat):Ch:=.bD g 421 [ah (n:Int),ah (n:Int),.slice A1 (n*n) c1,ah (n:Int),ah (n:Int),.slice A2 (n*n) c2]
theorem Zr{k Lt f i:Nat}{x:al}(h:fH k x i Lt=0):vE k x Lt (f+1) i=vE k x Lt f (i+1):=by rw[vE,ao h]
theorem Zs{k Lt f i:Nat}{x:al}(h:¬fH k x i Lt=0):vE k x Lt (f+1) i=i:=by rw[vE,aw h]
theorem zy{n a:Nat}(ha:a<n):∀(f q:Nat) (p:al×al),q+f≤n→p.1.length=n*n→p.2.length=n*n→(ku n a f q p).1.length=n*n∧(ku n a f q p).2.length=n*n
 |0,q,p,_,h1,h2=>⟨h1,h2⟩
 |f+1,q,p,hq,h1,h2=>by
  rw[ku];split
  ·exact zy ha f (q+1) _ aa (rq h1 ha aa) (rq h2 ha aa)
  ·exact zy ha f (q+1) _ aa h1 h2
theorem QX{n a f q:Nat}{p:al×al}(h:q≠a∧fH n p.1 q a≠0):ku n a (f+1) q p=ku n a f (q+1) (rp n p.1 q (fH n p.1 q a) a,rp n p.2 q (fH n p.1 q a) a):=by rw[ku,ao h]
theorem DN{n a f q:Nat}{p:al×al}(h:¬(q≠a∧fH n p.1 q a≠0)):ku n a (f+1) q p=ku n a f (q+1) p:=by rw[ku,aw h]
theorem abl{n a:Nat}{p:al×al}(ha:a<n)(h1:p.1.length=n*n)(h2:p.2.length=n*n):(rT n a p).2.1.length=n*n∧(rT n a p).2.2.length=n*n:=by
 unfold rT;split
 ·exact⟨h1,h2⟩
 ·rename_i h;obtain⟨p1,p2,_,_⟩:=rv n p.1 a (n-a) a;have hI:wA n a p<n:=by unfold wA at h⊢;omega
  exact zy ha n 0 _ aa (mZ (oJ h1 ha hI) ha) (mZ (oJ h2 ha hI) ha)
abbrev PrL(g:Nat)(A1 A2:bj)(n c1 c2:Nat)(x y:al)(F:aP):aP:=PrB g A1 A2 n c1 c2:: .own 5 1 A1 (n*n) c1 (bv x):: .own 5 1 A2 (n*n) c2 (bv y)::F
set_option maxHeartbeats 1000000 in
theorem agN{a:Nat}{x y:al}(hn:n≤255)(ha:a<n)(hx:x.length=n*n)(hy:y.length=n*n):
  a_ B w0 312 [br g,ah (a:Int),ah (a:Int)] (PrL g A1 A2 n c1 c2 x y F) (fun v L=>v= .bool (rT n a (x,y)).1∧L=PrL g A1 A2 n c1 c2 (rT n a (x,y)).2.1 (rT n a (x,y)).2.2 F):=by
 refine dL.xf (aJ.own (.tail _ (.head _))) fun mh _=>?_;have h1:=fM (k:=n) ha;obtain⟨q1,q2,q3,q4⟩:=rv n x a (n-a) a;have hIe:wA n a (x,y)=vE n x a (n-a) a:=rfl;refine fw func312 117 [0,1,2] ?_;refine cY ?_;refine d_ (fun zf zL=>∃(i:Nat),(a≤i∧i≤n∧wA n a (x,y)=i)∧Sub zf [(0,br g),(1,ah (a:Int)),(2,ah (a:Int)),(7,ah (i:Int))]∧Wk zL (PrL g A1 A2 n c1 c2 x y F)) ?_ ?_
 ·refine aF ?_;refine aE (fun zf zL zm=>∃(i:Nat),(a≤i∧i≤n∧wA n a (x,y)=vE n x a (n-i) i)∧n-i=zm∧Sub zf [(0,br g),(1,ah (a:Int)),(2,ah (a:Int)),(7,ah (i:Int))]∧Wk zL (PrL g A1 A2 n c1 c2 x y F)) _ ⟨a,⟨gj _,aa,hIe⟩,rfl,bp,.refl _⟩ ?_;rintro _ _ _ ⟨i,⟨hai,Ys,hI⟩,rfl,hs,hp⟩;refine aU hs hp ?_;clear hs hp;refine cJ ?_;refine cP (fun lW=>?_) fun lW=>?_
  ·have hri:=fM (k:=n) (show i<n by omega);have hnf:n-i=(n-(i+1))+1:=by omega
   have qY:aJ B w0 (PrL g A1 A2 n c1 c2 x y F) 1 (G6 A1 c1 (i*n) n) (i*n+n-i*n) (bv (jf n x i)):=(aJ.own (.tail _ (.head _))).part hri;have fy:(jf n x i).getD a 0=fH n x i a:=lq _ _ ha;refine bJ ?_;refine ai rfl (pK (i:=i) (o:=0) (r:=n) (n:=n*n) rfl aa aa aa) ?_;refine bF ?_;refine ab (aC (i:=a) (size:=1) underlying27 ag rfl rfl rfl aa qY) rfl ?_;refine aF ?_;refine ab (jo ag rfl qY aa) rfl ?_;rw[fy];refine bF ?_;refine ve [0,1,2,7,31] ?_;refine aF ?_;refine aj (fun D5=>?_) fun D5=>?_
   ·have hz:fH n x i a=0:=nZ (by have:=D5;show(fH n x i a).toNat=0;omega);refine bQ ?_;refine av ⟨_,aa,i+1,⟨aa,aa,by rw[hI,hnf,Zr hz]⟩,rfl,bp,.refl _⟩
   ·have hz:¬fH n x i a=0:=fun e=>D5 C6;refine b8 ?_;exact bC ⟨i,⟨aa,aa,by rw[hI,hnf,Zs hz]⟩,bp,.refl _⟩
  ·have hie:i=n:=by omega
   refine bQ ?_;refine ve [0,1,2,7,31] ?_;refine bz ?_;exact bC ⟨i,⟨aa,aa,by rw[hI,hie,nx,vE]⟩,bp,.refl _⟩
 ·rintro _ _ ⟨i,⟨hai,Ys,hI⟩,hs,hp⟩;refine aU hs hp ?_;clear hs hp;refine de ?_;refine aj (fun zM=>?_) fun zM=>?_
  ·have e:rT n a (x,y)=(false,x,y):=by unfold rT;rw[ao aa]
   refine bJ ?_;rw[e];exact⟨rfl,rfl⟩
  ·have hI2:i<n:=by omega
   have e:rT n a (x,y)=(true,QC n a (x,y)):=by unfold rT;rw[aw aa]
   have ex:(JL n a (x,y))=(pA n x a i,pA n y a i):=by unfold JL;rw[hI]
   have LD:=oJ hx ha hI2;have NF:=oJ hy ha hI2;refine bQ ?_;refine ai rfl (.perm (W4 (o:=0) (r:=n) (i:=a) (j:=i) (N:=n) (k:=n) rfl hx hn ha hI2 hn) ((l6 (fR (.refl _))))) ?_;refine bQ ?_;refine ai rfl (.perm (W4 (o:=3) (r:=n) (i:=a) (j:=i) (N:=n) (k:=n) rfl hy hn ha hI2 hn) ((BN (l6 (fR (.refl _)))))) ?_;refine ve [0,1,2] ?_;refine be ?_;obtain⟨x1,asX⟩:=cN (pA n x a i);obtain⟨y1,as0⟩:=cN (pA n y a i);rw[←asX]at LD ex⊢;rw[←as0]at NF ex⊢;refine fP ((l6 (l6 (fR (.refl _))))) ?_;have qY:aJ B w0 (PrL g A1 A2 n c1 c2 x1 y1 F) 1 (G6 A1 c1 (a*n) n) (a*n+n-a*n) (bv (jf n x1 a)):=(aJ.own (.tail _ (.head _))).part h1;have fy:(jf n x1 a).getD a 0=fH n x1 a a:=lq _ _ ha;obtain⟨y0,hy0⟩:=cN (kI (fH n x1 a a));have asZ:qT (fH n x1 a a).toNat=y0.toNat:=by rw[hy0,wF]
   refine bG ?_;refine ai rfl (pK (i:=a) (o:=0) (r:=n) (n:=n*n) rfl aa aa aa) ?_;refine aF ?_;refine ab (aC (i:=a) (size:=1) underlying27 ag rfl rfl rfl aa qY) rfl ?_;refine ab (jo ag rfl qY aa) rfl ?_;rw[fy];refine ai rfl (aj7 (sp (fH n x1 a a))) ?_;refine bJ ?_;rw[asZ];refine bz ?_;refine ai rfl (.perm (PK (o:=0) (r:=n) (i:=a) (y:=y0) (N:=n) (k:=n) rfl LD hn ha hn) ((l6 (fR (.refl _))))) ?_;refine ve [0,1,2,8] ?_;refine bJ ?_;refine ai rfl (.perm (PK (o:=3) (r:=n) (i:=a) (y:=y0) (N:=n) (k:=n) rfl NF hn ha hn) ((BN (l6 (fR (.refl _)))))) ?_;refine b8 ?_;refine fP ((l6 (l6 (fR (.refl _))))) ?_;have hs:ane n a (JL n a (x,y))=(jV n x1 a y0,jV n y1 a y0):=by rw[ex,hy0];rfl
   have hc3:QC n a (x,y)=ku n a n 0 (jV n x1 a y0,jV n y1 a y0):=by unfold QC;rw[hs]
   have hx2:=mZ (c:=y0) LD ha;have RF:=mZ (c:=y0) NF ha;rw[hc3]at e;refine cY ?_;refine aE (fun zf zL zm=>∃(q:Nat) (X Y:al),(q≤n∧X.length=n*n∧Y.length=n*n∧rT n a (x,y)=(true,ku n a (n-q) q (X,Y)))∧n-q=zm∧Sub zf [(0,br g),(1,ah (a:Int)),(2,ah (a:Int)),(83,ah (n:Int)),(84,ah (q:Int))]∧Wk zL (PrL g A1 A2 n c1 c2 X Y F)) _ ⟨0,jV n x1 a y0,jV n y1 a y0,⟨bT _,hx2,RF,e⟩,rfl,bp,.refl _⟩ ?_;rintro _ _ _ ⟨q,X,Y,⟨hq,hX,hY,hE⟩,rfl,hs,hp⟩;refine aU hs hp ?_;clear hs hp;refine bz ?_;refine aj (fun h85=>?_) fun h85=>?_
   ·have hrq:=fM (k:=n) (show q<n by omega);have hnf:n-q=(n-(q+1))+1:=by omega
    have acM:aJ B w0 (PrL g A1 A2 n c1 c2 X Y F) 1 (G6 A1 c1 (q*n) n) (q*n+n-q*n) (bv (jf n X q)):=(aJ.own (.tail _ (.head _))).part hrq;have acw:(jf n X q).getD a 0=fH n X q a:=lq _ _ ha;obtain⟨d,hd⟩:=cN (fH n X q a);rw[←hd]at acw;refine jS ?_;refine ai rfl (pK (i:=q) (o:=0) (r:=n) (n:=n*n) rfl aa aa aa) ?_;refine aF ?_;refine ab (aC (i:=a) (size:=1) underlying27 ag rfl rfl rfl aa acM) rfl ?_;refine ab (jo ag rfl acM aa) rfl ?_;rw[acw];refine bQ ?_;refine cP (fun h98=>?_) fun h98=>?_
    ·refine bz ?_;refine aj (fun apR=>?_) fun apR=>?_
     ·have sI:ku n a (n-q) q (X,Y)=ku n a (n-(q+1)) (q+1) (rp n X q d a,rp n Y q d a):=by
       rw[hnf,QX ⟨aa,fun k=>apR (by rw[hd];show((fH n X q a).toNat:Int)=0;rw[show fH n X q a=0 from k];rfl)⟩];show ku n a _ _ (rp n X q (fH n X q a) a,rp n Y q (fH n X q a) a)=_;rw[←hd]
      have hX2:=rq (c:=d) hX ha (show q<n by omega);have hY2:=rq (c:=d) hY ha (show q<n by omega);refine bJ ?_;refine ai rfl (.perm (afV (o:=0) (r:=n) (i:=q) (j:=a) (y:=d) (N:=n) (k:=n) rfl hX hn aa ha hn) ((l6 (fR (.refl _))))) ?_;refine ve [0,1,2,10,11,83,84] ?_;refine bJ ?_;refine ai rfl (.perm (afV (o:=3) (r:=n) (i:=q) (j:=a) (y:=d) (N:=n) (k:=n) rfl hY hn aa ha hn) ((BN (l6 (fR (.refl _)))))) ?_;refine bL ?_;refine av ⟨_,aa,q+1,rp n X q d a,rp n Y q d a,⟨aa,hX2,hY2,by rw[hE,sI]⟩,rfl,bp,(gl (gl (ed (.refl _))))⟩
     ·have sI:ku n a (n-q) q (X,Y)=ku n a (n-(q+1)) (q+1) (X,Y):=by
       rw[hnf,DN (fun k=>k.2 (by rw[←hd];exact nZ (by show d.toNat=0;omega)))]
      refine bz ?_;refine ve [0,1,2,83,84] ?_;refine av ⟨_,aa,q+1,X,Y,⟨aa,hX,hY,by rw[hE,sI]⟩,rfl,bp,.refl _⟩
    ·have sI:ku n a (n-q) q (X,Y)=ku n a (n-(q+1)) (q+1) (X,Y):=by
      rw[hnf,DN (fun k=>k.1 aa)]
     refine cY ?_;refine ve [0,1,2,83,84] ?_;refine av ⟨_,aa,q+1,X,Y,⟨aa,hX,hY,by rw[hE,sI]⟩,rfl,bp,.refl _⟩
   ·obtain rfl:q=n:=by omega
    rw[nx,ku]at hE;refine cJ ?_;rw[hE];exact⟨rfl,rfl⟩
theorem aav{x:al}(hn:n≤255)(hx:x.length=n*n)(hb:aJ B w0 F 1 (.slice A (n*n) c) (n*n) (bv x)):
  a_ B w0 311 [vt A n n (n*n) c] F (fun v L=>∃g A1 c1 A2 c2,v=br g∧L=PrL g A1 A2 n c1 c2 x (NG n) F):=by
 have P8:n*n≤255*255:=gN hn hn;refine ct func311 17 rfl rfl rfl [(0,.agg #[ah (n:Int),ah (n:Int),.slice A (n*n) c])] ⟨⟨rfl,rfl⟩,trivial⟩ ?_;refine be ?_;refine bh fun g1=>?_;refine bL ?_;refine ay rfl (uq (l:=x) hx.symm rfl hb.cons aa) fun A5 c5=>?_;refine bG ?_;rw[hx];refine fP ((l6 (fR (.refl _)))) ?_;refine cF (CX g1 A5 n n (n*n) c5:: .own 5 1 A5 (n*n) c5 (bv x)::F) ?_;refine ae 0 ?_;refine aW 1 rfl (eG [(0,_)] [_,_,_] rfl rfl ag) ?_;refine ae 2 ?_;refine ae 3 ?_;refine ae 4 ?_;refine ae 5 ?_;refine az 6 ?_;refine bZ rfl rfl (R4 (Q:=[]) (cap:=[]) (fun i j=>if i=j then 1 else 0) hn hn ajP (NM _) (fun i j L _ _ _=>On i j)) fun xc F7=>?_;refine aW 7 rfl (eG [(0,_)] [_,_,_] rfl rfl ag) ?_;refine aW 8 rfl (eG [(0,_),(1,_)] [_,_,_,_,_,_] rfl rfl ag) ?_;refine az 9 ?_;refine cR rfl (UG rfl rfl) fun g16=>?_;refine ae 10 ?_;refine cQ [2] ?_;refine be ?_;refine aq ((ed (rM (ed (.skip (.refl _)))))) ?_;refine aF ?_;exact⟨g16,A5,c5,xc,F7,rfl,rfl⟩
theorem YI{n f i:Nat}{p:al×al}(h:(rT n i p).1=true):Ej n (f+1) i p=Ej n f (i+1) (rT n i p).2:=by rw[Ej,ao h]
theorem YH{n f i:Nat}{p:al×al}(h:¬(rT n i p).1=true):Ej n (f+1) i p=none:=by rw[Ej,aw h]
theorem YJ{x b:al}(hn:n≤255)(hx:x.length=n*n)(hi:ahH n x=some b)(hb:aJ B w0 F 1 (.slice A (n*n) c) (n*n) (bv x)):
  a_ B w0 279 [vt A n n (n*n) c] F (fun v L=>∃A' c',v= .tuple #[vt A' n n (n*n) c',ah 0]∧L= .own 5 1 A' (n*n) c' (bv b)::F):=by
 refine ct func279 36 rfl rfl rfl [(0,.agg #[ah (n:Int),ah (n:Int),.slice A (n*n) c])] ⟨⟨rfl,rfl⟩,trivial⟩ ?_;refine be ?_;refine bh fun g1=>?_;refine bc fun g2=>?_;refine bL ?_;refine ai rfl (yq hn hn rfl) ?_;refine jy ?_;refine dm fun jG=>?_;refine bG ?_;refine aX api rfl (aav hn hx hb.cons.cons) rfl ?_;rintro _ _ ⟨gp,Ax,cx,Ay,cy,rfl,cA⟩;obtain rfl:=cA.symm;refine cJ ?_;refine aE (fun zf zL zm=>∃(i:Nat) (p:al×al),(i≤n∧p.1.length=n*n∧p.2.length=n*n∧(Ej n (n-i) i p).map (·.2)=some b)∧n-i=zm∧Sub zf [(2,br g2),(4,br gp),(20,ah (n:Int)),(21,ah (i:Int))]∧Wk zL (PrL gp Ax Ay n cx cy p.1 p.2 (.bD g2 272 [ah 0,ah 0,.slice none 0 0]::CX g1 A n n (n*n) c::F))) _ ⟨0,(x,NG n),⟨bT _,hx,Vg n,hi⟩,rfl,bp,.refl _⟩ ?_;rintro _ _ _ ⟨i,p,⟨Ys,Cb,hp2,hI⟩,rfl,hs,hp⟩;refine aU hs hp ?_;clear hs hp;refine bz ?_;refine aj (fun rJ=>?_) fun rJ=>?_
 ·have hnf:n-i=(n-(i+1))+1:=by omega
  have r7:=abl (p:=p) (show i<n by omega) Cb hp2;refine jy ?_;refine ai rfl (agN (x:=p.1) (y:=p.2) hn aa Cb hp2) ?_;refine ab (iQ rfl) rfl ?_;refine be ?_;refine gD (fun qx=>?_) fun qx=>?_
  ·exfalso;(rw[hnf,YH (by simpa using qx)]at hI;simp at hI)
  ·rw[hnf,YI (by simpa using qx)]at hI;refine bL ?_;refine av ⟨_,aa,i+1,(rT n i p).2,⟨aa,r7.1,r7.2,hI⟩,rfl,bp,.refl _⟩
 ·obtain rfl:i=n:=by omega
  have LA:p.2=b:=by
   rw[nx,Ej]at hI;exact NZ hI
  rw[LA];refine cY ?_;refine ab (bU 3 ag rfl aV [ah (i:Int),ah (i:Int),.slice Ay (i*i) cy] rfl rfl) rfl ?_;refine bG ?_;refine gT rfl rfl ag aV gC rfl ((rM (.skip (.skip (.skip (.skip (.refl _))))))) ?_;exact⟨Ay,cy,rfl,rfl⟩
section
theorem Dv{C:Cx}{fr:Fr}{L:aP}{x:Operand}{ty t e:TypeId}{A:bj}{n c:Nat}(ht:C.P.underlying t=some (.slice e))(h:ev fr x=some (.slice A n c)):gI C fr L (.call {callee:=.builtin .cap,args:= #[x],argTypes:= #[t]}) ty (ah (c:Int)):=fun a w ha hw d pos af g=>by
 simp[execOp,resolve,invoke,builtin,Builtin.cap_,ha.tmp h,iO ht,goInt]
theorem abF{C:Cx}{fr:Fr}{L:aP}{x y:Operand}{ty t xt e:TypeId}{size bytes m:Nat}{zv:Value}{k kn:IntKind}(T:sC C.P t e size bytes zv)(hx:C.P.underlying xt=some (.int kn))(he:ev fr x=some (.slice none 0 0))(hy:ev fr y=some (.int k (m:Int)))(hm:0<m)(hs:0<size)(hb:m*bytes≤140737488355328)(GF:m≤140737488355328):
  qp C fr L (.call {callee:=.builtin .append,args:= #[x,y],argTypes:= #[t,xt]}) ty (fun p L'=>∃A c,p= .slice A m c∧L'= .own e size A 0 c []::L):=fun a w ha hw d pos af gg=>by
 obtain⟨i,hi,hz,i_,D8⟩:=T.hi;have hr:=Lib.run_append_nil_zeros (P:=C.P) w t xt ty e i zv k kn T.ht hx hi hz m hm aa aa (by rw[D8];omega);have wH:=grownCap_ge w m 0 e;have hle:=grownCap_le_maxLen w m 0 e Bl;have U_:∀(o:Obj) (row:Option Nat),w.grownBy (w.drew.alloc o) row:=fun o row=>⟨rfl,rfl,rfl,ak,fun k hk _=>heap_alloc_old w.drew o hk⟩
 refine⟨_,w.drew.alloc (.cells (Builtin.zeroCells zv.cells m++Builtin.zeroCells zv.cells (grownCap w m 0 e-m)) e),_,.inl ?_,⟨some ⟨w.heap.size,0,none⟩,grownCap w m 0 e,rfl,rfl⟩,hw.gL (U_ _ none) ⟨ak,bT _,.inr ⟨w.heap.size,_,rfl,hw.base,Es w.drew _,hle,?_,ak⟩⟩ (.inr ⟨w.heap.size,by simp[Ch.fp];omega,gj _⟩)⟩
 ·simp[execOp,resolve,invoke,builtin,ha.tmp he,ha.tmp hy,hr]
 ·simp only[Array.size_append,size_zeroCells,T.hz,←mH];congr 1;omega
variable{B:Nat}{w0:World}{F L0:aP}{A A1 A2 Ao:bj}{n c c1 c2 co g gc r k m N:Nat}
theorem aik(m:Nat)(h0:0<m)(hn:m≤1000000):
  a_ B w0 313 [.slice none 0 0,ah m] F (fun r L=>∃A' c',r= .slice A' 0 c'∧L= .own 27 1 A' 0 c' []::F):=by
 refine fw func313 27 [0,1] ?_;refine cJ ?_;refine dm fun h6=>?_;refine bL ?_;refine ab (Dv underlying52 rfl) rfl ?_;refine bF ?_;refine ab (dw rfl rfl (r:=(m:Int)) ((bE aa aa).trans aa)) rfl ?_;refine bQ ?_;refine zG fun kh=>?_;refine bF ?_;refine ab (Dv underlying52 rfl) rfl ?_;refine ab (bN (i:=0) (size:=1) underlying52 ag rfl rfl rfl aa) rfl ?_;refine aF ?_;refine fN (abF (m:=m) fD underlying3 rfl rfl h0 aa aa aa) fun A22 c22=>?_;refine be ?_;refine ab (bN (i:=0) (size:=1) underlying52 ag rfl rfl rfl aa) rfl ?_;refine aF ?_;refine ve [0] ?_;refine bQ ?_;exact⟨A22,c22,rfl,rfl⟩
theorem Zq{n1 n2:Nat}{V1 V2:cV}(hr:aJ B w0 F 1 (.slice A 2 c) 2 [.slice A1 n1 c1,.slice A2 n2 c2])(h1:aJ B w0 F 1 (.slice A1 n1 c1) n1 V1)(h2:aJ B w0 F 1 (.slice A2 n2 c2) n2 V2)(k1:∀u∈V1,u.oneCell'=true)(k2:∀u∈V2,u.oneCell'=true)(h0:0<n1)(hn1:n1≤10000)(tU:n2≤10000):
  a_ B w0 280 [.slice A 2 c] F (fun r L=>∃A' c',r= .slice A' (n1+n2) c'∧L= .own 27 1 A' (n1+n2) c' (V1++V2)::F):=by
 refine fw func280 36 [0] ?_;refine zH ?_;refine aE (fun zf zL zm=>∃(i q:Nat),((i=0∧q=0)∨(i=1∧q=n1)∨(i=2∧q=n1+n2))∧2-i=zm∧Sub zf [(0,.slice A 2 c),(3,ah (q:Int)),(9,.slice A 2 c),(10,ah 2),(11,ah (i:Int))]∧Wk zL (F)) _ ⟨0,0,.inl ⟨rfl,rfl⟩,rfl,bp,.refl _⟩ ?_;rintro _ _ _ ⟨i,q,lf,rfl,hs,hp⟩;refine aU hs hp ?_;clear hs hp;refine bz ?_;refine aj (fun mA=>?_) fun mA=>?_
 ·obtain⟨Ai,ni,ci,fy,hni⟩:∃(Ai:bj) (ni ci:Nat),([.slice A1 n1 c1,.slice A2 n2 c2]:cV)[i*1]? =some (.slice Ai ni ci)∧ni=(if i=0 then n1 else n2):=by
   have:i=0∨i=1:=by omega
   rcases this with rfl|rfl
   ·exact⟨A1,n1,c1,rfl,rfl⟩
   ·exact⟨A2,n2,c2,rfl,rfl⟩
  have atT:ni≤10000:=by rw[hni];split<;>omega
  refine bL ?_;refine ab (au ag rfl aB aa fy) rfl ?_;refine bJ ?_;refine ab (bY rfl rfl (r:=((q+ni:Nat):Int)) ((bE aa aa).trans aa)) rfl ?_;refine bQ ?_;refine dm fun iY=>?_;refine bL ?_;refine av ⟨_,aa,i+1,q+ni,(by
   rcases lf with h|h|h
   ·rw[ao h.1]at hni;exact .inr (.inl ⟨aa,aa⟩)
   ·rw[aw aa]at hni;exact .inr (.inr ⟨aa,aa⟩)
   ·omega),rfl,bp,.refl _⟩
 ·obtain rfl:q=n1+n2:=by omega
  refine bJ ?_;refine ay rfl (aik (n1+n2) aa aa) fun Bi Df=>?_;refine cJ ?_;refine aE (fun zf zL zm=>∃(i q:Nat) (A':bj) (c':Nat) (acc:cV),((i=0∧q=0∧acc=[])∨(i=1∧q=n1∧acc=V1)∨(i=2∧q=n1+n2∧acc=V1++V2))∧2-i=zm∧Sub zf [(6,.slice A' q c'),(25,.slice A 2 c),(26,ah 2),(27,ah (i:Int))]∧Wk zL (.own 27 1 A' q c' acc::F)) _ ⟨0,0,Bi,Df,[],.inl ⟨rfl,rfl,rfl⟩,rfl,bp,.refl _⟩ ?_;rintro _ _ _ ⟨i,q,A',c',acc,aqi,rfl,hs,hp⟩;refine aU hs hp ?_;clear hs hp;refine bz ?_;refine aj (fun qx=>?_) fun qx=>?_
  ·obtain⟨Ai,ni,ci,V,fy,hV,hb,hk,hni,hVe⟩:∃(Ai:bj) (ni ci:Nat) (V:cV),([.slice A1 n1 c1,.slice A2 n2 c2]:cV)[i*1]? =some (.slice Ai ni ci)∧V=(if i=0 then V1 else V2)∧aJ B w0 F 1 (.slice Ai ni ci) ni V∧(∀u∈V,u.oneCell'=true)∧ni=(if i=0 then n1 else n2)∧ni≤10000:=by
    have:i=0∨i=1:=by omega
    rcases this with rfl|rfl
    ·exact⟨A1,n1,c1,V1,rfl,rfl,h1,k1,rfl,hn1⟩
    ·exact⟨A2,n2,c2,V2,rfl,rfl,h2,k2,rfl,tU⟩
   refine bL ?_;refine ab (au ag rfl aB aa fy) rfl ?_;refine bz ?_;refine fN (bS fD rfl aV rfl (hb.cons) hk aa aa) fun PO c33=>?_;refine bJ ?_;refine av ⟨_,aa,i+1,q+ni,PO,c33,acc++V,(by
    rcases aqi with h|h|h
    ·rw[ao h.1]at hni hV;rw[hV,h.2.2];exact .inr (.inl ⟨aa,aa,rfl⟩)
    ·rw[aw aa]at hni hV;rw[hV,h.2.2];exact .inr (.inr ⟨aa,aa,rfl⟩)
    ·omega),rfl,bp,.refl _⟩
  ·obtain⟨rfl,mE⟩:q=n1+n2∧acc=V1++V2:=by
    rcases aqi with h|h|h
    ·omega
    ·omega
    ·exact⟨h.2.1,h.2.2⟩
   subst mE;refine de ?_;exact⟨A',c',rfl,rfl⟩
theorem Wg(hk:1≤k)(Gb:k+m≤255):a_ B w0 189 [ah (k:Int),ah (m:Int)] F (fun v L=>v= .bool true∧L=F):=by
 refine fw func189 25 [0,1] ?_;refine bA ?_;refine cP (fun h7=>?_) fun h7=>?_
 ·refine bG ?_;refine cP (fun pg=>?_) fun pg=>?_
  ·refine bG ?_;refine cP (fun jG=>?_) fun jG=>?_
   ·refine bG ?_;refine cP (fun pR=>?_) fun pR=>?_
    ·refine bQ ?_;refine ve [4] ?_;refine bF ?_;exact⟨aaX,rfl⟩
    ·exfalso;omega
   ·exfalso;omega
  ·exfalso;omega
 ·exfalso;omega
abbrev iP:kO:=(none,0,[])
theorem G1{PB:List kO}{i:Nat}(h:i<PB.length):(PB.map dq)[i*1]? =some (dq (PB.getD i iP)):=by
 simp[bk,fm h]
theorem ET{PB:List kO}{i:Nat}:(PB.map (·.2.2)).getD i []=(PB.getD i iP).2.2:=by
 simp only[bk,jr];cases PB[i]? <;>rfl
theorem phd{PB:List kO}:Ik (PB.map (·.2.2))=(PB.getD 0 iP).2.2.length:=by
 cases PB<;>rfl
theorem E2{PB:List kO}:∀u∈PB.map dq,u.oneCell'=true:=fun u hu=>by
 obtain⟨e,_,rfl⟩:=pM.1 hu;rfl
theorem I4{PB:List kO}(hb:aJ B w0 F 1 (.slice A PB.length c) PB.length (PB.map dq))(hl:PB.length≤1000000):
  a_ B w0 190 [.slice A PB.length c] F (fun v L=>v= .bool (decide (rO (PB.map (·.2.2))))∧L=F):=by
 refine fw func190 19 [0] ?_;refine dQ ?_;refine aE (fun zf zL zm=>∃(i:Nat),(i≤PB.length∧∀j,j<i→(PB.getD j iP).2.2.length=(PB.getD 0 iP).2.2.length)∧PB.length-i=zm∧Sub zf [(0,.slice A PB.length c),(5,.slice A PB.length c),(6,ah PB.length),(7,ah (i:Int))]∧Wk zL (F)) _ ⟨0,⟨bT _,fun j hj=>aa⟩,rfl,bp,.refl _⟩ ?_;rintro _ _ _ ⟨i,⟨hi,Ga⟩,rfl,hs,hp⟩;refine aU hs hp ?_;clear hs hp;refine bz ?_;refine aj (fun h8=>?_) fun h8=>?_
 ·have hg:=G1 (PB:=PB) (i:=i) aa;have hg0:=G1 (PB:=PB) (i:=0) aa;have pS:=bg (l:=PB) (show i<PB.length by omega) iP;refine bL ?_;refine ab (au ag rfl aB aa hg) rfl ?_;refine bJ ?_;refine ab (aC (i:=0) (size:=1) underlying52 ag rfl rfl rfl aa aB) rfl ?_;refine ab (au ag rfl aB aa hg0) rfl ?_;refine b8 ?_;refine aj (fun iF=>?_) fun iF=>?_
  ·refine cJ ?_;have hn:¬rO (PB.map (·.2.2)):=fun k=>by
    have:=k _ (jc (f:=fun e:kO=>e.2.2) pS);rw[phd]at this;exact iF aa
   exact⟨by rw[nT hn],rfl⟩
  ·refine bL ?_;refine av ⟨_,aa,i+1,⟨aa,fun j hj=>by
    by_cases e:j=i
    ·subst e;omega
    ·exact Ga j aa⟩,rfl,bp,.refl _⟩
 ·refine cJ ?_;have hp:rO (PB.map (·.2.2)):=fun b oH=>by
   obtain⟨e,he,rfl⟩:=pM.1 oH;obtain⟨j,hj,rfl⟩:=jZ he;have:=Ga j aa;rw[phd,←this,bk,fm hj];rfl
  exact⟨by rw[ox hp],rfl⟩
theorem Bg{α β:Type}:∀(a:List α) (b:List β) (i:Nat),(a.take i).zip (b.take i)=(a.zip b).take i
 |_,_,0=>by simp
 |[],_,_+1=>by simp
 |_::_,[],_+1=>by simp
 |x::a,y::b,i+1=>by simp[Bg a b i]
theorem Z3{n:Nat}{row:al}{data:eH}{j:Nat}(h1:j<row.length)(h2:j<data.length):
  K8 n (row.take (j+1)) (data.take (j+1))=if row.getD j 0=0 then K8 n (row.take j) (data.take j) else qR (K8 n (row.take j) (data.take j)) (row.getD j 0) (data.getD j []):=by
 unfold K8;rw[Bg,Bg,ba bR ((0:UInt8),([]:al)),List.foldl_append];have e:(row.zip data).getD j ((0:UInt8),([]:al))=(row.getD j 0,data.getD j []):=by
  simp[bk,fm (show j<(row.zip data).length by simp;omega),fm h1,fm h2]
 rw[e];rfl
def PtA(l:eH)(e:Option Int)(F:aP)(v:Value)(L:aP):Prop:=
 ∃(A':bj) (c':Nat) (FB:List kO),v=(match e with|some x=>.tuple #[.slice A' FB.length c',ah x]|none=>.slice A' FB.length c')∧L= .own 27 1 A' FB.length c' (FB.map dq)::(FB.map fq++F)∧FB.map (·.2.2)=l
theorem anf{FB:List kO}{r i:Nat}{v:Value}(h:FB.length=i)(hi:i<r):(FB.map dq++List.replicate (r-i) (Value.slice none 0 0)).set (i*1) v=FB.map dq++(v::List.replicate (r-(i+1)) (Value.slice none 0 0)):=by
 subst h;rw[show r-FB.length=(r-(FB.length+1))+1 by omega,zV,cE,wS _ _ ak];simp
theorem I6{PB:List kO}{cells:al}{nn:Nat}(hk:PB.length=k)(xk:1≤k)(hr:r≤255)(Ip:k≤255)(r7:cells.length=r*k)(P8:nn≤1000000000)(Iq:∀e∈PB,e.2.2.length=nn)(hc:aJ B w0 F 1 (.slice A (r*k) c) (r*k) (bv cells))(hb:aJ B w0 F 1 (.slice A2 PB.length c2) PB.length (PB.map dq))(hP:∀e∈PB,aJ B w0 F 1 (dq e) e.2.2.length (bv e.2.2)):
  a_ B w0 192 [vt A r k (r*k) c,.slice A2 PB.length c2] F (PtA (WL r k cells (PB.map (·.2.2)) nn) none F):=by
 have hg0:=G1 (PB:=PB) (i:=0) aa;have hl0:(PB.getD 0 iP).2.2.length=nn:=Iq _ (bg aa iP);obtain⟨P0,hP0⟩:=cN (PB.getD 0 iP);rw[←hP0]at hg0 hl0;refine ct func192 57 rfl rfl rfl [(0,.agg #[ah (r:Int),ah (k:Int),.slice A (r*k) c]),(1,.slice A2 PB.length c2)] ⟨⟨rfl,rfl⟩,⟨rfl,rfl⟩,trivial⟩ ?_;refine be ?_;refine bh fun g2=>?_;refine bL ?_;refine cC (fb (nn:=r) (cc:=r) fD rfl rfl rfl rfl rfl aa aa aa) fun xc=>?_;refine cJ ?_;refine aE (fun zf zL zm=>∃(i:Nat) (FB:List kO),(i≤r∧FB.length=i∧FB.map (·.2.2)=(WL r k cells (PB.map (·.2.2)) nn).take i)∧r-i=zm∧Sub zf [(1,.slice A2 PB.length c2),(2,br g2),(5,.slice xc r r),(15,ah r),(16,ah (i:Int))]∧Wk zL (.own 27 1 xc r r (FB.map dq++List.replicate (r-i) (.slice none 0 0))::CX g2 A r k (r*k) c::(FB.map fq++F))) _ ⟨0,[],⟨bT _,rfl,rfl⟩,rfl,bp,.refl _⟩ ?_;rintro _ _ _ ⟨i,FB,⟨hi,Ra,sH⟩,rfl,hs,hp⟩;refine aU hs hp ?_;clear hs hp;refine bz ?_;refine aj (fun iF=>?_) fun iF=>?_
 ·have Cc:=eW r7 (show i<r by omega);have hrl:=fM (k:=k) (show i<r by omega);have hrk:r*k≤255*255:=gN hr Ip;have hbF:aJ B w0 (FB.map fq++F) 1 (.slice A2 PB.length c2) PB.length (PB.map dq):=hb.mono (gy _ _);have hcF:aJ B w0 (FB.map fq++F) 1 (.slice A (r*k) c) (r*k) (bv cells):=hc.mono (gy _ _);refine de ?_;refine ab (aC (i:=0) (size:=1) underlying52 ag rfl rfl rfl aa hbF.cons.cons) rfl ?_;refine ab (au ag rfl hbF.cons.cons aa hg0) rfl ?_;refine aF ?_;refine cC (fb cD rfl rfl rfl rfl rfl aa aa aa) fun TJ=>?_;rw[hl0];have at1:(List.replicate nn (0:UInt8)).length=nn:=by simp
  refine cJ ?_;refine aE (fun zf zL zm=>∃(j:Nat) (As:bj) (cs:Nat) (S:al),(j≤k∧S.length=nn∧S=K8 nn ((jf k cells i).take j) ((PB.map (·.2.2)).take j))∧k-j=zm∧Sub zf [(1,.slice A2 PB.length c2),(2,br g2),(5,.slice xc r r),(6,ah (i:Int)),(7,.slice As S.length cs),(15,ah r),(16,ah (i:Int)),(24,.slice A2 PB.length c2),(25,ah PB.length),(26,ah (j:Int))]∧Wk zL (fq (As,cs,S):: .own 27 1 xc r r (FB.map dq++List.replicate (r-i) (.slice none 0 0))::CX g2 A r k (r*k) c::(FB.map fq++F))) _ ⟨0,TJ,nn,List.replicate nn 0,⟨bT _,ak,by simp[K8]⟩,rfl,bp,ax ak Bn (.refl _)⟩ ?_;rintro _ _ _ ⟨j,As,cs,S,⟨hj,Yi,hS⟩,rfl,hs,hp⟩;refine aU hs hp ?_;clear hs hp;refine bz ?_;refine aj (fun ka=>?_) fun ka=>?_
  ·have hg:=G1 (PB:=PB) (i:=j) aa;have pS:=bg (l:=PB) (show j<PB.length by omega) iP;have hTs:=Z3 (n:=nn) (row:=jf k cells i) (data:=PB.map (·.2.2)) (j:=j) aa bR;rw[lq _ _ aa,ET,←hS]at hTs;obtain⟨P,hPe⟩:=cN (PB.getD j iP);rw[←hPe]at hg pS hTs;have hlP:=Iq P pS;have hbP:aJ B w0 (FB.map fq++F) 1 (dq P) P.2.2.length (bv P.2.2):=(hP P pS).mono (gy _ _);obtain⟨x,hx⟩:=cN (fH k cells i j);have hx2:cells.getD (i*k+j) 0=x:=hx.symm;have Io:i*k+j<r*k:=by omega
   rw[←hx]at hTs;refine bJ ?_;refine ab (au ag rfl hbF.cons.cons.cons aa hg) rfl ?_;refine cY ?_;refine ab (eZ rfl rfl (r:=((i*k:Nat):Int)) (EK aa aa)) rfl ?_;refine aF ?_;refine ab (bY rfl rfl (r:=((i*k+j:Nat):Int)) ((bE aa aa).trans aa)) rfl ?_;refine ab (aC (i:=i*k+j) (size:=1) underlying27 ag rfl rfl rfl Io hcF.cons.cons.cons) rfl ?_;refine ab (jo ag rfl hcF.cons.cons.cons Io) rfl ?_;rw[hx2];refine bQ ?_;refine aj (fun h42=>?_) fun h42=>?_
   ·have Yz:¬x=0:=fun e=>h42 C6;rw[aw Yz]at hTs;have GL:(qR S x P.2.2).length=S.length:=qS aa;refine b8 ?_;refine ay rfl (UX (s:=S) (b:=P.2.2) rfl rfl aa (aJ.own (.head _)) hbP.cons.cons.cons aa) fun A47 c47=>?_;refine b8 ?_;refine ve [1,2,5,6,7,15,16,24,25,26] ?_;refine bz ?_;refine av ⟨_,aa,j+1,A47,c47,qR S x P.2.2,⟨aa,aa,hTs.symm⟩,rfl,bp,.trans ((ed (gl (gl (.skip (.refl _)))))) (ax GL.symm rfl (.refl _))⟩
   ·have Yz:x=0:=nZ (by show x.toNat=0;omega);rw[ao Yz]at hTs;refine bz ?_;refine ve [1,2,5,6,7,15,16,24,25,26] ?_;refine av ⟨_,aa,j+1,As,cs,S,⟨aa,Yi,hTs.symm⟩,rfl,bp,.refl _⟩
  ·obtain rfl:j=PB.length:=by omega
   have Nt:S=K8 nn (jf k cells i) (PB.map (·.2.2)):=by rw[hS,fL aa,fL ak]
   have hts:(WL r k cells (PB.map (·.2.2)) nn).take (i+1)=(WL r k cells (PB.map (·.2.2)) nn).take i++[S]:=by
    rw[ba (by rw[pI];omega) [],Nt];congr 2;unfold WL;rw[bk,jr,x' aa];rfl
   refine bQ ?_;refine ab (aC (i:=i) (size:=1) underlying52 ag rfl rfl rfl aa (aJ.own (.tail _ (.head _)))) rfl ?_;refine kJ (iK ag rfl rfl rfl aV bR) ?_;refine bL ?_;refine av ⟨_,aa,i+1,FB++[((As,cs,S):kO)],⟨aa,bR,by rw[jb,sH,hts];rfl⟩,rfl,bp,.trans (qn (e:=((As,cs,S):kO)) [.own 27 1 xc r r _,CX g2 A r k (r*k) c]) (ax rfl (by rw[anf Ra aa];simp) (.refl _))⟩
 ·obtain rfl:i=r:=by omega
  rw[fL (by rw[pI];omega)]at sH;refine cJ ?_;refine aq (L':=.own 27 1 xc FB.length i (FB.map dq)::(FB.map fq++F)) (ax Ra.symm ak (.skip (.refl _))) ?_;refine aF ?_;exact⟨xc,i,FB,by rw[Ra],rfl,sH⟩
theorem OF{PB:List kO}{nn:Nat}(hk:PB.length=k)(xk:1≤k)(Gb:k+m≤255)(P8:nn≤1000000000)(Iq:∀e∈PB,e.2.2.length=nn)(hb:aJ B w0 F 1 (.slice A2 PB.length c2) PB.length (PB.map dq))(hP:∀e∈PB,aJ B w0 F 1 (dq e) e.2.2.length (bv e.2.2)):
  a_ B w0 122 [ah (m:Int),.slice A2 PB.length c2] F (PtA (par m (PB.map (·.2.2))) (some 0) F):=by
 have Ga:rO (PB.map (·.2.2)):=fun b oH=>by
  obtain⟨e,he,rfl⟩:=pM.1 oH;rw[phd,Iq e he,Iq _ (bg aa iP)]
 have asI:par m (PB.map (·.2.2))=WL m k (Gs k m) (PB.map (·.2.2)) nn:=by
  unfold par;rw[phd,Iq _ (bg aa iP),eK,hk]
 subst hk;rw[asI];refine fw func122 28 [0,1] ?_;refine cJ ?_;refine ai rfl (Wg xk Gb) ?_;refine bG ?_;refine ai rfl (I4 hb aa) ?_;refine bG ?_;refine aj (fun iF=>?_) fun iF=>?_
 ·exfalso;exact iF Ga
 ·refine bL ?_;refine ay rfl (Mu Gb) fun A22 c22=>?_;refine bF ?_;refine bc fun g6=>?_;refine be ?_;refine ve [1,6] ?_;refine bG ?_;refine aX ajJ rfl (I6 (cells:=Gs PB.length m) rfl xk aa aa (Mt _ _) P8 Iq (aJ.own (.tail _ (.head _))) hb.cons.cons (fun e he=>(hP e he).cons.cons)) rfl ?_;rintro _ _ ⟨Ha,Mq,FB,rfl,cA,sH⟩;obtain rfl:=cA.symm;refine bG ?_;refine aq (.cons (Lg (.skip (.skip (.refl _))) _)) ?_;refine aF ?_;exact⟨Ha,Mq,FB,rfl,rfl,sH⟩
end
section
theorem o_{C:Cx}{fr:Fr}{L:aP}{x:Operand}{ty t:TypeId}{fs:Array Field}{i j:Nat}{fd:Field}{ad:Addr}(ht:C.P.underlying t=some (.struct fs))(hf:fs[i]? =some fd)(hz:By C.P fd.type=true)(he:ev fr x=some (.pointer ((some ad).map (·.add j)))){q:Nat}(hq:fd.offset=q):
  gI C fr L (.fieldAddr t x i) ty (.pointer ((some ad).map (fun ad=>(ad.add j).add q))):=by
 unfold By at hz;cases hi:C.P.info? fd.type with
 |none=>rw[hi]at hz;cases hz
 |some f=>
  rw[hi]at hz;have h0:0<f.size:=by simpa[Nat.blt_eq]using hz
  have vz:(C.P.info? fd.type).map (·.size)=some ((f.size-1)+1):=by rw[hi];simp;omega
  intro a w ha hw d pos af gg;subst hq;simp[execOp,Instr.fieldAt,Instr.sureAddr,fieldPlace,ha.tmp he,iO ht,hf,GQ vz]
theorem ak'{ns:bf}{xs:cV}(e1:n=ns.length)(e2:xs=bx ns)(hb:aJ B w0 F 1 (.slice A n c) n xs)(hl:ns.length≤1099511627776)(hs:ns.sum≤1000000000000000):
  a_ B w0 92 [.slice A n c] F (fun r L=>r=ah (ns.sum:Nat)∧L=F):=by
 subst e1;subst e2;exact Dc hb hl hs
theorem aa3{ns:bf}{k:Nat}(hk:k≤ns.length)(hc:ns.length≤c)(hb:aJ B w0 (Bo g (.slice A ns.length c) v1 v2 v3 v4 v5 v6 v7 v8 v9::F) 1 (.slice A ns.length c) ns.length (bx ns))(hl:ns.length≤1000000)(hs:ns.sum≤1000000):
  a_ B w0 232 [br g,ah (k:Int)] (Bo g (.slice A ns.length c) v1 v2 v3 v4 v5 v6 v7 v8 v9::F) (fun r L=>r=ah ((ns.take k).sum:Nat)∧L=Bo g (.slice A ns.length c) v1 v2 v3 v4 v5 v6 v7 v8 v9::F):=by
 have tX:=nK ns k;have hh:=hb.iZ (k:=k) hk;have e:(bx ns).take (k*1)=bx (ns.take k):=by rw[cE];simp[bx,pn]
 refine fw func232 12 [0,1] ?_;refine cJ ?_;refine ab (bN (i:=k) (size:=1) underlying53 ag rfl rfl rfl aa) rfl ?_;refine ai rfl (ak' (ns:=ns.take k) np e hh np aa) ?_;refine bG ?_;exact⟨rfl,rfl⟩
theorem AS(r:aK)(L:List aK):di (r::L)=aK.cells r++di L:=by simp[di]
theorem OP(L:List aK):(di L).length=L.length*4:=by
 induction L with
 |nil=>rfl
 |cons r L ih=>rw[AS,aY,ih,ef];simp[aK.cells];omega
def Fl(ts:bf)(lv:al)(a:Nat)(L:List aK)(i:Nat):List aK:=(pF ts lv a L).take i++L.drop i
theorem kM(ts:bf)(lv:al)(a:Nat)(L:List aK):(pF ts lv a L).length=L.length:=by simp[pF]
theorem O1(ts:bf)(lv:al)(a:Nat)(L:List aK){i:Nat}(h:i≤L.length):(Fl ts lv a L i).length=L.length:=by
 unfold Fl;rw[aY,eS,kM,iG];omega
theorem SJ{ts:bf}{lv:al}{a:Nat}{L:List aK}{i:Nat}(h:i<L.length):
  Fl ts lv a L i=(pF ts lv a L).take i++(recAt L i::L.drop (i+1))∧Fl ts lv a L (i+1)=(pF ts lv a L).take i++((ts.getD (a+i) 0,lv.getD (a+i) 0,(recAt L i).2.2.1,(recAt L i).2.2.2)::L.drop (i+1)):=by
 have hl:=kM ts lv a L;unfold Fl;refine⟨by rw[dx h (0,0,[],[])];rfl,?_⟩;rw[ba aa (0,0,[],[]),bV];congr 1;have:(pF ts lv a L).getD i (0,0,[],[])=(ts.getD (a+i) 0,lv.getD (a+i) 0,(recAt L i).2.2.1,(recAt L i).2.2.2):=by
  unfold pF;rw[bk,jr,x' h];rfl
 rw[this];rfl
theorem aiI{P Q:List aK}{r:aK}{t:Nat}{u:UInt8}{i:Nat}(h:P.length=i):
  ((di (P++r::Q)).set (i*4+0) (.int .u64 (t:Int))).set (i*4+1) (.int .u8 (u.toNat:Int))=di (P++(t,u,r.2.2.1,r.2.2.2)::Q)∧((di (P++r::Q)).set (i*4+1) (.int .u8 (u.toNat:Int))).set (i*4+0) (.int .u64 (t:Int))=di (P++(t,u,r.2.2.1,r.2.2.2)::Q):=by
 have hp:(di P).length=i*4:=by rw[OP,h]
 rw[←u_,←u_,AS,AS];constructor
 ·rw[wS _ _ aa,wS _ _ aa,show i*4+0-(di P).length=0 by omega,show i*4+1-(di P).length=1 by omega];rfl
 ·rw[wS _ _ aa,wS _ _ aa,show i*4+0-(di P).length=0 by omega,show i*4+1-(di P).length=1 by omega];rfl
theorem ajg{L:bf}{i v:Nat}(h:i<L.length)(e:L.getD i 0=v):(pZ L)[i*1]? =some (.int .u64 ((v:Nat):Int)):=by
 subst e;simp[pZ,bk,fm h]
structure sw(x:ir):Prop where
 fr:x.bB.length=x.ns.length
 ti:x.times.length=x.ns.sum
 le:x.levels.length=x.ns.sum
 su:x.ns.sum≤20000
 nl:x.ns.length≤20000
 fe:∀f∈x.bB,f.length≤1000000
 tl:x.T.length≤1048576
 il:x.I.length≤1048576
 ie:∀l∈x.I,l.length≤20000
 tm:∀t∈x.times,t<18446744073709551616
section
variable{x:ir}{k:Nat}
theorem QY(h:(dK (x.bB.getD k [])).2.2≠0):lV x k=([],(dK (x.bB.getD k [])).2.2):=by unfold lV;rw[ao h]
theorem QZ(h:¬(dK (x.bB.getD k [])).2.2≠0)(h2:(dK (x.bB.getD k [])).2.1<(x.bB.getD k []).length):lV x k=([],2):=by unfold lV;rw[aw h,ao h2]
theorem Q0(h:¬(dK (x.bB.getD k [])).2.2≠0)(h2:¬(dK (x.bB.getD k [])).2.1<(x.bB.getD k []).length)(h3:(qH false (dK (x.bB.getD k [])).1).2≠0):lV x k=([],(qH false (dK (x.bB.getD k [])).1).2):=by unfold lV;rw[aw h,aw h2,ao h3]
theorem Q1(h:¬(dK (x.bB.getD k [])).2.2≠0)(h2:¬(dK (x.bB.getD k [])).2.1<(x.bB.getD k []).length)(h3:¬(qH false (dK (x.bB.getD k [])).1).2≠0)(h4:(qH false (dK (x.bB.getD k [])).1).1.length≠x.ns.getD k 0):lV x k=([],2):=by unfold lV;rw[aw h,aw h2,aw h3,ao h4]
theorem Q2(h:¬(dK (x.bB.getD k [])).2.2≠0)(h2:¬(dK (x.bB.getD k [])).2.1<(x.bB.getD k []).length)(h3:¬(qH false (dK (x.bB.getD k [])).1).2≠0)(h4:¬(qH false (dK (x.bB.getD k [])).1).1.length≠x.ns.getD k 0):lV x k=(pF x.times x.levels (x.ns.take k).sum (qH false (dK (x.bB.getD k [])).1).1,0):=by unfold lV;rw[aw h,aw h2,aw h3,aw h4]
end
theorem aa2(HT:bI B w0){x:ir}{k:Nat}{FB:List kO}(ho:sw x)(hk:k<x.bB.length)(sH:FB.map (·.2.2)=x.bB)(hcn:x.ns.length≤c1)(hn:aJ B w0 (Bo g (.slice A1 x.ns.length c1) v1 v2 v3 (.slice A3 x.times.length c3) (.slice A4 x.levels.length c4) v6 v7 (.slice Af FB.length cf) v9::F) 1 (.slice A1 x.ns.length c1) x.ns.length (bx x.ns))(ht:aJ B w0 (Bo g (.slice A1 x.ns.length c1) v1 v2 v3 (.slice A3 x.times.length c3) (.slice A4 x.levels.length c4) v6 v7 (.slice Af FB.length cf) v9::F) 1 (.slice A3 x.times.length c3) x.times.length (pZ x.times))(hl:aJ B w0 (Bo g (.slice A1 x.ns.length c1) v1 v2 v3 (.slice A3 x.times.length c3) (.slice A4 x.levels.length c4) v6 v7 (.slice Af FB.length cf) v9::F) 1 (.slice A4 x.levels.length c4) x.levels.length (bv x.levels))(hf:aJ B w0 (Bo g (.slice A1 x.ns.length c1) v1 v2 v3 (.slice A3 x.times.length c3) (.slice A4 x.levels.length c4) v6 v7 (.slice Af FB.length cf) v9::F) 1 (.slice Af FB.length cf) FB.length (FB.map dq))(Il:∀e∈FB,aJ B w0 (Bo g (.slice A1 x.ns.length c1) v1 v2 v3 (.slice A3 x.times.length c3) (.slice A4 x.levels.length c4) v6 v7 (.slice Af FB.length cf) v9::F) 1 (dq e) e.2.2.length (bv e.2.2)):
  a_ B w0 184 [br g,ah (k:Int)] (Bo g (.slice A1 x.ns.length c1) v1 v2 v3 (.slice A3 x.times.length c3) (.slice A4 x.levels.length c4) v6 v7 (.slice Af FB.length cf) v9::F)
   (fun v L=>∃A' c',v= .tuple #[.slice A' (lV x k).1.length c',ah (lV x k).2]∧L= .own 62 4 A' (lV x k).1.length c' (di (lV x k).1)::Bo g (.slice A1 x.ns.length c1) v1 v2 v3 (.slice A3 x.times.length c3) (.slice A4 x.levels.length c4) v6 v7 (.slice Af FB.length cf) v9::F):=by
 obtain⟨o1,o2,o3,o4,o5,o6,_,_,_,_⟩:=ho;have Ra:FB.length=x.bB.length:=by rw[←sH,eK]
 have Rp:=G1 (PB:=FB) (i:=k) aa;have pS:=bg (l:=FB) (show k<FB.length by omega) iP;have xl:(FB.getD k iP).2.2=x.bB.getD k []:=by rw[←sH,ET]
 obtain⟨⟨PA,PC,f⟩,hP⟩:∃e,e=FB.getD k iP:=⟨_,rfl⟩
 rw[←hP]at Rp pS xl;have xl:f=x.bB.getD k []:=xl;have hbf:=Il _ pS;have l0:f.length≤1000000:=by rw[xl];exact o6 _ (bg hk [])
 have wO:=nK x.ns (k+1);have LC:(x.ns.take (k+1)).sum=(x.ns.take k).sum+x.ns.getD k 0:=by rw[ba aa 0,vW];simp
 have c_:=C8 f;refine fw func184 100 [0,1] ?_;refine dQ ?_;refine ab (au ag rfl hf aa Rp) rfl ?_;refine ay rfl (Uc HT (b:=f) rfl rfl hbf l0) fun G_ JI=>?_;refine tP ?_;refine aj (fun oc=>?_) fun oc=>?_
 ·have e:=QY (x:=x) (k:=k) (by rw[←xl];exact oc);refine bG ?_;refine ve [4,5] ?_;refine b8 ?_;refine aD 62 4 none ?_;refine aq (.cons (.skip (.refl _))) ?_;refine aF ?_;rw[e,←xl];exact⟨none,0,rfl,rfl⟩
 ·have ahi:¬(dK (x.bB.getD k [])).2.2≠0:=by rw[←xl];exact oc
  refine bQ ?_;refine ab (au ag rfl hf.cons aa Rp) rfl ?_;refine bF ?_;refine ve [0,1,6,28] ?_;refine aF ?_;refine aj (fun qx=>?_) fun qx=>?_
  ·have e:=QZ (x:=x) (k:=k) ahi (by rw[←xl];have q:(((dK f).2.1:Nat):Int)<((f.length:Nat):Int):=qx;omega);refine bQ ?_;refine aD 62 4 none ?_;refine aq (.cons (.skip (.refl _))) ?_;refine aF ?_;rw[e];exact⟨none,0,rfl,rfl⟩
  ·have alH:¬(dK (x.bB.getD k [])).2.1<(x.bB.getD k []).length:=by rw[←xl];have q:¬(((dK f).2.1:Nat):Int)<((f.length:Nat):Int):=qx;omega
   refine bz ?_;refine ay rfl (OL (l:=(dK f).1) false aB aa) fun TK c41=>?_;refine jS ?_;refine aj (fun tQ=>?_) fun tQ=>?_
   ·have e:=Q0 (x:=x) (k:=k) ahi alH (by rw[←xl];exact tQ);refine bA ?_;refine aD 62 4 none ?_;refine aq (.cons (.skip (.skip (.refl _)))) ?_;refine aF ?_;rw[e,←xl];exact⟨none,0,rfl,rfl⟩
   ·have apT:¬(qH false (dK (x.bB.getD k [])).1).2≠0:=by rw[←xl];exact tQ
    refine cY ?_;refine ab (au ag rfl hn.cons.cons aa (gb (v:=x.ns.getD k 0) aa rfl)) rfl ?_;refine be ?_;refine ve [0,1,9,48] ?_;refine aF ?_;refine aj (fun Q_=>?_) fun Q_=>?_
    ·have e:=Q1 (x:=x) (k:=k) ahi alH apT (by rw[←xl];omega);refine bQ ?_;refine aD 62 4 none ?_;refine aq (.cons (.skip (.skip (.refl _)))) ?_;refine aF ?_;rw[e];exact⟨none,0,rfl,rfl⟩
    ·have e:=Q2 (x:=x) (k:=k) ahi alH apT (by rw[←xl];omega);rw[←xl]at e;obtain⟨RL,hRL⟩:=cN ((qH false (dK f).1).1);obtain⟨a,ha⟩:=cN ((x.ns.take k).sum);rw[←hRL]at Q_ e⊢;rw[←ha]at LC e;refine bQ ?_;refine ai rfl (.perm (aa3 (k:=k) aa hcn (hn.mono (.cons_cons _ (.cons _ (.cons _ (.refl _))))) aa aa) ((BN (fR (fR (.refl _)))))) ?_;refine bG ?_;rw[←ha];refine fP ((l6 (fR (fR (.refl _))))) ?_;refine bL ?_;refine aE (fun zf zL zm=>∃(i:Nat),(i≤RL.length)∧RL.length-i=zm∧Sub zf [(0,br g),(9,.slice TK RL.length c41),(10,ah (a:Int)),(66,ah RL.length),(67,ah (i:Int))]∧Wk zL (.own 62 4 TK RL.length c41 (di (Fl x.times x.levels a RL i))::Bo g (.slice A1 x.ns.length c1) v1 v2 v3 (.slice A3 x.times.length c3) (.slice A4 x.levels.length c4) v6 v7 (.slice Af FB.length cf) v9::F)) _ ⟨0,bT _,rfl,bp,.trans ((ed (ed (.skip (.refl _))))) (ax rfl (by unfold Fl;simp) (.refl _))⟩ ?_;rintro _ _ _ ⟨i,hi,rfl,hs,hp⟩;refine aU hs hp ?_;clear hs hp;refine bz ?_;refine aj (fun h68=>?_) fun h68=>?_
     ·have y9:=O1 x.times x.levels a RL hi;obtain⟨asO,al_⟩:=SJ (ts:=x.times) (lv:=x.levels) (a:=a) (L:=RL) (i:=i) aa;have asS:((pF x.times x.levels a RL).take i).length=i:=by rw[eS,kM];omega
      obtain⟨acQ,acR⟩:=aiI (P:=(pF x.times x.levels a RL).take i) (Q:=RL.drop (i+1)) (r:=recAt RL i) (t:=x.times.getD (a+i) 0) (u:=x.levels.getD (a+i) 0) asS;rw[←asO]at acQ acR;rw[←al_]at acQ acR;have hrl:=OP (Fl x.times x.levels a RL i);obtain⟨M,hM⟩:=cN (di (Fl x.times x.levels a RL i));rw[←hM]at acQ acR hrl⊢;refine bA ?_;refine kH (A:=TK) (n:=RL.length) (xs:=M) (.head _) aa ?_;intro ad hA;subst hA;refine cF (Bo g (.slice A1 x.ns.length c1) v1 v2 v3 (.slice A3 x.times.length c3) (.slice A4 x.levels.length c4) v6 v7 (.slice Af FB.length cf) v9::F) ?_;refine ae 0 ?_;refine ae 1 ?_;refine ae 2 ?_;refine ae 3 ?_;refine ae 4 ?_;refine ae 5 ?_;refine ae 6 ?_;refine ae 7 ?_;refine ae 8 ?_;refine ae 9 ?_;refine ae 10 ?_;refine aW 11 rfl (bY rfl rfl (r:=((a+i:Nat):Int)) ((bE aa aa).trans aa)) ?_;refine aW 12 rfl (aC (i:=a+i) (size:=1) underlying183 ag rfl rfl rfl aa ht) ?_;refine aW 13 rfl (au ag rfl ht aa (ajg (v:=x.times.getD (a+i) 0) aa rfl)) ?_;refine ae 14 ?_;refine ae 15 ?_;refine ae 16 ?_;refine ae 17 ?_;refine ae 18 ?_;refine ae 19 ?_;refine ae 20 ?_;refine aW 21 rfl (bY rfl rfl (r:=((a+i:Nat):Int)) ((bE aa aa).trans aa)) ?_;refine aW 22 rfl (aC (i:=a+i) (size:=1) underlying27 ag rfl rfl rfl aa hl) ?_;refine aW 23 rfl (jo ag rfl hl aa) ?_;refine aW 24 rfl (aO (i:=i) (size:=4) underlying24 ag rfl rfl rfl aa) ?_;refine aW 25 rfl (o_ underlying62 rfl ag rfl rfl) ?_;refine az 26 ?_;refine kN rfl .no (pe (q:=0) ag rfl rfl rfl .hd (by(try rw[List.length_set]);omega)) Gr ?_;rintro _ _ rfl;refine aW 27 rfl (aO (i:=i) (size:=4) underlying24 ag rfl rfl rfl aa) ?_;refine aW 28 rfl (o_ underlying62 rfl ag rfl rfl) ?_;refine az 29 ?_;refine kN rfl .no (pe (q:=1) ag rfl rfl rfl .hd (by(try rw[List.length_set]);omega)) Gr ?_;rintro _ _ rfl;refine cQ [0,9,10,66,67] ?_;refine bz ?_;refine av ⟨_,aa,i+1,aa,rfl,bp,ax rfl (by first|exact acQ|exact acR) (.refl _)⟩
     ·obtain rfl:i=RL.length:=by omega
      have tT:Fl x.times x.levels a RL RL.length=pF x.times x.levels a RL:=by unfold Fl;rw[fL (by rw[kM];omega),BJ,gk]
      have ap8:=kM x.times x.levels a RL;refine dQ ?_;rw[e,tT];exact⟨TK,c41,by rw[ap8],by rw[ap8]⟩
end
end Go.Proofs.YtaodmbolhoafcaaGreatDoor
