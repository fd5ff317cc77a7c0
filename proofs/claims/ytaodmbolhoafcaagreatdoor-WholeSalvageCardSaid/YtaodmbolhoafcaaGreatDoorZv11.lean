/-
  Texts of one proof, joined: part 11. No condition.
-/
import Derived.Test.YtaodmbolhoafcaaGreatDoorZv10
import Derived.Lib.AppendZeros
open List renaming length→E
open Go.RowKit Go.Proofs.Tryz
namespace Go.Proofs.YtaodmbolhoafcaaGreatDoor
set_option linter.unusedVariables false
set_option linter.unusedSimpArgs false
set_option maxRecDepth 20000
variable{b:aq}{a i j:Nat}{PB:List kF}{s:aq}{L:aN}{l:aq}{data:fJ}{v:Value}{x1:Ch}{B:Nat}{w0:World}{F L0:aN}{A A1 A2 Ao:bh}{n c c1 c2 co g gc:Nat}{X:cQ}{bt:TypeId}{v0 v1 v2 v3 v4 v5 v6 v7 v8 v9:Value}{f:Ch->aN}{r m N:Nat}{cs:cQ}{o:Nat}
section
abbrev Ob(g gc:Nat)(sx:Value)(o:aZ)(r b:Nat):Ch:=.bI g 205 [bq gc,sx,ah o.1,.bool o.2.1,ah o.2.2.1,ah o.2.2.2.1,ah o.2.2.2.2.1,ah o.2.2.2.2.2,ah r,ah b]
theorem aeI(x:aq):(oh1 x).b=x:=Cs.cO _ _ _
theorem alM(x:aq):(W9 x).b=x:=by
 unfold W9;split
 ·rw[rm];exact(Cs.cO _ _ _).trans (aeI x)
 ·exact(Cs.cO _ _ _).trans (aeI x)
theorem alN(x:aq):(oh3 x).b=x:=(Cs.cO _ _ _).trans (alM x)
theorem alP(x:aq):(C5 x).b=x:=(Cs.cO _ _ _).trans (alN x)
theorem TM{x:aq}(h:E x<=1099511627776):cw (oh1 x):=(oe h).bX aa
theorem aeJ{x:aq}(h:E x<=1099511627776):cw (W9 x):=by
 unfold W9;split
 ·exact(TM h).eV.failed _
 ·exact(TM h).eV
theorem TN{x:aq}(h:E x<=1099511627776):cw (oh3 x):=(aeJ h).bX aa
theorem TO(x:aq):((Hs x:Nat):Int)<=20000:=Cs.fI _ aa aa
theorem an1{x:aq}(h:E x<=1099511627776):cw (C5 x):=(TN h).bX (by have:=TO x;omega)
theorem Z6{x:aq}{sx:Value}(hb:gw B w0 F A c x)(ey:E x<=1099511627776):
  bg B w0 125 [bq g] (Ob g gc sx Bs 0 0::Cv gc A c ⟨x,0,0⟩::F)
   (λr L=>r=ah (ohE x)/\L=Ob g gc sx (ohO x) (Hs x) (Ds x)::Cv gc A c (C5 x)::F):=by
 have k1:=aeI x;have k2:=alM x;have k3:=alN x;have k4:=alP x;have hR:=TO x;have hB:((Ds x:Nat):Int)<=Hs x:=Cs.fI _ aa aa;obtain⟨bl,wy⟩:=cM (Cs.int ⟨x,0,0⟩ 32768);have SC:((bl:Nat):Int)<=32768:=by rw[wy];exact Cs.fI _ aa aa
 have hx8:=kR (Z3 x);obtain⟨y,hy⟩:=cM ((Z3 x).toNat);have e1:oh1 x=Cs.bX ⟨x,0,0⟩ 32768:=rfl;have hO:ohO x=(((bl:Nat):Int),decide ((y:Int)=1),0,0,0,0):=by
  unfold ohO;rw[<-wy,<-hy];congr 2;exact xz.2 ⟨λh=>by omega,λh=>aa⟩
 have hE:ohE x=if (C5 x).e≠0 then (C5 x).e else dF 1 (((bl:Nat):Int),decide ((y:Int)=1),0,0,0,0):=by unfold ohE;rw[hO]
 rw[hO,hE];rw[<-hy]at hx8;refine ba func125 65 [0] 12 ?_;refine ai rfl ((jb (g:=gc) (s:=⟨x,0,0⟩) (oe ey) (aJ.cons hb) aa aa).perm ((oI (gh (.refl _))))) (dg ?_);rw[<-wy,<-e1];refine dx ?_;refine ai rfl (oK (s:=oh1 x) (TM ey) (by rw[k1];exact hb.cons)) (fc ?_);refine dq (λzf zL=>Sub zf [(0,bq g),(3,.int .u8 (y:Int))]/\Wk zL (Cv gc A c (W9 x)::Ob g gc sx (((bl:Nat):Int),false,0,0,0,0) 0 0::F)) ?_ ?_
 ·refine aX ?_;refine BU [(0,bq g),(3,.int .u8 (y:Int))] ⟨rfl,(by rw[hy];rfl),trivial⟩ ?_;refine ag 5 (λkp=>?_) λkp=>?_
  ·refine dx ?_;refine ai rfl (ny 2) (ve [0,3] ?_);exact bo ⟨a_,m7 (by unfold W9;rw[av aa]) (.refl _)⟩
  ·refine aX ?_;exact bo ⟨a_,m7 (by unfold W9;rw[aB aa]) (.refl _)⟩
 ·rintro _ _ ⟨hs,hp⟩;refine aL hs hp (dM ?_);have e3:oh3 x=(W9 x).bX 20000:=rfl;have eR:Hs x=(W9 x).int 20000:=rfl;have e4:C5 x=(oh3 x).bX (Hs x):=rfl;have eB:Ds x=(oh3 x).int (Hs x):=rfl;refine dw ?_;refine ai rfl (jb (s:=W9 x) (aeJ ey) (by rw[k2];exact hb.cons) aa aa) (dw ?_);rw[<-eR,<-e3];refine lx F ?_;refine aF 0 4 ?_;refine aF 5 3 ?_;refine iv 4 8 ?_ ?_
  ·refine aX ?_;refine aC 8 (aX ?_);refine aC 9 (lu rfl rfl (jb (s:=oh3 x) (most:=((Hs x:Nat):Int)) (TN ey) U' aa aa) (aF 10 2 ?_));refine aC 12 (aX ?_);refine di [0] ?_;refine fc ?_;rw[<-eB,<-e4];refine dx ?_;refine ai rfl (ik) (ag 9 (λh58=>?_) λh58=>?_)
   ·refine cY ?_;refine ak ((gC (dL (.refl _)))) (aX ?_);exact⟨by rw[av h58],rfl⟩
   ·refine dg ?_;refine ab (cu 6 ae rfl aU (aZ.cells (((bl:Nat):Int),decide ((y:Int)=1),0,0,0,0)) rfl rfl) rfl ?_;refine ai rfl (kU 1 (((bl:Nat):Int),decide ((y:Int)=1),0,0,0,0)) (fb ?_);refine ak ((gC (dL (.refl _)))) (aX ?_);exact⟨by rw[aB h58],rfl⟩
  ·refine aX ?_;refine aC 4 (aX ?_);refine aC 9 (lu rfl rfl (jb (s:=oh3 x) (most:=((Hs x:Nat):Int)) (TN ey) U' aa aa) (aF 10 2 ?_));refine aC 12 (aX ?_);refine di [0] ?_;refine fc ?_;rw[<-eB,<-e4];refine dx ?_;refine ai rfl (ik) (ag 9 (λh58=>?_) λh58=>?_)
   ·refine cY ?_;refine ak ((gC (dL (.refl _)))) (aX ?_);exact⟨by rw[av h58],rfl⟩
   ·refine dg ?_;refine ab (cu 6 ae rfl aU (aZ.cells (((bl:Nat):Int),decide ((y:Int)=1),0,0,0,0)) rfl rfl) rfl ?_;refine ai rfl (kU 1 (((bl:Nat):Int),decide ((y:Int)=1),0,0,0,0)) (fb ?_);refine ak ((gC (dL (.refl _)))) (aX ?_);exact⟨by rw[aB h58],rfl⟩
theorem Vo(HT:cK B w0){xs:cQ}(e1:n=E b)(e2:xs=bv b)(hb:aJ B w0 F 1 (.slice A n c) n xs)(ey:E b<=1000000):
  bg B w0 230 [.slice A n c] F (BlA (du b) F):=by
 subst e1;subst e2;exact ahJ HT hb ey
theorem DP(b:aq):E (du b).1<=32768:=by
 unfold du;split
 ·simp
 ·split
  ·simp
  ·exact We b
theorem ahB(h:E b<=1000000):(du b).2.1<=E b:=by
 unfold du;split
 ·simp
 ·split
  ·simp
  ·have:=(amW (b:=b) aa).at_;rw[aq1]at this;exact this
section
variable{s:Cs}
theorem an2(h:(du s.rest).2.2≠0):kI s=([],s,(du s.rest).2.2):=by unfold kI;rw[av h]
theorem an3(h:¬(du s.rest).2.2≠0)(h2:(rZ true (du s.rest).1).2≠0):kI s=([],s.bR ((du s.rest).2.1:Nat),(rZ true (du s.rest).1).2):=by unfold kI;rw[aB h,av h2]
theorem an4(h:¬(du s.rest).2.2≠0)(h2:¬(rZ true (du s.rest).1).2≠0)(h3:(rZ true (du s.rest).1).1=[]):kI s=([],s.bR ((du s.rest).2.1:Nat),2):=by unfold kI;rw[aB h,aB h2,av h3]
theorem an5(h:¬(du s.rest).2.2≠0)(h2:¬(rZ true (du s.rest).1).2≠0)(h3:¬(rZ true (du s.rest).1).1=[]):kI s=((rZ true (du s.rest).1).1,s.bR ((du s.rest).2.1:Nat),0):=by unfold kI;rw[aB h,aB h2,aB h3]
end
theorem TP(HT:cK B w0){x:aq}{s:Cs}{Ax:bh}{cx bb:Nat}{o:aZ}(hs:s.b=x)(ho:cw s)(hb:gw B w0 F A c x)(hbx:gw B w0 F Ax cx x)(ey:E x<=1000000):
  bg B w0 193 [bq g] (Ob g gc (.slice Ax (E x) cx) o r bb::Cv gc A c s::F)
   (λv L=>∃A' c',v= .tuple #[.slice A' (E (kI s).1) c',ah (kI s).2.2]/\L= .own 62 4 A' (E (kI s).1) c' (cD (kI s).1)::Ob g gc (.slice Ax (E x) cx) o r bb::Cv gc A c (kI s).2.1::F):=by
 have rr:=ho.at_;rw[hs]at rr;have hcut:=hbx.cut rr;have er:s.rest=x.drop s.at_:=by unfold Cs.rest;rw[hs]
 have e2:(bv x).drop (s.at_*1)=bv s.rest:=by rw[cH,er];simp[bv,uK]
 have e3:E x-s.at_=E s.rest:=by rw[er,jM]
 have KL:=DP s.rest;have hra:=ahB (b:=s.rest) aa;refine fw func193 46 [0] ?_;refine cN 7 (Ob g gc (.slice Ax (E x) cx) o r bb::Cv gc A c s::F) ?_;refine aF 0 8 ?_;refine aC 8 (lu rfl rfl ((AO).pY ((oI (gh (.refl _))))) (aS 9 rfl (bV (i:=s.at_) (size:=1) underlying27 ae rfl rfl rfl aa) (aC 10 (cj rfl rfl (Vo HT (b:=s.rest) e3 e2 hcut.cons.cons aa) λGA Q4=>aF 11 7 ?_))));refine di [0,4,5,6] ?_;refine ag 8 (λkJ=>?_) λkJ=>?_
 ·refine dA ?_;refine aH 62 4 none ?_;rw[an2 kJ];exact ak (.cons (.skip (.refl _))) (bO 1)
 ·refine dA ?_;refine ay rfl ((mx (g:=gc) (s:=s) (m:=((du s.rest).2.1:Nat)) ho (by rw[hs];exact hb.cons.cons) aa aa).perm ((z_ (gh (gh (.refl _)))))) λRq c31=>dx ?_;refine ay rfl (PO (l:=(du s.rest).1) true aA aa) λtI tY=>?_;refine aD 5 [6,7] 0 ?_;refine ag 10 (λCS=>?_) λCS=>?_
  ·refine dh ?_;refine aH 62 4 none ?_;rw[an3 kJ CS];exact ak ((dL (X4 (gC (.s3 (.refl _)))))) (bO 1)
  ·refine ag 8 (λtZ=>?_) λtZ=>?_
   ·refine dA ?_;refine aH 62 4 none ?_;rw[an4 kJ CS (mg aa)];exact ak ((dL (X4 (gC (.s3 (.refl _)))))) (bO 1)
   ·refine fF ?_;rw[an5 kJ CS (λh=>tZ (by rw[h];rfl))];exact ak ((dL (vu (dL (.s2 (.refl _)))))) (bO 1)
theorem Jw(b:Bool):∀(f:Nat) (s:Cs) (o:List aI),E (pW b f s o).1<=E o+f
 |0,s,o=>by simp[pW]
 |f+1,s,o=>by
  by_cases h:s.left=0
  ·rw[Jv h];simp only;omega
  ·by_cases he:(e_ b s).2.e≠0
   ·rw[Ju h he];simp
   ·rw[PT h he];have:=Jw b f (e_ b s).2 (o++[(e_ b s).1]);rw[bm,tz]at this;omega
theorem ajM(b:Bool)(l:aq):E (rZ b l).1<=E l+1:=by
 have:=Jw b (E l+1) ⟨l,0,0⟩ [];unfold rZ;simpa using this
theorem aeL(s:Cs):E (kI s).1<=32769:=by
 have h1:=DP s.rest;have h2:=ajM true (du s.rest).1;unfold kI;split
 ·simp
 ·split
  ·simp
  ·split
   ·simp
   ·simp only;omega
theorem ajp{s:Cs}{x:aq}(hs:s.b=x)(ho:cw s):(kI s).2.1.b=x/\cw (kI s).2.1:=by
 have h1:(s.bR ((du s.rest).2.1:Nat)).b=x/\cw (s.bR ((du s.rest).2.1:Nat)):=⟨(Cs.cO _ _ _).trans hs,ho.bR⟩
 unfold kI;split
 ·exact⟨hs,ho⟩
 ·split
  ·exact h1
  ·split
   ·exact h1
   ·exact h1
theorem vS(l:List aI):∀u∈cD l,u.oneCell'=true:=λu hu=>by
 obtain⟨r,_,hr⟩:=OX.1 hu;simp only[aI.cells,fq,kS,nL]at hr;rcases hr with rfl|rfl|rfl|rfl<;>rfl
theorem ph(l m:List aI):cD l++cD m=cD (l++m):=by simp[cD]
section
variable{f:Nat}{s:Cs}{out:List aI}{R:List aI×Cs×Int}
theorem aeK(h:qg (f+1) s out=R)(he:(kI s).2.2≠0):R=([],(kI s).2.1,(kI s).2.2):=by rw[<-h,qg,av he]
theorem ajo(h:qg (f+1) s out=R)(he:¬(kI s).2.2≠0):qg f (kI s).2.1 (out++(kI s).1)=R:=by rw[<-h,qg,aB he]
variable{x:aq}
theorem ajq(h:qg (Ds x) (C5 x) []=R)(h1:R.2.2≠0):lL x=([],R.2.2):=by unfold lL;rw[h,av h1]
theorem W_(h:qg (Ds x) (C5 x) []=R)(h1:¬R.2.2≠0)(h2:0<R.2.1.left\/E R.1≠Hs x):lL x=([],2):=by unfold lL;rw[h,aB h1,av h2]
theorem ajr(h:qg (Ds x) (C5 x) []=R)(h1:¬R.2.2≠0)(h2:¬(0<R.2.1.left\/E R.1≠Hs x))(h3:dC R.1≠0):lL x=([],dC R.1):=by unfold lL;rw[h,aB h1,aB h2,av h3]
theorem ajs(h:qg (Ds x) (C5 x) []=R)(h1:¬R.2.2≠0)(h2:¬(0<R.2.1.left\/E R.1≠Hs x))(h3:¬dC R.1≠0):lL x=(R.1,0):=by unfold lL;rw[h,aB h1,aB h2,aB h3]
end
theorem aeP(HT:cK B w0){x:aq}{Ax:bh}{cx:Nat}{o:aZ}(hb:gw B w0 F A c x)(hbx:gw B w0 F Ax cx x)(ey:E x<=1000000):
  bg B w0 126 [bq g] (Ob g gc (.slice Ax (E x) cx) o (Hs x) (Ds x)::Cv gc A c (C5 x)::F)
   (λv L=>∃A' c' s',v= .tuple #[.slice A' (E (lL x).1) c',ah (lL x).2]/\L= .own 62 4 A' (E (lL x).1) c' (cD (lL x).1)::Ob g gc (.slice Ax (E x) cx) o (Hs x) (Ds x)::Cv gc A c s'::F):=by
 have hR:=TO x;have hB:((Ds x:Nat):Int)<=Hs x:=Cs.fI _ aa aa;obtain⟨R,hRR⟩:∃R,qg (Ds x) (C5 x) []=R:=⟨_,rfl⟩
 obtain⟨bb,hbb⟩:=cM (Ds x);have arp:=hRR;rw[<-hbb]at hB arp⊢;refine ba func126 47 [0] 7 ?_;refine aM 62 4 none (bK 15 ?_);refine aw (λzf zL zm=>∃(k:Nat) (s:Cs) (out:List aI) (A':bh) (c':Nat),(k<=bb/\s.b=x/\cw s/\qg (bb-k) s out=R/\E out<=32769*k)/\bb-k=zm/\Sub zf [(0,bq g),(4,.slice A' (E out) c'),(11,ah bb),(12,ah k)]/\Wk zL (.own 62 4 A' (E out) c' (cD out)::Ob g gc (.slice Ax (E x) cx) o (Hs x) bb::Cv gc A c s::F)) _ ⟨0,C5 x,[],none,0,⟨bD _,alP x,an1 aa,arp,ao⟩,rfl,a_,.refl _⟩ ?_;rintro _ _ _ ⟨k,s,out,A',c',⟨hk,Hc,hso,rv,G9⟩,rfl,hs,hp⟩;refine aL hs hp (ag 6 (λnj=>?_) λnj=>?_)
 ·obtain⟨f,hf⟩:∃f,bb-k=f+1:=⟨bb-k-1,aa⟩
  rw[hf]at rv;have x8:=aeL s;have hkc:=ajp Hc hso;have pG:=vS (kI s).1;refine dg ?_;refine ay rfl (.perm (TP (g:=g) HT Hc hso hb.cons hbx.cons ey) ((oI (oI (gh (.refl _)))))) λRo Vr=>ag 14 (λkp=>?_) λkp=>?_
  ·have Y7:=aeK rv kp;have hL:=ajq hRR (by rw[Y7];exact kp);rw[Y7]at hL;refine bK 14 ?_;rw[hL];exact aH 62 4 none (ak ((dL (gC (gC (.s2 (.refl _)))))) (nI 1))
  ·have SN:=ajo rv kp;have qc:E (out++(kI s).1)=E out+E (kI s).1:=bm;refine dx ?_;refine dB (bB JE rfl aU rfl aA bY aa aa) λGJ Ie=>cY ?_;refine aj ⟨_,aa,k+1,(kI s).2.1,out++(kI s).1,GJ,Ie,⟨aa,hkc.1,hkc.2,by rw[show bb-(k+1)=f by omega];exact SN,aa⟩,rfl,a_,.trans ((vu (gC (gC (.skip (.refl _)))))) (au aa (ph _ _) (.refl _))⟩
 ·obtain rfl:k=bb:=by omega
  rw[rE]at rv;have Y7:R=(out,s,0):=rv.symm;rw[Y7]at hRR;refine dM ?_;refine ai rfl ((Kd (g:=gc) (s:=s) hso (by rw[Hc];exact hb.cons.cons)).pY ((z_ (gh (gh (.refl _)))))) (bk 2 (λvJ=>?_) (λvJ=>?_))
  ·refine aD 14 [4,40] 0 ?_;refine ag 1 (λSw=>?_) λSw=>?_
   ·refine cY ?_;have hL:=W_ hRR ao (.inr cX);rw[hL];exact aH 62 4 none (ak ((dL (gC (gC (.skip (.refl _)))))) (nI 1))
   ·refine dw ?_;refine ai rfl (pg out aA) ?_;refine ag 9 (λsm=>?_) λsm=>?_
    ·refine dA ?_;have hL:=ajr hRR ao (λh=>h.elim (λh=>MM) λh=>MM) sm;rw[hL];exact aH 62 4 none (ak ((dL (gC (gC (.skip (.refl _)))))) (nI 1))
    ·refine dh ?_;have hL:=ajs hRR ao (λh=>h.elim (λh=>MM) λh=>MM) sm;rw[hL];exact nI 1
  ·refine aD 7 [4,40] 10 ?_;have hL:=W_ hRR ao (.inl cX);rw[hL];exact aH 62 4 none (ak ((dL (gC (gC (.skip (.refl _)))))) (nI 1))
theorem an_(h:(marked b).2≠0):iG b=([],(marked b).2):=by unfold iG;rw[av h]
theorem an'(h:¬(marked b).2≠0)(h2:(marked b).1≠1):iG b=([],4):=by unfold iG;rw[aB h,av h2]
theorem aoa(h:¬(marked b).2≠0)(h2:¬(marked b).1≠1)(h3:(aT b).2≠0):iG b=([],(aT b).2):=by unfold iG;rw[aB h,aB h2,av h3]
theorem aob(h:¬(marked b).2≠0)(h2:¬(marked b).1≠1)(h3:¬(aT b).2≠0)(h4:E (aT b).1<5):iG b=([],1):=by unfold iG;rw[aB h,aB h2,aB h3,av h4]
theorem aoc(h:¬(marked b).2≠0)(h2:¬(marked b).1≠1)(h3:¬(aT b).2≠0)(h4:¬E (aT b).1<5):iG b=((aT b).1.drop 5,0):=by unfold iG;rw[aB h,aB h2,aB h3,aB h4]
theorem TQ(HT:cK B w0)(hb:gw B w0 F A c b)(ey:E b<=1000000):
  bg B w0 124 [.slice A (E b) c] F (FrA (iG b) B w0 F):=by
 refine ba func124 30 [0] 9 ?_;refine ai rfl (uW hb aa) (ag 14 (λnj=>?_) λnj=>?_)
 ·refine dh ?_;rw[an_ nj];exact FrA.nil (Y:=[]) rfl rfl rfl
 ·refine ag 9 (λj0=>?_) λj0=>?_
  ·refine dA ?_;rw[an' nj j0];exact FrA.nil (Y:=[]) rfl rfl rfl
  ·refine dx ?_;refine ay rfl (xe HT hb aa) λuc wK=>aD 5 [5,6] 0 ?_;refine ag 8 (λpe=>?_) λpe=>?_
   ·refine dh ?_;rw[aoa nj j0 pe];exact FrA.nil (Y:=[_]) rfl rfl rfl
   ·refine ag 10 (λkq=>?_) λkq=>?_
    ·refine dA ?_;rw[aob nj j0 pe aa];exact FrA.nil (Y:=[_]) rfl rfl rfl
    ·have hcut:=(aJ.own (B:=B) (w0:=w0) (L:=.own 5 1 uc (E (aT b).1) wK (bv (aT b).1)::F) (.head _)).cut (k:=5) aa;have e2:(bv (aT b).1).drop (5*1)=bv ((aT b).1.drop 5):=by simp[bv,uK]
     have e3:E (aT b).1-5=E ((aT b).1.drop 5):=by rw[jM]
     rw[e2,e3]at hcut;refine dx ?_;refine ab (bV (i:=5) (size:=1) underlying27 ae rfl rfl rfl aa) rfl (dw ?_);rw[aoc nj j0 pe aa];exact⟨_,_,[_],by rw[e3],rfl,hcut⟩
abbrev UnA(R:aZ×List aI×Nat×Int)(F:aN)(r:Value)(L:aN):Prop:=∃A' c',r= .tuple #[.agg (aZ.cells R.1).toArray,.slice A' (E R.2.1) c',ah (R.2.2.1:Int),ah R.2.2.2]/\L= .own 62 4 A' (E R.2.1) c' (cD R.2.1)::F
theorem an6(h:(iG b).2≠0):Fm b=(Bs,[],0,(iG b).2):=by unfold Fm;rw[av h]
theorem an7(h:¬(iG b).2≠0)(h2:ohE (iG b).1≠0):Fm b=(Bs,[],0,ohE (iG b).1):=by unfold Fm;rw[aB h,av h2]
theorem an8(h:¬(iG b).2≠0)(h2:¬ohE (iG b).1≠0)(h3:(lL (iG b).1).2≠0):Fm b=(Bs,[],0,(lL (iG b).1).2):=by unfold Fm;rw[aB h,aB h2,av h3]
theorem an9(h:¬(iG b).2≠0)(h2:¬ohE (iG b).1≠0)(h3:¬(lL (iG b).1).2≠0):Fm b=(ohO (iG b).1,(lL (iG b).1).1,Ds (iG b).1,0):=by unfold Fm;rw[aB h,aB h2,aB h3]
theorem pv(b:aq):E (aT b).1<=E b:=by
 unfold aT;split
 ·simp
 ·split
  ·simp
  ·simp
theorem aeM(b:aq):E (iG b).1<=E b:=by
 have:=pv b;unfold iG;split
 ·simp
 ·split
  ·simp
  ·split
   ·simp
   ·split
    ·simp
    ·simp only[jM];omega
theorem kv(o:aZ):∀u∈aZ.cells o,u.oneCell'=true:=by simp[aZ.cells,Value.oneCell']
theorem Px(HT:cK B w0)(hb:gw B w0 F A c b)(ey:E b<=1000000):
  bg B w0 68 [.slice A (E b) c] F (UnA (Fm b) F):=by
 have S4:=aeM b;refine fw func68 49 [0] ?_;refine bW 2 λg2=>?_;refine cY ?_;refine bp aqc rfl (TQ HT hb.cons ey) rfl ?_;rintro _ _ ⟨Ax,cx,Y,rfl,cR,hbx⟩;obtain rfl:=cR.symm;refine dA ?_;have G':=rJ Y [.bI g2 23 [ah 0,.bool false,ah 0,ah 0,ah 0,ah 0]] F;refine jP G' ?_;have aix:=hbx.perm G';have xr:Wk (Y++F) F:=ej Y F;obtain⟨K,hK⟩:=cM (Y++F);simp only[List.singleton_append]at aix⊢;rw[<-hK]at aix xr⊢;have pG:=kv (ohO (iG b).1);refine ag 5 (λgH=>?_) λgH=>?_
 ·refine ew ?_;refine ab (eW [ah 0,.bool false,ah 0,ah 0,ah 0,ah 0] ae) rfl (dA ?_);refine aH 62 4 none (vU rfl rfl ae aU jI rfl rfl rfl (.cons (.skip xr)) ?_);rw[an6 gH];exact⟨none,0,rfl,rfl⟩
 ·refine dx ?_;refine dV rfl (n_ aix aa) λgn An cn=>aX ?_;refine ab (bw [(0,_),(1,_)] [.pointer none,.slice none 0 0,ah 0,.bool false,ah 0,ah 0,ah 0,ah 0,ah 0,ah 0] [0,1] [_,_,_,_,_,_,_,_,_,_] rfl rfl ae) rfl (fM λg24=>?_);refine aD 1 [2,8] 5 ?_;refine ai rfl (Z6 (x:=(iG b).1) (aJ.own (.head _)) aa) (ag 9 (λqa=>?_) λqa=>?_)
  ·refine ew ?_;refine ab (eW [ah 0,.bool false,ah 0,ah 0,ah 0,ah 0] ae) rfl (dA ?_);refine aH 62 4 none (vU rfl rfl ae aU jI rfl rfl rfl (.cons (.s3 (.skip xr))) ?_);rw[an7 gH qa];exact⟨none,0,rfl,rfl⟩
  ·refine dx ?_;refine dV rfl (aeP HT (x:=(iG b).1) (aJ.own (.head _)) aix.cons aa) λAr cr s9=>ag 14 (λCS=>?_) λCS=>?_
   ·refine ew ?_;refine ab (eW [ah 0,.bool false,ah 0,ah 0,ah 0,ah 0] ae) rfl (aD 5 [2,3,4,5] 3 ?_);refine aH 62 4 none (vU rfl rfl ae aU jI rfl rfl rfl (.cons (.s4 (.skip xr))) ?_);rw[an8 gH qa CS];exact⟨none,0,rfl,rfl⟩
   ·refine cN 3 (Ob g24 gn (.slice Ax (E (iG b).1) cx) (ohO (iG b).1) (Hs (iG b).1) (Ds (iG b).1)::K) ?_;refine aF 0 3 ?_;refine aS 3 rfl (cu 6 ae rfl aU (aZ.cells (ohO (iG b).1)) rfl rfl) ?_;refine aF 4 5 ?_;refine aC 9 (aX ?_);refine aF 10 3 ?_;refine di [2,3,4,5] ?_;refine ew ?_;refine vU rfl rfl ae aU jI rfl rfl rfl (.cons (.s3 (.skip xr))) ?_;rw[an9 gH qa CS];exact⟨Ar,cr,rfl,rfl⟩
end
theorem abP{P:Prop}(h:P:=by(rw[Cn,iF,vK];rfl)):P:=h
abbrev Bo(g:Nat)(v0 v1 v2 v3 v4 v5 v6 v7 v8 v9:Value):Ch:=.bI g 188 [v0,v1,v2,v3,v4,v5,v6,v7,v8,v9]
theorem RF{ns:br}(hb:aJ B w0 F 1 (.slice A (E ns) c) (E ns) (bN ns))(hl:E ns<=1099511627776)(hs:ns.sum<=1000000000000000):
  bg B w0 182 [bq g] (Bo g (.slice A (E ns) c) v1 v2 v3 v4 v5 v6 v7 v8 v9::F) (λr L=>r=ah (ns.sum:Nat)/\L=Bo g (.slice A (E ns) c) v1 v2 v3 v4 v5 v6 v7 v8 v9::F):=by
 refine ba func182 11 [0] 22 ?_;exact ai rfl (DU (ns:=ns) hb.cons hl hs) (cm 5)
theorem JH:∀{ss:br} {r:aq} {k:Nat},k<E ss->nS (ss.take (k+1)) r=nS (ss.take k) r++[(r.drop (ss.take k).sum).take (ss.getD k 0)]
 |[],_,_,h=>by simp at h
 |n::ss,r,0,_=>by simp[nS]
 |n::ss,r,k+1,h=>by
  have ih:=JH (ss:=ss) (r:=r.drop n) (k:=k) ml;rw[nK,nS,ih,nK,nS,y9,mX];rfl
theorem nT:∀(ss:br) (r:aq),E (nS ss r)=E ss
 |[],_=>rfl
 |n::ss,r=>by rw[nS,ei,nT ss,ei]
theorem Vx{xs:cQ}(e1:n=E l)(e2:xs=bv l)(hb:aJ B w0 F 1 (.slice A n c) n xs)(hn:E l<=1099511627776):
  bg B w0 36 [.slice A n c] F (λr L=>∃A' c',r= .slice A' (E l) c'/\L= .own 5 1 A' (E l) c' (bv l)::F):=by
 subst e1;subst e2;exact mu l hb hn
def SpA(ss:br)(cc:Nat)(r:aq)(B:Nat)(w0:World)(F:aN)(b:Value->Ch)(v:Value)(L:aN):Prop:=
 ∃(Af:bh) (cf:Nat) (Ac:bh) (c1:Nat) (Ai:bh) (c2:Nat) (FB:List kF),v= .tuple #[.slice Ac cc c1,.slice Ai (E r-ss.sum-cc) c2]/\L=b (.slice Af (E ss) cf):: .own 27 1 Af (E ss) cf (FB.map de)::(FB.map fk++F)/\FB.map (·.2.2)=nS ss r/\
  aJ B w0 F 1 (.slice Ac cc c1) cc (bv ((r.drop ss.sum).take cc))/\aJ B w0 F 1 (.slice Ai (E r-ss.sum-cc) c2) (E r-ss.sum-cc) (bv ((r.drop ss.sum).drop cc))
theorem ab4{ss:br}{cc:Nat}{r:aq}(hb:gw B w0 F A c r)(hcr:E r<=c)(hs:aJ B w0 F 1 (.slice A2 (E ss) c2) (E ss) (bN ss))(lB:E ss<=20000)(xq:ss.sum+cc<=E r)(KL:E r<=1099511627776):
  bg B w0 180 [bq g,.slice A (E r) c] (Bo g v0 (.slice A2 (E ss) c2) (ah cc) v3 v4 v5 v6 v7 (.slice none 0 0) v9::F)
   (SpA ss cc r B w0 F λv=>Bo g v0 (.slice A2 (E ss) c2) (ah cc) v3 v4 v5 v6 v7 v v9):=by
 refine ba func180 49 [0,1] 8 ?_;refine aM 27 1 none (fF ?_);refine aw (λzf zL zm=>∃(k:Nat) (R:aq) (Ar:bh) (cr:Nat) (FB:List kF) (Af:bh) (cf:Nat),(k<=E ss/\R=r.drop (ss.take k).sum/\E R<=cr/\aJ B w0 F 1 (.slice Ar (E R) cr) (E R) (bv R)/\E FB=k/\FB.map (·.2.2)=nS (ss.take k) r)/\E ss-k=zm/\Sub zf [(0,bq g),(1,.slice Ar (E R) cr),(12,.slice A2 (E ss) c2),(13,ah (E ss)),(14,ah k)]/\Wk zL (.own 27 1 Af (E FB) cf (FB.map de)::Bo g v0 (.slice A2 (E ss) c2) (ah cc) v3 v4 v5 v6 v7 (.slice Af (E FB) cf) v9::(FB.map fk++F))) _ ⟨0,r,A,c,[],none,0,⟨bD _,ao,hcr,hb,rfl,by simp[nS]⟩,rfl,a_,.refl _⟩ ?_;rintro _ _ _ ⟨k,R,Ar,cr,FB,Af,cf,⟨hk,hR,hRc,KH,Ra,vK⟩,rfl,hs,hp⟩;refine aL hs hp ?_;clear hs hp;refine ag 6 (λmj=>?_) λmj=>?_
 ·obtain⟨n,hn⟩:=cM (ss.getD k 0);have sn:(ss.take (k+1)).sum=(ss.take k).sum+n:=by rw[aP aa 0,pJ,<-hn];simp
  have hts:=iA ss (k+1);have Wq:E R=E r-(ss.take k).sum:=by rw[hR,jM]
  have Cn:=JH (ss:=ss) (r:=r) (k:=k) aa;rw[<-hR,<-hn]at Cn;have vM:=KH.h_ (k:=n) aa;have hct:=KH.cut (k:=n) aa;have e1:(bv R).take (n*1)=bv (R.take n):=by rw[cH];simp[bv,mY]
  have e2:(bv R).drop (n*1)=bv (R.drop n):=by rw[cH];simp[bv,uK]
  have e3:n=E (R.take n):=by rw[fZ];omega
  have e4:E R-n=E (R.drop n):=by rw[jM]
  rw[e1]at vM;rw[e2,e4]at hct;have hhF:aJ B w0 (FB.map fk++F) 1 (.slice Ar n cr) n (bv (R.take n)):=vM.mono (fN _ _);have hsF:aJ B w0 (FB.map fk++F) 1 (.slice A2 (E ss) c2) (E ss) (bN ss):=hs.mono (fN _ _);refine dg ?_;refine ab (al ae rfl hsF.cons.cons aa (fi (v:=n) aa hn.symm)) rfl (cN 4 (FB.map fk++F) ?_);refine aF 0 4 ?_;refine aF 5 2 ?_;refine aS 7 rfl (bQ (i:=n) (size:=1) underlying27 ae rfl rfl rfl aa) (iv 4 8 ?_ ?_)
  ·refine aX ?_;refine aC 8 (cj rfl rfl (Vx (l:=R.take n) e3 rfl hhF.cons.cons aa) λsp zV=>aC 9 (cF rfl (aG fO [_] rfl rfl bY aa aa) λQ1=>aC 10 (fh rfl (bB fO rfl aU rfl aA bY aa aa) λB3 Ca=>?_)));refine aF 11 2 ?_;refine aC 13 (dw ?_);refine ab (bV (size:=1) underlying27 ae rfl rfl rfl aa) rfl (aD 1 [0,1,12,13,14] 6 ?_);refine aj ⟨_,aa,k+1,R.drop n,(if cr=n then Ar else Ar.map (·.add (n*1))),cr-n,FB++[((sp,zV,R.take n):kF)],B3,Ca,⟨aa,by rw[sn,hR,mX],aa,hct,by simp[Ra],abP⟩,rfl,a_,.trans ((gC (gC (gC (.skip (.refl _)))))) (.trans (oU (e:=((sp,zV,R.take n):kF)) [.own 27 1 B3 (E FB+1) Ca (FB.map de++[de ((sp,zV,R.take n):kF)]),Bo g v0 (.slice A2 (E ss) c2) (ah cc) v3 v4 v5 v6 v7 (.slice B3 (E FB+1) Ca) v9]) (au ao ao (bx ao (.refl _))))⟩
  ·refine cj rfl rfl (Vx (l:=R.take n) e3 rfl hhF.cons.cons aa) λsp zV=>iv 4 9 ?_ ?_
   ·refine aX ?_;refine aC 9 (cF rfl (aG fO [_] rfl rfl bY aa aa) λQ1=>aC 10 (fh rfl (bB fO rfl aU rfl aA bY aa aa) λB3 Ca=>?_));refine aF 11 2 ?_;refine aC 13 (dw ?_);refine ab (bV (size:=1) underlying27 ae rfl rfl rfl aa) rfl (aD 1 [0,1,12,13,14] 6 ?_);refine aj ⟨_,aa,k+1,R.drop n,(if cr=n then Ar else Ar.map (·.add (n*1))),cr-n,FB++[((sp,zV,R.take n):kF)],B3,Ca,⟨aa,by rw[sn,hR,mX],aa,hct,by simp[Ra],abP⟩,rfl,a_,.trans ((gC (gC (gC (.skip (.refl _)))))) (.trans (oU (e:=((sp,zV,R.take n):kF)) [.own 27 1 B3 (E FB+1) Ca (FB.map de++[de ((sp,zV,R.take n):kF)]),Bo g v0 (.slice A2 (E ss) c2) (ah cc) v3 v4 v5 v6 v7 (.slice B3 (E FB+1) Ca) v9]) (au ao ao (bx ao (.refl _))))⟩
   ·refine cF rfl (aG fO [_] rfl rfl bY aa aa) λQ1=>aC 4 (aX ?_);refine aC 10 (fh rfl (bB fO rfl aU rfl aA bY aa aa) λB3 Ca=>?_);refine aF 11 2 ?_;refine aC 13 (dw ?_);refine ab (bV (size:=1) underlying27 ae rfl rfl rfl aa) rfl (aD 1 [0,1,12,13,14] 6 ?_);refine aj ⟨_,aa,k+1,R.drop n,(if cr=n then Ar else Ar.map (·.add (n*1))),cr-n,FB++[((sp,zV,R.take n):kF)],B3,Ca,⟨aa,by rw[sn,hR,mX],aa,hct,by simp[Ra],abP⟩,rfl,a_,.trans ((gC (gC (gC (.skip (.refl _)))))) (.trans (oU (e:=((sp,zV,R.take n):kF)) [.own 27 1 B3 (E FB+1) Ca (FB.map de++[de ((sp,zV,R.take n):kF)]),Bo g v0 (.slice A2 (E ss) c2) (ah cc) v3 v4 v5 v6 v7 (.slice B3 (E FB+1) Ca) v9]) (au ao ao (bx ao (.refl _))))⟩
 ·obtain rfl:k=E ss:=by omega
  rw[js]at hR vK;have Wq:E R=E r-ss.sum:=by rw[hR,jM]
  have vM:=KH.h_ (k:=cc) aa;have hct:=KH.cut (k:=cc) aa;have e1:(bv R).take (cc*1)=bv ((r.drop ss.sum).take cc):=by rw[cH,hR];simp[bv,mY]
  have e2:(bv R).drop (cc*1)=bv ((r.drop ss.sum).drop cc):=by rw[cH,hR];simp[bv,uK]
  rw[e1]at vM;rw[e2,Wq]at hct;refine bK 13 ?_;refine bJ (bQ (i:=cc) (size:=1) underlying27 ae rfl rfl rfl aa) rfl (dw ?_);refine bJ (bV (i:=cc) (size:=1) underlying27 ae rfl rfl rfl aa) rfl (ew ?_);refine lD [(4,_),(5,_)] ⟨rfl,rfl,trivial⟩ ?_;refine ew ?_;refine ak (L':=Bo g v0 (.slice A2 (E ss) c2) (ah cc) v3 v4 v5 v6 v7 (.slice Af (E ss) cf) v9:: .own 27 1 Af (E ss) cf (FB.map de)::(FB.map fk++F)) (.trans ((gC (dL (.refl _)))) (bx (by rw[Ra]) (au (by rw[Ra]) rfl (.refl _)))) (aX ?_);refine⟨Af,cf,Ar,cr,_,_,FB,?_,rfl,vK,vM,hct⟩;rw[Wq]
theorem ald{ch:aq}(h:(aT ch).2≠0):Im n ch=(aT ch).2:=by unfold Im;rw[av h]
theorem ale{ch:aq}(h:¬(aT ch).2≠0)(h2:(om n (aT ch).1).2.2.2≠0):Im n ch=(om n (aT ch).1).2.2.2:=by unfold Im;rw[aB h,av h2]
theorem alf{ch:aq}(h:¬(aT ch).2≠0)(h2:¬(om n (aT ch).1).2.2.2≠0)(h3:(om n (aT ch).1).2.2.1<E (aT ch).1):Im n ch=2:=by unfold Im;rw[aB h,aB h2,av h3]
theorem alg{ch:aq}(h:¬(aT ch).2≠0)(h2:¬(om n (aT ch).1).2.2.2≠0)(h3:¬(om n (aT ch).1).2.2.1<E (aT ch).1):Im n ch=0:=by unfold Im;rw[aB h,aB h2,aB h3]
def ClA(n:Nat)(ch:aq)(F:aN)(b:Value->Value->Ch)(v4 v5:Value)(v:Value)(L:aN):Prop:=
 v=ah (Im n ch)/\((Im n ch≠0/\L=b v4 v5::F)\/(Im n ch=0/\∃(A1:bh) (c1:Nat) (A2:bh) (c2:Nat),L=b (.slice A1 (E (om n (aT ch).1).1) c1) (.slice A2 (E (om n (aT ch).1).2.1) c2):: .own 60 1 A1 (E (om n (aT ch).1).1) c1 (p9 (om n (aT ch).1).1):: .own 5 1 A2 (E (om n (aT ch).1).2.1) c2 (bv (om n (aT ch).1).2.1)::F))
theorem Yy(HT:cK B w0){ch:aq}{k:Nat}(hb:gw B w0 F A c ch)(hl:E ch<=1000000000)(hk:k<=1000000000):
  bg B w0 181 [.pointer (some ⟨g,4,none⟩),ah k,.slice A (E ch) c] (Bo g v0 v1 v2 v3 v4 v5 v6 v7 v8 v9::F) (ClA k ch F (λx y=>Bo g v0 v1 v2 v3 x y v6 v7 v8 v9) v4 v5):=by
 have yO:=pv ch;refine ba func181 43 [0,1,2] 8 ?_;refine ay rfl (xe HT hb.cons aa) λA14 c14=>ag 14 (λjq=>?_) λjq=>?_
 ·refine cY ?_;refine ak (.skip (.refl _)) (aX ?_);exact⟨by rw[ald jq],.inl ⟨by rw[ald jq];exact jq,rfl⟩⟩
 ·refine dw ?_;refine bp aqx rfl (T5 ((k:Nat):Int) (l:=(aT ch).1) aA aa aa aa) rfl ?_;rintro _ _ ⟨GJ,Ie,X9,c25,rfl,cR⟩;obtain rfl:=cR.symm;refine aD 9 [0,7,8,9,10,11] 0 ?_;refine ag 8 (λqN=>?_) λqN=>?_
  ·refine cY ?_;refine ak ((vu (.s3 (.refl _)))) (aX ?_);exact⟨by rw[ale jq qN],.inl ⟨by rw[ale jq qN];exact qN,rfl⟩⟩
  ·refine ag 11 (λCe=>?_) λCe=>?_
   ·refine dg ?_;refine ak ((vu (.s3 (.refl _)))) (aX ?_);exact⟨by rw[alf jq qN aa],.inl ⟨by rw[alf jq qN aa];decide,rfl⟩⟩
   ·refine aD 14 [] 7 ?_;refine ak ((vu (dL (dL (.skip (.refl _)))))) (aX ?_);exact⟨by rw[alg jq qN aa],.inr ⟨alg jq qN aa,GJ,Ie,X9,c25,rfl⟩⟩
noncomputable def pZ(x:fj):Nat->List aI×Nat
 |0=>([],0)
 |k+1=>if (g_ x k).2≠0 then ((pZ x k).1,(pZ x k).2+1) else ((pZ x k).1++(g_ x k).1,(pZ x k).2)
def lZ(L:List aI)(ns:br)(fs ps:fJ):Nat->List aI×Nat
 |0=>([],0)
 |k+1=>if ps.getD k []=fs.getD k [] then ((lZ L ns fs ps k).1++(L.drop (ns.take k).sum).take (ns.getD k 0),(lZ L ns fs ps k).2) else ((lZ L ns fs ps k).1,(lZ L ns fs ps k).2+1)
theorem Qm:∀{ss:br} {r:aq} {k:Nat},k<E ss->(nS ss r).getD k []=(r.drop (ss.take k).sum).take (ss.getD k 0)
 |n::ss,r,0,_=>by simp[nS]
 |n::ss,r,k+1,h=>by
  rw[nS,tA,Qm ml,nK,y9,mX,tA]
theorem IL{S:Nat}:∀{g l:br} (k:Nat),w6 S l g->w6 S (l.drop (g.take k).sum) (g.drop k)
 |g,l,0,h=>by simpa using h
 |[],l,k+1,h=>by simpa using h
 |n::g,l,k+1,h=>by
  rw[nK,y9,<-mX,Co];exact IL k h.2.2.2.2
theorem N5{b plain:Bool}:∀{ns:br} {L:List aI} {k:Nat},k<E ns->(iV b plain ns L).getD k []=(ij (ct b ((L.drop (ns.take k).sum).take (ns.getD k 0))) plain).1
 |n::ns,L,0,_=>by simp[iV]
 |n::ns,L,k+1,h=>by
  rw[iV,tA,N5 ml,nK,y9,mX,tA]
theorem Xw{o:aZ}{L:List aI}{x:fj}(hS:o.1.toNat<=32768)(hx:∀r∈L,r.fits)(h1:x.ns=dc o false L)(h2:x.times=L.map (·.1))(h3:x.levels=lv L):∀{k:Nat},k<=E x.ns->
  (∀j,j<k->x.bA.getD j []≠(cB o L).getD j []->(du (x.bA.getD j [])).2.2≠0)->pZ x k=lZ L x.ns (cB o L) x.bA k
 |0,_,_=>rfl
 |k+1,hk,hb=>by
  have ih:=Xw (x:=x) hS hx h1 h2 h3 (k:=k) aa λj hj=>hb j aa;rw[pZ,lZ,ih];by_cases e:x.bA.getD k []=(cB o L).getD k []
  ·have hf:=IL (E (x.ns.take k)) (by rw[h1];exact jd o.1.toNat (lens false L):w6 o.1.toNat (lens false L) x.ns);rw[fZ,C2 aa,cy (show k<E x.ns by omega) 0,<-sK]at hf;have wz:=NV hS hx h2 h3 (k:=k) rfl rfl hf (by rw[e];unfold cB;rw[<-h1];exact N5 aa);rw[wz,av e,aB ao]
  ·have hr:=hb k aa e;rw[aB e,av (by rw[g_,av hr];exact hr)]
theorem QT(L:List aI)(ns:br)(fs ps:fJ):∀k,E (lZ L ns fs ps k).1<=(ns.take k).sum/\(lZ L ns fs ps k).2<=k
 |0=>⟨bD _,ga _⟩
 |k+1=>by
  obtain⟨i1,i2⟩:=QT L ns fs ps k;have hs:(ns.take k).sum+ns.getD k 0=(ns.take (k+1)).sum:=by
   by_cases h:k<E ns
   ·rw[aP h 0,pJ];simp
   ·rw[gv aa,gv aa,bz,tS aa];rfl
  rw[lZ];split
  ·simp only[bm,fZ];omega
  ·simp only;omega
theorem uL:type_of% @Nat.xor_assoc:= @Nat.xor_assoc
def tM(a:Nat):Nat:=if a<128 then 2*a else (2*a-256) ^^^ 29
def fL:Nat->Nat->Nat->Nat->Nat
 |0,_,_,out=>out
 |f+1,a,b,out=>if b=0 then out else fL f (tM a) (b/2) (if b%2=1 then out ^^^ a else out)
def lr(a b:Nat):Nat:=fL 8 a b 0
theorem pD:∀a,a<256->tM a<256:=by decide+kernel
theorem zR{b:Nat}(ha:a<256)(hb:b<256):a ^^^ b<256:=tw (n:=8) ha hb
theorem ac5:((List.range 256).all λa=>(List.range 256).all λb=>Nat.beq (tM (a ^^^ b)) (tM a ^^^ tM b))=true:=by decide+kernel
theorem Wj{b:Nat}(ha:a<256)(hb:b<256):tM (a ^^^ b)=tM a ^^^ tM b:=by
 have h:=EU.1 (EU.1 ac5 a (oD.2 ha)) b (oD.2 hb);exact wB h
theorem avU(a b c d:Nat):(a ^^^ b) ^^^ (c ^^^ d)=(a ^^^ c) ^^^ (b ^^^ d):=by
 rw[uL,uL];congr 1;rw[<-uL,Nat.xor_comm b c,uL]
theorem Ff:∀(f a a' b o o':Nat),a<256->a'<256->fL f (a ^^^ a') b (o ^^^ o')=fL f a b o ^^^ fL f a' b o'
 |0,a,a',b,o,o',_,_=>rfl
 |f+1,a,a',b,o,o',ha,CT=>by
  unfold fL;by_cases hb:b=0
  ·rw[av hb,av hb,av hb]
  ·rw[aB hb,aB hb,aB hb,Wj ha CT];by_cases h1:b%2=1
   ·rw[av h1,av h1,av h1,avU];exact Ff f _ _ _ _ _ (pD a ha) (pD a' CT)
   ·rw[aB h1,aB h1,aB h1];exact Ff f _ _ _ _ _ (pD a ha) (pD a' CT)
theorem La:∀(f a b o:Nat),a<256->o<256->fL f a b o<256
 |0,a,b,o,_,ho=>ho
 |f+1,a,b,o,ha,ho=>by
  unfold fL;split
  ·exact ho
  ·split
   ·exact La f _ _ _ (pD a ha) (zR ho ha)
   ·exact La f _ _ _ (pD a ha) ho
theorem TF:∀(f a b o:Nat),a<256->o<256->fL f (tM a) b (tM o)=tM (fL f a b o)
 |0,a,b,o,_,_=>rfl
 |f+1,a,b,o,ha,ho=>by
  unfold fL;by_cases hb:b=0
  ·rw[av hb,av hb]
  ·rw[aB hb,aB hb];by_cases h1:b%2=1
   ·rw[av h1,av h1,<-Wj ho ha];exact TF f _ _ _ (pD a ha) (zR ho ha)
   ·rw[aB h1,aB h1];exact TF f _ _ _ (pD a ha) ho
theorem mul_lt(b:Nat)(ha:a<256):lr a b<256:=La 8 a b 0 ha aE
def gm(a b:UInt8):UInt8:=UInt8.ofNat (lr a.toNat b.toNat)
theorem QN(a:UInt8):a.toNat<256:=kR a
theorem ac7(a b:UInt8):(gm a b).toNat=lr a.toNat b.toNat:=by
 unfold gm;rw[rD];exact ly (mul_lt _ (QN a))
theorem aoN{a b:UInt8}(h:a.toNat=b.toNat):a=b:=oF.1 h
def uD:Nat->Nat->Nat->Nat->Nat
 |0,_,_,out=>out
 |f+1,a,n,out=>if n=0 then out else uD f (lr a a) (n/2) (if n%2=1 then lr out a else out)
def uC(a:Nat):Nat:=if a=0 then 0 else uD 8 a 254 1
theorem Y0:((List.range 256).all λa=>Nat.blt (uC a) 256)=true:=by decide+kernel
theorem ac6(h:a<256):uC a<256:=by simpa using EU.1 Y0 a (oD.2 h)
def Y3(a:UInt8):UInt8:=UInt8.ofNat (uC a.toNat)
theorem Ss(a:UInt8):(Y3 a).toNat=uC a.toNat:=by
 unfold Y3;rw[rD];exact ly (ac6 (QN a))
def xs:Nat->(Nat->UInt8)->UInt8
 |0,_=>0
 |n+1,f=>xs n f ^^^ f n
def ls:br->(Nat->UInt8)->UInt8
 |[],_=>0
 |j::J,f=>f j ^^^ ls J f
section
def cel(k:Nat)(m:aq)(i j:Nat):UInt8:=m.getD (i*k+j) 0
def zq(k:Nat)(m:aq)(i:Nat):aq:=(m.drop (i*k)).take k
def ajd(k:Nat)(m:aq)(i:Nat)(r:aq):aq:=m.take (i*k)++(r++m.drop (i*k+k))
theorem BI{n k i:Nat}(h:i<n):i*k+k<=n*k:=by
 have:=C3 k (show i+1<=n by omega);rw[qR,tC]at this;exact this
theorem aev{n k i:Nat}{m:aq}(hm:E m=n*k)(hi:i<n):E (zq k m i)=k:=by
 have:=BI (k:=k) hi;unfold zq;rw[fZ,jM];omega
theorem aeu{k j:Nat}(m:aq)(i:Nat)(hj:j<k):(zq k m i).getD j 0=cel k m i j:=by
 unfold zq cel;simp only[bz];rw[List.getElem?_take_of_lt hj,k_6]
def alI(k:Nat)(m:aq)(a i:Nat):aq:=ajd k (ajd k m a (zq k m i)) i (zq k m a)
def aew(k:Nat)(m:aq)(a:Nat)(c:UInt8):aq:=ajd k m a ((zq k m a).map (gm c))
def tL(s:aq)(c:UInt8)(b:aq):aq:=List.zipWith (λx y=>x ^^^ gm c y) s b
def asp(k:Nat)(m:aq)(q:Nat)(c:UInt8)(a:Nat):aq:=ajd k m q (tL (zq k m q) c (zq k m a))
section
variable{n k a i q r j:Nat}{m:aq}{c:UInt8}
theorem Ez(h:E s=E b):E (tL s c b)=E s:=by unfold tL;rw[List.length_zipWith];omega
theorem ac4{j:Nat}(h1:j<E s)(h2:j<E b):(tL s c b).getD j 0=s.getD j 0 ^^^ gm c (b.getD j 0):=by
 unfold tL;simp only[bz,List.getElem?_zipWith];rw[fx h1,fx h2];rfl
end
def asE(k:Nat)(m:aq)(col:Nat):Nat->Nat->Nat
 |0,i=>i
 |f+1,i=>if cel k m i col=0 then asE k m col f (i+1) else i
def aln(n a:Nat):Nat->Nat->aq×aq->aq×aq
 |0,_,p=>p
 |f+1,q,p=>aln n a f (q+1) (if q≠a/\cel n p.1 q a≠0 then (asp n p.1 q (cel n p.1 q a) a,asp n p.2 q (cel n p.1 q a) a) else p)
def amI(n a:Nat)(p:aq×aq):Nat:=asE n p.1 a (n-a) a
def atD(n a:Nat)(p:aq×aq):aq×aq:=(alI n p.1 a (amI n a p),alI n p.2 a (amI n a p))
def avL(n a:Nat)(p:aq×aq):aq×aq:=(aew n p.1 a (Y3 (cel n p.1 a a)),aew n p.2 a (Y3 (cel n p.1 a a)))
def atE(n a:Nat)(p:aq×aq):aq×aq:=aln n a n 0 (avL n a (atD n a p))
def ap'(n a:Nat)(p:aq×aq):Bool×aq×aq:=if amI n a p=n then (false,p) else (true,atE n a p)
def asg(n:Nat):Nat->Nat->aq×aq->Option (aq×aq)
 |0,_,p=>some p
 |f+1,i,p=>if (ap' n i p).1=true then asg n f (i+1) (ap' n i p).2 else none
def rW(r k:Nat)(f:Nat->Nat->UInt8):aq:=(List.range r).flatMap λi=>(List.range k).map λj=>f i j
def idC(n:Nat):aq:=rW n n λi j=>if i=j then 1 else 0
def avs(n:Nat)(m:aq):Option (aq):=(asg n n 0 (m,idC n)).map (·.2)
theorem ZV(r k:Nat)(f:Nat->Nat->UInt8):E (rW r k f)=r*k:=by
 unfold rW;induction r with
 |zero=>simp
 |succ r ih=>rw[mW,tB,bm,ih,qR];simp
theorem Tw(r k:Nat)(f:Nat->Nat->UInt8):rW (r+1) k f=rW r k f++(List.range k).map λj=>f r j:=by
 unfold rW;rw[mW,tB];simp
def Yl(k m:Nat):aq:=rW m k λi j=>Y3 (UInt8.ofNat ((k+i) ^^^ j))
def ao2(k m:Nat):aq:=idC k++Yl k m
def asD(k:Nat)(m:aq)(at_:br):aq:=at_.flatMap (zq k m)
theorem ab_(k m:Nat):E (Yl k m)=m*k:=ZV ..
end
theorem rK:type_of% @Nat.add_one_mul:= @Nat.add_one_mul
def LS(n:Nat)(row:aq)(data:fJ):aq:=(row.zip data).foldl (λs p=>if p.1=0 then s else tL s p.1 p.2) (List.replicate n 0)
def tms(r k:Nat)(cells:aq)(data:fJ)(n:Nat):fJ:=(List.range r).map λi=>LS n (zq k cells i) data
def IX(l:fJ):Nat:=E (l.headD [])
def par(m:Nat)(data:fJ):fJ:=tms m (E data) (Yl (E data) m) data (IX data)
def ud(l:fJ):Prop:=∀b∈l,E b=IX l
instance (l:List (List UInt8)):Decidable (ud l):=inferInstanceAs (Decidable (∀b∈l,E b=IX l))
def Sn(k:Nat)(rn:List Bool):br:=((List.range (E rn)).filter λi=>rn.getD i false).take k
def Eu(k:Nat)(parts:fJ)(rn:List Bool):fJ:=(Sn k rn).map (parts.getD · [])
def asr(k m:Nat)(rn:List Bool):aq:=(avs k (asD k (ao2 k m) (Sn k rn))).getD []
def alF(k m:Nat)(parts:fJ)(rn:List Bool):fJ:=
 if (Sn k rn).getD (k-1) 0≠k-1 then tms k k (asr k m rn) (Eu k parts rn) (IX (Eu k parts rn)) else Eu k parts rn
def ass(k m:Nat)(parts:fJ)(rn:List Bool):fJ×Int:=
 if¬ud (Eu (k+m) parts rn) then ([],13) else if E (Eu (k+m) parts rn)<k then ([],12)
 else (alF k m parts rn++par m (alF k m parts rn),0)
theorem wN{n:Nat}:∀(l:List (UInt8×aq)) (s:aq),E s=n->(∀p∈l,E p.2=n)->E (l.foldl (λs p=>if p.1=0 then s else tL s p.1 p.2) s)=n
 |[],s,h,_=>h
 |p::r,s,h,hl=>by
  rw[List.foldl_cons];refine wN r _ ?_ λq hq=>hl q (by simp[hq]);split
  ·exact h
  ·rw[Ez (by rw[h,hl p ao])];exact h
theorem ago{row:aq}(h:∀b∈data,E b=n):E (LS n row data)=n:=
 wN _ _ ao λp hp=>h _ (List.of_mem_zip hp).2
theorem xR(r k:Nat)(cells:aq)(data:fJ)(n:Nat):E (tms r k cells data n)=r:=by simp[tms]
theorem agp{k:Nat}{cells:aq}(h:∀b∈data,E b=n):∀b∈tms r k cells data n,E b=n:=λb hb=>by
 obtain⟨i,_,rfl⟩:=qd.1 hb;exact ago h
theorem Om{l:fJ}(h:∀b∈l,E b=n)(h0:0<E l):IX l=n:=by
 cases l with
 |nil=>simp at h0
 |cons x r=>exact h x ao
theorem sQ(m:Nat)(data:fJ):E (par m data)=m:=xR ..
theorem PF(h0:0<E data)(h:∀b∈data,E b=n):∀b∈par m data,E b=n:=by
 unfold par;rw[Om h h0];exact agp h
def mr(c:Nat):Nat->aq->fJ
 |0,_=>[]
 |p+1,x=>x.take c::mr c p (x.drop c)
def oS(k ch n:Nat):Nat:=(n+k*ch-1)/(k*ch)
def m0(k m ch n:Nat):Nat:=oS k ch n*((k+m)*(ch+4))
def Dz(k m ch n:Nat):Int:=if 8388608<n then 13 else if 16777216<m0 k m ch n then 6 else 0
def LM(k m ch:Nat)(x:aq):fJ:=mr ch k x++par m (mr ch k x)
def LJ(k m ch:Nat)(x:aq):aq:=(LM k m ch x).flatMap b7
def rP(k m ch:Nat):Nat->aq->aq
 |0,_=>[]
 |f+1,x=>LJ k m ch (x.take (k*ch))++rP k m ch f (x.drop (k*ch))
def qU(k ch:Nat)(b:aq):aq:=b++List.replicate (oS k ch (E b)*(k*ch)-E b) 0
def qf(k m ch:Nat)(b:aq):aq×Int:=if Dz k m ch (E b)≠0 then ([],Dz k m ch (E b)) else (rP k m ch (oS k ch (E b)) (qU k ch b),0)
def rdP(k m ch:Nat)(s:aq):fJ:=(mr (ch+4) (k+m) s).map λc=>(aT c).1
def rdG(k m ch:Nat)(s:aq):List Bool:=(mr (ch+4) (k+m) s).map λc=>decide ((aT c).2=0)
def asJ(at_:Nat)(rn:List Bool):br:=((List.range (E rn)).filter λi=> !rn.getD i false).map (at_+ ·)
def srN(k m ch:Nat)(s:aq):fJ×Int:=ass k m (rdP k m ch s) (rdG k m ch s)
def aoR(k m ch:Nat)(s:aq):Prop:=∃i,i<E (srN k m ch s).1/\(rdG k m ch s).getD i false=true/\(srN k m ch s).1.getD i []≠(rdP k m ch s).getD i []
noncomputable def rdE(k m ch:Nat)(s:aq):Int:=by
 classical
 exact if (srN k m ch s).2≠0 then (srN k m ch s).2 else if aoR k m ch s then 2 else 0
noncomputable def asK(k m ch:Nat):Nat->aq->aq->br->Nat->aq×br×Int
 |0,_,out,bad,_=>(out,bad,0)
 |f+1,s,out,bad,at_=>
  if rdE k m ch (s.take ((k+m)*(ch+4)))≠0 then ([],[],rdE k m ch (s.take ((k+m)*(ch+4))))
  else asK k m ch f (s.drop ((k+m)*(ch+4))) (out++((srN k m ch (s.take ((k+m)*(ch+4)))).1.take k).flatten) (bad++asJ at_ (rdG k m ch (s.take ((k+m)*(ch+4))))) (at_+(k+m))
noncomputable def afg(k m ch n:Nat)(s:aq):aq×br×Int:=asK k m ch (oS k ch n) s [] [] 0
noncomputable def avE(k m ch n:Nat)(s:aq):aq×br×Int:=
 if Dz k m ch n≠0 then ([],[],Dz k m ch n) else if E s<m0 k m ch n then ([],[],1) else if m0 k m ch n<E s then ([],[],2)
 else if (afg k m ch n s).2.2≠0 then ([],[],(afg k m ch n s).2.2)
 else if∃x∈(afg k m ch n s).1.drop n,x≠0 then ([],[],2) else ((afg k m ch n s).1.take n,(afg k m ch n s).2.1,0)
theorem l7(c:Nat):∀(p:Nat) (x:aq),E (mr c p x)=p
 |0,_=>rfl
 |p+1,x=>by rw[mr,ei,l7 c p]
theorem vC(c:Nat):∀(p:Nat) (x:aq),E x=p*c->∀b∈mr c p x,E b=c
 |0,_,_=>by simp[mr]
 |p+1,x,h=>by
  rw[qR,tC]at h;rw[mr];intro b hb;rcases fq.1 hb with rfl|hb
  ·rw[fZ];omega
  ·exact vC c p _ l0 b hb
theorem Ij(c:Nat):∀(p:Nat) (x:aq),E x=p*c->(mr c p x).flatten=x
 |0,x,h=>by rw[nJ]at h;rw[List.length_eq_zero_iff.1 h];rfl
 |p+1,x,h=>by
  rw[qR,tC]at h;rw[mr,Cy,Ij c p _ l0,kH]
theorem yp(c:Nat):∀(l:fJ),(∀b∈l,E b=c)->∀r,mr c (E l) (l.flatten++r)=l
 |[],_,_=>rfl
 |b::l,h,r=>by
  have hb:=h b ao;rw[ei,mr,Cy,bT,qs hb,rH hb,yp c l (λx hx=>h x th) r]
theorem uV(l:fJ):(List.range (E l)).map (l.getD · [])=l:=by
 apply oQ
 ·simp
 ·intro i h1 h2;simp at h1;simp[h1]
theorem qC(k m ch:Nat)(x:aq):E (LM k m ch x)=k+m:=by unfold LM;rw[bm,sQ,l7]
theorem vW{k ch:Nat}{x:aq}(hk:0<k)(h:E x=k*ch):∀b∈LM k m ch x,E b=ch:=λb hb=>by
 rcases dO.1 hb with hb|hb
 ·exact vC ch k x h b hb
 ·exact PF (by rw[l7];exact hk) (vC ch k x h) b hb
theorem tq{c:Nat}:∀l:fJ,(∀b∈l,E b=c)->E (l.flatMap b7)=E l*(c+4)
 |[],_=>by simp
 |b::l,h=>by
  rw[iX,bm,tq l (λx hx=>h x th),dD,h b ao,ei,qR];omega
theorem zG{k ch:Nat}{x:aq}(hk:0<k)(h:E x=k*ch):E (LJ k m ch x)=(k+m)*(ch+4):=by
 unfold LJ;rw[tq _ (vW hk h),qC]
theorem Ym{k ch:Nat}{x:aq}(hk:0<k)(h:E x=k*ch):mr (ch+4) (k+m) (LJ k m ch x)=(LM k m ch x).map b7:=by
 have h1:=yp (ch+4) ((LM k m ch x).map b7) (λb hb=>by
  obtain⟨p,hp,rfl⟩:=qd.1 hb;rw[dD,vW hk h p hp]) []
 rw[eZ,qC,gN,<-List.flatMap_def]at h1;exact h1
theorem zg{k m ch:Nat}(hk:0<k):∀(f:Nat) (x:aq),E x=f*(k*ch)->E (rP k m ch f x)=f*((k+m)*(ch+4))
 |0,x,h=>by simp[rP]
 |f+1,x,h=>by
  rw[qR,tC]at h;have h1:E (x.take (k*ch))=k*ch:=by rw[fZ];omega
  rw[rP,bm,zG hk h1,zg hk f _ l0,rK f];omega
theorem LK{k ch:Nat}(h:0<k*ch):n<=oS k ch n*(k*ch):=by
 unfold oS;have:=Nat.div_add_mod (n+k*ch-1) (k*ch);have h2:=rG (n+k*ch-1) h;rw[mi]at this;omega
theorem zy{k ch:Nat}(h:0<k*ch)(b:aq):E (qU k ch b)=oS k ch (E b)*(k*ch):=by
 have:=LK (n:=E b) h;unfold qU;rw[bm,wT];omega
def w4(o:aZ)(n:Nat):aq:=
 (eK++[3])++([gj o.2.1,UInt8.ofNat o.2.2.1.toNat,UInt8.ofNat o.2.2.2.1.toNat,UInt8.ofNat o.2.2.2.2.1.toNat]++(fT o.2.2.2.2.2.toNat 2++(fT o.1.toNat 2++fT n 4)))
def jg(o:aZ)(n:Nat):aq:=b7 (w4 o n)
def jO(o:aZ)(b:aq):aq×Int:=qf o.2.2.2.1.toNat o.2.2.2.2.1.toNat o.2.2.2.2.2.toNat b
def Hy(o:aZ)(b:aq):aq:=jg o (E b)++((jO o b).1++jg o (E b))
def wE(o:aZ)(L:List aI):aq×Int:=
 if dF 3 o≠0 then ([],dF 3 o) else if (gL o L).2≠0 then ([],(gL o L).2) else if (jO o (gJ o L)).2≠0 then ([],(jO o (gJ o L)).2) else (Hy o (gJ o L),0)
def RY(c:aq):Prop:=(aT c).2=0/\(marked c).2=0/\(marked c).1=3
instance (c:List UInt8):Decidable (RY c):=inferInstanceAs (Decidable (_/\_/\_))
def ahP(b:aq):aq×Int:=
 if E b<42 then ([],1) else if RY (b.take 21) then (b.take 21,0) else if RY (b.drop (E b-21)) then (b.drop (E b-21),0) else ([],5)
def z7(c:aq):Cs:=⟨c.drop 5,0,0⟩
def j8(c:aq):Cs:=(z7 c).eV
def jj(c:aq):Cs:=(j8 c).eV
def t_(c:aq):Cs:=(jj c).eV
def x9(c:aq):Cs:=(t_ c).eV
def hs5(c:aq):Cs:=(x9 c).lA 2
def hs6(c:aq):Cs:=(hs5 c).lA 2
def yL(c:aq):UInt8:=(z7 c).byte
def hO(c:aq):aZ:=((((hs5 c).fixed 2:Nat):Int),decide ((yL c).toNat=1),((j8 c).byte.toNat:Int),((jj c).byte.toNat:Int),((t_ c).byte.toNat:Int),(((x9 c).fixed 2:Nat):Int))
def hN(c:aq):Nat:=(hs6 c).fixed 4
def hE(c:aq):Int:=if 1<(yL c).toNat then 2 else dF 3 (hO c)
noncomputable def hRd(b:aq):aq×br×Int:=avE (hO (ahP b).1).2.2.2.1.toNat (hO (ahP b).1).2.2.2.2.1.toNat (hO (ahP b).1).2.2.2.2.2.toNat (hN (ahP b).1) ((b.take (E b-21)).drop 21)
theorem nt{o:aZ}(ho:dF 3 o=0):ju 3 o/\dF 2 (o2 o)=0:=by
 have eu:ju 3 o:=by
  unfold dF at ho;rw[av (.inr (.inr rfl))]at ho;exact b_ λh=>by rw[aB h]at ho;simp at ho
 refine⟨eu,?_⟩;obtain⟨h1,_,h3,_,_⟩:=eu;unfold dF;rw[av (.inr (.inl rfl)),av];exact⟨h1,λh=>absurd h aa,λ_=>h3 (.inl rfl),λ_=>⟨rfl,rfl,rfl⟩,λh=>absurd h aa⟩
theorem Cs.AQ{s:Cs}{x k:Nat}{r:aq}(h0:s.e=0)(h1:1<=k)(h8:k<=8)(hx:x<2^(8*k))(hr:s.rest=fT x k++r):s.fixed k=x/\nX s (s.lA k) (fT x k):=by
 obtain⟨a,d⟩:=Cs.mK (n:=(k:Nat)) h0 ao hr;unfold Cs.fixed Cs.lA;rw[aB aa,aB aa,a,E5];exact⟨ly hx,d⟩
theorem nr{x:Nat}(h:x<256):(UInt8.ofNat x).toNat=x:=by rw[rD];exact ly h
theorem Gc(o:aZ)(n:Nat):E (jg o n)=21:=by
 unfold jg w4;rw[dD];simp[eK]
theorem agj(o:aZ)(n:Nat):RY (jg o n):=by
 have yR:marked (jg o n)=(3,0):=by
  have:=nN (v:=3) HX (([gj o.2.1,UInt8.ofNat o.2.2.1.toNat,UInt8.ofNat o.2.2.2.1.toNat,UInt8.ofNat o.2.2.2.2.1.toNat]++(fT o.2.2.2.2.2.toNat 2++(fT o.1.toNat 2++fT n 4)))++kz (mw 0 (w4 o n)));rw[<-this];congr 1
 refine⟨?_,by rw[yR],by rw[yR]⟩;unfold jg;rw[kN]
theorem aaO{o:aZ}(ho:dF 3 o=0)(hn:n<4294967296):hE (jg o n)=0/\hO (jg o n)=o/\hN (jg o n)=n:=by
 obtain⟨eu,_⟩:=nt ho;obtain⟨⟨m1,m2⟩,m3,m4,_,_⟩:=eu;obtain⟨⟨k1,k2⟩,⟨k3,k4⟩,⟨k5,k6⟩⟩:=m3 rfl;obtain⟨m5,m6⟩:=m4 (.inl rfl);obtain⟨x,hx⟩:=cM ((jg o n).drop 5);have r0:(z7 (jg o n)).rest=gj o.2.1::(UInt8.ofNat o.2.2.1.toNat::(UInt8.ofNat o.2.2.2.1.toNat::(UInt8.ofNat o.2.2.2.2.1.toNat::(fT o.2.2.2.2.2.toNat 2++(fT o.1.toNat 2++(fT n 4++kz (mw 0 (w4 o n)))))))):=by
  unfold z7 Cs.rest jg b7 w4;simp[eK]
 obtain⟨n1,d1⟩:=Cs.mo (s:=z7 (jg o n)) rfl r0;have r1:(j8 (jg o n)).rest=_:=d1.cP (p:=[gj o.2.1]) r0;obtain⟨n2,d2⟩:=Cs.mo (s:=j8 (jg o n)) d1.e1 r1;have r2:(jj (jg o n)).rest=_:=d2.cP (p:=[UInt8.ofNat o.2.2.1.toNat]) r1;obtain⟨n3,d3⟩:=Cs.mo (s:=jj (jg o n)) d2.e1 r2;have r3:(t_ (jg o n)).rest=_:=d3.cP (p:=[UInt8.ofNat o.2.2.2.1.toNat]) r2;obtain⟨n4,d4⟩:=Cs.mo (s:=t_ (jg o n)) d3.e1 r3;have r4:(x9 (jg o n)).rest=_:=d4.cP (p:=[UInt8.ofNat o.2.2.2.2.1.toNat]) r3;obtain⟨n5,d5⟩:=Cs.AQ (s:=x9 (jg o n)) (k:=2) d4.e1 aa aa aa r4;have r5:(hs5 (jg o n)).rest=_:=d5.cP r4;obtain⟨n6,d6⟩:=Cs.AQ (s:=hs5 (jg o n)) (k:=2) d5.e1 aa aa aa r5;have r6:(hs6 (jg o n)).rest=_:=d6.cP r5;obtain⟨n7,d7⟩:=Cs.AQ (s:=hs6 (jg o n)) (k:=4) d6.e1 aa aa aa r6;have ePl:yL (jg o n)=gj o.2.1:=n1;have l_:(gj o.2.1).toNat<=1/\(decide ((gj o.2.1).toNat=1)=o.2.1):=by cases o.2.1<;>exact⟨aE,aE⟩
 have eO:hO (jg o n)=o:=by
  unfold hO;rw[ePl,l_.2,n2,n3,n4,nr aa,nr aa,nr aa];rw[show(x9 (jg o n)).fixed 2=_ from n5,show(hs5 (jg o n)).fixed 2=_ from n6];obtain⟨a,b,c,d,e,f⟩:=o;simp only at m1 m2 m5 m6 k1 k2 k3 k4 k5 k6⊢;rw[Ct aa,Ct aa,Ct aa,Ct aa,Ct aa]
 refine⟨?_,eO,n7⟩;unfold hE;rw[ePl,aB aa,eO,ho]
theorem dQ.LZ{P:Program}{f:FuncId}{args:cQ}{R R2:oV}(h:dQ P B w0 f args L R)(hr:∀v M,R v M->∃M2,Wk M M2/\R2 v M2):dQ P B w0 f args L R2:=λw hw=>(h w hw).mono λe w' ⟨v,M,he,hR,hs⟩=>by
 obtain⟨M2,hk,x6⟩:=hr v M hR;exact⟨v,M2,he,x6,hk.sl hs⟩
theorem dQ.at_mem{P:Program}{f:FuncId}{args:cQ}{x:Ch}(hm:x∈L)(h:∀M,dQ P B w0 f args (x::M) (λr K=>r=v/\K=x::M)):dQ P B w0 f args L (λr K=>r=v/\K=L):=by
 obtain⟨s,t,rfl⟩:=List.append_of_mem hm;have hp:(s++x::t).Perm (x::(s++t)):=zb;exact((h (s++t)).perm hp).LZ λv M ⟨h1,h2⟩=>⟨_,.c_ (by rw[h2];exact hp.symm),h1,rfl⟩
section
def DG(B:Nat)(w0:World)(L:aN)(g:Nat)(x:fj)(va:Value):Prop:=
 ∃(A1:bh) (c1:Nat) (A2:bh) (c2:Nat) (A3:bh) (c3:Nat) (A4:bh) (c4:Nat) (A5:bh) (c5:Nat) (A6:bh) (c6:Nat) (LL:List rb) (Af:bh) (cf:Nat) (FB:List kF),
  Bo g (.slice A1 (E x.ns) c1) (.slice A2 (E x.ss) c2) (ah x.c) (ah x.i) (.slice A3 (E x.times) c3) (.slice A4 (E x.levels) c4) (.slice A5 (E x.T) c5) (.slice A6 (E LL) c6) (.slice Af (E FB) cf) va∈L/\
  aJ B w0 L 1 (.slice A1 (E x.ns) c1) (E x.ns) (bN x.ns)/\aJ B w0 L 1 (.slice A3 (E x.times) c3) (E x.times) (p9 x.times)/\aJ B w0 L 1 (.slice A4 (E x.levels) c4) (E x.levels) (bv x.levels)/\
  aJ B w0 L 1 (.slice A5 (E x.T) c5) (E x.T) (strs x.T)/\aJ B w0 L 1 (.slice A6 (E LL) c6) (E LL) (LL.map jz)/\(∀e∈LL,aJ B w0 L 1 (jz e) (E e.2.2) (bN e.2.2))/\LL.map (·.2.2)=x.I/\
  aJ B w0 L 1 (.slice Af (E FB) cf) (E FB) (FB.map de)/\(∀e∈FB,aJ B w0 L 1 (de e) (E e.2.2) (bv e.2.2))/\FB.map (·.2.2)=x.bA
def CJ(B:Nat)(w0:World)(L:aN)(g:Nat)(x:fj):Prop:=∃va,DG B w0 L g x va
theorem DG.mono{x:fj}{L M:aN}{va:Value}(h:DG B w0 L g x va)(hs:L.Sublist M):DG B w0 M g x va:=by
 obtain⟨A1,c1,A2,c2,A3,c3,A4,c4,A5,c5,A6,c6,LL,Af,cf,FB,h1,h2,h3,h4,h5,h6,h7,h8,h9,ig,oA⟩:=h;exact⟨A1,c1,A2,c2,A3,c3,A4,c4,A5,c5,A6,c6,LL,Af,cf,FB,hs.subset h1,h2.mono hs,h3.mono hs,h4.mono hs,h5.mono hs,h6.mono hs,λe he=>(h7 e he).mono hs,h8,h9.mono hs,λe he=>(ig e he).mono hs,oA⟩
theorem CJ.mono{x:fj}{L M:aN}(h:CJ B w0 L g x)(hs:L.Sublist M):CJ B w0 M g x:=h.elim λva h=>⟨va,h.mono hs⟩
theorem Nx{m:Nat}:∀(f:Nat) (s:Cs) (ns ss:br),E ns=E ss->E (tK m f s ns ss).1=E (tK m f s ns ss).2.1/\E (tK m f s ns ss).1<=E ns+f
 |0,s,ns,ss,h=>by rw[tK];exact⟨h,ao⟩
 |f+1,s,ns,ss,h=>by
  rw[tK];split
  ·exact⟨h,cX⟩
  ·have:=Nx (m:=m) f ((s.bX m).bX 8388608) (ns++[s.int m]) (ss++[(s.bX m).int 8388608]) (by simp[h]);rw[bm,tz]at this;exact⟨this.1,by have:=this.2;omega⟩
theorem VW(d:aq):E (iJ d).1=E (iJ d).2.1/\E (iJ d).1<=20000:=by
 have hR:=Kn d;have hB:((Mq d:Nat):Int)<=Dm d:=Cs.fI _ aa aa;have:=Nx (m:=Dm d) (Mq d) (dr2 d) [] [] rfl;unfold iJ;exact⟨this.1,by have:=this.2;simp only[tT]at this;omega⟩
theorem Ny{d:aq}{room:Nat}(h:drE d room=0):(iJ d).1.sum=Dm d/\(iJ d).2.1.sum+Km d+drI d=room/\0∉(iJ d).1:=by
 unfold drE at h;split at h
 ·rename_i h1;exact absurd h h1
 ·split at h
  ·cases h
  ·rename_i h2;exact⟨b_ λk=>h2 (.inr (.inl k)),b_ λk=>h2 (.inr (.inr k)),λk=>h2 (.inl k)⟩
theorem R0(HT:cK B w0){ch:aq}{k:Nat}(hn:n=E ch)(hb:aJ B w0 F 1 (.slice A n c) n (bv ch))(hl:E ch<=1000000000)(hk:k<=1000000000)(h:Im k ch=0):
  bg B w0 181 [.pointer (some ⟨g,4,none⟩),ah k,.slice A n c] (Bo g v0 v1 v2 v3 v4 v5 v6 v7 v8 v9::F) (λr L=>r=ah 0/\∃(A1:bh) (c1:Nat) (A2:bh) (c2:Nat),L=Bo g v0 v1 v2 v3 (.slice A1 (E (om k (aT ch).1).1) c1) (.slice A2 (E (om k (aT ch).1).2.1) c2) v6 v7 v8 v9:: .own 60 1 A1 (E (om k (aT ch).1).1) c1 (p9 (om k (aT ch).1).1):: .own 5 1 A2 (E (om k (aT ch).1).2.1) c2 (bv (om k (aT ch).1).2.1)::F):=by
 subst hn;exact(Yy HT hb hl hk).mono λr L h'=>⟨by rw[h'.1,h],h'.2.elim (λq=>absurd h q.1) λq=>q.2⟩
section
variable{o:aZ}{b:aq}
def ahD(o:aZ)(b:aq):fj:=⟨(iJ (gY b)).1,(iJ (gY b)).2.1,Km (gY b),drI (gY b),(om ((iJ (gY b)).1.sum:Nat) (aT (GS b)).1).1,(om ((iJ (gY b)).1.sum:Nat) (aT (GS b)).1).2.1,
 (ft o.2.2.1 ((iJ (gY b)).1.sum:Nat) (aT (B_ b)).1).1,(ft o.2.2.1 ((iJ (gY b)).1.sum:Nat) (aT (B_ b)).1).2.1,nS (iJ (gY b)).2.1 (DR b)⟩
end
def aph(x:fj)(B:Nat)(w0:World)(F:aN)(r:Value)(L:aN):Prop:=∃g N,r= .tuple #[bq g,ah 0]/\L=N++F/\CJ B w0 N g x
def ahe(x:fj)(B:Nat)(w0:World)(F:aN)(r:Value)(L:aN):Prop:=∃(g:Nat) (N:aN) (n:Nat) (Aa:bh) (ca:Nat) (X:cQ),n=E x.bA/\r= .tuple #[bq g,ah 0]/\L= .own 4 1 Aa n ca X::(N++F)/\DG B w0 N g x (.slice Aa n ca)
theorem ahe.k{x:fj}{r:Value}(h:ahe x B w0 F r L):aph x B w0 F r L:=by
 obtain⟨g,N,n,Aa,ca,X,_,h2,h3,h4⟩:=h;exact⟨g,_::N,h2,h3,_,h4.mono (.cons _ (.refl _))⟩
theorem IP(b:aq):E (lF b).1<=E b/\E (lF b).2.1<=E b:=by
 unfold lF;split
 ·exact⟨ao,ao⟩
 ·split
  ·exact⟨ao,ao⟩
  ·refine⟨by simp only[fZ];omega,?_⟩;have:=pv ((b.take (E b-4)).drop (E b-4-ftK b));rw[jM,fZ]at this;unfold ftD;simp only;omega
theorem Xd{size bound:Int}{x:Ch}{b:aq}(hb:aJ B w0 (x::F) 1 (.slice A (E b) c) (E b) (bv b))(ey:E b<=1000000):
  bg B w0 183 [ah size,ah bound,.slice A (E b) c] (x::F) (λr L=>∃(A1:bh) (c1:Nat) (A2:bh) (c2:Nat) (LL:List rb),r= .tuple #[GL A1 (E (ft size bound b).1) c1 A2 (E LL) c2,ah (ft size bound b).2.2]/\LL.map (·.2.2)=(ft size bound b).2.1/\
   L=x:: .own 9 1 A1 (E (ft size bound b).1) c1 (strs (ft size bound b).1):: .own 53 1 A2 (E LL) c2 (LL.map jz)::(LL.map jT++F)):=
 (ajD hb ey).LZ λv M ⟨A1,c1,A2,c2,LL,h1,h2,h3⟩=>by
  subst h3;refine⟨_,.c_ ?_,A1,c1,A2,c2,LL,h1,h2,rfl⟩;exact rJ (_::_::LL.map jT) [x] F
theorem B5{h a b t l x2:Ch}{R Z:aN}:(h::a::b::(R++(x1::t::l::x2::Z))).Perm (x2::h::a::b::(R++(x1::t::l::Z))):=by
 have e:h::a::b::(R++(x1::t::l::x2::Z))=(h::a::b::(R++[x1,t,l]))++x2::Z:=by simp
 rw[e];exact zb.trans (.of_eq ao)
theorem MK{h a b t l f s1 s2 x3:Ch}{R P Y:aN}:h::a::b::(R++(x1::t::l::f::s1::s2::x3::(P++(Y++F))))=(h::a::b::(R++(x1::t::l::f::s1::s2::x3::(P++Y))))++F:=by
 simp only[nM,bT]
theorem M6{o:aZ}{b:aq}{fl c3 c4 c5 c6 cf:Nat}{A3 A4 A5 A6 Af:bh}{LL:List rb}{FB:List kF}{va:Value}{K2:aN}{x3:Ch}(l_:fl=E (iJ (gY b)).2.1)(vK:FB.map (·.2.2)=nS (iJ (gY b)).2.1 (DR b))(cR:LL.map (·.2.2)=(ft o.2.2.1 ((iJ (gY b)).1.sum:Nat) (aT (B_ b)).1).2.1)(aro:∀e∈FB,aJ B w0 K2 1 (de e) (E e.2.2) (bv e.2.2)):
  DG B w0 (Bo g (.slice A1 (E (iJ (gY b)).1) c1) (.slice A2 fl c2) (ah (Km (gY b))) (ah (drI (gY b))) (.slice A3 (E (om ((iJ (gY b)).1.sum:Nat) (aT (GS b)).1).1) c3) (.slice A4 (E (om ((iJ (gY b)).1.sum:Nat) (aT (GS b)).1).2.1) c4) (.slice A5 (E (ft o.2.2.1 ((iJ (gY b)).1.sum:Nat) (aT (B_ b)).1).1) c5) (.slice A6 (E LL) c6) (.slice Af fl cf) va::
   .own 9 1 A5 (E (ft o.2.2.1 ((iJ (gY b)).1.sum:Nat) (aT (B_ b)).1).1) c5 (strs (ft o.2.2.1 ((iJ (gY b)).1.sum:Nat) (aT (B_ b)).1).1):: .own 53 1 A6 (E LL) c6 (LL.map jz)::
   (LL.map jT++(x1:: .own 60 1 A3 (E (om ((iJ (gY b)).1.sum:Nat) (aT (GS b)).1).1) c3 (p9 (om ((iJ (gY b)).1.sum:Nat) (aT (GS b)).1).1):: .own 5 1 A4 (E (om ((iJ (gY b)).1.sum:Nat) (aT (GS b)).1).2.1) c4 (bv (om ((iJ (gY b)).1.sum:Nat) (aT (GS b)).1).2.1):: .own 27 1 Af fl cf (FB.map de):: .own 3 1 A1 (E (iJ (gY b)).1) c1 (bN (iJ (gY b)).1):: .own 3 1 A2 fl c2 (bN (iJ (gY b)).2.1)::x3::K2))) g (ahD o b) va:=by
 have hfb:E FB=fl:=by have:=eG List.length vK;rw[eZ,nT]at this;omega
 subst hfb;refine⟨A1,c1,A2,c2,A3,c3,A4,c4,A5,c5,A6,c6,LL,Af,cf,FB,?_,?_,?_,?_,?_,?_,?_,cR,?_,?_,vK⟩
 ·show Bo g (.slice A1 (E (iJ (gY b)).1) c1) (.slice A2 (E (iJ (gY b)).2.1) c2) _ _ _ _ _ _ _ _∈_;rw[<-l_];exact .head _
 ·exact aJ.own (.tail _ (.tail _ (.tail _ (mG _ (.tail _ (.tail _ (.tail _ (.tail _ (.head _)))))))))
 ·exact aJ.own (.tail _ (.tail _ (.tail _ (mG _ (.tail _ (.head _))))))
 ·exact aJ.own (.tail _ (.tail _ (.tail _ (mG _ (.tail _ (.tail _ (.head _)))))))
 ·exact aJ.own (.tail _ (.head _))
 ·exact aJ.own (.tail _ (.tail _ (.head _)))
 ·exact λe he=>aJ.own (.tail _ (.tail _ (.tail _ (ku _ (jr (f:=jT) he)))))
 ·exact aJ.own (.tail _ (.tail _ (.tail _ (mG _ (.tail _ (.tail _ (.tail _ (.head _))))))))
 ·exact λe he=>(aro e he).mono (by
   refine .cons _ (.cons _ (.cons _ (.trans ?_ (fN _ _))));exact .cons _ (.cons _ (.cons _ (.cons _ (.cons _ (.cons _ (.cons _ (.refl _))))))))
set_option maxHeartbeats 2000000 in
theorem ahE(HT:cK B w0){o:aZ}{b:aq}(hb:gw B w0 F A c b)(ey:E b<=1000000)(h:¬dF 2 (o2 o)≠0)(h2:¬(lF b).2.2≠0)(h3:¬drE (gY b) (E (DR b))≠0)(h4:¬Im (iJ (gY b)).1.sum (GS b)≠0)(h5:¬(aT (B_ b)).2≠0)(h6:¬(ft o.2.2.1 ((iJ (gY b)).1.sum:Nat) (aT (B_ b)).1).2.2≠0):bg B w0 111 [.agg (aZ.cells o).toArray,.slice A (E b) c] F (ahe (ahD o b) B w0 F):=by
 obtain⟨bl,pl,bu,da,pa,ch⟩:=o;refine cV func111 90 rfl rfl rfl [(0,.agg #[ah bl,.bool pl,ah bu,ah da,ah pa,ah ch]),(1,.slice A (E b) c)] ⟨⟨rfl,rfl⟩,⟨rfl,rfl⟩,trivial⟩ ?_;refine bM 2 λg2=>?_;refine cY ?_;refine ai rfl (yh (bl,pl,bu,da,pa,ch)) (ag 9 (λjq=>?_) λjq=>?_)
 ·exfalso;exact h jq
 ·refine dx ?_;refine bp aqj rfl (amV HT hb.cons aa) rfl ?_;rintro _ _ ⟨Ar,cr,Ad,cd,Y,rfl,cR,hrc,hbR,hbD⟩;obtain rfl:=cR.symm;refine ag 16 (λkq=>?_) λkq=>?_
  ·exfalso;exact h2 kq
  ·have G':=rJ Y [.bI g2 23 [ah bl,.bool pl,ah bu,ah da,ah pa,ah ch]] F;refine jP G' ?_;have ado:=hbR.perm G';have adn:=hbD.perm G';have xr:Wk (Y++F) F:=ej Y F;obtain⟨K,hK⟩:=cM (Y++F);simp only[List.singleton_append]at ado adn⊢;rw[<-hK]at ado adn xr⊢;have eR:(lF b).1=DR b:=rfl;have eD:(lF b).2.1=gY b:=rfl;have hlr:=IP b;rw[eR,eD]at hlr;rw[eR]at ado hrc⊢;rw[eD]at adn⊢;refine fb ?_;refine ab (eW [.slice none 0 0,.slice none 0 0,ah 0,ah 0,.slice none 0 0,.slice none 0 0,.slice none 0 0,.slice none 0 0,.slice none 0 0,.slice none 0 0] ae) rfl (fM λg30=>?_);refine aD 1 [2,7,8,10] 10 ?_;refine bp aqk rfl (YI (d:=gY b) (room:=E (DR b)) adn aa aa) rfl ?_;rintro _ _ ⟨rfl,A1,c1,A2,c2,cR⟩;obtain rfl:=cR.symm;refine ag 9 (λQ_=>?_) λQ_=>?_
   ·exfalso;exact h3 Q_
   ·have hz:=Ny (b_ h3);have SH:=VW (gY b);have hRR:=Kn (gY b);have arv:aJ B w0 (.own 3 1 A1 (E (iJ (gY b)).1) c1 (bN (iJ (gY b)).1):: .own 3 1 A2 (E (iJ (gY b)).2.1) c2 (bN (iJ (gY b)).2.1):: .bI g2 23 [ah bl,.bool pl,ah bu,ah da,ah pa,ah ch]::K) 1 (.slice Ar (E (DR b)) cr) (E (DR b)) (bv (DR b)):=ado.cons.cons;refine dw ?_;refine bp aql rfl (ab4 (ss:=(iJ (gY b)).2.1) (cc:=Km (gY b)) (r:=DR b) arv hrc (aJ.own (.tail _ (.head _))) aa aa aa) rfl ?_;rintro _ _ ⟨Af,cf,Ac,cc1,Ai,ci1,FB,rfl,cR,vK,hbC,hbI⟩;obtain rfl:=cR.symm;refine aD 5 [2,10,12,13] 2 ?_;have ar5:=rJ (FB.map fk) [.own 3 1 A1 (E (iJ (gY b)).1) c1 (bN (iJ (gY b)).1),.own 3 1 A2 (E (iJ (gY b)).2.1) c2 (bN (iJ (gY b)).2.1),.bI g2 23 [ah bl,.bool pl,ah bu,ah da,ah pa,ah ch]] K;refine jP ((ar5.cons _).cons _) ?_;obtain⟨K2,KG⟩:=cM (FB.map fk++K);have awS:Wk K2 F:=by rw[KG];exact(ej _ _).trans xr
    have SX:(.own 3 1 A1 (E (iJ (gY b)).1) c1 (bN (iJ (gY b)).1):: .own 3 1 A2 (E (iJ (gY b)).2.1) c2 (bN (iJ (gY b)).2.1):: .bI g2 23 [ah bl,.bool pl,ah bu,ah da,ah pa,ah ch]::K).Sublist (.own 3 1 A1 (E (iJ (gY b)).1) c1 (bN (iJ (gY b)).1):: .own 3 1 A2 (E (iJ (gY b)).2.1) c2 (bN (iJ (gY b)).2.1):: .bI g2 23 [ah bl,.bool pl,ah bu,ah da,ah pa,ah ch]::K2):=by rw[KG];exact((fN _ _).cons_cons _ |>.cons_cons _).cons_cons _
    have am8:=hbC.mono SX;have am9:=hbI.mono SX;have aro:∀e∈FB,aJ B w0 K2 1 (de e) (E e.2.2) (bv e.2.2):=λe he=>by rw[KG];exact aJ.own (ku _ (jr (f:=fk) he))
    clear hbC hbI SX ar5 arv ado adn;simp only[nM,mh];rw[<-KG];have eC:((DR b).drop (iJ (gY b)).2.1.sum).take (Km (gY b))=GS b:=rfl;have eI:((DR b).drop (iJ (gY b)).2.1.sum).drop (Km (gY b))=B_ b:=rfl;rw[eC]at am8;rw[eI]at am9;have lC:Km (gY b)=E (GS b):=by rw[<-eC,fZ,jM];omega
    have lI:E (DR b)-(iJ (gY b)).2.1.sum-Km (gY b)=E (B_ b):=by rw[<-eI,jM,jM]
    rw[lI]at am9⊢;obtain⟨fl,l_⟩:=cM (E (iJ (gY b)).2.1);rw[<-l_]at am8 am9⊢;refine dg ?_;refine cv (eY afH rfl rfl rfl rfl rfl aa aa aa) λA53=>cN 7 K2 ?_;refine aF 0 4 ?_;refine dI 5 ?_;refine aC 4 (lu rfl rfl ((RF (ns:=(iJ (gY b)).1) aA aa aa).pY ((oI (gh (.refl _))))) ?_);refine aC 6 (gS rfl .no aqm rfl (.perm (R0 HT (ch:=GS b) lC am8.cons.cons (by rw[<-lC];omega) aa (b_ h4)) ((oI (gh (.refl _))))) rfl (by rintro _ _ ⟨rfl,A3,c3,A4,c4,rfl⟩;exact gI) ?_);rintro _ _ ⟨rfl,A3,c3,A4,c4,cR⟩;obtain rfl:=cR.symm;refine dI 7 ?_;refine di [2,10,13,14] ?_;refine bZ 7 λh64=>?_;refine dw ?_;refine ay rfl (xe HT (l:=B_ b) aA aa) λA68 c68=>?_;refine ag 13 (λWp=>?_) λWp=>?_
    ·exfalso;exact h5 Wp
    ·refine cN 4 (([]:aN)) ?_;refine aF 0 2 ?_;refine dI 3 ?_;refine dI 5 ?_;refine iv 2 4 ?_ ?_
     ·refine aX ?_;refine aC 4 (lu rfl rfl ((RF (ns:=(iJ (gY b)).1) aA aa aa).pY ((oI (gh (.refl _))))) ?_);refine aC 6 (gS rfl .no ak8 rfl (.perm (Xd (b:=(aT (B_ b)).1) (aJ.own (.tail _ (.head _))) (by have:=pv (B_ b);omega)) ((oI (gh (.refl _))))) rfl (by rintro _ _ ⟨A5,c5,A6,c6,LL,rfl,adj,rfl⟩;exact gI) ?_);rintro _ _ ⟨A5,c5,A6,c6,LL,rfl,adj,cR⟩;obtain rfl:=cR.symm;refine aF 7 5 ?_;refine aC 12 (ky rfl .no (pC 2 ae rfl rfl MN aU rfl ao) uf ?_);rintro _ _ rfl;refine dI 13 ?_;refine di [9,10] ?_;refine ag 7 (λh87=>?_) λh87=>?_
      ·exfalso;exact h6 h87
      ·refine dh ?_;refine ak (.c_ B5) (aX ?_);have hb3:∀e∈FB,aJ B w0 (FB.map fk++Y) 1 (de e) (E e.2.2) (bv e.2.2):=λe he=>aJ.own (ku _ (jr (f:=fk) he));rw[KG,hK];exact⟨g30,_,_,_,_,_,by rw[l_];exact(nT _ _).symm,rfl,eG _ MK,M6 (o:=(bl,pl,bu,da,pa,ch)) l_ vK adj hb3⟩
     ·refine lu rfl rfl ((RF (ns:=(iJ (gY b)).1) aA aa aa).pY ((oI (gh (.refl _))))) ?_;refine aC 2 (aX ?_);refine aC 6 (gS rfl .no ak8 rfl (.perm (Xd (b:=(aT (B_ b)).1) (aJ.own (.tail _ (.head _))) (by have:=pv (B_ b);omega)) ((oI (gh (.refl _))))) rfl (by rintro _ _ ⟨A5,c5,A6,c6,LL,rfl,adj,rfl⟩;exact gI) ?_);rintro _ _ ⟨A5,c5,A6,c6,LL,rfl,adj,cR⟩;obtain rfl:=cR.symm;refine aF 7 5 ?_;refine aC 12 (ky rfl .no (pC 2 ae rfl rfl MN aU rfl ao) uf ?_);rintro _ _ rfl;refine dI 13 ?_;refine di [9,10] ?_;refine ag 7 (λh87=>?_) λh87=>?_
      ·exfalso;exact h6 h87
      ·refine dh ?_;refine ak (.c_ B5) (aX ?_);have hb3:∀e∈FB,aJ B w0 (FB.map fk++Y) 1 (de e) (E e.2.2) (bv e.2.2):=λe he=>aJ.own (ku _ (jr (f:=fk) he));rw[KG,hK];exact⟨g30,_,_,_,_,_,by rw[l_];exact(nT _ _).symm,rfl,eG _ MK,M6 (o:=(bl,pl,bu,da,pa,ch)) l_ vK adj hb3⟩
theorem H'{o:aZ}{b:aq}(h:(l6 o b).2=0):¬dF 2 (o2 o)≠0/\¬(lF b).2.2≠0/\¬drE (gY b) (E (DR b))≠0/\¬Im (iJ (gY b)).1.sum (GS b)≠0/\¬(aT (B_ b)).2≠0/\¬(ft o.2.2.1 ((iJ (gY b)).1.sum:Nat) (aT (B_ b)).1).2.2≠0/\l6 o b=(ahD o b,0):=by
 unfold l6 at h⊢;split at h
 ·contradiction
 ·rename_i h1;rw[aB h1];split at h
  ·contradiction
  ·rename_i h2;rw[aB h2];split at h
   ·contradiction
   ·rename_i h3;rw[aB h3];split at h
    ·contradiction
    ·rename_i h4;rw[aB h4];split at h
     ·contradiction
     ·rename_i h5;rw[aB h5];split at h
      ·contradiction
      ·rename_i h6;rw[aB h6];exact⟨h1,h2,h3,h4,h5,h6,rfl⟩
theorem Vm(HT:cK B w0){o:aZ}{b:aq}(e:n=E b)(hb:aJ B w0 F 1 (.slice A n c) n (bv b))(ey:E b<=1000000)(h:(l6 o b).2=0):bg B w0 111 [.agg (aZ.cells o).toArray,.slice A n c] F (ahe (l6 o b).1 B w0 F):=by
 subst e;obtain⟨h1,h2,h3,h4,h5,h6,e⟩:=H' h;rw[e];exact ahE HT hb ey h1 h2 h3 h4 h5 h6
theorem ahF(HT:cK B w0){o:aZ}{b:aq}(e:n=E b)(hb:aJ B w0 F 1 (.slice A n c) n (bv b))(ey:E b<=1000000)(h:(l6 o b).2=0):bg B w0 111 [.agg (aZ.cells o).toArray,.slice A n c] F (aph (l6 o b).1 B w0 F):=
 (Vm HT e hb ey h).mono λr L hr=>hr.k
end
abbrev Rf(g:Nat)(A:bh)(c:Nat)(q:List Bool)(p:Nat)(F:aN):aN:=.bI g 249 [.slice A (E q) c,ah p]:: .own 5 1 A (E q) c (bv (ref q))::F
theorem asO(a:Value){x y:Int}(h:x=y):[a,Value.int .i64 x]=[a,Value.int .i64 y]:=by rw[h]
theorem alQ{q q':List Bool}{b:Bool}{A':bh}{c':Nat}{xs:cQ}(hm:m=E q+1)(hx:xs=bv (ref q)++[.int .u8 b.toNat])(hq:q'=q++[b]):Wk (.bI g bt [.slice A' m c',v]:: .own 5 1 A' m c' xs::F) (.bI g bt [.slice A' (E q') c',v]:: .own 5 1 A' (E q') c' (bv (ref q'))::F):=by
 subst hx;subst hq;exact bx Vj (au Vj (by rw[Lt,Ka,Lu]) (.refl _))
def pw(j:Nat):Nat:=128/2^j
theorem ajG(j:Nat):pw (j+1)=pw j/2:=by rw[pw,pw,ki,I6]
theorem aol(h:j<8):0<pw j:=by
 have:∀j:Fin 8,0<pw j.val:=by decide
 exact this ⟨j,h⟩
theorem asI(j:Nat):pw j<=128:=oE _ _
theorem asH(h:j<8):pw j=2^(7-j):=by
 have:∀j:Fin 8,pw j.val=2^(7-j.val):=by decide
 exact this ⟨j,h⟩
theorem ae'{b:Nat}(ha:a<9223372036854775808):IntKind.i64.wrap ((a:Int).tdiv (b:Int))=((a/b:Nat):Int):=by
 have e:(a:Int).tdiv (b:Int)=((a/b:Nat):Int):=(Int.ofNat_tdiv a b).symm;have h0:a/b<9223372036854775808:=I5 (oE a b) ha;rw[e];generalize a/b=x at h0;exact wrap_i64 _ aa aa
theorem agH(l:aq){k:Nat}(hk:k<E l)(hj:j<8):IntKind.u8.wrap (((l.getD k 0).toNat/pw j%2:Nat):Int)=((((eM l).getD (8*k+j) false).toNat:Nat):Int):=by
 have h:=wh l (i:=8*k+j) aa;rw[show(8*k+j)/8=k by omega,show 7-(8*k+j)%8=7-j by omega,<-asH hj]at h;rw[<-h];have:=mn (eM l) (8*k+j);exact Gw aa aa
theorem JL(l:aq)(h:m<8*E l):(eM l).take (m+1)=(eM l).take m++[(eM l).getD m false]:=aP (by rw[dm];exact h) false
theorem TH(hb:gw B w0 F A c l)(hl:E l<=1000000):
  bg B w0 99 [.slice A (E l) c] F (λr L=>∃g A' c',r=bq g/\L=Rf g A' c' (eM l) 0 F):=by
 have yU:=dm l;refine ba func99 40 [0] 6 ?_;refine aM 5 1 none (aX ?_);refine ab (eW [.slice none 0 0,ah 0] ae) rfl (fM λg8=>?_);refine dh ?_;refine aw (λzf zL zm=>∃(k:Nat) (A':bh) (c':Nat),(k<=E l)/\E l-k=zm/\Sub zf [(0,.slice A (E l) c),(3,bq g8),(4,ah k)]/\Wk zL (Rf g8 A' c' ((eM l).take (8*k)) 0 F)) _ ⟨0,none,0,bD _,rfl,a_,.refl _⟩ ?_;rintro _ _ _ ⟨k,A',c',hk,rfl,hs,hp⟩;refine aL hs hp (ag 9 (λjZ=>?_) λjZ=>?_)
 ·refine bK 15 ?_;refine aw (λzf zL zm=>∃(j:Nat) (A':bh) (c':Nat),(j<=8)/\8-j=zm/\Sub zf [(0,.slice A (E l) c),(3,bq g8),(4,ah k),(5,ah (pw j:Nat)),(6,ah j)]/\Wk zL (Rf g8 A' c' ((eM l).take (8*k+j)) 0 F)) _ ⟨0,A',c',bD _,rfl,a_,.refl _⟩ ?_;rintro _ _ _ ⟨j,A',c',hj,rfl,hs,hp⟩;refine aL hs hp ?_;have kh:=asI j;have CW:E ((eM l).take (8*k+j))<=8*k+j:=List.length_take_le _ _;refine ag 7 (λj0=>?_) λj0=>?_
  ·have hpp:=aol (j:=j) aa;have Oz:=ajG j;have hub:=kR (l.getD k 0);refine cN 5 F ?_;refine aF 0 4 ?_;refine aF 5 6 ?_;refine aS 11 rfl (iq rfl rfl aa (ae' aa)) (aS 12 rfl (kl rfl rfl aa (al6 _)) (aS 13 rfl (be underlying3 underlying5 rfl (agH l aa aa)) (iv 4 14 ?_ ?_)))
   ·refine aX ?_;refine aC 14 (cF rfl (aG bP [_] rfl rfl bY aa aa) λMj=>aC 15 (fh rfl (bB bP rfl aU rfl aA bY aa aa) λtI tY=>?_));refine aF 16 2 ?_;refine aC 18 (aX ?_);refine di [0,3,4,5,6] ?_;refine fc ?_;refine ab (iq rfl rfl aa (ae' (b:=2) aa)) rfl (dA ?_);refine aj ⟨_,aa,j+1,tI,tY,aa,rfl,a_,.skip (alQ (q:=(eM l).take (8*k+j)) (q':=(eM l).take (8*k+(j+1))) (b:=(eM l).getD (8*k+j) false) rfl rfl (JL l (m:=8*k+j) aa))⟩
   ·refine cF rfl (aG bP [_] rfl rfl bY aa aa) λMj=>aC 4 (aX ?_);refine aC 15 (fh rfl (bB bP rfl aU rfl aA bY aa aa) λtI tY=>?_);refine aF 16 2 ?_;refine aC 18 (aX ?_);refine di [0,3,4,5,6] ?_;refine fc ?_;refine ab (iq rfl rfl aa (ae' (b:=2) aa)) rfl (dA ?_);refine aj ⟨_,aa,j+1,tI,tY,aa,rfl,a_,.skip (alQ (q:=(eM l).take (8*k+j)) (q':=(eM l).take (8*k+(j+1))) (b:=(eM l).getD (8*k+j) false) rfl rfl (JL l (m:=8*k+j) aa))⟩
  ·refine fF ?_;refine aj ⟨_,aa,k+1,A',c',aa,rfl,a_,by rw[show j=8 by omega];exact .refl _⟩
 ·refine dM ?_;exact ak (L':=Rf g8 A' c' (eM l) 0 F) (by rw[gv (show(eM l).length<=8*k by omega)];exact .refl _) (nI 1)
theorem FA(q:List Bool)(p:Nat)(hp:p<=E q)(hq:E q<=8000000):bg B w0 169 [bq g] (Rf g A c q p F) (λr L=>r=ah ((E q:Int)-p)/\L=Rf g A c q p F):=by
 refine fw func169 13 [0] ?_;exact cm 22
theorem acv{x:Nat}(hx:x<2^m)(hm:m<64):IntKind.u64.wrap (2*(x:Int))=((2*x:Nat):Int):=by
 have h:x<2^63:=rF hx (gz aa aa);rw[eQ aa aa];omega
theorem abC{x b:Nat}(hx:x<2^m)(hm:m<64)(hb:b<=1):IntKind.u64.wrap (((2*x:Nat):Int)+(b:Int))=((2*x+b:Nat):Int):=by
 have h:x<2^63:=rF hx (gz aa aa);rw[eQ aa aa];omega
theorem Xr(q:List Bool)(p:Nat)(hp:p<=E q)(hq:E q<=8000000)(n:Int)(h1:-9223372036854775808<=n)(h2:n<=9223372036854775807):
  bg B w0 168 [bq g,ah n] (Rf g A c q p F) (λr L=>r= .tuple #[.int .u64 (pkV q p n),ah (pkN q p n)]/\L=Rf g A c q p F):=by
 have KL:=sS q;refine fw func168 45 [0,1] ?_;refine bf 9 6 14 [0,1] (n<0\/64<n) ?_ ?_
 ·refine bk 3 (λoA=>?_) (λoA=>?_)
  ·exact ax 4 (k:=DN)
  ·exact ax 2 (k:=J5)
 ·refine ag 2 (λgT=>?_) λgT=>?_
  ·refine dA ?_;simp only[pkV,pkN,av gT];exact⟨fD,fD⟩
  ·obtain⟨m,rfl⟩:=gl (show 0<=n by omega);refine bK 15 ?_;refine aw (λzf zL zm=>∃(k:Nat),(k<=m)/\m-k=zm/\Sub zf [(0,bq g),(1,ah m),(6,.int .u64 (part q p k)),(7,ah (min (k:Int) ((E q:Int)-p))),(8,ah k)]/\Wk zL (Rf g A c q p F)) _ ⟨0,bD _,rfl,a_,.refl _⟩ ?_;rintro _ _ _ ⟨k,hk,rfl,hs,hp⟩;refine aL hs hp ?_;clear hs hp;have gU:=lT q p k;have SC:=mn q (p+k);have Oz:part q p (k+1)=2*part q p k+gQ q (p+k):=rfl;refine ag 8 (λgH=>?_) λgH=>?_
   ·refine dg ?_;refine ab (eo rfl rfl (acv gU aa)) rfl (dg ?_);refine ai rfl (FA q p hp hq) (ag 3 (λqn=>?_) λqn=>?_)
    ·refine bK 13 ?_;refine bJ (az (i:=p+k) underlying27 ae rfl rfl rfl aa aA) rfl (aX ?_);rw[Du _ aa];refine aX ?_;refine bJ (bF rfl rfl (abC gU aa SC)) rfl (aX ?_);refine lD [(0,_),(1,_),(6,_),(7,_),(8,_)] ⟨rfl,rfl,rfl,rfl,rfl,trivial⟩ ?_;refine bK 13 ?_;refine aj ⟨_,aa,k+1,aa,rfl,a_,.refl _⟩
    ·have h0:=rf q (i:=p+k) aa;refine cY ?_;refine aj ⟨_,aa,k+1,aa,rfl,a_,.refl _⟩
   ·refine bK 15 ?_;have Wz:m=k:=by omega
    subst Wz;simp only[pkV,pkN,aB gT];exact⟨fD,fD⟩
theorem Lw(q:List Bool)(p:Nat)(hp:p<=E q)(hq:E q<=8000000)(n:Int)(h1:-9223372036854775808<=n)(h2:n<=9223372036854775807):
  bg B w0 103 [bq g,ah n] (Rf g A c q p F) (λr L=>r= .tuple #[.int .u64 (jE q p n),ah (pE q p n)]/\L=Rf g A c q (fH q p n) F):=by
 refine fw func103 34 [0,1] ?_;refine bf 9 6 13 [0,1] (n<0\/64<n) ?_ ?_
 ·refine bk 3 (λig=>?_) (λig=>?_)
  ·exact ax 4 (k:=DN)
  ·exact ax 2 (k:=J5)
 ·refine ag 2 (λnj=>?_) λnj=>?_
  ·refine dA ?_;simp only[jE,pE,fH,av nj];exact⟨fD,fD⟩
  ·refine bf 5 4 17 [0,1] ((E q:Int)<p+n) ?_ ?_
   ·refine ew ?_;exact ai rfl (FA q p hp hq) (ax 1 (k:=DN))
   ·refine ag 2 (λgH=>?_) λgH=>?_
    ·refine dA ?_;simp only[jE,pE,fH,aB nj,av gH];exact⟨fD,fD⟩
    ·refine dw ?_;refine ai rfl (Xr q p hp hq n h1 h2) (aD 19 [6] 9 ?_);refine ak (L':=Rf g A c q (fH q p n) F) (bx (by simp only[fH,aB nj,aB gH];refine asO _ (?_ :_=_);omega) (.refl _)) ?_;refine aX ?_;simp only[jE,pE,pkV,aB nj,aB gH];exact⟨fD,fD⟩
theorem aoo(q:List Bool)(p:Nat)(hp:p<=E q)(hq:E q<=8000000):
  bg B w0 105 [bq g] (Rf g A c q p F) (λr L=>r=ah (Rm q p)/\L=Rf g A c q p F):=by
 have KL:=sS q;refine ba func105 28 [0] 9 ?_;refine ai rfl (FA q p hp hq) (ag 3 (λh6=>?_) λh6=>?_)
 ·refine cY ?_;simp only[Rm,aB (show¬((E q:Int)-p<8/\Z q p=E q) by omega)];exact⟨fD,fD⟩
 ·refine bK 13 ?_;refine aw (λzf zL zm=>∃(k:Nat),(k<=E q/\Z q p=Z q k)/\E q-k=zm/\Sub zf [(0,bq g),(3,ah k)]/\Wk zL (Rf g A c q p F)) _ ⟨p,⟨hp,rfl⟩,rfl,a_,.refl _⟩ ?_;rintro _ _ _ ⟨k,⟨hk,hz⟩,rfl,hs,hp⟩;refine aL hs hp ?_;clear hs hp;have SC:=mn q k;refine ag 12 (λgH=>?_) λgH=>?_
  ·refine fF ?_;refine ab (az (i:=k) underlying27 ae rfl rfl rfl aa aA) rfl (aX ?_);rw[Du _ aa];refine ag 3 (λkq=>?_) λkq=>?_
   ·refine aD 3 [2] 8 ?_;have hzk:=X6 (q:=q) (k:=k) aa aa;simp only[Rm,aB (show¬((E q:Int)-p<8/\Z q p=E q) by omega)];exact⟨fD,fD⟩
   ·refine aD 7 [0,3] 0 ?_;refine aj ⟨_,aa,k+1,⟨aa,ap7⟩,rfl,a_,.refl _⟩
  ·refine dM ?_;have hzk:=Q0 (q:=q) (k:=k) aa;simp only[Rm,av (show((E q:Int)-p<8/\Z q p=E q) by omega)];exact⟨fD,fD⟩
theorem Vd{P:Prop}(h:P:=by(rw[hys];exact oh)):P:=h
theorem as6:((List.range 256).all λa=>Nat.beq (a &&& 128) 0==Nat.blt a 128)=true:=by decide+kernel
theorem as7(h:a<256):a &&& 128=0↔a<128:=by
 have:=EU.1 as6 a (oD.2 h);have e:Nat.beq (a &&& 128) 0=Nat.blt a 128:=by simpa using this
 constructor
 ·intro k;rw[k]at e;exact(by simpa using e.symm)
 ·intro k;rw[show Nat.blt a 128=true by simpa using k]at e;exact wB e
theorem asU(a:Nat):IntKind.u8.wrap ((a:Int)*2^min ((1:Int)).toNat IntKind.u8.bits)=((2*a%256:Nat):Int):=by
 show((a:Int)*2)%256=_;omega
theorem L4(ha:a<256):bg B w0 306 [.int .u8 (a:Int)] F (λr L=>r= .int .u8 ((tM a:Nat):Int)/\L=F):=by
 have h1:=as7 ha;refine ba func306 11 [0] 9 ?_;refine ab (kj rfl rfl (r:=((a &&& 128:Nat):Int)) (apo ha (b:=128) aE)) rfl (ag 3 (λh5=>?_) λh5=>?_)
 ·have hc:¬a<128:=λk=>h5 (by have:=h1.2 k;omega);have e:tM a=(2*a%256) ^^^ 29:=by unfold tM;rw[aB hc];congr 1;omega
  refine fc ?_;exact ab (gG rfl rfl aE (r:=((2*a%256:Nat):Int)) (asU a)) rfl (ab (lg rfl rfl (r:=((tM a:Nat):Int)) (by rw[e];exact ag2 aa (b:=29) aE)) rfl (cm 6))
 ·have hc:a<128:=h1.1 (by have:=b_ h5;omega);have e:tM a=2*a%256:=by unfold tM;rw[av hc];omega
  refine dx ?_;exact ab (gG rfl rfl aE (r:=((tM a:Nat):Int)) (by rw[e];exact asU a)) rfl (cm 5)
theorem W2(a o:Nat):∀f,fL f a 0 o=o
 |0=>rfl
 |f+1=>by unfold fL;rw[av rfl]
theorem W1:∀(f b o:Nat),fL f 0 b o=o
 |0,_,_=>rfl
 |f+1,b,o=>by
  unfold fL;rw[show tM 0=0 from rfl,W1 f];split
  ·rfl
  ·split
   ·exact Nat.xor_zero o
   ·rfl
theorem alW(y:Nat):y >>> 1=y/2:=by rw[wV]
theorem amm(h:n<256):IntKind.u64.wrap ((BitVec.ofInt IntKind.u64.bits (n:Int) &&& BitVec.ofInt IntKind.u64.bits ((1:Nat):Int)).toNat:Int)=((n &&& 1:Nat):Int):=by
 have h1:n &&& 1=n%2:=EV n;rw[amn (k:=.u64) (a:=n) (b:=1) (by show n<18446744073709551616;omega) aE];exact eQ aa aa
theorem N7{f y:Nat}(h:y<2^f)(h0:y≠0):∃q,f=q+1:=by
 cases f with
 |zero=>simp at h;omega
 |succ q=>exact⟨q,rfl⟩
theorem KC{b:Nat}(ha:a<256)(hb:b<256):bg B w0 305 [.int .u8 (a:Int),.int .u8 (b:Int)] F (λr L=>r= .int .u8 ((lr a b:Nat):Int)/\L=F):=by
 refine ba func305 19 [0,1] 12 ?_;refine aw (λzf zL zm=>∃(f x y o:Nat),(x<256/\y<2^f/\y<256/\o<256/\fL f x y o=lr a b)/\y=zm/\Sub zf [(0,.int .u8 (x:Int)),(1,.int .u8 (y:Int)),(5,.int .u8 (o:Int))]/\Wk zL (F)) _ ⟨8,a,b,0,⟨ha,hb,hb,aE,rfl⟩,rfl,a_,.refl _⟩ ?_;rintro _ _ _ ⟨f,x,y,o,⟨hx,hyf,hy,ho,hm⟩,rfl,hs,hp⟩;refine aL hs hp (ag 7 (λh7=>?_) λh7=>?_)
 ·obtain⟨f,rfl⟩:=N7 hyf aa;have hys:y >>> 1=y/2:=alW y;have hya:y &&& 1=y%2:=EV y;have awX:y/2<2^f:=by rw[ki]at hyf;omega
  have oh:fL f (tM x) (y/2) (if y%2=1 then o ^^^ x else o)=lr a b:=by rw[<-hm];conv=>rhs;unfold fL;rw[aB (show¬y=0 by omega)]
  have WE:=pD x hx;refine cY ?_;refine ab (kj rfl rfl (r:=((y &&& 1:Nat):Int)) (apo hy (b:=1) aE)) rfl (ag 3 (λjZ=>?_) λjZ=>?_)
  ·rw[hya]at jZ;rw[av aa]at oh;have hox:=zR ho hx;refine fc ?_;refine ab (lg rfl rfl (r:=((o ^^^ x:Nat):Int)) (ag2 ho hx)) rfl (dx ?_);refine ai rfl (L4 hx) (dw ?_);refine ab (dH rfl rfl aE (r:=((y >>> 1:Nat):Int)) (Hw y 1)) rfl (ew ?_);refine aj ⟨_,aa,f,tM x,y >>> 1,o ^^^ x,⟨WE,aa,aa,hox,Vd⟩,rfl,a_,.refl _⟩
  ·rw[hya]at jZ;rw[aB aa]at oh;refine fb ?_;refine ai rfl (L4 hx) (dw ?_);refine ab (dH rfl rfl aE (r:=((y >>> 1:Nat):Int)) (Hw y 1)) rfl (ew ?_);refine aj ⟨_,aa,f,tM x,y >>> 1,o,⟨WE,aa,aa,ho,Vd⟩,rfl,a_,.refl _⟩
 ·obtain rfl:y=0:=by have:=b_ h7;omega
  rw[W2]at hm;refine bK 13 ?_;exact⟨by rw[hm],rfl⟩
theorem ajy(a o:Nat):∀f,uD f a 0 o=o
 |0=>rfl
 |f+1=>by unfold uD;rw[av rfl]
theorem asF(ha:a<256)(h0:a≠0):bg B w0 274 [.int .u8 (a:Int),.int .u64 254] F (λr L=>r= .int .u8 ((uC a:Nat):Int)/\L=F):=by
 have e0:uD 8 a 254 1=uC a:=by unfold uC;rw[aB h0]
 refine fw func274 28 [0,1] ?_;refine bZ 14 λh6=>?_;refine bZ 7 λh9=>?_;refine dM ?_;refine ab (kl rfl rfl aE (r:=254) aE) rfl (fb ?_);refine aw (λzf zL zm=>∃(f x n o:Nat),(x<256/\n<2^f/\n<256/\o<256/\uD f x n o=uC a)/\n=zm/\Sub zf [(0,.int .u8 (x:Int)),(1,.int .u64 (n:Int)),(5,.int .u8 (o:Int))]/\Wk zL (F)) _ ⟨8,a,254,1,⟨ha,aE,aE,aE,e0⟩,rfl,a_,.refl _⟩ ?_;rintro _ _ _ ⟨f,x,n,o,⟨hx,hnf,hn,ho,hm⟩,rfl,hs,hp⟩;refine aL hs hp (ag 7 (λmj=>?_) λmj=>?_)
 ·obtain⟨f,rfl⟩:=N7 hnf aa;have hys:n >>> 1=n/2:=alW n;have hya:n &&& 1=n%2:=EV n;have awA:n/2<2^f:=by rw[ki]at hnf;omega
  have oh:uD f (lr x x) (n/2) (if n%2=1 then lr o x else o)=uC a:=by rw[<-hm];conv=>rhs;unfold uD;rw[aB (show¬n=0 by omega)]
  have WE:=mul_lt x hx;refine cY ?_;refine ab (kj rfl rfl (r:=((n &&& 1:Nat):Int)) (amm hn)) rfl (ag 3 (λkp=>?_) λkp=>?_)
  ·rw[hya]at kp;rw[av aa]at oh;have hox:=mul_lt x ho;refine fc ?_;refine ai rfl (KC ho hx) (dw ?_);refine ai rfl (KC hx hx) (dw ?_);refine ab (dH rfl rfl aE (r:=((n >>> 1:Nat):Int)) (Hw n 1)) rfl (ew ?_);refine aj ⟨_,aa,f,lr x x,n >>> 1,lr o x,⟨WE,aa,aa,hox,Vd⟩,rfl,a_,.refl _⟩
  ·rw[hya]at kp;rw[aB aa]at oh;refine dx ?_;refine ai rfl (KC hx hx) (dw ?_);refine ab (dH rfl rfl aE (r:=((n >>> 1:Nat):Int)) (Hw n 1)) rfl (ew ?_);refine aj ⟨_,aa,f,lr x x,n >>> 1,o,⟨WE,aa,aa,ho,Vd⟩,rfl,a_,.refl _⟩
 ·obtain rfl:n=0:=by omega
  rw[ajy]at hm;refine bK 13 ?_;exact⟨by rw[hm],rfl⟩
theorem ash(ha:a<256):bg B w0 236 [.int .u8 (a:Int)] F (λr L=>r= .tuple #[.int .u8 ((uC a:Nat):Int),ah (if a=0 then 13 else 0)]/\L=F):=by
 refine fw func236 8 [0] ?_;refine ag 13 (λh5=>?_) λh5=>?_
 ·obtain rfl:a=0:=by omega
  exact cm 9
 ·have h0:a≠0:=by omega
  refine dx ?_;refine ai rfl (asF ha h0) (dw ?_);exact⟨by rw[aB h0],rfl⟩
theorem Jh:∀(f a b o:Nat),b<2^f->fL (f+1) a b o=fL f a b o
 |0,a,b,o,h=>by
  have:b=0:=by simpa using h
  subst this;rfl
 |f+1,a,b,o,h=>by
  rw[fL]
  conv=>rhs;rw[fL]
  split
  ·rfl
  ·exact Jh f _ _ _ (by rw[ki]at h;omega)
theorem ZX(f:Nat)(hc:c<256)(h1:1<=i)(hi:i/2<2^f):fL (f+1) c i 0=if i%2=1 then tM (fL (f+1) c (i/2) 0) ^^^ c else tM (fL (f+1) c (i/2) 0):=by
 have e1:fL (f+1) c i 0=fL f (tM c) (i/2) (if i%2=1 then 0 ^^^ c else 0):=by rw[fL,aB aa]
 have e2:∀o,o<256->fL f (tM c) (i/2) o=tM (fL (f+1) c (i/2) 0) ^^^ o:=λo ho=>by
  have h:=Ff f (tM c) 0 (i/2) 0 o (pD c hc) aE;rw[Nat.xor_zero,Nat.zero_xor,W1]at h;have h2:=TF f c (i/2) 0 hc aE;rw[show tM 0=0 from rfl]at h2;rw[h,h2,Jh f c (i/2) 0 hi]
 rw[e1];split
 ·rw[Nat.zero_xor,e2 c hc]
 ·rw[e2 0 aE,Nat.xor_zero]
theorem aex(hc:c<256)(hi:i<256)(h1:1<=i):lr c i=if i%2=1 then tM (lr c (i/2)) ^^^ c else tM (lr c (i/2)):=by
 unfold lr;exact ZX 7 hc h1 aa
def Hu(c:Nat):List Int:=(List.range 256).map λi=>((lr c i:Nat):Int)
theorem P5(c:Nat):E (Hu c)=256:=by simp[Hu]
theorem P4(hi:i<256):(Hu c).getD i 0=((lr c i:Nat):Int):=by simp[Hu,bz,hi]
theorem ail:lr c 0=0:=W2 c 0 8
abbrev Rwb(g:Nat)(b:List Int):Ch:=.bI g 382 (ints .u8 b)
theorem zE{b:List Int}{v:Int}(hi:i<E b):(b.set i v).getD j 0=if j=i then v else b.getD j 0:=by
 simp only[bz,Cr];by_cases h:i=j
 ·subst h;simp[hi]
 ·rw[aB h,aB (Ne.symm h)]
theorem aio(hc:c<256):bg B w0 275 [.int .u8 (c:Int)] F (λr L=>r= .agg (ints .u8 (Hu c)).toArray/\L=F):=by
 refine fw func275 26 [0] ?_;refine bW 2 λg2=>?_;refine bW 4 λg3=>?_;refine dA ?_;refine aw (λzf zL zm=>∃(i:Nat) (b:List Int),(1<=i/\i<=256/\E b=256/\∀j,j<i->b.getD j 0=((lr c j:Nat):Int))/\256-i=zm/\Sub zf [(0,.int .u8 (c:Int)),(2,bq g2),(3,bq g3),(4,ah (i:Int))]/\Wk zL (Rwb g3 b::Rwb g2 (List.replicate 256 0)::F)) _ ⟨1,List.replicate 256 0,⟨ga _,aE,rfl,λj hj=>by
  obtain rfl:j=0:=by omega
  rw[ail];rfl⟩,rfl,a_,.refl _⟩ ?_
 rintro _ _ _ ⟨i,b,⟨hi1,hi2,ey,hb⟩,rfl,hs,hp⟩;refine aL hs hp (ag 7 (λh6=>?_) λh6=>?_)
 ·obtain⟨v,hv⟩:=cM (lr c (i/2));have Zt:v<256:=by rw[hv];exact mul_lt _ hc
  have KN:b.getD (i/2) 0=(v:Int):=by rw[hb _ aa,hv]
  have hh:=aex hc (show i<256 by omega) hi1;rw[<-hv]at hh;have Ms:=pD v Zt;refine cY ?_;refine ab (iq rfl rfl aE (r:=((i/2:Nat):Int)) (ae' (b:=2) aa)) rfl (ab (aR (i:=i/2) underlying382 ae rfl rfl rfl aa) rfl (ab (fQ ae rfl aU GR) rfl ?_));rw[KN];refine ai rfl (L4 Zt) (ab (aR (i:=i) underlying382 ae rfl rfl rfl aa) rfl (dw ?_));refine ab (kl rfl rfl aE (r:=((i%2:Nat):Int)) (by rw[WN aa];omega)) rfl (ag 3 (λjq=>?_) λjq=>?_)
  ·rw[av aa]at hh;have j8:(b.set i ((tM v:Nat):Int)).getD i 0=((tM v:Nat):Int):=by rw[zE aa,av rfl]
   refine ew ?_;refine ab (aR (i:=i) underlying382 ae rfl rfl rfl aa) rfl ?_;refine ab (fQ ae rfl aU GR) rfl ?_;rw[j8];refine aX ?_;refine ab (lg rfl rfl (r:=((tM v ^^^ c:Nat):Int)) (ag2 Ms hc)) rfl ?_;refine ab (aR (i:=i) underlying382 ae rfl rfl rfl aa) rfl ?_;refine aD 1 [0,2,3,4] 7 ?_;refine aj ⟨_,aa,i+1,(b.set i ((tM v:Nat):Int)).set i ((tM v ^^^ c:Nat):Int),⟨aa,aa,by simp[ey],λj hj=>by
    rw[zE bS,zE aa];by_cases e:j=i
    ·subst e;rw[av rfl,hh]
    ·rw[aB e,aB e];exact hb j aa⟩,rfl,a_,.refl _⟩
  ·rw[aB aa]at hh;refine cY ?_;refine aj ⟨_,aa,i+1,b.set i ((tM v:Nat):Int),⟨aa,aa,by simp[ey],λj hj=>by
    rw[zE aa];by_cases e:j=i
    ·subst e;rw[av rfl,hh]
    ·rw[aB e];exact hb j aa⟩,rfl,a_,.refl _⟩
 ·obtain rfl:i=256:=by omega
  obtain rfl:b=Hu c:=by
   apply oQ
   ·rw[ey,P5]
   ·intro j h1 h2;have h3:=hb j aa;rw[<-P4 aa,bz,bz,fx h1,fx h2]at h3;exact h3
  refine dM ?_;refine PW rfl rfl ae aU jI (.s2 (.refl _)) ?_;exact⟨rfl,rfl⟩
section
section
variable{C:Cx}{fr:Fr}{L:aN}{x y:Operand}{f:Ch->aN}{t t2 e ty:TypeId}
abbrev avR(A:bh)(c i j:Nat):Value:=.slice (if c=i then A else A.map (·.add (i*1))) (i+j-i) (c-i)
theorem aJ.part{B:Nat}{w0:World}{A:bh}{n c:Nat}(h:aJ B w0 L 1 (.slice A n c) n (bv l))(Ww:i+j<=n):aJ B w0 L 1 (avR A c i j) (i+j-i) (bv ((l.drop i).take j)):=by
 have:=(h.h_ (k:=i+j) Ww).cut (k:=i) aa;have e:((bv l).take ((i+j)*1)).drop (i*1)=bv ((l.drop i).take j):=by
  rw[cH,cH];unfold bv;rw[<-mY,<-uK,Hk];congr 2;omega
 rw[e]at this;exact this
end
variable{B:Nat}{w0:World}{F L0:aN}{A A1 A2 Ao:bh}{n c c1 c2 co g gc:Nat}
theorem OG(x:Nat):E (ints .u8 (Hu x))=256:=by simp[ints,Hu]
theorem set_mk{p:aq}{y:UInt8}{k n:Nat}(h:E p=k)(hk:k<n):(bv p++List.replicate (n-k) (Value.int .u8 0)).set (k*1) (.int .u8 (y.toNat:Int))=bv (p++[y])++List.replicate (n-(k+1)) (Value.int .u8 0):=by
 subst h;rw[show n-E p=(n-(E p+1))+1 by omega,Bf,cH,zc _ _ wJ];simp[bv]
theorem YZ{x:UInt8}{k:Nat}(h1:k<E s)(h2:k<E b):(tL s x b).take (k+1)=(tL s x b).take k++[s.getD k 0 ^^^ gm x (b.getD k 0)]:=by
 rw[aP (by unfold tL;rw[List.length_zipWith];omega) 0,ac4 h1 h2]
theorem aim{x:UInt8}(hl:E s=E b)(hs:gw B w0 F A c s)(hb:gw B w0 F A2 c2 b)(hn:E s<=1000000000):
  bg B w0 237 [.slice A (E s) c,.int .u8 (x.toNat:Int),.slice A2 (E b) c2] F (λr L=>∃A' c',r= .tuple #[.slice A' (E s) c',ah 0]/\L= .own 5 1 A' (E s) c' (bv (tL s x b))::F):=by
 have Ms:E (tL s x b)=E s:=Ez hl;refine fw func237 42 [0,1,2] ?_;refine bZ 16 λj0=>?_;refine dx ?_;refine ai rfl (aio (QN x)) (fo λg8=>?_);refine ko (tp 256 ae rfl rfl (OI _ _) aU rfl (OG _)) (dw ?_);refine cv (eY bP rfl rfl rfl rfl rfl aa aa aa) λA21=>dM ?_;refine aw (λzf zL zm=>∃(k:Nat),(k<=E s)/\E s-k=zm/\Sub zf [(2,.slice A2 (E b) c2),(8,bq g8),(9,.slice A21 (E s) (E s)),(22,.slice A (E s) c),(23,ah (E s)),(24,ah k)]/\Wk zL (.own 5 1 A21 (E s) (E s) (bv ((tL s x b).take k)++List.replicate (E s-k) (.int .u8 0))::Rwb g8 (Hu x.toNat)::F)) _ ⟨0,bD _,rfl,a_,.refl _⟩ ?_;rintro _ _ _ ⟨k,hk,rfl,hs,hp⟩;refine aL hs hp ?_;clear hs hp;refine ag 6 (λqn=>?_) λqn=>?_
 ·obtain⟨u,hu⟩:=cM (s.getD k 0);obtain⟨v,hv⟩:=cM (b.getD k 0);have Zt:=QN v;have yU:=QN u;have hgt:=YZ (x:=x) (show k<E s by omega) (show k<E b by omega);rw[<-hu,<-hv]at hgt;have hrg:(Hu x.toNat).getD v.toNat 0=(((gm x v).toNat:Nat):Int):=by rw[P4 Zt,ac7]
  refine dA ?_;rw[<-hu];refine dM ?_;rw[<-hv];refine ab (aR (i:=v.toNat) underlying382 ae rfl rfl rfl Zt) rfl (ab (fQ ae rfl aU (by rw[P5];exact Zt)) rfl ?_);rw[hrg];refine ab (lg rfl rfl (r:=(((u ^^^ gm x v).toNat:Nat):Int)) (by rw[UInt8.toNat_xor];exact ag2 yU (QN _))) rfl (ab (az (i:=k) (size:=1) underlying27 ae rfl rfl rfl aa (aJ.own (.head _))) rfl (ko (fy ae rfl rfl rfl aU (by simp[bv];omega)) ?_));refine ve [2,8,9,22,23,24] ?_;refine dw ?_;refine aj ⟨_,aa,k+1,aa,rfl,a_,au rfl (by rw[hgt];exact set_mk jA aa) (.refl _)⟩
 ·obtain rfl:k=E s:=by omega
  refine bK 13 ?_;exact ak (L':=.own 5 1 A21 (E s) (E s) (bv (tL s x b))::F) (au rfl (by rw[gv aa];simp) (.skip (.refl _))) (bO 1)
end
section
variable{k:Nat}
abbrev amj(A:bh)(r k n c:Nat):Value:=.agg #[ah (r:Int),ah (k:Int),.slice A n c]
abbrev abx(g:Nat)(A:bh)(r k n c:Nat):Ch:=.bI g 272 [ah (r:Int),ah (k:Int),.slice A n c]
theorem W3{b:Nat}(ha:a<=1000000)(hb:b<=1000000):IntKind.i64.wrap ((a:Int)*(b:Int))=((a*b:Nat):Int):=by
 have:a*b<=1000000*1000000:=jG ha hb;rw[<-xy];exact bj aa aa
theorem QU{x:Nat}(h:x<=255):bg B w0 233 [ah (x:Int)] F (λr L=>r= .bool true/\L=F):=by
 refine fw func233 9 [0] ?_;refine bC 10 (λh5=>?_) λh5=>?_
 ·refine dA ?_;exact⟨by rw[pK aa],rfl⟩
 ·exfalso;omega
theorem anR{ff:FuncId}{cap:cQ}{Q:aN}(f:Nat->Nat->UInt8)(hr:r<=255)(hk:k<=255)(hc:aK Tryz.prog ff)(hQ:Q.Sublist F)(hf:∀(i j:Nat) (L:aN),i<r->j<k->Q.Sublist L->bg B w0 ff ([ah (i:Int),ah (j:Int)]++cap) L (λv L'=>v= .int .u8 (((f i j).toNat:Nat):Int)/\L'=L)):
  bg B w0 234 [ah (r:Int),ah (k:Int),.func (.func ff) #[] cap.toArray] F (λv L=>∃A' c',v=amj A' r k (r*k) c'/\L= .own 5 1 A' (r*k) c' (bv (rW r k f))::F):=by
 have hrk:r*k<=255*255:=jG hr hk;refine fw func234 37 [0,1,2] ?_;refine bW 2 λg6=>?_;refine cY ?_;refine ab (eo rfl rfl (r:=((r*k:Nat):Int)) (W3 aa aa)) rfl (cv (eY (nn:=0) bP rfl rfl rfl rfl rfl aa aa aa) λqh=>ab (eJ [(0,_),(1,_),(2,_)] [_,_,_] rfl rfl ae) rfl (fo λg7=>?_));refine fF ?_;refine aw (λzf zL zm=>∃(i:Nat) (A':bh) (c':Nat),(i<=r)/\r-i=zm/\Sub zf [(1,ah (k:Int)),(2,.func (.func ff) #[] cap.toArray),(6,bq g6),(7,bq g7),(17,ah (r:Int)),(18,ah (i:Int))]/\Wk zL (.own 5 1 A' (i*k) c' (bv (rW i k f))::abx g7 A' r k (i*k) c':: .bI g6 272 [ah 0,ah 0,.slice none 0 0]::F)) _ ⟨0,qh,r*k,bD _,rfl,a_,.trans ((gC (dL (dL (.refl _))))) (au ao (by simp[rW,bv]) (bx ao (.refl _)))⟩ ?_;rintro _ _ _ ⟨i,A',c',hi,rfl,hs,hp⟩;refine aL hs hp ?_;clear hs hp;refine ag 6 (λqM=>?_) λqM=>?_
 ·have hik:=BI (k:=k) (show i<r by omega);refine bK 17 ?_;refine aw (λzf zL zm=>∃(j:Nat) (A2:bh) (c2:Nat) (acc:aq),(j<=k/\acc=rW i k f++(List.range j).map λq=>f i q)/\k-j=zm/\Sub zf [(1,ah (k:Int)),(2,.func (.func ff) #[] cap.toArray),(6,bq g6),(7,bq g7),(8,ah (i:Int)),(17,ah (r:Int)),(18,ah (i:Int)),(21,ah (k:Int)),(22,ah (j:Int))]/\Wk zL (.own 5 1 A2 (i*k+j) c2 (bv acc)::abx g7 A2 r k (i*k+j) c2:: .bI g6 272 [ah 0,ah 0,.slice none 0 0]::F)) _ ⟨0,A',c',rW i k f,⟨bD _,ao⟩,rfl,a_,.refl _⟩ ?_;rintro _ _ _ ⟨j,A2,c2,acc,⟨hj,jL⟩,rfl,hs,hp⟩;refine aL hs hp ?_;clear hs hp;refine ag 6 (λpe=>?_) λpe=>?_
  ·have hs:acc++[f i j]=rW i k f++(List.range (j+1)).map λq=>f i q:=by rw[jL,mW];simp
   refine cN 10 F ?_;refine dI 0 ?_;refine aF 2 3 ?_;refine iv 1 5 ?_ ?_
   ·refine aX ?_;refine aC 5 (p7 rfl .no hc rfl rfl (hf i j _ aa aa (((hQ.cons _).cons _).cons _)) rfl DL ?_);rintro _ _ ⟨rfl,cR⟩;obtain rfl:=cR.symm;refine aC 6 (cF rfl (aG bP [_] rfl rfl bY aa aa) λRq=>aC 7 (fh rfl (bB bP rfl aU rfl aA bY aa aa) λMi Mo=>?_));refine dI 8 ?_;refine aC 9 (cY ?_);refine aj ⟨_,aa,j+1,Mi,Mo,acc++[f i j],⟨aa,hs⟩,rfl,a_,.skip (au rfl wJ (.refl _))⟩
   ·refine p7 rfl .no hc rfl rfl (hf i j _ aa aa (((hQ.cons _).cons _).cons _)) rfl DL ?_;rintro _ _ ⟨rfl,cR⟩;obtain rfl:=cR.symm;refine iv 1 6 ?_ ?_
    ·refine aX ?_;refine aC 6 (cF rfl (aG bP [_] rfl rfl bY aa aa) λRq=>aC 7 (fh rfl (bB bP rfl aU rfl aA bY aa aa) λMi Mo=>?_));refine dI 8 ?_;refine aC 9 (cY ?_);refine aj ⟨_,aa,j+1,Mi,Mo,acc++[f i j],⟨aa,hs⟩,rfl,a_,.skip (au rfl wJ (.refl _))⟩
    ·refine cF rfl (aG bP [_] rfl rfl bY aa aa) λRq=>aC 1 (aX ?_);refine aC 7 (fh rfl (bB bP rfl aU rfl aA bY aa aa) λMi Mo=>?_);refine dI 8 ?_;refine aC 9 (cY ?_);refine aj ⟨_,aa,j+1,Mi,Mo,acc++[f i j],⟨aa,hs⟩,rfl,a_,.skip (au rfl wJ (.refl _))⟩
  ·obtain rfl:j=k:=by omega
   refine dh ?_;refine aj ⟨_,aa,i+1,A2,c2,aa,rfl,a_,au (by rw[rK]) (by rw[jL,Tw]) (bx (by rw[rK]) (.refl _))⟩
 ·obtain rfl:i=r:=by omega
  refine dM ?_;refine PW rfl rfl ae aU jI ((dL (.s2 (.refl _)))) ?_;exact⟨A',c',rfl,rfl⟩
end
section
variable{k:Nat}
theorem ao5{b:Nat}(ha:a<256)(hb:b<256):IntKind.i64.wrap ((BitVec.ofInt IntKind.i64.bits (a:Int) ^^^ BitVec.ofInt IntKind.i64.bits (b:Int)).toNat:Int)=((a ^^^ b:Nat):Int):=by
 have h:=zR ha hb;rw[ao6 (k:=.i64) (a:=a) (b:=b) (by show a<18446744073709551616;omega) (by show b<18446744073709551616;omega)];exact bj aa aa
theorem as8{x:Nat}(h:x<256):(UInt8.ofNat x).toNat=x:=by rw[rD];exact ly h
def ahM(k i j:Nat):UInt8:=Y3 (UInt8.ofNat ((k+i) ^^^ j))
theorem amG(h1:k+i<=255)(h2:j<=255):bg B w0 235 [ah (i:Int),ah (j:Int),bq g] (.bI g 3 [ah (k:Int)]::F) (λv L=>v= .int .u8 (((ahM k i j).toNat:Nat):Int)/\L= .bI g 3 [ah (k:Int)]::F):=by
 have hx:=zR (a:=k+i) (b:=j) aa aa;have he:(ahM k i j).toNat=uC ((k+i) ^^^ j):=by unfold ahM;rw[Ss,as8 hx]
 refine ba func235 19 [0,1,2] 9 ?_;refine ab (bF rfl rfl (r:=((k+i:Nat):Int)) ((bj aa aa).trans aa)) rfl (aX ?_);refine ab (lg rfl rfl (r:=(((k+i) ^^^ j:Nat):Int)) (ao5 aa aa)) rfl (aX ?_);refine ai rfl (ash hx) (aD 11 [5] 3 ?_);exact⟨by rw[he],rfl⟩
theorem ab'(Wz:k+m<=255):bg B w0 191 [ah (k:Int),ah (m:Int)] F (λv L=>∃A' c',v= .tuple #[amj A' m k (m*k) c',ah 0]/\L= .own 5 1 A' (m*k) c' (bv (Yl k m))::F):=by
 refine fw func191 25 [0,1] ?_;refine bM 2 λg2=>?_;refine fo λg4=>?_;refine dg ?_;refine ai rfl (QU aa) (dx ?_);refine ai rfl (QU aa) (bZ 15 λqM=>?_);refine dg ?_;refine ay rfl (anR (Q:=[.bI g2 3 [ah (k:Int)]]) (cap:=[bq g2]) (ahM k) aa aa aqA (((List.nil_sublist F).cons_cons _).cons _) (λi j L hi hj hs=>dQ.at_mem (hs.subset (.head _)) λM=>amG aa aa)) λGJ Ie=>aD 2 [4,5] 2 ?_;refine iH rfl rfl ae aU jI rfl ((dL (.s2 (.refl _)))) ?_;exact⟨GJ,Ie,rfl,rfl⟩
end
section
variable{k:Nat}
theorem Po{xs:cQ}(e1:n=E l)(e2:xs=bv l)(hb:aJ B w0 F 1 (.slice A n c) n xs)(hn:E l<=1099511627776):
  bg B w0 36 [.slice A n c] F (λr L=>∃A' c',r= .slice A' (E l) c'/\L= .own 5 1 A' (E l) c' (bv l)::F):=by
 subst e1;subst e2;exact mu l hb hn
theorem ain{x:UInt8}{n1 n2:Nat}(e1:n1=E s)(e2:n2=E b)(hl:E s=E b)(hs:aJ B w0 F 1 (.slice A n1 c) n1 (bv s))(hb:aJ B w0 F 1 (.slice A2 n2 c2) n2 (bv b))(hn:E s<=1000000000):
  bg B w0 237 [.slice A n1 c,.int .u8 (x.toNat:Int),.slice A2 n2 c2] F (λr L=>∃A' c',r= .tuple #[.slice A' (E s) c',ah 0]/\L= .own 5 1 A' (E s) c' (bv (tL s x b))::F):=by
 subst e1;subst e2;exact aim hl hs hb hn
end
section
variable{k:Nat}
end
section
variable{k:Nat}
end
section
theorem D_{C:Cx}{fr:Fr}{x:Operand}{ty t e:TypeId}{A:bh}{n c:Nat}(ht:C.P.underlying t=some (.slice e))(h:ev fr x=some (.slice A n c)):gX C fr L (.call {callee:=.builtin .cap,args:= #[x],argTypes:= #[t]}) ty (ah (c:Int)):=λa w ha hw d pos af g=>by
 simp[execOp,resolve,invoke,builtin,Builtin.cap_,ha.tmp h,jk ht,goInt]
theorem acF{C:Cx}{fr:Fr}{x y:Operand}{ty t xt e:TypeId}{size bytes m:Nat}{zv:Value}{k kn:IntKind}(T:tc C.P t e size bytes zv)(hx:C.P.underlying xt=some (.int kn))(he:ev fr x=some (.slice none 0 0))(hy:ev fr y=some (.int k (m:Int)))(hm:0<m)(hs:0<size)(hb:m*bytes<=140737488355328)(xZ:m<=140737488355328):
  ra C fr L (.call {callee:=.builtin .append,args:= #[x,y],argTypes:= #[t,xt]}) ty (λp L'=>∃A c,p= .slice A m c/\L'= .own e size A 0 c []::L):=λa w ha hw d pos af gg=>by
 obtain⟨i,hi,hz,iy,GF⟩:=T.hi;have hr:=Lib.run_append_nil_zeros (P:=C.P) w t xt ty e i zv k kn T.ht hx hi hz m hm aa aa (by rw[GF];omega);have x7:=grownCap_ge w m 0 e;have hle:=grownCap_le_maxLen w m 0 e yd;have Wu:∀(o:Obj) (row:Option Nat),w.grownBy (w.drew.alloc o) row:=λo row=>⟨rfl,rfl,rfl,ao,λk hk _=>heap_alloc_old w.drew o hk⟩
 refine⟨_,w.drew.alloc (.cells (Builtin.zeroCells zv.cells m++Builtin.zeroCells zv.cells (grownCap w m 0 e-m)) e),_,.inl ?_,⟨some ⟨w.heap.size,0,none⟩,grownCap w m 0 e,rfl,rfl⟩,hw.gZ (Wu _ none) ⟨ao,bD _,.inr ⟨w.heap.size,_,rfl,hw.base,EY w.drew _,hle,?_,ao⟩⟩ (.inr ⟨w.heap.size,by simp[Ch.fp];omega,ga _⟩)⟩
 ·simp[execOp,resolve,invoke,builtin,ha.tmp he,ha.tmp hy,hr]
 ·simp only[Array.size_append,size_zeroCells,T.hz,<-qR];congr 1;omega
variable{B:Nat}{w0:World}{F L0:aN}{A A1 A2 Ao:bh}{n c c1 c2 co g gc r k m N:Nat}
theorem ajx(m:Nat)(h0:0<m)(hn:m<=1000000):
  bg B w0 313 [.slice none 0 0,ah m] F (λr L=>∃A' c',r= .slice A' 0 c'/\L= .own 27 1 A' 0 c' []::F):=by
 refine fw func313 27 [0,1] ?_;refine bZ 12 λh6=>?_;refine dg ?_;refine ab (D_ underlying52 rfl) rfl (fc ?_);refine ab (cU rfl rfl (r:=(m:Int)) ((bj aa aa).trans aa)) rfl (sF 9 λj0=>?_);refine fc ?_;refine ab (D_ underlying52 rfl) rfl (ab (bQ (i:=0) (size:=1) underlying52 ae rfl rfl rfl aa) rfl (aX ?_));refine dB (acF (m:=m) fO underlying3 rfl rfl h0 aa aa aa) λUT Vs=>ew ?_;refine ab (bQ (i:=0) (size:=1) underlying52 ae rfl rfl rfl aa) rfl (aD 1 [0] 0 ?_);exact bO 9
theorem aae{n1 n2:Nat}{V1 V2:cQ}(hr:aJ B w0 F 1 (.slice A 2 c) 2 [.slice A1 n1 c1,.slice A2 n2 c2])(h1:aJ B w0 F 1 (.slice A1 n1 c1) n1 V1)(h2:aJ B w0 F 1 (.slice A2 n2 c2) n2 V2)(k1:∀u∈V1,u.oneCell'=true)(k2:∀u∈V2,u.oneCell'=true)(h0:0<n1)(Zl:n1<=10000)(ry:n2<=10000):
  bg B w0 280 [.slice A 2 c] F (λr L=>∃A' c',r= .slice A' (n1+n2) c'/\L= .own 27 1 A' (n1+n2) c' (V1++V2)::F):=by
 refine ba func280 36 [0] 19 ?_;refine aw (λzf zL zm=>∃(i q:Nat),((i=0/\q=0)\/(i=1/\q=n1)\/(i=2/\q=n1+n2))/\2-i=zm/\Sub zf [(0,.slice A 2 c),(3,ah (q:Int)),(9,.slice A 2 c),(10,ah 2),(11,ah (i:Int))]/\Wk zL (F)) _ ⟨0,0,.inl ⟨rfl,rfl⟩,rfl,a_,.refl _⟩ ?_;rintro _ _ _ ⟨i,q,la,rfl,hs,hp⟩;refine aL hs hp (ag 6 (λjZ=>?_) λjZ=>?_)
 ·obtain⟨Ai,ni,ci,iw,hni⟩:∃(Ai:bh) (ni ci:Nat),([.slice A1 n1 c1,.slice A2 n2 c2]:cQ)[i*1]? =some (.slice Ai ni ci)/\ni=(if i=0 then n1 else n2):=by
   have:i=0\/i=1:=by omega
   rcases this with rfl|rfl
   ·exact⟨A1,n1,c1,rfl,rfl⟩
   ·exact⟨A2,n2,c2,rfl,rfl⟩
  have awB:ni<=10000:=by rw[hni];split<;>omega
  refine dg ?_;refine ab (al ae rfl aA aa iw) rfl ?_;refine cY ?_;refine ab (bF rfl rfl (r:=((q+ni:Nat):Int)) ((bj aa aa).trans aa)) rfl ?_;refine bZ 9 λkp=>?_;refine dg ?_;refine aj ⟨_,aa,i+1,q+ni,(by
   rcases la with h|h|h
   ·rw[av h.1]at hni;exact .inr (.inl ⟨aa,aa⟩)
   ·rw[aB aa]at hni;exact .inr (.inr ⟨aa,aa⟩)
   ·omega),rfl,a_,.refl _⟩
 ·obtain rfl:q=n1+n2:=by omega
  refine cY ?_;refine ay rfl (ajx (n1+n2) aa aa) λGJ Ie=>dM ?_;refine aw (λzf zL zm=>∃(i q:Nat) (A':bh) (c':Nat) (acc:cQ),((i=0/\q=0/\acc=[])\/(i=1/\q=n1/\acc=V1)\/(i=2/\q=n1+n2/\acc=V1++V2))/\2-i=zm/\Sub zf [(6,.slice A' q c'),(25,.slice A 2 c),(26,ah 2),(27,ah (i:Int))]/\Wk zL (.own 27 1 A' q c' acc::F)) _ ⟨0,0,GJ,Ie,[],.inl ⟨rfl,rfl,rfl⟩,rfl,a_,.refl _⟩ ?_;rintro _ _ _ ⟨i,q,A',c',acc,arX,rfl,hs,hp⟩;refine aL hs hp (ag 6 (λqa=>?_) λqa=>?_)
  ·obtain⟨Ai,ni,ci,V,iw,hV,hb,hk,hni,hVe⟩:∃(Ai:bh) (ni ci:Nat) (V:cQ),([.slice A1 n1 c1,.slice A2 n2 c2]:cQ)[i*1]? =some (.slice Ai ni ci)/\V=(if i=0 then V1 else V2)/\aJ B w0 F 1 (.slice Ai ni ci) ni V/\(∀u∈V,u.oneCell'=true)/\ni=(if i=0 then n1 else n2)/\ni<=10000:=by
    have:i=0\/i=1:=by omega
    rcases this with rfl|rfl
    ·exact⟨A1,n1,c1,V1,rfl,rfl,h1,k1,rfl,Zl⟩
    ·exact⟨A2,n2,c2,V2,rfl,rfl,h2,k2,rfl,ry⟩
   refine dg ?_;refine ab (al ae rfl aA aa iw) rfl ?_;refine dw ?_;refine dB (bB fO rfl aU rfl (hb.cons) hk aa aa) λMj c33=>?_;refine cY ?_;refine aj ⟨_,aa,i+1,q+ni,Mj,c33,acc++V,(by
    rcases arX with h|h|h
    ·rw[av h.1]at hni hV;rw[hV,h.2.2];exact .inr (.inl ⟨aa,aa,rfl⟩)
    ·rw[aB aa]at hni hV;rw[hV,h.2.2];exact .inr (.inr ⟨aa,aa,rfl⟩)
    ·omega),rfl,a_,.refl _⟩
  ·obtain⟨rfl,jL⟩:q=n1+n2/\acc=V1++V2:=by
    rcases arX with h|h|h
    ·omega
    ·omega
    ·exact⟨h.2.1,h.2.2⟩
   subst jL;exact bO 13
theorem Xs(hk:1<=k)(Wz:k+m<=255):bg B w0 189 [ah (k:Int),ah (m:Int)] F (λv L=>v= .bool true/\L=F):=by
 refine fw func189 25 [0,1] ?_;refine bC 10 (λh7=>?_) λh7=>?_
 ·refine bC 5 (λoA=>?_) λoA=>?_
  ·refine bC 5 (λmj=>?_) λmj=>?_
   ·refine bC 5 (λqM=>?_) λqM=>?_
    ·refine aD 9 [4] 3 ?_;exact⟨by rw[pK aa],rfl⟩
    ·exfalso;omega
   ·exfalso;omega
  ·exfalso;omega
 ·exfalso;omega
abbrev lM:kF:=(none,0,[])
theorem C7(h:i<E PB):(PB.map de)[i*1]? =some (de (PB.getD i lM)):=by
 simp[bz,fx h]
theorem Fq:(PB.map (·.2.2)).getD i []=(PB.getD i lM).2.2:=by
 simp only[bz,ib];cases PB[i]? <;>rfl
theorem phd:IX (PB.map (·.2.2))=E (PB.getD 0 lM).2.2:=by
 cases PB<;>rfl
theorem Fx:∀u∈PB.map de,u.oneCell'=true:=λu hu=>by
 obtain⟨e,_,rfl⟩:=qd.1 hu;rfl
theorem JA(hb:aJ B w0 F 1 (.slice A (E PB) c) (E PB) (PB.map de))(hl:E PB<=1000000):
  bg B w0 190 [.slice A (E PB) c] F (λv L=>v= .bool (decide (ud (PB.map (·.2.2))))/\L=F):=by
 refine ba func190 19 [0] 14 ?_;refine aw (λzf zL zm=>∃(i:Nat),(i<=E PB/\∀j,j<i->E (PB.getD j lM).2.2=E (PB.getD 0 lM).2.2)/\E PB-i=zm/\Sub zf [(0,.slice A (E PB) c),(5,.slice A (E PB) c),(6,ah (E PB)),(7,ah (i:Int))]/\Wk zL (F)) _ ⟨0,⟨bD _,λj hj=>aa⟩,rfl,a_,.refl _⟩ ?_;rintro _ _ _ ⟨i,⟨hi,CU⟩,rfl,hs,hp⟩;refine aL hs hp ?_;clear hs hp;refine ag 6 (λh8=>?_) λh8=>?_
 ·have hg:=C7 (PB:=PB) (i:=i) aa;have hg0:=C7 (PB:=PB) (i:=0) aa;have mD:=bc (l:=PB) (show i<E PB by omega) lM;refine dg ?_;refine ab (al ae rfl aA aa hg) rfl (cY ?_);refine ab (az (i:=0) (size:=1) underlying52 ae rfl rfl rfl aa aA) rfl ?_;refine ab (al ae rfl aA aa hg0) rfl ?_;refine ag 4 (λgH=>?_) λgH=>?_
  ·refine dM ?_;have hn:¬ud (PB.map (·.2.2)):=λk=>by
    have:=k _ (jr (f:=λe:kF=>e.2.2) mD);rw[phd]at this;exact gH aa
   exact⟨by rw[oi hn],rfl⟩
  ·refine dg ?_;refine aj ⟨_,aa,i+1,⟨aa,λj hj=>by
    by_cases e:j=i
    ·subst e;omega
    ·exact CU j aa⟩,rfl,a_,.refl _⟩
 ·refine dM ?_;have hp:ud (PB.map (·.2.2)):=λb nD=>by
   obtain⟨e,he,rfl⟩:=qd.1 nD;obtain⟨j,hj,rfl⟩:=mF he;have:=CU j aa;rw[phd,<-this,bz,fx hj];rfl
  exact⟨by rw[pK hp],rfl⟩
theorem BY{α β:Type}:∀(a:List α) (b:List β) (i:Nat),(a.take i).zip (b.take i)=(a.zip b).take i
 |_,_,0=>by simp
 |[],_,_+1=>by simp
 |_::_,[],_+1=>by simp
 |x::a,y::b,i+1=>by simp[BY a b i]
theorem aaP{n:Nat}{row:aq}(h1:j<E row)(h2:j<E data):
  LS n (row.take (j+1)) (data.take (j+1))=if row.getD j 0=0 then LS n (row.take j) (data.take j) else tL (LS n (row.take j) (data.take j)) (row.getD j 0) (data.getD j []):=by
 unfold LS;rw[BY,BY,aP bS ((0:UInt8),([]:aq)),List.foldl_append];have e:(row.zip data).getD j ((0:UInt8),([]:aq))=(row.getD j 0,data.getD j []):=by
  simp[bz,fx (show j<E (row.zip data) by simp;omega),fx h1,fx h2]
 rw[e];rfl
def PtA(l:fJ)(e:Option Int)(F:aN)(v:Value)(L:aN):Prop:=
 ∃(A':bh) (c':Nat) (FB:List kF),v=(match e with|some x=>.tuple #[.slice A' (E FB) c',ah x]|none=>.slice A' (E FB) c')/\L= .own 27 1 A' (E FB) c' (FB.map de)::(FB.map fk++F)/\FB.map (·.2.2)=l
theorem aoq{FB:List kF}{r:Nat}(h:E FB=i)(hi:i<r):(FB.map de++List.replicate (r-i) (Value.slice none 0 0)).set (i*1) v=FB.map de++(v::List.replicate (r-(i+1)) (Value.slice none 0 0)):=by
 subst h;rw[show r-E FB=(r-(E FB+1))+1 by omega,Bf,cH,zc _ _ ao];simp
theorem aat{cells:aq}{nn:Nat}(hk:E PB=k)(xn:1<=k)(hr:r<=255)(zY:k<=255)(yO:E cells=r*k)(Zn:nn<=1000000000)(IY:∀e∈PB,E e.2.2=nn)(hc:aJ B w0 F 1 (.slice A (r*k) c) (r*k) (bv cells))(hb:aJ B w0 F 1 (.slice A2 (E PB) c2) (E PB) (PB.map de))(hP:∀e∈PB,aJ B w0 F 1 (de e) (E e.2.2) (bv e.2.2)):
  bg B w0 192 [amj A r k (r*k) c,.slice A2 (E PB) c2] F (PtA (tms r k cells (PB.map (·.2.2)) nn) none F):=by
 have hg0:=C7 (PB:=PB) (i:=0) aa;have hl0:E (PB.getD 0 lM).2.2=nn:=IY _ (bc aa lM);obtain⟨P0,hP0⟩:=cM (PB.getD 0 lM);rw[<-hP0]at hg0 hl0;refine cV func192 57 rfl rfl rfl [(0,.agg #[ah (r:Int),ah (k:Int),.slice A (r*k) c]),(1,.slice A2 (E PB) c2)] ⟨⟨rfl,rfl⟩,⟨rfl,rfl⟩,trivial⟩ ?_;refine bM 2 λg2=>?_;refine dg ?_;refine cv (eY (nn:=r) (cc:=r) fO rfl rfl rfl rfl rfl aa aa aa) λso=>dM ?_;refine aw (λzf zL zm=>∃(i:Nat) (FB:List kF),(i<=r/\E FB=i/\FB.map (·.2.2)=(tms r k cells (PB.map (·.2.2)) nn).take i)/\r-i=zm/\Sub zf [(1,.slice A2 (E PB) c2),(2,bq g2),(5,.slice so r r),(15,ah r),(16,ah (i:Int))]/\Wk zL (.own 27 1 so r r (FB.map de++List.replicate (r-i) (.slice none 0 0))::abx g2 A r k (r*k) c::(FB.map fk++F))) _ ⟨0,[],⟨bD _,rfl,rfl⟩,rfl,a_,.refl _⟩ ?_;rintro _ _ _ ⟨i,FB,⟨hi,Ra,vK⟩,rfl,hs,hp⟩;refine aL hs hp (ag 6 (λgH=>?_) λgH=>?_)
 ·have au_:=aev yO (show i<r by omega);have KL:=BI (k:=k) (show i<r by omega);have hrk:r*k<=255*255:=jG hr zY;have hbF:aJ B w0 (FB.map fk++F) 1 (.slice A2 (E PB) c2) (E PB) (PB.map de):=hb.mono (fN _ _);have hcF:aJ B w0 (FB.map fk++F) 1 (.slice A (r*k) c) (r*k) (bv cells):=hc.mono (fN _ _);refine bK 13 ?_;refine ab (az (i:=0) (size:=1) underlying52 ae rfl rfl rfl aa hbF.cons.cons) rfl (ab (al ae rfl hbF.cons.cons aa hg0) rfl (aX ?_));refine cv (eY bP rfl rfl rfl rfl rfl aa aa aa) λX8=>?_;rw[hl0];have awK:E (List.replicate nn (0:UInt8))=nn:=by simp
  refine dM ?_;refine aw (λzf zL zm=>∃(j:Nat) (As:bh) (cs:Nat) (S:aq),(j<=k/\E S=nn/\S=LS nn ((zq k cells i).take j) ((PB.map (·.2.2)).take j))/\k-j=zm/\Sub zf [(1,.slice A2 (E PB) c2),(2,bq g2),(5,.slice so r r),(6,ah (i:Int)),(7,.slice As (E S) cs),(15,ah r),(16,ah (i:Int)),(24,.slice A2 (E PB) c2),(25,ah (E PB)),(26,ah (j:Int))]/\Wk zL (fk (As,cs,S):: .own 27 1 so r r (FB.map de++List.replicate (r-i) (.slice none 0 0))::abx g2 A r k (r*k) c::(FB.map fk++F))) _ ⟨0,X8,nn,List.replicate nn 0,⟨bD _,ao,by simp[LS]⟩,rfl,a_,au ao wJ (.refl _)⟩ ?_;rintro _ _ _ ⟨j,As,cs,S,⟨hj,SA,hS⟩,rfl,hs,hp⟩;refine aL hs hp (ag 6 (λkq=>?_) λkq=>?_)
  ·have hg:=C7 (PB:=PB) (i:=j) aa;have mD:=bc (l:=PB) (show j<E PB by omega) lM;have hTs:=aaP (n:=nn) (row:=zq k cells i) (data:=PB.map (·.2.2)) (j:=j) aa bS;rw[aeu _ _ aa,Fq,<-hS]at hTs;obtain⟨P,hPe⟩:=cM (PB.getD j lM);rw[<-hPe]at hg mD hTs;have hlP:=IY P mD;have hbP:aJ B w0 (FB.map fk++F) 1 (de P) (E P.2.2) (bv P.2.2):=(hP P mD).mono (fN _ _);obtain⟨x,hx⟩:=cM (cel k cells i j);have WE:cells.getD (i*k+j) 0=x:=hx.symm;have Ww:i*k+j<r*k:=by omega
   rw[<-hx]at hTs;refine cY ?_;refine ab (al ae rfl hbF.cons.cons.cons aa hg) rfl (fF ?_);refine ab (eo rfl rfl (r:=((i*k:Nat):Int)) (W3 aa aa)) rfl (aX ?_);refine ab (bF rfl rfl (r:=((i*k+j:Nat):Int)) ((bj aa aa).trans aa)) rfl (ab (az (i:=i*k+j) (size:=1) underlying27 ae rfl rfl rfl Ww hcF.cons.cons.cons) rfl (ab (l8 ae rfl hcF.cons.cons.cons Ww) rfl ?_));rw[WE];refine ag 9 (λh42=>?_) λh42=>?_
   ·have hx0:¬x=0:=λe=>h42 H6;rw[aB hx0]at hTs;have Ms:E (tL S x P.2.2)=E S:=Ez aa;refine fb ?_;refine ay rfl (ain (s:=S) (b:=P.2.2) rfl rfl aa (aJ.own (.head _)) hbP.cons.cons.cons aa) λDf Dj=>aD 4 [1,2,5,6,7,15,16,24,25,26] 6 ?_;refine aj ⟨_,aa,j+1,Df,Dj,tL S x P.2.2,⟨aa,aa,hTs.symm⟩,rfl,a_,.trans ((dL (gC (gC (.skip (.refl _)))))) (au Ms.symm rfl (.refl _))⟩
   ·have hx0:x=0:=aoN (by show x.toNat=0;omega);rw[av hx0]at hTs;refine aD 6 [1,2,5,6,7,15,16,24,25,26] 0 ?_;refine aj ⟨_,aa,j+1,As,cs,S,⟨aa,SA,hTs.symm⟩,rfl,a_,.refl _⟩
  ·obtain rfl:j=E PB:=by omega
   have Oq:S=LS nn (zq k cells i) (PB.map (·.2.2)):=by rw[hS,gv aa,gv ao]
   have hts:(tms r k cells (PB.map (·.2.2)) nn).take (i+1)=(tms r k cells (PB.map (·.2.2)) nn).take i++[S]:=by
    rw[aP (by rw[xR];omega) [],Oq];congr 2;unfold tms;rw[bz,ib,uI aa];rfl
   refine dA ?_;refine ab (az (i:=i) (size:=1) underlying52 ae rfl rfl rfl aa (aJ.own (.tail _ (.head _)))) rfl (ko (fy ae rfl rfl rfl aU bS) (dg ?_));refine aj ⟨_,aa,i+1,FB++[((As,cs,S):kF)],⟨aa,bS,by rw[iF,vK,hts];rfl⟩,rfl,a_,.trans (oU (e:=((As,cs,S):kF)) [.own 27 1 so r r _,abx g2 A r k (r*k) c]) (au rfl (by rw[aoq Ra aa];simp) (.refl _))⟩
 ·obtain rfl:i=r:=by omega
  rw[gv (by rw[xR];omega)]at vK;refine dM ?_;refine ak (L':=.own 27 1 so (E FB) i (FB.map de)::(FB.map fk++F)) (au Ra.symm ao (.skip (.refl _))) (aX ?_);exact⟨so,i,FB,by rw[Ra],rfl,vK⟩
theorem PG{nn:Nat}(hk:E PB=k)(xn:1<=k)(Wz:k+m<=255)(Zn:nn<=1000000000)(IY:∀e∈PB,E e.2.2=nn)(hb:aJ B w0 F 1 (.slice A2 (E PB) c2) (E PB) (PB.map de))(hP:∀e∈PB,aJ B w0 F 1 (de e) (E e.2.2) (bv e.2.2)):
  bg B w0 122 [ah (m:Int),.slice A2 (E PB) c2] F (PtA (par m (PB.map (·.2.2))) (some 0) F):=by
 have CU:ud (PB.map (·.2.2)):=λb nD=>by
  obtain⟨e,he,rfl⟩:=qd.1 nD;rw[phd,IY e he,IY _ (bc aa lM)]
 have au6:par m (PB.map (·.2.2))=tms m k (Yl k m) (PB.map (·.2.2)) nn:=by
  unfold par;rw[phd,IY _ (bc aa lM),eZ,hk]
 subst hk;rw[au6];refine ba func122 28 [0,1] 12 ?_;refine ai rfl (Xs xn Wz) (dx ?_);refine ai rfl (JA hb aa) (ag 5 (λgH=>?_) λgH=>?_)
 ·exfalso;exact gH CU
 ·refine dg ?_;refine ay rfl (ab' Wz) λUT Vs=>bW 3 λg6=>?_;refine aD 2 [1,6] 5 ?_;refine bp aqo rfl (aat (cells:=Yl (E PB) m) rfl xn aa aa (ab_ _ _) Zn IY (aJ.own (.tail _ (.head _))) hb.cons.cons (λe he=>(hP e he).cons.cons)) rfl ?_;rintro _ _ ⟨Q1,Yi,FB,rfl,cR,vK⟩;obtain rfl:=cR.symm;refine dx ?_;refine ak (.cons (Mb (.s2 (.refl _)) _)) (aX ?_);exact⟨Q1,Yi,FB,rfl,rfl,vK⟩
end
end Go.Proofs.YtaodmbolhoafcaaGreatDoor
