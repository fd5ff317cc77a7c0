/-
  Texts of one proof, joined: part 13. No condition.
-/
import Derived.Test.YtaodmbolhoafcaaGreatDoorZv12
import Derived.Defers
open List renaming length→E
open Go.RowKit Go.Proofs.Tryz
namespace Go.Proofs.YtaodmbolhoafcaaGreatDoor
set_option linter.unusedVariables false
set_option linter.unusedSimpArgs false
set_option maxRecDepth 20000
variable{o:aZ}{b:aq}{P:Prop}{i s:Nat}{R:List aI}{nb:Nat}{fl:aq}{j:Nat}{t:bG}{v:Int}{fr:Fr}{S:br}{y B:Nat}{w0:World}{F L0:aN}{A A1 A2 Ao:bh}{n c c1 c2 co g gc r m N n2:Nat}{Aa:bh}{ca:Nat}{X:cQ}{Ag:bh}{cg gd gk gb:Nat}{L:aN}{g1 g2:Nat}{A3:bh}{c3:Nat}{l:List bG}{most:Int}
section
variable{k:Nat}{ch:Nat}
theorem apM(h:P:=by(repeat (first|exact ku _ (jr (f:=fk) he)|apply List.Mem.tail))):P:=h
theorem AH{P:eH}{l:aq}(hb:aJ B w0 F 1 (.slice A n c) n P.Dc)(hP:∀x∈P,aJ B w0 F 1 x.1 (E x.2) (bv x.2))(hn:n=E P)(pF:P.all=l)(hlen:E l<=1099511627776)(yL:E P<=1099511627776):
  bg B w0 93 [.slice A n c] F (λr L=>∃A' c',r= .slice A' (E l) c'/\L= .own 5 1 A' (E l) c' (bv l)::F):=by
 subst pF;exact dQ.Bt λw hw=>Nn (B:=w.heap.size) w hn (hb w hw) (λx hx=>hP x hx w hw) (ga _) hlen yL
abbrev GO(g:Nat)(k m ch:Nat)(vo vb:Value)(at_:Nat):Ch:=.bI g 280 [ah (k:Int),ah (m:Int),ah (ch:Int),vo,vb,ah (at_:Int)]
theorem aoh(HT:cK B w0){p:aq}{vo vb:Value}{at_:Nat}(e:n=E (b7 p))(hx:aJ B w0 F 1 (.slice A n c) n (bv (b7 p)))(S4:E (b7 p)<=1000000000)(rr:at_<=1000000000):
  bg B w0 242 [bq g,.slice A n c] (GO g k m ch vo vb at_::F)
   (λv L=>∃A' c',v= .tuple #[.slice A' (E p) c',.bool true]/\L= .own 5 1 A' (E p) c' (bv p)::GO g k m ch vo vb (at_+1)::F):=by
 subst e;have hcut:=xe HT (l:=b7 p) (hx.cons (c:=GO g k m ch vo vb at_)) aa;simp only[kN]at hcut;refine cV func242 38 rfl rfl rfl [(0,bq g),(1,.slice A (E (b7 p)) c)] ⟨⟨rfl,rfl⟩,⟨rfl,rfl⟩,trivial⟩ ?_;refine dA ?_;refine ay rfl (hcut) λz' RQ=>ag 14 (λgT=>?_) λgT=>?_
 ·exfalso;exact gT rfl
 ·refine cY ?_;refine ab (bF rfl rfl (r:=((at_+1:Nat):Int)) ((bj aa aa).trans aa)) rfl (aD 3 [6,7] 0 ?_);exact bO 12
def ckb(sz:Nat)(x:aq)(i:Nat):aq:=(x.drop (i*sz)).take sz
theorem aeF{q:Ch}{PB:List kF}(h:q.isObj=true):q∈PB.map fk++F↔q∈F:=by
 refine⟨λhq=>?_,mG _⟩;rcases dO.1 hq with hq|hq
 ·obtain⟨e,_,rfl⟩:=qd.1 hq;cases h
 ·exact hq
theorem cK.later{w1:World}(h:cK B w0)(hb:Below B w0 w1):cK B w1:=aJ.later h hb
def sP(S:fJ)(ks:br):fJ:=ks.map λi=>S.getD i []
theorem ahR{d:aq}(hk:1<=k)(h:E d=k*ch)(hi:i<k+m):ckb (ch+4) (LJ k m ch d) i=b7 ((LM k m ch d).getD i []):=by
 unfold ckb;rw[<-yo (ch+4) (k+m) i _ hi,Ym hk h];have hl:=qC k m ch d;rw[bz,ib,bz,fx aa];rfl
set_option maxHeartbeats 2000000 in
theorem afR(HT:cK B w0)(h:GP k m ch){x d out:aq}{vb:Value}{at_:Nat}(hd:E d=k*ch)(WG:x=LJ k m ch d)(hxc:E x<=c)(hx:gw B w0 F A c x)(rr:at_<=100000000)(G9:E out<=100000000):
  bg B w0 198 [bq g,.slice A (E x) c] (GO g k m ch (.slice Ao (E out) co) vb at_:: .own 5 1 Ao (E out) co (bv out)::F) (λv L=>∃Ao' co',v=ah 0/\L=GO g k m ch (.slice Ao' (E (out++d)) co') vb (at_+(k+m)):: .own 5 1 Ao' (E (out++d)) co' (bv (out++d))::F):=by
 obtain⟨k1,km,ch1,ch2⟩:=h;have h:GP k m ch:=⟨k1,km,ch1,ch2⟩
 have Dp:=h.laid;have S4:E x=(k+m)*(ch+4):=by rw[WG];exact zG k1 hd
 have hN:iu (ch+4) (E x)=k+m:=by rw[S4];exact Vu aa
 obtain⟨S,hS⟩:=cM (LM k m ch d);have SA:E S=k+m:=by rw[hS];exact qC k m ch d
 have hSe:∀b∈S,E b=ch:=by rw[hS];exact vW k1 hd
 have hck:∀i,i<k+m->ckb (ch+4) x i=b7 (S.getD i []):=λi hi=>by rw[WG,hS];exact ahR k1 hd hi
 refine yG func198 93 rfl rfl rfl [(0,bq g),(1,.slice A (E x) c)] ⟨⟨rfl,rfl⟩,⟨rfl,rfl⟩,trivial⟩ ?_;refine ot ?_;refine bM 1 λg2=>?_;refine ew ?_;refine kA ?_;refine ot ?_;refine bW 1 λg5=>?_;refine aX ?_;refine kA ?_;refine ot ?_;refine bW 1 λg6=>?_;refine aX ?_;refine kA ?_;refine L8 ?_;refine aM 27 1 none (aM 4 1 none (dg ?_));refine ab (bF rfl rfl (r:=((ch+4:Nat):Int)) ((bj aa aa).trans aa)) rfl (ay rfl (Ng (sz:=ch+4) aa) λgp gq=>aX ?_);refine kA ?_;refine Gn (N:=iu (ch+4) (E x)) ak9 rfl rfl rfl (λi:Fin (iu (ch+4) (E x))=>GU A (ch+4) (E x) i.val) (λxs=>xs.map (·.val)=List.range (iu (ch+4) (E x))) (λ_=>True) [.bI gp 27 [.slice A (E x) c],.bI gq 3 [ah ((ch+4:Nat):Int)]]
  (λw hw=>yq aa aa aa hxc (λe=>apH) w (hw.all _ (lj _ rL)) (hw.all _ rL))
  (λ(pre:List (Fin (iu (ch+4) (E x)))) (s:(bh×Nat)×(bh×Nat)×List kF)=>s.2.2.map (·.2.2)=sP S (pre.map (·.val))) (λpre s=>.bI gq 3 [ah ((ch+4:Nat):Int)]:: .bI gp 27 [.slice A (E x) c]:: .own 4 1 s.1.1 (E pre) s.1.2 (qk (List.replicate (E pre) true)):: .own 27 1 s.2.1.1 (E (s.2.2)) s.2.1.2 ((s.2.2).map de):: .bI g6 186 [.slice s.1.1 (E pre) s.1.2]:: .bI g5 52 [.slice s.2.1.1 (E (s.2.2)) s.2.1.2]:: .bI g2 278 [bq g]::GO g k m ch (.slice Ao (E out) co) vb (at_+E pre):: .own 5 1 Ao (E out) co (bv out)::(s.2.2.map fk++F))
  (λpre s q hq=>by simp only[Ll hq,Lj hq,aeF hq]) (λq hq=>by
   simp only[fq,kS,nL]at hq;rcases hq with rfl|rfl
   ·exact⟨rfl,λpre s=>lj _ rL⟩
   ·exact⟨rfl,λpre s=>rL⟩)
  ((none,0),(none,0),[]) rfl (.trans ((dL (dL (dL (dL (dL (dL (dL (dL (dL (.refl _))))))))))) (.refl _)) ?_ ?_
 ·rintro l' pre y ⟨⟨Ag,cg⟩,⟨Ap,cp⟩,PB⟩ w1 la kh adt F';have G_:E pre<k+m:=Nat.lt_of_lt_of_eq kh hN;have hy:y.val<k+m:=Nat.lt_of_lt_of_eq y.isLt hN;have He:=BI (k:=ch+4) hy;have avr:y.val*(ch+4)+(ch+4)<=E x:=iY He (Nat.le_of_eq S4.symm);have Y8:E (ckb (ch+4) x y.val)=ch+4:=by unfold ckb;rw[fZ,jM];omega
  have hbx:aJ B w1 (PB.map fk++(F++F')) 1 (.slice (A.map (·.add (y.val*(ch+4)))) (E (ckb (ch+4) x y.val)) (ch+4)) (E (ckb (ch+4) x y.val)) (bv (ckb (ch+4) x y.val)):=by
   rw[Y8];exact((Vn hx aa avr).later adt).mono (.trans (sJ F F') (fN _ _))
  have hvX:GU A (ch+4) (E x) y.val= .slice (A.map (·.add (y.val*(ch+4)))) (E (ckb (ch+4) x y.val)) (ch+4):=by
   unfold GU xY;rw[Y8,show min (ch+4) (E x-y.val*(ch+4))=ch+4 by omega]
  have hmp:(pre++[y]).map (·.val)=pre.map (·.val)++[y.val]:=by simp
  have G7:E (pre++[y])=E pre+1:=by simp
  have Oz:sP S (pre.map (·.val)++[y.val])=sP S (pre.map (·.val))++[S.getD y.val []]:=by simp[sP]
  have yL:E PB=E pre:=by have:=eG List.length la;simpa[sP]using this
  obtain⟨p,hp⟩:=cM (S.getD y.val []);have arA:=hck _ hy;rw[<-hp]at arA Oz;rw[arA]at hbx hvX Y8;simp only[hmp,G7,Oz,hvX,nM,bT];refine Gs ?_;refine L_ ?_;refine nx ae ?_;refine ew ?_;refine ay rfl (.perm (aoh (HT.later adt) (k:=k) (m:=m) (ch:=ch) (vo:=.slice Ao (E out) co) (vb:=vb) (at_:=at_+E pre) (p:=p) rfl (by repeat (first|exact hbx|apply aJ.cons)) aa aa) ((pu7 (gh (gh (gh (gh (gh (gh (gh (gh (.refl _)))))))))))) λsp zV=>aD 5 [5,6,8,9] 0 ?_;refine nq ?_;refine L_ ?_;refine nx ae ?_;refine ew ?_;refine cC fO rfl rfl rfl rfl rfl (λ_=>rfl) aU aa aa ?_;intro _ Mi Mo;refine ew ?_;refine nq ?_;refine nx ae ?_;refine ew ?_;refine cC afH rfl rfl rfl rfl rfl (λ_=>rfl) aU aa aa ?_;intro _ A36 c36;refine ew ?_;refine nq ?_;refine⟨((A36,c36),(Mi,Mo),PB++[((sp,zV,p):kF)]),by rw[iF,la];rfl,?_⟩;have qc:E (PB++[((sp,zV,p):kF)])=E PB+1:=by simp
  refine .trans ((lU (lU (lU (lU (lU (lU (lU (gC (gC (dL (.refl _)))))))))))) ?_;exact .cons (.cons (au rfl (by rw[EW];simp[qk]) (au qc.symm ao (bx rfl (bx (by rw[qc];rfl) (.cons (.cons (.cons (oU (PB:=PB) (F:=F++F') (e:=((sp,zV,p):kF)) [])))))))))
 ·rintro D xs ⟨⟨Ag,cg⟩,⟨Ap,cp⟩,PB⟩ hS' la;have e:List.range (iu (ch+4) (E x))=List.range (k+m):=eG List.range hN;have Mv:=hS'.trans e;have avq:E xs=k+m:=by have:=eG List.length Mv;simpa using this
  rw[Mv]at la;have hPS:PB.map (·.2.2)=S:=by rw[la];unfold sP;rw[<-SA];exact uV S
  have yL:E PB=k+m:=by have:=eG List.length hPS;rw[eZ]at this;omega
  simp only[avq];have IY:∀e∈PB,E e.2.2=ch:=λe he=>hSe _ (hPS▸jr (f:=λy:kF=>y.2.2) he);have hPD:PB.map (·.2.2)=mr ch k d++par m (mr ch k d):=hPS.trans hS;rw[<-yL];refine aa' rfl ?_;refine iK ?_;refine Gp (S:=.obj D (.deferred (some [])):: .bI gq 3 [ah ((ch+4:Nat):Int)]:: .bI gp 27 [.slice A (E x) c]:: .own 4 1 Ag (E PB) cg (qk (List.replicate (E PB) true)):: .own 27 1 Ap (E (PB)) cp ((PB).map de):: .bI g6 186 [.slice Ag (E PB) cg]:: .bI g5 52 [.slice Ap (E (PB)) cp]:: .bI g2 278 [bq g]::GO g k m ch (.slice Ao (E out) co) vb (at_+E PB):: .own 5 1 Ao (E out) co (bv out)::(PB.map fk++F)) ae gI ?_;refine aF 0 12 ?_;refine aC 12 (gS rfl .no aqB rfl (afr (PB:=PB) (D:=mr ch k d) (nn:=ch) k1 km yL (l7 ch k d) hPD aa IY aA (λe he=>aJ.own apM) aA) rfl (by rintro _ _ ⟨wF,yn,FB,rfl,rfl,vK⟩;exact gI) ?_);rintro _ _ ⟨wF,yn,FB,rfl,cR,vK⟩;obtain rfl:=cR.symm;refine aF 13 5 ?_;refine di [2,5,6,10,11] ?_;refine dW ?_;refine iK ?_;refine iK ?_;refine gW ?_;refine fc ?_;refine dW ?_;refine qF rfl (λh54=>?_) (λh54=>?_)
  ·exfalso;exact h54 rfl
  ·have hFS:FB.map (·.2.2)=S:=by rw[vK,hS];rfl
   have Ra:E FB=k+m:=by have:=eG List.length hFS;rw[eZ]at this;omega
   have hFe:∀e∈FB,E e.2.2=ch:=λe he=>hSe _ (hFS▸jr (f:=λy:kF=>y.2.2) he);refine agV (rJ (_::FB.map fk) [_,_,_,_,_,_,_,_,_,_] _) ?_;simp only[nM,mh];refine zM ?_;refine dW ?_;refine iK ?_;refine iK ?_;refine gW ?_;refine fb ?_;refine dW ?_;refine JS ?_;refine abb (λzf zL zm=>∃(i:Nat),(i<=E FB)/\E FB-i=zm/\Sub zf [(2,bq g2),(5,bq g5),(6,bq g6),(10,.slice wF (E FB) yn),(56,.slice wF (E FB) yn),(57,ah (E FB)),(58,ah (i:Int))]/\Wk zL (.obj D (.deferred (some [])):: .bI gq 3 [ah ((ch+4:Nat):Int)]:: .bI gp 27 [.slice A (E x) c]:: .own 4 1 Ag (E PB) cg (qk (List.replicate (E PB) true)):: .own 27 1 Ap (E (PB)) cp ((PB).map de):: .bI g6 186 [.slice Ag (E PB) cg]:: .bI g5 52 [.slice Ap (E (PB)) cp]:: .bI g2 278 [bq g]::GO g k m ch (.slice Ao (E out) co) vb (at_+E PB):: .own 5 1 Ao (E out) co (bv out):: .own 27 1 wF (E FB) yn (FB.map de)::(FB.map fk++(PB.map fk++F)))) _ ⟨0,bD _,rfl,a_,.refl _⟩ ?_;rintro _ _ _ ⟨i,hi,rfl,hs,hp⟩;refine UE _ hs (aoZ hp ?_);clear hs hp;refine iK ?_;refine gW ?_;refine ew ?_;refine dW ?_;refine iK ?_;refine qF rfl (λh59=>?_) (λh59=>?_)
   ·have hgF:=C7 (PB:=FB) (i:=i) aa;have hgP:=C7 (PB:=PB) (i:=i) aa;have hmF:=bc (l:=FB) (show i<E FB by omega) lM;have hmP:=bc (l:=PB) (show i<E PB by omega) lM;have hPQ:(FB.getD i lM).2.2=(PB.getD i lM).2.2:=by rw[<-Fq,<-Fq,hFS,hPS]
    have Zg:=Ic (n:=E PB) (i:=i) aa;obtain⟨P,hP⟩:=cM (FB.getD i lM);obtain⟨Q,hQ⟩:=cM (PB.getD i lM);rw[<-hP]at hgF hmF hPQ;rw[<-hQ]at hgP hmP hPQ;have hlP:=hFe P hmF;refine zM ?_;refine dW ?_;refine iK ?_;refine JS ?_;refine iK ?_;refine gW ?_;refine ew ?_;refine ab (al ae rfl aA aa hgF) rfl (fc ?_);refine dW ?_;refine iK ?_;refine gW ?_;refine fc ?_;refine ab (al ae rfl aA aa Zg) rfl (aX ?_);refine lS rfl rfl rfl (λWo=>?_) (λWo=>?_)
    ·refine cY ?_;refine ab (al ae rfl aA aa hgP) rfl (aX ?_);refine ai rfl (acL (l:=P.2.2) (l2:=Q.2.2) rfl rfl rfl rfl (aJ.own (by repeat (first|exact ku _ (jr (f:=fk) hmF)|apply List.Mem.tail))) (aJ.own (by repeat (first|exact mG _ (ku _ (jr (f:=fk) hmP))|apply List.Mem.tail))) aa) (aD 3 [2,5,6,10,56,57,58,75] 0 ?_);refine dW ?_;refine qF rfl (λh75=>?_) (λh75=>?_)
     ·exfalso;exact h75 hPQ
     ·refine zM ?_;refine aX ?_;refine dW ?_;refine gW ?_;refine fc ?_;refine aj ⟨_,aa,i+1,aa,rfl,a_,.refl _⟩
    ·exfalso;simp at Wo
   ·refine akC (A:=wF) (nn:=E FB) (c:=yn) (size:=1) (xs:=FB.map de) aA λhcF _=>?_;have SF:aJ B w0 (.obj D (.deferred (some [])):: .bI gq 3 [ah ((ch+4:Nat):Int)]:: .bI gp 27 [.slice A (E x) c]:: .own 4 1 Ag (E PB) cg (qk (List.replicate (E PB) true)):: .own 27 1 Ap (E (PB)) cp ((PB).map de):: .bI g6 186 [.slice Ag (E PB) cg]:: .bI g5 52 [.slice Ap (E (PB)) cp]:: .bI g2 278 [bq g]::GO g k m ch (.slice Ao (E out) co) vb (at_+E PB):: .own 5 1 Ao (E out) co (bv out):: .own 27 1 wF (E FB) yn (FB.map de)::(FB.map fk++(PB.map fk++F))) 1 (.slice wF k yn) k (PL (FB.take k)).Dc:=by
     have h1:aJ B w0 (.obj D (.deferred (some [])):: .bI gq 3 [ah ((ch+4:Nat):Int)]:: .bI gp 27 [.slice A (E x) c]:: .own 4 1 Ag (E PB) cg (qk (List.replicate (E PB) true)):: .own 27 1 Ap (E (PB)) cp ((PB).map de):: .bI g6 186 [.slice Ag (E PB) cg]:: .bI g5 52 [.slice Ap (E (PB)) cp]:: .bI g2 278 [bq g]::GO g k m ch (.slice Ao (E out) co) vb (at_+E PB):: .own 5 1 Ao (E out) co (bv out):: .own 27 1 wF (E FB) yn (FB.map de)::(FB.map fk++(PB.map fk++F))) 1 (.slice wF (E FB) yn) (E FB) (FB.map de):=aA;have h2:=h1.h_ (k:=k) aa;rw[cH,<-mY,<-Fv (FB.take k)]at h2;exact h2
    have hcr:∀y∈PL (FB.take k),aJ B w0 (.obj D (.deferred (some [])):: .bI gq 3 [ah ((ch+4:Nat):Int)]:: .bI gp 27 [.slice A (E x) c]:: .own 4 1 Ag (E PB) cg (qk (List.replicate (E PB) true)):: .own 27 1 Ap (E (PB)) cp ((PB).map de):: .bI g6 186 [.slice Ag (E PB) cg]:: .bI g5 52 [.slice Ap (E (PB)) cp]:: .bI g2 278 [bq g]::GO g k m ch (.slice Ao (E out) co) vb (at_+E PB):: .own 5 1 Ao (E out) co (bv out):: .own 27 1 wF (E FB) yn (FB.map de)::(FB.map fk++(PB.map fk++F))) 1 y.1 (E y.2) (bv y.2):=λy hy=>by
     obtain⟨e,he,rfl⟩:=qd.1 hy;have he:=ia he;exact aJ.own apM
    have hz:(PL (FB.take k)).all=d:=by rw[Lo,mY,vK,qs (l7 ch k d),Ij ch k d hd]
    have hzl:E d<=2000000:=by
     have h4:k*ch<=255*4096:=jG aa ch2;omega
    have hoz:E (out++d)=E out+E d:=bm;refine agU ?_;refine Ut ?_;refine ew ?_;refine dW ?_;refine iK ?_;refine Gp (S:=([.bI g2 278 [bq g]]:aN)) ae gI ?_;refine aF 0 4 ?_;refine aF 5 5 ?_;refine iv 4 10 ?_ ?_
    ·refine aX ?_;refine aC 10 (aX ?_);refine aS 11 rfl (bQ (i:=k) (size:=1) underlying52 ae rfl rfl rfl aa) (aC 12 (cj rfl rfl (AH (P:=PL (FB.take k)) (l:=d) SF hcr B7 hz aa B7) λA89 c89=>aC 13 (fh rfl (bB bP rfl aU rfl aA bY aa aa) λA90 c90=>?_)));refine aF 14 2 ?_;refine aC 16 (aX ?_);refine di [] ?_;refine dW ?_;refine iK ?_;refine gW ?_;refine ew ?_;refine dW ?_;refine DD ?_;refine⟨_,.swap ..,?_⟩;exact ak (L':=GO g k m ch (.slice A90 (E (out++d)) c90) vb (at_+E PB):: .own 5 1 A90 (E (out++d)) c90 (bv (out++d))::F) (.s8 (bx (by rw[hoz];rfl) (au (by rw[hoz]) ao (.skip ((ej _ _).trans (ej _ _)))))) (bO 1)
    ·refine aX ?_;refine aS 11 rfl (bQ (i:=k) (size:=1) underlying52 ae rfl rfl rfl aa) (iv 4 12 ?_ ?_)
     ·refine aX ?_;refine aC 12 (cj rfl rfl (AH (P:=PL (FB.take k)) (l:=d) SF hcr B7 hz aa B7) λA89 c89=>aC 13 (fh rfl (bB bP rfl aU rfl aA bY aa aa) λA90 c90=>?_));refine aF 14 2 ?_;refine aC 16 (aX ?_);refine di [] ?_;refine dW ?_;refine iK ?_;refine gW ?_;refine ew ?_;refine dW ?_;refine DD ?_;refine⟨_,.swap ..,?_⟩;exact ak (L':=GO g k m ch (.slice A90 (E (out++d)) c90) vb (at_+E PB):: .own 5 1 A90 (E (out++d)) c90 (bv (out++d))::F) (.s8 (bx (by rw[hoz];rfl) (au (by rw[hoz]) ao (.skip ((ej _ _).trans (ej _ _)))))) (bO 1)
     ·refine cj rfl rfl (AH (P:=PL (FB.take k)) (l:=d) SF hcr B7 hz aa B7) λA89 c89=>aC 4 (aX ?_);refine aC 13 (fh rfl (bB bP rfl aU rfl aA bY aa aa) λA90 c90=>?_);refine aF 14 2 ?_;refine aC 16 (aX ?_);refine di [] ?_;refine dW ?_;refine iK ?_;refine gW ?_;refine ew ?_;refine dW ?_;refine DD ?_;refine⟨_,.swap ..,?_⟩;exact ak (L':=GO g k m ch (.slice A90 (E (out++d)) c90) vb (at_+E PB):: .own 5 1 A90 (E (out++d)) c90 (bv (out++d))::F) (.s8 (bx (by rw[hoz];rfl) (au (by rw[hoz]) ao (.skip ((ej _ _).trans (ej _ _)))))) (bO 1)
end
section
variable{k:Nat}{ch:Nat}
set_option maxHeartbeats 1000000 in
theorem aj7(HT:cK B w0)(h:GP k m ch){b s:aq}(he:Dz k m ch (E b)=0)(hs:s=rP k m ch (oS k ch (E b)) (qU k ch b))(hb:gw B w0 F A c s):
  bg B w0 130 [ah (k:Int),ah (m:Int),ah (ch:Int),ah (E b:Int),.slice A (E s) c] F (λv L=>∃A1 c1,v= .tuple #[.slice A1 (E b) c1,.slice none 0 0,ah 0]/\L= .own 5 1 A1 (E b) c1 (bv b)::F):=by
 obtain⟨k1,km,ch1,ch2⟩:=h;have h:GP k m ch:=⟨k1,km,ch1,ch2⟩
 have hkc:=h.kc;have Dp:=h.laid;have ry:E b<=8388608:=by
  refine b_ λhh=>?_;unfold Dz at he;rw[av aa]at he;exact absurd he aE
 have S1:m0 k m ch (E b)<=16777216:=by
  refine b_ λhh=>?_;unfold Dz at he;rw[aB aa,av aa]at he;exact absurd he aE
 have iy:=XF (F:=F) (B:=B) (w0:=w0) (n:=E b) h aa;rw[he,av rfl]at iy;have yL:=zy (k:=k) (ch:=ch) aa b;have x7:=LK (k:=k) (ch:=ch) (n:=E b) aa;obtain⟨S,hS⟩:=cM (oS k ch (E b));obtain⟨P,hP⟩:=cM (qU k ch b);have hPz:∀q,E b<=q->P.getD q 0=0:=λq hq=>by
  rw[hP,qU,bz,I' hq,Cp];split<;>rfl
 have hPt:P.take (E b)=b:=by rw[hP,qU];exact qs rfl
 rw[<-hP,<-hS]at hs yL;rw[<-hS]at x7;have lB:E s=S*((k+m)*(ch+4)):=by rw[hs];exact zg k1 S P yL
 have hse:m0 k m ch (E b)=E s:=by rw[lB,hS];rfl
 rw[hse]at iy S1;obtain⟨D,hD⟩:=cM (k*ch);obtain⟨Ld,hLd⟩:=cM ((k+m)*(ch+4));have hDL:D<=Ld:=by rw[hD,hLd];exact jG aa aa
 have hKL:k+m<=Ld:=by rw[hLd];exact aiT _ aa
 rw[<-hLd]at lB Dp;rw[<-hD]at hkc yL x7;refine dQ.yk hb λoP _=>?_;refine ba func130 94 [0,1,2,3,4] 13 ?_;refine ai rfl (iy) (ag 16 (λkq=>?_) λkq=>?_)
 ·exfalso;exact kq rfl
 ·refine aD 7 [0,1,2,3,4,13,31] 0 ?_;refine bZ 1 λAU=>?_;refine bZ 9 λCf=>?_;refine fb ?_;refine aM 5 1 none (fb ?_);refine ab (eJ [(0,_),(1,_),(2,_)] [_,_,_] rfl rfl ae) rfl (ab (bw [(0,_)] [ah 0,ah 0,ah 0,.slice none 0 0,.slice none 0 0,ah 0] [0] [_,_,_,_,_,_] rfl rfl ae) rfl (fM λWh=>?_));refine dx ?_;refine aw (λzf zL zm=>∃(j:Nat) (R:aq) (Ar:bh) (cr:Nat) (Ao:bh) (co:Nat),(j<=S/\R=rP k m ch (S-j) (P.drop (j*D))/\E R=(S-j)*Ld/\E R<=cr/\aJ B w0 F 1 (.slice Ar (E R) cr) (E R) (bv R)/\E (P.take (j*D))=j*D)/\S-j=zm/\Sub zf [(3,ah (E b:Int)),(4,.slice Ar (E R) cr),(15,bq Wh)]/\Wk zL (GO Wh k m ch (.slice Ao (E (P.take (j*D))) co) (.slice none 0 0) (j*(k+m)):: .own 5 1 Ao (E (P.take (j*D))) co (bv (P.take (j*D)))::F)) _ ⟨0,s,A,c,none,0,⟨bD _,by rw[ET,nJ,qS];exact hs,by rw[ET];exact lB,oP,hb,ao⟩,rfl,a_,bx ao (au ao wJ (.refl _))⟩ ?_;rintro _ _ _ ⟨j,R,Ar,cr,Ao,co,⟨hj,hR,Wq,hRc,KH,G9⟩,rfl,hs,hp⟩;refine aL hs hp ?_;clear hs hp;refine ag 8 (λOd=>?_) λOd=>?_
  ·have hjS:j<S:=by
    refine b_ λhh=>?_;have:S-j=0:=by omega
    rw[this,nJ]at Wq;omega
   have hSj:S-j=(S-(j+1))+1:=by omega
   rw[hSj,rK]at Wq;rw[hSj,rP,<-hD]at hR;have hLj:(j+1)*Ld<=S*Ld:=C3 _ hjS;have hDj:(j+1)*D<=(j+1)*Ld:=Cz _ hDL;have hDS:(j+1)*D<=S*D:=C3 _ hjS;have hKj:(j+1)*(k+m)<=(j+1)*Ld:=Cz _ hKL;have hjD:(j+1)*D=j*D+D:=rK j D;have hjK:(j+1)*(k+m)=j*(k+m)+(k+m):=rK j (k+m);have hjL:(j+1)*Ld=j*Ld+Ld:=rK j Ld;obtain⟨d,hd⟩:=cM ((P.drop (j*D)).take D);have SH:E d=k*ch:=by rw[hd,fZ,jM,<-hD];omega
   have hPs:P.take ((j+1)*D)=P.take (j*D)++d:=by rw[hjD,I_,hd]
   obtain⟨X,hX⟩:=cM (LJ k m ch d);have hXk:E X=(k+m)*(ch+4):=by rw[hX];exact zG k1 SH
   rw[mX,<-hd,<-hX,<-hjD]at hR;have hRt:R.take Ld=X:=by rw[hR];exact qs aa
   have hRd:R.drop Ld=rP k m ch (S-(j+1)) (P.drop ((j+1)*D)):=by rw[hR];exact rH aa
   have hXb:aJ B w0 F 1 (.slice Ar (E X) cr) (E X) (bv X):=by
    have:=KH.h_ (k:=Ld) aa;rw[cH,jK,hRt]at this;rw[hXk,<-hLd];exact this
   refine fF ?_;refine ab (cu 3 ae rfl aU [ah (k:Int),ah (m:Int),ah (ch:Int)] rfl rfl) rfl ?_;refine ai rfl (LG h) (ab (bQ (i:=(k+m)*(ch+4)) (size:=1) underlying27 ae rfl rfl rfl aa) rfl ?_);rw[<-hXk];refine ay rfl (afR HT h SH hX aa hXb aa aa) λAo2 co2=>ag 9 (λOg=>?_) λOg=>?_
   ·exfalso;exact Og rfl
   ·refine dg ?_;refine ab (cu 3 ae rfl aU [ah (k:Int),ah (m:Int),ah (ch:Int)] rfl rfl) rfl ?_;refine ai rfl (LG h) (ab (bV (i:=(k+m)*(ch+4)) (size:=1) underlying27 ae rfl rfl rfl aa) rfl (aD 1 [3,4,15] 1 ?_));have aun:E (R.drop Ld)=(S-(j+1))*Ld:=by rw[jM];omega
    have hcut:=KH.cut (k:=Ld) aa;rw[cH,jJ]at hcut;have adk:E R-Ld=E (R.drop Ld):=by rw[jM]
    rw[adk]at hcut;rw[<-hLd,adk,cH Ld,<-hPs,<-hjK];refine aj ⟨_,aa,j+1,R.drop Ld,_,_,Ao2,co2,(by exact⟨hjS,hRd,aun,aa,hcut,by rw[hPs,bm,G9,SH,<-hD,hjD]⟩),rfl,a_,.refl _⟩
  ·have hjS:j=S:=by
    refine b_ λhh=>?_;have:1*Ld<=(S-j)*Ld:=C3 _ aa;omega
   subst hjS;have hPj:P.take (j*D)=P:=gv aa;rw[hPj];have hcut:aJ B w0 (GO Wh k m ch (.slice Ao (E P) co) (.slice none 0 0) (j*(k+m)):: .own 5 1 Ao (E P) co (bv P)::F) 1 (.slice (if co=E b then Ao else Ao.map (·.add (E b*1))) (E P-E b) (co-E b)) (E P-E b) (bv (P.drop (E b))):=by
    have:=(aJ.own (B:=B) (w0:=w0) (L:=GO Wh k m ch (.slice Ao (E P) co) (.slice none 0 0) (j*(k+m)):: .own 5 1 Ao (E P) co (bv P)::F) (.tail _ (.head _))).cut (k:=E b) aa;rw[jJ,cH]at this;rw[cH];exact this
   have hDj:j*D<=j*Ld:=Cz _ hDL;have SH:E (P.drop (E b))=E P-E b:=jM;refine bK 13 ?_;refine ab (bV (i:=E b) (size:=1) underlying27 ae rfl rfl rfl aa) rfl (dx ?_);refine aw (λzf zL zm=>∃(q:Nat),(q<=E P-E b)/\E P-E b-q=zm/\Sub zf [(3,ah (E b:Int)),(15,bq Wh),(74,.slice (if co=E b then Ao else Ao.map (·.add (E b*1))) (E P-E b) (co-E b)),(75,ah ((E P-E b:Nat):Int)),(76,ah (q:Int))]/\Wk zL (GO Wh k m ch (.slice Ao (E P) co) (.slice none 0 0) (j*(k+m)):: .own 5 1 Ao (E P) co (bv P)::F)) _ ⟨0,bD _,rfl,a_,.refl _⟩ ?_;rintro _ _ _ ⟨q,hq,rfl,hs,hp⟩;refine aL hs hp ?_;clear hs hp;refine ag 6 (λh77=>?_) λh77=>?_
   ·have hu:(P.drop (E b)).getD q 0=0:=by
     have:=hPz (E b+q) aa;rw[bz]at this⊢;rw[k_6];exact this
    refine dw ?_;refine ab (az (i:=q) (size:=1) underlying27 ae rfl rfl rfl aa hcut) rfl (ab (l8 ae rfl hcut aa) rfl ?_);rw[hu];refine ag 9 (λh81=>?_) λh81=>?_
    ·exfalso;exact h81 rfl
    ·refine dg ?_;refine aj ⟨_,aa,q+1,aa,rfl,a_,.refl _⟩
   ·have adD:aJ B w0 (GO Wh k m ch (.slice Ao (E P) co) (.slice none 0 0) (j*(k+m)):: .own 5 1 Ao (E P) co (bv P)::F) 1 (.slice Ao (E b) co) (E b) (bv b):=by
     have:=(aJ.own (B:=B) (w0:=w0) (L:=GO Wh k m ch (.slice Ao (E P) co) (.slice none 0 0) (j*(k+m)):: .own 5 1 Ao (E P) co (bv P)::F) (.tail _ (.head _))).h_ (k:=E b) aa;rw[jK,cH,hPt]at this;exact this
    refine BT (A:=Ao) (nn:=E P) (c:=co) (size:=1) (xs:=bv P) (aJ.own (.tail _ (.head _))) λhcF _=>?_;refine cN 6 (GO Wh k m ch (.slice Ao (E P) co) (.slice none 0 0) (j*(k+m)):: .own 5 1 Ao (E P) co (bv P)::F) ?_;refine aF 0 5 ?_;refine aS 5 rfl (bQ (i:=E b) (size:=1) underlying27 ae rfl rfl rfl aa) (aF 7 4 ?_);refine aC 6 (cj rfl rfl (Po (l:=b) rfl rfl adD aa) λA89 c89=>aF 11 3 ?_);refine di [10,11,12] ?_;refine ew ?_;exact ak (.cons (.s2 (.refl _))) (bO 1)
end
section
structure JZ(o:aZ)(y b:aq):Prop where
 opt:dF 3 o=0
 lay:(jO o y).2=0
 eq:b=Hy o y
 few:E y<=1000000
 len:E b<=1000000000
section
variable{o:aZ}{y b:aq}
theorem JZ.cut(h:JZ o y b):E b=42+E (jO o y).1/\b.take 21=jg o (E y)/\b.drop (E b-21)=jg o (E y)/\(b.take (E b-21)).drop 21=(jO o y).1:=by
 have hH:=Gc o (E y);obtain⟨H,hHd⟩:=cM (jg o (E y));obtain⟨l,Dp⟩:=cM ((jO o y).1);have hA:b=H++(l++H):=by rw[h.eq];unfold Hy;rw[<-hHd,<-Dp]
 rw[<-hHd]at hH⊢;rw[<-Dp];have hAl:E b=42+E l:=by rw[hA];simp only[bm];omega
 refine⟨hAl,by rw[hA];exact qs hH,?_,?_⟩
 ·rw[hAl,hA,<-bT];exact rH tg
 ·rw[hAl,hA,<-bT,qs tg];exact rH hH
theorem Nd(HT:cK B w0)(h3:JZ o y b)(hb:gw B w0 F A c b):bg B w0 128 [.slice A (E b) c] F (λr L=>r= .tuple #[.slice A 21 c,ah 0]/\L=F):=by
 have ey:=h3.len;obtain⟨hl,ht,_,_⟩:=h3.cut;have h:¬E b<42:=by omega
 refine dQ.yk hb λoP _=>?_;have ha:=alh h hb;have l1:E (b.take 21)=21:=by rw[fZ];omega
 have hcn:RY (b.take 21):=by rw[ht];exact agj _ _
 refine ba func128 24 [0] 9 ?_;refine ai rfl (No ey oP h) (bK 14 ?_);refine ab (lf rfl) rfl (fB 3 (λnj=>?_) λnj=>?_)
 ·exfalso;exact absurd nj aE
 ·refine fc ?_;refine ai rfl (acp HT (l:=b.take 21) l1.symm ha aa) (ag 3 (λj0=>?_) λj0=>?_)
  ·refine aD 5 [2,3] 0 ?_;exact cm 5
  ·exfalso;exact j0 hcn
theorem akj(HT:cK B w0)(h3:JZ o y b)(hb:gw B w0 F A c b):bg B w0 108 [.slice A (E b) c] F (λr L=>r= .bool true/\L=F):=by
 refine ba func108 12 [0] 8 ?_;exact ai rfl (Nd HT h3 hb) (cm 16)
theorem akk{b:aq}(h:42<=E b)(hb:gw B w0 F A c b):aJ B w0 F 1 (.slice (if c=21 then A else A.map (·.add (21*1))) (E b-21-21) (c-21)) (E b-21-21) (bv ((b.take (E b-21)).drop 21)):=by
 have h1:=hb.h_ (k:=E b-21) aa;rw[jK,cH]at h1;have h2:=h1.cut (k:=21) aa;rw[jJ,cH]at h2;rw[cH];exact h2
def MdK(R:aZ×aq×Nat×Int)(F:aN)(r:Value)(L:aN):Prop:=∃g A' c' p,r= .tuple #[bq g,.slice A' (E R.2.1) c',ah (R.2.2.1:Int),ah 0]/\L= .own 5 1 A' (E R.2.1) c' (bv R.2.1)::Hb g R.1 (E R.2.1) p::F
theorem aj8(HT:cK B w0){k ch:Nat}(h:GP k m ch){s:aq}(he:Dz k m ch (E y)=0)(hs:s=rP k m ch (oS k ch (E y)) (qU k ch y))(e:n=E y)(e2:n2=E s)(hb:aJ B w0 F 1 (.slice A n2 c) n2 (bv s)):
  bg B w0 130 [ah (k:Int),ah (m:Int),ah (ch:Int),ah (n:Int),.slice A n2 c] F (λv L=>∃A1 c1,v= .tuple #[.slice A1 (E y) c1,.slice none 0 0,ah 0]/\L= .own 5 1 A1 (E y) c1 (bv y)::F):=by
 subst e;subst e2;exact aj7 HT h he hs hb
theorem as4(HT:cK B w0)(h3:JZ o y b)(hb:gw B w0 F A c b):bg B w0 73 [.slice A (E b) c] F (MdK (o,y,0,0) F):=by
 have ey:=h3.len;have He:=h3.few;obtain⟨hl,ht,hd,hmd⟩:=h3.cut;have aut:42<=E b:=by omega
 obtain⟨r1,r2,r3⟩:=aaO (n:=E y) h3.opt aa;have xp:=λM (hcb:aJ B w0 M 1 (.slice A 21 c) 21 (bv (b.take 21)))=>(agl (F:=M) (l:=b.take 21) jA jA hcb jA).mono λr L hr=>hr.elim (λq=>absurd (by rw[ht];exact r1) q.1) λq=>q.2;simp only[ht,r2,r3]at xp;obtain⟨hp,hhp⟩:=cM ((yL (jg o (E y))).toNat);simp only[<-hhp]at xp;have aiF:=akk aut hb;rw[hmd]at aiF;have G7:E b-21-21=E (jO o y).1:=by omega
 obtain⟨KM,p1,p2,p3⟩:=afG h3.opt;have adG:=h3.lay;have ha:=alh (A:=A) (c:=c) (B:=B) (w0:=w0) (F:=F) (b:=b) aa hb;have hz:=aqU (A:=A) (c:=c) (B:=B) (w0:=w0) (F:=F) (b:=b) aa hb;have l1:E (b.take 21)=21:=by rw[fZ];omega
 have l2:E (b.drop (E b-21))=E b-(E b-21):=by rw[jM]
 obtain⟨bl,pl,bu,da,pa,ch⟩:=o;obtain⟨d,rfl⟩:=gl (show 0<=da from p1);obtain⟨q,rfl⟩:=gl (show 0<=pa from p2);obtain⟨hc,rfl⟩:=gl (show 0<=ch from p3);have KM:GP d q hc:=KM;have hlE:jO (bl,pl,bu,(d:Int),(q:Int),(hc:Int)) y=qf d q hc y:=rfl;rw[hlE]at adG G7 aiF;have iy:Dz d q hc (E y)=0:=b_ λk=>by unfold qf at adG;rw[av k]at adG;exact k adG
 have hls:(qf d q hc y).1=rP d q hc (oS d hc (E y)) (qU d hc y):=by unfold qf;rw[aB (λk=>k iy)]
 refine dQ.yk hb λoP _=>?_;refine ba func73 80 [0] 11 ?_;refine ai rfl (Nd HT h3 hb) (ag 14 (λmQ=>?_) λmQ=>?_)
 ·exfalso;exact mQ rfl
 ·refine dx ?_;refine bp aqd rfl (xp _ (by rw[<-ht];exact ha)) rfl ?_;rintro _ _ ⟨g25,rfl,cR⟩;obtain rfl:=cR.symm;refine aD 5 [0,7,8] 0 ?_;refine ag 8 (λqN=>?_) λqN=>?_
  ·exfalso;exact qN rfl
  ·refine cN 3 (Hb g25 (bl,pl,bu,(d:Int),(q:Int),(hc:Int)) (E y) hp::F) ?_;refine aF 0 22 ?_;refine aS 22 rfl (cU rfl rfl (r:=((E b-21:Nat):Int)) ((bj aa aa).trans aa)) (aS 23 rfl (fR (i:=21) (j:=E b-21) (size:=1) underlying27 ae rfl rfl rfl rfl rfl aa aa) (aC 24 (cj rfl rfl (aj8 HT KM (s:=(qf d q hc y).1) iy hls rfl G7 aiF.cons) λA56 c56=>aF 25 7 ?_)));refine di [0,7,8,9,10] ?_;refine ag 8 (λh61=>?_) λh61=>?_
   ·exfalso;exact h61 rfl
   ·refine bK 13 ?_;refine ai rfl (No aa oP aa) (bK 13 ?_);refine ai rfl (acL (l:=b.take 21) (l2:=b.drop (E b-21)) l1.symm rfl l2.symm rfl ha.cons.cons hz.cons.cons aa) (aD 1 [8,9,11,74] 0 ?_);refine ag 1 (λh74=>?_) λh74=>?_
    ·exfalso;exact h74 (by rw[ht,hd])
    ·exact N9 15
def ato(o:aZ)(x:fj)(df:Nat)(B:Nat)(w0:World)(F:aN)(r:Value)(L:aN):Prop:=∃g N,r= .tuple #[.agg (aZ.cells o).toArray,bq g,ah (df:Int),ah 0]/\L=N++F/\CJ B w0 N g x
theorem age(HT:cK B w0){x:fj}(h3:JZ o y b)(hx:l6 o y=(x,0))(hb:gw B w0 F A c b):bg B w0 58 [.slice A (E b) c] F (ato o x 0 B w0 F):=by
 have pG:=kv o;have He:=h3.few;have Mw:=λM A5 c5 (h:gw B w0 M A5 c5 y)=>ahF (F:=M) HT (o:=o) rfl h He (by rw[hx]);simp only[hx]at Mw;refine fw func58 41 [0] ?_;refine bW 2 λg2=>?_;refine cY ?_;refine bp atN rfl (as4 HT h3 hb.cons) rfl ?_;rintro _ _ ⟨g13,so,xd,p13,rfl,cR⟩;obtain rfl:=cR.symm;refine ag 18 (λqM=>?_) λqM=>?_
 ·exfalso;exact qM rfl
 ·refine dg ?_;refine ab (cu 6 ae rfl aU (aZ.cells o) rfl rfl) rfl (aX ?_);refine bp ak1 rfl (Mw _ _ _ (aJ.own (.head _))) rfl ?_;rintro _ _ ⟨gB,N,rfl,cR,Sy⟩;obtain rfl:=cR.symm;refine aD 5 [2,6,8,9,10] 3 ?_;refine jP Jb ?_;rw[nM,nM,nM];refine ag 5 (λvJ=>?_) λvJ=>?_
  ·exfalso;exact vJ rfl
  ·refine dg ?_;refine ab (cu 6 ae rfl aU (aZ.cells o) rfl rfl) rfl (dA ?_);refine vU rfl rfl ae aU jI rfl rfl rfl (.s3 (.c_ Jb)) ?_;exact⟨gB,N,rfl,rfl,Sy⟩
theorem Uu(HT:cK B w0){x:fj}(h3:JZ o y b)(hx:l6 o y=(x,0))(hR:rS x=(R,0))(hb:gw B w0 F A c b):bg B w0 70 [.slice A (E b) c] F (λr L=>∃A' c',r= .tuple #[.agg (aZ.cells o).toArray,.slice A' (E R) c',ah (E x.ns:Int),ah 0,ah 0]/\L= .own 62 4 A' (E R) c' (cD R)::F):=by
 have la:q_ x:=by have:=Ia h3.few (o:=o) (by rw[hx]);rwa [hx]at this
 have pG:=kv o;have WA:=λM g (h:CJ B w0 M g x)=>ab2 HT la h;simp only[hR]at WA;refine fw func70 38 [0] ?_;refine bW 2 λg2=>?_;refine dA ?_;refine bp atL rfl (age HT h3 hx hb.cons) rfl ?_;rintro _ _ ⟨gB,N,rfl,cR,Sy⟩;obtain rfl:=cR.symm;refine bW 5 λg7=>?_;refine cY ?_;refine jP (List.perm_middle.cons _) ?_;refine ag 5 (λkp=>?_) λkp=>?_
 ·exfalso;exact kp rfl
 ·refine dx ?_;refine ay rfl (WA _ _ (Sy.mono (((sJ _ _).cons _).cons _))) λAr cr=>aD 5 [2,7,8,9,10,11] 0 ?_;refine ag 8 (λqN=>?_) λqN=>?_
  ·exfalso;exact qN rfl
  ·refine cN 3 (.own 62 4 Ar (E R) cr (cD R):: .bI g7 23 (aZ.cells o)::(N++F)) ?_;refine aS 0 rfl (cu 6 ae rfl aU (aZ.cells o) rfl rfl) ?_;refine aF 1 2 ?_;refine dI 5 ?_;refine aC 3 (cj rfl rfl (Ay la (Sy.mono (((((sJ _ _)).cons _).cons _).cons _))) λAk ck=>dI 4 ?_);refine aC 6 (aX ?_);refine aF 7 4 ?_;refine fc ?_;refine ajQ rfl rfl ae aU jI rfl rfl rfl rfl (.skip (.cons (.s2 (ej N F)))) ?_;exact⟨Ar,cr,rfl,rfl⟩
end
end
abbrev tLt(l:List aI):Prop:=∀r∈l,r.1<18446744073709551616
theorem DW{L:List aI}(h:dC L=0):dJ L<=1048576/\E L<=20000:=by
 unfold dC at h;by_cases q:20000<E L\/(∃x∈L,uS x)\/1048576<dJ L
 ·rw[av q]at h;exact absurd h aE
 ·exact⟨aa,aa⟩
theorem Ye{pl:Bool}(h:E b<=32768):E (ij b pl).1<=E b+50:=by
 have hy:=yj b pl;have e1:=aY (x:=E b) aa;have e2:=aY (x:=E (jl b pl).2) aa;rw[J_ aa];show(b7 _).length<=_;rw[dD,bm];unfold uh;rw[ei,bm];omega
theorem Ex{S:Nat}(hS:S<=32768)(b pl:Bool):∀(g:br) (L:List aI),(∀x∈L,x.fits)->w6 S (lens b L) g->E (iV b pl g L).flatten<=E (ct b L)+60*E g
 |[],_,_,_=>by simp[iV]
 |n::g,L,hL,hf=>by
  obtain⟨f1,f2,f3,f4,f5⟩:=hf;have I0:=pd (b:=b) hS hL f1 f3;have h1:=Ye (b:=ct b (L.take n)) (pl:=pl) I0;have h2:=Ex hS b pl g (L.drop n) (λx hx=>hL x (oG hx)) U8;have h3:E (ct b L)=E (ct b (L.take n))+E (ct b (L.drop n)):=by
   conv=>lhs;rw[<-kH n L]
   unfold ct;rw[tB,bm]
  rw[iV,Cy,bm,ei,wU,cH];omega
theorem RH{L:List aI}{M:Nat}(ho:dF 2 (o2 o)=0)(hc:dC L=0)(hx:∀x∈L,x.1<18446744073709551616)(hi:E (qP o L)<=M)(hM:M<=100000000000):
  E (gJ o L)<=2*dJ L+60*E L+40*E L+M+1000+E (kM L):=by
 obtain⟨q9,oB,G4⟩:=jC hc hx;have hom:=Bv (.inr (.inl rfl)) ho;obtain⟨⟨m1,m2⟩,_,m4,_⟩:=hom;have m1:16<=o.1:=m1;have m2:o.1<=32768:=m2;have Ms:E (dc o false L)<=E L:=by unfold dc;have:=lh o.1.toNat (lens false L);rwa [dP]at this
 have hrb:=r7 (b:=false) hx (by have:=(DW hc).1;omega);have EB:=Ex (S:=o.1.toNat) aa false o.2.1 (dc o false L) L oB (jd _ _);have hss:∀x∈(cB o L).map List.length,x<=2*dJ L+60*E L:=λx hx=>by
  have h1:=np hx;rw[<-List.length_flatten]at h1;exact iY h1 (by show(iV false o.2.1 (dc o false L) L).flatten.length<=_;omega)
 have xq:=vI o false L;have yO:=rj (L:=L) aa;have hCl:E (ll L)=E (kM L)+4:=dD _;have hIl:E (lq o L)=E (qP o L)+4:=dD _;have hDl:E (oz o L)<=60+20*E L+4:=by
  unfold oz;rw[dD];have h1:=zS (dc o false L) ((cB o L).map List.length) (λn hn=>HJ) (λn hn=>by have:=hss n hn;omega) (E (dc o false L));have h2:vw (dc o false L) ((cB o L).map List.length) (E (dc o false L))=((dc o false L).zip ((cB o L).map List.length)).flatMap λp=>aW p.1++aW p.2:=by
   unfold vw;rw[gv (by rw[List.length_zip];omega)]
  rw[h2]at h1;have h3:=aY (x:=(dc o false L).sum) aa;have h4:=aY (x:=E (dc o false L)) aa;have h5:=aY (x:=E (ll L)) aa;have h6:=aY (x:=E (lq o L)) aa;unfold yC;simp only[bm];omega
 unfold gJ;have SM:E (cB o L).flatten<=2*dJ L+60*E L:=by show(iV false o.2.1 (dc o false L) L).flatten.length<=_;omega
 simp only[bm,ql];omega
structure qG(L:List aI):Prop where
 few:E L<=30
 w:dJ L<=2000
 t:tLt L
theorem qG.Ii{L:List aI}(h:qG L):dC L=0:=by
 unfold dC;rw[aB];rintro(q|q|q)
 ·have:=h.few;omega
 ·obtain⟨x,hx,hl⟩:=q;have h1:x.w<=dJ L:=by
   unfold dJ;exact np (jr hx)
  have h2:=h.w;unfold uS at hl;unfold aI.w at h1;omega
 ·have:=h.w;omega
theorem E6{L:List aI}(h:qG L)(ho:dF 2 (o2 o)=0)(h1:1<=o.2.2.1)(h2:o.2.2.1<=64):E (gJ o L)<=320000:=by
 have hf:=h.few;have hw:=h.w;have hi:=(S9 (o:=o) h1 h2 hw aa).2 hf;have:=RH ho h.Ii h.t hi aa;have hc:=rj (L:=L) aa;omega
theorem ZP{L:List aI}(h:qG L)(ho:dF 1 o=0):E (Bu o L)<=10000:=by
 have hf:=h.few;have hw:=h.w;have eu:ju 1 o:=by
  unfold dF at ho;rw[av (.inl rfl)]at ho;exact b_ λh=>by rw[aB h]at ho;simp at ho
 obtain⟨⟨m1,m2⟩,_⟩:=eu;obtain⟨q9,oB,G4⟩:=jC h.Ii h.t;have hrb:=r7 (b:=true) h.t aa;have EB:=Ex (S:=o.1.toNat) aa true o.2.1 (dc o true L) L oB (jd _ _);have Ms:E (dc o true L)<=E L:=by unfold dc;have:=lh o.1.toNat (lens true L);rwa [dP]at this
 have n1:=aY (x:=o.1.toNat) aa;have n2:=aY (x:=E L) aa;have n3:=aY (x:=E (dc o true L)) aa;unfold Bu tU;rw[dD];simp only[bm,ei,tT,eK];omega
theorem Jd{L:List aI}(h:qG L)(ho:dF 2 o=0):E (Hz o L)<=330000:=by
 obtain⟨eu,he⟩:=qz ho;obtain⟨⟨m1,m2⟩,_,m4,_,_⟩:=eu;obtain⟨m5,m6⟩:=m4 (.inr rfl);have hb:=E6 (o:=o) h (by rw[he];exact ho) m5 m6;have n1:=aY (x:=o.1.toNat) aa;have n2:=aY (x:=o.2.2.1.toNat) aa;unfold Hz mS qE;rw[bm,dD];simp only[bm,ei,tT,eK];omega
def afK(o:aZ):Prop:=o.2.2.2.1<=8/\o.2.2.2.2.1<=8/\o.2.2.2.2.1<=4*o.2.2.2.1/\4<=o.2.2.2.2.2/\o.2.2.2.2.2<=100
theorem aax{k ch:Nat}(hk:1<=k)(hm:m<=4*k)(hc:4<=ch)(zY:k<=8)(KJ:ch<=100)(hn:n<=320000):m0 k m ch n<=3500000/\Dz k m ch n=0:=by
 have hD:1<=k*ch:=Nat.mul_pos hk aa;have hD2:k*ch<=800:=jG zY KJ;have h1:(k+m)*(ch+4)<=(5*k)*(2*ch):=jG aa aa;have h2:(5*k)*(2*ch)=10*(k*ch):=by
  rw[Nat.mul_mul_mul_comm]
 have h3:oS k ch n*(k*ch)<=n+k*ch-1:=Nat.div_mul_le_self _ _;have h4:m0 k m ch n<=3500000:=by
  unfold m0;have h5:oS k ch n*((k+m)*(ch+4))<=oS k ch n*(10*(k*ch)):=Cz _ aa;have h6:oS k ch n*(10*(k*ch))=10*(oS k ch n*(k*ch)):=by
   rw[Nat.mul_left_comm]
  omega
 refine⟨h4,?_⟩;unfold Dz;rw[aB aa,aB aa]
theorem Pe{L:List aI}(h:qG L)(ho:dF 3 o=0)(hs:afK o):E (gJ o L)<=320000/\(jO o (gJ o L)).2=0/\E (Hy o (gJ o L))<=4000000:=by
 obtain⟨eu,h2⟩:=nt ho;obtain⟨_,m3,m4,_,_⟩:=eu;obtain⟨⟨k1,k2⟩,⟨k3,k4⟩,⟨k5,k6⟩⟩:=m3 rfl;obtain⟨m5,m6⟩:=m4 (.inl rfl);obtain⟨s1,s2,s3,s4,s5⟩:=hs;have hb:=E6 (o:=o) h h2 m5 m6;obtain⟨z1,z2⟩:=aax (k:=o.2.2.2.1.toNat) (m:=o.2.2.2.2.1.toNat) (ch:=o.2.2.2.2.2.toNat) (n:=E (gJ o L)) aa aa aa aa aa hb;have hl:(jO o (gJ o L)).2=0:=by
  unfold jO qf;rw[aB (by rw[z2];simp)]
 refine⟨hb,hl,?_⟩;have hA:=(Pa (k:=o.2.2.2.1.toNat) (m:=o.2.2.2.2.1.toNat) (ch:=o.2.2.2.2.2.toNat) (b:=gJ o L) aa aa hl)
 have adG:E (jO o (gJ o L)).1<=3500000:=by
  unfold jO qf;rw[aB (by rw[z2];simp)];show(rP _ _ _ _ _).length<=_;rw[zg aa _ _ (zy (Nat.mul_pos aa aa) _)];exact z1
 unfold Hy;simp only[bm,Gc];omega
theorem apN(h:P:=by(first|exact⟨λ_=>trivial,λ_=>rfl⟩|exact λk=>Cf rfl)):P:=h
def re(v:Int)(o:aZ)(L:List aI):aq×Int:=if v=1 then xF o L else if v=2 then xT o L else if v=3 then wE o L else ([],4)
def abz(b:aq)(v:Int)(B:Nat)(w0:World):Prop:=∀F A c,aJ B w0 F 1 (.slice A (E b) c) (E b) (bv b)->bg B w0 56 [.slice A (E b) c] F (λr L=>r= .tuple #[ah v,ah 0]/\L=F)
theorem as'(yR:bg B w0 107 [.slice A (E b) c] F (λr L=>r= .tuple #[ah 1,ah 0]/\L=F)):bg B w0 56 [.slice A (E b) c] F (λr L=>r= .tuple #[ah 1,ah 0]/\L=F):=by
 refine ba func56 26 [0] 9 ?_;refine ai rfl (yR) (bk 14 (λgT=>?_) (λgT=>?_))
 ·exfalso;exact gT rfl
 ·refine aD 11 [2,3] 0 ?_;exact cm 5
theorem ata(yR:bg B w0 107 [.slice A (E b) c] F (λr L=>r= .tuple #[ah 2,ah 0]/\L=F)):bg B w0 56 [.slice A (E b) c] F (λr L=>r= .tuple #[ah 2,ah 0]/\L=F):=by
 refine ba func56 26 [0] 9 ?_;refine ai rfl (yR) (bk 14 (λgT=>?_) (λgT=>?_))
 ·refine ag 7 (λoA=>?_) λoA=>?_
  ·refine aD 5 [2,3] 0 ?_;exact cm 5
  ·exfalso;exact oA rfl
 ·exfalso;exact absurd gT aE
theorem Uz(ey:E b<=1000000000)(hm:marked b=(v,0))(hv:v=1\/v=2):abz b v B w0:=by
 intro F A c hb;have yR:=uW (F:=F) (l:=b) hb aa;rw[hm]at yR;rcases hv with rfl|rfl
 ·exact as' yR
 ·exact ata yR
theorem atb(HT:cK B w0){y:aq}(h3:JZ o y b)(hm:marked b=(3,0)):abz b 3 B w0:=by
 intro F A c hb;have yR:=uW (F:=F) (l:=b) hb (by have:=h3.len;omega);rw[hm]at yR;refine ba func56 26 [0] 9 ?_;refine ai rfl (yR) (bk 14 (λgT=>?_) (λgT=>?_))
 ·refine ag 7 (λoA=>?_) λoA=>?_
  ·exfalso;exact absurd oA aE
  ·refine fc ?_;refine ai rfl (akj HT h3 hb) (aD 1 [4,5,19] 0 ?_);refine fB 1 (λqM=>?_) λqM=>?_
   ·exact cm 10
   ·exfalso;simp at qM
 ·exfalso;exact absurd gT aE
theorem RA(HT:cK B w0){L:List aI}(hx:∀x∈L,x.1<18446744073709551616)(hb:aJ B w0 F 4 (.slice A (E L) c) (E L) (cD L)):bg B w0 10 [ah 1,.agg (aZ.cells o).toArray,.slice A (E L) c] F (Q3 (re 1 o L) F):=by
 have e:re 1 o L=xF o L:=rfl;rw[e];have vN:=λM (hb:aJ B w0 M 4 (.slice A (E L) c) (E L) (cD L))=>Z_ (F:=M) (o:=o) HT hx hb;obtain⟨W,hW⟩:=cM (xF o L);rw[<-hW];simp only[<-hW]at vN;have pG:=kv o;refine fw func10 30 [0,1,2] ?_;refine bM 2 λg4=>?_;refine ag 17 (λh9=>?_) λh9=>?_
 ·refine ew ?_;refine ab (cu 6 ae rfl aU (aZ.cells o) rfl rfl) rfl (aX ?_);refine ay rfl (vN _ hb.cons) λso xd=>dA ?_;exact ak (.cons (.skip (.refl _))) (bO 1)
 ·exfalso;exact h9 rfl
theorem RB(HT:cK B w0){L:List aI}(hx:∀x∈L,x.1<18446744073709551616)(hb:aJ B w0 F 4 (.slice A (E L) c) (E L) (cD L)):bg B w0 10 [ah 2,.agg (aZ.cells o).toArray,.slice A (E L) c] F (Q3 (re 2 o L) F):=by
 have e:re 2 o L=xT o L:=rfl;rw[e];have vN:=λM (hb:aJ B w0 M 4 (.slice A (E L) c) (E L) (cD L))=>aa1 (F:=M) (o:=o) HT hx hb;obtain⟨W,hW⟩:=cM (xT o L);rw[<-hW];simp only[<-hW]at vN;have pG:=kv o;refine fw func10 30 [0,1,2] ?_;refine bM 2 λg4=>?_;refine ag 17 (λh9=>?_) λh9=>?_
 ·exfalso;exact absurd h9 aE
 ·refine ag 6 (λj0=>?_) λj0=>?_
  ·refine ew ?_;refine ab (cu 6 ae rfl aU (aZ.cells o) rfl rfl) rfl (aX ?_);refine ay rfl (vN _ hb.cons) λso xd=>dA ?_;exact ak (.cons (.skip (.refl _))) (bO 1)
  ·exfalso;exact j0 rfl
theorem RE(HT:cK B w0){L:List aI}(hx:∀x∈L,x.1<18446744073709551616)(hb:aJ B w0 F 4 (.slice A (E L) c) (E L) (cD L)):bg B w0 10 [ah 3,.agg (aZ.cells o).toArray,.slice A (E L) c] F (Q3 (re 3 o L) F):=by
 have e:re 3 o L=wE o L:=rfl;rw[e];have vN:=λM (hb:aJ B w0 M 4 (.slice A (E L) c) (E L) (cD L))=>agi (F:=M) (o:=o) HT hx hb;obtain⟨W,hW⟩:=cM (wE o L);rw[<-hW];simp only[<-hW]at vN;have pG:=kv o;refine fw func10 30 [0,1,2] ?_;refine bM 2 λg4=>?_;refine ag 17 (λh9=>?_) λh9=>?_
 ·exfalso;exact absurd h9 aE
 ·refine ag 6 (λj0=>?_) λj0=>?_
  ·exfalso;exact absurd j0 aE
  ·refine ag 6 (λpe=>?_) λpe=>?_
   ·refine ew ?_;refine ab (cu 6 ae rfl aU (aZ.cells o) rfl rfl) rfl (aX ?_);refine ay rfl (vN _ hb.cons) λso xd=>aD 4 [6,7] 4 ?_;exact ak (.cons (.skip (.refl _))) (bO 1)
   ·exfalso;exact pe rfl
theorem w9(HT:cK B w0){L:List aI}(hv:v=1\/v=2\/v=3)(hx:∀x∈L,x.1<18446744073709551616)(hb:aJ B w0 F 4 (.slice A (E L) c) (E L) (cD L)):bg B w0 10 [ah v,.agg (aZ.cells o).toArray,.slice A (E L) c] F (Q3 (re v o L) F):=by
 rcases hv with rfl|rfl|rfl
 ·exact RA HT hx hb
 ·exact RB HT hx hb
 ·exact RE HT hx hb
theorem AM{C:Cx}{f:Ch->aN}{x y:Operand}{t ty bt:TypeId}{c0 c1 c2 c3 c4 x0 x1 x2 x3 x4 x5 va:Value}(hs:pH C.P t 6=true)(he:ev fr x=some (.pointer (some ⟨g,5,none⟩)))(hv:ev fr y=some (.agg (aZ.cells o).toArray))(hm:m9 (.bI g bt [c0,c1,c2,c3,c4,x0,x1,x2,x3,x4,x5,va]) L f):
  ra C fr L (.store t x y) ty (λp L'=>L'=f (.bI g bt [c0,c1,c2,c3,c4,ah o.1,.bool o.2.1,ah o.2.2.1,ah o.2.2.2.1,ah o.2.2.2.2.1,ah o.2.2.2.2.2,va])):=
 pC 6 hs he hv (kv o) hm rfl ao
abbrev Upb(g:Nat)(v:Int)(m nb bad:Nat)(cl:Bool)(o:aZ)(va:Value):Ch:=.bI g 69 [ah v,ah (m:Int),ah (nb:Int),ah (bad:Int),.bool cl,ah o.1,.bool o.2.1,ah o.2.2.1,ah o.2.2.2.1,ah o.2.2.2.2.1,ah o.2.2.2.2.2,va]
def UpK(v:Int)(o:aZ)(l:List aI)(nb bad:Nat)(F:aN)(r:Value)(L:aN):Prop:=∃g A' c',r= .tuple #[bq g,ah 0]/\L=Upb g v (E l) nb bad false o (.slice A' (E l) c'):: .own 62 4 A' (E l) c' (cD l)::F
theorem abG(hV:abz b 1 B w0)(hup:∀F A c,aJ B w0 F 1 (.slice A (E b) c) (E b) (bv b)->bg B w0 68 [.slice A (E b) c] F (UnA ((o,R,nb,0):aZ×List aI×Nat×Int) F))(hb:gw B w0 F A c b):bg B w0 29 [.slice A (E b) c] F (UpK 1 o R nb 0 F):=by
 have pG:=kv o;refine ba func29 92 [0] 9 ?_;refine ai rfl (hV _ _ _ hb) (dh ?_);refine ab (bw [(0,_)] [ah 0,ah 0,ah 0,ah 0,.bool false] [0] [_,_,_,_,_] rfl rfl ae) rfl (ab (bw [(0,_)] [ah 0,ah 0,ah 0,ah 0,.bool false,ah 0,.bool false,ah 0,ah 0,ah 0,ah 0,.slice none 0 0] [0] [_,_,_,_,_,_,_,_,_,_,_,_] rfl rfl ae) rfl (fM λg15=>?_));refine ag 16 (λgH=>?_) λgH=>?_
 ·refine dx ?_;refine ay rfl (hup _ _ _ hb.cons) λGJ Ie=>dg ?_;refine ko (AM (o:=o) ae rfl rfl aU) ?_;refine aD 8 [5,6] 0 ?_;refine ag 9 (λh80=>?_) λh80=>?_
  ·exfalso;exact h80 rfl
  ·refine bK 24 ?_;exact ak ((gC (dL (.refl _)))) (nI 1)
 ·exfalso;exact gH rfl
theorem abH(hV:abz b 2 B w0)(hup:∀F A c,aJ B w0 F 1 (.slice A (E b) c) (E b) (bv b)->bg B w0 69 [.slice A (E b) c] F (UnA ((o,R,nb,0):aZ×List aI×Nat×Int) F))(hb:gw B w0 F A c b):bg B w0 29 [.slice A (E b) c] F (UpK 2 o R nb 0 F):=by
 have pG:=kv o;refine ba func29 92 [0] 9 ?_;refine ai rfl (hV _ _ _ hb) (dh ?_);refine ab (bw [(0,_)] [ah 0,ah 0,ah 0,ah 0,.bool false] [0] [_,_,_,_,_] rfl rfl ae) rfl (ab (bw [(0,_)] [ah 0,ah 0,ah 0,ah 0,.bool false,ah 0,.bool false,ah 0,ah 0,ah 0,ah 0,.slice none 0 0] [0] [_,_,_,_,_,_,_,_,_,_,_,_] rfl rfl ae) rfl (fM λg15=>?_));refine ag 16 (λgH=>?_) λgH=>?_
 ·exfalso;exact absurd gH aE
 ·refine ag 6 (λCf=>?_) λCf=>?_
  ·refine dx ?_;refine ay rfl (hup _ _ _ hb.cons) λGJ Ie=>dg ?_;refine ko (AM (o:=o) ae rfl rfl aU) ?_;refine aD 8 [5,6] 0 ?_;refine ag 9 (λh80=>?_) λh80=>?_
   ·exfalso;exact h80 rfl
   ·refine bK 24 ?_;exact ak ((gC (dL (.refl _)))) (nI 1)
  ·exfalso;exact Cf rfl
theorem abI(hV:abz b 3 B w0)(hup:∀F A c,aJ B w0 F 1 (.slice A (E b) c) (E b) (bv b)->bg B w0 70 [.slice A (E b) c] F (λr L=>∃A' c',r= .tuple #[.agg (aZ.cells o).toArray,.slice A' (E R) c',ah (nb:Int),ah 0,ah 0]/\L= .own 62 4 A' (E R) c' (cD R)::F))(hb:gw B w0 F A c b):bg B w0 29 [.slice A (E b) c] F (UpK 3 o R nb 0 F):=by
 have pG:=kv o;refine ba func29 92 [0] 9 ?_;refine ai rfl (hV _ _ _ hb) (dh ?_);refine ab (bw [(0,_)] [ah 0,ah 0,ah 0,ah 0,.bool false] [0] [_,_,_,_,_] rfl rfl ae) rfl (ab (bw [(0,_)] [ah 0,ah 0,ah 0,ah 0,.bool false,ah 0,.bool false,ah 0,ah 0,ah 0,ah 0,.slice none 0 0] [0] [_,_,_,_,_,_,_,_,_,_,_,_] rfl rfl ae) rfl (fM λg15=>?_));refine ag 16 (λgH=>?_) λgH=>?_
 ·exfalso;exact absurd gH aE
 ·refine ag 6 (λCf=>?_) λCf=>?_
  ·exfalso;exact absurd Cf aE
  ·refine aD 4 [0,5,6,55] 0 ?_;refine ag 1 (λh55=>?_) λh55=>?_
   ·refine dw ?_;refine ay rfl (hup _ _ _ hb.cons) λGJ Ie=>cY ?_;refine ko (AM (o:=o) ae rfl rfl aU) ?_;refine aD 12 [5,6] 0 ?_;refine ag 9 (λh80=>?_) λh80=>?_
    ·exfalso;exact h80 rfl
    ·refine bK 24 ?_;exact ak ((gC (dL (.refl _)))) (nI 1)
   ·exfalso;exact h55 rfl
abbrev MI:=Int×Nat×Nat×Nat×Bool
def MI.cells(r:MI):cQ:=[ah r.1,ah (r.2.1:Int),ah (r.2.2.1:Int),ah (r.2.2.2.1:Int),.bool r.2.2.2.2]
theorem Xn(r:MI):∀u∈MI.cells r,u.oneCell'=true:=by simp[MI.cells,Value.oneCell']
theorem abX{l l2:aq}(e1:n=E l)(e2:n2=E l2)(h1:aJ B w0 F 1 (.slice A n c) n (bv l))(h2:aJ B w0 F 1 (.slice A2 n2 c2) n2 (bv l2)):bg B w0 32 [.slice A n c,.slice A2 n2 c2] F (λr L=>r= .bool (decide (l=l2))/\L=F):=by
 refine ba func32 10 [0,1] 8 ?_;refine ab (pz underlying27 underlying5 underlying9 rfl h1) rfl (aX ?_);exact ab (pz underlying27 underlying5 underlying9 rfl h2) rfl (cm 6)
theorem Av(HT:cK B w0){l:List aI}(hv:v=1\/v=2\/v=3)(gU:tLt l)(hP:re v o l=(b,0))(hup:∀F A c,aJ B w0 F 1 (.slice A (E b) c) (E b) (bv b)->bg B w0 29 [.slice A (E b) c] F (UpK v o l nb 0 F))(hb:gw B w0 F A c b):bg B w0 17 [.slice A (E b) c] F (λr L=>r= .tuple #[.agg (MI.cells (v,E l,nb,0,true)).toArray,ah 0]/\L=F):=by
 have vN:=λM A8 c8 (hb:aJ B w0 M 4 (.slice A8 (E l) c8) (E l) (cD l))=>w9 (F:=M) (o:=o) HT hv gU hb;simp only[hP]at vN;have pG:=Xn (v,E l,nb,0,true);refine fw func17 48 [0] ?_;refine bW 2 λg2=>?_;refine dw ?_;refine dV rfl (hup _ _ _ hb.cons) λg8 A8 c8=>ag 14 (λnj=>?_) λnj=>?_
 ·exfalso;exact nj rfl
 ·refine cN 3 (Upb g8 v (E l) nb 0 false o (.slice A8 (E l) c8):: .own 62 4 A8 (E l) c8 (cD l):: .bI g2 41 [ah 0,ah 0,ah 0,ah 0,.bool false]::F) ?_;refine aF 0 8 ?_;refine aS 8 rfl (cu 6 ae rfl aU (aZ.cells o) rfl rfl) ?_;refine aF 9 4 ?_;refine aC 13 (cj rfl rfl (vN _ _ _ (aJ.own (.tail _ (.head _)))) λRp c30=>aF 14 5 ?_);refine di [0,2,4,5,6] ?_;refine bf 4 7 40 [2,4,33] (True) ?_ ?_
  ·refine bC 3 (λCf=>?_) λCf=>?_
   ·refine fb ?_;exact ai rfl (abX (l:=b) (l2:=b) rfl rfl (aJ.own (.head _)) hb.cons.cons.cons.cons) (ax 1 (k:=(by exact dG apN)))
   ·exact ax 3 (k:=(by exact dS apN))
  ·refine fF ?_;refine ab (cu 5 ae rfl aU (MI.cells (v,E l,nb,0,true)) rfl rfl) rfl (dx ?_);refine iH rfl rfl ae aU jI rfl (.s4 (.refl _)) ?_;exact⟨rfl,rfl⟩
theorem acs{Z:aq}(h:s+m<=E fl):((fl++Z).drop s).take m=(fl.drop s).take m:=by
 rw[List.drop_append_of_le_length aa,List.take_append_of_le_length l0]
theorem ahX{H Z:aq}(h:s+m<=E fl):((H++(fl++Z)).drop (E H+s)).take m=(fl.drop s).take m:=by
 rw[<-mX,y8,acs h]
def og(o:aZ)(L:List aI):br:=(cB o L).map List.length
def N4(o:aZ)(L:List aI)(fl:aq):fJ:=nS (og o L) (fl++(ll L++lq o L))
theorem acZ(o:aZ)(L:List aI):E (og o L)=E (dc o false L):=by unfold og cB;rw[eZ,yH]
theorem acY{L:List aI}:(og o L).getD j 0=E ((cB o L).getD j []):=by
 unfold og;simp only[bz,ib];cases (cB o L)[j]? <;>rfl
theorem acX{L:List aI}(hf:E fl=(og o L).sum)(hj:j<E (og o L)):(N4 o L fl).getD j []=(fl.drop ((og o L).take j).sum).take ((og o L).getD j 0)/\((og o L).take j).sum+(og o L).getD j 0<=E fl/\E ((N4 o L fl).getD j [])=(og o L).getD j 0:=by
 have h1:((og o L).take (j+1)).sum=((og o L).take j).sum+(og o L).getD j 0:=by rw[aP hj 0,pJ];simp
 have h2:=iA (og o L) (j+1);have h3:(N4 o L fl).getD j []=(fl.drop ((og o L).take j).sum).take ((og o L).getD j 0):=by
  unfold N4;rw[Qm hj,acs aa]
 exact⟨h3,aa,by rw[h3,fZ,jM];omega⟩
theorem P_{L:List aI}(hL:qG L)(ho:dF 2 o=0):re 2 o L=(mS o++((cB o L).flatten++tj o L),0)/\gL o L=((cB o L).flatten++tj o L,0)/\E (mS o++((cB o L).flatten++tj o L))<=1000000/\E ((cB o L).flatten)=(og o L).sum:=by
 have hb:gL o L=((cB o L).flatten++tj o L,0):=by
  unfold gL;rw[(qz ho).2,ho,aB ao,hL.Ii,aB ao];rfl
 have h2:xT o L=(mS o++((cB o L).flatten++tj o L),0):=by
  unfold xT;rw[ho,aB ao,hb,aB ao];rfl
 have hl:=Jd hL ho;have h3:E (Hz o L)<=1000000:=by omega
 exact⟨h2,hb,h3,N2 _⟩
theorem afz{L:List aI}(hL:qG L)(ho:dF 2 o=0)(hf:E fl=(og o L).sum):marked (mS o++(fl++tj o L))=(2,0)/\∃x,vp (mS o++(fl++tj o L))=(o,x,0)/\E x.ns=E (dc o false L)/\
  ((∀j,j<E (dc o false L)->(N4 o L fl).getD j []≠(cB o L).getD j []->(du ((N4 o L fl).getD j [])).2.2≠0)->pZ x (E (dc o false L))=lZ L (dc o false L) (cB o L) (N4 o L fl) (E (dc o false L))):=by
 obtain⟨_,_,h3,h4⟩:=P_ hL ho;have hlen:E (fl++tj o L)<=8388608:=by
  simp only[bm]at h3⊢;omega
 obtain⟨e1,e2,e3⟩:=M8 (o:=o) (by rw[(qz ho).2];exact ho) hL.Ii hL.t (by have:=hL.w;omega) hf hlen;refine⟨Gi _ _,_,XU ho e1,rfl,λhj=>?_⟩;exact Xw (x:=⟨dc o false L,(cB o L).map List.length,E (ll L),E (lq o L),L.map (·.1),lv L,mP L,mO L,nS ((cB o L).map List.length) (fl++(ll L++lq o L))⟩) e2 e3 rfl rfl rfl (ga _) hj
section
def HB(P:Program)(B:Nat)(w0:World)(f:FuncId)(args:cQ)(L:aN)(R:oV):Prop:=
 ∀u w,SL B w0 L w->CallsD P f args.toArray u w λe u' w'=>u'=u/\∃v L',e= .returned v/\R v L'/\SL B w0 L' w'
section
variable{P:Program}{B:Nat}{w0:World}{f:FuncId}{fn:Func}{c:Code}{args:cQ}{R:oV}{L:aN}
theorem acV(hf:P.funcs[f]? =some fn)(N:Nat)(hN:fn.ntmps=N)(hb:fn.body=some c)(hl:Nat.ble (E args) N=true)(fr0:Fr)(hi:Ini N args fr0)(h:VC ⟨P,N,B,w0⟩ c (zT P fn R) fr0 L):HB P B w0 f args L R:=λu w hw=>by
 subst hN;refine callsD_of_wp hf hb (wC (h _ w (Dg (ad2 hl) hi) hw) λe a w ⟨fr,L,ha,hs,hq⟩=>?_);cases e<;>first
  |exact hq.elim
  |(obtain⟨v,L',h1,h2,h3⟩:=hq B w0 a w ha hs;exact⟨ha.defers,v,h1,v,L',rfl,h2,h3⟩)
def FD(C:Cx)(fn:Func)(R:oV):Exit->Act->World->Prop:=bodyPostD C.P fn λe w'=>∃v L',e= .returned v/\R v L'/\SL C.B C.w0 L' w'
theorem YU(hf:P.funcs[f]? =some fn)(N:Nat)(hN:fn.ntmps=N)(hb:fn.body=some c)(hl:Nat.ble (E args) N=true)(fr0:Fr)(hi:Ini N args fr0)(h:VG ⟨P,N,B,w0⟩ c (FD ⟨P,N,B,w0⟩ fn R) fr0 L):dQ P B w0 f args L R:=λw hw=>by
 subst hN;exact calls_of_wp_defers hf hb (h _ w (Dg (ad2 hl) hi) hw)
abbrev dfr(f:FuncId)(us:cQ):Deferred:={target:=.fn (.func f) us.toArray,args:= #[]}
theorem agQ{C:Cx}{y:Code}{QQ:Exit->Act->World->Prop}{id t:Nat}{bs:List Operand}{us:cQ}{ty ty2:TypeId}{pos aaf:String}{af af2:Array Edge}(he:AN fr bs=some us)(hd:Nat.blt t C.N=true)(k:∀a w,a.defers=[dfr f us]->pn C.N ((t,.func (.func f) #[] us.toArray)::fr) {a with defers:=[]}->SL C.B C.w0 L w->y.wp C.P QQ a w):
  VG C (.seq (.region id #[⟨some t,.makeFunc (.func f) #[] bs.toArray,ty,pos,af,none⟩,⟨none,.defer {callee:=.value (.tmp t),args:= #[],argTypes:= #[]},ty2,aaf,af2,none⟩] false) y) QQ fr L:=λa w ha hs=>by
 have h1:∀d pos af g,(execOp a.eval ⟨d,.makeFunc (.func f) #[] bs.toArray,ty,pos,af,g⟩).run C.P w= .ok (.value (.func (.func f) #[] us.toArray)) w:=λd pos af g=>by
  simp[execOp,Instr.makeFunc,ha.AN he]
 have ha2:=ha.put hd (.func (.func f) #[] us.toArray);have h2:(a.put (some t) (.func (.func f) #[] us.toArray)).eval (.tmp t)= .func (.func f) #[] us.toArray:=ha2.tmp (x:=.tmp t) (by show look t ((t,Value.func (.func f) #[] us.toArray)::fr)=_;unfold look;simp);refine wp_seq (wp_region_lit (l:=[_,_]) (OP rfl λK hK=>?_));unfold Oper.wp;rw[h1];refine hK _ _ (OP rfl λK hK=>?_);unfold Oper.wp;have h3:(execOp (a.put (some t) (.func (.func f) #[] us.toArray)).eval ⟨none,.defer {callee:=.value (.tmp t),args:= #[],argTypes:= #[]},ty2,aaf,af2,none⟩).run C.P w= .ok (.defer (dfr f us)) w:=by
  simp[execOp,resolve,h2,Deferred.ofValue]
 rw[h3];refine hK _ _ (wpList_nil (k _ _ ?_ ?_ hs))
 ·show _::(a.put (some t) _).defers=_;rw[ha2.defers]
 ·have e0:({({a.put (some t) (.func (.func f) #[] us.toArray)with defers:=dfr f us::(a.put (some t) (.func (.func f) #[] us.toArray)).defers}:Act).put none undef with defers:=[]}:Act)=a.put (some t) (.func (.func f) #[] us.toArray):=by rw[<-ha2.defers];rfl
  rw[e0];exact ha2
def RD(P:Program)(B:Nat)(w0:World)(f:FuncId)(us:cQ)(fn:Func)(R:oV):Exit->Fr->aN->Prop
 | .ret,fr,L| .normal,fr,L=>∃L',HB P B w0 f us L (λv K=>K=L')/\zT P fn R .ret fr L'
 |_,_,_=>False
theorem aa8{us:cQ}(hN:fn.ntmps=N)(hc:aK P f)(h:yb ⟨P,N,B,w0⟩ (dfr f us) c (RD P B w0 f us fn R) fr L):∀a w,a.defers=[dfr f us]->pn N fr {a with defers:=[]}->SL B w0 L w->c.wp P (FD ⟨P,N,B,w0⟩ fn R) a w:=λa w hd ha hs=>by
 subst hN;obtain⟨gn,gc,g1,g2,g3⟩:=hc;have g2':¬gn.name= "runtime.NumGoroutine" :=by simpa using g2
 refine wC (h a w hd ha hs) λe a w ⟨fr,L,hd,ha,hs,hq⟩=>?_;cases e<;>first
  |exact hq.elim
  |(obtain⟨L',h1,h2⟩:=hq;show Leaves _ _ _ _ a.defers _ _;rw[hd];refine leaves_cons (f:=f) (args:=us.toArray) ao (by simp[invoke,callFunc,g1,g2',g3]) ((h1 .returning w hs).mono ?_);rintro e u' w' ⟨rfl,v,L2,rfl,rfl,jj⟩;obtain⟨v,L3,h3,h4,h5⟩:=h2 B w0 _ _ ha jj;exact⟨v,h3,v,L3,rfl,h4,h5⟩)
end
end
theorem apL(h:P:=by(first|(exact⟨λh=>absurd h (by omega),False.elim⟩)|omega|(simp;omega))):P:=h
theorem ag4(HT:cK B w0){x:fj}{k:Nat}(ho:q_ x)(hk:k<E x.bA)(hn:n=E x.bA)(hB:DG B w0 L g x (.slice Aa n ca)):
  bg B w0 114 [bq g,ah (k:Int)] (.own 4 1 Aa n ca X::L) (λv K=>∃A' c' X',v= .tuple #[.slice A' (E (g_ x k).1) c',ah (g_ x k).2]/\K= .own 62 4 A' (E (g_ x k).1) c' (cD (g_ x k).1):: .own 4 1 Aa n ca X'::L):=by
 obtain⟨A1,c1,A2,c2,A3,c3,A4,c4,A5,c5,A6,c6,LX,Af,cf,FB,M,hp,h2,h3,h4,h5,h6,h7,h8,h9,ig,oA⟩:=hB.open_;have Ra:E FB=E x.bA:=by rw[<-oA,eZ]
 have x8:k<20000:=by have:=ho.fr;have:=ho.nl;omega
 refine dQ.yk (h2.mono (.cons _ (.refl _)):aJ B w0 (.own 4 1 Aa n ca X::L) 1 (.slice A1 (E x.ns) c1) (E x.ns) (bN x.ns)) λhcn _=>?_;have hs:∀{X:cQ},(Bo g (.slice A1 (E x.ns) c1) (.slice A2 (E x.ss) c2) (ah x.c) (ah x.i) (.slice A3 (E x.times) c3) (.slice A4 (E x.levels) c4) (.slice A5 (E x.T) c5) (.slice A6 (E LX) c6) (.slice Af (E FB) cf) (.slice Aa n ca)::M).Sublist (Bo g (.slice A1 (E x.ns) c1) (.slice A2 (E x.ss) c2) (ah x.c) (ah x.i) (.slice A3 (E x.times) c3) (.slice A4 (E x.levels) c4) (.slice A5 (E x.T) c5) (.slice A6 (E LX) c6) (.slice Af (E FB) cf) (.slice Aa n ca):: .own 4 1 Aa n ca X::M):=λ{X}=>.cons_cons _ (.cons _ (.refl _));refine dQ.perm (L':=Bo g (.slice A1 (E x.ns) c1) (.slice A2 (E x.ss) c2) (ah x.c) (ah x.i) (.slice A3 (E x.times) c3) (.slice A4 (E x.levels) c4) (.slice A5 (E x.T) c5) (.slice A6 (E LX) c6) (.slice Af (E FB) cf) (.slice Aa n ca):: .own 4 1 Aa n ca X::M) ?_ ((hp.cons _).trans (.swap ..));refine fw func114 32 [0,1] ?_;refine bf 9 15 20 [0,1] (False) ?_ ?_
 ·refine bk 9 (λjZ=>?_) (λjZ=>?_)
  ·exact ax 14 (k:=(by exact dG apL))
  ·exact ax 7 (k:=(by exact dT apL))
 ·refine bZ 2 λkp=>?_;refine fc ?_;refine BT (aJ.own (.tail _ (.head _))) λ_ Y8=>?_;refine dw ?_;refine ab (az (i:=k) underlying186 ae rfl rfl rfl aa aA) rfl (dg ?_);refine ay rfl (MY HT ho hk oA hcn ((h2.perm hp).mono hs) ((h3.perm hp).mono hs) ((h4.perm hp).mono hs) ((h9.perm hp).mono hs) (λe he=>((ig e he).perm hp).mono hs)) λA29 c29=>dg ?_;exact ak (.c_ (List.Perm.cons _ (.trans (.swap ..) (hp.symm.cons _)))) (nI 1)
theorem VV{b:Bool}{lost:Nat}{v1 v2:Value}(hl:lost<=1000000):
  HB Tryz.prog B w0 113 [bq gk,bq gb] (.bI gk 4 [.bool b]:: .bI gb 106 [bq gd]:: .bI gd 108 [v1,v2,ah (lost:Int)]::F) (λv K=>K= .bI gk 4 [.bool b]:: .bI gb 106 [bq gd]:: .bI gd 108 [v1,v2,ah ((if b then lost else lost+1:Nat):Int)]::F):=by
 refine acV func113 11 rfl rfl rfl [(0,bq gk),(1,bq gb)] ⟨⟨rfl,rfl⟩,⟨rfl,rfl⟩,trivial⟩ ?_;refine fc ?_;refine ab (lf rfl) rfl (fB 2 (λh3=>?_) λh3=>?_)
 ·refine dM ?_;cases b
  ·rfl
  ·simp at h3
 ·refine fc ?_;cases b
  ·simp at h3
  ·rfl
theorem HB.perm{P:Program}{f:FuncId}{args:cQ}{R:oV}{L L':aN}(h:HB P B w0 f args L' R)(hp:L.Perm L'):HB P B w0 f args L R:=λu w hw=>h u w (hw.perm hp)
theorem amP(HT:cK B w0){x:fj}{k lost:Nat}{M:List aI}(ho:q_ x)(hk:k<E x.bA)(hn:n=E x.bA)(hB:DG B w0 L g x (.slice Aa n ca))(hM:E M<=1000000)(hl:lost<=1000000):
  bg B w0 60 [bq gd,ah (k:Int)] (.bI gd 108 [bq g,.slice Ag (E M) cg,ah (lost:Int)]:: .own 62 4 Ag (E M) cg (cD M):: .own 4 1 Aa n ca X::L) (λv K=>∃Ag' cg' X',v= .tuple #[]/\
   K= .bI gd 108 [bq g,.slice Ag' (E (M++if (g_ x k).2≠0 then [] else (g_ x k).1)) cg',ah ((if (g_ x k).2≠0 then lost+1 else lost:Nat):Int)]:: .own 62 4 Ag' (E (M++if (g_ x k).2≠0 then [] else (g_ x k).1)) cg' (cD (M++if (g_ x k).2≠0 then [] else (g_ x k).1)):: .own 4 1 Aa n ca X'::L):=by
 have hns:=ho.su;have hnk:=ho.fr;refine YU func60 28 rfl rfl rfl [(0,bq gd),(1,ah (k:Int))] ⟨⟨rfl,rfl⟩,⟨rfl,rfl⟩,trivial⟩ ?_;refine ot ?_;refine bM 1 λg2=>?_;refine aX ?_;refine kA ?_;refine ot ?_;refine bW 1 λg4=>?_;refine ew ?_;refine kA ?_;refine agQ rfl rfl (aa8 rfl (Z4 ae) ?_);refine iK ?_;refine gW ?_;refine dx ?_;refine dV rfl (.perm (ag4 HT ho hk hn (hB.mono (.cons _ (.cons _ (.cons _ (.cons _ (.refl _))))))) ((pu4 (gh (gh (gh (gh (.refl _)))))))) λA14 c14 X14=>dw ?_;refine dW ?_;refine iK ?_;refine iK ?_;refine gW ?_;refine fc ?_;refine dW ?_;refine qF rfl (λjq=>?_) (λjq=>?_)
 ·refine DD ?_;refine aaM ?_;refine⟨_,((VV aa).perm ((z_ (z_ (z_ (gh (gh (gh (.refl _))))))))),?_⟩;rw[av jq,av jq,gN];exact ak ((lU (X4 (vu (.s3 (.refl _)))))) (nI 1)
 ·have hro:=vS (g_ x k).1;have l_:=Es (b_ jq);have awC:=np (bc (l:=x.ns) (k:=k) aa 0);refine zM ?_;refine dW ?_;refine iK ?_;refine Gp (S:=.own 62 4 A14 (E (g_ x k).1) c14 (cD (g_ x k).1):: .own 4 1 Aa n ca X14:: .bI g4 4 [.bool false]:: .bI g2 106 [bq gd]::L) ae gI ?_;refine aF 0 4 ?_;refine dI 5 ?_;refine aC 4 (aX ?_);refine aC 6 (fh rfl (bB JE rfl aU rfl aA bY aa aa) λX9 c25=>?_);refine aF 7 2 ?_;refine aC 9 (aX ?_);refine di [4] ?_;refine dW ?_;refine gW ?_;refine ew ?_;refine⟨_,((VV aa).perm ((z_ (z_ (z_ (gh (gh (gh (.refl _))))))))),?_⟩;rw[aB jq,aB jq];refine ak ((lU (X4 (vu (.s3 (.refl _)))))) (aX ?_);exact⟨X9,c25,X14,rfl,by rw[bm,<-ph];rfl⟩
theorem aav(x:fj)(k:Nat):pZ x (k+1)=((pZ x k).1++(if (g_ x k).2≠0 then [] else (g_ x k).1),if (g_ x k).2≠0 then (pZ x k).2+1 else (pZ x k).2):=by
 rw[pZ];split
 ·rw[gN]
 ·rfl
theorem P9{x:fj}:∀k,k<=E x.ns->E (pZ x k).1<=(x.ns.take k).sum/\(pZ x k).2<=k
 |0,_=>⟨bD _,ga _⟩
 |k+1,h=>by
  obtain⟨i1,i2⟩:=P9 (x:=x) k aa;have hs:(x.ns.take (k+1)).sum=(x.ns.take k).sum+x.ns.getD k 0:=by rw[aP aa 0,pJ];simp
  rw[pZ];split
  ·simp only;omega
  ·rename_i he;have:=Es (b_ he);simp only[bm];omega
theorem aaw(HT:cK B w0){x:fj}(hb:gw B w0 F A c b)(ey:E b<=1000000)(hO:vp b=(o,x,0))(hV:∀M,aJ B w0 M 1 (.slice A (E b) c) (E b) (bv b)->bg B w0 56 [.slice A (E b) c] M (λr L=>r= .tuple #[ah 2,ah 0]/\L=M)):
  bg B w0 24 [.slice A (E b) c] F (λr K=>∃A' c',r= .tuple #[.slice A' (E (pZ x (E x.ns)).1) c',ah ((pZ x (E x.ns)).2:Int),ah 0]/\K= .own 62 4 A' (E (pZ x (E x.ns)).1) c' (cD (pZ x (E x.ns)).1)::F):=by
 have la:=QK ey (by rw[hO]);have Mw:=λM (h:gw B w0 M A c b)=>JP HT h ey (by rw[hO]);simp only[hO]at la Mw;refine ba func24 71 [0] 10 ?_;refine ai rfl (hV _ hb) (ag 14 (λqM=>?_) λqM=>?_)
 ·exfalso;exact qM rfl
 ·refine ag 20 (λqN=>?_) λqN=>?_
  ·exfalso;exact absurd qN aE
  ·refine aD 4 [0,39] 0 ?_;refine ag 1 (λQ_=>?_) λQ_=>?_
   ·refine ew ?_;refine bp aqR rfl (Mw _ hb) rfl ?_;rintro _ _ ⟨gB,N,nB,Aa,ca,XB,hnB,rfl,cR,Sy⟩;obtain rfl:=cR.symm;refine ag 16 (λxl=>?_) λxl=>?_
    ·exfalso;exact xl rfl
    ·refine dx ?_;refine ab (bw [(0,_)] [.pointer none,.slice none 0 0,ah 0] [0] [_,_,_] rfl rfl ae) rfl (fM λg52=>?_);refine dx ?_;refine aM 62 4 none ?_;have hnf:=la.fr;have ry:=la.nl;have hn3:=la.su;refine ew ?_;refine ay rfl (Ay la ⟨_,Sy.mono (.cons _ (.cons _ (.cons _ (sJ _ _))))⟩) λAk ck=>aD 2 [11,55,56] 2 ?_;refine aw (λzf zL zm=>∃(k:Nat) (Ag:bh) (cg:Nat) (X:cQ),(k<=E x.ns)/\E x.ns-k=zm/\Sub zf [(11,bq g52),(55,ah (E x.ns)),(56,ah (k:Int))]/\Wk zL (.bI g52 108 [bq gB,.slice Ag (E (pZ x k).1) cg,ah ((pZ x k).2:Int)]:: .own 62 4 Ag (E (pZ x k).1) cg (cD (pZ x k).1):: .own 4 1 Aa nB ca X:: .own 3 1 Ak (E x.ns) ck (bN x.ns)::(N++F))) _ ⟨0,none,0,XB,bD _,rfl,a_,.trans ((lU (gC (gC (dL (.refl _)))))) (bx rfl (au rfl rfl (.refl _)))⟩ ?_;rintro _ _ _ ⟨k,Ag,cg,X,hk,rfl,hs,hp⟩;refine aL hs hp (ag 6 (λWn=>?_) λWn=>?_)
     ·have lB:=P9 (x:=x) k aa;have hts:=iA x.ns k;refine bK 13 ?_;refine dV rfl (amP HT la aa hnB (Sy.mono (.cons _ (sJ _ _))) aa aa) λAg2 cg2 X2=>dg ?_;refine aj ⟨_,aa,k+1,Ag2,cg2,X2,aa,rfl,a_,.c_ (.of_eq (by rw[aav]))⟩
     ·obtain rfl:k=E x.ns:=by omega
      refine bK 21 ?_;exact ak (.skip (.cons (.s2 (ej N F)))) (bO 1)
   ·exfalso;exact Q_ rfl
theorem abJ(h:P:=by(rw[k9,Nat.mul_zero,k9])):P:=h
abbrev vx:=cA×br
def sR:List vx->List vx
 |[]=>[]
 |[_]=>[]
 |a::b::r=>((a.1.1+b.1.1,false),a.2++b.2)::sR r
def nO:List vx->List vx->List vx
 |[],ys=>ys
 |x::xs,[]=>x::xs
 |x::xs,y::ys=>if x.1.1<=y.1.1 then x::nO xs (y::ys) else y::nO (x::xs) ys
def oo(leaf:List vx):Nat->List vx
 |0=>leaf
 |r+1=>nO leaf (sR (oo leaf r))
theorem PJ:∀l:List vx,(sR l).map (·.1)=Dt (l.map (·.1))
 |[]=>rfl
 |[_]=>rfl
 |a::b::r=>by rw[sR,iN,PJ r];rfl
theorem Fa:∀xs ys:List vx,(nO xs ys).map (·.1)=ua (xs.map (·.1)) (ys.map (·.1))
 |[],ys=>by rw[nO,KU,ua]
 |x::xs,[]=>by rw[nO,KU,zp]
 |x::xs,y::ys=>by
  rw[nO,iN,iN,ua];split
  ·rw[iN,Fa xs (y::ys)];rfl
  ·rw[iN,Fa (x::xs) ys];rfl
theorem vd(leaf:List vx):∀r,(oo leaf r).map (·.1)=dY (leaf.map (·.1)) r
 |0=>rfl
 |r+1=>by rw[oo,Fa,PJ,vd leaf r,dY,rX]
def jv(row:List vx)(t:Nat):br:=(row.take t).flatMap (·.2)
theorem lY(x:vx)(r:List vx)(t:Nat):jv (x::r) (t+1)=x.2++jv r t:=by unfold jv;rw[nK,iX]
theorem k9(r:List vx):jv r 0=[]:=by unfold jv;rw[oC];rfl
theorem Yp(r:List cA):fY r 0=0:=by unfold fY;rw[oC];rfl
theorem Ni{xs:List vx}(h:∀x∈xs,x.1.2=true)(t:Nat)(ht:t<=E xs):fY (xs.map (·.1)) t=t:=by
 unfold fY;rw[I8.2,fZ,eZ,C2 ht];intro z hz;obtain⟨x,hx,rfl⟩:=qd.1 (ia hz);exact h x hx
theorem Yr{ys:List vx}(h:∀y∈ys,y.1.2=false)(t:Nat):fY (ys.map (·.1)) t=0:=by
 unfold fY;refine List.countP_eq_zero.2 λz hz=>?_;obtain⟨y,hy,rfl⟩:=qd.1 (ia hz);simp[h y hy]
theorem Bn:∀(xs ys:List vx),(∀x∈xs,x.1.2=true)->(∀y∈ys,y.1.2=false)->∀t,t<=E (nO xs ys)->
  ∃c d,fY ((nO xs ys).map (·.1)) t=c/\c+d=t/\c<=E xs/\d<=E ys/\(jv (nO xs ys) t).Perm (jv xs c++jv ys d)
 |[],ys,hx,hy,t,ht=>by
  rw[nO]at ht⊢;exact⟨0,t,Yr hy t,aa,bD _,ht,by rw[k9];exact .refl _⟩
 |x::xs,[],hx,hy,t,ht=>by
  rw[nO]at ht⊢;exact⟨t,0,Ni hx t ht,aa,ht,bD _,by rw[k9,gN]⟩
 |x::xs,y::ys,hx,hy,0,ht=>⟨0,0,Yp _,rfl,bD _,bD _,by rw[k9,k9,k9];exact .refl _⟩
 |x::xs,y::ys,hx,hy,t+1,ht=>by
  rw[nO]at ht⊢;split
  ·rename_i hc;rw[av hc,ei]at ht;obtain⟨c,d,h1,h2,h3,h4,h5⟩:=Bn xs (y::ys) (λz hz=>hx z yf) hy t aa;refine⟨c+1,d,?_,aa,bS,h4,?_⟩
   ·rw[iN,jY,h1,av (hx x ao)];omega
   ·rw[lY,lY,bT];exact h5.append_left _
  ·rename_i hc;rw[aB hc,ei]at ht;obtain⟨c,d,h1,h2,h3,h4,h5⟩:=Bn (x::xs) ys hx (λz hz=>hy z yf) t aa;refine⟨c,d+1,?_,aa,h3,bS,?_⟩
   ·rw[iN,jY,h1,aB (by rw[hy y ao];decide)];omega
   ·rw[lY,lY];refine(h5.append_left _).trans ?_;rw[<-bT,<-bT];exact(Jb).append_right _
theorem Jr:∀(l:List vx) (p:Nat),p<=E (sR l)->jv (sR l) p=jv l (2*p)/\2*p<=E l
 |[],p,h=>by
  obtain rfl:p=0:=by simpa[sR]using h
  exact⟨abJ,ao⟩
 |[a],p,h=>by
  obtain rfl:p=0:=by simpa[sR]using h
  exact⟨abJ,ao⟩
 |a::b::r,0,h=>⟨abJ,ao⟩
 |a::b::r,p+1,h=>by
  rw[sR,ei]at h;obtain⟨h1,h2⟩:=Jr r p aa;rw[sR,lY,h1,show 2*(p+1)=2*p+1+1 by omega,lY,lY,bT];exact⟨rfl,U9⟩
theorem Jq:∀{l:List vx} {y:vx},y∈sR l->y.1.2=false
 |[],_,h=>by cases h
 |[_],_,h=>by cases h
 |a::b::r,y,h=>by
  rw[sR]at h;rcases fq.1 h with e|e
  ·subst e;rfl
  ·exact Jq e
theorem Jz{leaf:List vx}(hl:∀x∈leaf,x.1.2=true):∀(r t:Nat),t<=E (oo leaf r)->(jv (oo leaf r) t).Perm ((zr (leaf.map (·.1)) (r+1) t).flatMap λn=>jv leaf n)
 |0,t,h=>by
  have h':t<=E leaf:=h;have e:fY (dY (leaf.map (·.1)) 0) t=t:=Ni hl t h';rw[zr,e,zr,iX,List.flatMap_nil,gN];exact .refl _
 |r+1,t,h=>by
  rw[oo]at h;obtain⟨c,d,h1,h2,h3,h4,h5⟩:=Bn leaf (sR (oo leaf r)) hl (λy hy=>Jq hy) t h;have hm:(nO leaf (sR (oo leaf r))).map (·.1)=dY (leaf.map (·.1)) (r+1):=vd leaf (r+1);rw[hm]at h1;obtain⟨h6,h7⟩:=Jr _ d h4;have ih:=Jz hl r (2*d) h7;rw[zr,h1,show t-c=d by omega,iX];rw[h6]at h5;exact h5.trans (ih.append_left _)
theorem D9{syms:br}(hd:syms.Nodup){j:Nat}(hj:j<E syms):∀n:Nat,(syms.take n).count (syms.getD j 0)=if j<n then 1 else 0
 |0=>by simp
 |n+1=>by
  have ih:=D9 hd hj n;by_cases hn:n<E syms
  ·rw[aP hn 0,List.count_append,ih,List.count_singleton];by_cases e:n=j
   ·subst e;simp
   ·have tO:¬syms.getD n 0=syms.getD j 0:=λk=>e (Jj hd n j hn hj (by
     rw[bz,bz,fx hn,fx hj]at k;exact k))
    rw[beq_false_of_ne tO,aB (show¬false=true by decide),rM];by_cases h:j<n
    ·rw[av h,av aa]
    ·rw[aB h,aB aa]
  ·rw[gv aa]at ih⊢;rw[ih,av aa,av aa]
theorem D8{syms:br}(hd:syms.Nodup){j:Nat}(hj:j<E syms):∀ns:br,(ns.flatMap λn=>syms.take n).count (syms.getD j 0)=Mp ns j
 |[]=>rfl
 |n::ns=>by rw[iX,List.count_append,D9 hd hj,D8 hd hj ns,yx];omega
def zi(o:Nat->Nat)(N:Nat):List vx:=(cE o N).map λs=>((o s,true),[s])
theorem Jc(o:Nat->Nat)(N:Nat):(zi o N).map (·.1)=mJ o N:=by unfold zi mJ;rw[CY];rfl
theorem Tp(o:Nat->Nat)(N n:Nat):jv (zi o N) n=(cE o N).take n:=by
 unfold jv zi;rw[<-mY,OZ];induction (cE o N).take n with
 |nil=>rfl
 |cons x r ih=>rw[iX,ih];rfl
theorem Tq{o:Nat->Nat}(hN:N<=300)(h2:¬E (cE o N)<2)(hs:s<N):
  (iM o N).getD s 0=(jv (oo (zi o N) 14) (2*E (cE o N)-2)).count s:=by
 have qb:=sZ (o:=o) hN;have l_:∀x∈zi o N,x.1.2=true:=λx hx=>by
  obtain⟨y,_,rfl⟩:=qd.1 hx;rfl
 have hlen:2*E (cE o N)-2<=E (oo (zi o N) 14):=by
  have:=qb.1;rw[<-Jc,<-vd,eZ]at this;exact this
 have hp:=Jz l_ 14 _ hlen;rw[Jc]at hp;rw[hp.count_eq];have hle:=Lf pO (uN o N) _ _ _ qb;obtain⟨h3,h4⟩:=AR (zH o N) (zr (mJ o N) 15 (2*E (cE o N)-2)) (List.replicate N 0) (λs hs=>by rw[wT];exact(iT.1 hs).1) hle;have hz:∀k,(List.replicate N (0:Nat)).getD k 0=0:=λk=>by
  rw[bz,Cp];split<;>rfl
 simp only[Tp];unfold iM;rw[aB h2];by_cases hm:s∈cE o N
 ·obtain⟨j,hj,rfl⟩:=mF hm;have e:(cE o N)[j]=(cE o N).getD j 0:=by rw[bz,fx hj];rfl
  rw[e,h3 j hj,hz,D8 (zH o N) hj,mH]
 ·rw[h4 s hm,hz];refine(List.count_eq_zero_of_not_mem λh=>hm ?_).symm;obtain⟨n,_,hn⟩:=OX.1 h;exact ia hn
abbrev sh:=vx×bh×Nat
abbrev nR:sh:=(((0,false),[]),none,0)
abbrev siS(x:sh):Value:=.slice x.2.1 (E x.1.2) x.2.2
def siV(x:sh):cQ:=[.int .u64 (x.1.1.1:Int),siS x]
def iO(L:List sh):cQ:=L.flatMap siV
theorem vh(L M:List sh):iO (L++M)=iO L++iO M:=by simp[iO]
theorem zF:∀(L:List sh) (k:Nat),(iO L).take (k*2)=iO (L.take k)/\(iO L).drop (k*2)=iO (L.drop k)
 |L,0=>by simp[iO]
 |[],k+1=>by simp[iO]
 |x::r,k+1=>by
  obtain⟨h1,h2⟩:=zF r k;have e:iO (x::r)=siV x++iO r:=by simp[iO]
  rw[e,jR,tx (k*2) 2];constructor
  ·rw[I4,gv (by simp[siV]),show 2+k*2-E (siV x)=k*2 by simp[siV],h1];simp[iO]
  ·rw[List.drop_append,kr (by simp[siV]),show 2+k*2-E (siV x)=k*2 by simp[siV],h2];simp
theorem Qd(L:List sh):∀u∈iO L,u.oneCell'=true:=λu hu=>by
 obtain⟨t,_,ht⟩:=OX.1 hu;simp only[siV,fq,kS,nL]at ht;rcases ht with rfl|rfl<;>rfl
theorem LF{L:List sh}{k:Nat}(h:k<E L):((iO L).drop (k*2)).take 2=[.int .u64 ((L.getD k nR).1.1.1:Int),siS (L.getD k nR)]:=by
 rw[(zF L k).2,cy h nR];simp[iO,siV]
theorem Qe{L:List sh}{k:Nat}(h:k<E L):(iO L)[k*2+0]? =some (.int .u64 ((L.getD k nR).1.1.1:Int)):=kx (LF h) 0 _ rfl
theorem XC{L:List sh}{k:Nat}(h:k<E L):(iO L)[k*2+1]? =some (siS (L.getD k nR)):=kx (LF h) 1 _ rfl
def X_(B:Nat)(w0:World)(K:aN)(R:List sh):Prop:=∀x∈R,aJ B w0 K 1 (siS x) (E x.1.2) (bN x.1.2)
theorem X_.mono{B:Nat}{w0:World}{K K':aN}{R:List sh}(h:X_ B w0 K R)(hs:List.Sublist K K'):X_ B w0 K' R:=λx hx=>(h x hx).mono hs
theorem X_.push{K:aN}{R:List sh}{x:sh}(h:X_ B w0 K R):X_ B w0 (.own 3 1 x.2.1 (E x.1.2) x.2.2 (bN x.1.2)::K) (R++[x]):=λy hy=>by
 rcases dO.1 hy with e|e
 ·exact(h y e).cons
 ·rw[kT.1 e];exact aJ.own (.head _)
def ZW(a b:List sh)(i k:Nat):List vx:=nO ((a.drop i).map (·.1)) ((b.drop k).map (·.1))
theorem Pp(xs:List vx):nO xs []=xs:=by cases xs<;>rw[nO]
theorem aer{a b:List sh}{k:Nat}(hi:i<E a)(h:E b<=k\/(a.getD i nR).1.1.1<=(b.getD k nR).1.1.1):ZW a b i k=(a.getD i nR).1::ZW a b (i+1) k:=by
 unfold ZW;rw[cy hi nR,iN];by_cases hk:k<E b
 ·rw[cy hk nR,iN,nO,av (h.resolve_left aa)]
 ·rw[Cq (show E b<=k by omega),KU,Pp,Pp]
theorem aes{a b:List sh}{k:Nat}(hk:k<E b)(h:¬(i<E a/\(a.getD i nR).1.1.1<=(b.getD k nR).1.1.1)):ZW a b i k=(b.getD k nR).1::ZW a b i (k+1):=by
 unfold ZW;rw[cy hk nR,iN];by_cases hi:i<E a
 ·rw[cy hi nR,iN,nO,aB λq=>h ⟨hi,q⟩]
 ·rw[Cq (show E a<=i by omega),KU,nO,nO]
theorem ajb{a b:List sh}{k:Nat}(hi:E a<=i)(hk:E b<=k):ZW a b i k=[]:=by
 unfold ZW;rw[Cq hi,Cq hk,KU,nO]
theorem pb{α:Type}{l:List α}{k:Nat}(h:k<E l)(d:α):l.getD k d∈l:=by
 rw[bz,fx h];exact uH h
def prI(a:List sh)(i:Nat):List vx:=sR ((a.drop i).map (·.1))
theorem ae7{a:List sh}(h:i+1<E a):prI a i=(((a.getD i nR).1.1.1+(a.getD (i+1) nR).1.1.1,false),(a.getD i nR).1.2++(a.getD (i+1) nR).1.2)::prI a (i+2):=by
 unfold prI;rw[cy (show i<E a by omega) nR,cy h nR,iN,iN,sR]
theorem ajz{a:List sh}(h:¬i+1<E a):prI a i=[]:=by
 unfold prI
 match e:a.drop i with
 |[]=>rfl
 |[_]=>rfl
 |x::y::r=>
  have:=eG List.length e;rw[jM]at this;simp only[ei]at this;omega
theorem Ly{leaf:List vx}{W:Nat}{p:Nat->Prop}(h:∀x∈leaf,x.1.1<=W/\E x.2<=1/\∀s∈x.2,p s):∀r,∀x∈oo leaf r,x.1.1<=W*2^r/\E x.2<=2^r/\∀s∈x.2,p s
 |0,x,hx=>by have:=h x hx;rw[Nat.pow_zero,cH];exact this
 |r+1,x,hx=>by
  have hm:∀(xs ys:List vx) (z:vx),z∈nO xs ys->z∈xs\/z∈ys:=by
   intro xs;induction xs with
   |nil=>intro ys z hz;rw[nO]at hz;exact .inr hz
   |cons x xs ih=>
    intro ys;induction ys with
    |nil=>intro z hz;rw[nO]at hz;exact .inl hz
    |cons y ys ih2=>
     intro z hz;rw[nO]at hz;split at hz
     ·rcases fq.1 hz with e|e
      ·exact .inl (by simp[e])
      ·exact(ih _ _ e).imp (lj _) id
     ·rcases fq.1 hz with e|e
      ·exact .inr (by simp[e])
      ·exact(ih2 _ e).imp id (lj _)
  have hp:∀(l:List vx),(∀z∈l,z.1.1<=W*2^r/\E z.2<=2^r/\∀s∈z.2,p s)->∀z∈sR l,z.1.1<=W*2^r+W*2^r/\E z.2<=2^r+2^r/\∀s∈z.2,p s:=by
   intro l;induction l using sR.induct with
   |case1=>intro _ z hz;cases hz
   |case2=>intro _ z hz;cases hz
   |case3 a b l ih=>
    intro hl z hz;rw[sR]at hz;rcases fq.1 hz with e|e
    ·have h1:=hl a ao;have h2:=hl b ao;subst e;exact⟨Nat.add_le_add h1.1 h2.1,by rw[bm];exact Nat.add_le_add h1.2.1 h2.2.1,λs hs=>(dO.1 hs).elim (h1.2.2 s) (h2.2.2 s)⟩
    ·exact ih (λq hq=>hl q (by simp[hq])) z e
  rw[oo]at hx;have h2:W*2^(r+1)=W*2^r+W*2^r:=by rw[ki,<-rN];omega
  have h3:(2:Nat)^(r+1)=2^r+2^r:=by rw[ki];omega
  rw[h2,h3];rcases hm _ _ _ hx with e|e
  ·have h4:=h x e;have h5:1<=2^r:=OY;have h6:W*1<=W*2^r:=Cz W h5;exact⟨aa,aa,h4.2.2⟩
  ·exact hp _ (Ly h r) x e
theorem aaH{o:Nat->Nat}{t:Nat}(hS:S=cE o N)(hN:0<o N)(ht:t<=E S)(h1:∀x∈S.drop t,o N<o x)(h2:t=0\/o (S.getD (t-1) 0)<=o N):cE o (N+1)=S.take t++([N]++S.drop t):=by
 have sn:sr o S:=hS▸F7 o N;have gU:∀x∈S,x<N/\0<o x:=λx hx=>iT.1 (hS▸hx);have Cn:sr o (S.take t++S.drop t):=by rw[kH];exact sn
 obtain⟨p1,p2,p3⟩:=rI.1 Cn;refine sr.ext (F7 _ _) (rI.2 ⟨p1,kG.2 ⟨λy hy=>.inl (h1 y hy),p2⟩,λx hx y hy=>?_⟩) λx=>?_
 ·rcases fq.1 hy with e|e
  ·rw[e];have hxo:o x<=o N:=by
    rcases h2 with rfl|h2
    ·rw[oC]at hx;cases hx
    ·cases t with
     |zero=>rw[oC]at hx;cases hx
     |succ t=>
      rw[y7]at h2;rw[aP aa 0]at hx p1;rcases dO.1 hx with q|q
      ·have:=(rI.1 p1).2.2 x q (S.getD t 0) ao;unfold tE at this;omega
      ·rw[kT.1 q];exact h2
   have:=(gU x (ia hx)).1;unfold tE;omega
  ·exact p3 x hx y e
 ·rw[iT];constructor
  ·rintro⟨q1,q2⟩;by_cases e:x=N
   ·subst e;simp
   ·have hx:x∈S:=hS▸iT.2 ⟨aa,q2⟩;rw[<-kH t S]at hx;rcases dO.1 hx with q|q
    ·exact ku _ q
    ·exact mG _ (mG _ q)
  ·intro hx;rcases dO.1 hx with q|q
   ·have:=gU x (ia q);exact⟨aa,this.2⟩
   ·rcases dO.1 q with q|q
    ·rw[kT.1 q];exact⟨aa,hN⟩
    ·have:=gU x (oG q);exact⟨aa,this.2⟩
theorem Ui{o:Nat->Nat}(h:o N=0):cE o (N+1)=cE o N:=by
 unfold cE;rw[Gm,aB aa,gN]
def wY(o:Nat->Nat)(S:br):List vx:=S.map λs=>((o s,true),[s])
theorem aiY{o:Nat->Nat}{R:List sh}{t:Nat}(h:R.map (·.1)=wY o S)(v:bh×Nat):(R.take t++([((((o N,true),[N]),v):sh)]++R.drop t)).map (·.1)=wY o (S.take t++([N]++S.drop t)):=by
 unfold wY at*;rw[iF,iF,iF,iF,mY,uK,h,mY,uK];rfl
theorem K6{o:Nat->Nat}{R:List sh}{k:Nat}(h:R.map (·.1)=wY o S)(hk:k<E S):(R.getD k nR).1=((o (S.getD k 0),true),[S.getD k 0]):=by
 have hl:E R=E S:=by have:=eG List.length h;simpa[wY]using this
 have e:(R.map (·.1))[k]? =(wY o S)[k]? :=by rw[h]
 unfold wY at e;rw[ib,ib,fx (by omega:k<E R),fx hk]at e;simp only[qp,CZ]at e;rw[bz,fx (by omega:k<E R),bz,fx hk];exact e
def sb(N:Nat)(l:br):br:=(List.range N).map λs=>l.count s
theorem vZ(N:Nat)(l:br):E (sb N l)=N:=by simp[sb]
theorem BN(l:br)(h:s<N):(sb N l).getD s 0=l.count s:=by
 unfold sb;rw[bz,ib,uI h];rfl
theorem Un(N:Nat):sb N []=List.replicate N 0:=by
 unfold sb;rw[List.eq_replicate_iff];exact⟨ao,λx hx=>by obtain⟨_,_,rfl⟩:=qd.1 hx;rfl⟩
theorem Um(l:br)(h:s<N):(sb N l).set s (l.count s+1)=sb N (l++[s]):=by
 refine List.ext_getElem? λk=>?_;unfold sb;by_cases hk:k<N
 ·by_cases e:s=k
  ·subst e;rw[List.getElem?_set_self ml,ib,uI h,qp,List.count_append,List.count_singleton_self]
  ·rw[List.getElem?_set_ne e,ib,ib,uI hk,qp,qp,List.count_append,List.count_singleton,beq_false_of_ne (a:=s) (b:=k) e];rfl
 ·rw[tS (by simpa using hk),tS (by simpa using hk)]
theorem Tr{o:Nat->Nat}(hN:N<=300)(h2:¬E (cE o N)<2):iM o N=sb N (jv (oo (zi o N) 14) (2*E (cE o N)-2)):=by
 refine List.ext_getElem? λk=>?_;by_cases hk:k<N
 ·have h:=Tq hN h2 hk;rw[<-BN _ hk]at h;rw[fx (by rw[rR];exact hk),fx (by rw[vZ];exact hk)];rw[bz,fx (by rw[rR];exact hk),bz,fx (by rw[vZ];exact hk)]at h;exact eG some h
 ·rw[tS (by rw[rR];omega),tS (by rw[vZ];omega)]
theorem af3{row:List vx}{a:Nat}(h:a<=m):(jv row a).Sublist (jv row m):=by
 have e:row.take m=row.take a++(row.take m).drop a:=by
  have:=kH a (row.take m);rw[List.take_take,C2 h]at this;exact this.symm
 unfold jv;rw[e,tB];exact sJ _ _
theorem Uj{row:List vx}(h:i<E row)(d:vx):jv row (i+1)=jv row i++(row.getD i d).2:=by
 unfold jv;rw[aP h d,tB,iX,List.flatMap_nil,gN]
def atn(a b:List sh)(F:aN)(r:Value)(L:aN):Prop:=∃(A':bh) (c':Nat) (R:List sh),r= .slice A' (E R) c'/\R.map (·.1)=ZW a b 0 0/\(∀x∈R,x∈a\/x∈b)/\L= .own 283 2 A' (E R) c' (iO R)::F
theorem ag8{a b:List sh}(h1:aJ B w0 F 2 (.slice A1 (E a) c1) (E a) (iO a))(h2:aJ B w0 F 2 (.slice A2 (E b) c2) (E b) (iO b))(q9:E a<=1000)(oB:E b<=1000):
  bg B w0 199 [.slice A1 (E a) c1,.slice A2 (E b) c2] F (atn a b F):=by
 refine ba func199 60 [0,1] 6 ?_;refine aM 283 2 none (dM ?_);refine aw (λzf zL zm=>∃(i k:Nat) (acc:List sh) (A5:bh) (c5:Nat),(i<=E a/\k<=E b/\acc.map (·.1)++ZW a b i k=ZW a b 0 0/\E acc=i+k/\(∀x∈acc,x∈a\/x∈b))/\E a-i+(E b-k)=zm/\Sub zf [(0,.slice A1 (E a) c1),(1,.slice A2 (E b) c2),(5,.slice A5 (E acc) c5),(6,ah i),(7,ah k)]/\Wk zL (.own 283 2 A5 (E acc) c5 (iO acc)::F)) _ ⟨0,0,[],none,0,⟨bD _,bD _,rfl,rfl,λx hx=>absurd hx kS⟩,rfl,a_,.refl _⟩ ?_;rintro _ _ _ ⟨i,k,acc,A5,c5,⟨hi,hk,jL,CU,mD⟩,rfl,hs,hp⟩;refine aL hs hp (bf 3 10 17 [0,1,5,6,7] (i<E a\/k<E b) ?_ ?_)
 ·refine bk 5 (λjZ=>?_) (λjZ=>?_)
  ·exact ax 8 (k:=ams)
  ·exact ax 4 (k:=amq)
 ·refine ag 2 (λgH=>?_) λgH=>?_
  ·have qc:∀x:sh,E (acc++[x])=E acc+1:=λx=>by simp
   refine dx ?_;refine sE 23 40 [0,1,5,6,7] (E b<=k\/(i<E a/\(a.getD i nR).1.1.1<=(b.getD k nR).1.1.1)) ?_ ?_
   ·refine dx ?_;refine wi rfl rfl rfl (λrq=>?_) (λrq=>?_)
    ·refine dA ?_;refine jy rfl rfl rfl (λkq=>?_) (λkq=>?_)
     ·refine dw ?_;refine bJ (aV underlying283 rfl ae rfl aA aa rfl) rfl (aX ?_);refine bJ (bH ae rfl aA aa (Qe aa)) rfl (dg ?_);refine bJ (aV underlying283 rfl ae rfl aA aa rfl) rfl (aX ?_);refine bJ (bH ae rfl aA aa (Qe aa)) rfl (dx ?_);exact ke ams
     ·refine bK 13 ?_;exact ke (by exact dS (by first|exact .inl (by omega)|omega))
    ·refine bK 17 ?_;exact ke amq
   ·refine ag 2 (λSw=>?_) λSw=>?_
    ·have hia:i<E a:=by omega
     have rv:=aer (a:=a) (b:=b) (i:=i) (k:=k) hia (Sw.imp id λq=>q.2);rw[rv]at jL;have hx:=qc (a.getD i nR);refine dw ?_;refine ab (bU 2 ae rfl aA aa [.int .u64 ((a.getD i nR).1.1.1:Int),siS (a.getD i nR)] (kx (LF aa)) rfl) rfl ?_;refine jX BL rfl rfl rfl aa bY rfl rfl rfl (λ_=>rfl) aU aa aa ?_;intro _ Df Dj;refine dA ?_;refine aj ⟨_,aa,i+1,k,acc++[a.getD i nR],Df,Dj,⟨aa,aa,by rw[<-jL,iF,bT];rfl,aa,λx hx=>(dO.1 hx).elim (mD x) λq=>.inl (kT.1 q▸bc hia nR)⟩,rfl,a_,au aa (by rw[vh];rfl) (.refl _)⟩
    ·have hkb:k<E b:=by omega
     have rv:=aes (a:=a) (b:=b) (i:=i) (k:=k) hkb (λq=>Sw (.inr q));rw[rv]at jL;have hx:=qc (b.getD k nR);refine dw ?_;refine ab (bU 2 ae rfl aA aa [.int .u64 ((b.getD k nR).1.1.1:Int),siS (b.getD k nR)] (kx (LF aa)) rfl) rfl ?_;refine jX BL rfl rfl rfl aa bY rfl rfl rfl (λ_=>rfl) aU aa aa ?_;intro _ A56 c56;refine dA ?_;refine aj ⟨_,aa,i,k+1,acc++[b.getD k nR],A56,c56,⟨aa,aa,by rw[<-jL,iF,bT];rfl,aa,λx hx=>(dO.1 hx).elim (mD x) λq=>.inr (kT.1 q▸bc hkb nR)⟩,rfl,a_,au aa (by rw[vh];rfl) (.refl _)⟩
  ·rw[ajb aa aa,gN]at jL;refine bK 13 ?_;exact⟨A5,c5,acc,rfl,jL,mD,rfl⟩
section
variable{gm:Nat}
theorem aho(h:P:=by(exact dS (by first|exact λh=>absurd (hu.2 h.1) (by omega)|exact λh=>absurd h.2 (by omega)|exact⟨λh=>⟨hu.1 (by omega),by omega,by omega,by omega,h⟩,λh=>h.2.2.2.2⟩))):P:=h
theorem qD{k:Nat}(ht:t=vm l k)(hk:k<E l)(hj:j<3):(f_ l)[k*3+j]? =(bG.cells t)[j]? :=by
 rw[f_,qm (size:=3) (λ_=>rfl) l k j hj,ht,vm,bz,fx hk];rfl
theorem UO(t:bG):bg B w0 106 [.agg #[.int .u8 (t.1.toNat:Int),ah t.2.1,ah t.2.2]] F (λr L=>r= .bool (decide (dX t))/\L=F):=by
 have hu:((t.1.toNat:Nat):Int)=0↔t.1=0:=⟨λh=>oF.1 (by show t.1.toNat=0;omega),λh=>by rw[h];rfl⟩
 refine fw func106 32 [0] ?_;refine bM 2 λg1=>?_;refine ag 11 (λh5=>?_) λh5=>?_
 ·refine dh ?_;refine ak (.skip (.refl _)) (aX ?_);exact⟨eG Value.bool (xz.2 (by unfold dX;rw[av h5])),rfl⟩
 ·refine bf 4 23 31 [] (t.1=0/\3<=t.2.1/\t.2.1<=257/\1<=t.2.2/\t.2.2<=4095) ?_ ?_
  ·refine bC 4 (λjZ=>?_) λjZ=>?_
   ·refine bC 7 (λgH=>?_) λgH=>?_
    ·refine bC 7 (λrq=>?_) λrq=>?_
     ·refine bC 7 (λkq=>?_) λkq=>?_
      ·exact ax 6 (k:=(by exact dG (by first|exact λh=>absurd (hu.2 h.1) (by omega)|exact λh=>absurd h.2 (by omega)|exact⟨λh=>⟨hu.1 (by omega),by omega,by omega,by omega,h⟩,λh=>h.2.2.2.2⟩)))
      ·exact ax 3 (k:=aho)
     ·exact ax 8 (k:=aho)
    ·exact ax 13 (k:=aho)
   ·exact ax 18 (k:=aho)
  ·refine fb ?_;refine ak (.skip (.refl _)) (aX ?_);exact⟨eG Value.bool (xz.2 (by unfold dX;rw[aB h5])),rfl⟩
theorem akK(hb:aJ B w0 F 3 (.slice A (E l) c) (E l) (f_ l))(hl:E l<=1000000)(zZ:-9223372036854775808<=most)(oh:most<=1000000)(la:zJ l):
  bg B w0 55 [.slice A (E l) c,ah most] F
   (λr L=>∃A' c',r= .tuple #[.slice A' (E (gP l most).1) c',ah (gP l most).2]/\L= .own 5 1 A' (E (gP l most).1) c' (bv (gP l most).1)::F):=by
 refine fw func55 85 [0,1] ?_;refine ag 13 (λjZ=>?_) λjZ=>?_
 ·have e:gP l most=([],13):=av aa;rw[e];refine cY ?_;exact aH 5 1 none (bO 1)
 ·have kh:gP l most=gO most [] l:=aB aa;refine dA ?_;refine aM 5 1 none (dx ?_);refine aw (λzf zL zm=>∃(k:Nat) (out:aq) (A6:bh) (c6:Nat),(k<=E l/\gO most out (l.drop k)=gP l most/\(E out:Int)<=most)/\E l-k=zm/\Sub zf [(0,.slice A (E l) c),(1,ah most),(6,.slice A6 (E out) c6),(7,ah (k:Int))]/\Wk zL (.own 5 1 A6 (E out) c6 (bv out)::F)) _ ⟨0,[],none,0,⟨bD _,kh.symm,bS⟩,rfl,a_,.refl _⟩ ?_;rintro _ _ _ ⟨k,out,A6,c6,⟨hk,qo,G9⟩,rfl,hs,hp⟩;refine aL hs hp (ag 9 (λj0=>?_) λj0=>?_)
  ·obtain⟨t,ht⟩:=cM (vm l k);have hd:l.drop k=t::l.drop (k+1):=by rw[ht];exact cy aa _
   have OA:=sd (l:=l) (k:=k) aa;rw[<-ht]at OA;rw[hd]at qo;obtain⟨⟨ho1,ho2⟩,ho3,ho4⟩:=la t (by rw[ht];exact bc aa _);refine dh ?_;refine ab (bU 3 ae rfl aA aa (bG.cells t) (kx OA) rfl) rfl ?_;refine ai rfl (UO t) (ag 3 (λkJ=>?_) λkJ=>?_)
   ·rw[BA most kJ]at qo;rw[<-qo];refine bK 13 ?_;exact aH 5 1 none (ak (L':=.own 5 1 none 0 0 []::F) ((dL (.skip (.refl _)))) (bO 1))
   ·have eu:dX t:=gE.1 kJ;refine cY ?_;refine ab (aV underlying170 rfl ae rfl aA aa rfl) rfl ?_;refine ab (bH ae rfl aA aa ((qD ht aa aE).trans rfl)) rfl ?_;refine aD 3 [0,1,6,7,32] 0 ?_;refine ag 1 (λvJ=>?_) λvJ=>?_
    ·rw[BB most eu vJ]at qo;rw[<-qo];refine bK 13 ?_;exact aH 5 1 none (ak (L':=.own 5 1 none 0 0 []::F) ((dL (.skip (.refl _)))) (bO 1))
    ·have hmr:t.2.1=0/\t.2.2=0\/(¬t.2.1=0/\3<=t.2.1/\t.2.1<=257/\1<=t.2.2/\t.2.2<=4095):=by
      have:=eu;unfold dX at this;by_cases h0:t.2.1=0
      ·rw[av h0]at this;exact .inl ⟨h0,this⟩
      ·rw[aB h0]at this;exact .inr ⟨h0,this.2.1,this.2.2.1,this.2.2.2.1,this.2.2.2.2⟩
     refine dg ?_;refine ab (aV underlying170 rfl ae rfl aA aa rfl) rfl ?_;refine ab (bH ae rfl aA aa ((qD ht aa aE).trans rfl)) rfl (fc ?_);refine dq (λzf zL=>∃(u:Int),(u=max 1 t.2.1)/\Sub zf [(0,.slice A (E l) c),(1,ah most),(6,.slice A6 (E out) c6),(7,ah (k:Int)),(8,ah u)]/\Wk zL (.own 5 1 A6 (E out) c6 (bv out)::F)) ?_ ?_
     ·refine ag 6 (λQ_=>?_) λQ_=>?_
      ·refine fc ?_;exact bo ⟨1,aa,a_,.refl _⟩
      ·refine aX ?_;exact bo ⟨t.2.1,aa,a_,.refl _⟩
     ·rintro _ _ ⟨u,hu,hs,hp⟩;refine aL hs hp (ag 11 (λh45=>?_) λh45=>?_)
      ·rw[xI most eu vJ aa]at qo;rw[<-qo];refine bK 13 ?_;exact aH 5 1 none (ak (L':=.own 5 1 none 0 0 []::F) ((dL (.skip (.refl _)))) (bO 1))
      ·have hnm:¬most-E out<max 1 t.2.1:=by omega
       refine ew ?_;refine dq (λzf zL=>∃(o2:aq) (A7:bh) (c7:Nat),(gO most (jo t.2.2.toNat t.2.1.toNat o2) (l.drop (k+1))=gP l most/\((E o2:Int)+t.2.1<=most)/\(t.2.1=0\/o2=out))/\Sub zf [(0,.slice A (E l) c),(1,ah most),(6,.slice A7 (E o2) c7),(7,ah (k:Int))]/\Wk zL (.own 5 1 A7 (E o2) c7 (bv o2)::F)) ?_ ?_
       ·refine dx ?_;refine ab (aV underlying170 rfl ae rfl aA aa rfl) rfl ?_;refine ab (bH ae rfl aA aa ((qD ht aa aE).trans rfl)) rfl ?_;refine ag 3 (λOf=>?_) λOf=>?_
        ·have qc:E (out++[t.1])=E out+1:=by simp
         refine dx ?_;refine ab (aV underlying170 rfl ae rfl aA aa rfl) rfl ?_;refine ab (bH ae rfl aA aa ((qD ht aa aE).trans rfl)) rfl ?_;refine cC bP rfl rfl rfl rfl rfl (λ_=>rfl) aU aa aa ?_;intro _ A59 c59;refine aD 1 [0,1,6,7] 0 ?_;exact bo ⟨out++[t.1],A59,c59,⟨by rw[BD most eu vJ hnm Of]at qo;rw[Of];exact qo,bS,.inl Of⟩,a_,au ao wJ (.refl _)⟩
        ·refine aX ?_;exact bo ⟨out,A6,c6,⟨by rw[xH most eu vJ hnm Of]at qo;exact qo,aa,.inr rfl⟩,a_,.refl _⟩
       ·rintro _ _ ⟨o2,A7,c7,⟨Zq,awG,auZ⟩,hs,hp⟩;refine aL hs hp (dw ?_);refine aw (λzf zL zm=>∃(m:Nat) (A8:bh) (c8:Nat),((m:Int)<=t.2.1)/\t.2.1.toNat-m=zm/\Sub zf [(0,.slice A (E l) c),(1,ah most),(6,.slice A8 (E (jo t.2.2.toNat m o2)) c8),(7,ah (k:Int)),(9,ah (m:Int))]/\Wk zL (.own 5 1 A8 (E (jo t.2.2.toNat m o2)) c8 (bv (jo t.2.2.toNat m o2))::F)) _ ⟨0,A7,c7,aa,rfl,a_,.refl _⟩ ?_;rintro _ _ _ ⟨m,A8,c8,hm,rfl,hs,hp⟩;refine aL hs hp (dg ?_);refine ab (aV underlying170 rfl ae rfl aA aa rfl) rfl ?_;refine ab (bH ae rfl aA aa ((qD ht aa aE).trans rfl)) rfl ?_;refine ag 3 (λh66=>?_) λh66=>?_
        ·have yO:=ld t.2.2.toNat m o2;have q8:=xg t.2.2.toNat m o2;have hcm:=ld t.2.2.toNat (m+1) o2;have awF:E o2=E out:=by rcases auZ with e|e;omega;rw[e]
         refine dM ?_;refine ab (aV underlying170 rfl ae rfl aA aa rfl) rfl ?_;refine ab (bH ae rfl aA aa ((qD ht aa aE).trans rfl)) rfl (aX ?_);refine ab (az (i:=E (jo t.2.2.toNat m o2)-t.2.2.toNat) underlying27 ae rfl rfl aa aa aA) rfl ?_;refine ab (al ae rfl aA aa (uj (k:=E (jo t.2.2.toNat m o2)-t.2.2.toNat) aa)) rfl ?_;refine aD 1 [0,1,6,7,9,10] 4 ?_;refine cC bP rfl rfl rfl rfl rfl (λ_=>rfl) aU aa aa ?_;intro _ A83 c83;refine dA ?_;refine aj ⟨_,aa,m+1,A83,c83,aa,rfl,a_,au aa (by rw[q8];simp[bv]) (.refl _)⟩
        ·obtain⟨m',hm'⟩:∃m':Nat,t.2.1=(m':Int):=⟨m,aa⟩
         obtain rfl:m=m':=by omega
         have yO:=ld t.2.2.toNat m o2;rw[hm',lJ]at Zq;refine fF ?_;refine aj ⟨_,aa,k+1,jo t.2.2.toNat m o2,A8,c8,⟨aa,Zq,aa⟩,rfl,a_,.refl _⟩
  ·rw[kr aa,gO]at qo;rw[<-qo];exact bO 14
end
theorem ahq(h:P:=by(exact dS (by first|exact trivial|omega|(exact⟨λ_=>trivial,λ_=>by omega⟩)|(exact λh=>h (by omega))|(exact⟨λ_=>trivial,λ_=>rfl⟩)))):P:=h
theorem MW(h:P:=by(exact dT (by first|omega|(exact⟨λh=>by omega,False.elim⟩)|(exact λh=>h)))):P:=h
theorem anP{v b:Nat}(h1:2^b<=v)(h2:v<2*2^b):v.log2=b:=by
 have hv:v≠0:=by have:=zd b;omega
 have h3:=Nat.log2_self_le hv;have h4:= @Nat.lt_log2_self v;rcases OQ v.log2 b with h|h|h
 ·have:=gz (show 1<=2 by omega) (show v.log2+1<=b by omega);omega
 ·exact h
 ·have:=gz (show 1<=2 by omega) (show b+1<=v.log2 by omega);rw[ki]at this;omega
theorem QX{v:Nat}(h1:v≠0)(h2:v<4096):bg B w0 200 [ah v] F (λr L=>r= .tuple #[ah (ng v),ah (xf v)]/\L=F):=by
 refine ba func200 18 [0] 14 ?_;refine aw (λzf zL zm=>∃(b p:Nat),(p=2^b/\p<=v)/\v-p=zm/\Sub zf [(0,ah v),(4,ah (b:Int)),(5,ah (p:Int))]/\Wk zL (F)) _ ⟨0,1,⟨rfl,aa⟩,rfl,a_,.refl _⟩ ?_;rintro _ _ _ ⟨b,p,⟨hpe,hpv⟩,rfl,hs,hp⟩;refine aL hs hp (fb ?_);refine ab (eo rfl rfl (r:=((2*p:Nat):Int)) ((bj aa aa).trans aa)) rfl (ag 4 (λh9=>?_) λh9=>?_)
 ·have SV:0<p:=by rw[hpe];exact zd b
  have hbp:b<p:=by rw[hpe];exact Nat.lt_two_pow_self
  refine dw ?_;refine ab (eo rfl rfl (r:=((2*p:Nat):Int)) ((bj aa aa).trans aa)) rfl (dA ?_);refine aj ⟨_,aa,b+1,2*p,⟨by rw[hpe,ki,mi],aa⟩,rfl,a_,.refl _⟩
 ·have WA:v.log2=b:=anP aa aa;have hB:ng v=b:=WA;have hR:xf v=v-p:=by unfold xf;rw[WA,hpe]
  refine dh ?_;refine ab (cU rfl rfl (r:=((xf v:Nat):Int)) ((bj aa aa).trans aa)) rfl (dw ?_);exact⟨by rw[hB],rfl⟩
theorem QY{b:Nat}(hb:b<=11):bg B w0 170 [ah b] F (λr L=>r=ah (2^b:Nat)/\L=F):=by
 refine ba func170 13 [0] 17 ?_;refine aw (λzf zL zm=>∃(i p:Nat),(i<=b/\p=2^i/\p<=2048)/\b-i=zm/\Sub zf [(0,ah b),(3,ah (p:Int)),(4,ah (i:Int))]/\Wk zL (F)) _ ⟨0,1,⟨aa,rfl,aa⟩,rfl,a_,.refl _⟩ ?_;rintro _ _ _ ⟨i,p,⟨hi,hpe,Zq⟩,rfl,hs,hp⟩;refine aL hs hp (ag 8 (λh7=>?_) λh7=>?_)
 ·have WB:2*p=2^(i+1):=by rw[hpe,ki,mi]
  have hp4:2^(i+1)<=2^11:=gz aa aa;refine dw ?_;refine ab (eo rfl rfl (r:=((2*p:Nat):Int)) ((bj aa aa).trans aa)) rfl (dA ?_);refine aj ⟨_,aa,i+1,2*p,⟨aa,WB,aa⟩,rfl,a_,.refl _⟩
 ·obtain rfl:i=b:=by omega
  refine bK 13 ?_;exact⟨by rw[hpe],rfl⟩
theorem UP(h:¬dX t):bg B w0 137 [.agg (bG.cells t).toArray] F (λr L=>r= .tuple #[.agg (Bz (0,0,0,0)).toArray,ah 7]/\L=F):=by
 obtain⟨x,tn,td⟩:=t;refine cV func137 38 rfl rfl rfl [(0,.agg #[.int .u8 (x.toNat:Int),ah tn,ah td])] ⟨⟨rfl,rfl⟩,trivial⟩ ?_;refine bM 2 λg1=>?_;refine fo λg2=>?_;refine dg ?_;refine ai rfl (UO (x,tn,td)) (ag 3 (λig=>?_) λig=>?_)
 ·refine ew ?_;refine ab (eW [ah 0,ah 0,ah 0,ah 0] ae) rfl (dw ?_);refine ak (.cons (.skip (.refl _))) (iH rfl rfl ae aU jI rfl (.skip (.refl _)) ?_);exact⟨rfl,rfl⟩
 ·exfalso;exact ig h
theorem abl(h:dX t):bg B w0 137 [.agg (bG.cells t).toArray] F (λr L=>r= .tuple #[.agg (Bz (bE t)).toArray,ah 0]/\L=F):=by
 obtain⟨x,tn,td⟩:=t;have hx:=x.toNat_lt;have hm:=λh0=>xE (tl:=x) (tn:=tn) (td:=td) h h0;refine cV func137 38 rfl rfl rfl [(0,.agg #[.int .u8 (x.toNat:Int),ah tn,ah td])] ⟨⟨rfl,rfl⟩,trivial⟩ ?_;refine bM 2 λg1=>?_;refine fo λg2=>?_;refine dg ?_;refine ai rfl (UO (x,tn,td)) (ag 3 (λig=>?_) λig=>?_)
 ·exfalso;exact ig h
 ·refine ag 10 (λgT=>?_) λgT=>?_
  ·have hp:bE (x,tn,td)=(x.toNat,0,0,0):=by unfold bE;rw[av gT]
   rw[hp];refine fb ?_;refine ab (be underlying5 underlying3 rfl (r:=(x.toNat:Int)) (bj aa aa)) rfl (ab (bw [(0,_)] [ah 0,ah 0,ah 0,ah 0] [0] [_,_,_,_] rfl rfl ae) rfl (dw ?_));refine ak (.cons (.skip (.refl _))) (iH rfl rfl ae aU jI rfl (.skip (.refl _)) ?_);exact⟨rfl,rfl⟩
  ·obtain⟨h1,h2,h3,h4,h5⟩:=hm gT;obtain⟨a,ha⟩:=cM ((tn-2).toNat);obtain⟨d,hd⟩:=cM (td.toNat);have hp:bE (x,tn,td)=(257+ng a,xf a,ng d,xf d):=by unfold bE;rw[aB gT,ha,hd]
   rw[hp];have hb:=DX (v:=a) (k:=7) aa aa;refine dw ?_;refine ab (cU rfl rfl (r:=(a:Int)) ((bj aa aa).trans aa)) rfl (ai rfl (QX (v:=a) aa aa) (dh ?_));refine ab (bL (v:=ah (d:Int)) ae rfl aU ap0) rfl ?_;refine ai rfl (QX (v:=d) aa aa) (aD 5 [2,4,5,6,7] 4 ?_);refine ab (bF rfl rfl (r:=((257+ng a:Nat):Int)) ((bj aa aa).trans aa)) rfl (fc ?_);refine ab (eJ [(0,_),(1,_),(2,_),(3,_)] [_,_,_,_] rfl rfl ae) rfl (dx ?_);refine ak (.cons (.skip (.refl _))) (iH rfl rfl ae aU jI rfl (.skip (.refl _)) ?_);exact⟨rfl,rfl⟩
theorem ag'(t:bG):bg B w0 137 [.agg (bG.cells t).toArray] F (λr L=>r= .tuple #[.agg (Bz (Ql t)).toArray,ah (spE t)]/\L=F):=by
 unfold Ql spE;by_cases h:dX t
 ·rw[av h,av h];exact abl h
 ·rw[aB h,aB h];exact UP h
theorem abi(x:UInt8):bg B w0 104 [.agg #[ah (x.toNat:Int),ah 0,ah 0,ah 0]] F
  (λr L=>r= .tuple #[.agg #[.int .u8 (x.toNat:Int),ah 0,ah 0],ah 0]/\L=F):=by
 have hx:=x.toNat_lt;refine fw func104 90 [0] ?_;refine bM 2 λg1=>?_;refine fo λg2=>?_;refine bf 6 23 28 [1,2] (True) ?_ ?_
 ·refine bC 4 (λh9=>?_) λh9=>?_
  ·refine bC 7 (λgT=>?_) λgT=>?_
   ·refine bC 7 (λqM=>?_) λqM=>?_
    ·refine bC 7 (λkJ=>?_) λkJ=>?_
     ·exact ax 6 (k:=oy)
     ·exact ax 3 (k:=ahq)
    ·exact ax 8 (k:=ahq)
   ·exact ax 13 (k:=ahq)
  ·exact ax 18 (k:=ahq)
 ·refine ag 2 (λqa=>?_) λqa=>?_
  ·refine fb ?_;refine ab (be underlying3 underlying5 rfl (r:=(x.toNat:Int)) (Gw aa aa)) rfl (ab (bw [(0,_)] [.int .u8 0,ah 0,ah 0] [0] [_,_,_] rfl rfl ae) rfl (dw ?_));refine ak (.cons (.skip (.refl _))) (iH rfl rfl ae aU jI rfl (.skip (.refl _)) ?_);exact⟨rfl,rfl⟩
  ·exfalso;exact qa trivial
theorem akH{b x k:Nat}(hb:b<=7)(hx:x<2^b)(hk:k<=11)(hy:y<2^k):bg B w0 104 [.agg #[ah ((257+b:Nat):Int),ah x,ah k,ah y]] F
  (λr L=>r= .tuple #[.agg #[.int .u8 0,ah ((2+2^b+x:Nat):Int),ah ((2^k+y:Nat):Int)],ah 0]/\L=F):=by
 have Oy:2^b<=128:=gz (n:=2) aa hb;have vN:2^k<=2048:=gz (n:=2) aa hk;refine fw func104 90 [0] ?_;refine bM 2 λg1=>?_;refine fo λg2=>?_;refine bf 6 23 28 [1,2] (False) ?_ ?_
 ·refine bC 4 (λh9=>?_) λh9=>?_
  ·refine bC 7 (λgT=>?_) λgT=>?_
   ·refine bC 7 (λqM=>?_) λqM=>?_
    ·refine bC 7 (λkJ=>?_) λkJ=>?_
     ·exact ax 6 (k:=aht)
     ·exact ax 3 (k:=oy)
    ·exact ax 8 (k:=oy)
   ·exact ax 13 (k:=oy)
  ·exact ax 18 (k:=oy)
 ·refine ag 2 (λqa=>?_) λqa=>?_
  ·exfalso;exact qa
  ·refine bf 5 28 60 [1,2] (False) ?_ ?_
   ·refine bk 4 (λCf=>?_) (λCf=>?_)
    ·refine bk 7 (λtZ=>?_) (λtZ=>?_)
     ·refine bk 7 (λSx=>?_) (λSx=>?_)
      ·refine bk 7 (λOf=>?_) (λOf=>?_)
       ·refine bk 7 (λGD=>?_) (λGD=>?_)
        ·exact ax 6 (k:=oy)
        ·exact ax 3 (k:=MW)
       ·exact ax 8 (k:=MW)
      ·exact ax 13 (k:=MW)
     ·exact ax 18 (k:=MW)
    ·exact ax 23 (k:=MW)
   ·refine ag 2 (λOg=>?_) λOg=>?_
    ·exfalso;exact Og
    ·refine dw ?_;refine bJ (cU rfl rfl (r:=((b:Nat):Int)) ((bj aa aa).trans aa)) rfl (iL ak7 rfl (QY (b:=b) aa) tJ rfl ?_);refine ew ?_;refine iL ak7 rfl (QY (b:=k) hk) tJ rfl ?_;refine bf 7 10 78 [1,2,4,5] (False) ?_ ?_
     ·refine bk 5 (λh73=>?_) (λh73=>?_)
      ·exact ax 8 (k:=aht)
      ·exact ax 4 (k:=MW)
     ·refine ag 2 (λh78=>?_) λh78=>?_
      ·exfalso;exact h78
      ·refine dg ?_;refine ab (bF rfl rfl (r:=((2^b+x:Nat):Int)) ((bj aa aa).trans aa)) rfl (ab (bF rfl rfl (r:=((2+2^b+x:Nat):Int)) ((bj aa aa).trans aa)) rfl (fc ?_));refine ab (bF rfl rfl (r:=((2^k+y:Nat):Int)) ((bj aa aa).trans aa)) rfl (ab (bw [(1,_),(2,_)] [.int .u8 0,ah 0,ah 0] [1,2] [_,_,_] rfl rfl ae) rfl (dx ?_));refine ak (.cons (.skip (.refl _))) (iH rfl rfl ae aU jI rfl (.skip (.refl _)) ?_);exact⟨rfl,rfl⟩
theorem QZ{ps px pc py:Nat}(h:Ql t=(ps,px,pc,py)):bg B w0 137 [.agg (bG.cells t).toArray] F (λr L=>r= .tuple #[.agg #[ah (ps:Int),ah (px:Int),ah (pc:Int),ah (py:Int)],ah (spE t)]/\L=F):=by
 have:=ag' (B:=B) (w0:=w0) (F:=F) t;rw[h]at this;exact this
theorem ag3(hb:aJ B w0 F 3 (.slice A (E l) c) (E l) (f_ l))(hl:E l<=32768):
  bg B w0 134 [.slice A (E l) c] F (sq l F):=by
 refine ba func134 56 [0] 7 ?_;refine dq (λzf zL=>∃(A1 A2:bh),Sub zf [(0,.slice A (E l) c),(5,.slice A1 265 265),(6,.slice A2 12 12)]/\Wk zL (.own 135 1 A1 265 265 (k_ (tW [])):: .own 135 1 A2 12 12 (k_ (mf []))::F)) ?_ ?_
 ·refine lx _ ?_;refine iv 0 1 ?_ ?_
  ·refine cF rfl (eY (nn:=265) (cc:=265) vi rfl rfl rfl rfl rfl aa aa aa) λz'=>dI 2 ?_;refine aC 1 (cF rfl (eY (nn:=12) (cc:=12) vi rfl rfl rfl rfl rfl aa aa aa) λtH=>dI 3 ?_);refine aX ?_;exact bo ⟨z',tH,a_,.trans ((gC (dL (.refl _)))) (au rfl U4 (au rfl U5 (.refl _)))⟩
  ·refine cF rfl (eY (nn:=12) (cc:=12) vi rfl rfl rfl rfl rfl aa aa aa) λtH=>aC 0 (cF rfl (eY (nn:=265) (cc:=265) vi rfl rfl rfl rfl rfl aa aa aa) λz'=>aF 2 2 ?_);refine aX ?_;exact bo ⟨z',tH,a_,au rfl U4 (au rfl U5 (.refl _))⟩
 ·rintro _ _ ⟨A1,A2,hs,hp⟩;refine aL hs hp (dg ?_);refine aw (λzf zL zm=>∃(k:Nat),(k<=E l/\∀t∈l.take k,dX t)/\E l-k=zm/\Sub zf [(0,.slice A (E l) c),(5,.slice A1 265 265),(6,.slice A2 12 12),(7,ah k)]/\Wk zL (.own 135 1 A1 265 265 (k_ (tW (l.take k))):: .own 135 1 A2 12 12 (k_ (mf (l.take k)))::F)) _ ⟨0,⟨bD _,λt h=>jB⟩,rfl,a_,.refl _⟩ ?_;rintro _ _ _ ⟨k,⟨hk,yR⟩,rfl,hs,hp⟩;refine aL hs hp (ag 9 (λmj=>?_) λmj=>?_)
  ·obtain⟨t,ht⟩:=cM (vm l k);have OA:=sd (l:=l) (k:=k) aa;rw[<-ht]at OA;have qb:l.take (k+1)=l.take k++[t]:=by rw[ht];exact aP aa _
   have htm:t∈l:=by rw[ht];exact bc aa _
   obtain⟨⟨ps,px,pc,py⟩,hP⟩:∃P,Ql t=P:=⟨_,rfl⟩
   refine dA ?_;refine ab (bU 3 ae rfl aA aa (bG.cells t) (kx OA) rfl) rfl ?_;refine ai rfl (QZ (t:=t) hP) (bW 3 λg8=>?_);refine ag 11 (λkq=>?_) λkq=>?_
   ·have hnm:¬dX t:=λh=>kq (by unfold spE;rw[av h]);have rz:¬∀t∈l,dX t:=λh=>hnm (h t htm);refine aD 6 [2,3,4] 8 ?_;refine ak (.s3 (.refl _)) (aX ?_);unfold sq;rw[aB rz];exact⟨by unfold spE;rw[aB hnm],rfl⟩
   ·have eu:dX t:=b_ λh=>kq (by unfold spE;rw[aB h];decide);obtain⟨yS,Zq,WB⟩:=pT eu;have Cn:Ql t=bE t:=by unfold Ql;rw[av eu]
    have iy:(t.2.1=0->¬256<(bE t).1)/\(¬t.2.1=0->256<(bE t).1/\0<t.2.1):=by
     refine⟨λh=>?_,λh=>?_⟩
     ·rw[(pf eu h).1];have:=kR t.1;simp only;omega
     ·have:=kV eu h;have hm:=eu;unfold dX at hm;rw[aB h]at hm;exact⟨aa,aa⟩
    have q8:=If (l.take k) (bE t).1;have hcf:=Dk (l.take k) (bE t).2.2.1;rw[fZ]at q8 hcf;have j8:=JJ (l.take k) yS;have jj:=λh=>IE (l.take k) h (WB h);have t_:=ID (l.take k) (t:=t);have adL:∀u∈l.take (k+1),dX u:=λu hu=>by
     rw[qb]at hu;rcases dO.1 hu with hu|hu
     ·exact yR u hu
     ·rw[kT.1 hu];exact eu
    rw[<-qb]at j8 jj t_;rw[Cn]at hP;rw[hP]at yS Zq WB q8 hcf j8 jj t_ iy;simp only at yS Zq WB q8 hcf j8 jj t_ iy;have Rb:=vk (l.take k);have Sz:=nG (l.take k);have xm:=r_ (l.take k) yS;have AW:=yF (l.take k) (s:=pc);obtain⟨q1,Mx⟩:=cM (cS (l.take k) ps);obtain⟨q2,Ha⟩:=cM (uo (l.take k) pc);rw[<-Mx]at q8 j8 xm;rw[<-Ha]at hcf jj AW;have hlk:=se (tW (l.take k));have G5:=se (mf (l.take k));refine cY ?_;refine ab (al ae rfl aA aa (wg aa xm)) rfl ?_;refine ab (bF rfl rfl (r:=((q1+1:Nat):Int)) ((BV aa aa).trans aa)) rfl (aD 2 [0,5,6,7,8] 6 ?_);refine ab (aV underlying170 rfl ae rfl aA aa rfl) rfl ?_;refine ab (bH ae rfl aA aa ((qD ht aa aE).trans rfl)) rfl ?_;refine ag 3 (λtZ=>?_) λtZ=>?_
    ·have yN:256<ps:=(iy.2 aa).1;have ane:=AW (WB yN);have ans:=jj yN;have au4:=WB yN;refine dx ?_;refine ab (al ae rfl aA aa (wg aa ane)) rfl ?_;refine ab (bF rfl rfl (r:=((q2+1:Nat):Int)) ((BV aa aa).trans aa)) rfl (aD 9 [0,5,6,7] 0 ?_);refine aj ⟨_,aa,k+1,⟨aa,adL⟩,rfl,a_,.skip (au rfl Ve (au rfl (by rw[vq,ans]) (.refl _)))⟩
    ·have ant:=t_ (iy.1 (b_ λk=>tZ (iy.2 k).2));refine cY ?_;refine aj ⟨_,aa,k+1,⟨aa,adL⟩,rfl,a_,.skip (au rfl Ve (au rfl (by rw[ant]) (.refl _)))⟩
  ·refine dw ?_;obtain rfl:k=E l:=by omega
   rw[js]at*;have Rb:=vk l;have hlk:=se (tW l);have xm:=r_ l (s:=256) aa;have q8:=If l 256;obtain⟨q1,Mx⟩:=cM (cS l 256);rw[<-Mx]at xm q8;refine ew ?_;refine ab (az (i:=256) (size:=1) underlying213 ae rfl rfl rfl aa aA) rfl ?_;refine ab (al ae rfl aA aa (wg aa xm)) rfl ?_;refine ab (bF rfl rfl (r:=((q1+1:Nat):Int)) ((BV aa aa).trans aa)) rfl (ab (az (i:=256) (size:=1) underlying213 ae rfl rfl rfl aa aA) rfl ?_);refine bK 14 ?_;unfold sq;rw[av yR];exact⟨_,_,rfl,by rw[vq,Mx];rfl⟩
theorem adl(h:y<=32768):IntKind.i64.wrap ((y:Int).tdiv 2)=((y/2:Nat):Int):=by
 rw[Int.tdiv_eq_ediv_of_nonneg aa,bj aa aa];omega
theorem am4(h:j<15)(hy:y=2^(15-j)):y/2=2^(15-(j+1)):=by
 have e:(2:Nat)^(15-j)=2*2^(15-(j+1)):=by
  rw[show 15-j=(15-(j+1))+1 by omega,ki];omega
 rw[hy,e];omega
theorem E3{l:aq}{k:Nat}(hk:k<E l):jS (l.take (k+1))=jS (l.take k)+if (l.getD k 0).toNat=0 then 0 else 2^(15-(l.getD k 0).toNat):=by rw[aP hk 0,E2]
theorem PZ(l:aq)(hb:gw B w0 F A c l):bg B w0 218 [.slice A (E l) c] F (λr L=>r= .tuple #[ah (if Fit l then (jS l:Int) else 0),ah (if Fit l then 0 else 13)]/\L=F):=by
 refine fw func218 42 [0] ?_;refine ag 14 (λig=>?_) λig=>?_
 ·refine dA ?_;have hf:¬Fit l:=λh=>by have:=h.1;omega
  rw[aB hf,aB hf];exact⟨rfl,rfl⟩
 ·refine bK 14 ?_;refine aw (λzf zL zm=>∃(k:Nat),(k<=E l/\CM (l.take k))/\E l-k=zm/\Sub zf [(0,.slice A (E l) c),(4,ah (jS (l.take k):Int)),(5,ah k)]/\Wk zL (F)) _ ⟨0,⟨bD _,CM.C4⟩,rfl,a_,.refl _⟩ ?_;rintro _ _ _ ⟨k,⟨hk,hL⟩,rfl,hs,hp⟩;refine aL hs hp ?_;have x8:=ad4 (l.take k);have auL:E (l.take k)<=E l:=List.length_take_le' k l;refine ag 9 (λgT=>?_) λgT=>?_
  ·refine ag 14 (λmQ=>?_) λmQ=>?_
   ·refine bK 14 ?_;have hf:¬Fit l:=Fit.no (k:=k) aa aa;rw[aB hf,aB hf];exact⟨rfl,rfl⟩
   ·refine ag 11 (λq7=>?_) λq7=>?_
    ·refine dM ?_;refine aw (λzf zL zm=>∃(j y:Nat),(j<=(l.getD k 0).toNat/\y=2^(15-j)/\y<=32768)/\(l.getD k 0).toNat-j=zm/\Sub zf [(0,.slice A (E l) c),(4,ah (jS (l.take k):Int)),(5,ah k),(6,ah (y:Int)),(7,ah j)]/\Wk zL (F)) _ ⟨0,32768,⟨bD _,rfl,aa⟩,rfl,a_,.refl _⟩ ?_;rintro _ _ _ ⟨j,y,⟨hj,hy,S7⟩,rfl,hs,hp⟩;refine aL hs hp (ag 12 (λCd=>?_) λCd=>?_)
     ·refine dw ?_;refine ab (iq rfl rfl aa (adl S7)) rfl (dA ?_);refine aj ⟨_,aa,j+1,y/2,⟨aa,am4 aa hy,aa⟩,rfl,a_,.refl _⟩
     ·refine bK 18 ?_;have Mv:=E3 (l:=l) (k:=k) aa;have hj':j=(l.getD k 0).toNat:=by omega
      rw[aB aa,<-hj',<-hy]at Mv;refine aj ⟨_,aa,k+1,⟨aa,hL.step aa aa⟩,rfl,a_,.refl _⟩
    ·refine aD 7 [0,4,5] 0 ?_;have Mv:=E3 (l:=l) (k:=k) aa;rw[av aa]at Mv;refine aj ⟨_,aa,k+1,⟨aa,hL.step aa aa⟩,rfl,a_,.refl _⟩
  ·refine bK 14 ?_;have hf:Fit l:=⟨aa,hL.all aa⟩
   rw[av hf,av hf,gv aa];exact⟨rfl,rfl⟩
theorem ajm{l:aq}{k:Nat}(hk:k<E l):nz (l.take (k+1))=nz (l.take k)+if (l.getD k 0).toNat=0 then 0 else 1:=by rw[aP hk 0,ajl]
theorem aeC{l:aq}{k:Nat}(i:Nat)(hk:k<E l):num (l.take (k+1)) i=num (l.take k) i+if (l.getD k 0).toNat=i then 1 else 0:=by rw[aP hk 0,zu]
theorem asw(l:aq):nz l<=E l:=ZG
theorem T9(l:aq)(hb:gw B w0 F A c l)(hf:Fit l):bg B w0 218 [.slice A (E l) c] F (λr L=>r= .tuple #[ah (jS l:Int),ah 0]/\L=F):=by
 have h:=PZ l hb
 rwa [av hf,av hf]at h
theorem aap(l:aq)(hb:gw B w0 F A c l)(hf:¬Fit l):bg B w0 218 [.slice A (E l) c] F (λr L=>r= .tuple #[ah 0,ah 13]/\L=F):=by
 have h:=PZ l hb
 rwa [aB hf,aB hf]at h
theorem FC(l:aq)(hb:gw B w0 F A c l):bg B w0 166 [.slice A (E l) c] F (λr L=>r=ah (Ii l)/\L=F):=by
 by_cases hf:Fit l
 ·have hg:=yK hf;have hl:=hf.1;refine ba func166 49 [0] 8 ?_;refine ai rfl (T9 l aA hf) ?_;refine bZ 14 λgT=>?_;refine bK 15 ?_;refine aw (λzf zL zm=>∃(k:Nat),(k<=E l)/\E l-k=zm/\Sub zf [(0,.slice A (E l) c),(3,ah (jS l:Int)),(5,ah (nz (l.take k):Int)),(6,ah (num (l.take k) 1:Int)),(7,ah k)]/\Wk zL (F)) _ ⟨0,bD _,rfl,a_,.refl _⟩ ?_;rintro _ _ _ ⟨k,hk,rfl,hs,hp⟩;refine aL hs hp ?_;have Zl:=asw (l.take k);have ry:=u0 (l.take k) 1;have auL:E (l.take k)<=E l:=List.length_take_le' k l;refine ag 9 (λjq=>?_) λjq=>?_
  ·have j8:=ajm (l:=l) (k:=k) aa;have jj:=aeC (l:=l) (k:=k) 1 aa;refine fb ?_;refine dq (λzf zL=>Sub zf [(0,.slice A (E l) c),(3,ah (jS l:Int)),(5,ah (nz (l.take (k+1)):Int)),(6,ah (num (l.take k) 1:Int)),(7,ah k)]/\Wk zL (F)) ?_ ?_
   ·refine ag 9 (λqn=>?_) λqn=>?_
    ·refine dx ?_;rw[aB aa]at j8;exact bo ⟨a_,.refl _⟩
    ·refine aX ?_;rw[av aa]at j8;exact bo ⟨a_,.refl _⟩
   ·rintro _ _ ⟨hs,hp⟩;refine aL hs hp (ag 9 (λvJ=>?_) λvJ=>?_)
    ·rw[av aa]at jj;refine dM ?_;refine aj ⟨_,aa,k+1,aa,rfl,a_,.refl _⟩
    ·rw[aB aa]at jj;refine cY ?_;refine aj ⟨_,aa,k+1,aa,rfl,a_,.refl _⟩
  ·rw[gv aa];refine bf 8 14 48 [] (Good l) ?_ ?_
   ·refine bk 3 (λCS=>?_) (λCS=>?_)
    ·refine bC 5 (λSw=>?_) λSw=>?_
     ·refine bk 7 (λh45=>?_) (λh45=>?_)
      ·exact ax 4 (k:=amv)
      ·exact ax 2 (k:=amt)
     ·exact ax 10 (k:=amv)
    ·exact ax 10 (k:=amt)
   ·refine ag 2 (λxl=>?_) λxl=>?_
    ·refine cY ?_;rw[pr xl];exact⟨rfl,rfl⟩
    ·refine dA ?_;rw[vB xl];exact⟨rfl,rfl⟩
 ·have wx:¬Good l:=λg=>hf g.1;refine ba func166 49 [0] 8 ?_;refine ai rfl (aap l aA hf) ?_;refine sF 14 λgT=>?_;refine cY ?_;rw[vB wx];exact⟨rfl,rfl⟩
theorem ints_set(k:IntKind)(l:List Int)(i:Nat)(x:Int):(ints k l).set (i*1) (.int k x)=ints k (l.set i x):=by
 rw[cH];simp[ints,KX]
set_option maxHeartbeats 400000 in
theorem afd(l:aq)(hb:gw B w0 F A c l)(hg:Good l):bg B w0 167 [.slice A (E l) c] F (λr L=>∃A' c',r= .tuple #[.slice A' (E l) c',ah 0]/\L= .own 57 1 A' (E l) c' (ints .u16 (dU l))::F):=by
 have hc:=FC l hb;rw[pr hg]at hc;have hf:=hg.1;have l_:=hf.1;refine ba func167 59 [0] 10 ?_;refine ai rfl (hc) (bZ 3 λgT=>?_);refine bK 14 ?_;refine aM 57 1 none (aw (λzf zL zm=>∃(k:Nat) (A4:bh) (c4:Nat),(k<=E l)/\E l-k=zm/\Sub zf [(0,.slice A (E l) c),(4,.slice A4 k c4),(5,ah k)]/\Wk zL (.own 57 1 A4 k c4 (ints .u16 (List.replicate k 0))::F)) _ ⟨0,none,0,bD _,rfl,a_,.refl _⟩ ?_);rintro _ _ _ ⟨k,A4,c4,hk,rfl,hs,hp⟩;refine aL hs hp ?_;clear hs hp;refine ag 9 (λjq=>?_) λjq=>?_
 ·refine dw ?_;refine cC sY rfl rfl rfl rfl rfl (λ_=>rfl) aU aa aa ?_;intro _ X8 c23;refine dA ?_;refine aj ⟨_,aa,k+1,X8,c23,aa,rfl,a_,au rfl (by rw[EW];simp[ints]) (.refl _)⟩
 ·refine bK 19 ?_;have x8:k=E l:=by omega
  subst x8;refine aw (λzf zL zm=>∃(L next was:Nat) (any:Bool),((1<=L/\L<=16)/\RC l L 0 next was any)/\16-L=zm/\Sub zf [(0,.slice A (E l) c),(4,.slice A4 (E l) c4),(6,ah (next:Int)),(7,ah (was:Int)),(8,.bool any),(9,ah L)]/\Wk zL (.own 57 1 A4 (E l) c4 (ints .u16 (qT l L 0))::F)) _ ⟨1,0,0,false,⟨⟨aa,aa⟩,RC.start l⟩,rfl,a_,au rfl (by rw[aad]) (.refl _)⟩ ?_;rintro _ _ _ ⟨L,next,was,any,⟨⟨Rb,hL⟩,hR⟩,rfl,hs,hp⟩;refine aL hs hp ?_;clear hs hp;refine ag 7 (λqn=>?_) λqn=>?_
  ·refine dh ?_;refine aw (λzf zL zm=>∃(s next was:Nat) (any:Bool),(s<=E l/\RC l L s next was any)/\E l-s=zm/\Sub zf [(0,.slice A (E l) c),(4,.slice A4 (E l) c4),(6,ah (next:Int)),(7,ah (was:Int)),(8,.bool any),(9,ah L),(10,ah s)]/\Wk zL (.own 57 1 A4 (E l) c4 (ints .u16 (qT l L s))::F)) _ ⟨0,next,was,any,⟨bD _,hR⟩,rfl,a_,.refl _⟩ ?_;rintro _ _ _ ⟨s,next,was,any,⟨hs,hR⟩,rfl,hs,hp⟩;refine aL hs hp ?_;clear hs hp;refine ag 9 (λAU=>?_) λAU=>?_
   ·have hu:=hf.2 _ (bc (k:=s) aa 0);have hp:=CC l_ hL s;have anx:=hR.1;refine ag 16 (λSw=>?_) λSw=>?_
    ·refine dA ?_;refine aj ⟨_,aa,s+1,next,was,any,⟨aa,hR.avv aa aa⟩,rfl,a_,au rfl (by rw[aab aa]) (.refl _)⟩
    ·refine ew ?_;refine dq (λzf zL=>Sub zf [(0,.slice A (E l) c),(4,.slice A4 (E l) c4),(6,ah (place l L s:Int)),(9,ah L),(10,ah s)]/\Wk zL (.own 57 1 A4 (E l) c4 (ints .u16 (qT l L s))::F)) ?_ ?_
     ·refine fB 5 (λtZ=>?_) λtZ=>?_
      ·have hy:=hR.2.1 tZ;have He:=le_pow hy;refine aD 11 [0,4,6,9,10,11] 2 ?_;refine aw (λzf zL zm=>∃(j y:Nat),((was<=j/\j<=L)/\y*2^(L-j)=place l L s)/\L-j=zm/\Sub zf [(0,.slice A (E l) c),(4,.slice A4 (E l) c4),(6,ah (y:Int)),(9,ah L),(10,ah s),(11,ah j)]/\Wk zL (.own 57 1 A4 (E l) c4 (ints .u16 (qT l L s))::F)) _ ⟨was,next+1,⟨⟨aa,anx⟩,hy⟩,rfl,a_,.refl _⟩ ?_;rintro _ _ _ ⟨j,y,⟨⟨hj1,hj⟩,hy⟩,rfl,hs,hp⟩;refine aL hs hp ?_;clear hs hp;have He:=le_pow hy;refine ag 8 (λxk=>?_) λxk=>?_
       ·refine bK 16 ?_;refine aj ⟨_,aa,j+1,2*y,⟨⟨aa,aa⟩,ae6 hy aa⟩,rfl,a_,.refl _⟩
       ·refine fb ?_;have hjL:j=L:=by omega
        subst hjL;have S6:y=place l j s:=by simpa using hy
        subst S6;exact bo ⟨a_,.refl _⟩
      ·have hy:=hR.2.2 tZ;refine aX ?_;have e1:=hy.1;have e2:=hy.2;exact bo ⟨a_,.refl _⟩
     ·rintro _ _ ⟨hs,hp⟩;refine aL hs hp ?_;clear hs hp;refine bK 15 ?_;refine ab (be underlying3 underlying57 rfl (VE (l:=l) (s:=s) aa (by rw[show(l.getD s 0).toNat=L by omega]))) rfl (aX ?_);refine ko (fy ae rfl rfl rfl aU (by rw[jF,PE];omega)) (cY ?_);refine aj ⟨_,aa,s+1,place l L s,L,true,⟨aa,RC.hit aa aa⟩,rfl,a_,au rfl (by rw[ints_set,aeU aa aa Rb]) (.refl _)⟩
   ·refine fF ?_;have hsn:s=E l:=by omega
    subst hsn;refine aj ⟨_,aa,L+1,next,was,any,⟨⟨aa,aa⟩,hR.next Rb⟩,rfl,a_,au rfl (by rw[aac]) (.refl _)⟩
  ·refine bK 13 ?_;have aul:L=16:=by omega
   subst aul;rw[aeT hf.2];exact bO 1
end Go.Proofs.YtaodmbolhoafcaaGreatDoor
