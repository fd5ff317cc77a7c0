/-
  Texts of one proof, joined: part 9. No condition.
-/
import Derived.Test.YtaodmbolhoafcaaGreatDoorZv8
open List renaming length→E
open Go.RowKit Go.Proofs.Tryz
namespace Go.Proofs.YtaodmbolhoafcaaGreatDoor
set_option linter.unusedVariables false
set_option linter.unusedSimpArgs false
set_option maxRecDepth 20000
variable{s:Nat}{P:Prop}{t:bG}{leaf:List cA}{f p m:Nat}{S:br}{C:Cx}{fr:Fr}{b:aq}{i j v bytes B:Nat}{w0:World}{F:aN}{A A1 A2 Ao:bh}{n c c1 c2 co g N:Nat}{l:br}{L:aN}{g2:Nat}{q:List Bool}{X:cQ}{bt:TypeId}{g1:Nat}{fl:aq}{s1:Value}{l1 l2 l3 l4 l5:aq}{M:aN}{A3:bh}{c3:Nat}
section
set_option maxHeartbeats 1000000
theorem abV(h:P:=by(exact dT (by first|(exact⟨λh=>absurd h (by omega),False.elim⟩)|omega|(simp;done)))):P:=h
theorem Xq{leaf:List cA}(h:∀x∈leaf,x.1<=4294967296):∀r,∀x∈dY leaf r,x.1<=2^(32+r)
 |0,x,hx=>h x hx
 |r+1,x,hx=>by
  rw[dY,rX]at hx;have hp:2^(32+(r+1))=2*2^(32+r):=by rw[<-OJ,ki];omega
  have h1:4294967296<=2^(32+r):=by
   have:2^32<=2^(32+r):=gz aa aa;simpa using this
  rcases zo hx with e|e
  ·have:=h x e;omega
  ·have:=(Xf (Xq h r) e).1;omega
abbrev RwI:=bh×Nat×List cA
abbrev rwV(e:RwI):Value:=.slice e.1 (E e.2.2) e.2.1
def RwB(B:Nat)(w0:World)(K:aN)(R:List RwI):Prop:=∀e∈R,aJ B w0 K 2 (rwV e) (E e.2.2) (dy e.2.2)
def Da(L:br):cQ:=L.map λ(n:Nat)=>Value.int .u8 (n:Int)
theorem XV{L:br}{k:Nat}(h:k<E L):(Da L)[k*1]? =some (.int .u8 ((L.getD k 0:Nat):Int)):=by
 rw[cH];simp[Da,List.getD,fx h]
theorem DC(L:br)(k v:Nat):(Da L).set (k*1) (.int .u8 (v:Int))=Da (L.set k v):=by simp[Da,KX]
theorem L7(L:br):E (Da L)=E L:=by simp[Da]
theorem agE{L:br}(h:∀s,L.getD s 0<=15):Da L=bv (L.map UInt8.ofNat):=by
 unfold Da bv;rw[CY];refine tR λx hx=>?_;obtain⟨i,hi,rfl⟩:=mF hx;have:=h i;rw[bz,fx hi,wA]at this;have e:(UInt8.ofNat L[i]).toNat=L[i]:=by rw[rD];exact ly aa
 simp[e]
theorem WK{out:br}(hd:S.Nodup)(hs:∀s∈S,s<E out){b:Nat}(hb:∀s,out.getD s 0<=b)(hn:n<=E S):∀s,(tQ S n out).getD s 0<=b+1:=λs=>by
 obtain⟨h1,h2⟩:=EO hd hs n hn;by_cases hm:s∈S
 ·obtain⟨j,hj,hje⟩:=mF hm;have hjd:S.getD j 0=s:=by rw[bz,fx hj,<-hje];rfl
  have:=h1 j hj;rw[hjd]at this;rw[this];have:=hb s;split<;>omega
 ·rw[h2 s hm];have:=hb s;omega
theorem Yn(hl:∀x∈leaf,x.2=true)(hw:Wt leaf)(r t:Nat):fY (dY leaf r) t<=E leaf:=by
 have hf:=(Lz hl hw r).2 t;have:E (leaf.take (fY (dY leaf r) t))=fY (dY leaf r) t:=by
  rw[<-hf,<-List.countP_eq_length_filter];rfl
 rw[fZ]at this;omega
theorem Yo{row:List cA}{k:Nat}(h:k<E row):fY row (k+1)=fY row k+if (row.getD k (0,false)).2 then 1 else 0:=by
 unfold fY;rw[aP h (0,false),ad3,KY,List.countP_nil];omega
theorem Xp(r:Nat):E (dY leaf r)<=2*E leaf:=(Lx leaf r).2
theorem ej:∀(M N:aN),Wk (M++N) N
 |[],N=>.refl _
 |_::M,N=>.skip (ej M N)
theorem m_.wide{r t M M':Nat}(h:m_ leaf r t M)(hm:M<=M'):m_ leaf r t M':=by
 cases r with
 |zero=>exact h
 |succ r=>exact⟨h.1,iY h.2 hm⟩
theorem m_.le{r t M:Nat}(h:m_ leaf r t M):t<=2*E leaf:=by
 cases r with
 |zero=>
  have:t=0:=h;omega
 |succ r=>exact iY h.1 (Xp r)
theorem anU{row:List cA}{W n1:Nat}(Zl:E leaf=n1)(h1:aJ B w0 F 2 (.slice A1 n1 c1) n1 (dy leaf))(h2:aJ B w0 F 2 (.slice A2 (E row) c2) (E row) (dy row))(q9:E leaf<=1000)(oB:E row<=1000)(hW:W<=4611686018427387904)(Zu:∀x∈leaf,x.1<=W)(Zv:∀x∈row,x.1<=W):
  bg B w0 285 [.slice A1 n1 c1,.slice A2 (E row) c2] F (λr L=>∃A' c',r= .slice A' (E (uZ leaf row)) c'/\L= .own 397 2 A' (E (uZ leaf row)) c' (dy (uZ leaf row))::F):=by
 subst Zl;exact aaq h1 h2 q9 oB hW Zu Zv
theorem alT{R:List RwI}{k:Nat}(h:R.map (·.2.2)=(List.range k).map (dY leaf))(hi:i<k):∃A c,R.getD i (none,0,[])=(A,c,dY leaf i)/\(A,c,dY leaf i)∈R/\(R.map rwV)[i*1]? =some (.slice A (E (dY leaf i)) c):=by
 have hl:E R=k:=by have:=eG List.length h;simpa using this
 have SO:i<E R:=by omega
 have e:(R.map (·.2.2))[i]? =some (dY leaf i):=by rw[h];simp[hi]
 rw[ib,fx SO]at e;simp only[qp,CZ]at e;refine⟨R[i].1,R[i].2.1,?_,?_,?_⟩
 ·rw[bz,fx SO,<-e];rfl
 ·rw[<-e];exact uH SO
 ·rw[cH,ib,fx SO,<-e];rfl
theorem aoT(hS:S=cE (oN l) (E l))(H:HD B w0 F Ao co l)(hl:E l<=300):
  bg B w0 283 [.slice Ao (E l) co] F (λr L=>∃A' c',r= .slice A' (E S) c'/\L= .own 3 1 A' (E S) c' (bN S)::F):=by
 subst hS;exact aoS H hl
theorem zj{o:Nat->Nat}(hS:S=cE o N)(h:E S<2):iM o N=if E S=1 then (List.replicate N 0).set (S.getD 0 0) 1 else List.replicate N 0:=by
 subst hS;rw[iM,av h]
theorem ZN{o:Nat->Nat}(hS:S=cE o N)(h:¬E S<2):iM o N=tr S (zr (S.map λs=>(o s,true)) 15 (2*E S-2)) (List.replicate N 0):=by
 subst hS;rw[iM,aB h];rfl
theorem Gj(n:Nat):List.replicate n (Value.int .u8 0)=Da (List.replicate n 0):=by simp[Da]
theorem anI(H:HD B w0 F Ao co l)(hl:E l<=300):
    bg B w0 246 [.slice Ao (E l) co,ah 15] F (λr L=>∃A' c',r= .tuple #[.slice A' (E l) c',ah 0]/\L= .own 5 1 A' (E l) c' (bv (iZ (oN l) (E l)))::F):=by
  have hbv:bv (iZ (oN l) (E l))=Da (iM (oN l) (E l)):=(agE (uR (o:=oN l) hl)).symm;obtain⟨S,hS⟩:=cM (cE (oN l) (E l));have lB:E S<=E l:=by rw[hS];exact vX _ _
  have I0:∀s∈S,s<E l:=λs hs=>(iT.1 (hS▸hs)).1;have hnd:S.Nodup:=by rw[hS];exact zH _ _
  refine fw func246 109 [0,1] ?_;refine bf 9 11 25 [0,1] (False) ?_ ?_
  · refine bk 4 (λjq=>?_) (λjq=>?_)
    · refine bk 5 (λrq=>?_) (λrq=>?_)
      · exact ax 4 (k:=oy)
      · exact ax 2 (k:=abV)
    · exact ax 6 (k:=abV)
  · refine bZ 2 λqn=>?_;refine dx ?_;refine ay rfl (aoT hS H hl) λQ1 Yi=>dA ?_;refine ab (gG rfl rfl aa (r:=32768) aE) rfl (bZ 3 λvJ=>?_);refine dw ?_;refine cv (eY bP rfl rfl rfl rfl rfl aa aa aa) λDe=>ag 11 (λGB=>?_) λGB=>?_
    · obtain⟨s0,anq⟩:=cM (S.getD 0 0);have z7:s0<E l:=by rw[anq];exact I0 _ (bc aa 0)
      refine fc ?_;refine ab (az (i:=0) (size:=1) underlying53 ae rfl rfl rfl aa aA) rfl ?_;refine ab (al ae rfl aA aa (fi (i:=0) (v:=s0) aa anq.symm)) rfl ?_;refine ab (az (i:=s0) underlying27 ae rfl rfl rfl aa aA) rfl ?_;refine aD 1 [0,1,6,7] 0 ?_;refine sF 9 λSx=>?_;have wz:=zj hS aa;rw[av aa]at wz;refine dA ?_;refine ak (L':=.own 5 1 De (E l) (E l) (bv (iZ (oN l) (E l)))::F) (.trans (au rfl (by rw[hbv,wz,Gj,<-anq];exact DC _ _ 1) (.refl _)) ((dL (.skip (.refl _))))) (aX ?_);exact⟨De,E l,rfl,rfl⟩
    · refine ag 10 (λSx=>?_) λSx=>?_
      · have wz:=zj hS aa;rw[aB aa]at wz;refine aD 5 [4,5] 3 ?_;refine ak (L':=.own 5 1 De (E l) (E l) (bv (iZ (oN l) (E l)))::F) (.trans (au rfl (by rw[hbv,wz,Gj]) (.refl _)) ((dL (.skip (.refl _))))) (aX ?_);exact⟨De,E l,rfl,rfl⟩
      · have wz:=ZN hS aa;obtain⟨leaf,Ou⟩:=cM (S.map λs=>(oN l s,true));have SQ:leaf=mJ (oN l) (E l):=by rw[Ou,hS];rfl
        have qc:E leaf=E S:=by rw[Ou];simp
        have l_:∀x∈leaf,x.2=true:=by rw[SQ];exact pO
        have S3:Wt leaf:=by rw[SQ];exact uN _ _
        have qb:m_ leaf 15 (2*E S-2) (E S):=by rw[SQ,hS];exact sZ (o:=oN l) hl
        have hlw:∀x∈leaf,x.1<=4294967296:=by
          rw[Ou];intro x hx;obtain⟨s,_,rfl⟩:=qd.1 hx;exact Nat.le_of_lt (H.lt s)
        rw[<-Ou]at wz;refine dw ?_;refine ay rfl (ad8 ⟨H.yk.cons.cons,H.lt⟩ aA aa I0) λwF yn=>?_;rw[<-Ou];refine aD 1 [1,6,7,8] 4 ?_;refine cv (aG afI [_] rfl rfl bY aa aa) λQ2=>dx ?_;refine aw (λzf zL zm=>∃(k:Nat) (R:List RwI) (M:aN) (A9:bh) (c9:Nat),(1<=k/\k<=15/\E R=k/\R.map (·.2.2)=(List.range k).map (dY leaf)/\RwB B w0 (M++(.own 397 2 wF (E S) yn (dy leaf)::F)) R)/\15-k=zm/\Sub zf [(1,ah 15),(6,.slice Q1 (E S) Yi),(7,.slice De (E l) (E l)),(8,.slice wF (E S) yn),(9,.slice A9 k c9)]/\Wk zL (.own 392 1 A9 k c9 (R.map rwV):: .own 5 1 De (E l) (E l) (Da (List.replicate (E l) 0)):: .own 3 1 Q1 (E S) Yi (bN S)::(M++(.own 397 2 wF (E S) yn (dy leaf)::F)))) _ ⟨1,[(wF,yn,leaf)],[],Q2,1,⟨ga _,aa,rfl,rfl,λe he=>by rw[kT.1 he];exact qc▸aJ.own (.head _)⟩,rfl,a_,.trans ((dL (gC (gC (dL (.refl _)))))) (au rfl (by rw[<-qc];rfl) (au rfl (Gj _) (.refl _)))⟩ ?_;rintro _ _ _ ⟨k,R,M,A9,c9,⟨xn,zY,Wq,hRm,KH⟩,rfl,hs,hp⟩;refine aL hs hp ?_;clear hs hp;refine ag 9 (λGD=>?_) λGD=>?_
        · obtain⟨j,rfl⟩:∃j,k=j+1:=⟨k-1,aa⟩
          obtain⟨A8,c8,hg8,hm8,hv8⟩:=alT (i:=j) hRm aa;have hb8:aJ B w0 (M++(.own 397 2 wF (E S) yn (dy leaf)::F)) 2 (.slice A8 (E (dY leaf j)) c8) (E (dY leaf j)) (dy (dY leaf j)):=KH _ hm8;have ey:aJ B w0 (M++(.own 397 2 wF (E S) yn (dy leaf)::F)) 2 (.slice wF (E S) yn) (E S) (dy leaf):=aJ.own (mG _ (.head _));have KL:=Xp (leaf:=leaf) j;have hjw:(2:Nat)^(32+j)<=2^47:=gz aa aa;have hjp:(2:Nat)^47=140737488355328:=by decide
          have Ox:uZ leaf (dY leaf j)=dY leaf (j+1):=rfl;refine dh ?_;refine ab (az (i:=j) underlying394 ae rfl rfl aa aa aA) rfl ?_;refine ab (al ae rfl aA aa hv8) rfl ?_;refine ay rfl (anU (W:=140737488355328) qc ey.cons.cons.cons hb8.cons.cons.cons aa aa aa (λx hx=>by have:=hlw x hx;omega) (λx hx=>by have:=Xq hlw j x hx;omega)) λA65 c65=>?_;rw[Ox];refine cC afI rfl rfl rfl rfl rfl (λ_=>rfl) aU aa aa ?_;intro _ A67 c67;refine fc ?_;refine aj ⟨_,aa,j+1+1,R++[(A65,c65,dY leaf (j+1))],.own 397 2 A65 (E (dY leaf (j+1))) c65 (dy (dY leaf (j+1)))::M,A67,c67,⟨aa,aa,bS,by rw[iF,hRm,mW (n:=j+1),iF];rfl,λe he=>by
  rcases dO.1 he with he|he
  · exact(KH e he).mono (.cons _ (.refl _))
  · rw[kT.1 he];exact aJ.own (.head _)⟩,rfl,a_,.trans ((gC (gC (gC (dL (.refl _)))))) (au aa (by rw[iF];rfl) (.refl _))⟩
        · obtain rfl:k=15:=by omega
          refine bK 24 ?_;refine aw (λzf zL zm=>∃(r t:Nat) (out:br),(r<=15/\m_ leaf r t (E S)/\tr S (zr leaf r t) out=iM (oN l) (E l)/\E out=E l/\(∀s,out.getD s 0+r<=15)/\t<=600)/\r=zm/\Sub zf [(6,.slice Q1 (E S) Yi),(7,.slice De (E l) (E l)),(9,.slice A9 15 c9),(10,ah t),(11,ah ((r:Int)-1))]/\Wk zL (.own 5 1 De (E l) (E l) (Da out):: .own 392 1 A9 15 c9 (R.map rwV):: .own 3 1 Q1 (E S) Yi (bN S)::(M++(.own 397 2 wF (E S) yn (dy leaf)::F)))) _ ⟨15,2*E S-2,List.replicate (E l) 0,⟨ga _,qb,wz.symm,ao,λs=>by
  rw[bz,Cp];split<;>simp,aa⟩,rfl,a_,(gC (dL (dL (.refl _))))⟩ ?_
          rintro _ _ _ ⟨r,t,out,⟨awJ,adO,hfo,G9,hob,ht6⟩,rfl,hs,hp⟩;refine aL hs hp ?_;clear hs hp;refine ag 7 (λh76=>?_) λh76=>?_
          · obtain⟨i,rfl⟩:∃i,r=i+1:=⟨r-1,aa⟩
            obtain⟨A8,c8,hg8,hm8,hv8⟩:=alT (i:=i) hRm aa;have hb8:aJ B w0 (M++(.own 397 2 wF (E S) yn (dy leaf)::F)) 2 (.slice A8 (E (dY leaf i)) c8) (E (dY leaf i)) (dy (dY leaf i)):=KH _ hm8;have CW:t<=E (dY leaf i):=adO.1;have hb9:=hb8.h_ CW;rw[(pI (dY leaf i) t).1]at hb9;have yO:=Yn l_ S3 i;have wR:=adO.step l_ S3;have hil:t<=E (dY leaf i):=CW;refine fF ?_;refine BT hb8.cons.cons.cons λav0 _=>?_;refine fc ?_;refine ab (az (i:=i) underlying394 ae rfl rfl aa aa aA) rfl ?_;refine ab (al ae rfl aA aa hv8) rfl (aX ?_);refine ab (bQ (i:=t) (size:=2) underlying392 ae rfl rfl rfl aa) rfl (dx ?_);refine aw (λzf zL zm=>∃(k:Nat),(k<=t)/\t-k=zm/\Sub zf [(6,.slice Q1 (E S) Yi),(7,.slice De (E l) (E l)),(9,.slice A9 15 c9),(10,ah t),(11,ah ((i+1:Nat)-1:Int)),(12,ah (fY (dY leaf i) k)),(84,.slice A8 t c8),(85,ah t),(86,ah k)]/\Wk zL (.own 5 1 De (E l) (E l) (Da (tQ S (fY (dY leaf i) k) out)):: .own 392 1 A9 15 c9 (R.map rwV):: .own 3 1 Q1 (E S) Yi (bN S)::(M++(.own 397 2 wF (E S) yn (dy leaf)::F)))) _ ⟨0,bD _,rfl,a_,.refl _⟩ ?_;rintro _ _ _ ⟨k,hkt,rfl,hs,hp⟩;refine aL hs hp ?_;clear hs hp;refine ag 6 (λh87=>?_) λh87=>?_
            · have Mv:=Yo (row:=dY leaf i) (k:=k) aa;have hkc:=yO (k+1);have awt:=rC S out (fY (dY leaf i) k);have auI:((dY leaf i).take t).getD k (0,false)=(dY leaf i).getD k (0,false):=by
                simp only[bz];rw[List.getElem?_take_of_lt aa]
              have hia:=yX (L:=(dY leaf i).take t) (k:=k) jA;rw[auI]at hia;obtain⟨⟨xw,xb⟩,WG⟩:∃x,x=(dY leaf i).getD k (0,false):=⟨_,rfl⟩
              rw[<-WG]at hia Mv;refine dw ?_;refine ab (az (i:=k) (size:=2) underlying392 ae rfl rfl rfl aa hb9.cons.cons.cons) rfl (ab (bU 2 ae rfl hb9.cons.cons.cons aa [.int .u64 (xw:Int),.bool xb] (kx hia) rfl) rfl (fo λg14=>?_));refine fB 9 (λh91=>?_) λh91=>?_
              · rw[av (show(xw,xb).2=true from h91)]at Mv;obtain⟨s,hse⟩:=cM (S.getD (fY (dY leaf i) k) 0);have awN:s<E l:=by rw[hse];exact I0 _ (bc aa 0)
                obtain⟨v,hve⟩:=cM ((tQ S (fY (dY leaf i) k) out).getD s 0);have Zt:v<=14-i+1:=by rw[hve];exact WK hnd (λs hs=>by rw[G9];exact I0 s hs) (λs=>by have:=hob s;omega) aa s
                have auH:(Da (tQ S (fY (dY leaf i) k) out)).set (s*1) (.int .u8 ((v+1:Nat):Int))=Da (tQ S (fY (dY leaf i) (k+1)) out):=by rw[Mv,tQ,<-hse,<-hve,DC]
                refine dx ?_;refine ab (az (i:=fY (dY leaf i) k) underlying53 ae rfl rfl rfl aa aA) rfl ?_;refine ab (al ae rfl aA aa (fi (v:=s) aa hse.symm)) rfl ?_;refine ab (az (i:=s) underlying27 ae rfl rfl rfl aa aA) rfl ?_;refine ab (al (v:=.int .u8 (v:Int)) ae rfl aA aa (by rw[hve];exact XV aa)) rfl ?_;refine ab (bF rfl rfl (r:=((v+1:Nat):Int)) ((Gw aa aa).trans aa)) rfl (ab (az (i:=s) underlying27 ae rfl rfl rfl aa aA) rfl ?_);refine ko (fy ae rfl rfl rfl aU (by rw[L7];omega)) ?_;refine aD 6 [6,7,9,10,11,12,84,85,86] 6 ?_;refine aj ⟨_,aa,k+1,aa,rfl,a_,.skip (au rfl auH (.refl _))⟩
              · rw[aB (show¬(xw,xb).2=true by simpa using h91)]at Mv;refine dg ?_;refine aj ⟨_,aa,k+1,aa,rfl,a_,.skip (au rfl (by rw[Mv];rfl) (.refl _))⟩
            · obtain rfl:k=t:=by omega
              have hct:=Vy (dY leaf i) k;have Zv:=wR.le;have hck:=yO k;refine bK 19 ?_;refine aj ⟨_,aa,i,2*(k-fY (dY leaf i) k),tQ S (fY (dY leaf i) k) out,⟨aa,wR.wide adO.2,by have h:=hfo;rw[zr,tr]at h;exact h,by rw[rC];exact G9,λs=>by
  have:=WK hnd (λs hs=>by rw[G9];exact I0 s hs) (b:=14-i) (λs=>by have:=hob s;omega) (n:=fY (dY leaf i) k) aa s;omega,aa⟩,rfl,a_,.refl _⟩
          · obtain rfl:r=0:=by omega
            rw[zr,tr]at hfo;refine bK 13 ?_;refine ak (L':=.own 5 1 De (E l) (E l) (bv (iZ (oN l) (E l)))::F) (au rfl (by rw[hbv,hfo]) (.s2 (.trans (ej M _) (.skip (.refl _))))) (aX ?_);exact⟨De,E l,rfl,rfl⟩
end
theorem avO{x:Int}(h:0<=x/\x<=100000000):IntKind.i64.wrap (x*2^min (1:Int).toNat IntKind.i64.bits)=x*2:=by
 have e:min (1:Int).toNat IntKind.i64.bits=1:=by decide
 rw[e];exact bj aa aa
theorem VE{l:aq}{x:Int}(h:¬(l.getD s 0).toNat=0)(hx:x=(place l (l.getD s 0).toNat s:Int)):IntKind.u16.wrap x=code l s:=by
 unfold code;rw[aB h,hx]
theorem ahV(l:aq)(hb:gw B w0 F A c l)(hg:Good l):bg B w0 287 [.slice A (E l) c] F (λr L=>∃A' c',r= .tuple #[.slice A' (E l) c',ah 0]/\L= .own 57 1 A' (E l) c' (ints .u16 (dU l))::F):=by
 have hc:=AF l hb;rw[pr hg]at hc;have hf:=hg.1;have l_:=hf.1;have wz:=NW hf;have hf1:=wz.1;refine ba func287 63 [0] 10 ?_;refine ai rfl (hc) (bZ 9 λmj=>?_);refine dx ?_;refine ai rfl (Iq l aA hf) ?_;refine bW 3 λg5=>?_;refine bW 6 λg7=>?_;refine dA ?_;refine aw (λzf zL zm=>∃(k:Nat),(1<=k/\k<=16)/\16-k=zm/\Sub zf [(0,.slice A (E l) c),(5,bq g5),(7,bq g7),(8,ah k)]/\Wk zL (.bI g7 430 (ints .i64 (yI l k)):: .bI g5 426 (ints .i64 (ri l))::F)) _ ⟨1,⟨aa,aa⟩,rfl,a_,bx (by rw[<-ac1];rfl) (.refl _)⟩ ?_;rintro _ _ _ ⟨k,⟨xn,hk⟩,rfl,hs,hp⟩;refine aL hs hp ?_;clear hs hp;refine ag 7 (λpe=>?_) λpe=>?_
 ·have e1:=ac0 l (ga k) aa;have e2:=dp l (k:=k) aa aa;have e3:=vH l_ hk;have e4:=u0 l k;have e5:=fU l xn;refine cN 4 (.bI g5 426 (ints .i64 (ri l))::F) ?_;refine aF 0 3 ?_;refine aS 3 rfl (aR underlying430 ae rfl rfl rfl aa) (dI 5 ?_);refine aS 6 rfl (aR underlying426 ae rfl rfl rfl aa) (aS 7 rfl (fQ ae rfl aU GR) ?_);refine aC 4 (iP rfl .no (fQ ae rfl aU GR) rfl gI ?_);refine dI 8 ?_;refine aS 9 rfl (gG rfl rfl aa (avO aa)) (aS 10 rfl (aR (i:=k+1) underlying430 ae rfl rfl rfl aa) (aC 11 (dA ?_)));refine aj ⟨_,aa,k+1,⟨aa,aa⟩,rfl,a_,bx (by rw[<-YV,e5,e1,e2];push_cast;rfl) (.refl _)⟩
 ·refine dA ?_;refine cv (eY sY rfl rfl rfl rfl rfl aa aa aa) λMG=>dM ?_;have ang:k=16:=by omega
  subst ang;refine aw (λzf zL zm=>∃(s:Nat) (A9:bh),(s<=E l)/\E l-s=zm/\Sub zf [(7,bq g7),(9,.slice A9 (E l) (E l)),(40,.slice A (E l) c),(41,ah (E l)),(42,ah s)]/\Wk zL (.own 57 1 A9 (E l) (E l) (ints .u16 (C6 l s)):: .bI g7 430 (ints .i64 (wu l s)):: .bI g5 426 (ints .i64 (ri l))::F)) _ ⟨0,MG,bD _,rfl,a_,au rfl (by rw[aaa];simp[ints]) (bx (by rw[YY]) (.refl _))⟩ ?_;rintro _ _ _ ⟨s,A9,hs,rfl,hs,hp⟩;refine aL hs hp ?_;clear hs hp;refine ag 6 (λGC=>?_) λGC=>?_
  ·have hu:=hf.2 _ (bc (k:=s) aa 0);have hp:=CC l_ (k:=(l.getD s 0).toNat) aa s;refine ag 19 (λxl=>?_) λxl=>?_
   ·have hfB:=N6 l s;have eB:=ac2 l (s:=s) (j:=(l.getD s 0).toNat) aa aa;refine dx ?_;refine ab (aR (i:=(l.getD s 0).toNat) underlying430 ae rfl rfl rfl aa) rfl (ab (fQ ae rfl aU GR) rfl ?_);refine ab (be underlying3 underlying57 rfl (VE (s:=s) aa eB)) rfl (aX ?_);refine ko (fy ae rfl rfl rfl aU (by rw[jF,PD l hs];omega)) (fb ?_);refine ab (aR (i:=(l.getD s 0).toNat) underlying430 ae rfl rfl rfl aa) rfl (ab (fQ ae rfl aU GR) rfl (aX ?_));refine ab (aR (i:=(l.getD s 0).toNat) underlying430 ae rfl rfl rfl aa) rfl (aD 1 [7,9,40,41,42] 6 ?_);refine aj ⟨_,aa,s+1,A9,aa,rfl,a_,au rfl (by rw[<-Jl aa,cH];simp[ints,KX]) (bx (by rw[<-YX aa aa aa,eB]) (.refl _))⟩
   ·refine dg ?_;refine aj ⟨_,aa,s+1,A9,aa,rfl,a_,au rfl (by rw[<-Z' aa aa]) (bx (by rw[<-YW aa aa]) (.refl _))⟩
  ·refine bK 13 ?_;have Cm:s=E l:=by omega
   subst Cm;exact ak (au rfl (by rw[aeS]) (.s2 (.refl _))) (bO 1)
section
variable{l:aq}
theorem apT(h:P:=by(rw[<-hmm];exact am' (iE _ _) (iQ _ _) (by omega))):P:=h
theorem ap1(h:P:=by(rw[<-hff];exact ary (iE _ _) (by omega))):P:=h
theorem amr(h:P:=by(rw[<-yM,aiv (by omega) (by rw[<-hy,<-hw];omega)])):P:=h
abbrev kO(vl vc:Value)(a b:List Int)(sy:cQ):cQ:=vl::vc::(ints .i64 a++(ints .i64 b++sy))
section
variable{vl vc:Value}{a b:List Int}{sy:cQ}{i:Nat}
theorem ary(ha:E a=16)(hi:i<16):(kO vl vc a b sy)[2+i]? =some (ah (a.getD i 0)):=by
 rw[show 2+i=i+1+1 by omega];simp only[WO];rw[Ti bS];simp[ints,List.getD,fx (show i<E a by omega)]
theorem am'(ha:E a=16)(hb:E b=16)(hi:i<16):(kO vl vc a b sy)[18+i]? =some (ah (b.getD i 0)):=by
 rw[show 18+i=(16+i)+1+1 by omega];simp only[WO];rw[I' bS,jF,ha,uJ,Ti bS];simp[ints,List.getD,fx (show i<E b by omega)]
theorem ana(ha:E a=16)(hb:E b=16):(kO vl vc a b sy)[34+i]? =sy[i]? :=by
 rw[show 34+i=(32+i)+1+1 by omega];simp only[WO];rw[I' bS,jF,ha,show 32+i-16=16+i by omega,I' bS,jF,hb,uJ]
theorem aiy(ha:E a=16)(hi:i<16)(v:Int):(kO vl vc a b sy).set (2+i) (ah v)=kO vl vc (a.set i v) b sy:=by
 rw[show 2+i=i+1+1 by omega];simp only[OS];rw[List.set_append_left _ _ bS];simp[ints,KX]
theorem aiz(ha:E a=16)(hb:E b=16)(hi:i<16)(v:Int):(kO vl vc a b sy).set (18+i) (ah v)=kO vl vc a (b.set i v) sy:=by
 rw[show 18+i=(16+i)+1+1 by omega];simp only[OS];rw[zc _ _ bS,jF,ha,uJ,List.set_append_left _ _ bS];simp[ints,KX]
theorem Ws(ha:E a=16)(hb:E b=16)(v:Value):(kO vl vc a b sy).set (34+i) v=kO vl vc a b (sy.set i v):=by
 rw[show 34+i=(32+i)+1+1 by omega];simp only[OS];rw[zc _ _ bS,jF,ha,show 32+i-16=16+i by omega,zc _ _ bS,jF,hb,uJ]
end
theorem SE{vl vc:Value}{a b:List Int}{sy:cQ}(ha:E a=16)(hb:E b=16)(hs:E sy=16):E (kO vl vc a b sy)=50:=by
 simp[ha,hb,hs]
def ru(l:aq)(s:Nat):List Int:=(List.range 16).map λk=>if k=0\/num (l.take s) k=0 then 0 else (fst l k:Int)
def mC(l:aq)(s:Nat):List Int:=(List.range 16).map λk=>if k=0 then 0 else (num (l.take s) k:Int)
def mE(l:aq)(s:Nat):List (br):=(List.range 16).map λk=>if k=0 then [] else jw l s k
@[simp] theorem iE(l:aq)(s:Nat):E (ru l s)=16:=by simp[ru]
@[simp] theorem iQ(l:aq)(s:Nat):E (mC l s)=16:=by simp[mC]
@[simp] theorem apc(l:aq)(s:Nat):E (mE l s)=16:=by simp[mE]
theorem Oo{l:aq}{k:Nat}(h:1<=k)(h2:k<=15):(ru l (E l)).getD k 0=(nh l k:Int):=by
 have h3:¬k=0:=by omega
 simp only[ru,bz,ib,uI (show k<16 by omega),qp,wA,js,h3,false_or];unfold nh;split<;>simp
theorem IZ{l:aq}{k:Nat}(h:1<=k)(h2:k<=15):(mC l (E l)).getD k 0=(num l k:Int):=by
 have h3:¬k=0:=by omega
 simp only[mC,bz,ib,uI (show k<16 by omega),qp,wA,js,aB h3]
theorem I1{l:aq}{k:Nat}(h:1<=k)(h2:k<=15):(mE l (E l)).getD k []=kZ l k:=by
 have h3:¬k=0:=by omega
 simp only[mE,bz,ib,uI (show k<16 by omega),qp,wA,aB h3,kZ]
structure xX(B:Nat)(w0:World)(L:aN)(g:Nat)(l:aq):Prop where
 co:∃(A1:bh) (c1:Nat) (A2:bh) (c2:Nat) (SY:List rb),Ch.bI g 347 (kO (.slice A1 (E l) c1) (.slice A2 (E l) c2) (ru l (E l)) (mC l (E l)) (SY.map jz))∈L/\
  aJ B w0 L 1 (.slice A1 (E l) c1) (E l) (bv l)/\aJ B w0 L 1 (.slice A2 (E l) c2) (E l) (ints .u16 (dU l))/\SY.map (·.2.2)=mE l (E l)/\∀e∈SY,aJ B w0 L 1 (jz e) (E e.2.2) (bN e.2.2)
theorem xX.mono(h:xX B w0 L g l){M:aN}(hs:L.Sublist M):xX B w0 M g l:=by
 obtain⟨A1,c1,A2,c2,SY,h1,h2,h3,h4,h5⟩:=h;exact⟨A1,c1,A2,c2,SY,hs.subset h1,h2.mono hs,h3.mono hs,h4,λe he=>(h5 e he).mono hs⟩
theorem xX.cons(h:xX B w0 L g l){x:Ch}:xX B w0 (x::L) g l:=h.mono (.cons _ (.refl _))
theorem m9.pS{c:Ch}:∀{L:aN},c∈L->∃f,m9 c L f
 |x::L,h=>by
  rcases fq.1 h with e|e
  ·subst e;exact⟨_,.hd⟩
  ·obtain⟨f,hf⟩:=m9.pS e;exact⟨_,hf.tl⟩
theorem asZ{SY:List rb}{k:Nat}(h:SY.map (·.2.2)=mE l (E l))(h1:1<=k)(h2:k<=15):∃A c,(A,c,kZ l k)∈SY/\(SY.map jz)[k]? =some (.slice A (E (kZ l k)) c):=by
 have hl:E SY=16:=by have:=eG List.length h;simpa using this
 have hi:k<E SY:=by omega
 have hg:=I1 (l:=l) h1 h2;have e:(SY.map (·.2.2)).getD k []=kZ l k:=by rw[h];exact hg
 rw[bz,ib,fx hi]at e;simp only[qp,wA]at e;refine⟨SY[k].1,SY[k].2.1,?_,?_⟩
 ·rw[<-e];exact uH hi
 ·rw[ib,fx hi,<-e];rfl
theorem amT(yP:xX B w0 F g l)(hl:E l<=300){x k:Nat}(h1:1<=k)(h2:k<=15)(hx:x<1000000):
  bg B w0 351 [bq g,.int .u64 x,ah k] F (λr L=>r= .tuple #[ah (((kP l x k).getD 0:Nat):Int),.bool (kP l x k).isSome]/\L=F):=by
 obtain⟨A1,c1,A2,c2,SY,hm,nC,nD,hsy,hbs⟩:=yP;obtain⟨f,AY⟩:=m9.pS hm;have hff:=Oo (l:=l) h1 h2;have hmm:=IZ (l:=l) h1 h2;have hss:=I1 (l:=l) h1 h2;have Rh:=u0 l k;have hfc:nh l k<=39321600:=by
  unfold nh;split
  ·omega
  ·exact vH hl aa
 refine ba func351 39 [0,1,2] 9 ?_;refine ab (be underlying60 underlying3 rfl (r:=(x:Int)) (bj aa aa)) rfl (fb ?_);refine ab (aR (i:=k) underlying344 ae rfl rfl rfl aa) rfl (ab (bL ae rfl AY (ary (iE _ _) aa)) rfl (bf 7 12 29 [0,2,8] (¬(nh l k<=x/\x<nh l k+num l k)) ?_ ?_))
 ·refine bk 3 (λkp=>?_) (λkp=>?_)
  ·refine dh ?_;refine ab (aR (i:=k) underlying344 ae rfl rfl rfl aa) rfl (aX ?_);exact ab (bL ae rfl AY (am' (iE _ _) (iQ _ _) aa)) rfl (ax 3 (k:=oJ))
  ·exact ax 8 (k:=wm)
 ·refine ag 2 (λqN=>?_) λqN=>?_
  ·have e:kP l x k=none:=aB qN;rw[e];exact cm 9
  ·have Wy:=gE.1 qN;obtain⟨s,hs⟩:=cM ((kZ l k).getD (x-nh l k) 0);have e:kP l x k=some s:=by rw[kP,av Wy,hs]
   rw[e];obtain⟨A3,c3,hm3,hv3⟩:=asZ hsy h1 h2;have hb3:aJ B w0 F 1 (.slice A3 (E (kZ l k)) c3) (E (kZ l k)) (bN (kZ l k)):=hbs _ hm3;have lB:=xP l k;refine cY ?_;refine ab (aR (i:=k) underlying345 ae rfl rfl rfl aa) rfl (ab (bL ae rfl AY ((ana (iE _ _) (iQ _ _)).trans hv3)) rfl (aX ?_));exact ab (az (i:=x-nh l k) underlying53 ae rfl rfl aa aa hb3) rfl (ab (al ae rfl hb3 aa (fi (v:=s) aa hs.symm)) rfl (cm 6))
theorem Qc{x d:Nat}{e:Int}(he:e=(d:Int))(hd:d<=15)(hx:x<1000000):IntKind.i64.wrap ((x:Int)*2^min e.toNat IntKind.i64.bits)=((x*2^d:Nat):Int):=by
 subst he;have e2:min ((d:Int)).toNat IntKind.i64.bits=d:=by
  show min _ 64=_;omega
 have hp:2^d<=2^15:=gz aa hd;have hm:x*2^d<=1000000*2^15:=jG aa hp;rw[e2];have e3:(x:Int)*2^d=((x*2^d:Nat):Int):=by simp
 rw[e3];exact bj aa aa
theorem aiv{x k:Nat}(hj:j<=15)(h:¬(0<num l j/\x*2^(j-k)<nh l j+num l j/\nh l j<x*2^(j-k)+2^(j-k))):wP l x k (f+1) j=wP l x k f (j+1):=by
 rw[wP,aB aa,aB h]
theorem ads{x k:Nat}(hj:j<=15)(h:0<num l j/\x*2^(j-k)<nh l j+num l j/\nh l j<x*2^(j-k)+2^(j-k)):wP l x k (f+1) j=true:=by
 rw[wP,aB aa,av h]
theorem adr{x k:Nat}(hj:¬j<=15):wP l x k f j=false:=by
 cases f with
 |zero=>rfl
 |succ f=>rw[wP,av aa]
theorem abW(yP:xX B w0 F g l)(hl:E l<=300){x k:Nat}(h2:k<=15)(hx:x<32768):
  bg B w0 353 [bq g,.int .u64 x,ah k] F (λr L=>r= .bool (adq l x k)/\L=F):=by
 obtain⟨A1,c1,A2,c2,SY,hm,nC,nD,hsy,hbs⟩:=yP;obtain⟨f,AY⟩:=m9.pS hm;refine ba func353 60 [0,1,2] 14 ?_;refine aw (λzf zL zm=>∃(j fu:Nat),(k+1<=j/\j<=16/\16<=j+fu/\wP l x k fu j=adq l x k)/\16-j=zm/\Sub zf [(0,bq g),(1,.int .u64 x),(2,ah k),(7,ah j)]/\Wk zL (F)) _ ⟨k+1,15,⟨ga _,aa,aa,rfl⟩,rfl,a_,.refl _⟩ ?_;rintro _ _ _ ⟨j,fu,⟨hj1,hj2,hfu,yM⟩,rfl,hs,hp⟩;refine aL hs hp (ag 7 (λjZ=>?_) λjZ=>?_)
 ·obtain⟨f',rfl⟩:∃f',fu=f'+1:=⟨fu-1,aa⟩
  have hff:=Oo (l:=l) (k:=j) aa aa;have hmm:=IZ (l:=l) (k:=j) aa aa;have Rh:=u0 l j;have yS:2^(j-k)<=2^15:=gz aa aa;have Zq:x*2^(j-k)<=32768*2^15:=jG aa yS;have hfc:nh l j<=39321600:=by
   unfold nh;split
   ·omega
   ·exact vH hl aa
  obtain⟨y,hy⟩:=cM (x*2^(j-k));obtain⟨w,hw⟩:=cM (2^(j-k));refine dg ?_;refine ab (be underlying60 underlying3 rfl (r:=(x:Int)) (bj aa aa)) rfl (fc ?_);refine ab (gG rfl rfl aa (r:=(y:Int)) (by rw[hy];exact Qc (d:=j-k) aa aa aa)) rfl (dA ?_);refine bJ (aR (i:=j) underlying344 ae rfl rfl rfl aa) rfl (bJ (bL (v:=ah ((num l j:Nat):Int)) ae rfl AY apT) rfl (ew ?_));refine jy rfl rfl rfl (λqa=>?_) (λqa=>?_)
  ·refine dh ?_;refine bJ (aR (i:=j) underlying344 ae rfl rfl rfl aa) rfl (aX ?_);refine bJ (bL (v:=ah ((nh l j:Nat):Int)) ae rfl AY ap1) rfl (dA ?_);refine bJ (aR (i:=j) underlying344 ae rfl rfl rfl aa) rfl (aX ?_);refine bJ (bL (v:=ah ((num l j:Nat):Int)) ae rfl AY apT) rfl (dw ?_);refine jy rfl rfl rfl (λh45=>?_) (λh45=>?_)
   ·refine cY ?_;refine bJ (gG rfl rfl aa (r:=(w:Int)) (by have:=Qc (x:=1) (d:=j-k) (e:=(j:Int)-k) aa aa aa;rw[tC]at this;rw[hw];exact this)) rfl (fF ?_);refine bJ (aR (i:=j) underlying344 ae rfl rfl rfl aa) rfl (aX ?_);refine bJ (bL (v:=ah ((nh l j:Nat):Int)) ae rfl AY ap1) rfl (fc ?_);refine lD [(0,_),(1,_),(2,_),(7,_),(59,_)] ⟨rfl,rfl,rfl,rfl,rfl,trivial⟩ ?_;refine ag 1 (λh59=>?_) λh59=>?_
    ·rw[ads aa ⟨aa,by rw[<-hy];omega,(by rw[<-hy,<-hw];omega)⟩]at yM;rw[<-yM];exact cm 12
    ·refine cY ?_;refine aj ⟨_,aa,j+1,f',⟨aa,aa,aa,amr⟩,rfl,a_,.refl _⟩
   ·refine bK 13 ?_;refine lD [(0,_),(1,_),(2,_),(7,_),(59,_)] ⟨rfl,rfl,rfl,rfl,rfl,trivial⟩ ?_;refine dh ?_;refine aj ⟨_,aa,j+1,f',⟨aa,aa,aa,amr⟩,rfl,a_,.refl _⟩
  ·refine bK 30 ?_;refine lD [(0,_),(1,_),(2,_),(7,_),(59,_)] ⟨rfl,rfl,rfl,rfl,rfl,trivial⟩ ?_;refine dh ?_;refine aj ⟨_,aa,j+1,f',⟨aa,aa,aa,amr⟩,rfl,a_,.refl _⟩
 ·rw[adr aa]at yM;rw[<-yM];exact cm 12
theorem ad_(yP:xX B w0 F g l)(hs:s<E l)(hl:E l<=300):
  bg B w0 288 [bq g,ah s] F (λr L=>r=ah ((l.getD s 0).toNat:Int)/\L=F):=by
 obtain⟨A1,c1,A2,c2,SY,hm,nC,nD,hsy,hbs⟩:=yP;obtain⟨f,AY⟩:=m9.pS hm;have hbv:(bv l)[s*1]? =some (.int .u8 ((l.getD s 0).toNat:Int)):=by rw[cH];simp[bv,List.getD,fx hs]
 have hu:=(l.getD s 0).toNat_lt;refine fw func288 24 [0,1] ?_;refine bf 8 11 15 [0,1] (False) ?_ ?_
 ·refine bk 3 (λh7=>?_) (λh7=>?_)
  ·refine cY ?_;exact ab (bL ae rfl AY rfl) rfl (ax 5 (k:=(by exact dG (by first|(exact⟨λh=>absurd h (by omega),False.elim⟩)|omega|(simp;done)))))
  ·exact ax 7 (k:=abV)
 ·refine bZ 2 λmj=>?_;refine dg ?_;refine ab (bL ae rfl AY rfl) rfl (ew ?_);exact ab (al ae rfl nC aa hbv) rfl (ab (be underlying5 underlying3 rfl (r:=((l.getD s 0).toNat:Int)) (bj aa aa)) rfl (cm 5))
theorem adH(yP:xX B w0 F g l)(hs:s<E l)(hl:E l<=300):
  bg B w0 249 [bq g,ah s] F (λr L=>r=ah ((l.getD s 0).toNat:Int)/\L=F):=by
 refine ba func249 12 [0,1] 21 ?_;exact ai rfl (ad_ yP hs hl) (cm 5)
theorem SW(hg:Good l)(yP:xX B w0 F g l)(hs:s<E l)(h0:(l.getD s 0).toNat≠0)(hq:E q<=7000000):
  bg B w0 205 [bq g,bq g2,ah s] (Wx X g2 bt A c q F) (λr L=>r=ah 0/\∃A' c',L=Wx X g2 bt A' c' (q++hw l s) F):=by
 have hl:=hg.1.1;obtain⟨A1,c1,A2,c2,SY,hm,nC,nD,hsy,hbs⟩:=yP.co;obtain⟨f,AY⟩:=m9.pS hm;have hcv:=Nk hg hs h0;have avj:=hg.1.2 _ (bc hs 0);have I0:=RZ hg hs h0;have kh:=pU hs rfl;have Oj:=oZ hg (k:=(l.getD s 0).toNat) aa avj;have hcc:(ints .u16 (dU l))[s*1]? =some (.int .u16 ((place l (l.getD s 0).toNat s:Nat):Int)):=by
  rw[cH,<-hcv,<-sA l hs];simp[ints,List.getD,fx (show s<E (dU l) by simpa using hs)]
 refine ba func205 33 [0,1,2] 25 ?_;refine ai rfl (adH yP.cons.cons hs hl) (bZ 6 λig=>?_);refine cN 4 F ?_;refine aF 0 5 ?_;refine aS 5 rfl (bL ae rfl AY rfl) (aF 6 2 ?_);refine aS 8 rfl (al ae rfl nD aa hcc) (aS 9 rfl (be underlying57 underlying60 rfl (r:=((place l (l.getD s 0).toNat s:Nat):Int)) (eQ aa aa)) (aF 10 2 ?_));refine aC 12 (lu rfl rfl (adH yP.cons.cons hs hl) (aC 13 (gS rfl .no D3 rfl (BX q (place l (l.getD s 0).toNat s) aa (l.getD s 0).toNat aa aa hq) rfl (by rintro _ _ ⟨rfl,Mi,Mo,rfl⟩;exact gI) ?_)));rintro _ _ ⟨rfl,Mi,Mo,cR⟩;obtain rfl:=cR.symm;refine dI 14 ?_;refine di [6] ?_;refine fc ?_;exact⟨rfl,Mi,Mo,rfl⟩
end
section
variable{l:aq}
theorem Zf{k:Nat}(hk:k<=m)(h:kP l (part q p k) k=some s):mV l q p m (f+1) k=some (s,k):=by
 rw[mV,aB aa,h]
theorem adz{k:Nat}(hk:k<=m)(h:kP l (part q p k) k=none):mV l q p m (f+1) k=mV l q p m f (k+1):=by
 rw[mV,aB aa,h]
theorem Ze{k:Nat}(hk:m<k):mV l q p m f k=none:=by
 cases f with
 |zero=>rfl
 |succ f=>rw[mV,av hk]
theorem adB{k:Nat}(h:mV l q p (there q p) 15 1=some (s,k)):dN l q p=((s:Int),0,p+k):=by
 unfold dN;rw[h]
theorem aiB(h:mV l q p (there q p) 15 1=none):dN l q p=(-1,if there q p<15/\adq l (part q p (there q p)) (there q p)=true then 1 else 7,p):=by
 unfold dN;rw[h]
theorem PH(q:List Bool)(p:Nat){k:Nat}(hk:k<=15){e:Int}(he:e=((15-k:Nat):Int)):((part q p 15:Nat):Int).fdiv (2^min e.toNat IntKind.u64.bits)=((part q p k:Nat):Int):=by
 have:=FW (part q p 15) (x:=e) (e:=15-k) he aa;rw[this];have h2:=nu q p k (15-k);rw[show k+(15-k)=15 by omega]at h2;rw[h2]
theorem anf(yP:xX B w0 F g l)(hl:E l<=300)(hp:p<=E q)(hq:E q<=8000000):
  bg B w0 347 [bq g,bq g2] (Rr g2 A c q p F) (λr L=>r= .tuple #[ah (dN l q p).1,ah (dN l q p).2.1]/\L=Rr g2 A c q (dN l q p).2.2 F):=by
 have hth:there q p<=15/\p+there q p<=E q:=by unfold there;omega
 have hpn:pkN q p 15=(there q p:Int):=by unfold pkN there;rw[aB aa];omega
 have hpv:pkV q p 15=part q p 15:=by unfold pkV;rw[aB aa];rfl
 have kh:∀k,k<=15->part q p k<32768:=λk hk=>rF (lT q p k) (gz (n:=2) aa hk);have vN:=aoi (B:=B) (w0:=w0) (F:=F) (A:=A) (c:=c) (g:=g2) q p hp hq 15 aa aa;rw[hpn,hpv]at vN;refine ba func347 49 [0,1] 19 ?_;refine ai rfl (vN) (bK 14 ?_);refine aw (λzf zL zm=>∃(k fu:Nat),(1<=k/\k<=16/\16<=k+fu/\mV l q p (there q p) fu k=mV l q p (there q p) 15 1)/\16-k=zm/\Sub zf [(0,bq g),(1,bq g2),(6,.int .u64 (part q p 15)),(7,ah (there q p)),(8,ah k)]/\Wk zL (Rr g2 A c q p F)) _ ⟨1,15,⟨ga _,aa,aa,rfl⟩,rfl,a_,.refl _⟩ ?_;rintro _ _ _ ⟨k,fu,⟨xn,zY,hfu,x7⟩,rfl,hs,hp⟩;refine aL hs hp ?_;clear hs hp;refine ag 8 (λkp=>?_) λkp=>?_
 ·obtain⟨f',rfl⟩:∃f',fu=f'+1:=⟨fu-1,aa⟩
  have ar4:=kh k aa;refine dh ?_;refine ab (dH rfl rfl aa (PH q p (k:=k) aa aa)) rfl (aX ?_);refine ai rfl (amT (k:=k) (x:=part q p k) yP.cons.cons hl xn aa aa) (fB 12 (λCd=>?_) λCd=>?_)
  ·obtain⟨s,hs⟩:=Option.isSome_iff_exists.1 Cd;rw[Zf aa hs]at x7;rw[adB x7.symm,hs];have EI:skP q p (k:Int)=p+k:=by unfold skP;rw[aB aa,aB aa];omega
   refine fb ?_;refine ai rfl (aov q p hp hq k aa aa) ?_;rw[EI];refine ve [9] ?_;exact cm 15
  ·refine aD 7 [0,1,6,7,8] 0 ?_;refine aj ⟨_,aa,k+1,f',⟨aa,aa,aa,by rw[<-x7,adz aa (by simpa using Cd)]⟩,rfl,a_,.refl _⟩
 ·rw[Ze aa]at x7;rw[aiB x7.symm];have ar4:=kh (there q p) hth.1;refine bf 8 11 48 [] (there q p<15/\adq l (part q p (there q p)) (there q p)=true) ?_ ?_
  ·refine bC 3 (λSw=>?_) λSw=>?_
   ·refine cY ?_;refine ab (dH rfl rfl aa (PH q p hth.1 aa)) rfl (fc ?_);exact ai rfl (abW yP.cons.cons hl hth.1 ar4) (ax 1 (k:=(by exact oW apG)))
   ·exact ax 7 (k:=apA)
  ·refine ag 2 (λxl=>?_) λxl=>?_
   ·rw[av xl];exact cm 9
   ·rw[aB xl];exact cm 10
end
section
variable{l:aq}
theorem apU(h:P:=by(rw[<-hma];exact am' (iE _ _) (iQ _ _) (by omega))):P:=h
theorem apO(h:P:=by(show 34+k<_;rw[SE (iE _ _) (iQ _ _) SA];omega)):P:=h
theorem apS(h:P:=by(rw[aka (e':=(A69,c69,jw l s k++[s])) Y8 (by simp)])):P:=h
theorem Fk{k:Nat}(hs:s<E l):num (l.take (s+1)) k=num (l.take s) k+if (l.getD s 0).toNat=k then 1 else 0:=jf k hs
theorem Zd(hs:s<E l)(h:(l.getD s 0).toNat=0):ru l (s+1)=ru l s:=by
 unfold ru;refine tR λk _=>?_;by_cases e:k=0
 ·simp[e]
 ·rw[Fk hs,aB (show¬(l.getD s 0).toNat=k by omega),rM]
theorem SS(hs:s<E l)(h:(l.getD s 0).toNat=0):mC l (s+1)=mC l s:=by
 unfold mC;refine tR λk _=>?_;by_cases e:k=0
 ·simp[e]
 ·rw[Fk hs,aB (show¬(l.getD s 0).toNat=k by omega),rM]
theorem S0(h:(l.getD s 0).toNat=0):mE l (s+1)=mE l s:=by
 unfold mE;refine tR λk _=>?_;by_cases e:k=0
 ·simp[e]
 ·rw[aB e,aB e,nv,aB aa,gN]
theorem Zc{k:Nat}(hs:s<E l)(h:(l.getD s 0).toNat=k)(h2:num (l.take s) k≠0):ru l (s+1)=ru l s:=by
 unfold ru;refine tR λj _=>?_;rw[Fk hs];by_cases e:(l.getD s 0).toNat=j
 ·have:j=k:=by omega
  subst this;simp[h2]
 ·rw[aB e];rfl
theorem ady{k:Nat}(hs:s<E l)(h:(l.getD s 0).toNat=k)(h0:k≠0)(h2:num (l.take s) k=0):(ru l s).set k (fst l k:Int)=ru l (s+1):=by
 apply oQ
 ·simp
 ·intro i h3 h4;rw[O9];simp only[ru,E1,Ho,Fk hs];by_cases e:k=i
  ·subst e;rw[av rfl,aB];rintro(e|e)
   ·exact h0 e
   ·rw[av h]at e;omega
  ·rw[aB e,aB (show¬(l.getD s 0).toNat=i by omega)];rfl
theorem Zj{k:Nat}(hs:s<E l)(h:(l.getD s 0).toNat=k)(h0:k≠0):(mC l s).set k ((num (l.take s) k+1:Nat):Int)=mC l (s+1):=by
 apply oQ
 ·simp
 ·intro i h3 h4;rw[O9];simp only[mC,E1,Ho,Fk hs];by_cases e:k=i
  ·subst e;rw[av rfl,aB h0,av h]
  ·rw[aB e,aB (show¬(l.getD s 0).toNat=i by omega)];rfl
theorem adK{k:Nat}(h:1<=k)(h2:k<=15):(mC l s).getD k 0=(num (l.take s) k:Int):=by
 have h3:¬k=0:=by omega
 simp only[mC,bz,ib,uI (show k<16 by omega),qp,wA,aB h3]
theorem Zr{k:Nat}(h:(l.getD s 0).toNat=k)(h0:k≠0):(mE l s).set k (jw l s k++[s])=mE l (s+1):=by
 apply oQ
 ·simp
 ·intro i h3 h4;rw[O9];simp only[mE,E1,Ho];by_cases e:k=i
  ·subst e;rw[av rfl,aB h0,nv,av h]
  ·rw[aB e];by_cases e2:i=0
   ·rw[av e2,av e2]
   ·rw[aB e2,aB e2,nv,aB aa,gN]
theorem hzero(l:aq):ru l 0=List.replicate 16 0/\mC l 0=List.replicate 16 0/\mE l 0=List.replicate 16 []:=by
 refine⟨?_,?_,?_⟩
 ·simp[ru,num];decide
 ·simp[mC,num];decide
 ·simp[mE,jw];decide
theorem afW{SY:List rb}{k:Nat}(h:SY.map (·.2.2)=mE l s)(h1:1<=k)(h2:k<=15):∃(X:List rb) (A:bh) (c:Nat) (Y:List rb),SY=X++(A,c,jw l s k)::Y/\E X=k:=by
 have hl:E SY=16:=by have:=eG List.length h;simpa using this
 have hi:k<E SY:=by omega
 have e:(SY.map (·.2.2))[k]? =some (jw l s k):=by
  rw[h];simp[mE,show k<16 by omega,show¬k=0 by omega]
 rw[ib,fx hi]at e;simp only[qp,CZ]at e;refine⟨SY.take k,SY[k].1,SY[k].2.1,SY.drop (k+1),?_,jA⟩
 conv=>lhs;rw[<-kH k SY,aiU hi]
 rw[<-e]
theorem aoE(X:List rb)(e e':rb)(Y:List rb):((X++e::Y).map jz).set (E X) (jz e')=(X++e'::Y).map jz:=by simp
theorem XK{X Y:List rb}{A':bh}{c' k:Nat}(h:(X++(A,c,jw l s k)::Y).map (·.2.2)=mE l s)(hX:E X=k)(hk:(l.getD s 0).toNat=k)(h0:k≠0):(X++(A',c',jw l s k++[s])::Y).map (·.2.2)=mE l (s+1):=by
 rw[<-Zr hk h0,<-h,<-hX];simp
theorem aka{X:List rb}{e e':rb}{Y:List rb}{k:Nat}{v:Value}(h:E X=k)(hv:v=jz e'):((X++e::Y).map jz).set k v=(X++e'::Y).map jz:=by
 subst h;subst hv;exact aoE X e e' Y
theorem FO(X:List rb)(e:rb)(Y:List rb)(R:aN):((X++e::Y).map jT++R).Perm (jT e::(X.map jT++(Y.map jT++R))):=by
 rw[iF,iN,bT];exact zb
theorem CH{C:Cx}{cd:Code}{Q:Exit->Fr->aN->Prop}{fr:Fr}{L:aN}(e:TypeId):∀(m:Nat),VC C cd Q fr (List.replicate m (.own e 1 none 0 0 [])++L)->VC C cd Q fr L
 |0,h=>h
 |m+1,h=>CH e m (aM e 1 none h)
theorem aez(hb:gw B w0 F A c l)(hg:Good l):bg B w0 248 [.slice A (E l) c] F (λr L=>∃g X,r= .tuple #[bq g,ah 0]/\L=X++F/\xX B w0 X g l):=by
 have hl:=hg.1.1;refine ba func248 75 [0] 9 ?_;refine ay rfl (ahV l aA hg) λtH zU=>?_;refine bZ 14 λmj=>?_;refine dx ?_;refine ay rfl (mu l aA aa) λuc wK=>aX ?_;refine ab (eJ [(0,_),(1,_)] [_,_] rfl rfl ae) rfl (ab (bw [(0,_)] [.slice none 0 0,.slice none 0 0,ah 0,ah 0,ah 0,ah 0,ah 0,ah 0,ah 0,ah 0,ah 0,ah 0,ah 0,ah 0,ah 0,ah 0,ah 0,ah 0,ah 0,ah 0,ah 0,ah 0,ah 0,ah 0,ah 0,ah 0,ah 0,ah 0,ah 0,ah 0,ah 0,ah 0,ah 0,ah 0,.slice none 0 0,.slice none 0 0,.slice none 0 0,.slice none 0 0,.slice none 0 0,.slice none 0 0,.slice none 0 0,.slice none 0 0,.slice none 0 0,.slice none 0 0,.slice none 0 0,.slice none 0 0,.slice none 0 0,.slice none 0 0,.slice none 0 0,.slice none 0 0] [0] [_,_,_,_,_,_,_,_,_,_,_,_,_,_,_,_,_,_,_,_,_,_,_,_,_,_,_,_,_,_,_,_,_,_,_,_,_,_,_,_,_,_,_,_,_,_,_,_,_,_] rfl rfl ae) rfl (fM λg22=>?_));refine dx ?_;refine CH 3 16 ?_;refine aD 4 [4,6,23,24,25] 2 ?_;refine aw (λzf zL zm=>∃(s:Nat) (SY:List rb),(s<=E l/\SY.map (·.2.2)=mE l s)/\E l-s=zm/\Sub zf [(4,.slice tH (E l) zU),(6,bq g22),(23,.slice A (E l) c),(24,ah (E l)),(25,ah s)]/\Wk zL (.bI g22 347 (kO (.slice uc (E l) wK) (.slice tH (E l) zU) (ru l s) (mC l s) (SY.map jz))::(SY.map jT++(.own 5 1 uc (E l) wK (bv l):: .own 57 1 tH (E l) zU (ints .u16 (dU l))::F)))) _ ⟨0,List.replicate 16 (none,0,[]),⟨bD _,by rw[(hzero l).2.2];rfl⟩,rfl,a_,.trans (.c_ zb) (bx (by rw[(hzero l).1,(hzero l).2.1];rfl) (.refl _))⟩ ?_;rintro _ _ _ ⟨s,SY,⟨hs,hSY⟩,rfl,hs,hp⟩;refine aL hs hp ?_;clear hs hp;refine ag 6 (λq7=>?_) λq7=>?_
 ·obtain⟨k,hk⟩:=cM ((l.getD s 0).toNat);have EE:k<=15:=by rw[hk];exact hg.1.2 _ (bc aa 0)
  have hbv:(bv l)[s*1]? =some (.int .u8 (k:Int)):=by rw[hk,cH];simp[bv,List.getD,fx (show s<E l by omega)]
  have Rh:=u4 l s k;have awD:=u0 l k;have hbS:aJ B w0 (SY.map jT++(.own 5 1 uc (E l) wK (bv l):: .own 57 1 tH (E l) zU (ints .u16 (dU l))::F)) 1 (.slice A (E l) c) (E l) (bv l):=hb.cons.cons.mono (fN _ _);have hbC:aJ B w0 (SY.map jT++(.own 5 1 uc (E l) wK (bv l):: .own 57 1 tH (E l) zU (ints .u16 (dU l))::F)) 1 (.slice tH (E l) zU) (E l) (ints .u16 (dU l)):=aJ.own (mG _ (.tail _ (.head _)));have SA:E (SY.map jz)=16:=by have:=eG List.length hSY;simpa using this
  refine dg ?_;refine ab (az (i:=s) underlying27 ae rfl rfl rfl aa hbS.cons) rfl (ab (al ae rfl hbS.cons aa hbv) rfl (ag 11 (λAU=>?_) λAU=>?_))
  ·have wQ:(l.getD s 0).toNat=0:=by omega
   refine cY ?_;refine aj ⟨_,aa,s+1,SY,⟨aa,by rw[S0 wQ];exact hSY⟩,rfl,a_,bx (by rw[Zd aa wQ,SS aa wQ]) (.refl _)⟩
  ·have xn:1<=k:=by omega
   have hma:=adK (l:=l) (s:=s) xn EE;refine ew ?_;refine dq (λzf zL=>Sub zf [(4,.slice tH (E l) zU),(6,bq g22),(7,ah s),(8,.int .u8 (k:Int)),(23,.slice A (E l) c),(24,ah (E l)),(25,ah s)]/\Wk zL (.bI g22 347 (kO (.slice uc (E l) wK) (.slice tH (E l) zU) (ru l (s+1)) (mC l s) (SY.map jz))::(SY.map jT++(.own 5 1 uc (E l) wK (bv l):: .own 57 1 tH (E l) zU (ints .u16 (dU l))::F)))) ?_ ?_
   ·refine dw ?_;refine ab (aR (i:=k) underlying344 ae rfl rfl rfl aa) rfl (ab (bL (v:=ah ((num (l.take s) k:Nat):Int)) ae rfl aU apU) rfl ?_);refine ag 3 (λGB=>?_) λGB=>?_
    ·have hn0:num (l.take s) k=0:=by omega
     have hcv:=Nk hg (s:=s) aa aa;rw[<-hk]at hcv;have kh:place l k s=fst l k:=by unfold place;omega
     rw[kh]at hcv;have hfb:=oZ hg xn EE;have ar0:2^k<=2^15:=gz aa EE;have hcc:(ints .u16 (dU l))[s*1]? =some (.int .u16 ((fst l k:Nat):Int)):=by
      rw[cH,<-hcv,<-sA l aa];simp[ints,List.getD,fx (show s<E (dU l) by rw[GV];omega)]
     refine lx (SY.map jT++(.own 5 1 uc (E l) wK (bv l):: .own 57 1 tH (E l) zU (ints .u16 (dU l))::F)) ?_;refine aF 0 4 ?_;refine aS 4 rfl (az (i:=s) underlying159 ae rfl rfl rfl aa hbC) (aS 5 rfl (al ae rfl hbC aa hcc) (aS 6 rfl (be underlying57 underlying3 rfl (r:=((fst l k:Nat):Int)) (bj aa aa)) (aF 7 2 ?_)));refine aS 9 rfl (aR (i:=k) underlying344 ae rfl rfl rfl aa) (aC 10 (ky rfl .no (oX ae rfl rfl rfl aU (by show 2+k<_;rw[SE (iE _ _) (iQ _ _) SA];omega)) uf ?_));rintro _ _ rfl;refine di [4,6,7,8,23,24,25] ?_;exact bo ⟨a_,bx ((aiy (i:=k) (iE l s) aa _).trans (by rw[ady aa hk.symm aa hn0])) (.refl _)⟩
    ·refine aX ?_;exact bo ⟨a_,bx (by rw[Zc aa hk.symm aa]) (.refl _)⟩
   ·rintro _ _ ⟨hs,hp⟩;refine aL hs hp ?_;clear hs hp;refine cN 1 (SY.map jT++(.own 5 1 uc (E l) wK (bv l):: .own 57 1 tH (E l) zU (ints .u16 (dU l))::F)) ?_;refine aF 0 4 ?_;refine aS 4 rfl (aR (i:=k) underlying344 ae rfl rfl rfl aa) (aF 7 2 ?_);refine aC 5 (iP rfl .no (bL (v:=ah ((num (l.take s) k:Nat):Int)) ae rfl aU apU) rfl gI ?_);refine aS 6 rfl (bF rfl rfl (r:=((num (l.take s) k+1:Nat):Int)) ((bj aa aa).trans aa)) (aS 9 rfl (aR (i:=k) underlying344 ae rfl rfl rfl aa) (aC 10 (ky rfl .no (oX ae rfl rfl rfl aU (by show 18+k<_;rw[SE (iE _ _) (iQ _ _) SA];omega)) uf ?_)));rintro _ _ rfl;refine ew ?_;obtain⟨X,Ae,ce,Y,hXY,Y8⟩:=afW hSY xn EE;subst hXY;have awO:=vY l k s aa;refine mM (L':=.bI g22 347 (kO (.slice uc (E l) wK) (.slice tH (E l) zU) (ru l (s+1)) (mC l (s+1)) ((X++(Ae,ce,jw l s k)::Y).map jz)):: .own 3 1 Ae (E (jw l s k)) ce (bN (jw l s k))::(X.map jT++(Y.map jT++(.own 5 1 uc (E l) wK (bv l):: .own 57 1 tH (E l) zU (ints .u16 (dU l))::F)))) (.trans (bx ((aiz (i:=k) (iE l (s+1)) (iQ l s) aa _).trans (by rw[Zj aa hk.symm aa])) (.refl _)) (.c_ ((FO X _ Y _).cons _))) (lx (X.map jT++(Y.map jT++(.own 5 1 uc (E l) wK (bv l):: .own 57 1 tH (E l) zU (ints .u16 (dU l))::F))) ?_);refine aF 0 6 ?_;refine aS 6 rfl (aR (i:=k) underlying345 ae rfl rfl rfl aa) (dI 8 ?_);refine aF 11 2 ?_;refine iv 7 9 ?_ ?_
    ·refine iP rfl .no (bL (v:=.slice Ae (E (jw l s k)) ce) ae rfl aU ((ana (i:=k) (iE _ _) (iQ _ _)).trans (by simp[<-Y8]))) rfl gI ?_;refine aC 9 (cF rfl (aG gF [_] rfl rfl bY aa aa) λA68=>aC 10 (fh rfl (bB gF rfl aU rfl aA bY aa aa) λA69 c69=>?_));refine aS 13 rfl (aR (i:=k) underlying345 ae rfl rfl rfl aa) (aC 14 (ky rfl .no (oX ae rfl rfl rfl aU apO) uf ?_));rintro _ _ rfl;refine di [4,6,23,24,25] ?_;refine dw ?_;refine aj ⟨_,aa,s+1,X++(A69,c69,jw l s k++[s])::Y,⟨aa,XK hSY Y8 hk.symm aa⟩,rfl,a_,.trans ((gC (gC (.skip (.refl _))))) (.trans (bx ((Ws (i:=k) (iE l (s+1)) (iQ l (s+1)) _).trans apS) (au ao qj (.refl _))) (.c_ ((FO X (A69,c69,jw l s k++[s]) Y _).symm.cons _)))⟩
    ·refine cF rfl (aG gF [_] rfl rfl bY aa aa) λA68=>aC 7 (iP rfl .no (bL (v:=.slice Ae (E (jw l s k)) ce) ae rfl aU ((ana (i:=k) (iE _ _) (iQ _ _)).trans (by simp[<-Y8]))) rfl gI ?_);refine aC 10 (fh rfl (bB gF rfl aU rfl aA bY aa aa) λA69 c69=>?_);refine aS 13 rfl (aR (i:=k) underlying345 ae rfl rfl rfl aa) (aC 14 (ky rfl .no (oX ae rfl rfl rfl aU apO) uf ?_));rintro _ _ rfl;refine di [4,6,23,24,25] ?_;refine dw ?_;refine aj ⟨_,aa,s+1,X++(A69,c69,jw l s k++[s])::Y,⟨aa,XK hSY Y8 hk.symm aa⟩,rfl,a_,.trans ((gC (gC (.skip (.refl _))))) (.trans (bx ((Ws (i:=k) (iE l (s+1)) (iQ l (s+1)) _).trans apS) (au ao qj (.refl _))) (.c_ ((FO X (A69,c69,jw l s k++[s]) Y _).symm.cons _)))⟩
 ·obtain rfl:s=E l:=by omega
  refine bK 13 ?_;refine ak (L':=(.bI g22 347 (kO (.slice uc (E l) wK) (.slice tH (E l) zU) (ru l (E l)) (mC l (E l)) (SY.map jz))::(SY.map jT++[.own 5 1 uc (E l) wK (bv l),.own 57 1 tH (E l) zU (ints .u16 (dU l))]))++F) (.c_ ao) (aX ?_);exact⟨g22,_,rfl,rfl,⟨uc,wK,tH,zU,SY,.head _,aJ.own (.tail _ (mG _ (.head _))),aJ.own (.tail _ (mG _ (.tail _ (.head _)))),hSY,λe he=>aJ.own (.tail _ (ku _ (jr (f:=jT) he)))⟩⟩
end
section
variable{sl:aq}
theorem ap0(h:P:=by(show some (Value.int .i64 td)=_;congr 2;omega)):P:=h
theorem MO(h:P:=by(simp only at k;omega)):P:=h
theorem U4(h:P:=by(rw[afX,<-JQ])):P:=h
theorem U5(h:P:=by(rw[acM,<-JQ])):P:=h
theorem Ve(h:P:=by(rw[vq,j8])):P:=h
theorem amz(h:v≠0):Mn v=v.log2+1:=by
 unfold Mn;simp[h]
theorem Vw(h1:v≠0)(h2:v<4096):bg B w0 282 [ah v] F (λr L=>r= .tuple #[ah (ng v),ah (xf v)]/\L=F):=by
 have hb:=DX (v:=v) (k:=11) aa h1;have he:=RW h1;have ey:=amz h1;have Oj:ng v=v.log2:=rfl;refine ba func282 13 [0] 9 ?_;refine ab (be underlying3 underlying192 rfl (r:=(v:Int)) (eQ aa aa)) rfl (ai rfl (alD v aa) (ab (cU rfl rfl (r:=((ng v:Nat):Int)) ((bj aa aa).trans aa)) rfl (cY ?_)));exact bJ (gG rfl rfl aa (r:=((2^ng v:Nat):Int)) (by have:=Qc (x:=1) (d:=ng v) (e:=(ng v:Int)) rfl aa aa;rw[tC]at this;exact this)) rfl (bJ (cU rfl rfl (r:=((xf v:Nat):Int)) ((bj aa aa).trans aa)) rfl (cm 6))
def Bz(p:Rt):cQ:=[ah (p.1:Int),ah (p.2.1:Int),ah (p.2.2.1:Int),ah (p.2.2.2:Int)]
theorem aaz(h:¬dX t):bg B w0 245 [.agg (bG.cells t).toArray] F (λr L=>r= .tuple #[.agg (Bz (0,0,0,0)).toArray,ah 7]/\L=F):=by
 obtain⟨x,tn,td⟩:=t;refine cV func245 38 rfl rfl rfl [(0,.agg #[.int .u8 (x.toNat:Int),ah tn,ah td])] ⟨⟨rfl,rfl⟩,trivial⟩ ?_;refine bM 2 λg1=>?_;refine fo λg2=>?_;refine dg ?_;refine ai rfl (aeq (x,tn,td)) (ag 3 (λig=>?_) λig=>?_)
 ·refine ew ?_;refine ab (eW [ah 0,ah 0,ah 0,ah 0] ae) rfl (dw ?_);refine ak (.cons (.skip (.refl _))) (iH rfl rfl ae aU jI rfl (.skip (.refl _)) ?_);exact⟨rfl,rfl⟩
 ·exfalso;exact ig h
theorem afN(h:dX t):bg B w0 245 [.agg (bG.cells t).toArray] F (λr L=>r= .tuple #[.agg (Bz (bE t)).toArray,ah 0]/\L=F):=by
 obtain⟨x,tn,td⟩:=t;have hx:=x.toNat_lt;have hm:=λh0=>xE (tl:=x) (tn:=tn) (td:=td) h h0;refine cV func245 38 rfl rfl rfl [(0,.agg #[.int .u8 (x.toNat:Int),ah tn,ah td])] ⟨⟨rfl,rfl⟩,trivial⟩ ?_;refine bM 2 λg1=>?_;refine fo λg2=>?_;refine dg ?_;refine ai rfl (aeq (x,tn,td)) (ag 3 (λig=>?_) λig=>?_)
 ·exfalso;exact ig h
 ·refine ag 10 (λgT=>?_) λgT=>?_
  ·have hp:bE (x,tn,td)=(x.toNat,0,0,0):=by unfold bE;rw[av gT]
   rw[hp];refine fb ?_;refine ab (be underlying5 underlying3 rfl (r:=(x.toNat:Int)) (bj aa aa)) rfl (ab (bw [(0,_)] [ah 0,ah 0,ah 0,ah 0] [0] [_,_,_,_] rfl rfl ae) rfl (dw ?_));refine ak (.cons (.skip (.refl _))) (iH rfl rfl ae aU jI rfl (.skip (.refl _)) ?_);exact⟨rfl,rfl⟩
  ·obtain⟨h1,h2,h3,h4,h5⟩:=hm gT;obtain⟨a,ha⟩:=cM ((tn-2).toNat);obtain⟨d,hd⟩:=cM (td.toNat);have hp:bE (x,tn,td)=(257+ng a,xf a,ng d,xf d):=by unfold bE;rw[aB gT,ha,hd]
   rw[hp];have hb:=DX (v:=a) (k:=7) aa aa;refine dw ?_;refine ab (cU rfl rfl (r:=(a:Int)) ((bj aa aa).trans aa)) rfl (ai rfl (Vw (v:=a) aa aa) (dh ?_));refine ab (bL (v:=ah (d:Int)) ae rfl aU ap0) rfl ?_;refine ai rfl (Vw (v:=d) aa aa) (aD 5 [2,4,5,6,7] 4 ?_);refine ab (bF rfl rfl (r:=((257+ng a:Nat):Int)) ((bj aa aa).trans aa)) rfl (fc ?_);refine ab (eJ [(0,_),(1,_),(2,_),(3,_)] [_,_,_,_] rfl rfl ae) rfl (dx ?_);refine ak (.cons (.skip (.refl _))) (iH rfl rfl ae aU jI rfl (.skip (.refl _)) ?_);exact⟨rfl,rfl⟩
def cS(l:List bG)(s:Nat):Nat:=l.countP λt=>(bE t).1==s
def tW(l:List bG):br:=(List.range 265).map (cS l)
def mf(l:List bG):br:=(List.range 12).map (uo l)
@[simp] theorem vk(l:List bG):E (tW l)=265:=by simp[tW]
@[simp] theorem nG(l:List bG):E (mf l)=12:=by simp[mf]
theorem r_(l:List bG)(h:s<265):(tW l).getD s 0=cS l s:=by
 simp[tW,bz,h]
theorem yF(l:List bG)(h:s<12):(mf l).getD s 0=uo l s:=by
 simp[mf,bz,h]
theorem ahL(l:List bG)(t:bG)(s:Nat):cS (l++[t]) s=cS l s+if (bE t).1=s then 1 else 0:=by
 unfold cS;rw[ad3,KY,List.countP_nil];simp
theorem Il(l:List bG)(t:bG)(s:Nat):uo (l++[t]) s=uo l s+if 256<(bE t).1/\(bE t).2.2.1=s then 1 else 0:=by
 unfold uo;rw[ad3,KY,List.countP_nil];simp
theorem JJ(l:List bG)(h:(bE t).1<265):(tW l).set (bE t).1 (cS l (bE t).1+1)=tW (l++[t]):=by
 apply oQ
 ·simp
 ·intro i h1 h2;rw[O9];simp only[tW,E1,Ho,ahL];by_cases e:(bE t).1=i
  ·subst e;rw[av rfl,av rfl]
  ·rw[aB e,aB e];rfl
theorem IE(l:List bG)(h:256<(bE t).1)(h2:(bE t).2.2.1<12):(mf l).set (bE t).2.2.1 (uo l (bE t).2.2.1+1)=mf (l++[t]):=by
 apply oQ
 ·simp
 ·intro i h3 h4;rw[O9];simp only[mf,E1,Ho,Il];by_cases e:(bE t).2.2.1=i
  ·subst e;rw[av rfl,av ⟨h,rfl⟩]
  ·rw[aB e,aB (λk=>e k.2)];rfl
theorem ID(l:List bG)(h:¬256<(bE t).1):mf (l++[t])=mf l:=by
 unfold mf;refine tR λs _=>?_;rw[Il,aB (λk=>h k.1)];rfl
theorem If(l:List bG)(s:Nat):cS l s<=E l:=ZG
theorem Dk(l:List bG)(s:Nat):uo l s<=E l:=ZG
def wD(l:List bG):br:=(tW l).set 256 (cS l 256+1)
@[simp] theorem r'(l:List bG):E (wD l)=265:=by simp[wD]
theorem pT(h:dX t):(bE t).1<265/\(bE t).1≠256/\(256<(bE t).1->(bE t).2.2.1<12):=by
 by_cases h0:t.2.1=0
 ·rw[(pf h h0).1];have:=kR t.1;exact⟨cX,cX,λk=>MO⟩
 ·have:=kV h h0;exact⟨aa,aa,λ_=>aa⟩
theorem LP{l:List bG}(h:∀t∈l,dX t):oN (wD l)=CQ l:=by
 funext s;unfold oN wD CQ;by_cases hs:s<265
 ·rw[bz,Cr];by_cases e:256=s
  ·subst e;simp[cS]
  ·rw[aB e,<-bz,r_ l hs,aB (λk=>e k.symm)];rfl
 ·rw[bz,tS bS,aB aa];have:l.countP (λt=>(bE t).1==s)=0:=List.countP_eq_zero.2 λt ht=>by
   have:=(pT (h t ht)).1;simp;omega
  rw[this];rfl
theorem Kv{l:List bG}(h:∀t∈l,dX t):oN (mf l)=uo l:=by
 funext s;unfold oN;by_cases hs:s<12
 ·exact yF l hs
 ·rw[bz,tS bS];have:uo l s=0:=List.countP_eq_zero.2 λt ht=>by
   have:=(pT (h t ht)).2.2;simp only[Bg,decide_eq_true_eq,Hm,not_and];intro k;have:=this k;omega
  rw[this];rfl
def k_(L:br):cQ:=ints .u32 (L.map λ(n:Nat)=>(n:Int))
theorem se(L:br):E (k_ L)=E L:=by simp[k_]
theorem wg{L:br}{k:Nat}(h:k<E L)(hv:L.getD k 0=v):(k_ L)[k*1]? =some (.int .u32 ((v:Nat):Int)):=by
 rw[<-hv];exact BR h
theorem vq(L:br)(k v:Nat):(k_ L).set (k*1) (.int .u32 (v:Int))=k_ (L.set k v):=by simp[k_,ints,KX]
theorem BV{x:Int}(h1:0<=x)(h2:x<4294967296):IntKind.u32.wrap x=x:=by
 rw[IntKind.wrap_u32];omega
def Rs(l:List bG)(F:aN)(r:Value)(L:aN):Prop:=
 ∃A1 A2,r= .tuple #[.slice A1 265 265,.slice A2 12 12,ah 0]/\L= .own 135 1 A1 265 265 (k_ (wD l)):: .own 135 1 A2 12 12 (k_ (mf l))::F
def Ql(t:bG):Rt:=if dX t then bE t else (0,0,0,0)
def spE(t:bG):Int:=if dX t then 0 else 7
theorem agz(t:bG):bg B w0 245 [.agg (bG.cells t).toArray] F (λr L=>r= .tuple #[.agg (Bz (Ql t)).toArray,ah (spE t)]/\L=F):=by
 unfold Ql spE;by_cases h:dX t
 ·rw[av h,av h];exact afN h
 ·rw[aB h,aB h];exact aaz h
theorem QH{ps px pc py:Nat}(h:Ql t=(ps,px,pc,py)):bg B w0 245 [.agg (bG.cells t).toArray] F (λr L=>r= .tuple #[.agg #[ah (ps:Int),ah (px:Int),ah (pc:Int),ah (py:Int)],ah (spE t)]/\L=F):=by
 have:=agz (B:=B) (w0:=w0) (F:=F) t;rw[h]at this;exact this
open Classical in
def sq(l:List bG)(F:aN)(r:Value)(L:aN):Prop:=if∀t∈l,dX t then Rs l F r L else r= .tuple #[.slice none 0 0,.slice none 0 0,ah 7]/\L=F
theorem JQ(n:Nat):List.replicate n (Value.int .u32 0)=k_ (List.replicate n 0):=by simp[k_,ints]
theorem afX:tW []=List.replicate 265 0:=by
 unfold tW cS;exact List.eq_replicate_iff.2 ⟨ao,λb hb=>by
  obtain⟨s,_,rfl⟩:=qd.1 hb;rfl⟩
theorem acM:mf []=List.replicate 12 0:=by
 unfold mf uo;exact List.eq_replicate_iff.2 ⟨ao,λb hb=>by
  obtain⟨s,_,rfl⟩:=qd.1 hb;rfl⟩
theorem VI{l:List bG}(hb:aJ B w0 F 3 (.slice A (E l) c) (E l) (f_ l))(hl:E l<=32768):
  bg B w0 202 [.slice A (E l) c] F (sq l F):=by
 refine ba func202 52 [0] 7 ?_;refine dq (λzf zL=>∃(A1 A2:bh),Sub zf [(0,.slice A (E l) c),(5,.slice A1 265 265),(6,.slice A2 12 12)]/\Wk zL (.own 135 1 A1 265 265 (k_ (tW [])):: .own 135 1 A2 12 12 (k_ (mf []))::F)) ?_ ?_
 ·refine lx _ ?_;refine iv 0 1 ?_ ?_
  ·refine cF rfl (eY (nn:=265) (cc:=265) vi rfl rfl rfl rfl rfl aa aa aa) λtH=>dI 2 ?_;refine aC 1 (cF rfl (eY (nn:=12) (cc:=12) vi rfl rfl rfl rfl rfl aa aa aa) λRn=>dI 3 ?_);refine aX ?_;exact bo ⟨tH,Rn,a_,.trans ((gC (dL (.refl _)))) (au rfl U4 (au rfl U5 (.refl _)))⟩
  ·refine cF rfl (eY (nn:=12) (cc:=12) vi rfl rfl rfl rfl rfl aa aa aa) λRn=>aC 0 (cF rfl (eY (nn:=265) (cc:=265) vi rfl rfl rfl rfl rfl aa aa aa) λtH=>aF 2 2 ?_);refine aX ?_;exact bo ⟨tH,Rn,a_,au rfl U4 (au rfl U5 (.refl _))⟩
 ·rintro _ _ ⟨A1,A2,hs,hp⟩;refine aL hs hp (dA ?_);refine aw (λzf zL zm=>∃(k:Nat),(k<=E l/\∀t∈l.take k,dX t)/\E l-k=zm/\Sub zf [(5,.slice A1 265 265),(6,.slice A2 12 12),(13,.slice A (E l) c),(14,ah (E l)),(15,ah k)]/\Wk zL (.own 135 1 A1 265 265 (k_ (tW (l.take k))):: .own 135 1 A2 12 12 (k_ (mf (l.take k)))::F)) _ ⟨0,⟨bD _,λt h=>jB⟩,rfl,a_,.refl _⟩ ?_;rintro _ _ _ ⟨k,⟨hk,yR⟩,rfl,hs,hp⟩;refine aL hs hp (ag 6 (λj0=>?_) λj0=>?_)
  ·obtain⟨t,ht⟩:=cM (vm l k);have OA:=sd (l:=l) (k:=k) aa;rw[<-ht]at OA;have qb:l.take (k+1)=l.take k++[t]:=by rw[ht];exact aP aa _
   have htm:t∈l:=by rw[ht];exact bc aa _
   obtain⟨⟨ps,px,pc,py⟩,hP⟩:∃P,Ql t=P:=⟨_,rfl⟩
   refine dg ?_;refine ab (bU 3 ae rfl aA aa [.int .u8 (t.1.toNat:Int),ah t.2.1,ah t.2.2] (kx OA) rfl) rfl ?_;refine fo λg8=>?_;refine dw ?_;refine ai rfl (QH (t:=t) hP) (bW 3 λg9=>?_);refine ag 11 (λqn=>?_) λqn=>?_
   ·have hnm:¬dX t:=λh=>qn (by unfold spE;rw[av h]);have rz:¬∀t∈l,dX t:=λh=>hnm (h t htm);refine aD 6 [2,3,4] 8 ?_;refine ak (.s4 (.refl _)) (aX ?_);unfold sq;rw[aB rz];exact⟨by unfold spE;rw[aB hnm],rfl⟩
   ·have eu:dX t:=b_ λh=>qn (by unfold spE;rw[aB h];decide);obtain⟨yS,Zq,WB⟩:=pT eu;have Cn:Ql t=bE t:=by unfold Ql;rw[av eu]
    have q8:=If (l.take k) (bE t).1;have hcf:=Dk (l.take k) (bE t).2.2.1;rw[fZ]at q8 hcf;have j8:=JJ (l.take k) yS;have jj:=λh=>IE (l.take k) h (WB h);have t_:=ID (l.take k) (t:=t);have adL:∀u∈l.take (k+1),dX u:=λu hu=>by
     rw[qb]at hu;rcases dO.1 hu with hu|hu
     ·exact yR u hu
     ·rw[kT.1 hu];exact eu
    rw[<-qb]at j8 jj t_;rw[Cn]at hP;rw[hP]at yS Zq WB q8 hcf j8 jj t_;simp only at yS Zq WB q8 hcf j8 jj t_;have Rb:=vk (l.take k);have Sz:=nG (l.take k);have xm:=r_ (l.take k) yS;have AW:=yF (l.take k) (s:=pc);obtain⟨q1,Mx⟩:=cM (cS (l.take k) ps);obtain⟨q2,Ha⟩:=cM (uo (l.take k) pc);rw[<-Mx]at q8 j8 xm;rw[<-Ha]at hcf jj AW;have hlk:=se (tW (l.take k));have G5:=se (mf (l.take k));refine cY ?_;refine ab (al ae rfl aA aa (wg aa xm)) rfl ?_;refine ab (bF rfl rfl (r:=((q1+1:Nat):Int)) ((BV aa aa).trans aa)) rfl (aD 2 [5,6,9,13,14,15] 0 ?_);refine ag 8 (λCf=>?_) λCf=>?_
    ·have ane:=AW (WB aa);have ans:=jj aa;have au4:=WB aa;refine dx ?_;refine ab (al ae rfl aA aa (wg aa ane)) rfl ?_;refine ab (bF rfl rfl (r:=((q2+1:Nat):Int)) ((BV aa aa).trans aa)) rfl (dA ?_);refine aj ⟨_,aa,k+1,⟨aa,adL⟩,rfl,a_,.s2 (au rfl Ve (au rfl (by rw[vq,ans]) (.refl _)))⟩
    ·have ant:=t_ aa;refine dg ?_;refine aj ⟨_,aa,k+1,⟨aa,adL⟩,rfl,a_,.s2 (au rfl Ve (au rfl (by rw[ant]) (.refl _)))⟩
  ·refine dw ?_;obtain rfl:k=E l:=by omega
   rw[js]at*;have Rb:=vk l;have hlk:=se (tW l);have xm:=r_ l (s:=256) aa;have q8:=If l 256;obtain⟨q1,Mx⟩:=cM (cS l 256);rw[<-Mx]at xm q8;refine ew ?_;refine ab (az (i:=256) (size:=1) underlying213 ae rfl rfl rfl aa aA) rfl ?_;refine ab (al ae rfl aA aa (wg aa xm)) rfl ?_;refine ab (bF rfl rfl (r:=((q1+1:Nat):Int)) ((BV aa aa).trans aa)) rfl (ab (az (i:=256) (size:=1) underlying213 ae rfl rfl rfl aa aA) rfl ?_);refine bK 14 ?_;unfold sq;rw[av yR];exact⟨_,_,rfl,by rw[vq,Mx];rfl⟩
end
theorem abn(z:Value)(m:Nat):(Builtin.zeroCells #[z] m).toList=List.replicate m z:=by
 apply oQ
 ·simp[Builtin.zeroCells]
 ·intro k h1 h2;simp[Builtin.zeroCells,Nat.mod_one]
theorem afw{P:Program}{t xt e:TypeId}(T:tc P t e 1 bytes (.int .u8 0))(hx:P.underlying xt=some (.int .u64))(ty:TypeId){w:World}{cur:Array Value}(hg:w.heap[g]? =some (.cells cur e (0,0)))(hm:0<m)(rA:n+m<=c)(KK:n+m<=cur.size)(hb:m*bytes<=281474976710656)(xZ:m<=281474976710656):
  (Builtin.append_ #[t,xt] ty #[.slice (some ⟨g,0,none⟩) n c,.int .u64 m]).run P w= .ok (.slice (some ⟨g,0,none⟩) (n+m) c) (w.setRow g (cur.toList.take n++List.replicate m (Value.int .u8 0)++cur.toList.drop (n+m)).toArray):=by
 obtain⟨i,hi,hz,iy,GF⟩:=T.hi;have sn:=run_storeCells_at P g n e (List.replicate m (Value.int .u8 0)) 0 cur w hg (by simpa using KK) (by intro v hv;rw[(List.mem_replicate.1 hv).2];rfl);simp only[rM,wT]at sn;have hw:IntKind.i64.wrap (m:Int)=m:=bj aa aa;have auX:¬(m:Int)<0:=by omega
 have yN:¬(281474976710656:Int)<(m:Int)*(bytes:Int):=by
  rw[<-xy];generalize m*bytes=y at hb⊢;omega
 have hm0:¬m=0:=by omega
 have hzc:(Value.int IntKind.u8 0).cells= #[Value.int IntKind.u8 0]:=rfl;simp[Builtin.append_,jk T.ht,jk hx,asInt,asIntOf,sizeOf,typeInfo,zeroValue,hi,hz,iy,GF,hw,auX,yN,hm0,rA,C1,hzc,abn,sn]
theorem acE{x y:Operand}{ty t xt e:TypeId}{f:Ch->aN}(T:tc C.P t e 1 bytes (.int .u8 0))(hx:C.P.underlying xt=some (.int .u64)){k:Int}{xs:cQ}(he:ev fr x=some (.slice A n c))(hs:m9 (.own e 1 A n c xs) L f)(hy:ev fr y=some (.int .u64 k))(hk:k=(m:Int))(hm:0<m)(rA:n+m<=c)(hb:m*bytes<=281474976710656)(xZ:m<=281474976710656):
  ra C fr L (.call {callee:=.builtin .append,args:= #[x,y],argTypes:= #[t,xt]}) ty (λp L'=>p= .slice A (n+m) c/\L'=f (.own e 1 A (n+m) c (xs++List.replicate m (Value.int .u8 0)))):=λa w ha hw d pos af gg=>by
 subst hk;have kQ:=hw.all _ hs.mem;obtain⟨k1,k2,k3⟩:=kQ;have sG:¬c=0:=by omega
 obtain⟨g,cur,rfl,hbg,hg,hcm,q8,tu⟩:=k3.resolve_left sG;have hr:=afw (P:=C.P) T hx ty hg hm rA aa hb xZ;simp only[cH]at k1 q8 tu;refine⟨_,_,_,.inl ?_,⟨rfl,rfl⟩,hw.Xx hs (w':=w.setRow g (cur.toList.take n++List.replicate m (Value.int .u8 0)++cur.toList.drop (n+m)).toArray) ?_ (λ_=>⟨by simp[k1],rA,.inr ⟨g,_,rfl,hbg,Tg w g cur _ e _ hg,hcm,?_,?_⟩⟩) (.inr (.inl HW))⟩
 ·simp[execOp,resolve,invoke,builtin,ha.tmp he,ha.tmp hy,hr]
 ·rw[show(Ch.own e 1 (some ⟨g,0,none⟩) n c xs).fp=some g by simp[Ch.fp,sG]];exact⟨rfl,rfl,rfl,ao,λk _ hk=>Th w g k _ (λe=>hk B9)⟩
 ·simp only[y_,bm,fZ,jM,Hj,wT];omega
 ·rw[tu];have hlen:E (xs++List.replicate m (Value.int .u8 0))=n+m:=by simp[k1]
  simp only[cH];rw[<-hlen];exact y'
theorem Ks{x y:Operand}{ty t e:TypeId}{f:Ch->aN}{z:Value}(T:tc C.P t e 1 bytes z){xs:cQ}(he:ev fr x=some (.slice A n c))(hs:m9 (.own e 1 A n c xs) L f){yv:Value}{news:cQ}(hy:ev fr y=some yv)(hb:aJ C.B C.w0 L 1 yv m news)(h1:∀u∈news,u.oneCell'=true)(hm:0<m)(rA:n+m<=c):
  ra C fr L (.call {callee:=.builtin .append,args:= #[x,y],argTypes:= #[t,t]}) ty (λp L'=>p= .slice A (n+m) c/\L'=f (.own e 1 A (n+m) c (xs++news))):=λa w ha hw d pos af gg=>by
 obtain⟨i,hi,hz,iy,GF⟩:=T.hi;obtain⟨X,cx,rfl,hmc,hl,xp⟩:=hb w hw;obtain⟨ad,rfl,_,EF⟩:=xp hm;have kQ:=hw.all _ hs.mem;obtain⟨k1,k2,k3⟩:=kQ;have sG:¬c=0:=by omega
 obtain⟨g,cur,rfl,hbg,hg,hcm,q8,tu⟩:=k3.resolve_left sG;simp only[cH]at k1 q8 tu hl;have hr:=run_append_room (P:=C.P) w t ty e i T.ht hi g n c cur hg ad m cx news (by rw[hl,iy,cH]) EF h1 rA (by rw[iy,cH,hl,q8];exact rA);rw[iy,cH,hl]at hr;refine⟨_,_,_,.inl ?_,⟨rfl,rfl⟩,hw.Xx hs (w':=w.setRow g (cur.toList.take n++news++cur.toList.drop (n+m)).toArray) ?_ (λ_=>⟨by simp[k1,hl],rA,.inr ⟨g,_,rfl,hbg,Tg w g cur _ e _ hg,hcm,?_,?_⟩⟩) (.inr (.inl HW))⟩
 ·simp[execOp,resolve,invoke,builtin,ha.tmp he,ha.tmp hy,hr]
 ·rw[show(Ch.own e 1 (some ⟨g,0,none⟩) n c xs).fp=some g by simp[Ch.fp,sG]];exact⟨rfl,rfl,rfl,ao,λk _ hk=>Th w g k _ (λe=>hk B9)⟩
 ·simp only[y_,bm,fZ,jM,Hj];omega
 ·rw[tu];have hlen:E (xs++news)=n+m:=by simp[k1,hl]
  simp only[cH];rw[<-hlen];exact y'
theorem apv(h:P:=by(first|(exact .inl (by simpa using xl))|(exact⟨λh=>.inr (by omega),λh=>h.elim (λh=>by simp_all) (λh=>by omega)⟩))):P:=h
theorem rJ:type_of% @List.perm_append_comm_assoc:= @List.perm_append_comm_assoc
theorem Qq(a b x y:Ch)(F:aN):(a::b::x::y::F).Perm (x::y::a::b::F):=rJ [a,b] [x,y] F
theorem Qp(x a b:Ch)(F:aN):(x::a::b::F).Perm (a::b::x::F):=rJ [x] [a,b] F
theorem C'{a a':aq}{b b':Int}{c':Nat}(h:(a,b,c)=(a',b',c')):a=a'/\b=b'/\c=c':=by injection h with x y;injection y with y z;exact⟨x,y,z⟩
theorem Nh(q:List Bool)(p0:Nat)(SV:p0<=E q)(hq:E q<=8000000)(n:Int)(h1:-9223372036854775808<=n)(h2:n<=9223372036854775807)(CN:aq)(e':Int)(p':Nat)(hR:nW q p0 n=(CN,e',p')):
  bg B w0 346 [bq g,ah n] (Rr g A c q p0 F) (λr L=>∃A' c',r= .tuple #[.slice A' (E CN) c',ah e']/\L=Rr g A c q p' (.own 5 1 A' (E CN) c' (bv CN)::F)):=by
 refine ba func346 70 [0,1] 8 ?_;refine aM 5 1 none (bf 1 6 17 [0,1] (n<0\/300<n) ?_ ?_)
 ·refine bk 3 (λgT=>?_) (λgT=>?_)
  ·exact ax 4 (k:=DN)
  ·exact ax 2 (k:=J5)
 ·refine ag 2 (λgH=>?_) λgH=>?_
  ·rw[nW,av gH]at hR;obtain⟨rfl,rfl,rfl⟩:=C' hR;refine cY ?_;exact ak (Wk.c_ (Qp _ _ _ _)) (bO 1)
  ·obtain⟨N,rfl⟩:=gl (show 0<=n by omega);rw[nW,aB gH,lJ]at hR;refine dx ?_;refine cv (eY (nn:=0) bP rfl rfl rfl rfl rfl aa aa aa) λGA=>dh ?_;refine aw (λzf zL zm=>∃(f p:Nat) (acc:aq) (s:Bool) (A6:bh),(E acc<=N/\N<=E acc+f/\p<=E q/\lN q N f p acc s=(CN,e',p'))/\N-E acc=zm/\Sub zf [(0,bq g),(1,ah N),(6,.slice A6 (E acc) N),(7,.bool s)]/\Wk zL (Rr g A c q p (.own 5 1 A6 (E acc) N (bv acc):: .own 5 1 none 0 0 []::F))) _ ⟨N,p0,[],false,GA,⟨bD _,ao,SV,hR⟩,rfl,a_,Wk.c_ (Qq _ _ _ _ _)⟩ ?_;rintro _ _ _ ⟨f,p,acc,s,A6,⟨CU,haf,hpq,xp⟩,rfl,hs,hp⟩;refine aL hs hp (ag 9 (λpe=>?_) λpe=>?_)
   ·obtain⟨f',rfl,aup,EH⟩:=PS xp haf aa;have hv4:jE q p 4<16:=qL q p (n:=4) aa;have hv6:jE q (fH q p 4) 6<64:=qL q (fH q p 4) (n:=6) aa;have hp4:=mB (q:=q) (p:=p) 4 hpq;have hp6:=mB (q:=q) (p:=fH q p 4) 6 hp4;refine dw ?_;refine ai rfl (IV q p hpq hq 4 aa aa) (ag 14 (λwv=>?_) λwv=>?_)
    ·have x6:=Xl EH aa wv;obtain⟨rfl,rfl,rfl⟩:=C' x6;refine aD 5 [4,5] 7 ?_;exact ak (bx rfl (au rfl rfl (.skip (.refl _)))) (bO 1)
    ·refine ag 9 (λCd=>?_) λCd=>?_
     ·have hrn:=Lr EH aa aa aa;have q9:E (acc++[UInt8.ofNat (jE q p 4)])=E acc+1:=by simp
      refine dx ?_;refine cv (Ek bP rfl rfl) λME=>ou (Ks bP rfl aU rfl aA MN aa aa) rfl ?_;rintro _ _ ⟨rfl,rfl⟩;rw[<-q9];refine aD 1 [0,1,6] 9 ?_;refine aj ⟨_,aa,f',fH q p 4,acc++[UInt8.ofNat (jE q p 4)],false,A6,⟨bS,bS,hp4,hrn⟩,rfl,a_,.skip (bx rfl (au rfl rfl (au rfl (akY aa _) (.refl _))))⟩
     ·refine dx ?_;refine ai rfl (IV q (fH q p 4) hp4 hq 6 aa aa) (aD 5 [0,1,6,7,9,10] 0 ?_);refine ag 8 (λh45=>?_) λh45=>?_
      ·have x6:=PQ EH aa aa aa h45;obtain⟨rfl,rfl,rfl⟩:=C' x6;refine bK 13 ?_;exact ak (bx rfl (au rfl rfl (.skip (.refl _)))) (bO 1)
      ·refine bf 5 10 56 [0,1,6,10] (s=true\/N<=E acc+jE q (fH q p 4) 6) ?_ ?_
       ·refine ew ?_;refine lS rfl rfl rfl (λxl=>?_) (λxl=>?_)
        ·exact ax 14 (k:=(by exact dG apv))
        ·exact ax 7 (k:=(by exact dT apv))
       ·refine ag 2 (λGD=>?_) λGD=>?_
        ·have x6:=PR EH aa aa aa aa GD;obtain⟨rfl,rfl,rfl⟩:=C' x6;refine dM ?_;exact ak (bx rfl (au rfl rfl (.skip (.refl _)))) (bO 1)
        ·have hrn:=Ls EH aa aa aa aa GD;have oB:E (acc++List.replicate (jE q (fH q p 4) 6+1) (0:UInt8))=E acc+(jE q (fH q p 4) 6+1):=by simp
         have Zn:E acc+jE q (fH q p 4) 6<N:=by by_cases h:N<=E acc+jE q (fH q p 4) 6;exact absurd (.inr h) GD;omega
         refine dw ?_;refine ab (bF rfl rfl (eQ aa aa)) rfl (ou (acE (m:=jE q (fH q p 4) 6+1) bP underlying60 rfl aU rfl aa aa aa aa aa) rfl ?_);rintro _ _ ⟨rfl,rfl⟩;rw[<-oB];refine dx ?_;refine ab (bF rfl rfl (eQ aa aa)) rfl (fb ?_);refine aj ⟨_,aa,f',fH q (fH q p 4) 6,acc++List.replicate (jE q (fH q p 4) 6+1) 0,_,A6,⟨bS,bS,hp6,hrn⟩,rfl,a_,bx rfl (au rfl rfl (au rfl (ab6 _ _) (.refl _)))⟩
   ·refine dg ?_;have hre:=Lp xp aa;refine ew ?_;refine ai rfl (AF acc aA) ?_;refine ag 9 (λWo=>?_) λWo=>?_
    ·have hfn:=acS (p:=p) (show¬Ii acc=0 by omega);rw[hfn.1]at hre;obtain⟨rfl,rfl,rfl⟩:=C' hre;refine dA ?_;refine ak (bx rfl (au rfl rfl (.skip (.refl _)))) (aX ?_);rw[hfn.2];exact⟨none,0,rfl,rfl⟩
    ·rw[acT (show Ii acc=0 by omega)]at hre;obtain⟨rfl,rfl,rfl⟩:=C' hre;refine dh ?_;have Y6:E CN=N:=by omega
     exact ak (bx rfl (au rfl rfl (au rfl rfl (.skip (.refl _))))) (bO 1)
section
variable{sl:aq}
theorem H5(h:P:=by(simp[lQ])):P:=h
theorem HU(h:P:=by(simp only[bm];omega)):P:=h
theorem abL(h:P:=by(rw[qb,Gh];simp only[bT])):P:=h
theorem HD.mono{l:br}(H:HD B w0 F Ao co l){M:aN}(hs:F.Sublist M):HD B w0 M Ao co l:=⟨H.yk.mono hs,H.lt⟩
theorem agZ(Y:aN)(a b d:Ch)(F:aN):Wk (Y++a::b::d::F) (a::b::(Y++F)):=
 (Wk.c_ (rJ Y [a,b,d] F)).trans (.cons (.cons (.skip (.refl _))))
theorem VF(H:HD B w0 F Ao co l)(hl:E l<=300)(hq:E q<=100000):
  bg B w0 203 [bq g,.slice Ao (E l) co] (Wx X g 292 A c q F)
   (λr L=>∃g' Y A' c',r= .pointer (some ⟨g',0,none⟩)/\L=Wx X g 292 A' c' (q++fK (iZ (oN l) (E l)) 0) (Y++F)/\xX B w0 Y g' (iZ (oN l) (E l))):=by
 have adC:Good (iZ (oN l) (E l)):=j_ aa;have hlb:E (iZ (oN l) (E l))=E l:=fX _ _;obtain⟨ls,hls⟩:=cM (iZ (oN l) (E l));have Dp:=anI (B:=B) (w0:=w0) (H:=H.mono (M:=Wx X g 292 A c q F) (.cons _ (.cons _ (.refl _)))) hl;rw[<-hls]at adC hlb Dp⊢;rw[<-hlb]at Dp;refine ba func203 25 [0,1] 8 ?_;refine ay rfl ((by rw[<-hlb];exact Dp)) λA9 c9=>bK 13 ?_;refine bp aqC rfl (.perm (Ys ls q aA adC aa) (Qp _ _ _ _)) rfl ?_;rintro _ _ ⟨rfl,uc,wK,cR⟩;obtain rfl:=cR.symm;refine dx ?_;refine bp alb rfl (aez (l:=ls) aA adC) rfl ?_;rintro _ _ ⟨g19,Y,rfl,cR,yP⟩;obtain rfl:=cR.symm;refine aD 5 [7] 8 ?_;refine ak (agZ _ _ _ _ _) (aX ?_);exact⟨g19,Y,uc,wK,rfl,rfl,yP⟩
theorem agA(hm:dX t){ps px pc py:Nat}(h:bE t=(ps,px,pc,py)):bg B w0 245 [.agg (bG.cells t).toArray] F (λr L=>r= .tuple #[.agg #[ah (ps:Int),ah (px:Int),ah (pc:Int),ah (py:Int)],ah 0]/\L=F):=by
 have:=QH (B:=B) (w0:=w0) (F:=F) (t:=t) (ps:=ps) (px:=px) (pc:=pc) (py:=py) (by unfold Ql;rw[av hm,h]);unfold spE at this;rw[av hm]at this;exact this
def GQ(sl fl:aq)(t:bG):Prop:=dX t/\(bE t).1<E sl/\(sl.getD (bE t).1 0).toNat≠0/\(256<(bE t).1->(bE t).2.2.1<E fl/\(fl.getD (bE t).2.2.1 0).toNat≠0)
abbrev Wt2(g1 g2 g:Nat)(A:bh)(c:Nat)(q:List Bool)(F:aN):aN:=Wx [bq g1,bq g2] g 292 A c q F
theorem akp(ht:GQ sl fl t)(hs:Good sl)(hf:Good fl)(h1:xX B w0 F g1 sl)(h2:xX B w0 F g2 fl)(hq:E q<=6000000):
  bg B w0 204 [bq g,.agg (bG.cells t).toArray] (Wt2 g1 g2 g A c q F) (λr L=>r= .tuple #[]/\∃A' c',L=Wt2 g1 g2 g A' c' (q++qW sl fl t) F):=by
 obtain⟨eu,q9,CX,hf2⟩:=ht;have Cn:Ql t=bE t:=by unfold Ql;rw[av eu]
 have G':=kV eu;have kh:=pf eu;have arZ:=pT eu;obtain⟨⟨ps,px,pc,py⟩,hP⟩:∃P,bE t=P:=⟨_,rfl⟩
 have hQ:qW sl fl t=hw sl ps++if ps<256 then [] else hi px (ps-257) (ps-257)++(hw fl pc++hi py pc pc):=by unfold qW;rw[hP]
 rw[hQ];rw[hP]at Cn q9 CX hf2 G' kh arZ;simp only at q9 CX hf2 G' kh arZ;have yN:256<ps->px<2^(ps-257)/\py<2^pc/\pc<=11/\ps<=264:=λh=>by
  by_cases h0:t.2.1=0
  ·have:=(kh h0).1;simp only[za]at this;have:=kR t.1;omega
  ·have:=G' h0;exact⟨this.2.2.2.1,this.2.2.2.2.1,this.2.2.1,this.2.1⟩
 have lB:=hs.1.1;obtain⟨x,tn,td⟩:=t;refine cV func204 53 rfl rfl rfl [(0,bq g),(1,.agg #[.int .u8 (x.toNat:Int),ah tn,ah td])] ⟨⟨rfl,rfl⟩,⟨rfl,rfl⟩,trivial⟩ ?_;refine bM 2 λg3=>?_;refine dx ?_;refine ai rfl (agA (t:=(x,tn,td)) eu hP) (bW 3 λg4=>?_);refine cN 5 (.bI g4 166 [ah ps,ah px,ah pc,ah py]::F) ?_;refine aF 0 3 ?_;refine aF 4 5 ?_;refine aC 3 (aX ?_);refine aC 9 (gS rfl .no aci rfl (.perm (SW hs h1.cons.cons q9 CX aa) (Qq _ _ _ _ _)) rfl (by rintro _ _ ⟨rfl,BZ,CP,rfl⟩;exact gI) ?_);rintro _ _ ⟨rfl,BZ,CP,cR⟩;obtain rfl:=cR.symm;refine di [0,4] ?_;refine ag 9 (λpe=>?_) λpe=>?_
 ·rw[av aa,gN];refine ew ?_;refine ak (.cons (.cons (.s2 (.refl _)))) (aX ?_);exact⟨rfl,BZ,CP,rfl⟩
 ·have hb:=yN aa;obtain⟨l_,hfz⟩:=hf2 aa;rw[aB aa];have awI:=j9 sl ps;have aua:=hs.1.2 _ (bc q9 0);have aub:=hf.1.2 _ (bc l_ 0);have G_:=j9 fl pc;have hp7:px<256:=rF hb.1 (gz aa (by omega:ps-257<=8));have awH:py<2048:=rF hb.2.1 (gz aa (by omega:pc<=11));refine cN 3 (.bI g4 166 [ah ps,ah px,ah pc,ah py]::F) ?_;refine aF 0 5 ?_;refine aS 5 rfl (be underlying3 underlying60 rfl (r:=(px:Int)) (eQ aa aa)) (aF 6 2 ?_);refine aS 8 rfl (cU rfl rfl (r:=((ps-257:Nat):Int)) ((bj aa aa).trans aa)) (aC 9 (gS rfl .no D3 rfl (BX (q++hw sl ps) px aa (ps-257) aa hb.1 tg) rfl (by rintro _ _ ⟨rfl,Mj,c33,rfl⟩;exact gI) ?_));rintro _ _ ⟨rfl,Mj,c33,cR⟩;obtain rfl:=cR.symm;refine cN 3 (.bI g4 166 [ah ps,ah px,ah pc,ah py]::F) ?_;refine aF 0 3 ?_;refine aF 4 5 ?_;refine aC 3 (aX ?_);refine aC 9 (gS rfl .no aci rfl (SW hf h2.cons.cons l_ hfz (by rw[bm,bm,dK];omega)) rfl (by rintro _ _ ⟨rfl,UU,c43,rfl⟩;exact gI) ?_);rintro _ _ ⟨rfl,UU,c43,cR⟩;obtain rfl:=cR.symm;refine di [0,4] ?_;refine cN 1 (.bI g4 166 [ah ps,ah px,ah pc,ah py]::F) ?_;refine aF 0 5 ?_;refine aS 5 rfl (be underlying3 underlying60 rfl (r:=(py:Int)) (eQ aa aa)) (aF 6 2 ?_);refine aC 8 (gS rfl .no D3 rfl (BX (q++hw sl ps++hi px (ps-257) (ps-257)++hw fl pc) py aa pc aa hb.2.1 (by rw[bm,bm,bm,dK];omega)) rfl (by rintro _ _ ⟨rfl,Q2,Vt,rfl⟩;exact gI) ?_);rintro _ _ ⟨rfl,Q2,Vt,cR⟩;obtain rfl:=cR.symm;refine ew ?_;refine ak (.cons (.cons (.s2 (.refl _)))) (aX ?_);exact⟨rfl,Q2,Vt,by simp only[bT]⟩
theorem GQ.of{l:List bG}(hm:∀t∈l,dX t)(h:t∈l):GQ (cI l) (dE l) t:=by
 have h1:=pT (hm t h);have h2:E (cI l)=265:=fX _ _;have h3:E (dE l)=12:=fX _ _;refine⟨hm t h,aa,ka aa h1.1 (D0 h),λk=>⟨by have:=h1.2.2 k;omega,ka aa (h1.2.2 k) (DY h k)⟩⟩
theorem ags{sl:aq}(hs:Good sl)(hf:Good fl)(h:GQ sl fl t):E (qW sl fl t)<=48:=by
 obtain⟨h1,h2,h3,h4⟩:=h;have hp:=pT h1;have aua:=hs.1.2 _ (bc h2 0);unfold qW;rw[bm,j9];split
 ·rw[tT];omega
 ·have h5:=h4 aa;have aub:=hf.1.2 _ (bc h5.1 0);have h6:=hp.2.2 aa;rw[bm,bm,j9,dK,dK];omega
theorem we{sl fl:aq}(hs:Good sl)(hf:Good fl):∀{l:List bG},(∀t∈l,GQ sl fl t)->E (lQ sl fl l)<=48*E l
 |[],_=>by simp[lQ]
 |t::l,h=>by
  rw[xS,bm,ei];have h1:=ags hs hf (h t (.head _));have h2:=we hs hf (l:=l) (λu hu=>h u (.tail _ hu));omega
theorem Gh(sl fl:aq)(l:List bG)(t:bG):lQ sl fl (l++[t])=lQ sl fl l++qW sl fl t:=by simp[lQ]
theorem afY{l:List bG}(hl:E l<=32768):HD B w0 (.own 135 1 A1 265 c1 (k_ (wD l))::L) A1 c1 (wD l):=by
 refine⟨by rw[r'];exact aJ.own (.head _),λk=>?_⟩;have h1:=λs=>If l s;unfold wD;rw[bz,Cr];split
 ·have:=h1 256;simp only[vk];simp;omega
 ·rw[<-bz];by_cases hk:k<265
  ·rw[r_ l hk];have:=h1 k;omega
  ·rw[bz,tS bS];simp
theorem acN{l:List bG}(hl:E l<=32768):HD B w0 (.own 135 1 A2 12 c2 (k_ (mf l))::L) A2 c2 (mf l):=by
 refine⟨by rw[nG];exact aJ.own (.head _),λk=>?_⟩;by_cases hk:k<12
 ·rw[yF l hk];have:=Dk l k;omega
 ·rw[bz,tS bS];simp
theorem aaG{l:List bG}(hm:∀t∈l,dX t)(hl:E l<=32768)(hq:E q<=100000):
  bg B w0 203 [bq g,.slice A1 265 c1] (Wx X g 292 A c q (.own 135 1 A1 265 c1 (k_ (wD l))::F))
   (λr L=>∃g' Y A' c',r= .pointer (some ⟨g',0,none⟩)/\L=Wx X g 292 A' c' (q++fK (cI l) 0) (Y++(.own 135 1 A1 265 c1 (k_ (wD l))::F))/\xX B w0 Y g' (cI l)):=by
 have:=VF (X:=X) (g:=g) (A:=A) (c:=c) (afY (B:=B) (w0:=w0) (A1:=A1) (c1:=c1) (L:=F) hl) (by rw[r'];omega) hq;rw[LP hm,r']at this;exact this
theorem YS{l:List bG}(hm:∀t∈l,dX t)(hl:E l<=32768)(hq:E q<=100000)(H:HD B w0 F A2 c2 (mf l)):
  bg B w0 203 [bq g,.slice A2 12 c2] (Wx X g 292 A c q F)
   (λr L=>∃g' Y A' c',r= .pointer (some ⟨g',0,none⟩)/\L=Wx X g 292 A' c' (q++fK (dE l) 0) (Y++F)/\xX B w0 Y g' (dE l)):=by
 have:=VF (X:=X) (g:=g) (A:=A) (c:=c) H (by rw[nG];omega) hq;rw[Kv hm,nG]at this;exact this
theorem QE{l:List bG}(h:32768<E l):lR l=([],6):=by unfold lR;rw[av h]
theorem aaU{l:List bG}(h:¬32768<E l)(h2:¬∀t∈l,dX t):lR l=([],7):=by unfold lR;rw[aB h,aB h2]
theorem QG{l:List bG}(h:¬32768<E l)(h2:∀t∈l,dX t):lR l=(packed (kB l),0):=by unfold lR;rw[aB h,av h2]
theorem Uy{l:List bG}(hb:aJ B w0 F 3 (.slice A (E l) c) (E l) (f_ l))(qc:E l<9223372036854775808)(hm:¬∀t∈l,dX t):
  bg B w0 144 [.slice A (E l) c] F (λr L=>∃A' c',r= .tuple #[.slice A' (E (lR l).1) c',ah (lR l).2]/\L= .own 5 1 A' (E (lR l).1) c' (bv (lR l).1)::F):=by
 have SG:=λhl=>(VI hb hl).mono (R':=λr L=>r= .tuple #[.slice none 0 0,.slice none 0 0,ah 7]/\L=F) λv L' h=>by unfold sq at h;rw[aB hm]at h;exact h
 refine fw func144 58 [0] ?_;refine ag 14 (λjZ=>?_) λjZ=>?_
 ·refine cY ?_;refine aH 5 1 none (aX ?_);rw[QE aa];exact⟨none,0,rfl,rfl⟩
 ·refine dx ?_;refine ai rfl (SG aa) (sF 16 λkp=>?_);refine aD 5 [2,3] 3 ?_;refine aH 5 1 none (aX ?_);rw[aaU aa hm];exact⟨none,0,rfl,rfl⟩
theorem aa3{l:List bG}(hb:aJ B w0 F 3 (.slice A (E l) c) (E l) (f_ l))(qc:E l<9223372036854775808)(hm:∀t∈l,dX t):
  bg B w0 144 [.slice A (E l) c] F (λr L=>∃A' c',r= .tuple #[.slice A' (E (lR l).1) c',ah (lR l).2]/\L= .own 5 1 A' (E (lR l).1) c' (bv (lR l).1)::F):=by
 have SG:=λhl=>(VI hb hl).mono (R':=Rs l F) λv L' h=>by unfold sq at h;rw[av hm]at h;exact h
 refine fw func144 58 [0] ?_;refine ag 14 (λjZ=>?_) λjZ=>?_
 ·refine cY ?_;refine aH 5 1 none (aX ?_);rw[QE aa];exact⟨none,0,rfl,rfl⟩
 ·refine dx ?_;refine ay rfl (SG aa) λA1 A2=>bZ 16 λkp=>?_;refine fb ?_;refine ab (eW [.slice none 0 0,ah 0,.pointer none,.pointer none] ae) rfl (fM λg23=>?_);refine fb ?_;refine aM 5 1 none (mM (L':=Wx [.pointer none,.pointer none] g23 292 none 0 [] (.own 135 1 A1 265 265 (k_ (wD l)):: .own 135 1 A2 12 12 (k_ (mf l))::F)) (.swap (.refl _)) (fb ?_));refine bp ak_ rfl (aaG hm aa ao) rfl ?_;rintro _ _ ⟨g27,Y1,Q1,Yi,rfl,cR,auB⟩;obtain rfl:=cR.symm;refine aD 3 [0,5,7] 2 ?_;have lB:E (cI l)=265:=fX _ _;have l_:E (dE l)=12:=fX _ _;have My:Good (cI l):=j_ aa;have Zb:Good (dE l):=j_ aa;have j8:=rl (cI l) 265 0 aa;have jj:=rl (dE l) 12 0 aa;obtain⟨K1,hK1⟩:=cM (Y1++(.own 135 1 A1 265 265 (k_ (wD l)):: .own 135 1 A2 12 12 (k_ (mf l))::F));have hoK:HD B w0 K1 A2 12 (mf l):=by rw[hK1];exact(acN aa).mono (List.sublist_append_of_sublist_right (.cons _ (.refl _)))
  have hbK:aJ B w0 K1 3 (.slice A (E l) c) (E l) (f_ l):=by rw[hK1];exact hb.mono (List.sublist_append_of_sublist_right (.cons _ (.cons _ (.refl _))))
  have hcK:xX B w0 K1 g27 (cI l):=by rw[hK1];exact auB.mono (sJ _ _)
  have xr:Wk K1 F:=by rw[hK1];exact(ej _ _).trans (.s2 (.refl _))
  rw[<-hK1];refine mM (L':=Wx [bq g27,.pointer none] g23 292 Q1 Yi (fK (cI l) 0) K1) (.refl _) (fb ?_);refine bp ak_ rfl (YS hm aa aa hoK) rfl ?_;rintro _ _ ⟨g33,Y2,Mj,c33,rfl,cR,auC⟩;obtain rfl:=cR.symm;refine dg ?_;obtain⟨K,hK⟩:=cM (Y2++K1);have nD:aJ B w0 K 3 (.slice A (E l) c) (E l) (f_ l):=by rw[hK];exact hbK.mono (fN _ _)
  have Rc:xX B w0 K g27 (cI l):=by rw[hK];exact hcK.mono (fN _ _)
  have KJ:xX B w0 K g33 (dE l):=by rw[hK];exact auC.mono (sJ _ _)
  have hwF:Wk K F:=by rw[hK];exact(ej _ _).trans xr
  rw[<-hK];refine mM (L':=Wt2 g27 g33 g23 Mj c33 (fK (cI l) 0++fK (dE l) 0) K) (.refl _) (dg ?_);refine aw (λzf zL zm=>∃(k:Nat) (A':bh) (c':Nat),(k<=E l)/\E l-k=zm/\Sub zf [(7,bq g23),(36,.slice A (E l) c),(37,ah (E l)),(38,ah k)]/\Wk zL (Wt2 g27 g33 g23 A' c' (fK (cI l) 0++fK (dE l) 0++lQ (cI l) (dE l) (l.take k)) K)) _ ⟨0,Mj,c33,bD _,rfl,a_,bx H5 (au H5 H5 (.refl _))⟩ ?_;rintro _ _ _ ⟨k,A',c',hk,rfl,hs,hp⟩;refine aL hs hp ?_;have hqs:∀k,E (lQ (cI l) (dE l) (l.take k))<=48*E l:=λk=>iY (we My Zb (λt ht=>GQ.of hm (List.take_subset _ _ ht))) jA;have hqk:=hqs k;refine ag 6 (λQ_=>?_) λQ_=>?_
  ·obtain⟨t,ht⟩:=cM (vm l k);have OA:=sd (l:=l) (k:=k) aa;rw[<-ht]at OA;have qb:l.take (k+1)=l.take k++[t]:=by rw[ht];exact aP aa _
   have htm:t∈l:=by rw[ht];exact bc aa _
   refine dg ?_;refine ab (bU 3 ae rfl aA aa [.int .u8 (t.1.toNat:Int),ah t.2.1,ah t.2.2] (kx OA) rfl) rfl ?_;refine fo λg9=>?_;refine dw ?_;refine bp aqq rfl (.perm (akp (GQ.of hm htm) My Zb Rc.cons KJ.cons HU) ((oI (oI (gh (.refl _)))))) rfl ?_;rintro _ _ ⟨rfl,A44,c44,cR⟩;obtain rfl:=cR.symm;refine dg ?_;refine aj ⟨_,aa,k+1,A44,c44,aa,rfl,a_,.trans (bx abL (au abL abL (.refl _))) (.cons (.cons (.skip (.refl _))))⟩
  ·obtain rfl:k=E l:=by omega
   rw[js]at*;have mj:=My.1.2 _ (bc (by omega:256<E (cI l)) 0);refine cN 6 K ?_;refine aF 0 3 ?_;refine aF 4 3 ?_;refine aC 3 (aX ?_);refine aC 7 (gS rfl .no aci rfl (SW (s:=256) My Rc aa (ka aa aa (by unfold CQ;simp)) HU) rfl (by rintro _ _ ⟨rfl,A53,c53,rfl⟩;exact gI) ?_);rintro _ _ ⟨rfl,A53,c53,cR⟩;obtain rfl:=cR.symm;refine dg ?_;refine ay rfl (ag1 _ (by simp only[bm,j9];omega)) λA57 c57=>aD 2 [2,3] 2 ?_;refine ak (.cons (.skip (.skip hwF))) (aX ?_);rw[QG aa hm];have e:kB l=fK (cI l) 0++fK (dE l) 0++lQ (cI l) (dE l) l++hw (cI l) 256:=by unfold kB;simp only[bT]
   rw[e];exact⟨A57,c57,rfl,rfl⟩
theorem agB{l:List bG}(hb:aJ B w0 F 3 (.slice A (E l) c) (E l) (f_ l))(qc:E l<9223372036854775808):
  bg B w0 144 [.slice A (E l) c] F (λr L=>∃A' c',r= .tuple #[.slice A' (E (lR l).1) c',ah (lR l).2]/\L= .own 5 1 A' (E (lR l).1) c' (bv (lR l).1)::F):=by
 by_cases hm:∀t∈l,dX t
 ·exact aa3 hb qc hm
 ·exact Uy hb qc hm
end
section
variable{s2:Value}{s3:Value}{s4:Value}{s5:Value}{l:aq}
theorem Vb(h:P:=by(simp[eH.all,hl])):P:=h
abbrev GK(l:aq)(F:aN)(r:Value)(L:aN):Prop:=∃A' c',r= .slice A' (E l) c'/\L= .own 5 1 A' (E l) c' (bv l)::F
theorem Rx(hb:aJ B w0 F 1 (.slice A 2 c) 2 [s1,s2])(h1:aJ B w0 F 1 s1 (E l1) (bv l1))(h2:aJ B w0 F 1 s2 (E l2) (bv l2))(hl:l=l1++l2)(hn:E l<=1099511627776):
  bg B w0 52 [.slice A 2 c] F (GK l F):=
 yc (P:=[(s1,l1),(s2,l2)]) hb (by intro y hy;simp only[fq,kS,nL]at hy;rcases hy with rfl|rfl<;>first|exact h1|exact h2) rfl Vb hn ao
theorem J2(hb:aJ B w0 F 1 (.slice A 3 c) 3 [s1,s2,s3])(h1:aJ B w0 F 1 s1 (E l1) (bv l1))(h2:aJ B w0 F 1 s2 (E l2) (bv l2))(h3:aJ B w0 F 1 s3 (E l3) (bv l3))(hl:l=l1++(l2++l3))(hn:E l<=1099511627776):
  bg B w0 52 [.slice A 3 c] F (GK l F):=
 yc (P:=[(s1,l1),(s2,l2),(s3,l3)]) hb (by intro y hy;simp only[fq,kS,nL]at hy;rcases hy with rfl|rfl|rfl<;>first|exact h1|exact h2|exact h3) rfl Vb hn ao
theorem Ry(hb:aJ B w0 F 1 (.slice A 4 c) 4 [s1,s2,s3,s4])(h1:aJ B w0 F 1 s1 (E l1) (bv l1))(h2:aJ B w0 F 1 s2 (E l2) (bv l2))(h3:aJ B w0 F 1 s3 (E l3) (bv l3))(h4:aJ B w0 F 1 s4 (E l4) (bv l4))(hl:l=l1++(l2++(l3++l4)))(hn:E l<=1099511627776):
  bg B w0 52 [.slice A 4 c] F (GK l F):=
 yc (P:=[(s1,l1),(s2,l2),(s3,l3),(s4,l4)]) hb (by intro y hy;simp only[fq,kS,nL]at hy;rcases hy with rfl|rfl|rfl|rfl<;>first|exact h1|exact h2|exact h3|exact h4) rfl Vb hn ao
theorem J3(hb:aJ B w0 F 1 (.slice A 5 c) 5 [s1,s2,s3,s4,s5])(h1:aJ B w0 F 1 s1 (E l1) (bv l1))(h2:aJ B w0 F 1 s2 (E l2) (bv l2))(h3:aJ B w0 F 1 s3 (E l3) (bv l3))(h4:aJ B w0 F 1 s4 (E l4) (bv l4))(h5:aJ B w0 F 1 s5 (E l5) (bv l5))(hl:l=l1++(l2++(l3++(l4++l5))))(hn:E l<=1099511627776):
  bg B w0 52 [.slice A 5 c] F (GK l F):=
 yc (P:=[(s1,l1),(s2,l2),(s3,l3),(s4,l4),(s5,l5)]) hb (by intro y hy;simp only[fq,kS,nL]at hy;rcases hy with rfl|rfl|rfl|rfl|rfl<;>first|exact h1|exact h2|exact h3|exact h4|exact h5) rfl Vb hn ao
end
section
variable{l:aq}
def akb:cQ:=w3.map λ(n:Nat)=>Value.int .u32 (n:Int)
def cK(B:Nat)(w0:World):Prop:=aJ B w0 [] 1 (.slice (some ⟨0,0,none⟩) 16 16) 16 akb
theorem Qr(h:i<16):akb[i]? =some (.int .u32 ((w3.getD i 0:Nat):Int)):=by
 have h2:i<E w3:=h;unfold akb;rw[ib,fx h2,bz,fx h2];rfl
theorem Iu{x:Operand}{ty t:TypeId}(h:ev fr x=some (.int .u32 (n:Int)))(hn:n<4294967296):gX C fr L (.unOp .xor t x) ty (.int .u32 ((4294967295 ^^^ n:Nat):Int)):=λa w ha hw d pos af g=>by
 have e:=JX (a:=4294967295) (b:=n) aE hn;have e2:(if IntKind.u32.signed=true then (-1:Int) else IntKind.u32.max)=((4294967295:Nat):Int):=rfl;rw[<-e];simp[execOp,Op.unary,ha.tmp h,Op.intBits,e2]
theorem yz{x:Operand}{ty t:TypeId}(HT:cK C.B C.w0)(hs:qQ C.P t=true)(he:ev fr x=some (.pointer (some ⟨0,0+i,none⟩)))(hi:i<16):gX C fr L (.load t x) ty (.int .u32 ((w3.getD i 0:Nat):Int)):=
 al (A:=some ⟨0,0,none⟩) (j:=i) (nn:=16) (c:=16) (xs:=akb) hs (by rw[he];simp[C1]) (HT.mono (List.nil_sublist _)) aE (Qr hi)
theorem ajc(HT:cK B w0)(hs:s<4294967296)(hr:aJ B w0 F 1 (.slice A 1 c) 1 [.slice A2 (E l) c2])(hb:gw B w0 F A2 c2 l)(hl:E l<=1099511627776):
  bg B w0 146 [.int .u32 (s:Int),.slice A 1 c] F (λr L=>r= .int .u32 ((mw s l:Nat):Int)/\L=F):=by
 obtain⟨x0,hx0⟩:=cM (4294967295 ^^^ s);have avo:x0<4294967296:=by rw[hx0];exact tw (n:=32) aE hs
 refine ba func146 46 [0,1] 8 ?_;refine ab (Iu (n:=s) rfl hs) rfl (dM ?_);refine aw (λzf zL zm=>∃(k x:Nat),(k<=1/\x<4294967296/\(k=0->x=x0)/\(k=1->x=l.foldl GW x0))/\1-k=zm/\Sub zf [(5,.int .u32 (x:Int)),(12,.slice A 1 c),(13,ah 1),(14,ah k)]/\Wk zL (F)) _ ⟨0,4294967295 ^^^ s,⟨bD _,by rw[<-hx0];exact avo,λ_=>hx0.symm,λh=>absurd h aE⟩,rfl,a_,.refl _⟩ ?_;rintro _ _ _ ⟨k,x,⟨hk,hx,wQ,xn⟩,rfl,hs,hp⟩;refine aL hs hp ?_;clear hs hp;refine ag 6 (λmj=>?_) λmj=>?_
 ·obtain rfl:k=0:=by omega
  obtain rfl:x=x0:=wQ rfl;refine dg ?_;refine ab (al ae rfl aA aa (show([.slice A2 (E l) c2]:cQ)[0*1]? =some _ from rfl)) rfl (fF ?_);refine aw (λzf zL zm=>∃(j y:Nat),(j<=E l/\y<4294967296/\y=(l.take j).foldl GW x)/\E l-j=zm/\Sub zf [(5,.int .u32 (y:Int)),(12,.slice A 1 c),(13,ah 1),(14,ah 0),(18,.slice A2 (E l) c2),(19,ah (E l)),(20,ah j)]/\Wk zL (F)) _ ⟨0,x,⟨bD _,hx,by rw[oC];rfl⟩,rfl,a_,.refl _⟩ ?_;rintro _ _ _ ⟨j,y,⟨hj,hy,hye⟩,rfl,hs,hp⟩;refine aL hs hp ?_;clear hs hp;refine ag 6 (λmQ=>?_) λmQ=>?_
  ·have yO:=(l.getD j 0).toNat_lt;have CX:y ^^^ (l.getD j 0).toNat<4294967296:=tw (n:=32) hy aa;have qb:=aP (show j<E l by omega) (0:UInt8);obtain⟨d,hd⟩:=cM (l.getD j 0);obtain⟨z,hz⟩:=cM (y ^^^ d.toNat);rw[<-hd]at yO CX qb;rw[<-hz]at CX;have sI:=Kf CX;have hzs:=Ud z 4;have awY:=Ud (yr z) 4;have hza:z &&& 15<16:=OK (n:=4) z aE;have asc:yr z &&& 15<16:=OK (n:=4) (yr z) aE;refine cY ?_;rw[<-hd];refine dg ?_;refine ab (be (r:=(d.toNat:Int)) underlying5 underlying135 rfl (zO aa aa)) rfl (ab (lg rfl rfl (r:=(z:Int)) (by rw[hz];exact JX hy aa)) rfl (dw ?_));refine ab (dH rfl rfl aE (r:=((z >>> 4:Nat):Int)) (Hw z 4)) rfl (aX ?_);refine ab (kj rfl rfl (r:=((z &&& 15:Nat):Int)) (abE CX (b:=15) aE)) rfl (ab (aR (i:=z &&& 15) underlying303 ae rfl rfl rfl hza) rfl (ab (yz HT ae rfl hza) rfl (ab (lg rfl rfl (r:=((yr z:Nat):Int)) (JX aa (F9 _))) rfl (aD 1 [5,12,13,14,18,19,20] 3 ?_))));refine ab (dH rfl rfl aE (r:=((yr z >>> 4:Nat):Int)) (Hw (yr z) 4)) rfl (aX ?_);refine ab (kj rfl rfl (r:=((yr z &&& 15:Nat):Int)) (abE sI (b:=15) aE)) rfl (ab (aR (i:=yr z &&& 15) underlying303 ae rfl rfl rfl asc) rfl (ab (yz HT ae rfl asc) rfl (ab (lg rfl rfl (r:=((GW y d:Nat):Int)) (by rw[show GW y d=yr (yr z) by rw[hz];rfl];exact JX aa (F9 _))) rfl (cY ?_))));refine aj ⟨_,aa,j+1,GW y d,⟨aa,VJ hy d,by rw[qb,List.foldl_append,<-hye];rfl⟩,rfl,a_,.refl _⟩
  ·obtain rfl:j=E l:=by omega
   rw[js]at hye;refine dh ?_;refine aj ⟨_,aa,1,y,⟨ga _,hy,λh=>absurd h aE,λ_=>hye⟩,rfl,a_,.refl _⟩
 ·obtain rfl:k=1:=by omega
  have xn:=xn rfl;refine cY ?_;refine ab (Iu (n:=x) rfl hx) rfl (dx ?_);exact⟨by rw[xn,hx0];rfl,rfl⟩
theorem al1(HT:cK B w0)(hb:gw B w0 F A c l)(hl:E l<=1099511627776):
  bg B w0 85 [.slice A (E l) c] F (λr L=>r= .int .u32 ((mw 0 l:Nat):Int)/\L=F):=by
 refine ba func85 6 [0] 8 ?_;refine cv (aG fO [_] rfl rfl bY aa aa) λA4=>ai rfl (ajc (s:=0) HT aE aA aA hl) (fb ?_);exact ak (L':=F) (.skip (.refl _)) (cm 1)
theorem u8w(n:Nat):IntKind.u8.wrap ((n:Nat):Int)=((UInt8.ofNat n).toNat:Int):=by
 show((n:Nat):Int)%2^8=_;rw[rD];omega
theorem af5:bg B w0 84 [.int .u32 (s:Int)] F (λr L=>∃A',r= .slice A' 4 4/\L= .own 5 1 A' 4 4 (bv (kz s))::F):=by
 refine ba func84 15 [0] 8 ?_;refine ab (be (r:=((UInt8.ofNat s).toNat:Int)) underlying135 underlying5 rfl (u8w s)) rfl (aX ?_);refine ab (dH rfl rfl aE (r:=((s >>> 8:Nat):Int)) (Hw s 8)) rfl (ab (be (r:=((UInt8.ofNat (s >>> 8)).toNat:Int)) underlying135 underlying5 rfl (u8w (s >>> 8))) rfl (aX ?_));refine ab (dH rfl rfl aE (r:=((s >>> 16:Nat):Int)) (Hw s 16)) rfl (ab (be (r:=((UInt8.ofNat (s >>> 16)).toNat:Int)) underlying135 underlying5 rfl (u8w (s >>> 16))) rfl (aX ?_));refine ab (dH rfl rfl aE (r:=((s >>> 24:Nat):Int)) (Hw s 24)) rfl (ab (be (r:=((UInt8.ofNat (s >>> 24)).toNat:Int)) underlying135 underlying5 rfl (u8w (s >>> 24))) rfl (cv (aG bP [_,_,_,_] rfl rfl bY aa aa) λA14=>dx ?_));exact⟨A14,rfl,rfl⟩
theorem qJ(HT:cK B w0)(hb:gw B w0 F A c l)(hl:E l<=1099511627776):
  bg B w0 46 [.slice A (E l) c] F (λr L=>∃A' c',r= .slice A' (E (b7 l)) c'/\L= .own 5 1 A' (E (b7 l)) c' (bv (b7 l))::F):=by
 rw[dD];refine ba func46 9 [0] 8 ?_;refine ay rfl (mu l aA hl) λA4 c4=>aX ?_;refine ai rfl (al1 HT aA hl) ?_;refine bp aqS rfl (af5 (s:=mw 0 l)) rfl ?_;rintro _ _ ⟨A7,rfl,cR⟩;obtain rfl:=cR.symm;refine dB (bB bP rfl aU rfl aA bY aa aa) λA8 c8=>fb ?_;refine ak (L':=.own 5 1 A8 (E l+4) c8 (bv l++bv (kz (mw 0 l)))::F) (.skip (.refl _)) (aX ?_);exact⟨A8,c8,rfl,by unfold b7 bv;rw[iF]⟩
theorem aqV{l:aq}(h1:gw B w0 F A c l)(h2:gw B w0 F A2 c2 l2)(hl:E l<=1099511627776):
  bg B w0 132 [.slice A (E l) c,.slice A2 (E l2) c2] F (λr L=>r= .bool (decide (l=l2))/\L=F):=by
 refine fw func132 26 [0,1] ?_;refine ag 15 (λig=>?_) λig=>?_
 ·refine cY ?_;exact⟨by rw[oi (λh=>ig (by rw[h]))],rfl⟩
 ·refine fF ?_;refine aw (λzf zL zm=>∃(k:Nat),(k<=E l/\l.take k=l2.take k)/\E l-k=zm/\Sub zf [(0,.slice A (E l) c),(1,.slice A2 (E l2) c2),(12,ah (E l)),(13,ah k)]/\Wk zL (F)) _ ⟨0,⟨bD _,rfl⟩,rfl,a_,.refl _⟩ ?_;rintro _ _ _ ⟨k,⟨hk,heq⟩,rfl,hs,hp⟩;refine aL hs hp (ag 6 (λgT=>?_) λgT=>?_)
  ·have ht1:=aP (show k<E l by omega) (0:UInt8);have ht2:=aP (show k<E l2 by omega) (0:UInt8);have S2:(bv l)[k*1]? =some (.int .u8 ((l.getD k 0).toNat:Int)):=by rw[cH];simp[bv,List.getD,fx (show k<E l by omega)]
   have KN:(bv l2)[k*1]? =some (.int .u8 ((l2.getD k 0).toNat:Int)):=by rw[cH];simp[bv,List.getD,fx (show k<E l2 by omega)]
   refine bK 15 ?_;refine bJ (al ae rfl h1 aa S2) rfl (fc ?_);refine bJ (al ae rfl h2 aa KN) rfl (ag 3 (λkJ=>?_) λkJ=>?_)
   ·refine dM ?_;exact⟨by rw[oi (λh=>kJ (by rw[h]))],rfl⟩
   ·refine dg ?_;refine aj ⟨_,aa,k+1,⟨aa,by rw[ht1,ht2,heq,oF.1 (show(l.getD k 0).toNat=(l2.getD k 0).toNat by omega)]⟩,rfl,a_,.refl _⟩
  ·refine dM ?_;have e:l=l2:=by
    have:=heq
    rwa [gv aa,gv aa]at this
   exact⟨by rw[pK e],rfl⟩
theorem acL{l:aq}{n2:Nat}{xs ys:cQ}(e1:n=E l)(e2:xs=bv l)(e3:n2=E l2)(e4:ys=bv l2)(h1:aJ B w0 F 1 (.slice A n c) n xs)(h2:aJ B w0 F 1 (.slice A2 n2 c2) n2 ys)(hl:E l<=1099511627776):
  bg B w0 132 [.slice A n c,.slice A2 n2 c2] F (λr L=>r= .bool (decide (l=l2))/\L=F):=by
 subst e1;subst e2;subst e3;subst e4;exact aqV h1 h2 hl
theorem asY{xs:cQ}(HT:cK B w0)(e1:n=E l)(e2:xs=bv l)(hb:aJ B w0 F 1 (.slice A n c) n xs)(hl:E l<=1099511627776):
  bg B w0 85 [.slice A n c] F (λr L=>r= .int .u32 ((mw 0 l:Nat):Int)/\L=F):=by
 subst e1;subst e2;exact al1 HT hb hl
theorem xe(HT:cK B w0)(hb:gw B w0 F A c l)(hl:E l<=1099511627776):
  bg B w0 176 [.slice A (E l) c] F (λr L=>∃A' c',r= .tuple #[.slice A' (E (aT l).1) c',ah (aT l).2]/\L= .own 5 1 A' (E (aT l).1) c' (bv (aT l).1)::F):=by
 refine dQ.yk hb λoP _=>?_;refine fw func176 24 [0] ?_;refine ag 21 (λh9=>?_) λh9=>?_
 ·have e:aT l=([],1):=av aa;rw[e];refine cY ?_;exact aH 5 1 none (bO 1)
 ·have h4:4<=E l:=by omega
  obtain⟨m,hm⟩:=cM (E l-4);have hmm:(E l:Int)-4=(m:Int):=by omega
  have hcut:=hb.cut (k:=m) aa;have vM:=hb.h_ (k:=m) aa;have hd1:(bv l).drop (m*1)=bv (l.drop m):=by rw[cH];simp[bv,uK]
  have Y_:(bv l).take (m*1)=bv (l.take m):=by rw[cH];simp[bv,mY]
  rw[hd1]at hcut;rw[Y_]at vM;have q9:E l-m=E (l.drop m):=by rw[jM]
  have oB:m=E (l.take m):=by rw[fZ];omega
  have G4:E (l.take m)<=1099511627776:=by rw[fZ];omega
  have hl4:E (l.drop m)<=1099511627776:=by rw[jM];omega
  refine cN 4 F ?_;refine aF 0 2 ?_;refine aS 2 rfl (bV (i:=m) (size:=1) underlying27 ae rfl rfl hmm aa) (aF 3 2 ?_);refine aS 5 rfl (bQ (i:=m) (size:=1) underlying27 ae rfl rfl hmm aa) (aC 6 (lu rfl rfl (asY (l:=l.take m) HT oB rfl vM G4) (aC 7 (gS rfl .no aqS rfl (af5 (s:=mw 0 (l.take m))) rfl (by rintro _ _ ⟨US,rfl,rfl⟩;exact gI) ?_))));rintro _ _ ⟨US,rfl,cR⟩;obtain rfl:=cR.symm;refine aC 8 (lu rfl rfl (acL (l:=l.drop m) (l2:=kz (mw 0 (l.take m))) q9 rfl rfl rfl hcut.cons (aJ.own (.head _)) hl4) (dI 9 ?_));refine ag 2 (λqM=>?_) λqM=>?_
  ·have e:aT l=([],5):=by unfold aT;rw[aB aa,aB (by rw[<-hm];exact qM)]
   rw[e];refine aD 4 [2,3] 3 ?_;exact aH 5 1 none (ak (L':=.own 5 1 none 0 0 []::F) (.cons (.skip (.refl _))) (bO 1))
  ·have e:aT l=(l.take m,0):=by unfold aT;rw[aB aa,av (by rw[<-hm];exact gE.1 qM),<-hm]
   rw[e];simp only;rw[<-oB];refine dw ?_;refine ab (bQ (i:=m) (size:=1) underlying27 ae rfl rfl hmm aa) rfl (ay rfl (mu (l.take m) vM.cons aa) λX8 c23=>aD 2 [2,3] 2 ?_);exact ak (L':=.own 5 1 X8 m c23 (bv (l.take m))::F) (.cons (.skip (.refl _))) (bO 1)
end
theorem aaA(hb:gw B w0 F A c b)(ey:E b<=1000000):
  bg B w0 83 [.slice A (E b) c] F (λr L=>∃A' c',r= .tuple #[.slice A' (E (Hx b).1) c',.bool (decide (Ue b))]/\L= .own 5 1 A' (E (Hx b).1) c' (bv (Hx b).1)::F):=by
 have l_:=IK b;refine ba func83 22 [0] 9 ?_;refine ay rfl (amS hb ey) λA8 c8=>ay rfl (agB (l:=fS b) aA aa) λA9 c9=>?_;refine bC 13 (λmj=>?_) λmj=>?_
 ·have e:decide ((E (Hx b).1:Int)<E b)=decide (Ue b):=xz.2 ⟨λh=>⟨mj,aa⟩,λh=>(by have:=h.2;omega)⟩;refine aD 12 [2,3] 2 ?_;refine ak (.cons (.skip (.refl _))) (aX ?_);exact⟨A9,c9,by rw[<-e];rfl,rfl⟩
 ·have e:false=decide (Ue b):=(oi λh=>mj h.1).symm;refine aD 7 [2,3] 2 ?_;refine ak (.cons (.skip (.refl _))) (aX ?_);exact⟨A9,c9,by rw[<-e];rfl,rfl⟩
theorem ahC{p:Bool}(h:32768<E b):ij b p=([],6):=by unfold ij;rw[av h]
theorem J_{p:Bool}(h:¬32768<E b):ij b p=(b7 (uh b p++(jl b p).2),0):=by unfold ij;rw[aB h]
theorem M_(HT:cK B w0){p:Bool}(hb:gw B w0 F A c b)(ey:E b<=1099511627776):
  bg B w0 44 [.slice A (E b) c,.bool p] F (λr L=>∃A' c',r= .tuple #[.slice A' (E (ij b p).1) c',ah (ij b p).2]/\L= .own 5 1 A' (E (ij b p).1) c' (bv (ij b p).1)::F):=by
 refine fw func44 41 [0,1] ?_;refine ag 14 (λnj=>?_) λnj=>?_
 ·rw[ahC aa];refine cY ?_;exact aH 5 1 none (bO 1)
 ·rw[J_ aa];refine dA ?_;refine dq (λzf zL=>∃(M:aN) (Ab:bh) (cb:Nat) (w:UInt8) (bd:aq),(jl b p=(w,bd)/\Wk M F/\aJ B w0 M 1 (.slice A (E b) c) (E b) (bv b)/\aJ B w0 M 1 (.slice Ab (E bd) cb) (E bd) (bv bd))/\Sub zf [(0,.slice A (E b) c),(6,.int .u8 (w.toNat:Int)),(7,.slice Ab (E bd) cb)]/\Wk zL (M)) ?_ ?_
  ·refine fc ?_;refine ab (lf rfl) rfl (fB 2 (λj0=>?_) λj0=>?_)
   ·have anp:p=false:=by cases p<;>simp at j0⊢
    refine fc ?_;refine ay rfl (aaA hb aa) λGA Q4=>ag 12 (λrq=>?_) λrq=>?_
    ·refine aD 4 [0,6,7] 0 ?_;exact bo ⟨.own 5 1 GA (E (Hx b).1) Q4 (bv (Hx b).1)::F,GA,Q4,1,(Hx b).1,⟨by unfold jl;rw[av ⟨anp,rq⟩],.skip (.refl _),hb.cons,aJ.own (.head _)⟩,a_,.refl _⟩
    ·refine aX ?_;exact bo ⟨.own 5 1 GA (E (Hx b).1) Q4 (bv (Hx b).1)::F,A,c,0,b,⟨by unfold jl;rw[aB λk=>rq k.2],.skip (.refl _),hb.cons,hb.cons⟩,a_,.refl _⟩
   ·have anp:¬p=false:=by cases p<;>simp at j0⊢
    refine aX ?_;exact bo ⟨F,A,c,0,b,⟨by unfold jl;rw[aB λk=>anp k.1],.refl _,hb,hb⟩,a_,.refl _⟩
  ·rintro _ _ ⟨M,Ab,cb,w,bd,⟨hY,hM,hbM,hbB⟩,hs,hp⟩;refine aL hs hp (aX ?_);have Oj:E bd<=E b:=by have:=yj b p;rw[hY]at this;exact this
   have hBH:uh b p=[w]++(aW (E b)++aW (E bd)):=by unfold uh;rw[hY];rfl
   have Sy:(jl b p).2=bd:=by rw[hY]
   have Zl:=aY (x:=E b) aa;have ry:=aY (x:=E bd) aa;have hlH:E (uh b p)<=30:=by rw[hBH,bm,bm,tz];omega
   rw[Sy];refine ew ?_;refine cv (aG bP [_] rfl rfl bY aa aa) λX9=>ew ?_;refine ab (be underlying3 underlying60 rfl (r:=(E b:Int)) (eQ aa aa)) rfl (ay rfl (ji (E b) aa) λA29 c29=>ew ?_);refine ab (be underlying3 underlying60 rfl (r:=(E bd:Int)) (eQ aa aa)) rfl (ay rfl (ji (E bd) aa) λMj c33=>cv (aG fO [_,_,_] rfl rfl bY aa aa) λtI=>ay rfl (J2 (l1:=[w]) (l2:=aW (E b)) (l3:=aW (E bd)) aA aA aA aA hBH aa) λDe c35=>dg ?_);refine cv (aG fO [_,_] rfl rfl bY aa aa) λMF=>ay rfl (Rx (l1:=uh b p) (l2:=bd) aA aA aA rfl tg) λMG RR=>?_;refine ay rfl (qJ HT (l:=uh b p++bd) aA tg) λA40 c40=>?_;refine aD 2 [4,5] 2 ?_;exact ak (.cons (.s6 (.skip hM))) (bO 1)
end Go.Proofs.YtaodmbolhoafcaaGreatDoor
