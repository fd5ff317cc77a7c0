/-
  Texts of one proof, joined: part 3. No condition.
-/
import Derived.Test.YtaodmbolhoafcaaGreatDoorZv2
import Derived.Test.YtaodmbolhoafcaaGreatDoorRows
import Derived.Lib.AppendStr
import Derived.Lib.SliceRun
open List renaming length→E
open Go.RowKit Go.Proofs.Tryz
namespace Go.Proofs.YtaodmbolhoafcaaGreatDoor
set_option linter.unusedVariables false
set_option linter.unusedSimpArgs false
set_option maxRecDepth 20000
variable{P:Prop}{l:aq}{i:Nat}{o:Nat->Nat}{N:Nat}{q:List Bool}{s a b m p j v:Nat}{pre:aq}{B:Nat}{w0:World}{F:aN}{A:bh}{n c g:Nat}{bt:TypeId}{f:Ch->aN}{X:cQ}{Al:bh}{cl:Nat}{L0:aN}{h3 h5:Nat}{C0:Ch}
theorem apV(h:P:=by(rw[show(packed q).length+1=E (room q) by omega];rfl)):P:=h
theorem HO(h:P:=by(rw[afn (by omega)])):P:=h
theorem uf(h:P:=by(rintro _ _ rfl;exact gI)):P:=h
theorem U7(h:P:=by(rw[<-FN q b];simp)):P:=h
theorem RP(l:aq)(k:Nat)(u:UInt8):(bv l).set k (.int .u8 u.toNat)=bv (l.set k u):=by simp[bv,KX]
theorem RO(l:aq):E (bv l)=E l:=by simp[bv]
theorem abB(q:List Bool)(b:Bool)(hq:E q<=8000000):
  bg B w0 212 [bq g,.int .u64 b.toNat] (.bI g bt [.slice A (E (packed q)) c,ah (E q)]:: .own 5 1 A (E (packed q)) c (bv (packed q))::F)
   (λr L=>r= .tuple #[]/\∃A' c',L= .bI g bt [.slice A' (E (packed (q++[b]))) c',ah (E (q++[b]))]:: .own 5 1 A' (E (packed (q++[b]))) c' (bv (packed (q++[b])))::F):=by
 have kh:=dz q;have KL:=CD q;have nD:=Bool.toNat_le b;refine fw func212 48 [0,1] ?_;refine dq (λzf zL=>∃(A':bh) (c':Nat),Sub zf [(0,bq g),(1,.int .u64 b.toNat)]/\Wk zL (.bI g bt [.slice A' (E (room q)) c',ah (E q)]:: .own 5 1 A' (E (room q)) c' (bv (room q))::F)) ?_ ?_
 ·refine dw ?_;refine ab (kl rfl rfl aa (Qy _)) rfl (ag 3 (λh9=>?_) λh9=>?_)
  ·refine dw ?_;refine cC bP rfl rfl rfl rfl rfl (λ_=>rfl) aU aa aa ?_;intro _ Ro Vr;refine fb ?_;exact bo ⟨Ro,Vr,a_,bx apV (au aa (by rw[<-P3 aa];simp[bv]) (.refl _))⟩
  ·refine aX ?_;exact bo ⟨A,c,a_,bx HO (au HO HO (.refl _))⟩
 ·rintro _ _ ⟨A',c',hs,hp⟩;refine aL hs hp (aX ?_);refine jH (A:=A') (n:=E (room q)) (xs:=bv (room q)) (.tail _ (.head _)) aa ?_;intro ad hA;subst hA;refine lx (.bI g bt [.slice (some ad) (E (room q)) c',ah (E q)]::F) ?_;refine aF 0 8 ?_;refine aS 8 rfl (iq rfl rfl aa (ajH aa)) (aS 9 rfl (aO (size:=1) (i:=E q/8) underlying27 ae rfl rfl rfl aa) (aF 11 6 ?_));refine aS 17 rfl (kl rfl rfl aa (Qy _)) (dI 18 ?_);refine aS 19 rfl (gG rfl rfl aa (alU aa)) (aC 10 (aX ?_));refine aS 20 rfl (uv rfl rfl (aeR q b)) (aS 21 rfl (aO (size:=1) (i:=E q/8) underlying27 ae rfl rfl rfl aa) (aC 22 (ky rfl .no (fy ae rfl rfl rfl aU (by rw[RO];omega)) uf ?_)));rintro _ _ rfl;refine di [0] ?_;refine dM ?_;refine ak (L':=.bI g bt [.slice (some ad) (E (packed (q++[b]))) c',ah (E (q++[b]))]:: .own 5 1 (some ad) (E (packed (q++[b]))) c' (bv (packed (q++[b])))::F) (bx U7 (au U7 (by rw[cH,RP,FN]) (.refl _))) (aX ?_);exact⟨rfl,_,c',rfl⟩
theorem akX(q:List Bool)(i:Nat)(hi:i<E q)(hq:E q<=8000000000)(rest:cQ)(l:aq)(hl:packed q=l)(hn:n=E l)(hs:m9 (.bI g bt (.slice A n c::rest)) F f)(hb:aJ B w0 F 1 (.slice A n c) n (bv l)):
  bg B w0 339 [bq g,ah i] F
   (λr L=>r= .int .u64 (gQ q i)/\L=F):=by
 subst hn;subst hl;have kh:=dz q;refine ba func339 19 [0,1] 10 ?_;refine ab (bL ae rfl hs rfl) rfl (aX ?_);refine ab (iq rfl rfl aa (ajH aa)) rfl (ab (az (i:=i/8) underlying27 ae rfl rfl rfl aa aA) rfl (ew ?_));refine ab (kl rfl rfl aa (Qy _)) rfl (aX ?_);refine ab (dH rfl rfl aa (aou aa)) rfl (ab (be underlying5 underlying60 rfl (wrap_u64 _ (aot _ _ _))) rfl (ab (kj rfl rfl (ahz q hi)) rfl (aD 1 [4] 0 ?_)));exact cm 3
theorem Fl(q:List Bool)(p m:Nat)(hp:p<=E q)(hm:m<=64)(hq:E q<=8000000000)(rest:cQ)(l:aq)(hl:packed q=l)(hn:n=E l)(hs:m9 (.bI g bt (.slice A n c::ah (E q)::rest)) F f)(hb:aJ B w0 F 1 (.slice A n c) n (bv l)):
  bg B w0 340 [bq g,ah p,ah m] F
   (λr L=>r= .int .u64 (part q p m)/\L=F):=by
 refine ba func340 31 [0,1,2] 18 ?_;refine aw (λzf zL zm=>∃(k:Nat),(k<=m)/\m-k=zm/\Sub zf [(0,bq g),(1,ah p),(2,ah m),(7,.int .u64 (part q p k)),(8,ah (p+k:Nat))]/\Wk zL (F)) _ ⟨0,bD _,rfl,a_,.refl _⟩ ?_;rintro _ _ _ ⟨k,hk,rfl,hs,hp⟩;refine aL hs hp ?_;clear hs hp;have gU:=lT q p k;have SC:=mn q (p+k);have Oz:part q p (k+1)=2*part q p k+gQ q (p+k):=rfl;refine ag 10 (λgT=>?_) λgT=>?_
 ·refine dg ?_;refine ab (gG rfl rfl aa (ahY gU aa)) rfl (dA ?_);refine ab (bL ae rfl hs rfl) rfl (ab (yA (m:=(p+k:Nat)) rfl rfl) rfl (ag 2 (λkJ=>?_) λkJ=>?_))
  ·refine fb ?_;refine ai rfl (akX q (p+k) aa hq _ l hl hn hs hb) (ab (uv rfl rfl (aof gU aa SC)) rfl (aD 1 [0,1,2,7,8] 7 ?_));refine aj ⟨_,aa,k+1,aa,rfl,a_,.refl _⟩
  ·have h0:=rf q (i:=p+k) aa;refine aD 7 [0,1,2,7,8] 0 ?_;refine aj ⟨_,aa,k+1,aa,rfl,a_,.refl _⟩
 ·refine bK 13 ?_;have hk':k=m:=by omega
  subst hk';exact⟨rfl,rfl⟩
theorem gM:type_of% @Lib.hid:= @Lib.hid
set_option maxHeartbeats 1000000 in
theorem ahS{B:Nat}{v:Value}{n:Nat}{l:aq}(w:World)(h:Rd w B 1 v n (bv l))(hn:n<=1099511627776):
  Calls Tryz.prog 36 #[v] w λe w'=>∃v',e= .returned v'/\w'.ownsRow w.heap.size 5 1 v' n (bv l)/\Below w.heap.size w w':=by
 have h':=h;obtain⟨A,c,rfl,hc,hl,hr⟩:=h;have ano:=λw=>Lib.run_eql_slice_nil (P:=Tryz.prog) w 27 5 A n c 0 0 underlying27;rcases A with _|ad
 ·have h0:n=0:=by
   rcases Be n with h0|h0
   ·exact h0
   ·obtain⟨ad,h,_⟩:=hr h0;cases h
  subst h0;have hl0:l=[]:=mg wI;subst hl0;clear hr hl h'
  go_enter func36,Tryz.ntmps36
  go_wp2
  go_ret
  exact⟨_,rfl,World.ownsRow_nil _ _ _ _,EZ _ _⟩
 ·have oP:n<=c:=hc;have kQ:(w.alloc (.cells #[] 5)).ownsRow w.heap.size 5 1 (.slice (some ⟨w.heap.size,0,none⟩) 0 0) 0 []:=⟨rfl,.inr ⟨_,0,#[],rfl,ga _,EY w _,ga _,yd,rfl,rfl⟩⟩
  have hr':Rd (w.alloc (.cells #[] 5)) B 1 (.slice (some ad) n c) n (bv l):=by
   obtain⟨A,c',hv,h2,h3,h4⟩:=h';refine⟨A,c',hv,h2,h3,λhn=>?_⟩;obtain⟨ad',e,hb,iw⟩:=h4 hn;refine⟨ad',e,hb,λj u hu=>?_⟩;have:=iw j u hu;rw[World.cell?_alloc_lt w _ _ (World.block_lt_of_cell? w _ this)];exact this
  have H1:=gM kQ;have H2:=gM hr';clear hr hl h' kQ hr'
  go_enter func36,Tryz.ntmps36
  have SB:Below w.heap.size w (w.alloc (.cells #[] 5)):=(EZ _ _).alloc (ga _) _;have z7:w.heap.size<=(w.alloc (.cells #[] 5)).heap.size:=SB.size;have H3:=gM SB;have H4:=gM z7;clear SB z7
  go_wp2_with (at_builtin;refine UJ bP rfl (.tmp 5) (.tmp 6) rfl rfl H1.out rfl H2.out (uk _) H3.out (ga _) H4.out aa aa ?_;intro v2 w2 Cj nD AW)
  go_ret
  have e0:0+n=n:=by omega
  rw[e0,mh]at Cj;exact⟨v2,rfl,Cj,nD⟩
theorem mu(l:aq)(hb:aJ B w0 F 1 (.slice A n c) n (bv l))(hn:n<=1099511627776):
  bg B w0 36 [.slice A n c] F (λr L=>∃A' c',r= .slice A' n c'/\L= .own 5 1 A' n c' (bv l)::F):=
 dQ.Bt λw hw=>ahS w (hb w hw) hn
theorem apC(h:P:=by(exact dG (by first|(exact⟨λh=>PM h hp,False.elim⟩)|omega|(simp at ig;done)))):P:=h
theorem ahs(h:P:=by(exact dT (by first|(exact⟨λh=>PM h hp,False.elim⟩)|omega|(simp at ig;done)))):P:=h
theorem ye(h:P:=by(rw[aiD,gN])):P:=h
theorem ap6(h:P:=by(rintro _ _ ⟨rfl,Mk,c41,rfl⟩;exact gI)):P:=h
theorem B6(h:P:=by(rw[aiC,bT])):P:=h
theorem ao4(q:List Bool)(b:Bool)(hq:E q<=8000000):
  bg B w0 212 [bq g,.int .u64 b.toNat] (.bI g bt (.slice A (E (packed q)) c::ah (E q)::X):: .own 5 1 A (E (packed q)) c (bv (packed q))::F)
   (λr L=>r= .tuple #[]/\∃A' c',L= .bI g bt (.slice A' (E (packed (q++[b]))) c'::ah (E (q++[b]))::X):: .own 5 1 A' (E (packed (q++[b]))) c' (bv (packed (q++[b])))::F):=by
 have kh:=dz q;have KL:=CD q;have nD:=Bool.toNat_le b;refine fw func212 48 [0,1] ?_;refine dq (λzf zL=>∃(A':bh) (c':Nat),Sub zf [(0,bq g),(1,.int .u64 b.toNat)]/\Wk zL (.bI g bt (.slice A' (E (room q)) c'::ah (E q)::X):: .own 5 1 A' (E (room q)) c' (bv (room q))::F)) ?_ ?_
 ·refine dw ?_;refine ab (kl rfl rfl aa (Qy _)) rfl (ag 3 (λh9=>?_) λh9=>?_)
  ·refine dw ?_;refine cC bP rfl rfl rfl rfl rfl (λ_=>rfl) aU aa aa ?_;intro _ Ro Vr;refine fb ?_;exact bo ⟨Ro,Vr,a_,bx apV (au aa (by rw[<-P3 aa];simp[bv]) (.refl _))⟩
  ·refine aX ?_;exact bo ⟨A,c,a_,bx HO (au HO HO (.refl _))⟩
 ·rintro _ _ ⟨A',c',hs,hp⟩;refine aL hs hp (aX ?_);refine jH (A:=A') (n:=E (room q)) (xs:=bv (room q)) (.tail _ (.head _)) aa ?_;intro ad hA;subst hA;refine lx (.bI g bt (.slice (some ad) (E (room q)) c'::ah (E q)::X)::F) ?_;refine aF 0 8 ?_;refine aS 8 rfl (iq rfl rfl aa (ajH aa)) (aS 9 rfl (aO (size:=1) (i:=E q/8) underlying27 ae rfl rfl rfl aa) (aF 11 6 ?_));refine aS 17 rfl (kl rfl rfl aa (Qy _)) (dI 18 ?_);refine aS 19 rfl (gG rfl rfl aa (alU aa)) (aC 10 (aX ?_));refine aS 20 rfl (uv rfl rfl (aeR q b)) (aS 21 rfl (aO (size:=1) (i:=E q/8) underlying27 ae rfl rfl rfl aa) (aC 22 (ky rfl .no (fy ae rfl rfl rfl aU (by rw[RO];omega)) uf ?_)));rintro _ _ rfl;refine di [0] ?_;refine dM ?_;refine ak (L':=.bI g bt (.slice (some ad) (E (packed (q++[b]))) c'::ah (E (q++[b]))::X):: .own 5 1 (some ad) (E (packed (q++[b]))) c' (bv (packed (q++[b])))::F) (bx U7 (au U7 (by rw[cH,RP,FN]) (.refl _))) (aX ?_);exact⟨rfl,_,c',rfl⟩
abbrev Wx(X:cQ)(g:Nat)(bt:TypeId)(A:bh)(c:Nat)(q:List Bool)(F:aN):aN:=.bI g bt (.slice A (E (packed q)) c::ah (E q)::X):: .own 5 1 A (E (packed q)) c (bv (packed q))::F
theorem BX(q:List Bool)(v:Nat)(hv:v<18446744073709551616)(n:Nat)(hn:n<=64)(hp:v<2^n)(hq:E q<=7000000):
  bg B w0 153 [bq g,.int .u64 v,ah n] (Wx X g bt A c q F)
   (λr L=>r=ah 0/\∃A' c',L=Wx X g bt A' c' (q++hi v n n) F):=by
 refine fw func153 42 [0,1,2] ?_;refine bf 8 20 27 [0,1,2] (False) ?_ ?_
 ·refine bk 9 (λgT=>?_) (λgT=>?_)
  ·refine bk 5 (λjq=>?_) (λjq=>?_)
   ·refine bC 5 (λmQ=>?_) λmQ=>?_
    ·refine fb ?_;exact ab (dH rfl rfl aa (FW v (e:=n) rfl aa)) rfl (ax 5 (k:=apC))
    ·exact ax 6 (k:=oy)
   ·exact ax 8 (k:=ahs)
  ·exact ax 12 (k:=ahs)
 ·refine bZ 2 λkq=>?_;refine fF ?_;refine aw (λzf zL zm=>∃(m:Nat) (A':bh) (c':Nat),(m<=n)/\n-m=zm/\Sub zf [(0,bq g),(1,.int .u64 v),(7,ah ((n:Int)-m-1))]/\Wk zL (Wx X g bt A' c' (q++hi v n m) F)) _ ⟨0,A,c,bD _,rfl,a_,bx ye (au ye ye (.refl _))⟩ ?_;rintro _ _ _ ⟨m,A',c',hm,rfl,hs,hp⟩;refine aL hs hp ?_;clear hs hp;have qc:E (q++hi v n m)=E q+m:=by rw[bm,dK]
  refine ag 7 (λAU=>?_) λAU=>?_
  ·refine cN 4 F ?_;refine aF 0 5 ?_;refine aS 5 rfl (dH rfl rfl aa (FW v (e:=n-1-m) aa aa)) (aS 6 rfl (kj rfl rfl (XA v _ hv)) (aC 7 (gS rfl .no VA rfl (ao4 (q++hi v n m) (v.testBit (n-1-m)) aa) rfl ap6 ?_)));rintro _ _ ⟨rfl,Mk,c41,cR⟩;obtain rfl:=cR.symm;refine cY ?_;refine aj ⟨_,aa,m+1,Mk,c41,aa,rfl,a_,bx B6 (au B6 B6 (.refl _))⟩
  ·refine dM ?_;have hm':m=n:=by omega
   subst hm';exact⟨rfl,A',c',rfl⟩
theorem ag1(q:List Bool)(hq:E q<=8000000):bg B w0 155 [bq g] (Wx X g bt A c q F) (λr L=>∃A' c',r= .slice A' (E (packed q)) c'/\L= .own 5 1 A' (E (packed q)) c' (bv (packed q))::Wx X g bt A c q F):=by
 have kh:=dz q;refine ba func155 11 [0] 22 ?_;refine ay rfl (mu (packed q) aA aa) λz' RQ=>?_;exact bO 5
theorem U3(h:P:=by(rw[bm,dK];omega)):P:=h
theorem DN(h:P:=by(exact dG (by first|omega|(exact⟨λh=>by omega,λh=>by omega⟩)))):P:=h
theorem ahu(h:P:=by(exact dS (by first|omega|(exact⟨λh=>by omega,λh=>by omega⟩)))):P:=h
theorem ap5(h:P:=by(rw[bm,bm,dK,dK];omega)):P:=h
theorem acd(hg:Good l)(hb:gw B w0 F Al cl l):bg B w0 286 [.slice Al (E l) cl] F (λr L=>r=ah 0/\L=F):=by
 have h:=AF l hb;rw[pr hg]at h;exact h
def cz(l:aq):Nat->Nat->Nat
 |_,0=>0
 |i,f+1=>if i<E l/\(l.getD i 0).toNat=0 then cz l (i+1) f+1 else 0
theorem VO(l:aq):∀f i,cz l i f<=f
 |0,i=>ga _
 |f+1,i=>by
  rw[cz];split
  ·have:=VO l f (i+1);omega
  ·omega
theorem alm(l:aq):∀f i,i<=E l->i+cz l i f<=E l
 |0,i,h=>h
 |f+1,i,h=>by
  rw[cz];split
  ·have:=alm l f (i+1) aa;omega
  ·omega
theorem alk(hm:m<63)(h1:i+m<E l)(h2:(l.getD (i+m) 0).toNat=0)(h:cz l i 63=m+cz l (i+m) (63-m)):cz l i 63=(m+1)+cz l (i+(m+1)) (63-(m+1)):=by
 rw[h,show 63-m=(63-(m+1))+1 by omega,cz,av ⟨h1,h2⟩,show i+m+1=i+(m+1) by omega];omega
theorem acu(hn:¬(m<63/\i+m<E l/\(l.getD (i+m) 0).toNat=0))(h:cz l i 63=m+cz l (i+m) (63-m)):cz l i 63=m:=by
 rw[h];by_cases hm:m<63
 ·rw[show 63-m=(63-(m+1))+1 by omega,cz,aB (λh=>hn ⟨hm,h.1,h.2⟩)];rfl
 ·rw[show 63-m=0 by omega];rfl
def fK(l:aq)(i:Nat):List Bool:=
 if h:i<E l then if (l.getD i 0).toNat=0 then hi 0 4 4++(hi (cz l (i+1) 63) 6 6++fK l (i+1+cz l (i+1) 63)) else hi (l.getD i 0).toNat 4 4++fK l (i+1) else []
termination_by (E l)-i
theorem uy(h:¬i<E l):fK l i=[]:=by rw[fK,dif_neg h]
theorem En(h:i<E l)(h0:¬(l.getD i 0).toNat=0):fK l i=hi (l.getD i 0).toNat 4 4++fK l (i+1):=by
 conv=>lhs;rw[fK,dif_pos h,aB h0]
theorem Eo(h:i<E l)(h0:(l.getD i 0).toNat=0)(hm:cz l (i+1) 63=m):fK l i=hi 0 4 4++(hi m 6 6++fK l (i+1+m)):=by
 subst hm
 conv=>lhs;rw[fK,dif_pos h,av h0]
theorem run_eq{q q' Q:List Bool}(hq:q'++fK l i=Q)(h:i<E l)(h0:(l.getD i 0).toNat=0)(hm:cz l (i+1) 63=m):q'++hi 0 4 4++hi m 6 6++fK l (i+1+m)=Q:=by
 rw[<-hq,Eo h h0 hm];simp[bT]
theorem aeO{q' Q:List Bool}(hq:q'++fK l i=Q)(h:i<E l)(h0:¬(l.getD i 0).toNat=0):q'++hi (l.getD i 0).toNat 4 4++fK l (i+1)=Q:=by
 rw[<-hq,En h h0];simp[bT]
theorem Ys(l:aq)(q:List Bool)(hb:gw B w0 F Al cl l)(hg:Good l)(hq:E q<=1000000):
  bg B w0 247 [bq g,.slice Al (E l) cl] (Wx X g bt A c q F) (λr L=>r=ah 0/\∃A' c',L=Wx X g bt A' c' (q++fK l 0) F):=by
 have hf:=hg.1;have hf1:=hf.1;refine ba func247 64 [0,1] 19 ?_;refine ai rfl (acd hg aA) ?_;refine bZ 9 λnj=>?_;refine dA ?_;refine aw (λzf zL zm=>∃(i:Nat) (q':List Bool) (A':bh) (c':Nat),(i<=E l/\E q'<=1000000+10*i/\q'++fK l i=q++fK l 0)/\E l-i=zm/\Sub zf [(0,bq g),(1,.slice Al (E l) cl),(6,ah i)]/\Wk zL (Wx X g bt A' c' q' F)) _ ⟨0,q,A,c,⟨bD _,aa,rfl⟩,rfl,a_,.refl _⟩ ?_;rintro _ _ _ ⟨i,q',A',c',⟨hik,hql,heq⟩,rfl,hs,hp⟩;refine aL hs hp (ag 9 (λjq=>?_) λjq=>?_)
 ·have hu:=hf.2 _ (bc (k:=i) aa 0);have yO:=VO l 63 (i+1);refine ag 13 (λpe=>?_) λpe=>?_
  ·refine cY ?_;refine bp D3 rfl (BX q' (l.getD i 0).toNat aa 4 aa aa aa) rfl ?_;rintro _ _ ⟨rfl,Rp,c30,cR⟩;obtain rfl:=cR.symm;refine aD 7 [0,1,6] 4 ?_;refine aj ⟨_,aa,i+1,q'++hi (l.getD i 0).toNat 4 4,Rp,c30,⟨aa,U3,aeO heq aa aa⟩,rfl,a_,.refl _⟩
  ·refine dA ?_;refine aw (λzf zL zm=>∃(m:Nat),(m<=63/\i+1+m<=E l/\cz l (i+1) 63=m+cz l (i+1+m) (63-m))/\63-m=zm/\Sub zf [(0,bq g),(1,.slice Al (E l) cl),(6,ah i),(7,ah (m+1:Nat))]/\Wk zL (Wx X g bt A' c' q' F)) _ ⟨0,⟨aa,aa,ao⟩,rfl,a_,.refl _⟩ ?_;rintro _ _ _ ⟨m,⟨anl,hmi,hcz⟩,rfl,hs,hp⟩;refine aL hs hp (bf 3 19 51 [0,1,6,7] (m<63/\i+1+m<E l/\(l.getD (i+1+m) 0).toNat=0) ?_ ?_)
   ·refine bC 3 (λAV=>?_) λAV=>?_
    ·refine bC 13 (λGC=>?_) λGC=>?_
     ·refine cY ?_;refine ab (az (i:=i+1+m) underlying27 ae rfl rfl aa aa aA) rfl ?_;exact ax 5 (k:=DN)
     ·exact ax 7 (k:=ahu)
    ·exact ax 15 (k:=ahu)
   ·refine ag 2 (λOf=>?_) λOf=>?_
    ·refine dA ?_;refine aj ⟨_,aa,m+1,⟨aa,aa,alk aa aa aa hcz⟩,rfl,a_,.refl _⟩
    ·have hce:=acu Of hcz;refine cY ?_;refine bp D3 rfl (BX q' 0 aa 4 aa aa aa) rfl ?_;rintro _ _ ⟨rfl,A55,c55,cR⟩;obtain rfl:=cR.symm;refine dg ?_;refine ab (be underlying3 underlying60 rfl ((eQ aa aa).trans (show _=((m:Nat):Int) by omega))) rfl (bp D3 rfl (BX (q'++hi 0 4 4) m aa 6 aa aa U3) rfl ?_);rintro _ _ ⟨rfl,A60,c60,cR⟩;obtain rfl:=cR.symm;refine dA ?_;refine aj ⟨_,aa,i+1+m,q'++hi 0 4 4++hi m 6 6,A60,c60,⟨aa,ap5,run_eq (q:=q) heq aa aa hce⟩,rfl,a_,.refl _⟩
 ·refine fF ?_;have anc:q'=q++fK l 0:=by rw[<-heq,uy aa,gN]
  subst anc;refine aX ?_;exact⟨rfl,A',c',rfl⟩
theorem rl(l:aq):∀n i,E l-i<=n->E (fK l i)<=10*n
 |0,i,h=>by rw[uy aa];simp
 |n+1,i,h=>by
  by_cases SO:i<E l
  ·by_cases h0:(l.getD i 0).toNat=0
   ·rw[Eo SO h0 rfl,bm,bm,dK,dK];have:=rl l n (i+1+cz l (i+1) 63) aa;omega
   ·rw[En SO h0,bm,dK];have:=rl l n (i+1) aa;omega
  ·rw[uy SO];simp
def eM(l:aq):List Bool:=(List.range (8*E l)).map λi=>(l.getD (i/8) 0).toNat.testBit (7-i%8)
theorem dm(l:aq):E (eM l)=8*E l:=by simp[eM]
theorem wh(l:aq)(h:i<8*E l):gQ (eM l) i=(l.getD (i/8) 0).toNat/2^(7-i%8)%2:=by
 rw[J7,gQ,eM];congr 1;simp[bz,h]
theorem QO(l:aq){k:Nat}(h:k<E l):∀m,m<=8->part (eM l) (8*k) m=(l.getD k 0).toNat/2^(8-m)
 |0,_=>by
  have:=kR (l.getD k 0);rw[part];exact(yY aa).symm
 |m+1,hm=>by
  rw[part,QO l h m aa,wh l aa,show(8*k+m)/8=k by omega,show 7-(8*k+m)%8=7-m by omega,show 8-m=(7-m)+1 by omega,show 8-(m+1)=7-m by omega,ki,<-I6];omega
theorem p_(l:aq):packed (eM l)=l:=by
 apply oQ
 ·rw[dz,dm];omega
 ·intro k h1 h2;have hk:k<E l:=h2;have e:(packed (eM l)).getD k 0=l.getD k 0:=by
   rw[packed,sO _ (by rw[dm];omega),qx,QO l hk 8 aa];simp
  rwa [bz,fx h1,bz,fx h2]at e
def FU(q:List Bool):Nat->Nat->Nat
 |i,0=>i
 |i,f+1=>if gQ q i=1 then i else FU q (i+1) f
def Z(q:List Bool)(p:Nat):Nat:=FU q p (E q-p)
theorem X6{k:Nat}(h:gQ q k=1)(hk:k<E q):Z q k=k:=by
 rw[Z,show E q-k=(E q-(k+1))+1 by omega,FU,av h]
theorem Mh{k:Nat}(h:¬gQ q k=1)(hk:k<E q):Z q k=Z q (k+1):=by
 rw[Z,show E q-k=(E q-(k+1))+1 by omega,FU,aB h];rfl
theorem Q0{k:Nat}(hk:E q<=k):Z q k=k:=by
 rw[Z,show E q-k=0 by omega];rfl
theorem apb(q:List Bool):∀f i,i<=FU q i f
 |0,i=>ga _
 |f+1,i=>by
  rw[FU];split
  ·exact ga _
  ·have:=apb q f (i+1);omega
theorem atc(q:List Bool):∀f i,FU q i f<=i+f
 |0,i=>ga _
 |f+1,i=>by
  rw[FU];split
  ·omega
  ·have:=atc q f (i+1);omega
theorem ame(q:List Bool)(p:Nat):p<=Z q p:=apb q _ p
theorem atg(q:List Bool)(h:p<=E q):Z q p<=E q:=by have:=atc q (E q-p) p;unfold Z;omega
theorem Xb(q:List Bool):∀m i,part q i (m+1)=gQ q i*2^m+part q (i+1) m
 |0,i=>by simp[part]
 |m+1,i=>by
  rw[part,Xb q m i,part,show i+(m+1)=i+1+m by omega,ki];have:gQ q i*(2^m*2)=2*(gQ q i*2^m):=by rw[<-rN,mi]
  omega
theorem Jm(q:List Bool):∀f i,part q i f=0↔FU q i f=i+f
 |0,i=>by simp[part,FU]
 |f+1,i=>by
  rw[Xb,FU];have hb:=mn q i;split
  ·rename_i h;rw[h];have:=zd f;omega
  ·rename_i h;have h0:gQ q i=0:=by omega
   rw[h0,nJ,mH,Jm q f (i+1)];omega
theorem ajw(q:List Bool)(h:p<=E q):part q p (E q-p)=0↔Z q p=E q:=by
 rw[Jm,Z,show p+(E q-p)=E q by omega]
def skE(q:List Bool)(p:Nat)(n:Int):Int:=if n<0 then 13 else if (E q:Int)<p+n then 1 else 0
def skP(q:List Bool)(p:Nat)(n:Int):Nat:=if n<0 then p else if (E q:Int)<p+n then p else p+n.toNat
def pE(q:List Bool)(p:Nat)(n:Int):Int:=if n<0\/64<n then 13 else if (E q:Int)<p+n then 1 else 0
def jE(q:List Bool)(p:Nat)(n:Int):Nat:=if n<0\/64<n then 0 else if (E q:Int)<p+n then 0 else part q p n.toNat
def fH(q:List Bool)(p:Nat)(n:Int):Nat:=if n<0\/64<n then p else if (E q:Int)<p+n then p else p+n.toNat
def pkV(q:List Bool)(p:Nat)(n:Int):Nat:=if n<0\/64<n then 0 else part q p n.toNat
def pkN(q:List Bool)(p:Nat)(n:Int):Int:=if n<0\/64<n then 0 else min n (E q-p)
def unV(q:List Bool)(p:Nat):Int:=if Z q p<E q then Z q p-p else 0
def unR(q:List Bool)(p:Nat):Int:=if Z q p<E q then 0 else 1
def unP(q:List Bool)(p:Nat):Nat:=if Z q p<E q then Z q p+1 else p
def Rm(q:List Bool)(p:Nat):Int:=if (E q:Int)-p<8/\Z q p=E q then 0 else 2
theorem mB(n:Int)(h:p<=E q):fH q p n<=E q:=by
 unfold fH;split;· exact h
 split<;>omega
section
open Classical in
noncomputable def fin(acc:aq)(p:Nat):aq×Int×Nat:=if Good acc then (acc,0,p) else ([],7,p)
noncomputable def lN(q:List Bool)(N:Nat):Nat->Nat->aq->Bool->aq×Int×Nat
 |0,p,acc,s=>fin acc p
 |f+1,p,acc,s=>
  if N<=E acc then fin acc p
  else if¬pE q p 4=0 then ([],pE q p 4,fH q p 4)
  else if¬jE q p 4=0 then lN q N f (fH q p 4) (acc++[UInt8.ofNat (jE q p 4)]) false
  else if¬pE q (fH q p 4) 6=0 then ([],pE q (fH q p 4) 6,fH q (fH q p 4) 6)
  else if s=true\/N<=E acc+jE q (fH q p 4) 6 then ([],7,fH q (fH q p 4) 6)
  else lN q N f (fH q (fH q p 4) 6) (acc++List.replicate (jE q (fH q p 4) 6+1) 0) (decide (((jE q (fH q p 4) 6:Nat):Int)+1<64))
noncomputable def nW(q:List Bool)(p:Nat)(n:Int):aq×Int×Nat:=if n<0\/300<n then ([],13,p) else lN q n.toNat n.toNat p [] false
section
variable{q:List Bool}{N f p:Nat}{acc:aq}{s:Bool}{R:aq×Int×Nat}
theorem Lp(h:lN q N f p acc s=R)(hl:N<=E acc):R=fin acc p:=by
 subst h;cases f with
 |zero=>rfl
 |succ f=>rw[lN,av hl]
theorem PS(h:lN q N f p acc s=R)(hf:N<=E acc+f)(hl:E acc<N):∃f',f=f'+1/\N<=E acc+f'+1/\lN q N (f'+1) p acc s=R:=by
 cases f with
 |zero=>omega
 |succ f=>exact⟨f,rfl,aa,h⟩
theorem Xl(h:lN q N (f+1) p acc s=R)(hl:E acc<N)(he:¬pE q p 4=0):R=([],pE q p 4,fH q p 4):=by
 rw[<-h,lN,aB aa,av he]
theorem Lr(h:lN q N (f+1) p acc s=R)(hl:E acc<N)(he:pE q p 4=0)(hv:¬jE q p 4=0):lN q N f (fH q p 4) (acc++[UInt8.ofNat (jE q p 4)]) false=R:=by
 rw[<-h];conv=>rhs;rw[lN,aB aa,aB aa,av hv]
theorem PQ(h:lN q N (f+1) p acc s=R)(hl:E acc<N)(he:pE q p 4=0)(hv:jE q p 4=0)(he2:¬pE q (fH q p 4) 6=0):R=([],pE q (fH q p 4) 6,fH q (fH q p 4) 6):=by
 rw[<-h,lN,aB aa,aB aa,aB aa,av he2]
theorem PR(h:lN q N (f+1) p acc s=R)(hl:E acc<N)(he:pE q p 4=0)(hv:jE q p 4=0)(he2:pE q (fH q p 4) 6=0)(hs:s=true\/N<=E acc+jE q (fH q p 4) 6):R=([],7,fH q (fH q p 4) 6):=by
 rw[<-h,lN,aB aa,aB aa,aB aa,aB aa,av hs]
theorem Ls(h:lN q N (f+1) p acc s=R)(hl:E acc<N)(he:pE q p 4=0)(hv:jE q p 4=0)(he2:pE q (fH q p 4) 6=0)(hs:¬(s=true\/N<=E acc+jE q (fH q p 4) 6)):lN q N f (fH q (fH q p 4) 6) (acc++List.replicate (jE q (fH q p 4) 6+1) 0) (decide (((jE q (fH q p 4) 6:Nat):Int)+1<64))=R:=by
 rw[<-h];conv=>rhs;rw[lN,aB aa,aB aa,aB aa,aB aa,aB hs]
theorem qL(q:List Bool)(p:Nat)(hn:n<=64):jE q p n<2^n:=by
 unfold jE;split
 ·exact zd n
 ·split
  ·exact zd n
  ·exact lT q p n
theorem akY(hv:v<256)(l:aq):bv l++[Value.int .u8 (v:Int)]=bv (l++[UInt8.ofNat v]):=by
 have:(UInt8.ofNat v).toNat=v:=by rw[rD];exact ly hv
 simp[bv,this]
theorem ab6(l:aq)(m:Nat):bv l++List.replicate m (Value.int .u8 0)=bv (l++List.replicate m 0):=by
 simp[bv]
theorem acT(h:Ii acc=0):fin acc p=(acc,0,p):=by
 unfold fin;by_cases hg:Good acc
 ·rw[av hg]
 ·rw[vB hg]at h;omega
theorem acS(h:¬Ii acc=0):fin acc p=([],7,p)/\Ii acc=7:=by
 unfold fin;by_cases hg:Good acc
 ·exact absurd (pr hg) h
 ·exact⟨aB hg,vB hg⟩
end
theorem acR{q:List Bool}{acc:aq}{p:Nat}(h:p<=E q):(fin acc p).2.2<=E q:=by
 unfold fin;split<;>exact h
theorem T4(q:List Bool)(N:Nat):∀f p acc s,p<=E q->(lN q N f p acc s).2.2<=E q
 |0,p,acc,s,h=>acR h
 |f+1,p,acc,s,h=>by
  have h4:=mB (q:=q) (p:=p) 4 h;have h6:=mB (q:=q) (p:=fH q p 4) 6 h4;rw[lN];split
  ·exact acR h
  ·split
   ·exact h4
   ·split
    ·exact T4 q N f _ _ _ h4
    ·split
     ·exact h6
     ·split
      ·exact h6
      ·exact T4 q N f _ _ _ h6
theorem u9{q:List Bool}{p:Nat}(n:Int)(h:p<=E q):(nW q p n).2.2<=E q:=by
 unfold nW;split
 ·exact h
 ·exact T4 q _ _ _ _ _ h
end
theorem apR(h:P:=by(rw[show p+1+i=p+(i+1) by omega];exact h0 _ (by omega))):P:=h
theorem wT:type_of% @List.length_replicate:= @List.length_replicate
theorem Cp:type_of% @List.getElem?_replicate:= @List.getElem?_replicate
theorem nc{r:List Bool}(h:i<E q):gQ (q++r) i=gQ q i:=by
 simp[gQ,bz,List.getElem?_append,h]
theorem kL(q r:List Bool)(i:Nat):gQ (q++r) (E q+i)=gQ r i:=by
 simp[gQ,bz,List.getElem?_append,show¬E q+i<E q by omega]
theorem adE(v n:Nat)(h:j<n):gQ (hi v n n) j=v/2^(n-1-j)%2:=by
 rw[J7];simp[gQ,hi,bz,h]
theorem Lm(q r:List Bool)(v n:Nat)(hv:v<2^n):∀m,m<=n->part (q++(hi v n n++r)) (E q) m=v/2^(n-m)
 |0,_=>by rw[part,ET,yY hv]
 |m+1,h=>by
  rw[part,Lm q r v n hv m aa,kL,nc (by rw[dK];omega),adE v n aa,show n-m=(n-1-m)+1 by omega,show n-(m+1)=n-1-m by omega,ki,<-I6];omega
theorem Fp(q r:List Bool)(v n:Nat)(hv:v<2^n):part (q++(hi v n n++r)) (E q) n=v:=by
 rw[Lm q r v n hv n (ga _),rE,Nat.pow_zero,Nat.div_one]
theorem amd(Q:List Bool):∀m p,(∀i,i<m->gQ Q (p+i)=0)->gQ Q (p+m)=1->p+m<E Q->Z Q p=p+m
 |0,p,_,h1,hl=>X6 h1 hl
 |m+1,p,h0,h1,hl=>by
  have:=h0 0 aa;rw[Mh (by rw[rM]at this;omega) aa,amd Q m (p+1) (λi hi=>apR) (by rw[show p+1+m=p+(m+1) by omega];exact h1) aa];omega
theorem aoQ(n:Nat)(h:j<n):gQ (un n) j=0:=by
 rw[un,nc ml];simp[gQ,bz,h]
theorem akw(n:Nat):gQ (un n) n=1:=by
 have:=kL (List.replicate n false) [true] 0;rw[wT,rM]at this;rw[un,this];rfl
theorem avV(q r:List Bool)(n:Nat):Z (q++(un n++r)) (E q)=E q+n:=by
 refine amd _ n _ (λi hi=>?_) ?_ ?_
 ·rw[kL,nc (by rw[pk];omega),aoQ n hi]
 ·rw[kL,nc (by rw[pk];omega),akw]
 ·simp[pk];omega
theorem aha(Q:List Bool):∀m p,p+m=E Q->(∀i,i<m->gQ Q (p+i)=0)->Z Q p=E Q
 |0,p,h,_=>by rw[Q0 aa];omega
 |m+1,p,h,h0=>by
  have:=h0 0 aa;rw[Mh (by rw[rM]at this;omega) aa];exact aha Q m (p+1) aa (λi hi=>apR)
def pad(q:List Bool):List Bool:=List.replicate (8*((E q+7)/8)-E q) false
theorem xG(q:List Bool):E (pad q)=8*((E q+7)/8)-E q:=by simp[pad]
theorem toNat_inj{a b:Bool}(h:a.toNat=b.toNat):a=b:=by cases a<;>cases b<;>simp_all
theorem yJ(h:i<E q):gQ q i=(q[i]).toNat:=by simp[gQ,bz,h]
theorem qX(q:List Bool):eM (packed q)=q++pad q:=by
 apply oQ
 ·rw[dm,dz,bm,xG];omega
 ·intro i h1 h2;apply toNat_inj;rw[<-yJ h1,<-yJ h2];have hl:i<8*E (packed q):=by rw[dm]at h1;exact h1
  have hl':=hl;rw[dz]at hl';have hp:((packed q).getD (i/8) 0).toNat=part q (8*(i/8)) 8:=by rw[packed,sO q aa,rY]
  rw[wh _ hl,hp];have e:=nu q (8*(i/8)) (i%8+1) (7-i%8);rw[show i%8+1+(7-i%8)=8 by omega]at e;rw[e,part,show 8*(i/8)+i%8=i by omega];have hb:=mn q i;by_cases hq:i<E q
  ·rw[nc hq];omega
  ·rw[rf q aa];have:=kL q (pad q) (i-E q);rw[show E q+(i-E q)=i by omega]at this;rw[this,gQ];have hz:(pad q).getD (i-E q) false=false:=by
    rw[pad,bz,Cp];split<;>rfl
   rw[hz];simp
theorem atd(q:List Bool):Z (q++pad q) (E q)=E (q++pad q):=by
 refine aha _ (E (pad q)) _ ao (λi hi=>?_);rw[kL,gQ];have hz:(pad q).getD i false=false:=by
  rw[pad,bz,Cp];split<;>rfl
 rw[hz];rfl
abbrev BO:=UInt8×Nat×Int
def enc(x:BO):List Bool:=if x.1.toNat%2=0 then hi x.2.1 x.2.2.toNat x.2.2.toNat else un x.2.2.toNat
def acc(x:BO):Prop:=if x.1.toNat%2=0 then api x.2.1 x.2.2 else 0<=x.2.2/\x.2.2<=300
theorem oF:type_of% @UInt8.toNat_inj:= @UInt8.toNat_inj
theorem VS(l:aq):∀f i j,j<cz l i f->(l.getD (i+j) 0).toNat=0
 |0,i,j,h=>by simp[cz]at h
 |f+1,i,j,h=>by
  rw[cz]at h;split at h
  ·rename_i h0;cases j with
   |zero=>exact h0.2
   |succ j=>
    have:=VS l f (i+1) j aa
    rwa [show i+1+j=i+(j+1) by omega]at this
  ·omega
theorem VP(l:aq):∀f i,cz l i f<f->i+cz l i f<E l->¬(l.getD (i+cz l i f) 0).toNat=0
 |0,i,h,_=>by omega
 |f+1,i,h,h2=>by
  rw[cz]at h h2⊢;split at h
  ·rename_i h0;rw[av h0]at h2⊢;have:=VP l f (i+1) aa aa
   rwa [show i+1+cz l (i+1) f=i+(cz l (i+1) f+1) by omega]at this
  ·rename_i h0;rw[aB h0]at h2⊢;intro hz;exact h0 ⟨aa,by simpa using hz⟩
theorem Qv(l:aq)(i:Nat):∀m,i+m<=E l->(∀j,j<m->(l.getD (i+j) 0).toNat=0)->l.take (i+m)=l.take i++List.replicate m 0
 |0,_,_=>by simp
 |m+1,h,hz=>by
  have h0:l.getD (i+m) 0=0:=by
   have:=hz m aa;exact oF.1 (by simpa using this)
  rw[<-OJ,aP aa 0,Qv l i m aa (λj hj=>hz j aa),h0,EW,bT]
theorem got(q pre r:List Bool)(v:Nat)(hn:n<=64)(hv:v<2^n)(hq:q=pre++(hi v n n++r)):pE q (E pre) n=0/\jE q (E pre) n=v/\fH q (E pre) n=E (pre++hi v n n):=by
 have hl:E pre+n<=E q:=by rw[hq];simp[dK]
 have hp:=Fp pre r v n hv;rw[<-hq]at hp;unfold pE jE fH;rw[aB aa,aB aa,aB aa,aB aa,aB aa,aB aa,lJ,hp];exact⟨rfl,rfl,by simp[dK]⟩
theorem back(l:aq)(hg:Good l)(r:List Bool):∀n i f (pre:List Bool) s q,E l-i<=n->i<=E l->q=pre++(fK l i++r)->E l<=i+f->(s=true->i<E l->¬(l.getD i 0).toNat=0)->
  lN q (E l) f (E pre) (l.take i) s=(l,0,E (pre++fK l i)):=by
 intro n;induction n with
 |zero=>
  intro i f pre s q h1 h2 hq hf hs;have he:i=E l:=by omega
  subst he;have:=Lp (q:=q) (N:=E l) (f:=f) (p:=E pre) (acc:=l.take (E l)) (s:=s) rfl ao;rw[this,js,fin,av hg,uy aa,gN]
 |succ n ih=>
  intro i f pre s q h1 h2 hq hf hs;by_cases hil:i<E l
  ·obtain⟨f',rfl⟩:∃f',f=f'+1:=⟨f-1,aa⟩
   have gU:E (l.take i)<E l:=by rw[fZ];omega
   have hu:=hg.1.2 _ (bc (k:=i) hil 0);by_cases h0:(l.getD i 0).toNat=0
   ·obtain⟨m,hm⟩:∃m,cz l (i+1) 63=m:=⟨_,rfl⟩
    have anl:=VO l 63 (i+1);have hmi:=alm l 63 (i+1) aa;have sn:=VP l 63 (i+1);have hzz:=VS l 63 (i+1);rw[hm]at anl hmi sn hzz;have hen:=Eo hil h0 hm;rw[hen,bT,bT]at hq;obtain⟨a1,a2,a3⟩:=got q pre _ 0 (n:=4) aa aa hq;have Ha:q=(pre++hi 0 4 4)++(hi m 6 6++(fK l (i+1+m)++r)):=by rw[hq,bT]
    obtain⟨b1,b2,b3⟩:=got q (pre++hi 0 4 4) _ m (n:=6) aa aa Ha;have a1':pE q (E pre) 4=0:=a1;have a2':jE q (E pre) 4=0:=a2;have a3':fH q (E pre) 4=E (pre++hi 0 4 4):=a3;have b1':pE q (E (pre++hi 0 4 4)) 6=0:=b1;have b2':jE q (E (pre++hi 0 4 4)) 6=m:=b2;have b3':fH q (E (pre++hi 0 4 4)) 6=E (pre++hi 0 4 4++hi m 6 6):=b3;have hsf:¬(s=true\/E l<=E (l.take i)+jE q (fH q (E pre) 4) 6):=by
     rw[a3',b2',fZ];rintro(h|h)
     ·exact hs h hil h0
     ·omega
    have tP:=Ls (q:=q) (N:=E l) (f:=f') (p:=E pre) (acc:=l.take i) (s:=s) rfl gU a1' a2' (by rw[a3'];exact b1') hsf;rw[<-tP,a3',b2',b3'];have qb:l.take i++List.replicate (m+1) 0=l.take (i+1+m):=by
     rw[show i+1+m=i+(m+1) by omega,Qv l i (m+1) aa (λj hj=>?_)];cases j with
     |zero=>exact h0
     |succ j=>rw[show i+(j+1)=i+1+j by omega];exact hzz j aa
    rw[qb];have hq3:q=(pre++hi 0 4 4++hi m 6 6)++(fK l (i+1+m)++r):=by rw[Ha];simp[bT]
    have:=ih (i+1+m) f' (pre++hi 0 4 4++hi m 6 6) (decide (((m:Nat):Int)+1<64)) q aa aa hq3 aa (λhd hl=>sn (by have:=E0 hd;omega) hl);rw[this,hen];simp[bT]
   ·have hen:=En hil h0;rw[hen,bT]at hq;obtain⟨a1,a2,a3⟩:=got q pre _ (l.getD i 0).toNat (n:=4) aa aa hq;have a1':pE q (E pre) 4=0:=a1;have a2':jE q (E pre) 4=(l.getD i 0).toNat:=a2;have a3':fH q (E pre) 4=E (pre++hi (l.getD i 0).toNat 4 4):=a3;have tP:=Lr (q:=q) (N:=E l) (f:=f') (p:=E pre) (acc:=l.take i) (s:=s) rfl gU a1' (by rw[a2'];exact h0);rw[<-tP,a2',a3'];have qb:l.take i++[UInt8.ofNat (l.getD i 0).toNat]=l.take (i+1):=by
     rw[aP hil 0,UInt8.ofNat_toNat]
    rw[qb];have hq3:q=(pre++hi (l.getD i 0).toNat 4 4)++(fK l (i+1)++r):=by rw[hq];simp[bT]
    have:=ih (i+1) f' (pre++hi (l.getD i 0).toNat 4 4) false q aa aa hq3 aa (λh=>jB);rw[this,hen];simp[bT]
  ·exact ih i f pre s q aa h2 hq hf hs
theorem cX(h:P:=by(simp only;omega)):P:=h
theorem OM:type_of% @List.filter_cons:= @List.filter_cons
theorem I7:type_of% @List.mem_filter:= @List.mem_filter
theorem ON:type_of% @Nat.le_div_iff_mul_le:= @Nat.le_div_iff_mul_le
def jw(l:aq)(s k:Nat):br:=(List.range s).filter λi=>(l.getD i 0).toNat==k
def kZ(l:aq)(k:Nat):br:=jw l (E l) k
theorem nv(l:aq)(s k:Nat):jw l (s+1) k=jw l s k++(if (l.getD s 0).toNat=k then [s] else []):=by
 unfold jw;rw[mW,List.filter_append];congr 1;rw[OM,List.filter_nil];by_cases h:(l.getD s 0).toNat=k
 ·rw[av h,av ml]
 ·rw[aB h,aB ml]
theorem vY(l:aq)(k:Nat):∀s,s<=E l->E (jw l s k)=num (l.take s) k
 |0,_=>by simp[jw,num]
 |s+1,h=>by
  rw[nv,bm,vY l k s aa,jf k aa];split<;>simp
theorem xP(l:aq)(k:Nat):E (kZ l k)=num l k:=by
 unfold kZ;rw[vY l k _ (ga _),js]
theorem F8(l:aq)(k s:Nat):∀d,∃r,jw l (s+d) k=jw l s k++r
 |0=>⟨[],ao⟩
 |d+1=>by
  obtain⟨r,hr⟩:=F8 l k s d;exact⟨_,by rw[<-OJ,nv,hr,bT]⟩
theorem xO{k:Nat}(hs:s<E l)(h:(l.getD s 0).toNat=k):(kZ l k).getD (num (l.take s) k) 0=s:=by
 obtain⟨r,hr⟩:=F8 l k (s+1) (E l-(s+1));rw[show s+1+(E l-(s+1))=E l by omega]at hr;unfold kZ;have hl:=vY l k s aa;rw[hr,nv,av h,<-hl];simp[bz]
theorem af4{k:Nat}(h:i∈jw l s k):i<s/\(l.getD i 0).toNat=k:=by
 unfold jw at h;obtain⟨h1,h2⟩:=I7.1 h;exact⟨oD.1 h1,qi⟩
def nh(l:aq)(k:Nat):Nat:=if num l k=0 then 0 else fst l k
def kP(l:aq)(x k:Nat):Option Nat:=if nh l k<=x/\x<nh l k+num l k then some ((kZ l k).getD (x-nh l k) 0) else none
def wP(l:aq)(x k:Nat):Nat->Nat->Bool
 |0,_=>false
 |f+1,j=>if 15<j then false else if 0<num l j/\x*2^(j-k)<nh l j+num l j/\nh l j<x*2^(j-k)+2^(j-k) then true else wP l x k f (j+1)
def adq(l:aq)(x k:Nat):Bool:=wP l x k 15 (k+1)
def mV(l:aq)(q:List Bool)(p n:Nat):Nat->Nat->Option (Nat×Nat)
 |0,_=>none
 |f+1,k=>if n<k then none else match kP l (part q p k) k with
  |some s=>some (s,k)
  |none=>mV l q p n f (k+1)
def there(q:List Bool)(p:Nat):Nat:=min 15 (E q-p)
def dN(l:aq)(q:List Bool)(p:Nat):Int×Int×Nat:=
 match mV l q p (there q p) 15 1 with
 |some (s,k)=>(s,0,p+k)
 |none=>(-1,if there q p<15/\adq l (part q p (there q p)) (there q p)=true then 1 else 7,p)
def hw(l:aq)(s:Nat):List Bool:=hi (place l (l.getD s 0).toNat s) (l.getD s 0).toNat (l.getD s 0).toNat
theorem j9(l:aq)(s:Nat):E (hw l s)=(l.getD s 0).toNat:=dK _ _ _
theorem EA{x k:Nat}(h:kP l x k=some s):s<E l/\(l.getD s 0).toNat=k:=by
 unfold kP at h;split at h
 ·rename_i hc;injection h with h;have hl:=xP l k;have hm:(kZ l k).getD (x-nh l k) 0∈kZ l k:=bc aa 0;rw[h]at hm;exact af4 hm
 ·cases h
theorem EC{l:aq}{q:List Bool}{p n s k:Nat}:∀(f j:Nat),mV l q p n f j=some (s,k)->j<=k/\k<=n/\kP l (part q p k) k=some s
 |0,j,h=>by cases h
 |f+1,j,h=>by
  unfold mV at h;split at h
  ·cases h
  ·split at h
   ·rename_i s' Cm;injection h with h;injection h with h1 h2;subst h1;subst h2;exact⟨ga _,aa,Cm⟩
   ·obtain⟨h1,h2,h3⟩:=EC f (j+1) h;exact⟨aa,h2,h3⟩
theorem vL(l:aq)(q:List Bool)(hp:p<=E q):p<=(dN l q p).2.2/\(dN l q p).2.2<=E q/\((dN l q p).2.1=0->∃s:Nat,(dN l q p).1=s/\s<E l/\p<(dN l q p).2.2)/\0<=(dN l q p).2.1/\(dN l q p).2.1<=7:=by
 unfold dN;split
 ·rename_i s k h;obtain⟨h1,h2,h3⟩:=EC _ _ h;have h4:=(EA h3).1;unfold there at h2;exact⟨cX,cX,λ_=>⟨s,rfl,h4,cX⟩,cX,cX⟩
 ·refine⟨ga _,hp,λh=>?_,?_,?_⟩
  ·simp only at h;split at h<;>omega
  ·simp only;split<;>omega
  ·simp only;split<;>omega
theorem AX{l:aq}{q:List Bool}{p n s k:Nat}(hk:k<=n)(hf:kP l (part q p k) k=some s)(hn:∀j,1<=j->j<k->kP l (part q p j) j=none):∀(f j:Nat),1<=j->j<=k->k-j<f->mV l q p n f j=some (s,k)
 |0,j,_,_,h=>by omega
 |f+1,j,h1,h2,h3=>by
  unfold mV;rw[aB aa];by_cases e:j=k
  ·subst e;rw[hf]
  ·rw[hn j h1 aa];exact AX hk hf hn f (j+1) aa aa aa
theorem yQ(hg:Good l)(hs:s<E l)(h0:(l.getD s 0).toNat≠0)(pre r:List Bool)(hq:q=pre++(hw l s++r)):
  dN l q (E pre)=((s:Int),0,E (pre++hw l s)):=by
 obtain⟨k,hk⟩:=cM ((l.getD s 0).toNat);have EE:k<=15:=by rw[hk];exact hg.1.2 _ (bc hs 0)
 have Zu:hw l s=hi (place l k s) k k:=by unfold hw;rw[<-hk]
 have kh:=pU hs hk.symm;have hpg:=PI l k s;have hb:=oZ hg (k:=k) aa EE;have G8:¬num l k=0:=by
  unfold place at kh hpg;omega
 rw[Zu]at hq;have WC:∀j,j<=k->part q (E pre) j=place l k s/2^(k-j):=λj hj=>by rw[hq];exact Lm pre r _ k aa j hj
 have SZ:=xO hs hk.symm;have hfk:kP l (part q (E pre) k) k=some s:=by
  have e1:part q (E pre) k=place l k s:=by rw[WC k (ga _),rE,Nat.pow_zero,Nat.div_one]
  have e2:nh l k=fst l k:=aB G8;unfold kP;rw[e1,e2,av ⟨hpg,aa⟩,show place l k s-fst l k=num (l.take s) k by unfold place;omega,SZ]
 have hfj:∀j,1<=j->j<k->kP l (part q (E pre) j) j=none:=λj h1 h2=>by
  unfold kP;refine aB λhc=>?_;rw[WC j aa]at hc;by_cases hz:num l j=0
  ·omega
  ·have e2:nh l j=fst l j:=aB hz;rw[e2]at hc;have SK:=KB l h1 (k-j) aa;rw[show j+(k-j)=k by omega]at SK;have:=(ON (zd (k-j))).2 (iY SK hpg);omega
 have hlen:E pre+k<=E q:=by rw[hq];simp[dK]
 have:=AX (n:=there q (E pre)) (by unfold there;omega) hfk hfj 15 1 (ga _) aa aa;unfold dN;rw[this,Zu,bm,dK]
theorem l0(h:P:=by(rw[jM];omega)):P:=h
theorem jA(h:P:=by(rw[fZ];omega)):P:=h
theorem yf(h:P:=by(simp[hz])):P:=h
theorem HZ(h:P:=by(simpa using hi)):P:=h
theorem B8(h:P:=by(simp[hy])):P:=h
theorem Cq:type_of% @List.drop_eq_nil_of_le:= @List.drop_eq_nil_of_le
theorem I8:type_of% @List.countP_eq_length:= @List.countP_eq_length
theorem tA:type_of% @List.getD_cons_succ:= @List.getD_cons_succ
theorem mF:type_of% @List.getElem_of_mem:= @List.getElem_of_mem
theorem OO:type_of% @List.getElem_take:= @List.getElem_take
theorem qq:type_of% @List.pairwise_iff_getElem:= @List.pairwise_iff_getElem
theorem jR:type_of% @Nat.succ_mul:= @Nat.succ_mul
theorem wU:type_of% @Nat.mul_add:= @Nat.mul_add
theorem OQ:type_of% @Nat.lt_trichotomy:= @Nat.lt_trichotomy
theorem Cr:type_of% @List.getElem?_set:= @List.getElem?_set
theorem OR:type_of% @List.length_filter_le:= @List.length_filter_le
theorem uI:type_of% @List.getElem?_range:= @List.getElem?_range
theorem OS:type_of% @List.set_cons_succ:= @List.set_cons_succ
def tE(o:Nat->Nat)(a b:Nat):Prop:=o a<o b\/o a=o b/\a<b
theorem xD(o:Nat->Nat)(a:Nat):¬tE o a a:=λh=>h.elim (λh=>Nat.lt_irrefl _ h) λh=>Nat.lt_irrefl _ h.2
theorem rT(h1:tE o a b)(h2:tE o b c):tE o a c:=by unfold tE at*;omega
theorem ZU(o:Nat->Nat)(a b:Nat):tE o a b\/a=b\/tE o b a:=by unfold tE;omega
abbrev sr(o:Nat->Nat)(l:br):Prop:=l.Pairwise (tE o)
theorem sr.ext{o:Nat->Nat}:∀{a b:br},sr o a->sr o b->(∀x,x∈a↔x∈b)->a=b
 |[],[],_,_,_=>rfl
 |[],y::b,_,_,h=>absurd ((h y).2 ao) ao
 |x::a,[],_,_,h=>absurd ((h x).1 ao) ao
 |x::a,y::b,ha,hb,h=>by
  obtain⟨ha1,ha2⟩:=kG.1 ha;obtain⟨nC,nD⟩:=kG.1 hb;have hxy:x=y:=by
   rcases fq.1 ((h x).1 ao)with e|e
   ·exact e
   ·rcases fq.1 ((h y).2 ao)with e2|e2
    ·exact e2.symm
    ·exact absurd (rT (ha1 y e2) (nC x e)) (xD _ _)
  subst hxy;congr 1;refine sr.ext ha2 nD λz=>⟨λhz=>?_,λhz=>?_⟩
  ·rcases fq.1 ((h z).1 (lj _ hz))with e|e
   ·subst e;exact absurd (ha1 _ hz) (xD _ _)
   ·exact e
  ·rcases fq.1 ((h z).2 (lj _ hz))with e|e
   ·subst e;exact absurd (nC _ hz) (xD _ _)
   ·exact e
instance (o:Nat->Nat)(a b:Nat):Decidable (tE o a b):=inferInstanceAs (Decidable (_\/_))
def Zy(o:Nat->Nat)(x:Nat):br->br
 |[]=>[x]
 |y::r=>if tE o x y then x::y::r else y::Zy o x r
def dj(o:Nat->Nat):br->br
 |[]=>[]
 |x::r=>Zy o x (dj o r)
theorem Bb(o:Nat->Nat)(x:Nat):∀l,(Zy o x l).Perm (x::l)
 |[]=>.refl _
 |y::r=>by
  unfold Zy;split
  ·exact .refl _
  ·exact((Bb o x r).cons y).trans (.swap x y r)
theorem gV(o:Nat->Nat):∀l,(dj o l).Perm l
 |[]=>.refl _
 |x::r=>(Bb o x _).trans ((gV o r).cons x)
theorem WL{o:Nat->Nat}{x:Nat}:∀{l:br},sr o l->x∉l->sr o (Zy o x l)
 |[],_,_=>List.pairwise_singleton _ _
 |y::r,h,hx=>by
  obtain⟨h1,h2⟩:=kG.1 h;unfold Zy;split
  ·rename_i hxy;exact kG.2 ⟨λz hz=>(fq.1 hz).elim (λe=>e▸hxy) λhz=>rT hxy (h1 z hz),h⟩
  ·rename_i hxy;refine kG.2 ⟨λz hz=>?_,WL h2 λhz=>hx (lj _ hz)⟩;rcases fq.1 ((Bb o x r).mem_iff.1 hz)with e|e
   ·subst e;rcases ZU o z y with k|k|k
    ·exact absurd k hxy
    ·exact absurd (k▸rL ..) hx
    ·exact k
   ·exact h1 z e
theorem lO(o:Nat->Nat):∀{l:br},l.Nodup->sr o (dj o l)
 |[],_=>List.Pairwise.nil
 |x::r,h=>by
  obtain⟨h1,h2⟩:=List.nodup_cons.1 h;exact WL (lO o h2) λhx=>h1 ((gV o r).mem_iff.1 hx)
abbrev cA:=Nat×Bool
def pR(leaf row:List cA):Nat->Nat->Nat->List cA
 |0,_,_=>[]
 |f+1,i,k=>
  if E row<=k+1 then (if i<E leaf then leaf.getD i (0,false)::pR leaf row f (i+1) k else [])
  else if i<E leaf/\(leaf.getD i (0,false)).1<=(row.getD k (0,false)).1+(row.getD (k+1) (0,false)).1 then leaf.getD i (0,false)::pR leaf row f (i+1) k
  else ((row.getD k (0,false)).1+(row.getD (k+1) (0,false)).1,false)::pR leaf row f i (k+2)
def uZ(leaf row:List cA):List cA:=pR leaf row (E leaf+E row) 0 0
def Dt:List cA->List cA
 |[]=>[]
 |[_]=>[]
 |a::b::r=>(a.1+b.1,false)::Dt r
def ua:List cA->List cA->List cA
 |[],ys=>ys
 |x::xs,[]=>x::xs
 |x::xs,y::ys=>if x.1<=y.1 then x::ua xs (y::ys) else y::ua (x::xs) ys
theorem zp(xs:List cA):ua xs []=xs:=by cases xs<;>rw[ua]
theorem Fe(ys:List cA):ua [] ys=ys:=by rw[ua]
theorem Js{l:List cA}(h:E l<=1):Dt l=[]:=by
 match l,h with
 |[],_=>rfl
 |[_],_=>rfl
theorem vO(leaf row:List cA):∀(f i k:Nat),i<=E leaf->k<=E row->E leaf-i+(E row-k)<=f->pR leaf row f i k=ua (leaf.drop i) (Dt (row.drop k))
 |0,i,k,h1,h2,h3=>by
  rw[Cq aa,Cq aa,Fe];rfl
 |f+1,i,k,h1,h2,h3=>by
  unfold pR;split
  ·rename_i hr;rw[Js l0,zp];split
   ·rename_i hi;rw[vO leaf row f (i+1) k aa h2 aa,Js l0,zp,cy hi (0,false)]
   ·rw[Cq aa]
  ·rename_i hr;have e:Dt (row.drop k)=((row.getD k (0,false)).1+(row.getD (k+1) (0,false)).1,false)::Dt (row.drop (k+2)):=by
    rw[cy (by omega:k<E row) (0,false),cy (by omega:k+1<E row) (0,false),Dt]
   rw[e];split
   ·rename_i hc;rw[cy hc.1 (0,false),ua,av hc.2,vO leaf row f (i+1) k aa h2 aa,e]
   ·rename_i hc;rw[vO leaf row f i (k+2) h1 aa aa];by_cases hi:i<E leaf
    ·rw[cy hi (0,false),ua,aB λh=>hc ⟨hi,h⟩]
    ·rw[Cq aa,Fe,Fe]
theorem rX(leaf row:List cA):uZ leaf row=ua leaf (Dt row):=by
 unfold uZ;rw[vO leaf row _ 0 0 (bD _) (bD _) aa];rfl
theorem K_:∀xs ys:List cA,E (ua xs ys)=E xs+E ys
 |[],ys=>by simp[ua]
 |x::xs,[]=>by simp[ua]
 |x::xs,y::ys=>by
  rw[ua];split
  ·rw[ei,K_ xs (y::ys)];simp;omega
  ·rw[ei,K_ (x::xs) ys];simp;omega
theorem Ln:∀l:List cA,E (Dt l)=E l/2
 |[]=>rfl
 |[_]=>by simp[Dt]
 |a::b::r=>by simp only[Dt,ei,Ln r];omega
theorem zo{z:cA}:∀{xs ys:List cA},z∈ua xs ys->z∈xs\/z∈ys
 |[],ys,h=>.inr (by rwa [Fe]at h)
 |x::xs,[],h=>.inl (by rwa [zp]at h)
 |x::xs,y::ys,h=>by
  rw[ua]at h;split at h
  ·rcases fq.1 h with e|e
   ·exact .inl (by simp[e])
   ·rcases zo e with k|k
    ·exact .inl (lj _ k)
    ·exact .inr k
  ·rcases fq.1 h with e|e
   ·exact .inr (by simp[e])
   ·rcases zo e with k|k
    ·exact .inl k
    ·exact .inr (lj _ k)
abbrev Wt(l:List cA):Prop:=l.Pairwise λa b=>a.1<=b.1
theorem Xf{z:cA}{W:Nat}:∀{l:List cA},(∀x∈l,x.1<=W)->z∈Dt l->z.1<=2*W/\z.2=false
 |[],_,h=>by cases h
 |[_],_,h=>by cases h
 |a::b::r,hw,h=>by
  rw[Dt]at h;rcases fq.1 h with e|e
  ·have h1:=hw a ao;have h2:=hw b ao;subst e;exact⟨cX,rfl⟩
  ·exact Xf (λx hx=>hw x th) e
theorem PK{a:Nat}:∀{l:List cA},Wt l->(∀x∈l,a<=2*x.1)->∀z∈Dt l,a<=z.1
 |[],_,_,z,h=>by cases h
 |[_],_,_,z,h=>by cases h
 |x::y::r,hw,ha,z,h=>by
  rw[Dt]at h;rcases fq.1 h with e|e
  ·have h1:=ha x ao;have h2:=ha y ao;subst e;simp only;omega
  ·obtain⟨_,h2⟩:=kG.1 hw;obtain⟨_,h3⟩:=kG.1 h2;exact PK h3 (λq hq=>ha q (by simp[hq])) z e
theorem ae_:∀{l:List cA},Wt l->Wt (Dt l)
 |[],_=>List.Pairwise.nil
 |[_],_=>List.Pairwise.nil
 |a::b::r,h=>by
  obtain⟨h1,h2⟩:=kG.1 h;obtain⟨h3,h4⟩:=kG.1 h2;refine kG.2 ⟨λz hz=>?_,ae_ h4⟩;have hab:=h1 b ao;exact PK h4 (λx hx=>by
   have:=h3 x hx;have:a.1+b.1<=2*x.1:=by omega
   exact this) z hz
theorem TD:∀{xs ys:List cA},Wt xs->Wt ys->Wt (ua xs ys)
 |[],ys,_,h=>by rwa [Fe]
 |x::xs,[],h,_=>by rwa [zp]
 |x::xs,y::ys,hx,hy=>by
  obtain⟨h1,h2⟩:=kG.1 hx;obtain⟨h3,h4⟩:=kG.1 hy;rw[ua];split
  ·rename_i hc;refine kG.2 ⟨λz hz=>?_,TD h2 hy⟩;rcases zo hz with e|e
   ·exact h1 z e
   ·rcases fq.1 e with e|e
    ·subst e;exact hc
    ·have:=h3 z e;omega
  ·rename_i hc;refine kG.2 ⟨λz hz=>?_,TD hx h4⟩;rcases zo hz with e|e
   ·rcases fq.1 e with e|e
    ·subst e;omega
    ·have:=h1 z e;omega
   ·exact h3 z e
def fY(row:List cA)(t:Nat):Nat:=(row.take t).countP (·.2)
theorem Vy(row:List cA)(t:Nat):fY row t<=t:=iY ZG jA
theorem jY(x:cA)(r:List cA)(t:Nat):fY (x::r) (t+1)=(if x.2 then 1 else 0)+fY r t:=by
 unfold fY;rw[nK,KY];omega
def apk(leaf row:List cA):Prop:=Wt row/\∀t,(row.take t).filter (·.2)=leaf.take (fY row t)
theorem Fc:∀{xs ys:List cA},(∀x∈xs,x.2=true)->(∀y∈ys,y.2=false)->∀t,((ua xs ys).take t).filter (·.2)=xs.take (fY (ua xs ys) t)
 |[],ys,_,hy,t=>by
  rw[ua,List.take_nil];exact List.filter_eq_nil_iff.2 λz hz=>by simp[hy z (ia hz)]
 |x::xs,[],hx,_,t=>by
  rw[ua];have:∀z∈(x::xs).take t,z.2=true:=λz hz=>hx z (ia hz);rw[List.filter_eq_self.2 this];have e:fY (x::xs) t=min t (E (x::xs)):=by
   unfold fY;rw[I8.2 this,fZ]
  rw[e,List.take_eq_take_iff];omega
 |x::xs,y::ys,hx,hy,t=>by
  cases t with
  |zero=>simp[fY]
  |succ t=>
   have AZ:=hx x ao;have S6:=hy y ao;rw[ua];split
   ·rw[jY,AZ,nK,OM,av (by simpa using AZ),Fc (λz hz=>hx z yf) hy t,av rfl,tx,nK]
   ·rw[jY,S6,nK,OM,aB (by simp[S6]),Fc hx (λz hz=>hy z yf) t,aB ao,mH]
theorem Bp:∀{xs ys:List cA},(∀x∈xs,x.2=true)->(∀y∈ys,y.2=false)->∀t,t<=E (ua xs ys)->t-fY (ua xs ys) t<=E ys
 |[],ys,_,hy,t,h=>by rw[ua]at h⊢;omega
 |x::xs,[],hx,_,t,h=>by
  rw[ua]at h⊢;have e:fY (x::xs) t=min t (E (x::xs)):=by
   unfold fY;rw[I8.2 (λz hz=>hx z (ia hz)),fZ]
  rw[e];omega
 |x::xs,y::ys,hx,hy,t,h=>by
  cases t with
  |zero=>omega
  |succ t=>
   have AZ:=hx x ao;have S6:=hy y ao;rw[ua]at h⊢;split
   ·rename_i hc;rw[av hc,ei]at h;have:=Bp (xs:=xs) (ys:=y::ys) (λz hz=>hx z yf) hy t aa;rw[jY,AZ,av rfl];omega
   ·rename_i hc;rw[aB hc,ei]at h;have:=Bp (xs:=x::xs) (ys:=ys) hx (λz hz=>hy z yf) t aa;rw[jY,S6,aB ao,ei];omega
theorem Bq:∀{xs ys:List cA},Wt xs->(∀x∈xs,x.2=true)->(∀y∈ys,y.2=false)->∀t p,t<=E (ua xs ys)->t-fY (ua xs ys) t=p+1->∀i,i<E xs->(xs.getD i (0,false)).1<=(ys.getD p (0,false)).1->i<fY (ua xs ys) t
 |[],ys,_,_,hy,t,p,h,hp,i,hi,_=>by simp at hi
 |x::xs,[],_,hx,_,t,p,h,hp,i,hi,_=>by
  rw[ua]at h hp;have e:fY (x::xs) t=min t (E (x::xs)):=by
   unfold fY;rw[I8.2 (λz hz=>hx z (ia hz)),fZ]
  rw[e]at hp;omega
 |x::xs,y::ys,hw,hx,hy,t,p,h,hp,i,hi,hle=>by
  cases t with
  |zero=>omega
  |succ t=>
   have AZ:=hx x ao;have S6:=hy y ao;obtain⟨Zu,Zv⟩:=kG.1 hw;rw[ua]at h hp⊢;split
   ·rename_i hc;rw[av hc,ei]at h;rw[av hc,jY,AZ,av rfl]at hp;rw[jY,AZ,av rfl];cases i with
    |zero=>omega
    |succ i=>
     have:=Bq (xs:=xs) (ys:=y::ys) Zv (λz hz=>hx z yf) hy t p aa aa i HZ (by simpa using hle);omega
   ·rename_i hc;rw[aB hc,ei]at h;rw[aB hc,jY,S6,aB ao]at hp;rw[jY,S6,aB ao,mH];cases p with
    |zero=>
     have h1:x.1<=((x::xs).getD i (0,false)).1:=by
      cases i with
      |zero=>simp
      |succ i=>
       have:=Zu _ (bc (l:=xs) (k:=i) HZ (0,false));simpa using this
     simp only[List.getD_cons_zero]at hle;omega
    |succ p=>
     exact Bq (xs:=x::xs) (ys:=ys) hw hx (λz hz=>hy z yf) t p aa aa i hi (by simpa using hle)
def dY(leaf:List cA):Nat->List cA
 |0=>leaf
 |r+1=>uZ leaf (dY leaf r)
theorem zA:∀{l:List cA} {y:cA},y∈Dt l->y.2=false
 |[],_,h=>by cases h
 |[_],_,h=>by cases h
 |a::b::r,y,h=>by
  rw[Dt]at h;rcases fq.1 h with e|e
  ·subst e;rfl
  ·exact zA e
theorem Xe:∀{l:List cA} {p:Nat},p<E (Dt l)->(Dt l).getD p (0,false)=((l.getD (2*p) (0,false)).1+(l.getD (2*p+1) (0,false)).1,false)
 |[],p,h=>by simp[Dt]at h
 |[_],p,h=>by simp[Dt]at h
 |a::b::r,0,_=>rfl
 |a::b::r,p+1,h=>by
  rw[Dt,tA,Xe (by simpa[Dt]using h),show 2*(p+1)=2*p+1+1 by omega,tA,tA,tA,tA]
theorem akE{l:List cA}(h:Wt l)(hm:m<E l){z:cA}(hz:z∈l.take (m+1)):z.1<=(l.getD m (0,false)).1:=by
 obtain⟨i,hi,rfl⟩:=mF hz;rw[fZ]at hi;rw[OO,bz,fx hm,wA];by_cases e:i=m
 ·subst e;exact ga _
 ·exact qq.1 h i m aa hm aa
theorem Lz{leaf:List cA}(hl:∀x∈leaf,x.2=true)(hw:Wt leaf):∀r,apk leaf (dY leaf r)
 |0=>⟨hw,λt=>by
  have:∀z∈leaf.take t,z.2=true:=λz hz=>hl z (ia hz);have e:fY leaf t=min t (E leaf):=by
   unfold fY;rw[I8.2 this,fZ]
  rw[dY,List.filter_eq_self.2 this,e,List.take_eq_take_iff];omega⟩
 |r+1=>by
  have ih:=Lz hl hw r;rw[dY,rX];exact⟨TD hw (ae_ ih.1),Fc hl (λy hy=>zA hy)⟩
theorem afp{leaf:List cA}(hl:∀x∈leaf,x.2=true)(hw:Wt leaf){r t:Nat}(ht:t<=E (dY leaf (r+1)))(hn:n=fY (dY leaf (r+1)) t):
  2*(t-n)<=E (dY leaf r)/\fY (dY leaf r) (2*(t-n))<=n:=by
 obtain⟨h1,h2⟩:=Lz hl hw r;rw[dY,rX]at ht hn;have hp:=Bp hl (λy hy=>zA (l:=dY leaf r) hy) t ht;rw[<-hn]at hp;have kh:=Ln (dY leaf r);refine⟨aa,?_⟩;cases hpp:t-n with
 |zero=>simp[fY]
 |succ p=>
  obtain⟨m,hm⟩:=cM (fY (dY leaf r) (2*(p+1)));rw[<-hm];cases m with
  |zero=>omega
  |succ m=>
   have hf:=h2 (2*(p+1));rw[<-hm]at hf;have hlen:E (leaf.take (m+1))=m+1:=by rw[<-hf,<-List.countP_eq_length_filter];exact hm.symm
   rw[fZ]at hlen;have G7:m<E leaf:=by omega
   have mD:leaf.getD m (0,false)∈leaf.take (m+1):=by rw[aP G7 (0,false)];simp
   rw[<-hf]at mD;have Wy:=(I7.1 mD).1;rw[show 2*(p+1)=(2*p+1)+1 by omega]at Wy;have hle:=akE h1 (m:=2*p+1) aa Wy;have hg:=Xe (l:=dY leaf r) (p:=p) aa;have:=Bq hw hl (λy hy=>zA (l:=dY leaf r) hy) t p ht (by rw[<-hn];exact hpp) m G7 (by rw[hg];simp only;omega);omega
def zr(leaf:List cA):Nat->Nat->br
 |0,_=>[]
 |r+1,t=>fY (dY leaf r) t::zr leaf r (2*(t-fY (dY leaf r) t))
def m_(leaf:List cA):Nat->Nat->Nat->Prop
 |0,t,_=>t=0
 |r+1,t,M=>t<=E (dY leaf r)/\fY (dY leaf r) t<=M
theorem m_.step{leaf:List cA}(hl:∀x∈leaf,x.2=true)(hw:Wt leaf){r t M:Nat}(h:m_ leaf (r+1) t M):m_ leaf r (2*(t-fY (dY leaf r) t)) (fY (dY leaf r) t):=by
 cases r with
 |zero=>
  obtain⟨h1,h2⟩:=h;have e:fY leaf t=min t (E leaf):=by
   unfold fY;rw[I8.2 (λz hz=>hl z (ia hz)),fZ]
  show 2*(t-fY leaf t)=0;have Su:t<=E leaf:=h1;rw[e];omega
 |succ r=>exact afp hl hw h.1 rfl
theorem Lf{leaf:List cA}(hl:∀x∈leaf,x.2=true)(hw:Wt leaf):∀(R t M:Nat),m_ leaf R t M->∀n∈zr leaf R t,n<=M
 |0,_,_,_,n,hn=>by cases hn
 |r+1,t,M,h,n,hn=>by
  rcases fq.1 hn with e|e
  ·subst e;exact h.2
  ·exact iY (Lf hl hw r _ _ (h.step hl hw) n e) h.2
def Mp(ns:br)(j:Nat):Nat:=ns.countP λn=>decide (j<n)
theorem yx(n:Nat)(ns:br)(j:Nat):Mp (n::ns) j=Mp ns j+if j<n then 1 else 0:=by
 unfold Mp;rw[KY];simp
theorem acz{ns:br}{M:Nat}(h:∀n∈ns,n<=M)(hj:M<=j):Mp ns j=0:=by
 unfold Mp;refine List.countP_eq_zero.2 λn hn=>?_;have:=h n hn;simp;omega
theorem amO(ns:br)(j:Nat):Mp ns j<=E ns:=ZG
theorem W7(leaf:List cA):∀R t,E (zr leaf R t)=R
 |0,_=>rfl
 |r+1,t=>by rw[zr,ei,W7 leaf r]
def nU(f:Nat->Nat):Nat->Nat
 |0=>0
 |m+1=>nU f m+f m
theorem p8{f g:Nat->Nat}:∀{m:Nat},(∀j,j<m->f j=g j)->nU f m=nU g m
 |0,_=>rfl
 |m+1,h=>by rw[nU,nU,p8 λj hj=>h j aa,h m aa]
theorem BM{f:Nat->Nat}{n c:Nat}:∀d,(∀j,n<=j->j<n+d->f j=c)->nU f (n+d)=nU f n+d*c
 |0,_=>by simp
 |d+1,h=>by
  rw[<-OJ,nU,BM d (λj h1 h2=>h j h1 aa),h (n+d) aa aa,jR];omega
theorem afU{leaf:List cA}(hl:∀x∈leaf,x.2=true)(hw:Wt leaf):∀(R t M:Nat),m_ leaf R t M->2*nU (λj=>2^(R-Mp (zr leaf R t) j)) M+t*2^R=2*M*2^R
 |0,t,M,h=>by
  have h0:t=0:=h;have:=BM (f:=λj=>2^(0-Mp (zr leaf 0 t) j)) (n:=0) (c:=1) M (λj _ _=>rfl);rw[mH]at this;rw[this,h0];simp[nU]
 |r+1,t,M,h=>by
  obtain⟨n,hn⟩:=cM (fY (dY leaf r) t);have hs:=h.step hl hw;have h2:n<=M:=hn▸h.2;have hnt:n<=t:=hn▸Vy _ _;have hle:=Lf hl hw r _ _ hs;have ih:=afU hl hw r _ _ hs;rw[<-hn]at hs hle ih;have e:zr leaf (r+1) t=n::zr leaf r (2*(t-n)):=by rw[zr,<-hn]
  rw[e];have Cn:=BM (f:=λj=>2^(r+1-Mp (n::zr leaf r (2*(t-n))) j)) (n:=n) (c:=2^(r+1)) (M-n) (λj h1 _=>by
   rw[yx,acz hle h1,aB aa];rfl)
  rw[show n+(M-n)=M by omega]at Cn;have hc:=p8 (f:=λj=>2^(r+1-Mp (n::zr leaf r (2*(t-n))) j)) (g:=λj=>2^(r-Mp (zr leaf r (2*(t-n))) j)) (m:=n) (λj hj=>by
   rw[yx,av hj];congr 1;omega)
  rw[Cn,hc,ki];generalize nU (λj=>2^(r-Mp (zr leaf r (2*(t-n))) j)) n=S at*;generalize 2^r=P at*;obtain⟨a,rfl⟩:∃a,M=n+a:=⟨M-n,aa⟩
  obtain⟨b,rfl⟩:∃b,t=n+b:=⟨t-n,aa⟩
  rw[show n+a-n=a by omega];rw[show n+b-n=b by omega]at ih;have i1:2*b*P=2*(b*P):=by rw[rN]
  have i2:2*n*P=2*(n*P):=by rw[rN]
  have i3:a*(P*2)=2*(a*P):=by rw[<-rN,mi]
  have i4:(n+b)*(P*2)=2*(n*P)+2*(b*P):=by rw[<-rN,qR,mi];omega
  have i5:2*(n+a)*(P*2)=4*(n*P)+4*(a*P):=by
   rw[wU,qR,<-rN,<-rN,rN 2 n P,rN 2 a P];omega
  omega
def tQ(syms:br):Nat->br->br
 |0,out=>out
 |j+1,out=>(tQ syms j out).set (syms.getD j 0) ((tQ syms j out).getD (syms.getD j 0) 0+1)
theorem rC(syms:br)(out:br):∀n,E (tQ syms n out)=E out
 |0=>rfl
 |j+1=>by rw[tQ,List.length_set,rC syms out j]
theorem Jj:∀{l:br},l.Nodup->∀(i j:Nat) (hi:i<E l) (hj:j<E l),l[i]=l[j]->i=j:=by
 intro l h i j hi hj e;rcases OQ i j with k|k|k
 ·exact absurd e (qq.1 h i j hi hj k)
 ·exact k
 ·exact absurd e.symm (qq.1 h j i hj hi k)
theorem Z0{l:br}(h:l.Nodup)(hi:i<E l)(hj:j<E l)(e:l.getD i 0=l.getD j 0):i=j:=by
 rw[bz,bz,fx hi,fx hj]at e;exact Jj h i j hi hj (by simpa using e)
theorem EO{syms out:br}(hd:syms.Nodup)(hs:∀s∈syms,s<E out):∀(n:Nat),n<=E syms->
  (∀j,j<E syms->(tQ syms n out).getD (syms.getD j 0) 0=out.getD (syms.getD j 0) 0+if j<n then 1 else 0)/\∀s,s∉syms->(tQ syms n out).getD s 0=out.getD s 0
 |0,_=>⟨λj _=>by rw[tQ,aB aa];rfl,λs _=>rfl⟩
 |n+1,h=>by
  obtain⟨h1,h2⟩:=EO hd hs n aa;have hl:=rC syms out n;have hm:syms.getD n 0∈syms:=bc aa 0;have gU:=hs _ hm;refine⟨λj hj=>?_,λs hn=>?_⟩
  ·rw[tQ];by_cases e:j=n
   ·subst e;rw[h1 j hj,aB aa,av aa];rw[bz,Cr,av rfl,hl,av gU];rfl
   ·have tO:syms.getD n 0≠syms.getD j 0:=λk=>e (Z0 hd aa hj k).symm;have:=h1 j hj;have e2:(if j<n then 1 else 0)=(if j<n+1 then 1 else 0:Nat):=by
     by_cases k:j<n
     ·rw[av k,av aa]
     ·rw[aB k,aB aa]
    rw[<-e2,<-this];simp only[bz,Cr];rw[aB (by simpa[bz]using tO)]
  ·have tO:syms.getD n 0≠s:=λk=>hn (k▸hm);rw[tQ,<-h2 s hn];simp only[bz,Cr];rw[aB (by simpa[bz]using tO)]
def tr(syms:br):br->br->br
 |[],out=>out
 |n::ns,out=>tr syms ns (tQ syms n out)
theorem IN(syms:br):∀ns out,E (tr syms ns out)=E out
 |[],_=>rfl
 |n::ns,out=>by rw[tr,IN syms ns,rC]
theorem AR{syms:br}(hd:syms.Nodup):∀(ns out:br),(∀s∈syms,s<E out)->(∀n∈ns,n<=E syms)->
  (∀j,j<E syms->(tr syms ns out).getD (syms.getD j 0) 0=out.getD (syms.getD j 0) 0+Mp ns j)/\∀s,s∉syms->(tr syms ns out).getD s 0=out.getD s 0
 |[],out,_,_=>⟨λj _=>rfl,λs _=>rfl⟩
 |n::ns,out,hs,hn=>by
  obtain⟨h1,h2⟩:=EO hd hs n (hn n ao);obtain⟨h3,h4⟩:=AR hd ns (tQ syms n out) (λs Cm=>by rw[rC];exact hs s Cm) (λm hm=>hn m (by simp[hm]));refine⟨λj hj=>?_,λs Cm=>?_⟩
  ·rw[tr,h3 j hj,h1 j hj,yx];omega
  ·rw[tr,h4 s Cm,h2 s Cm]
def mL(o:Nat->Nat)(N:Nat):br:=(List.range N).filter λs=>decide (0<o s)
def cE(o:Nat->Nat)(N:Nat):br:=dj o (mL o N)
def mJ(o:Nat->Nat)(N:Nat):List cA:=(cE o N).map λs=>(o s,true)
def iM(o:Nat->Nat)(N:Nat):br:=
 if E (cE o N)<2 then (if E (cE o N)=1 then (List.replicate N 0).set ((cE o N).getD 0 0) 1 else List.replicate N 0)
 else tr (cE o N) (zr (mJ o N) 15 (2*E (cE o N)-2)) (List.replicate N 0)
theorem QR(o:Nat->Nat)(N:Nat):(mL o N).Nodup:=List.Nodup.sublist List.filter_sublist List.nodup_range
theorem iT:s∈cE o N↔s<N/\0<o s:=by
 unfold cE;rw[(gV o _).mem_iff];unfold mL;rw[I7,oD];simp
theorem F7(o:Nat->Nat)(N:Nat):sr o (cE o N):=lO o (QR o N)
theorem zH(o:Nat->Nat)(N:Nat):(cE o N).Nodup:=(gV o _).nodup_iff.2 (QR o N)
theorem vX(o:Nat->Nat)(N:Nat):E (cE o N)<=N:=by
 unfold cE;rw[(gV o _).length_eq];exact iY (OR _ _) ao
theorem pO:∀x∈mJ o N,x.2=true:=λx hx=>by
 obtain⟨s,_,rfl⟩:=qd.1 hx;rfl
theorem uN(o:Nat->Nat)(N:Nat):Wt (mJ o N):=List.Pairwise.map _ (λa b h=>by
 rcases h with h|h
 ·exact Nat.le_of_lt h
 ·exact Nat.le_of_eq h.1) (F7 o N)
theorem iI(leaf:List cA)(r:Nat):E (dY leaf (r+1))=E leaf+E (dY leaf r)/2:=by
 rw[dY,rX,K_,Ln]
theorem Lx(leaf:List cA):∀r,E leaf<=E (dY leaf r)/\E (dY leaf r)<=2*E leaf
 |0=>⟨ga _,by rw[dY];omega⟩
 |r+1=>by
  have ih:=Lx leaf r;rw[iI];omega
theorem gR{d e:Nat}(h:2*n<=a+d)(hb:b=n+a/2)(hd:d<=2*e):2*n<=b+e:=by omega
theorem Jy{leaf:List cA}(h:E leaf<=300):2*E leaf-2<=E (dY leaf 14):=by
 have a0:2*E leaf<=E (dY leaf 0)+300:=by rw[dY];omega
 have a1:=gR (e:=150) a0 (iI leaf 0) aE;have a2:=gR (e:=75) a1 (iI leaf 1) aE;have a3:=gR (e:=38) a2 (iI leaf 2) aE;have a4:=gR (e:=19) a3 (iI leaf 3) aE;have a5:=gR (e:=10) a4 (iI leaf 4) aE;have a6:=gR (e:=5) a5 (iI leaf 5) aE;have a7:=gR (e:=3) a6 (iI leaf 6) aE;have a8:=gR (e:=2) a7 (iI leaf 7) aE;have a9:=gR (e:=1) a8 (iI leaf 8) aE;have a10:=gR (e:=1) a9 (iI leaf 9) aE;have a11:=gR (e:=1) a10 (iI leaf 10) aE;have a12:=gR (e:=1) a11 (iI leaf 11) aE;have a13:=gR (e:=1) a12 (iI leaf 12) aE;have a14:2*E leaf<=E (dY leaf 14)+1:=gR (e:=1) a13 (iI leaf 13) aE;omega
theorem sZ(hN:N<=300):m_ (mJ o N) 15 (2*E (cE o N)-2) (E (cE o N)):=by
 have hl:E (mJ o N)=E (cE o N):=by simp[mJ]
 have hs:=vX o N;refine⟨by rw[<-hl];exact Jy aa,?_⟩;have hf:=(Lz pO (uN o N) 14).2 (2*E (cE o N)-2);have:E ((mJ o N).take (fY (dY (mJ o N) 14) (2*E (cE o N)-2)))=fY (dY (mJ o N) 14) (2*E (cE o N)-2):=by
  rw[<-hf,<-List.countP_eq_length_filter];rfl
 rw[fZ,hl]at this;exact iY (Nat.le_of_eq this.symm) (Nat.min_le_right _ _)
def qV(f:Nat->Nat):br->Nat
 |[]=>0
 |x::r=>f x+qV f r
theorem aaD{f:Nat->Nat}{a b:br}(h:a.Perm b):qV f a=qV f b:=by
 induction h with
 |nil=>rfl
 |cons x _ ih=>rw[qV,qV,ih]
 |swap x y l=>simp only[qV];omega
 |trans _ _ h1 h2=>rw[h1,h2]
theorem CF{f:Nat->Nat}{p:Nat->Bool}:∀{l:br},(∀x∈l,p x=false->f x=0)->qV f l=qV f (l.filter p)
 |[],_=>rfl
 |x::r,h=>by
  rw[qV,OM,CF λy hy=>h y B8];split
  ·rfl
  ·rename_i hp;rw[h x ao (by simpa using hp)];omega
theorem Qo(f:Nat->Nat):∀a b,qV f (a++b)=qV f a+qV f b
 |[],b=>by simp[qV]
 |x::a,b=>by rw[nM,qV,qV,Qo f a b];omega
theorem F6(f:Nat->Nat)(l:br):∀m,m<=E l->qV f (l.take m)=nU (λj=>f (l.getD j 0)) m
 |0,_=>rfl
 |m+1,h=>by rw[aP aa 0,Qo,F6 f l m aa,nU];simp[qV]
def gK(c:Nat):Nat:=if c=0 then 0 else 2^(15-c)
def iZ(o:Nat->Nat)(N:Nat):aq:=(iM o N).map UInt8.ofNat
theorem rR(o:Nat->Nat)(N:Nat):E (iM o N)=N:=by
 unfold iM;split
 ·split<;>simp
 ·rw[IN];simp
@[simp] theorem fX(o:Nat->Nat)(N:Nat):E (iZ o N)=N:=by rw[iZ,eZ,rR]
theorem Bj(hN:N<=300)(h2:2<=E (cE o N)):
  (∀j,j<E (cE o N)->(iM o N).getD ((cE o N).getD j 0) 0=Mp (zr (mJ o N) 15 (2*E (cE o N)-2)) j)/\∀s,s∉cE o N->(iM o N).getD s 0=0:=by
 have hle:=Lf pO (uN o N) 15 _ _ (sZ (o:=o) hN);obtain⟨h3,h4⟩:=AR (zH o N) (zr (mJ o N) 15 (2*E (cE o N)-2)) (List.replicate N 0) (λs hs=>by rw[wT];exact(iT.1 hs).1) hle;have hz:∀s,(List.replicate N 0).getD s 0=0:=λs=>by
  rw[bz,Cp];split<;>rfl
 unfold iM;rw[aB aa];exact⟨λj hj=>by rw[h3 j hj,hz,mH],λs hs=>by rw[h4 s hs,hz]⟩
theorem afT{f:Nat->Nat}(hj:j<m)(h:0<f j)(hi:i<m)(Ww:i≠j):f i<nU f m:=by
 induction m with
 |zero=>omega
 |succ m ih=>
  rw[nU];by_cases e1:j=m
  ·subst e1;have:f i<=nU f j:=FZ aa;omega
  ·by_cases e2:i=m
   ·subst e2;have:f j<=nU f i:=FZ aa;omega
   ·have:=ih aa aa;omega
where FZ {f:Nat->Nat}:∀{m j:Nat},j<m->f j<=nU f m
 |m+1,j,h=>by
  rw[nU];by_cases e:j=m
  ·subst e;omega
  ·have:=FZ (f:=f) (m:=m) (j:=j) aa;omega
theorem Pd(hN:N<=300)(h2:2<=E (cE o N)):
  nU (λj=>2^(15-Mp (zr (mJ o N) 15 (2*E (cE o N)-2)) j)) (E (cE o N))=32768:=by
 have h:=afU pO (uN o N) 15 _ _ (sZ (o:=o) hN);rw[show(2:Nat)^15=32768 from rfl]at h;omega
theorem Pc(hN:N<=300)(hs:s<N)(ho:0<o s):1<=(iM o N).getD s 0:=by
 have hm:s∈cE o N:=iT.2 ⟨hs,ho⟩;obtain⟨j,hj,hje⟩:=mF hm;have hjd:(cE o N).getD j 0=s:=by rw[bz,fx hj,<-hje];rfl
 by_cases h2:2<=E (cE o N)
 ·have h:=(Bj hN h2).1 j hj;rw[hjd]at h;rw[h];have xq:=Pd (o:=o) hN h2;obtain⟨i,hi,Ww⟩:∃i,i<E (cE o N)/\i≠j:=by
   by_cases e:j=0
   ·exact⟨1,aa,aa⟩
   ·exact⟨0,aa,aa⟩
  have:=afT (f:=λj=>2^(15-Mp (zr (mJ o N) 15 (2*E (cE o N)-2)) j)) hi (zd _) hj Ww.symm;rw[xq]at this;rcases Be (Mp (zr (mJ o N) 15 (2*E (cE o N)-2)) j)with e|e
  ·rw[e]at this;simp at this
  ·exact e
 ·have h1:E (cE o N)=1:=by omega
  have hj0:j=0:=by omega
  subst hj0;unfold iM;rw[av aa,av h1,hjd];simp[bz,Cr,hs]
theorem uR(hN:N<=300)(s:Nat):(iM o N).getD s 0<=15:=by
 by_cases h2:2<=E (cE o N)
 ·obtain⟨h3,h4⟩:=Bj (o:=o) hN h2;by_cases hm:s∈cE o N
  ·obtain⟨j,hj,hje⟩:=mF hm;have hjd:(cE o N).getD j 0=s:=by rw[bz,fx hj,<-hje];rfl
   have:=h3 j hj;rw[hjd]at this;rw[this];have:=amO (zr (mJ o N) 15 (2*E (cE o N)-2)) j
   rwa [W7]at this
  ·rw[h4 s hm];omega
 ·unfold iM;rw[av aa];split
  ·rw[bz,Cr];split
   ·split<;>simp
   ·rw[Cp];split<;>simp
  ·rw[bz,Cp];split<;>simp
theorem ZI:∀l:aq,jS l=nU (λs=>gK (l.getD s 0).toNat) (E l):=by
 intro l;have:∀m,m<=E l->jS (l.take m)=nU (λs=>gK (l.getD s 0).toNat) m:=by
  intro m;induction m with
  |zero=>intro _;rfl
  |succ m ih=>intro h;rw[aP aa 0,E2,ih aa,nU];rfl
 have h:=this (E l) (ga _)
 rwa [js]at h
theorem Bi(hN:N<=300)(hs:s<N):((iZ o N).getD s 0).toNat=(iM o N).getD s 0:=by
 have hl:=rR o N;have mj:=uR (o:=o) hN s;unfold iZ;rw[bz,ib];rw[bz]at mj⊢;rw[fx aa]at mj⊢;simp only[qp,wA]at mj⊢;rw[rD];exact ly aa
theorem ZM(hN:N<=300):Fit (iZ o N):=by
 refine⟨by rw[fX];exact hN,λc hc=>?_⟩;obtain⟨i,hi,rfl⟩:=mF hc;have SO:i<N:=by rwa [fX]at hi
 have:=Bi (o:=o) hN SO;rw[bz,fx hi,wA]at this;rw[this];exact uR hN i
theorem Tl(hN:N<=300)(h2:2<=E (cE o N)):jS (iZ o N)=32768:=by
 obtain⟨h3,h4⟩:=Bj (o:=o) hN h2;rw[ZI,fX];have e1:nU (λs=>gK ((iZ o N).getD s 0).toNat) N=nU (λs=>gK ((iM o N).getD s 0)) N:=p8 λs hs=>by rw[Bi hN hs]
 have e2:nU (λs=>gK ((iM o N).getD s 0)) N=qV (λs=>gK ((iM o N).getD s 0)) (List.range N):=by
  have:=F6 (λs=>gK ((iM o N).getD s 0)) (List.range N) N ao;rw[gv ao]at this;rw[this];exact p8 λj hj=>by simp[bz,uI hj]
 have e3:qV (λs=>gK ((iM o N).getD s 0)) (List.range N)=qV (λs=>gK ((iM o N).getD s 0)) (mL o N):=CF λx hx hp=>by
  have:x∉cE o N:=λhm=>by
   have:=(iT.1 hm).2;simp only[decide_eq_false_iff_not]at hp;exact hp this
  rw[h4 x this];rfl
 have e4:=aaD (f:=λs=>gK ((iM o N).getD s 0)) (gV o (mL o N));have e5:=F6 (λs=>gK ((iM o N).getD s 0)) (cE o N) (E (cE o N)) (ga _);rw[js]at e5;rw[e1,e2,e3,<-e4];show qV _ (cE o N)=_;rw[e5,<-Pd (o:=o) hN h2];refine p8 λj hj=>?_;have hp:=Pc hN (o:=o) (iT.1 (bc hj 0)).1 (iT.1 (bc hj 0)).2;rw[h3 j hj]at hp⊢;unfold gK;rw[aB aa]
theorem Gz:∀N:Nat,nz ((List.replicate N 0).map UInt8.ofNat)=0/\num ((List.replicate N 0).map UInt8.ofNat) 1=0
 |0=>⟨rfl,rfl⟩
 |N+1=>by
  obtain⟨h1,h2⟩:=Gz N;rw[Bf,iN,Dr,zt,h1,h2];exact⟨rfl,rfl⟩
theorem one_set:∀N s:Nat,s<N->nz (((List.replicate N 0).set s 1).map UInt8.ofNat)=1/\num (((List.replicate N 0).set s 1).map UInt8.ofNat) 1=1
 |0,s,h=>by omega
 |N+1,0,h=>by
  obtain⟨h1,h2⟩:=Gz N;rw[Bf,List.set_cons_zero,iN,Dr,zt,h1,h2];exact⟨rfl,rfl⟩
 |N+1,s+1,h=>by
  obtain⟨h1,h2⟩:=one_set N s aa;rw[Bf,OS,iN,Dr,zt,h1,h2];exact⟨rfl,rfl⟩
theorem j_(hN:N<=300):Good (iZ o N):=by
 have hf:=ZM (o:=o) hN;by_cases h2:2<=E (cE o N)
 ·exact(yK hf).2 (.inr (Tl hN h2))
 ·refine(yK hf).2 (.inl ?_);unfold iZ iM;rw[av aa];split
  ·rename_i h1;right;have hm:(cE o N).getD 0 0∈cE o N:=bc aa 0;have gU:=(iT.1 hm).1;obtain⟨s,hs⟩:=cM ((cE o N).getD 0 0);rw[<-hs]at gU⊢;obtain⟨k1,k2⟩:=one_set N s gU;exact⟨k1,k2⟩
  ·left;exact(Gz N).1
theorem abO(h:P:=by(rw[hl];simp only;omega)):P:=h
theorem yZ:type_of% @List.take_add_one:= @List.take_add_one
abbrev bG:=UInt8×Int×Int
def kK(b:aq)(p a:Nat):Nat->Nat->Nat
 |0,n=>n
 |f+1,n=>if n<257/\a+n<E b/\b.getD (p+n) 0=b.getD (a+n) 0 then kK b p a f (n+1) else n
def fm(b:aq)(p a:Nat):Nat:=kK b p a 257 0
theorem vy(b:aq)(p a:Nat):∀(f n:Nat),n<=257->n<=kK b p a f n/\kK b p a f n<=257/\∀i,n<=i->i<kK b p a f n->a+i<E b/\b.getD (p+i) 0=b.getD (a+i) 0
 |0,n,h=>⟨ga _,h,λi h1 h2=>absurd h2 (by simp only[kK];omega)⟩
 |f+1,n,h=>by
  unfold kK;by_cases hc:n<257/\a+n<E b/\b.getD (p+n) 0=b.getD (a+n) 0
  ·rw[av hc];obtain⟨h1,h2,h3⟩:=vy b p a f (n+1) aa;refine⟨aa,h2,λi hi hi2=>?_⟩;rcases qe n i with h4|h4
   ·exact h3 i aa hi2
   ·obtain rfl:i=n:=by omega
    exact⟨hc.2.1,hc.2.2⟩
  ·rw[aB hc];exact⟨ga _,h,λi h1 h2=>absurd h2 aa⟩
theorem Au(b:aq)(p a:Nat):fm b p a<=257:=(vy b p a 257 0 aa).2.1
theorem vz{b:aq}(h:i<fm b p a):a+i<E b/\b.getD (p+i) 0=b.getD (a+i) 0:=(vy b p a 257 0 aa).2.2 i (bD _) h
def fE(b:aq)(a:Nat):UInt8×UInt8×UInt8:=(b.getD a 0,b.getD (a+1) 0,b.getD (a+2) 0)
def dZ(b:aq)(k:UInt8×UInt8×UInt8):Nat->Option Nat
 |0=>none
 |m+1=>if m+3<=E b/\fE b m=k then some m else dZ b k m
theorem jU{b:aq}{k:UInt8×UInt8×UInt8}:∀{m p:Nat},dZ b k m=some p->p<m
 |0,p,h=>by cases h
 |m+1,p,h=>by
  unfold dZ at h;split at h
  ·injection h with h;omega
  ·have:=jU h;omega
def oH(b:aq)(a:Nat):Nat->Option Nat->Nat->Nat->Nat×Nat
 |0,_,n,d=>(n,d)
 |_+1,none,n,d=>(n,d)
 |f+1,some p,n,d=>
  if a-p<=4095/\n<257 then
   (if n<fm b p a then oH b a f (dZ b (fE b p) p) (fm b p a) (a-p) else oH b a f (dZ b (fE b p) p) n d)
  else (n,d)
def cZ(b:aq)(a:Nat):Nat×Nat:=if E b<a+3 then (0,0) else oH b a a (dZ b (fE b a) a) 0 0
def J0(b:aq)(a:Nat)(r:Nat×Nat):Prop:=r.1<=257/\(0<r.1->1<=r.2/\r.2<=a/\r.2<=4095/\∀i,i<r.1->a+i<E b/\b.getD (a-r.2+i) 0=b.getD (a+i) 0)
theorem E7(b:aq)(a:Nat):∀(f:Nat) (p:Option Nat) (n d:Nat),(∀x,p=some x->x<a)->J0 b a (n,d)->J0 b a (oH b a f p n d)
 |0,_,n,d,_,h=>h
 |_+1,none,n,d,_,h=>h
 |f+1,some p,n,d,hp,h=>by
  have hpa:=hp p rfl;have Ox:∀x,dZ b (fE b p) p=some x->x<a:=λx hx=>by have:=jU hx;omega
  unfold oH;split
  ·rename_i hc;split
   ·refine E7 b a f _ _ _ Ox ⟨Au b p a,λ_=>⟨cX,cX,hc.1,λi hi=>?_⟩⟩;have:=vz hi
    rwa [show a-(a,a-p).2+i=p+i by simp only;omega]
   ·exact E7 b a f _ _ _ Ox h
  ·exact h
theorem pQ(b:aq)(a:Nat):J0 b a (cZ b a):=by
 unfold cZ;split
 ·exact⟨ao,λh=>absurd h ao⟩
 ·exact E7 b a a _ 0 0 (λx hx=>jU hx) ⟨ao,λh=>absurd h ao⟩
def findF(b:aq):Nat->Nat->List bG
 |0,_=>[]
 |f+1,a=>if a<E b then (if 3<=(cZ b a).1 then (0,((cZ b a).1:Int),((cZ b a).2:Int))::findF b f (a+(cZ b a).1) else (b.getD a 0,0,0)::findF b f (a+1)) else []
def fS(b:aq):List bG:=findF b (E b) 0
def dX(t:bG):Prop:=if t.2.1=0 then t.2.2=0 else t.1=0/\3<=t.2.1/\t.2.1<=257/\1<=t.2.2/\t.2.2<=4095
instance (t:bG):Decidable (dX t):=by unfold dX;infer_instance
def jo(d:Nat):Nat->aq->aq
 |0,out=>out
 |n+1,out=>jo d n (out++[out.getD (E out-d) 0])
theorem ld(d:Nat):∀(n:Nat) (out:aq),E (jo d n out)=E out+n
 |0,out=>rfl
 |n+1,out=>by rw[jo,ld d n];simp;omega
def gO(most:Int):aq->List bG->aq×Int
 |out,[]=>(out,0)
 |out,t::r=>
  if¬dX t then ([],7)
  else if (E out:Int)<t.2.2 then ([],8)
  else if most-E out<max 1 t.2.1 then ([],6)
  else if t.2.1=0 then gO most (out++[t.1]) r
  else gO most (jo t.2.2.toNat t.2.1.toNat out) r
def gP(l:List bG)(most:Int):aq×Int:=if most<0 then ([],13) else gO most [] l
theorem Ip{b:aq}{d:Nat}:∀(n a:Nat),1<=d->d<=a->(∀i,i<n->a+i<E b/\b.getD (a-d+i) 0=b.getD (a+i) 0)->a<=E b->jo d n (b.take a)=b.take (a+n)
 |0,a,_,_,_,_=>rfl
 |n+1,a,h1,h2,h3,h4=>by
  obtain⟨h5,h6⟩:=h3 0 aa;rw[rM]at h5 h6;rw[rM]at h6;have e:(b.take a).getD (E (b.take a)-d) 0=b.getD a 0:=by
   rw[fZ,C2 h4,<-h6];simp only[bz];rw[List.getElem?_take_of_lt aa]
  have e2:b.take a++[b.getD a 0]=b.take (a+1):=by
   rw[yZ,fx h5];simp[List.getD,fx h5]
  rw[jo,e,e2,Ip n (a+1) h1 aa (λi hi=>by
   have:=h3 (i+1) aa;rw[show a+1+i=a+(i+1) by omega,show a+1-d+i=a-d+(i+1) by omega];exact this) aa]
  congr 1;omega
theorem BE(b:aq)(most:Int)(hm:(E b:Int)<=most):∀(f a:Nat),a<=E b->E b-a<=f->gO most (b.take a) (findF b f a)=(b,0)
 |0,a,h1,h2=>by
  obtain rfl:a=E b:=by omega
  simp[findF,gO]
 |f+1,a,h1,h2=>by
  unfold findF;split
  ·rename_i ha;have hl:E (b.take a)=a:=by rw[fZ];omega
   split
   ·rename_i h3;obtain⟨k1,k2⟩:=pQ b a;obtain⟨k3,k4,k5,k6⟩:=k2 aa;have alu:=(k6 ((cZ b a).1-1) aa).1;generalize cZ b a=r at*;obtain⟨n,d⟩:=r;simp only at*;have hl:E (b.take a)=a:=by rw[fZ];omega
    have eu:dX (0,(n:Int),(d:Int)):=by unfold dX;rw[aB cX];exact⟨rfl,cX,cX,cX,cX⟩
    have hmx:max (1:Int) (n:Int)=n:=Int.max_eq_right aa;unfold gO;rw[aB (λh=>h eu),aB abO,aB (by rw[hl];simp only;rw[hmx];omega),aB cX];show gO most (jo d n (b.take a)) _=_;rw[Ip n a k3 k4 k6 h1];exact BE b most hm f (a+n) aa aa
   ·have eu:dX (b.getD a 0,0,0):=by unfold dX;rw[av rfl]
    unfold gO;rw[aB (λh=>h eu),aB abO,aB abO,av rfl];have e2:b.take a++[b.getD a 0]=b.take (a+1):=by
     rw[yZ,fx ha];simp[List.getD,fx ha]
    show gO most (b.take a++[b.getD a 0]) _=_;rw[e2];exact BE b most hm f (a+1) aa aa
  ·obtain rfl:a=E b:=by omega
   simp[gO]
theorem xJ(b:aq)(most:Int)(hm:(E b:Int)<=most):gP (fS b) most=(b,0):=by
 unfold gP fS;rw[aB aa];have:=BE b most hm (E b) 0 (bD _) aa
 rwa [oC]at this
theorem Et(b:aq):∀(f a:Nat),a<=E b->E (findF b f a)<=E b-a
 |0,a,_=>bD _
 |f+1,a,h=>by
  unfold findF;split
  ·rename_i ha;split
   ·rename_i h3;obtain⟨k1,k2⟩:=pQ b a;obtain⟨k3,k4,k5,k6⟩:=k2 aa;have alu:=(k6 ((cZ b a).1-1) aa).1;have:=Et b f (a+(cZ b a).1) aa;rw[ei];omega
   ·have:=Et b f (a+1) aa;rw[ei];omega
  ·exact bD _
theorem MM(h:P:=by(simp only at h;omega)):P:=h
theorem MP(h:P:=by(rw[hq];simp[bT])):P:=h
abbrev Rt:=Nat×Nat×Nat×Nat
def ng(v:Nat):Nat:=v.log2
def xf(v:Nat):Nat:=v-2^v.log2
def bE(t:bG):Rt:=if t.2.1=0 then (t.1.toNat,0,0,0) else (257+ng (t.2.1-2).toNat,xf (t.2.1-2).toNat,ng t.2.2.toNat,xf t.2.2.toNat)
theorem RW(h:v≠0):2^ng v+xf v=v/\xf v<2^ng v:=by
 unfold ng xf;have h1:=Nat.log2_self_le h;have h2:= @Nat.lt_log2_self v;rw[ki]at h2;omega
theorem DX{k:Nat}(h:v<2^(k+1))(hv:v≠0):ng v<=k:=by
 unfold ng;have h1:=Nat.log2_self_le hv;rcases qe k v.log2 with h2|h2
 ·have:=gz (show 1<=2 by omega) (show k+1<=v.log2 by omega);omega
 ·exact h2
theorem kV{t:bG}(h:dX t)(h0:¬t.2.1=0):257<=(bE t).1/\(bE t).1<=264/\(bE t).2.2.1<=11/\(bE t).2.1<2^((bE t).1-257)/\(bE t).2.2.2<2^(bE t).2.2.1/\
  (2:Int)+2^((bE t).1-257)+(bE t).2.1=t.2.1/\(2:Int)^(bE t).2.2.1+(bE t).2.2.2=t.2.2/\t.1=0:=by
 unfold dX at h;rw[aB h0]at h;obtain⟨h1,h2,h3,h4,h5⟩:=h;unfold bE;rw[aB h0];simp only;obtain⟨n,hn⟩:=cM ((t.2.1-2).toNat);obtain⟨d,hd⟩:=cM (t.2.2.toNat);rw[<-hn,<-hd];have a1:=RW (v:=n) aa;have a2:=RW (v:=d) aa;have a3:=DX (v:=n) (k:=7) aa aa;have a4:=DX (v:=d) (k:=11) aa aa;rw[show 257+ng n-257=ng n by omega];have e1:((2:Int)^ng n)=((2^ng n:Nat):Int):=by simp
 have e2:((2:Int)^ng d)=((2^ng d:Nat):Int):=by simp
 rw[e1,e2];exact⟨aa,aa,a4,a1.2,a2.2,aa,aa,h1⟩
theorem pf{t:bG}(h:dX t)(h0:t.2.1=0):bE t=(t.1.toNat,0,0,0)/\t=(t.1,0,0):=by
 unfold dX at h;rw[av h0]at h;refine⟨av h0,?_⟩;obtain⟨x,n,d⟩:=t;simp only at h h0;subst h;subst h0;rfl
def CQ(l:List bG)(s:Nat):Nat:=l.countP (λt=>(bE t).1==s)+if s=256 then 1 else 0
def uo(l:List bG)(s:Nat):Nat:=l.countP (λt=>decide (256<(bE t).1)&&(bE t).2.2.1==s)
def cI(l:List bG):aq:=iZ (CQ l) 265
def dE(l:List bG):aq:=iZ (uo l) 12
def qW(sl fl:aq)(t:bG):List Bool:=hw sl (bE t).1++if (bE t).1<256 then [] else hi (bE t).2.1 ((bE t).1-257) ((bE t).1-257)++(hw fl (bE t).2.2.1++hi (bE t).2.2.2 (bE t).2.2.1 (bE t).2.2.1)
def lQ(sl fl:aq)(l:List bG):List Bool:=l.flatMap (qW sl fl)
def kB(l:List bG):List Bool:=fK (cI l) 0++(fK (dE l) 0++(lQ (cI l) (dE l) l++hw (cI l) 256))
def lR(l:List bG):aq×Int:=if 32768<E l then ([],6) else if∀t∈l,dX t then (packed (kB l),0) else ([],7)
def atT(x:Int)(b:Nat):Prop:=0<=x/\x<2^b
instance (x:Int)(b:Nat):Decidable (atT x b):=inferInstanceAs (Decidable (_/\_))
def jt(fl:aq)(q:List Bool)(p:Nat)(s:Int):bG×Int×Nat:=
 if¬pE q p (s-257)=0 then ((0,0,0),pE q p (s-257),fH q p (s-257))
 else if¬(dN fl q (fH q p (s-257))).2.1=0 then ((0,0,0),(dN fl q (fH q p (s-257))).2.1,(dN fl q (fH q p (s-257))).2.2)
 else if¬pE q (dN fl q (fH q p (s-257))).2.2 (dN fl q (fH q p (s-257))).1=0 then ((0,0,0),pE q (dN fl q (fH q p (s-257))).2.2 (dN fl q (fH q p (s-257))).1,fH q (dN fl q (fH q p (s-257))).2.2 (dN fl q (fH q p (s-257))).1)
 else ((0,2+2^(s-257).toNat+(jE q p (s-257):Int),2^(dN fl q (fH q p (s-257))).1.toNat+(jE q (dN fl q (fH q p (s-257))).2.2 (dN fl q (fH q p (s-257))).1:Int)),0,fH q (dN fl q (fH q p (s-257))).2.2 (dN fl q (fH q p (s-257))).1)
def ic(sl fl:aq)(q:List Bool)(p:Nat):bG×Bool×Int×Nat:=
 if¬(dN sl q p).2.1=0\/(dN sl q p).1=256 then ((0,0,0),false,(dN sl q p).2.1,(dN sl q p).2.2)
 else if (dN sl q p).1<256 then ((UInt8.ofNat (dN sl q p).1.toNat,0,0),true,0,(dN sl q p).2.2)
 else ((jt fl q (dN sl q p).2.2 (dN sl q p).1).1,decide ((jt fl q (dN sl q p).2.2 (dN sl q p).1).2.1=0),(jt fl q (dN sl q p).2.2 (dN sl q p).1).2.1,(jt fl q (dN sl q p).2.2 (dN sl q p).1).2.2)
def oT(sl fl:aq)(q:List Bool):Nat->Int->Nat->List bG->List bG×Int
 |0,most,p,acc=>([],6)
 |f+1,most,p,acc=>
  if¬(ic sl fl q p).2.2.1=0 then ([],(ic sl fl q p).2.2.1)
  else if (ic sl fl q p).2.1=false then (if Rm q (ic sl fl q p).2.2.2=0 then (acc,0) else ([],Rm q (ic sl fl q p).2.2.2))
  else if most-max 1 (ic sl fl q p).1.2.1<0 then ([],6)
  else oT sl fl q f (most-max 1 (ic sl fl q p).1.2.1) (ic sl fl q p).2.2.2 (acc++[(ic sl fl q p).1])
noncomputable def eh(b:aq)(most:Int):List bG×Int:=
 if most<0 then ([],13)
 else if¬(nW (eM b) 0 265).2.1=0 then ([],(nW (eM b) 0 265).2.1)
 else if¬(nW (eM b) (nW (eM b) 0 265).2.2 12).2.1=0 then ([],(nW (eM b) (nW (eM b) 0 265).2.2 12).2.1)
 else oT (nW (eM b) 0 265).1 (nW (eM b) (nW (eM b) 0 265).2.2 12).1 (eM b) (most.toNat+1) most (nW (eM b) (nW (eM b) 0 265).2.2 12).2.2 []
def ir:List bG->Int
 |[]=>0
 |t::r=>max 1 t.2.1+ir r
theorem ka(hN:N<=300)(hs:s<N)(ho:0<o s):((iZ o N).getD s 0).toNat≠0:=by
 rw[Bi hN hs];have:=Pc hN hs ho;omega
theorem D0{l:List bG}{t:bG}(h:t∈l):0<CQ l (bE t).1:=by
 unfold CQ;have:0<l.countP λu=>(bE u).1==(bE t).1:=List.countP_pos_iff.2 ⟨t,h,ao⟩;omega
theorem DY{l:List bG}{t:bG}(h:t∈l)(h2:256<(bE t).1):0<uo l (bE t).2.2.1:=by
 unfold uo;exact List.countP_pos_iff.2 ⟨t,h,by simp[h2]⟩
theorem agw{l:List bG}(hm:∀t∈l,dX t){t:bG}(ht:t∈l)(pre r:List Bool)(hq:q=pre++(qW (cI l) (dE l) t++r)):
  ic (cI l) (dE l) q (E pre)=(t,true,0,E (pre++qW (cI l) (dE l) t)):=by
 have My:Good (cI l):=j_ aa;have Zb:Good (dE l):=j_ aa;have eu:=hm t ht;have hc:=D0 ht;by_cases h0:t.2.1=0
 ·obtain⟨e1,e2⟩:=pf eu h0;have hx:=kR t.1;have gU:(bE t).1<256:=by rw[e1];exact hx
  have hb:qW (cI l) (dE l) t=hw (cI l) (bE t).1:=by unfold qW;rw[av gU,gN]
  rw[hb]at hq⊢;have hg:=yQ My (s:=(bE t).1) (by rw[cI,fX];omega) (ka aa aa hc) pre r hq;unfold ic;rw[hg,aB (λh=>h.elim (λh=>h rfl) λh=>MM),av cX];simp only[e1];rw[e2];simp
 ·obtain⟨k1,k2,k3,k4,k5,k6,k7,k8⟩:=kV eu h0;have hf:=DY ht (by omega:256<(bE t).1);obtain⟨P,hP⟩:=cM (bE t);unfold qW at hq⊢;rw[<-hP]at k1 k2 k3 k4 k5 k6 k7 hf hc hq⊢;obtain⟨s,x,c,y⟩:=P;simp only at k1 k2 k3 k4 k5 k6 k7 hf hc hq⊢;rw[aB aa]at hq⊢;have hg:=yQ My (s:=s) (by rw[cI,fX];omega) (ka aa aa hc) pre (hi x (s-257) (s-257)++(hw (dE l) c++(hi y c c++r))) (q:=q) MP;obtain⟨b1,b2,b3⟩:=got q (pre++hw (cI l) s) (hw (dE l) c++(hi y c c++r)) x (n:=s-257) aa k4 MP;have AW:=yQ Zb (s:=c) (by rw[dE,fX];omega) (ka aa aa hf) (pre++hw (cI l) s++hi x (s-257) (s-257)) (hi y c c++r) (q:=q) MP;obtain⟨c1,c2,c3⟩:=got q (pre++hw (cI l) s++hi x (s-257) (s-257)++hw (dE l) c) r y (n:=c) aa k5 MP;have es:((s:Int)-257)=((s-257:Nat):Int):=by omega
  have Zk:jt (dE l) q (E (pre++hw (cI l) s)) (s:Int)=(t,0,E (pre++hw (cI l) s++hi x (s-257) (s-257)++hw (dE l) c++hi y c c)):=by
   unfold jt;rw[es,b1,b3,AW];simp only;rw[c1,c3,b2,c2,aB ao,aB ao,aB ao,lJ,lJ,k6,k7,<-k8]
  unfold ic;rw[hg];simp only;rw[aB (λh=>h.elim (λh=>by simp at h) λh=>aa),aB aa,Zk];simp[bT]
theorem xS(sl fl:aq)(t:bG)(r:List bG):lQ sl fl (t::r)=qW sl fl t++lQ sl fl r:=rfl
theorem agu{l:List bG}(pre r:List Bool)(hq:q=pre++(hw (cI l) 256++r)):
  ic (cI l) (dE l) q (E pre)=((0,0,0),false,0,E (pre++hw (cI l) 256)):=by
 have hg:=yQ (j_ (o:=CQ l) (N:=265) aa) (s:=256) (by rw[fX];omega) (ka aa aa (by unfold CQ;rw[av rfl];omega)) pre r hq;unfold ic;unfold cI at*;rw[hg,av (.inr rfl)]
theorem nP:∀r:List bG,0<=ir r
 |[]=>Int.le_refl _
 |t::r=>by have:=nP r;unfold ir;omega
theorem QB{l:List bG}(hm:∀t∈l,dX t){q:List Bool}{r:List Bool}(hr:Rm q (E q-E r)=0):∀(ts:List bG) (f:Nat) (most:Int) (pre:List Bool) (acc:List bG),(∀t∈ts,t∈l)->ir ts<=most->most<f->
  q=pre++(lQ (cI l) (dE l) ts++(hw (cI l) 256++r))->oT (cI l) (dE l) q f most (E pre) acc=(acc++ts,0)
 |ts,0,most,pre,acc,_,h2,h3,_=>by have:=nP ts;omega
 |[],f+1,most,pre,acc,_,h2,h3,hq=>by
  have hq':q=pre++(hw (cI l) 256++r):=hq;have h:=agu pre r hq';unfold oT;rw[h,aB ao,av rfl];have:E (pre++hw (cI l) 256)=E q-E r:=by rw[hq'];simp;omega
  simp only[this];rw[av hr,gN]
 |t::ts,f+1,most,pre,acc,h1,h2,h3,hq=>by
  rw[xS,bT]at hq;have h:=agw hm (h1 t ao) pre _ hq;unfold ir at h2;have hp:=nP ts;unfold oT;rw[h,aB ao,aB ao,aB cX];simp only;rw[QB hm hr ts f _ (pre++qW (cI l) (dE l) t) (acc++[t]) (λu hu=>h1 u (by simp[hu])) aa aa MP,bT];rfl
theorem ajv(q:List Bool):Rm (q++pad q) (E (q++pad q)-E (pad q))=0:=by
 have e:E (q++pad q)-E (pad q)=E q:=by simp
 have hl:=xG q;unfold Rm;rw[e,atd,av ⟨by rw[bm,hl];omega,rfl⟩]
theorem aaV{l:List bG}(hm:∀t∈l,dX t){most:Int}(hp:ir l<=most):eh (packed (kB l)) most=(l,0):=by
 have My:Good (cI l):=j_ aa;have Zb:Good (dE l):=j_ aa;have sH:=nP l;obtain⟨q,hq⟩:=cM (eM (packed (kB l)));have Ha:=hq;rw[qX]at hq;have lB:E (cI l)=265:=fX _ _;have l_:E (dE l)=12:=fX _ _;obtain⟨T,hT⟩:=cM (lQ (cI l) (dE l) l++(hw (cI l) 256++pad (kB l)));have hq3:q=fK (cI l) 0++(fK (dE l) 0++T):=by rw[hq,hT];unfold kB;simp[bT]
 have r1:nW q 0 265=(cI l,0,E (fK (cI l) 0)):=by
  have:=back (cI l) My (fK (dE l) 0++T) (E (cI l)) 0 (E (cI l)) [] false q aa aa hq3 aa (λh=>jB);rw[lB]at this;rw[nW,aB aa];simpa using this
 have r2:nW q (E (fK (cI l) 0)) 12=(dE l,0,E (fK (cI l) 0++fK (dE l) 0)):=by
  have:=back (dE l) Zb T (E (dE l)) 0 (E (dE l)) (fK (cI l) 0) false q aa aa hq3 aa (λh=>jB);rw[l_]at this;rw[nW,aB aa];simpa using this
 unfold eh;rw[<-Ha,aB aa,r1];simp only;rw[r2];simp only;rw[aB ao,aB ao];have hpe:=ajv (kB l);rw[<-hq]at hpe;have:=QB hm (q:=q) (r:=pad (kB l)) hpe l (most.toNat+1) most (fK (cI l) 0++fK (dE l) 0) [] (λt h=>h) hp aa (by rw[hq3,hT];simp[bT])
 rwa [mh]at this
theorem AP(b:aq):∀(f a:Nat),a<=E b->ir (findF b f a)<=((E b-a:Nat):Int)
 |0,a,h=>by simp only[findF,ir];omega
 |f+1,a,h=>by
  unfold findF;split
  ·rename_i ha;split
   ·rename_i h3;obtain⟨k1,k2⟩:=pQ b a;obtain⟨k3,k4,k5,k6⟩:=k2 aa;have alu:=(k6 ((cZ b a).1-1) aa).1;have:=AP b f (a+(cZ b a).1) aa;unfold ir;simp only;omega
   ·have:=AP b f (a+1) aa;unfold ir;simp only;omega
  ·simp only[ir];omega
theorem uz(b:aq):∀(f a:Nat),∀t∈findF b f a,dX t
 |0,a,t,h=>by cases h
 |f+1,a,t,h=>by
  unfold findF at h;split at h
  ·rename_i ha;split at h
   ·rename_i h3;obtain⟨k1,k2⟩:=pQ b a;obtain⟨k3,k4,k5,k6⟩:=k2 aa;rcases fq.1 h with e|e
    ·subst e;unfold dX;rw[aB cX];exact⟨rfl,cX,cX,cX,cX⟩
    ·exact uz b f _ t e
   ·rcases fq.1 h with e|e
    ·subst e;unfold dX;rw[av rfl]
    ·exact uz b f _ t e
  ·cases h
theorem I9:type_of% @BitVec.toNat_ofInt:= @BitVec.toNat_ofInt
theorem wV:type_of% @Nat.shiftRight_eq_div_pow:= @Nat.shiftRight_eq_div_pow
theorem zO{x:Int}(h1:0<=x)(h2:x<4294967296):IntKind.u32.wrap x=x:=by
 have e:IntKind.u32.wrap x=x%2^32:=rfl;rw[e];omega
theorem ao6{k:IntKind}(ha:a<2^k.bits)(hb:b<2^k.bits):(BitVec.ofInt k.bits (a:Int) ^^^ BitVec.ofInt k.bits (b:Int)).toNat=a ^^^ b:=by
 rw[BitVec.toNat_xor,I9,I9];have h1:((a:Int)%((2^k.bits:Nat):Int)).toNat=a:=by
  rw[<-Int.natCast_emod,ly ha];rfl
 have h2:((b:Int)%((2^k.bits:Nat):Int)).toNat=b:=by
  rw[<-Int.natCast_emod,ly hb];rfl
 rw[h1,h2]
theorem amn{k:IntKind}(ha:a<2^k.bits)(hb:b<2^k.bits):(BitVec.ofInt k.bits (a:Int) &&& BitVec.ofInt k.bits (b:Int)).toNat=a &&& b:=by
 rw[BitVec.toNat_and,I9,I9];have h1:((a:Int)%((2^k.bits:Nat):Int)).toNat=a:=by
  rw[<-Int.natCast_emod,ly ha];rfl
 have h2:((b:Int)%((2^k.bits:Nat):Int)).toNat=b:=by
  rw[<-Int.natCast_emod,ly hb];rfl
 rw[h1,h2]
theorem JX(ha:a<4294967296)(hb:b<4294967296):IntKind.u32.wrap ((BitVec.ofInt IntKind.u32.bits (a:Int) ^^^ BitVec.ofInt IntKind.u32.bits (b:Int)).toNat:Int)=((a ^^^ b:Nat):Int):=by
 rw[ao6 (k:=.u32) ha hb];have:=tw (n:=32) ha hb;exact zO aa aa
theorem abE(ha:a<4294967296)(hb:b<4294967296):IntKind.u32.wrap ((BitVec.ofInt IntKind.u32.bits (a:Int) &&& BitVec.ofInt IntKind.u32.bits (b:Int)).toNat:Int)=((a &&& b:Nat):Int):=by
 rw[amn (k:=.u32) ha hb];have:=OK (n:=32) a hb;exact zO aa aa
theorem ag2(ha:a<256)(hb:b<256):IntKind.u8.wrap ((BitVec.ofInt IntKind.u8.bits (a:Int) ^^^ BitVec.ofInt IntKind.u8.bits (b:Int)).toNat:Int)=((a ^^^ b:Nat):Int):=by
 rw[ao6 (k:=.u8) ha hb];have:=tw (n:=8) ha hb;exact Gw aa aa
theorem apo(ha:a<256)(hb:b<256):IntKind.u8.wrap ((BitVec.ofInt IntKind.u8.bits (a:Int) &&& BitVec.ofInt IntKind.u8.bits (b:Int)).toNat:Int)=((a &&& b:Nat):Int):=by
 rw[amn (k:=.u8) ha hb];have:=OK (n:=8) a hb;exact Gw aa aa
theorem Hw(a k:Nat):((a:Nat):Int).fdiv (2^k)=((a >>> k:Nat):Int):=by
 rw[wS _ (Int.le_of_lt (Int.pow_pos aE)),wV];rw[Int.natCast_ediv];congr 1
theorem Ud(a k:Nat):a >>> k<=a:=by rw[wV];exact oE _ _
theorem wW:type_of% @Nat.le_of_not_lt:= @Nat.le_of_not_lt
theorem y7:type_of% @Nat.add_sub_cancel:= @Nat.add_sub_cancel
theorem y8:type_of% @List.drop_left:= @List.drop_left
def w3:br:=[0,498536548,997073096,651767980,1994146192,1802195444,1303535960,1342533948,3988292384,4027552580,3604390888,3412177804,2607071920,2262029012,2685067896,3183342108]
def yr(x:Nat):Nat:=(x >>> 4) ^^^ w3.getD (x &&& 15) 0
def GW(x:Nat)(c:UInt8):Nat:=yr (yr (x ^^^ c.toNat))
def mw(s:Nat)(b:aq):Nat:=4294967295 ^^^ b.foldl GW (4294967295 ^^^ s)
theorem F9(k:Nat):w3.getD k 0<4294967296:=by
 have pF:∀x∈w3,x<4294967296:=by decide
 by_cases h:k<E w3
 ·rw[bz,fx h];exact pF _ (uH h)
 ·rw[bz,tS (wW h)];decide
theorem Kf{x:Nat}(h:x<4294967296):yr x<4294967296:=by
 have h1:=Ud x 4;exact tw (n:=32) aa (F9 _)
theorem VJ{x:Nat}(h:x<4294967296)(c:UInt8):GW x c<4294967296:=by
 have h1:=c.toNat_lt;exact Kf (Kf (tw (n:=32) h aa))
theorem aih(b:aq):∀{x:Nat},x<4294967296->b.foldl GW x<4294967296:=by
 induction b with
 |nil=>intro x h;exact h
 |cons c r ih=>intro x h;exact ih (VJ h c)
theorem ahW(h:s<4294967296)(b:aq):mw s b<4294967296:=
 tw (n:=32) aE (aih b (tw (n:=32) aE h))
def kz(s:Nat):aq:=[UInt8.ofNat s,UInt8.ofNat (s >>> 8),UInt8.ofNat (s >>> 16),UInt8.ofNat (s >>> 24)]
def b7(b:aq):aq:=b++kz (mw 0 b)
def aT(b:aq):aq×Int:=
 if E b<4 then ([],1) else if b.drop (E b-4)=kz (mw 0 (b.take (E b-4))) then (b.take (E b-4),0) else ([],5)
theorem aaI(s:Nat):E (kz s)=4:=rfl
theorem dD(b:aq):E (b7 b)=E b+4:=by simp[b7,aaI]
theorem kN(b:aq):aT (b7 b)=(b,0):=by
 unfold aT;rw[aB (by rw[dD];omega),dD,y7];have h1:(b7 b).take (E b)=b:=by unfold b7;rw[y']
 have h2:(b7 b).drop (E b)=kz (mw 0 b):=by unfold b7;rw[y8]
 rw[h1,h2,av rfl]
theorem rG:type_of% @Nat.mod_lt:= @Nat.mod_lt
def aW:Nat->aq
 |x=>if h:128<=x then UInt8.ofNat (128+x%128)::aW (x/128) else [UInt8.ofNat x]
 termination_by x=>x
 decreasing_by omega
theorem nA{x:Nat}(h:x<128):aW x=[UInt8.ofNat x]:=by
 rw[aW];simp;omega
theorem vF{x:Nat}(h:128<=x):aW x=UInt8.ofNat (128+x%128)::aW (x/128):=by
 rw[aW];simp[h]
theorem NM(k:Nat):∀x,x<128^(k+1)->E (aW x)<=k+1:=by
 induction k with
 |zero=>intro x h;rw[nA ml];simp
 |succ k ih=>
  intro x h;by_cases hx:128<=x
  ·rw[vF hx];have:=ih (x/128) (by rw[ki]at h;omega);simp;omega
  ·rw[nA aa];simp
theorem aY{x:Nat}(h:x<18446744073709551616):E (aW x)<=10:=by
 have:(128:Nat)^10=1180591620717411303424:=by decide+kernel
 exact NM 9 x aa
theorem u8n(x:Nat)(h:x<256):(UInt8.ofNat x).toNat=x:=by simp;omega
theorem Di(x:Nat)(h:x<256):bv [UInt8.ofNat x]=[.int .u8 (x:Int)]:=by simp only[bv,iN,KU,u8n x h]
def fg(l:aq):aq:=aW (E l)++l
def fT(x:Nat):Nat->aq
 |0=>[]
 |k+1=>fT x k++[UInt8.ofNat (x/2^(8*k)%256)]
@[simp] theorem ql(x k:Nat):E (fT x k)=k:=by induction k with
 |zero=>rfl
 |succ k ih=>simp[fT,ih]
theorem V'{x k:Nat}(h:k<n)(u:Value)(hu:u= .int .u8 ((x/2^(8*k)%256:Nat):Int)):
  (bv (fT x k)++List.replicate (n-k) (Value.int .u8 0)).set k u=bv (fT x (k+1))++List.replicate (n-(k+1)) (Value.int .u8 0):=by
 rw[Xm _ h,LD _ _ _ _ ao,hu,fT,jn,Di _ (rG _ aa)];simp
theorem yg(h:P:=by(go_num)):P:=h
theorem ap3(h:P:=by(rw[jn,Di _ (by omega)];congr 2)):P:=h
theorem JF:tc Tryz.prog 27 5 1 1 (.int .u8 0):=kY underlying27 ae rfl aa
theorem aeB{x k:Nat}(h:aW x=pre++aW k)(hk:128<=k):aW x=(pre++[UInt8.ofNat (128+k%128)])++aW (k/128):=by
 rw[h,vF hk];simp
theorem ajt(k:Nat):bits .or .u8 ((k:Int)%256) 128=((128+k%128:Nat):Int):=by
 have h:=u8_or (k%256) 128 aa aa;rw[aeQ _ aa]at h;rw[show((k:Int)%256)=((k%256:Nat):Int) from by omega];refine h.trans ?_;omega
def DI(x k:Nat)(pre:aq):Prop:=aW x=pre++aW k/\k<=x
theorem DI.ae8{x k:Nat}(h:DI x k pre)(hx:x<18446744073709551616):E pre<=10:=by
 have h1:=eG List.length h.1;have h2:=aY hx;simp at h1;omega
theorem DI.more{x k:Nat}(h:DI x k pre)(hk:128<=k):DI x (k/128) (pre++[UInt8.ofNat (128+k%128)]):=
 ⟨aeB h.1 hk,(by have:=h.2;omega)⟩
set_option maxRecDepth 100000 in
set_option maxHeartbeats 400000 in
theorem asu(x:Nat)(hx:x<18446744073709551616)(w:World):
  Calls Tryz.prog 63 #[.int .u64 x] w λe w'=>∃v,e= .returned v/\w'.ownsRow w.heap.size 5 1 v (E (aW x)) (bv (aW x))/\Below w.heap.size w w':=by
 go_enter func63,Tryz.ntmps63
 go_wp2
 go_loopw [0,3] (λxv v wr=>∃(k:Nat) (pre:aq),xv= .int .u64 k/\DI x k pre/\wr.ownsRow w.heap.size 5 1 v (E pre) (bv pre)/\Below w.heap.size w wr)
  (λxv _ _=>(intOf xv).toNat)
 case atStart=>exact⟨x,[],rfl,⟨rfl,ga _⟩,World.ownsRow_nil _ _ _ _,EZ _ _⟩
 case round=>
  obtain⟨k,pre,rfl,rr,kQ,hb⟩:=hrel;have hlen:=rr.ae8 hx;have hkx:k<=x:=rr.2;have hB:=hb.size;have hob:=ajt k;by_cases Oa:128<=k
  ·go_wp2_with (first|(at_builtin;refine DF JF rfl (.tmp 6) (.tmp 10) rfl rfl kQ rfl rfl hb (ga _) hB aa aa ?_;intro v1 w1 uF nC j8 xm))
   go_roundw
   case rel=>exact⟨k/128,pre++[UInt8.ofNat (128+k%128)],yg,rr.more Oa,Bw uF ao ap3,nC⟩
   case measure=>simp[intOf];omega
  ·go_wp2_with (first|(at_builtin;refine DF JF rfl (.tmp 14) (.tmp 17) rfl rfl kQ rfl rfl hb (ga _) hB aa aa ?_;intro v1 w1 uF nC j8 xm))
   go_ret
   have e:=rr.1;rw[nA (by omega:k<128)]at e;refine⟨v1,rfl,Bw uF (by rw[e];simp) ?_,nC⟩;rw[e,jn,Di _ aa]
set_option maxRecDepth 100000 in
set_option maxHeartbeats 400000 in
theorem aom(x:Nat)(hx:x<18446744073709551616)(w:World):
  Calls Tryz.prog 77 #[.int .u64 x] w λe w'=>∃v,e= .returned v/\w'.ownsRow w.heap.size 5 1 v (E (aW x)) (bv (aW x))/\Below w.heap.size w w':=by
 go_enter func77,Tryz.ntmps77
 go_wp2
 go_loopw [0,3] (λxv v wr=>∃(k:Nat) (pre:aq),xv= .int .u64 k/\DI x k pre/\wr.ownsRow w.heap.size 5 1 v (E pre) (bv pre)/\Below w.heap.size w wr)
  (λxv _ _=>(intOf xv).toNat)
 case atStart=>exact⟨x,[],rfl,⟨rfl,ga _⟩,World.ownsRow_nil _ _ _ _,EZ _ _⟩
 case round=>
  obtain⟨k,pre,rfl,rr,kQ,hb⟩:=hrel;have hlen:=rr.ae8 hx;have hkx:k<=x:=rr.2;have hB:=hb.size;by_cases Oa:128<=k
  ·go_wp2_with (first|(at_builtin;refine DF JF rfl (.tmp 6) (.tmp 11) rfl rfl kQ rfl rfl hb (ga _) hB aa aa ?_;intro v1 w1 uF nC j8 xm))
   go_roundw
   case rel=>exact⟨k/128,pre++[UInt8.ofNat (128+k%128)],yg,rr.more Oa,Bw uF ao ap3,nC⟩
   case measure=>simp[intOf];omega
  ·go_wp2_with (first|(at_builtin;refine DF JF rfl (.tmp 15) (.tmp 18) rfl rfl kQ rfl rfl hb (ga _) hB aa aa ?_;intro v1 w1 uF nC j8 xm))
   go_ret
   have e:=rr.1;rw[nA (by omega:k<128)]at e;refine⟨v1,rfl,Bw uF (by rw[e];simp) ?_,nC⟩;rw[e,jn,Di _ aa]
theorem L6:∃i,Tryz.prog.info? 5=some i/\i.zero=some (.int .u8 0)/\i.size=1/\i.bytes=1:=JF.hi
set_option maxRecDepth 100000 in
set_option maxHeartbeats 400000 in
theorem aoF(s:ByteArray)(hs:s.size<=1099511627776)(w:World):
  Calls Tryz.prog 143 #[.string s] w λe w'=>∃v,e= .returned v/\w'.ownsRow w.heap.size 5 1 v (E (fg s.data.toList)) (bv (fg s.data.toList))/\Below w.heap.size w w':=by
 obtain⟨i0,hi,hz0,CX,sI⟩:=L6;have iy:E s.data.toList=s.size:=Hj;have Hsz:=gM iy;clear iy;have hl:E (aW s.size)<=10:=aY aa
 go_enter func143,Tryz.ntmps143
 go_wp2_with (first|(go_at_call 63;refine(asu _ aa _).mono ?_;rintro e w1 ⟨v1,rfl,kQ,hb⟩)|(at_builtin;refine Lib.wpList_append_own_string _ rfl (.tmp 6) (.tmp 7) 27 9 rfl w.heap.size 5 i0 underlying27 underlying9 hi hz0 CX sI _ _ _ rfl kQ s rfl yd aa hb.size ?_;intro v2 w2 Cj AW _))
 go_ret
 refine⟨v2,rfl,Bw Cj (by rw[fg,bm,Hsz.out]) (by rw[fg,jn,Hsz.out];rfl),hb.grown AW hb.size λk hk=>(kQ.lt k hk).1⟩
set_option maxRecDepth 100000 in
set_option maxHeartbeats 400000 in
theorem ajX(s:ByteArray)(hs:s.size<=1099511627776)(w:World):
  Calls Tryz.prog 133 #[.string s] w λe w'=>∃v,e= .returned v/\w'.ownsRow w.heap.size 5 1 v (E (fg s.data.toList)) (bv (fg s.data.toList))/\Below w.heap.size w w':=by
 obtain⟨i0,hi,hz0,CX,sI⟩:=L6;have iy:E s.data.toList=s.size:=Hj;have Hsz:=gM iy;clear iy;have hl:E (aW s.size)<=10:=aY aa
 go_enter func133,Tryz.ntmps133
 go_wp2_with (first|(go_at_call 77;refine(aom _ aa _).mono ?_;rintro e w1 ⟨v1,rfl,kQ,hb⟩)|(at_builtin;refine Lib.wpList_append_own_string _ rfl (.tmp 6) (.tmp 7) 27 9 rfl w.heap.size 5 i0 underlying27 underlying9 hi hz0 CX sI _ _ _ rfl kQ s rfl yd aa hb.size ?_;intro v2 w2 Cj AW _))
 go_ret
 refine⟨v2,rfl,Bw Cj (by rw[fg,bm,Hsz.out]) (by rw[fg,jn,Hsz.out];rfl),hb.grown AW hb.size λk hk=>(kQ.lt k hk).1⟩
theorem U9(h:P:=by(simp only[ei];omega)):P:=h
def dv:Nat->Nat->aq->Nat×Nat×Int
 |_,_,[]=>(0,0,1)
 |i,acc,c::r=>
  if i=9/\c.toNat≠1\/0<i/\c.toNat=0 then (0,0,2)
  else if c.toNat<128 then (acc+c.toNat%128*128^i,i+1,0)
  else dv (i+1) (acc+c.toNat%128*128^i) r
def b8(l:aq):Nat×Nat×Int:=dv 0 0 l
def eU(l:aq)(most:Int):Nat×Nat×Int:=
 if (b8 l).2.2≠0 then (0,0,(b8 l).2.2)
 else if most<0\/most<(b8 l).1 then (0,0,6)
 else ((b8 l).1,(b8 l).2.1,0)
structure Cs where
 b:aq
 at_:Nat
 e:Int
def Cs.rest(s:Cs):aq:=s.b.drop s.at_
def Cs.left(s:Cs):Nat:=E s.b-s.at_
def Cs.failed(s:Cs)(e:Int):Cs:=if s.e=0 then {s with e:=e} else s
def Cs.d_(s:Cs)(n:Nat)(e:Int):Cs:=if s.e≠0 then s else if e≠0 then {s with e:=e} else {s with at_:=s.at_+n}
def Cs.num(s:Cs):Nat:=if s.e≠0 then 0 else (b8 s.rest).1
def Cs.lK(s:Cs):Cs:=s.d_ (b8 s.rest).2.1 (b8 s.rest).2.2
def Cs.int(s:Cs)(most:Int):Nat:=if s.e≠0 then 0 else (eU s.rest most).1
def Cs.bX(s:Cs)(most:Int):Cs:=s.d_ (eU s.rest most).2.1 (eU s.rest most).2.2
def fC(l:aq)(n:Int):Int:=if n<0 then 13 else if (E l:Int)<n then 1 else 0
def Cs.take(s:Cs)(n:Int):aq:=if s.e≠0 then [] else if fC s.rest n≠0 then [] else s.rest.take n.toNat
def Cs.bR(s:Cs)(n:Int):Cs:=s.d_ n.toNat (fC s.rest n)
def Cs.byte(s:Cs):UInt8:=((s.take 1).head?).getD 0
def Cs.eV(s:Cs):Cs:=s.bR 1
def jh:aq->Nat
 |[]=>0
 |c::r=>c.toNat+256*jh r
def Cs.fixed(s:Cs)(n:Int):Nat:=if n<1\/8<n then 0 else jh (s.take n)
def Cs.lA(s:Cs)(n:Int):Cs:=if n<1\/8<n then s.failed 13 else s.bR n
def jW(l:aq)(most:Int):aq×Nat×Int:=
 if (eU l most).2.2≠0 then ([],0,(eU l most).2.2)
 else if E l-(eU l most).2.1<(eU l most).1 then ([],0,1)
 else ((l.drop (eU l most).2.1).take (eU l most).1,(eU l most).2.1+(eU l most).1,0)
def Cs.text(s:Cs)(most:Int):aq:=if s.e≠0 then [] else (jW s.rest most).1
def Cs.fa(s:Cs)(most:Int):Cs:=s.d_ (jW s.rest most).2.1 (jW s.rest most).2.2
def Cs.yE(s:Cs):Cs:=if 0<s.left then s.failed 2 else s
theorem FT:∀(l:aq) (i acc:Nat),i<=9->acc<128^i->
  (dv i acc l).1<18446744073709551616/\(dv i acc l).2.1<=i+E l/\0<=(dv i acc l).2.2/\(dv i acc l).2.2<=2:=by
 intro l;induction l with
 |nil=>intro i acc _ _;simp[dv]
 |cons c r ih=>
  intro i acc hi ha;unfold dv;have hp:128^(i+1)=128^i*128:=ki ..;by_cases h1:i=9/\c.toNat≠1\/0<i/\c.toNat=0
  ·rw[av h1];simp
  ·rw[aB h1];have wR:acc+c.toNat%128*128^i<128^(i+1):=by
    have:c.toNat%128*128^i<=127*128^i:=C3 _ aa;omega
   by_cases h2:c.toNat<128
   ·rw[av h2];refine⟨?_,U9,ao,ao⟩;show acc+c.toNat%128*128^i<_;rcases qe i 9 with h9|h9
    ·have:128^(i+1)<=128^9:=gz aa aa;have e9:(128:Nat)^9=9223372036854775808:=by decide+kernel
     omega
    ·have h9':i=9:=by omega
     subst h9';have hc:c.toNat=1:=by omega
     have e9:(128:Nat)^9=9223372036854775808:=by decide+kernel
     have CT:acc<9223372036854775808:=Nat.lt_of_lt_of_eq ha e9;rw[hc,e9];clear hp wR ha e9;omega
   ·rw[aB h2];have h9:i<9:=by
     rcases qe i 9 with h9|h9
     ·exact h9
     ·exfalso;omega
    obtain⟨a,b,c',d⟩:=ih (i+1) _ aa wR;exact⟨a,by simp at b⊢;omega,c',d⟩
theorem fG(l:aq):(b8 l).1<18446744073709551616/\(b8 l).2.1<=E l/\0<=(b8 l).2.2/\(b8 l).2.2<=2:=by
 have:=FT l 0 0 aa ao;simpa[b8]using this
theorem jN(l:aq)(most:Int)(hm:most<=9223372036854775807):
  (eU l most).1<=9223372036854775807/\(eU l most).2.1<=E l/\0<=(eU l most).2.2/\((eU l most).2.2=0->((eU l most).1:Int)<=most):=by
 have h:=fG l;unfold eU;split
 ·exact⟨ao,ao,h.2.2.1,λh0=>by rename_i tO;exact absurd h0 tO⟩
 ·split
  ·exact⟨ao,ao,ao,ao⟩
  ·rename_i h2;exact⟨cX,h.2.1,ao,λ_=>cX⟩
theorem ma:type_of% @beq_eq_false_iff_ne:= @beq_eq_false_iff_ne
theorem kr:type_of% @List.drop_of_length_le:= @List.drop_of_length_le
theorem Rz(u:UInt8):bits .andNot .u8 (u.toNat:Int) 128=((u.toNat%128:Nat):Int):=by
 have:∀x:Fin 256,bits .andNot .u8 (x.val:Int) 128=((x.val%128:Nat):Int):=by decide+kernel
 exact this ⟨u.toNat,u.toNat_lt⟩
theorem Pz(m y k:Nat)(h:m<2^k):m ||| y*2^k=m+y*2^k:=by
 rw[Nat.or_comm,mi,<-OL h];omega
theorem JC(m k:Nat)(u:UInt8)(hk:k<=9)(hm:m<128^k)(h9:k=9->u.toNat=1):
  bits .or .u64 (m:Int) (IntKind.u64.wrap (IntKind.u64.wrap (bits .andNot .u8 (u.toNat:Int) 128)*2^(7*k)))=((m+u.toNat%128*128^k:Nat):Int)/\
   (k<9->m+u.toNat%128*128^k<128^(k+1))/\m+u.toNat%128*128^k<18446744073709551616:=by
 have e7:(128:Nat)^k=2^(7*k):=by rw[show(128:Nat)=2^7 from rfl,<-Nat.pow_mul]
 have wR:m+u.toNat%128*128^k<128^(k+1):=by
  have:u.toNat%128*128^k<=127*128^k:=C3 _ aa;rw[ki];omega
 have e9:(128:Nat)^9=9223372036854775808:=by decide+kernel
 have gU:m+u.toNat%128*128^k<18446744073709551616:=by
  rcases qe k 9 with h|h
  ·have:(128:Nat)^(k+1)<=128^9:=gz aa aa;rw[e9]at this;clear e9 e7;omega
  ·have hk9:k=9:=by omega
   have hu:=h9 hk9;have hm':m<9223372036854775808:=by rw[<-e9,<-hk9];exact hm
   rw[hu,hk9,e9];clear wR hm e7 e9;omega
 refine⟨?_,λ_=>wR,gU⟩;rw[Rz,wrap_u64 _ aa];have ep:((u.toNat%128:Nat):Int)*2^(7*k)=((u.toNat%128*2^(7*k):Nat):Int):=by
  rw[xy];congr 1
 rw[e7]at hm gU⊢;rw[ep,wrap_u64 _ aa,u64_or _ _ aa aa,Pz _ _ _ hm]
def Aj(l:aq)(k m:Nat):Prop:=b8 l=dv k m (l.drop k)/\m<128^k/\k<=9
theorem drop_cons{k:Nat}{u:UInt8}(h:l[k]? =some u):l.drop k=u::l.drop (k+1):=by
 have hk:=(Hi.1 h)
 rw[aiU hk.1,hk.2]
theorem Lv{a a' b b' c c':Value}(h1:a=a')(h2:b=b')(h3:c=c'):Ending.returned (.tuple #[a,b,c])= .returned (.tuple #[a',b',c']):=by rw[h1,h2,h3]
theorem int_eq{k:IntKind}{a b:Int}(h:a=b):Value.int k a= .int k b:=by rw[h]
set_option maxRecDepth 100000 in
set_option maxHeartbeats 1600000 in
theorem aop{B:Nat}{A:bh}{n c:Nat}{l:aq}(w:World)(h:Rd w B 1 (.slice A n c) n (bv l))(hn:n<=1099511627776):
  Calls Tryz.prog 263 #[.slice A n c] w λe w'=>e= .returned (.tuple #[.int .u64 ((b8 l).1:Nat),ah ((b8 l).2.1:Nat),ah (b8 l).2.2])/\w=w':=by
 have Hr:=gM h;have Hl:=gM h.ad9;clear h
 go_enter func263,Tryz.ntmps263
 go_wp2
 go_loop [2,5,6,9] (λx i6 c6 i=>∃k m:Nat,k<=n/\i=ah k/\x= .int .u64 m/\Hid (Aj l k m)) (λ_ _ _ i=>n-(intOf i).toNat)
 case atStart=>exact⟨0,0,bD _,rfl,rfl,by simp[Hid,Aj,b8]⟩
 case round=>
  obtain⟨k,m,hk,rfl,rfl,HS⟩:=hrel;by_cases gU:k<n
  ·obtain⟨ad,u,rfl,_,hlu,iw⟩:=Hr.out.Vq gU;have hs:=HS.out.1;have h9:=HS.out.2.2;rw[drop_cons hlu,dv]at hs;have HL:=gM hs;clear hs hlu;by_cases c1:k=9/\u.toNat≠1\/0<k/\u.toNat=0
   ·have e:=HL.out;rw[av c1]at e;have HE:=gM e;clear e;by_cases hk9:k=9
    ·have b1:((u.toNat:Int) != 1)=true:=by rw[bne_iff_ne];omega
     have b9:((k:Int)==9)=true:=by rw[Hm];omega
     clear hk9 c1
     go_wp2_with fail
     go_ret3
     rw[HE.out];exact⟨rfl,rfl⟩
    ·have b9:((k:Int)==9)=false:=by rw[ma];omega
     have b0:((u.toNat:Int)==0)=true:=by rw[Hm];omega
     have k0:(0:Int)<k:=by omega
     go_wp2_with fail
     go_ret3
     rw[HE.out];exact⟨rfl,rfl⟩
   ·have sn:=JC m k u h9 HS.out.2.1 aa;have HT:=gM sn;clear sn;by_cases c2:u.toNat<128
    ·have e:=HL.out;rw[aB c1,av c2]at e;have HE:=gM e;clear e;have b9:((k:Int)==9&&(u.toNat:Int) != 1)=false:=by
      rw[Bool.and_eq_false_iff,ma,bne_eq_false_iff_eq];omega
     by_cases hk9:k=9
     ·have b1:((u.toNat:Int) != 1)=false:=by rw[bne_eq_false_iff_eq];omega
      have b0:((u.toNat:Int)==0)=false:=by rw[ma];omega
      clear b9;have b9:((k:Int)==9)=true:=by rw[Hm];omega
      have k0:(0:Int)<k:=by omega
      clear hk9 c1
      go_wp2_with fail
      go_ret3
      rw[HE.out];exact⟨Lv (int_eq HT.out.1) rfl rfl,rfl⟩
     ·have b9:((k:Int)==9)=false:=by rw[ma];omega
      by_cases wQ:k=0
      ·have k0:¬((0:Int)<k):=by omega
       have HK:=gM wQ;clear wQ
       go_wp2_with fail
       go_ret3
       rw[HE.out];exact⟨Lv (int_eq HT.out.1) rfl rfl,rfl⟩
      ·have k0:(0:Int)<k:=by omega
       have b0:((u.toNat:Int)==0)=false:=by rw[ma];omega
       go_wp2_with fail
       go_ret3
       rw[HE.out];exact⟨Lv (int_eq HT.out.1) rfl rfl,rfl⟩
    ·have e:=HL.out;rw[aB c1,aB c2]at e;have hk9:k<9:=by omega
     have HE:Hid (Aj l (k+1) (m+u.toNat%128*128^k)):=⟨e,HT.out.2.1 hk9,aa⟩
     clear e;have b9:((k:Int)==9)=false:=by rw[ma];omega
     by_cases wQ:k=0
     ·have k0:¬((0:Int)<k):=by omega
      have HK:=gM wQ;clear wQ
      go_wp2_with fail
      go_round
      case rel=>exact⟨k+1,_,aa,yg,int_eq HT.out.1,HE⟩
      case measure=>simp[intOf];omega
     ·have k0:(0:Int)<k:=by omega
      have b0:((u.toNat:Int)==0)=false:=by rw[ma];omega
      go_wp2_with fail
      go_round
      case rel=>exact⟨k+1,_,aa,yg,int_eq HT.out.1,HE⟩
      case measure=>simp[intOf];omega
  ·have e:=HS.out.1;rw[kr (by have:=Hl.out;omega),dv]at e;have HE:=gM e;clear e
   go_wp2_with fail
   go_ret3
   rw[HE.out];exact⟨rfl,rfl⟩
section
variable{s:Cs}
theorem HV(h:P:=by(simp[Cs.failed,jZ])):P:=h
structure cw(s:Cs):Prop where
 at_:s.at_<=E s.b
 len:E s.b<=1099511627776
theorem cw.rest{s:Cs}(h:cw s):E s.rest=s.left/\s.left<=1099511627776:=by
 have:=h.at_;have:=h.len;exact⟨by simp[Cs.rest,Cs.left],by unfold Cs.left;omega⟩
theorem cw.d_{s:Cs}(h:cw s){k:Nat}{e:Int}(hk:e=0->k<=s.left):cw (s.d_ k e):=by
 unfold Cs.d_;split
 ·exact h
 ·split
  ·exact⟨h.at_,h.len⟩
  ·rename_i h1;have:=hk DM;have:=h.at_;unfold Cs.left at*;exact⟨cX,h.len⟩
theorem cw.lK{s:Cs}(h:cw s):cw s.lK:=h.d_ λ_=>by have:=(fG s.rest).2.1;rw[h.rest.1]at this;exact this
theorem cw.bX{s:Cs}(h:cw s){m:Int}(hm:m<=9223372036854775807):cw (s.bX m):=h.d_ λ_=>by have:=(jN s.rest m hm).2.1;rw[h.rest.1]at this;exact this
theorem xQ{n:Int}(h:fC l n=0):0<=n/\n.toNat<=E l:=by
 unfold fC at h;split at h
 ·cases h
 ·split at h
  ·cases h
  ·omega
theorem cw.bR{s:Cs}(h:cw s){n:Int}:cw (s.bR n):=h.d_ λhe=>by have:=(xQ he).2;rw[h.rest.1]at this;exact this
theorem Qw(l:aq)(m:Int)(h:(jW l m).2.2=0):(jW l m).2.1<=E l\/(jW l m).2.1=0:=by
 unfold jW at h⊢;split
 ·exact .inr rfl
 ·split
  ·exact .inr rfl
  ·rename_i h1 h2;by_cases hz:(eU l m).1=0
   ·left;have hk:(eU l m).2.1<=E l:=by
     unfold eU;split
     ·simp
     ·split
      ·simp
      ·exact(fG l).2.1
    simp only;omega
   ·left;simp only;omega
theorem cw.fa{s:Cs}(h:cw s){m:Int}:cw (s.fa m):=h.d_ λhe=>by
 have:=Qw s.rest m he;rw[h.rest.1]at this;omega
theorem cw.failed{s:Cs}(h:cw s)(e:Int):cw (s.failed e):=by
 unfold Cs.failed;split
 ·exact⟨h.at_,h.len⟩
 ·exact h
theorem cw.eV{s:Cs}(h:cw s):cw s.eV:=h.bR
theorem Cs.cO(s:Cs)(k:Nat)(e:Int):(s.d_ k e).b=s.b:=by unfold Cs.d_;split<;>first|rfl|(split<;>rfl)
abbrev Cv(g:Nat)(A:bh)(c:Nat)(s:Cs):Ch:=.bI g 258 [.slice A (E s.b) c,ah s.at_,ah s.e]
theorem VN{T:Nat}{s s':Cs}{a e:Int}{L:aN}{m:Nat}(hb:s'.b=s.b)(ha:a=s'.at_)(he:e=s'.e){M:aN}(k:Wk L M):Wk (.bI g T [.slice A (E s.b) c,ah a,ah e]::L) (.bI g T [.slice A (E s'.b) c,ah s'.at_,ah s'.e]::M):=by
 rw[hb,<-ha,<-he];exact k.cons
theorem VK(ho:cw s)(hb:aJ B w0 F 1 (.slice A (E s.b) c) (E s.b) (bv s.b)):
  bg B w0 238 [bq g] (Cv g A c s::F) (λr L=>∃A' c',r= .slice A' s.left c'/\aJ B w0 F 1 (.slice A' s.left c') s.left (bv s.rest)/\L=Cv g A c s::F):=by
 have rr:=ho.at_;have hcut:=hb.cut rr;have e:(bv s.b).drop (s.at_*1)=bv s.rest:=by rw[cH,jJ];rfl
 rw[e]at hcut;refine ba func238 12 [0] 15 ?_;refine bJ (bV (i:=s.at_) (size:=1) underlying27 ae rfl rfl rfl aa) rfl (dx ?_);exact⟨_,_,rfl,hcut,rfl⟩
theorem Kd(ho:cw s)(hb:aJ B w0 F 1 (.slice A (E s.b) c) (E s.b) (bv s.b)):
  bg B w0 194 [bq g] (Cv g A c s::F) (λr L=>r=ah s.left/\L=Cv g A c s::F):=by
 refine ba func194 10 [0] 20 ?_;refine bp ala rfl (VK ho hb) rfl ?_;rintro _ _ ⟨Ar,cr,rfl,Dn,cR⟩;obtain rfl:=cR.symm;exact cm 6
theorem ik:bg B w0 175 [bq g] (Cv g A c s::F) (λr L=>r=ah s.e/\L=Cv g A c s::F):=by
 refine fw func175 9 [0] ?_;exact cm 26
theorem vD(h:s.e≠0){fv:Value}:bg B w0 219 [bq g,fv] (Cv g A c s::F) (λr L=>r= .bool false/\L=Cv g A c s::F):=by
 refine ba func219 35 [0,1] 9 ?_;refine ai rfl (ik) (ag 3 (λh9=>?_) λh9=>?_)
 ·exact cm 8
 ·exfalso;exact h9 h
theorem yu(ho:cw s)(hb:aJ B w0 F 1 (.slice A (E s.b) c) (E s.b) (bv s.b))(h0:s.e=0){ff:FuncId}{caps:cQ}{R':aN->Prop}{k:Nat}{er:Int}(Y9:aK Tryz.prog ff)(hk:k<=1099511627776)(wR:∀A' c',aJ B w0 F 1 (.slice A' s.left c') s.left (bv s.rest)->bg B w0 ff (.slice A' s.left c'::caps) (Cv g A c s::F) (λr L=>r= .tuple #[ah k,ah er]/\∃F',R' F'/\L=Cv g A c s::F')):
  bg B w0 219 [bq g,.func (.func ff) #[] caps.toArray] (Cv g A c s::F) (λr L=>r= .bool (decide (er=0))/\∃F',R' F'/\L=Cv g A c (s.d_ k er)::F'):=by
 have rr:=ho.at_;have hlen:=ho.len;refine ba func219 35 [0,1] 9 ?_;refine ai rfl (ik) (ag 3 (λh9=>?_) λh9=>?_)
 ·exfalso;exact h9 h0
 ·refine cY ?_;refine bp ala rfl (VK ho hb) rfl ?_;rintro _ _ ⟨Ar,cr,rfl,Dn,cR⟩;obtain rfl:=cR.symm;refine vr Y9 rfl rfl (wR _ _ Dn) rfl ?_;rintro _ _ ⟨rfl,F1,hF1,cR⟩;obtain rfl:=cR.symm;refine ag 14 (λkp=>?_) λkp=>?_
  ·refine aD 7 [] 8 ?_;refine ak (L':=Cv g A c (s.d_ k er)::F1) (VN (m:=0) (Cs.cO s k er) (by simp[Cs.d_,h0,kp]) (by simp[Cs.d_,h0,kp]) (.refl _)) (aX ?_);exact⟨by rw[oi kp],F1,hF1,rfl⟩
  ·refine aD 15 [] 7 ?_;have KF:er=0:=by omega
   refine ak (L':=Cv g A c (s.d_ k er)::F1) (VN (m:=0) (Cs.cO s k er) (by simp[Cs.d_,h0,KF]) (by simp[Cs.d_,h0,KF]) (.refl _)) (aX ?_);exact⟨by rw[pK KF],F1,hF1,rfl⟩
theorem ny(er:Int):bg B w0 174 [bq g,ah er] (Cv g A c s::F) (λr L=>r= .tuple #[]/\L=Cv g A c (s.failed er)::F):=by
 refine fw func174 17 [0,1] ?_;refine ag 18 (λjZ=>?_) λjZ=>?_
 ·refine cY ?_;exact ak (L':=Cv g A c (s.failed er)::F) (VN (m:=0) HV HV HV (.refl _)) (cm 1)
 ·refine ew ?_;exact ak (L':=Cv g A c (s.failed er)::F) (VN (m:=0) HV HV HV (.refl _)) (cm 1)
theorem afC(hb:aJ B w0 L0 1 (.slice A n c) n (bv l))(hn:n<=1099511627776):bg B w0 263 [.slice A n c] L0 (λr L=>r= .tuple #[.int .u64 (b8 l).1,ah (b8 l).2.1,ah (b8 l).2.2]/\L=L0):=
 dQ.of_same λw hw=>aop w (hb w hw) hn
theorem LC:∀(l:aq) (i acc:Nat),(dv i acc l).2.2≠0->(dv i acc l).1=0/\(dv i acc l).2.1=0:=by
 intro l;induction l with
 |nil=>intro i acc _;exact⟨rfl,rfl⟩
 |cons c r ih=>
  intro i acc h;unfold dv at h⊢;split
  ·exact⟨rfl,rfl⟩
  ·rename_i h1;rw[aB h1]at h;split
   ·rename_i h2;rw[av h2]at h;exact absurd rfl h
   ·rename_i h2;rw[aB h2]at h;exact ih _ _ h
theorem BJ(h:(b8 l).2.2≠0):(b8 l).1=0/\(b8 l).2.1=0:=LC l 0 0 h
theorem pP{m:Int}(h:(eU l m).2.2≠0):(eU l m).1=0/\(eU l m).2.1=0:=by
 unfold eU at h⊢;split
 ·exact⟨rfl,rfl⟩
 ·split
  ·exact⟨rfl,rfl⟩
  ·rename_i h1 h2;rw[aB h1,aB h2]at h;exact absurd rfl h
theorem Z1{x0:Value}(hb:aJ B w0 (.bI h3 60 [x0]::F) 1 (.slice A n c) n (bv l))(hn:n<=1099511627776):
  bg B w0 320 [.slice A n c,bq h3] (C0:: .bI h3 60 [x0]::F) (λr L=>r= .tuple #[ah (b8 l).2.1,ah (b8 l).2.2]/\L=C0:: .bI h3 60 [.int .u64 (b8 l).1]::F):=by
 refine ba func320 13 [0,1] 9 ?_;refine ai rfl (afC aA hn) ?_;exact cm 19
theorem acg(ho:cw s)(hb:aJ B w0 F 1 (.slice A (E s.b) c) (E s.b) (bv s.b)):
  bg B w0 296 [bq g] (Cv g A c s::F) (λr L=>r= .int .u64 s.num/\L=Cv g A c s.lK::F):=by
 by_cases h0:s.e=0
 ·have hkb:=(fG s.rest).2.1;rw[ho.rest.1]at hkb;have hlb:=ho.rest.2;refine fw func296 11 [0] ?_;refine bW 7 λg3=>?_;refine dw ?_;refine bp VB rfl ((yu (F:=.bI g3 60 [.int .u64 0]::F) ho (aJ.cons hb) h0 (caps:=[bq g3]) (R':=λF'=>F'= .bI g3 60 [.int .u64 (b8 s.rest).1]::F) (k:=(b8 s.rest).2.1) (er:=(b8 s.rest).2.2) aqN aa (λA' c' Dn=>(Z1 Dn aa).mono λr L ⟨h1,h2⟩=>⟨h1,_,rfl,h2⟩)).perm swp) rfl ?_;rintro _ _ ⟨rfl,_,cR,rfl⟩;obtain rfl:=cR.symm;refine ag 10 (λh9=>?_) λh9=>?_
  ·refine dg ?_;refine ak (L':=Cv g A c s.lK::F) (.cons (.skip (.refl _))) (aX ?_);exact⟨by simp[Cs.num,h0,(BJ (show(b8 s.rest).2.2≠0 from h9)).1],rfl⟩
  ·refine dA ?_;refine ak (L':=Cv g A c s.lK::F) (.cons (.skip (.refl _))) (aX ?_);exact⟨by simp[Cs.num,h0],rfl⟩
 ·have e1:s.lK=s:=by simp[Cs.lK,Cs.d_,h0]
  have e2:s.num=0:=by simp[Cs.num,h0]
  rw[e1,e2];refine fw func296 11 [0] ?_;refine bW 7 λg3=>?_;refine dw ?_;refine ai rfl ((vD h0).perm swp) (bK 18 ?_);exact ak (L':=Cv g A c s::F) (.cons (.skip (.refl _))) (cm 1)
end
end Go.Proofs.YtaodmbolhoafcaaGreatDoor
