/-
  Texts of one proof, joined: part 4. No condition.
-/
import Derived.Test.YtaodmbolhoafcaaGreatDoorZp3
import Derived.Test.YtaodmbolhoafcaaGreatDoorRows
import Derived.Lib.AppendStr
import Derived.Lib.SliceRun
import Derived.ProofKit
import Derived.OpenShut
import Derived.ShutString
import Derived.ChangeOld
import Derived.Deep.Slices
open List renaming length→E
open Go.RowKit Go.Proofs.Tryz
namespace Go.Proofs.YtaodmbolhoafcaaGreatDoor
set_option linter.unusedVariables false
set_option linter.unusedSimpArgs false
set_option maxRecDepth 20000
variable{B:Nat}{w0:World}{F L0:aR}{A:bk}{n c g h3 h5:Nat}{C0:Ch}
theorem nf{P:Prop}(h:P:=by(rw[eY];omega)):P:=h
theorem wN{P:Prop}(h:P:=by(simp[hy])):P:=h
theorem Xv:type_of% @List.pairwise_singleton:= @List.pairwise_singleton
theorem Fz:type_of% @List.drop_eq_nil_of_le:= @List.drop_eq_nil_of_le
theorem Pu:type_of% @List.countP_eq_length:= @List.countP_eq_length
theorem CJ:type_of% @List.getD_cons_succ:= @List.getD_cons_succ
theorem FA:type_of% @List.getElem_take:= @List.getElem_take
theorem kH:type_of% @Nat.succ_mul:= @Nat.succ_mul
theorem uU:type_of% @Nat.mul_add:= @Nat.mul_add
theorem CK:type_of% @List.getElem?_set:= @List.getElem?_set
theorem Pv:type_of% @List.set_cons_succ:= @List.set_cons_succ
def uo(o:Nat->Nat)(a b:Nat):Prop:=o a<o b∨o a=o b∧a<b
theorem xJ(o:Nat->Nat)(a:Nat):¬uo o a a:=λh=>h.elim (λh=>Nat.lt_irrefl _ h) λh=>Nat.lt_irrefl _ h.2
theorem sc{o:Nat->Nat}{a b c:Nat}(h1:uo o a b)(h2:uo o b c):uo o a c:=by unfold uo at*;omega
theorem aaP(o:Nat->Nat)(a b:Nat):uo o a b∨a=b∨uo o b a:=by unfold uo;omega
abbrev uf(o:Nat->Nat)(l:bf):Prop:=l.Pairwise (uo o)
theorem uf.ext{o:Nat->Nat}:∀{a b:bf},uf o a->uf o b->(∀x,x∈a↔x∈b)->a=b
 |[],[],_,_,_=>rfl
 |[],y::b,_,_,h=>absurd ((h y).2 ak) ak
 |x::a,[],_,_,h=>absurd ((h x).1 ak) ak
 |x::a,y::b,ha,hb,h=>by
  obtain⟨ha1,ha2⟩:=ky.1 ha;obtain⟨qJ,pB⟩:=ky.1 hb;have Tz:x=y:=by
   rcases fj.1 ((h x).1 ak)with e|e
   ·exact e
   ·rcases fj.1 ((h y).2 ak)with e2|e2
    ·exact e2.symm
    ·exact absurd (sc (ha1 y e2) (qJ x e)) (xJ _ _)
  subst Tz;congr 1;refine uf.ext ha2 pB λz=>⟨λhz=>?_,λhz=>?_⟩
  ·rcases fj.1 ((h z).1 (lU _ hz))with e|e
   ·subst e;exact absurd (ha1 _ hz) (xJ _ _)
   ·exact e
  ·rcases fj.1 ((h z).2 (lU _ hz))with e|e
   ·subst e;exact absurd (qJ _ hz) (xJ _ _)
   ·exact e
instance (o:Nat->Nat)(a b:Nat):Decidable (uo o a b):=inferInstanceAs (Decidable (_∨_))
def aan(o:Nat->Nat)(x:Nat):bf->bf
 |[]=>[x]
 |y::r=>if uo o x y then x::y::r else y::aan o x r
def dc(o:Nat->Nat):bf->bf
 |[]=>[]
 |x::r=>aan o x (dc o r)
theorem Bq(o:Nat->Nat)(x:Nat):∀l,(aan o x l).Perm (x::l)
 |[]=>.refl _
 |y::r=>by
  unfold aan;split
  ·exact .refl _
  ·exact((Bq o x r).cons y).trans (.swap x y r)
theorem gO(o:Nat->Nat):∀l,(dc o l).Perm l
 |[]=>.refl _
 |x::r=>(Bq o x _).trans ((gO o r).cons x)
theorem Xr{o:Nat->Nat}{x:Nat}:∀{l:bf},uf o l->x∉l->uf o (aan o x l)
 |[],_,_=>Xv _ _
 |y::r,h,hx=>by
  obtain⟨h1,h2⟩:=ky.1 h;unfold aan;split
  ·rename_i Tz;exact ky.2 ⟨λz hz=>(fj.1 hz).elim (λe=>e▸Tz) λhz=>sc Tz (h1 z hz),h⟩
  ·rename_i Tz;refine ky.2 ⟨λz hz=>?_,Xr h2 λhz=>hx (lU _ hz)⟩;rcases fj.1 ((Bq o x r).mem_iff.1 hz)with e|e
   ·subst e;rcases aaP o z y with k|k|k
    ·exact absurd k Tz
    ·exact absurd (k▸r_ ..) hx
    ·exact k
   ·exact h1 z e
theorem l0(o:Nat->Nat):∀{l:bf},l.Nodup->uf o (dc o l)
 |[],_=>List.Pairwise.nil
 |x::r,h=>by
  obtain⟨h1,h2⟩:=Fv.1 h;exact Xr (l0 o h2) λhx=>h1 ((gO o r).mem_iff.1 hx)
abbrev cA:=Nat×Bool
def qi(leaf row:List cA):Nat->Nat->Nat->List cA
 |0,_,_=>[]
 |f+1,i,k=>
  if E row<=k+1 then (if i<E leaf then leaf.getD i (0,false)::qi leaf row f (i+1) k else [])
  else if i<E leaf∧(leaf.getD i (0,false)).1<=(row.getD k (0,false)).1+(row.getD (k+1) (0,false)).1 then leaf.getD i (0,false)::qi leaf row f (i+1) k
  else ((row.getD k (0,false)).1+(row.getD (k+1) (0,false)).1,false)::qi leaf row f i (k+2)
def vg(leaf row:List cA):List cA:=qi leaf row (E leaf+E row) 0 0
def Gj:List cA->List cA
 |[]=>[]
 |[_]=>[]
 |a::b::r=>(a.1+b.1,false)::Gj r
def wE:List cA->List cA->List cA
 |[],ys=>ys
 |x::xs,[]=>x::xs
 |x::xs,y::ys=>if x.1<=y.1 then x::wE xs (y::ys) else y::wE (x::xs) ys
theorem DG(xs:List cA):wE xs []=xs:=by cases xs<;>rw[wE]
theorem FY(ys:List cA):wE [] ys=ys:=by rw[wE]
theorem J2{l:List cA}(h:E l<=1):Gj l=[]:=by
 match l,h with
 |[],_=>rfl
 |[_],_=>rfl
theorem vT(leaf row:List cA):∀(f i k:Nat),i<=E leaf->k<=E row->E leaf-i+(E row-k)<=f->qi leaf row f i k=wE (leaf.drop i) (Gj (row.drop k))
 |0,i,k,h1,h2,h3=>by
  rw[Fz aa,Fz aa,FY];rfl
 |f+1,i,k,h1,h2,h3=>by
  unfold qi;split
  ·rename_i hr;rw[J2 ly,DG];split
   ·rename_i hi;rw[vT leaf row f (i+1) k aa h2 aa,J2 ly,DG,dD hi (0,false)]
   ·rw[Fz aa]
  ·rename_i hr;have e:Gj (row.drop k)=((row.getD k (0,false)).1+(row.getD (k+1) (0,false)).1,false)::Gj (row.drop (k+2)):=by
    rw[dD (by omega:k<E row) (0,false),dD (by omega:k+1<E row) (0,false),Gj]
   rw[e];split
   ·rename_i hc;rw[dD hc.1 (0,false),wE,ao hc.2,vT leaf row f (i+1) k aa h2 aa,e]
   ·rename_i hc;rw[vT leaf row f i (k+2) h1 aa aa];by_cases hi:i<E leaf
    ·rw[dD hi (0,false),wE,aw λh=>hc ⟨hi,h⟩]
    ·rw[Fz aa,FY,FY]
theorem vU(leaf row:List cA):vg leaf row=wE leaf (Gj row):=by
 unfold vg;rw[vT leaf row _ 0 0 (bU _) (bU _) aa];rfl
theorem L7:∀xs ys:List cA,E (wE xs ys)=E xs+E ys
 |[],ys=>by simp[wE]
 |x::xs,[]=>by simp[wE]
 |x::xs,y::ys=>by
  rw[wE];split
  ·rw[dI,L7 xs (y::ys)];simp;omega
  ·rw[dI,L7 (x::xs) ys];simp;omega
theorem Mf:∀l:List cA,E (Gj l)=E l/2
 |[]=>rfl
 |[_]=>by simp[Gj]
 |a::b::r=>by simp only[Gj,dI,Mf r];omega
theorem zy{z:cA}:∀{xs ys:List cA},z∈wE xs ys->z∈xs∨z∈ys
 |[],ys,h=>.inr (by rwa [FY]at h)
 |x::xs,[],h=>.inl (by rwa [DG]at h)
 |x::xs,y::ys,h=>by
  rw[wE]at h;split at h
  ·rcases fj.1 h with e|e
   ·exact .inl (by simp[e])
   ·rcases zy e with k|k
    ·exact .inl (lU _ k)
    ·exact .inr k
  ·rcases fj.1 h with e|e
   ·exact .inr (by simp[e])
   ·rcases zy e with k|k
    ·exact .inl k
    ·exact .inr (lU _ k)
abbrev Wt(l:List cA):Prop:=l.Pairwise λa b=>a.1<=b.1
theorem XW{z:cA}{W:Nat}:∀{l:List cA},(∀x∈l,x.1<=W)->z∈Gj l->z.1<=2*W∧z.2=false
 |[],_,h=>by cases h
 |[_],_,h=>by cases h
 |a::b::r,hw,h=>by
  rw[Gj]at h;rcases fj.1 h with e|e
  ·have h1:=hw a ak;have h2:=hw b ak;subst e;exact⟨dh,rfl⟩
  ·exact XW (λx hx=>hw x oR) e
theorem Qj{a:Nat}:∀{l:List cA},Wt l->(∀x∈l,a<=2*x.1)->∀z∈Gj l,a<=z.1
 |[],_,_,z,h=>by cases h
 |[_],_,_,z,h=>by cases h
 |x::y::r,hw,ha,z,h=>by
  rw[Gj]at h;rcases fj.1 h with e|e
  ·have h1:=ha x ak;have h2:=ha y ak;subst e;simp only;omega
  ·obtain⟨_,h2⟩:=ky.1 hw;obtain⟨_,h3⟩:=ky.1 h2;exact Qj h3 (λq hq=>ha q Nx) z e
theorem af_:∀{l:List cA},Wt l->Wt (Gj l)
 |[],_=>List.Pairwise.nil
 |[_],_=>List.Pairwise.nil
 |a::b::r,h=>by
  obtain⟨h1,h2⟩:=ky.1 h;obtain⟨h3,h4⟩:=ky.1 h2;refine ky.2 ⟨λz hz=>?_,af_ h4⟩;have hab:=h1 b ak;exact Qj h4 (λx hx=>by
   have:=h3 x hx;have:a.1+b.1<=2*x.1:=by omega
   exact this) z hz
theorem T_:∀{xs ys:List cA},Wt xs->Wt ys->Wt (wE xs ys)
 |[],ys,_,h=>by rwa [FY]
 |x::xs,[],h,_=>by rwa [DG]
 |x::xs,y::ys,hx,hy=>by
  obtain⟨h1,h2⟩:=ky.1 hx;obtain⟨h3,h4⟩:=ky.1 hy;rw[wE];split
  ·rename_i hc;refine ky.2 ⟨λz hz=>?_,T_ h2 hy⟩;rcases zy hz with e|e
   ·exact h1 z e
   ·rcases fj.1 e with e|e
    ·subst e;exact hc
    ·have:=h3 z e;omega
  ·rename_i hc;refine ky.2 ⟨λz hz=>?_,T_ hx h4⟩;rcases zy hz with e|e
   ·rcases fj.1 e with e|e
    ·subst e;omega
    ·have:=h1 z e;omega
   ·exact h3 z e
def gS(row:List cA)(t:Nat):Nat:=(row.take t).countP (·.2)
theorem Wi(row:List cA)(t:Nat):gS row t<=t:=jz Po nf
theorem ml(x:cA)(r:List cA)(t:Nat):gS (x::r) (t+1)=(if x.2 then 1 else 0)+gS r t:=by
 unfold gS;rw[r7,CG];omega
def aqd(leaf row:List cA):Prop:=Wt row∧∀t,(row.take t).filter (·.2)=leaf.take (gS row t)
theorem FX:∀{xs ys:List cA},(∀x∈xs,x.2=true)->(∀y∈ys,y.2=false)->∀t,((wE xs ys).take t).filter (·.2)=xs.take (gS (wE xs ys) t)
 |[],ys,_,hy,t=>by
  rw[wE,List.take_nil];exact List.filter_eq_nil_iff.2 λz hz=>by simp[hy z (my hz)]
 |x::xs,[],hx,_,t=>by
  rw[wE];have:∀z∈(x::xs).take t,z.2=true:=λz hz=>hx z (my hz);rw[List.filter_eq_self.2 this];have e:gS (x::xs) t=min t (E (x::xs)):=by
   unfold gS;rw[Pu.2 this,eY]
  rw[e,List.take_eq_take_iff];omega
 |x::xs,y::ys,hx,hy,t=>by
  cases t with
  |zero=>simp[gS]
  |succ t=>
   have JD:=hx x ak;have Pd:=hy y ak;rw[wE];split
   ·rw[ml,JD,r7,uQ,ao (by simpa using JD),FX (λz hz=>hx z qG) hy t,ao rfl,zn,r7]
   ·rw[ml,Pd,r7,uQ,aw (by simp[Pd]),FX hx (λz hz=>hy z qG) t,aw ak,lV]
theorem BG:∀{xs ys:List cA},(∀x∈xs,x.2=true)->(∀y∈ys,y.2=false)->∀t,t<=E (wE xs ys)->t-gS (wE xs ys) t<=E ys
 |[],ys,_,hy,t,h=>by rw[wE]at h⊢;omega
 |x::xs,[],hx,_,t,h=>by
  rw[wE]at h⊢;have e:gS (x::xs) t=min t (E (x::xs)):=by
   unfold gS;rw[Pu.2 (λz hz=>hx z (my hz)),eY]
  rw[e];omega
 |x::xs,y::ys,hx,hy,t,h=>by
  cases t with
  |zero=>omega
  |succ t=>
   have JD:=hx x ak;have Pd:=hy y ak;rw[wE]at h⊢;split
   ·rename_i hc;rw[ao hc,dI]at h;have:=BG (xs:=xs) (ys:=y::ys) (λz hz=>hx z qG) hy t aa;rw[ml,JD,ao rfl];omega
   ·rename_i hc;rw[aw hc,dI]at h;have:=BG (xs:=x::xs) (ys:=ys) hx (λz hz=>hy z qG) t aa;rw[ml,Pd,aw ak,dI];omega
theorem BH:∀{xs ys:List cA},Wt xs->(∀x∈xs,x.2=true)->(∀y∈ys,y.2=false)->∀t p,t<=E (wE xs ys)->t-gS (wE xs ys) t=p+1->∀i,i<E xs->(xs.getD i (0,false)).1<=(ys.getD p (0,false)).1->i<gS (wE xs ys) t
 |[],ys,_,_,hy,t,p,h,hp,i,hi,_=>by simp at hi
 |x::xs,[],_,hx,_,t,p,h,hp,i,hi,_=>by
  rw[wE]at h hp;have e:gS (x::xs) t=min t (E (x::xs)):=by
   unfold gS;rw[Pu.2 (λz hz=>hx z (my hz)),eY]
  rw[e]at hp;omega
 |x::xs,y::ys,hw,hx,hy,t,p,h,hp,i,hi,hle=>by
  cases t with
  |zero=>omega
  |succ t=>
   have JD:=hx x ak;have Pd:=hy y ak;obtain⟨hw1,hw2⟩:=ky.1 hw;rw[wE]at h hp⊢;split
   ·rename_i hc;rw[ao hc,dI]at h;rw[ao hc,ml,JD,ao rfl]at hp;rw[ml,JD,ao rfl];cases i with
    |zero=>omega
    |succ i=>
     have:=BH (xs:=xs) (ys:=y::ys) hw2 (λz hz=>hx z qG) hy t p aa aa i D_ (by simpa using hle);omega
   ·rename_i hc;rw[aw hc,dI]at h;rw[aw hc,ml,Pd,aw ak]at hp;rw[ml,Pd,aw ak,lV];cases p with
    |zero=>
     have h1:x.1<=((x::xs).getD i (0,false)).1:=by
      cases i with
      |zero=>simp
      |succ i=>
       have:=hw1 _ (bj (l:=xs) (k:=i) D_ (0,false));simpa using this
     simp only[List.getD_cons_zero]at hle;omega
    |succ p=>
     exact BH (xs:=x::xs) (ys:=ys) hw hx (λz hz=>hy z qG) t p aa aa i hi (by simpa using hle)
def dZ(leaf:List cA):Nat->List cA
 |0=>leaf
 |r+1=>vg leaf (dZ leaf r)
theorem zG:∀{l:List cA} {y:cA},y∈Gj l->y.2=false
 |[],_,h=>by cases h
 |[_],_,h=>by cases h
 |a::b::r,y,h=>by
  rw[Gj]at h;rcases fj.1 h with e|e
  ·subst e;rfl
  ·exact zG e
theorem XV:∀{l:List cA} {p:Nat},p<E (Gj l)->(Gj l).getD p (0,false)=((l.getD (2*p) (0,false)).1+(l.getD (2*p+1) (0,false)).1,false)
 |[],p,h=>by simp[Gj]at h
 |[_],p,h=>by simp[Gj]at h
 |a::b::r,0,_=>rfl
 |a::b::r,p+1,h=>by
  rw[Gj,CJ,XV (by simpa[Gj]using h),show 2*(p+1)=2*p+1+1 by omega,CJ,CJ,CJ,CJ]
theorem alF{l:List cA}(h:Wt l){m:Nat}(hm:m<E l){z:cA}(hz:z∈l.take (m+1)):z.1<=(l.getD m (0,false)).1:=by
 obtain⟨i,hi,rfl⟩:=ke hz;rw[eY]at hi;rw[FA,ba,fc hm,uX];by_cases e:i=m
 ·subst e;exact gC _
 ·exact qK.1 h i m aa hm aa
theorem Ml{leaf:List cA}(hl:∀x∈leaf,x.2=true)(hw:Wt leaf):∀r,aqd leaf (dZ leaf r)
 |0=>⟨hw,λt=>by
  have:∀z∈leaf.take t,z.2=true:=λz hz=>hl z (my hz);have e:gS leaf t=min t (E leaf):=by
   unfold gS;rw[Pu.2 this,eY]
  rw[dZ,List.filter_eq_self.2 this,e,List.take_eq_take_iff];omega⟩
 |r+1=>by
  have ih:=Ml hl hw r;rw[dZ,vU];exact⟨T_ hw (af_ ih.1),FX hl (λy hy=>zG hy)⟩
theorem agq{leaf:List cA}(hl:∀x∈leaf,x.2=true)(hw:Wt leaf){r t n:Nat}(ht:t<=E (dZ leaf (r+1)))(hn:n=gS (dZ leaf (r+1)) t):
  2*(t-n)<=E (dZ leaf r)∧gS (dZ leaf r) (2*(t-n))<=n:=by
 obtain⟨h1,h2⟩:=Ml hl hw r;rw[dZ,vU]at ht hn;have hp:=BG hl (λy hy=>zG (l:=dZ leaf r) hy) t ht;rw[<-hn]at hp;have mP:=Mf (dZ leaf r);refine⟨aa,?_⟩;cases hpp:t-n with
 |zero=>simp[gS]
 |succ p=>
  obtain⟨m,hm⟩:=cK (gS (dZ leaf r) (2*(p+1)));rw[<-hm];cases m with
  |zero=>omega
  |succ m=>
   have hf:=h2 (2*(p+1));rw[<-hm]at hf;have hlen:E (leaf.take (m+1))=m+1:=by rw[<-hf,<-List.countP_eq_length_filter];exact hm.symm
   rw[eY]at hlen;have Aj:m<E leaf:=by omega
   have qz:leaf.getD m (0,false)∈leaf.take (m+1):=by rw[aY Aj (0,false)];simp
   rw[<-hf]at qz;have hin:=(CE.1 qz).1;rw[show 2*(p+1)=(2*p+1)+1 by omega]at hin;have hle:=alF h1 (m:=2*p+1) aa hin;have hg:=XV (l:=dZ leaf r) (p:=p) aa;have:=BH hw hl (λy hy=>zG (l:=dZ leaf r) hy) t p ht (by rw[<-hn];exact hpp) m Aj (by rw[hg];simp only;omega);omega
def DJ(leaf:List cA):Nat->Nat->bf
 |0,_=>[]
 |r+1,t=>gS (dZ leaf r) t::DJ leaf r (2*(t-gS (dZ leaf r) t))
def nt(leaf:List cA):Nat->Nat->Nat->Prop
 |0,t,_=>t=0
 |r+1,t,M=>t<=E (dZ leaf r)∧gS (dZ leaf r) t<=M
theorem nt.step{leaf:List cA}(hl:∀x∈leaf,x.2=true)(hw:Wt leaf){r t M:Nat}(h:nt leaf (r+1) t M):nt leaf r (2*(t-gS (dZ leaf r) t)) (gS (dZ leaf r) t):=by
 cases r with
 |zero=>
  obtain⟨h1,h2⟩:=h;have e:gS leaf t=min t (E leaf):=by
   unfold gS;rw[Pu.2 (λz hz=>hl z (my hz)),eY]
  show 2*(t-gS leaf t)=0;have S3:t<=E leaf:=h1;rw[e];omega
 |succ r=>exact agq hl hw h.1 rfl
theorem Ub{leaf:List cA}(hl:∀x∈leaf,x.2=true)(hw:Wt leaf):∀(R t M:Nat),nt leaf R t M->∀n∈DJ leaf R t,n<=M
 |0,_,_,_,n,hn=>by cases hn
 |r+1,t,M,h,n,hn=>by
  rcases fj.1 hn with e|e
  ·subst e;exact h.2
  ·exact jz (Ub hl hw r _ _ (h.step hl hw) n e) h.2
def N_(ns:bf)(j:Nat):Nat:=ns.countP λn=>decide (j<n)
theorem EA(n:Nat)(ns:bf)(j:Nat):N_ (n::ns) j=N_ ns j+if j<n then 1 else 0:=by
 unfold N_;rw[CG];simp
theorem adt{ns:bf}{M j:Nat}(h:∀n∈ns,n<=M)(hj:M<=j):N_ ns j=0:=by
 unfold N_;refine List.countP_eq_zero.2 λn hn=>?_;have:=h n hn;simp;omega
theorem anD(ns:bf)(j:Nat):N_ ns j<=E ns:=Po
theorem XN(leaf:List cA):∀R t,E (DJ leaf R t)=R
 |0,_=>rfl
 |r+1,t=>by rw[DJ,dI,XN leaf r]
def oy(f:Nat->Nat):Nat->Nat
 |0=>0
 |m+1=>oy f m+f m
theorem qq{f g:Nat->Nat}:∀{m:Nat},(∀j,j<m->f j=g j)->oy f m=oy g m
 |0,_=>rfl
 |m+1,h=>by rw[oy,oy,qq λj hj=>h j aa,h m aa]
theorem B4{f:Nat->Nat}{n c:Nat}:∀d,(∀j,n<=j->j<n+d->f j=c)->oy f (n+d)=oy f n+d*c
 |0,_=>by simp
 |d+1,h=>by
  rw[<-Pk,oy,B4 d (λj h1 h2=>h j h1 aa),h (n+d) aa aa,kH];omega
theorem agT{leaf:List cA}(hl:∀x∈leaf,x.2=true)(hw:Wt leaf):∀(R t M:Nat),nt leaf R t M->2*oy (λj=>2^(R-N_ (DJ leaf R t) j)) M+t*2^R=2*M*2^R
 |0,t,M,h=>by
  have h0:t=0:=h;have:=B4 (f:=λj=>2^(0-N_ (DJ leaf 0 t) j)) (n:=0) (c:=1) M (λj _ _=>rfl);rw[lV]at this;rw[this,h0];simp[oy]
 |r+1,t,M,h=>by
  obtain⟨n,hn⟩:=cK (gS (dZ leaf r) t);have hs:=h.step hl hw;have h2:n<=M:=hn▸h.2;have hnt:n<=t:=hn▸Wi _ _;have hle:=Ub hl hw r _ _ hs;have ih:=agT hl hw r _ _ hs;rw[<-hn]at hs hle ih;have e:DJ leaf (r+1) t=n::DJ leaf r (2*(t-n)):=by rw[DJ,<-hn]
  rw[e];have LB:=B4 (f:=λj=>2^(r+1-N_ (n::DJ leaf r (2*(t-n))) j)) (n:=n) (c:=2^(r+1)) (M-n) (λj h1 _=>by
   rw[EA,adt hle h1,aw aa];rfl)
  rw[show n+(M-n)=M by omega]at LB;have hc:=qq (f:=λj=>2^(r+1-N_ (n::DJ leaf r (2*(t-n))) j)) (g:=λj=>2^(r-N_ (DJ leaf r (2*(t-n))) j)) (m:=n) (λj hj=>by
   rw[EA,ao hj];congr 1;omega)
  rw[LB,hc,jM];generalize oy (λj=>2^(r-N_ (DJ leaf r (2*(t-n))) j)) n=S at*;generalize 2^r=P at*;obtain⟨a,rfl⟩:∃a,M=n+a:=⟨M-n,aa⟩
  obtain⟨b,rfl⟩:∃b,t=n+b:=⟨t-n,aa⟩
  rw[show n+a-n=a by omega];rw[show n+b-n=b by omega]at ih;have i1:2*b*P=2*(b*P):=by rw[mT]
  have i2:2*n*P=2*(n*P):=by rw[mT]
  have i3:a*(P*2)=2*(a*P):=by rw[<-mT,jL]
  have i4:(n+b)*(P*2)=2*(n*P)+2*(b*P):=by rw[<-mT,kz,jL];omega
  have i5:2*(n+a)*(P*2)=4*(n*P)+4*(a*P):=by
   rw[uU,kz,<-mT,<-mT,mT 2 n P,mT 2 a P];omega
  omega
def tW(syms:bf):Nat->bf->bf
 |0,out=>out
 |j+1,out=>(tW syms j out).set (syms.getD j 0) ((tW syms j out).getD (syms.getD j 0) 0+1)
theorem rV(syms:bf)(out:bf):∀n,E (tW syms n out)=E out
 |0=>rfl
 |j+1=>by rw[tW,List.length_set,rV syms out j]
theorem aaW:∀{l:bf},l.Nodup->∀(i j:Nat) (hi:i<E l) (hj:j<E l),l[i]=l[j]->i=j:=by
 intro l h i j hi hj e;rcases Nat.lt_trichotomy i j with k|k|k
 ·exact absurd e (qK.1 h i j hi hj k)
 ·exact k
 ·exact absurd e.symm (qK.1 h j i hj hi k)
theorem aaV{l:bf}(h:l.Nodup){i j:Nat}(hi:i<E l)(hj:j<E l)(e:l.getD i 0=l.getD j 0):i=j:=by
 rw[ba,ba,fc hi,fc hj]at e;exact aaW h i j hi hj (by simpa using e)
theorem Fm{syms out:bf}(hd:syms.Nodup)(hs:∀s∈syms,s<E out):∀(n:Nat),n<=E syms->
  (∀j,j<E syms->(tW syms n out).getD (syms.getD j 0) 0=out.getD (syms.getD j 0) 0+if j<n then 1 else 0)∧∀s,s∉syms->(tW syms n out).getD s 0=out.getD s 0
 |0,_=>⟨λj _=>by rw[tW,aw aa];rfl,λs _=>rfl⟩
 |n+1,h=>by
  obtain⟨h1,h2⟩:=Fm hd hs n aa;have hl:=rV syms out n;have hm:syms.getD n 0∈syms:=bj aa 0;have fN:=hs _ hm;refine⟨λj hj=>?_,λs hn=>?_⟩
  ·rw[tW];by_cases e:j=n
   ·subst e;rw[h1 j hj,aw aa,ao aa];rw[ba,CK,ao rfl,hl,ao fN];rfl
   ·have oh:syms.getD n 0≠syms.getD j 0:=λk=>e (aaV hd aa hj k).symm;have:=h1 j hj;have e2:(if j<n then 1 else 0)=(if j<n+1 then 1 else 0:Nat):=by
     by_cases k:j<n
     ·rw[ao k,ao aa]
     ·rw[aw k,aw aa]
    rw[<-e2,<-this];simp only[ba,CK];rw[aw (by simpa[ba]using oh)]
  ·have oh:syms.getD n 0≠s:=λk=>hn (k▸hm);rw[tW,<-h2 s hn];simp only[ba,CK];rw[aw (by simpa[ba]using oh)]
def tF(syms:bf):bf->bf->bf
 |[],out=>out
 |n::ns,out=>tF syms ns (tW syms n out)
theorem Jl(syms:bf):∀ns out,E (tF syms ns out)=E out
 |[],_=>rfl
 |n::ns,out=>by rw[tF,Jl syms ns,rV]
theorem Jk{syms:bf}(hd:syms.Nodup):∀(ns out:bf),(∀s∈syms,s<E out)->(∀n∈ns,n<=E syms)->
  (∀j,j<E syms->(tF syms ns out).getD (syms.getD j 0) 0=out.getD (syms.getD j 0) 0+N_ ns j)∧∀s,s∉syms->(tF syms ns out).getD s 0=out.getD s 0
 |[],out,_,_=>⟨λj _=>rfl,λs _=>rfl⟩
 |n::ns,out,hs,hn=>by
  obtain⟨h1,h2⟩:=Fm hd hs n (hn n ak);obtain⟨h3,h4⟩:=Jk hd ns (tW syms n out) (λs Au=>by rw[rV];exact hs s Au) (λm hm=>hn m (by simp[hm]));refine⟨λj hj=>?_,λs Au=>?_⟩
  ·rw[tF,h3 j hj,h1 j hj,EA];omega
  ·rw[tF,h4 s Au,h2 s Au]
def m8(o:Nat->Nat)(N:Nat):bf:=(List.range N).filter λs=>decide (0<o s)
def dE(o:Nat->Nat)(N:Nat):bf:=dc o (m8 o N)
def oW(o:Nat->Nat)(N:Nat):List cA:=(dE o N).map λs=>(o s,true)
def jO(o:Nat->Nat)(N:Nat):bf:=
 if E (dE o N)<2 then (if E (dE o N)=1 then (List.replicate N 0).set ((dE o N).getD 0 0) 1 else List.replicate N 0)
 else tF (dE o N) (DJ (oW o N) 15 (2*E (dE o N)-2)) (List.replicate N 0)
theorem Rp(o:Nat->Nat)(N:Nat):(m8 o N).Nodup:=List.Nodup.sublist List.filter_sublist List.nodup_range
theorem nL{o:Nat->Nat}{N s:Nat}:s∈dE o N↔s<N∧0<o s:=by
 unfold dE;rw[(gO o _).mem_iff];unfold m8;rw[CE,pj];simp
theorem ag0(o:Nat->Nat)(N:Nat):uf o (dE o N):=l0 o (Rp o N)
theorem QO(o:Nat->Nat)(N:Nat):(dE o N).Nodup:=(gO o _).nodup_iff.2 (Rp o N)
theorem Kf(o:Nat->Nat)(N:Nat):E (dE o N)<=N:=by
 unfold dE;rw[(gO o _).length_eq];exact jz (zb _ _) ak
theorem sZ{o:Nat->Nat}{N:Nat}:∀x∈oW o N,x.2=true:=λx hx=>by
 obtain⟨s,_,rfl⟩:=pC.1 hx;rfl
theorem zq(o:Nat->Nat)(N:Nat):Wt (oW o N):=List.Pairwise.map _ (λa b h=>by
 rcases h with h|h
 ·exact Nat.le_of_lt h
 ·exact Nat.le_of_eq h.1) (ag0 o N)
theorem iw(leaf:List cA)(r:Nat):E (dZ leaf (r+1))=E leaf+E (dZ leaf r)/2:=by
 rw[dZ,vU,L7,Mf]
theorem X_(leaf:List cA):∀r,E leaf<=E (dZ leaf r)∧E (dZ leaf r)<=2*E leaf
 |0=>⟨gC _,by rw[dZ];omega⟩
 |r+1=>by
  have ih:=X_ leaf r;rw[iw];omega
theorem gH{n a b d e:Nat}(h:2*n<=a+d)(hb:b=n+a/2)(hd:d<=2*e):2*n<=b+e:=by omega
theorem abg{leaf:List cA}(h:E leaf<=300):2*E leaf-2<=E (dZ leaf 14):=by
 have a0:2*E leaf<=E (dZ leaf 0)+300:=by rw[dZ];omega
 have a1:=gH (e:=150) a0 (iw leaf 0) ax;have a2:=gH (e:=75) a1 (iw leaf 1) ax;have a3:=gH (e:=38) a2 (iw leaf 2) ax;have a4:=gH (e:=19) a3 (iw leaf 3) ax;have a5:=gH (e:=10) a4 (iw leaf 4) ax;have a6:=gH (e:=5) a5 (iw leaf 5) ax;have a7:=gH (e:=3) a6 (iw leaf 6) ax;have a8:=gH (e:=2) a7 (iw leaf 7) ax;have a9:=gH (e:=1) a8 (iw leaf 8) ax;have a10:=gH (e:=1) a9 (iw leaf 9) ax;have a11:=gH (e:=1) a10 (iw leaf 10) ax;have a12:=gH (e:=1) a11 (iw leaf 11) ax;have a13:=gH (e:=1) a12 (iw leaf 12) ax;have a14:2*E leaf<=E (dZ leaf 14)+1:=gH (e:=1) a13 (iw leaf 13) ax;omega
theorem xT{o:Nat->Nat}{N:Nat}(hN:N<=300):nt (oW o N) 15 (2*E (dE o N)-2) (E (dE o N)):=by
 have hl:E (oW o N)=E (dE o N):=by simp[oW]
 have hs:=Kf o N;refine⟨by rw[<-hl];exact abg aa,?_⟩;have hf:=(Ml sZ (zq o N) 14).2 (2*E (dE o N)-2);have:E ((oW o N).take (gS (dZ (oW o N) 14) (2*E (dE o N)-2)))=gS (dZ (oW o N) 14) (2*E (dE o N)-2):=by
  rw[<-hf,<-List.countP_eq_length_filter];rfl
 rw[eY,hl]at this;exact jz (Nat.le_of_eq this.symm) (Nat.min_le_right _ _)
def ry(f:Nat->Nat):bf->Nat
 |[]=>0
 |x::r=>f x+ry f r
theorem aby{f:Nat->Nat}{a b:bf}(h:a.Perm b):ry f a=ry f b:=by
 induction h with
 |nil=>rfl
 |cons x _ ih=>rw[ry,ry,ih]
 |swap x y l=>simp only[ry];omega
 |trans _ _ h1 h2=>rw[h1,h2]
theorem CU{f:Nat->Nat}{p:Nat->Bool}:∀{l:bf},(∀x∈l,p x=false->f x=0)->ry f l=ry f (l.filter p)
 |[],_=>rfl
 |x::r,h=>by
  rw[ry,uQ,CU λy hy=>h y wN];split
  ·rfl
  ·rename_i hp;rw[h x ak (by simpa using hp)];omega
theorem QM(f:Nat->Nat):∀a b,ry f (a++b)=ry f a+ry f b
 |[],b=>by simp[ry]
 |x::a,b=>by rw[mX,ry,ry,QM f a b];omega
theorem GP(f:Nat->Nat)(l:bf):∀m,m<=E l->ry f (l.take m)=oy (λj=>f (l.getD j 0)) m
 |0,_=>rfl
 |m+1,h=>by rw[aY aa 0,QM,GP f l m aa,oy];simp[ry]
def gK(c:Nat):Nat:=if c=0 then 0 else 2^(15-c)
def lB(o:Nat->Nat)(N:Nat):al:=(jO o N).map UInt8.ofNat
theorem JN(o:Nat->Nat)(N:Nat):E (jO o N)=N:=by
 unfold jO;split
 ·split<;>simp
 ·rw[Jl];simp
@[simp] theorem gM(o:Nat->Nat)(N:Nat):E (lB o N)=N:=by rw[lB,dX,JN]
theorem BC{o:Nat->Nat}{N:Nat}(hN:N<=300)(h2:2<=E (dE o N)):
  (∀j,j<E (dE o N)->(jO o N).getD ((dE o N).getD j 0) 0=N_ (DJ (oW o N) 15 (2*E (dE o N)-2)) j)∧∀s,s∉dE o N->(jO o N).getD s 0=0:=by
 have hle:=Ub sZ (zq o N) 15 _ _ (xT (o:=o) hN);obtain⟨h3,h4⟩:=Jk (QO o N) (DJ (oW o N) 15 (2*E (dE o N)-2)) (List.replicate N 0) (λs hs=>by rw[za];exact(nL.1 hs).1) hle;have hz:∀s,(List.replicate N 0).getD s 0=0:=λs=>by
  rw[ba,JK];split<;>rfl
 unfold jO;rw[aw aa];exact⟨λj hj=>by rw[h3 j hj,hz,lV],λs hs=>by rw[h4 s hs,hz]⟩
theorem agS{f:Nat->Nat}{j m:Nat}(hj:j<m)(h:0<f j){i:Nat}(hi:i<m)(Jv:i≠j):f i<oy f m:=by
 induction m with
 |zero=>omega
 |succ m ih=>
  rw[oy];by_cases e1:j=m
  ·subst e1;have:f i<=oy f j:=GO aa;omega
  ·by_cases e2:i=m
   ·subst e2;have:f j<=oy f i:=GO aa;omega
   ·have:=ih aa aa;omega
where GO {f:Nat->Nat}:∀{m j:Nat},j<m->f j<=oy f m
 |m+1,j,h=>by
  rw[oy];by_cases e:j=m
  ·subst e;omega
  ·have:=GO (f:=f) (m:=m) (j:=j) aa;omega
theorem PM{o:Nat->Nat}{N:Nat}(hN:N<=300)(h2:2<=E (dE o N)):
  oy (λj=>2^(15-N_ (DJ (oW o N) 15 (2*E (dE o N)-2)) j)) (E (dE o N))=32768:=by
 have h:=agT sZ (zq o N) 15 _ _ (xT (o:=o) hN);rw[show(2:Nat)^15=32768 from rfl]at h;omega
theorem PL{o:Nat->Nat}{N:Nat}(hN:N<=300){s:Nat}(hs:s<N)(ho:0<o s):1<=(jO o N).getD s 0:=by
 have hm:s∈dE o N:=nL.2 ⟨hs,ho⟩;obtain⟨j,hj,hje⟩:=ke hm;have hjd:(dE o N).getD j 0=s:=by rw[ba,fc hj,<-hje];rfl
 by_cases h2:2<=E (dE o N)
 ·have h:=(BC hN h2).1 j hj;rw[hjd]at h;rw[h];have xD:=PM (o:=o) hN h2;obtain⟨i,hi,Jv⟩:∃i,i<E (dE o N)∧i≠j:=by
   by_cases e:j=0
   ·exact⟨1,aa,aa⟩
   ·exact⟨0,aa,aa⟩
  have:=agS (f:=λj=>2^(15-N_ (DJ (oW o N) 15 (2*E (dE o N)-2)) j)) hi (w6 _) hj Jv.symm;rw[xD]at this;rcases xF (N_ (DJ (oW o N) 15 (2*E (dE o N)-2)) j)with e|e
  ·rw[e]at this;simp at this
  ·exact e
 ·have h1:E (dE o N)=1:=by omega
  have hj0:j=0:=by omega
  subst hj0;unfold jO;rw[ao aa,ao h1,hjd];simp[ba,CK,hs]
theorem FL{o:Nat->Nat}{N:Nat}(hN:N<=300)(s:Nat):(jO o N).getD s 0<=15:=by
 by_cases h2:2<=E (dE o N)
 ·obtain⟨h3,h4⟩:=BC (o:=o) hN h2;by_cases hm:s∈dE o N
  ·obtain⟨j,hj,hje⟩:=ke hm;have hjd:(dE o N).getD j 0=s:=by rw[ba,fc hj,<-hje];rfl
   have:=h3 j hj;rw[hjd]at this;rw[this];have:=anD (DJ (oW o N) 15 (2*E (dE o N)-2)) j
   rwa [XN]at this
  ·rw[h4 s hm];omega
 ·unfold jO;rw[ao aa];split
  ·rw[ba,CK];split
   ·split<;>simp
   ·rw[JK];split<;>simp
  ·rw[ba,JK];split<;>simp
theorem aaB:∀l:al,qO l=oy (λs=>gK (l.getD s 0).toNat) (E l):=by
 intro l;have:∀m,m<=E l->qO (l.take m)=oy (λs=>gK (l.getD s 0).toNat) m:=by
  intro m;induction m with
  |zero=>intro _;rfl
  |succ m ih=>intro h;rw[aY aa 0,TO,ih aa,oy];rfl
 have h:=this (E l) (gC _)
 rwa [ki]at h
theorem BB{o:Nat->Nat}{N:Nat}(hN:N<=300){s:Nat}(hs:s<N):((lB o N).getD s 0).toNat=(jO o N).getD s 0:=by
 have hl:=JN o N;have kF:=FL (o:=o) hN s;unfold lB;rw[ba,jw];rw[ba]at kF⊢;rw[fc aa]at kF⊢;simp only[Dg,uX]at kF⊢;rw[tX];exact jh aa
theorem aaF{o:Nat->Nat}{N:Nat}(hN:N<=300):Fit (lB o N):=by
 refine⟨by rw[gM];exact hN,λc hc=>?_⟩;obtain⟨i,hi,rfl⟩:=ke hc;have RQ:i<N:=by rwa [gM]at hi
 have:=BB (o:=o) hN RQ;rw[ba,fc hi,uX]at this;rw[this];exact FL hN i
theorem TN{o:Nat->Nat}{N:Nat}(hN:N<=300)(h2:2<=E (dE o N)):qO (lB o N)=32768:=by
 obtain⟨h3,h4⟩:=BC (o:=o) hN h2;rw[aaB,gM];have e1:oy (λs=>gK ((lB o N).getD s 0).toNat) N=oy (λs=>gK ((jO o N).getD s 0)) N:=qq λs hs=>by rw[BB hN hs]
 have e2:oy (λs=>gK ((jO o N).getD s 0)) N=ry (λs=>gK ((jO o N).getD s 0)) (List.range N):=by
  have:=GP (λs=>gK ((jO o N).getD s 0)) (List.range N) N ak;rw[fC ak]at this;rw[this];exact qq λj hj=>by simp[ba,w4 hj]
 have e3:ry (λs=>gK ((jO o N).getD s 0)) (List.range N)=ry (λs=>gK ((jO o N).getD s 0)) (m8 o N):=CU λx hx hp=>by
  have:x∉dE o N:=λhm=>by
   have:=(nL.1 hm).2;simp only[decide_eq_false_iff_not]at hp;exact hp this
  rw[h4 x this];rfl
 have e4:=aby (f:=λs=>gK ((jO o N).getD s 0)) (gO o (m8 o N));have e5:=GP (λs=>gK ((jO o N).getD s 0)) (dE o N) (E (dE o N)) (gC _);rw[ki]at e5;rw[e1,e2,e3,<-e4];show ry _ (dE o N)=_;rw[e5,<-PM (o:=o) hN h2];refine qq λj hj=>?_;have hp:=PL hN (o:=o) (nL.1 (bj hj 0)).1 (nL.1 (bj hj 0)).2;rw[h3 j hj]at hp⊢;unfold gK;rw[aw aa]
theorem Hj:∀N:Nat,nz ((List.replicate N 0).map UInt8.ofNat)=0∧num ((List.replicate N 0).map UInt8.ofNat) 1=0
 |0=>⟨rfl,rfl⟩
 |N+1=>by
  obtain⟨h1,h2⟩:=Hj N;rw[Bt,kh,DK,zA,h1,h2];exact⟨rfl,rfl⟩
theorem one_set:∀N s:Nat,s<N->nz (((List.replicate N 0).set s 1).map UInt8.ofNat)=1∧num (((List.replicate N 0).set s 1).map UInt8.ofNat) 1=1
 |0,s,h=>by omega
 |N+1,0,h=>by
  obtain⟨h1,h2⟩:=Hj N;rw[Bt,List.set_cons_zero,kh,DK,zA,h1,h2];exact⟨rfl,rfl⟩
 |N+1,s+1,h=>by
  obtain⟨h1,h2⟩:=one_set N s aa;rw[Bt,Pv,kh,DK,zA,h1,h2];exact⟨rfl,rfl⟩
theorem mq{o:Nat->Nat}{N:Nat}(hN:N<=300):Good (lB o N):=by
 have hf:=aaF (o:=o) hN;by_cases h2:2<=E (dE o N)
 ·exact(E_ hf).2 (.inr (TN hN h2))
 ·refine(E_ hf).2 (.inl ?_);unfold lB jO;rw[ao aa];split
  ·rename_i h1;right;have hm:(dE o N).getD 0 0∈dE o N:=bj aa 0;have fN:=(nL.1 hm).1;obtain⟨s,hs⟩:=cK ((dE o N).getD 0 0);rw[<-hs]at fN⊢;obtain⟨k1,k2⟩:=one_set N s fN;exact⟨k1,k2⟩
  ·left;exact(Hj N).1
theorem acB{P:Prop}(h:P:=by(rw[hl];simp only;omega)):P:=h
theorem tJ:type_of% @List.take_add_one:= @List.take_add_one
abbrev bS:=UInt8×Int×Int
def nu(b:al)(p a:Nat):Nat->Nat->Nat
 |0,n=>n
 |f+1,n=>if n<257∧a+n<E b∧b.getD (p+n) 0=b.getD (a+n) 0 then nu b p a f (n+1) else n
def pJ(b:al)(p a:Nat):Nat:=nu b p a 257 0
theorem AH(b:al)(p a:Nat):∀(f n:Nat),n<=257->n<=nu b p a f n∧nu b p a f n<=257∧∀i,n<=i->i<nu b p a f n->a+i<E b∧b.getD (p+i) 0=b.getD (a+i) 0
 |0,n,h=>⟨gC _,h,λi h1 h2=>absurd h2 (by simp only[nu];omega)⟩
 |f+1,n,h=>by
  unfold nu;by_cases hc:n<257∧a+n<E b∧b.getD (p+n) 0=b.getD (a+n) 0
  ·rw[ao hc];obtain⟨h1,h2,h3⟩:=AH b p a f (n+1) aa;refine⟨aa,h2,λi hi hi2=>?_⟩;rcases uW n i with h4|h4
   ·exact h3 i aa hi2
   ·obtain rfl:i=n:=by omega
    exact⟨hc.2.1,hc.2.2⟩
  ·rw[aw hc];exact⟨gC _,h,λi h1 h2=>absurd h2 aa⟩
theorem ID(b:al)(p a:Nat):pJ b p a<=257:=(AH b p a 257 0 aa).2.1
theorem Y4{b:al}{p a i:Nat}(h:i<pJ b p a):a+i<E b∧b.getD (p+i) 0=b.getD (a+i) 0:=(AH b p a 257 0 aa).2.2 i (bU _) h
def iU(b:al)(a:Nat):UInt8×UInt8×UInt8:=(b.getD a 0,b.getD (a+1) 0,b.getD (a+2) 0)
def fb(b:al)(k:UInt8×UInt8×UInt8):Nat->Option Nat
 |0=>none
 |m+1=>if m+3<=E b∧iU b m=k then some m else fb b k m
theorem lW{b:al}{k:UInt8×UInt8×UInt8}:∀{m p:Nat},fb b k m=some p->p<m
 |0,p,h=>by cases h
 |m+1,p,h=>by
  unfold fb at h;split at h
  ·injection h with h;omega
  ·have:=lW h;omega
def tL(b:al)(a:Nat):Nat->Option Nat->Nat->Nat->Nat×Nat
 |0,_,n,d=>(n,d)
 |_+1,none,n,d=>(n,d)
 |f+1,some p,n,d=>
  if a-p<=4095∧n<257 then
   (if n<pJ b p a then tL b a f (fb b (iU b p) p) (pJ b p a) (a-p) else tL b a f (fb b (iU b p) p) n d)
  else (n,d)
def dJ(b:al)(a:Nat):Nat×Nat:=if E b<a+3 then (0,0) else tL b a a (fb b (iU b a) a) 0 0
def Kw(b:al)(a:Nat)(r:Nat×Nat):Prop:=r.1<=257∧(0<r.1->1<=r.2∧r.2<=a∧r.2<=4095∧∀i,i<r.1->a+i<E b∧b.getD (a-r.2+i) 0=b.getD (a+i) 0)
theorem FO(b:al)(a:Nat):∀(f:Nat) (p:Option Nat) (n d:Nat),(∀x,p=some x->x<a)->Kw b a (n,d)->Kw b a (tL b a f p n d)
 |0,_,n,d,_,h=>h
 |_+1,none,n,d,_,h=>h
 |f+1,some p,n,d,hp,h=>by
  have hpa:=hp p rfl;have hnx:∀x,fb b (iU b p) p=some x->x<a:=λx hx=>by have:=lW hx;omega
  unfold tL;split
  ·rename_i hc;split
   ·refine FO b a f _ _ _ hnx ⟨ID b p a,λ_=>⟨dh,dh,hc.1,λi hi=>?_⟩⟩;have:=Y4 hi
    rwa [show a-(a,a-p).2+i=p+i by simp only;omega]
   ·exact FO b a f _ _ _ hnx h
  ·exact h
theorem qe(b:al)(a:Nat):Kw b a (dJ b a):=by
 unfold dJ;split
 ·exact⟨ak,λh=>absurd h ak⟩
 ·exact FO b a a _ 0 0 (λx hx=>lW hx) ⟨ak,λh=>absurd h ak⟩
def findF(b:al):Nat->Nat->List bS
 |0,_=>[]
 |f+1,a=>if a<E b then (if 3<=(dJ b a).1 then (0,((dJ b a).1:Int),((dJ b a).2:Int))::findF b f (a+(dJ b a).1) else (b.getD a 0,0,0)::findF b f (a+1)) else []
def jJ(b:al):List bS:=findF b (E b) 0
def fm(t:bS):Prop:=if t.2.1=0 then t.2.2=0 else t.1=0∧3<=t.2.1∧t.2.1<=257∧1<=t.2.2∧t.2.2<=4095
instance (t:bS):Decidable (fm t):=by unfold fm;infer_instance
def mm(d:Nat):Nat->al->al
 |0,out=>out
 |n+1,out=>mm d n (out++[out.getD (E out-d) 0])
theorem pq(d:Nat):∀(n:Nat) (out:al),E (mm d n out)=E out+n
 |0,out=>rfl
 |n+1,out=>by rw[mm,pq d n];simp;omega
def iv(most:Int):al->List bS->al×Int
 |out,[]=>(out,0)
 |out,t::r=>
  if¬fm t then ([],7)
  else if (E out:Int)<t.2.2 then ([],8)
  else if most-E out<max 1 t.2.1 then ([],6)
  else if t.2.1=0 then iv most (out++[t.1]) r
  else iv most (mm t.2.2.toNat t.2.1.toNat out) r
def k_(l:List bS)(most:Int):al×Int:=if most<0 then ([],13) else iv most [] l
theorem I4{b:al}{d:Nat}:∀(n a:Nat),1<=d->d<=a->(∀i,i<n->a+i<E b∧b.getD (a-d+i) 0=b.getD (a+i) 0)->a<=E b->mm d n (b.take a)=b.take (a+n)
 |0,a,_,_,_,_=>rfl
 |n+1,a,h1,h2,h3,h4=>by
  obtain⟨h5,h6⟩:=h3 0 aa;rw[sX]at h5 h6;rw[sX]at h6;have e:(b.take a).getD (E (b.take a)-d) 0=b.getD a 0:=by
   rw[eY,xH h4,<-h6];simp only[ba];rw[Xu aa]
  have e2:b.take a++[b.getD a 0]=b.take (a+1):=by
   rw[tJ,fc h5];simp[List.getD,fc h5]
  rw[mm,e,e2,I4 n (a+1) h1 aa (λi hi=>by
   have:=h3 (i+1) aa;rw[show a+1+i=a+(i+1) by omega,show a+1-d+i=a-d+(i+1) by omega];exact this) aa]
  congr 1;omega
theorem BP(b:al)(most:Int)(hm:(E b:Int)<=most):∀(f a:Nat),a<=E b->E b-a<=f->iv most (b.take a) (findF b f a)=(b,0)
 |0,a,h1,h2=>by
  obtain rfl:a=E b:=by omega
  simp[findF,iv]
 |f+1,a,h1,h2=>by
  unfold findF;split
  ·rename_i ha;have hl:E (b.take a)=a:=by rw[eY];omega
   split
   ·rename_i h3;obtain⟨k1,k2⟩:=qe b a;obtain⟨k3,k4,k5,k6⟩:=k2 aa;have Xf:=(k6 ((dJ b a).1-1) aa).1;generalize dJ b a=r at*;obtain⟨n,d⟩:=r;simp only at*;have hl:E (b.take a)=a:=by rw[eY];omega
    have fy:fm (0,(n:Int),(d:Int)):=by unfold fm;rw[aw dh];exact⟨rfl,dh,dh,dh,dh⟩
    have hmx:max (1:Int) (n:Int)=n:=Int.max_eq_right aa;unfold iv;rw[aw (λh=>h fy),aw acB,aw (by rw[hl];simp only;rw[hmx];omega),aw dh];show iv most (mm d n (b.take a)) _=_;rw[I4 n a k3 k4 k6 h1];exact BP b most hm f (a+n) aa aa
   ·have fy:fm (b.getD a 0,0,0):=by unfold fm;rw[ao rfl]
    unfold iv;rw[aw (λh=>h fy),aw acB,aw acB,ao rfl];have e2:b.take a++[b.getD a 0]=b.take (a+1):=by
     rw[tJ,fc ha];simp[List.getD,fc ha]
    show iv most (b.take a++[b.getD a 0]) _=_;rw[e2];exact BP b most hm f (a+1) aa aa
  ·obtain rfl:a=E b:=by omega
   simp[iv]
theorem xN(b:al)(most:Int)(hm:(E b:Int)<=most):k_ (jJ b) most=(b,0):=by
 unfold k_ jJ;rw[aw aa];have:=BP b most hm (E b) 0 (bU _) aa
 rwa [zl]at this
theorem E0(b:al):∀(f a:Nat),a<=E b->E (findF b f a)<=E b-a
 |0,a,_=>bU _
 |f+1,a,h=>by
  unfold findF;split
  ·rename_i ha;split
   ·rename_i h3;obtain⟨k1,k2⟩:=qe b a;obtain⟨k3,k4,k5,k6⟩:=k2 aa;have Xf:=(k6 ((dJ b a).1-1) aa).1;have:=E0 b f (a+(dJ b a).1) aa;rw[dI];omega
   ·have:=E0 b f (a+1) aa;rw[dI];omega
  ·exact bU _
theorem Np{P:Prop}(h:P:=by(simp only at h;omega)):P:=h
theorem Nr{P:Prop}(h:P:=by(rw[hq];simp[bX])):P:=h
abbrev RZ:=Nat×Nat×Nat×Nat
def qw(v:Nat):Nat:=v.log2
def KU(v:Nat):Nat:=v-2^v.log2
def bN(t:bS):RZ:=if t.2.1=0 then (t.1.toNat,0,0,0) else (257+qw (t.2.1-2).toNat,KU (t.2.1-2).toNat,qw t.2.2.toNat,KU t.2.2.toNat)
theorem Su{v:Nat}(h:v≠0):2^qw v+KU v=v∧KU v<2^qw v:=by
 unfold qw KU;have h1:=Nat.log2_self_le h;have h2:= @Nat.lt_log2_self v;rw[jM]at h2;omega
theorem KV{v k:Nat}(h:v<2^(k+1))(hv:v≠0):qw v<=k:=by
 unfold qw;have h1:=Nat.log2_self_le hv;rcases uW k v.log2 with h2|h2
 ·have:=gJ (show 1<=2 by omega) (show k+1<=v.log2 by omega);omega
 ·exact h2
theorem ou{t:bS}(h:fm t)(h0:¬t.2.1=0):257<=(bN t).1∧(bN t).1<=264∧(bN t).2.2.1<=11∧(bN t).2.1<2^((bN t).1-257)∧(bN t).2.2.2<2^(bN t).2.2.1∧
  (2:Int)+2^((bN t).1-257)+(bN t).2.1=t.2.1∧(2:Int)^(bN t).2.2.1+(bN t).2.2.2=t.2.2∧t.1=0:=by
 unfold fm at h;rw[aw h0]at h;obtain⟨h1,h2,h3,h4,h5⟩:=h;unfold bN;rw[aw h0];simp only;obtain⟨n,hn⟩:=cK ((t.2.1-2).toNat);obtain⟨d,hd⟩:=cK (t.2.2.toNat);rw[<-hn,<-hd];have a1:=Su (v:=n) aa;have a2:=Su (v:=d) aa;have a3:=KV (v:=n) (k:=7) aa aa;have a4:=KV (v:=d) (k:=11) aa aa;rw[show 257+qw n-257=qw n by omega];have e1:((2:Int)^qw n)=((2^qw n:Nat):Int):=by simp
 have e2:((2:Int)^qw d)=((2^qw d:Nat):Int):=by simp
 rw[e1,e2];exact⟨aa,aa,a4,a1.2,a2.2,aa,aa,h1⟩
theorem vX{t:bS}(h:fm t)(h0:t.2.1=0):bN t=(t.1.toNat,0,0,0)∧t=(t.1,0,0):=by
 unfold fm at h;rw[ao h0]at h;refine⟨ao h0,?_⟩;obtain⟨x,n,d⟩:=t;simp only at h h0;subst h;subst h0;rfl
def KW(l:List bS)(s:Nat):Nat:=l.countP (λt=>(bN t).1==s)+if s=256 then 1 else 0
def xn(l:List bS)(s:Nat):Nat:=l.countP (λt=>decide (256<(bN t).1)&&(bN t).2.2.1==s)
def fA(l:List bS):al:=lB (KW l) 265
def iB(l:List bS):al:=lB (xn l) 12
def wH(sl fl:al)(t:bS):List Bool:=hw sl (bN t).1++if (bN t).1<256 then [] else hi (bN t).2.1 ((bN t).1-257) ((bN t).1-257)++(hw fl (bN t).2.2.1++hi (bN t).2.2.2 (bN t).2.2.1 (bN t).2.2.1)
def np(sl fl:al)(l:List bS):List Bool:=l.flatMap (wH sl fl)
def qZ(l:List bS):List Bool:=iA (fA l) 0++(iA (iB l) 0++(np (fA l) (iB l) l++hw (fA l) 256))
def l6(l:List bS):al×Int:=if 32768<E l then ([],6) else if∀t∈l,fm t then (packed (qZ l),0) else ([],7)
def aud(x:Int)(b:Nat):Prop:=0<=x∧x<2^b
instance (x:Int)(b:Nat):Decidable (aud x b):=inferInstanceAs (Decidable (_∧_))
def nG(fl:al)(q:List Bool)(p:Nat)(s:Int):bS×Int×Nat:=
 if¬sS q p (s-257)=0 then ((0,0,0),sS q p (s-257),i_ q p (s-257))
 else if¬(fM fl q (i_ q p (s-257))).2.1=0 then ((0,0,0),(fM fl q (i_ q p (s-257))).2.1,(fM fl q (i_ q p (s-257))).2.2)
 else if¬sS q (fM fl q (i_ q p (s-257))).2.2 (fM fl q (i_ q p (s-257))).1=0 then ((0,0,0),sS q (fM fl q (i_ q p (s-257))).2.2 (fM fl q (i_ q p (s-257))).1,i_ q (fM fl q (i_ q p (s-257))).2.2 (fM fl q (i_ q p (s-257))).1)
 else ((0,2+2^(s-257).toNat+(pA q p (s-257):Int),2^(fM fl q (i_ q p (s-257))).1.toNat+(pA q (fM fl q (i_ q p (s-257))).2.2 (fM fl q (i_ q p (s-257))).1:Int)),0,i_ q (fM fl q (i_ q p (s-257))).2.2 (fM fl q (i_ q p (s-257))).1)
def kM(sl fl:al)(q:List Bool)(p:Nat):bS×Bool×Int×Nat:=
 if¬(fM sl q p).2.1=0∨(fM sl q p).1=256 then ((0,0,0),false,(fM sl q p).2.1,(fM sl q p).2.2)
 else if (fM sl q p).1<256 then ((UInt8.ofNat (fM sl q p).1.toNat,0,0),true,0,(fM sl q p).2.2)
 else ((nG fl q (fM sl q p).2.2 (fM sl q p).1).1,decide ((nG fl q (fM sl q p).2.2 (fM sl q p).1).2.1=0),(nG fl q (fM sl q p).2.2 (fM sl q p).1).2.1,(nG fl q (fM sl q p).2.2 (fM sl q p).1).2.2)
def sv(sl fl:al)(q:List Bool):Nat->Int->Nat->List bS->List bS×Int
 |0,most,p,acc=>([],6)
 |f+1,most,p,acc=>
  if¬(kM sl fl q p).2.2.1=0 then ([],(kM sl fl q p).2.2.1)
  else if (kM sl fl q p).2.1=false then (if paE q (kM sl fl q p).2.2.2=0 then (acc,0) else ([],paE q (kM sl fl q p).2.2.2))
  else if most-max 1 (kM sl fl q p).1.2.1<0 then ([],6)
  else sv sl fl q f (most-max 1 (kM sl fl q p).1.2.1) (kM sl fl q p).2.2.2 (acc++[(kM sl fl q p).1])
noncomputable def fU(b:al)(most:Int):List bS×Int:=
 if most<0 then ([],13)
 else if¬(rD (gA b) 0 265).2.1=0 then ([],(rD (gA b) 0 265).2.1)
 else if¬(rD (gA b) (rD (gA b) 0 265).2.2 12).2.1=0 then ([],(rD (gA b) (rD (gA b) 0 265).2.2 12).2.1)
 else sv (rD (gA b) 0 265).1 (rD (gA b) (rD (gA b) 0 265).2.2 12).1 (gA b) (most.toNat+1) most (rD (gA b) (rD (gA b) 0 265).2.2 12).2.2 []
def gZ:List bS->Int
 |[]=>0
 |t::r=>max 1 t.2.1+gZ r
theorem ll{o:Nat->Nat}{N s:Nat}(hN:N<=300)(hs:s<N)(ho:0<o s):((lB o N).getD s 0).toNat≠0:=by
 rw[BB hN hs];have:=PL hN hs ho;omega
theorem Ep{l:List bS}{t:bS}(h:t∈l):0<KW l (bN t).1:=by
 unfold KW;have:0<l.countP λu=>(bN u).1==(bN t).1:=List.countP_pos_iff.2 ⟨t,h,ak⟩;omega
theorem En{l:List bS}{t:bS}(h:t∈l)(h2:256<(bN t).1):0<xn l (bN t).2.2.1:=by
 unfold xn;exact List.countP_pos_iff.2 ⟨t,h,by simp[h2]⟩
theorem ahu{l:List bS}(hm:∀t∈l,fm t){t:bS}(ht:t∈l)(pre r:List Bool){q:List Bool}(hq:q=pre++(wH (fA l) (iB l) t++r)):
  kM (fA l) (iB l) q (E pre)=(t,true,0,E (pre++wH (fA l) (iB l) t)):=by
 have hsg:Good (fA l):=mq aa;have hfg:Good (iB l):=mq aa;have fy:=hm t ht;have hc:=Ep ht;by_cases h0:t.2.1=0
 ·obtain⟨e1,e2⟩:=vX fy h0;have hx:=r' t.1;have fN:(bN t).1<256:=by rw[e1];exact hx
  have hb:wH (fA l) (iB l) t=hw (fA l) (bN t).1:=by unfold wH;rw[ao fN,gl]
  rw[hb]at hq⊢;have hg:=y7 hsg (s:=(bN t).1) (by rw[fA,gM];omega) (ll aa aa hc) pre r hq;unfold kM;rw[hg,aw (λh=>h.elim (λh=>h rfl) λh=>Np),ao dh];simp only[e1];rw[e2];simp
 ·obtain⟨k1,k2,k3,k4,k5,k6,k7,k8⟩:=ou fy h0;have hf:=En ht (by omega:256<(bN t).1);obtain⟨P,hP⟩:=cK (bN t);unfold wH at hq⊢;rw[<-hP]at k1 k2 k3 k4 k5 k6 k7 hf hc hq⊢;obtain⟨s,x,c,y⟩:=P;simp only at k1 k2 k3 k4 k5 k6 k7 hf hc hq⊢;rw[aw aa]at hq⊢;have hg:=y7 hsg (s:=s) (by rw[fA,gM];omega) (ll aa aa hc) pre (hi x (s-257) (s-257)++(hw (iB l) c++(hi y c c++r))) (q:=q) Nr;obtain⟨b1,b2,b3⟩:=got q (pre++hw (fA l) s) (hw (iB l) c++(hi y c c++r)) x (n:=s-257) aa k4 Nr;have Js:=y7 hfg (s:=c) (by rw[iB,gM];omega) (ll aa aa hf) (pre++hw (fA l) s++hi x (s-257) (s-257)) (hi y c c++r) (q:=q) Nr;obtain⟨c1,c2,c3⟩:=got q (pre++hw (fA l) s++hi x (s-257) (s-257)++hw (iB l) c) r y (n:=c) aa k5 Nr;have es:((s:Int)-257)=((s-257:Nat):Int):=by omega
  have au3:nG (iB l) q (E (pre++hw (fA l) s)) (s:Int)=(t,0,E (pre++hw (fA l) s++hi x (s-257) (s-257)++hw (iB l) c++hi y c c)):=by
   unfold nG;rw[es,b1,b3,Js];simp only;rw[c1,c3,b2,c2,aw ak,aw ak,aw ak,oo,oo,k6,k7,<-k8]
  unfold kM;rw[hg];simp only;rw[aw (λh=>h.elim (λh=>by simp at h) λh=>aa),aw aa,au3];simp[bX]
theorem xW(sl fl:al)(t:bS)(r:List bS):np sl fl (t::r)=wH sl fl t++np sl fl r:=rfl
theorem aht{l:List bS}(pre r:List Bool){q:List Bool}(hq:q=pre++(hw (fA l) 256++r)):
  kM (fA l) (iB l) q (E pre)=((0,0,0),false,0,E (pre++hw (fA l) 256)):=by
 have hg:=y7 (mq (o:=KW l) (N:=265) aa) (s:=256) (by rw[gM];omega) (ll aa aa (by unfold KW;rw[ao rfl];omega)) pre r hq;unfold kM;unfold fA at*;rw[hg,ao (.inr rfl)]
theorem ov:∀r:List bS,0<=gZ r
 |[]=>Int.le_refl _
 |t::r=>by have:=ov r;unfold gZ;omega
theorem Q9{l:List bS}(hm:∀t∈l,fm t){q:List Bool}{r:List Bool}(hr:paE q (E q-E r)=0):∀(ts:List bS) (f:Nat) (most:Int) (pre:List Bool) (acc:List bS),(∀t∈ts,t∈l)->gZ ts<=most->most<f->
  q=pre++(np (fA l) (iB l) ts++(hw (fA l) 256++r))->sv (fA l) (iB l) q f most (E pre) acc=(acc++ts,0)
 |ts,0,most,pre,acc,_,h2,h3,_=>by have:=ov ts;omega
 |[],f+1,most,pre,acc,_,h2,h3,hq=>by
  have hq':q=pre++(hw (fA l) 256++r):=hq;have h:=aht pre r hq';unfold sv;rw[h,aw ak,ao rfl];have:E (pre++hw (fA l) 256)=E q-E r:=by rw[hq'];simp;omega
  simp only[this];rw[ao hr,gl]
 |t::ts,f+1,most,pre,acc,h1,h2,h3,hq=>by
  rw[xW,bX]at hq;have h:=ahu hm (h1 t ak) pre _ hq;unfold gZ at h2;have hp:=ov ts;unfold sv;rw[h,aw ak,aw ak,aw dh];simp only;rw[Q9 hm hr ts f _ (pre++wH (fA l) (iB l) t) (acc++[t]) (λu hu=>h1 u (by simp[hu])) aa aa Nr,bX];rfl
theorem aks(q:List Bool):paE (q++pad q) (E (q++pad q)-E (pad q))=0:=by
 have e:E (q++pad q)-E (pad q)=E q:=by simp
 have hl:=xM q;unfold paE;rw[e,atD,ao ⟨by rw[aX,hl];omega,rfl⟩]
theorem abP{l:List bS}(hm:∀t∈l,fm t){most:Int}(hp:gZ l<=most):fU (packed (qZ l)) most=(l,0):=by
 have hsg:Good (fA l):=mq aa;have hfg:Good (iB l):=mq aa;have uL:=ov l;obtain⟨q,hq⟩:=cK (gA (packed (qZ l)));have Tu:=hq;rw[rA]at hq;have oC:E (fA l)=265:=gM _ _;have lg:E (iB l)=12:=gM _ _;obtain⟨T,hT⟩:=cK (np (fA l) (iB l) l++(hw (fA l) 256++pad (qZ l)));have hq3:q=iA (fA l) 0++(iA (iB l) 0++T):=by rw[hq,hT];unfold qZ;simp[bX]
 have r1:rD q 0 265=(fA l,0,E (iA (fA l) 0)):=by
  have:=back (fA l) hsg (iA (iB l) 0++T) (E (fA l)) 0 (E (fA l)) [] false q aa aa hq3 aa (λh=>kC);rw[oC]at this;rw[rD,aw aa];simpa using this
 have r2:rD q (E (iA (fA l) 0)) 12=(iB l,0,E (iA (fA l) 0++iA (iB l) 0)):=by
  have:=back (iB l) hfg T (E (iB l)) 0 (E (iB l)) (iA (fA l) 0) false q aa aa hq3 aa (λh=>kC);rw[lg]at this;rw[rD,aw aa];simpa using this
 unfold fU;rw[<-Tu,aw aa,r1];simp only;rw[r2];simp only;rw[aw ak,aw ak];have hpe:=aks (qZ l);rw[<-hq]at hpe;have:=Q9 hm (q:=q) (r:=pad (qZ l)) hpe l (most.toNat+1) most (iA (fA l) 0++iA (iB l) 0) [] (λt h=>h) hp aa (by rw[hq3,hT];simp[bX])
 rwa [mW]at this
theorem Ba(b:al):∀(f a:Nat),a<=E b->gZ (findF b f a)<=((E b-a:Nat):Int)
 |0,a,h=>by simp only[findF,gZ];omega
 |f+1,a,h=>by
  unfold findF;split
  ·rename_i ha;split
   ·rename_i h3;obtain⟨k1,k2⟩:=qe b a;obtain⟨k3,k4,k5,k6⟩:=k2 aa;have Xf:=(k6 ((dJ b a).1-1) aa).1;have:=Ba b f (a+(dJ b a).1) aa;unfold gZ;simp only;omega
   ·have:=Ba b f (a+1) aa;unfold gZ;simp only;omega
  ·simp only[gZ];omega
theorem yT(b:al):∀(f a:Nat),∀t∈findF b f a,fm t
 |0,a,t,h=>by cases h
 |f+1,a,t,h=>by
  unfold findF at h;split at h
  ·rename_i ha;split at h
   ·rename_i h3;obtain⟨k1,k2⟩:=qe b a;obtain⟨k3,k4,k5,k6⟩:=k2 aa;rcases fj.1 h with e|e
    ·subst e;unfold fm;rw[aw dh];exact⟨rfl,dh,dh,dh,dh⟩
    ·exact yT b f _ t e
   ·rcases fj.1 h with e|e
    ·subst e;unfold fm;rw[ao rfl]
    ·exact yT b f _ t e
  ·cases h
def aS:Nat->al
 |x=>if h:128<=x then UInt8.ofNat (128+x%128)::aS (x/128) else [UInt8.ofNat x]
 termination_by x=>x
 decreasing_by omega
theorem pd{x:Nat}(h:x<128):aS x=[UInt8.ofNat x]:=by
 rw[aS];simp;omega
theorem vK{x:Nat}(h:128<=x):aS x=UInt8.ofNat (128+x%128)::aS (x/128):=by
 rw[aS];simp[h]
theorem Ow(k:Nat):∀x,x<128^(k+1)->E (aS x)<=k+1:=by
 induction k with
 |zero=>intro x h;rw[pd ng];simp
 |succ k ih=>
  intro x h;by_cases hx:128<=x
  ·rw[vK hx];have:=ih (x/128) (by rw[jM]at h;omega);simp;omega
  ·rw[pd aa];simp
theorem aV{x:Nat}(h:x<18446744073709551616):E (aS x)<=10:=by
 have:(128:Nat)^10=1180591620717411303424:=by decide+kernel
 exact Ow 9 x aa
theorem u8n(x:Nat)(h:x<256):(UInt8.ofNat x).toNat=x:=by simp;omega
theorem KO(x:Nat)(h:x<256):bv [UInt8.ofNat x]=[.int .u8 (x:Int)]:=by simp only[bv,kh,Ih,u8n x h]
def fD(l:al):al:=aS (E l)++l
def fR(x:Nat):Nat->al
 |0=>[]
 |k+1=>fR x k++[UInt8.ofNat (x/2^(8*k)%256)]
@[simp] theorem qI(x k:Nat):E (fR x k)=k:=by induction k with
 |zero=>rfl
 |succ k ih=>simp[fR,ih]
theorem WO{x n k:Nat}(h:k<n)(u:Value)(hu:u= .int .u8 ((x/2^(8*k)%256:Nat):Int)):
  (bv (fR x k)++List.replicate (n-k) (Value.int .u8 0)).set k u=bv (fR x (k+1))++List.replicate (n-(k+1)) (Value.int .u8 0):=by
 rw[X7 _ h,Mp _ _ _ _ ak,hu,fR,gF,KO _ (rZ _ aa)];simp
theorem Yj:tA Tryz.prog 27 5 1 1 (.int .u8 0):=lL underlying27 ag rfl aa
theorem afB{x k:Nat}{pre:al}(h:aS x=pre++aS k)(hk:128<=k):aS x=(pre++[UInt8.ofNat (128+k%128)])++aS (k/128):=by
 rw[h,vK hk];simp
theorem akp(k:Nat):bits .or .u8 ((k:Int)%256) 128=((128+k%128:Nat):Int):=by
 have h:=u8_or (k%256) 128 aa aa;rw[afQ _ aa]at h;rw[show((k:Int)%256)=((k%256:Nat):Int) from by omega];refine h.trans ?_;omega
def IA(x k:Nat)(pre:al):Prop:=aS x=pre++aS k∧k<=x
theorem IA.apl{x k:Nat}{pre:al}(h:IA x k pre)(hx:x<18446744073709551616):E pre<=10:=by
 have h1:=dQ List.length h.1;have h2:=aV hx;simp at h1;omega
theorem IA.more{x k:Nat}{pre:al}(h:IA x k pre)(hk:128<=k):IA x (k/128) (pre++[UInt8.ofNat (128+k%128)]):=
 ⟨afB h.1 hk,(by have:=h.2;omega)⟩
set_option maxRecDepth 100000 in
set_option maxHeartbeats 400000 in
theorem asW(x:Nat)(hx:x<18446744073709551616)(w:World):
  Calls Tryz.prog 63 #[.int .u64 x] w λe w'=>∃v,e= .returned v∧w'.ownsRow w.heap.size 5 1 v (E (aS x)) (bv (aS x))∧Below w.heap.size w w':=by
 go_enter func63,Tryz.ntmps63
 go_wp2
 go_loopw [0,3] (λxv v wr=>∃(k:Nat) (pre:al),xv= .int .u64 k∧IA x k pre∧wr.ownsRow w.heap.size 5 1 v (E pre) (bv pre)∧Below w.heap.size w wr)
  (λxv _ _=>(intOf xv).toNat)
 case atStart=>exact⟨x,[],rfl,⟨rfl,gC _⟩,World.ownsRow_nil _ _ _ _,Ij _ _⟩
 case round=>
  obtain⟨k,pre,rfl,ug,mO,hb⟩:=hrel;have hlen:=ug.apl hx;have hkx:k<=x:=ug.2;have hB:=hb.size;have hob:=akp k;by_cases aum:128<=k
  ·go_wp2_with (first|(at_builtin;refine YR Yj rfl (.tmp 6) (.tmp 10) rfl rfl mO rfl rfl hb (gC _) hB aa aa ?_;intro v1 w1 Fh qJ lK hg1))
   go_roundw
   case rel=>exact⟨k/128,pre++[UInt8.ofNat (128+k%128)],by go_num,ug.more aum,Uo Fh ak (by rw[gF,KO _ aa];congr 2),qJ⟩
   case measure=>simp[intOf];omega
  ·go_wp2_with (first|(at_builtin;refine YR Yj rfl (.tmp 14) (.tmp 17) rfl rfl mO rfl rfl hb (gC _) hB aa aa ?_;intro v1 w1 Fh qJ lK hg1))
   go_ret
   have e:=ug.1;rw[pd (by omega:k<128)]at e;refine⟨v1,rfl,Uo Fh (by rw[e];simp) ?_,qJ⟩;rw[e,gF,KO _ aa]
theorem YJ:∃i,Tryz.prog.info? 5=some i∧i.zero=some (.int .u8 0)∧i.size=1∧i.bytes=1:=Yj.hi
set_option maxRecDepth 100000 in
set_option maxHeartbeats 400000 in
theorem apG(s:ByteArray)(hs:s.size<=1099511627776)(w:World):
  Calls Tryz.prog 143 #[.string s] w λe w'=>∃v,e= .returned v∧w'.ownsRow w.heap.size 5 1 v (E (fD s.data.toList)) (bv (fD s.data.toList))∧Below w.heap.size w w':=by
 obtain⟨i0,hi,hz0,LD,wC⟩:=YJ;have jg:E s.data.toList=s.size:=LO;have Hsz:=kg jg;clear jg;have hl:E (aS s.size)<=10:=aV aa
 go_enter func143,Tryz.ntmps143
 go_wp2_with (first|(go_at_call 63;refine(asW _ aa _).mono ?_;rintro e w1 ⟨v1,rfl,mO,hb⟩)|(at_builtin;refine Lib.wpList_append_own_string _ rfl (.tmp 6) (.tmp 7) 27 9 rfl w.heap.size 5 i0 underlying27 underlying9 hi hz0 LD wC _ _ _ rfl mO s rfl Cl aa hb.size ?_;intro v2 w2 JB Js _))
 go_ret
 refine⟨v2,rfl,Uo JB (by rw[fD,aX,Hsz.out]) (by rw[fD,gF,Hsz.out];rfl),hb.grown Js hb.size λk hk=>(mO.lt k hk).1⟩
theorem acD{P:Prop}(h:P:=by(simp only[dI];omega)):P:=h
def dx:Nat->Nat->al->Nat×Nat×Int
 |_,_,[]=>(0,0,1)
 |i,acc,c::r=>
  if i=9∧c.toNat≠1∨0<i∧c.toNat=0 then (0,0,2)
  else if c.toNat<128 then (acc+c.toNat%128*128^i,i+1,0)
  else dx (i+1) (acc+c.toNat%128*128^i) r
def cR(l:al):Nat×Nat×Int:=dx 0 0 l
def eM(l:al)(most:Int):Nat×Nat×Int:=
 if (cR l).2.2≠0 then (0,0,(cR l).2.2)
 else if most<0∨most<(cR l).1 then (0,0,6)
 else ((cR l).1,(cR l).2.1,0)
structure Cs where
 b:al
 at_:Nat
 e:Int
def Cs.rest(s:Cs):al:=s.b.drop s.at_
def Cs.left(s:Cs):Nat:=E s.b-s.at_
def Cs.failed(s:Cs)(e:Int):Cs:=if s.e=0 then {s with e:=e} else s
def Cs.eQ(s:Cs)(n:Nat)(e:Int):Cs:=if s.e≠0 then s else if e≠0 then {s with e:=e} else {s with at_:=s.at_+n}
def Cs.num(s:Cs):Nat:=if s.e≠0 then 0 else (cR s.rest).1
def Cs.mz(s:Cs):Cs:=s.eQ (cR s.rest).2.1 (cR s.rest).2.2
def Cs.int(s:Cs)(most:Int):Nat:=if s.e≠0 then 0 else (eM s.rest most).1
def Cs.bZ(s:Cs)(most:Int):Cs:=s.eQ (eM s.rest most).2.1 (eM s.rest most).2.2
def iz(l:al)(n:Int):Int:=if n<0 then 13 else if (E l:Int)<n then 1 else 0
def Cs.take(s:Cs)(n:Int):al:=if s.e≠0 then [] else if iz s.rest n≠0 then [] else s.rest.take n.toNat
def Cs.cj(s:Cs)(n:Int):Cs:=s.eQ n.toNat (iz s.rest n)
def Cs.byte(s:Cs):UInt8:=((s.take 1).head?).getD 0
def Cs.e_(s:Cs):Cs:=s.cj 1
def ji:al->Nat
 |[]=>0
 |c::r=>c.toNat+256*ji r
def Cs.fixed(s:Cs)(n:Int):Nat:=if n<1∨8<n then 0 else ji (s.take n)
def Cs.lJ(s:Cs)(n:Int):Cs:=if n<1∨8<n then s.failed 13 else s.cj n
def kq(l:al)(most:Int):al×Nat×Int:=
 if (eM l most).2.2≠0 then ([],0,(eM l most).2.2)
 else if E l-(eM l most).2.1<(eM l most).1 then ([],0,1)
 else ((l.drop (eM l most).2.1).take (eM l most).1,(eM l most).2.1+(eM l most).1,0)
def Cs.text(s:Cs)(most:Int):al:=if s.e≠0 then [] else (kq s.rest most).1
def Cs.eT(s:Cs)(most:Int):Cs:=s.eQ (kq s.rest most).2.1 (kq s.rest most).2.2
def Cs.yR(s:Cs):Cs:=if 0<s.left then s.failed 2 else s
theorem GH:∀(l:al) (i acc:Nat),i<=9->acc<128^i->
  (dx i acc l).1<18446744073709551616∧(dx i acc l).2.1<=i+E l∧0<=(dx i acc l).2.2∧(dx i acc l).2.2<=2:=by
 intro l;induction l with
 |nil=>intro i acc _ _;simp[dx]
 |cons c r ih=>
  intro i acc hi ha;unfold dx;have hp:128^(i+1)=128^i*128:=jM ..;by_cases h1:i=9∧c.toNat≠1∨0<i∧c.toNat=0
  ·rw[ao h1];simp
  ·rw[aw h1];have wV:acc+c.toNat%128*128^i<128^(i+1):=by
    have:c.toNat%128*128^i<=127*128^i:=ph _ aa;omega
   by_cases h2:c.toNat<128
   ·rw[ao h2];refine⟨?_,acD,ak,ak⟩;show acc+c.toNat%128*128^i<_;rcases uW i 9 with h9|h9
    ·have:128^(i+1)<=128^9:=gJ aa aa;have e9:(128:Nat)^9=9223372036854775808:=by decide+kernel
     omega
    ·have h9':i=9:=by omega
     subst h9';have hc:c.toNat=1:=by omega
     have e9:(128:Nat)^9=9223372036854775808:=by decide+kernel
     have Bj:acc<9223372036854775808:=Nat.lt_of_lt_of_eq ha e9;rw[hc,e9];clear hp wV ha e9;omega
   ·rw[aw h2];have h9:i<9:=by
     rcases uW i 9 with h9|h9
     ·exact h9
     ·exfalso;omega
    obtain⟨a,b,c',d⟩:=ih (i+1) _ aa wV;exact⟨a,by simp at b⊢;omega,c',d⟩
theorem fz(l:al):(cR l).1<18446744073709551616∧(cR l).2.1<=E l∧0<=(cR l).2.2∧(cR l).2.2<=2:=by
 have:=GH l 0 0 aa ak;simpa[cR]using this
theorem jV(l:al)(most:Int)(hm:most<=9223372036854775807):
  (eM l most).1<=9223372036854775807∧(eM l most).2.1<=E l∧0<=(eM l most).2.2∧((eM l most).2.2=0->((eM l most).1:Int)<=most):=by
 have h:=fz l;unfold eM;split
 ·exact⟨ak,ak,h.2.2.1,λh0=>by rename_i oh;exact absurd h0 oh⟩
 ·split
  ·exact⟨ak,ak,ak,ak⟩
  ·rename_i h2;exact⟨dh,h.2.1,ak,λ_=>dh⟩
theorem qN:type_of% @beq_eq_false_iff_ne:= @beq_eq_false_iff_ne
theorem mU:type_of% @List.drop_of_length_le:= @List.drop_of_length_le
theorem R6(u:UInt8):bits .andNot .u8 (u.toNat:Int) 128=((u.toNat%128:Nat):Int):=by
 have:∀x:Fin 256,bits .andNot .u8 (x.val:Int) 128=((x.val%128:Nat):Int):=by decide+kernel
 exact this ⟨u.toNat,u.toNat_lt⟩
theorem Qc(m y k:Nat)(h:m<2^k):m ||| y*2^k=m+y*2^k:=by
 rw[Nat.or_comm,jL,<-Pr h];omega
theorem abp(m k:Nat)(u:UInt8)(hk:k<=9)(hm:m<128^k)(h9:k=9->u.toNat=1):
  bits .or .u64 (m:Int) (IntKind.u64.wrap (IntKind.u64.wrap (bits .andNot .u8 (u.toNat:Int) 128)*2^(7*k)))=((m+u.toNat%128*128^k:Nat):Int)∧
   (k<9->m+u.toNat%128*128^k<128^(k+1))∧m+u.toNat%128*128^k<18446744073709551616:=by
 have e7:(128:Nat)^k=2^(7*k):=by rw[show(128:Nat)=2^7 from rfl,<-Nat.pow_mul]
 have wV:m+u.toNat%128*128^k<128^(k+1):=by
  have:u.toNat%128*128^k<=127*128^k:=ph _ aa;rw[jM];omega
 have e9:(128:Nat)^9=9223372036854775808:=by decide+kernel
 have fN:m+u.toNat%128*128^k<18446744073709551616:=by
  rcases uW k 9 with h|h
  ·have:(128:Nat)^(k+1)<=128^9:=gJ aa aa;rw[e9]at this;clear e9 e7;omega
  ·have hk9:k=9:=by omega
   have hu:=h9 hk9;have hm':m<9223372036854775808:=by rw[<-e9,<-hk9];exact hm
   rw[hu,hk9,e9];clear wV hm e7 e9;omega
 refine⟨?_,λ_=>wV,fN⟩;rw[R6,wrap_u64 _ aa];have ep:((u.toNat%128:Nat):Int)*2^(7*k)=((u.toNat%128*2^(7*k):Nat):Int):=by
  rw[zi];congr 1
 rw[e7]at hm fN⊢;rw[ep,wrap_u64 _ aa,u64_or _ _ aa aa,Qc _ _ _ hm]
def R0(l:al)(k m:Nat):Prop:=cR l=dx k m (l.drop k)∧m<128^k∧k<=9
theorem drop_cons{l:al}{k:Nat}{u:UInt8}(h:l[k]? =some u):l.drop k=u::l.drop (k+1):=by
 have hk:=(Bw.1 h)
 rw[LQ hk.1,hk.2]
theorem apm{a a' b b' c c':Value}(h1:a=a')(h2:b=b')(h3:c=c'):Ending.returned (.tuple #[a,b,c])= .returned (.tuple #[a',b',c']):=by rw[h1,h2,h3]
theorem int_eq{k:IntKind}{a b:Int}(h:a=b):Value.int k a= .int k b:=by rw[h]
set_option maxRecDepth 100000 in
set_option maxHeartbeats 1600000 in
theorem apq{B:Nat}{A:bk}{n c:Nat}{l:al}(w:World)(h:Rd w B 1 (.slice A n c) n (bv l))(hn:n<=1099511627776):
  Calls Tryz.prog 263 #[.slice A n c] w λe w'=>e= .returned (.tuple #[.int .u64 ((cR l).1:Nat),ah ((cR l).2.1:Nat),ah (cR l).2.2])∧w=w':=by
 have Hr:=kg h;have Hl:=kg h.aoD;clear h
 go_enter func263,Tryz.ntmps263
 go_wp2
 go_loop [2,5,6,9] (λx i6 c6 i=>∃k m:Nat,k<=n∧i=ah k∧x= .int .u64 m∧Hid (R0 l k m)) (λ_ _ _ i=>n-(intOf i).toNat)
 case atStart=>exact⟨0,0,bU _,rfl,rfl,by simp[Hid,R0,cR]⟩
 case round=>
  obtain⟨k,m,hk,rfl,rfl,HS⟩:=hrel;by_cases fN:k<n
  ·obtain⟨ad,u,rfl,_,hlu,fL⟩:=Hr.out.aiI fN;have hs:=HS.out.1;have h9:=HS.out.2.2;rw[drop_cons hlu,dx]at hs;have HL:=kg hs;clear hs hlu;by_cases c1:k=9∧u.toNat≠1∨0<k∧u.toNat=0
   ·have e:=HL.out;rw[ao c1]at e;have HE:=kg e;clear e;by_cases hk9:k=9
    ·have b1:((u.toNat:Int) != 1)=true:=by rw[bne_iff_ne];omega
     have b9:((k:Int)==9)=true:=by rw[beq_iff_eq];omega
     clear hk9 c1
     go_wp2_with fail
     go_ret3
     rw[HE.out];exact⟨rfl,rfl⟩
    ·have b9:((k:Int)==9)=false:=by rw[qN];omega
     have b0:((u.toNat:Int)==0)=true:=by rw[beq_iff_eq];omega
     have k0:(0:Int)<k:=by omega
     go_wp2_with fail
     go_ret3
     rw[HE.out];exact⟨rfl,rfl⟩
   ·have tH:=abp m k u h9 HS.out.2.1 aa;have HT:=kg tH;clear tH;by_cases c2:u.toNat<128
    ·have e:=HL.out;rw[aw c1,ao c2]at e;have HE:=kg e;clear e;have b9:((k:Int)==9&&(u.toNat:Int) != 1)=false:=by
      rw[Bool.and_eq_false_iff,qN,bne_eq_false_iff_eq];omega
     by_cases hk9:k=9
     ·have b1:((u.toNat:Int) != 1)=false:=by rw[bne_eq_false_iff_eq];omega
      have b0:((u.toNat:Int)==0)=false:=by rw[qN];omega
      clear b9;have b9:((k:Int)==9)=true:=by rw[beq_iff_eq];omega
      have k0:(0:Int)<k:=by omega
      clear hk9 c1
      go_wp2_with fail
      go_ret3
      rw[HE.out];exact⟨apm (int_eq HT.out.1) rfl rfl,rfl⟩
     ·have b9:((k:Int)==9)=false:=by rw[qN];omega
      by_cases DD:k=0
      ·have k0:¬((0:Int)<k):=by omega
       have HK:=kg DD;clear DD
       go_wp2_with fail
       go_ret3
       rw[HE.out];exact⟨apm (int_eq HT.out.1) rfl rfl,rfl⟩
      ·have k0:(0:Int)<k:=by omega
       have b0:((u.toNat:Int)==0)=false:=by rw[qN];omega
       go_wp2_with fail
       go_ret3
       rw[HE.out];exact⟨apm (int_eq HT.out.1) rfl rfl,rfl⟩
    ·have e:=HL.out;rw[aw c1,aw c2]at e;have hk9:k<9:=by omega
     have HE:Hid (R0 l (k+1) (m+u.toNat%128*128^k)):=⟨e,HT.out.2.1 hk9,aa⟩
     clear e;have b9:((k:Int)==9)=false:=by rw[qN];omega
     by_cases DD:k=0
     ·have k0:¬((0:Int)<k):=by omega
      have HK:=kg DD;clear DD
      go_wp2_with fail
      go_round
      case rel=>exact⟨k+1,_,aa,by go_num,int_eq HT.out.1,HE⟩
      case measure=>simp[intOf];omega
     ·have k0:(0:Int)<k:=by omega
      have b0:((u.toNat:Int)==0)=false:=by rw[qN];omega
      go_wp2_with fail
      go_round
      case rel=>exact⟨k+1,_,aa,by go_num,int_eq HT.out.1,HE⟩
      case measure=>simp[intOf];omega
  ·have e:=HS.out.1;rw[mU (by have:=Hl.out;omega),dx]at e;have HE:=kg e;clear e
   go_wp2_with fail
   go_ret3
   rw[HE.out];exact⟨rfl,rfl⟩
section
variable{s:Cs}
theorem II{P:Prop}(h:P:=by(simp[Cs.failed,nY])):P:=h
structure cu(s:Cs):Prop where
 at_:s.at_<=E s.b
 len:E s.b<=1099511627776
theorem cu.rest{s:Cs}(h:cu s):E s.rest=s.left∧s.left<=1099511627776:=by
 have:=h.at_;have:=h.len;exact⟨by simp[Cs.rest,Cs.left],by unfold Cs.left;omega⟩
theorem cu.eQ{s:Cs}(h:cu s){k:Nat}{e:Int}(hk:e=0->k<=s.left):cu (s.eQ k e):=by
 unfold Cs.eQ;split
 ·exact h
 ·split
  ·exact⟨h.at_,h.len⟩
  ·rename_i h1;have:=hk D9;have:=h.at_;unfold Cs.left at*;exact⟨dh,h.len⟩
theorem cu.mz{s:Cs}(h:cu s):cu s.mz:=h.eQ λ_=>by have:=(fz s.rest).2.1;rw[h.rest.1]at this;exact this
theorem cu.bZ{s:Cs}(h:cu s){m:Int}(hm:m<=9223372036854775807):cu (s.bZ m):=h.eQ λ_=>by have:=(jV s.rest m hm).2.1;rw[h.rest.1]at this;exact this
theorem xS{l:al}{n:Int}(h:iz l n=0):0<=n∧n.toNat<=E l:=by
 unfold iz at h;split at h
 ·cases h
 ·split at h
  ·cases h
  ·omega
theorem cu.cj{s:Cs}(h:cu s){n:Int}:cu (s.cj n):=h.eQ λhe=>by have:=(xS he).2;rw[h.rest.1]at this;exact this
theorem QV(l:al)(m:Int)(h:(kq l m).2.2=0):(kq l m).2.1<=E l∨(kq l m).2.1=0:=by
 unfold kq at h⊢;split
 ·exact .inr rfl
 ·split
  ·exact .inr rfl
  ·rename_i h1 h2;by_cases hz:(eM l m).1=0
   ·left;have hk:(eM l m).2.1<=E l:=by
     unfold eM;split
     ·simp
     ·split
      ·simp
      ·exact(fz l).2.1
    simp only;omega
   ·left;simp only;omega
theorem cu.eT{s:Cs}(h:cu s){m:Int}:cu (s.eT m):=h.eQ λhe=>by
 have:=QV s.rest m he;rw[h.rest.1]at this;omega
theorem cu.failed{s:Cs}(h:cu s)(e:Int):cu (s.failed e):=by
 unfold Cs.failed;split
 ·exact⟨h.at_,h.len⟩
 ·exact h
theorem cu.e_{s:Cs}(h:cu s):cu s.e_:=h.cj
theorem Cs.cQ(s:Cs)(k:Nat)(e:Int):(s.eQ k e).b=s.b:=by unfold Cs.eQ;split<;>first|rfl|(split<;>rfl)
abbrev Cv(g:Nat)(A:bk)(c:Nat)(s:Cs):Ch:=.bG g 258 [.slice A (E s.b) c,ah s.at_,ah s.e]
theorem Wv{T:Nat}{s s':Cs}{a e:Int}{L:aR}{m:Nat}(hb:s'.b=s.b)(ha:a=s'.at_)(he:e=s'.e){M:aR}(k:Wk L M):Wk (.bG g T [.slice A (E s.b) c,ah a,ah e]::L) (.bG g T [.slice A (E s'.b) c,ah s'.at_,ah s'.e]::M):=by
 rw[hb,<-ha,<-he];exact k.cons
theorem Wu(ho:cu s)(hb:aM B w0 F 1 (.slice A (E s.b) c) (E s.b) (bv s.b)):
  aZ B w0 238 [br g] (Cv g A c s::F) (λr L=>∃A' c',r= .slice A' s.left c'∧aM B w0 F 1 (.slice A' s.left c') s.left (bv s.rest)∧L=Cv g A c s::F):=by
 have ug:=ho.at_;have hcut:=hb.cut ug;have e:(bv s.b).drop (s.at_*1)=bv s.rest:=by rw[cH,jR];rfl
 rw[e]at hcut;refine fw func238 12 [0] ?_;refine jt ?_;refine bL (bY (i:=s.at_) (size:=1) underlying27 ag rfl rfl rfl aa) rfl (bF ?_);exact⟨_,_,rfl,hcut,rfl⟩
theorem KS(ho:cu s)(hb:aM B w0 F 1 (.slice A (E s.b) c) (E s.b) (bv s.b)):
  aZ B w0 194 [br g] (Cv g A c s::F) (λr L=>r=ah s.left∧L=Cv g A c s::F):=by
 refine fw func194 10 [0] ?_;refine anT ?_;refine be al2 rfl (Wu ho hb) rfl ?_;rintro _ _ ⟨Ar,cr,rfl,DA,cO⟩;obtain rfl:=cO.symm;refine bB ?_;exact⟨rfl,rfl⟩
theorem gW:aZ B w0 175 [br g] (Cv g A c s::F) (λr L=>r=ah s.e∧L=Cv g A c s::F):=by
 refine fw func175 9 [0] ?_;refine ajq ?_;exact⟨rfl,rfl⟩
theorem vI(h:s.e≠0){fv:Value}:aZ B w0 219 [br g,fv] (Cv g A c s::F) (λr L=>r= .bool false∧L=Cv g A c s::F):=by
 refine fw func219 35 [0,1] ?_;refine bO ?_;refine ai rfl (gW) (bE ?_);refine aj (λh9=>?_) λh9=>?_
 ·refine bK ?_;exact⟨rfl,rfl⟩
 ·exfalso;exact h9 h
theorem yG(ho:cu s)(hb:aM B w0 F 1 (.slice A (E s.b) c) (E s.b) (bv s.b))(h0:s.e=0){ff:FuncId}{caps:cZ}{R':aR->Prop}{k:Nat}{er:Int}(aaa:aK Tryz.prog ff)(hk:k<=1099511627776)(wV:∀A' c',aM B w0 F 1 (.slice A' s.left c') s.left (bv s.rest)->aZ B w0 ff (.slice A' s.left c'::caps) (Cv g A c s::F) (λr L=>r= .tuple #[ah k,ah er]∧∃F',R' F'∧L=Cv g A c s::F')):
  aZ B w0 219 [br g,.func (.func ff) #[] caps.toArray] (Cv g A c s::F) (λr L=>r= .bool (decide (er=0))∧∃F',R' F'∧L=Cv g A c (s.eQ k er)::F'):=by
 have ug:=ho.at_;have hlen:=ho.len;refine fw func219 35 [0,1] ?_;refine bO ?_;refine ai rfl (gW) (bE ?_);refine aj (λh9=>?_) λh9=>?_
 ·exfalso;exact h9 h0
 ·refine bK ?_;refine be al2 rfl (Wu ho hb) rfl ?_;rintro _ _ ⟨Ar,cr,rfl,DA,cO⟩;obtain rfl:=cO.symm;refine vz aaa rfl rfl (wV _ _ DA) rfl ?_;rintro _ _ ⟨rfl,F1,hF1,cO⟩;obtain rfl:=cO.symm;refine ei ?_;refine aj (λju=>?_) λju=>?_
  ·refine bI ?_;refine ve [] ?_;refine bK ?_;refine aq (L':=Cv g A c (s.eQ k er)::F1) (Wv (m:=0) (Cs.cQ s k er) (by simp[Cs.eQ,h0,ju]) (by simp[Cs.eQ,h0,ju]) (.refl _)) (aF ?_);exact⟨by rw[oq ju],F1,hF1,rfl⟩
  ·refine jt ?_;refine ve [] ?_;refine bI ?_;have Lw:er=0:=by omega
   refine aq (L':=Cv g A c (s.eQ k er)::F1) (Wv (m:=0) (Cs.cQ s k er) (by simp[Cs.eQ,h0,Lw]) (by simp[Cs.eQ,h0,Lw]) (.refl _)) (aF ?_);exact⟨by rw[oK Lw],F1,hF1,rfl⟩
theorem nQ(er:Int):aZ B w0 174 [br g,ah er] (Cv g A c s::F) (λr L=>r= .tuple #[]∧L=Cv g A c (s.failed er)::F):=by
 refine fw func174 17 [0,1] ?_;refine sR ?_;refine aj (λnY=>?_) λnY=>?_
 ·refine bK ?_;refine aq (L':=Cv g A c (s.failed er)::F) (Wv (m:=0) II II II (.refl _)) (aF ?_);exact⟨rfl,rfl⟩
 ·refine bc ?_;refine aq (L':=Cv g A c (s.failed er)::F) (Wv (m:=0) II II II (.refl _)) (aF ?_);exact⟨rfl,rfl⟩
theorem agD{l:al}(hb:aM B w0 L0 1 (.slice A n c) n (bv l))(hn:n<=1099511627776):aZ B w0 263 [.slice A n c] L0 (λr L=>r= .tuple #[.int .u64 (cR l).1,ah (cR l).2.1,ah (cR l).2.2]∧L=L0):=
 dU.of_same λw hw=>apq w (hb w hw) hn
theorem Mo:∀(l:al) (i acc:Nat),(dx i acc l).2.2≠0->(dx i acc l).1=0∧(dx i acc l).2.1=0:=by
 intro l;induction l with
 |nil=>intro i acc _;exact⟨rfl,rfl⟩
 |cons c r ih=>
  intro i acc h;unfold dx at h⊢;split
  ·exact⟨rfl,rfl⟩
  ·rename_i h1;rw[aw h1]at h;split
   ·rename_i h2;rw[ao h2]at h;exact absurd rfl h
   ·rename_i h2;rw[aw h2]at h;exact ih _ _ h
theorem abo{l:al}(h:(cR l).2.2≠0):(cR l).1=0∧(cR l).2.1=0:=Mo l 0 0 h
theorem qd{l:al}{m:Int}(h:(eM l m).2.2≠0):(eM l m).1=0∧(eM l m).2.1=0:=by
 unfold eM at h⊢;split
 ·exact⟨rfl,rfl⟩
 ·split
  ·exact⟨rfl,rfl⟩
  ·rename_i h1 h2;rw[aw h1,aw h2]at h;exact absurd rfl h
theorem aaX{x0:Value}{l:al}(hb:aM B w0 (.bG h3 60 [x0]::F) 1 (.slice A n c) n (bv l))(hn:n<=1099511627776):
  aZ B w0 320 [.slice A n c,br h3] (C0:: .bG h3 60 [x0]::F) (λr L=>r= .tuple #[ah (cR l).2.1,ah (cR l).2.2]∧L=C0:: .bG h3 60 [.int .u64 (cR l).1]::F):=by
 refine fw func320 13 [0,1] ?_;refine bO ?_;refine ai rfl (agD aB hn) (Bh ?_);exact⟨rfl,rfl⟩
theorem ada(ho:cu s)(hb:aM B w0 F 1 (.slice A (E s.b) c) (E s.b) (bv s.b)):
  aZ B w0 296 [br g] (Cv g A c s::F) (λr L=>r= .int .u64 s.num∧L=Cv g A c s.mz::F):=by
 by_cases h0:s.e=0
 ·have hkb:=(fz s.rest).2.1;rw[ho.rest.1]at hkb;have hlb:=ho.rest.2;refine fw func296 11 [0] ?_;refine bI ?_;refine bh λg3=>?_;refine bB ?_;refine be Wn rfl ((yG (F:=.bG g3 60 [.int .u64 0]::F) ho (aM.cons hb) h0 (caps:=[br g3]) (R':=λF'=>F'= .bG g3 60 [.int .u64 (cR s.rest).1]::F) (k:=(cR s.rest).2.1) (er:=(cR s.rest).2.2) arG aa (λA' c' DA=>(aaX DA aa).mono λr L ⟨h1,h2⟩=>⟨h1,_,rfl,h2⟩)).perm swp) rfl ?_;rintro _ _ ⟨rfl,_,cO,rfl⟩;obtain rfl:=cO.symm;refine bz ?_;refine aj (λh9=>?_) λh9=>?_
  ·refine bI ?_;refine aq (L':=Cv g A c s.mz::F) (.cons (.skip (.refl _))) (aF ?_);exact⟨by simp[Cs.num,h0,(abo (show(cR s.rest).2.2≠0 from h9)).1],rfl⟩
  ·refine bO ?_;refine aq (L':=Cv g A c s.mz::F) (.cons (.skip (.refl _))) (aF ?_);exact⟨by simp[Cs.num,h0],rfl⟩
 ·have e1:s.mz=s:=by simp[Cs.mz,Cs.eQ,h0]
  have e2:s.num=0:=by simp[Cs.num,h0]
  rw[e1,e2];refine fw func296 11 [0] ?_;refine bI ?_;refine bh λg3=>?_;refine bB ?_;refine ai rfl ((vI h0).perm swp) (sR ?_);refine aq (L':=Cv g A c s::F) (.cons (.skip (.refl _))) (aF ?_);exact⟨rfl,rfl⟩
end
section
variable{s:Cs}
theorem C6{P:Prop}(h:P:=by(first|rfl|exact dS (by first|omega|simp_all)|exact dR (by first|omega|simp_all)|exact dG (by first|omega|simp_all)|exact kr (by first|omega|simp_all))):P:=h
theorem zc:type_of% @Nat.add_sub_cancel_left:= @Nat.add_sub_cancel_left
theorem gi:type_of% @Int.eq_ofNat_of_zero_le:= @Int.eq_ofNat_of_zero_le
theorem Dl{a b c:Ch}{L:aR}:(a::b::c::L).Perm (c::a::b::L):=((List.Perm.swap c b L).cons a).trans (.swap c a _)
def aaL(x k:Nat)(er most:Int):Nat×Nat×Int:=if er≠0 then (0,0,er) else if most<0∨most<x then (0,0,6) else (x,k,0)
theorem aoF{x k:Nat}{er most:Int}(h:¬er=0):aaL x k er most=(0,0,er):=ao h
theorem aoG{x k:Nat}{er most:Int}(h:¬¬er=0)(h2:most<0∨most<x):aaL x k er most=(0,0,6):=by unfold aaL;rw[aw h,ao h2]
theorem aoH{x k:Nat}{er most:Int}(h:¬¬er=0)(h2:¬(most<0∨most<x)):aaL x k er most=(x,k,0):=by unfold aaL;rw[aw h,aw h2]
theorem JO{l:al}(hb:aM B w0 L0 1 (.slice A n c) n (bv l))(hn:n<=1099511627776){most:Int}(O_:-9223372036854775808<=most)(uj:most<=9223372036854775807):
  aZ B w0 222 [.slice A n c,ah most] L0 (λr L=>r= .tuple #[ah (eM l most).1,ah (eM l most).2.1,ah (eM l most).2.2]∧L=L0):=by
 have e:eM l most=aaL (cR l).1 (cR l).2.1 (cR l).2.2 most:=rfl;have hs:=agD hb hn;have hf:=(fz l).1;rw[e];clear e;generalize (cR l).1=x at*;generalize (cR l).2.1=k at*;generalize (cR l).2.2=er at*;refine fw func222 30 [0,1] ?_;refine bz ?_;refine ai rfl (hs) (jG ?_);refine aj (λiI=>?_) λiI=>?_
 ·refine bB ?_;refine ve [4,5,6] ?_;refine b7 ?_;refine⟨?_,rfl⟩;rw[aoF iI];try rfl
 ·refine bF ?_;refine bR 8 26 [7,8] (most<0∨most<(x:Int)) ?_ ?_
  ·refine bE ?_;refine aI rfl rfl rfl (λmx=>?_) (λmx=>?_)
   ·refine bK ?_;exact aL C6
   ·refine b7 ?_;exact aL C6
  ·refine bc ?_;refine aj (λqy=>?_) λqy=>?_
   ·refine bz ?_;refine⟨?_,rfl⟩;rw[aoG iI qy];try rfl
   ·refine ei ?_;refine⟨?_,rfl⟩;rw[aoH iI qy];try rfl
theorem aaq{x0:Value}{l:al}{most:Int}(hb:aM B w0 (.bG h5 3 [x0]:: .bG h3 3 [ah most]::F) 1 (.slice A n c) n (bv l))(hn:n<=1099511627776)(O_:-9223372036854775808<=most)(uj:most<=9223372036854775807):
  aZ B w0 221 [.slice A n c,br h3,br h5] (C0:: .bG h5 3 [x0]:: .bG h3 3 [ah most]::F) (λr L=>r= .tuple #[ah (eM l most).2.1,ah (eM l most).2.2]∧L=C0:: .bG h5 3 [ah (eM l most).1]:: .bG h3 3 [ah most]::F):=by
 refine fw func221 15 [0,1,2] ?_;refine bz ?_;refine ai rfl (JO aB hn O_ uj) (Bh ?_);exact⟨rfl,rfl⟩
theorem ja(ho:cu s)(hb:aM B w0 F 1 (.slice A (E s.b) c) (E s.b) (bv s.b)){most:Int}(O_:-9223372036854775808<=most)(uj:most<=9223372036854775807):
  aZ B w0 172 [br g,ah most] (Cv g A c s::F) (λr L=>r=ah (s.int most)∧L=Cv g A c (s.bZ most)::F):=by
 by_cases h0:s.e=0
 ·have hkb:=(jV s.rest most uj).2.1;rw[ho.rest.1]at hkb;have hlb:=ho.rest.2;refine fw func172 13 [0,1] ?_;refine bc ?_;refine bg λg3=>?_;refine bF ?_;refine bh λg5=>?_;refine bB ?_;refine be Wn rfl ((yG (F:=.bG g5 3 [ah 0]:: .bG g3 3 [ah most]::F) ho (aM.cons (aM.cons hb)) h0 (caps:=[br g3,br g5]) (R':=λF'=>F'= .bG g5 3 [ah (eM s.rest most).1]:: .bG g3 3 [ah most]::F) (k:=(eM s.rest most).2.1) (er:=(eM s.rest most).2.2) arj aa (λA' c' DA=>(aaq DA aa O_ uj).mono λr L ⟨h1,h2⟩=>⟨h1,_,rfl,h2⟩)).perm Dl) rfl ?_;rintro _ _ ⟨rfl,_,cO,rfl⟩;obtain rfl:=cO.symm;refine bz ?_;refine aj (λpg=>?_) λpg=>?_
  ·refine bI ?_;refine aq (L':=Cv g A c (s.bZ most)::F) (.cons (.s2 (.refl _))) (aF ?_);exact⟨by simp[Cs.int,h0,(qd (show(eM s.rest most).2.2≠0 from pg)).1],rfl⟩
  ·refine bO ?_;refine aq (L':=Cv g A c (s.bZ most)::F) (.cons (.s2 (.refl _))) (aF ?_);exact⟨by simp[Cs.int,h0],rfl⟩
 ·have e1:s.bZ most=s:=by simp[Cs.bZ,Cs.eQ,h0]
  have e2:s.int most=0:=by simp[Cs.int,h0]
  rw[e1,e2];refine fw func172 13 [0,1] ?_;refine bc ?_;refine bg λg3=>?_;refine bF ?_;refine bh λg5=>?_;refine bB ?_;refine ai rfl ((vI h0).perm Dl) (sR ?_);refine aq (L':=Cv g A c s::F) (.cons (.s2 (.refl _))) (aF ?_);exact⟨rfl,rfl⟩
def GX(l:al)(x k:Nat)(er:Int):al×Nat×Int:=if er≠0 then ([],0,er) else if E l-k<x then ([],0,1) else ((l.drop k).take x,k+x,0)
theorem UQ{l:al}{x k:Nat}{er:Int}(h:¬er=0):GX l x k er=([],0,er):=ao h
theorem UR{l:al}{x k:Nat}{er:Int}(h:¬¬er=0)(h2:E l-k<x):GX l x k er=([],0,1):=by unfold GX;rw[aw h,ao h2]
theorem US{l:al}{x k:Nat}{er:Int}(h:¬¬er=0)(h2:¬(E l-k<x)):GX l x k er=((l.drop k).take x,k+x,0):=by unfold GX;rw[aw h,aw h2]
theorem UT{l:al}{most:Int}(hb:aM B w0 (.bG h5 9 [.string ⟨#[]⟩]:: .bG h3 3 [ah most]::F) 1 (.slice A n c) n (bv l))(hn:n<=1099511627776)(O_:-9223372036854775808<=most)(uj:most<=9223372036854775807):
  aZ B w0 329 [.slice A n c,br h3,br h5] (C0:: .bG h5 9 [.string ⟨#[]⟩]:: .bG h3 3 [ah most]::F) (λr L=>r= .tuple #[ah (kq l most).2.1,ah (kq l most).2.2]∧L=C0:: .bG h5 9 [.string ⟨(kq l most).1.toArray⟩]:: .bG h3 3 [ah most]::F):=by
 refine dU.yw (L:=C0:: .bG h5 9 [.string ⟨#[]⟩]:: .bG h3 3 [ah most]::F) (aM.cons hb) λhc hl=>?_;simp at hl;have e:kq l most=GX l (eM l most).1 (eM l most).2.1 (eM l most).2.2:=rfl;have hs:=JO (B:=B) (w0:=w0) (L0:=C0:: .bG h5 9 [.string ⟨#[]⟩]:: .bG h3 3 [ah most]::F) (l:=l) (aM.cons hb) hn O_ uj;have hf:=jV l most uj;rw[e];clear e;generalize (eM l most).1=x at*;generalize (eM l most).2.1=k at*;generalize (eM l most).2.2=er at*;refine fw func329 37 [0,1,2] ?_;refine bz ?_;refine ai rfl (hs) (sR ?_);refine aj (λlf=>?_) λlf=>?_
 ·refine bF ?_;refine ve [4,5] ?_;refine bF ?_;refine⟨?_,?_⟩
  ·rw[UQ lf];try rfl
  ·rw[UQ lf];try rfl
 ·refine bO ?_;refine ve [0,2,6,7,20] ?_;refine aF ?_;refine aj (λju=>?_) λju=>?_
  ·refine bz ?_;have Lw:E l-k<x:=by omega
   refine⟨?_,?_⟩
   ·rw[UR lf Lw];try rfl
   ·rw[UR lf Lw];try rfl
  ·have hbt:=(hb.jv (k:=k+x) aa).cut (k:=k) aa;have ebt:((bv l).take ((k+x)*1)).drop (k*1)=bv ((l.drop k).take x):=by rw[cH,cH,kD,jR,LP,zc]
   rw[ebt]at hbt;refine bz ?_;refine ab (eJ (i:=k) (j:=k+x) (size:=1) underlying27 ag rfl rfl rfl rfl rfl aa aa) rfl (ab (pT underlying27 underlying5 underlying9 rfl aB) rfl (ei ?_));have Lw:¬(E l-k<x):=by omega
   refine⟨?_,?_⟩
   ·rw[US lf Lw];try rfl
   ·rw[US lf Lw];try rfl
theorem Dt(ho:cu s)(hb:aM B w0 F 1 (.slice A (E s.b) c) (E s.b) (bv s.b)){most:Int}(O_:-9223372036854775808<=most)(uj:most<=9223372036854775807):
  aZ B w0 304 [br g,ah most] (Cv g A c s::F) (λr L=>r= .string ⟨(s.text most).toArray⟩∧L=Cv g A c (s.eT most)::F):=by
 by_cases h0:s.e=0
 ·have hkb:(kq s.rest most).2.1<=E s.rest:=by
   by_cases he:(kq s.rest most).2.2=0
   ·rcases QV s.rest most he with h|h<;>omega
   ·have:(kq s.rest most).2.1=0:=by
     unfold kq at he⊢;split
     ·rfl
     ·rename_i h1;rw[aw h1]at he;split
      ·rfl
      ·rename_i h2;rw[aw h2]at he;exact absurd rfl he
    omega
  rw[ho.rest.1]at hkb;have hlb:=ho.rest.2;refine fw func304 10 [0,1] ?_;refine bc ?_;refine bg λg3=>?_;refine bF ?_;refine bh λg5=>?_;refine bI ?_;refine be Wn rfl ((yG (F:=.bG g5 9 [.string ⟨#[]⟩]:: .bG g3 3 [ah most]::F) ho (aM.cons (aM.cons hb)) h0 (caps:=[br g3,br g5]) (R':=λF'=>F'= .bG g5 9 [.string ⟨(kq s.rest most).1.toArray⟩]:: .bG g3 3 [ah most]::F) (k:=(kq s.rest most).2.1) (er:=(kq s.rest most).2.2) arI aa (λA' c' DA=>(UT DA aa O_ uj).mono λr L ⟨h1,h2⟩=>⟨h1,_,rfl,h2⟩)).perm Dl) rfl ?_;rintro _ _ ⟨rfl,_,cO,rfl⟩;obtain rfl:=cO.symm;refine bO ?_;refine aq (L':=Cv g A c (s.eT most)::F) (.cons (.s2 (.refl _))) (aF ?_);exact⟨by simp[Cs.text,h0],rfl⟩
 ·have e1:s.eT most=s:=by simp[Cs.eT,Cs.eQ,h0]
  have e2:s.text most=[]:=by simp[Cs.text,h0]
  rw[e1,e2];refine fw func304 10 [0,1] ?_;refine bc ?_;refine bg λg3=>?_;refine bF ?_;refine bh λg5=>?_;refine bI ?_;refine ai rfl ((vI h0).perm Dl) (bO ?_);refine aq (L':=Cv g A c s::F) (.cons (.s2 (.refl _))) (aF ?_);exact⟨rfl,rfl⟩
def nm(l:al)(n:Int):al:=if iz l n≠0 then [] else l.take n.toNat
def so(l:al)(n:Int):Nat:=if iz l n≠0 then 0 else n.toNat
def alL(h3 h5:Nat)(l:al)(m:Int)(F F':aR):Prop:=∃A' c',F'= .own 5 1 A' (E (nm l m)) c' (bv (nm l m)):: .bG h5 27 [.slice A' (E (nm l m)) c']:: .bG h3 3 [ah m]::F
theorem UP{l:al}{m:Int}(hb:aM B w0 (.bG h5 27 [.slice none 0 0]:: .bG h3 3 [ah m]::F) 1 (.slice A n c) n (bv l))(hn:n<=1099511627776)(O_:-9223372036854775808<=m)(uj:m<=9223372036854775807):
  aZ B w0 220 [.slice A n c,br h3,br h5] (C0:: .bG h5 27 [.slice none 0 0]:: .bG h3 3 [ah m]::F) (λr L=>r= .tuple #[ah (so l m),ah (iz l m)]∧∃F',alL h3 h5 l m F F'∧L=C0::F'):=by
 refine dU.yw (L:=C0:: .bG h5 27 [.slice none 0 0]:: .bG h3 3 [ah m]::F) (aM.cons hb) λhc hl=>?_;simp at hl;refine fw func220 17 [0,1,2] ?_;refine cY ?_;refine aj (λh7=>?_) λh7=>?_
 ·refine bK ?_;have e1:iz l m=13:=ao h7;have e2:nm l m=[]:=by simp[nm,e1]
  have e3:so l m=0:=by simp[so,e1]
  refine aC 5 1 none (aq (L':=C0:: .own 5 1 none 0 0 []:: .bG h5 27 [.slice none 0 0]:: .bG h3 3 [ah m]::F) (.swap (.refl _)) (aF ?_));exact⟨by rw[e1,e3];try rfl,_,⟨none,0,by rw[e2];try rfl⟩,rfl⟩
 ·obtain⟨q,rfl⟩:=gi (show 0<=m by omega);refine de ?_;refine aj (λpg=>?_) λpg=>?_
  ·refine bK ?_;have e1:iz l q=1:=by unfold iz;rw[aw h7,ao aa]
   have e2:nm l q=[]:=by simp[nm,e1]
   have e3:so l q=0:=by simp[so,e1]
   refine aC 5 1 none (aq (L':=C0:: .own 5 1 none 0 0 []:: .bG h5 27 [.slice none 0 0]:: .bG h3 3 [ah q]::F) (.swap (.refl _)) (aF ?_));exact⟨by rw[e1,e3];try rfl,_,⟨none,0,by rw[e2];try rfl⟩,rfl⟩
  ·have hbt:=hb.jv (k:=q) aa;have ebt:(bv l).take (q*1)=bv (l.take q):=by rw[cH,kD]
   rw[ebt]at hbt;refine bB ?_;refine ab (bV (i:=q) (size:=1) underlying27 ag rfl rfl rfl aa) rfl (ay rfl (mG (l.take q) aB aa) λCe KQ=>de ?_);have e1:iz l q=0:=by unfold iz;rw[aw h7,aw aa]
   have e2:nm l q=l.take q:=by simp[nm,e1]
   have e3:so l q=q:=by simp[so,e1]
   have e4:E (nm l q)=q:=by rw[e2,eY];omega
   refine aq (L':=C0:: .own 5 1 Ce (E (nm l q)) KQ (bv (nm l q)):: .bG h5 27 [.slice Ce (E (nm l q)) KQ]:: .bG h3 3 [ah q]::F) (by rw[e4,e2];exact .swap (.refl _)) (aF ?_);exact⟨by rw[e1,e3],_,⟨Ce,KQ,rfl⟩,rfl⟩
theorem ag4(l:al)(n:Int):so l n<=E l:=by
 unfold so;split
 ·omega
 ·rename_i h;exact(xS ng).2
theorem Yt{s:Cs}{n:Int}(h0:s.e=0):s.take n=nm s.rest n:=by simp[Cs.take,nm,h0]
theorem ag3{s:Cs}{n:Int}:s.cj n=s.eQ (so s.rest n) (iz s.rest n):=by
 unfold Cs.cj Cs.eQ so;split
 ·rfl
 ·split
  ·rfl
  ·rfl
theorem mI(ho:cu s)(hb:aM B w0 F 1 (.slice A (E s.b) c) (E s.b) (bv s.b)){m:Int}(O_:-9223372036854775808<=m)(uj:m<=9223372036854775807):
  aZ B w0 171 [br g,ah m] (Cv g A c s::F) (λr L=>∃A' c',r= .slice A' (E (s.take m)) c'∧L=Cv g A c (s.cj m):: .own 5 1 A' (E (s.take m)) c' (bv (s.take m))::F):=by
 by_cases h0:s.e=0
 ·have hkb:=ag4 s.rest m;rw[ho.rest.1]at hkb;have hlb:=ho.rest.2;rw[Yt h0,ag3];refine fw func171 10 [0,1] ?_;refine bc ?_;refine bg λg3=>?_;refine bF ?_;refine bh λg5=>?_;refine bB ?_;refine be Wn rfl ((yG (F:=.bG g5 27 [.slice none 0 0]:: .bG g3 3 [ah m]::F) ho (aM.cons (aM.cons hb)) h0 (caps:=[br g3,br g5]) (R':=alL g3 g5 s.rest m F) (k:=so s.rest m) (er:=iz s.rest m) ari aa (λA' c' DA=>UP DA aa O_ uj)).perm Dl) rfl ?_;rintro _ _ ⟨rfl,_,⟨A8,c8,cO⟩,rfl⟩;obtain rfl:=cO.symm;refine bO ?_;refine aq (L':=Cv g A c (s.eQ (so s.rest m) (iz s.rest m)):: .own 5 1 A8 (E (nm s.rest m)) c8 (bv (nm s.rest m))::F) (.cons (.cons (.s2 (.refl _)))) (aF ?_);exact⟨A8,c8,rfl,rfl⟩
 ·have e1:s.cj m=s:=by simp[Cs.cj,Cs.eQ,h0]
  have e2:s.take m=[]:=by simp[Cs.take,h0]
  rw[e1,e2];refine fw func171 10 [0,1] ?_;refine bc ?_;refine bg λg3=>?_;refine bF ?_;refine bh λg5=>?_;refine bB ?_;refine ai rfl ((vI h0).perm Dl) (bO ?_);refine aC 5 1 none (aq (L':=Cv g A c s:: .own 5 1 none 0 0 []::F) (.swap (.cons (.swap (.skip (.swap (.skip (.refl _))))))) (aF ?_));exact⟨none,0,rfl,rfl⟩
theorem abE(s:Cs):E (s.take 1)<=1:=by
 unfold Cs.take;split
 ·simp
 ·split
  ·simp
  ·simp only[eY];exact Nat.min_le_left _ _
theorem o_(ho:cu s)(hb:aM B w0 F 1 (.slice A (E s.b) c) (E s.b) (bv s.b)):
  aZ B w0 173 [br g] (Cv g A c s::F) (λr L=>r= .int .u8 (s.byte.toNat:Int)∧L=Cv g A c s.e_::F):=by
 have h1:=abE s;have eb:s.byte=((s.take 1).head?).getD 0:=rfl;have eb':s.e_=s.cj 1:=rfl;rw[eb,eb'];refine fw func173 12 [0] ?_;refine bO ?_;refine ay rfl (mI ho hb (m:=1) aa aa) λA5 c5=>bz ?_;refine aj (λh8=>?_) λh8=>?_
 ·refine bE ?_;refine ab (aE (i:=0) (size:=1) underlying27 ag rfl rfl rfl aa aB) rfl (bB ?_);refine aq (L':=Cv g A c (s.cj 1)::F) (.cons (.skip (.refl _))) (aF ?_);exact⟨by simp[List.getD,List.head?_eq_getElem?],rfl⟩
 ·refine bK ?_;refine aq (L':=Cv g A c (s.cj 1)::F) (.cons (.skip (.refl _))) (aF ?_);have e0:s.take 1=[]:=mS aa;exact⟨by rw[e0];rfl,rfl⟩
theorem nC{l:al}(hb:fo B w0 F A c l)(hl:E l<=1099511627776):
  aZ B w0 109 [.slice A (E l) c] F (λr L=>∃g A' c',r=br g∧L=Cv g A' c' ⟨l,0,0⟩:: .own 5 1 A' (E l) c' (bv l)::F):=by
 refine fw func109 8 [0] ?_;refine bK ?_;refine ay rfl (mG l hb hl) λA4 c4=>ab (bx [(0,_)] [.slice none 0 0,ah 0] [0] [_,_] rfl rfl ag) rfl (ab (bx [(0,_)] [.slice none 0 0,ah 0,ah 0] [0] [_,_,_] rfl rfl ag) rfl (bg λg7=>?_));refine bF ?_;exact⟨g7,A4,c4,rfl,rfl⟩
end
theorem Cs.PX{s:Cs}(h:s.e=0){k:Nat}{e:Int}(hk:e≠0->k=0):s.eQ k e=⟨s.b,s.at_+k,e⟩:=by
 unfold Cs.eQ;rw[aw IN];split
 ·rename_i he;rw[hk he];rfl
 ·rename_i he;have:e=0:=by simpa using he
  rw[this,<-h]
theorem Cs.TH{s:Cs}(h:s.e=0)(m:Int):s.int m=(eM s.rest m).1∧s.bZ m=⟨s.b,s.at_+(eM s.rest m).2.1,(eM s.rest m).2.2⟩:=⟨by simp[Cs.int,h],Cs.PX h λhe=>(qd he).2⟩
theorem ag6{l:al}{x k:Nat}{er:Int}(h:(GX l x k er).2.2≠0):(GX l x k er).1=[]∧(GX l x k er).2.1=0:=by
 unfold GX at h⊢;split
 ·exact⟨rfl,rfl⟩
 ·split
  ·exact⟨rfl,rfl⟩
  ·rename_i h1 h2;rw[aw h1,aw h2]at h;exact absurd rfl h
theorem Cs.alc{s:Cs}(h:s.e=0)(m:Int):s.text m=(kq s.rest m).1∧s.eT m=⟨s.b,s.at_+(kq s.rest m).2.1,(kq s.rest m).2.2⟩:=⟨by simp[Cs.text,h],Cs.PX h λhe=>(ag6 he).2⟩
theorem Cs.bad{s:Cs}(h:¬s.e=0):s.num=0∧s.mz=s∧(∀m,s.int m=0∧s.bZ m=s∧s.text m=[]∧s.eT m=s∧s.take m=[]∧s.cj m=s):=by
 refine⟨by simp[Cs.num,h],by simp[Cs.mz,Cs.eQ,h],λm=>⟨by simp[Cs.int,h],by simp[Cs.bZ,Cs.eQ,h],by simp[Cs.text,h],by simp[Cs.eT,Cs.eQ,h],by simp[Cs.take,h],by simp[Cs.cj,Cs.eQ,h]⟩⟩
theorem Ny{P:Prop}(h:P:=by(simp[h0])):P:=h
theorem Ns{P:Prop}(h:P:=by(simpa using he)):P:=h
theorem Cs.BE{s:Cs}(h:s.e=0)(n:Nat){er:Int}(he:er≠0):s.eQ n er={s with e:=er}:=by unfold Cs.eQ;rw[aw IN,ao he]
theorem Cs.vf{s:Cs}(h:s.e=0)(n:Nat):s.eQ n 0={s with at_:=s.at_+n}:=by unfold Cs.eQ;rw[aw IN,aw ak]
theorem Cs.BF{s:Cs}(h:s.e≠0)(n:Nat)(er:Int):s.eQ n er=s:=by unfold Cs.eQ;rw[ao h]
theorem ofNat_toNat(c:UInt8)(n:Nat)(h:n=c.toNat):UInt8.ofNat n=c:=by subst h;simp
theorem Mn:∀(l:al) (i acc:Nat),(dx i acc l).2.2=0->
  ∃y,(dx i acc l).1=acc+y*128^i∧i<=(dx i acc l).2.1∧aS y=l.take ((dx i acc l).2.1-i)∧(0<i->0<y)∧(dx i acc l).2.1<=i+E l:=by
 intro l;induction l with
 |nil=>intro i acc h;simp[dx]at h
 |cons c r ih=>
  intro i acc h;unfold dx at h⊢;by_cases h1:i=9∧c.toNat≠1∨0<i∧c.toNat=0
  ·rw[ao h1]at h;simp at h
  ·rw[aw h1]at h⊢;by_cases h2:c.toNat<128
   ·rw[ao h2];refine⟨c.toNat,?_,ak,?_,aa,acD⟩
    ·show acc+c.toNat%128*128^i=_;rw[jh h2]
    ·show aS c.toNat=List.take (i+1-i) (c::r);rw[pd h2,zc];simp
   ·rw[aw h2]at h⊢;obtain⟨y,e1,e2,e3,e4,e5⟩:=ih _ _ h;have hy:=e4 aa;refine⟨c.toNat%128+128*y,?_,aa,?_,aa,acD⟩
    ·rw[e1,jM,kz,Pk];congr 2;rw[jL (128^i) 128,<-mT,jL y 128]
    ·rw[vK aa];have hc:=c.toNat_lt;rw[show(c.toNat%128+128*y)/128=y by omega,e3,ofNat_toNat c _ aa];generalize hN:(dx (i+1) (acc+c.toNat%128*128^i) r).2.1=N at*;rw[show N-i=(N-(i+1))+1 by omega,r7]
theorem wi{l:al}(h:(cR l).2.2=0):aS (cR l).1=l.take (cR l).2.1:=by
 obtain⟨y,e1,_,e3,_⟩:=Mn l 0 0 h;have:(cR l).1=y:=by unfold cR;rw[e1];simp
 rw[this,e3];rfl
theorem Is(r:al):∀(n y i acc:Nat),y<=n->y*128^i<18446744073709551616->(0<i->0<y)->
  dx i acc (aS y++r)=(acc+y*128^i,i+E (aS y),0):=by
 intro n;induction n with
 |zero=>
  intro y i acc hy h h0;have hy0:y=0:=by omega
  subst hy0;have hi:i=0:=by
   rcases xF i with h'|h'
   ·exact h'
   ·exact absurd (h0 h') aa
  subst hi;rw[pd aa];simp[dx]
 |succ n ih=>
  intro y i acc hy h h0;have hi9:i<=9:=by
   rcases uW 9 i with h'|h'
   ·exfalso;have h1:(128:Nat)^10<=128^i:=gJ aa aa;have e:(128:Nat)^10=1180591620717411303424:=by decide+kernel
    rw[e]at h1;have h2:1*128^i<=y*128^i:=ph _ (h0 aa);omega
   ·exact h'
  have e9:(128:Nat)^9=9223372036854775808:=by decide+kernel
  have hy9:i=9->y=1:=by
   intro hi;rw[hi,e9]at h;have:=h0 aa;omega
  by_cases fN:y<128
  ·rw[pd fN];have hu:=u8n y aa;show dx i acc (UInt8.ofNat y::r)=_;unfold dx;rw[hu,aw aa,ao fN,jh fN];rfl
  ·rw[vK aa];have hu:=u8n (128+y%128) aa;show dx i acc (UInt8.ofNat (128+y%128)::(aS (y/128)++r))=_;unfold dx;rw[hu,aw aa,aw aa,show(128+y%128)%128=y%128 by omega];have hd:y=y%128+128*(y/128):=by omega
   have hm:y*128^i=y%128*128^i+y/128*128^(i+1):=by
    conv=>lhs;rw[hd,kz]
    rw[jM,jL (128^i) 128,<-mT,jL (y/128) 128]
   rw[ih (y/128) (i+1) _ aa aa aa,hm];simp only[dI];rw[show acc+y%128*128^i+y/128*128^(i+1)=acc+(y%128*128^i+y/128*128^(i+1)) by omega,show i+1+E (aS (y/128))=i+(E (aS (y/128))+1) by omega]
theorem th(x:Nat)(hx:x<18446744073709551616)(r:al):cR (aS x++r)=(x,E (aS x),0):=by
 have:=Is r x x 0 0 (gC _) (by simpa using hx) aa;simpa[cR]using this
theorem Cs.Mb{s:Cs}(h:s.mz.e=0):s.e=0∧(cR s.rest).2.2=0∧s.num=(cR s.rest).1∧s.mz={s with at_:=s.at_+(cR s.rest).2.1}:=by
 unfold Cs.mz at h⊢;by_cases h0:s.e=0
 ·by_cases he:(cR s.rest).2.2=0
  ·rw[he,Cs.vf h0];exact⟨h0,rfl,by unfold Cs.num;rw[aw Ny],rfl⟩
  ·rw[Cs.BE h0 _ he]at h;exact absurd h he
 ·rw[Cs.BF h0]at h;exact absurd h h0
theorem Cs.ajb{s:Cs}(h:s.yR.e=0):s.e=0∧s.left=0:=by
 unfold Cs.yR at h;split at h
 ·unfold Cs.failed at h;split at h
  ·exact absurd h ak
  ·rename_i h1 h2;exact absurd h h2
 ·exact⟨h,aa⟩
theorem LW(a b:al):ji (a++b)=ji a+256^(E a)*ji b:=by
 induction a with
 |nil=>simp[ji]
 |cons c r ih=>
  simp only[mX,ji,ih,dI,jM];rw[uU,Pk];congr 2;rw[<-mT,jL 256]
theorem FJ(x:Nat):∀k,ji (fR x k)=x%2^(8*k):=by
 intro k;induction k with
 |zero=>simp[fR,ji,Nat.mod_one]
 |succ k ih=>
  have e7:(256:Nat)^k=2^(8*k):=by rw[show(256:Nat)=2^8 from rfl,<-Nat.pow_mul]
  rw[fR,LW,ih,qI,e7];simp only[ji,Nat.mul_zero,sX];rw[u8n _ (rZ _ aa),show 8*(k+1)=8*k+8 by omega,Nat.pow_add,Nat.mod_mul]
theorem Cs.aoS{s:Cs}{x:Nat}{r:al}(h0:s.e=0)(hx:x<18446744073709551616)(hr:s.rest=aS x++r):
  s.num=x∧s.mz={s with at_:=s.at_+E (aS x)}:=by
 unfold Cs.num Cs.mz;rw[hr,th x hx r,aw Ny];exact⟨rfl,Cs.vf h0 _⟩
theorem Cs.wh{s:Cs}{a r:al}{n:Nat}(hr:s.rest=a++r)(hn:n=E a):Cs.rest {s with at_:=s.at_+n}=r:=by
 unfold Cs.rest at hr⊢;show s.b.drop (s.at_+n)=r;rw[<-oi,hr,hn,CF]
theorem Cs.alb{s:Cs}{t r:al}(h0:s.e=0){most:Int}(ht:(E t:Int)<=most)(hm:most<=9223372036854775807)(hr:s.rest=fD t++r):
  s.text most=t∧s.eT most={s with at_:=s.at_+E (fD t)}:=by
 have hs:cR (fD t++r)=(E t,E (aS (E t)),0):=by
  unfold fD;rw[bX];exact th _ aa _
 have hl:eM (fD t++r) most=(E t,E (aS (E t)),0):=by
  unfold eM;rw[hs];simp only[ne_eq,not_true_eq_false,if_false];rw[aw aa]
 have hx:kq (fD t++r) most=(t,E (aS (E t))+E t,0):=by
  unfold kq;rw[hl];simp only[ne_eq,not_true_eq_false,if_false];rw[aw (by simp only[fD,aX];omega)];have e1:(fD t++r).drop (E (aS (E t)))=t++r:=by unfold fD;rw[bX,CF]
  rw[e1,zh]
 unfold Cs.text Cs.eT;rw[hr,hx,aw Ny];refine⟨rfl,?_⟩;rw[Cs.vf h0];simp[fD]
theorem Cs.ak_{s:Cs}{t r:al}(h0:s.e=0){n:Int}(hn:n=E t)(hr:s.rest=t++r):
  s.take n=t∧s.cj n={s with at_:=s.at_+E t}:=by
 have ht:iz (t++r) n=0:=by
  unfold iz;rw[aw aa,aw bT]
 unfold Cs.take Cs.cj;rw[hr,ht,aw Ny,aw ak,hn,oo,zh];exact⟨rfl,Cs.vf h0 _⟩
theorem Cs.adF{s:Cs}(h0:s.e=0)(hr:s.rest=[]):s.yR.e=0:=by
 unfold Cs.yR;have:s.left=0:=by
  have:=dQ List.length hr;simp[Cs.rest]at this;unfold Cs.left;omega
 rw[aw aa];exact h0
structure oE(s s':Cs)(p:al):Prop where
 e0:s.e=0
 eq:s'=⟨s.b,s.at_+E p,0⟩
 rest:s.rest=p++s'.rest
theorem oE.e1{s s':Cs}{p:al}(h:oE s s' p):s'.e=0:=by rw[h.eq]
theorem oE.nil{s:Cs}(h:s.e=0):oE s s []:=⟨h,by cases s;simp at h;simp[h],rfl⟩
theorem oE.trans{s s' s'':Cs}{p q:al}(h:oE s s' p)(k:oE s' s'' q):oE s s'' (p++q):=by
 refine⟨h.e0,?_,by rw[h.rest,k.rest,bX]⟩;rw[k.eq,h.eq,aX,Pk]
theorem oE.zB{s:Cs}{k:Nat}{er:Int}{p:al}(h:(s.eQ k er).e=0)(hp:er=0->p=s.rest.take k)(hk:er=0->k<=E s.rest):er=0∧oE s (s.eQ k er) p:=by
 by_cases h0:s.e=0
 ·by_cases he:er=0
  ·subst he;have e1:=hp rfl;have e2:=hk rfl;have hl:E p=k:=by rw[e1,eY];omega
   rw[Cs.vf h0];refine⟨rfl,h0,by rw[hl,<-h0],?_⟩;rw[e1];show s.rest=s.rest.take k++s.b.drop (s.at_+k);rw[<-oi];exact(jd k s.rest).symm
  ·rw[Cs.BE h0 _ he]at h;exact absurd h he
 ·rw[Cs.BF h0]at h;exact absurd h h0
theorem oE.cM{s s':Cs}{p r:al}(h:oE s s' p)(hr:s.rest=p++r):s'.rest=r:=by
 have:=h.rest;rw[hr]at this;exact(List.append_cancel_left this).symm
theorem Cs.akf{s:Cs}(h:s.mz.e=0):oE s s.mz (aS s.num)∧s.num<18446744073709551616:=by
 have h0:=(Cs.Mb h).1;have h2:=(Cs.Mb h).2.1;have h3:=(Cs.Mb h).2.2.1;exact⟨(oE.zB h (λ_=>by rw[h3,wi h2]) (λ_=>(fz _).2.1)).2,by rw[h3];exact(fz _).1⟩
theorem Cs.XO{s:Cs}{x:Nat}{r:al}(h0:s.e=0)(hx:x<18446744073709551616)(hr:s.rest=aS x++r):s.num=x∧oE s s.mz (aS x):=by
 obtain⟨h1,h2⟩:=Cs.aoS h0 hx hr;refine⟨h1,h0,by rw[h2,h0],?_⟩;rw[h2,Cs.wh hr rfl,hr]
theorem Xz{l:al}{m:Int}(h:(eM l m).2.2=0):(cR l).2.2=0∧eM l m=((cR l).1,(cR l).2.1,0)∧((cR l).1:Int)<=m:=by
 unfold eM at h⊢;by_cases h1:(cR l).2.2≠0
 ·rw[ao h1]at h;exact absurd h h1
 ·rw[aw h1]at h⊢;by_cases h2:m<0∨m<(cR l).1
  ·rw[ao h2]at h;simp at h
  ·rw[aw h2]at h⊢;exact⟨D9,rfl,aa⟩
theorem Cs.FW{s:Cs}{k:Nat}{er:Int}(h:(s.eQ k er).e=0):s.e=0∧er=0:=by
 by_cases h0:s.e=0
 ·by_cases he:er=0
  ·exact⟨h0,he⟩
  ·rw[Cs.BE h0 _ he]at h;exact absurd h he
 ·rw[Cs.BF h0]at h;exact absurd h h0
theorem Cs.LJ{s:Cs}{m:Int}(h:(s.bZ m).e=0):oE s (s.bZ m) (aS (s.int m))∧(s.int m:Int)<=m∧s.int m<18446744073709551616:=by
 obtain⟨h0,he⟩:=Cs.FW h;obtain⟨h1,h2,h3⟩:=Xz he;have hi:s.int m=(cR s.rest).1:=by rw[(Cs.TH h0 m).1,h2]
 refine⟨(oE.zB h (λ_=>by rw[hi,wi h1,h2]) (λ_=>by rw[h2];exact(fz _).2.1)).2,by rw[hi];exact h3,by rw[hi];exact(fz _).1⟩
theorem Cs.iT{s:Cs}{x:Nat}{r:al}(h0:s.e=0){m:Int}(hx:(x:Int)<=m)(hm:m<=9223372036854775807)(hr:s.rest=aS x++r):s.int m=x∧oE s (s.bZ m) (aS x):=by
 have hs:=th x aa r;have hl:eM s.rest m=(x,E (aS x),0):=by
  unfold eM;rw[hr,hs];simp only[ne_eq,not_true_eq_false,if_false];rw[aw aa]
 have h2:=(Cs.TH h0 m).2;rw[hl]at h2;refine⟨by rw[(Cs.TH h0 m).1,hl],h0,h2,?_⟩;rw[h2,hr];congr 1;exact(Cs.wh hr rfl).symm
theorem Cs.zQ{s:Cs}{m:Int}(h:(s.eT m).e=0):oE s (s.eT m) (fD (s.text m))∧(E (s.text m):Int)<=m:=by
 obtain⟨h0,he⟩:=Cs.FW h;have e:kq s.rest m=GX s.rest (eM s.rest m).1 (eM s.rest m).2.1 (eM s.rest m).2.2:=rfl;rw[e]at he;by_cases hl:(eM s.rest m).2.2=0
 ·obtain⟨h1,h2,h3⟩:=Xz hl;by_cases hx:E s.rest-(eM s.rest m).2.1<(eM s.rest m).1
  ·rw[UR wM hx]at he;simp at he
  ·have e2:=US (l:=s.rest) (x:=(eM s.rest m).1) (k:=(eM s.rest m).2.1) (er:=(eM s.rest m).2.2) wM hx;rw[<-e,h2]at e2;rw[h2]at hx;simp only at e2 hx;have hk:=(fz s.rest).2.1;have ht:s.text m=(s.rest.drop (cR s.rest).2.1).take (cR s.rest).1:=by rw[(Cs.alc h0 m).1,e2]
   have De:E (s.text m)=(cR s.rest).1:=by rw[ht,eY,iG];omega
   refine⟨(oE.zB h (λ_=>?_) (λ_=>by rw[e2];simp only;omega)).2,by rw[De];exact h3⟩;rw[fD,De,wi h1,ht,e2];simp only;rw[List.take_add]
 ·rw[UQ hl]at he;exact absurd he hl
theorem Cs.sp{s:Cs}{t r:al}(h0:s.e=0){m:Int}(ht:(E t:Int)<=m)(hm:m<=9223372036854775807)(hr:s.rest=fD t++r):s.text m=t∧oE s (s.eT m) (fD t):=by
 obtain⟨h1,h2⟩:=Cs.alb h0 ht hm hr;refine⟨h1,h0,by rw[h2,h0],?_⟩;rw[h2,Cs.wh hr rfl,hr]
theorem Cs.QT{s:Cs}{n:Int}(h:(s.cj n).e=0):oE s (s.cj n) (s.take n)∧E (s.take n)=n.toNat∧0<=n:=by
 obtain⟨h0,he⟩:=Cs.FW h;have ht:=xS he;have e:s.take n=s.rest.take n.toNat:=by rw[Yt h0,nm,aw Ns]
 exact⟨(oE.zB h (λ_=>e) (λ_=>ht.2)).2,by rw[e,eY];omega,ht.1⟩
theorem Cs.mZ{s:Cs}{t r:al}(h0:s.e=0){n:Int}(hn:n=E t)(hr:s.rest=t++r):s.take n=t∧oE s (s.cj n) t:=by
 obtain⟨h1,h2⟩:=Cs.ak_ h0 hn hr;refine⟨h1,h0,by rw[h2,h0],?_⟩;rw[h2,Cs.wh hr rfl,hr]
theorem Cs.acX{s:Cs}(h:s.e_.e=0):oE s s.e_ [s.byte]:=by
 obtain⟨h1,h2,_⟩:=Cs.QT h;have h3:E (s.take 1)=1:=h2;obtain⟨c,hc⟩:=List.length_eq_one_iff.1 h3;have:s.byte=c:=by unfold Cs.byte;rw[hc];rfl
 rw[this,<-hc];exact h1
theorem Cs.mE{s:Cs}{c:UInt8}{r:al}(h0:s.e=0)(hr:s.rest=c::r):s.byte=c∧oE s s.e_ [c]:=by
 obtain⟨h1,h2⟩:=Cs.mZ (t:=[c]) (n:=1) h0 rfl hr;exact⟨by unfold Cs.byte;rw[h1];rfl,h2⟩
theorem adC(x:Nat):1<=E (aS x):=by
 by_cases h:128<=x
 ·rw[vK h];simp
 ·rw[pd aa];simp
theorem Ox(t:al):1<=E (fD t):=by
 have:=adC (E t);unfold fD;rw[aX];omega
def Nb(b:al):al×Int:=l6 (jJ b)
def abu(b:al):Prop:=(Nb b).2=0∧E (Nb b).1<E b
instance (b:List UInt8):Decidable (abu b):=inferInstanceAs (Decidable (_∧_))
def kP(b:al)(plain:Bool):UInt8×al:=if plain=false∧abu b then (1,(Nb b).1) else (0,b)
def yr(b:al)(plain:Bool):al:=(kP b plain).1::(aS (E b)++aS (E (kP b plain).2))
def jY(b:al)(plain:Bool):al×Int:=if 32768<E b then ([],6) else (cv (yr b plain++(kP b plain).2),0)
def WR(b:al):Cs:=if 1<(Cs.byte ⟨b,0,0⟩).toNat then (Cs.e_ ⟨b,0,0⟩).failed 2 else Cs.e_ ⟨b,0,0⟩
def frN(b:al):Nat:=(WR b).int 32768
def fr2(b:al):Cs:=(WR b).bZ 32768
def Bd(b:al):Nat:=(fr2 b).int 32768
def Hs(b:al):Cs:=if 1032*Bd b+64<frN b then ((fr2 b).bZ 32768).failed 6 else (fr2 b).bZ 32768
def RE(b:al):al:=(Hs b).take (Bd b)
def ZT(b:al):Cs:=((Hs b).cj (Bd b)).cj 4
def yV(b:al):Cs:=if (ZT b).e≠0 then ZT b else (ZT b).failed (aH (b.take (ZT b).at_)).2
noncomputable def OL(way n p:Nat)(body:al):al×Int:=
 if way=0 then (if n≠p then ([],2) else (body,0))
 else if (fU body n).2≠0 then ([],(fU body n).2)
 else if (k_ (fU body n).1 n).2≠0 then ([],(k_ (fU body n).1 n).2)
 else if E (k_ (fU body n).1 n).1<n then ([],2) else ((k_ (fU body n).1 n).1,0)
noncomputable def M1(b:al):al×Int:=OL (Cs.byte ⟨b,0,0⟩).toNat (frN b) (Bd b) (RE b)
noncomputable def dP(b:al):al×Nat×Int:=
 if (yV b).e≠0 then ([],0,(yV b).e) else if (M1 b).2≠0 then ([],0,(M1 b).2) else ((M1 b).1,(yV b).at_,0)
theorem yu(b:al)(plain:Bool):E (kP b plain).2<=E b:=by
 unfold kP;split
 ·rename_i h;exact Nat.le_of_lt h.2.2
 ·exact gC _
theorem ZS(b:al):E (jJ b)<=E b:=by
 have:=E0 b (E b) 0 (bU _);unfold jJ;omega
theorem abL{l:List bS}{t:bS}(hm:∀t∈l,fm t)(ht:t∈l):max 1 t.2.1<=129*(E (wH (fA l) (iB l) t):Int):=by
 have hc:=Ep ht;have fy:=hm t ht;have fN:(bN t).1<265:=by
  by_cases h0:t.2.1=0
  ·rw[(vX fy h0).1];have:=r' t.1;simp only;omega
  ·have:=(ou fy h0).2.1;omega
 have h1:=ll (o:=KW l) (N:=265) aa fN hc;have e1:((fA l).getD (bN t).1 0).toNat≠0:=h1;unfold wH;rw[aX,nE];by_cases h0:t.2.1=0
 ·rw[h0];simp only[show max (1:Int) 0=1 from rfl];omega
 ·obtain⟨k1,k2,k3,k4,k5,k6,k7,k8⟩:=ou fy h0;have hf:=En ht (by omega:256<(bN t).1);have h2:((iB l).getD (bN t).2.2.1 0).toNat≠0:=ll (o:=xn l) (N:=12) aa aa hf;rw[aw aa,aX,aX,nE];unfold fm at fy;rw[aw h0]at fy;omega
theorem G2{l:List bS}(hm:∀t∈l,fm t):∀ts:List bS,(∀t∈ts,t∈l)->gZ ts<=129*(E (np (fA l) (iB l) ts):Int)
 |[],_=>by
  have e:gZ []=0:=rfl;omega
 |t::ts,h=>by
  have e:gZ (t::ts)=max 1 t.2.1+gZ ts:=rfl;rw[xW,aX,e];have h1:=abL hm (h t ak);have h2:=G2 hm ts λu hu=>h u (by simp[hu]);omega
theorem zF(t:bS)(r:List bS):gZ (t::r)=max 1 t.2.1+gZ r:=rfl
theorem BN(most:Int):∀(l:List bS) (out:al),(iv most out l).2=0->(E (iv most out l).1:Int)=E out+gZ l
 |[],out,_=>by simp[iv,gZ]
 |t::r,out,h=>by
  unfold iv at h⊢;split
  ·rename_i hc;rw[ao hc]at h;simp at h
  ·rename_i hc;rw[aw hc]at h;have fy:fm t:=jN.1 hc;split
   ·rename_i h1;rw[ao h1]at h;simp at h
   ·rename_i h1;rw[aw h1]at h;split
    ·rename_i h2;rw[ao h2]at h;simp at h
    ·rename_i h2;rw[aw h2]at h;split
     ·rename_i h3;rw[ao h3]at h;have:=BN most r _ h;rw[this,zF,h3];simp;omega
     ·rename_i h3;rw[aw h3]at h;have:=BN most r _ h;rw[this,pq];unfold fm at fy;rw[aw h3]at fy;rw[zF];have:=ov r;omega
theorem abw{b:al}(h:(Nb b).2=0):E b<=1032*E (Nb b).1+64:=by
 have hm:∀t∈jJ b,fm t:=yT b (E b) 0;have mP:=BN (E b) (jJ b) [] (by
  have:=xN b (E b) (Int.le_refl _);unfold k_ at this;rw[aw aa]at this;rw[this])
 have M5:=xN b (E b) (Int.le_refl _);unfold k_ at M5;rw[aw aa]at M5;rw[M5]at mP;unfold Nb l6 at h⊢;by_cases h1:32768<E (jJ b)
 ·rw[ao h1]at h;simp at h
 ·rw[aw h1]at h⊢;rw[ao hm];have av2:=G2 hm (jJ b) λt ht=>ht;have Am:=dO (qZ (jJ b));have:E (np (fA (jJ b)) (iB (jJ b)) (jJ b))<=E (qZ (jJ b)):=by unfold qZ;simp only[aX];omega
  simp only at mP⊢;rw[Am];simp only[sY]at mP;omega
theorem Zd(b:al)(plain:Bool)(hb:E b<=32768)(r:al){x:al}(hx:x=(jY b plain).1++r):
  (Cs.byte ⟨x,0,0⟩)=(kP b plain).1∧frN x=E b∧Bd x=E (kP b plain).2∧RE x=(kP b plain).2∧yV x=⟨x,E (jY b plain).1,0⟩:=by
 have hyl:=yu b plain;have Pc:Cs.rest ⟨x,0,0⟩=(kP b plain).1::(aS (E b)++(aS (E (kP b plain).2)++((kP b plain).2++(jP (ma 0 (yr b plain++(kP b plain).2))++r)))):=by
  unfold Cs.rest;rw[rr,hx];unfold jY;rw[aw aa];unfold cv yr;simp[bX]
 obtain⟨b1,d1⟩:=Cs.mE (s:=⟨x,0,0⟩) rfl Pc;have h1:(kP b plain).1.toNat<=1:=by
  unfold kP;split
  ·exact(by decide:(1:UInt8).toNat<=1)
  ·exact(by decide:(0:UInt8).toNat<=1)
 have e1:WR x=Cs.e_ ⟨x,0,0⟩:=by unfold WR;rw[b1,aw aa]
 have r1:=d1.cM (p:=[(kP b plain).1]) Pc;obtain⟨n1,d2⟩:=Cs.iT (m:=32768) d1.e1 aa aa r1;have r2:=d2.cM r1;obtain⟨p1,d3⟩:=Cs.iT (m:=32768) d2.e1 aa aa r2;have r3:=d3.cM r2;have eN:frN x=E b:=by unfold frN;rw[e1];exact n1
 have e2:fr2 x=(Cs.e_ ⟨x,0,0⟩).bZ 32768:=by unfold fr2;rw[e1]
 have eP:Bd x=E (kP b plain).2:=by unfold Bd;rw[e2];exact p1
 have avd:E b<=1032*E (kP b plain).2+64:=by
  unfold kP;split
  ·rename_i h;exact abw h.2.1
  ·simp only;omega
 have e3:Hs x=((Cs.e_ ⟨x,0,0⟩).bZ 32768).bZ 32768:=by unfold Hs;rw[eP,eN,aw aa,e2]
 obtain⟨t1,d4⟩:=Cs.mZ (n:=(E (kP b plain).2:Nat)) d3.e1 rfl r3;have r4:=d4.cM r3;obtain⟨t2,d5⟩:=Cs.mZ (n:=4) d4.e1 rfl r4;have eB:RE x=(kP b plain).2:=by unfold RE;rw[e3,eP];exact t1
 have e4:ZT x=(((((Cs.e_ ⟨x,0,0⟩).bZ 32768).bZ 32768).cj (E (kP b plain).2:Nat)).cj 4):=by unfold ZT;rw[e3,eP]
 have kU:=(((d1.trans d2).trans d3).trans d4).trans d5;have hlen:E (jY b plain).1=E ([(kP b plain).1]++aS (E b)++aS (E (kP b plain).2)++(kP b plain).2++jP (ma 0 (yr b plain++(kP b plain).2))):=by
  unfold jY;rw[aw aa];unfold cv yr;simp[bX]
 have e4':ZT x=⟨x,E (jY b plain).1,0⟩:=by
  rw[e4,kU.eq,<-hlen];simp
 have hcut:aH (x.take (E (jY b plain).1))=(yr b plain++(kP b plain).2,0):=by
  rw[hx,zh];unfold jY;rw[aw aa];exact iq _
 refine⟨b1,eN,eP,eB,?_⟩;unfold yV;rw[e4'];simp only;rw[aw ak,hcut];rfl
theorem NG(b:al)(plain:Bool)(hb:E b<=32768)(r:al):dP ((jY b plain).1++r)=(b,E (jY b plain).1,0):=by
 obtain⟨x,hx⟩:=cK ((jY b plain).1++r);obtain⟨h1,h2,h3,h4,h5⟩:=Zd b plain hb r hx;rw[<-hx];have hy:M1 x=(b,0):=by
  unfold M1;rw[h1,h2,h3,h4];unfold OL kP;by_cases hs:plain=false∧abu b
  ·rw[ao hs];simp only;have hm:∀t∈jJ b,fm t:=yT b (E b) 0;have mP:=Ba b (E b) 0 (bU _);have hsq:=hs.2.1;have hw:(Nb b).1=packed (qZ (jJ b)):=by
    unfold Nb l6 at hsq⊢;by_cases h1:32768<E (jJ b)
    ·rw[ao h1]at hsq;simp at hsq
    ·rw[aw h1,ao hm]
   have pB:fU (Nb b).1 (E b:Int)=(jJ b,0):=by
    rw[hw];exact abP hm (by unfold jJ;simpa using mP)
   have hp:=xN b (E b) (Int.le_refl _);rw[aw ax,pB];simp only;rw[hp];simp
  ·rw[aw hs];simp
 unfold dP;rw[h5,hy];simp
abbrev aN:=Int×Bool×Int×Int×Int×Int
def aN.cells(o:aN):cZ:=[ah o.1,.bool o.2.1,ah o.2.2.1,ah o.2.2.2.1,ah o.2.2.2.2.1,ah o.2.2.2.2.2]
def iV:aN:=(0,false,0,0,0,0)
def DW(x lo hi:Int):Prop:=lo<=x∧x<=hi
instance (x lo hi:Int):Decidable (DW x lo hi):=inferInstanceAs (Decidable (_∧_))
def Mw(o:aN):Prop:=DW o.2.2.2.1 1 255∧DW o.2.2.2.2.1 0 (255-o.2.2.2.1)∧DW o.2.2.2.2.2 1 4096
instance (o:aN):Decidable (Mw o):=inferInstanceAs (Decidable (_∧_∧_))
def jB(v:Int)(o:aN):Prop:=
 DW o.1 16 32768∧
 (v=3->Mw o)∧(v=3∨v=2->DW o.2.2.1 1 64)∧
 (¬v=3->o.2.2.2.1=0∧o.2.2.2.2.1=0∧o.2.2.2.2.2=0)∧(v=1->o.2.2.1=0)
instance (v:Int)(o:aN):Decidable (jB v o):=inferInstanceAs (Decidable (_∧_∧_∧_∧_))
def ct(v:Int)(o:aN):Int:=if v=1∨v=2∨v=3 then (if jB v o then 0 else 9) else 4
def ef:al:=[70,73,82,75]
def qR(v:Int):al×Int:=if DW v 1 3 then (ef++[UInt8.ofNat v.toNat],0) else ([],4)
def marked(b:al):Int×Int:=
 if E b<=4 then (0,1) else if¬b.take 4=ef then (0,3) else if¬DW ((b.getD 4 0).toNat:Int) 1 3 then (0,4) else ((b.getD 4 0).toNat,0)
theorem mr{v:Int}(h:DW v 1 3)(r:al):marked ((qR v).1++r)=(v,0):=by
 obtain⟨h1,h2⟩:=h;have hv:v=1∨v=2∨v=3:=by omega
 rcases hv with rfl|rfl|rfl
 ·show marked (70::73::82::75::1::r)=_;unfold marked;rw[aw ak,aw (by simp[ef]),aw (by simp[DW])];rfl
 ·show marked (70::73::82::75::2::r)=_;unfold marked;rw[aw ak,aw (by simp[ef]),aw (by simp[DW])];rfl
 ·show marked (70::73::82::75::3::r)=_;unfold marked;rw[aw ak,aw (by simp[ef]),aw (by simp[DW])];rfl
section
open Go.RowKit Go.ChangeShapes Go.WideShapes Go.ChangeAt
theorem CL:type_of% @Int.toNat_of_nonneg:= @Int.toNat_of_nonneg
def lQ(P:Program)(w:World)(t:TypeId){α:Type}(F:α->cZ)(Ok:α->Prop):Prop:=
 ∀(H:Type) (enc:TypeId×Value->H) (n:Nat) (cs:cZ) (y:DataW H×List MemPlace),
  DataW.trod enc P w 0 (λ_=>true) true n t cs=some y->∃x,cs=F x∧Ok x
section
variable{P:Program}{w:World}{t:TypeId}
theorem ads(ht:P.underlying t=some (.int .u8)):lQ P w t (λb:UInt8=>[.int .u8 (b.toNat:Int)]) (λ_=>True):=by
 intro H enc n cs y h;obtain⟨m,rfl,_,hw⟩:=DataW.trod_int ht h;have hb:=bounds_u8 hw;refine⟨UInt8.ofNat m.toNat,?_,trivial⟩;have e:(UInt8.ofNat m.toNat).toNat=m.toNat:=by simp;omega
 dsimp only;rw[e,CL hb.1]
theorem ai1(ht:P.underlying t=some (.int .u16)):lQ P w t (λx:Nat=>[.int .u16 (x:Int)]) (λx=>x<65536):=by
 intro H enc n cs y h;obtain⟨m,rfl,_,hw⟩:=DataW.trod_int ht h;have hb:=bounds_u16 hw;exact⟨m.toNat,by dsimp only;rw[CL hb.1],aa⟩
theorem ai2(ht:P.underlying t=some (.int .u64)):lQ P w t (λx:Nat=>[.int .u64 (x:Int)]) (λx=>x<18446744073709551616):=by
 intro H enc n cs y h;obtain⟨m,rfl,_,hw⟩:=DataW.trod_int ht h;have hb:=bounds_u64 hw;exact⟨m.toNat,by dsimp only;rw[CL hb.1],aa⟩
theorem yH(ht:P.underlying t=some (.int .i64)):lQ P w t (λx:Int=>[ah x]) (λx=>-9223372036854775808<=x∧x<=9223372036854775807):=by
 intro H enc n cs y h;obtain⟨m,rfl,_,hw⟩:=DataW.trod_int ht h;exact⟨m,rfl,bounds_i64 hw⟩
theorem adq(ht:P.underlying t=some .bool):lQ P w t (λb:Bool=>[.bool b]) (λ_=>True):=by
 intro H enc n cs y h;obtain⟨b,rfl,_⟩:=DataW.trod_bool ht h;exact⟨b,rfl,trivial⟩
theorem Sz(ht:P.underlying t=some .string):lQ P w t (λs:ByteArray=>[.string s]) (λs=>s.size<=maxLen):=by
 intro H enc n cs y h;obtain⟨s,rfl,_,hs⟩:=DataW.trod_string ht h;exact⟨s,rfl,hs⟩
theorem uE{α:Type}{F:α->cZ}{size:Nat}(hF:∀x,E (F x)=size):∀(L:List α) (i j:Nat),j<size->(L.flatMap F)[i*size+j]? =(L[i]?).bind λx=>(F x)[j]? :=by
 intro L;induction L with
 |nil=>intro i j _;simp
 |cons x L ih=>
  intro i j hj;rw[ka];rcases i with _|i
  ·rw[zk (by rw[hF];omega)];simp
  ·rw[rX (by rw[hF,kH];omega),hF,show(i+1)*size+j-size=i*size+j by rw[kH];omega,ih i j hj];simp
theorem I6{e:TypeId}{α:Type}{F:α->cZ}{Ok:α->Prop}{size:Nat}(ht:P.underlying t=some (.slice e))(hc:P.cellsOf e=size)(hs:0<size)(hF:∀x,E (F x)=size)(he:lQ P w e F Ok):
  lQ P w t (λx:Value×List α=>[x.1]) (λx=>Rd w w.heap.size size x.1 (E x.2) (x.2.flatMap F)∧(∀y∈x.2,Ok y)∧E x.2<=maxLen):=by
 intro H enc n cs y h;rcases Deep.open_slice ht h with⟨rfl,_⟩|⟨a,len,cap,m,n',D,Pl,rfl,_,hl,hm,hmm,_,Ff⟩
 ·exact⟨(.slice none 0 0,[]),rfl,Rd.BI,ak,ak⟩
 ·simp only[if_true]at hmm;have hex:∀i,i<len->∃x,w.cells? 0 (a.add (i*P.cellsOf e)) (P.cellsOf e)=some (F x)∧Ok x:=by
   intro i hi;obtain⟨cs',h1,h2⟩:=Ff i aa;obtain⟨x,rfl,ho⟩:=he H enc _ _ _ h2;exact⟨x,h1,ho⟩
  have asv:∀k,k<=len->∃L:List α,E L=k∧∀i x,L[i]? =some x->w.cells? 0 (a.add (i*P.cellsOf e)) (P.cellsOf e)=some (F x)∧Ok x:=by
   intro k;induction k with
   |zero=>intro _;exact⟨[],rfl,ak⟩
   |succ k ih=>
    intro hk;obtain⟨L,hL,hLi⟩:=ih aa;obtain⟨x,hx⟩:=hex k aa;refine⟨L++[x],by simp[hL],λi z hz=>?_⟩;rw[List.getElem?_append]at hz;split at hz
    ·exact hLi i z hz
    ·rename_i fN;have:i=k:=by
      have:=(Bw.1 hz).1;simp at this;omega
     subst this;simp[hL]at hz;subst hz;exact hx
  obtain⟨L,hL,hLi⟩:=asv len (gC _);refine⟨(.slice (some a) len cap,L),rfl,⟨some a,cap,by rw[hL],by rw[hL];exact hl,?_,λhn=>⟨a,rfl,?_,?_⟩⟩,?_,by show E L<=maxLen;omega⟩
  ·show(L.flatMap F).length=E L*size;clear hL hLi;induction L with
   |nil=>simp
   |cons x L ih=>simp[ih,hF,kH,zn]
  ·obtain⟨x,hx⟩:∃x,L[0]? =some x:=by
    rcases L with _|⟨x,L⟩
    ·simp at hn
    ·exact⟨x,rfl⟩
   have:=(hLi 0 x hx).1;rw[hc]at this;have:=(World.cells?_some this).2.2 0 hs;simp[Addr.add]at this;rcases uW a.block w.heap.size with fN|xx
   ·exact fN
   ·rw[World.cell?,Array.getElem?_eq_none xx]at this;have h0:=hF x;have:(F x)[0]? =none:=by simpa using this.symm
    have:=List.getElem?_eq_none_iff.1 this;omega
  ·intro j u hu;have hj:j=j/size*size+j%size:=by have:=Nat.div_add_mod j size;rw[jL]at this;omega
   rw[hj,uE hF L _ _ (rZ _ hs)]at hu;obtain⟨x,hx,hu⟩:=Option.bind_eq_some_iff.1 hu;have hcx:=(hLi _ x hx).1;rw[hc]at hcx;have:=(World.cells?_some hcx).2.2 (j%size) (rZ _ hs);rw[l_,<-hj]at this;rw[this,hu]
  ·intro y hy;obtain⟨i,hi⟩:=List.getElem?_of_mem hy;exact(hLi i y hi).2
end
section
variable{P:Program}{w:World}{t:TypeId}
theorem lQ.arg{α:Type}{F:α->cZ}{Ok:α->Prop}(hd:lQ P w t F Ok){H:Type}{enc:TypeId×Value->H}{v:Value}{d:DataW H}{ps:List MemPlace}(h:DataW.Trod enc P w 0 (λ_=>true) true t v d ps):∃x,v.cells.toList=F x∧Ok x:=by
 obtain⟨n,h⟩:=h;exact hd H enc n _ _ h
theorem Ct{v:Value}{x:Value}(a:bk)(n c:Nat)(hv:v= .slice a n c)(h:v.cells.toList=[x]):x=v:=by
 subst hv;simp[Value.cells]at h;exact h.symm
end
section
variable{P:Program}{w:World}{t:TypeId}
theorem N8{α β γ δ:Type}{f0 f1 f2 f3:Field}{F0:α->Value}{F1:β->Value}{F2:γ->Value}{F3:δ->Value}{O0:α->Prop}{O1:β->Prop}{O2:γ->Prop}{O3:δ->Prop}(ht:P.underlying t=some (.struct #[f0,f1,f2,f3]))(hc:P.cellsOf t=4)(h0:f0.offset=0∧P.cellsOf f0.type=1)(h1:f1.offset=1∧P.cellsOf f1.type=1)(h2:f2.offset=2∧P.cellsOf f2.type=1)(h3:f3.offset=3∧P.cellsOf f3.type=1)(d0:lQ P w f0.type (λx=>[F0 x]) O0)(d1:lQ P w f1.type (λx=>[F1 x]) O1)(d2:lQ P w f2.type (λx=>[F2 x]) O2)(d3:lQ P w f3.type (λx=>[F3 x]) O3):
  lQ P w t (λx:α×β×γ×δ=>[F0 x.1,F1 x.2.1,F2 x.2.2.1,F3 x.2.2.2]) (λx=>O0 x.1∧O1 x.2.1∧O2 x.2.2.1∧O3 x.2.2.2):=by
 intro H enc n cs y h;obtain⟨xs,n',_,_,hl,hx,hf⟩:=DataW.trod_struct ht h;rw[hc]at hl;obtain⟨c0,c1,c2,c3,rfl⟩:∃c0 c1 c2 c3,cs=[c0,c1,c2,c3]:=by
  match cs,hl with
  |[c0,c1,c2,c3],_=>exact⟨c0,c1,c2,c3,rfl⟩
 obtain⟨y0,y1,y2,y3,rfl⟩:∃y0 y1 y2 y3,xs=[y0,y1,y2,y3]:=by
  match xs,hx with
  |[y0,y1,y2,y3],_=>exact⟨y0,y1,y2,y3,rfl⟩
 have g0:=hf 0 f0 rfl;have g1:=hf 1 f1 rfl;have g2:=hf 2 f2 rfl;have g3:=hf 3 f3 rfl;rw[h0.1,h0.2]at g0;rw[h1.1,h1.2]at g1;rw[h2.1,h2.2]at g2;rw[h3.1,h3.2]at g3;obtain⟨a,ea,oa⟩:=d0 H enc _ _ _ g0;obtain⟨b,eb,ob⟩:=d1 H enc _ _ _ g1;obtain⟨c,ec,oc⟩:=d2 H enc _ _ _ g2;obtain⟨d,ed,od⟩:=d3 H enc _ _ _ g3;simp at ea eb ec ed;exact⟨(a,b,c,d),by simp[ea,eb,ec,ed],oa,ob,oc,od⟩
end
end
abbrev aJ:=Nat×UInt8×al×al
def aJ.cells(x:aJ):cZ:=[.int .u64 x.1,.int .u8 (x.2.1.toNat:Int),.string ⟨x.2.2.1.toArray⟩,.string ⟨x.2.2.2.toArray⟩]
def aJ.ok(x:aJ):Prop:=x.1<18446744073709551616∧True∧E x.2.2.1<=maxLen∧E x.2.2.2<=maxLen
theorem N7{P:Program}{w:World}{t:TypeId}(ht:P.underlying t=some .string):lQ P w t (λs:al=>[.string ⟨s.toArray⟩]) (λs=>E s<=maxLen):=by
 intro H enc n cs y h;obtain⟨s,h1,h2⟩:=Sz ht H enc n cs y h;refine⟨s.data.toList,?_,?_⟩
 ·rw[h1]
 ·have e:E s.data.toList=s.size:=by rw[LO];rfl
  show E s.data.toList<=maxLen;rw[e];exact h2
theorem ai0(w:World):lQ Tryz.prog w 62 aJ.cells aJ.ok:=
 N8 underlying62 ag ⟨rfl,ag⟩ ⟨rfl,ag⟩ ⟨rfl,ag⟩ ⟨rfl,ag⟩ (ai2 underlying60) (ads underlying5) (N7 underlying9) (N7 underlying9)
def c_(L:List aJ):cZ:=L.flatMap aJ.cells
def recAt(L:List aJ)(k:Nat):aJ:=L.getD k (0,0,[],[])
theorem qW{L:List aJ}{k:Nat}(hk:k<E L){j:Nat}(hj:j<4):(c_ L)[k*4+j]? =(aJ.cells (recAt L k))[j]? :=by
 rw[c_,uE (size:=4) (λ_=>rfl) L k j hj,recAt,ba,fc hk];rfl
end Go.Proofs.YtaodmbolhoafcaaGreatDoor
