/-
  Texts of one proof, joined: part 7. No condition.
-/
import Derived.Test.YtaodmbolhoafcaaGreatDoorZp6
open List renaming length→E
open Go.RowKit Go.Proofs.Tryz
namespace Go.Proofs.YtaodmbolhoafcaaGreatDoor
set_option linter.unusedVariables false
set_option linter.unusedSimpArgs false
set_option maxRecDepth 20000
variable{B:Nat}{w0:World}{F:aR}{A:bk}{n c g:Nat}{bt:TypeId}{f:Ch->aR}{A1 A2:bk}{c1 c2:Nat}{s:Cs}{B1 B2:bk}{b1 b2:Nat}{bound size:Int}{T:List cm}{LL:List MT}{sz:Nat}{o h:List cm}
theorem gU:type_of% @Nat.mul_le_mul:= @Nat.mul_le_mul
def oO(l:bf):cZ:=l.map λ(n:Nat)=>Value.int .u16 (n:Int)
@[simp] theorem amU(l k:bf):oO (l++k)=oO l++oO k:=by simp[oO]
@[simp] theorem amV(l:bf):E (oO l)=E l:=by simp[oO]
theorem ahG{l:bf}{k:Nat}(h:k<E l):(oO l)[k*1]? =some (.int .u16 (l.getD k 0:Nat)):=by
 simp[oO,List.getD,fc h]
def Qx(bound:Int)(ids:List Int)(i:Nat):Prop:=0<=ids.getD i 0∧ids.getD i 0<bound∧(0<i->ids.getD (i-1) 0<ids.getD i 0)
def IC(bound:Int)(ids:List Int):Prop:=∀i,i<E ids->Qx bound ids i
instance (bound:Int)(ids:List Int)(i:Nat):Decidable (Qx bound ids i):=inferInstanceAs (Decidable (_∧_∧_))
instance (bound:Int)(ids:List Int):Decidable (IC bound ids):=inferInstanceAs (Decidable (∀i,i<E ids->_))
def lE(bound:Nat)(xs:bf):Prop:=∀i,i<E xs->xs.getD i 0<bound∧(0<i->xs.getD (i-1) 0<xs.getD i 0)
theorem IC.afw{bound:Int}{ids:List Int}(h:IC bound ids):∃xs:bf,ids=xs.map (λ(n:Nat)=>(n:Int)):=by
 refine⟨ids.map Int.toNat,?_⟩;apply jK
 ·simp
 ·intro i h1 h2;have:=(h i h1).1;rw[ba,fc h1]at this;simp at this⊢;omega
theorem Zi(xs:bf)(i:Nat):(xs.map (λ(n:Nat)=>(n:Int))).getD i 0=((xs.getD i 0:Nat):Int):=by
 simp only[ba,jw];cases xs[i]? <;>rfl
theorem tf(bound:Nat)(xs:bf):IC bound (xs.map (λ(n:Nat)=>(n:Int)))↔lE bound xs:=by
 unfold IC lE Qx;simp only[Zi,dX];exact⟨λh i hi=>by have:=h i hi;omega,λh i hi=>by have:=h i hi;omega⟩
theorem Pj(xs:bf):ints .i64 (xs.map (λ(n:Nat)=>(n:Int)))=bD xs:=by simp[ints,bD]
theorem lE.ge{bound:Nat}{xs:bf}(h:lE bound xs):∀i,i<E xs->i<=xs.getD i 0
 |0,_=>bU _
 |i+1,hi=>by
  have h1:=lE.ge h i aa;have h2:=(h (i+1) hi).2 aa;rw[uS]at h2;omega
theorem lE.len{bound:Nat}{xs:bf}(h:lE bound xs):E xs<=bound:=by
 rcases xF (E xs) with h0|h0
 ·omega
 ·have h1:=h.ge (E xs-1) aa;have h2:=(h (E xs-1) aa).1;omega
def wid(bound n:Nat):Nat:=Nat.log2 (bound/n)
theorem xZ{bound n:Nat}(h:bound<=20000):wid bound n<=14:=by
 unfold wid;by_cases h0:bound/n=0
 ·rw[h0];decide
 ·have:bound/n<2^15:=by have:=rY bound n;omega
  have:=(Nat.log2_lt h0).2 this;omega
theorem vm{w:Nat}(h:w<=14):2^w<=16384:=gJ aa h
def B9(p was:Nat):bf->List Bool
 |[]=>[]
 |x::xs=>un (x/p-was)++B9 p (x/p) xs
def CQ(p w:Nat)(xs:bf):List Bool:=xs.flatMap λx=>hi (x%p) w w
def M0(p w:Nat)(xs:bf):List Bool:=CQ p w xs++B9 p 0 xs
def sC(bound:Nat)(xs:bf):al:=aS (E xs)++(if E xs=0 then [] else packed (M0 (2^wid bound (E xs)) (wid bound (E xs)) xs))
def RD(bound:Int)(ids:List Int):al×Int:=if bound<0∨20000<bound∨¬IC bound ids then ([],13) else (sC bound.toNat (ids.map Int.toNat),0)
theorem La{bound:Int}{ids:List Int}(h:bound<0∨20000<bound∨¬IC bound ids):RD bound ids=([],13):=ao h
theorem Lb{bound:Nat}{xs:bf}(h:¬((bound:Int)<0∨(20000:Int)<bound∨¬IC bound (xs.map (λ(n:Nat)=>(n:Int))))):RD bound (xs.map (λ(n:Nat)=>(n:Int)))=(sC bound xs,0):=by
 have e:(xs.map (λ(n:Nat)=>(n:Int))).map Int.toNat=xs:=by simp[Function.comp_def]
 unfold RD;rw[aw h,oo,e]
theorem afh(p w:Nat)(xs:bf)(x:Nat):CQ p w (xs++[x])=CQ p w xs++hi (x%p) w w:=by simp[CQ]
theorem nF(p w:Nat)(xs:bf):E (CQ p w xs)=E xs*w:=by
 induction xs with
 |nil=>simp[CQ]
 |cons x xs ih=>simp only[CQ,ka,aX,dT,dI,kH]at ih⊢;omega
def qb(p was:Nat)(xs:bf):Nat:=xs.foldl (λ_ x=>x/p) was
theorem TP(p was:Nat)(xs:bf)(x:Nat):qb p was (xs++[x])=x/p:=by simp[qb]
theorem G7(p:Nat)(x:Nat):∀(xs:bf) (was:Nat),B9 p was (xs++[x])=B9 p was xs++un (x/p-qb p was xs)
 |[],was=>by simp[B9,qb]
 |y::xs,was=>by
  rw[mX,B9,B9,G7 p x xs (y/p),bX];rfl
theorem qc{p:Nat}{xs:bf}{k:Nat}(h:k<E xs):qb p 0 (xs.take (k+1))=xs.getD k 0/p:=by
 rw[aY h 0,TP]
theorem PI{bound p:Nat}{xs:bf}(h:lE bound xs){k:Nat}(hk:k<E xs):qb p 0 (xs.take k)<=xs.getD k 0/p:=by
 rcases k with _|k
 ·simp[qb]
 ·rw[qc aa];have:=(h (k+1) hk).2 aa;rw[uS]at this;exact Nat.div_le_div_right (Nat.le_of_lt this)
theorem tu{bound p:Nat}{xs:bf}(h:lE bound xs):∀k,k<=E xs->E (B9 p 0 (xs.take k))=k+qb p 0 (xs.take k)
 |0,_=>by simp[B9,qb]
 |k+1,hk=>by
  have h1:=tu h (p:=p) k aa;have h2:=PI (p:=p) h (k:=k) aa;rw[qc aa,aY aa 0,G7,aX,pG,h1];omega
theorem PH{bound p:Nat}{xs:bf}(h:lE bound xs)(k:Nat)(hk:k<=E xs):qb p 0 (xs.take k)<=bound:=by
 rcases k with _|k
 ·simp[qb]
 ·rw[qc aa];have:=(h k aa).1;have:=rY (xs.getD k 0) p;omega
theorem WD{bound p w:Nat}{xs:bf}(h:lE bound xs)(hb:bound<=20000)(hw:w<=14):E (M0 p w xs)<=400000:=by
 have h1:=nF p w xs;have h2:=tu (p:=p) h (E xs) (gC _);have h3:=PH (p:=p) h (E xs) (gC _);have h4:=h.len;rw[ki]at h2 h3;have h5:E xs*w<=20000*14:=gU aa hw;unfold M0;rw[aX];omega
def MV(x:Nat):Nat:=if x=0 then 0 else Nat.log2 x+1
def LY:al:=(List.range 256).map λi=>UInt8.ofNat (MV i)
theorem ak8(y:Nat)(h:y<256):(LY.getD y 0).toNat=MV y:=by
 have:∀i:Fin 256,(LY.getD i.val 0).toNat=MV i.val:=by decide+kernel
 exact this ⟨y,h⟩
theorem aiw{x:Nat}(h:256<=x):MV x=8+MV (x/256):=by
 unfold MV;rw[aw aa,aw aa];have h0:x/256≠0:=by omega
 have e:Nat.log2 x=8+Nat.log2 (x/256):=by
  apply Nat.le_antisymm
  ·have h1:=Nat.lt_log2_self (n:=x/256);have h2:x<2^(8+Nat.log2 (x/256)+1):=by
    rw[show 8+Nat.log2 (x/256)+1=8+(Nat.log2 (x/256)+1) by omega,Nat.pow_add];omega
   have:=(Nat.log2_lt aa).2 h2;omega
  ·refine(Nat.le_log2 aa).2 ?_;have:=Nat.log2_self_le h0;rw[Nat.pow_add];omega
 omega
theorem K0{C:Cx}{fr:Fr}{L:aR}{x y:Operand}{t ty:TypeId}{k:IntKind}{m:Int}{s s':al}{i:Nat}(ht:C.P.underlying t=some .string)(h:ev fr x=some (.string ⟨s.toArray⟩))(hs:s=s')(h2:ev fr y=some (.int k m))(hm:m=(i:Int))(hi:i<E s'):gR C fr L (.index t x y) ty (.int .u8 ((s'.getD i 0).toNat:Int)):=by
 subst hs;exact sM ht h h2 hm hi
theorem avS(y:Nat):(y:Int).fdiv (2^min (8:Int).toNat IntKind.u64.bits)=((y/256:Nat):Int):=by
 have e:min (8:Int).toNat IntKind.u64.bits=8:=by decide
 rw[e,wW _ ax];rfl
theorem ajX(x:Nat)(hx:x<65536):aZ B w0 253 [.int .u64 x] F (λr L=>r=ah (MV x)∧L=F):=by
 refine fw func253 25 [0] ?_;refine cF ?_;refine dw λh4=>?_;refine bO ?_;refine dw λh8=>?_;refine bc ?_;refine dY (λzf zL=>∃(y m:Nat),(y<256∧m<=8∧MV x=m+MV y)∧Sub zf [(0,.int .u64 y),(2,ah m)]∧Wk zL (F)) ?_ ?_
 ·refine bB ?_;refine aj (λku=>?_) λku=>?_
  ·refine bE ?_;refine ab (dv rfl rfl aa (avS x)) rfl (bK ?_);exact bC ⟨x/256,8,⟨aa,aa,aiw aa⟩,bp,.refl _⟩
  ·refine aF ?_;exact bC ⟨x,0,⟨aa,aa,aa⟩,bp,.refl _⟩
 ·rintro _ _ ⟨y,m,⟨hy,hm,di⟩,hs,hp⟩;refine aT hs hp (bF ?_);refine ab (K0 (s':=LY) underlying9 rfl pL rfl rfl (by simp[LY];omega)) rfl ?_;rw[ak8 y hy];have hb9:MV y<=8:=by
   have:∀i:Fin 256,MV i.val<=8:=by decide+kernel
   exact this ⟨y,hy⟩
  refine bI ?_;exact⟨dQ (λ(z:Int)=>Value.int .i64 z) aa,rfl⟩
theorem amr(x:Nat)(hx:x<65536):aZ B w0 211 [.int .u64 x] F (λr L=>r=ah (MV x)∧L=F):=by
 refine fw func211 8 [0] ?_;refine cF ?_;refine ai rfl (ajX x hx) (bF ?_);exact⟨rfl,rfl⟩
theorem MI(b m:Nat)(hb:b<=20000)(hm:1<=m)(hmb:m<=b):aZ B w0 151 [ah b,ah m] F (λr L=>r=ah (wid b m)∧L=F):=by
 have hq:b/m<=20000:=jz (rY _ _) hb;have hq1:1<=b/m:=(Ps aa).2 aa;have hw:(wid b m:Int)=(MV (b/m):Int)-1:=by unfold wid MV;rw[aw aa];omega
 have hqq:IntKind.i64.wrap ((b:Int).tdiv (m:Int))=((b/m:Nat):Int):=by
  have e:(b:Int).tdiv (m:Int)=((b/m:Nat):Int):=(Int.ofNat_tdiv b m).symm;rw[e];generalize b/m=x at hq;exact wrap_i64 _ aa aa
 generalize hz:b/m=q at*;refine fw func151 11 [0,1] ?_;refine bO ?_;refine ab (mJ rfl rfl aa hqq) rfl (aF ?_);refine ai rfl (amr q aa) ?_;have di:MV q<=17:=by
  unfold MV;split
  ·omega
  ·have:=(Nat.log2_lt (n:=q) (k:=16) aa).2 aa;omega
 refine bB ?_;exact⟨by rw[hw],rfl⟩
theorem agm{bound:Int}{ids:List Int}{k:Nat}{was:Int}(hw:was=if k=0 then-1 else ids.getD (k-1) 0)(hp:∀i,i<k->Qx bound ids i):Qx bound ids k↔was<ids.getD k 0∧ids.getD k 0<bound:=by
 by_cases h0:k=0
 ·subst h0;rw[ao rfl]at hw;subst hw;unfold Qx;exact⟨λh=>⟨aa,h.2.1⟩,λh=>⟨aa,h.2,λh=>absurd h aa⟩⟩
 ·rw[aw h0]at hw;subst hw;have:=(hp (k-1) aa).1;unfold Qx;exact⟨λh=>⟨h.2.2 aa,h.2.1⟩,λh=>⟨aa,h.2,λ_=>h.1⟩⟩
theorem X8(bound:Int)(ids:List Int)(hb:aM B w0 F 1 (.slice A (E ids) c) (E ids) (ints .i64 ids))(hl:E ids<=9000000000000000000):
  aZ B w0 150 [ah bound,.slice A (E ids) c] F (λr L=>r= .bool (decide (IC bound ids))∧L=F):=by
 refine fw func150 24 [0,1] ?_;refine Bh ?_;refine aD (λzf zL zm=>∃(k:Nat) (was:Int),(k<=E ids∧was=(if k=0 then-1 else ids.getD (k-1) 0)∧∀i,i<k->Qx bound ids i)∧E ids-k=zm∧Sub zf [(0,ah bound),(5,ah was),(8,.slice A (E ids) c),(9,ah (E ids)),(10,ah k)]∧Wk zL (F)) _ ⟨0,-1,⟨bU _,rfl,λi h=>absurd h aa⟩,rfl,bp,.refl _⟩ ?_;rintro _ _ _ ⟨k,was,⟨hk,avo,kU⟩,rfl,hs,hp⟩;refine aT hs hp ?_;have hcw:=agm avo kU;refine bB ?_;refine aj (λpg=>?_) λpg=>?_
 ·refine ei ?_;refine bR 8 21 [0,7,8,9,10] (ids.getD k 0<=was∨bound<=ids.getD k 0) ?_ ?_
  ·refine b7 ?_;refine aI rfl rfl rfl (λiI=>?_) (λiI=>?_)
   ·refine bB ?_;exact aL C6
   ·refine bE ?_;exact aL C6
  ·refine bc ?_;refine aj (λmx=>?_) λmx=>?_
   ·refine cY ?_;exact⟨by rw[oq (λh=>by have:=hcw.1 (h k aa);omega)],rfl⟩
   ·refine cF ?_;refine av ⟨_,aa,k+1,ids.getD k 0,⟨aa,by rw[aw aa,uS],λi h=>by rcases Nat.lt_succ_iff_lt_or_eq.1 h with h|h;exact kU i h;subst h;exact hcw.2 aa⟩,rfl,bp,.refl _⟩
 ·refine cF ?_;exact⟨by rw[oK (show IC bound ids from λi hi=>kU i aa)],rfl⟩
abbrev Pt(g:Nat)(bt:TypeId)(w p:Nat)(A1:bk)(c1:Nat)(A2:bk)(c2:Nat)(xs:bf)(F:aR):aR:=.bG g bt [ah w,.slice A1 (E xs) c1,.slice A2 (E xs) c2]:: .own 3 1 A1 (E xs) c1 (bD (xs.map (· /p))):: .own 57 1 A2 (E xs) c2 (oO (xs.map (· %p)))::F
theorem ath{x w p:Nat}(hp:p=2^w)(hw:w<=14):(x:Int).fdiv (2^min (w:Int).toNat IntKind.i64.bits)=((x/p:Nat):Int):=by
 have e:min (w:Int).toNat IntKind.i64.bits=w:=by
  rw[oo];exact xH (show w<=64 by omega)
 rw[e,hp,wW _ (Int.le_of_lt (Int.pow_pos ax)),Int.natCast_ediv];congr 1
theorem akT{x w p:Nat}(hp:p=2^w)(hw:w<=14)(hx:x*p<=4611686018427387904):IntKind.i64.wrap ((x:Int)*2^min (w:Int).toNat IntKind.i64.bits)=((x*p:Nat):Int):=by
 have e:min (w:Int).toNat IntKind.i64.bits=w:=by
  rw[oo];exact xH (show w<=64 by omega)
 have e2:(x:Int)*2^w=((x*p:Nat):Int):=by rw[hp,zi];congr 1
 rw[e,e2];exact bq aa aa
theorem aqj{x w p:Nat}(hp:p=2^w)(hx:x<9223372036854775808)(M5:p<=16384):IntKind.i64.wrap ((BitVec.ofInt IntKind.i64.bits (x:Int) &&& BitVec.ofInt IntKind.i64.bits ((p-1:Nat):Int)).toNat:Int)=((x%p:Nat):Int):=by
 have h:=ajK x (p-1) hx aa;rw[hp,Nat.and_two_pow_sub_one_eq_mod,<-hp]at h;exact h
theorem orP{x w p:Nat}(hp:p=2^w)(hx:x<9223372036854775808):IntKind.i64.wrap ((BitVec.ofInt IntKind.i64.bits ((x/p*p:Nat):Int) ||| BitVec.ofInt IntKind.i64.bits ((x%p:Nat):Int)).toNat:Int)=(x:Int):=by
 have h1:x/p*p<=x:=Nat.div_mul_le_self x p;have h2:x%p<=x:=Nat.mod_le x p;have h:=aeT (x/p*p) (x%p) aa aa;have e:x/p*p ||| x%p=x:=by
  have fN:x%p<2^w:=by rw[<-hp];exact rZ _ (by rw[hp];exact w6 w)
  rw[hp]at fN⊢;rw[jL,<-Pr fN];exact Nat.div_add_mod x (2^w)
 rw[e]at h;exact h
theorem afU(bt:TypeId){w p:Nat}(hp:p=2^w)(hw:w<=14)(xs:bf)(x:Nat)(hx:x<=1000000)(hl:E xs<=1000000):
  aZ B w0 152 [br g,ah x] (Pt g bt w p A1 c1 A2 c2 xs F) (λr L=>r= .tuple #[]∧∃A1' c1' A2' c2',L=Pt g bt w p A1' c1' A2' c2' (xs++[x]) F):=by
 have M5:p<=16384:=by rw[hp];exact vm hw
 have Xg:1<=p:=by rw[hp];exact Nat.one_le_two_pow
 have aoi:x%p<p:=rZ _ Xg;refine fw func152 37 [0,1] ?_;refine dY (λzf zL=>∃(A3:bk) (c3:Nat),Sub zf [(0,br g),(1,ah x)]∧Wk zL (.bG g bt [ah w,.slice A3 (E xs+1) c3,.slice A2 (E xs) c2]:: .own 3 1 A3 (E xs+1) c3 (bD ((xs++[x]).map (· /p))):: .own 57 1 A2 (E xs) c2 (oO (xs.map (· %p)))::F)) ?_ ?_
 ·refine cE (.own 57 1 A2 (E xs) c2 (oO (xs.map (· %p)))::F) ?_;refine ae 0 ?_;refine ae 1 ?_;refine ae 2 ?_;refine ae 3 ?_;refine ae 5 ?_;refine ae 6 ?_;refine ae 7 ?_;refine ae 8 ?_;refine ib 4 9 ?_ ?_
  ·refine aF ?_;refine aA 9 (aF ?_);refine aU 10 rfl (dv rfl rfl aa (ath hp hw)) (aA 11 (cX rfl (aG fT [_] rfl rfl cw aa aa) λCe=>aA 12 (fi rfl (bW fT rfl aW rfl aB cw aa aa) λYW c16=>?_)));refine ae 13 ?_;refine ae 14 ?_;refine aA 15 (bc ?_);exact bC ⟨YW,c16,bp,.skip (bw rfl (az rfl tC (.refl _)))⟩
  ·refine aF ?_;refine aU 10 rfl (dv rfl rfl aa (ath hp hw)) (ib 4 11 ?_ ?_)
   ·refine aF ?_;refine aA 11 (cX rfl (aG fT [_] rfl rfl cw aa aa) λCe=>aA 12 (fi rfl (bW fT rfl aW rfl aB cw aa aa) λYW c16=>?_));refine ae 13 ?_;refine ae 14 ?_;refine aA 15 (bc ?_);exact bC ⟨YW,c16,bp,.skip (bw rfl (az rfl tC (.refl _)))⟩
   ·refine cX rfl (aG fT [_] rfl rfl cw aa aa) λCe=>aA 4 (aF ?_);refine aA 12 (fi rfl (bW fT rfl aW rfl aB cw aa aa) λYW c16=>?_);refine ae 13 ?_;refine ae 14 ?_;refine aA 15 (bc ?_);exact bC ⟨YW,c16,bp,.skip (bw rfl (az rfl tC (.refl _)))⟩
 ·rintro _ _ ⟨A3,c3,hs,hp⟩;refine aT hs hp ?_;clear hs hp;refine cE (.own 3 1 A3 (E xs+1) c3 (bD ((xs++[x]).map (· /p)))::F) ?_;refine ae 0 ?_;refine ae 1 ?_;refine ae 2 ?_;refine ae 3 ?_;refine ae 5 ?_;refine ae 6 ?_;refine ae 7 ?_;refine ae 8 ?_;refine ib 4 9 ?_ ?_
  ·refine aF ?_;refine aA 9 (aF ?_);refine aU 10 rfl (gk rfl rfl aa ((akT (x:=1) hp hw aa).trans (by rw[lz]))) (aU 11 rfl (dC rfl rfl (r:=((p-1:Nat):Int)) ((bq aa aa).trans aa)) (aU 12 rfl (kE rfl rfl (aqj hp aa M5)) (ae 13 ?_)));refine aA 14 (cX rfl (aG vr [_] rfl rfl cw aa aa) λRw=>aA 15 (fi rfl (bW vr rfl aW rfl aB cw aa aa) λxc yb=>?_));refine ae 16 ?_;refine ae 17 ?_;refine aA 18 (aF ?_);refine cP [] ?_;refine aF ?_;have el:E xs+1=E (xs++[x]):=by simp
   rw[el];refine aq (L':=Pt g bt w p A3 c3 xc yb (xs++[x]) F) (.skip (.cons (.cons (az rfl (by simp[oO]) (.refl _))))) (aF ?_);exact⟨rfl,A3,c3,xc,yb,rfl⟩
  ·refine aF ?_;refine aU 10 rfl (gk rfl rfl aa ((akT (x:=1) hp hw aa).trans (by rw[lz]))) (aU 11 rfl (dC rfl rfl (r:=((p-1:Nat):Int)) ((bq aa aa).trans aa)) (aU 12 rfl (kE rfl rfl (aqj hp aa M5)) (ae 13 ?_)));refine ib 4 14 ?_ ?_
   ·refine aF ?_;refine aA 14 (cX rfl (aG vr [_] rfl rfl cw aa aa) λRw=>aA 15 (fi rfl (bW vr rfl aW rfl aB cw aa aa) λxc yb=>?_));refine ae 16 ?_;refine ae 17 ?_;refine aA 18 (aF ?_);refine cP [] ?_;refine aF ?_;have el:E xs+1=E (xs++[x]):=by simp
    rw[el];refine aq (L':=Pt g bt w p A3 c3 xc yb (xs++[x]) F) (.skip (.cons (.cons (az rfl (by simp[oO]) (.refl _))))) (aF ?_);exact⟨rfl,A3,c3,xc,yb,rfl⟩
   ·refine cX rfl (aG vr [_] rfl rfl cw aa aa) λRw=>aA 4 (aF ?_);refine aA 15 (fi rfl (bW vr rfl aW rfl aB cw aa aa) λxc yb=>?_);refine ae 16 ?_;refine ae 17 ?_;refine aA 18 (aF ?_);refine cP [] ?_;refine aF ?_;have el:E xs+1=E (xs++[x]):=by simp
    rw[el];refine aq (L':=Pt g bt w p A3 c3 xc yb (xs++[x]) F) (.skip (.cons (.cons (az rfl (by simp[oO]) (.refl _))))) (aF ?_);exact⟨rfl,A3,c3,xc,yb,rfl⟩
theorem aoT(bt:TypeId){w p:Nat}(hp:p=2^w)(hw:w<=14)(xs:bf)(i:Nat)(hi:i<E xs)(hx:xs.getD i 0<=1000000):
  aZ B w0 300 [br g,ah i] (Pt g bt w p A1 c1 A2 c2 xs F) (λr L=>r=ah (xs.getD i 0:Nat)∧L=Pt g bt w p A1 c1 A2 c2 xs F):=by
 have hH:(bD (xs.map (· /p)))[i*1]? =some (ah (xs.getD i 0/p:Nat)):=by simp[bD,List.getD,fc hi]
 have hL:(oO (xs.map (· %p)))[i*1]? =some (.int .u16 (xs.getD i 0%p:Nat)):=by simp[oO,List.getD,fc hi]
 have M5:p<=16384:=by rw[hp];exact vm hw
 have Xg:1<=p:=by rw[hp];exact Nat.one_le_two_pow
 have aoi:xs.getD i 0%p<p:=rZ _ Xg;have hdm:=Nat.div_mul_le_self (xs.getD i 0) p;refine fw func300 26 [0,1] ?_;refine cY ?_;refine bL (au ag rfl aB aa hH) rfl (b7 ?_);refine bL (gk rfl rfl aa (akT hp hw aa)) rfl (bB ?_);refine bL (au ag rfl aB aa hL) rfl (aF ?_);refine bL (uC rfl rfl (orP hp aa)) rfl (aF ?_);refine lO [(4,_)] ⟨rfl,trivial⟩ ?_;refine bE ?_;exact⟨rfl,rfl⟩
theorem rG{P:Prop}(h:P:=by(rw[aX];omega)):P:=h
theorem Ov{n:Nat}(h:n<=20000):E (aS n)<=10:=aV aa
theorem Ou{bound:Int}{ids:List Int}(hb:aM B w0 F 1 (.slice A (E ids) c) (E ids) (ints .i64 ids))(hl:E ids<=9000000000000000000)(hE:bound<0∨20000<bound∨¬IC bound ids):
  aZ B w0 88 [ah bound,.slice A (E ids) c] F (λr L=>∃A' c',r= .tuple #[.slice A' 0 c',ah 13]∧L= .own 5 1 A' 0 c' []::F):=by
 refine fw func88 80 [0,1] ?_;refine bO ?_;refine bR 12 27 [0,1] (bound<0∨20000<bound∨¬IC bound ids) ?_ ?_
 ·refine bE ?_;refine aI rfl rfl rfl (λiC=>?_) (λiC=>?_)
  ·refine bF ?_;refine aI rfl rfl rfl (λrm=>?_) (λrm=>?_)
   ·refine b7 ?_;refine ai rfl (X8 bound ids hb hl) (bE ?_);exact aL b_2
   ·refine b7 ?_;exact aL b_2
  ·refine bK ?_;exact aL b_2
 ·refine bc ?_;refine aj (λkG=>?_) λkG=>?_
  ·refine bK ?_;refine aC 5 1 none (aF ?_);exact⟨none,0,rfl,rfl⟩
  ·exfalso;exact kG hE
theorem SM{b:Nat}{xs:bf}(hb:aM B w0 F 1 (.slice A (E xs) c) (E xs) (bD xs))(pB:b<=20000)(hR:lE b xs):
  aZ B w0 88 [ah b,.slice A (E xs) c] F (λr L=>∃A' c',r= .tuple #[.slice A' (E (sC b xs)) c',ah 0]∧L= .own 5 1 A' (E (sC b xs)) c' (bv (sC b xs))::F):=by
 have hlen:=hR.len;have hi:IC b (xs.map (λ(n:Nat)=>(n:Int))):=(tf b xs).2 hR;have hr:=X8 (B:=B) (w0:=w0) (F:=F) (A:=A) (c:=c) (b:Int) (xs.map (λ(n:Nat)=>(n:Int))) (by rw[Pj,dX];exact hb) (by rw[dX];omega);rw[dX]at hr;have DF:=xZ (n:=E xs) pB;obtain⟨w,hw⟩:=cK (wid b (E xs));rw[<-hw]at DF;obtain⟨p,hp⟩:=cK (2^w);have Xg:1<=p:=by rw[hp];exact Nat.one_le_two_pow
 have Ff:=Ov (n:=E xs) aa;have auR:E xs=0->sC b xs=aS (E xs):=λh=>by unfold sC;rw[ao h];simp
 have aso:¬E xs=0->sC b xs=aS (E xs)++packed (CQ p w xs++B9 p 0 xs):=λh=>by unfold sC M0;rw[aw h,<-hw,<-hp]
 have hql:=WD (p:=p) (w:=w) hR pB DF;unfold M0 at hql;have mP:=dO (CQ p w xs++B9 p 0 xs);refine fw func88 80 [0,1] ?_;refine cF ?_;refine aI rfl rfl rfl (λiC=>?_) (λiC=>?_)
 ·refine bF ?_;refine aI rfl rfl rfl (λrm=>?_) (λrm=>?_)
  ·refine b7 ?_;refine ai rfl (hr) (bF ?_);refine aj (λkG=>?_) λkG=>?_
   ·exfalso;exact kG hi
   ·refine bI ?_;refine ay rfl (jj (E xs) aa) λRX c31=>aF ?_;refine ve [0,1,6] ?_;refine bO ?_;refine aj (λH6=>?_) λH6=>?_
    ·refine bO ?_;rw[auR aa];refine aF ?_;exact⟨RX,c31,rfl,rfl⟩
    ·refine bI ?_;refine ai rfl (MI b (E xs) pB aa hlen) ?_;rw[<-hw];refine ab (bx [(0,_)] [ah 0,.slice none 0 0,.slice none 0 0] [0] [_,_,_] rfl rfl ag) rfl (bh λg7=>?_);refine bF ?_;refine a_ 57 1 none (a_ 3 1 none (bI ?_));refine aD (λzf zL zm=>∃(k:Nat) (P1:bk) (p1:Nat) (P2:bk) (p2:Nat),(k<=E xs)∧E xs-k=zm∧Sub zf [(6,.slice RX (E (aS (E xs))) c31),(7,br g7),(41,.slice A (E xs) c),(42,ah (E xs)),(43,ah k)]∧Wk zL (Pt g7 235 w p P1 p1 P2 p2 (xs.take k) (.own 5 1 RX (E (aS (E xs))) c31 (bv (aS (E xs)))::F))) _ ⟨0,none,0,none,0,bU _,rfl,bp,.dK Dl⟩ ?_;rintro _ _ _ ⟨k,P1,p1,P2,p2,hk,rfl,hs,hp⟩;refine aT hs hp ?_;clear hs hp;refine bB ?_;refine aj (λsT=>?_) λsT=>?_
     ·have hxk:=(hR k aa).1;have De:=List.length_take_le k xs;refine bI ?_;refine ab (au ag rfl aB aa (fO aa)) rfl (bF ?_);refine be alU rfl (afU 235 hp DF (xs.take k) (xs.getD k 0) aa aa) rfl ?_;rintro _ _ ⟨rfl,P48,p48,Q48,q48,cO⟩;obtain rfl:=cO.symm;refine bI ?_;refine av ⟨_,aa,k+1,P48,p48,Q48,q48,aa,rfl,bp,by rw[aY (show k<E xs by omega) 0];exact .refl _⟩
     ·obtain rfl:k=E xs:=by omega
      rw[ki];refine bI ?_;refine bh λg10=>?_;refine b7 ?_;refine a_ 5 1 none (bK ?_);refine aD (λzf zL zm=>∃(k:Nat) (A8:bk) (c8:Nat),(k<=E xs)∧E xs-k=zm∧Sub zf [(6,.slice RX (E (aS (E xs))) c31),(7,br g7),(10,br g10),(51,.slice P2 (E xs) p2),(52,ah (E xs)),(53,ah k)]∧Wk zL (Wr g10 239 A8 c8 (CQ p w (xs.take k)) (Pt g7 235 w p P1 p1 P2 p2 xs (.own 5 1 RX (E (aS (E xs))) c31 (bv (aS (E xs)))::F)))) _ ⟨0,none,0,bU _,rfl,bp,by rw[show CQ p w (xs.take 0)=[] from rfl];exact .dK swp⟩ ?_;rintro _ _ _ ⟨k,A8,c8,Jw,rfl,hs,hp⟩;refine aT hs hp ?_;clear hs hp;refine aF ?_
      skip
      refine bF ?_;refine aj (λh54=>?_) λh54=>?_
      ·have hxk:=(hR k aa).1;have aoi:xs.getD k 0%p<p:=rZ _ Xg;have M5:p<=16384:=by rw[hp];exact vm DF
       have hLo:(oO (xs.map (· %p)))[k*1]? =some (.int .u16 (xs.getD k 0%p:Nat)):=by simp[oO,List.getD,fc (show k<E xs by omega)]
       have xB:=nF p w (xs.take k);have hlm:E (xs.take k)*w<=20000*14:=gU nf DF;refine bI ?_;refine ab (au ag rfl aB aa hLo) rfl (bK ?_);refine be Es rfl (as7 (CQ p w (xs.take k)) (xs.getD k 0%p) aa w aa (by rw[<-hp];exact aoi) aa) rfl ?_;rintro _ _ ⟨rfl,A61,c61,cO⟩;obtain rfl:=cO.symm;refine bI ?_;refine av ⟨_,aa,k+1,A61,c61,aa,rfl,bp,by rw[aY (show k<E xs by omega) 0,afh];exact .refl _⟩
      ·obtain rfl:k=E xs:=by omega
       rw[ki];refine anT ?_;refine aD (λzf zL zm=>∃(k:Nat) (A9:bk) (c9:Nat),(k<=E xs)∧E xs-k=zm∧Sub zf [(6,.slice RX (E (aS (E xs))) c31),(10,br g10),(13,ah (qb p 0 (xs.take k))),(64,.slice P1 (E xs) p1),(65,ah (E xs)),(66,ah k)]∧Wk zL (Wr g10 239 A9 c9 (CQ p w xs++B9 p 0 (xs.take k)) (Pt g7 235 w p P1 p1 P2 p2 xs (.own 5 1 RX (E (aS (E xs))) c31 (bv (aS (E xs)))::F)))) _ ⟨0,A8,c8,bU _,rfl,bp,by rw[zl];simp only[B9,gl];exact .refl _⟩ ?_;rintro _ _ _ ⟨k,A9,c9,hk3,rfl,hs,hp⟩;refine aT hs hp ?_;clear hs hp;refine bB ?_;refine aj (λOT=>?_) λOT=>?_
       ·have hxk:=(hR k aa).1;have hdv:=rY (xs.getD k 0) p;have hlp:=PI (p:=p) hR (k:=k) aa;have hHi:(bD (xs.map (· /p)))[k*1]? =some (ah (xs.getD k 0/p:Nat)):=by simp[bD,List.getD,fc (show k<E xs by omega)]
        have Av:=tu (p:=p) hR k aa;have hlb:=PH (p:=p) hR k aa;have xB:=nF p w xs;have hlm:E xs*w<=20000*14:=gU aa DF;have fN:=qc (p:=p) (xs:=xs) (k:=k) aa;refine bI ?_;refine ab (au ag rfl aB aa hHi) rfl (bI ?_);refine ab (dC rfl rfl (r:=((xs.getD k 0/p-qb p 0 (xs.take k):Nat):Int)) ((bq aa aa).trans aa)) rfl (be aq9 rfl (alx (CQ p w xs++B9 p 0 (xs.take k)) (xs.getD k 0/p-qb p 0 (xs.take k)) aa rG) rfl ?_);rintro _ _ ⟨rfl,A73,c73,cO⟩;obtain rfl:=cO.symm;refine cF ?_;refine av ⟨_,aa,k+1,A73,c73,aa,rfl,bp,by rw[aY (show k<E xs by omega) 0,G7,<-bX];exact .refl _⟩
       ·obtain rfl:k=E xs:=by omega
        rw[ki];refine bK ?_;refine ay rfl (aiJ _ aa) λA77 c77=>cC (aG fQ [_,_] rfl rfl cw aa aa) λA78=>ay rfl (yk (l:=sC b xs) (P:=[(.slice RX (E (aS (E xs))) c31,aS (E xs)),(.slice A77 (E (packed (CQ p w xs++B9 p 0 xs))) c77,packed (CQ p w xs++B9 p 0 xs))]) aB aqA rfl (by rw[aso aa];simp[eF.all]) (by rw[aso aa,aX];omega) ak) λA79 c79=>bF ?_;refine aq (L':=.own 5 1 A79 (E (sC b xs)) c79 (bv (sC b xs))::F) (.cons (.s8 (.refl _))) (aF ?_);exact⟨A79,c79,rfl,rfl⟩
  ·exfalso;omega
 ·exfalso;omega
theorem ZL{bound:Int}{ids:List Int}(hb:aM B w0 F 1 (.slice A (E ids) c) (E ids) (ints .i64 ids))(hl:E ids<=9000000000000000000):
  aZ B w0 88 [ah bound,.slice A (E ids) c] F (λr L=>∃A' c',r= .tuple #[.slice A' (E (RD bound ids).1) c',ah (RD bound ids).2]∧L= .own 5 1 A' (E (RD bound ids).1) c' (bv (RD bound ids).1)::F):=by
 by_cases hE:bound<0∨20000<bound∨¬IC bound ids
 ·rw[La hE];exact Ou hb hl hE
 ·have hR:IC bound ids:=bA λh=>hE (.inr (.inr h));obtain⟨xs,rfl⟩:=hR.afw;obtain⟨b,rfl⟩:=gi (show 0<=bound by omega);rw[Lb hE];rw[Pj,dX]at hb;rw[dX];exact SM hb aa ((tf b xs).1 hR)
theorem lx{P:Prop}(h:P:=by(first|rfl|trivial)):P:=h
theorem q9{P:Prop}(h:P:=by(rintro _ _ ⟨rfl,rfl⟩;exact⟨rfl,amp _⟩)):P:=h
theorem aqE{P:Prop}(h:P:=by(first|omega|(exact⟨λh=>by omega,λh=>by omega⟩)|(simp at h8;done))):P:=h
abbrev Rr(g:Nat)(A:bk)(c:Nat)(q:List Bool)(p:Nat)(F:aR):aR:=.bG g 451 [.slice A (E (packed q)) c,ah (E q),ah p]:: .own 5 1 A (E (packed q)) c (bv (packed q))::F
theorem agr(a b:Value){x y:Int}(h:x=y):[a,b,Value.int .i64 x]=[a,b,Value.int .i64 y]:=by rw[h]
theorem F7{l:al}(hb:fo B w0 F A c l)(hl:E l<=1000000):
  aZ B w0 322 [.slice A (E l) c] F (λr L=>∃g A' c',r=br g∧L=Rr g A' c' (gA l) 0 F):=by
 have Av:=dW l;refine fw func322 11 [0] ?_;refine bK ?_;refine ay rfl (mG l hb aa) λA4 c4=>bE ?_;refine ab (eZ [(0,_),(1,_)] [_,_] rfl rfl ag) rfl (ab (xp [(0,_)] [.slice A4 (E l) c4,ah (8*(E l:Int)),ah 0] rfl ag) rfl (bg λg10=>?_));refine b7 ?_;refine aq (L':=Rr g10 A4 c4 (gA l) 0 F) (bw (by rw[qs,Av];simp) (az (by rw[qs]) (by rw[qs]) (.refl _))) (aF ?_);exact⟨g10,A4,c4,rfl,rfl⟩
theorem u4(q:List Bool)(p:Nat)(hp:p<=E q)(hq:E q<=8000000):aZ B w0 325 [br g] (Rr g A c q p F) (λr L=>r=ah ((E q:Int)-p)∧L=Rr g A c q p F):=by
 refine fw func325 15 [0] ?_;refine ar_ ?_;exact⟨rfl,rfl⟩
theorem apx(q:List Bool)(p:Nat)(hp:p<=E q)(hq:E q<=8000000)(n:Int)(h1:-9223372036854775808<=n)(h2:n<=9223372036854775807):
  aZ B w0 352 [br g,ah n] (Rr g A c q p F) (λr L=>r=ah (skE q p n)∧L=Rr g A c q (skP q p n) F):=by
 refine fw func352 25 [0,1] ?_;refine ei ?_;refine aj (λh5=>?_) λh5=>?_
 ·refine bO ?_;simp only[skE,skP,ao h5];exact⟨lx,lx⟩
 ·refine bc ?_;refine bR 8 16 [0,1] ((E q:Int)<p+n) ?_ ?_
  ·refine bK ?_;refine ai rfl (u4 q p hp hq) (bE ?_);exact aL (by exact dG (by first|omega|(exact⟨λh=>by omega,λh=>aa⟩)|(simp at pg;done)))
  ·refine bE ?_;refine aj (λh8=>?_) λh8=>?_
   ·refine bO ?_;simp only[skE,skP,aw h5,ao h8];exact⟨lx,lx⟩
   ·refine E' ?_;refine aq (L':=Rr g A c q (skP q p n) F) (bw (by simp only[skP,aw h5,aw h8];refine agr _ _ (?_ :_=_);omega) (.refl _)) ?_;refine aF ?_;simp only[skE,aw h5,aw h8];exact⟨lx,lx⟩
theorem Jo(q:List Bool)(p:Nat)(hp:p<=E q)(hq:E q<=8000000)(n:Int)(h1:-9223372036854775808<=n)(h2:n<=9223372036854775807):
  aZ B w0 326 [br g,ah n] (Rr g A c q p F) (λr L=>r= .tuple #[.int .u64 (pA q p n),ah (sS q p n)]∧L=Rr g A c q (i_ q p n) F):=by
 refine fw func326 41 [0,1] ?_;refine bz ?_;refine bR 6 13 [0,1] (n<0∨64<n) ?_ ?_
 ·refine bE ?_;refine aI rfl rfl rfl (λjU=>?_) (λjU=>?_)
  ·refine b7 ?_;exact aL Zb
  ·refine bc ?_;exact aL Za
 ·refine bE ?_;refine aj (λh7=>?_) λh7=>?_
  ·refine bz ?_;simp only[pA,sS,i_,ao h7];exact⟨lx,lx⟩
  ·refine bc ?_;refine bR 8 22 [0,1] ((E q:Int)<p+n) ?_ ?_
   ·refine bK ?_;refine ai rfl (u4 q p hp hq) (bE ?_);exact aL (by exact dG (by first|omega|(exact⟨λh=>by omega,λh=>aa⟩)|(simp at iI;done)))
   ·refine bE ?_;refine aj (λku=>?_) λku=>?_
    ·refine bz ?_;simp only[pA,sS,i_,aw h7,ao ku];exact⟨lx,lx⟩
    ·obtain⟨m,rfl⟩:=gi (show 0<=n by omega);refine cY ?_;refine gy adg rfl (Ga q p m hp aa aa _ (packed q) rfl rfl aW aB) q9 rfl ?_;refine ei ?_;refine ve [6] ?_;refine bO ?_;refine aq (L':=Rr g A c q (i_ q p m) F) (bw (by simp only[i_,aw h7,aw ku];refine agr _ _ (?_ :_=_);omega) (.refl _)) ?_;refine aF ?_;simp only[pA,sS,aw h7,aw ku];exact⟨lx,lx⟩
theorem apg(q:List Bool)(p:Nat)(hp:p<=E q)(hq:E q<=8000000)(n:Int)(h1:-9223372036854775808<=n)(h2:n<=9223372036854775807):
  aZ B w0 350 [br g,ah n] (Rr g A c q p F) (λr L=>r= .tuple #[.int .u64 (pkV q p n),ah (pkN q p n)]∧L=Rr g A c q p F):=by
 refine fw func350 29 [0,1] ?_;refine bO ?_;refine bR 10 15 [0,1] (n<0∨64<n) ?_ ?_
 ·refine bO ?_;refine aI rfl rfl rfl (λnY=>?_) (λnY=>?_)
  ·refine b7 ?_;exact aL (by exact dG aqE)
  ·refine bc ?_;exact aL (by exact dS aqE)
 ·refine bc ?_;refine aj (λkF=>?_) λkF=>?_
  ·refine bO ?_;simp only[pkV,pkN,ao kF];exact⟨lx,lx⟩
  ·obtain⟨m,rfl⟩:=gi (show 0<=n by omega);refine cF ?_;refine gy adg rfl (Ga q p m hp aa aa _ (packed q) rfl rfl aW aB) q9 rfl ?_;refine bc ?_;refine gy arH rfl (u4 q p hp hq) q9 rfl ?_;refine bL (yM rfl rfl) rfl (bB ?_);simp only[pkV,pkN,aw kF];exact⟨lx,lx⟩
theorem ahI(q:List Bool)(p:Nat)(hp:p<=E q)(hq:E q<=8000000):
  aZ B w0 324 [br g] (Rr g A c q p F) (λr L=>r= .tuple #[ah (unV q p),ah (unR q p)]∧L=Rr g A c q (unP q p) F):=by
 refine fw func324 39 [0] ?_;refine aed ?_;refine aD (λzf zL zm=>∃(k:Nat),(k<=E q∧Z q p=Z q k)∧E q-k=zm∧Sub zf [(0,br g),(4,ah k)]∧Wk zL (Rr g A c q p F)) _ ⟨p,⟨hp,rfl⟩,rfl,bp,.refl _⟩ ?_;rintro _ _ _ ⟨k,⟨hk,hz⟩,rfl,hs,hp⟩;refine aT hs hp ?_;clear hs hp;refine cF ?_;refine aj (λiC=>?_) λiC=>?_
 ·refine bz ?_;refine ai rfl (alN q k aa aa _ (packed q) rfl rfl aW aB) (bE ?_);refine aj (λqy=>?_) λqy=>?_
  ·have qJ:im q k=1:=by omega
   have hzk:=ah8 qJ aa;have hzg:=am2 q p;have hzl:Z q p<E q:=by omega
   refine bO ?_;refine ve [0,4,5] ?_;refine aec ?_;refine aq (L':=Rr g A c q (unP q p) F) (bw (by simp only[unP,ao hzl];refine agr _ _ (?_ :_=_);omega) (.refl _)) ?_;refine aF ?_;simp only[unV,unR,ao hzl];exact⟨dQ (λx=>Value.tuple #[ah x,ah 0]) aa,trivial⟩
  ·refine bK ?_;refine av ⟨_,aa,k+1,⟨aa,by rw[hz];exact MM aa aa⟩,rfl,bp,.refl _⟩
 ·refine cY ?_;have hzl:¬Z q p<E q:=by have:=YU (q:=q) (k:=k) aa;omega
  simp only[unV,unR,unP,aw hzl];exact⟨lx,lx⟩
theorem as4(q:List Bool)(p:Nat)(hp:p<=E q)(hq:E q<=8000000):
  aZ B w0 343 [br g] (Rr g A c q p F) (λr L=>r=ah (paE q p)∧L=Rr g A c q p F):=by
 have hpi:=akt q hp;refine fw func343 22 [0] ?_;refine Bh ?_;refine ai rfl (u4 q p hp hq) (bF ?_);refine Dw 14 21 [] (¬((E q:Int)-p<8∧Z q p=E q)) ?_ ?_
 ·refine bE ?_;refine Ca rfl rfl rfl (λjU=>?_) (λjU=>?_)
  ·refine cF ?_;have hle:E q-p<=7:=by omega
   refine b7 ?_;refine gy adg rfl ((by rw[show(E q:Int)-p=((E q-p:Nat):Int) by omega];exact Ga q p (E q-p) hp aa aa _ (packed q) rfl rfl aW aB)) q9 rfl ?_;refine bE ?_;exact rj Zb
  ·refine bz ?_;exact rj Za
 ·refine bc ?_;refine aj (λmx=>?_) λmx=>?_
  ·refine bK ?_;simp only[paE,aw mx];exact⟨lx,lx⟩
  ·refine bO ?_;simp only[paE,ao (Decidable.not_not.1 mx)];exact⟨lx,lx⟩
theorem VZ{P:Prop}(h:P:=by(rw[hz];decide)):P:=h
theorem oS{P:Prop}(h:P:=by(rw[hz])):P:=h
def Aw(q:List Bool)(w n:Nat):bf:=(List.range n).map λi=>part q (i*w) w
theorem s_(q:List Bool)(w n:Nat):E (Aw q w n)=n:=by simp[Aw]
theorem PN(q:List Bool)(w n:Nat):Aw q w (n+1)=Aw q w n++[part q (n*w) w]:=by simp[Aw,lT]
def Mm(bound p:Nat)(q:List Bool):bf->Nat->Nat->Int->bf->bf×Nat×Int
 |[],pos,_,_,out=>(out,pos,0)
 |x::ls,pos,high,was,out=>
  if¬Z q pos<E q then ([],0,1)
  else if (((high+(Z q pos-pos))*p+x:Nat):Int)<=was then ([],0,2)
  else if bound<=(high+(Z q pos-pos))*p+x then ([],0,8)
  else Mm bound p q ls (Z q pos+1) (high+(Z q pos-pos)) ((high+(Z q pos-pos))*p+x:Nat) (out++[(high+(Z q pos-pos))*p+x])
def C8(bound n:Nat)(b:al):bf×Nat×Int:=Mm bound (2^wid bound n) (gA b) (Aw (gA b) (wid bound n) n) (n*wid bound n) 0 (-1) []
def lH(bound n:Nat)(b:al):Nat:=(E (gA b)-(C8 bound n b).2.1)%8
def jZ(bound n:Nat)(b:al):bf×Nat×Int:=
 if E (gA b)<n*wid bound n then ([],0,1)
 else if (C8 bound n b).2.2≠0 then ([],0,(C8 bound n b).2.2)
 else if part (gA b) (C8 bound n b).2.1 (lH bound n b)≠0 then ([],0,2)
 else ((C8 bound n b).1,E b-(E (gA b)-((C8 bound n b).2.1+lH bound n b))/8,0)
theorem afk(q:List Bool){m w:Nat}(hm:m<=20000)(hw:w<=14)(hq:E q<=8000000)(hE:E q<m*w):
  aZ B w0 323 [br g,ah m,ah w] (Rr g A c q 0 F) (λr L=>r= .tuple #[.slice none 0 0,ah 1]∧L=Rr g A c q 0 F):=by
 have hmw:m*w<=20000*14:=gU hm hw;have hmul:IntKind.i64.wrap ((m:Int)*(w:Int))=((m*w:Nat):Int):=by
  rw[<-zi];generalize m*w=z at*;exact bq aa aa
 refine fw func323 38 [0,1,2] ?_;refine de ?_;refine ab (eH rfl rfl hmul) rfl (aF ?_);refine ai rfl (u4 q 0 (bU _) hq) (bE ?_);refine Bf λiI=>?_;refine bO ?_;exact⟨rfl,rfl⟩
theorem aj2(q:List Bool){m w:Nat}(hm:m<=20000)(hw:w<=14)(hq:E q<=8000000)(hE:m*w<=E q):
  aZ B w0 323 [br g,ah m,ah w] (Rr g A c q 0 F) (λr L=>∃A' c',r= .tuple #[.slice A' m c',ah 0]∧L=Rr g A c q (m*w) (.own 57 1 A' m c' (oO (Aw q w m))::F)):=by
 have hmw:m*w<=20000*14:=gU hm hw;have hmul:IntKind.i64.wrap ((m:Int)*(w:Int))=((m*w:Nat):Int):=by
  rw[<-zi];generalize m*w=z at*;exact bq aa aa
 refine fw func323 38 [0,1,2] ?_;refine de ?_;refine ab (eH rfl rfl hmul) rfl (aF ?_);refine ai rfl (u4 q 0 (bU _) hq) (bE ?_);refine dw λiI=>?_;refine bF ?_;refine cC (ft vr rfl rfl rfl rfl rfl aa aa aa) λMO=>cF ?_;refine aD (λzf zL zm=>∃(k:Nat),(k<=m)∧m-k=zm∧Sub zf [(0,br g),(2,ah w),(8,.slice MO m m),(21,ah m),(22,ah k)]∧Wk zL (Rr g A c q (k*w) (.own 57 1 MO m m (oO (Aw q w k)++List.replicate (m-k) (.int .u16 0))::F))) _ ⟨0,bU _,rfl,bp,by rw[qC];exact(gE (gE (eu (.refl _))))⟩ ?_;rintro _ _ _ ⟨k,hk,rfl,hs,hp⟩;refine aT hs hp (bB ?_);refine aj (λmB=>?_) λmB=>?_
 ·have hkw:(k+1)*w<=m*w:=ph w aa;have To:(k+1)*w=k*w+w:=kH k w;have mP:=qU q (k*w) w;have hpw:=vm hw;have hlr:=s_ q w k;have hgv:pA q (k*w) w=part q (k*w) w:=by unfold pA;rw[aw aa,aw aa,oo]
  have Tn:i_ q (k*w) w=(k+1)*w:=by unfold i_;rw[aw aa,aw aa,oo,To]
  refine ei ?_;refine ai rfl (Jo q (k*w) aa hq w aa aa) ?_;rw[hgv,Tn];refine anT ?_;refine ve [0,2,8,21,22] ?_;refine av ⟨_,aa,k+1,aa,rfl,bp,.cons (.cons (az rfl (by rw[cH,X7 _ (show k<m by omega),Mp _ _ _ _ (by simp[s_]),PN];simp[oO]) (.refl _)))⟩
 ·refine cY ?_;obtain rfl:k=m:=by omega
  refine aq (L':=Rr g A c q (k*w) (.own 57 1 MO k k (oO (Aw q w k))::F)) (.cons (.cons (az rfl (by rw[oj,Pw,gl]) (.refl _)))) (aF ?_);exact⟨MO,k,rfl,rfl⟩
theorem EN{bound m:Nat}{b:al}(h:E (gA b)<m*wid bound m):jZ bound m b=([],0,1):=ao h
theorem WE{bound m:Nat}{b:al}(h:¬E (gA b)<m*wid bound m)(he:(C8 bound m b).2.2≠0):jZ bound m b=([],0,(C8 bound m b).2.2):=by unfold jZ;rw[aw h,ao he]
theorem WG{bound m:Nat}{b:al}(h:¬E (gA b)<m*wid bound m)(he:¬(C8 bound m b).2.2≠0)(hp:part (gA b) (C8 bound m b).2.1 (lH bound m b)≠0):jZ bound m b=([],0,2):=by unfold jZ;rw[aw h,aw he,ao hp]
theorem Oj{bound m:Nat}{b:al}(h:¬E (gA b)<m*wid bound m)(he:¬(C8 bound m b).2.2≠0)(hp:¬part (gA b) (C8 bound m b).2.1 (lH bound m b)≠0):jZ bound m b=((C8 bound m b).1,E b-(E (gA b)-((C8 bound m b).2.1+lH bound m b))/8,0):=by unfold jZ;rw[aw h,aw he,aw hp]
theorem orQ{h x w p:Nat}(hp:p=2^w)(hx:x<p)(hb:h*p<=4611686018427387904)(M5:p<=16384):IntKind.i64.wrap ((BitVec.ofInt IntKind.i64.bits ((h*p:Nat):Int) ||| BitVec.ofInt IntKind.i64.bits (x:Int)).toNat:Int)=((h*p+x:Nat):Int):=by
 have hh:=aeT (h*p) x aa aa;have e:h*p ||| x=h*p+x:=by
  rw[hp]at hx⊢;rw[jL,<-Pr hx]
 rw[e]at hh;exact hh
theorem aj0{q:List Bool}{w m k:Nat}(h:k<m):(Aw q w m).getD k 0=part q (k*w) w:=by simp[Aw,List.getD,h]
def aid(bound m:Nat)(b:al)(F:aR)(r:Value)(L:aR):Prop:=
 ((jZ bound m b).2.2≠0∧r= .tuple #[.pointer none,ah 0,ah (jZ bound m b).2.2]∧L=F)∨
 ((jZ bound m b).2.2=0∧∃g A1 c1 A2 c2,r= .tuple #[br g,ah (jZ bound m b).2.1,ah 0]∧L=Pt g 405 (wid bound m) (2^wid bound m) A1 c1 A2 c2 (jZ bound m b).1 F)
theorem akL{bound m:Nat}{b:al}(hb:fo B w0 F A c b)(di:E b<=1000000)(pB:bound<=20000)(hm:1<=m)(hmb:m<=bound)(hE:E (gA b)<m*wid bound m):
  aZ B w0 299 [ah bound,ah m,.slice A (E b) c] F (aid bound m b F):=by
 have Av:=dW b;have DF:=xZ (n:=m) pB;refine fw func299 107 [0,1,2] ?_;refine bz ?_;refine fh rfl (F7 hb aa) λg24 AD Dr=>bI ?_;refine ai rfl (MI bound m pB hm hmb) (ab (bx [(0,_)] [ah 0,.slice none 0 0,.slice none 0 0] [0] [_,_,_] rfl rfl ag) rfl (ab (eZ [(0,_)] [_,_,_] rfl rfl ag) rfl (bg λg30=>?_)));refine cF ?_;refine ai rfl ((afk (gA b) (m:=m) (w:=wid bound m) aa DF aa hE).perm ((mC (mC (fV (.refl _)))))) (bF ?_);refine ve [0,2,9,10,11,12] ?_;refine bK ?_;refine aj (λZ4=>?_) λZ4=>?_
 ·refine bz ?_;refine aq (L':=F) (.s3 (.refl _)) (aF ?_);exact .inl ⟨by rw[EN hE];decide,by rw[EN hE],rfl⟩
 ·exfalso;exact Z4 ax
theorem apn{bound m:Nat}{b:al}(hb:fo B w0 F A c b)(di:E b<=1000000)(pB:bound<=20000)(hm:1<=m)(hmb:m<=bound)(hE:¬E (gA b)<m*wid bound m):
  aZ B w0 299 [ah bound,ah m,.slice A (E b) c] F (aid bound m b F):=by
 have Av:=dW b;have DF:=xZ (n:=m) pB;have hF0:C8 bound m b=Mm bound (2^wid bound m) (gA b) (Aw (gA b) (wid bound m) m) (m*wid bound m) 0 (-1) []:=rfl;have OU:lH bound m b=(E (gA b)-(C8 bound m b).2.1)%8:=rfl;unfold aid;have RR:jZ bound m b=jZ bound m b:=rfl;obtain⟨q,hq⟩:=cK (gA b);have hEe:= @WE bound m b hE;have hEp:= @WG bound m b hE;have hEo:= @Oj bound m b hE;rw[<-hq]at hE Av hF0 OU hEp hEo;obtain⟨w,hw⟩:=cK (wid bound m);rw[<-hw]at hE DF hF0⊢;obtain⟨p,hp⟩:=cK (2^w);rw[<-hp]at hF0⊢;have Xg:1<=p:=by rw[hp];exact Nat.one_le_two_pow
 have M5:p<=16384:=by rw[hp];exact vm DF
 have awm:=s_ q w m;refine fw func299 107 [0,1,2] ?_;refine bz ?_;refine fh rfl (F7 hb aa) λg24 AD Dr=>?_;rw[<-hq];refine bI ?_;refine ai rfl (MI bound m pB hm hmb) ?_;rw[<-hw];refine ab (bx [(0,_)] [ah 0,.slice none 0 0,.slice none 0 0] [0] [_,_,_] rfl rfl ag) rfl (ab (eZ [(0,_)] [_,_,_] rfl rfl ag) rfl (bg λg30=>?_));refine cF ?_;refine ay rfl ((aj2 q (m:=m) (w:=w) aa DF aa aa).perm ((mC (mC (fV (.refl _)))))) λA39 c39=>bF ?_;refine ve [0,2,9,10,11,12] ?_;refine bK ?_;refine aj (λZ4=>?_) λZ4=>?_
 ·exfalso;exact Z4 ax
 ·refine bE ?_;refine a_ 57 1 none (a_ 3 1 none (ei ?_));refine aD (λzf zL zm=>∃(k pos high:Nat) (was:Int) (out:bf) (P1:bk) (p1:Nat) (P2:bk) (p2:Nat),(k<=m∧pos<=E q∧high<=20000∧E out=k∧Mm bound p q ((Aw q w m).drop k) pos high was out=C8 bound m b)∧m-k=zm∧Sub zf [(0,ah bound),(2,.slice A (E b) c),(9,br g24),(10,br g30),(13,ah high),(14,ah was),(45,.slice A39 m c39),(46,ah m),(47,ah k)]∧Wk zL (Rr g24 AD Dr q pos (Pt g30 405 w p P1 p1 P2 p2 out (.own 57 1 A39 m c39 (oO (Aw q w m))::F)))) _ ⟨0,m*w,0,-1,[],none,0,none,0,⟨bU _,aa,bU _,rfl,hF0.symm⟩,rfl,bp,(sE (sE (ur (eu (eu (eu (.refl _)))))))⟩ ?_;rintro _ _ _ ⟨k,pos,high,was,out,P1,p1,P2,p2,⟨hk,uL,hhi,LA,hG⟩,rfl,hs,hp⟩;refine aT hs hp ?_;clear hs hp;refine bB ?_;refine aj (λS5=>?_) λS5=>?_
  ·have hx:=aj0 (q:=q) (w:=w) (m:=m) (k:=k) aa;have LC:=qU q (k*w) w;have hd:=dD (l:=Aw q w m) (k:=k) aa 0;obtain⟨x,hxx⟩:=cK ((Aw q w m).getD k 0);have y8:(oO (Aw q w m))[k*1]? =some (.int .u16 (x:Int)):=by rw[hxx];exact ahG aa
   rw[<-hx,<-hxx,<-hp]at LC;rw[hd,<-hxx,Mm]at hG;have hzg:=am2 q pos;have hzl:=atG q uL;refine bI ?_;refine ab (au ag rfl aB aa y8) rfl (bB ?_);refine ai rfl (ahI q pos uL aa) (ei ?_);refine aj (λh57=>?_) λh57=>?_
   ·have hnz:¬Z q pos<E q:=λh=>h57 (by unfold unR;rw[ao h]);have uk:unR q pos=1:=by unfold unR;rw[aw hnz]
    rw[ao hnz]at hG;have hz:=hEe (by rw[<-hG];decide);rw[<-hG]at hz;refine bB ?_;refine ve [6,7,8] ?_;refine bK ?_;refine aq (L':=F) (.s6 (.refl _)) (aF ?_);exact .inl ⟨VZ,by rw[hz,uk],rfl⟩
   ·have hnz:Z q pos<E q:=bA λh=>h57 (by unfold unR;rw[aw h];decide);have hv:unV q pos=((Z q pos-pos:Nat):Int):=by unfold unV;rw[ao hnz];omega
    have hu:unP q pos=Z q pos+1:=by unfold unP;rw[ao hnz]
    rw[hv,hu];rw[aw (by simpa using hnz)]at hG;obtain⟨h2,hh2⟩:=cK (high+(Z q pos-pos));rw[<-hh2]at hG;have hmul:h2*p<=10000000*16384:=gU aa M5;obtain⟨id,hid⟩:=cK (h2*p+x);rw[<-hid]at hG;refine bB ?_;refine ab (bJ rfl rfl (r:=(h2:Int)) ((bq aa aa).trans aa)) rfl (de ?_);refine ab (gk rfl rfl aa (akT hp DF aa)) rfl (bc ?_);refine ab (uC rfl rfl (r:=(id:Int)) ((orQ hp LC aa M5).trans (by rw[hid]))) rfl (aF ?_);refine ve [0,2,9,10,13,14,19,45,46,47] ?_;refine de ?_;refine aj (λZ7=>?_) λZ7=>?_
    ·rw[ao aa]at hG;have hz:=hEe (by rw[<-hG];decide);rw[<-hG]at hz;refine jt ?_;refine aq (L':=F) (.s6 (.refl _)) (aF ?_);exact .inl ⟨VZ,oS,rfl⟩
    ·rw[aw aa]at hG;refine bK ?_;refine aj (λh76=>?_) λh76=>?_
     ·rw[ao aa]at hG;have hz:=hEe (by rw[<-hG];decide);rw[<-hG]at hz;refine bF ?_;refine ve [6,7,8] ?_;refine bO ?_;refine aq (L':=F) (.s6 (.refl _)) (aF ?_);exact .inl ⟨VZ,oS,rfl⟩
     ·rw[aw aa]at hG;have awf:h2<=h2*p:=ae7 h2 Xg;refine ei ?_;refine be alU rfl ((afU 405 hp DF out id aa aa).perm ((BQ (BQ (BQ (fV (fV (.refl _)))))))) rfl ?_;rintro _ _ ⟨rfl,P85,p85,Q85,q85,cO⟩;obtain rfl:=cO.symm;refine bB ?_;refine ve [0,2,9,10,13,14,45,46,47] ?_;refine av ⟨_,aa,k+1,Z q pos+1,h2,(id:Int),out++[id],P85,p85,Q85,q85,⟨aa,aa,aa,bT,hG⟩,rfl,bp,(ur (ur (eu (eu (eu (.refl _))))))⟩
  ·obtain rfl:k=m:=by omega
   rw[mU aa,Mm]at hG;rw[<-hG]at hEp hEo OU;simp only at OU;obtain⟨rest,Pc⟩:=cK (lH bound k b);rw[<-Pc]at OU hEp hEo;have hrm:((E q:Int)-pos).tmod 8=(rest:Int):=by
    rw[show(E q:Int)-pos=((E q-pos:Nat):Int) by omega,OU];exact(Int.ofNat_tmod _ 8).symm
   have hrl:rest<8:=by omega
   refine bF ?_;refine dY (λzf zL=>(part q pos rest=0)∧Sub zf [(2,.slice A (E b) c),(9,br g24),(10,br g30)]∧Wk zL (Rr g24 AD Dr q (pos+rest) (Pt g30 405 w p P1 p1 P2 p2 out (.own 57 1 A39 k c39 (oO (Aw q w k))::F)))) ?_ ?_
   ·refine bE ?_;refine ai rfl (u4 q pos uL aa) (ab (l8 rfl rfl aa hrm) rfl (bO ?_));refine aj (λh91=>?_) λh91=>?_
    ·have hgv:pA q pos rest=part q pos rest:=by unfold pA;rw[aw aa,aw aa,oo]
     have Tn:i_ q pos rest=pos+rest:=by unfold i_;rw[aw aa,aw aa,oo]
     refine b7 ?_;refine ai rfl (Jo q pos uL aa rest aa aa) ?_;rw[hgv,Tn];refine bF ?_;refine ve [2,9,10,21] ?_;refine bI ?_;refine aj (λh99=>?_) λh99=>?_
     ·have hz:=hEp ak (show part q pos rest≠0 by omega);refine bO ?_;refine aq (L':=F) (.s6 (.refl _)) (aF ?_);exact .inl ⟨VZ,oS,rfl⟩
     ·refine aF ?_;exact bC ⟨aa,bp,.refl _⟩
    ·refine aF ?_;have hr0:rest=0:=by omega
     exact bC ⟨by rw[hr0];rfl,bp,by rw[hr0,sX];exact .refl _⟩
   ·rintro _ _ ⟨hpz,hs,hp⟩;refine aT hs hp ?_;clear hs hp;refine bB ?_;refine ai rfl (u4 q (pos+rest) aa aa) (ab (mJ rfl rfl aa (r:=(((E q-(pos+rest))/8:Nat):Int)) (by rw[show(E q:Int)-((pos+rest:Nat):Int)=((E q-(pos+rest):Nat):Int) by omega];exact akC aa)) rfl (ab (dC rfl rfl (r:=((E b-(E q-(pos+rest))/8:Nat):Int)) ((bq aa aa).trans aa)) rfl (bB ?_)));have hz:=hEo ak (by simpa using hpz);refine aq (L':=Pt g30 405 w p P1 p1 P2 p2 out F) ((sE (sE (sE (.s3 (.refl _)))))) (aF ?_);exact .inr ⟨oS,g30,P1,p1,P2,p2,oS,oS⟩
theorem dU.jD{P:Program}{B:Nat}{w0:World}{f:FuncId}{args:cZ}{L M:aR}{v:Value}(h:dU P B w0 f args M (λr K=>r=v∧K=M))(hp:L.Perm M):dU P B w0 f args L (λr K=>r=v∧K=L):=λw hw=>
 (h w (hw.perm hp)).mono λe w' ⟨r,K,he,⟨hr,hK⟩,hs⟩=>by subst hK;exact⟨r,L,he,⟨hr,rfl⟩,hs.perm hp.symm⟩
theorem Lx(a:Nat):((a:Int)).fdiv (2^min (1:Int).toNat IntKind.u64.bits)=((a/2:Nat):Int):=by
 have e:min (1:Int).toNat IntKind.u64.bits=1:=by decide
 rw[e,wW _ ax];rfl
abbrev Rl(g w p:Nat)(A1:bk)(c1:Nat)(A2:bk)(c2:Nat)(xs:bf)(F:aR):aR:=Pt g 405 w p A1 c1 A2 c2 xs F
theorem aff{w p:Nat}{xs:bf}:aZ B w0 269 [br g] (Rl g w p A1 c1 A2 c2 xs F) (λr L=>r=ah (E xs)∧L=Rl g w p A1 c1 A2 c2 xs F):=by
 refine fw func269 11 [0] ?_;refine ar8 ?_;exact⟨rfl,rfl⟩
theorem lE.mono{bound:Nat}{xs:bf}(h:lE bound xs):∀j i,i<=j->j<E xs->xs.getD i 0<=xs.getD j 0
 |0,i,Jv,_=>by rw[Nat.le_zero.1 Jv];exact gC _
 |j+1,i,Jv,hj=>by
  by_cases e:i=j+1
  ·rw[e];exact gC _
  ·have h1:=lE.mono h j i aa aa;have h2:=(h (j+1) hj).2 aa;rw[uS]at h2;omega
theorem aoB{w p:Nat}(hp:p=2^w)(hw:w<=14){xs:bf}(hx:∀i,i<E xs->xs.getD i 0<=1000000)(hl:E xs<=1000000):
  aZ B w0 270 [br g] (Rl g w p A1 c1 A2 c2 xs F) (λr L=>∃A' c',r= .slice A' (E xs) c'∧L=Rl g w p A1 c1 A2 c2 xs (.own 3 1 A' (E xs) c' (bD xs)::F)):=by
 refine fw func270 20 [0] ?_;refine bB ?_;refine a_ 3 1 none (bK ?_);refine ai rfl ((aff (w:=w) (p:=p) (xs:=xs)).jD ((mC (mC (mC (fV (.refl _))))))) (b7 ?_);refine aD (λzf zL zm=>∃(k:Nat) (A5:bk) (c5:Nat),(k<=E xs)∧E xs-k=zm∧Sub zf [(0,br g),(3,.slice A5 k c5),(6,ah (E xs)),(7,ah k)]∧Wk zL (Rl g w p A1 c1 A2 c2 xs (.own 3 1 A5 k c5 (bD (xs.take k))::F))) _ ⟨0,none,0,bU _,rfl,bp,(gE (gE (gE (eu (.refl _)))))⟩ ?_;rintro _ _ _ ⟨k,A5,c5,hk,rfl,hs,hp⟩;refine aT hs hp ?_;clear hs hp;refine bB ?_;refine aj (λh8=>?_) λh8=>?_
 ·refine jG ?_;refine ai rfl (aoT 405 hp hw xs k aa (hx k aa)) (dL fT rfl rfl rfl rfl rfl (λ_=>rfl) aW aa aa ?_);intro _ Vy c17;refine bK ?_;refine av ⟨_,aa,k+1,Vy,c17,aa,rfl,bp,.cons (.cons (.cons (az rfl (by rw[aY (show k<E xs by omega) 0];simp[bD]) (.refl _))))⟩
 ·refine cF ?_;obtain rfl:k=E xs:=by omega
  rw[ki];refine aF ?_;exact⟨A5,c5,rfl,rfl⟩
theorem NT:aZ B w0 177 [br g] (Cv g A c s::F) (λr L=>r=ah s.at_∧L=Cv g A c s::F):=by
 refine fw func177 10 [0] ?_;refine aed ?_;exact⟨rfl,rfl⟩
def tO(bound:Int)(b:al):Cs:=Cs.bZ ⟨b,0,0⟩ bound
def Dk(bound:Int)(b:al):Nat:=Cs.int ⟨b,0,0⟩ bound
def Hw(bound:Int)(b:al):bf×Nat×Int:=jZ bound.toNat (Dk bound b) (b.drop (tO bound b).at_)
def jb(bound:Int)(b:al):bf×Nat×Int:=
 if bound<0∨20000<bound then ([],0,13)
 else if (tO bound b).e≠0 then ([],0,(tO bound b).e)
 else if Dk bound b=0 then ([],(tO bound b).at_,0)
 else if (Hw bound b).2.2≠0 then ([],0,(Hw bound b).2.2)
 else ((Hw bound b).1,(tO bound b).at_+(Hw bound b).2.1,0)
theorem EL{bound:Int}{b:al}(h:bound<0∨20000<bound):jb bound b=([],0,13):=ao h
theorem EM{bound:Int}{b:al}(h:¬(bound<0∨20000<bound))(h1:(tO bound b).e≠0):jb bound b=([],0,(tO bound b).e):=by unfold jb;rw[aw h,ao h1]
theorem K_{bound:Int}{b:al}(h:¬(bound<0∨20000<bound))(h1:¬(tO bound b).e≠0)(h2:Dk bound b=0):jb bound b=([],(tO bound b).at_,0):=by unfold jb;rw[aw h,aw h1,ao h2]
theorem adx{bound:Int}{b:al}(h:¬(bound<0∨20000<bound))(h1:¬(tO bound b).e≠0)(h2:¬Dk bound b=0)(h3:(Hw bound b).2.2≠0):jb bound b=([],0,(Hw bound b).2.2):=by unfold jb;rw[aw h,aw h1,aw h2,ao h3]
theorem SJ{bound:Int}{b:al}(h:¬(bound<0∨20000<bound))(h1:¬(tO bound b).e≠0)(h2:¬Dk bound b=0)(h3:¬(Hw bound b).2.2≠0):jb bound b=((Hw bound b).1,(tO bound b).at_+(Hw bound b).2.1,0):=by unfold jb;rw[aw h,aw h1,aw h2,aw h3]
def aqc(bound:Int)(b:al)(F:aR)(r:Value)(L:aR):Prop:=
 ((jb bound b).2.2≠0∧r= .tuple #[.pointer none,ah 0,ah (jb bound b).2.2]∧L=F)∨
 ((jb bound b).2.2=0∧∃w p g A1 c1 A2 c2,p=2^w∧w<=14∧r= .tuple #[br g,ah (jb bound b).2.1,ah 0]∧L=Rl g w p A1 c1 A2 c2 (jb bound b).1 F)
theorem Ja(bound m:Nat)(b:al):(jZ bound m b).2.1<=E b:=by
 unfold jZ;split
 ·exact bU _
 ·split
  ·exact bU _
  ·split
   ·exact bU _
   ·exact Nat.sub_le ..
theorem amE{bound m:Nat}{b:al}(hb:fo B w0 F A c b)(di:E b<=1000000)(pB:bound<=20000)(hm:1<=m)(hmb:m<=bound):
  aZ B w0 299 [ah bound,ah m,.slice A (E b) c] F (aid bound m b F):=by
 by_cases hE:E (gA b)<m*wid bound m
 ·exact akL hb di pB hm hmb hE
 ·exact apn hb di pB hm hmb hE
theorem adA{bound:Int}{b:al}(hb:fo B w0 F A c b)(di:E b<=1000000)(aek:-9223372036854775808<=bound)(OV:bound<=9223372036854775807):
  aZ B w0 268 [ah bound,.slice A (E b) c] F (aqc bound b F):=by
 have ho0:cu ⟨b,0,0⟩:=⟨bU _,dh⟩
 have ho1:cu (tO bound b):=ho0.bZ OV;have hrb:(tO bound b).b=b:=Cs.cQ _ _ _;have ug:(tO bound b).at_<=E b:=by have:=ho1.at_;rw[hrb]at this;exact this
 have hnb:0<=bound->(Dk bound b:Int)<=bound:=λh=>by
  unfold Dk Cs.int;rw[aw ak];by_cases he:(eM (Cs.rest ⟨b,0,0⟩) bound).2.2=0
  ·exact(jV _ bound OV).2.2.2 he
  ·rw[(qd he).1];exact h
 have hcut:=hb.cut ug;have hrl:(Hw bound b).2.1<=E b:=by
  have:=Ja bound.toNat (Dk bound b) (b.drop (tO bound b).at_);rw[iG]at this;unfold Hw;omega
 have aub:(bv b).drop ((tO bound b).at_*1)=bv (b.drop (tO bound b).at_):=by rw[cH,jR]
 rw[aub,show E b-(tO bound b).at_=E (b.drop (tO bound b).at_) from(iG ..).symm]at hcut;have hint:∀{g:Nat} {A':bk} {c':Nat} {F':aR},aM B w0 F' 1 (.slice A' (E b) c') (E b) (bv b)->aZ B w0 172 [br g,ah bound] (Cv g A' c' ⟨b,0,0⟩::F') (λr L=>r=ah (Dk bound b)∧L=Cv g A' c' (tO bound b)::F'):=λRJ=>ja ho0 RJ aek OV;by_cases hRw:(Hw bound b).2.2=0
 ·refine fw func268 54 [0,1] ?_;refine bz ?_;refine bR 6 18 [0,1] (bound<0∨20000<bound) ?_ ?_
  ·refine bE ?_;refine aI rfl rfl rfl (λkF=>?_) (λkF=>?_)
   ·refine b7 ?_;exact aL pM
   ·refine bc ?_;exact aL wy
  ·refine bc ?_;refine aj (λiC=>?_) λiC=>?_
   ·refine bz ?_;exact .inl ⟨by rw[EL iC];decide,by rw[EL iC],rfl⟩
   ·obtain⟨bn,rfl⟩:=gi (show 0<=bound by omega);have au5:=hnb aa;refine bF ?_;refine fh rfl (nC hb aa) λg20 DZ HH=>bI ?_;refine ai rfl (hint aB) (bI ?_);refine ai rfl (gW) (bO ?_);refine aj (λkG=>?_) λkG=>?_
    ·refine bz ?_;refine aq (L':=F) (.s2 (.refl _)) (aF ?_);exact .inl ⟨by rw[EM iC kG];exact kG,by rw[EM iC kG],rfl⟩
    ·refine bO ?_;refine aj (λz_=>?_) λz_=>?_
     ·refine aF ?_;refine a_ 57 1 none (a_ 3 1 none (gx ((BQ (BQ (fV (fV (.refl _)))))) ?_));refine aF ?_;refine ab (cJ [ah 0,.slice none 0 0,.slice none 0 0] ag) rfl (bg λg32=>?_);refine aF ?_;refine ai rfl ((NT).jD ((mC (fV (.refl _))))) (bE ?_);refine ve [4,5,6] ?_;refine bE ?_;have hz:=K_ (b:=b) iC kG (show Dk bn b=0 by omega);refine aq (L':=Rl g32 0 1 none 0 none 0 [] F) ((eu (sE (sE (.s2 (.refl _)))))) (aF ?_);exact .inr ⟨oS,0,1,g32,none,0,none,0,rfl,aa,oS,oS⟩
     ·refine bK ?_;refine ai rfl (NT) (ab (bY (i:=(tO bn b).at_) (size:=1) underlying27 ag rfl rfl rfl ug) rfl ?_);rw[show E b-(tO bn b).at_=E (b.drop (tO bn b).at_) from(iG ..).symm];refine be arA rfl ((amE (bound:=bn) (m:=Dk bn b) (b:=b.drop (tO bn b).at_) (.cons (.cons hcut)) ly aa aa aa).mono (R':=λr L=>∃g A1 c1 A2 c2,r= .tuple #[br g,ah (Hw bn b).2.1,ah 0]∧L=Rl g (wid bn (Dk bn b)) (2^wid bn (Dk bn b)) A1 c1 A2 c2 (Hw bn b).1 (Cv g20 DZ HH (tO bn b):: .own 5 1 DZ (E b) HH (bv b)::F)) (λr L h=>by rcases h with⟨h1,_⟩|⟨_,h⟩;exact absurd hRw h1;exact h)) rfl ?_;rintro _ _ ⟨g42,P42,p42,Q42,q42,rfl,cO⟩;obtain rfl:=cO.symm;refine bI ?_;refine ve [7,10,11,12] ?_;refine bK ?_;refine aj (λW5=>?_) λW5=>?_
      ·exfalso;exact W5 rfl
      ·refine bB ?_;refine ai rfl ((NT).jD ((pu3 (fV (fV (fV (.refl _))))))) (aF ?_);refine ab (bJ rfl rfl (r:=(((tO bn b).at_+(Hw bn b).2.1:Nat):Int)) ((bq aa aa).trans aa)) rfl (bB ?_);have hz:=SJ (b:=b) iC kG (show¬Dk bn b=0 by omega) (by simpa using hRw);refine aq (L':=Rl g42 (wid bn (Dk bn b)) (2^wid bn (Dk bn b)) P42 p42 Q42 q42 (Hw bn b).1 F) ((eu (eu (eu (.s2 (.refl _)))))) (aF ?_);exact .inr ⟨oS,wid bn (Dk bn b),_,g42,P42,p42,Q42,q42,rfl,xZ aa,oS,oS⟩
 ·refine fw func268 54 [0,1] ?_;refine bz ?_;refine bR 6 18 [0,1] (bound<0∨20000<bound) ?_ ?_
  ·refine bE ?_;refine aI rfl rfl rfl (λkF=>?_) (λkF=>?_)
   ·refine b7 ?_;exact aL pM
   ·refine bc ?_;exact aL wy
  ·refine bc ?_;refine aj (λiC=>?_) λiC=>?_
   ·refine bz ?_;exact .inl ⟨by rw[EL iC];decide,by rw[EL iC],rfl⟩
   ·obtain⟨bn,rfl⟩:=gi (show 0<=bound by omega);have au5:=hnb aa;refine bF ?_;refine fh rfl (nC hb aa) λg20 DZ HH=>bI ?_;refine ai rfl (hint aB) (bI ?_);refine ai rfl (gW) (bO ?_);refine aj (λkG=>?_) λkG=>?_
    ·refine bz ?_;refine aq (L':=F) (.s2 (.refl _)) (aF ?_);exact .inl ⟨by rw[EM iC kG];exact kG,by rw[EM iC kG],rfl⟩
    ·refine bO ?_;refine aj (λz_=>?_) λz_=>?_
     ·refine aF ?_;refine a_ 57 1 none (a_ 3 1 none (gx ((BQ (BQ (fV (fV (.refl _)))))) ?_));refine aF ?_;refine ab (cJ [ah 0,.slice none 0 0,.slice none 0 0] ag) rfl (bg λg32=>?_);refine aF ?_;refine ai rfl ((NT).jD ((mC (fV (.refl _))))) (bE ?_);refine ve [4,5,6] ?_;refine bE ?_;have hz:=K_ (b:=b) iC kG (show Dk bn b=0 by omega);refine aq (L':=Rl g32 0 1 none 0 none 0 [] F) ((eu (sE (sE (.s2 (.refl _)))))) (aF ?_);exact .inr ⟨oS,0,1,g32,none,0,none,0,rfl,aa,oS,oS⟩
     ·refine bK ?_;refine ai rfl (NT) (ab (bY (i:=(tO bn b).at_) (size:=1) underlying27 ag rfl rfl rfl ug) rfl ?_);rw[show E b-(tO bn b).at_=E (b.drop (tO bn b).at_) from(iG ..).symm];refine ai rfl ((amE (bound:=bn) (m:=Dk bn b) (b:=b.drop (tO bn b).at_) (.cons (.cons hcut)) ly aa aa aa).mono (R':=λr L=>r= .tuple #[.pointer none,ah 0,ah (Hw bn b).2.2]∧L=Cv g20 DZ HH (tO bn b):: .own 5 1 DZ (E b) HH (bv b)::F) (λr L h=>by rcases h with⟨_,h⟩|⟨h1,_⟩;exact h;exact absurd h1 hRw)) (bI ?_);refine ve [7,10,11,12] ?_;refine bK ?_;refine aj (λW5=>?_) λW5=>?_
      ·refine bz ?_;have hz:=adx (b:=b) iC kG (show¬Dk bn b=0 by omega) hRw;refine aq (L':=F) (.s2 (.refl _)) (aF ?_);exact .inl ⟨by rw[hz];exact hRw,oS,rfl⟩
      ·exfalso;exact W5 hRw
theorem ND{a b:List Bool}(hl:E a=E b)(h:∀i,i<E a->im a i=im b i):a=b:=by
 apply jK hl;intro i h1 h2;apply toNat_inj;rw[<-yX h1,<-yX h2];exact h i h1
theorem IQ{q:List Bool}{n i:Nat}(h:i<n):im (q.take n) i=im q i:=by
 simp[im,ba,h]
theorem G8(a b:al):gA (a++b)=gA a++gA b:=by
 refine ND (by simp[dW];omega) (λi hi=>?_);rw[dW,aX]at hi;rw[zV _ (by rw[aX];exact hi)];by_cases h:i<8*E a
 ·rw[nx (by rw[dW];exact h),zV _ h];congr 2;rw[ba,ba,zk aa]
 ·have e:=kO (gA a) (gA b) (i-8*E a);rw[dW,show 8*E a+(i-8*E a)=i by omega]at e;rw[e,zV _ aa,show(i-8*E a)%8=i%8 by omega,show(i-8*E a)/8=i/8-E a by omega];congr 2;rw[ba,ba,rX aa]
theorem ahK(l:al){k:Nat}(h:k<=E l):gA (l.take k)=(gA l).take (8*k):=by
 have e:gA l=gA (l.take k)++gA (l.drop k):=by rw[<-G8,jd]
 rw[e,lA (by rw[dW,eY];omega)]
theorem O6(m:Nat):hi 0 m m=List.replicate m false:=by
 apply jK
 ·simp[hi]
 ·intro i h1 h2;simp[hi]
theorem Uq(q r:List Bool)(m:Nat):part (q++(List.replicate m false++r)) (E q) m=0:=by
 rw[<-O6];exact Gb q r 0 m (w6 m)
theorem Kg(q:List Bool)(i m:Nat)(h:i+m<=E q):q.take (i+m)=q.take i++hi (part q i m) m m:=by
 refine ND (by simp[dT];omega) (λk hk=>?_);rw[eY]at hk;rw[IQ aa];by_cases fN:k<i
 ·rw[nx nf,IQ fN]
 ·have e:=kO (q.take i) (hi (part q i m) m m) (k-i);rw[eY,xH aa,show i+(k-i)=k by omega]at e;rw[e,aeE _ _ aa];have e2:=qm q i (k-i+1) (m-1-(k-i));rw[show k-i+1+(m-1-(k-i))=m by omega]at e2;rw[e2,part,show i+(k-i)=k by omega];have:=sH q k;omega
theorem Yu(q:List Bool):∀m pos,E q-pos<=m->Z q pos<E q->q.take (Z q pos+1)=q.take pos++un (Z q pos-pos)
 |0,pos,h,hz=>absurd hz (by rw[YU aa];omega)
 |m+1,pos,h,hz=>by
  by_cases hp:pos<E q
  ·by_cases hb:im q pos=1
   ·rw[ah8 hb hp,oj,aY hp false];have:q.getD pos false=true:=by
     unfold im at hb;cases h:q.getD pos false
     ·rw[h]at hb;simp at hb
     ·rfl
    rw[this];rfl
   ·have hs:=MM hb hp;rw[hs]at hz⊢;have xx:pos+1<=Z q (pos+1):=ap7 _ _ _;rw[Yu q m (pos+1) aa hz,aY hp false];have:q.getD pos false=false:=by
     unfold im at hb;cases h:q.getD pos false
     ·rfl
     ·rw[h]at hb;simp at hb
    rw[this,show Z q (pos+1)-pos=(Z q (pos+1)-(pos+1))+1 by omega];simp[un,Bt]
  ·exact absurd hz (by rw[YU aa];omega)
def up(bound:Nat):Int->bf->Prop
 |_,[]=>True
 |was,x::r=>was<x∧x<bound∧up bound (x:Int) r
theorem amZ{bound:Nat}:∀(xs:bf) (was:Int),(∀i,i<E xs->xs.getD i 0<bound∧(0<i->xs.getD (i-1) 0<xs.getD i 0))->(0<E xs->was<xs.getD 0 0)->up bound was xs
 |[],_,_,_=>trivial
 |x::r,was,h,h0=>by
  refine⟨h0 ak,(h 0 ak).1,amZ r x (λi hi=>?_) (λhr=>?_)⟩
  ·have:=h (i+1) bT;refine⟨this.1,λhp=>?_⟩;have h2:=this.2 aa;rw[uS]at h2;obtain⟨j,rfl⟩:∃j,i=j+1:=⟨i-1,aa⟩
   exact h2
  ·have:=(h 1 bT).2 aa;exact Int.ofNat_lt.2 this
theorem ahL{bound:Nat}:∀(xs:bf) (was:Int),up bound was xs->(∀i,i<E xs->xs.getD i 0<bound∧(0<i->xs.getD (i-1) 0<xs.getD i 0))∧(0<E xs->was<xs.getD 0 0)
 |[],_,_=>⟨λi hi=>absurd hi ak,λh=>absurd h ak⟩
 |x::r,was,⟨h1,h2,h3⟩=>by
  obtain⟨a,b⟩:=ahL r x h3;refine⟨λi hi=>?_,λ_=>h1⟩;cases i with
  |zero=>exact⟨h2,λh=>absurd h aa⟩
  |succ j=>
   have hj:j<E r:=by simp at hi;omega
   refine⟨(a j hj).1,λ_=>?_⟩;cases j with
   |zero=>exact Int.ofNat_lt.1 (b hj)
   |succ k=>exact(a (k+1) hj).2 aa
theorem XB{p w:Nat}(hp:p=2^w):∀(xs:bf) (pre R:List Bool) (i:Nat),i<E xs->part (pre++(CQ p w xs++R)) (E pre+i*w) w=xs.getD i 0%p
 |[],_,_,_,h=>absurd h ak
 |x::r,pre,R,0,h=>by
  have:=Gb pre (CQ p w r++R) (x%p) w (by rw[hp];exact rZ _ (w6 w));rw[qC,sX];simpa[CQ,bX]using this
 |x::r,pre,R,i+1,h=>by
  have:=XB hp r (pre++hi (x%p) w w) R i (by simp at h;omega);rw[aX,dT,Pk,show w+i*w=(i+1)*w by rw[kH];omega]at this;simpa[CQ,bX]using this
theorem afg{p w:Nat}(hp:p=2^w)(xs:bf)(R:List Bool):Aw (CQ p w xs++R) w (E xs)=xs.map (· %p):=by
 apply jK
 ·simp[Aw]
 ·intro i h1 h2;have h3:i<E xs:=by simpa[Aw]using h1
  have:=XB hp xs [] R i h3;rw[mW,sY,lV]at this;simp[Aw,this,ba,h3]
theorem Yd{bound p w:Nat}(hp:p=2^w)(q R:List Bool):∀(xs:bf) (pre:List Bool) (high:Nat) (was:Int) (out:bf),q=pre++(B9 p high xs++R)->up bound was xs->high=was.toNat/p->
  Mm bound p q (xs.map (· %p)) (E pre) high was out=(out++xs,E (pre++B9 p high xs),0)
 |[],pre,high,was,out,hq,hu,hh=>by simp[Mm,B9]
 |x::r,pre,high,was,out,hq,⟨u1,u2,u3⟩,hh=>by
  have Xg:0<p:=by rw[hp];exact w6 w
  have hle:high<=x/p:=by rw[hh];exact Nat.div_le_div_right aa
  have hq':q=pre++(un (x/p-high)++(B9 p (x/p) r++R)):=by rw[hq];simp[B9,bX]
  have hz:Z q (E pre)=E pre+(x/p-high):=by rw[hq'];exact avV pre _ _
  have fN:Z q (E pre)<E q:=by rw[hz,hq'];simp[pG];omega
  have e1:high+(Z q (E pre)-E pre)=x/p:=by rw[hz];omega
  have e2:x/p*p+x%p=x:=by rw[jL];exact Nat.div_add_mod x p
  have ih:=Yd hp q R r (pre++un (x/p-high)) (x/p) (x:Int) (out++[x]) (by rw[hq',bX]) u3 ak;rw[kh,Mm,aw aa,e1,e2,aw aa,aw aa];rw[show Z q (E pre)+1=E (pre++un (x/p-high)) by rw[aX,pG,hz];omega,ih];simp[B9,bX]
theorem SK{bound:Nat}{xs:bf}(hR:lE bound xs)(more:al)(hn:0<E xs):
  jZ bound (E xs) (packed (M0 (2^wid bound (E xs)) (wid bound (E xs)) xs)++more)=(xs,E (packed (M0 (2^wid bound (E xs)) (wid bound (E xs)) xs)),0):=by
 obtain⟨w,hw⟩:=cK (wid bound (E xs));obtain⟨p,hp⟩:=cK (2^w);obtain⟨Q,hQ⟩:=cK (M0 p w xs);obtain⟨b,hb⟩:=cK (packed Q++more);rw[<-hw,<-hp,<-hQ,<-hb];have hu:gA b=Q++(pad Q++gA more):=by rw[hb,G8,rA,bX]
 have Tu:gA b=CQ p w xs++(B9 p 0 xs++(pad Q++gA more)):=by
  have e:Q=CQ p w xs++B9 p 0 xs:=hQ;rw[hu];generalize pad Q=P;rw[e,bX]
 have RR:Aw (gA b) w (E xs)=xs.map (· %p):=by rw[Tu];exact afg hp xs _
 have hF:C8 bound (E xs) b=(xs,E Q,0):=by
  unfold C8;rw[<-hw,<-hp,RR];have:=Yd (bound:=bound) hp (gA b) (pad Q++gA more) xs (CQ p w xs) 0 (-1) [] Tu (amZ xs (-1) hR (λ_=>aa)) ak;rw[nF]at this;rw[this,mW,hQ,M0]
 have mP:=xM Q;have Av:=dW b;have Aj:=dW more;have di:E b=(E Q+7)/8+E more:=by rw[hb,aX,dO]
 have hr:lH bound (E xs) b=E (pad Q):=by
  unfold lH;rw[hF];simp only;omega
 have hlen:E (CQ p w xs)<=E (gA b):=by rw[Tu,aX];omega
 rw[nF]at hlen;unfold jZ;rw[<-hw,aw aa,hr,hF];have hz:=Uq Q (gA more) (E (pad Q));rw[show List.replicate (E (pad Q)) false=pad Q by simp[pad],<-hu]at hz;rw[aw ak,aw (by simp only[hz];simp)];rw[dO];simp only;congr 2;omega
theorem agA{bound p w:Nat}(hp:p=2^w)(q:List Bool):∀(ls:bf) (pos high:Nat) (was:Int) (out:bf),(∀x∈ls,x<p)->pos<=E q->(Mm bound p q ls pos high was out).2.2=0->
  ∃ys,(Mm bound p q ls pos high was out).1=out++ys∧ls=ys.map (· %p)∧up bound was ys∧(Mm bound p q ls pos high was out).2.1<=E q∧q.take (Mm bound p q ls pos high was out).2.1=q.take pos++B9 p high ys
 |[],pos,high,was,out,hl,uL,h=>⟨[],by simp[Mm],rfl,trivial,by simpa[Mm]using uL,by simp[Mm,B9]⟩
 |x::r,pos,high,was,out,hl,uL,h=>by
  have hx:=hl x ak;have Xg:0<p:=by omega
  by_cases h1:Z q pos<E q
  ·obtain⟨y,hy⟩:=cK ((high+(Z q pos-pos))*p+x);have hyd:y/p=high+(Z q pos-pos):=by rw[hy,jL,Nat.mul_add_div Xg,CI hx,sX]
   have hym:y%p=x:=by rw[hy,jL,Nat.mul_add_mod,jh hx]
   rw[Mm,aw aa,<-hy]at h⊢;by_cases h2:(y:Int)<=was
   ·rw[ao h2]at h;simp at h
   ·by_cases h3:bound<=y
    ·rw[aw h2,ao h3]at h;simp at h
    ·rw[aw h2,aw h3]at h⊢;obtain⟨ys,e1,e2,e3,e4,e5⟩:=agA hp q r (Z q pos+1) (high+(Z q pos-pos)) y (out++[y]) (λz hz=>hl z qG) aa h;refine⟨y::ys,by rw[e1];simp,by rw[kh,hym,<-e2],⟨aa,aa,e3⟩,e4,?_⟩;rw[e5,Yu q _ pos (gC _) h1,B9,hyd,show high+(Z q pos-pos)-high=Z q pos-pos by omega,bX]
  ·rw[Mm,ao h1]at h;simp at h
theorem PO(q:List Bool)(w:Nat):∀n,n*w<=E q->q.take (n*w)=(Aw q w n).flatMap λx=>hi x w w
 |0,_=>by simp[Aw]
 |n+1,h=>by
  rw[kH]at h⊢;rw[Kg q _ _ h,PO q w n aa,PN,uP];simp
theorem ZI{bound n:Nat}{b:al}(h:(jZ bound n b).2.2=0):
  E (jZ bound n b).1=n∧lE bound (jZ bound n b).1∧packed (M0 (2^wid bound n) (wid bound n) (jZ bound n b).1)=b.take (jZ bound n b).2.1:=by
 obtain⟨w,hw⟩:=cK (wid bound n);obtain⟨p,hp⟩:=cK (2^w);rw[<-hw,<-hp];by_cases h1:E (gA b)<n*w
 ·rw[EN (by rw[<-hw];exact h1)]at h;simp at h
 ·have S3:¬E (gA b)<n*wid bound n:=by rw[<-hw];exact h1
  by_cases h2:(C8 bound n b).2.2=0
  ·by_cases h3:part (gA b) (C8 bound n b).2.1 (lH bound n b)=0
   ·rw[Oj S3 pK (by simpa using h3)];have hF:C8 bound n b=Mm bound p (gA b) (Aw (gA b) w n) (n*w) 0 (-1) []:=by unfold C8;rw[<-hw,<-hp]
    have fN:∀x∈Aw (gA b) w n,x<p:=by
     intro x hx;obtain⟨i,_,rfl⟩:=pC.1 hx;rw[hp];exact qU _ _ _
    obtain⟨ys,e1,e2,e3,e4,e5⟩:=agA (bound:=bound) hp (gA b) (Aw (gA b) w n) (n*w) 0 (-1) [] fN aa (by rw[<-hF];exact h2);rw[<-hF]at e1 e4 e5;rw[mW]at e1;have hyl:E ys=n:=by
     have:=dQ List.length e2;rw[s_,dX]at this;exact this.symm
    have hQ:M0 p w ys=(gA b).take (C8 bound n b).2.1:=by
     rw[e5,PO _ _ _ aa,e2,M0,CQ,List.flatMap_map]
    obtain⟨pos,uL⟩:=cK ((C8 bound n b).2.1);have Pc:lH bound n b=(E (gA b)-pos)%8:=by unfold lH;rw[uL]
    rw[<-uL]at e4 hQ h3;rw[<-uL,e1];have Av:=dW b;refine⟨hyl,(ahL ys _ e3).1,?_⟩;simp only;obtain⟨K,hK⟩:∃K,pos+lH bound n b=8*K:=⟨(pos+lH bound n b)/8,aa⟩
    rw[hK,show E b-(E (gA b)-8*K)/8=K by omega];have hKl:K<=E b:=by omega
    have hQl:E (M0 p w ys)=pos:=by rw[hQ,eY];omega
    have ez:gA (b.take K)=M0 p w ys++List.replicate (lH bound n b) false:=by
     rw[ahK b hKl,<-hK,Kg _ _ _ aa,h3,O6,hQ]
    have ep:pad (M0 p w ys)=List.replicate (lH bound n b) false:=by
     unfold pad;rw[hQl];congr 1;omega
    rw[<-qs (packed (M0 p w ys)),rA,ep,<-ez,qs]
   ·rw[WG S3 pK (by simpa using h3)]at h;simp at h
  ·rw[WE S3 h2]at h;exact absurd h h2
theorem ZH{bound:Nat}{xs:bf}(hR:lE bound xs)(hb:bound<=20000)(more:al):jb (bound:Int) (sC bound xs++more)=(xs,E (sC bound xs),0):=by
 have hlen:=hR.len;obtain⟨tl,De⟩:=cK ((if E xs=0 then [] else packed (M0 (2^wid bound (E xs)) (wid bound (E xs)) xs)));have hB:sC bound xs=aS (E xs)++tl:=by rw[sC,<-De]
 obtain⟨b,hbb⟩:=cK (aS (E xs)++(tl++more));have Bk:sC bound xs++more=b:=by rw[hB,hbb,bX]
 have hs:cR b=(E xs,E (aS (E xs)),0):=by rw[hbb];exact th _ aa _
 have hl:eM b (bound:Int)=(E xs,E (aS (E xs)),0):=by
  unfold eM;rw[hs,aw ak,aw dh]
 have hC:tO (bound:Int) b=⟨b,E (aS (E xs)),0⟩:=by
  unfold tO Cs.bZ Cs.rest;simp only[rr];rw[hl];simp[Cs.eQ]
 have hN:Dk (bound:Int) b=E xs:=by
  unfold Dk Cs.int Cs.rest;simp only[rr];rw[hl];simp
 rw[Bk];by_cases h0:E xs=0
 ·rw[K_ aa (by rw[hC];simp) (by rw[hN];exact h0),hC,Fu.1 h0];rw[ao h0]at De;have:sC bound []=aS 0++[]:=by simp[sC]
  rw[this];simp
 ·have Z9:Hw (bound:Int) b=(xs,E tl,0):=by
   unfold Hw;rw[hN,hC];simp only[oo];rw[aw h0]at De;rw[show b.drop (E (aS (E xs)))=tl++more by rw[hbb];exact mo rfl,De];exact SK hR more aa
  rw[SJ aa (by rw[hC];simp) (by rw[hN];exact h0) (by rw[Z9];simp),Z9,hC,hB];simp
theorem Oi{bound:Int}{b:al}(RK:bound<=9223372036854775807)(h:(jb bound b).2.2=0):
  ∃bn:Nat,bound=(bn:Int)∧bn<=20000∧lE bn (jb bound b).1∧sC bn (jb bound b).1=b.take (jb bound b).2.1∧(jb bound b).2.1<=E b:=by
 by_cases h1:bound<0∨20000<bound
 ·rw[EL h1]at h;simp at h
 ·obtain⟨bn,rfl⟩:=gi (show 0<=bound by omega);refine⟨bn,rfl,aa,?_⟩;by_cases h2:(tO bn b).e=0
  ·have hl:(eM b (bn:Int)).2.2=0:=by
    unfold tO Cs.bZ Cs.rest at h2;simp only[rr]at h2;by_cases hh:(eM b (bn:Int)).2.2=0
    ·exact hh
    ·simp[Cs.eQ,hh]at h2
   have hsc:(cR b).2.2=0∧eM b (bn:Int)=((cR b).1,(cR b).2.1,0):=by
    unfold eM at hl⊢;split at hl
    ·rename_i hh;exact absurd hl hh
    ·rename_i hh;split at hl
     ·simp at hl
     ·rename_i h3;rw[aw hh,aw h3];exact⟨by simpa using hh,rfl⟩
   have an_:=wi hsc.1;have hle:=(fz b).2.1;have hC:tO (bn:Int) b=⟨b,(cR b).2.1,0⟩:=by
    unfold tO Cs.bZ Cs.rest;simp only[rr];rw[hsc.2];simp[Cs.eQ]
   have hN:Dk (bn:Int) b=(cR b).1:=by
    unfold Dk Cs.int Cs.rest;simp only[rr];rw[hsc.2];simp
   by_cases h3:Dk bn b=0
   ·rw[K_ h1 pK h3,hC];refine⟨λi hi=>absurd hi ak,?_,hle⟩;rw[hN]at h3;rw[h3]at an_;simp only;rw[<-an_];simp[sC]
   ·by_cases h4:(Hw bn b).2.2=0
    ·rw[SJ h1 pK h3 (by simpa using h4)];have hR:Hw bn b=jZ bn (cR b).1 (b.drop (cR b).2.1):=by unfold Hw;rw[hN,hC,oo]
     rw[hR]at h4;obtain⟨e1,e2,e3⟩:=ZI h4;have e4:=Ja bn (cR b).1 (b.drop (cR b).2.1);rw[iG]at e4;rw[hN]at h3;simp only;rw[hC,hR];refine⟨e2,?_,dh⟩;rw[sC,e1,aw h3,e3,an_];simp only;rw[List.take_add]
    ·rw[adx h1 pK h3 (by simpa using h4)]at h;exact absurd h h4
  ·rw[EM h1 h2]at h;exact absurd h h2
theorem WC{bound:Nat}{xs:bf}(h:lE bound xs)(hb:bound<=20000):E (sC bound xs)<=50011:=by
 have h1:=h.len;have h2:=Ov (n:=E xs) aa;have h3:=WD (p:=2^wid bound (E xs)) (w:=wid bound (E xs)) h hb (xZ hb);unfold sC;rw[aX];split
 ·simp only[sY];omega
 ·rw[dO];omega
theorem lE.le{bound:Nat}{xs:bf}(h:lE bound xs)(hb:bound<=20000):∀i,i<E xs->xs.getD i 0<=1000000:=λi hi=>by have:=(h i hi).1;omega
theorem anh{P:Prop}(h:P:=by(rintro(q|q|q);omega;omega;exact q h)):P:=h
theorem aqo{P:Prop}(h:P:=by(first|exact .inl (by assumption)|exact⟨λz=>.inr z,λq=>q.elim (λz=>absurd z (by assumption)) (λz=>z)⟩|omega)):P:=h
theorem Cm{P:Prop}(h:P:=by(simp[Ql];omega)):P:=h
theorem jy:type_of% @List.mem_map_of_mem:= @List.mem_map_of_mem
def y9(bound:Int)(T:List cm)(I:List (List Int)):Prop:=(0<=bound∧bound<=20000)∧E T=E I∧lF T∧∀x∈I,x≠[]∧IC bound x
instance (bound:Int)(T:List cm)(I:List (List Int)):Decidable (y9 bound T I):=inferInstanceAs (Decidable (_∧_∧_∧_))
def lsB(bound:Int)(I:List (List Int)):al:=I.flatMap λx=>(RD bound x).1
def LF(sz:Nat)(bound:Int)(T:List cm)(I:List (List Int)):al:=fY sz T++lsB bound I
def rp(size bound:Int)(T:List cm)(I:List (List Int)):al×Int:=if size<1∨64<size∨¬y9 bound T I then ([],13) else (LF size.toNat bound T I,0)
theorem Fl{I:List (List Int)}(h:size<1∨64<size∨¬y9 bound T I):rp size bound T I=([],13):=ao h
theorem LH{sz:Nat}{I:List (List Int)}(h1:1<=sz)(h2:sz<=64)(h:y9 bound T I):rp sz bound T I=(LF sz bound T I,0):=by
 unfold rp;rw[aw anh,oo]
theorem WH{x:List Int}(h0:0<=bound)(h1:bound<=20000):(RD bound x).2=0↔IC bound x:=by
 constructor
 ·intro h;refine bA λq=>?_;rw[La (.inr (.inr q))]at h;exact absurd h ax
 ·intro h;obtain⟨xs,rfl⟩:=h.afw;obtain⟨b,rfl⟩:=gi h0;rw[Lb anh]
theorem ai'{x:List Int}(h0:0<=bound)(h1:bound<=20000):E (RD bound x).1<=50011:=by
 by_cases h:IC bound x
 ·obtain⟨xs,rfl⟩:=h.afw;obtain⟨b,rfl⟩:=gi h0;rw[Lb anh];exact WC ((tf b xs).1 h) aa
 ·rw[La (.inr (.inr h))];simp
theorem XE(h0:0<=bound)(h1:bound<=20000):∀I:List (List Int),E (lsB bound I)<=E I*50011
 |[]=>by simp[lsB]
 |x::r=>by
  have:=XE h0 h1 r;have h2:=ai' (x:=x) h0 h1;unfold lsB at*;rw[ka,aX,dI,kz];omega
theorem ZB{sz:Nat}(hR:lF T)(h1:1<=sz)(h2:sz<=64):E (fY sz T)<=4000000000:=by
 have hl:=hR.2;have hB1:=vG (l:=T) (sz:=sz) h2 hR.le (List.range (h_ sz (E T)));have hH1:=rP (l:=T) (sz:=sz) h2 hR.le (List.range (h_ sz (E T)));have hN1:=aV (x:=E T) aa;have hcN:h_ sz (E T)<=1048639:=by
  unfold h_;exact jz (rY _ _) aa
 rw[uR]at hB1 hH1;have h3:h_ sz (E T)*3000<=1048639*3000:=ph _ hcN;have h4:h_ sz (E T)*10<=1048639*10:=ph _ hcN;simp only[fY,aX];omega
abbrev lu:=bk×Nat×al
abbrev dy(e:lu):Value:=.slice e.1 (E e.2.2) e.2.1
abbrev fE(e:lu):Ch:=.own 5 1 e.1 (E e.2.2) e.2.1 (bv e.2.2)
def Ql(PB:List lu):eF:=PB.map λe=>(dy e,e.2.2)
theorem Gl(PB:List lu):(Ql PB).Dn=PB.map dy:=by simp[Ql,eF.Dn]
theorem DO(PB:List lu):(Ql PB).all=(PB.map (·.2.2)).flatten:=by
 unfold Ql eF.all;rw[List.flatMap_map,List.flatMap_def]
theorem q7(P:aR){PB:List lu}{e:lu}:Wk (fE e::(P++(PB.map fE++F))) (P++((PB++[e]).map fE++F)):=by
 refine .dK ?_;rw[jx,bX,<-bX,<-bX];exact By.symm
abbrev Hy(A1:bk)(n c1:Nat)(B1:bk)(m b1:Nat):Value:=.agg [.slice A1 n c1,.slice B1 m b1].toArray
theorem afZ(hE:(bound<0∨20000<bound)∨¬(E T:Int)=E LL):
  aZ B w0 48 [ah size,ah bound,Hy A1 (E T) c1 B1 (E LL) b1] F (λr L=>r= .tuple #[.slice none 0 0,ah 13]∧L=F):=by
 refine fw func48 69 [0,1,2] ?_;refine bc ?_;refine bg λg5=>?_;refine bI ?_;refine bR 15 29 [0,1,5] ((bound<0∨20000<bound)∨¬(E T:Int)=E LL) ?_ ?_
 ·refine bE ?_;refine aI rfl rfl rfl (λiI=>?_) (λiI=>?_)
  ·refine bF ?_;refine aI rfl rfl rfl (λmx=>?_) (λmx=>?_)
   ·refine ei ?_;exact aL pM
   ·refine bI ?_;exact aL wy
  ·refine de ?_;exact aL wy
 ·refine bc ?_;refine aj (λqu=>?_) λqu=>?_
  ·refine bK ?_;refine aq (L':=F) (.skip (.refl _)) (aF ?_);exact⟨rfl,rfl⟩
  ·exfalso;exact qu hE
theorem af0(h1:aM B w0 F 1 (.slice A1 (E T) c1) (E T) (strs T))(hb0:0<=bound)(qJ:bound<=20000)(hl:E T=E LL)(hs:E T<=1000000000)(hE:size<1∨64<size∨¬lF T):
  aZ B w0 48 [ah size,ah bound,Hy A1 (E T) c1 B1 (E LL) b1] F (λr L=>r= .tuple #[.slice none 0 0,ah 13]∧L=F):=by
 refine fw func48 69 [0,1,2] ?_;refine bc ?_;refine bg λg5=>?_;refine bI ?_;refine bR 15 29 [0,1,5] ((bound<0∨20000<bound)∨¬(E T:Int)=E LL) ?_ ?_
 ·refine bE ?_;refine aI rfl rfl rfl (λiI=>?_) (λiI=>?_)
  ·refine bF ?_;refine aI rfl rfl rfl (λmx=>?_) (λmx=>?_)
   ·refine ei ?_;exact aL pM
   ·refine bI ?_;exact aL wy
  ·refine de ?_;exact aL wy
 ·refine bc ?_;refine dw λqu=>?_;refine bI ?_;refine ay rfl (SI aB aa hE) λxc yb=>ei ?_;refine aj (λDz=>?_) λDz=>?_
  ·refine bO ?_;refine aq (L':=F) (.s2 (.refl _)) (aF ?_);exact⟨rfl,rfl⟩
  ·exfalso;exact Dz ax
theorem aeX{k:Nat}(hk:k<E LL):(fZ LL).take (k+1)=(fZ LL).take k++[(LL.getD k rU).2.2]:=by
 rw[tJ,fZ,jw,fc hk];simp[List.getD,fc hk]
theorem aeY{x:List Int}(h:x∈fZ LL):∃i,i<E LL∧(LL.getD i rU).2.2=x:=by
 obtain⟨e,he,rfl⟩:=pC.1 h;obtain⟨i,hi,rfl⟩:=ke he;exact⟨i,hi,by simp[List.getD,fc hi]⟩
theorem af3{sz:Nat}(h1:aM B w0 F 1 (.slice A1 (E T) c1) (E T) (strs T))(hL:aM B w0 F 1 (.slice B1 (E LL) b1) (E LL) (LL.map Bn))(hI:mD B w0 F LL)(xC:∀e∈LL,E e.2.2<=9000000000000000000)(hb0:0<=bound)(qJ:bound<=20000)(hl:E T=E LL)(hR:lF T)(LD:1<=sz)(wC:sz<=64):
  aZ B w0 48 [ah sz,ah bound,Hy A1 (E T) c1 B1 (E LL) b1] F (λr L=>∃A' c',r= .tuple #[.slice A' (E (rp sz bound T (fZ LL)).1) c',ah (rp sz bound T (fZ LL)).2]∧L= .own 5 1 A' (E (rp sz bound T (fZ LL)).1) c' (bv (rp sz bound T (fZ LL)).1)::F):=by
 have W9:=hR.2;have hdl:=ZB hR LD wC;have xB:=XE hb0 qJ (fZ LL);have hil:E (fZ LL)=E LL:=by simp[fZ]
 refine dU.yw h1 λnZ _=>?_;refine fw func48 69 [0,1,2] ?_;refine bc ?_;refine bg λg5=>?_;refine bI ?_;refine bR 15 29 [0,1,5] ((bound<0∨20000<bound)∨¬(E T:Int)=E LL) ?_ ?_
 ·refine bE ?_;refine aI rfl rfl rfl (λiI=>?_) (λiI=>?_)
  ·refine bF ?_;refine aI rfl rfl rfl (λmx=>?_) (λmx=>?_)
   ·refine ei ?_;exact aL pM
   ·refine bI ?_;exact aL wy
  ·refine de ?_;exact aL wy
 ·refine bc ?_;refine dw λqu=>?_;refine bI ?_;refine ay rfl (ZG aB nZ LD wC hR) λxc yb=>ei ?_;refine aj (λDz=>?_) λDz=>?_
  ·exfalso;exact Dz rfl
  ·refine bF ?_;refine cC (aG fQ [_] rfl rfl cw aa aa) λVA=>bz ?_;refine ve [1,10,43,44,45] ?_;refine bc ?_;refine aD (λzf zL zm=>∃(k:Nat) (PB:List lu) (wJ:bk) (Ej:Nat),(k<=E LL∧PB.map (·.2.2)=fY sz T::((fZ LL).take k).map (λx=>(RD bound x).1)∧E PB=k+1∧(∀i,i<k->(LL.getD i rU).2.2≠[]∧IC bound (LL.getD i rU).2.2))∧E LL-k=zm∧Sub zf [(1,ah bound),(10,.slice wJ (E PB) Ej),(43,.slice B1 (E LL) b1),(44,ah (E LL)),(45,ah k)]∧Wk zL (.own 27 1 wJ (E PB) Ej (PB.map dy):: .bG g5 90 [.slice A1 (E T) c1,.slice B1 (E LL) b1]::(PB.map fE++F))) _ ⟨0,[(xc,yb,fY sz T)],VA,1,⟨bU _,rfl,rfl,λi h=>absurd h aa⟩,rfl,bp,.cons (.swap (.refl _))⟩ ?_;rintro _ _ _ ⟨k,PB,wJ,Ej,⟨hk,hPB,Cz,kU⟩,rfl,hs,hp⟩;refine aT hs hp (bB ?_);refine aj (λZ5=>?_) λZ5=>?_
   ·have Bl:k<E LL:=by omega
    have hie:=(hI.get Bl).mono (gL (PB.map fE) F);have hLe:=hL.mono (gL (PB.map fE) F);have LC:=xC _ (bj Bl rU);have uN:=aeX Bl;have qz:(LL.getD k rU).2.2∈fZ LL:=jy (bj Bl rU);obtain⟨x,hx⟩:=cK ((LL.getD k rU).2.2);have hig:=aou Bl;obtain⟨eA,ec,he⟩:∃eA ec,LL.getD k rU=(eA,ec,x):=⟨_,_,by rw[hx]⟩
    rw[he]at hie LC uN qz hig;refine bI ?_;refine ab (au ag rfl aB aa hig) rfl (bI ?_);refine ay rfl (ZL (ids:=x) aB LC) λA52 c52=>bz ?_;refine bR 7 61 [1,10,13,43,44,45] (¬(RD bound x).2=0∨(E x:Int)=0) ?_ ?_
    ·refine bE ?_;refine aI rfl rfl rfl (λh57=>?_) (λh57=>?_)
     ·refine bB ?_;exact aL (by exact dG aqo)
     ·refine bE ?_;exact aL (by exact dS aqo)
    ·refine bc ?_;refine aj (λh61=>?_) λh61=>?_
     ·have Pb:¬y9 bound T (fZ LL):=λq=>by
       obtain⟨h2,h3⟩:=q.2.2.2 x qz;rcases h61 with h|h
       ·exact h ((WH hb0 qJ).2 h3)
       ·exact h2 (mS aa)
      refine cY ?_;rw[Fl (.inr (.inr Pb))];refine aC 5 1 none (aq (L':=.own 5 1 none 0 0 []::F) (.cons (.s3 (wq (.refl _) _))) (aF ?_));exact⟨none,0,rfl,rfl⟩
     ·have hxr:IC bound x:=(WH hb0 qJ).1 (jN.1 λq=>h61 (.inl q));have hxn:x≠[]:=λq=>h61 (.inr (by rw[q];rfl));refine bF ?_;refine dL fQ rfl rfl rfl rfl rfl (λ_=>rfl) aW aa aa ?_;intro _ A65 c65;refine bK ?_;have Ff:E (PB++[(A52,c52,(RD bound x).1)])=E PB+1:=by simp
      refine av ⟨_,aa,k+1,PB++[(A52,c52,(RD bound x).1)],A65,c65,⟨aa,by rw[jx,hPB,uN,jx];rfl,aa,λi hi=>by
 rcases uW i k with h|h
 ·exact kU i h
 ·rw[show i=k by omega,he];exact⟨hxn,hxr⟩⟩,rfl,bp,.swap (az Ff.symm ak (q7 (PB:=PB) (e:=(A52,c52,(RD bound x).1)) [_]))⟩
   ·obtain rfl:k=E LL:=by omega
    have kN:y9 bound T (fZ LL):=⟨⟨hb0,qJ⟩,aa,hR,λx hx=>by
     obtain⟨i,hi,rfl⟩:=aeY hx;exact kU i hi⟩
    have asg:(Ql PB).all=LF sz bound T (fZ LL):=by
     rw[DO,hPB,fC aa];simp[LF,lsB,List.flatMap_def]
    have di:E (LF sz bound T (fZ LL))<=1000000000000:=by
     have:E LL*50011<=1048576*50011:=ph _ aa;unfold LF;rw[aX];rw[hil]at xB;omega
    rw[LH LD wC kN];refine bK ?_;refine ay rfl (yk (P:=Ql PB) (by rw[Gl];exact aB) (λy hy=>by obtain⟨e,he,rfl⟩:=pC.1 hy;exact aM.own (lU _ (lU _ (kI _ (jy he))))) (by simp[Ql]) asg aa Cm) λA68 c68=>bF ?_;refine aq (L':=.own 5 1 A68 (E (LF sz bound T (fZ LL))) c68 (bv (LF sz bound T (fZ LL)))::F) (.cons (.s2 (wq (.refl _) _))) (aF ?_);exact⟨A68,c68,rfl,rfl⟩
theorem af4(h1:aM B w0 F 1 (.slice A1 (E T) c1) (E T) (strs T))(hL:aM B w0 F 1 (.slice B1 (E LL) b1) (E LL) (LL.map Bn))(hI:mD B w0 F LL)(xC:∀e∈LL,E e.2.2<=9000000000000000000)(hs:E T<=1000000000):
  aZ B w0 48 [ah size,ah bound,Hy A1 (E T) c1 B1 (E LL) b1] F (λr L=>∃A' c',r= .tuple #[.slice A' (E (rp size bound T (fZ LL)).1) c',ah (rp size bound T (fZ LL)).2]∧L= .own 5 1 A' (E (rp size bound T (fZ LL)).1) c' (bv (rp size bound T (fZ LL)).1)::F):=by
 have hil:E (fZ LL)=E LL:=by simp[fZ]
 have aok:∀{L:aR},aZ B w0 48 [ah size,ah bound,Hy A1 (E T) c1 B1 (E LL) b1] L (λr K=>r= .tuple #[.slice none 0 0,ah 13]∧K=L)->rp size bound T (fZ LL)=([],13)->aZ B w0 48 [ah size,ah bound,Hy A1 (E T) c1 B1 (E LL) b1] L (λr K=>∃A' c',r= .tuple #[.slice A' (E (rp size bound T (fZ LL)).1) c',ah (rp size bound T (fZ LL)).2]∧K= .own 5 1 A' (E (rp size bound T (fZ LL)).1) c' (bv (rp size bound T (fZ LL)).1)::L):=λ{L} h e=>by
  rw[e];intro w hw;refine(h w hw).mono λee w' ⟨r,K,he,⟨hr,hK⟩,hs⟩=>?_;subst hK;exact⟨r,_,he,⟨none,0,hr,rfl⟩,hs.DH 5 1 none⟩
 by_cases hE:(bound<0∨20000<bound)∨¬(E T:Int)=E LL
 ·exact aok (afZ hE) (Fl (.inr (.inr λq=>by
   have h2:=q.1;have h3:=q.2.1;omega)))
 ·by_cases hE2:size<1∨64<size∨¬lF T
  ·refine aok (af0 h1 aa aa aa hs hE2) (Fl ?_);rcases hE2 with h|h|h
   ·exact .inl h
   ·exact .inr (.inl h)
   ·exact .inr (.inr λq=>h q.2.2.1)
  ·have hR:lF T:=bA λh=>hE2 (.inr (.inr h));obtain⟨sz,rfl⟩:=gi (show 0<=size by omega);exact af3 h1 hL hI xC aa aa aa hR aa aa
theorem V4{P:Prop}(h:P:=by(rw[ao ju])):P:=h
theorem aqk{P:Prop}(h:P:=by(exact dS (by first|exact hB.2 (.inl (by assumption))|exact hB.2 (.inr (by assumption))|exact λh=>(hB.1 h).elim (λq=>absurd q (by assumption)) (λq=>absurd q (by assumption))))):P:=h
theorem b_8{P:Prop}(h:P:=by(exact dS (by first|exact hB.2 (.inl (by assumption))|exact hB.2 (.inr (.inl (by assumption)))|exact⟨λh=>hB.2 (.inr (.inr (by omega))),λh=>(hB.1 h).elim (λq=>absurd q (by assumption)) (λq=>q.elim (λq=>absurd q (by assumption)) (λq=>by omega))⟩))):P:=h
theorem ac0(ho:cu s)(hb:aM B w0 F 1 (.slice A (E s.b) c) (E s.b) (bv s.b)):
  aZ B w0 223 [br g] (Cv g A c s::F) (λr L=>r=ah s.yR.e∧L=Cv g A c s.yR::F):=by
 refine fw func223 10 [0] ?_;refine bO ?_;refine ai rfl (KS ho hb) (bE ?_);refine aj (λh5=>?_) λh5=>?_
 ·have he:s.yR=s.failed 2:=ao aa;refine bc ?_;refine ai rfl (nQ 2) (bF ?_);refine ai rfl (gW) (bF ?_);rw[he];exact⟨rfl,rfl⟩
 ·have he:s.yR=s:=aw aa;refine bF ?_;refine ai rfl (gW) (bF ?_);rw[he];exact⟨rfl,rfl⟩
theorem anC:aZ B w0 177 [br g] (Cv g A c s::F) (λr L=>r=ah s.at_∧L=Cv g A c s::F):=by
 refine fw func177 10 [0] ?_;refine aed ?_;exact⟨rfl,rfl⟩
def nxN(s:Cs)(was:cm)(first:Bool):Nat:=if first then 0 else s.int (E was)
def nxA(s:Cs)(was:cm)(first:Bool):Cs:=if first then s else s.bZ (E was)
def Uc(s:Cs)(was:cm)(first:Bool):Cs:=(nxA s was first).eT 25
def nxX(s:Cs)(was:cm)(first:Bool):cm:=was.take (nxN s was first)++(nxA s was first).text 25
def qT(s:Cs)(was:cm)(first:Bool):Prop:=(nxA s was first).text 25=[]∨¬u_ was (nxX s was first)∨(first=false∧qP was (nxX s was first)≠nxN s was first)
instance (s:Cs)(was:cm)(first:Bool):Decidable (qT s was first):=inferInstanceAs (Decidable (_∨_∨(_∧_)))
def tN(s:Cs)(was:cm)(first:Bool):Cs:=if (Uc s was first).e≠0 then Uc s was first else if qT s was first then (Uc s was first).failed 2 else Uc s was first
def tb(s:Cs)(was:cm)(first:Bool):cm:=if (Uc s was first).e≠0 then [] else nxX s was first
theorem cu.nxA(h:cu s){was:cm}{first:Bool}(hw:E was<=1000):cu (nxA s was first):=by
 unfold YtaodmbolhoafcaaGreatDoor.nxA;split
 ·exact h
 ·exact h.bZ aa
theorem cu.tN(h:cu s){was:cm}{first:Bool}(hw:E was<=1000):cu (tN s was first):=by
 unfold YtaodmbolhoafcaaGreatDoor.tN Uc;split
 ·exact(h.nxA hw).eT
 ·split
  ·exact(h.nxA hw).eT.failed 2
  ·exact(h.nxA hw).eT
theorem Cs.Br(s:Cs)(m:Int):(s.bZ m).b=s.b:=Cs.cQ s _ _
theorem Cs.wm(s:Cs)(m:Int):(s.eT m).b=s.b:=Cs.cQ s _ _
theorem Cs.EX(s:Cs)(e:Int):(s.failed e).b=s.b:=by unfold Cs.failed;split<;>rfl
theorem afC(s:Cs)(was:cm)(first:Bool):(nxA s was first).b=s.b:=by
 unfold nxA;split
 ·rfl
 ·exact Cs.Br _ _
theorem asX(s:Cs)(was:cm)(first:Bool):(tN s was first).b=s.b:=by
 unfold tN Uc;split
 ·rw[Cs.wm,afC]
 ·split
  ·rw[Cs.EX,Cs.wm,afC]
  ·rw[Cs.wm,afC]
theorem aoU(s:Cs)(was:cm)(first:Bool)(hw:E was<=1000):nxN s was first<=E was:=by
 unfold nxN;split
 ·omega
 ·unfold Cs.int;split
  ·omega
  ·by_cases h:(eM s.rest (E was)).2.2=0
   ·have:=(jV s.rest (E was) aa).2.2.2 h;omega
   ·rw[(qd h).1];omega
theorem Yw(s:Cs):E (s.text 25)<=25:=by
 unfold Cs.text;split
 ·simp
 ·unfold kq;split
  ·simp
  ·split
   ·simp
   ·rename_i h1 h2;have:=(jV s.rest 25 aa).2.2.2 D9;simp only[eY];omega
theorem akc{was:cm}(hw:E was<=1000)(ho:cu s)(hb:aM B w0 F 1 (.slice A (E s.b) c) (E s.b) (bv s.b)):
  aZ B w0 298 [br g,.string ⟨was.toArray⟩,.bool true] (Cv g A c s::F) (λr L=>r= .string ⟨(tb s was true).toArray⟩∧L=Cv g A c (tN s was true)::F):=by
 have hA:nxA s was true=s:=rfl;have hN:nxN s was true=0:=rfl;have hS:Uc s was true=s.eT 25:=rfl;have hX:nxX s was true=s.text 25:=by unfold nxX;rw[hN,hA];rfl
 have hB:qT s was true↔(s.text 25=[]∨¬u_ was (s.text 25)):=by unfold qT;rw[hX,hA];simp
 have hC:tN s was true=if (s.eT 25).e≠0 then s.eT 25 else if qT s was true then (s.eT 25).failed 2 else s.eT 25:=rfl
 have hT:tb s was true=if (s.eT 25).e≠0 then [] else s.text 25:=by unfold tb;rw[hX,hS]
 have De:=Yw s;rw[hC,hT];clear hC hT hS hX hN hA;refine fw func298 48 [0,1,2] ?_;refine auf ?_;refine ai rfl (Dt ho hb (most:=25) aa aa) (bI ?_);refine ai rfl (gW) (bE ?_);refine aj (λju=>?_) λju=>?_
 ·refine bK ?_;exact⟨V4,V4⟩
 ·refine bB ?_;refine ab (EF (i:=0) underlying9 rfl rfl rfl aa) rfl (aF ?_);refine ab (AW (s:=[]) (r:=s.text 25) rfl rfl (by simp only[sY];omega)) rfl (bB ?_);refine bR 19 44 [0,9] (qT s was true) ?_ ?_
  ·refine bE ?_;refine aI rfl rfl rfl (λrn=>?_) (λrn=>?_)
   ·refine b7 ?_;refine ai rfl (SG was (s.text 25)) (b7 ?_);refine aI rfl rfl rfl (λH6=>?_) (λH6=>?_)
    ·refine cY ?_;exact aL (by exact dR (by first|exact hB.2 (.inl (by assumption))|exact hB.2 (.inr (by assumption))|exact λh=>(hB.1 h).elim (λq=>absurd q (by assumption)) (λq=>absurd q (by assumption))))
    ·refine bO ?_;exact aL aqk
   ·refine jt ?_;exact aL aqk
  ·refine bc ?_;refine aj (λsT=>?_) λsT=>?_
   ·refine bc ?_;refine ai rfl (nQ 2) (bz ?_);exact⟨by rw[aw ju];rfl,by rw[aw ju,ao sT]⟩
   ·refine bz ?_;exact⟨by rw[aw ju];rfl,by rw[aw ju,aw sT]⟩
theorem akd{was:cm}(hw:E was<=1000)(ho:cu s)(hb:aM B w0 F 1 (.slice A (E s.b) c) (E s.b) (bv s.b)):
  aZ B w0 298 [br g,.string ⟨was.toArray⟩,.bool false] (Cv g A c s::F) (λr L=>r= .string ⟨(tb s was false).toArray⟩∧L=Cv g A c (tN s was false)::F):=by
 have hA:nxA s was false=s.bZ (E was):=rfl;have hN:nxN s was false=s.int (E was):=rfl;have hS:Uc s was false=(s.bZ (E was)).eT 25:=rfl;have hX:nxX s was false=was.take (s.int (E was))++(s.bZ (E was)).text 25:=rfl;have hB:qT s was false↔((s.bZ (E was)).text 25=[]∨¬u_ was (nxX s was false)∨qP was (nxX s was false)≠s.int (E was)):=by unfold qT;rw[hN,hA];simp
 have hC:tN s was false=if ((s.bZ (E was)).eT 25).e≠0 then (s.bZ (E was)).eT 25 else if qT s was false then ((s.bZ (E was)).eT 25).failed 2 else (s.bZ (E was)).eT 25:=rfl
 have hT:tb s was false=if ((s.bZ (E was)).eT 25).e≠0 then [] else nxX s was false:=rfl
 have De:=Yw (s.bZ (E was));have Da:=aoU s was false hw;have ho2:cu (s.bZ (E was)):=ho.bZ aa;have pB:aM B w0 F 1 (.slice A (E (s.bZ (E was)).b) c) (E (s.bZ (E was)).b) (bv (s.bZ (E was)).b):=by rw[Cs.Br];exact hb
 rw[hC,hT];rw[hX]at*;rw[hN]at Da;clear hC hT hS hN hA;refine fw func298 48 [0,1,2] ?_;refine E' ?_;refine ai rfl (ja ho hb (most:=E was) aa aa) (bB ?_);refine ai rfl (Dt ho2 pB (most:=25) aa aa) (bI ?_);refine ai rfl (gW) (bE ?_);refine aj (λju=>?_) λju=>?_
 ·refine bE ?_;refine ve [6] ?_;refine b7 ?_;exact⟨V4,V4⟩
 ·refine bB ?_;refine ab (EF (i:=s.int (E was)) underlying9 rfl rfl rfl aa) rfl (aF ?_);refine ab (AW (s:=was.take (s.int (E was))) (r:=(s.bZ (E was)).text 25) rfl rfl (by simp only[eY];omega)) rfl (aF ?_);refine ve [0,1,2,7,8,9] ?_;refine b7 ?_;refine bR 19 44 [0,9] (qT s was false) ?_ ?_
  ·refine bE ?_;refine aI rfl rfl rfl (λrn=>?_) (λrn=>?_)
   ·refine b7 ?_;refine ai rfl (SG was (was.take (s.int (E was))++(s.bZ (E was)).text 25)) (b7 ?_);refine aI rfl rfl rfl (λH6=>?_) (λH6=>?_)
    ·refine bz ?_;refine ai rfl (WB was (was.take (s.int (E was))++(s.bZ (E was)).text 25) aa) (bI ?_);exact aL (by exact dG (by first|exact hB.2 (.inl (by assumption))|exact hB.2 (.inr (.inl (by assumption)))|exact⟨λh=>hB.2 (.inr (.inr (by omega))),λh=>(hB.1 h).elim (λq=>absurd q (by assumption)) (λq=>q.elim (λq=>absurd q (by assumption)) (λq=>by omega))⟩))
    ·refine bO ?_;exact aL b_8
   ·refine jt ?_;exact aL b_8
  ·refine bc ?_;refine aj (λsT=>?_) λsT=>?_
   ·refine bc ?_;refine ai rfl (nQ 2) (bz ?_);exact⟨by rw[aw ju],by rw[aw ju,ao sT]⟩
   ·refine bz ?_;exact⟨by rw[aw ju],by rw[aw ju,aw sT]⟩
theorem aqx{P:Prop}(h:P:=by(rw[show m-(i+1)=k by omega,oq (show¬((i+1:Nat):Int)=0 by omega)];exact hF)):P:=h
theorem Nt{P:Prop}(h:P:=by(simpa using q)):P:=h
theorem aoQ{was:cm}(first:Bool)(hw:E was<=1000)(ho:cu s)(hb:aM B w0 F 1 (.slice A (E s.b) c) (E s.b) (bv s.b)):
  aZ B w0 298 [br g,.string ⟨was.toArray⟩,.bool first] (Cv g A c s::F) (λr L=>r= .string ⟨(tb s was first).toArray⟩∧L=Cv g A c (tN s was first)::F):=by
 cases first
 ·exact akd hw ho hb
 ·exact akc hw ho hb
theorem afD{was:cm}{first:Bool}(h:(tN s was first).e=0):(Uc s was first).e=0∧¬qT s was first∧tN s was first=Uc s was first∧tb s was first=nxX s was first:=by
 unfold tN at h⊢;by_cases h1:(Uc s was first).e≠0
 ·rw[ao h1]at h;exact absurd h h1
 ·rw[aw h1]at h⊢;have S3:(Uc s was first).e=0:=by simpa using h1
  by_cases h2:qT s was first
  ·rw[ao h2]at h;unfold Cs.failed at h;rw[ao S3]at h;exact absurd h ak
  ·rw[aw h2];exact⟨S3,h2,rfl,aw h1⟩
theorem Ud{was:cm}{first:Bool}(h:(tN s was first).e=0):u_ was (tb s was first):=by
 obtain⟨_,h2,_,h4⟩:=afD h;rw[h4];exact jN.1 λh=>h2 (.inr (.inl h))
def ir:Nat->Bool->Cs->List cm->List cm×Int
 |0,_,s,out=>if s.yR.e≠0 then ([],s.yR.e) else (out,0)
 |k+1,first,s,out=>if (tN s (fF out (E out)) first).e≠0 then ([],(tN s (fF out (E out)) first).e) else ir k false (tN s (fF out (E out)) first) (out++[tb s (fF out (E out)) first])
def HB(l:List cm):Prop:=∀x∈l,E x<=25
theorem HB.prv{l:List cm}(h:HB l)(i:Nat):E (fF l i)<=25:=by
 unfold fF;split
 ·simp
 ·rw[ba];by_cases hi:i-1<E l
  ·rw[fc hi];exact h _ (oT _)
  ·rw[Bv aa];simp
theorem HB.snoc{l:List cm}(h:HB l){x:cm}(hx:E x<=25):HB (l++[x]):=by
 intro y hy;simp only[dz,me]at hy;rcases hy with hy|rfl
 ·exact h y hy
 ·exact hx
abbrev Dd(g:Nat)(sz:Int)(A1:bk)(c1:Nat)(A2:bk)(c2:Nat)(o h:List cm)(F:aR):aR:=
 .bG g 371 [.slice A1 (E o) c1,ah sz,.slice A2 (E h) c2]:: .own 9 1 A1 (E o) c1 (strs o):: .own 9 1 A2 (E h) c2 (strs h)::F
theorem OP{l r:List cm}{i:Nat}(h:i<E l):(l++r).getD i []=l.getD i []:=by simp[List.getD,zk h]
theorem anF{b:al}{m:Nat}{sz:Int}{o0 h0:List cm}(hm:1<=m)(uj:m<=64)(hb:aM B w0 (Dd g sz A1 c1 A2 c2 o0 h0 F) 1 (.slice A (E b) c) (E b) (bv b))(di:E b<=1099511627776)(wS:HB o0)(LA:E o0<=2000000)(Xd:E h0<=2000000):
  aZ B w0 267 [br g,.slice A (E b) c,ah m] (Dd g sz A1 c1 A2 c2 o0 h0 F) (λr L=>∃P1 p1 P2 p2 o h,r=ah (ir m true ⟨b,0,0⟩ o0).2∧L=Dd g sz P1 p1 P2 p2 o h F∧((ir m true ⟨b,0,0⟩ o0).2=0->o=(ir m true ⟨b,0,0⟩ o0).1∧h=h0++[o.getD (E o0) []]∧HB o∧E o=E o0+m)):=by
 obtain⟨G,hG⟩:=cK (ir m true ⟨b,0,0⟩ o0);rw[<-hG];refine fw func267 76 [0,1,2] ?_;refine bK ?_;refine fh rfl (nC hb di) λg13 x9 Hm=>de ?_;refine aD (λzf zL zm=>∃(i:Nat) (s:Cs) (o h:List cm) (P1:bk) (p1:Nat) (P2:bk) (p2:Nat),(i<=m∧cu s∧E o=E o0+i∧HB o∧(i=0->h=h0)∧(0<i->h=h0++[o.getD (E o0) []])∧ir (m-i) (decide ((i:Int)=0)) s o=G)∧m-i=zm∧Sub zf [(0,br g),(7,br g13),(14,ah m),(15,ah i)]∧Wk zL (Cv g13 x9 Hm s:: .own 5 1 x9 (E s.b) Hm (bv s.b)::Dd g sz P1 p1 P2 p2 o h F)) _ ⟨0,⟨b,0,0⟩,o0,h0,A1,c1,A2,c2,⟨bU _,⟨bU _,di⟩,rfl,wS,λ_=>rfl,λh=>absurd h aa,hG.symm⟩,rfl,bp,.refl _⟩ ?_;rintro _ _ _ ⟨i,s,o,h,P1,p1,P2,p2,⟨hi,ho,hoo,Tr,hh0,hh1,hF⟩,rfl,hs,hp⟩;refine aT hs hp (bB ?_);refine aj (λlf=>?_) λlf=>?_
 ·obtain⟨k,hk⟩:∃k,m-i=k+1:=⟨m-i-1,aa⟩
  rw[hk,ir]at hF;have mP:=Tr.prv (E o);have awg:E h<=2000001:=by
   by_cases h0i:i=0
   ·rw[hh0 h0i];omega
   ·rw[hh1 aa];simp;omega
  refine jt ?_;refine dY (λzf zL=>Sub zf [(0,br g),(7,br g13),(8,ah i),(9,.string ⟨(fF o (E o)).toArray⟩),(14,ah m),(15,ah i)]∧Wk zL (Cv g13 x9 Hm s:: .own 5 1 x9 (E s.b) Hm (bv s.b)::Dd g sz P1 p1 P2 p2 o h F)) ?_ ?_
  ·refine de ?_;refine aj (λoB=>?_) λoB=>?_
   ·have aod:o.getD (E o-1) []=fF o (E o):=(aw aa).symm;refine cY ?_;refine bL (aE (i:=E o-1) (size:=1) underlying87 ag rfl rfl aa aa aB) rfl ?_;refine bL (gX (b:=o) (j:=E o-1) ag rfl aB aa) rfl ?_;rw[aod];refine aF ?_;refine lO [(0,_),(7,_),(8,_),(9,_),(14,_),(15,_)] ⟨rfl,rfl,rfl,rfl,rfl,rfl,trivial⟩ ?_;exact bC ⟨bp,.refl _⟩
   ·have aod:fF o (E o)=[]:=ao aa;refine aF ?_;rw[aod];exact bC ⟨bp,.refl _⟩
  ·rintro _ _ ⟨hs,hp⟩;refine aT hs hp (bB ?_);refine ai rfl (aoQ (decide ((i:Int)=0)) (was:=fF o (E o)) aa ho aB) (bI ?_);refine ai rfl (gW) (bO ?_);refine aj (λW5=>?_) λW5=>?_
   ·rw[ao W5]at hF;refine b7 ?_;refine ve [6] ?_;refine bK ?_;refine aq (L':=Dd g sz P1 p1 P2 p2 o h F) (.s2 (.refl _)) (aF ?_);exact⟨P1,p1,P2,p2,o,h,by rw[<-hF],rfl,λh=>by rw[<-hF]at h;exact absurd h W5⟩
   ·rw[aw W5]at hF;have h0:(tN s (fF o (E o)) (decide ((i:Int)=0))).e=0:=by omega
    have fy:=Ud h0;have hbb:=asX s (fF o (E o)) (decide ((i:Int)=0));have hoC:cu (tN s (fF o (E o)) (decide ((i:Int)=0))):=ho.tN aa;have Ff:E o+1=E (o++[tb s (fF o (E o)) (decide ((i:Int)=0))]):=by simp
    refine de ?_;refine dL GM rfl rfl rfl rfl rfl (λ_=>rfl) aW aa aa ?_;intro _ A57 c57;refine b7 ?_;refine ve [0,7,8,10,14,15] ?_;refine bI ?_;refine aj (λh62=>?_) λh62=>?_
    ·refine bI ?_;refine dL GM rfl rfl rfl rfl rfl (λ_=>rfl) aW aa aa ?_;intro _ A70 c70;refine bz ?_;have aew:E h+1=E (h++[tb s (fF o (E o)) (decide ((i:Int)=0))]):=by simp
     refine av ⟨_,aa,i+1,tN s (fF o (E o)) (decide ((i:Int)=0)),o++[tb s (fF o (E o)) (decide ((i:Int)=0))],h++[tb s (fF o (E o)) (decide ((i:Int)=0))],A57,c57,A70,c70,⟨aa,hoC,bT,Tr.snoc fy.2.1,λh=>absurd h aa,λ_=>by rw[hh0 aa];simp[hoo,show i=0 by omega],aqx⟩,rfl,bp,.cons (az (by rw[hbb]) (by rw[hbb]) (bw (by rw[Ff,aew];rfl) (az Ff Nv (az aew Nv (.refl _)))))⟩
    ·refine bI ?_;refine av ⟨_,aa,i+1,tN s (fF o (E o)) (decide ((i:Int)=0)),o++[tb s (fF o (E o)) (decide ((i:Int)=0))],h,A57,c57,P2,p2,⟨aa,hoC,bT,Tr.snoc fy.2.1,λh=>absurd h aa,λ_=>by rw[hh1 aa,OP aa],aqx⟩,rfl,bp,.cons (az (by rw[hbb]) (by rw[hbb]) (bw (by rw[Ff];rfl) (az Ff Nv (.refl _))))⟩
 ·rw[show m-i=0 by omega,ir]at hF;refine bK ?_;refine ai rfl (ac0 ho aB) (b7 ?_);refine aq (L':=Dd g sz P1 p1 P2 p2 o h F) (.s2 (.refl _)) (aF ?_);have hG2:G.2=s.yR.e:=by
   rw[<-hF];split
   ·rfl
   ·rename_i q;simpa using(jN.1 q).symm
  refine⟨P1,p1,P2,p2,o,h,by rw[hG2],rfl,λq=>?_⟩;rw[hG2]at q;rw[aw Nt]at hF;exact⟨by rw[<-hF],hh1 aa,Tr,aa⟩
theorem VS{P:Prop}(h:P:=by(rw[RT];exact aB)):P:=h
def BZ:Nat->Cs->bf->Cs×bf
 |0,s,out=>(s,out)
 |k+1,s,out=>if s.e≠0 then (s,out) else BZ k (s.bZ 2000) (out++[s.int 2000])
def pO(sz n:Nat):bf->Cs->List cm->List cm×Cs×Int
 |[],s,out=>if s.e≠0 then ([],s,s.e) else (out,s,0)
 |k::r,s,out=>
  if (s.cj k).e≠0 then ([],s,(s.cj k).e)
  else if (ir (min sz (n-E out)) true ⟨s.take k,0,0⟩ out).2≠0 then ([],s,(ir (min sz (n-E out)) true ⟨s.take k,0,0⟩ out).2)
  else pO sz n r (s.cj k) (ir (min sz (n-E out)) true ⟨s.take k,0,0⟩ out).1
def uD(b:al):Nat:=Cs.int ⟨b,0,0⟩ 1048576
def mn(sz:Nat)(b:al):Cs×bf:=BZ (h_ sz (uD b)) (Cs.bZ ⟨b,0,0⟩ 1048576) []
def nh(sz:Nat)(b:al):List cm×Cs×Int:=pO sz (uD b) (mn sz b).2 (mn sz b).1 []
def eo(size:Int)(b:al):List cm×Nat×Int:=
 if size<1∨64<size then ([],0,13)
 else if (nh size.toNat b).2.2≠0 then ([],0,(nh size.toNat b).2.2) else ((nh size.toNat b).1,(nh size.toNat b).2.1.at_,0)
theorem vJ{size:Int}{b:al}(h:size<1∨64<size):eo size b=([],0,13):=ao h
theorem I_{sz:Nat}{b:al}(h:¬((sz:Int)<1∨64<(sz:Int)))(he:(nh sz b).2.2≠0):eo sz b=([],0,(nh sz b).2.2):=by unfold eo;rw[aw h,oo,ao he]
theorem EH{sz:Nat}{b:al}(h:¬((sz:Int)<1∨64<(sz:Int)))(he:(nh sz b).2.2=0):eo sz b=((nh sz b).1,(nh sz b).2.1.at_,0):=by unfold eo;rw[aw h,oo,aw Ns]
theorem Cs.LI(s:Cs){m:Int}(h0:0<=m)(hm:m<=9223372036854775807):(s.int m:Int)<=m:=by
 unfold Cs.int;split
 ·simpa using h0
 ·by_cases h:(eM s.rest m).2.2=0
  ·exact(jV s.rest m hm).2.2.2 h
  ·rw[(qd h).1];simpa using h0
theorem Cs.ak9(s:Cs)(m:Int):(s.cj m).b=s.b:=Cs.cQ s _ _
theorem Cs.JR{s:Cs}{k:Nat}{er:Int}(h:(s.eQ k er).e=0):s.e=0:=by
 unfold Cs.eQ at h;split at h
 ·exact h
 ·split at h
  ·rename_i h1 h2;exact absurd h h2
  ·exact h
theorem Jg:∀(m:Nat) (f:Bool) (s:Cs) (o:List cm),(ir m f s o).2=0->∃t,(ir m f s o).1=o++t∧E t=m
 |0,f,s,o,h=>by
  unfold ir at h⊢;split at h
  ·rename_i q;exact absurd h q
  ·rename_i q;rw[aw q];exact⟨[],ak⟩
 |k+1,f,s,o,h=>by
  unfold ir at h⊢;split at h
  ·rename_i q;exact absurd h q
  ·rename_i q;rw[aw q];obtain⟨t,h1,h2⟩:=Jg k _ _ _ h;exact⟨tb s (fF o (E o)) f::t,by rw[h1];simp,by simp[h2]⟩
def hdS(sz:Nat)(o:List cm):List cm:=(List.range (h_ sz (E o))).map λj=>o.getD (j*sz) []
theorem Sq{sz n:Nat}(h:1<=sz):n<=h_ sz n*sz:=by
 rcases uW (h_ sz n*sz) n with h1|h1
 ·exact absurd ((oF h).2 h1) aa
 ·exact h1
theorem Tl{i z sz N:Nat}{o t:List cm}(hz:z=i*sz)(lK:1<=sz)(ho:E o=min z N)(hzN:z<N):(List.range i).map (λj=>o.getD (j*sz) [])++[(o++t).getD (E o) []]=(List.range (i+1)).map (λj=>(o++t).getD (j*sz) []):=by
 rw[lT,jx,List.map_singleton];congr 1
 ·apply qB;intro j hj;have hji:=pj.1 hj;have:(j+1)*sz<=i*sz:=ph sz aa;rw[kz,lz]at this;exact(OP aa).symm
 ·rw[show i*sz=E o by omega]
theorem ZF{l:bf}{i:Nat}(h:i<E l):l.drop i=l.getD i 0::l.drop (i+1):=by
 rw[LQ h];simp[List.getD,fc h]
def ack(size:Int)(b:al)(F:aR)(r:Value)(L:aR):Prop:=
 ((eo size b).2.2≠0∧r= .tuple #[.pointer none,ah 0,ah (eo size b).2.2]∧L=F)∨
 ((eo size b).2.2=0∧1<=size∧size<=64∧HB (eo size b).1∧E (eo size b).1<=1048576∧∃g A1 c1 A2 c2,r= .tuple #[br g,ah (eo size b).2.1,ah 0]∧L=Dd g size A1 c1 A2 c2 (eo size b).1 (hdS size.toNat (eo size b).1) F)
theorem ZD{size:Int}{b:al}(hE:size<1∨64<size):
  aZ B w0 226 [ah size,.slice A n c] F (ack size b F):=by
 refine fw func226 84 [0,1] ?_;refine bz ?_;refine bR 6 23 [0,1] (size<1∨64<size) ?_ ?_
 ·refine bE ?_;refine aI rfl rfl rfl (λju=>?_) (λju=>?_)
  ·refine b7 ?_;exact aL pM
  ·refine bc ?_;exact aL wy
 ·refine bc ?_;refine aj (λmB=>?_) λmB=>?_
  ·refine bz ?_;exact .inl ⟨by rw[vJ hE];decide,by rw[vJ hE],rfl⟩
  ·exfalso;exact mB hE
theorem Og{sz:Nat}{b:al}(lK:1<=sz)(j_:sz<=64)(hb:fo B w0 F A c b)(di:E b<=1000000000):
  aZ B w0 226 [ah sz,.slice A (E b) c] F (ack sz b F):=by
 have hR1:= @I_ sz b aa;have Z8:= @EH sz b aa;have hN1:=Cs.LI ⟨b,0,0⟩ (m:=1048576) aa aa;have hDS:mn sz b=BZ (h_ sz (uD b)) (Cs.bZ ⟨b,0,0⟩ 1048576) []:=rfl;have hDF:nh sz b=pO sz (uD b) (mn sz b).2 (mn sz b).1 []:=rfl;have hNe:Cs.int ⟨b,0,0⟩ 1048576=uD b:=rfl;rw[hNe]at hN1;have hdN:∀l:List cm,nh sz b=nh sz b:=λ_=>rfl;obtain⟨N,hN⟩:=cK (uD b);rw[<-hN]at hN1 hDS hDF hNe;have hcN:h_ sz N<=1048639:=by
  unfold h_;exact jz (rY _ _) aa
 have hcz:h_ sz N*sz<=1048639*64:=gU hcN j_;have ho1:cu (Cs.bZ ⟨b,0,0⟩ 1048576):=cu.bZ ⟨bU _,dh⟩ aa;refine fw func226 84 [0,1] ?_;refine bz ?_;refine bR 6 23 [0,1] ((sz:Int)<1∨64<(sz:Int)) ?_ ?_
 ·refine bE ?_;refine aI rfl rfl rfl (λju=>?_) (λju=>?_)
  ·refine b7 ?_;exact aL pM
  ·refine bc ?_;exact aL wy
 ·refine bc ?_;refine dw λmB=>?_;refine bF ?_;refine fh rfl (nC hb aa) λg25 Ix MW=>bB ?_;refine ai rfl (ja (s:=⟨b,0,0⟩) ⟨bU _,dh⟩ aB (most:=1048576) aa aa) ?_;rw[hNe];refine b7 ?_;refine a_ 3 1 none (de ?_);refine aD (λzf zL zm=>∃(j q:Nat) (s:Cs) (S:bf) (A9:bk) (c9:Nat),(j<=h_ sz N∧q=j*sz∧E S=j∧cu s∧s.b=b∧(∀i,i<E S->S.getD i 0<=2000)∧BZ (h_ sz N-j) s S=mn sz b)∧h_ sz N-j=zm∧Sub zf [(0,ah sz),(7,br g25),(8,ah N),(9,.slice A9 (E S) c9),(10,ah q)]∧Wk zL (Cv g25 Ix MW s:: .own 5 1 Ix (E b) MW (bv b):: .own 3 1 A9 (E S) c9 (bD S)::F)) _ ⟨0,0,Cs.bZ ⟨b,0,0⟩ 1048576,[],none,0,⟨bU _,(qC _).symm,rfl,ho1,Cs.Br _ _,λi h=>absurd h ak,hDS.symm⟩,rfl,bp,(gE (gE (eu (.refl _))))⟩ ?_;rintro _ _ _ ⟨j,q,s,S,A9,c9,⟨hj,hq,Z',ho,RT,hS2,hS⟩,rfl,hs,hp⟩;refine aT hs hp (bE ?_);refine bR 8 35 [0,7,8,9,10] ((q:Int)<N∧s.e=0) ?_ ?_
  ·refine b7 ?_;refine cD (λC_=>?_) λC_=>?_
   ·refine bc ?_;refine ai rfl (gW) (bE ?_);exact aL pM
   ·refine bE ?_;exact aL xh
  ·refine bc ?_;refine aj (λuI=>?_) λuI=>?_
   ·have hjN:j<h_ sz N:=(oF lK).2 aa;have hjz:(j+1)*sz<=h_ sz N*sz:=ph sz hjN;have hjs:(j+1)*sz=j*sz+sz:=kH j sz;have hi2:=Cs.LI s (m:=2000) aa aa;have Ff:E S+1=E (S++[s.int 2000]):=by simp
    rw[show h_ sz N-j=(h_ sz N-(j+1))+1 by omega,BZ,aw (by simpa using uI.2)]at hS;refine bI ?_;refine ai rfl (ja ho VS (most:=2000) aa aa) ?_;refine dL fT rfl rfl rfl rfl rfl (λ_=>rfl) aW aa aa ?_;intro _ MS c43;refine bz ?_;refine av ⟨_,aa,j+1,q+sz,s.bZ 2000,S++[s.int 2000],MS,c43,⟨aa,aa,bT,ho.bZ aa,by rw[Cs.Br];exact RT,λi hi=>by
 rcases uW i (E S) with h|h
 ·rw[show(S++[s.int 2000]).getD i 0=S.getD i 0 by simp[List.getD,zk h]];exact hS2 i h
 ·have:i=E S:=by simp at hi;omega
  rw[this];simp;omega,hS⟩,rfl,bp,.cons (.cons (az Ff tC (.refl _)))⟩
   ·have hSS:(s,S)=mn sz b:=by
     rw[<-hS];by_cases h:j=h_ sz N
     ·rw[h,oj];rfl
     ·rw[show h_ sz N-j=(h_ sz N-(j+1))+1 by omega,BZ,ao];intro h0;exact uI ⟨by have:=(oF lK).1 (show j<h_ sz N by omega);omega,h0⟩
    have hcm:s.e=0->E S=h_ sz N:=by
     intro h0;rcases uW j (h_ sz N)with h|h
     ·exact absurd ⟨by have:=(oF lK).1 h;omega,h0⟩ uI
     ·omega
    rw[<-hSS]at hDF;refine bB ?_;refine a_ 9 1 none (a_ 9 1 none (bc ?_));refine ab (bx [(1,_)] [.slice none 0 0,ah 0,.slice none 0 0] [1] [_,_,_] rfl rfl ag) rfl (bg λWW=>?_);refine cF ?_;refine aD (λzf zL zm=>∃(i z:Nat) (u:Cs) (o h:List cm) (P1:bk) (p1:Nat) (P2:bk) (p2:Nat),(i<=E S∧z=i*sz∧E o=min z N∧cu u∧u.b=b∧(u.e=0->E S=h_ sz N)∧HB o∧h=(List.range i).map (λj=>o.getD (j*sz) [])∧pO sz N (S.drop i) u o=nh sz b)∧E S-i=zm∧Sub zf [(0,ah sz),(7,br g25),(8,ah N),(11,br WW),(47,.slice A9 (E S) c9),(48,ah (E S)),(49,ah i)]∧Wk zL (Cv g25 Ix MW u:: .own 5 1 Ix (E b) MW (bv b)::Dd WW sz P1 p1 P2 p2 o h (.own 3 1 A9 (E S) c9 (bD S)::F))) _ ⟨0,0,s,[],[],none,0,none,0,⟨bU _,(qC _).symm,ak,ho,RT,hcm,λx hx=>absurd hx ak,rfl,hDF.symm⟩,rfl,bp,(ur (ur (eu (eu (eu (eu (.refl _)))))))⟩ ?_;rintro _ _ _ ⟨i,z,u,o,h,P1,p1,P2,p2,⟨hi,hz,LA,hou,hub,huc,Tr,hh,hB⟩,rfl,hs,hp⟩;refine aT hs hp (bB ?_);refine aj (λJp=>?_) λJp=>?_
    ·have hiS:i<E S:=by omega
     have hzN:z<N:=by have:=(oF lK).1 (show i<h_ sz N by omega);omega
     have hoz:E o=z:=by omega
     have hiz:(i+1)*sz=i*sz+sz:=kH i sz;have awi:i*sz<=h_ sz N*sz:=ph sz aa;have auC:=hS2 i hiS;rw[ZF hiS,pO]at hB;obtain⟨k,hk⟩:=cK (S.getD i 0);have y8:(bD S)[i*1]? =some (ah (k:Int)):=by rw[hk];simp[bD,List.getD,fc hiS]
     rw[<-hk]at hB auC;obtain⟨M,hM⟩:=cK (min sz (N-E o));rw[<-hM]at hB;have hMe:min (sz:Int) ((N-z:Nat):Int)=(M:Int):=by rw[hM,hoz];omega
     have uN:E (u.take k)<=1000000:=by
      unfold Cs.take;split
      ·simp
      ·split
       ·simp
       ·simp only[eY];omega
     refine bK ?_;refine ab (au ag rfl aB aa y8) rfl (bK ?_);refine ay rfl (mI hou (by rw[hub];exact aB) (m:=(k:Int)) aa aa) λA56 c56=>bI ?_;refine ai rfl (gW) (bO ?_);refine aj (λh60=>?_) λh60=>?_
     ·rw[ao h60]at hB;refine bB ?_;refine ve [4,5,6] ?_;refine bK ?_;refine aq (L':=F) (.s7 (.refl _)) (aF ?_);have wC:=hR1 (by rw[<-hB];exact h60);rw[<-hB]at wC;exact .inl ⟨by rw[wC];exact h60,by rw[wC],rfl⟩
     ·rw[aw h60]at hB;refine bz ?_;refine ab (eH rfl rfl (r:=(z:Int)) ((bq (by rw[<-zi];omega) (by rw[<-zi];omega)).trans (by rw[hz];exact zi i sz))) rfl (ab (dC rfl rfl (r:=((N-z:Nat):Int)) ((bq aa aa).trans aa)) rfl (ab (yM rfl rfl) rfl ?_));rw[hMe];refine be arw rfl ((anF (b:=u.take k) (m:=M) aa aa aB aa Tr aa (by rw[hh];simp;omega)).perm ((pu3 (pu3 (pu3 (fV (fV (fV (.refl _))))))))) rfl ?_;rintro _ _ ⟨P71,p71,Q71,q71,o2,h2,rfl,cO,hfo⟩;obtain rfl:=cO.symm;refine aF ?_;refine ve [0,7,8,11,16,47,48,49] ?_;refine bI ?_;refine aj (λh73=>?_) λh73=>?_
      ·rw[ao h73]at hB;refine ei ?_;refine aq (L':=F) (.s7 (.refl _)) (aF ?_);have wC:=hR1 (by rw[<-hB];exact h73);rw[<-hB]at wC;exact .inl ⟨by rw[wC];exact h73,by rw[wC],rfl⟩
      ·rw[aw h73]at hB;have asb:(ir M true ⟨u.take k,0,0⟩ o).2=0:=by simpa using h73
       obtain⟨ho2,hh2,asz,awq⟩:=hfo asb;rw[<-ho2]at hB;obtain⟨t,ht,De⟩:=Jg _ _ _ _ asb;rw[<-ho2]at ht;refine bI ?_;refine av ⟨_,aa,i+1,z+sz,u.cj k,o2,h2,P71,p71,Q71,q71,⟨aa,aa,aa,hou.cj,by rw[Cs.ak9];exact hub,λq=>huc (Cs.JR q),asz,by rw[hh2,hh,ht];exact Tl hz lK LA hzN,hB⟩,rfl,bp,(ur (wu4 (eu (eu (eu (gE (.skip (.refl _))))))))⟩
    ·have hiS:i=E S:=by omega
     rw[mU aa,pO]at hB;refine bO ?_;refine ai rfl (gW) (bO ?_);refine aj (λh79=>?_) λh79=>?_
     ·rw[ao h79]at hB;refine bz ?_;refine aq (L':=F) (.s6 (.refl _)) (aF ?_);have wC:=hR1 (by rw[<-hB];exact h79);rw[<-hB]at wC;exact .inl ⟨by rw[wC];exact h79,by rw[wC],rfl⟩
     ·rw[aw h79]at hB;refine bB ?_;refine ai rfl (anC) (bB ?_);have wC:=Z8 (by rw[<-hB]);rw[<-hB]at wC;have hn:E o=N:=by have:=Sq (n:=N) lK;have:=huc (by simpa using h79);rw[LA,hz,hiS,this];omega
      have xz:h=hdS sz o:=by unfold hdS;rw[hn,hh,hiS,huc (by simpa using h79)]
      refine aq (L':=Dd WW sz P1 p1 P2 p2 o h F) ((sE (sE (sE (.s3 (.refl _)))))) (aF ?_);exact .inr ⟨by rw[wC],aa,aa,by rw[wC];exact Tr,by rw[wC];simp only;omega,WW,P1,p1,P2,p2,by rw[wC],by rw[wC,xz];rfl⟩
theorem ai9{size:Int}{b:al}(hb:fo B w0 F A c b)(di:E b<=1000000000):
  aZ B w0 226 [ah size,.slice A (E b) c] F (ack size b F):=by
 by_cases hE:size<1∨64<size
 ·exact ZD hE
 ·obtain⟨sz,rfl⟩:=gi (show 0<=size by omega);exact Og aa aa hb di
theorem SH{sz k:Nat}{b:al}{l:List cm}(lK:1<=sz)(j_:sz<=64)(hb:fo B w0 F A c b)(di:E b<=1000000000)(he:eo sz b=(l,k,0)):
  aZ B w0 226 [ah sz,.slice A (E b) c] F (λr L=>∃g A1 c1 A2 c2,r= .tuple #[br g,ah k,ah 0]∧L=Dd g sz A1 c1 A2 c2 l (hdS sz l) F):=
 (Og lK j_ hb di).mono λr L h=>by
  rcases h with⟨h,_⟩|⟨_,_,_,_,_,g,A1,c1,A2,c2,h1,h2⟩
  ·rw[he]at h;exact absurd rfl h
  ·rw[he]at h1 h2;exact⟨g,A1,c1,A2,c2,h1,h2⟩
theorem ZE{size:Int}{b:al}(hb:fo B w0 F A c b)(di:E b<=1000000000)(he:(eo size b).2.2≠0):
  aZ B w0 226 [ah size,.slice A (E b) c] F (λr L=>r= .tuple #[.pointer none,ah 0,ah (eo size b).2.2]∧L=F):=
 (ai9 hb di).mono λr L h=>by
  rcases h with⟨_,h1,h2⟩|⟨h,_⟩
  ·exact⟨h1,h2⟩
  ·exact absurd h he
theorem dU.aiE{P:Program}{B:Nat}{w0:World}{L:aR}{ff:FuncId}{args:cZ}{R:rF}{size nn c:Nat}{xs:cZ}(hb:aM B w0 L size (.slice none nn c) nn xs)(h:nn=0->dU P B w0 ff args L R):dU P B w0 ff args L R:=λw hw=>by
 obtain⟨A',c',hv,hc,hl,hr⟩:=hb w hw;injection hv with h1 _ h3;subst h1;rcases xF nn with h0|h0
 ·exact h h0 w hw
 ·obtain⟨ad,e,_⟩:=hr h0;cases e
theorem agE(l:List cm)(hb:aM B w0 F 1 (.slice A (E l) c) (E l) (strs l))(hn:E l<=1099511627776):
  aZ B w0 271 [.slice A (E l) c] F (λr L=>∃A' c',r= .slice A' (E l) c'∧L= .own 9 1 A' (E l) c' (strs l)::F):=by
 rcases A with _|ad
 ·refine dU.aiE hb λh0=>?_;have:l=[]:=mS h0;subst this;refine b_ func271 8 rfl rfl rfl [(0,.slice none 0 c)] ⟨⟨rfl,rfl⟩,trivial⟩ ?_;refine bO ?_;refine ab (sN underlying87 rfl rfl) rfl (bz ?_);refine aC 9 1 none (aF ?_);exact⟨none,0,rfl,rfl⟩
 ·refine b_ func271 8 rfl rfl rfl [(0,.slice (some ad) (E l) c)] ⟨⟨rfl,rfl⟩,trivial⟩ ?_;refine bO ?_;refine ab (sN underlying87 rfl rfl) rfl (bI ?_);refine cC (j0 GM) λA5=>aF ?_;refine fK (bW GM rfl aW rfl aB cw aa aa) λA7 c7=>b7 ?_;rw[lV,mW];refine aF ?_;exact⟨_,_,rfl,rfl⟩
theorem anB(hn:E o<=1048576):
  aZ B w0 229 [br g] (Dd g sz A1 c1 A2 c2 o h F) (λr L=>∃A' c',r= .slice A' (E o) c'∧L=Dd g sz A1 c1 A2 c2 o h (.own 9 1 A' (E o) c' (strs o)::F)):=by
 refine fw func229 11 [0] ?_;refine E' ?_;refine ay rfl (agE o aB aa) λwJ Ej=>b7 ?_;refine aq (L':=Dd g sz A1 c1 A2 c2 o h (.own 9 1 wJ (E o) Ej (strs o)::F)) ((gE (gE (gE (eu (.refl _)))))) (aF ?_);exact⟨wJ,Ej,rfl,rfl⟩
theorem anE:aZ B w0 228 [br g] (Dd g sz A1 c1 A2 c2 o h F) (λr L=>r=ah (E o)∧L=Dd g sz A1 c1 A2 c2 o h F):=by
 refine fw func228 11 [0] ?_;refine ar8 ?_;exact⟨rfl,rfl⟩
theorem plK.find{t:cm}{k:Nat}(hk:plK o t k)(hR:lF o):(k<E o∧o.getD k []=t)↔t∈o:=by
 constructor
 ·rintro⟨h1,h2⟩;rw[<-h2,ba,fc h1];exact oT _
 ·intro h;obtain⟨i,hi,he⟩:=ke h;have he:o.getD i []=t:=by rw[ba,fc hi];exact he
  have h1:k<=i:=by
   rcases uW i k with h|h
   ·exact absurd (he▸hk.2.1 i h) (f_ _)
   ·exact h
  rcases uW k i with h2|h2
  ·exact absurd (he▸hR.lt i k h2 hi) (hk.2.2 k (gC _) aa)
  ·exact⟨aa,by rw[show k=i by omega];exact he⟩
end Go.Proofs.YtaodmbolhoafcaaGreatDoor
