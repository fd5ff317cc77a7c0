/-
  Texts of one proof, joined: part 5. No condition.
-/
import Derived.Test.YtaodmbolhoafcaaGreatDoorZr4
import Derived.MapKept
import Derived.WideMake
import Derived.Test.YtaodmbolhoafcaaGreatDoorProg
import Derived.Shelf.SortM.Plain
import Derived.Shelf.SortM.SortNone
import Derived.Shelf.SlicesG.CompactS
import Derived.Ground.SlgmProg
import Derived.Ground.SlgnProg
import Derived.Sort.OwnSorted
import Derived.Lib.OwnBridge
import Derived.Sort.Walk0
import Derived.Shelf.SlIter.Nil
import Derived.Ground.GgzProg
import Derived.RangeFuncFrom
import Derived.RangeFuncLeaves
import Derived.RangeFuncCalls
import Derived.OrdersIn
open Go.RowKit Go.Proofs.Tryz
namespace Go.Proofs.YtaodmbolhoafcaaGreatDoor
set_option linter.unusedVariables false
set_option linter.unusedSimpArgs false
set_option maxRecDepth 20000
variable{B:Nat}{w0:World}{F:aR}{A:bj}{c g:Nat}{s:Cs}{A1 A2:bj}{n c1 c2:Nat}{B1 B2:bj}{b1 b2:Nat}
theorem oX{P:Prop}(h:P:=by(decide+kernel)):P:=h
theorem QG{P:Prop}(h:P:=by(rintro _ _ ⟨rfl,rfl⟩;exact gF)):P:=h
theorem N4:type_of% @List.replicate_zero:= @List.replicate_zero
theorem aoa(y:Nat)(hy:y<4294967296):IntKind.u64.wrap ((BitVec.ofInt IntKind.u64.bits (y:Int) &&& BitVec.ofInt IntKind.u64.bits 4294967295).toNat:Int)=(y:Int):=by
 have h:=u64_and y 4294967295 aa aa;rw[show(4294967295:Nat)=2^32-1 from rfl,Nat.and_two_pow_sub_one_eq_mod,jc (show y<2^32 from hy)]at h;exact h
theorem akJ(y:Nat)(hy:y<4294967296):(y:Int).fdiv (2^min (32:Int).toNat IntKind.u64.bits)=0:=by
 have e:min (32:Int).toNat IntKind.u64.bits=32:=by decide
 rw[e,wg _ aA];omega
theorem aii(y:Nat)(hy:y<4294967296):a_ B w0 338 [.int .u64 1,.int .u64 y] F (fun r L=>r= .tuple #[.int .u64 0,.int .u64 y]∧L=F):=by
 refine fw func338 51 [0,1] ?_;refine bP ?_;refine ae (jZ rfl rfl (r:=1) oX) rfl ?_;refine bB ?_;refine ae (di rfl rfl aa (r:=0) oX) rfl ?_;refine bB ?_;refine ae (jZ rfl rfl (aoa y hy)) rfl ?_;refine bB ?_;refine ae (di rfl rfl aa (akJ y hy)) rfl ?_;refine bD ?_;refine ae (e_ rfl rfl (r:=(y:Int)) ((ga aa aa).trans aa)) rfl ?_;refine bD ?_;refine ae (e_ rfl rfl (r:=0) ((ga aa aa).trans aa)) rfl ?_;refine aE ?_;refine ae (di rfl rfl aa (akJ y hy)) rfl ?_;refine ae (bY rfl rfl (r:=0) oX) rfl ?_;refine aE ?_;refine ve [0,1,6,7,9,11] ?_;refine b8 ?_;refine ae (jZ rfl rfl (r:=0) oX) rfl ?_;refine bB ?_;refine ae (di rfl rfl aa (r:=0) oX) rfl ?_;refine bM ?_;refine ae (e_ rfl rfl (r:=0) oX) rfl ?_;refine ae (bY rfl rfl (r:=0) oX) rfl ?_;refine bD ?_;refine ae (e_ rfl rfl (r:=0) oX) rfl ?_;refine aE ?_;refine ae (bY rfl rfl (r:=0) oX) rfl ?_;refine aE ?_;refine ae (di rfl rfl aa (r:=0) oX) rfl ?_;refine ae (bY rfl rfl (r:=0) oX) rfl ?_;refine aE ?_;refine ve [0,1,4] ?_;refine bI ?_;refine ae (e_ rfl rfl (r:=(y:Int)) ((ga aa aa).trans aa)) rfl ?_;refine bI ?_;exact⟨rfl,rfl⟩
theorem aqJ(y:Nat)(hy:y<4294967296):a_ B w0 321 [.int .u64 1,.int .u64 y] F (fun r L=>r= .tuple #[.int .u64 0,.int .u64 y]∧L=F):=by
 refine fw func321 30 [0,1] ?_;refine dX ?_;refine ai rfl (aii y hy) ?_;refine zK ?_;exact⟨rfl,rfl⟩
theorem ZL(b:UInt8)(k:Nat):(bv [b]).take (min 1 k)++(List.replicate k (Value.int .u8 0)).drop (min 1 k)=bv (List.replicate (min 1 k) b)++List.replicate (k-min 1 k) (.int .u8 0):=by
 rw[List.drop_replicate];congr 1;rcases wV k with h|h
 ·subst h;rfl
 ·rw[zd h];rfl
theorem aev(b:UInt8){j k q:Nat}(hj:q≤j)(hk:j+q≤k):(bv (List.replicate j b)++List.replicate (k-j) (Value.int .u8 0)).take j++(bv (List.replicate j b)).take q++(bv (List.replicate j b)++List.replicate (k-j) (Value.int .u8 0)).drop (j+q)=bv (List.replicate (j+q) b)++List.replicate (k-(j+q)) (.int .u8 0):=by
 rw[List.take_append_of_le_length ak,fD ak,kI,List.take_replicate,zd hj,←gv,List.replicate_append_replicate];congr 1;rw[List.drop_append,mj ak,nU,List.drop_replicate];congr 1;simp;omega
theorem aew{A:bj}{c:Nat}(b:UInt8)(k:Nat)(hb:aL B w0 F 1 (.slice A 1 c) 1 (bv [b]))(hk:k≤1000000000):
  a_ B w0 297 [.slice A 1 c,ah k] F (fun r L=>∃A' c',r= .slice A' k c'∧L= .own 5 1 A' k c' (bv (List.replicate k b))::F):=by
 refine fw func297 48 [0,1] ?_;refine cD ?_;refine dj fun jB=>?_;refine bB ?_;refine ae (bw underlying3 underlying192 rfl (r:=1) oX) rfl ?_;refine aE ?_;refine ae (bw underlying3 underlying192 rfl (ga aa aa)) rfl ?_;refine ai rfl (aqJ k aa) ?_;refine c_ ?_;refine aI rfl rfl rfl (fun oO=>?_) (fun oO=>?_)
 ·refine b8 ?_;refine ve [0,6,26] ?_;refine aE ?_;refine dj fun qG=>?_;refine bI ?_;refine ae (bw underlying192 underlying3 rfl (bG aa aa)) rfl ?_;refine cH (fc cN rfl rfl rfl rfl rfl aa aa aa) fun Qp=>?_;refine bD ?_;refine lK (Ia cN aV rfl rfl aB (rW _)) rfl ?_;rintro _ _ ⟨rfl,rfl⟩;refine bI ?_;refine aD (fun zf zL zm=>∃(j:Nat),(j≤k∧(0<j∨k=0))∧k-j=zm∧Sub zf [(7,.slice Qp k k),(8,ah j)]∧Wk zL (.own 5 1 Qp k k (bv (List.replicate j b)++List.replicate (k-j) (.int .u8 0))::F)) _ ⟨min 1 k,⟨aa,aa⟩,rfl,bm,ax rfl (ZL b k) (.refl _)⟩ ?_;rintro _ _ _ ⟨j,⟨hj,hj0⟩,rfl,hs,hp⟩;refine aU hs hp ?_;clear hs hp;refine bP ?_;refine aj (fun D5=>?_) fun D5=>?_
  ·have Cz:∀(L:aR),Ch.own 5 1 Qp k k (bv (List.replicate j b)++List.replicate (k-j) (.int .u8 0))∈L→aL B w0 L 1 (.slice Qp j k) j (bv (List.replicate j b)):=fun L hm=>by
    have:=(aL.own (B:=B) (w0:=w0) hm).js (k:=j) aa;rw[cE,List.take_append_of_le_length ak,fD ak]at this;exact this
   refine bH ?_;refine cC F ?_;refine ab 0 ?_;refine ab 1 ?_;refine ab 2 ?_;refine aW 3 rfl (bT (i:=j) (size:=1) underlying27 ag rfl rfl rfl aa) ?_;refine ab 4 ?_;refine ab 5 ?_;refine aW 6 rfl (bZ (i:=j) (size:=1) underlying27 ag rfl rfl rfl aa) ?_;refine az 7 ?_;refine S9 rfl .no (M7 (i:=j) cN aV rfl aa rfl (Cz _ (List.Mem.head _)) (rW _)) rfl QG ?_;rintro _ _ ⟨rfl,rfl⟩;refine ab 8 ?_;refine ab 9 ?_;refine be ?_;refine av ⟨_,aa,j+min j (k-j),⟨aa,aa⟩,rfl,bm,ax rfl (aev b aa aa) (.refl _)⟩
  ·refine cD ?_;have hjk:j=k:=by omega
   subst hjk;refine ao (ax rfl (by rw[nA,N4,gk]) (.refl _)) ?_;refine aE ?_;exact⟨Qp,j,rfl,rfl⟩
 ·exfalso;exact absurd oO aA
theorem wz{P:Prop}(h:P:=by(exact eT (by first|omega|simp_all))):P:=h
def p_(l:bc):cV:=l.map fun(n:Nat)=>Value.int .u64 (n:Int)
@[simp] theorem akW(l k:bc):p_ (l++k)=p_ l++p_ k:=by simp[p_]
@[simp] theorem akX(l:bc):(p_ l).length=l.length:=by simp[p_]
def zi(a b:Nat):Nat:=(a+b)%18446744073709551616
theorem Xm(a b:Nat):IntKind.u64.wrap ((a:Int)+(b:Int))=((zi a b:Nat):Int):=by
 show((a:Int)+b)%18446744073709551616=_;unfold zi;omega
theorem agq(a b:Nat):zi a b<18446744073709551616:=sS _ aa
def BW:Nat→Nat→Cs→bc×Cs
 |0,_,s=>([],s)
 |k+1,was,s=>if s.e=0 then (zi was (TZ s.num)::(BW k (zi was (TZ s.num)) s.lX).1,(BW k (zi was (TZ s.num)) s.lX).2) else ([],s)
theorem ajm{k was:Nat}{s:Cs}(h:¬s.e=0):BW k was s=([],s):=by cases k<;>simp[BW,h]
def lvX(s:Cs):UInt8:=s.byte
def Qm(n:Nat)(s:Cs)(o:al):Nat:=s.eJ.int ((n:Int)-o.length)
def LN(n:Nat)(s:Cs)(o:al):Cs:=s.eJ.bX ((n:Int)-o.length)
def EC(n:Nat)(s:Cs)(o:al):Prop:=(LN n s o).e=0∧(Qm n s o=0∨0<o.length∧o.getD (o.length-1) 0=lvX s)
instance (n:Nat)(s:Cs)(o:List UInt8):Decidable (EC n s o):=inferInstanceAs (Decidable (_∧_))
def LO(n:Nat)(s:Cs)(o:al):Cs:=if EC n s o then (LN n s o).failed 2 else LN n s o
def G6:Nat→Nat→Cs→al→al×Cs
 |0,_,s,o=>(o,s)
 |f+1,n,s,o=>if o.length<n∧s.e=0 then G6 f n (LO n s o) (o++List.replicate (Qm n s o) (lvX s)) else (o,s)
theorem yA{f n:Nat}{s:Cs}{o:al}(h:¬(o.length<n∧s.e=0)):G6 f n s o=(o,s):=by cases f<;>simp[G6,h]
theorem Sl{f n:Nat}{s:Cs}{o:al}(h:o.length<n∧s.e=0):G6 (f+1) n s o=G6 f n (LO n s o) (o++List.replicate (Qm n s o) (lvX s)):=by rw[G6,aq h]
theorem zV(s:Cs)(m:Int):(s.bX m).b=s.b:=Cs.cK _ _ _
theorem DQ(s:Cs)(e:Int):(s.failed e).b=s.b:=by unfold Cs.failed;split<;>rfl
theorem aqG(n:Nat)(s:Cs)(o:al):(LN n s o).b=s.b:=by simp[LN,zV,JK]
theorem aks(n:Nat)(s:Cs)(o:al):(LO n s o).b=s.b:=by unfold LO;split<;>simp[DQ,aqG]
theorem cu.LN{n:Nat}{s:Cs}{o:al}(h:cu s)(hn:n≤1000000000):cu (LN n s o):=h.eJ.bX aa
theorem cu.LO{n:Nat}{s:Cs}{o:al}(h:cu s)(hn:n≤1000000000):cu (LO n s o):=by
 unfold Proofs.YtaodmbolhoafcaaGreatDoor.LO;split
 ·exact(h.LN hn).failed _
 ·exact h.LN hn
theorem Kr(s:Cs)(m:Int)(hm:0≤m)(vC:m≤9223372036854775807):(s.int m:Int)≤m:=by
 unfold Cs.int;split
 ·exact hm
 ·by_cases he:(eu s.rest m).2.2=0
  ·exact(jD s.rest m vC).2.2.2 he
  ·rw[(pC he).1];exact hm
theorem adE{n:Nat}{s:Cs}{o:al}(h:o.length≤n)(hn:n≤1000000000):o.length+Qm n s o≤n:=by
 have:=Kr s.eJ ((n:Int)-o.length) aa aa;unfold Qm;omega
theorem Sm{n:Nat}{s:Cs}{o:al}(h:(LO n s o).e=0):¬EC n s o∧(LN n s o).e=0∧LO n s o=LN n s o:=by
 unfold LO at h⊢;by_cases hb:EC n s o
 ·rw[aq hb]at h;unfold Cs.failed at h;rw[aq hb.1]at h;simp at h
 ·rw[aw hb]at h⊢;exact⟨hb,h,rfl⟩
theorem ajk(n:Nat)(ho:cu s)(hb:aL B w0 F 1 (.slice A s.b.length c) s.b.length (bv s.b))(hn:n≤1000000000):
  a_ B w0 265 [.agg #[bq g],ah n] (Cv g A c s::F) (fun r L=>∃A' c',r= .slice A' (BW n 0 s).1.length c'∧L=Cv g A c (BW n 0 s).2:: .own 60 1 A' (BW n 0 s).1.length c' (p_ (BW n 0 s).1)::F):=by
 have qf:∀(s':Cs),s'.b=s.b→aL B w0 F 1 (.slice A s'.b.length c) s'.b.length (bv s'.b):=fun s' h=>by rw[h];exact hb
 refine fw func265 28 [0,1] ?_;refine be ?_;refine bf fun g2=>?_;refine b8 ?_;refine aY 60 1 none ?_;refine dm ?_;refine aD (fun zf zL zm=>∃(q was:Nat) (s':Cs) (o:bc) (A5:bj) (c5:Nat),(cu s'∧s'.b=s.b∧o.length+q=n∧BW n 0 s=(o++(BW q was s').1,(BW q was s').2))∧q=zm∧Sub zf [(1,ah n),(2,bq g2),(5,.slice A5 o.length c5),(6,.int .u64 was)]∧Wk zL (Cv g A c s':: .own 60 1 A5 o.length c5 (p_ o):: .bE g2 366 [bq g]::F)) _ ⟨n,0,s,[],none,0,⟨ho,rfl,ak,rfl⟩,rfl,bm,.dE Cj⟩ ?_;rintro _ _ _ ⟨q,was,s',o,A5,c5,⟨ho',Qk,hq,hG⟩,rfl,hs,hp⟩;refine aU hs hp ?_;clear hs hp;refine bH ?_;refine bR 10 16 [1,2,5,6] ((o.length:Int)<n∧s'.e=0) ?_ ?_
 ·refine bI ?_;refine ct (fun pq=>?_) fun pq=>?_
  ·refine b8 ?_;refine ai rfl (gO) ?_;refine bH ?_;exact aM oY
  ·refine b8 ?_;exact aM wz
 ·refine be ?_;refine aj (fun kH=>?_) fun kH=>?_
  ·have Vn:s'.num<18446744073709551616:=by
    unfold Cs.num;split
    ·omega
    ·exact(fh _).1
   obtain⟨q',rfl⟩:∃q',q=q'+1:=⟨q-1,aa⟩
   refine bM ?_;refine ai rfl (abB ho' (.cons (.cons (qf s' Qk)))) ?_;refine ai rfl (arq _ Vn) ?_;refine ae (bY rfl rfl (Xm _ _)) rfl ?_;refine bB ?_;refine dK anz rfl rfl rfl rfl rfl (fun _=>rfl) aV aa aa ?_;intro _ s_ Bp;refine bH ?_;have el:o.length+1=(o++[zi was (TZ s'.num)]).length:=by simp
   rw[el];refine av ⟨_,aa,q',zi was (TZ s'.num),s'.lX,o++[zi was (TZ s'.num)],s_,Bp,⟨ho'.lX,(KL _).trans Qk,bO,by rw[hG,BW,aq kH.2];simp⟩,rfl,bm,.cons (ax rfl (by simp[p_]) (.refl _))⟩
  ·refine cD ?_;have hz:BW n 0 s=(o,s'):=by
    rw[hG];by_cases h0:s'.e=0
    ·have:q=0:=by omega
     subst this;simp[BW]
    ·rw[ajm h0];simp
   rw[hz];refine ao (L':=Cv g A c s':: .own 60 1 A5 o.length c5 (p_ o)::F) (.cons (.cons (.skip (.refl _)))) ?_;refine aE ?_;exact⟨A5,c5,rfl,rfl⟩
theorem adu(n:Nat)(ho:cu s)(hb:aL B w0 F 1 (.slice A s.b.length c) s.b.length (bv s.b))(hn:n≤1000000000):
  a_ B w0 266 [.agg #[bq g],ah n] (Cv g A c s::F) (fun r L=>∃A' c',r= .slice A' (G6 (n+1) n s []).1.length c'∧L=Cv g A c (G6 (n+1) n s []).2:: .own 5 1 A' (G6 (n+1) n s []).1.length c' (bv (G6 (n+1) n s []).1)::F):=by
 have qf:∀(s':Cs),s'.b=s.b→aL B w0 F 1 (.slice A s'.b.length c) s'.b.length (bv s'.b):=fun s' h=>by rw[h];exact hb
 refine fw func266 61 [0,1] ?_;refine be ?_;refine bf fun g2=>?_;refine b8 ?_;refine aY 5 1 none ?_;refine bB ?_;refine aD (fun zf zL zm=>∃(f:Nat) (s':Cs) (o:al) (A5:bj) (c5:Nat),(cu s'∧s'.b=s.b∧o.length≤n∧(s'.e=0→n-o.length<f)∧G6 f n s' o=G6 (n+1) n s [])∧f=zm∧Sub zf [(1,ah n),(2,bq g2),(5,.slice A5 o.length c5)]∧Wk zL (Cv g A c s':: .own 5 1 A5 o.length c5 (bv o):: .bE g2 366 [bq g]::F)) _ ⟨n+1,s,[],none,0,⟨ho,rfl,bS _,fun _=>by simp,rfl⟩,rfl,bm,.dE Cj⟩ ?_;rintro _ _ _ ⟨f,s',o,A5,c5,⟨ho',Qk,Kl,hf,hG⟩,rfl,hs,hp⟩;refine aU hs hp ?_;clear hs hp;refine bH ?_;refine bR 10 17 [1,2,5] ((o.length:Int)<n∧s'.e=0) ?_ ?_
 ·refine bI ?_;refine ct (fun mF=>?_) fun mF=>?_
  ·refine b8 ?_;refine ai rfl (gO) ?_;refine bH ?_;exact aM oY
  ·refine b8 ?_;exact aM wz
 ·refine be ?_;refine aj (fun iy=>?_) fun iy=>?_
  ·obtain⟨f',rfl⟩:∃f',f=f'+1:=⟨f-1,by have:=hf iy.2;omega⟩
   have zQ:=adE (s:=s') Kl hn;have hf':=hf iy.2;have hLb:aL B w0 (.own 5 1 A5 o.length c5 (bv o):: .bE g2 366 [bq g]::F) 1 (.slice A s'.b.length c) s'.b.length (bv s'.b):=.cons (.cons (qf s' Qk));have ap7:a_ B w0 173 [bq g] _ (fun r L=>r= .int .u8 ((lvX s').toNat:Int)∧L=_):=ov (g:=g) ho' hLb;have hint:a_ B w0 172 [bq g,ah ((n:Int)-o.length)] _ (fun r L=>r=ah (Qm n s' o)∧L=Cv g A c (LN n s' o)::_):=iI (g:=g) ho'.eJ (by rw[JK];exact hLb) aa aa;refine bD ?_;refine ai rfl (ap7) ?_;refine dm ?_;refine ai rfl (hint) ?_;refine bH ?_;refine d_ (fun zf zL=>Sub zf [(1,ah n),(2,bq g2),(5,.slice A5 o.length c5),(6,.int .u8 (lvX s').toNat),(7,ah (Qm n s' o))]∧Wk zL (Cv g A c (LO n s' o):: .own 5 1 A5 o.length c5 (bv o):: .bE g2 366 [bq g]::F)) ?_ ?_
   ·refine be ?_;refine bR 23 50 [1,2,5,6,7] ((LN n s' o).e=0∧((Qm n s' o:Int)=0∨(0:Int)<o.length∧((o.getD (o.length-1) 0).toNat:Int)=((lvX s').toNat:Int))) ?_ ?_
    ·refine be ?_;refine ai rfl (gO) ?_;refine be ?_;refine ct (fun Bu=>?_) fun Bu=>?_
     ·refine bI ?_;refine aI rfl rfl rfl (fun tR=>?_) (fun tR=>?_)
      ·refine bD ?_;refine ct (fun Ve=>?_) fun Ve=>?_
       ·refine bB ?_;refine ae (dQ rfl rfl (r:=((o.length-1:Nat):Int)) ((bG aa aa).trans aa)) rfl ?_;refine c_ ?_;exact aM oY
       ·refine cD ?_;exact aM wz
      ·refine i_ ?_;exact aM vy
     ·refine zK ?_;exact aM wz
    ·refine be ?_;refine aj (fun Iq=>?_) fun Iq=>?_
     ·refine bH ?_;refine ai rfl (nf 2) ?_;refine aE ?_;have RA:EC n s' o:=⟨Iq.1,by rcases Iq.2 with h|h;exact .inl aa;exact .inr ⟨aa,qh.1 aa⟩⟩
      have hT:LO n s' o=(LN n s' o).failed 2:=aq RA;rw[hT];exact bC ⟨bm,.refl _⟩
     ·refine aE ?_;have RA:¬EC n s' o:=fun h=>Iq ⟨h.1,by rcases h.2 with h|h;exact .inl aa;exact .inr ⟨aa,by rw[h.2]⟩⟩;have hT:LO n s' o=LN n s' o:=aw RA;rw[hT];exact bC ⟨bm,.refl _⟩
   ·rintro _ _ ⟨hs,hp⟩;refine aU hs hp ?_;clear hs hp;refine bH ?_;refine cH (aF cN [_] rfl rfl cA aa aa) fun A56=>?_;refine aE ?_;refine ay rfl (aew (lvX s') (Qm n s' o) aB aa) fun A58 c58=>?_;refine gw (bW cN rfl aV rfl aB cA aa aa) fun A59 c59=>?_;refine bH ?_;have el:o.length+Qm n s' o=(o++List.replicate (Qm n s' o) (lvX s')).length:=by simp
    have wO:=Sl (f:=f') (n:=n) (s:=s') (o:=o) ⟨aa,iy.2⟩;rw[hG]at wO;rw[el];refine av ⟨_,aa,f',LO n s' o,o++List.replicate (Qm n s' o) (lvX s'),A59,c59,⟨ho'.LO hn,(aks _ _ _).trans Qk,by rw[←el];exact zQ,fun h=>by rw[←el];have h1:=(Sm h).1;have h2:=(Sm h).2.1;have h3:Qm n s' o≠0:=fun hz=>h1 ⟨h2,.inl hz⟩;omega,wO.symm⟩,rfl,bm,.skip (.skip (.cons (ax rfl ak (.refl _))))⟩
  ·refine cD ?_;have hz:G6 (n+1) n s []=(o,s'):=by rw[←hG,yA aa]
   rw[hz];refine ao (L':=Cv g A c s':: .own 5 1 A5 o.length c5 (bv o)::F) (.cons (.cons (.skip (.refl _)))) ?_;refine aE ?_;exact⟨A5,c5,rfl,rfl⟩
theorem afC:∀(k was:Nat) {s:Cs},cu s→cu (BW k was s).2∧(BW k was s).2.b=s.b
 |0,_,s,h=>⟨h,rfl⟩
 |k+1,was,s,h=>by
  rw[BW];split
  ·have:=afC k (zi was (TZ s.num)) h.lX;exact⟨this.1,this.2.trans (KL s)⟩
  ·exact⟨h,rfl⟩
theorem adD{n:Nat}(hn:n≤1000000000):∀(f:Nat) {s:Cs} {o:al},cu s→cu (G6 f n s o).2∧(G6 f n s o).2.b=s.b
 |0,s,o,h=>⟨h,rfl⟩
 |f+1,s,o,h=>by
  rw[G6];split
  ·have:=adD hn f (o:=o++List.replicate (Qm n s o) (lvX s)) (h.LO (n:=n) (o:=o) hn);exact⟨this.1,this.2.trans (aks n s o)⟩
  ·exact⟨h,rfl⟩
def LP(n:Nat)(l:al):bc×Cs:=BW n 0 ⟨l,0,0⟩
def G9(n:Nat)(l:al):al×Cs:=G6 (n+1) n (LP n l).2 []
def nW(n:Int)(l:al):bc×al×Nat×Int:=
 if n<0∨20000<n then ([],[],0,13) else if (G9 n.toNat l).2.e≠0 then ([],[],0,(G9 n.toNat l).2.e) else ((LP n.toNat l).1,(G9 n.toNat l).1,(G9 n.toNat l).2.at_,0)
theorem We{n:Int}{l:al}(h:n<0∨20000<n):nW n l=([],[],0,13):=aq h
theorem Wf{n:Nat}{l:al}(h:¬((n:Int)<0∨(20000:Int)<n))(he:¬(G9 n l).2.e=0):nW n l=([],[],0,(G9 n l).2.e):=by
 unfold nW;rw[aw h,nC,aq he]
theorem SR{n:Nat}{l:al}(h:¬((n:Int)<0∨(20000:Int)<n))(he:(G9 n l).2.e=0):nW n l=((LP n l).1,(G9 n l).1,(G9 n l).2.at_,0):=by
 unfold nW;rw[aw h,nC,aw Ma]
theorem aiL:a_ B w0 177 [bq g] (Cv g A c s::F) (fun r L=>r=ah s.at_∧L=Cv g A c s::F):=by
 refine fw func177 10 [0] ?_;refine acv ?_;exact⟨rfl,rfl⟩
theorem SV(n:Int){l:al}(hb:fq B w0 F A c l)(hl:l.length≤1000000000)(hn1:-9223372036854775808≤n)(tW:n≤9223372036854775807):
  a_ B w0 225 [ah n,.slice A l.length c] F (fun r L=>∃A1 c1 A2 c2,r= .tuple #[.slice A1 (nW n l).1.length c1,.slice A2 (nW n l).2.1.length c2,ah (nW n l).2.2.1,ah (nW n l).2.2.2]∧L= .own 60 1 A1 (nW n l).1.length c1 (p_ (nW n l).1):: .own 5 1 A2 (nW n l).2.1.length c2 (bv (nW n l).2.1)::F):=by
 have ho0:cu ⟨l,0,0⟩:=⟨bS _,cZ⟩
 refine fw func225 38 [0,1] ?_;refine dm ?_;refine bR 6 17 [0,1] (n<0∨20000<n) ?_ ?_
 ·refine bH ?_;refine aI rfl rfl rfl (fun jC=>?_) (fun jC=>?_)
  ·refine b8 ?_;exact aM b_8
  ·refine be ?_;exact aM b_8
 ·refine be ?_;refine aj (fun iy=>?_) fun iy=>?_
  ·refine bz ?_;rw[We iy];refine aC 5 1 none ?_;refine aC 60 1 none ?_;refine aE ?_;exact⟨none,0,none,0,rfl,rfl⟩
  ·obtain⟨m,rfl⟩:=gM (show 0≤n by omega);have hT:=afC m 0 ho0;have hV:=adD (n:=m) aa (m+1) (o:=[]) hT.1;change cu (LP m l).2∧(LP m l).2.b=l at hT;change cu (G9 m l).2∧(G9 m l).2.b=(LP m l).2.b at hV;refine bI ?_;refine eK rfl (mT hb aa) fun g19 Lr c19=>?_;refine ae (eG [(0,_)] [_] rfl rfl ag) rfl ?_;refine bg fun g8=>?_;refine bD ?_;refine ay rfl ((ajk m ho0 (.cons (aL.own (List.Mem.head _))) aa).perm swp) fun A23 c23=>?_;change VL _ _ _ _ ((23,.slice A23 (LP m l).1.length c23)::_) (Cv g19 Lr c19 (LP m l).2:: .own 60 1 A23 (LP m l).1.length c23 (p_ (LP m l).1)::_);refine bD ?_;refine ay rfl (adu m hT.1 (by rw[hT.2];exact .cons (.cons (aL.own (List.Mem.head _)))) aa) fun s_ Bp=>?_;change VL _ _ _ _ ((26,.slice s_ (G9 m l).1.length Bp)::_) (Cv g19 Lr c19 (G9 m l).2:: .own 5 1 s_ (G9 m l).1.length Bp (bv (G9 m l).1)::_);refine bM ?_;refine ai rfl (gO) ?_;refine bP ?_;refine aj (fun D4=>?_) fun D4=>?_
   ·refine bD ?_;refine ve [4,5,6,7] ?_;refine bH ?_;rw[Wf iy D4];refine aC 5 1 none ?_;refine aC 60 1 none ?_;refine ao (L':=.own 60 1 none 0 0 []:: .own 5 1 none 0 0 []::F) (.cons (.cons (.skip (.skip (.skip (.skip (.skip (.refl _)))))))) ?_;refine aE ?_;exact⟨none,0,none,0,rfl,rfl⟩
   ·refine bM ?_;refine ai rfl (aiL) ?_;refine b8 ?_;refine ve [4,5,6,7] ?_;refine be ?_;rw[SR iy (j0.1 D4)];refine ao (L':=.own 60 1 A23 (LP m l).1.length c23 (p_ (LP m l).1):: .own 5 1 s_ (G9 m l).1.length Bp (bv (G9 m l).1)::F) (.skip (.swap (.cons (.cons (.skip (.skip (.refl _))))))) ?_;refine aE ?_;exact⟨A23,c23,s_,Bp,rfl,rfl⟩
theorem aaS{a b:Nat}(ha:a<18446744073709551616)(hb:b<18446744073709551616):zi b (dlt a b)=a:=by
 unfold zi dlt;omega
theorem WW:∀(L:List aH) (was:Nat) (s:Cs) (r:al),was<18446744073709551616→s.e=0→(∀x∈L,x.1<18446744073709551616)→s.rest=qB was L++r→(BW L.length was s).1=L.map (·.1)∧nQ s (BW L.length was s).2 (qB was L)
 |[],was,s,r,_,h0,_,_=>⟨rfl,nQ.nil h0⟩
 |x::L,was,s,r,hw,h0,hx,hr=>by
  have LK:=hx x ak;rw[qB,bV]at hr;obtain⟨n1,d1⟩:=Cs.V6 h0 (T3 (DC x.1 was)) hr;have hz:zi was (TZ s.num)=x.1:=by rw[n1,ajL (DC _ _),aaS LK hw]
  obtain⟨i1,i2⟩:=WW L x.1 s.lX r LK d1.e1 (fun y hy=>hx y vR) (d1.cF hr);rw[eh,BW,aq h0,hz];exact⟨by simp[i1],d1.trans i2⟩
theorem Pc(x:UInt8):∀(l:al),l.take (run x l)=List.replicate (run x l) x
 |[]=>rfl
 |y::l=>by
  unfold run;split
  ·rename_i h;rw[ri,Pc x l,zX,h]
  ·rfl
theorem Ww(x:UInt8):∀(l:al) (y:UInt8),(l.drop (run x l)).head?=some y→y≠x
 |[],y,h=>by simp[run]at h
 |z::l,y,h=>by
  unfold run at h;split at h
  ·rw[El]at h;exact Ww x l y h
  ·rename_i hz;simp at h;exact fun e=>hz (h.trans e)
theorem ado(o:al)(x:UInt8)(q:Nat):(o++List.replicate (1+q) x).getD ((o++List.replicate (1+q) x).length-1) 0=x:=by
 have:(o++List.replicate (1+q) x).length-1=o.length+q:=by simp;omega
 rw[this];simp[List.getD]
theorem VW(n:Nat)(hn:n≤1000000000):∀(f:Nat) (l o:al) (s:Cs) (r:al),s.e=0→n=o.length+l.length→(∀x,l.head?=some x→0<o.length→o.getD (o.length-1) 0≠x)→s.rest=ow none l++r→l.length<f→(G6 f n s o).1=o++l∧nQ s (G6 f n s o).2 (ow none l)
 |0,l,o,s,r,_,_,_,_,hf=>absurd hf aa
 |f+1,[],o,s,r,h0,Ix,_,hr,hf=>by
  simp at Ix;rw[yA (fun h=>aa)];exact⟨ak,nQ.nil h0⟩
 |f+1,x::l,o,s,r,h0,Ix,r',hr,hf=>by
  have hq:=S2 x l;simp only[eh]at Ix hf;have hc:ow none (x::l)=[x]++(aS (1+run x l)++ow none (l.drop (run x l))):=by
   rw[ow,aw ak,Dl];rfl
  rw[hc]at hr⊢;have u5:s.rest=x::(aS (1+run x l)++(ow none (l.drop (run x l))++r)):=by rw[hr];simp
  obtain⟨b1,db⟩:=Cs.l7 h0 u5;have vZ:=db.cF (p:=[x]) u5;obtain⟨k1,dk⟩:=Cs.iE (m:=(n:Int)-o.length) (x:=1+run x l) db.e1 aa aa vZ;have hr3:=dk.cF vZ;have hK:Qm n s o=1+run x l:=k1;have hX:lvX s=x:=b1;have hS:(LN n s o).e=0:=dk.e1;have RA:¬EC n s o:=by
   rintro⟨_,h|⟨h1,h2⟩⟩
   ·omega
   ·exact r' x rfl h1 (h2.trans hX)
  have hT:LO n s o=LN n s o:=aw RA;rw[Sl ⟨aa,h0⟩,hT,hK,hX];obtain⟨i1,i2⟩:=VW n hn f (l.drop (run x l)) (o++List.replicate (1+run x l) x) (LN n s o) r hS bO (fun y hy _=>by rw[ado];exact fun e=>Ww x l y hy e.symm) hr3 kR;refine⟨?_,(db.trans (dk.trans i2))⟩;rw[i1,bV];congr 1;rw[sQ 1,zX,←Pc x l,nE,jO]
theorem XP{L:List aH}(hx:∀x∈L,x.1<18446744073709551616)(hl:L.length≤20000)(r:al):nW L.length (ko L++r)=(L.map (·.1),lv L,(ko L).length,0):=by
 obtain⟨t1,t2⟩:=WW L 0 ⟨ko L++r,0,0⟩ (ow none (lv L)++r) aa rfl hx (by simp[Cs.rest,ko]);have vZ:=t2.cF (r:=ow none (lv L)++r) (by simp[Cs.rest,ko]);change (LP L.length (ko L++r)).1=_ at t1;change nQ _ (LP L.length (ko L++r)).2 _ at t2;change (LP L.length (ko L++r)).2.rest=_ at vZ;obtain⟨v1,v2⟩:=VW L.length aa (L.length+1) (lv L) [] (LP L.length (ko L++r)).2 r t2.e1 (by simp[ru]) (fun _ _ h=>absurd h ak) vZ (by rw[ru];omega);change (G9 L.length (ko L++r)).1=_ at v1;change nQ _ (G9 L.length (ko L++r)).2 _ at v2;rw[SR aa v2.e1,t1,v1];have he:=(t2.trans v2).eq;rw[he];simp[ko]
section
theorem aa5{P:Prop}(h:P:=by(simp[MapKept.IsKey])):P:=h
theorem VE:type_of% @List.getElem?_cons_succ:= @List.getElem?_cons_succ
theorem BK:type_of% @MapKept.run_getObj_map:= @MapKept.run_getObj_map
def fZ:Nat→List (al×Value)→List MapEntry
 |_,[]=>[]
 |i,p::r=>⟨.string ⟨p.1.toArray⟩,p.2,i⟩::fZ (i+1) r
def VX(D:List (al×Value)):Obj:=.map (fZ 0 D).toArray D.length
def nw(t:al):List (al×Value)→Nat→Option (Nat×Value)
 |[],_=>none
 |p::r,i=>if t=p.1 then some (i,p.2) else nw t r (i+1)
def E1(D:List (al×Value))(t:al)(v:Value):List (al×Value):=
 match nw t D 0 with
 |some (i,_)=>D.set i (t,v)
 |none=>D++[(t,v)]
theorem oy:∀(D:List (al×Value)) (i:Nat),(fZ i D).length=D.length
 |[],_=>rfl
 |_::r,i=>by simp[fZ,oy r]
theorem Ie:∀(D:List (al×Value)) (i k:Nat) (h:k<D.length),(fZ i D)[k]? =some ⟨.string ⟨(D[k]'h).1.toArray⟩,(D[k]'h).2,i+k⟩
 |_::r,i,0,h=>rfl
 |_::r,i,k+1,h=>by
  have:=Ie r (i+1) k nu;simp only[fZ,VE,List.getElem_cons_succ];rw[this];congr 2;omega
theorem DP:∀(D:List (al×Value)) (i:Nat) (p:al×Value),fZ i (D++[p])=fZ i D++[⟨.string ⟨p.1.toArray⟩,p.2,i+D.length⟩]
 |[],i,p=>rfl
 |q::r,i,p=>by
  simp only[nE,fZ,DP r (i+1) p,eh];rw[show i+1+r.length=i+(r.length+1) by omega]
theorem ai5(t k:al):((⟨t.toArray⟩:ByteArray)==(⟨k.toArray⟩:ByteArray))=decide (t=k):=by
 rw[Bool.eq_iff_iff,MapKept.bytes_beq,decide_eq_true_iff];exact⟨fun e=>by simpa using dC (fun b:ByteArray=>b.data.toList) e,fun e=>xA⟩
theorem r9(t:al):∀(D:List (al×Value)) (j i:Nat),Instr.findNow .string (.string ⟨t.toArray⟩) (fZ j D) i=some (nw t D i)
 |[],_,_=>rfl
 |p::r,j,i=>by
  simp only[fZ,Instr.findNow,Instr.sameNow,ai5,nw];by_cases h:t=p.1
  ·rw[lD h,aq h]
  ·rw[nD h,aw h];exact r9 t r (j+1) (i+1)
theorem Ij{t:al}:∀{D:List (al×Value)} {i j:Nat} {v:Value},nw t D i=some (j,v)→∃k,j=i+k∧∃h:k<D.length,D[k]=(t,v)
 |p::r,i,j,v,h=>by
  unfold nw at h;split at h
  ·rename_i e;simp only[Et,Cd]at h;exact⟨0,aa,ak,by simp[←h.2,e]⟩
  ·obtain⟨k,h1,h2,h3⟩:=Ij h;exact⟨k+1,aa,oW,by simpa using h3⟩
section
variable{C:Cx}{fr:Fr}{L:aR}{x y z:Operand}{f:Ch→aR}{t k e ty:TypeId}{g:Nat}{D:List (al×Value)}{s:al}{v zv:Value}
theorem M8:qz C fr L (.makeMap t none) ty (fun p L'=>∃g,p= .map (some g)∧L'= .obj g (VX [])::L):=fun a w ha hw d pos af gg=>
 ⟨.map (some w.heap.size),w.alloc (.map #[] 0),.obj w.heap.size (VX [])::L,.inl (by simp[execOp,run_makeMap_plain]),⟨w.heap.size,rfl,rfl⟩,
  hw.gL (Kv w _ none) ⟨hw.base,(MapKept.heap_alloc w (.map #[] 0)).1⟩ (.inr ⟨_,rfl,gj _⟩)⟩
theorem Dw(ht:C.P.underlying t=some (.map k e))(hk:C.P.underlying k=some .string)(hz:∀w,(zeroValue e).run C.P w= .ok zv w)(hm:ev fr x=some (.map (some g)))(hx:ev fr y=some (.string ⟨s.toArray⟩))(hs:mx (.obj g (VX D)) L f):
  gI C fr L (.lookup t x y false) ty (((nw s D 0).map (·.2)).getD zv):=fun a w ha hw d pos af gg=>by
 have hb:w.heap[g]? =some (.map (fZ 0 D).toArray D.length):=(hw.all _ hs.mem).2;have hc:∀em,(Instr.checkKey em 10000 k (.string ⟨s.toArray⟩)).run C.P w= .ok () w:=fun em=>MapKept.run_checkKey (k:=.string ⟨s.toArray⟩) hk aa5 em 9999;have hf:=MapKept.run_findKey (P:=C.P) (w:=w) hk (r9 s D 0 0);cases hfd:nw s D 0 with
 |none=>
  rw[hfd]at hf;simp[execOp,ha.tmp hm,ha.tmp hx,Instr.lookup,iQ ht,BK hb,hc,hf,hz,Result.andThen]
 |some q=>
  rw[hfd]at hf;obtain⟨j,u⟩:=q;simp[execOp,ha.tmp hm,ha.tmp hx,Instr.lookup,iQ ht,BK hb,hc,hf,Result.andThen]
theorem If:∀(D:List (al×Value)) (i j:Nat) (p:al×Value),j<D.length→fZ i (D.set j p)=(fZ i D).modify j fun e=>{e with key:=.string ⟨p.1.toArray⟩,val:=p.2}
 |q::r,i,0,p,_=>by simp[fZ]
 |q::r,i,j+1,p,h=>by
  simp only[N2,fZ,List.modify_succ_cons];rw[If r (i+1) j p nu]
theorem GI(ht:C.P.underlying t=some (.map k e))(hk:C.P.underlying k=some .string)(hm:ev fr x=some (.map (some g)))(hx:ev fr y=some (.string ⟨s.toArray⟩))(hv:ev fr z=some v)(hs:mx (.obj g (VX D)) L f):
  qz C fr L (.mapUpdate t x y z) ty (fun p L'=>L'=f (.obj g (VX (E1 D s v)))):=fun a w ha hw d pos af gg=>by
 have hb:w.heap[g]? =some (.map (fZ 0 D).toArray D.length):=(hw.all _ hs.mem).2;have hc:∀em,(Instr.checkKey em 10000 k (.string ⟨s.toArray⟩)).run C.P w= .ok () w:=fun em=>MapKept.run_checkKey (k:=.string ⟨s.toArray⟩) hk aa5 em 9999;have hf:=MapKept.run_findKey (P:=C.P) (w:=w) hk (r9 s D 0 0);have fP:=(k_3.1 hb).1;have nP:∀o,SL C.B C.w0 (f (.obj g o)) {w with heap:=w.heap.setIfInBounds g o}:=fun o=>
  hw.Qn hs ⟨rfl,rfl,rfl,ak,fun j _ hj=>by
   have:g≠j:=fun e=>hj C4;simp[this]⟩ (fun h=>⟨h.1,by simp[fP]⟩) (.inr (.inl rfl))
 cases hfd:nw s D 0 with
 |none=>
  rw[hfd]at hf;have e1:VX (E1 D s v)= .map ((fZ 0 D).toArray.push ⟨.string ⟨s.toArray⟩,v,D.length⟩) (D.length+1):=by
   unfold E1 VX;rw[hfd];simp[DP]
  refine⟨undef,_,_,.inr ⟨?_,rfl⟩,rfl,by rw[e1];exact nP _⟩;simp[execOp,ha.tmp hm,ha.tmp hx,ha.tmp hv,Instr.mapUpdate,iQ ht,BK hb,hc,hf,MapKept.run_setObj_map _ hb,Result.andThen]
 |some q=>
  rw[hfd]at hf;obtain⟨j,u⟩:=q;obtain⟨j',hj,hjl,hje⟩:=Ij hfd;obtain rfl:j=j':=by omega
  have hg:=Ie D 0 j hjl;have e1:VX (E1 D s v)= .map ((fZ 0 D).toArray.modify j fun e=>{e with key:=.string ⟨s.toArray⟩,val:=v}) D.length:=by
   unfold E1 VX;rw[hfd];simp[If D 0 j (s,v) hjl]
  have hky:(Instr.keyThatStays (.string ⟨s.toArray⟩) (.string ⟨s.toArray⟩)).run C.P w= .ok (.string ⟨s.toArray⟩) w:=MapKept.run_keyThatStays (d:=.string) aa5;have Kk:(((fZ 0 D).toArray[j]?).map (·.key)).getD (.string ⟨s.toArray⟩)= .string ⟨s.toArray⟩:=by
   rw[List.getElem?_toArray,hg,hje];rfl
  refine⟨undef,_,_,.inr ⟨?_,rfl⟩,rfl,by rw[e1];exact nP _⟩;simp only[execOp,ha.tmp hm,ha.tmp hx,ha.tmp hv,Instr.mapUpdate];simp[iQ ht,BK hb,hc,hf,Result.andThen];simp at Kk;simp[Kk,hky,MapKept.run_setObj_map _ hb]
end
end
abbrev B5:=al×bj×Nat×bc
def Ro(e:B5):Value:=.slice e.2.1 e.2.2.2.length e.2.2.1
def lh(D:List B5):List (al×Value):=D.map fun e=>(e.1,Ro e)
def tN(e:B5):Ch:=.own 3 1 e.2.1 e.2.2.2.length e.2.2.1 (bx e.2.2.2)
def vV(t:al):List B5→bc
 |[]=>[]
 |e::r=>if t=e.1 then e.2.2.2 else vV t r
def Hg(t:al)(A:bj)(c i:Nat):List B5→List B5
 |[]=>[(t,A,c,[i])]
 |e::r=>if t=e.1 then (t,A,c,e.2.2.2++[i])::r else e::Hg t A c i r
theorem uV(t:al):∀(D:List (al×Value)) (i:Nat),nw t D (i+1)=(nw t D i).map fun q=>(q.1+1,q.2)
 |[],_=>rfl
 |p::r,i=>by
  unfold nw;split
  ·rfl
  ·exact uV t r (i+1)
theorem ZI(t:al)(v:Value)(p:al×Value)(r:List (al×Value)):E1 (p::r) t v=if t=p.1 then (t,v)::r else p::E1 r t v:=by
 unfold E1;have e:nw t (p::r) 0=if t=p.1 then some (0,p.2) else nw t r (0+1):=rfl
 by_cases h:t=p.1
 ·rw[e,aq h,aq h];rfl
 ·rw[e,aw h,aw h,uV];cases nw t r 0 with
  |none=>rfl
  |some q=>rfl
theorem Wd(t:al)(A:bj)(c i:Nat):∀(D:List B5),E1 (lh D) t (.slice A ((vV t D).length+1) c)=lh (Hg t A c i D)
 |[]=>by simp[E1,lh,nw,vV,Hg,Ro]
 |e::r=>by
  have ih:=Wd t A c i r;show E1 ((e.1,Ro e)::lh r) t _=_;rw[ZI];unfold vV Hg;by_cases h:t=e.1
  ·rw[aq h,aq h,aq h];simp[lh,Ro]
  ·rw[aw h,aw h,aw h,ih];rfl
theorem Vd(t:al):∀(D:List B5),∃(A:bj) (c:Nat) (R:aR),
  (((nw t (lh D) 0).map (·.2)).getD (.slice none 0 0)= .slice A (vV t D).length c)∧
  ((D.map tN).Perm (.own 3 1 A (vV t D).length c (bx (vV t D))::R)∨(A=none∧c=0∧vV t D=[]∧R=D.map tN))∧
  (∀A' c' i,((Hg t A' c' i D).map tN).Perm (.own 3 1 A' ((vV t D).length+1) c' (bx (vV t D++[i]))::R))
 |[]=>⟨none,0,[],rfl,.inr ⟨rfl,rfl,rfl,rfl⟩,fun A' c' i=>.refl _⟩
 |e::r=>by
  by_cases h:t=e.1
  ·refine⟨e.2.1,e.2.2.1,r.map tN,?_,.inl ?_,fun A' c' i=>?_⟩
   ·show((nw t ((e.1,Ro e)::lh r) 0).map (·.2)).getD _=_;unfold nw vV;rw[aq h,aq h];rfl
   ·unfold vV;rw[aq h];exact .refl _
   ·unfold vV Hg;rw[aq h,aq h];simp only[kz,tN,aX,qg];exact .refl _
  ·obtain⟨A,c,R,h1,h2,h3⟩:=Vd t r;refine⟨A,c,tN e::R,?_,?_,fun A' c' i=>?_⟩
   ·show((nw t ((e.1,Ro e)::lh r) 0).map (·.2)).getD _=_;unfold nw vV;rw[aw h,aw h,uV,←h1];cases nw t (lh r) 0<;>rfl
   ·unfold vV;rw[aw h];rcases h2 with h2|⟨h2,h4,h5,h6⟩
    ·exact .inl ((h2.cons _).trans (.swap _ _ _))
    ·exact .inr ⟨h2,h4,h5,by rw[h6];rfl⟩
   ·unfold vV Hg;rw[aw h,aw h];exact((h3 A' c' i).cons _).trans (.swap _ _ _)
theorem Rp(t s:al)(A:bj)(c i:Nat):∀(D:List B5),vV s (Hg t A c i D)=if s=t then vV s D++[i] else vV s D
 |[]=>by
  unfold Hg vV;split<;>simp[vV]
 |e::r=>by
  unfold Hg;by_cases h:t=e.1
  ·rw[aq h];unfold vV;by_cases h2:s=t
   ·subst h2;simp[h]
   ·rw[aw h2,aw h2,aw (fun q=>h2 (q.trans h.symm))]
  ·rw[aw h];unfold vV;by_cases h2:s=e.1
   ·rw[aq h2,aq h2,aw (fun q=>h (q.symm.trans h2))]
   ·rw[aw h2,aw h2];exact Rp t s A c i r
theorem Kz(t s:al)(A:bj)(c i:Nat):∀(D:List B5),s∈(Hg t A c i D).map (·.1)↔s=t∨s∈D.map (·.1)
 |[]=>by simp[Hg]
 |e::r=>by
  unfold Hg;by_cases h:t=e.1
  ·rw[aq h];simp[h]
  ·rw[aw h,kz,fm,Kz t s A c i r,kz,fm];exact⟨fun h=>h.elim (fun h=>.inr (.inl h)) (fun h=>h.elim .inl fun h=>.inr (.inr h)),fun h=>h.elim (fun h=>.inr (.inl h)) (fun h=>h.elim .inl fun h=>.inr (.inr h))⟩
theorem OD(t:al)(A:bj)(c i:Nat):∀(D:List B5),(D.map (·.1)).Nodup→((Hg t A c i D).map (·.1)).Nodup
 |[],_=>by simp[Hg]
 |e::r,h=>by
  rw[kz,Eo]at h;unfold Hg;by_cases ht:t=e.1
  ·rw[aq ht,kz,Eo];exact⟨by rw[ht];exact h.1,h.2⟩
  ·rw[aw ht,kz,Eo,Kz];exact⟨fun q=>q.elim (fun q=>ht q.symm) h.1,OD t A c i r h.2⟩
theorem afX(t:al)(A:bj)(c i:Nat):∀(D:List B5),(Hg t A c i D).length≤D.length+1
 |[]=>by simp[Hg]
 |e::r=>by
  unfold Hg;split
  ·simp
  ·have:=afX t A c i r;simp;omega
theorem Xi{P:Program}{e:TypeId}{zv:Value}(h:(P.info? e).bind (·.zero)=some zv)(w:World):(zeroValue e).run P w= .ok zv w:=by
 cases hi:P.info? e with
 |none=>rw[hi]at h;simp at h
 |some i=>rw[hi]at h;simp at h;simp[zeroValue,typeInfo,hi,h]
theorem ark{C:Cx}{c:Code}{Q:Exit→Fr→aR→Prop}{fr:Fr}{L M:aR}(h:∀w,SL C.B C.w0 L w→SL C.B C.w0 M w)(k:VC C c Q fr M):VC C c Q fr L:=fun a w ha hw=>k a w ha (h w hw)
section
abbrev cj:=al
def leT(s r:cj):Prop:=Op.bytesLess s r=true∨s=r
instance (s r:cj):Decidable (leT s r):=inferInstanceAs (Decidable (_∨_))
theorem ah2(s r:cj):(Op.bytesLess s r||decide (s=r))=decide (leT s r):=by
 by_cases hp:leT s r
 ·rw[lD hp];rcases hp with h|h<;>simp[h]
 ·rw[nD hp];unfold leT at hp;have h1:¬Op.bytesLess s r=true:=fun h=>hp (.inl h);have h2:¬s=r:=fun h=>hp (.inr h);simp[h1,h2]
section
variable{C:Cx}{fr:Fr}{L:aR}{x y:Operand}{s r:al}{xt yt ty:TypeId}
theorem Q2(h1:ev fr x=some (.string ⟨s.toArray⟩))(h2:ev fr y=some (.string ⟨r.toArray⟩)):gI C fr L (.binOp .gtr xt x y yt) ty (.bool (decide (¬leT s r))):=by
 have h:=XV (C:=C) (L:=L) (xt:=xt) (yt:=yt) (ty:=ty) h1 h2;rw[ah2,←decide_not]at h;exact h
end
def ur(was s:cj):Prop:=s≠[]∧s.length≤25∧¬leT s was
instance (was s:cj):Decidable (ur was s):=inferInstanceAs (Decidable (_∧_∧_))
def fy(l:List cj)(i:Nat):cj:=if i=0 then [] else l.getD (i-1) []
def kX(l:List cj):Prop:=(∀i,i<l.length→ur (fy l i) (l.getD i []))∧l.length≤1048576
instance (l:List cj):Decidable (kX l):=inferInstanceAs (Decidable ((∀i,i<l.length→_)∧_))
theorem I3(l:List cj)(i:Nat):fy l (i+1)=l.getD i []:=by simp[fy]
theorem OE{s:cj}(h:s≠[]):¬leT s []:=by
 rintro(h1|h1)
 ·cases s<;>simp[Op.bytesLess]at h1
 ·exact h h1
def qm:cj→cj→Nat
 |x::a,y::b=>if x=y then qm a b+1 else 0
 |_,_=>0
theorem Aj:∀a b:cj,qm a b≤a.length∧qm a b≤b.length
 |[],_=>by simp[qm]
 |_::_,[]=>by simp[qm]
 |x::a,y::b=>by
  unfold qm;have:=Aj a b;split<;>simp only[eh]<;>omega
theorem mm:∀(a b:cj) (n:Nat),n≤qm a b→(n<qm a b↔(n<a.length∧n<b.length)∧a.getD n 0=b.getD n 0)
 |[],_,n,h=>by simp[qm]
 |_::_,[],n,h=>by simp[qm]
 |x::a,y::b,n,h=>by
  unfold qm at h⊢;split at h
  ·rename_i he;rw[aq he];cases n with
   |zero=>simp[he]
   |succ n=>
    have:=mm a b n aa;simp only[eh,BF];exact⟨fun h=>by obtain⟨⟨h1,h2⟩,h3⟩:=this.1 aa;exact⟨⟨aa,aa⟩,h3⟩,fun h=>by have:=this.2 ⟨⟨aa,aa⟩,h.2⟩;omega⟩
  ·rename_i he;rw[aw he];have:n=0:=by omega
   subst this;simp[he]
def iG:cj→List cj→al
 |_,[]=>[]
 |was,s::r=>aS (qm was s)++ft (s.drop (qm was s))++iG s r
def dB:List cj→al
 |[]=>[]
 |t::r=>ft t++iG t r
end
def tj(a b:cj):Prop:=Op.bytesLess a b=true
instance (a b:cj):Decidable (tj a b):=inferInstanceAs (Decidable (_=_))
theorem qq(a:cj):¬tj a []:=by cases a<;>simp[tj,Op.bytesLess]
theorem sf(b:UInt8)(y:cj):tj [] (b::y):=rfl
theorem uk{a b:UInt8}{x y:cj}:tj (a::x) (b::y)↔a<b∨a=b∧tj x y:=by simp[tj,Op.bytesLess]
theorem PR{a b:UInt8}:a<b↔a.toNat<b.toNat:=UInt8.lt_iff_toNat_lt
theorem afS{a b:UInt8}:a=b↔a.toNat=b.toNat:=qh.symm
theorem fV:∀a:cj,¬tj a a
 |[]=>qq _
 |a::x=>by
  rw[uk,PR];have:=fV x;rintro(h|⟨_,h⟩)
  ·omega
  ·exact this h
theorem kM:∀{a b c:cj},tj a b→tj b c→tj a c
 |_,_,[],_,h=>absurd h (qq _)
 |_,[],_::_,h,_=>absurd h (qq _)
 |[],_::_,c::z,_,_=>sf c z
 |a::x,b::y,c::z,h1,h2=>by
  rw[uk,PR]at*;rw[afS]at*;rcases h1 with h1|⟨h1,Rq⟩<;>rcases h2 with h2|⟨h2,h2'⟩
  ·left;omega
  ·left;omega
  ·left;omega
  ·exact .inr ⟨aa,kM Rq h2'⟩
theorem oQ:∀a b:cj,tj a b∨a=b∨tj b a
 |[],[]=>.inr (.inl rfl)
 |[],b::y=>.inl (sf b y)
 |a::x,[]=>.inr (.inr (sf a x))
 |a::x,b::y=>by
  rw[uk,uk,PR,PR,List.cons.injEq,afS,afS];rcases Nat.lt_trichotomy a.toNat b.toNat with h|h|h
  ·exact .inl (.inl h)
  ·rcases oQ x y with h1|h1|h1
   ·exact .inl (.inr ⟨h,h1⟩)
   ·exact .inr (.inl ⟨h,h1⟩)
   ·exact .inr (.inr (.inr ⟨h.symm,h1⟩))
  ·exact .inr (.inr (.inl h))
theorem amD{s r:cj}:leT s r↔tj s r∨s=r:=Iff.rfl
theorem CF{s r:cj}:¬leT s r↔tj r s:=by
 rw[amD];constructor
 ·intro h;rcases oQ s r with h1|h1|h1
  ·exact absurd (.inl h1) h
  ·exact absurd (.inr h1) h
  ·exact h1
 ·rintro h (h1|h1)
  ·exact fV _ (kM h h1)
  ·subst h1;exact fV _ h
theorem V4{s r:cj}:¬tj s r↔leT r s:=by rw[←CF,j0]
theorem ah3{a b c:cj}(h:leT a b)(k:tj b c):tj a c:=h.elim (fun h=>kM h k) (fun h=>h▸k)
theorem aib{a b c:cj}(h:tj a b)(k:leT b c):tj a c:=k.elim (fun k=>kM h k) (fun k=>k▸h)
theorem kX.lt{l:List cj}(h:kX l):∀(j i:Nat),i<j→j<l.length→tj (l.getD i []) (l.getD j [])
 |0,i,Iv,_=>absurd Iv aa
 |j+1,i,Iv,hj=>by
  have h1:=(h.1 (j+1) hj).2.2;rw[I3,CF]at h1;by_cases e:i=j
  ·rw[e];exact h1
  ·exact kM (kX.lt h j i aa aa) h1
theorem kX.inj{l:List cj}(h:kX l){i j:Nat}(hi:i<l.length)(hj:j<l.length)(he:l.getD i []=l.getD j []):i=j:=by
 rcases Nat.lt_trichotomy i j with h1|h1|h1
 ·exact absurd (he▸h.lt j i h1 hj) (fV _)
 ·exact h1
 ·exact absurd (he▸h.lt i j h1 hi) (fV _)
def plK(l:List cj)(s:cj)(k:Nat):Prop:=k≤l.length∧(∀i,i<k→tj (l.getD i []) s)∧(∀i,k≤i→i<l.length→¬tj (l.getD i []) s)
def bgT(x s:cj):Prop:=s.length≤x.length∧x.take s.length=s
instance (x s:cj):Decidable (bgT x s):=inferInstanceAs (Decidable (_∧_))
end Go.Proofs.YtaodmbolhoafcaaGreatDoor
namespace Go.Proofs
open Go.RowKit Go.Maps Go.Sort Go.Shelf
theorem N5:type_of% @List.length_mergeSort:= @List.length_mergeSort
def Tryz.sortS_ren:Go.Shelf.Ren:=⟨fun|6=>159|8=>211|9=>215|19=>252|20=>253|21=>254|22=>255|23=>256|24=>257|25=>258|26=>259|27=>260|28=>261|29=>262|36=>289|31=>290|32=>291|37=>292|38=>293|39=>294|41=>319|n=>n,fun|27=>87|29=>9|3=>3|32=>192|26=>87|0=>0|44=>135|46=>60|4=>4|36=>358|35=>357|41=>348|5=>5|9=>9|53=>398|57=>401|63=>432|64=>285|n=>n,fun|n=>n⟩
theorem Tryz.sortS:Go.Proofs.SlLaysM.n6 Tryz.prog Tryz.sortS_ren:={
 mixed:=by kernel_rfl
 f6:=⟨Tryz.f159.name,by decide,Tryz.func159.trans (congrArg some (by kernel_rfl))⟩
 f8:=Tryz.func211.trans (congrArg some (by kernel_rfl))
 f9:=⟨Tryz.f215.name,by decide,Tryz.func215.trans (congrArg some (by kernel_rfl))⟩
 f19:=Tryz.func252.trans (congrArg some (by kernel_rfl))
 f20:=Tryz.func253.trans (congrArg some (by kernel_rfl))
 f21:=⟨Tryz.f254.name,by decide,Tryz.func254.trans (congrArg some (by kernel_rfl))⟩
 f22:=⟨Tryz.f255.name,by decide,Tryz.func255.trans (congrArg some (by kernel_rfl))⟩
 f23:=⟨Tryz.f256.name,by decide,Tryz.func256.trans (congrArg some (by kernel_rfl))⟩
 f24:=⟨Tryz.f257.name,by decide,Tryz.func257.trans (congrArg some (by kernel_rfl))⟩
 f25:=⟨Tryz.f258.name,by decide,Tryz.func258.trans (congrArg some (by kernel_rfl))⟩
 f26:=⟨Tryz.f259.name,by decide,Tryz.func259.trans (congrArg some (by kernel_rfl))⟩
 f27:=⟨Tryz.f260.name,by decide,Tryz.func260.trans (congrArg some (by kernel_rfl))⟩
 f28:=⟨Tryz.f261.name,by decide,Tryz.func261.trans (congrArg some (by kernel_rfl))⟩
 f29:=⟨Tryz.f262.name,by decide,Tryz.func262.trans (congrArg some (by kernel_rfl))⟩
 f31:=Tryz.func290.trans (congrArg some (by kernel_rfl))
 f32:=Tryz.func291.trans (congrArg some (by kernel_rfl))
 f36:=⟨Tryz.f289.name,by decide,Tryz.func289.trans (congrArg some (by kernel_rfl))⟩
 f37:=⟨Tryz.f292.name,by decide,Tryz.func292.trans (congrArg some (by kernel_rfl))⟩
 f38:=⟨Tryz.f293.name,by decide,Tryz.func293.trans (congrArg some (by kernel_rfl))⟩
 f39:=⟨Tryz.f294.name,by decide,Tryz.func294.trans (congrArg some (by kernel_rfl))⟩
 f41:=⟨Tryz.f319.name,by decide,Tryz.func319.trans (congrArg some (by kernel_rfl))⟩
 t0:=Tryz.underlying0
 a0:=Tryz.isAgg0
 z0:=Tryz.sizeOf0
 v0:=Tryz.zeroValue0
 t3:=Tryz.underlying3
 a3:=Tryz.isAgg3
 z3:=Tryz.sizeOf3
 v3:=Tryz.zeroValue3
 t4:=Tryz.underlying4
 a4:=Tryz.isAgg4
 z4:=Tryz.sizeOf4
 v4:=Tryz.zeroValue4
 t5:=Tryz.underlying5
 a5:=Tryz.isAgg5
 z5:=Tryz.sizeOf5
 v5:=Tryz.zeroValue5
 t9:=Tryz.underlying9
 a9:=Tryz.isAgg9
 z9:=Tryz.sizeOf9
 v9:=Tryz.zeroValue9
 t26:=Tryz.underlying87
 a26:=Tryz.isAgg87
 z26:=Tryz.sizeOf87
 v26:=Tryz.zeroValue87
 t27:=Tryz.underlying87
 a27:=Tryz.isAgg87
 z27:=Tryz.sizeOf87
 v27:=Tryz.zeroValue87
 t29:=Tryz.underlying9
 a29:=Tryz.isAgg9
 z29:=Tryz.sizeOf9
 v29:=Tryz.zeroValue9
 t32:=Tryz.underlying192
 a32:=Tryz.isAgg192
 z32:=Tryz.sizeOf192
 v32:=Tryz.zeroValue192
 t35:=Tryz.underlying357
 a35:=Tryz.isAgg357
 z35:=Tryz.sizeOf357
 v35:=Tryz.zeroValue357
 t36:=Tryz.underlying358
 a36:=Tryz.isAgg358
 z36:=Tryz.sizeOf358
 v36:=Tryz.zeroValue358
 t41:=Tryz.underlying348
 a41:=Tryz.isAgg348
 z41:=Tryz.sizeOf348
 v41:=Tryz.zeroValue348
 t44:=Tryz.underlying135
 a44:=Tryz.isAgg135
 z44:=Tryz.sizeOf135
 v44:=Tryz.zeroValue135
 t46:=Tryz.underlying60
 a46:=Tryz.isAgg60
 z46:=Tryz.sizeOf60
 v46:=Tryz.zeroValue60
 t53:=Tryz.underlying398
 a53:=Tryz.isAgg398
 z53:=Tryz.sizeOf398
 v53:=Tryz.zeroValue398
 t57:=Tryz.underlying401
 a57:=Tryz.isAgg401
 z57:=Tryz.sizeOf401
 v57:=Tryz.zeroValue401
 t63:=Tryz.underlying432
 a63:=Tryz.isAgg432
 z63:=Tryz.sizeOf432
 v63:=Tryz.zeroValue432
 t64:=Tryz.underlying285
 a64:=Tryz.isAgg285
 z64:=Tryz.sizeOf285
 v64:=Tryz.zeroValue285}
def Tryz.compS_ren:Go.Shelf.Ren:=⟨fun|44=>160|n=>n,fun|25=>87|26=>9|3=>3|4=>4|0=>0|n=>n,fun|n=>n⟩
theorem Tryz.compS:Go.Proofs.SlLaysN.n44 Tryz.prog Tryz.compS_ren:={
 mixed:=by kernel_rfl
 f44:=⟨Tryz.f160.name,by decide,Tryz.func160.trans (congrArg some (by kernel_rfl))⟩
 t0:=Tryz.underlying0
 a0:=Tryz.isAgg0
 z0:=Tryz.sizeOf0
 v0:=Tryz.zeroValue0
 t3:=Tryz.underlying3
 a3:=Tryz.isAgg3
 z3:=Tryz.sizeOf3
 v3:=Tryz.zeroValue3
 t4:=Tryz.underlying4
 a4:=Tryz.isAgg4
 z4:=Tryz.sizeOf4
 v4:=Tryz.zeroValue4
 t25:=Tryz.underlying87
 a25:=Tryz.isAgg87
 z25:=Tryz.sizeOf87
 v25:=Tryz.zeroValue87
 t26:=Tryz.underlying9
 a26:=Tryz.isAgg9
 z26:=Tryz.sizeOf9
 v26:=Tryz.zeroValue9
 i26:=by kernel_rfl}
namespace YtaodmbolhoafcaaGreatDoor
set_option linter.unusedVariables false
variable{B:Nat}{w0:World}{F:aR}{A:bj}{c:Nat}
def VI(x y:al):Bool:=decide (x≤y)
theorem anD{l:eH}(hl:l.length<4611686018427387904):
  a_ B w0 159 [.slice A l.length c] (.own 9 1 A l.length c (strs l)::F) (fun r L=>r= .tuple #[]∧L= .own 9 1 A l.length c (strs (l.mergeSort VI))::F):=by
 intro w hw;obtain⟨k1,k2,k3⟩:=hw.head;by_cases h0:l.length=0
 ·have hl0:l=[]:=mi h0;subst hl0;refine(AnyM.slices_Sort_string_none Tryz.sortS A c w).mono fun e w' ⟨he,GX⟩=>?_;subst GX;exact⟨_,_,he,⟨rfl,ak⟩,hw⟩
 ·have qO:¬c=0:=by omega
  obtain⟨g,cur,rfl,Yw,hg,hm,hs,ht⟩:=k3.resolve_left qO;rw[cE]at ht;refine(AnyM.slices_Sort_string Tryz.sortS g 0 c l w (holds_of_block hg ht) ((k_3.1 hg).1) hl).mono fun e w' ⟨he,n,os,GX⟩=>?_;have hlen:(l.mergeSort fun x y=>decide (x≤y)).length=l.length:=N5 _;have Qf:(Ch.own 9 1 (some ⟨g,0,none⟩) l.length c (strs l)).fp=some g:=by simp[Ch.fp,qO]
  have NC:=grownBy_sorted (w:=w) (g:=g) (n:=n) (os:=os) (l.mergeSort fun x y=>decide (x≤y)).toArray;rw[←GX]at NC;refine⟨_,_,he,⟨rfl,rfl⟩,hw.Lc (by rw[Qf];exact NC) ⟨?_,k2,.inr ⟨g,_,rfl,Yw,by rw[GX];exact heap_sorted _ hg,hm,by simpa[putCells]using hs,?_⟩⟩ (.inr (.inl (by simp[Ch.fp])))⟩
  ·simp
  ·rw[cE,←hlen];exact take_putCells cur _ (by rw[hlen];omega)
theorem Dp(zs:eH):(Lib.compact zs).length≤zs.length:=by
 unfold Lib.compact Lib.compactUpTo;rw[eM];exact jf (BH _ _) ak
theorem XR{l:eH}(hl:l.length<4611686018427387904):
  a_ B w0 160 [.slice A l.length c] (.own 9 1 A l.length c (strs l)::F) (fun r L=>r= .slice A (Lib.compact l).length c∧L= .own 9 1 A (Lib.compact l).length c (strs (Lib.compact l))::F):=by
 intro w hw;obtain⟨k1,k2,k3⟩:=hw.head;have hle:=Dp l;by_cases h0:l.length=0
 ·have hl0:l=[]:=mi h0;subst hl0;refine(AnyG.slices_Compact_string_empty Tryz.compS A c w).mono fun e w' ⟨he,GX⟩=>?_;subst GX;exact⟨_,_,he,⟨rfl,by simp[Lib.compact,Lib.compactUpTo,strs]⟩,hw⟩
 ·have qO:¬c=0:=by omega
  obtain⟨g,cur,rfl,Yw,hg,hm,hs,ht⟩:=k3.resolve_left qO;rw[cE]at ht;refine(AnyG.slices_Compact_string Tryz.compS g 0 c l w (holds_of_block hg ht) aa k2).mono fun e w' ⟨he,q,GX⟩=>?_;obtain⟨ys,hys⟩:=cR (Lib.compact l++List.replicate (l.length-(Lib.compact l).length) []);have hyl:ys.length=l.length:=by rw[hys];simp;omega
  rw[←hys]at GX;have Qf:(Ch.own 9 1 (some ⟨g,0,none⟩) l.length c (strs l)).fp=some g:=by simp[Ch.fp,qO]
  have NC:=grownBy_sorted (w:=w) (g:=g) (n:=q) (os:= #[]) ys.toArray;have hh:=heap_sorted (n:=q) (os:= #[]) ys.toArray hg;rw[grow_empty,←GX]at NC hh;refine⟨_,_,he,⟨rfl,rfl⟩,hw.Lc (by rw[Qf];exact NC) ⟨ak,aa,.inr ⟨g,_,rfl,Yw,hh,hm,by simpa[putCells]using hs,?_⟩⟩ (.inr (.inl (by simp[Ch.fp])))⟩;have ht2:=take_putCells cur ys (by rw[hyl];omega);have:=dC (List.take (Lib.compact l).length) ht2;rw[IE,hyl,zd hle]at this;rw[cE,this,←pw,hys,yo];rfl
end YtaodmbolhoafcaaGreatDoor
end Go.Proofs
namespace Go.Proofs.YtaodmbolhoafcaaGreatDoor
set_option linter.unusedVariables false
set_option linter.unusedSimpArgs false
set_option maxRecDepth 20000
variable{B:Nat}{w0:World}{F:aR}{A:bj}{c g:Nat}{s:Cs}{A1 A2:bj}{n c1 c2:Nat}{B1 B2:bj}{b1 b2:Nat}
def small(c:UInt8):UInt8:=if 65≤c.toNat∧c.toNat≤90 then c+32 else if 97≤c.toNat∧c.toNat≤122∨48≤c.toNat∧c.toNat≤57 then c else 0
def emit(row:al):eH:=if row=[] then [] else [row.take 24]
def mv(st:eH×al)(c:UInt8):eH×al:=
 if small c≠0 then (st.1,st.2++[small c]) else (st.1++emit st.2,[])
theorem Jp{ws:eH}{row:al}{c:UInt8}(h:small c≠0):mv (ws,row) c=(ws,row++[small c]):=aq h
theorem P3{ws:eH}{row:al}{c:UInt8}(h:small c=0):mv (ws,row) c=(ws++emit row,[]):=aw nu
def wst(l:al):eH×al:=l.foldl mv ([],[])
def nc(l:al):eH:=(wst l).1++emit (wst l).2
theorem agf(l:al)(c:UInt8):wst (l++[c])=mv (wst l) c:=by simp[wst]
theorem DM(row:al):(emit row).length≤row.length:=by
 unfold emit;split
 ·simp
 ·rename_i h;have:0<row.length:=by rcases row with _|⟨x,r⟩;exact absurd rfl h;simp
  simp;omega
theorem Ln(l:al):(wst l).1.length+(wst l).2.length≤l.length:=by
 have:∀l:al,∀st:eH×al,(l.foldl mv st).1.length+(l.foldl mv st).2.length≤st.1.length+st.2.length+l.length:=by
  intro l;induction l with
  |nil=>intro st;simp
  |cons c r ih=>
   intro st;have h:=ih (mv st c);have hs:(mv st c).1.length+(mv st c).2.length≤st.1.length+st.2.length+1:=by
    unfold mv;split
    ·simp;omega
    ·have:=DM st.2;simp;omega
   simp only[List.foldl_cons,eh];omega
 simpa[wst]using this l ([],[])
theorem xh(l:al):(nc l).length≤l.length:=by
 have h1:=Ln l;have h2:=DM (wst l).2;unfold nc;simp;omega
def uN(l:al):al:=((l.takeWhile fun c=>small c≠0).map small).take 24
def tr:Bool→al→eH
 |_,[]=>[]
 |prev,c::r=>if small c=0∨prev=true then tr (decide (small c≠0)) r else uN (c::r)::tr true r
theorem tu{α:Type}(p:α→Bool)(a:List α)(c:α)(r:List α)(ha:∀x∈a,p x=true)(hc:p c=false):(a++c::r).takeWhile p=a:=by
 induction a with
 |nil=>simp[hc]
 |cons x a ih=>
  simp only[nE,List.takeWhile_cons,ha x ak,if_true];rw[ih fun y hy=>ha y vR]
theorem He{α:Type}(p:α→Bool)(a:List α)(ha:∀x∈a,p x=true):a.takeWhile p=a:=by
 induction a with
 |nil=>rfl
 |cons x a ih=>
  simp only[List.takeWhile_cons,ha x ak,if_true];rw[ih fun y hy=>ha y vR]
theorem Fa(c:UInt8)(r:al)(hc:small c=0)(b:Bool):tr b (c::r)=tr false r:=by
 simp[tr,hc]
theorem ab9:∀(l:al) (ws:eH) (a:al),(∀x∈a,small x≠0)→
  (l.foldl mv (ws,a.map small)).1++emit (l.foldl mv (ws,a.map small)).2=
   ws++(if a=[] then tr false l else uN (a++l)::tr true l):=by
 intro l;induction l with
 |nil=>
  intro ws a ha;rcases a with _|⟨x,a⟩
  ·simp[emit,tr]
  ·simp only[List.foldl_nil,emit,kz,tr,gk];rw[aw ak,aw ak];unfold uN;rw[He _ _ fun y hy=>by simpa using ha y hy];rfl
 |cons c r ih=>
  intro ws a ha;rw[List.foldl_cons];by_cases hc:small c=0
  ·have e:mv (ws,a.map small) c=(ws++emit (a.map small),[]):=by unfold mv;rw[aw Ui]
   rw[e];have:=ih (ws++emit (a.map small)) [] ak;simp only[G1,if_true]at this;rw[this,bV];congr 1;rcases a with _|⟨x,a⟩
   ·simp[emit,tr,hc]
   ·rw[aw ak];unfold emit;rw[aw ak,Fa c r hc];unfold uN;rw[tu _ _ c r (fun y hy=>by simpa using ha y hy) Ui];rfl
  ·have e:mv (ws,a.map small) c=(ws,(a++[c]).map small):=by unfold mv;rw[aq Ui];simp
   rw[e];have:=ih ws (a++[c]) (by intro y hy;rcases dy.1 hy with h|h;exact ha y h;simp at h;subst h;exact hc);rw[this,aw ak];congr 1;rcases a with _|⟨x,a⟩
   ·simp[tr,hc]
   ·rw[aw ak,bV];simp[tr,hc]
theorem aaF(l:al):nc l=tr false l:=by
 have:=ab9 l [] [] ak;simpa[nc,wst]using this
theorem sW:type_of% @List.pairwise_append:= @List.pairwise_append
theorem aia(a b:cj):tj a b↔a<b:=by
 unfold tj;rw[bytesLess_eq];simp
def L4(l:List cj):Prop:=l.Pairwise tj
theorem L4.nil:L4 []:=List.Pairwise.nil
theorem L4.ext:∀{a b:List cj},L4 a→L4 b→(∀x,x∈a↔x∈b)→a=b
 |[],[],_,_,_=>rfl
 |[],y::b,_,_,h=>absurd ((h y).2 ak) ak
 |x::a,[],_,_,h=>absurd ((h x).1 ak) ak
 |x::a,y::b,ha,hb,h=>by
  obtain⟨ha1,ha2⟩:=kB.1 ha;obtain⟨qf,oP⟩:=kB.1 hb;have Vr:x=y:=by
   rcases fm.1 ((h x).1 ak)with e|e
   ·exact e
   ·rcases fm.1 ((h y).2 ak)with e2|e2
    ·exact e2.symm
    ·exact absurd (kM (ha1 y e2) (qf x e)) (fV _)
  subst Vr;congr 1;refine L4.ext ha2 oP fun z=>⟨fun hz=>?_,fun hz=>?_⟩
  ·rcases fm.1 ((h z).1 (ll _ hz))with e|e
   ·subst e;exact absurd (ha1 _ hz) (fV _)
   ·exact e
  ·rcases fm.1 ((h z).2 (ll _ hz))with e|e
   ·subst e;exact absurd (qf _ hz) (fV _)
   ·exact e
theorem yu(a b:cj):VI a b=true↔¬tj b a:=by
 unfold VI;rw[decide_eq_true_iff,aia];exact List.not_lt.symm
theorem K5(l:List cj):(l.mergeSort VI).Pairwise (fun a b=>¬tj b a):=by
 have h:=List.pairwise_mergeSort (le:=VI) (fun a b c h1 h2=>by
  rw[yu,V4]at*;exact h1.elim (fun h1=>.inl (aib h1 h2)) (fun h1=>h1▸h2)) (fun a b=>by
  rcases oQ a b with h|h|h
  ·simp[(yu a b).2 (fun k=>fV _ (kM h k))]
  ·subst h;simp[(yu a a).2 (fV _)]
  ·simp[(yu b a).2 (fun k=>fV _ (kM h k))]) l
 exact h.imp fun h=>(yu _ _).1 h
theorem Dn{l:List cj}(hp:l.Pairwise (fun a b=>¬tj b a)):∀m,m≤l.length→L4 (Lib.compactUpTo l.toArray m)∧(∀x,x∈Lib.compactUpTo l.toArray m↔x∈l.take m)
 |0,_=>⟨by simp[L4,Lib.compactUpTo],by simp[Lib.compactUpTo]⟩
 |m+1,hm=>by
  obtain⟨h1,h2⟩:=Dn hp m aa;rw[Lib.compactUpTo_succ];have hlm:m<l.length:=by omega
  have hg:l.toArray[m]! =l[m]:=by simp[getElem!_pos,hlm]
  have tZ:l.take (m+1)=l.take m++[l[m]]:=by rw[sR,fo hlm];rfl
  by_cases hk:Lib.keeps l.toArray m=true
  ·rw[aq hk,hg];have Kk:m=0∨l.toArray[m]! ≠l.toArray[m-1]! :=by simpa[Lib.keeps]using hk
   refine⟨?_,fun x=>?_⟩
   ·refine sW.2 ⟨h1,VA _ _,fun a ha b hb=>?_⟩;rw[lE]at hb;subst hb;have zO:=(h2 a).1 ha;obtain⟨i,hi,rfl⟩:=j8 zO;rw[eV]at hi;rw[Ep];have hle:∀i j (hi:i<l.length) (hj:j<l.length),i<j→¬tj l[j] l[i]:=fun i j hi hj Iv=>rk.1 hp i j hi hj Iv;have hm0:m≠0:=by omega
    have r':l[m]≠l[m-1]'aa:=by
     have:=Kk.resolve_left hm0;rw[hg]at this;simpa[getElem!_pos,show m-1<l.length by omega]using this
    have fP:tj (l[m-1]'aa) l[m]:=by
     rcases oQ (l[m-1]'aa) l[m]with h|h|h
     ·exact h
     ·exact absurd h.symm r'
     ·exact absurd h (hle (m-1) m aa hlm aa)
    by_cases him:i=m-1
    ·subst him;exact fP
    ·exact ah3 (V4.1 (hle i (m-1) aa aa aa)) fP
   ·rw[tZ,dy,dy,h2]
  ·rw[aw hk,gk];refine⟨h1,fun x=>?_⟩;rw[tZ,dy,h2,lE];refine⟨.inl,fun h=>h.elim id fun h=>?_⟩;have Kk:¬(m=0∨l.toArray[m]! ≠l.toArray[m-1]!):=by simpa[Lib.keeps]using hk
   have hm0:m≠0:=fun h=>Kk (.inl h);have he:l.toArray[m]! =l.toArray[m-1]! :=j0.1 fun h=>Kk (.inr h);rw[hg]at he;have hg1:l.toArray[m-1]! =l[m-1]'aa:=by simp[getElem!_pos,show m-1<l.length by omega]
   rw[hg1]at he;rw[h,he];exact List.mem_take_iff_getElem.2 ⟨m-1,aa,rfl⟩
def sp(l:List cj):List cj:=Lib.compact (l.mergeSort VI)
theorem yO(l:List cj):L4 (sp l):=by
 have:=(Dn (K5 l) (l.mergeSort VI).length (gj _)).1;exact this
theorem rD(l:List cj)(x:cj):x∈sp l↔x∈l:=by
 have:=(Dn (K5 l) (l.mergeSort VI).length (gj _)).2 x;rw[jN,List.mem_mergeSort]at this;exact this
theorem uE(l:List cj):(sp l).length≤l.length:=by
 have:=Dp (l.mergeSort VI)
 rwa [N5]at this
theorem vm{l r:List cj}(h:L4 r)(hm:∀x,x∈r↔x∈l):sp l=r:=L4.ext (yO l) h fun x=>(rD l x).trans (hm x).symm
def atc(l:List cj)(s:cj):List cj:=sp (l++[s])
theorem L4.put{l:List cj}(h:L4 l){s:cj}{k:Nat}(hk:k≤l.length)(Qi:∀i,i<k→tj (l.getD i []) s)(hhi:k<l.length→¬tj (l.getD k []) s):
  atc l s=if k<l.length∧l.getD k []=s then l else l.take k++[s]++l.drop k:=by
 have hgd:∀i (hi:i<l.length),l.getD i []=l[i]:=fun i hi=>by simp[List.getD,fo hi]
 split
 ·rename_i he;refine vm h fun x=>?_;rw[dy,lE];refine⟨.inl,fun hx=>hx.elim id fun hx=>?_⟩;rw[hx,←he.2,hgd k he.1];exact t_ _
 ·rename_i r';refine vm ?_ fun x=>?_
  ·have fP:k<l.length→tj s (l.getD k []):=fun zQ=>by
    rcases oQ s (l.getD k [])with h|h|h
    ·exact h
    ·exact absurd ⟨zQ,h.symm⟩ r'
    ·exact absurd h (hhi zQ)
   have hpw:=rk.1 h;refine sW.2 ⟨sW.2 ⟨h.sublist (Ky _ _),VA _ _,fun a ha b hb=>?_⟩,h.sublist (List.drop_sublist _ _),fun a ha b hb=>?_⟩
   ·rw[lE]at hb;subst hb;obtain⟨i,hi,rfl⟩:=j8 ha;rw[eV]at hi;rw[Ep,←hgd i aa];exact Qi i aa
   ·obtain⟨j,hj,rfl⟩:=j8 hb;rw[iN]at hj;rw[List.getElem_drop];have hs:tj s l[k+j]:=by
     have h1:=fP aa;rw[hgd k aa]at h1;rcases wV j with h0|h0
     ·subst h0;exact h1
     ·exact kM h1 (hpw k (k+j) aa aa aa)
    rcases dy.1 ha with ha|ha
    ·obtain⟨i,hi,rfl⟩:=j8 ha;rw[eV]at hi;rw[Ep,];exact hpw i (k+j) aa aa aa
    ·rw[lE]at ha;subst ha;exact hs
  ·rw[dy,dy,dy,lE]
   conv=>rhs;rw[←jO k l,dy]
   constructor
   ·rintro((h|h)|h)
    ·exact .inl (.inl h)
    ·exact .inr h
    ·exact .inl (.inr h)
   ·rintro((h|h)|h)
    ·exact .inl (.inl h)
    ·exact .inr h
    ·exact .inl (.inr h)
def E3(tC src:al):List cj:=nc tC++(nc src).map (64:: ·)
def sq(tC src:al):List cj:=sp (E3 tC src)
theorem E4(tC src:al):(E3 tC src).length≤tC.length+src.length:=by
 have h1:=xh tC;have h2:=xh src;simp[E3];omega
end Go.Proofs.YtaodmbolhoafcaaGreatDoor
namespace Go.Proofs
open Go.RowKit Go.Maps Go.Sort Go.Shelf
def Tryz.keysA_ren:Go.Shelf.Ren:=⟨fun|7=>91|10=>162|n=>n,fun|23=>140|26=>9|3=>53|28=>144|0=>0|27=>143|33=>245|4=>4|n=>n,fun|n=>n⟩
theorem Tryz.keysA:Go.Proofs.SlLaysZ.n7 Tryz.prog Tryz.keysA_ren:={
 mixed:=by kernel_rfl
 f7:=⟨Tryz.f91.name,by decide,Tryz.func91.trans (congrArg some (by kernel_rfl))⟩
 f10:=⟨Tryz.f162.name,by decide,Tryz.func162.trans (congrArg some (by kernel_rfl))⟩
 t0:=Tryz.underlying0
 a0:=Tryz.isAgg0
 z0:=Tryz.sizeOf0
 v0:=Tryz.zeroValue0
 t4:=Tryz.underlying4
 a4:=Tryz.isAgg4
 z4:=Tryz.sizeOf4
 v4:=Tryz.zeroValue4
 t23:=Tryz.underlying140
 a23:=Tryz.isAgg140
 z23:=Tryz.sizeOf140
 v23:=Tryz.zeroValue140
 t26:=Tryz.underlying9
 a26:=Tryz.isAgg9
 z26:=Tryz.sizeOf9
 v26:=Tryz.zeroValue9
 t27:=Tryz.underlying143
 a27:=Tryz.isAgg143
 z27:=Tryz.sizeOf143
 v27:=Tryz.zeroValue143
 t28:=Tryz.underlying144
 a28:=Tryz.isAgg144
 z28:=Tryz.sizeOf144
 v28:=Tryz.zeroValue144
 t33:=Tryz.underlying245
 a33:=Tryz.isAgg245
 z33:=Tryz.sizeOf245
 v33:=Tryz.zeroValue245}
def Tryz.sortedA_ren:Go.Shelf.Ren:=⟨fun|6=>90|8=>161|9=>159|11=>216|13=>211|12=>215|23=>252|24=>253|14=>254|15=>255|16=>256|17=>257|18=>258|19=>259|20=>260|21=>261|22=>262|25=>289|26=>290|27=>291|28=>292|29=>293|30=>294|31=>319|n=>n,fun|26=>9|28=>144|24=>87|0=>0|3=>3|37=>192|48=>135|50=>60|4=>4|40=>358|39=>357|45=>348|5=>5|9=>9|51=>398|55=>401|57=>432|58=>285|33=>245|n=>n,fun|n=>n⟩
theorem Tryz.sortedA:Go.Proofs.SlLaysZ.n6 Tryz.prog Tryz.sortedA_ren:={
 mixed:=by kernel_rfl
 f6:=⟨Tryz.f90.name,by decide,Tryz.func90.trans (congrArg some (by kernel_rfl))⟩
 f8:=⟨Tryz.f161.name,by decide,Tryz.func161.trans (congrArg some (by kernel_rfl))⟩
 f11:=⟨Tryz.f216.name,by decide,Tryz.func216.trans (congrArg some (by kernel_rfl))⟩
 t0:=Tryz.underlying0
 a0:=Tryz.isAgg0
 z0:=Tryz.sizeOf0
 v0:=Tryz.zeroValue0
 t24:=Tryz.underlying87
 a24:=Tryz.isAgg87
 z24:=Tryz.sizeOf87
 v24:=Tryz.zeroValue87
 t26:=Tryz.underlying9
 a26:=Tryz.isAgg9
 z26:=Tryz.sizeOf9
 v26:=Tryz.zeroValue9
 t28:=Tryz.underlying144
 a28:=Tryz.isAgg144
 z28:=Tryz.sizeOf144
 v28:=Tryz.zeroValue144
 i26:=by kernel_rfl}
theorem Tryz.anE(m:Nat):AnyZ.SortsIn Tryz.prog Tryz.sortedA_ren Fence.wide m:=
  ⟨fun bE off cap ss W hH acH jb=>callsIn_wide.2 (AnyM.slices_Sort_string Tryz.sortS bE off cap ss W hH acH jb),
   fun p cap W=>callsIn_wide.2 (AnyM.slices_Sort_string_none Tryz.sortS p cap W)⟩
namespace YtaodmbolhoafcaaGreatDoor
set_option linter.unusedVariables false
set_option maxRecDepth 20000
variable{B:Nat}{w0:World}{F L:aR}{A:bj}{c:Nat}
theorem amB(b:Nat):a_ B w0 91 [.map (some b)] L (fun r L'=>∃g,r= .func (.func 162) #[] [bq g].toArray∧L'= .bE g 140 [.map (some b)]::L):=fun w hw=>by
 have h:CallsIn Fence.wide 5 Tryz.prog 91 #[.map (some b)] w fun e w'=>e= .returned (.func (.func 162) #[] #[.pointer (some ⟨w.heap.size,0,none⟩)])∧w'=w.alloc (.cells #[.map (some b)] 140):=AnyZ.keys_in Tryz.keysA Fence.wide 5 trivial rfl (some b) w;refine(callsIn_wide.1 h).mono fun e w' ⟨he,GX⟩=>?_;subst GX;exact⟨_,_,he,⟨w.heap.size,rfl,rfl⟩,hw.KK 140 [.map (some b)]⟩
theorem K7(D:List (al×Value))(hn:(D.map (·.1)).Nodup):MapKept.Stamped (fZ 0 D).toArray D.length:=by
 have hb:∀(D:List (al×Value)) (i:Nat),(fZ i D).map (·.born)=List.range' i D.length:=by
  intro D;induction D with
  |nil=>intro i;rfl
  |cons p r ih=>intro i;simp[fZ,ih,List.range'_succ]
 have hk:∀(D:List (al×Value)) (i:Nat),(fZ i D).map (·.key)=(D.map (·.1)).map fun t=>Value.string ⟨t.toArray⟩:=by
  intro D;induction D with
  |nil=>intro i;rfl
  |cons p r ih=>intro i;simp[fZ,ih]
 refine⟨fun x hx=>?_,?_,?_⟩
 ·have:x.born∈(fZ 0 D).map (·.born):=pS.2 ⟨x,by simpa using hx,rfl⟩;rw[hb]at this;have:=List.mem_range'.1 this;omega
 ·rw[List.toList_toArray,hb];exact List.nodup_range' (step:=1)
 ·rw[List.toList_toArray,hk];exact List.Pairwise.map _ (fun a b h e=>h (by simpa using e)) hn
theorem Ng:∀(D:List (al×Value)) (i:Nat) (x:MapEntry),x∈fZ i D→∃p∈D,x.key= .string ⟨p.1.toArray⟩
 |[],_,_,h=>by simp[fZ]at h
 |p::r,i,x,h=>by
  rcases fm.1 h with rfl|h
  ·exact⟨p,rp,rfl⟩
  ·obtain⟨q,hq,e⟩:=Ng r (i+1) x h;exact⟨q,ll _ hq,e⟩
theorem ZV{ss:eH}(h:ss.Nodup):L4 (ss.mergeSort VI):=by
 have h1:=K5 ss;have h2:(ss.mergeSort VI).Nodup:=(List.mergeSort_perm ss VI).nodup_iff.2 h;refine(h1.and h2).imp fun {x y} h=>?_;rcases oQ x y with q|q|q
 ·exact q
 ·exact absurd q h.2
 ·exact absurd q h.1
theorem aeV{D:List (al×Value)}{g b:Nat}(hn:(D.map (·.1)).Nodup)(hl:D.length≤1048576)(hk:∀p∈D,p.1.length≤1000000000):
  a_ B w0 90 [.func (.func 162) #[] [bq g].toArray] (.bE g 140 [.map (some b)]:: .obj b (VX D)::F)
   (fun r L'=>∃A c,r= .slice A (sp (D.map (·.1))).length c∧L'= .own 9 1 A (sp (D.map (·.1))).length c (strs (sp (D.map (·.1)))):: .bE g 140 [.map (some b)]:: .obj b (VX D)::F):=by
 intro w hw;have hg:=hw.head.2;have hb:w.heap[b]? =some (.map (fZ 0 D).toArray D.length):=hw.tail.head.2;have wQ:∀p∈D,keyOf Tryz.prog 9 (.string ⟨p.1.toArray⟩)=some (.string p.1):=fun p hp=>by
  unfold keyOf mapKey;rw[Tryz.underlying9];simp only;rw[aq (show(⟨p.1.toArray⟩:ByteArray).size≤maxLen by have:=hk p hp;simp only[maxLen,ByteArray.size,wW];omega)]
 have tY:∀x∈fZ 0 D,∃p∈D,WideElems.rd (H:=Unit) Tryz.prog 9 (fun _=>some (.nil,[])) x=some (.string p.1,.nil):=fun x hx=>by
  obtain⟨p,hp,e⟩:=Ng D 0 x hx;refine⟨p,hp,?_⟩;unfold WideElems.rd;rw[e,wQ p hp];rfl
 have Ft:WideElems.Fit (H:=Unit) Tryz.prog 9 (fun _=>some (.nil,[])) (fZ 0 D).toArray D.length:=
  ⟨by have:=oy D 0;simp only[wW,maxLen];omega,K7 D hn,fun x hx=>by
   obtain⟨p,_,e⟩:=tY x (by simpa using hx);exact⟨_,e⟩⟩
 have mg:w.ownsMap Tryz.prog 9 (fun _=>some (DataW.nil (H:=Unit),[])) b D.length (.map (((fZ 0 D).toArray.toList.map (WideElems.rg Tryz.prog 9 fun _=>some (.nil,[]))).foldr DataW.insert [])):=
  ⟨_,_,hb,Ft,by have:=oy D 0;simp only[wW];omega,rfl⟩
 have aqf:∀(E:List (al×Value)) (i:Nat),(∀p∈E,p∈D)→(((fZ i E).map (WideElems.rg (H:=Unit) Tryz.prog 9 fun _=>some (.nil,[]))).map fun p=>strOf p.1)=E.map (·.1):=by
  intro E;induction E with
  |nil=>intro i _;rfl
  |cons p r ih=>
   intro i hE;simp only[fZ,kz];rw[ih (i+1) (fun q hq=>hE q (ll _ hq))];congr 1;unfold WideElems.rg WideElems.rd;rw[wQ p (hE p rp)];rfl
 have aqr:(strKeys (.map (((fZ 0 D).toArray.toList.map (WideElems.rg (H:=Unit) Tryz.prog 9 fun _=>some (.nil,[]))).foldr DataW.insert []))).Perm (D.map (·.1)):=by
  show(List.map _ _).Perm _;refine((WideShapes.sorted_perm _).map _).trans ?_;rw[List.toList_toArray,aqf D 0 (fun p hp=>hp)]
 have akk:Maps.size (DataW.map (((fZ 0 D).toArray.toList.map (WideElems.rg (H:=Unit) Tryz.prog 9 fun _=>some (.nil,[]))).foldr DataW.insert []))=D.length:=by
  unfold Maps.size;simp only[];rw[length_sorted];simp[oy]
 have amq:SeqGives Fence.wide 2 Tryz.prog 162 #[bq g] encStr _ _ w:=
  AnyZ.keys_gives (ρ:=Tryz.keysA_ren) {Tryz.keysA with} Fence.wide _ trivial rfl aa g b D.length _ w hg.lt (by
   have:=hg.cell 0;simpa using this) mg
 have cS:=AnyZ.sorted_in Tryz.sortedA Fence.wide 5 trivial trivial trivial trivial rfl aa (Tryz.anE _) (enters_of Tryz.func159 ag rfl) 162 #[bq g] trivial (enters_of Tryz.func162 ag rfl) _ _ (by rw[akk];unfold maxLen;omega) (by rw[akk];omega) w amq;change CallsIn _ _ Tryz.prog 90 _ _ _ at cS;refine(callsIn_wide.1 cS).mono fun e w' ⟨v,ss,he,hS,ho,_,dh⟩=>?_;have hp2:=hS.trans aqr;have hT:ss.mergeSort (fun x y=>decide (x≤y))=sp (D.map (·.1)):=
  (vm (ZV (hp2.nodup_iff.2 hn)) fun x=>by rw[List.mem_mergeSort];exact hp2.mem_iff).symm
 rw[hT]at ho;have nP:ss.length=(sp (D.map (·.1))).length:=by rw[←hT,N5]
 rw[nP]at ho;have wP:w.grownBy w' none:=⟨dh.os,dh.tape,dh.output,dh.size,fun k hk _=>dh.block k hk⟩
 rcases ho.2 with⟨rfl,h0⟩|⟨q,cap,cur,rfl,h1,h2,h3,h4,h5,h6⟩
 ·have e0:sp (D.map (·.1))=[]:=mi aa;refine⟨_,_,he,⟨none,0,by rw[e0];rfl,rfl⟩,hw.gL wP ⟨by rw[e0];rfl,by rw[e0];exact gj _,.inl rfl⟩ (.inl rfl)⟩
 ·refine⟨_,_,he,⟨_,_,rfl,rfl⟩,hw.gL wP ⟨ho.1,h3,.inr ⟨q,cur,rfl,jf hw.base h1,h2,h4,h5,h6⟩⟩ ?_⟩;by_cases hc:cap=0
  ·left;simp[Ch.fp,hc]
  ·right;exact⟨q,by simp[Ch.fp,hc],h1⟩
end YtaodmbolhoafcaaGreatDoor
end Go.Proofs
namespace Go.Proofs.YtaodmbolhoafcaaGreatDoor
set_option linter.unusedVariables false
set_option linter.unusedSimpArgs false
set_option maxRecDepth 20000
variable{B:Nat}{w0:World}{F:aR}{A:bj}{c g:Nat}{s:Cs}{A1 A2:bj}{n c1 c2:Nat}{B1 B2:bj}{b1 b2:Nat}
theorem Ph(c:UInt8):(97≤(c.toNat:Int)∧(c.toNat:Int)≤122∨48≤(c.toNat:Int)∧(c.toNat:Int)≤57)∧((small c).toNat:Int)=(c.toNat:Int)∧small c≠0∨
  (65≤(c.toNat:Int)∧(c.toNat:Int)≤90)∧((small c).toNat:Int)=(c.toNat:Int)+32∧small c≠0∨
  (¬(97≤(c.toNat:Int)∧(c.toNat:Int)≤122∨48≤(c.toNat:Int)∧(c.toNat:Int)≤57)∧¬(65≤(c.toNat:Int)∧(c.toNat:Int)≤90))∧small c=0:=by
 by_cases h1:65≤c.toNat∧c.toNat≤90
 ·have e:small c=c+32:=aq h1;have e2:(c+32).toNat=c.toNat+32:=by
   rw[UInt8.toNat_add];show(c.toNat+32)%256=_;omega
  refine .inr (.inl ⟨aa,by rw[e,e2];omega,fun h=>?_⟩);rw[e]at h;have:=dC UInt8.toNat h;rw[e2]at this;simp at this
 ·by_cases h2:97≤c.toNat∧c.toNat≤122∨48≤c.toNat∧c.toNat≤57
  ·have e:small c=c:=by unfold small;rw[aw h1,aq h2]
   refine .inl ⟨aa,xA,fun h=>?_⟩;rw[e]at h;rw[h]at h2;simp at h2
  ·have e:small c=0:=by unfold small;rw[aw h1,aw h2]
   exact .inr (.inr ⟨aa,e⟩)
theorem w8{n:Int}{b b':Bool}{c:UInt8}(h:n=((small c).toNat:Int))(hb:b=b'):Value.tuple #[.int .u8 n,.bool b]= .tuple #[.int .u8 (small c).toNat,.bool b']:=by rw[h,hb]
theorem adt(c:UInt8):a_ B w0 214 [.int .u8 c.toNat] F (fun r L=>r= .tuple #[.int .u8 (small c).toNat,.bool (decide (small c≠0))]∧L=F):=by
 have hs:=Ph c;have hc:=c.toNat_lt;refine fw func214 27 [0] ?_;refine jU ?_;refine bR 6 10 [0] (65≤(c.toNat:Int)∧(c.toNat:Int)≤90) ?_ ?_
 ·refine bH ?_;refine ct (fun h7=>?_) fun h7=>?_
  ·refine b8 ?_;exact aM oY
  ·refine be ?_;exact aM wz
 ·refine bH ?_;refine aj (fun h4=>?_) fun h4=>?_
  ·refine bD ?_;refine ae (bY rfl rfl (aaE aa aa)) rfl ?_;refine zK ?_;have e:small c≠0:=by rcases hs with h|h|h<;>first|exact h.2.2|(exfalso;omega)
   exact⟨w8 aa (lD e).symm,rfl⟩
  ·refine bI ?_;refine bR 6 17 [0] (97≤(c.toNat:Int)∧(c.toNat:Int)≤122) ?_ ?_
   ·refine bH ?_;refine ct (fun jC=>?_) fun jC=>?_
    ·refine b8 ?_;exact aM oY
    ·refine be ?_;exact aM wz
   ·refine bH ?_;refine aj (fun pq=>?_) fun pq=>?_
    ·refine D3 ?_;have e:small c≠0:=by rcases hs with h|h|h<;>first|exact h.2.2|(exfalso;omega)
     exact⟨w8 aa (lD e).symm,rfl⟩
    ·refine aE ?_;refine bR 6 23 [0] (48≤(c.toNat:Int)∧(c.toNat:Int)≤57) ?_ ?_
     ·refine bH ?_;refine ct (fun ja=>?_) fun ja=>?_
      ·refine b8 ?_;exact aM oY
      ·refine be ?_;exact aM wz
     ·refine bH ?_;refine aj (fun pq=>?_) fun pq=>?_
      ·refine zM ?_;have e:small c≠0:=by rcases hs with h|h|h<;>first|exact h.2.2|(exfalso;omega)
       exact⟨w8 aa (lD e).symm,rfl⟩
      ·refine zK ?_;have e:small c=0:=by rcases hs with h|h|h<;>first|exact h.2|(exfalso;omega)
       rw[e];exact⟨rfl,rfl⟩
def B3(l:al):Prop:=∀c∈l,small c≠0
instance (l:List UInt8):Decidable (B3 l):=inferInstanceAs (Decidable (∀c∈l,small c≠0))
theorem B3.AE:B3 []:=by intro c h;cases h
theorem B3.take{l:al}(h:B3 l)(k:Nat):B3 (l.take k):=fun c hc=>h c (lW hc)
theorem B3.step{l:al}{k:Nat}(h:B3 (l.take k))(hk:k<l.length)(hs:small (l.getD k 0)≠0):B3 (l.take (k+1)):=by
 rw[aZ hk 0];intro c hc;rcases dy.1 hc with hc|hc
 ·exact h c hc
 ·simp only[lE]at hc;rw[hc];exact hs
theorem B3.all{l:al}{k:Nat}(h:B3 (l.take k))(hk:¬k<l.length):B3 l:=by rwa [fD aa]at h
theorem Bm{P:Prop}(h:P:=by(simp[bv])):P:=h
theorem Md{P:Prop}(h:P:=by(simp[strs])):P:=h
theorem SL.aiy{w:World}{L:aR}{e:TypeId}{size k:Nat}{xs:cV}(h:SL B w0 (.own e size A n c xs::L) w)(hk:k≤n):SL B w0 (.own e size A k c (xs.take (k*size))::L) w:=by
 refine⟨h.below,h.base,fun d hd=>?_,kB.2 ⟨fun d hd=>?_,(kB.1 h.apart).2⟩⟩
 ·rcases fm.1 hd with rfl|hd
  ·obtain⟨k1,k2,k3⟩:=h.head;have RN:k*size≤n*size:=oC _ hk;refine⟨by rw[eV,k1];omega,aa,k3.imp id fun⟨g,cur,q1,q2,q3,q4,q5,q6⟩=>⟨g,cur,q1,q2,q3,q4,q5,by rw[←q6,IE,zd RN]⟩⟩
  ·exact h.tail.all d hd
 ·exact(kB.1 h.apart).1 d hd
theorem O9{P:Program}{fn:Func}{R:qR}{ee:Exit}{fr:Fr}{L:aR}{e:TypeId}{size:Nat}{xs:cV}(k:Nat)(hk:k≤n)(h:Cn P fn R ee fr (.own e size A k c (xs.take (k*size))::L)):Cn P fn R ee fr (.own e size A n c xs::L):=by
 cases ee<;>first
  |exact h
  |(intro B w0 a w ha hw;exact h B w0 a w ha (hw.aiy hk))
abbrev B4(ho:Nat)(A:bj)(c:Nat)(ws:List cj)(F:aR):aR:=.bE ho 87 [.slice A ws.length c]:: .own 9 1 A ws.length c (strs ws)::F
def xr(B:Nat)(w0:World)(ff:FuncId)(ho:Nat)(f:cj→cj):Prop:=
 ∀(F:aR) (t:cj) (ws:List cj) (A:bj) (c:Nat),t.length≤24→ws.length≤1000000000000→
  a_ B w0 ff [.string ⟨t.toArray⟩,bq ho] (B4 ho A c ws F) (fun r L=>r= .tuple #[]∧∃A' c',L=B4 ho A' c' (ws++[f t]) F)
abbrev agm(hr:Nat)(A:bj)(c:Nat)(row:al)(F:aR):aR:=.bE hr 27 [.slice A row.length c]:: .own 5 1 A row.length c (bv row)::F
theorem afe{ff:FuncId}{ho hr hw:Nat}{f:cj→cj}(Yx:aJ Tryz.prog ff)(Vq:xr B w0 ff ho f){row:al}{ws:List cj}(hws:ws.length≤1000000000000)(Ca:row.length≤1000000000000):
  a_ B w0 213 [bq hr,bq hw] (agm hr A1 c1 row (.bE hw 242 [.func (.func ff) #[] [bq ho].toArray]::B4 ho A2 c2 ws F))
   (fun r L=>r= .tuple #[]∧∃A2' c2',L=agm hr A1 c1 [] (.bE hw 242 [.func (.func ff) #[] [bq ho].toArray]::B4 ho A2' c2' (ws++(emit row).map f) F)):=by
 refine fw func213 15 [0,1] ?_;refine bM ?_;refine aj (fun h4=>?_) fun h4=>?_
 ·refine TK (A:=A1) (nn:=row.length) (c:=c1) (size:=1) (xs:=bv row) aB fun oA _=>?_;obtain⟨M,hM⟩:=cR (min row.length 24);have Cc:(row.take 24).length=M:=by rw[eV,hM,Nat.min_comm]
  have he:emit row=[row.take 24]:=aw (fun e=>by rw[e]at h4;simp at h4);have hMm:min (row.length:Int) 24=(M:Int):=by omega
  have tZ:(bv row).take (M*1)=bv (row.take 24):=by
   rw[cE,kI];congr 1;rcases ue row.length 24 with h|h
   ·rw[fD aa,fD aa]
   ·rw[show M=24 by omega]
  refine cC (.bE hr 27 [.slice A1 row.length c1]:: .own 5 1 A1 row.length c1 (bv row):: .bE hw 242 [.func (.func ff) #[] [bq ho].toArray]::[]) ?_;refine ab 0 ?_;refine ab 1 ?_;refine ab 2 ?_;refine ab 3 ?_;refine aW 4 rfl (xQ rfl rfl) ?_;rw[hMm];refine aW 5 rfl (bZ (i:=M) (size:=1) underlying27 ag rfl rfl rfl aa) ?_;refine aW 6 rfl (pg (b:=row.take 24) underlying27 underlying5 underlying9 rfl (tZ▸(aB:aL _ _ _ 1 (.slice A1 row.length c1) row.length (bv row)).js (k:=M) aa)) ?_;refine az 7 ?_;refine pM rfl .no Yx rfl rfl ((Vq _ (row.take 24) ws _ _ aa aa).perm ((pu3 (pu3 (fT (fT (fT (.refl _)))))))) rfl (by rintro _ _ ⟨rfl,P5,c12,rfl⟩;exact gF) ?_;rintro _ _ ⟨rfl,P5,c12,cJ⟩;obtain rfl:=cJ.symm;refine b8 ?_;refine ae (bZ (i:=0) (size:=1) underlying27 ag rfl rfl rfl aa) rfl ?_;refine bH ?_;refine ao (L':=.own 5 1 A1 row.length c1 (bv row):: .bE hr 27 [.slice A1 0 c1]:: .bE hw 242 [.func (.func ff) #[] [bq ho].toArray]::B4 ho P5 c12 (ws++[f (row.take 24)]) F) ((tD (rP (rP (ef (ef (.refl _))))))) ?_;refine O9 0 (bS _) ?_;refine ao (L':=agm hr A1 c1 [] (.bE hw 242 [.func (.func ff) #[] [bq ho].toArray]::B4 ho P5 c12 (ws++[f (row.take 24)]) F)) (.swap (.cons (ax rfl (by rw[sc];rfl) (.refl _)))) ?_;refine aE ?_;exact⟨rfl,P5,c12,by rw[he];rfl⟩
 ·obtain rfl:row=[]:=mi aa;refine b8 ?_;refine ae (bZ (i:=0) (size:=1) underlying27 ag rfl rfl rfl aa) rfl ?_;refine b8 ?_;exact⟨rfl,A2,c2,by simp[emit]⟩
theorem WG{ff:FuncId}{ho:Nat}{f:cj→cj}(Yx:aJ Tryz.prog ff)(Vq:xr B w0 ff ho f)(l:al){ws:List cj}(hws:ws.length≤274877906944)(hl:l.length≤274877906944):
  a_ B w0 156 [.string ⟨l.toArray⟩,.func (.func ff) #[] [bq ho].toArray] (B4 ho A2 c2 ws F)
   (fun r L=>r= .tuple #[]∧∃A2' c2',L=B4 ho A2' c2' (ws++(nc l).map f) F):=by
 refine fw func156 32 [0,1] ?_;refine be ?_;refine bf fun g3=>?_;refine b8 ?_;refine bg fun g4=>?_;refine bz ?_;refine aY 5 1 none ?_;refine bD ?_;refine aD (fun zf zL zm=>∃(k:Nat) (W:List cj) (R:al) (A:bj) (c:Nat) (A3:bj) (c3:Nat),(k≤l.length∧wst (l.take k)=(W,R))∧l.length-k=zm∧Sub zf [(0,.string ⟨l.toArray⟩),(4,bq g4),(5,.func (.func 213) #[] [bq g4,bq g3].toArray),(11,ah l.length),(12,ah k)]∧Wk zL (agm g4 A c R (.bE g3 242 [.func (.func ff) #[] [bq ho].toArray]::B4 ho A3 c3 (ws++W.map f) F))) _ ⟨0,[],[],none,0,A2,c2,⟨bS _,rfl⟩,rfl,bm,.swap (.cons (.cons (.cons (bp ak (ax ak ak (.refl _))))))⟩ ?_;rintro _ _ _ ⟨k,W,R,A,c,A3,c3,⟨hk,hW⟩,rfl,hs,hp⟩;refine aU hs hp ?_;clear hs hp;refine bB ?_;refine aj (fun nh=>?_) fun nh=>?_
 ·have CC:=Ln (l.take k);rw[hW,eV]at CC;simp only at CC;have D8:=DM R;have hsn:wst (l.take (k+1))=mv (W,R) (l.getD k 0):=by
   rw[sR,fo (show k<l.length by omega),←hW,←agf];simp[List.getD,fo (show k<l.length by omega)]
  refine i_ ?_;refine ae (rZ underlying9 rfl rfl rfl aa) rfl ?_;refine ai rfl (adt (l.getD k 0)) ?_;refine cD ?_;refine aj (fun pX=>?_) fun pX=>?_
  ·refine b8 ?_;refine dK cN rfl rfl rfl rfl rfl (fun _=>rfl) aV aa aa ?_;intro _ s_ Bp;refine aE ?_;refine ve [0,4,5,11,12] ?_;refine bP ?_;have acM:R.length+1=(R++[small (l.getD k 0)]).length:=by simp
   refine av ⟨_,aa,k+1,W,R++[small (l.getD k 0)],s_,Bp,A3,c3,⟨aa,by rw[hsn,Jp pX]⟩,rfl,bm,bp (by rw[acM];rfl) (ax acM Bm (.refl _))⟩
  ·refine b8 ?_;refine uK aj1 rfl rfl (afe Yx Vq bO aa) rfl ?_;rintro _ _ ⟨rfl,Bi,Bq,cJ⟩;obtain rfl:=cJ.symm;refine bB ?_;refine ve [0,4,5,11,12] ?_;refine av ⟨_,aa,k+1,W++emit R,[],A,c,Bi,Bq,⟨aa,by rw[hsn,P3 (j0.1 pX)]⟩,rfl,bm,.cons (.cons (.cons (bp ak (ax ak ak (.refl _)))))⟩
 ·obtain rfl:k=l.length:=by omega
  rw[jN]at hW;have CC:=Ln l;rw[hW]at CC;simp only at CC;have hwd:nc l=W++emit R:=by unfold nc;rw[hW]
  refine bD ?_;refine uK aj1 rfl rfl (afe Yx Vq bO aa) rfl ?_;rintro _ _ ⟨rfl,Qq,c31,cJ⟩;obtain rfl:=cJ.symm;refine be ?_;refine ao (L':=B4 ho Qq c31 (ws++W.map f++(emit R).map f) F) (.skip (.skip (.skip (.refl _)))) ?_;refine aE ?_;exact⟨rfl,Qq,c31,by rw[hwd];simp⟩
theorem XN{ho:Nat}:xr B w0 157 ho (fun t=>t):=by
 intro F t ws A c ht hws;refine cB func157 7 rfl rfl rfl [(0,.string ⟨t.toArray⟩),(1,bq ho)] ⟨⟨rfl,rfl⟩,⟨rfl,rfl⟩,trivial⟩ ?_;refine bH ?_;refine dK Fq rfl rfl rfl rfl rfl (fun _=>rfl) aV aa aa ?_;intro _ A6 c6;refine bH ?_;have D8:ws.length+1=(ws++[t]).length:=by simp
 refine ao (L':=B4 ho A6 c6 (ws++[t]) F) (bp (by rw[D8];rfl) (ax D8 Md (.refl _))) ?_;refine aE ?_;exact⟨rfl,A6,c6,rfl⟩
theorem XO{ho:Nat}:xr B w0 158 ho (fun t=>64::t):=by
 intro F t ws A c ht hws;refine cB func158 8 rfl rfl rfl [(0,.string ⟨t.toArray⟩),(1,bq ho)] ⟨⟨rfl,rfl⟩,⟨rfl,rfl⟩,trivial⟩ ?_;refine bH ?_;refine ae (zy (s:=[64]) (r:=t) rfl rfl (by simp only[eh,sb];omega)) rfl ?_;refine dK Fq rfl rfl rfl rfl rfl (fun _=>rfl) aV aa aa ?_;intro _ A7 c7;refine bH ?_;have D8:ws.length+1=(ws++[64::t]).length:=by simp
 refine ao (L':=B4 ho A7 c7 (ws++[64::t]) F) (bp (by rw[D8];rfl) (ax D8 Md (.refl _))) ?_;refine aE ?_;exact⟨rfl,A7,c7,rfl⟩
theorem aje{a b:Value}(tC src:al)(h1:tC.length≤100000000000)(h2:src.length≤100000000000):
  a_ B w0 89 [.agg #[a,b,.string ⟨src.toArray⟩,.string ⟨tC.toArray⟩]] F (fun r L=>∃A c,r= .slice A (sq tC src).length c∧L= .own 9 1 A (sq tC src).length c (strs (sq tC src))::F):=by
 have hrl:=E4 tC src;have hw1:=xh tC;refine fw func89 16 [0] ?_;refine be ?_;refine bf fun g1=>?_;refine bI ?_;refine bg fun g3=>?_;refine bH ?_;refine aY 9 1 none ?_;refine b8 ?_;refine ba ajV rfl ((WG aoX XN tC (ws:=[]) ak aa).perm ((l0 (fT (fT (.refl _)))))) rfl ?_;rintro _ _ ⟨rfl,A7,c7,cJ⟩;obtain rfl:=cJ.symm;refine bD ?_;refine ba ajV rfl (WG aoY XO src bO aa) rfl ?_;rintro _ _ ⟨rfl,tE,xl,cJ⟩;obtain rfl:=cJ.symm;have e:([]++List.map (fun t=>t) (nc tC))++List.map (fun t=>64::t) (nc src)=E3 tC src:=by simp[E3]
 rw[e];refine bI ?_;refine ai rfl ((anD (l:=E3 tC src) aa).perm ((l0 (fT (fT (.refl _)))))) ?_;rw[show(E3 tC src).length=((E3 tC src).mergeSort VI).length from(N5 _).symm];refine bI ?_;refine ai rfl (XR (l:=(E3 tC src).mergeSort VI) (by rw[N5];omega)) ?_;refine b8 ?_;refine ao (L':=.own 9 1 tE (sq tC src).length xl (strs (sq tC src))::F) (.cons (.skip (.skip (.refl _)))) ?_;refine aE ?_;exact⟨tE,xl,rfl,rfl⟩
theorem PY(T:al)(m:Nat)(hm:m≤24)(hp:∀x∈T.take m,small x≠0)(hs:m=T.length∨(∃c,T[m]? =some c∧small c=0)∨m=24):uN T=(T.take m).map small:=by
 have e:T=T.take m++T.drop m:=(jO m T).symm;have hp':∀x∈T.take m,(fun c:UInt8=>decide (small c≠0)) x=true:=fun x hx=>lD (hp x hx);have key:T.takeWhile (fun c=>decide (small c≠0))=T.take m++(T.drop m).takeWhile (fun c=>decide (small c≠0)):=by
  conv=>lhs;rw[e]
  rw[List.takeWhile_append_of_pos hp']
 unfold uN;rw[key,jd];have By:((T.take m).map small).length≤24:=by simp;omega
 rcases hs with h|⟨c,h,h0⟩|h
 ·have:T.drop m=[]:=by rw[h];exact BJ
  rw[this,List.takeWhile_nil,G1,gk];exact fD By
 ·have hd:T.drop m=c::T.drop (m+1):=by
   obtain⟨fP,rfl⟩:=z6.1 h;exact Oa fP
  rw[hd,List.takeWhile_cons,aw Mf,G1,gk];exact fD By
 ·subst h;rcases ue T.length 24 with h|h
  ·have:T.drop 24=[]:=IG aa;rw[this,List.takeWhile_nil,G1,gk];exact fD By
  ·have hl:((T.take 24).map small).length=24:=by simp;omega
   rw[List.take_append_of_le_length aa,fD aa]
def sE(l:al)(i:Nat)(Xj:eH)(prev:Bool):Prop:=
 Xj++tr prev (l.drop i)=tr false l∧(i=0→prev=false)∧(∀c,0<i→l[i-1]? =some c→prev=decide (small c≠0))∧Xj.length≤i
theorem sE.start(l:al):sE l 0 [] false:=⟨rfl,fun _=>rfl,fun _ h=>absurd h aa,gj _⟩
theorem sE.skip{l:al}{i:Nat}{Xj:eH}{prev:Bool}{c:UInt8}(h:sE l i Xj prev)(hc:l[i]? =some c)(hs:small c=0∨prev=true):sE l (i+1) Xj (decide (small c≠0)):=by
 obtain⟨fP,rfl⟩:=z6.1 hc;refine⟨?_,fun h=>by omega,fun c' _ hc'=>?_,by have:=h.2.2.2;omega⟩
 ·have:=h.1;rw[Oa fP,tr,aq hs]at this;exact this
 ·rw[wi,hc]at hc';injection hc' with hc';rw[hc']
theorem sE.put{l:al}{i:Nat}{Xj:eH}{prev:Bool}{c:UInt8}(h:sE l i Xj prev)(hc:l[i]? =some c)(hs:small c≠0)(hp:prev=false):sE l (i+1) (Xj++[uN (l.drop i)]) (decide (small c≠0)):=by
 obtain⟨fP,rfl⟩:=z6.1 hc;refine⟨?_,fun h=>by omega,fun c' _ hc'=>?_,by have:=h.2.2.2;simp;omega⟩
 ·have:=h.1;rw[Oa fP,tr,aw (by simp[hs,hp])]at this;rw[←this,bV,lD hs,Oa fP];rfl
 ·rw[wi,hc]at hc';injection hc' with hc';rw[hc']
theorem sE.done{l:al}{Xj:eH}{prev:Bool}(h:sE l l.length Xj prev):Xj=nc l:=by
 have:=h.1;rw[BJ]at this;rw[aaF,←this];simp[tr]
def rR(l:al)(i m:Nat)(R:al):Prop:=R=((l.drop i).take m).map small∧∀x∈(l.drop i).take m,small x≠0
theorem rR.more{l:al}{i m:Nat}{R:al}{c:UInt8}(h:rR l i m R)(hc:l[i+m]? =some c)(hs:small c≠0):rR l i (m+1) (R++[small c]):=by
 have e:(l.drop i).take (m+1)=(l.drop i).take m++[c]:=by
  rw[sR,k_7,hc];rfl
 refine⟨by rw[e,jd,←h.1];rfl,fun x hx=>?_⟩;rw[e]at hx;rcases dy.1 hx with hx|hx
 ·exact h.2 x hx
 ·simp at hx;subst hx;exact hs
theorem rR.len{l:al}{i m:Nat}{R:al}(h:rR l i m R)(hm:i+m≤l.length):R.length=m:=by
 rw[h.1];simp;omega
theorem rR.stop{l:al}{i m:Nat}{R:al}(h:rR l i m R)(hm:m≤24)(hi:i+m≤l.length)(hs:i+m=l.length∨(∃c,l[i+m]? =some c∧small c=0)∨m=24):R=uN (l.drop i):=by
 rw[h.1,PY _ m hm h.2];rcases hs with h|⟨c,h1,h2⟩|h
 ·left;simp;omega
 ·right;left;exact⟨c,by rw[k_7];exact h1,h2⟩
 ·right;right;exact h
theorem sE.test{l:al}{k:Nat}{Xj:eH}{prev:Bool}(h:sE l k Xj prev)(hk:k≤l.length):prev=decide (0<k∧small (l.getD (k-1) 0)≠0):=by
 rcases wV k with h0|h0
 ·rw[h.2.1 h0,nD aa]
 ·have fP:k-1<l.length:=by omega
  rw[h.2.2.1 (l.getD (k-1) 0) h0 (by rw[fo fP];simp[List.getD,fo fP])];simp[h0]
theorem Pj:∀c:UInt8,small (small c)=small c:=by
 have:∀x:Fin 256,small (small (UInt8.ofNat x.val))=small (UInt8.ofNat x.val):=by decide+kernel
 intro c;have:=this ⟨c.toNat,c.toNat_lt⟩;simpa using this
def T7(t:al):Prop:=∀c∈t,small c≠0∧small c=c
def Ju(t:al):Prop:=1≤t.length∧t.length≤24∧T7 t
theorem UU{row:al}(h:T7 row):∀t∈emit row,Ju t:=by
 intro t ht;unfold emit at ht;split at ht
 ·cases ht
 ·rename_i r';simp at ht;subst ht;have:=List.length_pos_iff.2 r';exact⟨bO,bO,fun c hc=>h c (lW hc)⟩
theorem TY:∀(l:al) (ws:eH) (row:al),(∀t∈ws,Ju t)→T7 row→(∀t∈(l.foldl mv (ws,row)).1,Ju t)∧T7 (l.foldl mv (ws,row)).2
 |[],ws,row,h1,h2=>⟨h1,h2⟩
 |c::r,ws,row,h1,h2=>by
  rw[List.foldl_cons];by_cases hc:small c=0
  case neg=>
   rw[Jp hc];refine TY r ws _ h1 fun x hx=>?_;rcases dy.1 hx with hx|hx
   ·exact h2 x hx
   ·simp only[lE]at hx;subst hx;rw[Pj];exact⟨hc,rfl⟩
  case pos=>
   rw[P3 hc];refine TY r _ [] (fun t ht=>?_) (fun x hx=>by cases hx);rcases dy.1 ht with ht|ht
   ·exact h1 t ht
   ·exact UU h2 t ht
theorem Lm{l t:al}(h:t∈nc l):Ju t:=by
 have:=TY l [] [] ak (fun x hx=>by cases hx);rcases dy.1 h with h|h
 ·exact this.1 t h
 ·exact UU this.2 t h
section
theorem wk:type_of% @wpIn_mono:= @wpIn_mono
abbrev FR(l:Nat):Fence:=Fence.wide.inRound l
def Hi(o:Oper):Prop:=∀c,o.op≠ .defer c
def AF(o:Oper):Bool:=match o.op with| .defer _=>false|_=>true
theorem OC{o:Oper}(h:AF o=true):Hi o:=fun c e=>by unfold AF at h;rw[e]at h;cases h
theorem IT{l:sD}(h:l.all AF=true):∀o∈l,Hi o:=fun o ho=>OC (ye.1 h o ho)
section
variable{P:Program}{l n:Nat}{Q:Exit→Act→World→Prop}
theorem aiT{row:String}{args:Array Value}{w:World}{R:Value→World→Prop}(h:Rows P row args w R):RowsIn (FR l) n P row args w R:=fun c cs _=>
 let ⟨v,w',r,s⟩:=h c cs
 ⟨v,w',r,(show StepsIn (Machine.fenced P Fence.wide) P _ _ from stepsIn_wide.2 s)⟩
theorem V9{o:Oper}{a:Act}{w:World}{K:Act→World→Prop}(hd:Hi o)(h:o.wp P a w K Q):o.wpIn (FR l) n P a w K Q:=by
 refine⟨fun _ _=>trivial,?_⟩;rw[Oper.semAt_eq _ _ _ hd];unfold Oper.wp at h;generalize (execOp a.eval o).run P w=r at*;cases r with
 |ok x w'=>
  cases x<;>simp only[Oper.upon,Oper.uponIn]at h⊢<;>first
   |exact h
   |exact⟨fun h=>by simp[Fence.inRound,Fence.wide]at h,CallsIn.inRound l (callsIn_wide.2 (Ku h fun e w'' he=>by cases e<;>exact he))⟩
   |exact⟨fun h=>by simp[Fence.inRound,Fence.wide]at h,aiT h⟩
 |halt x w'=>cases x<;>simp only[Oper.upon,Oper.uponIn]at h⊢<;>exact h
theorem KD(hQ:¬LetsOut Q){ops:Array Oper}:∀(sZ:sD) (a:Act) (w:World),(∀o∈sZ,Hi o)→wpList P ops Q sZ a w→wpListIn (FR l) n P ops Q sZ a w
 |[],_,_,_,h=>h
 |o::r,a,w,hd,h=>by
  unfold wpList at h;unfold wpListIn;split at h
  ·rename_i hw;rw[aq hw];rcases h with h|h
   ·exact Oper.wpIn_mono (fun a w h=>KD hQ r a w (fun o ho=>hd o (ll _ ho)) h) (V9 (hd o rp) h)
   ·exact absurd h.2 hQ
  ·rename_i hw;rw[aw hw];exact⟨fun _ _=>trivial,KD hQ r _ w (fun o ho=>hd o (ll _ ho)) h⟩
theorem Jy(hQ:¬LetsOut Q){ops:Array Oper}{md:Region.Mode}(hd:∀o∈ops,Hi o):∀(fuel:Nat) (li:Array Bool) (a:Act) (w:World),wpAny P md ops Q fuel li a w→wpAnyIn (FR l) n P md ops Q fuel li a w
 |0,_,_,_,h=>h
 |fuel+1,li,a,w,h=>by
  refine⟨h.1,fun i hi=>?_⟩;have h:=h.2 i hi;unfold wpOp at h;unfold wpOpIn;cases ho:ops[i]? with
  |none=>
   simp only[ho]at h⊢;exact Jy hQ hd fuel _ a w h
  |some o=>
   simp only[ho]at h⊢;have hdo:Hi o:=hd o (Array.mem_of_getElem? ho);by_cases hw:Region.wanted o (yielded ops a.tmps)=true
   ·rw[aq hw]at h⊢;rcases h with h|h
    ·exact Oper.wpIn_mono (fun a w h=>Jy hQ hd fuel _ a w h) (V9 hdo h)
    ·exact absurd h.2 hQ
   ·rw[aw hw]at h⊢;exact⟨fun _ _=>trivial,Jy hQ hd fuel _ _ w h⟩
end
def NX(C:Cx)(Q:Fr→aR→Prop):Exit→Act→World→Prop
 | .normal,a,w=>∃fr L,pT C.N fr a∧SL C.B C.w0 L w∧Q fr L
 |_,_,_=>False
def NQ(Q:Fr→aR→Prop):Exit→Fr→aR→Prop
 | .normal,fr,L=>Q fr L
 |_,_,_=>False
def VR(C:Cx)(l n:Nat)(c:Code)(Q:Fr→aR→Prop)(fr:Fr)(L:aR):Prop:=∀a w,pT C.N fr a→SL C.B C.w0 L w→c.wpIn (FR l) n C.P (NX C Q) a w
section
variable{C:Cx}{l n:Nat}{Q:Fr→aR→Prop}{fr:Fr}{L S:aR}{x y:Code}
theorem VJ:∀(e:Exit) (a:Act) (w:World),lift C (NQ Q) e a w→NX C Q e a w:=fun e a w ⟨fr,L,ha,hs,hq⟩=>by
 cases e<;>first|exact⟨fr,L,ha,hs,hq⟩|exact hq.elim
theorem aim:¬LetsOut (lift C (NQ Q)):=fun⟨_,_,_,_,_,_,h⟩=>h
theorem adP:¬LetsOut (NoPanic (lift C (NQ Q))):=fun⟨_,_,_,_,_,_,h⟩=>h
theorem Li(h:VR C l n x (fun fr L=>VR C l n y Q fr L) fr L):VR C l n (.seq x y) Q fr L:=fun a w ha hs=>
 wpIn_seq (wk (h a w ha hs) fun e a w hq=>by
  cases e<;>first|exact hq.elim|(obtain⟨fr,L,ha,hs,hq⟩:=hq;exact hq a w ha hs))
theorem FX{id:Nat}(h:VR C l n x Q fr L):VR C l n (.block id x) Q fr L:=fun a w ha hs=>
 wpIn_block (wk (h a w ha hs) fun e a w hq=>by
  cases e<;>first|exact hq.elim|exact hq)
theorem na{id:Nat}{sZ:sD}(hd:sZ.all AF=true)(h:VL C sZ.toArray (NQ Q) sZ fr L):VR C l n (.region id sZ.toArray false) Q fr L:=fun a w ha hs=>
 wk (wpIn_region_lit (KD aim sZ a w (IT hd) (h a w ha hs))) VJ
theorem ajG{id:Nat}{sZ:sD}(hd:sZ.all AF=true)(hm:C.P.follows .mixedOrders=true)(hS:S.Sublist L)(h:VH C sZ.toArray S (NQ Q) sZ.toArray.size (Array.replicate sZ.toArray.size false) fr L):VR C l n (.region id sZ.toArray true) Q fr L:=fun a w ha hs=>
 wk (wpIn_region_any hm (Jy adP (fun o ho=>IT hd o (by simpa using ho)) _ _ a _ (wpAny_of_held _ _ _ _ (h a _ ha (hs.drewN 1) ((hs.drewN 1).sub hS))))) fun e a w h=>VJ e a w (NoPanic.imp e a w h)
theorem nq(h:Q fr L):NQ Q .normal fr L:=h
end
def mark(D:Nat):Deferred:={target:=.collected D,args:= #[]}
theorem put_defers(a:Act)(ds:List Deferred)(d:Option Tmp)(v:Value):({a with defers:=a.defers++ds}:Act).put d v={a.put d v with defers:=(a.put d v).defers++ds}:=by cases d<;>rfl
theorem lF{P:Program}{ops:Array Oper}{Q:Exit→Act→World→Prop}(ds:List Deferred):∀(sZ:sD) (a:Act) (w:World),wpList P ops Q sZ a w→
  wpList P ops (fun e a' w'=>∃a0:Act,a'={a0 with defers:=a0.defers++ds}∧Q e a0 w') sZ {a with defers:=a.defers++ds} w
 |[],a,w,h=>⟨a,rfl,h⟩
 |o::r,a,w,h=>by
  unfold wpList at h⊢;by_cases hw:Region.wanted o (yielded ops a.tmps)=true
  ·rw[aq hw]at h;rw[aq (show Region.wanted o (yielded ops ({a with defers:=a.defers++ds}:Act).tmps)=true from hw)];rcases h with h|⟨h1,a1,w1,h2⟩
   ·refine .inl ?_;have he:({a with defers:=a.defers++ds}:Act).eval=a.eval:=rfl;unfold Oper.wp at h⊢;rw[he];generalize (execOp a.eval o).run P w=res at*;cases res with
    |ok x w'=>
     cases x<;>simp only[Oper.upon]at h⊢<;>first
      |(rw[put_defers];exact lF ds r _ _ h)
      |(
       refine Ku h fun e w'' he=>?_;cases e<;>dsimp only at he⊢<;>first
        |(rw[put_defers];exact lF ds r _ _ he)
        |exact⟨_,rfl,he⟩
        |(obtain⟨a1,w1,h2⟩:=he;exact⟨_,w1,a1,rfl,h2⟩))
      |exact Rows.mono h fun v w'' he=>by rw[put_defers];exact lF ds r _ _ he
      |(have h2:=lF ds r _ _ h;rw[←put_defers]at h2;exact h2)
    |halt x w'=>cases x<;>simp only[Oper.upon]at h⊢<;>first|exact⟨_,rfl,h⟩|exact h
   ·exact .inr ⟨h1,_,w1,a1,rfl,h2⟩
  ·rw[aw hw]at h;rw[aw (show¬Region.wanted o (yielded ops ({a with defers:=a.defers++ds}:Act).tmps)=true from hw),put_defers];exact lF ds r _ _ h
def VM(C:Cx)(D:Nat)(c:Code)(QQ:Exit→Act→World→Prop)(fr:Fr)(L:aR):Prop:=∀a w,a.defers=[mark D]→pT C.N fr {a with defers:=[]}→SL C.B C.w0 L w→c.wp C.P QQ a w
section
variable{C:Cx}{D:Nat}{QQ:Exit→Act→World→Prop}{fr:Fr}{L L':aR}{x y:Code}
theorem af8{id:Nat}{sZ:sD}(h:VL C sZ.toArray (NQ fun fr L=>VM C D y QQ fr L) sZ fr L):VM C D (.seq (.region id sZ.toArray false) y) QQ fr L:=fun a w hd ha hs=>by
 have h1:=lF [mark D] sZ _ w (h {a with defers:=[]} w ha hs);rw[show({({a with defers:=[]}:Act)with defers:=({a with defers:=[]}:Act).defers++[mark D]}:Act)=a by rw[←hd];rfl]at h1;refine wp_seq (ym (wp_region_lit h1) fun e a' w' hq=>?_);obtain⟨a0,rfl,jH,L',zO,Bz,hq⟩:=hq;cases e<;>first
  |exact hq.elim
  |refine hq _ w' (by simp[zO.defers]) ?_ Bz
   have e0:({({a0 with defers:=a0.defers++[mark D]}:Act)with defers:=[]}:Act)=a0:=by rw[←zO.defers]
   rw[e0];exact zO
def FG(C:Cx)(fn:Func)(R:qR):Exit→Act→World→Prop:=bodyPostM Fence.wide 8 C.P fn fun e w'=>∃v L',e= .returned v∧R v L'∧SL C.B C.w0 L' w'
def VG(C:Cx)(c:Code)(QQ:Exit→Act→World→Prop)(fr:Fr)(L:aR):Prop:=∀a w,pT C.N fr a→SL C.B C.w0 L w→c.wp C.P QQ a w
def TG(C:Cx)(y:Code)(QQ:Exit→Act→World→Prop):Exit→Fr→aR→Prop
 | .normal,fr,L=>VG C y QQ fr L
 |e,fr,L=>∀a w,pT C.N fr a→SL C.B C.w0 L w→QQ e a w
theorem qN(h:VC C x (TG C y QQ) fr L):VG C (.seq x y) QQ fr L:=fun a w ha hs=>
 wp_seq (ym (h a w ha hs) fun e a w ⟨fr,L,ha,hs,hq⟩=>by
  cases e<;>exact hq a w ha hs)
theorem lz(h:VG C y QQ fr L):TG C y QQ .normal fr L:=h
theorem anI{fn:Func}{R:qR}{P:Program}{B N:Nat}{w0:World}{y:Code}(hN:fn.ntmps=N)(h:Cn P fn R .ret fr L):TG ⟨P,N,B,w0⟩ y (FG ⟨P,N,B,w0⟩ fn R) .ret fr L:=fun a w ha hs=>by
 subst hN;obtain⟨v,L',h1,h2,h3⟩:=h B w0 a w ha hs;show LeavesInM _ _ _ _ _ _ a.defers _ _;rw[ha.defers];exact⟨v,h1,v,L',rfl,h2,h3⟩
theorem SL.afU{B:Nat}{w0 w:World}(h:SL B w0 (.obj D (.deferred (some []))::L) w):SL B w0 L (w.putObj D (.deferred none)):=
 (h.Lc (c':=.obj D (.deferred none)) (grownBy_putObj' w D _) ⟨h.head.1,World.putObj_heap_same (k_3.1 h.head.2).1⟩ (.inr (.inl rfl))).tail
theorem af7{fn:Func}{R:qR}{P:Program}{B N:Nat}{w0:World}(hN:fn.ntmps=N)(hp:L.Perm (.obj D (.deferred (some []))::L'))(h:Cn P fn R .ret fr L'):VM ⟨P,N,B,w0⟩ D .ret (FG ⟨P,N,B,w0⟩ fn R) fr L:=fun a w hd ha hs=>by
 subst hN;have Bz:=hs.perm hp;obtain⟨v,L'',h1,h2,h3⟩:=h B w0 _ _ ha Bz.afU;refine wp_ret ?_;show LeavesInM _ _ _ _ _ _ a.defers _ _;rw[hd];exact⟨ak,.inl ⟨D,_,rfl,run_takeDeferred Bz.head.2,v,h1,v,L'',rfl,h2,h3⟩⟩
theorem xZ{P:Program}{B:Nat}{w0:World}{f:FuncId}{fn:Func}{c:Code}{args:cV}{R:qR}(hf:P.funcs[f]? =some fn)(N:Nat)(hN:fn.ntmps=N)(hb:fn.body=some c)(hl:Nat.ble args.length N=true)(fr0:Fr)(hi:Ini N args fr0)(h:VG ⟨P,N,B,w0⟩ c (FG ⟨P,N,B,w0⟩ fn R) fr0 L):dP P B w0 f args L R:=fun w hw=>by
 have hl:=Nat.le_of_ble_eq_true hl;subst hN;refine callsIn_wide.1 (callsIn_of_wp_marks (n:=8) hf hb trivial (wpIn_wide.2 (h _ w ⟨rfl,?_,fun t v ht=>?_⟩ hw)) rfl)
 ·simp;omega
 ·obtain⟨h1,h2⟩:=hi.look t v ht;simp only[wW];by_cases fP:t<args.length
  ·rw[Array.getElem?_append_left Hw];simp[fP]at h2;simp[fP,h2]
  ·rw[Array.getElem?_append_right Hw];have h3:args[t]? =none:=zZ aa;simp[h3]at h2;subst h2;simp;rw[Array.getElem?_replicate,aq aa]
end
end
theorem N6:type_of% @decide_eq_true_eq:= @decide_eq_true_eq
theorem II:type_of% @List.sum_cons:= @List.sum_cons
def Ov(f:Nat→List cj)(n:Nat)(s:cj):bc:=(List.range n).filter fun q=>decide (s∈f q)
theorem adC(f:Nat→List cj)(n:Nat)(s:cj):Ov f (n+1) s=Ov f n s++(if s∈f n then [n] else []):=by
 unfold Ov;rw[lk,En];congr 1;by_cases h:s∈f n<;>simp[h]
theorem Sh{f:Nat→List cj}{n:Nat}{s:cj}:Ov f n s≠[]↔∃q,q<n∧s∈f q:=by
 unfold Ov;rw[Ne,List.filter_eq_nil_iff];simp only[ky,N6];constructor
 ·intro h;refine bF fun h2=>h fun q hq hs=>h2 ⟨q,hq,hs⟩
 ·rintro⟨q,h1,h2⟩ h3;exact h3 q h1 h2
def rU(f:Nat→List cj)(n:Nat):List cj:=sp ((List.range n).flatMap f)
def JA(f:Nat→List cj)(n:Nat):List (bc):=(rU f n).map (Ov f n)
structure zh(f:Nat→List cj)(i:Nat)(part:List cj)(D:List B5):Prop where
 ids:∀s,vV s D=Ov f i s++(if s∈part then [i] else [])
 keys:∀s,s∈D.map (·.1)↔vV s D≠[]
 nd:(D.map (·.1)).Nodup
theorem zh.start(f:Nat→List cj):zh f 0 [] []:=⟨fun s=>by simp[vV,Ov],fun s=>by simp[vV],ak⟩
theorem zh.step{f:Nat→List cj}{i j:Nat}{T:List cj}{D:List B5}(h:zh f i (T.take j) D)(hn:T.Nodup)(hj:j<T.length)(A:bj)(c:Nat):zh f i (T.take (j+1)) (Hg (T.getD j []) A c i D):=by
 have hg:T.getD j []=T[j]:=by simp[List.getD,fo hj]
 have tZ:T.take (j+1)=T.take j++[T[j]]:=by rw[sR,fo hj];rfl
 have asI:T[j]∉T.take j:=by
  have h2:(T.take (j+1)).Nodup:=hn.sublist (Ky _ _);rw[tZ,List.nodup_append]at h2;exact fun q=>h2.2.2 _ q _ ak rfl
 have hm:∀s,s∈T.take (j+1)↔s∈T.take j∨s=T[j]:=fun s=>by rw[tZ,dy,lE]
 rw[hg];refine⟨fun s=>?_,fun s=>?_,OD _ _ _ _ _ h.nd⟩
 ·rw[Rp,h.ids s];by_cases e:s=T[j]
  ·rw[aq e,aw (fun q=>asI (e▸q)),aq ((hm s).2 (.inr e)),gk]
  ·rw[aw e];by_cases q:s∈T.take j
   ·rw[aq q,aq ((hm s).2 (.inl q))]
   ·rw[aw q,aw (fun k=>((hm s).1 k).elim q e)]
 ·rw[Kz,Rp,h.keys s];by_cases e:s=T[j]
  ·simp[e]
  ·simp[e]
theorem L4.nd{l:List cj}(h:L4 l):l.Nodup:=List.Pairwise.imp (fun {a b} (q:tj a b) (e:a=b)=>fV a (by rw[←e]at q;exact q)) h
theorem zh.next{f:Nat→List cj}{i:Nat}{D:List B5}(h:zh f i (f i) D):zh f (i+1) [] D:=
 ⟨fun s=>by rw[h.ids s,adC];simp,h.keys,h.nd⟩
theorem zh.done{f:Nat→List cj}{n:Nat}{D:List B5}(h:zh f n [] D):sp (D.map (·.1))=rU f n∧∀s,vV s D=Ov f n s:=by
 have hi:∀s,vV s D=Ov f n s:=fun s=>by rw[h.ids s];simp
 refine⟨vm (yO _) fun x=>?_,hi⟩;rw[rU,rD,h.keys,hi,Sh,List.mem_flatMap];simp only[ky]
abbrev rK:=bj×Nat×bc
abbrev jQ(e:rK):Value:=.slice e.1 e.2.2.length e.2.1
abbrev jP(e:rK):Ch:=.own 3 1 e.1 e.2.2.length e.2.1 (bx e.2.2)
def Qb(t:cj):List B5→rK
 |[]=>(none,0,[])
 |e::r=>if t=e.1 then e.2 else Qb t r
theorem adv(t:cj):∀D:List B5,((nw t (lh D) 0).map (·.2)).getD (.slice none 0 0)=jQ (Qb t D)
 |[]=>rfl
 |e::r=>by
  show((nw t ((e.1,Ro e)::lh r) 0).map (·.2)).getD _=_;unfold nw Qb;by_cases h:t=e.1
  ·rw[aq h,aq h];rfl
  ·rw[aw h,aw h,uV,←adv t r];cases nw t (lh r) 0<;>rfl
theorem U9(t:cj):∀D:List B5,(Qb t D).2.2=vV t D
 |[]=>rfl
 |e::r=>by
  unfold Qb vV;split
  ·rfl
  ·exact U9 t r
theorem Pa:∀D:List B5,(D.map (·.1)).Nodup→D.map tN=(D.map (·.1)).map fun t=>jP (Qb t D)
 |[],_=>rfl
 |e::r,h=>by
  rw[kz,Eo]at h;rw[kz,kz,kz];congr 1
  ·unfold Qb;rw[aq rfl];rfl
  ·rw[Pa r h.2];apply sa;intro t ht;have r':¬t=e.1:=fun q=>h.1 (q▸ht);show _=jP (Qb t (e::r));rw[Qb,aw r']
theorem ZO{D:List B5}(h:(D.map (·.1)).Nodup):(D.map tN).Perm (((sp (D.map (·.1))).map (Qb · D)).map jP):=by
 have hp:(D.map (·.1)).Perm (sp (D.map (·.1))):=(List.perm_ext_iff_of_nodup h (yO _).nd).2 fun x=>(rD _ x).symm;have e:((sp (D.map (·.1))).map (Qb · D)).map jP=(sp (D.map (·.1))).map (fun t=>jP (Qb t D)):=vF;rw[Pa D h,e];exact hp.map _
theorem ai1{w:World}(P:aR){D:List B5}{xs:bc}{o:Obj}{R:aR}(h:(D.map tN).Perm (.own 3 1 A xs.length c (bx xs)::R)∨(A=none∧c=0∧xs=[]∧R=D.map tN))(hw:SL B w0 (P++ .obj g o::(D.map tN++F)) w):SL B w0 (.own 3 1 A xs.length c (bx xs)::(P++ .obj g o::(R++F))) w:=by
 rcases h with h|⟨rfl,rfl,rfl,rfl⟩
 ·refine hw.perm ?_;refine(List.Perm.append_left P ((((h.append_right F).cons (Ch.obj g o)).trans (.swap _ _ _)))).trans ?_;exact yp
 ·exact hw.CE 3 1 none
theorem acs(P:aR){D':List B5}{o o':Obj}{R:aR}{m:Nat}{xs ys:cV}(h:(D'.map tN).Perm (.own 3 1 A m c ys::R))(hx:xs=ys)(ho:o=o'):Wk (.own 3 1 A m c xs::(P++ .obj g o::(R++F))) (P++ .obj g o'::(D'.map tN++F)):=by
 subst hx;subst ho;refine .dE (List.Perm.symm ?_);refine(List.Perm.append_left P ((((h.append_right F).cons (Ch.obj g o)).trans (.swap _ _ _)))).trans ?_;exact yp
def trm(x:aH):List cj:=sq x.2.2.2 x.2.2.1
theorem aju(x:aH):(trm x).length≤x.w:=by
 have h1:=uE (E3 x.2.2.2 x.2.2.1);have h2:=E4 x.2.2.2 x.2.2.1;unfold trm sq aH.w;omega
theorem afJ{x:aH}{t:cj}(h:t∈trm x):t.length≤25:=by
 rcases dy.1 ((rD _ _).1 h)with h|h
 ·have:=(Lm h).2.1;omega
 ·obtain⟨u,hu,rfl⟩:=pS.1 h;have:=(Lm hu).2.1;simp;omega
def A_(L:List aH)(i:Nat):List cj:=trm (recAt L i)
theorem Us{L:List aH}(hb:aL B w0 F 4 (.slice A L.length c) L.length (cU L))(hw:dF L≤1048576):
  a_ B w0 49 [.slice A L.length c] F (fun r K=>∃(A1:bj) (c1:Nat) (A2:bj) (c2:Nat) (LL:List rK),r= .agg [.slice A1 (rU (A_ L) L.length).length c1,.slice A2 (rU (A_ L) L.length).length c2].toArray∧
   K= .own 9 1 A1 (rU (A_ L) L.length).length c1 (strs (rU (A_ L) L.length)):: .own 53 1 A2 (rU (A_ L) L.length).length c2 (LL.map jQ)::(LL.map jP++F)∧LL.map (·.2.2)=JA (A_ L) L.length):=by
 have wR:L.length≤dF L:=by
  clear hb hw;induction L with
  |nil=>simp[dF]
  |cons x r ih=>simp only[dF,kz,II,eh]at ih⊢;unfold aH.w at*;omega
 refine fw func49 60 [0] ?_;refine be ?_;refine bg fun g2=>?_;refine b8 ?_;refine cH (M8) fun g11=>?_;refine cD ?_;refine aD (fun zf zL zm=>∃(i:Nat) (D:List B5),(i≤L.length∧zh (A_ L) i [] D∧D.length≤dF (L.take i))∧L.length-i=zm∧Sub zf [(2,bq g2),(3,.map (some g11)),(12,.slice A L.length c),(13,ah L.length),(14,ah i)]∧Wk zL (.bE g2 90 [.slice none 0 0,.slice none 0 0]:: .obj g11 (VX (lh D))::(D.map tN++F))) _ ⟨0,[],⟨bS _,zh.start _,ak⟩,rfl,bm,.swap (.refl _)⟩ ?_;rintro _ _ _ ⟨i,D,⟨hi,hG,hDl⟩,rfl,hs,hp⟩;refine aU hs hp ?_;clear hs hp;refine bB ?_;refine aj (fun kS=>?_) fun kS=>?_
 ·obtain⟨tm,lv,src,tC,hx⟩:∃tm lv src tC,recAt L i=(tm,lv,src,tC):=⟨_,_,_,_,rfl⟩
  have qf:aL B w0 (D.map tN++F) 4 (.slice A L.length c) L.length (cU L):=hb.mono (gz _ _);have RV:=lS (L:=L) (k:=i) aa;rw[hx]at RV;have hws:=oU (L:=L) (k:=i) aa;have CC:=np L (i+1);have hrw:(recAt L i).w=16+src.length+tC.length:=by rw[hx];rfl
  obtain⟨T,hT⟩:=cR (A_ L i);have hTe:T=sq tC src:=by rw[hT];unfold A_ trm;rw[hx]
  have hTl:T.length≤src.length+tC.length:=by
   have h1:=uE (E3 tC src);have h2:=E4 tC src;rw[hTe];unfold sq;omega
  have hTn:T.Nodup:=by rw[hTe];exact(yO _).nd
  have htd:=fun F h1 h2=> @aje B w0 F (.int .u64 tm) (.int .u8 (lv.toNat:Int)) tC src h1 h2;rw[←hTe]at htd;refine bM ?_;refine ae (dg 4 ag rfl aB aa [.int .u64 tm,.int .u8 (lv.toNat:Int),.string ⟨src.toArray⟩,.string ⟨tC.toArray⟩] RV rfl) rfl ?_;refine bg fun g5=>?_;refine bD ?_;refine ay rfl (htd _ aa aa) fun Ls Mw=>?_;refine bI ?_;refine aD (fun zf zL zm=>∃(j:Nat) (D2:List B5),(j≤T.length∧zh (A_ L) i (T.take j) D2∧D2.length≤dF (L.take i)+j)∧T.length-j=zm∧Sub zf [(2,bq g2),(3,.map (some g11)),(4,ah i),(12,.slice A L.length c),(13,ah L.length),(14,ah i),(20,.slice Ls T.length Mw),(21,ah T.length),(22,ah j)]∧Wk zL (.own 9 1 Ls T.length Mw (strs T):: .bE g5 62 [.int .u64 tm,.int .u8 (lv.toNat:Int),.string ⟨src.toArray⟩,.string ⟨tC.toArray⟩]:: .bE g2 90 [.slice none 0 0,.slice none 0 0]:: .obj g11 (VX (lh D2))::(D2.map tN++F))) _ ⟨0,D,⟨bS _,by rw[Ah];exact hG,aa⟩,rfl,bm,.refl _⟩ ?_;rintro _ _ _ ⟨j,D2,⟨hj,hG2,atG⟩,rfl,hs,hp⟩;refine aU hs hp ?_;clear hs hp;refine bB ?_;refine aj (fun oO=>?_) fun oO=>?_
  ·refine bD ?_;refine ae (gQ (b:=T) (j:=j) ag rfl aB aa) rfl ?_;refine bH ?_;obtain⟨AG,cG,RG,hGv,hGs,hGb⟩:=Vd (T.getD j []) D2;have asu:=hG2.ids (T.getD j []);have hil:(vV (T.getD j []) D2).length≤i+1:=by
    rw[asu];have:(Ov (A_ L) i (T.getD j [])).length≤i:=by unfold Ov;exact jf (BH _ _) ak
    rw[aX];split<;>simp only[eh,sb]<;>omega
   refine ark (fun w hw=>ai1 [.own 9 1 Ls T.length Mw (strs T),.bE g5 62 [.int .u64 tm,.int .u8 (lv.toNat:Int),.string ⟨src.toArray⟩,.string ⟨tC.toArray⟩],.bE g2 90 [.slice none 0 0,.slice none 0 0]] hGs hw) ?_;refine bI ?_;refine ae (Dw (zv:=(.slice none 0 0)) underlying140 underlying9 (Xi ag) rfl rfl aV) rfl ?_;rw[hGv];refine aE ?_;refine dK fM rfl rfl rfl rfl rfl (fun _=>rfl) aV aa aa ?_;intro _ P6 c33;refine kK (GI underlying140 underlying9 rfl rfl rfl aV) ?_;refine bD ?_;refine av ⟨_,aa,j+1,Hg (T.getD j []) P6 c33 i D2,⟨aa,hG2.step hTn aa P6 c33,by have:=afX (T.getD j []) P6 c33 i D2;omega⟩,rfl,bm,acs [_,_,_] (hGb P6 c33 i) sG (by rw[Wd])⟩
  ·obtain rfl:j=T.length:=by omega
   rw[jN,hT]at hG2;have hGn:=hG2.next;refine bz ?_;refine av ⟨_,aa,i+1,D2,⟨aa,hGn,aa⟩,rfl,bm,.skip (.skip (.refl _))⟩
 ·obtain rfl:i=L.length:=by omega
  rw[jN]at hDl;obtain⟨hd1,Yz⟩:=hG.done;have asx:∀p∈lh D,p.1.length≤1000000000:=fun p hp=>by
   obtain⟨e,he,rfl⟩:=pS.1 hp;have h1:=(hG.keys e.1).1 (pS.2 ⟨e,he,rfl⟩);rw[Yz,Sh]at h1;obtain⟨q,_,h2⟩:=h1;have:=afJ h2;show e.1.length≤_;omega
  have wQ:(lh D).map (·.1)=D.map (·.1):=by simp[lh]
  have GU:(lh D).length=D.length:=by simp[lh]
  have hrp:=ZO hG.nd;obtain⟨T0,hT0⟩:=cR (sp (D.map (·.1)));have atH:T0.length≤D.length:=by
   have:=uE (D.map (·.1));rw[hT0];simpa using this
  have hso:=fun F g b=> @aeV B w0 F (lh D) g b (by rw[wQ];exact hG.nd) aa asx;rw[wQ,←hT0]at hso;rw[←hT0]at hrp hd1;rw[←hd1];refine bD ?_;refine bg fun g8=>?_;refine bB ?_;refine ba arN rfl (amB g11) rfl ?_;rintro _ _ ⟨g37,rfl,cJ⟩;obtain rfl:=cJ.symm;refine ay rfl ((hso _ g37 g11).perm ((fT (BN (fT (fT (.refl _))))))) fun LU P8=>?_;refine bI ?_;refine aY 9 1 none ?_;refine aY 53 1 none ?_;refine aD (fun zf zL zm=>∃(k:Nat) (B1:bj) (b1:Nat) (B2:bj) (b2:Nat),(k≤T0.length)∧T0.length-k=zm∧Sub zf [(2,bq g2),(3,.map (some g11)),(8,bq g8),(38,.slice LU T0.length P8),(39,ah T0.length),(40,ah k)]∧Wk zL (.own 9 1 B1 k b1 (strs (T0.take k)):: .own 53 1 B2 k b2 ((T0.take k).map fun t=>jQ (Qb t D)):: .bE g8 90 [.slice B1 k b1,.slice B2 k b2]:: .own 9 1 LU T0.length P8 (strs T0):: .bE g37 140 [.map (some g11)]:: .bE g2 90 [.slice none 0 0,.slice none 0 0]:: .obj g11 (VX (lh D))::(D.map tN++F))) _ ⟨0,none,0,none,0,bS _,rfl,bm,(gl (ef (tD (ef (ef (gl (ef (.refl _))))))))⟩ ?_;rintro _ _ _ ⟨k,B1,b1,B2,b2,hk,rfl,hs,hp⟩;refine aU hs hp ?_;clear hs hp;refine bB ?_;refine aj (fun GN=>?_) fun GN=>?_
  ·have tZ:T0.take (k+1)=T0.take k++[T0.getD k []]:=by
    rw[sR,fo (show k<T0.length by omega)];simp[List.getD,fo (show k<T0.length by omega)]
   refine bD ?_;refine ae (gQ (b:=T0) (j:=k) ag rfl aB aa) rfl ?_;refine bM ?_;refine dK Fq rfl rfl rfl rfl rfl (fun _=>rfl) aV aa aa ?_;intro _ A48 c48;refine bP ?_;refine ae (Dw (zv:=(.slice none 0 0)) underlying140 underlying9 (Xi ag) rfl rfl aV) rfl ?_;rw[adv];refine dK akK rfl rfl rfl rfl rfl (fun _=>rfl) aV aa aa ?_;intro _ A56 c56;refine be ?_;refine ve [2,3,8,38,39,40] ?_;refine bB ?_;refine av ⟨_,aa,k+1,A48,c48,A56,c56,aa,rfl,bm,ax rfl (by rw[tZ];simp[strs]) (ax rfl (by rw[tZ];simp) (.refl _))⟩
  ·obtain rfl:k=T0.length:=by omega
   rw[jN];refine cD ?_;refine I8 rfl rfl ag aV gD (.cons (.cons (.skip (.skip (.skip (.skip (.skip (.dE (hrp.append_right F))))))))) ?_;exact⟨B1,b1,B2,b2,T0.map (Qb · D),rfl,by rw[show(T0.map (Qb · D)).map jQ=T0.map (fun t=>jQ (Qb t D)) from vF],by rw[vF,JA,←hd1];exact sa fun t _=>(U9 t D).trans (Yz t)⟩
def CW(l1 l2:List cj)(k:Nat):Prop:=l1.take k=l2.take k
theorem CW.step{l1 l2:List cj}{k:Nat}(h:CW l1 l2 k)(h1:k<l1.length)(h2:k<l2.length)(he:l1.getD k []=l2.getD k []):CW l1 l2 (k+1):=by
 unfold CW at*;rw[sR,sR,h];congr 1;rw[fo h1,fo h2];simp[List.getD,fo h1,fo h2]at he;rw[he]
theorem CW.all{l1 l2:List cj}{k:Nat}(h:CW l1 l2 k)(h1:¬k<l1.length)(h2:l1.length=l2.length):l1=l2:=by
 unfold CW at h
 rwa [fD aa,fD aa]at h
theorem ale{P:Prop}(h:P:=by(rw[nD (fun h=>by rw[h]at jB;exact jB rfl)])):P:=h
theorem aoH{P:Prop}(h:P:=by(rw[nD (fun h=>by rw[h]at oh;exact oh rfl)])):P:=h
theorem vt{M N:aR}(h:Wk M N):∀R:aR,Wk (R++M) N
 |[]=>h
 |_::R=>.skip (vt h R)
abbrev Lv:=bj×Nat×List Int
abbrev zS(e:Lv):Value:=.slice e.1 e.2.2.length e.2.1
abbrev rf:Lv:=(none,0,[])
def l6(B:Nat)(w0:World)(F:aR)(LL:List Lv):Prop:=∀e∈LL,aL B w0 F 1 (.slice e.1 e.2.2.length e.2.1) e.2.2.length (ints .i64 e.2.2)
theorem l6.cons{LL:List Lv}{q:Ch}(h:l6 B w0 F LL):l6 B w0 (q::F) LL:=fun e he=>(h e he).cons
theorem l6.mono{LL:List Lv}{M:aR}(h:l6 B w0 F LL)(hs:F.Sublist M):l6 B w0 M LL:=fun e he=>(h e he).mono hs
theorem l6.get{LL:List Lv}(h:l6 B w0 F LL){k:Nat}(hk:k<LL.length):aL B w0 F 1 (.slice (LL.getD k rf).1 (LL.getD k rf).2.2.length (LL.getD k rf).2.1) (LL.getD k rf).2.2.length (ints .i64 (LL.getD k rf).2.2):=h _ (bh hk rf)
theorem amu{LL:List Lv}{k:Nat}(hk:k<LL.length):(LL.map zS)[k*1]? =some (zS (LL.getD k rf)):=by
 rw[cE,jt,fo hk];simp[List.getD,fo hk]
theorem aqA{l:List Int}{k:Nat}(h:k<l.length):(ints .i64 l)[k*1]? =some (ah (l.getD k 0)):=by
 rw[cE,ints,jt,fo h];simp[List.getD,fo h]
theorem apA{l l2:List Int}(h1:aL B w0 F 1 (.slice A l.length c) l.length (ints .i64 l))(h2:aL B w0 F 1 (.slice A2 l2.length c2) l2.length (ints .i64 l2))(hl:l.length≤9223372036854775807):
  a_ B w0 241 [.slice A l.length c,.slice A2 l2.length c2] F (fun r L=>r= .bool (decide (l=l2))∧L=F):=by
 refine fw func241 26 [0,1] ?_;refine i_ ?_;refine aj (fun jB=>?_) fun jB=>?_
 ·refine bM ?_;exact⟨ale,rfl⟩
 ·refine dm ?_;refine aD (fun zf zL zm=>∃(k:Nat),(k≤l.length∧l.take k=l2.take k)∧l.length-k=zm∧Sub zf [(0,.slice A l.length c),(1,.slice A2 l2.length c2),(12,ah l.length),(13,ah k)]∧Wk zL (F)) _ ⟨0,⟨bS _,rfl⟩,rfl,bm,.refl _⟩ ?_;rintro _ _ _ ⟨k,⟨hk,heq⟩,rfl,hs,hp⟩;refine aU hs hp ?_;clear hs hp;refine bB ?_;refine aj (fun jC=>?_) fun jC=>?_
  ·refine i_ ?_;refine bU (au ag rfl aB aa (aqA (l:=l) (k:=k) aa)) rfl ?_;refine bH ?_;refine bU (au ag rfl aB aa (aqA (l:=l2) (k:=k) aa)) rfl ?_;refine bH ?_;refine aj (fun oh=>?_) fun oh=>?_
   ·refine cD ?_;exact⟨aoH,rfl⟩
   ·refine bD ?_;refine av ⟨_,aa,k+1,⟨aa,by rw[aZ aa 0,aZ aa 0,heq,show l.getD k 0=l2.getD k 0 by omega]⟩,rfl,bm,.refl _⟩
  ·refine cD ?_;have e:l=l2:=by
    have:=heq
    rwa [fD aa,fD aa]at this
   exact⟨by rw[lD e],rfl⟩
theorem apB{l l2:List cj}(h1:aL B w0 F 1 (.slice A l.length c) l.length (strs l))(h2:aL B w0 F 1 (.slice A2 l2.length c2) l2.length (strs l2))(hl:l.length≤9223372036854775807):
  a_ B w0 239 [.slice A l.length c,.slice A2 l2.length c2] F (fun r L=>r= .bool (decide (l=l2))∧L=F):=by
 refine fw func239 26 [0,1] ?_;refine i_ ?_;refine aj (fun jB=>?_) fun jB=>?_
 ·refine bM ?_;exact⟨ale,rfl⟩
 ·refine dm ?_;refine aD (fun zf zL zm=>∃(k:Nat),(k≤l.length∧l.take k=l2.take k)∧l.length-k=zm∧Sub zf [(0,.slice A l.length c),(1,.slice A2 l2.length c2),(12,ah l.length),(13,ah k)]∧Wk zL (F)) _ ⟨0,⟨bS _,rfl⟩,rfl,bm,.refl _⟩ ?_;rintro _ _ _ ⟨k,⟨hk,heq⟩,rfl,hs,hp⟩;refine aU hs hp ?_;clear hs hp;refine bB ?_;refine aj (fun jC=>?_) fun jC=>?_
  ·refine i_ ?_;refine bU (gQ (b:=l) (j:=k) ag rfl aB aa) rfl ?_;refine bH ?_;refine bU (gQ (b:=l2) (j:=k) ag rfl aB aa) rfl ?_;refine bH ?_;refine aj (fun oh=>?_) fun oh=>?_
   ·refine cD ?_;exact⟨aoH,rfl⟩
   ·refine bD ?_;refine av ⟨_,aa,k+1,⟨aa,by rw[aZ aa [],aZ aa [],heq,j0.1 oh]⟩,rfl,bm,.refl _⟩
  ·refine cD ?_;have e:l=l2:=by
    have:=heq
    rwa [fD aa,fD aa]at this
   exact⟨by rw[lD e],rfl⟩
def fU(LL:List Lv):List (List Int):=LL.map (·.2.2)
theorem adf{L1 L2:List Lv}{k:Nat}(h:(fU L1).take k=(fU L2).take k)(h1:k<L1.length)(h2:k<L2.length)(he:(L1.getD k rf).2.2=(L2.getD k rf).2.2):(fU L1).take (k+1)=(fU L2).take (k+1):=by
 have hg:∀(L:List Lv) (hk:k<L.length),(fU L)[k]? =some (L.getD k rf).2.2:=fun L hk=>by
  rw[fU,jt,fo hk];simp[List.getD,fo hk]
 rw[sR,sR,h,hg L1 h1,hg L2 h2,he]
theorem C5(L:List aH):∀i,i≤L.length→((List.range i).flatMap (A_ L)).length≤dF (L.take i)
 |0,_=>by simp
 |i+1,h=>by
  have ih:=C5 L i aa;have hw:=oU (L:=L) (k:=i) aa;have:=aju (recAt L i);rw[lk,ud,aX,hw];simp only[jM,List.flatMap_nil,gk];show _+(trm (recAt L i)).length≤_;omega
def toI(LL:List rK):List Lv:=LL.map fun e=>(e.1,e.2.1,e.2.2.map (fun(n:Nat)=>(n:Int)))
theorem WZ(LL:List rK):(toI LL).map zS=LL.map jQ:=by
 unfold toI;rw[vF];apply sa;intro e _;simp[zS,jQ]
theorem CP(LL:List rK):(toI LL).length=LL.length:=by simp[toI]
theorem yU(LL:List rK):fU (toI LL)=(LL.map (·.2.2)).map fun l=>l.map (fun(n:Nat)=>(n:Int)):=by
 simp[fU,toI]
theorem WY{LL:List rK}{L:aR}(h:∀e∈LL,jP e∈L):l6 B w0 L (toI LL):=fun e he=>by
 obtain⟨a,ha,rfl⟩:=pS.1 he;have:=aL.own (B:=B) (w0:=w0) (h a ha);simpa[bx,ints,vF,Function.comp_def]using this
end Go.Proofs.YtaodmbolhoafcaaGreatDoor
