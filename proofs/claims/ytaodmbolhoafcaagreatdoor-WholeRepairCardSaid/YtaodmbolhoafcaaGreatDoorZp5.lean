/-
  Texts of one proof, joined: part 5. No condition.
-/
import Derived.Test.YtaodmbolhoafcaaGreatDoorZp4
import Derived.Lib.AppendZeros
import Derived.MapKept
import Derived.WideMake
import Derived.Test.YtaodmbolhoafcaaGreatDoorProg
import Derived.Shelf.SortM.Plain
import Derived.Shelf.SortM.SortNone
import Derived.Shelf.SlicesG.CompactS
import Derived.Ground.SlgmProg
import Derived.Ground.SlgnProg
import Derived.Sort.OwnSorted
import Derived.Lib.OwnBridge
open List renaming length→E
open Go.RowKit Go.Proofs.Tryz
namespace Go.Proofs.YtaodmbolhoafcaaGreatDoor
set_option linter.unusedVariables false
set_option linter.unusedSimpArgs false
set_option maxRecDepth 20000
variable{B:Nat}{w0:World}{F:aR}{A:bk}{c n:Nat}{A2:bk}{n2 c2 g:Nat}{s:Cs}
theorem Za{P:Prop}(h:P:=by(exact dS (by first|omega|(exact⟨λh=>by omega,λh=>by omega⟩)))):P:=h
theorem w7:type_of% @List.sum_append:= @List.sum_append
theorem jx:type_of% @List.map_append:= @List.map_append
def aJ.w(x:aJ):Nat:=16+E x.2.2.1+E x.2.2.2
def dN(L:List aJ):Nat:=(L.map aJ.w).sum
theorem ace(L:List aJ)(x:aJ):dN (L++[x])=dN L+x.w:=by simp[dN]
theorem pH{L:List aJ}{k:Nat}(h:k<E L):dN (L.take (k+1))=dN (L.take k)+(recAt L k).w:=by
 rw[aY h (0,0,[],[]),ace];rfl
theorem nU(L:List aJ)(k:Nat):dN (L.take k)<=dN L:=by
 have h:dN L=dN (L.take k)+dN (L.drop k):=by
  rw[dN,dN,dN,<-w7,<-jx,jd]
 omega
theorem vZ(x:aJ):∀u∈x.cells,u.oneCell'=true:=by simp[aJ.cells,Value.oneCell']
theorem mu{L:List aJ}{k:Nat}(hk:k<E L):∀(q:Nat) (u:Value),(aJ.cells (recAt L k))[q]? =some u->(c_ L)[k*4+q]? =some u:=λq u h=>by
 have hq:q<4:=by
  have:=(Bw.1 h).1;simpa[aJ.cells]using this
 rw[qW hk hq];exact h
set_option maxRecDepth 20000 in
theorem ah0(L:List aJ)(hb:aM B w0 F 4 (.slice A (E L) c) (E L) (c_ L))(hw:dN L<4611686018427387904)(hl:E L<4611686018427387904):
  aZ B w0 81 [.slice A (E L) c] F (λr K=>r=ah (dN L)∧K=F):=by
 refine fw func81 24 [0] ?_;refine Bh ?_;refine aD (λzf zL zm=>∃(k:Nat),(k<=E L)∧E L-k=zm∧Sub zf [(3,ah (dN (L.take k))),(6,.slice A (E L) c),(7,ah (E L)),(8,ah k)]∧Wk zL (F)) _ ⟨0,bU _,rfl,bp,.refl _⟩ ?_;rintro _ _ _ ⟨k,hk,rfl,hs,hp⟩;refine aT hs hp (bB ?_);refine aj (λh9=>?_) λh9=>?_
 ·have hws:=pH (L:=L) (k:=k) aa;have DF:=nU L (k+1);have p6:=vZ (recAt L k);have hrw:(recAt L k).w=16+E (recAt L k).2.2.1+E (recAt L k).2.2.2:=rfl;refine bB ?_;refine ab (aE (i:=k) underlying24 ag rfl rfl rfl aa aB) rfl ?_;refine ab (dq 4 ag rfl aB aa (aJ.cells (recAt L k)) (mu aa) rfl) rfl ?_;refine bh λg5=>?_;refine H5 ?_;refine ve [3,6,7,8] ?_;refine av ⟨_,aa,k+1,aa,rfl,bp,.skip (.refl _)⟩
 ·refine cY ?_;have Bl:k=E L:=by omega
  subst Bl;exact⟨by rw[ki],rfl⟩
set_option maxRecDepth 20000 in
theorem abm(L:List aJ)(hb:aM B w0 F 4 (.slice A (E L) c) (E L) (c_ L))(hl:E L<4611686018427387904):
  aZ B w0 37 [.slice A (E L) c] F (λr K=>∃v:Int,r=ah v∧K=F∧(v=2199023255552∧1099511627776<dN L∨v=dN L∧dN L<4611686018427387904)):=by
 refine fw func37 48 [0] ?_;refine Bg ?_;refine aD (λzf zL zm=>∃(k:Nat),(k<=E L∧dN (L.take k)<=4398046511104)∧E L-k=zm∧Sub zf [(0,.slice A (E L) c),(3,ah (dN (L.take k))),(4,ah k)]∧Wk zL (F)) _ ⟨0,⟨bU _,by simp[dN]⟩,rfl,bp,.refl _⟩ ?_;rintro _ _ _ ⟨k,⟨hk,Ty⟩,rfl,hs,hp⟩;refine aT hs hp (bO ?_);refine aj (λh8=>?_) λh8=>?_
 ·have hws:=pH (L:=L) (k:=k) aa;have hrw:(recAt L k).w=16+E (recAt L k).2.2.1+E (recAt L k).2.2.2:=rfl;refine bI ?_;refine bR 20 30 [0,3,4] (1099511627776<dN (L.take k)∨1099511627776<E (recAt L k).2.2.1∨1099511627776<E (recAt L k).2.2.2) ?_ ?_
  ·refine bE ?_;refine aI rfl rfl rfl (λnj=>?_) (λnj=>?_)
   ·refine bB ?_;refine ab (cU underlying62 rfl ag rfl aB aa rfl) rfl (aF ?_);refine ab (eU ag rfl aB aa ((qW aa ax).trans rfl)) rfl (bB ?_);refine aI rfl rfl rfl (λrm=>?_) (λrm=>?_)
    ·refine bB ?_;refine ab (cU underlying62 rfl ag rfl aB aa rfl) rfl (aF ?_);refine ab (eU ag rfl aB aa ((qW aa ax).trans rfl)) rfl (bF ?_);exact aL Zb
    ·refine bI ?_;exact aL Za
   ·refine jG ?_;exact aL Za
  ·refine bc ?_;refine aj (λz_=>?_) λz_=>?_
   ·refine cY ?_;have awz:=nU L k;have awA:=nU L (k+1);exact⟨_,rfl,rfl,.inl ⟨rfl,aa⟩⟩
   ·refine bK ?_;refine bL (cU underlying62 rfl ag rfl aB aa rfl) rfl ?_;refine bL (eU ag rfl aB aa ((qW aa ax).trans rfl)) rfl (bF ?_);refine bL (cU underlying62 rfl ag rfl aB aa rfl) rfl ?_;refine bL (eU ag rfl aB aa ((qW aa ax).trans rfl)) rfl (bE ?_);refine lO [(0,_),(3,_),(4,_)] ⟨rfl,rfl,rfl,trivial⟩ ?_;refine bI ?_;refine av ⟨_,aa,k+1,⟨aa,aa⟩,rfl,bp,.refl _⟩
 ·refine cY ?_;have Bl:k=E L:=by omega
  subst Bl;rw[ki]at Ty⊢;exact⟨_,rfl,rfl,.inr ⟨rfl,aa⟩⟩
theorem ajo(L:List aJ)(hb:aM B w0 F 4 (.slice A (E L) c) (E L) (c_ L))(n1 n2:Nat)(h1:n1<=1099511627776)(h2:n2<=1099511627776):
  aZ B w0 20 [.slice A (E L) c,ah n1,ah n2] F (λr K=>∃b,r= .bool b∧K=F∧(b=false->E L<=n1∧dN L<=n2)):=by
 refine fw func20 17 [0,1,2] ?_;refine cF ?_;refine aI rfl rfl rfl (λpg=>?_) (λpg=>?_)
 ·refine bc ?_;refine be at2 rfl (abm L hb aa) rfl ?_;rintro _ _ ⟨v,rfl,cO,hv⟩;obtain rfl:=cO.symm;refine bz ?_;refine⟨_,rfl,rfl,λh=>?_⟩;have h':=TK h;exact⟨aa,aa⟩
 ·refine bO ?_;exact⟨_,rfl,rfl,λh=>kC⟩
theorem adE{x k:Nat}{pre:al}(h:aS x=pre++aS k)(hk:128<=k):aS x=(pre++[UInt8.ofNat (128+k%128)])++aS (k/128):=by
 rw[h,vK hk];simp
theorem adD{x k:Nat}{pre:al}(h:aS x=pre++aS k)(hk:k<128):aS x=pre++[UInt8.ofNat k]:=by
 rw[h,pd hk]
theorem aja{x k:Nat}{pre:al}(h:aS x=pre++aS k)(hx:x<18446744073709551616):E pre<=10:=by
 have h1:=dQ List.length h;have h2:=aV hx;rw[aX]at h1;omega
theorem NN{v:Nat}(hv:v<256)(l:al):bv l++[Value.int .u8 (v:Int)]=bv (l++[UInt8.ofNat v]):=by
 have:(UInt8.ofNat v).toNat=v:=by rw[tX];exact jh hv
 simp[bv,this]
theorem avw(k:Nat):IntKind.u8.wrap (k:Int)=((k%256:Nat):Int):=by show(k:Int)%256=_;omega
theorem asY(k:Nat):IntKind.u8.wrap ((BitVec.ofInt IntKind.u8.bits ((k%256:Nat):Int) ||| BitVec.ofInt IntKind.u8.bits 128).toNat:Int)=((128+k%128:Nat):Int):=by
 have h:=u8_or (k%256) 128 aa aa;rw[show((128:Nat):Int)=128 from rfl]at h;have e:=afQ (k%256) aa;refine(Eq.trans h ?_);rw[e];omega
theorem avR(k:Nat):(k:Int).fdiv (2^min (7:Int).toNat IntKind.u64.bits)=((k/128:Nat):Int):=by
 have e:min (7:Int).toNat IntKind.u64.bits=7:=by decide
 rw[e,wW _ ax];rfl
set_option maxRecDepth 20000 in
theorem jj(x:Nat)(hx:x<18446744073709551616):aZ B w0 63 [.int .u64 x] F (λr L=>∃A c,r= .slice A (E (aS x)) c∧L= .own 5 1 A (E (aS x)) c (bv (aS x))::F):=by
 refine fw func63 19 [0] ?_;refine bB ?_;refine a_ 5 1 none (bB ?_);refine aD (λzf zL zm=>∃(k:Nat) (pre:al) (A3:bk) (c3:Nat),(k<=x∧aS x=pre++aS k)∧k=zm∧Sub zf [(0,.int .u64 k),(3,.slice A3 (E pre) c3)]∧Wk zL (.own 5 1 A3 (E pre) c3 (bv pre)::F)) _ ⟨x,[],none,0,⟨gC _,ak⟩,rfl,bp,az rfl rfl (.refl _)⟩ ?_;rintro _ _ _ ⟨k,pre,A3,c3,⟨hk,he⟩,rfl,hs,hp⟩;refine aT hs hp ?_;have mP:=aja he hx;refine bI ?_;refine aj (λh5=>?_) λh5=>?_
 ·have hl:=(show(pre++[UInt8.ofNat (128+k%128)]).length=E pre+1 by simp)
  refine bI ?_;refine ab (bm underlying60 underlying5 rfl (avw k)) rfl (ab (uC rfl rfl (asY k)) rfl (dL cB rfl rfl rfl rfl rfl (λ_=>rfl) aW aa aa ?_));intro _ uu ya;rw[<-hl];refine bF ?_;refine ab (dv rfl rfl aa (avR k)) rfl (bE ?_);refine av ⟨_,aa,k/128,pre++[UInt8.ofNat (128+k%128)],uu,ya,⟨aa,adE he aa⟩,rfl,bp,az rfl (NN aa pre) (.refl _)⟩
 ·have hl:=(show(pre++[UInt8.ofNat k]).length=E pre+1 by simp)
  refine bz ?_;refine dL cB rfl rfl rfl rfl rfl (λ_=>rfl) aW aa aa ?_;intro _ tP vH;rw[<-hl];refine b7 ?_;have Ff:=adD he aa;rw[Ff];refine aq (az rfl (NN aa pre) (.refl _)) (aF ?_);exact⟨tP,vH,rfl,rfl⟩
theorem My(s:al)(hs:E s<=1099511627776):aZ B w0 143 [.string ⟨s.toArray⟩] F (λr L=>∃A c,r= .slice A (E (fD s)) c∧L= .own 5 1 A (E (fD s)) c (bv (fD s))::F):=by
 have h:=λw=>apG (⟨s.toArray⟩:ByteArray) (by simpa[ByteArray.size]using hs) w;exact dU.BK λw _=>h w
theorem V3{P:Prop}(h:P:=by(simpa using hc)):P:=h
theorem Z2(w:World):
  Calls Tryz.prog 163 #[.slice none 0 0,ah 0] w λe w'=>e= .returned (.slice none 0 0)∧w=w':=by
 go_enter func163,Tryz.ntmps163
 go_wp2
 go_ret
 exact⟨rfl,rfl⟩
def alK(w:World)(e:Ending)(w':World):Prop:=∃v,e= .returned v∧w'.ownsRow w.heap.size 5 1 v 0 []
theorem afT{w:World}{base:Nat}{e:TypeId}{g cap:Nat}{cur:Array Value}(h:w.heap[g]? =some (.cells cur e (0,0)))(hb:base<=g)(hm:cap<=maxLen)(hc:cur.size=cap):
  w.ownsRow base e 1 (.slice (some ⟨g,0,none⟩) 0 cap) 0 []:=
 ⟨rfl,.inr ⟨g,cap,cur,rfl,hb,h,bU _,hm,V3,ak⟩⟩
set_option maxRecDepth 100000 in
theorem ad_(n:Nat)(h:0<n)(hn:n<=1099511627776)(w:World):
  Calls Tryz.prog 163 #[.slice none 0 0,ah n] w λe w'=>alK w e w'∧Below w.heap.size w w':=by
 obtain⟨i,hi,hz,hs,Fc⟩:=YJ;have tU:=Lib.run_append_nil_zeros (P:=Tryz.prog) w 27 3 27 5 i (.int .u8 0) .i64 .i64 underlying27 underlying3 hi hz n h aa aa (by rw[Fc];omega);have xx:=grownCap_ge w n 0 5;have hle:=grownCap_le_maxLen w n 0 5 Cl;generalize hG:grownCap w n 0 5=G at*;have h1:¬((n:Int)<0):=by omega
 have h2:(0:Int)<n:=by omega
 have HR:=kg tU;have HG:=kg hG;clear tU hG hi hz hs Fc
 go_enter func163,Tryz.ntmps163
 go_wp2_with (at_builtin;refine Lib.wpList_append_run _ rfl _ _ _ _ rfl _ _ rfl rfl _ _ HR.out ?_)
 go_ret
 refine⟨⟨_,rfl,afT (FD _ _) (gC _) hle ?_⟩,((Ij _ _).alloc (gC _) _).drew⟩;simp[size_zeroCells];omega
theorem anS(n:Nat)(hn:n<=1099511627776)(w:World):
  Calls Tryz.prog 163 #[.slice none 0 0,ah n] w λe w'=>alK w e w'∧Below w.heap.size w w':=by
 rcases xF n with h|h
 ·subst h;refine(Z2 w).mono λe w' ⟨h1,h2⟩=>?_;subst h2;exact⟨⟨_,h1,World.ownsRow_nil _ _ _ _⟩,Ij _ _⟩
 ·exact ad_ n h hn w
abbrev eF:=List (Value×al)
def eF.Dn(P:eF):cZ:=P.map (·.1)
def eF.all(P:eF):al:=P.flatMap (·.2)
def eF.ok(P:eF)(w:World)(B:Nat):Prop:=∀x∈P,Rd w B 1 x.1 (E x.2) (bv x.2)
theorem eF.wK(P:eF){k:Nat}{x:Value×al}(h:P[k]? =some x):eF.all (P.take (k+1))=eF.all (P.take k)++x.2:=by
 have hk:=(Bw.1 h).1;have hx:=(Bw.1 h).2;unfold eF.all;rw[List.take_succ_eq_append_getElem hk,uP,hx];simp
theorem eF.Ci(P:eF)(k:Nat):E (eF.all (P.take k))<=E (eF.all P):=by
 unfold eF.all
 conv=>rhs;rw[<-jd k P,uP]
 simp
theorem eF.at_{P:eF}{w:World}{B:Nat}{A:bk}{n:Nat}(hr:0<n->∃ad,A=some ad∧ad.block<B∧∀j u,P.Dn[j]? =some u->w.cell? (ad.add j)=some u)(hP:P.ok w B)(hn:n=E P){k:Nat}(hk:k<n):∃ad A' c' x,A=some ad∧ad.block<B∧P[k]? =some x∧w.cell? (ad.add k)=some (.slice A' (E x.2) c')∧Rd w B 1 (.slice A' (E x.2) c') (E x.2) (bv x.2):=by
 obtain⟨ad,rfl,hb,hc⟩:=hr aa;have hx:P[k]? =some (P[k]'aa):=fc aa;have uM:=hP _ (List.mem_of_getElem? hx);have fL:=hc k (P[k]'aa).1 (by simp[eF.Dn,hx]);obtain⟨A',c',hv,h4,h5,h6⟩:=uM;rw[hv]at fL;exact⟨ad,A',c',_,rfl,hb,hx,fL,A',c',rfl,h4,h5,h6⟩
set_option maxRecDepth 100000 in
set_option maxHeartbeats 800000 in
theorem N4{B n:Nat}{v:Value}{P:eF}(w:World)(hn:n=E P)(h:Rd w B 1 v n P.Dn)(hP:P.ok w B)(hB:B<=w.heap.size)(hlen:E P.all<=1099511627776)(Cz:E P<=1099511627776):
  Calls Tryz.prog 93 #[v] w λe w'=>∃v',e= .returned v'∧w'.ownsRow w.heap.size 5 1 v' (E P.all) (bv P.all)∧Below w.heap.size w w':=by
 obtain⟨A,c,rfl,hc,hl,hr⟩:=h;rw[<-hn]at Cz;have Hr:=kg hr;have HP:=kg hP;have Hn:=kg hn;have Hl:=kg hlen;clear hr hP hn hlen hl
 go_enter func93,Tryz.ntmps93
 go_wp2
 go_loop [3,5,11] (λz s i=>∃k m:Nat,k<=n∧i=ah k∧z=ah m∧m<=1099511627776∧Hid (m=E (eF.all (P.take k)))) (λ_ _ i=>n-(intOf i).toNat)
 case atStart=>exact⟨0,0,bU _,rfl,rfl,bU _,by simp[Hid,eF.all]⟩
 case round=>
  obtain⟨k,m,hk,rfl,rfl,hm,HM⟩:=hrel;by_cases fN:k<n
  ·obtain⟨ad,A',c',x,rfl,hab,hx,fL,uM⟩:=eF.at_ Hr.out HP.out Hn.out fN;have e1:=eF.wK P hx;have e2:=eF.Ci P (k+1);have Aj:m+E x.2=E (eF.all (P.take (k+1))):=by rw[e1,aX,HM.out]
   have uj:m+E x.2<=1099511627776:=by rw[Aj];exact jz e2 Hl.out
   have HM2:=kg Aj;clear Aj e1 e2 uM hx
   go_wp2
   go_round
   case rel=>exact⟨k+1,m+E x.2,aa,by go_num,by go_num,uj,HM2⟩
   case measure=>simp[intOf];omega
  ·have hkn:k=n:=by omega
   have Aj:m=E P.all:=by rw[HM.out,hkn,Hn.out,ki]
   have HM2:=kg Aj;clear Aj hkn
   go_wp2_with (go_at_call 163;refine(anS m aa _).mono ?_;rintro e w1 ⟨⟨v1,rfl,Fh⟩,qJ⟩)
   have hwB:=qJ.mono hB
   go_loopw [6,8,27] (λo s i wr=>∃k:Nat,k<=n∧i=ah k∧wr.ownsRow w.heap.size 5 1 o (E (eF.all (P.take k))) (bv (eF.all (P.take k)))∧Below w.heap.size w wr) (λ_ _ i _=>n-(intOf i).toNat)
   case atStart=>exact⟨0,bU _,rfl,by simpa[eF.all]using Fh,qJ⟩
   case round=>
    obtain⟨k,hk,rfl,mO,hb⟩:=hrel;by_cases fN:k<n
    ·obtain⟨ad,A',c',x,rfl,hab,hx,aeq,asG⟩:=eF.at_ Hr.out HP.out Hn.out fN;have fL:=(hb.cell (p:=ad.add k) (by rw[sJ];omega)).trans aeq;have uM:=asG.below (hb.mono hB);have e1:=kg (eF.wK P hx);have e2:=eF.Ci P (k+1);have e3:E (eF.all (P.take k))+E x.2<=1099511627776:=by
      rw[e1.out,aX]at e2;exact jz e2 Hl.out
     have jg:=hb.size;clear e2 asG aeq hx
     go_wp2_with (at_builtin;refine Vu Yj rfl (.tmp 31) (.tmp 32) rfl rfl mO rfl uM (ra _) hb (gC _) jg aa aa ?_;intro v2 w2 JB pB Js)
     go_roundw
     case rel=>exact⟨k+1,aa,by go_num,by rw[e1.out,aX,gF];exact JB,pB⟩
     case measure=>simp[intOf];omega
    ·have hkn:P.take k=P:=fC (by have:=Hn.out;omega);have HK:=kg hkn;clear hkn
     go_wp2
     go_ret
     rw[HK.out]at mO;exact⟨_,rfl,mO,hb⟩
theorem alM{B n:Nat}{v:Value}{P:eF}(w:World)(hn:n=E P)(h:Rd w B 1 v n P.Dn)(hP:P.ok w B)(hB:B<=w.heap.size)(hlen:E P.all<=1099511627776)(Cz:E P<=1099511627776):
  Calls Tryz.prog 52 #[v] w λe w'=>∃v',e= .returned v'∧w'.ownsRow w.heap.size 5 1 v' (E P.all) (bv P.all)∧Below w.heap.size w w':=by
 have h':=h;obtain⟨A,c,rfl,hc,hl,hr⟩:=h;have Hn:=kg hn;clear hr hl hc hn
 go_enter func52,Tryz.ntmps52
 go_wp2_with (go_at_call 93;refine(N4 _ Hn.out h' hP hB hlen Cz).mono ?_;rintro e w1 ⟨v1,rfl,Fh,qJ⟩)
 go_ret
 exact⟨_,rfl,Fh,qJ⟩
theorem aqw{P:Prop}(h:P:=by(intro y hy;simp only[fj,mV,oU]at hy;rcases hy with rfl|rfl|rfl<;>exact aB)):P:=h
theorem mV:type_of% @List.not_mem_nil:= @List.not_mem_nil
theorem oU:type_of% @or_false:= @or_false
theorem akD{P:eF}{l:al}(hb:aM B w0 F 1 (.slice A n c) n P.Dn)(hP:∀x∈P,aM B w0 F 1 x.1 (E x.2) (bv x.2))(hn:n=E P)(kU:P.all=l)(hlen:E l<=1099511627776)(Cz:E P<=1099511627776):
  aZ B w0 52 [.slice A n c] F (λr L=>∃A' c',r= .slice A' (E l) c'∧L= .own 5 1 A' (E l) c' (bv l)::F):=by
 subst kU;exact dU.BK λw hw=>alM (B:=w.heap.size) w hn (hb w hw) (λx hx=>hP x hx w hw) (gC _) hlen Cz
def fX(b:Bool)(x:aJ):al:=if b=true then aS x.1++[x.2.1] else []
def mi(b:Bool)(x:aJ):al:=fX b x++fD x.2.2.1++fD x.2.2.2
def dm(b:Bool)(L:List aJ):al:=L.flatMap (mi b)
theorem nI{s:al}(h:E s<=100000000000):E (fD s)<=E s+10:=by
 have:=aV (x:=E s) aa;unfold fD;rw[aX];omega
theorem CR{b:Bool}{x:aJ}(hx:x.1<18446744073709551616):E (fX b x)<=11:=by
 have:=aV hx;unfold fX;split
 ·simp;omega
 ·simp
theorem zH{b:Bool}{x:aJ}(hx:x.1<18446744073709551616)(hw:x.w<=100000000000):E (mi b x)<=2*x.w:=by
 have h:= @CR b x hx;unfold aJ.w at hw⊢;have h1:=nI (s:=x.2.2.1) aa;have h2:=nI (s:=x.2.2.2) aa;unfold mi;rw[aX,aX];omega
theorem Uz(b:Bool)(L:List aJ)(x:aJ):dm b (L++[x])=dm b L++mi b x:=by simp[dm]
theorem UA{b:Bool}{L:List aJ}{k:Nat}(h:k<E L):dm b (L.take (k+1))=dm b (L.take k)++mi b (recAt L k):=by
 rw[aY h (0,0,[],[]),Uz];rfl
theorem Cb(x:aJ)(L:List aJ):dN (x::L)=x.w+dN L:=by simp[dN]
theorem FK:∀L:List aJ,16*E L<=dN L
 |[]=>by simp
 |x::L=>by
  have:=FK L;rw[Cb,dI];unfold aJ.w;omega
theorem v_{b:Bool}:∀{L:List aJ},(∀x∈L,x.1<18446744073709551616)->dN L<=100000000000->E (dm b L)<=2*dN L
 |[],_,_=>by simp[dm]
 |x::L,hx,hw=>by
  rw[Cb]at hw⊢;have h1:=zH (b:=b) (hx x ak) aa;have h2:=v_ (b:=b) (λy hy=>hx y wN) (by omega:dN L<=100000000000);simp only[dm,ka,aX]at h2⊢;omega
theorem atA{L:List aJ}{k:Nat}(h:k<E L):(recAt L k).w<=dN L:=by
 have h1:=pH h;have h2:=nU L (k+1);omega
theorem Mh{L:List aJ}(h:∀x∈L,x.1<18446744073709551616){k:Nat}(hk:k<E L):(recAt L k).1<18446744073709551616:=h _ (bj hk _)
theorem X1(b:Bool)(x:aJ)(hx:x.1<18446744073709551616)(hw:x.w<=100000000000):
  aZ B w0 82 [.bool b,.agg (aJ.cells x).toArray] F (λr L=>∃A' c',r= .slice A' (E (mi b x)) c'∧L= .own 5 1 A' (E (mi b x)) c' (bv (mi b x))::F):=by
 have jU:=aV hx;have hrl:= @CR b x hx;have hrb:=zH (b:=b) hx hw;have Ib:=hw;unfold aJ.w at Ib;have tT:=nI (s:=x.2.2.1) aa;have rR:=nI (s:=x.2.2.2) aa;refine fw func82 23 [0,1] ?_;refine bc ?_;refine bg λg3=>?_;refine b7 ?_;refine a_ 5 1 none (b7 ?_);refine dY (λzf zL=>∃(A5:bk) (c5:Nat),Sub zf [(3,br g3),(5,.slice A5 (E (fX b x)) c5)]∧Wk zL (.own 5 1 A5 (E (fX b x)) c5 (bv (fX b x)):: .bG g3 62 (aJ.cells x)::F)) ?_ ?_
 ·refine bF ?_;refine iH (λh6=>?_) λh6=>?_
  ·have RJ:fX b x=aS x.1++[x.2.1]:=ao h6;refine cE (.bG g3 62 (aJ.cells x)::F) ?_;refine ae 0 ?_;refine ae 1 ?_;refine ae 3 ?_;refine ae 4 ?_;refine ib 2 5 ?_ ?_
   ·refine b8 rfl rfl (jj x.1 hx) λA9 c9=>aA 5 (cX rfl (aG cB [_] rfl rfl cw aa aa) λMN=>aA 6 (fi rfl (bW cB rfl aW rfl aB cw aa aa) λx9 Hm=>?_));rw[show(aS x.1).length+1=E (fX b x) by rw[RJ];simp];refine ae 7 ?_;refine aF ?_;exact bC ⟨x9,Hm,bp,.skip (az rfl (by rw[RJ];simp[bv]) (.skip (.refl _)))⟩
   ·refine cX rfl (aG cB [_] rfl rfl cw aa aa) λMN=>aA 2 (b8 rfl rfl (jj x.1 hx) λA9 c9=>aA 6 (fi rfl (bW cB rfl aW rfl aB cw aa aa) λx9 Hm=>?_));rw[show(aS x.1).length+1=E (fX b x) by rw[RJ];simp];refine ae 7 ?_;refine aF ?_;exact bC ⟨x9,Hm,bp,az rfl (by rw[RJ];simp[bv]) (.s2 (.refl _))⟩
  ·have RJ:fX b x=[]:=aw (by simpa using h6);have hb0:E (fX b x)=0:=by rw[RJ];rfl
   refine aF ?_;exact bC ⟨none,0,bp,az (by rw[RJ];rfl) (by rw[RJ];rfl) (.refl _)⟩
 ·rintro _ _ ⟨A5,c5,hs,hp⟩;refine aT hs hp (aF ?_);refine cE (.own 5 1 A5 (E (fX b x)) c5 (bv (fX b x)):: .bG g3 62 (aJ.cells x)::F) ?_;refine ae 0 ?_;refine ae 1 ?_;refine ae 2 ?_;refine ae 4 ?_;refine ae 5 ?_;refine aA 3 (b8 rfl rfl (My _ aa) λVy c17=>aA 6 (b8 rfl rfl (My _ aa) λDZ HH=>aA 7 (cX rfl (aG fQ [_,_,_] rfl rfl cw aa aa) λA21=>aA 8 (b8 rfl rfl (akD (l:=mi b x) (P:=[(.slice A5 (E (fX b x)) c5,fX b x),(.slice Vy (E (fD x.2.2.1)) c17,fD x.2.2.1),(.slice DZ (E (fD x.2.2.2)) HH,fD x.2.2.2)]) aB aqw rfl (by simp[eF.all,mi]) (by unfold aJ.w at hrb;omega) ak) λVz Ho=>?_))));refine ae 9 ?_;refine bE ?_;refine aq (L':=.own 5 1 Vz (E (mi b x)) Ho (bv (mi b x))::F) (.cons (.s5 (.refl _))) (aF ?_);exact⟨Vz,Ho,rfl,rfl⟩
theorem J4(b:Bool)(L:List aJ)(hb:aM B w0 F 4 (.slice A (E L) c) (E L) (c_ L))(hx:∀x∈L,x.1<18446744073709551616)(hw:dN L<=100000000000):
  aZ B w0 45 [.bool b,.slice A (E L) c] F (λr K=>∃A' c',r= .slice A' (E (dm b L)) c'∧K= .own 5 1 A' (E (dm b L)) c' (bv (dm b L))::F):=by
 have hlw:=FK L;refine fw func45 21 [0,1] ?_;refine bB ?_;refine a_ 5 1 none (cY ?_);refine aD (λzf zL zm=>∃(k:Nat) (A5:bk) (c5:Nat),(k<=E L)∧E L-k=zm∧Sub zf [(0,.bool b),(5,.slice A5 (E (dm b (L.take k))) c5),(8,.slice A (E L) c),(9,ah (E L)),(10,ah k)]∧Wk zL (.own 5 1 A5 (E (dm b (L.take k))) c5 (bv (dm b (L.take k)))::F)) _ ⟨0,none,0,bU _,rfl,bp,az rfl rfl (.refl _)⟩ ?_;rintro _ _ _ ⟨k,A5,c5,hk,rfl,hs,hp⟩;refine aT hs hp (bB ?_);refine aj (λpg=>?_) λpg=>?_
 ·have hxk:=Mh hx (k:=k) aa;have Ty:=atA (L:=L) (k:=k) aa;have hrb:=zH (b:=b) hxk aa;have hws:=v_ (b:=b) (L:=L.take k) (λx h=>hx x (my h)) (by have:=nU L k;omega);have DF:=nU L k;have p6:=vZ (recAt L k);refine bB ?_;refine ab (aE (i:=k) (size:=4) underlying24 ag rfl rfl rfl aa aB) rfl ?_;refine ab (dq 4 ag rfl aB aa (aJ.cells (recAt L k)) (mu aa) rfl) rfl ?_;refine bh λg7=>?_;refine bI ?_;refine ay rfl (X1 b _ hxk aa) λVy c17=>fK (bW cB rfl aW rfl aB cw aa aa) λtP vH=>bK ?_;have e:dm b (L.take (k+1))=dm b (L.take k)++mi b (recAt L k):=UA aa;have el:E (dm b (L.take k))+E (mi b (recAt L k))=E (dm b (L.take (k+1))):=by rw[e,aX]
  rw[el];refine av ⟨_,aa,k+1,tP,vH,aa,rfl,bp,.s2 (az rfl (by rw[e,gF]) (.refl _))⟩
 ·refine cF ?_;have Bl:k=E L:=by omega
  subst Bl;rw[ki];refine aF ?_;exact⟨A5,c5,rfl,rfl⟩
def zig(d:Nat):Nat:=if d<9223372036854775808 then 2*d else 2*(18446744073709551615-d)+1
def Vw(z:Nat):Nat:=if z%2=1 then 18446744073709551615-z/2 else z/2
theorem Vx{d:Nat}(h:d<18446744073709551616):zig d<18446744073709551616:=by unfold zig;split<;>omega
theorem alJ{d:Nat}(h:d<18446744073709551616):Vw (zig d)=d:=by
 unfold zig;split
 ·unfold Vw;rw[aw aa];omega
 ·unfold Vw;rw[ao aa];omega
theorem Rv(a:Nat)(h:a<18446744073709551616):a ^^^ 18446744073709551615=18446744073709551615-a:=by
 have h1:(BitVec.ofNat 64 a ^^^ BitVec.allOnes 64).toNat=(~~~ (BitVec.ofNat 64 a)).toNat:=by rw[BitVec.xor_allOnes]
 rw[BitVec.toNat_xor,BitVec.toNat_not,BitVec.toNat_ofNat,BitVec.toNat_allOnes,jh (show a<2^64 from h)]at h1;exact h1
theorem ah'(x:Nat)(h:x<18446744073709551616):
  bits .xor .u64 (IntKind.u64.wrap ((x:Int)*2)) (IntKind.u64.wrap (-((x:Int)/9223372036854775808)))=((zig x:Nat):Int):=by
 unfold zig;by_cases hx:x<9223372036854775808
 ·rw[ao hx];have e1:IntKind.u64.wrap ((x:Int)*2)=((2*x:Nat):Int):=by show((x:Int)*2)%18446744073709551616=_;omega
  have e2:IntKind.u64.wrap (-((x:Int)/9223372036854775808))=((0:Nat):Int):=by show(-((x:Int)/9223372036854775808))%18446744073709551616=_;omega
  rw[e1,e2,u64_xor _ _ aa aa,Nat.xor_zero]
 ·rw[aw hx];have e1:IntKind.u64.wrap ((x:Int)*2)=((2*x-18446744073709551616:Nat):Int):=by show((x:Int)*2)%18446744073709551616=_;omega
  have e2:IntKind.u64.wrap (-((x:Int)/9223372036854775808))=((18446744073709551615:Nat):Int):=by show(-((x:Int)/9223372036854775808))%18446744073709551616=_;omega
  rw[e1,e2,u64_xor _ _ aa aa,Rv _ aa];omega
theorem ah_(x:Nat)(h:x<18446744073709551616):
  bits .xor .u64 ((x:Int)/2) (IntKind.u64.wrap (-(bits .and .u64 (x:Int) 1)))=((Vw x:Nat):Int):=by
 have ea:bits .and .u64 (x:Int) 1=((x%2:Nat):Int):=by
  have:=u64_and x 1 h aa;rw[Fx]at this;exact this
 rw[ea];unfold Vw;by_cases hx:x%2=1
 ·rw[ao hx,hx];have e2:IntKind.u64.wrap (-((1:Nat):Int))=((18446744073709551615:Nat):Int):=by decide+kernel
  rw[e2,show((x:Int)/2)=((x/2:Nat):Int) from by omega,u64_xor _ _ aa aa,Rv _ aa]
 ·rw[aw hx,show x%2=0 from by omega];have e2:IntKind.u64.wrap (-((0:Nat):Int))=((0:Nat):Int):=by decide+kernel
  rw[e2,show((x:Int)/2)=((x/2:Nat):Int) from by omega,u64_xor _ _ aa aa,Nat.xor_zero]
theorem zsh(x:Nat):IntKind.u64.wrap ((x:Int)*2^min (1:Int).toNat IntKind.u64.bits)=IntKind.u64.wrap ((x:Int)*2):=by
 have e:min (1:Int).toNat IntKind.u64.bits=1:=by decide
 rw[e];rfl
theorem zhi(x:Nat):(x:Int).fdiv (2^min (63:Int).toNat IntKind.u64.bits)=(x:Int)/9223372036854775808:=by
 have e:min (63:Int).toNat IntKind.u64.bits=63:=by decide
 rw[e,wW _ ax];rfl
theorem zng(x:Nat):IntKind.u64.wrap (0-(x:Int)/9223372036854775808)=IntKind.u64.wrap (-((x:Int)/9223372036854775808)):=by rw[Int.zero_sub]
theorem avX(x:Nat)(hx:x<18446744073709551616):IntKind.u64.wrap ((BitVec.ofInt IntKind.u64.bits (IntKind.u64.wrap ((x:Int)*2)) ^^^ BitVec.ofInt IntKind.u64.bits (IntKind.u64.wrap (-((x:Int)/9223372036854775808)))).toNat:Int)=((zig x:Nat):Int):=ah' x hx
set_option maxRecDepth 20000 in
theorem atF(x:Nat)(hx:x<18446744073709551616):aZ B w0 86 [.int .u64 x] F (λr L=>r= .int .u64 (zig x)∧L=F):=by
 refine fw func86 9 [0] ?_;refine bK ?_;refine ab (gk rfl rfl aa (zsh x)) rfl (aF ?_);refine ab (dv rfl rfl aa (zhi x)) rfl (ab (Wz rfl (zng x)) rfl (ab (lh rfl rfl (avX x hx)) rfl (bF ?_)));exact⟨rfl,rfl⟩
theorem zsr(x:Nat):(x:Int).fdiv (2^min (1:Int).toNat IntKind.u64.bits)=(x:Int)/2:=by
 have e:min (1:Int).toNat IntKind.u64.bits=1:=by decide
 rw[e,wW _ ax];rfl
theorem zan(x:Nat)(hx:x<18446744073709551616):IntKind.u64.wrap ((BitVec.ofInt IntKind.u64.bits (x:Int) &&& BitVec.ofInt IntKind.u64.bits 1).toNat:Int)=((x%2:Nat):Int):=by
 have:=u64_and x 1 hx aa;rw[Fx]at this;exact this
theorem avW(x:Nat):IntKind.u64.wrap (0-((x%2:Nat):Int))=IntKind.u64.wrap (-((x%2:Nat):Int)):=by rw[Int.zero_sub]
theorem zax(x:Nat)(hx:x<18446744073709551616):IntKind.u64.wrap ((BitVec.ofInt IntKind.u64.bits ((x:Int)/2) ^^^ BitVec.ofInt IntKind.u64.bits (IntKind.u64.wrap (-((x%2:Nat):Int)))).toNat:Int)=((Vw x:Nat):Int):=by
 have h:=ah_ x hx;have ea:bits .and .u64 (x:Int) 1=((x%2:Nat):Int):=zan x hx;rw[ea]at h;exact h
theorem atE(x:Nat)(hx:x<18446744073709551616):aZ B w0 295 [.int .u64 x] F (λr L=>r= .int .u64 (Vw x)∧L=F):=by
 refine fw func295 9 [0] ?_;refine bK ?_;refine ab (dv rfl rfl aa (zsr x)) rfl (aF ?_);refine ab (kE rfl rfl (zan x hx)) rfl (ab (Wz rfl (avW x)) rfl (ab (lh rfl rfl (zax x hx)) rfl (bF ?_)));exact⟨rfl,rfl⟩
def dlt(a b:Nat):Nat:=(a+(18446744073709551616-b))%18446744073709551616
theorem EI(a b:Nat):dlt a b<18446744073709551616:=rZ _ aa
theorem adw{a b:Nat}(hb:b<18446744073709551616):IntKind.u64.wrap ((a:Int)-(b:Int))=((dlt a b:Nat):Int):=by
 show((a:Int)-b)%18446744073709551616=_;unfold dlt;omega
def re:Nat->List aJ->al
 |_,[]=>[]
 |was,x::L=>aS (zig (dlt x.1 was))++re x.1 L
def uY(was:Nat)(L:List aJ):Nat:=L.foldl (λ_ x=>x.1) was
theorem I2(x:aJ):∀(L:List aJ) (was:Nat),re was (L++[x])=re was L++aS (zig (dlt x.1 (uY was L)))
 |[],was=>by simp[re,uY]
 |y::L,was=>by
  rw[mX,re,re,I2 x L y.1,bX];rfl
theorem FH(was:Nat)(L:List aJ)(x:aJ):uY was (L++[x])=x.1:=by simp[uY]
theorem Zo{L:List aJ}{k:Nat}(h:k<E L):re 0 (L.take (k+1))=re 0 (L.take k)++aS (zig (dlt (recAt L k).1 (uY 0 (L.take k)))):=by
 rw[aY h (0,0,[],[]),I2];rfl
theorem TQ{L:List aJ}{k:Nat}(h:k<E L):uY 0 (L.take (k+1))=(recAt L k).1:=by
 rw[aY h (0,0,[],[]),FH];rfl
theorem ae8{L:List aJ}(hx:∀x∈L,x.1<18446744073709551616):uY 0 L<18446744073709551616:=by
 rcases List.eq_nil_or_concat L with rfl|⟨M,x,rfl⟩
 ·simp[uY]
 ·rw[List.concat_eq_append,FH];exact hx x ak
theorem Oy(a b:Nat):E (aS (zig (dlt a b)))<=10:=aV (Vx (EI a b))
theorem Eu:∀(L:List aJ) (was:Nat),E (re was L)<=10*E L
 |[],was=>by simp[re]
 |x::L,was=>by
  have h1:=Oy x.1 was;have h2:=Eu L x.1;rw[re,aX,dI];omega
def run(x:UInt8):al->Nat
 |[]=>0
 |y::l=>if y=x then run x l+1 else 0
theorem UE(x:UInt8):∀l,run x l<=E l
 |[]=>gC _
 |y::l=>by
  have:=UE x l;unfold run;split<;>simp<;>omega
def pb:Option UInt8->al->al
 |_,[]=>[]
 |p,x::l=>if p=some x then pb (some x) l else x::(aS (1+run x l)++pb (some x) l)
theorem Et(x:UInt8):∀l,pb (some x) l=pb none (l.drop (run x l))
 |[]=>rfl
 |y::l=>by
  unfold run;by_cases h:y=x
  ·subst h;rw[ao rfl,Fw,pb,ao rfl];exact Et y l
  ·rw[aw h,rr,pb,pb,aw (by simpa using λe=>h e.symm),aw ak]
theorem N2:∀(l:al) (p:Option UInt8),E l<=1000000000->E (pb p l)<=11*E l
 |[],p,_=>by cases p<;>simp[pb]
 |x::l,p,h=>by
  simp only[dI]at h;have h1:=N2 l (some x) aa;have h2:=aV (x:=1+run x l) (by have:=UE x l;omega);rw[pb];split
  ·simp only[dI];omega
  ·simp only[dI,aX];omega
def lv(L:List aJ):al:=L.map (·.2.1)
theorem sd(L:List aJ):E (lv L)=E L:=by simp[lv]
theorem FQ(L:List aJ)(k:Nat):(recAt L k).2.1=(lv L).getD k 0:=by
 unfold recAt lv;simp only[ba,jw];cases L[k]? <;>rfl
theorem aj7(L:List aJ)(k:Nat):lv (L.drop k)=(lv L).drop k:=by simp[lv]
def kR(L:List aJ):al:=re 0 L++pb none (lv L)
theorem rL{L:List aJ}(h:E L<=1000000):E (kR L)<=21*E L:=by
 have h1:=Eu L 0;have h2:=N2 (lv L) none (by rw[sd];omega);rw[sd]at h2;rw[kR,aX];omega
theorem wg:∀(L:List aJ) (k:Nat),(c_ L).drop (k*4)=c_ (L.drop k)
 |L,0=>by simp
 |[],k+1=>by simp[c_]
 |x::L,k+1=>by
  have h:=wg L k;rw[Fw,<-h];simp only[c_,ka];rw[kH,zn (k*4) 4,<-oi];rfl
theorem Zn{l:al}(h:0<E l):pb none l=(l.getD 0 0)::(aS (1+run (l.getD 0 0) (l.drop 1))++pb none (l.drop (1+run (l.getD 0 0) (l.drop 1)))):=by
 match l,h with
 |x::l,_=>
  rw[pb,aw ak,Et];simp only[List.getD_cons_zero,Fw,rr];rw[zn 1,Fw]
theorem QA{x:UInt8}{l:al}{k:Nat}(h:k<E l):run x (l.drop k)=if l.getD k 0=x then run x (l.drop (k+1))+1 else 0:=by
 rw[dD h 0,run]
theorem Zu(L:List aJ)(hb:aM B w0 F 4 (.slice A (E L) c) (E L) (c_ L))(hx:∀x∈L,x.1<18446744073709551616)(hl:E L<=1000000):
  aZ B w0 47 [.slice A (E L) c] F (λr K=>∃A' c',r= .slice A' (E (kR L)) c'∧K= .own 5 1 A' (E (kR L)) c' (bv (kR L))::F):=by
 have hcb:=rL hl;refine fw func47 61 [0] ?_;refine bB ?_;refine a_ 5 1 none (sR ?_);refine aD (λzf zL zm=>∃(k:Nat) (A3:bk) (c3:Nat),(k<=E L)∧E L-k=zm∧Sub zf [(0,.slice A (E L) c),(3,.slice A3 (E (re 0 (L.take k))) c3),(4,.int .u64 (uY 0 (L.take k))),(8,.slice A (E L) c),(9,ah (E L)),(10,ah k)]∧Wk zL (.own 5 1 A3 (E (re 0 (L.take k))) c3 (bv (re 0 (L.take k)))::F)) _ ⟨0,none,0,bU _,rfl,bp,az rfl rfl (.refl _)⟩ ?_;rintro _ _ _ ⟨k,A3,c3,hk,rfl,hs,hp⟩;refine aT hs hp ?_;clear hs hp;refine bB ?_;refine aj (λpg=>?_) λpg=>?_
 ·have hxk:=Mh hx (k:=k) aa;have fN:=ae8 (L:=L.take k) (λx h=>hx x (my h));have uh:=Eu (L.take k) 0;have De:=List.length_take_le k L;have p6:=vZ (recAt L k);have e:=Zo (L:=L) (k:=k) aa;have e2:=TQ (L:=L) (k:=k) aa;have Ff:=Oy (recAt L k).1 (uY 0 (L.take k));have el:E (re 0 (L.take k))+E (aS (zig (dlt (recAt L k).1 (uY 0 (L.take k)))))=E (re 0 (L.take (k+1))):=by rw[e,aX]
  refine bB ?_;refine ab (aE (i:=k) (size:=4) underlying24 ag rfl rfl rfl aa aB) rfl ?_;refine ab (dq 4 ag rfl aB aa (aJ.cells (recAt L k)) (mu aa) rfl) rfl ?_;refine bh λg6=>?_;refine bO ?_;refine ab (dC rfl rfl (adw fN)) rfl (ai rfl (atF _ (EI _ _)) (ay rfl (jj _ (Vx (EI _ _))) λDZ HH=>fK (bW cB rfl aW rfl aB cw aa aa) λA21 c21=>cY ?_));refine ve [0,3,4,8,9,10] ?_;rw[el];refine av ⟨_,aa,k+1,A21,c21,aa,rfl,bp,.s2 (az rfl (by rw[e,gF]) (.refl _))⟩
 ·refine bI ?_;refine aD (λzf zL zm=>∃(M:List aJ) (m:Nat) (A0:bk) (c0:Nat) (pre:al) (A4:bk) (c4:Nat),(m=E M∧m<=E L∧aM B w0 F 4 (.slice A0 m c0) m (c_ M)∧kR L=pre++pb none (lv M))∧m=zm∧Sub zf [(0,.slice A0 m c0),(3,.slice A4 (E pre) c4)]∧Wk zL (.own 5 1 A4 (E pre) c4 (bv pre)::F)) _ ⟨L,E L,A,c,re 0 (L.take k),A3,c3,⟨rfl,gC _,hb,by rw[fC aa];rfl⟩,rfl,bp,.refl _⟩ ?_;rintro _ _ _ ⟨M,m,A0,c0,pre,A4,c4,⟨hm,Aj,RN,Fi⟩,rfl,hs,hp⟩;refine aT hs hp ?_;clear hs hp;have mP:E pre<=E (kR L):=by rw[Fi,aX];omega
  have hlv:E (lv M)=m:=by rw[sd,hm]
  refine bK ?_;refine aj (λkG=>?_) λkG=>?_
  ·refine bz ?_;refine aD (λzf zL zm=>∃(i:Nat),(1<=i∧i<=m∧run ((lv M).getD 0 0) ((lv M).drop 1)=(i-1)+run ((lv M).getD 0 0) ((lv M).drop i))∧m-i=zm∧Sub zf [(0,.slice A0 m c0),(3,.slice A4 (E pre) c4),(7,ah i)]∧Wk zL (.own 5 1 A4 (E pre) c4 (bv pre)::F)) _ ⟨1,⟨gC _,aa,aa⟩,rfl,bp,.refl _⟩ ?_;rintro _ _ _ ⟨i,⟨hi1,him,tU⟩,rfl,hs,hp⟩;refine aT hs hp ?_;clear hs hp;refine bE ?_;refine Dw 16 43 [0,3,7] ((i:Int)<m∧((recAt M i).2.1.toNat:Int)=(recAt M 0).2.1.toNat) ?_ ?_
   ·refine bF ?_;refine iP rfl rfl rfl (λCw=>?_) (λCw=>?_)
    ·refine bB ?_;refine bL (cU underlying62 rfl ag rfl aB aa rfl) rfl (aF ?_);refine bL (eU ag rfl aB aa ((qW aa ax).trans rfl)) rfl (bE ?_);refine bL (aE (i:=0) (size:=4) underlying24 ag rfl rfl rfl aa aB) rfl (aF ?_);refine bL (cU underlying62 rfl ag rfl aB aa rfl) rfl (aF ?_);refine bL (eU ag rfl aB aa ((qW aa ax).trans rfl)) rfl (bE ?_);exact rj C6
    ·refine bz ?_;exact rj C6
   ·refine bc ?_;refine aj (λZ4=>?_) λZ4=>?_
    ·have hq:(lv M).getD i 0=(lv M).getD 0 0:=by rw[<-FQ,<-FQ];exact mR.1 aa
     have hs:=QA (x:=(lv M).getD 0 0) (l:=lv M) (k:=i) aa;rw[ao hq]at hs;refine bO ?_;refine av ⟨_,aa,i+1,⟨aa,aa,aa⟩,rfl,bp,.refl _⟩
    ·have hz:run ((lv M).getD 0 0) ((lv M).drop i)=0:=by
      by_cases hi:i<m
      ·rw[QA aa,aw (λhq=>Z4 ⟨aa,by rw[FQ,FQ,hq]⟩)]
      ·rw[mU aa];rfl
     have hch:=Zn (l:=lv M) aa;rw[tU,hz,show 1+(i-1+0)=i by omega,<-aj7]at hch;have hni:=aV (x:=i) aa;have au2:=FQ M 0;have hcut:=RN.cut (k:=i) aa;rw[wg]at hcut;refine bO ?_;refine ab (aE (i:=0) (size:=4) underlying24 ag rfl rfl rfl aa aB) rfl ?_;refine ab (cU underlying62 rfl ag rfl aB aa rfl) rfl ?_;refine ab (eU ag rfl aB aa ((qW aa ax).trans rfl)) rfl ?_;refine dL cB rfl rfl rfl rfl rfl (λ_=>rfl) aW aa aa ?_;intro _ A52 c52;refine bc ?_;refine ay rfl (jj i aa) λA55 c55=>fK (bW cB rfl aW rfl aB cw aa aa) λA56 c56=>bB ?_;refine ab (bY (i:=i) (size:=4) underlying24 ag rfl rfl rfl aa) rfl (aF ?_);refine ve [0,3] ?_;refine aF ?_;have el:E pre+1+E (aS i)=E (pre++((lv M).getD 0 0::aS i)):=by simp;omega
     rw[el];refine av ⟨_,aa,M.drop i,m-i,_,_,pre++((lv M).getD 0 0::aS i),A56,c56,⟨by rw[iG,hm],aa,hcut,by rw[Fi,hch];simp⟩,rfl,bp,.skip (az rfl (by simp[bv,au2]) (.refl _))⟩
  ·refine cF ?_;have hM:M=[]:=mS aa;subst hM;have auM:kR L=pre:=by rw[Fi];simp[lv,pb]
   rw[auM];refine aF ?_;exact⟨A4,c4,rfl,rfl⟩
theorem BY{l l2:al}(h1:aM B w0 F 1 (.slice A n c) n (bv l))(h2:aM B w0 F 1 (.slice A2 n2 c2) n2 (bv l2)):
  aZ B w0 11 [.slice A n c,.slice A2 n2 c2] F (λr L=>r= .bool (decide (l=l2))∧L=F):=by
 refine fw func11 10 [0,1] ?_;refine bK ?_;refine ab (pT underlying27 underlying5 underlying9 rfl aB) rfl (aF ?_);refine ab (pT underlying27 underlying5 underlying9 rfl aB) rfl (bB ?_);exact⟨rfl,rfl⟩
theorem b_1{P:Prop}(h:P:=by(first|rfl|exact dS (by first|exact .inl (by omega)|exact .inr (.inl jU)|exact⟨λh=>.inr (.inr (by omega)),λh=>by rcases h with h|h|h<;>first|omega|exact absurd h jU⟩)|exact dR (by first|exact .inl (by omega)|exact .inr (.inl jU)|exact⟨λh=>.inr (.inr (by omega)),λh=>by rcases h with h|h|h<;>first|omega|exact absurd h jU⟩)|exact dG (by first|exact .inl (by omega)|exact .inr (.inl jU)|exact⟨λh=>.inr (.inr (by omega)),λh=>by rcases h with h|h|h<;>first|omega|exact absurd h jU⟩)|exact kr (by first|exact .inl (by omega)|exact .inr (.inl jU)|exact⟨λh=>.inr (.inr (by omega)),λh=>by rcases h with h|h|h<;>first|omega|exact absurd h jU⟩))):P:=h
def u5(x:aJ):Prop:=4000<E x.2.2.1∨4000<E x.2.2.2
instance (x:aJ):Decidable (u5 x):=inferInstanceAs (Decidable (_∨_))
theorem aoM(x:aJ):aZ B w0 80 [.agg (aJ.cells x).toArray] F (λr L=>r= .bool (decide (u5 x))∧L=F):=by
 refine fw func80 13 [0] ?_;refine bc ?_;refine bg λg1=>?_;refine bF ?_;refine bR 10 12 [] ((4000:Int)<(E x.2.2.1:Int)∨(4000:Int)<(E x.2.2.2:Int)) ?_ ?_
 ·refine bF ?_;refine aI rfl rfl rfl (λh7=>?_) (λh7=>?_)
  ·refine bK ?_;exact aL C6
  ·refine b7 ?_;exact aL C6
 ·refine b7 ?_;refine aq (L':=F) (.skip (.refl _)) (aF ?_);exact⟨by rw[zj.2 (show((4000:Int)<(E x.2.2.1:Int)∨(4000:Int)<(E x.2.2.2:Int))↔u5 x by unfold u5;omega)],rfl⟩
theorem ajO(L:List aJ)(hb:aM B w0 F 4 (.slice A (E L) c) (E L) (c_ L))(hl:E L<=1000000):
  aZ B w0 142 [.slice A (E L) c,.func (.func 80) #[] #[]] F (λr K=>∃v:Int,r=ah v∧K=F∧(0<=v↔∃x∈L,u5 x)):=by
 refine fw func142 19 [0,1] ?_;refine ei ?_;refine aD (λzf zL zm=>∃(k:Nat),(k<=E L∧∀i,i<k->¬u5 (recAt L i))∧E L-k=zm∧Sub zf [(0,.slice A (E L) c),(1,.func (.func 80) #[] #[]),(7,ah (E L)),(8,ah k)]∧Wk zL (F)) _ ⟨0,⟨bU _,λi h=>absurd h aa⟩,rfl,bp,.refl _⟩ ?_;rintro _ _ _ ⟨k,⟨hk,Pb⟩,rfl,hs,hp⟩;refine aT hs hp (bB ?_);refine aj (λh9=>?_) λh9=>?_
 ·refine jt ?_;refine ab (aE (i:=k) (size:=4) underlying24 ag rfl rfl rfl aa aB) rfl ?_;refine ab (dq 4 ag rfl aB aa (aJ.cells (recAt L k)) (mu aa) rfl) rfl ?_;refine vz at7 rfl rfl (aoM (recAt L k)) rfl ?_;rintro _ _ ⟨rfl,cO⟩;obtain rfl:=cO.symm;refine bc ?_;refine aj (λlf=>?_) λlf=>?_
  ·refine cY ?_;exact⟨_,rfl,rfl,by constructor;exact λ_=>⟨_,bj (show k<E L by omega) (0,0,[],[]),lf⟩;exact λ_=>aa⟩
  ·refine bI ?_;refine av ⟨_,aa,k+1,⟨aa,λi h=>by rcases Nat.lt_succ_iff_lt_or_eq.1 h with h|h;exact Pb i h;exact h▸lf⟩,rfl,bp,.refl _⟩
 ·refine cF ?_;refine⟨_,rfl,rfl,λh=>absurd h aa,λ⟨x,hx,hlx⟩=>?_⟩;obtain⟨i,hi,rfl⟩:=ke hx;have:=Pb i aa;unfold recAt at this;rw[ba,fc hi]at this;exact absurd hlx this
theorem Sy(L:List aJ)(hb:aM B w0 F 4 (.slice A (E L) c) (E L) (c_ L))(hl:E L<=1000000):
  aZ B w0 79 [.slice A (E L) c,.func (.func 80) #[] #[]] F (λr K=>r= .bool (decide (∃x∈L,u5 x))∧K=F):=by
 refine fw func79 9 [0,1] ?_;refine bO ?_;refine be aq8 rfl (ajO L hb hl) rfl ?_;rintro _ _ ⟨v,rfl,cO,hv⟩;obtain rfl:=cO.symm;refine bB ?_;exact⟨by rw[zj.2 hv],rfl⟩
def cV(L:List aJ):Int:=if 20000<E L∨(∃x∈L,u5 x)∨1048576<dN L then 6 else 0
theorem Hh:∀{L:List aJ},(¬∃x∈L,u5 x)->dN L<=8016*E L
 |[],_=>by simp[dN]
 |x::L,h=>by
  have h1:=Hh (L:=L) λ⟨y,hy,hl⟩=>h ⟨y,wN,hl⟩;have h2:¬u5 x:=λhl=>h ⟨x,ak,hl⟩;unfold u5 at h2;rw[Cb,dI];unfold aJ.w;omega
theorem pF(L:List aJ)(hb:aM B w0 F 4 (.slice A (E L) c) (E L) (c_ L)):
  aZ B w0 42 [.slice A (E L) c] F (λr K=>r=ah (cV L)∧K=F):=by
 refine fw func42 15 [0] ?_;refine bK ?_;refine bR 12 14 [] (20000<E L∨(∃x∈L,u5 x)∨1048576<dN L) ?_ ?_
 ·refine b7 ?_;refine aI rfl rfl rfl (λh6=>?_) (λh6=>?_)
  ·refine bc ?_;refine ai rfl (Sy L hb aa) (bc ?_);refine aI rfl rfl rfl (λjU=>?_) (λjU=>?_)
   ·refine bc ?_;refine ai rfl (ah0 L hb (by have:=Hh jU;omega) aa) (bE ?_);exact aL b_1
   ·refine bE ?_;exact aL b_1
  ·refine bI ?_;exact aL b_1
 ·refine bc ?_;refine aj (λku=>?_) λku=>?_
  ·refine bK ?_;exact⟨by rw[cV,ao ku],rfl⟩
  ·refine bO ?_;exact⟨by rw[cV,aw ku],rfl⟩
def bD(l:bf):cZ:=l.map λ(n:Nat)=>Value.int .i64 (n:Int)
@[simp] theorem amx(l k:bf):bD (l++k)=bD l++bD k:=by simp[bD]
@[simp] theorem amy(l:bf):E (bD l)=E l:=by simp[bD]
theorem afx(l:bf):∀u∈bD l,u.oneCell'=true:=by
 intro u hu;obtain⟨b,_,rfl⟩:=pC.1 hu;rfl
theorem fO{l:bf}{k:Nat}(h:k<E l):(bD l)[k*1]? =some (ah (l.getD k 0:Nat)):=by
 simp[bD,List.getD,fc h]
theorem pM{P:Prop}(h:P:=by(exact dG (by first|omega|simp_all))):P:=h
theorem wy{P:Prop}(h:P:=by(exact dS (by first|omega|simp_all))):P:=h
theorem tC{P:Prop}(h:P:=by(simp[bD])):P:=h
theorem CM:type_of% @List.drop_length:= @List.drop_length
def tS(S:Nat):Nat->Nat->bf->bf
 |sB,_,[]=>[sB]
 |sB,hv,n::l=>if hv+n<=S then tS S (sB+1) (hv+n) l else sB::tS S 1 n l
def jT(S:Nat):bf->bf
 |[]=>[]
 |n::l=>tS S 1 n l
def lens(b:Bool)(L:List aJ):bf:=L.map λx=>E (mi b x)
theorem eK(b:Bool)(L:List aJ):E (lens b L)=E L:=by simp[lens]
theorem aaG{b:Bool}{L:List aJ}{k:Nat}(h:k<E L):(lens b L).drop k=E (mi b (recAt L k))::(lens b L).drop (k+1):=by
 rw[dD (l:=lens b L) (by rw[eK];exact h) 0];congr 1;unfold recAt lens;simp only[ba,jw,fc h];rfl
theorem ajp{S sB hv n:Nat}{l:bf}(h:hv+n<=S):tS S sB hv (n::l)=tS S (sB+1) (hv+n) l:=by rw[tS,ao h]
theorem aea{S sB hv n:Nat}{l:bf}(h:¬hv+n<=S):tS S sB hv (n::l)=sB::jT S (n::l):=by rw[tS,aw h];rfl
theorem dU.forget{P:Program}{B:Nat}{w0:World}{f:FuncId}{args:cZ}{F:aR}{n:Nat}{xs:cZ}{e:TypeId}(h:dU P B w0 f args F (λr L=>∃A' c',r= .slice A' n c'∧L= .own e 1 A' n c' xs::F)):dU P B w0 f args F (λr L=>∃A' c',r= .slice A' n c'∧L=F):=λw hw=>
 (h w hw).mono λe w' ⟨v,L',he,⟨A',c',hr,hL⟩,hs⟩=>by subst hL;exact⟨v,F,he,⟨A',c',hr,rfl⟩,hs.tail⟩
theorem ad9(size:Int)(b:Bool)(L:List aJ)(hb:aM B w0 F 4 (.slice A (E L) c) (E L) (c_ L))(hx:∀x∈L,x.1<18446744073709551616)(hw:dN L<=1000000000)(S:Nat)(hS:(S:Int)=max 1 size)(hS2:S<=9223372036854775807):
  aZ B w0 43 [ah size,.bool b,.slice A (E L) c] F (λr K=>∃A' c',r= .slice A' (E (jT S (lens b L))) c'∧K= .own 3 1 A' (E (jT S (lens b L))) c' (bD (jT S (lens b L)))::F):=by
 have hlw:=FK L;have xB:=eK b L;refine fw func43 49 [0,1,2] ?_;refine bB ?_;refine a_ 3 1 none (sR ?_);refine aD (λzf zL zm=>∃(k:Nat) (o:bf) (hv:Nat) (A7:bk) (c7:Nat),(k<=E L∧hv<=2*dN (L.take k)∧E o<=k∧((k=0∧o=[])∨(∃op sB,o=op++[sB]∧sB<=k∧jT S (lens b L)=op++tS S sB hv ((lens b L).drop k))))∧E L-k=zm∧Sub zf [(0,ah size),(1,.bool b),(7,.slice A7 (E o) c7),(8,ah hv),(12,.slice A (E L) c),(13,ah (E L)),(14,ah k)]∧Wk zL (.own 3 1 A7 (E o) c7 (bD o)::F)) _ ⟨0,[],0,none,0,⟨bU _,bU _,gC _,.inl ⟨rfl,rfl⟩⟩,rfl,bp,az rfl rfl (.refl _)⟩ ?_;rintro _ _ _ ⟨k,o,hv,A7,c7,⟨hk,hhv,LA,hG⟩,rfl,hs,hp⟩;refine aT hs hp (bB ?_);refine aj (λkF=>?_) λkF=>?_
 ·have hxk:=Mh hx (k:=k) aa;have Ty:=atA (L:=L) (k:=k) aa;have hrb:=zH (b:=b) hxk aa;have hwt:=pH (L:=L) (k:=k) aa;have DF:=nU L (k+1);have p6:=vZ (recAt L k);have y8:=aaG (b:=b) (L:=L) (k:=k) aa;obtain⟨q,hq⟩:=cK (E (mi b (recAt L k)));rw[<-hq]at hrb y8;refine bB ?_;refine ab (aE (i:=k) (size:=4) underlying24 ag rfl rfl rfl aa aB) rfl ?_;refine ab (dq 4 ag rfl aB aa (aJ.cells (recAt L k)) (mu aa) rfl) rfl ?_;refine bh λg10=>?_;refine bI ?_;refine ay rfl ((X1 b _ hxk aa).forget) λDZ HH=>aF ?_;rw[<-hq];refine bE ?_;refine dY (λzf zL=>∃(op:bf) (sB Xi:Nat) (A8:bk) (c8:Nat),(Xi+q<=2*dN (L.take (k+1))∧sB<=k∧E op<=k∧jT S (lens b L)=op++tS S (sB+1) (Xi+q) ((lens b L).drop (k+1)))∧Sub zf [(0,ah size),(1,.bool b),(7,.slice A8 (E op+1) c8),(8,ah Xi),(11,ah q),(12,.slice A (E L) c),(13,ah (E L)),(14,ah k)]∧Wk zL (.own 3 1 A8 (E op+1) c8 (bD op++[ah sB])::F)) ?_ ?_
  ·refine bc ?_;refine bR 11 32 [0,1,7,8,11,12,13,14] ((E o:Int)=0∨max 1 size<(hv:Int)+q) ?_ ?_
   ·refine b7 ?_;refine aI rfl rfl rfl (λwS=>?_) (λwS=>?_)
    ·refine bK ?_;refine ab (K6 rfl rfl) rfl (bE ?_);exact aL pM
    ·refine bB ?_;exact aL wy
   ·refine bc ?_;refine aj (λCw=>?_) λCw=>?_
    ·refine bE ?_;refine dL fT rfl rfl rfl rfl rfl (λ_=>rfl) aW aa aa ?_;intro _ Cg Zh;refine bB ?_;have hG2:jT S (lens b L)=o++tS S (0+1) (0+q) ((lens b L).drop (k+1)):=by
      rcases hG with⟨h1,h2⟩|⟨op,sB,h1,h2,h3⟩
      ·subst h1;subst h2;have:lens b L=q::(lens b L).drop 1:=by rw[<-y8];rfl
       conv=>lhs;rw[this]
       simp[jT]
      ·rw[h3,y8,aea (by(have:E o≠0:=(by simp[h1]);omega)),h1];simp[jT]
     exact bC ⟨o,0,0,Cg,Zh,⟨aa,bU _,LA,hG2⟩,bp,.skip (.refl _)⟩
    ·obtain⟨op,sB,ho,Th,hG3⟩:∃op sB,o=op++[sB]∧sB<=k∧jT S (lens b L)=op++tS S sB hv ((lens b L).drop k):=by
      rcases hG with⟨h1,h2⟩|h
      ·subst h2;exact absurd (Or.inl rfl) Cw
      ·exact h
     rw[y8,ajp aa]at hG3;have asC:E o=E op+1:=by rw[ho];simp
     refine aF ?_;exact bC ⟨op,sB,hv,A7,c7,⟨aa,Th,aa,hG3⟩,bp,.skip (az asC (by subst ho;simp[bD]) (.refl _))⟩
  ·rintro _ _ ⟨op,sB,Xi,A8,c8,⟨hh2,hcn,hop,hGG⟩,hs,hp⟩;refine aT hs hp (bF ?_);refine ab (dC rfl rfl (r:=(E op:Int)) ((bq aa aa).trans aa)) rfl (ab (aE (i:=E op) (size:=1) underlying53 ag rfl rfl rfl aa aB) rfl ?_);refine ab (au (v:=ah sB) ag rfl aB aa tC) rfl (aF ?_);refine ab (aE (i:=E op) (size:=1) underlying53 ag rfl rfl rfl aa aB) rfl (jt ?_);have el:E op+1=E (op++[sB+1]):=by simp
   rw[el];refine av ⟨_,aa,k+1,op++[sB+1],Xi+q,A8,c8,⟨aa,aa,bT,.inr ⟨op,sB+1,rfl,aa,hGG⟩⟩,rfl,bp,az rfl (by rw[cH,Mp _ _ _ _ ak];simp[bD]) (.refl _)⟩
 ·refine cF ?_;have Bl:k=E L:=by omega
  have hoG:o=jT S (lens b L):=by
   rcases hG with⟨h1,h2⟩|⟨op,sB,h1,h2,h3⟩
   ·have:lens b L=[]:=mS aa;rw[this,h2];rfl
   ·rw[h3,mU aa,h1];rfl
  rw[<-hoG];refine aF ?_;exact⟨A7,c7,rfl,rfl⟩
def D3(S:Nat):bf->bf->Prop
 |l,[]=>l=[]
 |l,n::g=>1<=n∧n<=E l∧((l.take n).sum<=S∨n=1)∧(n<E l->S<(l.take n).sum+l.getD n 0)∧D3 S (l.drop n) g
theorem E1(S:Nat):∀(l p:bf) (hv:Nat),1<=E p->hv=p.sum->(hv<=S∨E p=1)->D3 S (p++l) (tS S (E p) hv l)
 |[],p,hv,h1,h2,h3=>by
  rw[tS,gl];exact⟨h1,gC _,by rw[ki,<-h2];exact h3,λh=>absurd h (Nat.lt_irrefl _),by rw[CM];rfl⟩
 |n::l,p,hv,h1,h2,h3=>by
  rw[tS];split
  ·rename_i h;have:=E1 S l (p++[n]) (hv+n) ak (by rw[w7,h2];simp) (.inl h);rw[aX,qM,bX]at this;exact this
  ·rename_i h;refine⟨h1,ak,by rw[zh,<-h2];exact h3,λ_=>?_,?_⟩
   ·rw[zh,<-h2];simp[List.getD];omega
   ·rw[CF];exact E1 S l [n] n ak ak (.inr rfl)
theorem kT(S:Nat):∀l,D3 S l (jT S l)
 |[]=>rfl
 |n::l=>E1 S l [n] n ak ak (.inr rfl)
theorem Lu(S:Nat):∀(l:bf) (sB hv:Nat),E (tS S sB hv l)<=E l+1
 |[],_,_=>by simp[tS]
 |n::l,sB,hv=>by
  rw[tS];split
  ·have:=Lu S l (sB+1) (hv+n);simp;omega
  ·have:=Lu S l 1 n;simp;omega
theorem nD(S:Nat):∀l,E (jT S l)<=E l
 |[]=>by simp[jT]
 |n::l=>by have:=Lu S l 1 n;simp[jT];omega
theorem Gw(b:Bool):∀L,E (dm b L)=(lens b L).sum
 |[]=>rfl
 |x::L=>by
  have h:=Gw b L;unfold dm lens at h⊢;rw[ka,aX,h];simp
theorem Kt:∀(L:List aJ) (k:Nat),dN (L.drop k)<=dN L:=λL k=>by
 have h:dN L=dN (L.take k)+dN (L.drop k):=by
  rw[dN,dN,dN,<-w7,<-jx,jd]
 omega
theorem BX:∀(L:List aJ) (k:Nat),(c_ L).take (k*4)=c_ (L.take k)
 |L,0=>by simp[c_]
 |[],k+1=>by simp[c_]
 |x::L,k+1=>by
  have h:=BX L k;rw[r7];simp only[c_,ka]at h⊢;rw[<-h,kH,zn (k*4) 4,PG,fC (by simp[aJ.cells])];simp[aJ.cells]
def Ke(b:Bool)(s:Cs):Cs:=if b=true then s.mz.e_ else s
def et(b:Bool)(s:Cs):aJ×Cs:=
 ((if b=true then s.num else 0,if b=true then s.mz.byte else 0,(Ke b s).text 4000,((Ke b s).eT 4000).text 4000),((Ke b s).eT 4000).eT 4000)
def oY(b:Bool):Nat->Cs->List aJ->List aJ×Int
 |0,_,out=>(out,0)
 |f+1,s,out=>if s.left=0 then (out,0) else if (et b s).2.e≠0 then ([],(et b s).2.e) else oY b f (et b s).2 (out++[(et b s).1])
theorem cu.Ke{b:Bool}{s:Cs}(h:cu s):cu (Ke b s):=by
 unfold Proofs.YtaodmbolhoafcaaGreatDoor.Ke;split
 ·exact h.mz.e_
 ·exact h
theorem cu.et{b:Bool}{s:Cs}(h:cu s):cu (et b s).2:=h.Ke.eT.eT
theorem Ma(s:Cs):s.mz.b=s.b:=Cs.cQ _ _ _
theorem KP(s:Cs):s.e_.b=s.b:=Cs.cQ _ _ _
theorem wm(s:Cs)(m:Int):(s.eT m).b=s.b:=Cs.cQ _ _ _
theorem agO(b:Bool)(s:Cs):(Ke b s).b=s.b:=by unfold Ke;split<;>simp[Ma,KP]
theorem akN(b:Bool)(s:Cs):(et b s).2.b=s.b:=by unfold et;simp[wm,agO]
theorem agv(b:Bool)(s:Cs):∃a e,(et b s).2=⟨s.b,a,e⟩:=⟨_,_,by rw[<-akN b s]⟩
def aJ.fits(x:aJ):Prop:=x.1<18446744073709551616∧E x.2.2.1<=4000∧E x.2.2.2<=4000
theorem abl{b:Bool}{s:Cs}(h:(et b s).2.e=0):oE s (et b s).2 (mi b (et b s).1)∧(et b s).1.fits∧(b=false->(et b s).1.1=0∧(et b s).1.2.1=0):=by
 obtain⟨h2,l2⟩:=Cs.zQ (s:=(Ke b s).eT 4000) h;obtain⟨h1,l1⟩:=Cs.zQ (s:=Ke b s) h2.e0;cases b with
 |false=>
  refine⟨?_,⟨?_,?_,?_⟩,λ_=>⟨rfl,rfl⟩⟩
  ·have:=h1.trans h2;simpa[mi,fX,et,Ke]using this
  ·simp[et]
  ·simp only[et];omega
  ·simp only[et];omega
 |true=>
  have h0:(s.mz.e_).e=0:=h1.e0;have hb:=Cs.acX h0;obtain⟨hn,ln⟩:=Cs.akf hb.e0;refine⟨?_,⟨?_,?_,?_⟩,λh=>kC⟩
  ·have:=((hn.trans hb).trans h1).trans h2;simpa[mi,fX,et,Ke]using this
  ·simpa[et]using ln
  ·simp only[et];omega
  ·simp only[et];omega
def norm(b:Bool)(x:aJ):aJ:=if b=true then x else (0,0,x.2.2.1,x.2.2.2)
theorem agu{b:Bool}{s:Cs}{x:aJ}{r:al}(h0:s.e=0)(hx:x.fits)(hr:s.rest=mi b x++r):(et b s).1=norm b x∧oE s (et b s).2 (mi b x):=by
 obtain⟨JD,Xl,hx3⟩:=hx;have hm:(4000:Int)<=9223372036854775807:=by decide
 cases b with
 |false=>
  have uk:s.rest=fD x.2.2.1++(fD x.2.2.2++r):=by rw[hr];simp[mi,fX]
  obtain⟨t1,d1⟩:=Cs.sp (m:=4000) h0 aa hm uk;obtain⟨t2,d2⟩:=Cs.sp (m:=4000) d1.e1 aa hm (d1.cM uk);refine⟨?_,?_⟩
  ·simp only[et,norm,Ke];simp[t1,t2]
  ·have:=d1.trans d2;simpa[et,Ke,mi,fX]using this
 |true=>
  have uk:s.rest=aS x.1++(x.2.1::(fD x.2.2.1++(fD x.2.2.2++r))):=by rw[hr];simp[mi,fX]
  obtain⟨n1,dn⟩:=Cs.XO h0 JD uk;have wU:=dn.cM uk;obtain⟨b1,db⟩:=Cs.mE dn.e1 wU;have hr3:=db.cM (p:=[x.2.1]) wU;obtain⟨t1,d1⟩:=Cs.sp (m:=4000) db.e1 aa hm hr3;obtain⟨t2,d2⟩:=Cs.sp (m:=4000) d1.e1 aa hm (d1.cM hr3);refine⟨?_,?_⟩
  ·simp only[et,norm,Ke];simp[t1,t2,n1,b1]
  ·have:=((dn.trans db).trans d1).trans d2;simpa[et,Ke,mi,fX]using this
theorem Qp(b:Bool)(x:aJ):2<=E (mi b x):=by
 have h1:=Ox x.2.2.1;have h2:=Ox x.2.2.2;unfold mi;rw[aX,aX];omega
theorem ox(s:Cs):E s.rest=s.left:=by simp[Cs.rest,Cs.left]
theorem GF{b:Bool}{s:Cs}(h:(et b s).2.e=0):(et b s).2.left+2<=s.left:=by
 have h1:=(abl h).1.rest;have h2:=Qp b (et b s).1;have:=dQ List.length h1;rw[aX,ox,ox]at this;omega
theorem BV{b:Bool}:∀(f:Nat) (L:List aJ) (s:Cs) (out:List aJ),s.e=0->s.left<f->(∀x∈L,x.fits)->s.rest=dm b L->oY b f s out=(out++L.map (norm b),0)
 |0,L,s,out,_,hf,_,_=>absurd hf aa
 |f+1,[],s,out,h0,hf,_,hr=>by
  have:s.left=0:=by rw[<-ox,hr];rfl
  unfold oY;rw[ao this];simp
 |f+1,x::L,s,out,h0,hf,hx,hr=>by
  have uk:s.rest=mi b x++dm b L:=by rw[hr];simp[dm]
  obtain⟨h1,h2⟩:=agu h0 (hx x ak) uk;have hl:¬s.left=0:=by
   have:=Qp b x;rw[<-ox,uk,aX];omega
  have he:(et b s).2.e=0:=h2.e1;have aeG:=GF he;unfold oY;rw[aw hl,aw Ns,BV f L _ _ he aa (λy hy=>hx y wN) (h2.cM uk),h1];simp
theorem agi(b:Bool)(ho:cu s)(hb:aM B w0 F 1 (.slice A (E s.b) c) (E s.b) (bv s.b)):
  aZ B w0 273 [.agg #[br g],.bool b] (Cv g A c s::F) (λr L=>r= .agg (aJ.cells (et b s).1).toArray∧L=Cv g A c (et b s).2::F):=by
 have qJ:∀(s':Cs),s'.b=s.b->aM B w0 F 1 (.slice A (E s'.b) c) (E s'.b) (bv s'.b):=λs' h=>by rw[h];exact hb
 refine fw func273 23 [0,1] ?_;refine bc ?_;refine bg λg2=>?_;refine bh λg4=>?_;refine bc ?_;refine dY (λzf zL=>Sub zf [(2,br g2),(4,br g4)]∧Wk zL (Cv g A c (Ke b s):: .bG g4 62 [.int .u64 (if b=true then s.num else 0:Nat),.int .u8 ((if b=true then s.mz.byte else 0:UInt8).toNat:Int),.string ⟨#[]⟩,.string ⟨#[]⟩]:: .bG g2 366 [br g]::F)) ?_ ?_
 ·refine bF ?_;refine iH (λh5=>?_) λh5=>?_
  ·subst h5;refine b7 ?_;refine ai rfl ((ada ho (.cons (.cons hb))).perm Dl) (bI ?_);refine ai rfl (o_ ho.mz (.cons (.cons (qJ _ (Ma s))))) (bE ?_);exact bC ⟨bp,.refl _⟩
  ·subst h5;refine aF ?_;exact bC ⟨bp,.dK Dl⟩
 ·rintro _ _ ⟨hs,hp⟩;refine aT hs hp (b7 ?_);refine ai rfl (Dt ho.Ke (.cons (.cons (qJ _ (agO b s)))) aa aa) (bK ?_);refine ai rfl (Dt ho.Ke.eT (.cons (.cons (qJ _ ((wm _ _).trans (agO b s))))) aa aa) (de ?_);refine J_ rfl rfl ag aW gV (.cons (.s2 (.refl _))) ?_;exact⟨rfl,rfl⟩
def rE(b:Bool)(l:al):List aJ×Int:=oY b (E l+1) ⟨l,0,0⟩ []
theorem BU{b:Bool}{f:Nat}{s:Cs}{o:List aJ}(h:s.left=0):oY b (f+1) s o=(o,0):=by unfold oY;rw[ao h]
theorem BT{b:Bool}{f:Nat}{s:Cs}{o:List aJ}(h:¬s.left=0)(he:(et b s).2.e≠0):oY b (f+1) s o=([],(et b s).2.e):=by unfold oY;rw[aw h,ao he]
theorem Gv{b:Bool}{f:Nat}{s:Cs}{o:List aJ}(h:¬s.left=0)(he:¬(et b s).2.e≠0):oY b (f+1) s o=oY b f (et b s).2 (o++[(et b s).1]):=by conv=>lhs;unfold oY;rw[aw h,aw he]
theorem abe(o:List aJ)(x:aJ):c_ (o++[x])=c_ o++aJ.cells x:=by simp[c_]
theorem Qn{l:al}(b:Bool)(hb:fo B w0 F A c l)(hl:E l<=1000000000):
  aZ B w0 231 [.bool b,.slice A (E l) c] F (λr L=>∃A' c',r= .tuple #[.slice A' (E (rE b l).1) c',ah (rE b l).2]∧L= .own 62 4 A' (E (rE b l).1) c' (c_ (rE b l).1)::F):=by
 refine fw func231 31 [0,1] ?_;refine bO ?_;refine fh rfl (nC hb aa) λg11 uu ya=>ab (eZ [(0,_)] [_] rfl rfl ag) rfl (bh λg6=>?_);refine b7 ?_;refine a_ 62 4 none (bB ?_);refine aD (λzf zL zm=>∃(a:Nat) (o:List aJ) (A7:bk) (c7:Nat) (m:Nat),(a<=E l∧E l-a<m∧E o+(E l-a)<=E l∧oY b m ⟨l,a,0⟩ o=rE b l)∧m=zm∧Sub zf [(0,.bool b),(6,br g6),(7,.slice A7 (E o) c7)]∧Wk zL (Cv g11 uu ya ⟨l,a,0⟩:: .own 62 4 A7 (E o) c7 (c_ o):: .bG g6 366 [br g11]:: .own 5 1 uu (E l) ya (bv l)::F)) _ ⟨0,[],none,0,E l+1,⟨bU _,aa,ak,rfl⟩,rfl,bp,.dK Dl⟩ ?_;rintro _ _ _ ⟨a,o,A7,c7,m,⟨Hu,ham,LA,hG⟩,rfl,hs,hp⟩;refine aT hs hp ?_;clear hs hp;obtain⟨f,rfl⟩:∃f,m=f+1:=⟨m-1,aa⟩
 have ho:cu ⟨l,a,0⟩:=⟨Hu,dh⟩
 have amj:Cs.left ⟨l,a,0⟩=E l-a:=rfl;obtain⟨a',e',Au⟩:=agv b ⟨l,a,0⟩;have p6:=vZ (et b ⟨l,a,0⟩).1;refine bF ?_;refine ai rfl (KS ho aB) (bE ?_);refine aj (λlf=>?_) λlf=>?_
 ·refine bI ?_;refine ai rfl (agi b ho aB) ?_;rw[Au];refine bh λg8=>?_;refine bK ?_;refine ai rfl (gW.perm swp) (bO ?_);refine aj (λoB=>?_) λoB=>?_
  ·refine bF ?_;refine ve [4,5] ?_;refine bI ?_;have hz:rE b l=([],e'):=by rw[<-hG,BT aa (by rw[Au];exact oB),Au]
   rw[hz];refine aC 62 4 none (aq (L':=.own 62 4 none 0 0 []::F) (.cons (.s5 (.refl _))) (aF ?_));exact⟨none,0,rfl,rfl⟩
  ·have he0:e'=0:=jN.1 oB;subst he0;have hG2:=Gv (b:=b) (f:=f) (s:=⟨l,a,0⟩) (o:=o) aa (by rw[Au];simp);rw[hG,Au]at hG2;have aeG:=GF (b:=b) (s:=⟨l,a,0⟩) (by rw[Au]);have ho':=ho.et (b:=b);rw[Au]at aeG ho';have auD:a'<=E l:=ho'.at_;have au0:E l-a'+2<=E l-a:=aeG;refine bF ?_;refine sw Yi rfl rfl rfl aa cw rfl rfl rfl (λ_=>rfl) aW aa aa ?_;intro _ A29 c29;refine aF ?_;refine ve [0,6,7] ?_;refine aF ?_;have el:E o+1=E (o++[(et b ⟨l,a,0⟩).1]):=by simp
   rw[el];refine av ⟨_,aa,a',o++[(et b ⟨l,a,0⟩).1],A29,c29,f,⟨auD,aa,bT,hG2.symm⟩,rfl,bp,.cons (.skip (az rfl (abe _ _).symm (.refl _)))⟩
 ·refine cY ?_;have hz:rE b l=(o,0):=by rw[<-hG,BU aa]
  rw[hz];refine aq (L':=.own 62 4 A7 (E o) c7 (c_ o)::F) (.skip (.cons (.s2 (.refl _)))) (aF ?_);exact⟨A7,c7,rfl,rfl⟩
theorem acH{P:Prop}(h:P:=by(unfold Cs.rest;simp)):P:=h
theorem VN{P:Prop}(h:P:=by(rw[xI];exact f5)):P:=h
theorem D8{P:Prop}(h:P:=by(unfold DW;omega)):P:=h
theorem zd:type_of% @List.map_drop:= @List.map_drop
theorem r8:type_of% @List.mem_of_mem_drop:= @List.mem_of_mem_drop
def jS(b plain:Bool):bf->List aJ->ew
 |[],_=>[]
 |n::ns,L=>(jY (dm b (L.take n)) plain).1::jS b plain ns (L.drop n)
def fS(x:Bool):UInt8:=if x then 1 else 0
def dV(o:aN)(b:Bool)(L:List aJ):bf:=jT o.1.toNat (lens b L)
def t_(o:aN)(L:List aJ):al:=(ef++[1])++(aS o.1.toNat++(fS o.2.1::(aS (E L)++aS (E (dV o true L)))))
def ru(o:aN)(L:List aJ):al:=cv (t_ o L++(jS true o.2.1 (dV o true L) L).flatten)
def ua(o:aN)(L:List aJ):al×Int:=if ct 1 o≠0 then ([],ct 1 o) else if cV L≠0 then ([],cV L) else (ru o L,0)
def ig(b:al):al×Int:=
 if (marked b).2≠0 then ([],(marked b).2) else if (marked b).1≠1 then ([],4)
 else if (aH b).2≠0 then ([],(aH b).2) else if E (aH b).1<5 then ([],1) else ((aH b).1.drop 5,0)
def oh1(x:al):Cs:=Cs.bZ ⟨x,0,0⟩ 32768
def aaY(x:al):UInt8:=(oh1 x).byte
def XP(x:al):Cs:=if 1<(aaY x).toNat then (oh1 x).e_.failed 2 else (oh1 x).e_
def oh3(x:al):Cs:=(XP x).bZ 20000
def Io(x:al):Nat:=(XP x).int 20000
def Di(x:al):Cs:=(oh3 x).bZ (Io x)
def DL(x:al):Nat:=(oh3 x).int (Io x)
def ohO(x:al):aN:=((Cs.int ⟨x,0,0⟩ 32768:Nat),decide ((aaY x).toNat=1),0,0,0,0)
def ohE(x:al):Int:=if (Di x).e≠0 then (Di x).e else ct 1 (ohO x)
noncomputable def kp(s:Cs):List aJ×Cs×Int:=
 if (dP s.rest).2.2≠0 then ([],s,(dP s.rest).2.2)
 else if (rE true (dP s.rest).1).2≠0 then ([],s.cj ((dP s.rest).2.1:Nat),(rE true (dP s.rest).1).2)
 else if (rE true (dP s.rest).1).1=[] then ([],s.cj ((dP s.rest).2.1:Nat),2)
 else ((rE true (dP s.rest).1).1,s.cj ((dP s.rest).2.1:Nat),0)
noncomputable def pn:Nat->Cs->List aJ->List aJ×Cs×Int
 |0,s,out=>(out,s,0)
 |f+1,s,out=>if (kp s).2.2≠0 then ([],(kp s).2.1,(kp s).2.2) else pn f (kp s).2.1 (out++(kp s).1)
noncomputable def kZ(x:al):List aJ×Int:=
 if (pn (DL x) (Di x) []).2.2≠0 then ([],(pn (DL x) (Di x) []).2.2)
 else if 0<(pn (DL x) (Di x) []).2.1.left∨E (pn (DL x) (Di x) []).1≠Io x then ([],2)
 else if cV (pn (DL x) (Di x) []).1≠0 then ([],cV (pn (DL x) (Di x) []).1) else ((pn (DL x) (Di x) []).1,0)
noncomputable def mA(b:al):aN×List aJ×Nat×Int:=
 if (ig b).2≠0 then (iV,[],0,(ig b).2)
 else if ohE (ig b).1≠0 then (iV,[],0,ohE (ig b).1)
 else if (kZ (ig b).1).2≠0 then (iV,[],0,(kZ (ig b).1).2)
 else (ohO (ig b).1,(kZ (ig b).1).1,DL (ig b).1,0)
theorem agh{b:Bool}{x:aJ}(hx:x.fits):E (mi b x)<=8100:=by
 obtain⟨h1,h2,h3⟩:=hx;have e1:=nI (s:=x.2.2.1) aa;have e2:=nI (s:=x.2.2.2) aa;have e3:=aV h1;unfold mi fX;split<;>simp only[aX,dI,sY]<;>omega
theorem aaI(b:Bool)(L:List aJ)(n:Nat):lens b (L.take n)=(lens b L).take n:=by simp[lens,p_]
theorem xI(b:Bool)(L:List aJ)(n:Nat):lens b (L.drop n)=(lens b L).drop n:=by simp[lens,zd]
theorem pz{S:Nat}(hS:S<=32768){b:Bool}{L:List aJ}(hL:∀x∈L,x.fits){n:Nat}(h1:1<=n)(h:((lens b L).take n).sum<=S∨n=1):E (dm b (L.take n))<=32768:=by
 rw[Gw,aaI];rcases h with h|h
 ·omega
 ·subst h;cases L with
  |nil=>simp[lens]
  |cons x r=>
   have:=agh (b:=b) (hL x ak);simp[lens];omega
theorem JU{S:Nat}(hS:S<=32768)(plain:Bool):∀(g:bf) (L out:List aJ) (s:Cs) (r:al),s.e=0->(∀x∈L,x.fits)->D3 S (lens true L) g->s.rest=(jS true plain g L).flatten++r->
  ∃s',pn (E g) s out=(out++L,s',0)∧oE s s' (jS true plain g L).flatten
 |[],L,out,s,r,h0,hL,hf,hr=>by
  have:L=[]:=List.map_eq_nil_iff.1 (show lens true L=[] from hf);subst this;exact⟨s,by simp[pn],oE.nil h0⟩
 |n::g,L,out,s,r,h0,hL,hf,hr=>by
  obtain⟨f1,f2,f3,f4,f5⟩:=hf;rw[eK]at f2;have yh:=pz hS hL f1 f3;have uk:s.rest=(jY (dm true (L.take n)) plain).1++((jS true plain g (L.drop n)).flatten++r):=by rw[hr];simp[jS]
  have hb:=NG (dm true (L.take n)) plain yh ((jS true plain g (L.drop n)).flatten++r);rw[<-uk]at hb;obtain⟨_,ht⟩:=Cs.mZ (n:=(E (jY (dm true (L.take n)) plain).1:Nat)) h0 rfl uk;have uM:rE true (dm true (L.take n))=(L.take n,0):=by
   unfold rE;rw[BV _ (L.take n) _ [] rfl (by unfold Cs.left;simp only;omega) (λx hx=>hL x (my hx)) acH];have:(L.take n).map (norm true)=L.take n:=by
    conv=>rhs;rw[<-List.map_id (L.take n)]
    exact qB λx _=>by simp[norm]
   rw[this,mW]
  have oh:¬L.take n=[]:=by
   intro h;have:=dQ List.length h;rw[eY,sY]at this;omega
  have hk:kp s=(L.take n,s.cj (E (jY (dm true (L.take n)) plain).1:Nat),0):=by
   unfold kp;rw[hb];simp only;rw[uM];simp only;rw[aw ak,aw ak,aw oh]
  obtain⟨s',h1,h2⟩:=JU hS plain g (L.drop n) (out++L.take n) _ r ht.e1 (λx hx=>hL x (r8 hx)) VN (ht.cM uk);refine⟨s',?_,by have:=ht.trans h2;simpa[jS]using this⟩;rw[dI,pn,hk,aw ak];simp only;rw[h1,bX,jd]
theorem afO{o:aN}{L:List aJ}(ho:ct 1 o=0)(hc:cV L=0)(hx:∀x∈L,x.1<18446744073709551616):mA (ru o L)=(o,L,E (dV o true L),0):=by
 have fy:jB 1 o:=by
  unfold ct at ho;rw[ao (.inl rfl)]at ho;exact bA λh=>by rw[aw h]at ho;simp at ho
 obtain⟨⟨m1,m2⟩,_,_,m5,m6⟩:=fy;obtain⟨k1,k2,k3⟩:=m5 aa;have k6:=m6 rfl;have uh:E L<=20000∧(∀x∈L,x.fits):=by
  unfold cV at hc;have:¬(20000<E L∨(∃x∈L,u5 x)∨1048576<dN L):=λh=>by rw[ao h]at hc;simp at hc
  refine⟨aa,λx h=>⟨hx x h,?_,?_⟩⟩
  ·exact wY λk=>this (.inr (.inl ⟨x,h,.inl k⟩))
  ·exact wY λk=>this (.inr (.inl ⟨x,h,.inr k⟩))
 obtain⟨hl,hL⟩:=uh;have hg:E (dV o true L)<=E L:=by unfold dV;have:=nD o.1.toNat (lens true L);rwa [eK]at this
 obtain⟨Y,hY⟩:=cK (aS o.1.toNat++(fS o.2.1::(aS (E L)++(aS (E (dV o true L))++(jS true o.2.1 (dV o true L) L).flatten))));have hX:ig (ru o L)=(Y,0):=by
  have e1:marked (ru o L)=(1,0):=by
   have:=mr (v:=1) D8 ((aS o.1.toNat++(fS o.2.1::(aS (E L)++aS (E (dV o true L)))))++((jS true o.2.1 (dV o true L) L).flatten++jP (ma 0 (t_ o L++(jS true o.2.1 (dV o true L) L).flatten))));rw[<-this];congr 1;unfold ru cv t_;show _=(ef++[1])++_;simp[bX]
  have e2:aH (ru o L)=(t_ o L++(jS true o.2.1 (dV o true L) L).flatten,0):=iq _;have e3:t_ o L++(jS true o.2.1 (dV o true L) L).flatten=(ef++[1])++Y:=by rw[hY];unfold t_;simp[bX]
  have e4:((ef++[1]:al)++Y).drop 5=Y:=mo rfl;unfold ig;rw[e1,e2,e3];simp only;rw[aw ak,aw ak,aw ak,aw (by simp[ef]),e4]
 have r0:Cs.rest ⟨Y,0,0⟩=aS o.1.toNat++(fS o.2.1::(aS (E L)++(aS (E (dV o true L))++(jS true o.2.1 (dV o true L) L).flatten))):=by unfold Cs.rest;rw[rr];exact hY
 obtain⟨n1,d1⟩:=Cs.iT (m:=32768) rfl aa aa r0;have r1:=d1.cM r0;obtain⟨n2,d2⟩:=Cs.mE d1.e1 r1;have r2:=d2.cM (p:=[fS o.2.1]) r1;obtain⟨n3,d3⟩:=Cs.iT (m:=20000) d2.e1 aa aa r2;have r3:=d3.cM r2;obtain⟨n4,d4⟩:=Cs.iT (m:=(E L:Nat)) d3.e1 aa aa r3;have r4:=d4.cM r3;have lg:(fS o.2.1).toNat<=1∧(decide ((fS o.2.1).toNat=1)=o.2.1):=by cases o.2.1<;>exact⟨ax,ax⟩
 have e1:oh1 Y=Cs.bZ ⟨Y,0,0⟩ 32768:=rfl;have ePl:aaY Y=fS o.2.1:=by unfold aaY;rw[e1];exact n2
 have e2:XP Y=(Cs.bZ ⟨Y,0,0⟩ 32768).e_:=by unfold XP;rw[ePl,aw aa,e1]
 have eR:Io Y=E L:=by unfold Io;rw[e2];exact n3
 have e3:oh3 Y=(Cs.bZ ⟨Y,0,0⟩ 32768).e_.bZ 20000:=by unfold oh3;rw[e2]
 have eB:DL Y=E (dV o true L):=by unfold DL;rw[e3,eR];exact n4
 have e4:Di Y=((Cs.bZ ⟨Y,0,0⟩ 32768).e_.bZ 20000).bZ (E L:Nat):=by unfold Di;rw[e3,eR]
 have eO:ohO Y=o:=by
  unfold ohO;rw[n1,ePl,lg.2];obtain⟨a,b,c,d,e,f⟩:=o;simp only at m1 m2 k1 k2 k3 k6⊢;rw[k1,k2,k3,k6];congr 1;omega
 have eE:ohE Y=0:=by unfold ohE;rw[e4,d4.e1,aw ak,eO];exact ho
 obtain⟨s',h1,h2⟩:=JU (S:=o.1.toNat) aa o.2.1 (dV o true L) L [] (Di Y) [] (by rw[e4];exact d4.e1) hL (kT _ _) (by rw[e4,r4,gl]);have amj:s'.left=0:=by
  rw[<-ox];have:=h2.cM (r:=[]) (by rw[e4,r4,gl]);rw[this];rfl
 have eL:kZ Y=(L,0):=by
  unfold kZ;rw[eB,h1];simp only;rw[aw ak,eR,aw (by rw[amj];simp),mW,hc,aw ak]
 unfold mA;rw[hX];simp only;rw[aw ak,eE,aw ak,eL,aw ak,eO,eB]
theorem pL{P:Prop}(h:P:=by(decide+kernel)):P:=h
theorem Sc{P:Prop}(h:P:=by(rintro _ _ ⟨rfl,rfl⟩;exact gD)):P:=h
theorem Pw:type_of% @List.replicate_zero:= @List.replicate_zero
theorem aqh(y:Nat)(hy:y<4294967296):IntKind.u64.wrap ((BitVec.ofInt IntKind.u64.bits (y:Int) &&& BitVec.ofInt IntKind.u64.bits 4294967295).toNat:Int)=(y:Int):=by
 have h:=u64_and y 4294967295 aa aa;rw[show(4294967295:Nat)=2^32-1 from rfl,Nat.and_two_pow_sub_one_eq_mod,jh (show y<2^32 from hy)]at h;exact h
theorem amJ(y:Nat)(hy:y<4294967296):(y:Int).fdiv (2^min (32:Int).toNat IntKind.u64.bits)=0:=by
 have e:min (32:Int).toNat IntKind.u64.bits=32:=by decide
 rw[e,wW _ ax];omega
theorem aka(y:Nat)(hy:y<4294967296):aZ B w0 338 [.int .u64 1,.int .u64 y] F (λr L=>r= .tuple #[.int .u64 0,.int .u64 y]∧L=F):=by
 refine fw func338 51 [0,1] ?_;refine bO ?_;refine ab (kE rfl rfl (r:=1) pL) rfl (bB ?_);refine ab (dv rfl rfl aa (r:=0) pL) rfl (bB ?_);refine ab (kE rfl rfl (aqh y hy)) rfl (bB ?_);refine ab (dv rfl rfl aa (amJ y hy)) rfl (bI ?_);refine ab (eH rfl rfl (r:=(y:Int)) ((gj aa aa).trans aa)) rfl (bI ?_);refine ab (eH rfl rfl (r:=0) ((gj aa aa).trans aa)) rfl (aF ?_);refine ab (dv rfl rfl aa (amJ y hy)) rfl (ab (bJ rfl rfl (r:=0) pL) rfl (aF ?_));refine ve [0,1,6,7,9,11] ?_;refine b7 ?_;refine ab (kE rfl rfl (r:=0) pL) rfl (bB ?_);refine ab (dv rfl rfl aa (r:=0) pL) rfl (bK ?_);refine ab (eH rfl rfl (r:=0) pL) rfl (ab (bJ rfl rfl (r:=0) pL) rfl (bI ?_));refine ab (eH rfl rfl (r:=0) pL) rfl (aF ?_);refine ab (bJ rfl rfl (r:=0) pL) rfl (aF ?_);refine ab (dv rfl rfl aa (r:=0) pL) rfl (ab (bJ rfl rfl (r:=0) pL) rfl (aF ?_));refine ve [0,1,4] ?_;refine bF ?_;refine ab (eH rfl rfl (r:=(y:Int)) ((gj aa aa).trans aa)) rfl (bF ?_);exact⟨rfl,rfl⟩
theorem asV(y:Nat)(hy:y<4294967296):aZ B w0 321 [.int .u64 1,.int .u64 y] F (λr L=>r= .tuple #[.int .u64 0,.int .u64 y]∧L=F):=by
 refine fw func321 30 [0,1] ?_;refine ei ?_;refine ai rfl (aka y hy) (Bg ?_);exact⟨rfl,rfl⟩
theorem abf(b:UInt8)(k:Nat):(bv [b]).take (min 1 k)++(List.replicate k (Value.int .u8 0)).drop (min 1 k)=bv (List.replicate (min 1 k) b)++List.replicate (k-min 1 k) (.int .u8 0):=by
 rw[List.drop_replicate];congr 1;rcases xF k with h|h
 ·subst h;rfl
 ·rw[xH h];rfl
theorem agj(b:UInt8){j k q:Nat}(hj:q<=j)(hk:j+q<=k):(bv (List.replicate j b)++List.replicate (k-j) (Value.int .u8 0)).take j++(bv (List.replicate j b)).take q++(bv (List.replicate j b)++List.replicate (k-j) (Value.int .u8 0)).drop (j+q)=bv (List.replicate (j+q) b)++List.replicate (k-(j+q)) (.int .u8 0):=by
 rw[List.take_append_of_le_length ak,fC ak,kD,List.take_replicate,xH hj,<-gF,List.replicate_append_replicate];congr 1;rw[List.drop_append,mU ak,mW,List.drop_replicate];congr 1;simp;omega
theorem agl{A:bk}{c:Nat}(b:UInt8)(k:Nat)(hb:aM B w0 F 1 (.slice A 1 c) 1 (bv [b]))(hk:k<=1000000000):
  aZ B w0 297 [.slice A 1 c,ah k] F (λr L=>∃A' c',r= .slice A' k c'∧L= .own 5 1 A' k c' (bv (List.replicate k b))::F):=by
 refine fw func297 48 [0,1] ?_;refine cF ?_;refine dw λjU=>?_;refine bB ?_;refine ab (bm underlying3 underlying192 rfl (r:=1) pL) rfl (aF ?_);refine ab (bm underlying3 underlying192 rfl (gj aa aa)) rfl (ai rfl (asV k aa) (cY ?_));refine aI rfl rfl rfl (λmB=>?_) (λmB=>?_)
 ·refine b7 ?_;refine ve [0,6,26] ?_;refine aF ?_;refine dw λqy=>?_;refine bF ?_;refine ab (bm underlying192 underlying3 rfl (bq aa aa)) rfl (cC (ft cB rfl rfl rfl rfl rfl aa aa aa) λRW=>bI ?_);refine mj (Jb cB aW rfl rfl aB (ra _)) rfl ?_;rintro _ _ ⟨rfl,rfl⟩;refine bF ?_;refine aD (λzf zL zm=>∃(j:Nat),(j<=k∧(0<j∨k=0))∧k-j=zm∧Sub zf [(7,.slice RW k k),(8,ah j)]∧Wk zL (.own 5 1 RW k k (bv (List.replicate j b)++List.replicate (k-j) (.int .u8 0))::F)) _ ⟨min 1 k,⟨aa,aa⟩,rfl,bp,az rfl (abf b k) (.refl _)⟩ ?_;rintro _ _ _ ⟨j,⟨hj,hj0⟩,rfl,hs,hp⟩;refine aT hs hp (bO ?_);refine aj (λFa=>?_) λFa=>?_
  ·have DA:∀(L:aR),Ch.own 5 1 RW k k (bv (List.replicate j b)++List.replicate (k-j) (.int .u8 0))∈L->aM B w0 L 1 (.slice RW j k) j (bv (List.replicate j b)):=λL hm=>by
    have:=(aM.own (B:=B) (w0:=w0) hm).jv (k:=j) aa;rw[cH,List.take_append_of_le_length ak,fC ak]at this;exact this
   refine bE ?_;refine cE F ?_;refine ae 0 ?_;refine ae 1 ?_;refine ae 2 ?_;refine aU 3 rfl (bY (i:=j) (size:=1) underlying27 ag rfl rfl rfl aa) (ae 4 ?_);refine ae 5 ?_;refine aU 6 rfl (bV (i:=j) (size:=1) underlying27 ag rfl rfl rfl aa) (aA 7 (UK rfl .no (Oo (i:=j) cB aW rfl aa rfl (DA _ (List.Mem.head _)) (ra _)) rfl Sc ?_));rintro _ _ ⟨rfl,rfl⟩;refine ae 8 ?_;refine ae 9 ?_;refine bc ?_;refine av ⟨_,aa,j+min j (k-j),⟨aa,aa⟩,rfl,bp,az rfl (agj b aa aa) (.refl _)⟩
  ·refine cF ?_;have hjk:j=k:=by omega
   subst hjk;refine aq (az rfl (by rw[oj,Pw,gl]) (.refl _)) (aF ?_);exact⟨RW,j,rfl,rfl⟩
 ·exfalso;exact absurd mB ax
theorem xh{P:Prop}(h:P:=by(exact dR (by first|omega|simp_all))):P:=h
def qF(l:bf):cZ:=l.map λ(n:Nat)=>Value.int .u64 (n:Int)
@[simp] theorem amW(l k:bf):qF (l++k)=qF l++qF k:=by simp[qF]
@[simp] theorem amX(l:bf):E (qF l)=E l:=by simp[qF]
def AF(a b:Nat):Nat:=(a+b)%18446744073709551616
theorem Y0(a b:Nat):IntKind.u64.wrap ((a:Int)+(b:Int))=((AF a b:Nat):Int):=by
 show((a:Int)+b)%18446744073709551616=_;unfold AF;omega
theorem aih(a b:Nat):AF a b<18446744073709551616:=rZ _ aa
def CX:Nat->Nat->Cs->bf×Cs
 |0,_,s=>([],s)
 |k+1,was,s=>if s.e=0 then (AF was (Vw s.num)::(CX k (AF was (Vw s.num)) s.mz).1,(CX k (AF was (Vw s.num)) s.mz).2) else ([],s)
theorem alh{k was:Nat}{s:Cs}(h:¬s.e=0):CX k was s=([],s):=by cases k<;>simp[CX,h]
def lvX(s:Cs):UInt8:=s.byte
def RU(n:Nat)(s:Cs)(o:al):Nat:=s.e_.int ((n:Int)-E o)
def M9(n:Nat)(s:Cs)(o:al):Cs:=s.e_.bZ ((n:Int)-E o)
def FP(n:Nat)(s:Cs)(o:al):Prop:=(M9 n s o).e=0∧(RU n s o=0∨0<E o∧o.getD (E o-1) 0=lvX s)
instance (n:Nat)(s:Cs)(o:List UInt8):Decidable (FP n s o):=inferInstanceAs (Decidable (_∧_))
def M_(n:Nat)(s:Cs)(o:al):Cs:=if FP n s o then (M9 n s o).failed 2 else M9 n s o
def Im:Nat->Nat->Cs->al->al×Cs
 |0,_,s,o=>(o,s)
 |f+1,n,s,o=>if E o<n∧s.e=0 then Im f n (M_ n s o) (o++List.replicate (RU n s o) (lvX s)) else (o,s)
theorem zw{f n:Nat}{s:Cs}{o:al}(h:¬(E o<n∧s.e=0)):Im f n s o=(o,s):=by cases f<;>simp[Im,h]
theorem TX{f n:Nat}{s:Cs}{o:al}(h:E o<n∧s.e=0):Im (f+1) n s o=Im f n (M_ n s o) (o++List.replicate (RU n s o) (lvX s)):=by rw[Im,ao h]
theorem Br(s:Cs)(m:Int):(s.bZ m).b=s.b:=Cs.cQ _ _ _
theorem EX(s:Cs)(e:Int):(s.failed e).b=s.b:=by unfold Cs.failed;split<;>rfl
theorem asS(n:Nat)(s:Cs)(o:al):(M9 n s o).b=s.b:=by simp[M9,Br,KP]
theorem ams(n:Nat)(s:Cs)(o:al):(M_ n s o).b=s.b:=by unfold M_;split<;>simp[EX,asS]
theorem cu.M9{n:Nat}{s:Cs}{o:al}(h:cu s)(hn:n<=1000000000):cu (M9 n s o):=h.e_.bZ aa
theorem cu.M_{n:Nat}{s:Cs}{o:al}(h:cu s)(hn:n<=1000000000):cu (M_ n s o):=by
 unfold Proofs.YtaodmbolhoafcaaGreatDoor.M_;split
 ·exact(h.M9 hn).failed _
 ·exact h.M9 hn
theorem LI(s:Cs)(m:Int)(hm:0<=m)(uj:m<=9223372036854775807):(s.int m:Int)<=m:=by
 unfold Cs.int;split
 ·exact hm
 ·by_cases he:(eM s.rest m).2.2=0
  ·exact(jV s.rest m uj).2.2.2 he
  ·rw[(qd he).1];exact hm
theorem afn{n:Nat}{s:Cs}{o:al}(h:E o<=n)(hn:n<=1000000000):E o+RU n s o<=n:=by
 have:=LI s.e_ ((n:Int)-E o) aa aa;unfold RU;omega
theorem TY{n:Nat}{s:Cs}{o:al}(h:(M_ n s o).e=0):¬FP n s o∧(M9 n s o).e=0∧M_ n s o=M9 n s o:=by
 unfold M_ at h⊢;by_cases hb:FP n s o
 ·rw[ao hb]at h;unfold Cs.failed at h;rw[ao hb.1]at h;simp at h
 ·rw[aw hb]at h⊢;exact⟨hb,h,rfl⟩
theorem alf(n:Nat)(ho:cu s)(hb:aM B w0 F 1 (.slice A (E s.b) c) (E s.b) (bv s.b))(hn:n<=1000000000):
  aZ B w0 265 [.agg #[br g],ah n] (Cv g A c s::F) (λr L=>∃A' c',r= .slice A' (E (CX n 0 s).1) c'∧L=Cv g A c (CX n 0 s).2:: .own 60 1 A' (E (CX n 0 s).1) c' (qF (CX n 0 s).1)::F):=by
 have qJ:∀(s':Cs),s'.b=s.b->aM B w0 F 1 (.slice A (E s'.b) c) (E s'.b) (bv s'.b):=λs' h=>by rw[h];exact hb
 refine fw func265 28 [0,1] ?_;refine bc ?_;refine bg λg2=>?_;refine b7 ?_;refine a_ 60 1 none (de ?_);refine aD (λzf zL zm=>∃(q was:Nat) (s':Cs) (o:bf) (A5:bk) (c5:Nat),(cu s'∧s'.b=s.b∧E o+q=n∧CX n 0 s=(o++(CX q was s').1,(CX q was s').2))∧q=zm∧Sub zf [(1,ah n),(2,br g2),(5,.slice A5 (E o) c5),(6,.int .u64 was)]∧Wk zL (Cv g A c s':: .own 60 1 A5 (E o) c5 (qF o):: .bG g2 366 [br g]::F)) _ ⟨n,0,s,[],none,0,⟨ho,rfl,ak,rfl⟩,rfl,bp,.dK Dl⟩ ?_;rintro _ _ _ ⟨q,was,s',o,A5,c5,⟨ho',RT,hq,hG⟩,rfl,hs,hp⟩;refine aT hs hp (bE ?_);refine bR 10 16 [1,2,5,6] ((E o:Int)<n∧s'.e=0) ?_ ?_
 ·refine bF ?_;refine cD (λpg=>?_) λpg=>?_
  ·refine b7 ?_;refine ai rfl (gW) (bE ?_);exact aL pM
  ·refine b7 ?_;exact aL xh
 ·refine bc ?_;refine aj (λlf=>?_) λlf=>?_
  ·have Da:s'.num<18446744073709551616:=by
    unfold Cs.num;split
    ·omega
    ·exact(fz _).1
   obtain⟨q',rfl⟩:∃q',q=q'+1:=⟨q-1,aa⟩
   refine bK ?_;refine ai rfl (ada ho' (.cons (.cons (qJ s' RT)))) (ai rfl (atE _ Da) (ab (bJ rfl rfl (Y0 _ _)) rfl (bB ?_)));refine dL apy rfl rfl rfl rfl rfl (λ_=>rfl) aW aa aa ?_;intro _ tQ Cp;refine bE ?_;have el:E o+1=E (o++[AF was (Vw s'.num)]):=by simp
   rw[el];refine av ⟨_,aa,q',AF was (Vw s'.num),s'.mz,o++[AF was (Vw s'.num)],tQ,Cp,⟨ho'.mz,(Ma _).trans RT,bT,by rw[hG,CX,ao lf.2];simp⟩,rfl,bp,.cons (az rfl (by simp[qF]) (.refl _))⟩
  ·refine cF ?_;have hz:CX n 0 s=(o,s'):=by
    rw[hG];by_cases h0:s'.e=0
    ·have:q=0:=by omega
     subst this;simp[CX]
    ·rw[alh h0];simp
   rw[hz];refine aq (L':=Cv g A c s':: .own 60 1 A5 (E o) c5 (qF o)::F) (.cons (.cons (.skip (.refl _)))) (aF ?_);exact⟨A5,c5,rfl,rfl⟩
theorem afd(n:Nat)(ho:cu s)(hb:aM B w0 F 1 (.slice A (E s.b) c) (E s.b) (bv s.b))(hn:n<=1000000000):
  aZ B w0 266 [.agg #[br g],ah n] (Cv g A c s::F) (λr L=>∃A' c',r= .slice A' (E (Im (n+1) n s []).1) c'∧L=Cv g A c (Im (n+1) n s []).2:: .own 5 1 A' (E (Im (n+1) n s []).1) c' (bv (Im (n+1) n s []).1)::F):=by
 have qJ:∀(s':Cs),s'.b=s.b->aM B w0 F 1 (.slice A (E s'.b) c) (E s'.b) (bv s'.b):=λs' h=>by rw[h];exact hb
 refine fw func266 61 [0,1] ?_;refine bc ?_;refine bg λg2=>?_;refine b7 ?_;refine a_ 5 1 none (bB ?_);refine aD (λzf zL zm=>∃(f:Nat) (s':Cs) (o:al) (A5:bk) (c5:Nat),(cu s'∧s'.b=s.b∧E o<=n∧(s'.e=0->n-E o<f)∧Im f n s' o=Im (n+1) n s [])∧f=zm∧Sub zf [(1,ah n),(2,br g2),(5,.slice A5 (E o) c5)]∧Wk zL (Cv g A c s':: .own 5 1 A5 (E o) c5 (bv o):: .bG g2 366 [br g]::F)) _ ⟨n+1,s,[],none,0,⟨ho,rfl,bU _,λ_=>by simp,rfl⟩,rfl,bp,.dK Dl⟩ ?_;rintro _ _ _ ⟨f,s',o,A5,c5,⟨ho',RT,LA,hf,hG⟩,rfl,hs,hp⟩;refine aT hs hp (bE ?_);refine bR 10 17 [1,2,5] ((E o:Int)<n∧s'.e=0) ?_ ?_
 ·refine bF ?_;refine cD (λnY=>?_) λnY=>?_
  ·refine b7 ?_;refine ai rfl (gW) (bE ?_);exact aL pM
  ·refine b7 ?_;exact aL xh
 ·refine bc ?_;refine aj (λiI=>?_) λiI=>?_
  ·obtain⟨f',rfl⟩:∃f',f=f'+1:=⟨f-1,by have:=hf iI.2;omega⟩
   have Bl:=afn (s:=s') LA hn;have hf':=hf iI.2;have hLb:aM B w0 (.own 5 1 A5 (E o) c5 (bv o):: .bG g2 366 [br g]::F) 1 (.slice A (E s'.b) c) (E s'.b) (bv s'.b):=.cons (.cons (qJ s' RT));have asj:aZ B w0 173 [br g] _ (λr L=>r= .int .u8 ((lvX s').toNat:Int)∧L=_):=o_ (g:=g) ho' hLb;have hint:aZ B w0 172 [br g,ah ((n:Int)-E o)] _ (λr L=>r=ah (RU n s' o)∧L=Cv g A c (M9 n s' o)::_):=ja (g:=g) ho'.e_ (by rw[KP];exact hLb) aa aa;refine bI ?_;refine ai rfl (asj) (de ?_);refine ai rfl (hint) (bE ?_);refine dY (λzf zL=>Sub zf [(1,ah n),(2,br g2),(5,.slice A5 (E o) c5),(6,.int .u8 (lvX s').toNat),(7,ah (RU n s' o))]∧Wk zL (Cv g A c (M_ n s' o):: .own 5 1 A5 (E o) c5 (bv o):: .bG g2 366 [br g]::F)) ?_ ?_
   ·refine bc ?_;refine bR 23 50 [1,2,5,6,7] ((M9 n s' o).e=0∧((RU n s' o:Int)=0∨(0:Int)<E o∧((o.getD (E o-1) 0).toNat:Int)=((lvX s').toNat:Int))) ?_ ?_
    ·refine bc ?_;refine ai rfl (gW) (bc ?_);refine cD (λCw=>?_) λCw=>?_
     ·refine bF ?_;refine aI rfl rfl rfl (λuI=>?_) (λuI=>?_)
      ·refine bI ?_;refine cD (λW4=>?_) λW4=>?_
       ·refine bB ?_;refine ab (dC rfl rfl (r:=((E o-1:Nat):Int)) ((bq aa aa).trans aa)) rfl (cY ?_);exact aL pM
       ·refine cF ?_;exact aL xh
      ·refine jt ?_;exact aL wy
     ·refine Bg ?_;exact aL xh
    ·refine bc ?_;refine aj (λJp=>?_) λJp=>?_
     ·refine bE ?_;refine ai rfl (nQ 2) (aF ?_);have Tc:FP n s' o:=⟨Jp.1,by rcases Jp.2 with h|h;exact .inl aa;exact .inr ⟨aa,mR.1 aa⟩⟩
      have hT:M_ n s' o=(M9 n s' o).failed 2:=ao Tc;rw[hT];exact bC ⟨bp,.refl _⟩
     ·refine aF ?_;have Tc:¬FP n s' o:=λh=>Jp ⟨h.1,by rcases h.2 with h|h;exact .inl aa;exact .inr ⟨aa,by rw[h.2]⟩⟩;have hT:M_ n s' o=M9 n s' o:=aw Tc;rw[hT];exact bC ⟨bp,.refl _⟩
   ·rintro _ _ ⟨hs,hp⟩;refine aT hs hp (bE ?_);refine cC (aG cB [_] rfl rfl cw aa aa) λA56=>aF ?_;refine ay rfl (agl (lvX s') (RU n s' o) aB aa) λA58 c58=>?_;refine fK (bW cB rfl aW rfl aB cw aa aa) λA59 c59=>bE ?_;have el:E o+RU n s' o=E (o++List.replicate (RU n s' o) (lvX s')):=by simp
    have xy:=TX (f:=f') (n:=n) (s:=s') (o:=o) ⟨aa,iI.2⟩;rw[hG]at xy;rw[el];refine av ⟨_,aa,f',M_ n s' o,o++List.replicate (RU n s' o) (lvX s'),A59,c59,⟨ho'.M_ hn,(ams _ _ _).trans RT,by rw[<-el];exact Bl,λh=>by rw[<-el];have h1:=(TY h).1;have h2:=(TY h).2.1;have h3:RU n s' o≠0:=λhz=>h1 ⟨h2,.inl hz⟩;omega,xy.symm⟩,rfl,bp,.s2 (.cons (az rfl ak (.refl _)))⟩
  ·refine cF ?_;have hz:Im (n+1) n s []=(o,s'):=by rw[<-hG,zw aa]
   rw[hz];refine aq (L':=Cv g A c s':: .own 5 1 A5 (E o) c5 (bv o)::F) (.cons (.cons (.skip (.refl _)))) (aF ?_);exact⟨A5,c5,rfl,rfl⟩
theorem ahq:∀(k was:Nat) {s:Cs},cu s->cu (CX k was s).2∧(CX k was s).2.b=s.b
 |0,_,s,h=>⟨h,rfl⟩
 |k+1,was,s,h=>by
  rw[CX];split
  ·have:=ahq k (AF was (Vw s.num)) h.mz;exact⟨this.1,this.2.trans (Ma s)⟩
  ·exact⟨h,rfl⟩
theorem afm{n:Nat}(hn:n<=1000000000):∀(f:Nat) {s:Cs} {o:al},cu s->cu (Im f n s o).2∧(Im f n s o).2.b=s.b
 |0,s,o,h=>⟨h,rfl⟩
 |f+1,s,o,h=>by
  rw[Im];split
  ·have:=afm hn f (o:=o++List.replicate (RU n s o) (lvX s)) (h.M_ (n:=n) (o:=o) hn);exact⟨this.1,this.2.trans (ams n s o)⟩
  ·exact⟨h,rfl⟩
def Na(n:Nat)(l:al):bf×Cs:=CX n 0 ⟨l,0,0⟩
def Ir(n:Nat)(l:al):al×Cs:=Im (n+1) n (Na n l).2 []
def oM(n:Int)(l:al):bf×al×Nat×Int:=
 if n<0∨20000<n then ([],[],0,13) else if (Ir n.toNat l).2.e≠0 then ([],[],0,(Ir n.toNat l).2.e) else ((Na n.toNat l).1,(Ir n.toNat l).1,(Ir n.toNat l).2.at_,0)
theorem XY{n:Int}{l:al}(h:n<0∨20000<n):oM n l=([],[],0,13):=ao h
theorem XZ{n:Nat}{l:al}(h:¬((n:Int)<0∨(20000:Int)<n))(he:¬(Ir n l).2.e=0):oM n l=([],[],0,(Ir n l).2.e):=by
 unfold oM;rw[aw h,oo,ao he]
theorem Ut{n:Nat}{l:al}(h:¬((n:Int)<0∨(20000:Int)<n))(he:(Ir n l).2.e=0):oM n l=((Na n l).1,(Ir n l).1,(Ir n l).2.at_,0):=by
 unfold oM;rw[aw h,oo,aw Ns]
theorem akE:aZ B w0 177 [br g] (Cv g A c s::F) (λr L=>r=ah s.at_∧L=Cv g A c s::F):=by
 refine fw func177 10 [0] ?_;refine aed ?_;exact⟨rfl,rfl⟩
theorem Ux(n:Int){l:al}(hb:fo B w0 F A c l)(hl:E l<=1000000000)(hn1:-9223372036854775808<=n)(uK:n<=9223372036854775807):
  aZ B w0 225 [ah n,.slice A (E l) c] F (λr L=>∃A1 c1 A2 c2,r= .tuple #[.slice A1 (E (oM n l).1) c1,.slice A2 (E (oM n l).2.1) c2,ah (oM n l).2.2.1,ah (oM n l).2.2.2]∧L= .own 60 1 A1 (E (oM n l).1) c1 (qF (oM n l).1):: .own 5 1 A2 (E (oM n l).2.1) c2 (bv (oM n l).2.1)::F):=by
 have ho0:cu ⟨l,0,0⟩:=⟨bU _,dh⟩
 refine fw func225 38 [0,1] ?_;refine de ?_;refine bR 6 17 [0,1] (n<0∨20000<n) ?_ ?_
 ·refine bE ?_;refine aI rfl rfl rfl (λku=>?_) (λku=>?_)
  ·refine b7 ?_;exact aL C6
  ·refine bc ?_;exact aL C6
 ·refine bc ?_;refine aj (λiI=>?_) λiI=>?_
  ·refine bz ?_;rw[XY iI];refine aC 5 1 none (aC 60 1 none (aF ?_));exact⟨none,0,none,0,rfl,rfl⟩
  ·obtain⟨m,rfl⟩:=gi (show 0<=n by omega);have hT:=ahq m 0 ho0;have hV:=afm (n:=m) aa (m+1) (o:=[]) hT.1;change cu (Na m l).2∧(Na m l).2.b=l at hT;change cu (Ir m l).2∧(Ir m l).2.b=(Na m l).2.b at hV;refine bF ?_;refine fh rfl (nC hb aa) λg19 MO c19=>ab (eZ [(0,_)] [_] rfl rfl ag) rfl (bh λg8=>?_);refine bI ?_;refine ay rfl ((alf m ho0 (.cons (aM.own (List.Mem.head _))) aa).perm swp) λA23 c23=>?_;change VL _ _ _ _ ((23,.slice A23 (E (Na m l).1) c23)::_) (Cv g19 MO c19 (Na m l).2:: .own 60 1 A23 (E (Na m l).1) c23 (qF (Na m l).1)::_);refine bI ?_;refine ay rfl (afd m hT.1 (by rw[hT.2];exact .cons (.cons (aM.own (List.Mem.head _)))) aa) λtQ Cp=>?_;change VL _ _ _ _ ((26,.slice tQ (E (Ir m l).1) Cp)::_) (Cv g19 MO c19 (Ir m l).2:: .own 5 1 tQ (E (Ir m l).1) Cp (bv (Ir m l).1)::_);refine bK ?_;refine ai rfl (gW) (bO ?_);refine aj (λC_=>?_) λC_=>?_
   ·refine bI ?_;refine ve [4,5,6,7] ?_;refine bE ?_;rw[XZ iI C_];refine aC 5 1 none (aC 60 1 none (aq (L':=.own 60 1 none 0 0 []:: .own 5 1 none 0 0 []::F) (.cons (.cons (.s5 (.refl _)))) (aF ?_)));exact⟨none,0,none,0,rfl,rfl⟩
   ·refine bK ?_;refine ai rfl (akE) (b7 ?_);refine ve [4,5,6,7] ?_;refine bc ?_;rw[Ut iI (jN.1 C_)];refine aq (L':=.own 60 1 A23 (E (Na m l).1) c23 (qF (Na m l).1):: .own 5 1 tQ (E (Ir m l).1) Cp (bv (Ir m l).1)::F) (.skip (.swap (.cons (.cons (.s2 (.refl _)))))) (aF ?_);exact⟨A23,c23,tQ,Cp,rfl,rfl⟩
theorem acr{a b:Nat}(ha:a<18446744073709551616)(hb:b<18446744073709551616):AF b (dlt a b)=a:=by
 unfold AF dlt;omega
theorem Yz:∀(L:List aJ) (was:Nat) (s:Cs) (r:al),was<18446744073709551616->s.e=0->(∀x∈L,x.1<18446744073709551616)->s.rest=re was L++r->(CX (E L) was s).1=L.map (·.1)∧oE s (CX (E L) was s).2 (re was L)
 |[],was,s,r,_,h0,_,_=>⟨rfl,oE.nil h0⟩
 |x::L,was,s,r,hw,h0,hx,hr=>by
  have JD:=hx x ak;rw[re,bX]at hr;obtain⟨n1,d1⟩:=Cs.XO h0 (Vx (EI x.1 was)) hr;have hz:AF was (Vw s.num)=x.1:=by rw[n1,alJ (EI _ _),acr JD hw]
  obtain⟨i1,i2⟩:=Yz L x.1 s.mz r JD d1.e1 (λy hy=>hx y wN) (d1.cM hr);rw[dI,CX,ao h0,hz];exact⟨by simp[i1],d1.trans i2⟩
theorem QB(x:UInt8):∀(l:al),l.take (run x l)=List.replicate (run x l) x
 |[]=>rfl
 |y::l=>by
  unfold run;split
  ·rename_i h;rw[r7,QB x l,Bt,h]
  ·rfl
theorem Yc(x:UInt8):∀(l:al) (y:UInt8),(l.drop (run x l)).head?=some y->y≠x
 |[],y,h=>by simp[run]at h
 |z::l,y,h=>by
  unfold run at h;split at h
  ·rw[Fw]at h;exact Yc x l y h
  ·rename_i hz;simp at h;exact λe=>hz (h.trans e)
theorem ae9(o:al)(x:UInt8)(q:Nat):(o++List.replicate (1+q) x).getD (E (o++List.replicate (1+q) x)-1) 0=x:=by
 have:E (o++List.replicate (1+q) x)-1=E o+q:=by simp;omega
 rw[this];simp[List.getD]
theorem XG(n:Nat)(hn:n<=1000000000):∀(f:Nat) (l o:al) (s:Cs) (r:al),s.e=0->n=E o+E l->(∀x,l.head?=some x->0<E o->o.getD (E o-1) 0≠x)->s.rest=pb none l++r->E l<f->(Im f n s o).1=o++l∧oE s (Im f n s o).2 (pb none l)
 |0,l,o,s,r,_,_,_,_,hf=>absurd hf aa
 |f+1,[],o,s,r,h0,Jy,_,hr,hf=>by
  simp at Jy;rw[zw (λh=>aa)];exact⟨ak,oE.nil h0⟩
 |f+1,x::l,o,s,r,h0,Jy,oh,hr,hf=>by
  have hq:=UE x l;simp only[dI]at Jy hf;have hc:pb none (x::l)=[x]++(aS (1+run x l)++pb none (l.drop (run x l))):=by
   rw[pb,aw ak,Et];rfl
  rw[hc]at hr⊢;have uk:s.rest=x::(aS (1+run x l)++(pb none (l.drop (run x l))++r)):=by rw[hr];simp
  obtain⟨b1,db⟩:=Cs.mE h0 uk;have wU:=db.cM (p:=[x]) uk;obtain⟨k1,dk⟩:=Cs.iT (m:=(n:Int)-E o) (x:=1+run x l) db.e1 aa aa wU;have hr3:=dk.cM wU;have hK:RU n s o=1+run x l:=k1;have hX:lvX s=x:=b1;have hS:(M9 n s o).e=0:=dk.e1;have Tc:¬FP n s o:=by
   rintro⟨_,h|⟨h1,h2⟩⟩
   ·omega
   ·exact oh x rfl h1 (h2.trans hX)
  have hT:M_ n s o=M9 n s o:=aw Tc;rw[TX ⟨aa,h0⟩,hT,hK,hX];obtain⟨i1,i2⟩:=XG n hn f (l.drop (run x l)) (o++List.replicate (1+run x l) x) (M9 n s o) r hS bT (λy hy _=>by rw[ae9];exact λe=>Yc x l y hy e.symm) hr3 ly;refine⟨?_,(db.trans (dk.trans i2))⟩;rw[i1,bX];congr 1;rw[zn 1,Bt,<-QB x l,mX,jd]
theorem Zt{L:List aJ}(hx:∀x∈L,x.1<18446744073709551616)(hl:E L<=20000)(r:al):oM (E L) (kR L++r)=(L.map (·.1),lv L,E (kR L),0):=by
 obtain⟨t1,t2⟩:=Yz L 0 ⟨kR L++r,0,0⟩ (pb none (lv L)++r) aa rfl hx (by simp[Cs.rest,kR]);have wU:=t2.cM (r:=pb none (lv L)++r) (by simp[Cs.rest,kR]);change (Na (E L) (kR L++r)).1=_ at t1;change oE _ (Na (E L) (kR L++r)).2 _ at t2;change (Na (E L) (kR L++r)).2.rest=_ at wU;obtain⟨v1,v2⟩:=XG (E L) aa (E L+1) (lv L) [] (Na (E L) (kR L++r)).2 r t2.e1 (by simp[sd]) (λ_ _ h=>absurd h ak) wU (by rw[sd];omega);change (Ir (E L) (kR L++r)).1=_ at v1;change oE _ (Ir (E L) (kR L++r)).2 _ at v2;rw[Ut aa v2.e1,t1,v1];have he:=(t2.trans v2).eq;rw[he];simp[kR]
section
theorem acI{P:Prop}(h:P:=by(simp[MapKept.IsKey])):P:=h
theorem Xw:type_of% @List.getElem?_cons_succ:= @List.getElem?_cons_succ
theorem CN:type_of% @MapKept.run_getObj_map:= @MapKept.run_getObj_map
def gd:Nat->List (al×Value)->List MapEntry
 |_,[]=>[]
 |i,p::r=>⟨.string ⟨p.1.toArray⟩,p.2,i⟩::gd (i+1) r
def XH(D:List (al×Value)):Obj:=.map (gd 0 D).toArray (E D)
def nW(t:al):List (al×Value)->Nat->Option (Nat×Value)
 |[],_=>none
 |p::r,i=>if t=p.1 then some (i,p.2) else nW t r (i+1)
def Gm(D:List (al×Value))(t:al)(v:Value):List (al×Value):=
 match nW t D 0 with
 |some (i,_)=>D.set i (t,v)
 |none=>D++[(t,v)]
theorem pe:∀(D:List (al×Value)) (i:Nat),E (gd i D)=E D
 |[],_=>rfl
 |_::r,i=>by simp[gd,pe r]
theorem Je:∀(D:List (al×Value)) (i k:Nat) (h:k<E D),(gd i D)[k]? =some ⟨.string ⟨(D[k]'h).1.toArray⟩,(D[k]'h).2,i+k⟩
 |_::r,i,0,h=>rfl
 |_::r,i,k+1,h=>by
  have:=Je r (i+1) k ng;simp only[gd,Xw,List.getElem_cons_succ];rw[this];congr 2;omega
theorem EW:∀(D:List (al×Value)) (i:Nat) (p:al×Value),gd i (D++[p])=gd i D++[⟨.string ⟨p.1.toArray⟩,p.2,i+E D⟩]
 |[],i,p=>rfl
 |q::r,i,p=>by
  simp only[mX,gd,EW r (i+1) p,dI];rw[show i+1+E r=i+(E r+1) by omega]
theorem akZ(t k:al):((⟨t.toArray⟩:ByteArray)==(⟨k.toArray⟩:ByteArray))=decide (t=k):=by
 rw[Bool.eq_iff_iff,MapKept.bytes_beq,decide_eq_true_iff];exact⟨λe=>by simpa using dQ (λb:ByteArray=>b.data.toList) e,λe=>yo⟩
theorem sP(t:al):∀(D:List (al×Value)) (j i:Nat),Instr.findNow .string (.string ⟨t.toArray⟩) (gd j D) i=some (nW t D i)
 |[],_,_=>rfl
 |p::r,j,i=>by
  simp only[gd,Instr.findNow,Instr.sameNow,akZ,nW];by_cases h:t=p.1
  ·rw[oK h,ao h]
  ·rw[oq h,aw h];exact sP t r (j+1) (i+1)
theorem Jj{t:al}:∀{D:List (al×Value)} {i j:Nat} {v:Value},nW t D i=some (j,v)->∃k,j=i+k∧∃h:k<E D,D[k]=(t,v)
 |p::r,i,j,v,h=>by
  unfold nW at h;split at h
  ·rename_i e;simp only[FE,Df]at h;exact⟨0,aa,ak,by simp[<-h.2,e]⟩
  ·obtain⟨k,h1,h2,h3⟩:=Jj h;exact⟨k+1,aa,pK,by simpa using h3⟩
section
variable{C:Cx}{fr:Fr}{L:aR}{x y z:Operand}{f:Ch->aR}{t k e ty:TypeId}{g:Nat}{D:List (al×Value)}{s:al}{v zv:Value}
theorem Oq:q8 C fr L (.makeMap t none) ty (λp L'=>∃g,p= .map (some g)∧L'= .obj g (XH [])::L):=λa w ha hw d pos af gg=>
 ⟨.map (some w.heap.size),w.alloc (.map #[] 0),.obj w.heap.size (XH [])::L,.inl (by simp[execOp,run_makeMap_plain]),⟨w.heap.size,rfl,rfl⟩,
  hw.gT (LN w _ none) ⟨hw.base,(MapKept.heap_alloc w (.map #[] 0)).1⟩ (.inr ⟨_,rfl,gC _⟩)⟩
theorem EE(ht:C.P.underlying t=some (.map k e))(hk:C.P.underlying k=some .string)(hz:∀w,(zeroValue e).run C.P w= .ok zv w)(hm:ev fr x=some (.map (some g)))(hx:ev fr y=some (.string ⟨s.toArray⟩))(hs:na (.obj g (XH D)) L f):
  gR C fr L (.lookup t x y false) ty (((nW s D 0).map (·.2)).getD zv):=λa w ha hw d pos af gg=>by
 have hb:w.heap[g]? =some (.map (gd 0 D).toArray (E D)):=(hw.all _ hs.mem).2;have hc:∀em,(Instr.checkKey em 10000 k (.string ⟨s.toArray⟩)).run C.P w= .ok () w:=λem=>MapKept.run_checkKey (k:=.string ⟨s.toArray⟩) hk acI em 9999;have hf:=MapKept.run_findKey (P:=C.P) (w:=w) hk (sP s D 0 0);cases hfd:nW s D 0 with
 |none=>
  rw[hfd]at hf;simp[execOp,ha.tmp hm,ha.tmp hx,Instr.lookup,jk ht,CN hb,hc,hf,hz,Result.andThen]
 |some q=>
  rw[hfd]at hf;obtain⟨j,u⟩:=q;simp[execOp,ha.tmp hm,ha.tmp hx,Instr.lookup,jk ht,CN hb,hc,hf,Result.andThen]
theorem Jf:∀(D:List (al×Value)) (i j:Nat) (p:al×Value),j<E D->gd i (D.set j p)=(gd i D).modify j λe=>{e with key:=.string ⟨p.1.toArray⟩,val:=p.2}
 |q::r,i,0,p,_=>by simp[gd]
 |q::r,i,j+1,p,h=>by
  simp only[Pv,gd,List.modify_succ_cons];rw[Jf r (i+1) j p ng]
theorem HX(ht:C.P.underlying t=some (.map k e))(hk:C.P.underlying k=some .string)(hm:ev fr x=some (.map (some g)))(hx:ev fr y=some (.string ⟨s.toArray⟩))(hv:ev fr z=some v)(hs:na (.obj g (XH D)) L f):
  q8 C fr L (.mapUpdate t x y z) ty (λp L'=>L'=f (.obj g (XH (Gm D s v)))):=λa w ha hw d pos af gg=>by
 have hb:w.heap[g]? =some (.map (gd 0 D).toArray (E D)):=(hw.all _ hs.mem).2;have hc:∀em,(Instr.checkKey em 10000 k (.string ⟨s.toArray⟩)).run C.P w= .ok () w:=λem=>MapKept.run_checkKey (k:=.string ⟨s.toArray⟩) hk acI em 9999;have hf:=MapKept.run_findKey (P:=C.P) (w:=w) hk (sP s D 0 0);have fN:=(k_3.1 hb).1;have oC:∀o,SL C.B C.w0 (f (.obj g o)) {w with heap:=w.heap.setIfInBounds g o}:=λo=>
  hw.RV hs ⟨rfl,rfl,rfl,ak,λj _ hj=>by
   have:g≠j:=λe=>hj Ea;simp[this]⟩ (λh=>⟨h.1,by simp[fN]⟩) (.inr (.inl rfl))
 cases hfd:nW s D 0 with
 |none=>
  rw[hfd]at hf;have e1:XH (Gm D s v)= .map ((gd 0 D).toArray.push ⟨.string ⟨s.toArray⟩,v,E D⟩) (E D+1):=by
   unfold Gm XH;rw[hfd];simp[EW]
  refine⟨undef,_,_,.inr ⟨?_,rfl⟩,rfl,by rw[e1];exact oC _⟩;simp[execOp,ha.tmp hm,ha.tmp hx,ha.tmp hv,Instr.mapUpdate,jk ht,CN hb,hc,hf,MapKept.run_setObj_map _ hb,Result.andThen]
 |some q=>
  rw[hfd]at hf;obtain⟨j,u⟩:=q;obtain⟨j',hj,hjl,hje⟩:=Jj hfd;obtain rfl:j=j':=by omega
  have hg:=Je D 0 j hjl;have e1:XH (Gm D s v)= .map ((gd 0 D).toArray.modify j λe=>{e with key:=.string ⟨s.toArray⟩,val:=v}) (E D):=by
   unfold Gm XH;rw[hfd];simp[Jf D 0 j (s,v) hjl]
  have hky:(Instr.keyThatStays (.string ⟨s.toArray⟩) (.string ⟨s.toArray⟩)).run C.P w= .ok (.string ⟨s.toArray⟩) w:=MapKept.run_keyThatStays (d:=.string) acI;have Lz:(((gd 0 D).toArray[j]?).map (·.key)).getD (.string ⟨s.toArray⟩)= .string ⟨s.toArray⟩:=by
   rw[List.getElem?_toArray,hg,hje];rfl
  refine⟨undef,_,_,.inr ⟨?_,rfl⟩,rfl,by rw[e1];exact oC _⟩;simp only[execOp,ha.tmp hm,ha.tmp hx,ha.tmp hv,Instr.mapUpdate];simp[jk ht,CN hb,hc,hf,Result.andThen];simp at Lz;simp[Lz,hky,MapKept.run_setObj_map _ hb]
end
end
abbrev C4:=al×bk×Nat×bf
def S0(e:C4):Value:=.slice e.2.1 (E e.2.2.2) e.2.2.1
def lR(D:List C4):List (al×Value):=D.map λe=>(e.1,S0 e)
def uF(e:C4):Ch:=.own 3 1 e.2.1 (E e.2.2.2) e.2.2.1 (bD e.2.2.2)
def wR(t:al):List C4->bf
 |[]=>[]
 |e::r=>if t=e.1 then e.2.2.2 else wR t r
def Iw(t:al)(A:bk)(c i:Nat):List C4->List C4
 |[]=>[(t,A,c,[i])]
 |e::r=>if t=e.1 then (t,A,c,e.2.2.2++[i])::r else e::Iw t A c i r
theorem vL(t:al):∀(D:List (al×Value)) (i:Nat),nW t D (i+1)=(nW t D i).map λq=>(q.1+1,q.2)
 |[],_=>rfl
 |p::r,i=>by
  unfold nW;split
  ·rfl
  ·exact vL t r (i+1)
theorem abd(t:al)(v:Value)(p:al×Value)(r:List (al×Value)):Gm (p::r) t v=if t=p.1 then (t,v)::r else p::Gm r t v:=by
 unfold Gm;have e:nW t (p::r) 0=if t=p.1 then some (0,p.2) else nW t r (0+1):=rfl
 by_cases h:t=p.1
 ·rw[e,ao h,ao h];rfl
 ·rw[e,aw h,aw h,vL];cases nW t r 0 with
  |none=>rfl
  |some q=>rfl
theorem XX(t:al)(A:bk)(c i:Nat):∀(D:List C4),Gm (lR D) t (.slice A (E (wR t D)+1) c)=lR (Iw t A c i D)
 |[]=>by simp[Gm,lR,nW,wR,Iw,S0]
 |e::r=>by
  have ih:=XX t A c i r;show Gm ((e.1,S0 e)::lR r) t _=_;rw[abd];unfold wR Iw;by_cases h:t=e.1
  ·rw[ao h,ao h,ao h];simp[lR,S0]
  ·rw[aw h,aw h,aw h,ih];rfl
theorem W3(t:al):∀(D:List C4),∃(A:bk) (c:Nat) (R:aR),
  (((nW t (lR D) 0).map (·.2)).getD (.slice none 0 0)= .slice A (E (wR t D)) c)∧
  ((D.map uF).Perm (.own 3 1 A (E (wR t D)) c (bD (wR t D))::R)∨(A=none∧c=0∧wR t D=[]∧R=D.map uF))∧
  (∀A' c' i,((Iw t A' c' i D).map uF).Perm (.own 3 1 A' (E (wR t D)+1) c' (bD (wR t D++[i]))::R))
 |[]=>⟨none,0,[],rfl,.inr ⟨rfl,rfl,rfl,rfl⟩,λA' c' i=>.refl _⟩
 |e::r=>by
  by_cases h:t=e.1
  ·refine⟨e.2.1,e.2.2.1,r.map uF,?_,.inl ?_,λA' c' i=>?_⟩
   ·show((nW t ((e.1,S0 e)::lR r) 0).map (·.2)).getD _=_;unfold nW wR;rw[ao h,ao h];rfl
   ·unfold wR;rw[ao h];exact .refl _
   ·unfold wR Iw;rw[ao h,ao h];simp only[kh,uF,aX,qM];exact .refl _
  ·obtain⟨A,c,R,h1,h2,h3⟩:=W3 t r;refine⟨A,c,uF e::R,?_,?_,λA' c' i=>?_⟩
   ·show((nW t ((e.1,S0 e)::lR r) 0).map (·.2)).getD _=_;unfold nW wR;rw[aw h,aw h,vL,<-h1];cases nW t (lR r) 0<;>rfl
   ·unfold wR;rw[aw h];rcases h2 with h2|⟨h2,h4,h5,h6⟩
    ·exact .inl ((h2.cons _).trans (.swap _ _ _))
    ·exact .inr ⟨h2,h4,h5,by rw[h6];rfl⟩
   ·unfold wR Iw;rw[aw h,aw h];exact((h3 A' c' i).cons _).trans (.swap _ _ _)
theorem S2(t s:al)(A:bk)(c i:Nat):∀(D:List C4),wR s (Iw t A c i D)=if s=t then wR s D++[i] else wR s D
 |[]=>by
  unfold Iw wR;split<;>simp[wR]
 |e::r=>by
  unfold Iw;by_cases h:t=e.1
  ·rw[ao h];unfold wR;by_cases h2:s=t
   ·subst h2;simp[h]
   ·rw[aw h2,aw h2,aw (λq=>h2 (q.trans h.symm))]
  ·rw[aw h];unfold wR;by_cases h2:s=e.1
   ·rw[ao h2,ao h2,aw (λq=>h (q.symm.trans h2))]
   ·rw[aw h2,aw h2];exact S2 t s A c i r
theorem LV(t s:al)(A:bk)(c i:Nat):∀(D:List C4),s∈(Iw t A c i D).map (·.1)↔s=t∨s∈D.map (·.1)
 |[]=>by simp[Iw]
 |e::r=>by
  unfold Iw;by_cases h:t=e.1
  ·rw[ao h];simp[h]
  ·rw[aw h,kh,fj,LV t s A c i r,kh,fj];exact⟨λh=>h.elim (λh=>.inr (.inl h)) (λh=>h.elim .inl λh=>.inr (.inr h)),λh=>h.elim (λh=>.inr (.inl h)) (λh=>h.elim .inl λh=>.inr (.inr h))⟩
theorem P3(t:al)(A:bk)(c i:Nat):∀(D:List C4),(D.map (·.1)).Nodup->((Iw t A c i D).map (·.1)).Nodup
 |[],_=>by simp[Iw]
 |e::r,h=>by
  rw[kh,Fv]at h;unfold Iw;by_cases ht:t=e.1
  ·rw[ao ht,kh,Fv];exact⟨by rw[ht];exact h.1,h.2⟩
  ·rw[aw ht,kh,Fv,LV];exact⟨λq=>q.elim (λq=>ht q.symm) h.1,P3 t A c i r h.2⟩
theorem ahM(t:al)(A:bk)(c i:Nat):∀(D:List C4),E (Iw t A c i D)<=E D+1
 |[]=>by simp[Iw]
 |e::r=>by
  unfold Iw;split
  ·simp
  ·have:=ahM t A c i r;simp;omega
theorem YV{P:Program}{e:TypeId}{zv:Value}(h:(P.info? e).bind (·.zero)=some zv)(w:World):(zeroValue e).run P w= .ok zv w:=by
 cases hi:P.info? e with
 |none=>rw[hi]at h;simp at h
 |some i=>rw[hi]at h;simp at h;simp[zeroValue,typeInfo,hi,h]
theorem atz{C:Cx}{c:Code}{Q:Exit->Fr->aR->Prop}{fr:Fr}{L M:aR}(h:∀w,SL C.B C.w0 L w->SL C.B C.w0 M w)(k:VC C c Q fr M):VC C c Q fr L:=λa w ha hw=>k a w ha (h w hw)
section
abbrev cm:=al
def leT(s r:cm):Prop:=Op.bytesLess s r=true∨s=r
instance (s r:cm):Decidable (leT s r):=inferInstanceAs (Decidable (_∨_))
theorem ajV(s r:cm):(Op.bytesLess s r||decide (s=r))=decide (leT s r):=by
 by_cases hp:leT s r
 ·rw[oK hp];rcases hp with h|h<;>simp[h]
 ·rw[oq hp];unfold leT at hp;have h1:¬Op.bytesLess s r=true:=λh=>hp (.inl h);have h2:¬s=r:=λh=>hp (.inr h);simp[h1,h2]
section
variable{C:Cx}{fr:Fr}{L:aR}{x y:Operand}{s r:al}{xt yt ty:TypeId}
theorem SC(h1:ev fr x=some (.string ⟨s.toArray⟩))(h2:ev fr y=some (.string ⟨r.toArray⟩)):gR C fr L (.binOp .gtr xt x y yt) ty (.bool (decide (¬leT s r))):=by
 have h:=ZA (C:=C) (L:=L) (xt:=xt) (yt:=yt) (ty:=ty) h1 h2;rw[ajV,<-decide_not]at h;exact h
end
def u_(was s:cm):Prop:=s≠[]∧E s<=25∧¬leT s was
instance (was s:cm):Decidable (u_ was s):=inferInstanceAs (Decidable (_∧_∧_))
def fF(l:List cm)(i:Nat):cm:=if i=0 then [] else l.getD (i-1) []
def lF(l:List cm):Prop:=(∀i,i<E l->u_ (fF l i) (l.getD i []))∧E l<=1048576
instance (l:List cm):Decidable (lF l):=inferInstanceAs (Decidable ((∀i,i<E l->_)∧_))
theorem J3(l:List cm)(i:Nat):fF l (i+1)=l.getD i []:=by simp[fF]
theorem P4{s:cm}(h:s≠[]):¬leT s []:=by
 rintro(h1|h1)
 ·cases s<;>simp[Op.bytesLess]at h1
 ·exact h h1
def qP:cm->cm->Nat
 |x::a,y::b=>if x=y then qP a b+1 else 0
 |_,_=>0
theorem Bz:∀a b:cm,qP a b<=E a∧qP a b<=E b
 |[],_=>by simp[qP]
 |_::_,[]=>by simp[qP]
 |x::a,y::b=>by
  unfold qP;have:=Bz a b;split<;>simp only[dI]<;>omega
theorem mY:∀(a b:cm) (n:Nat),n<=qP a b->(n<qP a b↔(n<E a∧n<E b)∧a.getD n 0=b.getD n 0)
 |[],_,n,h=>by simp[qP]
 |_::_,[],n,h=>by simp[qP]
 |x::a,y::b,n,h=>by
  unfold qP at h⊢;split at h
  ·rename_i he;rw[ao he];cases n with
   |zero=>simp[he]
   |succ n=>
    have:=mY a b n aa;simp only[dI,CJ];exact⟨λh=>by obtain⟨⟨h1,h2⟩,h3⟩:=this.1 aa;exact⟨⟨aa,aa⟩,h3⟩,λh=>by have:=this.2 ⟨⟨aa,aa⟩,h.2⟩;omega⟩
  ·rename_i he;rw[aw he];have:n=0:=by omega
   subst this;simp[he]
def iY:cm->List cm->al
 |_,[]=>[]
 |was,s::r=>aS (qP was s)++fD (s.drop (qP was s))++iY s r
def dH:List cm->al
 |[]=>[]
 |t::r=>fD t++iY t r
end
def tY(a b:cm):Prop:=Op.bytesLess a b=true
instance (a b:cm):Decidable (tY a b):=inferInstanceAs (Decidable (_=_))
theorem qS(a:cm):¬tY a []:=by cases a<;>simp[tY,Op.bytesLess]
theorem ta(b:UInt8)(y:cm):tY [] (b::y):=rfl
theorem u6{a b:UInt8}{x y:cm}:tY (a::x) (b::y)↔a<b∨a=b∧tY x y:=by simp[tY,Op.bytesLess]
theorem Rj{a b:UInt8}:a<b↔a.toNat<b.toNat:=UInt8.lt_iff_toNat_lt
theorem ahH{a b:UInt8}:a=b↔a.toNat=b.toNat:=mR.symm
theorem f_:∀a:cm,¬tY a a
 |[]=>qS _
 |a::x=>by
  rw[u6,Rj];have:=f_ x;rintro(h|⟨_,h⟩)
  ·omega
  ·exact this h
theorem lq:∀{a b c:cm},tY a b->tY b c->tY a c
 |_,_,[],_,h=>absurd h (qS _)
 |_,[],_::_,h,_=>absurd h (qS _)
 |[],_::_,c::z,_,_=>ta c z
 |a::x,b::y,c::z,h1,h2=>by
  rw[u6,Rj]at*;rw[ahH]at*;rcases h1 with h1|⟨h1,S3⟩<;>rcases h2 with h2|⟨h2,h2'⟩
  ·left;omega
  ·left;omega
  ·left;omega
  ·exact .inr ⟨aa,lq S3 h2'⟩
theorem pD:∀a b:cm,tY a b∨a=b∨tY b a
 |[],[]=>.inr (.inl rfl)
 |[],b::y=>.inl (ta b y)
 |a::x,[]=>.inr (.inr (ta a x))
 |a::x,b::y=>by
  rw[u6,u6,Rj,Rj,aay,ahH,ahH];rcases Nat.lt_trichotomy a.toNat b.toNat with h|h|h
  ·exact .inl (.inl h)
  ·rcases pD x y with h1|h1|h1
   ·exact .inl (.inr ⟨h,h1⟩)
   ·exact .inr (.inl ⟨h,h1⟩)
   ·exact .inr (.inr (.inr ⟨h.symm,h1⟩))
  ·exact .inr (.inr (.inl h))
theorem aoC{s r:cm}:leT s r↔tY s r∨s=r:=Iff.rfl
theorem DI{s r:cm}:¬leT s r↔tY r s:=by
 rw[aoC];constructor
 ·intro h;rcases pD s r with h1|h1|h1
  ·exact absurd (.inl h1) h
  ·exact absurd (.inr h1) h
  ·exact h1
 ·rintro h (h1|h1)
  ·exact f_ _ (lq h h1)
  ·subst h1;exact f_ _ h
theorem XM{s r:cm}:¬tY s r↔leT r s:=by rw[<-DI,jN]
theorem ajW{a b c:cm}(h:leT a b)(k:tY b c):tY a c:=h.elim (λh=>lq h k) (λh=>h▸k)
theorem aj6{a b c:cm}(h:tY a b)(k:leT b c):tY a c:=k.elim (λk=>lq h k) (λk=>k▸h)
theorem lF.lt{l:List cm}(h:lF l):∀(j i:Nat),i<j->j<E l->tY (l.getD i []) (l.getD j [])
 |0,i,Jv,_=>absurd Jv aa
 |j+1,i,Jv,hj=>by
  have h1:=(h.1 (j+1) hj).2.2;rw[J3,DI]at h1;by_cases e:i=j
  ·rw[e];exact h1
  ·exact lq (lF.lt h j i aa aa) h1
theorem lF.inj{l:List cm}(h:lF l){i j:Nat}(hi:i<E l)(hj:j<E l)(he:l.getD i []=l.getD j []):i=j:=by
 rcases Nat.lt_trichotomy i j with h1|h1|h1
 ·exact absurd (he▸h.lt j i h1 hj) (f_ _)
 ·exact h1
 ·exact absurd (he▸h.lt i j h1 hi) (f_ _)
def plK(l:List cm)(s:cm)(k:Nat):Prop:=k<=E l∧(∀i,i<k->tY (l.getD i []) s)∧(∀i,k<=i->i<E l->¬tY (l.getD i []) s)
def bgT(x s:cm):Prop:=E s<=E x∧x.take (E s)=s
instance (x s:cm):Decidable (bgT x s):=inferInstanceAs (Decidable (_∧_))
end Go.Proofs.YtaodmbolhoafcaaGreatDoor
namespace Go.Proofs
open Go.RowKit Go.Maps Go.Sort Go.Shelf
theorem Px:type_of% @List.length_mergeSort:= @List.length_mergeSort
def Tryz.sortS_ren:Go.Shelf.Ren:=⟨λ|6=>159|8=>211|9=>215|19=>252|20=>253|21=>254|22=>255|23=>256|24=>257|25=>258|26=>259|27=>260|28=>261|29=>262|36=>289|31=>290|32=>291|37=>292|38=>293|39=>294|41=>319|n=>n,λ|27=>87|29=>9|3=>3|32=>192|26=>87|0=>0|44=>135|46=>60|4=>4|36=>358|35=>357|41=>348|5=>5|9=>9|53=>398|57=>401|63=>432|64=>285|n=>n,λ|n=>n⟩
theorem Tryz.sortS:Go.Proofs.SlLaysM.n6 Tryz.prog Tryz.sortS_ren:={
 mixed:=by kernel_rfl
 f6:=⟨Tryz.f159.name,by decide,Tryz.func159.trans (congrArg some (by kernel_rfl))⟩
 f8:=Tryz.func211.trans (congrArg some (by kernel_rfl))
 f9:=⟨Tryz.f215.name,by decide,Tryz.func215.trans (congrArg some (by kernel_rfl))⟩
 f19:=Tryz.func252.trans (congrArg some (by kernel_rfl))
 f20:=Tryz.func253.trans (congrArg some (by kernel_rfl))
 f21:=⟨Tryz.f254.name,by decide,Tryz.func254.trans (congrArg some (by kernel_rfl))⟩
 f22:=⟨Tryz.f255.name,by decide,Tryz.func255.trans (congrArg some (by kernel_rfl))⟩
 f23:=⟨Tryz.f256.name,by decide,Tryz.func256.trans (congrArg some (by kernel_rfl))⟩
 f24:=⟨Tryz.f257.name,by decide,Tryz.func257.trans (congrArg some (by kernel_rfl))⟩
 f25:=⟨Tryz.f258.name,by decide,Tryz.func258.trans (congrArg some (by kernel_rfl))⟩
 f26:=⟨Tryz.f259.name,by decide,Tryz.func259.trans (congrArg some (by kernel_rfl))⟩
 f27:=⟨Tryz.f260.name,by decide,Tryz.func260.trans (congrArg some (by kernel_rfl))⟩
 f28:=⟨Tryz.f261.name,by decide,Tryz.func261.trans (congrArg some (by kernel_rfl))⟩
 f29:=⟨Tryz.f262.name,by decide,Tryz.func262.trans (congrArg some (by kernel_rfl))⟩
 f31:=Tryz.func290.trans (congrArg some (by kernel_rfl))
 f32:=Tryz.func291.trans (congrArg some (by kernel_rfl))
 f36:=⟨Tryz.f289.name,by decide,Tryz.func289.trans (congrArg some (by kernel_rfl))⟩
 f37:=⟨Tryz.f292.name,by decide,Tryz.func292.trans (congrArg some (by kernel_rfl))⟩
 f38:=⟨Tryz.f293.name,by decide,Tryz.func293.trans (congrArg some (by kernel_rfl))⟩
 f39:=⟨Tryz.f294.name,by decide,Tryz.func294.trans (congrArg some (by kernel_rfl))⟩
 f41:=⟨Tryz.f319.name,by decide,Tryz.func319.trans (congrArg some (by kernel_rfl))⟩
 t0:=Tryz.underlying0
 a0:=Tryz.isAgg0
 z0:=Tryz.sizeOf0
 v0:=Tryz.zeroValue0
 t3:=Tryz.underlying3
 a3:=Tryz.isAgg3
 z3:=Tryz.sizeOf3
 v3:=Tryz.zeroValue3
 t4:=Tryz.underlying4
 a4:=Tryz.isAgg4
 z4:=Tryz.sizeOf4
 v4:=Tryz.zeroValue4
 t5:=Tryz.underlying5
 a5:=Tryz.isAgg5
 z5:=Tryz.sizeOf5
 v5:=Tryz.zeroValue5
 t9:=Tryz.underlying9
 a9:=Tryz.isAgg9
 z9:=Tryz.sizeOf9
 v9:=Tryz.zeroValue9
 t26:=Tryz.underlying87
 a26:=Tryz.isAgg87
 z26:=Tryz.sizeOf87
 v26:=Tryz.zeroValue87
 t27:=Tryz.underlying87
 a27:=Tryz.isAgg87
 z27:=Tryz.sizeOf87
 v27:=Tryz.zeroValue87
 t29:=Tryz.underlying9
 a29:=Tryz.isAgg9
 z29:=Tryz.sizeOf9
 v29:=Tryz.zeroValue9
 t32:=Tryz.underlying192
 a32:=Tryz.isAgg192
 z32:=Tryz.sizeOf192
 v32:=Tryz.zeroValue192
 t35:=Tryz.underlying357
 a35:=Tryz.isAgg357
 z35:=Tryz.sizeOf357
 v35:=Tryz.zeroValue357
 t36:=Tryz.underlying358
 a36:=Tryz.isAgg358
 z36:=Tryz.sizeOf358
 v36:=Tryz.zeroValue358
 t41:=Tryz.underlying348
 a41:=Tryz.isAgg348
 z41:=Tryz.sizeOf348
 v41:=Tryz.zeroValue348
 t44:=Tryz.underlying135
 a44:=Tryz.isAgg135
 z44:=Tryz.sizeOf135
 v44:=Tryz.zeroValue135
 t46:=Tryz.underlying60
 a46:=Tryz.isAgg60
 z46:=Tryz.sizeOf60
 v46:=Tryz.zeroValue60
 t53:=Tryz.underlying398
 a53:=Tryz.isAgg398
 z53:=Tryz.sizeOf398
 v53:=Tryz.zeroValue398
 t57:=Tryz.underlying401
 a57:=Tryz.isAgg401
 z57:=Tryz.sizeOf401
 v57:=Tryz.zeroValue401
 t63:=Tryz.underlying432
 a63:=Tryz.isAgg432
 z63:=Tryz.sizeOf432
 v63:=Tryz.zeroValue432
 t64:=Tryz.underlying285
 a64:=Tryz.isAgg285
 z64:=Tryz.sizeOf285
 v64:=Tryz.zeroValue285}
def Tryz.compS_ren:Go.Shelf.Ren:=⟨λ|44=>160|n=>n,λ|25=>87|26=>9|3=>3|4=>4|0=>0|n=>n,λ|n=>n⟩
theorem Tryz.compS:Go.Proofs.SlLaysN.n44 Tryz.prog Tryz.compS_ren:={
 mixed:=by kernel_rfl
 f44:=⟨Tryz.f160.name,by decide,Tryz.func160.trans (congrArg some (by kernel_rfl))⟩
 t0:=Tryz.underlying0
 a0:=Tryz.isAgg0
 z0:=Tryz.sizeOf0
 v0:=Tryz.zeroValue0
 t3:=Tryz.underlying3
 a3:=Tryz.isAgg3
 z3:=Tryz.sizeOf3
 v3:=Tryz.zeroValue3
 t4:=Tryz.underlying4
 a4:=Tryz.isAgg4
 z4:=Tryz.sizeOf4
 v4:=Tryz.zeroValue4
 t25:=Tryz.underlying87
 a25:=Tryz.isAgg87
 z25:=Tryz.sizeOf87
 v25:=Tryz.zeroValue87
 t26:=Tryz.underlying9
 a26:=Tryz.isAgg9
 z26:=Tryz.sizeOf9
 v26:=Tryz.zeroValue9
 i26:=by kernel_rfl}
namespace YtaodmbolhoafcaaGreatDoor
set_option linter.unusedVariables false
variable{B:Nat}{w0:World}{F:aR}{A:bk}{c:Nat}
def Xx(x y:al):Bool:=decide (x<=y)
theorem apB{l:ew}(hl:E l<4611686018427387904):
  aZ B w0 159 [.slice A (E l) c] (.own 9 1 A (E l) c (strs l)::F) (λr L=>r= .tuple #[]∧L= .own 9 1 A (E l) c (strs (l.mergeSort Xx))::F):=by
 intro w hw;obtain⟨k1,k2,k3⟩:=hw.head;by_cases h0:E l=0
 ·have hl0:l=[]:=mS h0;subst hl0;refine(AnyM.slices_Sort_string_none Tryz.sortS A c w).mono λe w' ⟨he,Ib⟩=>?_;subst Ib;exact⟨_,_,he,⟨rfl,ak⟩,hw⟩
 ·have rC:¬c=0:=by omega
  obtain⟨g,cur,rfl,hbg,hg,hm,hs,ht⟩:=k3.resolve_left rC;rw[cH]at ht;refine(AnyM.slices_Sort_string Tryz.sortS g 0 c l w (holds_of_block hg ht) ((k_3.1 hg).1) hl).mono λe w' ⟨he,n,os,Ib⟩=>?_;have hlen:E (l.mergeSort λx y=>decide (x<=y))=E l:=Px _;have RO:(Ch.own 9 1 (some ⟨g,0,none⟩) (E l) c (strs l)).fp=some g:=by simp[Ch.fp,rC]
  have Js:=grownBy_sorted (w:=w) (g:=g) (n:=n) (os:=os) (l.mergeSort λx y=>decide (x<=y)).toArray;rw[<-Ib]at Js;refine⟨_,_,he,⟨rfl,rfl⟩,hw.MB (by rw[RO];exact Js) ⟨?_,k2,.inr ⟨g,_,rfl,hbg,by rw[Ib];exact heap_sorted _ hg,hm,by simpa[putCells]using hs,?_⟩⟩ (.inr (.inl (by simp[Ch.fp])))⟩
  ·simp
  ·rw[cH,<-hlen];exact take_putCells cur _ (by rw[hlen];omega)
theorem Ew(zs:ew):E (Lib.compact zs)<=E zs:=by
 unfold Lib.compact Lib.compactUpTo;rw[dX];exact jz (zb _ _) ak
theorem Zv{l:ew}(hl:E l<4611686018427387904):
  aZ B w0 160 [.slice A (E l) c] (.own 9 1 A (E l) c (strs l)::F) (λr L=>r= .slice A (E (Lib.compact l)) c∧L= .own 9 1 A (E (Lib.compact l)) c (strs (Lib.compact l))::F):=by
 intro w hw;obtain⟨k1,k2,k3⟩:=hw.head;have hle:=Ew l;by_cases h0:E l=0
 ·have hl0:l=[]:=mS h0;subst hl0;refine(AnyG.slices_Compact_string_empty Tryz.compS A c w).mono λe w' ⟨he,Ib⟩=>?_;subst Ib;exact⟨_,_,he,⟨rfl,by simp[Lib.compact,Lib.compactUpTo,strs]⟩,hw⟩
 ·have rC:¬c=0:=by omega
  obtain⟨g,cur,rfl,hbg,hg,hm,hs,ht⟩:=k3.resolve_left rC;rw[cH]at ht;refine(AnyG.slices_Compact_string Tryz.compS g 0 c l w (holds_of_block hg ht) aa k2).mono λe w' ⟨he,q,Ib⟩=>?_;obtain⟨ys,hys⟩:=cK (Lib.compact l++List.replicate (E l-E (Lib.compact l)) []);have hyl:E ys=E l:=by rw[hys];simp;omega
  rw[<-hys]at Ib;have RO:(Ch.own 9 1 (some ⟨g,0,none⟩) (E l) c (strs l)).fp=some g:=by simp[Ch.fp,rC]
  have Js:=grownBy_sorted (w:=w) (g:=g) (n:=q) (os:= #[]) ys.toArray;have hh:=heap_sorted (n:=q) (os:= #[]) ys.toArray hg;rw[grow_empty,<-Ib]at Js hh;refine⟨_,_,he,⟨rfl,rfl⟩,hw.MB (by rw[RO];exact Js) ⟨ak,aa,.inr ⟨g,_,rfl,hbg,hh,hm,by simpa[putCells]using hs,?_⟩⟩ (.inr (.inl (by simp[Ch.fp])))⟩;have ht2:=take_putCells cur ys (by rw[hyl];omega);have:=dQ (List.take (E (Lib.compact l))) ht2;rw[LS,hyl,xH hle]at this;rw[cH,this,<-p_,hys,zh];rfl
end YtaodmbolhoafcaaGreatDoor
end Go.Proofs
namespace Go.Proofs.YtaodmbolhoafcaaGreatDoor
set_option linter.unusedVariables false
set_option linter.unusedSimpArgs false
set_option maxRecDepth 20000
variable{B:Nat}{w0:World}{F:aR}{A:bk}{c n:Nat}{A2:bk}{n2 c2 g:Nat}{s:Cs}
def small(c:UInt8):UInt8:=if 65<=c.toNat∧c.toNat<=90 then c+32 else if 97<=c.toNat∧c.toNat<=122∨48<=c.toNat∧c.toNat<=57 then c else 0
def emit(row:al):ew:=if row=[] then [] else [row.take 24]
def m9(st:ew×al)(c:UInt8):ew×al:=
 if small c≠0 then (st.1,st.2++[small c]) else (st.1++emit st.2,[])
theorem Ks{ws:ew}{row:al}{c:UInt8}(h:small c≠0):m9 (ws,row) c=(ws,row++[small c]):=ao h
theorem Ru{ws:ew}{row:al}{c:UInt8}(h:small c=0):m9 (ws,row) c=(ws++emit row,[]):=aw ng
def wst(l:al):ew×al:=l.foldl m9 ([],[])
def nP(l:al):ew:=(wst l).1++emit (wst l).2
theorem ah2(l:al)(c:UInt8):wst (l++[c])=m9 (wst l) c:=by simp[wst]
theorem ET(row:al):E (emit row)<=E row:=by
 unfold emit;split
 ·simp
 ·rename_i h;have:0<E row:=by rcases row with _|⟨x,r⟩;exact absurd rfl h;simp
  simp;omega
theorem ML(l:al):E (wst l).1+E (wst l).2<=E l:=by
 have:∀l:al,∀st:ew×al,E (l.foldl m9 st).1+E (l.foldl m9 st).2<=E st.1+E st.2+E l:=by
  intro l;induction l with
  |nil=>intro st;simp
  |cons c r ih=>
   intro st;have h:=ih (m9 st c);have hs:E (m9 st c).1+E (m9 st c).2<=E st.1+E st.2+1:=by
    unfold m9;split
    ·simp;omega
    ·have:=ET st.2;simp;omega
   simp only[aaz,dI];omega
 simpa[wst]using this l ([],[])
theorem x6(l:al):E (nP l)<=E l:=by
 have h1:=ML l;have h2:=ET (wst l).2;unfold nP;simp;omega
def vD(l:al):al:=((l.takeWhile λc=>small c≠0).map small).take 24
def ub:Bool->al->ew
 |_,[]=>[]
 |prev,c::r=>if small c=0∨prev=true then ub (decide (small c≠0)) r else vD (c::r)::ub true r
theorem ud{α:Type}(p:α->Bool)(a:List α)(c:α)(r:List α)(ha:∀x∈a,p x=true)(hc:p c=false):(a++c::r).takeWhile p=a:=by
 induction a with
 |nil=>simp[hc]
 |cons x a ih=>
  simp only[mX,List.takeWhile_cons,ha x ak,if_true];rw[ih λy hy=>ha y wN]
theorem Iv{α:Type}(p:α->Bool)(a:List α)(ha:∀x∈a,p x=true):a.takeWhile p=a:=by
 induction a with
 |nil=>rfl
 |cons x a ih=>
  simp only[List.takeWhile_cons,ha x ak,if_true];rw[ih λy hy=>ha y wN]
theorem Gx(c:UInt8)(r:al)(hc:small c=0)(b:Bool):ub b (c::r)=ub false r:=by
 simp[ub,hc]
theorem adR:∀(l:al) (ws:ew) (a:al),(∀x∈a,small x≠0)->
  (l.foldl m9 (ws,a.map small)).1++emit (l.foldl m9 (ws,a.map small)).2=
   ws++(if a=[] then ub false l else vD (a++l)::ub true l):=by
 intro l;induction l with
 |nil=>
  intro ws a ha;rcases a with _|⟨x,a⟩
  ·simp[emit,ub]
  ·simp only[List.foldl_nil,emit,kh,ub,gl];rw[aw ak,aw ak];unfold vD;rw[Iv _ _ λy hy=>by simpa using ha y hy];rfl
 |cons c r ih=>
  intro ws a ha;rw[aaz];by_cases hc:small c=0
  ·have e:m9 (ws,a.map small) c=(ws++emit (a.map small),[]):=by unfold m9;rw[aw V3]
   rw[e];have:=ih (ws++emit (a.map small)) [] ak;simp only[Ih,if_true]at this;rw[this,bX];congr 1;rcases a with _|⟨x,a⟩
   ·simp[emit,ub,hc]
   ·rw[aw ak];unfold emit;rw[aw ak,Gx c r hc];unfold vD;rw[ud _ _ c r (λy hy=>by simpa using ha y hy) V3];rfl
  ·have e:m9 (ws,a.map small) c=(ws,(a++[c]).map small):=by unfold m9;rw[ao V3];simp
   rw[e];have:=ih ws (a++[c]) (by intro y hy;rcases dz.1 hy with h|h;exact ha y h;simp at h;subst h;exact hc);rw[this,aw ak];congr 1;rcases a with _|⟨x,a⟩
   ·simp[ub,hc]
   ·rw[aw ak,bX];simp[ub,hc]
theorem aca(l:al):nP l=ub false l:=by
 have:=adR l [] [] ak;simpa[nP,wst]using this
end Go.Proofs.YtaodmbolhoafcaaGreatDoor
