/-
  Texts of one proof, joined: part 8. No condition.
-/
import Derived.Test.YtaodmbolhoafcaaGreatDoorZv7
import Derived.DeepKeys4
import Derived.WideKeyArr
open List renaming length→E
open Go.RowKit Go.Proofs.Tryz
namespace Go.Proofs.YtaodmbolhoafcaaGreatDoor
set_option linter.unusedVariables false
set_option linter.unusedSimpArgs false
set_option maxRecDepth 20000
variable{a:Nat}{Q P S:br}{i j m f:Nat}{R:br}{p:Nat}{q:Int}{out:aq}{t:bG}{r:List bG}{X U V Y:br}{leaf row:List cA}{v:Int}{U1 U2 V1 V2:br}{B:Nat}{w0:World}{F L M:aN}{A A2 A3:bh}{n c c2 c3 g:Nat}{l b:aq}{es:List MapEntry}{cl:Nat}{most:Int}{Ao:bh}{co N:Nat}{o:Nat->Nat}{D:br}{A1:bh}{c1:Nat}
section
theorem TS(x y:aZ)(w:World):(Op.equalIn 10000 23 (.agg (aZ.cells x).toArray) (.agg (aZ.cells y).toArray)).run Tryz.prog w= .ok (decide (x=y)) w:=by
 have p0:=λ(z:aZ) w=>iz (P:=Tryz.prog) (t:=3) (xs:=(aZ.cells z).toArray) (off:=0) (v:=ah z.1) ae rfl w;have p1:=λ(z:aZ) w=>iz (P:=Tryz.prog) (t:=4) (xs:=(aZ.cells z).toArray) (off:=1) (v:=.bool z.2.1) ae rfl w;have p2:=λ(z:aZ) w=>iz (P:=Tryz.prog) (t:=3) (xs:=(aZ.cells z).toArray) (off:=2) (v:=ah z.2.2.1) ae rfl w;have p3:=λ(z:aZ) w=>iz (P:=Tryz.prog) (t:=3) (xs:=(aZ.cells z).toArray) (off:=3) (v:=ah z.2.2.2.1) ae rfl w;have p4:=λ(z:aZ) w=>iz (P:=Tryz.prog) (t:=3) (xs:=(aZ.cells z).toArray) (off:=4) (v:=ah z.2.2.2.2.1) ae rfl w;have p5:=λ(z:aZ) w=>iz (P:=Tryz.prog) (t:=3) (xs:=(aZ.cells z).toArray) (off:=5) (v:=ah z.2.2.2.2.2) ae rfl w;have q0:=λ(a b:Int) w=>run_equalIn_int (P:=Tryz.prog) w 9998 3 .i64 .i64 a b underlying3;have q1:=λ(a b:Bool) w=>run_equalIn_bool' (P:=Tryz.prog) w 9998 4 a b underlying4;rw[run_equalIn_agg w 9999 _ _ _ ae ae];simp only[Program.fieldsOf,underlying23];simp[Op.eqFields,p0,p1,p2,p3,p4,p5];rw[q0];obtain⟨a,b,s,f,t,u⟩:=x;obtain⟨a',b',s',f',t',u'⟩:=y;by_cases h0:a=a'
 ·have e0:(a==a')=true:=by simp[h0]
  simp only[e0,xx];rw[q1];by_cases h1:b=b'
  ·have e1:(b==b')=true:=by simp[h1]
   simp only[e1,xx];rw[q0];by_cases h2:s=s'
   ·have e2:(s==s')=true:=by simp[h2]
    simp only[e2,xx];rw[q0];by_cases h3:f=f'
    ·have e3:(f==f')=true:=by simp[h3]
     simp only[e3,xx];rw[q0];by_cases h4:t=t'
     ·have e4:(t==t')=true:=by simp[h4]
      simp only[e4,xx];rw[q0];by_cases h5:u=u'
      ·simp[h0,h1,h2,h3,h4,h5]
      ·have h':(u==u')=false:=by rw[ma];exact h5
       simp[h5,h']
     ·have h':(t==t')=false:=by rw[ma];exact h4
      simp[h4,h']
    ·have h':(f==f')=false:=by rw[ma];exact h3
     simp[h3,h']
   ·have h':(s==s')=false:=by rw[ma];exact h2
    simp[h2,h']
  ·have h':(b==b')=false:=by rw[ma];exact h1
   simp[h1,h']
 ·have h':(a==a')=false:=by rw[ma];exact h0
  simp[h0,h']
section
variable{C:Cx}{fr:Fr}{L:aN}{x y:Operand}{ty yt:TypeId}{p q:aZ}
theorem uu(hP:C.P=Tryz.prog)(p q:aZ)(h1:ev fr x=some (.agg (aZ.cells p).toArray))(h2:ev fr y=some (.agg (aZ.cells q).toArray)):gX C fr L (.binOp .eql 23 x y yt) ty (.bool (decide (p=q))):=λa w ha hw d pos af g=>by
 have he:(eqGuard .eql 23 x y (.agg (aZ.cells p).toArray) (.agg (aZ.cells q).toArray)).run C.P w= .ok () w:=by rw[hP];exact run_eqGuard_agg w .eql _ x y _ _ ae
 have e1:(binOp .eql 23 (.agg (aZ.cells p).toArray) (.agg (aZ.cells q).toArray)).run C.P w= .ok (.bool (decide (p=q))) w:=by
  rw[hP,run_eql_struct,TS];simp
 simp only[execOp,ha.tmp h1,ha.tmp h2,Te,he,e1,xx,OT]
end
theorem u5{o:aZ}(h:v=1\/v=2\/v=3)(h2:¬ju v o):dF v o=9:=by unfold dF;rw[av h,aB h2]
theorem TR{o:aZ}(h:v=1\/v=2\/v=3)(h2:ju v o):dF v o=0:=by unfold dF;rw[av h,av h2]
theorem aod{o:aZ}(h:¬(v=1\/v=2\/v=3)):dF v o=4:=by unfold dF;rw[aB h]
theorem kU(v:Int)(o:aZ):bg B w0 61 [ah v,.agg (aZ.cells o).toArray] F (λr L=>r=ah (dF v o)/\L=F):=by
 obtain⟨bl,pl,bu,da,pa,ch⟩:=o;refine cV func61 45 rfl rfl rfl [(0,ah v),(1,.agg #[ah bl,.bool pl,ah bu,ah da,ah pa,ah ch])] ⟨⟨rfl,rfl⟩,⟨rfl,rfl⟩,trivial⟩ ?_;refine bM 2 λg3=>?_;refine dg ?_;refine ai rfl (nV bl 16 32768) (bW 6 λg6=>?_);refine ag 26 (λjZ=>?_) λjZ=>?_
 ·refine bC 9 (λqM=>?_) λqM=>?_
  ·refine ew ?_;refine ai rfl (aaC (bl,pl,bu,da,pa,ch)) (aD 11 [3,5,6] 0 ?_);refine bC 6 (λkq=>?_) λkq=>?_
   ·refine fb ?_;refine ai rfl (nV bu 1 64) (bC 14 (λCe=>?_) λCe=>?_)
    ·refine dh ?_;refine ab (bw [(0,_),(1,_)] [ah 0,.bool false,ah 0,ah 0,ah 0,ah 0] [0,1] [_,_,_,_,_,_] rfl rfl ae) rfl (aX ?_);refine ab (uu rfl (bl,pl,0,0,0,0) (bl,pl,0,0,0,0) rfl rfl) rfl (aD 2 [5] 10 ?_);refine ab (lf rfl) rfl (fB 2 (λsm=>?_) λsm=>?_)
     ·refine dg ?_;refine ak (.s2 (.refl _)) (aX ?_)
      (exfalso;simp at sm;done)
     ·refine cY ?_;refine ak (.s2 (.refl _)) (aX ?_)
      (refine⟨eG (Value.int .i64) (TR aa ⟨(by assumption),λ_=>by assumption,λ_=>by assumption,λh=>absurd jZ h,λh=>aa⟩).symm,rfl⟩;done)
    ·refine aD 8 [5] 21 ?_;refine ak (.s2 (.refl _)) (aX ?_);exact⟨eG (Value.int .i64) (u5 aa (λh=>Ce (h.2.2.1 (.inl jZ)))).symm,rfl⟩
   ·refine aD 25 [5] 21 ?_;refine ak (.s2 (.refl _)) (aX ?_);exact⟨eG (Value.int .i64) (u5 aa (λh=>kq (h.2.1 jZ))).symm,rfl⟩
  ·refine aD 12 [3,5,6] 0 ?_;refine aD 32 [5] 21 ?_;refine ak (.s2 (.refl _)) (aX ?_);exact⟨eG (Value.int .i64) (u5 aa (λh=>qM h.1)).symm,rfl⟩
 ·refine ag 9 (λgT=>?_) λgT=>?_
  ·refine bC 11 (λkq=>?_) λkq=>?_
   ·refine fb ?_;refine ai rfl (nV bu 1 64) (aD 2 [3,5,6] 0 ?_);refine bC 11 (λCe=>?_) λCe=>?_
    ·refine dh ?_;refine ab (bw [(0,_),(1,_)] [ah 0,.bool false,ah 0,ah 0,ah 0,ah 0] [0,1] [_,_,_,_,_,_] rfl rfl ae) rfl (aX ?_);refine ab (uu rfl (bl,pl,0,da,pa,ch) (bl,pl,0,0,0,0) rfl rfl) rfl (bK 13 ?_);refine ab (lf rfl) rfl (fB 2 (λsm=>?_) λsm=>?_)
     ·refine aD 3 [4] 3 ?_;refine ak (.s2 (.refl _)) (aX ?_)
      (refine⟨eG (Value.int .i64) (u5 aa (λh=>?_)).symm,rfl⟩;have k:=h.2.2.2.1 aa;simp only at k;simp[k.1,k.2.1,k.2.2]at sm;done)
     ·refine aD 5 [4] 2 ?_;refine ak (.s2 (.refl _)) (aX ?_)
      (simp at sm;exact⟨eG (Value.int .i64) (TR aa ⟨(by assumption),λh=>by omega,λ_=>by assumption,λ_=>sm,λh=>aa⟩).symm,rfl⟩)
    ·refine aD 26 [4] 3 ?_;refine ak (.s2 (.refl _)) (aX ?_);exact⟨eG (Value.int .i64) (u5 aa (λh=>Ce (h.2.2.1 (.inr gT)))).symm,rfl⟩
   ·refine aD 4 [3,5,6] 0 ?_;refine aD 38 [4] 3 ?_;refine ak (.s2 (.refl _)) (aX ?_);exact⟨eG (Value.int .i64) (u5 aa (λh=>kq h.1)).symm,rfl⟩
  ·refine ag 8 (λj0=>?_) λj0=>?_
   ·refine bC 12 (λCe=>?_) λCe=>?_
    ·refine dh ?_;refine ab (bw [(0,_),(1,_)] [ah 0,.bool false,ah 0,ah 0,ah 0,ah 0] [0,1] [_,_,_,_,_,_] rfl rfl ae) rfl (aX ?_);refine ab (uu rfl (bl,pl,bu,da,pa,ch) (bl,pl,0,0,0,0) rfl rfl) rfl (aD 2 [5] 10 ?_);refine ab (lf rfl) rfl (fB 2 (λsm=>?_) λsm=>?_)
     ·refine dg ?_;refine ak (.s2 (.refl _)) (aX ?_)
      (refine⟨eG (Value.int .i64) (u5 aa (λh=>?_)).symm,rfl⟩;have k:=h.2.2.2.1 aa;have k2:=h.2.2.2.2 aa;simp only at k k2;simp[k.1,k.2.1,k.2.2,k2]at sm;done)
     ·refine cY ?_;refine ak (.s2 (.refl _)) (aX ?_)
      (simp at sm;exact⟨eG (Value.int .i64) (TR aa ⟨(by assumption),λh=>by omega,λh=>by omega,λ_=>sm.2,λ_=>sm.1⟩).symm,rfl⟩)
    ·refine aD 8 [5] 21 ?_;refine ak (.s2 (.refl _)) (aX ?_);exact⟨eG (Value.int .i64) (u5 aa (λh=>Ce h.1)).symm,rfl⟩
   ·refine aD 15 [4] 5 ?_;refine ak (.s2 (.refl _)) (aX ?_);exact⟨eG (Value.int .i64) (aod aa).symm,rfl⟩
end
theorem MN{P:Prop}(h:P:=by(simp[Value.oneCell'])):P:=h
theorem amU(p:Bool):bg B w0 64 [.bool p] F (λr L=>r= .int .u8 ((if p then (1:UInt8) else 0).toNat:Int)/\L=F):=by
 refine fw func64 4 [0] ?_;refine fB 11 (λh3=>?_) λh3=>?_
 ·refine cY ?_;exact⟨by rw[h3];rfl,rfl⟩
 ·refine dA ?_;exact⟨by rw[h3];rfl,rfl⟩
theorem Tx(v:Int):bg B w0 62 [ah v] F (λr L=>∃A' c',r= .tuple #[.slice A' (E (qu v).1) c',ah (qu v).2]/\L= .own 5 1 A' (E (qu v).1) c' (bv (qu v).1)::F):=by
 refine ba func62 13 [0] 10 ?_;refine ai rfl (nV v 1 3) (ag 3 (λh6=>?_) λh6=>?_)
 ·have e:qu v=([],4):=by unfold qu;rw[aB h6]
  refine cY ?_;refine aH 5 1 none (aX ?_);rw[e];exact⟨none,0,rfl,rfl⟩
 ·have hw:=b_ h6;have hv:v=1\/v=2\/v=3:=by have:=hw.1;have:=hw.2;omega
  have e:qu v=([70,73,82,75,UInt8.ofNat v.toNat],0):=by unfold qu;rw[av hw];rfl
  have hvv:((UInt8.ofNat v.toNat).toNat:Int)=v:=by rcases hv with rfl|rfl|rfl<;>rfl
  refine fb ?_;refine cv (aG bP [_,_,_,_] rfl rfl bY aa aa) λA7=>ou (Kt underlying27 underlying5 rfl aU aa) rfl ?_;rintro _ _ ⟨g8,cur,kk,rfl,hA8,auV,auD,yO,rfl⟩;subst hA8;refine aX ?_;refine ab (be underlying3 underlying5 rfl (r:=v) (by rcases hv with rfl|rfl|rfl<;>rfl)) rfl (cv (aG bP [_] rfl rfl bY aa aa) λtH=>dB (Kr bP rfl (aJ.obj (.tail _ (List.Mem.head _)) auV auD yO) aa rfl (aJ.own (.head _)) MN aa aa aa) λRn c12=>dx ?_);refine ak (.cons (.s2 (.refl _))) (aX ?_);rw[e];refine⟨Rn,c12,rfl,?_⟩;simp[bv];omega
section
open Go.RowKit Go.WideMaps
abbrev K3:=UInt8×UInt8×UInt8
def GG(k:K3):Value:=.agg #[.int .u8 (k.1.toNat:Int),.int .u8 (k.2.1.toNat:Int),.int .u8 (k.2.2.toNat:Int)]
theorem aiR{a b:K3}(h:GG a=GG b):a=b:=by
 obtain⟨a1,a2,a3⟩:=a;obtain⟨b1,b2,b3⟩:=b;simp only[GG,Value.agg.injEq,Array.mk.injEq,List.cons.injEq,Value.int.injEq,true_and,and_true,Int.natCast_inj]at h;obtain⟨h1,h2,h3⟩:=h;rw[oF.1 h1,oF.1 h2,oF.1 h3]
theorem ZH{P:Program}{k e:TypeId}{q:IntKind}(A:ArrKey P k e 3)(he:P.underlying e=some (.int q))(iy:∃m,P.types.size=m+1){a b c:Int}(wa:(Lit.int q a).wf=true)(wb:(Lit.int q b).wf=true)(wc:(Lit.int q c).wf=true):
  keyOf P k (.agg #[.int q a,.int q b,.int q c])=some (.string (keyBytes [.int q a,.int q b,.int q c])):=by
 have hkt:=A.keyType iy;obtain⟨m,hm⟩:=iy;unfold keyOf;simp only[A.hu];rw[av (by simp[hkt,Value.formed,A.hu,A.size]),hm];unfold Program.keyLits;simp only[A.hu,Value.cells];rw[av (by rw[A.size];rfl),show List.range 3=[0,1,2] from rfl,List.mapM_cons,List.mapM_cons,List.mapM_cons,List.mapM_nil];simp[A.one,Program.keyLits,he,wa,wb,wc]
theorem wf_u8(c:UInt8):(Lit.int .u8 (c.toNat:Int)).wf=true:=by
 have:=c.toNat_lt;have h:∀n:Fin 256,(Lit.int .u8 ((n:Nat):Int)).wf=true:=by decide+kernel
 exact h ⟨c.toNat,aa⟩
structure abu(P:Program)(t k e:TypeId):Prop where
 um:P.underlying t=some (.map k e)
 A:ArrKey P k 5 3
 he:P.underlying 5=some (.int .u8)
 sz:∃m,P.types.size=m+1
 z:∀w,(zeroValue e).run P w= .ok (ah 0) w
theorem abu.key{P:Program}{t k e:TypeId}(T:abu P t k e)(x:K3):∃l,keyOf P k (GG x)=some l:=⟨_,ZH T.A T.he T.sz (wf_u8 _) (wf_u8 _) (wf_u8 _)⟩
structure GM(es:List MapEntry)(b:aq)(m:Nat):Prop where
 ent:∀x∈es,∃(k:K3) (p:Nat),x.key=GG k/\x.val=ah (p:Int)/\dZ b k m=some p
 all:∀(k:K3) (p:Nat),dZ b k m=some p->∃x∈es,x.key=GG k
 nd:es.Pairwise λx y=>x.key≠y.key
theorem GM.nil(b:aq):GM [] b 0:=⟨λx h=>absurd h ao,λk p h=>absurd h (by simp[dZ]),List.Pairwise.nil⟩
theorem GM.skip{es:List MapEntry}{b:aq}{m:Nat}(h:GM es b m)(hm:E b<m+3):GM es b (m+1):=by
 have e:∀k,dZ b k (m+1)=dZ b k m:=λk=>by rw[dZ,aB aa]
 refine⟨λx hx=>?_,λk p hk=>h.all k p (by rw[<-e];exact hk),h.nd⟩;obtain⟨k,p,h1,h2,h3⟩:=h.ent x hx;exact⟨k,p,h1,h2,by rw[e];exact h3⟩
abbrev lkp(o:Option Nat):Value:=.tuple #[ah ((o.getD 0:Nat):Int),.bool o.isSome]
section
variable{C:Cx}{fr:Fr}{L:aN}{x y z:Operand}{f:Ch->aN}{t k e ty:TypeId}{g:Nat}{es:List MapEntry}{cl m:Nat}{b:aq}{s:K3}
theorem YQ(b:aq):ra C fr L (.makeMap t none) ty (λp L'=>∃g es cl,p= .map (some g)/\GM es b 0/\L'= .obj g (.map es.toArray cl)::L):=λa w ha hw d pos af gg=>
 ⟨.map (some w.heap.size),w.alloc (.map #[] 0),.obj w.heap.size (.map #[] 0)::L,.inl (by simp[execOp,run_makeMap_plain]),⟨w.heap.size,[],0,rfl,GM.nil b,rfl⟩,
  hw.gZ (KW w _ none) ⟨hw.base,(MapKept.heap_alloc w (.map #[] 0)).1⟩ (.inr ⟨_,rfl,ga _⟩)⟩
theorem Is(T:abu C.P t k e)(hm:ev fr x=some (.map (some g)))(hx:ev fr y=some (GG s))(hs:m9 (.obj g (.map es.toArray cl)) L f)(hk:GM es b m):
  gX C fr L (.lookup t x y true) ty (lkp (dZ b s m)):=λa w ha hw d pos af gg=>by
 have hb:w.heap[g]? =some (.map es.toArray cl):=(hw.all _ hs.mem).2;obtain⟨l,hl⟩:=T.key s;have hc:∀em,(Instr.checkKey em 10000 k (GG s)).run C.P w= .ok () w:=λem=>T.A.law.check w em hl;have hf:=T.A.law.find w hl es λen hen=>by
  obtain⟨k',p,h1,_,_⟩:=hk.ent en hen;rw[h1];exact T.key k'
 rcases hf with⟨hf,rz⟩|⟨j,en,hf,hj,xo⟩
 ·have hn:dZ b s m=none:=by
   cases hh:dZ b s m with
   |none=>rfl
   |some p=>
    obtain⟨en,hen,hke⟩:=hk.all s p hh;exact absurd hke (rz en hen)
  rw[hn];simp[execOp,ha.tmp hm,ha.tmp hx,Instr.lookup,jk T.um,Cw hb,hc,hf,T.z,Result.andThen,lkp]
 ·obtain⟨k',p,h1,h2,h3⟩:=hk.ent en (List.mem_of_getElem? hj);have Mv:k'=s:=aiR (h1.symm.trans xo);subst Mv;rw[h3];simp[execOp,ha.tmp hm,ha.tmp hx,Instr.lookup,jk T.um,Cw hb,hc,hf,Result.andThen,h2,lkp]
theorem GM.put{es:List MapEntry}{b:aq}{m:Nat}{en:MapEntry}(h:GM es b m)(hm:m+3<=E b)(hj:es[j]? =some en)(hk:en.key=GG (fE b m)):GM (es.modify j λe=>{e with key:=GG (fE b m),val:=ah (m:Int)}) b (m+1):=by
 have hjl:j<E es:=(Hi.1 hj).1;have hje:es[j]=en:=(Hi.1 hj).2;have hnd:=qq.1 h.nd;have xo:∀i (hi:i<E es),((es.modify j λe=>{e with key:=GG (fE b m),val:=ah (m:Int)})[i]'HZ).key=es[i].key:=λi hi=>by
  rw[List.getElem_modify];split
  ·rename_i e;subst e;rw[hje,hk]
  ·rfl
 refine⟨λx hx=>?_,λk p hp=>?_,?_⟩
 ·obtain⟨i,hi,rfl⟩:=mF hx;have SO:i<E es:=by simpa using hi
  rw[List.getElem_modify];by_cases e:j=i
  ·rw[av e];exact⟨fE b m,m,rfl,rfl,by rw[dZ,av ⟨hm,rfl⟩]⟩
  ·rw[aB e];obtain⟨k,p,h1,h2,h3⟩:=h.ent es[i] (uH SO);refine⟨k,p,h1,h2,?_⟩;rw[dZ,aB ?_];exact h3;rintro⟨_,Mu⟩;have tO:es[j].key≠es[i].key:=by
    rcases Nat.lt_or_gt_of_ne e with q|q
    ·exact hnd j i hjl SO q
    ·exact λe2=>hnd i j SO hjl q e2.symm
   exact tO (by rw[hje,hk,h1,Mu])
 ·rw[dZ]at hp;by_cases hc:m+3<=E b/\fE b m=k
  ·refine⟨(es.modify j λe=>{e with key:=GG (fE b m),val:=ah (m:Int)})[j]'(by simpa using hjl),uH _,?_⟩;rw[xo j hjl,hje,hk,hc.2]
  ·rw[aB hc]at hp;obtain⟨x,hx,EK⟩:=h.all k p hp;obtain⟨i,hi,rfl⟩:=mF hx;exact⟨(es.modify j λe=>{e with key:=GG (fE b m),val:=ah (m:Int)})[i]'HZ,uH _,by rw[xo i hi];exact EK⟩
 ·refine qq.2 λi i2 hi hi2 gU=>?_;have h1:i<E es:=by simpa using hi
  have h2:i2<E es:=by simpa using hi2
  rw[xo i h1,xo i2 h2];exact hnd i i2 h1 h2 gU
theorem GM.add{es:List MapEntry}{b:aq}{m:Nat}(h:GM es b m)(hm:m+3<=E b)(rz:∀e∈es,e.key≠GG (fE b m)):GM (es++[{key:=GG (fE b m),val:=ah (m:Int),born:=n}]) b (m+1):=by
 refine⟨λx hx=>?_,λk p hp=>?_,?_⟩
 ·rcases dO.1 hx with hx|hx
  ·obtain⟨k,p,h1,h2,h3⟩:=h.ent x hx;refine⟨k,p,h1,h2,?_⟩;rw[dZ,aB ?_];exact h3;rintro⟨_,Mu⟩;exact rz x hx (by rw[h1,Mu])
  ·rw[kT.1 hx];exact⟨fE b m,m,rfl,rfl,by rw[dZ,av ⟨hm,rfl⟩]⟩
 ·rw[dZ]at hp;by_cases hc:m+3<=E b/\fE b m=k
  ·exact⟨_,mG _ (kT.2 rfl),by rw[hc.2]⟩
  ·rw[aB hc]at hp;obtain⟨x,hx,EK⟩:=h.all k p hp;exact⟨x,ku _ hx,EK⟩
 ·refine rI.2 ⟨h.nd,List.pairwise_singleton _ _,λx hx y hy=>?_⟩;rw[kT.1 hy];exact rz x hx
theorem NJ(T:abu C.P t k e)(hm:ev fr x=some (.map (some g)))(hx:ev fr y=some (GG (fE b m)))(hv:ev fr z=some (ah (m:Int)))(hs:m9 (.obj g (.map es.toArray cl)) L f)(hk:GM es b m)(hb3:m+3<=E b):
  ra C fr L (.mapUpdate t x y z) ty (λp L'=>∃es' cl',GM es' b (m+1)/\L'=f (.obj g (.map es'.toArray cl'))):=λa w ha hw d pos af gg=>by
 have hb:w.heap[g]? =some (.map es.toArray cl):=(hw.all _ hs.mem).2;obtain⟨l,hl⟩:=T.key (fE b m);have hc:∀em,(Instr.checkKey em 10000 k (GG (fE b m))).run C.P w= .ok () w:=λem=>T.A.law.check w em hl;have hf:=T.A.law.find w hl es λen hen=>by
  obtain⟨k',p,h1,_,_⟩:=hk.ent en hen;rw[h1];exact T.key k'
 have gU:=(Hh.1 hb).1;have lB:∀o,SL C.B C.w0 (f (.obj g o)) {w with heap:=w.heap.setIfInBounds g o}:=λo=>
  hw.Xx hs ⟨rfl,rfl,rfl,ao,λj _ hj=>by
   have:g≠j:=λe=>hj H6;simp[this]⟩ (λh=>⟨h.1,by simp[gU]⟩) (.inr (.inl rfl))
 rcases hf with⟨hf,rz⟩|⟨j,en,hf,hj,xo⟩
 ·refine⟨undef,_,_,.inr ⟨?_,rfl⟩,⟨es++[{key:=GG (fE b m),val:=ah (m:Int),born:=cl}],cl+1,hk.add hb3 rz,rfl⟩,lB _⟩;simp[execOp,ha.tmp hm,ha.tmp hx,ha.tmp hv,Instr.mapUpdate,jk T.um,Cw hb,hc,hf,MapKept.run_setObj_map _ hb,Result.andThen]
 ·have hky:=T.A.law.stays w hl;have Mu:((es.toArray[j]?).map (·.key)).getD (GG (fE b m))=GG (fE b m):=by
   rw[List.getElem?_toArray,hj];exact xo
  refine⟨undef,_,_,.inr ⟨?_,rfl⟩,⟨es.modify j λe=>{e with key:=GG (fE b m),val:=ah (m:Int)},cl,hk.put hb3 hj xo,rfl⟩,lB _⟩;simp only[execOp,ha.tmp hm,ha.tmp hx,ha.tmp hv,Instr.mapUpdate];simp[jk T.um,Cw hb,hc,hf,Result.andThen];simp at Mu;simp[Mu,hky,MapKept.run_setObj_map _ hb]
end
theorem k3T:abu Tryz.prog 298 350 3:=⟨ae,⟨ae,ae,ae,ae⟩,ae,⟨Tryz.prog.types.size-1,ae⟩,λw=>ae⟩
end
def bG.cells(t:bG):cQ:=[.int .u8 (t.1.toNat:Int),ah t.2.1,ah t.2.2]
theorem aeq(t:bG):bg B w0 281 [.agg (bG.cells t).toArray] F (λr L=>r= .bool (decide (dX t))/\L=F):=by
 obtain⟨x,n,d⟩:=t;have hx:x=0↔((x.toNat:Nat):Int)=0:=⟨λh=>by rw[h];rfl,λh=>oF.1 (show x.toNat=(0:UInt8).toNat from by have e:(0:UInt8).toNat=0:=rfl;omega)⟩
 have hp:¬n=0->(dX (x,n,d)↔((x.toNat:Nat):Int)=0/\3<=n/\n<=257/\1<=d/\d<=4095):=λh=>by unfold dX;rw[aB h];exact and_congr hx Iff.rfl
 have hz:n=0->(dX (x,n,d)↔d=0):=λh=>by unfold dX;rw[av h]
 refine cV func281 32 rfl rfl rfl [(0,.agg #[.int .u8 (x.toNat:Int),ah n,ah d])] ⟨⟨rfl,rfl⟩,trivial⟩ ?_;refine bM 2 λg1=>?_;refine ag 11 (λh5=>?_) λh5=>?_
 ·refine dh ?_;refine ak (L':=F) (.skip (.refl _)) (aX ?_);exact⟨eG Value.bool (xz.2 (hz h5).symm),rfl⟩
 ·refine bf 4 23 31 [] (((x.toNat:Nat):Int)=0/\3<=n/\n<=257/\1<=d/\d<=4095) ?_ ?_
  ·refine bC 4 (λjZ=>?_) λjZ=>?_
   ·refine bC 7 (λgH=>?_) λgH=>?_
    ·refine bC 7 (λrq=>?_) λrq=>?_
     ·refine bC 7 (λkq=>?_) λkq=>?_
      ·exact ax 6 (k:=oJ)
      ·exact ax 3 (k:=wo)
     ·exact ax 8 (k:=wo)
    ·exact ax 13 (k:=wo)
   ·exact ax 18 (k:=wo)
  ·refine fb ?_;refine ak (L':=F) (.skip (.refl _)) (aX ?_);exact⟨eG Value.bool (xz.2 (hp h5).symm),rfl⟩
section
variable{gm:Nat}
theorem akU{P:Prop}(h:P:=by(rintro _ _ ⟨es6,cl6,hk6,rfl⟩;exact gI)):P:=h
theorem aps{P:Prop}(h:P:=by(exact dG (by first|exact λh=>absurd h.1 (by omega)|exact λh=>absurd h.2.1 (by omega)|exact⟨λh=>⟨by omega,by omega,L5.1 h⟩,λh=>L5.2 h.2.2⟩))):P:=h
theorem ahp{P:Prop}(h:P:=by(exact dS (by first|exact λh=>absurd h.1 (by omega)|exact λh=>absurd h.2.1 (by omega)|exact⟨λh=>⟨by omega,by omega,L5.1 h⟩,λh=>L5.2 h.2.2⟩))):P:=h
theorem b_0{P:Prop}(h:P:=by(first|rfl|exact dT (by first|exact(λ⟨x,hx,_⟩=>by rw[EI.W4 qa]at hx;cases hx)|exact(λ⟨x,hx,_⟩=>by rw[EI.W5 (by omega)]at hx;cases hx)|exact(λ⟨y,hy,S7,_⟩=>by injection hy with hy;omega)|exact⟨λh=>⟨x,rfl,by omega,by omega⟩,λ⟨y,hy,S7,hy3⟩=>by omega⟩)|exact dS (by first|exact(λ⟨x,hx,_⟩=>by rw[EI.W4 qa]at hx;cases hx)|exact(λ⟨x,hx,_⟩=>by rw[EI.W5 (by omega)]at hx;cases hx)|exact(λ⟨y,hy,S7,_⟩=>by injection hy with hy;omega)|exact⟨λh=>⟨x,rfl,by omega,by omega⟩,λ⟨y,hy,S7,hy3⟩=>by omega⟩)|exact dG (by first|exact(λ⟨x,hx,_⟩=>by rw[EI.W4 qa]at hx;cases hx)|exact(λ⟨x,hx,_⟩=>by rw[EI.W5 (by omega)]at hx;cases hx)|exact(λ⟨y,hy,S7,_⟩=>by injection hy with hy;omega)|exact⟨λh=>⟨x,rfl,by omega,by omega⟩,λ⟨y,hy,S7,hy3⟩=>by omega⟩)|exact oW (by first|exact(λ⟨x,hx,_⟩=>by rw[EI.W4 qa]at hx;cases hx)|exact(λ⟨x,hx,_⟩=>by rw[EI.W5 (by omega)]at hx;cases hx)|exact(λ⟨y,hy,S7,_⟩=>by injection hy with hy;omega)|exact⟨λh=>⟨x,rfl,by omega,by omega⟩,λ⟨y,hy,S7,hy3⟩=>by omega⟩))):P:=h
theorem abN{P:Prop}(h:P:=by(rw[<-jL,Rg];simp[bT])):P:=h
theorem MR{P:Prop}(h:P:=by(rw[aaT];rfl)):P:=h
theorem uj{k:Nat}(h:k<E b):(bv b)[k*1]? =some (.int .u8 ((b.getD k 0).toNat:Int)):=by
 rw[cH];simp[bv,List.getD,fx h]
def u7(b:aq)(p:Nat):Int:=if p+3<=E b then (match dZ b (fE b p) p with|some q=>(q:Int)|none=>-1) else-1
def qA(b:aq)(m:Nat):List Int:=(List.range m).map (u7 b)
@[simp] theorem apd(b:aq)(m:Nat):E (qA b m)=m:=by simp[qA]
theorem xK(b:aq)(m:Nat):qA b (m+1)=qA b m++[u7 b m]:=by simp[qA,mW]
theorem Jp(h:p<m):(ints .i64 (qA b m))[p*1]? =some (ah (u7 b p)):=by
 rw[cH];simp[ints,qA,h]
theorem ae9(h:¬m+3<=E b):ints .i64 (qA b m)++[Value.int .i64 (-1)]=ints .i64 (qA b (m+1)):=by
 rw[xK];simp[ints,u7,h]
theorem aah(h:m+3<=E b)(hn:dZ b (fE b m) m=none):ints .i64 (qA b m)++[Value.int .i64 (-1)]=ints .i64 (qA b (m+1)):=by
 rw[xK];simp[ints,u7,hn]
theorem aai(h:m+3<=E b)(hp:dZ b (fE b m) m=some p):(ints .i64 (qA b m)++[Value.int .i64 (-1)]).set (m*1) (ah (((dZ b (fE b m) m).getD 0:Nat):Int))=ints .i64 (qA b (m+1)):=by
 rw[xK,cH,zc _ _ ao,hp];simp[ints,u7,h,hp]
abbrev Ck(g gm:Nat)(es:List MapEntry)(cl:Nat)(A:bh)(c:Nat)(b:aq)(m:Nat)(F:aN):aN:=
 .bI g 300 [.map (some gm),.slice A m c]:: .own 3 1 A m c (ints .i64 (qA b m)):: .obj gm (.map es.toArray cl)::F
theorem alC{at_:Nat}(hb:gw B w0 F A c b)(h:at_+3<=E b)(hl:E b<=1000000):
  bg B w0 250 [.slice A (E b) c,ah at_] F (λr L=>r=GG (fE b at_)/\L=F):=by
 refine dQ.yk hb λoP _=>?_;refine fw func250 20 [0,1] ?_;refine bW 2 λg4=>?_;refine cN 3 F ?_;refine aF 0 3 ?_;refine aS 3 rfl (al ae rfl aA aa (uj aa)) ?_;refine aF 4 3 ?_;refine aS 7 rfl (az (i:=at_+1) underlying27 ae rfl rfl aa aa aA) ?_;refine aS 8 rfl (al ae rfl aA aa (uj aa)) ?_;refine aF 9 3 ?_;refine aS 12 rfl (az (i:=at_+2) underlying27 ae rfl rfl aa aa aA) ?_;refine aS 13 rfl (al ae rfl aA aa (uj aa)) ?_;refine aS 14 rfl (eJ [(0,_),(1,_),(2,_)] [_,_,_] rfl rfl ae) (aC 15 (aX ?_));refine di [4] ?_;refine ew ?_;refine PW rfl rfl ae aU jI (.skip (.refl _)) ?_;exact⟨rfl,rfl⟩
theorem apm{at_:Nat}(hb:gw B w0 F A2 c2 b)(hk:GM es b at_)(rr:at_<E b)(hl:E b<=1000000):
  bg B w0 207 [bq g,.slice A2 (E b) c2,ah at_] (Ck g gm es cl A c b at_ F)
   (λr L=>∃es' cl' A' c',r= .tuple #[]/\GM es' b (at_+1)/\L=Ck g gm es' cl' A' c' b (at_+1) F):=by
 refine ba func207 49 [0,1,2] 7 ?_;refine cC gF rfl rfl rfl rfl rfl (λ_=>rfl) aU aa aa ?_;intro _ qh tX;refine ag 15 (λrq=>?_) λrq=>?_
 ·refine ew ?_;refine ak (L':=Ck g gm es cl qh tX b (at_+1) F) (bx rfl (au rfl (ae9 aa) (.refl _))) (aX ?_);exact⟨es,cl,qh,tX,rfl,hk.skip aa,rfl⟩
 ·refine dw ?_;refine ai rfl (alC aA aa hl) ?_;refine fo λg6=>?_;refine aD 1 [0,2,6] 9 ?_;refine bJ (Is k3T rfl rfl aU hk) rfl ?_;refine fB 12 (λAV=>?_) λAV=>?_
  ·obtain⟨p,hp⟩:=Option.isSome_iff_exists.1 AV;have hpa:=jU hp;refine aD 9 [0,2,6] 0 ?_;refine cN 1 (.bI g6 350 [.int .u8 ((b.getD at_ 0).toNat:Int),.int .u8 ((b.getD (at_+1) 0).toNat:Int),.int .u8 ((b.getD (at_+2) 0).toNat:Int)]:: .bI g 300 [.map (some gm),.slice qh (at_+1) tX]::F) ?_;refine aF 0 6 ?_;refine aC 6 (ky rfl .no (NJ k3T rfl rfl rfl aU hk aa) akU ?_);rintro _ _ ⟨es6,cl6,hk6,rfl⟩;refine ew ?_;refine ak (L':=Ck g gm es6 cl6 qh tX b (at_+1) F) (.trans ((gC (gC (gC (.skip (.refl _)))))) (bx rfl (au rfl (aai aa hp) (.refl _)))) (aX ?_);exact⟨es6,cl6,qh,tX,rfl,hk6,rfl⟩
  ·refine cN 2 (.bI g6 350 [.int .u8 ((b.getD at_ 0).toNat:Int),.int .u8 ((b.getD (at_+1) 0).toNat:Int),.int .u8 ((b.getD (at_+2) 0).toNat:Int)]:: .bI g 300 [.map (some gm),.slice qh (at_+1) tX]::F) ?_;refine aF 0 6 ?_;refine aC 6 (ky rfl .no (NJ k3T rfl rfl rfl aU hk aa) akU ?_);rintro _ _ ⟨es6,cl6,hk6,rfl⟩;refine di [] ?_;refine aX ?_;refine ak (L':=Ck g gm es6 cl6 qh tX b (at_+1) F) (.trans ((gC (gC (gC (.skip (.refl _)))))) (bx rfl (au rfl (aah aa (by simpa using AV)) (.refl _)))) (aX ?_);exact⟨es6,cl6,qh,tX,rfl,hk6,rfl⟩
theorem L5{x y:UInt8}:((x.toNat:Nat):Int)=(y.toNat:Int)↔x=y:=⟨λh=>oF.1 aa,λh=>by rw[h]⟩
theorem HI(hn:n<257)(h:a+n<E b)(he:b.getD (p+n) 0=b.getD (a+n) 0):kK b p a (257-n) n=kK b p a (257-(n+1)) (n+1):=by
 rw[show 257-n=(257-(n+1))+1 by omega,kK,av ⟨hn,h,he⟩]
theorem DJ(hn:n<=257)(h:¬(n<257/\a+n<E b/\b.getD (p+n) 0=b.getD (a+n) 0)):kK b p a (257-n) n=n:=by
 by_cases e:n=257
 ·subst e;rfl
 ·rw[show 257-n=(257-(n+1))+1 by omega,kK,aB h]
theorem ahl(hb:gw B w0 F A c b)(hp:p<a)(ha:a<E b)(hl:E b<=1000000):
  bg B w0 251 [.slice A (E b) c,ah p,ah a] F (λr L=>r=ah (fm b p a)/\L=F):=by
 refine ba func251 36 [0,1,2] 12 ?_;refine aw (λzf zL zm=>∃(n:Nat),(n<=257/\kK b p a (257-n) n=fm b p a)/\257-n=zm/\Sub zf [(0,.slice A (E b) c),(1,ah p),(2,ah a),(7,ah n)]/\Wk zL (F)) _ ⟨0,⟨bD _,rfl⟩,rfl,a_,.refl _⟩ ?_;rintro _ _ _ ⟨n,⟨hn,hN⟩,rfl,hs,hp⟩;refine aL hs hp ?_;clear hs hp;refine fc ?_;refine sE 25 32 [0,1,2,7] (n<257/\a+n<E b/\b.getD (p+n) 0=b.getD (a+n) 0) ?_ ?_
 ·refine fc ?_;refine jy rfl rfl rfl (λig=>?_) (λig=>?_)
  ·refine bK 13 ?_;refine jy rfl rfl rfl (λjq=>?_) (λjq=>?_)
   ·refine cY ?_;refine bJ (az (i:=p+n) underlying27 ae rfl rfl aa aa aA) rfl (aX ?_);refine bJ (al ae rfl aA aa (uj aa)) rfl (dA ?_);refine bJ (az (i:=a+n) underlying27 ae rfl rfl aa aa aA) rfl (aX ?_);refine bJ (al ae rfl aA aa (uj aa)) rfl (fc ?_);exact ke aps
   ·refine bK 13 ?_;exact ke ahp
  ·refine bK 21 ?_;exact ke ahp
 ·refine ag 2 (λvJ=>?_) λvJ=>?_
  ·refine dA ?_;refine aj ⟨_,aa,n+1,⟨aa,by rw[<-HI vJ.1 vJ.2.1 vJ.2.2];exact hN⟩,rfl,a_,.refl _⟩
  ·have Y6:fm b p a=n:=by rw[<-hN];exact DJ hn vJ
   refine bK 13 ?_;exact⟨by rw[Y6],rfl⟩
theorem ZR{d:Nat}{p:Option Nat}(h:¬(∃x,p=some x/\a-x<=4095/\n<257)):oH b a f p n d=(n,d):=by
 cases f with
 |zero=>rfl
 |succ f=>
  cases p with
  |none=>rfl
  |some x=>rw[oH,aB λhc=>h ⟨x,rfl,hc⟩]
def aoe(o:Option Nat):Int:=match o with|some x=>(x:Int)|none=>-1
theorem aag{x:Nat}(h:x+3<=E b):u7 b x=aoe (dZ b (fE b x) x):=by
 unfold u7 aoe;rw[av h]
theorem ze{k:K3}:∀{m p:Nat},dZ b k m=some p->p+3<=E b
 |0,p,h=>by cases h
 |m+1,p,h=>by
  unfold dZ at h;split at h
  ·rename_i hc;injection h with h;omega
  ·exact ze h
def Sk(b:aq)(a:Nat)(o:Option Nat)(q:Int):Prop:=((dZ b (fE b a) a).isSome=true/\q=aoe o)\/((dZ b (fE b a) a).isSome=false/\o=none)
theorem Sk.start:Sk b a (dZ b (fE b a) a) (((dZ b (fE b a) a).getD 0:Nat):Int):=by
 unfold Sk;cases dZ b (fE b a) a with
 |none=>exact .inr ⟨rfl,rfl⟩
 |some x=>exact .inl ⟨rfl,rfl⟩
theorem Sk.get{o:Option Nat}(h:Sk b a o q)(h1:(dZ b (fE b a) a).isSome=true)(h2:q≠-1):∃x:Nat,o=some x/\q=x:=by
 rcases h with⟨_,h⟩|⟨h,_⟩
 ·cases o with
  |none=>exact absurd h h2
  |some x=>exact⟨x,rfl,h⟩
 ·rw[h]at h1;cases h1
theorem Sk.W4{o:Option Nat}(h:Sk b a o q)(h1:(dZ b (fE b a) a).isSome=false):o=none:=by
 rcases h with⟨h,_⟩|⟨_,h⟩
 ·rw[h]at h1;cases h1
 ·exact h
theorem Sk.W5{o:Option Nat}(h:Sk b a o q)(h1:q=-1):o=none:=by
 rcases h with⟨_,h⟩|⟨_,h⟩
 ·cases o with
  |none=>rfl
  |some x=>
   have:q=(x:Int):=h;omega
 ·exact h
theorem Sk.asP{x:Nat}{o:Option Nat}(h:Sk b a o q)(h1:o=some x)(h2:x+3<=E b):Sk b a (dZ b (fE b x) x) (u7 b x):=by
 rcases h with⟨h,_⟩|⟨_,h⟩
 ·exact .inl ⟨h,aag h2⟩
 ·rw[h]at h1;cases h1
theorem Sk.val{x:Nat}(h:Sk b a (some x) q):q=x:=by
 rcases h with⟨_,h⟩|⟨_,h⟩
 ·exact h
 ·cases h
theorem aej{d x:Nat}(h:a-x<=4095/\n<257):oH b a (f+1) (some x) n d=oH b a f (dZ b (fE b x) x) (if n<fm b x a then fm b x a else n) (if n<fm b x a then a-x else d):=by
 rw[oH,av h];split<;>rfl
theorem ZS(hb:gw B w0 F A2 c2 b)(hk:GM es b a)(ha:a<E b)(hl:E b<=1000000):
  bg B w0 206 [bq g,.slice A2 (E b) c2,ah a] (Ck g gm es cl A c b a F)
   (λr L=>r= .tuple #[ah (cZ b a).1,ah (cZ b a).2]/\L=Ck g gm es cl A c b a F):=by
 have SK:E b<a+3->cZ b a=(0,0):=λh=>by rw[cZ,av h]
 refine fw func206 62 [0,1,2] ?_;refine ag 16 (λmj=>?_) λmj=>?_
 ·refine dA ?_;exact⟨by rw[SK aa];rfl,rfl⟩
 ·have WA:cZ b a=oH b a a (dZ b (fE b a) a) 0 0:=by rw[cZ,aB aa]
  refine dh ?_;refine iL aqD rfl (alC aA aa hl) tJ rfl ?_;refine bJ (Is k3T rfl rfl aU hk) rfl (dA ?_);refine aw (λzf zL zm=>∃(o:Option Nat) (q:Int) (f n d:Nat),((∀x,o=some x->x<f)/\(∀x,o=some x->x+3<=E b/\x<a)/\Sk b a o q/\oH b a f o n d=cZ b a/\n<=257/\d<=a)/\f=zm/\Sub zf [(0,bq g),(1,.slice A2 (E b) c2),(2,ah a),(6,ah n),(7,ah d),(8,ah q),(9,.bool (dZ b (fE b a) a).isSome)]/\Wk zL (Ck g gm es cl A c b a F)) _ ⟨dZ b (fE b a) a,(((dZ b (fE b a) a).getD 0:Nat):Int),a,0,0,⟨λx h=>jU h,λx h=>⟨ze h,jU h⟩,Sk.start,WA.symm,bD _,bD _⟩,rfl,a_,.refl _⟩ ?_;rintro _ _ _ ⟨o,q,f,n,d,⟨hof,hox,EI,SR,hn,hd⟩,rfl,hs,hp⟩;refine aL hs hp (bf 3 15 41 [0,1,2,6,7,8,9] (∃x,o=some x/\a-x<=4095/\n<257) ?_ ?_)
  ·refine ew ?_;refine lS rfl rfl rfl (λqa=>?_) (λqa=>?_)
   ·refine bC 5 (λvJ=>?_) λvJ=>?_
    ·obtain⟨x,rfl,rfl⟩:=EI.get qa vJ;obtain⟨hx3,hx4⟩:=hox x rfl;refine bC 9 (λGB=>?_) λGB=>?_
     ·exact ax 4 (k:=b_0)
     ·exact ax 2 (k:=b_0)
    ·exact ax 8 (k:=b_0)
   ·exact ax 12 (k:=b_0)
  ·refine ag 2 (λtZ=>?_) λtZ=>?_
   ·obtain⟨x,rfl,AZ,WE⟩:=tZ;obtain⟨hx3,hx4⟩:=hox x rfl;have hxf:=hof x rfl;obtain⟨f',rfl⟩:∃f',f=f'+1:=⟨f-1,aa⟩
    obtain rfl:=EI.val;have CU:=Au b x a;have rv:=aej (b:=b) (a:=a) (f:=f') (d:=d) (x:=x) ⟨AZ,WE⟩;rw[SR]at rv;refine dA ?_;refine ai rfl (ahl aA hx4 ha hl) ?_;refine ag 10 (λxl=>?_) λxl=>?_
    ·refine bK 16 ?_;refine ab (al ae rfl aA aa (Jp aa)) rfl ?_;refine aD 1 [0,1,2,6,7,8,9] 1 ?_;refine aj ⟨_,aa,dZ b (fE b x) x,u7 b x,f',fm b x a,a-x,⟨λy hy=>by have:=jU hy;omega,λy hy=>⟨ze hy,by have:=jU hy;omega⟩,EI.asP rfl hx3,by rw[av aa,av aa]at rv;exact rv.symm,CU,aa⟩,rfl,a_,.refl _⟩
    ·refine dA ?_;refine ab (al ae rfl aA aa (Jp aa)) rfl ?_;refine aD 1 [0,1,2,6,7,8,9] 1 ?_;refine aj ⟨_,aa,dZ b (fE b x) x,u7 b x,f',n,d,⟨λy hy=>by have:=jU hy;omega,λy hy=>⟨ze hy,by have:=jU hy;omega⟩,EI.asP rfl hx3,by rw[aB aa,aB aa]at rv;exact rv.symm,hn,hd⟩,rfl,a_,.refl _⟩
   ·have hle:=ZR (b:=b) (a:=a) (f:=f) (d:=d) tZ;rw[SR]at hle;rw[hle];exact cm 15
def f_(l:List bG):cQ:=l.flatMap bG.cells
theorem aaT(l:List bG)(t:bG):f_ (l++[t])=f_ l++bG.cells t:=by simp[f_]
theorem IJ(h:a<E b)(h3:¬3<=(cZ b a).1):findF b (f+1) a=(b.getD a 0,0,0)::findF b f (a+1):=by
 rw[findF,av h,aB h3]
theorem Cc(h:a<E b)(h3:3<=(cZ b a).1):findF b (f+1) a=(0,((cZ b a).1:Int),((cZ b a).2:Int))::findF b f (a+(cZ b a).1):=by
 rw[findF,av h,av h3]
theorem II(h:¬a<E b):findF b f a=[]:=by
 cases f with
 |zero=>rfl
 |succ f=>rw[findF,aB h]
theorem E8(h:3<=(cZ b a).1):a+(cZ b a).1<=E b/\(cZ b a).1<=257/\(cZ b a).2<=4095:=by
 obtain⟨h1,h2⟩:=pQ b a;obtain⟨k1,k2,k3,k4⟩:=h2 aa;have:=(k4 ((cZ b a).1-1) aa).1;exact⟨aa,h1,k3⟩
theorem amS(hb:gw B w0 F A2 c2 b)(hl:E b<=1000000):
  bg B w0 145 [.slice A2 (E b) c2] F
   (λr L=>∃A' c',r= .slice A' (E (fS b)) c'/\L= .own 170 3 A' (E (fS b)) c' (f_ (fS b))::F):=by
 refine ba func145 50 [0] 7 ?_;refine ou (YQ b) rfl ?_;rintro _ _ ⟨gm,es0,cl0,rfl,wQ,rfl⟩;refine ab (bw [(0,_)] [.map none,.slice none 0 0] [0] [_,_] rfl rfl ae) rfl (fM λwM=>?_);refine fb ?_;refine aM 3 1 none (dw ?_);refine aM 170 3 none (dx ?_);refine aw (λzf zL zm=>∃(a f:Nat) (acc:List bG) (es:List MapEntry) (cl:Nat) (A3:bh) (c3:Nat) (A4:bh) (c4:Nat),(a<=E b/\E b-a<=f/\acc++findF b f a=fS b/\GM es b a/\E acc<=a)/\f=zm/\Sub zf [(0,.slice A2 (E b) c2),(3,bq wM),(4,.slice A4 (E acc) c4),(5,ah a)]/\Wk zL (.own 170 3 A4 (E acc) c4 (f_ acc)::Ck wM gm es cl A3 c3 b a F)) _ ⟨0,E b,[],es0,cl0,none,0,none,0,⟨bD _,aa,rfl,wQ,ga _⟩,rfl,a_,.trans ((dL (gC (dL (dL (.refl _)))))) (au rfl rfl (bx rfl (au rfl rfl (.refl _))))⟩ ?_;rintro _ _ _ ⟨a,f,acc,es,cl,A3,c3,A4,c4,⟨ha,hf,jL,hk,CU⟩,rfl,hs,hp⟩;refine aL hs hp (ag 9 (λj0=>?_) λj0=>?_)
 ·obtain⟨f',rfl⟩:∃f',f=f'+1:=⟨f-1,aa⟩
  refine cY ?_;refine ab (al ae rfl aA aa (uj aa)) rfl ?_;refine ab (bw [(0,_)] [.int .u8 0,ah 0,ah 0] [0] [_,_,_] rfl rfl ae) rfl (fo λg6=>?_);refine cY ?_;refine dq (λzf zL=>∃(tl:UInt8) (tn td:Int) (st:Nat),(1<=st/\a+st<=E b/\findF b (f'+1) a=(tl,tn,td)::findF b f' (a+st))/\Sub zf [(0,.slice A2 (E b) c2),(3,bq wM),(4,.slice A4 (E acc) c4),(5,ah a),(6,bq g6),(7,ah st)]/\Wk zL (.bI g6 170 [.int .u8 (tl.toNat:Int),ah tn,ah td]:: .own 170 3 A4 (E acc) c4 (f_ acc)::Ck wM gm es cl A3 c3 b a F)) ?_ ?_
  ·refine dx ?_;refine ai rfl ((ZS (g:=wM) aA hk aa hl).perm ((z_ (z_ (z_ (gh (gh (.refl _)))))))) ?_;refine aD 11 [0,3,4,5,6,7,8,9,30] 0 ?_;refine ag 1 (λwv=>?_) λwv=>?_
   ·have arj:3<=(cZ b a).1:=by omega
    obtain⟨q9,oB,G4⟩:=E8 arj;refine fb ?_;refine ab (bw [(1,_),(2,_)] [.int .u8 0,ah 0,ah 0] [1,2] [_,_,_] rfl rfl ae) rfl (dg ?_);exact bo ⟨0,((cZ b a).1:Int),((cZ b a).2:Int),(cZ b a).1,⟨aa,q9,Cc aa arj⟩,a_,(vu (vu (dL (dL (dL (.refl _))))))⟩
   ·refine aX ?_;exact bo ⟨b.getD a 0,0,0,1,⟨aa,aa,IJ aa aa⟩,a_,(vu (vu (dL (dL (dL (.refl _))))))⟩
  ·rintro _ _ ⟨tl,tn,td,st,⟨adM,adN,Rg⟩,hs,hp⟩;refine aL hs hp (fb ?_);refine jX Qg rfl rfl rfl aa bY rfl rfl rfl (λ_=>rfl) aU aa aa ?_;intro _ MF Q5;refine dh ?_;refine aw (λzf zL zm=>∃(m:Nat) (es2:List MapEntry) (cl2:Nat) (A5:bh) (c5:Nat),(m<=st/\GM es2 b (a+m))/\st-m=zm/\Sub zf [(0,.slice A2 (E b) c2),(3,bq wM),(4,.slice MF (E acc+1) Q5),(5,ah (a+m:Nat)),(39,ah st),(40,ah m)]/\Wk zL (.own 170 3 MF (E acc+1) Q5 (f_ acc++[.int .u8 (tl.toNat:Int),ah tn,ah td])::Ck wM gm es2 cl2 A5 c5 b (a+m) F)) _ ⟨0,es,cl,A3,c3,⟨bD _,hk⟩,rfl,a_,(gC (gC (gC (gC (.skip (.refl _))))))⟩ ?_;rintro _ _ _ ⟨m,es2,cl2,A5,c5,⟨hm,zY⟩,rfl,hs,hp⟩;refine aL hs hp (ag 6 (λtZ=>?_) λtZ=>?_)
   ·refine dA ?_;refine bp aqr rfl ((apm (g:=wM) aA zY aa hl).perm ((oI (oI (oI (gh (.refl _))))))) rfl ?_;rintro _ _ ⟨atS,atC,Ml,Nb,rfl,arM,cR⟩;obtain rfl:=cR.symm;refine bK 13 ?_;refine aj ⟨_,aa,m+1,atS,atC,Ml,Nb,⟨aa,arM⟩,rfl,a_,(vu (dL (dL (dL (.refl _)))))⟩
   ·obtain rfl:m=st:=by omega
    have qc:E (acc++[(tl,tn,td)])=E acc+1:=by simp
    refine dx ?_;refine aj ⟨_,aa,a+m,f',acc++[(tl,tn,td)],es2,cl2,A5,c5,MF,Q5,⟨aa,aa,abN,zY,aa⟩,rfl,a_,au aa MR (.refl _)⟩
 ·have wz:=II (b:=b) (a:=a) (f:=f) aa;rw[wz,gN]at jL;subst jL;refine dM ?_;exact ak (L':=.own 170 3 A4 (E (fS b)) c4 (f_ (fS b))::F) ((dL (.s3 (.refl _)))) (bO 1)
end
section
variable{gm:Nat}{l:List bG}
def vm(l:List bG)(k:Nat):bG:=l.getD k (0,0,0)
theorem sd{k:Nat}(h:k<E l):((f_ l).drop (k*3)).take 3=bG.cells (vm l k):=by
 induction l generalizing k with
 |nil=>simp at h
 |cons t r ih=>
  cases k with
  |zero=>simp[f_,bG.cells,vm]
  |succ k=>
   have:=ih (k:=k) ml;have e:f_ (t::r)=bG.cells t++f_ r:=by simp[f_]
   rw[e,jR,tx (k*3) 3,List.drop_append,kr (by simp[bG.cells]),mh];simpa[bG.cells,vm]using this
theorem BA(most:Int)(h:¬dX t):gO most out (t::r)=([],7):=by rw[gO,av h]
theorem BB(most:Int)(h:dX t)(h2:(E out:Int)<t.2.2):gO most out (t::r)=([],8):=by rw[gO,aB (λk=>k h),av h2]
theorem xI(most:Int)(h:dX t)(h2:¬(E out:Int)<t.2.2)(h3:most-E out<max 1 t.2.1):gO most out (t::r)=([],6):=by rw[gO,aB (λk=>k h),aB h2,av h3]
theorem BD(most:Int)(h:dX t)(h2:¬(E out:Int)<t.2.2)(h3:¬most-E out<max 1 t.2.1)(h4:t.2.1=0):gO most out (t::r)=gO most (out++[t.1]) r:=by
 rw[gO,aB (λk=>k h),aB h2,aB h3,av h4]
theorem xH(most:Int)(h:dX t)(h2:¬(E out:Int)<t.2.2)(h3:¬most-E out<max 1 t.2.1)(h4:¬t.2.1=0):gO most out (t::r)=gO most (jo t.2.2.toNat t.2.1.toNat out) r:=by
 rw[gO,aB (λk=>k h),aB h2,aB h3,aB h4]
theorem xg(d:Nat):∀(n:Nat) (out:aq),jo d (n+1) out=jo d n out++[(jo d n out).getD (E (jo d n out)-d) 0]
 |0,out=>rfl
 |n+1,out=>by rw[jo,xg d n,jo]
theorem xE{tl:UInt8}{tn td:Int}(h:dX (tl,tn,td))(h0:¬tn=0):tl=0/\3<=tn/\tn<=257/\1<=td/\td<=4095:=by
 unfold dX at h
 rwa [aB h0]at h
def zJ(l:List bG):Prop:=∀t∈l,(-9223372036854775808<=t.2.1/\t.2.1<=9223372036854775807)/\-9223372036854775808<=t.2.2/\t.2.2<=9223372036854775807
theorem aoj(hb:aJ B w0 F 3 (.slice A (E l) c) (E l) (f_ l))(hl:E l<=1000000)(zZ:-9223372036854775808<=most)(oh:most<=1000000)(la:zJ l):
  bg B w0 328 [.slice A (E l) c,ah most] F
   (λr L=>∃A' c',r= .tuple #[.slice A' (E (gP l most).1) c',ah (gP l most).2]/\L= .own 5 1 A' (E (gP l most).1) c' (bv (gP l most).1)::F):=by
 refine fw func328 62 [0,1] ?_;refine ag 13 (λig=>?_) λig=>?_
 ·have e:gP l most=([],13):=av aa;rw[e];refine cY ?_;exact aH 5 1 none (bO 1)
 ·have kh:gP l most=gO most [] l:=aB aa;refine fc ?_;refine aM 5 1 none (bK 13 ?_);refine aw (λzf zL zm=>∃(k:Nat) (out:aq) (A6:bh) (c6:Nat),(k<=E l/\gO most out (l.drop k)=gP l most/\(E out:Int)<=most)/\E l-k=zm/\Sub zf [(1,ah most),(6,.slice A6 (E out) c6),(11,.slice A (E l) c),(12,ah (E l)),(13,ah k)]/\Wk zL (.own 5 1 A6 (E out) c6 (bv out)::F)) _ ⟨0,[],none,0,⟨bD _,kh.symm,bS⟩,rfl,a_,.refl _⟩ ?_;rintro _ _ _ ⟨k,out,A6,c6,⟨hk,qo,G9⟩,rfl,hs,hp⟩;refine aL hs hp (ag 6 (λgT=>?_) λgT=>?_)
  ·obtain⟨⟨tl,tn,td⟩,ht⟩:∃t,t=vm l k:=⟨_,rfl⟩
   have hd:l.drop k=(tl,tn,td)::l.drop (k+1):=by rw[ht];exact cy aa _
   have OA:=sd (l:=l) (k:=k) aa;rw[<-ht]at OA;rw[hd]at qo;obtain⟨⟨ho1,ho2⟩,ho3,ho4⟩:=la (tl,tn,td) (by rw[ht];exact bc aa _);have ho1:-9223372036854775808<=tn:=ho1;have ho2:tn<=9223372036854775807:=ho2;have ho3:-9223372036854775808<=td:=ho3;have ho4:td<=9223372036854775807:=ho4;refine dg ?_;refine ab (bU 3 ae rfl aA aa [.int .u8 (tl.toNat:Int),ah tn,ah td] (kx OA) rfl) rfl ?_;refine fo λg8=>?_;refine cY ?_;refine ai rfl (aeq (tl,tn,td)) (ag 4 (λgH=>?_) λgH=>?_)
   ·have auc:¬dX (tl,tn,td):=gH;rw[BA most auc]at qo;rw[<-qo];refine bK 14 ?_;exact aH 5 1 none (ak (L':=.own 5 1 none 0 0 []::F) ((dL (.s2 (.refl _)))) (bO 1))
   ·have eu:dX (tl,tn,td):=gE.1 gH;refine ag 10 (λmQ=>?_) λmQ=>?_
    ·rw[BB most eu mQ]at qo;rw[<-qo];refine aD 4 [4,5] 9 ?_;exact aH 5 1 none (ak (L':=.own 5 1 none 0 0 []::F) ((dL (.s2 (.refl _)))) (bO 1))
    ·refine fb ?_;refine ab (Kj rfl rfl) rfl (aD 6 [1,6,8,11,12,13,27] 0 ?_);refine ag 1 (λkq=>?_) λkq=>?_
     ·rw[xI most eu mQ kq]at qo;rw[<-qo];refine bK 14 ?_;exact aH 5 1 none (ak (L':=.own 5 1 none 0 0 []::F) ((dL (.s2 (.refl _)))) (bO 1))
     ·refine ag 11 (λGB=>?_) λGB=>?_
      ·rw[BD most eu mQ kq GB]at qo;have qc:E (out++[tl])=E out+1:=by simp
       refine dx ?_;refine cC bP rfl rfl rfl rfl rfl (λ_=>rfl) aU aa aa ?_;intro _ UU c43;refine fF ?_;refine aj ⟨_,aa,k+1,out++[tl],UU,c43,⟨aa,qo,by rw[bm];simp;omega⟩,rfl,a_,.skip (au ao wJ (.refl _))⟩
      ·rw[xH most eu mQ kq GB]at qo;obtain⟨uG,z6,hr3,hr4,hr5⟩:=xE eu GB;refine dh ?_;refine aw (λzf zL zm=>∃(m:Nat) (A7:bh) (c7:Nat),((m:Int)<=tn)/\tn.toNat-m=zm/\Sub zf [(1,ah most),(6,.slice A7 (E (jo td.toNat m out)) c7),(8,bq g8),(11,.slice A (E l) c),(12,ah (E l)),(13,ah k),(45,ah tn),(46,ah m)]/\Wk zL (.bI g8 170 [.int .u8 (tl.toNat:Int),ah tn,ah td]:: .own 5 1 A7 (E (jo td.toNat m out)) c7 (bv (jo td.toNat m out))::F)) _ ⟨0,A6,c6,aa,rfl,a_,.refl _⟩ ?_;rintro _ _ _ ⟨m,A7,c7,hm,rfl,hs,hp⟩;refine aL hs hp (ag 6 (λxk=>?_) λxk=>?_)
       ·have yO:=ld td.toNat m out;have q8:=xg td.toNat m out;have hcm:=ld td.toNat (m+1) out;refine dM ?_;refine ab (az (i:=E (jo td.toNat m out)-td.toNat) underlying27 ae rfl rfl aa aa aA) rfl ?_;refine ab (al ae rfl aA aa (uj (k:=E (jo td.toNat m out)-td.toNat) aa)) rfl ?_;refine cC bP rfl rfl rfl rfl rfl (λ_=>rfl) aU aa aa ?_;intro _ A58 c58;refine cY ?_;refine aj ⟨_,aa,m+1,A58,c58,aa,rfl,a_,bx rfl (au aa (by rw[q8];simp[bv]) (.refl _))⟩
       ·obtain rfl:tn=m:=by omega
        have yO:=ld td.toNat m out;rw[lJ]at qo;refine dh ?_;refine aj ⟨_,aa,k+1,jo td.toNat m out,A7,c7,⟨aa,qo,aa⟩,rfl,a_,.skip (.refl _)⟩
  ·rw[kr aa,gO]at qo;rw[<-qo];exact bO 14
end
theorem Jb:type_of% @List.perm_append_comm:= @List.perm_append_comm
def swN(D:br)(i j:Nat):br:=(D.set i (D.getD j 0)).set j (D.getD i 0)
theorem aj'(D:br)(i j:Nat):E (swN D i j)=E D:=by simp[swN]
theorem uB(P:br)(x:Nat)(Q:br):(P++x::Q).getD (E P) 0=x:=by simp[bz]
theorem Qb(P:br)(x y:Nat)(Q:br):(P++x::Q).set (E P) y=P++y::Q:=by simp
theorem Ug(P:br)(x:Nat)(M:br)(y:Nat)(Q:br)(hi:i=E P)(hj:j=E P+1+E M):swN (P++x::(M++y::Q)) i j=P++y::(M++x::Q):=by
 subst hi;subst hj;have e:P++x::(M++y::Q)=(P++x::M)++y::Q:=by simp
 have e2:P++y::(M++y::Q)=(P++y::M)++y::Q:=by simp
 have hl:E P+1+E M=E (P++x::M):=by simp;omega
 have oB:E P+1+E M=E (P++y::M):=by simp;omega
 unfold swN;rw[uB];have h1:(P++x::(M++y::Q)).getD (E P+1+E M) 0=y:=by rw[e,hl,uB]
 rw[h1,Qb,e2,oB,Qb];simp
theorem afV(D:br)(h:i≠j):swN D i j=swN D j i:=by
 unfold swN;rw[List.set_comm _ _ h]
theorem aoD(P:br)(x:Nat)(M:br)(y:Nat)(Q:br)(hi:i=E P)(hj:j=E P+1+E M):swN (P++x::(M++y::Q)) j i=P++y::(M++x::Q):=by
 rw[afV _ aa,Ug P x M y Q hi hj]
def swR(D:br)(a b:Nat):Nat->br
 |0=>D
 |i+1=>swN (swR D a b i) (a+i) (b+i)
theorem XJ(D:br)(a b:Nat):∀i,E (swR D a b i)=E D
 |0=>rfl
 |i+1=>by rw[swR,aj',XJ D a b i]
theorem XI(P X M Y Q:br){a b:Nat}(ha:a=E P)(hb:b=E P+E X+E M)(hl:E X=E Y):∀i,i<=E X->swR (P++(X++(M++(Y++Q)))) a b i=P++(Y.take i++(X.drop i++(M++(X.take i++(Y.drop i++Q)))))
 |0,_=>by simp[swR]
 |i+1,h=>by
  rw[swR,XI P X M Y Q ha hb hl i aa,cy (l:=X) aa 0,cy (l:=Y) (k:=i) aa 0,aP (l:=X) aa 0,aP (l:=Y) (k:=i) aa 0];have He:E (Y.take i)=i:=by rw[fZ];omega
  have S4:E (X.take i)=i:=by rw[fZ];omega
  have:=Ug (P++Y.take i) (X.getD i 0) (X.drop (i+1)++(M++X.take i)) (Y.getD i 0) (Y.drop (i+1)++Q) (i:=a+i) (j:=b+i) (by rw[bm,He,ha]) (by simp only[bm,jM,He,S4];omega);simp only[bT,nM,mh,List.singleton_append]at this⊢;exact this
theorem LO(P X M Y Q:br){b:Nat}(ha:a=E P)(hb:b=E P+E X+E M)(hl:E X=E Y)(hn:n=E X):swR (P++(X++(M++(Y++Q)))) a b n=P++(Y++(M++(X++Q))):=by
 rw[XI P X M Y Q ha hb hl n aa,gv aa,kr aa,gv aa,kr aa];simp
theorem gA{l:br}{x:Nat}:x∈dj o l↔x∈l:=(gV o l).mem_iff
theorem iB(o:Nat->Nat)(l:br):E (dj o l)=E l:=(gV o l).length_eq
abbrev Ri(l:br):Prop:=l.Pairwise (· < ·)
theorem Ri.nd{l:br}(h:Ri l):l.Nodup:=h.imp λh=>by omega
theorem sr.pS{a l:br}(h:sr o a)(hl:l.Nodup)(hm:∀x,x∈a↔x∈l):a=dj o l:=
 sr.ext h (lO o hl) λx=>(hm x).trans gA.symm
theorem adY{x k:Nat}(hs:sr o S)(h1:∀y∈S.take k,tE o y x)(h2:∀y∈S.drop k,tE o x y):sr o (S.take k++x::S.drop k):=by
 refine rI.2 ⟨hs.sublist (O8 k S),kG.2 ⟨h2,hs.sublist (List.drop_sublist k S)⟩,λy hy z hz=>?_⟩;rcases fq.1 hz with e|e
 ·subst e;exact h1 y hy
 ·exact rT (h1 y hy) (h2 z e)
theorem XG(hs:sr o S){k:Nat}(hk:k<E S){x:Nat}(h:tE o (S.getD k 0) x):∀y∈S.take (k+1),tE o y x:=λy hy=>by
 obtain⟨i,hi,rfl⟩:=mF hy;rw[fZ]at hi;rw[OO];rw[bz,fx hk,wA]at h;by_cases e:i=k
 ·subst e;exact h
 ·exact rT (qq.1 hs i k aa hk aa) h
theorem anB{x k:Nat}(hr:Ri (R++[x]))(h1:∀y∈(dj o R).take k,tE o y x)(h2:∀y∈(dj o R).drop k,tE o x y):(dj o R).take k++x::(dj o R).drop k=dj o (R++[x]):=by
 have hn:R.Nodup:=(hr.sublist (sJ R [x])).imp λh=>by omega
 refine sr.pS (adY (lO o hn) h1 h2) hr.nd λy=>?_;have e:y∈dj o R↔y∈(dj o R).take k\/y∈(dj o R).drop k:=by
  conv=>lhs;rw[<-kH k (dj o R)]
  exact dO
 rw[dO,fq,dO,kT,<-gA (o:=o) (l:=R),e];constructor
 ·rintro(h|h|h)
  ·exact .inl (.inl h)
  ·exact .inr h
  ·exact .inl (.inr h)
 ·rintro((h|h)|h)
  ·exact .inl h
  ·exact .inr (.inr h)
  ·exact .inr (.inl h)
def xa(o:Nat->Nat)(bs:Nat):Nat->br->br
 |0,R=>dj o R
 |f+1,R=>if E R<=bs then dj o R else dj o (R.take bs)++xa o bs f (R.drop bs)
theorem H8(o:Nat->Nat){bs:Nat}(hb:1<=bs):∀(f g:Nat) (R:br),E R<=f->E R<=g->xa o bs f R=xa o bs g R
 |0,0,R,_,_=>rfl
 |0,g+1,R,h,_=>by rw[xa,xa,av aa]
 |f+1,0,R,_,h=>by rw[xa,xa,av aa]
 |f+1,g+1,R,h1,h2=>by
  rw[xa,xa];split
  ·rfl
  ·rw[H8 o hb f g (R.drop bs) l0 l0]
def w_(o:Nat->Nat)(bs:Nat)(R:br):br:=xa o bs (E R) R
theorem nf{bs:Nat}(h:E R<=bs):w_ o bs R=dj o R:=by
 unfold w_;cases e:E R with
 |zero=>rfl
 |succ f=>rw[xa,av h]
theorem rh{bs:Nat}(hb:1<=bs)(h:bs<=E R):w_ o bs R=dj o (R.take bs)++w_ o bs (R.drop bs):=by
 by_cases e:E R=bs
 ·rw[nf aa,gv aa,kr aa];simp[w_,xa,dj]
 ·conv=>lhs;rw[w_,show E R=(E R-1)+1 by omega]
  rw[xa,aB aa,w_];congr 1;exact H8 o hb _ _ _ l0 aa
theorem M5(o:Nat->Nat)(bs:Nat):∀(f:Nat) (R:br),E (xa o bs f R)=E R
 |0,R=>iB o R
 |f+1,R=>by
  rw[xa];split
  ·exact iB o R
  ·rw[bm,iB,M5 o bs f,fZ,jM];omega
theorem ab1(o:Nat->Nat)(bs:Nat)(R:br):E (w_ o bs R)=E R:=M5 o bs _ R
theorem Qk{c1 c2:br}(h:(c1++c2).Nodup):dj o (dj o c1++dj o c2)=dj o (c1++c2):=by
 have hn:(dj o c1++dj o c2).Nodup:=((List.Perm.append (gV o c1) (gV o c2)).nodup_iff).2 h;refine sr.pS (lO o hn) h λx=>?_;rw[gA,dO,dO,gA,gA]
theorem am5(hn:((U1++U2)++(V1++V2)).Nodup)(h:∀x∈U1++V1,∀y∈U2++V2,tE o x y):dj o (U1++V1)++dj o (U2++V2)=dj o ((U1++U2)++(V1++V2)):=by
 have hp:((U1++U2)++(V1++V2)).Perm ((U1++V1)++(U2++V2)):=by
  rw[bT,bT];refine List.Perm.append_left U1 ?_;rw[<-bT,<-bT];exact List.Perm.append_right V2 Jb
 have ry:=hp.nodup_iff.1 hn;obtain⟨n1,n2,_⟩:=List.nodup_append.1 ry;refine sr.pS (rI.2 ⟨lO o n1,lO o n2,λx hx y hy=>h x (gA.1 hx) y (gA.1 hy)⟩) hn λx=>?_;rw[dO,gA,gA,<-dO];exact hp.symm.mem_iff
theorem Qj{l:br}(h:sr o l)(hn:l.Nodup):dj o l=l:=(sr.pS h hn λ_=>Iff.rfl).symm
section
theorem U0{P:Prop}(h:P:=by(rw[vj,<-ha,ZA (by omega)])):P:=h
def RX(a b:Nat):Int:=if a<b then-1 else if b<a then 1 else 0
theorem mv{b:Nat}:RX a b<0↔a<b:=by
 unfold RX;split
 ·omega
 ·split<;>omega
theorem alJ(a:Nat):bg B w0 336 [.int .u32 (a:Int)] F (λr L=>r= .bool false/\L=F):=by
 refine ba func336 6 [0] 15 ?_;exact⟨ao,rfl⟩
theorem aqa(a b:Nat)(ha:a<4294967296)(hb:b<4294967296):bg B w0 316 [.int .u32 (a:Int),.int .u32 (b:Int)] F (λr L=>r=ah (RX a b)/\L=F):=by
 refine ba func316 20 [0,1] 8 ?_;refine ai rfl (alJ a) (dw ?_);refine ai rfl (alJ b) (fB 9 (λoA=>?_) λoA=>?_)
 ·exfalso;(simp at oA)
 ·refine fB 8 (λnj=>?_) λnj=>?_
  ·exfalso;(simp at nj)
  ·refine ag 10 (λj0=>?_) λj0=>?_
   ·refine cY ?_;unfold RX;exact⟨by rw[av aa],rfl⟩
   ·refine ag 10 (λqM=>?_) λqM=>?_
    ·refine aD 3 [4] 4 ?_;unfold RX;exact⟨by rw[aB aa,av aa],rfl⟩
    ·refine aD 5 [4] 3 ?_;unfold RX;exact⟨by rw[aB aa,aB aa],rfl⟩
abbrev Sf(A:bh)(n c:Nat)(D:br)(g:Nat)(Ao:bh)(N co:Nat)(F:aN):aN:=.own 3 1 A n c (bN D):: .bI g 213 [.slice Ao N co]::F
theorem BR{l:br}{k:Nat}(h:k<E l):(ints .u32 (l.map λ(n:Nat)=>(n:Int)))[k*1]? =some (.int .u32 ((l.getD k 0:Nat):Int)):=by
 rw[cH];simp[ints,List.getD,fx h]
structure HD(B:Nat)(w0:World)(F:aN)(Ao:bh)(co:Nat)(l:br):Prop where
 yk:aJ B w0 F 1 (.slice Ao (E l) co) (E l) (ints .u32 (l.map λ(n:Nat)=>(n:Int)))
 lt:∀k,l.getD k 0<4294967296
variable{l:br}
abbrev oN(l:br)(k:Nat):Nat:=l.getD k 0
theorem K5(H:HD B w0 F Ao co l){x y:Nat}(hx:x<E l)(hy:y<E l):
  bg B w0 315 [ah x,ah y,bq g] (Sf A n c D g Ao (E l) co F) (λr L=>r=ah (RX (oN l x) (oN l y))/\L=Sf A n c D g Ao (E l) co F):=by
 have hbo:aJ B w0 (Sf A n c D g Ao (E l) co F) 1 (.slice Ao (E l) co) (E l) (ints .u32 (l.map λ(n:Nat)=>(n:Int))):=H.yk.cons.cons;refine ba func315 15 [0,1,2] 10 ?_;refine bJ (al ae rfl hbo aa (BR hx)) rfl (fc ?_);refine bJ (al ae rfl hbo aa (BR hy)) rfl (iL aqL rfl (aqa (oN l x) (oN l y) (H.lt x) (H.lt y)) tJ rfl ?_);exact cm 5
def mR(P S:br)(x:Nat)(Q:br)(j:Nat):br:=P++(S.take j++x::(S.drop j++Q))
theorem S_{x k:Nat}(h:E S=k):mR P S x Q k=P++(S++(x::Q)):=by
 unfold mR;rw[gv aa,kr aa];rfl
theorem EP(P S:br)(x:Nat)(Q:br)(h:j<=E S):E (mR P S x Q j)=E P+E S+1+E Q:=by
 simp[mR];omega
theorem aiP{x:Nat}(h:j<=E S)(hi:i=E P+j):(mR P S x Q j).getD i 0=x:=by
 have:=uB (P++S.take j) x (S.drop j++Q);rw[bm,fZ,C2 h,<-hi]at this;unfold mR;simpa using this
theorem Zz{x:Nat}(h:j+1<=E S)(hi:i=E P+j):(mR P S x Q (j+1)).getD i 0=S.getD j 0:=by
 have:=uB (P++S.take j) (S.getD j 0) (x::(S.drop (j+1)++Q));rw[bm,fZ,C2 aa,<-hi]at this;unfold mR;rw[aP aa 0];simpa using this
theorem ZA{x:Nat}(h:j+1<=E S):swN (mR P S x Q (j+1)) (E P+(j+1)) (E P+j)=mR P S x Q j:=by
 have:=aoD (P++S.take j) (S.getD j 0) [] x (S.drop (j+1)++Q) (i:=E P+j) (j:=E P+(j+1)) (by rw[bm,fZ];omega) (by rw[bm,fZ,tT];omega);unfold mR;rw[aP aa 0,cy (l:=S) (k:=j) aa 0];simpa using this
theorem OE{x k:Nat}(hr:Ri R)(hk:k<E R)(hx:x=R.getD k 0)(hj:j<=k)(h1:∀i,j=i+1->¬o x<o ((dj o (R.take k)).getD i 0))(h2:∀y∈(dj o (R.take k)).drop j,o x<o y):
  mR P (dj o (R.take k)) x Q j=P++(dj o (R.take (k+1))++Q):=by
 have qb:R.take (k+1)=R.take k++[x]:=by rw[hx];exact aP hk 0
 have z6:Ri (R.take k++[x]):=qb▸hr.sublist (O8 _ _);have hn:(R.take k).Nodup:=(hr.sublist (O8 k R)).imp λh=>by omega
 have hl:E (dj o (R.take k))=k:=by rw[iB,fZ];omega
 have:=anB (o:=o) (k:=j) z6 (λy hy=>by
  cases j with
  |zero=>simp at hy
  |succ i=>
   refine XG (lO o hn) aa ?_ y hy;have hm:(dj o (R.take k)).getD i 0∈R.take k:=gA.1 (bc aa 0);have gU:(dj o (R.take k)).getD i 0<x:=(rI.1 z6).2.2 _ hm x ao;have:=h1 i rfl;unfold tE;omega) (λy hy=>.inl (h2 y hy))
 unfold mR;rw[qb,<-this];simp[bT]
theorem aiQ:P++(dj o (R.take 1)++(R.drop 1++Q))=P++(R++Q):=by
 cases R with
 |nil=>rfl
 |cons x r=>rfl
theorem fi{L:br}{v:Nat}(h:i<E L)(e:L.getD i 0=v):(bN L)[i*1]? =some (ah ((v:Nat):Int)):=by
 rw[fV h,e]
theorem vj:((bN D).set (i*1) (ah ((D.getD j 0:Nat):Int))).set (j*1) (ah ((D.getD i 0:Nat):Int))=bN (swN D i j):=by
 simp[bN,swN,KX]
theorem Uh{b nn:Nat}{fv:Value}(Zn:E D=nn)(ha:a+n<=nn)(hb:b+n<=nn)(hD:nn<=1000000)(hn:0<n):
  bg B w0 355 [.slice A nn c,ah a,ah b,ah n,fv] (.own 3 1 A nn c (bN D)::F) (λr L=>r= .tuple #[]/\L= .own 3 1 A nn c (bN (swR D a b n))::F):=by
 subst Zn;refine cV func355 38 rfl rfl rfl [(0,.slice A (E D) c),(1,ah a),(2,ah b),(3,ah n),(4,fv)] ⟨⟨rfl,rfl⟩,⟨rfl,rfl⟩,⟨rfl,rfl⟩,⟨rfl,rfl⟩,⟨rfl,rfl⟩,trivial⟩ ?_;refine dw ?_;refine aw (λzf zL zm=>∃(i:Nat),(i<=n)/\n-i=zm/\Sub zf [(0,.slice A (E D) c),(1,ah a),(2,ah b),(3,ah n),(10,ah i)]/\Wk zL (.own 3 1 A (E D) c (bN (swR D a b i))::F)) _ ⟨0,bD _,rfl,a_,.refl _⟩ ?_;rintro _ _ _ ⟨i,hi,rfl,hs,hp⟩;refine aL hs hp (ag 8 (λnj=>?_) λnj=>?_)
 ·have lB:=XJ D a b i;refine fb ?_;refine jH (A:=A) (n:=E D) (xs:=bN (swR D a b i)) (.head _) aa ?_;intro ad hA;subst hA;refine lx F ?_;refine aF 0 12 ?_;refine aS 12 rfl (aO (size:=1) (i:=b+i) underlying53 ae rfl rfl aa aa) (aF 14 4 ?_);refine aS 18 rfl (aO (size:=1) (i:=a+i) underlying53 ae rfl rfl aa aa) (iv 13 19 ?_ ?_)
  ·refine iP rfl .no (al ae rfl aA aa (fV aa)) rfl gI ?_;refine aC 19 (iP rfl .no (al ae rfl aA aa (fV aa)) rfl gI ?_);refine aS 20 rfl (aO (size:=1) (i:=a+i) underlying53 ae rfl rfl aa aa) (aC 21 (aX ?_));refine aS 22 rfl (aO (size:=1) (i:=b+i) underlying53 ae rfl rfl aa aa) (aC 23 (aX ?_));refine di [0,1,2,3,10] ?_;refine dg ?_;refine aj ⟨_,aa,i+1,aa,rfl,a_,au rfl vj (.refl _)⟩
  ·refine iP rfl .no (al ae rfl aA aa (fV aa)) rfl gI ?_;refine aC 13 (iP rfl .no (al ae rfl aA aa (fV aa)) rfl gI ?_);refine aS 20 rfl (aO (size:=1) (i:=a+i) underlying53 ae rfl rfl aa aa) (aC 21 (aX ?_));refine aS 22 rfl (aO (size:=1) (i:=b+i) underlying53 ae rfl rfl aa aa) (aC 23 (aX ?_));refine di [0,1,2,3,10] ?_;refine dg ?_;refine aj ⟨_,aa,i+1,aa,rfl,a_,au rfl vj (.refl _)⟩
 ·obtain rfl:i=n:=by omega
  exact cm 6
theorem OF(H:HD B w0 F Ao co l){b:Nat}(ha:E P=a)(hb:a+E R=b)(hn:b+E Q=n)(ry:n<=1000000)(hr:Ri R)(hN:∀x∈R,x<E l):
  bg B w0 344 [.slice A n c,ah a,ah b,.func (.func 315) #[] #[bq g]] (Sf A n c (P++(R++Q)) g Ao (E l) co F)
   (λr L=>r= .tuple #[]/\L=Sf A n c (P++(dj (oN l) R++Q)) g Ao (E l) co F):=by
 refine ba func344 53 [0,1,2,3] 8 ?_;refine aw (λzf zL zm=>∃(k:Nat),(1<=k/\k<=max 1 (E R))/\E R-k=zm/\Sub zf [(0,.slice A n c),(1,ah a),(2,ah b),(3,.func (.func 315) #[] #[bq g]),(8,ah (a+k:Nat))]/\Wk zL (Sf A n c (P++(dj (oN l) (R.take k)++(R.drop k++Q))) g Ao (E l) co F)) _ ⟨1,⟨ga _,aa⟩,rfl,a_,au rfl (by rw[aiQ]) (.refl _)⟩ ?_;rintro _ _ _ ⟨k,⟨xn,zY⟩,rfl,hs,hp⟩;refine aL hs hp (ag 8 (λgT=>?_) λgT=>?_)
 ·have x8:k<E R:=by omega
  obtain⟨x,WG⟩:=cM (R.getD k 0);have hx:x<E l:=by rw[WG];exact hN _ (bc x8 0)
  have hdk:R.drop k=x::R.drop (k+1):=by rw[WG];exact cy x8 0
  obtain⟨S,hS⟩:=cM (dj (oN l) (R.take k));have CW:E (R.take k)=k:=by rw[fZ];omega
  have SA:E S=k:=by rw[hS,iB,CW]
  have hSN:∀y∈S,y<E l:=λy hy=>hN y (ia (gA.1 (hS▸hy)));refine fF ?_;refine aw (λzf zL zm=>∃(j:Nat),(j<=k/\∀y∈S.drop j,oN l x<oN l y)/\j=zm/\Sub zf [(0,.slice A n c),(1,ah a),(2,ah b),(3,.func (.func 315) #[] #[bq g]),(8,ah (a+k:Nat)),(9,ah (a+j:Nat))]/\Wk zL (Sf A n c (mR P S x (R.drop (k+1)++Q) j) g Ao (E l) co F)) _ ⟨k,⟨ga _,by rw[kr aa];exact λy h=>jB⟩,rfl,a_,au rfl (by rw[S_ SA,hdk,hS];rfl) (.refl _)⟩ ?_;rintro _ _ _ ⟨j,⟨hj,hjy⟩,rfl,hs,hp⟩;refine aL hs hp (cN 2 _ ?_);refine aF 0 4 ?_;refine agR 21 rfl (λmQ=>?_) (λmQ=>?_)
  ·obtain⟨i,rfl⟩:∃i,j=i+1:=⟨j-1,aa⟩
   have Wy:=EP P S x (R.drop (k+1)++Q) (j:=i+1) aa;rw[bm,jM]at Wy;have He:S.getD i 0<E l:=hSN _ (bc aa 0);refine jx 4 rfl ae ae ae rfl rfl (ek rfl) rfl ?_;refine jx 5 rfl ae ae ae rfl rfl (ek rfl) rfl ?_;refine jx 6 rfl ae ae ae rfl rfl (ek rfl) rfl ?_;refine jx 7 rfl ae ae ae rfl rfl (az (i:=a+(i+1)) underlying53 ae rfl rfl aa aa aA) rfl ?_;refine jx 8 rfl ae ae ae rfl rfl (al ae rfl aA aa (fi (v:=x) aa (aiP aa aa))) rfl ?_;refine jx 9 rfl ae ae ae rfl rfl (ek rfl) rfl ?_;refine jx 10 rfl ae ae ae rfl rfl (ek rfl) rfl ?_;refine jx 11 rfl ae ae ae rfl rfl (cU rfl rfl (bj aa aa)) rfl ?_;refine jx 12 rfl ae ae ae rfl rfl (az (i:=a+i) underlying53 ae rfl rfl aa aa aA) rfl ?_;refine jx 13 rfl ae ae ae rfl rfl (al ae rfl aA aa (fi (v:=S.getD i 0) aa (Zz aa aa))) rfl ?_;refine aC 14 (p7 rfl (.yes rfl rfl) VD rfl rfl (K5 H hx He) rfl DL ?_);rintro _ _ ⟨rfl,cR⟩;obtain rfl:=cR.symm;refine jx 15 rfl ae ae ae rfl rfl (yA rfl rfl) rfl ?_;refine dI 16 ?_;refine ag 2 (λCe=>?_) λCe=>?_
   ·refine fb ?_;refine jH (A:=A) (n:=n) (xs:=bN (mR P S x (R.drop (k+1)++Q) (i+1))) (.head _) aa ?_;intro ad hA;subst hA;refine lx (.bI g 213 [.slice Ao (E l) co]::F) ?_;refine aF 0 8 ?_;refine aS 8 rfl (aO (size:=1) (i:=a+i) underlying53 ae rfl rfl aa aa) (aF 10 2 ?_);refine aS 12 rfl (aO (size:=1) (i:=a+(i+1)) underlying53 ae rfl rfl aa aa) (iv 9 13 ?_ ?_)
    ·refine iP rfl .no (al ae rfl aA aa (fV aa)) rfl gI ?_;refine aC 13 ?_;refine iP rfl .no (al ae rfl aA aa (fV aa)) rfl gI ?_;refine aS 14 rfl (aO (size:=1) (i:=a+(i+1)) underlying53 ae rfl rfl aa aa) ?_;refine aC 15 ?_;refine aX ?_;refine aS 16 rfl (aO (size:=1) (i:=a+i) underlying53 ae rfl rfl aa aa) ?_;refine aC 17 ?_;refine aX ?_;refine di [0,1,2,3,8,9] ?_;refine dg ?_;refine aj ⟨_,aa,i,⟨aa,λy hy=>by
      rw[cy (l:=S) aa 0]at hy;rcases fq.1 hy with e|e
      ·rw[e];exact mv.1 Ce
      ·exact hjy y e⟩,rfl,a_,au rfl U0 (.refl _)⟩
    ·refine iP rfl .no (al ae rfl aA aa (fV aa)) rfl gI ?_;refine aC 9 ?_;refine iP rfl .no (al ae rfl aA aa (fV aa)) rfl gI ?_;refine aS 14 rfl (aO (size:=1) (i:=a+(i+1)) underlying53 ae rfl rfl aa aa) ?_;refine aC 15 ?_;refine aX ?_;refine aS 16 rfl (aO (size:=1) (i:=a+i) underlying53 ae rfl rfl aa aa) ?_;refine aC 17 ?_;refine aX ?_;refine di [0,1,2,3,8,9] ?_;refine dg ?_;refine aj ⟨_,aa,i,⟨aa,λy hy=>by
      rw[cy (l:=S) aa 0]at hy;rcases fq.1 hy with e|e
      ·rw[e];exact mv.1 Ce
      ·exact hjy y e⟩,rfl,a_,au rfl U0 (.refl _)⟩
   ·refine aD 10 [0,1,2,3,8] 0 ?_;refine aj ⟨_,aa,k+1,⟨aa,aa⟩,rfl,a_,au rfl (by rw[hS,OE (o:=oN l) hr x8 WG aa (λq hq=>by injection hq with hq;rw[<-hq,<-hS];exact λh=>Ce (mv.2 h)) (by rw[<-hS];exact hjy)]) (.refl _)⟩
  ·refine iU 4 rfl ae ae ae rfl rfl rfl rfl ?_;refine iU 5 rfl ae ae ae rfl rfl rfl rfl ?_;refine iU 6 rfl ae ae ae rfl rfl rfl rfl ?_;refine iU 7 rfl ae ae ae rfl rfl rfl rfl ?_;refine iU 8 rfl ae ae ae rfl rfl rfl rfl ?_;refine iU 9 rfl ae ae ae rfl rfl rfl rfl ?_;refine iU 10 rfl ae ae ae rfl rfl rfl rfl ?_;refine iU 11 rfl ae ae ae rfl rfl rfl rfl ?_;refine iU 12 rfl ae ae ae rfl rfl rfl rfl ?_;refine iU 13 rfl ae ae ae rfl rfl rfl rfl ?_;refine iU 14 rfl ae ae ae rfl rfl rfl rfl ?_;refine iU 15 rfl ae ae ae rfl rfl rfl rfl ?_;refine dI 16 ?_;refine aD 13 [0,1,2,3,8] 0 ?_;refine aj ⟨_,aa,k+1,⟨aa,aa⟩,rfl,a_,au rfl (by rw[hS,OE (o:=oN l) hr x8 WG aa (λq hq=>aa) (by rw[<-hS];exact hjy)]) (.refl _)⟩
 ·rw[gv aa,kr aa];exact cm 6
end
section
variable{l:br}
theorem avI(h:E Y<E X):swR (P++(X++(Y++Q))) (E P) (E P+E X) (E Y)=(P++Y)++(X.drop (E Y)++(X.take (E Y)++Q)):=by
 have hl:E (X.take (E Y))=E Y:=by rw[fZ];omega
 have:=LO P (X.take (E Y)) (X.drop (E Y)) Y Q (a:=E P) (b:=E P+E X) (n:=E Y) rfl (by rw[hl,jM];omega) hl hl.symm;rw[<-bT (X.take (E Y)),kH]at this;rw[this,bT]
theorem avJ(h:E X<E Y):swR (P++(X++(Y++Q))) (E P) (E P+E Y) (E X)=P++(Y.drop (E Y-E X)++(Y.take (E Y-E X)++(X++Q))):=by
 have hl:E (Y.drop (E Y-E X))=E X:=by rw[jM];omega
 have:=LO P X (Y.take (E Y-E X)) (Y.drop (E Y-E X)) Q (a:=E P) (b:=E P+E Y) (n:=E X) rfl jA hl.symm rfl;rw[<-bT (Y.take (E Y-E X)),kH]at this;rw[this]
theorem avK(h:E X=E Y):swR (P++(X++(Y++Q))) (E P) (E P+E X) (E X)=P++(Y++(X++Q)):=
 LO P X [] Y Q rfl ao h rfl
theorem afo{b:Nat}{fv:Value}(ha:E P=a)(hm:a+E X=m)(hb:m+E Y=b)(hn:b+E Q=n)(ry:n<=1000000)(hX:0<E X)(hY:0<E Y):
  bg B w0 349 [.slice A n c,ah a,ah m,ah b,fv] (.own 3 1 A n c (bN (P++(X++(Y++Q))))::F)
   (λr L=>r= .tuple #[]/\L= .own 3 1 A n c (bN (P++(Y++(X++Q))))::F):=by
 refine ba func349 58 [0,1,2,3,4] 18 ?_;refine aw (λzf zL zm=>∃(P' X' Y' Q':br),(E P'+E X'=m/\m+E Y'+E Q'=n/\0<E X'/\0<E Y'/\P'++(Y'++(X'++Q'))=P++(Y++(X++Q)))/\E X'+E Y'=zm/\Sub zf [(0,.slice A n c),(2,ah m),(4,fv),(10,ah (E X')),(11,ah (E Y'))]/\Wk zL (.own 3 1 A n c (bN (P'++(X'++(Y'++Q'))))::F)) _ ⟨P,X,Y,Q,⟨aa,aa,hX,hY,rfl⟩,rfl,a_,.refl _⟩ ?_;rintro _ _ _ ⟨P',X',Y',Q',⟨h1,h2,h3,h4,h5⟩,rfl,hs,hp⟩;refine aL hs hp (ag 8 (λkp=>?_) λkp=>?_)
 ·refine ag 10 (λpe=>?_) λpe=>?_
  ·have hr:=avI (P:=P') (X:=X') (Y:=Y') (Q:=Q') aa;rw[h1]at hr;have hd1:E (X'.drop (E Y'))=E X'-E Y':=jM;have Y_:E (X'.take (E Y'))=E Y':=by rw[fZ];omega
   have hd3:E (P'++Y')=E P'+E Y':=bm;refine dx ?_;refine ab (cU rfl rfl ((bj aa aa).trans (show _=((E P':Nat):Int) by omega))) rfl (fc ?_);refine ai rfl (Uh (a:=E P') (b:=m) (n:=E Y') bS aa aa ry h4) (aD 7 [0,2,4,10,11] 1 ?_);refine aj ⟨_,aa,P'++Y',X'.drop (E Y'),X'.take (E Y'),Q',⟨aa,aa,aa,aa,by rw[<-h5,bT,<-bT (X'.take (E Y')),kH]⟩,rfl,a_,au rfl (by rw[hr]) (.refl _)⟩
  ·have hr:=avJ (P:=P') (X:=X') (Y:=Y') (Q:=Q') aa;have hd1:E (Y'.drop (E Y'-E X'))=E X':=by rw[jM];omega
   have Y_:E (Y'.take (E Y'-E X'))=E Y'-E X':=by rw[fZ];omega
   have hd3:E (X'++Q')=E X'+E Q':=bm;refine dx ?_;refine ab (cU rfl rfl ((bj aa aa).trans (show _=((E P':Nat):Int) by omega))) rfl (fb ?_);refine ab (cU rfl rfl ((bj aa aa).trans (show _=((E P'+E Y':Nat):Int) by omega))) rfl (ew ?_);refine ai rfl (Uh (a:=E P') (b:=E P'+E Y') (n:=E X') bS aa aa ry h3) (ve [0,2,4,10,11] ?_);refine cY ?_;refine aj ⟨_,aa,P',Y'.drop (E Y'-E X'),Y'.take (E Y'-E X'),X'++Q',⟨aa,aa,aa,aa,by rw[<-h5,<-bT (Y'.take (E Y'-E X')),kH]⟩,rfl,a_,au rfl (by rw[hr]) (.refl _)⟩
 ·have hr:=avK (P:=P') (X:=X') (Y:=Y') (Q:=Q') aa;rw[h1]at hr;refine dA ?_;refine ab (cU rfl rfl ((bj aa aa).trans (show _=((E P':Nat):Int) by omega))) rfl (fc ?_);refine ai rfl (Uh (a:=E P') (b:=m) (n:=E X') bS aa aa ry h3) (fc ?_);rw[hr,h5];exact⟨rfl,rfl⟩
end
section
set_option maxHeartbeats 1000000
variable{l:br}
theorem WM{x:Nat}(h:j+1<=E S):swN (mR P S x Q j) (E P+j) (E P+(j+1))=mR P S x Q (j+1):=by
 have:=Ug (P++S.take j) x [] (S.getD j 0) (S.drop (j+1)++Q) (i:=E P+j) (j:=E P+(j+1)) (by rw[bm,fZ];omega) (by rw[bm,fZ,tT];omega);unfold mR;rw[aP aa 0,cy (l:=S) (k:=j) aa 0];simpa using this
theorem o_{k:Nat}(h:k<E S)(hi:i=E P+k):(P++(S++Q)).getD i 0=S.getD k 0:=by
 have:=uB (P++S.take k) (S.getD k 0) (S.drop (k+1)++Q);rw[bm,fZ,C2 aa,<-hi]at this;have e:S=S.take k++(S.getD k 0::S.drop (k+1)):=by rw[<-cy h 0,kH]
 conv=>lhs;rw[e]
 simpa using this
structure Mg(l P U V Q:br)(a m b n:Nat):Prop where
 ha:E P=a
 hm:a+E U=m
 hb:m+E V=b
 hn:b+E Q=n
 ry:n<=1000000
 hU:0<E U
 hV:0<E V
 sU:sr (oN l) U
 sV:sr (oN l) V
 lt:∀u∈U,∀v∈V,u<v
 nd:(U++V).Nodup
 N:∀x∈U++V,x<E l
theorem Pw(hs:sr o S){k w:Nat}(hk:k<E S)(h:o (S.getD k 0)<w):∀y∈S.take (k+1),o y<w:=λy hy=>by
 obtain⟨i,hi,rfl⟩:=mF hy;rw[fZ]at hi;rw[OO];rw[bz,fx hk,wA]at h;by_cases e:i=k
 ·subst e;exact h
 ·have:=qq.1 hs i k aa hk aa;unfold tE at this;omega
theorem Pv(hs:sr o S){k w:Nat}(hk:k<E S)(h:w<=o (S.getD k 0)):∀y∈S.drop k,w<=o y:=λy hy=>by
 obtain⟨i,hi,rfl⟩:=mF hy;rw[jM]at hi;rw[List.getElem_drop];rw[bz,fx hk,wA]at h;by_cases e:i=0
 ·subst e;exact h
 ·have:=qq.1 hs k (k+i) hk aa aa;unfold tE at this;omega
theorem I3{T:br}{x:Nat}(hs:sr o S)(hn:T.Nodup)(hT:∀y,y∈T↔y=x\/y∈S)(h1:∀y∈S.take i,tE o y x)(h2:∀y∈S.drop i,tE o x y):mR P S x Q i=P++(dj o T++Q):=by
 have:S.take i++x::S.drop i=dj o T:=by
  refine sr.pS (adY hs h1 h2) hn λy=>?_;rw[hT,dO,fq];have e:y∈S↔y∈S.take i\/y∈S.drop i:=by
   conv=>lhs;rw[<-kH i S]
   exact dO
  rw[e];constructor
  ·rintro(h|h|h)
   ·exact .inr (.inl h)
   ·exact .inl h
   ·exact .inr (.inr h)
  ·rintro(h|h|h)
   ·exact .inr (.inl h)
   ·exact .inl h
   ·exact .inr (.inr h)
 unfold mR;rw[<-this];simp[bT]
abbrev Q6(g:Nat):Value:=.func (.func 315) #[] #[bq g]
def MJ(l P U V Q:br)(A:bh)(n c g:Nat)(Ao:bh)(co:Nat)(F:aN)(r:Value)(L:aN):Prop:=r= .tuple #[]/\L=Sf A n c (P++(dj (oN l) (U++V)++Q)) g Ao (E l) co F
theorem as0(H:HD B w0 F Ao co l){b:Nat}(M:Mg l P U V Q a m b n)(h1:E U=1):
  bg B w0 345 [.slice A n c,ah a,ah m,ah b,Q6 g] (Sf A n c (P++(U++(V++Q))) g Ao (E l) co F) (MJ l P U V Q A n c g Ao co F):=by
 unfold MJ;obtain⟨ha,hm,hb,hn,ry,hU,hV,sU,sV,lt,nd,hN⟩:=M;obtain⟨u,rfl⟩:∃u,U=[u]:=by
  match U,h1 with
  |[u],_=>exact⟨u,rfl⟩
 have yU:u<E l:=hN u ao;have hD0:E (P++([u]++(V++Q)))=n:=by simp;omega
 have hgu:(P++([u]++(V++Q))).getD a 0=u:=o_ (S:=[u]) (k:=0) ao aa;refine fw func345 220 [0,1,2,3,4] ?_;refine ag 9 (λqa=>?_) λqa=>?_
 ·refine bK 14 ?_;refine aw (λzf zL zm=>∃(i j:Nat),(i<=j/\j<=E V/\(∀y∈V.take i,oN l y<oN l u)/\(∀y∈V.drop j,oN l u<=oN l y))/\j-i=zm/\Sub zf [(0,.slice A n c),(1,ah a),(4,Q6 g),(10,ah (m+i:Nat)),(11,ah (m+j:Nat))]/\Wk zL (Sf A n c (P++([u]++(V++Q))) g Ao (E l) co F)) _ ⟨0,E V,⟨bD _,ga _,ao,by rw[Cu];simp⟩,rfl,a_,.refl _⟩ ?_;rintro _ _ _ ⟨i,j,⟨Ww,hj,SR,hhi⟩,rfl,hs,hp⟩;refine aL hs hp (ag 8 (λCd=>?_) λCd=>?_)
  ·obtain⟨h,hh⟩:∃h,m+h=(m+i+(m+j))/2:=⟨(m+i+(m+j))/2-m,aa⟩
   have Wv:h<E V:=by omega
   have Zt:V.getD h 0<E l:=hN _ (mG _ (bc Wv 0));refine dg ?_;refine ab (bF rfl rfl (r:=((m+i+(m+j):Nat):Int)) ((bj aa aa).trans aa)) rfl (aX ?_);refine ab (dH rfl rfl aa (KI (m+i+(m+j)))) rfl (ab (be underlying192 underlying3 rfl (r:=((m+h:Nat):Int)) ((bj aa aa).trans aa)) rfl (cN 4 _ ?_));refine aF 0 3 ?_;refine aS 3 rfl (az (i:=m+h) underlying53 ae rfl rfl aa aa aA) ?_;refine aS 4 rfl (al ae rfl aA aa (fi (v:=V.getD h 0) aa (by rw[<-bT];exact o_ Wv bS))) ?_;refine aF 5 3 ?_;refine aS 8 rfl (al ae rfl aA aa (fi (v:=u) aa hgu)) ?_;refine aC 9 (p7 rfl .no VD rfl rfl (K5 H Zt yU) rfl DL ?_);rintro _ _ ⟨rfl,cR⟩;obtain rfl:=cR.symm;refine dI 10 ?_;refine di [0,1,4,10,11,12,50] ?_;refine ag 1 (λOe=>?_) λOe=>?_
   ·refine dw ?_;refine aj ⟨_,aa,h+1,j,⟨aa,hj,Pw sV Wv (mv.1 Oe),hhi⟩,rfl,a_,.refl _⟩
   ·refine dx ?_;refine aj ⟨_,aa,i,h,⟨aa,aa,SR,Pv sV Wv (wW λk=>Oe (mv.2 k))⟩,rfl,a_,.refl _⟩
  ·obtain rfl:i=j:=by omega
   have uE:mR P V u Q i=P++(dj (oN l) ([u]++V)++Q):=I3 sV nd (λy=>ao) (λy hy=>.inl (SR y hy)) (λy hy=>by
    have:=hhi y hy;have:=lt u ao y (oG hy);unfold tE;omega)
   refine bK 13 ?_;refine aw (λzf zL zm=>∃(d:Nat),(d<=i)/\i-d=zm/\Sub zf [(0,.slice A n c),(10,ah (m+i:Nat)),(13,ah (a+d:Nat))]/\Wk zL (Sf A n c (mR P V u Q d) g Ao (E l) co F)) _ ⟨0,bD _,rfl,a_,au rfl (by simp[mR]) (.refl _)⟩ ?_;rintro _ _ _ ⟨d,hd,rfl,hs,hp⟩;refine aL hs hp (ag 9 (λh58=>?_) λh58=>?_)
   ·have SH:=EP P V u Q (j:=d) aa;simp only[tz]at hm;refine fb ?_;refine jH (A:=A) (n:=n) (xs:=bN (mR P V u Q d)) (.head _) aa ?_;intro ad hA;subst hA;refine lx (.bI g 213 [.slice Ao (E l) co]::F) ?_;refine aF 0 8 ?_;refine aS 8 rfl (aO (size:=1) (i:=a+(d+1)) underlying53 ae rfl rfl aa aa) (aF 10 2 ?_);refine aS 12 rfl (aO (size:=1) (i:=a+d) underlying53 ae rfl rfl aa aa) (iv 9 13 ?_ ?_)
    ·refine iP rfl .no (al ae rfl aA aa (fV aa)) rfl gI ?_;refine aC 13 (iP rfl .no (al ae rfl aA aa (fV aa)) rfl gI ?_);refine aS 14 rfl (aO (size:=1) (i:=a+d) underlying53 ae rfl rfl aa aa) (aC 15 (aX ?_));refine aS 16 rfl (aO (size:=1) (i:=a+(d+1)) underlying53 ae rfl rfl aa aa) (aC 17 (aX ?_));refine di [0,10,13] ?_;refine dg ?_;refine aj ⟨_,aa,d+1,aa,rfl,a_,au rfl (by rw[vj,<-ha,WM aa]) (.refl _)⟩
    ·refine iP rfl .no (al ae rfl aA aa (fV aa)) rfl gI ?_;refine aC 9 (iP rfl .no (al ae rfl aA aa (fV aa)) rfl gI ?_);refine aS 14 rfl (aO (size:=1) (i:=a+d) underlying53 ae rfl rfl aa aa) (aC 15 (aX ?_));refine aS 16 rfl (aO (size:=1) (i:=a+(d+1)) underlying53 ae rfl rfl aa aa) (aC 17 (aX ?_));refine di [0,10,13] ?_;refine dg ?_;refine aj ⟨_,aa,d+1,aa,rfl,a_,au rfl (by rw[vj,<-ha,WM aa]) (.refl _)⟩
   ·simp only[tz]at hm;obtain rfl:d=i:=by omega
    refine cY ?_;exact⟨rfl,by rw[uE]⟩
 ·exfalso;(simp only[tz]at hm;omega)
theorem as1(H:HD B w0 F Ao co l){b:Nat}(M:Mg l P U V Q a m b n)(h0:E U≠1)(h1:E V=1):
  bg B w0 345 [.slice A n c,ah a,ah m,ah b,Q6 g] (Sf A n c (P++(U++(V++Q))) g Ao (E l) co F) (MJ l P U V Q A n c g Ao co F):=by
 unfold MJ;obtain⟨ha,hm,hb,hn,ry,hU,hV,sU,sV,lt,nd,hN⟩:=M;obtain⟨v,rfl⟩:∃v,V=[v]:=by
  match V,h1 with
  |[v],_=>exact⟨v,rfl⟩
 have Zt:v<E l:=hN v ao;have hD0:E (P++(U++([v]++Q)))=n:=by simp only[bm];omega
 have hgv:(P++(U++([v]++Q))).getD m 0=v:=by rw[<-bT];exact o_ (S:=[v]) (k:=0) ao bS
 simp only[tz]at hb;refine fw func345 220 [0,1,2,3,4] ?_;refine bZ 9 λqa=>?_;refine sF 11 λh80=>?_;refine bK 14 ?_;refine aw (λzf zL zm=>∃(i j:Nat),(i<=j/\j<=E U/\(∀y∈U.take i,oN l y<=oN l v)/\(∀y∈U.drop j,oN l v<oN l y))/\j-i=zm/\Sub zf [(0,.slice A n c),(2,ah m),(4,Q6 g),(14,ah (a+i:Nat)),(15,ah (a+j:Nat))]/\Wk zL (Sf A n c (P++(U++([v]++Q))) g Ao (E l) co F)) _ ⟨0,E U,⟨bD _,ga _,ao,by rw[Cu];simp⟩,rfl,a_,.refl _⟩ ?_;rintro _ _ _ ⟨i,j,⟨Ww,hj,SR,hhi⟩,rfl,hs,hp⟩;refine aL hs hp (ag 8 (λh85=>?_) λh85=>?_)
 ·obtain⟨h,hh⟩:∃h,a+h=(a+i+(a+j))/2:=⟨(a+i+(a+j))/2-a,aa⟩
  have Wv:h<E U:=by omega
  have yU:U.getD h 0<E l:=hN _ (ku _ (bc Wv 0));refine dg ?_;refine ab (bF rfl rfl (r:=((a+i+(a+j):Nat):Int)) ((bj aa aa).trans aa)) rfl (aX ?_);refine ab (dH rfl rfl aa (KI (a+i+(a+j)))) rfl (ab (be underlying192 underlying3 rfl (r:=((a+h:Nat):Int)) ((bj aa aa).trans aa)) rfl (cN 4 _ ?_));refine aF 0 4 ?_;refine aS 4 rfl (al ae rfl aA aa (fi (v:=v) aa hgv)) ?_;refine aF 5 2 ?_;refine aS 7 rfl (az (i:=a+h) underlying53 ae rfl rfl aa aa aA) ?_;refine aS 8 rfl (al ae rfl aA aa (fi (v:=U.getD h 0) aa (o_ Wv aa))) ?_;refine aC 9 (p7 rfl .no VD rfl rfl (K5 H Zt yU) rfl DL ?_);rintro _ _ ⟨rfl,cR⟩;obtain rfl:=cR.symm;refine aF 10 2 ?_;refine di [0,2,4,14,15,16,103] ?_;refine ag 1 (λam0=>?_) λam0=>?_
  ·refine dw ?_;refine aj ⟨_,aa,h+1,j,⟨aa,hj,λy hy=>Nat.le_of_lt_succ (Pw sU Wv (Nat.lt_succ_of_le (wW λk=>am0 (mv.2 k))) y hy),hhi⟩,rfl,a_,.refl _⟩
  ·refine dx ?_;refine aj ⟨_,aa,i,h,⟨aa,aa,SR,λy hy=>Pv sU Wv (mv.1 (gE.1 am0)) y hy⟩,rfl,a_,.refl _⟩
 ·obtain rfl:i=j:=by omega
  have uE:mR P U v Q i=P++(dj (oN l) (U++[v])++Q):=I3 sU nd (λy=>by simp[or_comm]) (λy hy=>by
   have:=SR y hy;have:=lt y (ia hy) v ao;unfold tE;omega) (λy hy=>.inl (hhi y hy))
  refine bK 13 ?_;refine aw (λzf zL zm=>∃(d:Nat),(i<=d/\d<=E U)/\d=zm/\Sub zf [(0,.slice A n c),(14,ah (a+i:Nat)),(17,ah (a+d:Nat))]/\Wk zL (Sf A n c (mR P U v Q d) g Ao (E l) co F)) _ ⟨E U,⟨hj,ga _⟩,rfl,a_,au rfl (by simp[mR]) (.refl _)⟩ ?_;rintro _ _ _ ⟨d,⟨hd1,Y_⟩,rfl,hs,hp⟩;refine aL hs hp (ag 8 (λatZ=>?_) λatZ=>?_)
  ·obtain⟨d,rfl⟩:∃d',d=d'+1:=⟨d-1,aa⟩
   have SH:=EP P U v Q (j:=d+1) aa;refine fb ?_;refine jH (A:=A) (n:=n) (xs:=bN (mR P U v Q (d+1))) (.head _) aa ?_;intro ad hA;subst hA;refine lx (.bI g 213 [.slice Ao (E l) co]::F) ?_;refine aF 0 8 ?_;refine aS 8 rfl (aO (size:=1) (i:=a+d) underlying53 ae rfl rfl aa aa) (aF 10 2 ?_);refine aS 12 rfl (aO (size:=1) (i:=a+(d+1)) underlying53 ae rfl rfl aa aa) (iv 9 13 ?_ ?_)
   ·refine iP rfl .no (al ae rfl aA aa (fV aa)) rfl gI ?_;refine aC 13 (iP rfl .no (al ae rfl aA aa (fV aa)) rfl gI ?_);refine aS 14 rfl (aO (size:=1) (i:=a+(d+1)) underlying53 ae rfl rfl aa aa) (aC 15 (aX ?_));refine aS 16 rfl (aO (size:=1) (i:=a+d) underlying53 ae rfl rfl aa aa) (aC 17 (aX ?_));refine di [0,14,17] ?_;refine dg ?_;refine aj ⟨_,aa,d,⟨aa,aa⟩,rfl,a_,au rfl U0 (.refl _)⟩
   ·refine iP rfl .no (al ae rfl aA aa (fV aa)) rfl gI ?_;refine aC 9 (iP rfl .no (al ae rfl aA aa (fV aa)) rfl gI ?_);refine aS 14 rfl (aO (size:=1) (i:=a+(d+1)) underlying53 ae rfl rfl aa aa) (aC 15 (aX ?_));refine aS 16 rfl (aO (size:=1) (i:=a+d) underlying53 ae rfl rfl aa aa) (aC 17 (aX ?_));refine di [0,14,17] ?_;refine dg ?_;refine aj ⟨_,aa,d,⟨aa,aa⟩,rfl,a_,au rfl U0 (.refl _)⟩
  ·obtain rfl:d=i:=by omega
   refine cY ?_;exact⟨rfl,by rw[uE]⟩
end
section
set_option maxHeartbeats 1000000
variable{l:br}
theorem amX(hs:sr o S){k:Nat}(hk:k<E S):∀y∈S.drop k,y=S.getD k 0\/tE o (S.getD k 0) y:=λy hy=>by
 rw[cy hk 0]at hy;rcases fq.1 hy with e|e
 ·exact .inl e
 ·refine .inr ?_;obtain⟨i,hi,rfl⟩:=mF e;rw[jM]at hi;rw[List.getElem_drop,bz,fx hk,wA];exact qq.1 hs k (k+1+i) hk aa aa
theorem alj{T:br}(hS:sr o S)(hT:sr o T)(hi:i<E S)(h:j<E T->tE o (S.getD i 0) (T.getD j 0)):∀x∈S.take (i+1),∀y∈T.drop j,tE o x y:=λx hx y hy=>by
 by_cases hj:j<E T
 ·have h1:=XG hS hi (h hj) x hx;rcases amX hT hj y hy with e|e
  ·rw[e];exact h1
  ·exact rT h1 e
 ·rw[kr aa]at hy;cases hy
theorem aet{b lo hi s mN:Nat}(sU:sr o U)(sV:sr o V)(hm:a+E U=m)(hb:m+E V=b)(k1:a<=lo)(k2:lo<=s)(k3:s<=hi)(k4:hi<=m)(k5:hi<=mN)(k6:mN+m<=b+lo)(k7:lo=a\/mN+m=b+lo)(k8:hi=m\/hi=mN)(j8:s=lo\/tE o (U.getD (s-1-a) 0) (V.getD (mN+m-s-m) 0))(jj:s=hi\/tE o (V.getD (mN+m-1-s-m) 0) (U.getD (s-a) 0)):
  ∃U1 U2 V1 V2,U=U1++U2/\V=V1++V2/\a+E U1=s/\s+E V1=mN/\∀x∈U1++V1,∀y∈U2++V2,tE o x y:=by
 refine⟨U.take (s-a),U.drop (s-a),V.take (mN-s),V.drop (mN-s),(kH _ _).symm,(kH _ _).symm,jA,jA,λx hx y hy=>?_⟩;have hUU:∀x∈U.take (s-a),∀y∈U.drop (s-a),tE o x y:=by
  have:=sU;rw[<-kH (s-a) U]at this;exact(rI.1 this).2.2
 have hVV:∀x∈V.take (mN-s),∀y∈V.drop (mN-s),tE o x y:=by
  have:=sV;rw[<-kH (mN-s) V]at this;exact(rI.1 this).2.2
 rcases dO.1 hx with hx|hx
 ·rcases dO.1 hy with hy|hy
  ·exact hUU x hx y hy
  ·by_cases e:s=a
   ·rw[e,rE]at hx;simp at hx
   ·by_cases e2:mN-s<E V
    ·rcases j8 with h|h
     ·omega
     ·rw[show mN+m-s-m=mN-s by omega]at h;have:=alj sU sV (i:=s-1-a) (j:=mN-s) aa (λ_=>h);rw[show s-1-a+1=s-a by omega]at this;exact this x hx y hy
    ·rw[kr aa]at hy;cases hy
 ·rcases dO.1 hy with hy|hy
  ·by_cases e:s=mN
   ·rw[e,rE]at hx;simp at hx
   ·by_cases e2:s-a<E U
    ·rcases jj with h|h
     ·omega
     ·rw[show mN+m-1-s-m=mN-s-1 by omega]at h;have:=alj sV sU (i:=mN-s-1) (j:=s-a) aa (λ_=>h);rw[show mN-s-1+1=mN-s by omega]at this;exact this x hx y hy
    ·rw[kr aa]at hy;cases hy
  ·exact hVV x hx y hy
theorem asq{x:Nat}:(x∈U1++V1->x∈(U1++U2)++(V1++V2))/\(x∈U2++V2->x∈(U1++U2)++(V1++V2)):=by
 simp only[dO];constructor
 ·rintro(h|h)
  ·exact .inl (.inl h)
  ·exact .inr (.inl h)
 ·rintro(h|h)
  ·exact .inl (.inr h)
  ·exact .inr (.inr h)
theorem nd4(h:((U1++U2)++(V1++V2)).Nodup):(U1++V1).Nodup/\(U2++V2).Nodup:=
 ⟨h.sublist (List.Sublist.append (sJ U1 U2) (sJ V1 V2)),h.sublist (List.Sublist.append (fN U1 U2) (fN V1 V2))⟩
theorem CE(sU:sr o U)(sV:sr o V)(nd:(U++V).Nodup)(h:U=[]\/V=[]):dj o (U++V)=U++V:=by
 rcases h with h|h
 ·subst h;exact Qj sV nd
 ·subst h;rw[gN]at nd⊢;exact Qj sU nd
theorem af0(H:HD B w0 F Ao co l){sz:Nat}(ih:∀{P U V Q:br} {a m b:Nat},E U+E V<=sz->Mg l P U V Q a m b n->
  bg B w0 345 [.slice A n c,ah a,ah m,ah b,Q6 g] (Sf A n c (P++(U++(V++Q))) g Ao (E l) co F) (MJ l P U V Q A n c g Ao co F)){b:Nat}(iy:E U+E V<=sz+1)(M:Mg l P U V Q a m b n)(hU1:¬E U=1)(hV1:¬E V=1):
  bg B w0 345 [.slice A n c,ah a,ah m,ah b,Q6 g] (Sf A n c (P++(U++(V++Q))) g Ao (E l) co F) (MJ l P U V Q A n c g Ao co F):=by
 unfold MJ at ih⊢;obtain⟨ha,hm,hb,hn,ry,hU,hV,sU,sV,lt,nd,hN⟩:=M;obtain⟨mN,aiF⟩:=cM ((a+b)/2);have hD0:E (P++(U++(V++Q)))=n:=by simp only[bm];omega
 refine fw func345 220 [0,1,2,3,4] ?_;refine bZ 9 λqa=>?_;refine bZ 11 λh80=>?_;refine dw ?_;refine ab (bF rfl rfl (r:=((a+b:Nat):Int)) ((bj aa aa).trans aa)) rfl (aX ?_);refine ab (dH rfl rfl aa (KI (a+b))) rfl (ab (be underlying192 underlying3 rfl (r:=(mN:Int)) ((bj aa aa).trans aa)) rfl (aD 9 [0,1,2,3,4,18,19] 7 ?_));refine dq (λzf zL=>∃(lo hi:Nat),(a<=lo/\lo<=hi/\hi<=m/\hi<=mN/\mN+m<=b+lo/\(lo=a\/mN+m=b+lo)/\(hi=m\/hi=mN))/\Sub zf [(0,.slice A n c),(1,ah a),(2,ah m),(3,ah b),(4,Q6 g),(18,ah mN),(19,ah (mN+m:Nat)),(20,ah lo),(21,ah hi)]/\Wk zL (Sf A n c (P++(U++(V++Q))) g Ao (E l) co F)) ?_ ?_
 ·refine ag 7 (λat6=>?_) λat6=>?_
  ·refine dM ?_;exact bo ⟨mN+m-b,mN,⟨aa,aa,aa,aa,aa,aa,aa⟩,a_,.refl _⟩
  ·refine dh ?_;exact bo ⟨a,m,⟨aa,aa,aa,aa,aa,aa,aa⟩,a_,.refl _⟩
 ·rintro _ _ ⟨lo,hi,⟨k1,k2,k4,k5,k6,k7,k8⟩,hs,hp⟩;refine aL hs hp (dA ?_);refine aw (λzf zL zm=>∃(s r:Nat),(lo<=s/\s<=r/\r<=hi/\(s=lo\/tE (oN l) (U.getD (s-1-a) 0) (V.getD (mN+m-s-m) 0))/\(r=hi\/tE (oN l) (V.getD (mN+m-1-r-m) 0) (U.getD (r-a) 0)))/\r-s=zm/\Sub zf [(0,.slice A n c),(1,ah a),(2,ah m),(3,ah b),(4,Q6 g),(18,ah mN),(19,ah (mN+m:Nat)),(20,ah s),(21,ah r),(22,ah (mN+m-1:Nat))]/\Wk zL (Sf A n c (P++(U++(V++Q))) g Ao (E l) co F)) _ ⟨lo,hi,⟨ga _,k2,ga _,.inl rfl,.inl rfl⟩,rfl,a_,.refl _⟩ ?_;rintro _ _ _ ⟨s,r,⟨g1,g2,g3,j8,jj⟩,rfl,hs,hp⟩;refine aL hs hp (ag 8 (λat7=>?_) λat7=>?_)
  ·obtain⟨h,hh⟩:=cM ((s+r)/2);have hhu:h-a<E U:=by omega
   have hhv:mN+m-1-h-m<E V:=by omega
   have hum:U.getD (h-a) 0∈U:=bc hhu 0;have hvm:V.getD (mN+m-1-h-m) 0∈V:=bc hhv 0;have huv:=lt _ hum _ hvm;have yU:=hN _ (ku _ hum);have Zt:=hN _ (mG _ hvm);refine dg ?_;refine ab (bF rfl rfl (r:=((s+r:Nat):Int)) ((bj aa aa).trans aa)) rfl (aX ?_);refine ab (dH rfl rfl aa (KI (s+r))) rfl (ab (be underlying192 underlying3 rfl (r:=(h:Int)) ((bj aa aa).trans aa)) rfl (cN 4 _ ?_));refine aF 0 5 ?_;refine aS 5 rfl (az (i:=mN+m-1-h) underlying53 ae rfl rfl aa aa aA) ?_;refine aS 6 rfl (al ae rfl aA aa (fi (v:=V.getD (mN+m-1-h-m) 0) aa (by rw[<-bT];exact o_ hhv tg))) ?_;refine aF 7 3 ?_;refine aS 10 rfl (al ae rfl aA aa (fi (v:=U.getD (h-a) 0) aa (o_ hhu aa))) ?_;refine aC 11 (p7 rfl .no VD rfl rfl (K5 H Zt yU) rfl DL ?_);rintro _ _ ⟨rfl,cR⟩;obtain rfl:=cR.symm;refine aF 12 2 ?_;refine di [0,1,2,3,4,18,19,20,21,22,23,171] ?_;refine ag 1 (λadg=>?_) λadg=>?_
   ·refine dw ?_;refine aj ⟨_,aa,h+1,r,⟨aa,aa,g3,.inr (by
     rw[show h+1-1-a=h-a by omega,show mN+m-(h+1)-m=mN+m-1-h-m by omega];have:¬oN l (V.getD (mN+m-1-h-m) 0)<oN l (U.getD (h-a) 0):=λk=>adg (mv.2 k);unfold tE;omega),jj⟩,rfl,a_,.refl _⟩
   ·refine dx ?_;refine aj ⟨_,aa,s,h,⟨g1,aa,aa,j8,.inr (.inl (mv.1 (gE.1 adg)))⟩,rfl,a_,.refl _⟩
  ·obtain rfl:s=r:=by omega
   obtain⟨U1,U2,V1,V2,rfl,rfl,q1,q2,gU⟩:=aet sU sV hm hb k1 g1 g3 k4 k5 k6 k7 k8 j8 jj;simp only[bm]at hm hb iy hU hV;obtain⟨nd1,nd2⟩:=nd4 nd;have sU1:sr (oN l) U1:=sU.sublist (sJ U1 U2);have sU2:sr (oN l) U2:=sU.sublist (fN U1 U2);have sV1:sr (oN l) V1:=sV.sublist (sJ V1 V2);have sV2:sr (oN l) V2:=sV.sublist (fN V1 V2);have uE:=am5 (o:=oN l) nd gU;have awM:E (dj (oN l) (U1++V1))=E U1+E V1:=by rw[iB,bm]
   refine dA ?_;refine ab (cU rfl rfl ((bj aa aa).trans (show _=((mN+m-s:Nat):Int) by omega))) rfl (fc ?_);refine dq (λzf zL=>Sub zf [(0,.slice A n c),(1,ah a),(3,ah b),(4,Q6 g),(18,ah mN),(20,ah s),(24,ah (mN+m-s:Nat))]/\Wk zL (Sf A n c (P++(U1++(V1++(U2++(V2++Q))))) g Ao (E l) co F)) ?_ ?_
   ·refine bf 2 8 185 [0,1,2,3,4,18,20,24] (s<m/\m<mN+m-s) ?_ ?_
    ·refine bC 4 (λam1=>?_) λam1=>?_
     ·exact ax 6 (k:=oJ)
     ·exact ax 3 (k:=wo)
    ·refine ag 2 (λaud=>?_) λaud=>?_
     ·have Cn:P++((U1++U2)++((V1++V2)++Q))=(P++U1)++(U2++(V1++(V2++Q))):=by simp[bT]
      rw[Cn];refine dw ?_;refine ai rfl (afo (P:=P++U1) (X:=U2) (Y:=V1) (Q:=V2++Q) (a:=s) (m:=m) (b:=mN+m-s) tg aa aa tg ry aa aa) (aX ?_);exact bo ⟨a_,au rfl (by simp[bT]) (.refl _)⟩
     ·have Cn:P++((U1++U2)++((V1++V2)++Q))=P++(U1++(V1++(U2++(V2++Q)))):=by
       by_cases e:E U2=0
       ·rw[mg e];simp[bT]
       ·rw[mg (show E V1=0 by omega)];simp[bT]
      refine aX ?_;exact bo ⟨a_,au rfl (by rw[Cn]) (.refl _)⟩
   ·rintro _ _ ⟨hs,hp⟩;refine aL hs hp (dq (λzf zL=>Sub zf [(0,.slice A n c),(3,ah b),(4,Q6 g),(18,ah mN),(24,ah (mN+m-s:Nat))]/\Wk zL (Sf A n c ((P++dj (oN l) (U1++V1))++(U2++(V2++Q))) g Ao (E l) co F)) ?_ ?_)
    ·refine bf 2 8 199 [0,1,3,4,18,20,24] (a<s/\s<mN) ?_ ?_
     ·refine bC 4 (λaue=>?_) λaue=>?_
      ·exact ax 6 (k:=oJ)
      ·exact ax 3 (k:=wo)
     ·refine ag 2 (λauf=>?_) λauf=>?_
      ·refine dw ?_;refine ai rfl (ih (P:=P) (U:=U1) (V:=V1) (Q:=U2++(V2++Q)) (a:=a) (m:=s) (b:=mN) aa ⟨ha,q1,q2,by rw[bm,bm];omega,ry,aa,aa,sU1,sV1,λu hu v hv=>lt u (ku _ hu) v (ku _ hv),nd1,λx hx=>hN x (asq.1 hx)⟩) (aX ?_);exact bo ⟨a_,au rfl (by simp[bT]) (.refl _)⟩
      ·have anw:=CE sU1 sV1 nd1 (by
        by_cases e:E U1=0
        ·exact .inl (mg e)
        ·exact .inr (mg aa))
       refine aX ?_;exact bo ⟨a_,au rfl (by rw[anw];simp[bT]) (.refl _)⟩
    ·rintro _ _ ⟨hs,hp⟩;refine aL hs hp (bf 2 8 213 [0,3,4,18,24] (mN<mN+m-s/\mN+m-s<b) ?_ ?_)
     ·refine bC 4 (λaug=>?_) λaug=>?_
      ·exact ax 6 (k:=oJ)
      ·exact ax 3 (k:=wo)
     ·refine ag 2 (λauh=>?_) λauh=>?_
      ·refine dw ?_;refine ai rfl (ih (P:=P++dj (oN l) (U1++V1)) (U:=U2) (V:=V2) (Q:=Q) (a:=mN) (m:=mN+m-s) (b:=b) aa ⟨tg,aa,aa,hn,ry,aa,aa,sU2,sV2,λu hu v hv=>lt u (mG _ hu) v (mG _ hv),nd2,λx hx=>hN x (asq.2 hx)⟩) (ew ?_);exact ak (L':=Sf A n c (P++(dj (oN l) ((U1++U2)++(V1++V2))++Q)) g Ao (E l) co F) (au rfl (by rw[<-uE];simp[bT]) (.refl _)) (cm 1)
      ·have ave:=CE sU2 sV2 nd2 (by
        by_cases e:E U2=0
        ·exact .inl (mg e)
        ·exact .inr (mg aa))
       refine ew ?_;exact ak (L':=Sf A n c (P++(dj (oN l) ((U1++U2)++(V1++V2))++Q)) g Ao (E l) co F) (au rfl (by rw[<-uE,ave];simp[bT]) (.refl _)) (cm 1)
theorem afZ(H:HD B w0 F Ao co l):∀(sz:Nat) {P U V Q:br} {a m b:Nat},E U+E V<=sz->Mg l P U V Q a m b n->
  bg B w0 345 [.slice A n c,ah a,ah m,ah b,Q6 g] (Sf A n c (P++(U++(V++Q))) g Ao (E l) co F) (MJ l P U V Q A n c g Ao co F)
 |0,P,U,V,Q,a,m,b,iy,M=>by have:=M.hU;omega
 |sz+1,P,U,V,Q,a,m,b,iy,M=>by
  by_cases hU1:E U=1
  ·exact as0 H M hU1
  ·by_cases hV1:E V=1
   ·exact as1 H M hU1 hV1
   ·exact af0 H (afZ H sz) iy M hU1 hV1
theorem alG{c1 c2:br}{b:Nat}(hr:Ri (c1++c2))(hN:∀x∈c1++c2,x<E l)(ha:E X=a)(hm:a+E c1=m)(hb:m+E c2=b)(hn:b+E Q=n)(ry:n<=1000000)(h1:0<E c1)(h2:0<E c2):
  Mg l X (dj (oN l) c1) (dj (oN l) c2) Q a m b n:=by
 obtain⟨r1,r2,r3⟩:=rI.1 hr;exact⟨ha,by rw[iB];exact hm,by rw[iB];exact hb,hn,ry,by rw[iB];exact h1,by rw[iB];exact h2,lO _ (Ri.nd r1),lO _ (Ri.nd r2),λu hu v hv=>r3 u (gA.1 hu) v (gA.1 hv),
  ((List.Perm.append (gV _ c1) (gV _ c2)).nodup_iff).2 hr.nd,λx hx=>hN x ((dO.1 hx).elim (λh=>ku _ (gA.1 h)) (λh=>mG _ (gA.1 h)))⟩
theorem afQ(H:HD B w0 F Ao co l)(hn:E R=n)(ry:n<=1000000)(hr:Ri R)(hN:∀x∈R,x<E l):
  bg B w0 335 [.slice A n c,ah n,Q6 g] (Sf A n c R g Ao (E l) co F) (λr L=>r= .tuple #[]/\L=Sf A n c (dj (oN l) R) g Ao (E l) co F):=by
 refine ba func335 63 [0,1,2] 14 ?_;refine aw (λzf zL zm=>∃(X R':br),(E X+E R'=n/\X++w_ (oN l) 20 R'=w_ (oN l) 20 R/\Ri R'/\∀x∈R',x<E l)/\E R'=zm/\Sub zf [(0,.slice A n c),(1,ah n),(2,Q6 g),(6,ah 20),(7,ah (E X)),(8,ah (E X+20:Nat))]/\Wk zL (Sf A n c (X++R') g Ao (E l) co F)) _ ⟨[],R,⟨by simp;exact hn,rfl,hr,hN⟩,rfl,a_,.refl _⟩ ?_;rintro _ _ _ ⟨X,R',⟨hX,hXe,hr',hN'⟩,rfl,hs,hp⟩;refine aL hs hp (ag 8 (λnj=>?_) λnj=>?_)
 ·have q9:E (R'.take 20)=20:=by rw[fZ];omega
  have oB:E (R'.drop 20)=E R'-20:=jM;have Cn:X++R'=X++(R'.take 20++R'.drop 20):=by rw[kH]
  have ey:=rh (o:=oN l) (bs:=20) (R:=R') aa aa;have lB:E (X++dj (oN l) (R'.take 20))=E X+20:=by rw[bm,iB,q9]
  rw[Cn];refine dA ?_;refine ai rfl (OF H (P:=X) (R:=R'.take 20) (Q:=R'.drop 20) (a:=E X) (b:=E X+20) rfl aa aa ry (hr'.sublist (O8 20 R')) (λx hx=>hN' x (ia hx))) (bK 15 ?_);refine aj ⟨_,aa,X++dj (oN l) (R'.take 20),R'.drop 20,⟨aa,by rw[bT,<-ey,hXe],hr'.sublist (List.drop_sublist 20 R'),λx hx=>hN' x (oG hx)⟩,rfl,a_,au rfl (by rw[bT]) (.refl _)⟩
 ·have Cn:X++R'=X++(R'++[]):=by rw[gN]
  rw[Cn];have hbs:=nf (o:=oN l) (bs:=20) (R:=R') aa;rw[hbs]at hXe;refine fF ?_;refine ai rfl (OF H (P:=X) (R:=R') (Q:=[]) (a:=E X) (b:=n) rfl aa ao ry hr' hN') (fc ?_);refine aw (λzf zL zm=>∃(bs:Nat),(1<=bs/\bs<=2000020)/\n-bs=zm/\Sub zf [(0,.slice A n c),(1,ah n),(2,Q6 g),(6,ah bs)]/\Wk zL (Sf A n c (w_ (oN l) bs R) g Ao (E l) co F)) _ ⟨20,⟨aa,aa⟩,rfl,a_,au rfl (by rw[gN,hXe]) (.refl _)⟩ ?_;rintro _ _ _ ⟨bs,⟨nC,nD⟩,rfl,hs,hp⟩;refine aL hs hp (ag 8 (λwv=>?_) λwv=>?_)
  ·have h00:E ([]:br)=0:=rfl;refine bK 13 ?_;refine aw (λzf zL zm=>∃(X R':br),(E X+E R'=n/\X++w_ (oN l) (2*bs) R'=w_ (oN l) (2*bs) R/\Ri R'/\∀x∈R',x<E l)/\E R'=zm/\Sub zf [(0,.slice A n c),(1,ah n),(2,Q6 g),(6,ah bs),(7,ah (E X)),(8,ah (E X+2*bs:Nat))]/\Wk zL (Sf A n c (X++w_ (oN l) bs R') g Ao (E l) co F)) _ ⟨[],R,⟨by simp;exact hn,rfl,hr,hN⟩,rfl,a_,.refl _⟩ ?_;rintro _ _ _ ⟨X,R',⟨hX2,aiu,z6,hN2⟩,rfl,hs,hp⟩;refine aL hs hp (ag 8 (λAV=>?_) λAV=>?_)
   ·have q9:E (R'.take bs)=bs:=by rw[fZ];omega
    have oB:E (R'.drop bs)=E R'-bs:=jM;have G4:E ((R'.drop bs).take bs)=bs:=by rw[fZ];omega
    have hl4:E ((R'.drop bs).drop bs)=E R'-bs-bs:=by rw[jM];omega
    have am6:=rh (o:=oN l) (bs:=bs) (R:=R') nC aa;have am7:=rh (o:=oN l) (bs:=bs) (R:=R'.drop bs) nC aa;have aus:=rh (o:=oN l) (bs:=2*bs) (R:=R') aa aa;have SD:R'.take bs++(R'.drop bs).take bs=R'.take (2*bs):=by rw[show 2*bs=bs+bs by omega,I_]
    have hdd:(R'.drop bs).drop bs=R'.drop (2*bs):=by rw[mX];congr 1;omega
    have ey:=ab1 (oN l) bs ((R'.drop bs).drop bs);have hri:Ri (R'.take bs++(R'.drop bs).take bs):=by rw[SD];exact z6.sublist (O8 _ _)
    have hsa:=Qk (o:=oN l) hri.nd;have lB:E (X++dj (oN l) (R'.take bs++(R'.drop bs).take bs))=E X+2*bs:=by rw[bm,iB,bm];omega
    rw[am6,am7];refine dM ?_;refine ai rfl (afZ H _ (P:=X) (Q:=w_ (oN l) bs ((R'.drop bs).drop bs)) (a:=E X) (m:=E X+bs) (b:=E X+2*bs) (ga _) (alG hri (λx hx=>hN2 x (by rw[SD]at hx;exact ia hx)) rfl aa aa aa ry aa aa)) (aD 14 [0,1,2,6,7,8] 1 ?_);refine aj ⟨_,aa,X++dj (oN l) (R'.take bs++(R'.drop bs).take bs),(R'.drop bs).drop bs,⟨aa,by rw[bT,SD,hdd,<-aus,aiu],by rw[hdd];exact z6.sublist (List.drop_sublist _ _),λx hx=>hN2 x (oG (oG hx))⟩,rfl,a_,au rfl (by rw[hsa,bT]) (.refl _)⟩
   ·have oB:E (R'.drop bs)=E R'-bs:=jM;have auw:=nf (o:=oN l) (bs:=2*bs) (R:=R') aa;rw[auw]at aiu;refine ag 21 (λh54=>?_) λh54=>?_
    ·have q9:E (R'.take bs)=bs:=by rw[fZ];omega
     have am6:=rh (o:=oN l) (bs:=bs) (R:=R') nC aa;have am7:=nf (o:=oN l) (bs:=bs) (R:=R'.drop bs) aa;have SD:R'.take bs++R'.drop bs=R':=kH _ _;have hri:Ri (R'.take bs++R'.drop bs):=by rw[SD];exact z6
     have hsa:=Qk (o:=oN l) hri.nd;have Cn:X++(dj (oN l) (R'.take bs)++dj (oN l) (R'.drop bs))=X++(dj (oN l) (R'.take bs)++(dj (oN l) (R'.drop bs)++[])):=by rw[gN]
     rw[am6,am7,Cn];refine dw ?_;refine ai rfl (afZ H _ (P:=X) (Q:=[]) (a:=E X) (m:=E X+bs) (b:=n) (ga _) (alG hri (λx hx=>hN2 x (by rw[SD]at hx;exact hx)) rfl aa aa ao ry aa aa)) (ve [0,1,2,6] ?_);refine dg ?_;refine aj ⟨_,aa,2*bs,⟨aa,aa⟩,rfl,a_,au rfl (by rw[hsa,gN,SD,aiu]) (.refl _)⟩
    ·have auv:=nf (o:=oN l) (bs:=bs) (R:=R') aa;refine cY ?_;refine aj ⟨_,aa,2*bs,⟨aa,aa⟩,rfl,a_,au rfl (by rw[auv,aiu]) (.refl _)⟩
  ·have uE:=nf (o:=oN l) (bs:=bs) (R:=R) aa;rw[uE];exact cm 6
theorem afM(H:HD B w0 F Ao co l)(hn:E R=n)(ry:n<=1000000)(hr:Ri R)(hN:∀x∈R,x<E l):
  bg B w0 314 [.slice A n c,Q6 g] (Sf A n c R g Ao (E l) co F) (λr L=>r= .tuple #[]/\L=Sf A n c (dj (oN l) R) g Ao (E l) co F):=by
 refine ba func314 9 [0,1] 5 ?_;exact ai rfl (afQ H hn ry hr hN) (cm 3)
end
section
variable{l:br}
theorem ams{P:Prop}(h:P:=by(exact dG (by first|exact .inl (by omega)|omega))):P:=h
theorem amq{P:Prop}(h:P:=by(exact dT (by first|exact .inl (by omega)|omega))):P:=h
theorem abQ{P:Prop}(h:P:=by(rw[<-jL,bT];rfl)):P:=h
theorem abT{P:Prop}(h:P:=by(rw[ES];rfl)):P:=h
theorem amp{P:Prop}(h:P:=by(exact dG (by first|exact λh=>absurd h.1 (by omega)|exact⟨λh=>⟨by omega,by omega⟩,λh=>by have:=h.2;omega⟩))):P:=h
theorem amo{P:Prop}(h:P:=by(exact dS (by first|exact λh=>absurd h.1 (by omega)|exact⟨λh=>⟨by omega,by omega⟩,λh=>by have:=h.2;omega⟩))):P:=h
theorem Gm(o:Nat->Nat)(k:Nat):mL o (k+1)=mL o k++if 0<o k then [k] else []:=by
 unfold mL;rw[mW,List.filter_append];congr 1;rw[OM,List.filter_nil];by_cases h:0<o k
 ·rw[av h,av ml]
 ·rw[aB h,aB ml]
theorem QP(o:Nat->Nat)(k:Nat):E (mL o k)<=k:=iY (OR _ _) ao
theorem agM(o:Nat->Nat)(k:Nat):Ri (mL o k):=List.Pairwise.sublist List.filter_sublist List.pairwise_lt_range
theorem agL{k x:Nat}(h:x∈mL o k):x<k:=oD.1 (I7.1 h).1
theorem aoS(H:HD B w0 F Ao co l)(hl:E l<=300):
  bg B w0 283 [.slice Ao (E l) co] F (λr L=>∃A' c',r= .slice A' (E (cE (oN l) (E l))) c'/\L= .own 3 1 A' (E (cE (oN l) (E l))) c' (bN (cE (oN l) (E l)))::F):=by
 have hbo:=H.yk;refine fw func283 24 [0] ?_;refine bM 2 λg1=>?_;refine fb ?_;refine aM 3 1 none (bK 13 ?_);refine aw (λzf zL zm=>∃(k:Nat) (A3:bh) (c3:Nat),(k<=E l)/\E l-k=zm/\Sub zf [(1,bq g1),(3,.slice A3 (E (mL (oN l) k)) c3),(6,.slice Ao (E l) co),(7,ah (E l)),(8,ah k)]/\Wk zL (Sf A3 (E (mL (oN l) k)) c3 (mL (oN l) k) g1 Ao (E l) co F)) _ ⟨0,none,0,bD _,rfl,a_,.refl _⟩ ?_;rintro _ _ _ ⟨k,A3,c3,hk,rfl,hs,hp⟩;refine aL hs hp (ag 6 (λh9=>?_) λh9=>?_)
 ·have hus:=Gm (oN l) k;have yU:=QP (oN l) k;refine cY ?_;refine ab (al ae rfl aA aa (BR aa)) rfl ?_;refine ag 10 (λgT=>?_) λgT=>?_
  ·rw[av (show 0<l.getD k 0 by omega)]at hus;have qc:E (mL (oN l) (k+1))=E (mL (oN l) k)+1:=by rw[hus];simp
   refine fc ?_;refine cC gF rfl rfl rfl rfl rfl (λ_=>rfl) aU aa aa ?_;intro _ uc wK;refine cY ?_;refine aj ⟨_,aa,k+1,uc,wK,aa,rfl,a_,au aa (by rw[hus];simp[bN]) (.refl _)⟩
  ·rw[aB (show¬0<l.getD k 0 by omega),gN]at hus;have qc:E (mL (oN l) (k+1))=E (mL (oN l) k):=by rw[hus]
   refine dg ?_;refine aj ⟨_,aa,k+1,A3,c3,aa,rfl,a_,au (by rw[hus]) (by rw[hus]) (.refl _)⟩
 ·obtain rfl:k=E l:=by omega
  have yU:=QP (oN l) (E l);have lB:E (cE (oN l) (E l))=E (mL (oN l) (E l)):=iB _ _;refine dA ?_;refine ai rfl (afM H rfl aa (agM _ _) (λx hx=>agL hx)) (dA ?_);refine ak (L':=.own 3 1 A3 (E (cE (oN l) (E l))) c3 (bN (cE (oN l) (E l)))::F) (.trans (au lB.symm rfl (.refl _)) ((dL (.skip (.refl _))))) (aX ?_);exact⟨A3,c3,by rw[lB],rfl⟩
def tv(x:cA):cQ:=[.int .u64 (x.1:Int),.bool x.2]
def dy(L:List cA):cQ:=L.flatMap tv
theorem Ta(L:List cA):E (dy L)=E L*2:=by
 unfold dy;rw[List.length_flatMap];induction L with
 |nil=>rfl
 |cons x r ih=>rw[iN,y9,ih,ei];simp[tv];omega
theorem ES(L M:List cA):dy (L++M)=dy L++dy M:=by simp[dy]
theorem pI:∀(L:List cA) (k:Nat),(dy L).take (k*2)=dy (L.take k)/\(dy L).drop (k*2)=dy (L.drop k)
 |L,0=>by simp[dy]
 |[],k+1=>by simp[dy]
 |x::r,k+1=>by
  obtain⟨h1,h2⟩:=pI r k;have e:dy (x::r)=tv x++dy r:=by simp[dy]
  rw[e,jR,tx (k*2) 2];constructor
  ·rw[I4,gv (by simp[tv]),show 2+k*2-E (tv x)=k*2 by simp[tv],h1];simp[dy]
  ·rw[List.drop_append,kr (by simp[tv]),show 2+k*2-E (tv x)=k*2 by simp[tv],h2];simp
theorem yX{L:List cA}{k:Nat}(h:k<E L):((dy L).drop (k*2)).take 2=[.int .u64 ((L.getD k (0,false)).1:Int),.bool (L.getD k (0,false)).2]:=by
 rw[(pI L k).2,cy h (0,false)];simp[dy,tv]
theorem Bd{L:List cA}{k:Nat}(h:k<E L):(dy L)[k*2+0]? =some (.int .u64 ((L.getD k (0,false)).1:Int)):=kx (yX h) 0 _ rfl
theorem ZE{L:List cA}{k:Nat}(h:k<E L)(x:cA):(dy L).take (k*2)++tv x++(dy L).drop (k*2+2)=dy (L.set k x):=by
 rw[show k*2+2=(k+1)*2 by omega,(pI L k).1,(pI L (k+1)).2,List.set_eq_take_append_cons_drop,av h,ES];simp[dy]
theorem Tc(n:Nat):(List.replicate n [Value.int .u64 0,.bool false]).flatten=dy (List.replicate n (0,false)):=by
 induction n with
 |zero=>rfl
 |succ n ih=>rw[Bf,Bf,Cy,ih];simp[dy,tv]
def uO(o:Nat->Nat)(S:br)(k:Nat):List cA:=(S.take k).map (λs=>(o s,true))++List.replicate (E S-k) (0,false)
theorem ZL(o:Nat->Nat){k:Nat}(h:k<=E S):E (uO o S k)=E S:=by simp[uO];omega
theorem To(o:Nat->Nat){k:Nat}(h:k<E S):(uO o S k).set k (o (S.getD k 0),true)=uO o S (k+1):=by
 unfold uO;have hl:E ((S.take k).map λs=>(o s,true))=k:=by simp;omega
 rw[zc _ _ aa,hl,rE,show E S-k=(E S-(k+1))+1 by omega,Bf,List.set_cons_zero,aP h 0,iF,bT];rfl
theorem ad8(H:HD B w0 F Ao co l)(hs:aJ B w0 F 1 (.slice A1 (E S) c1) (E S) (bN S))(hS:E S<=300)(hN:∀x∈S,x<E l):
  bg B w0 284 [.slice Ao (E l) co,.slice A1 (E S) c1] F (λr L=>∃A' c',r= .slice A' (E S) c'/\L= .own 397 2 A' (E S) c' (dy (S.map λs=>(oN l s,true)))::F):=by
 have hbo:=H.yk;refine ba func284 29 [0,1] 9 ?_;refine cv (Iz (nn:=E S) (cc:=E S) FX rfl rfl rfl rfl (ga _) aa aa) λz'=>dM ?_;refine aw (λzf zL zm=>∃(k:Nat),(k<=E S)/\E S-k=zm/\Sub zf [(0,.slice Ao (E l) co),(5,.slice z' (E S) (E S)),(11,.slice A1 (E S) c1),(12,ah (E S)),(13,ah k)]/\Wk zL (.own 397 2 z' (E S) (E S) (dy (uO (oN l) S k))::F)) _ ⟨0,bD _,rfl,a_,au rfl (by rw[show uO (oN l) S 0=List.replicate (E S) (0,false) by simp[uO],<-Tc];rfl) (.refl _)⟩ ?_;rintro _ _ _ ⟨k,hk,rfl,hs,hp⟩;refine aL hs hp ?_;clear hs hp;refine ag 6 (λgT=>?_) λgT=>?_
 ·have I0:S.getD k 0<E l:=hN _ (bc aa 0);have gU:=H.lt (S.getD k 0);have hlp:=ZL (oN l) (S:=S) (k:=k) aa;have hil:=Ta (uO (oN l) S k);refine cY ?_;refine ab (al ae rfl aA aa (fV aa)) rfl (dh ?_);refine ab (al ae rfl aA aa (BR I0)) rfl (aX ?_);refine ab (eJ [(0,_),(1,_)] [_,_] rfl rfl ae) rfl (aX ?_);refine ko (El 2 ae rfl rfl MN rfl aU aa aa) ?_;refine aD 6 [0,5,11,12,13] 0 ?_;refine aj ⟨_,aa,k+1,aa,rfl,a_,au rfl (by rw[<-To (oN l) aa,<-ZE aa];rfl) (.refl _)⟩
 ·obtain rfl:k=E S:=by omega
  have wz:uO (oN l) S (E S)=S.map λs=>(oN l s,true):=by simp[uO]
  refine bK 13 ?_;exact⟨z',E S,rfl,by rw[wz]⟩
theorem Fj{k:Nat}(hi:i<E leaf)(h:E row<=k+1\/(leaf.getD i (0,false)).1<=(row.getD k (0,false)).1+(row.getD (k+1) (0,false)).1):pR leaf row (f+1) i k=leaf.getD i (0,false)::pR leaf row f (i+1) k:=by
 rw[pR];split
 ·rfl
 ·rename_i hr;rw[av ⟨hi,h.resolve_left hr⟩]
theorem TI{k:Nat}(hr:¬E row<=k+1)(h:¬(i<E leaf/\(leaf.getD i (0,false)).1<=(row.getD k (0,false)).1+(row.getD (k+1) (0,false)).1)):pR leaf row (f+1) i k=((row.getD k (0,false)).1+(row.getD (k+1) (0,false)).1,false)::pR leaf row f i (k+2):=by
 rw[pR,aB hr,aB h]
theorem ZZ{k:Nat}(h:¬(i<E leaf\/k+1<E row)):pR leaf row f i k=[]:=by
 cases f with
 |zero=>rfl
 |succ f=>rw[pR,av aa,aB aa]
theorem aaq{W:Nat}(h1:aJ B w0 F 2 (.slice A1 (E leaf) c1) (E leaf) (dy leaf))(h2:aJ B w0 F 2 (.slice A2 (E row) c2) (E row) (dy row))(q9:E leaf<=1000)(oB:E row<=1000)(hW:W<=4611686018427387904)(Zu:∀x∈leaf,x.1<=W)(Zv:∀x∈row,x.1<=W):
  bg B w0 285 [.slice A1 (E leaf) c1,.slice A2 (E row) c2] F (λr L=>∃A' c',r= .slice A' (E (uZ leaf row)) c'/\L= .own 397 2 A' (E (uZ leaf row)) c' (dy (uZ leaf row))::F):=by
 refine ba func285 83 [0,1] 11 ?_;refine ab (iq rfl rfl aa (r:=((E row/2:Nat):Int)) (by have e:((E row:Nat):Int).tdiv 2=((E row/2:Nat):Int):=rfl;rw[e];exact bj aa aa)) rfl (ab (bF rfl rfl (r:=((E leaf+E row/2:Nat):Int)) ((bj aa aa).trans aa)) rfl (cv (Iz (nn:=0) (cc:=E leaf+E row/2) FX rfl rfl rfl rfl (bD _) aa aa) λqh=>fF ?_));refine aw (λzf zL zm=>∃(i k f:Nat) (acc:List cA) (A5:bh) (c5:Nat),(i<=E leaf/\k<=E row/\E leaf-i+(E row-k)<=f/\acc++pR leaf row f i k=uZ leaf row/\E acc<=i+k)/\f=zm/\Sub zf [(0,.slice A1 (E leaf) c1),(1,.slice A2 (E row) c2),(5,.slice A5 (E acc) c5),(6,ah i),(7,ah k)]/\Wk zL (.own 397 2 A5 (E acc) c5 (dy acc)::F)) _ ⟨0,0,E leaf+E row,[],qh,E leaf+E row/2,⟨bD _,bD _,aa,rfl,ga _⟩,rfl,a_,.refl _⟩ ?_;rintro _ _ _ ⟨i,k,f,acc,A5,c5,⟨hi,hk,hf,jL,CU⟩,rfl,hs,hp⟩;refine aL hs hp (bf 3 11 26 [0,1,5,6,7] (i<E leaf\/k+1<E row) ?_ ?_)
 ·refine bk 5 (λkp=>?_) (λkp=>?_)
  ·exact ax 10 (k:=ams)
  ·exact ax 5 (k:=amq)
 ·refine ag 2 (λq7=>?_) λq7=>?_
  ·obtain⟨f',rfl⟩:∃f',f=f'+1:=⟨f-1,aa⟩
   have hli:=λ(h:i<E leaf)=>Zu _ (bc h (0,false));have hrk:=λ(h:k<E row)=>Zv _ (bc h (0,false));have ar7:=λ(h:k+1<E row)=>Zv _ (bc h (0,false));have qc:∀x:cA,E (acc++[x])=E acc+1:=λx=>by simp
   refine ag 13 (λAU=>?_) λAU=>?_
   ·have rv:=Fj (leaf:=leaf) (row:=row) (f:=f') (i:=i) (k:=k) aa (.inl aa);rw[rv]at jL;have hx:=qc (leaf.getD i (0,false));refine dw ?_;refine ab (bU 2 ae rfl aA aa [.int .u64 ((leaf.getD i (0,false)).1:Int),.bool (leaf.getD i (0,false)).2] (kx (yX aa)) rfl) rfl ?_;refine jX FX rfl rfl rfl aa bY rfl rfl rfl (λ_=>rfl) aU aa aa ?_;intro _ MF Q5;refine aD 8 [0,1,5,6,7] 4 ?_;refine aj ⟨_,aa,i+1,k,f',acc++[leaf.getD i (0,false)],MF,Q5,⟨aa,aa,aa,abQ,aa⟩,rfl,a_,au aa abT (.refl _)⟩
   ·have hrk:=hrk aa;have ar7:=ar7 aa;refine dg ?_;refine bJ (aV underlying397 rfl ae rfl aA aa rfl) rfl ?_;refine bJ (bH ae rfl aA aa (Bd aa)) rfl (fc ?_);refine bJ (az (i:=k+1) (size:=2) underlying392 ae rfl rfl aa aa aA) rfl ?_;refine bJ (aV underlying397 rfl ae rfl aA aa rfl) rfl ?_;refine bJ (bH ae rfl aA aa (Bd aa)) rfl ?_;refine bJ (bF rfl rfl (r:=(((row.getD k (0,false)).1+(row.getD (k+1) (0,false)).1:Nat):Int)) ((eQ aa aa).trans aa)) rfl (aX ?_);refine lD [(0,_),(1,_),(5,_),(6,_),(7,_),(8,_)] ⟨rfl,rfl,rfl,rfl,rfl,rfl,trivial⟩ ?_;refine bf 4 13 65 [0,1,5,6,7,8] (i<E leaf/\(leaf.getD i (0,false)).1<=(row.getD k (0,false)).1+(row.getD (k+1) (0,false)).1) ?_ ?_
    ·refine bC 5 (λWn=>?_) λWn=>?_
     ·refine dw ?_;refine ab (aV underlying397 rfl ae rfl aA aa rfl) rfl (aX ?_);refine ab (bH ae rfl aA aa (Bd aa)) rfl ?_;exact ax 5 (k:=amp)
     ·exact ax 7 (k:=amo)
    ·refine ag 2 (λh65=>?_) λh65=>?_
     ·have rv:=Fj (leaf:=leaf) (row:=row) (f:=f') (i:=i) (k:=k) h65.1 (.inr h65.2);rw[rv]at jL;have hx:=qc (leaf.getD i (0,false));have awx:=h65.1;refine dw ?_;refine ab (bU 2 ae rfl aA aa [.int .u64 ((leaf.getD i (0,false)).1:Int),.bool (leaf.getD i (0,false)).2] (kx (yX aa)) rfl) rfl ?_;refine jX FX rfl rfl rfl aa bY rfl rfl rfl (λ_=>rfl) aU aa aa ?_;intro _ A72 c72;refine bK 13 ?_;refine aj ⟨_,aa,i+1,k,f',acc++[leaf.getD i (0,false)],A72,c72,⟨aa,aa,aa,abQ,aa⟩,rfl,a_,au aa abT (.refl _)⟩
     ·have rv:=TI (leaf:=leaf) (row:=row) (f:=f') (i:=i) (k:=k) aa h65;rw[rv]at jL;have hx:=qc ((row.getD k (0,false)).1+(row.getD (k+1) (0,false)).1,false);refine dw ?_;refine ab (bw [(0,_)] [.int .u64 0,.bool false] [0] [_,_] rfl rfl ae) rfl (jX FX rfl rfl rfl aa bY rfl rfl rfl (λ_=>rfl) aU aa aa ?_);intro _ A79 c79;refine dA ?_;refine aj ⟨_,aa,i,k+2,f',acc++[((row.getD k (0,false)).1+(row.getD (k+1) (0,false)).1,false)],A79,c79,⟨aa,aa,aa,abQ,aa⟩,rfl,a_,au aa abT (.refl _)⟩
  ·rw[ZZ q7,gN]at jL;subst jL;exact bO 13
end
end Go.Proofs.YtaodmbolhoafcaaGreatDoor
