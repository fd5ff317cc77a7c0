/-
  Texts of one proof, joined: part 6. No condition.
-/
import Derived.Test.YtaodmbolhoafcaaGreatDoorZp5
import Derived.Sort.Walk0
import Derived.Shelf.SlIter.Nil
import Derived.Ground.GgzProg
import Derived.RangeFuncFrom
import Derived.RangeFuncLeaves
import Derived.RangeFuncCalls
import Derived.OrdersIn
open List renaming length→E
open Go.RowKit Go.Proofs.Tryz
namespace Go.Proofs.YtaodmbolhoafcaaGreatDoor
set_option linter.unusedVariables false
set_option linter.unusedSimpArgs false
set_option maxRecDepth 20000
variable{B:Nat}{w0:World}{F:aR}{A A1 A2:bk}{n c c1 c2 g:Nat}{B1 B2:bk}{b1 b2:Nat}{bt:TypeId}{f:Ch->aR}
theorem tK:type_of% @List.pairwise_append:= @List.pairwise_append
theorem aj5(a b:cm):tY a b↔a<b:=by
 unfold tY;rw[bytesLess_eq];simp
def Nh(l:List cm):Prop:=l.Pairwise tY
theorem Nh.nil:Nh []:=List.Pairwise.nil
theorem Nh.ext:∀{a b:List cm},Nh a->Nh b->(∀x,x∈a↔x∈b)->a=b
 |[],[],_,_,_=>rfl
 |[],y::b,_,_,h=>absurd ((h y).2 ak) ak
 |x::a,[],_,_,h=>absurd ((h x).1 ak) ak
 |x::a,y::b,ha,hb,h=>by
  obtain⟨ha1,ha2⟩:=ky.1 ha;obtain⟨qJ,pB⟩:=ky.1 hb;have Tz:x=y:=by
   rcases fj.1 ((h x).1 ak)with e|e
   ·exact e
   ·rcases fj.1 ((h y).2 ak)with e2|e2
    ·exact e2.symm
    ·exact absurd (lq (ha1 y e2) (qJ x e)) (f_ _)
  subst Tz;congr 1;refine Nh.ext ha2 pB λz=>⟨λhz=>?_,λhz=>?_⟩
  ·rcases fj.1 ((h z).1 (lU _ hz))with e|e
   ·subst e;exact absurd (ha1 _ hz) (f_ _)
   ·exact e
  ·rcases fj.1 ((h z).2 (lU _ hz))with e|e
   ·subst e;exact absurd (qJ _ hz) (f_ _)
   ·exact e
theorem zp(a b:cm):Xx a b=true↔¬tY b a:=by
 unfold Xx;rw[decide_eq_true_iff,aj5];exact List.not_lt.symm
theorem Mt(l:List cm):(l.mergeSort Xx).Pairwise (λa b=>¬tY b a):=by
 have h:=List.pairwise_mergeSort (le:=Xx) (λa b c h1 h2=>by
  rw[zp,XM]at*;exact h1.elim (λh1=>.inl (aj6 h1 h2)) (λh1=>h1▸h2)) (λa b=>by
  rcases pD a b with h|h|h
  ·simp[(zp a b).2 (λk=>f_ _ (lq h k))]
  ·subst h;simp[(zp a a).2 (f_ _)]
  ·simp[(zp b a).2 (λk=>f_ _ (lq h k))]) l
 exact h.imp λh=>(zp _ _).1 h
theorem Ev{l:List cm}(hp:l.Pairwise (λa b=>¬tY b a)):∀m,m<=E l->Nh (Lib.compactUpTo l.toArray m)∧(∀x,x∈Lib.compactUpTo l.toArray m↔x∈l.take m)
 |0,_=>⟨by simp[Nh,Lib.compactUpTo],by simp[Lib.compactUpTo]⟩
 |m+1,hm=>by
  obtain⟨h1,h2⟩:=Ev hp m aa;rw[Lib.compactUpTo_succ];have hlm:m<E l:=by omega
  have hg:l.toArray[m]! =l[m]:=by simp[getElem!_pos,hlm]
  have uN:l.take (m+1)=l.take m++[l[m]]:=by rw[tJ,fc hlm];rfl
  by_cases hk:Lib.keeps l.toArray m=true
  ·rw[ao hk,hg];have Lz:m=0∨l.toArray[m]! ≠l.toArray[m-1]! :=by simpa[Lib.keeps]using hk
   refine⟨?_,λx=>?_⟩
   ·refine tK.2 ⟨h1,Xv _ _,λa ha b hb=>?_⟩;rw[me]at hb;subst hb;have Bj:=(h2 a).1 ha;obtain⟨i,hi,rfl⟩:=ke Bj;rw[eY]at hi;rw[FA];have hle:∀i j (hi:i<E l) (hj:j<E l),i<j->¬tY l[j] l[i]:=λi j hi hj Jv=>qK.1 hp i j hi hj Jv;have hm0:m≠0:=by omega
    have oh:l[m]≠l[m-1]'aa:=by
     have:=Lz.resolve_left hm0;rw[hg]at this;simpa[getElem!_pos,show m-1<E l by omega]using this
    have fN:tY (l[m-1]'aa) l[m]:=by
     rcases pD (l[m-1]'aa) l[m]with h|h|h
     ·exact h
     ·exact absurd h.symm oh
     ·exact absurd h (hle (m-1) m aa hlm aa)
    by_cases him:i=m-1
    ·subst him;exact fN
    ·exact ajW (XM.1 (hle i (m-1) aa aa aa)) fN
   ·rw[uN,dz,dz,h2]
  ·rw[aw hk,gl];refine⟨h1,λx=>?_⟩;rw[uN,dz,h2,me];refine⟨.inl,λh=>h.elim id λh=>?_⟩;have Lz:¬(m=0∨l.toArray[m]! ≠l.toArray[m-1]!):=by simpa[Lib.keeps]using hk
   have hm0:m≠0:=λh=>Lz (.inl h);have he:l.toArray[m]! =l.toArray[m-1]! :=jN.1 λh=>Lz (.inr h);rw[hg]at he;have hg1:l.toArray[m-1]! =l[m-1]'aa:=by simp[getElem!_pos,show m-1<E l by omega]
   rw[hg1]at he;rw[h,he];exact List.mem_take_iff_getElem.2 ⟨m-1,aa,rfl⟩
def tk(l:List cm):List cm:=Lib.compact (l.mergeSort Xx)
theorem zM(l:List cm):Nh (tk l):=by
 have:=(Ev (Mt l) (E (l.mergeSort Xx)) (gC _)).1;exact this
theorem sk(l:List cm)(x:cm):x∈tk l↔x∈l:=by
 have:=(Ev (Mt l) (E (l.mergeSort Xx)) (gC _)).2 x;rw[ki,List.mem_mergeSort]at this;exact this
theorem vq(l:List cm):E (tk l)<=E l:=by
 have:=Ew (l.mergeSort Xx)
 rwa [Px]at this
theorem wj{l r:List cm}(h:Nh r)(hm:∀x,x∈r↔x∈l):tk l=r:=Nh.ext (zM l) h λx=>(sk l x).trans (hm x).symm
def avC(l:List cm)(s:cm):List cm:=tk (l++[s])
theorem Nh.put{l:List cm}(h:Nh l){s:cm}{k:Nat}(hk:k<=E l)(RR:∀i,i<k->tY (l.getD i []) s)(hhi:k<E l->¬tY (l.getD k []) s):
  avC l s=if k<E l∧l.getD k []=s then l else l.take k++[s]++l.drop k:=by
 have hgd:∀i (hi:i<E l),l.getD i []=l[i]:=λi hi=>by simp[List.getD,fc hi]
 split
 ·rename_i he;refine wj h λx=>?_;rw[dz,me];refine⟨.inl,λhx=>hx.elim id λhx=>?_⟩;rw[hx,<-he.2,hgd k he.1];exact oT _
 ·rename_i oh;refine wj ?_ λx=>?_
  ·have fN:k<E l->tY s (l.getD k []):=λBl=>by
    rcases pD s (l.getD k [])with h|h|h
    ·exact h
    ·exact absurd ⟨Bl,h.symm⟩ oh
    ·exact absurd h (hhi Bl)
   have hpw:=qK.1 h;refine tK.2 ⟨tK.2 ⟨h.sublist (wZ _ _),Xv _ _,λa ha b hb=>?_⟩,h.sublist (List.drop_sublist _ _),λa ha b hb=>?_⟩
   ·rw[me]at hb;subst hb;obtain⟨i,hi,rfl⟩:=ke ha;rw[eY]at hi;rw[FA,<-hgd i aa];exact RR i aa
   ·obtain⟨j,hj,rfl⟩:=ke hb;rw[iG]at hj;rw[List.getElem_drop];have hs:tY s l[k+j]:=by
     have h1:=fN aa;rw[hgd k aa]at h1;rcases xF j with h0|h0
     ·subst h0;exact h1
     ·exact lq h1 (hpw k (k+j) aa aa aa)
    rcases dz.1 ha with ha|ha
    ·obtain⟨i,hi,rfl⟩:=ke ha;rw[eY]at hi;rw[FA,];exact hpw i (k+j) aa aa aa
    ·rw[me]at ha;subst ha;exact hs
  ·rw[dz,dz,dz,me]
   conv=>rhs;rw[<-jd k l,dz]
   constructor
   ·rintro((h|h)|h)
    ·exact .inl (.inl h)
    ·exact .inr h
    ·exact .inl (.inr h)
   ·rintro((h|h)|h)
    ·exact .inl (.inl h)
    ·exact .inr h
    ·exact .inl (.inr h)
def Gp(uq src:al):List cm:=nP uq++(nP src).map (64:: ·)
def tq(uq src:al):List cm:=tk (Gp uq src)
theorem Gq(uq src:al):E (Gp uq src)<=E uq+E src:=by
 have h1:=x6 uq;have h2:=x6 src;simp[Gp];omega
end Go.Proofs.YtaodmbolhoafcaaGreatDoor
namespace Go.Proofs
open Go.RowKit Go.Maps Go.Sort Go.Shelf
def Tryz.keysA_ren:Go.Shelf.Ren:=⟨λ|7=>91|10=>162|n=>n,λ|23=>140|26=>9|3=>53|28=>144|0=>0|27=>143|33=>245|4=>4|n=>n,λ|n=>n⟩
theorem Tryz.keysA:Go.Proofs.SlLaysZ.n7 Tryz.prog Tryz.keysA_ren:={
 mixed:=by kernel_rfl
 f7:=⟨Tryz.f91.name,by decide,Tryz.func91.trans (congrArg some (by kernel_rfl))⟩
 f10:=⟨Tryz.f162.name,by decide,Tryz.func162.trans (congrArg some (by kernel_rfl))⟩
 t0:=Tryz.underlying0
 a0:=Tryz.isAgg0
 z0:=Tryz.sizeOf0
 v0:=Tryz.zeroValue0
 t4:=Tryz.underlying4
 a4:=Tryz.isAgg4
 z4:=Tryz.sizeOf4
 v4:=Tryz.zeroValue4
 t23:=Tryz.underlying140
 a23:=Tryz.isAgg140
 z23:=Tryz.sizeOf140
 v23:=Tryz.zeroValue140
 t26:=Tryz.underlying9
 a26:=Tryz.isAgg9
 z26:=Tryz.sizeOf9
 v26:=Tryz.zeroValue9
 t27:=Tryz.underlying143
 a27:=Tryz.isAgg143
 z27:=Tryz.sizeOf143
 v27:=Tryz.zeroValue143
 t28:=Tryz.underlying144
 a28:=Tryz.isAgg144
 z28:=Tryz.sizeOf144
 v28:=Tryz.zeroValue144
 t33:=Tryz.underlying245
 a33:=Tryz.isAgg245
 z33:=Tryz.sizeOf245
 v33:=Tryz.zeroValue245}
def Tryz.sortedA_ren:Go.Shelf.Ren:=⟨λ|6=>90|8=>161|9=>159|11=>216|13=>211|12=>215|23=>252|24=>253|14=>254|15=>255|16=>256|17=>257|18=>258|19=>259|20=>260|21=>261|22=>262|25=>289|26=>290|27=>291|28=>292|29=>293|30=>294|31=>319|n=>n,λ|26=>9|28=>144|24=>87|0=>0|3=>3|37=>192|48=>135|50=>60|4=>4|40=>358|39=>357|45=>348|5=>5|9=>9|51=>398|55=>401|57=>432|58=>285|33=>245|n=>n,λ|n=>n⟩
theorem Tryz.sortedA:Go.Proofs.SlLaysZ.n6 Tryz.prog Tryz.sortedA_ren:={
 mixed:=by kernel_rfl
 f6:=⟨Tryz.f90.name,by decide,Tryz.func90.trans (congrArg some (by kernel_rfl))⟩
 f8:=⟨Tryz.f161.name,by decide,Tryz.func161.trans (congrArg some (by kernel_rfl))⟩
 f11:=⟨Tryz.f216.name,by decide,Tryz.func216.trans (congrArg some (by kernel_rfl))⟩
 t0:=Tryz.underlying0
 a0:=Tryz.isAgg0
 z0:=Tryz.sizeOf0
 v0:=Tryz.zeroValue0
 t24:=Tryz.underlying87
 a24:=Tryz.isAgg87
 z24:=Tryz.sizeOf87
 v24:=Tryz.zeroValue87
 t26:=Tryz.underlying9
 a26:=Tryz.isAgg9
 z26:=Tryz.sizeOf9
 v26:=Tryz.zeroValue9
 t28:=Tryz.underlying144
 a28:=Tryz.isAgg144
 z28:=Tryz.sizeOf144
 v28:=Tryz.zeroValue144
 i26:=by kernel_rfl}
theorem Tryz.apC(m:Nat):AnyZ.SortsIn Tryz.prog Tryz.sortedA_ren Fence.wide m:=
  ⟨λbG off cap ss W hH aep jg=>callsIn_wide.2 (AnyM.slices_Sort_string Tryz.sortS bG off cap ss W hH aep jg),
   λp cap W=>callsIn_wide.2 (AnyM.slices_Sort_string_none Tryz.sortS p cap W)⟩
namespace YtaodmbolhoafcaaGreatDoor
set_option linter.unusedVariables false
set_option maxRecDepth 20000
variable{B:Nat}{w0:World}{F L:aR}{A:bk}{c:Nat}
theorem aoA(b:Nat):aZ B w0 91 [.map (some b)] L (λr L'=>∃g,r= .func (.func 162) #[] [br g].toArray∧L'= .bG g 140 [.map (some b)]::L):=λw hw=>by
 have h:CallsIn Fence.wide 5 Tryz.prog 91 #[.map (some b)] w λe w'=>e= .returned (.func (.func 162) #[] #[.pointer (some ⟨w.heap.size,0,none⟩)])∧w'=w.alloc (.cells #[.map (some b)] 140):=AnyZ.keys_in Tryz.keysA Fence.wide 5 trivial rfl (some b) w;refine(callsIn_wide.1 h).mono λe w' ⟨he,Ib⟩=>?_;subst Ib;exact⟨_,_,he,⟨w.heap.size,rfl,rfl⟩,hw.L_ 140 [.map (some b)]⟩
theorem Mv(D:List (al×Value))(hn:(D.map (·.1)).Nodup):MapKept.Stamped (gd 0 D).toArray (E D):=by
 have hb:∀(D:List (al×Value)) (i:Nat),(gd i D).map (·.born)=List.range' i (E D):=by
  intro D;induction D with
  |nil=>intro i;rfl
  |cons p r ih=>intro i;simp[gd,ih,List.range'_succ]
 have hk:∀(D:List (al×Value)) (i:Nat),(gd i D).map (·.key)=(D.map (·.1)).map λt=>Value.string ⟨t.toArray⟩:=by
  intro D;induction D with
  |nil=>intro i;rfl
  |cons p r ih=>intro i;simp[gd,ih]
 refine⟨λx hx=>?_,?_,?_⟩
 ·have:x.born∈(gd 0 D).map (·.born):=pC.2 ⟨x,by simpa using hx,rfl⟩;rw[hb]at this;have:=List.mem_range'.1 this;omega
 ·rw[List.toList_toArray,hb];exact List.nodup_range' (step:=1)
 ·rw[List.toList_toArray,hk];exact List.Pairwise.map _ (λa b h e=>h (by simpa using e)) hn
theorem OA:∀(D:List (al×Value)) (i:Nat) (x:MapEntry),x∈gd i D->∃p∈D,x.key= .string ⟨p.1.toArray⟩
 |[],_,_,h=>by simp[gd]at h
 |p::r,i,x,h=>by
  rcases fj.1 h with rfl|h
  ·exact⟨p,r_,rfl⟩
  ·obtain⟨q,hq,e⟩:=OA r (i+1) x h;exact⟨q,lU _ hq,e⟩
theorem abr{ss:ew}(h:ss.Nodup):Nh (ss.mergeSort Xx):=by
 have h1:=Mt ss;have h2:(ss.mergeSort Xx).Nodup:=(List.mergeSort_perm ss Xx).nodup_iff.2 h;refine(h1.and h2).imp λ{x y} h=>?_;rcases pD x y with q|q|q
 ·exact q
 ·exact absurd q h.2
 ·exact absurd q h.1
theorem agK{D:List (al×Value)}{g b:Nat}(hn:(D.map (·.1)).Nodup)(hl:E D<=1048576)(hk:∀p∈D,E p.1<=1000000000):
  aZ B w0 90 [.func (.func 162) #[] [br g].toArray] (.bG g 140 [.map (some b)]:: .obj b (XH D)::F)
   (λr L'=>∃A c,r= .slice A (E (tk (D.map (·.1)))) c∧L'= .own 9 1 A (E (tk (D.map (·.1)))) c (strs (tk (D.map (·.1)))):: .bG g 140 [.map (some b)]:: .obj b (XH D)::F):=by
 intro w hw;have hg:=hw.head.2;have hb:w.heap[b]? =some (.map (gd 0 D).toArray (E D)):=hw.tail.head.2;have xA:∀p∈D,keyOf Tryz.prog 9 (.string ⟨p.1.toArray⟩)=some (.string p.1):=λp hp=>by
  unfold keyOf mapKey;rw[Tryz.underlying9];simp only;rw[ao (show(⟨p.1.toArray⟩:ByteArray).size<=maxLen by have:=hk p hp;simp only[maxLen,ByteArray.size,xG];omega)]
 have uM:∀x∈gd 0 D,∃p∈D,WideElems.rd (H:=Unit) Tryz.prog 9 (λ_=>some (.nil,[])) x=some (.string p.1,.nil):=λx hx=>by
  obtain⟨p,hp,e⟩:=OA D 0 x hx;refine⟨p,hp,?_⟩;unfold WideElems.rd;rw[e,xA p hp];rfl
 have Ft:WideElems.Fit (H:=Unit) Tryz.prog 9 (λ_=>some (.nil,[])) (gd 0 D).toArray (E D):=
  ⟨by have:=pe D 0;simp only[xG,maxLen];omega,Mv D hn,λx hx=>by
   obtain⟨p,_,e⟩:=uM x (by simpa using hx);exact⟨_,e⟩⟩
 have mO:w.ownsMap Tryz.prog 9 (λ_=>some (DataW.nil (H:=Unit),[])) b (E D) (.map (((gd 0 D).toArray.toList.map (WideElems.rg Tryz.prog 9 λ_=>some (.nil,[]))).foldr DataW.insert [])):=
  ⟨_,_,hb,Ft,by have:=pe D 0;simp only[xG];omega,rfl⟩
 have ast:∀(awE:List (al×Value)) (i:Nat),(∀p∈awE,p∈D)->(((gd i awE).map (WideElems.rg (H:=Unit) Tryz.prog 9 λ_=>some (.nil,[]))).map λp=>strOf p.1)=awE.map (·.1):=by
  intro awE;induction awE with
  |nil=>intro i _;rfl
  |cons p r ih=>
   intro i hE;simp only[gd,kh];rw[ih (i+1) (λq hq=>hE q (lU _ hq))];congr 1;unfold WideElems.rg WideElems.rd;rw[xA p (hE p r_)];rfl
 have asE:(strKeys (.map (((gd 0 D).toArray.toList.map (WideElems.rg (H:=Unit) Tryz.prog 9 λ_=>some (.nil,[]))).foldr DataW.insert []))).Perm (D.map (·.1)):=by
  show(List.map _ _).Perm _;refine((WideShapes.sorted_perm _).map _).trans ?_;rw[List.toList_toArray,ast D 0 (λp hp=>hp)]
 have amk:Maps.size (DataW.map (((gd 0 D).toArray.toList.map (WideElems.rg (H:=Unit) Tryz.prog 9 λ_=>some (.nil,[]))).foldr DataW.insert []))=E D:=by
  unfold Maps.size;simp only[];rw[length_sorted];simp[pe]
 have aoq:SeqGives Fence.wide 2 Tryz.prog 162 #[br g] encStr _ _ w:=
  AnyZ.keys_gives (ρ:=Tryz.keysA_ren) {Tryz.keysA with} Fence.wide _ trivial rfl aa g b (E D) _ w hg.lt (by
   have:=hg.cell 0;simpa using this) mO
 have cS:=AnyZ.sorted_in Tryz.sortedA Fence.wide 5 trivial trivial trivial trivial rfl aa (Tryz.apC _) (enters_of Tryz.func159 ag rfl) 162 #[br g] trivial (enters_of Tryz.func162 ag rfl) _ _ (by rw[amk];unfold maxLen;omega) (by rw[amk];omega) w aoq;change CallsIn _ _ Tryz.prog 90 _ _ _ at cS;refine(callsIn_wide.1 cS).mono λe w' ⟨v,ss,he,hS,ho,_,di⟩=>?_;have hp2:=hS.trans asE;have hT:ss.mergeSort (λx y=>decide (x<=y))=tk (D.map (·.1)):=
  (wj (abr (hp2.nodup_iff.2 hn)) λx=>by rw[List.mem_mergeSort];exact hp2.mem_iff).symm
 rw[hT]at ho;have oC:E ss=E (tk (D.map (·.1))):=by rw[<-hT,Px]
 rw[oC]at ho;have hgr:w.grownBy w' none:=⟨di.os,di.tape,di.output,di.size,λk hk _=>di.block k hk⟩
 rcases ho.2 with⟨rfl,h0⟩|⟨q,cap,cur,rfl,h1,h2,h3,h4,h5,h6⟩
 ·have e0:tk (D.map (·.1))=[]:=mS aa;refine⟨_,_,he,⟨none,0,by rw[e0];rfl,rfl⟩,hw.gT hgr ⟨by rw[e0];rfl,by rw[e0];exact gC _,.inl rfl⟩ (.inl rfl)⟩
 ·refine⟨_,_,he,⟨_,_,rfl,rfl⟩,hw.gT hgr ⟨ho.1,h3,.inr ⟨q,cur,rfl,jz hw.base h1,h2,h4,h5,h6⟩⟩ ?_⟩;by_cases hc:cap=0
  ·left;simp[Ch.fp,hc]
  ·right;exact⟨q,by simp[Ch.fp,hc],h1⟩
end YtaodmbolhoafcaaGreatDoor
end Go.Proofs
namespace Go.Proofs.YtaodmbolhoafcaaGreatDoor
set_option linter.unusedVariables false
set_option linter.unusedSimpArgs false
set_option maxRecDepth 20000
variable{B:Nat}{w0:World}{F:aR}{A A1 A2:bk}{n c c1 c2 g:Nat}{B1 B2:bk}{b1 b2:Nat}{bt:TypeId}{f:Ch->aR}
theorem QH(c:UInt8):(97<=(c.toNat:Int)∧(c.toNat:Int)<=122∨48<=(c.toNat:Int)∧(c.toNat:Int)<=57)∧((small c).toNat:Int)=(c.toNat:Int)∧small c≠0∨
  (65<=(c.toNat:Int)∧(c.toNat:Int)<=90)∧((small c).toNat:Int)=(c.toNat:Int)+32∧small c≠0∨
  (¬(97<=(c.toNat:Int)∧(c.toNat:Int)<=122∨48<=(c.toNat:Int)∧(c.toNat:Int)<=57)∧¬(65<=(c.toNat:Int)∧(c.toNat:Int)<=90))∧small c=0:=by
 by_cases h1:65<=c.toNat∧c.toNat<=90
 ·have e:small c=c+32:=ao h1;have e2:(c+32).toNat=c.toNat+32:=by
   rw[UInt8.toNat_add];show(c.toNat+32)%256=_;omega
  refine .inr (.inl ⟨aa,by rw[e,e2];omega,λh=>?_⟩);rw[e]at h;have:=dQ UInt8.toNat h;rw[e2]at this;simp at this
 ·by_cases h2:97<=c.toNat∧c.toNat<=122∨48<=c.toNat∧c.toNat<=57
  ·have e:small c=c:=by unfold small;rw[aw h1,ao h2]
   refine .inl ⟨aa,yo,λh=>?_⟩;rw[e]at h;rw[h]at h2;simp at h2
  ·have e:small c=0:=by unfold small;rw[aw h1,aw h2]
   exact .inr (.inr ⟨aa,e⟩)
theorem xP{n:Int}{b b':Bool}{c:UInt8}(h:n=((small c).toNat:Int))(hb:b=b'):Value.tuple #[.int .u8 n,.bool b]= .tuple #[.int .u8 (small c).toNat,.bool b']:=by rw[h,hb]
theorem afc(c:UInt8):aZ B w0 214 [.int .u8 c.toNat] F (λr L=>r= .tuple #[.int .u8 (small c).toNat,.bool (decide (small c≠0))]∧L=F):=by
 have hs:=QH c;have hc:=c.toNat_lt;refine fw func214 27 [0] ?_;refine jG ?_;refine bR 6 10 [0] (65<=(c.toNat:Int)∧(c.toNat:Int)<=90) ?_ ?_
 ·refine bE ?_;refine cD (λh7=>?_) λh7=>?_
  ·refine b7 ?_;exact aL pM
  ·refine bc ?_;exact aL xh
 ·refine bE ?_;refine aj (λh4=>?_) λh4=>?_
  ·refine bI ?_;refine ab (bJ rfl rfl (ab' aa aa)) rfl (Bg ?_);have e:small c≠0:=by rcases hs with h|h|h<;>first|exact h.2.2|(exfalso;omega)
   exact⟨xP aa (oK e).symm,rfl⟩
  ·refine bF ?_;refine bR 6 17 [0] (97<=(c.toNat:Int)∧(c.toNat:Int)<=122) ?_ ?_
   ·refine bE ?_;refine cD (λku=>?_) λku=>?_
    ·refine b7 ?_;exact aL pM
    ·refine bc ?_;exact aL xh
   ·refine bE ?_;refine aj (λpg=>?_) λpg=>?_
    ·refine E' ?_;have e:small c≠0:=by rcases hs with h|h|h<;>first|exact h.2.2|(exfalso;omega)
     exact⟨xP aa (oK e).symm,rfl⟩
    ·refine aF ?_;refine bR 6 23 [0] (48<=(c.toNat:Int)∧(c.toNat:Int)<=57) ?_ ?_
     ·refine bE ?_;refine cD (λju=>?_) λju=>?_
      ·refine b7 ?_;exact aL pM
      ·refine bc ?_;exact aL xh
     ·refine bE ?_;refine aj (λpg=>?_) λpg=>?_
      ·refine Bh ?_;have e:small c≠0:=by rcases hs with h|h|h<;>first|exact h.2.2|(exfalso;omega)
       exact⟨xP aa (oK e).symm,rfl⟩
      ·refine Bg ?_;have e:small c=0:=by rcases hs with h|h|h<;>first|exact h.2|(exfalso;omega)
       rw[e];exact⟨rfl,rfl⟩
def C2(l:al):Prop:=∀c∈l,small c≠0
instance (l:List UInt8):Decidable (C2 l):=inferInstanceAs (Decidable (∀c∈l,small c≠0))
theorem C2.BI:C2 []:=by intro c h;cases h
theorem C2.take{l:al}(h:C2 l)(k:Nat):C2 (l.take k):=λc hc=>h c (my hc)
theorem C2.step{l:al}{k:Nat}(h:C2 (l.take k))(hk:k<E l)(hs:small (l.getD k 0)≠0):C2 (l.take (k+1)):=by
 rw[aY hk 0];intro c hc;rcases dz.1 hc with hc|hc
 ·exact h c hc
 ·simp only[me]at hc;rw[hc];exact hs
theorem C2.all{l:al}{k:Nat}(h:C2 (l.take k))(hk:¬k<E l):C2 l:=by rwa [fC aa]at h
theorem Co{P:Prop}(h:P:=by(simp[bv])):P:=h
theorem Nv{P:Prop}(h:P:=by(simp[strs])):P:=h
theorem SL.akr{w:World}{L:aR}{e:TypeId}{size k:Nat}{xs:cZ}(h:SL B w0 (.own e size A n c xs::L) w)(hk:k<=n):SL B w0 (.own e size A k c (xs.take (k*size))::L) w:=by
 refine⟨h.below,h.base,λd hd=>?_,ky.2 ⟨λd hd=>?_,(ky.1 h.apart).2⟩⟩
 ·rcases fj.1 hd with rfl|hd
  ·obtain⟨k1,k2,k3⟩:=h.head;have To:k*size<=n*size:=ph _ hk;refine⟨by rw[eY,k1];omega,aa,k3.imp id λ⟨g,cur,q1,q2,q3,q4,q5,q6⟩=>⟨g,cur,q1,q2,q3,q4,q5,by rw[<-q6,LS,xH To]⟩⟩
  ·exact h.tail.all d hd
 ·exact(ky.1 h.apart).1 d hd
theorem Qw{P:Program}{fn:Func}{R:rF}{ee:Exit}{fr:Fr}{L:aR}{e:TypeId}{size:Nat}{xs:cZ}(k:Nat)(hk:k<=n)(h:Dp P fn R ee fr (.own e size A k c (xs.take (k*size))::L)):Dp P fn R ee fr (.own e size A n c xs::L):=by
 cases ee<;>first
  |exact h
  |(intro B w0 a w ha hw;exact h B w0 a w ha (hw.akr hk))
abbrev C3(ho:Nat)(A:bk)(c:Nat)(ws:List cm)(F:aR):aR:=.bG ho 87 [.slice A (E ws) c]:: .own 9 1 A (E ws) c (strs ws)::F
def yj(B:Nat)(w0:World)(ff:FuncId)(ho:Nat)(f:cm->cm):Prop:=
 ∀(F:aR) (t:cm) (ws:List cm) (A:bk) (c:Nat),E t<=24->E ws<=1000000000000->
  aZ B w0 ff [.string ⟨t.toArray⟩,br ho] (C3 ho A c ws F) (λr L=>r= .tuple #[]∧∃A' c',L=C3 ho A' c' (ws++[f t]) F)
abbrev aic(hr:Nat)(A:bk)(c:Nat)(row:al)(F:aR):aR:=.bG hr 27 [.slice A (E row) c]:: .own 5 1 A (E row) c (bv row)::F
theorem ag5{ff:FuncId}{ho hr hw:Nat}{f:cm->cm}(aaa:aK Tryz.prog ff)(Xj:yj B w0 ff ho f){row:al}{ws:List cm}(hws:E ws<=1000000000000)(Dc:E row<=1000000000000):
  aZ B w0 213 [br hr,br hw] (aic hr A1 c1 row (.bG hw 242 [.func (.func ff) #[] [br ho].toArray]::C3 ho A2 c2 ws F))
   (λr L=>r= .tuple #[]∧∃A2' c2',L=aic hr A1 c1 [] (.bG hw 242 [.func (.func ff) #[] [br ho].toArray]::C3 ho A2' c2' (ws++(emit row).map f) F)):=by
 refine fw func213 15 [0,1] ?_;refine bK ?_;refine aj (λh4=>?_) λh4=>?_
 ·refine MF (A:=A1) (nn:=E row) (c:=c1) (size:=1) (xs:=bv row) aB λnZ _=>?_;obtain⟨M,hM⟩:=cK (min (E row) 24);have De:E (row.take 24)=M:=by rw[eY,hM,Nat.min_comm]
  have he:emit row=[row.take 24]:=aw (λe=>by rw[e]at h4;simp at h4);have hMm:min (E row:Int) 24=(M:Int):=by omega
  have uN:(bv row).take (M*1)=bv (row.take 24):=by
   rw[cH,kD];congr 1;rcases uW (E row) 24 with h|h
   ·rw[fC aa,fC aa]
   ·rw[show M=24 by omega]
  refine cE (.bG hr 27 [.slice A1 (E row) c1]:: .own 5 1 A1 (E row) c1 (bv row):: .bG hw 242 [.func (.func ff) #[] [br ho].toArray]::[]) ?_;refine ae 0 ?_;refine ae 1 ?_;refine ae 2 ?_;refine ae 3 ?_;refine aU 4 rfl (yM rfl rfl) ?_;rw[hMm];refine aU 5 rfl (bV (i:=M) (size:=1) underlying27 ag rfl rfl rfl aa) (aU 6 rfl (pT (b:=row.take 24) underlying27 underlying5 underlying9 rfl (uN▸(aB:aM _ _ _ 1 (.slice A1 (E row) c1) (E row) (bv row)).jv (k:=M) aa)) ?_);refine aA 7 (qp rfl .no aaa rfl rfl ((Xj _ (row.take 24) ws _ _ aa aa).perm ((pu3 (pu3 (fV (fV (fV (.refl _)))))))) rfl (by rintro _ _ ⟨rfl,MN,c12,rfl⟩;exact gD) ?_);rintro _ _ ⟨rfl,MN,c12,cO⟩;obtain rfl:=cO.symm;refine b7 ?_;refine ab (bV (i:=0) (size:=1) underlying27 ag rfl rfl rfl aa) rfl (bE ?_);refine aq (L':=.own 5 1 A1 (E row) c1 (bv row):: .bG hr 27 [.slice A1 0 c1]:: .bG hw 242 [.func (.func ff) #[] [br ho].toArray]::C3 ho MN c12 (ws++[f (row.take 24)]) F) ((ur (sE (sE (eu (eu (.refl _))))))) (Qw 0 (bU _) ?_);refine aq (L':=aic hr A1 c1 [] (.bG hw 242 [.func (.func ff) #[] [br ho].toArray]::C3 ho MN c12 (ws++[f (row.take 24)]) F)) (.swap (.cons (az rfl (by rw[qC];rfl) (.refl _)))) (aF ?_);exact⟨rfl,MN,c12,by rw[he];rfl⟩
 ·obtain rfl:row=[]:=mS aa;refine b7 ?_;refine ab (bV (i:=0) (size:=1) underlying27 ag rfl rfl rfl aa) rfl (b7 ?_);exact⟨rfl,A2,c2,by simp[emit]⟩
theorem Yk{ff:FuncId}{ho:Nat}{f:cm->cm}(aaa:aK Tryz.prog ff)(Xj:yj B w0 ff ho f)(l:al){ws:List cm}(hws:E ws<=274877906944)(hl:E l<=274877906944):
  aZ B w0 156 [.string ⟨l.toArray⟩,.func (.func ff) #[] [br ho].toArray] (C3 ho A2 c2 ws F)
   (λr L=>r= .tuple #[]∧∃A2' c2',L=C3 ho A2' c2' (ws++(nP l).map f) F):=by
 refine fw func156 32 [0,1] ?_;refine bc ?_;refine bg λg3=>?_;refine b7 ?_;refine bh λg4=>?_;refine bz ?_;refine a_ 5 1 none (bI ?_);refine aD (λzf zL zm=>∃(k:Nat) (W:List cm) (R:al) (A:bk) (c:Nat) (A3:bk) (c3:Nat),(k<=E l∧wst (l.take k)=(W,R))∧E l-k=zm∧Sub zf [(0,.string ⟨l.toArray⟩),(4,br g4),(5,.func (.func 213) #[] [br g4,br g3].toArray),(11,ah (E l)),(12,ah k)]∧Wk zL (aic g4 A c R (.bG g3 242 [.func (.func ff) #[] [br ho].toArray]::C3 ho A3 c3 (ws++W.map f) F))) _ ⟨0,[],[],none,0,A2,c2,⟨bU _,rfl⟩,rfl,bp,.swap (.cons (.cons (.cons (bw ak (az ak ak (.refl _))))))⟩ ?_;rintro _ _ _ ⟨k,W,R,A,c,A3,c3,⟨hk,hW⟩,rfl,hs,hp⟩;refine aT hs hp (bB ?_);refine aj (λnj=>?_) λnj=>?_
 ·have DF:=ML (l.take k);rw[hW,eY]at DF;simp only at DF;have Ff:=ET R;have hsn:wst (l.take (k+1))=m9 (W,R) (l.getD k 0):=by
   rw[tJ,fc (show k<E l by omega),<-hW,<-ah2];simp[List.getD,fc (show k<E l by omega)]
  refine jt ?_;refine ab (sM underlying9 rfl rfl rfl aa) rfl (ai rfl (afc (l.getD k 0)) (cF ?_));refine aj (λrm=>?_) λrm=>?_
  ·refine b7 ?_;refine dL cB rfl rfl rfl rfl rfl (λ_=>rfl) aW aa aa ?_;intro _ tQ Cp;refine aF ?_;refine ve [0,4,5,11,12] ?_;refine bO ?_;have aew:E R+1=E (R++[small (l.getD k 0)]):=by simp
   refine av ⟨_,aa,k+1,W,R++[small (l.getD k 0)],tQ,Cp,A3,c3,⟨aa,by rw[hsn,Ks rm]⟩,rfl,bp,bw (by rw[aew];rfl) (az aew Co (.refl _))⟩
  ·refine b7 ?_;refine vz al1 rfl rfl (ag5 aaa Xj bT aa) rfl ?_;rintro _ _ ⟨rfl,Cf,Cq,cO⟩;obtain rfl:=cO.symm;refine bB ?_;refine ve [0,4,5,11,12] ?_;refine av ⟨_,aa,k+1,W++emit R,[],A,c,Cf,Cq,⟨aa,by rw[hsn,Ru (jN.1 rm)]⟩,rfl,bp,.cons (.cons (.cons (bw ak (az ak ak (.refl _)))))⟩
 ·obtain rfl:k=E l:=by omega
  rw[ki]at hW;have DF:=ML l;rw[hW]at DF;simp only at DF;have hwd:nP l=W++emit R:=by unfold nP;rw[hW]
  refine bI ?_;refine vz al1 rfl rfl (ag5 aaa Xj bT aa) rfl ?_;rintro _ _ ⟨rfl,RX,c31,cO⟩;obtain rfl:=cO.symm;refine bc ?_;refine aq (L':=C3 ho RX c31 (ws++W.map f++(emit R).map f) F) (.s3 (.refl _)) (aF ?_);exact⟨rfl,RX,c31,by rw[hwd];simp⟩
theorem Zr{ho:Nat}:yj B w0 157 ho (λt=>t):=by
 intro F t ws A c ht hws;refine b_ func157 7 rfl rfl rfl [(0,.string ⟨t.toArray⟩),(1,br ho)] ⟨⟨rfl,rfl⟩,⟨rfl,rfl⟩,trivial⟩ ?_;refine bE ?_;refine dL GM rfl rfl rfl rfl rfl (λ_=>rfl) aW aa aa ?_;intro _ A6 c6;refine bE ?_;have Ff:E ws+1=E (ws++[t]):=by simp
 refine aq (L':=C3 ho A6 c6 (ws++[t]) F) (bw (by rw[Ff];rfl) (az Ff Nv (.refl _))) (aF ?_);exact⟨rfl,A6,c6,rfl⟩
theorem Zs{ho:Nat}:yj B w0 158 ho (λt=>64::t):=by
 intro F t ws A c ht hws;refine b_ func158 8 rfl rfl rfl [(0,.string ⟨t.toArray⟩),(1,br ho)] ⟨⟨rfl,rfl⟩,⟨rfl,rfl⟩,trivial⟩ ?_;refine bE ?_;refine ab (AW (s:=[64]) (r:=t) rfl rfl (by simp only[dI,sY];omega)) rfl (dL GM rfl rfl rfl rfl rfl (λ_=>rfl) aW aa aa ?_);intro _ A7 c7;refine bE ?_;have Ff:E ws+1=E (ws++[64::t]):=by simp
 refine aq (L':=C3 ho A7 c7 (ws++[64::t]) F) (bw (by rw[Ff];rfl) (az Ff Nv (.refl _))) (aF ?_);exact⟨rfl,A7,c7,rfl⟩
theorem ala{a b:Value}(uq src:al)(h1:E uq<=100000000000)(h2:E src<=100000000000):
  aZ B w0 89 [.agg #[a,b,.string ⟨src.toArray⟩,.string ⟨uq.toArray⟩]] F (λr L=>∃A c,r= .slice A (E (tq uq src)) c∧L= .own 9 1 A (E (tq uq src)) c (strs (tq uq src))::F):=by
 have hrl:=Gq uq src;have hw1:=x6 uq;refine fw func89 16 [0] ?_;refine bc ?_;refine bg λg1=>?_;refine bF ?_;refine bh λg3=>?_;refine bE ?_;refine a_ 9 1 none (b7 ?_);refine be alV rfl ((Yk aq_ Zr uq (ws:=[]) ak aa).perm ((mC (fV (fV (.refl _)))))) rfl ?_;rintro _ _ ⟨rfl,A7,c7,cO⟩;obtain rfl:=cO.symm;refine bI ?_;refine be alV rfl (Yk aq' Zs src bT aa) rfl ?_;rintro _ _ ⟨rfl,uu,ya,cO⟩;obtain rfl:=cO.symm;have e:([]++List.map (λt=>t) (nP uq))++List.map (λt=>64::t) (nP src)=Gp uq src:=by simp[Gp]
 rw[e];refine bF ?_;refine ai rfl ((apB (l:=Gp uq src) aa).perm ((mC (fV (fV (.refl _)))))) ?_;rw[show(Gp uq src).length=E ((Gp uq src).mergeSort Xx) from(Px _).symm];refine bF ?_;refine ai rfl (Zv (l:=(Gp uq src).mergeSort Xx) (by rw[Px];omega)) (b7 ?_);refine aq (L':=.own 9 1 uu (E (tq uq src)) ya (strs (tq uq src))::F) (.cons (.s2 (.refl _))) (aF ?_);exact⟨uu,ya,rfl,rfl⟩
theorem Rs(T:al)(m:Nat)(hm:m<=24)(hp:∀x∈T.take m,small x≠0)(hs:m=E T∨(∃c,T[m]? =some c∧small c=0)∨m=24):vD T=(T.take m).map small:=by
 have e:T=T.take m++T.drop m:=(jd m T).symm;have hp':∀x∈T.take m,(λc:UInt8=>decide (small c≠0)) x=true:=λx hx=>oK (hp x hx);have key:T.takeWhile (λc=>decide (small c≠0))=T.take m++(T.drop m).takeWhile (λc=>decide (small c≠0)):=by
  conv=>lhs;rw[e]
  rw[List.takeWhile_append_of_pos hp']
 unfold vD;rw[key,jx];have Aj:E ((T.take m).map small)<=24:=by simp;omega
 rcases hs with h|⟨c,h,h0⟩|h
 ·have:T.drop m=[]:=by rw[h];exact CM
  rw[this,List.takeWhile_nil,Ih,gl];exact fC Aj
 ·have hd:T.drop m=c::T.drop (m+1):=by
   obtain⟨fN,rfl⟩:=Bw.1 h;exact LQ fN
  rw[hd,List.takeWhile_cons,aw Ny,Ih,gl];exact fC Aj
 ·subst h;rcases uW (E T) 24 with h|h
  ·have:T.drop 24=[]:=Fz aa;rw[this,List.takeWhile_nil,Ih,gl];exact fC Aj
  ·have hl:E ((T.take 24).map small)=24:=by simp;omega
   rw[List.take_append_of_le_length aa,fC aa]
def tz(l:al)(i:Nat)(YX:ew)(prev:Bool):Prop:=
 YX++ub prev (l.drop i)=ub false l∧(i=0->prev=false)∧(∀c,0<i->l[i-1]? =some c->prev=decide (small c≠0))∧E YX<=i
theorem tz.start(l:al):tz l 0 [] false:=⟨rfl,λ_=>rfl,λ_ h=>absurd h aa,gC _⟩
theorem tz.skip{l:al}{i:Nat}{YX:ew}{prev:Bool}{c:UInt8}(h:tz l i YX prev)(hc:l[i]? =some c)(hs:small c=0∨prev=true):tz l (i+1) YX (decide (small c≠0)):=by
 obtain⟨fN,rfl⟩:=Bw.1 hc;refine⟨?_,λh=>by omega,λc' _ hc'=>?_,by have:=h.2.2.2;omega⟩
 ·have:=h.1;rw[LQ fN,ub,ao hs]at this;exact this
 ·rw[uS,hc]at hc';injection hc' with hc';rw[hc']
theorem tz.put{l:al}{i:Nat}{YX:ew}{prev:Bool}{c:UInt8}(h:tz l i YX prev)(hc:l[i]? =some c)(hs:small c≠0)(hp:prev=false):tz l (i+1) (YX++[vD (l.drop i)]) (decide (small c≠0)):=by
 obtain⟨fN,rfl⟩:=Bw.1 hc;refine⟨?_,λh=>by omega,λc' _ hc'=>?_,by have:=h.2.2.2;simp;omega⟩
 ·have:=h.1;rw[LQ fN,ub,aw (by simp[hs,hp])]at this;rw[<-this,bX,oK hs,LQ fN];rfl
 ·rw[uS,hc]at hc';injection hc' with hc';rw[hc']
theorem tz.done{l:al}{YX:ew}{prev:Bool}(h:tz l (E l) YX prev):YX=nP l:=by
 have:=h.1;rw[CM]at this;rw[aca,<-this];simp[ub]
def sF(l:al)(i m:Nat)(R:al):Prop:=R=((l.drop i).take m).map small∧∀x∈(l.drop i).take m,small x≠0
theorem sF.more{l:al}{i m:Nat}{R:al}{c:UInt8}(h:sF l i m R)(hc:l[i+m]? =some c)(hs:small c≠0):sF l i (m+1) (R++[small c]):=by
 have e:(l.drop i).take (m+1)=(l.drop i).take m++[c]:=by
  rw[tJ,k_7,hc];rfl
 refine⟨by rw[e,jx,<-h.1];rfl,λx hx=>?_⟩;rw[e]at hx;rcases dz.1 hx with hx|hx
 ·exact h.2 x hx
 ·simp at hx;subst hx;exact hs
theorem sF.len{l:al}{i m:Nat}{R:al}(h:sF l i m R)(hm:i+m<=E l):E R=m:=by
 rw[h.1];simp;omega
theorem sF.stop{l:al}{i m:Nat}{R:al}(h:sF l i m R)(hm:m<=24)(hi:i+m<=E l)(hs:i+m=E l∨(∃c,l[i+m]? =some c∧small c=0)∨m=24):R=vD (l.drop i):=by
 rw[h.1,Rs _ m hm h.2];rcases hs with h|⟨c,h1,h2⟩|h
 ·left;simp;omega
 ·right;left;exact⟨c,by rw[k_7];exact h1,h2⟩
 ·right;right;exact h
theorem tz.test{l:al}{k:Nat}{YX:ew}{prev:Bool}(h:tz l k YX prev)(hk:k<=E l):prev=decide (0<k∧small (l.getD (k-1) 0)≠0):=by
 rcases xF k with h0|h0
 ·rw[h.2.1 h0,oq aa]
 ·have fN:k-1<E l:=by omega
  rw[h.2.2.1 (l.getD (k-1) 0) h0 (by rw[fc fN];simp[List.getD,fc fN])];simp[h0]
theorem QI:∀c:UInt8,small (small c)=small c:=by
 have:∀x:Fin 256,small (small (UInt8.ofNat x.val))=small (UInt8.ofNat x.val):=by decide+kernel
 intro c;have:=this ⟨c.toNat,c.toNat_lt⟩;simpa using this
def VE(t:al):Prop:=∀c∈t,small c≠0∧small c=c
def Kz(t:al):Prop:=1<=E t∧E t<=24∧VE t
theorem WJ{row:al}(h:VE row):∀t∈emit row,Kz t:=by
 intro t ht;unfold emit at ht;split at ht
 ·cases ht
 ·rename_i oh;simp at ht;subst ht;have:=List.length_pos_iff.2 oh;exact⟨bT,bT,λc hc=>h c (my hc)⟩
theorem Vv:∀(l:al) (ws:ew) (row:al),(∀t∈ws,Kz t)->VE row->(∀t∈(l.foldl m9 (ws,row)).1,Kz t)∧VE (l.foldl m9 (ws,row)).2
 |[],ws,row,h1,h2=>⟨h1,h2⟩
 |c::r,ws,row,h1,h2=>by
  rw[aaz];by_cases hc:small c=0
  case neg=>
   rw[Ks hc];refine Vv r ws _ h1 λx hx=>?_;rcases dz.1 hx with hx|hx
   ·exact h2 x hx
   ·simp only[me]at hx;subst hx;rw[QI];exact⟨hc,rfl⟩
  case pos=>
   rw[Ru hc];refine Vv r _ [] (λt ht=>?_) (λx hx=>by cases hx);rcases dz.1 ht with ht|ht
   ·exact h1 t ht
   ·exact WJ h2 t ht
theorem MK{l t:al}(h:t∈nP l):Kz t:=by
 have:=Vv l [] [] ak (λx hx=>by cases hx);rcases dz.1 h with h|h
 ·exact this.1 t h
 ·exact WJ this.2 t h
section
theorem w8:type_of% @wpIn_mono:= @wpIn_mono
abbrev FR(l:Nat):Fence:=Fence.wide.inRound l
def Iz(o:Oper):Prop:=∀c,o.op≠ .defer c
def BJ(o:Oper):Bool:=match o.op with| .defer _=>false|_=>true
theorem PZ{o:Oper}(h:BJ o=true):Iz o:=λc e=>by unfold BJ at h;rw[e]at h;cases h
theorem JT{l:tx}(h:l.all BJ=true):∀o∈l,Iz o:=λo ho=>PZ (LU.1 h o ho)
section
variable{P:Program}{l n:Nat}{Q:Exit->Act->World->Prop}
theorem akM{row:String}{args:Array Value}{w:World}{R:Value->World->Prop}(h:Rows P row args w R):RowsIn (FR l) n P row args w R:=λc cs _=>
 let ⟨v,w',r,s⟩:=h c cs
 ⟨v,w',r,(show StepsIn (Machine.fenced P Fence.wide) P _ _ from stepsIn_wide.2 s)⟩
theorem XR{o:Oper}{a:Act}{w:World}{K:Act->World->Prop}(hd:Iz o)(h:o.wp P a w K Q):o.wpIn (FR l) n P a w K Q:=by
 refine⟨λ_ _=>trivial,?_⟩;rw[Oper.semAt_eq _ _ _ hd];unfold Oper.wp at h;generalize (execOp a.eval o).run P w=r at*;cases r with
 |ok x w'=>
  cases x<;>simp only[Oper.upon,Oper.uponIn]at h⊢<;>first
   |exact h
   |exact⟨λh=>by simp[Fence.inRound,Fence.wide]at h,CallsIn.inRound l (callsIn_wide.2 (LM h λe w'' he=>by cases e<;>exact he))⟩
   |exact⟨λh=>by simp[Fence.inRound,Fence.wide]at h,akM h⟩
 |halt x w'=>cases x<;>simp only[Oper.upon,Oper.uponIn]at h⊢<;>exact h
theorem L3(hQ:¬LetsOut Q){ops:Array Oper}:∀(tM:tx) (a:Act) (w:World),(∀o∈tM,Iz o)->wpList P ops Q tM a w->wpListIn (FR l) n P ops Q tM a w
 |[],_,_,_,h=>h
 |o::r,a,w,hd,h=>by
  unfold wpList at h;unfold wpListIn;split at h
  ·rename_i hw;rw[ao hw];rcases h with h|h
   ·exact Oper.wpIn_mono (λa w h=>L3 hQ r a w (λo ho=>hd o (lU _ ho)) h) (XR (hd o r_) h)
   ·exact absurd h.2 hQ
  ·rename_i hw;rw[aw hw];exact⟨λ_ _=>trivial,L3 hQ r _ w (λo ho=>hd o (lU _ ho)) h⟩
theorem KC(hQ:¬LetsOut Q){ops:Array Oper}{md:Region.Mode}(hd:∀o∈ops,Iz o):∀(fuel:Nat) (li:Array Bool) (a:Act) (w:World),wpAny P md ops Q fuel li a w->wpAnyIn (FR l) n P md ops Q fuel li a w
 |0,_,_,_,h=>h
 |fuel+1,li,a,w,h=>by
  refine⟨h.1,λi hi=>?_⟩;have h:=h.2 i hi;unfold wpOp at h;unfold wpOpIn;cases ho:ops[i]? with
  |none=>
   simp only[ho]at h⊢;exact KC hQ hd fuel _ a w h
  |some o=>
   simp only[ho]at h⊢;have hdo:Iz o:=hd o (Array.mem_of_getElem? ho);by_cases hw:Region.wanted o (yielded ops a.tmps)=true
   ·rw[ao hw]at h⊢;rcases h with h|h
    ·exact Oper.wpIn_mono (λa w h=>KC hQ hd fuel _ a w h) (XR hdo h)
    ·exact absurd h.2 hQ
   ·rw[aw hw]at h⊢;exact⟨λ_ _=>trivial,KC hQ hd fuel _ _ w h⟩
end
def NX(C:Cx)(Q:Fr->aR->Prop):Exit->Act->World->Prop
 | .normal,a,w=>∃fr L,qv C.N fr a∧SL C.B C.w0 L w∧Q fr L
 |_,_,_=>False
def NQ(Q:Fr->aR->Prop):Exit->Fr->aR->Prop
 | .normal,fr,L=>Q fr L
 |_,_,_=>False
def VR(C:Cx)(l n:Nat)(c:Code)(Q:Fr->aR->Prop)(fr:Fr)(L:aR):Prop:=∀a w,qv C.N fr a->SL C.B C.w0 L w->c.wpIn (FR l) n C.P (NX C Q) a w
section
variable{C:Cx}{l n:Nat}{Q:Fr->aR->Prop}{fr:Fr}{L S:aR}{x y:Code}
theorem Xy:∀(e:Exit) (a:Act) (w:World),lift C (NQ Q) e a w->NX C Q e a w:=λe a w ⟨fr,L,ha,hs,hq⟩=>by
 cases e<;>first|exact⟨fr,L,ha,hs,hq⟩|exact hq.elim
theorem ake:¬LetsOut (lift C (NQ Q)):=λ⟨_,_,_,_,_,_,h⟩=>h
theorem afz:¬LetsOut (NoPanic (lift C (NQ Q))):=λ⟨_,_,_,_,_,_,h⟩=>h
theorem MH(h:VR C l n x (λfr L=>VR C l n y Q fr L) fr L):VR C l n (.seq x y) Q fr L:=λa w ha hs=>
 wpIn_seq (w8 (h a w ha hs) λe a w hq=>by
  cases e<;>first|exact hq.elim|(obtain⟨fr,L,ha,hs,hq⟩:=hq;exact hq a w ha hs))
theorem Ha{id:Nat}(h:VR C l n x Q fr L):VR C l n (.block id x) Q fr L:=λa w ha hs=>
 wpIn_block (w8 (h a w ha hs) λe a w hq=>by
  cases e<;>first|exact hq.elim|exact hq)
theorem nN{id:Nat}{tM:tx}(hd:tM.all BJ=true)(h:VL C tM.toArray (NQ Q) tM fr L):VR C l n (.region id tM.toArray false) Q fr L:=λa w ha hs=>
 w8 (wpIn_region_lit (L3 ake tM a w (JT hd) (h a w ha hs))) Xy
theorem alD{id:Nat}{tM:tx}(hd:tM.all BJ=true)(hm:C.P.follows .mixedOrders=true)(hS:S.Sublist L)(h:VH C tM.toArray S (NQ Q) tM.toArray.size (Array.replicate tM.toArray.size false) fr L):VR C l n (.region id tM.toArray true) Q fr L:=λa w ha hs=>
 w8 (wpIn_region_any hm (KC afz (λo ho=>JT hd o (by simpa using ho)) _ _ a _ (wpAny_of_held _ _ _ _ (h a _ ha (hs.drewN 1) ((hs.drewN 1).sub hS))))) λe a w h=>Xy e a w (NoPanic.imp e a w h)
theorem nq(h:Q fr L):NQ Q .normal fr L:=h
end
def mark(D:Nat):Deferred:={target:=.collected D,args:= #[]}
theorem put_defers(a:Act)(ds:List Deferred)(d:Option Tmp)(v:Value):({a with defers:=a.defers++ds}:Act).put d v={a.put d v with defers:=(a.put d v).defers++ds}:=by cases d<;>rfl
theorem mf{P:Program}{ops:Array Oper}{Q:Exit->Act->World->Prop}(ds:List Deferred):∀(tM:tx) (a:Act) (w:World),wpList P ops Q tM a w->
  wpList P ops (λe a' w'=>∃a0:Act,a'={a0 with defers:=a0.defers++ds}∧Q e a0 w') tM {a with defers:=a.defers++ds} w
 |[],a,w,h=>⟨a,rfl,h⟩
 |o::r,a,w,h=>by
  unfold wpList at h⊢;by_cases hw:Region.wanted o (yielded ops a.tmps)=true
  ·rw[ao hw]at h;rw[ao (show Region.wanted o (yielded ops ({a with defers:=a.defers++ds}:Act).tmps)=true from hw)];rcases h with h|⟨h1,a1,w1,h2⟩
   ·refine .inl ?_;have he:({a with defers:=a.defers++ds}:Act).eval=a.eval:=rfl;unfold Oper.wp at h⊢;rw[he];generalize (execOp a.eval o).run P w=res at*;cases res with
    |ok x w'=>
     cases x<;>simp only[Oper.upon]at h⊢<;>first
      |(rw[put_defers];exact mf ds r _ _ h)
      |(
       refine LM h λe w'' he=>?_;cases e<;>dsimp only at he⊢<;>first
        |(rw[put_defers];exact mf ds r _ _ he)
        |exact⟨_,rfl,he⟩
        |(obtain⟨a1,w1,h2⟩:=he;exact⟨_,w1,a1,rfl,h2⟩))
      |exact Rows.mono h λv w'' he=>by rw[put_defers];exact mf ds r _ _ he
      |(have h2:=mf ds r _ _ h;rw[<-put_defers]at h2;exact h2)
    |halt x w'=>cases x<;>simp only[Oper.upon]at h⊢<;>first|exact⟨_,rfl,h⟩|exact h
   ·exact .inr ⟨h1,_,w1,a1,rfl,h2⟩
  ·rw[aw hw]at h;rw[aw (show¬Region.wanted o (yielded ops ({a with defers:=a.defers++ds}:Act).tmps)=true from hw),put_defers];exact mf ds r _ _ h
def VM(C:Cx)(D:Nat)(c:Code)(QQ:Exit->Act->World->Prop)(fr:Fr)(L:aR):Prop:=∀a w,a.defers=[mark D]->qv C.N fr {a with defers:=[]}->SL C.B C.w0 L w->c.wp C.P QQ a w
section
variable{C:Cx}{D:Nat}{QQ:Exit->Act->World->Prop}{fr:Fr}{L L':aR}{x y:Code}
theorem ahV{id:Nat}{tM:tx}(h:VL C tM.toArray (NQ λfr L=>VM C D y QQ fr L) tM fr L):VM C D (.seq (.region id tM.toArray false) y) QQ fr L:=λa w hd ha hs=>by
 have h1:=mf [mark D] tM _ w (h {a with defers:=[]} w ha hs);rw[show({({a with defers:=[]}:Act)with defers:=({a with defers:=[]}:Act).defers++[mark D]}:Act)=a by rw[<-hd];rfl]at h1;refine wp_seq (zg (wp_region_lit h1) λe a' w' hq=>?_);obtain⟨a0,rfl,j8,L',Bj,Au,hq⟩:=hq;cases e<;>first
  |exact hq.elim
  |refine hq _ w' (by simp[Bj.defers]) ?_ Au
   have e0:({({a0 with defers:=a0.defers++[mark D]}:Act)with defers:=[]}:Act)=a0:=by rw[<-Bj.defers]
   rw[e0];exact Bj
def FG(C:Cx)(fn:Func)(R:rF):Exit->Act->World->Prop:=bodyPostM Fence.wide 8 C.P fn λe w'=>∃v L',e= .returned v∧R v L'∧SL C.B C.w0 L' w'
def VG(C:Cx)(c:Code)(QQ:Exit->Act->World->Prop)(fr:Fr)(L:aR):Prop:=∀a w,qv C.N fr a->SL C.B C.w0 L w->c.wp C.P QQ a w
def TG(C:Cx)(y:Code)(QQ:Exit->Act->World->Prop):Exit->Fr->aR->Prop
 | .normal,fr,L=>VG C y QQ fr L
 |e,fr,L=>∀a w,qv C.N fr a->SL C.B C.w0 L w->QQ e a w
theorem rB(h:VC C x (TG C y QQ) fr L):VG C (.seq x y) QQ fr L:=λa w ha hs=>
 wp_seq (zg (h a w ha hs) λe a w ⟨fr,L,ha,hs,hq⟩=>by
  cases e<;>exact hq a w ha hs)
theorem l9(h:VG C y QQ fr L):TG C y QQ .normal fr L:=h
theorem apH{fn:Func}{R:rF}{P:Program}{B N:Nat}{w0:World}{y:Code}(hN:fn.ntmps=N)(h:Dp P fn R .ret fr L):TG ⟨P,N,B,w0⟩ y (FG ⟨P,N,B,w0⟩ fn R) .ret fr L:=λa w ha hs=>by
 subst hN;obtain⟨v,L',h1,h2,h3⟩:=h B w0 a w ha hs;show LeavesInM _ _ _ _ _ _ a.defers _ _;rw[ha.defers];exact⟨v,h1,v,L',rfl,h2,h3⟩
theorem SL.ahJ{B:Nat}{w0 w:World}(h:SL B w0 (.obj D (.deferred (some []))::L) w):SL B w0 L (w.putObj D (.deferred none)):=
 (h.MB (c':=.obj D (.deferred none)) (grownBy_putObj' w D _) ⟨h.head.1,World.putObj_heap_same (k_3.1 h.head.2).1⟩ (.inr (.inl rfl))).tail
theorem ahU{fn:Func}{R:rF}{P:Program}{B N:Nat}{w0:World}(hN:fn.ntmps=N)(hp:L.Perm (.obj D (.deferred (some []))::L'))(h:Dp P fn R .ret fr L'):VM ⟨P,N,B,w0⟩ D .ret (FG ⟨P,N,B,w0⟩ fn R) fr L:=λa w hd ha hs=>by
 subst hN;have Au:=hs.perm hp;obtain⟨v,L'',h1,h2,h3⟩:=h B w0 _ _ ha Au.ahJ;refine wp_ret ?_;show LeavesInM _ _ _ _ _ _ a.defers _ _;rw[hd];exact⟨ak,.inl ⟨D,_,rfl,run_takeDeferred Au.head.2,v,h1,v,L'',rfl,h2,h3⟩⟩
theorem yU{P:Program}{B:Nat}{w0:World}{f:FuncId}{fn:Func}{c:Code}{args:cZ}{R:rF}(hf:P.funcs[f]? =some fn)(N:Nat)(hN:fn.ntmps=N)(hb:fn.body=some c)(hl:Nat.ble (E args) N=true)(fr0:Fr)(hi:Ini N args fr0)(h:VG ⟨P,N,B,w0⟩ c (FG ⟨P,N,B,w0⟩ fn R) fr0 L):dU P B w0 f args L R:=λw hw=>by
 have hl:=Nat.le_of_ble_eq_true hl;subst hN;refine callsIn_wide.1 (callsIn_of_wp_marks (n:=8) hf hb trivial (wpIn_wide.2 (h _ w ⟨rfl,?_,λt v ht=>?_⟩ hw)) rfl)
 ·simp;omega
 ·obtain⟨h1,h2⟩:=hi.look t v ht;simp only[xG];by_cases fN:t<E args
  ·rw[Array.getElem?_append_left IM];simp[fN]at h2;simp[fN,h2]
  ·rw[Array.getElem?_append_right IM];have h3:args[t]? =none:=Bv aa;simp[h3]at h2;subst h2;simp;rw[Array.getElem?_replicate,ao aa]
end
end
theorem JL:type_of% @List.sum_cons:= @List.sum_cons
def PS(f:Nat->List cm)(n:Nat)(s:cm):bf:=(List.range n).filter λq=>decide (s∈f q)
theorem afl(f:Nat->List cm)(n:Nat)(s:cm):PS f (n+1) s=PS f n s++(if s∈f n then [n] else []):=by
 unfold PS;rw[lT,Fy];congr 1;by_cases h:s∈f n<;>simp[h]
theorem TU{f:Nat->List cm}{n:Nat}{s:cm}:PS f n s≠[]↔∃q,q<n∧s∈f q:=by
 unfold PS;rw[Ne,List.filter_eq_nil_iff];simp only[pj,JH];constructor
 ·intro h;refine bA λh2=>h λq hq hs=>h2 ⟨q,hq,hs⟩
 ·rintro⟨q,h1,h2⟩ h3;exact h3 q h1 h2
def sI(f:Nat->List cm)(n:Nat):List cm:=tk ((List.range n).flatMap f)
def KE(f:Nat->List cm)(n:Nat):List (bf):=(sI f n).map (PS f n)
structure AE(f:Nat->List cm)(i:Nat)(part:List cm)(D:List C4):Prop where
 ids:∀s,wR s D=PS f i s++(if s∈part then [i] else [])
 keys:∀s,s∈D.map (·.1)↔wR s D≠[]
 nd:(D.map (·.1)).Nodup
theorem AE.start(f:Nat->List cm):AE f 0 [] []:=⟨λs=>by simp[wR,PS],λs=>by simp[wR],ak⟩
theorem AE.step{f:Nat->List cm}{i j:Nat}{T:List cm}{D:List C4}(h:AE f i (T.take j) D)(hn:T.Nodup)(hj:j<E T)(A:bk)(c:Nat):AE f i (T.take (j+1)) (Iw (T.getD j []) A c i D):=by
 have hg:T.getD j []=T[j]:=by simp[List.getD,fc hj]
 have uN:T.take (j+1)=T.take j++[T[j]]:=by rw[tJ,fc hj];rfl
 have au9:T[j]∉T.take j:=by
  have h2:(T.take (j+1)).Nodup:=hn.sublist (wZ _ _);rw[uN,List.nodup_append]at h2;exact λq=>h2.2.2 _ q _ ak rfl
 have hm:∀s,s∈T.take (j+1)↔s∈T.take j∨s=T[j]:=λs=>by rw[uN,dz,me]
 rw[hg];refine⟨λs=>?_,λs=>?_,P3 _ _ _ _ _ h.nd⟩
 ·rw[S2,h.ids s];by_cases e:s=T[j]
  ·rw[ao e,aw (λq=>au9 (e▸q)),ao ((hm s).2 (.inr e)),gl]
  ·rw[aw e];by_cases q:s∈T.take j
   ·rw[ao q,ao ((hm s).2 (.inl q))]
   ·rw[aw q,aw (λk=>((hm s).1 k).elim q e)]
 ·rw[LV,S2,h.keys s];by_cases e:s=T[j]
  ·simp[e]
  ·simp[e]
theorem Nh.nd{l:List cm}(h:Nh l):l.Nodup:=List.Pairwise.imp (λ{a b} (q:tY a b) (e:a=b)=>f_ a (by rw[<-e]at q;exact q)) h
theorem AE.next{f:Nat->List cm}{i:Nat}{D:List C4}(h:AE f i (f i) D):AE f (i+1) [] D:=
 ⟨λs=>by rw[h.ids s,afl];simp,h.keys,h.nd⟩
theorem AE.done{f:Nat->List cm}{n:Nat}{D:List C4}(h:AE f n [] D):tk (D.map (·.1))=sI f n∧∀s,wR s D=PS f n s:=by
 have hi:∀s,wR s D=PS f n s:=λs=>by rw[h.ids s];simp
 refine⟨wj (zM _) λx=>?_,hi⟩;rw[sI,sk,h.keys,hi,TU,List.mem_flatMap];simp only[pj]
abbrev sA:=bk×Nat×bf
abbrev kl(e:sA):Value:=.slice e.1 (E e.2.2) e.2.1
abbrev kj(e:sA):Ch:=.own 3 1 e.1 (E e.2.2) e.2.1 (bD e.2.2)
def RF(t:cm):List C4->sA
 |[]=>(none,0,[])
 |e::r=>if t=e.1 then e.2 else RF t r
theorem afe(t:cm):∀D:List C4,((nW t (lR D) 0).map (·.2)).getD (.slice none 0 0)=kl (RF t D)
 |[]=>rfl
 |e::r=>by
  show((nW t ((e.1,S0 e)::lR r) 0).map (·.2)).getD _=_;unfold nW RF;by_cases h:t=e.1
  ·rw[ao h,ao h];rfl
  ·rw[aw h,aw h,vL,<-afe t r];cases nW t (lR r) 0<;>rfl
theorem WX(t:cm):∀D:List C4,(RF t D).2.2=wR t D
 |[]=>rfl
 |e::r=>by
  unfold RF wR;split
  ·rfl
  ·exact WX t r
theorem Qz:∀D:List C4,(D.map (·.1)).Nodup->D.map uF=(D.map (·.1)).map λt=>kj (RF t D)
 |[],_=>rfl
 |e::r,h=>by
  rw[kh,Fv]at h;rw[kh,kh,kh];congr 1
  ·unfold RF;rw[ao rfl];rfl
  ·rw[Qz r h.2];apply qB;intro t ht;have oh:¬t=e.1:=λq=>h.1 (q▸ht);show _=kj (RF t (e::r));rw[RF,aw oh]
theorem abi{D:List C4}(h:(D.map (·.1)).Nodup):(D.map uF).Perm (((tk (D.map (·.1))).map (RF · D)).map kj):=by
 have hp:(D.map (·.1)).Perm (tk (D.map (·.1))):=(List.perm_ext_iff_of_nodup h (zM _).nd).2 λx=>(sk _ x).symm;have e:((tk (D.map (·.1))).map (RF · D)).map kj=(tk (D.map (·.1))).map (λt=>kj (RF t D)):=sW;rw[Qz D h,e];exact hp.map _
theorem akU{w:World}(P:aR){D:List C4}{xs:bf}{o:Obj}{R:aR}(h:(D.map uF).Perm (.own 3 1 A (E xs) c (bD xs)::R)∨(A=none∧c=0∧xs=[]∧R=D.map uF))(hw:SL B w0 (P++ .obj g o::(D.map uF++F)) w):SL B w0 (.own 3 1 A (E xs) c (bD xs)::(P++ .obj g o::(R++F))) w:=by
 rcases h with h|⟨rfl,rfl,rfl,rfl⟩
 ·refine hw.perm ?_;refine(List.Perm.append_left P ((((h.append_right F).cons (Ch.obj g o)).trans (.swap _ _ _)))).trans ?_;exact By
 ·exact hw.DH 3 1 none
theorem aeb(P:aR){D':List C4}{o o':Obj}{R:aR}{m:Nat}{xs ys:cZ}(h:(D'.map uF).Perm (.own 3 1 A m c ys::R))(hx:xs=ys)(ho:o=o'):Wk (.own 3 1 A m c xs::(P++ .obj g o::(R++F))) (P++ .obj g o'::(D'.map uF++F)):=by
 subst hx;subst ho;refine .dK (List.Perm.symm ?_);refine(List.Perm.append_left P ((((h.append_right F).cons (Ch.obj g o)).trans (.swap _ _ _)))).trans ?_;exact By
def trm(x:aJ):List cm:=tq x.2.2.2 x.2.2.1
theorem alq(x:aJ):E (trm x)<=x.w:=by
 have h1:=vq (Gp x.2.2.2 x.2.2.1);have h2:=Gq x.2.2.2 x.2.2.1;unfold trm tq aJ.w;omega
theorem ahw{x:aJ}{t:cm}(h:t∈trm x):E t<=25:=by
 rcases dz.1 ((sk _ _).1 h)with h|h
 ·have:=(MK h).2.1;omega
 ·obtain⟨u,hu,rfl⟩:=pC.1 h;have:=(MK hu).2.1;simp;omega
def B8(L:List aJ)(i:Nat):List cm:=trm (recAt L i)
theorem Wb{L:List aJ}(hb:aM B w0 F 4 (.slice A (E L) c) (E L) (c_ L))(hw:dN L<=1048576):
  aZ B w0 49 [.slice A (E L) c] F (λr K=>∃(A1:bk) (c1:Nat) (A2:bk) (c2:Nat) (LL:List sA),r= .agg [.slice A1 (E (sI (B8 L) (E L))) c1,.slice A2 (E (sI (B8 L) (E L))) c2].toArray∧
   K= .own 9 1 A1 (E (sI (B8 L) (E L))) c1 (strs (sI (B8 L) (E L))):: .own 53 1 A2 (E (sI (B8 L) (E L))) c2 (LL.map kl)::(LL.map kj++F)∧LL.map (·.2.2)=KE (B8 L) (E L)):=by
 have xB:E L<=dN L:=by
  clear hb hw;induction L with
  |nil=>simp[dN]
  |cons x r ih=>simp only[dN,kh,JL,dI]at ih⊢;unfold aJ.w at*;omega
 refine fw func49 60 [0] ?_;refine bc ?_;refine bh λg2=>?_;refine b7 ?_;refine cC (Oq) λg11=>cF ?_;refine aD (λzf zL zm=>∃(i:Nat) (D:List C4),(i<=E L∧AE (B8 L) i [] D∧E D<=dN (L.take i))∧E L-i=zm∧Sub zf [(2,br g2),(3,.map (some g11)),(12,.slice A (E L) c),(13,ah (E L)),(14,ah i)]∧Wk zL (.bG g2 90 [.slice none 0 0,.slice none 0 0]:: .obj g11 (XH (lR D))::(D.map uF++F))) _ ⟨0,[],⟨bU _,AE.start _,ak⟩,rfl,bp,.swap (.refl _)⟩ ?_;rintro _ _ _ ⟨i,D,⟨hi,hG,hDl⟩,rfl,hs,hp⟩;refine aT hs hp ?_;clear hs hp;refine bB ?_;refine aj (λkF=>?_) λkF=>?_
 ·obtain⟨tm,lv,src,uq,hx⟩:∃tm lv src uq,recAt L i=(tm,lv,src,uq):=⟨_,_,_,_,rfl⟩
  have qJ:aM B w0 (D.map uF++F) 4 (.slice A (E L) c) (E L) (c_ L):=hb.mono (gL _ _);have Tv:=mu (L:=L) (k:=i) aa;rw[hx]at Tv;have hws:=pH (L:=L) (k:=i) aa;have DF:=nU L (i+1);have hrw:(recAt L i).w=16+E src+E uq:=by rw[hx];rfl
  obtain⟨T,hT⟩:=cK (B8 L i);have hTe:T=tq uq src:=by rw[hT];unfold B8 trm;rw[hx]
  have W9:E T<=E src+E uq:=by
   have h1:=vq (Gp uq src);have h2:=Gq uq src;rw[hTe];unfold tq;omega
  have hTn:T.Nodup:=by rw[hTe];exact(zM _).nd
  have htd:=λF h1 h2=> @ala B w0 F (.int .u64 tm) (.int .u8 (lv.toNat:Int)) uq src h1 h2;rw[<-hTe]at htd;refine bK ?_;refine ab (dq 4 ag rfl aB aa [.int .u64 tm,.int .u8 (lv.toNat:Int),.string ⟨src.toArray⟩,.string ⟨uq.toArray⟩] Tv rfl) rfl ?_;refine bh λg5=>?_;refine bI ?_;refine ay rfl (htd _ aa aa) λDZ HH=>bF ?_;refine aD (λzf zL zm=>∃(j:Nat) (D2:List C4),(j<=E T∧AE (B8 L) i (T.take j) D2∧E D2<=dN (L.take i)+j)∧E T-j=zm∧Sub zf [(2,br g2),(3,.map (some g11)),(4,ah i),(12,.slice A (E L) c),(13,ah (E L)),(14,ah i),(20,.slice DZ (E T) HH),(21,ah (E T)),(22,ah j)]∧Wk zL (.own 9 1 DZ (E T) HH (strs T):: .bG g5 62 [.int .u64 tm,.int .u8 (lv.toNat:Int),.string ⟨src.toArray⟩,.string ⟨uq.toArray⟩]:: .bG g2 90 [.slice none 0 0,.slice none 0 0]:: .obj g11 (XH (lR D2))::(D2.map uF++F))) _ ⟨0,D,⟨bU _,by rw[zl];exact hG,aa⟩,rfl,bp,.refl _⟩ ?_;rintro _ _ _ ⟨j,D2,⟨hj,hG2,av7⟩,rfl,hs,hp⟩;refine aT hs hp ?_;clear hs hp;refine bB ?_;refine aj (λmB=>?_) λmB=>?_
  ·refine bI ?_;refine ab (gX (b:=T) (j:=j) ag rfl aB aa) rfl (bE ?_);obtain⟨AG,cG,RG,hGv,hGs,hGb⟩:=W3 (T.getD j []) D2;have auU:=hG2.ids (T.getD j []);have hil:E (wR (T.getD j []) D2)<=i+1:=by
    rw[auU];have:E (PS (B8 L) i (T.getD j []))<=i:=by unfold PS;exact jz (zb _ _) ak
    rw[aX];split<;>simp only[dI,sY]<;>omega
   refine atz (λw hw=>akU [.own 9 1 DZ (E T) HH (strs T),.bG g5 62 [.int .u64 tm,.int .u8 (lv.toNat:Int),.string ⟨src.toArray⟩,.string ⟨uq.toArray⟩],.bG g2 90 [.slice none 0 0,.slice none 0 0]] hGs hw) ?_;refine bF ?_;refine ab (EE (zv:=(.slice none 0 0)) underlying140 underlying9 (YV ag) rfl rfl aW) rfl ?_;rw[hGv];refine aF ?_;refine dL fT rfl rfl rfl rfl rfl (λ_=>rfl) aW aa aa ?_;intro _ Rw c33;refine lk (HX underlying140 underlying9 rfl rfl rfl aW) (bI ?_);refine av ⟨_,aa,j+1,Iw (T.getD j []) Rw c33 i D2,⟨aa,hG2.step hTn aa Rw c33,by have:=ahM (T.getD j []) Rw c33 i D2;omega⟩,rfl,bp,aeb [_,_,_] (hGb Rw c33 i) tC (by rw[XX])⟩
  ·obtain rfl:j=E T:=by omega
   rw[ki,hT]at hG2;have hGn:=hG2.next;refine bz ?_;refine av ⟨_,aa,i+1,D2,⟨aa,hGn,aa⟩,rfl,bp,.s2 (.refl _)⟩
 ·obtain rfl:i=E L:=by omega
  rw[ki]at hDl;obtain⟨hd1,hd2⟩:=hG.done;have auX:∀p∈lR D,E p.1<=1000000000:=λp hp=>by
   obtain⟨e,he,rfl⟩:=pC.1 hp;have h1:=(hG.keys e.1).1 (pC.2 ⟨e,he,rfl⟩);rw[hd2,TU]at h1;obtain⟨q,_,h2⟩:=h1;have:=ahw h2;show E e.1<=_;omega
  have xA:(lR D).map (·.1)=D.map (·.1):=by simp[lR]
  have DC:E (lR D)=E D:=by simp[lR]
  have hrp:=abi hG.nd;obtain⟨T0,hT0⟩:=cK (tk (D.map (·.1)));have av9:E T0<=E D:=by
   have:=vq (D.map (·.1));rw[hT0];simpa using this
  have hso:=λF g b=> @agK B w0 F (lR D) g b (by rw[xA];exact hG.nd) aa auX;rw[xA,<-hT0]at hso;rw[<-hT0]at hrp hd1;rw[<-hd1];refine bI ?_;refine bh λg8=>?_;refine bB ?_;refine be aua rfl (aoA g11) rfl ?_;rintro _ _ ⟨g37,rfl,cO⟩;obtain rfl:=cO.symm;refine ay rfl ((hso _ g37 g11).perm ((fV (BQ (fV (fV (.refl _))))))) λMR NS=>bF ?_;refine a_ 9 1 none (a_ 53 1 none (aD (λzf zL zm=>∃(k:Nat) (B1:bk) (b1:Nat) (B2:bk) (b2:Nat),(k<=E T0)∧E T0-k=zm∧Sub zf [(2,br g2),(3,.map (some g11)),(8,br g8),(38,.slice MR (E T0) NS),(39,ah (E T0)),(40,ah k)]∧Wk zL (.own 9 1 B1 k b1 (strs (T0.take k)):: .own 53 1 B2 k b2 ((T0.take k).map λt=>kl (RF t D)):: .bG g8 90 [.slice B1 k b1,.slice B2 k b2]:: .own 9 1 MR (E T0) NS (strs T0):: .bG g37 140 [.map (some g11)]:: .bG g2 90 [.slice none 0 0,.slice none 0 0]:: .obj g11 (XH (lR D))::(D.map uF++F))) _ ⟨0,none,0,none,0,bU _,rfl,bp,(gE (eu (ur (eu (eu (gE (eu (.refl _))))))))⟩ ?_));rintro _ _ _ ⟨k,B1,b1,B2,b2,hk,rfl,hs,hp⟩;refine aT hs hp ?_;clear hs hp;refine bB ?_;refine aj (λCy=>?_) λCy=>?_
  ·have uN:T0.take (k+1)=T0.take k++[T0.getD k []]:=by
    rw[tJ,fc (show k<E T0 by omega)];simp[List.getD,fc (show k<E T0 by omega)]
   refine bI ?_;refine ab (gX (b:=T0) (j:=k) ag rfl aB aa) rfl (bK ?_);refine dL GM rfl rfl rfl rfl rfl (λ_=>rfl) aW aa aa ?_;intro _ A48 c48;refine bO ?_;refine ab (EE (zv:=(.slice none 0 0)) underlying140 underlying9 (YV ag) rfl rfl aW) rfl ?_;rw[afe];refine dL amK rfl rfl rfl rfl rfl (λ_=>rfl) aW aa aa ?_;intro _ A56 c56;refine bc ?_;refine ve [2,3,8,38,39,40] ?_;refine bB ?_;refine av ⟨_,aa,k+1,A48,c48,A56,c56,aa,rfl,bp,az rfl (by rw[uN];simp[strs]) (az rfl (by rw[uN];simp) (.refl _))⟩
  ·obtain rfl:k=E T0:=by omega
   rw[ki];refine cF ?_;refine J_ rfl rfl ag aW gV (.cons (.cons (.s5 (.dK (hrp.append_right F))))) ?_;exact⟨B1,b1,B2,b2,T0.map (RF · D),rfl,by rw[show(T0.map (RF · D)).map kl=T0.map (λt=>kl (RF t D)) from sW],by rw[sW,KE,<-hd1];exact qB λt _=>(WX t D).trans (hd2 t)⟩
def D5(l1 l2:List cm)(k:Nat):Prop:=l1.take k=l2.take k
theorem D5.step{l1 l2:List cm}{k:Nat}(h:D5 l1 l2 k)(h1:k<E l1)(h2:k<E l2)(he:l1.getD k []=l2.getD k []):D5 l1 l2 (k+1):=by
 unfold D5 at*;rw[tJ,tJ,h];congr 1;rw[fc h1,fc h2];simp[List.getD,fc h1,fc h2]at he;rw[he]
theorem D5.all{l1 l2:List cm}{k:Nat}(h:D5 l1 l2 k)(h1:¬k<E l1)(h2:E l1=E l2):l1=l2:=by
 unfold D5 at h
 rwa [fC aa,fC aa]at h
theorem ane{P:Prop}(h:P:=by(rw[oq (λh=>by rw[h]at jU;exact jU rfl)])):P:=h
theorem aqS{P:Prop}(h:P:=by(rw[oq (λh=>by rw[h]at oB;exact oB rfl)])):P:=h
theorem wq{M N:aR}(h:Wk M N):∀R:aR,Wk (R++M) N
 |[]=>h
 |_::R=>.skip (wq h R)
abbrev MT:=bk×Nat×List Int
abbrev Bn(e:MT):Value:=.slice e.1 (E e.2.2) e.2.1
abbrev rU:MT:=(none,0,[])
def mD(B:Nat)(w0:World)(F:aR)(LL:List MT):Prop:=∀e∈LL,aM B w0 F 1 (.slice e.1 (E e.2.2) e.2.1) (E e.2.2) (ints .i64 e.2.2)
theorem mD.cons{LL:List MT}{q:Ch}(h:mD B w0 F LL):mD B w0 (q::F) LL:=λe he=>(h e he).cons
theorem mD.mono{LL:List MT}{M:aR}(h:mD B w0 F LL)(hs:F.Sublist M):mD B w0 M LL:=λe he=>(h e he).mono hs
theorem mD.get{LL:List MT}(h:mD B w0 F LL){k:Nat}(hk:k<E LL):aM B w0 F 1 (.slice (LL.getD k rU).1 (E (LL.getD k rU).2.2) (LL.getD k rU).2.1) (E (LL.getD k rU).2.2) (ints .i64 (LL.getD k rU).2.2):=h _ (bj hk rU)
theorem aou{LL:List MT}{k:Nat}(hk:k<E LL):(LL.map Bn)[k*1]? =some (Bn (LL.getD k rU)):=by
 rw[cH,jw,fc hk];simp[List.getD,fc hk]
theorem asM{l:List Int}{k:Nat}(h:k<E l):(ints .i64 l)[k*1]? =some (ah (l.getD k 0)):=by
 rw[cH,ints,jw,fc h];simp[List.getD,fc h]
theorem arP{l l2:List Int}(h1:aM B w0 F 1 (.slice A (E l) c) (E l) (ints .i64 l))(h2:aM B w0 F 1 (.slice A2 (E l2) c2) (E l2) (ints .i64 l2))(hl:E l<=9223372036854775807):
  aZ B w0 241 [.slice A (E l) c,.slice A2 (E l2) c2] F (λr L=>r= .bool (decide (l=l2))∧L=F):=by
 refine fw func241 26 [0,1] ?_;refine jt ?_;refine aj (λjU=>?_) λjU=>?_
 ·refine bK ?_;exact⟨ane,rfl⟩
 ·refine de ?_;refine aD (λzf zL zm=>∃(k:Nat),(k<=E l∧l.take k=l2.take k)∧E l-k=zm∧Sub zf [(0,.slice A (E l) c),(1,.slice A2 (E l2) c2),(12,ah (E l)),(13,ah k)]∧Wk zL (F)) _ ⟨0,⟨bU _,rfl⟩,rfl,bp,.refl _⟩ ?_;rintro _ _ _ ⟨k,⟨hk,heq⟩,rfl,hs,hp⟩;refine aT hs hp (bB ?_);refine aj (λku=>?_) λku=>?_
  ·refine jt ?_;refine bL (au ag rfl aB aa (asM (l:=l) (k:=k) aa)) rfl (bE ?_);refine bL (au ag rfl aB aa (asM (l:=l2) (k:=k) aa)) rfl (bE ?_);refine aj (λoB=>?_) λoB=>?_
   ·refine cF ?_;exact⟨aqS,rfl⟩
   ·refine bI ?_;refine av ⟨_,aa,k+1,⟨aa,by rw[aY aa 0,aY aa 0,heq,show l.getD k 0=l2.getD k 0 by omega]⟩,rfl,bp,.refl _⟩
  ·refine cF ?_;have e:l=l2:=by
    have:=heq
    rwa [fC aa,fC aa]at this
   exact⟨by rw[oK e],rfl⟩
theorem arQ{l l2:List cm}(h1:aM B w0 F 1 (.slice A (E l) c) (E l) (strs l))(h2:aM B w0 F 1 (.slice A2 (E l2) c2) (E l2) (strs l2))(hl:E l<=9223372036854775807):
  aZ B w0 239 [.slice A (E l) c,.slice A2 (E l2) c2] F (λr L=>r= .bool (decide (l=l2))∧L=F):=by
 refine fw func239 26 [0,1] ?_;refine jt ?_;refine aj (λjU=>?_) λjU=>?_
 ·refine bK ?_;exact⟨ane,rfl⟩
 ·refine de ?_;refine aD (λzf zL zm=>∃(k:Nat),(k<=E l∧l.take k=l2.take k)∧E l-k=zm∧Sub zf [(0,.slice A (E l) c),(1,.slice A2 (E l2) c2),(12,ah (E l)),(13,ah k)]∧Wk zL (F)) _ ⟨0,⟨bU _,rfl⟩,rfl,bp,.refl _⟩ ?_;rintro _ _ _ ⟨k,⟨hk,heq⟩,rfl,hs,hp⟩;refine aT hs hp (bB ?_);refine aj (λku=>?_) λku=>?_
  ·refine jt ?_;refine bL (gX (b:=l) (j:=k) ag rfl aB aa) rfl (bE ?_);refine bL (gX (b:=l2) (j:=k) ag rfl aB aa) rfl (bE ?_);refine aj (λoB=>?_) λoB=>?_
   ·refine cF ?_;exact⟨aqS,rfl⟩
   ·refine bI ?_;refine av ⟨_,aa,k+1,⟨aa,by rw[aY aa [],aY aa [],heq,jN.1 oB]⟩,rfl,bp,.refl _⟩
  ·refine cF ?_;have e:l=l2:=by
    have:=heq
    rwa [fC aa,fC aa]at this
   exact⟨by rw[oK e],rfl⟩
def fZ(LL:List MT):List (List Int):=LL.map (·.2.2)
theorem aeZ{L1 L2:List MT}{k:Nat}(h:(fZ L1).take k=(fZ L2).take k)(h1:k<E L1)(h2:k<E L2)(he:(L1.getD k rU).2.2=(L2.getD k rU).2.2):(fZ L1).take (k+1)=(fZ L2).take (k+1):=by
 have hg:∀(L:List MT) (hk:k<E L),(fZ L)[k]? =some (L.getD k rU).2.2:=λL hk=>by
  rw[fZ,jw,fc hk];simp[List.getD,fc hk]
 rw[tJ,tJ,h,hg L1 h1,hg L2 h2,he]
theorem Eb(L:List aJ):∀i,i<=E L->E ((List.range i).flatMap (B8 L))<=dN (L.take i)
 |0,_=>by simp
 |i+1,h=>by
  have ih:=Eb L i aa;have hw:=pH (L:=L) (k:=i) aa;have:=alq (recAt L i);rw[lT,uP,aX,hw];simp only[ka,List.flatMap_nil,gl];show _+E (trm (recAt L i))<=_;omega
def toI(LL:List sA):List MT:=LL.map λe=>(e.1,e.2.1,e.2.2.map (λ(n:Nat)=>(n:Int)))
theorem YC(LL:List sA):(toI LL).map Bn=LL.map kl:=by
 unfold toI;rw[sW];apply qB;intro e _;simp[Bn,kl]
theorem DU(LL:List sA):E (toI LL)=E LL:=by simp[toI]
theorem zT(LL:List sA):fZ (toI LL)=(LL.map (·.2.2)).map λl=>l.map (λ(n:Nat)=>(n:Int)):=by
 simp[fZ,toI]
theorem YB{LL:List sA}{L:aR}(h:∀e∈LL,kj e∈L):mD B w0 L (toI LL):=λe he=>by
 obtain⟨a,ha,rfl⟩:=pC.1 he;have:=aM.own (B:=B) (w0:=w0) (h a ha);simpa[bD,ints,sW,Function.comp_def]using this
section
theorem om:type_of% @List.mem_append_right:= @List.mem_append_right
theorem kI:type_of% @List.mem_append_left:= @List.mem_append_left
def Ch.isObj:Ch->Bool
 | .obj _ _=>true
 |_=>false
section
variable{B:Nat}{w0 w w':World}{L M:aR}{c d:Ch}
theorem Ch.holds.cells(h:c.holds B w)(hc:c.isObj=false){g:Nat}(hg:c.fp=some g):∃o,w.heap[g]? =some o∧o.isCells=true:=by
 cases c with
 |own e size A n cc xs=>
  obtain⟨_,_,h⟩:=h;simp only[Ch.fp]at hg;by_cases rC:cc=0
  ·rw[ao rC]at hg;cases hg
  ·rw[aw rC]at hg;obtain⟨g',cur,rfl,h1,h2,_⟩:=h.resolve_left rC;simp at hg;subst hg;exact⟨_,h2,rfl⟩
 |bG g' t cs=>
  simp only[Ch.fp,FE]at hg;subst hg;exact⟨_,h.2,rfl⟩
 |obj g' o=>cases hc
theorem SL.aqf(h:SL B w0 M w){row:Option Nat}(hg:w.grownBy w' row){K:Nat}(hK:B<=K)(hr:∀r,row=some r->K<=r∧∃o:Obj,w.heap[r]? =some o∧o.isCells=false)(ho:∀c∈M,c.isObj=true->∀g,c.fp=some g->g<K):SL B w0 M w':=by
 refine⟨h.below.grown hg h.base (λk hk=>jz hK (hr k hk).1),jz h.base hg.size,λc hc=>(h.all c hc).keep λg hgc=>?_,h.apart⟩;refine hg.block g ((h.all c hc).lt hgc).2 λe=>?_;obtain⟨h1,o,h2,h3⟩:=hr g e.symm;cases yZ:c.isObj with
 |true=>exact absurd (ho c hc yZ g hgc) aa
 |false=>
  obtain⟨o',h4,h5⟩:=(h.all c hc).cells yZ hgc;rw[h2]at h4;cases h4
  rw[h3]at h5;cases h5
theorem aM.later{size n:Nat}{v:Value}{xs:cZ}{w1:World}(h:aM B w0 L size v n xs)(hb:Below B w0 w1):aM B w1 L size v n xs:=λw hs=>h w ⟨hb.trans hs.below,hs.base,hs.all,hs.apart⟩
def rest(B:Nat)(M:aR)(w:World):aR:=((List.range w.heap.size).filter λk=>decide (B<=k)&&M.all λc=>decide (c.fp≠some k)).filterMap λk=>(w.heap[k]?).map (Ch.obj k)
theorem Gz:c∈rest B M w↔∃k o,B<=k∧w.heap[k]? =some o∧(∀d∈M,d.fp≠some k)∧c= .obj k o:=by
 unfold rest;simp only[List.mem_filterMap,CE,pj,Bx,JH,LU,Option.map_eq_some_iff];constructor
 ·rintro⟨k,⟨h1,h2,h3⟩,o,h4,rfl⟩;exact⟨k,o,h2,h4,h3,rfl⟩
 ·rintro⟨k,o,h2,h4,h3,rfl⟩;exact⟨k,⟨(k_3.1 h4).1,h2,h3⟩,o,h4,rfl⟩
theorem UB(B:Nat)(M:aR)(w:World):(rest B M w).Pairwise Ch.apart:=by
 unfold rest;have h:((List.range w.heap.size).filter λk=>decide (B<=k)&&M.all λc=>decide (c.fp≠some k)).Pairwise (· ≠ ·):=(List.nodup_range).filter _;generalize ((List.range w.heap.size).filter λk=>decide (B<=k)&&M.all λc=>decide (c.fp≠some k))=ks at h⊢;induction ks with
 |nil=>exact List.Pairwise.nil
 |cons k ks ih=>
  have h':=ky.1 h;rw[List.filterMap_cons];cases hk:(w.heap[k]?).map (Ch.obj k)with
  |none=>exact ih h'.2
  |some c=>
   refine ky.2 ⟨λd hd=>?_,ih h'.2⟩;obtain⟨k',hk',hd'⟩:=List.mem_filterMap.1 hd;obtain⟨o,ho,rfl⟩:=Option.map_eq_some_iff.1 hk;obtain⟨o',ho',rfl⟩:=Option.map_eq_some_iff.1 hd';exact .inr λe=>h'.1 k' hk' (PD e)
theorem SL.full(h:SL B w0 M w):SL B w (M++rest B M w) w:=by
 refine⟨Ij _ _,h.base,λc hc=>?_,tK.2 ⟨h.apart,UB B M w,λc hc d hd=>?_⟩⟩
 ·rcases dz.1 hc with hc|hc
  ·exact h.all c hc
  ·obtain⟨k,o,h1,h2,h3,rfl⟩:=Gz.1 hc;exact⟨h1,h2⟩
 ·obtain⟨k,o,h1,h2,h3,rfl⟩:=Gz.1 hd;exact .inr (h3 c hc)
theorem Il{M':aR}(h:SL B w0 M w)(h':SL B w (M'++rest B M w) w')(ho:∀c∈M,c.isObj=true->c∈M'):KeepsOthers w w':=by
 refine⟨h'.below.size,λk o hk hc=>?_⟩;by_cases hB:k<B
 ·rw[h'.below.block k hB];exact hk
 ·by_cases hm:∀d∈M,d.fp≠some k
  ·exact(h'.all _ (om _ (Gz.2 ⟨k,o,aa,hk,hm,rfl⟩))).2
  ·obtain⟨d,hdm,hf⟩:∃d,d∈M∧d.fp=some k:=by
    refine bA λhn=>hm λd h1 h2=>hn ⟨d,h1,h2⟩
   cases hdo:d.isObj with
   |false=>
    obtain⟨o',h4,h5⟩:=(h.all d hdm).cells hdo hf;rw[hk]at h4;cases h4
    rw[hc]at h5;cases h5
   |true=>
    cases d with
    |obj g o'=>
     have e:g=k:=PD hf;subst e;have h1:w.heap[g]? =some o':=(h.all (.obj g o') hdm).2;rw[hk]at h1;cases h1
     exact(h'.all _ (kI _ (ho _ hdm hdo))).2
    |_=>cases hdo
theorem SL.adi(h:SL B w0 M w){D:Nat}{o:Obj}(hB:B<=D)(hD:w.heap[D]? =some o)(ho:o.isCells=false)(hm:∀c∈M,c.isObj=true->∀g,c.fp=some g->g<D):SL B w0 (.obj D o::M) w:=by
 refine⟨h.below,h.base,λc hc=>?_,ky.2 ⟨λd hd=>.inr λe=>?_,h.apart⟩⟩
 ·rcases fj.1 hc with rfl|hc
  ·exact⟨hB,hD⟩
  ·exact h.all c hc
 ·have e:d.fp=some D:=e.symm;cases hdo:d.isObj with
  |true=>exact absurd (hm d hd hdo D e) (Nat.lt_irrefl _)
  |false=>
   obtain⟨o',h4,h5⟩:=(h.all d hd).cells hdo e;rw[hD]at h4;cases h4
   rw[ho]at h5;cases h5
end
theorem MG{C:Cx}{QQ:Exit->Act->World->Prop}{fr:Fr}{L:aR}{x b y:Code}(h:VC C x (TG C b (Exit.then (y.wp C.P QQ) QQ)) fr L):VG C (.seq (.seq x b) y) QQ fr L:=λa w ha hs=>
 wp_seq (wp_seq (zg (h a w ha hs) λe a w ⟨fr,L,ha,hs,hq⟩=>by
  cases e<;>exact hq a w ha hs))
def am5(B:Nat)(Lk:aR)(W W':World):Prop:=∀c∈Lk,c.holds B W->c.holds B W'
section
variable{C:Cx}{QQ:Exit->Act->World->Prop}{fr:Fr}{L:aR}{y body:Code}{α σ:Type}
theorem G9{id r0 p d gf N:Nat}{g:Operand}{lb:cZ}{ty:TypeId}{pos:String}{af:Array Edge}(hc:aK C.P gf)(hg:ev fr g=some (.func (.func gf) #[] lb.toArray))(hp:Nat.blt p C.N=true)(hd:Nat.blt d C.N=true)(enc:α->Value)(S Sp:List α->Prop)(Lk:aR)(aoq:∀w,SL C.B C.w0 L w->SeqStopsK Fence.wide 7 C.P gf lb.toArray (λx=> #[enc x]) (am5 C.B Lk) S Sp N w)(ok:List α->σ->Prop)(G:List α->σ->aR)(hGo:∀pre s c,c.isObj=true->(c∈G pre s↔c∈L))(hLk:∀c∈Lk,c.isObj=false∧∀pre s,c∈G pre s)(s0:σ)(h0:ok [] s0)(hg0:Wk L (G [] s0))(asi:∀l pre x s w1,ok pre s->E pre<N->Below C.B C.w0 w1->∀F',VR ⟨C.P,C.N,C.B,w1⟩ l 6 body (λj8 L'=>∃s',ok (pre++[x]) s'∧Wk L' (G (pre++[x]) s'++F')) ((d,enc x)::(p,enc x)::fr) (G pre s++F'))(asn:∀D xs s,S xs->ok xs s->VM C D y QQ fr (.obj D (.deferred (some []))::G xs s)):
  VG C (.block id (.rangeFunc g #[p] (.region r0 [(⟨some d,.assign (.tmp p),ty,pos,af,none⟩:Oper)].toArray false) body)) (Exit.then (y.wp C.P QQ) QQ) fr L:=λa w ha hs=>by
 have avh:=hg0.sl hs;have asA:∀pre s,∀c∈G pre s,c.isObj=true->∀g,c.fp=some g->g<w.heap.size:=λpre s c hc ho g hg=>((hs.all c ((hGo pre s c ho).1 hc)).lt hg).2;have eg:∀args w,(callFunc gf args).run C.P w= .ok (.enter gf args) w:=λargs w=>by
  obtain⟨fn,cc,h1,h2,h3⟩:=hc;have h2':¬fn.name= "runtime.NumGoroutine" :=by simpa using h2
  simp[callFunc,h1,h2',h3]
 refine wp_block (wpIn_wide.1 (wpIn_rangeFunc_ownF (n:=8) rfl ax (ha.tmp hg) trivial eg (aoq w hs) (λh k c hc hh=>k c hc (h c hc hh)) ?kb (Ij _ _) (λ_=>rfl)
  (λpre W=>∃s,ok pre s∧SL C.B C.w0 (G pre s) W) (λ_ _ _=>False) ?own (λ_ _ _ _ _ h _ _=>h) ⟨s0,h0,avh⟩ (λx=>((a.put (some p) (enc x)).put (some d) (enc x))) ?assign ?body ?done ?stop))
 case kb=>
  intro W l o o' hl hW ho _ c hc hh;refine hh.keep λg hgc=>?_;refine World.putObj_heap_other λe=>?_;subst e;obtain⟨o2,h4,h5⟩:=hh.cells (hLk c hc).1 hgc;rw[hW]at h4;cases h4
  rw[ho]at h5;cases h5
 case own=>
  rintro pre W W' row ⟨s,kN,oC⟩ hgr hr;exact⟨s,kN,oC.aqf hgr hs.base hr (asA pre s)⟩
 case assign=>
  intro l x W K hK;refine wpIn_region_lit (wpListIn_plain rfl λK' hK'=>?_);refine⟨λ_ _=>trivial,?_⟩;rw[Oper.semAt_eq _ _ _ (λc e=>by cases e)];have e0:({tmps:=(#[p].zip #[enc x]).foldl (λt (p,v)=>t.setIfInBounds p v) a.tmps,defers:=[]}:Act)=a.put (some p) (enc x):=by
   have:=ha.defers;cases a
   simp_all[Act.put]
  rw[e0];have hev:(a.put (some p) (enc x)).eval (.tmp p)=enc x:=(ha.put hp (enc x)).tmp (by simp[ev,look]);simp only[execOp,hev,Ig,Oper.uponIn];exact hK' _ _ hK
 case body=>
  rintro l pre x W ⟨s,kN,oC⟩ fN;refine w8 (asi l pre x s W kN fN oC.below (rest C.B (G pre s) W) _ W ((ha.put hp (enc x)).put hd (enc x)) oC.full) λe a' W' hq=>?_;cases e with
  |normal=>
   obtain⟨j8,L',Bj,Au,s',au',Ty⟩:=hq;have j_:=Ty.sl Au;have xC:SL C.B C.w0 (G (pre++[x]) s') W':=⟨oC.below.trans j_.below,j_.base,λc hc=>j_.all c (kI _ hc),(tK.1 j_.apart).1⟩
   exact⟨Il oC j_ (λc hc ho=>(hGo _ _ c ho).2 ((hGo _ _ c ho).1 hc)),λc hc _=>xC.all c ((hLk c hc).2 _ _),s',au',xC⟩
  |_=>exact hq.elim
 case done=>
  rintro D xs W hD hS ⟨s,kN,oC⟩ hK;refine asn D xs s hS kN _ W (by rw[ha.defers];rfl) ?_ (oC.adi (jz hs.base hD) hK rfl (λc hc ho g hg=>uT (asA xs s c hc ho g hg) hD));have:({({a with defers:={target:=.collected D,args:= #[]}::a.defers}:Act)with defers:=[]}:Act)=a:=by have:=ha.defers;cases a;simp_all
  rw[this];exact ha
 case stop=>
  rintro D c pre W _ _ h _;exact h.elim
end
end
section
def YH(N:Nat)(QQ:Exit->Fr->World->Prop):Exit->Act->World->Prop:=λe a w=>∃fr,qv N fr a∧QQ e fr w
def VT(P:Program)(N:Nat)(c:Code)(QQ:Exit->Fr->World->Prop)(fr:Fr)(w:World):Prop:=∀a,qv N fr a->c.wpIn Fence.wide 7 P (YH N QQ) a w
def VTL(P:Program)(N:Nat)(ops:Array Oper)(QQ:Exit->Fr->World->Prop)(l:tx)(fr:Fr)(w:World):Prop:=∀a,qv N fr a->wpListIn Fence.wide 7 P ops (YH N QQ) l a w
def TT(P:Program)(N:Nat)(y:Code)(QQ:Exit->Fr->World->Prop):Exit->Fr->World->Prop
 | .normal,fr,w=>VT P N y QQ fr w
 |e,fr,w=>QQ e fr w
def TB(id:Nat)(QQ:Exit->Fr->World->Prop):Exit->Fr->World->Prop
 | .exit i,fr,w=>if i=id then QQ .normal fr w else QQ (.exit i) fr w
 |e,fr,w=>QQ e fr w
def VTQ(P:Program)(N:Nat)(w:World)(ops:Array Oper)(QF:Fr->Prop)(l:tx)(fr:Fr):Prop:=∀a,qv N fr a->wpQuiet P ops (λw'=>∃n,w'=w.drewN n) (λa'=>∃j8,qv N j8 a'∧QF j8) l a
section
variable{P:Program}{N:Nat}{QQ:Exit->Fr->World->Prop}{QF:Fr->Prop}{fr j8:Fr}{w:World}{x y:Code}{ops:Array Oper}{l:tx}{op:Op}{ty:TypeId}{pos:String}{af:Array Edge}{d:Nat}{v:Value}{B:Nat}{w0:World}{L:aR}
theorem oQ(h:VT P N x (TT P N y QQ) fr w):VT P N (.seq x y) QQ fr w:=λa ha=>
 wpIn_seq (w8 (h a ha) λe a w ⟨fr,ha,hq⟩=>by cases e<;>first|exact hq a ha|exact⟨fr,ha,hq⟩)
theorem zY{id:Nat}(h:VT P N x (TB id QQ) fr w):VT P N (.block id x) QQ fr w:=λa ha=>
 wpIn_block (w8 (h a ha) λe a w ⟨fr,ha,hq⟩=>by
  cases e with
  |exit i=>
   unfold Exit.inBlock;unfold TB at hq;simp only at hq⊢;split
   ·rename_i hi;rw[ao hi]at hq;exact⟨fr,ha,hq⟩
   ·rename_i hi;rw[aw hi]at hq;exact⟨fr,ha,hq⟩
  |_=>exact⟨fr,ha,hq⟩)
theorem DV(h:QQ .normal fr w):VT P N .skip QQ fr w:=λa ha=>wpIn_skip ⟨fr,ha,h⟩
theorem YN{id:Nat}(h:QQ (.exit id) fr w):VT P N (.exit id) QQ fr w:=λa ha=>wpIn_exit ⟨fr,ha,h⟩
theorem ahY(h:QQ .ret fr w):VT P N .ret QQ fr w:=λa ha=>wpIn_ret ⟨fr,ha,h⟩
theorem He{c:Operand}(hc:ev fr c=some (.bool true))(h:VT P N x QQ fr w):VT P N (.cond c x y) QQ fr w:=λa ha=>wpIn_cond_true (ha.tmp hc) (h a ha)
theorem Hc{c:Operand}(hc:ev fr c=some (.bool false))(h:VT P N y QQ fr w):VT P N (.cond c x y) QQ fr w:=λa ha=>wpIn_cond_false (ha.tmp hc) (h a ha)
theorem Kq{c:Operand}{p:Prop}[Decidable p](hc:ev fr c=some (.bool (decide p)))(ht:p->VT P N x QQ fr w)(hf:¬p->VT P N y QQ fr w):VT P N (.cond c x y) QQ fr w:=by
 by_cases hp:p
 ·exact He (by rw[hc,oK hp]) (ht hp)
 ·exact Hc (by rw[hc,oq hp]) (hf hp)
theorem kK(h:VT P N y QQ fr w):TT P N y QQ .normal fr w:=h
theorem YI{i:Nat}(h:QQ (.exit i) fr w):TT P N y QQ (.exit i) fr w:=h
theorem Yv{id:Nat}(h:QQ .normal fr w):TB id QQ (.exit id) fr w:=by unfold TB;simp only[if_true];exact h
theorem mv{id:Nat}{tM:tx}(h:VTL P N tM.toArray QQ tM fr w):VT P N (.region id tM.toArray false) QQ fr w:=λa ha=>wpIn_region_lit (h a ha)
theorem nT(j8:Fr)(hs:Sub fr j8)(h:QQ .normal j8 w):VTL P N ops QQ [] fr w:=λa ha=>wpListIn_nil ⟨j8,ha.sub hs,h⟩
theorem cN(hs:SL B w0 L w)(h:gR ⟨P,N,B,w0⟩ fr L op ty v)(hn:BJ ⟨some d,op,ty,pos,af,none⟩=true)(hd:Nat.blt d N=true)(k:VTL P N ops QQ l ((d,v)::fr) w):VTL P N ops QQ (⟨some d,op,ty,pos,af,none⟩::l) fr w:=λa ha=>
 wpListIn_plain rfl λK hK=>by
  refine⟨λ_ _=>trivial,?_⟩;rw[Oper.semAt_eq _ _ _ (PZ hn),h a w ha hs];exact hK _ _ (k _ (ha.put hd v))
theorem Kr{g x:Operand}{Dq:Array TypeId}{yl:Nat}{u:Value}{T F:World->Prop}(hg:ev fr g=some (.func (.yield yl) #[] #[]))(hx:ev fr x=some u)(hy:YieldAt Fence.wide 6 P yl #[u] w λe w'=>(e= .returned (.bool true)∧T w')∨(e= .returned (.bool false)∧F w'))(hd:Nat.blt d N=true)(kt:∀w',T w'->VTL P N ops QQ l ((d,.bool true)::fr) w')(kf:∀w',F w'->VTL P N ops QQ l ((d,.bool false)::fr) w'):
  VTL P N ops QQ (⟨some d,.call {callee:=.value g,args:= #[x],argTypes:=Dq},ty,pos,af,none⟩::l) fr w:=λa ha=>
 wpListIn_plain rfl λK hK=>by
  obtain⟨fn,tmps,assign,body,h1,h2⟩:=hy;refine⟨λ_ _=>trivial,?_⟩;rw[Oper.semAt_eq _ _ _ (λc e=>by cases e)];have he:(execOp a.eval ⟨some d,.call {callee:=.value g,args:= #[x],argTypes:=Dq},ty,pos,af,none⟩).run P w= .ok (.round yl fn tmps assign body) w:=by
   have hg':=ha.tmp hg;have hx':=ha.tmp hx;simp[execOp,resolve,hg',hx',Deferred.ofValue,invoke,h1]
  rw[he];refine⟨λh=>by simp[Fence.wide]at h,h2.mono λe w' hh=>?_⟩;rcases hh with⟨rfl,hT⟩|⟨rfl,hF⟩
  ·exact hK _ _ (kt w' hT _ (ha.put hd _))
  ·exact hK _ _ (kf w' hF _ (ha.put hd _))
theorem Hf{id:Nat}{tM:tx}(hm:P.follows .mixedOrders=true)(hB:Region.lexB .any tM.toArray=true)(h:VTQ P N w tM.toArray (λj8=>∀n,QQ .normal j8 (w.drewN n)) tM fr):VT P N (.region id tM.toArray true) QQ fr w:=λa ha=>by
 refine wpIn_wide.2 (wp_region_quiet_lit hm hB ?_);have Pa:∀(l:tx) (a:Act) {ops:Array Oper} {Q Q':Act->Prop},(∀a,Q a->Q' a)->wpQuiet P ops (λw'=>∃n,w'=w.drewN n) Q l a->wpQuiet P ops (λw'=>∃n,w'=w.drewN n) Q' l a:=by
  intro l;induction l with
  |nil=>intro a ops Q Q' hq h;exact hq _ h
  |cons o l ih=>
   intro a ops Q Q' hq h;unfold wpQuiet at h⊢;split
   ·rename_i hw;rw[ao hw]at h;exact Oper.quiet_mono (λa h=>ih a hq h) h
   ·rename_i hw;rw[aw hw]at h;exact ih _ hq h
 exact Pa tM a (λa' ⟨j8,h1,h2⟩ w' ⟨n,hn⟩=>⟨j8,h1,hn▸h2 n⟩) (h a ha)
theorem YP(j8:Fr)(hs:Sub fr j8)(h:QF j8):VTQ P N w ops QF [] fr:=λa ha=>wpQuiet_nil ⟨j8,ha.sub hs,h⟩
theorem kL(hs:SL B w0 L w)(h:gR ⟨P,N,B,w0⟩ fr L op ty v)(hd:Nat.blt d N=true)(k:VTQ P N w ops QF l ((d,v)::fr)):VTQ P N w ops QF (⟨some d,op,ty,pos,af,none⟩::l) fr:=λa ha=>
 wpQuiet_step λK hK=>by
  rw[ao (by rfl)];refine⟨v,λw' Ib=>?_,hK _ (k _ (ha.put hd v))⟩;obtain⟨n,rfl⟩:=Ib;unfold Oper.quietAt;rw[h a _ ha (hs.drewN n)];exact⟨rfl,rfl⟩
def agJ(t:Nat)(a:Act):Nat:=match a.tmps[t]? with
 |some (.int _ z)=>z.toNat
 |_=>0
theorem YO(ok:Nat->World->Prop)(F:Nat->Fr)(t M:Nat)(pos:Nat->Nat)(uL:∀i,look t (F i)=some (ah (pos i:Nat)))(i0:Nat)(h0:ok i0 w)(hf:Sub fr (F i0))(round:∀i w,ok i w->VT P N x (λe fr w=>match e with| .normal=>∃i',ok i' w∧M-pos i'<M-pos i∧Sub fr (F i')|e=>QQ e fr w) (F i) w):VT P N (.loop x) QQ fr w:=λa ha=>by
 have hm:∀i a,qv N (F i) a->agJ t a=pos i:=λi a ha=>by
  unfold agJ;rw[ha.at_ _ _ (uL i)];simp
 refine wpIn_loop (λa w=>∃i,ok i w∧qv N (F i) a) (λa w=>M-agJ t a) ⟨i0,h0,ha.sub hf⟩ ?_;rintro a w ⟨i,e2,e3⟩;refine w8 (round i w e2 a e3) λe a' w' ⟨j8,Bj,hq⟩=>?_;cases e with
 |normal=>
  obtain⟨i',k1,k2,k3⟩:=hq;refine⟨⟨i',k1,Bj.sub k3⟩,?_⟩;rw[hm i a e3,hm i' a' (Bj.sub k3)];exact k2
 |_=>exact⟨j8,Bj,hq⟩
end
end
section
section
variable{C:Cx}{fr:Fr}{L:aR}{x y z u:Operand}{t ty e:TypeId}{m n q:Int}{k:IntKind}
theorem HF{P:Prop}(h:P:=by(repeat (first|exact .hd|apply na.tl))):P:=h
theorem wP{A:bk}{nn c i j size:Nat}{k' k2:IntKind}(ht:C.P.underlying t=some (.slice e))(hz:(C.P.info? e).map (·.size)=some size)(he:ev fr x=some (.slice A nn c))(hy:ev fr y=some (.int k m))(hm:m=(i:Int))(wC:ev fr z=some (.int k' n))(hn:n=(j:Int))(hu:ev fr u=some (.int k2 q))(hq:q=(j:Int))(Jv:i<j)(hj:j<=c):
  gR C fr L (.slice t x (some y) (some z) (some u)) ty (.slice (A.map (·.add (i*size))) (j-i) (j-i)):=λa w ha hw d pos af gg=>by
 subst hm;subst hn;subst hq;have h1:¬j=i:=by omega
 have h2:i<=j:=by omega
 simp[execOp,Instr.sliceAt,Instr.slice,Instr.sliceBounds,Instr.sliceBound,asIntOf,jk ht,ha.tmp he,ha.tmp hy,ha.tmp wC,ha.tmp hu,h1,h2,hj,Ie hz]
end
def yc(sz n i:Nat):Nat:=min sz (n-i*sz)
def HJ(A:bk)(sz n i:Nat):Value:=.slice (A.map (·.add (i*sz))) (yc sz n i) (yc sz n i)
def h_(sz n:Nat):Nat:=(n+(sz-1))/sz
theorem oF{sz n i:Nat}(h:1<=sz):i<h_ sz n↔i*sz<n:=by
 unfold h_;rw[Nat.lt_iff_add_one_le,Ps aa,kH];omega
theorem VI{N:Nat}{args:cZ}{fr0:Fr}(hl:E args<=N)(hi:Ini N args fr0):qv N fr0 {tmps:=args.toArray++Array.replicate (N-args.toArray.size) undef,defers:=[]}:=by
 refine⟨rfl,bT,λt v ht=>?_⟩;obtain⟨h1,h2⟩:=hi.look t v ht;simp only[xG];by_cases fN:t<E args
 ·rw[Array.getElem?_append_left IM];simp[fN]at h2;simp[fN,h2]
 ·rw[Array.getElem?_append_right IM];have h3:args[t]? =none:=Bv aa;simp[h3]at h2;subst h2;simp;rw[Array.getElem?_replicate,ao aa]
def TE(A B:World->Prop):Exit->Fr->World->Prop
 | .normal,_,w| .ret,_,w=>A w∨B w
 |_,_,_=>False
theorem NY{B g2 g3:Nat}{A:bk}{n c sz:Nat}(jg:1<=sz)(j_:sz<=1000)(hn:n<=1000000000000000)(hnc:n<=c)(hg:g2≠g3)(w:World)(h2:(Ch.bG g2 87 [.slice A n c]).holds B w)(h3:(Ch.bG g3 3 [ah sz]).holds B w):
  SeqStopsK Fence.wide 7 Tryz.prog 209 [br g2,br g3].toArray (λx:Fin (h_ sz n)=> #[HJ A sz n x.val])
   (am5 B [.bG g2 87 [.slice A n c],.bG g3 3 [ah sz]]) (λxs=>xs.map (·.val)=List.range (h_ sz n)) (λ_=>True) (h_ sz n) w:=by
 intro l J Jx W hW hJ hJx hY h0;have oC:∀w:World,(∀q∈[Ch.bG g2 87 [.slice A n c],.bG g3 3 [ah sz]],q.holds B w)->SL 0 w [Ch.bG g2 87 [.slice A n c],.bG g3 3 [ah sz]] w:=λw h=>by
  refine⟨Ij _ _,bU _,λc hc=>?_,ky.2 ⟨λd hd=>?_,ky.2 ⟨λ_ h=>kC,List.Pairwise.nil⟩⟩⟩
  ·have:=h c hc;simp only[fj,mV,oU]at hc;rcases hc with rfl|rfl<;>exact⟨bU _,this.2⟩
  ·rw[me.1 hd];exact .inr λe=>hg (PD e)
 have aoe:=(h2.lt rfl).2;have aof:=(h3.lt rfl).2;have hW0:∀q∈[Ch.bG g2 87 [.slice A n c],.bG g3 3 [ah sz]],q.holds B W:=by
  intro c hc;simp only[fj,mV,oU]at hc;rcases hc with rfl|rfl
  ·exact h2.keep λg hg=>by cases hg;exact hW.block _ aoe
  ·exact h3.keep λg hg=>by cases hg;exact hW.block _ aof
 have hdr:∀pre (w:World) k,J pre w->J pre (w.drewN k):=λpre w k h=>hJ pre w _ none h (rk w k) (λr e=>by cases e);generalize hLk:[Ch.bG g2 87 [.slice A n c],.bG g3 3 [ah sz]]=Lk at*;refine callsIn_of_wp func209 rfl trivial (w8 (Q:=YH 31 (TE (λw=>∃xs:List (Fin (h_ sz n)),xs.map (·.val)=List.range (h_ sz n)∧J xs w) (λw=>∃pre,True∧Jx pre w))) ?_ ?_) rfl
 ·have ha:=VI (N:=31) (args:=[.func (.yield l) #[] #[],br g2,br g3]) (fr0:=[(0,.func (.yield l) #[] #[]),(1,br g2),(2,br g3)]) ak ⟨⟨rfl,rfl⟩,⟨rfl,rfl⟩,⟨rfl,rfl⟩,trivial⟩;refine(?_ :VT Tryz.prog 31 _ _ _ W) _ ha;refine oQ (mv ?_);refine cN (oC W hW0) (mb rfl) rfl rfl ?_;refine nT [(0,_),(1,_),(2,_),(4,_)] ⟨rfl,rfl,rfl,rfl,trivial⟩ ?_;refine kK (zY ?_);refine YO (λi w=>i<=h_ sz n∧(∀c∈Lk,c.holds B w)∧∃pre:List (Fin (h_ sz n)),pre.map (·.val)=List.range i∧J pre w) (λi=>[(0,.func (.yield l) #[] #[]),(1,br g2),(2,br g3),(4,ah ((i*sz:Nat):Int))]) 4 (n+sz) (λi=>i*sz) (λi=>rfl) 0 ⟨bU _,hW0,[],rfl,h0⟩ ⟨rfl,rfl,rfl,by rw[qC];rfl,trivial⟩ ?_;rintro i w ⟨hi,hh,pre,Fi,hJp⟩;have hs:=oC w hh;rw[<-hLk]at hs;refine oQ (oQ (mv ?_));refine cN hs (ek rfl) rfl rfl ?_;refine cN hs (bQ ag rfl HF rfl) rfl rfl ?_;refine cN hs (pV underlying87 rfl) rfl rfl ?_;refine cN hs (yL rfl rfl) rfl rfl ?_;refine nT [(0,_),(1,_),(2,_),(4,_),(9,_)] ⟨rfl,rfl,rfl,rfl,rfl,trivial⟩ ?_;refine kK (Kq rfl (λfN=>?_) (λfN=>?_))
  ·refine DV ?_;have hin:i*sz<n:=by omega
   have hiN:=(oF jg).2 hin;have hlen:E pre<h_ sz n:=by
    have:=dQ List.length Fi;simp at this;omega
   have hE1:1<=yc sz n i:=by unfold yc;omega
   have hE2:yc sz n i<=sz:=by unfold yc;omega
   have hE3:i*sz+yc sz n i<=n:=by unfold yc;omega
   have hss:(i+1)*sz=i*sz+sz:=kH i sz;refine kK (oQ (zY (oQ (Hf ag ag ?_))));refine kL hs (bQ ag rfl HF rfl) rfl ?_;refine kL hs (bQ ag rfl HF rfl) rfl ?_;refine kL hs (ek rfl) rfl ?_;refine kL hs (bY (i:=i*sz) (size:=1) underlying87 ag rfl rfl rfl aa) rfl ?_;refine kL hs (pV underlying87 rfl) rfl ?_;refine kL hs (yM rfl rfl) rfl ?_;refine kL hs (mb rfl) rfl ?_;rw[show min (sz:Int) ((n-i*sz:Nat):Int)=((yc sz n i:Nat):Int) by unfold yc;omega];refine YP [(0,_),(1,_),(2,_),(4,_),(5,_)] ⟨rfl,rfl,rfl,rfl,rfl,trivial⟩ ?_;intro kd;have hJd:=hdr pre w kd hJp;have xz:∀c∈Lk,c.holds B (w.drewN kd):=λc hc=>(hh c hc).keep λg hg=>rfl;clear hh hJp hs;generalize w.drewN kd=w at*;have hs:=oC w xz;rw[<-hLk]at hs;refine kK (oQ (mv ?_));refine cN hs (ek rfl) rfl rfl ?_;refine cN hs (bQ ag rfl HF rfl) rfl rfl ?_;refine cN hs (ek rfl) rfl rfl ?_;refine cN hs (ek rfl) rfl rfl ?_;refine cN hs (ek rfl) rfl rfl ?_;refine cN hs (bJ rfl rfl (bq aa aa)) rfl rfl ?_;refine cN hs (ek rfl) rfl rfl ?_;refine cN hs (ek rfl) rfl rfl ?_;refine cN hs (bJ rfl rfl (bq aa aa)) rfl rfl ?_;refine cN hs (wP (i:=i*sz) (j:=i*sz+yc sz n i) (size:=1) underlying87 ag rfl rfl rfl rfl aa rfl aa aa aa) rfl rfl ?_;rw[cH,zc];refine Kr (u:=HJ A sz n i) rfl rfl (hY pre ⟨i,hiN⟩ w hJd hlen) rfl ?_ ?_
   ·rintro w' ⟨hJ',hK⟩;have hh':∀c∈Lk,c.holds B w':=λc hc=>hK c hc (xz c hc);have hs:=oC w' hh';rw[<-hLk]at hs;refine cN hs (AV rfl) rfl rfl ?_;refine nT [(0,_),(1,_),(2,_),(4,_),(30,_)] ⟨rfl,rfl,rfl,rfl,rfl,trivial⟩ ?_;refine kK (Hc rfl (DV ?_));refine kK (mv ?_);refine cN hs (ek rfl) rfl rfl ?_;refine cN hs (bQ ag rfl HF rfl) rfl rfl ?_;refine cN hs (bJ rfl rfl (r:=(((i+1)*sz:Nat):Int)) ((bq aa aa).trans aa)) rfl rfl ?_;refine cN hs (mb rfl) rfl rfl ?_;refine nT [(0,_),(1,_),(2,_),(4,_)] ⟨rfl,rfl,rfl,rfl,trivial⟩ ?_;exact⟨i+1,⟨hiN,hh',pre++[⟨i,hiN⟩],by rw[jx,Fi,lT];rfl,hJ'⟩,aa,rfl,rfl,rfl,rfl,trivial⟩
   ·intro w' hJ';have DE:SL w'.heap.size w' [] w':=SL.BI w';refine cN DE (AU rfl) rfl rfl ?_;refine nT [(30,_)] ⟨rfl,trivial⟩ ?_;refine kK (He rfl (ahY ?_));exact .inr ⟨_,trivial,hJ'⟩
  ·refine YN ?_;refine YI ?_;show TB 0 _ (Exit.exit 0) _ _;refine Yv ?_;have xx:¬i<h_ sz n:=λh=>fN (by have:=(oF jg).1 h;omega);obtain rfl:i=h_ sz n:=by omega
   exact .inl ⟨pre,Fi,hJp⟩
 ·rintro e a w ⟨fr,ha,hq⟩;cases e<;>first
   |exact hq.elim
   |exact⟨ha.defers,_,results_none rfl _ _ _,⟨_,rfl⟩,hq⟩
end
theorem aqm{P:Prop}(h:P:=by(exact dR (by first|exact λh=>absurd h.1 (by assumption)|exact λh=>absurd h.2.1 (by omega)|exact⟨λh=>⟨by assumption,by omega,h⟩,λh=>h.2.2⟩))):P:=h
theorem b_9{P:Prop}(h:P:=by(exact dR (by first|exact λh=>absurd ((mY s r k hk).1 h).1.1 (by omega)|exact λh=>absurd ((mY s r k hk).1 h).1.2 (by omega)|exact⟨λh=>(mY s r k hk).2 ⟨⟨by omega,by omega⟩,mR.1 (by omega)⟩,λh=>by rw[((mY s r k hk).1 h).2]⟩))):P:=h
theorem SG(was s:cm):aZ B w0 208 [.string ⟨was.toArray⟩,.string ⟨s.toArray⟩] F (λr L=>r= .bool (decide (u_ was s))∧L=F):=by
 refine fw func208 17 [0,1] ?_;refine bI ?_;refine bR 12 16 [] (u_ was s) ?_ ?_
 ·refine aF ?_;refine ab (I8 (r:=[]) rfl rfl) rfl (aF ?_);refine cD (λh7=>?_) λh7=>?_
  ·refine bI ?_;refine cD (λnY=>?_) λnY=>?_
   ·refine b7 ?_;refine ab (SC rfl rfl) rfl (aF ?_);exact aL (by exact dG (by first|exact λh=>absurd h.1 (by assumption)|exact λh=>absurd h.2.1 (by omega)|exact⟨λh=>⟨by assumption,by omega,h⟩,λh=>h.2.2⟩))
   ·refine bE ?_;exact aL aqm
  ·refine bK ?_;exact aL aqm
 ·refine bF ?_;exact⟨rfl,rfl⟩
theorem WB(s r:cm)(hs:E s<=1000000000000000):aZ B w0 210 [.string ⟨s.toArray⟩,.string ⟨r.toArray⟩] F (λv L=>v=ah (qP s r)∧L=F):=by
 have hle:=(Bz s r).1;refine fw func210 28 [0,1] ?_;refine cF ?_;refine aD (λzf zL zm=>∃(k:Nat),(k<=qP s r)∧qP s r-k=zm∧Sub zf [(0,.string ⟨s.toArray⟩),(1,.string ⟨r.toArray⟩),(5,ah k)]∧Wk zL (F)) _ ⟨0,bU _,rfl,bp,.refl _⟩ ?_;rintro _ _ _ ⟨k,hk,rfl,hs,hp⟩;refine aT hs hp ?_;clear hs hp;refine bE ?_;refine Dw 19 24 [0,1,5] (k<qP s r) ?_ ?_
 ·refine bF ?_;refine iP rfl rfl rfl (λjU=>?_) (λjU=>?_)
  ·refine bO ?_;refine iP rfl rfl rfl (λlf=>?_) (λlf=>?_)
   ·refine b7 ?_;refine bL (sM underlying9 rfl rfl rfl aa) rfl (bF ?_);refine bL (sM underlying9 rfl rfl rfl aa) rfl (bE ?_);exact rj (by exact dG (by first|exact λh=>absurd ((mY s r k hk).1 h).1.1 (by omega)|exact λh=>absurd ((mY s r k hk).1 h).1.2 (by omega)|exact⟨λh=>(mY s r k hk).2 ⟨⟨by omega,by omega⟩,mR.1 (by omega)⟩,λh=>by rw[((mY s r k hk).1 h).2]⟩))
   ·refine bI ?_;exact rj b_9
  ·refine cY ?_;exact rj b_9
 ·refine bc ?_;refine aj (λoB=>?_) λoB=>?_
  ·refine bO ?_;refine av ⟨_,aa,k+1,aa,rfl,bp,.refl _⟩
  ·refine cY ?_;exact⟨by rw[show k=qP s r by omega],rfl⟩
theorem aiO{sz:Nat}(jg:1<=sz):aZ B w0 148 [.slice A n c,ah sz] F (λv L=>∃g2 g3,v= .func (.func 209) #[] #[br g2,br g3]∧L= .bG g3 3 [ah sz]:: .bG g2 87 [.slice A n c]::F):=by
 refine fw func148 9 [0,1] ?_;refine bc ?_;refine bg λg2=>?_;refine bg λg3=>?_;refine bz ?_;refine dw λh6=>?_;refine bz ?_;exact⟨_,_,rfl,rfl⟩
theorem yk{P:eF}{l:al}(hb:aM B w0 F 1 (.slice A n c) n P.Dn)(hP:∀x∈P,aM B w0 F 1 x.1 (E x.2) (bv x.2))(hn:n=E P)(kU:P.all=l)(hlen:E l<=1099511627776)(Cz:E P<=1099511627776):
  aZ B w0 52 [.slice A n c] F (λr L=>∃A' c',r= .slice A' (E l) c'∧L= .own 5 1 A' (E l) c' (bv l)::F):=by
 subst kU;exact dU.BK λw hw=>alM (B:=w.heap.size) w hn (hb w hw) (λx hx=>hP x hx w hw) (gC _) hlen Cz
theorem Oh{l:List cm}(hb:aM B w0 F 1 (.slice A (E l) c) (E l) (strs l))(hl:E l<=1000000000000000):
  aZ B w0 147 [.slice A (E l) c] F (λr L=>r= .bool (decide (lF l))∧L=F):=by
 refine fw func147 21 [0] ?_;refine Bh ?_;refine aD (λzf zL zm=>∃(k:Nat),(k<=E l∧∀i,i<k->u_ (fF l i) (l.getD i []))∧E l-k=zm∧Sub zf [(0,.slice A (E l) c),(3,.string ⟨(fF l k).toArray⟩),(6,.slice A (E l) c),(7,ah (E l)),(8,ah k)]∧Wk zL (F)) _ ⟨0,⟨bU _,λi h=>absurd h aa⟩,rfl,bp,.refl _⟩ ?_;rintro _ _ _ ⟨k,⟨hk,hm⟩,rfl,hs,hp⟩;refine aT hs hp (bB ?_);refine aj (λh9=>?_) λh9=>?_
 ·refine jG ?_;refine ai rfl (SG (fF l k) (l.getD k [])) (bE ?_);refine aj (λkF=>?_) λkF=>?_
  ·refine cY ?_;exact⟨by rw[oq (λh=>kF (h.1 k aa))],rfl⟩
  ·have hmk:u_ (fF l k) (l.getD k []):=jN.1 kF;refine cF ?_;rw[<-J3];refine av ⟨_,aa,k+1,⟨aa,λi hi=>by
    by_cases e:i=k
    ·rw[e];exact hmk
    ·exact hm i aa⟩,rfl,bp,.refl _⟩
 ·refine jt ?_;have e:k=E l:=by omega
  subst e;exact⟨by rw[zj.2 (show((E l:Int)<=1048576)↔lF l from⟨λh=>⟨hm,aa⟩,λh=>(by have:=h.2;omega)⟩)],rfl⟩
theorem yQ{s:cm}(h:E s<=1000000):E (fD s)<=E s+10:=by
 have:=aV (x:=E s) aa;unfold fD;rw[aX];omega
theorem sn:∀(was:cm) (r:List cm),(∀s∈r,E s<=25)->E (iY was r)<=E r*45
 |_,[],_=>by simp[iY]
 |was,s::r,h=>by
  have h1:=sn s r (λx hx=>h x oR);have h2:=h s ak;have h3:E (fD (s.drop (qP was s)))<=35:=by
   have:=yQ (s:=s.drop (qP was s)) ly;rw[iG]at this;omega
  have h4:E (aS (qP was s))<=10:=aV (by have:=(Bz was s).2;omega);rw[iY,aX,aX,dI,kH];omega
theorem GW:∀(t:cm) (r:List cm) (k:Nat),k<E r->iY t (r.take (k+1))=iY t (r.take k)++(aS (qP ((t::r).getD k []) (r.getD k []))++fD ((r.getD k []).drop (qP ((t::r).getD k []) (r.getD k []))))
 |_,[],_,h=>absurd h ak
 |t,s::r,0,_=>by simp[iY]
 |t,s::r,k+1,h=>by
  have:=GW s r k ng;rw[r7,iY,this,r7,iY];simp only[CJ,bX]
theorem acV{t:cm}{r:List cm}(hb:aM B w0 F 1 (.slice A (E r+1) c) (E r+1) (strs (t::r)))(hl:E r<=1000)(wS:∀s∈t::r,E s<=25):
  aZ B w0 149 [.slice A (E r+1) c] F (λv L=>∃A' c',v= .slice A' (E (dH (t::r))) c'∧L= .own 5 1 A' (E (dH (t::r))) c' (bv (dH (t::r)))::F):=by
 have ht:=wS t ak;have hcut:=hb.cut (k:=1) aa;rw[uS,show(strs (t::r)).drop (1*1)=strs r from rfl]at hcut;obtain⟨A9,hA9⟩:=cK ((if c=1 then A else A.map (·.add (1*1))));obtain⟨c9,hc9⟩:=cK (c-1);rw[<-hA9,<-hc9]at hcut;have e0:E (fD t++iY t (r.take 0))=E (fD t):=by simp[iY]
 refine fw func149 37 [0] ?_;refine bK ?_;refine ab (aE (i:=0) (size:=1) underlying87 ag rfl rfl rfl aa aB) rfl ?_;refine ab (gX (b:=t::r) ag rfl aB aa) rfl ?_;refine ay rfl (My t aa) λwJ Ej=>bI ?_;refine ab (bY (i:=1) (size:=1) underlying87 ag rfl rfl rfl aa) rfl ?_;rw[uS,<-hA9,<-hc9];refine bF ?_;refine aD (λzf zL zm=>∃(k:Nat) (A3:bk) (c3:Nat),(k<=E r)∧E r-k=zm∧Sub zf [(0,.slice A (E r+1) c),(3,.slice A3 (E (fD t++iY t (r.take k))) c3),(12,.slice A9 (E r) c9),(13,ah (E r)),(14,ah k)]∧Wk zL (.own 5 1 A3 (E (fD t++iY t (r.take k))) c3 (bv (fD t++iY t (r.take k)))::F)) _ ⟨0,wJ,Ej,bU _,rfl,bp,az (by simp[iY]) (by simp[iY]) (.refl _)⟩ ?_;rintro _ _ _ ⟨k,A3,c3,hk,rfl,hs,hp⟩;refine aT hs hp ?_;clear hs hp;refine bB ?_;refine aj (λkF=>?_) λkF=>?_
 ·have Am:E ((t::r).getD k [])<=25:=wS _ (by rw[ba,fc (show k<E (t::r) by simp;omega)];exact oT _);have M7:E (r.getD k [])<=25:=wS _ (by simp[ba,fc (show k<E r by omega)]);have fN:=sn t (r.take k) (λs hs=>wS s (lU _ (my hs)));rw[eY,xH aa]at fN;have hle:=Bz ((t::r).getD k []) (r.getD k []);have ass:k*45<=1000*45:=ph _ aa;have De:=yQ (s:=t) aa;refine bK ?_;refine ab (gX (b:=r) ag rfl aB aa) rfl (bK ?_);refine ab (aE (i:=k) (size:=1) underlying87 ag rfl rfl rfl aa aB) rfl ?_;refine ab (gX (b:=t::r) ag rfl aB aa) rfl (aF ?_);refine ai rfl (WB ((t::r).getD k []) (r.getD k []) aa) (bE ?_);refine cE (.own 5 1 A3 (E (fD t++iY t (r.take k))) c3 (bv (fD t++iY t (r.take k)))::F) ?_;refine ae 0 ?_;refine ae 1 ?_;refine ae 2 ?_;refine ae 4 ?_;refine ae 5 ?_;refine aU 6 rfl (SD underlying9 rfl rfl rfl aa) (aA 3 (b8 rfl rfl (jj (qP ((t::r).getD k []) (r.getD k [])) aa) λCf Cq=>aA 7 (b8 rfl rfl (My ((r.getD k []).drop (qP ((t::r).getD k []) (r.getD k []))) ly) λMP MX=>aA 8 (cX rfl (aG fQ [_,_,_] rfl rfl cw aa aa) λRw=>aA 9 (b8 rfl rfl (yk (l:=fD t++iY t (r.take (k+1))) (P:=[(.slice A3 (E (fD t++iY t (r.take k))) c3,fD t++iY t (r.take k)),(.slice Cf (E (aS (qP ((t::r).getD k []) (r.getD k [])))) Cq,aS (qP ((t::r).getD k []) (r.getD k []))),(.slice MP (E (fD ((r.getD k []).drop (qP ((t::r).getD k []) (r.getD k []))))) MX,fD ((r.getD k []).drop (qP ((t::r).getD k []) (r.getD k []))))]) aB aqw rfl (by rw[GW t r k aa];simp[eF.all,bX]) (by rw[aX];have:=sn t (r.take (k+1)) (λs hs=>wS s (lU _ (my hs)));rw[eY]at this;omega) ak) λxc yb=>?_)))));refine ae 10 ?_;refine cP [0,3,12,13,14] ?_;refine bB ?_;refine av ⟨_,aa,k+1,xc,yb,aa,rfl,bp,.cons (.s4 (.refl _))⟩
 ·refine cF ?_;obtain rfl:k=E r:=by omega
  rw[ki];refine aF ?_;exact⟨A3,c3,rfl,rfl⟩
theorem aqK{P:Prop}(h:P:=by(show(ad.add (i*sz)).block<_;unfold Addr.add;split<;>exact h4)):P:=h
theorem b_2{P:Prop}(h:P:=by(first|rfl|exact dS (by first|exact .inl (by omega)|exact .inr (.inl (by omega))|exact⟨λh=>.inr (.inr h),λh=>by rcases h with h|h|h<;>first|omega|exact h⟩)|exact dR (by first|exact .inl (by omega)|exact .inr (.inl (by omega))|exact⟨λh=>.inr (.inr h),λh=>by rcases h with h|h|h<;>first|omega|exact h⟩)|exact dG (by first|exact .inl (by omega)|exact .inr (.inl (by omega))|exact⟨λh=>.inr (.inr h),λh=>by rcases h with h|h|h<;>first|omega|exact h⟩)|exact kr (by first|exact .inl (by omega)|exact .inr (.inl (by omega))|exact⟨λh=>.inr (.inr h),λh=>by rcases h with h|h|h<;>first|omega|exact h⟩))):P:=h
theorem aqz{P:Prop}(h:P:=by(have:=(ky.1 hw.apart).1 _ r_;subst e;rcases this with h|h<;>simp[Ch.fp]at h)):P:=h
theorem aqA{P:Prop}(h:P:=by(intro y hy;simp only[fj,mV,oU]at hy;rcases hy with rfl|rfl<;>exact aB)):P:=h
def ck(l:List cm)(sz i:Nat):List cm:=(l.drop (i*sz)).take sz
def lS(l:List cm)(sz:Nat)(ks:bf):al:=ks.flatMap λi=>aS (E (dH (ck l sz i)))
def jq(l:List cm)(sz:Nat)(ks:bf):al:=ks.flatMap λi=>dH (ck l sz i)
def fY(sz:Nat)(l:List cm):al:=(aS (E l)++lS l sz (List.range (h_ sz (E l))))++jq l sz (List.range (h_ sz (E l)))
theorem Ss(l:List cm)(sz i:Nat):E (ck l sz i)=yc sz (E l) i:=by simp[ck,yc]
theorem lF.le{l:List cm}(h:lF l):∀s∈l,E s<=25:=λs hs=>by
 obtain⟨i,hi,rfl⟩:=ke hs;have:=(h.1 i hi).2.1
 rwa [ba,fc hi]at this
theorem AP{l:List cm}{sz i:Nat}{s:cm}(h:s∈ck l sz i):s∈l:=r8 (my h)
theorem uy{l:List cm}(hl:E l<=64)(h:∀s∈l,E s<=25):E (dH l)<=3000:=by
 cases l with
 |nil=>simp[dH]
 |cons t r=>
  have h1:=sn t r (λs hs=>h s (by simp[hs]));have h2:=yQ (s:=t) (by have:=h t ak;omega);have h3:=h t ak;have:E r*45<=64*45:=ph _ (by simp at hl;omega);rw[dH,aX];omega
theorem vG{l:List cm}{sz:Nat}(jg:sz<=64)(h:∀s∈l,E s<=25):∀ks:bf,E (jq l sz ks)<=E ks*3000
 |[]=>by simp[jq]
 |k::ks=>by
  have h1:=vG jg h ks;have h2:=uy (l:=ck l sz k) (by rw[Ss];unfold yc;omega) (λs hs=>h s (AP hs));simp only[jq,ka,aX,dI,kH]at h1⊢;omega
theorem rP{l:List cm}{sz:Nat}(jg:sz<=64)(h:∀s∈l,E s<=25):∀ks:bf,E (lS l sz ks)<=E ks*10
 |[]=>by simp[lS]
 |k::ks=>by
  have h1:=rP jg h ks;have h2:=uy (l:=ck l sz k) (by rw[Ss];unfold yc;omega) (λs hs=>h s (AP hs));have h3:E (aS (E (dH (ck l sz k))))<=10:=aV aa;simp only[lS,ka,aX,dI,kH]at h1⊢;omega
theorem Ef(l:List cm)(sz:Nat)(ks:bf)(k:Nat):jq l sz (ks++[k])=jq l sz ks++dH (ck l sz k):=by simp[jq]
theorem Tk(l:List cm)(sz:Nat)(ks:bf)(k:Nat):lS l sz (ks++[k])=lS l sz ks++aS (E (dH (ck l sz k))):=by simp[lS]
theorem Md{q:Ch}{e:TypeId}{size n c:Nat}{A:bk}{xs:cZ}{L:aR}(h:q.isObj=true):q∈Ch.own e size A n c xs::L↔q∈L:=
 ⟨λhm=>(fj.1 hm).resolve_left λe=>(by rw[e]at h;cases h),λhm=>lU _ hm⟩
theorem Mc{q:Ch}{g:Nat}{t:TypeId}{xs:cZ}{L:aR}(h:q.isObj=true):q∈Ch.bG g t xs::L↔q∈L:=
 ⟨λhm=>(fj.1 hm).resolve_left λe=>(by rw[e]at h;cases h),λhm=>lU _ hm⟩
theorem Zg{X:List cm}{c:Nat}(oh:X≠[])(hb:aM B w0 F 1 (.slice A (E X) c) (E X) (strs X))(hl:E X<=64)(wS:∀s∈X,E s<=25):
  aZ B w0 149 [.slice A (E X) c] F (λv L=>∃A' c',v= .slice A' (E (dH X)) c'∧L= .own 5 1 A' (E (dH X)) c' (bv (dH X))::F):=by
 cases X with
 |nil=>exact absurd rfl oh
 |cons t r=>exact acV hb (by simp at hl;omega) wS
theorem anr{l:List cm}(hb:aM B w0 F 1 (.slice A (E l) c) (E l) (strs l)){sz i:Nat}(hi:i*sz<E l):aM B w0 F 1 (.slice (A.map (·.add (i*sz))) (E (ck l sz i)) (E (ck l sz i))) (E (ck l sz i)) (strs (ck l sz i)):=λw hs=>by
 obtain⟨A',c',e,h1,h2,h3⟩:=hb w hs;obtain⟨rfl,_,rfl⟩:A=A'∧True∧c=c':=by injection e with a b d;exact⟨a,trivial,d⟩
 obtain⟨ad,rfl,h4,h5⟩:=h3 aa;refine⟨_,_,rfl,gC _,ak,λ_=>⟨_,rfl,aqK,λj u hu=>?_⟩⟩;have hu':(strs l)[i*sz+j]? =some u:=by
  unfold ck strs at hu;unfold strs;rw[jw]at hu⊢;rw[If]at hu;split at hu
  ·rw[k_7]at hu;exact hu
  ·cases hu
 have:=h5 _ _ hu';show w.cell? ((ad.add (i*sz)).add j)=some u;rw[l_];exact this
theorem SI{size:Int}{l:List cm}(hb:aM B w0 F 1 (.slice A (E l) c) (E l) (strs l))(hl:E l<=1000000000000000)(hE:size<1∨64<size∨¬lF l):
  aZ B w0 87 [ah size,.slice A (E l) c] F (λr L=>∃A' c',r= .tuple #[.slice A' 0 c',ah 13]∧L= .own 5 1 A' 0 c' []::F):=by
 refine yU func87 44 rfl rfl rfl [(0,ah size),(1,.slice A (E l) c)] ⟨⟨rfl,rfl⟩,⟨rfl,rfl⟩,trivial⟩ ?_;refine rB ?_;refine b7 ?_;refine l9 ?_;refine rB ?_;refine bc ?_;refine bR 11 20 [0,1] (size<1∨64<size∨¬lF l) ?_ ?_
 ·refine bE ?_;refine aI rfl rfl rfl (λnY=>?_) (λnY=>?_)
  ·refine bF ?_;refine aI rfl rfl rfl (λlf=>?_) (λlf=>?_)
   ·refine bc ?_;refine ai rfl (Oh hb hl) (bE ?_);exact aL b_2
   ·refine bE ?_;exact aL b_2
  ·refine bI ?_;exact aL b_2
 ·refine bc ?_;refine aj (λju=>?_) λju=>?_
  ·refine bI ?_;refine apH rfl ?_;refine aC 5 1 none (aF ?_);exact⟨none,0,rfl,rfl⟩
  ·exfalso;exact ju hE
theorem ZG{sz:Nat}{l:List cm}(hb:aM B w0 F 1 (.slice A (E l) c) (E l) (strs l))(hlc:E l<=c)(lK:1<=sz)(j_:sz<=64)(hR:lF l):
  aZ B w0 87 [ah sz,.slice A (E l) c] F (λr L=>∃A' c',r= .tuple #[.slice A' (E (fY sz l)) c',ah 0]∧L= .own 5 1 A' (E (fY sz l)) c' (bv (fY sz l))::F):=by
 have hlen:=hR.2;have wS:=hR.le;have hNl:h_ sz (E l)<=1048639:=by
  unfold h_;exact jz (rY _ _) aa
 have Da:E (aS (E l))<=10:=aV aa;refine yU func87 44 rfl rfl rfl [(0,ah sz),(1,.slice A (E l) c)] ⟨⟨rfl,rfl⟩,⟨rfl,rfl⟩,trivial⟩ ?_;refine rB ?_;refine b7 ?_;refine l9 ?_;refine rB ?_;refine bc ?_;refine bR 11 20 [0,1] ((sz:Int)<1∨64<(sz:Int)∨¬lF l) ?_ ?_
 ·refine bE ?_;refine aI rfl rfl rfl (λnY=>?_) (λnY=>?_)
  ·refine bF ?_;refine aI rfl rfl rfl (λlf=>?_) (λlf=>?_)
   ·refine bc ?_;refine ai rfl (Oh hb aa) (bE ?_);exact aL b_2
   ·refine bE ?_;exact aL b_2
  ·refine bI ?_;exact aL b_2
 ·refine bc ?_;refine aj (λju=>?_) λju=>?_
  ·exfalso;rcases ju with h|h|h<;>first|omega|exact h hR
  ·refine aF ?_;refine l9 ?_;refine rB ?_;refine b7 ?_;refine ay rfl (jj (E l) aa) λAD Dr=>bh λg6=>?_;refine bc ?_;refine l9 ?_;refine rB ?_;refine a_ 5 1 none (aF ?_);refine bh λg7=>?_;refine aF ?_;refine l9 ?_;refine MG ?_;refine bE ?_;refine ay rfl (aiO lK) λg2 g3=>aF ?_;refine l9 ?_;refine G9 (N:=h_ sz (E l)) arh rfl rfl rfl (λi:Fin (h_ sz (E l))=>HJ A sz (E l) i.val) (λxs=>xs.map (·.val)=List.range (h_ sz (E l))) (λ_=>True) [.bG g2 87 [.slice A (E l) c],.bG g3 3 [ah sz]]
    (λw hw=>NY lK aa aa hlc (λe=>aqz) w (hw.all _ (lU _ r_)) (hw.all _ r_))
    (λ(_:List (Fin (h_ sz (E l)))) (_:bk×Nat×bk×Nat)=>True) (λpre s=>.bG g3 3 [ah sz]:: .bG g2 87 [.slice A (E l) c]:: .bG g7 27 [.slice s.1 (E (jq l sz (pre.map (·.val)))) s.2.1]:: .own 5 1 s.1 (E (jq l sz (pre.map (·.val)))) s.2.1 (bv (jq l sz (pre.map (·.val)))):: .bG g6 27 [.slice s.2.2.1 (E (aS (E l)++lS l sz (pre.map (·.val)))) s.2.2.2]:: .own 5 1 s.2.2.1 (E (aS (E l)++lS l sz (pre.map (·.val)))) s.2.2.2 (bv (aS (E l)++lS l sz (pre.map (·.val))))::F)
    (λpre s q hq=>by simp only[Md hq,Mc hq]) (λq hq=>by
     simp only[fj,mV,oU]at hq;rcases hq with rfl|rfl
     ·exact⟨rfl,λpre s=>lU _ r_⟩
     ·exact⟨rfl,λpre s=>r_⟩)
    (none,0,AD,Dr) trivial (.cons (.cons (bw (by simp[jq]) (az (by simp[jq]) (by simp[jq]) (bw (by simp[lS]) (az (by simp[lS]) (by simp[lS]) (.refl _))))))) ?_ ?_
   ·rintro l' pre x ⟨A7,c7,A6,c6⟩ w1 _ mP aeo F';have hxn:x.val*sz<E l:=(oF lK).1 x.isLt;have hbx:=((anr hb hxn).later aeo).mono (wD F F');have hX:=Ss l sz x.val;have hXE:yc sz (E l) x.val<=64:=by unfold yc;omega
    have hX1:1<=yc sz (E l) x.val:=by unfold yc;omega
    have hvX:HJ A sz (E l) x.val= .slice (A.map (·.add (x.val*sz))) (E (ck l sz x.val)) (E (ck l sz x.val)):=by unfold HJ;rw[hX]
    have hB1:=vG j_ wS (pre.map (·.val));have hH1:=rP j_ wS (pre.map (·.val));rw[dX]at hB1 hH1;have di:=uy (l:=ck l sz x.val) aa (λs hs=>wS s (AP hs));have hsB:=Ef l sz (pre.map (·.val)) x.val;have hsH:=Tk l sz (pre.map (·.val)) x.val;have hmp:(pre++[x]).map (·.val)=pre.map (·.val)++[x.val]:=by simp
    simp only[mX,hvX,hmp,hsB,hsH];have au7:ck l sz x.val≠[]:=λe=>by rw[e]at hX;simp at hX;omega
    have auz:∀s∈ck l sz x.val,E s<=25:=λs hs=>wS s (AP hs);generalize ck l sz x.val=X at*;generalize A.map (·.add (x.val*sz))=A8 at*;generalize jq l sz (pre.map (·.val))=bd at*;generalize lS l sz (pre.map (·.val))=hd at*;have Jy:E (aS (E l)++hd)=E (aS (E l))+E hd:=aX;have hbn:E (aS (E (dH X)))<=10:=aV aa;refine Ha ?_;refine MH ?_;refine nN ag ?_;refine aF ?_;refine ay rfl (Zg au7 aB aa auz) λRW c30=>bc ?_;refine nq ?_;refine MH ?_;refine alD (S:=F++F') ag ag gD ?_;refine ae 1 ?_;refine ae 2 ?_;refine ae 3 ?_;refine ib 0 4 ?_ ?_
    ·refine aF ?_;refine aA 4 (b8 rfl rfl (jj (E (dH X)) aa) λCg Zh=>aA 5 (fi rfl (bW cB rfl aW rfl aB cw aa aa) λA36 c36=>?_));refine aA 6 (aF ?_);refine cP [7,9] ?_;refine nq ?_;refine nN ag ?_;refine bc ?_;refine fK (bW cB rfl aW rfl aB cw aa aa) λA39 c39=>bc ?_;refine nq ?_;exact⟨(A39,c39,A36,c36),trivial,.s2 (.cons (.cons (bw ak (az ak ak (bw (by simp[Pk]) (az (by simp[Pk]) ak (.refl _)))))))⟩
    ·refine b8 rfl rfl (jj (E (dH X)) aa) λCg Zh=>aA 0 (aF ?_);refine aA 5 (fi rfl (bW cB rfl aW rfl aB cw aa aa) λA36 c36=>?_);refine aA 6 (aF ?_);refine cP [7,9] ?_;refine nq ?_;refine nN ag ?_;refine bc ?_;refine fK (bW cB rfl aW rfl aB cw aa aa) λA39 c39=>bc ?_;refine nq ?_;exact⟨(A39,c39,A36,c36),trivial,.s2 (.cons (.cons (bw ak (az ak ak (bw (by simp[Pk]) (az (by simp[Pk]) ak (.refl _)))))))⟩
   ·rintro D xs ⟨A7,c7,A6,c6⟩ hS _;have hB1:=vG j_ wS (xs.map (·.val));have hH1:=rP j_ wS (xs.map (·.val));rw[hS]at hB1 hH1;rw[uR]at hB1 hH1;simp only[hS];have hBl:E (fY sz l)<=10000000000:=by
     have:=ph 3000 hNl;have:=ph 10 hNl;unfold fY;rw[aX,aX];omega
    refine ahV ?_;refine bc ?_;refine cC (aG fQ [_,_] rfl rfl cw aa aa) λA42=>ay rfl (yk (l:=fY sz l) (P:=[(.slice A6 (E (aS (E l)++lS l sz (List.range (h_ sz (E l))))) c6,aS (E l)++lS l sz (List.range (h_ sz (E l)))),(.slice A7 (E (jq l sz (List.range (h_ sz (E l))))) c7,jq l sz (List.range (h_ sz (E l))))]) aB aqA rfl (by simp[eF.all,fY]) aa ak) λMS c43=>bE ?_;refine nq ?_;refine ahU rfl ((BQ (fV (fV (.refl _))))) ?_;refine aq (L':=.own 5 1 MS (E (fY sz l)) c43 (bv (fY sz l))::F) (.cons (.s7 (.refl _))) (aF ?_);exact⟨MS,c43,rfl,rfl⟩
section
section
variable{C:Cx}{fr:Fr}{L:aR}{f:Ch->aR}{x:Operand}{t ty e:TypeId}{A:bk}{n c:Nat}{xs:cZ}
theorem Lf(ht:C.P.underlying t=some (.slice e))(hu:C.P.underlying e=some (.int .u8))(he:ev fr x=some (.slice A n c))(hm:na (.own e 1 A n c xs) L f)(hc:1<=n):
  q8 C fr L (.convert t t x) ty (λv L'=>∃g cur k,v= .slice A n c∧A=some ⟨g,0,none⟩∧n<=c∧cur.toList.take n=xs∧E xs=n∧L'=f (.obj g (.cells cur e k))):=λa w ha hw d pos af gg=>by
 obtain⟨h1,h2,h3⟩:=hw.all _ hm.mem;obtain⟨g,cur,rfl,k1,k2,k3,k4,k5⟩:=h3.resolve_left aa;have hsh:w.shape? g=some (e,cur.size):=by unfold World.shape?;rw[k2]
 have fN:g<w.heap.size:=(k_3.1 k2).1;have tU:(convert t t (.slice (some ⟨g,0,none⟩) n c)).run C.P w= .ok (.slice (some ⟨g,0,none⟩) n c) (w.freeze ⟨g,cur.size,none⟩ 1):=by
  simp[convert,jk ht,jk hu,markStringish,hsh]
 have Jr:(w.freeze ⟨g,cur.size,none⟩ 1).heap[g]? =some (.cells cur e (cur.size,cur.size+1)):=by
  unfold World.freeze;rw[aw ax];show(w.heap.modify g _)[g]? =_;rw[Array.getElem?_modify,ao rfl,k2];rfl
 have hgr:w.grownBy (w.freeze ⟨g,cur.size,none⟩ 1) (some g):=by
  unfold World.freeze;rw[aw ax];refine⟨rfl,rfl,rfl,ak,λk hk oh=>?_⟩;show(w.heap.modify g _)[k]? =_;rw[Array.getElem?_modify,aw (λe=>oh yo)]
 have RO:(Ch.own e 1 (some ⟨g,0,none⟩) n c xs).fp=some g:=by simp[Ch.fp,show¬c=0 by omega]
 refine⟨_,w.freeze ⟨g,cur.size,none⟩ 1,_,.inl ?_,⟨g,cur,(cur.size,cur.size+1),rfl,rfl,h2,by rw[cH]at k5;exact k5,aa,rfl⟩,hw.RV hm (by rw[RO];exact hgr) (λ_=>⟨k1,Jr⟩) (.inr (.inl RO.symm))⟩;simp[execOp,ha.tmp he,tU]
theorem aM.obj{B:Nat}{w0:World}{g:Nat}{cur:Array Value}{k:Nat×Nat}(h:Ch.obj g (.cells cur e k)∈L)(h2:n<=c)(hx:cur.toList.take n=xs)(hl:E xs=n):aM B w0 L 1 (.slice (some ⟨g,0,none⟩) n c) n xs:=λw hs=>by
 have hh:=(hs.all _ h).2;refine⟨_,_,rfl,h2,aa,λ_=>⟨_,rfl,(k_3.1 hh).1,λj u hu=>?_⟩⟩;rw[Bu,lV,cell_of_row w g j cur e k hh];rw[<-hx,If]at hu;split at hu
 ·simpa using hu
 ·cases hu
end
end
def grT(l:List cm):Prop:=300<E l∨∃i,i<E l∧60<E (l.getD i [])
instance (l:List cm):Decidable (grT l):=inferInstanceAs (Decidable (_∨_))
theorem aqC{P:Prop}(h:P:=by(first|(exact⟨λh=>absurd h (by omega),False.elim⟩)|omega|(simp at h7;done))):P:=h
abbrev Wr(g:Nat)(bt:TypeId)(A:bk)(c:Nat)(q:List Bool)(F:aR):aR:=.bG g bt [.slice A (E (packed q)) c,ah (E q)]:: .own 5 1 A (E (packed q)) c (bv (packed q))::F
theorem as7(q:List Bool)(v:Nat)(hv:v<18446744073709551616)(n:Nat)(hn:n<=64)(hp:v<2^n)(hq:E q<=7000000):
  aZ B w0 153 [br g,.int .u64 v,ah n] (Wr g bt A c q F)
   (λr L=>r=ah 0∧∃A' c',L=Wr g bt A' c' (q++hi v n n) F):=by
 refine fw func153 42 [0,1,2] ?_;refine bK ?_;refine bR 20 27 [0,1,2] (False) ?_ ?_
 ·refine bO ?_;refine aI rfl rfl rfl (λku=>?_) (λku=>?_)
  ·refine bF ?_;refine aI rfl rfl rfl (λiC=>?_) (λiC=>?_)
   ·refine bF ?_;refine cD (λmx=>?_) λmx=>?_
    ·refine b7 ?_;refine ab (dv rfl rfl aa (GK v (e:=n) rfl aa)) rfl (bF ?_);exact aL aqu
    ·refine bB ?_;exact aL (by rfl)
   ·refine bK ?_;exact aL aip
  ·refine cF ?_;exact aL aip
 ·refine bc ?_;refine dw λkG=>?_;refine de ?_;refine aD (λzf zL zm=>∃(m:Nat) (A':bk) (c':Nat),(m<=n)∧n-m=zm∧Sub zf [(0,br g),(1,.int .u64 v),(7,ah ((n:Int)-m-1))]∧Wk zL (Wr g bt A' c' (q++hi v n m) F)) _ ⟨0,A,c,bU _,rfl,bp,bw IJ (az IJ IJ (.refl _))⟩ ?_;rintro _ _ _ ⟨m,A',c',hm,rfl,hs,hp⟩;refine aT hs hp ?_;clear hs hp;have xB:E (q++hi v n m)=E q+m:=by rw[aX,dT]
  refine bI ?_;refine aj (λC_=>?_) λC_=>?_
  ·refine b7 ?_;refine cE F ?_;refine ae 0 ?_;refine ae 1 ?_;refine ae 2 ?_;refine ae 3 ?_;refine ae 4 ?_;refine aU 5 rfl (dv rfl rfl aa (GK v (e:=n-1-m) aa aa)) (aU 6 rfl (kE rfl rfl (Yg v _ hv)) (aA 7 (gN rfl .no Wm rfl (acs (q++hi v n m) (v.testBit (n-1-m)) aa) rfl aqX ?_)));rintro _ _ ⟨rfl,VA,c41,cO⟩;obtain rfl:=cO.symm;refine bK ?_;refine av ⟨_,aa,m+1,VA,c41,aa,rfl,bp,bw IK (az IK IK (.refl _))⟩
  ·refine cF ?_;have hm':m=n:=by omega
   subst hm';exact⟨rfl,A',c',rfl⟩
theorem alx(q:List Bool)(n:Nat)(hn:n<=100000)(hq:E q<=7000000):
  aZ B w0 154 [br g,ah n] (Wr g bt A c q F)
   (λr L=>r=ah 0∧∃A' c',L=Wr g bt A' c' (q++un n) F):=by
 refine fw func154 27 [0,1] ?_;refine bK ?_;refine bR 10 14 [0,1] (False) ?_ ?_
 ·refine bO ?_;refine aI rfl rfl rfl (λpg=>?_) (λpg=>?_)
  ·refine b7 ?_;exact aL (by exact dG aqC)
  ·refine bc ?_;exact aL (by exact dS aqC)
 ·refine bc ?_;refine dw λku=>?_;refine bz ?_;refine aD (λzf zL zm=>∃(m:Nat) (A':bk) (c':Nat),(m<=n)∧n-m=zm∧Sub zf [(0,br g),(15,ah n),(16,ah m)]∧Wk zL (Wr g bt A' c' (q++List.replicate m false) F)) _ ⟨0,A,c,bU _,rfl,bp,bw (by rw[Pw,gl]) (az (by rw[Pw,gl]) (by rw[Pw,gl]) (.refl _))⟩ ?_;rintro _ _ _ ⟨m,A',c',hm,rfl,hs,hp⟩;refine aT hs hp ?_;have xB:E (q++List.replicate m false)=E q+m:=by rw[aX,za]
  refine bB ?_;refine aj (λiI=>?_) λiI=>?_
  ·refine bK ?_;refine be Wm rfl (acs (q++List.replicate m false) false aa) rfl ?_;rintro _ _ ⟨rfl,A21,c21,cO⟩;obtain rfl:=cO.symm;refine bI ?_;refine av ⟨_,aa,m+1,A21,c21,aa,rfl,bp,bw (by rw[Gy,bX]) (az (by rw[Gy,bX]) (by rw[Gy,bX]) (.refl _))⟩
  ·refine bz ?_;refine be Wm rfl (acs (q++List.replicate m false) true aa) rfl ?_;rintro _ _ ⟨rfl,tQ,Cp,cO⟩;obtain rfl:=cO.symm;refine bO ?_;have hm':m=n:=by omega
   subst hm';exact⟨rfl,tQ,Cp,by rw[bX];rfl⟩
theorem aiJ(q:List Bool)(hq:E q<=8000000):aZ B w0 155 [br g] (Wr g bt A c q F) (λr L=>∃A' c',r= .slice A' (E (packed q)) c'∧L= .own 5 1 A' (E (packed q)) c' (bv (packed q))::Wr g bt A c q F):=by
 have mP:=dO q;refine fw func155 11 [0] ?_;refine E' ?_;refine ay rfl (mG (packed q) aB aa) λwJ Ej=>bF ?_;exact⟨wJ,Ej,rfl,rfl⟩
end Go.Proofs.YtaodmbolhoafcaaGreatDoor
