/-
  Texts of one proof, joined: part 2. No condition.
-/
import Derived.Test.YtaodmbolhoafcaaGreatDoorZv1
import Derived.OrdersHeld
import Derived.Deep.RegionHeld3
import Derived.Lib.SliceRun
import Derived.Laws.CopyRow
import Derived.Laws.IdiomCopy
import Derived.Laws.StructEq
import Derived.Test.YtaodmbolhoafcaaGreatDoorProg
import Derived.WalkKit
import Derived.Laws.BitsAllLaws
import Derived.Laws.BitsLemmas
open List renaming length→E
open Go.RowKit Go.Proofs.Tryz
namespace Go.Proofs.YtaodmbolhoafcaaGreatDoor
set_option linter.unusedVariables false
set_option linter.unusedSimpArgs false
set_option maxRecDepth 20000
variable{l:aq}{s:Nat}{L L':aN}{a0:Ch}{P:Prop}{size:Nat}{a1:Ch}{j:Nat}{R:oV}{a2:Ch}{p:Prop}{zv:Value}{m nn n i:Nat}{a3:Ch}{N:Nat}{cs:cQ}{bytes q:Nat}{ff:FuncId}{kk:Nat}{us:cQ}{a4:Ch}{id:Nat}{b:Bool}{parts:List (Nat×Operand)}{fn:Func}{args:cQ}{a5:Ch}{L1:aN}{base:Fr}{a:Ch}{B:Nat}{w0:World}{F:aN}{A:bh}{c:Nat}
section
section
variable{C:Cx}{Q:Exit->Fr->aN->Prop}{fr jD:Fr}{L L' S:aN}{ops:Array Oper}{op:Op}{ty:TypeId}{pos:String}{af:Array Edge}{d:Nat}{v:Value}{fuel:Nat}{li:Array Bool}
theorem qi(h:P:=by(simpa using h2)):P:=h
theorem H6(h:P:=by(rw[e];rfl)):P:=h
theorem ML(h:P:=by(rw[C1,mH];exact Dy hw hm hj)):P:=h
theorem kT:type_of% @List.mem_singleton:= @List.mem_singleton
theorem ei:type_of% @List.length_cons:= @List.length_cons
theorem rM:type_of% @Nat.add_zero:= @Nat.add_zero
theorem KX:type_of% @List.map_set:= @List.map_set
theorem qS:type_of% @List.drop_zero:= @List.drop_zero
theorem Hm:type_of% @beq_iff_eq:= @beq_iff_eq
def VH(C:Cx)(ops:Array Oper)(S:aN)(Q:Exit->Fr->aN->Prop)(fuel:Nat)(li:Array Bool)(fr:Fr)(L:aN):Prop:=
 ∀a w,pn C.N fr a->SL C.B C.w0 L w->SL C.B C.w0 S w->wpAnyH C.P .any ops (NoPanic (lift C Q)) (SL C.B C.w0 S) fuel li a w
theorem JR{l:sg}(hm:C.P.follows .mixedOrders=true)(hS:S.Sublist L)(h:VH C l.toArray S Q l.toArray.size (Array.replicate l.toArray.size false) fr L):VC C (.region id l.toArray true) Q fr L:=λa w ha hw=>
 wp_region_noPanic (wp_region_held hm (h a _ ha (hw.drewN 1) ((hw.drewN 1).sub hS)))
theorem L9(i:Nat)(ho:ops[i]? =some ⟨some d,op,ty,pos,af,none⟩)(hs:Region.noSelect ops=true)(hf:Region.free .any ops li i=true)(hr:(Region.ready .any ops li).contains i=true)(h:gX C fr S op ty v)(hd:Nat.blt d C.N=true)(k:VH C ops S Q fuel (li.setIfInBounds i true) ((d,v)::fr) L):VH C ops S Q (fuel+1) li fr L:=λa w ha hw hS=>
 wpAnyH_take ho hs hf hr (λ_ _ _ h=>h) (.inl ⟨rfl,λw hw=>h a w ha hw _ _ _ _⟩) hS (k _ w (ha.put hd v) hw hS)
theorem jx(i:Nat){t:Nat}{want:Bool}(ho:ops[i]? =some ⟨some d,op,ty,pos,af,some (j,want)⟩)(hs:Region.noSelect ops=true)(hf:Region.free .any ops li i=true)(hr:(Region.ready .any ops li).contains i=true)(hj:(ops[j]?).bind (·.dst)=some t)(ht:look t fr=some (.bool want))(h:gX C fr S op ty v)(hd:Nat.blt d C.N=true)(k:VH C ops S Q fuel (li.setIfInBounds i true) ((d,v)::fr) L):VH C ops S Q (fuel+1) li fr L:=λa w ha hw hS=>
 wpAnyH_take ho hs hf hr (λ_ _ _ h=>h) (.inl ⟨abK,λw hw=>h a w ha hw _ _ _ _⟩) hS (k _ w (ha.put hd v) hw hS)
theorem iU(i:Nat){t:Nat}{want:Bool}(ho:ops[i]? =some ⟨some d,op,ty,pos,af,some (j,want)⟩)(hs:Region.noSelect ops=true)(hf:Region.free .any ops li i=true)(hr:(Region.ready .any ops li).contains i=true)(hj:(ops[j]?).bind (·.dst)=some t)(ht:look t fr=some (.bool b))(hb:(b==want)=false)(hd:Nat.blt d C.N=true)(k:VH C ops S Q fuel (li.setIfInBounds i true) ((d,undef)::fr) L):VH C ops S Q (fuel+1) li fr L:=λa w ha hw hS=>
 wpAnyH_take ho hs hf hr (λ_ _ _ h=>h) (.inr ⟨amx,rfl⟩) hS (k _ w (ha.put hd _) hw hS)
theorem agR(t:Nat)[Decidable p](ht:look t fr=some (.bool (decide p)))(k1:p->VH C ops S Q fuel li ((t,.bool true)::fr) L)(k2:¬p->VH C ops S Q fuel li ((t,.bool false)::fr) L):VH C ops S Q fuel li fr L:=λa w ha hw hS=>by
 by_cases hp:p
 ·exact k1 hp a w (ha.bool ht (pK hp)) hw hS
 ·exact k2 hp a w (ha.bool ht (oi hp)) hw hS
def Step(C:Cx)(ops:Array Oper)(S:aN)(Q:Exit->Fr->aN->Prop)(fuel:Nat)(li:Array Bool)(fr:Fr)(L:aN)(i:Nat):Prop:=
 ∀a w,pn C.N fr a->SL C.B C.w0 L w->SL C.B C.w0 S w->wpOp C.P ops (NoPanic (lift C Q)) i (λa' w'=>SL C.B C.w0 S w'/\wpAnyH C.P .any ops (NoPanic (lift C Q)) (SL C.B C.w0 S) fuel (li.setIfInBounds i true) a' w') a w
theorem aoV(i:Nat)(hr:Region.ready .any ops li=[i])(h:Step C ops S Q fuel li fr L i):VH C ops S Q (fuel+1) li fr L:=λa w ha hw hS=>
 wpAnyH_all hr ao λj hj=>by rw[kT.1 hj];exact h a w ha hw hS
theorem aoW(i j:Nat)(hr:Region.ready .any ops li=[i,j])(h1:Step C ops S Q fuel li fr L i)(h2:Step C ops S Q fuel li fr L j):VH C ops S Q (fuel+1) li fr L:=λa w ha hw hS=>
 wpAnyH_all hr ao λk hk=>by
  rcases fq.1 hk with rfl|hk
  ·exact h1 a w ha hw hS
  ·rw[kT.1 hk];exact h2 a w ha hw hS
inductive Gd(ops:Array Oper)(fr:Fr):Option (Nat×Bool)->Prop where
 |no:Gd ops fr none
 |yes {j t:Nat} {want:Bool} (hj:(ops[j]?).bind (·.dst)=some t) (ht:look t fr=some (.bool want)):Gd ops fr (some (j,want))
theorem Gd.wanted{g:Option (Nat×Bool)}{dd:Option Tmp}{a:Act}{N:Nat}(h:Gd ops fr g)(ha:pn N fr a):Region.wanted ⟨dd,op,ty,pos,af,g⟩ (yielded ops a.tmps)=true:=by
 cases h with
 |no=>rfl
 |yes hj ht=>rw[tb hj (ha.at_ _ _ ht)];simp
theorem Uf{i:Nat}{g:Option (Nat×Bool)}(ho:ops[i]? =some ⟨some d,op,ty,pos,af,g⟩)(hg:Gd ops fr g)(h:ra C fr L op ty R)(hd:Nat.blt d C.N=true)(hS:∀v L',R v L'->S.Sublist L')(k:∀v L',R v L'->VH C ops S Q fuel (li.setIfInBounds i true) ((d,v)::fr) L'):Step C ops S Q fuel li fr L i:=λa w ha hw _=>by
 obtain⟨v,w',L',hr,hR,hs⟩:=h a w ha hw (some d) pos af g;unfold wpOp;simp only[ho];rw[av (hg.wanted ha)];refine .inl ?_;unfold Oper.wp;have jj:=hs.sub (hS v L' hR);rcases hr with hr|⟨hr,rfl⟩<;>rw[hr]<;>exact⟨jj,k _ _ hR _ _ (ha.put hd _) hs jj⟩
theorem ky{i:Nat}{g:Option (Nat×Bool)}(ho:ops[i]? =some ⟨none,op,ty,pos,af,g⟩)(hg:Gd ops fr g)(h:ra C fr L op ty R)(hS:∀v L',R v L'->S.Sublist L')(k:∀v L',R v L'->VH C ops S Q fuel (li.setIfInBounds i true) fr L'):Step C ops S Q fuel li fr L i:=λa w ha hw _=>by
 obtain⟨v,w',L',hr,hR,hs⟩:=h a w ha hw none pos af g;unfold wpOp;simp only[ho];rw[av (hg.wanted ha)];refine .inl ?_;unfold Oper.wp;have jj:=hs.sub (hS v L' hR);rcases hr with hr|⟨hr,rfl⟩<;>rw[hr]<;>exact⟨jj,k _ _ hR _ _ ha hs jj⟩
theorem gS{i:Nat}{ue:List Operand}{Dh:Array TypeId}{vs:cQ}{g:Option (Nat×Bool)}(ho:ops[i]? =some ⟨some d,.call {callee:=.value (.func ff),args:=ue.toArray,argTypes:=Dh},ty,pos,af,g⟩)(hg:Gd ops fr g)(hc:aK C.P ff)(he:AN fr ue=some vs)(h:dQ C.P C.B C.w0 ff vs L R)(hd:Nat.blt d C.N=true)(hS:∀v L',R v L'->S.Sublist L')(k:∀v L',R v L'->VH C ops S Q fuel (li.setIfInBounds i true) ((d,v)::fr) L'):Step C ops S Q fuel li fr L i:=λa w ha hw _=>by
 unfold wpOp;simp only[ho];rw[av (hg.wanted ha)];refine .inl ?_;unfold Oper.wp;rw[mz hc (fst:= #[]) (cap:= #[]) rfl,ha.AN he,Array.append_empty,Array.empty_append];refine KV (h w hw) λe w' ⟨v,L',he,hR,hs⟩=>?_;subst he;have jj:=hs.sub (hS v L' hR);exact⟨jj,k _ _ hR _ _ (ha.put hd _) hs jj⟩
theorem iP{i:Nat}{g:Option (Nat×Bool)}(ho:ops[i]? =some ⟨some d,op,ty,pos,af,g⟩)(hg:Gd ops fr g)(h:gX C fr L op ty v)(hd:Nat.blt d C.N=true)(hS:S.Sublist L)(k:VH C ops S Q fuel (li.setIfInBounds i true) ((d,v)::fr) L):Step C ops S Q fuel li fr L i:=λa w ha hw _=>by
 unfold wpOp;simp only[ho];rw[av (hg.wanted ha)];refine .inl ?_;unfold Oper.wp;rw[h a w ha hw];exact⟨hw.sub hS,k _ _ (ha.put hd _) hw (hw.sub hS)⟩
theorem akA(base:Fr)(hs:Sub fr base)(hr:Region.ready .any ops li=[])(h:Q .normal base L):VH C ops S Q fuel li fr L:=λa w ha hw _=>wpAnyH_done hr (show NoPanic (lift C Q) .normal a w from⟨base,L,ha.sub hs,hw,h⟩) _
def evp(fr:Fr):Nat->List (Nat×Operand)->Option (cQ)
 |_,[]=>some []
 |k,(i,x)::r=>bif Nat.beq i k then (match ev fr x,evp fr (k+1) r with
  |some v,some vs=>some (v::vs)
  |_,_=>none) else none
theorem NZ{a:Act}{N:Nat}(ha:pn N fr a):∀(parts:List (Nat×Operand)) (k:Nat) (vs:cQ) (cells:Array Value),evp fr k parts=some vs->(∀u∈vs,u.oneCell'=true)->k+E vs<=cells.size->
  ∃out,Instr.fill (λi=>some (i*1,1)) cells (parts.map λp=>(p.1,a.eval p.2))=some out/\out.size=cells.size/\(∀j,j<k->out[j]? =cells[j]?)/\(∀j,j<E vs->out[k+j]? =vs[j]?)
 |[],k,vs,cells,h,_,_=>by
  simp[evp]at h;subst h;exact⟨cells,rfl,rfl,λ_ _=>rfl,λj hj=>absurd hj ao⟩
 |(i,x)::r,k,vs,cells,h,h1,hl=>by
  unfold evp at h;cases hb:Nat.beq i k with
  |false=>rw[hb]at h;cases h
  |true=>
   rw[hb]at h;have hik:=wB hb;subst hik;simp only[Hg]at h;split at h
   ·rename_i v vs' e1 e2;injection h with h;subst h;have S2:=h1 v ao;have hv:v.cells= #[v]:=by cases v<;>simp_all[Value.cells,Value.oneCell']
    simp only[ei]at hl;obtain⟨out,q1,q2,q3,q4⟩:=NZ ha r (i+1) vs' (cells.setIfInBounds i v) e2 (λu hu=>h1 u (by simp[hu])) bS;refine⟨out,?_,by simpa using q2,λj hj=>?_,λj hj=>?_⟩
    ·simp only[iN,ha.tmp e1,Instr.fill,hv];have:¬(cells.size<i+1):=by omega
     simp only[cH]at q1;simp[this,q1]
    ·rw[q3 j aa];simp[show¬i=j by omega]
    ·rcases j with _|j
     ·rw[rM,q3 i aa];simp[show i<cells.size by omega]
     ·have:=q4 j (by simpa using hj);rw[show i+(j+1)=i+1+j by omega,this];simp
   ·cases h
theorem aG{t e:TypeId}(T:tc C.P t e 1 bytes zv)(vs:cQ)(hp:evp fr 0 parts=some vs)(hk:E vs=kk)(h1:∀u∈vs,u.oneCell'=true)(sH:0<kk)(I0:kk<=1048576):
  ra C fr L (.buildSlice t kk parts.toArray) ty (λp L'=>∃A,p= .slice A kk kk/\L'= .own e 1 A kk kk vs::L):=λa w ha hw d pos af gg=>by
 obtain⟨i,hi,hz,iy,GF⟩:=T.hi;obtain⟨out,q1,q2,q3,q4⟩:=NZ ha parts 0 vs ((Array.range (kk*1)).map (zv.cells[· %zv.cells.size]!)) hp h1 bS;have au2:out=vs.toArray:=by
  apply Array.ext
  ·simp at q2;simp[q2,hk]
  ·intro j h1 h2;have:=q4 j qi;rw[mH,Array.getElem?_eq_getElem h1]at this;simp at h2;rw[fx h2]at this;simpa using this
 rw[au2]at q1;have Mu:¬(16777216<kk):=by omega
 have wQ:¬kk=0:=by omega
 refine⟨_,w.alloc (.cells vs.toArray e),_,.inl ?_,⟨some ⟨w.heap.size,0,none⟩,rfl,rfl⟩,hw.gZ (KW w _ none) ⟨by rw[hk,cH],ga _,.inr ⟨_,_,rfl,hw.base,EY w _,yd,by simp[hk],by simp[<-hk]⟩⟩ (.inr ⟨w.heap.size,by simp[Ch.fp,wQ],ga _⟩)⟩;simp only[cH]at q1;simp[execOp,Instr.buildSlice,jk T.ht,sizeOf,typeInfo,zeroValue,hi,hz,iy,Mu,wQ,newRow,q1]
section
variable{x y:Operand}{k:IntKind}{m:Int}{f:Ch->aN}{g o i:Nat}{bt t e:TypeId}{cs:cQ}
theorem aR(ht:C.P.underlying t=some (.array nn e))(hz:(C.P.info? e).map (·.size)=some 1)(he:ev fr x=some (.pointer (some ⟨g,o,none⟩)))(h2:ev fr y=some (.int k m))(hm:m=(i:Int))(hi:i<nn):
  gX C fr L (.indexAddr t x y) ty (.pointer (some ⟨g,o+i,none⟩)):=λa w ha hw d pos af gg=>by
 subst hm;simp[execOp,Instr.indexAt,Instr.sureAddr,asIntOf,ha.tmp he,ha.tmp h2,jk ht,hi,Hf hz,C1]
theorem fQ{b:List Int}{kk:IntKind}(hs:qQ C.P t=true)(he:ev fr x=some (.pointer (some ⟨g,0+i,none⟩)))(hm:m9 (.bI g bt (ints kk b)) L f)(hi:i<E b):gX C fr L (.load t x) ty (.int kk (b.getD i 0)):=
 bL hs he hm (by simp[ints,List.getD,fx hi])
theorem G1{b:List Int}{kk:IntKind}{n:Int}(hs:qQ C.P t=true)(he:ev fr x=some (.pointer (some ⟨g,0+i,none⟩)))(hv:ev fr y=some (.int kk n))(hm:m9 (.bI g bt (ints kk b)) L f)(hi:i<E b):
  ra C fr L (.store t x y) ty (λp L'=>L'=f (.bI g bt (ints kk (b.set i n)))):=λa w ha hw d pos af gg=>by
 obtain⟨v,w',L',h1,h2,h3⟩:=oX (ty:=ty) hs he hv rfl hm bS a w ha hw d pos af gg;refine⟨v,w',L',h1,?_,h3⟩;rw[h2];congr 2;simp[ints,KX]
theorem Eb(kk:Nat)(hs:pH C.P t kk=true)(he:ev fr x=some (bq g))(hm:m9 (.bI g bt cs) L f)(hk:E cs=kk):gX C fr L (.load t x) ty (.agg cs.toArray):=
 cu kk hs he hm cs (by rw[qS,<-hk,js]) hk
theorem tp(kk:Nat)(hs:pH C.P t kk=true)(he:ev fr x=some (bq g))(hv:ev fr y=some (.agg us.toArray))(h1:∀u∈us,u.oneCell'=true)(hm:m9 (.bI g bt cs) L f)(hk:E cs=kk)(hu:E us=kk):
  ra C fr L (.store t x y) ty (λp L'=>L'=f (.bI g bt us)):=λa w ha hw d pos af gg=>by
 have hb:=(hw.all _ hm.mem).2;have hi:(C.P.info? t).map (·.size)=some us.toArray.size:=by
  have h:=hs;unfold pH at h;rw[Bg]at h;have h2:=h.2;rw[Hm]at h2;rw[h2,<-hu];simp
 have hr:=run_storeVar_row (P:=C.P) w g bt t cs.toArray us.toArray hb hi (by simp[hk,hu]) (by rw[Array.all_eq_true_iff_forall_mem];simpa using h1);refine⟨undef,w.setRow g us.toArray,f (.bI g bt us),.inr ⟨by simp[execOp,Instr.storeAt,Instr.sureAddr,ha.tmp he,ha.tmp hv,hr],rfl⟩,rfl,?_⟩;refine hw.Xx hm ?_ (λ⟨q1,q2⟩=>⟨q1,?_⟩) (.inr (.inl rfl))
 ·exact⟨rfl,rfl,rfl,ao,λk _ hk=>Th w g k _ (λe=>hk H6)⟩
 ·exact Tg w g cs.toArray _ bt _ q2
theorem iH{P:Program}{u:Nat}{ty:TypeId}(hr:fn.results= #[.cell q ty,.tmp u])(hq:look q fr=some (bq g))(hs:pH P ty kk=true)(hm:m9 (.bI g bt cs) L f)(hk:E cs=kk){v:Value}(hu:look u fr=some v)(OC:Wk L L')(h:R (.tuple #[.agg cs.toArray,v]) L'):zT P fn R .ret fr L:=λB w0 a w ha hw=>by
 subst hk;refine⟨_,L',?_,h,OC.sl hw⟩;have hl:=kX (P:=P) (w:=w) (p:=⟨g,0,none⟩) hs (λj u hj=>ML);rw[results_cell_tmp hr];simp[ha.at_ _ _ hq,ha.at_ _ _ hu,asAddr,hl]
theorem PW{P:Program}{ty:TypeId}(hr:fn.results= #[.cell q ty])(hq:look q fr=some (bq g))(hs:pH P ty kk=true)(hm:m9 (.bI g bt cs) L f)(hk:E cs=kk)(OC:Wk L L')(h:R (.agg cs.toArray) L'):zT P fn R .ret fr L:=λB w0 a w ha hw=>by
 subst hk;refine⟨_,L',?_,h,OC.sl hw⟩;have hl:=kX (P:=P) (w:=w) (p:=⟨g,0,none⟩) hs (λj u hj=>ML);simp[results,hr,ha.at_ _ _ hq,asAddr,hl]
end
theorem dQ.law{P:Program}{w:World}(h:dQ P w.heap.size w ff args [] (λr L=>r= .bool true)):Calls P ff args.toArray w λe w'=>e= .returned (.bool true)/\Below w.heap.size w w':=
 (h w (SL.C4 w)).mono λe w' ⟨v,M,he,hR,hs⟩=>by subst hR;exact⟨he,hs.below⟩
theorem AJ{x:Operand}{xt:TypeId}(h:ev fr x=some (.bool true)):gX C fr L (.unOp .not xt x) ty (.bool false):=lf h
theorem AI{x:Operand}{xt:TypeId}(h:ev fr x=some (.bool false)):gX C fr L (.unOp .not xt x) ty (.bool true):=lf h
def qk(l:List Bool):cQ:=l.map .bool
theorem GZ{x:Operand}{t:TypeId}{b:List Bool}(hs:qQ C.P t=true)(he:ev fr x=some (.pointer (A.map (·.add (j*1)))))(hb:aJ C.B C.w0 L 1 (.slice A nn c) nn (qk b))(hj:j<nn):gX C fr L (.load t x) ty (.bool (b.getD j false)):=λa w ha hw=>by
 have hl:=hb.len hw;simp[qk]at hl;rw[cH]at he;refine al hs he hb aa ?_ a w ha hw;simp[qk,List.getD,fx (show j<E b by omega)]
end
def Cg(P:Program)(t:TypeId):Bool:=match P.info? t with|some i=>Nat.blt 0 i.size|none=>false
theorem Ea{C:Cx}{fr:Fr}{L:aN}{x:Operand}{ty t:TypeId}{g o:Nat}{fs:Array Field}{i:Nat}{fd:Field}(ht:C.P.underlying t=some (.struct fs))(hf:fs[i]? =some fd)(hz:Cg C.P fd.type=true)(he:ev fr x=some (.pointer (some ⟨g,o,none⟩)))(hq:o+fd.offset=q):
  gX C fr L (.fieldAddr t x i) ty (.pointer (some ⟨g,q,none⟩)):=by
 unfold Cg at hz;cases hi:C.P.info? fd.type with
 |none=>rw[hi]at hz;cases hz
 |some f=>
  rw[hi]at hz;have:0<f.size:=by simpa[Nat.blt_eq]using hz
  exact GX (sz:=f.size-1) ht hf (by rw[hi];simp;omega) he hq
theorem jH{C:Cx}{cd:Code}{Q:Exit->Fr->aN->Prop}{fr:Fr}{L:aN}{e:TypeId}{xs:cQ}(hm:Ch.own e size A n c xs∈L)(hn:0<n)(h:∀ad,A=some ad->VC C cd Q fr L):VC C cd Q fr L:=λa w ha hw=>by
 rcases(hw.all _ hm).2.2 with h0|⟨g,cur,rfl,_⟩
 ·have:n<=c:=(hw.all _ hm).2.1;omega
 ·exact h _ rfl a w ha hw
theorem aO{C:Cx}{fr:Fr}{L:aN}{x y:Operand}{ty t e:TypeId}{k:IntKind}{m:Int}{i:Nat}{ad:Addr}(ht:C.P.underlying t=some (.slice e))(hz:(C.P.info? e).map (·.size)=some size)(he:ev fr x=some (.slice (some ad) nn c))(h2:ev fr y=some (.int k m))(hm:m=(i:Int))(hi:i<nn):
  gX C fr L (.indexAddr t x y) ty (.pointer ((some ad).map (·.add (i*size)))):=λa w ha hw d pos af gg=>by
 subst hm;simp[execOp,Instr.indexAt,asIntOf,ha.tmp he,ha.tmp h2,jk ht,hi,Hf hz]
theorem aV{C:Cx}{fr:Fr}{L:aN}{x:Operand}{ty t:TypeId}{fs:Array Field}{i:Nat}{fd:Field}{xs:cQ}(ht:C.P.underlying t=some (.struct fs))(hf:fs[i]? =some fd)(hz:Cg C.P fd.type=true)(he:ev fr x=some (.pointer (A.map (·.add j))))(hb:aJ C.B C.w0 L size (.slice A nn c) nn xs)(hn:0<nn)(hq:fd.offset=q):
  gX C fr L (.fieldAddr t x i) ty (.pointer (A.map (λad=>(ad.add j).add q))):=by
 unfold Cg at hz;cases hi:C.P.info? fd.type with
 |none=>rw[hi]at hz;cases hz
 |some f=>
  rw[hi]at hz;have:0<f.size:=by simpa[Nat.blt_eq]using hz
  exact yy (sz:=f.size-1) ht hf (by rw[hi];simp;omega) he hb hn hq
theorem xh{C:Cx}{fr:Fr}{L:aN}{ty t:TypeId}(us:List (Nat×Value))(cs:cQ)(hp:parts.map (λp=>(p.1,ev fr p.2))=us.map (λp=>(p.1,some p.2)))(hb:C.P.built t us=some cs.toArray):
  gX C fr L (.build t parts.toArray) ty (.agg cs.toArray):=λa w ha hw d pos af gg=>by
 have Oz:parts.map (λp=>(p.1,a.eval p.2))=us:=by
  clear hb;induction parts generalizing us with
  |nil=>cases us with|nil=>rfl|cons _ _=>cases hp
  |cons p ps ih=>
   cases us with
   |nil=>cases hp
   |cons u us=>
    simp only[iN,List.cons.injEq,za]at hp;obtain⟨⟨h1,h2⟩,h3⟩:=hp;simp only[iN,ha.tmp h2,h1,ih us h3]
 have:=run_build (P:=C.P) w t us.toArray cs.toArray (by simpa using hb);subst Oz;simp only[List.toArray]at this;simp[execOp]at this⊢;rw[this];rfl
theorem eW{C:Cx}{fr:Fr}{L:aN}{ty t:TypeId}(cs:cQ)(hb:C.P.built t []=some cs.toArray):gX C fr L (.build t #[]) ty (.agg cs.toArray):=λa w ha hw d pos af gg=>by
 have:=run_build (P:=C.P) w t #[] cs.toArray (by simpa using hb);simp[execOp,this]
theorem eJ{C:Cx}{fr:Fr}{L:aN}{ty t:TypeId}(us:List (Nat×Value))(cs:cQ)(hp:parts.map (λp=>(p.1,ev fr p.2))=us.map (λp=>(p.1,some p.2)))(q8:us.flatMap (λp=>p.2.cells.toList)=cs)(hb:C.P.built t us=some cs.toArray):
 gX C fr L (.build t parts.toArray) ty (.agg cs.toArray):=xh us cs hp hb
end
theorem th(h:P:=by(simp[hx])):P:=h
theorem ZG:type_of% @List.countP_le_length:= @List.countP_le_length
theorem ad3:type_of% @List.countP_append:= @List.countP_append
theorem KY:type_of% @List.countP_cons:= @List.countP_cons
theorem oQ:type_of% @List.ext_getElem:= @List.ext_getElem
theorem gz:type_of% @Nat.pow_le_pow_right:= @Nat.pow_le_pow_right
def num(l:aq)(k:Nat):Nat:=l.countP λc=>c.toNat==k
def uq(l:aq):List Int:=(List.range 16).map λk=>((num l k:Nat):Int)
@[simp] theorem akZ(l:aq):E (uq l)=16:=by simp[uq]
theorem DZ(l:aq){k:Nat}(h:k<16):(uq l).getD k 0=(num l k:Int):=by
 simp[uq,List.getD,h]
theorem u0(l:aq)(k:Nat):num l k<=E l:=ZG
theorem zu(l:aq)(c:UInt8)(k:Nat):num (l++[c]) k=num l k+if c.toNat=k then 1 else 0:=by
 unfold num;rw[ad3,KY,List.countP_nil];simp
theorem zt(l:aq)(c:UInt8)(k:Nat):num (c::l) k=num l k+if c.toNat=k then 1 else 0:=by
 unfold num;rw[KY];simp
theorem acf{c:UInt8}(hc:c.toNat<16):(uq l).set c.toNat ((uq l).getD c.toNat 0+1)=uq (l++[c]):=by
 rw[DZ l hc];apply oQ
 ·simp
 ·intro i h1 h2;have hi:i<16:=by simpa using h2
  by_cases e:c.toNat=i
  ·subst e;simp[uq,zu]
  ·simp[uq,zu,e]
theorem ahU:uq []=List.replicate 16 0:=by decide
def xM(b:List Int):Nat->Int
 |0=>0
 |k+1=>xM b k+if k=0 then 0 else b.getD k 0*2^(15-k)
def ur(b:List Int):Nat->Int
 |0=>0
 |k+1=>ur b k+if k=0 then 0 else b.getD k 0
theorem aaE(b:List Int){k:Nat}(hk:1<=k):xM b (k+1)=xM b k+b.getD k 0*2^(15-k):=by
 conv=>lhs;unfold xM
 rw[aB aa]
theorem Yq(b:List Int){k:Nat}(hk:1<=k):ur b (k+1)=ur b k+b.getD k 0:=by
 conv=>lhs;unfold ur
 rw[aB aa]
def Few(b:List Int):Prop:=E b=16/\∀i,0<=b.getD i 0/\b.getD i 0<=300
theorem Few.sum{b:List Int}(h:Few b):∀k,0<=xM b k/\xM b k<=k*9830400
 |0=>by simp[xM]
 |k+1=>by
  have ih:=h.sum k;have hb:=h.2 k;unfold xM;split
  ·omega
  ·have h2:(2:Int)^(15-k)<=2^15:=by
    have:(2:Nat)^(15-k)<=2^15:=gz aa aa
    exact_mod_cast this
   have h3:(0:Int)<2^(15-k):=Int.pow_pos aa;have h4:0<=b.getD k 0*2^(15-k):=Int.mul_nonneg hb.1 aa;have h5:b.getD k 0*2^(15-k)<=300*2^15:=Int.mul_le_mul hb.2 h2 aa aa;omega
theorem Few.qH{b:List Int}(h:Few b):∀k,0<=ur b k/\ur b k<=k*300
 |0=>by simp[ur]
 |k+1=>by
  have ih:=h.qH k;have hb:=h.2 k;unfold ur;split<;>omega
theorem Kw(h:E l<=300):Few (uq l):=by
 refine⟨ao,λi=>?_⟩;by_cases hi:i<16
 ·rw[DZ l hi];have:=u0 l i;omega
 ·simp[List.getD,show(uq l)[i]? =none from tS bS]
theorem V8{b:List Int}(h:Few b)(i:Nat){x:Int}(hx:0<=x/\x<=300):Few (b.set i x):=by
 refine⟨by simpa using h.1,λj=>?_⟩;by_cases e:i=j
 ·subst e;by_cases hi:i<E b
  ·simp[List.getD,hi,hx]
  ·simp[List.getD,hi]
 ·have:=h.2 j;simpa[List.getD,e]using this
def ri(l:aq):List Int:=(uq l).set 0 0
theorem dp(l:aq){k:Nat}(h:k<16)(h0:k≠0):(ri l).getD k 0=(num l k:Int):=by
 rw[<-DZ l h];simp[ri,List.getD,Ne.symm h0]
def Fit(l:aq):Prop:=E l<=300/\∀c∈l,c.toNat<=15
instance (l:List UInt8):Decidable (Fit l):=inferInstanceAs (Decidable (_/\_))
def Good(l:aq):Prop:=Fit l/\(ur (ri l) 16=0\/xM (ri l) 16=32768\/ur (ri l) 16=1/\(ri l).getD 1 0=1)
instance (l:List UInt8):Decidable (Good l):=inferInstanceAs (Decidable (_/\_))
theorem ac'(h:Fit l):Good l↔(ur (ri l) 16=0\/xM (ri l) 16=32768\/ur (ri l) 16=1/\(ri l).getD 1 0=1):=⟨λg=>g.2,λg=>⟨h,g⟩⟩
theorem NW(h:Fit l):Few (ri l):=V8 (Kw h.1) 0 aa
def Ii(l:aq):Int:=if Good l then 0 else 7
def jS:aq->Nat
 |[]=>0
 |c::r=>(if c.toNat=0 then 0 else 2^(15-c.toNat))+jS r
def nz(l:aq):Nat:=l.countP λc=>c.toNat != 0
theorem E2(l:aq)(c:UInt8):jS (l++[c])=jS l+if c.toNat=0 then 0 else 2^(15-c.toNat):=by
 induction l with
 |nil=>simp[jS]
 |cons x r ih=>simp only[nM,jS,ih];omega
theorem ad4(l:aq):jS l<=E l*32768:=by
 induction l with
 |nil=>simp[jS]
 |cons x r ih=>
  simp only[jS,ei];have:(2:Nat)^(15-x.toNat)<=2^15:=gz aa aa;split<;>omega
theorem ajl(l:aq)(c:UInt8):nz (l++[c])=nz l+if c.toNat=0 then 0 else 1:=by
 unfold nz;rw[ad3,KY,List.countP_nil];by_cases h:c.toNat=0<;>simp[h]
theorem Dr(l:aq)(c:UInt8):nz (c::l)=nz l+if c.toNat=0 then 0 else 1:=by
 unfold nz;rw[KY];by_cases h:c.toNat=0<;>simp[h]
theorem aj_(l:aq):xM (ri l) 16=(num l 1*16384+num l 2*8192+num l 3*4096+num l 4*2048+num l 5*1024+num l 6*512+num l 7*256+num l 8*128+num l 9*64+num l 10*32+num l 11*16+num l 12*8+num l 13*4+num l 14*2+num l 15:Nat):=by
 simp only[xM,dp l (show 1<16 by omega) aa,dp l (show 2<16 by omega) aa,dp l (show 3<16 by omega) aa,dp l (show 4<16 by omega) aa,dp l (show 5<16 by omega) aa,dp l (show 6<16 by omega) aa,dp l (show 7<16 by omega) aa,dp l (show 8<16 by omega) aa,dp l (show 9<16 by omega) aa,dp l (show 10<16 by omega) aa,dp l (show 11<16 by omega) aa,dp l (show 12<16 by omega) aa,dp l (show 13<16 by omega) aa,dp l (show 14<16 by omega) aa,dp l (show 15<16 by omega) aa];simp
theorem ahT(l:aq):ur (ri l) 16=(num l 1+num l 2+num l 3+num l 4+num l 5+num l 6+num l 7+num l 8+num l 9+num l 10+num l 11+num l 12+num l 13+num l 14+num l 15:Nat):=by
 simp only[ur,dp l (show 1<16 by omega) aa,dp l (show 2<16 by omega) aa,dp l (show 3<16 by omega) aa,dp l (show 4<16 by omega) aa,dp l (show 5<16 by omega) aa,dp l (show 6<16 by omega) aa,dp l (show 7<16 by omega) aa,dp l (show 8<16 by omega) aa,dp l (show 9<16 by omega) aa,dp l (show 10<16 by omega) aa,dp l (show 11<16 by omega) aa,dp l (show 12<16 by omega) aa,dp l (show 13<16 by omega) aa,dp l (show 14<16 by omega) aa,dp l (show 15<16 by omega) aa];simp
theorem rO:∀l:aq,(∀c∈l,c.toNat<=15)->jS l=num l 1*16384+num l 2*8192+num l 3*4096+num l 4*2048+num l 5*1024+num l 6*512+num l 7*256+num l 8*128+num l 9*64+num l 10*32+num l 11*16+num l 12*8+num l 13*4+num l 14*2+num l 15/\
  nz l=num l 1+num l 2+num l 3+num l 4+num l 5+num l 6+num l 7+num l 8+num l 9+num l 10+num l 11+num l 12+num l 13+num l 14+num l 15
 |[],_=>by simp[jS,nz,num]
 |c::r,h=>by
  have ih:=rO r λx hx=>h x th;have hc:=h c ao;simp only[jS,Dr,zt,ih.1,ih.2];have j0:c.toNat=0\/c.toNat=1\/c.toNat=2\/c.toNat=3\/c.toNat=4\/c.toNat=5\/c.toNat=6\/c.toNat=7\/c.toNat=8\/c.toNat=9\/c.toNat=10\/c.toNat=11\/c.toNat=12\/c.toNat=13\/c.toNat=14\/c.toNat=15:=by omega
  generalize c.toNat=x at j0;rcases j0 with h|h|h|h|h|h|h|h|h|h|h|h|h|h|h|h<;>subst h<;>simp<;>omega
theorem aaF(h:Fit l):xM (ri l) 16=(jS l:Int):=by rw[aj_,(rO l h.2).1]
theorem amL(h:Fit l):ur (ri l) 16=(nz l:Int):=by rw[ahT,(rO l h.2).2]
theorem yK(h:Fit l):Good l↔(nz l=0\/nz l=1/\num l 1=1)\/jS l=32768:=by
 unfold Good;rw[aaF h,amL h,dp l aa aa];constructor
 ·rintro⟨_,h|h|h⟩<;>omega
 ·rintro((h'|h')|h')<;>exact⟨h,aa⟩
theorem jB(h:P:=by(cases h)):P:=h
theorem ki:type_of% @Nat.pow_succ:= @Nat.pow_succ
theorem O8:type_of% @List.take_sublist:= @List.take_sublist
theorem E1:type_of% @List.getElem_map:= @List.getElem_map
theorem Ho:type_of% @List.getElem_range:= @List.getElem_range
theorem O9:type_of% @List.getElem_set:= @List.getElem_set
theorem zc:type_of% @List.set_append_right:= @List.set_append_right
theorem gv:type_of% @List.take_of_length_le:= @List.take_of_length_le
theorem rN:type_of% @Nat.mul_assoc:= @Nat.mul_assoc
theorem mi:type_of% @Nat.mul_comm:= @Nat.mul_comm
theorem zd:type_of% @Nat.two_pow_pos:= @Nat.two_pow_pos
def fst(l:aq):Nat->Nat
 |0=>0
 |1=>0
 |k+2=>(fst l (k+1)+num l (k+1))*2
theorem fU(l:aq){k:Nat}(h:1<=k):fst l (k+1)=(fst l k+num l k)*2:=by
 obtain⟨j,rfl⟩:∃j,k=j+1:=⟨k-1,aa⟩
 rfl
theorem ac3{l:aq}(hl:E l<=300):∀k,fst l k+600<=600*2^k
 |0=>by simp[fst]
 |1=>by simp[fst]
 |k+2=>by
  have ih:=ac3 hl (k+1);have hn:=u0 l (k+1);rw[fU l aa,ki 2 (k+1)];omega
theorem vH(hl:E l<=300){k:Nat}(hk:k<=16):fst l k<=39321600:=by
 have h1:=ac3 hl k;have h2:=gz (show 1<=2 by omega) hk;omega
def place(l:aq)(k:Nat)(s:Nat):Nat:=fst l k+num (l.take s) k
def code(l:aq)(s:Nat):Int:=if (l.getD s 0).toNat=0 then 0 else IntKind.u16.wrap (place l (l.getD s 0).toNat s:Int)
def dU(l:aq):List Int:=(List.range (E l)).map (code l)
@[simp] theorem GV(l:aq):E (dU l)=E l:=by simp[dU]
theorem sA(l:aq)(h:s<E l):(dU l).getD s 0=code l s:=by
 simp[dU,List.getD,h]
theorem jf(k:Nat)(h:s<E l):num (l.take (s+1)) k=num (l.take s) k+if (l.getD s 0).toNat=k then 1 else 0:=by
 rw[aP h 0,zu]
theorem u4(l:aq)(s k:Nat):num (l.take s) k<=num l k:=by
 unfold num;exact List.Sublist.countP_le (O8 s l)
def yI(l:aq)(k:Nat):List Int:=(List.range 17).map λj=>if j<=k then (fst l j:Int) else 0
@[simp] theorem alo(l:aq)(k:Nat):E (yI l k)=17:=by simp[yI]
theorem ac0(l:aq){k:Nat}(h:j<=k)(h2:j<17):(yI l k).getD j 0=(fst l j:Int):=by
 simp[yI,List.getD,h2,h]
theorem ac1(l:aq):List.replicate 17 (0:Int)=yI l 1:=by
 have h1:fst l 1=0:=rfl;have h0:fst l 0=0:=rfl;have e:yI l 1=(List.range 17).map λ_=>(0:Int):=by
  unfold yI;refine tR λj _=>?_;split
  ·rename_i h;have:j=0\/j=1:=by omega
   rcases this with rfl|rfl
   ·rw[h0];rfl
   ·rw[h1];rfl
  ·rfl
 rw[e];decide
theorem YV(l:aq){k:Nat}:(yI l k).set (k+1) (fst l (k+1):Int)=yI l (k+1):=by
 apply oQ
 ·simp
 ·intro i h1 h2;by_cases e:k+1=i
  ·subst e;simp[yI]
  ·have:i<=k↔i<=k+1:=by omega
   simp[yI,e,this]
def wu(l:aq)(s:Nat):List Int:=(List.range 17).map λj=>if j=0 then 0 else (place l j s:Int)
@[simp] theorem N6(l:aq)(k:Nat):E (wu l k)=17:=by simp[wu]
theorem ac2(l:aq)(h:1<=j)(h2:j<17):(wu l s).getD j 0=(place l j s:Int):=by
 have:¬j=0:=by omega
 simp[wu,List.getD,h2,this]
theorem YY(l:aq):yI l 16=wu l 0:=by
 apply oQ
 ·simp
 ·intro i h1 h2;have hi:i<17:=by simpa using h1
  by_cases e:i=0
  ·subst e;rfl
  ·simp[yI,wu,e,place,num,show i<=16 by omega]
theorem YW(h:s<E l)(h0:(l.getD s 0).toNat=0):wu l s=wu l (s+1):=by
 apply oQ
 ·simp
 ·intro i h1 h2;by_cases e:i=0
  ·simp[wu,e]
  ·simp only[wu,E1,Ho,e,if_false,place,jf i h];rw[aB aa];rfl
theorem YX(h:s<E l)(h1:1<=(l.getD s 0).toNat)(h2:(l.getD s 0).toNat<17):(wu l s).set (l.getD s 0).toNat ((place l (l.getD s 0).toNat s:Int)+1)=wu l (s+1):=by
 apply oQ
 ·simp
 ·intro i k1 k2;by_cases e:(l.getD s 0).toNat=i
  ·rw[O9,av e];subst e;have hn:=jf (l:=l) (l.getD s 0).toNat h;rw[av rfl]at hn;simp only[wu,E1,Ho,place,hn];rw[aB aa];omega
  ·rw[O9,aB e];by_cases e0:i=0
   ·simp[wu,e0]
   ·simp only[wu,E1,Ho,e0,if_false,place,jf i h];rw[aB e];rfl
theorem CC(hl:E l<=300){k:Nat}(hk:k<=16)(s:Nat):place l k s<=39321900:=by
 have h1:=vH hl hk;have h2:=u4 l s k;have h3:=u0 l k;unfold place;omega
def C6(l:aq)(s:Nat):List Int:=(dU l).take s++List.replicate (E l-s) 0
@[simp] theorem PD(l:aq){s:Nat}(h:s<=E l):E (C6 l s)=E l:=by simp[C6];omega
theorem aaa(l:aq):C6 l 0=List.replicate (E l) 0:=by simp[C6]
theorem Jl(h:s<E l):(C6 l s).set s (code l s)=C6 l (s+1):=by
 unfold C6;rw[zc _ _ bS];have e:s-E ((dU l).take s)=0:=by simp;omega
 rw[e,show E l-s=(E l-(s+1))+1 by omega,Bf,List.set_cons_zero,aP (l:=dU l) (k:=s) ml 0,sA l h,bT];rfl
theorem Z'(h:s<E l)(h0:(l.getD s 0).toNat=0):C6 l s=C6 l (s+1):=by
 rw[<-Jl h];have:code l s=0:=av h0;rw[this];apply oQ
 ·simp
 ·intro i k1 k2;rw[O9];split
  ·rename_i e;subst e;have k3:s<E ((dU l).take s++List.replicate (E l-s) (0:Int)):=k1;show((dU l).take s++List.replicate (E l-s) (0:Int))[s]'k3=0;rw[List.getElem_append_right bS];simp
  ·rfl
theorem aeS(l:aq):C6 l (E l)=dU l:=by
 unfold C6;rw[gv ao];simp
def rk(l:aq)(L s j:Nat):Prop:=(l.getD j 0).toNat≠0/\((l.getD j 0).toNat<L\/(l.getD j 0).toNat=L/\j<s)
instance (l:List UInt8)(L s j:Nat):Decidable (rk l L s j):=inferInstanceAs (Decidable (_/\_))
def qT(l:aq)(L s:Nat):List Int:=(List.range (E l)).map λj=>if rk l L s j then code l j else 0
@[simp] theorem PE(l:aq)(L s:Nat):E (qT l L s)=E l:=by simp[qT]
theorem Fo{L L' s':Nat}(h:∀j,j<E l->(rk l L s j↔rk l L' s' j)):qT l L s=qT l L' s':=by
 unfold qT;refine tR λj hj=>?_;have:=h j (by simpa using hj);by_cases hd:rk l L s j
 ·rw[av hd,av (this.1 hd)]
 ·rw[aB hd,aB (λh=>hd (this.2 h))]
theorem aad(l:aq):qT l 1 0=List.replicate (E l) 0:=by
 apply oQ
 ·simp
 ·intro i h1 h2;have:¬rk l 1 0 i:=λh=>by unfold rk at h;omega
  simp[qT,this]
theorem aab{L:Nat}(h:(l.getD s 0).toNat≠L):qT l L s=qT l L (s+1):=
 Fo λj hj=>by
  unfold rk;by_cases e:j=s
  ·subst e;omega
  ·omega
theorem aac(l:aq)(L:Nat):qT l L (E l)=qT l (L+1) 0:=
 Fo λj hj=>by unfold rk;omega
theorem aeU{L:Nat}(hs:s<E l)(h:(l.getD s 0).toNat=L)(hL:1<=L):(qT l L s).set s (code l s)=qT l L (s+1):=by
 apply oQ
 ·simp
 ·intro i h1 h2;by_cases e:s=i
  ·subst e;have:rk l L (s+1) s:=⟨aa,.inr ⟨h,aa⟩⟩
   simp[qT,this]
  ·have:rk l L s i↔rk l L (s+1) i:=by unfold rk;omega
   simp[qT,e,this]
theorem aeT(h:∀c∈l,c.toNat<=15):qT l 16 0=dU l:=by
 unfold qT dU;refine tR λj hj=>?_;have hj':j<E l:=by simpa using hj
 have hu:=h _ (bc hj' 0);by_cases h0:(l.getD j 0).toNat=0
 ·rw[aB (λhd=>hd.1 h0)];exact(av h0).symm
 ·rw[av ⟨h0,.inl aa⟩]
theorem Jo{L:Nat}(hs:s<E l)(h:(l.getD s 0).toNat=L):place l L (s+1)=place l L s+1:=by
 unfold place;rw[jf L hs,av h];omega
theorem TX{L:Nat}(hs:s<E l)(h:(l.getD s 0).toNat≠L):place l L (s+1)=place l L s:=by
 unfold place;rw[jf L hs,aB h];omega
theorem Fs{L:Nat}(hL:1<=L):place l (L+1) 0=2*place l L (E l):=by
 unfold place;rw[fU l hL,js];simp[num];omega
def RC(l:aq)(L s next was:Nat)(any:Bool):Prop:=was<=L/\(any=true->(next+1)*2^(L-was)=place l L s)/\(any=false->place l L s=0/\next=0)
theorem RC.start(l:aq):RC l 1 0 0 0 false:=⟨aa,(λh=>jB),λ_=>⟨by simp[place,fst,num],rfl⟩⟩
theorem RC.avv{L next was:Nat}{any:Bool}(h:RC l L s next was any)(hs:s<E l)(hn:(l.getD s 0).toNat≠L):RC l L (s+1) next was any:=by
 unfold RC at*;rw[TX hs hn];exact h
theorem RC.hit{L:Nat}(hs:s<E l)(hn:(l.getD s 0).toNat=L):RC l L (s+1) (place l L s) L true:=
 ⟨ga _,(λ_=>by rw[Jo hs hn];simp),(λh=>jB)⟩
theorem RC.next{l:aq}{L next was:Nat}{any:Bool}(h:RC l L (E l) next was any)(hL:1<=L):RC l (L+1) 0 next was any:=by
 obtain⟨h1,h2,h3⟩:=h;refine⟨aa,λh=>?_,λh=>?_⟩
 ·rw[Fs hL,<-h2 h,show L+1-was=(L-was)+1 by omega,ki];rw[<-rN,mi]
 ·rw[Fs hL,(h3 h).1];exact⟨rfl,(h3 h).2⟩
theorem Tk(h:Good l):jS l<=32768:=by
 have h1:=(yK h.1).1 h;have h2:=rO l h.1.2;omega
theorem oZ(h:Good l){k:Nat}(h1:1<=k)(h2:k<=15):fst l k+num l k<=2^k:=by
 have hk:=Tk h;have e:=(rO l h.1.2).1;have e1:fst l 1=0:=rfl;have e2:=fU l (k:=1) aa;have e3:=fU l (k:=2) aa;have e4:=fU l (k:=3) aa;have e5:=fU l (k:=4) aa;have e6:=fU l (k:=5) aa;have e7:=fU l (k:=6) aa;have e8:=fU l (k:=7) aa;have e9:=fU l (k:=8) aa;have e10:=fU l (k:=9) aa;have e11:=fU l (k:=10) aa;have e12:=fU l (k:=11) aa;have e13:=fU l (k:=12) aa;have e14:=fU l (k:=13) aa;have e15:=fU l (k:=14) aa;have hc:k=1\/k=2\/k=3\/k=4\/k=5\/k=6\/k=7\/k=8\/k=9\/k=10\/k=11\/k=12\/k=13\/k=14\/k=15:=by omega
 rcases hc with h|h|h|h|h|h|h|h|h|h|h|h|h|h|h<;>subst h<;>simp only[Nat.reduceAdd,Nat.reducePow]at*<;>omega
theorem pU{k:Nat}(hs:s<E l)(h:(l.getD s 0).toNat=k):place l k s+1<=fst l k+num l k:=by
 have h1:=Jo hs h;have h2:=u4 l (s+1) k;unfold place at*;omega
theorem PI(l:aq)(k s:Nat):fst l k<=place l k s:=Nat.le_add_right _ _
theorem KB(l:aq){k:Nat}(h:1<=k):∀d,1<=d->(fst l k+num l k)*2^d<=fst l (k+d)
 |0,h=>absurd h aa
 |1,_=>by rw[fU l h];omega
 |d+2,_=>by
  have ih:=KB l h (d+1) aa;have e:fst l (k+(d+2))=(fst l (k+(d+1))+num l (k+(d+1)))*2:=fU l (k:=k+(d+1)) aa;rw[e,show d+2=(d+1)+1 from rfl,ki,<-rN];exact C3 2 (iY ih (Nat.le_add_right _ _))
theorem Nk(hg:Good l)(hs:s<E l)(h0:(l.getD s 0).toNat≠0):code l s=(place l (l.getD s 0).toNat s:Int):=by
 unfold code;rw[aB h0];have hu:=hg.1.2 _ (bc hs 0);have h1:=pU hs rfl;have h2:=oZ hg (k:=(l.getD s 0).toNat) aa hu;have h3:=gz (show 1<=2 by omega) hu;exact amb aa aa
theorem RZ(hg:Good l)(hs:s<E l)(h0:(l.getD s 0).toNat≠0):place l (l.getD s 0).toNat s<32768:=by
 have hu:=hg.1.2 _ (bc hs 0);have h1:=pU hs rfl;have h2:=oZ hg (k:=(l.getD s 0).toNat) aa hu;have h3:=gz (show 1<=2 by omega) hu;omega
theorem le_pow{y k p:Nat}(h:y*2^k=p):y<=p:=by
 rw[<-h];exact aiT y (zd k)
theorem ae6{y L p:Nat}(h:y*2^(L-j)=p)(hj:j<L):2*y*2^(L-(j+1))=p:=by
 rw[<-h,show L-j=(L-(j+1))+1 by omega,ki,mi 2 y,rN,mi 2]
section
section
variable{C:Cx}{Q:Exit->Fr->aN->Prop}{fr jD:Fr}{L L':aN}{cd:Code}{ops:Array Oper}{l:sg}{op:Op}{ty:TypeId}{pos:String}{af:Array Edge}{d:Nat}{v:Value}
variable{x y z:Operand}{k:IntKind}{m n:Int}{f:Ch->aN}{g o:Nat}{bt t e:TypeId}{cs:cQ}
theorem Ti:type_of% @List.getElem?_append_left:= @List.getElem?_append_left
theorem tT:type_of% @List.length_nil:= @List.length_nil
theorem nJ:type_of% @Nat.zero_mul:= @Nat.zero_mul
theorem fA(T:tc C.P t e size bytes zv):ra C fr L (.buildSlice t 0 #[]) ty (λp L'=>∃A,p= .slice A 0 0/\L'= .own e size A 0 0 []::L):=λa w ha hw d pos af gg=>by
 obtain⟨i,hi,hz,iy,GF⟩:=T.hi;subst iy;refine⟨.slice (some ⟨w.heap.size,0,none⟩) 0 0,w.alloc (.cells #[] e),_,.inl ?_,⟨some ⟨w.heap.size,0,none⟩,rfl,rfl⟩,hw.gZ (KW w _ none) ⟨ao,ga _,.inl rfl⟩ (.inl rfl)⟩;simp[execOp,Instr.buildSlice,jk T.ht,sizeOf,typeInfo,hi,Instr.fill,newRow];rw[show Array.range 0= #[] from by simp[Array.range],Array.map_empty]
theorem N3:∀(us pre:cQ) (cells:Array Value),E pre+E us=cells.size->(∀j,j<E pre->cells[j]? =pre[j]?)->(us.zipIdx (E pre)).foldl (λcs (c,j)=>cs.setIfInBounds j c) cells=(pre++us).toArray
 |[],pre,cells,h,hp=>by
  simp only[List.zipIdx_nil,List.foldl_nil,gN];simp at h;apply Array.ext
  ·simp[h]
  ·intro j h1 h2;have:=hp j qi;rw[Array.getElem?_eq_getElem h1]at this;simp at h2;rw[fx h2]at this;simpa using this
 |u::us,pre,cells,h,hp=>by
  rw[List.zipIdx_cons,List.foldl_cons];simp only[ei]at h;have:=N3 us (pre++[u]) (cells.setIfInBounds (E pre) u) bS (λj hj=>by
   simp at hj;rw[Array.getElem?_setIfInBounds];by_cases hjp:E pre=j
   ·subst hjp;simp;omega
   ·rw[aB hjp,hp j aa,Ti aa])
  simpa using this
theorem acQ{v:Value}(hv:v.cells=us.toArray)(hl:E us=size)(Z:Array Value)(hZ:Z.size=size):Instr.fill (λi=>some (i*size,size)) Z [(0,v)]=some us.toArray:=by
 have h:=N3 us [] Z (by simpa[hZ]using hl) ao;simp only[tT,mh]at h;simp only[Instr.fill,hv,nJ,mH,y_,hl];simp[hZ];exact h
theorem NG(T:tc C.P t e size bytes zv)(he:ev fr x=some v)(hv:v.cells=us.toArray)(hl:E us=size)(I0:size<=1000):ra C fr L (.buildSlice t 1 #[(0,x)]) ty (λp L'=>∃A,p= .slice A 1 1/\L'= .own e size A 1 1 us::L):=by
 obtain⟨i,hi,hz,iy,GF⟩:=T.hi;exact my (parts:=[(0,x)]) (us:=[(0,v)]) (zv:=zv) T.ht (by rw[hi];simp[iy]) T.hs aa aa (by rw[hi];simpa using hz) (by simp[he]) (acQ hv hl _ ao) aa
theorem jX{d1 d2:Nat}{ty1 ty2:TypeId}{aok aaf:String}{af1 af2:Array Edge}{s:Operand}{n:Nat}{xs:cQ}(T:tc C.P t e size bytes zv)(he:ev fr x=some v)(hv:v.cells=us.toArray)(yU:E us=size)(I0:size<=1000)(h1:∀u∈us,u.oneCell'=true)(hd1:Nat.blt d1 C.N=true)(Y_:Nat.blt d2 C.N=true)(hs:ev ((d1,.slice none 0 0)::fr) s=some (.slice A n c))(hsn:∀u,ev ((d1,u)::fr) s=ev ((d1,.slice none 0 0)::fr) s)(hl:m9 (.own e size A n c xs) L f)(kg:(n+1)*bytes<=140737488355328)(xZ:n+1<=140737488355328)(kk:∀A1 A' c',VL C ops Q l ((d2,.slice A' (n+1) c')::(d1,.slice A1 1 1)::fr) (f (.own e size A' (n+1) c' (xs++us)))):
  VL C ops Q (⟨some d1,.buildSlice t 1 #[(0,x)],ty1,aok,af1,none⟩::⟨some d2,.call {callee:=.builtin .append,args:= #[s,.tmp d1],argTypes:= #[t,t]},ty2,aaf,af2,none⟩::l) fr L:=by
 refine ou (NG T he hv yU I0) hd1 ?_;rintro _ _ ⟨A1,rfl,rfl⟩;refine ou (bB (m:=1) (news:=us) T ((hsn _).trans hs) (.tl hl) (yv:=.slice A1 1 1) (by simp[ev,look]) (aJ.own (List.Mem.head _)) h1 kg xZ) Y_ ?_;rintro _ _ ⟨A2,c2,rfl,rfl⟩;intro a w ha hw;exact kk A1 A2 c2 a w ha hw.tail
theorem BT{xs:cQ}(hb:aJ C.B C.w0 L size (.slice A nn c) nn xs)(h:nn<=c->E xs=nn*size->VC C cd Q fr L):VC C cd Q fr L:=λa w ha hw=>by
 obtain⟨A',c',hv,hc,hl,_⟩:=hb w hw;injection hv with _ _ h3;subst h3;exact h hc hl a w ha hw
theorem dQ.yk{P:Program}{xs:cQ}(hb:aJ B w0 L size (.slice A nn c) nn xs)(h:nn<=c->E xs=nn*size->dQ P B w0 ff args L R):dQ P B w0 ff args L R:=λw hw=>by
 obtain⟨A',c',hv,hc,hl,_⟩:=hb w hw;injection hv with _ _ h3;subst h3;exact h hc hl w hw
theorem sC{xt yt:TypeId}(ht:C.P.underlying xt=some (.slice e))(h1:ev fr x=some (.slice A nn c))(h2:ev fr y=some (.slice none 0 0)):gX C fr L (.binOp .eql xt x y yt) ty (.bool A.isNone):=λa w ha hw d pos af g=>by
 have he:(eqGuard .eql xt x y (.slice A nn c) (.slice none 0 0)).run C.P w= .ok () w:=by simp[eqGuard]
 simp only[execOp,ha.tmp h1,ha.tmp h2,Te,he,Lib.run_eql_slice_nil w xt e A nn c 0 0 ht,xx,OT]
end
def asn(zs:cQ):List (Nat×Value)->cQ
 |[]=>zs
 |(o,v)::r=>asn (zs.take o++(v.cells.toList++zs.drop (o+v.cells.size))) r
theorem bw{C:Cx}{fr:Fr}{L:aN}{ty t:TypeId}(us:List (Nat×Value))(zs:cQ)(os:br)(cs:cQ)(hp:parts.map (λp=>(p.1,ev fr p.2))=us.map (λp=>(p.1,some p.2)))(q8:asn zs (os.zip (us.map (·.2)))=cs)(hb:C.P.built t us=some cs.toArray):
 gX C fr L (.build t parts.toArray) ty (.agg cs.toArray):=xh us cs hp hb
theorem aH{P:Program}{ee:Exit}{fr:Fr}{L:aN}(e:TypeId)(size:Nat)(A:bh)(h:zT P fn R ee fr (.own e size A 0 0 []::L)):zT P fn R ee fr L:=by
 cases ee<;>first
  |exact h
  |(intro B w0 a w ha hw;exact h B w0 a w ha (hw.Dq e size A))
theorem asX{n m:Nat}(h:n=m):some (Value.slice A n c)=some (.slice A m c):=by rw[h]
theorem swp{b:Ch}{L:aN}:(a::b::L).Perm (b::a::L):=.swap b a L
theorem dQ.of_same{P:Program}{L:aN}{v:Value}(h:∀w,SL B w0 L w->Calls P ff args.toArray w λe w'=>e= .returned v/\w=w'):dQ P B w0 ff args L (λr L'=>r=v/\L'=L):=λw hw=>
 (h w hw).mono λe w' ⟨he,EJ⟩=>by subst EJ;exact⟨v,L,he,⟨rfl,rfl⟩,hw⟩
theorem p7{C:Cx}{ops:Array Oper}{S:aN}{Q:Exit->Fr->aN->Prop}{fuel:Nat}{li:Array Bool}{fr:Fr}{L:aN}{d:Nat}{ty:TypeId}{pos:String}{af:Array Edge}{gg:Operand}{ue:List Operand}{Dh:Array TypeId}{vs fst cap:cQ}{g:Option (Nat×Bool)}(ho:ops[i]? =some ⟨some d,.call {callee:=.value gg,args:=ue.toArray,argTypes:=Dh},ty,pos,af,g⟩)(hg:Gd ops fr g)(hc:aK C.P ff)(hgg:ev fr gg=some (.func (.func ff) fst.toArray cap.toArray))(he:AN fr ue=some vs)(h:dQ C.P C.B C.w0 ff (fst++vs++cap) L R)(hd:Nat.blt d C.N=true)(hS:∀v L',R v L'->S.Sublist L')(k:∀v L',R v L'->VH C ops S Q fuel (li.setIfInBounds i true) ((d,v)::fr) L'):Step C ops S Q fuel li fr L i:=λa w ha hw _=>by
 unfold wpOp;simp only[ho];rw[av (hg.wanted ha)];refine .inl ?_;unfold Oper.wp;rw[mz hc (ha.tmp hgg),ha.AN he];simp only[List.append_toArray];refine KV (h w hw) λe w' ⟨v,L',he,hR,hs⟩=>?_;subst he;have jj:=hs.sub (hS v L' hR);exact⟨jj,k _ _ hR _ _ (ha.put hd _) hs jj⟩
end
section
theorem oC:type_of% @List.take_zero:= @List.take_zero
theorem ia:type_of% @List.mem_of_mem_take:= @List.mem_of_mem_take
theorem I4:type_of% @List.take_append:= @List.take_append
theorem qp:type_of% @Option.map_some:= @Option.map_some
theorem ET:type_of% @Nat.sub_zero:= @Nat.sub_zero
theorem iz{P:Program}{t:TypeId}{xs:Array Value}{off:Nat}{v:Value}(hs:qQ P t=true)(hx:xs[off]? =some v)(w:World):(part t xs off).run P w= .ok v w:=by
 simp[part,yW hs,hx]
section
variable{C:Cx}{fr:Fr}{L:aN}{x y:Operand}{f:Ch->aN}{t t2 e ty:TypeId}
theorem NH(T:tc C.P t e 1 bytes zv){xs:cQ}(hs:m9 (.own e 1 A n c xs) L f)(he:ev fr x=some (.slice (if c=i then A else A.map (·.add (i*1))) (n-i) (c-i)))(hi:i<=n){yv:Value}{news:cQ}(hy:ev fr y=some yv)(hb:aJ C.B C.w0 L 1 yv m news)(h1:∀u∈news,u.oneCell'=true):
  ra C fr L (.call {callee:=.builtin .copy,args:= #[x,y],argTypes:= #[t,t2]}) ty (λp L'=>p=ah (min m (n-i):Nat)/\L'=f (.own e 1 A n c (xs.take i++news.take (min m (n-i))++xs.drop (i+min m (n-i))))):=λa w ha hw d pos af gg=>by
 obtain⟨ii,hii,hz,iy,GF⟩:=T.hi;have ar_:(C.P.info? e).map (·.size)=some 1:=by rw[hii];simp[iy]
 obtain⟨X,cx,rfl,hmc,hl,xp⟩:=hb w hw;have auR:Nat.min m (n-i)=min m (n-i):=rfl;obtain⟨k1,k2,k3⟩:=hw.all _ hs.mem;rw[cH]at k1 hl;by_cases h0:min m (n-i)=0
 ·have hr:=run_copy_none (P:=C.P) w t t2 ty e (if c=i then A else A.map (·.add (i*1))) X (n-i) (c-i) m cx T.ht ar_ h0;refine⟨_,w,_,.inl ?_,⟨rfl,rfl⟩,?_⟩
  ·simp[execOp,resolve,invoke,builtin,ha.tmp he,ha.tmp hy];have:=hr;simp at this;rw[this];simp[goInt,h0]
  ·rw[h0,oC,gN,rM,kH];refine hw.Xx hs (Td w _) (λh=>h) (.inr (.inl rfl))
 ·have sG:¬c=0:=by omega
  have hci:¬c=i:=by omega
  obtain⟨g,cur,rfl,hbg,hg,hcm,q8,tu⟩:=k3.resolve_left sG;clear k3;rw[cH]at q8 tu;obtain⟨ad,rfl,_,iw⟩:=xp aa;clear xp auR;obtain⟨k,hk⟩:=cM (min m (n-i));have Wz:k<=m:=by omega
  have hkn:i+k<=n:=by omega
  have als:k=Nat.min m (n-i):=hk;rw[<-hk]at h0⊢;clear hk;have avf:∀j v,(news.take k)[j]? =some v->w.cell? (ad.add j)=some v:=λj v hv=>by
   rw[KT]at hv;split at hv
   ·exact iw j v hv
   ·cases hv
  have hlen:E (news.take k)=k:=by rw[fZ,hl];omega
  have Oi:(⟨g,0,none⟩:Addr).add (i*1)=⟨g,i,none⟩:=by rw[C1,mH,cH]
  have KK:i+E (news.take k)<=cur.size:=by rw[hlen,q8];omega
  have hr:=run_copy_row (P:=C.P) w t t2 ty e g i (n-i) (c-i) ad m cx cur e (news.take k) T.ht ar_ hg (by rw[hlen];exact als) avf KK (λv hv=>h1 v (ia hv));clear als;have yO:E cur.toList=c:=by simpa using q8
  have e1:E (xs.take i++news.take k++xs.drop (i+k))=n*1:=by
   simp only[bm,fZ,jM,hl,k1];omega
  have e2:E (cur.toList.take i++news.take k++cur.toList.drop (i+E (news.take k)))=c:=by
   simp only[bm,fZ,jM,hl,yO];omega
  have e3:(cur.toList.take i++news.take k++cur.toList.drop (i+E (news.take k))).take n=xs.take i++news.take k++xs.drop (i+k):=by
   have hx:xs=cur.toList.take n:=tu.symm;rw[hlen,I4,gv (by rw[bm,fZ,hlen];omega),hx,List.take_take,Hk,C2 aa];congr 2;rw[bm,fZ,hlen,yO,C2 aa]
  refine⟨_,_,_,.inl ?_,⟨rfl,rfl⟩,hw.Xx hs (w':=w.setRow g (cur.toList.take i++news.take k++cur.toList.drop (i+E (news.take k))).toArray) ?_ (λ_=>⟨e1,k2,.inr ⟨g,_,rfl,hbg,Tg w g cur _ e _ hg,hcm,by rw[y_,e2,cH],by rw[cH];exact e3⟩⟩) (.inr (.inl rfl))⟩
  ·simp only[execOp,resolve,invoke,builtin,ha.tmp he,ha.tmp hy,aB hci,qp,Oi,Te,OT,xx,List.map_toArray,iN,KU,hr];simp[goInt,hlen]
  ·rw[show(Ch.own e 1 (some ⟨g,0,none⟩) n c xs).fp=some g by simp[Ch.fp,sG]];exact⟨rfl,rfl,rfl,ao,λk _ hk=>Th w g k _ (λe=>hk B9)⟩
theorem Iy(T:tc C.P t e 1 bytes zv){xs:cQ}(hs:m9 (.own e 1 A n c xs) L f)(he:ev fr x=some (.slice A n c)){yv:Value}{news:cQ}(hy:ev fr y=some yv)(hb:aJ C.B C.w0 L 1 yv m news)(h1:∀u∈news,u.oneCell'=true):
  ra C fr L (.call {callee:=.builtin .copy,args:= #[x,y],argTypes:= #[t,t2]}) ty (λp L'=>p=ah (min m n:Nat)/\L'=f (.own e 1 A n c (news.take (min m n)++xs.drop (min m n)))):=by
 have h:=NH (ty:=ty) (t2:=t2) T hs (i:=0) (n:=n) (c:=c) (by rw[he];congr 2;rw[nJ];split<;>simp[Py]) (bD _) hy hb h1;rw[oC,mh,mH,ET]at h;exact h
end
end
theorem gh(h:L.Perm L'):(a::L).Perm (a::L'):=h.cons a
theorem dL(h:Wk L L'):Wk (a::L) (a::L'):=h.cons
theorem oI{x:Ch}(h:(a0::L).Perm L'):(a0::x::L).Perm (x::L'):=((gh (.refl _)).cons a0).trans ((List.Perm.swap x a0 _).trans (h.cons x))
theorem gC{x:Ch}(h:Wk (a0::L) L'):Wk (a0::x::L) (x::L'):=(Wk.c_ (oI (.refl _))).trans h.cons
theorem z_{x:Ch}(h:(a0::a1::L).Perm L'):(a0::a1::x::L).Perm (x::L'):=((oI (.refl _)).cons a0).trans ((List.Perm.swap x a0 _).trans (h.cons x))
theorem lU{x:Ch}(h:Wk (a0::a1::L) L'):Wk (a0::a1::x::L) (x::L'):=(Wk.c_ (z_ (.refl _))).trans h.cons
theorem pu3{x:Ch}(h:(a0::a1::a2::L).Perm L'):(a0::a1::a2::x::L).Perm (x::L'):=((z_ (.refl _)).cons a0).trans ((List.Perm.swap x a0 _).trans (h.cons x))
theorem vu{x:Ch}(h:Wk (a0::a1::a2::L) L'):Wk (a0::a1::a2::x::L) (x::L'):=(Wk.c_ (pu3 (.refl _))).trans h.cons
theorem pu4{x:Ch}(h:(a0::a1::a2::a3::L).Perm L'):(a0::a1::a2::a3::x::L).Perm (x::L'):=((pu3 (.refl _)).cons a0).trans ((List.Perm.swap x a0 _).trans (h.cons x))
theorem X4{x:Ch}(h:Wk (a0::a1::a2::a3::L) L'):Wk (a0::a1::a2::a3::x::L) (x::L'):=(Wk.c_ (pu4 (.refl _))).trans h.cons
theorem pu5{x:Ch}(h:(a0::a1::a2::a3::a4::L).Perm L'):(a0::a1::a2::a3::a4::x::L).Perm (x::L'):=((pu4 (.refl _)).cons a0).trans ((List.Perm.swap x a0 _).trans (h.cons x))
theorem pu6{x:Ch}(h:(a0::a1::a2::a3::a4::a5::L).Perm L'):(a0::a1::a2::a3::a4::a5::x::L).Perm (x::L'):=((pu5 (.refl _)).cons a0).trans ((List.Perm.swap x a0 _).trans (h.cons x))
theorem wu6{x:Ch}(h:Wk (a0::a1::a2::a3::a4::a5::L) L'):Wk (a0::a1::a2::a3::a4::a5::x::L) (x::L'):=(Wk.c_ (pu6 (.refl _))).trans h.cons
theorem pu7{a6 x:Ch}(h:(a0::a1::a2::a3::a4::a5::a6::L).Perm L'):(a0::a1::a2::a3::a4::a5::a6::x::L).Perm (x::L'):=((pu6 (.refl _)).cons a0).trans ((List.Perm.swap x a0 _).trans (h.cons x))
theorem wu7{a6 x:Ch}(h:Wk (a0::a1::a2::a3::a4::a5::a6::L) L'):Wk (a0::a1::a2::a3::a4::a5::a6::x::L) (x::L'):=(Wk.c_ (pu7 (.refl _))).trans h.cons
theorem ae(h:P:=by(kernel_rfl)):P:=h
theorem JE:tc Tryz.prog 24 62 4 48 (.agg #[.int .u64 0,.int .u8 0,.string ⟨#[]⟩,.string ⟨#[]⟩]):=kY underlying24 ae rfl aa
theorem bP:tc Tryz.prog 27 5 1 1 (.int .u8 0):=kY underlying27 ae rfl aa
theorem fO:tc Tryz.prog 52 27 1 24 (.slice none 0 0):=kY underlying52 ae rfl aa
theorem gF:tc Tryz.prog 53 3 1 8 (ah 0):=kY underlying53 ae rfl aa
theorem asW:tc Tryz.prog 63 23 6 48 (.agg #[ah 0,.bool false,ah 0,ah 0,ah 0,ah 0]):=kY underlying63 ae rfl aa
theorem FY:tc Tryz.prog 87 9 1 16 (.string ⟨#[]⟩):=kY underlying87 ae rfl aa
theorem alY:tc Tryz.prog 88 53 1 24 (.slice none 0 0):=kY underlying88 ae rfl aa
theorem Qg:tc Tryz.prog 97 170 3 24 (.agg #[.int .u8 0,ah 0,ah 0]):=kY underlying97 ae rfl aa
theorem sY:tc Tryz.prog 159 57 1 2 (.int .u16 0):=kY underlying159 ae rfl aa
theorem aow:tc Tryz.prog 183 60 1 8 (.int .u64 0):=kY underlying183 ae rfl aa
theorem afH:tc Tryz.prog 186 4 1 1 (.bool false):=kY underlying186 ae rfl aa
theorem vi:tc Tryz.prog 213 135 1 4 (.int .u32 0):=kY underlying213 ae rfl aa
theorem BL:tc Tryz.prog 281 283 2 32 (.agg #[.int .u64 0,.slice none 0 0]):=kY underlying281 ae rfl aa
theorem FX:tc Tryz.prog 392 397 2 16 (.agg #[.int .u64 0,.bool false]):=kY underlying392 ae rfl aa
theorem afI:tc Tryz.prog 394 392 1 24 (.slice none 0 0):=kY underlying394 ae rfl aa
theorem aox:tc Tryz.prog 422 52 1 24 (.slice none 0 0):=kY underlying422 ae rfl aa
theorem co2:aK Tryz.prog 2:=aQ func2 aE rfl
theorem atF:aK Tryz.prog 20:=aQ func20 aE rfl
theorem atG:aK Tryz.prog 21:=aQ func21 aE rfl
theorem atH:aK Tryz.prog 23:=aQ func23 aE rfl
theorem atI:aK Tryz.prog 37:=aQ func37 aE rfl
theorem aqQ:aK Tryz.prog 49:=aQ func49 aE rfl
theorem atJ:aK Tryz.prog 53:=aQ func53 aE rfl
theorem atK:aK Tryz.prog 54:=aQ func54 aE rfl
theorem aqR:aK Tryz.prog 57:=aQ func57 aE rfl
theorem atL:aK Tryz.prog 58:=aQ func58 aE rfl
theorem atM:aK Tryz.prog 61:=aQ func61 aE rfl
theorem atN:aK Tryz.prog 73:=aQ func73 aE rfl
theorem atO:aK Tryz.prog 80:=aQ func80 aE rfl
theorem aqS:aK Tryz.prog 84:=aQ func84 aE rfl
theorem atP:aK Tryz.prog 91:=aQ func91 aE rfl
theorem aqT:aK Tryz.prog 92:=aQ func92 aE rfl
theorem Vz:aK Tryz.prog 101:=aQ func101 aE rfl
theorem ak0:aK Tryz.prog 102:=aQ func102 aE rfl
theorem ak1:aK Tryz.prog 111:=aQ func111 aE rfl
theorem aqb:aK Tryz.prog 118:=aQ func118 aE rfl
theorem ak2:aK Tryz.prog 119:=aQ func119 aE rfl
theorem ak3:aK Tryz.prog 122:=aQ func122 aE rfl
theorem aqc:aK Tryz.prog 124:=aQ func124 aE rfl
theorem aqd:aK Tryz.prog 129:=aQ func129 aE rfl
theorem ak4:aK Tryz.prog 136:=aQ func136 aE rfl
theorem ach:aK Tryz.prog 138:=aQ func138 aE rfl
theorem Nj:aK Tryz.prog 139:=aQ func139 aE rfl
theorem aqe:aK Tryz.prog 142:=aQ func142 aE rfl
theorem ak5:aK Tryz.prog 152:=aQ func152 aE rfl
theorem D3:aK Tryz.prog 153:=aQ func153 aE rfl
theorem aqf:aK Tryz.prog 154:=aQ func154 aE rfl
theorem ak6:aK Tryz.prog 156:=aQ func156 aE rfl
theorem aqg:aK Tryz.prog 157:=aQ func157 aE rfl
theorem aqh:aK Tryz.prog 158:=aQ func158 aE rfl
theorem ak7:aK Tryz.prog 170:=aQ func170 aE rfl
theorem aqi:aK Tryz.prog 177:=aQ func177 aE rfl
theorem aqj:aK Tryz.prog 178:=aQ func178 aE rfl
theorem aqk:aK Tryz.prog 179:=aQ func179 aE rfl
theorem aql:aK Tryz.prog 180:=aQ func180 aE rfl
theorem aqm:aK Tryz.prog 181:=aQ func181 aE rfl
theorem ak8:aK Tryz.prog 183:=aQ func183 aE rfl
theorem aqn:aK Tryz.prog 186:=aQ func186 aE rfl
theorem ak9:aK Tryz.prog 188:=aQ func188 aE rfl
theorem aqo:aK Tryz.prog 192:=aQ func192 aE rfl
theorem aqp:aK Tryz.prog 199:=aQ func199 aE rfl
theorem ak_:aK Tryz.prog 203:=aQ func203 aE rfl
theorem aqq:aK Tryz.prog 204:=aQ func204 aE rfl
theorem aci:aK Tryz.prog 205:=aQ func205 aE rfl
theorem aqr:aK Tryz.prog 207:=aQ func207 aE rfl
theorem aqs:aK Tryz.prog 209:=aQ func209 aE rfl
theorem VA:aK Tryz.prog 212:=aQ func212 aE rfl
theorem ak':aK Tryz.prog 213:=aQ func213 aE rfl
theorem aqt:aK Tryz.prog 217:=aQ func217 aE rfl
theorem VB:aK Tryz.prog 219:=aQ func219 aE rfl
theorem aqu:aK Tryz.prog 220:=aQ func220 aE rfl
theorem aqv:aK Tryz.prog 221:=aQ func221 aE rfl
theorem aqw:aK Tryz.prog 224:=aQ func224 aE rfl
theorem aqx:aK Tryz.prog 225:=aQ func225 aE rfl
theorem aqy:aK Tryz.prog 226:=aQ func226 aE rfl
theorem aqz:aK Tryz.prog 227:=aQ func227 aE rfl
theorem aqA:aK Tryz.prog 235:=aQ func235 aE rfl
theorem ala:aK Tryz.prog 238:=aQ func238 aE rfl
theorem aqB:aK Tryz.prog 243:=aQ func243 aE rfl
theorem aqC:aK Tryz.prog 247:=aQ func247 aE rfl
theorem alb:aK Tryz.prog 248:=aQ func248 aE rfl
theorem aqD:aK Tryz.prog 250:=aQ func250 aE rfl
theorem aqE:aK Tryz.prog 264:=aQ func264 aE rfl
theorem aqF:aK Tryz.prog 267:=aQ func267 aE rfl
theorem aqG:aK Tryz.prog 268:=aQ func268 aE rfl
theorem aqH:aK Tryz.prog 272:=aQ func272 aE rfl
theorem alc:aK Tryz.prog 276:=aQ func276 aE rfl
theorem aqI:aK Tryz.prog 299:=aQ func299 aE rfl
theorem aqJ:aK Tryz.prog 302:=aQ func302 aE rfl
theorem aqK:aK Tryz.prog 303:=aQ func303 aE rfl
theorem VD:aK Tryz.prog 315:=aQ func315 aE rfl
theorem aqL:aK Tryz.prog 316:=aQ func316 aE rfl
theorem aqM:aK Tryz.prog 317:=aQ func317 aE rfl
theorem aqN:aK Tryz.prog 320:=aQ func320 aE rfl
theorem aqO:aK Tryz.prog 325:=aQ func325 aE rfl
theorem aqP:aK Tryz.prog 329:=aQ func329 aE rfl
theorem acj:aK Tryz.prog 340:=aQ func340 aE rfl
theorem ack:aK Tryz.prog 341:=aQ func341 aE rfl
section
theorem alB:type_of% @List.Sublist.refl:= @List.Sublist.refl
theorem fN:type_of% @List.sublist_append_right:= @List.sublist_append_right
theorem eZ:type_of% @List.length_map:= @List.length_map
theorem EU:type_of% @List.all_eq_true:= @List.all_eq_true
theorem uH:type_of% @List.getElem_mem:= @List.getElem_mem
theorem nK:type_of% @List.take_succ_cons:= @List.take_succ_cons
theorem Co:type_of% @List.drop_succ_cons:= @List.drop_succ_cons
inductive Hd(Q:Prop):Prop where
 |mk (x:Q):Hd Q
theorem Hd.x{Q:Prop}:Hd Q->Q
 |⟨x⟩=>x
theorem aU{c:Ch}{L:aN}{f:Ch->aN}(h:m9 c L f:=by((repeat (first|exact .hd|apply m9.tl));(first|done|fail))):m9 c L f:=h
theorem aA{L:aN}{v:Value}{n:Nat}{xs:cQ}(h:aJ B w0 L size v n xs:=by first|(exact aJ.own (by repeat (first|exact List.Mem.head _|apply List.Mem.tail)))|((repeat (first|assumption|apply aJ.cons));(first|done|fail))):aJ B w0 L size v n xs:=h
theorem gI{α:Type}{S L:List α}(h:S.Sublist L:=by((repeat (first|exact alB _|exact List.nil_sublist _|exact fN _ _|apply List.Sublist.cons_cons|apply List.Sublist.cons));(first|done|fail))):S.Sublist L:=h
theorem bY{xs:cQ}(h:∀u∈xs,u.oneCell'=true:=by first|exact uk _|exact afS _|exact OI _ _|(simp;(first|done|fail))|(simp[Value.oneCell'];(first|done|fail))|assumption):∀u∈xs,u.oneCell'=true:=h
theorem a_{fr jD:Fr}(h:Sub fr jD:=by((repeat (first|exact trivial|(refine⟨by first|rfl|exact anC (by omega)|exact asX (by omega),?_⟩)));(first|done|fail))):Sub fr jD:=h
def okF(P:Program)(f:FuncId):Bool:=match P.funcs[f]? with|some fn=> !(fn.name== "runtime.NumGoroutine")&&fn.body.isSome|none=>false
theorem Z4{P:Program}{f:FuncId}(h:okF P f=true):aK P f:=by
 unfold okF at h;split at h
 ·rename_i fn hf;rw[Bg]at h;exact aQ hf (by simpa using h.1) h.2
 ·cases h
def asl(P:Program)(t:TypeId):Bool:=match P.underlying t with|some (.slice _)=>true|_=>false
def isStr(P:Program)(t:TypeId):Bool:=match P.underlying t with|some .string=>true|_=>false
def asj(P:Program)(t:TypeId):Bool:=match P.underlying t with|some (.pointer e)=>Nat.beq e (P.pointee t)|_=>false
def isK(P:Program)(t:TypeId)(k:IntKind):Bool:=match P.underlying t with|some (.int k')=>decide (k'=k)|_=>false
def ad0(P:Program)(t:TypeId)(n:Nat):Bool:=match P.underlying t with|some (.slice e)=>(match P.info? e with|some i=>Nat.beq i.size n|none=>false)|_=>false
section
variable{C:Cx}{Q:Exit->Fr->aN->Prop}{fr jD:Fr}{L L':aN}{ops:Array Oper}{l:sg}{op:Op}{ty t:TypeId}{pos:String}{af:Array Edge}{d g o:Nat}{v:Value}{x y:Operand}{A:bh}{n c:Nat}{k:IntKind}{m:Int}
theorem asi(h:isK C.P t k=true):C.P.underlying t=some (.int k):=by
 unfold isK at h;split at h
 ·rename_i hu;rw[hu,E0 h]
 ·cases h
theorem alA(h:asj C.P t=true):C.P.underlying t=some (.pointer (C.P.pointee t)):=by
 unfold asj at h;split at h
 ·rename_i hu;rw[hu,wB h]
 ·cases h
theorem anD(h:ad0 C.P t n=true):∃e,C.P.underlying t=some (.slice e)/\(C.P.info? e).map (·.size)=some n:=by
 unfold ad0 at h;split at h
 ·rename_i e hu;refine⟨e,hu,?_⟩;split at h
  ·rename_i i hi;rw[hi,<-wB h];rfl
  ·cases h
 ·cases h
theorem Y4(h:asl C.P t=true)(he:ev fr x=some (.slice A n c)):gX C fr L (.call {callee:=.builtin .len,args:= #[x],argTypes:= #[t]}) ty (ah (n:Int)):=by
 unfold asl at h;split at h
 ·rename_i e hu;exact pB hu he
 ·cases h
theorem ac9{s:aq}(h:isStr C.P t=true)(he:ev fr x=some (.string ⟨s.toArray⟩)):gX C fr L (.call {callee:=.builtin .len,args:= #[x],argTypes:= #[t]}) ty (ah (E s:Int)):=by
 unfold isStr at h;split at h
 ·rename_i hu;exact YD hu he
 ·cases h
theorem aq_{i:Nat}{xs:cQ}(he:ev fr x=some (.slice A n c))(h2:ev fr y=some (.int k m))(hm:m=(i:Int))(hb:aJ C.B C.w0 L size (.slice A n c) n xs)(hz:ad0 C.P t size=true)(hi:i<n):
  gX C fr L (.indexAddr t x y) ty (.pointer (A.map (·.add (i*size)))):=by
 obtain⟨e,h1,h3⟩:=anD hz;exact az h1 h3 he h2 hm hi hb
def ai4(t i:Nat):List (Nat×br)->Option Nat
 |[]=>none
 |(s,q)::r=>bif Nat.beq s t then q[i]? else ai4 t i r
def wZ{α:Type}(t:Nat):List (Nat×α)->Option α
 |[]=>none
 |(s,q)::r=>bif Nat.beq s t then some q else wZ t r
def ai1(t:Nat):br->Bool
 |[]=>false
 |s::r=>bif Nat.beq s t then true else ai1 t r
def asm:List (Nat×IntKind):=[(3,.i64),(5,.u8),(57,.u16),(60,.u64),(135,.u32),(192,.u64),(398,.u64)]
def asQ:br:=[3,4,5,9,24,27,28,52,53,57,60,87,88,101,106,135,140,159,176,183,186,213,242,278,290,298,392,398,436]
def ao1:List (Nat×Nat):=[(23,6),(41,5),(62,4),(83,4),(90,2),(161,2),(166,4),(170,3),(195,3),(217,1),(235,3),(272,3),(283,2),(303,16),(350,3),(366,1),(382,256),(397,2),(426,16)]
theorem X1:ao1.all (λq=>pH Tryz.prog q.1 q.2)=true:=by kernel_rfl
theorem aiS:asm.all (λq=>isK Tryz.prog q.1 q.2)=true:=by kernel_rfl
theorem aj0:asQ.all (qQ Tryz.prog)=true:=by kernel_rfl
theorem zk{α:Type}{p:Nat->α->Bool}{k:α}:∀l:List (Nat×α),l.all (λq=>p q.1 q.2)=true->wZ t l=some k->p t k=true
 |[],_,h=>by cases h
 |(s,r)::l,ha,h=>by
  simp only[List.all_cons,Bg]at ha;unfold wZ at h;cases hb:Nat.beq s t with
  |true=>
   rw[hb,Hg]at h;injection h with h;rw[<-wB hb,<-h];exact ha.1
  |false=>rw[hb,cond_false]at h;exact zk l ha.2 h
theorem WT{p:Nat->Bool}:∀l:br,l.all p=true->ai1 t l=true->p t=true
 |[],_,h=>by cases h
 |s::l,ha,h=>by
  simp only[List.all_cons,Bg]at ha;unfold ai1 at h;cases hb:Nat.beq s t with
  |true=>rw[<-wB hb];exact ha.1
  |false=>rw[hb,cond_false]at h;exact WT l ha.2 h
theorem aq'{bt:TypeId}{f:Ch->aN}(h:ai1 t asQ=true)(he:ev fr x=some (.pointer (some ⟨g,o,none⟩)))(hm:m9 (.bI g bt cs) L f)(hv:cs[o]? =some v):gX ⟨Tryz.prog,N,B,w0⟩ fr L (.load t x) ty v:=bL (WT (p:=qQ Tryz.prog) _ aj0 h) he hm hv
theorem ac_{f:Ch->aN}{bt:TypeId}(h:wZ t ao1=some kk)(he:ev fr x=some (bq g))(hm:m9 (.bI g bt cs) L f)(hk:E cs=kk):gX ⟨Tryz.prog,N,B,w0⟩ fr L (.load t x) ty (.agg cs.toArray):=Eb (C:=⟨Tryz.prog,N,B,w0⟩) kk (zk (p:=pH Tryz.prog) _ X1 h) he hm hk
theorem ac8{s:TypeId}{k':IntKind}(hs:isK C.P s k=true)(ht:isK C.P t k'=true)(he:ev fr x=some (.int k m))(hr:k'.wrap m=m):gX C fr L (.convert s t x) ty (.int k' m):=be (asi hs) (asi ht) he hr
theorem aip{s:TypeId}{k':IntKind}(ht:wZ t asm=some k')(he:ev fr x=some (.int k m))(hr:k'.wrap m=m)(hs:isK Tryz.prog s k=true):gX ⟨Tryz.prog,N,B,w0⟩ fr L (.convert s t x) ty (.int k' m):=ac8 (C:=⟨Tryz.prog,N,B,w0⟩) hs (zk (p:=isK Tryz.prog) _ aiS ht) he hr
def ajn(P:Program)(t:TypeId):br:=match P.underlying t with
 |some (.struct fs)=>bif fs.toList.all (λfd=>Cg P fd.type) then fs.toList.map (·.offset) else []
 |_=>[]
def aqZ:List (Nat×br):=[(23,[0,1,2,3,4,5]),(41,[0,1,2,3,4]),(59,[0,1]),(62,[0,1,2,3]),(69,[0,5,11]),(83,[0,1,2,3]),(90,[0,1]),(108,[0,1,2]),(119,[0,6,7]),(154,[0,1,2]),(161,[0,1]),(166,[0,1,2,3]),(170,[0,1,2]),(179,[0,1]),(185,[0,1]),(188,[0,4,6,8,9]),(195,[0,1,2]),(205,[0,1,2,8,9]),(217,[0]),(235,[0,1,2]),(237,[0,1]),(239,[0]),(249,[0,1]),(256,[0,1]),(258,[0,2]),(272,[0,1,2]),(280,[0,3,4,5]),(283,[0,1]),(292,[0,2,3]),(300,[0,1]),(343,[0,1]),(347,[0,2,18,34]),(366,[0]),(369,[0]),(371,[0,1,2]),(379,[0,1,2,3,4]),(397,[0,1]),(405,[0]),(419,[0]),(421,[0,3]),(451,[0,2]),(455,[0,1,2])]
theorem aic:aqZ.all (λq=>decide (ajn Tryz.prog q.1=q.2))=true:=by kernel_rfl
theorem NU{p:Nat->br}{i q:Nat}:∀l:List (Nat×br),l.all (λq=>decide (p q.1=q.2))=true->ai4 t i l=some q->(p t)[i]? =some q
 |[],_,h=>by cases h
 |(s,r)::l,ha,h=>by
  simp only[List.all_cons,Bg]at ha;unfold ai4 at h;cases hb:Nat.beq s t with
  |true=>
   rw[hb,Hg]at h;rw[<-wB hb,E0 ha.1];exact h
  |false=>rw[hb,cond_false]at h;exact NU l ha.2 h
theorem amY{i p:Nat}(h:(ajn C.P t)[i]? =some q)(he:ev fr x=some (.pointer (some ⟨g,o,none⟩)))(hq:o+q=p):gX C fr L (.fieldAddr t x i) ty (.pointer (some ⟨g,p,none⟩)):=by
 unfold ajn at h;split at h
 ·rename_i fs hu;cases hb:fs.toList.all (λfd=>Cg C.P fd.type)with
  |false=>rw[hb]at h;cases h
  |true=>
   rw[hb,Hg]at h;obtain⟨hi,Ha⟩:=Hi.1 h;simp only[eZ,E1]at hi Ha;have hm:=EU.1 hb _ (uH hi);refine Ea (fs:=fs) (fd:=fs.toList[i]) hu ?_ hm he (by rw[Ha];exact hq);simp
 ·cases h
theorem aq8{i p:Nat}(h:ai4 t i aqZ=some q)(he:ev fr x=some (.pointer (some ⟨g,o,none⟩)))(hq:o+q=p):gX ⟨Tryz.prog,N,B,w0⟩ fr L (.fieldAddr t x i) ty (.pointer (some ⟨g,p,none⟩)):=
 amY (C:=⟨Tryz.prog,N,B,w0⟩) (NU (p:=ajn Tryz.prog) _ aic h) he hq
end
theorem dt(h:p:=by first
 |(with_reducible apply ek);exact rfl
 |(with_reducible apply lW);exact rfl
 |(with_reducible apply aq8)<;>exact rfl
 |(with_reducible apply Kk);exact rfl
 |(with_reducible apply Ns)<;>exact rfl
 |(with_reducible apply aq');exact rfl;exact rfl;exact aU;exact rfl
 |(with_reducible apply Y4);kernel_rfl;exact rfl
 |(with_reducible apply ah7)<;>exact rfl
 |(with_reducible apply yA)<;>exact rfl
 |(with_reducible apply ah3)<;>exact rfl
 |(with_reducible apply ah5)<;>exact rfl
 |(with_reducible apply ah6)<;>exact rfl
 |(with_reducible apply ah4)<;>exact rfl
 |(with_reducible apply R5)<;>exact rfl
 |(with_reducible apply R6)<;>exact rfl
 |(with_reducible apply AJ)<;>exact rfl
 |(with_reducible apply AI)<;>exact rfl
 |(with_reducible apply bF);exact rfl;exact rfl;exact bj (by omega) (by omega)
 |(with_reducible apply cU);exact rfl;exact rfl;exact bj (by omega) (by omega)
 |(with_reducible apply eo);exact rfl;exact rfl;exact bj (by omega) (by omega)
 |(with_reducible apply aq_);exact rfl;exact rfl;exact rfl;exact aA;kernel_rfl;omega
 |(with_reducible apply ac_);exact rfl;exact rfl;exact aU;(first|rfl|(simp;omega)|(simp[*];first|done|fail))
 |(with_reducible apply l8);kernel_rfl;exact rfl;exact aA;omega
 |(with_reducible apply Kh);kernel_rfl;exact rfl;exact aA;omega
 |(with_reducible apply im);kernel_rfl;exact rfl;exact aA;omega
 |(with_reducible apply GZ);kernel_rfl;exact rfl;exact aA;omega
 |(with_reducible apply ac9);kernel_rfl;exact rfl
 |(with_reducible apply aip);exact rfl;exact rfl;(first|exact bj (by omega) (by omega)|exact eQ (by omega) (by omega)|exact Gw (by omega) (by omega)|exact amb (by omega) (by omega));kernel_rfl
 |(with_reducible apply Nu);exact alA (by kernel_rfl);exact rfl;exact rfl
 |(with_reducible apply Kl);exact alA (by kernel_rfl);exact rfl;exact rfl
 |(with_reducible apply YE)<;>exact rfl
 |(with_reducible apply It)<;>exact rfl
 |(with_reducible apply Ki)<;>exact rfl
 |exact acA rfl):p:=h
theorem ard{fr:Fr}{L:aN}{ty t bt:TypeId}{x y:Operand}{g:Nat}{f:Ch->aN}(h:wZ t ao1=some kk)(he:ev fr x=some (bq g))(hv:ev fr y=some (.agg us.toArray))(h1:∀u∈us,u.oneCell'=true)(hm:m9 (.bI g bt cs) L f)(hk:E cs=kk)(hu:E us=kk):
 ra ⟨Tryz.prog,N,B,w0⟩ fr L (.store t x y) ty (λp L'=>L'=f (.bI g bt us)):=tp (C:=⟨Tryz.prog,N,B,w0⟩) kk (zk (p:=pH Tryz.prog) _ X1 h) he hv h1 hm hk hu
theorem alp(h:p:=by first
 |exact G1 (by kernel_rfl) rfl rfl aU (by first|omega|(simp;(first|done|fail))|(simp;omega))
 |exact oX (by kernel_rfl) rfl rfl rfl aU (by simp;(first|done|fail))
 |exact fy (by kernel_rfl) rfl rfl rfl aU (by first|omega|(simp;(first|done|fail))|(simp;omega))
 |exact ard rfl rfl rfl bY aU (by first|rfl|(simp;omega)|(simp[*];(first|done|fail))) (by first|rfl|(simp;omega)|(simp[*];(first|done|fail)))):p:=h
section
variable{C:Cx}{Q:Exit->Fr->aN->Prop}{fr jD:Fr}{L L' S:aN}{ops:Array Oper}{l:sg}{op:Op}{ty t:TypeId}{pos:String}{af:Array Edge}{d g o:Nat}{v:Value}{x y:Operand}{fuel:Nat}{li:Array Bool}{ar:List Operand}{Dh:Array TypeId}{vs:cQ}{f:FuncId}{gu:Option (Nat×Bool)}{i:Nat}
theorem ai{v:Value}(he:AN fr ar=some vs)(h:dQ C.P C.B C.w0 f vs L (λr M=>r=v/\M=L1))(k:VL C ops Q l ((d,v)::fr) L1)(hc:aK C.P f:=by exact Z4 (by kernel_rfl))(hd:Nat.blt d C.N=true:=by exact rfl):
 VL C ops Q (⟨some d,.call {callee:=.value (.func f),args:=ar.toArray,argTypes:=Dh},ty,pos,af,none⟩::l) fr L:=bp hc he h hd λv L' ⟨h1,h2⟩=>by subst h1;subst h2;exact k
theorem ay{α β:Type}{v:α->β->Value}{L1:α->β->aN}(he:AN fr ar=some vs)(h:dQ C.P C.B C.w0 f vs L (λr M=>∃a b,r=v a b/\M=L1 a b))(k:∀a b,VL C ops Q l ((d,v a b)::fr) (L1 a b))(hc:aK C.P f:=by exact Z4 (by kernel_rfl))(hd:Nat.blt d C.N=true:=by exact rfl):
 VL C ops Q (⟨some d,.call {callee:=.value (.func f),args:=ar.toArray,argTypes:=Dh},ty,pos,af,none⟩::l) fr L:=bp hc he h hd λv L' ⟨a,b,h1,h2⟩=>by subst h1;subst h2;exact k a b
theorem dV{α β γ:Type}{v:α->β->γ->Value}{L1:α->β->γ->aN}(he:AN fr ar=some vs)(h:dQ C.P C.B C.w0 f vs L (λr M=>∃a b e,r=v a b e/\M=L1 a b e))(k:∀a b e,VL C ops Q l ((d,v a b e)::fr) (L1 a b e))(hc:aK C.P f:=by exact Z4 (by kernel_rfl))(hd:Nat.blt d C.N=true:=by exact rfl):
 VL C ops Q (⟨some d,.call {callee:=.value (.func f),args:=ar.toArray,argTypes:=Dh},ty,pos,af,none⟩::l) fr L:=bp hc he h hd λv L' ⟨a,b,e,h1,h2⟩=>by subst h1;subst h2;exact k a b e
theorem ko(h:ra C fr L op ty (λp M=>M=L1))(k:VL C ops Q l fr L1):VL C ops Q (⟨none,op,ty,pos,af,none⟩::l) fr L:=akB h λv L' h1=>by subst h1;exact k
theorem cv{α:Type}{v:α->Value}{L1:α->aN}(h:ra C fr L op ty (λp M=>∃a,p=v a/\M=L1 a))(k:∀a,VL C ops Q l ((d,v a)::fr) (L1 a))(hd:Nat.blt d C.N=true:=by exact rfl):VL C ops Q (⟨some d,op,ty,pos,af,none⟩::l) fr L:=ou h hd λv L' ⟨a,h1,h2⟩=>by subst h1;subst h2;exact k a
theorem dB{α β:Type}{v:α->β->Value}{L1:α->β->aN}(h:ra C fr L op ty (λp M=>∃a b,p=v a b/\M=L1 a b))(k:∀a b,VL C ops Q l ((d,v a b)::fr) (L1 a b))(hd:Nat.blt d C.N=true:=by exact rfl):VL C ops Q (⟨some d,op,ty,pos,af,none⟩::l) fr L:=ou h hd λv L' ⟨a,b,h1,h2⟩=>by subst h1;subst h2;exact k a b
theorem fM{e:TypeId}(k:∀g,VL C ops Q l ((d,bq g)::fr) (.bI g e cs::L))(he:ev fr x=some v:=by exact rfl)(hc:v.cells=cs.toArray:=by exact rfl)(hd:Nat.blt d C.N=true:=by exact rfl):VL C ops Q (⟨some d,.box e x,ty,pos,af,none⟩::l) fr L:=cv (aia he hc) k hd
def amh(P:Program):List (Nat×Value)->Prop
 |[]=>True
 |q::r=>(P.info? q.1).bind (·.zero)=some q.2/\amh P r
def apa:List (Nat×Value):=[(3,ah 0),(4,.bool false),(9,.string ⟨#[]⟩),(23,.agg #[ah 0,.bool false,ah 0,ah 0,ah 0,ah 0]),(27,.slice none 0 0),(41,.agg #[ah 0,ah 0,ah 0,ah 0,.bool false]),(52,.slice none 0 0),(60,.int .u64 0),(62,.agg #[.int .u64 0,.int .u8 0,.string ⟨#[]⟩,.string ⟨#[]⟩]),(83,.agg #[.slice none 0 0,.slice none 0 0,ah 0,ah 0]),(87,.slice none 0 0),(90,.agg #[.slice none 0 0,.slice none 0 0]),(161,.agg #[.slice none 0 0,.slice none 0 0]),(166,.agg #[ah 0,ah 0,ah 0,ah 0]),(170,.agg #[.int .u8 0,ah 0,ah 0]),(186,.slice none 0 0),(195,.agg #[ah 0,ah 0,ah 0]),(217,.agg #[.slice none 0 0]),(235,.agg #[ah 0,.slice none 0 0,.slice none 0 0]),(239,.agg #[.slice none 0 0,ah 0]),(272,.agg #[ah 0,ah 0,.slice none 0 0]),(350,.agg #[.int .u8 0,.int .u8 0,.int .u8 0]),(366,.agg #[.pointer none]),(382,.agg #[.int .u8 0,.int .u8 0,.int .u8 0,.int .u8 0,.int .u8 0,.int .u8 0,.int .u8 0,.int .u8 0,.int .u8 0,.int .u8 0,.int .u8 0,.int .u8 0,.int .u8 0,.int .u8 0,.int .u8 0,.int .u8 0,.int .u8 0,.int .u8 0,.int .u8 0,.int .u8 0,.int .u8 0,.int .u8 0,.int .u8 0,.int .u8 0,.int .u8 0,.int .u8 0,.int .u8 0,.int .u8 0,.int .u8 0,.int .u8 0,.int .u8 0,.int .u8 0,.int .u8 0,.int .u8 0,.int .u8 0,.int .u8 0,.int .u8 0,.int .u8 0,.int .u8 0,.int .u8 0,.int .u8 0,.int .u8 0,.int .u8 0,.int .u8 0,.int .u8 0,.int .u8 0,.int .u8 0,.int .u8 0,.int .u8 0,.int .u8 0,.int .u8 0,.int .u8 0,.int .u8 0,.int .u8 0,.int .u8 0,.int .u8 0,.int .u8 0,.int .u8 0,.int .u8 0,.int .u8 0,.int .u8 0,.int .u8 0,.int .u8 0,.int .u8 0,.int .u8 0,.int .u8 0,.int .u8 0,.int .u8 0,.int .u8 0,.int .u8 0,.int .u8 0,.int .u8 0,.int .u8 0,.int .u8 0,.int .u8 0,.int .u8 0,.int .u8 0,.int .u8 0,.int .u8 0,.int .u8 0,.int .u8 0,.int .u8 0,.int .u8 0,.int .u8 0,.int .u8 0,.int .u8 0,.int .u8 0,.int .u8 0,.int .u8 0,.int .u8 0,.int .u8 0,.int .u8 0,.int .u8 0,.int .u8 0,.int .u8 0,.int .u8 0,.int .u8 0,.int .u8 0,.int .u8 0,.int .u8 0,.int .u8 0,.int .u8 0,.int .u8 0,.int .u8 0,.int .u8 0,.int .u8 0,.int .u8 0,.int .u8 0,.int .u8 0,.int .u8 0,.int .u8 0,.int .u8 0,.int .u8 0,.int .u8 0,.int .u8 0,.int .u8 0,.int .u8 0,.int .u8 0,.int .u8 0,.int .u8 0,.int .u8 0,.int .u8 0,.int .u8 0,.int .u8 0,.int .u8 0,.int .u8 0,.int .u8 0,.int .u8 0,.int .u8 0,.int .u8 0,.int .u8 0,.int .u8 0,.int .u8 0,.int .u8 0,.int .u8 0,.int .u8 0,.int .u8 0,.int .u8 0,.int .u8 0,.int .u8 0,.int .u8 0,.int .u8 0,.int .u8 0,.int .u8 0,.int .u8 0,.int .u8 0,.int .u8 0,.int .u8 0,.int .u8 0,.int .u8 0,.int .u8 0,.int .u8 0,.int .u8 0,.int .u8 0,.int .u8 0,.int .u8 0,.int .u8 0,.int .u8 0,.int .u8 0,.int .u8 0,.int .u8 0,.int .u8 0,.int .u8 0,.int .u8 0,.int .u8 0,.int .u8 0,.int .u8 0,.int .u8 0,.int .u8 0,.int .u8 0,.int .u8 0,.int .u8 0,.int .u8 0,.int .u8 0,.int .u8 0,.int .u8 0,.int .u8 0,.int .u8 0,.int .u8 0,.int .u8 0,.int .u8 0,.int .u8 0,.int .u8 0,.int .u8 0,.int .u8 0,.int .u8 0,.int .u8 0,.int .u8 0,.int .u8 0,.int .u8 0,.int .u8 0,.int .u8 0,.int .u8 0,.int .u8 0,.int .u8 0,.int .u8 0,.int .u8 0,.int .u8 0,.int .u8 0,.int .u8 0,.int .u8 0,.int .u8 0,.int .u8 0,.int .u8 0,.int .u8 0,.int .u8 0,.int .u8 0,.int .u8 0,.int .u8 0,.int .u8 0,.int .u8 0,.int .u8 0,.int .u8 0,.int .u8 0,.int .u8 0,.int .u8 0,.int .u8 0,.int .u8 0,.int .u8 0,.int .u8 0,.int .u8 0,.int .u8 0,.int .u8 0,.int .u8 0,.int .u8 0,.int .u8 0,.int .u8 0,.int .u8 0,.int .u8 0,.int .u8 0,.int .u8 0,.int .u8 0,.int .u8 0,.int .u8 0,.int .u8 0,.int .u8 0,.int .u8 0,.int .u8 0,.int .u8 0,.int .u8 0,.int .u8 0,.int .u8 0,.int .u8 0,.int .u8 0,.int .u8 0,.int .u8 0,.int .u8 0,.int .u8 0,.int .u8 0,.int .u8 0,.int .u8 0,.int .u8 0,.int .u8 0,.int .u8 0,.int .u8 0,.int .u8 0]),(397,.agg #[.int .u64 0,.bool false]),(398,.int .u64 0),(426,.agg #[ah 0,ah 0,ah 0,ah 0,ah 0,ah 0,ah 0,ah 0,ah 0,ah 0,ah 0,ah 0,ah 0,ah 0,ah 0,ah 0]),(430,.agg #[ah 0,ah 0,ah 0,ah 0,ah 0,ah 0,ah 0,ah 0,ah 0,ah 0,ah 0,ah 0,ah 0,ah 0,ah 0,ah 0,ah 0])]
theorem akP:amh Tryz.prog apa:=⟨by kernel_rfl,by kernel_rfl,by kernel_rfl,by kernel_rfl,by kernel_rfl,by kernel_rfl,by kernel_rfl,by kernel_rfl,by kernel_rfl,by kernel_rfl,by kernel_rfl,by kernel_rfl,by kernel_rfl,by kernel_rfl,by kernel_rfl,by kernel_rfl,by kernel_rfl,by kernel_rfl,by kernel_rfl,by kernel_rfl,by kernel_rfl,by kernel_rfl,by kernel_rfl,by kernel_rfl,by kernel_rfl,by kernel_rfl,by kernel_rfl,by kernel_rfl,trivial⟩
theorem X5{P:Program}{t:TypeId}{v:Value}:∀l:List (Nat×Value),amh P l->wZ t l=some v->(P.info? t).bind (·.zero)=some v
 |[],_,h=>by cases h
 |(s,r)::l,ha,h=>by
  unfold wZ at h;cases hb:Nat.beq s t with
  |true=>
   rw[hb,Hg]at h;injection h with h;rw[<-wB hb,<-h];exact ha.1
  |false=>rw[hb,cond_false]at h;exact X5 l ha.2 h
theorem fo{e:TypeId}(k:∀g,VL ⟨Tryz.prog,N,B,w0⟩ ops Q l ((d,bq g)::fr) (.bI g e cs::L))(hz:wZ e apa=some zv:=by exact rfl)(hc:zv.cells=cs.toArray:=by exact rfl)(hd:Nat.blt d N=true:=by exact rfl):VL ⟨Tryz.prog,N,B,w0⟩ ops Q (⟨some d,.alloc e,ty,pos,af,none⟩::l) fr L:=cv (C:=⟨Tryz.prog,N,B,w0⟩) (NF (X5 _ akP hz) hc) k hd
theorem aL{cd:Code}(hs:Sub fr jD)(hp:Wk L L')(k:VC C cd Q jD L'):VC C cd Q fr L:=BU _ hs (mM hp k)
theorem AS(h:Gd ops fr gu:=by first|exact .no|exact .yes rfl rfl):Gd ops fr gu:=h
theorem lx(S:aN){l:sg}(h:VH C l.toArray S Q l.toArray.size (Array.replicate l.toArray.size false) fr L)(hm:C.P.follows .mixedOrders=true:=by kernel_rfl)(hS:S.Sublist L:=by exact gI):VC C (.region id l.toArray true) Q fr L:=JR hm hS h
theorem dI(i:Nat)(k:VH C ops S Q fuel (li.setIfInBounds i true) ((d,v)::fr) L)(ho:ops[i]? =some ⟨some d,op,ty,pos,af,none⟩:=by exact rfl)(hs:Region.noSelect ops=true:=by kernel_rfl)(hf:Region.free .any ops li i=true:=by kernel_rfl)(hr:(Region.ready .any ops li).contains i=true:=by kernel_rfl)(h:gX C fr S op ty v:=by exact dt)(hd:Nat.blt d C.N=true:=by exact rfl):VH C ops S Q (fuel+1) li fr L:=L9 i ho hs hf hr h hd k
theorem aS(i:Nat)(ho:ops[i]? =some ⟨some d,op,ty,pos,af,none⟩)(h:gX C fr S op ty v)(k:VH C ops S Q fuel (li.setIfInBounds i true) ((d,v)::fr) L)(hs:Region.noSelect ops=true:=by kernel_rfl)(hf:Region.free .any ops li i=true:=by kernel_rfl)(hr:(Region.ready .any ops li).contains i=true:=by kernel_rfl)(hd:Nat.blt d C.N=true:=by exact rfl):VH C ops S Q (fuel+1) li fr L:=L9 i ho hs hf hr h hd k
theorem aC(i:Nat)(h:Step C ops S Q fuel li fr L i)(hr:Region.ready .any ops li=[i]:=by kernel_rfl):VH C ops S Q (fuel+1) li fr L:=aoV i hr h
theorem iv(i j:Nat)(h1:Step C ops S Q fuel li fr L i)(h2:Step C ops S Q fuel li fr L j)(hr:Region.ready .any ops li=[i,j]:=by kernel_rfl):VH C ops S Q (fuel+1) li fr L:=aoW i j hr h1 h2
theorem arb(k:VH C ops S Q fuel (li.setIfInBounds i true) ((d,v)::fr) L)(ho:ops[i]? =some ⟨some d,op,ty,pos,af,gu⟩:=by exact rfl)(hg:Gd ops fr gu:=by exact AS)(h:gX C fr L op ty v:=by exact dt)(hd:Nat.blt d C.N=true:=by exact rfl)(hS:S.Sublist L:=by exact gI):Step C ops S Q fuel li fr L i:=iP ho hg h hd hS k
theorem arc(k:VH C ops S Q fuel (li.setIfInBounds i true) fr L1)(ho:ops[i]? =some ⟨none,op,ty,pos,af,gu⟩:=by exact rfl)(hg:Gd ops fr gu:=by exact AS)(h:ra C fr L op ty (λp M=>M=L1):=by exact alp)(hS:S.Sublist L1:=by exact gI):Step C ops S Q fuel li fr L i:=ky ho hg h (λv L' h=>by subst h;exact hS) (λv L' h=>by subst h;exact k)
theorem cF{α:Type}{v:α->Value}{L1:α->aN}(ho:ops[i]? =some ⟨some d,op,ty,pos,af,gu⟩)(h:ra C fr L op ty (λp M=>∃a,p=v a/\M=L1 a))(k:∀a,VH C ops S Q fuel (li.setIfInBounds i true) ((d,v a)::fr) (L1 a))(hg:Gd ops fr gu:=by exact AS)(hd:Nat.blt d C.N=true:=by exact rfl)(hS:∀a,S.Sublist (L1 a):=by intro _;exact gI):Step C ops S Q fuel li fr L i:=Uf ho hg h hd (λv L' ⟨a,h1,h2⟩=>by subst h2;exact hS a) (λv L' ⟨a,h1,h2⟩=>by subst h1;subst h2;exact k a)
theorem fh{α β:Type}{v:α->β->Value}{L1:α->β->aN}(ho:ops[i]? =some ⟨some d,op,ty,pos,af,gu⟩)(h:ra C fr L op ty (λp M=>∃a b,p=v a b/\M=L1 a b))(k:∀a b,VH C ops S Q fuel (li.setIfInBounds i true) ((d,v a b)::fr) (L1 a b))(hg:Gd ops fr gu:=by exact AS)(hd:Nat.blt d C.N=true:=by exact rfl)(hS:∀a b,S.Sublist (L1 a b):=by intro _ _;exact gI):Step C ops S Q fuel li fr L i:=Uf ho hg h hd (λv L' ⟨a,b,h1,h2⟩=>by subst h2;exact hS a b) (λv L' ⟨a,b,h1,h2⟩=>by subst h1;subst h2;exact k a b)
theorem lu(ho:ops[i]? =some ⟨some d,.call {callee:=.value (.func f),args:=ar.toArray,argTypes:=Dh},ty,pos,af,gu⟩)(he:AN fr ar=some vs)(h:dQ C.P C.B C.w0 f vs L (λr M=>r=v/\M=L1))(k:VH C ops S Q fuel (li.setIfInBounds i true) ((d,v)::fr) L1)(hg:Gd ops fr gu:=by exact AS)(hc:aK C.P f:=by exact Z4 (by kernel_rfl))(hd:Nat.blt d C.N=true:=by exact rfl)(hS:S.Sublist L1:=by exact gI):Step C ops S Q fuel li fr L i:=gS ho hg hc he h hd (λv L' ⟨h1,h2⟩=>by subst h2;exact hS) (λv L' ⟨h1,h2⟩=>by subst h1;subst h2;exact k)
theorem cj{α β:Type}{v:α->β->Value}{L1:α->β->aN}(ho:ops[i]? =some ⟨some d,.call {callee:=.value (.func f),args:=ar.toArray,argTypes:=Dh},ty,pos,af,gu⟩)(he:AN fr ar=some vs)(h:dQ C.P C.B C.w0 f vs L (λr M=>∃a b,r=v a b/\M=L1 a b))(k:∀a b,VH C ops S Q fuel (li.setIfInBounds i true) ((d,v a b)::fr) (L1 a b))(hg:Gd ops fr gu:=by exact AS)(hc:aK C.P f:=by exact Z4 (by kernel_rfl))(hd:Nat.blt d C.N=true:=by exact rfl)(hS:∀a b,S.Sublist (L1 a b):=by intro _ _;exact gI):Step C ops S Q fuel li fr L i:=gS ho hg hc he h hd (λv L' ⟨a,b,h1,h2⟩=>by subst h2;exact hS a b) (λv L' ⟨a,b,h1,h2⟩=>by subst h1;subst h2;exact k a b)
theorem aq9(h:Q .normal fr L)(hr:Region.ready .any ops li=[]:=by kernel_rfl):VH C ops S Q fuel li fr L:=λa w ha hw _=>wpAnyH_done hr (show NoPanic (lift C Q) .normal a w from⟨fr,L,ha,hw,h⟩) _
theorem di(ks:br)(h:Q .normal jD L)(hs:HF fr ks jD:=by((repeat (first|exact HF.nil|(apply HF.cons;exact rfl)));(first|done|fail)))(hr:Region.ready .any ops li=[]:=by kernel_rfl):VH C ops S Q fuel li fr L:=akA jD hs.sub hr h
theorem sE{QF:Fr->Prop}(n d:Nat)(ks:br){l1 l2:sg}(p:Prop)[Decidable p](h1:VQ C ops L (λfr=>Sub fr base/\look d fr=some (.bool (decide p))) l1 fr)(h2:VQ C ops L QF l2 ((d,.bool (decide p))::base))(hs:HF fr ks base:=by((repeat (first|exact HF.nil|(apply HF.cons;exact rfl)));(first|done|fail)))(e1:l.take n=l1:=by simp only[nK,oC];exact rfl)(e2:l.drop n=l2:=by simp only[Co,qS];exact rfl):VQ C ops L QF l fr:=ao0 n d base p hs.sub (e1▸h1) (e2▸h2)
theorem ke{u:Value}(hd:look d fr=some u)(hb:Sub fr base:=by exact a_):VQ C ops L (λfr=>Sub fr base/\look d fr=some u) [] fr:=UF hb hd
theorem atU{l:sg}(h:VQ C l.toArray L (λjD=>Q .normal jD L) l fr)(hm:C.P.follows .mixedOrders=true:=by kernel_rfl)(hB:Region.lexB .any l.toArray=true:=by kernel_rfl):VC C (.region id l.toArray true) Q fr L:=abc hm hB h
theorem ara{QF:Fr->Prop}(h:QF fr):VQ C ops L QF [] fr:=λa ha=>wpQuiet_nil ⟨fr,ha,h⟩
end
theorem aX{P Q:Prop}(k:Q)(h:Hd Q->P:=by
 intro h;first
 |(with_reducible apply ab);exact dt;exact rfl
 |(with_reducible refine avT ?_)
 |(with_reducible refine aaL ?_)
 |(with_reducible refine agP ?_)
 |(with_reducible refine aa7 ?_)
 |(with_reducible refine aoU ?_)
 |(with_reducible refine akz ?_)
 |(with_reducible refine agN ?_)
 |(with_reducible refine aky ?_)
 |(with_reducible refine agd ?_)
 |(with_reducible refine aaK ?_)
 |(with_reducible refine Zx ?_)
 |(with_reducible refine anA ?_)
 |(with_reducible refine asd ?_)
 |(with_reducible refine ZT ?_)
 |(with_reducible refine aek ?_)
 |(with_reducible refine ad1 ?_)
 |(with_reducible refine ZF ?_)
 |(with_reducible refine asN ?_)
 |(with_reducible apply UC);exact rfl;exact rfl
 |(with_reducible apply UB);exact rfl;exact rfl;exact rfl;exact rfl
 |(with_reducible apply UD);exact rfl;exact rfl;exact rfl
 |(with_reducible apply aa5);exact rfl
 |(with_reducible apply aa4);exact rfl
 |(with_reducible apply ko);exact alp
 |refine avG rfl rfl ?_
 |refine avH rfl rfl rfl ?_
 |refine avF rfl ?_
 |refine asL rfl rfl rfl rfl ?_
 |refine asM rfl rfl rfl rfl rfl ?_
 |(with_reducible refine aiN ?_ ?_);exact rfl
 |(with_reducible refine aq9 ?_)
 |(with_reducible refine atU ?_)
 |(with_reducible apply bJ);exact dt;exact rfl
 |(with_reducible refine ara ?_)
 |(with_reducible apply UH);exact rfl;exact rfl
 |(with_reducible apply UG);exact rfl;exact rfl;exact rfl;exact rfl
 |(with_reducible apply UI);exact rfl;exact rfl;exact rfl
 |refine arc ?_
 |refine arb ?_
 exact h.x):P:=h ⟨k⟩
theorem ew{P Q:Prop}(k:Q)(h:Hd Q->P:=by(intro h;(iterate 2 refine aX ?_);exact h.x)):P:=h ⟨k⟩
theorem fc{P Q:Prop}(k:Q)(h:Hd Q->P:=by(intro h;(iterate 3 refine aX ?_);exact h.x)):P:=h ⟨k⟩
theorem fb{P Q:Prop}(k:Q)(h:Hd Q->P:=by(intro h;(iterate 4 refine aX ?_);exact h.x)):P:=h ⟨k⟩
theorem dx{P Q:Prop}(k:Q)(h:Hd Q->P:=by(intro h;(iterate 5 refine aX ?_);exact h.x)):P:=h ⟨k⟩
theorem dw{P Q:Prop}(k:Q)(h:Hd Q->P:=by(intro h;(iterate 6 refine aX ?_);exact h.x)):P:=h ⟨k⟩
theorem dg{P Q:Prop}(k:Q)(h:Hd Q->P:=by(intro h;(iterate 7 refine aX ?_);exact h.x)):P:=h ⟨k⟩
theorem cY{P Q:Prop}(k:Q)(h:Hd Q->P:=by(intro h;(iterate 8 refine aX ?_);exact h.x)):P:=h ⟨k⟩
theorem dA{P Q:Prop}(k:Q)(h:Hd Q->P:=by(intro h;(iterate 9 refine aX ?_);exact h.x)):P:=h ⟨k⟩
theorem dh{P Q:Prop}(k:Q)(h:Hd Q->P:=by(intro h;(iterate 10 refine aX ?_);exact h.x)):P:=h ⟨k⟩
theorem fF{P Q:Prop}(k:Q)(h:Hd Q->P:=by(intro h;(iterate 11 refine aX ?_);exact h.x)):P:=h ⟨k⟩
theorem dM{P Q:Prop}(k:Q)(h:Hd Q->P:=by(intro h;(iterate 12 refine aX ?_);exact h.x)):P:=h ⟨k⟩
inductive Hn(n:Nat)(Q:Prop):Prop where
 |mk (x:Q):Hn n Q
theorem Hn.x{n:Nat}{Q:Prop}:Hn n Q->Q
 |⟨x⟩=>x
theorem auT{n:Nat}{P Q:Prop}(h:Hn (n+1) Q)(k:Hn n Q->P):P:=k ⟨h.x⟩
theorem KD{n:Nat}{P Q:Prop}(h:Hn n Q->P:=by(intro h;(repeat (refine auT h (λh=>?_);refine aX ?_));exact h.x)):Hn n Q->P:=h
theorem bK(n:Nat){P Q:Prop}(k:Q)(g:Hn n Q->P:=by exact KD):P:=g ⟨k⟩
theorem cm(n:Nat){P Q:Prop}(g:Hn n Q->P:=by exact KD)(k:Q:=by exact⟨rfl,rfl⟩):P:=g ⟨k⟩
theorem bO(n:Nat){P Q:Prop}(g:Hn n Q->P:=by exact KD)(k:Q:=by exact⟨_,_,rfl,rfl⟩):P:=g ⟨k⟩
theorem nI(n:Nat){P Q:Prop}(g:Hn n Q->P:=by exact KD)(k:Q:=by exact⟨_,_,_,rfl,rfl⟩):P:=g ⟨k⟩
theorem N9(n:Nat){P Q:Prop}(g:Hn n Q->P:=by exact KD)(k:Q:=by exact⟨_,_,_,_,rfl,rfl⟩):P:=g ⟨k⟩
inductive H2(i n:Nat)(Q:Prop):Prop where
 |mk (x:Q):H2 i n Q
theorem H2.x{i n:Nat}{Q:Prop}:H2 i n Q->Q
 |⟨x⟩=>x
section
variable{C:Cx}{ops:Array Oper}{fr jD:Fr}{L:aN}{ty:TypeId}{pos:String}{af:Array Edge}{op:Op}{d:Nat}{v:Value}{P:Prop}
variable{Q:Exit->Fr->aN->Prop}{l:sg}{cd Kc:Code}{tt:Nat}{S:aN}{fuel:Nat}{li:Array Bool}
theorem ag(n:Nat)[Decidable p](ht:p->VC C cd Q ((tt,.bool true)::fr) L)(hf:¬p->VC C Kc Q ((tt,.bool false)::fr) L)(g:Hn n (VC C (.cond (.tmp tt) cd Kc) Q fr L)->P:=by exact KD)(hc:look tt fr=some (.bool (decide p)):=by exact rfl):P:=g ⟨xU hc ht hf⟩
theorem fB(n:Nat)(ht:b=true->VC C cd Q ((tt,.bool true)::fr) L)(hf:b=false->VC C Kc Q ((tt,.bool false)::fr) L)(g:Hn n (VC C (.cond (.tmp tt) cd Kc) Q fr L)->P:=by exact KD)(hc:look tt fr=some (.bool b):=by exact rfl):P:=g ⟨agO hc ht hf⟩
theorem bZ(n:Nat)[Decidable p](hf:¬p->VC C Kc Q ((tt,.bool false)::fr) L)(g:Hn n (VC C (.cond (.tmp tt) cd Kc) Q fr L)->P:=by exact KD)(hc:look tt fr=some (.bool (decide p)):=by exact rfl)(hp:¬p:=by(intro h;exfalso;omega)):P:=g ⟨xU hc (λh=>absurd h hp) hf⟩
theorem sF(n:Nat)[Decidable p](ht:p->VC C cd Q ((tt,.bool true)::fr) L)(g:Hn n (VC C (.cond (.tmp tt) cd Kc) Q fr L)->P:=by exact KD)(hc:look tt fr=some (.bool (decide p)):=by exact rfl)(hp:¬p->False:=by(intro h;exfalso;omega)):P:=g ⟨xU hc ht (λh=>(hp h).elim)⟩
theorem bC(n:Nat){t dd:Nat}[Decidable p](k1:p->VL C ops Q (⟨some dd,op,ty,pos,af,none⟩::l) ((t,.bool true)::fr) L)(k2:¬p->VL C ops Q l ((dd,undef)::(t,.bool false)::fr) L)(g:Hn n (VL C ops Q (⟨some dd,op,ty,pos,af,some (j,true)⟩::l) fr L)->P:=by exact KD)(hj:(ops[j]?).bind (·.dst)=some t:=by exact rfl)(ht:look t fr=some (.bool (decide p)):=by exact rfl)(hd:Nat.blt dd C.N=true:=by exact rfl):P:=g ⟨aa_ hj ht hd k1 k2⟩
theorem bk(n:Nat){t dd:Nat}[Decidable p](k1:¬p->VL C ops Q (⟨some dd,op,ty,pos,af,none⟩::l) ((t,.bool false)::fr) L)(k2:p->VL C ops Q l ((dd,undef)::(t,.bool true)::fr) L)(g:Hn n (VL C ops Q (⟨some dd,op,ty,pos,af,some (j,false)⟩::l) fr L)->P:=by exact KD)(hj:(ops[j]?).bind (·.dst)=some t:=by exact rfl)(ht:look t fr=some (.bool (decide p)):=by exact rfl)(hd:Nat.blt dd C.N=true:=by exact rfl):P:=g ⟨aa9 hj ht hd k1 k2⟩
theorem bf(c n d:Nat)(ks:br){l1 l2:sg}(p:Prop)[Decidable p](h1:VL C ops (λe fr L'=>e= .normal/\L'=L/\Sub fr base/\look d fr=some (.bool (decide p))) l1 fr L)(h2:VL C ops Q l2 ((d,.bool (decide p))::base) L)(g:Hn c (VL C ops Q l fr L)->P:=by exact KD)(hs:HF fr ks base:=by((repeat (first|exact HF.nil|(apply HF.cons;exact rfl)));(first|done|fail)))(e1:l.take n=l1:=by simp only[nK,oC];exact rfl)(e2:l.drop n=l2:=by simp only[Co,qS];exact rfl):P:=g ⟨aoX n d base p hs.sub (e1▸h1) (e2▸h2)⟩
theorem cN(n:Nat)(S:aN){l:sg}(h:VH C l.toArray S Q l.toArray.size (Array.replicate l.toArray.size false) fr L)(g:Hn n (VC C (.region id l.toArray true) Q fr L)->P:=by exact KD)(hm:C.P.follows .mixedOrders=true:=by kernel_rfl)(hS:S.Sublist L:=by exact gI):P:=g ⟨JR hm hS h⟩
theorem bM(n:Nat){x:Operand}{e:TypeId}(k:∀g,VL C ops Q l ((d,bq g)::fr) (.bI g e cs::L))(g:Hn n (VL C ops Q (⟨some d,.box e x,ty,pos,af,none⟩::l) fr L)->P:=by exact KD)(he:ev fr x=some v:=by exact rfl)(hc:v.cells=cs.toArray:=by exact rfl)(hd:Nat.blt d C.N=true:=by exact rfl):P:=g ⟨fM k he hc hd⟩
theorem bW(n:Nat){e:TypeId}(k:∀g,VL ⟨Tryz.prog,N,B,w0⟩ ops Q l ((d,bq g)::fr) (.bI g e cs::L))(g:Hn n (VL ⟨Tryz.prog,N,B,w0⟩ ops Q (⟨some d,.alloc e,ty,pos,af,none⟩::l) fr L)->P:=by exact KD)(hz:wZ e apa=some zv:=by exact rfl)(hc:zv.cells=cs.toArray:=by exact rfl)(hd:Nat.blt d N=true:=by exact rfl):P:=g ⟨fo k hz hc hd⟩
theorem aD(n:Nat)(ks:br)(m:Nat){R:Prop}(k:R)(g:Hn n (VL C ops Q [] fr L)->P:=by exact KD)(hs:HF fr ks jD:=by repeat (first|exact HF.nil|(apply HF.cons;exact rfl)))(g2:Hn m R->Q .normal jD L:=by exact KD):P:=g ⟨ve ks (g2 ⟨k⟩) hs⟩
theorem ax(n:Nat){u:Value}(g:Hn n (VL C ops (λe fr L'=>e= .normal/\L'=L/\Sub fr base/\look d fr=some u) [] fr L)->P:=by exact KD)(k:look d fr=some u)(hb:Sub fr base:=by exact a_):P:=g ⟨UA hb k⟩
theorem asa{i n:Nat}{R:Prop}(h:H2 i (n+1) R)(k:H2 (i+1) n R->VH C ops S Q fuel (li.setIfInBounds i true) ((d,v)::fr) L)(ho:ops[i]? =some ⟨some d,op,ty,pos,af,none⟩:=by exact rfl)(hs:Region.noSelect ops=true:=by kernel_rfl)(hf:Region.free .any ops li i=true:=by kernel_rfl)(hr:(Region.ready .any ops li).contains i=true:=by kernel_rfl)(h2:gX C fr S op ty v:=by exact dt)(hd:Nat.blt d C.N=true:=by exact rfl):VH C ops S Q (fuel+1) li fr L:=L9 i ho hs hf hr h2 hd (k ⟨h.x⟩)
theorem aF(i n:Nat){R:Prop}(k:R)(g:H2 i n R->P:=by(intro h;(repeat refine asa h (λh=>?_));exact h.x)):P:=g ⟨k⟩
end
theorem ba{P:Program}{f:FuncId}{c:Code}{L:aN}{fr0:Fr}(hf:P.funcs[f]? =some fn)(N:Nat)(ks:br)(m:Nat){S:Prop}(k:S)(hN:fn.ntmps=N:=by exact rfl)(hb:fn.body=some c:=by exact rfl)(hl:Nat.ble (E args) N=true:=by exact rfl)(ha:ks.all (Nat.blt · N)=true:=by exact rfl)(hi:Zp 0 args ks fr0:=by repeat (first|exact Zp.nil|(apply Zp.cons;exact rfl)|(apply Zp.und;exact rfl)))(g:Hn m S->VC ⟨P,N,B,w0⟩ c (zT P fn R) fr0 L:=by exact KD):dQ P B w0 f args L R:=fw hf N ks (g ⟨k⟩) hN hb hl ha hi
abbrev bg(B:Nat)(w0:World)(f:FuncId)(args:cQ)(L:aN)(R:oV):Prop:=dQ Tryz.prog B w0 f args L R
abbrev gw(B:Nat)(w0:World)(L:List Ch)(A:Option Addr)(c:Nat)(l:List UInt8):Prop:=aJ B w0 L 1 (.slice A (E l) c) (E l) (bv l)
end
theorem jI(h:P:=by(first|rfl|(simp;omega)|(simp[*];done))):P:=h
theorem GR(h:P:=by(first|omega|(simp;done)|(simp;omega))):P:=h
theorem amv(h:P:=by(exact dG (by first|omega|(rw[hg];omega)))):P:=h
theorem amt(h:P:=by(exact dT (by first|omega|(rw[hg];omega)))):P:=h
theorem apX(h:P:=by(exact dS (by first|omega|(rw[hg];omega)))):P:=h
theorem dO:type_of% @List.mem_append:= @List.mem_append
theorem gE:type_of% @Classical.not_not:= @Classical.not_not
theorem Fit.no{k:Nat}(hk:k<E l)(h:¬((l.getD k 0).toNat<=15)):¬Fit l:=λhf=>h (hf.2 _ (bc hk 0))
def CM(l:aq):Prop:=∀c∈l,c.toNat<=15
theorem CM.step{k:Nat}(h:CM (l.take k))(hk:k<E l)(hs:(l.getD k 0).toNat<=15):CM (l.take (k+1)):=by
 rw[aP hk 0];intro c hc;rcases dO.1 hc with hc|hc
 ·exact h c hc
 ·simp only[kT]at hc;rw[hc];exact hs
theorem CM.C4:CM []:=by intro c h;cases h
theorem CM.all{k:Nat}(h:CM (l.take k))(hk:¬k<E l):CM l:=by rwa [gv aa]at h
theorem ace{k:Nat}(hk:k<E l)(hc:(l.getD k 0).toNat<16):ints .i64 ((uq (l.take k)).set (l.getD k 0).toNat ((uq (l.take k)).getD (l.getD k 0).toNat 0+1))=ints .i64 (uq (l.take (k+1))):=by
 rw[acf hc,aP hk 0]
def atm(l:aq)(b:List Int)(ok:Bool):Prop:=Few b/\ok=decide (Fit l)/\(ok=true->b=ri l)
theorem acP:Few (List.replicate 16 0):=ahU▸Kw ao
theorem ae5{k:Nat}{x:Int}(h:0<=x/\x<=300):0<=x*2^(15-k)/\x*2^(15-k)<=9830400:=by
 have h2:(2:Int)^(15-k)<=2^15:=by
  have:(2:Nat)^(15-k)<=2^15:=gz aa aa
  exact_mod_cast this
 have h3:(0:Int)<2^(15-k):=Int.pow_pos aa;exact⟨Int.mul_nonneg h.1 aa,by have:=Int.mul_le_mul h.2 h2 aa aa;omega⟩
theorem asT{k:Nat}{x:Int}(hk:k<16)(h:0<=x*2^(15-k)/\x*2^(15-k)<=9830400):IntKind.i64.wrap (x*2^min (15-(k:Int)).toNat IntKind.i64.bits)=x*2^(15-k):=by
 have e:min (15-(k:Int)).toNat IntKind.i64.bits=15-k:=by
  have:(15-(k:Int)).toNat=15-k:=by omega
  rw[this];show min (15-k) 64=15-k;omega
 rw[e];exact bj aa aa
theorem Ik(l:aq)(hb:gw B w0 F A c l):bg B w0 317 [.slice A (E l) c] F (λr L=>∃b ok,r= .tuple #[.agg (ints .i64 b).toArray,.bool ok]/\L=F/\atm l b ok):=by
 refine fw func317 27 [0] ?_;refine bW 2 λg2=>?_;refine ag 11 (λh8=>?_) λh8=>?_
 ·refine dA ?_;refine iH rfl rfl ae aU jI rfl (.skip (.refl _)) ?_;refine⟨List.replicate 16 0,false,rfl,rfl,acP,(oi λh=>?_).symm,λh=>jB⟩;have:=h.1;omega
 ·refine fF ?_;refine aw (λzf zL zm=>∃(k:Nat),(k<=E l/\CM (l.take k))/\E l-k=zm/\Sub zf [(2,bq g2),(10,.slice A (E l) c),(11,ah (E l)),(12,ah k)]/\Wk zL (.bI g2 426 (ints .i64 (uq (l.take k)))::F)) _ ⟨0,⟨bD _,CM.C4⟩,rfl,a_,bx rfl (.refl _)⟩ ?_;rintro _ _ _ ⟨k,⟨hk,hL⟩,rfl,hs,hp⟩;refine aL hs hp ?_;have hu:=(l.getD k 0).toNat_lt;have hf:=Kw (l:=l.take k) bS;have hf1:=hf.1;have hfb:=hf.2 (l.getD k 0).toNat;refine ag 6 (λnj=>?_) λnj=>?_
  ·refine ag 18 (λgH=>?_) λgH=>?_
   ·refine bK 14 ?_;refine iH rfl rfl ae aU jI rfl (.skip (.refl _)) ?_;refine⟨_,false,rfl,rfl,hf,(oi ?_).symm,λh=>jB⟩;exact Fit.no (k:=k) aa aa
   ·refine fb ?_;refine ab (aR (i:=(l.getD k 0).toNat) underlying426 ae rfl rfl rfl aa) rfl (ab (fQ ae rfl aU GR) rfl (aX ?_));refine ab (aR (i:=(l.getD k 0).toNat) underlying426 ae rfl rfl rfl aa) rfl (cY ?_);refine aj ⟨_,aa,k+1,⟨aa,hL.step aa aa⟩,rfl,a_,bx (ace aa aa) (.refl _)⟩
  ·refine dg ?_;refine ab (aR (i:=0) underlying426 ae rfl rfl rfl aa) rfl (fF ?_);refine iH rfl rfl ae aU jI rfl (.skip (.refl _)) ?_;have hL':=hL.all aa;refine⟨_,true,rfl,rfl,V8 hf 0 aa,(pK ⟨aa,hL'⟩).symm,λ_=>?_⟩;rw[gv aa];rfl
theorem D1(b:List Int)(hf:Few b):bg B w0 318 [.agg (ints .i64 b).toArray] F (λr L=>r= .tuple #[ah (xM b 16),ah (ur b 16)]/\L=F):=by
 have hb:=hf.1;refine fw func318 24 [0] ?_;refine bM 2 λg1=>?_;refine fF ?_;refine aw (λzf zL zm=>∃(k:Nat),(1<=k/\k<=16)/\16-k=zm/\Sub zf [(1,bq g1),(2,ah (xM b k)),(3,ah (ur b k)),(4,ah k)]/\Wk zL (.bI g1 426 (ints .i64 b)::F)) _ ⟨1,⟨aa,aa⟩,rfl,a_,.refl _⟩ ?_;rintro _ _ _ ⟨k,⟨xn,hk⟩,rfl,hs,hp⟩;refine aL hs hp ?_;clear hs hp;have hs:=hf.sum k;have hc:=hf.qH k;have j8:=hf.sum (k+1);have Rc:=hf.qH (k+1);have hbk:=hf.2 k;have e1:=aaE b xn;have e2:=Yq b xn;have Zv:=ae5 (k:=k) hbk;refine ag 7 (λh6=>?_) λh6=>?_
 ·refine cY ?_;refine ab (aR underlying426 ae rfl rfl rfl aa) rfl (ab (fQ ae rfl aU GR) rfl (ew ?_));refine ab (gG rfl rfl aa (asT aa Zv)) rfl (dg ?_);refine ab (aR underlying426 ae rfl rfl rfl aa) rfl (ab (fQ ae rfl aU GR) rfl ?_);refine aD 2 [1,2,3,4] 7 ?_;rw[<-e1,<-e2];refine aj ⟨_,aa,k+1,⟨aa,aa⟩,rfl,a_,.refl _⟩
 ·refine bK 14 ?_;have ang:k=16:=by omega
  subst ang;exact ak (.skip (.refl _)) (cm 1)
theorem Iq(l:aq)(hb:gw B w0 F A c l)(hf:Fit l):bg B w0 317 [.slice A (E l) c] F (λr L=>r= .tuple #[.agg (ints .i64 (ri l)).toArray,.bool true]/\L=F):=
 (Ik l hb).mono λv L ⟨b,ok,h1,h2,h3,h4,h5⟩=>by
  have:ok=true:=h4.trans (pK hf);subst this;rw[h1,h5 rfl];exact⟨rfl,h2⟩
theorem aco(l:aq)(hb:gw B w0 F A c l)(hf:¬Fit l):bg B w0 317 [.slice A (E l) c] F (λr L=>∃b,r= .tuple #[.agg (ints .i64 b).toArray,.bool false]/\L=F/\Few b):=
 (Ik l hb).mono λv L ⟨b,ok,h1,h2,h3,h4,h5⟩=>by
  have:ok=false:=h4.trans (oi hf);subst this;exact⟨b,h1,h2,h3⟩
theorem pr(h:Good l):Ii l=0:=av h
theorem vB(h:¬Good l):Ii l=7:=aB h
theorem AF(l:aq)(hb:gw B w0 F A c l):bg B w0 286 [.slice A (E l) c] F (λr L=>r=ah (Ii l)/\L=F):=by
 by_cases hf:Fit l
 ·have wz:=NW hf;have hf1:=wz.1;have auy:=wz.qH 16;have hg:=ac' hf;refine ba func286 36 [0] 8 ?_;refine ai rfl (Iq l aA hf) ?_;refine bW 3 λg3=>?_;refine dg ?_;refine ai rfl (D1 _ wz) (bf 10 19 35 [] (¬Good l) ?_ ?_)
  ·refine bC 9 (λrq=>?_) λrq=>?_
   ·refine bC 7 (λq7=>?_) λq7=>?_
    ·refine bk 5 (λqN=>?_) (λqN=>?_)
     ·refine ab (aR (i:=1) underlying426 ae rfl rfl rfl aa) rfl (aX ?_);refine ab (fQ ae rfl aU GR) rfl ?_;exact ax 7 (k:=amv)
     ·exact ax 7 (k:=amt)
    ·exact ax 9 (k:=apX)
   ·exact ax 15 (k:=apX)
  ·refine ag 2 (λAV=>?_) λAV=>?_
   ·refine dg ?_;refine ak (.skip (.refl _)) (aX ?_);rw[vB AV];exact⟨rfl,rfl⟩
   ·refine cY ?_;refine ak (.skip (.refl _)) (aX ?_);rw[pr (gE.1 AV)];exact⟨rfl,rfl⟩
 ·have wx:¬Good l:=λg=>hf g.1;refine ba func286 36 [0] 8 ?_;refine bp aqM rfl (aco l aA hf) rfl ?_;rintro _ _ ⟨b,rfl,cR,wz⟩;obtain rfl:=cR.symm;have hf1:=wz.1;refine bW 3 λg3=>?_;refine dg ?_;refine ai rfl (D1 _ wz) (aD 29 [35] 9 ?_);refine ak (.skip (.refl _)) (aX ?_);rw[vB wx];exact⟨rfl,rfl⟩
section
theorem ly:type_of% @Nat.mod_eq_of_lt:= @Nat.mod_eq_of_lt
theorem I5:type_of% @Nat.lt_of_le_of_lt:= @Nat.lt_of_le_of_lt
theorem tw:type_of% @Nat.xor_lt_two_pow:= @Nat.xor_lt_two_pow
theorem OK:type_of% @Nat.and_lt_two_pow:= @Nat.and_lt_two_pow
theorem iR(n a:Nat)(ha:a<2^n):(BitVec.ofInt n (a:Int)).toNat=a:=by
 rw[BitVec.ofInt_natCast,BitVec.toNat_ofNat];exact ly ha
theorem wrap_u8(a:Nat)(h:a<256):IntKind.u8.wrap (a:Int)=(a:Int):=by
 show(a:Int)%256=a;omega
theorem wrap_u16(a:Nat)(h:a<65536):IntKind.u16.wrap (a:Int)=(a:Int):=by
 show(a:Int)%65536=a;omega
theorem wrap_u64(a:Nat)(h:a<18446744073709551616):IntKind.u64.wrap (a:Int)=(a:Int):=by
 show(a:Int)%18446744073709551616=a;omega
theorem wrap_i64(a:Int)(h1:-9223372036854775808<=a)(h2:a<9223372036854775808):IntKind.i64.wrap a=a:=by
 rw[IntKind.wrap_i64];omega
section
variable(a b:Nat)
theorem u8_or(ha:a<256)(hb:b<256):bits .or .u8 (a:Int) (b:Int)=((a ||| b:Nat):Int):=by
 have hx:a ||| b<2^8:=Nat.or_lt_two_pow ha hb
 show IntKind.u8.wrap ((BitVec.ofInt 8 (a:Int) ||| BitVec.ofInt 8 (b:Int)).toNat:Int)=_;rw[BitVec.toNat_or,iR 8 a ha,iR 8 b hb,wrap_u8 _ hx]
theorem u64_and(ha:a<18446744073709551616)(hb:b<18446744073709551616):bits .and .u64 (a:Int) (b:Int)=((a &&& b:Nat):Int):=by
 have hx:a &&& b<18446744073709551616:=I5 Nat.and_le_left ha;show IntKind.u64.wrap ((BitVec.ofInt 64 (a:Int) &&& BitVec.ofInt 64 (b:Int)).toNat:Int)=_;rw[BitVec.toNat_and,iR 64 a ha,iR 64 b hb,wrap_u64 _ hx]
theorem u64_or(ha:a<18446744073709551616)(hb:b<18446744073709551616):bits .or .u64 (a:Int) (b:Int)=((a ||| b:Nat):Int):=by
 have hx:a ||| b<2^64:=Nat.or_lt_two_pow ha hb
 show IntKind.u64.wrap ((BitVec.ofInt 64 (a:Int) ||| BitVec.ofInt 64 (b:Int)).toNat:Int)=_;rw[BitVec.toNat_or,iR 64 a ha,iR 64 b hb,wrap_u64 _ hx]
theorem u64_xor(ha:a<18446744073709551616)(hb:b<18446744073709551616):bits .xor .u64 (a:Int) (b:Int)=((a ^^^ b:Nat):Int):=by
 have hx:a ^^^ b<2^64:=tw ha hb;show IntKind.u64.wrap ((BitVec.ofInt 64 (a:Int) ^^^ BitVec.ofInt 64 (b:Int)).toNat:Int)=_;rw[BitVec.toNat_xor,iR 64 a ha,iR 64 b hb,wrap_u64 _ hx]
theorem aiL(ha:a<9223372036854775808)(hb:b<9223372036854775808):bits .and .i64 (a:Int) (b:Int)=((a &&& b:Nat):Int):=by
 have hx:a &&& b<2^63:=OK _ aa;show IntKind.i64.wrap ((BitVec.ofInt 64 (a:Int) &&& BitVec.ofInt 64 (b:Int)).toNat:Int)=_;rw[BitVec.toNat_and,iR 64 a aa,iR 64 b aa,wrap_i64]<;>omega
theorem adP(ha:a<9223372036854775808)(hb:b<9223372036854775808):bits .or .i64 (a:Int) (b:Int)=((a ||| b:Nat):Int):=by
 have hx:a ||| b<2^63:=Nat.or_lt_two_pow aa aa
 show IntKind.i64.wrap ((BitVec.ofInt 64 (a:Int) ||| BitVec.ofInt 64 (b:Int)).toNat:Int)=_;rw[BitVec.toNat_or,iR 64 a aa,iR 64 b aa,wrap_i64]<;>omega
end
theorem aeQ(a:Nat)(h:a<256):a ||| 128=128+a%128:=by
 have:∀x:Fin 256,x.val ||| 128=128+x.val%128:=by decide+kernel
 exact this ⟨a,h⟩
end
theorem rD:type_of% @UInt8.toNat_ofNat':= @UInt8.toNat_ofNat'
theorem mW:type_of% @List.range_succ:= @List.range_succ
theorem bz:type_of% @List.getD_eq_getElem?_getD:= @List.getD_eq_getElem?_getD
theorem tx:type_of% @Nat.add_comm:= @Nat.add_comm
theorem OL:type_of% @Nat.two_pow_add_eq_or_of_lt:= @Nat.two_pow_add_eq_or_of_lt
theorem oD:type_of% @List.mem_range:= @List.mem_range
theorem rE:type_of% @Nat.sub_self:= @Nat.sub_self
theorem tz:type_of% @List.length_singleton:= @List.length_singleton
theorem WN:type_of% @Int.tmod_eq_emod_of_nonneg:= @Int.tmod_eq_emod_of_nonneg
theorem kR:type_of% @UInt8.toNat_lt:= @UInt8.toNat_lt
theorem I6:type_of% @Nat.div_div_eq_div_mul:= @Nat.div_div_eq_div_mul
theorem wS:type_of% @Int.fdiv_eq_ediv_of_nonneg:= @Int.fdiv_eq_ediv_of_nonneg
theorem oE:type_of% @Nat.div_le_self:= @Nat.div_le_self
theorem rF:type_of% @Nat.lt_of_lt_of_le:= @Nat.lt_of_lt_of_le
theorem EV:type_of% @Nat.and_one_is_mod:= @Nat.and_one_is_mod
theorem yY:type_of% @Nat.div_eq_of_lt:= @Nat.div_eq_of_lt
theorem ib:type_of% @List.getElem?_map:= @List.getElem?_map
theorem EW:type_of% @List.replicate_succ':= @List.replicate_succ'
def gQ(q:List Bool)(i:Nat):Nat:=(q.getD i false).toNat
theorem mn(q:List Bool)(i:Nat):gQ q i<=1:=Bool.toNat_le _
def part(q:List Bool)(i:Nat):Nat->Nat
 |0=>0
 |m+1=>2*part q i m+gQ q (i+m)
theorem lT(q:List Bool)(i:Nat):∀m,part q i m<2^m
 |0=>by simp[part]
 |m+1=>by have:=lT q i m;have:=mn q (i+m);simp only[part,ki];omega
def qx(q:List Bool)(k:Nat):UInt8:=UInt8.ofNat (part q (8*k) 8)
theorem rY(q:List Bool)(k:Nat):(qx q k).toNat=part q (8*k) 8:=by
 have:=lT q (8*k) 8;rw[qx,rD];exact ly this
def octets(q:List Bool)(k:Nat):aq:=(List.range k).map (qx q)
theorem nE(q:List Bool)(k:Nat):E (octets q k)=k:=by simp[octets]
theorem qy(q:List Bool)(k:Nat):octets q (k+1)=octets q k++[qx q k]:=by simp[octets,mW]
def packed(q:List Bool):aq:=octets q ((E q+7)/8)
theorem dz(q:List Bool):E (packed q)=(E q+7)/8:=nE _ _
theorem sO(q:List Bool){k:Nat}(h:k<n):(octets q n).getD k 0=qx q k:=by
 simp[octets,bz,h]
theorem M0(q:List Bool)(b:Bool)(i:Nat):gQ (q++[b]) i=if i=E q then b.toNat else gQ q i:=by
 unfold gQ;split
 ·subst i;simp[bz]
 ·simp only[bz,List.getElem?_append];split
  ·rfl
  ·rw[tS bS,tS aa]
theorem rf(q:List Bool)(h:E q<=i):gQ q i=0:=by
 simp[gQ,bz,h]
theorem Bx(q:List Bool)(b:Bool)(i:Nat):∀m,(E q<i\/i+m<=E q)->part (q++[b]) i m=part q i m
 |0,_=>rfl
 |m+1,h=>by
  rw[part,part,Bx q b i m aa,M0,aB aa]
theorem Jn(q:List Bool)(i:Nat):∀m,E q<=i->part q i m=0
 |0,_=>rfl
 |m+1,h=>by rw[part,Jn q i m h,rf q aa]
theorem By(q:List Bool)(i m:Nat)(h:i+m=E q):∀j,part q i (m+j)=part q i m*2^j
 |0=>by simp
 |j+1=>by
  rw[<-OJ,part,By q i m h j,rf q aa,ki];rw[mi 2,rN];rfl
theorem aeZ(q:List Bool)(b:Bool)(i m:Nat)(h:i+m=E q)(j:Nat):part (q++[b]) i (m+1+j)=part q i (m+1+j) ||| b.toNat*2^j:=by
 rw[By (q++[b]) i (m+1) bS,OJ,By q i m h,part,Bx q b i m aa,M0,av h,tx 1 j];have hb:=Bool.toNat_le b;have e:part q i m*2^(j+1)=2^(j+1)*part q i m:=mi _ _;rw[e,<-OL (by rw[ki];have:=zd j;rcases b with _|_<;>simp<;>omega),qR,ki];congr 1;rw[mi 2 (part q i m),rN,mi 2 (2^j),mi (part q i m)]
theorem aeG{q q':List Bool}{k:Nat}(h:part q (8*k) 8=part q' (8*k) 8):qx q k=qx q' k:=by rw[qx,qx,h]
theorem Pu(q:List Bool)(b:Bool)(h:8*n<=E q):octets (q++[b]) n=octets q n:=by
 simp only[octets];apply tR;intro k hk;have:=oD.mp hk;exact aeG (Bx q b _ _ aa)
theorem TV(q:List Bool)(k:Nat):part q k 8<256:=lT q k 8
def room(q:List Bool):aq:=octets q (E q/8+1)
theorem CD(q:List Bool):E (room q)=E q/8+1:=nE _ _
theorem P3{q:List Bool}(h:E q%8=0):packed q++[0]=room q:=by
 rw[packed,room,show(E q+7)/8=E q/8 by omega,qy];congr 2;rw[qx,Jn q _ _ aa];rfl
theorem afn{q:List Bool}(h:¬E q%8=0):packed q=room q:=by
 rw[packed,room,show(E q+7)/8=E q/8+1 by omega]
theorem afm(q:List Bool):((room q).getD (E q/8) 0).toNat=part q (8*(E q/8)) 8:=by
 rw[room,sO q aa,rY]
theorem asz{a b:Nat}(ha:a<256)(hb:b<256):IntKind.u8.wrap ((BitVec.ofInt IntKind.u8.bits (a:Int) ||| BitVec.ofInt IntKind.u8.bits (b:Int)).toNat:Int)=((a ||| b:Nat):Int):=u8_or a b ha hb
theorem UZ{a b:Nat}(ha:a<18446744073709551616)(hb:b<18446744073709551616):IntKind.u64.wrap ((BitVec.ofInt IntKind.u64.bits (a:Int) &&& BitVec.ofInt IntKind.u64.bits (b:Int)).toNat:Int)=((a &&& b:Nat):Int):=u64_and a b ha hb
theorem aog{a b:Nat}(ha:a<18446744073709551616)(hb:b<18446744073709551616):IntKind.u64.wrap ((BitVec.ofInt IntKind.u64.bits (a:Int) ||| BitVec.ofInt IntKind.u64.bits (b:Int)).toNat:Int)=((a ||| b:Nat):Int):=u64_or a b ha hb
theorem aeY(q:List Bool)(b:Bool):part q (8*(E q/8)) 8 ||| b.toNat*2^(7-E q%8)=part (q++[b]) (8*(E q/8)) 8:=by
 have:=aeZ q b (8*(E q/8)) (E q%8) aa (7-E q%8);rw[show E q%8+1+(7-E q%8)=8 by omega]at this;exact this.symm
theorem FN(q:List Bool)(b:Bool):(room q).set (E q/8) (qx (q++[b]) (E q/8))=packed (q++[b]):=by
 rw[packed,room,qy,zc _ _ (by rw[nE];omega),nE,rE,bm,tz,
  show(E q+1+7)/8=E q/8+1 by omega,qy,Pu q b aa]
 rfl
theorem alU(h:m<8):IntKind.u8.wrap ((b.toNat:Int)*2^min (7-(m:Int)).toNat IntKind.u8.bits)=((b.toNat*2^(7-m):Nat):Int):=by
 have:∀(b:Bool) (m:Fin 8),IntKind.u8.wrap ((b.toNat:Int)*2^min (7-((m:Nat):Int)).toNat IntKind.u8.bits)=((b.toNat*2^(7-m.val):Nat):Int):=by decide+kernel
 exact this b ⟨m,h⟩
theorem asS:b.toNat*2^(7-m)<256:=by
 have:2^(7-m)<=2^7:=gz aa aa;rcases b with _|_<;>simp<;>omega
theorem Qy(n:Nat):(n:Int).tmod 8=((n%8:Nat):Int):=by rw[WN aa];omega
theorem ajH(h:n<=9000000000000000000):IntKind.i64.wrap ((n:Int).tdiv 8)=((n/8:Nat):Int):=by
 have:(n:Int).tdiv 8=((n/8:Nat):Int):=(Int.ofNat_tdiv n 8).symm;rw[this];exact bj aa aa
theorem aeR(q:List Bool)(b:Bool):IntKind.u8.wrap ((BitVec.ofInt IntKind.u8.bits ((((room q).getD (E q/8) 0).toNat:Nat):Int) ||| BitVec.ofInt IntKind.u8.bits ((b.toNat*2^(7-E q%8):Nat):Int)).toNat:Int)=((qx (q++[b]) (E q/8)).toNat:Int):=by
 rw[asz (kR _) asS,afm,aeY,rY]
theorem nu(q:List Bool)(i m:Nat):∀j,part q i (m+j)/2^j=part q i m
 |0=>by simp
 |j+1=>by
  have:=mn q (i+(m+j));rw[<-OJ,part,ki,mi (2^j),<-I6,show(2*part q i (m+j)+gQ q (i+(m+j)))/2=part q i (m+j) by omega];exact nu q i m j
theorem TU(q:List Bool)(h:i<E q):((packed q).getD (i/8) 0).toNat=part q (8*(i/8)) 8:=by
 rw[packed,sO q aa,rY]
theorem aou{x:Nat}(hm:m<8):(x:Int).fdiv (2^min (7-(m:Int)).toNat IntKind.u8.bits)=((x/2^(7-m):Nat):Int):=by
 have e:min (7-(m:Int)).toNat IntKind.u8.bits=7-m:=by
  show min _ 8=_;omega
 rw[e,wS _ (Int.le_of_lt (Int.pow_pos aa))];rw[Int.natCast_ediv,Int.natCast_pow];rfl
theorem aot(l:aq)(i j:Nat):(l.getD i 0).toNat/2^j<18446744073709551616:=I5 (oE _ _) (rF (kR _) aa)
theorem ahz(q:List Bool)(h:i<E q):IntKind.u64.wrap ((BitVec.ofInt IntKind.u64.bits ((((packed q).getD (i/8) 0).toNat/2^(7-i%8):Nat):Int) &&& BitVec.ofInt IntKind.u64.bits 1).toNat:Int)=(gQ q i:Int):=by
 have hl:((packed q).getD (i/8) 0).toNat/2^(7-i%8)<18446744073709551616:=I5 (oE _ _) (rF (kR _) aa);have:=UZ (b:=1) hl aa;rw[show((1:Nat):Int)=1 from rfl]at this;rw[this,TU q h,EV];have e:=nu q (8*(i/8)) (i%8+1) (7-i%8);rw[show i%8+1+(7-i%8)=8 by omega]at e;rw[e,part,show 8*(i/8)+i%8=i by omega];have:=mn q i;omega
theorem ahY{x:Nat}(hx:x<2^m)(hm:m<64):IntKind.u64.wrap ((x:Int)*2^min (1:Int).toNat IntKind.u64.bits)=((2*x:Nat):Int):=by
 have h:x<2^63:=rF hx (gz aa aa);have e:min (1:Int).toNat IntKind.u64.bits=1:=by decide
 rw[e,eQ aa aa];omega
theorem aof{x b:Nat}(hx:x<2^m)(hm:m<64)(hb:b<=1):IntKind.u64.wrap ((BitVec.ofInt IntKind.u64.bits ((2*x:Nat):Int) ||| BitVec.ofInt IntKind.u64.bits (b:Int)).toNat:Int)=((2*x+b:Nat):Int):=by
 have h:x<2^63:=rF hx (gz aa aa);rw[aog aa aa];have:=OL (i:=1) (b:=b) aa x;rw[Nat.pow_one]at this;rw[<-this]
def hi(v n m:Nat):List Bool:=(List.range m).map λj=>v.testBit (n-1-j)
theorem dK(v n m:Nat):E (hi v n m)=m:=by simp[hi]
theorem aiC(v n m:Nat):hi v n (m+1)=hi v n m++[v.testBit (n-1-m)]:=by simp[hi,mW]
theorem aiD(v n:Nat):hi v n 0=[]:=rfl
theorem J7(v i:Nat):v/2^i%2=(v.testBit i).toNat:=by rw[Nat.toNat_testBit]
theorem XA(v i:Nat)(hv:v<18446744073709551616):IntKind.u64.wrap ((BitVec.ofInt IntKind.u64.bits ((v/2^i:Nat):Int) &&& BitVec.ofInt IntKind.u64.bits 1).toNat:Int)=((v.testBit i).toNat:Int):=by
 have hl:v/2^i<18446744073709551616:=I5 (oE _ _) hv;have:=UZ (b:=1) hl aa;rw[show((1:Nat):Int)=1 from rfl]at this;rw[this,EV,J7]
theorem FW(v:Nat){x:Int}{e:Nat}(hx:x=e)(he:e<=64):(v:Int).fdiv (2^min x.toNat IntKind.u64.bits)=((v/2^e:Nat):Int):=by
 subst hx;have e:min (e:Int).toNat IntKind.u64.bits=e:=by
  show min _ 64=_;omega
 rw[e,wS _ (Int.le_of_lt (Int.pow_pos aa))];rw[Int.natCast_ediv,Int.natCast_pow];rfl
def api(v:Nat)(n:Int):Prop:=0<=n/\n<=64/\v<2^n.toNat
instance (v:Nat)(n:Int):Decidable (api v n):=inferInstanceAs (Decidable (_/\_))
theorem PM{v:Nat}(h:¬((v/2^n:Nat):Int)=0):¬v<2^n:=λhv=>h (by rw[yY hv];rfl)
def ref(q:List Bool):aq:=q.map λb=>if b then 1 else 0
theorem sS(q:List Bool):E (ref q)=E q:=by simp[ref]
theorem Du(q:List Bool)(h:i<E q):((ref q).getD i 0).toNat=gQ q i:=by
 simp only[ref,bz,ib,fx h,qp,wA,gQ];cases q[i]<;>rfl
theorem Lt(q r:List Bool):ref (q++r)=ref q++ref r:=by simp[ref]
theorem Lu(b:Bool):bv (ref [b])=[.int .u8 b.toNat]:=by cases b<;>rfl
def un(n:Nat):List Bool:=List.replicate n false++[true]
theorem pk(n:Nat):E (un n)=n+1:=by simp[un]
theorem FL(n:Nat):List.replicate (n+1) false=List.replicate n false++[false]:=EW ..
def lo(v m:Nat):List Bool:=(List.range m).map v.testBit
theorem ZQ(v m:Nat):E (lo v m)=m:=by simp[lo]
theorem ai3(v m:Nat):lo v (m+1)=lo v m++[v.testBit m]:=by simp[lo,mW]
theorem anK(v:Nat)(h:i<m):(lo v m).getD i false=v.testBit i:=by simp[lo,bz,h]
theorem Ka(l m:aq):bv (l++m)=bv l++bv m:=by simp[bv]
theorem al6(n:Nat):(n:Int).tmod 2=((n%2:Nat):Int):=by rw[WN aa];omega
theorem anJ(v m:Nat):IntKind.u8.wrap ((v/2^m%2:Nat):Int)=((v.testBit m).toNat:Int):=by
 rw[J7];have:=Bool.toNat_le (v.testBit m);exact Gw aa aa
theorem adm{v:Nat}(m:Nat)(hv:v<18446744073709551616):IntKind.u64.wrap (((v/2^m:Nat):Int).tdiv 2)=((v/2^(m+1):Nat):Int):=by
 have e:((v/2^m:Nat):Int).tdiv 2=((v/2^m/2:Nat):Int):=(Int.ofNat_tdiv _ 2).symm;have hl:v/2^m/2<18446744073709551616:=I5 (iY (oE _ _) (oE _ _)) hv;rw[e,wrap_u64 _ hl,I6,ki]
theorem TL(q:List Bool)(k:Nat)(hj:j=8):IntKind.u8.wrap (part q (8*k) j:Int)=((qx q k).toNat:Int):=by
 subst hj;have:=TV q (8*k);rw[rY];exact Gw aa aa
end Go.Proofs.YtaodmbolhoafcaaGreatDoor
