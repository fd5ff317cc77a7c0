/-
  Texts of one proof, joined: part 2. No condition.
-/
import Derived.Test.YtaodmbolhoafcaaGreatDoorZr1
import Derived.OrdersHeld
import Derived.Deep.RegionHeld3
import Derived.Lib.SliceRun
import Derived.Laws.CopyRow
import Derived.Laws.IdiomCopy
import Derived.Laws.StructEq
import Derived.Test.YtaodmbolhoafcaaGreatDoorProg
import Derived.WalkKit
import Derived.Laws.BitsAllLaws
import Derived.Laws.BitsLemmas
open Go.RowKit Go.Proofs.Tryz
namespace Go.Proofs.YtaodmbolhoafcaaGreatDoor
set_option linter.unusedVariables false
set_option linter.unusedSimpArgs false
set_option maxRecDepth 20000
variable{B:Nat}{w0:World}{F:aR}{A:bj}{c n g:Nat}{bt:TypeId}{f:Ch→aR}
section
section
variable{C:Cx}{Q:Exit→Fr→aR→Prop}{fr jH:Fr}{L L' S:aR}{ops:Array Oper}{op:Op}{ty:TypeId}{pos:String}{af:Array Edge}{d:Nat}{v:Value}{fuel:Nat}{li:Array Bool}
theorem oW{P:Prop}(h:P:=by(simpa using h2)):P:=h
theorem xz{P:Prop}(h:P:=by(simp[hk])):P:=h
theorem C4{P:Prop}(h:P:=by(rw[e];rfl)):P:=h
theorem aa9{P:Prop}(h:P:=by(rw[zY,mC];exact CN hw hm hj)):P:=h
theorem lE:type_of% @List.mem_singleton:= @List.mem_singleton
theorem eh:type_of% @List.length_cons:= @List.length_cons
theorem tf:type_of% @Nat.add_zero:= @Nat.add_zero
theorem Kx:type_of% @List.map_set:= @List.map_set
theorem tg:type_of% @List.drop_zero:= @List.drop_zero
def VH(C:Cx)(ops:Array Oper)(S:aR)(Q:Exit→Fr→aR→Prop)(fuel:Nat)(li:Array Bool)(fr:Fr)(L:aR):Prop:=
 ∀a w,pT C.N fr a→SL C.B C.w0 L w→SL C.B C.w0 S w→wpAnyH C.P .any ops (NoPanic (lift C Q)) (SL C.B C.w0 S) fuel li a w
theorem aay{id:Nat}{l:sD}(hm:C.P.follows .mixedOrders=true)(hS:S.Sublist L)(h:VH C l.toArray S Q l.toArray.size (Array.replicate l.toArray.size false) fr L):VC C (.region id l.toArray true) Q fr L:=fun a w ha hw=>
 wp_region_noPanic (wp_region_held hm (h a _ ha (hw.drewN 1) ((hw.drewN 1).sub hS)))
theorem W9(i:Nat)(ho:ops[i]? =some ⟨some d,op,ty,pos,af,none⟩)(hs:Region.noSelect ops=true)(hf:Region.free .any ops li i=true)(hr:(Region.ready .any ops li).contains i=true)(h:gI C fr S op ty v)(hd:Nat.blt d C.N=true)(k:VH C ops S Q fuel (li.setIfInBounds i true) ((d,v)::fr) L):VH C ops S Q (fuel+1) li fr L:=fun a w ha hw hS=>
 wpAnyH_take ho hs hf hr (fun _ _ _ h=>h) (.inl ⟨rfl,fun w hw=>h a w ha hw _ _ _ _⟩) hS (k _ w (ha.put hd v) hw hS)
theorem jm(i:Nat){j t:Nat}{want:Bool}(ho:ops[i]? =some ⟨some d,op,ty,pos,af,some (j,want)⟩)(hs:Region.noSelect ops=true)(hf:Region.free .any ops li i=true)(hr:(Region.ready .any ops li).contains i=true)(hj:(ops[j]?).bind (·.dst)=some t)(ht:look t fr=some (.bool want))(h:gI C fr S op ty v)(hd:Nat.blt d C.N=true)(k:VH C ops S Q fuel (li.setIfInBounds i true) ((d,v)::fr) L):VH C ops S Q (fuel+1) li fr L:=fun a w ha hw hS=>
 wpAnyH_take ho hs hf hr (fun _ _ _ h=>h) (.inl ⟨ali,fun w hw=>h a w ha hw _ _ _ _⟩) hS (k _ w (ha.put hd v) hw hS)
theorem iB(i:Nat){j t:Nat}{want b:Bool}(ho:ops[i]? =some ⟨some d,op,ty,pos,af,some (j,want)⟩)(hs:Region.noSelect ops=true)(hf:Region.free .any ops li i=true)(hr:(Region.ready .any ops li).contains i=true)(hj:(ops[j]?).bind (·.dst)=some t)(ht:look t fr=some (.bool b))(hb:(b==want)=false)(hd:Nat.blt d C.N=true)(k:VH C ops S Q fuel (li.setIfInBounds i true) ((d,undef)::fr) L):VH C ops S Q (fuel+1) li fr L:=fun a w ha hw hS=>
 wpAnyH_take ho hs hf hr (fun _ _ _ h=>h) (.inr ⟨alg,rfl⟩) hS (k _ w (ha.put hd _) hw hS)
theorem af5(t:Nat){p:Prop}[Decidable p](ht:look t fr=some (.bool (decide p)))(k1:p→VH C ops S Q fuel li ((t,.bool true)::fr) L)(k2:¬p→VH C ops S Q fuel li ((t,.bool false)::fr) L):VH C ops S Q fuel li fr L:=fun a w ha hw hS=>by
 by_cases hp:p
 ·exact k1 hp a w (ha.bool ht (lD hp)) hw hS
 ·exact k2 hp a w (ha.bool ht (nD hp)) hw hS
def Step(C:Cx)(ops:Array Oper)(S:aR)(Q:Exit→Fr→aR→Prop)(fuel:Nat)(li:Array Bool)(fr:Fr)(L:aR)(i:Nat):Prop:=
 ∀a w,pT C.N fr a→SL C.B C.w0 L w→SL C.B C.w0 S w→wpOp C.P ops (NoPanic (lift C Q)) i (fun a' w'=>SL C.B C.w0 S w'∧wpAnyH C.P .any ops (NoPanic (lift C Q)) (SL C.B C.w0 S) fuel (li.setIfInBounds i true) a' w') a w
theorem anQ(i:Nat)(hr:Region.ready .any ops li=[i])(h:Step C ops S Q fuel li fr L i):VH C ops S Q (fuel+1) li fr L:=fun a w ha hw hS=>
 wpAnyH_all hr ak fun j hj=>by rw[lE.1 hj];exact h a w ha hw hS
theorem anR(i j:Nat)(hr:Region.ready .any ops li=[i,j])(h1:Step C ops S Q fuel li fr L i)(h2:Step C ops S Q fuel li fr L j):VH C ops S Q (fuel+1) li fr L:=fun a w ha hw hS=>
 wpAnyH_all hr ak fun k hk=>by
  rcases fm.1 hk with rfl|hk
  ·exact h1 a w ha hw hS
  ·rw[lE.1 hk];exact h2 a w ha hw hS
inductive Gd(ops:Array Oper)(fr:Fr):Option (Nat×Bool)→Prop where
 |no:Gd ops fr none
 |yes {j t:Nat} {want:Bool} (hj:(ops[j]?).bind (·.dst)=some t) (ht:look t fr=some (.bool want)):Gd ops fr (some (j,want))
theorem Gd.wanted{g:Option (Nat×Bool)}{dd:Option Tmp}{a:Act}{N:Nat}(h:Gd ops fr g)(ha:pT N fr a):Region.wanted ⟨dd,op,ty,pos,af,g⟩ (yielded ops a.tmps)=true:=by
 cases h with
 |no=>rfl
 |yes hj ht=>rw[sA hj (ha.at_ _ _ ht)];simp
theorem S9{i:Nat}{R:qR}{g:Option (Nat×Bool)}(ho:ops[i]? =some ⟨some d,op,ty,pos,af,g⟩)(hg:Gd ops fr g)(h:qz C fr L op ty R)(hd:Nat.blt d C.N=true)(hS:∀v L',R v L'→S.Sublist L')(k:∀v L',R v L'→VH C ops S Q fuel (li.setIfInBounds i true) ((d,v)::fr) L'):Step C ops S Q fuel li fr L i:=fun a w ha hw _=>by
 obtain⟨v,w',L',hr,hR,hs⟩:=h a w ha hw (some d) pos af g;unfold wpOp;simp only[ho];rw[aq (hg.wanted ha)];refine .inl ?_;unfold Oper.wp;have jK:=hs.sub (hS v L' hR);rcases hr with hr|⟨hr,rfl⟩<;>rw[hr]<;>exact⟨jK,k _ _ hR _ _ (ha.put hd _) hs jK⟩
theorem kO{i:Nat}{R:qR}{g:Option (Nat×Bool)}(ho:ops[i]? =some ⟨none,op,ty,pos,af,g⟩)(hg:Gd ops fr g)(h:qz C fr L op ty R)(hS:∀v L',R v L'→S.Sublist L')(k:∀v L',R v L'→VH C ops S Q fuel (li.setIfInBounds i true) fr L'):Step C ops S Q fuel li fr L i:=fun a w ha hw _=>by
 obtain⟨v,w',L',hr,hR,hs⟩:=h a w ha hw none pos af g;unfold wpOp;simp only[ho];rw[aq (hg.wanted ha)];refine .inl ?_;unfold Oper.wp;have jK:=hs.sub (hS v L' hR);rcases hr with hr|⟨hr,rfl⟩<;>rw[hr]<;>exact⟨jK,k _ _ hR _ _ ha hs jK⟩
theorem gC{i:Nat}{ff:FuncId}{tF:List Operand}{Co:Array TypeId}{vs:cV}{R:qR}{g:Option (Nat×Bool)}(ho:ops[i]? =some ⟨some d,.call {callee:=.value (.func ff),args:=tF.toArray,argTypes:=Co},ty,pos,af,g⟩)(hg:Gd ops fr g)(hc:aJ C.P ff)(he:B9 fr tF=some vs)(h:dP C.P C.B C.w0 ff vs L R)(hd:Nat.blt d C.N=true)(hS:∀v L',R v L'→S.Sublist L')(k:∀v L',R v L'→VH C ops S Q fuel (li.setIfInBounds i true) ((d,v)::fr) L'):Step C ops S Q fuel li fr L i:=fun a w ha hw _=>by
 unfold wpOp;simp only[ho];rw[aq (hg.wanted ha)];refine .inl ?_;unfold Oper.wp;rw[mc hc (fst:= #[]) (cap:= #[]) rfl,ha.B9 he,Array.append_empty,Array.empty_append];refine Ku (h w hw) fun e w' ⟨v,L',he,hR,hs⟩=>?_;subst he;have jK:=hs.sub (hS v L' hR);exact⟨jK,k _ _ hR _ _ (ha.put hd _) hs jK⟩
theorem iM{i:Nat}{g:Option (Nat×Bool)}(ho:ops[i]? =some ⟨some d,op,ty,pos,af,g⟩)(hg:Gd ops fr g)(h:gI C fr L op ty v)(hd:Nat.blt d C.N=true)(hS:S.Sublist L)(k:VH C ops S Q fuel (li.setIfInBounds i true) ((d,v)::fr) L):Step C ops S Q fuel li fr L i:=fun a w ha hw _=>by
 unfold wpOp;simp only[ho];rw[aq (hg.wanted ha)];refine .inl ?_;unfold Oper.wp;rw[h a w ha hw];exact⟨hw.sub hS,k _ _ (ha.put hd _) hw (hw.sub hS)⟩
theorem ajD(base:Fr)(hs:Sub fr base)(hr:Region.ready .any ops li=[])(h:Q .normal base L):VH C ops S Q fuel li fr L:=fun a w ha hw _=>wpAnyH_done hr (show NoPanic (lift C Q) .normal a w from⟨base,L,ha.sub hs,hw,h⟩) _
def evp(fr:Fr):Nat→List (Nat×Operand)→Option (cV)
 |_,[]=>some []
 |k,(i,x)::r=>bif Nat.beq i k then (match ev fr x,evp fr (k+1) r with
  |some v,some vs=>some (v::vs)
  |_,_=>none) else none
theorem Nl{a:Act}{N:Nat}(ha:pT N fr a):∀(parts:List (Nat×Operand)) (k:Nat) (vs:cV) (cells:Array Value),evp fr k parts=some vs→(∀u∈vs,u.oneCell'=true)→k+vs.length≤cells.size→
  ∃out,Instr.fill (fun i=>some (i*1,1)) cells (parts.map fun p=>(p.1,a.eval p.2))=some out∧out.size=cells.size∧(∀j,j<k→out[j]? =cells[j]?)∧(∀j,j<vs.length→out[k+j]? =vs[j]?)
 |[],k,vs,cells,h,_,_=>by
  simp[evp]at h;subst h;exact⟨cells,rfl,rfl,fun _ _=>rfl,fun j hj=>absurd hj ak⟩
 |(i,x)::r,k,vs,cells,h,h1,hl=>by
  unfold evp at h;cases hb:Nat.beq i k with
  |false=>rw[hb]at h;cases h
  |true=>
   rw[hb]at h;have hik:=rn hb;subst hik;simp only[G2]at h;split at h
   ·rename_i v vs' e1 e2;injection h with h;subst h;have hv1:=h1 v ak;have hv:v.cells= #[v]:=by cases v<;>simp_all[Value.cells,Value.oneCell']
    simp only[eh]at hl;obtain⟨out,q1,q2,q3,q4⟩:=Nl ha r (i+1) vs' (cells.setIfInBounds i v) e2 (fun u hu=>h1 u (by simp[hu])) bO;refine⟨out,?_,by simpa using q2,fun j hj=>?_,fun j hj=>?_⟩
    ·simp only[kz,ha.tmp e1,Instr.fill,hv];have:¬(cells.size<i+1):=by omega
     simp only[cE]at q1;simp[this,q1]
    ·rw[q3 j aa];simp[show¬i=j by omega]
    ·rcases j with _|j
     ·rw[tf,q3 i aa];simp[show i<cells.size by omega]
     ·have:=q4 j (by simpa using hj);rw[show i+(j+1)=i+1+j by omega,this];simp
   ·cases h
theorem aF{t e:TypeId}{kk bytes:Nat}{zv:Value}{parts:List (Nat×Operand)}(T:sF C.P t e 1 bytes zv)(vs:cV)(hp:evp fr 0 parts=some vs)(hk:vs.length=kk)(h1:∀u∈vs,u.oneCell'=true)(tX:0<kk)(IA:kk≤1048576):
  qz C fr L (.buildSlice t kk parts.toArray) ty (fun p L'=>∃A,p= .slice A kk kk∧L'= .own e 1 A kk kk vs::L):=fun a w ha hw d pos af gg=>by
 obtain⟨i,hi,hz,jb,D7⟩:=T.hi;obtain⟨out,q1,q2,q3,q4⟩:=Nl ha parts 0 vs ((Array.range (kk*1)).map (zv.cells[· %zv.cells.size]!)) hp h1 bO;have ahO:out=vs.toArray:=by
  apply Array.ext
  ·simp at q2;simp[q2,hk]
  ·intro j h1 h2;have:=q4 j oW;rw[mC,Array.getElem?_eq_getElem h1]at this;simp at h2;rw[fo h2]at this;simpa using this
 rw[ahO]at q1;have Kk:¬(16777216<kk):=by omega
 have CA:¬kk=0:=by omega
 refine⟨_,w.alloc (.cells vs.toArray e),_,.inl ?_,⟨some ⟨w.heap.size,0,none⟩,rfl,rfl⟩,hw.gL (Kv w _ none) ⟨by rw[hk,cE],gj _,.inr ⟨_,_,rfl,hw.base,Es w _,Bk,xz,by simp[←hk]⟩⟩ (.inr ⟨w.heap.size,by simp[Ch.fp,CA],gj _⟩)⟩;simp only[cE]at q1;simp[execOp,Instr.buildSlice,iQ T.ht,sizeOf,typeInfo,zeroValue,hi,hz,jb,Kk,CA,newRow,q1]
section
variable{x y:Operand}{k:IntKind}{m:Int}{f:Ch→aR}{g o i:Nat}{bt t e:TypeId}{cs:cV}
theorem aN{nn:Nat}(ht:C.P.underlying t=some (.array nn e))(hz:(C.P.info? e).map (·.size)=some 1)(he:ev fr x=some (.pointer (some ⟨g,o,none⟩)))(h2:ev fr y=some (.int k m))(hm:m=(i:Int))(hi:i<nn):
  gI C fr L (.indexAddr t x y) ty (.pointer (some ⟨g,o+i,none⟩)):=fun a w ha hw d pos af gg=>by
 subst hm;simp[execOp,Instr.indexAt,Instr.sureAddr,asIntOf,ha.tmp he,ha.tmp h2,iQ ht,hi,GZ hz,zY]
theorem eZ{b:List Int}{kk:IntKind}(hs:pZ C.P t=true)(he:ev fr x=some (.pointer (some ⟨g,0+i,none⟩)))(hm:mx (.bE g bt (ints kk b)) L f)(hi:i<b.length):gI C fr L (.load t x) ty (.int kk (b.getD i 0)):=
 bL hs he hm (by simp[ints,List.getD,fo hi])
theorem GJ{b:List Int}{kk:IntKind}{n:Int}(hs:pZ C.P t=true)(he:ev fr x=some (.pointer (some ⟨g,0+i,none⟩)))(hv:ev fr y=some (.int kk n))(hm:mx (.bE g bt (ints kk b)) L f)(hi:i<b.length):
  qz C fr L (.store t x y) ty (fun p L'=>L'=f (.bE g bt (ints kk (b.set i n)))):=fun a w ha hw d pos af gg=>by
 obtain⟨v,w',L',h1,h2,h3⟩:=oI (ty:=ty) hs he hv rfl hm bO a w ha hw d pos af gg;refine⟨v,w',L',h1,?_,h3⟩;rw[h2];congr 2;simp[ints,Kx]
theorem Dv(kk:Nat)(hs:pt C.P t kk=true)(he:ev fr x=some (bq g))(hm:mx (.bE g bt cs) L f)(hk:cs.length=kk):gI C fr L (.load t x) ty (.agg cs.toArray):=
 bQ kk hs he hm cs (by rw[tg,←hk,jN]) hk
theorem nS{us:cV}(kk:Nat)(hs:pt C.P t kk=true)(he:ev fr x=some (bq g))(hv:ev fr y=some (.agg us.toArray))(h1:∀u∈us,u.oneCell'=true)(hm:mx (.bE g bt cs) L f)(hk:cs.length=kk)(hu:us.length=kk):
  qz C fr L (.store t x y) ty (fun p L'=>L'=f (.bE g bt us)):=fun a w ha hw d pos af gg=>by
 have hb:=(hw.all _ hm.mem).2;have hi:(C.P.info? t).map (·.size)=some us.toArray.size:=by
  have h:=hs;unfold pt at h;rw[z7]at h;have h2:=h.2;rw[beq_iff_eq]at h2;rw[h2,←hu];simp
 have hr:=run_storeVar_row (P:=C.P) w g bt t cs.toArray us.toArray hb hi (by simp[hk,hu]) (by rw[Array.all_eq_true_iff_forall_mem];simpa using h1);refine⟨undef,w.setRow g us.toArray,f (.bE g bt us),.inr ⟨by simp[execOp,Instr.storeAt,Instr.sureAddr,ha.tmp he,ha.tmp hv,hr],rfl⟩,rfl,?_⟩;refine hw.Qn hm ?_ (fun⟨q1,q2⟩=>⟨q1,?_⟩) (.inr (.inl rfl))
 ·exact⟨rfl,rfl,rfl,ak,fun k _ hk=>N_ w g k _ (fun e=>hk C4)⟩
 ·exact N9 w g cs.toArray _ bt _ q2
theorem gS{P:Program}{fn:Func}{R:qR}{q u kk:Nat}{ty:TypeId}(hr:fn.results= #[.cell q ty,.tmp u])(hq:look q fr=some (bq g))(hs:pt P ty kk=true)(hm:mx (.bE g bt cs) L f)(hk:cs.length=kk){v:Value}(hu:look u fr=some v)(RZ:Wk L L')(h:R (.tuple #[.agg cs.toArray,v]) L'):Cn P fn R .ret fr L:=fun B w0 a w ha hw=>by
 subst hk;refine⟨_,L',?_,h,RZ.sl hw⟩;have hl:=kF (P:=P) (w:=w) (p:=⟨g,0,none⟩) hs (fun j u hj=>aa9);rw[results_cell_tmp hr];simp[ha.at_ _ _ hq,ha.at_ _ _ hu,asAddr,hl]
theorem I8{P:Program}{fn:Func}{R:qR}{q kk:Nat}{ty:TypeId}(hr:fn.results= #[.cell q ty])(hq:look q fr=some (bq g))(hs:pt P ty kk=true)(hm:mx (.bE g bt cs) L f)(hk:cs.length=kk)(RZ:Wk L L')(h:R (.agg cs.toArray) L'):Cn P fn R .ret fr L:=fun B w0 a w ha hw=>by
 subst hk;refine⟨_,L',?_,h,RZ.sl hw⟩;have hl:=kF (P:=P) (w:=w) (p:=⟨g,0,none⟩) hs (fun j u hj=>aa9);simp[results,hr,ha.at_ _ _ hq,asAddr,hl]
end
theorem dP.law{P:Program}{ff:FuncId}{args:cV}{w:World}(h:dP P w.heap.size w ff args [] (fun r L=>r= .bool true)):Calls P ff args.toArray w fun e w'=>e= .returned (.bool true)∧Below w.heap.size w w':=
 (h w (SL.AE w)).mono fun e w' ⟨v,M,he,hR,hs⟩=>by subst hR;exact⟨he,hs.below⟩
theorem zx{x:Operand}{xt:TypeId}(h:ev fr x=some (.bool true)):gI C fr L (.unOp .not xt x) ty (.bool false):=jx h
theorem zw{x:Operand}{xt:TypeId}(h:ev fr x=some (.bool false)):gI C fr L (.unOp .not xt x) ty (.bool true):=jx h
def sH(l:List Bool):cV:=l.map .bool
theorem GF{x:Operand}{t:TypeId}{A:bj}{nn c j:Nat}{b:List Bool}(hs:pZ C.P t=true)(he:ev fr x=some (.pointer (A.map (·.add (j*1)))))(hb:aL C.B C.w0 L 1 (.slice A nn c) nn (sH b))(hj:j<nn):gI C fr L (.load t x) ty (.bool (b.getD j false)):=fun a w ha hw=>by
 have hl:=hb.len hw;simp[sH]at hl;rw[cE]at he;refine au hs he hb aa ?_ a w ha hw;simp[sH,List.getD,fo (show j<b.length by omega)]
end
def Bw(P:Program)(t:TypeId):Bool:=match P.info? t with|some i=>Nat.blt 0 i.size|none=>false
theorem Du{C:Cx}{fr:Fr}{L:aR}{x:Operand}{ty t:TypeId}{g o:Nat}{fs:Array Field}{i:Nat}{fd:Field}(ht:C.P.underlying t=some (.struct fs))(hf:fs[i]? =some fd)(hz:Bw C.P fd.type=true)(he:ev fr x=some (.pointer (some ⟨g,o,none⟩))){q:Nat}(hq:o+fd.offset=q):
  gI C fr L (.fieldAddr t x i) ty (.pointer (some ⟨g,q,none⟩)):=by
 unfold Bw at hz;cases hi:C.P.info? fd.type with
 |none=>rw[hi]at hz;cases hz
 |some f=>
  rw[hi]at hz;have:0<f.size:=by simpa[Nat.blt_eq]using hz
  exact GC (sz:=f.size-1) ht hf (by rw[hi];simp;omega) he hq
theorem kG{C:Cx}{cd:Code}{Q:Exit→Fr→aR→Prop}{fr:Fr}{L:aR}{e:TypeId}{size n c:Nat}{A:bj}{xs:cV}(hm:Ch.own e size A n c xs∈L)(hn:0<n)(h:∀ad,A=some ad→VC C cd Q fr L):VC C cd Q fr L:=fun a w ha hw=>by
 rcases(hw.all _ hm).2.2 with h0|⟨g,cur,rfl,_⟩
 ·have:n≤c:=(hw.all _ hm).2.1;omega
 ·exact h _ rfl a w ha hw
theorem aP{C:Cx}{fr:Fr}{L:aR}{x y:Operand}{ty t e:TypeId}{k:IntKind}{m:Int}{size nn c i:Nat}{ad:Addr}(ht:C.P.underlying t=some (.slice e))(hz:(C.P.info? e).map (·.size)=some size)(he:ev fr x=some (.slice (some ad) nn c))(h2:ev fr y=some (.int k m))(hm:m=(i:Int))(hi:i<nn):
  gI C fr L (.indexAddr t x y) ty (.pointer ((some ad).map (·.add (i*size)))):=fun a w ha hw d pos af gg=>by
 subst hm;simp[execOp,Instr.indexAt,asIntOf,ha.tmp he,ha.tmp h2,iQ ht,hi,GZ hz]
theorem dv{C:Cx}{fr:Fr}{L:aR}{x:Operand}{ty t:TypeId}{fs:Array Field}{i j:Nat}{fd:Field}{size nn c:Nat}{A:bj}{xs:cV}(ht:C.P.underlying t=some (.struct fs))(hf:fs[i]? =some fd)(hz:Bw C.P fd.type=true)(he:ev fr x=some (.pointer (A.map (·.add j))))(hb:aL C.B C.w0 L size (.slice A nn c) nn xs)(hn:0<nn){q:Nat}(hq:fd.offset=q):
  gI C fr L (.fieldAddr t x i) ty (.pointer (A.map (fun ad=>(ad.add j).add q))):=by
 unfold Bw at hz;cases hi:C.P.info? fd.type with
 |none=>rw[hi]at hz;cases hz
 |some f=>
  rw[hi]at hz;have:0<f.size:=by simpa[Nat.blt_eq]using hz
  exact xN (sz:=f.size-1) ht hf (by rw[hi];simp;omega) he hb hn hq
theorem wJ{C:Cx}{fr:Fr}{L:aR}{ty t:TypeId}{parts:List (Nat×Operand)}(us:List (Nat×Value))(cs:cV)(hp:parts.map (fun p=>(p.1,ev fr p.2))=us.map (fun p=>(p.1,some p.2)))(hb:C.P.built t us=some cs.toArray):
  gI C fr L (.build t parts.toArray) ty (.agg cs.toArray):=fun a w ha hw d pos af gg=>by
 have hps:parts.map (fun p=>(p.1,a.eval p.2))=us:=by
  clear hb;induction parts generalizing us with
  |nil=>cases us with|nil=>rfl|cons _ _=>cases hp
  |cons p ps ih=>
   cases us with
   |nil=>cases hp
   |cons u us=>
    simp only[kz,List.cons.injEq,Cd]at hp;obtain⟨⟨h1,h2⟩,h3⟩:=hp;simp only[kz,ha.tmp h2,h1,ih us h3]
 have:=run_build (P:=C.P) w t us.toArray cs.toArray (by simpa using hb);subst hps;simp only[List.toArray]at this;simp[execOp]at this⊢;rw[this];rfl
theorem cv{C:Cx}{fr:Fr}{L:aR}{ty t:TypeId}(cs:cV)(hb:C.P.built t []=some cs.toArray):gI C fr L (.build t #[]) ty (.agg cs.toArray):=fun a w ha hw d pos af gg=>by
 have:=run_build (P:=C.P) w t #[] cs.toArray (by simpa using hb);simp[execOp,this]
theorem eG{C:Cx}{fr:Fr}{L:aR}{ty t:TypeId}{parts:List (Nat×Operand)}(us:List (Nat×Value))(cs:cV)(hp:parts.map (fun p=>(p.1,ev fr p.2))=us.map (fun p=>(p.1,some p.2)))(tT:us.flatMap (fun p=>p.2.cells.toList)=cs)(hb:C.P.built t us=some cs.toArray):
 gI C fr L (.build t parts.toArray) ty (.agg cs.toArray):=wJ us cs hp hb
end
theorem oe{P:Prop}(h:P:=by(simp[hx])):P:=h
theorem adm:type_of% @List.countP_le_length:= @List.countP_le_length
theorem Oc:type_of% @List.countP_cons:= @List.countP_cons
theorem p6:type_of% @List.ext_getElem:= @List.ext_getElem
theorem k_:type_of% @Nat.pow_le_pow_right:= @Nat.pow_le_pow_right
def num(l:al)(k:Nat):Nat:=l.countP fun c=>c.toNat==k
def tJ(l:al):List Int:=(List.range 16).map fun k=>((num l k:Nat):Int)
@[simp] theorem ajQ(l:al):(tJ l).length=16:=by simp[tJ]
theorem Dh(l:al){k:Nat}(h:k<16):(tJ l).getD k 0=(num l k:Int):=by
 simp[tJ,List.getD,h]
theorem w3(l:al)(k:Nat):num l k≤l.length:=adm
theorem EO(l:al)(c:UInt8)(k:Nat):num (l++[c]) k=num l k+if c.toNat=k then 1 else 0:=by
 unfold num;rw[List.countP_append,Oc,List.countP_nil];simp
theorem yE(l:al)(c:UInt8)(k:Nat):num (c::l) k=num l k+if c.toNat=k then 1 else 0:=by
 unfold num;rw[Oc];simp
theorem abA{l:al}{c:UInt8}(hc:c.toNat<16):(tJ l).set c.toNat ((tJ l).getD c.toNat 0+1)=tJ (l++[c]):=by
 rw[Dh l hc];apply p6
 ·simp
 ·intro i h1 h2;have hi:i<16:=by simpa using h2
  by_cases e:c.toNat=i
  ·subst e;simp[tJ,EO]
  ·simp[tJ,EO,e]
theorem ag4:tJ []=List.replicate 16 0:=by decide
def w9(b:List Int):Nat→Int
 |0=>0
 |k+1=>w9 b k+if k=0 then 0 else b.getD k 0*2^(15-k)
def tK(b:List Int):Nat→Int
 |0=>0
 |k+1=>tK b k+if k=0 then 0 else b.getD k 0
theorem Z2(b:List Int){k:Nat}(hk:1≤k):w9 b (k+1)=w9 b k+b.getD k 0*2^(15-k):=by
 conv=>lhs;unfold w9
 rw[aw aa]
theorem XI(b:List Int){k:Nat}(hk:1≤k):tK b (k+1)=tK b k+b.getD k 0:=by
 conv=>lhs;unfold tK
 rw[aw aa]
def Few(b:List Int):Prop:=b.length=16∧∀i,0≤b.getD i 0∧b.getD i 0≤300
theorem Few.sum{b:List Int}(h:Few b):∀k,0≤w9 b k∧w9 b k≤k*9830400
 |0=>by simp[w9]
 |k+1=>by
  have ih:=h.sum k;have hb:=h.2 k;unfold w9;split
  ·omega
  ·have h2:(2:Int)^(15-k)≤2^15:=by
    have:(2:Nat)^(15-k)≤2^15:=k_ aa aa
    exact_mod_cast this
   have h3:(0:Int)<2^(15-k):=Int.pow_pos aa;have h4:0≤b.getD k 0*2^(15-k):=Int.mul_nonneg hb.1 aa;have h5:b.getD k 0*2^(15-k)≤300*2^15:=Int.mul_le_mul hb.2 h2 aa aa;omega
theorem Few.rL{b:List Int}(h:Few b):∀k,0≤tK b k∧tK b k≤k*300
 |0=>by simp[tK]
 |k+1=>by
  have ih:=h.rL k;have hb:=h.2 k;unfold tK;split<;>omega
theorem J7{l:al}(h:l.length≤300):Few (tJ l):=by
 refine⟨ak,fun i=>?_⟩;by_cases hi:i<16
 ·rw[Dh l hi];have:=w3 l i;omega
 ·simp[List.getD,show(tJ l)[i]? =none from zZ bO]
theorem UW{b:List Int}(h:Few b)(i:Nat){x:Int}(hx:0≤x∧x≤300):Few (b.set i x):=by
 refine⟨by simpa using h.1,fun j=>?_⟩;by_cases e:i=j
 ·subst e;by_cases hi:i<b.length
  ·simp[List.getD,hi,hx]
  ·simp[List.getD,hi]
 ·have:=h.2 j;simpa[List.getD,e]using this
def qV(l:al):List Int:=(tJ l).set 0 0
theorem cX(l:al){k:Nat}(h:k<16)(h0:k≠0):(qV l).getD k 0=(num l k:Int):=by
 rw[←Dh l h];simp[qV,List.getD,Ne.symm h0]
def Fit(l:al):Prop:=l.length≤300∧∀c∈l,c.toNat≤15
instance (l:List UInt8):Decidable (Fit l):=inferInstanceAs (Decidable (_∧_))
def Good(l:al):Prop:=Fit l∧(tK (qV l) 16=0∨w9 (qV l) 16=32768∨tK (qV l) 16=1∧(qV l).getD 1 0=1)
instance (l:List UInt8):Decidable (Good l):=inferInstanceAs (Decidable (_∧_))
theorem aco{l:al}(h:Fit l):Good l↔(tK (qV l) 16=0∨w9 (qV l) 16=32768∨tK (qV l) 16=1∧(qV l).getD 1 0=1):=⟨fun g=>g.2,fun g=>⟨h,g⟩⟩
theorem Nj{l:al}(h:Fit l):Few (qV l):=UW (J7 h.1) 0 aa
def chk(l:al):Int:=if Good l then 0 else 7
def ql:al→Nat
 |[]=>0
 |c::r=>(if c.toNat=0 then 0 else 2^(15-c.toNat))+ql r
def nz(l:al):Nat:=l.countP fun c=>c.toNat != 0
theorem Sb(l:al)(c:UInt8):ql (l++[c])=ql l+if c.toNat=0 then 0 else 2^(15-c.toNat):=by
 induction l with
 |nil=>simp[ql]
 |cons x r ih=>simp only[nE,ql,ih];omega
theorem CH(l:al)(c:UInt8):nz (c::l)=nz l+if c.toNat=0 then 0 else 1:=by
 unfold nz;rw[Oc];by_cases h:c.toNat=0<;>simp[h]
theorem ai6(l:al):w9 (qV l) 16=(num l 1*16384+num l 2*8192+num l 3*4096+num l 4*2048+num l 5*1024+num l 6*512+num l 7*256+num l 8*128+num l 9*64+num l 10*32+num l 11*16+num l 12*8+num l 13*4+num l 14*2+num l 15:Nat):=by
 simp only[w9,cX l (show 1<16 by omega) aa,cX l (show 2<16 by omega) aa,cX l (show 3<16 by omega) aa,cX l (show 4<16 by omega) aa,cX l (show 5<16 by omega) aa,cX l (show 6<16 by omega) aa,cX l (show 7<16 by omega) aa,cX l (show 8<16 by omega) aa,cX l (show 9<16 by omega) aa,cX l (show 10<16 by omega) aa,cX l (show 11<16 by omega) aa,cX l (show 12<16 by omega) aa,cX l (show 13<16 by omega) aa,cX l (show 14<16 by omega) aa,cX l (show 15<16 by omega) aa];simp
theorem ag3(l:al):tK (qV l) 16=(num l 1+num l 2+num l 3+num l 4+num l 5+num l 6+num l 7+num l 8+num l 9+num l 10+num l 11+num l 12+num l 13+num l 14+num l 15:Nat):=by
 simp only[tK,cX l (show 1<16 by omega) aa,cX l (show 2<16 by omega) aa,cX l (show 3<16 by omega) aa,cX l (show 4<16 by omega) aa,cX l (show 5<16 by omega) aa,cX l (show 6<16 by omega) aa,cX l (show 7<16 by omega) aa,cX l (show 8<16 by omega) aa,cX l (show 9<16 by omega) aa,cX l (show 10<16 by omega) aa,cX l (show 11<16 by omega) aa,cX l (show 12<16 by omega) aa,cX l (show 13<16 by omega) aa,cX l (show 14<16 by omega) aa,cX l (show 15<16 by omega) aa];simp
theorem rq:∀l:al,(∀c∈l,c.toNat≤15)→ql l=num l 1*16384+num l 2*8192+num l 3*4096+num l 4*2048+num l 5*1024+num l 6*512+num l 7*256+num l 8*128+num l 9*64+num l 10*32+num l 11*16+num l 12*8+num l 13*4+num l 14*2+num l 15∧
  nz l=num l 1+num l 2+num l 3+num l 4+num l 5+num l 6+num l 7+num l 8+num l 9+num l 10+num l 11+num l 12+num l 13+num l 14+num l 15
 |[],_=>by simp[ql,nz,num]
 |c::r,h=>by
  have ih:=rq r fun x hx=>h x oe;have hc:=h c ak;simp only[ql,CH,yE,ih.1,ih.2];have kH:c.toNat=0∨c.toNat=1∨c.toNat=2∨c.toNat=3∨c.toNat=4∨c.toNat=5∨c.toNat=6∨c.toNat=7∨c.toNat=8∨c.toNat=9∨c.toNat=10∨c.toNat=11∨c.toNat=12∨c.toNat=13∨c.toNat=14∨c.toNat=15:=by omega
  generalize c.toNat=x at kH;rcases kH with h|h|h|h|h|h|h|h|h|h|h|h|h|h|h|h<;>subst h<;>simp<;>omega
theorem Z3{l:al}(h:Fit l):w9 (qV l) 16=(ql l:Int):=by rw[ai6,(rq l h.2).1]
theorem alA{l:al}(h:Fit l):tK (qV l) 16=(nz l:Int):=by rw[ag3,(rq l h.2).2]
theorem D1{l:al}(h:Fit l):Good l↔(nz l=0∨nz l=1∧num l 1=1)∨ql l=32768:=by
 unfold Good;rw[Z3 h,alA h,cX l aa aa];constructor
 ·rintro⟨_,h|h|h⟩<;>omega
 ·rintro((h'|h')|h')<;>exact⟨h,aa⟩
theorem jY{P:Prop}(h:P:=by(cases h)):P:=h
theorem nF:type_of% @Nat.pow_succ:= @Nat.pow_succ
theorem Ky:type_of% @List.take_sublist:= @List.take_sublist
theorem Eu:type_of% @List.getElem_map:= @List.getElem_map
theorem G4:type_of% @List.getElem_range:= @List.getElem_range
theorem Od:type_of% @List.getElem_set:= @List.getElem_set
theorem wX:type_of% @List.set_append_right:= @List.set_append_right
theorem fD:type_of% @List.take_of_length_le:= @List.take_of_length_le
theorem th:type_of% @Nat.mul_assoc:= @Nat.mul_assoc
theorem nG:type_of% @Nat.mul_comm:= @Nat.mul_comm
def fst(l:al):Nat→Nat
 |0=>0
 |1=>0
 |k+2=>(fst l (k+1)+num l (k+1))*2
theorem fA(l:al){k:Nat}(h:1≤k):fst l (k+1)=(fst l k+num l k)*2:=by
 obtain⟨j,rfl⟩:∃j,k=j+1:=⟨k-1,aa⟩
 rfl
theorem ach{l:al}(hl:l.length≤300):∀k,fst l k+600≤600*2^k
 |0=>by simp[fst]
 |1=>by simp[fst]
 |k+2=>by
  have ih:=ach hl (k+1);have hn:=w3 l (k+1);rw[fA l aa,nF 2 (k+1)];omega
theorem uY{l:al}(hl:l.length≤300){k:Nat}(hk:k≤16):fst l k≤39321600:=by
 have h1:=ach hl k;have h2:=k_ (show 1≤2 by omega) hk;omega
def place(l:al)(k:Nat)(s:Nat):Nat:=fst l k+num (l.take s) k
def code(l:al)(s:Nat):Int:=if (l.getD s 0).toNat=0 then 0 else IntKind.u16.wrap (place l (l.getD s 0).toNat s:Int)
def gh(l:al):List Int:=(List.range l.length).map (code l)
@[simp] theorem GB(l:al):(gh l).length=l.length:=by simp[gh]
theorem wI(l:al){s:Nat}(h:s<l.length):(gh l).getD s 0=code l s:=by
 simp[gh,List.getD,h]
theorem jT{l:al}{s:Nat}(k:Nat)(h:s<l.length):num (l.take (s+1)) k=num (l.take s) k+if (l.getD s 0).toNat=k then 1 else 0:=by
 rw[aZ h 0,EO]
theorem ux(l:al)(s k:Nat):num (l.take s) k≤num l k:=by
 unfold num;exact List.Sublist.countP_le (Ky s l)
def x7(l:al)(k:Nat):List Int:=(List.range 17).map fun j=>if j≤k then (fst l j:Int) else 0
@[simp] theorem ake(l:al)(k:Nat):(x7 l k).length=17:=by simp[x7]
theorem ace(l:al){k j:Nat}(h:j≤k)(h2:j<17):(x7 l k).getD j 0=(fst l j:Int):=by
 simp[x7,List.getD,h2,h]
theorem acf(l:al):List.replicate 17 (0:Int)=x7 l 1:=by
 have h1:fst l 1=0:=rfl;have h0:fst l 0=0:=rfl;have e:x7 l 1=(List.range 17).map fun _=>(0:Int):=by
  unfold x7;refine sa fun j _=>?_;split
  ·rename_i h;have:j=0∨j=1:=by omega
   rcases this with rfl|rfl
   ·rw[h0];rfl
   ·rw[h1];rfl
  ·rfl
 rw[e];decide
theorem Yf(l:al){k:Nat}:(x7 l k).set (k+1) (fst l (k+1):Int)=x7 l (k+1):=by
 apply p6
 ·simp
 ·intro i h1 h2;by_cases e:k+1=i
  ·subst e;simp[x7]
  ·have:i≤k↔i≤k+1:=by omega
   simp[x7,e,this]
def vA(l:al)(s:Nat):List Int:=(List.range 17).map fun j=>if j=0 then 0 else (place l j s:Int)
@[simp] theorem Nr(l:al)(k:Nat):(vA l k).length=17:=by simp[vA]
theorem acg(l:al){s j:Nat}(h:1≤j)(h2:j<17):(vA l s).getD j 0=(place l j s:Int):=by
 have:¬j=0:=by omega
 simp[vA,List.getD,h2,this]
theorem Yi(l:al):x7 l 16=vA l 0:=by
 apply p6
 ·simp
 ·intro i h1 h2;have hi:i<17:=by simpa using h1
  by_cases e:i=0
  ·subst e;rfl
  ·simp[x7,vA,e,place,num,show i≤16 by omega]
theorem Yg{l:al}{s:Nat}(h:s<l.length)(h0:(l.getD s 0).toNat=0):vA l s=vA l (s+1):=by
 apply p6
 ·simp
 ·intro i h1 h2;by_cases e:i=0
  ·simp[vA,e]
  ·simp only[vA,Eu,G4,e,if_false,place,jT i h];rw[aw aa];rfl
theorem Yh{l:al}{s:Nat}(h:s<l.length)(h1:1≤(l.getD s 0).toNat)(h2:(l.getD s 0).toNat<17):(vA l s).set (l.getD s 0).toNat ((place l (l.getD s 0).toNat s:Int)+1)=vA l (s+1):=by
 apply p6
 ·simp
 ·intro i k1 k2;by_cases e:(l.getD s 0).toNat=i
  ·rw[Od,aq e];subst e;have hn:=jT (l:=l) (l.getD s 0).toNat h;rw[aq rfl]at hn;simp only[vA,Eu,G4,place,hn];rw[aw aa];omega
  ·rw[Od,aw e];by_cases e0:i=0
   ·simp[vA,e0]
   ·simp only[vA,Eu,G4,e0,if_false,place,jT i h];rw[aw e];rfl
theorem OQ{l:al}(hl:l.length≤300){k:Nat}(hk:k≤16)(s:Nat):place l k s≤39321900:=by
 have h1:=uY hl hk;have h2:=ux l s k;have h3:=w3 l k;unfold place;omega
def Cf(l:al)(s:Nat):List Int:=(gh l).take s++List.replicate (l.length-s) 0
@[simp] theorem ON(l:al){s:Nat}(h:s≤l.length):(Cf l s).length=l.length:=by simp[Cf];omega
theorem ZA(l:al):Cf l 0=List.replicate l.length 0:=by simp[Cf]
theorem IV{l:al}{s:Nat}(h:s<l.length):(Cf l s).set s (code l s)=Cf l (s+1):=by
 unfold Cf;rw[wX _ _ bO];have e:s-((gh l).take s).length=0:=by simp;omega
 rw[e,show l.length-s=(l.length-(s+1))+1 by omega,zX,List.set_cons_zero,aZ (l:=gh l) (k:=s) nu 0,wI l h,bV];rfl
theorem Zz{l:al}{s:Nat}(h:s<l.length)(h0:(l.getD s 0).toNat=0):Cf l s=Cf l (s+1):=by
 rw[←IV h];have:code l s=0:=aq h0;rw[this];apply p6
 ·simp
 ·intro i k1 k2;rw[Od];split
  ·rename_i e;subst e;have k3:s<((gh l).take s++List.replicate (l.length-s) (0:Int)).length:=k1;show((gh l).take s++List.replicate (l.length-s) (0:Int))[s]'k3=0;rw[List.getElem_append_right bO];simp
  ·rfl
theorem ad8(l:al):Cf l l.length=gh l:=by
 unfold Cf;rw[fD ak];simp
def akc(l:al)(L s j:Nat):Prop:=(l.getD j 0).toNat≠0∧((l.getD j 0).toNat<L∨(l.getD j 0).toNat=L∧j<s)
instance (l:List UInt8)(L s j:Nat):Decidable (akc l L s j):=inferInstanceAs (Decidable (_∧_))
def aqQ(l:al)(L s:Nat):List Int:=(List.range l.length).map fun j=>if akc l L s j then code l j else 0
@[simp] theorem akC(l:al)(L s:Nat):(aqQ l L s).length=l.length:=by simp[aqQ]
theorem ZE{l:al}{L s:Nat}(hs:s<l.length)(h:(l.getD s 0).toNat=L):place l L (s+1)=place l L s+1:=by
 unfold place;rw[jT L hs,aq h];omega
theorem EV{l:al}{L:Nat}(hL:1≤L):place l (L+1) 0=2*place l L l.length:=by
 unfold place;rw[fA l hL,jN];simp[num];omega
def RC(l:al)(L s next was:Nat)(any:Bool):Prop:=was≤L∧(any=true→(next+1)*2^(L-was)=place l L s)∧(any=false→place l L s=0∧next=0)
theorem RC.start(l:al):RC l 1 0 0 0 false:=⟨aa,(fun h=>jY),fun _=>⟨by simp[place,fst,num],rfl⟩⟩
theorem RC.next{l:al}{L next was:Nat}{any:Bool}(h:RC l L l.length next was any)(hL:1≤L):RC l (L+1) 0 next was any:=by
 obtain⟨h1,h2,h3⟩:=h;refine⟨aa,fun h=>?_,fun h=>?_⟩
 ·rw[EV hL,←h2 h,show L+1-was=(L-was)+1 by omega,nF];rw[←th,nG]
 ·rw[EV hL,(h3 h).1];exact⟨rfl,(h3 h).2⟩
theorem R_{l:al}(h:Good l):ql l≤32768:=by
 have h1:=(D1 h.1).1 h;have h2:=rq l h.1.2;omega
theorem qY{l:al}(h:Good l){k:Nat}(h1:1≤k)(h2:k≤15):fst l k+num l k≤2^k:=by
 have hk:=R_ h;have e:=(rq l h.1.2).1;have e1:fst l 1=0:=rfl;have e2:=fA l (k:=1) aa;have e3:=fA l (k:=2) aa;have e4:=fA l (k:=3) aa;have e5:=fA l (k:=4) aa;have e6:=fA l (k:=5) aa;have e7:=fA l (k:=6) aa;have e8:=fA l (k:=7) aa;have e9:=fA l (k:=8) aa;have e10:=fA l (k:=9) aa;have e11:=fA l (k:=10) aa;have e12:=fA l (k:=11) aa;have e13:=fA l (k:=12) aa;have e14:=fA l (k:=13) aa;have e15:=fA l (k:=14) aa;have hc:k=1∨k=2∨k=3∨k=4∨k=5∨k=6∨k=7∨k=8∨k=9∨k=10∨k=11∨k=12∨k=13∨k=14∨k=15:=by omega
 rcases hc with h|h|h|h|h|h|h|h|h|h|h|h|h|h|h<;>subst h<;>simp only[Nat.reduceAdd,Nat.reducePow]at*<;>omega
theorem yI{l:al}{s k:Nat}(hs:s<l.length)(h:(l.getD s 0).toNat=k):place l k s+1≤fst l k+num l k:=by
 have h1:=ZE hs h;have h2:=ux l (s+1) k;unfold place at*;omega
theorem aej(l:al)(k s:Nat):fst l k≤place l k s:=Nat.le_add_right _ _
theorem U7(l:al){k:Nat}(h:1≤k):∀d,1≤d→(fst l k+num l k)*2^d≤fst l (k+d)
 |0,h=>absurd h aa
 |1,_=>by rw[fA l h];omega
 |d+2,_=>by
  have ih:=U7 l h (d+1) aa;have e:fst l (k+(d+2))=(fst l (k+(d+1))+num l (k+(d+1)))*2:=fA l (k:=k+(d+1)) aa;rw[e,show d+2=(d+1)+1 from rfl,nF,←th];exact oC 2 (jf ih (Nat.le_add_right _ _))
theorem MI{l:al}(hg:Good l){s:Nat}(hs:s<l.length)(h0:(l.getD s 0).toNat≠0):code l s=(place l (l.getD s 0).toNat s:Int):=by
 unfold code;rw[aw h0];have hu:=hg.1.2 _ (bh hs 0);have h1:=yI hs rfl;have h2:=qY hg (k:=(l.getD s 0).toNat) aa hu;have h3:=k_ (show 1≤2 by omega) hu;exact ak0 aa aa
theorem QV{l:al}(hg:Good l){s:Nat}(hs:s<l.length)(h0:(l.getD s 0).toNat≠0):place l (l.getD s 0).toNat s<32768:=by
 have hu:=hg.1.2 _ (bh hs 0);have h1:=yI hs rfl;have h2:=qY hg (k:=(l.getD s 0).toNat) aa hu;have h3:=k_ (show 1≤2 by omega) hu;omega
section
section
variable{C:Cx}{Q:Exit→Fr→aR→Prop}{fr jH:Fr}{L L':aR}{cd:Code}{ops:Array Oper}{l:sD}{op:Op}{ty:TypeId}{pos:String}{af:Array Edge}{d:Nat}{v:Value}
variable{x y z:Operand}{k:IntKind}{m n:Int}{f:Ch→aR}{g o:Nat}{bt t e:TypeId}{cs:cV}
theorem z':type_of% @List.getElem?_append_left:= @List.getElem?_append_left
theorem sb:type_of% @List.length_nil:= @List.length_nil
theorem sc:type_of% @Nat.zero_mul:= @Nat.zero_mul
theorem sI{size bytes:Nat}{zv:Value}(T:sF C.P t e size bytes zv):qz C fr L (.buildSlice t 0 #[]) ty (fun p L'=>∃A,p= .slice A 0 0∧L'= .own e size A 0 0 []::L):=fun a w ha hw d pos af gg=>by
 obtain⟨i,hi,hz,jb,D7⟩:=T.hi;subst jb;refine⟨.slice (some ⟨w.heap.size,0,none⟩) 0 0,w.alloc (.cells #[] e),_,.inl ?_,⟨some ⟨w.heap.size,0,none⟩,rfl,rfl⟩,hw.gL (Kv w _ none) ⟨ak,gj _,.inl rfl⟩ (.inl rfl)⟩;simp[execOp,Instr.buildSlice,iQ T.ht,sizeOf,typeInfo,hi,Instr.fill,newRow];rw[show Array.range 0= #[] from by simp[Array.range],Array.map_empty]
theorem Np:∀(us pre:cV) (cells:Array Value),pre.length+us.length=cells.size→(∀j,j<pre.length→cells[j]? =pre[j]?)→(us.zipIdx pre.length).foldl (fun cs (c,j)=>cs.setIfInBounds j c) cells=(pre++us).toArray
 |[],pre,cells,h,hp=>by
  simp only[List.zipIdx_nil,List.foldl_nil,gk];simp at h;apply Array.ext
  ·simp[h]
  ·intro j h1 h2;have:=hp j oW;rw[Array.getElem?_eq_getElem h1]at this;simp at h2;rw[fo h2]at this;simpa using this
 |u::us,pre,cells,h,hp=>by
  rw[List.zipIdx_cons,List.foldl_cons];simp only[eh]at h;have:=Np us (pre++[u]) (cells.setIfInBounds pre.length u) bO (fun j hj=>by
   simp at hj;rw[Array.getElem?_setIfInBounds];by_cases hjp:pre.length=j
   ·subst hjp;simp;omega
   ·rw[aw hjp,hp j aa,z' aa])
  simpa using this
theorem ab5{size:Nat}{v:Value}{us:cV}(hv:v.cells=us.toArray)(hl:us.length=size)(Z:Array Value)(hZ:Z.size=size):Instr.fill (fun i=>some (i*size,size)) Z [(0,v)]=some us.toArray:=by
 have h:=Np us [] Z (by simpa[hZ]using hl) ak;simp only[sb,nU]at h;simp only[Instr.fill,hv,sc,mC,wW,hl];simp[hZ];exact h
theorem M6{size bytes:Nat}{zv:Value}{us:cV}(T:sF C.P t e size bytes zv)(he:ev fr x=some v)(hv:v.cells=us.toArray)(hl:us.length=size)(IA:size≤1000):qz C fr L (.buildSlice t 1 #[(0,x)]) ty (fun p L'=>∃A,p= .slice A 1 1∧L'= .own e size A 1 1 us::L):=by
 obtain⟨i,hi,hz,jb,D7⟩:=T.hi;exact mb (parts:=[(0,x)]) (us:=[(0,v)]) (zv:=zv) T.ht (by rw[hi];simp[jb]) T.hs aa aa (by rw[hi];simpa using hz) (by simp[he]) (ab5 hv hl _ ak) aa
theorem rJ{size bytes d1 d2:Nat}{zv:Value}{ty1 ty2:TypeId}{ank anl:String}{af1 af2:Array Edge}{s:Operand}{A:bj}{n c:Nat}{xs us:cV}(T:sF C.P t e size bytes zv)(he:ev fr x=some v)(hv:v.cells=us.toArray)(zc:us.length=size)(IA:size≤1000)(h1:∀u∈us,u.oneCell'=true)(hd1:Nat.blt d1 C.N=true)(Yz:Nat.blt d2 C.N=true)(hs:ev ((d1,.slice none 0 0)::fr) s=some (.slice A n c))(hsn:∀u,ev ((d1,u)::fr) s=ev ((d1,.slice none 0 0)::fr) s)(hl:mx (.own e size A n c xs) L f)(jV:(n+1)*bytes≤140737488355328)(Ir:n+1≤140737488355328)(kk:∀A1 A' c',VL C ops Q l ((d2,.slice A' (n+1) c')::(d1,.slice A1 1 1)::fr) (f (.own e size A' (n+1) c' (xs++us)))):
  VL C ops Q (⟨some d1,.buildSlice t 1 #[(0,x)],ty1,ank,af1,none⟩::⟨some d2,.call {callee:=.builtin .append,args:= #[s,.tmp d1],argTypes:= #[t,t]},ty2,anl,af2,none⟩::l) fr L:=by
 refine lK (M6 T he hv zc IA) hd1 ?_;rintro _ _ ⟨A1,rfl,rfl⟩;refine lK (bW (m:=1) (news:=us) T ((hsn _).trans hs) (.tl hl) (yv:=.slice A1 1 1) (by simp[ev,look]) (aL.own (List.Mem.head _)) h1 jV Ir) Yz ?_;rintro _ _ ⟨A2,c2,rfl,rfl⟩;intro a w ha hw;exact kk A1 A2 c2 a w ha hw.tail
theorem TK{size nn c:Nat}{A:bj}{xs:cV}(hb:aL C.B C.w0 L size (.slice A nn c) nn xs)(h:nn≤c→xs.length=nn*size→VC C cd Q fr L):VC C cd Q fr L:=fun a w ha hw=>by
 obtain⟨A',c',hv,hc,hl,_⟩:=hb w hw;injection hv with _ _ h3;subst h3;exact h hc hl a w ha hw
theorem dP.zk{P:Program}{B:Nat}{w0:World}{ff:FuncId}{args:cV}{R:qR}{size nn c:Nat}{A:bj}{xs:cV}(hb:aL B w0 L size (.slice A nn c) nn xs)(h:nn≤c→xs.length=nn*size→dP P B w0 ff args L R):dP P B w0 ff args L R:=fun w hw=>by
 obtain⟨A',c',hv,hc,hl,_⟩:=hb w hw;injection hv with _ _ h3;subst h3;exact h hc hl w hw
theorem r7{A:bj}{nn c:Nat}{xt yt:TypeId}(ht:C.P.underlying xt=some (.slice e))(h1:ev fr x=some (.slice A nn c))(h2:ev fr y=some (.slice none 0 0)):gI C fr L (.binOp .eql xt x y yt) ty (.bool A.isNone):=fun a w ha hw d pos af g=>by
 have he:(eqGuard .eql xt x y (.slice A nn c) (.slice none 0 0)).run C.P w= .ok () w:=by simp[eqGuard]
 simp only[execOp,ha.tmp h1,ha.tmp h2,N3,he,Lib.run_eql_slice_nil w xt e A nn c 0 0 ht,vE,Kt]
end
def aqF(zs:cV):List (Nat×Value)→cV
 |[]=>zs
 |(o,v)::r=>aqF (zs.take o++(v.cells.toList++zs.drop (o+v.cells.size))) r
theorem br{C:Cx}{fr:Fr}{L:aR}{ty t:TypeId}{parts:List (Nat×Operand)}(us:List (Nat×Value))(zs:cV)(os:bc)(cs:cV)(hp:parts.map (fun p=>(p.1,ev fr p.2))=us.map (fun p=>(p.1,some p.2)))(tT:aqF zs (os.zip (us.map (·.2)))=cs)(hb:C.P.built t us=some cs.toArray):
 gI C fr L (.build t parts.toArray) ty (.agg cs.toArray):=wJ us cs hp hb
theorem aC{P:Program}{fn:Func}{R:qR}{ee:Exit}{fr:Fr}{L:aR}(e:TypeId)(size:Nat)(A:bj)(h:Cn P fn R ee fr (.own e size A 0 0 []::L)):Cn P fn R ee fr L:=by
 cases ee<;>first
  |exact h
  |(intro B w0 a w ha hw;exact h B w0 a w ha (hw.CE e size A))
theorem aq8{A:bj}{n m c:Nat}(h:n=m):some (Value.slice A n c)=some (.slice A m c):=by rw[h]
theorem swp{a b:Ch}{L:aR}:(a::b::L).Perm (b::a::L):=.swap b a L
theorem dP.of_same{P:Program}{B:Nat}{w0:World}{ff:FuncId}{args:cV}{L:aR}{v:Value}(h:∀w,SL B w0 L w→Calls P ff args.toArray w fun e w'=>e= .returned v∧w=w'):dP P B w0 ff args L (fun r L'=>r=v∧L'=L):=fun w hw=>
 (h w hw).mono fun e w' ⟨he,GX⟩=>by subst GX;exact⟨v,L,he,⟨rfl,rfl⟩,hw⟩
theorem pM{C:Cx}{ops:Array Oper}{S:aR}{Q:Exit→Fr→aR→Prop}{fuel:Nat}{li:Array Bool}{fr:Fr}{L:aR}{d:Nat}{ty:TypeId}{pos:String}{af:Array Edge}{i:Nat}{ff:FuncId}{gg:Operand}{tF:List Operand}{Co:Array TypeId}{vs fst cap:cV}{R:qR}{g:Option (Nat×Bool)}(ho:ops[i]? =some ⟨some d,.call {callee:=.value gg,args:=tF.toArray,argTypes:=Co},ty,pos,af,g⟩)(hg:Gd ops fr g)(hc:aJ C.P ff)(hgg:ev fr gg=some (.func (.func ff) fst.toArray cap.toArray))(he:B9 fr tF=some vs)(h:dP C.P C.B C.w0 ff (fst++vs++cap) L R)(hd:Nat.blt d C.N=true)(hS:∀v L',R v L'→S.Sublist L')(k:∀v L',R v L'→VH C ops S Q fuel (li.setIfInBounds i true) ((d,v)::fr) L'):Step C ops S Q fuel li fr L i:=fun a w ha hw _=>by
 unfold wpOp;simp only[ho];rw[aq (hg.wanted ha)];refine .inl ?_;unfold Oper.wp;rw[mc hc (ha.tmp hgg),ha.B9 he];simp only[List.append_toArray];refine Ku (h w hw) fun e w' ⟨v,L',he,hR,hs⟩=>?_;subst he;have jK:=hs.sub (hS v L' hR);exact⟨jK,k _ _ hR _ _ (ha.put hd _) hs jK⟩
end
section
theorem Ah:type_of% @List.take_zero:= @List.take_zero
theorem lW:type_of% @List.mem_of_mem_take:= @List.mem_of_mem_take
theorem Oe:type_of% @List.take_append:= @List.take_append
theorem IE:type_of% @List.take_take:= @List.take_take
theorem sP:type_of% @Option.map_some:= @Option.map_some
theorem Ek:type_of% @Nat.sub_zero:= @Nat.sub_zero
theorem gV{P:Program}{t:TypeId}{xs:Array Value}{off:Nat}{v:Value}(hs:pZ P t=true)(hx:xs[off]? =some v)(w:World):(part t xs off).run P w= .ok v w:=by
 simp[part,yc hs,hx]
section
variable{C:Cx}{fr:Fr}{L:aR}{x y:Operand}{f:Ch→aR}{t t2 e ty:TypeId}
theorem M7{bytes:Nat}{zv:Value}(T:sF C.P t e 1 bytes zv){A:bj}{n c i:Nat}{xs:cV}(hs:mx (.own e 1 A n c xs) L f)(he:ev fr x=some (.slice (if c=i then A else A.map (·.add (i*1))) (n-i) (c-i)))(hi:i≤n){yv:Value}{m:Nat}{news:cV}(hy:ev fr y=some yv)(hb:aL C.B C.w0 L 1 yv m news)(h1:∀u∈news,u.oneCell'=true):
  qz C fr L (.call {callee:=.builtin .copy,args:= #[x,y],argTypes:= #[t,t2]}) ty (fun p L'=>p=ah (min m (n-i):Nat)∧L'=f (.own e 1 A n c (xs.take i++news.take (min m (n-i))++xs.drop (i+min m (n-i))))):=fun a w ha hw d pos af gg=>by
 obtain⟨ii,hii,hz,jb,D7⟩:=T.hi;have ac6:(C.P.info? e).map (·.size)=some 1:=by rw[hii];simp[jb]
 obtain⟨X,cx,rfl,hmc,hl,tY⟩:=hb w hw;have amj:Nat.min m (n-i)=min m (n-i):=rfl;obtain⟨k1,k2,k3⟩:=hw.all _ hs.mem;rw[cE]at k1 hl;by_cases h0:min m (n-i)=0
 ·have hr:=run_copy_none (P:=C.P) w t t2 ty e (if c=i then A else A.map (·.add (i*1))) X (n-i) (c-i) m cx T.ht ac6 h0;refine⟨_,w,_,.inl ?_,⟨rfl,rfl⟩,?_⟩
  ·simp[execOp,resolve,invoke,builtin,ha.tmp he,ha.tmp hy];have:=hr;simp at this;rw[this];simp[goInt,h0]
  ·rw[h0,Ah,gk,tf,jO];refine hw.Qn hs (N0 w _) (fun h=>h) (.inr (.inl rfl))
 ·have qO:¬c=0:=by omega
  have hci:¬c=i:=by omega
  obtain⟨g,cur,rfl,Yw,hg,hcm,tT,pr⟩:=k3.resolve_left qO;clear k3;rw[cE]at tT pr;obtain⟨ad,rfl,_,fB⟩:=tY aa;clear tY amj;obtain⟨k,hk⟩:=cR (min m (n-i));have Gj:k≤m:=by omega
  have hkn:i+k≤n:=by omega
  have NG:k=Nat.min m (n-i):=hk;rw[←hk]at h0⊢;clear hk;have ams:∀j v,(news.take k)[j]? =some v→w.cell? (ad.add j)=some v:=fun j v hv=>by
   rw[G0]at hv;split at hv
   ·exact fB j v hv
   ·cases hv
  have hlen:(news.take k).length=k:=by rw[eV,hl];omega
  have GO:(⟨g,0,none⟩:Addr).add (i*1)=⟨g,i,none⟩:=by rw[zY,mC,cE]
  have GS:i+(news.take k).length≤cur.size:=by rw[hlen,tT];omega
  have hr:=run_copy_row (P:=C.P) w t t2 ty e g i (n-i) (c-i) ad m cx cur e (news.take k) T.ht ac6 hg (by rw[hlen];exact NG) ams GS (fun v hv=>h1 v (lW hv));clear NG;have tz:cur.toList.length=c:=by simpa using tT
  have e1:(xs.take i++news.take k++xs.drop (i+k)).length=n*1:=by
   simp only[aX,eV,iN,hl,k1];omega
  have e2:(cur.toList.take i++news.take k++cur.toList.drop (i+(news.take k).length)).length=c:=by
   simp only[aX,eV,iN,hl,tz];omega
  have e3:(cur.toList.take i++news.take k++cur.toList.drop (i+(news.take k).length)).take n=xs.take i++news.take k++xs.drop (i+k):=by
   have hx:xs=cur.toList.take n:=pr.symm;rw[hlen,Oe,fD (by rw[aX,eV,hlen];omega),hx,IE,R9,zd aa];congr 2;rw[aX,eV,hlen,tz,zd aa]
  refine⟨_,_,_,.inl ?_,⟨rfl,rfl⟩,hw.Qn hs (w':=w.setRow g (cur.toList.take i++news.take k++cur.toList.drop (i+(news.take k).length)).toArray) ?_ (fun _=>⟨e1,k2,.inr ⟨g,_,rfl,Yw,N9 w g cur _ e _ hg,hcm,by rw[wW,e2,cE],by rw[cE];exact e3⟩⟩) (.inr (.inl rfl))⟩
  ·simp only[execOp,resolve,invoke,builtin,ha.tmp he,ha.tmp hy,aw hci,sP,GO,N3,Kt,vE,List.map_toArray,kz,G1,hr];simp[goInt,hlen]
  ·rw[show(Ch.own e 1 (some ⟨g,0,none⟩) n c xs).fp=some g by simp[Ch.fp,qO]];exact⟨rfl,rfl,rfl,ak,fun k _ hk=>N_ w g k _ (fun e=>hk xA)⟩
theorem Ia{bytes:Nat}{zv:Value}(T:sF C.P t e 1 bytes zv){A:bj}{n c:Nat}{xs:cV}(hs:mx (.own e 1 A n c xs) L f)(he:ev fr x=some (.slice A n c)){yv:Value}{m:Nat}{news:cV}(hy:ev fr y=some yv)(hb:aL C.B C.w0 L 1 yv m news)(h1:∀u∈news,u.oneCell'=true):
  qz C fr L (.call {callee:=.builtin .copy,args:= #[x,y],argTypes:= #[t,t2]}) ty (fun p L'=>p=ah (min m n:Nat)∧L'=f (.own e 1 A n c (news.take (min m n)++xs.drop (min m n)))):=by
 have h:=M7 (ty:=ty) (t2:=t2) T hs (i:=0) (n:=n) (c:=c) (by rw[he];congr 2;rw[sc];split<;>simp[OL]) (bS _) hy hb h1;rw[Ah,nU,mC,Ek]at h;exact h
end
end
theorem fT{a:Ch}{L L':aR}(h:L.Perm L'):(a::L).Perm (a::L'):=h.cons a
theorem ef{a:Ch}{L L':aR}(h:Wk L L'):Wk (a::L) (a::L'):=h.cons
theorem l0{a0 x:Ch}{L L':aR}(h:(a0::L).Perm L'):(a0::x::L).Perm (x::L'):=((fT (.refl _)).cons a0).trans ((List.Perm.swap x a0 _).trans (h.cons x))
theorem gl{a0 x:Ch}{L L':aR}(h:Wk (a0::L) L'):Wk (a0::x::L) (x::L'):=(Wk.dE (l0 (.refl _))).trans h.cons
theorem BN{a0 a1 x:Ch}{L L':aR}(h:(a0::a1::L).Perm L'):(a0::a1::x::L).Perm (x::L'):=((l0 (.refl _)).cons a0).trans ((List.Perm.swap x a0 _).trans (h.cons x))
theorem rP{a0 a1 x:Ch}{L L':aR}(h:Wk (a0::a1::L) L'):Wk (a0::a1::x::L) (x::L'):=(Wk.dE (BN (.refl _))).trans h.cons
theorem pu3{a0 a1 a2 x:Ch}{L L':aR}(h:(a0::a1::a2::L).Perm L'):(a0::a1::a2::x::L).Perm (x::L'):=((BN (.refl _)).cons a0).trans ((List.Perm.swap x a0 _).trans (h.cons x))
theorem tD{a0 a1 a2 x:Ch}{L L':aR}(h:Wk (a0::a1::a2::L) L'):Wk (a0::a1::a2::x::L) (x::L'):=(Wk.dE (pu3 (.refl _))).trans h.cons
theorem pu4{a0 a1 a2 a3 x:Ch}{L L':aR}(h:(a0::a1::a2::a3::L).Perm L'):(a0::a1::a2::a3::x::L).Perm (x::L'):=((pu3 (.refl _)).cons a0).trans ((List.Perm.swap x a0 _).trans (h.cons x))
theorem wu4{a0 a1 a2 a3 x:Ch}{L L':aR}(h:Wk (a0::a1::a2::a3::L) L'):Wk (a0::a1::a2::a3::x::L) (x::L'):=(Wk.dE (pu4 (.refl _))).trans h.cons
theorem pu5{a0 a1 a2 a3 a4 x:Ch}{L L':aR}(h:(a0::a1::a2::a3::a4::L).Perm L'):(a0::a1::a2::a3::a4::x::L).Perm (x::L'):=((pu4 (.refl _)).cons a0).trans ((List.Perm.swap x a0 _).trans (h.cons x))
theorem pu6{a0 a1 a2 a3 a4 a5 x:Ch}{L L':aR}(h:(a0::a1::a2::a3::a4::a5::L).Perm L'):(a0::a1::a2::a3::a4::a5::x::L).Perm (x::L'):=((pu5 (.refl _)).cons a0).trans ((List.Perm.swap x a0 _).trans (h.cons x))
theorem wu6{a0 a1 a2 a3 a4 a5 x:Ch}{L L':aR}(h:Wk (a0::a1::a2::a3::a4::a5::L) L'):Wk (a0::a1::a2::a3::a4::a5::x::L) (x::L'):=(Wk.dE (pu6 (.refl _))).trans h.cons
theorem pu7{a0 a1 a2 a3 a4 a5 a6 x:Ch}{L L':aR}(h:(a0::a1::a2::a3::a4::a5::a6::L).Perm L'):(a0::a1::a2::a3::a4::a5::a6::x::L).Perm (x::L'):=((pu6 (.refl _)).cons a0).trans ((List.Perm.swap x a0 _).trans (h.cons x))
theorem wu7{a0 a1 a2 a3 a4 a5 a6 x:Ch}{L L':aR}(h:Wk (a0::a1::a2::a3::a4::a5::a6::L) L'):Wk (a0::a1::a2::a3::a4::a5::a6::x::L) (x::L'):=(Wk.dE (pu7 (.refl _))).trans h.cons
theorem pu8{a0 a1 a2 a3 a4 a5 a6 a7 x:Ch}{L L':aR}(h:(a0::a1::a2::a3::a4::a5::a6::a7::L).Perm L'):(a0::a1::a2::a3::a4::a5::a6::a7::x::L).Perm (x::L'):=((pu7 (.refl _)).cons a0).trans ((List.Perm.swap x a0 _).trans (h.cons x))
theorem ag{P:Prop}(h:P:=by(kernel_rfl)):P:=h
theorem WD:sF Tryz.prog 24 62 4 48 (.agg #[.int .u64 0,.int .u8 0,.string ⟨#[]⟩,.string ⟨#[]⟩]):=la underlying24 ag rfl aa
theorem cN:sF Tryz.prog 27 5 1 1 (.int .u8 0):=la underlying27 ag rfl aa
theorem fH:sF Tryz.prog 52 27 1 24 (.slice none 0 0):=la underlying52 ag rfl aa
theorem fM:sF Tryz.prog 53 3 1 8 (ah 0):=la underlying53 ag rfl aa
theorem aq7:sF Tryz.prog 63 23 6 48 (.agg #[ah 0,.bool false,ah 0,ah 0,ah 0,ah 0]):=la underlying63 ag rfl aa
theorem Fq:sF Tryz.prog 87 9 1 16 (.string ⟨#[]⟩):=la underlying87 ag rfl aa
theorem akK:sF Tryz.prog 88 53 1 24 (.slice none 0 0):=la underlying88 ag rfl aa
theorem akL:sF Tryz.prog 97 170 3 24 (.agg #[.int .u8 0,ah 0,ah 0]):=la underlying97 ag rfl aa
theorem uF:sF Tryz.prog 159 57 1 2 (.int .u16 0):=la underlying159 ag rfl aa
theorem anz:sF Tryz.prog 183 60 1 8 (.int .u64 0):=la underlying183 ag rfl aa
theorem S8:sF Tryz.prog 186 4 1 1 (.bool false):=la underlying186 ag rfl aa
theorem K0:sF Tryz.prog 213 135 1 4 (.int .u32 0):=la underlying213 ag rfl aa
theorem Fp:sF Tryz.prog 392 397 2 16 (.agg #[.int .u64 0,.bool false]):=la underlying392 ag rfl aa
theorem aeT:sF Tryz.prog 394 392 1 24 (.slice none 0 0):=la underlying394 ag rfl aa
theorem anA:sF Tryz.prog 422 52 1 24 (.slice none 0 0):=la underlying422 ag rfl aa
theorem co2:aJ Tryz.prog 2:=aQ func2 aA rfl
theorem co9:aJ Tryz.prog 9:=aQ func9 aA rfl
theorem arH:aJ Tryz.prog 20:=aQ func20 aA rfl
theorem alB:aJ Tryz.prog 29:=aQ func29 aA rfl
theorem arI:aJ Tryz.prog 37:=aQ func37 aA rfl
theorem apt:aJ Tryz.prog 49:=aQ func49 aA rfl
theorem arJ:aJ Tryz.prog 57:=aQ func57 aA rfl
theorem arK:aJ Tryz.prog 58:=aQ func58 aA rfl
theorem arL:aJ Tryz.prog 61:=aQ func61 aA rfl
theorem apu:aJ Tryz.prog 73:=aQ func73 aA rfl
theorem arM:aJ Tryz.prog 80:=aQ func80 aA rfl
theorem apv:aJ Tryz.prog 84:=aQ func84 aA rfl
theorem arN:aJ Tryz.prog 91:=aQ func91 aA rfl
theorem apw:aJ Tryz.prog 92:=aQ func92 aA rfl
theorem ajR:aJ Tryz.prog 111:=aQ func111 aA rfl
theorem aoR:aJ Tryz.prog 118:=aQ func118 aA rfl
theorem ajS:aJ Tryz.prog 119:=aQ func119 aA rfl
theorem ajT:aJ Tryz.prog 122:=aQ func122 aA rfl
theorem aoS:aJ Tryz.prog 124:=aQ func124 aA rfl
theorem UA:aJ Tryz.prog 128:=aQ func128 aA rfl
theorem aoT:aJ Tryz.prog 129:=aQ func129 aA rfl
theorem aoU:aJ Tryz.prog 130:=aQ func130 aA rfl
theorem aoV:aJ Tryz.prog 142:=aQ func142 aA rfl
theorem ajU:aJ Tryz.prog 152:=aQ func152 aA rfl
theorem Dk:aJ Tryz.prog 153:=aQ func153 aA rfl
theorem aoW:aJ Tryz.prog 154:=aQ func154 aA rfl
theorem ajV:aJ Tryz.prog 156:=aQ func156 aA rfl
theorem aoX:aJ Tryz.prog 157:=aQ func157 aA rfl
theorem aoY:aJ Tryz.prog 158:=aQ func158 aA rfl
theorem aoZ:aJ Tryz.prog 177:=aQ func177 aA rfl
theorem UB:aJ Tryz.prog 178:=aQ func178 aA rfl
theorem abC:aJ Tryz.prog 179:=aQ func179 aA rfl
theorem ajW:aJ Tryz.prog 180:=aQ func180 aA rfl
theorem ao0:aJ Tryz.prog 181:=aQ func181 aA rfl
theorem ajX:aJ Tryz.prog 183:=aQ func183 aA rfl
theorem ao1:aJ Tryz.prog 186:=aQ func186 aA rfl
theorem ajY:aJ Tryz.prog 188:=aQ func188 aA rfl
theorem ajZ:aJ Tryz.prog 192:=aQ func192 aA rfl
theorem ao2:aJ Tryz.prog 198:=aQ func198 aA rfl
theorem aj0:aJ Tryz.prog 203:=aQ func203 aA rfl
theorem ao3:aJ Tryz.prog 204:=aQ func204 aA rfl
theorem abD:aJ Tryz.prog 205:=aQ func205 aA rfl
theorem ao4:aJ Tryz.prog 207:=aQ func207 aA rfl
theorem ao5:aJ Tryz.prog 209:=aQ func209 aA rfl
theorem UC:aJ Tryz.prog 212:=aQ func212 aA rfl
theorem aj1:aJ Tryz.prog 213:=aQ func213 aA rfl
theorem UD:aJ Tryz.prog 219:=aQ func219 aA rfl
theorem ao6:aJ Tryz.prog 220:=aQ func220 aA rfl
theorem ao7:aJ Tryz.prog 221:=aQ func221 aA rfl
theorem ao8:aJ Tryz.prog 224:=aQ func224 aA rfl
theorem ao9:aJ Tryz.prog 225:=aQ func225 aA rfl
theorem ao_:aJ Tryz.prog 226:=aQ func226 aA rfl
theorem ao':aJ Tryz.prog 227:=aQ func227 aA rfl
theorem apa:aJ Tryz.prog 235:=aQ func235 aA rfl
theorem aj2:aJ Tryz.prog 238:=aQ func238 aA rfl
theorem apb:aJ Tryz.prog 242:=aQ func242 aA rfl
theorem apc:aJ Tryz.prog 243:=aQ func243 aA rfl
theorem apd:aJ Tryz.prog 247:=aQ func247 aA rfl
theorem aj3:aJ Tryz.prog 248:=aQ func248 aA rfl
theorem ape:aJ Tryz.prog 250:=aQ func250 aA rfl
theorem apf:aJ Tryz.prog 264:=aQ func264 aA rfl
theorem apg:aJ Tryz.prog 267:=aQ func267 aA rfl
theorem aph:aJ Tryz.prog 268:=aQ func268 aA rfl
theorem api:aJ Tryz.prog 272:=aQ func272 aA rfl
theorem aj4:aJ Tryz.prog 276:=aQ func276 aA rfl
theorem apj:aJ Tryz.prog 299:=aQ func299 aA rfl
theorem apk:aJ Tryz.prog 302:=aQ func302 aA rfl
theorem apl:aJ Tryz.prog 303:=aQ func303 aA rfl
theorem apm:aJ Tryz.prog 311:=aQ func311 aA rfl
theorem UE:aJ Tryz.prog 315:=aQ func315 aA rfl
theorem apn:aJ Tryz.prog 316:=aQ func316 aA rfl
theorem apo:aJ Tryz.prog 317:=aQ func317 aA rfl
theorem apq:aJ Tryz.prog 320:=aQ func320 aA rfl
theorem apr:aJ Tryz.prog 325:=aQ func325 aA rfl
theorem aps:aJ Tryz.prog 329:=aQ func329 aA rfl
theorem aj5:aJ Tryz.prog 330:=aQ func330 aA rfl
theorem abE:aJ Tryz.prog 340:=aQ func340 aA rfl
theorem abF:aJ Tryz.prog 341:=aQ func341 aA rfl
section
theorem akp:type_of% @List.Sublist.refl:= @List.Sublist.refl
theorem NV:type_of% @List.nil_sublist:= @List.nil_sublist
theorem gz:type_of% @List.sublist_append_right:= @List.sublist_append_right
theorem eM:type_of% @List.length_map:= @List.length_map
theorem ye:type_of% @List.all_eq_true:= @List.all_eq_true
theorem t_:type_of% @List.getElem_mem:= @List.getElem_mem
theorem ri:type_of% @List.take_succ_cons:= @List.take_succ_cons
theorem El:type_of% @List.drop_succ_cons:= @List.drop_succ_cons
inductive Hd(Q:Prop):Prop where
 |mk (x:Q):Hd Q
theorem Hd.x{Q:Prop}:Hd Q→Q
 |⟨x⟩=>x
theorem aV{c:Ch}{L:aR}{f:Ch→aR}(h:mx c L f:=by((repeat (first|exact .hd|apply mx.tl));(first|done|fail))):mx c L f:=h
theorem aB{B:Nat}{w0:World}{L:aR}{size:Nat}{v:Value}{n:Nat}{xs:cV}(h:aL B w0 L size v n xs:=by first|(exact aL.own (by repeat (first|exact List.Mem.head _|apply List.Mem.tail)))|((repeat (first|assumption|apply aL.cons));(first|done|fail))):aL B w0 L size v n xs:=h
theorem gF{α:Type}{S L:List α}(h:S.Sublist L:=by((repeat (first|exact akp _|exact NV _|exact gz _ _|apply List.Sublist.cons_cons|apply List.Sublist.cons));(first|done|fail))):S.Sublist L:=h
theorem cA{xs:cV}(h:∀u∈xs,u.oneCell'=true:=by first|exact rW _|exact ae2 _|exact Eh _ _|(simp;(first|done|fail))|(simp[Value.oneCell'];(first|done|fail))|assumption):∀u∈xs,u.oneCell'=true:=h
theorem bm{fr jH:Fr}(h:Sub fr jH:=by((repeat (first|exact trivial|(refine⟨by first|rfl|exact amx (by omega)|exact aq8 (by omega),?_⟩)));(first|done|fail))):Sub fr jH:=h
def okF(P:Program)(f:FuncId):Bool:=match P.funcs[f]? with|some fn=> !(fn.name== "runtime.NumGoroutine")&&fn.body.isSome|none=>false
theorem adZ{P:Program}{f:FuncId}(h:okF P f=true):aJ P f:=by
 unfold okF at h;split at h
 ·rename_i fn hf;rw[z7]at h;exact aQ hf (by simpa using h.1) h.2
 ·cases h
def aqD(P:Program)(t:TypeId):Bool:=match P.underlying t with|some (.slice _)=>true|_=>false
def isStr(P:Program)(t:TypeId):Bool:=match P.underlying t with|some .string=>true|_=>false
def aqC(P:Program)(t:TypeId):Bool:=match P.underlying t with|some (.pointer e)=>Nat.beq e (P.pointee t)|_=>false
def isK(P:Program)(t:TypeId)(k:IntKind):Bool:=match P.underlying t with|some (.int k')=>decide (k'=k)|_=>false
def adk(P:Program)(t:TypeId)(n:Nat):Bool:=match P.underlying t with|some (.slice e)=>(match P.info? e with|some i=>Nat.beq i.size n|none=>false)|_=>false
section
variable{C:Cx}{Q:Exit→Fr→aR→Prop}{fr jH:Fr}{L L':aR}{ops:Array Oper}{l:sD}{op:Op}{ty t:TypeId}{pos:String}{af:Array Edge}{d g o:Nat}{v:Value}{x y:Operand}{A:bj}{n c:Nat}{k:IntKind}{m:Int}
theorem aqB(h:isK C.P t k=true):C.P.underlying t=some (.int k):=by
 unfold isK at h;split at h
 ·rename_i hu;rw[hu,yn h]
 ·cases h
theorem ako(h:aqC C.P t=true):C.P.underlying t=some (.pointer (C.P.pointee t)):=by
 unfold aqC at h;split at h
 ·rename_i hu;rw[hu,rn h]
 ·cases h
theorem amz(h:adk C.P t n=true):∃e,C.P.underlying t=some (.slice e)∧(C.P.info? e).map (·.size)=some n:=by
 unfold adk at h;split at h
 ·rename_i e hu;refine⟨e,hu,?_⟩;split at h
  ·rename_i i hi;rw[hi,←rn h];rfl
  ·cases h
 ·cases h
theorem Yl(h:aqD C.P t=true)(he:ev fr x=some (.slice A n c)):gI C fr L (.call {callee:=.builtin .len,args:= #[x],argTypes:= #[t]}) ty (ah (n:Int)):=by
 unfold aqD at h;split at h
 ·rename_i e hu;exact pj hu he
 ·cases h
theorem acm{s:al}(h:isStr C.P t=true)(he:ev fr x=some (.string ⟨s.toArray⟩)):gI C fr L (.call {callee:=.builtin .len,args:= #[x],argTypes:= #[t]}) ty (ah (s.length:Int)):=by
 unfold isStr at h;split at h
 ·rename_i hu;exact XT hu he
 ·cases h
theorem apN{i:Nat}{xs:cV}(he:ev fr x=some (.slice A n c))(h2:ev fr y=some (.int k m))(hm:m=(i:Int)){size:Nat}(hb:aL C.B C.w0 L size (.slice A n c) n xs)(hz:adk C.P t size=true)(hi:i<n):
  gI C fr L (.indexAddr t x y) ty (.pointer (A.map (·.add (i*size)))):=by
 obtain⟨e,h1,h3⟩:=amz hz;exact aG h1 h3 he h2 hm hi hb
def ah8(t i:Nat):List (Nat×bc)→Option Nat
 |[]=>none
 |(s,q)::r=>bif Nat.beq s t then q[i]? else ah8 t i r
def yx{α:Type}(t:Nat):List (Nat×α)→Option α
 |[]=>none
 |(s,q)::r=>bif Nat.beq s t then some q else yx t r
def ah6(t:Nat):bc→Bool
 |[]=>false
 |s::r=>bif Nat.beq s t then true else ah6 t r
def aqE:List (Nat×IntKind):=[(3,.i64),(5,.u8),(57,.u16),(60,.u64),(135,.u32),(192,.u64),(398,.u64)]
def aq1:bc:=[3,4,5,9,24,27,28,52,53,57,60,87,88,101,106,135,140,159,176,183,186,213,242,278,290,298,392,398,436]
def anW:List (Nat×Nat):=[(23,6),(41,5),(62,4),(83,4),(90,2),(161,2),(166,4),(170,3),(195,3),(217,1),(235,3),(272,3),(283,2),(303,16),(350,3),(366,1),(382,256),(397,2),(426,16)]
theorem Xc:anW.all (fun q=>pt Tryz.prog q.1 q.2)=true:=by kernel_rfl
theorem ah0:aqE.all (fun q=>isK Tryz.prog q.1 q.2)=true:=by kernel_rfl
theorem aiX:aq1.all (pZ Tryz.prog)=true:=by kernel_rfl
theorem yy{α:Type}{p:Nat→α→Bool}{k:α}:∀l:List (Nat×α),l.all (fun q=>p q.1 q.2)=true→yx t l=some k→p t k=true
 |[],_,h=>by cases h
 |(s,r)::l,ha,h=>by
  simp only[List.all_cons,z7]at ha;unfold yx at h;cases hb:Nat.beq s t with
  |true=>
   rw[hb,G2]at h;injection h with h;rw[←rn hb,←h];exact ha.1
  |false=>rw[hb,cond_false]at h;exact yy l ha.2 h
theorem VN{p:Nat→Bool}:∀l:bc,l.all p=true→ah6 t l=true→p t=true
 |[],_,h=>by cases h
 |s::l,ha,h=>by
  simp only[List.all_cons,z7]at ha;unfold ah6 at h;cases hb:Nat.beq s t with
  |true=>rw[←rn hb];exact ha.1
  |false=>rw[hb,cond_false]at h;exact VN l ha.2 h
theorem apO{N B:Nat}{w0:World}{bt:TypeId}{cs:cV}{f:Ch→aR}(h:ah6 t aq1=true)(he:ev fr x=some (.pointer (some ⟨g,o,none⟩)))(hm:mx (.bE g bt cs) L f)(hv:cs[o]? =some v):gI ⟨Tryz.prog,N,B,w0⟩ fr L (.load t x) ty v:=bL (VN (p:=pZ Tryz.prog) _ aiX h) he hm hv
theorem acn{N B:Nat}{w0:World}{cs:cV}{f:Ch→aR}{bt:TypeId}{kk:Nat}(h:yx t anW=some kk)(he:ev fr x=some (bq g))(hm:mx (.bE g bt cs) L f)(hk:cs.length=kk):gI ⟨Tryz.prog,N,B,w0⟩ fr L (.load t x) ty (.agg cs.toArray):=Dv (C:=⟨Tryz.prog,N,B,w0⟩) kk (yy (p:=pt Tryz.prog) _ Xc h) he hm hk
theorem ack{s:TypeId}{k':IntKind}(hs:isK C.P s k=true)(ht:isK C.P t k'=true)(he:ev fr x=some (.int k m))(hr:k'.wrap m=m):gI C fr L (.convert s t x) ty (.int k' m):=bw (aqB hs) (aqB ht) he hr
theorem ahv{N B:Nat}{w0:World}{s:TypeId}{k':IntKind}(ht:yx t aqE=some k')(he:ev fr x=some (.int k m))(hr:k'.wrap m=m)(hs:isK Tryz.prog s k=true):gI ⟨Tryz.prog,N,B,w0⟩ fr L (.convert s t x) ty (.int k' m):=ack (C:=⟨Tryz.prog,N,B,w0⟩) hs (yy (p:=isK Tryz.prog) _ ah0 ht) he hr
def aip(P:Program)(t:TypeId):bc:=match P.underlying t with
 |some (.struct fs)=>bif fs.toList.all (fun fd=>Bw P fd.type) then fs.toList.map (·.offset) else []
 |_=>[]
def apC:List (Nat×bc):=[(23,[0,1,2,3,4,5]),(41,[0,1,2,3,4]),(59,[0,1]),(62,[0,1,2,3]),(69,[0,5,11]),(83,[0,1,2,3]),(90,[0,1]),(108,[0,1,2]),(119,[0,6,7]),(154,[0,1,2]),(161,[0,1]),(166,[0,1,2,3]),(170,[0,1,2]),(179,[0,1]),(185,[0,1]),(188,[0,4,6,8,9]),(195,[0,1,2]),(205,[0,1,2,8,9]),(217,[0]),(235,[0,1,2]),(237,[0,1]),(239,[0]),(249,[0,1]),(256,[0,1]),(258,[0,2]),(272,[0,1,2]),(280,[0,3,4,5]),(283,[0,1]),(292,[0,2,3]),(300,[0,1]),(343,[0,1]),(347,[0,2,18,34]),(366,[0]),(369,[0]),(371,[0,1,2]),(379,[0,1,2,3,4]),(397,[0,1]),(405,[0]),(419,[0]),(421,[0,3]),(451,[0,2]),(455,[0,1,2])]
theorem ahl:apC.all (fun q=>decide (aip Tryz.prog q.1=q.2))=true:=by kernel_rfl
theorem Nh{p:Nat→bc}{i q:Nat}:∀l:List (Nat×bc),l.all (fun q=>decide (p q.1=q.2))=true→ah8 t i l=some q→(p t)[i]? =some q
 |[],_,h=>by cases h
 |(s,r)::l,ha,h=>by
  simp only[List.all_cons,z7]at ha;unfold ah8 at h;cases hb:Nat.beq s t with
  |true=>
   rw[hb,G2]at h;rw[←rn hb,yn ha.1];exact h
  |false=>rw[hb,cond_false]at h;exact Nh l ha.2 h
theorem alW{i q p:Nat}(h:(aip C.P t)[i]? =some q)(he:ev fr x=some (.pointer (some ⟨g,o,none⟩)))(hq:o+q=p):gI C fr L (.fieldAddr t x i) ty (.pointer (some ⟨g,p,none⟩)):=by
 unfold aip at h;split at h
 ·rename_i fs hu;cases hb:fs.toList.all (fun fd=>Bw C.P fd.type)with
  |false=>rw[hb]at h;cases h
  |true=>
   rw[hb,G2]at h;obtain⟨hi,YJ⟩:=z6.1 h;simp only[eM,Eu]at hi YJ;have hm:=ye.1 hb _ (t_ hi);refine Du (fs:=fs) (fd:=fs.toList[i]) hu ?_ hm he (by rw[YJ];exact hq);simp
 ·cases h
theorem apL{N B:Nat}{w0:World}{i q p:Nat}(h:ah8 t i apC=some q)(he:ev fr x=some (.pointer (some ⟨g,o,none⟩)))(hq:o+q=p):gI ⟨Tryz.prog,N,B,w0⟩ fr L (.fieldAddr t x i) ty (.pointer (some ⟨g,p,none⟩)):=
 alW (C:=⟨Tryz.prog,N,B,w0⟩) (Nh (p:=aip Tryz.prog) _ ahl h) he hq
end
theorem dt{p:Prop}(h:p:=by first
 |(with_reducible apply dV);exact rfl
 |(with_reducible apply lB);exact rfl
 |(with_reducible apply apL)<;>exact rfl
 |(with_reducible apply JX);exact rfl
 |(with_reducible apply MT)<;>exact rfl
 |(with_reducible apply apO);exact rfl;exact rfl;exact aV;exact rfl
 |(with_reducible apply Yl);kernel_rfl;exact rfl
 |(with_reducible apply ahe)<;>exact rfl
 |(with_reducible apply xP)<;>exact rfl
 |(with_reducible apply aha)<;>exact rfl
 |(with_reducible apply ahc)<;>exact rfl
 |(with_reducible apply ahd)<;>exact rfl
 |(with_reducible apply ahb)<;>exact rfl
 |(with_reducible apply Q0)<;>exact rfl
 |(with_reducible apply Q1)<;>exact rfl
 |(with_reducible apply zx)<;>exact rfl
 |(with_reducible apply zw)<;>exact rfl
 |(with_reducible apply bY);exact rfl;exact rfl;exact bG (by omega) (by omega)
 |(with_reducible apply dQ);exact rfl;exact rfl;exact bG (by omega) (by omega)
 |(with_reducible apply e_);exact rfl;exact rfl;exact bG (by omega) (by omega)
 |(with_reducible apply apN);exact rfl;exact rfl;exact rfl;exact aB;kernel_rfl;omega
 |(with_reducible apply acn);exact rfl;exact rfl;exact aV;(first|rfl|(simp;omega)|(simp[*];first|done|fail))
 |(with_reducible apply jq);kernel_rfl;exact rfl;exact aB;omega
 |(with_reducible apply JU);kernel_rfl;exact rfl;exact aB;omega
 |(with_reducible apply gQ);kernel_rfl;exact rfl;exact aB;omega
 |(with_reducible apply GF);kernel_rfl;exact rfl;exact aB;omega
 |(with_reducible apply acm);kernel_rfl;exact rfl
 |(with_reducible apply ahv);exact rfl;exact rfl;(first|exact bG (by omega) (by omega)|exact ga (by omega) (by omega)|exact aaE (by omega) (by omega)|exact ak0 (by omega) (by omega));kernel_rfl
 |(with_reducible apply MV);exact ako (by kernel_rfl);exact rfl;exact rfl
 |(with_reducible apply JY);exact ako (by kernel_rfl);exact rfl;exact rfl
 |(with_reducible apply XU)<;>exact rfl
 |(with_reducible apply H7)<;>exact rfl
 |(with_reducible apply JV)<;>exact rfl
 |exact abN rfl):p:=h
theorem apS{N B:Nat}{w0:World}{fr:Fr}{L:aR}{ty t bt:TypeId}{x y:Operand}{g kk:Nat}{cs us:cV}{f:Ch→aR}(h:yx t anW=some kk)(he:ev fr x=some (bq g))(hv:ev fr y=some (.agg us.toArray))(h1:∀u∈us,u.oneCell'=true)(hm:mx (.bE g bt cs) L f)(hk:cs.length=kk)(hu:us.length=kk):
 qz ⟨Tryz.prog,N,B,w0⟩ fr L (.store t x y) ty (fun p L'=>L'=f (.bE g bt us)):=nS (C:=⟨Tryz.prog,N,B,w0⟩) kk (yy (p:=pt Tryz.prog) _ Xc h) he hv h1 hm hk hu
theorem akf{p:Prop}(h:p:=by first
 |exact GJ (by kernel_rfl) rfl rfl aV (by first|omega|(simp;(first|done|fail))|(simp;omega))
 |exact oI (by kernel_rfl) rfl rfl rfl aV (by simp;(first|done|fail))
 |exact iL (by kernel_rfl) rfl rfl rfl aV (by first|omega|(simp;(first|done|fail))|(simp;omega))
 |exact apS rfl rfl rfl cA aV (by first|rfl|(simp;omega)|(simp[*];(first|done|fail))) (by first|rfl|(simp;omega)|(simp[*];(first|done|fail)))):p:=h
section
variable{C:Cx}{Q:Exit→Fr→aR→Prop}{fr jH:Fr}{L L' S:aR}{ops:Array Oper}{l:sD}{op:Op}{ty t:TypeId}{pos:String}{af:Array Edge}{d g o:Nat}{v:Value}{x y:Operand}{fuel:Nat}{li:Array Bool}{ar:List Operand}{Co:Array TypeId}{vs:cV}{f:FuncId}{gu:Option (Nat×Bool)}{i:Nat}
theorem ai{v:Value}{L1:aR}(he:B9 fr ar=some vs)(h:dP C.P C.B C.w0 f vs L (fun r M=>r=v∧M=L1))(k:VL C ops Q l ((d,v)::fr) L1)(hc:aJ C.P f:=by exact adZ (by kernel_rfl))(hd:Nat.blt d C.N=true:=by exact rfl):
 VL C ops Q (⟨some d,.call {callee:=.value (.func f),args:=ar.toArray,argTypes:=Co},ty,pos,af,none⟩::l) fr L:=ba hc he h hd fun v L' ⟨h1,h2⟩=>by subst h1;subst h2;exact k
theorem ay{α β:Type}{v:α→β→Value}{L1:α→β→aR}(he:B9 fr ar=some vs)(h:dP C.P C.B C.w0 f vs L (fun r M=>∃a b,r=v a b∧M=L1 a b))(k:∀a b,VL C ops Q l ((d,v a b)::fr) (L1 a b))(hc:aJ C.P f:=by exact adZ (by kernel_rfl))(hd:Nat.blt d C.N=true:=by exact rfl):
 VL C ops Q (⟨some d,.call {callee:=.value (.func f),args:=ar.toArray,argTypes:=Co},ty,pos,af,none⟩::l) fr L:=ba hc he h hd fun v L' ⟨a,b,h1,h2⟩=>by subst h1;subst h2;exact k a b
theorem eK{α β γ:Type}{v:α→β→γ→Value}{L1:α→β→γ→aR}(he:B9 fr ar=some vs)(h:dP C.P C.B C.w0 f vs L (fun r M=>∃a b e,r=v a b e∧M=L1 a b e))(k:∀a b e,VL C ops Q l ((d,v a b e)::fr) (L1 a b e))(hc:aJ C.P f:=by exact adZ (by kernel_rfl))(hd:Nat.blt d C.N=true:=by exact rfl):
 VL C ops Q (⟨some d,.call {callee:=.value (.func f),args:=ar.toArray,argTypes:=Co},ty,pos,af,none⟩::l) fr L:=ba hc he h hd fun v L' ⟨a,b,e,h1,h2⟩=>by subst h1;subst h2;exact k a b e
theorem kK{L1:aR}(h:qz C fr L op ty (fun p M=>M=L1))(k:VL C ops Q l fr L1):VL C ops Q (⟨none,op,ty,pos,af,none⟩::l) fr L:=ajE h fun v L' h1=>by subst h1;exact k
theorem cH{α:Type}{v:α→Value}{L1:α→aR}(h:qz C fr L op ty (fun p M=>∃a,p=v a∧M=L1 a))(k:∀a,VL C ops Q l ((d,v a)::fr) (L1 a))(hd:Nat.blt d C.N=true:=by exact rfl):VL C ops Q (⟨some d,op,ty,pos,af,none⟩::l) fr L:=lK h hd fun v L' ⟨a,h1,h2⟩=>by subst h1;subst h2;exact k a
theorem gw{α β:Type}{v:α→β→Value}{L1:α→β→aR}(h:qz C fr L op ty (fun p M=>∃a b,p=v a b∧M=L1 a b))(k:∀a b,VL C ops Q l ((d,v a b)::fr) (L1 a b))(hd:Nat.blt d C.N=true:=by exact rfl):VL C ops Q (⟨some d,op,ty,pos,af,none⟩::l) fr L:=lK h hd fun v L' ⟨a,b,h1,h2⟩=>by subst h1;subst h2;exact k a b
theorem bf{cs:cV}{e:TypeId}(k:∀g,VL C ops Q l ((d,bq g)::fr) (.bE g e cs::L))(he:ev fr x=some v:=by exact rfl)(hc:v.cells=cs.toArray:=by exact rfl)(hd:Nat.blt d C.N=true:=by exact rfl):VL C ops Q (⟨some d,.box e x,ty,pos,af,none⟩::l) fr L:=cH (UT he hc) k hd
def ak5(P:Program):List (Nat×Value)→Prop
 |[]=>True
 |q::r=>(P.info? q.1).bind (·.zero)=some q.2∧ak5 P r
def arn:List (Nat×Value):=[(3,ah 0),(4,.bool false),(9,.string ⟨#[]⟩),(23,.agg #[ah 0,.bool false,ah 0,ah 0,ah 0,ah 0]),(27,.slice none 0 0),(41,.agg #[ah 0,ah 0,ah 0,ah 0,.bool false]),(52,.slice none 0 0),(60,.int .u64 0),(62,.agg #[.int .u64 0,.int .u8 0,.string ⟨#[]⟩,.string ⟨#[]⟩]),(83,.agg #[.slice none 0 0,.slice none 0 0,ah 0,ah 0]),(87,.slice none 0 0),(90,.agg #[.slice none 0 0,.slice none 0 0]),(161,.agg #[.slice none 0 0,.slice none 0 0]),(166,.agg #[ah 0,ah 0,ah 0,ah 0]),(170,.agg #[.int .u8 0,ah 0,ah 0]),(186,.slice none 0 0),(195,.agg #[ah 0,ah 0,ah 0]),(217,.agg #[.slice none 0 0]),(235,.agg #[ah 0,.slice none 0 0,.slice none 0 0]),(239,.agg #[.slice none 0 0,ah 0]),(272,.agg #[ah 0,ah 0,.slice none 0 0]),(350,.agg #[.int .u8 0,.int .u8 0,.int .u8 0]),(366,.agg #[.pointer none]),(382,.agg #[.int .u8 0,.int .u8 0,.int .u8 0,.int .u8 0,.int .u8 0,.int .u8 0,.int .u8 0,.int .u8 0,.int .u8 0,.int .u8 0,.int .u8 0,.int .u8 0,.int .u8 0,.int .u8 0,.int .u8 0,.int .u8 0,.int .u8 0,.int .u8 0,.int .u8 0,.int .u8 0,.int .u8 0,.int .u8 0,.int .u8 0,.int .u8 0,.int .u8 0,.int .u8 0,.int .u8 0,.int .u8 0,.int .u8 0,.int .u8 0,.int .u8 0,.int .u8 0,.int .u8 0,.int .u8 0,.int .u8 0,.int .u8 0,.int .u8 0,.int .u8 0,.int .u8 0,.int .u8 0,.int .u8 0,.int .u8 0,.int .u8 0,.int .u8 0,.int .u8 0,.int .u8 0,.int .u8 0,.int .u8 0,.int .u8 0,.int .u8 0,.int .u8 0,.int .u8 0,.int .u8 0,.int .u8 0,.int .u8 0,.int .u8 0,.int .u8 0,.int .u8 0,.int .u8 0,.int .u8 0,.int .u8 0,.int .u8 0,.int .u8 0,.int .u8 0,.int .u8 0,.int .u8 0,.int .u8 0,.int .u8 0,.int .u8 0,.int .u8 0,.int .u8 0,.int .u8 0,.int .u8 0,.int .u8 0,.int .u8 0,.int .u8 0,.int .u8 0,.int .u8 0,.int .u8 0,.int .u8 0,.int .u8 0,.int .u8 0,.int .u8 0,.int .u8 0,.int .u8 0,.int .u8 0,.int .u8 0,.int .u8 0,.int .u8 0,.int .u8 0,.int .u8 0,.int .u8 0,.int .u8 0,.int .u8 0,.int .u8 0,.int .u8 0,.int .u8 0,.int .u8 0,.int .u8 0,.int .u8 0,.int .u8 0,.int .u8 0,.int .u8 0,.int .u8 0,.int .u8 0,.int .u8 0,.int .u8 0,.int .u8 0,.int .u8 0,.int .u8 0,.int .u8 0,.int .u8 0,.int .u8 0,.int .u8 0,.int .u8 0,.int .u8 0,.int .u8 0,.int .u8 0,.int .u8 0,.int .u8 0,.int .u8 0,.int .u8 0,.int .u8 0,.int .u8 0,.int .u8 0,.int .u8 0,.int .u8 0,.int .u8 0,.int .u8 0,.int .u8 0,.int .u8 0,.int .u8 0,.int .u8 0,.int .u8 0,.int .u8 0,.int .u8 0,.int .u8 0,.int .u8 0,.int .u8 0,.int .u8 0,.int .u8 0,.int .u8 0,.int .u8 0,.int .u8 0,.int .u8 0,.int .u8 0,.int .u8 0,.int .u8 0,.int .u8 0,.int .u8 0,.int .u8 0,.int .u8 0,.int .u8 0,.int .u8 0,.int .u8 0,.int .u8 0,.int .u8 0,.int .u8 0,.int .u8 0,.int .u8 0,.int .u8 0,.int .u8 0,.int .u8 0,.int .u8 0,.int .u8 0,.int .u8 0,.int .u8 0,.int .u8 0,.int .u8 0,.int .u8 0,.int .u8 0,.int .u8 0,.int .u8 0,.int .u8 0,.int .u8 0,.int .u8 0,.int .u8 0,.int .u8 0,.int .u8 0,.int .u8 0,.int .u8 0,.int .u8 0,.int .u8 0,.int .u8 0,.int .u8 0,.int .u8 0,.int .u8 0,.int .u8 0,.int .u8 0,.int .u8 0,.int .u8 0,.int .u8 0,.int .u8 0,.int .u8 0,.int .u8 0,.int .u8 0,.int .u8 0,.int .u8 0,.int .u8 0,.int .u8 0,.int .u8 0,.int .u8 0,.int .u8 0,.int .u8 0,.int .u8 0,.int .u8 0,.int .u8 0,.int .u8 0,.int .u8 0,.int .u8 0,.int .u8 0,.int .u8 0,.int .u8 0,.int .u8 0,.int .u8 0,.int .u8 0,.int .u8 0,.int .u8 0,.int .u8 0,.int .u8 0,.int .u8 0,.int .u8 0,.int .u8 0,.int .u8 0,.int .u8 0,.int .u8 0,.int .u8 0,.int .u8 0,.int .u8 0,.int .u8 0,.int .u8 0,.int .u8 0,.int .u8 0,.int .u8 0,.int .u8 0,.int .u8 0,.int .u8 0,.int .u8 0,.int .u8 0,.int .u8 0,.int .u8 0,.int .u8 0,.int .u8 0,.int .u8 0,.int .u8 0,.int .u8 0,.int .u8 0,.int .u8 0,.int .u8 0,.int .u8 0,.int .u8 0,.int .u8 0,.int .u8 0,.int .u8 0,.int .u8 0,.int .u8 0]),(397,.agg #[.int .u64 0,.bool false]),(398,.int .u64 0),(426,.agg #[ah 0,ah 0,ah 0,ah 0,ah 0,ah 0,ah 0,ah 0,ah 0,ah 0,ah 0,ah 0,ah 0,ah 0,ah 0,ah 0]),(430,.agg #[ah 0,ah 0,ah 0,ah 0,ah 0,ah 0,ah 0,ah 0,ah 0,ah 0,ah 0,ah 0,ah 0,ah 0,ah 0,ah 0,ah 0])]
theorem ajK:ak5 Tryz.prog arn:=⟨by kernel_rfl,by kernel_rfl,by kernel_rfl,by kernel_rfl,by kernel_rfl,by kernel_rfl,by kernel_rfl,by kernel_rfl,by kernel_rfl,by kernel_rfl,by kernel_rfl,by kernel_rfl,by kernel_rfl,by kernel_rfl,by kernel_rfl,by kernel_rfl,by kernel_rfl,by kernel_rfl,by kernel_rfl,by kernel_rfl,by kernel_rfl,by kernel_rfl,by kernel_rfl,by kernel_rfl,by kernel_rfl,by kernel_rfl,by kernel_rfl,by kernel_rfl,trivial⟩
theorem Xg{P:Program}{t:TypeId}{v:Value}:∀l:List (Nat×Value),ak5 P l→yx t l=some v→(P.info? t).bind (·.zero)=some v
 |[],_,h=>by cases h
 |(s,r)::l,ha,h=>by
  unfold yx at h;cases hb:Nat.beq s t with
  |true=>
   rw[hb,G2]at h;injection h with h;rw[←rn hb,←h];exact ha.1
  |false=>rw[hb,cond_false]at h;exact Xg l ha.2 h
theorem bg{N B:Nat}{w0:World}{zv:Value}{cs:cV}{e:TypeId}(k:∀g,VL ⟨Tryz.prog,N,B,w0⟩ ops Q l ((d,bq g)::fr) (.bE g e cs::L))(hz:yx e arn=some zv:=by exact rfl)(hc:zv.cells=cs.toArray:=by exact rfl)(hd:Nat.blt d N=true:=by exact rfl):VL ⟨Tryz.prog,N,B,w0⟩ ops Q (⟨some d,.alloc e,ty,pos,af,none⟩::l) fr L:=cH (C:=⟨Tryz.prog,N,B,w0⟩) (M5 (Xg _ ajK hz) hc) k hd
theorem aj{tt:Nat}{cd Gf:Code}{p:Prop}[Decidable p](ht:p→VC C cd Q ((tt,.bool true)::fr) L)(hf:¬p→VC C Gf Q ((tt,.bool false)::fr) L)(hc:look tt fr=some (.bool (decide p)):=by exact rfl):VC C (.cond (.tmp tt) cd Gf) Q fr L:=xf hc ht hf
theorem h_{tt:Nat}{cd Gf:Code}{b:Bool}(ht:b=true→VC C cd Q ((tt,.bool true)::fr) L)(hf:b=false→VC C Gf Q ((tt,.bool false)::fr) L)(hc:look tt fr=some (.bool b):=by exact rfl):VC C (.cond (.tmp tt) cd Gf) Q fr L:=af3 hc ht hf
theorem dj{tt:Nat}{cd Gf:Code}{p:Prop}[Decidable p](hf:¬p→VC C Gf Q ((tt,.bool false)::fr) L)(hc:look tt fr=some (.bool (decide p)):=by exact rfl)(hp:¬p:=by(intro h;exfalso;omega)):VC C (.cond (.tmp tt) cd Gf) Q fr L:=xf hc (fun h=>absurd h hp) hf
theorem zJ{tt:Nat}{cd Gf:Code}{p:Prop}[Decidable p](ht:p→VC C cd Q ((tt,.bool true)::fr) L)(hc:look tt fr=some (.bool (decide p)):=by exact rfl)(hp:¬p→False:=by(intro h;exfalso;omega)):VC C (.cond (.tmp tt) cd Gf) Q fr L:=xf hc ht (fun h=>(hp h).elim)
theorem aU{cd:Code}(hs:Sub fr jH)(hp:Wk L L')(k:VC C cd Q jH L'):VC C cd Q fr L:=Bb _ hs (yX hp k)
theorem ct{j t:Nat}{dd:Nat}{p:Prop}[Decidable p](k1:p→VL C ops Q (⟨some dd,op,ty,pos,af,none⟩::l) ((t,.bool true)::fr) L)(k2:¬p→VL C ops Q l ((dd,undef)::(t,.bool false)::fr) L)(hj:(ops[j]?).bind (·.dst)=some t:=by exact rfl)(ht:look t fr=some (.bool (decide p)):=by exact rfl)(hd:Nat.blt dd C.N=true:=by exact rfl):VL C ops Q (⟨some dd,op,ty,pos,af,some (j,true)⟩::l) fr L:=aaz hj ht hd k1 k2
theorem zI(h:Gd ops fr gu:=by first|exact .no|exact .yes rfl rfl):Gd ops fr gu:=h
theorem cC(S:aR){id:Nat}{l:sD}(h:VH C l.toArray S Q l.toArray.size (Array.replicate l.toArray.size false) fr L)(hm:C.P.follows .mixedOrders=true:=by kernel_rfl)(hS:S.Sublist L:=by exact gF):VC C (.region id l.toArray true) Q fr L:=aay hm hS h
theorem ab(i:Nat)(k:VH C ops S Q fuel (li.setIfInBounds i true) ((d,v)::fr) L)(ho:ops[i]? =some ⟨some d,op,ty,pos,af,none⟩:=by exact rfl)(hs:Region.noSelect ops=true:=by kernel_rfl)(hf:Region.free .any ops li i=true:=by kernel_rfl)(hr:(Region.ready .any ops li).contains i=true:=by kernel_rfl)(h:gI C fr S op ty v:=by exact dt)(hd:Nat.blt d C.N=true:=by exact rfl):VH C ops S Q (fuel+1) li fr L:=W9 i ho hs hf hr h hd k
theorem aW(i:Nat)(ho:ops[i]? =some ⟨some d,op,ty,pos,af,none⟩)(h:gI C fr S op ty v)(k:VH C ops S Q fuel (li.setIfInBounds i true) ((d,v)::fr) L)(hs:Region.noSelect ops=true:=by kernel_rfl)(hf:Region.free .any ops li i=true:=by kernel_rfl)(hr:(Region.ready .any ops li).contains i=true:=by kernel_rfl)(hd:Nat.blt d C.N=true:=by exact rfl):VH C ops S Q (fuel+1) li fr L:=W9 i ho hs hf hr h hd k
theorem az(i:Nat)(h:Step C ops S Q fuel li fr L i)(hr:Region.ready .any ops li=[i]:=by kernel_rfl):VH C ops S Q (fuel+1) li fr L:=anQ i hr h
theorem gU(i j:Nat)(h1:Step C ops S Q fuel li fr L i)(h2:Step C ops S Q fuel li fr L j)(hr:Region.ready .any ops li=[i,j]:=by kernel_rfl):VH C ops S Q (fuel+1) li fr L:=anR i j hr h1 h2
theorem apQ(k:VH C ops S Q fuel (li.setIfInBounds i true) ((d,v)::fr) L)(ho:ops[i]? =some ⟨some d,op,ty,pos,af,gu⟩:=by exact rfl)(hg:Gd ops fr gu:=by exact zI)(h:gI C fr L op ty v:=by exact dt)(hd:Nat.blt d C.N=true:=by exact rfl)(hS:S.Sublist L:=by exact gF):Step C ops S Q fuel li fr L i:=iM ho hg h hd hS k
theorem apR{L1:aR}(k:VH C ops S Q fuel (li.setIfInBounds i true) fr L1)(ho:ops[i]? =some ⟨none,op,ty,pos,af,gu⟩:=by exact rfl)(hg:Gd ops fr gu:=by exact zI)(h:qz C fr L op ty (fun p M=>M=L1):=by exact akf)(hS:S.Sublist L1:=by exact gF):Step C ops S Q fuel li fr L i:=kO ho hg h (fun v L' h=>by subst h;exact hS) (fun v L' h=>by subst h;exact k)
theorem cQ{α:Type}{v:α→Value}{L1:α→aR}(ho:ops[i]? =some ⟨some d,op,ty,pos,af,gu⟩)(h:qz C fr L op ty (fun p M=>∃a,p=v a∧M=L1 a))(k:∀a,VH C ops S Q fuel (li.setIfInBounds i true) ((d,v a)::fr) (L1 a))(hg:Gd ops fr gu:=by exact zI)(hd:Nat.blt d C.N=true:=by exact rfl)(hS:∀a,S.Sublist (L1 a):=by intro _;exact gF):Step C ops S Q fuel li fr L i:=S9 ho hg h hd (fun v L' ⟨a,h1,h2⟩=>by subst h2;exact hS a) (fun v L' ⟨a,h1,h2⟩=>by subst h1;subst h2;exact k a)
theorem eW{α β:Type}{v:α→β→Value}{L1:α→β→aR}(ho:ops[i]? =some ⟨some d,op,ty,pos,af,gu⟩)(h:qz C fr L op ty (fun p M=>∃a b,p=v a b∧M=L1 a b))(k:∀a b,VH C ops S Q fuel (li.setIfInBounds i true) ((d,v a b)::fr) (L1 a b))(hg:Gd ops fr gu:=by exact zI)(hd:Nat.blt d C.N=true:=by exact rfl)(hS:∀a b,S.Sublist (L1 a b):=by intro _ _;exact gF):Step C ops S Q fuel li fr L i:=S9 ho hg h hd (fun v L' ⟨a,b,h1,h2⟩=>by subst h2;exact hS a b) (fun v L' ⟨a,b,h1,h2⟩=>by subst h1;subst h2;exact k a b)
theorem iZ{L1:aR}(ho:ops[i]? =some ⟨some d,.call {callee:=.value (.func f),args:=ar.toArray,argTypes:=Co},ty,pos,af,gu⟩)(he:B9 fr ar=some vs)(h:dP C.P C.B C.w0 f vs L (fun r M=>r=v∧M=L1))(k:VH C ops S Q fuel (li.setIfInBounds i true) ((d,v)::fr) L1)(hg:Gd ops fr gu:=by exact zI)(hc:aJ C.P f:=by exact adZ (by kernel_rfl))(hd:Nat.blt d C.N=true:=by exact rfl)(hS:S.Sublist L1:=by exact gF):Step C ops S Q fuel li fr L i:=gC ho hg hc he h hd (fun v L' ⟨h1,h2⟩=>by subst h2;exact hS) (fun v L' ⟨h1,h2⟩=>by subst h1;subst h2;exact k)
theorem b7{α β:Type}{v:α→β→Value}{L1:α→β→aR}(ho:ops[i]? =some ⟨some d,.call {callee:=.value (.func f),args:=ar.toArray,argTypes:=Co},ty,pos,af,gu⟩)(he:B9 fr ar=some vs)(h:dP C.P C.B C.w0 f vs L (fun r M=>∃a b,r=v a b∧M=L1 a b))(k:∀a b,VH C ops S Q fuel (li.setIfInBounds i true) ((d,v a b)::fr) (L1 a b))(hg:Gd ops fr gu:=by exact zI)(hc:aJ C.P f:=by exact adZ (by kernel_rfl))(hd:Nat.blt d C.N=true:=by exact rfl)(hS:∀a b,S.Sublist (L1 a b):=by intro _ _;exact gF):Step C ops S Q fuel li fr L i:=gC ho hg hc he h hd (fun v L' ⟨a,b,h1,h2⟩=>by subst h2;exact hS a b) (fun v L' ⟨a,b,h1,h2⟩=>by subst h1;subst h2;exact k a b)
theorem apM(h:Q .normal fr L)(hr:Region.ready .any ops li=[]:=by kernel_rfl):VH C ops S Q fuel li fr L:=fun a w ha hw _=>wpAnyH_done hr (show NoPanic (lift C Q) .normal a w from⟨fr,L,ha,hw,h⟩) _
theorem cP(ks:bc)(h:Q .normal jH L)(hs:LZ fr ks jH:=by((repeat (first|exact LZ.nil|(apply LZ.cons;exact rfl)));(first|done|fail)))(hr:Region.ready .any ops li=[]:=by kernel_rfl):VH C ops S Q fuel li fr L:=ajD jH hs.sub hr h
theorem bR(n d:Nat)(ks:bc){base:Fr}{l1 l2:sD}(p:Prop)[Decidable p](h1:VL C ops (fun e fr L'=>e= .normal∧L'=L∧Sub fr base∧look d fr=some (.bool (decide p))) l1 fr L)(h2:VL C ops Q l2 ((d,.bool (decide p))::base) L)(hs:LZ fr ks base:=by((repeat (first|exact LZ.nil|(apply LZ.cons;exact rfl)));(first|done|fail)))(e1:l.take n=l1:=by simp only[ri,Ah];exact rfl)(e2:l.drop n=l2:=by simp only[El,tg];exact rfl):VL C ops Q l fr L:=anS n d base p hs.sub (e1▸h1) (e2▸h2)
theorem Cw{QF:Fr→Prop}(n d:Nat)(ks:bc){base:Fr}{l1 l2:sD}(p:Prop)[Decidable p](h1:VQ C ops L (fun fr=>Sub fr base∧look d fr=some (.bool (decide p))) l1 fr)(h2:VQ C ops L QF l2 ((d,.bool (decide p))::base))(hs:LZ fr ks base:=by((repeat (first|exact LZ.nil|(apply LZ.cons;exact rfl)));(first|done|fail)))(e1:l.take n=l1:=by simp only[ri,Ah];exact rfl)(e2:l.drop n=l2:=by simp only[El,tg];exact rfl):VQ C ops L QF l fr:=anV n d base p hs.sub (e1▸h1) (e2▸h2)
theorem aM{base:Fr}{u:Value}(hd:look d fr=some u)(hb:Sub fr base:=by exact bm):VL C ops (fun e fr L'=>e= .normal∧L'=L∧Sub fr base∧look d fr=some u) [] fr L:=TL hb hd
theorem qD{base:Fr}{u:Value}(hd:look d fr=some u)(hb:Sub fr base:=by exact bm):VQ C ops L (fun fr=>Sub fr base∧look d fr=some u) [] fr:=TR hb hd
theorem arR{id:Nat}{l:sD}(h:VQ C l.toArray L (fun jH=>Q .normal jH L) l fr)(hm:C.P.follows .mixedOrders=true:=by kernel_rfl)(hB:Region.lexB .any l.toArray=true:=by kernel_rfl):VC C (.region id l.toArray true) Q fr L:=aaD hm hB h
theorem apP{QF:Fr→Prop}(h:QF fr):VQ C ops L QF [] fr:=fun a ha=>wpQuiet_nil ⟨fr,ha,h⟩
end
theorem aE{P Q:Prop}(k:Q)(h:Hd Q→P:=by
 intro h;first
 |(with_reducible apply ae);exact dt;exact rfl
 |(with_reducible refine atu ?_)
 |(with_reducible refine aaa ?_)
 |(with_reducible refine af4 ?_)
 |(with_reducible refine aax ?_)
 |(with_reducible refine anP ?_)
 |(with_reducible refine ajC ?_)
 |(with_reducible refine af0 ?_)
 |(with_reducible refine ajB ?_)
 |(with_reducible refine afn ?_)
 |(with_reducible refine Z' ?_)
 |(with_reducible refine YO ?_)
 |(with_reducible refine amv ?_)
 |(with_reducible refine aqy ?_)
 |(with_reducible refine Zf ?_)
 |(with_reducible refine adA ?_)
 |(with_reducible refine adl ?_)
 |(with_reducible refine YZ ?_)
 |(with_reducible refine aqZ ?_)
 |(with_reducible apply TN);exact rfl;exact rfl
 |(with_reducible apply TM);exact rfl;exact rfl;exact rfl;exact rfl
 |(with_reducible apply TO);exact rfl;exact rfl;exact rfl
 |(with_reducible apply aav);exact rfl
 |(with_reducible apply aau);exact rfl
 |(with_reducible apply kK);exact akf
 |refine atj rfl rfl ?_
 |refine atk rfl rfl rfl ?_
 |refine ati rfl ?_
 |refine aqX rfl rfl rfl rfl ?_
 |refine aqY rfl rfl rfl rfl rfl ?_
 |(with_reducible refine ahU ?_ ?_);exact rfl
 |(with_reducible refine apM ?_)
 |(with_reducible refine arR ?_)
 |(with_reducible apply bU);exact dt;exact rfl
 |(with_reducible refine apP ?_)
 |(with_reducible apply TU);exact rfl;exact rfl
 |(with_reducible apply TS);exact rfl;exact rfl;exact rfl;exact rfl
 |(with_reducible apply TV);exact rfl;exact rfl;exact rfl
 |refine apR ?_
 |refine apQ ?_
 exact h.x):P:=h ⟨k⟩
theorem be{P Q:Prop}(k:Q)(h:Hd Q→P:=by(intro h;(iterate 2 refine aE ?_);exact h.x)):P:=h ⟨k⟩
theorem bH{P Q:Prop}(k:Q)(h:Hd Q→P:=by(intro h;(iterate 3 refine aE ?_);exact h.x)):P:=h ⟨k⟩
theorem b8{P Q:Prop}(k:Q)(h:Hd Q→P:=by(intro h;(iterate 4 refine aE ?_);exact h.x)):P:=h ⟨k⟩
theorem bI{P Q:Prop}(k:Q)(h:Hd Q→P:=by(intro h;(iterate 5 refine aE ?_);exact h.x)):P:=h ⟨k⟩
theorem bB{P Q:Prop}(k:Q)(h:Hd Q→P:=by(intro h;(iterate 6 refine aE ?_);exact h.x)):P:=h ⟨k⟩
theorem bD{P Q:Prop}(k:Q)(h:Hd Q→P:=by(intro h;(iterate 7 refine aE ?_);exact h.x)):P:=h ⟨k⟩
theorem bM{P Q:Prop}(k:Q)(h:Hd Q→P:=by(intro h;(iterate 8 refine aE ?_);exact h.x)):P:=h ⟨k⟩
theorem bP{P Q:Prop}(k:Q)(h:Hd Q→P:=by(intro h;(iterate 9 refine aE ?_);exact h.x)):P:=h ⟨k⟩
theorem bz{P Q:Prop}(k:Q)(h:Hd Q→P:=by(intro h;(iterate 10 refine aE ?_);exact h.x)):P:=h ⟨k⟩
theorem dm{P Q:Prop}(k:Q)(h:Hd Q→P:=by(intro h;(iterate 11 refine aE ?_);exact h.x)):P:=h ⟨k⟩
theorem cD{P Q:Prop}(k:Q)(h:Hd Q→P:=by(intro h;(iterate 12 refine aE ?_);exact h.x)):P:=h ⟨k⟩
theorem c_{P Q:Prop}(k:Q)(h:Hd Q→P:=by(intro h;(iterate 13 refine aE ?_);exact h.x)):P:=h ⟨k⟩
theorem dX{P Q:Prop}(k:Q)(h:Hd Q→P:=by(intro h;(iterate 14 refine aE ?_);exact h.x)):P:=h ⟨k⟩
theorem i_{P Q:Prop}(k:Q)(h:Hd Q→P:=by(intro h;(iterate 15 refine aE ?_);exact h.x)):P:=h ⟨k⟩
theorem jU{P Q:Prop}(k:Q)(h:Hd Q→P:=by(intro h;(iterate 16 refine aE ?_);exact h.x)):P:=h ⟨k⟩
theorem zK{P Q:Prop}(k:Q)(h:Hd Q→P:=by(intro h;(iterate 17 refine aE ?_);exact h.x)):P:=h ⟨k⟩
theorem tQ{P Q:Prop}(k:Q)(h:Hd Q→P:=by(intro h;(iterate 18 refine aE ?_);exact h.x)):P:=h ⟨k⟩
theorem zM{P Q:Prop}(k:Q)(h:Hd Q→P:=by(intro h;(iterate 19 refine aE ?_);exact h.x)):P:=h ⟨k⟩
theorem alY{P Q:Prop}(k:Q)(h:Hd Q→P:=by(intro h;(iterate 20 refine aE ?_);exact h.x)):P:=h ⟨k⟩
theorem GL{P Q:Prop}(k:Q)(h:Hd Q→P:=by(intro h;(iterate 21 refine aE ?_);exact h.x)):P:=h ⟨k⟩
theorem D3{P Q:Prop}(k:Q)(h:Hd Q→P:=by(intro h;(iterate 22 refine aE ?_);exact h.x)):P:=h ⟨k⟩
theorem arS{P Q:Prop}(k:Q)(h:Hd Q→P:=by(intro h;(iterate 23 refine aE ?_);exact h.x)):P:=h ⟨k⟩
theorem acu{P Q:Prop}(k:Q)(h:Hd Q→P:=by(intro h;(iterate 24 refine aE ?_);exact h.x)):P:=h ⟨k⟩
theorem alZ{P Q:Prop}(k:Q)(h:Hd Q→P:=by(intro h;(iterate 25 refine aE ?_);exact h.x)):P:=h ⟨k⟩
theorem ahy{P Q:Prop}(k:Q)(h:Hd Q→P:=by(intro h;(iterate 26 refine aE ?_);exact h.x)):P:=h ⟨k⟩
theorem acv{P Q:Prop}(k:Q)(h:Hd Q→P:=by(intro h;(iterate 27 refine aE ?_);exact h.x)):P:=h ⟨k⟩
theorem apT{P Q:Prop}(k:Q)(h:Hd Q→P:=by(intro h;(iterate 28 refine aE ?_);exact h.x)):P:=h ⟨k⟩
theorem apU{P Q:Prop}(k:Q)(h:Hd Q→P:=by(intro h;(iterate 29 refine aE ?_);exact h.x)):P:=h ⟨k⟩
theorem arT{P Q:Prop}(k:Q)(h:Hd Q→P:=by(intro h;(iterate 30 refine aE ?_);exact h.x)):P:=h ⟨k⟩
theorem arU{P Q:Prop}(k:Q)(h:Hd Q→P:=by(intro h;(iterate 31 refine aE ?_);exact h.x)):P:=h ⟨k⟩
theorem apV{P Q:Prop}(k:Q)(h:Hd Q→P:=by(intro h;(iterate 32 refine aE ?_);exact h.x)):P:=h ⟨k⟩
theorem arV{P Q:Prop}(k:Q)(h:Hd Q→P:=by(intro h;(iterate 36 refine aE ?_);exact h.x)):P:=h ⟨k⟩
theorem arW{P Q:Prop}(k:Q)(h:Hd Q→P:=by(intro h;(iterate 38 refine aE ?_);exact h.x)):P:=h ⟨k⟩
abbrev a_(B:Nat)(w0:World)(f:FuncId)(args:cV)(L:aR)(R:qR):Prop:=dP Tryz.prog B w0 f args L R
abbrev fq(B:Nat)(w0:World)(L:List Ch)(A:Option Addr)(c:Nat)(l:List UInt8):Prop:=aL B w0 L 1 (.slice A l.length c) l.length (bv l)
end
theorem gD{P:Prop}(h:P:=by(first|rfl|(simp;omega)|(simp[*];done))):P:=h
theorem Gw{P:Prop}(h:P:=by(first|omega|(simp;done)|(simp;omega))):P:=h
theorem aoG{P:Prop}(h:P:=by(exact eT (by first|omega|(rw[hg];omega)))):P:=h
theorem dy:type_of% @List.mem_append:= @List.mem_append
theorem j0:type_of% @Classical.not_not:= @Classical.not_not
theorem Fit.no{l:al}{k:Nat}(hk:k<l.length)(h:¬((l.getD k 0).toNat≤15)):¬Fit l:=fun hf=>h (hf.2 _ (bh hk 0))
def Gs(l:al):Prop:=∀c∈l,c.toNat≤15
theorem Gs.step{l:al}{k:Nat}(h:Gs (l.take k))(hk:k<l.length)(hs:(l.getD k 0).toNat≤15):Gs (l.take (k+1)):=by
 rw[aZ hk 0];intro c hc;rcases dy.1 hc with hc|hc
 ·exact h c hc
 ·simp only[lE]at hc;rw[hc];exact hs
theorem Gs.AE:Gs []:=by intro c h;cases h
theorem Gs.all{l:al}{k:Nat}(h:Gs (l.take k))(hk:¬k<l.length):Gs l:=by rwa [fD aa]at h
theorem abz{l:al}{k:Nat}(hk:k<l.length)(hc:(l.getD k 0).toNat<16):ints .i64 ((tJ (l.take k)).set (l.getD k 0).toNat ((tJ (l.take k)).getD (l.getD k 0).toNat 0+1))=ints .i64 (tJ (l.take (k+1))):=by
 rw[abA hc,aZ hk 0]
def ary(l:al)(b:List Int)(ok:Bool):Prop:=Few b∧ok=decide (Fit l)∧(ok=true→b=qV l)
theorem ab4:Few (List.replicate 16 0):=ag4▸J7 ak
theorem aek{k:Nat}{x:Int}(h:0≤x∧x≤300):0≤x*2^(15-k)∧x*2^(15-k)≤9830400:=by
 have h2:(2:Int)^(15-k)≤2^15:=by
  have:(2:Nat)^(15-k)≤2^15:=k_ aa aa
  exact_mod_cast this
 have h3:(0:Int)<2^(15-k):=Int.pow_pos aa;exact⟨Int.mul_nonneg h.1 aa,by have:=Int.mul_le_mul h.2 h2 aa aa;omega⟩
theorem aq4{k:Nat}{x:Int}(hk:k<16)(h:0≤x*2^(15-k)∧x*2^(15-k)≤9830400):IntKind.i64.wrap (x*2^min (15-(k:Int)).toNat IntKind.i64.bits)=x*2^(15-k):=by
 have e:min (15-(k:Int)).toNat IntKind.i64.bits=15-k:=by
  have:(15-(k:Int)).toNat=15-k:=by omega
  rw[this];show min (15-k) 64=15-k;omega
 rw[e];exact bG aa aa
theorem HV(l:al)(hb:fq B w0 F A c l):a_ B w0 317 [.slice A l.length c] F (fun r L=>∃b ok,r= .tuple #[.agg (ints .i64 b).toArray,.bool ok]∧L=F∧ary l b ok):=by
 refine fw func317 27 [0] ?_;refine be ?_;refine bg fun g2=>?_;refine dm ?_;refine aj (fun h8=>?_) fun h8=>?_
 ·refine bP ?_;refine gS rfl rfl ag aV gD rfl (.skip (.refl _)) ?_;refine⟨List.replicate 16 0,false,rfl,rfl,ab4,(nD fun h=>?_).symm,fun h=>jY⟩;have:=h.1;omega
 ·refine dm ?_;refine aD (fun zf zL zm=>∃(k:Nat),(k≤l.length∧Gs (l.take k))∧l.length-k=zm∧Sub zf [(2,bq g2),(10,.slice A l.length c),(11,ah l.length),(12,ah k)]∧Wk zL (.bE g2 426 (ints .i64 (tJ (l.take k)))::F)) _ ⟨0,⟨bS _,Gs.AE⟩,rfl,bm,bp rfl (.refl _)⟩ ?_;rintro _ _ _ ⟨k,⟨hk,hL⟩,rfl,hs,hp⟩;refine aU hs hp ?_;clear hs hp;have hu:=(l.getD k 0).toNat_lt;have hf:=J7 (l:=l.take k) bO;have hf1:=hf.1;have hfb:=hf.2 (l.getD k 0).toNat;refine bB ?_;refine aj (fun nh=>?_) fun nh=>?_
  ·refine tQ ?_;refine aj (fun iy=>?_) fun iy=>?_
   ·refine dX ?_;refine gS rfl rfl ag aV gD rfl (.skip (.refl _)) ?_;refine⟨_,false,rfl,rfl,hf,(nD ?_).symm,fun h=>jY⟩;exact Fit.no (k:=k) aa aa
   ·refine b8 ?_;refine ae (aN (i:=(l.getD k 0).toNat) underlying426 ag rfl rfl rfl aa) rfl ?_;refine ae (eZ ag rfl aV Gw) rfl ?_;refine aE ?_;refine ae (aN (i:=(l.getD k 0).toNat) underlying426 ag rfl rfl rfl aa) rfl ?_;refine bM ?_;refine av ⟨_,aa,k+1,⟨aa,hL.step aa aa⟩,rfl,bm,bp (abz aa aa) (.refl _)⟩
  ·refine bD ?_;refine ae (aN (i:=0) underlying426 ag rfl rfl rfl aa) rfl ?_;refine dm ?_;refine gS rfl rfl ag aV gD rfl (.skip (.refl _)) ?_;have hL':=hL.all aa;refine⟨_,true,rfl,rfl,UW hf 0 aa,(lD ⟨aa,hL'⟩).symm,fun _=>?_⟩;rw[fD aa];rfl
theorem Dj(b:List Int)(hf:Few b):a_ B w0 318 [.agg (ints .i64 b).toArray] F (fun r L=>r= .tuple #[ah (w9 b 16),ah (tK b 16)]∧L=F):=by
 have hb:=hf.1;refine fw func318 24 [0] ?_;refine be ?_;refine bf fun g1=>?_;refine dm ?_;refine aD (fun zf zL zm=>∃(k:Nat),(1≤k∧k≤16)∧16-k=zm∧Sub zf [(1,bq g1),(2,ah (w9 b k)),(3,ah (tK b k)),(4,ah k)]∧Wk zL (.bE g1 426 (ints .i64 b)::F)) _ ⟨1,⟨aa,aa⟩,rfl,bm,.refl _⟩ ?_;rintro _ _ _ ⟨k,⟨xo,hk⟩,rfl,hs,hp⟩;refine aU hs hp ?_;clear hs hp;have hs:=hf.sum k;have hc:=hf.rL k;have k9:=hf.sum (k+1);have RB:=hf.rL (k+1);have hbk:=hf.2 k;have e1:=Z2 b xo;have e2:=XI b xo;have hw2:=aek (k:=k) hbk;refine bD ?_;refine aj (fun h6=>?_) fun h6=>?_
 ·refine bM ?_;refine ae (aN underlying426 ag rfl rfl rfl aa) rfl ?_;refine ae (eZ ag rfl aV Gw) rfl ?_;refine be ?_;refine ae (gb rfl rfl aa (aq4 aa hw2)) rfl ?_;refine bD ?_;refine ae (aN underlying426 ag rfl rfl rfl aa) rfl ?_;refine ae (eZ ag rfl aV Gw) rfl ?_;refine be ?_;refine ve [1,2,3,4] ?_;refine bD ?_;rw[←e1,←e2];refine av ⟨_,aa,k+1,⟨aa,aa⟩,rfl,bm,.refl _⟩
 ·refine dX ?_;have amc:k=16:=by omega
  subst amc;refine ao (.skip (.refl _)) ?_;refine aE ?_;exact⟨rfl,rfl⟩
theorem H5(l:al)(hb:fq B w0 F A c l)(hf:Fit l):a_ B w0 317 [.slice A l.length c] F (fun r L=>r= .tuple #[.agg (ints .i64 (qV l)).toArray,.bool true]∧L=F):=
 (HV l hb).mono fun v L ⟨b,ok,h1,h2,h3,h4,h5⟩=>by
  have:ok=true:=h4.trans (lD hf);subst this;rw[h1,h5 rfl];exact⟨rfl,h2⟩
theorem abJ(l:al)(hb:fq B w0 F A c l)(hf:¬Fit l):a_ B w0 317 [.slice A l.length c] F (fun r L=>∃b,r= .tuple #[.agg (ints .i64 b).toArray,.bool false]∧L=F∧Few b):=
 (HV l hb).mono fun v L ⟨b,ok,h1,h2,h3,h4,h5⟩=>by
  have:ok=false:=h4.trans (nD hf);subst this;exact⟨b,h1,h2,h3⟩
theorem xF{l:al}(h:Good l):chk l=0:=aq h
theorem Cq{l:al}(h:¬Good l):chk l=7:=aw h
theorem zp(l:al)(hb:fq B w0 F A c l):a_ B w0 286 [.slice A l.length c] F (fun r L=>r=ah (chk l)∧L=F):=by
 by_cases hf:Fit l
 ·have xn:=Nj hf;have hf1:=xn.1;have atM:=xn.rL 16;have hg:=aco hf;refine fw func286 36 [0] ?_;refine bM ?_;refine ai rfl (H5 l aB hf) ?_;refine bH ?_;refine bg fun g3=>?_;refine bD ?_;refine ai rfl (Dj _ xn) ?_;refine bz ?_;refine bR 19 35 [] (¬Good l) ?_ ?_
  ·refine bP ?_;refine ct (fun pX=>?_) fun pX=>?_
   ·refine bD ?_;refine ct (fun qG=>?_) fun qG=>?_
    ·refine bI ?_;refine aI rfl rfl rfl (fun qH=>?_) (fun qH=>?_)
     ·refine ae (aN (i:=1) underlying426 ag rfl rfl rfl aa) rfl ?_;refine aE ?_;refine ae (eZ ag rfl aV Gw) rfl ?_;refine bD ?_;exact aM (by exact dU (by first|omega|(rw[hg];omega)))
     ·refine bD ?_;exact aM (by exact eU (by first|omega|(rw[hg];omega)))
    ·refine bP ?_;exact aM aoG
   ·refine i_ ?_;exact aM aoG
  ·refine be ?_;refine aj (fun tR=>?_) fun tR=>?_
   ·refine bD ?_;refine ao (.skip (.refl _)) ?_;refine aE ?_;rw[Cq tR];exact⟨rfl,rfl⟩
   ·refine bM ?_;refine ao (.skip (.refl _)) ?_;refine aE ?_;rw[xF (j0.1 tR)];exact⟨rfl,rfl⟩
 ·have RA:¬Good l:=fun g=>hf g.1;refine fw func286 36 [0] ?_;refine bM ?_;refine ba apo rfl (abJ l aB hf) rfl ?_;rintro _ _ ⟨b,rfl,cJ,xn⟩;obtain rfl:=cJ.symm;have hf1:=xn.1;refine bH ?_;refine bg fun g3=>?_;refine bD ?_;refine ai rfl (Dj _ xn) ?_;refine apU ?_;refine ve [35] ?_;refine bP ?_;refine ao (.skip (.refl _)) ?_;refine aE ?_;rw[Cq RA];exact⟨rfl,rfl⟩
section
theorem jc:type_of% @Nat.mod_eq_of_lt:= @Nat.mod_eq_of_lt
theorem NW:type_of% @Nat.lt_of_le_of_lt:= @Nat.lt_of_le_of_lt
theorem BB:type_of% @Nat.xor_lt_two_pow:= @Nat.xor_lt_two_pow
theorem NY:type_of% @Nat.and_lt_two_pow:= @Nat.and_lt_two_pow
theorem iA(n a:Nat)(ha:a<2^n):(BitVec.ofInt n (a:Int)).toNat=a:=by
 rw[BitVec.ofInt_natCast,BitVec.toNat_ofNat];exact jc ha
theorem wrap_u8(a:Nat)(h:a<256):IntKind.u8.wrap (a:Int)=(a:Int):=by
 show(a:Int)%256=a;omega
theorem wrap_u64(a:Nat)(h:a<18446744073709551616):IntKind.u64.wrap (a:Int)=(a:Int):=by
 show(a:Int)%18446744073709551616=a;omega
theorem wrap_i64(a:Int)(h1:-9223372036854775808≤a)(h2:a<9223372036854775808):IntKind.i64.wrap a=a:=by
 rw[IntKind.wrap_i64];omega
section
variable(a b:Nat)
theorem u8_or(ha:a<256)(hb:b<256):bits .or .u8 (a:Int) (b:Int)=((a ||| b:Nat):Int):=by
 have hx:a ||| b<2^8:=Nat.or_lt_two_pow ha hb
 show IntKind.u8.wrap ((BitVec.ofInt 8 (a:Int) ||| BitVec.ofInt 8 (b:Int)).toNat:Int)=_;rw[BitVec.toNat_or,iA 8 a ha,iA 8 b hb,wrap_u8 _ hx]
theorem u64_and(ha:a<18446744073709551616)(hb:b<18446744073709551616):bits .and .u64 (a:Int) (b:Int)=((a &&& b:Nat):Int):=by
 have hx:a &&& b<18446744073709551616:=NW Nat.and_le_left ha;show IntKind.u64.wrap ((BitVec.ofInt 64 (a:Int) &&& BitVec.ofInt 64 (b:Int)).toNat:Int)=_;rw[BitVec.toNat_and,iA 64 a ha,iA 64 b hb,wrap_u64 _ hx]
theorem u64_or(ha:a<18446744073709551616)(hb:b<18446744073709551616):bits .or .u64 (a:Int) (b:Int)=((a ||| b:Nat):Int):=by
 have hx:a ||| b<2^64:=Nat.or_lt_two_pow ha hb
 show IntKind.u64.wrap ((BitVec.ofInt 64 (a:Int) ||| BitVec.ofInt 64 (b:Int)).toNat:Int)=_;rw[BitVec.toNat_or,iA 64 a ha,iA 64 b hb,wrap_u64 _ hx]
theorem u64_xor(ha:a<18446744073709551616)(hb:b<18446744073709551616):bits .xor .u64 (a:Int) (b:Int)=((a ^^^ b:Nat):Int):=by
 have hx:a ^^^ b<2^64:=BB ha hb;show IntKind.u64.wrap ((BitVec.ofInt 64 (a:Int) ^^^ BitVec.ofInt 64 (b:Int)).toNat:Int)=_;rw[BitVec.toNat_xor,iA 64 a ha,iA 64 b hb,wrap_u64 _ hx]
theorem ahR(ha:a<9223372036854775808)(hb:b<9223372036854775808):bits .and .i64 (a:Int) (b:Int)=((a &&& b:Nat):Int):=by
 have hx:a &&& b<2^63:=NY _ aa;show IntKind.i64.wrap ((BitVec.ofInt 64 (a:Int) &&& BitVec.ofInt 64 (b:Int)).toNat:Int)=_;rw[BitVec.toNat_and,iA 64 a aa,iA 64 b aa,wrap_i64]<;>omega
theorem ac9(ha:a<9223372036854775808)(hb:b<9223372036854775808):bits .or .i64 (a:Int) (b:Int)=((a ||| b:Nat):Int):=by
 have hx:a ||| b<2^63:=Nat.or_lt_two_pow aa aa
 show IntKind.i64.wrap ((BitVec.ofInt 64 (a:Int) ||| BitVec.ofInt 64 (b:Int)).toNat:Int)=_;rw[BitVec.toNat_or,iA 64 a aa,iA 64 b aa,wrap_i64]<;>omega
end
theorem ad6(a:Nat)(h:a<256):a ||| 128=128+a%128:=by
 have:∀x:Fin 256,x.val ||| 128=128+x.val%128:=by decide+kernel
 exact this ⟨a,h⟩
end
theorem oi:type_of% @UInt8.toNat_ofNat':= @UInt8.toNat_ofNat'
theorem lk:type_of% @List.range_succ:= @List.range_succ
theorem bk:type_of% @List.getD_eq_getElem?_getD:= @List.getD_eq_getElem?_getD
theorem sQ:type_of% @Nat.add_comm:= @Nat.add_comm
theorem NZ:type_of% @Nat.two_pow_add_eq_or_of_lt:= @Nat.two_pow_add_eq_or_of_lt
theorem we:type_of% @Nat.two_pow_pos:= @Nat.two_pow_pos
theorem ky:type_of% @List.mem_range:= @List.mem_range
theorem nA:type_of% @Nat.sub_self:= @Nat.sub_self
theorem qg:type_of% @List.length_singleton:= @List.length_singleton
theorem mH:type_of% @UInt8.toNat_lt:= @UInt8.toNat_lt
theorem wg:type_of% @Int.fdiv_eq_ediv_of_nonneg:= @Int.fdiv_eq_ediv_of_nonneg
theorem rj:type_of% @Nat.div_le_self:= @Nat.div_le_self
theorem wh:type_of% @Nat.lt_of_lt_of_le:= @Nat.lt_of_lt_of_le
theorem Em:type_of% @Nat.and_one_is_mod:= @Nat.and_one_is_mod
theorem BC:type_of% @Nat.div_eq_of_lt:= @Nat.div_eq_of_lt
def gZ(q:List Bool)(i:Nat):Nat:=(q.getD i false).toNat
theorem rT(q:List Bool)(i:Nat):gZ q i≤1:=Bool.toNat_le _
def part(q:List Bool)(i:Nat):Nat→Nat
 |0=>0
 |m+1=>2*part q i m+gZ q (i+m)
theorem qt(q:List Bool)(i:Nat):∀m,part q i m<2^m
 |0=>by simp[part]
 |m+1=>by have:=qt q i m;have:=rT q (i+m);simp only[part,nF];omega
def rA(q:List Bool)(k:Nat):UInt8:=UInt8.ofNat (part q (8*k) 8)
theorem u9(q:List Bool)(k:Nat):(rA q k).toNat=part q (8*k) 8:=by
 have:=qt q (8*k) 8;rw[rA,oi];exact jc this
def octets(q:List Bool)(k:Nat):al:=(List.range k).map (rA q)
theorem nj(q:List Bool)(k:Nat):(octets q k).length=k:=by simp[octets]
theorem uy(q:List Bool)(k:Nat):octets q (k+1)=octets q k++[rA q k]:=by simp[octets,lk]
def packed(q:List Bool):al:=octets q ((q.length+7)/8)
theorem dJ(q:List Bool):(packed q).length=(q.length+7)/8:=nj _ _
theorem sh(q:List Bool){n k:Nat}(h:k<n):(octets q n).getD k 0=rA q k:=by
 simp[octets,bk,h]
theorem Mj(q:List Bool)(b:Bool)(i:Nat):gZ (q++[b]) i=if i=q.length then b.toNat else gZ q i:=by
 unfold gZ;split
 ·subst i;simp[bk]
 ·simp only[bk,List.getElem?_append];split
  ·rfl
  ·rw[zZ bO,zZ aa]
theorem xB(q:List Bool){i:Nat}(h:q.length≤i):gZ q i=0:=by
 simp[gZ,bk,h]
theorem AI(q:List Bool)(b:Bool)(i:Nat):∀m,(q.length<i∨i+m≤q.length)→part (q++[b]) i m=part q i m
 |0,_=>rfl
 |m+1,h=>by
  rw[part,part,AI q b i m aa,Mj,aw aa]
theorem IX(q:List Bool)(i:Nat):∀m,q.length≤i→part q i m=0
 |0,_=>rfl
 |m+1,h=>by rw[part,IX q i m h,xB q aa]
theorem AJ(q:List Bool)(i m:Nat)(h:i+m=q.length):∀j,part q i (m+j)=part q i m*2^j
 |0=>by simp
 |j+1=>by
  rw[←NU,part,AJ q i m h j,xB q aa,nF];rw[nG 2,th];rfl
theorem aec(q:List Bool)(b:Bool)(i m:Nat)(h:i+m=q.length)(j:Nat):part (q++[b]) i (m+1+j)=part q i (m+1+j) ||| b.toNat*2^j:=by
 rw[AJ (q++[b]) i (m+1) bO,NU,AJ q i m h,part,AI q b i m aa,Mj,aq h,sQ 1 j];have hb:=Bool.toNat_le b;have e:part q i m*2^(j+1)=2^(j+1)*part q i m:=nG _ _;rw[e,←NZ (by rw[nF];have:=we j;rcases b with _|_<;>simp<;>omega),mD,nF];congr 1;rw[nG 2 (part q i m),th,nG 2 (2^j),nG (part q i m)]
theorem adV{q q':List Bool}{k:Nat}(h:part q (8*k) 8=part q' (8*k) 8):rA q k=rA q' k:=by rw[rA,rA,h]
theorem OF(q:List Bool)(b:Bool){n:Nat}(h:8*n≤q.length):octets (q++[b]) n=octets q n:=by
 simp only[octets];apply sa;intro k hk;have:=ky.mp hk;exact adV (AI q b _ _ aa)
def room(q:List Bool):al:=octets q (q.length/8+1)
theorem BQ(q:List Bool):(room q).length=q.length/8+1:=nj _ _
theorem O'{q:List Bool}(h:q.length%8=0):packed q++[0]=room q:=by
 rw[packed,room,show(q.length+7)/8=q.length/8 by omega,uy];congr 2;rw[rA,IX q _ _ aa];rfl
theorem aeA{q:List Bool}(h:¬q.length%8=0):packed q=room q:=by
 rw[packed,room,show(q.length+7)/8=q.length/8+1 by omega]
theorem aez(q:List Bool):((room q).getD (q.length/8) 0).toNat=part q (8*(q.length/8)) 8:=by
 rw[room,sh q aa,u9]
theorem aqO{a b:Nat}(ha:a<256)(hb:b<256):IntKind.u8.wrap ((BitVec.ofInt IntKind.u8.bits (a:Int) ||| BitVec.ofInt IntKind.u8.bits (b:Int)).toNat:Int)=((a ||| b:Nat):Int):=u8_or a b ha hb
theorem T_{a b:Nat}(ha:a<18446744073709551616)(hb:b<18446744073709551616):IntKind.u64.wrap ((BitVec.ofInt IntKind.u64.bits (a:Int) &&& BitVec.ofInt IntKind.u64.bits (b:Int)).toNat:Int)=((a &&& b:Nat):Int):=u64_and a b ha hb
theorem anf{a b:Nat}(ha:a<18446744073709551616)(hb:b<18446744073709551616):IntKind.u64.wrap ((BitVec.ofInt IntKind.u64.bits (a:Int) ||| BitVec.ofInt IntKind.u64.bits (b:Int)).toNat:Int)=((a ||| b:Nat):Int):=u64_or a b ha hb
theorem aeb(q:List Bool)(b:Bool):part q (8*(q.length/8)) 8 ||| b.toNat*2^(7-q.length%8)=part (q++[b]) (8*(q.length/8)) 8:=by
 have:=aec q b (8*(q.length/8)) (q.length%8) aa (7-q.length%8);rw[show q.length%8+1+(7-q.length%8)=8 by omega]at this;exact this.symm
theorem Ff(q:List Bool)(b:Bool):(room q).set (q.length/8) (rA (q++[b]) (q.length/8))=packed (q++[b]):=by
 rw[packed,room,uy,wX _ _ (by rw[nj];omega),nj,nA,aX,qg,
  show(q.length+1+7)/8=q.length/8+1 by omega,uy,OF q b aa]
 rfl
theorem akG{b:Bool}{m:Nat}(h:m<8):IntKind.u8.wrap ((b.toNat:Int)*2^min (7-(m:Int)).toNat IntKind.u8.bits)=((b.toNat*2^(7-m):Nat):Int):=by
 have:∀(b:Bool) (m:Fin 8),IntKind.u8.wrap ((b.toNat:Int)*2^min (7-((m:Nat):Int)).toNat IntKind.u8.bits)=((b.toNat*2^(7-m.val):Nat):Int):=by decide+kernel
 exact this b ⟨m,h⟩
theorem aq3{b:Bool}{m:Nat}:b.toNat*2^(7-m)<256:=by
 have:2^(7-m)≤2^7:=k_ aa aa;rcases b with _|_<;>simp<;>omega
theorem PE(n:Nat):(n:Int).tmod 8=((n%8:Nat):Int):=by rw[Int.tmod_eq_emod_of_nonneg aa];omega
theorem aiJ{n:Nat}(h:n≤9000000000000000000):IntKind.i64.wrap ((n:Int).tdiv 8)=((n/8:Nat):Int):=by
 have:(n:Int).tdiv 8=((n/8:Nat):Int):=(Int.ofNat_tdiv n 8).symm;rw[this];exact bG aa aa
theorem ad7(q:List Bool)(b:Bool):IntKind.u8.wrap ((BitVec.ofInt IntKind.u8.bits ((((room q).getD (q.length/8) 0).toNat:Nat):Int) ||| BitVec.ofInt IntKind.u8.bits ((b.toNat*2^(7-q.length%8):Nat):Int)).toNat:Int)=((rA (q++[b]) (q.length/8)).toNat:Int):=by
 rw[aqO (mH _) aq3,aez,aeb,u9]
theorem pJ(q:List Bool)(i m:Nat):∀j,part q i (m+j)/2^j=part q i m
 |0=>by simp
 |j+1=>by
  have:=rT q (i+(m+j));rw[←NU,part,nF,nG (2^j),←Nat.div_div_eq_div_mul,show(2*part q i (m+j)+gZ q (i+(m+j)))/2=part q i (m+j) by omega];exact pJ q i m j
theorem SN(q:List Bool){i:Nat}(h:i<q.length):((packed q).getD (i/8) 0).toNat=part q (8*(i/8)) 8:=by
 rw[packed,sh q aa,u9]
theorem anw{x m:Nat}(hm:m<8):(x:Int).fdiv (2^min (7-(m:Int)).toNat IntKind.u8.bits)=((x/2^(7-m):Nat):Int):=by
 have e:min (7-(m:Int)).toNat IntKind.u8.bits=7-m:=by
  show min _ 8=_;omega
 rw[e,wg _ (Int.le_of_lt (Int.pow_pos aa))];rw[Int.natCast_ediv,Int.natCast_pow];rfl
theorem anv(l:al)(i j:Nat):(l.getD i 0).toNat/2^j<18446744073709551616:=NW (rj _ _) (wh (mH _) aa)
theorem agG(q:List Bool){i:Nat}(h:i<q.length):IntKind.u64.wrap ((BitVec.ofInt IntKind.u64.bits ((((packed q).getD (i/8) 0).toNat/2^(7-i%8):Nat):Int) &&& BitVec.ofInt IntKind.u64.bits 1).toNat:Int)=(gZ q i:Int):=by
 have hl:((packed q).getD (i/8) 0).toNat/2^(7-i%8)<18446744073709551616:=NW (rj _ _) (wh (mH _) aa);have:=T_ (b:=1) hl aa;rw[show((1:Nat):Int)=1 from rfl]at this;rw[this,SN q h,Em];have e:=pJ q (8*(i/8)) (i%8+1) (7-i%8);rw[show i%8+1+(7-i%8)=8 by omega]at e;rw[e,part,show 8*(i/8)+i%8=i by omega];have:=rT q i;omega
theorem ag8{x m:Nat}(hx:x<2^m)(hm:m<64):IntKind.u64.wrap ((x:Int)*2^min (1:Int).toNat IntKind.u64.bits)=((2*x:Nat):Int):=by
 have h:x<2^63:=wh hx (k_ aa aa);have e:min (1:Int).toNat IntKind.u64.bits=1:=by decide
 rw[e,ga aa aa];omega
theorem ane{x m b:Nat}(hx:x<2^m)(hm:m<64)(hb:b≤1):IntKind.u64.wrap ((BitVec.ofInt IntKind.u64.bits ((2*x:Nat):Int) ||| BitVec.ofInt IntKind.u64.bits (b:Int)).toNat:Int)=((2*x+b:Nat):Int):=by
 have h:x<2^63:=wh hx (k_ aa aa);rw[anf aa aa];have:=NZ (i:=1) (b:=b) aa x;rw[Nat.pow_one]at this;rw[←this]
def hi(v n m:Nat):List Bool:=(List.range m).map fun j=>v.testBit (n-1-j)
theorem dM(v n m:Nat):(hi v n m).length=m:=by simp[hi]
theorem ahL(v n m:Nat):hi v n (m+1)=hi v n m++[v.testBit (n-1-m)]:=by simp[hi,lk]
theorem ahM(v n:Nat):hi v n 0=[]:=rfl
theorem QH(v i:Nat):v/2^i%2=(v.testBit i).toNat:=by rw[Nat.toNat_testBit]
theorem WB(v i:Nat)(hv:v<18446744073709551616):IntKind.u64.wrap ((BitVec.ofInt IntKind.u64.bits ((v/2^i:Nat):Int) &&& BitVec.ofInt IntKind.u64.bits 1).toNat:Int)=((v.testBit i).toNat:Int):=by
 have hl:v/2^i<18446744073709551616:=NW (rj _ _) hv;have:=T_ (b:=1) hl aa;rw[show((1:Nat):Int)=1 from rfl]at this;rw[this,Em,QH]
theorem Fo(v:Nat){x:Int}{e:Nat}(hx:x=e)(he:e≤64):(v:Int).fdiv (2^min x.toNat IntKind.u64.bits)=((v/2^e:Nat):Int):=by
 subst hx;have e:min (e:Int).toNat IntKind.u64.bits=e:=by
  show min _ 64=_;omega
 rw[e,wg _ (Int.le_of_lt (Int.pow_pos aa))];rw[Int.natCast_ediv,Int.natCast_pow];rfl
def an7(v:Nat)(n:Int):Prop:=0≤n∧n≤64∧v<2^n.toNat
instance (v:Nat)(n:Int):Decidable (an7 v n):=inferInstanceAs (Decidable (_∧_))
theorem OT{v n:Nat}(h:¬((v/2^n:Nat):Int)=0):¬v<2^n:=fun hv=>h (by rw[BC hv];rfl)
def un(n:Nat):List Bool:=List.replicate n false++[true]
theorem oT(n:Nat):(un n).length=n+1:=by simp[un]
theorem Fc(n:Nat):List.replicate (n+1) false=List.replicate n false++[false]:=List.replicate_succ' ..
def lo(v m:Nat):List Bool:=(List.range m).map v.testBit
theorem aoF{P:Prop}(h:P:=by(rw[show(packed q).length+1=(room q).length by omega];rfl)):P:=h
theorem Xz{P:Prop}(h:P:=by(rw[aeA (by omega)])):P:=h
theorem Gy{P:Prop}(h:P:=by(rintro _ _ rfl;exact gF)):P:=h
theorem agE{P:Prop}(h:P:=by(rw[←Ff q b];simp)):P:=h
theorem abj(l:al)(k:Nat)(u:UInt8):(bv l).set k (.int .u8 u.toNat)=bv (l.set k u):=by simp[bv,Kx]
theorem abi(l:al):(bv l).length=l.length:=by simp[bv]
theorem aaT(q:List Bool)(b:Bool)(hq:q.length≤8000000):
  a_ B w0 212 [bq g,.int .u64 b.toNat] (.bE g bt [.slice A (packed q).length c,ah q.length]:: .own 5 1 A (packed q).length c (bv (packed q))::F)
   (fun r L=>r= .tuple #[]∧∃A' c',L= .bE g bt [.slice A' (packed (q++[b])).length c',ah (q++[b]).length]:: .own 5 1 A' (packed (q++[b])).length c' (bv (packed (q++[b])))::F):=by
 have mG:=dJ q;have hrl:=BQ q;have oP:=Bool.toNat_le b;refine fw func212 48 [0,1] ?_;refine d_ (fun zf zL=>∃(A':bj) (c':Nat),Sub zf [(0,bq g),(1,.int .u64 b.toNat)]∧Wk zL (.bE g bt [.slice A' (room q).length c',ah q.length]:: .own 5 1 A' (room q).length c' (bv (room q))::F)) ?_ ?_
 ·refine bB ?_;refine ae (qd rfl rfl aa (PE _)) rfl ?_;refine bH ?_;refine aj (fun h9=>?_) fun h9=>?_
  ·refine bB ?_;refine dK cN rfl rfl rfl rfl rfl (fun _=>rfl) aV aa aa ?_;intro _ A16 c16;refine b8 ?_;exact bC ⟨A16,c16,bm,bp aoF (ax aa (by rw[←O' aa];simp[bv]) (.refl _))⟩
  ·refine aE ?_;exact bC ⟨A,c,bm,bp Xz (ax Xz Xz (.refl _))⟩
 ·rintro _ _ ⟨A',c',hs,hp⟩;refine aU hs hp ?_;clear hs hp;refine aE ?_;refine kG (A:=A') (n:=(room q).length) (xs:=bv (room q)) (.tail _ (.head _)) aa ?_;intro ad hA;subst hA;refine cC (.bE g bt [.slice (some ad) (room q).length c',ah q.length]::F) ?_;refine ab 0 ?_;refine ab 1 ?_;refine ab 2 ?_;refine ab 3 ?_;refine ab 4 ?_;refine ab 5 ?_;refine ab 6 ?_;refine ab 7 ?_;refine aW 8 rfl (qc rfl rfl aa (aiJ aa)) ?_;refine aW 9 rfl (aP (size:=1) (i:=q.length/8) underlying27 ag rfl rfl rfl aa) ?_;refine ab 11 ?_;refine ab 12 ?_;refine ab 13 ?_;refine ab 14 ?_;refine ab 15 ?_;refine ab 16 ?_;refine aW 17 rfl (qd rfl rfl aa (PE _)) ?_;refine ab 18 ?_;refine aW 19 rfl (gb rfl rfl aa (akG aa)) ?_;refine az 10 ?_;refine aE ?_;refine aW 20 rfl (tL rfl rfl (ad7 q b)) ?_;refine aW 21 rfl (aP (size:=1) (i:=q.length/8) underlying27 ag rfl rfl rfl aa) ?_;refine az 22 ?_;refine kO rfl .no (iL ag rfl rfl rfl aV (by rw[abi];omega)) Gy ?_;rintro _ _ rfl;refine cP [0] ?_;refine cD ?_;refine ao (L':=.bE g bt [.slice (some ad) (packed (q++[b])).length c',ah (q++[b]).length]:: .own 5 1 (some ad) (packed (q++[b])).length c' (bv (packed (q++[b])))::F) (bp agE (ax agE (by rw[cE,abj,Ff]) (.refl _))) ?_;refine aE ?_;exact⟨rfl,_,c',rfl⟩
theorem ajP(q:List Bool)(i:Nat)(hi:i<q.length)(hq:q.length≤8000000000)(rest:cV)(l:al)(hl:packed q=l)(hn:n=l.length)(hs:mx (.bE g bt (.slice A n c::rest)) F f)(hb:aL B w0 F 1 (.slice A n c) n (bv l)):
  a_ B w0 339 [bq g,ah i] F
   (fun r L=>r= .int .u64 (gZ q i)∧L=F):=by
 subst hn;subst hl;have mG:=dJ q;refine fw func339 19 [0,1] ?_;refine bz ?_;refine ae (bL ag rfl hs rfl) rfl ?_;refine aE ?_;refine ae (qc rfl rfl aa (aiJ aa)) rfl ?_;refine ae (aG (i:=i/8) underlying27 ag rfl rfl rfl aa aB) rfl ?_;refine be ?_;refine ae (qd rfl rfl aa (PE _)) rfl ?_;refine aE ?_;refine ae (di rfl rfl aa (anw aa)) rfl ?_;refine ae (bw underlying5 underlying60 rfl (wrap_u64 _ (anv _ _ _))) rfl ?_;refine ae (jZ rfl rfl (agG q hi)) rfl ?_;refine aE ?_;refine ve [4] ?_;refine bH ?_;exact⟨rfl,rfl⟩
theorem ER(q:List Bool)(p m:Nat)(hp:p≤q.length)(hm:m≤64)(hq:q.length≤8000000000)(rest:cV)(l:al)(hl:packed q=l)(hn:n=l.length)(hs:mx (.bE g bt (.slice A n c::ah q.length::rest)) F f)(hb:aL B w0 F 1 (.slice A n c) n (bv l)):
  a_ B w0 340 [bq g,ah p,ah m] F
   (fun r L=>r= .int .u64 (part q p m)∧L=F):=by
 refine fw func340 31 [0,1,2] ?_;refine tQ ?_;refine aD (fun zf zL zm=>∃(k:Nat),(k≤m)∧m-k=zm∧Sub zf [(0,bq g),(1,ah p),(2,ah m),(7,.int .u64 (part q p k)),(8,ah (p+k:Nat))]∧Wk zL (F)) _ ⟨0,bS _,rfl,bm,.refl _⟩ ?_;rintro _ _ _ ⟨k,hk,rfl,hs,hp⟩;refine aU hs hp ?_;clear hs hp;have fP:=qt q p k;have al7:=rT q (p+k);have hps:part q p (k+1)=2*part q p k+gZ q (p+k):=rfl;refine bz ?_;refine aj (fun jC=>?_) fun jC=>?_
 ·refine bD ?_;refine ae (gb rfl rfl aa (ag8 fP aa)) rfl ?_;refine bP ?_;refine ae (bL ag rfl hs rfl) rfl ?_;refine ae (xP (m:=(p+k:Nat)) rfl rfl) rfl ?_;refine be ?_;refine aj (fun oh=>?_) fun oh=>?_
  ·refine b8 ?_;refine ai rfl (ajP q (p+k) aa hq _ l hl hn hs hb) ?_;refine ae (tL rfl rfl (ane fP aa al7)) rfl ?_;refine aE ?_;refine ve [0,1,2,7,8] ?_;refine bD ?_;refine av ⟨_,aa,k+1,aa,rfl,bm,.refl _⟩
  ·have h0:=xB q (i:=p+k) aa;refine bD ?_;refine ve [0,1,2,7,8] ?_;refine av ⟨_,aa,k+1,aa,rfl,bm,.refl _⟩
 ·refine c_ ?_;have hk':k=m:=by omega
  subst hk';exact⟨rfl,rfl⟩
theorem jL:type_of% @Lib.hid:= @Lib.hid
set_option maxHeartbeats 1000000 in
theorem ag1{B:Nat}{v:Value}{n:Nat}{l:al}(w:World)(h:Rd w B 1 v n (bv l))(hn:n≤1099511627776):
  Calls Tryz.prog 36 #[v] w fun e w'=>∃v',e= .returned v'∧w'.ownsRow w.heap.size 5 1 v' n (bv l)∧Below w.heap.size w w':=by
 have h':=h;obtain⟨A,c,rfl,hc,hl,hr⟩:=h;have amm:=fun w=>Lib.run_eql_slice_nil (P:=Tryz.prog) w 27 5 A n c 0 0 underlying27;rcases A with _|ad
 ·have h0:n=0:=by
   rcases wV n with h0|h0
   ·exact h0
   ·obtain⟨ad,h,_⟩:=hr h0;cases h
  subst h0;have hl0:l=[]:=mi vP;subst hl0;clear hr hl h'
  go_enter func36,Tryz.ntmps36
  go_wp2
  go_ret
  exact⟨_,rfl,World.ownsRow_nil _ _ _ _,G3 _ _⟩
 ·have oA:n≤c:=hc;have mg:(w.alloc (.cells #[] 5)).ownsRow w.heap.size 5 1 (.slice (some ⟨w.heap.size,0,none⟩) 0 0) 0 []:=⟨rfl,.inr ⟨_,0,#[],rfl,gj _,Es w _,gj _,Bk,rfl,rfl⟩⟩
  have hr':Rd (w.alloc (.cells #[] 5)) B 1 (.slice (some ad) n c) n (bv l):=by
   obtain⟨A,c',hv,h2,h3,h4⟩:=h';refine⟨A,c',hv,h2,h3,fun hn=>?_⟩;obtain⟨ad',e,hb,fB⟩:=h4 hn;refine⟨ad',e,hb,fun j u hu=>?_⟩;have:=fB j u hu;rw[World.cell?_alloc_lt w _ _ (World.block_lt_of_cell? w _ this)];exact this
  have H1:=jL mg;have H2:=jL hr';clear hr hl h' mg hr'
  go_enter func36,Tryz.ntmps36
  have hb0:Below w.heap.size w (w.alloc (.cells #[] 5)):=(G3 _ _).alloc (gj _) _;have CB:w.heap.size≤(w.alloc (.cells #[] 5)).heap.size:=hb0.size;have H3:=jL hb0;have H4:=jL CB;clear hb0 CB
  go_wp2_with (at_builtin;refine TX cN rfl (.tmp 5) (.tmp 6) rfl rfl H1.out rfl H2.out (rW _) H3.out (gj _) H4.out aa aa ?_;intro v2 w2 Iz oP NC)
  go_ret
  have e0:0+n=n:=by omega
  rw[e0,nU]at Iz;exact⟨v2,rfl,Iz,oP⟩
theorem l9{B:Nat}{w0:World}{F:aR}{A:bj}{n c:Nat}(l:al)(hb:aL B w0 F 1 (.slice A n c) n (bv l))(hn:n≤1099511627776):
  a_ B w0 36 [.slice A n c] F (fun r L=>∃A' c',r= .slice A' n c'∧L= .own 5 1 A' n c' (bv l)::F):=
 dP.AH fun w hw=>ag1 w (hb w hw) hn
end Go.Proofs.YtaodmbolhoafcaaGreatDoor
