/-
  Texts of one proof, joined: part 2. No condition.
-/
import Derived.Test.YtaodmbolhoafcaaGreatDoorZc1
import Derived.OrdersHeld
import Derived.Deep.RegionHeld3
import Derived.Lib.SliceRun
import Derived.Laws.CopyRow
import Derived.Laws.IdiomCopy
import Derived.Laws.StructEq
import Derived.Test.YtaodmbolhoafcaaGreatDoorProg
import Derived.WalkKit
import Derived.Laws.BitsAllLaws
import Derived.Laws.BitsLemmas
open Go.RowKit Go.Proofs.Tryz
namespace Go.Proofs.YtaodmbolhoafcaaGreatDoor
set_option linter.unusedVariables false
set_option linter.unusedSimpArgs false
set_option maxRecDepth 20000
variable{B:Nat}{w0:World}{F:aP}{A:bj}{c n g:Nat}{bt:TypeId}{f:Ch→aP}
section
section
variable{C:Cx}{Q:Exit→Fr→aP→Prop}{fr jC:Fr}{L L' S:aP}{ops:Array Oper}{op:Op}{ty:TypeId}{pos:String}{af:Array Edge}{d:Nat}{v:Value}{fuel:Nat}{li:Array Bool}
theorem oQ{P:Prop}(h:P:=by(simpa using h2)):P:=h
theorem xp{P:Prop}(h:P:=by(simp[hk])):P:=h
theorem C6{P:Prop}(h:P:=by(rw[e];rfl)):P:=h
theorem aaZ{P:Prop}(h:P:=by(rw[zW,mq];exact CP hw hm hj)):P:=h
theorem lF:type_of% @List.mem_singleton:= @List.mem_singleton
theorem ef:type_of% @List.length_cons:= @List.length_cons
theorem ta:type_of% @Nat.add_zero:= @Nat.add_zero
theorem Ku:type_of% @List.map_set:= @List.map_set
theorem tb:type_of% @List.drop_zero:= @List.drop_zero
def VH(C:Cx)(ops:Array Oper)(S:aP)(Q:Exit→Fr→aP→Prop)(fuel:Nat)(li:Array Bool)(fr:Fr)(L:aP):Prop:=
 ∀a w,pN C.N fr a→SL C.B C.w0 L w→SL C.B C.w0 S w→wpAnyH C.P .any ops (NoPanic (lift C Q)) (SL C.B C.w0 S) fuel li a w
theorem aan{id:Nat}{l:sA}(hm:C.P.follows .mixedOrders=true)(hS:S.Sublist L)(h:VH C l.toArray S Q l.toArray.size (Array.replicate l.toArray.size false) fr L):VC C (.region id l.toArray true) Q fr L:=fun a w ha hw=>
 wp_region_noPanic (wp_region_held hm (h a _ ha (hw.drewN 1) ((hw.drewN 1).sub hS)))
theorem WY(i:Nat)(ho:ops[i]? =some ⟨some d,op,ty,pos,af,none⟩)(hs:Region.noSelect ops=true)(hf:Region.free .any ops li i=true)(hr:(Region.ready .any ops li).contains i=true)(h:gI C fr S op ty v)(hd:Nat.blt d C.N=true)(k:VH C ops S Q fuel (li.setIfInBounds i true) ((d,v)::fr) L):VH C ops S Q (fuel+1) li fr L:=fun a w ha hw hS=>
 wpAnyH_take ho hs hf hr (fun _ _ _ h=>h) (.inl ⟨rfl,fun w hw=>h a w ha hw _ _ _ _⟩) hS (k _ w (ha.put hd v) hw hS)
theorem jj(i:Nat){j t:Nat}{want:Bool}(ho:ops[i]? =some ⟨some d,op,ty,pos,af,some (j,want)⟩)(hs:Region.noSelect ops=true)(hf:Region.free .any ops li i=true)(hr:(Region.ready .any ops li).contains i=true)(hj:(ops[j]?).bind (·.dst)=some t)(ht:look t fr=some (.bool want))(h:gI C fr S op ty v)(hd:Nat.blt d C.N=true)(k:VH C ops S Q fuel (li.setIfInBounds i true) ((d,v)::fr) L):VH C ops S Q (fuel+1) li fr L:=fun a w ha hw hS=>
 wpAnyH_take ho hs hf hr (fun _ _ _ h=>h) (.inl ⟨ak0,fun w hw=>h a w ha hw _ _ _ _⟩) hS (k _ w (ha.put hd v) hw hS)
theorem iy(i:Nat){j t:Nat}{want b:Bool}(ho:ops[i]? =some ⟨some d,op,ty,pos,af,some (j,want)⟩)(hs:Region.noSelect ops=true)(hf:Region.free .any ops li i=true)(hr:(Region.ready .any ops li).contains i=true)(hj:(ops[j]?).bind (·.dst)=some t)(ht:look t fr=some (.bool b))(hb:(b==want)=false)(hd:Nat.blt d C.N=true)(k:VH C ops S Q fuel (li.setIfInBounds i true) ((d,undef)::fr) L):VH C ops S Q (fuel+1) li fr L:=fun a w ha hw hS=>
 wpAnyH_take ho hs hf hr (fun _ _ _ h=>h) (.inr ⟨akY,rfl⟩) hS (k _ w (ha.put hd _) hw hS)
theorem afO(t:Nat){p:Prop}[Decidable p](ht:look t fr=some (.bool (decide p)))(k1:p→VH C ops S Q fuel li ((t,.bool true)::fr) L)(k2:¬p→VH C ops S Q fuel li ((t,.bool false)::fr) L):VH C ops S Q fuel li fr L:=fun a w ha hw hS=>by
 by_cases hp:p
 ·exact k1 hp a w (ha.bool ht (ox hp)) hw hS
 ·exact k2 hp a w (ha.bool ht (nT hp)) hw hS
def Step(C:Cx)(ops:Array Oper)(S:aP)(Q:Exit→Fr→aP→Prop)(fuel:Nat)(li:Array Bool)(fr:Fr)(L:aP)(i:Nat):Prop:=
 ∀a w,pN C.N fr a→SL C.B C.w0 L w→SL C.B C.w0 S w→wpOp C.P ops (NoPanic (lift C Q)) i (fun a' w'=>SL C.B C.w0 S w'∧wpAnyH C.P .any ops (NoPanic (lift C Q)) (SL C.B C.w0 S) fuel (li.setIfInBounds i true) a' w') a w
theorem anE(i:Nat)(hr:Region.ready .any ops li=[i])(h:Step C ops S Q fuel li fr L i):VH C ops S Q (fuel+1) li fr L:=fun a w ha hw hS=>
 wpAnyH_all hr ak fun j hj=>by rw[lF.1 hj];exact h a w ha hw hS
theorem anF(i j:Nat)(hr:Region.ready .any ops li=[i,j])(h1:Step C ops S Q fuel li fr L i)(h2:Step C ops S Q fuel li fr L j):VH C ops S Q (fuel+1) li fr L:=fun a w ha hw hS=>
 wpAnyH_all hr ak fun k hk=>by
  rcases fk.1 hk with rfl|hk
  ·exact h1 a w ha hw hS
  ·rw[lF.1 hk];exact h2 a w ha hw hS
inductive Gd(ops:Array Oper)(fr:Fr):Option (Nat×Bool)→Prop where
 |no:Gd ops fr none
 |yes {j t:Nat} {want:Bool} (hj:(ops[j]?).bind (·.dst)=some t) (ht:look t fr=some (.bool want)):Gd ops fr (some (j,want))
theorem Gd.wanted{g:Option (Nat×Bool)}{dd:Option Tmp}{a:Act}{N:Nat}(h:Gd ops fr g)(ha:pN N fr a):Region.wanted ⟨dd,op,ty,pos,af,g⟩ (yielded ops a.tmps)=true:=by
 cases h with
 |no=>rfl
 |yes hj ht=>rw[sr hj (ha.at_ _ _ ht)];simp
theorem SP{i:Nat}{R:qI}{g:Option (Nat×Bool)}(ho:ops[i]? =some ⟨some d,op,ty,pos,af,g⟩)(hg:Gd ops fr g)(h:qp C fr L op ty R)(hd:Nat.blt d C.N=true)(hS:∀v L',R v L'→S.Sublist L')(k:∀v L',R v L'→VH C ops S Q fuel (li.setIfInBounds i true) ((d,v)::fr) L'):Step C ops S Q fuel li fr L i:=fun a w ha hw _=>by
 obtain⟨v,w',L',hr,hR,hs⟩:=h a w ha hw (some d) pos af g;unfold wpOp;simp only[ho];rw[ao (hg.wanted ha)];refine .inl ?_;unfold Oper.wp;have jH:=hs.sub (hS v L' hR);rcases hr with hr|⟨hr,rfl⟩<;>rw[hr]<;>exact⟨jH,k _ _ hR _ _ (ha.put hd _) hs jH⟩
theorem kN{i:Nat}{R:qI}{g:Option (Nat×Bool)}(ho:ops[i]? =some ⟨none,op,ty,pos,af,g⟩)(hg:Gd ops fr g)(h:qp C fr L op ty R)(hS:∀v L',R v L'→S.Sublist L')(k:∀v L',R v L'→VH C ops S Q fuel (li.setIfInBounds i true) fr L'):Step C ops S Q fuel li fr L i:=fun a w ha hw _=>by
 obtain⟨v,w',L',hr,hR,hs⟩:=h a w ha hw none pos af g;unfold wpOp;simp only[ho];rw[ao (hg.wanted ha)];refine .inl ?_;unfold Oper.wp;have jH:=hs.sub (hS v L' hR);rcases hr with hr|⟨hr,rfl⟩<;>rw[hr]<;>exact⟨jH,k _ _ hR _ _ ha hs jH⟩
theorem gA{i:Nat}{ff:FuncId}{tE:List Operand}{Cq:Array TypeId}{vs:cV}{R:qI}{g:Option (Nat×Bool)}(ho:ops[i]? =some ⟨some d,.call {callee:=.value (.func ff),args:=tE.toArray,argTypes:=Cq},ty,pos,af,g⟩)(hg:Gd ops fr g)(hc:aH C.P ff)(he:B9 fr tE=some vs)(h:dL C.P C.B C.w0 ff vs L R)(hd:Nat.blt d C.N=true)(hS:∀v L',R v L'→S.Sublist L')(k:∀v L',R v L'→VH C ops S Q fuel (li.setIfInBounds i true) ((d,v)::fr) L'):Step C ops S Q fuel li fr L i:=fun a w ha hw _=>by
 unfold wpOp;simp only[ho];rw[ao (hg.wanted ha)];refine .inl ?_;unfold Oper.wp;rw[mf hc (fst:= #[]) (cap:= #[]) rfl,ha.B9 he,Array.append_empty,Array.empty_append];refine Ks (h w hw) fun e w' ⟨v,L',he,hR,hs⟩=>?_;subst he;have jH:=hs.sub (hS v L' hR);exact⟨jH,k _ _ hR _ _ (ha.put hd _) hs jH⟩
theorem iL{i:Nat}{g:Option (Nat×Bool)}(ho:ops[i]? =some ⟨some d,op,ty,pos,af,g⟩)(hg:Gd ops fr g)(h:gI C fr L op ty v)(hd:Nat.blt d C.N=true)(hS:S.Sublist L)(k:VH C ops S Q fuel (li.setIfInBounds i true) ((d,v)::fr) L):Step C ops S Q fuel li fr L i:=fun a w ha hw _=>by
 unfold wpOp;simp only[ho];rw[ao (hg.wanted ha)];refine .inl ?_;unfold Oper.wp;rw[h a w ha hw];exact⟨hw.sub hS,k _ _ (ha.put hd _) hw (hw.sub hS)⟩
theorem ajn(base:Fr)(hs:Sub fr base)(hr:Region.ready .any ops li=[])(h:Q .normal base L):VH C ops S Q fuel li fr L:=fun a w ha hw _=>wpAnyH_done hr (show NoPanic (lift C Q) .normal a w from⟨base,L,ha.sub hs,hw,h⟩) _
def evp(fr:Fr):Nat→List (Nat×Operand)→Option (cV)
 |_,[]=>some []
 |k,(i,x)::r=>bif Nat.beq i k then (match ev fr x,evp fr (k+1) r with
  |some v,some vs=>some (v::vs)
  |_,_=>none) else none
theorem Nb{a:Act}{N:Nat}(ha:pN N fr a):∀(parts:List (Nat×Operand)) (k:Nat) (vs:cV) (cells:Array Value),evp fr k parts=some vs→(∀u∈vs,u.oneCell'=true)→k+vs.length≤cells.size→
  ∃out,Instr.fill (fun i=>some (i*1,1)) cells (parts.map fun p=>(p.1,a.eval p.2))=some out∧out.size=cells.size∧(∀j,j<k→out[j]? =cells[j]?)∧(∀j,j<vs.length→out[k+j]? =vs[j]?)
 |[],k,vs,cells,h,_,_=>by
  simp[evp]at h;subst h;exact⟨cells,rfl,rfl,fun _ _=>rfl,fun j hj=>absurd hj ak⟩
 |(i,x)::r,k,vs,cells,h,h1,hl=>by
  unfold evp at h;cases hb:Nat.beq i k with
  |false=>rw[hb]at h;cases h
  |true=>
   rw[hb]at h;have hik:=ri hb;subst hik;simp only[GV]at h;split at h
   ·rename_i v vs' e1 e2;injection h with h;subst h;have hv1:=h1 v ak;have hv:v.cells= #[v]:=by cases v<;>simp_all[Value.cells,Value.oneCell']
    simp only[ef]at hl;obtain⟨out,q1,q2,q3,q4⟩:=Nb ha r (i+1) vs' (cells.setIfInBounds i v) e2 (fun u hu=>h1 u (by simp[hu])) bR;refine⟨out,?_,by simpa using q2,fun j hj=>?_,fun j hj=>?_⟩
    ·simp only[kA,ha.tmp e1,Instr.fill,hv];have:¬(cells.size<i+1):=by omega
     simp only[cE]at q1;simp[this,q1]
    ·rw[q3 j aa];simp[show¬i=j by omega]
    ·rcases j with _|j
     ·rw[ta,q3 i aa];simp[show i<cells.size by omega]
     ·have:=q4 j (by simpa using hj);rw[show i+(j+1)=i+1+j by omega,this];simp
   ·cases h
theorem aG{t e:TypeId}{kk bytes:Nat}{zv:Value}{parts:List (Nat×Operand)}(T:sC C.P t e 1 bytes zv)(vs:cV)(hp:evp fr 0 parts=some vs)(hk:vs.length=kk)(h1:∀u∈vs,u.oneCell'=true)(tV:0<kk)(It:kk≤1048576):
  qp C fr L (.buildSlice t kk parts.toArray) ty (fun p L'=>∃A,p= .slice A kk kk∧L'= .own e 1 A kk kk vs::L):=fun a w ha hw d pos af gg=>by
 obtain⟨i,hi,hz,i_,D8⟩:=T.hi;obtain⟨out,q1,q2,q3,q4⟩:=Nb ha parts 0 vs ((Array.range (kk*1)).map (zv.cells[· %zv.cells.size]!)) hp h1 bR;have ahx:out=vs.toArray:=by
  apply Array.ext
  ·simp at q2;simp[q2,hk]
  ·intro j h1 h2;have:=q4 j oQ;rw[mq,Array.getElem?_eq_getElem h1]at this;simp at h2;rw[fm h2]at this;simpa using this
 rw[ahx]at q1;have Ki:¬(16777216<kk):=by omega
 have CB:¬kk=0:=by omega
 refine⟨_,w.alloc (.cells vs.toArray e),_,.inl ?_,⟨some ⟨w.heap.size,0,none⟩,rfl,rfl⟩,hw.gL (Kt w _ none) ⟨by rw[hk,cE],gj _,.inr ⟨_,_,rfl,hw.base,Es w _,Bl,xp,by simp[←hk]⟩⟩ (.inr ⟨w.heap.size,by simp[Ch.fp,CB],gj _⟩)⟩;simp only[cE]at q1;simp[execOp,Instr.buildSlice,iO T.ht,sizeOf,typeInfo,zeroValue,hi,hz,i_,Ki,CB,newRow,q1]
section
variable{x y:Operand}{k:IntKind}{m:Int}{f:Ch→aP}{g o i:Nat}{bt t e:TypeId}{cs:cV}
theorem aM{nn:Nat}(ht:C.P.underlying t=some (.array nn e))(hz:(C.P.info? e).map (·.size)=some 1)(he:ev fr x=some (.pointer (some ⟨g,o,none⟩)))(h2:ev fr y=some (.int k m))(hm:m=(i:Int))(hi:i<nn):
  gI C fr L (.indexAddr t x y) ty (.pointer (some ⟨g,o+i,none⟩)):=fun a w ha hw d pos af gg=>by
 subst hm;simp[execOp,Instr.indexAt,Instr.sureAddr,asIntOf,ha.tmp he,ha.tmp h2,iO ht,hi,GQ hz,zW]
theorem eY{b:List Int}{kk:IntKind}(hs:pU C.P t=true)(he:ev fr x=some (.pointer (some ⟨g,0+i,none⟩)))(hm:mC (.bD g bt (ints kk b)) L f)(hi:i<b.length):gI C fr L (.load t x) ty (.int kk (b.getD i 0)):=
 bM hs he hm (by simp[ints,List.getD,fm hi])
theorem GA{b:List Int}{kk:IntKind}{n:Int}(hs:pU C.P t=true)(he:ev fr x=some (.pointer (some ⟨g,0+i,none⟩)))(hv:ev fr y=some (.int kk n))(hm:mC (.bD g bt (ints kk b)) L f)(hi:i<b.length):
  qp C fr L (.store t x y) ty (fun p L'=>L'=f (.bD g bt (ints kk (b.set i n)))):=fun a w ha hw d pos af gg=>by
 obtain⟨v,w',L',h1,h2,h3⟩:=oC (ty:=ty) hs he hv rfl hm bR a w ha hw d pos af gg;refine⟨v,w',L',h1,?_,h3⟩;rw[h2];congr 2;simp[ints,Ku]
theorem Dy(kk:Nat)(hs:pj C.P t kk=true)(he:ev fr x=some (br g))(hm:mC (.bD g bt cs) L f)(hk:cs.length=kk):gI C fr L (.load t x) ty (.agg cs.toArray):=
 bU kk hs he hm cs (by rw[tb,←hk,jU]) hk
theorem nQ{us:cV}(kk:Nat)(hs:pj C.P t kk=true)(he:ev fr x=some (br g))(hv:ev fr y=some (.agg us.toArray))(h1:∀u∈us,u.oneCell'=true)(hm:mC (.bD g bt cs) L f)(hk:cs.length=kk)(hu:us.length=kk):
  qp C fr L (.store t x y) ty (fun p L'=>L'=f (.bD g bt us)):=fun a w ha hw d pos af gg=>by
 have hb:=(hw.all _ hm.mem).2;have hi:(C.P.info? t).map (·.size)=some us.toArray.size:=by
  have h:=hs;unfold pj at h;rw[zZ]at h;have h2:=h.2;rw[beq_iff_eq]at h2;rw[h2,←hu];simp
 have hr:=run_storeVar_row (P:=C.P) w g bt t cs.toArray us.toArray hb hi (by simp[hk,hu]) (by rw[Array.all_eq_true_iff_forall_mem];simpa using h1);refine⟨undef,w.setRow g us.toArray,f (.bD g bt us),.inr ⟨by simp[execOp,Instr.storeAt,Instr.sureAddr,ha.tmp he,ha.tmp hv,hr],rfl⟩,rfl,?_⟩;refine hw.Qb hm ?_ (fun⟨q1,q2⟩=>⟨q1,?_⟩) (.inr (.inl rfl))
 ·exact⟨rfl,rfl,rfl,ak,fun k _ hk=>N2 w g k _ (fun e=>hk C6)⟩
 ·exact N0 w g cs.toArray _ bt _ q2
theorem gT{P:Program}{fn:Func}{R:qI}{q u kk:Nat}{ty:TypeId}(hr:fn.results= #[.cell q ty,.tmp u])(hq:look q fr=some (br g))(hs:pj P ty kk=true)(hm:mC (.bD g bt cs) L f)(hk:cs.length=kk){v:Value}(hu:look u fr=some v)(Yy:Wk L L')(h:R (.tuple #[.agg cs.toArray,v]) L'):Cp P fn R .ret fr L:=fun B w0 a w ha hw=>by
 subst hk;refine⟨_,L',?_,h,Yy.sl hw⟩;have hl:=kG (P:=P) (w:=w) (p:=⟨g,0,none⟩) hs (fun j u hj=>aaZ);rw[results_cell_tmp hr];simp[ha.at_ _ _ hq,ha.at_ _ _ hu,asAddr,hl]
theorem I2{P:Program}{fn:Func}{R:qI}{q kk:Nat}{ty:TypeId}(hr:fn.results= #[.cell q ty])(hq:look q fr=some (br g))(hs:pj P ty kk=true)(hm:mC (.bD g bt cs) L f)(hk:cs.length=kk)(Yy:Wk L L')(h:R (.agg cs.toArray) L'):Cp P fn R .ret fr L:=fun B w0 a w ha hw=>by
 subst hk;refine⟨_,L',?_,h,Yy.sl hw⟩;have hl:=kG (P:=P) (w:=w) (p:=⟨g,0,none⟩) hs (fun j u hj=>aaZ);simp[results,hr,ha.at_ _ _ hq,asAddr,hl]
end
theorem dL.law{P:Program}{ff:FuncId}{args:cV}{w:World}(h:dL P w.heap.size w ff args [] (fun r L=>r= .bool true)):Calls P ff args.toArray w fun e w'=>e= .returned (.bool true)∧Below w.heap.size w w':=
 (h w (SL.AA w)).mono fun e w' ⟨v,M,he,hR,hs⟩=>by subst hR;exact⟨he,hs.below⟩
theorem zt{x:Operand}{xt:TypeId}(h:ev fr x=some (.bool true)):gI C fr L (.unOp .not xt x) ty (.bool false):=iQ h
theorem zr{x:Operand}{xt:TypeId}(h:ev fr x=some (.bool false)):gI C fr L (.unOp .not xt x) ty (.bool true):=iQ h
def sE(l:List Bool):cV:=l.map .bool
theorem Gx{x:Operand}{t:TypeId}{A:bj}{nn c j:Nat}{b:List Bool}(hs:pU C.P t=true)(he:ev fr x=some (.pointer (A.map (·.add (j*1)))))(hb:aJ C.B C.w0 L 1 (.slice A nn c) nn (sE b))(hj:j<nn):gI C fr L (.load t x) ty (.bool (b.getD j false)):=fun a w ha hw=>by
 have hl:=hb.len hw;simp[sE]at hl;rw[cE]at he;refine au hs he hb aa ?_ a w ha hw;simp[sE,List.getD,fm (show j<b.length by omega)]
end
def By(P:Program)(t:TypeId):Bool:=match P.info? t with|some i=>Nat.blt 0 i.size|none=>false
theorem Dw{C:Cx}{fr:Fr}{L:aP}{x:Operand}{ty t:TypeId}{g o:Nat}{fs:Array Field}{i:Nat}{fd:Field}(ht:C.P.underlying t=some (.struct fs))(hf:fs[i]? =some fd)(hz:By C.P fd.type=true)(he:ev fr x=some (.pointer (some ⟨g,o,none⟩))){q:Nat}(hq:o+fd.offset=q):
  gI C fr L (.fieldAddr t x i) ty (.pointer (some ⟨g,q,none⟩)):=by
 unfold By at hz;cases hi:C.P.info? fd.type with
 |none=>rw[hi]at hz;cases hz
 |some f=>
  rw[hi]at hz;have:0<f.size:=by simpa[Nat.blt_eq]using hz
  exact Gv (sz:=f.size-1) ht hf (by rw[hi];simp;omega) he hq
theorem kH{C:Cx}{cd:Code}{Q:Exit→Fr→aP→Prop}{fr:Fr}{L:aP}{e:TypeId}{size n c:Nat}{A:bj}{xs:cV}(hm:Ch.own e size A n c xs∈L)(hn:0<n)(h:∀ad,A=some ad→VC C cd Q fr L):VC C cd Q fr L:=fun a w ha hw=>by
 rcases(hw.all _ hm).2.2 with h0|⟨g,cur,rfl,_⟩
 ·have:n≤c:=(hw.all _ hm).2.1;omega
 ·exact h _ rfl a w ha hw
theorem aO{C:Cx}{fr:Fr}{L:aP}{x y:Operand}{ty t e:TypeId}{k:IntKind}{m:Int}{size nn c i:Nat}{ad:Addr}(ht:C.P.underlying t=some (.slice e))(hz:(C.P.info? e).map (·.size)=some size)(he:ev fr x=some (.slice (some ad) nn c))(h2:ev fr y=some (.int k m))(hm:m=(i:Int))(hi:i<nn):
  gI C fr L (.indexAddr t x y) ty (.pointer ((some ad).map (·.add (i*size)))):=fun a w ha hw d pos af gg=>by
 subst hm;simp[execOp,Instr.indexAt,asIntOf,ha.tmp he,ha.tmp h2,iO ht,hi,GQ hz]
theorem fS{C:Cx}{fr:Fr}{L:aP}{x:Operand}{ty t:TypeId}{fs:Array Field}{i j:Nat}{fd:Field}{size nn c:Nat}{A:bj}{xs:cV}(ht:C.P.underlying t=some (.struct fs))(hf:fs[i]? =some fd)(hz:By C.P fd.type=true)(he:ev fr x=some (.pointer (A.map (·.add j))))(hb:aJ C.B C.w0 L size (.slice A nn c) nn xs)(hn:0<nn){q:Nat}(hq:fd.offset=q):
  gI C fr L (.fieldAddr t x i) ty (.pointer (A.map (fun ad=>(ad.add j).add q))):=by
 unfold By at hz;cases hi:C.P.info? fd.type with
 |none=>rw[hi]at hz;cases hz
 |some f=>
  rw[hi]at hz;have:0<f.size:=by simpa[Nat.blt_eq]using hz
  exact xG (sz:=f.size-1) ht hf (by rw[hi];simp;omega) he hb hn hq
theorem wD{C:Cx}{fr:Fr}{L:aP}{ty t:TypeId}{parts:List (Nat×Operand)}(us:List (Nat×Value))(cs:cV)(hp:parts.map (fun p=>(p.1,ev fr p.2))=us.map (fun p=>(p.1,some p.2)))(hb:C.P.built t us=some cs.toArray):
  gI C fr L (.build t parts.toArray) ty (.agg cs.toArray):=fun a w ha hw d pos af gg=>by
 have hps:parts.map (fun p=>(p.1,a.eval p.2))=us:=by
  clear hb;induction parts generalizing us with
  |nil=>cases us with|nil=>rfl|cons _ _=>cases hp
  |cons p ps ih=>
   cases us with
   |nil=>cases hp
   |cons u us=>
    simp only[kA,List.cons.injEq,Cf]at hp;obtain⟨⟨h1,h2⟩,h3⟩:=hp;simp only[kA,ha.tmp h2,h1,ih us h3]
 have:=run_build (P:=C.P) w t us.toArray cs.toArray (by simpa using hb);subst hps;simp only[List.toArray]at this;simp[execOp]at this⊢;rw[this];rfl
theorem cj{C:Cx}{fr:Fr}{L:aP}{ty t:TypeId}(cs:cV)(hb:C.P.built t []=some cs.toArray):gI C fr L (.build t #[]) ty (.agg cs.toArray):=fun a w ha hw d pos af gg=>by
 have:=run_build (P:=C.P) w t #[] cs.toArray (by simpa using hb);simp[execOp,this]
theorem eG{C:Cx}{fr:Fr}{L:aP}{ty t:TypeId}{parts:List (Nat×Operand)}(us:List (Nat×Value))(cs:cV)(hp:parts.map (fun p=>(p.1,ev fr p.2))=us.map (fun p=>(p.1,some p.2)))(tR:us.flatMap (fun p=>p.2.cells.toList)=cs)(hb:C.P.built t us=some cs.toArray):
 gI C fr L (.build t parts.toArray) ty (.agg cs.toArray):=wD us cs hp hb
end
theorem oa{P:Prop}(h:P:=by(simp[hx])):P:=h
theorem ac9:type_of% @List.countP_le_length:= @List.countP_le_length
theorem N5:type_of% @List.countP_cons:= @List.countP_cons
theorem pV:type_of% @List.ext_getElem:= @List.ext_getElem
theorem kZ:type_of% @Nat.pow_le_pow_right:= @Nat.pow_le_pow_right
def num(l:al)(k:Nat):Nat:=l.countP fun c=>c.toNat==k
def tH(l:al):List Int:=(List.range 16).map fun k=>((num l k:Nat):Int)
@[simp] theorem ajA(l:al):(tH l).length=16:=by simp[tH]
theorem Dj(l:al){k:Nat}(h:k<16):(tH l).getD k 0=(num l k:Int):=by
 simp[tH,List.getD,h]
theorem wV(l:al)(k:Nat):num l k≤l.length:=ac9
theorem EO(l:al)(c:UInt8)(k:Nat):num (l++[c]) k=num l k+if c.toNat=k then 1 else 0:=by
 unfold num;rw[List.countP_append,N5,List.countP_nil];simp
theorem yw(l:al)(c:UInt8)(k:Nat):num (c::l) k=num l k+if c.toNat=k then 1 else 0:=by
 unfold num;rw[N5];simp
theorem abn{l:al}{c:UInt8}(hc:c.toNat<16):(tH l).set c.toNat ((tH l).getD c.toNat 0+1)=tH (l++[c]):=by
 rw[Dj l hc];apply pV
 ·simp
 ·intro i h1 h2;have hi:i<16:=by simpa using h2
  by_cases e:c.toNat=i
  ·subst e;simp[tH,EO]
  ·simp[tH,EO,e]
theorem agR:tH []=List.replicate 16 0:=by decide
def w3(b:List Int):Nat→Int
 |0=>0
 |k+1=>w3 b k+if k=0 then 0 else b.getD k 0*2^(15-k)
def tI(b:List Int):Nat→Int
 |0=>0
 |k+1=>tI b k+if k=0 then 0 else b.getD k 0
theorem ZQ(b:List Int){k:Nat}(hk:1≤k):w3 b (k+1)=w3 b k+b.getD k 0*2^(15-k):=by
 conv=>lhs;unfold w3
 rw[aw aa]
theorem Xv(b:List Int){k:Nat}(hk:1≤k):tI b (k+1)=tI b k+b.getD k 0:=by
 conv=>lhs;unfold tI
 rw[aw aa]
def Few(b:List Int):Prop:=b.length=16∧∀i,0≤b.getD i 0∧b.getD i 0≤300
theorem Few.sum{b:List Int}(h:Few b):∀k,0≤w3 b k∧w3 b k≤k*9830400
 |0=>by simp[w3]
 |k+1=>by
  have ih:=h.sum k;have hb:=h.2 k;unfold w3;split
  ·omega
  ·have h2:(2:Int)^(15-k)≤2^15:=by
    have:(2:Nat)^(15-k)≤2^15:=kZ aa aa
    exact_mod_cast this
   have h3:(0:Int)<2^(15-k):=Int.pow_pos aa;have h4:0≤b.getD k 0*2^(15-k):=Int.mul_nonneg hb.1 aa;have h5:b.getD k 0*2^(15-k)≤300*2^15:=Int.mul_le_mul hb.2 h2 aa aa;omega
theorem Few.rH{b:List Int}(h:Few b):∀k,0≤tI b k∧tI b k≤k*300
 |0=>by simp[tI]
 |k+1=>by
  have ih:=h.rH k;have hb:=h.2 k;unfold tI;split<;>omega
theorem J5{l:al}(h:l.length≤300):Few (tH l):=by
 refine⟨ak,fun i=>?_⟩;by_cases hi:i<16
 ·rw[Dj l hi];have:=wV l i;omega
 ·simp[List.getD,show(tH l)[i]? =none from zX bR]
theorem UI{b:List Int}(h:Few b)(i:Nat){x:Int}(hx:0≤x∧x≤300):Few (b.set i x):=by
 refine⟨by simpa using h.1,fun j=>?_⟩;by_cases e:i=j
 ·subst e;by_cases hi:i<b.length
  ·simp[List.getD,hi,hx]
  ·simp[List.getD,hi]
 ·have:=h.2 j;simpa[List.getD,e]using this
def qN(l:al):List Int:=(tH l).set 0 0
theorem cW(l:al){k:Nat}(h:k<16)(h0:k≠0):(qN l).getD k 0=(num l k:Int):=by
 rw[←Dj l h];simp[qN,List.getD,Ne.symm h0]
def Fit(l:al):Prop:=l.length≤300∧∀c∈l,c.toNat≤15
instance (l:List UInt8):Decidable (Fit l):=inferInstanceAs (Decidable (_∧_))
def Good(l:al):Prop:=Fit l∧(tI (qN l) 16=0∨w3 (qN l) 16=32768∨tI (qN l) 16=1∧(qN l).getD 1 0=1)
instance (l:List UInt8):Decidable (Good l):=inferInstanceAs (Decidable (_∧_))
theorem ab'{l:al}(h:Fit l):Good l↔(tI (qN l) 16=0∨w3 (qN l) 16=32768∨tI (qN l) 16=1∧(qN l).getD 1 0=1):=⟨fun g=>g.2,fun g=>⟨h,g⟩⟩
theorem M_{l:al}(h:Fit l):Few (qN l):=UI (J5 h.1) 0 aa
def chk(l:al):Int:=if Good l then 0 else 7
def qc:al→Nat
 |[]=>0
 |c::r=>(if c.toNat=0 then 0 else 2^(15-c.toNat))+qc r
def nz(l:al):Nat:=l.countP fun c=>c.toNat != 0
theorem RS(l:al)(c:UInt8):qc (l++[c])=qc l+if c.toNat=0 then 0 else 2^(15-c.toNat):=by
 induction l with
 |nil=>simp[qc]
 |cons x r ih=>simp only[nC,qc,ih];omega
theorem CI(l:al)(c:UInt8):nz (c::l)=nz l+if c.toNat=0 then 0 else 1:=by
 unfold nz;rw[N5];by_cases h:c.toNat=0<;>simp[h]
theorem aiQ(l:al):w3 (qN l) 16=(num l 1*16384+num l 2*8192+num l 3*4096+num l 4*2048+num l 5*1024+num l 6*512+num l 7*256+num l 8*128+num l 9*64+num l 10*32+num l 11*16+num l 12*8+num l 13*4+num l 14*2+num l 15:Nat):=by
 simp only[w3,cW l (show 1<16 by omega) aa,cW l (show 2<16 by omega) aa,cW l (show 3<16 by omega) aa,cW l (show 4<16 by omega) aa,cW l (show 5<16 by omega) aa,cW l (show 6<16 by omega) aa,cW l (show 7<16 by omega) aa,cW l (show 8<16 by omega) aa,cW l (show 9<16 by omega) aa,cW l (show 10<16 by omega) aa,cW l (show 11<16 by omega) aa,cW l (show 12<16 by omega) aa,cW l (show 13<16 by omega) aa,cW l (show 14<16 by omega) aa,cW l (show 15<16 by omega) aa];simp
theorem agQ(l:al):tI (qN l) 16=(num l 1+num l 2+num l 3+num l 4+num l 5+num l 6+num l 7+num l 8+num l 9+num l 10+num l 11+num l 12+num l 13+num l 14+num l 15:Nat):=by
 simp only[tI,cW l (show 1<16 by omega) aa,cW l (show 2<16 by omega) aa,cW l (show 3<16 by omega) aa,cW l (show 4<16 by omega) aa,cW l (show 5<16 by omega) aa,cW l (show 6<16 by omega) aa,cW l (show 7<16 by omega) aa,cW l (show 8<16 by omega) aa,cW l (show 9<16 by omega) aa,cW l (show 10<16 by omega) aa,cW l (show 11<16 by omega) aa,cW l (show 12<16 by omega) aa,cW l (show 13<16 by omega) aa,cW l (show 14<16 by omega) aa,cW l (show 15<16 by omega) aa];simp
theorem rk:∀l:al,(∀c∈l,c.toNat≤15)→qc l=num l 1*16384+num l 2*8192+num l 3*4096+num l 4*2048+num l 5*1024+num l 6*512+num l 7*256+num l 8*128+num l 9*64+num l 10*32+num l 11*16+num l 12*8+num l 13*4+num l 14*2+num l 15∧
  nz l=num l 1+num l 2+num l 3+num l 4+num l 5+num l 6+num l 7+num l 8+num l 9+num l 10+num l 11+num l 12+num l 13+num l 14+num l 15
 |[],_=>by simp[qc,nz,num]
 |c::r,h=>by
  have ih:=rk r fun x hx=>h x oa;have hc:=h c ak;simp only[qc,CI,yw,ih.1,ih.2];have kh:c.toNat=0∨c.toNat=1∨c.toNat=2∨c.toNat=3∨c.toNat=4∨c.toNat=5∨c.toNat=6∨c.toNat=7∨c.toNat=8∨c.toNat=9∨c.toNat=10∨c.toNat=11∨c.toNat=12∨c.toNat=13∨c.toNat=14∨c.toNat=15:=by omega
  generalize c.toNat=x at kh;rcases kh with h|h|h|h|h|h|h|h|h|h|h|h|h|h|h|h<;>subst h<;>simp<;>omega
theorem ZR{l:al}(h:Fit l):w3 (qN l) 16=(qc l:Int):=by rw[aiQ,(rk l h.2).1]
theorem ale{l:al}(h:Fit l):tI (qN l) 16=(nz l:Int):=by rw[agQ,(rk l h.2).2]
theorem D4{l:al}(h:Fit l):Good l↔(nz l=0∨nz l=1∧num l 1=1)∨qc l=32768:=by
 unfold Good;rw[ZR h,ale h,cW l aa aa];constructor
 ·rintro⟨_,h|h|h⟩<;>omega
 ·rintro((h'|h')|h')<;>exact⟨h,aa⟩
theorem ki{P:Prop}(h:P:=by(cases h)):P:=h
theorem nD:type_of% @Nat.pow_succ:= @Nat.pow_succ
theorem Kv:type_of% @List.take_sublist:= @List.take_sublist
theorem Ev:type_of% @List.getElem_map:= @List.getElem_map
theorem GX:type_of% @List.getElem_range:= @List.getElem_range
theorem N6:type_of% @List.getElem_set:= @List.getElem_set
theorem wS:type_of% @List.set_append_right:= @List.set_append_right
theorem fL:type_of% @List.take_of_length_le:= @List.take_of_length_le
theorem tc:type_of% @Nat.mul_assoc:= @Nat.mul_assoc
theorem nE:type_of% @Nat.mul_comm:= @Nat.mul_comm
def fst(l:al):Nat→Nat
 |0=>0
 |1=>0
 |k+2=>(fst l (k+1)+num l (k+1))*2
theorem fx(l:al){k:Nat}(h:1≤k):fst l (k+1)=(fst l k+num l k)*2:=by
 obtain⟨j,rfl⟩:∃j,k=j+1:=⟨k-1,aa⟩
 rfl
theorem ab5{l:al}(hl:l.length≤300):∀k,fst l k+600≤600*2^k
 |0=>by simp[fst]
 |1=>by simp[fst]
 |k+2=>by
  have ih:=ab5 hl (k+1);have hn:=wV l (k+1);rw[fx l aa,nD 2 (k+1)];omega
theorem uV{l:al}(hl:l.length≤300){k:Nat}(hk:k≤16):fst l k≤39321600:=by
 have h1:=ab5 hl k;have h2:=kZ (show 1≤2 by omega) hk;omega
def place(l:al)(k:Nat)(s:Nat):Nat:=fst l k+num (l.take s) k
def code(l:al)(s:Nat):Int:=if (l.getD s 0).toNat=0 then 0 else IntKind.u16.wrap (place l (l.getD s 0).toNat s:Int)
def gd(l:al):List Int:=(List.range l.length).map (code l)
@[simp] theorem Gu(l:al):(gd l).length=l.length:=by simp[gd]
theorem wC(l:al){s:Nat}(h:s<l.length):(gd l).getD s 0=code l s:=by
 simp[gd,List.getD,h]
theorem jQ{l:al}{s:Nat}(k:Nat)(h:s<l.length):num (l.take (s+1)) k=num (l.take s) k+if (l.getD s 0).toNat=k then 1 else 0:=by
 rw[ba h 0,EO]
theorem uv(l:al)(s k:Nat):num (l.take s) k≤num l k:=by
 unfold num;exact List.Sublist.countP_le (Kv s l)
def xU(l:al)(k:Nat):List Int:=(List.range 17).map fun j=>if j≤k then (fst l j:Int) else 0
@[simp] theorem ajY(l:al)(k:Nat):(xU l k).length=17:=by simp[xU]
theorem ab2(l:al){k j:Nat}(h:j≤k)(h2:j<17):(xU l k).getD j 0=(fst l j:Int):=by
 simp[xU,List.getD,h2,h]
theorem ab3(l:al):List.replicate 17 (0:Int)=xU l 1:=by
 have h1:fst l 1=0:=rfl;have h0:fst l 0=0:=rfl;have e:xU l 1=(List.range 17).map fun _=>(0:Int):=by
  unfold xU;refine r9 fun j _=>?_;split
  ·rename_i h;have:j=0∨j=1:=by omega
   rcases this with rfl|rfl
   ·rw[h0];rfl
   ·rw[h1];rfl
  ·rfl
 rw[e];decide
theorem X3(l:al){k:Nat}:(xU l k).set (k+1) (fst l (k+1):Int)=xU l (k+1):=by
 apply pV
 ·simp
 ·intro i h1 h2;by_cases e:k+1=i
  ·subst e;simp[xU]
  ·have:i≤k↔i≤k+1:=by omega
   simp[xU,e,this]
def vx(l:al)(s:Nat):List Int:=(List.range 17).map fun j=>if j=0 then 0 else (place l j s:Int)
@[simp] theorem Ni(l:al)(k:Nat):(vx l k).length=17:=by simp[vx]
theorem ab4(l:al){s j:Nat}(h:1≤j)(h2:j<17):(vx l s).getD j 0=(place l j s:Int):=by
 have:¬j=0:=by omega
 simp[vx,List.getD,h2,this]
theorem X6(l:al):xU l 16=vx l 0:=by
 apply pV
 ·simp
 ·intro i h1 h2;have hi:i<17:=by simpa using h1
  by_cases e:i=0
  ·subst e;rfl
  ·simp[xU,vx,e,place,num,show i≤16 by omega]
theorem X4{l:al}{s:Nat}(h:s<l.length)(h0:(l.getD s 0).toNat=0):vx l s=vx l (s+1):=by
 apply pV
 ·simp
 ·intro i h1 h2;by_cases e:i=0
  ·simp[vx,e]
  ·simp only[vx,Ev,GX,e,if_false,place,jQ i h];rw[aw aa];rfl
theorem X5{l:al}{s:Nat}(h:s<l.length)(h1:1≤(l.getD s 0).toNat)(h2:(l.getD s 0).toNat<17):(vx l s).set (l.getD s 0).toNat ((place l (l.getD s 0).toNat s:Int)+1)=vx l (s+1):=by
 apply pV
 ·simp
 ·intro i k1 k2;by_cases e:(l.getD s 0).toNat=i
  ·rw[N6,ao e];subst e;have hn:=jQ (l:=l) (l.getD s 0).toNat h;rw[ao rfl]at hn;simp only[vx,Ev,GX,place,hn];rw[aw aa];omega
  ·rw[N6,aw e];by_cases e0:i=0
   ·simp[vx,e0]
   ·simp only[vx,Ev,GX,e0,if_false,place,jQ i h];rw[aw e];rfl
theorem OH{l:al}(hl:l.length≤300){k:Nat}(hk:k≤16)(s:Nat):place l k s≤39321900:=by
 have h1:=uV hl hk;have h2:=uv l s k;have h3:=wV l k;unfold place;omega
def Ci(l:al)(s:Nat):List Int:=(gd l).take s++List.replicate (l.length-s) 0
@[simp] theorem OE(l:al){s:Nat}(h:s≤l.length):(Ci l s).length=l.length:=by simp[Ci];omega
theorem Zo(l:al):Ci l 0=List.replicate l.length 0:=by simp[Ci]
theorem IN{l:al}{s:Nat}(h:s<l.length):(Ci l s).set s (code l s)=Ci l (s+1):=by
 unfold Ci;rw[wS _ _ bR];have e:s-((gd l).take s).length=0:=by simp;omega
 rw[e,show l.length-s=(l.length-(s+1))+1 by omega,zV,List.set_cons_zero,ba (l:=gd l) (k:=s) nr 0,wC l h,bV];rfl
theorem Zn{l:al}{s:Nat}(h:s<l.length)(h0:(l.getD s 0).toNat=0):Ci l s=Ci l (s+1):=by
 rw[←IN h];have:code l s=0:=ao h0;rw[this];apply pV
 ·simp
 ·intro i k1 k2;rw[N6];split
  ·rename_i e;subst e;have k3:s<((gd l).take s++List.replicate (l.length-s) (0:Int)).length:=k1;show((gd l).take s++List.replicate (l.length-s) (0:Int))[s]'k3=0;rw[List.getElem_append_right bR];simp
  ·rfl
theorem adV(l:al):Ci l l.length=gd l:=by
 unfold Ci;rw[fL ak];simp
def ajW(l:al)(L s j:Nat):Prop:=(l.getD j 0).toNat≠0∧((l.getD j 0).toNat<L∨(l.getD j 0).toNat=L∧j<s)
instance (l:List UInt8)(L s j:Nat):Decidable (ajW l L s j):=inferInstanceAs (Decidable (_∧_))
def aqM(l:al)(L s:Nat):List Int:=(List.range l.length).map fun j=>if ajW l L s j then code l j else 0
@[simp] theorem akk(l:al)(L s:Nat):(aqM l L s).length=l.length:=by simp[aqM]
theorem Zt{l:al}{L s:Nat}(hs:s<l.length)(h:(l.getD s 0).toNat=L):place l L (s+1)=place l L s+1:=by
 unfold place;rw[jQ L hs,ao h];omega
theorem EV{l:al}{L:Nat}(hL:1≤L):place l (L+1) 0=2*place l L l.length:=by
 unfold place;rw[fx l hL,jU];simp[num];omega
def RC(l:al)(L s next was:Nat)(any:Bool):Prop:=was≤L∧(any=true→(next+1)*2^(L-was)=place l L s)∧(any=false→place l L s=0∧next=0)
theorem RC.start(l:al):RC l 1 0 0 0 false:=⟨aa,(fun h=>ki),fun _=>⟨by simp[place,fst,num],rfl⟩⟩
theorem RC.next{l:al}{L next was:Nat}{any:Bool}(h:RC l L l.length next was any)(hL:1≤L):RC l (L+1) 0 next was any:=by
 obtain⟨h1,h2,h3⟩:=h;refine⟨aa,fun h=>?_,fun h=>?_⟩
 ·rw[EV hL,←h2 h,show L+1-was=(L-was)+1 by omega,nD];rw[←tc,nE]
 ·rw[EV hL,(h3 h).1];exact⟨rfl,(h3 h).2⟩
theorem RQ{l:al}(h:Good l):qc l≤32768:=by
 have h1:=(D4 h.1).1 h;have h2:=rk l h.1.2;omega
theorem qQ{l:al}(h:Good l){k:Nat}(h1:1≤k)(h2:k≤15):fst l k+num l k≤2^k:=by
 have hk:=RQ h;have e:=(rk l h.1.2).1;have e1:fst l 1=0:=rfl;have e2:=fx l (k:=1) aa;have e3:=fx l (k:=2) aa;have e4:=fx l (k:=3) aa;have e5:=fx l (k:=4) aa;have e6:=fx l (k:=5) aa;have e7:=fx l (k:=6) aa;have e8:=fx l (k:=7) aa;have e9:=fx l (k:=8) aa;have e10:=fx l (k:=9) aa;have e11:=fx l (k:=10) aa;have e12:=fx l (k:=11) aa;have e13:=fx l (k:=12) aa;have e14:=fx l (k:=13) aa;have e15:=fx l (k:=14) aa;have hc:k=1∨k=2∨k=3∨k=4∨k=5∨k=6∨k=7∨k=8∨k=9∨k=10∨k=11∨k=12∨k=13∨k=14∨k=15:=by omega
 rcases hc with h|h|h|h|h|h|h|h|h|h|h|h|h|h|h<;>subst h<;>simp only[Nat.reduceAdd,Nat.reducePow]at*<;>omega
theorem yB{l:al}{s k:Nat}(hs:s<l.length)(h:(l.getD s 0).toNat=k):place l k s+1≤fst l k+num l k:=by
 have h1:=Zt hs h;have h2:=uv l (s+1) k;unfold place at*;omega
theorem ad7(l:al)(k s:Nat):fst l k≤place l k s:=Nat.le_add_right _ _
theorem UR(l:al){k:Nat}(h:1≤k):∀d,1≤d→(fst l k+num l k)*2^d≤fst l (k+d)
 |0,h=>absurd h aa
 |1,_=>by rw[fx l h];omega
 |d+2,_=>by
  have ih:=UR l h (d+1) aa;have e:fst l (k+(d+2))=(fst l (k+(d+1))+num l (k+(d+1)))*2:=fx l (k:=k+(d+1)) aa;rw[e,show d+2=(d+1)+1 from rfl,nD,←tc];exact ow 2 (jd ih (Nat.le_add_right _ _))
theorem MC{l:al}(hg:Good l){s:Nat}(hs:s<l.length)(h0:(l.getD s 0).toNat≠0):code l s=(place l (l.getD s 0).toNat s:Int):=by
 unfold code;rw[aw h0];have hu:=hg.1.2 _ (bg hs 0);have h1:=yB hs rfl;have h2:=qQ hg (k:=(l.getD s 0).toNat) aa hu;have h3:=kZ (show 1≤2 by omega) hu;exact akI aa aa
theorem QG{l:al}(hg:Good l){s:Nat}(hs:s<l.length)(h0:(l.getD s 0).toNat≠0):place l (l.getD s 0).toNat s<32768:=by
 have hu:=hg.1.2 _ (bg hs 0);have h1:=yB hs rfl;have h2:=qQ hg (k:=(l.getD s 0).toNat) aa hu;have h3:=kZ (show 1≤2 by omega) hu;omega
section
section
variable{C:Cx}{Q:Exit→Fr→aP→Prop}{fr jC:Fr}{L L':aP}{cd:Code}{ops:Array Oper}{l:sA}{op:Op}{ty:TypeId}{pos:String}{af:Array Edge}{d:Nat}{v:Value}
variable{x y z:Operand}{k:IntKind}{m n:Int}{f:Ch→aP}{g o:Nat}{bt t e:TypeId}{cs:cV}
theorem z8:type_of% @List.getElem?_append_left:= @List.getElem?_append_left
theorem r_:type_of% @List.length_nil:= @List.length_nil
theorem r':type_of% @Nat.zero_mul:= @Nat.zero_mul
theorem lz{size bytes:Nat}{zv:Value}(T:sC C.P t e size bytes zv):qp C fr L (.buildSlice t 0 #[]) ty (fun p L'=>∃A,p= .slice A 0 0∧L'= .own e size A 0 0 []::L):=fun a w ha hw d pos af gg=>by
 obtain⟨i,hi,hz,i_,D8⟩:=T.hi;subst i_;refine⟨.slice (some ⟨w.heap.size,0,none⟩) 0 0,w.alloc (.cells #[] e),_,.inl ?_,⟨some ⟨w.heap.size,0,none⟩,rfl,rfl⟩,hw.gL (Kt w _ none) ⟨ak,gj _,.inl rfl⟩ (.inl rfl)⟩;simp[execOp,Instr.buildSlice,iO T.ht,sizeOf,typeInfo,hi,Instr.fill,newRow];rw[show Array.range 0= #[] from by simp[Array.range],Array.map_empty]
theorem Ng:∀(us pre:cV) (cells:Array Value),pre.length+us.length=cells.size→(∀j,j<pre.length→cells[j]? =pre[j]?)→(us.zipIdx pre.length).foldl (fun cs (c,j)=>cs.setIfInBounds j c) cells=(pre++us).toArray
 |[],pre,cells,h,hp=>by
  simp only[List.zipIdx_nil,List.foldl_nil,gk];simp at h;apply Array.ext
  ·simp[h]
  ·intro j h1 h2;have:=hp j oQ;rw[Array.getElem?_eq_getElem h1]at this;simp at h2;rw[fm h2]at this;simpa using this
 |u::us,pre,cells,h,hp=>by
  rw[List.zipIdx_cons,List.foldl_cons];simp only[ef]at h;have:=Ng us (pre++[u]) (cells.setIfInBounds pre.length u) bR (fun j hj=>by
   simp at hj;rw[Array.getElem?_setIfInBounds];by_cases hjp:pre.length=j
   ·subst hjp;simp;omega
   ·rw[aw hjp,hp j aa,z8 aa])
  simpa using this
theorem abS{size:Nat}{v:Value}{us:cV}(hv:v.cells=us.toArray)(hl:us.length=size)(Z:Array Value)(hZ:Z.size=size):Instr.fill (fun i=>some (i*size,size)) Z [(0,v)]=some us.toArray:=by
 have h:=Ng us [] Z (by simpa[hZ]using hl) ak;simp only[r_,nA]at h;simp only[Instr.fill,hv,r',mq,wR,hl];simp[hZ];exact h
theorem MW{size bytes:Nat}{zv:Value}{us:cV}(T:sC C.P t e size bytes zv)(he:ev fr x=some v)(hv:v.cells=us.toArray)(hl:us.length=size)(It:size≤1000):qp C fr L (.buildSlice t 1 #[(0,x)]) ty (fun p L'=>∃A,p= .slice A 1 1∧L'= .own e size A 1 1 us::L):=by
 obtain⟨i,hi,hz,i_,D8⟩:=T.hi;exact me (parts:=[(0,x)]) (us:=[(0,v)]) (zv:=zv) T.ht (by rw[hi];simp[i_]) T.hs aa aa (by rw[hi];simpa using hz) (by simp[he]) (abS hv hl _ ak) aa
theorem rE{size bytes d1 d2:Nat}{zv:Value}{ty1 ty2:TypeId}{am2 am3:String}{af1 af2:Array Edge}{s:Operand}{A:bj}{n c:Nat}{xs us:cV}(T:sC C.P t e size bytes zv)(he:ev fr x=some v)(hv:v.cells=us.toArray)(y':us.length=size)(It:size≤1000)(h1:∀u∈us,u.oneCell'=true)(hd1:Nat.blt d1 C.N=true)(Ym:Nat.blt d2 C.N=true)(hs:ev ((d1,.slice none 0 0)::fr) s=some (.slice A n c))(hsn:∀u,ev ((d1,u)::fr) s=ev ((d1,.slice none 0 0)::fr) s)(hl:mC (.own e size A n c xs) L f)(jT:(n+1)*bytes≤140737488355328)(GF:n+1≤140737488355328)(kk:∀A1 A' c',VL C ops Q l ((d2,.slice A' (n+1) c')::(d1,.slice A1 1 1)::fr) (f (.own e size A' (n+1) c' (xs++us)))):
  VL C ops Q (⟨some d1,.buildSlice t 1 #[(0,x)],ty1,am2,af1,none⟩::⟨some d2,.call {callee:=.builtin .append,args:= #[s,.tmp d1],argTypes:= #[t,t]},ty2,am3,af2,none⟩::l) fr L:=by
 refine lL (MW T he hv y' It) hd1 ?_;rintro _ _ ⟨A1,rfl,rfl⟩;refine lL (bS (m:=1) (news:=us) T ((hsn _).trans hs) (.tl hl) (yv:=.slice A1 1 1) (by simp[ev,look]) (aJ.own (List.Mem.head _)) h1 jT GF) Ym ?_;rintro _ _ ⟨A2,c2,rfl,rfl⟩;intro a w ha hw;exact kk A1 A2 c2 a w ha hw.tail
theorem Tp{size nn c:Nat}{A:bj}{xs:cV}(hb:aJ C.B C.w0 L size (.slice A nn c) nn xs)(h:nn≤c→xs.length=nn*size→VC C cd Q fr L):VC C cd Q fr L:=fun a w ha hw=>by
 obtain⟨A',c',hv,hc,hl,_⟩:=hb w hw;injection hv with _ _ h3;subst h3;exact h hc hl a w ha hw
theorem dL.xf{P:Program}{B:Nat}{w0:World}{ff:FuncId}{args:cV}{R:qI}{size nn c:Nat}{A:bj}{xs:cV}(hb:aJ B w0 L size (.slice A nn c) nn xs)(h:nn≤c→xs.length=nn*size→dL P B w0 ff args L R):dL P B w0 ff args L R:=fun w hw=>by
 obtain⟨A',c',hv,hc,hl,_⟩:=hb w hw;injection hv with _ _ h3;subst h3;exact h hc hl w hw
theorem rV{A:bj}{nn c:Nat}{xt yt:TypeId}(ht:C.P.underlying xt=some (.slice e))(h1:ev fr x=some (.slice A nn c))(h2:ev fr y=some (.slice none 0 0)):gI C fr L (.binOp .eql xt x y yt) ty (.bool A.isNone):=fun a w ha hw d pos af g=>by
 have he:(eqGuard .eql xt x y (.slice A nn c) (.slice none 0 0)).run C.P w= .ok () w:=by simp[eqGuard]
 simp only[execOp,ha.tmp h1,ha.tmp h2,Kr,he,Lib.run_eql_slice_nil w xt e A nn c 0 0 ht,s_,GS]
end
def aqB(zs:cV):List (Nat×Value)→cV
 |[]=>zs
 |(o,v)::r=>aqB (zs.take o++(v.cells.toList++zs.drop (o+v.cells.size))) r
theorem bw{C:Cx}{fr:Fr}{L:aP}{ty t:TypeId}{parts:List (Nat×Operand)}(us:List (Nat×Value))(zs:cV)(os:bf)(cs:cV)(hp:parts.map (fun p=>(p.1,ev fr p.2))=us.map (fun p=>(p.1,some p.2)))(tR:aqB zs (os.zip (us.map (·.2)))=cs)(hb:C.P.built t us=some cs.toArray):
 gI C fr L (.build t parts.toArray) ty (.agg cs.toArray):=wD us cs hp hb
theorem aD{P:Program}{fn:Func}{R:qI}{ee:Exit}{fr:Fr}{L:aP}(e:TypeId)(size:Nat)(A:bj)(h:Cp P fn R ee fr (.own e size A 0 0 []::L)):Cp P fn R ee fr L:=by
 cases ee<;>first
  |exact h
  |(intro B w0 a w ha hw;exact h B w0 a w ha (hw.CF e size A))
theorem aq4{A:bj}{n m c:Nat}(h:n=m):some (Value.slice A n c)=some (.slice A m c):=by rw[h]
theorem swp{a b:Ch}{L:aP}:(a::b::L).Perm (b::a::L):=.swap b a L
theorem dL.of_same{P:Program}{B:Nat}{w0:World}{ff:FuncId}{args:cV}{L:aP}{v:Value}(h:∀w,SL B w0 L w→Calls P ff args.toArray w fun e w'=>e= .returned v∧w=w'):dL P B w0 ff args L (fun r L'=>r=v∧L'=L):=fun w hw=>
 (h w hw).mono fun e w' ⟨he,GO⟩=>by subst GO;exact⟨v,L,he,⟨rfl,rfl⟩,hw⟩
theorem pG{C:Cx}{ops:Array Oper}{S:aP}{Q:Exit→Fr→aP→Prop}{fuel:Nat}{li:Array Bool}{fr:Fr}{L:aP}{d:Nat}{ty:TypeId}{pos:String}{af:Array Edge}{i:Nat}{ff:FuncId}{gg:Operand}{tE:List Operand}{Cq:Array TypeId}{vs fst cap:cV}{R:qI}{g:Option (Nat×Bool)}(ho:ops[i]? =some ⟨some d,.call {callee:=.value gg,args:=tE.toArray,argTypes:=Cq},ty,pos,af,g⟩)(hg:Gd ops fr g)(hc:aH C.P ff)(hgg:ev fr gg=some (.func (.func ff) fst.toArray cap.toArray))(he:B9 fr tE=some vs)(h:dL C.P C.B C.w0 ff (fst++vs++cap) L R)(hd:Nat.blt d C.N=true)(hS:∀v L',R v L'→S.Sublist L')(k:∀v L',R v L'→VH C ops S Q fuel (li.setIfInBounds i true) ((d,v)::fr) L'):Step C ops S Q fuel li fr L i:=fun a w ha hw _=>by
 unfold wpOp;simp only[ho];rw[ao (hg.wanted ha)];refine .inl ?_;unfold Oper.wp;rw[mf hc (ha.tmp hgg),ha.B9 he];simp only[List.append_toArray];refine Ks (h w hw) fun e w' ⟨v,L',he,hR,hs⟩=>?_;subst he;have jH:=hs.sub (hS v L' hR);exact⟨jH,k _ _ hR _ _ (ha.put hd _) hs jH⟩
end
section
theorem z_:type_of% @List.take_zero:= @List.take_zero
theorem lX:type_of% @List.mem_of_mem_take:= @List.mem_of_mem_take
theorem N7:type_of% @List.take_append:= @List.take_append
theorem Ix:type_of% @List.take_take:= @List.take_take
theorem sK:type_of% @Option.map_some:= @Option.map_some
theorem El:type_of% @Nat.sub_zero:= @Nat.sub_zero
theorem gh{P:Program}{t:TypeId}{xs:Array Value}{off:Nat}{v:Value}(hs:pU P t=true)(hx:xs[off]? =some v)(w:World):(part t xs off).run P w= .ok v w:=by
 simp[part,x6 hs,hx]
section
variable{C:Cx}{fr:Fr}{L:aP}{x y:Operand}{f:Ch→aP}{t t2 e ty:TypeId}
theorem MX{bytes:Nat}{zv:Value}(T:sC C.P t e 1 bytes zv){A:bj}{n c i:Nat}{xs:cV}(hs:mC (.own e 1 A n c xs) L f)(he:ev fr x=some (.slice (if c=i then A else A.map (·.add (i*1))) (n-i) (c-i)))(hi:i≤n){yv:Value}{m:Nat}{news:cV}(hy:ev fr y=some yv)(hb:aJ C.B C.w0 L 1 yv m news)(h1:∀u∈news,u.oneCell'=true):
  qp C fr L (.call {callee:=.builtin .copy,args:= #[x,y],argTypes:= #[t,t2]}) ty (fun p L'=>p=ah (min m (n-i):Nat)∧L'=f (.own e 1 A n c (xs.take i++news.take (min m (n-i))++xs.drop (i+min m (n-i))))):=fun a w ha hw d pos af gg=>by
 obtain⟨ii,hii,hz,i_,D8⟩:=T.hi;have acT:(C.P.info? e).map (·.size)=some 1:=by rw[hii];simp[i_]
 obtain⟨X,cx,rfl,hmc,hl,tW⟩:=hb w hw;have al2:Nat.min m (n-i)=min m (n-i):=rfl;obtain⟨k1,k2,k3⟩:=hw.all _ hs.mem;rw[cE]at k1 hl;by_cases h0:min m (n-i)=0
 ·have hr:=run_copy_none (P:=C.P) w t t2 ty e (if c=i then A else A.map (·.add (i*1))) X (n-i) (c-i) m cx T.ht acT h0;refine⟨_,w,_,.inl ?_,⟨rfl,rfl⟩,?_⟩
  ·simp[execOp,resolve,invoke,builtin,ha.tmp he,ha.tmp hy];have:=hr;simp at this;rw[this];simp[goInt,h0]
  ·rw[h0,z_,gk,ta,jK];refine hw.Qb hs (NR w _) (fun h=>h) (.inr (.inl rfl))
 ·have qF:¬c=0:=by omega
  have hci:¬c=i:=by omega
  obtain⟨g,cur,rfl,Yj,hg,hcm,tR,ph⟩:=k3.resolve_left qF;clear k3;rw[cE]at tR ph;obtain⟨ad,rfl,_,fy⟩:=tW aa;clear tW al2;obtain⟨k,hk⟩:=cN (min m (n-i));have Gb:k≤m:=by omega
  have hkn:i+k≤n:=by omega
  have Nx:k=Nat.min m (n-i):=hk;rw[←hk]at h0⊢;clear hk;have al':∀j v,(news.take k)[j]? =some v→w.cell? (ad.add j)=some v:=fun j v hv=>by
   rw[GR]at hv;split at hv
   ·exact fy j v hv
   ·cases hv
  have hlen:(news.take k).length=k:=by rw[eS,hl];omega
  have GH:(⟨g,0,none⟩:Addr).add (i*1)=⟨g,i,none⟩:=by rw[zW,mq,cE]
  have GK:i+(news.take k).length≤cur.size:=by rw[hlen,tR];omega
  have hr:=run_copy_row (P:=C.P) w t t2 ty e g i (n-i) (c-i) ad m cx cur e (news.take k) T.ht acT hg (by rw[hlen];exact Nx) al' GK (fun v hv=>h1 v (lX hv));clear Nx;have r7:cur.toList.length=c:=by simpa using tR
  have e1:(xs.take i++news.take k++xs.drop (i+k)).length=n*1:=by
   simp only[aY,eS,iG,hl,k1];omega
  have e2:(cur.toList.take i++news.take k++cur.toList.drop (i+(news.take k).length)).length=c:=by
   simp only[aY,eS,iG,hl,r7];omega
  have e3:(cur.toList.take i++news.take k++cur.toList.drop (i+(news.take k).length)).take n=xs.take i++news.take k++xs.drop (i+k):=by
   have hx:xs=cur.toList.take n:=ph.symm;rw[hlen,N7,fL (by rw[aY,eS,hlen];omega),hx,Ix,RP,za aa];congr 2;rw[aY,eS,hlen,r7,za aa]
  refine⟨_,_,_,.inl ?_,⟨rfl,rfl⟩,hw.Qb hs (w':=w.setRow g (cur.toList.take i++news.take k++cur.toList.drop (i+(news.take k).length)).toArray) ?_ (fun _=>⟨e1,k2,.inr ⟨g,_,rfl,Yj,N0 w g cur _ e _ hg,hcm,by rw[wR,e2,cE],by rw[cE];exact e3⟩⟩) (.inr (.inl rfl))⟩
  ·simp only[execOp,resolve,invoke,builtin,ha.tmp he,ha.tmp hy,aw hci,sK,GH,Kr,GS,s_,List.map_toArray,kA,GU,hr];simp[goInt,hlen]
  ·rw[show(Ch.own e 1 (some ⟨g,0,none⟩) n c xs).fp=some g by simp[Ch.fp,qF]];exact⟨rfl,rfl,rfl,ak,fun k _ hk=>N2 w g k _ (fun e=>hk xq)⟩
theorem H6{bytes:Nat}{zv:Value}(T:sC C.P t e 1 bytes zv){A:bj}{n c:Nat}{xs:cV}(hs:mC (.own e 1 A n c xs) L f)(he:ev fr x=some (.slice A n c)){yv:Value}{m:Nat}{news:cV}(hy:ev fr y=some yv)(hb:aJ C.B C.w0 L 1 yv m news)(h1:∀u∈news,u.oneCell'=true):
  qp C fr L (.call {callee:=.builtin .copy,args:= #[x,y],argTypes:= #[t,t2]}) ty (fun p L'=>p=ah (min m n:Nat)∧L'=f (.own e 1 A n c (news.take (min m n)++xs.drop (min m n)))):=by
 have h:=MX (ty:=ty) (t2:=t2) T hs (i:=0) (n:=n) (c:=c) (by rw[he];congr 2;rw[r'];split<;>simp[OC]) (bT _) hy hb h1;rw[z_,nA,mq,El]at h;exact h
end
end
theorem fR{a:Ch}{L L':aP}(h:L.Perm L'):(a::L).Perm (a::L'):=h.cons a
theorem ed{a:Ch}{L L':aP}(h:Wk L L'):Wk (a::L) (a::L'):=h.cons
theorem l6{a0 x:Ch}{L L':aP}(h:(a0::L).Perm L'):(a0::x::L).Perm (x::L'):=((fR (.refl _)).cons a0).trans ((List.Perm.swap x a0 _).trans (h.cons x))
theorem gl{a0 x:Ch}{L L':aP}(h:Wk (a0::L) L'):Wk (a0::x::L) (x::L'):=(Wk.dD (l6 (.refl _))).trans h.cons
theorem BN{a0 a1 x:Ch}{L L':aP}(h:(a0::a1::L).Perm L'):(a0::a1::x::L).Perm (x::L'):=((l6 (.refl _)).cons a0).trans ((List.Perm.swap x a0 _).trans (h.cons x))
theorem rM{a0 a1 x:Ch}{L L':aP}(h:Wk (a0::a1::L) L'):Wk (a0::a1::x::L) (x::L'):=(Wk.dD (BN (.refl _))).trans h.cons
theorem pu3{a0 a1 a2 x:Ch}{L L':aP}(h:(a0::a1::a2::L).Perm L'):(a0::a1::a2::x::L).Perm (x::L'):=((BN (.refl _)).cons a0).trans ((List.Perm.swap x a0 _).trans (h.cons x))
theorem tx{a0 a1 a2 x:Ch}{L L':aP}(h:Wk (a0::a1::a2::L) L'):Wk (a0::a1::a2::x::L) (x::L'):=(Wk.dD (pu3 (.refl _))).trans h.cons
theorem pu4{a0 a1 a2 a3 x:Ch}{L L':aP}(h:(a0::a1::a2::a3::L).Perm L'):(a0::a1::a2::a3::x::L).Perm (x::L'):=((pu3 (.refl _)).cons a0).trans ((List.Perm.swap x a0 _).trans (h.cons x))
theorem wu4{a0 a1 a2 a3 x:Ch}{L L':aP}(h:Wk (a0::a1::a2::a3::L) L'):Wk (a0::a1::a2::a3::x::L) (x::L'):=(Wk.dD (pu4 (.refl _))).trans h.cons
theorem pu5{a0 a1 a2 a3 a4 x:Ch}{L L':aP}(h:(a0::a1::a2::a3::a4::L).Perm L'):(a0::a1::a2::a3::a4::x::L).Perm (x::L'):=((pu4 (.refl _)).cons a0).trans ((List.Perm.swap x a0 _).trans (h.cons x))
theorem pu6{a0 a1 a2 a3 a4 a5 x:Ch}{L L':aP}(h:(a0::a1::a2::a3::a4::a5::L).Perm L'):(a0::a1::a2::a3::a4::a5::x::L).Perm (x::L'):=((pu5 (.refl _)).cons a0).trans ((List.Perm.swap x a0 _).trans (h.cons x))
theorem wu6{a0 a1 a2 a3 a4 a5 x:Ch}{L L':aP}(h:Wk (a0::a1::a2::a3::a4::a5::L) L'):Wk (a0::a1::a2::a3::a4::a5::x::L) (x::L'):=(Wk.dD (pu6 (.refl _))).trans h.cons
theorem pu7{a0 a1 a2 a3 a4 a5 a6 x:Ch}{L L':aP}(h:(a0::a1::a2::a3::a4::a5::a6::L).Perm L'):(a0::a1::a2::a3::a4::a5::a6::x::L).Perm (x::L'):=((pu6 (.refl _)).cons a0).trans ((List.Perm.swap x a0 _).trans (h.cons x))
theorem wu7{a0 a1 a2 a3 a4 a5 a6 x:Ch}{L L':aP}(h:Wk (a0::a1::a2::a3::a4::a5::a6::L) L'):Wk (a0::a1::a2::a3::a4::a5::a6::x::L) (x::L'):=(Wk.dD (pu7 (.refl _))).trans h.cons
theorem pu8{a0 a1 a2 a3 a4 a5 a6 a7 x:Ch}{L L':aP}(h:(a0::a1::a2::a3::a4::a5::a6::a7::L).Perm L'):(a0::a1::a2::a3::a4::a5::a6::a7::x::L).Perm (x::L'):=((pu7 (.refl _)).cons a0).trans ((List.Perm.swap x a0 _).trans (h.cons x))
theorem ag{P:Prop}(h:P:=by(kernel_rfl)):P:=h
theorem Wo:sC Tryz.prog 24 62 4 48 (.agg #[.int .u64 0,.int .u8 0,.string ⟨#[]⟩,.string ⟨#[]⟩]):=k9 underlying24 ag rfl aa
theorem cD:sC Tryz.prog 27 5 1 1 (.int .u8 0):=k9 underlying27 ag rfl aa
theorem fD:sC Tryz.prog 52 27 1 24 (.slice none 0 0):=k9 underlying52 ag rfl aa
theorem fJ:sC Tryz.prog 53 3 1 8 (ah 0):=k9 underlying53 ag rfl aa
theorem aq3:sC Tryz.prog 63 23 6 48 (.agg #[ah 0,.bool false,ah 0,ah 0,ah 0,ah 0]):=k9 underlying63 ag rfl aa
theorem Fp:sC Tryz.prog 87 9 1 16 (.string ⟨#[]⟩):=k9 underlying87 ag rfl aa
theorem aks:sC Tryz.prog 88 53 1 24 (.slice none 0 0):=k9 underlying88 ag rfl aa
theorem akt:sC Tryz.prog 97 170 3 24 (.agg #[.int .u8 0,ah 0,ah 0]):=k9 underlying97 ag rfl aa
theorem uD:sC Tryz.prog 159 57 1 2 (.int .u16 0):=k9 underlying159 ag rfl aa
theorem anl:sC Tryz.prog 183 60 1 8 (.int .u64 0):=k9 underlying183 ag rfl aa
theorem SO:sC Tryz.prog 186 4 1 1 (.bool false):=k9 underlying186 ag rfl aa
theorem KW:sC Tryz.prog 213 135 1 4 (.int .u32 0):=k9 underlying213 ag rfl aa
theorem Fo:sC Tryz.prog 392 397 2 16 (.agg #[.int .u64 0,.bool false]):=k9 underlying392 ag rfl aa
theorem aeE:sC Tryz.prog 394 392 1 24 (.slice none 0 0):=k9 underlying394 ag rfl aa
theorem anm:sC Tryz.prog 422 52 1 24 (.slice none 0 0):=k9 underlying422 ag rfl aa
theorem co2:aH Tryz.prog 2:=aN func2 aA rfl
theorem arD:aH Tryz.prog 11:=aN func11 aA rfl
theorem aoS:aH Tryz.prog 16:=aN func16 aA rfl
theorem alf:aH Tryz.prog 29:=aN func29 aA rfl
theorem arE:aH Tryz.prog 30:=aN func30 aA rfl
theorem alg:aH Tryz.prog 31:=aN func31 aA rfl
theorem apo:aH Tryz.prog 49:=aN func49 aA rfl
theorem arF:aH Tryz.prog 57:=aN func57 aA rfl
theorem arG:aH Tryz.prog 58:=aN func58 aA rfl
theorem arH:aH Tryz.prog 61:=aN func61 aA rfl
theorem arI:aH Tryz.prog 71:=aN func71 aA rfl
theorem apq:aH Tryz.prog 73:=aN func73 aA rfl
theorem arJ:aH Tryz.prog 80:=aN func80 aA rfl
theorem apr:aH Tryz.prog 84:=aN func84 aA rfl
theorem arK:aH Tryz.prog 91:=aN func91 aA rfl
theorem aps:aH Tryz.prog 92:=aN func92 aA rfl
theorem ajB:aH Tryz.prog 111:=aN func111 aA rfl
theorem aoJ:aH Tryz.prog 118:=aN func118 aA rfl
theorem ajC:aH Tryz.prog 119:=aN func119 aA rfl
theorem ajD:aH Tryz.prog 122:=aN func122 aA rfl
theorem aoK:aH Tryz.prog 124:=aN func124 aA rfl
theorem Ul:aH Tryz.prog 128:=aN func128 aA rfl
theorem aoL:aH Tryz.prog 129:=aN func129 aA rfl
theorem aoM:aH Tryz.prog 130:=aN func130 aA rfl
theorem aoN:aH Tryz.prog 141:=aN func141 aA rfl
theorem aoO:aH Tryz.prog 142:=aN func142 aA rfl
theorem ajE:aH Tryz.prog 152:=aN func152 aA rfl
theorem Dm:aH Tryz.prog 153:=aN func153 aA rfl
theorem aoP:aH Tryz.prog 154:=aN func154 aA rfl
theorem ajF:aH Tryz.prog 156:=aN func156 aA rfl
theorem aoQ:aH Tryz.prog 157:=aN func157 aA rfl
theorem aoR:aH Tryz.prog 158:=aN func158 aA rfl
theorem aoT:aH Tryz.prog 177:=aN func177 aA rfl
theorem Um:aH Tryz.prog 178:=aN func178 aA rfl
theorem abp:aH Tryz.prog 179:=aN func179 aA rfl
theorem ajG:aH Tryz.prog 180:=aN func180 aA rfl
theorem aoU:aH Tryz.prog 181:=aN func181 aA rfl
theorem ajH:aH Tryz.prog 183:=aN func183 aA rfl
theorem aoV:aH Tryz.prog 186:=aN func186 aA rfl
theorem ajI:aH Tryz.prog 188:=aN func188 aA rfl
theorem ajJ:aH Tryz.prog 192:=aN func192 aA rfl
theorem aoW:aH Tryz.prog 198:=aN func198 aA rfl
theorem aoX:aH Tryz.prog 201:=aN func201 aA rfl
theorem ajK:aH Tryz.prog 203:=aN func203 aA rfl
theorem aoY:aH Tryz.prog 204:=aN func204 aA rfl
theorem abq:aH Tryz.prog 205:=aN func205 aA rfl
theorem aoZ:aH Tryz.prog 207:=aN func207 aA rfl
theorem ao0:aH Tryz.prog 209:=aN func209 aA rfl
theorem Un:aH Tryz.prog 212:=aN func212 aA rfl
theorem ajL:aH Tryz.prog 213:=aN func213 aA rfl
theorem Uo:aH Tryz.prog 219:=aN func219 aA rfl
theorem ao1:aH Tryz.prog 220:=aN func220 aA rfl
theorem ao2:aH Tryz.prog 221:=aN func221 aA rfl
theorem ao3:aH Tryz.prog 224:=aN func224 aA rfl
theorem ao4:aH Tryz.prog 225:=aN func225 aA rfl
theorem ao5:aH Tryz.prog 226:=aN func226 aA rfl
theorem ao6:aH Tryz.prog 227:=aN func227 aA rfl
theorem ao7:aH Tryz.prog 235:=aN func235 aA rfl
theorem ajM:aH Tryz.prog 238:=aN func238 aA rfl
theorem ao8:aH Tryz.prog 242:=aN func242 aA rfl
theorem ao9:aH Tryz.prog 243:=aN func243 aA rfl
theorem ao_:aH Tryz.prog 244:=aN func244 aA rfl
theorem ao':aH Tryz.prog 247:=aN func247 aA rfl
theorem ajN:aH Tryz.prog 248:=aN func248 aA rfl
theorem apa:aH Tryz.prog 250:=aN func250 aA rfl
theorem apb:aH Tryz.prog 264:=aN func264 aA rfl
theorem apc:aH Tryz.prog 267:=aN func267 aA rfl
theorem apd:aH Tryz.prog 268:=aN func268 aA rfl
theorem ape:aH Tryz.prog 272:=aN func272 aA rfl
theorem ajO:aH Tryz.prog 276:=aN func276 aA rfl
theorem apf:aH Tryz.prog 299:=aN func299 aA rfl
theorem apg:aH Tryz.prog 302:=aN func302 aA rfl
theorem aph:aH Tryz.prog 303:=aN func303 aA rfl
theorem api:aH Tryz.prog 311:=aN func311 aA rfl
theorem Up:aH Tryz.prog 315:=aN func315 aA rfl
theorem apj:aH Tryz.prog 316:=aN func316 aA rfl
theorem apk:aH Tryz.prog 317:=aN func317 aA rfl
theorem apl:aH Tryz.prog 320:=aN func320 aA rfl
theorem apm:aH Tryz.prog 325:=aN func325 aA rfl
theorem apn:aH Tryz.prog 329:=aN func329 aA rfl
theorem ajP:aH Tryz.prog 330:=aN func330 aA rfl
theorem abr:aH Tryz.prog 340:=aN func340 aA rfl
theorem abt:aH Tryz.prog 341:=aN func341 aA rfl
section
theorem aj9:type_of% @List.Sublist.refl:= @List.Sublist.refl
theorem NM:type_of% @List.nil_sublist:= @List.nil_sublist
theorem gy:type_of% @List.sublist_append_right:= @List.sublist_append_right
theorem eK:type_of% @List.length_map:= @List.length_map
theorem x8:type_of% @List.all_eq_true:= @List.all_eq_true
theorem tY:type_of% @List.getElem_mem:= @List.getElem_mem
theorem q9:type_of% @List.take_succ_cons:= @List.take_succ_cons
theorem Em:type_of% @List.drop_succ_cons:= @List.drop_succ_cons
inductive Hd(Q:Prop):Prop where
 |mk (x:Q):Hd Q
theorem Hd.x{Q:Prop}:Hd Q→Q
 |⟨x⟩=>x
theorem aV{c:Ch}{L:aP}{f:Ch→aP}(h:mC c L f:=by((repeat (first|exact .hd|apply mC.tl));(first|done|fail))):mC c L f:=h
theorem aB{B:Nat}{w0:World}{L:aP}{size:Nat}{v:Value}{n:Nat}{xs:cV}(h:aJ B w0 L size v n xs:=by first|(exact aJ.own (by repeat (first|exact List.Mem.head _|apply List.Mem.tail)))|((repeat (first|assumption|apply aJ.cons));(first|done|fail))):aJ B w0 L size v n xs:=h
theorem gF{α:Type}{S L:List α}(h:S.Sublist L:=by((repeat (first|exact aj9 _|exact NM _|exact gy _ _|apply List.Sublist.cons_cons|apply List.Sublist.cons));(first|done|fail))):S.Sublist L:=h
theorem cw{xs:cV}(h:∀u∈xs,u.oneCell'=true:=by first|exact qs _|exact aeN _|exact Ei _ _|(simp;(first|done|fail))|(simp[Value.oneCell'];(first|done|fail))|assumption):∀u∈xs,u.oneCell'=true:=h
theorem bp{fr jC:Fr}(h:Sub fr jC:=by((repeat (first|exact trivial|(refine⟨by first|rfl|exact ame (by omega)|exact aq4 (by omega),?_⟩)));(first|done|fail))):Sub fr jC:=h
def okF(P:Program)(f:FuncId):Bool:=match P.funcs[f]? with|some fn=> !(fn.name== "runtime.NumGoroutine")&&fn.body.isSome|none=>false
theorem adM{P:Program}{f:FuncId}(h:okF P f=true):aH P f:=by
 unfold okF at h;split at h
 ·rename_i fn hf;rw[zZ]at h;exact aN hf (by simpa using h.1) h.2
 ·cases h
def aqz(P:Program)(t:TypeId):Bool:=match P.underlying t with|some (.slice _)=>true|_=>false
def isStr(P:Program)(t:TypeId):Bool:=match P.underlying t with|some .string=>true|_=>false
def aqy(P:Program)(t:TypeId):Bool:=match P.underlying t with|some (.pointer e)=>Nat.beq e (P.pointee t)|_=>false
def isK(P:Program)(t:TypeId)(k:IntKind):Bool:=match P.underlying t with|some (.int k')=>decide (k'=k)|_=>false
def ac7(P:Program)(t:TypeId)(n:Nat):Bool:=match P.underlying t with|some (.slice e)=>(match P.info? e with|some i=>Nat.beq i.size n|none=>false)|_=>false
section
variable{C:Cx}{Q:Exit→Fr→aP→Prop}{fr jC:Fr}{L L':aP}{ops:Array Oper}{l:sA}{op:Op}{ty t:TypeId}{pos:String}{af:Array Edge}{d g o:Nat}{v:Value}{x y:Operand}{A:bj}{n c:Nat}{k:IntKind}{m:Int}
theorem aqx(h:isK C.P t k=true):C.P.underlying t=some (.int k):=by
 unfold isK at h;split at h
 ·rename_i hu;rw[hu,Eu h]
 ·cases h
theorem aj8(h:aqy C.P t=true):C.P.underlying t=some (.pointer (C.P.pointee t)):=by
 unfold aqy at h;split at h
 ·rename_i hu;rw[hu,ri h]
 ·cases h
theorem amg(h:ac7 C.P t n=true):∃e,C.P.underlying t=some (.slice e)∧(C.P.info? e).map (·.size)=some n:=by
 unfold ac7 at h;split at h
 ·rename_i e hu;refine⟨e,hu,?_⟩;split at h
  ·rename_i i hi;rw[hi,←ri h];rfl
  ·cases h
 ·cases h
theorem X9(h:aqz C.P t=true)(he:ev fr x=some (.slice A n c)):gI C fr L (.call {callee:=.builtin .len,args:= #[x],argTypes:= #[t]}) ty (ah (n:Int)):=by
 unfold aqz at h;split at h
 ·rename_i e hu;exact pb hu he
 ·cases h
theorem ab9{s:al}(h:isStr C.P t=true)(he:ev fr x=some (.string ⟨s.toArray⟩)):gI C fr L (.call {callee:=.builtin .len,args:= #[x],argTypes:= #[t]}) ty (ah (s.length:Int)):=by
 unfold isStr at h;split at h
 ·rename_i hu;exact XG hu he
 ·cases h
theorem apJ{i:Nat}{xs:cV}(he:ev fr x=some (.slice A n c))(h2:ev fr y=some (.int k m))(hm:m=(i:Int)){size:Nat}(hb:aJ C.B C.w0 L size (.slice A n c) n xs)(hz:ac7 C.P t size=true)(hi:i<n):
  gI C fr L (.indexAddr t x y) ty (.pointer (A.map (·.add (i*size)))):=by
 obtain⟨e,h1,h3⟩:=amg hz;exact aC h1 h3 he h2 hm hi hb
def ahR(t i:Nat):List (Nat×bf)→Option Nat
 |[]=>none
 |(s,q)::r=>bif Nat.beq s t then q[i]? else ahR t i r
def ym{α:Type}(t:Nat):List (Nat×α)→Option α
 |[]=>none
 |(s,q)::r=>bif Nat.beq s t then some q else ym t r
def ahP(t:Nat):bf→Bool
 |[]=>false
 |s::r=>bif Nat.beq s t then true else ahP t r
def aqA:List (Nat×IntKind):=[(3,.i64),(5,.u8),(57,.u16),(60,.u64),(135,.u32),(192,.u64),(398,.u64)]
def aqX:bf:=[3,4,5,9,24,27,28,52,53,57,60,87,88,101,106,135,140,159,176,183,186,213,242,278,290,298,392,398,436]
def anK:List (Nat×Nat):=[(23,6),(41,5),(62,4),(83,4),(90,2),(161,2),(166,4),(170,3),(195,3),(217,1),(235,3),(272,3),(283,2),(303,16),(350,3),(366,1),(382,256),(397,2),(426,16)]
theorem W2:anK.all (fun q=>pj Tryz.prog q.1 q.2)=true:=by kernel_rfl
theorem ahJ:aqA.all (fun q=>isK Tryz.prog q.1 q.2)=true:=by kernel_rfl
theorem aiH:aqX.all (pU Tryz.prog)=true:=by kernel_rfl
theorem yn{α:Type}{p:Nat→α→Bool}{k:α}:∀l:List (Nat×α),l.all (fun q=>p q.1 q.2)=true→ym t l=some k→p t k=true
 |[],_,h=>by cases h
 |(s,r)::l,ha,h=>by
  simp only[List.all_cons,zZ]at ha;unfold ym at h;cases hb:Nat.beq s t with
  |true=>
   rw[hb,GV]at h;injection h with h;rw[←ri hb,←h];exact ha.1
  |false=>rw[hb,cond_false]at h;exact yn l ha.2 h
theorem Vw{p:Nat→Bool}:∀l:bf,l.all p=true→ahP t l=true→p t=true
 |[],_,h=>by cases h
 |s::l,ha,h=>by
  simp only[List.all_cons,zZ]at ha;unfold ahP at h;cases hb:Nat.beq s t with
  |true=>rw[←ri hb];exact ha.1
  |false=>rw[hb,cond_false]at h;exact Vw l ha.2 h
theorem apK{N B:Nat}{w0:World}{bt:TypeId}{cs:cV}{f:Ch→aP}(h:ahP t aqX=true)(he:ev fr x=some (.pointer (some ⟨g,o,none⟩)))(hm:mC (.bD g bt cs) L f)(hv:cs[o]? =some v):gI ⟨Tryz.prog,N,B,w0⟩ fr L (.load t x) ty v:=bM (Vw (p:=pU Tryz.prog) _ aiH h) he hm hv
theorem ab_{N B:Nat}{w0:World}{cs:cV}{f:Ch→aP}{bt:TypeId}{kk:Nat}(h:ym t anK=some kk)(he:ev fr x=some (br g))(hm:mC (.bD g bt cs) L f)(hk:cs.length=kk):gI ⟨Tryz.prog,N,B,w0⟩ fr L (.load t x) ty (.agg cs.toArray):=Dy (C:=⟨Tryz.prog,N,B,w0⟩) kk (yn (p:=pj Tryz.prog) _ W2 h) he hm hk
theorem ab8{s:TypeId}{k':IntKind}(hs:isK C.P s k=true)(ht:isK C.P t k'=true)(he:ev fr x=some (.int k m))(hr:k'.wrap m=m):gI C fr L (.convert s t x) ty (.int k' m):=bm (aqx hs) (aqx ht) he hr
theorem ahf{N B:Nat}{w0:World}{s:TypeId}{k':IntKind}(ht:ym t aqA=some k')(he:ev fr x=some (.int k m))(hr:k'.wrap m=m)(hs:isK Tryz.prog s k=true):gI ⟨Tryz.prog,N,B,w0⟩ fr L (.convert s t x) ty (.int k' m):=ab8 (C:=⟨Tryz.prog,N,B,w0⟩) hs (yn (p:=isK Tryz.prog) _ ahJ ht) he hr
def ah9(P:Program)(t:TypeId):bf:=match P.underlying t with
 |some (.struct fs)=>bif fs.toList.all (fun fd=>By P fd.type) then fs.toList.map (·.offset) else []
 |_=>[]
def apy:List (Nat×bf):=[(23,[0,1,2,3,4,5]),(41,[0,1,2,3,4]),(59,[0,1]),(62,[0,1,2,3]),(69,[0,5,11]),(83,[0,1,2,3]),(90,[0,1]),(108,[0,1,2]),(119,[0,6,7]),(154,[0,1,2]),(161,[0,1]),(166,[0,1,2,3]),(170,[0,1,2]),(179,[0,1]),(185,[0,1]),(188,[0,4,6,8,9]),(195,[0,1,2]),(205,[0,1,2,8,9]),(217,[0]),(235,[0,1,2]),(237,[0,1]),(239,[0]),(249,[0,1]),(256,[0,1]),(258,[0,2]),(272,[0,1,2]),(280,[0,3,4,5]),(283,[0,1]),(292,[0,2,3]),(300,[0,1]),(343,[0,1]),(347,[0,2,18,34]),(366,[0]),(369,[0]),(371,[0,1,2]),(379,[0,1,2,3,4]),(397,[0,1]),(405,[0]),(419,[0]),(421,[0,3]),(451,[0,2]),(455,[0,1,2])]
theorem ag7:apy.all (fun q=>decide (ah9 Tryz.prog q.1=q.2))=true:=by kernel_rfl
theorem M8{p:Nat→bf}{i q:Nat}:∀l:List (Nat×bf),l.all (fun q=>decide (p q.1=q.2))=true→ahR t i l=some q→(p t)[i]? =some q
 |[],_,h=>by cases h
 |(s,r)::l,ha,h=>by
  simp only[List.all_cons,zZ]at ha;unfold ahR at h;cases hb:Nat.beq s t with
  |true=>
   rw[hb,GV]at h;rw[←ri hb,Eu ha.1];exact h
  |false=>rw[hb,cond_false]at h;exact M8 l ha.2 h
theorem alB{i q p:Nat}(h:(ah9 C.P t)[i]? =some q)(he:ev fr x=some (.pointer (some ⟨g,o,none⟩)))(hq:o+q=p):gI C fr L (.fieldAddr t x i) ty (.pointer (some ⟨g,p,none⟩)):=by
 unfold ah9 at h;split at h
 ·rename_i fs hu;cases hb:fs.toList.all (fun fd=>By C.P fd.type)with
  |false=>rw[hb]at h;cases h
  |true=>
   rw[hb,GV]at h;obtain⟨hi,Rz⟩:=zY.1 h;simp only[eK,Ev]at hi Rz;have hm:=x8.1 hb _ (tY hi);refine Dw (fs:=fs) (fd:=fs.toList[i]) hu ?_ hm he (by rw[Rz];exact hq);simp
 ·cases h
theorem apH{N B:Nat}{w0:World}{i q p:Nat}(h:ahR t i apy=some q)(he:ev fr x=some (.pointer (some ⟨g,o,none⟩)))(hq:o+q=p):gI ⟨Tryz.prog,N,B,w0⟩ fr L (.fieldAddr t x i) ty (.pointer (some ⟨g,p,none⟩)):=
 alB (C:=⟨Tryz.prog,N,B,w0⟩) (M8 (p:=ah9 Tryz.prog) _ ag7 h) he hq
end
theorem dt{p:Prop}(h:p:=by first
 |(with_reducible apply dV);exact rfl
 |(with_reducible apply lE);exact rfl
 |(with_reducible apply apH)<;>exact rfl
 |(with_reducible apply JV);exact rfl
 |(with_reducible apply MJ)<;>exact rfl
 |(with_reducible apply apK);exact rfl;exact rfl;exact aV;exact rfl
 |(with_reducible apply X9);kernel_rfl;exact rfl
 |(with_reducible apply ag0)<;>exact rfl
 |(with_reducible apply xI)<;>exact rfl
 |(with_reducible apply agW)<;>exact rfl
 |(with_reducible apply agY)<;>exact rfl
 |(with_reducible apply agZ)<;>exact rfl
 |(with_reducible apply agX)<;>exact rfl
 |(with_reducible apply QK)<;>exact rfl
 |(with_reducible apply QL)<;>exact rfl
 |(with_reducible apply zt)<;>exact rfl
 |(with_reducible apply zr)<;>exact rfl
 |(with_reducible apply bY);exact rfl;exact rfl;exact bE (by omega) (by omega)
 |(with_reducible apply dw);exact rfl;exact rfl;exact bE (by omega) (by omega)
 |(with_reducible apply eZ);exact rfl;exact rfl;exact bE (by omega) (by omega)
 |(with_reducible apply apJ);exact rfl;exact rfl;exact rfl;exact aB;kernel_rfl;omega
 |(with_reducible apply ab_);exact rfl;exact rfl;exact aV;(first|rfl|(simp;omega)|(simp[*];first|done|fail))
 |(with_reducible apply jo);kernel_rfl;exact rfl;exact aB;omega
 |(with_reducible apply JS);kernel_rfl;exact rfl;exact aB;omega
 |(with_reducible apply gQ);kernel_rfl;exact rfl;exact aB;omega
 |(with_reducible apply Gx);kernel_rfl;exact rfl;exact aB;omega
 |(with_reducible apply ab9);kernel_rfl;exact rfl
 |(with_reducible apply ahf);exact rfl;exact rfl;(first|exact bE (by omega) (by omega)|exact f_ (by omega) (by omega)|exact aat (by omega) (by omega)|exact akI (by omega) (by omega));kernel_rfl
 |(with_reducible apply ML);exact aj8 (by kernel_rfl);exact rfl;exact rfl
 |(with_reducible apply JW);exact aj8 (by kernel_rfl);exact rfl;exact rfl
 |(with_reducible apply XH)<;>exact rfl
 |(with_reducible apply HW)<;>exact rfl
 |(with_reducible apply JT)<;>exact rfl
 |exact abA rfl):p:=h
theorem apO{N B:Nat}{w0:World}{fr:Fr}{L:aP}{ty t bt:TypeId}{x y:Operand}{g kk:Nat}{cs us:cV}{f:Ch→aP}(h:ym t anK=some kk)(he:ev fr x=some (br g))(hv:ev fr y=some (.agg us.toArray))(h1:∀u∈us,u.oneCell'=true)(hm:mC (.bD g bt cs) L f)(hk:cs.length=kk)(hu:us.length=kk):
 qp ⟨Tryz.prog,N,B,w0⟩ fr L (.store t x y) ty (fun p L'=>L'=f (.bD g bt us)):=nQ (C:=⟨Tryz.prog,N,B,w0⟩) kk (yn (p:=pj Tryz.prog) _ W2 h) he hv h1 hm hk hu
theorem ajZ{p:Prop}(h:p:=by first
 |exact GA (by kernel_rfl) rfl rfl aV (by first|omega|(simp;(first|done|fail))|(simp;omega))
 |exact oC (by kernel_rfl) rfl rfl rfl aV (by simp;(first|done|fail))
 |exact iK (by kernel_rfl) rfl rfl rfl aV (by first|omega|(simp;(first|done|fail))|(simp;omega))
 |exact apO rfl rfl rfl cw aV (by first|rfl|(simp;omega)|(simp[*];(first|done|fail))) (by first|rfl|(simp;omega)|(simp[*];(first|done|fail)))):p:=h
section
variable{C:Cx}{Q:Exit→Fr→aP→Prop}{fr jC:Fr}{L L' S:aP}{ops:Array Oper}{l:sA}{op:Op}{ty t:TypeId}{pos:String}{af:Array Edge}{d g o:Nat}{v:Value}{x y:Operand}{fuel:Nat}{li:Array Bool}{ar:List Operand}{Cq:Array TypeId}{vs:cV}{f:FuncId}{gu:Option (Nat×Bool)}{i:Nat}
theorem ai{v:Value}{L1:aP}(he:B9 fr ar=some vs)(h:dL C.P C.B C.w0 f vs L (fun r M=>r=v∧M=L1))(k:VL C ops Q l ((d,v)::fr) L1)(hc:aH C.P f:=by exact adM (by kernel_rfl))(hd:Nat.blt d C.N=true:=by exact rfl):
 VL C ops Q (⟨some d,.call {callee:=.value (.func f),args:=ar.toArray,argTypes:=Cq},ty,pos,af,none⟩::l) fr L:=aX hc he h hd fun v L' ⟨h1,h2⟩=>by subst h1;subst h2;exact k
theorem ay{α β:Type}{v:α→β→Value}{L1:α→β→aP}(he:B9 fr ar=some vs)(h:dL C.P C.B C.w0 f vs L (fun r M=>∃a b,r=v a b∧M=L1 a b))(k:∀a b,VL C ops Q l ((d,v a b)::fr) (L1 a b))(hc:aH C.P f:=by exact adM (by kernel_rfl))(hd:Nat.blt d C.N=true:=by exact rfl):
 VL C ops Q (⟨some d,.call {callee:=.value (.func f),args:=ar.toArray,argTypes:=Cq},ty,pos,af,none⟩::l) fr L:=aX hc he h hd fun v L' ⟨a,b,h1,h2⟩=>by subst h1;subst h2;exact k a b
theorem dX{α β γ:Type}{v:α→β→γ→Value}{L1:α→β→γ→aP}(he:B9 fr ar=some vs)(h:dL C.P C.B C.w0 f vs L (fun r M=>∃a b e,r=v a b e∧M=L1 a b e))(k:∀a b e,VL C ops Q l ((d,v a b e)::fr) (L1 a b e))(hc:aH C.P f:=by exact adM (by kernel_rfl))(hd:Nat.blt d C.N=true:=by exact rfl):
 VL C ops Q (⟨some d,.call {callee:=.value (.func f),args:=ar.toArray,argTypes:=Cq},ty,pos,af,none⟩::l) fr L:=aX hc he h hd fun v L' ⟨a,b,e,h1,h2⟩=>by subst h1;subst h2;exact k a b e
theorem kJ{L1:aP}(h:qp C fr L op ty (fun p M=>M=L1))(k:VL C ops Q l fr L1):VL C ops Q (⟨none,op,ty,pos,af,none⟩::l) fr L:=ajo h fun v L' h1=>by subst h1;exact k
theorem cC{α:Type}{v:α→Value}{L1:α→aP}(h:qp C fr L op ty (fun p M=>∃a,p=v a∧M=L1 a))(k:∀a,VL C ops Q l ((d,v a)::fr) (L1 a))(hd:Nat.blt d C.N=true:=by exact rfl):VL C ops Q (⟨some d,op,ty,pos,af,none⟩::l) fr L:=lL h hd fun v L' ⟨a,h1,h2⟩=>by subst h1;subst h2;exact k a
theorem fN{α β:Type}{v:α→β→Value}{L1:α→β→aP}(h:qp C fr L op ty (fun p M=>∃a b,p=v a b∧M=L1 a b))(k:∀a b,VL C ops Q l ((d,v a b)::fr) (L1 a b))(hd:Nat.blt d C.N=true:=by exact rfl):VL C ops Q (⟨some d,op,ty,pos,af,none⟩::l) fr L:=lL h hd fun v L' ⟨a,b,h1,h2⟩=>by subst h1;subst h2;exact k a b
theorem bh{cs:cV}{e:TypeId}(k:∀g,VL C ops Q l ((d,br g)::fr) (.bD g e cs::L))(he:ev fr x=some v:=by exact rfl)(hc:v.cells=cs.toArray:=by exact rfl)(hd:Nat.blt d C.N=true:=by exact rfl):VL C ops Q (⟨some d,.box e x,ty,pos,af,none⟩::l) fr L:=cC (UG he hc) k hd
def akN(P:Program):List (Nat×Value)→Prop
 |[]=>True
 |q::r=>(P.info? q.1).bind (·.zero)=some q.2∧akN P r
def ari:List (Nat×Value):=[(3,ah 0),(4,.bool false),(9,.string ⟨#[]⟩),(23,.agg #[ah 0,.bool false,ah 0,ah 0,ah 0,ah 0]),(27,.slice none 0 0),(41,.agg #[ah 0,ah 0,ah 0,ah 0,.bool false]),(52,.slice none 0 0),(60,.int .u64 0),(62,.agg #[.int .u64 0,.int .u8 0,.string ⟨#[]⟩,.string ⟨#[]⟩]),(83,.agg #[.slice none 0 0,.slice none 0 0,ah 0,ah 0]),(87,.slice none 0 0),(90,.agg #[.slice none 0 0,.slice none 0 0]),(161,.agg #[.slice none 0 0,.slice none 0 0]),(166,.agg #[ah 0,ah 0,ah 0,ah 0]),(170,.agg #[.int .u8 0,ah 0,ah 0]),(186,.slice none 0 0),(195,.agg #[ah 0,ah 0,ah 0]),(217,.agg #[.slice none 0 0]),(235,.agg #[ah 0,.slice none 0 0,.slice none 0 0]),(239,.agg #[.slice none 0 0,ah 0]),(272,.agg #[ah 0,ah 0,.slice none 0 0]),(350,.agg #[.int .u8 0,.int .u8 0,.int .u8 0]),(366,.agg #[.pointer none]),(382,.agg #[.int .u8 0,.int .u8 0,.int .u8 0,.int .u8 0,.int .u8 0,.int .u8 0,.int .u8 0,.int .u8 0,.int .u8 0,.int .u8 0,.int .u8 0,.int .u8 0,.int .u8 0,.int .u8 0,.int .u8 0,.int .u8 0,.int .u8 0,.int .u8 0,.int .u8 0,.int .u8 0,.int .u8 0,.int .u8 0,.int .u8 0,.int .u8 0,.int .u8 0,.int .u8 0,.int .u8 0,.int .u8 0,.int .u8 0,.int .u8 0,.int .u8 0,.int .u8 0,.int .u8 0,.int .u8 0,.int .u8 0,.int .u8 0,.int .u8 0,.int .u8 0,.int .u8 0,.int .u8 0,.int .u8 0,.int .u8 0,.int .u8 0,.int .u8 0,.int .u8 0,.int .u8 0,.int .u8 0,.int .u8 0,.int .u8 0,.int .u8 0,.int .u8 0,.int .u8 0,.int .u8 0,.int .u8 0,.int .u8 0,.int .u8 0,.int .u8 0,.int .u8 0,.int .u8 0,.int .u8 0,.int .u8 0,.int .u8 0,.int .u8 0,.int .u8 0,.int .u8 0,.int .u8 0,.int .u8 0,.int .u8 0,.int .u8 0,.int .u8 0,.int .u8 0,.int .u8 0,.int .u8 0,.int .u8 0,.int .u8 0,.int .u8 0,.int .u8 0,.int .u8 0,.int .u8 0,.int .u8 0,.int .u8 0,.int .u8 0,.int .u8 0,.int .u8 0,.int .u8 0,.int .u8 0,.int .u8 0,.int .u8 0,.int .u8 0,.int .u8 0,.int .u8 0,.int .u8 0,.int .u8 0,.int .u8 0,.int .u8 0,.int .u8 0,.int .u8 0,.int .u8 0,.int .u8 0,.int .u8 0,.int .u8 0,.int .u8 0,.int .u8 0,.int .u8 0,.int .u8 0,.int .u8 0,.int .u8 0,.int .u8 0,.int .u8 0,.int .u8 0,.int .u8 0,.int .u8 0,.int .u8 0,.int .u8 0,.int .u8 0,.int .u8 0,.int .u8 0,.int .u8 0,.int .u8 0,.int .u8 0,.int .u8 0,.int .u8 0,.int .u8 0,.int .u8 0,.int .u8 0,.int .u8 0,.int .u8 0,.int .u8 0,.int .u8 0,.int .u8 0,.int .u8 0,.int .u8 0,.int .u8 0,.int .u8 0,.int .u8 0,.int .u8 0,.int .u8 0,.int .u8 0,.int .u8 0,.int .u8 0,.int .u8 0,.int .u8 0,.int .u8 0,.int .u8 0,.int .u8 0,.int .u8 0,.int .u8 0,.int .u8 0,.int .u8 0,.int .u8 0,.int .u8 0,.int .u8 0,.int .u8 0,.int .u8 0,.int .u8 0,.int .u8 0,.int .u8 0,.int .u8 0,.int .u8 0,.int .u8 0,.int .u8 0,.int .u8 0,.int .u8 0,.int .u8 0,.int .u8 0,.int .u8 0,.int .u8 0,.int .u8 0,.int .u8 0,.int .u8 0,.int .u8 0,.int .u8 0,.int .u8 0,.int .u8 0,.int .u8 0,.int .u8 0,.int .u8 0,.int .u8 0,.int .u8 0,.int .u8 0,.int .u8 0,.int .u8 0,.int .u8 0,.int .u8 0,.int .u8 0,.int .u8 0,.int .u8 0,.int .u8 0,.int .u8 0,.int .u8 0,.int .u8 0,.int .u8 0,.int .u8 0,.int .u8 0,.int .u8 0,.int .u8 0,.int .u8 0,.int .u8 0,.int .u8 0,.int .u8 0,.int .u8 0,.int .u8 0,.int .u8 0,.int .u8 0,.int .u8 0,.int .u8 0,.int .u8 0,.int .u8 0,.int .u8 0,.int .u8 0,.int .u8 0,.int .u8 0,.int .u8 0,.int .u8 0,.int .u8 0,.int .u8 0,.int .u8 0,.int .u8 0,.int .u8 0,.int .u8 0,.int .u8 0,.int .u8 0,.int .u8 0,.int .u8 0,.int .u8 0,.int .u8 0,.int .u8 0,.int .u8 0,.int .u8 0,.int .u8 0,.int .u8 0,.int .u8 0,.int .u8 0,.int .u8 0,.int .u8 0,.int .u8 0,.int .u8 0,.int .u8 0,.int .u8 0,.int .u8 0,.int .u8 0,.int .u8 0,.int .u8 0,.int .u8 0,.int .u8 0,.int .u8 0,.int .u8 0,.int .u8 0,.int .u8 0,.int .u8 0,.int .u8 0,.int .u8 0,.int .u8 0,.int .u8 0,.int .u8 0,.int .u8 0]),(397,.agg #[.int .u64 0,.bool false]),(398,.int .u64 0),(426,.agg #[ah 0,ah 0,ah 0,ah 0,ah 0,ah 0,ah 0,ah 0,ah 0,ah 0,ah 0,ah 0,ah 0,ah 0,ah 0,ah 0]),(430,.agg #[ah 0,ah 0,ah 0,ah 0,ah 0,ah 0,ah 0,ah 0,ah 0,ah 0,ah 0,ah 0,ah 0,ah 0,ah 0,ah 0,ah 0])]
theorem aju:akN Tryz.prog ari:=⟨by kernel_rfl,by kernel_rfl,by kernel_rfl,by kernel_rfl,by kernel_rfl,by kernel_rfl,by kernel_rfl,by kernel_rfl,by kernel_rfl,by kernel_rfl,by kernel_rfl,by kernel_rfl,by kernel_rfl,by kernel_rfl,by kernel_rfl,by kernel_rfl,by kernel_rfl,by kernel_rfl,by kernel_rfl,by kernel_rfl,by kernel_rfl,by kernel_rfl,by kernel_rfl,by kernel_rfl,by kernel_rfl,by kernel_rfl,by kernel_rfl,by kernel_rfl,trivial⟩
theorem W5{P:Program}{t:TypeId}{v:Value}:∀l:List (Nat×Value),akN P l→ym t l=some v→(P.info? t).bind (·.zero)=some v
 |[],_,h=>by cases h
 |(s,r)::l,ha,h=>by
  unfold ym at h;cases hb:Nat.beq s t with
  |true=>
   rw[hb,GV]at h;injection h with h;rw[←ri hb,←h];exact ha.1
  |false=>rw[hb,cond_false]at h;exact W5 l ha.2 h
theorem bc{N B:Nat}{w0:World}{zv:Value}{cs:cV}{e:TypeId}(k:∀g,VL ⟨Tryz.prog,N,B,w0⟩ ops Q l ((d,br g)::fr) (.bD g e cs::L))(hz:ym e ari=some zv:=by exact rfl)(hc:zv.cells=cs.toArray:=by exact rfl)(hd:Nat.blt d N=true:=by exact rfl):VL ⟨Tryz.prog,N,B,w0⟩ ops Q (⟨some d,.alloc e,ty,pos,af,none⟩::l) fr L:=cC (C:=⟨Tryz.prog,N,B,w0⟩) (MV (W5 _ aju hz) hc) k hd
theorem aj{tt:Nat}{cd F9:Code}{p:Prop}[Decidable p](ht:p→VC C cd Q ((tt,.bool true)::fr) L)(hf:¬p→VC C F9 Q ((tt,.bool false)::fr) L)(hc:look tt fr=some (.bool (decide p)):=by exact rfl):VC C (.cond (.tmp tt) cd F9) Q fr L:=w9 hc ht hf
theorem gD{tt:Nat}{cd F9:Code}{b:Bool}(ht:b=true→VC C cd Q ((tt,.bool true)::fr) L)(hf:b=false→VC C F9 Q ((tt,.bool false)::fr) L)(hc:look tt fr=some (.bool b):=by exact rfl):VC C (.cond (.tmp tt) cd F9) Q fr L:=afM hc ht hf
theorem dm{tt:Nat}{cd F9:Code}{p:Prop}[Decidable p](hf:¬p→VC C F9 Q ((tt,.bool false)::fr) L)(hc:look tt fr=some (.bool (decide p)):=by exact rfl)(hp:¬p:=by(intro h;exfalso;omega)):VC C (.cond (.tmp tt) cd F9) Q fr L:=w9 hc (fun h=>absurd h hp) hf
theorem zG{tt:Nat}{cd F9:Code}{p:Prop}[Decidable p](ht:p→VC C cd Q ((tt,.bool true)::fr) L)(hc:look tt fr=some (.bool (decide p)):=by exact rfl)(hp:¬p→False:=by(intro h;exfalso;omega)):VC C (.cond (.tmp tt) cd F9) Q fr L:=w9 hc ht (fun h=>(hp h).elim)
theorem aU{cd:Code}(hs:Sub fr jC)(hp:Wk L L')(k:VC C cd Q jC L'):VC C cd Q fr L:=Bc _ hs (wg hp k)
theorem cP{j t:Nat}{dd:Nat}{p:Prop}[Decidable p](k1:p→VL C ops Q (⟨some dd,op,ty,pos,af,none⟩::l) ((t,.bool true)::fr) L)(k2:¬p→VL C ops Q l ((dd,undef)::(t,.bool false)::fr) L)(hj:(ops[j]?).bind (·.dst)=some t:=by exact rfl)(ht:look t fr=some (.bool (decide p)):=by exact rfl)(hd:Nat.blt dd C.N=true:=by exact rfl):VL C ops Q (⟨some dd,op,ty,pos,af,some (j,true)⟩::l) fr L:=aao hj ht hd k1 k2
theorem zF(h:Gd ops fr gu:=by first|exact .no|exact .yes rfl rfl):Gd ops fr gu:=h
theorem cF(S:aP){id:Nat}{l:sA}(h:VH C l.toArray S Q l.toArray.size (Array.replicate l.toArray.size false) fr L)(hm:C.P.follows .mixedOrders=true:=by kernel_rfl)(hS:S.Sublist L:=by exact gF):VC C (.region id l.toArray true) Q fr L:=aan hm hS h
theorem ae(i:Nat)(k:VH C ops S Q fuel (li.setIfInBounds i true) ((d,v)::fr) L)(ho:ops[i]? =some ⟨some d,op,ty,pos,af,none⟩:=by exact rfl)(hs:Region.noSelect ops=true:=by kernel_rfl)(hf:Region.free .any ops li i=true:=by kernel_rfl)(hr:(Region.ready .any ops li).contains i=true:=by kernel_rfl)(h:gI C fr S op ty v:=by exact dt)(hd:Nat.blt d C.N=true:=by exact rfl):VH C ops S Q (fuel+1) li fr L:=WY i ho hs hf hr h hd k
theorem aW(i:Nat)(ho:ops[i]? =some ⟨some d,op,ty,pos,af,none⟩)(h:gI C fr S op ty v)(k:VH C ops S Q fuel (li.setIfInBounds i true) ((d,v)::fr) L)(hs:Region.noSelect ops=true:=by kernel_rfl)(hf:Region.free .any ops li i=true:=by kernel_rfl)(hr:(Region.ready .any ops li).contains i=true:=by kernel_rfl)(hd:Nat.blt d C.N=true:=by exact rfl):VH C ops S Q (fuel+1) li fr L:=WY i ho hs hf hr h hd k
theorem az(i:Nat)(h:Step C ops S Q fuel li fr L i)(hr:Region.ready .any ops li=[i]:=by kernel_rfl):VH C ops S Q (fuel+1) li fr L:=anE i hr h
theorem gV(i j:Nat)(h1:Step C ops S Q fuel li fr L i)(h2:Step C ops S Q fuel li fr L j)(hr:Region.ready .any ops li=[i,j]:=by kernel_rfl):VH C ops S Q (fuel+1) li fr L:=anF i j hr h1 h2
theorem apM(k:VH C ops S Q fuel (li.setIfInBounds i true) ((d,v)::fr) L)(ho:ops[i]? =some ⟨some d,op,ty,pos,af,gu⟩:=by exact rfl)(hg:Gd ops fr gu:=by exact zF)(h:gI C fr L op ty v:=by exact dt)(hd:Nat.blt d C.N=true:=by exact rfl)(hS:S.Sublist L:=by exact gF):Step C ops S Q fuel li fr L i:=iL ho hg h hd hS k
theorem apN{L1:aP}(k:VH C ops S Q fuel (li.setIfInBounds i true) fr L1)(ho:ops[i]? =some ⟨none,op,ty,pos,af,gu⟩:=by exact rfl)(hg:Gd ops fr gu:=by exact zF)(h:qp C fr L op ty (fun p M=>M=L1):=by exact ajZ)(hS:S.Sublist L1:=by exact gF):Step C ops S Q fuel li fr L i:=kN ho hg h (fun v L' h=>by subst h;exact hS) (fun v L' h=>by subst h;exact k)
theorem cR{α:Type}{v:α→Value}{L1:α→aP}(ho:ops[i]? =some ⟨some d,op,ty,pos,af,gu⟩)(h:qp C fr L op ty (fun p M=>∃a,p=v a∧M=L1 a))(k:∀a,VH C ops S Q fuel (li.setIfInBounds i true) ((d,v a)::fr) (L1 a))(hg:Gd ops fr gu:=by exact zF)(hd:Nat.blt d C.N=true:=by exact rfl)(hS:∀a,S.Sublist (L1 a):=by intro _;exact gF):Step C ops S Q fuel li fr L i:=SP ho hg h hd (fun v L' ⟨a,h1,h2⟩=>by subst h2;exact hS a) (fun v L' ⟨a,h1,h2⟩=>by subst h1;subst h2;exact k a)
theorem eV{α β:Type}{v:α→β→Value}{L1:α→β→aP}(ho:ops[i]? =some ⟨some d,op,ty,pos,af,gu⟩)(h:qp C fr L op ty (fun p M=>∃a b,p=v a b∧M=L1 a b))(k:∀a b,VH C ops S Q fuel (li.setIfInBounds i true) ((d,v a b)::fr) (L1 a b))(hg:Gd ops fr gu:=by exact zF)(hd:Nat.blt d C.N=true:=by exact rfl)(hS:∀a b,S.Sublist (L1 a b):=by intro _ _;exact gF):Step C ops S Q fuel li fr L i:=SP ho hg h hd (fun v L' ⟨a,b,h1,h2⟩=>by subst h2;exact hS a b) (fun v L' ⟨a,b,h1,h2⟩=>by subst h1;subst h2;exact k a b)
theorem iW{L1:aP}(ho:ops[i]? =some ⟨some d,.call {callee:=.value (.func f),args:=ar.toArray,argTypes:=Cq},ty,pos,af,gu⟩)(he:B9 fr ar=some vs)(h:dL C.P C.B C.w0 f vs L (fun r M=>r=v∧M=L1))(k:VH C ops S Q fuel (li.setIfInBounds i true) ((d,v)::fr) L1)(hg:Gd ops fr gu:=by exact zF)(hc:aH C.P f:=by exact adM (by kernel_rfl))(hd:Nat.blt d C.N=true:=by exact rfl)(hS:S.Sublist L1:=by exact gF):Step C ops S Q fuel li fr L i:=gA ho hg hc he h hd (fun v L' ⟨h1,h2⟩=>by subst h2;exact hS) (fun v L' ⟨h1,h2⟩=>by subst h1;subst h2;exact k)
theorem bZ{α β:Type}{v:α→β→Value}{L1:α→β→aP}(ho:ops[i]? =some ⟨some d,.call {callee:=.value (.func f),args:=ar.toArray,argTypes:=Cq},ty,pos,af,gu⟩)(he:B9 fr ar=some vs)(h:dL C.P C.B C.w0 f vs L (fun r M=>∃a b,r=v a b∧M=L1 a b))(k:∀a b,VH C ops S Q fuel (li.setIfInBounds i true) ((d,v a b)::fr) (L1 a b))(hg:Gd ops fr gu:=by exact zF)(hc:aH C.P f:=by exact adM (by kernel_rfl))(hd:Nat.blt d C.N=true:=by exact rfl)(hS:∀a b,S.Sublist (L1 a b):=by intro _ _;exact gF):Step C ops S Q fuel li fr L i:=gA ho hg hc he h hd (fun v L' ⟨a,b,h1,h2⟩=>by subst h2;exact hS a b) (fun v L' ⟨a,b,h1,h2⟩=>by subst h1;subst h2;exact k a b)
theorem apI(h:Q .normal fr L)(hr:Region.ready .any ops li=[]:=by kernel_rfl):VH C ops S Q fuel li fr L:=fun a w ha hw _=>wpAnyH_done hr (show NoPanic (lift C Q) .normal a w from⟨fr,L,ha,hw,h⟩) _
theorem cQ(ks:bf)(h:Q .normal jC L)(hs:LQ fr ks jC:=by((repeat (first|exact LQ.nil|(apply LQ.cons;exact rfl)));(first|done|fail)))(hr:Region.ready .any ops li=[]:=by kernel_rfl):VH C ops S Q fuel li fr L:=ajn jC hs.sub hr h
theorem bW(n d:Nat)(ks:bf){base:Fr}{l1 l2:sA}(p:Prop)[Decidable p](h1:VL C ops (fun e fr L'=>e= .normal∧L'=L∧Sub fr base∧look d fr=some (.bool (decide p))) l1 fr L)(h2:VL C ops Q l2 ((d,.bool (decide p))::base) L)(hs:LQ fr ks base:=by((repeat (first|exact LQ.nil|(apply LQ.cons;exact rfl)));(first|done|fail)))(e1:l.take n=l1:=by simp only[q9,z_];exact rfl)(e2:l.drop n=l2:=by simp only[Em,tb];exact rfl):VL C ops Q l fr L:=anG n d base p hs.sub (e1▸h1) (e2▸h2)
theorem xW{QF:Fr→Prop}(n d:Nat)(ks:bf){base:Fr}{l1 l2:sA}(p:Prop)[Decidable p](h1:VQ C ops L (fun fr=>Sub fr base∧look d fr=some (.bool (decide p))) l1 fr)(h2:VQ C ops L QF l2 ((d,.bool (decide p))::base))(hs:LQ fr ks base:=by((repeat (first|exact LQ.nil|(apply LQ.cons;exact rfl)));(first|done|fail)))(e1:l.take n=l1:=by simp only[q9,z_];exact rfl)(e2:l.drop n=l2:=by simp only[Em,tb];exact rfl):VQ C ops L QF l fr:=anJ n d base p hs.sub (e1▸h1) (e2▸h2)
theorem aQ{base:Fr}{u:Value}(hd:look d fr=some u)(hb:Sub fr base:=by exact bp):VL C ops (fun e fr L'=>e= .normal∧L'=L∧Sub fr base∧look d fr=some u) [] fr L:=Tq hb hd
theorem nS{base:Fr}{u:Value}(hd:look d fr=some u)(hb:Sub fr base:=by exact bp):VQ C ops L (fun fr=>Sub fr base∧look d fr=some u) [] fr:=Tw hb hd
theorem arO{id:Nat}{l:sA}(h:VQ C l.toArray L (fun jC=>Q .normal jC L) l fr)(hm:C.P.follows .mixedOrders=true:=by kernel_rfl)(hB:Region.lexB .any l.toArray=true:=by kernel_rfl):VC C (.region id l.toArray true) Q fr L:=aas hm hB h
theorem apL{QF:Fr→Prop}(h:QF fr):VQ C ops L QF [] fr:=fun a ha=>wpQuiet_nil ⟨fr,ha,h⟩
end
theorem aF{P Q:Prop}(k:Q)(h:Hd Q→P:=by
 intro h;first
 |(with_reducible apply ab);exact dt;exact rfl
 |(with_reducible refine ato ?_)
 |(with_reducible refine Z0 ?_)
 |(with_reducible refine afN ?_)
 |(with_reducible refine aam ?_)
 |(with_reducible refine anD ?_)
 |(with_reducible refine ajm ?_)
 |(with_reducible refine afL ?_)
 |(with_reducible refine ajl ?_)
 |(with_reducible refine ae_ ?_)
 |(with_reducible refine ZZ ?_)
 |(with_reducible refine YC ?_)
 |(with_reducible refine amc ?_)
 |(with_reducible refine aqu ?_)
 |(with_reducible refine Y5 ?_)
 |(with_reducible refine adn ?_)
 |(with_reducible refine ac8 ?_)
 |(with_reducible refine YN ?_)
 |(with_reducible refine aqV ?_)
 |(with_reducible apply Ts);exact rfl;exact rfl
 |(with_reducible apply Tr);exact rfl;exact rfl;exact rfl;exact rfl
 |(with_reducible apply Tt);exact rfl;exact rfl;exact rfl
 |(with_reducible apply aak);exact rfl
 |(with_reducible apply aaj);exact rfl
 |(with_reducible apply kJ);exact ajZ
 |refine ate rfl rfl ?_
 |refine atf rfl rfl rfl ?_
 |refine atd rfl ?_
 |refine aqT rfl rfl rfl rfl ?_
 |refine aqU rfl rfl rfl rfl rfl ?_
 |(with_reducible refine ahD ?_ ?_);exact rfl
 |(with_reducible refine apI ?_)
 |(with_reducible refine arO ?_)
 |(with_reducible apply b7);exact dt;exact rfl
 |(with_reducible refine apL ?_)
 |(with_reducible apply Ty);exact rfl;exact rfl
 |(with_reducible apply Tx);exact rfl;exact rfl;exact rfl;exact rfl
 |(with_reducible apply Tz);exact rfl;exact rfl;exact rfl
 |refine apN ?_
 |refine apM ?_
 exact h.x):P:=h ⟨k⟩
theorem be{P Q:Prop}(k:Q)(h:Hd Q→P:=by(intro h;(iterate 2 refine aF ?_);exact h.x)):P:=h ⟨k⟩
theorem bF{P Q:Prop}(k:Q)(h:Hd Q→P:=by(intro h;(iterate 3 refine aF ?_);exact h.x)):P:=h ⟨k⟩
theorem b8{P Q:Prop}(k:Q)(h:Hd Q→P:=by(intro h;(iterate 4 refine aF ?_);exact h.x)):P:=h ⟨k⟩
theorem bG{P Q:Prop}(k:Q)(h:Hd Q→P:=by(intro h;(iterate 5 refine aF ?_);exact h.x)):P:=h ⟨k⟩
theorem bz{P Q:Prop}(k:Q)(h:Hd Q→P:=by(intro h;(iterate 6 refine aF ?_);exact h.x)):P:=h ⟨k⟩
theorem bL{P Q:Prop}(k:Q)(h:Hd Q→P:=by(intro h;(iterate 7 refine aF ?_);exact h.x)):P:=h ⟨k⟩
theorem bJ{P Q:Prop}(k:Q)(h:Hd Q→P:=by(intro h;(iterate 8 refine aF ?_);exact h.x)):P:=h ⟨k⟩
theorem bQ{P Q:Prop}(k:Q)(h:Hd Q→P:=by(intro h;(iterate 9 refine aF ?_);exact h.x)):P:=h ⟨k⟩
theorem bA{P Q:Prop}(k:Q)(h:Hd Q→P:=by(intro h;(iterate 10 refine aF ?_);exact h.x)):P:=h ⟨k⟩
theorem cY{P Q:Prop}(k:Q)(h:Hd Q→P:=by(intro h;(iterate 11 refine aF ?_);exact h.x)):P:=h ⟨k⟩
theorem cJ{P Q:Prop}(k:Q)(h:Hd Q→P:=by(intro h;(iterate 12 refine aF ?_);exact h.x)):P:=h ⟨k⟩
theorem de{P Q:Prop}(k:Q)(h:Hd Q→P:=by(intro h;(iterate 13 refine aF ?_);exact h.x)):P:=h ⟨k⟩
theorem dQ{P Q:Prop}(k:Q)(h:Hd Q→P:=by(intro h;(iterate 14 refine aF ?_);exact h.x)):P:=h ⟨k⟩
theorem jy{P Q:Prop}(k:Q)(h:Hd Q→P:=by(intro h;(iterate 15 refine aF ?_);exact h.x)):P:=h ⟨k⟩
theorem jS{P Q:Prop}(k:Q)(h:Hd Q→P:=by(intro h;(iterate 16 refine aF ?_);exact h.x)):P:=h ⟨k⟩
theorem B_{P Q:Prop}(k:Q)(h:Hd Q→P:=by(intro h;(iterate 17 refine aF ?_);exact h.x)):P:=h ⟨k⟩
theorem tP{P Q:Prop}(k:Q)(h:Hd Q→P:=by(intro h;(iterate 18 refine aF ?_);exact h.x)):P:=h ⟨k⟩
theorem zH{P Q:Prop}(k:Q)(h:Hd Q→P:=by(intro h;(iterate 19 refine aF ?_);exact h.x)):P:=h ⟨k⟩
theorem alD{P Q:Prop}(k:Q)(h:Hd Q→P:=by(intro h;(iterate 20 refine aF ?_);exact h.x)):P:=h ⟨k⟩
theorem Ke{P Q:Prop}(k:Q)(h:Hd Q→P:=by(intro h;(iterate 21 refine aF ?_);exact h.x)):P:=h ⟨k⟩
theorem GC{P Q:Prop}(k:Q)(h:Hd Q→P:=by(intro h;(iterate 22 refine aF ?_);exact h.x)):P:=h ⟨k⟩
theorem arP{P Q:Prop}(k:Q)(h:Hd Q→P:=by(intro h;(iterate 23 refine aF ?_);exact h.x)):P:=h ⟨k⟩
theorem acf{P Q:Prop}(k:Q)(h:Hd Q→P:=by(intro h;(iterate 24 refine aF ?_);exact h.x)):P:=h ⟨k⟩
theorem alE{P Q:Prop}(k:Q)(h:Hd Q→P:=by(intro h;(iterate 25 refine aF ?_);exact h.x)):P:=h ⟨k⟩
theorem ahh{P Q:Prop}(k:Q)(h:Hd Q→P:=by(intro h;(iterate 26 refine aF ?_);exact h.x)):P:=h ⟨k⟩
theorem acg{P Q:Prop}(k:Q)(h:Hd Q→P:=by(intro h;(iterate 27 refine aF ?_);exact h.x)):P:=h ⟨k⟩
theorem apP{P Q:Prop}(k:Q)(h:Hd Q→P:=by(intro h;(iterate 28 refine aF ?_);exact h.x)):P:=h ⟨k⟩
theorem arQ{P Q:Prop}(k:Q)(h:Hd Q→P:=by(intro h;(iterate 29 refine aF ?_);exact h.x)):P:=h ⟨k⟩
theorem arR{P Q:Prop}(k:Q)(h:Hd Q→P:=by(intro h;(iterate 30 refine aF ?_);exact h.x)):P:=h ⟨k⟩
theorem apQ{P Q:Prop}(k:Q)(h:Hd Q→P:=by(intro h;(iterate 32 refine aF ?_);exact h.x)):P:=h ⟨k⟩
theorem arS{P Q:Prop}(k:Q)(h:Hd Q→P:=by(intro h;(iterate 38 refine aF ?_);exact h.x)):P:=h ⟨k⟩
abbrev a_(B:Nat)(w0:World)(f:FuncId)(args:cV)(L:aP)(R:qI):Prop:=dL Tryz.prog B w0 f args L R
abbrev eM(B:Nat)(w0:World)(L:List Ch)(A:Option Addr)(c:Nat)(l:List UInt8):Prop:=aJ B w0 L 1 (.slice A l.length c) l.length (bv l)
end
theorem gC{P:Prop}(h:P:=by(first|rfl|(simp;omega)|(simp[*];done))):P:=h
theorem Gp{P:Prop}(h:P:=by(first|omega|(simp;done)|(simp;omega))):P:=h
theorem aox{P:Prop}(h:P:=by(exact eU (by first|omega|(rw[hg];omega)))):P:=h
theorem dz:type_of% @List.mem_append:= @List.mem_append
theorem kR:type_of% @Classical.not_not:= @Classical.not_not
theorem Fit.no{l:al}{k:Nat}(hk:k<l.length)(h:¬((l.getD k 0).toNat≤15)):¬Fit l:=fun hf=>h (hf.2 _ (bg hk 0))
def Gk(l:al):Prop:=∀c∈l,c.toNat≤15
theorem Gk.step{l:al}{k:Nat}(h:Gk (l.take k))(hk:k<l.length)(hs:(l.getD k 0).toNat≤15):Gk (l.take (k+1)):=by
 rw[ba hk 0];intro c hc;rcases dz.1 hc with hc|hc
 ·exact h c hc
 ·simp only[lF]at hc;rw[hc];exact hs
theorem Gk.AA:Gk []:=by intro c h;cases h
theorem Gk.all{l:al}{k:Nat}(h:Gk (l.take k))(hk:¬k<l.length):Gk l:=by rwa [fL aa]at h
theorem abm{l:al}{k:Nat}(hk:k<l.length)(hc:(l.getD k 0).toNat<16):ints .i64 ((tH (l.take k)).set (l.getD k 0).toNat ((tH (l.take k)).getD (l.getD k 0).toNat 0+1))=ints .i64 (tH (l.take (k+1))):=by
 rw[abn hc,ba hk 0]
def aru(l:al)(b:List Int)(ok:Bool):Prop:=Few b∧ok=decide (Fit l)∧(ok=true→b=qN l)
theorem abR:Few (List.replicate 16 0):=agR▸J5 ak
theorem ad8{k:Nat}{x:Int}(h:0≤x∧x≤300):0≤x*2^(15-k)∧x*2^(15-k)≤9830400:=by
 have h2:(2:Int)^(15-k)≤2^15:=by
  have:(2:Nat)^(15-k)≤2^15:=kZ aa aa
  exact_mod_cast this
 have h3:(0:Int)<2^(15-k):=Int.pow_pos aa;exact⟨Int.mul_nonneg h.1 aa,by have:=Int.mul_le_mul h.2 h2 aa aa;omega⟩
theorem aq0{k:Nat}{x:Int}(hk:k<16)(h:0≤x*2^(15-k)∧x*2^(15-k)≤9830400):IntKind.i64.wrap (x*2^min (15-(k:Int)).toNat IntKind.i64.bits)=x*2^(15-k):=by
 have e:min (15-(k:Int)).toNat IntKind.i64.bits=15-k:=by
  have:(15-(k:Int)).toNat=15-k:=by omega
  rw[this];show min (15-k) 64=15-k;omega
 rw[e];exact bE aa aa
theorem HI(l:al)(hb:eM B w0 F A c l):a_ B w0 317 [.slice A l.length c] F (fun r L=>∃b ok,r= .tuple #[.agg (ints .i64 b).toArray,.bool ok]∧L=F∧aru l b ok):=by
 refine fw func317 27 [0] ?_;refine be ?_;refine bc fun g2=>?_;refine cY ?_;refine aj (fun h8=>?_) fun h8=>?_
 ·refine bQ ?_;refine gT rfl rfl ag aV gC rfl (.skip (.refl _)) ?_;refine⟨List.replicate 16 0,false,rfl,rfl,abR,(nT fun h=>?_).symm,fun h=>ki⟩;have:=h.1;omega
 ·refine cY ?_;refine aE (fun zf zL zm=>∃(k:Nat),(k≤l.length∧Gk (l.take k))∧l.length-k=zm∧Sub zf [(2,br g2),(10,.slice A l.length c),(11,ah l.length),(12,ah k)]∧Wk zL (.bD g2 426 (ints .i64 (tH (l.take k)))::F)) _ ⟨0,⟨bT _,Gk.AA⟩,rfl,bp,bq rfl (.refl _)⟩ ?_;rintro _ _ _ ⟨k,⟨hk,hL⟩,rfl,hs,hp⟩;refine aU hs hp ?_;clear hs hp;have hu:=(l.getD k 0).toNat_lt;have hf:=J5 (l:=l.take k) bR;have hf1:=hf.1;have hfb:=hf.2 (l.getD k 0).toNat;refine bz ?_;refine aj (fun lA=>?_) fun lA=>?_
  ·refine tP ?_;refine aj (fun iF=>?_) fun iF=>?_
   ·refine dQ ?_;refine gT rfl rfl ag aV gC rfl (.skip (.refl _)) ?_;refine⟨_,false,rfl,rfl,hf,(nT ?_).symm,fun h=>ki⟩;exact Fit.no (k:=k) aa aa
   ·refine b8 ?_;refine ab (aM (i:=(l.getD k 0).toNat) underlying426 ag rfl rfl rfl aa) rfl ?_;refine ab (eY ag rfl aV Gp) rfl ?_;refine aF ?_;refine ab (aM (i:=(l.getD k 0).toNat) underlying426 ag rfl rfl rfl aa) rfl ?_;refine bJ ?_;refine av ⟨_,aa,k+1,⟨aa,hL.step aa aa⟩,rfl,bp,bq (abm aa aa) (.refl _)⟩
  ·refine bL ?_;refine ab (aM (i:=0) underlying426 ag rfl rfl rfl aa) rfl ?_;refine cY ?_;refine gT rfl rfl ag aV gC rfl (.skip (.refl _)) ?_;have hL':=hL.all aa;refine⟨_,true,rfl,rfl,UI hf 0 aa,(ox ⟨aa,hL'⟩).symm,fun _=>?_⟩;rw[fL aa];rfl
theorem Dl(b:List Int)(hf:Few b):a_ B w0 318 [.agg (ints .i64 b).toArray] F (fun r L=>r= .tuple #[ah (w3 b 16),ah (tI b 16)]∧L=F):=by
 have hb:=hf.1;refine fw func318 24 [0] ?_;refine be ?_;refine bh fun g1=>?_;refine cY ?_;refine aE (fun zf zL zm=>∃(k:Nat),(1≤k∧k≤16)∧16-k=zm∧Sub zf [(1,br g1),(2,ah (w3 b k)),(3,ah (tI b k)),(4,ah k)]∧Wk zL (.bD g1 426 (ints .i64 b)::F)) _ ⟨1,⟨aa,aa⟩,rfl,bp,.refl _⟩ ?_;rintro _ _ _ ⟨k,⟨xk,hk⟩,rfl,hs,hp⟩;refine aU hs hp ?_;clear hs hp;have hs:=hf.sum k;have hc:=hf.rH k;have kY:=hf.sum (k+1);have Nr:=hf.rH (k+1);have hbk:=hf.2 k;have e1:=ZQ b xk;have e2:=Xv b xk;have hw2:=ad8 (k:=k) hbk;refine bL ?_;refine aj (fun h6=>?_) fun h6=>?_
 ·refine bJ ?_;refine ab (aM underlying426 ag rfl rfl rfl aa) rfl ?_;refine ab (eY ag rfl aV Gp) rfl ?_;refine be ?_;refine ab (ga rfl rfl aa (aq0 aa hw2)) rfl ?_;refine bL ?_;refine ab (aM underlying426 ag rfl rfl rfl aa) rfl ?_;refine ab (eY ag rfl aV Gp) rfl ?_;refine be ?_;refine ve [1,2,3,4] ?_;refine bL ?_;rw[←e1,←e2];refine av ⟨_,aa,k+1,⟨aa,aa⟩,rfl,bp,.refl _⟩
 ·refine dQ ?_;have alV:k=16:=by omega
  subst alV;refine aq (.skip (.refl _)) ?_;refine aF ?_;exact⟨rfl,rfl⟩
theorem HU(l:al)(hb:eM B w0 F A c l)(hf:Fit l):a_ B w0 317 [.slice A l.length c] F (fun r L=>r= .tuple #[.agg (ints .i64 (qN l)).toArray,.bool true]∧L=F):=
 (HI l hb).mono fun v L ⟨b,ok,h1,h2,h3,h4,h5⟩=>by
  have:ok=true:=h4.trans (ox hf);subst this;rw[h1,h5 rfl];exact⟨rfl,h2⟩
theorem abx(l:al)(hb:eM B w0 F A c l)(hf:¬Fit l):a_ B w0 317 [.slice A l.length c] F (fun r L=>∃b,r= .tuple #[.agg (ints .i64 b).toArray,.bool false]∧L=F∧Few b):=
 (HI l hb).mono fun v L ⟨b,ok,h1,h2,h3,h4,h5⟩=>by
  have:ok=false:=h4.trans (nT hf);subst this;exact⟨b,h1,h2,h3⟩
theorem xz{l:al}(h:Good l):chk l=0:=ao h
theorem Cr{l:al}(h:¬Good l):chk l=7:=aw h
theorem zl(l:al)(hb:eM B w0 F A c l):a_ B w0 286 [.slice A l.length c] F (fun r L=>r=ah (chk l)∧L=F):=by
 by_cases hf:Fit l
 ·have xj:=M_ hf;have hf1:=xj.1;have atH:=xj.rH 16;have hg:=ab' hf;refine fw func286 36 [0] ?_;refine bJ ?_;refine ai rfl (HU l aB hf) ?_;refine bF ?_;refine bc fun g3=>?_;refine bL ?_;refine ai rfl (Dl _ xj) ?_;refine bA ?_;refine bW 19 35 [] (¬Good l) ?_ ?_
  ·refine bQ ?_;refine cP (fun rJ=>?_) fun rJ=>?_
   ·refine bL ?_;refine cP (fun qU=>?_) fun qU=>?_
    ·refine bG ?_;refine aL rfl rfl rfl (fun rZ=>?_) (fun rZ=>?_)
     ·refine ab (aM (i:=1) underlying426 ag rfl rfl rfl aa) rfl ?_;refine aF ?_;refine ab (eY ag rfl aV Gp) rfl ?_;refine bL ?_;exact aQ (by exact dN (by first|omega|(rw[hg];omega)))
     ·refine bL ?_;exact aQ (by exact eF (by first|omega|(rw[hg];omega)))
    ·refine bQ ?_;exact aQ aox
   ·refine jy ?_;exact aQ aox
  ·refine be ?_;refine aj (fun qV=>?_) fun qV=>?_
   ·refine bL ?_;refine aq (.skip (.refl _)) ?_;refine aF ?_;rw[Cr qV];exact⟨rfl,rfl⟩
   ·refine bJ ?_;refine aq (.skip (.refl _)) ?_;refine aF ?_;rw[xz (kR.1 qV)];exact⟨rfl,rfl⟩
 ·have D7:¬Good l:=fun g=>hf g.1;refine fw func286 36 [0] ?_;refine bJ ?_;refine aX apk rfl (abx l aB hf) rfl ?_;rintro _ _ ⟨b,rfl,cA,xj⟩;obtain rfl:=cA.symm;have hf1:=xj.1;refine bF ?_;refine bc fun g3=>?_;refine bL ?_;refine ai rfl (Dl _ xj) ?_;refine arQ ?_;refine ve [35] ?_;refine bQ ?_;refine aq (.skip (.refl _)) ?_;refine aF ?_;rw[Cr D7];exact⟨rfl,rfl⟩
section
theorem ja:type_of% @Nat.mod_eq_of_lt:= @Nat.mod_eq_of_lt
theorem NN:type_of% @Nat.lt_of_le_of_lt:= @Nat.lt_of_le_of_lt
theorem vR:type_of% @Nat.xor_lt_two_pow:= @Nat.xor_lt_two_pow
theorem NO:type_of% @Nat.and_lt_two_pow:= @Nat.and_lt_two_pow
theorem iw(n a:Nat)(ha:a<2^n):(BitVec.ofInt n (a:Int)).toNat=a:=by
 rw[BitVec.ofInt_natCast,BitVec.toNat_ofNat];exact ja ha
theorem wrap_u8(a:Nat)(h:a<256):IntKind.u8.wrap (a:Int)=(a:Int):=by
 show(a:Int)%256=a;omega
theorem wrap_u64(a:Nat)(h:a<18446744073709551616):IntKind.u64.wrap (a:Int)=(a:Int):=by
 show(a:Int)%18446744073709551616=a;omega
theorem wrap_i64(a:Int)(h1:-9223372036854775808≤a)(h2:a<9223372036854775808):IntKind.i64.wrap a=a:=by
 rw[IntKind.wrap_i64];omega
section
variable(a b:Nat)
theorem u8_or(ha:a<256)(hb:b<256):bits .or .u8 (a:Int) (b:Int)=((a ||| b:Nat):Int):=by
 have hx:a ||| b<2^8:=Nat.or_lt_two_pow ha hb
 show IntKind.u8.wrap ((BitVec.ofInt 8 (a:Int) ||| BitVec.ofInt 8 (b:Int)).toNat:Int)=_;rw[BitVec.toNat_or,iw 8 a ha,iw 8 b hb,wrap_u8 _ hx]
theorem u64_and(ha:a<18446744073709551616)(hb:b<18446744073709551616):bits .and .u64 (a:Int) (b:Int)=((a &&& b:Nat):Int):=by
 have hx:a &&& b<18446744073709551616:=NN Nat.and_le_left ha;show IntKind.u64.wrap ((BitVec.ofInt 64 (a:Int) &&& BitVec.ofInt 64 (b:Int)).toNat:Int)=_;rw[BitVec.toNat_and,iw 64 a ha,iw 64 b hb,wrap_u64 _ hx]
theorem u64_or(ha:a<18446744073709551616)(hb:b<18446744073709551616):bits .or .u64 (a:Int) (b:Int)=((a ||| b:Nat):Int):=by
 have hx:a ||| b<2^64:=Nat.or_lt_two_pow ha hb
 show IntKind.u64.wrap ((BitVec.ofInt 64 (a:Int) ||| BitVec.ofInt 64 (b:Int)).toNat:Int)=_;rw[BitVec.toNat_or,iw 64 a ha,iw 64 b hb,wrap_u64 _ hx]
theorem u64_xor(ha:a<18446744073709551616)(hb:b<18446744073709551616):bits .xor .u64 (a:Int) (b:Int)=((a ^^^ b:Nat):Int):=by
 have hx:a ^^^ b<2^64:=vR ha hb;show IntKind.u64.wrap ((BitVec.ofInt 64 (a:Int) ^^^ BitVec.ofInt 64 (b:Int)).toNat:Int)=_;rw[BitVec.toNat_xor,iw 64 a ha,iw 64 b hb,wrap_u64 _ hx]
theorem ahA(ha:a<9223372036854775808)(hb:b<9223372036854775808):bits .and .i64 (a:Int) (b:Int)=((a &&& b:Nat):Int):=by
 have hx:a &&& b<2^63:=NO _ aa;show IntKind.i64.wrap ((BitVec.ofInt 64 (a:Int) &&& BitVec.ofInt 64 (b:Int)).toNat:Int)=_;rw[BitVec.toNat_and,iw 64 a aa,iw 64 b aa,wrap_i64]<;>omega
theorem acW(ha:a<9223372036854775808)(hb:b<9223372036854775808):bits .or .i64 (a:Int) (b:Int)=((a ||| b:Nat):Int):=by
 have hx:a ||| b<2^63:=Nat.or_lt_two_pow aa aa
 show IntKind.i64.wrap ((BitVec.ofInt 64 (a:Int) ||| BitVec.ofInt 64 (b:Int)).toNat:Int)=_;rw[BitVec.toNat_or,iw 64 a aa,iw 64 b aa,wrap_i64]<;>omega
end
theorem adT(a:Nat)(h:a<256):a ||| 128=128+a%128:=by
 have:∀x:Fin 256,x.val ||| 128=128+x.val%128:=by decide+kernel
 exact this ⟨a,h⟩
end
theorem od:type_of% @UInt8.toNat_ofNat':= @UInt8.toNat_ofNat'
theorem lj:type_of% @List.range_succ:= @List.range_succ
theorem bk:type_of% @List.getD_eq_getElem?_getD:= @List.getD_eq_getElem?_getD
theorem sL:type_of% @Nat.add_comm:= @Nat.add_comm
theorem NP:type_of% @Nat.two_pow_add_eq_or_of_lt:= @Nat.two_pow_add_eq_or_of_lt
theorem vS:type_of% @Nat.two_pow_pos:= @Nat.two_pow_pos
theorem kz:type_of% @List.mem_range:= @List.mem_range
theorem nx:type_of% @Nat.sub_self:= @Nat.sub_self
theorem p_:type_of% @List.length_singleton:= @List.length_singleton
theorem lQ:type_of% @UInt8.toNat_lt:= @UInt8.toNat_lt
theorem vT:type_of% @Int.fdiv_eq_ediv_of_nonneg:= @Int.fdiv_eq_ediv_of_nonneg
theorem q_:type_of% @Nat.div_le_self:= @Nat.div_le_self
theorem vU:type_of% @Nat.lt_of_lt_of_le:= @Nat.lt_of_lt_of_le
theorem En:type_of% @Nat.and_one_is_mod:= @Nat.and_one_is_mod
theorem BC:type_of% @Nat.div_eq_of_lt:= @Nat.div_eq_of_lt
def gZ(q:List Bool)(i:Nat):Nat:=(q.getD i false).toNat
theorem rP(q:List Bool)(i:Nat):gZ q i≤1:=Bool.toNat_le _
def part(q:List Bool)(i:Nat):Nat→Nat
 |0=>0
 |m+1=>2*part q i m+gZ q (i+m)
theorem qj(q:List Bool)(i:Nat):∀m,part q i m<2^m
 |0=>by simp[part]
 |m+1=>by have:=qj q i m;have:=rP q (i+m);simp only[part,nD];omega
def rs(q:List Bool)(k:Nat):UInt8:=UInt8.ofNat (part q (8*k) 8)
theorem u6(q:List Bool)(k:Nat):(rs q k).toNat=part q (8*k) 8:=by
 have:=qj q (8*k) 8;rw[rs,od];exact ja this
def octets(q:List Bool)(k:Nat):al:=(List.range k).map (rs q)
theorem nj(q:List Bool)(k:Nat):(octets q k).length=k:=by simp[octets]
theorem uw(q:List Bool)(k:Nat):octets q (k+1)=octets q k++[rs q k]:=by simp[octets,lj]
def packed(q:List Bool):al:=octets q ((q.length+7)/8)
theorem dJ(q:List Bool):(packed q).length=(q.length+7)/8:=nj _ _
theorem se(q:List Bool){n k:Nat}(h:k<n):(octets q n).getD k 0=rs q k:=by
 simp[octets,bk,h]
theorem Md(q:List Bool)(b:Bool)(i:Nat):gZ (q++[b]) i=if i=q.length then b.toNat else gZ q i:=by
 unfold gZ;split
 ·subst i;simp[bk]
 ·simp only[bk,List.getElem?_append];split
  ·rfl
  ·rw[zX bR,zX aa]
theorem xr(q:List Bool){i:Nat}(h:q.length≤i):gZ q i=0:=by
 simp[gZ,bk,h]
theorem AH(q:List Bool)(b:Bool)(i:Nat):∀m,(q.length<i∨i+m≤q.length)→part (q++[b]) i m=part q i m
 |0,_=>rfl
 |m+1,h=>by
  rw[part,part,AH q b i m aa,Md,aw aa]
theorem IQ(q:List Bool)(i:Nat):∀m,q.length≤i→part q i m=0
 |0,_=>rfl
 |m+1,h=>by rw[part,IQ q i m h,xr q aa]
theorem AI(q:List Bool)(i m:Nat)(h:i+m=q.length):∀j,part q i (m+j)=part q i m*2^j
 |0=>by simp
 |j+1=>by
  rw[←NL,part,AI q i m h j,xr q aa,nD];rw[nE 2,tc];rfl
theorem ad0(q:List Bool)(b:Bool)(i m:Nat)(h:i+m=q.length)(j:Nat):part (q++[b]) i (m+1+j)=part q i (m+1+j) ||| b.toNat*2^j:=by
 rw[AI (q++[b]) i (m+1) bR,NL,AI q i m h,part,AH q b i m aa,Md,ao h,sL 1 j];have hb:=Bool.toNat_le b;have e:part q i m*2^(j+1)=2^(j+1)*part q i m:=nE _ _;rw[e,←NP (by rw[nD];have:=vS j;rcases b with _|_<;>simp<;>omega),mH,nD];congr 1;rw[nE 2 (part q i m),tc,nE 2 (2^j),nE (part q i m)]
theorem adI{q q':List Bool}{k:Nat}(h:part q (8*k) 8=part q' (8*k) 8):rs q k=rs q' k:=by rw[rs,rs,h]
theorem Ow(q:List Bool)(b:Bool){n:Nat}(h:8*n≤q.length):octets (q++[b]) n=octets q n:=by
 simp only[octets];apply r9;intro k hk;have:=kz.mp hk;exact adI (AH q b _ _ aa)
def room(q:List Bool):al:=octets q (q.length/8+1)
theorem BQ(q:List Bool):(room q).length=q.length/8+1:=nj _ _
theorem OX{q:List Bool}(h:q.length%8=0):packed q++[0]=room q:=by
 rw[packed,room,show(q.length+7)/8=q.length/8 by omega,uw];congr 2;rw[rs,IQ q _ _ aa];rfl
theorem aem{q:List Bool}(h:¬q.length%8=0):packed q=room q:=by
 rw[packed,room,show(q.length+7)/8=q.length/8+1 by omega]
theorem ael(q:List Bool):((room q).getD (q.length/8) 0).toNat=part q (8*(q.length/8)) 8:=by
 rw[room,se q aa,u6]
theorem aqK{a b:Nat}(ha:a<256)(hb:b<256):IntKind.u8.wrap ((BitVec.ofInt IntKind.u8.bits (a:Int) ||| BitVec.ofInt IntKind.u8.bits (b:Int)).toNat:Int)=((a ||| b:Nat):Int):=u8_or a b ha hb
theorem TQ{a b:Nat}(ha:a<18446744073709551616)(hb:b<18446744073709551616):IntKind.u64.wrap ((BitVec.ofInt IntKind.u64.bits (a:Int) &&& BitVec.ofInt IntKind.u64.bits (b:Int)).toNat:Int)=((a &&& b:Nat):Int):=u64_and a b ha hb
theorem amX{a b:Nat}(ha:a<18446744073709551616)(hb:b<18446744073709551616):IntKind.u64.wrap ((BitVec.ofInt IntKind.u64.bits (a:Int) ||| BitVec.ofInt IntKind.u64.bits (b:Int)).toNat:Int)=((a ||| b:Nat):Int):=u64_or a b ha hb
theorem adZ(q:List Bool)(b:Bool):part q (8*(q.length/8)) 8 ||| b.toNat*2^(7-q.length%8)=part (q++[b]) (8*(q.length/8)) 8:=by
 have:=ad0 q b (8*(q.length/8)) (q.length%8) aa (7-q.length%8);rw[show q.length%8+1+(7-q.length%8)=8 by omega]at this;exact this.symm
theorem Fe(q:List Bool)(b:Bool):(room q).set (q.length/8) (rs (q++[b]) (q.length/8))=packed (q++[b]):=by
 rw[packed,room,uw,wS _ _ (by rw[nj];omega),nj,nx,aY,p_,
  show(q.length+1+7)/8=q.length/8+1 by omega,uw,Ow q b aa]
 rfl
theorem ako{b:Bool}{m:Nat}(h:m<8):IntKind.u8.wrap ((b.toNat:Int)*2^min (7-(m:Int)).toNat IntKind.u8.bits)=((b.toNat*2^(7-m):Nat):Int):=by
 have:∀(b:Bool) (m:Fin 8),IntKind.u8.wrap ((b.toNat:Int)*2^min (7-((m:Nat):Int)).toNat IntKind.u8.bits)=((b.toNat*2^(7-m.val):Nat):Int):=by decide+kernel
 exact this b ⟨m,h⟩
theorem aqZ{b:Bool}{m:Nat}:b.toNat*2^(7-m)<256:=by
 have:2^(7-m)≤2^7:=kZ aa aa;rcases b with _|_<;>simp<;>omega
theorem Pm(n:Nat):(n:Int).tmod 8=((n%8:Nat):Int):=by rw[Int.tmod_eq_emod_of_nonneg aa];omega
theorem ais{n:Nat}(h:n≤9000000000000000000):IntKind.i64.wrap ((n:Int).tdiv 8)=((n/8:Nat):Int):=by
 have:(n:Int).tdiv 8=((n/8:Nat):Int):=(Int.ofNat_tdiv n 8).symm;rw[this];exact bE aa aa
theorem adU(q:List Bool)(b:Bool):IntKind.u8.wrap ((BitVec.ofInt IntKind.u8.bits ((((room q).getD (q.length/8) 0).toNat:Nat):Int) ||| BitVec.ofInt IntKind.u8.bits ((b.toNat*2^(7-q.length%8):Nat):Int)).toNat:Int)=((rs (q++[b]) (q.length/8)).toNat:Int):=by
 rw[aqK (lQ _) aqZ,ael,adZ,u6]
theorem pD(q:List Bool)(i m:Nat):∀j,part q i (m+j)/2^j=part q i m
 |0=>by simp
 |j+1=>by
  have:=rP q (i+(m+j));rw[←NL,part,nD,nE (2^j),←Nat.div_div_eq_div_mul,show(2*part q i (m+j)+gZ q (i+(m+j)))/2=part q i (m+j) by omega];exact pD q i m j
theorem Su(q:List Bool){i:Nat}(h:i<q.length):((packed q).getD (i/8) 0).toNat=part q (8*(i/8)) 8:=by
 rw[packed,se q aa,u6]
theorem anj{x m:Nat}(hm:m<8):(x:Int).fdiv (2^min (7-(m:Int)).toNat IntKind.u8.bits)=((x/2^(7-m):Nat):Int):=by
 have e:min (7-(m:Int)).toNat IntKind.u8.bits=7-m:=by
  show min _ 8=_;omega
 rw[e,vT _ (Int.le_of_lt (Int.pow_pos aa))];rw[Int.natCast_ediv,Int.natCast_pow];rfl
theorem ani(l:al)(i j:Nat):(l.getD i 0).toNat/2^j<18446744073709551616:=NN (q_ _ _) (vU (lQ _) aa)
theorem agt(q:List Bool){i:Nat}(h:i<q.length):IntKind.u64.wrap ((BitVec.ofInt IntKind.u64.bits ((((packed q).getD (i/8) 0).toNat/2^(7-i%8):Nat):Int) &&& BitVec.ofInt IntKind.u64.bits 1).toNat:Int)=(gZ q i:Int):=by
 have hl:((packed q).getD (i/8) 0).toNat/2^(7-i%8)<18446744073709551616:=NN (q_ _ _) (vU (lQ _) aa);have:=TQ (b:=1) hl aa;rw[show((1:Nat):Int)=1 from rfl]at this;rw[this,Su q h,En];have e:=pD q (8*(i/8)) (i%8+1) (7-i%8);rw[show i%8+1+(7-i%8)=8 by omega]at e;rw[e,part,show 8*(i/8)+i%8=i by omega];have:=rP q i;omega
theorem agV{x m:Nat}(hx:x<2^m)(hm:m<64):IntKind.u64.wrap ((x:Int)*2^min (1:Int).toNat IntKind.u64.bits)=((2*x:Nat):Int):=by
 have h:x<2^63:=vU hx (kZ aa aa);have e:min (1:Int).toNat IntKind.u64.bits=1:=by decide
 rw[e,f_ aa aa];omega
theorem amW{x m b:Nat}(hx:x<2^m)(hm:m<64)(hb:b≤1):IntKind.u64.wrap ((BitVec.ofInt IntKind.u64.bits ((2*x:Nat):Int) ||| BitVec.ofInt IntKind.u64.bits (b:Int)).toNat:Int)=((2*x+b:Nat):Int):=by
 have h:x<2^63:=vU hx (kZ aa aa);rw[amX aa aa];have:=NP (i:=1) (b:=b) aa x;rw[Nat.pow_one]at this;rw[←this]
def hi(v n m:Nat):List Bool:=(List.range m).map fun j=>v.testBit (n-1-j)
theorem dM(v n m:Nat):(hi v n m).length=m:=by simp[hi]
theorem ahu(v n m:Nat):hi v n (m+1)=hi v n m++[v.testBit (n-1-m)]:=by simp[hi,lj]
theorem ahv(v n:Nat):hi v n 0=[]:=rfl
theorem Qs(v i:Nat):v/2^i%2=(v.testBit i).toNat:=by rw[Nat.toNat_testBit]
theorem Wm(v i:Nat)(hv:v<18446744073709551616):IntKind.u64.wrap ((BitVec.ofInt IntKind.u64.bits ((v/2^i:Nat):Int) &&& BitVec.ofInt IntKind.u64.bits 1).toNat:Int)=((v.testBit i).toNat:Int):=by
 have hl:v/2^i<18446744073709551616:=NN (q_ _ _) hv;have:=TQ (b:=1) hl aa;rw[show((1:Nat):Int)=1 from rfl]at this;rw[this,En,Qs]
theorem Fm(v:Nat){x:Int}{e:Nat}(hx:x=e)(he:e≤64):(v:Int).fdiv (2^min x.toNat IntKind.u64.bits)=((v/2^e:Nat):Int):=by
 subst hx;have e:min (e:Int).toNat IntKind.u64.bits=e:=by
  show min _ 64=_;omega
 rw[e,vT _ (Int.le_of_lt (Int.pow_pos aa))];rw[Int.natCast_ediv,Int.natCast_pow];rfl
def anV(v:Nat)(n:Int):Prop:=0≤n∧n≤64∧v<2^n.toNat
instance (v:Nat)(n:Int):Decidable (anV v n):=inferInstanceAs (Decidable (_∧_))
theorem OK{v n:Nat}(h:¬((v/2^n:Nat):Int)=0):¬v<2^n:=fun hv=>h (by rw[BC hv];rfl)
def un(n:Nat):List Bool:=List.replicate n false++[true]
theorem oM(n:Nat):(un n).length=n+1:=by simp[un]
theorem Fa(n:Nat):List.replicate (n+1) false=List.replicate n false++[false]:=List.replicate_succ' ..
def lo(v m:Nat):List Bool:=(List.range m).map v.testBit
theorem aow{P:Prop}(h:P:=by(rw[show(packed q).length+1=(room q).length by omega];rfl)):P:=h
theorem Xm{P:Prop}(h:P:=by(rw[aem (by omega)])):P:=h
theorem Gr{P:Prop}(h:P:=by(rintro _ _ rfl;exact gF)):P:=h
theorem agr{P:Prop}(h:P:=by(rw[←Fe q b];simp)):P:=h
theorem aa9(l:al)(k:Nat)(u:UInt8):(bv l).set k (.int .u8 u.toNat)=bv (l.set k u):=by simp[bv,Ku]
theorem aa8(l:al):(bv l).length=l.length:=by simp[bv]
theorem aaI(q:List Bool)(b:Bool)(hq:q.length≤8000000):
  a_ B w0 212 [br g,.int .u64 b.toNat] (.bD g bt [.slice A (packed q).length c,ah q.length]:: .own 5 1 A (packed q).length c (bv (packed q))::F)
   (fun r L=>r= .tuple #[]∧∃A' c',L= .bD g bt [.slice A' (packed (q++[b])).length c',ah (q++[b]).length]:: .own 5 1 A' (packed (q++[b])).length c' (bv (packed (q++[b])))::F):=by
 have mJ:=dJ q;have hrl:=BQ q;have oH:=Bool.toNat_le b;refine fw func212 48 [0,1] ?_;refine d_ (fun zf zL=>∃(A':bj) (c':Nat),Sub zf [(0,br g),(1,.int .u64 b.toNat)]∧Wk zL (.bD g bt [.slice A' (room q).length c',ah q.length]:: .own 5 1 A' (room q).length c' (bv (room q))::F)) ?_ ?_
 ·refine bz ?_;refine ab (nh rfl rfl aa (Pm _)) rfl ?_;refine bF ?_;refine aj (fun h9=>?_) fun h9=>?_
  ·refine bz ?_;refine dE cD rfl rfl rfl rfl rfl (fun _=>rfl) aV aa aa ?_;intro _ W8 c16;refine b8 ?_;exact bC ⟨W8,c16,bp,bq aow (ax aa (by rw[←OX aa];simp[bv]) (.refl _))⟩
  ·refine aF ?_;exact bC ⟨A,c,bp,bq Xm (ax Xm Xm (.refl _))⟩
 ·rintro _ _ ⟨A',c',hs,hp⟩;refine aU hs hp ?_;clear hs hp;refine aF ?_;refine kH (A:=A') (n:=(room q).length) (xs:=bv (room q)) (.tail _ (.head _)) aa ?_;intro ad hA;subst hA;refine cF (.bD g bt [.slice (some ad) (room q).length c',ah q.length]::F) ?_;refine ae 0 ?_;refine ae 1 ?_;refine ae 2 ?_;refine ae 3 ?_;refine ae 4 ?_;refine ae 5 ?_;refine ae 6 ?_;refine ae 7 ?_;refine aW 8 rfl (mc rfl rfl aa (ais aa)) ?_;refine aW 9 rfl (aO (size:=1) (i:=q.length/8) underlying27 ag rfl rfl rfl aa) ?_;refine ae 11 ?_;refine ae 12 ?_;refine ae 13 ?_;refine ae 14 ?_;refine ae 15 ?_;refine ae 16 ?_;refine aW 17 rfl (nh rfl rfl aa (Pm _)) ?_;refine ae 18 ?_;refine aW 19 rfl (ga rfl rfl aa (ako aa)) ?_;refine az 10 ?_;refine aF ?_;refine aW 20 rfl (tK rfl rfl (adU q b)) ?_;refine aW 21 rfl (aO (size:=1) (i:=q.length/8) underlying27 ag rfl rfl rfl aa) ?_;refine az 22 ?_;refine kN rfl .no (iK ag rfl rfl rfl aV (by rw[aa8];omega)) Gr ?_;rintro _ _ rfl;refine cQ [0] ?_;refine cJ ?_;refine aq (L':=.bD g bt [.slice (some ad) (packed (q++[b])).length c',ah (q++[b]).length]:: .own 5 1 (some ad) (packed (q++[b])).length c' (bv (packed (q++[b])))::F) (bq agr (ax agr (by rw[cE,aa9,Fe]) (.refl _))) ?_;refine aF ?_;exact⟨rfl,_,c',rfl⟩
theorem ajz(q:List Bool)(i:Nat)(hi:i<q.length)(hq:q.length≤8000000000)(rest:cV)(l:al)(hl:packed q=l)(hn:n=l.length)(hs:mC (.bD g bt (.slice A n c::rest)) F f)(hb:aJ B w0 F 1 (.slice A n c) n (bv l)):
  a_ B w0 339 [br g,ah i] F
   (fun r L=>r= .int .u64 (gZ q i)∧L=F):=by
 subst hn;subst hl;have mJ:=dJ q;refine fw func339 19 [0,1] ?_;refine bA ?_;refine ab (bM ag rfl hs rfl) rfl ?_;refine aF ?_;refine ab (mc rfl rfl aa (ais aa)) rfl ?_;refine ab (aC (i:=i/8) underlying27 ag rfl rfl rfl aa aB) rfl ?_;refine be ?_;refine ab (nh rfl rfl aa (Pm _)) rfl ?_;refine aF ?_;refine ab (dj rfl rfl aa (anj aa)) rfl ?_;refine ab (bm underlying5 underlying60 rfl (wrap_u64 _ (ani _ _ _))) rfl ?_;refine ab (jY rfl rfl (agt q hi)) rfl ?_;refine aF ?_;refine ve [4] ?_;refine bF ?_;exact⟨rfl,rfl⟩
theorem ER(q:List Bool)(p m:Nat)(hp:p≤q.length)(hm:m≤64)(hq:q.length≤8000000000)(rest:cV)(l:al)(hl:packed q=l)(hn:n=l.length)(hs:mC (.bD g bt (.slice A n c::ah q.length::rest)) F f)(hb:aJ B w0 F 1 (.slice A n c) n (bv l)):
  a_ B w0 340 [br g,ah p,ah m] F
   (fun r L=>r= .int .u64 (part q p m)∧L=F):=by
 refine fw func340 31 [0,1,2] ?_;refine tP ?_;refine aE (fun zf zL zm=>∃(k:Nat),(k≤m)∧m-k=zm∧Sub zf [(0,br g),(1,ah p),(2,ah m),(7,.int .u64 (part q p k)),(8,ah (p+k:Nat))]∧Wk zL (F)) _ ⟨0,bT _,rfl,bp,.refl _⟩ ?_;rintro _ _ _ ⟨k,hk,rfl,hs,hp⟩;refine aU hs hp ?_;clear hs hp;have fE:=qj q p k;have alM:=rP q (p+k);have hps:part q p (k+1)=2*part q p k+gZ q (p+k):=rfl;refine bA ?_;refine aj (fun kg=>?_) fun kg=>?_
 ·refine bL ?_;refine ab (ga rfl rfl aa (agV fE aa)) rfl ?_;refine bQ ?_;refine ab (bM ag rfl hs rfl) rfl ?_;refine ab (xI (m:=(p+k:Nat)) rfl rfl) rfl ?_;refine be ?_;refine aj (fun oc=>?_) fun oc=>?_
  ·refine b8 ?_;refine ai rfl (ajz q (p+k) aa hq _ l hl hn hs hb) ?_;refine ab (tK rfl rfl (amW fE aa alM)) rfl ?_;refine aF ?_;refine ve [0,1,2,7,8] ?_;refine bL ?_;refine av ⟨_,aa,k+1,aa,rfl,bp,.refl _⟩
  ·have h0:=xr q (i:=p+k) aa;refine bL ?_;refine ve [0,1,2,7,8] ?_;refine av ⟨_,aa,k+1,aa,rfl,bp,.refl _⟩
 ·refine de ?_;have hk':k=m:=by omega
  subst hk';exact⟨rfl,rfl⟩
theorem jI:type_of% @Lib.hid:= @Lib.hid
set_option maxHeartbeats 1000000 in
theorem agO{B:Nat}{v:Value}{n:Nat}{l:al}(w:World)(h:Rd w B 1 v n (bv l))(hn:n≤1099511627776):
  Calls Tryz.prog 36 #[v] w fun e w'=>∃v',e= .returned v'∧w'.ownsRow w.heap.size 5 1 v' n (bv l)∧Below w.heap.size w w':=by
 have h':=h;obtain⟨A,c,rfl,hc,hl,hr⟩:=h;have al5:=fun w=>Lib.run_eql_slice_nil (P:=Tryz.prog) w 27 5 A n c 0 0 underlying27;rcases A with _|ad
 ·have h0:n=0:=by
   rcases wQ n with h0|h0
   ·exact h0
   ·obtain⟨ad,h,_⟩:=hr h0;cases h
  subst h0;have hl0:l=[]:=mm vI;subst hl0;clear hr hl h'
  go_enter func36,Tryz.ntmps36
  go_wp2
  go_ret
  exact⟨_,rfl,World.ownsRow_nil _ _ _ _,GW _ _⟩
 ·have mh:n≤c:=hc;have mj:(w.alloc (.cells #[] 5)).ownsRow w.heap.size 5 1 (.slice (some ⟨w.heap.size,0,none⟩) 0 0) 0 []:=⟨rfl,.inr ⟨_,0,#[],rfl,gj _,Es w _,gj _,Bl,rfl,rfl⟩⟩
  have hr':Rd (w.alloc (.cells #[] 5)) B 1 (.slice (some ad) n c) n (bv l):=by
   obtain⟨A,c',hv,h2,h3,h4⟩:=h';refine⟨A,c',hv,h2,h3,fun hn=>?_⟩;obtain⟨ad',e,hb,fy⟩:=h4 hn;refine⟨ad',e,hb,fun j u hu=>?_⟩;have:=fy j u hu;rw[World.cell?_alloc_lt w _ _ (World.block_lt_of_cell? w _ this)];exact this
  have H1:=jI mj;have H2:=jI hr';clear hr hl h' mj hr'
  go_enter func36,Tryz.ntmps36
  have hb0:Below w.heap.size w (w.alloc (.cells #[] 5)):=(GW _ _).alloc (gj _) _;have CC:w.heap.size≤(w.alloc (.cells #[] 5)).heap.size:=hb0.size;have H3:=jI hb0;have H4:=jI CC;clear hb0 CC
  go_wp2_with (at_builtin;refine TC cD rfl (.tmp 5) (.tmp 6) rfl rfl H1.out rfl H2.out (qs _) H3.out (gj _) H4.out aa aa ?_;intro v2 w2 Is oH Nu)
  go_ret
  have e0:0+n=n:=by omega
  rw[e0,nA]at Is;exact⟨v2,rfl,Is,oH⟩
theorem l_{B:Nat}{w0:World}{F:aP}{A:bj}{n c:Nat}(l:al)(hb:aJ B w0 F 1 (.slice A n c) n (bv l))(hn:n≤1099511627776):
  a_ B w0 36 [.slice A n c] F (fun r L=>∃A' c',r= .slice A' n c'∧L= .own 5 1 A' n c' (bv l)::F):=
 dL.AE fun w hw=>agO w (hb w hw) hn
end Go.Proofs.YtaodmbolhoafcaaGreatDoor
