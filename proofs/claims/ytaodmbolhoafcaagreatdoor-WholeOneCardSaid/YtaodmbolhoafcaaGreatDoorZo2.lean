/-
  Texts of one proof, joined: part 2. No condition.
-/
import Derived.Test.YtaodmbolhoafcaaGreatDoorZo1
import Derived.OrdersHeld
import Derived.Deep.RegionHeld3
import Derived.Lib.SliceRun
import Derived.Laws.CopyRow
import Derived.Laws.IdiomCopy
import Derived.Laws.StructEq
import Derived.Test.YtaodmbolhoafcaaGreatDoorProg
import Derived.WalkKit
import Derived.Laws.BitsAllLaws
import Derived.Laws.BitsLemmas
open Go.RowKit Go.Proofs.Tryz
namespace Go.Proofs.YtaodmbolhoafcaaGreatDoor
set_option linter.unusedVariables false
set_option linter.unusedSimpArgs false
set_option maxRecDepth 20000
variable{B:Nat}{w0:World}{F:aQ}{A:bj}{c n g:Nat}{bt:TypeId}{f:Ch→aQ}
section
section
variable{C:Cx}{Q:Exit→Fr→aQ→Prop}{fr jC:Fr}{L L' S:aQ}{ops:Array Oper}{op:Op}{ty:TypeId}{pos:String}{af:Array Edge}{d:Nat}{v:Value}{fuel:Nat}{li:Array Bool}
theorem oS{P:Prop}(h:P:=by(simpa using h2)):P:=h
theorem xy{P:Prop}(h:P:=by(simp[hk])):P:=h
theorem C9{P:Prop}(h:P:=by(rw[e];rfl)):P:=h
theorem abb{P:Prop}(h:P:=by(rw[zV,mw];exact CQ hw hm hj)):P:=h
theorem lJ:type_of% @List.mem_singleton:= @List.mem_singleton
theorem ef:type_of% @List.length_cons:= @List.length_cons
theorem tk:type_of% @Nat.add_zero:= @Nat.add_zero
theorem Kw:type_of% @List.map_set:= @List.map_set
theorem tp:type_of% @List.drop_zero:= @List.drop_zero
def VH(C:Cx)(ops:Array Oper)(S:aQ)(Q:Exit→Fr→aQ→Prop)(fuel:Nat)(li:Array Bool)(fr:Fr)(L:aQ):Prop:=
 ∀a w,pR C.N fr a→SL C.B C.w0 L w→SL C.B C.w0 S w→wpAnyH C.P .any ops (NoPanic (lift C Q)) (SL C.B C.w0 S) fuel li a w
theorem aaz{id:Nat}{l:sH}(hm:C.P.follows .mixedOrders=true)(hS:S.Sublist L)(h:VH C l.toArray S Q l.toArray.size (Array.replicate l.toArray.size false) fr L):VC C (.region id l.toArray true) Q fr L:=fun a w ha hw=>
 wp_region_noPanic (wp_region_held hm (h a _ ha (hw.drewN 1) ((hw.drewN 1).sub hS)))
theorem Xa(i:Nat)(ho:ops[i]? =some ⟨some d,op,ty,pos,af,none⟩)(hs:Region.noSelect ops=true)(hf:Region.free .any ops li i=true)(hr:(Region.ready .any ops li).contains i=true)(h:gF C fr S op ty v)(hd:Nat.blt d C.N=true)(k:VH C ops S Q fuel (li.setIfInBounds i true) ((d,v)::fr) L):VH C ops S Q (fuel+1) li fr L:=fun a w ha hw hS=>
 wpAnyH_take ho hs hf hr (fun _ _ _ h=>h) (.inl ⟨rfl,fun w hw=>h a w ha hw _ _ _ _⟩) hS (k _ w (ha.put hd v) hw hS)
theorem ji(i:Nat){j t:Nat}{want:Bool}(ho:ops[i]? =some ⟨some d,op,ty,pos,af,some (j,want)⟩)(hs:Region.noSelect ops=true)(hf:Region.free .any ops li i=true)(hr:(Region.ready .any ops li).contains i=true)(hj:(ops[j]?).bind (·.dst)=some t)(ht:look t fr=some (.bool want))(h:gF C fr S op ty v)(hd:Nat.blt d C.N=true)(k:VH C ops S Q fuel (li.setIfInBounds i true) ((d,v)::fr) L):VH C ops S Q (fuel+1) li fr L:=fun a w ha hw hS=>
 wpAnyH_take ho hs hf hr (fun _ _ _ h=>h) (.inl ⟨alg,fun w hw=>h a w ha hw _ _ _ _⟩) hS (k _ w (ha.put hd v) hw hS)
theorem iy(i:Nat){j t:Nat}{want b:Bool}(ho:ops[i]? =some ⟨some d,op,ty,pos,af,some (j,want)⟩)(hs:Region.noSelect ops=true)(hf:Region.free .any ops li i=true)(hr:(Region.ready .any ops li).contains i=true)(hj:(ops[j]?).bind (·.dst)=some t)(ht:look t fr=some (.bool b))(hb:(b==want)=false)(hd:Nat.blt d C.N=true)(k:VH C ops S Q fuel (li.setIfInBounds i true) ((d,undef)::fr) L):VH C ops S Q (fuel+1) li fr L:=fun a w ha hw hS=>
 wpAnyH_take ho hs hf hr (fun _ _ _ h=>h) (.inr ⟨ale,rfl⟩) hS (k _ w (ha.put hd _) hw hS)
theorem af6(t:Nat){p:Prop}[Decidable p](ht:look t fr=some (.bool (decide p)))(k1:p→VH C ops S Q fuel li ((t,.bool true)::fr) L)(k2:¬p→VH C ops S Q fuel li ((t,.bool false)::fr) L):VH C ops S Q fuel li fr L:=fun a w ha hw hS=>by
 by_cases hp:p
 ·exact k1 hp a w (ha.bool ht (jT hp)) hw hS
 ·exact k2 hp a w (ha.bool ht (lu hp)) hw hS
def Step(C:Cx)(ops:Array Oper)(S:aQ)(Q:Exit→Fr→aQ→Prop)(fuel:Nat)(li:Array Bool)(fr:Fr)(L:aQ)(i:Nat):Prop:=
 ∀a w,pR C.N fr a→SL C.B C.w0 L w→SL C.B C.w0 S w→wpOp C.P ops (NoPanic (lift C Q)) i (fun a' w'=>SL C.B C.w0 S w'∧wpAnyH C.P .any ops (NoPanic (lift C Q)) (SL C.B C.w0 S) fuel (li.setIfInBounds i true) a' w') a w
theorem anV(i:Nat)(hr:Region.ready .any ops li=[i])(h:Step C ops S Q fuel li fr L i):VH C ops S Q (fuel+1) li fr L:=fun a w ha hw hS=>
 wpAnyH_all hr ak fun j hj=>by rw[lJ.1 hj];exact h a w ha hw hS
theorem anW(i j:Nat)(hr:Region.ready .any ops li=[i,j])(h1:Step C ops S Q fuel li fr L i)(h2:Step C ops S Q fuel li fr L j):VH C ops S Q (fuel+1) li fr L:=fun a w ha hw hS=>
 wpAnyH_all hr ak fun k hk=>by
  rcases fk.1 hk with rfl|hk
  ·exact h1 a w ha hw hS
  ·rw[lJ.1 hk];exact h2 a w ha hw hS
inductive Gd(ops:Array Oper)(fr:Fr):Option (Nat×Bool)→Prop where
 |no:Gd ops fr none
 |yes {j t:Nat} {want:Bool} (hj:(ops[j]?).bind (·.dst)=some t) (ht:look t fr=some (.bool want)):Gd ops fr (some (j,want))
theorem Gd.wanted{g:Option (Nat×Bool)}{dd:Option Tmp}{a:Act}{N:Nat}(h:Gd ops fr g)(ha:pR N fr a):Region.wanted ⟨dd,op,ty,pos,af,g⟩ (yielded ops a.tmps)=true:=by
 cases h with
 |no=>rfl
 |yes hj ht=>rw[sE hj (ha.at_ _ _ ht)];simp
theorem SX{i:Nat}{R:qP}{g:Option (Nat×Bool)}(ho:ops[i]? =some ⟨some d,op,ty,pos,af,g⟩)(hg:Gd ops fr g)(h:qx C fr L op ty R)(hd:Nat.blt d C.N=true)(hS:∀v L',R v L'→S.Sublist L')(k:∀v L',R v L'→VH C ops S Q fuel (li.setIfInBounds i true) ((d,v)::fr) L'):Step C ops S Q fuel li fr L i:=fun a w ha hw _=>by
 obtain⟨v,w',L',hr,hR,hs⟩:=h a w ha hw (some d) pos af g;unfold wpOp;simp only[ho];rw[ao (hg.wanted ha)];refine .inl ?_;unfold Oper.wp;have jF:=hs.sub (hS v L' hR);rcases hr with hr|⟨hr,rfl⟩<;>rw[hr]<;>exact⟨jF,k _ _ hR _ _ (ha.put hd _) hs jF⟩
theorem kR{i:Nat}{R:qP}{g:Option (Nat×Bool)}(ho:ops[i]? =some ⟨none,op,ty,pos,af,g⟩)(hg:Gd ops fr g)(h:qx C fr L op ty R)(hS:∀v L',R v L'→S.Sublist L')(k:∀v L',R v L'→VH C ops S Q fuel (li.setIfInBounds i true) fr L'):Step C ops S Q fuel li fr L i:=fun a w ha hw _=>by
 obtain⟨v,w',L',hr,hR,hs⟩:=h a w ha hw none pos af g;unfold wpOp;simp only[ho];rw[ao (hg.wanted ha)];refine .inl ?_;unfold Oper.wp;have jF:=hs.sub (hS v L' hR);rcases hr with hr|⟨hr,rfl⟩<;>rw[hr]<;>exact⟨jF,k _ _ hR _ _ ha hs jF⟩
theorem gz{i:Nat}{ff:FuncId}{tI:List Operand}{Cq:Array TypeId}{vs:cV}{R:qP}{g:Option (Nat×Bool)}(ho:ops[i]? =some ⟨some d,.call {callee:=.value (.func ff),args:=tI.toArray,argTypes:=Cq},ty,pos,af,g⟩)(hg:Gd ops fr g)(hc:aH C.P ff)(he:B8 fr tI=some vs)(h:dL C.P C.B C.w0 ff vs L R)(hd:Nat.blt d C.N=true)(hS:∀v L',R v L'→S.Sublist L')(k:∀v L',R v L'→VH C ops S Q fuel (li.setIfInBounds i true) ((d,v)::fr) L'):Step C ops S Q fuel li fr L i:=fun a w ha hw _=>by
 unfold wpOp;simp only[ho];rw[ao (hg.wanted ha)];refine .inl ?_;unfold Oper.wp;rw[mj hc (fst:= #[]) (cap:= #[]) rfl,ha.B8 he,Array.append_empty,Array.empty_append];refine Ku (h w hw) fun e w' ⟨v,L',he,hR,hs⟩=>?_;subst he;have jF:=hs.sub (hS v L' hR);exact⟨jF,k _ _ hR _ _ (ha.put hd _) hs jF⟩
theorem iL{i:Nat}{g:Option (Nat×Bool)}(ho:ops[i]? =some ⟨some d,op,ty,pos,af,g⟩)(hg:Gd ops fr g)(h:gF C fr L op ty v)(hd:Nat.blt d C.N=true)(hS:S.Sublist L)(k:VH C ops S Q fuel (li.setIfInBounds i true) ((d,v)::fr) L):Step C ops S Q fuel li fr L i:=fun a w ha hw _=>by
 unfold wpOp;simp only[ho];rw[ao (hg.wanted ha)];refine .inl ?_;unfold Oper.wp;rw[h a w ha hw];exact⟨hw.sub hS,k _ _ (ha.put hd _) hw (hw.sub hS)⟩
theorem ajy(base:Fr)(hs:Sub fr base)(hr:Region.ready .any ops li=[])(h:Q .normal base L):VH C ops S Q fuel li fr L:=fun a w ha hw _=>wpAnyH_done hr (show NoPanic (lift C Q) .normal a w from⟨base,L,ha.sub hs,hw,h⟩) _
def evp(fr:Fr):Nat→List (Nat×Operand)→Option (cV)
 |_,[]=>some []
 |k,(i,x)::r=>bif Nat.beq i k then (match ev fr x,evp fr (k+1) r with
  |some v,some vs=>some (v::vs)
  |_,_=>none) else none
theorem Nc{a:Act}{N:Nat}(ha:pR N fr a):∀(parts:List (Nat×Operand)) (k:Nat) (vs:cV) (cells:Array Value),evp fr k parts=some vs→(∀u∈vs,u.oneCell'=true)→k+vs.length≤cells.size→
  ∃out,Instr.fill (fun i=>some (i*1,1)) cells (parts.map fun p=>(p.1,a.eval p.2))=some out∧out.size=cells.size∧(∀j,j<k→out[j]? =cells[j]?)∧(∀j,j<vs.length→out[k+j]? =vs[j]?)
 |[],k,vs,cells,h,_,_=>by
  simp[evp]at h;subst h;exact⟨cells,rfl,rfl,fun _ _=>rfl,fun j hj=>absurd hj ak⟩
 |(i,x)::r,k,vs,cells,h,h1,hl=>by
  unfold evp at h;cases hb:Nat.beq i k with
  |false=>rw[hb]at h;cases h
  |true=>
   rw[hb]at h;have hik:=rm hb;subst hik;simp only[GW]at h;split at h
   ·rename_i v vs' e1 e2;injection h with h;subst h;have hv1:=h1 v ak;have hv:v.cells= #[v]:=by cases v<;>simp_all[Value.cells,Value.oneCell']
    simp only[ef]at hl;obtain⟨out,q1,q2,q3,q4⟩:=Nc ha r (i+1) vs' (cells.setIfInBounds i v) e2 (fun u hu=>h1 u (by simp[hu])) bR;refine⟨out,?_,by simpa using q2,fun j hj=>?_,fun j hj=>?_⟩
    ·simp only[kC,ha.tmp e1,Instr.fill,hv];have:¬(cells.size<i+1):=by omega
     simp only[cE]at q1;simp[this,q1]
    ·rw[q3 j aa];simp[show¬i=j by omega]
    ·rcases j with _|j
     ·rw[tk,q3 i aa];simp[show i<cells.size by omega]
     ·have:=q4 j (by simpa using hj);rw[show i+(j+1)=i+1+j by omega,this];simp
   ·cases h
theorem aG{t e:TypeId}{kk bytes:Nat}{zv:Value}{parts:List (Nat×Operand)}(T:sJ C.P t e 1 bytes zv)(vs:cV)(hp:evp fr 0 parts=some vs)(hk:vs.length=kk)(h1:∀u∈vs,u.oneCell'=true)(tZ:0<kk)(Iv:kk≤1048576):
  qx C fr L (.buildSlice t kk parts.toArray) ty (fun p L'=>∃A,p= .slice A kk kk∧L'= .own e 1 A kk kk vs::L):=fun a w ha hw d pos af gg=>by
 obtain⟨i,hi,hz,iZ,Ea⟩:=T.hi;obtain⟨out,q1,q2,q3,q4⟩:=Nc ha parts 0 vs ((Array.range (kk*1)).map (zv.cells[· %zv.cells.size]!)) hp h1 bR;have ahK:out=vs.toArray:=by
  apply Array.ext
  ·simp at q2;simp[q2,hk]
  ·intro j h1 h2;have:=q4 j oS;rw[mw,Array.getElem?_eq_getElem h1]at this;simp at h2;rw[fm h2]at this;simpa using this
 rw[ahK]at q1;have Kk:¬(16777216<kk):=by omega
 have CC:¬kk=0:=by omega
 refine⟨_,w.alloc (.cells vs.toArray e),_,.inl ?_,⟨some ⟨w.heap.size,0,none⟩,rfl,rfl⟩,hw.gI (Kv w _ none) ⟨by rw[hk,cE],gi _,.inr ⟨_,_,rfl,hw.base,Ev w _,Bj,xy,by simp[←hk]⟩⟩ (.inr ⟨w.heap.size,by simp[Ch.fp,CC],gi _⟩)⟩;simp only[cE]at q1;simp[execOp,Instr.buildSlice,iP T.ht,sizeOf,typeInfo,zeroValue,hi,hz,iZ,Kk,CC,newRow,q1]
section
variable{x y:Operand}{k:IntKind}{m:Int}{f:Ch→aQ}{g o i:Nat}{bt t e:TypeId}{cs:cV}
theorem aM{nn:Nat}(ht:C.P.underlying t=some (.array nn e))(hz:(C.P.info? e).map (·.size)=some 1)(he:ev fr x=some (.pointer (some ⟨g,o,none⟩)))(h2:ev fr y=some (.int k m))(hm:m=(i:Int))(hi:i<nn):
  gF C fr L (.indexAddr t x y) ty (.pointer (some ⟨g,o+i,none⟩)):=fun a w ha hw d pos af gg=>by
 subst hm;simp[execOp,Instr.indexAt,Instr.sureAddr,asIntOf,ha.tmp he,ha.tmp h2,iP ht,hi,GR hz,zV]
theorem eY{b:List Int}{kk:IntKind}(hs:pY C.P t=true)(he:ev fr x=some (.pointer (some ⟨g,0+i,none⟩)))(hm:mG (.bE g bt (ints kk b)) L f)(hi:i<b.length):gF C fr L (.load t x) ty (.int kk (b.getD i 0)):=
 bM hs he hm (by simp[ints,List.getD,fm hi])
theorem GB{b:List Int}{kk:IntKind}{n:Int}(hs:pY C.P t=true)(he:ev fr x=some (.pointer (some ⟨g,0+i,none⟩)))(hv:ev fr y=some (.int kk n))(hm:mG (.bE g bt (ints kk b)) L f)(hi:i<b.length):
  qx C fr L (.store t x y) ty (fun p L'=>L'=f (.bE g bt (ints kk (b.set i n)))):=fun a w ha hw d pos af gg=>by
 obtain⟨v,w',L',h1,h2,h3⟩:=oG (ty:=ty) hs he hv rfl hm bR a w ha hw d pos af gg;refine⟨v,w',L',h1,?_,h3⟩;rw[h2];congr 2;simp[ints,Kw]
theorem DA(kk:Nat)(hs:pq C.P t kk=true)(he:ev fr x=some (br g))(hm:mG (.bE g bt cs) L f)(hk:cs.length=kk):gF C fr L (.load t x) ty (.agg cs.toArray):=
 bY kk hs he hm cs (by rw[tp,←hk,jS]) hk
theorem nV{us:cV}(kk:Nat)(hs:pq C.P t kk=true)(he:ev fr x=some (br g))(hv:ev fr y=some (.agg us.toArray))(h1:∀u∈us,u.oneCell'=true)(hm:mG (.bE g bt cs) L f)(hk:cs.length=kk)(hu:us.length=kk):
  qx C fr L (.store t x y) ty (fun p L'=>L'=f (.bE g bt us)):=fun a w ha hw d pos af gg=>by
 have hb:=(hw.all _ hm.mem).2;have hi:(C.P.info? t).map (·.size)=some us.toArray.size:=by
  have h:=hs;unfold pq at h;rw[zZ]at h;have h2:=h.2;rw[beq_iff_eq]at h2;rw[h2,←hu];simp
 have hr:=run_storeVar_row (P:=C.P) w g bt t cs.toArray us.toArray hb hi (by simp[hk,hu]) (by rw[Array.all_eq_true_iff_forall_mem];simpa using h1);refine⟨undef,w.setRow g us.toArray,f (.bE g bt us),.inr ⟨by simp[execOp,Instr.storeAt,Instr.sureAddr,ha.tmp he,ha.tmp hv,hr],rfl⟩,rfl,?_⟩;refine hw.Qe hm ?_ (fun⟨q1,q2⟩=>⟨q1,?_⟩) (.inr (.inl rfl))
 ·exact⟨rfl,rfl,rfl,ak,fun k _ hk=>N3 w g k _ (fun e=>hk C9)⟩
 ·exact N1 w g cs.toArray _ bt _ q2
theorem gQ{P:Program}{fn:Func}{R:qP}{q u kk:Nat}{ty:TypeId}(hr:fn.results= #[.cell q ty,.tmp u])(hq:look q fr=some (br g))(hs:pq P ty kk=true)(hm:mG (.bE g bt cs) L f)(hk:cs.length=kk){v:Value}(hu:look u fr=some v)(YL:Wk L L')(h:R (.tuple #[.agg cs.toArray,v]) L'):Cp P fn R .ret fr L:=fun B w0 a w ha hw=>by
 subst hk;refine⟨_,L',?_,h,YL.sl hw⟩;have hl:=kI (P:=P) (w:=w) (p:=⟨g,0,none⟩) hs (fun j u hj=>abb);rw[results_cell_tmp hr];simp[ha.at_ _ _ hq,ha.at_ _ _ hu,asAddr,hl]
theorem I4{P:Program}{fn:Func}{R:qP}{q kk:Nat}{ty:TypeId}(hr:fn.results= #[.cell q ty])(hq:look q fr=some (br g))(hs:pq P ty kk=true)(hm:mG (.bE g bt cs) L f)(hk:cs.length=kk)(YL:Wk L L')(h:R (.agg cs.toArray) L'):Cp P fn R .ret fr L:=fun B w0 a w ha hw=>by
 subst hk;refine⟨_,L',?_,h,YL.sl hw⟩;have hl:=kI (P:=P) (w:=w) (p:=⟨g,0,none⟩) hs (fun j u hj=>abb);simp[results,hr,ha.at_ _ _ hq,asAddr,hl]
end
theorem dL.law{P:Program}{ff:FuncId}{args:cV}{w:World}(h:dL P w.heap.size w ff args [] (fun r L=>r= .bool true)):Calls P ff args.toArray w fun e w'=>e= .returned (.bool true)∧Below w.heap.size w w':=
 (h w (SL.Az w)).mono fun e w' ⟨v,M,he,hR,hs⟩=>by subst hR;exact⟨he,hs.below⟩
theorem zu{x:Operand}{xt:TypeId}(h:ev fr x=some (.bool true)):gF C fr L (.unOp .not xt x) ty (.bool false):=iR h
theorem zt{x:Operand}{xt:TypeId}(h:ev fr x=some (.bool false)):gF C fr L (.unOp .not xt x) ty (.bool true):=iR h
def sM(l:List Bool):cV:=l.map .bool
theorem Gy{x:Operand}{t:TypeId}{A:bj}{nn c j:Nat}{b:List Bool}(hs:pY C.P t=true)(he:ev fr x=some (.pointer (A.map (·.add (j*1)))))(hb:aK C.B C.w0 L 1 (.slice A nn c) nn (sM b))(hj:j<nn):gF C fr L (.load t x) ty (.bool (b.getD j false)):=fun a w ha hw=>by
 have hl:=hb.len hw;simp[sM]at hl;rw[cE]at he;refine au hs he hb aa ?_ a w ha hw;simp[sM,List.getD,fm (show j<b.length by omega)]
end
def Bx(P:Program)(t:TypeId):Bool:=match P.info? t with|some i=>Nat.blt 0 i.size|none=>false
theorem Dz{C:Cx}{fr:Fr}{L:aQ}{x:Operand}{ty t:TypeId}{g o:Nat}{fs:Array Field}{i:Nat}{fd:Field}(ht:C.P.underlying t=some (.struct fs))(hf:fs[i]? =some fd)(hz:Bx C.P fd.type=true)(he:ev fr x=some (.pointer (some ⟨g,o,none⟩))){q:Nat}(hq:o+fd.offset=q):
  gF C fr L (.fieldAddr t x i) ty (.pointer (some ⟨g,q,none⟩)):=by
 unfold Bx at hz;cases hi:C.P.info? fd.type with
 |none=>rw[hi]at hz;cases hz
 |some f=>
  rw[hi]at hz;have:0<f.size:=by simpa[Nat.blt_eq]using hz
  exact Gw (sz:=f.size-1) ht hf (by rw[hi];simp;omega) he hq
theorem kJ{C:Cx}{cd:Code}{Q:Exit→Fr→aQ→Prop}{fr:Fr}{L:aQ}{e:TypeId}{size n c:Nat}{A:bj}{xs:cV}(hm:Ch.own e size A n c xs∈L)(hn:0<n)(h:∀ad,A=some ad→VC C cd Q fr L):VC C cd Q fr L:=fun a w ha hw=>by
 rcases(hw.all _ hm).2.2 with h0|⟨g,cur,rfl,_⟩
 ·have:n≤c:=(hw.all _ hm).2.1;omega
 ·exact h _ rfl a w ha hw
theorem aO{C:Cx}{fr:Fr}{L:aQ}{x y:Operand}{ty t e:TypeId}{k:IntKind}{m:Int}{size nn c i:Nat}{ad:Addr}(ht:C.P.underlying t=some (.slice e))(hz:(C.P.info? e).map (·.size)=some size)(he:ev fr x=some (.slice (some ad) nn c))(h2:ev fr y=some (.int k m))(hm:m=(i:Int))(hi:i<nn):
  gF C fr L (.indexAddr t x y) ty (.pointer ((some ad).map (·.add (i*size)))):=fun a w ha hw d pos af gg=>by
 subst hm;simp[execOp,Instr.indexAt,asIntOf,ha.tmp he,ha.tmp h2,iP ht,hi,GR hz]
theorem fS{C:Cx}{fr:Fr}{L:aQ}{x:Operand}{ty t:TypeId}{fs:Array Field}{i j:Nat}{fd:Field}{size nn c:Nat}{A:bj}{xs:cV}(ht:C.P.underlying t=some (.struct fs))(hf:fs[i]? =some fd)(hz:Bx C.P fd.type=true)(he:ev fr x=some (.pointer (A.map (·.add j))))(hb:aK C.B C.w0 L size (.slice A nn c) nn xs)(hn:0<nn){q:Nat}(hq:fd.offset=q):
  gF C fr L (.fieldAddr t x i) ty (.pointer (A.map (fun ad=>(ad.add j).add q))):=by
 unfold Bx at hz;cases hi:C.P.info? fd.type with
 |none=>rw[hi]at hz;cases hz
 |some f=>
  rw[hi]at hz;have:0<f.size:=by simpa[Nat.blt_eq]using hz
  exact xL (sz:=f.size-1) ht hf (by rw[hi];simp;omega) he hb hn hq
theorem wJ{C:Cx}{fr:Fr}{L:aQ}{ty t:TypeId}{parts:List (Nat×Operand)}(us:List (Nat×Value))(cs:cV)(hp:parts.map (fun p=>(p.1,ev fr p.2))=us.map (fun p=>(p.1,some p.2)))(hb:C.P.built t us=some cs.toArray):
  gF C fr L (.build t parts.toArray) ty (.agg cs.toArray):=fun a w ha hw d pos af gg=>by
 have hps:parts.map (fun p=>(p.1,a.eval p.2))=us:=by
  clear hb;induction parts generalizing us with
  |nil=>cases us with|nil=>rfl|cons _ _=>cases hp
  |cons p ps ih=>
   cases us with
   |nil=>cases hp
   |cons u us=>
    simp only[kC,List.cons.injEq,Cf]at hp;obtain⟨⟨h1,h2⟩,h3⟩:=hp;simp only[kC,ha.tmp h2,h1,ih us h3]
 have:=run_build (P:=C.P) w t us.toArray cs.toArray (by simpa using hb);subst hps;simp only[List.toArray]at this;simp[execOp]at this⊢;rw[this];rfl
theorem cu{C:Cx}{fr:Fr}{L:aQ}{ty t:TypeId}(cs:cV)(hb:C.P.built t []=some cs.toArray):gF C fr L (.build t #[]) ty (.agg cs.toArray):=fun a w ha hw d pos af gg=>by
 have:=run_build (P:=C.P) w t #[] cs.toArray (by simpa using hb);simp[execOp,this]
theorem eG{C:Cx}{fr:Fr}{L:aQ}{ty t:TypeId}{parts:List (Nat×Operand)}(us:List (Nat×Value))(cs:cV)(hp:parts.map (fun p=>(p.1,ev fr p.2))=us.map (fun p=>(p.1,some p.2)))(tV:us.flatMap (fun p=>p.2.cells.toList)=cs)(hb:C.P.built t us=some cs.toArray):
 gF C fr L (.build t parts.toArray) ty (.agg cs.toArray):=wJ us cs hp hb
end
theorem oe{P:Prop}(h:P:=by(simp[hx])):P:=h
theorem ado:type_of% @List.countP_le_length:= @List.countP_le_length
theorem N6:type_of% @List.countP_cons:= @List.countP_cons
theorem pZ:type_of% @List.ext_getElem:= @List.ext_getElem
theorem la:type_of% @Nat.pow_le_pow_right:= @Nat.pow_le_pow_right
def num(l:al)(k:Nat):Nat:=l.countP fun c=>c.toNat==k
def tL(l:al):List Int:=(List.range 16).map fun k=>((num l k:Nat):Int)
@[simp] theorem ajL(l:al):(tL l).length=16:=by simp[tL]
theorem Dl(l:al){k:Nat}(h:k<16):(tL l).getD k 0=(num l k:Int):=by
 simp[tL,List.getD,h]
theorem w3(l:al)(k:Nat):num l k≤l.length:=ado
theorem ER(l:al)(c:UInt8)(k:Nat):num (l++[c]) k=num l k+if c.toNat=k then 1 else 0:=by
 unfold num;rw[List.countP_append,N6,List.countP_nil];simp
theorem yB(l:al)(c:UInt8)(k:Nat):num (c::l) k=num l k+if c.toNat=k then 1 else 0:=by
 unfold num;rw[N6];simp
theorem abC{l:al}{c:UInt8}(hc:c.toNat<16):(tL l).set c.toNat ((tL l).getD c.toNat 0+1)=tL (l++[c]):=by
 rw[Dl l hc];apply pZ
 ·simp
 ·intro i h1 h2;have hi:i<16:=by simpa using h2
  by_cases e:c.toNat=i
  ·subst e;simp[tL,ER]
  ·simp[tL,ER,e]
theorem ag4:tL []=List.replicate 16 0:=by decide
def w8(b:List Int):Nat→Int
 |0=>0
 |k+1=>w8 b k+if k=0 then 0 else b.getD k 0*2^(15-k)
def tM(b:List Int):Nat→Int
 |0=>0
 |k+1=>tM b k+if k=0 then 0 else b.getD k 0
theorem Z3(b:List Int){k:Nat}(hk:1≤k):w8 b (k+1)=w8 b k+b.getD k 0*2^(15-k):=by
 conv=>lhs;unfold w8
 rw[aw aa]
theorem XK(b:List Int){k:Nat}(hk:1≤k):tM b (k+1)=tM b k+b.getD k 0:=by
 conv=>lhs;unfold tM
 rw[aw aa]
def Few(b:List Int):Prop:=b.length=16∧∀i,0≤b.getD i 0∧b.getD i 0≤300
theorem Few.sum{b:List Int}(h:Few b):∀k,0≤w8 b k∧w8 b k≤k*9830400
 |0=>by simp[w8]
 |k+1=>by
  have ih:=h.sum k;have hb:=h.2 k;unfold w8;split
  ·omega
  ·have h2:(2:Int)^(15-k)≤2^15:=by
    have:(2:Nat)^(15-k)≤2^15:=la aa aa
    exact_mod_cast this
   have h3:(0:Int)<2^(15-k):=Int.pow_pos aa;have h4:0≤b.getD k 0*2^(15-k):=Int.mul_nonneg hb.1 aa;have h5:b.getD k 0*2^(15-k)≤300*2^15:=Int.mul_le_mul hb.2 h2 aa aa;omega
theorem Few.rL{b:List Int}(h:Few b):∀k,0≤tM b k∧tM b k≤k*300
 |0=>by simp[tM]
 |k+1=>by
  have ih:=h.rL k;have hb:=h.2 k;unfold tM;split<;>omega
theorem J7{l:al}(h:l.length≤300):Few (tL l):=by
 refine⟨ak,fun i=>?_⟩;by_cases hi:i<16
 ·rw[Dl l hi];have:=w3 l i;omega
 ·simp[List.getD,show(tL l)[i]? =none from zX bR]
theorem UQ{b:List Int}(h:Few b)(i:Nat){x:Int}(hx:0≤x∧x≤300):Few (b.set i x):=by
 refine⟨by simpa using h.1,fun j=>?_⟩;by_cases e:i=j
 ·subst e;by_cases hi:i<b.length
  ·simp[List.getD,hi,hx]
  ·simp[List.getD,hi]
 ·have:=h.2 j;simpa[List.getD,e]using this
def qU(l:al):List Int:=(tL l).set 0 0
theorem cW(l:al){k:Nat}(h:k<16)(h0:k≠0):(qU l).getD k 0=(num l k:Int):=by
 rw[←Dl l h];simp[qU,List.getD,Ne.symm h0]
def Fit(l:al):Prop:=l.length≤300∧∀c∈l,c.toNat≤15
instance (l:List UInt8):Decidable (Fit l):=inferInstanceAs (Decidable (_∧_))
def Good(l:al):Prop:=Fit l∧(tM (qU l) 16=0∨w8 (qU l) 16=32768∨tM (qU l) 16=1∧(qU l).getD 1 0=1)
instance (l:List UInt8):Decidable (Good l):=inferInstanceAs (Decidable (_∧_))
theorem acq{l:al}(h:Fit l):Good l↔(tM (qU l) 16=0∨w8 (qU l) 16=32768∨tM (qU l) 16=1∧(qU l).getD 1 0=1):=⟨fun g=>g.2,fun g=>⟨h,g⟩⟩
theorem Na{l:al}(h:Fit l):Few (qU l):=UQ (J7 h.1) 0 aa
def chk(l:al):Int:=if Good l then 0 else 7
def qj:al→Nat
 |[]=>0
 |c::r=>(if c.toNat=0 then 0 else 2^(15-c.toNat))+qj r
def nz(l:al):Nat:=l.countP fun c=>c.toNat != 0
theorem RZ(l:al)(c:UInt8):qj (l++[c])=qj l+if c.toNat=0 then 0 else 2^(15-c.toNat):=by
 induction l with
 |nil=>simp[qj]
 |cons x r ih=>simp only[nI,qj,ih];omega
theorem CJ(l:al)(c:UInt8):nz (c::l)=nz l+if c.toNat=0 then 0 else 1:=by
 unfold nz;rw[N6];by_cases h:c.toNat=0<;>simp[h]
theorem ai3(l:al):w8 (qU l) 16=(num l 1*16384+num l 2*8192+num l 3*4096+num l 4*2048+num l 5*1024+num l 6*512+num l 7*256+num l 8*128+num l 9*64+num l 10*32+num l 11*16+num l 12*8+num l 13*4+num l 14*2+num l 15:Nat):=by
 simp only[w8,cW l (show 1<16 by omega) aa,cW l (show 2<16 by omega) aa,cW l (show 3<16 by omega) aa,cW l (show 4<16 by omega) aa,cW l (show 5<16 by omega) aa,cW l (show 6<16 by omega) aa,cW l (show 7<16 by omega) aa,cW l (show 8<16 by omega) aa,cW l (show 9<16 by omega) aa,cW l (show 10<16 by omega) aa,cW l (show 11<16 by omega) aa,cW l (show 12<16 by omega) aa,cW l (show 13<16 by omega) aa,cW l (show 14<16 by omega) aa,cW l (show 15<16 by omega) aa];simp
theorem ag3(l:al):tM (qU l) 16=(num l 1+num l 2+num l 3+num l 4+num l 5+num l 6+num l 7+num l 8+num l 9+num l 10+num l 11+num l 12+num l 13+num l 14+num l 15:Nat):=by
 simp only[tM,cW l (show 1<16 by omega) aa,cW l (show 2<16 by omega) aa,cW l (show 3<16 by omega) aa,cW l (show 4<16 by omega) aa,cW l (show 5<16 by omega) aa,cW l (show 6<16 by omega) aa,cW l (show 7<16 by omega) aa,cW l (show 8<16 by omega) aa,cW l (show 9<16 by omega) aa,cW l (show 10<16 by omega) aa,cW l (show 11<16 by omega) aa,cW l (show 12<16 by omega) aa,cW l (show 13<16 by omega) aa,cW l (show 14<16 by omega) aa,cW l (show 15<16 by omega) aa];simp
theorem rp:∀l:al,(∀c∈l,c.toNat≤15)→qj l=num l 1*16384+num l 2*8192+num l 3*4096+num l 4*2048+num l 5*1024+num l 6*512+num l 7*256+num l 8*128+num l 9*64+num l 10*32+num l 11*16+num l 12*8+num l 13*4+num l 14*2+num l 15∧
  nz l=num l 1+num l 2+num l 3+num l 4+num l 5+num l 6+num l 7+num l 8+num l 9+num l 10+num l 11+num l 12+num l 13+num l 14+num l 15
 |[],_=>by simp[qj,nz,num]
 |c::r,h=>by
  have ih:=rp r fun x hx=>h x oe;have hc:=h c ak;simp only[qj,CJ,yB,ih.1,ih.2];have ki:c.toNat=0∨c.toNat=1∨c.toNat=2∨c.toNat=3∨c.toNat=4∨c.toNat=5∨c.toNat=6∨c.toNat=7∨c.toNat=8∨c.toNat=9∨c.toNat=10∨c.toNat=11∨c.toNat=12∨c.toNat=13∨c.toNat=14∨c.toNat=15:=by omega
  generalize c.toNat=x at ki;rcases ki with h|h|h|h|h|h|h|h|h|h|h|h|h|h|h|h<;>subst h<;>simp<;>omega
theorem Z4{l:al}(h:Fit l):w8 (qU l) 16=(qj l:Int):=by rw[ai3,(rp l h.2).1]
theorem alx{l:al}(h:Fit l):tM (qU l) 16=(nz l:Int):=by rw[ag3,(rp l h.2).2]
theorem D7{l:al}(h:Fit l):Good l↔(nz l=0∨nz l=1∧num l 1=1)∨qj l=32768:=by
 unfold Good;rw[Z4 h,alx h,cW l aa aa];constructor
 ·rintro⟨_,h|h|h⟩<;>omega
 ·rintro((h'|h')|h')<;>exact⟨h,aa⟩
theorem kl{P:Prop}(h:P:=by(cases h)):P:=h
theorem nK:type_of% @Nat.pow_succ:= @Nat.pow_succ
theorem Kx:type_of% @List.take_sublist:= @List.take_sublist
theorem Ex:type_of% @List.getElem_map:= @List.getElem_map
theorem GY:type_of% @List.getElem_range:= @List.getElem_range
theorem N7:type_of% @List.getElem_set:= @List.getElem_set
theorem wX:type_of% @List.set_append_right:= @List.set_append_right
theorem fA:type_of% @List.take_of_length_le:= @List.take_of_length_le
theorem tq:type_of% @Nat.mul_assoc:= @Nat.mul_assoc
theorem nL:type_of% @Nat.mul_comm:= @Nat.mul_comm
def fst(l:al):Nat→Nat
 |0=>0
 |1=>0
 |k+2=>(fst l (k+1)+num l (k+1))*2
theorem fx(l:al){k:Nat}(h:1≤k):fst l (k+1)=(fst l k+num l k)*2:=by
 obtain⟨j,rfl⟩:∃j,k=j+1:=⟨k-1,aa⟩
 rfl
theorem acj{l:al}(hl:l.length≤300):∀k,fst l k+600≤600*2^k
 |0=>by simp[fst]
 |1=>by simp[fst]
 |k+2=>by
  have ih:=acj hl (k+1);have hn:=w3 l (k+1);rw[fx l aa,nK 2 (k+1)];omega
theorem u5{l:al}(hl:l.length≤300){k:Nat}(hk:k≤16):fst l k≤39321600:=by
 have h1:=acj hl k;have h2:=la (show 1≤2 by omega) hk;omega
def place(l:al)(k:Nat)(s:Nat):Nat:=fst l k+num (l.take s) k
def code(l:al)(s:Nat):Int:=if (l.getD s 0).toNat=0 then 0 else IntKind.u16.wrap (place l (l.getD s 0).toNat s:Int)
def gd(l:al):List Int:=(List.range l.length).map (code l)
@[simp] theorem Gv(l:al):(gd l).length=l.length:=by simp[gd]
theorem wI(l:al){s:Nat}(h:s<l.length):(gd l).getD s 0=code l s:=by
 simp[gd,List.getD,h]
theorem jP{l:al}{s:Nat}(k:Nat)(h:s<l.length):num (l.take (s+1)) k=num (l.take s) k+if (l.getD s 0).toNat=k then 1 else 0:=by
 rw[ba h 0,ER]
theorem uA(l:al)(s k:Nat):num (l.take s) k≤num l k:=by
 unfold num;exact List.Sublist.countP_le (Kx s l)
def xZ(l:al)(k:Nat):List Int:=(List.range 17).map fun j=>if j≤k then (fst l j:Int) else 0
@[simp] theorem aj9(l:al)(k:Nat):(xZ l k).length=17:=by simp[xZ]
theorem acg(l:al){k j:Nat}(h:j≤k)(h2:j<17):(xZ l k).getD j 0=(fst l j:Int):=by
 simp[xZ,List.getD,h2,h]
theorem ach(l:al):List.replicate 17 (0:Int)=xZ l 1:=by
 have h1:fst l 1=0:=rfl;have h0:fst l 0=0:=rfl;have e:xZ l 1=(List.range 17).map fun _=>(0:Int):=by
  unfold xZ;refine sb fun j _=>?_;split
  ·rename_i h;have:j=0∨j=1:=by omega
   rcases this with rfl|rfl
   ·rw[h0];rfl
   ·rw[h1];rfl
  ·rfl
 rw[e];decide
theorem Yg(l:al){k:Nat}:(xZ l k).set (k+1) (fst l (k+1):Int)=xZ l (k+1):=by
 apply pZ
 ·simp
 ·intro i h1 h2;by_cases e:k+1=i
  ·subst e;simp[xZ]
  ·have:i≤k↔i≤k+1:=by omega
   simp[xZ,e,this]
def vC(l:al)(s:Nat):List Int:=(List.range 17).map fun j=>if j=0 then 0 else (place l j s:Int)
@[simp] theorem Nj(l:al)(k:Nat):(vC l k).length=17:=by simp[vC]
theorem aci(l:al){s j:Nat}(h:1≤j)(h2:j<17):(vC l s).getD j 0=(place l j s:Int):=by
 have:¬j=0:=by omega
 simp[vC,List.getD,h2,this]
theorem Yj(l:al):xZ l 16=vC l 0:=by
 apply pZ
 ·simp
 ·intro i h1 h2;have hi:i<17:=by simpa using h1
  by_cases e:i=0
  ·subst e;rfl
  ·simp[xZ,vC,e,place,num,show i≤16 by omega]
theorem Yh{l:al}{s:Nat}(h:s<l.length)(h0:(l.getD s 0).toNat=0):vC l s=vC l (s+1):=by
 apply pZ
 ·simp
 ·intro i h1 h2;by_cases e:i=0
  ·simp[vC,e]
  ·simp only[vC,Ex,GY,e,if_false,place,jP i h];rw[aw aa];rfl
theorem Yi{l:al}{s:Nat}(h:s<l.length)(h1:1≤(l.getD s 0).toNat)(h2:(l.getD s 0).toNat<17):(vC l s).set (l.getD s 0).toNat ((place l (l.getD s 0).toNat s:Int)+1)=vC l (s+1):=by
 apply pZ
 ·simp
 ·intro i k1 k2;by_cases e:(l.getD s 0).toNat=i
  ·rw[N7,ao e];subst e;have hn:=jP (l:=l) (l.getD s 0).toNat h;rw[ao rfl]at hn;simp only[vC,Ex,GY,place,hn];rw[aw aa];omega
  ·rw[N7,aw e];by_cases e0:i=0
   ·simp[vC,e0]
   ·simp only[vC,Ex,GY,e0,if_false,place,jP i h];rw[aw e];rfl
theorem OJ{l:al}(hl:l.length≤300){k:Nat}(hk:k≤16)(s:Nat):place l k s≤39321900:=by
 have h1:=u5 hl hk;have h2:=uA l s k;have h3:=w3 l k;unfold place;omega
def Ci(l:al)(s:Nat):List Int:=(gd l).take s++List.replicate (l.length-s) 0
@[simp] theorem OG(l:al){s:Nat}(h:s≤l.length):(Ci l s).length=l.length:=by simp[Ci];omega
theorem ZC(l:al):Ci l 0=List.replicate l.length 0:=by simp[Ci]
theorem IQ{l:al}{s:Nat}(h:s<l.length):(Ci l s).set s (code l s)=Ci l (s+1):=by
 unfold Ci;rw[wX _ _ bR];have e:s-((gd l).take s).length=0:=by simp;omega
 rw[e,show l.length-s=(l.length-(s+1))+1 by omega,zU,List.set_cons_zero,ba (l:=gd l) (k:=s) ny 0,wI l h,bV];rfl
theorem ZB{l:al}{s:Nat}(h:s<l.length)(h0:(l.getD s 0).toNat=0):Ci l s=Ci l (s+1):=by
 rw[←IQ h];have:code l s=0:=ao h0;rw[this];apply pZ
 ·simp
 ·intro i k1 k2;rw[N7];split
  ·rename_i e;subst e;have k3:s<((gd l).take s++List.replicate (l.length-s) (0:Int)).length:=k1;show((gd l).take s++List.replicate (l.length-s) (0:Int))[s]'k3=0;rw[List.getElem_append_right bR];simp
  ·rfl
theorem ad_(l:al):Ci l l.length=gd l:=by
 unfold Ci;rw[fA ak];simp
def aj7(l:al)(L s j:Nat):Prop:=(l.getD j 0).toNat≠0∧((l.getD j 0).toNat<L∨(l.getD j 0).toNat=L∧j<s)
instance (l:List UInt8)(L s j:Nat):Decidable (aj7 l L s j):=inferInstanceAs (Decidable (_∧_))
def aqY(l:al)(L s:Nat):List Int:=(List.range l.length).map fun j=>if aj7 l L s j then code l j else 0
@[simp] theorem akB(l:al)(L s:Nat):(aqY l L s).length=l.length:=by simp[aqY]
theorem ZG{l:al}{L s:Nat}(hs:s<l.length)(h:(l.getD s 0).toNat=L):place l L (s+1)=place l L s+1:=by
 unfold place;rw[jP L hs,ao h];omega
theorem EX{l:al}{L:Nat}(hL:1≤L):place l (L+1) 0=2*place l L l.length:=by
 unfold place;rw[fx l hL,jS];simp[num];omega
def RC(l:al)(L s next was:Nat)(any:Bool):Prop:=was≤L∧(any=true→(next+1)*2^(L-was)=place l L s)∧(any=false→place l L s=0∧next=0)
theorem RC.start(l:al):RC l 1 0 0 0 false:=⟨aa,(fun h=>kl),fun _=>⟨by simp[place,fst,num],rfl⟩⟩
theorem RC.next{l:al}{L next was:Nat}{any:Bool}(h:RC l L l.length next was any)(hL:1≤L):RC l (L+1) 0 next was any:=by
 obtain⟨h1,h2,h3⟩:=h;refine⟨aa,fun h=>?_,fun h=>?_⟩
 ·rw[EX hL,←h2 h,show L+1-was=(L-was)+1 by omega,nK];rw[←tq,nL]
 ·rw[EX hL,(h3 h).1];exact⟨rfl,(h3 h).2⟩
theorem RX{l:al}(h:Good l):qj l≤32768:=by
 have h1:=(D7 h.1).1 h;have h2:=rp l h.1.2;omega
theorem qX{l:al}(h:Good l){k:Nat}(h1:1≤k)(h2:k≤15):fst l k+num l k≤2^k:=by
 have hk:=RX h;have e:=(rp l h.1.2).1;have e1:fst l 1=0:=rfl;have e2:=fx l (k:=1) aa;have e3:=fx l (k:=2) aa;have e4:=fx l (k:=3) aa;have e5:=fx l (k:=4) aa;have e6:=fx l (k:=5) aa;have e7:=fx l (k:=6) aa;have e8:=fx l (k:=7) aa;have e9:=fx l (k:=8) aa;have e10:=fx l (k:=9) aa;have e11:=fx l (k:=10) aa;have e12:=fx l (k:=11) aa;have e13:=fx l (k:=12) aa;have e14:=fx l (k:=13) aa;have e15:=fx l (k:=14) aa;have hc:k=1∨k=2∨k=3∨k=4∨k=5∨k=6∨k=7∨k=8∨k=9∨k=10∨k=11∨k=12∨k=13∨k=14∨k=15:=by omega
 rcases hc with h|h|h|h|h|h|h|h|h|h|h|h|h|h|h<;>subst h<;>simp only[Nat.reduceAdd,Nat.reducePow]at*<;>omega
theorem yG{l:al}{s k:Nat}(hs:s<l.length)(h:(l.getD s 0).toNat=k):place l k s+1≤fst l k+num l k:=by
 have h1:=ZG hs h;have h2:=uA l (s+1) k;unfold place at*;omega
theorem ael(l:al)(k s:Nat):fst l k≤place l k s:=Nat.le_add_right _ _
theorem U0(l:al){k:Nat}(h:1≤k):∀d,1≤d→(fst l k+num l k)*2^d≤fst l (k+d)
 |0,h=>absurd h aa
 |1,_=>by rw[fx l h];omega
 |d+2,_=>by
  have ih:=U0 l h (d+1) aa;have e:fst l (k+(d+2))=(fst l (k+(d+1))+num l (k+(d+1)))*2:=fx l (k:=k+(d+1)) aa;rw[e,show d+2=(d+1)+1 from rfl,nK,←tq];exact oA 2 (jc ih (Nat.le_add_right _ _))
theorem MD{l:al}(hg:Good l){s:Nat}(hs:s<l.length)(h0:(l.getD s 0).toNat≠0):code l s=(place l (l.getD s 0).toNat s:Int):=by
 unfold code;rw[aw h0];have hu:=hg.1.2 _ (bg hs 0);have h1:=yG hs rfl;have h2:=qX hg (k:=(l.getD s 0).toNat) aa hu;have h3:=la (show 1≤2 by omega) hu;exact akZ aa aa
theorem QL{l:al}(hg:Good l){s:Nat}(hs:s<l.length)(h0:(l.getD s 0).toNat≠0):place l (l.getD s 0).toNat s<32768:=by
 have hu:=hg.1.2 _ (bg hs 0);have h1:=yG hs rfl;have h2:=qX hg (k:=(l.getD s 0).toNat) aa hu;have h3:=la (show 1≤2 by omega) hu;omega
section
section
variable{C:Cx}{Q:Exit→Fr→aQ→Prop}{fr jC:Fr}{L L':aQ}{cd:Code}{ops:Array Oper}{l:sH}{op:Op}{ty:TypeId}{pos:String}{af:Array Edge}{d:Nat}{v:Value}
variable{x y z:Operand}{k:IntKind}{m n:Int}{f:Ch→aQ}{g o:Nat}{bt t e:TypeId}{cs:cV}
theorem z7:type_of% @List.getElem?_append_left:= @List.getElem?_append_left
theorem sd:type_of% @List.length_nil:= @List.length_nil
theorem se:type_of% @Nat.zero_mul:= @Nat.zero_mul
theorem lE{size bytes:Nat}{zv:Value}(T:sJ C.P t e size bytes zv):qx C fr L (.buildSlice t 0 #[]) ty (fun p L'=>∃A,p= .slice A 0 0∧L'= .own e size A 0 0 []::L):=fun a w ha hw d pos af gg=>by
 obtain⟨i,hi,hz,iZ,Ea⟩:=T.hi;subst iZ;refine⟨.slice (some ⟨w.heap.size,0,none⟩) 0 0,w.alloc (.cells #[] e),_,.inl ?_,⟨some ⟨w.heap.size,0,none⟩,rfl,rfl⟩,hw.gI (Kv w _ none) ⟨ak,gi _,.inl rfl⟩ (.inl rfl)⟩;simp[execOp,Instr.buildSlice,iP T.ht,sizeOf,typeInfo,hi,Instr.fill,newRow];rw[show Array.range 0= #[] from by simp[Array.range],Array.map_empty]
theorem Nh:∀(us pre:cV) (cells:Array Value),pre.length+us.length=cells.size→(∀j,j<pre.length→cells[j]? =pre[j]?)→(us.zipIdx pre.length).foldl (fun cs (c,j)=>cs.setIfInBounds j c) cells=(pre++us).toArray
 |[],pre,cells,h,hp=>by
  simp only[List.zipIdx_nil,List.foldl_nil,gj];simp at h;apply Array.ext
  ·simp[h]
  ·intro j h1 h2;have:=hp j oS;rw[Array.getElem?_eq_getElem h1]at this;simp at h2;rw[fm h2]at this;simpa using this
 |u::us,pre,cells,h,hp=>by
  rw[List.zipIdx_cons,List.foldl_cons];simp only[ef]at h;have:=Nh us (pre++[u]) (cells.setIfInBounds pre.length u) bR (fun j hj=>by
   simp at hj;rw[Array.getElem?_setIfInBounds];by_cases hjp:pre.length=j
   ·subst hjp;simp;omega
   ·rw[aw hjp,hp j aa,z7 aa])
  simpa using this
theorem ab7{size:Nat}{v:Value}{us:cV}(hv:v.cells=us.toArray)(hl:us.length=size)(Z:Array Value)(hZ:Z.size=size):Instr.fill (fun i=>some (i*size,size)) Z [(0,v)]=some us.toArray:=by
 have h:=Nh us [] Z (by simpa[hZ]using hl) ak;simp only[sd,nG]at h;simp only[Instr.fill,hv,se,mw,wW,hl];simp[hZ];exact h
theorem MX{size bytes:Nat}{zv:Value}{us:cV}(T:sJ C.P t e size bytes zv)(he:ev fr x=some v)(hv:v.cells=us.toArray)(hl:us.length=size)(Iv:size≤1000):qx C fr L (.buildSlice t 1 #[(0,x)]) ty (fun p L'=>∃A,p= .slice A 1 1∧L'= .own e size A 1 1 us::L):=by
 obtain⟨i,hi,hz,iZ,Ea⟩:=T.hi;exact mi (parts:=[(0,x)]) (us:=[(0,v)]) (zv:=zv) T.ht (by rw[hi];simp[iZ]) T.hs aa aa (by rw[hi];simpa using hz) (by simp[he]) (ab7 hv hl _ ak) aa
theorem rI{size bytes d1 d2:Nat}{zv:Value}{ty1 ty2:TypeId}{ani anj:String}{af1 af2:Array Edge}{s:Operand}{A:bj}{n c:Nat}{xs us:cV}(T:sJ C.P t e size bytes zv)(he:ev fr x=some v)(hv:v.cells=us.toArray)(za:us.length=size)(Iv:size≤1000)(h1:∀u∈us,u.oneCell'=true)(hd1:Nat.blt d1 C.N=true)(Yz:Nat.blt d2 C.N=true)(hs:ev ((d1,.slice none 0 0)::fr) s=some (.slice A n c))(hsn:∀u,ev ((d1,u)::fr) s=ev ((d1,.slice none 0 0)::fr) s)(hl:mG (.own e size A n c xs) L f)(jR:(n+1)*bytes≤140737488355328)(Lz:n+1≤140737488355328)(kk:∀A1 A' c',VL C ops Q l ((d2,.slice A' (n+1) c')::(d1,.slice A1 1 1)::fr) (f (.own e size A' (n+1) c' (xs++us)))):
  VL C ops Q (⟨some d1,.buildSlice t 1 #[(0,x)],ty1,ani,af1,none⟩::⟨some d2,.call {callee:=.builtin .append,args:= #[s,.tmp d1],argTypes:= #[t,t]},ty2,anj,af2,none⟩::l) fr L:=by
 refine lO (MX T he hv za Iv) hd1 ?_;rintro _ _ ⟨A1,rfl,rfl⟩;refine lO (bT (m:=1) (news:=us) T ((hsn _).trans hs) (.tl hl) (yv:=.slice A1 1 1) (by simp[ev,look]) (aK.own (List.Mem.head _)) h1 jR Lz) Yz ?_;rintro _ _ ⟨A2,c2,rfl,rfl⟩;intro a w ha hw;exact kk A1 A2 c2 a w ha hw.tail
theorem Tw{size nn c:Nat}{A:bj}{xs:cV}(hb:aK C.B C.w0 L size (.slice A nn c) nn xs)(h:nn≤c→xs.length=nn*size→VC C cd Q fr L):VC C cd Q fr L:=fun a w ha hw=>by
 obtain⟨A',c',hv,hc,hl,_⟩:=hb w hw;injection hv with _ _ h3;subst h3;exact h hc hl a w ha hw
theorem dL.xk{P:Program}{B:Nat}{w0:World}{ff:FuncId}{args:cV}{R:qP}{size nn c:Nat}{A:bj}{xs:cV}(hb:aK B w0 L size (.slice A nn c) nn xs)(h:nn≤c→xs.length=nn*size→dL P B w0 ff args L R):dL P B w0 ff args L R:=fun w hw=>by
 obtain⟨A',c',hv,hc,hl,_⟩:=hb w hw;injection hv with _ _ h3;subst h3;exact h hc hl w hw
theorem r7{A:bj}{nn c:Nat}{xt yt:TypeId}(ht:C.P.underlying xt=some (.slice e))(h1:ev fr x=some (.slice A nn c))(h2:ev fr y=some (.slice none 0 0)):gF C fr L (.binOp .eql xt x y yt) ty (.bool A.isNone):=fun a w ha hw d pos af g=>by
 have he:(eqGuard .eql xt x y (.slice A nn c) (.slice none 0 0)).run C.P w= .ok () w:=by simp[eqGuard]
 simp only[execOp,ha.tmp h1,ha.tmp h2,Kt,he,Lib.run_eql_slice_nil w xt e A nn c 0 0 ht,ug,GU]
end
def aqN(zs:cV):List (Nat×Value)→cV
 |[]=>zs
 |(o,v)::r=>aqN (zs.take o++(v.cells.toList++zs.drop (o+v.cells.size))) r
theorem bw{C:Cx}{fr:Fr}{L:aQ}{ty t:TypeId}{parts:List (Nat×Operand)}(us:List (Nat×Value))(zs:cV)(os:bf)(cs:cV)(hp:parts.map (fun p=>(p.1,ev fr p.2))=us.map (fun p=>(p.1,some p.2)))(tV:aqN zs (os.zip (us.map (·.2)))=cs)(hb:C.P.built t us=some cs.toArray):
 gF C fr L (.build t parts.toArray) ty (.agg cs.toArray):=wJ us cs hp hb
theorem aD{P:Program}{fn:Func}{R:qP}{ee:Exit}{fr:Fr}{L:aQ}(e:TypeId)(size:Nat)(A:bj)(h:Cp P fn R ee fr (.own e size A 0 0 []::L)):Cp P fn R ee fr L:=by
 cases ee<;>first
  |exact h
  |(intro B w0 a w ha hw;exact h B w0 a w ha (hw.CG e size A))
theorem are{A:bj}{n m c:Nat}(h:n=m):some (Value.slice A n c)=some (.slice A m c):=by rw[h]
theorem swp{a b:Ch}{L:aQ}:(a::b::L).Perm (b::a::L):=.swap b a L
theorem dL.of_same{P:Program}{B:Nat}{w0:World}{ff:FuncId}{args:cV}{L:aQ}{v:Value}(h:∀w,SL B w0 L w→Calls P ff args.toArray w fun e w'=>e= .returned v∧w=w'):dL P B w0 ff args L (fun r L'=>r=v∧L'=L):=fun w hw=>
 (h w hw).mono fun e w' ⟨he,GP⟩=>by subst GP;exact⟨v,L,he,⟨rfl,rfl⟩,hw⟩
theorem pK{C:Cx}{ops:Array Oper}{S:aQ}{Q:Exit→Fr→aQ→Prop}{fuel:Nat}{li:Array Bool}{fr:Fr}{L:aQ}{d:Nat}{ty:TypeId}{pos:String}{af:Array Edge}{i:Nat}{ff:FuncId}{gg:Operand}{tI:List Operand}{Cq:Array TypeId}{vs fst cap:cV}{R:qP}{g:Option (Nat×Bool)}(ho:ops[i]? =some ⟨some d,.call {callee:=.value gg,args:=tI.toArray,argTypes:=Cq},ty,pos,af,g⟩)(hg:Gd ops fr g)(hc:aH C.P ff)(hgg:ev fr gg=some (.func (.func ff) fst.toArray cap.toArray))(he:B8 fr tI=some vs)(h:dL C.P C.B C.w0 ff (fst++vs++cap) L R)(hd:Nat.blt d C.N=true)(hS:∀v L',R v L'→S.Sublist L')(k:∀v L',R v L'→VH C ops S Q fuel (li.setIfInBounds i true) ((d,v)::fr) L'):Step C ops S Q fuel li fr L i:=fun a w ha hw _=>by
 unfold wpOp;simp only[ho];rw[ao (hg.wanted ha)];refine .inl ?_;unfold Oper.wp;rw[mj hc (ha.tmp hgg),ha.B8 he];simp only[List.append_toArray];refine Ku (h w hw) fun e w' ⟨v,L',he,hR,hs⟩=>?_;subst he;have jF:=hs.sub (hS v L' hR);exact⟨jF,k _ _ hR _ _ (ha.put hd _) hs jF⟩
end
section
theorem z8:type_of% @List.take_zero:= @List.take_zero
theorem l6:type_of% @List.mem_of_mem_take:= @List.mem_of_mem_take
theorem N8:type_of% @List.take_append:= @List.take_append
theorem Iz:type_of% @List.take_take:= @List.take_take
theorem sS:type_of% @Option.map_some:= @Option.map_some
theorem Eo:type_of% @Nat.sub_zero:= @Nat.sub_zero
theorem gT{P:Program}{t:TypeId}{xs:Array Value}{off:Nat}{v:Value}(hs:pY P t=true)(hx:xs[off]? =some v)(w:World):(part t xs off).run P w= .ok v w:=by
 simp[part,ya hs,hx]
section
variable{C:Cx}{fr:Fr}{L:aQ}{x y:Operand}{f:Ch→aQ}{t t2 e ty:TypeId}
theorem MY{bytes:Nat}{zv:Value}(T:sJ C.P t e 1 bytes zv){A:bj}{n c i:Nat}{xs:cV}(hs:mG (.own e 1 A n c xs) L f)(he:ev fr x=some (.slice (if c=i then A else A.map (·.add (i*1))) (n-i) (c-i)))(hi:i≤n){yv:Value}{m:Nat}{news:cV}(hy:ev fr y=some yv)(hb:aK C.B C.w0 L 1 yv m news)(h1:∀u∈news,u.oneCell'=true):
  qx C fr L (.call {callee:=.builtin .copy,args:= #[x,y],argTypes:= #[t,t2]}) ty (fun p L'=>p=ah (min m (n-i):Nat)∧L'=f (.own e 1 A n c (xs.take i++news.take (min m (n-i))++xs.drop (i+min m (n-i))))):=fun a w ha hw d pos af gg=>by
 obtain⟨ii,hii,hz,iZ,Ea⟩:=T.hi;have ac8:(C.P.info? e).map (·.size)=some 1:=by rw[hii];simp[iZ]
 obtain⟨X,cx,rfl,hmc,hl,t_⟩:=hb w hw;have amg:Nat.min m (n-i)=min m (n-i):=rfl;obtain⟨k1,k2,k3⟩:=hw.all _ hs.mem;rw[cE]at k1 hl;by_cases h0:min m (n-i)=0
 ·have hr:=run_copy_none (P:=C.P) w t t2 ty e (if c=i then A else A.map (·.add (i*1))) X (n-i) (c-i) m cx T.ht ac8 h0;refine⟨_,w,_,.inl ?_,⟨rfl,rfl⟩,?_⟩
  ·simp[execOp,resolve,invoke,builtin,ha.tmp he,ha.tmp hy];have:=hr;simp at this;rw[this];simp[goInt,h0]
  ·rw[h0,z8,gj,tk,jJ];refine hw.Qe hs (NS w _) (fun h=>h) (.inr (.inl rfl))
 ·have qM:¬c=0:=by omega
  have hci:¬c=i:=by omega
  obtain⟨g,cur,rfl,Yw,hg,hcm,tV,po⟩:=k3.resolve_left qM;clear k3;rw[cE]at tV po;obtain⟨ad,rfl,_,fy⟩:=t_ aa;clear t_ amg;obtain⟨k,hk⟩:=cK (min m (n-i));have Gc:k≤m:=by omega
  have hkn:i+k≤n:=by omega
  have Ny:k=Nat.min m (n-i):=hk;rw[←hk]at h0⊢;clear hk;have amp:∀j v,(news.take k)[j]? =some v→w.cell? (ad.add j)=some v:=fun j v hv=>by
   rw[GS]at hv;split at hv
   ·exact fy j v hv
   ·cases hv
  have hlen:(news.take k).length=k:=by rw[eS,hl];omega
  have GI:(⟨g,0,none⟩:Addr).add (i*1)=⟨g,i,none⟩:=by rw[zV,mw,cE]
  have GL:i+(news.take k).length≤cur.size:=by rw[hlen,tV];omega
  have hr:=run_copy_row (P:=C.P) w t t2 ty e g i (n-i) (c-i) ad m cx cur e (news.take k) T.ht ac8 hg (by rw[hlen];exact Ny) amp GL (fun v hv=>h1 v (l6 hv));clear Ny;have tB:cur.toList.length=c:=by simpa using tV
  have e1:(xs.take i++news.take k++xs.drop (i+k)).length=n*1:=by
   simp only[aY,eS,iG,hl,k1];omega
  have e2:(cur.toList.take i++news.take k++cur.toList.drop (i+(news.take k).length)).length=c:=by
   simp only[aY,eS,iG,hl,tB];omega
  have e3:(cur.toList.take i++news.take k++cur.toList.drop (i+(news.take k).length)).take n=xs.take i++news.take k++xs.drop (i+k):=by
   have hx:xs=cur.toList.take n:=po.symm;rw[hlen,N8,fA (by rw[aY,eS,hlen];omega),hx,Iz,RW,zb aa];congr 2;rw[aY,eS,hlen,tB,zb aa]
  refine⟨_,_,_,.inl ?_,⟨rfl,rfl⟩,hw.Qe hs (w':=w.setRow g (cur.toList.take i++news.take k++cur.toList.drop (i+(news.take k).length)).toArray) ?_ (fun _=>⟨e1,k2,.inr ⟨g,_,rfl,Yw,N1 w g cur _ e _ hg,hcm,by rw[wW,e2,cE],by rw[cE];exact e3⟩⟩) (.inr (.inl rfl))⟩
  ·simp only[execOp,resolve,invoke,builtin,ha.tmp he,ha.tmp hy,aw hci,sS,GI,Kt,GU,ug,List.map_toArray,kC,GV,hr];simp[goInt,hlen]
  ·rw[show(Ch.own e 1 (some ⟨g,0,none⟩) n c xs).fp=some g by simp[Ch.fp,qM]];exact⟨rfl,rfl,rfl,ak,fun k _ hk=>N3 w g k _ (fun e=>hk xz)⟩
theorem H8{bytes:Nat}{zv:Value}(T:sJ C.P t e 1 bytes zv){A:bj}{n c:Nat}{xs:cV}(hs:mG (.own e 1 A n c xs) L f)(he:ev fr x=some (.slice A n c)){yv:Value}{m:Nat}{news:cV}(hy:ev fr y=some yv)(hb:aK C.B C.w0 L 1 yv m news)(h1:∀u∈news,u.oneCell'=true):
  qx C fr L (.call {callee:=.builtin .copy,args:= #[x,y],argTypes:= #[t,t2]}) ty (fun p L'=>p=ah (min m n:Nat)∧L'=f (.own e 1 A n c (news.take (min m n)++xs.drop (min m n)))):=by
 have h:=MY (ty:=ty) (t2:=t2) T hs (i:=0) (n:=n) (c:=c) (by rw[he];congr 2;rw[se];split<;>simp[OE]) (bS _) hy hb h1;rw[z8,nG,mw,Eo]at h;exact h
end
end
theorem fR{a:Ch}{L L':aQ}(h:L.Perm L'):(a::L).Perm (a::L'):=h.cons a
theorem ed{a:Ch}{L L':aQ}(h:Wk L L'):Wk (a::L) (a::L'):=h.cons
theorem l_{a0 x:Ch}{L L':aQ}(h:(a0::L).Perm L'):(a0::x::L).Perm (x::L'):=((fR (.refl _)).cons a0).trans ((List.Perm.swap x a0 _).trans (h.cons x))
theorem gk{a0 x:Ch}{L L':aQ}(h:Wk (a0::L) L'):Wk (a0::x::L) (x::L'):=(Wk.dE (l_ (.refl _))).trans h.cons
theorem BM{a0 a1 x:Ch}{L L':aQ}(h:(a0::a1::L).Perm L'):(a0::a1::x::L).Perm (x::L'):=((l_ (.refl _)).cons a0).trans ((List.Perm.swap x a0 _).trans (h.cons x))
theorem rQ{a0 a1 x:Ch}{L L':aQ}(h:Wk (a0::a1::L) L'):Wk (a0::a1::x::L) (x::L'):=(Wk.dE (BM (.refl _))).trans h.cons
theorem pu3{a0 a1 a2 x:Ch}{L L':aQ}(h:(a0::a1::a2::L).Perm L'):(a0::a1::a2::x::L).Perm (x::L'):=((BM (.refl _)).cons a0).trans ((List.Perm.swap x a0 _).trans (h.cons x))
theorem tF{a0 a1 a2 x:Ch}{L L':aQ}(h:Wk (a0::a1::a2::L) L'):Wk (a0::a1::a2::x::L) (x::L'):=(Wk.dE (pu3 (.refl _))).trans h.cons
theorem pu4{a0 a1 a2 a3 x:Ch}{L L':aQ}(h:(a0::a1::a2::a3::L).Perm L'):(a0::a1::a2::a3::x::L).Perm (x::L'):=((pu3 (.refl _)).cons a0).trans ((List.Perm.swap x a0 _).trans (h.cons x))
theorem wu4{a0 a1 a2 a3 x:Ch}{L L':aQ}(h:Wk (a0::a1::a2::a3::L) L'):Wk (a0::a1::a2::a3::x::L) (x::L'):=(Wk.dE (pu4 (.refl _))).trans h.cons
theorem pu5{a0 a1 a2 a3 a4 x:Ch}{L L':aQ}(h:(a0::a1::a2::a3::a4::L).Perm L'):(a0::a1::a2::a3::a4::x::L).Perm (x::L'):=((pu4 (.refl _)).cons a0).trans ((List.Perm.swap x a0 _).trans (h.cons x))
theorem pu6{a0 a1 a2 a3 a4 a5 x:Ch}{L L':aQ}(h:(a0::a1::a2::a3::a4::a5::L).Perm L'):(a0::a1::a2::a3::a4::a5::x::L).Perm (x::L'):=((pu5 (.refl _)).cons a0).trans ((List.Perm.swap x a0 _).trans (h.cons x))
theorem wu6{a0 a1 a2 a3 a4 a5 x:Ch}{L L':aQ}(h:Wk (a0::a1::a2::a3::a4::a5::L) L'):Wk (a0::a1::a2::a3::a4::a5::x::L) (x::L'):=(Wk.dE (pu6 (.refl _))).trans h.cons
theorem pu7{a0 a1 a2 a3 a4 a5 a6 x:Ch}{L L':aQ}(h:(a0::a1::a2::a3::a4::a5::a6::L).Perm L'):(a0::a1::a2::a3::a4::a5::a6::x::L).Perm (x::L'):=((pu6 (.refl _)).cons a0).trans ((List.Perm.swap x a0 _).trans (h.cons x))
theorem wu7{a0 a1 a2 a3 a4 a5 a6 x:Ch}{L L':aQ}(h:Wk (a0::a1::a2::a3::a4::a5::a6::L) L'):Wk (a0::a1::a2::a3::a4::a5::a6::x::L) (x::L'):=(Wk.dE (pu7 (.refl _))).trans h.cons
theorem pu8{a0 a1 a2 a3 a4 a5 a6 a7 x:Ch}{L L':aQ}(h:(a0::a1::a2::a3::a4::a5::a6::a7::L).Perm L'):(a0::a1::a2::a3::a4::a5::a6::a7::x::L).Perm (x::L'):=((pu7 (.refl _)).cons a0).trans ((List.Perm.swap x a0 _).trans (h.cons x))
theorem ag{P:Prop}(h:P:=by(kernel_rfl)):P:=h
theorem WC:sJ Tryz.prog 24 62 4 48 (.agg #[.int .u64 0,.int .u8 0,.string ⟨#[]⟩,.string ⟨#[]⟩]):=ld underlying24 ag rfl aa
theorem cD:sJ Tryz.prog 27 5 1 1 (.int .u8 0):=ld underlying27 ag rfl aa
theorem fE:sJ Tryz.prog 52 27 1 24 (.slice none 0 0):=ld underlying52 ag rfl aa
theorem fJ:sJ Tryz.prog 53 3 1 8 (ah 0):=ld underlying53 ag rfl aa
theorem ard:sJ Tryz.prog 63 23 6 48 (.agg #[ah 0,.bool false,ah 0,ah 0,ah 0,ah 0]):=ld underlying63 ag rfl aa
theorem Fs:sJ Tryz.prog 87 9 1 16 (.string ⟨#[]⟩):=ld underlying87 ag rfl aa
theorem akJ:sJ Tryz.prog 88 53 1 24 (.slice none 0 0):=ld underlying88 ag rfl aa
theorem akK:sJ Tryz.prog 97 170 3 24 (.agg #[.int .u8 0,ah 0,ah 0]):=ld underlying97 ag rfl aa
theorem uI:sJ Tryz.prog 159 57 1 2 (.int .u16 0):=ld underlying159 ag rfl aa
theorem anD:sJ Tryz.prog 183 60 1 8 (.int .u64 0):=ld underlying183 ag rfl aa
theorem SW:sJ Tryz.prog 186 4 1 1 (.bool false):=ld underlying186 ag rfl aa
theorem KY:sJ Tryz.prog 213 135 1 4 (.int .u32 0):=ld underlying213 ag rfl aa
theorem Fq:sJ Tryz.prog 392 397 2 16 (.agg #[.int .u64 0,.bool false]):=ld underlying392 ag rfl aa
theorem aeU:sJ Tryz.prog 394 392 1 24 (.slice none 0 0):=ld underlying394 ag rfl aa
theorem anE:sJ Tryz.prog 422 52 1 24 (.slice none 0 0):=ld underlying422 ag rfl aa
theorem co2:aH Tryz.prog 2:=aN func2 aB rfl
theorem ao8:aH Tryz.prog 16:=aN func16 aB rfl
theorem aly:aH Tryz.prog 29:=aN func29 aB rfl
theorem arP:aH Tryz.prog 30:=aN func30 aB rfl
theorem alz:aH Tryz.prog 31:=aN func31 aB rfl
theorem apF:aH Tryz.prog 49:=aN func49 aB rfl
theorem arQ:aH Tryz.prog 57:=aN func57 aB rfl
theorem arR:aH Tryz.prog 58:=aN func58 aB rfl
theorem arS:aH Tryz.prog 61:=aN func61 aB rfl
theorem arT:aH Tryz.prog 71:=aN func71 aB rfl
theorem apG:aH Tryz.prog 73:=aN func73 aB rfl
theorem arU:aH Tryz.prog 80:=aN func80 aB rfl
theorem apH:aH Tryz.prog 84:=aN func84 aB rfl
theorem arV:aH Tryz.prog 91:=aN func91 aB rfl
theorem apI:aH Tryz.prog 92:=aN func92 aB rfl
theorem ajM:aH Tryz.prog 111:=aN func111 aB rfl
theorem aoZ:aH Tryz.prog 118:=aN func118 aB rfl
theorem ajN:aH Tryz.prog 119:=aN func119 aB rfl
theorem ajO:aH Tryz.prog 122:=aN func122 aB rfl
theorem ao0:aH Tryz.prog 124:=aN func124 aB rfl
theorem Ut:aH Tryz.prog 128:=aN func128 aB rfl
theorem ao1:aH Tryz.prog 129:=aN func129 aB rfl
theorem ao2:aH Tryz.prog 130:=aN func130 aB rfl
theorem ao3:aH Tryz.prog 141:=aN func141 aB rfl
theorem ao4:aH Tryz.prog 142:=aN func142 aB rfl
theorem ajP:aH Tryz.prog 152:=aN func152 aB rfl
theorem Dp:aH Tryz.prog 153:=aN func153 aB rfl
theorem ao5:aH Tryz.prog 154:=aN func154 aB rfl
theorem ajQ:aH Tryz.prog 156:=aN func156 aB rfl
theorem ao6:aH Tryz.prog 157:=aN func157 aB rfl
theorem ao7:aH Tryz.prog 158:=aN func158 aB rfl
theorem ao9:aH Tryz.prog 177:=aN func177 aB rfl
theorem Uu:aH Tryz.prog 178:=aN func178 aB rfl
theorem abE:aH Tryz.prog 179:=aN func179 aB rfl
theorem ajR:aH Tryz.prog 180:=aN func180 aB rfl
theorem ao_:aH Tryz.prog 181:=aN func181 aB rfl
theorem ajS:aH Tryz.prog 183:=aN func183 aB rfl
theorem ao':aH Tryz.prog 186:=aN func186 aB rfl
theorem ajT:aH Tryz.prog 188:=aN func188 aB rfl
theorem ajU:aH Tryz.prog 192:=aN func192 aB rfl
theorem apa:aH Tryz.prog 198:=aN func198 aB rfl
theorem apb:aH Tryz.prog 201:=aN func201 aB rfl
theorem ajV:aH Tryz.prog 203:=aN func203 aB rfl
theorem apc:aH Tryz.prog 204:=aN func204 aB rfl
theorem abF:aH Tryz.prog 205:=aN func205 aB rfl
theorem apd:aH Tryz.prog 207:=aN func207 aB rfl
theorem ape:aH Tryz.prog 209:=aN func209 aB rfl
theorem Uv:aH Tryz.prog 212:=aN func212 aB rfl
theorem ajW:aH Tryz.prog 213:=aN func213 aB rfl
theorem Uw:aH Tryz.prog 219:=aN func219 aB rfl
theorem apf:aH Tryz.prog 220:=aN func220 aB rfl
theorem apg:aH Tryz.prog 221:=aN func221 aB rfl
theorem aph:aH Tryz.prog 224:=aN func224 aB rfl
theorem api:aH Tryz.prog 225:=aN func225 aB rfl
theorem apj:aH Tryz.prog 226:=aN func226 aB rfl
theorem apk:aH Tryz.prog 227:=aN func227 aB rfl
theorem apl:aH Tryz.prog 235:=aN func235 aB rfl
theorem ajX:aH Tryz.prog 238:=aN func238 aB rfl
theorem apm:aH Tryz.prog 242:=aN func242 aB rfl
theorem apn:aH Tryz.prog 243:=aN func243 aB rfl
theorem apo:aH Tryz.prog 244:=aN func244 aB rfl
theorem apq:aH Tryz.prog 247:=aN func247 aB rfl
theorem ajY:aH Tryz.prog 248:=aN func248 aB rfl
theorem apr:aH Tryz.prog 250:=aN func250 aB rfl
theorem aps:aH Tryz.prog 264:=aN func264 aB rfl
theorem apt:aH Tryz.prog 267:=aN func267 aB rfl
theorem apu:aH Tryz.prog 268:=aN func268 aB rfl
theorem apv:aH Tryz.prog 272:=aN func272 aB rfl
theorem ajZ:aH Tryz.prog 276:=aN func276 aB rfl
theorem apw:aH Tryz.prog 299:=aN func299 aB rfl
theorem apx:aH Tryz.prog 302:=aN func302 aB rfl
theorem apy:aH Tryz.prog 303:=aN func303 aB rfl
theorem apz:aH Tryz.prog 311:=aN func311 aB rfl
theorem Ux:aH Tryz.prog 315:=aN func315 aB rfl
theorem apA:aH Tryz.prog 316:=aN func316 aB rfl
theorem apB:aH Tryz.prog 317:=aN func317 aB rfl
theorem apC:aH Tryz.prog 320:=aN func320 aB rfl
theorem apD:aH Tryz.prog 325:=aN func325 aB rfl
theorem apE:aH Tryz.prog 329:=aN func329 aB rfl
theorem aj0:aH Tryz.prog 330:=aN func330 aB rfl
theorem abG:aH Tryz.prog 340:=aN func340 aB rfl
theorem abH:aH Tryz.prog 341:=aN func341 aB rfl
section
theorem ako:type_of% @List.Sublist.refl:= @List.Sublist.refl
theorem NN:type_of% @List.nil_sublist:= @List.nil_sublist
theorem gx:type_of% @List.sublist_append_right:= @List.sublist_append_right
theorem eK:type_of% @List.length_map:= @List.length_map
theorem yc:type_of% @List.all_eq_true:= @List.all_eq_true
theorem ub:type_of% @List.getElem_mem:= @List.getElem_mem
theorem rh:type_of% @List.take_succ_cons:= @List.take_succ_cons
theorem Ep:type_of% @List.drop_succ_cons:= @List.drop_succ_cons
inductive Hd(Q:Prop):Prop where
 |mk (x:Q):Hd Q
theorem Hd.x{Q:Prop}:Hd Q→Q
 |⟨x⟩=>x
theorem aV{c:Ch}{L:aQ}{f:Ch→aQ}(h:mG c L f:=by((repeat (first|exact .hd|apply mG.tl));(first|done|fail))):mG c L f:=h
theorem aA{B:Nat}{w0:World}{L:aQ}{size:Nat}{v:Value}{n:Nat}{xs:cV}(h:aK B w0 L size v n xs:=by first|(exact aK.own (by repeat (first|exact List.Mem.head _|apply List.Mem.tail)))|((repeat (first|assumption|apply aK.cons));(first|done|fail))):aK B w0 L size v n xs:=h
theorem gD{α:Type}{S L:List α}(h:S.Sublist L:=by((repeat (first|exact ako _|exact NN _|exact gx _ _|apply List.Sublist.cons_cons|apply List.Sublist.cons));(first|done|fail))):S.Sublist L:=h
theorem cw{xs:cV}(h:∀u∈xs,u.oneCell'=true:=by first|exact qz _|exact ae3 _|exact El _ _|(simp;(first|done|fail))|(simp[Value.oneCell'];(first|done|fail))|assumption):∀u∈xs,u.oneCell'=true:=h
theorem bp{fr jC:Fr}(h:Sub fr jC:=by((repeat (first|exact trivial|(refine⟨by first|rfl|exact amv (by omega)|exact are (by omega),?_⟩)));(first|done|fail))):Sub fr jC:=h
def okF(P:Program)(f:FuncId):Bool:=match P.funcs[f]? with|some fn=> !(fn.name== "runtime.NumGoroutine")&&fn.body.isSome|none=>false
theorem ad1{P:Program}{f:FuncId}(h:okF P f=true):aH P f:=by
 unfold okF at h;split at h
 ·rename_i fn hf;rw[zZ]at h;exact aN hf (by simpa using h.1) h.2
 ·cases h
def aqL(P:Program)(t:TypeId):Bool:=match P.underlying t with|some (.slice _)=>true|_=>false
def isStr(P:Program)(t:TypeId):Bool:=match P.underlying t with|some .string=>true|_=>false
def aqK(P:Program)(t:TypeId):Bool:=match P.underlying t with|some (.pointer e)=>Nat.beq e (P.pointee t)|_=>false
def isK(P:Program)(t:TypeId)(k:IntKind):Bool:=match P.underlying t with|some (.int k')=>decide (k'=k)|_=>false
def adm(P:Program)(t:TypeId)(n:Nat):Bool:=match P.underlying t with|some (.slice e)=>(match P.info? e with|some i=>Nat.beq i.size n|none=>false)|_=>false
section
variable{C:Cx}{Q:Exit→Fr→aQ→Prop}{fr jC:Fr}{L L':aQ}{ops:Array Oper}{l:sH}{op:Op}{ty t:TypeId}{pos:String}{af:Array Edge}{d g o:Nat}{v:Value}{x y:Operand}{A:bj}{n c:Nat}{k:IntKind}{m:Int}
theorem aqJ(h:isK C.P t k=true):C.P.underlying t=some (.int k):=by
 unfold isK at h;split at h
 ·rename_i hu;rw[hu,zW h]
 ·cases h
theorem akn(h:aqK C.P t=true):C.P.underlying t=some (.pointer (C.P.pointee t)):=by
 unfold aqK at h;split at h
 ·rename_i hu;rw[hu,rm h]
 ·cases h
theorem amx(h:adm C.P t n=true):∃e,C.P.underlying t=some (.slice e)∧(C.P.info? e).map (·.size)=some n:=by
 unfold adm at h;split at h
 ·rename_i e hu;refine⟨e,hu,?_⟩;split at h
  ·rename_i i hi;rw[hi,←rm h];rfl
  ·cases h
 ·cases h
theorem Ym(h:aqL C.P t=true)(he:ev fr x=some (.slice A n c)):gF C fr L (.call {callee:=.builtin .len,args:= #[x],argTypes:= #[t]}) ty (ah (n:Int)):=by
 unfold aqL at h;split at h
 ·rename_i e hu;exact pg hu he
 ·cases h
theorem aco{s:al}(h:isStr C.P t=true)(he:ev fr x=some (.string ⟨s.toArray⟩)):gF C fr L (.call {callee:=.builtin .len,args:= #[x],argTypes:= #[t]}) ty (ah (s.length:Int)):=by
 unfold isStr at h;split at h
 ·rename_i hu;exact XU hu he
 ·cases h
theorem apZ{i:Nat}{xs:cV}(he:ev fr x=some (.slice A n c))(h2:ev fr y=some (.int k m))(hm:m=(i:Int)){size:Nat}(hb:aK C.B C.w0 L size (.slice A n c) n xs)(hz:adm C.P t size=true)(hi:i<n):
  gF C fr L (.indexAddr t x y) ty (.pointer (A.map (·.add (i*size)))):=by
 obtain⟨e,h1,h3⟩:=amx hz;exact aC h1 h3 he h2 hm hi hb
def ah3(t i:Nat):List (Nat×bf)→Option Nat
 |[]=>none
 |(s,q)::r=>bif Nat.beq s t then q[i]? else ah3 t i r
def yr{α:Type}(t:Nat):List (Nat×α)→Option α
 |[]=>none
 |(s,q)::r=>bif Nat.beq s t then some q else yr t r
def ah1(t:Nat):bf→Bool
 |[]=>false
 |s::r=>bif Nat.beq s t then true else ah1 t r
def aqM:List (Nat×IntKind):=[(3,.i64),(5,.u8),(57,.u16),(60,.u64),(135,.u32),(192,.u64),(398,.u64)]
def aq9:bf:=[3,4,5,9,24,27,28,52,53,57,60,87,88,101,106,135,140,159,176,183,186,213,242,278,290,298,392,398,436]
def an1:List (Nat×Nat):=[(23,6),(41,5),(62,4),(83,4),(90,2),(161,2),(166,4),(170,3),(195,3),(217,1),(235,3),(272,3),(283,2),(303,16),(350,3),(366,1),(382,256),(397,2),(426,16)]
theorem Xe:an1.all (fun q=>pq Tryz.prog q.1 q.2)=true:=by kernel_rfl
theorem ahV:aqM.all (fun q=>isK Tryz.prog q.1 q.2)=true:=by kernel_rfl
theorem aiU:aq9.all (pY Tryz.prog)=true:=by kernel_rfl
theorem yu{α:Type}{p:Nat→α→Bool}{k:α}:∀l:List (Nat×α),l.all (fun q=>p q.1 q.2)=true→yr t l=some k→p t k=true
 |[],_,h=>by cases h
 |(s,r)::l,ha,h=>by
  simp only[List.all_cons,zZ]at ha;unfold yr at h;cases hb:Nat.beq s t with
  |true=>
   rw[hb,GW]at h;injection h with h;rw[←rm hb,←h];exact ha.1
  |false=>rw[hb,cond_false]at h;exact yu l ha.2 h
theorem VJ{p:Nat→Bool}:∀l:bf,l.all p=true→ah1 t l=true→p t=true
 |[],_,h=>by cases h
 |s::l,ha,h=>by
  simp only[List.all_cons,zZ]at ha;unfold ah1 at h;cases hb:Nat.beq s t with
  |true=>rw[←rm hb];exact ha.1
  |false=>rw[hb,cond_false]at h;exact VJ l ha.2 h
theorem ap0{N B:Nat}{w0:World}{bt:TypeId}{cs:cV}{f:Ch→aQ}(h:ah1 t aq9=true)(he:ev fr x=some (.pointer (some ⟨g,o,none⟩)))(hm:mG (.bE g bt cs) L f)(hv:cs[o]? =some v):gF ⟨Tryz.prog,N,B,w0⟩ fr L (.load t x) ty v:=bM (VJ (p:=pY Tryz.prog) _ aiU h) he hm hv
theorem acp{N B:Nat}{w0:World}{cs:cV}{f:Ch→aQ}{bt:TypeId}{kk:Nat}(h:yr t an1=some kk)(he:ev fr x=some (br g))(hm:mG (.bE g bt cs) L f)(hk:cs.length=kk):gF ⟨Tryz.prog,N,B,w0⟩ fr L (.load t x) ty (.agg cs.toArray):=DA (C:=⟨Tryz.prog,N,B,w0⟩) kk (yu (p:=pq Tryz.prog) _ Xe h) he hm hk
theorem acn{s:TypeId}{k':IntKind}(hs:isK C.P s k=true)(ht:isK C.P t k'=true)(he:ev fr x=some (.int k m))(hr:k'.wrap m=m):gF C fr L (.convert s t x) ty (.int k' m):=bm (aqJ hs) (aqJ ht) he hr
theorem ahs{N B:Nat}{w0:World}{s:TypeId}{k':IntKind}(ht:yr t aqM=some k')(he:ev fr x=some (.int k m))(hr:k'.wrap m=m)(hs:isK Tryz.prog s k=true):gF ⟨Tryz.prog,N,B,w0⟩ fr L (.convert s t x) ty (.int k' m):=acn (C:=⟨Tryz.prog,N,B,w0⟩) hs (yu (p:=isK Tryz.prog) _ ahV ht) he hr
def aik(P:Program)(t:TypeId):bf:=match P.underlying t with
 |some (.struct fs)=>bif fs.toList.all (fun fd=>Bx P fd.type) then fs.toList.map (·.offset) else []
 |_=>[]
def apO:List (Nat×bf):=[(23,[0,1,2,3,4,5]),(41,[0,1,2,3,4]),(59,[0,1]),(62,[0,1,2,3]),(69,[0,5,11]),(83,[0,1,2,3]),(90,[0,1]),(108,[0,1,2]),(119,[0,6,7]),(154,[0,1,2]),(161,[0,1]),(166,[0,1,2,3]),(170,[0,1,2]),(179,[0,1]),(185,[0,1]),(188,[0,4,6,8,9]),(195,[0,1,2]),(205,[0,1,2,8,9]),(217,[0]),(235,[0,1,2]),(237,[0,1]),(239,[0]),(249,[0,1]),(256,[0,1]),(258,[0,2]),(272,[0,1,2]),(280,[0,3,4,5]),(283,[0,1]),(292,[0,2,3]),(300,[0,1]),(343,[0,1]),(347,[0,2,18,34]),(366,[0]),(369,[0]),(371,[0,1,2]),(379,[0,1,2,3,4]),(397,[0,1]),(405,[0]),(419,[0]),(421,[0,3]),(451,[0,2]),(455,[0,1,2])]
theorem ahi:apO.all (fun q=>decide (aik Tryz.prog q.1=q.2))=true:=by kernel_rfl
theorem M9{p:Nat→bf}{i q:Nat}:∀l:List (Nat×bf),l.all (fun q=>decide (p q.1=q.2))=true→ah3 t i l=some q→(p t)[i]? =some q
 |[],_,h=>by cases h
 |(s,r)::l,ha,h=>by
  simp only[List.all_cons,zZ]at ha;unfold ah3 at h;cases hb:Nat.beq s t with
  |true=>
   rw[hb,GW]at h;rw[←rm hb,zW ha.1];exact h
  |false=>rw[hb,cond_false]at h;exact M9 l ha.2 h
theorem alT{i q p:Nat}(h:(aik C.P t)[i]? =some q)(he:ev fr x=some (.pointer (some ⟨g,o,none⟩)))(hq:o+q=p):gF C fr L (.fieldAddr t x i) ty (.pointer (some ⟨g,p,none⟩)):=by
 unfold aik at h;split at h
 ·rename_i fs hu;cases hb:fs.toList.all (fun fd=>Bx C.P fd.type)with
  |false=>rw[hb]at h;cases h
  |true=>
   rw[hb,GW]at h;obtain⟨hi,RI⟩:=zY.1 h;simp only[eK,Ex]at hi RI;have hm:=yc.1 hb _ (ub hi);refine Dz (fs:=fs) (fd:=fs.toList[i]) hu ?_ hm he (by rw[RI];exact hq);simp
 ·cases h
theorem apX{N B:Nat}{w0:World}{i q p:Nat}(h:ah3 t i apO=some q)(he:ev fr x=some (.pointer (some ⟨g,o,none⟩)))(hq:o+q=p):gF ⟨Tryz.prog,N,B,w0⟩ fr L (.fieldAddr t x i) ty (.pointer (some ⟨g,p,none⟩)):=
 alT (C:=⟨Tryz.prog,N,B,w0⟩) (M9 (p:=aik Tryz.prog) _ ahi h) he hq
end
theorem dt{p:Prop}(h:p:=by first
 |(with_reducible apply dV);exact rfl
 |(with_reducible apply lH);exact rfl
 |(with_reducible apply apX)<;>exact rfl
 |(with_reducible apply JX);exact rfl
 |(with_reducible apply MK)<;>exact rfl
 |(with_reducible apply ap0);exact rfl;exact rfl;exact aV;exact rfl
 |(with_reducible apply Ym);kernel_rfl;exact rfl
 |(with_reducible apply ahb)<;>exact rfl
 |(with_reducible apply xN)<;>exact rfl
 |(with_reducible apply ag9)<;>exact rfl
 |(with_reducible apply ag')<;>exact rfl
 |(with_reducible apply aha)<;>exact rfl
 |(with_reducible apply ag_)<;>exact rfl
 |(with_reducible apply QP)<;>exact rfl
 |(with_reducible apply QR)<;>exact rfl
 |(with_reducible apply zu)<;>exact rfl
 |(with_reducible apply zt)<;>exact rfl
 |(with_reducible apply bX);exact rfl;exact rfl;exact bF (by omega) (by omega)
 |(with_reducible apply dw);exact rfl;exact rfl;exact bF (by omega) (by omega)
 |(with_reducible apply eZ);exact rfl;exact rfl;exact bF (by omega) (by omega)
 |(with_reducible apply apZ);exact rfl;exact rfl;exact rfl;exact aA;kernel_rfl;omega
 |(with_reducible apply acp);exact rfl;exact rfl;exact aV;(first|rfl|(simp;omega)|(simp[*];first|done|fail))
 |(with_reducible apply jn);kernel_rfl;exact rfl;exact aA;omega
 |(with_reducible apply JU);kernel_rfl;exact rfl;exact aA;omega
 |(with_reducible apply gN);kernel_rfl;exact rfl;exact aA;omega
 |(with_reducible apply Gy);kernel_rfl;exact rfl;exact aA;omega
 |(with_reducible apply aco);kernel_rfl;exact rfl
 |(with_reducible apply ahs);exact rfl;exact rfl;(first|exact bF (by omega) (by omega)|exact f_ (by omega) (by omega)|exact aaF (by omega) (by omega)|exact akZ (by omega) (by omega));kernel_rfl
 |(with_reducible apply MM);exact akn (by kernel_rfl);exact rfl;exact rfl
 |(with_reducible apply JY);exact akn (by kernel_rfl);exact rfl;exact rfl
 |(with_reducible apply XV)<;>exact rfl
 |(with_reducible apply HY)<;>exact rfl
 |(with_reducible apply JV)<;>exact rfl
 |exact abP rfl):p:=h
theorem ap4{N B:Nat}{w0:World}{fr:Fr}{L:aQ}{ty t bt:TypeId}{x y:Operand}{g kk:Nat}{cs us:cV}{f:Ch→aQ}(h:yr t an1=some kk)(he:ev fr x=some (br g))(hv:ev fr y=some (.agg us.toArray))(h1:∀u∈us,u.oneCell'=true)(hm:mG (.bE g bt cs) L f)(hk:cs.length=kk)(hu:us.length=kk):
 qx ⟨Tryz.prog,N,B,w0⟩ fr L (.store t x y) ty (fun p L'=>L'=f (.bE g bt us)):=nV (C:=⟨Tryz.prog,N,B,w0⟩) kk (yu (p:=pq Tryz.prog) _ Xe h) he hv h1 hm hk hu
theorem aj_{p:Prop}(h:p:=by first
 |exact GB (by kernel_rfl) rfl rfl aV (by first|omega|(simp;(first|done|fail))|(simp;omega))
 |exact oG (by kernel_rfl) rfl rfl rfl aV (by simp;(first|done|fail))
 |exact iK (by kernel_rfl) rfl rfl rfl aV (by first|omega|(simp;(first|done|fail))|(simp;omega))
 |exact ap4 rfl rfl rfl cw aV (by first|rfl|(simp;omega)|(simp[*];(first|done|fail))) (by first|rfl|(simp;omega)|(simp[*];(first|done|fail)))):p:=h
section
variable{C:Cx}{Q:Exit→Fr→aQ→Prop}{fr jC:Fr}{L L' S:aQ}{ops:Array Oper}{l:sH}{op:Op}{ty t:TypeId}{pos:String}{af:Array Edge}{d g o:Nat}{v:Value}{x y:Operand}{fuel:Nat}{li:Array Bool}{ar:List Operand}{Cq:Array TypeId}{vs:cV}{f:FuncId}{gu:Option (Nat×Bool)}{i:Nat}
theorem ai{v:Value}{L1:aQ}(he:B8 fr ar=some vs)(h:dL C.P C.B C.w0 f vs L (fun r M=>r=v∧M=L1))(k:VL C ops Q l ((d,v)::fr) L1)(hc:aH C.P f:=by exact ad1 (by kernel_rfl))(hd:Nat.blt d C.N=true:=by exact rfl):
 VL C ops Q (⟨some d,.call {callee:=.value (.func f),args:=ar.toArray,argTypes:=Cq},ty,pos,af,none⟩::l) fr L:=aX hc he h hd fun v L' ⟨h1,h2⟩=>by subst h1;subst h2;exact k
theorem ay{α β:Type}{v:α→β→Value}{L1:α→β→aQ}(he:B8 fr ar=some vs)(h:dL C.P C.B C.w0 f vs L (fun r M=>∃a b,r=v a b∧M=L1 a b))(k:∀a b,VL C ops Q l ((d,v a b)::fr) (L1 a b))(hc:aH C.P f:=by exact ad1 (by kernel_rfl))(hd:Nat.blt d C.N=true:=by exact rfl):
 VL C ops Q (⟨some d,.call {callee:=.value (.func f),args:=ar.toArray,argTypes:=Cq},ty,pos,af,none⟩::l) fr L:=aX hc he h hd fun v L' ⟨a,b,h1,h2⟩=>by subst h1;subst h2;exact k a b
theorem dX{α β γ:Type}{v:α→β→γ→Value}{L1:α→β→γ→aQ}(he:B8 fr ar=some vs)(h:dL C.P C.B C.w0 f vs L (fun r M=>∃a b e,r=v a b e∧M=L1 a b e))(k:∀a b e,VL C ops Q l ((d,v a b e)::fr) (L1 a b e))(hc:aH C.P f:=by exact ad1 (by kernel_rfl))(hd:Nat.blt d C.N=true:=by exact rfl):
 VL C ops Q (⟨some d,.call {callee:=.value (.func f),args:=ar.toArray,argTypes:=Cq},ty,pos,af,none⟩::l) fr L:=aX hc he h hd fun v L' ⟨a,b,e,h1,h2⟩=>by subst h1;subst h2;exact k a b e
theorem kN{L1:aQ}(h:qx C fr L op ty (fun p M=>M=L1))(k:VL C ops Q l fr L1):VL C ops Q (⟨none,op,ty,pos,af,none⟩::l) fr L:=ajz h fun v L' h1=>by subst h1;exact k
theorem cC{α:Type}{v:α→Value}{L1:α→aQ}(h:qx C fr L op ty (fun p M=>∃a,p=v a∧M=L1 a))(k:∀a,VL C ops Q l ((d,v a)::fr) (L1 a))(hd:Nat.blt d C.N=true:=by exact rfl):VL C ops Q (⟨some d,op,ty,pos,af,none⟩::l) fr L:=lO h hd fun v L' ⟨a,h1,h2⟩=>by subst h1;subst h2;exact k a
theorem fM{α β:Type}{v:α→β→Value}{L1:α→β→aQ}(h:qx C fr L op ty (fun p M=>∃a b,p=v a b∧M=L1 a b))(k:∀a b,VL C ops Q l ((d,v a b)::fr) (L1 a b))(hd:Nat.blt d C.N=true:=by exact rfl):VL C ops Q (⟨some d,op,ty,pos,af,none⟩::l) fr L:=lO h hd fun v L' ⟨a,b,h1,h2⟩=>by subst h1;subst h2;exact k a b
theorem bh{cs:cV}{e:TypeId}(k:∀g,VL C ops Q l ((d,br g)::fr) (.bE g e cs::L))(he:ev fr x=some v:=by exact rfl)(hc:v.cells=cs.toArray:=by exact rfl)(hd:Nat.blt d C.N=true:=by exact rfl):VL C ops Q (⟨some d,.box e x,ty,pos,af,none⟩::l) fr L:=cC (UO he hc) k hd
def ak4(P:Program):List (Nat×Value)→Prop
 |[]=>True
 |q::r=>(P.info? q.1).bind (·.zero)=some q.2∧ak4 P r
def arw:List (Nat×Value):=[(3,ah 0),(4,.bool false),(9,.string ⟨#[]⟩),(23,.agg #[ah 0,.bool false,ah 0,ah 0,ah 0,ah 0]),(27,.slice none 0 0),(41,.agg #[ah 0,ah 0,ah 0,ah 0,.bool false]),(52,.slice none 0 0),(60,.int .u64 0),(62,.agg #[.int .u64 0,.int .u8 0,.string ⟨#[]⟩,.string ⟨#[]⟩]),(83,.agg #[.slice none 0 0,.slice none 0 0,ah 0,ah 0]),(87,.slice none 0 0),(90,.agg #[.slice none 0 0,.slice none 0 0]),(161,.agg #[.slice none 0 0,.slice none 0 0]),(166,.agg #[ah 0,ah 0,ah 0,ah 0]),(170,.agg #[.int .u8 0,ah 0,ah 0]),(186,.slice none 0 0),(195,.agg #[ah 0,ah 0,ah 0]),(217,.agg #[.slice none 0 0]),(235,.agg #[ah 0,.slice none 0 0,.slice none 0 0]),(239,.agg #[.slice none 0 0,ah 0]),(272,.agg #[ah 0,ah 0,.slice none 0 0]),(350,.agg #[.int .u8 0,.int .u8 0,.int .u8 0]),(366,.agg #[.pointer none]),(382,.agg #[.int .u8 0,.int .u8 0,.int .u8 0,.int .u8 0,.int .u8 0,.int .u8 0,.int .u8 0,.int .u8 0,.int .u8 0,.int .u8 0,.int .u8 0,.int .u8 0,.int .u8 0,.int .u8 0,.int .u8 0,.int .u8 0,.int .u8 0,.int .u8 0,.int .u8 0,.int .u8 0,.int .u8 0,.int .u8 0,.int .u8 0,.int .u8 0,.int .u8 0,.int .u8 0,.int .u8 0,.int .u8 0,.int .u8 0,.int .u8 0,.int .u8 0,.int .u8 0,.int .u8 0,.int .u8 0,.int .u8 0,.int .u8 0,.int .u8 0,.int .u8 0,.int .u8 0,.int .u8 0,.int .u8 0,.int .u8 0,.int .u8 0,.int .u8 0,.int .u8 0,.int .u8 0,.int .u8 0,.int .u8 0,.int .u8 0,.int .u8 0,.int .u8 0,.int .u8 0,.int .u8 0,.int .u8 0,.int .u8 0,.int .u8 0,.int .u8 0,.int .u8 0,.int .u8 0,.int .u8 0,.int .u8 0,.int .u8 0,.int .u8 0,.int .u8 0,.int .u8 0,.int .u8 0,.int .u8 0,.int .u8 0,.int .u8 0,.int .u8 0,.int .u8 0,.int .u8 0,.int .u8 0,.int .u8 0,.int .u8 0,.int .u8 0,.int .u8 0,.int .u8 0,.int .u8 0,.int .u8 0,.int .u8 0,.int .u8 0,.int .u8 0,.int .u8 0,.int .u8 0,.int .u8 0,.int .u8 0,.int .u8 0,.int .u8 0,.int .u8 0,.int .u8 0,.int .u8 0,.int .u8 0,.int .u8 0,.int .u8 0,.int .u8 0,.int .u8 0,.int .u8 0,.int .u8 0,.int .u8 0,.int .u8 0,.int .u8 0,.int .u8 0,.int .u8 0,.int .u8 0,.int .u8 0,.int .u8 0,.int .u8 0,.int .u8 0,.int .u8 0,.int .u8 0,.int .u8 0,.int .u8 0,.int .u8 0,.int .u8 0,.int .u8 0,.int .u8 0,.int .u8 0,.int .u8 0,.int .u8 0,.int .u8 0,.int .u8 0,.int .u8 0,.int .u8 0,.int .u8 0,.int .u8 0,.int .u8 0,.int .u8 0,.int .u8 0,.int .u8 0,.int .u8 0,.int .u8 0,.int .u8 0,.int .u8 0,.int .u8 0,.int .u8 0,.int .u8 0,.int .u8 0,.int .u8 0,.int .u8 0,.int .u8 0,.int .u8 0,.int .u8 0,.int .u8 0,.int .u8 0,.int .u8 0,.int .u8 0,.int .u8 0,.int .u8 0,.int .u8 0,.int .u8 0,.int .u8 0,.int .u8 0,.int .u8 0,.int .u8 0,.int .u8 0,.int .u8 0,.int .u8 0,.int .u8 0,.int .u8 0,.int .u8 0,.int .u8 0,.int .u8 0,.int .u8 0,.int .u8 0,.int .u8 0,.int .u8 0,.int .u8 0,.int .u8 0,.int .u8 0,.int .u8 0,.int .u8 0,.int .u8 0,.int .u8 0,.int .u8 0,.int .u8 0,.int .u8 0,.int .u8 0,.int .u8 0,.int .u8 0,.int .u8 0,.int .u8 0,.int .u8 0,.int .u8 0,.int .u8 0,.int .u8 0,.int .u8 0,.int .u8 0,.int .u8 0,.int .u8 0,.int .u8 0,.int .u8 0,.int .u8 0,.int .u8 0,.int .u8 0,.int .u8 0,.int .u8 0,.int .u8 0,.int .u8 0,.int .u8 0,.int .u8 0,.int .u8 0,.int .u8 0,.int .u8 0,.int .u8 0,.int .u8 0,.int .u8 0,.int .u8 0,.int .u8 0,.int .u8 0,.int .u8 0,.int .u8 0,.int .u8 0,.int .u8 0,.int .u8 0,.int .u8 0,.int .u8 0,.int .u8 0,.int .u8 0,.int .u8 0,.int .u8 0,.int .u8 0,.int .u8 0,.int .u8 0,.int .u8 0,.int .u8 0,.int .u8 0,.int .u8 0,.int .u8 0,.int .u8 0,.int .u8 0,.int .u8 0,.int .u8 0,.int .u8 0,.int .u8 0,.int .u8 0,.int .u8 0,.int .u8 0,.int .u8 0,.int .u8 0,.int .u8 0,.int .u8 0,.int .u8 0,.int .u8 0,.int .u8 0,.int .u8 0,.int .u8 0,.int .u8 0,.int .u8 0,.int .u8 0,.int .u8 0,.int .u8 0,.int .u8 0,.int .u8 0,.int .u8 0,.int .u8 0]),(397,.agg #[.int .u64 0,.bool false]),(398,.int .u64 0),(426,.agg #[ah 0,ah 0,ah 0,ah 0,ah 0,ah 0,ah 0,ah 0,ah 0,ah 0,ah 0,ah 0,ah 0,ah 0,ah 0,ah 0]),(430,.agg #[ah 0,ah 0,ah 0,ah 0,ah 0,ah 0,ah 0,ah 0,ah 0,ah 0,ah 0,ah 0,ah 0,ah 0,ah 0,ah 0,ah 0])]
theorem ajF:ak4 Tryz.prog arw:=⟨by kernel_rfl,by kernel_rfl,by kernel_rfl,by kernel_rfl,by kernel_rfl,by kernel_rfl,by kernel_rfl,by kernel_rfl,by kernel_rfl,by kernel_rfl,by kernel_rfl,by kernel_rfl,by kernel_rfl,by kernel_rfl,by kernel_rfl,by kernel_rfl,by kernel_rfl,by kernel_rfl,by kernel_rfl,by kernel_rfl,by kernel_rfl,by kernel_rfl,by kernel_rfl,by kernel_rfl,by kernel_rfl,by kernel_rfl,by kernel_rfl,by kernel_rfl,trivial⟩
theorem Xh{P:Program}{t:TypeId}{v:Value}:∀l:List (Nat×Value),ak4 P l→yr t l=some v→(P.info? t).bind (·.zero)=some v
 |[],_,h=>by cases h
 |(s,r)::l,ha,h=>by
  unfold yr at h;cases hb:Nat.beq s t with
  |true=>
   rw[hb,GW]at h;injection h with h;rw[←rm hb,←h];exact ha.1
  |false=>rw[hb,cond_false]at h;exact Xh l ha.2 h
theorem bc{N B:Nat}{w0:World}{zv:Value}{cs:cV}{e:TypeId}(k:∀g,VL ⟨Tryz.prog,N,B,w0⟩ ops Q l ((d,br g)::fr) (.bE g e cs::L))(hz:yr e arw=some zv:=by exact rfl)(hc:zv.cells=cs.toArray:=by exact rfl)(hd:Nat.blt d N=true:=by exact rfl):VL ⟨Tryz.prog,N,B,w0⟩ ops Q (⟨some d,.alloc e,ty,pos,af,none⟩::l) fr L:=cC (C:=⟨Tryz.prog,N,B,w0⟩) (MW (Xh _ ajF hz) hc) k hd
theorem aj{tt:Nat}{cd Ga:Code}{p:Prop}[Decidable p](ht:p→VC C cd Q ((tt,.bool true)::fr) L)(hf:¬p→VC C Ga Q ((tt,.bool false)::fr) L)(hc:look tt fr=some (.bool (decide p)):=by exact rfl):VC C (.cond (.tmp tt) cd Ga) Q fr L:=xe hc ht hf
theorem gZ{tt:Nat}{cd Ga:Code}{b:Bool}(ht:b=true→VC C cd Q ((tt,.bool true)::fr) L)(hf:b=false→VC C Ga Q ((tt,.bool false)::fr) L)(hc:look tt fr=some (.bool b):=by exact rfl):VC C (.cond (.tmp tt) cd Ga) Q fr L:=af4 hc ht hf
theorem dm{tt:Nat}{cd Ga:Code}{p:Prop}[Decidable p](hf:¬p→VC C Ga Q ((tt,.bool false)::fr) L)(hc:look tt fr=some (.bool (decide p)):=by exact rfl)(hp:¬p:=by(intro h;exfalso;omega)):VC C (.cond (.tmp tt) cd Ga) Q fr L:=xe hc (fun h=>absurd h hp) hf
theorem zH{tt:Nat}{cd Ga:Code}{p:Prop}[Decidable p](ht:p→VC C cd Q ((tt,.bool true)::fr) L)(hc:look tt fr=some (.bool (decide p)):=by exact rfl)(hp:¬p→False:=by(intro h;exfalso;omega)):VC C (.cond (.tmp tt) cd Ga) Q fr L:=xe hc ht (fun h=>(hp h).elim)
theorem aU{cd:Code}(hs:Sub fr jC)(hp:Wk L L')(k:VC C cd Q jC L'):VC C cd Q fr L:=Ba _ hs (wq hp k)
theorem cM{j t:Nat}{dd:Nat}{p:Prop}[Decidable p](k1:p→VL C ops Q (⟨some dd,op,ty,pos,af,none⟩::l) ((t,.bool true)::fr) L)(k2:¬p→VL C ops Q l ((dd,undef)::(t,.bool false)::fr) L)(hj:(ops[j]?).bind (·.dst)=some t:=by exact rfl)(ht:look t fr=some (.bool (decide p)):=by exact rfl)(hd:Nat.blt dd C.N=true:=by exact rfl):VL C ops Q (⟨some dd,op,ty,pos,af,some (j,true)⟩::l) fr L:=aaA hj ht hd k1 k2
theorem zG(h:Gd ops fr gu:=by first|exact .no|exact .yes rfl rfl):Gd ops fr gu:=h
theorem cF(S:aQ){id:Nat}{l:sH}(h:VH C l.toArray S Q l.toArray.size (Array.replicate l.toArray.size false) fr L)(hm:C.P.follows .mixedOrders=true:=by kernel_rfl)(hS:S.Sublist L:=by exact gD):VC C (.region id l.toArray true) Q fr L:=aaz hm hS h
theorem ae(i:Nat)(k:VH C ops S Q fuel (li.setIfInBounds i true) ((d,v)::fr) L)(ho:ops[i]? =some ⟨some d,op,ty,pos,af,none⟩:=by exact rfl)(hs:Region.noSelect ops=true:=by kernel_rfl)(hf:Region.free .any ops li i=true:=by kernel_rfl)(hr:(Region.ready .any ops li).contains i=true:=by kernel_rfl)(h:gF C fr S op ty v:=by exact dt)(hd:Nat.blt d C.N=true:=by exact rfl):VH C ops S Q (fuel+1) li fr L:=Xa i ho hs hf hr h hd k
theorem aW(i:Nat)(ho:ops[i]? =some ⟨some d,op,ty,pos,af,none⟩)(h:gF C fr S op ty v)(k:VH C ops S Q fuel (li.setIfInBounds i true) ((d,v)::fr) L)(hs:Region.noSelect ops=true:=by kernel_rfl)(hf:Region.free .any ops li i=true:=by kernel_rfl)(hr:(Region.ready .any ops li).contains i=true:=by kernel_rfl)(hd:Nat.blt d C.N=true:=by exact rfl):VH C ops S Q (fuel+1) li fr L:=Xa i ho hs hf hr h hd k
theorem az(i:Nat)(h:Step C ops S Q fuel li fr L i)(hr:Region.ready .any ops li=[i]:=by kernel_rfl):VH C ops S Q (fuel+1) li fr L:=anV i hr h
theorem gS(i j:Nat)(h1:Step C ops S Q fuel li fr L i)(h2:Step C ops S Q fuel li fr L j)(hr:Region.ready .any ops li=[i,j]:=by kernel_rfl):VH C ops S Q (fuel+1) li fr L:=anW i j hr h1 h2
theorem ap2(k:VH C ops S Q fuel (li.setIfInBounds i true) ((d,v)::fr) L)(ho:ops[i]? =some ⟨some d,op,ty,pos,af,gu⟩:=by exact rfl)(hg:Gd ops fr gu:=by exact zG)(h:gF C fr L op ty v:=by exact dt)(hd:Nat.blt d C.N=true:=by exact rfl)(hS:S.Sublist L:=by exact gD):Step C ops S Q fuel li fr L i:=iL ho hg h hd hS k
theorem ap3{L1:aQ}(k:VH C ops S Q fuel (li.setIfInBounds i true) fr L1)(ho:ops[i]? =some ⟨none,op,ty,pos,af,gu⟩:=by exact rfl)(hg:Gd ops fr gu:=by exact zG)(h:qx C fr L op ty (fun p M=>M=L1):=by exact aj_)(hS:S.Sublist L1:=by exact gD):Step C ops S Q fuel li fr L i:=kR ho hg h (fun v L' h=>by subst h;exact hS) (fun v L' h=>by subst h;exact k)
theorem cR{α:Type}{v:α→Value}{L1:α→aQ}(ho:ops[i]? =some ⟨some d,op,ty,pos,af,gu⟩)(h:qx C fr L op ty (fun p M=>∃a,p=v a∧M=L1 a))(k:∀a,VH C ops S Q fuel (li.setIfInBounds i true) ((d,v a)::fr) (L1 a))(hg:Gd ops fr gu:=by exact zG)(hd:Nat.blt d C.N=true:=by exact rfl)(hS:∀a,S.Sublist (L1 a):=by intro _;exact gD):Step C ops S Q fuel li fr L i:=SX ho hg h hd (fun v L' ⟨a,h1,h2⟩=>by subst h2;exact hS a) (fun v L' ⟨a,h1,h2⟩=>by subst h1;subst h2;exact k a)
theorem eV{α β:Type}{v:α→β→Value}{L1:α→β→aQ}(ho:ops[i]? =some ⟨some d,op,ty,pos,af,gu⟩)(h:qx C fr L op ty (fun p M=>∃a b,p=v a b∧M=L1 a b))(k:∀a b,VH C ops S Q fuel (li.setIfInBounds i true) ((d,v a b)::fr) (L1 a b))(hg:Gd ops fr gu:=by exact zG)(hd:Nat.blt d C.N=true:=by exact rfl)(hS:∀a b,S.Sublist (L1 a b):=by intro _ _;exact gD):Step C ops S Q fuel li fr L i:=SX ho hg h hd (fun v L' ⟨a,b,h1,h2⟩=>by subst h2;exact hS a b) (fun v L' ⟨a,b,h1,h2⟩=>by subst h1;subst h2;exact k a b)
theorem iW{L1:aQ}(ho:ops[i]? =some ⟨some d,.call {callee:=.value (.func f),args:=ar.toArray,argTypes:=Cq},ty,pos,af,gu⟩)(he:B8 fr ar=some vs)(h:dL C.P C.B C.w0 f vs L (fun r M=>r=v∧M=L1))(k:VH C ops S Q fuel (li.setIfInBounds i true) ((d,v)::fr) L1)(hg:Gd ops fr gu:=by exact zG)(hc:aH C.P f:=by exact ad1 (by kernel_rfl))(hd:Nat.blt d C.N=true:=by exact rfl)(hS:S.Sublist L1:=by exact gD):Step C ops S Q fuel li fr L i:=gz ho hg hc he h hd (fun v L' ⟨h1,h2⟩=>by subst h2;exact hS) (fun v L' ⟨h1,h2⟩=>by subst h1;subst h2;exact k)
theorem b7{α β:Type}{v:α→β→Value}{L1:α→β→aQ}(ho:ops[i]? =some ⟨some d,.call {callee:=.value (.func f),args:=ar.toArray,argTypes:=Cq},ty,pos,af,gu⟩)(he:B8 fr ar=some vs)(h:dL C.P C.B C.w0 f vs L (fun r M=>∃a b,r=v a b∧M=L1 a b))(k:∀a b,VH C ops S Q fuel (li.setIfInBounds i true) ((d,v a b)::fr) (L1 a b))(hg:Gd ops fr gu:=by exact zG)(hc:aH C.P f:=by exact ad1 (by kernel_rfl))(hd:Nat.blt d C.N=true:=by exact rfl)(hS:∀a b,S.Sublist (L1 a b):=by intro _ _;exact gD):Step C ops S Q fuel li fr L i:=gz ho hg hc he h hd (fun v L' ⟨a,b,h1,h2⟩=>by subst h2;exact hS a b) (fun v L' ⟨a,b,h1,h2⟩=>by subst h1;subst h2;exact k a b)
theorem apY(h:Q .normal fr L)(hr:Region.ready .any ops li=[]:=by kernel_rfl):VH C ops S Q fuel li fr L:=fun a w ha hw _=>wpAnyH_done hr (show NoPanic (lift C Q) .normal a w from⟨fr,L,ha,hw,h⟩) _
theorem cQ(ks:bf)(h:Q .normal jC L)(hs:LS fr ks jC:=by((repeat (first|exact LS.nil|(apply LS.cons;exact rfl)));(first|done|fail)))(hr:Region.ready .any ops li=[]:=by kernel_rfl):VH C ops S Q fuel li fr L:=ajy jC hs.sub hr h
theorem bU(n d:Nat)(ks:bf){base:Fr}{l1 l2:sH}(p:Prop)[Decidable p](h1:VL C ops (fun e fr L'=>e= .normal∧L'=L∧Sub fr base∧look d fr=some (.bool (decide p))) l1 fr L)(h2:VL C ops Q l2 ((d,.bool (decide p))::base) L)(hs:LS fr ks base:=by((repeat (first|exact LS.nil|(apply LS.cons;exact rfl)));(first|done|fail)))(e1:l.take n=l1:=by simp only[rh,z8];exact rfl)(e2:l.drop n=l2:=by simp only[Ep,tp];exact rfl):VL C ops Q l fr L:=anX n d base p hs.sub (e1▸h1) (e2▸h2)
theorem Cy{QF:Fr→Prop}(n d:Nat)(ks:bf){base:Fr}{l1 l2:sH}(p:Prop)[Decidable p](h1:VQ C ops L (fun fr=>Sub fr base∧look d fr=some (.bool (decide p))) l1 fr)(h2:VQ C ops L QF l2 ((d,.bool (decide p))::base))(hs:LS fr ks base:=by((repeat (first|exact LS.nil|(apply LS.cons;exact rfl)));(first|done|fail)))(e1:l.take n=l1:=by simp only[rh,z8];exact rfl)(e2:l.drop n=l2:=by simp only[Ep,tp];exact rfl):VQ C ops L QF l fr:=an0 n d base p hs.sub (e1▸h1) (e2▸h2)
theorem aP{base:Fr}{u:Value}(hd:look d fr=some u)(hb:Sub fr base:=by exact bp):VL C ops (fun e fr L'=>e= .normal∧L'=L∧Sub fr base∧look d fr=some u) [] fr L:=Tx hb hd
theorem qC{base:Fr}{u:Value}(hd:look d fr=some u)(hb:Sub fr base:=by exact bp):VQ C ops L (fun fr=>Sub fr base∧look d fr=some u) [] fr:=TF hb hd
theorem arZ{id:Nat}{l:sH}(h:VQ C l.toArray L (fun jC=>Q .normal jC L) l fr)(hm:C.P.follows .mixedOrders=true:=by kernel_rfl)(hB:Region.lexB .any l.toArray=true:=by kernel_rfl):VC C (.region id l.toArray true) Q fr L:=aaE hm hB h
theorem ap1{QF:Fr→Prop}(h:QF fr):VQ C ops L QF [] fr:=fun a ha=>wpQuiet_nil ⟨fr,ha,h⟩
end
theorem aF{P Q:Prop}(k:Q)(h:Hd Q→P:=by
 intro h;first
 |(with_reducible apply ab);exact dt;exact rfl
 |(with_reducible refine atD ?_)
 |(with_reducible refine aab ?_)
 |(with_reducible refine af5 ?_)
 |(with_reducible refine aay ?_)
 |(with_reducible refine anU ?_)
 |(with_reducible refine ajx ?_)
 |(with_reducible refine af3 ?_)
 |(with_reducible refine ajw ?_)
 |(with_reducible refine afo ?_)
 |(with_reducible refine aaa ?_)
 |(with_reducible refine YP ?_)
 |(with_reducible refine amt ?_)
 |(with_reducible refine aqG ?_)
 |(with_reducible refine Zh ?_)
 |(with_reducible refine adC ?_)
 |(with_reducible refine adn ?_)
 |(with_reducible refine Y0 ?_)
 |(with_reducible refine aq7 ?_)
 |(with_reducible apply Tz);exact rfl;exact rfl
 |(with_reducible apply Ty);exact rfl;exact rfl;exact rfl;exact rfl
 |(with_reducible apply TA);exact rfl;exact rfl;exact rfl
 |(with_reducible apply aaw);exact rfl
 |(with_reducible apply aav);exact rfl
 |(with_reducible apply kN);exact aj_
 |refine att rfl rfl ?_
 |refine atu rfl rfl rfl ?_
 |refine atr rfl ?_
 |refine aq5 rfl rfl rfl rfl ?_
 |refine aq6 rfl rfl rfl rfl rfl ?_
 |(with_reducible refine ahP ?_ ?_);exact rfl
 |(with_reducible refine apY ?_)
 |(with_reducible refine arZ ?_)
 |(with_reducible apply bZ);exact dt;exact rfl
 |(with_reducible refine ap1 ?_)
 |(with_reducible apply TI);exact rfl;exact rfl
 |(with_reducible apply TH);exact rfl;exact rfl;exact rfl;exact rfl
 |(with_reducible apply TJ);exact rfl;exact rfl;exact rfl
 |refine ap3 ?_
 |refine ap2 ?_
 exact h.x):P:=h ⟨k⟩
theorem be{P Q:Prop}(k:Q)(h:Hd Q→P:=by(intro h;(iterate 2 refine aF ?_);exact h.x)):P:=h ⟨k⟩
theorem bA{P Q:Prop}(k:Q)(h:Hd Q→P:=by(intro h;(iterate 3 refine aF ?_);exact h.x)):P:=h ⟨k⟩
theorem b8{P Q:Prop}(k:Q)(h:Hd Q→P:=by(intro h;(iterate 4 refine aF ?_);exact h.x)):P:=h ⟨k⟩
theorem bG{P Q:Prop}(k:Q)(h:Hd Q→P:=by(intro h;(iterate 5 refine aF ?_);exact h.x)):P:=h ⟨k⟩
theorem bz{P Q:Prop}(k:Q)(h:Hd Q→P:=by(intro h;(iterate 6 refine aF ?_);exact h.x)):P:=h ⟨k⟩
theorem bK{P Q:Prop}(k:Q)(h:Hd Q→P:=by(intro h;(iterate 7 refine aF ?_);exact h.x)):P:=h ⟨k⟩
theorem bI{P Q:Prop}(k:Q)(h:Hd Q→P:=by(intro h;(iterate 8 refine aF ?_);exact h.x)):P:=h ⟨k⟩
theorem bO{P Q:Prop}(k:Q)(h:Hd Q→P:=by(intro h;(iterate 9 refine aF ?_);exact h.x)):P:=h ⟨k⟩
theorem bB{P Q:Prop}(k:Q)(h:Hd Q→P:=by(intro h;(iterate 10 refine aF ?_);exact h.x)):P:=h ⟨k⟩
theorem cZ{P Q:Prop}(k:Q)(h:Hd Q→P:=by(intro h;(iterate 11 refine aF ?_);exact h.x)):P:=h ⟨k⟩
theorem cH{P Q:Prop}(k:Q)(h:Hd Q→P:=by(intro h;(iterate 12 refine aF ?_);exact h.x)):P:=h ⟨k⟩
theorem dc{P Q:Prop}(k:Q)(h:Hd Q→P:=by(intro h;(iterate 13 refine aF ?_);exact h.x)):P:=h ⟨k⟩
theorem dQ{P Q:Prop}(k:Q)(h:Hd Q→P:=by(intro h;(iterate 14 refine aF ?_);exact h.x)):P:=h ⟨k⟩
theorem jk{P Q:Prop}(k:Q)(h:Hd Q→P:=by(intro h;(iterate 15 refine aF ?_);exact h.x)):P:=h ⟨k⟩
theorem jQ{P Q:Prop}(k:Q)(h:Hd Q→P:=by(intro h;(iterate 16 refine aF ?_);exact h.x)):P:=h ⟨k⟩
theorem B9{P Q:Prop}(k:Q)(h:Hd Q→P:=by(intro h;(iterate 17 refine aF ?_);exact h.x)):P:=h ⟨k⟩
theorem tS{P Q:Prop}(k:Q)(h:Hd Q→P:=by(intro h;(iterate 18 refine aF ?_);exact h.x)):P:=h ⟨k⟩
theorem zI{P Q:Prop}(k:Q)(h:Hd Q→P:=by(intro h;(iterate 19 refine aF ?_);exact h.x)):P:=h ⟨k⟩
theorem alV{P Q:Prop}(k:Q)(h:Hd Q→P:=by(intro h;(iterate 20 refine aF ?_);exact h.x)):P:=h ⟨k⟩
theorem Kg{P Q:Prop}(k:Q)(h:Hd Q→P:=by(intro h;(iterate 21 refine aF ?_);exact h.x)):P:=h ⟨k⟩
theorem GD{P Q:Prop}(k:Q)(h:Hd Q→P:=by(intro h;(iterate 22 refine aF ?_);exact h.x)):P:=h ⟨k⟩
theorem ar0{P Q:Prop}(k:Q)(h:Hd Q→P:=by(intro h;(iterate 23 refine aF ?_);exact h.x)):P:=h ⟨k⟩
theorem acw{P Q:Prop}(k:Q)(h:Hd Q→P:=by(intro h;(iterate 24 refine aF ?_);exact h.x)):P:=h ⟨k⟩
theorem alW{P Q:Prop}(k:Q)(h:Hd Q→P:=by(intro h;(iterate 25 refine aF ?_);exact h.x)):P:=h ⟨k⟩
theorem ahu{P Q:Prop}(k:Q)(h:Hd Q→P:=by(intro h;(iterate 26 refine aF ?_);exact h.x)):P:=h ⟨k⟩
theorem acx{P Q:Prop}(k:Q)(h:Hd Q→P:=by(intro h;(iterate 27 refine aF ?_);exact h.x)):P:=h ⟨k⟩
theorem ap5{P Q:Prop}(k:Q)(h:Hd Q→P:=by(intro h;(iterate 28 refine aF ?_);exact h.x)):P:=h ⟨k⟩
theorem ar1{P Q:Prop}(k:Q)(h:Hd Q→P:=by(intro h;(iterate 29 refine aF ?_);exact h.x)):P:=h ⟨k⟩
theorem ar2{P Q:Prop}(k:Q)(h:Hd Q→P:=by(intro h;(iterate 30 refine aF ?_);exact h.x)):P:=h ⟨k⟩
theorem ap6{P Q:Prop}(k:Q)(h:Hd Q→P:=by(intro h;(iterate 32 refine aF ?_);exact h.x)):P:=h ⟨k⟩
theorem ar3{P Q:Prop}(k:Q)(h:Hd Q→P:=by(intro h;(iterate 38 refine aF ?_);exact h.x)):P:=h ⟨k⟩
abbrev a_(B:Nat)(w0:World)(f:FuncId)(args:cV)(L:aQ)(R:qP):Prop:=dL Tryz.prog B w0 f args L R
abbrev eM(B:Nat)(w0:World)(L:List Ch)(A:Option Addr)(c:Nat)(l:List UInt8):Prop:=aK B w0 L 1 (.slice A l.length c) l.length (bv l)
end
theorem gA{P:Prop}(h:P:=by(first|rfl|(simp;omega)|(simp[*];done))):P:=h
theorem Gq{P:Prop}(h:P:=by(first|omega|(simp;done)|(simp;omega))):P:=h
theorem aoO{P:Prop}(h:P:=by(exact eU (by first|omega|(rw[hg];omega)))):P:=h
theorem dz:type_of% @List.mem_append:= @List.mem_append
theorem jG:type_of% @Classical.not_not:= @Classical.not_not
theorem Fit.no{l:al}{k:Nat}(hk:k<l.length)(h:¬((l.getD k 0).toNat≤15)):¬Fit l:=fun hf=>h (hf.2 _ (bg hk 0))
def Gl(l:al):Prop:=∀c∈l,c.toNat≤15
theorem Gl.step{l:al}{k:Nat}(h:Gl (l.take k))(hk:k<l.length)(hs:(l.getD k 0).toNat≤15):Gl (l.take (k+1)):=by
 rw[ba hk 0];intro c hc;rcases dz.1 hc with hc|hc
 ·exact h c hc
 ·simp only[lJ]at hc;rw[hc];exact hs
theorem Gl.Az:Gl []:=by intro c h;cases h
theorem Gl.all{l:al}{k:Nat}(h:Gl (l.take k))(hk:¬k<l.length):Gl l:=by rwa [fA aa]at h
theorem abB{l:al}{k:Nat}(hk:k<l.length)(hc:(l.getD k 0).toNat<16):ints .i64 ((tL (l.take k)).set (l.getD k 0).toNat ((tL (l.take k)).getD (l.getD k 0).toNat 0+1))=ints .i64 (tL (l.take (k+1))):=by
 rw[abC hc,ba hk 0]
def arG(l:al)(b:List Int)(ok:Bool):Prop:=Few b∧ok=decide (Fit l)∧(ok=true→b=qU l)
theorem ab6:Few (List.replicate 16 0):=ag4▸J7 ak
theorem aem{k:Nat}{x:Int}(h:0≤x∧x≤300):0≤x*2^(15-k)∧x*2^(15-k)≤9830400:=by
 have h2:(2:Int)^(15-k)≤2^15:=by
  have:(2:Nat)^(15-k)≤2^15:=la aa aa
  exact_mod_cast this
 have h3:(0:Int)<2^(15-k):=Int.pow_pos aa;exact⟨Int.mul_nonneg h.1 aa,by have:=Int.mul_le_mul h.2 h2 aa aa;omega⟩
theorem ara{k:Nat}{x:Int}(hk:k<16)(h:0≤x*2^(15-k)∧x*2^(15-k)≤9830400):IntKind.i64.wrap (x*2^min (15-(k:Int)).toNat IntKind.i64.bits)=x*2^(15-k):=by
 have e:min (15-(k:Int)).toNat IntKind.i64.bits=15-k:=by
  have:(15-(k:Int)).toNat=15-k:=by omega
  rw[this];show min (15-k) 64=15-k;omega
 rw[e];exact bF aa aa
theorem HJ(l:al)(hb:eM B w0 F A c l):a_ B w0 317 [.slice A l.length c] F (fun r L=>∃b ok,r= .tuple #[.agg (ints .i64 b).toArray,.bool ok]∧L=F∧arG l b ok):=by
 refine fw func317 27 [0] ?_;refine be ?_;refine bc fun g2=>?_;refine cZ ?_;refine aj (fun h8=>?_) fun h8=>?_
 ·refine bO ?_;refine gQ rfl rfl ag aV gA rfl (.skip (.refl _)) ?_;refine⟨List.replicate 16 0,false,rfl,rfl,ab6,(lu fun h=>?_).symm,fun h=>kl⟩;have:=h.1;omega
 ·refine cZ ?_;refine aE (fun zf zL zm=>∃(k:Nat),(k≤l.length∧Gl (l.take k))∧l.length-k=zm∧Sub zf [(2,br g2),(10,.slice A l.length c),(11,ah l.length),(12,ah k)]∧Wk zL (.bE g2 426 (ints .i64 (tL (l.take k)))::F)) _ ⟨0,⟨bS _,Gl.Az⟩,rfl,bp,bq rfl (.refl _)⟩ ?_;rintro _ _ _ ⟨k,⟨hk,hL⟩,rfl,hs,hp⟩;refine aU hs hp ?_;clear hs hp;have hu:=(l.getD k 0).toNat_lt;have hf:=J7 (l:=l.take k) bR;have hf1:=hf.1;have hfb:=hf.2 (l.getD k 0).toNat;refine bz ?_;refine aj (fun mE=>?_) fun mE=>?_
  ·refine tS ?_;refine aj (fun iF=>?_) fun iF=>?_
   ·refine dQ ?_;refine gQ rfl rfl ag aV gA rfl (.skip (.refl _)) ?_;refine⟨_,false,rfl,rfl,hf,(lu ?_).symm,fun h=>kl⟩;exact Fit.no (k:=k) aa aa
   ·refine b8 ?_;refine ab (aM (i:=(l.getD k 0).toNat) underlying426 ag rfl rfl rfl aa) rfl ?_;refine ab (eY ag rfl aV Gq) rfl ?_;refine aF ?_;refine ab (aM (i:=(l.getD k 0).toNat) underlying426 ag rfl rfl rfl aa) rfl ?_;refine bI ?_;refine av ⟨_,aa,k+1,⟨aa,hL.step aa aa⟩,rfl,bp,bq (abB aa aa) (.refl _)⟩
  ·refine bK ?_;refine ab (aM (i:=0) underlying426 ag rfl rfl rfl aa) rfl ?_;refine cZ ?_;refine gQ rfl rfl ag aV gA rfl (.skip (.refl _)) ?_;have hL':=hL.all aa;refine⟨_,true,rfl,rfl,UQ hf 0 aa,(jT ⟨aa,hL'⟩).symm,fun _=>?_⟩;rw[fA aa];rfl
theorem Dn(b:List Int)(hf:Few b):a_ B w0 318 [.agg (ints .i64 b).toArray] F (fun r L=>r= .tuple #[ah (w8 b 16),ah (tM b 16)]∧L=F):=by
 have hb:=hf.1;refine fw func318 24 [0] ?_;refine be ?_;refine bh fun g1=>?_;refine cZ ?_;refine aE (fun zf zL zm=>∃(k:Nat),(1≤k∧k≤16)∧16-k=zm∧Sub zf [(1,br g1),(2,ah (w8 b k)),(3,ah (tM b k)),(4,ah k)]∧Wk zL (.bE g1 426 (ints .i64 b)::F)) _ ⟨1,⟨aa,aa⟩,rfl,bp,.refl _⟩ ?_;rintro _ _ _ ⟨k,⟨xp,hk⟩,rfl,hs,hp⟩;refine aU hs hp ?_;clear hs hp;have hs:=hf.sum k;have hc:=hf.rL k;have k_:=hf.sum (k+1);have P6:=hf.rL (k+1);have hbk:=hf.2 k;have e1:=Z3 b xp;have e2:=XK b xp;have hw2:=aem (k:=k) hbk;refine bK ?_;refine aj (fun h6=>?_) fun h6=>?_
 ·refine bI ?_;refine ab (aM underlying426 ag rfl rfl rfl aa) rfl ?_;refine ab (eY ag rfl aV Gq) rfl ?_;refine be ?_;refine ab (ga rfl rfl aa (ara aa hw2)) rfl ?_;refine bK ?_;refine ab (aM underlying426 ag rfl rfl rfl aa) rfl ?_;refine ab (eY ag rfl aV Gq) rfl ?_;refine be ?_;refine ve [1,2,3,4] ?_;refine bK ?_;rw[←e1,←e2];refine av ⟨_,aa,k+1,⟨aa,aa⟩,rfl,bp,.refl _⟩
 ·refine dQ ?_;have al':k=16:=by omega
  subst al';refine aq (.skip (.refl _)) ?_;refine aF ?_;exact⟨rfl,rfl⟩
theorem HV(l:al)(hb:eM B w0 F A c l)(hf:Fit l):a_ B w0 317 [.slice A l.length c] F (fun r L=>r= .tuple #[.agg (ints .i64 (qU l)).toArray,.bool true]∧L=F):=
 (HJ l hb).mono fun v L ⟨b,ok,h1,h2,h3,h4,h5⟩=>by
  have:ok=true:=h4.trans (jT hf);subst this;rw[h1,h5 rfl];exact⟨rfl,h2⟩
theorem abL(l:al)(hb:eM B w0 F A c l)(hf:¬Fit l):a_ B w0 317 [.slice A l.length c] F (fun r L=>∃b,r= .tuple #[.agg (ints .i64 b).toArray,.bool false]∧L=F∧Few b):=
 (HJ l hb).mono fun v L ⟨b,ok,h1,h2,h3,h4,h5⟩=>by
  have:ok=false:=h4.trans (lu hf);subst this;exact⟨b,h1,h2,h3⟩
theorem xE{l:al}(h:Good l):chk l=0:=ao h
theorem Cr{l:al}(h:¬Good l):chk l=7:=aw h
theorem zn(l:al)(hb:eM B w0 F A c l):a_ B w0 286 [.slice A l.length c] F (fun r L=>r=ah (chk l)∧L=F):=by
 by_cases hf:Fit l
 ·have xo:=Na hf;have hf1:=xo.1;have at0:=xo.rL 16;have hg:=acq hf;refine fw func286 36 [0] ?_;refine bI ?_;refine ai rfl (HV l aA hf) ?_;refine bA ?_;refine bc fun g3=>?_;refine bK ?_;refine ai rfl (Dn _ xo) ?_;refine bB ?_;refine bU 19 35 [] (¬Good l) ?_ ?_
  ·refine bO ?_;refine cM (fun rN=>?_) fun rN=>?_
   ·refine bK ?_;refine cM (fun qc=>?_) fun qc=>?_
    ·refine bG ?_;refine aL rfl rfl rfl (fun r'=>?_) (fun r'=>?_)
     ·refine ab (aM (i:=1) underlying426 ag rfl rfl rfl aa) rfl ?_;refine aF ?_;refine ab (eY ag rfl aV Gq) rfl ?_;refine bK ?_;exact aP (by exact dN (by first|omega|(rw[hg];omega)))
     ·refine bK ?_;exact aP (by exact ej (by first|omega|(rw[hg];omega)))
    ·refine bO ?_;exact aP aoO
   ·refine jk ?_;exact aP aoO
  ·refine be ?_;refine aj (fun tT=>?_) fun tT=>?_
   ·refine bK ?_;refine aq (.skip (.refl _)) ?_;refine aF ?_;rw[Cr tT];exact⟨rfl,rfl⟩
   ·refine bI ?_;refine aq (.skip (.refl _)) ?_;refine aF ?_;rw[xE (jG.1 tT)];exact⟨rfl,rfl⟩
 ·have Ro:¬Good l:=fun g=>hf g.1;refine fw func286 36 [0] ?_;refine bI ?_;refine aX apB rfl (abL l aA hf) rfl ?_;rintro _ _ ⟨b,rfl,cA,xo⟩;obtain rfl:=cA.symm;have hf1:=xo.1;refine bA ?_;refine bc fun g3=>?_;refine bK ?_;refine ai rfl (Dn _ xo) ?_;refine ar1 ?_;refine ve [35] ?_;refine bO ?_;refine aq (.skip (.refl _)) ?_;refine aF ?_;rw[Cr Ro];exact⟨rfl,rfl⟩
section
theorem i_:type_of% @Nat.mod_eq_of_lt:= @Nat.mod_eq_of_lt
theorem NO:type_of% @Nat.lt_of_le_of_lt:= @Nat.lt_of_le_of_lt
theorem vZ:type_of% @Nat.xor_lt_two_pow:= @Nat.xor_lt_two_pow
theorem NP:type_of% @Nat.and_lt_two_pow:= @Nat.and_lt_two_pow
theorem iw(n a:Nat)(ha:a<2^n):(BitVec.ofInt n (a:Int)).toNat=a:=by
 rw[BitVec.ofInt_natCast,BitVec.toNat_ofNat];exact i_ ha
theorem wrap_u8(a:Nat)(h:a<256):IntKind.u8.wrap (a:Int)=(a:Int):=by
 show(a:Int)%256=a;omega
theorem wrap_u64(a:Nat)(h:a<18446744073709551616):IntKind.u64.wrap (a:Int)=(a:Int):=by
 show(a:Int)%18446744073709551616=a;omega
theorem wrap_i64(a:Int)(h1:-9223372036854775808≤a)(h2:a<9223372036854775808):IntKind.i64.wrap a=a:=by
 rw[IntKind.wrap_i64];omega
section
variable(a b:Nat)
theorem u8_or(ha:a<256)(hb:b<256):bits .or .u8 (a:Int) (b:Int)=((a ||| b:Nat):Int):=by
 have hx:a ||| b<2^8:=Nat.or_lt_two_pow ha hb
 show IntKind.u8.wrap ((BitVec.ofInt 8 (a:Int) ||| BitVec.ofInt 8 (b:Int)).toNat:Int)=_;rw[BitVec.toNat_or,iw 8 a ha,iw 8 b hb,wrap_u8 _ hx]
theorem u64_and(ha:a<18446744073709551616)(hb:b<18446744073709551616):bits .and .u64 (a:Int) (b:Int)=((a &&& b:Nat):Int):=by
 have hx:a &&& b<18446744073709551616:=NO Nat.and_le_left ha;show IntKind.u64.wrap ((BitVec.ofInt 64 (a:Int) &&& BitVec.ofInt 64 (b:Int)).toNat:Int)=_;rw[BitVec.toNat_and,iw 64 a ha,iw 64 b hb,wrap_u64 _ hx]
theorem u64_or(ha:a<18446744073709551616)(hb:b<18446744073709551616):bits .or .u64 (a:Int) (b:Int)=((a ||| b:Nat):Int):=by
 have hx:a ||| b<2^64:=Nat.or_lt_two_pow ha hb
 show IntKind.u64.wrap ((BitVec.ofInt 64 (a:Int) ||| BitVec.ofInt 64 (b:Int)).toNat:Int)=_;rw[BitVec.toNat_or,iw 64 a ha,iw 64 b hb,wrap_u64 _ hx]
theorem u64_xor(ha:a<18446744073709551616)(hb:b<18446744073709551616):bits .xor .u64 (a:Int) (b:Int)=((a ^^^ b:Nat):Int):=by
 have hx:a ^^^ b<2^64:=vZ ha hb;show IntKind.u64.wrap ((BitVec.ofInt 64 (a:Int) ^^^ BitVec.ofInt 64 (b:Int)).toNat:Int)=_;rw[BitVec.toNat_xor,iw 64 a ha,iw 64 b hb,wrap_u64 _ hx]
theorem ahM(ha:a<9223372036854775808)(hb:b<9223372036854775808):bits .and .i64 (a:Int) (b:Int)=((a &&& b:Nat):Int):=by
 have hx:a &&& b<2^63:=NP _ aa;show IntKind.i64.wrap ((BitVec.ofInt 64 (a:Int) &&& BitVec.ofInt 64 (b:Int)).toNat:Int)=_;rw[BitVec.toNat_and,iw 64 a aa,iw 64 b aa,wrap_i64]<;>omega
theorem ac'(ha:a<9223372036854775808)(hb:b<9223372036854775808):bits .or .i64 (a:Int) (b:Int)=((a ||| b:Nat):Int):=by
 have hx:a ||| b<2^63:=Nat.or_lt_two_pow aa aa
 show IntKind.i64.wrap ((BitVec.ofInt 64 (a:Int) ||| BitVec.ofInt 64 (b:Int)).toNat:Int)=_;rw[BitVec.toNat_or,iw 64 a aa,iw 64 b aa,wrap_i64]<;>omega
end
theorem ad8(a:Nat)(h:a<256):a ||| 128=128+a%128:=by
 have:∀x:Fin 256,x.val ||| 128=128+x.val%128:=by decide+kernel
 exact this ⟨a,h⟩
end
theorem oi:type_of% @UInt8.toNat_ofNat':= @UInt8.toNat_ofNat'
theorem lq:type_of% @List.range_succ:= @List.range_succ
theorem bk:type_of% @List.getD_eq_getElem?_getD:= @List.getD_eq_getElem?_getD
theorem sT:type_of% @Nat.add_comm:= @Nat.add_comm
theorem NR:type_of% @Nat.two_pow_add_eq_or_of_lt:= @Nat.two_pow_add_eq_or_of_lt
theorem v_:type_of% @Nat.two_pow_pos:= @Nat.two_pow_pos
theorem kB:type_of% @List.mem_range:= @List.mem_range
theorem nE:type_of% @Nat.sub_self:= @Nat.sub_self
theorem qe:type_of% @List.length_singleton:= @List.length_singleton
theorem lT:type_of% @UInt8.toNat_lt:= @UInt8.toNat_lt
theorem we:type_of% @Int.fdiv_eq_ediv_of_nonneg:= @Int.fdiv_eq_ediv_of_nonneg
theorem ri:type_of% @Nat.div_le_self:= @Nat.div_le_self
theorem wg:type_of% @Nat.lt_of_lt_of_le:= @Nat.lt_of_lt_of_le
theorem Er:type_of% @Nat.and_one_is_mod:= @Nat.and_one_is_mod
theorem BB:type_of% @Nat.div_eq_of_lt:= @Nat.div_eq_of_lt
def gX(q:List Bool)(i:Nat):Nat:=(q.getD i false).toNat
theorem rT(q:List Bool)(i:Nat):gX q i≤1:=Bool.toNat_le _
def part(q:List Bool)(i:Nat):Nat→Nat
 |0=>0
 |m+1=>2*part q i m+gX q (i+m)
theorem qq(q:List Bool)(i:Nat):∀m,part q i m<2^m
 |0=>by simp[part]
 |m+1=>by have:=qq q i m;have:=rT q (i+m);simp only[part,nK];omega
def rz(q:List Bool)(k:Nat):UInt8:=UInt8.ofNat (part q (8*k) 8)
theorem vf(q:List Bool)(k:Nat):(rz q k).toNat=part q (8*k) 8:=by
 have:=qq q (8*k) 8;rw[rz,oi];exact i_ this
def octets(q:List Bool)(k:Nat):al:=(List.range k).map (rz q)
theorem nu(q:List Bool)(k:Nat):(octets q k).length=k:=by simp[octets]
theorem uB(q:List Bool)(k:Nat):octets q (k+1)=octets q k++[rz q k]:=by simp[octets,lq]
def packed(q:List Bool):al:=octets q ((q.length+7)/8)
theorem dJ(q:List Bool):(packed q).length=(q.length+7)/8:=nu _ _
theorem sj(q:List Bool){n k:Nat}(h:k<n):(octets q n).getD k 0=rz q k:=by
 simp[octets,bk,h]
theorem Me(q:List Bool)(b:Bool)(i:Nat):gX (q++[b]) i=if i=q.length then b.toNat else gX q i:=by
 unfold gX;split
 ·subst i;simp[bk]
 ·simp only[bk,List.getElem?_append];split
  ·rfl
  ·rw[zX bR,zX aa]
theorem xA(q:List Bool){i:Nat}(h:q.length≤i):gX q i=0:=by
 simp[gX,bk,h]
theorem AF(q:List Bool)(b:Bool)(i:Nat):∀m,(q.length<i∨i+m≤q.length)→part (q++[b]) i m=part q i m
 |0,_=>rfl
 |m+1,h=>by
  rw[part,part,AF q b i m aa,Me,aw aa]
theorem IT(q:List Bool)(i:Nat):∀m,q.length≤i→part q i m=0
 |0,_=>rfl
 |m+1,h=>by rw[part,IT q i m h,xA q aa]
theorem AH(q:List Bool)(i m:Nat)(h:i+m=q.length):∀j,part q i (m+j)=part q i m*2^j
 |0=>by simp
 |j+1=>by
  rw[←NM,part,AH q i m h j,xA q aa,nK];rw[nL 2,tq];rfl
theorem aee(q:List Bool)(b:Bool)(i m:Nat)(h:i+m=q.length)(j:Nat):part (q++[b]) i (m+1+j)=part q i (m+1+j) ||| b.toNat*2^j:=by
 rw[AH (q++[b]) i (m+1) bR,NM,AH q i m h,part,AF q b i m aa,Me,ao h,sT 1 j];have hb:=Bool.toNat_le b;have e:part q i m*2^(j+1)=2^(j+1)*part q i m:=nL _ _;rw[e,←NR (by rw[nK];have:=v_ j;rcases b with _|_<;>simp<;>omega),mL,nK];congr 1;rw[nL 2 (part q i m),tq,nL 2 (2^j),nL (part q i m)]
theorem adX{q q':List Bool}{k:Nat}(h:part q (8*k) 8=part q' (8*k) 8):rz q k=rz q' k:=by rw[rz,rz,h]
theorem Ox(q:List Bool)(b:Bool){n:Nat}(h:8*n≤q.length):octets (q++[b]) n=octets q n:=by
 simp only[octets];apply sb;intro k hk;have:=kB.mp hk;exact adX (AF q b _ _ aa)
def room(q:List Bool):al:=octets q (q.length/8+1)
theorem BP(q:List Bool):(room q).length=q.length/8+1:=nu _ _
theorem OZ{q:List Bool}(h:q.length%8=0):packed q++[0]=room q:=by
 rw[packed,room,show(q.length+7)/8=q.length/8 by omega,uB];congr 2;rw[rz,IT q _ _ aa];rfl
theorem aeB{q:List Bool}(h:¬q.length%8=0):packed q=room q:=by
 rw[packed,room,show(q.length+7)/8=q.length/8+1 by omega]
theorem aeA(q:List Bool):((room q).getD (q.length/8) 0).toNat=part q (8*(q.length/8)) 8:=by
 rw[room,sj q aa,vf]
theorem aqW{a b:Nat}(ha:a<256)(hb:b<256):IntKind.u8.wrap ((BitVec.ofInt IntKind.u8.bits (a:Int) ||| BitVec.ofInt IntKind.u8.bits (b:Int)).toNat:Int)=((a ||| b:Nat):Int):=u8_or a b ha hb
theorem TX{a b:Nat}(ha:a<18446744073709551616)(hb:b<18446744073709551616):IntKind.u64.wrap ((BitVec.ofInt IntKind.u64.bits (a:Int) &&& BitVec.ofInt IntKind.u64.bits (b:Int)).toNat:Int)=((a &&& b:Nat):Int):=u64_and a b ha hb
theorem anc{a b:Nat}(ha:a<18446744073709551616)(hb:b<18446744073709551616):IntKind.u64.wrap ((BitVec.ofInt IntKind.u64.bits (a:Int) ||| BitVec.ofInt IntKind.u64.bits (b:Int)).toNat:Int)=((a ||| b:Nat):Int):=u64_or a b ha hb
theorem aed(q:List Bool)(b:Bool):part q (8*(q.length/8)) 8 ||| b.toNat*2^(7-q.length%8)=part (q++[b]) (8*(q.length/8)) 8:=by
 have:=aee q b (8*(q.length/8)) (q.length%8) aa (7-q.length%8);rw[show q.length%8+1+(7-q.length%8)=8 by omega]at this;exact this.symm
theorem Fg(q:List Bool)(b:Bool):(room q).set (q.length/8) (rz (q++[b]) (q.length/8))=packed (q++[b]):=by
 rw[packed,room,uB,wX _ _ (by rw[nu];omega),nu,nE,aY,qe,
  show(q.length+1+7)/8=q.length/8+1 by omega,uB,Ox q b aa]
 rfl
theorem akF{b:Bool}{m:Nat}(h:m<8):IntKind.u8.wrap ((b.toNat:Int)*2^min (7-(m:Int)).toNat IntKind.u8.bits)=((b.toNat*2^(7-m):Nat):Int):=by
 have:∀(b:Bool) (m:Fin 8),IntKind.u8.wrap ((b.toNat:Int)*2^min (7-((m:Nat):Int)).toNat IntKind.u8.bits)=((b.toNat*2^(7-m.val):Nat):Int):=by decide+kernel
 exact this b ⟨m,h⟩
theorem aq'{b:Bool}{m:Nat}:b.toNat*2^(7-m)<256:=by
 have:2^(7-m)≤2^7:=la aa aa;rcases b with _|_<;>simp<;>omega
theorem Po(n:Nat):(n:Int).tmod 8=((n%8:Nat):Int):=by rw[Int.tmod_eq_emod_of_nonneg aa];omega
theorem aiF{n:Nat}(h:n≤9000000000000000000):IntKind.i64.wrap ((n:Int).tdiv 8)=((n/8:Nat):Int):=by
 have:(n:Int).tdiv 8=((n/8:Nat):Int):=(Int.ofNat_tdiv n 8).symm;rw[this];exact bF aa aa
theorem ad9(q:List Bool)(b:Bool):IntKind.u8.wrap ((BitVec.ofInt IntKind.u8.bits ((((room q).getD (q.length/8) 0).toNat:Nat):Int) ||| BitVec.ofInt IntKind.u8.bits ((b.toNat*2^(7-q.length%8):Nat):Int)).toNat:Int)=((rz (q++[b]) (q.length/8)).toNat:Int):=by
 rw[aqW (lT _) aq',aeA,aed,vf]
theorem pH(q:List Bool)(i m:Nat):∀j,part q i (m+j)/2^j=part q i m
 |0=>by simp
 |j+1=>by
  have:=rT q (i+(m+j));rw[←NM,part,nK,nL (2^j),←Nat.div_div_eq_div_mul,show(2*part q i (m+j)+gX q (i+(m+j)))/2=part q i (m+j) by omega];exact pH q i m j
theorem SB(q:List Bool){i:Nat}(h:i<q.length):((packed q).getD (i/8) 0).toNat=part q (8*(i/8)) 8:=by
 rw[packed,sj q aa,vf]
theorem anB{x m:Nat}(hm:m<8):(x:Int).fdiv (2^min (7-(m:Int)).toNat IntKind.u8.bits)=((x/2^(7-m):Nat):Int):=by
 have e:min (7-(m:Int)).toNat IntKind.u8.bits=7-m:=by
  show min _ 8=_;omega
 rw[e,we _ (Int.le_of_lt (Int.pow_pos aa))];rw[Int.natCast_ediv,Int.natCast_pow];rfl
theorem anA(l:al)(i j:Nat):(l.getD i 0).toNat/2^j<18446744073709551616:=NO (ri _ _) (wg (lT _) aa)
theorem agG(q:List Bool){i:Nat}(h:i<q.length):IntKind.u64.wrap ((BitVec.ofInt IntKind.u64.bits ((((packed q).getD (i/8) 0).toNat/2^(7-i%8):Nat):Int) &&& BitVec.ofInt IntKind.u64.bits 1).toNat:Int)=(gX q i:Int):=by
 have hl:((packed q).getD (i/8) 0).toNat/2^(7-i%8)<18446744073709551616:=NO (ri _ _) (wg (lT _) aa);have:=TX (b:=1) hl aa;rw[show((1:Nat):Int)=1 from rfl]at this;rw[this,SB q h,Er];have e:=pH q (8*(i/8)) (i%8+1) (7-i%8);rw[show i%8+1+(7-i%8)=8 by omega]at e;rw[e,part,show 8*(i/8)+i%8=i by omega];have:=rT q i;omega
theorem ag8{x m:Nat}(hx:x<2^m)(hm:m<64):IntKind.u64.wrap ((x:Int)*2^min (1:Int).toNat IntKind.u64.bits)=((2*x:Nat):Int):=by
 have h:x<2^63:=wg hx (la aa aa);have e:min (1:Int).toNat IntKind.u64.bits=1:=by decide
 rw[e,f_ aa aa];omega
theorem anb{x m b:Nat}(hx:x<2^m)(hm:m<64)(hb:b≤1):IntKind.u64.wrap ((BitVec.ofInt IntKind.u64.bits ((2*x:Nat):Int) ||| BitVec.ofInt IntKind.u64.bits (b:Int)).toNat:Int)=((2*x+b:Nat):Int):=by
 have h:x<2^63:=wg hx (la aa aa);rw[anc aa aa];have:=NR (i:=1) (b:=b) aa x;rw[Nat.pow_one]at this;rw[←this]
def hi(v n m:Nat):List Bool:=(List.range m).map fun j=>v.testBit (n-1-j)
theorem dM(v n m:Nat):(hi v n m).length=m:=by simp[hi]
theorem ahH(v n m:Nat):hi v n (m+1)=hi v n m++[v.testBit (n-1-m)]:=by simp[hi,lq]
theorem ahI(v n:Nat):hi v n 0=[]:=rfl
theorem Qx(v i:Nat):v/2^i%2=(v.testBit i).toNat:=by rw[Nat.toNat_testBit]
theorem WA(v i:Nat)(hv:v<18446744073709551616):IntKind.u64.wrap ((BitVec.ofInt IntKind.u64.bits ((v/2^i:Nat):Int) &&& BitVec.ofInt IntKind.u64.bits 1).toNat:Int)=((v.testBit i).toNat:Int):=by
 have hl:v/2^i<18446744073709551616:=NO (ri _ _) hv;have:=TX (b:=1) hl aa;rw[show((1:Nat):Int)=1 from rfl]at this;rw[this,Er,Qx]
theorem Fp(v:Nat){x:Int}{e:Nat}(hx:x=e)(he:e≤64):(v:Int).fdiv (2^min x.toNat IntKind.u64.bits)=((v/2^e:Nat):Int):=by
 subst hx;have e:min (e:Int).toNat IntKind.u64.bits=e:=by
  show min _ 64=_;omega
 rw[e,we _ (Int.le_of_lt (Int.pow_pos aa))];rw[Int.natCast_ediv,Int.natCast_pow];rfl
def aob(v:Nat)(n:Int):Prop:=0≤n∧n≤64∧v<2^n.toNat
instance (v:Nat)(n:Int):Decidable (aob v n):=inferInstanceAs (Decidable (_∧_))
theorem OM{v n:Nat}(h:¬((v/2^n:Nat):Int)=0):¬v<2^n:=fun hv=>h (by rw[BB hv];rfl)
def un(n:Nat):List Bool:=List.replicate n false++[true]
theorem oQ(n:Nat):(un n).length=n+1:=by simp[un]
theorem Fe(n:Nat):List.replicate (n+1) false=List.replicate n false++[false]:=List.replicate_succ' ..
def lo(v m:Nat):List Bool:=(List.range m).map v.testBit
theorem aoN{P:Prop}(h:P:=by(rw[show(packed q).length+1=(room q).length by omega];rfl)):P:=h
theorem Hk{P:Prop}(h:P:=by(rw[aeB (by omega)])):P:=h
theorem Gs{P:Prop}(h:P:=by(rintro _ _ rfl;exact gD)):P:=h
theorem agE{P:Prop}(h:P:=by(rw[←Fg q b];simp)):P:=h
theorem abl(l:al)(k:Nat)(u:UInt8):(bv l).set k (.int .u8 u.toNat)=bv (l.set k u):=by simp[bv,Kw]
theorem abk(l:al):(bv l).length=l.length:=by simp[bv]
theorem aaU(q:List Bool)(b:Bool)(hq:q.length≤8000000):
  a_ B w0 212 [br g,.int .u64 b.toNat] (.bE g bt [.slice A (packed q).length c,ah q.length]:: .own 5 1 A (packed q).length c (bv (packed q))::F)
   (fun r L=>r= .tuple #[]∧∃A' c',L= .bE g bt [.slice A' (packed (q++[b])).length c',ah (q++[b]).length]:: .own 5 1 A' (packed (q++[b])).length c' (bv (packed (q++[b])))::F):=by
 have mN:=dJ q;have hrl:=BP q;have oL:=Bool.toNat_le b;refine fw func212 48 [0,1] ?_;refine d_ (fun zf zL=>∃(A':bj) (c':Nat),Sub zf [(0,br g),(1,.int .u64 b.toNat)]∧Wk zL (.bE g bt [.slice A' (room q).length c',ah q.length]:: .own 5 1 A' (room q).length c' (bv (room q))::F)) ?_ ?_
 ·refine bz ?_;refine ab (nt rfl rfl aa (Po _)) rfl ?_;refine bA ?_;refine aj (fun h9=>?_) fun h9=>?_
  ·refine bz ?_;refine dF cD rfl rfl rfl rfl rfl (fun _=>rfl) aV aa aa ?_;intro _ Xk c16;refine b8 ?_;exact bD ⟨Xk,c16,bp,bq aoN (ax aa (by rw[←OZ aa];simp[bv]) (.refl _))⟩
  ·refine aF ?_;exact bD ⟨A,c,bp,bq Hk (ax Hk Hk (.refl _))⟩
 ·rintro _ _ ⟨A',c',hs,hp⟩;refine aU hs hp ?_;clear hs hp;refine aF ?_;refine kJ (A:=A') (n:=(room q).length) (xs:=bv (room q)) (.tail _ (.head _)) aa ?_;intro ad hA;subst hA;refine cF (.bE g bt [.slice (some ad) (room q).length c',ah q.length]::F) ?_;refine ae 0 ?_;refine ae 1 ?_;refine ae 2 ?_;refine ae 3 ?_;refine ae 4 ?_;refine ae 5 ?_;refine ae 6 ?_;refine ae 7 ?_;refine aW 8 rfl (mh rfl rfl aa (aiF aa)) ?_;refine aW 9 rfl (aO (size:=1) (i:=q.length/8) underlying27 ag rfl rfl rfl aa) ?_;refine ae 11 ?_;refine ae 12 ?_;refine ae 13 ?_;refine ae 14 ?_;refine ae 15 ?_;refine ae 16 ?_;refine aW 17 rfl (nt rfl rfl aa (Po _)) ?_;refine ae 18 ?_;refine aW 19 rfl (ga rfl rfl aa (akF aa)) ?_;refine az 10 ?_;refine aF ?_;refine aW 20 rfl (tN rfl rfl (ad9 q b)) ?_;refine aW 21 rfl (aO (size:=1) (i:=q.length/8) underlying27 ag rfl rfl rfl aa) ?_;refine az 22 ?_;refine kR rfl .no (iK ag rfl rfl rfl aV (by rw[abk];omega)) Gs ?_;rintro _ _ rfl;refine cQ [0] ?_;refine cH ?_;refine aq (L':=.bE g bt [.slice (some ad) (packed (q++[b])).length c',ah (q++[b]).length]:: .own 5 1 (some ad) (packed (q++[b])).length c' (bv (packed (q++[b])))::F) (bq agE (ax agE (by rw[cE,abl,Fg]) (.refl _))) ?_;refine aF ?_;exact⟨rfl,_,c',rfl⟩
theorem ajK(q:List Bool)(i:Nat)(hi:i<q.length)(hq:q.length≤8000000000)(rest:cV)(l:al)(hl:packed q=l)(hn:n=l.length)(hs:mG (.bE g bt (.slice A n c::rest)) F f)(hb:aK B w0 F 1 (.slice A n c) n (bv l)):
  a_ B w0 339 [br g,ah i] F
   (fun r L=>r= .int .u64 (gX q i)∧L=F):=by
 subst hn;subst hl;have mN:=dJ q;refine fw func339 19 [0,1] ?_;refine bB ?_;refine ab (bM ag rfl hs rfl) rfl ?_;refine aF ?_;refine ab (mh rfl rfl aa (aiF aa)) rfl ?_;refine ab (aC (i:=i/8) underlying27 ag rfl rfl rfl aa aA) rfl ?_;refine be ?_;refine ab (nt rfl rfl aa (Po _)) rfl ?_;refine aF ?_;refine ab (dj rfl rfl aa (anB aa)) rfl ?_;refine ab (bm underlying5 underlying60 rfl (wrap_u64 _ (anA _ _ _))) rfl ?_;refine ab (jY rfl rfl (agG q hi)) rfl ?_;refine aF ?_;refine ve [4] ?_;refine bA ?_;exact⟨rfl,rfl⟩
theorem ET(q:List Bool)(p m:Nat)(hp:p≤q.length)(hm:m≤64)(hq:q.length≤8000000000)(rest:cV)(l:al)(hl:packed q=l)(hn:n=l.length)(hs:mG (.bE g bt (.slice A n c::ah q.length::rest)) F f)(hb:aK B w0 F 1 (.slice A n c) n (bv l)):
  a_ B w0 340 [br g,ah p,ah m] F
   (fun r L=>r= .int .u64 (part q p m)∧L=F):=by
 refine fw func340 31 [0,1,2] ?_;refine tS ?_;refine aE (fun zf zL zm=>∃(k:Nat),(k≤m)∧m-k=zm∧Sub zf [(0,br g),(1,ah p),(2,ah m),(7,.int .u64 (part q p k)),(8,ah (p+k:Nat))]∧Wk zL (F)) _ ⟨0,bS _,rfl,bp,.refl _⟩ ?_;rintro _ _ _ ⟨k,hk,rfl,hs,hp⟩;refine aU hs hp ?_;clear hs hp;have fN:=qq q p k;have al4:=rT q (p+k);have hps:part q p (k+1)=2*part q p k+gX q (p+k):=rfl;refine bB ?_;refine aj (fun jZ=>?_) fun jZ=>?_
 ·refine bK ?_;refine ab (ga rfl rfl aa (ag8 fN aa)) rfl ?_;refine bO ?_;refine ab (bM ag rfl hs rfl) rfl ?_;refine ab (xN (m:=(p+k:Nat)) rfl rfl) rfl ?_;refine be ?_;refine aj (fun oh=>?_) fun oh=>?_
  ·refine b8 ?_;refine ai rfl (ajK q (p+k) aa hq _ l hl hn hs hb) ?_;refine ab (tN rfl rfl (anb fN aa al4)) rfl ?_;refine aF ?_;refine ve [0,1,2,7,8] ?_;refine bK ?_;refine av ⟨_,aa,k+1,aa,rfl,bp,.refl _⟩
  ·have h0:=xA q (i:=p+k) aa;refine bK ?_;refine ve [0,1,2,7,8] ?_;refine av ⟨_,aa,k+1,aa,rfl,bp,.refl _⟩
 ·refine dc ?_;have hk':k=m:=by omega
  subst hk';exact⟨rfl,rfl⟩
theorem jH:type_of% @Lib.hid:= @Lib.hid
set_option maxHeartbeats 1000000 in
theorem ag1{B:Nat}{v:Value}{n:Nat}{l:al}(w:World)(h:Rd w B 1 v n (bv l))(hn:n≤1099511627776):
  Calls Tryz.prog 36 #[v] w fun e w'=>∃v',e= .returned v'∧w'.ownsRow w.heap.size 5 1 v' n (bv l)∧Below w.heap.size w w':=by
 have h':=h;obtain⟨A,c,rfl,hc,hl,hr⟩:=h;have amj:=fun w=>Lib.run_eql_slice_nil (P:=Tryz.prog) w 27 5 A n c 0 0 underlying27;rcases A with _|ad
 ·have h0:n=0:=by
   rcases wV n with h0|h0
   ·exact h0
   ·obtain⟨ad,h,_⟩:=hr h0;cases h
  subst h0;have hl0:l=[]:=mr vO;subst hl0;clear hr hl h'
  go_enter func36,Tryz.ntmps36
  go_wp2
  go_ret
  exact⟨_,rfl,World.ownsRow_nil _ _ _ _,GX _ _⟩
 ·have mm:n≤c:=hc;have mo:(w.alloc (.cells #[] 5)).ownsRow w.heap.size 5 1 (.slice (some ⟨w.heap.size,0,none⟩) 0 0) 0 []:=⟨rfl,.inr ⟨_,0,#[],rfl,gi _,Ev w _,gi _,Bj,rfl,rfl⟩⟩
  have hr':Rd (w.alloc (.cells #[] 5)) B 1 (.slice (some ad) n c) n (bv l):=by
   obtain⟨A,c',hv,h2,h3,h4⟩:=h';refine⟨A,c',hv,h2,h3,fun hn=>?_⟩;obtain⟨ad',e,hb,fy⟩:=h4 hn;refine⟨ad',e,hb,fun j u hu=>?_⟩;have:=fy j u hu;rw[World.cell?_alloc_lt w _ _ (World.block_lt_of_cell? w _ this)];exact this
  have H1:=jH mo;have H2:=jH hr';clear hr hl h' mo hr'
  go_enter func36,Tryz.ntmps36
  have hb0:Below w.heap.size w (w.alloc (.cells #[] 5)):=(GX _ _).alloc (gi _) _;have CD:w.heap.size≤(w.alloc (.cells #[] 5)).heap.size:=hb0.size;have H3:=jH hb0;have H4:=jH CD;clear hb0 CD
  go_wp2_with (at_builtin;refine TL cD rfl (.tmp 5) (.tmp 6) rfl rfl H1.out rfl H2.out (qz _) H3.out (gi _) H4.out aa aa ?_;intro v2 w2 Iu oL Nv)
  go_ret
  have e0:0+n=n:=by omega
  rw[e0,nG]at Iu;exact⟨v2,rfl,Iu,oL⟩
theorem me{B:Nat}{w0:World}{F:aQ}{A:bj}{n c:Nat}(l:al)(hb:aK B w0 F 1 (.slice A n c) n (bv l))(hn:n≤1099511627776):
  a_ B w0 36 [.slice A n c] F (fun r L=>∃A' c',r= .slice A' n c'∧L= .own 5 1 A' n c' (bv l)::F):=
 dL.AD fun w hw=>ag1 w (hb w hw) hn
end Go.Proofs.YtaodmbolhoafcaaGreatDoor
