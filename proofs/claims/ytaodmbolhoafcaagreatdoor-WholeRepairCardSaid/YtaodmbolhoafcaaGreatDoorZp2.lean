/-
  Texts of one proof, joined: part 2. No condition.
-/
import Derived.Test.YtaodmbolhoafcaaGreatDoorZp1
import Derived.OrdersHeld
import Derived.Deep.RegionHeld3
import Derived.Lib.SliceRun
import Derived.Laws.CopyRow
import Derived.Laws.IdiomCopy
import Derived.Laws.StructEq
import Derived.Test.YtaodmbolhoafcaaGreatDoorProg
open List renaming length→E
open Go.RowKit Go.Proofs.Tryz
namespace Go.Proofs.YtaodmbolhoafcaaGreatDoor
set_option linter.unusedVariables false
set_option linter.unusedSimpArgs false
set_option maxRecDepth 20000
section
section
variable{C:Cx}{Q:Exit->Fr->aR->Prop}{fr j8:Fr}{L L' S:aR}{ops:Array Oper}{op:Op}{ty:TypeId}{pos:String}{af:Array Edge}{d:Nat}{v:Value}{fuel:Nat}{li:Array Bool}
theorem pK{P:Prop}(h:P:=by(simpa using h2)):P:=h
theorem ym{P:Prop}(h:P:=by(simp[hk])):P:=h
theorem Ea{P:Prop}(h:P:=by(rw[e];rfl)):P:=h
theorem acM{P:Prop}(h:P:=by(rw[Bu,lV];exact DS hw hm hj)):P:=h
theorem me:type_of% @List.mem_singleton:= @List.mem_singleton
theorem dI:type_of% @List.length_cons:= @List.length_cons
theorem sX:type_of% @Nat.add_zero:= @Nat.add_zero
theorem LR:type_of% @List.map_set:= @List.map_set
theorem rr:type_of% @List.drop_zero:= @List.drop_zero
def VH(C:Cx)(ops:Array Oper)(S:aR)(Q:Exit->Fr->aR->Prop)(fuel:Nat)(li:Array Bool)(fr:Fr)(L:aR):Prop:=
 ∀a w,qv C.N fr a->SL C.B C.w0 L w->SL C.B C.w0 S w->wpAnyH C.P .any ops (NoPanic (lift C Q)) (SL C.B C.w0 S) fuel li a w
theorem ab5{id:Nat}{l:tx}(hm:C.P.follows .mixedOrders=true)(hS:S.Sublist L)(h:VH C l.toArray S Q l.toArray.size (Array.replicate l.toArray.size false) fr L):VC C (.region id l.toArray true) Q fr L:=λa w ha hw=>
 wp_region_noPanic (wp_region_held hm (h a _ ha (hw.drewN 1) ((hw.drewN 1).sub hS)))
theorem YM(i:Nat)(ho:ops[i]? =some ⟨some d,op,ty,pos,af,none⟩)(hs:Region.noSelect ops=true)(hf:Region.free .any ops li i=true)(hr:(Region.ready .any ops li).contains i=true)(h:gR C fr S op ty v)(hd:Nat.blt d C.N=true)(k:VH C ops S Q fuel (li.setIfInBounds i true) ((d,v)::fr) L):VH C ops S Q (fuel+1) li fr L:=λa w ha hw hS=>
 wpAnyH_take ho hs hf hr (λ_ _ _ h=>h) (.inl ⟨rfl,λw hw=>h a w ha hw _ _ _ _⟩) hS (k _ w (ha.put hd v) hw hS)
theorem jF(i:Nat){j t:Nat}{want:Bool}(ho:ops[i]? =some ⟨some d,op,ty,pos,af,some (j,want)⟩)(hs:Region.noSelect ops=true)(hf:Region.free .any ops li i=true)(hr:(Region.ready .any ops li).contains i=true)(hj:(ops[j]?).bind (·.dst)=some t)(ht:look t fr=some (.bool want))(h:gR C fr S op ty v)(hd:Nat.blt d C.N=true)(k:VH C ops S Q fuel (li.setIfInBounds i true) ((d,v)::fr) L):VH C ops S Q (fuel+1) li fr L:=λa w ha hw hS=>
 wpAnyH_take ho hs hf hr (λ_ _ _ h=>h) (.inl ⟨ani,λw hw=>h a w ha hw _ _ _ _⟩) hS (k _ w (ha.put hd v) hw hS)
theorem iO(i:Nat){j t:Nat}{want b:Bool}(ho:ops[i]? =some ⟨some d,op,ty,pos,af,some (j,want)⟩)(hs:Region.noSelect ops=true)(hf:Region.free .any ops li i=true)(hr:(Region.ready .any ops li).contains i=true)(hj:(ops[j]?).bind (·.dst)=some t)(ht:look t fr=some (.bool b))(hb:(b==want)=false)(hd:Nat.blt d C.N=true)(k:VH C ops S Q fuel (li.setIfInBounds i true) ((d,undef)::fr) L):VH C ops S Q (fuel+1) li fr L:=λa w ha hw hS=>
 wpAnyH_take ho hs hf hr (λ_ _ _ h=>h) (.inr ⟨ang,rfl⟩) hS (k _ w (ha.put hd _) hw hS)
theorem ahS(t:Nat){p:Prop}[Decidable p](ht:look t fr=some (.bool (decide p)))(k1:p->VH C ops S Q fuel li ((t,.bool true)::fr) L)(k2:¬p->VH C ops S Q fuel li ((t,.bool false)::fr) L):VH C ops S Q fuel li fr L:=λa w ha hw hS=>by
 by_cases hp:p
 ·exact k1 hp a w (ha.bool ht (oK hp)) hw hS
 ·exact k2 hp a w (ha.bool ht (oq hp)) hw hS
def Step(C:Cx)(ops:Array Oper)(S:aR)(Q:Exit->Fr->aR->Prop)(fuel:Nat)(li:Array Bool)(fr:Fr)(L:aR)(i:Nat):Prop:=
 ∀a w,qv C.N fr a->SL C.B C.w0 L w->SL C.B C.w0 S w->wpOp C.P ops (NoPanic (lift C Q)) i (λa' w'=>SL C.B C.w0 S w'∧wpAnyH C.P .any ops (NoPanic (lift C Q)) (SL C.B C.w0 S) fuel (li.setIfInBounds i true) a' w') a w
theorem apT(i:Nat)(hr:Region.ready .any ops li=[i])(h:Step C ops S Q fuel li fr L i):VH C ops S Q (fuel+1) li fr L:=λa w ha hw hS=>
 wpAnyH_all hr ak λj hj=>by rw[me.1 hj];exact h a w ha hw hS
theorem apU(i j:Nat)(hr:Region.ready .any ops li=[i,j])(h1:Step C ops S Q fuel li fr L i)(h2:Step C ops S Q fuel li fr L j):VH C ops S Q (fuel+1) li fr L:=λa w ha hw hS=>
 wpAnyH_all hr ak λk hk=>by
  rcases fj.1 hk with rfl|hk
  ·exact h1 a w ha hw hS
  ·rw[me.1 hk];exact h2 a w ha hw hS
inductive Gd(ops:Array Oper)(fr:Fr):Option (Nat×Bool)->Prop where
 |no:Gd ops fr none
 |yes {j t:Nat} {want:Bool} (hj:(ops[j]?).bind (·.dst)=some t) (ht:look t fr=some (.bool want)):Gd ops fr (some (j,want))
theorem Gd.wanted{g:Option (Nat×Bool)}{dd:Option Tmp}{a:Act}{N:Nat}(h:Gd ops fr g)(ha:qv N fr a):Region.wanted ⟨dd,op,ty,pos,af,g⟩ (yielded ops a.tmps)=true:=by
 cases h with
 |no=>rfl
 |yes hj ht=>rw[tv hj (ha.at_ _ _ ht)];simp
theorem UK{i:Nat}{R:rF}{g:Option (Nat×Bool)}(ho:ops[i]? =some ⟨some d,op,ty,pos,af,g⟩)(hg:Gd ops fr g)(h:q8 C fr L op ty R)(hd:Nat.blt d C.N=true)(hS:∀v L',R v L'->S.Sublist L')(k:∀v L',R v L'->VH C ops S Q fuel (li.setIfInBounds i true) ((d,v)::fr) L'):Step C ops S Q fuel li fr L i:=λa w ha hw _=>by
 obtain⟨v,w',L',hr,hR,hs⟩:=h a w ha hw (some d) pos af g;unfold wpOp;simp only[ho];rw[ao (hg.wanted ha)];refine .inl ?_;unfold Oper.wp;have j_:=hs.sub (hS v L' hR);rcases hr with hr|⟨hr,rfl⟩<;>rw[hr]<;>exact⟨j_,k _ _ hR _ _ (ha.put hd _) hs j_⟩
theorem kJ{i:Nat}{R:rF}{g:Option (Nat×Bool)}(ho:ops[i]? =some ⟨none,op,ty,pos,af,g⟩)(hg:Gd ops fr g)(h:q8 C fr L op ty R)(hS:∀v L',R v L'->S.Sublist L')(k:∀v L',R v L'->VH C ops S Q fuel (li.setIfInBounds i true) fr L'):Step C ops S Q fuel li fr L i:=λa w ha hw _=>by
 obtain⟨v,w',L',hr,hR,hs⟩:=h a w ha hw none pos af g;unfold wpOp;simp only[ho];rw[ao (hg.wanted ha)];refine .inl ?_;unfold Oper.wp;have j_:=hs.sub (hS v L' hR);rcases hr with hr|⟨hr,rfl⟩<;>rw[hr]<;>exact⟨j_,k _ _ hR _ _ ha hs j_⟩
theorem gN{i:Nat}{ff:FuncId}{uv:List Operand}{Dq:Array TypeId}{vs:cZ}{R:rF}{g:Option (Nat×Bool)}(ho:ops[i]? =some ⟨some d,.call {callee:=.value (.func ff),args:=uv.toArray,argTypes:=Dq},ty,pos,af,g⟩)(hg:Gd ops fr g)(hc:aK C.P ff)(he:C9 fr uv=some vs)(h:dU C.P C.B C.w0 ff vs L R)(hd:Nat.blt d C.N=true)(hS:∀v L',R v L'->S.Sublist L')(k:∀v L',R v L'->VH C ops S Q fuel (li.setIfInBounds i true) ((d,v)::fr) L'):Step C ops S Q fuel li fr L i:=λa w ha hw _=>by
 unfold wpOp;simp only[ho];rw[ao (hg.wanted ha)];refine .inl ?_;unfold Oper.wp;rw[mL hc (fst:= #[]) (cap:= #[]) rfl,ha.C9 he,Array.append_empty,Array.empty_append];refine LM (h w hw) λe w' ⟨v,L',he,hR,hs⟩=>?_;subst he;have j_:=hs.sub (hS v L' hR);exact⟨j_,k _ _ hR _ _ (ha.put hd _) hs j_⟩
theorem iL{i:Nat}{g:Option (Nat×Bool)}(ho:ops[i]? =some ⟨some d,op,ty,pos,af,g⟩)(hg:Gd ops fr g)(h:gR C fr L op ty v)(hd:Nat.blt d C.N=true)(hS:S.Sublist L)(k:VH C ops S Q fuel (li.setIfInBounds i true) ((d,v)::fr) L):Step C ops S Q fuel li fr L i:=λa w ha hw _=>by
 unfold wpOp;simp only[ho];rw[ao (hg.wanted ha)];refine .inl ?_;unfold Oper.wp;rw[h a w ha hw];exact⟨hw.sub hS,k _ _ (ha.put hd _) hw (hw.sub hS)⟩
theorem alA(base:Fr)(hs:Sub fr base)(hr:Region.ready .any ops li=[])(h:Q .normal base L):VH C ops S Q fuel li fr L:=λa w ha hw _=>wpAnyH_done hr (show NoPanic (lift C Q) .normal a w from⟨base,L,ha.sub hs,hw,h⟩) _
def evp(fr:Fr):Nat->List (Nat×Operand)->Option (cZ)
 |_,[]=>some []
 |k,(i,x)::r=>bif Nat.beq i k then (match ev fr x,evp fr (k+1) r with
  |some v,some vs=>some (v::vs)
  |_,_=>none) else none
theorem OG{a:Act}{N:Nat}(ha:qv N fr a):∀(parts:List (Nat×Operand)) (k:Nat) (vs:cZ) (cells:Array Value),evp fr k parts=some vs->(∀u∈vs,u.oneCell'=true)->k+E vs<=cells.size->
  ∃out,Instr.fill (λi=>some (i*1,1)) cells (parts.map λp=>(p.1,a.eval p.2))=some out∧out.size=cells.size∧(∀j,j<k->out[j]? =cells[j]?)∧(∀j,j<E vs->out[k+j]? =vs[j]?)
 |[],k,vs,cells,h,_,_=>by
  simp[evp]at h;subst h;exact⟨cells,rfl,rfl,λ_ _=>rfl,λj hj=>absurd hj ak⟩
 |(i,x)::r,k,vs,cells,h,h1,hl=>by
  unfold evp at h;cases hb:Nat.beq i k with
  |false=>rw[hb]at h;cases h
  |true=>
   rw[hb]at h;have hik:=r9 hb;subst hik;simp only[Ii]at h;split at h
   ·rename_i v vs' e1 e2;injection h with h;subst h;have hv1:=h1 v ak;have hv:v.cells= #[v]:=by cases v<;>simp_all[Value.cells,Value.oneCell']
    simp only[dI]at hl;obtain⟨out,q1,q2,q3,q4⟩:=OG ha r (i+1) vs' (cells.setIfInBounds i v) e2 (λu hu=>h1 u (by simp[hu])) bT;refine⟨out,?_,by simpa using q2,λj hj=>?_,λj hj=>?_⟩
    ·simp only[kh,ha.tmp e1,Instr.fill,hv];have:¬(cells.size<i+1):=by omega
     simp only[cH]at q1;simp[this,q1]
    ·rw[q3 j aa];simp[show¬i=j by omega]
    ·rcases j with _|j
     ·rw[sX,q3 i aa];simp[show i<cells.size by omega]
     ·have:=q4 j (by simpa using hj);rw[show i+(j+1)=i+1+j by omega,this];simp
   ·cases h
theorem aG{t e:TypeId}{kk bytes:Nat}{zv:Value}{parts:List (Nat×Operand)}(T:tA C.P t e 1 bytes zv)(vs:cZ)(hp:evp fr 0 parts=some vs)(hk:E vs=kk)(h1:∀u∈vs,u.oneCell'=true)(uL:0<kk)(yh:kk<=1048576):
  q8 C fr L (.buildSlice t kk parts.toArray) ty (λp L'=>∃A,p= .slice A kk kk∧L'= .own e 1 A kk kk vs::L):=λa w ha hw d pos af gg=>by
 obtain⟨i,hi,hz,jg,Fc⟩:=T.hi;obtain⟨out,q1,q2,q3,q4⟩:=OG ha parts 0 vs ((Array.range (kk*1)).map (zv.cells[· %zv.cells.size]!)) hp h1 bT;have ajH:out=vs.toArray:=by
  apply Array.ext
  ·simp at q2;simp[q2,hk]
  ·intro j h1 h2;have:=q4 j pK;rw[lV,Array.getElem?_eq_getElem h1]at this;simp at h2;rw[fc h2]at this;simpa using this
 rw[ajH]at q1;have Lz:¬(16777216<kk):=by omega
 have DD:¬kk=0:=by omega
 refine⟨_,w.alloc (.cells vs.toArray e),_,.inl ?_,⟨some ⟨w.heap.size,0,none⟩,rfl,rfl⟩,hw.gT (LN w _ none) ⟨by rw[hk,cH],gC _,.inr ⟨_,_,rfl,hw.base,FD w _,Cl,ym,by simp[<-hk]⟩⟩ (.inr ⟨w.heap.size,by simp[Ch.fp,DD],gC _⟩)⟩;simp only[cH]at q1;simp[execOp,Instr.buildSlice,jk T.ht,sizeOf,typeInfo,zeroValue,hi,hz,jg,Lz,DD,newRow,q1]
section
variable{x y:Operand}{k:IntKind}{m:Int}{f:Ch->aR}{g o i:Nat}{bt t e:TypeId}{cs:cZ}
theorem aP{nn:Nat}(ht:C.P.underlying t=some (.array nn e))(hz:(C.P.info? e).map (·.size)=some 1)(he:ev fr x=some (.pointer (some ⟨g,o,none⟩)))(h2:ev fr y=some (.int k m))(hm:m=(i:Int))(hi:i<nn):
  gR C fr L (.indexAddr t x y) ty (.pointer (some ⟨g,o+i,none⟩)):=λa w ha hw d pos af gg=>by
 subst hm;simp[execOp,Instr.indexAt,Instr.sureAddr,asIntOf,ha.tmp he,ha.tmp h2,jk ht,hi,Ie hz,Bu]
theorem fk{b:List Int}{kk:IntKind}(hs:qA C.P t=true)(he:ev fr x=some (.pointer (some ⟨g,0+i,none⟩)))(hm:na (.bG g bt (ints kk b)) L f)(hi:i<E b):gR C fr L (.load t x) ty (.int kk (b.getD i 0)):=
 bQ hs he hm (by simp[ints,List.getD,fc hi])
theorem HY{b:List Int}{kk:IntKind}{n:Int}(hs:qA C.P t=true)(he:ev fr x=some (.pointer (some ⟨g,0+i,none⟩)))(hv:ev fr y=some (.int kk n))(hm:na (.bG g bt (ints kk b)) L f)(hi:i<E b):
  q8 C fr L (.store t x y) ty (λp L'=>L'=f (.bG g bt (ints kk (b.set i n)))):=λa w ha hw d pos af gg=>by
 obtain⟨v,w',L',h1,h2,h3⟩:=pr (ty:=ty) hs he hv rfl hm bT a w ha hw d pos af gg;refine⟨v,w',L',h1,?_,h3⟩;rw[h2];congr 2;simp[ints,LR]
theorem ED(kk:Nat)(hs:p8 C.P t kk=true)(he:ev fr x=some (br g))(hm:na (.bG g bt cs) L f)(hk:E cs=kk):gR C fr L (.load t x) ty (.agg cs.toArray):=
 bP kk hs he hm cs (by rw[rr,<-hk,ki]) hk
theorem oG{us:cZ}(kk:Nat)(hs:p8 C.P t kk=true)(he:ev fr x=some (br g))(hv:ev fr y=some (.agg us.toArray))(h1:∀u∈us,u.oneCell'=true)(hm:na (.bG g bt cs) L f)(hk:E cs=kk)(hu:E us=kk):
  q8 C fr L (.store t x y) ty (λp L'=>L'=f (.bG g bt us)):=λa w ha hw d pos af gg=>by
 have hb:=(hw.all _ hm.mem).2;have hi:(C.P.info? t).map (·.size)=some us.toArray.size:=by
  have h:=hs;unfold p8 at h;rw[Bx]at h;have h2:=h.2;rw[beq_iff_eq]at h2;rw[h2,<-hu];simp
 have hr:=run_storeVar_row (P:=C.P) w g bt t cs.toArray us.toArray hb hi (by simp[hk,hu]) (by rw[Array.all_eq_true_iff_forall_mem];simpa using h1);refine⟨undef,w.setRow g us.toArray,f (.bG g bt us),.inr ⟨by simp[execOp,Instr.storeAt,Instr.sureAddr,ha.tmp he,ha.tmp hv,hr],rfl⟩,rfl,?_⟩;refine hw.RV hm ?_ (λ⟨q1,q2⟩=>⟨q1,?_⟩) (.inr (.inl rfl))
 ·exact⟨rfl,rfl,rfl,ak,λk _ hk=>PF w g k _ (λe=>hk Ea)⟩
 ·exact PE w g cs.toArray _ bt _ q2
theorem iK{P:Program}{fn:Func}{R:rF}{q u kk:Nat}{ty:TypeId}(hr:fn.results= #[.cell q ty,.tmp u])(hq:look q fr=some (br g))(hs:p8 P ty kk=true)(hm:na (.bG g bt cs) L f)(hk:E cs=kk){v:Value}(hu:look u fr=some v)(Ty:Wk L L')(h:R (.tuple #[.agg cs.toArray,v]) L'):Dp P fn R .ret fr L:=λB w0 a w ha hw=>by
 subst hk;refine⟨_,L',?_,h,Ty.sl hw⟩;have hl:=la (P:=P) (w:=w) (p:=⟨g,0,none⟩) hs (λj u hj=>acM);rw[results_cell_tmp hr];simp[ha.at_ _ _ hq,ha.at_ _ _ hu,asAddr,hl]
theorem J_{P:Program}{fn:Func}{R:rF}{q kk:Nat}{ty:TypeId}(hr:fn.results= #[.cell q ty])(hq:look q fr=some (br g))(hs:p8 P ty kk=true)(hm:na (.bG g bt cs) L f)(hk:E cs=kk)(Ty:Wk L L')(h:R (.agg cs.toArray) L'):Dp P fn R .ret fr L:=λB w0 a w ha hw=>by
 subst hk;refine⟨_,L',?_,h,Ty.sl hw⟩;have hl:=la (P:=P) (w:=w) (p:=⟨g,0,none⟩) hs (λj u hj=>acM);simp[results,hr,ha.at_ _ _ hq,asAddr,hl]
end
theorem dU.law{P:Program}{ff:FuncId}{args:cZ}{w:World}(h:dU P w.heap.size w ff args [] (λr L=>r= .bool true)):Calls P ff args.toArray w λe w'=>e= .returned (.bool true)∧Below w.heap.size w w':=
 (h w (SL.BI w)).mono λe w' ⟨v,M,he,hR,hs⟩=>by subst hR;exact⟨he,hs.below⟩
theorem AV{x:Operand}{xt:TypeId}(h:ev fr x=some (.bool true)):gR C fr L (.unOp .not xt x) ty (.bool false):=jm h
theorem AU{x:Operand}{xt:TypeId}(h:ev fr x=some (.bool false)):gR C fr L (.unOp .not xt x) ty (.bool true):=jm h
def tD(l:List Bool):cZ:=l.map .bool
theorem HV{x:Operand}{t:TypeId}{A:bk}{nn c j:Nat}{b:List Bool}(hs:qA C.P t=true)(he:ev fr x=some (.pointer (A.map (·.add (j*1)))))(hb:aM C.B C.w0 L 1 (.slice A nn c) nn (tD b))(hj:j<nn):gR C fr L (.load t x) ty (.bool (b.getD j false)):=λa w ha hw=>by
 have hl:=hb.len hw;simp[tD]at hl;rw[cH]at he;refine au hs he hb aa ?_ a w ha hw;simp[tD,List.getD,fc (show j<E b by omega)]
end
def CA(P:Program)(t:TypeId):Bool:=match P.info? t with|some i=>Nat.blt 0 i.size|none=>false
theorem EC{C:Cx}{fr:Fr}{L:aR}{x:Operand}{ty t:TypeId}{g o:Nat}{fs:Array Field}{i:Nat}{fd:Field}(ht:C.P.underlying t=some (.struct fs))(hf:fs[i]? =some fd)(hz:CA C.P fd.type=true)(he:ev fr x=some (.pointer (some ⟨g,o,none⟩))){q:Nat}(hq:o+fd.offset=q):
  gR C fr L (.fieldAddr t x i) ty (.pointer (some ⟨g,q,none⟩)):=by
 unfold CA at hz;cases hi:C.P.info? fd.type with
 |none=>rw[hi]at hz;cases hz
 |some f=>
  rw[hi]at hz;have:0<f.size:=by simpa[Nat.blt_eq]using hz
  exact HQ (sz:=f.size-1) ht hf (by rw[hi];simp;omega) he hq
theorem jQ{C:Cx}{cd:Code}{Q:Exit->Fr->aR->Prop}{fr:Fr}{L:aR}{e:TypeId}{size n c:Nat}{A:bk}{xs:cZ}(hm:Ch.own e size A n c xs∈L)(hn:0<n)(h:∀ad,A=some ad->VC C cd Q fr L):VC C cd Q fr L:=λa w ha hw=>by
 rcases(hw.all _ hm).2.2 with h0|⟨g,cur,rfl,_⟩
 ·have:n<=c:=(hw.all _ hm).2.1;omega
 ·exact h _ rfl a w ha hw
theorem aO{C:Cx}{fr:Fr}{L:aR}{x y:Operand}{ty t e:TypeId}{k:IntKind}{m:Int}{size nn c i:Nat}{ad:Addr}(ht:C.P.underlying t=some (.slice e))(hz:(C.P.info? e).map (·.size)=some size)(he:ev fr x=some (.slice (some ad) nn c))(h2:ev fr y=some (.int k m))(hm:m=(i:Int))(hi:i<nn):
  gR C fr L (.indexAddr t x y) ty (.pointer ((some ad).map (·.add (i*size)))):=λa w ha hw d pos af gg=>by
 subst hm;simp[execOp,Instr.indexAt,asIntOf,ha.tmp he,ha.tmp h2,jk ht,hi,Ie hz]
theorem cU{C:Cx}{fr:Fr}{L:aR}{x:Operand}{ty t:TypeId}{fs:Array Field}{i j:Nat}{fd:Field}{size nn c:Nat}{A:bk}{xs:cZ}(ht:C.P.underlying t=some (.struct fs))(hf:fs[i]? =some fd)(hz:CA C.P fd.type=true)(he:ev fr x=some (.pointer (A.map (·.add j))))(hb:aM C.B C.w0 L size (.slice A nn c) nn xs)(hn:0<nn){q:Nat}(hq:fd.offset=q):
  gR C fr L (.fieldAddr t x i) ty (.pointer (A.map (λad=>(ad.add j).add q))):=by
 unfold CA at hz;cases hi:C.P.info? fd.type with
 |none=>rw[hi]at hz;cases hz
 |some f=>
  rw[hi]at hz;have:0<f.size:=by simpa[Nat.blt_eq]using hz
  exact yJ (sz:=f.size-1) ht hf (by rw[hi];simp;omega) he hb hn hq
theorem xp{C:Cx}{fr:Fr}{L:aR}{ty t:TypeId}{parts:List (Nat×Operand)}(us:List (Nat×Value))(cs:cZ)(hp:parts.map (λp=>(p.1,ev fr p.2))=us.map (λp=>(p.1,some p.2)))(hb:C.P.built t us=some cs.toArray):
  gR C fr L (.build t parts.toArray) ty (.agg cs.toArray):=λa w ha hw d pos af gg=>by
 have hps:parts.map (λp=>(p.1,a.eval p.2))=us:=by
  clear hb;induction parts generalizing us with
  |nil=>cases us with|nil=>rfl|cons _ _=>cases hp
  |cons p ps ih=>
   cases us with
   |nil=>cases hp
   |cons u us=>
    simp only[kh,aay,Df]at hp;obtain⟨⟨h1,h2⟩,h3⟩:=hp;simp only[kh,ha.tmp h2,h1,ih us h3]
 have:=run_build (P:=C.P) w t us.toArray cs.toArray (by simpa using hb);subst hps;simp only[List.toArray]at this;simp[execOp]at this⊢;rw[this];rfl
theorem cJ{C:Cx}{fr:Fr}{L:aR}{ty t:TypeId}(cs:cZ)(hb:C.P.built t []=some cs.toArray):gR C fr L (.build t #[]) ty (.agg cs.toArray):=λa w ha hw d pos af gg=>by
 have:=run_build (P:=C.P) w t #[] cs.toArray (by simpa using hb);simp[execOp,this]
theorem eZ{C:Cx}{fr:Fr}{L:aR}{ty t:TypeId}{parts:List (Nat×Operand)}(us:List (Nat×Value))(cs:cZ)(hp:parts.map (λp=>(p.1,ev fr p.2))=us.map (λp=>(p.1,some p.2)))(ui:us.flatMap (λp=>p.2.cells.toList)=cs)(hb:C.P.built t us=some cs.toArray):
 gR C fr L (.build t parts.toArray) ty (.agg cs.toArray):=xp us cs hp hb
end
section
section
variable{C:Cx}{Q:Exit->Fr->aR->Prop}{fr j8:Fr}{L L':aR}{cd:Code}{ops:Array Oper}{l:tx}{op:Op}{ty:TypeId}{pos:String}{af:Array Edge}{d:Nat}{v:Value}
variable{x y z:Operand}{k:IntKind}{m n:Int}{f:Ch->aR}{g o:Nat}{bt t e:TypeId}{cs:cZ}
theorem aaz:type_of% @List.foldl_cons:= @List.foldl_cons
theorem zk:type_of% @List.getElem?_append_left:= @List.getElem?_append_left
theorem sY:type_of% @List.length_nil:= @List.length_nil
theorem qC:type_of% @Nat.zero_mul:= @Nat.zero_mul
theorem j0{size bytes:Nat}{zv:Value}(T:tA C.P t e size bytes zv):q8 C fr L (.buildSlice t 0 #[]) ty (λp L'=>∃A,p= .slice A 0 0∧L'= .own e size A 0 0 []::L):=λa w ha hw d pos af gg=>by
 obtain⟨i,hi,hz,jg,Fc⟩:=T.hi;subst jg;refine⟨.slice (some ⟨w.heap.size,0,none⟩) 0 0,w.alloc (.cells #[] e),_,.inl ?_,⟨some ⟨w.heap.size,0,none⟩,rfl,rfl⟩,hw.gT (LN w _ none) ⟨ak,gC _,.inl rfl⟩ (.inl rfl)⟩;simp[execOp,Instr.buildSlice,jk T.ht,sizeOf,typeInfo,hi,Instr.fill,newRow];rw[show Array.range 0= #[] from by simp[Array.range],Array.map_empty]
theorem OK:∀(us pre:cZ) (cells:Array Value),E pre+E us=cells.size->(∀j,j<E pre->cells[j]? =pre[j]?)->(us.zipIdx (E pre)).foldl (λcs (c,j)=>cs.setIfInBounds j c) cells=(pre++us).toArray
 |[],pre,cells,h,hp=>by
  simp only[List.zipIdx_nil,List.foldl_nil,gl];simp at h;apply Array.ext
  ·simp[h]
  ·intro j h1 h2;have:=hp j pK;rw[Array.getElem?_eq_getElem h1]at this;simp at h2;rw[fc h2]at this;simpa using this
 |u::us,pre,cells,h,hp=>by
  rw[List.zipIdx_cons,aaz];simp only[dI]at h;have:=OK us (pre++[u]) (cells.setIfInBounds (E pre) u) bT (λj hj=>by
   simp at hj;rw[Array.getElem?_setIfInBounds];by_cases hjp:E pre=j
   ·subst hjp;simp;omega
   ·rw[aw hjp,hp j aa,zk aa])
  simpa using this
theorem adM{size:Nat}{v:Value}{us:cZ}(hv:v.cells=us.toArray)(hl:E us=size)(Z:Array Value)(hZ:Z.size=size):Instr.fill (λi=>some (i*size,size)) Z [(0,v)]=some us.toArray:=by
 have h:=OK us [] Z (by simpa[hZ]using hl) ak;simp only[sY,mW]at h;simp only[Instr.fill,hv,qC,lV,xG,hl];simp[hZ];exact h
theorem On{size bytes:Nat}{zv:Value}{us:cZ}(T:tA C.P t e size bytes zv)(he:ev fr x=some v)(hv:v.cells=us.toArray)(hl:E us=size)(yh:size<=1000):q8 C fr L (.buildSlice t 1 #[(0,x)]) ty (λp L'=>∃A,p= .slice A 1 1∧L'= .own e size A 1 1 us::L):=by
 obtain⟨i,hi,hz,jg,Fc⟩:=T.hi;exact mK (parts:=[(0,x)]) (us:=[(0,v)]) (zv:=zv) T.ht (by rw[hi];simp[jg]) T.hs aa aa (by rw[hi];simpa using hz) (by simp[he]) (adM hv hl _ ak) aa
theorem sw{size bytes d1 d2:Nat}{zv:Value}{ty1 ty2:TypeId}{apj apk:String}{af1 af2:Array Edge}{s:Operand}{A:bk}{n c:Nat}{xs us:cZ}(T:tA C.P t e size bytes zv)(he:ev fr x=some v)(hv:v.cells=us.toArray)(Av:E us=size)(yh:size<=1000)(h1:∀u∈us,u.oneCell'=true)(hd1:Nat.blt d1 C.N=true)(hd2:Nat.blt d2 C.N=true)(hs:ev ((d1,.slice none 0 0)::fr) s=some (.slice A n c))(hsn:∀u,ev ((d1,u)::fr) s=ev ((d1,.slice none 0 0)::fr) s)(hl:na (.own e size A n c xs) L f)(kx:(n+1)*bytes<=140737488355328)(yd:n+1<=140737488355328)(kk:∀A1 A' c',VL C ops Q l ((d2,.slice A' (n+1) c')::(d1,.slice A1 1 1)::fr) (f (.own e size A' (n+1) c' (xs++us)))):
  VL C ops Q (⟨some d1,.buildSlice t 1 #[(0,x)],ty1,apj,af1,none⟩::⟨some d2,.call {callee:=.builtin .append,args:= #[s,.tmp d1],argTypes:= #[t,t]},ty2,apk,af2,none⟩::l) fr L:=by
 refine mj (On T he hv Av yh) hd1 ?_;rintro _ _ ⟨A1,rfl,rfl⟩;refine mj (bW (m:=1) (news:=us) T ((hsn _).trans hs) (.tl hl) (yv:=.slice A1 1 1) (by simp[ev,look]) (aM.own (List.Mem.head _)) h1 kx yd) hd2 ?_;rintro _ _ ⟨A2,c2,rfl,rfl⟩;intro a w ha hw;exact kk A1 A2 c2 a w ha hw.tail
theorem MF{size nn c:Nat}{A:bk}{xs:cZ}(hb:aM C.B C.w0 L size (.slice A nn c) nn xs)(h:nn<=c->E xs=nn*size->VC C cd Q fr L):VC C cd Q fr L:=λa w ha hw=>by
 obtain⟨A',c',hv,hc,hl,_⟩:=hb w hw;injection hv with _ _ h3;subst h3;exact h hc hl a w ha hw
theorem dU.yw{P:Program}{B:Nat}{w0:World}{ff:FuncId}{args:cZ}{R:rF}{size nn c:Nat}{A:bk}{xs:cZ}(hb:aM B w0 L size (.slice A nn c) nn xs)(h:nn<=c->E xs=nn*size->dU P B w0 ff args L R):dU P B w0 ff args L R:=λw hw=>by
 obtain⟨A',c',hv,hc,hl,_⟩:=hb w hw;injection hv with _ _ h3;subst h3;exact h hc hl w hw
theorem sN{A:bk}{nn c:Nat}{xt yt:TypeId}(ht:C.P.underlying xt=some (.slice e))(h1:ev fr x=some (.slice A nn c))(h2:ev fr y=some (.slice none 0 0)):gR C fr L (.binOp .eql xt x y yt) ty (.bool A.isNone):=λa w ha hw d pos af g=>by
 have he:(eqGuard .eql xt x y (.slice A nn c) (.slice none 0 0)).run C.P w= .ok () w:=by simp[eqGuard]
 simp only[execOp,ha.tmp h1,ha.tmp h2,LK,he,Lib.run_eql_slice_nil w xt e A nn c 0 0 ht,uV,Ig]
end
def asR(zs:cZ):List (Nat×Value)->cZ
 |[]=>zs
 |(o,v)::r=>asR (zs.take o++(v.cells.toList++zs.drop (o+v.cells.size))) r
theorem bx{C:Cx}{fr:Fr}{L:aR}{ty t:TypeId}{parts:List (Nat×Operand)}(us:List (Nat×Value))(zs:cZ)(os:bf)(cs:cZ)(hp:parts.map (λp=>(p.1,ev fr p.2))=us.map (λp=>(p.1,some p.2)))(ui:asR zs (os.zip (us.map (·.2)))=cs)(hb:C.P.built t us=some cs.toArray):
 gR C fr L (.build t parts.toArray) ty (.agg cs.toArray):=xp us cs hp hb
theorem aC{P:Program}{fn:Func}{R:rF}{ee:Exit}{fr:Fr}{L:aR}(e:TypeId)(size:Nat)(A:bk)(h:Dp P fn R ee fr (.own e size A 0 0 []::L)):Dp P fn R ee fr L:=by
 cases ee<;>first
  |exact h
  |(intro B w0 a w ha hw;exact h B w0 a w ha (hw.DH e size A))
theorem atj{A:bk}{n m c:Nat}(h:n=m):some (Value.slice A n c)=some (.slice A m c):=by rw[h]
theorem swp{a b:Ch}{L:aR}:(a::b::L).Perm (b::a::L):=.swap b a L
theorem dU.of_same{P:Program}{B:Nat}{w0:World}{ff:FuncId}{args:cZ}{L:aR}{v:Value}(h:∀w,SL B w0 L w->Calls P ff args.toArray w λe w'=>e= .returned v∧w=w'):dU P B w0 ff args L (λr L'=>r=v∧L'=L):=λw hw=>
 (h w hw).mono λe w' ⟨he,Ib⟩=>by subst Ib;exact⟨v,L,he,⟨rfl,rfl⟩,hw⟩
theorem qp{C:Cx}{ops:Array Oper}{S:aR}{Q:Exit->Fr->aR->Prop}{fuel:Nat}{li:Array Bool}{fr:Fr}{L:aR}{d:Nat}{ty:TypeId}{pos:String}{af:Array Edge}{i:Nat}{ff:FuncId}{gg:Operand}{uv:List Operand}{Dq:Array TypeId}{vs fst cap:cZ}{R:rF}{g:Option (Nat×Bool)}(ho:ops[i]? =some ⟨some d,.call {callee:=.value gg,args:=uv.toArray,argTypes:=Dq},ty,pos,af,g⟩)(hg:Gd ops fr g)(hc:aK C.P ff)(hgg:ev fr gg=some (.func (.func ff) fst.toArray cap.toArray))(he:C9 fr uv=some vs)(h:dU C.P C.B C.w0 ff (fst++vs++cap) L R)(hd:Nat.blt d C.N=true)(hS:∀v L',R v L'->S.Sublist L')(k:∀v L',R v L'->VH C ops S Q fuel (li.setIfInBounds i true) ((d,v)::fr) L'):Step C ops S Q fuel li fr L i:=λa w ha hw _=>by
 unfold wpOp;simp only[ho];rw[ao (hg.wanted ha)];refine .inl ?_;unfold Oper.wp;rw[mL hc (ha.tmp hgg),ha.C9 he];simp only[List.append_toArray];refine LM (h w hw) λe w' ⟨v,L',he,hR,hs⟩=>?_;subst he;have j_:=hs.sub (hS v L' hR);exact⟨j_,k _ _ hR _ _ (ha.put hd _) hs j_⟩
end
section
theorem zl:type_of% @List.take_zero:= @List.take_zero
theorem my:type_of% @List.mem_of_mem_take:= @List.mem_of_mem_take
theorem PG:type_of% @List.take_append:= @List.take_append
theorem fC:type_of% @List.take_of_length_le:= @List.take_of_length_le
theorem LS:type_of% @List.take_take:= @List.take_take
theorem Dg:type_of% @Option.map_some:= @Option.map_some
theorem TL:type_of% @Nat.sub_zero:= @Nat.sub_zero
theorem ic{P:Program}{t:TypeId}{xs:Array Value}{off:Nat}{v:Value}(hs:qA P t=true)(hx:xs[off]? =some v)(w:World):(part t xs off).run P w= .ok v w:=by
 simp[part,y_ hs,hx]
section
variable{C:Cx}{fr:Fr}{L:aR}{x y:Operand}{f:Ch->aR}{t t2 e ty:TypeId}
theorem Oo{bytes:Nat}{zv:Value}(T:tA C.P t e 1 bytes zv){A:bk}{n c i:Nat}{xs:cZ}(hs:na (.own e 1 A n c xs) L f)(he:ev fr x=some (.slice (if c=i then A else A.map (·.add (i*1))) (n-i) (c-i)))(hi:i<=n){yv:Value}{m:Nat}{news:cZ}(hy:ev fr y=some yv)(hb:aM C.B C.w0 L 1 yv m news)(h1:∀u∈news,u.oneCell'=true):
  q8 C fr L (.call {callee:=.builtin .copy,args:= #[x,y],argTypes:= #[t,t2]}) ty (λp L'=>p=ah (min m (n-i):Nat)∧L'=f (.own e 1 A n c (xs.take i++news.take (min m (n-i))++xs.drop (i+min m (n-i))))):=λa w ha hw d pos af gg=>by
 obtain⟨ii,hii,hz,jg,Fc⟩:=T.hi;have aeP:(C.P.info? e).map (·.size)=some 1:=by rw[hii];simp[jg]
 obtain⟨X,cx,rfl,hmc,hl,uM⟩:=hb w hw;have aoh:Nat.min m (n-i)=min m (n-i):=rfl;obtain⟨k1,k2,k3⟩:=hw.all _ hs.mem;rw[cH]at k1 hl;by_cases h0:min m (n-i)=0
 ·have hr:=run_copy_none (P:=C.P) w t t2 ty e (if c=i then A else A.map (·.add (i*1))) X (n-i) (c-i) m cx T.ht aeP h0;refine⟨_,w,_,.inl ?_,⟨rfl,rfl⟩,?_⟩
  ·simp[execOp,resolve,invoke,builtin,ha.tmp he,ha.tmp hy];have:=hr;simp at this;rw[this];simp[goInt,h0]
  ·rw[h0,zl,gl,sX,jd];refine hw.RV hs (Pn w _) (λh=>h) (.inr (.inl rfl))
 ·have rC:¬c=0:=by omega
  have hci:¬c=i:=by omega
  obtain⟨g,cur,rfl,hbg,hg,hcm,ui,p7⟩:=k3.resolve_left rC;clear k3;rw[cH]at ui p7;obtain⟨ad,rfl,_,fL⟩:=uM aa;clear uM aoh;obtain⟨k,hk⟩:=cK (min m (n-i));have vS:k<=m:=by omega
  have hkn:i+k<=n:=by omega
  have O7:k=Nat.min m (n-i):=hk;rw[<-hk]at h0⊢;clear hk;have aos:∀j v,(news.take k)[j]? =some v->w.cell? (ad.add j)=some v:=λj v hv=>by
   rw[If]at hv;split at hv
   ·exact fL j v hv
   ·cases hv
  have hlen:E (news.take k)=k:=by rw[eY,hl];omega
  have H7:(⟨g,0,none⟩:Addr).add (i*1)=⟨g,i,none⟩:=by rw[Bu,lV,cH]
  have H9:i+E (news.take k)<=cur.size:=by rw[hlen,ui];omega
  have hr:=run_copy_row (P:=C.P) w t t2 ty e g i (n-i) (c-i) ad m cx cur e (news.take k) T.ht aeP hg (by rw[hlen];exact O7) aos H9 (λv hv=>h1 v (my hv));clear O7;have uh:E cur.toList=c:=by simpa using ui
  have e1:E (xs.take i++news.take k++xs.drop (i+k))=n*1:=by
   simp only[aX,eY,iG,hl,k1];omega
  have e2:E (cur.toList.take i++news.take k++cur.toList.drop (i+E (news.take k)))=c:=by
   simp only[aX,eY,iG,hl,uh];omega
  have e3:(cur.toList.take i++news.take k++cur.toList.drop (i+E (news.take k))).take n=xs.take i++news.take k++xs.drop (i+k):=by
   have hx:xs=cur.toList.take n:=p7.symm;rw[hlen,PG,fC (by rw[aX,eY,hlen];omega),hx,LS,LP,xH aa];congr 2;rw[aX,eY,hlen,uh,xH aa]
  refine⟨_,_,_,.inl ?_,⟨rfl,rfl⟩,hw.RV hs (w':=w.setRow g (cur.toList.take i++news.take k++cur.toList.drop (i+E (news.take k))).toArray) ?_ (λ_=>⟨e1,k2,.inr ⟨g,_,rfl,hbg,PE w g cur _ e _ hg,hcm,by rw[xG,e2,cH],by rw[cH];exact e3⟩⟩) (.inr (.inl rfl))⟩
  ·simp only[execOp,resolve,invoke,builtin,ha.tmp he,ha.tmp hy,aw hci,Dg,H7,LK,Ig,uV,List.map_toArray,kh,Ih,hr];simp[goInt,hlen]
  ·rw[show(Ch.own e 1 (some ⟨g,0,none⟩) n c xs).fp=some g by simp[Ch.fp,rC]];exact⟨rfl,rfl,rfl,ak,λk _ hk=>PF w g k _ (λe=>hk yo)⟩
theorem Jb{bytes:Nat}{zv:Value}(T:tA C.P t e 1 bytes zv){A:bk}{n c:Nat}{xs:cZ}(hs:na (.own e 1 A n c xs) L f)(he:ev fr x=some (.slice A n c)){yv:Value}{m:Nat}{news:cZ}(hy:ev fr y=some yv)(hb:aM C.B C.w0 L 1 yv m news)(h1:∀u∈news,u.oneCell'=true):
  q8 C fr L (.call {callee:=.builtin .copy,args:= #[x,y],argTypes:= #[t,t2]}) ty (λp L'=>p=ah (min m n:Nat)∧L'=f (.own e 1 A n c (news.take (min m n)++xs.drop (min m n)))):=by
 have h:=Oo (ty:=ty) (t2:=t2) T hs (i:=0) (n:=n) (c:=c) (by rw[he];congr 2;rw[qC];split<;>simp[Qb]) (bU _) hy hb h1;rw[zl,mW,lV,TL]at h;exact h
end
end
theorem fV{a:Ch}{L L':aR}(h:L.Perm L'):(a::L).Perm (a::L'):=h.cons a
theorem eu{a:Ch}{L L':aR}(h:Wk L L'):Wk (a::L) (a::L'):=h.cons
theorem mC{a0 x:Ch}{L L':aR}(h:(a0::L).Perm L'):(a0::x::L).Perm (x::L'):=((fV (.refl _)).cons a0).trans ((List.Perm.swap x a0 _).trans (h.cons x))
theorem gE{a0 x:Ch}{L L':aR}(h:Wk (a0::L) L'):Wk (a0::x::L) (x::L'):=(Wk.dK (mC (.refl _))).trans h.cons
theorem BQ{a0 a1 x:Ch}{L L':aR}(h:(a0::a1::L).Perm L'):(a0::a1::x::L).Perm (x::L'):=((mC (.refl _)).cons a0).trans ((List.Perm.swap x a0 _).trans (h.cons x))
theorem sE{a0 a1 x:Ch}{L L':aR}(h:Wk (a0::a1::L) L'):Wk (a0::a1::x::L) (x::L'):=(Wk.dK (BQ (.refl _))).trans h.cons
theorem pu3{a0 a1 a2 x:Ch}{L L':aR}(h:(a0::a1::a2::L).Perm L'):(a0::a1::a2::x::L).Perm (x::L'):=((BQ (.refl _)).cons a0).trans ((List.Perm.swap x a0 _).trans (h.cons x))
theorem ur{a0 a1 a2 x:Ch}{L L':aR}(h:Wk (a0::a1::a2::L) L'):Wk (a0::a1::a2::x::L) (x::L'):=(Wk.dK (pu3 (.refl _))).trans h.cons
theorem pu4{a0 a1 a2 a3 x:Ch}{L L':aR}(h:(a0::a1::a2::a3::L).Perm L'):(a0::a1::a2::a3::x::L).Perm (x::L'):=((pu3 (.refl _)).cons a0).trans ((List.Perm.swap x a0 _).trans (h.cons x))
theorem wu4{a0 a1 a2 a3 x:Ch}{L L':aR}(h:Wk (a0::a1::a2::a3::L) L'):Wk (a0::a1::a2::a3::x::L) (x::L'):=(Wk.dK (pu4 (.refl _))).trans h.cons
theorem pu5{a0 a1 a2 a3 a4 x:Ch}{L L':aR}(h:(a0::a1::a2::a3::a4::L).Perm L'):(a0::a1::a2::a3::a4::x::L).Perm (x::L'):=((pu4 (.refl _)).cons a0).trans ((List.Perm.swap x a0 _).trans (h.cons x))
theorem pu6{a0 a1 a2 a3 a4 a5 x:Ch}{L L':aR}(h:(a0::a1::a2::a3::a4::a5::L).Perm L'):(a0::a1::a2::a3::a4::a5::x::L).Perm (x::L'):=((pu5 (.refl _)).cons a0).trans ((List.Perm.swap x a0 _).trans (h.cons x))
theorem wu6{a0 a1 a2 a3 a4 a5 x:Ch}{L L':aR}(h:Wk (a0::a1::a2::a3::a4::a5::L) L'):Wk (a0::a1::a2::a3::a4::a5::x::L) (x::L'):=(Wk.dK (pu6 (.refl _))).trans h.cons
theorem pu7{a0 a1 a2 a3 a4 a5 a6 x:Ch}{L L':aR}(h:(a0::a1::a2::a3::a4::a5::a6::L).Perm L'):(a0::a1::a2::a3::a4::a5::a6::x::L).Perm (x::L'):=((pu6 (.refl _)).cons a0).trans ((List.Perm.swap x a0 _).trans (h.cons x))
theorem wu7{a0 a1 a2 a3 a4 a5 a6 x:Ch}{L L':aR}(h:Wk (a0::a1::a2::a3::a4::a5::a6::L) L'):Wk (a0::a1::a2::a3::a4::a5::a6::x::L) (x::L'):=(Wk.dK (pu7 (.refl _))).trans h.cons
theorem pu8{a0 a1 a2 a3 a4 a5 a6 a7 x:Ch}{L L':aR}(h:(a0::a1::a2::a3::a4::a5::a6::a7::L).Perm L'):(a0::a1::a2::a3::a4::a5::a6::a7::x::L).Perm (x::L'):=((pu7 (.refl _)).cons a0).trans ((List.Perm.swap x a0 _).trans (h.cons x))
theorem ag{P:Prop}(h:P:=by(kernel_rfl)):P:=h
theorem Yi:tA Tryz.prog 24 62 4 48 (.agg #[.int .u64 0,.int .u8 0,.string ⟨#[]⟩,.string ⟨#[]⟩]):=lL underlying24 ag rfl aa
theorem cB:tA Tryz.prog 27 5 1 1 (.int .u8 0):=lL underlying27 ag rfl aa
theorem fQ:tA Tryz.prog 52 27 1 24 (.slice none 0 0):=lL underlying52 ag rfl aa
theorem fT:tA Tryz.prog 53 3 1 8 (ah 0):=lL underlying53 ag rfl aa
theorem ati:tA Tryz.prog 63 23 6 48 (.agg #[ah 0,.bool false,ah 0,ah 0,ah 0,ah 0]):=lL underlying63 ag rfl aa
theorem GM:tA Tryz.prog 87 9 1 16 (.string ⟨#[]⟩):=lL underlying87 ag rfl aa
theorem amK:tA Tryz.prog 88 53 1 24 (.slice none 0 0):=lL underlying88 ag rfl aa
theorem amL:tA Tryz.prog 97 170 3 24 (.agg #[.int .u8 0,ah 0,ah 0]):=lL underlying97 ag rfl aa
theorem vr:tA Tryz.prog 159 57 1 2 (.int .u16 0):=lL underlying159 ag rfl aa
theorem apy:tA Tryz.prog 183 60 1 8 (.int .u64 0):=lL underlying183 ag rfl aa
theorem UJ:tA Tryz.prog 186 4 1 1 (.bool false):=lL underlying186 ag rfl aa
theorem Mr:tA Tryz.prog 213 135 1 4 (.int .u32 0):=lL underlying213 ag rfl aa
theorem GL:tA Tryz.prog 392 397 2 16 (.agg #[.int .u64 0,.bool false]):=lL underlying392 ag rfl aa
theorem agH:tA Tryz.prog 394 392 1 24 (.slice none 0 0):=lL underlying394 ag rfl aa
theorem apz:tA Tryz.prog 422 52 1 24 (.slice none 0 0):=lL underlying422 ag rfl aa
theorem co2:aK Tryz.prog 2:=aQ func2 ax rfl
theorem adb:aK Tryz.prog 11:=aQ func11 ax rfl
theorem atY:aK Tryz.prog 15:=aQ func15 ax rfl
theorem atZ:aK Tryz.prog 18:=aQ func18 ax rfl
theorem at0:aK Tryz.prog 20:=aQ func20 ax rfl
theorem arz:aK Tryz.prog 29:=aQ func29 ax rfl
theorem at1:aK Tryz.prog 33:=aQ func33 ax rfl
theorem at2:aK Tryz.prog 37:=aQ func37 ax rfl
theorem arJ:aK Tryz.prog 49:=aQ func49 ax rfl
theorem at3:aK Tryz.prog 57:=aQ func57 ax rfl
theorem at4:aK Tryz.prog 58:=aQ func58 ax rfl
theorem at6:aK Tryz.prog 61:=aQ func61 ax rfl
theorem anz:aK Tryz.prog 73:=aQ func73 ax rfl
theorem at7:aK Tryz.prog 80:=aQ func80 ax rfl
theorem arK:aK Tryz.prog 84:=aQ func84 ax rfl
theorem aua:aK Tryz.prog 91:=aQ func91 ax rfl
theorem arL:aK Tryz.prog 92:=aQ func92 ax rfl
theorem alQ:aK Tryz.prog 111:=aQ func111 ax rfl
theorem aq4:aK Tryz.prog 118:=aQ func118 ax rfl
theorem alS:aK Tryz.prog 119:=aQ func119 ax rfl
theorem alT:aK Tryz.prog 122:=aQ func122 ax rfl
theorem aq5:aK Tryz.prog 124:=aQ func124 ax rfl
theorem Wj:aK Tryz.prog 128:=aQ func128 ax rfl
theorem aq6:aK Tryz.prog 129:=aQ func129 ax rfl
theorem aq7:aK Tryz.prog 130:=aQ func130 ax rfl
theorem aq8:aK Tryz.prog 142:=aQ func142 ax rfl
theorem alU:aK Tryz.prog 152:=aQ func152 ax rfl
theorem Es:aK Tryz.prog 153:=aQ func153 ax rfl
theorem aq9:aK Tryz.prog 154:=aQ func154 ax rfl
theorem alV:aK Tryz.prog 156:=aQ func156 ax rfl
theorem aq_:aK Tryz.prog 157:=aQ func157 ax rfl
theorem aq':aK Tryz.prog 158:=aQ func158 ax rfl
theorem ara:aK Tryz.prog 177:=aQ func177 ax rfl
theorem Wl:aK Tryz.prog 178:=aQ func178 ax rfl
theorem ade:aK Tryz.prog 179:=aQ func179 ax rfl
theorem alW:aK Tryz.prog 180:=aQ func180 ax rfl
theorem arb:aK Tryz.prog 181:=aQ func181 ax rfl
theorem alX:aK Tryz.prog 183:=aQ func183 ax rfl
theorem arc:aK Tryz.prog 186:=aQ func186 ax rfl
theorem alY:aK Tryz.prog 188:=aQ func188 ax rfl
theorem alZ:aK Tryz.prog 192:=aQ func192 ax rfl
theorem ard:aK Tryz.prog 198:=aQ func198 ax rfl
theorem al0:aK Tryz.prog 203:=aQ func203 ax rfl
theorem are:aK Tryz.prog 204:=aQ func204 ax rfl
theorem adf:aK Tryz.prog 205:=aQ func205 ax rfl
theorem arf:aK Tryz.prog 207:=aQ func207 ax rfl
theorem arh:aK Tryz.prog 209:=aQ func209 ax rfl
theorem Wm:aK Tryz.prog 212:=aQ func212 ax rfl
theorem al1:aK Tryz.prog 213:=aQ func213 ax rfl
theorem Wn:aK Tryz.prog 219:=aQ func219 ax rfl
theorem ari:aK Tryz.prog 220:=aQ func220 ax rfl
theorem arj:aK Tryz.prog 221:=aQ func221 ax rfl
theorem ark:aK Tryz.prog 224:=aQ func224 ax rfl
theorem arl:aK Tryz.prog 225:=aQ func225 ax rfl
theorem arn:aK Tryz.prog 226:=aQ func226 ax rfl
theorem aro:aK Tryz.prog 227:=aQ func227 ax rfl
theorem arp:aK Tryz.prog 235:=aQ func235 ax rfl
theorem al2:aK Tryz.prog 238:=aQ func238 ax rfl
theorem arq:aK Tryz.prog 242:=aQ func242 ax rfl
theorem ars:aK Tryz.prog 243:=aQ func243 ax rfl
theorem art:aK Tryz.prog 247:=aQ func247 ax rfl
theorem al3:aK Tryz.prog 248:=aQ func248 ax rfl
theorem aru:aK Tryz.prog 250:=aQ func250 ax rfl
theorem arv:aK Tryz.prog 264:=aQ func264 ax rfl
theorem arw:aK Tryz.prog 267:=aQ func267 ax rfl
theorem arx:aK Tryz.prog 268:=aQ func268 ax rfl
theorem ary:aK Tryz.prog 272:=aQ func272 ax rfl
theorem al4:aK Tryz.prog 276:=aQ func276 ax rfl
theorem arA:aK Tryz.prog 299:=aQ func299 ax rfl
theorem arB:aK Tryz.prog 302:=aQ func302 ax rfl
theorem arC:aK Tryz.prog 303:=aQ func303 ax rfl
theorem arD:aK Tryz.prog 311:=aQ func311 ax rfl
theorem Wo:aK Tryz.prog 315:=aQ func315 ax rfl
theorem arE:aK Tryz.prog 316:=aQ func316 ax rfl
theorem arF:aK Tryz.prog 317:=aQ func317 ax rfl
theorem arG:aK Tryz.prog 320:=aQ func320 ax rfl
theorem arH:aK Tryz.prog 325:=aQ func325 ax rfl
theorem arI:aK Tryz.prog 329:=aQ func329 ax rfl
theorem al5:aK Tryz.prog 330:=aQ func330 ax rfl
theorem adg:aK Tryz.prog 340:=aQ func340 ax rfl
theorem adh:aK Tryz.prog 341:=aQ func341 ax rfl
theorem Dh:type_of% @Nat.xor_lt_two_pow:= @Nat.xor_lt_two_pow
theorem LU:type_of% @List.all_eq_true:= @List.all_eq_true
theorem pj:type_of% @List.mem_range:= @List.mem_range
theorem FF:type_of% @Nat.xor_assoc:= @Nat.xor_assoc
theorem zn:type_of% @Nat.add_comm:= @Nat.add_comm
def qx(a:Nat):Nat:=if a<128 then 2*a else (2*a-256) ^^^ 29
def fB:Nat->Nat->Nat->Nat->Nat
 |0,_,_,out=>out
 |f+1,a,b,out=>if b=0 then out else fB f (qx a) (b/2) (if b%2=1 then out ^^^ a else out)
def fx(a b:Nat):Nat:=fB 8 a b 0
theorem oH:∀a,a<256->qx a<256:=by decide+kernel
theorem wu{a b:Nat}(ha:a<256)(hb:b<256):a ^^^ b<256:=Dh (n:=8) ha hb
theorem ad3:((List.range 256).all λa=>(List.range 256).all λb=>Nat.beq (qx (a ^^^ b)) (qx a ^^^ qx b))=true:=by decide+kernel
theorem WY{a b:Nat}(ha:a<256)(hb:b<256):qx (a ^^^ b)=qx a ^^^ qx b:=by
 have h:=LU.1 (LU.1 ad3 a (pj.2 ha)) b (pj.2 hb);exact r9 h
theorem avU(a b c d:Nat):(a ^^^ b) ^^^ (c ^^^ d)=(a ^^^ c) ^^^ (b ^^^ d):=by
 rw[FF,FF];congr 1;rw[<-FF,Nat.xor_comm b c,FF]
theorem zz:∀(f a a' b o o':Nat),a<256->a'<256->fB f (a ^^^ a') b (o ^^^ o')=fB f a b o ^^^ fB f a' b o'
 |0,a,a',b,o,o',_,_=>rfl
 |f+1,a,a',b,o,o',ha,Bj=>by
  unfold fB;by_cases hb:b=0
  ·rw[ao hb,ao hb,ao hb]
  ·rw[aw hb,aw hb,aw hb,WY ha Bj];by_cases h1:b%2=1
   ·rw[ao h1,ao h1,ao h1,avU];exact zz f _ _ _ _ _ (oH a ha) (oH a' Bj)
   ·rw[aw h1,aw h1,aw h1];exact zz f _ _ _ _ _ (oH a ha) (oH a' Bj)
theorem L9:∀(f a b o:Nat),a<256->o<256->fB f a b o<256
 |0,a,b,o,_,ho=>ho
 |f+1,a,b,o,ha,ho=>by
  unfold fB;split
  ·exact ho
  ·split
   ·exact L9 f _ _ _ (oH a ha) (wu ho ha)
   ·exact L9 f _ _ _ (oH a ha) ho
theorem L8:∀(f a b o:Nat),a<256->o<256->fB f (qx a) b (qx o)=qx (fB f a b o)
 |0,a,b,o,_,_=>rfl
 |f+1,a,b,o,ha,ho=>by
  unfold fB;by_cases hb:b=0
  ·rw[ao hb,ao hb]
  ·rw[aw hb,aw hb];by_cases h1:b%2=1
   ·rw[ao h1,ao h1,<-WY ho ha];exact L8 f _ _ _ (oH a ha) (wu ho ha)
   ·rw[aw h1,aw h1];exact L8 f _ _ _ (oH a ha) ho
theorem akb{a a':Nat}(b:Nat)(ha:a<256)(Bj:a'<256):fx (a ^^^ a') b=fx a b ^^^ fx a' b:=zz 8 a a' b 0 0 ha Bj
theorem mul_lt{a:Nat}(b:Nat)(ha:a<256):fx a b<256:=L9 8 a b 0 ha ax
theorem asU{a:Nat}(b:Nat)(ha:a<256):fx (qx a) b=qx (fx a b):=L8 8 a b 0 ha ax
theorem amv:∀b,b<256->fx 1 b=b:=by decide+kernel
theorem F6:∀b,b<256->fx 0 b=0:=by decide+kernel
def gfI:Nat->Nat->Nat
 |0,x=>x
 |i+1,x=>qx (gfI i x)
def gfP(i:Nat):Nat:=gfI i 1
theorem Lp{x:Nat}(h:x<256):∀i,gfI i x<256
 |0=>h
 |i+1=>oH _ (Lp h i)
theorem WZ(i j x:Nat):gfI (i+j) x=gfI i (gfI j x):=by
 induction i with
 |zero=>rw[lV];rfl
 |succ i ih=>rw[show i+1+j=(i+j)+1 by omega];show qx _=qx _;rw[ih]
theorem PY{b:Nat}(hb:b<256):∀i,fx (gfP i) b=gfI i b
 |0=>amv b hb
 |i+1=>by
  show fx (qx (gfP i)) b=qx (gfI i b);rw[asU b (show gfP i<256 from Lp ax i),PY hb i]
theorem anQ(i:Nat):gfP i<256:=Lp ax i
theorem acp(i j:Nat):fx (gfP i) (gfP j)=gfP (i+j):=by
 rw[PY (anQ j)];exact(WZ i j 1).symm
def anO:Nat->Nat->bf
 |0,_=>[]
 |f+1,x=>x::anO f (qx x)
theorem OQ:∀(f i x:Nat),x∈anO f (gfP i)->∃k,k<f∧x=gfP (i+k)
 |0,i,x,h=>by cases h
 |f+1,i,x,h=>by
  rcases fj.1 h with h|h
  ·exact⟨0,aa,h⟩
  ·obtain⟨k,hk,e⟩:=OQ f (i+1) x h;exact⟨k+1,aa,by rw[e];congr 1;omega⟩
theorem ajl:((List.range 256).all λa=>Nat.beq a 0||(anO 255 1).any (Nat.beq a))=true:=by decide+kernel
theorem Lq{a:Nat}(ha:a<256)(h0:a≠0):∃i,i<255∧a=gfP i:=by
 have h:=LU.1 ajl a (pj.2 ha);rw[Bool.or_eq_true]at h;rcases h with h|h
 ·exact absurd (r9 h) h0
 ·obtain⟨x,hx,e⟩:=List.any_eq_true.1 h;obtain⟨k,hk,e2⟩:=OQ 255 0 x hx;rw[lV]at e2;exact⟨k,hk,(r9 e).trans e2⟩
theorem aaT{a b:Nat}(ha:a<256)(hb:b<256):fx a b=fx b a:=by
 have hz:∀x,x<256->fx x 0=0:=by decide+kernel
 by_cases h1:a=0
 ·subst h1;rw[F6 b hb,hz b hb]
 ·by_cases h2:b=0
  ·subst h2;rw[F6 a ha,hz a ha]
  ·obtain⟨i,_,rfl⟩:=Lq ha h1;obtain⟨j,_,rfl⟩:=Lq hb h2;rw[acp,acp,zn]
theorem T'{a b c:Nat}(ha:a<256)(hb:b<256)(hc:c<256):fx (fx a b) c=fx a (fx b c):=by
 by_cases h1:a=0
 ·subst h1;rw[F6 b hb,F6 c hc,F6 _ (mul_lt c hb)]
 ·by_cases h2:b=0
  ·subst h2;have hz:∀x,x<256->fx x 0=0:=by decide+kernel
   rw[hz a ha,F6 c hc,hz a ha]
  ·obtain⟨i,_,rfl⟩:=Lq ha h1;obtain⟨j,_,rfl⟩:=Lq hb h2;rw[acp,PY hc,PY hc,PY (Lp hc j),WZ]
theorem Cn{P:Prop}(h:P:=by(simp[hi])):P:=h
theorem r':type_of% @UInt8.toNat_lt:= @UInt8.toNat_lt
theorem tX:type_of% @UInt8.toNat_ofNat':= @UInt8.toNat_ofNat'
theorem jh:type_of% @Nat.mod_eq_of_lt:= @Nat.mod_eq_of_lt
theorem mR:type_of% @UInt8.toNat_inj:= @UInt8.toNat_inj
theorem rW:type_of% @UInt8.xor_assoc:= @UInt8.xor_assoc
theorem Fu:type_of% @List.length_eq_zero_iff:= @List.length_eq_zero_iff
theorem Fv:type_of% @List.nodup_cons:= @List.nodup_cons
def gm(a b:UInt8):UInt8:=UInt8.ofNat (fx a.toNat b.toNat)
theorem rz(a:UInt8):a.toNat<256:=r' a
theorem iS(a b:UInt8):(gm a b).toNat=fx a.toNat b.toNat:=by
 unfold gm;rw[tX];exact jh (mul_lt _ (rz a))
theorem oP{a b:UInt8}(h:a.toNat=b.toNat):a=b:=mR.1 h
theorem iy(a b:UInt8):gm a b=gm b a:=oP (by rw[iS,iS];exact aaT (rz a) (rz b))
theorem jr(a b c:UInt8):gm (gm a b) c=gm a (gm b c):=oP (by rw[iS,iS,iS,iS];exact T' (rz a) (rz b) (rz c))
theorem jc(a:UInt8):gm 1 a=a:=oP (by rw[iS];exact amv _ (rz a))
theorem gY(a:UInt8):gm 0 a=0:=oP (by rw[iS];exact F6 _ (rz a))
theorem W2(a:UInt8):gm a 1=a:=by rw[iy];exact jc a
theorem j9(a:UInt8):gm a 0=0:=by rw[iy];exact gY a
theorem E9(a b c:UInt8):gm (a ^^^ b) c=gm a c ^^^ gm b c:=oP (by
 rw[iS,UInt8.toNat_xor,UInt8.toNat_xor,iS,iS];exact akb _ (rz a) (rz b))
theorem Lt(a b c:UInt8):gm c (a ^^^ b)=gm c a ^^^ gm c b:=by rw[iy,E9,iy a,iy b]
def uH:Nat->Nat->Nat->Nat->Nat
 |0,_,_,out=>out
 |f+1,a,n,out=>if n=0 then out else uH f (fx a a) (n/2) (if n%2=1 then fx out a else out)
def rO(a:Nat):Nat:=if a=0 then 0 else uH 8 a 254 1
theorem Z0:((List.range 256).all λa=>Nat.blt (rO a) 256)=true:=by decide+kernel
theorem ad4{a:Nat}(h:a<256):rO a<256:=by simpa using LU.1 Z0 a (pj.2 h)
theorem anP:((List.range 256).all λa=>Nat.beq a 0||Nat.beq (fx a (rO a)) 1)=true:=by decide+kernel
def lj(a:UInt8):UInt8:=UInt8.ofNat (rO a.toNat)
theorem xr(a:UInt8):(lj a).toNat=rO a.toNat:=by
 unfold lj;rw[tX];exact jh (ad4 (rz a))
theorem vQ{a:UInt8}(h:a≠0):gm a (lj a)=1:=oP (by
 rw[iS,xr];have:=LU.1 anP a.toNat (pj.2 (rz a));rw[Bool.or_eq_true]at this;rcases this with h1|h1
 ·exact absurd (oP (r9 h1)) h
 ·exact r9 h1)
theorem E8{a:UInt8}(h:a≠0):gm (lj a) a=1:=by rw[iy];exact vQ h
theorem vP{a b:UInt8}(ha:a≠0)(h:gm a b=0):b=0:=by
 have:gm (lj a) (gm a b)=b:=by rw[<-jr,E8 ha,jc]
 rw[<-this,h,j9]
theorem Ls{a:UInt8}(h:a≠0):lj a≠0:=λk=>by
 have:=vQ h;rw[k,j9]at this;exact absurd this ax
theorem iQ(a:UInt8):a ^^^ a=0:=UInt8.xor_self
theorem fg(a:UInt8):a ^^^ 0=a:=UInt8.xor_zero
theorem pI(a:UInt8):0 ^^^ a=a:=UInt8.zero_xor
theorem DX{a b:UInt8}(h:a ^^^ b=0):a=b:=by
 have:(a ^^^ b) ^^^ b=a:=by rw[rW,iQ,fg]
 rw[<-this,h,pI]
theorem wv(a b c d:UInt8):(a ^^^ b) ^^^ (c ^^^ d)=(a ^^^ c) ^^^ (b ^^^ d):=by
 rw[rW,rW];congr 1;rw[<-rW,UInt8.xor_comm b c,rW]
def xs:Nat->(Nat->UInt8)->UInt8
 |0,_=>0
 |n+1,f=>xs n f ^^^ f n
theorem iZ{f g:Nat->UInt8}:∀{n:Nat},(∀i,i<n->f i=g i)->xs n f=xs n g
 |0,_=>rfl
 |n+1,h=>by rw[xs,xs,iZ λi hi=>h i aa,h n aa]
theorem DY{f:Nat->UInt8}:∀{n:Nat},(∀i,i<n->f i=0)->xs n f=0
 |0,_=>rfl
 |n+1,h=>by rw[xs,DY λi hi=>h i aa,h n aa,iQ]
theorem Hi(f g:Nat->UInt8):∀n,xs n (λi=>f i ^^^ g i)=xs n f ^^^ xs n g
 |0=>(iQ 0).symm
 |n+1=>by rw[xs,xs,xs,Hi f g n,wv]
theorem x7(c:UInt8)(f:Nat->UInt8):∀n,xs n (λi=>gm c (f i))=gm c (xs n f)
 |0=>(j9 c).symm
 |n+1=>by rw[xs,xs,x7 c f n,Lt]
theorem alG(c:UInt8)(f:Nat->UInt8)(n:Nat):xs n (λi=>gm (f i) c)=gm (xs n f) c:=by
 rw[iy,<-x7];exact iZ λi _=>iy _ _
theorem x8{f:Nat->UInt8}:∀{n:Nat} (k:Nat),k<n->(∀i,i<n->i≠k->f i=0)->xs n f=f k
 |0,k,h,_=>by omega
 |n+1,k,h,hz=>by
  rw[xs];by_cases hk:k=n
  ·subst hk;rw[DY λi hi=>hz i aa aa,pI]
  ·rw[x8 k aa λi hi hik=>hz i aa hik,hz n aa (Ne.symm hk),fg]
theorem ah6(f:Nat->Nat->UInt8)(n:Nat):∀m,xs m (λj=>xs n (λi=>f i j))=xs n (λi=>xs m (λj=>f i j))
 |0=>(DY λi _=>rfl).symm
 |m+1=>by
  rw[xs,ah6 f n m,<-Hi];exact iZ λi _=>rfl
def ls:bf->(Nat->UInt8)->UInt8
 |[],_=>0
 |j::J,f=>f j ^^^ ls J f
theorem zu{f g:Nat->UInt8}:∀{J:bf},(∀j,j∈J->f j=g j)->ls J f=ls J g
 |[],_=>rfl
 |j::J,h=>by rw[ls,ls,h j ak,zu λi hi=>h i Cn]
theorem L5{f:Nat->UInt8}:∀{J:bf},(∀j,j∈J->f j=0)->ls J f=0
 |[],_=>rfl
 |j::J,h=>by rw[ls,h j ak,L5 λi hi=>h i Cn,iQ]
theorem TV(f g:Nat->UInt8):∀J,ls J (λi=>f i ^^^ g i)=ls J f ^^^ ls J g
 |[]=>(iQ 0).symm
 |j::J=>by rw[ls,ls,ls,TV f g J,wv]
theorem TW(c:UInt8)(f:Nat->UInt8):∀J,ls J (λi=>gm c (f i))=gm c (ls J f)
 |[]=>(j9 c).symm
 |j::J=>by rw[ls,ls,TW c f J,Lt]
theorem aj4{f:Nat->UInt8}{J K:bf}(h:J.Perm K):ls J f=ls K f:=by
 induction h with
 |nil=>rfl
 |cons x _ ih=>rw[ls,ls,ih]
 |swap x y l=>rw[ls,ls,ls,ls,<-rW,<-rW,UInt8.xor_comm (f y)]
 |trans _ _ h1 h2=>exact h1.trans h2
theorem Cr:∀(n:Nat) (J X:bf) (v x y:Nat->UInt8),E J=n->n<=E X->J.Nodup->X.Nodup->
  (∀i j,i∈J->j∈J->y i=y j->i=j)->(∀i j,i∈X->j∈X->x i=x j->i=j)->(∀i j,i∈X->j∈J->x i≠y j)->
  (∀i,i∈X->ls J (λj=>gm (v j) (lj (x i ^^^ y j)))=0)->∀j,j∈J->v j=0
 |0,J,X,v,x,y,hJ,hX,nJ,nX,iJ,iX,Tz,h,j,hj=>by
  rw[Fu.1 hJ]at hj;cases hj
 |n+1,[],X,v,x,y,hJ,hX,nJ,nX,iJ,iX,Tz,h,j,hj=>by cases hj
 |n+1,j1::J,[],v,x,y,hJ,hX,nJ,nX,iJ,iX,Tz,h,j,hj=>by simp at hX
 |n+1,j1::J,x0::X,v,x,y,hJ,hX,nJ,nX,iJ,iX,Tz,h,j,hj=>by
  have nJ1:=Fv.1 nJ;have nX1:=Fv.1 nX;have ne0:∀i k,i∈x0::X->k∈j1::J->x i ^^^ y k≠0:=λi k hi hk e=>Tz i k hi hk (DX e);have hd:∀i,i∈x0::X->ls J (λk=>gm (gm (v k) (y j1 ^^^ y k)) (lj (x i ^^^ y k)))=v j1 ^^^ ls J v:=by
   intro i hi;have h1:=h i hi;rw[ls]at h1;have h2:gm (x i ^^^ y j1) (gm (v j1) (lj (x i ^^^ y j1)) ^^^ ls J λk=>gm (v k) (lj (x i ^^^ y k)))=0:=by rw[h1,j9]
   rw[Lt,<-TW]at h2;have e1:gm (x i ^^^ y j1) (gm (v j1) (lj (x i ^^^ y j1)))=v j1:=by
    rw[iy (v j1),<-jr,vQ (ne0 i j1 hi ak),jc]
   have e2:ls J (λk=>gm (x i ^^^ y j1) (gm (v k) (lj (x i ^^^ y k))))=ls J v ^^^ ls J (λk=>gm (gm (v k) (y j1 ^^^ y k)) (lj (x i ^^^ y k))):=by
    rw[<-TV];refine zu λk hk=>?_;have e3:x i ^^^ y j1=(x i ^^^ y k) ^^^ (y j1 ^^^ y k):=by rw[wv,iQ,fg]
    rw[e3,E9,iy (v k) (lj _),<-jr,vQ (ne0 i k hi ym),jc,iy (lj _) (v k),<-jr,iy (y j1 ^^^ y k) (v k)]
   rw[e1,e2,<-rW]at h2;exact(DX h2).symm
  have key:∀k,k∈J->gm (gm (v k) (y j1 ^^^ y k)) (lj (x x0 ^^^ y k))=0:=by
   refine Cr n J X (λk=>gm (gm (v k) (y j1 ^^^ y k)) (lj (x x0 ^^^ y k))) x y (by simpa using hJ) (by simpa using hX) nJ1.2 nX1.2 (λi k hi hk=>iJ i k Cn ym) (λi k hi hk=>iX i k Cn ym) (λi k hi hk=>Tz i k Cn ym) ?_;intro i hi;have oh:x i ^^^ x x0≠0:=λe=>nX1.1 (iX i x0 Cn ak (DX e)▸hi);have h1:=hd i Cn;have h2:=hd x0 ak;have h3:ls J (λk=>gm (gm (v k) (y j1 ^^^ y k)) (lj (x i ^^^ y k))) ^^^ ls J (λk=>gm (gm (v k) (y j1 ^^^ y k)) (lj (x x0 ^^^ y k)))=0:=by rw[h1,h2,iQ]
   rw[<-TV]at h3;refine vP oh ?_;rw[<-TW,<-h3];refine zu λk hk=>?_;obtain⟨a,ha⟩:=cK (gm (v k) (y j1 ^^^ y k));obtain⟨p,hp⟩:=cK (x i ^^^ y k);obtain⟨q,hq⟩:=cK (x x0 ^^^ y k);have Xg:p≠0:=hp▸ne0 i k Cn ym;have hq0:q≠0:=hq▸ne0 x0 k ak ym;have e3:x i ^^^ x x0=p ^^^ q:=by rw[hp,hq,wv,iQ,fg]
   rw[<-ha,<-hp,<-hq,e3,E9];have e4:gm p (gm (gm a (lj q)) (lj p))=gm a (lj q):=by rw[iy (gm a (lj q)),<-jr,vQ Xg,jc]
   have e5:gm q (gm (gm a (lj q)) (lj p))=gm a (lj p):=by rw[iy a (lj q),jr,<-jr,vQ hq0,jc]
   rw[e4,e5,UInt8.xor_comm]
  have hz:∀k,k∈J->v k=0:=by
   intro k hk;have h1:=key k hk;rw[iy]at h1;have h2:=vP (Ls (ne0 x0 k ak ym)) h1;rw[iy]at h2;refine vP ?_ h2;intro e;exact nJ1.1 (iJ j1 k ak ym (DX e)▸hk)
  rcases fj.1 hj with rfl|hj
  ·have h1:=h x0 ak;rw[ls,L5 λk hk=>by rw[hz k hk,gY],fg,iy]at h1;exact vP (Ls (ne0 x0 j ak ak)) h1
  ·exact hz j hj
section
theorem ank{P:Prop}(h:P:=by(unfold Pe;rw[jA];omega)):P:=h
theorem oR{P:Prop}(h:P:=by(simp[hx])):P:=h
theorem D_{P:Prop}(h:P:=by(simpa using hi)):P:=h
theorem lz:type_of% @Nat.one_mul:= @Nat.one_mul
theorem ba:type_of% @List.getD_eq_getElem?_getD:= @List.getD_eq_getElem?_getD
theorem Xu:type_of% @List.getElem?_take_of_lt:= @List.getElem?_take_of_lt
theorem rX:type_of% @List.getElem?_append_right:= @List.getElem?_append_right
theorem dX:type_of% @List.length_map:= @List.length_map
theorem jw:type_of% @List.getElem?_map:= @List.getElem?_map
theorem lT:type_of% @List.range_succ:= @List.range_succ
theorem uP:type_of% @List.flatMap_append:= @List.flatMap_append
theorem bA:type_of% @Classical.byContradiction:= @Classical.byContradiction
theorem ka:type_of% @List.flatMap_cons:= @List.flatMap_cons
theorem uQ:type_of% @List.filter_cons:= @List.filter_cons
theorem JG:type_of% @List.perm_append_comm:= @List.perm_append_comm
theorem ke:type_of% @List.getElem_of_mem:= @List.getElem_of_mem
theorem CE:type_of% @List.mem_filter:= @List.mem_filter
theorem JH:type_of% @decide_eq_true_eq:= @decide_eq_true_eq
theorem uR:type_of% @List.length_range:= @List.length_range
def fG(k:Nat)(m:al)(i j:Nat):UInt8:=m.getD (i*k+j) 0
def iD(k:Nat)(m:al)(i:Nat):al:=(m.drop (i*k)).take k
def pk(k:Nat)(m:al)(i:Nat)(r:al):al:=m.take (i*k)++(r++m.drop (i*k+k))
theorem fW{n k i:Nat}(h:i<n):i*k+k<=n*k:=by
 have:=ph k (show i+1<=n by omega);rw[kz,lz]at this;exact this
theorem eS{n k i:Nat}{m:al}(hm:E m=n*k)(hi:i<n):E (iD k m i)=k:=by
 have:=fW (k:=k) hi;unfold iD;rw[eY,iG];omega
theorem ko{k j:Nat}(m:al)(i:Nat)(hj:j<k):(iD k m i).getD j 0=fG k m i j:=by
 unfold iD fG;simp only[ba];rw[Xu hj,k_7]
theorem sg{n k i:Nat}{m r:al}(hm:E m=n*k)(hi:i<n)(hr:E r=k):E (pk k m i r)=n*k:=by
 have:=fW (k:=k) hi;unfold pk;simp only[aX,eY,iG];omega
theorem yx{n k i i' j:Nat}{m r:al}(hm:E m=n*k)(hi:i<n)(RQ:i'<n)(hj:j<k)(hr:E r=k):fG k (pk k m i r) i' j=if i'=i then r.getD j 0 else fG k m i' j:=by
 have h1:=fW (k:=k) hi;have h2:=fW (k:=k) RQ;unfold fG pk;simp only[ba];by_cases h:i'=i
 ·subst h;rw[ao rfl,rX bT,zk bT];congr 2;simp;omega
 ·rw[aw h];by_cases h3:i'<i
  ·have h4:=fW (k:=k) h3;rw[zk bT,Xu aa]
  ·have h4:=fW (k:=k) (show i<i' by omega);rw[rX bT,rX bT,k_7];congr 2;simp;omega
def qh(k:Nat)(m:al)(a i:Nat):al:=pk k (pk k m a (iD k m i)) i (iD k m a)
def kA(k:Nat)(m:al)(a:Nat)(c:UInt8):al:=pk k m a ((iD k m a).map (gm c))
def rh(s:al)(c:UInt8)(b:al):al:=List.zipWith (λx y=>x ^^^ gm c y) s b
def se(k:Nat)(m:al)(q:Nat)(c:UInt8)(a:Nat):al:=pk k m q (rh (iD k m q) c (iD k m a))
section
variable{n k a i q r j:Nat}{m:al}{c:UInt8}
theorem pE(hm:E m=n*k)(ha:a<n)(hi:i<n):E (qh k m a i)=n*k:=sg (sg hm ha (eS hm hi)) hi (eS hm ha)
theorem nH(hm:E m=n*k)(ha:a<n):E (kA k m a c)=n*k:=sg hm ha (by rw[dX];exact eS hm ha)
theorem pZ{s b:al}(h:E s=E b):E (rh s c b)=E s:=by unfold rh;rw[List.length_zipWith];omega
theorem sf(hm:E m=n*k)(ha:a<n)(hq:q<n):E (se k m q c a)=n*k:=
 sg hm hq (by rw[pZ (by rw[eS hm hq,eS hm ha])];exact eS hm hq)
theorem pQ(hm:E m=n*k)(ha:a<n)(hi:i<n)(hr:r<n)(hj:j<k):fG k (qh k m a i) r j=if r=i then fG k m a j else if r=a then fG k m i j else fG k m r j:=by
 unfold qh;rw[yx (sg hm ha (eS hm hi)) hi hr hj (eS hm ha),yx hm ha hr hj (eS hm hi),ko _ _ hj,ko _ _ hj]
theorem rI(hm:E m=n*k)(ha:a<n)(hr:r<n)(hj:j<k):fG k (kA k m a c) r j=if r=a then gm c (fG k m a j) else fG k m r j:=by
 unfold kA;rw[yx hm ha hr hj (by rw[dX];exact eS hm ha)];have hl:=eS hm ha;split
 ·rw[<-ko m a hj];simp only[ba,jw];rw[fc aa];rfl
 ·rfl
theorem E6{s b:al}{j:Nat}(h1:j<E s)(h2:j<E b):(rh s c b).getD j 0=s.getD j 0 ^^^ gm c (b.getD j 0):=by
 unfold rh;simp only[ba,List.getElem?_zipWith];rw[fc h1,fc h2];rfl
theorem sK(hm:E m=n*k)(ha:a<n)(hq:q<n)(hr:r<n)(hj:j<k):fG k (se k m q c a) r j=if r=q then fG k m q j ^^^ gm c (fG k m a j) else fG k m r j:=by
 have h1:=eS hm ha;have h2:=eS hm hq;unfold se;rw[yx hm hq hr hj (by rw[pZ aa];exact h2),E6 aa aa,ko _ _ hj,ko _ _ hj]
end
def wF(k:Nat)(m:al)(MY:Nat):Nat->Nat->Nat
 |0,i=>i
 |f+1,i=>if fG k m i MY=0 then wF k m MY f (i+1) else i
def kS(n a:Nat):Nat->Nat->al×al->al×al
 |0,_,p=>p
 |f+1,q,p=>kS n a f (q+1) (if q≠a∧fG n p.1 q a≠0 then (se n p.1 q (fG n p.1 q a) a,se n p.2 q (fG n p.1 q a) a) else p)
def xm(n a:Nat)(p:al×al):Nat:=wF n p.1 a (n-a) a
def KT(n a:Nat)(p:al×al):al×al:=(qh n p.1 a (xm n a p),qh n p.2 a (xm n a p))
def apr(n a:Nat)(p:al×al):al×al:=(kA n p.1 a (lj (fG n p.1 a a)),kA n p.2 a (lj (fG n p.1 a a)))
def St(n a:Nat)(p:al×al):al×al:=kS n a n 0 (apr n a (KT n a p))
def sL(n a:Nat)(p:al×al):Bool×al×al:=if xm n a p=n then (false,p) else (true,St n a p)
def Fq(n:Nat):Nat->Nat->al×al->Option (al×al)
 |0,_,p=>some p
 |f+1,i,p=>if (sL n i p).1=true then Fq n f (i+1) (sL n i p).2 else none
def qQ(r k:Nat)(f:Nat->Nat->UInt8):al:=(List.range r).flatMap λi=>(List.range k).map λj=>f i j
def Pe(n:Nat):al:=qQ n n λi j=>if i=j then 1 else 0
def ajR(n:Nat)(m:al):Option (al):=(Fq n n 0 (m,Pe n)).map (·.2)
theorem jA(r k:Nat)(f:Nat->Nat->UInt8):E (qQ r k f)=r*k:=by
 unfold qQ;induction r with
 |zero=>simp
 |succ r ih=>rw[lT,uP,aX,ih,kz];simp
theorem FT(r k:Nat)(f:Nat->Nat->UInt8):qQ (r+1) k f=qQ r k f++(List.range k).map λj=>f r j:=by
 unfold qQ;rw[lT,uP];simp
theorem El{r k:Nat}{f:Nat->Nat->UInt8}{i j:Nat}(hi:i<r)(hj:j<k):fG k (qQ r k f) i j=f i j:=by
 induction r with
 |zero=>omega
 |succ r ih=>
  rw[FT];unfold fG;rw[ba];by_cases h:i<r
  ·have h1:=fW (k:=k) h;rw[zk (by rw[jA];omega),<-ba];exact ih h
  ·obtain rfl:i=r:=by omega
   rw[rX (by rw[jA];omega),jA,show i*k+j-i*k=j by omega];simp[hj]
def Ng(n:Nat)(m' m:al):Prop:=∀r,r<n->∃(α β:UInt8) (p q:Nat),p<n∧q<n∧∀j,j<n->fG n m' r j=gm α (fG n m p j) ^^^ gm β (fG n m q j)
def Ky(n:Nat)(m' m b' b:al):Prop:=∀r,r<n->∃(α β:UInt8) (p q:Nat),p<n∧q<n∧(∀j,j<n->fG n m' r j=gm α (fG n m p j) ^^^ gm β (fG n m q j))∧∀j,j<n->fG n b' r j=gm α (fG n b p j) ^^^ gm β (fG n b q j)
def Ker(n:Nat)(m:al):Prop:=∀v:Nat->UInt8,(∀i,i<n->xs n (λt=>gm (fG n m i t) (v t))=0)->∀j,j<n->v j=0
theorem Ng.ker{n:Nat}{m m':al}(h:Ng n m m')(hk:Ker n m):Ker n m':=λv hv=>hk v λi hi=>by
 obtain⟨α,β,p,q,hp,hq,e⟩:=h i hi;have e2:xs n (λt=>gm (fG n m i t) (v t))=xs n λt=>gm α (gm (fG n m' p t) (v t)) ^^^ gm β (gm (fG n m' q t) (v t)):=iZ λt ht=>by
  rw[e t ht,E9,jr,jr]
 rw[e2,Hi,x7,x7,hv p hp,hv q hq,j9,j9];rfl
structure Gi(n a:Nat)(m0:al)(p:al×al):Prop where
 lm:E p.1=n*n
 lb:E p.2=n*n
 left:∀i,i<n->∀j,j<n->xs n (λt=>gm (fG n p.2 i t) (fG n m0 t j))=fG n p.1 i j
 ker:Ker n p.1
 uc:∀i,i<n->∀j,j<a->fG n p.1 i j=if i=j then 1 else 0
theorem BA{n:Nat}{m0 m b m' b':al}(h:Ky n m' m b' b)(hl:∀i,i<n->∀j,j<n->xs n (λt=>gm (fG n b i t) (fG n m0 t j))=fG n m i j):
  ∀i,i<n->∀j,j<n->xs n (λt=>gm (fG n b' i t) (fG n m0 t j))=fG n m' i j:=λi hi j hj=>by
 obtain⟨α,β,p,q,hp,hq,e1,e2⟩:=h i hi;have e3:xs n (λt=>gm (fG n b' i t) (fG n m0 t j))=xs n λt=>gm α (gm (fG n b p t) (fG n m0 t j)) ^^^ gm β (gm (fG n b q t) (fG n m0 t j)):=iZ λt ht=>by
  rw[e2 t ht,E9,jr,jr]
 rw[e3,Hi,x7,x7,hl p hp j hj,hl q hq j hj,e1 j hj]
theorem amP{n a i r:Nat}(ha:a<n)(hi:i<n)(hr:r<n):(if r=i then a else if r=a then i else r)<n:=by
 split
 ·exact ha
 ·split<;>assumption
theorem ak3{n a i:Nat}{m:al}(hm:E m=n*n)(ha:a<n)(hi:i<n):Ng n m (qh n m a i):=λr hr=>by
 refine⟨1,0,if r=i then a else if r=a then i else r,r,amP ha hi hr,hr,λj hj=>?_⟩;rw[jc,gY,fg];by_cases h1:r=i
 ·subst h1;rw[ao rfl,pQ hm ha hi ha hj];by_cases h2:a=r
  ·subst h2;rw[ao rfl]
  ·rw[aw h2,ao rfl]
 ·rw[aw h1];by_cases h2:r=a
  ·subst h2;rw[ao rfl,pQ hm ha hi hi hj,ao rfl]
  ·rw[aw h2,pQ hm ha hi hr hj,aw h1,aw h2]
theorem agV{n a i:Nat}{m b:al}(hm:E m=n*n)(hb:E b=n*n)(ha:a<n)(hi:i<n):Ky n (qh n m a i) m (qh n b a i) b:=λr hr=>by
 refine⟨1,0,if r=i then a else if r=a then i else r,r,amP ha hi hr,hr,λj hj=>?_,λj hj=>?_⟩
 ·rw[jc,gY,fg,pQ hm ha hi hr hj];split
  ·rfl
  ·split<;>rfl
 ·rw[jc,gY,fg,pQ hb ha hi hr hj];split
  ·rfl
  ·split<;>rfl
theorem agC{n a:Nat}{m:al}{c:UInt8}(hm:E m=n*n)(ha:a<n)(hc:c≠0):Ng n m (kA n m a c):=λr hr=>by
 refine⟨if r=a then lj c else 1,0,r,r,hr,hr,λj hj=>?_⟩;rw[gY,fg,rI hm ha hr hj];split
 ·rename_i h;subst h;rw[<-jr,E8 hc,jc]
 ·rw[jc]
theorem abn{n a:Nat}{m b:al}{c:UInt8}(hm:E m=n*n)(hb:E b=n*n)(ha:a<n):Ky n (kA n m a c) m (kA n b a c) b:=λr hr=>by
 refine⟨if r=a then c else 1,0,r,r,hr,hr,λj hj=>?_,λj hj=>?_⟩
 ·rw[gY,fg,rI hm ha hr hj];split
  ·rename_i h;subst h;rfl
  ·rw[jc]
 ·rw[gY,fg,rI hb ha hr hj];split
  ·rename_i h;subst h;rfl
  ·rw[jc]
theorem am8{n a q:Nat}{m:al}{c:UInt8}(hm:E m=n*n)(ha:a<n)(hq:q<n)(oh:q≠a):Ng n m (se n m q c a):=λr hr=>by
 refine⟨1,if r=q then c else 0,r,a,hr,ha,λj hj=>?_⟩;rw[jc,sK hm ha hq hr hj,sK hm ha hq ha hj,aw (Ne.symm oh)];split
 ·rename_i h;subst h;rw[rW,iQ,fg]
 ·rw[gY,fg]
theorem aii{n a q:Nat}{m b:al}{c:UInt8}(hm:E m=n*n)(hb:E b=n*n)(ha:a<n)(hq:q<n):Ky n (se n m q c a) m (se n b q c a) b:=λr hr=>by
 refine⟨1,if r=q then c else 0,r,a,hr,ha,λj hj=>?_,λj hj=>?_⟩
 ·rw[jc,sK hm ha hq hr hj];split
  ·rename_i h;subst h;rfl
  ·rw[gY,fg]
 ·rw[jc,sK hb ha hq hr hj];split
  ·rename_i h;subst h;rfl
  ·rw[gY,fg]
theorem sj(k:Nat)(m:al)(MY:Nat):∀(f i:Nat),i<=wF k m MY f i∧wF k m MY f i<=i+f∧(wF k m MY f i<i+f->fG k m (wF k m MY f i) MY≠0)∧∀r,i<=r->r<wF k m MY f i->fG k m r MY=0
 |0,i=>⟨gC _,gC _,λh=>absurd h (by show¬i<i+0;omega),λr h1 h2=>absurd h2 (by show¬r<i;omega)⟩
 |f+1,i=>by
  rw[wF];split
  ·rename_i h;obtain⟨h1,h2,h3,h4⟩:=sj k m MY f (i+1);refine⟨aa,aa,λh'=>h3 aa,λr hr wU=>?_⟩;by_cases e:r=i
   ·rw[e];exact h
   ·exact h4 r aa wU
  ·rename_i h;exact⟨gC _,aa,λ_=>h,λr h1 h2=>absurd h2 aa⟩
theorem ER{n a:Nat}{m0:al}(ha:a<n):∀(f q:Nat) (p:al×al),q+f=n->Gi n a m0 p->fG n p.1 a a=1->(∀r,r<q->r≠a->fG n p.1 r a=0)->Gi n (a+1) m0 (kS n a f q p)
 |0,q,p,hq,g,h1,hz=>by
  refine⟨g.lm,g.lb,g.left,g.ker,λi hi j hj=>?_⟩;by_cases e:j=a
  ·subst e;by_cases e2:i=j
   ·subst e2;rw[ao rfl];exact h1
   ·rw[aw e2];exact hz i aa e2
  ·exact g.uc i hi j aa
 |f+1,q,p,hq,g,h1,hz=>by
  rw[kS];split
  ·rename_i h;obtain⟨oh,hc⟩:=h;have hqn:q<n:=by omega
   have Dc:∀j,j<a->fG n p.1 a j=0:=λj hj=>by rw[g.uc a ha j hj,aw aa]
   refine ER ha f (q+1) _ aa ⟨sf g.lm ha hqn,sf g.lb ha hqn,BA (aii g.lm g.lb ha hqn) g.left,(am8 g.lm ha hqn oh).ker g.ker,λi hi j hj=>?_⟩ ?_ ?_
   ·show fG n (se n p.1 q _ a) i j=_;rw[sK g.lm ha hqn hi aa];split
    ·rename_i e;subst e;rw[Dc j hj,j9,fg];exact g.uc i hi j hj
    ·exact g.uc i hi j hj
   ·show fG n (se n p.1 q _ a) a a=_;rw[sK g.lm ha hqn ha ha,aw (Ne.symm oh)];exact h1
   ·intro r hr hra;show fG n (se n p.1 q _ a) r a=_;rw[sK g.lm ha hqn aa ha];split
    ·rename_i e;subst e;rw[h1,W2,iQ]
    ·exact hz r aa hra
  ·rename_i h;refine ER ha f (q+1) p aa g h1 λr hr hra=>?_;by_cases e:r=q
   ·subst e;exact bA λk=>h ⟨hra,k⟩
   ·exact hz r aa hra
theorem Wg{n a:Nat}{m0:al}{p:al×al}(ha:a<n)(g:Gi n a m0 p):xm n a p<n:=by
 obtain⟨h1,h2,h3,h4⟩:=sj n p.1 a (n-a) a;refine bA λhn=>?_;have hI:xm n a p=n:=by unfold xm at hn⊢;omega
 have hz:∀r,a<=r->r<n->fG n p.1 r a=0:=λr hr wU=>h4 r hr (by unfold xm at hI;omega);have:=g.ker (λt=>if t=a then 1 else if t<a then fG n p.1 t a else 0) (λi hi=>?_) a ha
 ·simp at this
 ·by_cases hia:i<a
  ·have e:xs n (λt=>gm (fG n p.1 i t) (if t=a then 1 else if t<a then fG n p.1 t a else 0))=xs n λt=>(if t=i then fG n p.1 i a else 0) ^^^ (if t=a then fG n p.1 i a else 0):=iZ λt ht=>by
    by_cases e1:t=a
    ·subst e1;rw[ao rfl,aw aa,ao rfl,W2,pI]
    ·rw[aw e1,aw e1,fg];by_cases e2:t<a
     ·rw[ao e2,g.uc i hi t e2];by_cases e3:i=t
      ·subst e3;rw[ao rfl,ao rfl,jc]
      ·rw[aw e3,aw (Ne.symm e3),gY]
     ·rw[aw e2,aw aa,j9]
   rw[e,Hi,x8 i hi (λt _ h=>aw h),x8 a ha (λt _ h=>aw h),ao rfl,ao rfl,iQ]
  ·refine DY λt ht=>?_;by_cases e1:t=a
   ·subst e1;rw[hz i aa hi,gY]
   ·rw[aw e1];by_cases e2:t<a
    ·rw[g.uc i hi t e2,aw aa,gY]
    ·rw[aw e2,j9]
theorem aiS{n a:Nat}{m0:al}{p:al×al}(ha:a<n)(g:Gi n a m0 p):Gi n (a+1) m0 (St n a p):=by
 have hI:=Wg ha g;obtain⟨h1,h2,h3,h4⟩:=sj n p.1 a (n-a) a;have hIa:a<=xm n a p:=h1;have hc:fG n p.1 (xm n a p) a≠0:=h3 (by unfold xm at hI;omega);have g1:Gi n a m0 (KT n a p):=by
  refine⟨pE g.lm ha hI,pE g.lb ha hI,BA (agV g.lm g.lb ha hI) g.left,(ak3 g.lm ha hI).ker g.ker,λi hi j hj=>?_⟩;show fG n (qh n p.1 a _) i j=_;rw[pQ g.lm ha hI hi aa];split
  ·rename_i e;rw[g.uc a ha j hj,aw aa,aw aa]
  ·split
   ·rename_i e;rw[g.uc _ hI j hj,aw aa,aw aa]
   ·exact g.uc i hi j hj
 have Ly:fG n (KT n a p).1 a a≠0:=by
  show fG n (qh n p.1 a _) a a≠0;rw[pQ g.lm ha hI ha ha];split
  ·rename_i e;rw[<-e]at hc;exact hc
  ·rw[ao rfl];exact hc
 have g2:Gi n a m0 (apr n a (KT n a p)):=by
  refine⟨nH g1.lm ha,nH g1.lb ha,BA (abn g1.lm g1.lb ha) g1.left,(agC g1.lm ha (Ls Ly)).ker g1.ker,λi hi j hj=>?_⟩;show fG n (kA n (KT n a p).1 a _) i j=_;rw[rI g1.lm ha hi aa];split
  ·rename_i e;rw[e,g1.uc a ha j hj,aw aa,j9]
  ·exact g1.uc i hi j hj
 refine ER ha n 0 _ aa g2 ?_ (λr hr=>aa);show fG n (kA n (KT n a p).1 a _) a a=_;rw[rI g1.lm ha ha ha,ao rfl,E8 Ly]
theorem Xt{n:Nat}{m0:al}:∀(f i:Nat) (p:al×al),i+f=n->Gi n i m0 p->∃q,Fq n f i p=some q∧Gi n n m0 q
 |0,i,p,h,g=>⟨p,rfl,by(have:i=n:=aa;rw[<-this];rw[<-this]at g;exact g)⟩
 |f+1,i,p,h,g=>by
  have hI:=Wg aa g;obtain⟨q,h1,h2⟩:=Xt f (i+1) (St n i p) aa (aiS aa g);refine⟨q,?_,h2⟩;have e:sL n i p=(true,St n i p):=by unfold sL;rw[aw aa]
  rw[Fq,e,ao rfl];exact h1
theorem ae3{n:Nat}{m:al}(hm:E m=n*n)(hk:Ker n m):∃b,ajR n m=some b∧E b=n*n∧∀i,i<n->∀j,j<n->xs n (λt=>gm (fG n b i t) (fG n m t j))=if i=j then 1 else 0:=by
 have g0:Gi n 0 m (m,Pe n):=by
  refine⟨hm,jA n n _,λi hi j hj=>?_,hk,λi hi j hj=>aa⟩;have e:xs n (λt=>gm (fG n (Pe n) i t) (fG n m t j))=xs n λt=>if t=i then fG n m i j else 0:=iZ λt ht=>by
   unfold Pe;rw[El hi ht];by_cases e:i=t
   ·subst e;rw[ao rfl,ao rfl,jc]
   ·rw[aw e,aw (Ne.symm e),gY]
  show xs n (λt=>gm (fG n (Pe n) i t) (fG n m t j))=_;rw[e,x8 i hi λt _ h=>aw h,ao rfl]
 obtain⟨q,h1,h2⟩:=Xt n 0 _ aa g0;refine⟨q.2,by unfold ajR;rw[h1];rfl,h2.lb,λi hi j hj=>?_⟩;rw[h2.left i hi j hj,h2.uc i hi j hj]
def HI(k m:Nat):al:=qQ m k λi j=>lj (UInt8.ofNat ((k+i) ^^^ j))
def jX(k m:Nat):al:=Pe k++HI k m
def k9(k:Nat)(m:al)(at_:bf):al:=at_.flatMap (iD k m)
theorem Ek(k m:Nat):E (HI k m)=m*k:=jA ..
theorem Xm(n:Nat):E (Pe n)=n*n:=jA ..
theorem nO(k m:Nat):E (jX k m)=(k+m)*k:=by unfold jX Pe HI;rw[aX,jA,jA,kz]
theorem Ue{a b:Nat}(ha:a<256)(hb:b<256):UInt8.ofNat (a ^^^ b)=UInt8.ofNat a ^^^ UInt8.ofNat b:=oP (by
 rw[UInt8.toNat_xor,tX,tX,tX,jh (show a<2^8 from ha),jh (show b<2^8 from hb),jh (show a ^^^ b<2^8 from wu ha hb)])
theorem AM{k m a t:Nat}(vS:k+m<=255)(ha:a<k+m)(ht:t<k):fG k (jX k m) a t=if a<k then (if a=t then 1 else 0) else lj (UInt8.ofNat a ^^^ UInt8.ofNat t):=by
 have hle:a*k+k<=(k+m)*k:=fW ha;split
 ·rename_i h;have h1:=fW (k:=k) h;have:fG k (jX k m) a t=fG k (Pe k) a t:=by
   unfold fG jX;rw[ba,ba,zk ank]
  rw[this];unfold Pe;rw[El h ht]
 ·rename_i h;obtain⟨i,rfl⟩:∃i,a=k+i:=⟨a-k,aa⟩
  have:fG k (jX k m) (k+i) t=fG k (HI k m) i t:=by
   have hm:(k+i)*k=k*k+i*k:=kz ..;unfold fG jX;rw[ba,ba,rX ank];unfold Pe;rw[jA];congr 2;omega
  rw[this];unfold HI;rw[El aa ht,Ue aa aa]
theorem zD{n k:Nat}{m:al}(hm:E m=n*k):∀{l:bf},(∀a,a∈l->a<n)->E (k9 k m l)=E l*k
 |[],_=>by simp[k9]
 |a::l,h=>by
  have:=zD hm (l:=l) λx hx=>h x oR;unfold k9 at this⊢;rw[ka,aX,this,eS hm (h a ak),dI,kz];omega
theorem Em{n k:Nat}{m:al}(hm:E m=n*k):∀{l:bf} {i j:Nat},(∀a,a∈l->a<n)->i<E l->j<k->fG k (k9 k m l) i j=fG k m (l.getD i 0) j
 |[],i,j,_,hi,_=>by simp at hi
 |a::l,i,j,h,hi,hj=>by
  have hr:=eS hm (h a ak);have e:k9 k m (a::l)=iD k m a++k9 k m l:=by unfold k9;rw[ka]
  cases i with
  |zero=>
   rw[e];have:fG k (iD k m a++k9 k m l) 0 j=(iD k m a).getD j 0:=by
    unfold fG;rw[ba,ba,qC,lV,zk aa]
   rw[this,ko _ _ hj];rfl
  |succ i=>
   have ih:=Em hm (l:=l) (i:=i) (j:=j) (λx hx=>h x oR) D_ hj;rw[e];have:fG k (iD k m a++k9 k m l) (i+1) j=fG k (k9 k m l) i j:=by
    unfold fG;rw[ba,ba,rX (by rw[hr,kz];omega)];congr 2;rw[hr,kz];omega
   rw[this,ih];rfl
theorem JQ(f:Nat->UInt8)(p:Nat->Bool):∀l:bf,ls l f=ls (l.filter p) f ^^^ ls (l.filter λx=> !p x) f
 |[]=>(iQ 0).symm
 |j::l=>by
  rw[ls,JQ f p l,uQ,uQ];cases p j with
  |true=>simp only[if_true,Bool.not_true,Bool.false_eq_true,if_false];rw[ls,rW]
  |false=>simp only[Bool.false_eq_true,if_false,Bool.not_false,if_true];rw[ls,<-rW,<-rW,UInt8.xor_comm (f j)]
theorem ah5(f:Nat->UInt8):∀n,xs n f=ls (List.range n) f
 |0=>rfl
 |n+1=>by
  rw[xs,ah5 f n,lT,aj4 (JG (l₁:=List.range n) (l₂:=[n])),UInt8.xor_comm];rfl
theorem EZ(l:bf)(p:Nat->Bool):E (l.filter p)+E (l.filter λx=> !p x)=E l:=by
 induction l with
 |nil=>rfl
 |cons x l ih=>rw[uQ,uQ];cases p x<;>simp<;>omega
theorem Qg{k m:Nat}(vS:k+m<=255){l:bf}(hl:E l=k)(hn:l.Nodup)(fN:∀a,a∈l->a<k+m):Ker k (k9 k (jX k m) l):=by
 intro v hv;have Dc:∀a,a∈l->xs k (λt=>gm (fG k (jX k m) a t) (v t))=0:=λa ha=>by
  obtain⟨i,hi,e⟩:=ke ha;have:=hv i aa;rw[<-this];refine iZ λt ht=>?_;rw[Em (nO k m) fN aa ht];congr 2;rw[ba,fc hi,e];rfl
 have asw:∀a,a∈l->a<k->v a=0:=λa ha hak=>by
  have:=Dc a ha;rw[iZ (g:=λt=>if t=a then v a else 0) λt ht=>by
   rw[AM vS (fN a ha) ht,ao hak];by_cases e:a=t
   ·subst e;rw[ao rfl,ao rfl,jc]
   ·rw[aw e,aw (Ne.symm e),gY],x8 a hak (λt _ h=>aw h),ao rfl]at this
  exact this
 obtain⟨J,hJ⟩:=cK ((List.range k).filter λx=> !decide (x∈l));obtain⟨X,hX⟩:=cK (l.filter λx=> !decide (x<k));have hp:((List.range k).filter λx=>decide (x∈l)).Perm (l.filter λx=>decide (x<k)):=by
  refine(List.perm_ext_iff_of_nodup (List.nodup_range.filter _) (hn.filter _)).2 λa=>?_;simp only[CE,pj,JH];exact And.comm
 have hJl:E J=E X:=by
  have h1:=EZ (List.range k) λx=>decide (x∈l);have h2:=EZ l λx=>decide (x<k);have h3:=hp.length_eq;rw[uR]at h1;rw[hJ,hX];omega
 have hJm:∀j,j∈J↔j<k∧j∉l:=λj=>by rw[hJ];simp
 have hXm:∀a,a∈X↔a∈l∧k<=a:=λa=>by rw[hX];simp
 have inj:∀i j:Nat,i<256->j<256->UInt8.ofNat i=UInt8.ofNat j->i=j:=λi j hi hj e=>by
  have:=dQ UInt8.toNat e;rw[tX,tX,jh (show i<2^8 from hi),jh (show j<2^8 from hj)]at this;exact this
 have kU:=Cr (E J) J X v UInt8.ofNat UInt8.ofNat rfl aa (hJ▸List.nodup_range.filter _) (hX▸hn.filter _)
  (λi j hi hj e=>inj i j (by have:=((hJm i).1 hi).1;omega) (by have:=((hJm j).1 hj).1;omega) e)
  (λi j hi hj e=>inj i j (by have:=fN i ((hXm i).1 hi).1;omega) (by have:=fN j ((hXm j).1 hj).1;omega) e)
  (λi j hi hj e=>by
   have h1:=((hXm i).1 hi).2;have h2:=((hJm j).1 hj).1;have:=inj i j (by have:=fN i ((hXm i).1 hi).1;omega) aa e;omega)
  (λa ha=>by
   obtain⟨h1,h2⟩:=(hXm a).1 ha;have:=Dc a h1;rw[ah5,JQ _ λx=>decide (x∈l),L5 (J:=(List.range k).filter λx=>decide (x∈l)) (λt ht=>by
    simp only[CE,pj,JH]at ht;rw[asw t ht.2 ht.1,j9]),pI,<-hJ]at this
   rw[<-this];refine zu λt ht=>?_;rw[AM vS (fN a h1) ((hJm t).1 ht).1,aw aa,iy])
 intro j hj;by_cases h:j∈l
 ·exact asw j h hj
 ·exact kU j ((hJm j).2 ⟨hj,h⟩)
end
theorem JI:type_of% @BitVec.toNat_ofInt:= @BitVec.toNat_ofInt
theorem Pm:type_of% @Nat.and_lt_two_pow:= @Nat.and_lt_two_pow
theorem wW:type_of% @Int.fdiv_eq_ediv_of_nonneg:= @Int.fdiv_eq_ediv_of_nonneg
theorem wX:type_of% @Nat.shiftRight_eq_div_pow:= @Nat.shiftRight_eq_div_pow
theorem rY:type_of% @Nat.div_le_self:= @Nat.div_le_self
theorem zZ{x:Int}(h1:0<=x)(h2:x<4294967296):IntKind.u32.wrap x=x:=by
 have e:IntKind.u32.wrap x=x%2^32:=rfl;rw[e];omega
theorem ap3{k:IntKind}{a b:Nat}(ha:a<2^k.bits)(hb:b<2^k.bits):(BitVec.ofInt k.bits (a:Int) ^^^ BitVec.ofInt k.bits (b:Int)).toNat=a ^^^ b:=by
 rw[BitVec.toNat_xor,JI,JI];have h1:((a:Int)%((2^k.bits:Nat):Int)).toNat=a:=by
  rw[<-Int.natCast_emod,jh ha];rfl
 have h2:((b:Int)%((2^k.bits:Nat):Int)).toNat=b:=by
  rw[<-Int.natCast_emod,jh hb];rfl
 rw[h1,h2]
theorem ana{k:IntKind}{a b:Nat}(ha:a<2^k.bits)(hb:b<2^k.bits):(BitVec.ofInt k.bits (a:Int) &&& BitVec.ofInt k.bits (b:Int)).toNat=a &&& b:=by
 rw[BitVec.toNat_and,JI,JI];have h1:((a:Int)%((2^k.bits:Nat):Int)).toNat=a:=by
  rw[<-Int.natCast_emod,jh ha];rfl
 have h2:((b:Int)%((2^k.bits:Nat):Int)).toNat=b:=by
  rw[<-Int.natCast_emod,jh hb];rfl
 rw[h1,h2]
theorem Ku{a b:Nat}(ha:a<4294967296)(hb:b<4294967296):IntKind.u32.wrap ((BitVec.ofInt IntKind.u32.bits (a:Int) ^^^ BitVec.ofInt IntKind.u32.bits (b:Int)).toNat:Int)=((a ^^^ b:Nat):Int):=by
 rw[ap3 (k:=.u32) ha hb];have:=Dh (n:=32) ha hb;exact zZ aa aa
theorem acv{a b:Nat}(ha:a<4294967296)(hb:b<4294967296):IntKind.u32.wrap ((BitVec.ofInt IntKind.u32.bits (a:Int) &&& BitVec.ofInt IntKind.u32.bits (b:Int)).toNat:Int)=((a &&& b:Nat):Int):=by
 rw[ana (k:=.u32) ha hb];have:=Pm (n:=32) a hb;exact zZ aa aa
theorem ah4{a b:Nat}(ha:a<256)(hb:b<256):IntKind.u8.wrap ((BitVec.ofInt IntKind.u8.bits (a:Int) ^^^ BitVec.ofInt IntKind.u8.bits (b:Int)).toNat:Int)=((a ^^^ b:Nat):Int):=by
 rw[ap3 (k:=.u8) ha hb];have:=Dh (n:=8) ha hb;exact ab' aa aa
theorem aqi{a b:Nat}(ha:a<256)(hb:b<256):IntKind.u8.wrap ((BitVec.ofInt IntKind.u8.bits (a:Int) &&& BitVec.ofInt IntKind.u8.bits (b:Int)).toNat:Int)=((a &&& b:Nat):Int):=by
 rw[ana (k:=.u8) ha hb];have:=Pm (n:=8) a hb;exact ab' aa aa
theorem It(a k:Nat):((a:Nat):Int).fdiv (2^k)=((a >>> k:Nat):Int):=by
 rw[wW _ (Int.le_of_lt (Int.pow_pos ax)),wX];rw[Int.natCast_ediv];congr 1
theorem UI(a k:Nat):a >>> k<=a:=by rw[wX];exact rY _ _
theorem oT:type_of% @List.getElem_mem:= @List.getElem_mem
theorem wY:type_of% @Nat.le_of_not_lt:= @Nat.le_of_not_lt
theorem uS:type_of% @Nat.add_sub_cancel:= @Nat.add_sub_cancel
theorem CF:type_of% @List.drop_left:= @List.drop_left
def w9:bf:=[0,498536548,997073096,651767980,1994146192,1802195444,1303535960,1342533948,3988292384,4027552580,3604390888,3412177804,2607071920,2262029012,2685067896,3183342108]
def yF(x:Nat):Nat:=(x >>> 4) ^^^ w9.getD (x &&& 15) 0
def HO(x:Nat)(c:UInt8):Nat:=yF (yF (x ^^^ c.toNat))
def ma(s:Nat)(b:al):Nat:=4294967295 ^^^ b.foldl HO (4294967295 ^^^ s)
theorem GV(k:Nat):w9.getD k 0<4294967296:=by
 have kU:∀x∈w9,x<4294967296:=by decide
 by_cases h:k<E w9
 ·rw[ba,fc h];exact kU _ (oT h)
 ·rw[ba,Bv (wY h)];decide
theorem KX{x:Nat}(h:x<4294967296):yF x<4294967296:=by
 have h1:=UI x 4;exact Dh (n:=32) aa (GV _)
theorem Ws{x:Nat}(h:x<4294967296)(c:UInt8):HO x c<4294967296:=by
 have h1:=c.toNat_lt;exact KX (KX (Dh (n:=32) h aa))
theorem ajg(b:al):∀{x:Nat},x<4294967296->b.foldl HO x<4294967296:=by
 induction b with
 |nil=>intro x h;exact h
 |cons c r ih=>intro x h;exact ih (Ws h c)
theorem aiX{s:Nat}(h:s<4294967296)(b:al):ma s b<4294967296:=
 Dh (n:=32) ax (ajg b (Dh (n:=32) ax h))
def jP(s:Nat):al:=[UInt8.ofNat s,UInt8.ofNat (s >>> 8),UInt8.ofNat (s >>> 16),UInt8.ofNat (s >>> 24)]
def cv(b:al):al:=b++jP (ma 0 b)
def aH(b:al):al×Int:=
 if E b<4 then ([],1) else if b.drop (E b-4)=jP (ma 0 (b.take (E b-4))) then (b.take (E b-4),0) else ([],5)
theorem abD(s:Nat):E (jP s)=4:=rfl
theorem dA(b:al):E (cv b)=E b+4:=by simp[cv,abD]
theorem iq(b:al):aH (cv b)=(b,0):=by
 unfold aH;rw[aw (by rw[dA];omega),dA,uS];have h1:(cv b).take (E b)=b:=by unfold cv;rw[zh]
 have h2:(cv b).drop (E b)=jP (ma 0 b):=by unfold cv;rw[CF]
 rw[h1,h2,ao rfl]
theorem Nx{P:Prop}(h:P:=by(simp[hq])):P:=h
theorem ly{P:Prop}(h:P:=by(rw[iG];omega)):P:=h
theorem wZ:type_of% @List.take_sublist:= @List.take_sublist
theorem w3:type_of% @List.flatten_cons:= @List.flatten_cons
theorem lA:type_of% @List.take_left':= @List.take_left'
theorem mo:type_of% @List.drop_left':= @List.drop_left'
theorem jK:type_of% @List.ext_getElem:= @List.ext_getElem
theorem p_:type_of% @List.map_take:= @List.map_take
theorem dz:type_of% @List.mem_append:= @List.mem_append
theorem za:type_of% @List.length_replicate:= @List.length_replicate
theorem kX:type_of% @Nat.add_one_mul:= @Nat.add_one_mul
theorem rZ:type_of% @Nat.mod_lt:= @Nat.mod_lt
theorem jL:type_of% @Nat.mul_comm:= @Nat.mul_comm
def xV(n:Nat)(row:al)(data:ew):al:=(row.zip data).foldl (λs p=>if p.1=0 then s else rh s p.1 p.2) (List.replicate n 0)
def Q4(r k:Nat)(cells:al)(data:ew)(n:Nat):ew:=(List.range r).map λi=>xV n (iD k cells i) data
def Jq(l:ew):Nat:=E (l.headD [])
def par(m:Nat)(data:ew):ew:=Q4 m (E data) (HI (E data) m) data (Jq data)
def sG(l:ew):Prop:=∀b∈l,E b=Jq l
instance (l:List (List UInt8)):Decidable (sG l):=inferInstanceAs (Decidable (∀b∈l,E b=Jq l))
def cW(k:Nat)(good:List Bool):bf:=((List.range (E good)).filter λi=>good.getD i false).take k
def ey(k:Nat)(parts:ew)(good:List Bool):ew:=(cW k good).map (parts.getD · [])
def PW(k m:Nat)(good:List Bool):al:=(ajR k (k9 k (jX k m) (cW k good))).getD []
def nk(k m:Nat)(parts:ew)(good:List Bool):ew:=
 if (cW k good).getD (k-1) 0≠k-1 then Q4 k k (PW k m good) (ey k parts good) (Jq (ey k parts good)) else ey k parts good
def oX(k m:Nat)(parts:ew)(good:List Bool):ew×Int:=
 if¬sG (ey (k+m) parts good) then ([],13) else if E (ey (k+m) parts good)<k then ([],12)
 else (nk k m parts good++par m (nk k m parts good),0)
theorem wQ{n:Nat}:∀(l:List (UInt8×al)) (s:al),E s=n->(∀p∈l,E p.2=n)->E (l.foldl (λs p=>if p.1=0 then s else rh s p.1 p.2) s)=n
 |[],s,h,_=>h
 |p::r,s,h,hl=>by
  rw[aaz];refine wQ r _ ?_ λq hq=>hl q Nx;split
  ·exact h
  ·rw[pZ (by rw[h,hl p ak])];exact h
theorem G0{n:Nat}{row:al}{data:ew}(h:∀b∈data,E b=n):E (xV n row data)=n:=
 wQ _ _ ak λp hp=>h _ (List.of_mem_zip hp).2
theorem ld(r k:Nat)(cells:al)(data:ew)(n:Nat):E (Q4 r k cells data n)=r:=by simp[Q4]
theorem G1{r k n:Nat}{cells:al}{data:ew}(h:∀b∈data,E b=n):∀b∈Q4 r k cells data n,E b=n:=λb hb=>by
 obtain⟨i,_,rfl⟩:=pC.1 hb;exact G0 h
theorem n_{l:ew}{n:Nat}(h:∀b∈l,E b=n)(h0:0<E l):Jq l=n:=by
 cases l with
 |nil=>simp at h0
 |cons x r=>exact h x ak
theorem mg(m:Nat)(data:ew):E (par m data)=m:=ld ..
theorem vk{m n:Nat}{data:ew}(h0:0<E data)(h:∀b∈data,E b=n):∀b∈par m data,E b=n:=by
 unfold par;rw[n_ h h0];exact G1 h
theorem pv{k:Nat}{good:List Bool}:∀i∈cW k good,i<E good∧good.getD i false=true:=λi hi=>by
 have:=my hi;simpa using this
theorem sQ(k:Nat)(good:List Bool):(cW k good).Nodup:=(List.nodup_range.filter _).sublist (wZ _ _)
def fI(c:Nat):Nat->al->ew
 |0,_=>[]
 |p+1,x=>x.take c::fI c p (x.drop c)
def lM(k ch n:Nat):Nat:=(n+k*ch-1)/(k*ch)
def iW(k m ch n:Nat):Nat:=lM k ch n*((k+m)*(ch+4))
def yi(k m ch n:Nat):Int:=if 8388608<n then 13 else if 16777216<iW k m ch n then 6 else 0
def tp(k m ch:Nat)(x:al):ew:=fI ch k x++par m (fI ch k x)
def wG(k m ch:Nat)(x:al):al:=(tp k m ch x).flatMap cv
def rs(k m ch:Nat):Nat->al->al
 |0,_=>[]
 |f+1,x=>wG k m ch (x.take (k*ch))++rs k m ch f (x.drop (k*ch))
def qk(k ch:Nat)(b:al):al:=b++List.replicate (lM k ch (E b)*(k*ch)-E b) 0
def lZ(k m ch:Nat)(b:al):al×Int:=if yi k m ch (E b)≠0 then ([],yi k m ch (E b)) else (rs k m ch (lM k ch (E b)) (qk k ch b),0)
def rdP(k m ch:Nat)(s:al):ew:=(fI (ch+4) (k+m) s).map λc=>(aH c).1
def Az(k m ch:Nat)(s:al):List Bool:=(fI (ch+4) (k+m) s).map λc=>decide ((aH c).2=0)
def dF(at_:Nat)(good:List Bool):bf:=((List.range (E good)).filter λi=> !good.getD i false).map (at_+ ·)
def AA(k m ch:Nat)(s:al):ew×Int:=oX k m (rdP k m ch s) (Az k m ch s)
def xX(k m ch:Nat)(s:al):Prop:=∃i,i<E (AA k m ch s).1∧(Az k m ch s).getD i false=true∧(AA k m ch s).1.getD i []≠(rdP k m ch s).getD i []
noncomputable def J6(k m ch:Nat)(s:al):Int:=by
 classical
 exact if (AA k m ch s).2≠0 then (AA k m ch s).2 else if xX k m ch s then 2 else 0
noncomputable def rv(k m ch:Nat):Nat->al->al->bf->Nat->al×bf×Int
 |0,_,out,bad,_=>(out,bad,0)
 |f+1,s,out,bad,at_=>
  if J6 k m ch (s.take ((k+m)*(ch+4)))≠0 then ([],[],J6 k m ch (s.take ((k+m)*(ch+4))))
  else rv k m ch f (s.drop ((k+m)*(ch+4))) (out++((AA k m ch (s.take ((k+m)*(ch+4)))).1.take k).flatten) (bad++dF at_ (Az k m ch (s.take ((k+m)*(ch+4))))) (at_+(k+m))
noncomputable def ow(k m ch n:Nat)(s:al):al×bf×Int:=rv k m ch (lM k ch n) s [] [] 0
noncomputable def jW(k m ch n:Nat)(s:al):al×bf×Int:=
 if yi k m ch n≠0 then ([],[],yi k m ch n) else if E s<iW k m ch n then ([],[],1) else if iW k m ch n<E s then ([],[],2)
 else if (ow k m ch n s).2.2≠0 then ([],[],(ow k m ch n s).2.2)
 else if∃x∈(ow k m ch n s).1.drop n,x≠0 then ([],[],2) else ((ow k m ch n s).1.take n,(ow k m ch n s).2.1,0)
theorem du(c:Nat):∀(p:Nat) (x:al),E (fI c p x)=p
 |0,_=>rfl
 |p+1,x=>by rw[fI,dI,du c p]
theorem po(c:Nat):∀(p:Nat) (x:al),E x=p*c->∀b∈fI c p x,E b=c
 |0,_,_=>by simp[fI]
 |p+1,x,h=>by
  rw[kz,lz]at h;rw[fI];intro b hb;rcases fj.1 hb with rfl|hb
  ·rw[eY];omega
  ·exact po c p _ ly b hb
theorem rJ(c:Nat):∀(p:Nat) (x:al),E x=p*c->(fI c p x).flatten=x
 |0,x,h=>by rw[qC]at h;rw[Fu.1 h];rfl
 |p+1,x,h=>by
  rw[kz,lz]at h;rw[fI,w3,rJ c p _ ly,jd]
theorem yB(c:Nat):∀(l:ew),(∀b∈l,E b=c)->∀r,fI c (E l) (l.flatten++r)=l
 |[],_,_=>rfl
 |b::l,h,r=>by
  have hb:=h b ak;rw[dI,fI,w3,bX,lA hb,mo hb,yB c l (λx hx=>h x oR) r]
theorem T8{k m n:Nat}{parts:ew}{good:List Bool}(hk:0<k)(h:∀b∈ey k parts good,E b=n)(hl:E (cW k good)=k):E (nk k m parts good)=k∧∀b∈nk k m parts good,E b=n:=by
 have hp:E (ey k parts good)=k:=by unfold ey;rw[dX];exact hl
 unfold nk;split
 ·rw[n_ h aa];exact⟨ld ..,G1 h⟩
 ·exact⟨hp,h⟩
theorem BR{n:Nat}{p:Nat->Bool}(h:∀i,i<n->p i=true):(List.range n).filter p=List.range n:=List.filter_eq_self.2 λi hi=>h i (pj.1 hi)
theorem qf(l:ew):(List.range (E l)).map (l.getD · [])=l:=by
 apply jK
 ·simp
 ·intro i h1 h2;simp at h1;simp[h1]
theorem w_(l:ew){k:Nat}(h:k<=E l):(List.range k).map (l.getD · [])=l.take k:=by
 conv=>rhs;rw[<-qf l,<-p_,List.take_range]
 rw[xH h]
theorem afr{k m n:Nat}{data:ew}(hk:0<k)(hd:E data=k)(he:∀b∈data,E b=n):
  oX k m (data++par m data) (List.replicate (k+m) true)=(data++par m data,0):=by
 have hlen:E (data++par m data)=k+m:=by rw[aX,mg,hd]
 have kU:∀b∈data++par m data,E b=n:=λb hb=>by
  rcases dz.1 hb with hb|hb
  ·exact he b hb
  ·exact vk aa he b hb
 have hf:∀j,j<=k+m->cW j (List.replicate (k+m) true)=List.range j:=λj hj=>by
  unfold cW;rw[za,BR λi hi=>by simp[hi],List.take_range,xH hj]
 have hP:∀j,j<=k+m->ey j (data++par m data) (List.replicate (k+m) true)=(data++par m data).take j:=λj hj=>by
  unfold ey;rw[hf j hj,w_ _ aa]
 have hD:nk k m (data++par m data) (List.replicate (k+m) true)=data:=by
  unfold nk;rw[hf k aa,hP k aa,lA hd,aw];simp[show k-1<k by omega]
 unfold oX;rw[hP (k+m) aa,fC aa,aw,aw aa,hD];intro h;exact h λb hb=>by rw[kU b hb,n_ kU aa]
theorem qY(k m ch:Nat)(x:al):E (tp k m ch x)=k+m:=by unfold tp;rw[aX,mg,du]
theorem B3{k m ch:Nat}{x:al}(hk:0<k)(h:E x=k*ch):∀b∈tp k m ch x,E b=ch:=λb hb=>by
 rcases dz.1 hb with hb|hb
 ·exact po ch k x h b hb
 ·exact vk (by rw[du];exact hk) (po ch k x h) b hb
theorem tE{c:Nat}:∀l:ew,(∀b∈l,E b=c)->E (l.flatMap cv)=E l*(c+4)
 |[],_=>by simp
 |b::l,h=>by
  rw[ka,aX,tE l (λx hx=>h x oR),dA,h b ak,dI,kz];omega
theorem vv{k m ch:Nat}{x:al}(hk:0<k)(h:E x=k*ch):E (wG k m ch x)=(k+m)*(ch+4):=by
 unfold wG;rw[tE _ (B3 hk h),qY]
theorem AO{k m ch:Nat}{x:al}(hk:0<k)(h:E x=k*ch):fI (ch+4) (k+m) (wG k m ch x)=(tp k m ch x).map cv:=by
 have h1:=yB (ch+4) ((tp k m ch x).map cv) (λb hb=>by
  obtain⟨p,hp,rfl⟩:=pC.1 hb;rw[dA,B3 hk h p hp]) []
 rw[dX,qY,gl,<-List.flatMap_def]at h1;exact h1
theorem X5{k m ch:Nat}{x:al}(hk:0<k)(h:E x=k*ch):rdP k m ch (wG k m ch x)=tp k m ch x:=by
 unfold rdP;rw[AO hk h,sW]
 conv=>rhs;rw[<-List.map_id (tp k m ch x)]
 exact qB λp _=>by simp[iq]
theorem Mj{k m ch:Nat}{x:al}(hk:0<k)(h:E x=k*ch):Az k m ch (wG k m ch x)=List.replicate (k+m) true:=by
 unfold Az;rw[AO hk h,sW];refine List.eq_replicate_iff.2 ⟨by rw[dX,qY],λb hb=>?_⟩;obtain⟨p,_,rfl⟩:=pC.1 hb;simp[iq]
theorem Mu{k m ch:Nat}{x:al}(hk:0<k)(h:E x=k*ch):AA k m ch (wG k m ch x)=(tp k m ch x,0):=by
 unfold AA;rw[X5 hk h,Mj hk h];exact afr hk (du ch k x) (po ch k x h)
theorem akG{k m ch:Nat}{x:al}(hk:0<k)(h:E x=k*ch):J6 k m ch (wG k m ch x)=0:=by
 unfold J6;rw[Mu hk h,aw ak,aw];rintro⟨i,_,_,h3⟩;rw[Mu hk h,X5 hk h]at h3;exact h3 rfl
theorem J5(a n:Nat):dF a (List.replicate n true)=[]:=by
 unfold dF;rw[List.filter_eq_nil_iff.2,Ih];intro i hi;simp at hi;simp[hi]
theorem Qt{k m ch:Nat}(hk:0<k):∀(f:Nat) (x out:al) (bad:bf) (a:Nat),E x=f*(k*ch)->rv k m ch f (rs k m ch f x) out bad a=(out++x,bad,0)
 |0,x,out,bad,a,h=>by
  rw[qC]at h;rw[Fu.1 h,rv,gl]
 |f+1,x,out,bad,a,h=>by
  rw[kz,lz]at h;have h1:E (x.take (k*ch))=k*ch:=by rw[eY];omega
  have h2:=vv (m:=m) hk h1;rw[rs,rv,lA h2,mo h2,akG hk h1,aw ak,Mu hk h1,Mj hk h1,J5,gl];simp only;rw[Qt hk f _ _ _ _ ly];have:((tp k m ch (x.take (k*ch))).take k).flatten=x.take (k*ch):=by
   unfold tp;rw[lA (du _ _ _),rJ _ _ _ h1]
  rw[this,bX,jd]
theorem uZ{k m ch:Nat}(hk:0<k):∀(f:Nat) (x:al),E x=f*(k*ch)->E (rs k m ch f x)=f*((k+m)*(ch+4))
 |0,x,h=>by simp[rs]
 |f+1,x,h=>by
  rw[kz,lz]at h;have h1:E (x.take (k*ch))=k*ch:=by rw[eY];omega
  rw[rs,aX,vv hk h1,uZ hk f _ ly,kX f];omega
theorem DT{k ch n:Nat}(h:0<k*ch):n<=lM k ch n*(k*ch):=by
 unfold lM;have:=Nat.div_add_mod (n+k*ch-1) (k*ch);have h2:=rZ (n+k*ch-1) h;rw[jL]at this;omega
theorem ql{k ch:Nat}(h:0<k*ch)(b:al):E (qk k ch b)=lM k ch (E b)*(k*ch):=by
 have:=DT (n:=E b) h;unfold qk;rw[aX,za];omega
theorem ae_{k m ch:Nat}(hk:0<k)(hc:0<ch){b:al}(h:(lZ k m ch b).2=0):jW k m ch (E b) (lZ k m ch b).1=(b,[],0):=by
 have Xe:0<k*ch:=Ik hk hc;unfold lZ at h⊢;split at h
 ·rename_i h1;exact absurd h h1
 ·rename_i h1;rw[aw h1];have hl:=uZ (k:=k) (m:=m) (ch:=ch) hk _ _ (ql Xe b);have hr:ow k m ch (E b) (rs k m ch (lM k ch (E b)) (qk k ch b))=(qk k ch b,[],0):=by
   unfold ow;rw[Qt hk _ _ _ _ _ (ql Xe b),mW]
  unfold jW;rw[aw h1,aw (by simp only;rw[hl];unfold iW;omega),aw (by simp only;rw[hl];unfold iW;omega),hr,aw ak,aw]
  ·simp only;unfold qk;rw[lA rfl]
  ·rintro⟨x,hx,h0⟩;simp only at hx;unfold qk at hx;rw[mo rfl]at hx;exact h0 (List.eq_of_mem_replicate hx)
theorem qG{P:Prop}(h:P:=by(simp[hz])):P:=h
theorem w4:type_of% @List.getElem?_range:= @List.getElem?_range
theorem qK:type_of% @List.pairwise_iff_getElem:= @List.pairwise_iff_getElem
def af'(f:UInt8×al->UInt8):List (UInt8×al)->UInt8
 |[]=>0
 |p::r=>f p ^^^ af' f r
theorem ri{n c:Nat}(hc:c<n):∀(l:List (UInt8×al)) (s:al),E s=n->(∀p∈l,E p.2=n)->
  (l.foldl (λs p=>if p.1=0 then s else rh s p.1 p.2) s).getD c 0=s.getD c 0 ^^^ af' (λp=>gm p.1 (p.2.getD c 0)) l
 |[],s,_,_=>(fg _).symm
 |p::r,s,hs,hl=>by
  rw[aaz,af'];have hp:=hl p ak;by_cases h0:p.1=0
  ·rw[ao h0,ri hc r s hs λq hq=>hl q Nx,h0,gY,pI]
  ·rw[aw h0,ri hc r _ (by rw[pZ aa];exact hs) λq hq=>hl q Nx,E6 aa aa,rW]
theorem Qk{c:Nat}:∀(row:al) (data:ew),E row=E data->
  af' (λp=>gm p.1 (p.2.getD c 0)) (row.zip data)=ls (List.range (E data)) λt=>gm (row.getD t 0) ((data.getD t []).getD c 0)
 |[],[],_=>rfl
 |[],_::_,h=>by simp at h
 |_::_,[],h=>by simp at h
 |x::row,d::data,h=>by
  rw[List.zip_cons_cons,af',Qk row data ng,dI,List.range_succ_eq_map,ls];congr 1;have:∀l:bf,ls (l.map Nat.succ) (λt=>gm ((x::row).getD t 0) (((d::data).getD t []).getD c 0))=ls l λt=>gm (row.getD t 0) ((data.getD t []).getD c 0):=by
   intro l;induction l with
   |nil=>rfl
   |cons y l ih=>rw[kh,ls,ls,ih];rfl
  exact(this _).symm
theorem Q5{n c:Nat}(hc:c<n){row:al}{data:ew}(hr:E row=E data)(h:∀b∈data,E b=n):
  (xV n row data).getD c 0=xs (E data) λt=>gm (row.getD t 0) ((data.getD t []).getD c 0):=by
 unfold xV;rw[ri hc _ _ ak (λp hp=>h _ (List.of_mem_zip hp).2),Qk _ _ hr,ah5];have:(List.replicate n (0:UInt8)).getD c 0=0:=by simp[ba,hc]
 rw[this,pI]
theorem YA{r k n:Nat}{cells:al}{data:ew}{i:Nat}(hi:i<r):(Q4 r k cells data n).getD i []=xV n (iD k cells i) data:=by
 unfold Q4;rw[ba,jw,w4 hi];rfl
theorem S1{α:Type}{d:α}{a b:List α}{i:Nat}(h:i<E a):(a++b).getD i d=a.getD i d:=by
 rw[ba,ba,zk h]
theorem E7{α:Type}{d:α}{a b:List α}{i:Nat}(h:E a<=i):(a++b).getD i d=b.getD (i-E a) d:=by
 rw[ba,ba,rX h]
theorem afX{k m n a c:Nat}{data:ew}(hk:0<k)(vS:k+m<=255)(hd:E data=k)(he:∀b∈data,E b=n)(ha:a<k+m)(hc:c<n):
  ((data++par m data).getD a []).getD c 0=xs k λt=>gm (fG k (jX k m) a t) ((data.getD t []).getD c 0):=by
 by_cases h:a<k
 ·rw[S1 aa];rw[iZ (g:=λt=>if t=a then (data.getD a []).getD c 0 else 0) λt ht=>by
   rw[AM vS ha ht,ao h];by_cases e:a=t
   ·subst e;rw[ao rfl,ao rfl,jc]
   ·rw[aw e,aw (Ne.symm e),gY],x8 a h (λt _ e=>aw e),ao rfl]
 ·rw[E7 aa,hd];unfold par;rw[YA aa,hd,n_ he aa,Q5 hc (by rw[eS (Ek _ _) aa];exact hd.symm) he,hd];refine iZ λt ht=>?_;rw[ko _ _ ht];congr 1;have hm:a*k=k*k+(a-k)*k:=by rw[<-kz];congr 1;omega
  unfold fG jX;rw[E7 ank];unfold Pe;rw[jA];congr 1;omega
theorem zI:∀(l:bf) (a:Nat),l.Pairwise (· < ·)->(∀x∈l,a<=x)->(∀x∈l,x<a+E l)->l=(List.range (E l)).map (a+ ·)
 |[],_,_,_,_=>rfl
 |x::l,a,hp,h1,h2=>by
  have hp':=ky.1 hp;have hx:x=a:=by
   have h3:=h1 x ak;have:∀(l:bf) (b M:Nat),l.Pairwise (· < ·)->(∀y∈l,b<=y)->(∀y∈l,y<M)->b<=M->b+E l<=M:=by
    intro l;induction l with
    |nil=>intro b M _ _ _ h;simpa using h
    |cons y l ih=>
     intro b M hp hb hM _;have hp':=ky.1 hp;have h4:=hb y ak;have h5:=hM y ak;have:=ih (y+1) M hp'.2 (λz hz=>hp'.1 z hz) (λz hz=>hM z qG) aa;rw[dI];omega
   have h6:=this l (x+1) (a+(E l+1)) hp'.2 (λz hz=>hp'.1 z hz) (λz hz=>by have:=h2 z qG;simpa using this) (by have:=h2 x ak;simp only[dI]at this;omega);omega
  subst hx;have ih:=zI l (x+1) hp'.2 (λz hz=>hp'.1 z hz) (λz hz=>by have:=h2 z qG;simp only[dI]at this;omega);rw[dI,List.range_succ_eq_map,kh,sW]
  conv=>lhs;rw[ih]
  simp only[sX,aay,true_and];exact qB λy _=>by simp;omega
theorem afs{k m n:Nat}{data parts:ew}{good:List Bool}(hk:0<k)(vS:k+m<=255)(hd:E data=k)(he:∀b∈data,E b=n)(hg:E good=k+m)(hgk:k<=E (cW (k+m) good))(hp:∀i,i<k+m->good.getD i false=true->parts.getD i []=(data++par m data).getD i []):oX k m parts good=(data++par m data,0):=by
 have hlen:E (data++par m data)=k+m:=by rw[aX,mg,hd]
 have kU:∀b∈data++par m data,E b=n:=λb hb=>by
  rcases dz.1 hb with hb|hb
  ·exact he b hb
  ·exact vk aa he b hb
 have lg:E (cW k good)=k:=by
  unfold cW at hgk⊢;rw[eY]at hgk⊢;omega
 have hP:∀j,ey j parts good=(cW j good).map ((data++par m data).getD · []):=λj=>by
  unfold ey;refine qB λi hi=>?_;obtain⟨h1,h2⟩:=pv i hi;exact hp i aa h2
 have hPe:∀j,∀b∈ey j parts good,E b=n:=λj b hb=>by
  rw[hP]at hb;obtain⟨i,hi,rfl⟩:=pC.1 hb;obtain⟨h1,h2⟩:=pv i hi;refine kU _ ?_;rw[ba,fc aa];exact oT _
 have hD:nk k m parts good=data:=by
  obtain⟨at_,ug⟩:=cK (cW k good);have fN:∀a,a∈at_->a<k+m:=λa ha=>by have:=(pv a (ug▸ha)).1;omega
  have hnd:at_.Nodup:=ug▸sQ k good;unfold nk;rw[<-ug];split
  ·
   obtain⟨b,hb,di,hbi⟩:=ae3 (n:=k) (m:=k9 k (jX k m) at_) (by rw[zD (nO k m) fN,ug,lg]) (Qg vS (ug▸lg) hnd fN);have hmb:PW k m good=b:=by unfold PW;rw[<-ug,hb];rfl
   rw[hmb,n_ (hPe k) (by unfold ey;rw[dX,lg];exact hk)];have Cz:E (ey k parts good)=k:=by unfold ey;rw[dX,lg]
   apply jK
   ·rw[ld,hd]
   ·intro i h1 h2;rw[ld]at h1;have e1:(Q4 k k b (ey k parts good) n)[i]=xV n (iD k b i) (ey k parts good):=by
     rw[<-YA (cells:=b) (n:=n) (data:=ey k parts good) h1,ba,fc (by rw[ld];exact h1)];rfl
    rw[e1];apply jK
    ·rw[G0 (hPe k),he _ (oT _)]
    ·intro c h3 h4;rw[G0 (hPe k)]at h3;have e2:(xV n (iD k b i) (ey k parts good))[c]=(xV n (iD k b i) (ey k parts good)).getD c 0:=by
      rw[ba,fc];rfl
     rw[e2,Q5 h3 (by rw[eS di h1,Cz]) (hPe k),Cz];have e3:xs k (λt=>gm ((iD k b i).getD t 0) (((ey k parts good).getD t []).getD c 0))=xs k λs=>xs k λt=>gm (gm (fG k b i t) (fG k (k9 k (jX k m) at_) t s)) ((data.getD s []).getD c 0):=by
      rw[ah6];refine iZ λt ht=>?_;rw[ko _ _ ht,hP k,<-ug];have e4:(at_.map ((data++par m data).getD · [])).getD t []=(data++par m data).getD (at_.getD t 0) []:=by
       have:t<E at_:=by rw[ug,lg];exact ht
       simp[ba,fc this]
      have hta:at_.getD t 0<k+m:=by
       have:t<E at_:=by rw[ug,lg];exact ht
       rw[ba,fc this];exact fN _ (oT _)
      rw[e4,afX hk vS hd he hta h3,<-x7];refine iZ λs hs=>?_;rw[jr,Em (nO k m) fN (by rw[ug,lg];exact ht) hs]
     rw[e3,iZ (g:=λs=>if s=i then (data.getD i []).getD c 0 else 0) λs hs=>by
      rw[alG,hbi i h1 s hs];by_cases e:i=s
      ·subst e;rw[ao rfl,ao rfl,jc]
      ·rw[aw e,aw (Ne.symm e),gY],x8 i h1 (λt _ e=>aw e),ao rfl]
     simp[ba,h2,fc h4]
  ·rename_i h;have hl:at_.getD (k-1) 0=k-1:=bA h;have hsr:at_.Pairwise (· < ·):=by rw[ug];exact(List.pairwise_lt_range.filter _).sublist (wZ _ _)
   have Xf:∀x∈at_,x<0+E at_:=λx hx=>by
    obtain⟨i,hi,rfl⟩:=ke hx;have h5:E at_=k:=by rw[ug,lg]
    rw[ba,fc aa]at hl;simp only[uX]at hl;by_cases h6:i=k-1
    ·subst h6;omega
    ·have:=qK.1 hsr i (k-1) hi aa aa;omega
   have hr:=zI at_ 0 hsr (λ_ _=>bU _) Xf;rw[hP k,<-ug,hr,show E at_=k by rw[ug,lg]];have:((List.range k).map (0+ ·)).map ((data++par m data).getD · [])=(data++par m data).take k:=by
    rw[<-w_ _ aa,sW];exact qB λi _=>by simp
   rw[this];exact lA hd
 unfold oX;have av8:E (ey (k+m) parts good)=E (cW (k+m) good):=by unfold ey;rw[dX]
 rw[aw,aw aa,hD];intro h;exact h λb hb=>by rw[hPe _ b hb,n_ (hPe _) aa]
theorem IN{P:Prop}(h:P:=by(simp[h])):P:=h
theorem VX{P:Prop}(h:P:=by(rw[hlen];exact c)):P:=h
theorem zb:type_of% @List.length_filter_le:= @List.length_filter_le
theorem oi:type_of% @List.drop_drop:= @List.drop_drop
theorem qL:type_of% @List.getElem_map:= @List.getElem_map
theorem JJ:type_of% @List.length_zip:= @List.length_zip
theorem mT:type_of% @Nat.mul_assoc:= @Nat.mul_assoc
def P8(p m:Nat):Nat->Nat->List (al×al)->Prop
 |_,_,[]=>True
 |i,n,q::r=>if q.1=q.2 then P8 p m (i+1) (if i%p=0 then 0 else n) r
  else (aH q.2).2≠0∧(if i%p=0 then 0 else n)+1<=m∧P8 p m (i+1) ((if i%p=0 then 0 else n)+1) r
def Ez(l:List (al×al)):Nat:=E (l.filter λq=>decide (q.1≠q.2))
def apD(l:List (al×al)):Prop:=∀q∈l,q.1≠q.2->(aH q.2).2≠0
theorem KY{q:al×al}(h:q.1=q.2)(l:List (al×al)):Ez (q::l)=Ez l:=by
 unfold Ez;rw[List.filter_cons_of_neg IN]
theorem KZ{q:al×al}(h:q.1≠q.2)(l:List (al×al)):Ez (q::l)=Ez l+1:=by
 unfold Ez;rw[List.filter_cons_of_pos IN,dI]
theorem Ui{p m i n:Nat}{q:al×al}{r:List (al×al)}(h:q.1=q.2):P8 p m i n (q::r)=P8 p m (i+1) (if i%p=0 then 0 else n) r:=by
 rw[P8,ao h]
theorem Uj{p m i n:Nat}{q:al×al}{r:List (al×al)}(h:q.1≠q.2):P8 p m i n (q::r)=((aH q.2).2≠0∧(if i%p=0 then 0 else n)+1<=m∧P8 p m (i+1) ((if i%p=0 then 0 else n)+1) r):=by
 rw[P8,aw h]
theorem DM{p m:Nat}:∀(l r:List (al×al)) (i n:Nat),(∀j,i<=j->j<i+E l->j%p≠0)->P8 p m i n (l++r)->
  apD l∧(Ez l=0∨n+Ez l<=m)∧∃n',P8 p m (i+E l) n' r
 |[],r,i,n,_,h=>⟨λq hq=>by simp at hq,.inl rfl,n,h⟩
 |q::l,r,i,n,hj,h=>by
  have h0:i%p≠0:=hj i (gC _) ak;have hj':∀j,i+1<=j->j<i+1+E l->j%p≠0:=λj h1 h2=>hj j aa (by rw[dI];omega);have hlen:i+E (q::l)=i+1+E l:=by rw[dI];omega
  rw[mX]at h;by_cases hq:q.1=q.2
  ·rw[Ui hq,aw h0]at h;obtain⟨a,b,c⟩:=DM l r (i+1) n hj' h;refine⟨?_,by rw[KY hq];exact b,VX⟩;intro z hz oh;rcases fj.1 hz with rfl|hz
   ·exact absurd hq oh
   ·exact a z hz oh
  ·rw[Uj hq,aw h0]at h;obtain⟨h1,h2,h3⟩:=h;obtain⟨a,b,c⟩:=DM l r (i+1) (n+1) hj' h3;refine⟨?_,by rw[KZ hq];omega,VX⟩;intro z hz oh;rcases fj.1 hz with rfl|hz
   ·exact h1
   ·exact a z hz oh
theorem aki{p m:Nat}:∀(l r:List (al×al)) (i n:Nat),0<p->E l=p->i%p=0->P8 p m i n (l++r)->
  apD l∧Ez l<=m∧∃n',P8 p m (i+p) n' r
 |[],r,i,n,hp,hl,_,_=>by simp at hl;omega
 |q::l,r,i,n,hp,hl,h0,h=>by
  rw[dI]at hl;have hj':∀j,i+1<=j->j<i+1+E l->j%p≠0:=λj h1 h2=>by
   obtain⟨d,rfl⟩:∃d,j=i+d:=⟨j-i,aa⟩
   rw[Nat.add_mod,h0,lV,Nat.mod_mod,jh aa];omega
  have hlen:i+p=i+1+E l:=by omega
  rw[mX]at h;by_cases hq:q.1=q.2
  ·rw[Ui hq,ao h0]at h;obtain⟨a,b,c⟩:=DM l r (i+1) 0 hj' h;refine⟨?_,by rw[KY hq];omega,VX⟩;intro z hz oh;rcases fj.1 hz with rfl|hz
   ·exact absurd hq oh
   ·exact a z hz oh
  ·rw[Uj hq,ao h0]at h;obtain⟨h1,h2,h3⟩:=h;obtain⟨a,b,c⟩:=DM l r (i+1) (0+1) hj' h3;refine⟨?_,by rw[KZ hq];omega,VX⟩;intro z hz oh;rcases fj.1 hz with rfl|hz
   ·exact h1
   ·exact a z hz oh
theorem WV:∀l:List (al×al),(∀q∈l,(aH q.1).2=0)->E l<=Ez l+E ((l.map λq=>decide ((aH q.2).2=0)).filter id)
 |[],_=>bU _
 |q::l,h=>by
  have ih:=WV l λz hz=>h z qG;rw[kh,dI];by_cases hq:q.1=q.2
  ·have:(aH q.2).2=0:=hq▸h q ak;rw[KY hq,List.filter_cons_of_pos (by simp[this]),dI];omega
  ·rw[KZ hq];have:E ((l.map λq=>decide ((aH q.2).2=0)).filter id)<=E ((decide ((aH q.2).2=0)::l.map λq=>decide ((aH q.2).2=0)).filter id):=
    ((List.sublist_cons_self _ _).filter _).length_le
   omega
theorem ad2(l:List Bool):(List.range (E l)).map (l.getD · false)=l:=by
 apply jK
 ·simp
 ·intro i h1 h2;simp at h1;simp[h1]
theorem ad1{good:List Bool}{n:Nat}(h:E good=n):E (cW n good)=E (good.filter id):=by
 have e:E (good.filter id)=E ((List.range (E good)).filter λi=>good.getD i false):=by
  conv=>lhs;rw[<-ad2 good,List.filter_map,dX]
  rfl
 unfold cW;rw[e,eY];have:=zb (λi=>good.getD i false) (List.range (E good));rw[uR]at this;omega
theorem Lo(c:Nat):∀(p:Nat) (x:al),fI c p x=fI c p (x.take (p*c))
 |0,_=>rfl
 |p+1,x=>by
  rw[fI,fI,kz,lz,LS,xH aa,Lo c p (x.drop c),LP,uS]
theorem SX(c:Nat):∀(p r:Nat) (x:al),fI c (p+r) x=fI c p x++fI c r (x.drop (p*c))
 |0,r,x=>by rw[lV,qC,rr];rfl
 |p+1,r,x=>by
  rw[show p+1+r=p+r+1 by omega,fI,fI,SX c p r (x.drop c),oi,mX,kz,lz,zn c]
theorem SZ(c:Nat):∀(p:Nat) (x:al) (i:Nat) (h:i<E (fI c p x)),(fI c p x)[i]=(x.drop (i*c)).take c
 |0,x,i,h=>by simp[fI]at h
 |p+1,x,0,h=>by simp[fI]
 |p+1,x,i+1,h=>by
  have:=SZ c p (x.drop c) i (by simpa[fI]using h);rw[oi]at this;simp only[fI,List.getElem_cons_succ];rw[this,kz,lz,zn c]
theorem Ln{α:Type}{l:List α}{d:α}{i:Nat}(h:i<E l):l.getD i d=l[i]:=by
 rw[ba,fc h];rfl
theorem ak0{k m ch:Nat}{x s:al}(hk:0<k)(vS:k+m<=255)(hx:E x=k*ch)(hs:E s=(k+m)*(ch+4))(h1:apD ((fI (ch+4) (k+m) (wG k m ch x)).zip (fI (ch+4) (k+m) s)))(h2:Ez ((fI (ch+4) (k+m) (wG k m ch x)).zip (fI (ch+4) (k+m) s))<=m):
  AA k m ch s=(tp k m ch x,0)∧J6 k m ch s=0∧∀a,dF a (Az k m ch s)=[]↔s=wG k m ch x:=by
 obtain⟨X,hX⟩:=cK (fI (ch+4) (k+m) (wG k m ch x));obtain⟨Y,hY⟩:=cK (fI (ch+4) (k+m) s);have lX:E X=k+m:=by rw[hX,du]
 have lY:E Y=k+m:=by rw[hY,du]
 have eX:X=(tp k m ch x).map cv:=by rw[hX];exact AO hk hx
 have lP:=qY k m ch x;rw[<-hX,<-hY]at h1 h2;have hG:Az k m ch s=Y.map λc=>decide ((aH c).2=0):=by unfold Az;rw[hY]
 have lG:E (Az k m ch s)=k+m:=by rw[hG,dX,lY]
 have Ju:∀i,(h:i<k+m)->(Az k m ch s).getD i false=true->Y[i]'aa=X[i]'aa:=λi h hg=>by
  rw[Ln aa]at hg;simp only[hG,qL,JH]at hg;refine bA λoh=>?_;have hm:(X[i]'aa,Y[i]'aa)∈X.zip Y:=by
   have hz:i<E (X.zip Y):=by rw[JJ];omega
   have:(X.zip Y)[i]=(X[i]'aa,Y[i]'aa):=List.getElem_zip;rw[<-this];exact oT hz
  exact h1 _ hm (λe=>oh e.symm) hg
 have hp:∀i,i<k+m->(Az k m ch s).getD i false=true->(rdP k m ch s).getD i []=(tp k m ch x).getD i []:=λi h hg=>by
  have e:=Ju i h hg;have hi:i<E (rdP k m ch s):=by unfold rdP;rw[dX,du];exact h
  rw[Ln hi,Ln aa];have e2:(rdP k m ch s)[i]=(aH (Y[i]'aa)).1:=by simp only[rdP,qL,hY]
  have e3:X[i]'aa=cv ((tp k m ch x)[i]'aa):=by simp only[eX,qL]
  rw[e2,e,e3,iq]
 have Th:k<=E (cW (k+m) (Az k m ch s)):=by
  rw[ad1 lG];have e:((X.zip Y).map λq=>decide ((aH q.2).2=0))=Az k m ch s:=by
   rw[hG]
   conv=>rhs;rw[<-List.map_snd_zip (l₁:=X) (l₂:=Y) aa,sW]
   rfl
  have:=WV (X.zip Y) λq hq=>by
   have:q.1∈X:=(List.of_mem_zip hq).1;rw[eX]at this;obtain⟨z,_,hz⟩:=pC.1 this;rw[<-hz,iq]
  rw[e,JJ]at this;omega
 have hsr:AA k m ch s=(tp k m ch x,0):=afs hk vS (du ch k x) (po ch k x hx) lG Th hp;refine⟨hsr,?_,λa=>⟨λhb=>?_,λhb=>?_⟩⟩
 ·unfold J6;rw[hsr,aw ak,aw];rintro⟨i,q1,q2,q3⟩;rw[hsr]at q1 q3;simp only at q1 q3;exact q3 (hp i aa q2).symm
 ·have kU:∀i,i<k+m->(Az k m ch s).getD i false=true:=λi hi=>by
   unfold dF at hb;have h3:=List.filter_eq_nil_iff.1 (List.map_eq_nil_iff.1 hb) i (pj.2 aa);simpa using h3
  have eXY:Y=X:=by
   apply jK
   ·omega
   ·intro i q1 q2;exact Ju i aa (kU i aa)
  rw[<-rJ (ch+4) (k+m) s hs,<-rJ (ch+4) (k+m) (wG k m ch x) (vv hk hx),<-hX,<-hY,eXY]
 ·rw[hb,Mj hk hx];exact J5 _ _
theorem Qs{k m ch:Nat}(hk:0<k)(vS:k+m<=255):∀(f:Nat) (x s out:al) (bad:bf) (a i n:Nat),E x=f*(k*ch)->E s=f*((k+m)*(ch+4))->i%(k+m)=0->
  P8 (k+m) m i n ((fI (ch+4) (f*(k+m)) (rs k m ch f x)).zip (fI (ch+4) (f*(k+m)) s))->
  ∃B,rv k m ch f s out bad a=(out++x,bad++B,0)∧(B=[]↔s=rs k m ch f x)
 |0,x,s,out,bad,a,i,n,hx,hs,_,_=>by
  rw[qC]at hx hs;rw[Fu.1 hx,Fu.1 hs];exact⟨[],by rw[rv,gl,gl],λ_=>rfl,λ_=>rfl⟩
 |f+1,x,s,out,bad,a,i,n,hx,hs,hi,h=>by
  rw[kz,lz]at hx hs;have h1:E (x.take (k*ch))=k*ch:=by rw[eY];omega
  have h2:E (s.take ((k+m)*(ch+4)))=(k+m)*(ch+4):=by rw[eY];omega
  have h3:=vv (m:=m) hk h1;have hx':E (x.drop (k*ch))=f*(k*ch):=by rw[iG];omega
  have Au:E (s.drop ((k+m)*(ch+4)))=f*((k+m)*(ch+4)):=by rw[iG];omega
  rw[show(f+1)*(k+m)=(k+m)+f*(k+m) by rw[kz,lz];omega,SX (ch+4) (k+m) (f*(k+m)),SX (ch+4) (k+m) (f*(k+m)) s,rs,mo h3,List.zip_append (by rw[du,du])]at h;rw[Lo _ _ (wG _ _ _ _++_),lA h3,Lo _ _ s]at h;obtain⟨g1,g2,n',g3⟩:=aki _ _ _ _ aa (by rw[JJ,du,du,Nat.min_self]) hi h;obtain⟨e1,e2,e3⟩:=ak0 hk vS h1 h2 g1 g2;obtain⟨B,b1,b2⟩:=Qs hk vS f (x.drop (k*ch)) (s.drop ((k+m)*(ch+4))) (out++x.take (k*ch)) (bad++dF a (Az k m ch (s.take ((k+m)*(ch+4))))) (a+(k+m)) (i+(k+m)) n' hx' Au
   (by rw[Nat.add_mod_right];exact hi) g3
  have e4:((tp k m ch (x.take (k*ch))).take k).flatten=x.take (k*ch):=by
   unfold tp;rw[lA (du _ _ _),rJ _ _ _ h1]
  refine⟨dF a (Az k m ch (s.take ((k+m)*(ch+4))))++B,?_,?_⟩
  ·rw[rv,e2,aw ak,e1];simp only;rw[e4,b1,bX,jd,bX]
  ·rw[List.append_eq_nil_iff,e3,b2,rs];constructor
   ·rintro⟨p1,p2⟩;rw[<-p1,<-p2,jd]
   ·intro p;rw[p,lA h3,mo h3];exact⟨rfl,rfl⟩
theorem ajU{k m ch:Nat}(hk:0<k)(vS:k+m<=255)(hc:0<ch){b s:al}(h:(lZ k m ch b).2=0)(hs:E s=E (lZ k m ch b).1)(hd:P8 (k+m) m 0 0 ((fI (ch+4) (E s/(ch+4)) (lZ k m ch b).1).zip (fI (ch+4) (E s/(ch+4)) s))):
  ∃B,jW k m ch (E b) s=(b,B,0)∧(B=[]↔s=(lZ k m ch b).1):=by
 have Xe:0<k*ch:=Ik hk hc;unfold lZ at h hs hd⊢;split at h
 ·rename_i h1;exact absurd h h1
 ·rename_i h1;rw[aw h1]at hs hd⊢;simp only at hs hd⊢;have hl:=uZ (k:=k) (m:=m) (ch:=ch) hk _ _ (ql Xe b);rw[hl]at hs;have hT:E s/(ch+4)=lM k ch (E b)*(k+m):=by
   rw[hs,<-mT];exact Nat.mul_div_cancel _ aa
  rw[hT]at hd;obtain⟨B,b1,b2⟩:=Qs hk vS (lM k ch (E b)) (qk k ch b) s [] [] 0 0 0 (ql Xe b) hs (Nat.zero_mod _) hd;have hr:ow k m ch (E b) s=(qk k ch b,B,0):=by
   unfold ow;rw[b1,mW,mW]
  refine⟨B,?_,b2⟩;unfold jW;rw[aw h1,aw (by rw[hs];unfold iW;omega),aw (by rw[hs];unfold iW;omega),hr,aw ak,aw]
  ·simp only;unfold qk;rw[lA rfl]
  ·rintro⟨x,hx,h0⟩;simp only at hx;unfold qk at hx;rw[mo rfl]at hx;exact h0 (List.eq_of_mem_replicate hx)
theorem Po:type_of% @List.countP_le_length:= @List.countP_le_length
theorem CG:type_of% @List.countP_cons:= @List.countP_cons
theorem gJ:type_of% @Nat.pow_le_pow_right:= @Nat.pow_le_pow_right
def num(l:al)(k:Nat):Nat:=l.countP λc=>c.toNat==k
def uz(l:al):List Int:=(List.range 16).map λk=>((num l k:Nat):Int)
@[simp] theorem alP(l:al):E (uz l)=16:=by simp[uz]
theorem Eo(l:al){k:Nat}(h:k<16):(uz l).getD k 0=(num l k:Int):=by
 simp[uz,List.getD,h]
theorem xK(l:al)(k:Nat):num l k<=E l:=Po
theorem F9(l:al)(c:UInt8)(k:Nat):num (l++[c]) k=num l k+if c.toNat=k then 1 else 0:=by
 unfold num;rw[List.countP_append,CG,List.countP_nil];simp
theorem zA(l:al)(c:UInt8)(k:Nat):num (c::l) k=num l k+if c.toNat=k then 1 else 0:=by
 unfold num;rw[CG];simp
theorem ac'{l:al}{c:UInt8}(hc:c.toNat<16):(uz l).set c.toNat ((uz l).getD c.toNat 0+1)=uz (l++[c]):=by
 rw[Eo l hc];apply jK
 ·simp
 ·intro i h1 h2;have hi:i<16:=by simpa using h2
  by_cases e:c.toNat=i
  ·subst e;simp[uz,F9]
  ·simp[uz,F9,e]
theorem aiU:uz []=List.replicate 16 0:=by decide
def xQ(b:List Int):Nat->Int
 |0=>0
 |k+1=>xQ b k+if k=0 then 0 else b.getD k 0*2^(15-k)
def uA(b:List Int):Nat->Int
 |0=>0
 |k+1=>uA b k+if k=0 then 0 else b.getD k 0
theorem abz(b:List Int){k:Nat}(hk:1<=k):xQ b (k+1)=xQ b k+b.getD k 0*2^(15-k):=by
 conv=>lhs;unfold xQ
 rw[aw aa]
theorem Zl(b:List Int){k:Nat}(hk:1<=k):uA b (k+1)=uA b k+b.getD k 0:=by
 conv=>lhs;unfold uA
 rw[aw aa]
def Few(b:List Int):Prop:=E b=16∧∀i,0<=b.getD i 0∧b.getD i 0<=300
theorem Few.sum{b:List Int}(h:Few b):∀k,0<=xQ b k∧xQ b k<=k*9830400
 |0=>by simp[xQ]
 |k+1=>by
  have ih:=h.sum k;have hb:=h.2 k;unfold xQ;split
  ·omega
  ·have h2:(2:Int)^(15-k)<=2^15:=by
    have:(2:Nat)^(15-k)<=2^15:=gJ aa aa
    exact_mod_cast this
   have h3:(0:Int)<2^(15-k):=Int.pow_pos aa;have h4:0<=b.getD k 0*2^(15-k):=Int.mul_nonneg hb.1 aa;have h5:b.getD k 0*2^(15-k)<=300*2^15:=Int.mul_le_mul hb.2 h2 aa aa;omega
theorem Few.sB{b:List Int}(h:Few b):∀k,0<=uA b k∧uA b k<=k*300
 |0=>by simp[uA]
 |k+1=>by
  have ih:=h.sB k;have hb:=h.2 k;unfold uA;split<;>omega
theorem Lh{l:al}(h:E l<=300):Few (uz l):=by
 refine⟨ak,λi=>?_⟩;by_cases hi:i<16
 ·rw[Eo l hi];have:=xK l i;omega
 ·simp[List.getD,show(uz l)[i]? =none from Bv bT]
theorem WK{b:List Int}(h:Few b)(i:Nat){x:Int}(hx:0<=x∧x<=300):Few (b.set i x):=by
 refine⟨by simpa using h.1,λj=>?_⟩;by_cases e:i=j
 ·subst e;by_cases hi:i<E b
  ·simp[List.getD,hi,hx]
  ·simp[List.getD,hi]
 ·have:=h.2 j;simpa[List.getD,e]using this
def rK(l:al):List Int:=(uz l).set 0 0
theorem dg(l:al){k:Nat}(h:k<16)(h0:k≠0):(rK l).getD k 0=(num l k:Int):=by
 rw[<-Eo l h];simp[rK,List.getD,Ne.symm h0]
def Fit(l:al):Prop:=E l<=300∧∀c∈l,c.toNat<=15
instance (l:List UInt8):Decidable (Fit l):=inferInstanceAs (Decidable (_∧_))
def Good(l:al):Prop:=Fit l∧(uA (rK l) 16=0∨xQ (rK l) 16=32768∨uA (rK l) 16=1∧(rK l).getD 1 0=1)
instance (l:List UInt8):Decidable (Good l):=inferInstanceAs (Decidable (_∧_))
theorem ad8{l:al}(h:Fit l):Good l↔(uA (rK l) 16=0∨xQ (rK l) 16=32768∨uA (rK l) 16=1∧(rK l).getD 1 0=1):=⟨λg=>g.2,λg=>⟨h,g⟩⟩
theorem OE{l:al}(h:Fit l):Few (rK l):=WK (Lh h.1) 0 aa
def chk(l:al):Int:=if Good l then 0 else 7
def qO:al->Nat
 |[]=>0
 |c::r=>(if c.toNat=0 then 0 else 2^(15-c.toNat))+qO r
def nz(l:al):Nat:=l.countP λc=>c.toNat != 0
theorem TO(l:al)(c:UInt8):qO (l++[c])=qO l+if c.toNat=0 then 0 else 2^(15-c.toNat):=by
 induction l with
 |nil=>simp[qO]
 |cons x r ih=>simp only[mX,qO,ih];omega
theorem DK(l:al)(c:UInt8):nz (c::l)=nz l+if c.toNat=0 then 0 else 1:=by
 unfold nz;rw[CG];by_cases h:c.toNat=0<;>simp[h]
theorem ak1(l:al):xQ (rK l) 16=(num l 1*16384+num l 2*8192+num l 3*4096+num l 4*2048+num l 5*1024+num l 6*512+num l 7*256+num l 8*128+num l 9*64+num l 10*32+num l 11*16+num l 12*8+num l 13*4+num l 14*2+num l 15:Nat):=by
 simp only[xQ,dg l (show 1<16 by omega) aa,dg l (show 2<16 by omega) aa,dg l (show 3<16 by omega) aa,dg l (show 4<16 by omega) aa,dg l (show 5<16 by omega) aa,dg l (show 6<16 by omega) aa,dg l (show 7<16 by omega) aa,dg l (show 8<16 by omega) aa,dg l (show 9<16 by omega) aa,dg l (show 10<16 by omega) aa,dg l (show 11<16 by omega) aa,dg l (show 12<16 by omega) aa,dg l (show 13<16 by omega) aa,dg l (show 14<16 by omega) aa,dg l (show 15<16 by omega) aa];simp
theorem aiT(l:al):uA (rK l) 16=(num l 1+num l 2+num l 3+num l 4+num l 5+num l 6+num l 7+num l 8+num l 9+num l 10+num l 11+num l 12+num l 13+num l 14+num l 15:Nat):=by
 simp only[uA,dg l (show 1<16 by omega) aa,dg l (show 2<16 by omega) aa,dg l (show 3<16 by omega) aa,dg l (show 4<16 by omega) aa,dg l (show 5<16 by omega) aa,dg l (show 6<16 by omega) aa,dg l (show 7<16 by omega) aa,dg l (show 8<16 by omega) aa,dg l (show 9<16 by omega) aa,dg l (show 10<16 by omega) aa,dg l (show 11<16 by omega) aa,dg l (show 12<16 by omega) aa,dg l (show 13<16 by omega) aa,dg l (show 14<16 by omega) aa,dg l (show 15<16 by omega) aa];simp
theorem sa:∀l:al,(∀c∈l,c.toNat<=15)->qO l=num l 1*16384+num l 2*8192+num l 3*4096+num l 4*2048+num l 5*1024+num l 6*512+num l 7*256+num l 8*128+num l 9*64+num l 10*32+num l 11*16+num l 12*8+num l 13*4+num l 14*2+num l 15∧
  nz l=num l 1+num l 2+num l 3+num l 4+num l 5+num l 6+num l 7+num l 8+num l 9+num l 10+num l 11+num l 12+num l 13+num l 14+num l 15
 |[],_=>by simp[qO,nz,num]
 |c::r,h=>by
  have ih:=sa r λx hx=>h x oR;have hc:=h c ak;simp only[qO,DK,zA,ih.1,ih.2];have lf:c.toNat=0∨c.toNat=1∨c.toNat=2∨c.toNat=3∨c.toNat=4∨c.toNat=5∨c.toNat=6∨c.toNat=7∨c.toNat=8∨c.toNat=9∨c.toNat=10∨c.toNat=11∨c.toNat=12∨c.toNat=13∨c.toNat=14∨c.toNat=15:=by omega
  generalize c.toNat=x at lf;rcases lf with h|h|h|h|h|h|h|h|h|h|h|h|h|h|h|h<;>subst h<;>simp<;>omega
theorem abA{l:al}(h:Fit l):xQ (rK l) 16=(qO l:Int):=by rw[ak1,(sa l h.2).1]
theorem anx{l:al}(h:Fit l):uA (rK l) 16=(nz l:Int):=by rw[aiT,(sa l h.2).2]
theorem E_{l:al}(h:Fit l):Good l↔(nz l=0∨nz l=1∧num l 1=1)∨qO l=32768:=by
 unfold Good;rw[abA h,anx h,dg l aa aa];constructor
 ·rintro⟨_,h|h|h⟩<;>omega
 ·rintro((h'|h')|h')<;>exact⟨h,aa⟩
end Go.Proofs.YtaodmbolhoafcaaGreatDoor
