/-
  Texts of one proof, joined: part 1. No condition.
-/
import Derived.WalkKit
import Derived.WalkLawsBesides
import Derived.WalkSpells
import Derived.Below
import Derived.Laws.OwnMore
import Derived.Deep.AppendLies
import Derived.Deep.Draws
import Derived.Maps.AppendAt
import Derived.Lib.Hide
import Derived.Laws.BytesArg
import Derived.Deep.QuietTactic
import Derived.BigQuiet
import Derived.Deep.LoopGhost
open List renaming length→E
namespace Go.Proofs.YtaodmbolhoafcaaGreatDoor
open Go.RowKit
set_option linter.unusedVariables false
set_option linter.unusedSimpArgs false
set_option maxRecDepth 20000
section
theorem ak{P:Prop}(h:P:=by(simp)):P:=h
theorem aa{P:Prop}(h:P:=by(omega)):P:=h
theorem wM{P:Prop}(h:P:=by(simpa using hl)):P:=h
theorem Cl{P:Prop}(h:P:=by(unfold maxLen;omega)):P:=h
theorem bT{P:Prop}(h:P:=by(simp;omega)):P:=h
theorem pC:type_of% @List.mem_map:= @List.mem_map
theorem Pk:type_of% @Nat.add_assoc:= @Nat.add_assoc
theorem gC:type_of% @Nat.le_refl:= @Nat.le_refl
theorem k_3:type_of% @Array.getElem?_eq_some_iff:= @Array.getElem?_eq_some_iff
theorem fc:type_of% @List.getElem?_eq_getElem:= @List.getElem?_eq_getElem
theorem iG:type_of% @List.length_drop:= @List.length_drop
theorem aw:type_of% @if_neg:= @if_neg
theorem k_7:type_of% @List.getElem?_drop:= @List.getElem?_drop
theorem eY:type_of% @List.length_take:= @List.length_take
theorem xH:type_of% @Nat.min_eq_left:= @Nat.min_eq_left
theorem ph:type_of% @Nat.mul_le_mul_right:= @Nat.mul_le_mul_right
theorem If:type_of% @List.getElem?_take:= @List.getElem?_take
theorem xF:type_of% @Nat.eq_zero_or_pos:= @Nat.eq_zero_or_pos
theorem mS:type_of% @List.eq_nil_of_length_eq_zero:= @List.eq_nil_of_length_eq_zero
theorem Pn:type_of% @World.grownBy.refl:= @World.grownBy.refl
theorem jk:type_of% @run_underlying:= @run_underlying
theorem LK:type_of% @Sem.run_bind:= @Sem.run_bind
theorem Ig:type_of% @Sem.run_pure:= @Sem.run_pure
theorem uV:type_of% @Result.andThen_ok:= @Result.andThen_ok
theorem kh:type_of% @List.map_cons:= @List.map_cons
theorem Ih:type_of% @List.map_nil:= @List.map_nil
theorem jz:type_of% @Nat.le_trans:= @Nat.le_trans
theorem Bt:type_of% @List.replicate_succ:= @List.replicate_succ
theorem sW:type_of% @List.map_map:= @List.map_map
theorem qB:type_of% @List.map_congr_left:= @List.map_congr_left
theorem uW:type_of% @Nat.lt_or_ge:= @Nat.lt_or_ge
theorem FD:type_of% @heap_alloc_new:= @heap_alloc_new
abbrev tx:=List Oper
abbrev bf:=List Nat
abbrev cZ:=List Value
abbrev bk:=Option Addr
abbrev al:=List UInt8
abbrev ew:=List (List UInt8)
theorem cK{α:Type}(e:α):∃x,x=e:=⟨e,rfl⟩
def bv(l:al):cZ:=l.map λb=>.int .u8 (b.toNat:Int)
@[simp] theorem atT:bv []=[]:=rfl
@[simp] theorem gF(l k:al):bv (l++k)=bv l++bv k:=by simp[bv]
@[simp] theorem IX(l:al):E (bv l)=E l:=by simp[bv]
theorem ra(l:al):∀u∈bv l,u.oneCell'=true:=by
 intro u hu;obtain⟨b,_,rfl⟩:=pC.1 hu;rfl
theorem sJ(a:Addr)(n:Nat):(a.add n).block=a.block:=by unfold Addr.add;split<;>rfl
theorem l_(a:Addr)(i j:Nat):(a.add i).add j=a.add (i+j):=by
 unfold Addr.add;by_cases hi:i=0<;>by_cases hj:j=0<;>simp[hi,hj,Pk]
def Rd(w:World)(B size:Nat)(v:Value)(n:Nat)(xs:cZ):Prop:=
 ∃A c,v= .slice A n c∧n<=c∧E xs=n*size∧(0<n->∃ad,A=some ad∧ad.block<B∧∀j u,xs[j]? =some u->w.cell? (ad.add j)=some u)
section
variable{w w':World}{B B' size n:Nat}{v:Value}{xs:cZ}
theorem Rd.BI:Rd w B size (.slice none 0 0) 0 []:=⟨none,0,rfl,gC _,ak,λh=>absurd h aa⟩
theorem Rd.keep(h:Rd w B size v n xs)(hk:∀p:Addr,p.block<B->w'.cell? p=w.cell? p):Rd w' B size v n xs:=by
 obtain⟨A,c,rfl,hc,hl,hr⟩:=h;refine⟨A,c,rfl,hc,hl,λhn=>?_⟩;obtain⟨ad,e,hb,fL⟩:=hr hn;exact⟨ad,e,hb,λj u hu=>(hk _ (by rw[sJ];exact hb)).trans (fL j u hu)⟩
theorem Rd.more(h:Rd w B size v n xs)(hB:B<=B'):Rd w B' size v n xs:=by
 obtain⟨A,c,rfl,hc,hl,hr⟩:=h;refine⟨A,c,rfl,hc,hl,λhn=>?_⟩;obtain⟨ad,e,hb,fL⟩:=hr hn;exact⟨ad,e,aa,fL⟩
theorem Rd.below(h:Rd w B size v n xs)(hb:Below B w w'):Rd w' B size v n xs:=h.keep λ_ hp=>hb.cell hp
theorem Rd.BK{base:Nat}{e:TypeId}(h:w.ownsRow base e size v n xs):Rd w w.heap.size size v n xs:=by
 rcases h.2 with⟨rfl,rfl⟩|⟨g,cap,cur,rfl,hb,hg,hnc,hm,hs,ht⟩
 ·exact⟨none,0,rfl,gC _,h.1,λh=>absurd h aa⟩
 ·refine⟨_,cap,rfl,hnc,h.1,λhn=>⟨_,rfl,?_,h.cells (g:=g) rfl⟩⟩;exact(k_3.1 hg).1
end
theorem Rd.aiI{w:World}{B n c:Nat}{A:bk}{l:al}(h:Rd w B 1 (.slice A n c) n (bv l)){k:Nat}(hk:k<n):
  ∃ad u,A=some ad∧ad.block<B∧l[k]? =some u∧w.cell? (ad.add k)=some (.int .u8 ((u:UInt8).toNat:Int)):=by
 obtain⟨A',c',hv,hc,hl,hr⟩:=h;simp only[Value.slice.injEq]at hv;obtain⟨rfl,_,rfl⟩:=hv;obtain⟨ad,rfl,hb,fL⟩:=hr aa;simp at hl;have hx:l[k]? =some (l[k]'aa):=fc aa;exact⟨ad,_,rfl,hb,hx,fL k _ (by simp[bv,hx])⟩
theorem Rd.aoD{w:World}{B n:Nat}{v:Value}{l:al}(h:Rd w B 1 v n (bv l)):E l=n:=by
 obtain⟨_,_,_,_,hl,_⟩:=h;simpa using hl
theorem Rd.form{w:World}{B n size:Nat}{v:Value}{xs:cZ}(h:Rd w B size v n xs):∃A c,v= .slice A n c∧n<=c:=by
 obtain⟨A,c,hv,hc,_⟩:=h;exact⟨A,c,hv,hc⟩
theorem Rd.cut{w:World}{B n c k size:Nat}{A:bk}{xs:cZ}(h:Rd w B size (.slice A n c) n xs)(hk:k<=n):
  Rd w B size (.slice (if c=k then A else A.map (·.add (k*size))) (n-k) (c-k)) (n-k) (xs.drop (k*size)):=by
 obtain⟨A',c',hv,hc,hl,hr⟩:=h;simp only[Value.slice.injEq]at hv;obtain⟨rfl,_,rfl⟩:=hv;refine⟨_,_,rfl,aa,by rw[iG,hl,Nat.sub_mul],λhn=>?_⟩;obtain⟨ad,rfl,hb,fL⟩:=hr aa;rw[aw aa];refine⟨ad.add (k*size),rfl,by rw[sJ];exact hb,λj u hu=>?_⟩;rw[l_];exact fL _ u (by rw[<-hu,k_7])
theorem Rd.jv{w:World}{B n c k size:Nat}{A:bk}{xs:cZ}(h:Rd w B size (.slice A n c) n xs)(hk:k<=n):
  Rd w B size (.slice A k c) k (xs.take (k*size)):=by
 obtain⟨A',c',hv,hc,hl,hr⟩:=h;simp only[Value.slice.injEq]at hv;obtain⟨rfl,_,rfl⟩:=hv;refine⟨_,_,rfl,aa,by rw[eY,hl];exact xH (ph _ hk),λhn=>?_⟩;obtain⟨ad,rfl,hb,fL⟩:=hr aa;refine⟨ad,rfl,hb,λj u hu=>fL j u ?_⟩;rw[If]at hu;split at hu
 ·exact hu
 ·cases hu
@[simp] theorem jR(l:al)(k:Nat):(bv l).drop k=bv (l.drop k):=by simp[bv]
@[simp] theorem kD(l:al)(k:Nat):(bv l).take k=bv (l.take k):=by simp[bv]
structure tA(P:Program)(t e:TypeId)(size bytes:Nat)(z:Value):Prop where
 ht:P.underlying t=some (.slice e)
 hi:∃i,P.info? e=some i∧i.zero=some z∧i.size=size∧i.bytes=bytes
 hz:z.cells.size=size
 hs:0<size
theorem lL{P:Program}{t e:TypeId}{size bytes:Nat}{z:Value}(ht:P.underlying t=some (.slice e))(h:(P.info? e).map (λi=>(i.zero,i.size,i.bytes))=some (some z,size,bytes))(hz:z.cells.size=size)(hs:0<size):tA P t e size bytes z:=
 ⟨ht,info_parts h,hz,hs⟩
theorem akO{P:Program}{t e:TypeId}{size bytes:Nat}{z:Value}(T:tA P t e size bytes z)(ty:TypeId)(w:World){base:Nat}{v:Value}{n:Nat}{xs:cZ}(mO:w.ownsRow base e size v n xs){B:Nat}{x:Value}{m:Nat}{news:cZ}(hr:Rd w B size x m news)(h1:∀u∈news,u.oneCell'=true)(kx:(n+m)*bytes<=140737488355328)(yd:n+m<=140737488355328)(CB:base<=w.heap.size):
  ∃v' w',(Builtin.append_ #[t,t] ty #[v,x]).run P w= .ok v' w'∧w'.ownsRow base e size v' (n+m) (xs++news)∧w.grownBy w' v.ownBlock:=by
 obtain⟨i,hi,hz,jg,Fc⟩:=T.hi;obtain⟨A,c,rfl,hmc,hl,hr⟩:=hr;rcases A with _|ad
 ·have hm:m=0:=by
   rcases xF m with h0|h0
   ·exact h0
   ·obtain⟨ad,h,_⟩:=hr h0;cases h
  subst hm;have hn:news=[]:=mS wM;subst hn;refine⟨v,w,?_,by simpa using mO,Pn w _⟩;rcases mO.2 with⟨rfl,rfl⟩|⟨g,cap,cur,rfl,_,_,hnc,_⟩
  ·simp[Builtin.append_,jk T.ht,sizeOf,typeInfo,hi,Builtin.lenOf,Builtin.firstCells]
  ·simp[Builtin.append_,jk T.ht,sizeOf,typeInfo,hi,Builtin.lenOf,Builtin.firstCells,hnc,storeCells]
 ·have kV:∀j u,news[j]? =some u->w.cell? (ad.add j)=some u:=by
   intro j u hu;rcases xF m with h0|h0
   ·subst h0;have hn:news=[]:=mS wM;subst hn;simp at hu
   ·obtain⟨ad',h,_,hc⟩:=hr h0;injection h with h;subst h;exact hc j u hu
  obtain⟨v',w',tU,h2,h3,_⟩:=run_append_own (P:=P) w base t ty e i z size bytes T.ht hi hz jg Fc T.hz T.hs v n xs mO ad m c news hl kV h1 Cl kx CB;exact⟨v',w',tU,h2,h3⟩
theorem Vu{P:Program}{t e:TypeId}{size bytes:Nat}{z:Value}(T:tA P t e size bytes z){ops:Array Oper}{rest:tx}{o:Oper}{a:Act}{Q:Exit->Act->World->Prop}{w:World}(hgd:o.guard=none)(s x:Operand)(ho:o.op= .call {callee:=.builtin .append,args:= #[s,x],argTypes:= #[t,t]}){base:Nat}{v:Value}{n:Nat}{xs:cZ}(hs:a.eval s=v)(mO:w.ownsRow base e size v n xs){B:Nat}{y:Value}{m:Nat}{news:cZ}(hx:a.eval x=y)(hr:Rd w B size y m news)(h1:∀u∈news,u.oneCell'=true){B0:Nat}{w0:World}(hb:Below B0 w0 w)(hB:B0<=base)(CB:base<=w.heap.size)(kx:(n+m)*bytes<=140737488355328)(yd:n+m<=140737488355328)(h:∀v' w',w'.ownsRow base e size v' (n+m) (xs++news)->Below B0 w0 w'->w.grownBy w' v.ownBlock->wpList P ops Q rest (a.put o.dst v') w'):
  wpList P ops Q (o::rest) a w:=by
 obtain⟨v',w',tU,h2,h3⟩:=akO T o.type w mO hr h1 kx yd CB;refine wpList_plain hgd λK hK=>?_;unfold Oper.wp execOp;simp only[ho,resolve,invoke,builtin,LK,Ig,uV,List.map_toArray,kh,Ih,hs,hx,tU];exact hK _ _ (h v' w' h2 (hb.grown h3 (jz hB CB) λk hk=>jz hB (mO.lt k hk).1) h3)
theorem Rd.box(w:World)(e:TypeId)(u:Value):Rd (w.alloc (.cells #[u] e)) (w.heap.size+1) 1 (.slice (some ⟨w.heap.size,0,none⟩) 1 1) 1 [u]:=
 ⟨_,1,rfl,gC _,rfl,λ_=>⟨_,rfl,Nat.lt_succ_self _,λj x hx=>by
  rcases j with _|j
  ·simp at hx;subst hx;simp[Addr.add]
  ·simp at hx⟩⟩
theorem YR{P:Program}{t e:TypeId}{bytes:Nat}{z:Value}(T:tA P t e 1 bytes z){ops:Array Oper}{rest:tx}{o:Oper}{a:Act}{Q:Exit->Act->World->Prop}{w:World}{u:Value}(hgd:o.guard=none)(s x:Operand)(ho:o.op= .call {callee:=.builtin .append,args:= #[s,x],argTypes:= #[t,t]}){base:Nat}{v:Value}{n:Nat}{xs:cZ}(hs:a.eval s=v)(mO:w.ownsRow base e 1 v n xs)(hx:a.eval x= .slice (some ⟨w.heap.size,0,none⟩) 1 1)(h1:u.oneCell'=true){B0:Nat}{w0:World}(hb:Below B0 w0 w)(hB:B0<=base)(CB:base<=w.heap.size)(kx:(n+1)*bytes<=140737488355328)(yd:n+1<=140737488355328)(h:∀v' w',w'.ownsRow base e 1 v' (n+1) (xs++[u])->Below B0 w0 w'->w.heap.size<w'.heap.size->w.grownBy w' v.ownBlock->wpList P ops Q rest (a.put o.dst v') w'):
  wpList P ops Q (o::rest) a (w.alloc (.cells #[u] e)):=by
 refine Vu T hgd s x ho hs (mO.alloc _) hx (Rd.box w e u) (by simp[h1]) (hb.alloc (jz hB CB) _) hB bT kx yd λv' w' h2 h3 h4=>?_;refine h v' w' h2 h3 (by have:=h4.size;simp at this;omega) ⟨h4.os,h4.tape,h4.output,by have:=h4.size;simp at this;omega,λk hk oh=>(h4.block k bT oh).trans (Below.heap_alloc w _ k hk)⟩
theorem Mp{α:Type}(A R:List α)(x y:α){k:Nat}(h:E A=k):(A++x::R).set k y=A++y::R:=by
 subst h;simp
theorem X7{α:Type}(z:α){n k:Nat}(h:k<n):List.replicate (n-k) z=z::List.replicate (n-(k+1)) z:=by
 rw[show n-k=(n-(k+1))+1 by omega,Bt]
theorem agz{P:Program}{src dst e:TypeId}(hs:P.underlying src=some (.slice e))(he:P.underlying e=some (.int .u8))(hd:P.underlying dst=some .string){w:World}{B:Nat}{v:Value}{n:Nat}{l:al}(h:Rd w B 1 v n (bv l)):(convert src dst v).run P w= .ok (.string (ByteArray.mk l.toArray)) w:=by
 obtain⟨A,c,rfl,hc,hl,hr⟩:=h;simp at hl;rcases xF n with h0|h0
 ·have hle:l=[]:=mS aa;subst hle;subst h0;rcases A with _|ad
  ·rw[run_convert_bytes_nil w src e hs he 0 c dst hd];rfl
  ·rw[run_convert_bytes_string w src dst e _ 0 c hs he hd,run_bytesToString w ad 0 c [] (by simpa using run_loadCells_list (P:=P) w ad [] ak)];rfl
 ·obtain⟨ad,rfl,_,fL⟩:=hr h0;have hb:bv l=(l.map λb=>(b.toNat:Int)).map (Value.int .u8):=by simp[bv]
  have RR:=run_loadCells_list (P:=P) w ad (bv l) fL;rw[IX,hl,hb]at RR;rw[run_convert_bytes_string w src dst e _ n c hs he hd,run_bytesToString w ad n c _ RR,foldl_push_bytes];congr 2;have:(List.map (λn=>UInt8.ofNat n.toNat) (List.map (λb:UInt8=>(b.toNat:Int)) l))=l:=by
   rw[sW]
   conv=>rhs;rw[<-List.map_id l]
   refine qB λb _=>?_;simp
  rw[this];simp[ByteArray.empty,ByteArray.emptyWithCapacity];rfl
def ue(w:World)(g:Nat)(t:TypeId)(cs:Array Value):Prop:=w.heap[g]? =some (.cells cs t (0,0))
section
variable{w w':World}{g:Nat}{t:TypeId}{cs:Array Value}
theorem ue.lt(h:ue w g t cs):g<w.heap.size:=by
 rcases uW g w.heap.size with fN|xx
 ·exact fN
 ·unfold ue at h;rw[Array.getElem?_eq_none xx]at h;cases h
theorem ue.cell(h:ue w g t cs)(i:Nat):w.cell? ⟨g,i,none⟩=cs[i]? :=cell_of_row w g i cs t (0,0) h
theorem ue.frozen(h:ue w g t cs)(i:Nat):w.frozen? ⟨g,i,none⟩=false:=by
 unfold ue at h;simp[World.frozen?,h]
theorem ue.new(w:World)(t:TypeId)(cs:Array Value):ue (w.alloc (.cells cs t)) w.heap.size t cs:=FD w _
theorem ue.drew(h:ue w g t cs):ue w.drew g t cs:=h
theorem ue.drewN(h:ue w g t cs)(n:Nat):ue (w.drewN n) g t cs:=h
theorem ue.alloc(h:ue w g t cs)(o:Obj):ue (w.alloc o) g t cs:=(Below.heap_alloc w o g h.lt).trans h
theorem ue.agG(h:ue w g t cs)(i:Nat)(u:Value):ue (w.setCell ⟨g,i,none⟩ u) g t (cs.setIfInBounds i u):=by
 unfold ue at h⊢;simp[World.setCell,Array.getElem?_modify,h]
theorem ue.far(h:ue w g t cs){p:Addr}(hp:g≠p.block)(u:Value):ue (w.setCell p u) g t cs:=(Below.heap_setCell w p u g hp).trans h
theorem ue.below{B:Nat}(h:ue w g t cs)(hb:Below B w w')(hg:g<B):ue w' g t cs:=(hb.block g hg).trans h
theorem ue.grown{row:Option Nat}(h:ue w g t cs)(hb:w.grownBy w' row)(hg:some g≠row):ue w' g t cs:=(hb.block g h.lt hg).trans h
end
theorem zC{a w:World}{g:Nat}(h:a.grownBy w (some g)){p:Addr}(hp:p.block=g∨a.heap.size<=p.block)(u:Value):a.grownBy (w.setCell p u) (some g):=
 ⟨h.os,h.tape,h.output,by simpa[World.setCell]using h.size,λi hi oh=>(Below.heap_setCell w p u i (by
  rintro rfl;rcases hp with hp|hp
  ·exact oh (by rw[hp])
  ·omega)).trans (h.block i hi oh)⟩
theorem Below.only{B g:Nat}{a w w':World}(h:Below B a w)(hg:w.grownBy w' (some g))(hB:B<=g)(hBs:B<=w.heap.size):Below B a w':=h.grown hg hBs λk hk=>by injection hk with hk;omega
theorem Rd.grown{B size n g:Nat}{w w':World}{v:Value}{xs:cZ}(h:Rd w B size v n xs)(hg:w.grownBy w' (some g))(hB:B<=g)(hs:B<=w.heap.size):Rd w' B size v n xs:=
 h.keep λp hp=>World.cell?_of_block (hg.block p.block aa (λe=>by injection e with e;omega))
end
section
theorem uX:type_of% @Option.getD_some:= @Option.getD_some
theorem PD:type_of% @Option.some.inj:= @Option.some.inj
theorem r9:type_of% @Nat.eq_of_beq_eq_true:= @Nat.eq_of_beq_eq_true
theorem Ii:type_of% @cond_true:= @cond_true
theorem FE:type_of% @Option.some.injEq:= @Option.some.injEq
theorem ao:type_of% @if_pos:= @if_pos
theorem lU:type_of% @List.mem_cons_of_mem:= @List.mem_cons_of_mem
theorem r_:type_of% @List.mem_cons_self:= @List.mem_cons_self
theorem ky:type_of% @List.pairwise_cons:= @List.pairwise_cons
theorem fj:type_of% @List.mem_cons:= @List.mem_cons
theorem Ij:type_of% @Below.refl:= @Below.refl
theorem Bu:type_of% @Addr.add_lit:= @Addr.add_lit
theorem lV:type_of% @Nat.zero_add:= @Nat.zero_add
theorem bU:type_of% @Nat.zero_le:= @Nat.zero_le
theorem zg:type_of% @wp_mono:= @wp_mono
theorem oJ:type_of% @of_decide_eq_true:= @of_decide_eq_true
theorem TK:type_of% @of_decide_eq_false:= @of_decide_eq_false
abbrev Fr:=List (Nat×Value)
def look(t:Nat):Fr->Option Value
 |[]=>none
 |(s,v)::r=>bif Nat.beq s t then some v else look t r
def ev(fr:Fr):Operand->Option Value
 | .tmp t=>look t fr
 | .const v=>some v
 | .global g=>some (.pointer (some ⟨g,0,none⟩))
 | .func f=>some (.func (.func f) #[] #[])
def C9(fr:Fr):List Operand->Option (cZ)
 |[]=>some []
 |x::r=>match ev fr x,C9 fr r with
  |some v,some vs=>some (v::vs)
  |_,_=>none
structure qv(N:Nat)(fr:Fr)(a:Act):Prop where
 defers:a.defers=[]
 size:a.tmps.size=N
 at_:∀t v,look t fr=some v->a.tmps[t]? =some v
theorem qv.tmp{N:Nat}{fr:Fr}{a:Act}(h:qv N fr a){x:Operand}{v:Value}(he:ev fr x=some v):a.eval x=v:=by
 cases x with
 |tmp t=>
  have:=h.at_ t v he;unfold Act.eval;simp only[Array.getD_eq_getD_getElem?,this,uX]
 |const u=>exact PD he
 |global g=>exact PD he
 |func f=>exact PD he
theorem qv.C9{N:Nat}{fr:Fr}{a:Act}(h:qv N fr a):∀{xs:List Operand} {vs:cZ},C9 fr xs=some vs->xs.map a.eval=vs
 |[],_,he=>by simpa[Proofs.YtaodmbolhoafcaaGreatDoor.C9]using he
 |x::r,vs,he=>by
  unfold Proofs.YtaodmbolhoafcaaGreatDoor.C9 at he;split at he
  ·rename_i v vs' h1 h2;injection he with he;subst he;simp[h.tmp h1,h.C9 h2]
  ·cases he
theorem qv.put{N:Nat}{fr:Fr}{a:Act}(h:qv N fr a){d:Nat}(hd:Nat.blt d N=true)(v:Value):qv N ((d,v)::fr) (a.put (some d) v):=by
 refine⟨h.defers,by simp[Act.put,h.size],λt u ht=>?_⟩;have hdn:d<N:=by simpa using hd
 unfold look at ht;by_cases e:d=t
 ·subst e;simp at ht;subst ht;simp[Act.put,h.size,hdn]
 ·have:Nat.beq d t=false:=by
   cases hb:Nat.beq d t with
   |false=>rfl
   |true=>exact absurd (r9 hb) e
  rw[this]at ht;simp only[cond_false]at ht;have:=h.at_ t u ht;simp[Act.put,e,this]
def Sub(fr:Fr):Fr->Prop
 |[]=>True
 |(t,v)::r=>look t fr=some v∧Sub fr r
theorem Sub.look{fr:Fr}:∀{j8:Fr},Sub fr j8->∀t v,look t j8=some v->look t fr=some v
 |[],_,t,v,h=>by cases h
 |(s,u)::r,hs,t,v,h=>by
  unfold Proofs.YtaodmbolhoafcaaGreatDoor.look at h;cases hb:Nat.beq s t with
  |true=>
   rw[hb]at h;simp only[Ii,FE]at h;have:=r9 hb;subst this;subst h;exact hs.1
  |false=>
   rw[hb]at h;exact hs.2.look t v h
theorem qv.sub{N:Nat}{fr j8:Fr}{a:Act}(h:qv N fr a)(hs:Sub fr j8):qv N j8 a:=⟨h.defers,h.size,λt v ht=>h.at_ t v (hs.look t v ht)⟩
inductive Ch where
 |own (e:TypeId) (size:Nat) (A:bk) (n c:Nat) (xs:cZ)
 |bG (g:Nat) (t:TypeId) (cs:cZ)
 |obj (g:Nat) (o:Obj)
def Ch.fp:Ch->Option Nat
 | .own _ _ A _ c _=>if c=0 then none else A.map (·.block)
 | .bG g _ _=>some g
 | .obj g _=>some g
def xe(w:World)(B:Nat)(e:TypeId)(size:Nat)(A:bk)(n c:Nat)(xs:cZ):Prop:=
 E xs=n*size∧n<=c∧(c=0∨∃g cur,A=some ⟨g,0,none⟩∧B<=g∧w.heap[g]? =some (.cells cur e (0,0))∧c<=maxLen∧cur.size=c*size∧cur.toList.take (n*size)=xs)
def Ch.holds(B:Nat)(w:World):Ch->Prop
 | .own e size A n c xs=>xe w B e size A n c xs
 | .bG g t cs=>B<=g∧ue w g t cs.toArray
 | .obj g o=>B<=g∧w.heap[g]? =some o
def Ch.apart(c d:Ch):Prop:=c.fp=none∨c.fp≠d.fp
structure Cx where
 P:Program
 N:Nat
 B:Nat
 w0:World
structure SL(B:Nat)(w0:World)(L:List Ch)(w:World):Prop where
 below:Below B w0 w
 base:B<=w.heap.size
 all:∀c∈L,c.holds B w
 apart:L.Pairwise Ch.apart
theorem Ch.apart.symm{c d:Ch}(h:c.apart d):d.apart c:=by
 rcases h with h|h
 ·by_cases hd:d.fp=none
  ·exact .inl hd
  ·exact .inr (by rw[h];exact hd)
 ·by_cases hd:d.fp=none
  ·exact .inl hd
  ·exact .inr (Ne.symm h)
theorem Ch.holds.lt{B:Nat}{w:World}{c:Ch}(h:c.holds B w){g:Nat}(hg:c.fp=some g):B<=g∧g<w.heap.size:=by
 cases c with
 |own e size A n c xs=>
  obtain⟨_,_,h⟩:=h;simp only[Ch.fp]at hg;by_cases hc:c=0
  ·rw[ao hc]at hg;cases hg
  ·rw[aw hc]at hg;obtain⟨g',cur,rfl,h1,h2,_⟩:=h.resolve_left hc;simp at hg;subst hg;exact⟨h1,(k_3.1 h2).1⟩
 |bG g' t cs=>
  simp only[Ch.fp,FE]at hg;subst hg;exact⟨h.1,h.2.lt⟩
 |obj g' o=>
  simp only[Ch.fp,FE]at hg;subst hg;exact⟨h.1,(k_3.1 h.2).1⟩
theorem Ch.holds.keep{B:Nat}{w w':World}{c:Ch}(h:c.holds B w)(hk:∀g,c.fp=some g->w'.heap[g]? =w.heap[g]?):c.holds B w':=by
 cases c with
 |own e size A n c xs=>
  obtain⟨h1,h2,h3⟩:=h;refine⟨h1,h2,?_⟩;by_cases hc:c=0
  ·exact .inl hc
  ·obtain⟨g,cur,rfl,k1,k2,k3⟩:=h3.resolve_left hc;refine .inr ⟨g,cur,rfl,k1,?_,k3⟩;rw[hk g (by simp[Ch.fp,hc])];exact k2
 |bG g t cs=>
  refine⟨h.1,?_⟩;unfold ue;rw[hk g rfl];exact h.2
 |obj g o=>exact⟨h.1,by rw[hk g rfl];exact h.2⟩
theorem Below.le_trans{B:Nat}{w0 w w':World}{row:Option Nat}(h:Below B w0 w)(hg:w.grownBy w' row)(hb:B<=w.heap.size)(hr:∀g,row=some g->B<=g):Below B w0 w':=h.grown hg hb hr
section
variable{B:Nat}{w0 w w':World}{L L':List Ch}{c c' d:Ch}
theorem SL.perm(h:SL B w0 L w)(hp:L.Perm L'):SL B w0 L' w:=
 ⟨h.below,h.base,λc hc=>h.all c (hp.mem_iff.2 hc),(hp.pairwise_iff (λh=>Ch.apart.symm h)).1 h.apart⟩
theorem SL.tail(h:SL B w0 (c::L) w):SL B w0 L w:=⟨h.below,h.base,λd hd=>h.all d (lU _ hd),h.apart.tail⟩
theorem SL.sub(h:SL B w0 L w)(hs:L'.Sublist L):SL B w0 L' w:=⟨h.below,h.base,λd hd=>h.all d (hs.subset hd),h.apart.sublist hs⟩
theorem SL.head(h:SL B w0 (c::L) w):c.holds B w:=h.all c r_
theorem SL.MB(h:SL B w0 (c::L) w)(hg:w.grownBy w' c.fp)(hc:c'.holds B w')(hf:c'.fp=none∨c'.fp=c.fp∨∃g,c'.fp=some g∧w.heap.size<=g):SL B w0 (c'::L) w':=by
 have hap:=ky.1 h.apart;refine⟨h.below.grown hg h.base (λk hk=>(h.head.lt hk).1),jz h.base hg.size,λd hd=>?_,ky.2 ⟨λd hd=>?_,hap.2⟩⟩
 ·rcases fj.1 hd with rfl|hd
  ·exact hc
  ·refine(h.tail.all d hd).keep λg hg'=>hg.block g ((h.tail.all d hd).lt hg').2 λe=>?_;rcases hap.1 d hd with h0|h0
   ·rw[h0]at e;cases e
   ·exact h0 (e.symm.trans hg'.symm)
 ·rcases hf with hf|hf|⟨g,hf,xx⟩
  ·exact .inl hf
  ·rcases hap.1 d hd with h0|h0
   ·exact .inl (hf.trans h0)
   ·exact .inr (hf▸h0)
  ·refine .inr λe=>?_;have:=((h.tail.all d hd).lt (e.symm.trans hf)).2;omega
theorem SL.grow(h:SL B w0 L w)(hg:w.grownBy w' none):SL B w0 L w':=
 ⟨h.below.grown hg h.base (λk hk=>by cases hk),jz h.base hg.size,λd hd=>(h.all d hd).keep λg hg'=>hg.block g ((h.all d hd).lt hg').2 ak,h.apart⟩
theorem SL.gT(h:SL B w0 L w)(hg:w.grownBy w' none)(hc:c'.holds B w')(hf:c'.fp=none∨∃g,c'.fp=some g∧w.heap.size<=g):SL B w0 (c'::L) w':=by
 have h':=h.grow hg;refine⟨h'.below,h'.base,λd hd=>?_,ky.2 ⟨λd hd=>?_,h.apart⟩⟩
 ·rcases fj.1 hd with rfl|hd
  ·exact hc
  ·exact h'.all d hd
 ·rcases hf with hf|⟨g,hf,xx⟩
  ·exact .inl hf
  ·refine .inr λe=>?_;have:=((h.all d hd).lt (e.symm.trans hf)).2;omega
theorem rk(w:World)(n:Nat):w.grownBy (w.drewN n) none:=⟨rfl,rfl,rfl,gC _,λ_ _ _=>rfl⟩
theorem SL.drewN(h:SL B w0 L w)(n:Nat):SL B w0 L (w.drewN n):=h.grow (rk w n)
theorem SL.drew(h:SL B w0 L w):SL B w0 L w.drew:=h.grow ⟨rfl,rfl,rfl,gC _,λ_ _ _=>rfl⟩
theorem SL.BI(w:World):SL w.heap.size w [] w:=⟨Ij _ _,gC _,ak,List.Pairwise.nil⟩
end
inductive na:Ch->List Ch->(Ch->List Ch)->Prop where
 |hd {c:Ch} {L:List Ch}:na c (c::L) (λd=>d::L)
 |tl {b c:Ch} {L:List Ch} {f:Ch->List Ch} (h:na c L f):na c (b::L) (λd=>b::f d)
theorem na.perm{c:Ch}{L:List Ch}{f:Ch->List Ch}(h:na c L f):∃R,L.Perm (c::R)∧∀d,(f d).Perm (d::R):=by
 induction h with
 | @hd c L=>exact⟨L,.refl _,λ_=>.refl _⟩
 | @tl b c L f h ih=>
  obtain⟨R,h1,h2⟩:=ih;exact⟨b::R,(h1.cons b).trans (.swap ..),λd=>((h2 d).cons b).trans (.swap ..)⟩
theorem na.mem{c:Ch}{L:List Ch}{f:Ch->List Ch}(h:na c L f):c∈L:=by
 obtain⟨R,h1,_⟩:=h.perm;exact h1.mem_iff.2 r_
def aM(B:Nat)(w0:World)(L:List Ch)(size:Nat)(v:Value)(n:Nat)(xs:cZ):Prop:=∀w,SL B w0 L w->Rd w w.heap.size size v n xs
section
variable{B:Nat}{w0 w w':World}{L L':List Ch}{c c' d:Ch}{size n k m:Nat}{v:Value}{xs:cZ}
theorem xe.rd{e:TypeId}{A:bk}{c:Nat}(h:xe w B e size A n c xs):Rd w w.heap.size size (.slice A n c) n xs:=by
 obtain⟨h1,h2,h3⟩:=h;refine⟨A,c,rfl,h2,h1,λhn=>?_⟩;obtain⟨g,cur,rfl,k1,k2,k3,k4,k5⟩:=h3.resolve_left aa;refine⟨_,rfl,(k_3.1 k2).1,λj u hu=>?_⟩;rw[Bu,lV,cell_of_row w g j cur e (0,0) k2];rw[<-k5,If]at hu;split at hu
 ·simpa using hu
 ·cases hu
theorem aM.in_(h:Rd w0 B size v n xs):aM B w0 L size v n xs:=λw hs=>(h.below hs.below).more hs.base
theorem aM.own{e:TypeId}{A:bk}{c:Nat}(h:Ch.own e size A n c xs∈L):aM B w0 L size (.slice A n c) n xs:=λw hs=>xe.rd (hs.all _ h)
theorem aM.cons(h:aM B w0 L size v n xs):aM B w0 (c::L) size v n xs:=λw hs=>h w hs.tail
theorem aM.mono(h:aM B w0 L size v n xs)(hs:L.Sublist L'):aM B w0 L' size v n xs:=λw h'=>h w (h'.sub hs)
theorem aM.perm(h:aM B w0 L size v n xs)(hp:L.Perm L'):aM B w0 L' size v n xs:=λw h'=>h w (h'.perm hp.symm)
theorem aM.BI{A:bk}{c:Nat}:aM B w0 L size (.slice A 0 c) 0 []:=λw _=>⟨A,c,rfl,bU _,ak,λh=>absurd h aa⟩
theorem aM.cut{A:bk}{c:Nat}(h:aM B w0 L size (.slice A n c) n xs)(hk:k<=n):aM B w0 L size (.slice (if c=k then A else A.map (·.add (k*size))) (n-k) (c-k)) (n-k) (xs.drop (k*size)):=λw hs=>(h w hs).cut hk
theorem aM.jv{A:bk}{c:Nat}(h:aM B w0 L size (.slice A n c) n xs)(hk:k<=n):aM B w0 L size (.slice A k c) k (xs.take (k*size)):=λw hs=>(h w hs).jv hk
end
def lift(C:Cx)(Q:Exit->Fr->List Ch->Prop):Exit->Act->World->Prop:=λe a w=>∃fr L,qv C.N fr a∧SL C.B C.w0 L w∧Q e fr L
def VC(C:Cx)(c:Code)(Q:Exit->Fr->List Ch->Prop)(fr:Fr)(L:List Ch):Prop:=∀a w,qv C.N fr a->SL C.B C.w0 L w->c.wp C.P (lift C Q) a w
def VL(C:Cx)(ops:Array Oper)(Q:Exit->Fr->List Ch->Prop)(l:tx)(fr:Fr)(L:List Ch):Prop:=
 ∀a w,qv C.N fr a->SL C.B C.w0 L w->wpList C.P ops (lift C Q) l a w
def aie(C:Cx)(y:Code)(Q:Exit->Fr->List Ch->Prop):Exit->Fr->List Ch->Prop
 | .normal,fr,L=>VC C y Q fr L
 |e,fr,L=>Q e fr L
def InB(id:Nat)(Q:Exit->Fr->List Ch->Prop):Exit->Fr->List Ch->Prop
 | .exit i,fr,L=>if i=id then Q .normal fr L else Q (.exit i) fr L
 |e,fr,L=>Q e fr L
section
variable{C:Cx}{Q:Exit->Fr->List Ch->Prop}{fr j8:Fr}{L L':List Ch}{x y:Code}{ops:Array Oper}{l:tx}
theorem ahR(h:VC C x (aie C y Q) fr L):VC C (.seq x y) Q fr L:=λa w ha hs=>by
 refine wp_seq (zg (h a w ha hs) λe a w ⟨fr,L,ha,hs,hq⟩=>?_);cases e<;>first|exact hq a w ha hs|exact⟨fr,L,ha,hs,hq⟩
theorem ahP{id:Nat}(h:VC C x (InB id Q) fr L):VC C (.block id x) Q fr L:=λa w ha hs=>by
 refine wp_block (zg (h a w ha hs) λe a w ⟨fr,L,ha,hs,hq⟩=>?_);cases e with
 |exit i=>
  unfold Exit.inBlock InB at*;simp only at hq⊢;split
  ·rename_i hi;rw[ao hi]at hq;exact⟨fr,L,ha,hs,hq⟩
  ·rename_i hi;rw[aw hi]at hq;exact⟨fr,L,ha,hs,hq⟩
 |_=>exact⟨fr,L,ha,hs,hq⟩
theorem alz(h:Q .normal fr L):VC C .skip Q fr L:=λa w ha hs=>wp_skip ⟨fr,L,ha,hs,h⟩
theorem aly{id:Nat}(h:Q (.exit id) fr L):VC C (.exit id) Q fr L:=λa w ha hs=>wp_exit ⟨fr,L,ha,hs,h⟩
theorem apS(h:Q .ret fr L):VC C .ret Q fr L:=λa w ha hs=>wp_ret ⟨fr,L,ha,hs,h⟩
theorem ab2{c:Operand}(hc:ev fr c=some (.bool true))(h:VC C x Q fr L):VC C (.cond c x y) Q fr L:=λa w ha hs=>wp_cond_true (ha.tmp hc) (h a w ha hs)
theorem ab1{c:Operand}(hc:ev fr c=some (.bool false))(h:VC C y Q fr L):VC C (.cond c x y) Q fr L:=λa w ha hs=>wp_cond_false (ha.tmp hc) (h a w ha hs)
theorem YL{c:Operand}{b:Bool}(hc:ev fr c=some (.bool b))(ht:b=true->VC C x Q fr L)(hf:b=false->VC C y Q fr L):VC C (.cond c x y) Q fr L:=
 λa w ha hs=>wp_cond_split (ha.tmp hc) (λh=>ht h a w ha hs) (λh=>hf h a w ha hs)
theorem ab3{c:Operand}{p:Prop}[Decidable p](hc:ev fr c=some (.bool (decide p)))(ht:p->VC C x Q fr L)(hf:¬p->VC C y Q fr L):VC C (.cond c x y) Q fr L:=
 YL hc (λh=>ht (oJ h)) (λh=>hf (TK h))
theorem ab4{id:Nat}{l:tx}(h:VL C l.toArray Q l fr L):VC C (.region id l.toArray false) Q fr L:=λa w ha hs=>wp_region_lit (h a w ha hs)
theorem B_(j8:Fr)(hs:Sub fr j8)(h:VC C x Q j8 L):VC C x Q fr L:=λa w ha hw=>h a w (ha.sub hs) hw
theorem gx(hs:L.Perm L')(h:VC C x Q fr L'):VC C x Q fr L:=λa w ha hw=>h a w ha (hw.perm hs)
theorem apW(j8:Fr)(hs:Sub fr j8)(h:Q .normal j8 L):VL C ops Q [] fr L:=λa w ha hw=>wpList_nil ⟨j8,L,ha.sub hs,hw,h⟩
theorem avT(h:Q .normal fr L):VL C ops Q [] fr L:=λa w ha hw=>wpList_nil ⟨fr,L,ha,hw,h⟩
inductive Nf(fr:Fr):bf->Fr->Prop where
 |nil:Nf fr [] []
 |cons {t:Nat} {v:Value} {ks:bf} {r:Fr}:look t fr=some v->Nf fr ks r->Nf fr (t::ks) ((t,v)::r)
theorem Nf.sub{ks:bf}(h:Nf fr ks j8):Sub fr j8:=by
 induction h with
 |nil=>trivial
 |cons h1 _ ih=>exact⟨h1,ih⟩
theorem ve(ks:bf)(h:Q .normal j8 L)(hs:Nf fr ks j8:=by repeat (first|exact Nf.nil|(apply Nf.cons;exact rfl))):VL C ops Q [] fr L:=apW j8 hs.sub h
theorem abH(h:VC C y Q fr L):aie C y Q .normal fr L:=h
theorem asK{id:Nat}(h:Q .normal fr L):InB id Q (.exit id) fr L:=by unfold InB;simp only[if_true];exact h
theorem asL{i id:Nat}(hi:Nat.beq i id=false)(h:Q (.exit i) fr L):InB id Q (.exit i) fr L:=by
 unfold InB;simp only;rw[aw (by intro e;subst e;simp at hi)];exact h
theorem aov{id:Nat}(h:Q .ret fr L):InB id Q .ret fr L:=h
theorem aam{id:Nat}(h:Q .normal fr L):InB id Q .normal fr L:=h
abbrev rF:=Value->List Ch->Prop
abbrev aR:=List Ch
end
end
section
section
variable{C:Cx}{Q:Exit->Fr->aR->Prop}{fr j8:Fr}{L L':aR}{ops:Array Oper}{l:tx}{op:Op}{ty:TypeId}{pos:String}{af:Array Edge}{d:Nat}{v:Value}
theorem ani{P:Prop}(h:P:=by(rw[tv hj (ha.at_ _ _ ht)];simp)):P:=h
theorem ang{P:Prop}(h:P:=by(rw[tv hj (ha.at_ _ _ ht)];exact hb)):P:=h
theorem aiq{P:Prop}(h:P:=by(rw[tv hj (ha.at_ _ _ ht)];simpa using hb)):P:=h
theorem IM{P:Prop}(h:P:=by(simpa using fN)):P:=h
theorem ax{P:Prop}(h:P:=by(decide)):P:=h
theorem LM:type_of% @Calls.mono:= @Calls.mono
theorem xG:type_of% @List.size_toArray:= @List.size_toArray
theorem Bv:type_of% @List.getElem?_eq_none:= @List.getElem?_eq_none
theorem Bw:type_of% @List.getElem?_eq_some_iff:= @List.getElem?_eq_some_iff
def gR(C:Cx)(fr:Fr)(L:aR)(op:Op)(ty:TypeId)(v:Value):Prop:=
 ∀a w,qv C.N fr a->SL C.B C.w0 L w->∀(d:Option Tmp) (pos:String) (af:Array Edge) (g:Option (Nat×Bool)),(execOp a.eval ⟨d,op,ty,pos,af,g⟩).run C.P w= .ok (.value v) w
def q8(C:Cx)(fr:Fr)(L:aR)(op:Op)(ty:TypeId)(R:rF):Prop:=
 ∀a w,qv C.N fr a->SL C.B C.w0 L w->∀(d:Option Tmp) (pos:String) (af:Array Edge) (g:Option (Nat×Bool)),∃v w' L',
  ((execOp a.eval ⟨d,op,ty,pos,af,g⟩).run C.P w= .ok (.value v) w'∨(execOp a.eval ⟨d,op,ty,pos,af,g⟩).run C.P w= .ok .skip w'∧v=undef)∧R v L'∧SL C.B C.w0 L' w'
theorem ab(h:gR C fr L op ty v)(hd:Nat.blt d C.N=true)(k:VL C ops Q l ((d,v)::fr) L):VL C ops Q (⟨some d,op,ty,pos,af,none⟩::l) fr L:=λa w ha hw=>
 wpList_plain rfl λK hK=>by unfold Oper.wp;rw[h a w ha hw];exact hK _ _ (k _ _ (ha.put hd v) hw)
theorem mj{R:rF}(h:q8 C fr L op ty R)(hd:Nat.blt d C.N=true)(k:∀v L',R v L'->VL C ops Q l ((d,v)::fr) L'):VL C ops Q (⟨some d,op,ty,pos,af,none⟩::l) fr L:=λa w ha hw=>
 wpList_plain rfl λK hK=>by
  obtain⟨v,w',L',hr,hR,hs⟩:=h a w ha hw (some d) pos af none;unfold Oper.wp;rcases hr with hr|⟨hr,rfl⟩<;>rw[hr]<;>exact hK _ _ (k _ _ hR _ _ (ha.put hd _) hs)
theorem alB{R:rF}(h:q8 C fr L op ty R)(k:∀v L',R v L'->VL C ops Q l fr L'):VL C ops Q (⟨none,op,ty,pos,af,none⟩::l) fr L:=λa w ha hw=>
 wpList_plain rfl λK hK=>by
  obtain⟨v,w',L',hr,hR,hs⟩:=h a w ha hw none pos af none;unfold Oper.wp;rcases hr with hr|⟨hr,rfl⟩<;>rw[hr]<;>exact hK _ _ (k _ _ hR _ _ ha hs)
theorem tv{op:Op}{ty:TypeId}{pos:String}{af:Array Edge}{dd:Option Tmp}{j t:Nat}{want b:Bool}{a:Act}(hj:(ops[j]?).bind (·.dst)=some t)(ha:a.tmps[t]? =some (.bool b)):
  Region.wanted ⟨dd,op,ty,pos,af,some (j,want)⟩ (yielded ops a.tmps)=(b==want):=by
 simp[Region.wanted,yielded,hj,ha]
theorem z6{op:Op}{ty:TypeId}{pos:String}{af:Array Edge}{dd:Option Tmp}{j t:Nat}{want:Bool}{a:Act}(hj:(ops[j]?).bind (·.dst)=some t)(ha:a.tmps[t]? =some undef):
  Region.wanted ⟨dd,op,ty,pos,af,some (j,want)⟩ (yielded ops a.tmps)=false:=by
 simp[Region.wanted,yielded,hj,ha,undef]
theorem CZ{P:Program}{QQ:Exit->Act->World->Prop}{dd:Option Tmp}{g:Nat×Bool}{a:Act}{w:World}(hw:Region.wanted ⟨dd,op,ty,pos,af,some g⟩ (yielded ops a.tmps)=true)(h:wpList P ops QQ (⟨dd,op,ty,pos,af,none⟩::l) a w):
  wpList P ops QQ (⟨dd,op,ty,pos,af,some g⟩::l) a w:=by
 unfold wpList at h⊢;rw[ao (by rfl)]at h;rw[ao hw];exact h
theorem Hg{P:Program}{QQ:Exit->Act->World->Prop}{dd:Option Tmp}{g:Nat×Bool}{a:Act}{w:World}(hw:Region.wanted ⟨dd,op,ty,pos,af,some g⟩ (yielded ops a.tmps)=false)(h:wpList P ops QQ l (a.put dd undef) w):
  wpList P ops QQ (⟨dd,op,ty,pos,af,some g⟩::l) a w:=by
 unfold wpList;rw[aw (by rw[hw];exact Bool.false_ne_true)];exact h
theorem qv.bool{N:Nat}{a:Act}{t:Nat}{b c:Bool}(ha:qv N fr a)(ht:look t fr=some (.bool b))(hb:b=c):qv N ((t,.bool c)::fr) a:=by
 subst hb;refine⟨ha.defers,ha.size,λs u hs=>?_⟩;unfold look at hs;cases Bk:Nat.beq t s with
 |true=>
  have:=r9 Bk;subst this;rw[Bk]at hs;simp only[Ii,FE]at hs;subst hs;exact ha.at_ _ _ ht
 |false=>
  rw[Bk]at hs;exact ha.at_ _ _ hs
theorem Vl{dd:Option Tmp}{j t:Nat}{want:Bool}(hj:(ops[j]?).bind (·.dst)=some t)(ht:look t fr=some (.bool want))(k:VL C ops Q (⟨dd,op,ty,pos,af,none⟩::l) fr L):
  VL C ops Q (⟨dd,op,ty,pos,af,some (j,want)⟩::l) fr L:=λa w ha hw=>
 CZ ani (k a w ha hw)
theorem Vk{j t:Nat}{want b:Bool}(hj:(ops[j]?).bind (·.dst)=some t)(ht:look t fr=some (.bool b))(hb:(b==want)=false)(hd:Nat.blt d C.N=true)(k:VL C ops Q l ((d,undef)::fr) L):
  VL C ops Q (⟨some d,op,ty,pos,af,some (j,want)⟩::l) fr L:=λa w ha hw=>
 Hg ang (k _ _ (ha.put hd _) hw)
theorem Vm{j t:Nat}{want:Bool}(hj:(ops[j]?).bind (·.dst)=some t)(ht:look t fr=some undef)(hd:Nat.blt d C.N=true)(k:VL C ops Q l ((d,undef)::fr) L):
  VL C ops Q (⟨some d,op,ty,pos,af,some (j,want)⟩::l) fr L:=λa w ha hw=>
 Hg (z6 hj (ha.at_ _ _ ht)) (k _ _ (ha.put hd _) hw)
theorem l7{j t:Nat}{want b:Bool}(hj:(ops[j]?).bind (·.dst)=some t)(ht:look t fr=some (.bool b))(hd:Nat.blt d C.N=true)(k1:b=want->VL C ops Q (⟨some d,op,ty,pos,af,none⟩::l) ((t,.bool want)::fr) L)(k2:b= !want->VL C ops Q l ((d,undef)::(t,.bool !want)::fr) L):
  VL C ops Q (⟨some d,op,ty,pos,af,some (j,want)⟩::l) fr L:=λa w ha hw=>by
 by_cases hb:b=want
 ·exact CZ aiq (k1 hb a w (ha.bool ht hb) hw)
 ·have RJ:b= !want:=by cases b<;>cases want<;>simp_all
  exact Hg aiq (k2 RJ _ _ ((ha.bool ht RJ).put hd _) hw)
theorem ab6{j t:Nat}{p:Prop}[Decidable p](hj:(ops[j]?).bind (·.dst)=some t)(ht:look t fr=some (.bool (decide p)))(hd:Nat.blt d C.N=true)(k1:p->VL C ops Q (⟨some d,op,ty,pos,af,none⟩::l) ((t,.bool true)::fr) L)(k2:¬p->VL C ops Q l ((d,undef)::(t,.bool false)::fr) L):
  VL C ops Q (⟨some d,op,ty,pos,af,some (j,true)⟩::l) fr L:=
 l7 hj ht hd (λh=>k1 (oJ h)) (λh=>k2 (TK h))
theorem aI{j t:Nat}{p:Prop}[Decidable p](hj:(ops[j]?).bind (·.dst)=some t)(ht:look t fr=some (.bool (decide p)))(hd:Nat.blt d C.N=true)(k1:¬p->VL C ops Q (⟨some d,op,ty,pos,af,none⟩::l) ((t,.bool false)::fr) L)(k2:p->VL C ops Q l ((d,undef)::(t,.bool true)::fr) L):
  VL C ops Q (⟨some d,op,ty,pos,af,some (j,false)⟩::l) fr L:=
 l7 hj ht hd (λh=>k1 (TK h)) (λh=>k2 (oJ h))
def aK(P:Program)(f:FuncId):Prop:=∃fn c,P.funcs[f]? =some fn∧(fn.name== "runtime.NumGoroutine")=false∧fn.body=some c
def dU(P:Program)(B:Nat)(w0:World)(f:FuncId)(args:cZ)(L:aR)(R:rF):Prop:=
 ∀w,SL B w0 L w->Calls P f args.toArray w λe w'=>∃v L',e= .returned v∧R v L'∧SL B w0 L' w'
theorem dU.mono{P:Program}{B:Nat}{w0:World}{f:FuncId}{args:cZ}{R R':rF}(h:dU P B w0 f args L R)(hr:∀v L',R v L'->R' v L'):dU P B w0 f args L R':=
 λw hw=>(h w hw).mono λ_ _ ⟨v,L',e,hR,hs⟩=>⟨v,L',e,hr _ _ hR,hs⟩
theorem dU.perm{P:Program}{B:Nat}{w0:World}{f:FuncId}{args:cZ}{R:rF}(h:dU P B w0 f args L' R)(hp:L.Perm L'):dU P B w0 f args L R:=
 λw hw=>h w (hw.perm hp)
theorem mL{ρ:Operand->Value}{P:Program}{w:World}{f:FuncId}{g:Operand}{uv:List Operand}{Dq:Array TypeId}{fst cap:Array Value}{dd:Option Tmp}{gu:Option (Nat×Bool)}(hc:aK P f)(hg:ρ g= .func (.func f) fst cap):
  (execOp ρ ⟨dd,.call {callee:=.value g,args:=uv.toArray,argTypes:=Dq},ty,pos,af,gu⟩).run P w= .ok (.enter f (fst++(uv.map ρ).toArray++cap)) w:=by
 obtain⟨fn,c,h1,h2,h3⟩:=hc;have h2':¬fn.name= "runtime.NumGoroutine" :=by simpa using h2
 simp[execOp,resolve,hg,Deferred.ofValue,invoke,callFunc,h1,h2',h3]
theorem be{f:FuncId}{uv:List Operand}{Dq:Array TypeId}{vs:cZ}{R:rF}(hc:aK C.P f)(he:C9 fr uv=some vs)(h:dU C.P C.B C.w0 f vs L R)(hd:Nat.blt d C.N=true)(k:∀v L',R v L'->VL C ops Q l ((d,v)::fr) L'):VL C ops Q (⟨some d,.call {callee:=.value (.func f),args:=uv.toArray,argTypes:=Dq},ty,pos,af,none⟩::l) fr L:=λa w ha hw=>
 wpList_plain rfl λK hK=>by
  unfold Oper.wp;rw[mL hc (fst:= #[]) (cap:= #[]) rfl,ha.C9 he];rw[Array.append_empty,Array.empty_append];refine LM (h w hw) λe w' ⟨v,L',he,hR,hs⟩=>?_;subst he;exact hK _ _ (k _ _ hR _ _ (ha.put hd _) hs)
theorem vz{f:FuncId}{g:Operand}{uv:List Operand}{Dq:Array TypeId}{vs fst cap:cZ}{R:rF}(hc:aK C.P f)(hg:ev fr g=some (.func (.func f) fst.toArray cap.toArray))(he:C9 fr uv=some vs)(h:dU C.P C.B C.w0 f (fst++vs++cap) L R)(hd:Nat.blt d C.N=true)(k:∀v L',R v L'->VL C ops Q l ((d,v)::fr) L'):VL C ops Q (⟨some d,.call {callee:=.value g,args:=uv.toArray,argTypes:=Dq},ty,pos,af,none⟩::l) fr L:=λa w ha hw=>
 wpList_plain rfl λK hK=>by
  unfold Oper.wp;rw[mL hc (ha.tmp hg),ha.C9 he];simp only[List.append_toArray];refine LM (h w hw) λe w' ⟨v,L',he,hR,hs⟩=>?_;subst he;exact hK _ _ (k _ _ hR _ _ (ha.put hd _) hs)
def Ini(N:Nat)(args:cZ):Fr->Prop
 |[]=>True
 |(t,v)::r=>(Nat.blt t N=true∧args.getD t undef=v)∧Ini N args r
theorem Ini.look{N:Nat}{args:cZ}:∀{fr:Fr},Ini N args fr->∀t v,look t fr=some v->t<N∧args.getD t undef=v
 |[],_,t,v,h=>by cases h
 |(s,u)::r,hs,t,v,h=>by
  unfold Proofs.YtaodmbolhoafcaaGreatDoor.look at h;cases hb:Nat.beq s t with
  |true=>
   rw[hb]at h;simp only[Ii,FE]at h;have:=r9 hb;subst this;subst h;exact⟨by simpa using hs.1.1,hs.1.2⟩
  |false=>
   rw[hb]at h;exact hs.2.look t v h
def Dp(P:Program)(fn:Func)(R:rF):Exit->Fr->aR->Prop
 | .ret,fr,L| .normal,fr,L=>∀(B:Nat) (w0:World) a w,qv fn.ntmps fr a->SL B w0 L w->∃v L',(results fn a.tmps).run P w= .ok v w∧R v L'∧SL B w0 L' w
 |_,_,_=>False
theorem arS{P:Program}{B:Nat}{w0:World}{f:FuncId}{fn:Func}{c:Code}{args:cZ}{R:rF}(hf:P.funcs[f]? =some fn)(hb:fn.body=some c)(hl:E args<=fn.ntmps)(fr0:Fr)(hi:Ini fn.ntmps args fr0)(h:VC ⟨P,fn.ntmps,B,w0⟩ c (Dp P fn R) fr0 L):dU P B w0 f args L R:=λw hw=>by
 refine calls_of_wp hf hb (zg (h _ w ⟨rfl,?_,λt v ht=>?_⟩ hw) λe a w ⟨fr,L,ha,hs,hq⟩=>?_)
 ·simp;omega
 ·obtain⟨h1,h2⟩:=hi.look t v ht;simp only[xG];by_cases fN:t<E args
  ·rw[Array.getElem?_append_left IM];simp[fN]at h2;simp[fN,h2]
  ·rw[Array.getElem?_append_right IM];have h3:args[t]? =none:=Bv aa;simp[h3]at h2;subst h2;simp;rw[Array.getElem?_replicate,ao aa]
 ·cases e<;>first
   |exact hq.elim
   |(obtain⟨v,L',h1,h2,h3⟩:=hq B w0 a w ha hs;exact⟨ha.defers,v,h1,v,L',rfl,h2,h3⟩)
theorem avJ{P:Program}{fn:Func}{R:rF}{t:Nat}(hr:fn.results= #[.tmp t]){v:Value}(hl:look t fr=some v)(h:R v L):Dp P fn R .ret fr L:=λB w0 a w ha hs=>by
 refine⟨v,L,?_,h,hs⟩;rw[results_tmp hr];simp[ha.at_ _ _ hl]
theorem avI{P:Program}{fn:Func}{R:rF}(hr:fn.results= #[])(h:R (.tuple #[]) L):Dp P fn R .ret fr L:=λB w0 a w ha hs=>⟨_,L,results_none hr _ _ _,h,hs⟩
theorem avK{P:Program}{fn:Func}{R:rF}{t u:Nat}(hr:fn.results= #[.tmp t,.tmp u]){v x:Value}(hl:look t fr=some v)(rR:look u fr=some x)(h:R (.tuple #[v,x]) L):Dp P fn R .ret fr L:=λB w0 a w ha hs=>by
 refine⟨_,L,?_,h,hs⟩;rw[results_tmp2 hr];simp[ha.at_ _ _ hl,ha.at_ _ _ rR]
theorem as9{P:Program}{fn:Func}{R:rF}{t u s:Nat}(hr:fn.results= #[.tmp t,.tmp u,.tmp s]){v x y:Value}(hl:look t fr=some v)(rR:look u fr=some x)(M4:look s fr=some y)(h:R (.tuple #[v,x,y]) L):Dp P fn R .ret fr L:=λB w0 a w ha hs=>by
 refine⟨_,L,?_,h,hs⟩;simp[results,hr,ha.at_ _ _ hl,ha.at_ _ _ rR,ha.at_ _ _ M4]
theorem as'{P:Program}{fn:Func}{R:rF}{t u s q:Nat}(hr:fn.results= #[.tmp t,.tmp u,.tmp s,.tmp q]){v x y z:Value}(hl:look t fr=some v)(rR:look u fr=some x)(M4:look s fr=some y)(hl4:look q fr=some z)(h:R (.tuple #[v,x,y,z]) L):Dp P fn R .ret fr L:=λB w0 a w ha hs=>by
 refine⟨_,L,?_,h,hs⟩;simp[results,hr,ha.at_ _ _ hl,ha.at_ _ _ rR,ha.at_ _ _ M4,ha.at_ _ _ hl4]
theorem ata{P:Program}{fn:Func}{R:rF}(h:Dp P fn R .ret fr L):Dp P fn R .normal fr L:=h
section
variable{x y z:Operand}{u t:Value}{k:IntKind}{m n:Int}
theorem ek(h:ev fr x=some v):gR C fr L (.move x) ty v:=λa w ha hw d pos af g=>by simp[execOp,ha.tmp h]
theorem mb(h:ev fr x=some v):gR C fr L (.assign x) ty v:=λa w ha hw d pos af g=>by simp[execOp,ha.tmp h]
theorem SB(h:ev fr x=some (.bool true))(h1:ev fr y=some v):gR C fr L (.pick x y z) ty v:=λa w ha hw d pos af g=>by simp[execOp,ha.tmp h,ha.tmp h1,asBool]
theorem SA(h:ev fr x=some (.bool false))(h1:ev fr z=some v):gR C fr L (.pick x y z) ty v:=λa w ha hw d pos af g=>by simp[execOp,ha.tmp h,ha.tmp h1,asBool]
theorem fP{op:BinOp}{xt:TypeId}{P:Program}{w:World}(a:Act)(d:Option Tmp)(pos:String)(af:Array Edge)(g:Option (Nat×Bool)){yt:TypeId}(h1:a.eval x= .int k m)(h2:a.eval y= .int k n)(hs:op≠ .shl∧op≠ .shr):
  (execOp a.eval ⟨d,.binOp op xt x y yt,ty,pos,af,g⟩).run P w=((match op with
  | .add| .sub| .mul=>Op.intArith op k m n
  | .quo| .rem=>Op.intDiv op k m n
  | .and| .or| .xor| .andNot=>Op.intBits op k m n
  |_=>Op.intCmp op m n).run P w).andThen λv w=>.ok (.value v) w:=by
 have he:(eqGuard op xt x y (.int k m) (.int k n)).run P w= .ok () w:=by cases op<;>simp[eqGuard]
 obtain⟨lK,j_⟩:=hs;cases op<;>simp_all[execOp,binOp]
theorem bJ{xt yt:TypeId}(h1:ev fr x=some (.int k m))(h2:ev fr y=some (.int k n)){r:Int}(hr:k.wrap (m+n)=r):gR C fr L (.binOp .add xt x y yt) ty (.int k r):=λa w ha hw d pos af g=>by
 rw[fP a d pos af g (ha.tmp h1) (ha.tmp h2) ⟨ax,ax⟩];simp[Op.intArith,hr]
theorem dC{xt yt:TypeId}(h1:ev fr x=some (.int k m))(h2:ev fr y=some (.int k n)){r:Int}(hr:k.wrap (m-n)=r):gR C fr L (.binOp .sub xt x y yt) ty (.int k r):=λa w ha hw d pos af g=>by
 rw[fP a d pos af g (ha.tmp h1) (ha.tmp h2) ⟨ax,ax⟩];simp[Op.intArith,hr]
theorem eH{xt yt:TypeId}(h1:ev fr x=some (.int k m))(h2:ev fr y=some (.int k n)){r:Int}(hr:k.wrap (m*n)=r):gR C fr L (.binOp .mul xt x y yt) ty (.int k r):=λa w ha hw d pos af g=>by
 rw[fP a d pos af g (ha.tmp h1) (ha.tmp h2) ⟨ax,ax⟩];simp[Op.intArith,hr]
theorem mJ{xt yt:TypeId}(h1:ev fr x=some (.int k m))(h2:ev fr y=some (.int k n))(h0:n≠0){r:Int}(hr:k.wrap (m.tdiv n)=r):gR C fr L (.binOp .quo xt x y yt) ty (.int k r):=λa w ha hw d pos af g=>by
 rw[fP a d pos af g (ha.tmp h1) (ha.tmp h2) ⟨ax,ax⟩];simp[Op.intDiv,h0,hr]
theorem l8{xt yt:TypeId}(h1:ev fr x=some (.int k m))(h2:ev fr y=some (.int k n))(h0:n≠0){r:Int}(hr:m.tmod n=r):gR C fr L (.binOp .rem xt x y yt) ty (.int k r):=λa w ha hw d pos af g=>by
 rw[fP a d pos af g (ha.tmp h1) (ha.tmp h2) ⟨ax,ax⟩];simp[Op.intDiv,h0,hr]
theorem kE{xt yt:TypeId}(h1:ev fr x=some (.int k m))(h2:ev fr y=some (.int k n)){r:Int}(hr:k.wrap ((BitVec.ofInt k.bits m &&& BitVec.ofInt k.bits n).toNat:Int)=r):gR C fr L (.binOp .and xt x y yt) ty (.int k r):=λa w ha hw d pos af g=>by
 rw[fP a d pos af g (ha.tmp h1) (ha.tmp h2) ⟨ax,ax⟩,<-hr];simp[Op.intBits]
theorem uC{xt yt:TypeId}(h1:ev fr x=some (.int k m))(h2:ev fr y=some (.int k n)){r:Int}(hr:k.wrap ((BitVec.ofInt k.bits m ||| BitVec.ofInt k.bits n).toNat:Int)=r):gR C fr L (.binOp .or xt x y yt) ty (.int k r):=λa w ha hw d pos af g=>by
 rw[fP a d pos af g (ha.tmp h1) (ha.tmp h2) ⟨ax,ax⟩,<-hr];simp[Op.intBits]
theorem lh{xt yt:TypeId}(h1:ev fr x=some (.int k m))(h2:ev fr y=some (.int k n)){r:Int}(hr:k.wrap ((BitVec.ofInt k.bits m ^^^ BitVec.ofInt k.bits n).toNat:Int)=r):gR C fr L (.binOp .xor xt x y yt) ty (.int k r):=λa w ha hw d pos af g=>by
 rw[fP a d pos af g (ha.tmp h1) (ha.tmp h2) ⟨ax,ax⟩,<-hr];simp[Op.intBits]
theorem gk{xt yt:TypeId}{k':IntKind}(h1:ev fr x=some (.int k m))(h2:ev fr y=some (.int k' n))(h0:0<=n){r:Int}(hr:k.wrap (m*2^min n.toNat k.bits)=r):gR C fr L (.binOp .shl xt x y yt) ty (.int k r):=λa w ha hw d pos af g=>by
 have hn:¬n<0:=by omega
 rw[<-hr];simp[execOp,ha.tmp h1,ha.tmp h2,binOp,Op.shift,eqGuard,hn]
theorem dv{xt yt:TypeId}{k':IntKind}(h1:ev fr x=some (.int k m))(h2:ev fr y=some (.int k' n))(h0:0<=n){r:Int}(hr:m.fdiv (2^min n.toNat k.bits)=r):gR C fr L (.binOp .shr xt x y yt) ty (.int k r):=λa w ha hw d pos af g=>by
 have hn:¬n<0:=by omega
 rw[<-hr];simp[execOp,ha.tmp h1,ha.tmp h2,binOp,Op.shift,eqGuard,hn]
theorem ai3{xt yt:TypeId}(h1:ev fr x=some (.int k m))(h2:ev fr y=some (.int k n)):gR C fr L (.binOp .eql xt x y yt) ty (.bool (decide (m=n))):=λa w ha hw d pos af g=>by
 rw[fP a d pos af g (ha.tmp h1) (ha.tmp h2) ⟨ax,ax⟩];simp[Op.intCmp];rfl
theorem ai7{xt yt:TypeId}(h1:ev fr x=some (.int k m))(h2:ev fr y=some (.int k n)):gR C fr L (.binOp .neq xt x y yt) ty (.bool (decide (¬m=n))):=λa w ha hw d pos af g=>by
 rw[fP a d pos af g (ha.tmp h1) (ha.tmp h2) ⟨ax,ax⟩];simp[Op.intCmp,bne];rfl
theorem yL{xt yt:TypeId}(h1:ev fr x=some (.int k m))(h2:ev fr y=some (.int k n)):gR C fr L (.binOp .lss xt x y yt) ty (.bool (decide (m<n))):=λa w ha hw d pos af g=>by
 rw[fP a d pos af g (ha.tmp h1) (ha.tmp h2) ⟨ax,ax⟩];simp[Op.intCmp]
theorem ai6{xt yt:TypeId}(h1:ev fr x=some (.int k m))(h2:ev fr y=some (.int k n)):gR C fr L (.binOp .leq xt x y yt) ty (.bool (decide (m<=n))):=λa w ha hw d pos af g=>by
 rw[fP a d pos af g (ha.tmp h1) (ha.tmp h2) ⟨ax,ax⟩];simp[Op.intCmp]
theorem ai5{xt yt:TypeId}(h1:ev fr x=some (.int k m))(h2:ev fr y=some (.int k n)):gR C fr L (.binOp .gtr xt x y yt) ty (.bool (decide (n<m))):=λa w ha hw d pos af g=>by
 rw[fP a d pos af g (ha.tmp h1) (ha.tmp h2) ⟨ax,ax⟩];simp[Op.intCmp]
theorem ai4{xt yt:TypeId}(h1:ev fr x=some (.int k m))(h2:ev fr y=some (.int k n)):gR C fr L (.binOp .geq xt x y yt) ty (.bool (decide (n<=m))):=λa w ha hw d pos af g=>by
 rw[fP a d pos af g (ha.tmp h1) (ha.tmp h2) ⟨ax,ax⟩];simp[Op.intCmp]
theorem jm{b:Bool}(h:ev fr x=some (.bool b)){xt:TypeId}:gR C fr L (.unOp .not xt x) ty (.bool !b):=λa w ha hw d pos af g=>by simp[execOp,ha.tmp h,Op.unary]
theorem Wz(h:ev fr x=some (.int k m)){xt:TypeId}{r:Int}(hr:k.wrap (0-m)=r):gR C fr L (.unOp .neg xt x) ty (.int k r):=λa w ha hw d pos af g=>by rw[<-hr];simp[execOp,ha.tmp h,Op.unary,Op.intArith]
theorem bm{s t:TypeId}{k':IntKind}(hs:C.P.underlying s=some (.int k))(ht:C.P.underlying t=some (.int k'))(h:ev fr x=some (.int k m)){r:Int}(hr:k'.wrap m=r):gR C fr L (.convert s t x) ty (.int k' r):=λa w ha hw d pos af g=>by
 rw[<-hr];simp[execOp,ha.tmp h,convert,jk hs,jk ht,Conv.intToInt]
theorem N'{vs:cZ}{i:Nat}(h:ev fr x=some (.tuple vs.toArray))(hi:vs[i]? =some v):gR C fr L (.extract x i) ty v:=λa w ha hw d pos af g=>by simp[execOp,ha.tmp h,Instr.extract,hi]
theorem K5{fn:Go.Fn}{uv bs:List Operand}{us vs:cZ}(h1:C9 fr uv=some us)(h2:C9 fr bs=some vs):gR C fr L (.makeFunc fn uv.toArray bs.toArray) ty (.func fn us.toArray vs.toArray):=λa w ha hw d pos af g=>by
 simp[execOp,Instr.makeFunc,ha.C9 h1,ha.C9 h2]
theorem K7{p:Addr}(h:ev fr x=some (.pointer (some p))):gR C fr L (.nilCheck x) ty (.pointer (some p)):=λa w ha hw d pos af g=>by simp[execOp,ha.tmp h]
theorem Oa{t:TypeId}{s:ByteArray}(ht:C.P.underlying t=some .string)(h:ev fr x=some (.string s)):gR C fr L (.call {callee:=.builtin .len,args:= #[x],argTypes:= #[t]}) ty (.int .i64 (s.size:Int)):=λa w ha hw d pos af g=>by
 simp[execOp,resolve,invoke,builtin,Builtin.len_,ha.tmp h,jk ht,goInt]
theorem pV{t e:TypeId}{A:bk}{n c:Nat}(ht:C.P.underlying t=some (.slice e))(h:ev fr x=some (.slice A n c)):gR C fr L (.call {callee:=.builtin .len,args:= #[x],argTypes:= #[t]}) ty (.int .i64 (n:Int)):=λa w ha hw d pos af g=>by
 simp[execOp,resolve,invoke,builtin,Builtin.len_,ha.tmp h,jk ht,goInt]
theorem yM{Dq:Array TypeId}(h1:ev fr x=some (.int k m))(h2:ev fr y=some (.int k n)):gR C fr L (.call {callee:=.builtin .min,args:= #[x,y],argTypes:=Dq}) ty (.int k (min m n)):=λa w ha hw d pos af g=>by
 have:(if n<m then n else m)=min m n:=by rw[Int.min_def];split<;>split<;>omega
 simp[execOp,resolve,invoke,builtin,Builtin.min_,Builtin.min2,ha.tmp h1,ha.tmp h2,this]
theorem K6{Dq:Array TypeId}(h1:ev fr x=some (.int k m))(h2:ev fr y=some (.int k n)):gR C fr L (.call {callee:=.builtin .max,args:= #[x,y],argTypes:=Dq}) ty (.int k (max m n)):=λa w ha hw d pos af g=>by
 have:(if m<n then n else m)=max m n:=by rw[Int.max_def];split<;>split<;>omega
 simp[execOp,resolve,invoke,builtin,Builtin.max_,Builtin.max2,ha.tmp h1,ha.tmp h2,this]
theorem HU{t:TypeId}{s:al}{i:Nat}(ht:C.P.underlying t=some .string)(h:ev fr x=some (.string ⟨s.toArray⟩))(h2:ev fr y=some (.int k m))(hm:m=(i:Int)){b:UInt8}(hb:s[i]? =some b):gR C fr L (.index t x y) ty (.int .u8 (b.toNat:Int)):=λa w ha hw d pos af g=>by
 subst hm;obtain⟨hi,hb⟩:=Bw.1 hb;have h3:(⟨s.toArray⟩:ByteArray)[i]? =some b:=by
  have jg:i<(⟨s.toArray⟩:ByteArray).size:=by show i<s.toArray.size;simpa using hi
  rw[getElem?_pos (⟨s.toArray⟩:ByteArray) i jg];show some (s.toArray[i]'_)=_;simp[hb]
 simp[execOp,Instr.index,asIntOf,ha.tmp h,ha.tmp h2,jk ht,h3]
theorem NP(s t:al):((⟨s.toArray⟩:ByteArray).toList==(⟨t.toArray⟩:ByteArray).toList)=decide (s=t):=by
 rw[ByteArray.toList_mk,ByteArray.toList_mk,Bool.eq_iff_iff];simp
end
end
end
section
theorem V0{P:Prop}(h:P:=by(simpa using k1)):P:=h
theorem IL{P:Prop}(h:P:=by(simp[Ch.fp,rC])):P:=h
theorem yo{P:Prop}(h:P:=by(rw[e])):P:=h
theorem Bx:type_of% @Bool.and_eq_true:= @Bool.and_eq_true
theorem LN:type_of% @World.grownBy_alloc:= @World.grownBy_alloc
theorem aX:type_of% @List.length_append:= @List.length_append
theorem kz:type_of% @Nat.add_mul:= @Nat.add_mul
theorem bX:type_of% @List.append_assoc:= @List.append_assoc
theorem zh:type_of% @List.take_left:= @List.take_left
theorem PE:type_of% @setRow_heap:= @setRow_heap
theorem LO:type_of% @Array.length_toList:= @Array.length_toList
theorem PF:type_of% @setRow_other:= @setRow_other
theorem mW:type_of% @List.nil_append:= @List.nil_append
theorem aay:type_of% @List.cons.injEq:= @List.cons.injEq
theorem Df:type_of% @Prod.mk.injEq:= @Prod.mk.injEq
theorem Ik:type_of% @Nat.mul_pos:= @Nat.mul_pos
theorem ae7:type_of% @Nat.le_mul_of_pos_right:= @Nat.le_mul_of_pos_right
def qA(P:Program)(t:TypeId):Bool:=(match P.underlying t with|none=>false|some (.struct _)=>false|some (.array _ _)=>false|some _=>true)&&((P.info? t).map (·.size)==some 1)
theorem y_{P:Program}{t:TypeId}(h:qA P t=true)(w:World):(isAgg t).run P w= .ok false w:=by
 unfold qA at h;unfold isAgg;cases hd:P.underlying t with
 |none=>simp[hd]at h
 |some d=>cases d<;>simp[jk hd]<;>simp[hd]at h
theorem aav{P:Program}{t:TypeId}(h:qA P t=true)(w:World):(sizeOf t).run P w= .ok 1 w:=by
 unfold qA at h;rw[Bx]at h;have h2:=h.2;cases hi:P.info? t with
 |none=>rw[hi]at h2;simp at h2
 |some i=>rw[hi]at h2;simp at h2;simp[sizeOf,typeInfo,hi,h2]
def p8(P:Program)(t:TypeId)(k:Nat):Bool:=(match P.underlying t with|some (.struct _)=>true|some (.array _ _)=>true|_=>false)&&((P.info? t).map (·.size)==some k)
theorem ae4{P:Program}{t:TypeId}{k:Nat}(h:p8 P t k=true)(w:World):(isAgg t).run P w= .ok true w:=by
 unfold p8 at h;unfold isAgg;cases hd:P.underlying t with
 |none=>simp[hd]at h
 |some d=>cases d<;>simp[jk hd]<;>simp[hd]at h
theorem aau{P:Program}{t:TypeId}{k:Nat}(h:p8 P t k=true)(w:World):(sizeOf t).run P w= .ok k w:=by
 unfold p8 at h;rw[Bx]at h;have h2:=h.2;cases hi:P.info? t with
 |none=>rw[hi]at h2;simp at h2
 |some i=>rw[hi]at h2;simp at h2;simp[sizeOf,typeInfo,hi,h2]
theorem Ie{P:Program}{t:TypeId}{k:Nat}(h:(P.info? t).map (·.size)=some k)(w:World):(sizeOf t).run P w= .ok k w:=by
 cases hi:P.info? t with
 |none=>rw[hi]at h;simp at h
 |some i=>rw[hi]at h;simp at h;simp[sizeOf,typeInfo,hi,h]
theorem DS{B:Nat}{w0 w:World}{L:aR}{g o:Nat}{bt:TypeId}{cs:cZ}{f:Ch->aR}{v:Value}(hw:SL B w0 L w)(hm:na (.bG g bt cs) L f)(hv:cs[o]? =some v):w.cell? ⟨g,o,none⟩=some v:=by
 have h:=(hw.all _ hm.mem).2.cell o;rw[h];simpa using hv
section
variable{C:Cx}{Q:Exit->Fr->aR->Prop}{fr j8:Fr}{L L':aR}{ops:Array Oper}{l:tx}{op:Op}{ty:TypeId}{pos:String}{af:Array Edge}{d:Nat}{v:Value}
variable{x y z:Operand}{k:IntKind}{m n:Int}{f:Ch->aR}{g o:Nat}{bt t e:TypeId}{cs:cZ}
theorem bQ(hs:qA C.P t=true)(he:ev fr x=some (.pointer (some ⟨g,o,none⟩)))(hm:na (.bG g bt cs) L f)(hv:cs[o]? =some v):gR C fr L (.load t x) ty v:=λa w ha hw d pos af gg=>by
 simp[execOp,Instr.loadAt,Instr.sureAddr,ha.tmp he,loadVar,y_ hs,DS hw hm hv]
theorem la{P:Program}{w:World}{p:Addr}{t:TypeId}{cs:cZ}(hs:p8 P t (E cs)=true)(h:∀j u,cs[j]? =some u->w.cell? (p.add j)=some u):(loadVar t p).run P w= .ok (.agg cs.toArray) w:=by
 simp[loadVar,ae4 hs,aau hs,run_loadCells_list w p cs h]
theorem bP(k:Nat)(hs:p8 C.P t k=true)(he:ev fr x=some (.pointer (some ⟨g,o,none⟩)))(hm:na (.bG g bt cs) L f)(us:cZ)(hu:(cs.drop o).take k=us)(hk:E us=k):gR C fr L (.load t x) ty (.agg us.toArray):=λa w ha hw d pos af gg=>by
 subst hk;have:=la (P:=C.P) (w:=w) (p:=⟨g,o,none⟩) hs (λj u hj=>by
  rw[Bu];refine DS hw hm ?_;rw[<-hu,If]at hj;split at hj
  ·rwa [k_7]at hj
  ·cases hj)
 simp[execOp,Instr.loadAt,Instr.sureAddr,ha.tmp he,this]
theorem NL{B:Nat}{w0 w:World}{size nn c j:Nat}{A:bk}{xs:cZ}{u:Value}(hb:aM B w0 L size (.slice A nn c) nn xs)(hw:SL B w0 L w)(hu:xs[j]? =some u)(hs:0<nn):∃ad,A=some ad∧w.cell? (ad.add j)=some u:=by
 obtain⟨A',c',hv,hc,hl,hr⟩:=hb w hw;injection hv with q1 q2 q3;subst q1;obtain⟨ad,h,_,fL⟩:=hr hs;exact⟨ad,h,fL j u hu⟩
theorem aE{size nn c i:Nat}{A:bk}{xs:cZ}(ht:C.P.underlying t=some (.slice e))(hz:(C.P.info? e).map (·.size)=some size)(he:ev fr x=some (.slice A nn c))(h2:ev fr y=some (.int k m))(hm:m=(i:Int))(hi:i<nn)(hb:aM C.B C.w0 L size (.slice A nn c) nn xs):
  gR C fr L (.indexAddr t x y) ty (.pointer (A.map (·.add (i*size)))):=λa w ha hw d pos af gg=>by
 subst hm;obtain⟨A',c',hv,hc,hl,hr⟩:=hb w hw;injection hv with q1 q2 q3;subst q1;obtain⟨ad,h,_,fL⟩:=hr aa;subst h;simp[execOp,Instr.indexAt,asIntOf,ha.tmp he,ha.tmp h2,jk ht,hi,Ie hz]
theorem au{size nn c j:Nat}{A:bk}{xs:cZ}(hs:qA C.P t=true)(he:ev fr x=some (.pointer (A.map (·.add j))))(hb:aM C.B C.w0 L size (.slice A nn c) nn xs)(hn:0<nn)(hv:xs[j]? =some v):gR C fr L (.load t x) ty v:=λa w ha hw d pos af gg=>by
 obtain⟨ad,rfl,hc⟩:=NL hb hw hv hn;simp[execOp,Instr.loadAt,Instr.sureAddr,ha.tmp he,loadVar,y_ hs,hc]
theorem eU{size nn c j q:Nat}{A:bk}{xs:cZ}(hs:qA C.P t=true)(he:ev fr x=some (.pointer (A.map (λad=>(ad.add j).add q))))(hb:aM C.B C.w0 L size (.slice A nn c) nn xs)(hn:0<nn)(hv:xs[j+q]? =some v):gR C fr L (.load t x) ty v:=λa w ha hw d pos af gg=>by
 obtain⟨ad,rfl,hc⟩:=NL hb hw hv hn;rw[<-l_]at hc;simp[execOp,Instr.loadAt,Instr.sureAddr,ha.tmp he,loadVar,y_ hs,hc]
theorem dq{size nn c j:Nat}{A:bk}{xs:cZ}(k:Nat)(hs:p8 C.P t k=true)(he:ev fr x=some (.pointer (A.map (·.add j))))(hb:aM C.B C.w0 L size (.slice A nn c) nn xs)(hn:0<nn)(us:cZ)(hu:∀q u,us[q]? =some u->xs[j+q]? =some u)(hk:E us=k):gR C fr L (.load t x) ty (.agg us.toArray):=λa w ha hw d pos af gg=>by
 subst hk;obtain⟨A',c',hv,hc,hl,hr⟩:=hb w hw;injection hv with q1 q2 q3;subst q1;obtain⟨ad,h,_,fL⟩:=hr hn;subst h;have:=la (P:=C.P) (w:=w) (p:=ad.add j) hs (λq u hq=>by rw[l_];exact fL _ _ (hu q u hq));simp[execOp,Instr.loadAt,Instr.sureAddr,ha.tmp he,this]
theorem HQ{fs:Array Field}{i:Nat}{fd:Field}{sz:Nat}(ht:C.P.underlying t=some (.struct fs))(hf:fs[i]? =some fd)(hz:(C.P.info? fd.type).map (·.size)=some (sz+1))(he:ev fr x=some (.pointer (some ⟨g,o,none⟩))){q:Nat}(hq:o+fd.offset=q):
  gR C fr L (.fieldAddr t x i) ty (.pointer (some ⟨g,q,none⟩)):=λa w ha hw d pos af gg=>by
 subst hq;have h0:¬(sz+1=0):=by omega
 simp[execOp,Instr.fieldAt,Instr.sureAddr,fieldPlace,ha.tmp he,jk ht,hf,Ie hz,Bu]
theorem yJ{fs:Array Field}{i j:Nat}{fd:Field}{sz size nn c:Nat}{A:bk}{xs:cZ}(ht:C.P.underlying t=some (.struct fs))(hf:fs[i]? =some fd)(hz:(C.P.info? fd.type).map (·.size)=some (sz+1))(he:ev fr x=some (.pointer (A.map (·.add j))))(hb:aM C.B C.w0 L size (.slice A nn c) nn xs)(hn:0<nn){q:Nat}(hq:fd.offset=q):
  gR C fr L (.fieldAddr t x i) ty (.pointer (A.map (λad=>(ad.add j).add q))):=λa w ha hw d pos af gg=>by
 subst hq;obtain⟨A',c',hv,hc,hl,hr⟩:=hb w hw;injection hv with q1 q2 q3;subst q1;obtain⟨ad,h,_,fL⟩:=hr hn;subst h;simp[execOp,Instr.fieldAt,Instr.sureAddr,fieldPlace,ha.tmp he,jk ht,hf,Ie hz]
theorem akP(P:Program)(w:World)(e:TypeId)(v:Value):(Instr.box e v).run P w= .ok (.pointer (some ⟨w.heap.size,0,none⟩)) (w.alloc (.cells v.cells e)):=by
 simp[Instr.box,newVar,newRow]
theorem SL.L_{B:Nat}{w0 w:World}{L:aR}(h:SL B w0 L w)(e:TypeId)(cs:cZ):SL B w0 (.bG w.heap.size e cs::L) (w.alloc (.cells cs.toArray e)):=
 h.gT (LN w _ none) ⟨h.base,ue.new w e cs.toArray⟩ (.inr ⟨_,rfl,gC _⟩)
theorem WI(he:ev fr x=some v)(hc:v.cells=cs.toArray):q8 C fr L (.box e x) ty (λp L'=>∃g,p= .pointer (some ⟨g,0,none⟩)∧L'= .bG g e cs::L):=λa w ha hw d pos af gg=>
 ⟨.pointer (some ⟨w.heap.size,0,none⟩),w.alloc (.cells v.cells e),_,.inl (by simp[execOp,ha.tmp he,akP]),⟨w.heap.size,rfl,rfl⟩,by rw[hc];exact hw.L_ e cs⟩
theorem ZJ{i:TypeInfo}{zv:Value}(hi:C.P.info? e=some i)(hz:i.zero=some zv)(hc:zv.cells=cs.toArray):q8 C fr L (.alloc e) ty (λp L'=>∃g,p= .pointer (some ⟨g,0,none⟩)∧L'= .bG g e cs::L):=λa w ha hw d pos af gg=>
 ⟨.pointer (some ⟨w.heap.size,0,none⟩),w.alloc (.cells zv.cells e),.bG w.heap.size e cs::L,.inl (by simp[execOp,Instr.alloc,zeroValue,typeInfo,hi,hz,newVar,newRow]),⟨w.heap.size,rfl,rfl⟩,by rw[hc];exact hw.L_ e cs⟩
theorem SL.RV{B:Nat}{w0 w w':World}{L:aR}{c c':Ch}{f:Ch->aR}(h:SL B w0 L w)(hs:na c L f)(hg:w.grownBy w' c.fp)(hc:c.holds B w->c'.holds B w')(hf:c'.fp=none∨c'.fp=c.fp∨∃g,c'.fp=some g∧w.heap.size<=g):SL B w0 (f c') w':=by
 obtain⟨R,h1,h2⟩:=hs.perm;have hp:=h.perm h1;exact(hp.MB hg (hc hp.head) hf).perm (h2 c').symm
theorem SL.store{B:Nat}{w0 w:World}{L:aR}{f:Ch->aR}{g o:Nat}{bt:TypeId}{cs:cZ}(h:SL B w0 L w)(hm:na (.bG g bt cs) L f)(u:Value):SL B w0 (f (.bG g bt (cs.set o u))) (w.setCell ⟨g,o,none⟩ u):=
 h.RV hm (zC (Pn w _) (.inl rfl) u) (λ⟨h1,h2⟩=>⟨h1,by have:=h2.agG o u;simpa using this⟩) (.inr (.inl rfl))
theorem vp{P:Program}{w:World}{p:Addr}{v u:Value}(hs:qA P t=true)(h1:v.oneCell'=true)(hc:w.cell? p=some u)(hf:w.frozen? p=false):(storeVar t p v).run P w= .ok () (w.setCell p v):=by
 have ui:v.cells= #[v]:=by cases v<;>simp_all[Value.cells,Value.oneCell']
 simp[storeVar,aav hs,ui,storeCells,Addr.add,run_store P w p v _ h1,hc,hf]
theorem pr(hs:qA C.P t=true)(he:ev fr x=some (.pointer (some ⟨g,o,none⟩)))(hv:ev fr y=some v)(h1:v.oneCell'=true)(hm:na (.bG g bt cs) L f)(ho:o<E cs):
  q8 C fr L (.store t x y) ty (λp L'=>L'=f (.bG g bt (cs.set o v))):=λa w ha hw d pos af gg=>by
 have hc:=DS hw hm (fc ho);have hf:=(hw.all _ hm.mem).2.frozen o;exact⟨undef,_,_,.inr ⟨by simp[execOp,Instr.storeAt,Instr.sureAddr,ha.tmp he,ha.tmp hv,vp hs h1 hc hf],rfl⟩,rfl,hw.store hm v⟩
theorem xe.append{P:Program}{t e:TypeId}{size bytes:Nat}{z:Value}(T:tA P t e size bytes z)(ty:TypeId){w:World}{B:Nat}{A:bk}{n c:Nat}{xs:cZ}(mO:xe w B e size A n c xs){B2:Nat}{x:Value}{m:Nat}{news:cZ}(hr:Rd w B2 size x m news)(h1:∀u∈news,u.oneCell'=true)(kx:(n+m)*bytes<=140737488355328)(yd:n+m<=140737488355328)(CB:B<=w.heap.size):
  ∃A' c' w',(Builtin.append_ #[t,t] ty #[.slice A n c,x]).run P w= .ok (.slice A' (n+m) c') w'∧xe w' B e size A' (n+m) c' (xs++news)∧w.grownBy w' (Ch.own e size A n c xs).fp∧
   ((Ch.own e size A' (n+m) c' (xs++news)).fp=none∨(Ch.own e size A' (n+m) c' (xs++news)).fp=(Ch.own e size A n c xs).fp∨∃g,(Ch.own e size A' (n+m) c' (xs++news)).fp=some g∧w.heap.size<=g):=by
 obtain⟨i,hi,hz,jg,Fc⟩:=T.hi;subst jg Fc;obtain⟨X,cx,rfl,hmc,hl,uM⟩:=hr;obtain⟨k1,k2,k3⟩:=mO;have aog:n+m<=maxLen:=by unfold maxLen;omega
 have hlen:E (xs++news)=(n+m)*i.size:=by rw[aX,k1,hl,kz]
 have big:∀old,old<n+m->xe (w.drew.alloc (.cells (xs.toArray++news.toArray++Builtin.zeroCells z.cells (grownCap w (n+m) old e-(n+m))) e)) B e i.size (some ⟨w.heap.size,0,none⟩) (n+m) (grownCap w (n+m) old e) (xs++news):=by
  intro old ho;have xx:=grownCap_ge w (n+m) old e;refine⟨hlen,xx,.inr ⟨w.heap.size,_,rfl,CB,FD w.drew _,grownCap_le_maxLen w (n+m) old e aog,?_,?_⟩⟩
  ·simp only[Array.size_append,xG,size_zeroCells,T.hz,k1,hl,<-kz];congr 1;omega
  ·simp only[Array.toList_append,bX];rw[<-bX,<-hlen];exact zh
 have Xc:∀(o:Obj) (row:Option Nat),w.grownBy (w.drew.alloc o) row:=λo row=>⟨rfl,rfl,rfl,ak,λk hk _=>heap_alloc_old w.drew o hk⟩
 have RO:∀c',0<c'->(Ch.own e i.size (some ⟨w.heap.size,0,none⟩) (n+m) c' (xs++news)).fp=some w.heap.size:=λc' h=>by simp[Ch.fp,Nat.pos_iff_ne_zero.1 h]
 rcases X with _|ad
 ·have hm:m=0:=by
   rcases xF m with h0|h0
   ·exact h0
   ·obtain⟨ad,h,_⟩:=uM h0;cases h
  subst hm;have hn:news=[]:=mS wM;subst hn;refine⟨A,c,w,?_,⟨V0,by simpa using k2,by simpa using k3⟩,Pn w _,.inr (.inl rfl)⟩;rcases A with _|a0
  ·simp[Builtin.append_,jk T.ht,sizeOf,typeInfo,hi,Builtin.lenOf,Builtin.firstCells,k2]
  ·simp[Builtin.append_,jk T.ht,sizeOf,typeInfo,hi,Builtin.lenOf,Builtin.firstCells,k2,storeCells]
 ·have Fg:∀j u,news[j]? =some u->w.cell? (ad.add j)=some u:=by
   intro j u hu;rcases xF m with h0|h0
   ·subst h0;have hn:news=[]:=mS wM;subst hn;simp at hu
   ·obtain⟨ad',h,_,hc⟩:=uM h0;injection h with h;subst h;exact hc j u hu
  by_cases rT:n+m<=c
  ·by_cases rC:c=0
   ·have hn0:n=0:=by omega
    have hm0:m=0:=by omega
    subst hn0 hm0 rC;have hn:news=[]:=mS wM;have hx:xs=[]:=mS V0;subst hn hx;refine⟨A,0,w,?_,⟨ak,ak,.inl rfl⟩,Pn w _,.inl rfl⟩;rcases A with _|a0
    ·simp[Builtin.append_,jk T.ht,sizeOf,typeInfo,hi,Builtin.lenOf,Builtin.firstCells,loadCells,loadCellsFrom]
    ·simp[Builtin.append_,jk T.ht,sizeOf,typeInfo,hi,Builtin.lenOf,Builtin.firstCells,loadCells,loadCellsFrom,storeCells]
   ·obtain⟨g,cur,rfl,hbg,hg,hcm,ui,p7⟩:=k3.resolve_left rC;have H9:n*i.size+E news<=cur.size:=by rw[hl,ui,<-kz];exact ph _ rT
    have hr:=run_append_room (P:=P) w t ty e i T.ht hi g n c cur hg ad m cx news hl Fg h1 rT H9;refine⟨_,_,_,hr,⟨hlen,rT,.inr ⟨g,_,rfl,hbg,PE w g cur _ e _ hg,hcm,?_,?_⟩⟩,?_,.inr (.inl IL)⟩
    ·simp only[xG,aX,eY,iG,LO];omega
    ·rw[p7,<-hlen];exact zh
    ·rw[show(Ch.own e i.size (some ⟨g,0,none⟩) n c xs).fp=some g by simp[Ch.fp,rC]];exact⟨rfl,rfl,rfl,ak,λk _ hk=>PF w g k _ (λe=>hk yo)⟩
  ·rcases A with _|a0
   ·have rC:c=0:=by
     rcases k3 with h|⟨g,_,h,_⟩
     ·exact h
     ·cases h
    have hn0:n=0:=by omega
    subst hn0 rC;have hx:xs=[]:=mS V0;subst hx;have hr:=run_append_nil (P:=P) w t ty e i z T.ht hi hz ad m cx news hl Fg aa aa (by simp only[lV]at kx;omega);have hb:=big 0 aa;simp only[lV,mW,Array.empty_append]at hb⊢;simp only[lV,mW]at RO;exact⟨_,_,_,hr,hb,Xc _ _,.inr (.inr ⟨_,RO _ (by have:=hb.2.1;omega),gC _⟩)⟩
   ·have holds:∀j u,xs[j]? =some u->w.cell? (a0.add j)=some u:=by
     intro j u hu;rcases k3 with h|⟨g,cur,h,_,hg,_,ui,p7⟩
     ·have hn0:n=0:=by omega
      subst hn0;have hx:xs=[]:=mS V0;subst hx;simp at hu
     ·injection h with h;subst h;rw[Bu,lV,cell_of_row w g j cur e (0,0) hg];rw[<-p7,If]at hu;split at hu
      ·simpa using hu
      ·cases hu
    have hr:=run_append_grow (P:=P) w t ty e i z T.ht hi hz a0 n c xs k1 holds ad m cx news hl Fg aa aa (growslice_fits aa kx);have hb:=big c aa;exact⟨_,_,_,hr,hb,Xc _ _,.inr (.inr ⟨_,RO _ (by have:=hb.2.1;omega),gC _⟩)⟩
theorem bW{size bytes:Nat}{zv:Value}(T:tA C.P t e size bytes zv){A:bk}{n c:Nat}{xs:cZ}(he:ev fr x=some (.slice A n c))(hs:na (.own e size A n c xs) L f){yv:Value}{m:Nat}{news:cZ}(hy:ev fr y=some yv)(hb:aM C.B C.w0 L size yv m news)(h1:∀u∈news,u.oneCell'=true)(kx:(n+m)*bytes<=140737488355328)(yd:n+m<=140737488355328):
  q8 C fr L (.call {callee:=.builtin .append,args:= #[x,y],argTypes:= #[t,t]}) ty (λp L'=>∃A' c',p= .slice A' (n+m) c'∧L'=f (.own e size A' (n+m) c' (xs++news))):=λa w ha hw d pos af gg=>by
 obtain⟨A',c',w',hr,h2,h3,h4⟩:=xe.append T ty (hw.all _ hs.mem) (hb w hw) h1 kx yd hw.base;refine⟨_,w',_,.inl ?_,⟨A',c',rfl,rfl⟩,hw.RV hs h3 (λ_=>h2) h4⟩;simp[execOp,resolve,invoke,builtin,ha.tmp he,ha.tmp hy,hr]
theorem SL.DH{B:Nat}{w0 w:World}{L:aR}(h:SL B w0 L w)(e:TypeId)(size:Nat)(A:bk):SL B w0 (.own e size A 0 0 []::L) w:=h.gT (Pn w _) ⟨ak,gC _,.inl rfl⟩ (.inl rfl)
theorem a_{cd:Code}(e:TypeId)(size:Nat)(A:bk)(h:VC C cd Q fr (.own e size A 0 0 []::L)):VC C cd Q fr L:=λa w ha hw=>h a w ha (hw.DH e size A)
theorem mK{size kk:Nat}{parts:List (Nat×Operand)}(ht:C.P.underlying t=some (.slice e))(hz:(C.P.info? e).map (·.size)=some size)(h0:0<size)(uL:0<kk)(hk:kk*size<=1048576){zv:Value}(hzero:(C.P.info? e).bind (·.zero)=some zv){us:List (Nat×Value)}(hp:parts.map (λp=>(p.1,ev fr p.2))=us.map (λp=>(p.1,some p.2)))(ami:Instr.fill (λi=>some (i*size,size)) ((Array.range (kk*size)).map (zv.cells[· %zv.cells.size]!)) us=some cs.toArray)(hl:E cs=kk*size):
  q8 C fr L (.buildSlice t kk parts.toArray) ty (λp L'=>∃A,p= .slice A kk kk∧L'= .own e size A kk kk cs::L):=λa w ha hw d pos af gg=>by
 have hps:parts.map (λp=>(p.1,a.eval p.2))=us:=by
  clear ami;induction parts generalizing us with
  |nil=>cases us with|nil=>rfl|cons _ _=>cases hp
  |cons p ps ih=>
   cases us with
   |nil=>cases hp
   |cons u us=>
    simp only[kh,aay,Df]at hp;obtain⟨⟨h1,h2⟩,h3⟩:=hp;simp only[kh,ha.tmp h2,h1,ih h3]
 cases hi:C.P.info? e with
 |none=>rw[hi]at hz;cases hz
 |some i=>
  rw[hi]at hz hzero;simp at hz hzero;subst hz;have Lz:¬(16777216<kk*i.size):=by omega
  refine⟨_,w.alloc (.cells cs.toArray e),_,.inl ?_,⟨some ⟨w.heap.size,0,none⟩,rfl,rfl⟩,hw.gT (LN w _ none) ⟨hl,gC _,?_⟩ ?_⟩
  ·have DD:¬kk*i.size=0:=Nat.ne_of_gt (Ik uL h0);simp[execOp,Instr.buildSlice,jk ht,sizeOf,typeInfo,zeroValue,hi,hzero,Lz,DD,hps,ami,newRow]
  ·by_cases DD:kk=0
   ·exact .inl DD
   ·exact .inr ⟨_,_,rfl,hw.base,FD w _,by unfold maxLen;have:=ae7 kk h0;omega,wM,by simp[<-hl]⟩
  ·by_cases DD:kk=0
   ·left;simp[Ch.fp,DD]
   ·right;exact⟨w.heap.size,by simp[Ch.fp,DD],gC _⟩
end
end
section
section
variable{C:Cx}{Q:Exit->Fr->aR->Prop}{fr j8:Fr}{L L':aR}{ops:Array Oper}{l:tx}{op:Op}{ty:TypeId}{pos:String}{af:Array Edge}{d:Nat}{v:Value}
variable{x y z:Operand}{k:IntKind}{m n:Int}{f:Ch->aR}{g o:Nat}{bt t e:TypeId}{cs:cZ}
theorem D9{P:Prop}(h:P:=by(simpa using h1)):P:=h
theorem LP:type_of% @List.drop_take:= @List.drop_take
theorem ki:type_of% @List.take_length:= @List.take_length
theorem zi:type_of% @Int.natCast_mul:= @Int.natCast_mul
theorem oo:type_of% @Int.toNat_natCast:= @Int.toNat_natCast
theorem cH:type_of% @Nat.mul_one:= @Nat.mul_one
theorem dQ:type_of% @congrArg:= @congrArg
theorem Qb(A:bk):A.map (·.add 0)=A:=by cases A<;>rfl
theorem bY{A:bk}{nn c i size:Nat}(ht:C.P.underlying t=some (.slice e))(hz:(C.P.info? e).map (·.size)=some size)(he:ev fr x=some (.slice A nn c))(hy:ev fr y=some (.int k m))(hm:m=(i:Int))(hi:i<=nn):
  gR C fr L (.slice t x (some y) none none) ty (.slice (if c=i then A else A.map (·.add (i*size))) (nn-i) (c-i)):=λa w ha hw d pos af gg=>by
 subst hm;simp[execOp,Instr.sliceAt,Instr.slice,Instr.sliceBounds,Instr.sliceBound,asIntOf,jk ht,ha.tmp he,ha.tmp hy,hi,Ie hz]
theorem bV{A:bk}{nn c i size:Nat}(ht:C.P.underlying t=some (.slice e))(hz:(C.P.info? e).map (·.size)=some size)(he:ev fr x=some (.slice A nn c))(hy:ev fr y=some (.int k m))(hm:m=(i:Int))(hi:i<=c):
  gR C fr L (.slice t x none (some y) none) ty (.slice A i c):=λa w ha hw d pos af gg=>by
 subst hm;simp[execOp,Instr.sliceAt,Instr.slice,Instr.sliceBounds,Instr.sliceBound,asIntOf,jk ht,ha.tmp he,ha.tmp hy,hi,Ie hz,Qb]
theorem eJ{A:bk}{nn c i j size:Nat}{k':IntKind}(ht:C.P.underlying t=some (.slice e))(hz:(C.P.info? e).map (·.size)=some size)(he:ev fr x=some (.slice A nn c))(hy:ev fr y=some (.int k m))(hm:m=(i:Int))(wC:ev fr z=some (.int k' n))(hn:n=(j:Int))(Jv:i<=j)(hj:j<=c):
  gR C fr L (.slice t x (some y) (some z) none) ty (.slice (if c=i then A else A.map (·.add (i*size))) (j-i) (c-i)):=λa w ha hw d pos af gg=>by
 subst hm;subst hn;simp[execOp,Instr.sliceAt,Instr.slice,Instr.sliceBounds,Instr.sliceBound,asIntOf,jk ht,ha.tmp he,ha.tmp hy,ha.tmp wC,Jv,hj,Ie hz]
theorem extract_mk(s:al)(i j:Nat):(⟨s.toArray⟩:ByteArray).extract i j=⟨((s.take j).drop i).toArray⟩:=by
 apply ByteArray.ext;rw[ByteArray.data_extract];simp[List.extract_eq_take_drop,LP]
theorem DR(s:al):(⟨s.toArray⟩:ByteArray).size=E s:=by simp[ByteArray.size]
theorem SD{s:al}{i:Nat}(ht:C.P.underlying t=some .string)(he:ev fr x=some (.string ⟨s.toArray⟩))(hy:ev fr y=some (.int k m))(hm:m=(i:Int))(hi:i<=E s):
  gR C fr L (.slice t x (some y) none none) ty (.string ⟨(s.drop i).toArray⟩):=λa w ha hw d pos af gg=>by
 subst hm;have h1:s.take (E s)=s:=ki;simp[execOp,Instr.sliceAt,Instr.slice,Instr.sliceBounds,Instr.sliceBound,asIntOf,jk ht,ha.tmp he,ha.tmp hy,DR,hi,extract_mk]
theorem EF{s:al}{i:Nat}(ht:C.P.underlying t=some .string)(he:ev fr x=some (.string ⟨s.toArray⟩))(hy:ev fr y=some (.int k m))(hm:m=(i:Int))(hi:i<=E s):
  gR C fr L (.slice t x none (some y) none) ty (.string ⟨(s.take i).toArray⟩):=λa w ha hw d pos af gg=>by
 subst hm;simp[execOp,Instr.sliceAt,Instr.slice,Instr.sliceBounds,Instr.sliceBound,asIntOf,jk ht,ha.tmp he,ha.tmp hy,DR,hi,extract_mk]
theorem tg{P:Program}{w:World}{op:BinOp}{xt:TypeId}(a:Act)(d:Option Tmp)(pos:String)(af:Array Edge)(gg:Option (Nat×Bool)){yt:TypeId}{s r:ByteArray}(h1:a.eval x= .string s)(h2:a.eval y= .string r)(hs:op≠ .shl∧op≠ .shr):
  (execOp a.eval ⟨d,.binOp op xt x y yt,ty,pos,af,gg⟩).run P w=((Op.stringOp op s r).run P w).andThen λv w=>.ok (.value v) w:=by
 have he:(eqGuard op xt x y (.string s) (.string r)).run P w= .ok () w:=by cases op<;>simp[eqGuard]
 obtain⟨lK,j_⟩:=hs;cases op<;>simp_all[execOp,binOp]
theorem KD(s r:al):(s==r)=decide (s=r):=by rw[Bool.eq_iff_iff];simp
section
variable{s r:al}{xt yt:TypeId}
theorem Zz(h1:ev fr x=some (.string ⟨s.toArray⟩))(h2:ev fr y=some (.string ⟨r.toArray⟩)):gR C fr L (.binOp .eql xt x y yt) ty (.bool (decide (s=r))):=λa w ha hw d pos af gg=>by
 rw[tg a d pos af gg (ha.tmp h1) (ha.tmp h2) ⟨ax,ax⟩];simp[Op.stringOp,KD]
theorem I8(h1:ev fr x=some (.string ⟨s.toArray⟩))(h2:ev fr y=some (.string ⟨r.toArray⟩)):gR C fr L (.binOp .neq xt x y yt) ty (.bool (decide (¬s=r))):=λa w ha hw d pos af gg=>by
 rw[tg a d pos af gg (ha.tmp h1) (ha.tmp h2) ⟨ax,ax⟩];simp[Op.stringOp,KD]
theorem ZA(h1:ev fr x=some (.string ⟨s.toArray⟩))(h2:ev fr y=some (.string ⟨r.toArray⟩)):gR C fr L (.binOp .gtr xt x y yt) ty (.bool (!(Op.bytesLess s r||decide (s=r)))):=λa w ha hw d pos af gg=>by
 rw[tg a d pos af gg (ha.tmp h1) (ha.tmp h2) ⟨ax,ax⟩];simp[Op.stringOp,KD]
theorem AW(h1:ev fr x=some (.string ⟨s.toArray⟩))(h2:ev fr y=some (.string ⟨r.toArray⟩))(hl:E s+E r<=9223372036854775807):gR C fr L (.binOp .add xt x y yt) ty (.string ⟨(s++r).toArray⟩):=λa w ha hw d pos af gg=>by
 rw[tg a d pos af gg (ha.tmp h1) (ha.tmp h2) ⟨ax,ax⟩];have h3:((⟨s.toArray⟩:ByteArray)++(⟨r.toArray⟩:ByteArray))=⟨(s++r).toArray⟩:=ByteArray.mk_append_mk s r;have h4:(E s:Int)+(E r:Int)<=9223372036854775807:=by omega
 simp[Op.stringOp,DR,h4,h3]
end
theorem pT{s:TypeId}{nn:Nat}{b:al}(h1:C.P.underlying s=some (.slice e))(h2:C.P.underlying e=some (.int .u8))(h3:C.P.underlying t=some .string)(he:ev fr x=some v)(hb:aM C.B C.w0 L 1 v nn (bv b)):gR C fr L (.convert s t x) ty (.string ⟨b.toArray⟩):=λa w ha hw d pos af gg=>by
 simp[execOp,ha.tmp he,agz h1 h2 h3 (hb w hw)]
theorem yI{b b':Bool}{xt yt:TypeId}(ht:C.P.underlying xt=some .bool)(h1:ev fr x=some (.bool b))(h2:ev fr y=some (.bool b')):gR C fr L (.binOp .eql xt x y yt) ty (.bool (decide (b=b'))):=λa w ha hw d pos af gg=>by
 have he:(eqGuard .eql xt x y (.bool b) (.bool b')).run C.P w= .ok () w:=by simp[eqGuard]
 have e1:(binOp .eql xt (.bool b) (.bool b')).run C.P w= .ok (.bool (decide (b=b'))) w:=by
  simp only[binOp];simp[run_equal_bool w xt b b' ht];rfl
 simp only[execOp,ha.tmp h1,ha.tmp h2,LK,he,e1,uV,Ig]
theorem Oc{p:bk}{xt yt:TypeId}(ht:C.P.underlying xt=some (.pointer (C.P.pointee xt)))(h1:ev fr x=some (.pointer p))(h2:ev fr y=some (.pointer none)):gR C fr L (.binOp .eql xt x y yt) ty (.bool p.isNone):=λa w ha hw d pos af gg=>by
 have he:(eqGuard .eql xt x y (.pointer p) (.pointer none)).run C.P w= .ok () w:=by simp[eqGuard]
 simp only[execOp,ha.tmp h1,ha.tmp h2,LK,he,run_eql_pointer_nil w xt p ht,uV,Ig]
theorem K8{p:bk}{xt yt:TypeId}(ht:C.P.underlying xt=some (.pointer (C.P.pointee xt)))(h1:ev fr x=some (.pointer p))(h2:ev fr y=some (.pointer none)):gR C fr L (.binOp .neq xt x y yt) ty (.bool (!p.isNone)):=λa w ha hw d pos af gg=>by
 have he:(eqGuard .neq xt x y (.pointer p) (.pointer none)).run C.P w= .ok () w:=by simp[eqGuard]
 simp only[execOp,ha.tmp h1,ha.tmp h2,LK,he,run_neq_pointer_nil w xt p ht,uV,Ig]
theorem ft{bytes:Nat}{zv:Value}(T:tA C.P t e 1 bytes zv)(LD:zv.cells= #[zv]){k':IntKind}{nn cc:Nat}(he:ev fr x=some (.int k m))(hm:m=(nn:Int))(hy:ev fr y=some (.int k' n))(hn:n=(cc:Int))(hle:nn<=cc)(kx:bytes*cc<=281474976710656)(yd:cc<=281474976710656):
  q8 C fr L (.makeSlice t x y) ty (λp L'=>∃A,p= .slice A nn cc∧L'= .own e 1 A nn cc (List.replicate nn zv)::L):=λa w ha hw d pos af gg=>by
 subst hm;subst hn;obtain⟨i,hi,hz,jg,Fc⟩:=T.hi;have hr:=run_make (P:=C.P) w t e i zv T.ht hi hz k k' (nn:Int) (cc:Int) aa aa (by rw[Fc,<-zi];omega) aa;simp only[oo,jg,cH]at hr;refine⟨.slice (some ⟨w.heap.size,0,none⟩) nn cc,w.alloc (.cells (madeCells zv.cells cc) e),_,.inl (by simp[execOp,ha.tmp he,ha.tmp hy,hr]),⟨some ⟨w.heap.size,0,none⟩,rfl,rfl⟩,hw.gT (LN w _ none) ⟨ak,hle,?_⟩ ?_⟩
 ·by_cases rC:cc=0
  ·exact .inl rC
  ·refine .inr ⟨_,_,rfl,hw.base,FD w _,Cl,by rw[LD];simp[madeCells],?_⟩;rw[LD,toList_madeCells_one,cH,List.take_replicate,xH hle]
 ·by_cases rC:cc=0
  ·left;simp[Ch.fp,rC]
  ·right;exact⟨w.heap.size,IL,gC _⟩
theorem xe.agG{w:World}{B:Nat}{e:TypeId}{size nn c j:Nat}{A:bk}{xs:cZ}(h:xe w B e size A nn c xs)(hj:j<E xs)(u:Value):∃ad,A=some ad∧(Ch.own e size A nn c xs).fp=some ad.block∧(∃u,w.cell? (ad.add j)=some u)∧w.frozen? (ad.add j)=false∧
  w.grownBy (w.setCell (ad.add j) u) (some ad.block)∧xe (w.setCell (ad.add j) u) B e size A nn c (xs.set j u):=by
 obtain⟨h1,h2,h3⟩:=h;have rC:¬c=0:=λh0=>by
  have:nn=0:=by omega
  subst this;simp at h1;simp[h1]at hj
 obtain⟨g,cur,rfl,k1,k2,k3,k4,k5⟩:=h3.resolve_left rC;have H7:(⟨g,0,none⟩:Addr).add j=⟨g,j,none⟩:=by rw[Bu,lV]
 have hjc:j<cur.size:=by
  have:=dQ List.length k5;simp at this;omega
 have aep:ue w g e cur:=k2;refine⟨_,rfl,IL,⟨cur[j],?_⟩,?_,zC (Pn w _) (.inl (by rw[H7])) u,D9,h2,.inr ⟨g,cur.setIfInBounds j u,rfl,k1,?_,k3,by simpa using k4,?_⟩⟩
 ·rw[H7,aep.cell j,Array.getElem?_eq_getElem hjc]
 ·rw[H7];exact aep.frozen j
 ·rw[H7];exact aep.agG j u
 ·rw[Array.toList_setIfInBounds,List.take_set,k5]
theorem ia{size nn c j:Nat}{A:bk}{xs:cZ}(hs:qA C.P t=true)(he:ev fr x=some (.pointer (A.map (·.add j))))(hv:ev fr y=some v)(h1:v.oneCell'=true)(hm:na (.own e size A nn c xs) L f)(hj:j<E xs):
  q8 C fr L (.store t x y) ty (λp L'=>L'=f (.own e size A nn c (xs.set j v))):=λa w ha hw d pos af gg=>by
 obtain⟨ad,rfl,RO,⟨u,hu⟩,hfz,hg,ho⟩:=xe.agG (hw.all _ hm.mem) hj v;exact⟨undef,_,_,.inr ⟨by simp[execOp,Instr.storeAt,Instr.sureAddr,ha.tmp he,ha.tmp hv,vp hs h1 hu hfz],rfl⟩,rfl,hw.RV hm (by rw[RO];exact hg) (λ_=>ho) (.inr (.inl rfl))⟩
theorem pX{size nn c j q:Nat}{A:bk}{xs:cZ}(hs:qA C.P t=true)(he:ev fr x=some (.pointer (A.map (λad=>(ad.add j).add q))))(hv:ev fr y=some v)(h1:v.oneCell'=true)(hm:na (.own e size A nn c xs) L f)(hj:j+q<E xs):
  q8 C fr L (.store t x y) ty (λp L'=>L'=f (.own e size A nn c (xs.set (j+q) v))):=λa w ha hw d pos af gg=>by
 obtain⟨ad,rfl,RO,⟨u,hu⟩,hfz,hg,ho⟩:=xe.agG (hw.all _ hm.mem) hj v;refine⟨undef,_,_,.inr ⟨?_,rfl⟩,rfl,hw.RV hm (by rw[RO];exact hg) (λ_=>ho) (.inr (.inl rfl))⟩;rw[<-l_]at hu hfz⊢;simp[execOp,Instr.storeAt,Instr.sureAddr,ha.tmp he,ha.tmp hv,vp hs h1 hu hfz]
def VQ(C:Cx)(ops:Array Oper)(L:aR)(Q:Fr->Prop)(l:tx)(fr:Fr):Prop:=∀a,qv C.N fr a->wpQuiet C.P ops (SL C.B C.w0 L) (λa'=>∃j8,qv C.N j8 a'∧Q j8) l a
theorem ab_{id:Nat}{l:tx}(hm:C.P.follows .mixedOrders=true)(hB:Region.lexB .any l.toArray=true)(h:VQ C l.toArray L (λj8=>Q .normal j8 L) l fr):VC C (.region id l.toArray true) Q fr L:=λa w ha hw=>by
 refine wp_region_quiet (C:=SL C.B C.w0 L) hm hB (hw.drewN 1) ?_;have:=h a ha;have Pa:∀(l:tx) (a:Act) {ops:Array Oper} {QQ VD:Act->Prop},(∀a,QQ a->VD a)->wpQuiet C.P ops (SL C.B C.w0 L) QQ l a->wpQuiet C.P ops (SL C.B C.w0 L) VD l a:=by
  intro l;induction l with
  |nil=>intro a ops QQ VD hq h;exact hq _ h
  |cons o l ih=>
   intro a ops QQ VD hq h;unfold wpQuiet at h⊢;split
   ·rename_i hw;rw[ao hw]at h;exact Oper.quiet_mono (λa h=>ih a hq h) h
   ·rename_i hw;rw[aw hw]at h;exact ih _ hq h
 simpa using Pa l a (λa' ⟨j8,h1,h2⟩ w' Ib=>⟨j8,L,h1,Ib,h2⟩) this
section
variable{QF:Fr->Prop}
theorem lO(j8:Fr)(hs:Sub fr j8)(h:QF j8):VQ C ops L QF [] fr:=λa ha=>wpQuiet_nil ⟨j8,ha.sub hs,h⟩
theorem bL(h:gR C fr L op ty v)(hd:Nat.blt d C.N=true)(k:VQ C ops L QF l ((d,v)::fr)):VQ C ops L QF (⟨some d,op,ty,pos,af,none⟩::l) fr:=λa ha=>
 wpQuiet_step λK hK=>by
  rw[ao (by rfl)];exact⟨v,λw hw=>by unfold Oper.quietAt;rw[h a w ha hw];exact⟨rfl,rfl⟩,hK _ (k _ (ha.put hd v))⟩
theorem gy{f:FuncId}{uv:List Operand}{Dq:Array TypeId}{vs:cZ}{R:rF}(hc:aK C.P f)(he:C9 fr uv=some vs)(h:dU C.P C.B C.w0 f vs L R)(hR:∀r L',R r L'->r=v∧L.Sublist L')(hd:Nat.blt d C.N=true)(k:VQ C ops L QF l ((d,v)::fr)):VQ C ops L QF (⟨some d,.call {callee:=.value (.func f),args:=uv.toArray,argTypes:=Dq},ty,pos,af,none⟩::l) fr:=λa ha=>
 wpQuiet_step λK hK=>by
  rw[ao (by rfl)];refine⟨v,λw hw=>?_,hK _ (k _ (ha.put hd v))⟩;unfold Oper.quietAt;rw[mL hc (fst:= #[]) (cap:= #[]) rfl,ha.C9 he,Array.append_empty,Array.empty_append];exact⟨rfl,(h w hw).mono λe w' ⟨r,L',he,hr,hs⟩=>by obtain⟨rfl,h2⟩:=hR r L' hr;exact⟨he,hs.sub h2⟩⟩
theorem G'{dd:Option Tmp}{gu:Nat×Bool}{QQ:Act->Prop}{a:Act}(hw:Region.wanted ⟨dd,op,ty,pos,af,some gu⟩ (yielded ops a.tmps)=true)(h:wpQuiet C.P ops (SL C.B C.w0 L) QQ (⟨dd,op,ty,pos,af,none⟩::l) a):
  wpQuiet C.P ops (SL C.B C.w0 L) QQ (⟨dd,op,ty,pos,af,some gu⟩::l) a:=by
 unfold wpQuiet at h⊢;rw[ao (by rfl)]at h;rw[ao hw];exact h
theorem G_{dd:Option Tmp}{gu:Nat×Bool}{QQ:Act->Prop}{a:Act}(hw:Region.wanted ⟨dd,op,ty,pos,af,some gu⟩ (yielded ops a.tmps)=false)(h:wpQuiet C.P ops (SL C.B C.w0 L) QQ l (a.put dd undef)):
  wpQuiet C.P ops (SL C.B C.w0 L) QQ (⟨dd,op,ty,pos,af,some gu⟩::l) a:=by
 unfold wpQuiet;rw[aw (by rw[hw];exact Bool.false_ne_true)];exact h
theorem Vr{dd:Option Tmp}{j t:Nat}{want:Bool}(hj:(ops[j]?).bind (·.dst)=some t)(ht:look t fr=some (.bool want))(k:VQ C ops L QF (⟨dd,op,ty,pos,af,none⟩::l) fr):
  VQ C ops L QF (⟨dd,op,ty,pos,af,some (j,want)⟩::l) fr:=λa ha=>
 G' ani (k a ha)
theorem Vq{j t:Nat}{want b:Bool}(hj:(ops[j]?).bind (·.dst)=some t)(ht:look t fr=some (.bool b))(hb:(b==want)=false)(hd:Nat.blt d C.N=true)(k:VQ C ops L QF l ((d,undef)::fr)):
  VQ C ops L QF (⟨some d,op,ty,pos,af,some (j,want)⟩::l) fr:=λa ha=>
 G_ ang (k _ (ha.put hd _))
theorem Vs{j t:Nat}{want:Bool}(hj:(ops[j]?).bind (·.dst)=some t)(ht:look t fr=some undef)(hd:Nat.blt d C.N=true)(k:VQ C ops L QF l ((d,undef)::fr)):
  VQ C ops L QF (⟨some d,op,ty,pos,af,some (j,want)⟩::l) fr:=λa ha=>
 G_ (z6 hj (ha.at_ _ _ ht)) (k _ (ha.put hd _))
theorem vB{j t:Nat}{want b:Bool}(hj:(ops[j]?).bind (·.dst)=some t)(ht:look t fr=some (.bool b))(hd:Nat.blt d C.N=true)(k1:b=want->VQ C ops L QF (⟨some d,op,ty,pos,af,none⟩::l) ((t,.bool want)::fr))(k2:b= !want->VQ C ops L QF l ((d,undef)::(t,.bool !want)::fr)):
  VQ C ops L QF (⟨some d,op,ty,pos,af,some (j,want)⟩::l) fr:=λa ha=>by
 by_cases hb:b=want
 ·exact G' aiq (k1 hb a (ha.bool ht hb))
 ·have RJ:b= !want:=by cases b<;>cases want<;>simp_all
  exact G_ aiq (k2 RJ _ ((ha.bool ht RJ).put hd _))
end
theorem iP{QF:Fr->Prop}{j t:Nat}{p:Prop}[Decidable p](hj:(ops[j]?).bind (·.dst)=some t)(ht:look t fr=some (.bool (decide p)))(hd:Nat.blt d C.N=true)(k1:p->VQ C ops L QF (⟨some d,op,ty,pos,af,none⟩::l) ((t,.bool true)::fr))(k2:¬p->VQ C ops L QF l ((d,undef)::(t,.bool false)::fr)):
  VQ C ops L QF (⟨some d,op,ty,pos,af,some (j,true)⟩::l) fr:=
 vB hj ht hd (λh=>k1 (oJ h)) (λh=>k2 (TK h))
theorem Ca{QF:Fr->Prop}{j t:Nat}{p:Prop}[Decidable p](hj:(ops[j]?).bind (·.dst)=some t)(ht:look t fr=some (.bool (decide p)))(hd:Nat.blt d C.N=true)(k1:¬p->VQ C ops L QF (⟨some d,op,ty,pos,af,none⟩::l) ((t,.bool false)::fr))(k2:p->VQ C ops L QF l ((d,undef)::(t,.bool true)::fr)):
  VQ C ops L QF (⟨some d,op,ty,pos,af,some (j,false)⟩::l) fr:=
 vB hj ht hd (λh=>k1 (TK h)) (λh=>k2 (oJ h))
end
end
section
theorem ng{P:Prop}(h:P:=by(simpa using h)):P:=h
theorem gl:type_of% @List.append_nil:= @List.append_nil
theorem zj:type_of% @decide_eq_decide:= @decide_eq_decide
theorem oK:type_of% @decide_eq_true:= @decide_eq_true
theorem oq:type_of% @decide_eq_false:= @decide_eq_false
theorem mX:type_of% @List.cons_append:= @List.cons_append
theorem jd:type_of% @List.take_append_drop:= @List.take_append_drop
theorem LQ:type_of% @List.drop_eq_getElem_cons:= @List.drop_eq_getElem_cons
theorem By:type_of% @List.perm_middle:= @List.perm_middle
theorem wD:type_of% @List.sublist_append_left:= @List.sublist_append_left
theorem Uo{w:World}{base:Nat}{e:TypeId}{v:Value}{n m:Nat}{xs ys:cZ}(h:w.ownsRow base e 1 v n xs)(hn:n=m)(hx:xs=ys):w.ownsRow base e 1 v m ys:=by subst hn;subst hx;exact h
def strs(l:ew):cZ:=l.map λt=>.string ⟨t.toArray⟩
@[simp] theorem amM(l k:ew):strs (l++k)=strs l++strs k:=by simp[strs]
@[simp] theorem amN(l:ew):E (strs l)=E l:=by simp[strs]
theorem agR(l:ew):∀u∈strs l,u.oneCell'=true:=by
 intro u hu;obtain⟨b,_,rfl⟩:=pC.1 hu;rfl
def ints(k:IntKind)(l:List Int):cZ:=l.map (.int k)
@[simp] theorem amm(k:IntKind)(l r:List Int):ints k (l++r)=ints k l++ints k r:=by simp[ints]
@[simp] theorem kW(k:IntKind)(l:List Int):E (ints k l)=E l:=by simp[ints]
theorem Fp(k:IntKind)(l:List Int):∀u∈ints k l,u.oneCell'=true:=by
 intro u hu;obtain⟨b,_,rfl⟩:=pC.1 hu;rfl
theorem bq{x:Int}(h1:-9223372036854775808<=x)(h2:x<=9223372036854775807):IntKind.i64.wrap x=x:=by rw[IntKind.wrap_i64];omega
theorem gj{x:Int}(h1:0<=x)(h2:x<18446744073709551616):IntKind.u64.wrap x=x:=by
 show x%2^64=x;exact Int.emod_eq_of_lt h1 h2
theorem ab'{x:Int}(h1:0<=x)(h2:x<256):IntKind.u8.wrap x=x:=by
 show x%2^8=x;exact Int.emod_eq_of_lt h1 h2
theorem am0{x:Int}(h1:0<=x)(h2:x<65536):IntKind.u16.wrap x=x:=by
 show x%2^16=x;exact Int.emod_eq_of_lt h1 h2
theorem aox{k:IntKind}{a b:Int}(h:a=b):some (Value.int k a)=some (.int k b):=by rw[h]
section
variable{C:Cx}{Q:Exit->Fr->aR->Prop}{fr j8:Fr}{L L':aR}{cd Hq:Code}{ops:Array Oper}{l:tx}{op:Op}{ty:TypeId}{pos:String}{af:Array Edge}{d:Nat}{v:Value}
variable{x y z:Operand}{k:IntKind}{m n:Int}{f:Ch->aR}{g o:Nat}{bt t e:TypeId}{cs:cZ}
def InJ(J:Fr->aR->Nat->Prop)(n:Nat)(Q:Exit->Fr->aR->Prop):Exit->Fr->aR->Prop
 | .normal,fr,L=>∃n',n'<n∧J fr L n'
 |e,fr,L=>Q e fr L
theorem aD(J:Fr->aR->Nat->Prop)(n0:Nat)(h0:J fr L n0)(round:∀n fr L,J fr L n->VC C cd (InJ J n Q) fr L):VC C (.loop cd) Q fr L:=λa w ha hw=>by
 refine wp_loop_ghost (λn a w=>∃fr L,J fr L n∧qv C.N fr a∧SL C.B C.w0 L w) n0 ⟨fr,L,h0,ha,hw⟩ ?_;rintro n a w ⟨fr,L,hJ,ha,hw⟩;refine zg (round n fr L hJ a w ha hw) λe a w ⟨fr,L,ha,hs,hq⟩=>?_;cases e with
 |normal=>
  obtain⟨n',k1,k2⟩:=hq;exact⟨n',k1,fr,L,k2,ha,hs⟩
 |_=>exact⟨fr,L,ha,hs,hq⟩
theorem av{J:Fr->aR->Nat->Prop}{n:Nat}(h:∃n',n'<n∧J fr L n'):InJ J n Q .normal fr L:=h
theorem aaO{J:Fr->aR->Nat->Prop}{n i:Nat}(h:Q (.exit i) fr L):InJ J n Q (.exit i) fr L:=h
theorem afj{J:Fr->aR->Nat->Prop}{n:Nat}(h:Q .ret fr L):InJ J n Q .ret fr L:=h
theorem abG{i:Nat}(h:Q (.exit i) fr L):aie C cd Q (.exit i) fr L:=h
theorem ahb(h:Q .ret fr L):aie C cd Q .ret fr L:=h
def InM(J:Fr->aR->Prop)(Q:Exit->Fr->aR->Prop):Exit->Fr->aR->Prop
 | .normal,fr,L=>J fr L
 |e,fr,L=>Q e fr L
theorem dY(J:Fr->aR->Prop)(h1:VC C cd (InM J Q) fr L)(h2:∀fr L,J fr L->VC C Hq Q fr L):VC C (.seq cd Hq) Q fr L:=
 ahR λa w ha hw=>zg (h1 a w ha hw) λe a w ⟨fr,L,ha,hs,hq⟩=>by
  cases e with
  |normal=>exact⟨fr,L,ha,hs,h2 _ _ hq⟩
  |_=>exact⟨fr,L,ha,hs,hq⟩
theorem bC{J:Fr->aR->Prop}(h:J fr L):InM J Q .normal fr L:=h
theorem aax{J:Fr->aR->Prop}{i:Nat}(h:Q (.exit i) fr L):InM J Q (.exit i) fr L:=h
theorem ae6{J:Fr->aR->Prop}(h:Q .ret fr L):InM J Q .ret fr L:=h
theorem ajN{i id:Nat}(hi:Nat.beq i id=false)(h:Q (.exit i) fr L):InB id Q (.exit i) fr L:=asL hi h
theorem b_{P:Program}{B:Nat}{w0:World}{f:FuncId}{fn:Func}{c:Code}{args:cZ}{R:rF}(hf:P.funcs[f]? =some fn)(N:Nat)(hN:fn.ntmps=N)(hb:fn.body=some c)(hl:Nat.ble (E args) N=true)(fr0:Fr)(hi:Ini N args fr0)(h:VC ⟨P,N,B,w0⟩ c (Dp P fn R) fr0 L):dU P B w0 f args L R:=by
 subst hN;exact arS hf hb (Nat.le_of_ble_eq_true hl) fr0 hi h
inductive Zp:Nat->cZ->bf->Fr->Prop where
 |nil {i:Nat} {uv:cZ}:Zp i uv [] []
 |cons {i k:Nat} {a:Value} {uv:cZ} {ks:bf} {r:Fr}:Nat.beq k i=true->Zp (i+1) uv ks r->Zp i (a::uv) (k::ks) ((k,a)::r)
 |und {i k:Nat} {ks:bf} {r:Fr}:Nat.ble i k=true->Zp i [] ks r->Zp i [] (k::ks) ((k,undef)::r)
theorem Zp.ini{N i:Nat}{uv:cZ}{ks:bf}{r:Fr}(h:Zp i uv ks r):∀pre:cZ,E pre=i->ks.all (Nat.blt · N)=true->Ini N (pre++uv) r:=by
 induction h with
 |nil=>intro _ _ _;trivial
 | @cons i k a uv ks r hk _ ih=>
  intro pre hp ha;simp only[List.all_cons,Bx]at ha;have e:=r9 hk;refine⟨⟨ha.1,?_⟩,?_⟩
  ·rw[e,<-hp];simp[List.getD]
  ·have:=ih (pre++[a]) (by simp[hp]) ha.2;simpa using this
 | @und i k ks r hk _ ih=>
  intro pre hp ha;simp only[List.all_cons,Bx]at ha;have e:=Nat.le_of_ble_eq_true hk;refine⟨⟨ha.1,?_⟩,ih pre hp ha.2⟩;rw[gl,List.getD,Bv aa];rfl
theorem fw{P:Program}{B:Nat}{w0:World}{f:FuncId}{fn:Func}{c:Code}{args:cZ}{R:rF}{fr0:Fr}(hf:P.funcs[f]? =some fn)(N:Nat)(ks:bf)(h:VC ⟨P,N,B,w0⟩ c (Dp P fn R) fr0 L)(hN:fn.ntmps=N:=by exact rfl)(hb:fn.body=some c:=by exact rfl)(hl:Nat.ble (E args) N=true:=by exact rfl)(ha:ks.all (Nat.blt · N)=true:=by exact rfl)(hi:Zp 0 args ks fr0:=by repeat (first|exact Zp.nil|(apply Zp.cons;exact rfl)|(apply Zp.und;exact rfl))):dU P B w0 f args L R:=
 b_ hf N hN hb hl fr0 (hi.ini [] rfl ha) h
theorem aQ{P:Program}{f:FuncId}{fn:Func}(hf:P.funcs[f]? =some fn)(hn:(fn.name== "runtime.NumGoroutine")=false)(hb:fn.body.isSome=true):aK P f:=by
 obtain⟨c,hc⟩:=Option.isSome_iff_exists.1 hb;exact⟨fn,c,hf,hn,hc⟩
theorem sM{s:al}{i:Nat}(ht:C.P.underlying t=some .string)(h:ev fr x=some (.string ⟨s.toArray⟩))(h2:ev fr y=some (.int k m))(hm:m=(i:Int))(hi:i<E s):gR C fr L (.index t x y) ty (.int .u8 ((s.getD i 0).toNat:Int)):=
 HU ht h h2 hm (by rw[fc hi];simp[List.getD,fc hi])
section
variable{nn c j:Nat}{A:bk}
theorem aM.len{B:Nat}{w0 w:World}{L:aR}{size n:Nat}{v:Value}{xs:cZ}(h:aM B w0 L size v n xs)(hw:SL B w0 L w):E xs=n*size:=by
 obtain⟨_,_,_,_,hl,_⟩:=h w hw;exact hl
theorem iR{b:al}(hs:qA C.P t=true)(he:ev fr x=some (.pointer (A.map (·.add (j*1)))))(hb:aM C.B C.w0 L 1 (.slice A nn c) nn (bv b))(hj:j<nn):gR C fr L (.load t x) ty (.int .u8 ((b.getD j 0).toNat:Int)):=λa w ha hw=>by
 have hl:=hb.len hw;simp at hl;rw[cH]at he;refine au hs he hb aa ?_ a w ha hw;simp[bv,List.getD,fc (show j<E b by omega)]
theorem gX{b:ew}(hs:qA C.P t=true)(he:ev fr x=some (.pointer (A.map (·.add (j*1)))))(hb:aM C.B C.w0 L 1 (.slice A nn c) nn (strs b))(hj:j<nn):gR C fr L (.load t x) ty (.string ⟨(b.getD j []).toArray⟩):=λa w ha hw=>by
 have hl:=hb.len hw;simp at hl;rw[cH]at he;refine au hs he hb aa ?_ a w ha hw;simp[strs,List.getD,fc (show j<E b by omega)]
theorem K4{b:List Int}{kk:IntKind}(hs:qA C.P t=true)(he:ev fr x=some (.pointer (A.map (·.add (j*1)))))(hb:aM C.B C.w0 L 1 (.slice A nn c) nn (ints kk b))(hj:j<nn):gR C fr L (.load t x) ty (.int kk (b.getD j 0)):=λa w ha hw=>by
 have hl:=hb.len hw;simp at hl;rw[cH]at he;refine au hs he hb aa ?_ a w ha hw;simp[ints,List.getD,fc (show j<E b by omega)]
end
theorem EO{zv:Value}{bytes:Nat}(T:tA C.P t e 1 bytes zv)(he:ev fr x=some v)(h1:v.oneCell'=true):q8 C fr L (.buildSlice t 1 #[(0,x)]) ty (λp L'=>∃A,p= .slice A 1 1∧L'= .own e 1 A 1 1 [v]::L):=λa w ha hw d pos af gg=>by
 obtain⟨i,hi,hz,jg,Fc⟩:=T.hi;have hv:v.cells= #[v]:=by cases v<;>simp_all[Value.cells,Value.oneCell']
 have hzs:=T.hz;refine⟨_,w.alloc (.cells #[v] e),_,.inl ?_,⟨some ⟨w.heap.size,0,none⟩,rfl,rfl⟩,hw.gT (LN w _ none) ⟨rfl,gC _,.inr ⟨_,_,rfl,hw.base,FD w _,ax,rfl,rfl⟩⟩ (.inr ⟨w.heap.size,rfl,gC _⟩)⟩;simp[execOp,Instr.buildSlice,jk T.ht,sizeOf,typeInfo,zeroValue,hi,hz,jg,ha.tmp he,Instr.fill,hv,hzs,newRow];simp[Array.range_succ,Array.range_zero']
theorem dL{zv:Value}{bytes d1 d2:Nat}{ty1 ty2:TypeId}{apj apk:String}{af1 af2:Array Edge}{s:Operand}{A:bk}{n c:Nat}{xs:cZ}(T:tA C.P t e 1 bytes zv)(he:ev fr x=some v)(h1:v.oneCell'=true)(hd1:Nat.blt d1 C.N=true)(hd2:Nat.blt d2 C.N=true)(hs:ev ((d1,.slice none 0 0)::fr) s=some (.slice A n c))(hsn:∀u,ev ((d1,u)::fr) s=ev ((d1,.slice none 0 0)::fr) s)(hl:na (.own e 1 A n c xs) L f)(kx:(n+1)*bytes<=140737488355328)(yd:n+1<=140737488355328)(kk:∀A1 A' c',VL C ops Q l ((d2,.slice A' (n+1) c')::(d1,.slice A1 1 1)::fr) (f (.own e 1 A' (n+1) c' (xs++[v])))):
  VL C ops Q (⟨some d1,.buildSlice t 1 #[(0,x)],ty1,apj,af1,none⟩::⟨some d2,.call {callee:=.builtin .append,args:= #[s,.tmp d1],argTypes:= #[t,t]},ty2,apk,af2,none⟩::l) fr L:=by
 refine mj (EO T he h1) hd1 ?_;rintro _ _ ⟨A1,rfl,rfl⟩;refine mj (bW (m:=1) (news:=[v]) T ((hsn _).trans hs) (.tl hl) (yv:=.slice A1 1 1) (by simp[ev,look]) (aM.own (List.Mem.head _)) (by simp[h1]) kx yd) hd2 ?_;rintro _ _ ⟨A2,c2,rfl,rfl⟩;intro a w ha hw;exact kk A1 A2 c2 a w ha hw.tail
theorem dG{p q:Prop}[Decidable p][Decidable q](h:p↔q):some (Value.bool (decide p))=some (.bool (decide q)):=by rw[zj.2 h]
theorem dS{q:Prop}[Decidable q](h:q):some (Value.bool true)=some (.bool (decide q)):=by rw[oK h]
theorem dR{q:Prop}[Decidable q](h:¬q):some (Value.bool false)=some (.bool (decide q)):=by rw[oq h]
theorem kr{b:Bool}{q:Prop}[Decidable q](h:b=true↔q):some (Value.bool b)=some (.bool (decide q)):=by
 cases b
 ·rw[oq ng]
 ·rw[oK ng]
theorem apV(n d:Nat)(base:Fr)(p:Prop)[Decidable p](hs:Sub fr base)(h1:VL C ops (λe fr L'=>e= .normal∧L'=L∧Sub fr base∧look d fr=some (.bool (decide p))) (l.take n) fr L)(h2:VL C ops Q (l.drop n) ((d,.bool (decide p))::base) L):VL C ops Q l fr L:=λa w ha hw=>by
 have Tf:∀(l1 l2:tx) (a:Act) (w:World),wpList C.P ops (λe a w=>e= .normal∧wpList C.P ops (lift C Q) l2 a w) l1 a w->wpList C.P ops (lift C Q) (l1++l2) a w:=by
  intro l1 l2;induction l1 with
  |nil=>intro a w h;exact h.2
  |cons o l1 ih=>
   intro a w h;rw[mX];unfold wpList at h⊢;split
   ·rename_i hwt;rw[ao hwt]at h;rcases h with h|⟨_,_,_,h,_⟩
    ·refine .inl ?_;unfold Oper.wp at h⊢;revert h;generalize (execOp a.eval o).run C.P w=r;intro h;unfold Oper.upon at h⊢;split<;>simp only at h
     ·exact ih _ _ h
     ·exact ih _ _ h
     ·exact ih _ _ h
     ·refine LM h λe w' he=>?_;cases e with
      |returned v=>exact ih _ _ he
      |panicked ch=>cases he.1
      |outgrown=>obtain⟨_,_,h,_⟩:=he;cases h
     ·exact Rows.mono h λv w' he=>ih _ _ he
     ·cases h.1
    ·cases h
   ·rename_i hwt;rw[aw hwt]at h;exact ih _ _ h
 have:=Tf (l.take n) (l.drop n) a w ?_
 ·rwa [jd]at this
 ·have hm:∀(l1:tx) (a:Act) (w:World) {QQ VD:Exit->Act->World->Prop},(∀e a w,QQ e a w->VD e a w)->wpList C.P ops QQ l1 a w->wpList C.P ops VD l1 a w:=by
   intro l1;induction l1 with
   |nil=>intro a w QQ VD hq h;exact hq _ _ _ h
   |cons o l1 ih=>
    intro a w QQ VD hq h;unfold wpList at h⊢;split
    ·rename_i hwt;rw[ao hwt]at h;rcases h with h|⟨h1,a0,w0',h2⟩
     ·refine .inl ?_;unfold Oper.wp at h⊢;revert h;generalize (execOp a.eval o).run C.P w=r;intro h;unfold Oper.upon at h⊢;split<;>simp only at h
      ·exact ih _ _ hq h
      ·exact ih _ _ hq h
      ·exact ih _ _ hq h
      ·refine LM h λe w' he=>?_;cases e with
       |returned v=>exact ih _ _ hq he
       |panicked ch=>exact hq _ _ _ he
       |outgrown=>obtain⟨a1,w1,h⟩:=he;exact⟨a1,w1,hq _ _ _ h⟩
      ·exact Rows.mono h λv w' he=>ih _ _ hq he
      ·exact hq _ _ _ h
     ·exact .inr ⟨h1,a0,w0',hq _ _ _ h2⟩
    ·rename_i hwt;rw[aw hwt]at h;exact ih _ _ hq h
  refine hm _ _ _ ?_ (h1 a w ha hw);rintro e a w ⟨j8,L',Bj,Ib,rfl,rfl,hb,hd⟩;refine⟨rfl,h2 a w ⟨Bj.defers,Bj.size,λt v ht=>?_⟩ Ib⟩;unfold look at ht;cases Bk:Nat.beq d t with
  |true=>
   have:=r9 Bk;subst this;rw[Bk]at ht;simp only[Ii,FE]at ht;subst ht;exact Bj.at_ _ _ hd
  |false=>
   rw[Bk]at ht;exact Bj.at_ _ _ (hb.look _ _ ht)
theorem Vj{base:Fr}{d:Nat}{u:Value}(hb:Sub fr base)(hd:look d fr=some u):VL C ops (λe fr L'=>e= .normal∧L'=L∧Sub fr base∧look d fr=some u) [] fr L:=λa w ha hw=>wpList_nil ⟨fr,L,ha,hw,rfl,rfl,hb,hd⟩
theorem apY{QF:Fr->Prop}(n d:Nat)(base:Fr)(p:Prop)[Decidable p](hs:Sub fr base)(h1:VQ C ops L (λfr=>Sub fr base∧look d fr=some (.bool (decide p))) (l.take n) fr)(h2:VQ C ops L QF (l.drop n) ((d,.bool (decide p))::base)):VQ C ops L QF l fr:=λa ha=>by
 have Tf:∀(l1 l2:tx) (a:Act) {QQ:Act->Prop},wpQuiet C.P ops (SL C.B C.w0 L) (λa=>wpQuiet C.P ops (SL C.B C.w0 L) QQ l2 a) l1 a->wpQuiet C.P ops (SL C.B C.w0 L) QQ (l1++l2) a:=by
  intro l1 l2;induction l1 with
  |nil=>intro a QQ h;exact h
  |cons o l1 ih=>
   intro a QQ h;rw[mX];unfold wpQuiet at h⊢;split
   ·rename_i hw;rw[ao hw]at h;exact Oper.quiet_mono (λa h=>ih a h) h
   ·rename_i hw;rw[aw hw]at h;exact ih _ h
 have Pa:∀(l:tx) (a:Act) {QQ VD:Act->Prop},(∀a,QQ a->VD a)->wpQuiet C.P ops (SL C.B C.w0 L) QQ l a->wpQuiet C.P ops (SL C.B C.w0 L) VD l a:=by
  intro l;induction l with
  |nil=>intro a QQ VD hq h;exact hq _ h
  |cons o l ih=>
   intro a QQ VD hq h;unfold wpQuiet at h⊢;split
   ·rename_i hw;rw[ao hw]at h;exact Oper.quiet_mono (λa h=>ih a hq h) h
   ·rename_i hw;rw[aw hw]at h;exact ih _ hq h
 have:=Tf (l.take n) (l.drop n) a (QQ:=λa'=>∃j8,qv C.N j8 a'∧QF j8) (Pa _ _ (λa h=>?_) (h1 a ha))
 ·rwa [jd]at this
 ·obtain⟨j8,Bj,hb,hd⟩:=h;refine h2 a ⟨Bj.defers,Bj.size,λt v ht=>?_⟩;unfold look at ht;cases Bk:Nat.beq d t with
  |true=>
   have:=r9 Bk;subst this;rw[Bk]at ht;simp only[Ii,FE]at ht;subst ht;exact Bj.at_ _ _ hd
  |false=>
   rw[Bk]at ht;exact Bj.at_ _ _ (hb.look _ _ ht)
theorem Vp{base:Fr}{d:Nat}{u:Value}(hb:Sub fr base)(hd:look d fr=some u):VQ C ops L (λfr=>Sub fr base∧look d fr=some u) [] fr:=λa ha=>wpQuiet_nil ⟨fr,ha,hb,hd⟩
theorem adu{p:Prop}[Decidable p]{xt:TypeId}(h:ev fr x=some (.bool (decide p))):gR C fr L (.unOp .not xt x) ty (.bool (decide (¬p))):=λa w ha hw d pos af g=>by
 have e:(!decide p)=decide (¬p):=by by_cases hp:p<;>simp[hp]
 rw[<-e];exact jm h a w ha hw d pos af g
theorem Om{zv:Value}(hz:(C.P.info? e).bind (·.zero)=some zv)(hc:zv.cells=cs.toArray):q8 C fr L (.alloc e) ty (λp L'=>∃g,p= .pointer (some ⟨g,0,none⟩)∧L'= .bG g e cs::L):=by
 cases hi:C.P.info? e with
 |none=>rw[hi]at hz;cases hz
 |some i=>
  rw[hi]at hz;exact ZJ hi hz hc
theorem Zy{t:TypeId}{s:al}(ht:C.P.underlying t=some .string)(h:ev fr x=some (.string ⟨s.toArray⟩)):gR C fr L (.call {callee:=.builtin .len,args:= #[x],argTypes:= #[t]}) ty (.int .i64 (E s:Int)):=by
 have:=Oa (L:=L) (ty:=ty) ht h
 rwa [DR]at this
theorem aY{α:Type}{l:List α}{k:Nat}(h:k<E l)(d:α):l.take (k+1)=l.take k++[l.getD k d]:=by
 rw[List.take_succ_eq_append_getElem h];simp[List.getD,fc h]
theorem dD{α:Type}{l:List α}{k:Nat}(h:k<E l)(d:α):l.drop k=l.getD k d::l.drop (k+1):=by
 rw[LQ h];simp[List.getD,fc h]
theorem bj{α:Type}{l:List α}{k:Nat}(h:k<E l)(d:α):l.getD k d∈l:=by
 simp[List.getD,fc h]
theorem dU.BK{P:Program}{B:Nat}{w0:World}{ff:FuncId}{args:cZ}{size n:Nat}{xs:cZ}(h:∀w,SL B w0 L w->Calls P ff args.toArray w λe' w'=>∃v,e'= .returned v∧w'.ownsRow w.heap.size e size v n xs∧Below w.heap.size w w'):
  dU P B w0 ff args L (λr L'=>∃A c,r= .slice A n c∧L'= .own e size A n c xs::L):=λw hw=>(h w hw).mono λe' w' ⟨v,he,ho,hb⟩=>by
 have hg:w.grownBy w' none:=⟨hb.os,hb.tape,hb.output,hb.size,λk hk _=>hb.block k hk⟩
 rcases ho.2 with⟨rfl,rfl⟩|⟨g,cap,cur,rfl,h1,h2,h3,h4,h5,h6⟩
 ·exact⟨_,_,he,⟨none,0,rfl,rfl⟩,hw.gT hg ⟨ho.1,gC _,.inl rfl⟩ (.inl rfl)⟩
 ·refine⟨_,_,he,⟨_,_,rfl,rfl⟩,hw.gT hg ⟨ho.1,h3,.inr ⟨g,cur,rfl,jz hw.base h1,h2,h4,h5,h6⟩⟩ ?_⟩;by_cases hc:cap=0
  ·left;simp[Ch.fp,hc]
  ·right;exact⟨g,by simp[Ch.fp,hc],h1⟩
theorem xY{tt:Nat}{p:Prop}[Decidable p](hc:look tt fr=some (.bool (decide p)))(ht:p->VC C cd Q ((tt,.bool true)::fr) L)(hf:¬p->VC C Hq Q ((tt,.bool false)::fr) L):VC C (.cond (.tmp tt) cd Hq) Q fr L:=λa w ha hw=>
 ab3 (C:=C) (Q:=Q) (fr:=fr) (c:=.tmp tt) hc (λh a w ha hw=>ht h a w (ha.bool hc (oK h)) hw) (λh a w ha hw=>hf h a w (ha.bool hc (oq h)) hw) a w ha hw
theorem ahQ{tt:Nat}{b:Bool}(hc:look tt fr=some (.bool b))(ht:b=true->VC C cd Q ((tt,.bool true)::fr) L)(hf:b=false->VC C Hq Q ((tt,.bool false)::fr) L):VC C (.cond (.tmp tt) cd Hq) Q fr L:=λa w ha hw=>
 YL (C:=C) (Q:=Q) (fr:=fr) (c:=.tmp tt) hc (λh a w ha hw=>ht h a w (ha.bool hc h) hw) (λh a w ha hw=>hf h a w (ha.bool hc h) hw) a w ha hw
def Wk(L L':aR):Prop:=∃M,L.Perm (L'++M)
theorem Wk.refl(L:aR):Wk L L:=⟨[],by rw[gl]⟩
theorem Wk.dK(h:L.Perm L'):Wk L L':=⟨[],by rwa [gl]⟩
theorem Wk.skip{c:Ch}(h:Wk L L'):Wk (c::L) L':=by
 obtain⟨M,h⟩:=h;exact⟨c::M,(h.cons c).trans (By.symm)⟩
theorem Wk.s2{c0 c1:Ch}(h:Wk L L'):Wk (c0::c1::L) L':=.skip (.skip h)
theorem Wk.s3{c0 c1 c2:Ch}(h:Wk L L'):Wk (c0::c1::c2::L) L':=.skip (.skip (.skip h))
theorem Wk.s4{c0 c1 c2 c3:Ch}(h:Wk L L'):Wk (c0::c1::c2::c3::L) L':=.skip (.skip (.skip (.skip h)))
theorem Wk.s5{c0 c1 c2 c3 c4:Ch}(h:Wk L L'):Wk (c0::c1::c2::c3::c4::L) L':=.skip (.skip (.skip (.skip (.skip h))))
theorem Wk.s6{c0 c1 c2 c3 c4 c5:Ch}(h:Wk L L'):Wk (c0::c1::c2::c3::c4::c5::L) L':=.skip (.skip (.skip (.skip (.skip (.skip h)))))
theorem Wk.s7{c0 c1 c2 c3 c4 c5 c6:Ch}(h:Wk L L'):Wk (c0::c1::c2::c3::c4::c5::c6::L) L':=.skip (.skip (.skip (.skip (.skip (.skip (.skip h))))))
theorem Wk.s8{c0 c1 c2 c3 c4 c5 c6 c7:Ch}(h:Wk L L'):Wk (c0::c1::c2::c3::c4::c5::c6::c7::L) L':=.skip (.skip (.skip (.skip (.skip (.skip (.skip (.skip h)))))))
theorem Wk.cons{c:Ch}(h:Wk L L'):Wk (c::L) (c::L'):=by
 obtain⟨M,h⟩:=h;exact⟨M,h.cons c⟩
theorem Wk.swap{a b:Ch}(h:Wk (b::a::L) L'):Wk (a::b::L) L':=by
 obtain⟨M,h⟩:=h;exact⟨M,(List.Perm.swap b a L).trans h⟩
theorem Wk.trans{L'':aR}(h:Wk L L')(k:Wk L' L''):Wk L L'':=by
 obtain⟨M,h⟩:=h;obtain⟨N,k⟩:=k;exact⟨N++M,h.trans ((k.append_right M).trans (by rw[bX]))⟩
theorem Wk.sl{B:Nat}{w0 w:World}(h:Wk L L')(hs:SL B w0 L w):SL B w0 L' w:=by
 obtain⟨M,h⟩:=h;exact(hs.perm h).sub (wD _ _)
theorem vy(h:Wk L L')(k:VC C cd Q fr L'):VC C cd Q fr L:=λa w ha hw=>k a w ha (h.sl hw)
theorem ahT(h:Wk L L')(k:VL C ops Q l fr L'):VL C ops Q l fr L:=λa w ha hw=>k a w ha (h.sl hw)
theorem az{e:TypeId}{size n n' c:Nat}{A:bk}{xs ys:cZ}(hn:n=n')(h:xs=ys)(t:Wk L L'):Wk (Ch.own e size A n c xs::L) (Ch.own e size A n' c ys::L'):=by subst hn;subst h;exact t.cons
theorem bw{g:Nat}{t:TypeId}{xs ys:cZ}(h:xs=ys)(k:Wk L L'):Wk (Ch.bG g t xs::L) (Ch.bG g t ys::L'):=by subst h;exact k.cons
theorem aq{P:Program}{fn:Func}{R:rF}{ee:Exit}(hs:Wk L L')(h:Dp P fn R ee fr L'):Dp P fn R ee fr L:=by
 cases ee<;>first
  |exact h
  |(intro B w0 a w ha hw;exact h B w0 a w ha (hs.sl hw))
abbrev br(g:Nat):Value:=.pointer (some ⟨g,0,none⟩)
abbrev ah(x:Int):Value:=.int .i64 x
end
end
end Go.Proofs.YtaodmbolhoafcaaGreatDoor
