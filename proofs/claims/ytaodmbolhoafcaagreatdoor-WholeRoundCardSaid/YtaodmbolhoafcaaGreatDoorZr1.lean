/-
  Texts of one proof, joined: part 1. No condition.
-/
import Derived.WalkKit
import Derived.WalkLawsBesides
import Derived.WalkSpells
import Derived.Below
import Derived.Laws.OwnMore
import Derived.Deep.AppendLies
import Derived.Deep.Draws
import Derived.Maps.AppendAt
import Derived.Lib.Hide
import Derived.Laws.BytesArg
import Derived.Deep.QuietTactic
import Derived.BigQuiet
import Derived.Deep.LoopGhost
namespace Go.Proofs.YtaodmbolhoafcaaGreatDoor
open Go.RowKit
set_option linter.unusedVariables false
set_option linter.unusedSimpArgs false
set_option maxRecDepth 20000
section
theorem ak{P:Prop}(h:P:=by(simp)):P:=h
theorem aa{P:Prop}(h:P:=by(omega)):P:=h
theorem vP{P:Prop}(h:P:=by(simpa using hl)):P:=h
theorem Bk{P:Prop}(h:P:=by(unfold maxLen;omega)):P:=h
theorem bO{P:Prop}(h:P:=by(simp;omega)):P:=h
theorem pS:type_of% @List.mem_map:= @List.mem_map
theorem NU:type_of% @Nat.add_assoc:= @Nat.add_assoc
theorem gj:type_of% @Nat.le_refl:= @Nat.le_refl
theorem k_3:type_of% @Array.getElem?_eq_some_iff:= @Array.getElem?_eq_some_iff
theorem fo:type_of% @List.getElem?_eq_getElem:= @List.getElem?_eq_getElem
theorem iN:type_of% @List.length_drop:= @List.length_drop
theorem aw:type_of% @if_neg:= @if_neg
theorem k_7:type_of% @List.getElem?_drop:= @List.getElem?_drop
theorem eV:type_of% @List.length_take:= @List.length_take
theorem zd:type_of% @Nat.min_eq_left:= @Nat.min_eq_left
theorem oC:type_of% @Nat.mul_le_mul_right:= @Nat.mul_le_mul_right
theorem G0:type_of% @List.getElem?_take:= @List.getElem?_take
theorem wV:type_of% @Nat.eq_zero_or_pos:= @Nat.eq_zero_or_pos
theorem mi:type_of% @List.eq_nil_of_length_eq_zero:= @List.eq_nil_of_length_eq_zero
theorem N0:type_of% @World.grownBy.refl:= @World.grownBy.refl
theorem iQ:type_of% @run_underlying:= @run_underlying
theorem N3:type_of% @Sem.run_bind:= @Sem.run_bind
theorem Kt:type_of% @Sem.run_pure:= @Sem.run_pure
theorem vE:type_of% @Result.andThen_ok:= @Result.andThen_ok
theorem kz:type_of% @List.map_cons:= @List.map_cons
theorem G1:type_of% @List.map_nil:= @List.map_nil
theorem jf:type_of% @Nat.le_trans:= @Nat.le_trans
theorem zX:type_of% @List.replicate_succ:= @List.replicate_succ
theorem vF:type_of% @List.map_map:= @List.map_map
theorem sa:type_of% @List.map_congr_left:= @List.map_congr_left
theorem ue:type_of% @Nat.lt_or_ge:= @Nat.lt_or_ge
theorem Es:type_of% @heap_alloc_new:= @heap_alloc_new
abbrev sD:=List Oper
abbrev bc:=List Nat
abbrev cV:=List Value
abbrev bj:=Option Addr
abbrev al:=List UInt8
abbrev eH:=List (List UInt8)
theorem cR{α:Type}(e:α):∃x,x=e:=⟨e,rfl⟩
def bv(l:al):cV:=l.map fun b=>.int .u8 (b.toNat:Int)
@[simp] theorem arC:bv []=[]:=rfl
@[simp] theorem gv(l k:al):bv (l++k)=bv l++bv k:=by simp[bv]
@[simp] theorem HH(l:al):(bv l).length=l.length:=by simp[bv]
theorem rW(l:al):∀u∈bv l,u.oneCell'=true:=by
 intro u hu;obtain⟨b,_,rfl⟩:=pS.1 hu;rfl
theorem rV(a:Addr)(n:Nat):(a.add n).block=a.block:=by unfold Addr.add;split<;>rfl
theorem lA(a:Addr)(i j:Nat):(a.add i).add j=a.add (i+j):=by
 unfold Addr.add;by_cases hi:i=0<;>by_cases hj:j=0<;>simp[hi,hj,NU]
def Rd(w:World)(B size:Nat)(v:Value)(n:Nat)(xs:cV):Prop:=
 ∃A c,v= .slice A n c∧n≤c∧xs.length=n*size∧(0<n→∃ad,A=some ad∧ad.block<B∧∀j u,xs[j]? =some u→w.cell? (ad.add j)=some u)
section
variable{w w':World}{B B' size n:Nat}{v:Value}{xs:cV}
theorem Rd.AE:Rd w B size (.slice none 0 0) 0 []:=⟨none,0,rfl,gj _,ak,fun h=>absurd h aa⟩
theorem Rd.keep(h:Rd w B size v n xs)(hk:∀p:Addr,p.block<B→w'.cell? p=w.cell? p):Rd w' B size v n xs:=by
 obtain⟨A,c,rfl,hc,hl,hr⟩:=h;refine⟨A,c,rfl,hc,hl,fun hn=>?_⟩;obtain⟨ad,e,hb,fB⟩:=hr hn;exact⟨ad,e,hb,fun j u hu=>(hk _ (by rw[rV];exact hb)).trans (fB j u hu)⟩
theorem Rd.more(h:Rd w B size v n xs)(hB:B≤B'):Rd w B' size v n xs:=by
 obtain⟨A,c,rfl,hc,hl,hr⟩:=h;refine⟨A,c,rfl,hc,hl,fun hn=>?_⟩;obtain⟨ad,e,hb,fB⟩:=hr hn;exact⟨ad,e,aa,fB⟩
theorem Rd.below(h:Rd w B size v n xs)(hb:Below B w w'):Rd w' B size v n xs:=h.keep fun _ hp=>hb.cell hp
theorem Rd.AH{base:Nat}{e:TypeId}(h:w.ownsRow base e size v n xs):Rd w w.heap.size size v n xs:=by
 rcases h.2 with⟨rfl,rfl⟩|⟨g,cap,cur,rfl,hb,hg,hnc,hm,hs,ht⟩
 ·exact⟨none,0,rfl,gj _,h.1,fun h=>absurd h aa⟩
 ·refine⟨_,cap,rfl,hnc,h.1,fun hn=>⟨_,rfl,?_,h.cells (g:=g) rfl⟩⟩;exact(k_3.1 hg).1
end
theorem Rd.agT{w:World}{B n c:Nat}{A:bj}{l:al}(h:Rd w B 1 (.slice A n c) n (bv l)){k:Nat}(hk:k<n):
  ∃ad u,A=some ad∧ad.block<B∧l[k]? =some u∧w.cell? (ad.add k)=some (.int .u8 ((u:UInt8).toNat:Int)):=by
 obtain⟨A',c',hv,hc,hl,hr⟩:=h;simp only[Value.slice.injEq]at hv;obtain⟨rfl,_,rfl⟩:=hv;obtain⟨ad,rfl,hb,fB⟩:=hr aa;simp at hl;have hx:l[k]? =some (l[k]'aa):=fo aa;exact⟨ad,_,rfl,hb,hx,fB k _ (by simp[bv,hx])⟩
theorem Rd.amE{w:World}{B n:Nat}{v:Value}{l:al}(h:Rd w B 1 v n (bv l)):l.length=n:=by
 obtain⟨_,_,_,_,hl,_⟩:=h;simpa using hl
theorem Rd.form{w:World}{B n size:Nat}{v:Value}{xs:cV}(h:Rd w B size v n xs):∃A c,v= .slice A n c∧n≤c:=by
 obtain⟨A,c,hv,hc,_⟩:=h;exact⟨A,c,hv,hc⟩
theorem Rd.cut{w:World}{B n c k size:Nat}{A:bj}{xs:cV}(h:Rd w B size (.slice A n c) n xs)(hk:k≤n):
  Rd w B size (.slice (if c=k then A else A.map (·.add (k*size))) (n-k) (c-k)) (n-k) (xs.drop (k*size)):=by
 obtain⟨A',c',hv,hc,hl,hr⟩:=h;simp only[Value.slice.injEq]at hv;obtain⟨rfl,_,rfl⟩:=hv;refine⟨_,_,rfl,aa,by rw[iN,hl,Nat.sub_mul],fun hn=>?_⟩;obtain⟨ad,rfl,hb,fB⟩:=hr aa;rw[aw aa];refine⟨ad.add (k*size),rfl,by rw[rV];exact hb,fun j u hu=>?_⟩;rw[lA];exact fB _ u (by rw[←hu,k_7])
theorem Rd.js{w:World}{B n c k size:Nat}{A:bj}{xs:cV}(h:Rd w B size (.slice A n c) n xs)(hk:k≤n):
  Rd w B size (.slice A k c) k (xs.take (k*size)):=by
 obtain⟨A',c',hv,hc,hl,hr⟩:=h;simp only[Value.slice.injEq]at hv;obtain⟨rfl,_,rfl⟩:=hv;refine⟨_,_,rfl,aa,by rw[eV,hl];exact zd (oC _ hk),fun hn=>?_⟩;obtain⟨ad,rfl,hb,fB⟩:=hr aa;refine⟨ad,rfl,hb,fun j u hu=>fB j u ?_⟩;rw[G0]at hu;split at hu
 ·exact hu
 ·cases hu
@[simp] theorem jv(l:al)(k:Nat):(bv l).drop k=bv (l.drop k):=by simp[bv]
@[simp] theorem kI(l:al)(k:Nat):(bv l).take k=bv (l.take k):=by simp[bv]
structure sF(P:Program)(t e:TypeId)(size bytes:Nat)(z:Value):Prop where
 ht:P.underlying t=some (.slice e)
 hi:∃i,P.info? e=some i∧i.zero=some z∧i.size=size∧i.bytes=bytes
 hz:z.cells.size=size
 hs:0<size
theorem la{P:Program}{t e:TypeId}{size bytes:Nat}{z:Value}(ht:P.underlying t=some (.slice e))(h:(P.info? e).map (fun i=>(i.zero,i.size,i.bytes))=some (some z,size,bytes))(hz:z.cells.size=size)(hs:0<size):sF P t e size bytes z:=
 ⟨ht,info_parts h,hz,hs⟩
theorem aiV{P:Program}{t e:TypeId}{size bytes:Nat}{z:Value}(T:sF P t e size bytes z)(ty:TypeId)(w:World){base:Nat}{v:Value}{n:Nat}{xs:cV}(mg:w.ownsRow base e size v n xs){B:Nat}{x:Value}{m:Nat}{news:cV}(hr:Rd w B size x m news)(h1:∀u∈news,u.oneCell'=true)(jV:(n+m)*bytes≤140737488355328)(Ir:n+m≤140737488355328)(Bx:base≤w.heap.size):
  ∃v' w',(Builtin.append_ #[t,t] ty #[v,x]).run P w= .ok v' w'∧w'.ownsRow base e size v' (n+m) (xs++news)∧w.grownBy w' v.ownBlock:=by
 obtain⟨i,hi,hz,jb,D7⟩:=T.hi;obtain⟨A,c,rfl,hmc,hl,hr⟩:=hr;rcases A with _|ad
 ·have hm:m=0:=by
   rcases wV m with h0|h0
   ·exact h0
   ·obtain⟨ad,h,_⟩:=hr h0;cases h
  subst hm;have hn:news=[]:=mi vP;subst hn;refine⟨v,w,?_,by simpa using mg,N0 w _⟩;rcases mg.2 with⟨rfl,rfl⟩|⟨g,cap,cur,rfl,_,_,hnc,_⟩
  ·simp[Builtin.append_,iQ T.ht,sizeOf,typeInfo,hi,Builtin.lenOf,Builtin.firstCells]
  ·simp[Builtin.append_,iQ T.ht,sizeOf,typeInfo,hi,Builtin.lenOf,Builtin.firstCells,hnc,storeCells]
 ·have kv:∀j u,news[j]? =some u→w.cell? (ad.add j)=some u:=by
   intro j u hu;rcases wV m with h0|h0
   ·subst h0;have hn:news=[]:=mi vP;subst hn;simp at hu
   ·obtain⟨ad',h,_,hc⟩:=hr h0;injection h with h;subst h;exact hc j u hu
  obtain⟨v',w',tc,h2,h3,_⟩:=run_append_own (P:=P) w base t ty e i z size bytes T.ht hi hz jb D7 T.hz T.hs v n xs mg ad m c news hl kv h1 Bk jV Bx;exact⟨v',w',tc,h2,h3⟩
theorem TX{P:Program}{t e:TypeId}{size bytes:Nat}{z:Value}(T:sF P t e size bytes z){ops:Array Oper}{rest:sD}{o:Oper}{a:Act}{Q:Exit→Act→World→Prop}{w:World}(hgd:o.guard=none)(s x:Operand)(ho:o.op= .call {callee:=.builtin .append,args:= #[s,x],argTypes:= #[t,t]}){base:Nat}{v:Value}{n:Nat}{xs:cV}(hs:a.eval s=v)(mg:w.ownsRow base e size v n xs){B:Nat}{y:Value}{m:Nat}{news:cV}(hx:a.eval x=y)(hr:Rd w B size y m news)(h1:∀u∈news,u.oneCell'=true){B0:Nat}{w0:World}(hb:Below B0 w0 w)(hB:B0≤base)(Bx:base≤w.heap.size)(jV:(n+m)*bytes≤140737488355328)(Ir:n+m≤140737488355328)(h:∀v' w',w'.ownsRow base e size v' (n+m) (xs++news)→Below B0 w0 w'→w.grownBy w' v.ownBlock→wpList P ops Q rest (a.put o.dst v') w'):
  wpList P ops Q (o::rest) a w:=by
 obtain⟨v',w',tc,h2,h3⟩:=aiV T o.type w mg hr h1 jV Ir Bx;refine wpList_plain hgd fun K hK=>?_;unfold Oper.wp execOp;simp only[ho,resolve,invoke,builtin,N3,Kt,vE,List.map_toArray,kz,G1,hs,hx,tc];exact hK _ _ (h v' w' h2 (hb.grown h3 (jf hB Bx) fun k hk=>jf hB (mg.lt k hk).1) h3)
theorem Rd.box(w:World)(e:TypeId)(u:Value):Rd (w.alloc (.cells #[u] e)) (w.heap.size+1) 1 (.slice (some ⟨w.heap.size,0,none⟩) 1 1) 1 [u]:=
 ⟨_,1,rfl,gj _,rfl,fun _=>⟨_,rfl,Nat.lt_succ_self _,fun j x hx=>by
  rcases j with _|j
  ·simp at hx;subst hx;simp[Addr.add]
  ·simp at hx⟩⟩
theorem Xd{P:Program}{t e:TypeId}{bytes:Nat}{z:Value}(T:sF P t e 1 bytes z){ops:Array Oper}{rest:sD}{o:Oper}{a:Act}{Q:Exit→Act→World→Prop}{w:World}{u:Value}(hgd:o.guard=none)(s x:Operand)(ho:o.op= .call {callee:=.builtin .append,args:= #[s,x],argTypes:= #[t,t]}){base:Nat}{v:Value}{n:Nat}{xs:cV}(hs:a.eval s=v)(mg:w.ownsRow base e 1 v n xs)(hx:a.eval x= .slice (some ⟨w.heap.size,0,none⟩) 1 1)(h1:u.oneCell'=true){B0:Nat}{w0:World}(hb:Below B0 w0 w)(hB:B0≤base)(Bx:base≤w.heap.size)(jV:(n+1)*bytes≤140737488355328)(Ir:n+1≤140737488355328)(h:∀v' w',w'.ownsRow base e 1 v' (n+1) (xs++[u])→Below B0 w0 w'→w.heap.size<w'.heap.size→w.grownBy w' v.ownBlock→wpList P ops Q rest (a.put o.dst v') w'):
  wpList P ops Q (o::rest) a (w.alloc (.cells #[u] e)):=by
 refine TX T hgd s x ho hs (mg.alloc _) hx (Rd.box w e u) (by simp[h1]) (hb.alloc (jf hB Bx) _) hB bO jV Ir fun v' w' h2 h3 h4=>?_;refine h v' w' h2 h3 (by have:=h4.size;simp at this;omega) ⟨h4.os,h4.tape,h4.output,by have:=h4.size;simp at this;omega,fun k hk r'=>(h4.block k bO r').trans (Below.heap_alloc w _ k hk)⟩
theorem KZ{α:Type}(A R:List α)(x y:α){k:Nat}(h:A.length=k):(A++x::R).set k y=A++y::R:=by
 subst h;simp
theorem Wo{α:Type}(z:α){n k:Nat}(h:k<n):List.replicate (n-k) z=z::List.replicate (n-(k+1)) z:=by
 rw[show n-k=(n-(k+1))+1 by omega,zX]
theorem aeL{P:Program}{src dst e:TypeId}(hs:P.underlying src=some (.slice e))(he:P.underlying e=some (.int .u8))(hd:P.underlying dst=some .string){w:World}{B:Nat}{v:Value}{n:Nat}{l:al}(h:Rd w B 1 v n (bv l)):(convert src dst v).run P w= .ok (.string (ByteArray.mk l.toArray)) w:=by
 obtain⟨A,c,rfl,hc,hl,hr⟩:=h;simp at hl;rcases wV n with h0|h0
 ·have hle:l=[]:=mi aa;subst hle;subst h0;rcases A with _|ad
  ·rw[run_convert_bytes_nil w src e hs he 0 c dst hd];rfl
  ·rw[run_convert_bytes_string w src dst e _ 0 c hs he hd,run_bytesToString w ad 0 c [] (by simpa using run_loadCells_list (P:=P) w ad [] ak)];rfl
 ·obtain⟨ad,rfl,_,fB⟩:=hr h0;have hb:bv l=(l.map fun b=>(b.toNat:Int)).map (Value.int .u8):=by simp[bv]
  have Qi:=run_loadCells_list (P:=P) w ad (bv l) fB;rw[HH,hl,hb]at Qi;rw[run_convert_bytes_string w src dst e _ n c hs he hd,run_bytesToString w ad n c _ Qi,foldl_push_bytes];congr 2;have:(List.map (fun n=>UInt8.ofNat n.toNat) (List.map (fun b:UInt8=>(b.toNat:Int)) l))=l:=by
   rw[vF]
   conv=>rhs;rw[←List.map_id l]
   refine sa fun b _=>?_;simp
  rw[this];simp[ByteArray.empty,ByteArray.emptyWithCapacity];rfl
def tw(w:World)(g:Nat)(t:TypeId)(cs:Array Value):Prop:=w.heap[g]? =some (.cells cs t (0,0))
section
variable{w w':World}{g:Nat}{t:TypeId}{cs:Array Value}
theorem tw.lt(h:tw w g t cs):g<w.heap.size:=by
 rcases ue g w.heap.size with fP|wN
 ·exact fP
 ·unfold tw at h;rw[Array.getElem?_eq_none wN]at h;cases h
theorem tw.cell(h:tw w g t cs)(i:Nat):w.cell? ⟨g,i,none⟩=cs[i]? :=cell_of_row w g i cs t (0,0) h
theorem tw.frozen(h:tw w g t cs)(i:Nat):w.frozen? ⟨g,i,none⟩=false:=by
 unfold tw at h;simp[World.frozen?,h]
theorem tw.new(w:World)(t:TypeId)(cs:Array Value):tw (w.alloc (.cells cs t)) w.heap.size t cs:=Es w _
theorem tw.drew(h:tw w g t cs):tw w.drew g t cs:=h
theorem tw.drewN(h:tw w g t cs)(n:Nat):tw (w.drewN n) g t cs:=h
theorem tw.alloc(h:tw w g t cs)(o:Obj):tw (w.alloc o) g t cs:=(Below.heap_alloc w o g h.lt).trans h
theorem tw.aeS(h:tw w g t cs)(i:Nat)(u:Value):tw (w.setCell ⟨g,i,none⟩ u) g t (cs.setIfInBounds i u):=by
 unfold tw at h⊢;simp[World.setCell,Array.getElem?_modify,h]
theorem tw.far(h:tw w g t cs){p:Addr}(hp:g≠p.block)(u:Value):tw (w.setCell p u) g t cs:=(Below.heap_setCell w p u g hp).trans h
theorem tw.below{B:Nat}(h:tw w g t cs)(hb:Below B w w')(hg:g<B):tw w' g t cs:=(hb.block g hg).trans h
theorem tw.grown{row:Option Nat}(h:tw w g t cs)(hb:w.grownBy w' row)(hg:some g≠row):tw w' g t cs:=(hb.block g h.lt hg).trans h
end
theorem yG{a w:World}{g:Nat}(h:a.grownBy w (some g)){p:Addr}(hp:p.block=g∨a.heap.size≤p.block)(u:Value):a.grownBy (w.setCell p u) (some g):=
 ⟨h.os,h.tape,h.output,by simpa[World.setCell]using h.size,fun i hi r'=>(Below.heap_setCell w p u i (by
  rintro rfl;rcases hp with hp|hp
  ·exact r' (by rw[hp])
  ·omega)).trans (h.block i hi r')⟩
theorem Below.only{B g:Nat}{a w w':World}(h:Below B a w)(hg:w.grownBy w' (some g))(hB:B≤g)(hBs:B≤w.heap.size):Below B a w':=h.grown hg hBs fun k hk=>by injection hk with hk;omega
theorem Rd.grown{B size n g:Nat}{w w':World}{v:Value}{xs:cV}(h:Rd w B size v n xs)(hg:w.grownBy w' (some g))(hB:B≤g)(hs:B≤w.heap.size):Rd w' B size v n xs:=
 h.keep fun p hp=>World.cell?_of_block (hg.block p.block aa (fun e=>by injection e with e;omega))
end
section
theorem vG:type_of% @Option.getD_some:= @Option.getD_some
theorem N8:type_of% @Option.some.inj:= @Option.some.inj
theorem rn:type_of% @Nat.eq_of_beq_eq_true:= @Nat.eq_of_beq_eq_true
theorem G2:type_of% @cond_true:= @cond_true
theorem Et:type_of% @Option.some.injEq:= @Option.some.injEq
theorem aq:type_of% @if_pos:= @if_pos
theorem ll:type_of% @List.mem_cons_of_mem:= @List.mem_cons_of_mem
theorem rp:type_of% @List.mem_cons_self:= @List.mem_cons_self
theorem kB:type_of% @List.pairwise_cons:= @List.pairwise_cons
theorem fm:type_of% @List.mem_cons:= @List.mem_cons
theorem G3:type_of% @Below.refl:= @Below.refl
theorem zY:type_of% @Addr.add_lit:= @Addr.add_lit
theorem mC:type_of% @Nat.zero_add:= @Nat.zero_add
theorem bS:type_of% @Nat.zero_le:= @Nat.zero_le
theorem ym:type_of% @wp_mono:= @wp_mono
theorem yn:type_of% @of_decide_eq_true:= @of_decide_eq_true
theorem R8:type_of% @of_decide_eq_false:= @of_decide_eq_false
abbrev Fr:=List (Nat×Value)
def look(t:Nat):Fr→Option Value
 |[]=>none
 |(s,v)::r=>bif Nat.beq s t then some v else look t r
def ev(fr:Fr):Operand→Option Value
 | .tmp t=>look t fr
 | .const v=>some v
 | .global g=>some (.pointer (some ⟨g,0,none⟩))
 | .func f=>some (.func (.func f) #[] #[])
def B9(fr:Fr):List Operand→Option (cV)
 |[]=>some []
 |x::r=>match ev fr x,B9 fr r with
  |some v,some vs=>some (v::vs)
  |_,_=>none
structure pT(N:Nat)(fr:Fr)(a:Act):Prop where
 defers:a.defers=[]
 size:a.tmps.size=N
 at_:∀t v,look t fr=some v→a.tmps[t]? =some v
theorem pT.tmp{N:Nat}{fr:Fr}{a:Act}(h:pT N fr a){x:Operand}{v:Value}(he:ev fr x=some v):a.eval x=v:=by
 cases x with
 |tmp t=>
  have:=h.at_ t v he;unfold Act.eval;simp only[Array.getD_eq_getD_getElem?,this,vG]
 |const u=>exact N8 he
 |global g=>exact N8 he
 |func f=>exact N8 he
theorem pT.B9{N:Nat}{fr:Fr}{a:Act}(h:pT N fr a):∀{xs:List Operand} {vs:cV},B9 fr xs=some vs→xs.map a.eval=vs
 |[],_,he=>by simpa[Proofs.YtaodmbolhoafcaaGreatDoor.B9]using he
 |x::r,vs,he=>by
  unfold Proofs.YtaodmbolhoafcaaGreatDoor.B9 at he;split at he
  ·rename_i v vs' h1 h2;injection he with he;subst he;simp[h.tmp h1,h.B9 h2]
  ·cases he
theorem pT.put{N:Nat}{fr:Fr}{a:Act}(h:pT N fr a){d:Nat}(hd:Nat.blt d N=true)(v:Value):pT N ((d,v)::fr) (a.put (some d) v):=by
 refine⟨h.defers,by simp[Act.put,h.size],fun t u ht=>?_⟩;have hdn:d<N:=by simpa using hd
 unfold look at ht;by_cases e:d=t
 ·subst e;simp at ht;subst ht;simp[Act.put,h.size,hdn]
 ·have:Nat.beq d t=false:=by
   cases hb:Nat.beq d t with
   |false=>rfl
   |true=>exact absurd (rn hb) e
  rw[this]at ht;simp only[cond_false]at ht;have:=h.at_ t u ht;simp[Act.put,e,this]
def Sub(fr:Fr):Fr→Prop
 |[]=>True
 |(t,v)::r=>look t fr=some v∧Sub fr r
theorem Sub.look{fr:Fr}:∀{jH:Fr},Sub fr jH→∀t v,look t jH=some v→look t fr=some v
 |[],_,t,v,h=>by cases h
 |(s,u)::r,hs,t,v,h=>by
  unfold Proofs.YtaodmbolhoafcaaGreatDoor.look at h;cases hb:Nat.beq s t with
  |true=>
   rw[hb]at h;simp only[G2,Et]at h;have:=rn hb;subst this;subst h;exact hs.1
  |false=>
   rw[hb]at h;exact hs.2.look t v h
theorem pT.sub{N:Nat}{fr jH:Fr}{a:Act}(h:pT N fr a)(hs:Sub fr jH):pT N jH a:=⟨h.defers,h.size,fun t v ht=>h.at_ t v (hs.look t v ht)⟩
inductive Ch where
 |own (e:TypeId) (size:Nat) (A:bj) (n c:Nat) (xs:cV)
 |bE (g:Nat) (t:TypeId) (cs:cV)
 |obj (g:Nat) (o:Obj)
def Ch.fp:Ch→Option Nat
 | .own _ _ A _ c _=>if c=0 then none else A.map (·.block)
 | .bE g _ _=>some g
 | .obj g _=>some g
def wv(w:World)(B:Nat)(e:TypeId)(size:Nat)(A:bj)(n c:Nat)(xs:cV):Prop:=
 xs.length=n*size∧n≤c∧(c=0∨∃g cur,A=some ⟨g,0,none⟩∧B≤g∧w.heap[g]? =some (.cells cur e (0,0))∧c≤maxLen∧cur.size=c*size∧cur.toList.take (n*size)=xs)
def Ch.holds(B:Nat)(w:World):Ch→Prop
 | .own e size A n c xs=>wv w B e size A n c xs
 | .bE g t cs=>B≤g∧tw w g t cs.toArray
 | .obj g o=>B≤g∧w.heap[g]? =some o
def Ch.apart(c d:Ch):Prop:=c.fp=none∨c.fp≠d.fp
structure Cx where
 P:Program
 N:Nat
 B:Nat
 w0:World
structure SL(B:Nat)(w0:World)(L:List Ch)(w:World):Prop where
 below:Below B w0 w
 base:B≤w.heap.size
 all:∀c∈L,c.holds B w
 apart:L.Pairwise Ch.apart
theorem Ch.apart.symm{c d:Ch}(h:c.apart d):d.apart c:=by
 rcases h with h|h
 ·by_cases hd:d.fp=none
  ·exact .inl hd
  ·exact .inr (by rw[h];exact hd)
 ·by_cases hd:d.fp=none
  ·exact .inl hd
  ·exact .inr (Ne.symm h)
theorem Ch.holds.lt{B:Nat}{w:World}{c:Ch}(h:c.holds B w){g:Nat}(hg:c.fp=some g):B≤g∧g<w.heap.size:=by
 cases c with
 |own e size A n c xs=>
  obtain⟨_,_,h⟩:=h;simp only[Ch.fp]at hg;by_cases hc:c=0
  ·rw[aq hc]at hg;cases hg
  ·rw[aw hc]at hg;obtain⟨g',cur,rfl,h1,h2,_⟩:=h.resolve_left hc;simp at hg;subst hg;exact⟨h1,(k_3.1 h2).1⟩
 |bE g' t cs=>
  simp only[Ch.fp,Et]at hg;subst hg;exact⟨h.1,h.2.lt⟩
 |obj g' o=>
  simp only[Ch.fp,Et]at hg;subst hg;exact⟨h.1,(k_3.1 h.2).1⟩
theorem Ch.holds.keep{B:Nat}{w w':World}{c:Ch}(h:c.holds B w)(hk:∀g,c.fp=some g→w'.heap[g]? =w.heap[g]?):c.holds B w':=by
 cases c with
 |own e size A n c xs=>
  obtain⟨h1,h2,h3⟩:=h;refine⟨h1,h2,?_⟩;by_cases hc:c=0
  ·exact .inl hc
  ·obtain⟨g,cur,rfl,k1,k2,k3⟩:=h3.resolve_left hc;refine .inr ⟨g,cur,rfl,k1,?_,k3⟩;rw[hk g (by simp[Ch.fp,hc])];exact k2
 |bE g t cs=>
  refine⟨h.1,?_⟩;unfold tw;rw[hk g rfl];exact h.2
 |obj g o=>exact⟨h.1,by rw[hk g rfl];exact h.2⟩
theorem Below.le_trans{B:Nat}{w0 w w':World}{row:Option Nat}(h:Below B w0 w)(hg:w.grownBy w' row)(hb:B≤w.heap.size)(hr:∀g,row=some g→B≤g):Below B w0 w':=h.grown hg hb hr
section
variable{B:Nat}{w0 w w':World}{L L':List Ch}{c c' d:Ch}
theorem SL.perm(h:SL B w0 L w)(hp:L.Perm L'):SL B w0 L' w:=
 ⟨h.below,h.base,fun c hc=>h.all c (hp.mem_iff.2 hc),(hp.pairwise_iff (fun h=>Ch.apart.symm h)).1 h.apart⟩
theorem SL.tail(h:SL B w0 (c::L) w):SL B w0 L w:=⟨h.below,h.base,fun d hd=>h.all d (ll _ hd),h.apart.tail⟩
theorem SL.sub(h:SL B w0 L w)(hs:L'.Sublist L):SL B w0 L' w:=⟨h.below,h.base,fun d hd=>h.all d (hs.subset hd),h.apart.sublist hs⟩
theorem SL.head(h:SL B w0 (c::L) w):c.holds B w:=h.all c rp
theorem SL.Lc(h:SL B w0 (c::L) w)(hg:w.grownBy w' c.fp)(hc:c'.holds B w')(hf:c'.fp=none∨c'.fp=c.fp∨∃g,c'.fp=some g∧w.heap.size≤g):SL B w0 (c'::L) w':=by
 have hap:=kB.1 h.apart;refine⟨h.below.grown hg h.base (fun k hk=>(h.head.lt hk).1),jf h.base hg.size,fun d hd=>?_,kB.2 ⟨fun d hd=>?_,hap.2⟩⟩
 ·rcases fm.1 hd with rfl|hd
  ·exact hc
  ·refine(h.tail.all d hd).keep fun g hg'=>hg.block g ((h.tail.all d hd).lt hg').2 fun e=>?_;rcases hap.1 d hd with h0|h0
   ·rw[h0]at e;cases e
   ·exact h0 (e.symm.trans hg'.symm)
 ·rcases hf with hf|hf|⟨g,hf,wN⟩
  ·exact .inl hf
  ·rcases hap.1 d hd with h0|h0
   ·exact .inl (hf.trans h0)
   ·exact .inr (hf▸h0)
  ·refine .inr fun e=>?_;have:=((h.tail.all d hd).lt (e.symm.trans hf)).2;omega
theorem SL.grow(h:SL B w0 L w)(hg:w.grownBy w' none):SL B w0 L w':=
 ⟨h.below.grown hg h.base (fun k hk=>by cases hk),jf h.base hg.size,fun d hd=>(h.all d hd).keep fun g hg'=>hg.block g ((h.all d hd).lt hg').2 ak,h.apart⟩
theorem SL.gL(h:SL B w0 L w)(hg:w.grownBy w' none)(hc:c'.holds B w')(hf:c'.fp=none∨∃g,c'.fp=some g∧w.heap.size≤g):SL B w0 (c'::L) w':=by
 have h':=h.grow hg;refine⟨h'.below,h'.base,fun d hd=>?_,kB.2 ⟨fun d hd=>?_,h.apart⟩⟩
 ·rcases fm.1 hd with rfl|hd
  ·exact hc
  ·exact h'.all d hd
 ·rcases hf with hf|⟨g,hf,wN⟩
  ·exact .inl hf
  ·refine .inr fun e=>?_;have:=((h.all d hd).lt (e.symm.trans hf)).2;omega
theorem qE(w:World)(n:Nat):w.grownBy (w.drewN n) none:=⟨rfl,rfl,rfl,gj _,fun _ _ _=>rfl⟩
theorem SL.drewN(h:SL B w0 L w)(n:Nat):SL B w0 L (w.drewN n):=h.grow (qE w n)
theorem SL.drew(h:SL B w0 L w):SL B w0 L w.drew:=h.grow ⟨rfl,rfl,rfl,gj _,fun _ _ _=>rfl⟩
theorem SL.AE(w:World):SL w.heap.size w [] w:=⟨G3 _ _,gj _,ak,List.Pairwise.nil⟩
end
inductive mx:Ch→List Ch→(Ch→List Ch)→Prop where
 |hd {c:Ch} {L:List Ch}:mx c (c::L) (fun d=>d::L)
 |tl {b c:Ch} {L:List Ch} {f:Ch→List Ch} (h:mx c L f):mx c (b::L) (fun d=>b::f d)
theorem mx.perm{c:Ch}{L:List Ch}{f:Ch→List Ch}(h:mx c L f):∃R,L.Perm (c::R)∧∀d,(f d).Perm (d::R):=by
 induction h with
 | @hd c L=>exact⟨L,.refl _,fun _=>.refl _⟩
 | @tl b c L f h ih=>
  obtain⟨R,h1,h2⟩:=ih;exact⟨b::R,(h1.cons b).trans (.swap ..),fun d=>((h2 d).cons b).trans (.swap ..)⟩
theorem mx.mem{c:Ch}{L:List Ch}{f:Ch→List Ch}(h:mx c L f):c∈L:=by
 obtain⟨R,h1,_⟩:=h.perm;exact h1.mem_iff.2 rp
def aL(B:Nat)(w0:World)(L:List Ch)(size:Nat)(v:Value)(n:Nat)(xs:cV):Prop:=∀w,SL B w0 L w→Rd w w.heap.size size v n xs
section
variable{B:Nat}{w0 w w':World}{L L':List Ch}{c c' d:Ch}{size n k m:Nat}{v:Value}{xs:cV}
theorem wv.rd{e:TypeId}{A:bj}{c:Nat}(h:wv w B e size A n c xs):Rd w w.heap.size size (.slice A n c) n xs:=by
 obtain⟨h1,h2,h3⟩:=h;refine⟨A,c,rfl,h2,h1,fun hn=>?_⟩;obtain⟨g,cur,rfl,k1,k2,k3,k4,k5⟩:=h3.resolve_left aa;refine⟨_,rfl,(k_3.1 k2).1,fun j u hu=>?_⟩;rw[zY,mC,cell_of_row w g j cur e (0,0) k2];rw[←k5,G0]at hu;split at hu
 ·simpa using hu
 ·cases hu
theorem aL.in_(h:Rd w0 B size v n xs):aL B w0 L size v n xs:=fun w hs=>(h.below hs.below).more hs.base
theorem aL.own{e:TypeId}{A:bj}{c:Nat}(h:Ch.own e size A n c xs∈L):aL B w0 L size (.slice A n c) n xs:=fun w hs=>wv.rd (hs.all _ h)
theorem aL.cons(h:aL B w0 L size v n xs):aL B w0 (c::L) size v n xs:=fun w hs=>h w hs.tail
theorem aL.mono(h:aL B w0 L size v n xs)(hs:L.Sublist L'):aL B w0 L' size v n xs:=fun w h'=>h w (h'.sub hs)
theorem aL.perm(h:aL B w0 L size v n xs)(hp:L.Perm L'):aL B w0 L' size v n xs:=fun w h'=>h w (h'.perm hp.symm)
theorem aL.AE{A:bj}{c:Nat}:aL B w0 L size (.slice A 0 c) 0 []:=fun w _=>⟨A,c,rfl,bS _,ak,fun h=>absurd h aa⟩
theorem aL.cut{A:bj}{c:Nat}(h:aL B w0 L size (.slice A n c) n xs)(hk:k≤n):aL B w0 L size (.slice (if c=k then A else A.map (·.add (k*size))) (n-k) (c-k)) (n-k) (xs.drop (k*size)):=fun w hs=>(h w hs).cut hk
theorem aL.js{A:bj}{c:Nat}(h:aL B w0 L size (.slice A n c) n xs)(hk:k≤n):aL B w0 L size (.slice A k c) k (xs.take (k*size)):=fun w hs=>(h w hs).js hk
end
def lift(C:Cx)(Q:Exit→Fr→List Ch→Prop):Exit→Act→World→Prop:=fun e a w=>∃fr L,pT C.N fr a∧SL C.B C.w0 L w∧Q e fr L
def VC(C:Cx)(c:Code)(Q:Exit→Fr→List Ch→Prop)(fr:Fr)(L:List Ch):Prop:=∀a w,pT C.N fr a→SL C.B C.w0 L w→c.wp C.P (lift C Q) a w
def VL(C:Cx)(ops:Array Oper)(Q:Exit→Fr→List Ch→Prop)(l:sD)(fr:Fr)(L:List Ch):Prop:=
 ∀a w,pT C.N fr a→SL C.B C.w0 L w→wpList C.P ops (lift C Q) l a w
def ago(C:Cx)(y:Code)(Q:Exit→Fr→List Ch→Prop):Exit→Fr→List Ch→Prop
 | .normal,fr,L=>VC C y Q fr L
 |e,fr,L=>Q e fr L
def InB(id:Nat)(Q:Exit→Fr→List Ch→Prop):Exit→Fr→List Ch→Prop
 | .exit i,fr,L=>if i=id then Q .normal fr L else Q (.exit i) fr L
 |e,fr,L=>Q e fr L
section
variable{C:Cx}{Q:Exit→Fr→List Ch→Prop}{fr jH:Fr}{L L':List Ch}{x y:Code}{ops:Array Oper}{l:sD}
theorem af4(h:VC C x (ago C y Q) fr L):VC C (.seq x y) Q fr L:=fun a w ha hs=>by
 refine wp_seq (ym (h a w ha hs) fun e a w ⟨fr,L,ha,hs,hq⟩=>?_);cases e<;>first|exact hq a w ha hs|exact⟨fr,L,ha,hs,hq⟩
theorem af0{id:Nat}(h:VC C x (InB id Q) fr L):VC C (.block id x) Q fr L:=fun a w ha hs=>by
 refine wp_block (ym (h a w ha hs) fun e a w ⟨fr,L,ha,hs,hq⟩=>?_);cases e with
 |exit i=>
  unfold Exit.inBlock InB at*;simp only at hq⊢;split
  ·rename_i hi;rw[aq hi]at hq;exact⟨fr,L,ha,hs,hq⟩
  ·rename_i hi;rw[aw hi]at hq;exact⟨fr,L,ha,hs,hq⟩
 |_=>exact⟨fr,L,ha,hs,hq⟩
theorem ajC(h:Q .normal fr L):VC C .skip Q fr L:=fun a w ha hs=>wp_skip ⟨fr,L,ha,hs,h⟩
theorem ajB{id:Nat}(h:Q (.exit id) fr L):VC C (.exit id) Q fr L:=fun a w ha hs=>wp_exit ⟨fr,L,ha,hs,h⟩
theorem anP(h:Q .ret fr L):VC C .ret Q fr L:=fun a w ha hs=>wp_ret ⟨fr,L,ha,hs,h⟩
theorem aav{c:Operand}(hc:ev fr c=some (.bool true))(h:VC C x Q fr L):VC C (.cond c x y) Q fr L:=fun a w ha hs=>wp_cond_true (ha.tmp hc) (h a w ha hs)
theorem aau{c:Operand}(hc:ev fr c=some (.bool false))(h:VC C y Q fr L):VC C (.cond c x y) Q fr L:=fun a w ha hs=>wp_cond_false (ha.tmp hc) (h a w ha hs)
theorem W8{c:Operand}{b:Bool}(hc:ev fr c=some (.bool b))(ht:b=true→VC C x Q fr L)(hf:b=false→VC C y Q fr L):VC C (.cond c x y) Q fr L:=
 fun a w ha hs=>wp_cond_split (ha.tmp hc) (fun h=>ht h a w ha hs) (fun h=>hf h a w ha hs)
theorem aaw{c:Operand}{p:Prop}[Decidable p](hc:ev fr c=some (.bool (decide p)))(ht:p→VC C x Q fr L)(hf:¬p→VC C y Q fr L):VC C (.cond c x y) Q fr L:=
 W8 hc (fun h=>ht (yn h)) (fun h=>hf (R8 h))
theorem aax{id:Nat}{l:sD}(h:VL C l.toArray Q l fr L):VC C (.region id l.toArray false) Q fr L:=fun a w ha hs=>wp_region_lit (h a w ha hs)
theorem Bb(jH:Fr)(hs:Sub fr jH)(h:VC C x Q jH L):VC C x Q fr L:=fun a w ha hw=>h a w (ha.sub hs) hw
theorem fR(hs:L.Perm L')(h:VC C x Q fr L'):VC C x Q fr L:=fun a w ha hw=>h a w ha (hw.perm hs)
theorem anT(jH:Fr)(hs:Sub fr jH)(h:Q .normal jH L):VL C ops Q [] fr L:=fun a w ha hw=>wpList_nil ⟨jH,L,ha.sub hs,hw,h⟩
theorem atu(h:Q .normal fr L):VL C ops Q [] fr L:=fun a w ha hw=>wpList_nil ⟨fr,L,ha,hw,h⟩
inductive LZ(fr:Fr):bc→Fr→Prop where
 |nil:LZ fr [] []
 |cons {t:Nat} {v:Value} {ks:bc} {r:Fr}:look t fr=some v→LZ fr ks r→LZ fr (t::ks) ((t,v)::r)
theorem LZ.sub{ks:bc}(h:LZ fr ks jH):Sub fr jH:=by
 induction h with
 |nil=>trivial
 |cons h1 _ ih=>exact⟨h1,ih⟩
theorem ve(ks:bc)(h:Q .normal jH L)(hs:LZ fr ks jH:=by repeat (first|exact LZ.nil|(apply LZ.cons;exact rfl))):VL C ops Q [] fr L:=anT jH hs.sub h
theorem aaa(h:VC C y Q fr L):ago C y Q .normal fr L:=h
theorem aqy{id:Nat}(h:Q .normal fr L):InB id Q (.exit id) fr L:=by unfold InB;simp only[if_true];exact h
theorem aqz{i id:Nat}(hi:Nat.beq i id=false)(h:Q (.exit i) fr L):InB id Q (.exit i) fr L:=by
 unfold InB;simp only;rw[aw (by intro e;subst e;simp at hi)];exact h
theorem amv{id:Nat}(h:Q .ret fr L):InB id Q .ret fr L:=h
theorem YO{id:Nat}(h:Q .normal fr L):InB id Q .normal fr L:=h
abbrev qR:=Value→List Ch→Prop
abbrev aR:=List Ch
end
end
section
section
variable{C:Cx}{Q:Exit→Fr→aR→Prop}{fr jH:Fr}{L L':aR}{ops:Array Oper}{l:sD}{op:Op}{ty:TypeId}{pos:String}{af:Array Edge}{d:Nat}{v:Value}
theorem ali{P:Prop}(h:P:=by(rw[sA hj (ha.at_ _ _ ht)];simp)):P:=h
theorem alg{P:Prop}(h:P:=by(rw[sA hj (ha.at_ _ _ ht)];exact hb)):P:=h
theorem agC{P:Prop}(h:P:=by(rw[sA hj (ha.at_ _ _ ht)];simpa using hb)):P:=h
theorem Hw{P:Prop}(h:P:=by(simpa using fP)):P:=h
theorem aA{P:Prop}(h:P:=by(decide)):P:=h
theorem Ku:type_of% @Calls.mono:= @Calls.mono
theorem wW:type_of% @List.size_toArray:= @List.size_toArray
theorem zZ:type_of% @List.getElem?_eq_none:= @List.getElem?_eq_none
theorem z6:type_of% @List.getElem?_eq_some_iff:= @List.getElem?_eq_some_iff
def gI(C:Cx)(fr:Fr)(L:aR)(op:Op)(ty:TypeId)(v:Value):Prop:=
 ∀a w,pT C.N fr a→SL C.B C.w0 L w→∀(d:Option Tmp) (pos:String) (af:Array Edge) (g:Option (Nat×Bool)),(execOp a.eval ⟨d,op,ty,pos,af,g⟩).run C.P w= .ok (.value v) w
def qz(C:Cx)(fr:Fr)(L:aR)(op:Op)(ty:TypeId)(R:qR):Prop:=
 ∀a w,pT C.N fr a→SL C.B C.w0 L w→∀(d:Option Tmp) (pos:String) (af:Array Edge) (g:Option (Nat×Bool)),∃v w' L',
  ((execOp a.eval ⟨d,op,ty,pos,af,g⟩).run C.P w= .ok (.value v) w'∨(execOp a.eval ⟨d,op,ty,pos,af,g⟩).run C.P w= .ok .skip w'∧v=undef)∧R v L'∧SL C.B C.w0 L' w'
theorem ae(h:gI C fr L op ty v)(hd:Nat.blt d C.N=true)(k:VL C ops Q l ((d,v)::fr) L):VL C ops Q (⟨some d,op,ty,pos,af,none⟩::l) fr L:=fun a w ha hw=>
 wpList_plain rfl fun K hK=>by unfold Oper.wp;rw[h a w ha hw];exact hK _ _ (k _ _ (ha.put hd v) hw)
theorem lK{R:qR}(h:qz C fr L op ty R)(hd:Nat.blt d C.N=true)(k:∀v L',R v L'→VL C ops Q l ((d,v)::fr) L'):VL C ops Q (⟨some d,op,ty,pos,af,none⟩::l) fr L:=fun a w ha hw=>
 wpList_plain rfl fun K hK=>by
  obtain⟨v,w',L',hr,hR,hs⟩:=h a w ha hw (some d) pos af none;unfold Oper.wp;rcases hr with hr|⟨hr,rfl⟩<;>rw[hr]<;>exact hK _ _ (k _ _ hR _ _ (ha.put hd _) hs)
theorem ajE{R:qR}(h:qz C fr L op ty R)(k:∀v L',R v L'→VL C ops Q l fr L'):VL C ops Q (⟨none,op,ty,pos,af,none⟩::l) fr L:=fun a w ha hw=>
 wpList_plain rfl fun K hK=>by
  obtain⟨v,w',L',hr,hR,hs⟩:=h a w ha hw none pos af none;unfold Oper.wp;rcases hr with hr|⟨hr,rfl⟩<;>rw[hr]<;>exact hK _ _ (k _ _ hR _ _ ha hs)
theorem sA{op:Op}{ty:TypeId}{pos:String}{af:Array Edge}{dd:Option Tmp}{j t:Nat}{want b:Bool}{a:Act}(hj:(ops[j]?).bind (·.dst)=some t)(ha:a.tmps[t]? =some (.bool b)):
  Region.wanted ⟨dd,op,ty,pos,af,some (j,want)⟩ (yielded ops a.tmps)=(b==want):=by
 simp[Region.wanted,yielded,hj,ha]
theorem y8{op:Op}{ty:TypeId}{pos:String}{af:Array Edge}{dd:Option Tmp}{j t:Nat}{want:Bool}{a:Act}(hj:(ops[j]?).bind (·.dst)=some t)(ha:a.tmps[t]? =some undef):
  Region.wanted ⟨dd,op,ty,pos,af,some (j,want)⟩ (yielded ops a.tmps)=false:=by
 simp[Region.wanted,yielded,hj,ha,undef]
theorem BY{P:Program}{QQ:Exit→Act→World→Prop}{dd:Option Tmp}{g:Nat×Bool}{a:Act}{w:World}(hw:Region.wanted ⟨dd,op,ty,pos,af,some g⟩ (yielded ops a.tmps)=true)(h:wpList P ops QQ (⟨dd,op,ty,pos,af,none⟩::l) a w):
  wpList P ops QQ (⟨dd,op,ty,pos,af,some g⟩::l) a w:=by
 unfold wpList at h⊢;rw[aq (by rfl)]at h;rw[aq hw];exact h
theorem F8{P:Program}{QQ:Exit→Act→World→Prop}{dd:Option Tmp}{g:Nat×Bool}{a:Act}{w:World}(hw:Region.wanted ⟨dd,op,ty,pos,af,some g⟩ (yielded ops a.tmps)=false)(h:wpList P ops QQ l (a.put dd undef) w):
  wpList P ops QQ (⟨dd,op,ty,pos,af,some g⟩::l) a w:=by
 unfold wpList;rw[aw (by rw[hw];exact Bool.false_ne_true)];exact h
theorem pT.bool{N:Nat}{a:Act}{t:Nat}{b c:Bool}(ha:pT N fr a)(ht:look t fr=some (.bool b))(hb:b=c):pT N ((t,.bool c)::fr) a:=by
 subst hb;refine⟨ha.defers,ha.size,fun s u hs=>?_⟩;unfold look at hs;cases zP:Nat.beq t s with
 |true=>
  have:=rn zP;subst this;rw[zP]at hs;simp only[G2,Et]at hs;subst hs;exact ha.at_ _ _ ht
 |false=>
  rw[zP]at hs;exact ha.at_ _ _ hs
theorem TN{dd:Option Tmp}{j t:Nat}{want:Bool}(hj:(ops[j]?).bind (·.dst)=some t)(ht:look t fr=some (.bool want))(k:VL C ops Q (⟨dd,op,ty,pos,af,none⟩::l) fr L):
  VL C ops Q (⟨dd,op,ty,pos,af,some (j,want)⟩::l) fr L:=fun a w ha hw=>
 BY ali (k a w ha hw)
theorem TM{j t:Nat}{want b:Bool}(hj:(ops[j]?).bind (·.dst)=some t)(ht:look t fr=some (.bool b))(hb:(b==want)=false)(hd:Nat.blt d C.N=true)(k:VL C ops Q l ((d,undef)::fr) L):
  VL C ops Q (⟨some d,op,ty,pos,af,some (j,want)⟩::l) fr L:=fun a w ha hw=>
 F8 alg (k _ _ (ha.put hd _) hw)
theorem TO{j t:Nat}{want:Bool}(hj:(ops[j]?).bind (·.dst)=some t)(ht:look t fr=some undef)(hd:Nat.blt d C.N=true)(k:VL C ops Q l ((d,undef)::fr) L):
  VL C ops Q (⟨some d,op,ty,pos,af,some (j,want)⟩::l) fr L:=fun a w ha hw=>
 F8 (y8 hj (ha.at_ _ _ ht)) (k _ _ (ha.put hd _) hw)
theorem nN{j t:Nat}{want b:Bool}(hj:(ops[j]?).bind (·.dst)=some t)(ht:look t fr=some (.bool b))(hd:Nat.blt d C.N=true)(k1:b=want→VL C ops Q (⟨some d,op,ty,pos,af,none⟩::l) ((t,.bool want)::fr) L)(k2:b= !want→VL C ops Q l ((d,undef)::(t,.bool !want)::fr) L):
  VL C ops Q (⟨some d,op,ty,pos,af,some (j,want)⟩::l) fr L:=fun a w ha hw=>by
 by_cases hb:b=want
 ·exact BY agC (k1 hb a w (ha.bool ht hb) hw)
 ·have Qc:b= !want:=by cases b<;>cases want<;>simp_all
  exact F8 agC (k2 Qc _ _ ((ha.bool ht Qc).put hd _) hw)
theorem aaz{j t:Nat}{p:Prop}[Decidable p](hj:(ops[j]?).bind (·.dst)=some t)(ht:look t fr=some (.bool (decide p)))(hd:Nat.blt d C.N=true)(k1:p→VL C ops Q (⟨some d,op,ty,pos,af,none⟩::l) ((t,.bool true)::fr) L)(k2:¬p→VL C ops Q l ((d,undef)::(t,.bool false)::fr) L):
  VL C ops Q (⟨some d,op,ty,pos,af,some (j,true)⟩::l) fr L:=
 nN hj ht hd (fun h=>k1 (yn h)) (fun h=>k2 (R8 h))
theorem aI{j t:Nat}{p:Prop}[Decidable p](hj:(ops[j]?).bind (·.dst)=some t)(ht:look t fr=some (.bool (decide p)))(hd:Nat.blt d C.N=true)(k1:¬p→VL C ops Q (⟨some d,op,ty,pos,af,none⟩::l) ((t,.bool false)::fr) L)(k2:p→VL C ops Q l ((d,undef)::(t,.bool true)::fr) L):
  VL C ops Q (⟨some d,op,ty,pos,af,some (j,false)⟩::l) fr L:=
 nN hj ht hd (fun h=>k1 (R8 h)) (fun h=>k2 (yn h))
def aJ(P:Program)(f:FuncId):Prop:=∃fn c,P.funcs[f]? =some fn∧(fn.name== "runtime.NumGoroutine")=false∧fn.body=some c
def dP(P:Program)(B:Nat)(w0:World)(f:FuncId)(args:cV)(L:aR)(R:qR):Prop:=
 ∀w,SL B w0 L w→Calls P f args.toArray w fun e w'=>∃v L',e= .returned v∧R v L'∧SL B w0 L' w'
theorem dP.mono{P:Program}{B:Nat}{w0:World}{f:FuncId}{args:cV}{R R':qR}(h:dP P B w0 f args L R)(hr:∀v L',R v L'→R' v L'):dP P B w0 f args L R':=
 fun w hw=>(h w hw).mono fun _ _ ⟨v,L',e,hR,hs⟩=>⟨v,L',e,hr _ _ hR,hs⟩
theorem dP.perm{P:Program}{B:Nat}{w0:World}{f:FuncId}{args:cV}{R:qR}(h:dP P B w0 f args L' R)(hp:L.Perm L'):dP P B w0 f args L R:=
 fun w hw=>h w (hw.perm hp)
theorem mc{ρ:Operand→Value}{P:Program}{w:World}{f:FuncId}{g:Operand}{tF:List Operand}{Co:Array TypeId}{fst cap:Array Value}{dd:Option Tmp}{gu:Option (Nat×Bool)}(hc:aJ P f)(hg:ρ g= .func (.func f) fst cap):
  (execOp ρ ⟨dd,.call {callee:=.value g,args:=tF.toArray,argTypes:=Co},ty,pos,af,gu⟩).run P w= .ok (.enter f (fst++(tF.map ρ).toArray++cap)) w:=by
 obtain⟨fn,c,h1,h2,h3⟩:=hc;have h2':¬fn.name= "runtime.NumGoroutine" :=by simpa using h2
 simp[execOp,resolve,hg,Deferred.ofValue,invoke,callFunc,h1,h2',h3]
theorem ba{f:FuncId}{tF:List Operand}{Co:Array TypeId}{vs:cV}{R:qR}(hc:aJ C.P f)(he:B9 fr tF=some vs)(h:dP C.P C.B C.w0 f vs L R)(hd:Nat.blt d C.N=true)(k:∀v L',R v L'→VL C ops Q l ((d,v)::fr) L'):VL C ops Q (⟨some d,.call {callee:=.value (.func f),args:=tF.toArray,argTypes:=Co},ty,pos,af,none⟩::l) fr L:=fun a w ha hw=>
 wpList_plain rfl fun K hK=>by
  unfold Oper.wp;rw[mc hc (fst:= #[]) (cap:= #[]) rfl,ha.B9 he];rw[Array.append_empty,Array.empty_append];refine Ku (h w hw) fun e w' ⟨v,L',he,hR,hs⟩=>?_;subst he;exact hK _ _ (k _ _ hR _ _ (ha.put hd _) hs)
theorem uK{f:FuncId}{g:Operand}{tF:List Operand}{Co:Array TypeId}{vs fst cap:cV}{R:qR}(hc:aJ C.P f)(hg:ev fr g=some (.func (.func f) fst.toArray cap.toArray))(he:B9 fr tF=some vs)(h:dP C.P C.B C.w0 f (fst++vs++cap) L R)(hd:Nat.blt d C.N=true)(k:∀v L',R v L'→VL C ops Q l ((d,v)::fr) L'):VL C ops Q (⟨some d,.call {callee:=.value g,args:=tF.toArray,argTypes:=Co},ty,pos,af,none⟩::l) fr L:=fun a w ha hw=>
 wpList_plain rfl fun K hK=>by
  unfold Oper.wp;rw[mc hc (ha.tmp hg),ha.B9 he];simp only[List.append_toArray];refine Ku (h w hw) fun e w' ⟨v,L',he,hR,hs⟩=>?_;subst he;exact hK _ _ (k _ _ hR _ _ (ha.put hd _) hs)
def Ini(N:Nat)(args:cV):Fr→Prop
 |[]=>True
 |(t,v)::r=>(Nat.blt t N=true∧args.getD t undef=v)∧Ini N args r
theorem Ini.look{N:Nat}{args:cV}:∀{fr:Fr},Ini N args fr→∀t v,look t fr=some v→t<N∧args.getD t undef=v
 |[],_,t,v,h=>by cases h
 |(s,u)::r,hs,t,v,h=>by
  unfold Proofs.YtaodmbolhoafcaaGreatDoor.look at h;cases hb:Nat.beq s t with
  |true=>
   rw[hb]at h;simp only[G2,Et]at h;have:=rn hb;subst this;subst h;exact⟨by simpa using hs.1.1,hs.1.2⟩
  |false=>
   rw[hb]at h;exact hs.2.look t v h
def Cn(P:Program)(fn:Func)(R:qR):Exit→Fr→aR→Prop
 | .ret,fr,L| .normal,fr,L=>∀(B:Nat) (w0:World) a w,pT fn.ntmps fr a→SL B w0 L w→∃v L',(results fn a.tmps).run P w= .ok v w∧R v L'∧SL B w0 L' w
 |_,_,_=>False
theorem apD{P:Program}{B:Nat}{w0:World}{f:FuncId}{fn:Func}{c:Code}{args:cV}{R:qR}(hf:P.funcs[f]? =some fn)(hb:fn.body=some c)(hl:args.length≤fn.ntmps)(fr0:Fr)(hi:Ini fn.ntmps args fr0)(h:VC ⟨P,fn.ntmps,B,w0⟩ c (Cn P fn R) fr0 L):dP P B w0 f args L R:=fun w hw=>by
 refine calls_of_wp hf hb (ym (h _ w ⟨rfl,?_,fun t v ht=>?_⟩ hw) fun e a w ⟨fr,L,ha,hs,hq⟩=>?_)
 ·simp;omega
 ·obtain⟨h1,h2⟩:=hi.look t v ht;simp only[wW];by_cases fP:t<args.length
  ·rw[Array.getElem?_append_left Hw];simp[fP]at h2;simp[fP,h2]
  ·rw[Array.getElem?_append_right Hw];have h3:args[t]? =none:=zZ aa;simp[h3]at h2;subst h2;simp;rw[Array.getElem?_replicate,aq aa]
 ·cases e<;>first
   |exact hq.elim
   |(obtain⟨v,L',h1,h2,h3⟩:=hq B w0 a w ha hs;exact⟨ha.defers,v,h1,v,L',rfl,h2,h3⟩)
theorem atj{P:Program}{fn:Func}{R:qR}{t:Nat}(hr:fn.results= #[.tmp t]){v:Value}(hl:look t fr=some v)(h:R v L):Cn P fn R .ret fr L:=fun B w0 a w ha hs=>by
 refine⟨v,L,?_,h,hs⟩;rw[results_tmp hr];simp[ha.at_ _ _ hl]
theorem ati{P:Program}{fn:Func}{R:qR}(hr:fn.results= #[])(h:R (.tuple #[]) L):Cn P fn R .ret fr L:=fun B w0 a w ha hs=>⟨_,L,results_none hr _ _ _,h,hs⟩
theorem atk{P:Program}{fn:Func}{R:qR}{t u:Nat}(hr:fn.results= #[.tmp t,.tmp u]){v x:Value}(hl:look t fr=some v)(rN:look u fr=some x)(h:R (.tuple #[v,x]) L):Cn P fn R .ret fr L:=fun B w0 a w ha hs=>by
 refine⟨_,L,?_,h,hs⟩;rw[results_tmp2 hr];simp[ha.at_ _ _ hl,ha.at_ _ _ rN]
theorem aqX{P:Program}{fn:Func}{R:qR}{t u s:Nat}(hr:fn.results= #[.tmp t,.tmp u,.tmp s]){v x y:Value}(hl:look t fr=some v)(rN:look u fr=some x)(LG:look s fr=some y)(h:R (.tuple #[v,x,y]) L):Cn P fn R .ret fr L:=fun B w0 a w ha hs=>by
 refine⟨_,L,?_,h,hs⟩;simp[results,hr,ha.at_ _ _ hl,ha.at_ _ _ rN,ha.at_ _ _ LG]
theorem aqY{P:Program}{fn:Func}{R:qR}{t u s q:Nat}(hr:fn.results= #[.tmp t,.tmp u,.tmp s,.tmp q]){v x y z:Value}(hl:look t fr=some v)(rN:look u fr=some x)(LG:look s fr=some y)(hl4:look q fr=some z)(h:R (.tuple #[v,x,y,z]) L):Cn P fn R .ret fr L:=fun B w0 a w ha hs=>by
 refine⟨_,L,?_,h,hs⟩;simp[results,hr,ha.at_ _ _ hl,ha.at_ _ _ rN,ha.at_ _ _ LG,ha.at_ _ _ hl4]
theorem aqZ{P:Program}{fn:Func}{R:qR}(h:Cn P fn R .ret fr L):Cn P fn R .normal fr L:=h
section
variable{x y z:Operand}{u t:Value}{k:IntKind}{m n:Int}
theorem dV(h:ev fr x=some v):gI C fr L (.move x) ty v:=fun a w ha hw d pos af g=>by simp[execOp,ha.tmp h]
theorem lB(h:ev fr x=some v):gI C fr L (.assign x) ty v:=fun a w ha hw d pos af g=>by simp[execOp,ha.tmp h]
theorem Q1(h:ev fr x=some (.bool true))(h1:ev fr y=some v):gI C fr L (.pick x y z) ty v:=fun a w ha hw d pos af g=>by simp[execOp,ha.tmp h,ha.tmp h1,asBool]
theorem Q0(h:ev fr x=some (.bool false))(h1:ev fr z=some v):gI C fr L (.pick x y z) ty v:=fun a w ha hw d pos af g=>by simp[execOp,ha.tmp h,ha.tmp h1,asBool]
theorem fG{op:BinOp}{xt:TypeId}{P:Program}{w:World}(a:Act)(d:Option Tmp)(pos:String)(af:Array Edge)(g:Option (Nat×Bool)){yt:TypeId}(h1:a.eval x= .int k m)(h2:a.eval y= .int k n)(hs:op≠ .shl∧op≠ .shr):
  (execOp a.eval ⟨d,.binOp op xt x y yt,ty,pos,af,g⟩).run P w=((match op with
  | .add| .sub| .mul=>Op.intArith op k m n
  | .quo| .rem=>Op.intDiv op k m n
  | .and| .or| .xor| .andNot=>Op.intBits op k m n
  |_=>Op.intCmp op m n).run P w).andThen fun v w=>.ok (.value v) w:=by
 have he:(eqGuard op xt x y (.int k m) (.int k n)).run P w= .ok () w:=by cases op<;>simp[eqGuard]
 obtain⟨k9,jK⟩:=hs;cases op<;>simp_all[execOp,binOp]
theorem bY{xt yt:TypeId}(h1:ev fr x=some (.int k m))(h2:ev fr y=some (.int k n)){r:Int}(hr:k.wrap (m+n)=r):gI C fr L (.binOp .add xt x y yt) ty (.int k r):=fun a w ha hw d pos af g=>by
 rw[fG a d pos af g (ha.tmp h1) (ha.tmp h2) ⟨aA,aA⟩];simp[Op.intArith,hr]
theorem dQ{xt yt:TypeId}(h1:ev fr x=some (.int k m))(h2:ev fr y=some (.int k n)){r:Int}(hr:k.wrap (m-n)=r):gI C fr L (.binOp .sub xt x y yt) ty (.int k r):=fun a w ha hw d pos af g=>by
 rw[fG a d pos af g (ha.tmp h1) (ha.tmp h2) ⟨aA,aA⟩];simp[Op.intArith,hr]
theorem e_{xt yt:TypeId}(h1:ev fr x=some (.int k m))(h2:ev fr y=some (.int k n)){r:Int}(hr:k.wrap (m*n)=r):gI C fr L (.binOp .mul xt x y yt) ty (.int k r):=fun a w ha hw d pos af g=>by
 rw[fG a d pos af g (ha.tmp h1) (ha.tmp h2) ⟨aA,aA⟩];simp[Op.intArith,hr]
theorem qc{xt yt:TypeId}(h1:ev fr x=some (.int k m))(h2:ev fr y=some (.int k n))(h0:n≠0){r:Int}(hr:k.wrap (m.tdiv n)=r):gI C fr L (.binOp .quo xt x y yt) ty (.int k r):=fun a w ha hw d pos af g=>by
 rw[fG a d pos af g (ha.tmp h1) (ha.tmp h2) ⟨aA,aA⟩];simp[Op.intDiv,h0,hr]
theorem qd{xt yt:TypeId}(h1:ev fr x=some (.int k m))(h2:ev fr y=some (.int k n))(h0:n≠0){r:Int}(hr:m.tmod n=r):gI C fr L (.binOp .rem xt x y yt) ty (.int k r):=fun a w ha hw d pos af g=>by
 rw[fG a d pos af g (ha.tmp h1) (ha.tmp h2) ⟨aA,aA⟩];simp[Op.intDiv,h0,hr]
theorem jZ{xt yt:TypeId}(h1:ev fr x=some (.int k m))(h2:ev fr y=some (.int k n)){r:Int}(hr:k.wrap ((BitVec.ofInt k.bits m &&& BitVec.ofInt k.bits n).toNat:Int)=r):gI C fr L (.binOp .and xt x y yt) ty (.int k r):=fun a w ha hw d pos af g=>by
 rw[fG a d pos af g (ha.tmp h1) (ha.tmp h2) ⟨aA,aA⟩,←hr];simp[Op.intBits]
theorem tL{xt yt:TypeId}(h1:ev fr x=some (.int k m))(h2:ev fr y=some (.int k n)){r:Int}(hr:k.wrap ((BitVec.ofInt k.bits m ||| BitVec.ofInt k.bits n).toNat:Int)=r):gI C fr L (.binOp .or xt x y yt) ty (.int k r):=fun a w ha hw d pos af g=>by
 rw[fG a d pos af g (ha.tmp h1) (ha.tmp h2) ⟨aA,aA⟩,←hr];simp[Op.intBits]
theorem ng{xt yt:TypeId}(h1:ev fr x=some (.int k m))(h2:ev fr y=some (.int k n)){r:Int}(hr:k.wrap ((BitVec.ofInt k.bits m ^^^ BitVec.ofInt k.bits n).toNat:Int)=r):gI C fr L (.binOp .xor xt x y yt) ty (.int k r):=fun a w ha hw d pos af g=>by
 rw[fG a d pos af g (ha.tmp h1) (ha.tmp h2) ⟨aA,aA⟩,←hr];simp[Op.intBits]
theorem gb{xt yt:TypeId}{k':IntKind}(h1:ev fr x=some (.int k m))(h2:ev fr y=some (.int k' n))(h0:0≤n){r:Int}(hr:k.wrap (m*2^min n.toNat k.bits)=r):gI C fr L (.binOp .shl xt x y yt) ty (.int k r):=fun a w ha hw d pos af g=>by
 have hn:¬n<0:=by omega
 rw[←hr];simp[execOp,ha.tmp h1,ha.tmp h2,binOp,Op.shift,eqGuard,hn]
theorem di{xt yt:TypeId}{k':IntKind}(h1:ev fr x=some (.int k m))(h2:ev fr y=some (.int k' n))(h0:0≤n){r:Int}(hr:m.fdiv (2^min n.toNat k.bits)=r):gI C fr L (.binOp .shr xt x y yt) ty (.int k r):=fun a w ha hw d pos af g=>by
 have hn:¬n<0:=by omega
 rw[←hr];simp[execOp,ha.tmp h1,ha.tmp h2,binOp,Op.shift,eqGuard,hn]
theorem aha{xt yt:TypeId}(h1:ev fr x=some (.int k m))(h2:ev fr y=some (.int k n)):gI C fr L (.binOp .eql xt x y yt) ty (.bool (decide (m=n))):=fun a w ha hw d pos af g=>by
 rw[fG a d pos af g (ha.tmp h1) (ha.tmp h2) ⟨aA,aA⟩];simp[Op.intCmp];rfl
theorem ahe{xt yt:TypeId}(h1:ev fr x=some (.int k m))(h2:ev fr y=some (.int k n)):gI C fr L (.binOp .neq xt x y yt) ty (.bool (decide (¬m=n))):=fun a w ha hw d pos af g=>by
 rw[fG a d pos af g (ha.tmp h1) (ha.tmp h2) ⟨aA,aA⟩];simp[Op.intCmp,bne];rfl
theorem xP{xt yt:TypeId}(h1:ev fr x=some (.int k m))(h2:ev fr y=some (.int k n)):gI C fr L (.binOp .lss xt x y yt) ty (.bool (decide (m<n))):=fun a w ha hw d pos af g=>by
 rw[fG a d pos af g (ha.tmp h1) (ha.tmp h2) ⟨aA,aA⟩];simp[Op.intCmp]
theorem ahd{xt yt:TypeId}(h1:ev fr x=some (.int k m))(h2:ev fr y=some (.int k n)):gI C fr L (.binOp .leq xt x y yt) ty (.bool (decide (m≤n))):=fun a w ha hw d pos af g=>by
 rw[fG a d pos af g (ha.tmp h1) (ha.tmp h2) ⟨aA,aA⟩];simp[Op.intCmp]
theorem ahc{xt yt:TypeId}(h1:ev fr x=some (.int k m))(h2:ev fr y=some (.int k n)):gI C fr L (.binOp .gtr xt x y yt) ty (.bool (decide (n<m))):=fun a w ha hw d pos af g=>by
 rw[fG a d pos af g (ha.tmp h1) (ha.tmp h2) ⟨aA,aA⟩];simp[Op.intCmp]
theorem ahb{xt yt:TypeId}(h1:ev fr x=some (.int k m))(h2:ev fr y=some (.int k n)):gI C fr L (.binOp .geq xt x y yt) ty (.bool (decide (n≤m))):=fun a w ha hw d pos af g=>by
 rw[fG a d pos af g (ha.tmp h1) (ha.tmp h2) ⟨aA,aA⟩];simp[Op.intCmp]
theorem jx{b:Bool}(h:ev fr x=some (.bool b)){xt:TypeId}:gI C fr L (.unOp .not xt x) ty (.bool !b):=fun a w ha hw d pos af g=>by simp[execOp,ha.tmp h,Op.unary]
theorem UL(h:ev fr x=some (.int k m)){xt:TypeId}{r:Int}(hr:k.wrap (0-m)=r):gI C fr L (.unOp .neg xt x) ty (.int k r):=fun a w ha hw d pos af g=>by rw[←hr];simp[execOp,ha.tmp h,Op.unary,Op.intArith]
theorem bw{s t:TypeId}{k':IntKind}(hs:C.P.underlying s=some (.int k))(ht:C.P.underlying t=some (.int k'))(h:ev fr x=some (.int k m)){r:Int}(hr:k'.wrap m=r):gI C fr L (.convert s t x) ty (.int k' r):=fun a w ha hw d pos af g=>by
 rw[←hr];simp[execOp,ha.tmp h,convert,iQ hs,iQ ht,Conv.intToInt]
theorem MT{vs:cV}{i:Nat}(h:ev fr x=some (.tuple vs.toArray))(hi:vs[i]? =some v):gI C fr L (.extract x i) ty v:=fun a w ha hw d pos af g=>by simp[execOp,ha.tmp h,Instr.extract,hi]
theorem JV{fn:Go.Fn}{tF bs:List Operand}{us vs:cV}(h1:B9 fr tF=some us)(h2:B9 fr bs=some vs):gI C fr L (.makeFunc fn tF.toArray bs.toArray) ty (.func fn us.toArray vs.toArray):=fun a w ha hw d pos af g=>by
 simp[execOp,Instr.makeFunc,ha.B9 h1,ha.B9 h2]
theorem JX{p:Addr}(h:ev fr x=some (.pointer (some p))):gI C fr L (.nilCheck x) ty (.pointer (some p)):=fun a w ha hw d pos af g=>by simp[execOp,ha.tmp h]
theorem MU{t:TypeId}{s:ByteArray}(ht:C.P.underlying t=some .string)(h:ev fr x=some (.string s)):gI C fr L (.call {callee:=.builtin .len,args:= #[x],argTypes:= #[t]}) ty (.int .i64 (s.size:Int)):=fun a w ha hw d pos af g=>by
 simp[execOp,resolve,invoke,builtin,Builtin.len_,ha.tmp h,iQ ht,goInt]
theorem pj{t e:TypeId}{A:bj}{n c:Nat}(ht:C.P.underlying t=some (.slice e))(h:ev fr x=some (.slice A n c)):gI C fr L (.call {callee:=.builtin .len,args:= #[x],argTypes:= #[t]}) ty (.int .i64 (n:Int)):=fun a w ha hw d pos af g=>by
 simp[execOp,resolve,invoke,builtin,Builtin.len_,ha.tmp h,iQ ht,goInt]
theorem xQ{Co:Array TypeId}(h1:ev fr x=some (.int k m))(h2:ev fr y=some (.int k n)):gI C fr L (.call {callee:=.builtin .min,args:= #[x,y],argTypes:=Co}) ty (.int k (min m n)):=fun a w ha hw d pos af g=>by
 have:(if n<m then n else m)=min m n:=by rw[Int.min_def];split<;>split<;>omega
 simp[execOp,resolve,invoke,builtin,Builtin.min_,Builtin.min2,ha.tmp h1,ha.tmp h2,this]
theorem JW{Co:Array TypeId}(h1:ev fr x=some (.int k m))(h2:ev fr y=some (.int k n)):gI C fr L (.call {callee:=.builtin .max,args:= #[x,y],argTypes:=Co}) ty (.int k (max m n)):=fun a w ha hw d pos af g=>by
 have:(if m<n then n else m)=max m n:=by rw[Int.max_def];split<;>split<;>omega
 simp[execOp,resolve,invoke,builtin,Builtin.max_,Builtin.max2,ha.tmp h1,ha.tmp h2,this]
theorem GD{t:TypeId}{s:al}{i:Nat}(ht:C.P.underlying t=some .string)(h:ev fr x=some (.string ⟨s.toArray⟩))(h2:ev fr y=some (.int k m))(hm:m=(i:Int)){b:UInt8}(hb:s[i]? =some b):gI C fr L (.index t x y) ty (.int .u8 (b.toNat:Int)):=fun a w ha hw d pos af g=>by
 subst hm;obtain⟨hi,hb⟩:=z6.1 hb;have h3:(⟨s.toArray⟩:ByteArray)[i]? =some b:=by
  have jb:i<(⟨s.toArray⟩:ByteArray).size:=by show i<s.toArray.size;simpa using hi
  rw[getElem?_pos (⟨s.toArray⟩:ByteArray) i jb];show some (s.toArray[i]'_)=_;simp[hb]
 simp[execOp,Instr.index,asIntOf,ha.tmp h,ha.tmp h2,iQ ht,h3]
theorem Mv(s t:al):((⟨s.toArray⟩:ByteArray).toList==(⟨t.toArray⟩:ByteArray).toList)=decide (s=t):=by
 rw[ByteArray.toList_mk,ByteArray.toList_mk,Bool.eq_iff_iff];simp
end
end
end
section
theorem Uh{P:Prop}(h:P:=by(simpa using k1)):P:=h
theorem Hv{P:Prop}(h:P:=by(simp[Ch.fp,qO])):P:=h
theorem xA{P:Prop}(h:P:=by(rw[e])):P:=h
theorem z7:type_of% @Bool.and_eq_true:= @Bool.and_eq_true
theorem Kv:type_of% @World.grownBy_alloc:= @World.grownBy_alloc
theorem aX:type_of% @List.length_append:= @List.length_append
theorem mD:type_of% @Nat.add_mul:= @Nat.add_mul
theorem bV:type_of% @List.append_assoc:= @List.append_assoc
theorem yo:type_of% @List.take_left:= @List.take_left
theorem N9:type_of% @setRow_heap:= @setRow_heap
theorem Kw:type_of% @Array.length_toList:= @Array.length_toList
theorem N_:type_of% @setRow_other:= @setRow_other
theorem nU:type_of% @List.nil_append:= @List.nil_append
theorem Cd:type_of% @Prod.mk.injEq:= @Prod.mk.injEq
theorem N':type_of% @Nat.mul_pos:= @Nat.mul_pos
theorem ah1:type_of% @Nat.le_mul_of_pos_right:= @Nat.le_mul_of_pos_right
def pZ(P:Program)(t:TypeId):Bool:=(match P.underlying t with|none=>false|some (.struct _)=>false|some (.array _ _)=>false|some _=>true)&&((P.info? t).map (·.size)==some 1)
theorem yc{P:Program}{t:TypeId}(h:pZ P t=true)(w:World):(isAgg t).run P w= .ok false w:=by
 unfold pZ at h;unfold isAgg;cases hd:P.underlying t with
 |none=>simp[hd]at h
 |some d=>cases d<;>simp[iQ hd]<;>simp[hd]at h
theorem YX{P:Program}{t:TypeId}(h:pZ P t=true)(w:World):(sizeOf t).run P w= .ok 1 w:=by
 unfold pZ at h;rw[z7]at h;have h2:=h.2;cases hi:P.info? t with
 |none=>rw[hi]at h2;simp at h2
 |some i=>rw[hi]at h2;simp at h2;simp[sizeOf,typeInfo,hi,h2]
def pt(P:Program)(t:TypeId)(k:Nat):Bool:=(match P.underlying t with|some (.struct _)=>true|some (.array _ _)=>true|_=>false)&&((P.info? t).map (·.size)==some k)
theorem adj{P:Program}{t:TypeId}{k:Nat}(h:pt P t k=true)(w:World):(isAgg t).run P w= .ok true w:=by
 unfold pt at h;unfold isAgg;cases hd:P.underlying t with
 |none=>simp[hd]at h
 |some d=>cases d<;>simp[iQ hd]<;>simp[hd]at h
theorem YW{P:Program}{t:TypeId}{k:Nat}(h:pt P t k=true)(w:World):(sizeOf t).run P w= .ok k w:=by
 unfold pt at h;rw[z7]at h;have h2:=h.2;cases hi:P.info? t with
 |none=>rw[hi]at h2;simp at h2
 |some i=>rw[hi]at h2;simp at h2;simp[sizeOf,typeInfo,hi,h2]
theorem GZ{P:Program}{t:TypeId}{k:Nat}(h:(P.info? t).map (·.size)=some k)(w:World):(sizeOf t).run P w= .ok k w:=by
 cases hi:P.info? t with
 |none=>rw[hi]at h;simp at h
 |some i=>rw[hi]at h;simp at h;simp[sizeOf,typeInfo,hi,h]
theorem CN{B:Nat}{w0 w:World}{L:aR}{g o:Nat}{bt:TypeId}{cs:cV}{f:Ch→aR}{v:Value}(hw:SL B w0 L w)(hm:mx (.bE g bt cs) L f)(hv:cs[o]? =some v):w.cell? ⟨g,o,none⟩=some v:=by
 have h:=(hw.all _ hm.mem).2.cell o;rw[h];simpa using hv
section
variable{C:Cx}{Q:Exit→Fr→aR→Prop}{fr jH:Fr}{L L':aR}{ops:Array Oper}{l:sD}{op:Op}{ty:TypeId}{pos:String}{af:Array Edge}{d:Nat}{v:Value}
variable{x y z:Operand}{k:IntKind}{m n:Int}{f:Ch→aR}{g o:Nat}{bt t e:TypeId}{cs:cV}
theorem bL(hs:pZ C.P t=true)(he:ev fr x=some (.pointer (some ⟨g,o,none⟩)))(hm:mx (.bE g bt cs) L f)(hv:cs[o]? =some v):gI C fr L (.load t x) ty v:=fun a w ha hw d pos af gg=>by
 simp[execOp,Instr.loadAt,Instr.sureAddr,ha.tmp he,loadVar,yc hs,CN hw hm hv]
theorem kF{P:Program}{w:World}{p:Addr}{t:TypeId}{cs:cV}(hs:pt P t cs.length=true)(h:∀j u,cs[j]? =some u→w.cell? (p.add j)=some u):(loadVar t p).run P w= .ok (.agg cs.toArray) w:=by
 simp[loadVar,adj hs,YW hs,run_loadCells_list w p cs h]
theorem bQ(k:Nat)(hs:pt C.P t k=true)(he:ev fr x=some (.pointer (some ⟨g,o,none⟩)))(hm:mx (.bE g bt cs) L f)(us:cV)(hu:(cs.drop o).take k=us)(hk:us.length=k):gI C fr L (.load t x) ty (.agg us.toArray):=fun a w ha hw d pos af gg=>by
 subst hk;have:=kF (P:=C.P) (w:=w) (p:=⟨g,o,none⟩) hs (fun j u hj=>by
  rw[zY];refine CN hw hm ?_;rw[←hu,G0]at hj;split at hj
  ·rwa [k_7]at hj
  ·cases hj)
 simp[execOp,Instr.loadAt,Instr.sureAddr,ha.tmp he,this]
theorem Mr{B:Nat}{w0 w:World}{size nn c j:Nat}{A:bj}{xs:cV}{u:Value}(hb:aL B w0 L size (.slice A nn c) nn xs)(hw:SL B w0 L w)(hu:xs[j]? =some u)(hs:0<nn):∃ad,A=some ad∧w.cell? (ad.add j)=some u:=by
 obtain⟨A',c',hv,hc,hl,hr⟩:=hb w hw;injection hv with q1 q2 q3;subst q1;obtain⟨ad,h,_,fB⟩:=hr hs;exact⟨ad,h,fB j u hu⟩
theorem aG{size nn c i:Nat}{A:bj}{xs:cV}(ht:C.P.underlying t=some (.slice e))(hz:(C.P.info? e).map (·.size)=some size)(he:ev fr x=some (.slice A nn c))(h2:ev fr y=some (.int k m))(hm:m=(i:Int))(hi:i<nn)(hb:aL C.B C.w0 L size (.slice A nn c) nn xs):
  gI C fr L (.indexAddr t x y) ty (.pointer (A.map (·.add (i*size)))):=fun a w ha hw d pos af gg=>by
 subst hm;obtain⟨A',c',hv,hc,hl,hr⟩:=hb w hw;injection hv with q1 q2 q3;subst q1;obtain⟨ad,h,_,fB⟩:=hr aa;subst h;simp[execOp,Instr.indexAt,asIntOf,ha.tmp he,ha.tmp h2,iQ ht,hi,GZ hz]
theorem au{size nn c j:Nat}{A:bj}{xs:cV}(hs:pZ C.P t=true)(he:ev fr x=some (.pointer (A.map (·.add j))))(hb:aL C.B C.w0 L size (.slice A nn c) nn xs)(hn:0<nn)(hv:xs[j]? =some v):gI C fr L (.load t x) ty v:=fun a w ha hw d pos af gg=>by
 obtain⟨ad,rfl,hc⟩:=Mr hb hw hv hn;simp[execOp,Instr.loadAt,Instr.sureAddr,ha.tmp he,loadVar,yc hs,hc]
theorem fz{size nn c j q:Nat}{A:bj}{xs:cV}(hs:pZ C.P t=true)(he:ev fr x=some (.pointer (A.map (fun ad=>(ad.add j).add q))))(hb:aL C.B C.w0 L size (.slice A nn c) nn xs)(hn:0<nn)(hv:xs[j+q]? =some v):gI C fr L (.load t x) ty v:=fun a w ha hw d pos af gg=>by
 obtain⟨ad,rfl,hc⟩:=Mr hb hw hv hn;rw[←lA]at hc;simp[execOp,Instr.loadAt,Instr.sureAddr,ha.tmp he,loadVar,yc hs,hc]
theorem dg{size nn c j:Nat}{A:bj}{xs:cV}(k:Nat)(hs:pt C.P t k=true)(he:ev fr x=some (.pointer (A.map (·.add j))))(hb:aL C.B C.w0 L size (.slice A nn c) nn xs)(hn:0<nn)(us:cV)(hu:∀q u,us[q]? =some u→xs[j+q]? =some u)(hk:us.length=k):gI C fr L (.load t x) ty (.agg us.toArray):=fun a w ha hw d pos af gg=>by
 subst hk;obtain⟨A',c',hv,hc,hl,hr⟩:=hb w hw;injection hv with q1 q2 q3;subst q1;obtain⟨ad,h,_,fB⟩:=hr hn;subst h;have:=kF (P:=C.P) (w:=w) (p:=ad.add j) hs (fun q u hq=>by rw[lA];exact fB _ _ (hu q u hq));simp[execOp,Instr.loadAt,Instr.sureAddr,ha.tmp he,this]
theorem GC{fs:Array Field}{i:Nat}{fd:Field}{sz:Nat}(ht:C.P.underlying t=some (.struct fs))(hf:fs[i]? =some fd)(hz:(C.P.info? fd.type).map (·.size)=some (sz+1))(he:ev fr x=some (.pointer (some ⟨g,o,none⟩))){q:Nat}(hq:o+fd.offset=q):
  gI C fr L (.fieldAddr t x i) ty (.pointer (some ⟨g,q,none⟩)):=fun a w ha hw d pos af gg=>by
 subst hq;have h0:¬(sz+1=0):=by omega
 simp[execOp,Instr.fieldAt,Instr.sureAddr,fieldPlace,ha.tmp he,iQ ht,hf,GZ hz,zY]
theorem xN{fs:Array Field}{i j:Nat}{fd:Field}{sz size nn c:Nat}{A:bj}{xs:cV}(ht:C.P.underlying t=some (.struct fs))(hf:fs[i]? =some fd)(hz:(C.P.info? fd.type).map (·.size)=some (sz+1))(he:ev fr x=some (.pointer (A.map (·.add j))))(hb:aL C.B C.w0 L size (.slice A nn c) nn xs)(hn:0<nn){q:Nat}(hq:fd.offset=q):
  gI C fr L (.fieldAddr t x i) ty (.pointer (A.map (fun ad=>(ad.add j).add q))):=fun a w ha hw d pos af gg=>by
 subst hq;obtain⟨A',c',hv,hc,hl,hr⟩:=hb w hw;injection hv with q1 q2 q3;subst q1;obtain⟨ad,h,_,fB⟩:=hr hn;subst h;simp[execOp,Instr.fieldAt,Instr.sureAddr,fieldPlace,ha.tmp he,iQ ht,hf,GZ hz]
theorem aiW(P:Program)(w:World)(e:TypeId)(v:Value):(Instr.box e v).run P w= .ok (.pointer (some ⟨w.heap.size,0,none⟩)) (w.alloc (.cells v.cells e)):=by
 simp[Instr.box,newVar,newRow]
theorem SL.KK{B:Nat}{w0 w:World}{L:aR}(h:SL B w0 L w)(e:TypeId)(cs:cV):SL B w0 (.bE w.heap.size e cs::L) (w.alloc (.cells cs.toArray e)):=
 h.gL (Kv w _ none) ⟨h.base,tw.new w e cs.toArray⟩ (.inr ⟨_,rfl,gj _⟩)
theorem UT(he:ev fr x=some v)(hc:v.cells=cs.toArray):qz C fr L (.box e x) ty (fun p L'=>∃g,p= .pointer (some ⟨g,0,none⟩)∧L'= .bE g e cs::L):=fun a w ha hw d pos af gg=>
 ⟨.pointer (some ⟨w.heap.size,0,none⟩),w.alloc (.cells v.cells e),_,.inl (by simp[execOp,ha.tmp he,aiW]),⟨w.heap.size,rfl,rfl⟩,by rw[hc];exact hw.KK e cs⟩
theorem X5{i:TypeInfo}{zv:Value}(hi:C.P.info? e=some i)(hz:i.zero=some zv)(hc:zv.cells=cs.toArray):qz C fr L (.alloc e) ty (fun p L'=>∃g,p= .pointer (some ⟨g,0,none⟩)∧L'= .bE g e cs::L):=fun a w ha hw d pos af gg=>
 ⟨.pointer (some ⟨w.heap.size,0,none⟩),w.alloc (.cells zv.cells e),.bE w.heap.size e cs::L,.inl (by simp[execOp,Instr.alloc,zeroValue,typeInfo,hi,hz,newVar,newRow]),⟨w.heap.size,rfl,rfl⟩,by rw[hc];exact hw.KK e cs⟩
theorem SL.Qn{B:Nat}{w0 w w':World}{L:aR}{c c':Ch}{f:Ch→aR}(h:SL B w0 L w)(hs:mx c L f)(hg:w.grownBy w' c.fp)(hc:c.holds B w→c'.holds B w')(hf:c'.fp=none∨c'.fp=c.fp∨∃g,c'.fp=some g∧w.heap.size≤g):SL B w0 (f c') w':=by
 obtain⟨R,h1,h2⟩:=hs.perm;have hp:=h.perm h1;exact(hp.Lc hg (hc hp.head) hf).perm (h2 c').symm
theorem SL.store{B:Nat}{w0 w:World}{L:aR}{f:Ch→aR}{g o:Nat}{bt:TypeId}{cs:cV}(h:SL B w0 L w)(hm:mx (.bE g bt cs) L f)(u:Value):SL B w0 (f (.bE g bt (cs.set o u))) (w.setCell ⟨g,o,none⟩ u):=
 h.Qn hm (yG (N0 w _) (.inl rfl) u) (fun⟨h1,h2⟩=>⟨h1,by have:=h2.aeS o u;simpa using this⟩) (.inr (.inl rfl))
theorem uD{P:Program}{w:World}{p:Addr}{v u:Value}(hs:pZ P t=true)(h1:v.oneCell'=true)(hc:w.cell? p=some u)(hf:w.frozen? p=false):(storeVar t p v).run P w= .ok () (w.setCell p v):=by
 have tT:v.cells= #[v]:=by cases v<;>simp_all[Value.cells,Value.oneCell']
 simp[storeVar,YX hs,tT,storeCells,Addr.add,run_store P w p v _ h1,hc,hf]
theorem oI(hs:pZ C.P t=true)(he:ev fr x=some (.pointer (some ⟨g,o,none⟩)))(hv:ev fr y=some v)(h1:v.oneCell'=true)(hm:mx (.bE g bt cs) L f)(ho:o<cs.length):
  qz C fr L (.store t x y) ty (fun p L'=>L'=f (.bE g bt (cs.set o v))):=fun a w ha hw d pos af gg=>by
 have hc:=CN hw hm (fo ho);have hf:=(hw.all _ hm.mem).2.frozen o;exact⟨undef,_,_,.inr ⟨by simp[execOp,Instr.storeAt,Instr.sureAddr,ha.tmp he,ha.tmp hv,uD hs h1 hc hf],rfl⟩,rfl,hw.store hm v⟩
theorem wv.append{P:Program}{t e:TypeId}{size bytes:Nat}{z:Value}(T:sF P t e size bytes z)(ty:TypeId){w:World}{B:Nat}{A:bj}{n c:Nat}{xs:cV}(mg:wv w B e size A n c xs){B2:Nat}{x:Value}{m:Nat}{news:cV}(hr:Rd w B2 size x m news)(h1:∀u∈news,u.oneCell'=true)(jV:(n+m)*bytes≤140737488355328)(Ir:n+m≤140737488355328)(Bx:B≤w.heap.size):
  ∃A' c' w',(Builtin.append_ #[t,t] ty #[.slice A n c,x]).run P w= .ok (.slice A' (n+m) c') w'∧wv w' B e size A' (n+m) c' (xs++news)∧w.grownBy w' (Ch.own e size A n c xs).fp∧
   ((Ch.own e size A' (n+m) c' (xs++news)).fp=none∨(Ch.own e size A' (n+m) c' (xs++news)).fp=(Ch.own e size A n c xs).fp∨∃g,(Ch.own e size A' (n+m) c' (xs++news)).fp=some g∧w.heap.size≤g):=by
 obtain⟨i,hi,hz,jb,D7⟩:=T.hi;subst jb D7;obtain⟨X,cx,rfl,hmc,hl,tY⟩:=hr;obtain⟨k1,k2,k3⟩:=mg;have ami:n+m≤maxLen:=by unfold maxLen;omega
 have hlen:(xs++news).length=(n+m)*i.size:=by rw[aX,k1,hl,mD]
 have big:∀old,old<n+m→wv (w.drew.alloc (.cells (xs.toArray++news.toArray++Builtin.zeroCells z.cells (grownCap w (n+m) old e-(n+m))) e)) B e i.size (some ⟨w.heap.size,0,none⟩) (n+m) (grownCap w (n+m) old e) (xs++news):=by
  intro old ho;have wN:=grownCap_ge w (n+m) old e;refine⟨hlen,wN,.inr ⟨w.heap.size,_,rfl,Bx,Es w.drew _,grownCap_le_maxLen w (n+m) old e ami,?_,?_⟩⟩
  ·simp only[Array.size_append,wW,size_zeroCells,T.hz,k1,hl,←mD];congr 1;omega
  ·simp only[Array.toList_append,bV];rw[←bV,←hlen];exact yo
 have Vl:∀(o:Obj) (row:Option Nat),w.grownBy (w.drew.alloc o) row:=fun o row=>⟨rfl,rfl,rfl,ak,fun k hk _=>heap_alloc_old w.drew o hk⟩
 have Qf:∀c',0<c'→(Ch.own e i.size (some ⟨w.heap.size,0,none⟩) (n+m) c' (xs++news)).fp=some w.heap.size:=fun c' h=>by simp[Ch.fp,Nat.pos_iff_ne_zero.1 h]
 rcases X with _|ad
 ·have hm:m=0:=by
   rcases wV m with h0|h0
   ·exact h0
   ·obtain⟨ad,h,_⟩:=tY h0;cases h
  subst hm;have hn:news=[]:=mi vP;subst hn;refine⟨A,c,w,?_,⟨Uh,by simpa using k2,by simpa using k3⟩,N0 w _,.inr (.inl rfl)⟩;rcases A with _|a0
  ·simp[Builtin.append_,iQ T.ht,sizeOf,typeInfo,hi,Builtin.lenOf,Builtin.firstCells,k2]
  ·simp[Builtin.append_,iQ T.ht,sizeOf,typeInfo,hi,Builtin.lenOf,Builtin.firstCells,k2,storeCells]
 ·have D9:∀j u,news[j]? =some u→w.cell? (ad.add j)=some u:=by
   intro j u hu;rcases wV m with h0|h0
   ·subst h0;have hn:news=[]:=mi vP;subst hn;simp at hu
   ·obtain⟨ad',h,_,hc⟩:=tY h0;injection h with h;subst h;exact hc j u hu
  by_cases re:n+m≤c
  ·by_cases qO:c=0
   ·have hn0:n=0:=by omega
    have hm0:m=0:=by omega
    subst hn0 hm0 qO;have hn:news=[]:=mi vP;have hx:xs=[]:=mi Uh;subst hn hx;refine⟨A,0,w,?_,⟨ak,ak,.inl rfl⟩,N0 w _,.inl rfl⟩;rcases A with _|a0
    ·simp[Builtin.append_,iQ T.ht,sizeOf,typeInfo,hi,Builtin.lenOf,Builtin.firstCells,loadCells,loadCellsFrom]
    ·simp[Builtin.append_,iQ T.ht,sizeOf,typeInfo,hi,Builtin.lenOf,Builtin.firstCells,loadCells,loadCellsFrom,storeCells]
   ·obtain⟨g,cur,rfl,Yw,hg,hcm,tT,pr⟩:=k3.resolve_left qO;have GS:n*i.size+news.length≤cur.size:=by rw[hl,tT,←mD];exact oC _ re
    have hr:=run_append_room (P:=P) w t ty e i T.ht hi g n c cur hg ad m cx news hl D9 h1 re GS;refine⟨_,_,_,hr,⟨hlen,re,.inr ⟨g,_,rfl,Yw,N9 w g cur _ e _ hg,hcm,?_,?_⟩⟩,?_,.inr (.inl Hv)⟩
    ·simp only[wW,aX,eV,iN,Kw];omega
    ·rw[pr,←hlen];exact yo
    ·rw[show(Ch.own e i.size (some ⟨g,0,none⟩) n c xs).fp=some g by simp[Ch.fp,qO]];exact⟨rfl,rfl,rfl,ak,fun k _ hk=>N_ w g k _ (fun e=>hk xA)⟩
  ·rcases A with _|a0
   ·have qO:c=0:=by
     rcases k3 with h|⟨g,_,h,_⟩
     ·exact h
     ·cases h
    have hn0:n=0:=by omega
    subst hn0 qO;have hx:xs=[]:=mi Uh;subst hx;have hr:=run_append_nil (P:=P) w t ty e i z T.ht hi hz ad m cx news hl D9 aa aa (by simp only[mC]at jV;omega);have hb:=big 0 aa;simp only[mC,nU,Array.empty_append]at hb⊢;simp only[mC,nU]at Qf;exact⟨_,_,_,hr,hb,Vl _ _,.inr (.inr ⟨_,Qf _ (by have:=hb.2.1;omega),gj _⟩)⟩
   ·have holds:∀j u,xs[j]? =some u→w.cell? (a0.add j)=some u:=by
     intro j u hu;rcases k3 with h|⟨g,cur,h,_,hg,_,tT,pr⟩
     ·have hn0:n=0:=by omega
      subst hn0;have hx:xs=[]:=mi Uh;subst hx;simp at hu
     ·injection h with h;subst h;rw[zY,mC,cell_of_row w g j cur e (0,0) hg];rw[←pr,G0]at hu;split at hu
      ·simpa using hu
      ·cases hu
    have hr:=run_append_grow (P:=P) w t ty e i z T.ht hi hz a0 n c xs k1 holds ad m cx news hl D9 aa aa (growslice_fits aa jV);have hb:=big c aa;exact⟨_,_,_,hr,hb,Vl _ _,.inr (.inr ⟨_,Qf _ (by have:=hb.2.1;omega),gj _⟩)⟩
theorem bW{size bytes:Nat}{zv:Value}(T:sF C.P t e size bytes zv){A:bj}{n c:Nat}{xs:cV}(he:ev fr x=some (.slice A n c))(hs:mx (.own e size A n c xs) L f){yv:Value}{m:Nat}{news:cV}(hy:ev fr y=some yv)(hb:aL C.B C.w0 L size yv m news)(h1:∀u∈news,u.oneCell'=true)(jV:(n+m)*bytes≤140737488355328)(Ir:n+m≤140737488355328):
  qz C fr L (.call {callee:=.builtin .append,args:= #[x,y],argTypes:= #[t,t]}) ty (fun p L'=>∃A' c',p= .slice A' (n+m) c'∧L'=f (.own e size A' (n+m) c' (xs++news))):=fun a w ha hw d pos af gg=>by
 obtain⟨A',c',w',hr,h2,h3,h4⟩:=wv.append T ty (hw.all _ hs.mem) (hb w hw) h1 jV Ir hw.base;refine⟨_,w',_,.inl ?_,⟨A',c',rfl,rfl⟩,hw.Qn hs h3 (fun _=>h2) h4⟩;simp[execOp,resolve,invoke,builtin,ha.tmp he,ha.tmp hy,hr]
theorem SL.CE{B:Nat}{w0 w:World}{L:aR}(h:SL B w0 L w)(e:TypeId)(size:Nat)(A:bj):SL B w0 (.own e size A 0 0 []::L) w:=h.gL (N0 w _) ⟨ak,gj _,.inl rfl⟩ (.inl rfl)
theorem aY{cd:Code}(e:TypeId)(size:Nat)(A:bj)(h:VC C cd Q fr (.own e size A 0 0 []::L)):VC C cd Q fr L:=fun a w ha hw=>h a w ha (hw.CE e size A)
theorem mb{size kk:Nat}{parts:List (Nat×Operand)}(ht:C.P.underlying t=some (.slice e))(hz:(C.P.info? e).map (·.size)=some size)(h0:0<size)(tX:0<kk)(hk:kk*size≤1048576){zv:Value}(hzero:(C.P.info? e).bind (·.zero)=some zv){us:List (Nat×Value)}(hp:parts.map (fun p=>(p.1,ev fr p.2))=us.map (fun p=>(p.1,some p.2)))(akh:Instr.fill (fun i=>some (i*size,size)) ((Array.range (kk*size)).map (zv.cells[· %zv.cells.size]!)) us=some cs.toArray)(hl:cs.length=kk*size):
  qz C fr L (.buildSlice t kk parts.toArray) ty (fun p L'=>∃A,p= .slice A kk kk∧L'= .own e size A kk kk cs::L):=fun a w ha hw d pos af gg=>by
 have hps:parts.map (fun p=>(p.1,a.eval p.2))=us:=by
  clear akh;induction parts generalizing us with
  |nil=>cases us with|nil=>rfl|cons _ _=>cases hp
  |cons p ps ih=>
   cases us with
   |nil=>cases hp
   |cons u us=>
    simp only[kz,List.cons.injEq,Cd]at hp;obtain⟨⟨h1,h2⟩,h3⟩:=hp;simp only[kz,ha.tmp h2,h1,ih h3]
 cases hi:C.P.info? e with
 |none=>rw[hi]at hz;cases hz
 |some i=>
  rw[hi]at hz hzero;simp at hz hzero;subst hz;have Kk:¬(16777216<kk*i.size):=by omega
  refine⟨_,w.alloc (.cells cs.toArray e),_,.inl ?_,⟨some ⟨w.heap.size,0,none⟩,rfl,rfl⟩,hw.gL (Kv w _ none) ⟨hl,gj _,?_⟩ ?_⟩
  ·have CA:¬kk*i.size=0:=Nat.ne_of_gt (N' tX h0);simp[execOp,Instr.buildSlice,iQ ht,sizeOf,typeInfo,zeroValue,hi,hzero,Kk,CA,hps,akh,newRow]
  ·by_cases CA:kk=0
   ·exact .inl CA
   ·exact .inr ⟨_,_,rfl,hw.base,Es w _,by unfold maxLen;have:=ah1 kk h0;omega,vP,by simp[←hl]⟩
  ·by_cases CA:kk=0
   ·left;simp[Ch.fp,CA]
   ·right;exact⟨w.heap.size,by simp[Ch.fp,CA],gj _⟩
end
end
section
section
variable{C:Cx}{Q:Exit→Fr→aR→Prop}{fr jH:Fr}{L L':aR}{ops:Array Oper}{l:sD}{op:Op}{ty:TypeId}{pos:String}{af:Array Edge}{d:Nat}{v:Value}
variable{x y z:Operand}{k:IntKind}{m n:Int}{f:Ch→aR}{g o:Nat}{bt t e:TypeId}{cs:cV}
theorem C2{P:Prop}(h:P:=by(simpa using h1)):P:=h
theorem R9:type_of% @List.drop_take:= @List.drop_take
theorem jN:type_of% @List.take_length:= @List.take_length
theorem z8:type_of% @Int.natCast_mul:= @Int.natCast_mul
theorem nC:type_of% @Int.toNat_natCast:= @Int.toNat_natCast
theorem cE:type_of% @Nat.mul_one:= @Nat.mul_one
theorem dC:type_of% @congrArg:= @congrArg
theorem OL(A:bj):A.map (·.add 0)=A:=by cases A<;>rfl
theorem bT{A:bj}{nn c i size:Nat}(ht:C.P.underlying t=some (.slice e))(hz:(C.P.info? e).map (·.size)=some size)(he:ev fr x=some (.slice A nn c))(hy:ev fr y=some (.int k m))(hm:m=(i:Int))(hi:i≤nn):
  gI C fr L (.slice t x (some y) none none) ty (.slice (if c=i then A else A.map (·.add (i*size))) (nn-i) (c-i)):=fun a w ha hw d pos af gg=>by
 subst hm;simp[execOp,Instr.sliceAt,Instr.slice,Instr.sliceBounds,Instr.sliceBound,asIntOf,iQ ht,ha.tmp he,ha.tmp hy,hi,GZ hz]
theorem bZ{A:bj}{nn c i size:Nat}(ht:C.P.underlying t=some (.slice e))(hz:(C.P.info? e).map (·.size)=some size)(he:ev fr x=some (.slice A nn c))(hy:ev fr y=some (.int k m))(hm:m=(i:Int))(hi:i≤c):
  gI C fr L (.slice t x none (some y) none) ty (.slice A i c):=fun a w ha hw d pos af gg=>by
 subst hm;simp[execOp,Instr.sliceAt,Instr.slice,Instr.sliceBounds,Instr.sliceBound,asIntOf,iQ ht,ha.tmp he,ha.tmp hy,hi,GZ hz,OL]
theorem kp{A:bj}{nn c i j size:Nat}{k':IntKind}(ht:C.P.underlying t=some (.slice e))(hz:(C.P.info? e).map (·.size)=some size)(he:ev fr x=some (.slice A nn c))(hy:ev fr y=some (.int k m))(hm:m=(i:Int))(vD:ev fr z=some (.int k' n))(hn:n=(j:Int))(Iv:i≤j)(hj:j≤c):
  gI C fr L (.slice t x (some y) (some z) none) ty (.slice (if c=i then A else A.map (·.add (i*size))) (j-i) (c-i)):=fun a w ha hw d pos af gg=>by
 subst hm;subst hn;simp[execOp,Instr.sliceAt,Instr.slice,Instr.sliceBounds,Instr.sliceBound,asIntOf,iQ ht,ha.tmp he,ha.tmp hy,ha.tmp vD,Iv,hj,GZ hz]
theorem extract_mk(s:al)(i j:Nat):(⟨s.toArray⟩:ByteArray).extract i j=⟨((s.take j).drop i).toArray⟩:=by
 apply ByteArray.ext;rw[ByteArray.data_extract];simp[List.extract_eq_take_drop,R9]
theorem CM(s:al):(⟨s.toArray⟩:ByteArray).size=s.length:=by simp[ByteArray.size]
theorem Q3{s:al}{i:Nat}(ht:C.P.underlying t=some .string)(he:ev fr x=some (.string ⟨s.toArray⟩))(hy:ev fr y=some (.int k m))(hm:m=(i:Int))(hi:i≤s.length):
  gI C fr L (.slice t x (some y) none none) ty (.string ⟨(s.drop i).toArray⟩):=fun a w ha hw d pos af gg=>by
 subst hm;have h1:s.take s.length=s:=jN;simp[execOp,Instr.sliceAt,Instr.slice,Instr.sliceBounds,Instr.sliceBound,asIntOf,iQ ht,ha.tmp he,ha.tmp hy,CM,hi,extract_mk]
theorem Dy{s:al}{i:Nat}(ht:C.P.underlying t=some .string)(he:ev fr x=some (.string ⟨s.toArray⟩))(hy:ev fr y=some (.int k m))(hm:m=(i:Int))(hi:i≤s.length):
  gI C fr L (.slice t x none (some y) none) ty (.string ⟨(s.take i).toArray⟩):=fun a w ha hw d pos af gg=>by
 subst hm;simp[execOp,Instr.sliceAt,Instr.slice,Instr.sliceBounds,Instr.sliceBound,asIntOf,iQ ht,ha.tmp he,ha.tmp hy,CM,hi,extract_mk]
theorem sm{P:Program}{w:World}{op:BinOp}{xt:TypeId}(a:Act)(d:Option Tmp)(pos:String)(af:Array Edge)(gg:Option (Nat×Bool)){yt:TypeId}{s r:ByteArray}(h1:a.eval x= .string s)(h2:a.eval y= .string r)(hs:op≠ .shl∧op≠ .shr):
  (execOp a.eval ⟨d,.binOp op xt x y yt,ty,pos,af,gg⟩).run P w=((Op.stringOp op s r).run P w).andThen fun v w=>.ok (.value v) w:=by
 have he:(eqGuard op xt x y (.string s) (.string r)).run P w= .ok () w:=by cases op<;>simp[eqGuard]
 obtain⟨k9,jK⟩:=hs;cases op<;>simp_all[execOp,binOp]
theorem Jz(s r:al):(s==r)=decide (s=r):=by rw[Bool.eq_iff_iff];simp
section
variable{s r:al}{xt yt:TypeId}
theorem XU(h1:ev fr x=some (.string ⟨s.toArray⟩))(h2:ev fr y=some (.string ⟨r.toArray⟩)):gI C fr L (.binOp .eql xt x y yt) ty (.bool (decide (s=r))):=fun a w ha hw d pos af gg=>by
 rw[sm a d pos af gg (ha.tmp h1) (ha.tmp h2) ⟨aA,aA⟩];simp[Op.stringOp,Jz]
theorem H7(h1:ev fr x=some (.string ⟨s.toArray⟩))(h2:ev fr y=some (.string ⟨r.toArray⟩)):gI C fr L (.binOp .neq xt x y yt) ty (.bool (decide (¬s=r))):=fun a w ha hw d pos af gg=>by
 rw[sm a d pos af gg (ha.tmp h1) (ha.tmp h2) ⟨aA,aA⟩];simp[Op.stringOp,Jz]
theorem XV(h1:ev fr x=some (.string ⟨s.toArray⟩))(h2:ev fr y=some (.string ⟨r.toArray⟩)):gI C fr L (.binOp .gtr xt x y yt) ty (.bool (!(Op.bytesLess s r||decide (s=r)))):=fun a w ha hw d pos af gg=>by
 rw[sm a d pos af gg (ha.tmp h1) (ha.tmp h2) ⟨aA,aA⟩];simp[Op.stringOp,Jz]
theorem zy(h1:ev fr x=some (.string ⟨s.toArray⟩))(h2:ev fr y=some (.string ⟨r.toArray⟩))(hl:s.length+r.length≤9223372036854775807):gI C fr L (.binOp .add xt x y yt) ty (.string ⟨(s++r).toArray⟩):=fun a w ha hw d pos af gg=>by
 rw[sm a d pos af gg (ha.tmp h1) (ha.tmp h2) ⟨aA,aA⟩];have h3:((⟨s.toArray⟩:ByteArray)++(⟨r.toArray⟩:ByteArray))=⟨(s++r).toArray⟩:=ByteArray.mk_append_mk s r;have h4:(s.length:Int)+(r.length:Int)≤9223372036854775807:=by omega
 simp[Op.stringOp,CM,h4,h3]
end
theorem pg{s:TypeId}{nn:Nat}{b:al}(h1:C.P.underlying s=some (.slice e))(h2:C.P.underlying e=some (.int .u8))(h3:C.P.underlying t=some .string)(he:ev fr x=some v)(hb:aL C.B C.w0 L 1 v nn (bv b)):gI C fr L (.convert s t x) ty (.string ⟨b.toArray⟩):=fun a w ha hw d pos af gg=>by
 simp[execOp,ha.tmp he,aeL h1 h2 h3 (hb w hw)]
theorem MV{p:bj}{xt yt:TypeId}(ht:C.P.underlying xt=some (.pointer (C.P.pointee xt)))(h1:ev fr x=some (.pointer p))(h2:ev fr y=some (.pointer none)):gI C fr L (.binOp .eql xt x y yt) ty (.bool p.isNone):=fun a w ha hw d pos af gg=>by
 have he:(eqGuard .eql xt x y (.pointer p) (.pointer none)).run C.P w= .ok () w:=by simp[eqGuard]
 simp only[execOp,ha.tmp h1,ha.tmp h2,N3,he,run_eql_pointer_nil w xt p ht,vE,Kt]
theorem JY{p:bj}{xt yt:TypeId}(ht:C.P.underlying xt=some (.pointer (C.P.pointee xt)))(h1:ev fr x=some (.pointer p))(h2:ev fr y=some (.pointer none)):gI C fr L (.binOp .neq xt x y yt) ty (.bool (!p.isNone)):=fun a w ha hw d pos af gg=>by
 have he:(eqGuard .neq xt x y (.pointer p) (.pointer none)).run C.P w= .ok () w:=by simp[eqGuard]
 simp only[execOp,ha.tmp h1,ha.tmp h2,N3,he,run_neq_pointer_nil w xt p ht,vE,Kt]
theorem fc{bytes:Nat}{zv:Value}(T:sF C.P t e 1 bytes zv)(Kn:zv.cells= #[zv]){k':IntKind}{nn cc:Nat}(he:ev fr x=some (.int k m))(hm:m=(nn:Int))(hy:ev fr y=some (.int k' n))(hn:n=(cc:Int))(hle:nn≤cc)(jV:bytes*cc≤281474976710656)(Ir:cc≤281474976710656):
  qz C fr L (.makeSlice t x y) ty (fun p L'=>∃A,p= .slice A nn cc∧L'= .own e 1 A nn cc (List.replicate nn zv)::L):=fun a w ha hw d pos af gg=>by
 subst hm;subst hn;obtain⟨i,hi,hz,jb,D7⟩:=T.hi;have hr:=run_make (P:=C.P) w t e i zv T.ht hi hz k k' (nn:Int) (cc:Int) aa aa (by rw[D7,←z8];omega) aa;simp only[nC,jb,cE]at hr;refine⟨.slice (some ⟨w.heap.size,0,none⟩) nn cc,w.alloc (.cells (madeCells zv.cells cc) e),_,.inl (by simp[execOp,ha.tmp he,ha.tmp hy,hr]),⟨some ⟨w.heap.size,0,none⟩,rfl,rfl⟩,hw.gL (Kv w _ none) ⟨ak,hle,?_⟩ ?_⟩
 ·by_cases qO:cc=0
  ·exact .inl qO
  ·refine .inr ⟨_,_,rfl,hw.base,Es w _,Bk,by rw[Kn];simp[madeCells],?_⟩;rw[Kn,toList_madeCells_one,cE,List.take_replicate,zd hle]
 ·by_cases qO:cc=0
  ·left;simp[Ch.fp,qO]
  ·right;exact⟨w.heap.size,Hv,gj _⟩
theorem wv.aeS{w:World}{B:Nat}{e:TypeId}{size nn c j:Nat}{A:bj}{xs:cV}(h:wv w B e size A nn c xs)(hj:j<xs.length)(u:Value):∃ad,A=some ad∧(Ch.own e size A nn c xs).fp=some ad.block∧(∃u,w.cell? (ad.add j)=some u)∧w.frozen? (ad.add j)=false∧
  w.grownBy (w.setCell (ad.add j) u) (some ad.block)∧wv (w.setCell (ad.add j) u) B e size A nn c (xs.set j u):=by
 obtain⟨h1,h2,h3⟩:=h;have qO:¬c=0:=fun h0=>by
  have:nn=0:=by omega
  subst this;simp at h1;simp[h1]at hj
 obtain⟨g,cur,rfl,k1,k2,k3,k4,k5⟩:=h3.resolve_left qO;have GO:(⟨g,0,none⟩:Addr).add j=⟨g,j,none⟩:=by rw[zY,mC]
 have hjc:j<cur.size:=by
  have:=dC List.length k5;simp at this;omega
 have acH:tw w g e cur:=k2;refine⟨_,rfl,Hv,⟨cur[j],?_⟩,?_,yG (N0 w _) (.inl (by rw[GO])) u,C2,h2,.inr ⟨g,cur.setIfInBounds j u,rfl,k1,?_,k3,by simpa using k4,?_⟩⟩
 ·rw[GO,acH.cell j,Array.getElem?_eq_getElem hjc]
 ·rw[GO];exact acH.frozen j
 ·rw[GO];exact acH.aeS j u
 ·rw[Array.toList_setIfInBounds,List.take_set,k5]
theorem iL{size nn c j:Nat}{A:bj}{xs:cV}(hs:pZ C.P t=true)(he:ev fr x=some (.pointer (A.map (·.add j))))(hv:ev fr y=some v)(h1:v.oneCell'=true)(hm:mx (.own e size A nn c xs) L f)(hj:j<xs.length):
  qz C fr L (.store t x y) ty (fun p L'=>L'=f (.own e size A nn c (xs.set j v))):=fun a w ha hw d pos af gg=>by
 obtain⟨ad,rfl,Qf,⟨u,hu⟩,hfz,hg,ho⟩:=wv.aeS (hw.all _ hm.mem) hj v;exact⟨undef,_,_,.inr ⟨by simp[execOp,Instr.storeAt,Instr.sureAddr,ha.tmp he,ha.tmp hv,uD hs h1 hu hfz],rfl⟩,rfl,hw.Qn hm (by rw[Qf];exact hg) (fun _=>ho) (.inr (.inl rfl))⟩
theorem pn{size nn c j q:Nat}{A:bj}{xs:cV}(hs:pZ C.P t=true)(he:ev fr x=some (.pointer (A.map (fun ad=>(ad.add j).add q))))(hv:ev fr y=some v)(h1:v.oneCell'=true)(hm:mx (.own e size A nn c xs) L f)(hj:j+q<xs.length):
  qz C fr L (.store t x y) ty (fun p L'=>L'=f (.own e size A nn c (xs.set (j+q) v))):=fun a w ha hw d pos af gg=>by
 obtain⟨ad,rfl,Qf,⟨u,hu⟩,hfz,hg,ho⟩:=wv.aeS (hw.all _ hm.mem) hj v;refine⟨undef,_,_,.inr ⟨?_,rfl⟩,rfl,hw.Qn hm (by rw[Qf];exact hg) (fun _=>ho) (.inr (.inl rfl))⟩;rw[←lA]at hu hfz⊢;simp[execOp,Instr.storeAt,Instr.sureAddr,ha.tmp he,ha.tmp hv,uD hs h1 hu hfz]
def VQ(C:Cx)(ops:Array Oper)(L:aR)(Q:Fr→Prop)(l:sD)(fr:Fr):Prop:=∀a,pT C.N fr a→wpQuiet C.P ops (SL C.B C.w0 L) (fun a'=>∃jH,pT C.N jH a'∧Q jH) l a
theorem aaD{id:Nat}{l:sD}(hm:C.P.follows .mixedOrders=true)(hB:Region.lexB .any l.toArray=true)(h:VQ C l.toArray L (fun jH=>Q .normal jH L) l fr):VC C (.region id l.toArray true) Q fr L:=fun a w ha hw=>by
 refine wp_region_quiet (C:=SL C.B C.w0 L) hm hB (hw.drewN 1) ?_;have:=h a ha;have NK:∀(l:sD) (a:Act) {ops:Array Oper} {QQ T6:Act→Prop},(∀a,QQ a→T6 a)→wpQuiet C.P ops (SL C.B C.w0 L) QQ l a→wpQuiet C.P ops (SL C.B C.w0 L) T6 l a:=by
  intro l;induction l with
  |nil=>intro a ops QQ T6 hq h;exact hq _ h
  |cons o l ih=>
   intro a ops QQ T6 hq h;unfold wpQuiet at h⊢;split
   ·rename_i hw;rw[aq hw]at h;exact Oper.quiet_mono (fun a h=>ih a hq h) h
   ·rename_i hw;rw[aw hw]at h;exact ih _ hq h
 simpa using NK l a (fun a' ⟨jH,h1,h2⟩ w' GX=>⟨jH,L,h1,GX,h2⟩) this
section
variable{QF:Fr→Prop}
theorem mu(jH:Fr)(hs:Sub fr jH)(h:QF jH):VQ C ops L QF [] fr:=fun a ha=>wpQuiet_nil ⟨jH,ha.sub hs,h⟩
theorem bU(h:gI C fr L op ty v)(hd:Nat.blt d C.N=true)(k:VQ C ops L QF l ((d,v)::fr)):VQ C ops L QF (⟨some d,op,ty,pos,af,none⟩::l) fr:=fun a ha=>
 wpQuiet_step fun K hK=>by
  rw[aq (by rfl)];exact⟨v,fun w hw=>by unfold Oper.quietAt;rw[h a w ha hw];exact⟨rfl,rfl⟩,hK _ (k _ (ha.put hd v))⟩
theorem jE{f:FuncId}{tF:List Operand}{Co:Array TypeId}{vs:cV}{R:qR}(hc:aJ C.P f)(he:B9 fr tF=some vs)(h:dP C.P C.B C.w0 f vs L R)(hR:∀r L',R r L'→r=v∧L.Sublist L')(hd:Nat.blt d C.N=true)(k:VQ C ops L QF l ((d,v)::fr)):VQ C ops L QF (⟨some d,.call {callee:=.value (.func f),args:=tF.toArray,argTypes:=Co},ty,pos,af,none⟩::l) fr:=fun a ha=>
 wpQuiet_step fun K hK=>by
  rw[aq (by rfl)];refine⟨v,fun w hw=>?_,hK _ (k _ (ha.put hd v))⟩;unfold Oper.quietAt;rw[mc hc (fst:= #[]) (cap:= #[]) rfl,ha.B9 he,Array.append_empty,Array.empty_append];exact⟨rfl,(h w hw).mono fun e w' ⟨r,L',he,hr,hs⟩=>by obtain⟨rfl,h2⟩:=hR r L' hr;exact⟨he,hs.sub h2⟩⟩
theorem FW{dd:Option Tmp}{gu:Nat×Bool}{QQ:Act→Prop}{a:Act}(hw:Region.wanted ⟨dd,op,ty,pos,af,some gu⟩ (yielded ops a.tmps)=true)(h:wpQuiet C.P ops (SL C.B C.w0 L) QQ (⟨dd,op,ty,pos,af,none⟩::l) a):
  wpQuiet C.P ops (SL C.B C.w0 L) QQ (⟨dd,op,ty,pos,af,some gu⟩::l) a:=by
 unfold wpQuiet at h⊢;rw[aq (by rfl)]at h;rw[aq hw];exact h
theorem FV{dd:Option Tmp}{gu:Nat×Bool}{QQ:Act→Prop}{a:Act}(hw:Region.wanted ⟨dd,op,ty,pos,af,some gu⟩ (yielded ops a.tmps)=false)(h:wpQuiet C.P ops (SL C.B C.w0 L) QQ l (a.put dd undef)):
  wpQuiet C.P ops (SL C.B C.w0 L) QQ (⟨dd,op,ty,pos,af,some gu⟩::l) a:=by
 unfold wpQuiet;rw[aw (by rw[hw];exact Bool.false_ne_true)];exact h
theorem TU{dd:Option Tmp}{j t:Nat}{want:Bool}(hj:(ops[j]?).bind (·.dst)=some t)(ht:look t fr=some (.bool want))(k:VQ C ops L QF (⟨dd,op,ty,pos,af,none⟩::l) fr):
  VQ C ops L QF (⟨dd,op,ty,pos,af,some (j,want)⟩::l) fr:=fun a ha=>
 FW ali (k a ha)
theorem TS{j t:Nat}{want b:Bool}(hj:(ops[j]?).bind (·.dst)=some t)(ht:look t fr=some (.bool b))(hb:(b==want)=false)(hd:Nat.blt d C.N=true)(k:VQ C ops L QF l ((d,undef)::fr)):
  VQ C ops L QF (⟨some d,op,ty,pos,af,some (j,want)⟩::l) fr:=fun a ha=>
 FV alg (k _ (ha.put hd _))
theorem TV{j t:Nat}{want:Bool}(hj:(ops[j]?).bind (·.dst)=some t)(ht:look t fr=some undef)(hd:Nat.blt d C.N=true)(k:VQ C ops L QF l ((d,undef)::fr)):
  VQ C ops L QF (⟨some d,op,ty,pos,af,some (j,want)⟩::l) fr:=fun a ha=>
 FV (y8 hj (ha.at_ _ _ ht)) (k _ (ha.put hd _))
theorem PX{j t:Nat}{want b:Bool}(hj:(ops[j]?).bind (·.dst)=some t)(ht:look t fr=some (.bool b))(hd:Nat.blt d C.N=true)(k1:b=want→VQ C ops L QF (⟨some d,op,ty,pos,af,none⟩::l) ((t,.bool want)::fr))(k2:b= !want→VQ C ops L QF l ((d,undef)::(t,.bool !want)::fr)):
  VQ C ops L QF (⟨some d,op,ty,pos,af,some (j,want)⟩::l) fr:=fun a ha=>by
 by_cases hb:b=want
 ·exact FW agC (k1 hb a (ha.bool ht hb))
 ·have Qc:b= !want:=by cases b<;>cases want<;>simp_all
  exact FV agC (k2 Qc _ ((ha.bool ht Qc).put hd _))
end
theorem m_{QF:Fr→Prop}{j t:Nat}{p:Prop}[Decidable p](hj:(ops[j]?).bind (·.dst)=some t)(ht:look t fr=some (.bool (decide p)))(hd:Nat.blt d C.N=true)(k1:p→VQ C ops L QF (⟨some d,op,ty,pos,af,none⟩::l) ((t,.bool true)::fr))(k2:¬p→VQ C ops L QF l ((d,undef)::(t,.bool false)::fr)):
  VQ C ops L QF (⟨some d,op,ty,pos,af,some (j,true)⟩::l) fr:=
 PX hj ht hd (fun h=>k1 (yn h)) (fun h=>k2 (R8 h))
theorem Bc{QF:Fr→Prop}{j t:Nat}{p:Prop}[Decidable p](hj:(ops[j]?).bind (·.dst)=some t)(ht:look t fr=some (.bool (decide p)))(hd:Nat.blt d C.N=true)(k1:¬p→VQ C ops L QF (⟨some d,op,ty,pos,af,none⟩::l) ((t,.bool false)::fr))(k2:p→VQ C ops L QF l ((d,undef)::(t,.bool true)::fr)):
  VQ C ops L QF (⟨some d,op,ty,pos,af,some (j,false)⟩::l) fr:=
 PX hj ht hd (fun h=>k1 (R8 h)) (fun h=>k2 (yn h))
end
end
section
theorem nu{P:Prop}(h:P:=by(simpa using h)):P:=h
theorem gk:type_of% @List.append_nil:= @List.append_nil
theorem z_:type_of% @decide_eq_decide:= @decide_eq_decide
theorem lD:type_of% @decide_eq_true:= @decide_eq_true
theorem nD:type_of% @decide_eq_false:= @decide_eq_false
theorem nE:type_of% @List.cons_append:= @List.cons_append
theorem jO:type_of% @List.take_append_drop:= @List.take_append_drop
theorem Oa:type_of% @List.drop_eq_getElem_cons:= @List.drop_eq_getElem_cons
theorem yp:type_of% @List.perm_middle:= @List.perm_middle
theorem vH:type_of% @List.sublist_append_left:= @List.sublist_append_left
theorem SM{w:World}{base:Nat}{e:TypeId}{v:Value}{n m:Nat}{xs ys:cV}(h:w.ownsRow base e 1 v n xs)(hn:n=m)(hx:xs=ys):w.ownsRow base e 1 v m ys:=by subst hn;subst hx;exact h
def strs(l:eH):cV:=l.map fun t=>.string ⟨t.toArray⟩
@[simp] theorem akM(l k:eH):strs (l++k)=strs l++strs k:=by simp[strs]
@[simp] theorem akN(l:eH):(strs l).length=l.length:=by simp[strs]
theorem ae2(l:eH):∀u∈strs l,u.oneCell'=true:=by
 intro u hu;obtain⟨b,_,rfl⟩:=pS.1 hu;rfl
def ints(k:IntKind)(l:List Int):cV:=l.map (.int k)
@[simp] theorem akm(k:IntKind)(l r:List Int):ints k (l++r)=ints k l++ints k r:=by simp[ints]
@[simp] theorem kx(k:IntKind)(l:List Int):(ints k l).length=l.length:=by simp[ints]
theorem Eh(k:IntKind)(l:List Int):∀u∈ints k l,u.oneCell'=true:=by
 intro u hu;obtain⟨b,_,rfl⟩:=pS.1 hu;rfl
theorem bG{x:Int}(h1:-9223372036854775808≤x)(h2:x≤9223372036854775807):IntKind.i64.wrap x=x:=by rw[IntKind.wrap_i64];omega
theorem ga{x:Int}(h1:0≤x)(h2:x<18446744073709551616):IntKind.u64.wrap x=x:=by
 show x%2^64=x;exact Int.emod_eq_of_lt h1 h2
theorem aaE{x:Int}(h1:0≤x)(h2:x<256):IntKind.u8.wrap x=x:=by
 show x%2^8=x;exact Int.emod_eq_of_lt h1 h2
theorem ak0{x:Int}(h1:0≤x)(h2:x<65536):IntKind.u16.wrap x=x:=by
 show x%2^16=x;exact Int.emod_eq_of_lt h1 h2
theorem amx{k:IntKind}{a b:Int}(h:a=b):some (Value.int k a)=some (.int k b):=by rw[h]
section
variable{C:Cx}{Q:Exit→Fr→aR→Prop}{fr jH:Fr}{L L':aR}{cd Gf:Code}{ops:Array Oper}{l:sD}{op:Op}{ty:TypeId}{pos:String}{af:Array Edge}{d:Nat}{v:Value}
variable{x y z:Operand}{k:IntKind}{m n:Int}{f:Ch→aR}{g o:Nat}{bt t e:TypeId}{cs:cV}
def InJ(J:Fr→aR→Nat→Prop)(n:Nat)(Q:Exit→Fr→aR→Prop):Exit→Fr→aR→Prop
 | .normal,fr,L=>∃n',n'<n∧J fr L n'
 |e,fr,L=>Q e fr L
theorem aD(J:Fr→aR→Nat→Prop)(n0:Nat)(h0:J fr L n0)(round:∀n fr L,J fr L n→VC C cd (InJ J n Q) fr L):VC C (.loop cd) Q fr L:=fun a w ha hw=>by
 refine wp_loop_ghost (fun n a w=>∃fr L,J fr L n∧pT C.N fr a∧SL C.B C.w0 L w) n0 ⟨fr,L,h0,ha,hw⟩ ?_;rintro n a w ⟨fr,L,hJ,ha,hw⟩;refine ym (round n fr L hJ a w ha hw) fun e a w ⟨fr,L,ha,hs,hq⟩=>?_;cases e with
 |normal=>
  obtain⟨n',k1,k2⟩:=hq;exact⟨n',k1,fr,L,k2,ha,hs⟩
 |_=>exact⟨fr,L,ha,hs,hq⟩
theorem av{J:Fr→aR→Nat→Prop}{n:Nat}(h:∃n',n'<n∧J fr L n'):InJ J n Q .normal fr L:=h
theorem Zf{J:Fr→aR→Nat→Prop}{n i:Nat}(h:Q (.exit i) fr L):InJ J n Q (.exit i) fr L:=h
theorem adA{J:Fr→aR→Nat→Prop}{n:Nat}(h:Q .ret fr L):InJ J n Q .ret fr L:=h
theorem Z'{i:Nat}(h:Q (.exit i) fr L):ago C cd Q (.exit i) fr L:=h
theorem afn(h:Q .ret fr L):ago C cd Q .ret fr L:=h
def InM(J:Fr→aR→Prop)(Q:Exit→Fr→aR→Prop):Exit→Fr→aR→Prop
 | .normal,fr,L=>J fr L
 |e,fr,L=>Q e fr L
theorem d_(J:Fr→aR→Prop)(h1:VC C cd (InM J Q) fr L)(h2:∀fr L,J fr L→VC C Gf Q fr L):VC C (.seq cd Gf) Q fr L:=
 af4 fun a w ha hw=>ym (h1 a w ha hw) fun e a w ⟨fr,L,ha,hs,hq⟩=>by
  cases e with
  |normal=>exact⟨fr,L,ha,hs,h2 _ _ hq⟩
  |_=>exact⟨fr,L,ha,hs,hq⟩
theorem bC{J:Fr→aR→Prop}(h:J fr L):InM J Q .normal fr L:=h
theorem YZ{J:Fr→aR→Prop}{i:Nat}(h:Q (.exit i) fr L):InM J Q (.exit i) fr L:=h
theorem adl{J:Fr→aR→Prop}(h:Q .ret fr L):InM J Q .ret fr L:=h
theorem ahU{i id:Nat}(hi:Nat.beq i id=false)(h:Q (.exit i) fr L):InB id Q (.exit i) fr L:=aqz hi h
theorem cB{P:Program}{B:Nat}{w0:World}{f:FuncId}{fn:Func}{c:Code}{args:cV}{R:qR}(hf:P.funcs[f]? =some fn)(N:Nat)(hN:fn.ntmps=N)(hb:fn.body=some c)(hl:Nat.ble args.length N=true)(fr0:Fr)(hi:Ini N args fr0)(h:VC ⟨P,N,B,w0⟩ c (Cn P fn R) fr0 L):dP P B w0 f args L R:=by
 subst hN;exact apD hf hb (Nat.le_of_ble_eq_true hl) fr0 hi h
inductive Zp:Nat→cV→bc→Fr→Prop where
 |nil {i:Nat} {tF:cV}:Zp i tF [] []
 |cons {i k:Nat} {a:Value} {tF:cV} {ks:bc} {r:Fr}:Nat.beq k i=true→Zp (i+1) tF ks r→Zp i (a::tF) (k::ks) ((k,a)::r)
 |und {i k:Nat} {ks:bc} {r:Fr}:Nat.ble i k=true→Zp i [] ks r→Zp i [] (k::ks) ((k,undef)::r)
theorem Zp.ini{N i:Nat}{tF:cV}{ks:bc}{r:Fr}(h:Zp i tF ks r):∀pre:cV,pre.length=i→ks.all (Nat.blt · N)=true→Ini N (pre++tF) r:=by
 induction h with
 |nil=>intro _ _ _;trivial
 | @cons i k a tF ks r hk _ ih=>
  intro pre hp ha;simp only[List.all_cons,z7]at ha;have e:=rn hk;refine⟨⟨ha.1,?_⟩,?_⟩
  ·rw[e,←hp];simp[List.getD]
  ·have:=ih (pre++[a]) (by simp[hp]) ha.2;simpa using this
 | @und i k ks r hk _ ih=>
  intro pre hp ha;simp only[List.all_cons,z7]at ha;have e:=Nat.le_of_ble_eq_true hk;refine⟨⟨ha.1,?_⟩,ih pre hp ha.2⟩;rw[gk,List.getD,zZ aa];rfl
theorem fw{P:Program}{B:Nat}{w0:World}{f:FuncId}{fn:Func}{c:Code}{args:cV}{R:qR}{fr0:Fr}(hf:P.funcs[f]? =some fn)(N:Nat)(ks:bc)(h:VC ⟨P,N,B,w0⟩ c (Cn P fn R) fr0 L)(hN:fn.ntmps=N:=by exact rfl)(hb:fn.body=some c:=by exact rfl)(hl:Nat.ble args.length N=true:=by exact rfl)(ha:ks.all (Nat.blt · N)=true:=by exact rfl)(hi:Zp 0 args ks fr0:=by repeat (first|exact Zp.nil|(apply Zp.cons;exact rfl)|(apply Zp.und;exact rfl))):dP P B w0 f args L R:=
 cB hf N hN hb hl fr0 (hi.ini [] rfl ha) h
theorem aQ{P:Program}{f:FuncId}{fn:Func}(hf:P.funcs[f]? =some fn)(hn:(fn.name== "runtime.NumGoroutine")=false)(hb:fn.body.isSome=true):aJ P f:=by
 obtain⟨c,hc⟩:=Option.isSome_iff_exists.1 hb;exact⟨fn,c,hf,hn,hc⟩
theorem rZ{s:al}{i:Nat}(ht:C.P.underlying t=some .string)(h:ev fr x=some (.string ⟨s.toArray⟩))(h2:ev fr y=some (.int k m))(hm:m=(i:Int))(hi:i<s.length):gI C fr L (.index t x y) ty (.int .u8 ((s.getD i 0).toNat:Int)):=
 GD ht h h2 hm (by rw[fo hi];simp[List.getD,fo hi])
section
variable{nn c j:Nat}{A:bj}
theorem aL.len{B:Nat}{w0 w:World}{L:aR}{size n:Nat}{v:Value}{xs:cV}(h:aL B w0 L size v n xs)(hw:SL B w0 L w):xs.length=n*size:=by
 obtain⟨_,_,_,_,hl,_⟩:=h w hw;exact hl
theorem jq{b:al}(hs:pZ C.P t=true)(he:ev fr x=some (.pointer (A.map (·.add (j*1)))))(hb:aL C.B C.w0 L 1 (.slice A nn c) nn (bv b))(hj:j<nn):gI C fr L (.load t x) ty (.int .u8 ((b.getD j 0).toNat:Int)):=fun a w ha hw=>by
 have hl:=hb.len hw;simp at hl;rw[cE]at he;refine au hs he hb aa ?_ a w ha hw;simp[bv,List.getD,fo (show j<b.length by omega)]
theorem gQ{b:eH}(hs:pZ C.P t=true)(he:ev fr x=some (.pointer (A.map (·.add (j*1)))))(hb:aL C.B C.w0 L 1 (.slice A nn c) nn (strs b))(hj:j<nn):gI C fr L (.load t x) ty (.string ⟨(b.getD j []).toArray⟩):=fun a w ha hw=>by
 have hl:=hb.len hw;simp at hl;rw[cE]at he;refine au hs he hb aa ?_ a w ha hw;simp[strs,List.getD,fo (show j<b.length by omega)]
theorem JU{b:List Int}{kk:IntKind}(hs:pZ C.P t=true)(he:ev fr x=some (.pointer (A.map (·.add (j*1)))))(hb:aL C.B C.w0 L 1 (.slice A nn c) nn (ints kk b))(hj:j<nn):gI C fr L (.load t x) ty (.int kk (b.getD j 0)):=fun a w ha hw=>by
 have hl:=hb.len hw;simp at hl;rw[cE]at he;refine au hs he hb aa ?_ a w ha hw;simp[ints,List.getD,fo (show j<b.length by omega)]
end
theorem DI{zv:Value}{bytes:Nat}(T:sF C.P t e 1 bytes zv)(he:ev fr x=some v)(h1:v.oneCell'=true):qz C fr L (.buildSlice t 1 #[(0,x)]) ty (fun p L'=>∃A,p= .slice A 1 1∧L'= .own e 1 A 1 1 [v]::L):=fun a w ha hw d pos af gg=>by
 obtain⟨i,hi,hz,jb,D7⟩:=T.hi;have hv:v.cells= #[v]:=by cases v<;>simp_all[Value.cells,Value.oneCell']
 have hzs:=T.hz;refine⟨_,w.alloc (.cells #[v] e),_,.inl ?_,⟨some ⟨w.heap.size,0,none⟩,rfl,rfl⟩,hw.gL (Kv w _ none) ⟨rfl,gj _,.inr ⟨_,_,rfl,hw.base,Es w _,aA,rfl,rfl⟩⟩ (.inr ⟨w.heap.size,rfl,gj _⟩)⟩;simp[execOp,Instr.buildSlice,iQ T.ht,sizeOf,typeInfo,zeroValue,hi,hz,jb,ha.tmp he,Instr.fill,hv,hzs,newRow];simp[Array.range_succ,Array.range_zero']
theorem dK{zv:Value}{bytes d1 d2:Nat}{ty1 ty2:TypeId}{ank anl:String}{af1 af2:Array Edge}{s:Operand}{A:bj}{n c:Nat}{xs:cV}(T:sF C.P t e 1 bytes zv)(he:ev fr x=some v)(h1:v.oneCell'=true)(hd1:Nat.blt d1 C.N=true)(Yz:Nat.blt d2 C.N=true)(hs:ev ((d1,.slice none 0 0)::fr) s=some (.slice A n c))(hsn:∀u,ev ((d1,u)::fr) s=ev ((d1,.slice none 0 0)::fr) s)(hl:mx (.own e 1 A n c xs) L f)(jV:(n+1)*bytes≤140737488355328)(Ir:n+1≤140737488355328)(kk:∀A1 A' c',VL C ops Q l ((d2,.slice A' (n+1) c')::(d1,.slice A1 1 1)::fr) (f (.own e 1 A' (n+1) c' (xs++[v])))):
  VL C ops Q (⟨some d1,.buildSlice t 1 #[(0,x)],ty1,ank,af1,none⟩::⟨some d2,.call {callee:=.builtin .append,args:= #[s,.tmp d1],argTypes:= #[t,t]},ty2,anl,af2,none⟩::l) fr L:=by
 refine lK (DI T he h1) hd1 ?_;rintro _ _ ⟨A1,rfl,rfl⟩;refine lK (bW (m:=1) (news:=[v]) T ((hsn _).trans hs) (.tl hl) (yv:=.slice A1 1 1) (by simp[ev,look]) (aL.own (List.Mem.head _)) (by simp[h1]) jV Ir) Yz ?_;rintro _ _ ⟨A2,c2,rfl,rfl⟩;intro a w ha hw;exact kk A1 A2 c2 a w ha hw.tail
theorem dU{p q:Prop}[Decidable p][Decidable q](h:p↔q):some (Value.bool (decide p))=some (.bool (decide q)):=by rw[z_.2 h]
theorem eU{q:Prop}[Decidable q](h:q):some (Value.bool true)=some (.bool (decide q)):=by rw[lD h]
theorem eT{q:Prop}[Decidable q](h:¬q):some (Value.bool false)=some (.bool (decide q)):=by rw[nD h]
theorem oG{b:Bool}{q:Prop}[Decidable q](h:b=true↔q):some (Value.bool b)=some (.bool (decide q)):=by
 cases b
 ·rw[nD nu]
 ·rw[lD nu]
theorem anS(n d:Nat)(base:Fr)(p:Prop)[Decidable p](hs:Sub fr base)(h1:VL C ops (fun e fr L'=>e= .normal∧L'=L∧Sub fr base∧look d fr=some (.bool (decide p))) (l.take n) fr L)(h2:VL C ops Q (l.drop n) ((d,.bool (decide p))::base) L):VL C ops Q l fr L:=fun a w ha hw=>by
 have RF:∀(l1 l2:sD) (a:Act) (w:World),wpList C.P ops (fun e a w=>e= .normal∧wpList C.P ops (lift C Q) l2 a w) l1 a w→wpList C.P ops (lift C Q) (l1++l2) a w:=by
  intro l1 l2;induction l1 with
  |nil=>intro a w h;exact h.2
  |cons o l1 ih=>
   intro a w h;rw[nE];unfold wpList at h⊢;split
   ·rename_i hwt;rw[aq hwt]at h;rcases h with h|⟨_,_,_,h,_⟩
    ·refine .inl ?_;unfold Oper.wp at h⊢;revert h;generalize (execOp a.eval o).run C.P w=r;intro h;unfold Oper.upon at h⊢;split<;>simp only at h
     ·exact ih _ _ h
     ·exact ih _ _ h
     ·exact ih _ _ h
     ·refine Ku h fun e w' he=>?_;cases e with
      |returned v=>exact ih _ _ he
      |panicked ch=>cases he.1
      |outgrown=>obtain⟨_,_,h,_⟩:=he;cases h
     ·exact Rows.mono h fun v w' he=>ih _ _ he
     ·cases h.1
    ·cases h
   ·rename_i hwt;rw[aw hwt]at h;exact ih _ _ h
 have:=RF (l.take n) (l.drop n) a w ?_
 ·rwa [jO]at this
 ·have hm:∀(l1:sD) (a:Act) (w:World) {QQ T6:Exit→Act→World→Prop},(∀e a w,QQ e a w→T6 e a w)→wpList C.P ops QQ l1 a w→wpList C.P ops T6 l1 a w:=by
   intro l1;induction l1 with
   |nil=>intro a w QQ T6 hq h;exact hq _ _ _ h
   |cons o l1 ih=>
    intro a w QQ T6 hq h;unfold wpList at h⊢;split
    ·rename_i hwt;rw[aq hwt]at h;rcases h with h|⟨h1,a0,w0',h2⟩
     ·refine .inl ?_;unfold Oper.wp at h⊢;revert h;generalize (execOp a.eval o).run C.P w=r;intro h;unfold Oper.upon at h⊢;split<;>simp only at h
      ·exact ih _ _ hq h
      ·exact ih _ _ hq h
      ·exact ih _ _ hq h
      ·refine Ku h fun e w' he=>?_;cases e with
       |returned v=>exact ih _ _ hq he
       |panicked ch=>exact hq _ _ _ he
       |outgrown=>obtain⟨a1,w1,h⟩:=he;exact⟨a1,w1,hq _ _ _ h⟩
      ·exact Rows.mono h fun v w' he=>ih _ _ hq he
      ·exact hq _ _ _ h
     ·exact .inr ⟨h1,a0,w0',hq _ _ _ h2⟩
    ·rename_i hwt;rw[aw hwt]at h;exact ih _ _ hq h
  refine hm _ _ _ ?_ (h1 a w ha hw);rintro e a w ⟨jH,L',zO,GX,rfl,rfl,hb,hd⟩;refine⟨rfl,h2 a w ⟨zO.defers,zO.size,fun t v ht=>?_⟩ GX⟩;unfold look at ht;cases zP:Nat.beq d t with
  |true=>
   have:=rn zP;subst this;rw[zP]at ht;simp only[G2,Et]at ht;subst ht;exact zO.at_ _ _ hd
  |false=>
   rw[zP]at ht;exact zO.at_ _ _ (hb.look _ _ ht)
theorem TL{base:Fr}{d:Nat}{u:Value}(hb:Sub fr base)(hd:look d fr=some u):VL C ops (fun e fr L'=>e= .normal∧L'=L∧Sub fr base∧look d fr=some u) [] fr L:=fun a w ha hw=>wpList_nil ⟨fr,L,ha,hw,rfl,rfl,hb,hd⟩
theorem anV{QF:Fr→Prop}(n d:Nat)(base:Fr)(p:Prop)[Decidable p](hs:Sub fr base)(h1:VQ C ops L (fun fr=>Sub fr base∧look d fr=some (.bool (decide p))) (l.take n) fr)(h2:VQ C ops L QF (l.drop n) ((d,.bool (decide p))::base)):VQ C ops L QF l fr:=fun a ha=>by
 have RF:∀(l1 l2:sD) (a:Act) {QQ:Act→Prop},wpQuiet C.P ops (SL C.B C.w0 L) (fun a=>wpQuiet C.P ops (SL C.B C.w0 L) QQ l2 a) l1 a→wpQuiet C.P ops (SL C.B C.w0 L) QQ (l1++l2) a:=by
  intro l1 l2;induction l1 with
  |nil=>intro a QQ h;exact h
  |cons o l1 ih=>
   intro a QQ h;rw[nE];unfold wpQuiet at h⊢;split
   ·rename_i hw;rw[aq hw]at h;exact Oper.quiet_mono (fun a h=>ih a h) h
   ·rename_i hw;rw[aw hw]at h;exact ih _ h
 have NK:∀(l:sD) (a:Act) {QQ T6:Act→Prop},(∀a,QQ a→T6 a)→wpQuiet C.P ops (SL C.B C.w0 L) QQ l a→wpQuiet C.P ops (SL C.B C.w0 L) T6 l a:=by
  intro l;induction l with
  |nil=>intro a QQ T6 hq h;exact hq _ h
  |cons o l ih=>
   intro a QQ T6 hq h;unfold wpQuiet at h⊢;split
   ·rename_i hw;rw[aq hw]at h;exact Oper.quiet_mono (fun a h=>ih a hq h) h
   ·rename_i hw;rw[aw hw]at h;exact ih _ hq h
 have:=RF (l.take n) (l.drop n) a (QQ:=fun a'=>∃jH,pT C.N jH a'∧QF jH) (NK _ _ (fun a h=>?_) (h1 a ha))
 ·rwa [jO]at this
 ·obtain⟨jH,zO,hb,hd⟩:=h;refine h2 a ⟨zO.defers,zO.size,fun t v ht=>?_⟩;unfold look at ht;cases zP:Nat.beq d t with
  |true=>
   have:=rn zP;subst this;rw[zP]at ht;simp only[G2,Et]at ht;subst ht;exact zO.at_ _ _ hd
  |false=>
   rw[zP]at ht;exact zO.at_ _ _ (hb.look _ _ ht)
theorem TR{base:Fr}{d:Nat}{u:Value}(hb:Sub fr base)(hd:look d fr=some u):VQ C ops L (fun fr=>Sub fr base∧look d fr=some u) [] fr:=fun a ha=>wpQuiet_nil ⟨fr,ha,hb,hd⟩
theorem abN{p:Prop}[Decidable p]{xt:TypeId}(h:ev fr x=some (.bool (decide p))):gI C fr L (.unOp .not xt x) ty (.bool (decide (¬p))):=fun a w ha hw d pos af g=>by
 have e:(!decide p)=decide (¬p):=by by_cases hp:p<;>simp[hp]
 rw[←e];exact jx h a w ha hw d pos af g
theorem M5{zv:Value}(hz:(C.P.info? e).bind (·.zero)=some zv)(hc:zv.cells=cs.toArray):qz C fr L (.alloc e) ty (fun p L'=>∃g,p= .pointer (some ⟨g,0,none⟩)∧L'= .bE g e cs::L):=by
 cases hi:C.P.info? e with
 |none=>rw[hi]at hz;cases hz
 |some i=>
  rw[hi]at hz;exact X5 hi hz hc
theorem XT{t:TypeId}{s:al}(ht:C.P.underlying t=some .string)(h:ev fr x=some (.string ⟨s.toArray⟩)):gI C fr L (.call {callee:=.builtin .len,args:= #[x],argTypes:= #[t]}) ty (.int .i64 (s.length:Int)):=by
 have:=MU (L:=L) (ty:=ty) ht h
 rwa [CM]at this
theorem aZ{α:Type}{l:List α}{k:Nat}(h:k<l.length)(d:α):l.take (k+1)=l.take k++[l.getD k d]:=by
 rw[List.take_succ_eq_append_getElem h];simp[List.getD,fo h]
theorem dw{α:Type}{l:List α}{k:Nat}(h:k<l.length)(d:α):l.drop k=l.getD k d::l.drop (k+1):=by
 rw[Oa h];simp[List.getD,fo h]
theorem bh{α:Type}{l:List α}{k:Nat}(h:k<l.length)(d:α):l.getD k d∈l:=by
 simp[List.getD,fo h]
theorem dP.AH{P:Program}{B:Nat}{w0:World}{ff:FuncId}{args:cV}{size n:Nat}{xs:cV}(h:∀w,SL B w0 L w→Calls P ff args.toArray w fun e' w'=>∃v,e'= .returned v∧w'.ownsRow w.heap.size e size v n xs∧Below w.heap.size w w'):
  dP P B w0 ff args L (fun r L'=>∃A c,r= .slice A n c∧L'= .own e size A n c xs::L):=fun w hw=>(h w hw).mono fun e' w' ⟨v,he,ho,hb⟩=>by
 have hg:w.grownBy w' none:=⟨hb.os,hb.tape,hb.output,hb.size,fun k hk _=>hb.block k hk⟩
 rcases ho.2 with⟨rfl,rfl⟩|⟨g,cap,cur,rfl,h1,h2,h3,h4,h5,h6⟩
 ·exact⟨_,_,he,⟨none,0,rfl,rfl⟩,hw.gL hg ⟨ho.1,gj _,.inl rfl⟩ (.inl rfl)⟩
 ·refine⟨_,_,he,⟨_,_,rfl,rfl⟩,hw.gL hg ⟨ho.1,h3,.inr ⟨g,cur,rfl,jf hw.base h1,h2,h4,h5,h6⟩⟩ ?_⟩;by_cases hc:cap=0
  ·left;simp[Ch.fp,hc]
  ·right;exact⟨g,by simp[Ch.fp,hc],h1⟩
theorem xf{tt:Nat}{p:Prop}[Decidable p](hc:look tt fr=some (.bool (decide p)))(ht:p→VC C cd Q ((tt,.bool true)::fr) L)(hf:¬p→VC C Gf Q ((tt,.bool false)::fr) L):VC C (.cond (.tmp tt) cd Gf) Q fr L:=fun a w ha hw=>
 aaw (C:=C) (Q:=Q) (fr:=fr) (c:=.tmp tt) hc (fun h a w ha hw=>ht h a w (ha.bool hc (lD h)) hw) (fun h a w ha hw=>hf h a w (ha.bool hc (nD h)) hw) a w ha hw
theorem af3{tt:Nat}{b:Bool}(hc:look tt fr=some (.bool b))(ht:b=true→VC C cd Q ((tt,.bool true)::fr) L)(hf:b=false→VC C Gf Q ((tt,.bool false)::fr) L):VC C (.cond (.tmp tt) cd Gf) Q fr L:=fun a w ha hw=>
 W8 (C:=C) (Q:=Q) (fr:=fr) (c:=.tmp tt) hc (fun h a w ha hw=>ht h a w (ha.bool hc h) hw) (fun h a w ha hw=>hf h a w (ha.bool hc h) hw) a w ha hw
def Wk(L L':aR):Prop:=∃M,L.Perm (L'++M)
theorem Wk.refl(L:aR):Wk L L:=⟨[],by rw[gk]⟩
theorem Wk.dE(h:L.Perm L'):Wk L L':=⟨[],by rwa [gk]⟩
theorem Wk.skip{c:Ch}(h:Wk L L'):Wk (c::L) L':=by
 obtain⟨M,h⟩:=h;exact⟨c::M,(h.cons c).trans (yp.symm)⟩
theorem Wk.cons{c:Ch}(h:Wk L L'):Wk (c::L) (c::L'):=by
 obtain⟨M,h⟩:=h;exact⟨M,h.cons c⟩
theorem Wk.swap{a b:Ch}(h:Wk (b::a::L) L'):Wk (a::b::L) L':=by
 obtain⟨M,h⟩:=h;exact⟨M,(List.Perm.swap b a L).trans h⟩
theorem Wk.trans{L'':aR}(h:Wk L L')(k:Wk L' L''):Wk L L'':=by
 obtain⟨M,h⟩:=h;obtain⟨N,k⟩:=k;exact⟨N++M,h.trans ((k.append_right M).trans (by rw[bV]))⟩
theorem Wk.sl{B:Nat}{w0 w:World}(h:Wk L L')(hs:SL B w0 L w):SL B w0 L' w:=by
 obtain⟨M,h⟩:=h;exact(hs.perm h).sub (vH _ _)
theorem yX(h:Wk L L')(k:VC C cd Q fr L'):VC C cd Q fr L:=fun a w ha hw=>k a w ha (h.sl hw)
theorem af6(h:Wk L L')(k:VL C ops Q l fr L'):VL C ops Q l fr L:=fun a w ha hw=>k a w ha (h.sl hw)
theorem ax{e:TypeId}{size n n' c:Nat}{A:bj}{xs ys:cV}(hn:n=n')(h:xs=ys)(t:Wk L L'):Wk (Ch.own e size A n c xs::L) (Ch.own e size A n' c ys::L'):=by subst hn;subst h;exact t.cons
theorem bp{g:Nat}{t:TypeId}{xs ys:cV}(h:xs=ys)(k:Wk L L'):Wk (Ch.bE g t xs::L) (Ch.bE g t ys::L'):=by subst h;exact k.cons
theorem ao{P:Program}{fn:Func}{R:qR}{ee:Exit}(hs:Wk L L')(h:Cn P fn R ee fr L'):Cn P fn R ee fr L:=by
 cases ee<;>first
  |exact h
  |(intro B w0 a w ha hw;exact h B w0 a w ha (hs.sl hw))
abbrev bq(g:Nat):Value:=.pointer (some ⟨g,0,none⟩)
abbrev ah(x:Int):Value:=.int .i64 x
end
end
end Go.Proofs.YtaodmbolhoafcaaGreatDoor
