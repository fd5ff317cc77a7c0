/-
  Texts of one proof, joined: part 1. No condition.
-/
import Derived.WalkKit
import Derived.WalkLawsBesides
import Derived.WalkSpells
import Derived.Below
import Derived.Laws.OwnMore
import Derived.Deep.AppendLies
import Derived.Deep.Draws
import Derived.Maps.AppendAt
import Derived.Lib.Hide
import Derived.Laws.BytesArg
import Derived.Deep.QuietTactic
import Derived.BigQuiet
import Derived.Deep.LoopGhost
open List renaming length→E
namespace Go.Proofs.YtaodmbolhoafcaaGreatDoor
open Go.RowKit
set_option linter.unusedVariables false
set_option linter.unusedSimpArgs false
set_option maxRecDepth 20000
variable{P:Program}{j c i size:Nat}{w0:World}{B nn:Nat}{r:Int}{fn:Func}{want:Bool}{bytes:Nat}{a:Act}{id:Nat}{b:Bool}{dd:Option Tmp}{p:Prop}{zv u:Value}{ue:List Operand}{q:Nat}{k':IntKind}{z:Value}{base:Nat}{f:FuncId}
section
theorem ao{P:Prop}(h:P:=by(simp)):P:=h
theorem aa{P:Prop}(h:P:=by(omega)):P:=h
theorem wI{P:Prop}(h:P:=by(simpa using hl)):P:=h
theorem yd{P:Prop}(h:P:=by(unfold maxLen;omega)):P:=h
theorem bS{P:Prop}(h:P:=by(simp;omega)):P:=h
theorem qd:type_of% @List.mem_map:= @List.mem_map
theorem OJ:type_of% @Nat.add_assoc:= @Nat.add_assoc
theorem ga:type_of% @Nat.le_refl:= @Nat.le_refl
theorem fx:type_of% @List.getElem?_eq_getElem:= @List.getElem?_eq_getElem
theorem jM:type_of% @List.length_drop:= @List.length_drop
theorem aB:type_of% @if_neg:= @if_neg
theorem k_6:type_of% @List.getElem?_drop:= @List.getElem?_drop
theorem fZ:type_of% @List.length_take:= @List.length_take
theorem C2:type_of% @Nat.min_eq_left:= @Nat.min_eq_left
theorem C3:type_of% @Nat.mul_le_mul_right:= @Nat.mul_le_mul_right
theorem KT:type_of% @List.getElem?_take:= @List.getElem?_take
theorem Be:type_of% @Nat.eq_zero_or_pos:= @Nat.eq_zero_or_pos
theorem mg:type_of% @List.eq_nil_of_length_eq_zero:= @List.eq_nil_of_length_eq_zero
theorem Td:type_of% @World.grownBy.refl:= @World.grownBy.refl
theorem jk:type_of% @run_underlying:= @run_underlying
theorem OP:type_of% @wpList_plain:= @wpList_plain
theorem Te:type_of% @Sem.run_bind:= @Sem.run_bind
theorem OT:type_of% @Sem.run_pure:= @Sem.run_pure
theorem xx:type_of% @Result.andThen_ok:= @Result.andThen_ok
theorem iN:type_of% @List.map_cons:= @List.map_cons
theorem KU:type_of% @List.map_nil:= @List.map_nil
theorem iY:type_of% @Nat.le_trans:= @Nat.le_trans
theorem Bf:type_of% @List.replicate_succ:= @List.replicate_succ
theorem CY:type_of% @List.map_map:= @List.map_map
theorem tR:type_of% @List.map_congr_left:= @List.map_congr_left
theorem qe:type_of% @Nat.lt_or_ge:= @Nat.lt_or_ge
theorem EY:type_of% @heap_alloc_new:= @heap_alloc_new
abbrev sg:=List Oper
abbrev br:=List Nat
abbrev cQ:=List Value
abbrev bh:=Option Addr
abbrev aq:=List UInt8
abbrev fJ:=List (List UInt8)
theorem cM{α:Type}(e:α):∃x,x=e:=⟨e,rfl⟩
def bv(l:aq):cQ:=l.map λb=>.int .u8 (b.toNat:Int)
@[simp] theorem aty:bv []=[]:=rfl
@[simp] theorem jn(l k:aq):bv (l++k)=bv l++bv k:=by simp[bv]
@[simp] theorem Yh(l:aq):E (bv l)=E l:=by simp[bv]
theorem uk(l:aq):∀u∈bv l,u.oneCell'=true:=by
 intro u hu;obtain⟨b,_,rfl⟩:=qd.1 hu;rfl
theorem sw(a:Addr)(n:Nat):(a.add n).block=a.block:=by unfold Addr.add;split<;>rfl
theorem lV(a:Addr)(i j:Nat):(a.add i).add j=a.add (i+j):=by
 unfold Addr.add;by_cases hi:i=0<;>by_cases hj:j=0<;>simp[hi,hj,OJ]
def Rd(w:World)(B size:Nat)(v:Value)(n:Nat)(xs:cQ):Prop:=
 ∃A c,v= .slice A n c/\n<=c/\E xs=n*size/\(0<n->∃ad,A=some ad/\ad.block<B/\∀j u,xs[j]? =some u->w.cell? (ad.add j)=some u)
section
variable{w w':World}{B B' size n:Nat}{v:Value}{xs:cQ}
theorem Rd.C4:Rd w B size (.slice none 0 0) 0 []:=⟨none,0,rfl,ga _,ao,λh=>absurd h aa⟩
theorem Rd.keep(h:Rd w B size v n xs)(hk:∀p:Addr,p.block<B->w'.cell? p=w.cell? p):Rd w' B size v n xs:=by
 obtain⟨A,c,rfl,hc,hl,hr⟩:=h;refine⟨A,c,rfl,hc,hl,λhn=>?_⟩;obtain⟨ad,e,hb,iw⟩:=hr hn;exact⟨ad,e,hb,λj u hu=>(hk _ (by rw[sw];exact hb)).trans (iw j u hu)⟩
theorem Rd.more(h:Rd w B size v n xs)(hB:B<=B'):Rd w B' size v n xs:=by
 obtain⟨A,c,rfl,hc,hl,hr⟩:=h;refine⟨A,c,rfl,hc,hl,λhn=>?_⟩;obtain⟨ad,e,hb,iw⟩:=hr hn;exact⟨ad,e,aa,iw⟩
theorem Rd.below(h:Rd w B size v n xs)(hb:Below B w w'):Rd w' B size v n xs:=h.keep λ_ hp=>hb.cell hp
end
theorem Rd.Vq{w:World}{B n:Nat}{A:bh}{l:aq}(h:Rd w B 1 (.slice A n c) n (bv l)){k:Nat}(hk:k<n):
  ∃ad u,A=some ad/\ad.block<B/\l[k]? =some u/\w.cell? (ad.add k)=some (.int .u8 ((u:UInt8).toNat:Int)):=by
 obtain⟨A',c',hv,hc,hl,hr⟩:=h;simp only[Value.slice.injEq]at hv;obtain⟨rfl,_,rfl⟩:=hv;obtain⟨ad,rfl,hb,iw⟩:=hr aa;simp at hl;have hx:l[k]? =some (l[k]'aa):=fx aa;exact⟨ad,_,rfl,hb,hx,iw k _ (by simp[bv,hx])⟩
theorem Rd.ad9{w:World}{B n:Nat}{v:Value}{l:aq}(h:Rd w B 1 v n (bv l)):E l=n:=by
 obtain⟨_,_,_,_,hl,_⟩:=h;simpa using hl
theorem Rd.form{w:World}{B n size:Nat}{v:Value}{xs:cQ}(h:Rd w B size v n xs):∃A c,v= .slice A n c/\n<=c:=by
 obtain⟨A,c,hv,hc,_⟩:=h;exact⟨A,c,hv,hc⟩
theorem Rd.cut{w:World}{B n k size:Nat}{A:bh}{xs:cQ}(h:Rd w B size (.slice A n c) n xs)(hk:k<=n):
  Rd w B size (.slice (if c=k then A else A.map (·.add (k*size))) (n-k) (c-k)) (n-k) (xs.drop (k*size)):=by
 obtain⟨A',c',hv,hc,hl,hr⟩:=h;simp only[Value.slice.injEq]at hv;obtain⟨rfl,_,rfl⟩:=hv;refine⟨_,_,rfl,aa,by rw[jM,hl,Nat.sub_mul],λhn=>?_⟩;obtain⟨ad,rfl,hb,iw⟩:=hr aa;rw[aB aa];refine⟨ad.add (k*size),rfl,by rw[sw];exact hb,λj u hu=>?_⟩;rw[lV];exact iw _ u (by rw[<-hu,k_6])
theorem Rd.h_{w:World}{B n k size:Nat}{A:bh}{xs:cQ}(h:Rd w B size (.slice A n c) n xs)(hk:k<=n):
  Rd w B size (.slice A k c) k (xs.take (k*size)):=by
 obtain⟨A',c',hv,hc,hl,hr⟩:=h;simp only[Value.slice.injEq]at hv;obtain⟨rfl,_,rfl⟩:=hv;refine⟨_,_,rfl,aa,by rw[fZ,hl];exact C2 (C3 _ hk),λhn=>?_⟩;obtain⟨ad,rfl,hb,iw⟩:=hr aa;refine⟨ad,rfl,hb,λj u hu=>iw j u ?_⟩;rw[KT]at hu;split at hu
 ·exact hu
 ·cases hu
@[simp] theorem jJ(l:aq)(k:Nat):(bv l).drop k=bv (l.drop k):=by simp[bv]
@[simp] theorem jK(l:aq)(k:Nat):(bv l).take k=bv (l.take k):=by simp[bv]
structure tc(P:Program)(t e:TypeId)(size bytes:Nat)(z:Value):Prop where
 ht:P.underlying t=some (.slice e)
 hi:∃i,P.info? e=some i/\i.zero=some z/\i.size=size/\i.bytes=bytes
 hz:z.cells.size=size
 hs:0<size
theorem kY{t e:TypeId}{size:Nat}(ht:P.underlying t=some (.slice e))(h:(P.info? e).map (λi=>(i.zero,i.size,i.bytes))=some (some z,size,bytes))(hz:z.cells.size=size)(hs:0<size):tc P t e size bytes z:=
 ⟨ht,info_parts h,hz,hs⟩
theorem ajY{t e:TypeId}{size:Nat}(T:tc P t e size bytes z)(ty:TypeId)(w:World){v:Value}{n:Nat}{xs:cQ}(kQ:w.ownsRow base e size v n xs){B:Nat}{x:Value}{m:Nat}{news:cQ}(hr:Rd w B size x m news)(h1:∀u∈news,u.oneCell'=true)(kg:(n+m)*bytes<=140737488355328)(xZ:n+m<=140737488355328)(Ci:base<=w.heap.size):
  ∃v' w',(Builtin.append_ #[t,t] ty #[v,x]).run P w= .ok v' w'/\w'.ownsRow base e size v' (n+m) (xs++news)/\w.grownBy w' v.ownBlock:=by
 obtain⟨i,hi,hz,iy,GF⟩:=T.hi;obtain⟨A,c,rfl,hmc,hl,hr⟩:=hr;rcases A with _|ad
 ·have hm:m=0:=by
   rcases Be m with h0|h0
   ·exact h0
   ·obtain⟨ad,h,_⟩:=hr h0;cases h
  subst hm;have hn:news=[]:=mg wI;subst hn;refine⟨v,w,?_,by simpa using kQ,Td w _⟩;rcases kQ.2 with⟨rfl,rfl⟩|⟨g,cap,cur,rfl,_,_,hnc,_⟩
  ·simp[Builtin.append_,jk T.ht,sizeOf,typeInfo,hi,Builtin.lenOf,Builtin.firstCells]
  ·simp[Builtin.append_,jk T.ht,sizeOf,typeInfo,hi,Builtin.lenOf,Builtin.firstCells,hnc,storeCells]
 ·have kO:∀j u,news[j]? =some u->w.cell? (ad.add j)=some u:=by
   intro j u hu;rcases Be m with h0|h0
   ·subst h0;have hn:news=[]:=mg wI;subst hn;simp at hu
   ·obtain⟨ad',h,_,hc⟩:=hr h0;injection h with h;subst h;exact hc j u hu
  obtain⟨v',w',tP,h2,h3,_⟩:=run_append_own (P:=P) w base t ty e i z size bytes T.ht hi hz iy GF T.hz T.hs v n xs kQ ad m c news hl kO h1 yd kg Ci;exact⟨v',w',tP,h2,h3⟩
theorem UJ{t e:TypeId}{size:Nat}(T:tc P t e size bytes z){ops:Array Oper}{rest:sg}{o:Oper}{Q:Exit->Act->World->Prop}{w:World}(hgd:o.guard=none)(s x:Operand)(ho:o.op= .call {callee:=.builtin .append,args:= #[s,x],argTypes:= #[t,t]}){v:Value}{n:Nat}{xs:cQ}(hs:a.eval s=v)(kQ:w.ownsRow base e size v n xs){B:Nat}{y:Value}{m:Nat}{news:cQ}(hx:a.eval x=y)(hr:Rd w B size y m news)(h1:∀u∈news,u.oneCell'=true){B0:Nat}(hb:Below B0 w0 w)(hB:B0<=base)(Ci:base<=w.heap.size)(kg:(n+m)*bytes<=140737488355328)(xZ:n+m<=140737488355328)(h:∀v' w',w'.ownsRow base e size v' (n+m) (xs++news)->Below B0 w0 w'->w.grownBy w' v.ownBlock->wpList P ops Q rest (a.put o.dst v') w'):
  wpList P ops Q (o::rest) a w:=by
 obtain⟨v',w',tP,h2,h3⟩:=ajY T o.type w kQ hr h1 kg xZ Ci;refine OP hgd λK hK=>?_;unfold Oper.wp execOp;simp only[ho,resolve,invoke,builtin,Te,OT,xx,List.map_toArray,iN,KU,hs,hx,tP];exact hK _ _ (h v' w' h2 (hb.grown h3 (iY hB Ci) λk hk=>iY hB (kQ.lt k hk).1) h3)
theorem Rd.box(w:World)(e:TypeId)(u:Value):Rd (w.alloc (.cells #[u] e)) (w.heap.size+1) 1 (.slice (some ⟨w.heap.size,0,none⟩) 1 1) 1 [u]:=
 ⟨_,1,rfl,ga _,rfl,λ_=>⟨_,rfl,Nat.lt_succ_self _,λj x hx=>by
  rcases j with _|j
  ·simp at hx;subst hx;simp[Addr.add]
  ·simp at hx⟩⟩
theorem DF{t e:TypeId}(T:tc P t e 1 bytes z){ops:Array Oper}{rest:sg}{o:Oper}{Q:Exit->Act->World->Prop}{w:World}(hgd:o.guard=none)(s x:Operand)(ho:o.op= .call {callee:=.builtin .append,args:= #[s,x],argTypes:= #[t,t]}){v:Value}{n:Nat}{xs:cQ}(hs:a.eval s=v)(kQ:w.ownsRow base e 1 v n xs)(hx:a.eval x= .slice (some ⟨w.heap.size,0,none⟩) 1 1)(h1:u.oneCell'=true){B0:Nat}(hb:Below B0 w0 w)(hB:B0<=base)(Ci:base<=w.heap.size)(kg:(n+1)*bytes<=140737488355328)(xZ:n+1<=140737488355328)(h:∀v' w',w'.ownsRow base e 1 v' (n+1) (xs++[u])->Below B0 w0 w'->w.heap.size<w'.heap.size->w.grownBy w' v.ownBlock->wpList P ops Q rest (a.put o.dst v') w'):
  wpList P ops Q (o::rest) a (w.alloc (.cells #[u] e)):=by
 refine UJ T hgd s x ho hs (kQ.alloc _) hx (Rd.box w e u) (by simp[h1]) (hb.alloc (iY hB Ci) _) hB bS kg xZ λv' w' h2 h3 h4=>?_;refine h v' w' h2 h3 (by have:=h4.size;simp at this;omega) ⟨h4.os,h4.tape,h4.output,by have:=h4.size;simp at this;omega,λk hk tO=>(h4.block k bS tO).trans (Below.heap_alloc w _ k hk)⟩
theorem LD{α:Type}(A R:List α)(x y:α){k:Nat}(h:E A=k):(A++x::R).set k y=A++y::R:=by
 subst h;simp
theorem Xm{α:Type}(z:α){n k:Nat}(h:k<n):List.replicate (n-k) z=z::List.replicate (n-(k+1)) z:=by
 rw[show n-k=(n-(k+1))+1 by omega,Bf]
theorem afx{src dst e:TypeId}(hs:P.underlying src=some (.slice e))(he:P.underlying e=some (.int .u8))(hd:P.underlying dst=some .string){w:World}{B:Nat}{v:Value}{n:Nat}{l:aq}(h:Rd w B 1 v n (bv l)):(convert src dst v).run P w= .ok (.string (ByteArray.mk l.toArray)) w:=by
 obtain⟨A,c,rfl,hc,hl,hr⟩:=h;simp at hl;rcases Be n with h0|h0
 ·have hle:l=[]:=mg aa;subst hle;subst h0;rcases A with _|ad
  ·rw[run_convert_bytes_nil w src e hs he 0 c dst hd];rfl
  ·rw[run_convert_bytes_string w src dst e _ 0 c hs he hd,run_bytesToString w ad 0 c [] (by simpa using run_loadCells_list (P:=P) w ad [] ao)];rfl
 ·obtain⟨ad,rfl,_,iw⟩:=hr h0;have hb:bv l=(l.map λb=>(b.toNat:Int)).map (Value.int .u8):=by simp[bv]
  have SR:=run_loadCells_list (P:=P) w ad (bv l) iw;rw[Yh,hl,hb]at SR;rw[run_convert_bytes_string w src dst e _ n c hs he hd,run_bytesToString w ad n c _ SR,foldl_push_bytes];congr 2;have:(List.map (λn=>UInt8.ofNat n.toNat) (List.map (λb:UInt8=>(b.toNat:Int)) l))=l:=by
   rw[CY]
   conv=>rhs;rw[<-List.map_id l]
   refine tR λb _=>?_;simp
  rw[this];simp[ByteArray.empty,ByteArray.emptyWithCapacity];rfl
def Mm(w:World)(g:Nat)(t:TypeId)(cs:Array Value):Prop:=w.heap[g]? =some (.cells cs t (0,0))
section
variable{w w':World}{g:Nat}{t:TypeId}{cs:Array Value}
theorem Mm.lt(h:Mm w g t cs):g<w.heap.size:=by
 rcases qe g w.heap.size with gU|x7
 ·exact gU
 ·unfold Mm at h;rw[Array.getElem?_eq_none x7]at h;cases h
theorem Mm.cell(h:Mm w g t cs)(i:Nat):w.cell? ⟨g,i,none⟩=cs[i]? :=cell_of_row w g i cs t (0,0) h
theorem Mm.frozen(h:Mm w g t cs)(i:Nat):w.frozen? ⟨g,i,none⟩=false:=by
 unfold Mm at h;simp[World.frozen?,h]
theorem Mm.new(w:World)(t:TypeId)(cs:Array Value):Mm (w.alloc (.cells cs t)) w.heap.size t cs:=EY w _
theorem Mm.afF(h:Mm w g t cs)(i:Nat)(u:Value):Mm (w.setCell ⟨g,i,none⟩ u) g t (cs.setIfInBounds i u):=by
 unfold Mm at h⊢;simp[World.setCell,Array.getElem?_modify,h]
end
theorem zx{a w:World}{g:Nat}(h:a.grownBy w (some g)){p:Addr}(hp:p.block=g\/a.heap.size<=p.block)(u:Value):a.grownBy (w.setCell p u) (some g):=
 ⟨h.os,h.tape,h.output,by simpa[World.setCell]using h.size,λi hi tO=>(Below.heap_setCell w p u i (by
  rintro rfl;rcases hp with hp|hp
  ·exact tO (by rw[hp])
  ·omega)).trans (h.block i hi tO)⟩
end
section
theorem wA:type_of% @Option.getD_some:= @Option.getD_some
theorem Tf:type_of% @Option.some.inj:= @Option.some.inj
theorem wB:type_of% @Nat.eq_of_beq_eq_true:= @Nat.eq_of_beq_eq_true
theorem Hg:type_of% @cond_true:= @cond_true
theorem CZ:type_of% @Option.some.injEq:= @Option.some.injEq
theorem av:type_of% @if_pos:= @if_pos
theorem Hh:type_of% @Array.getElem?_eq_some_iff:= @Array.getElem?_eq_some_iff
theorem lj:type_of% @List.mem_cons_of_mem:= @List.mem_cons_of_mem
theorem rL:type_of% @List.mem_cons_self:= @List.mem_cons_self
theorem kG:type_of% @List.pairwise_cons:= @List.pairwise_cons
theorem fq:type_of% @List.mem_cons:= @List.mem_cons
theorem EZ:type_of% @Below.refl:= @Below.refl
theorem C1:type_of% @Addr.add_lit:= @Addr.add_lit
theorem mH:type_of% @Nat.zero_add:= @Nat.zero_add
theorem bD:type_of% @Nat.zero_le:= @Nat.zero_le
theorem wC:type_of% @wp_mono:= @wp_mono
theorem E0:type_of% @of_decide_eq_true:= @of_decide_eq_true
theorem O7:type_of% @of_decide_eq_false:= @of_decide_eq_false
abbrev Fr:=List (Nat×Value)
def look(t:Nat):Fr->Option Value
 |[]=>none
 |(s,v)::r=>bif Nat.beq s t then some v else look t r
def ev(fr:Fr):Operand->Option Value
 | .tmp t=>look t fr
 | .const v=>some v
 | .global g=>some (.pointer (some ⟨g,0,none⟩))
 | .func f=>some (.func (.func f) #[] #[])
def AN(fr:Fr):List Operand->Option (cQ)
 |[]=>some []
 |x::r=>match ev fr x,AN fr r with
  |some v,some vs=>some (v::vs)
  |_,_=>none
structure pn(N:Nat)(fr:Fr)(a:Act):Prop where
 defers:a.defers=[]
 size:a.tmps.size=N
 at_:∀t v,look t fr=some v->a.tmps[t]? =some v
theorem pn.tmp{N:Nat}{fr:Fr}{a:Act}(h:pn N fr a){x:Operand}{v:Value}(he:ev fr x=some v):a.eval x=v:=by
 cases x with
 |tmp t=>
  have:=h.at_ t v he;unfold Act.eval;simp only[Array.getD_eq_getD_getElem?,this,wA]
 |const u=>exact Tf he
 |global g=>exact Tf he
 |func f=>exact Tf he
theorem pn.AN{N:Nat}{fr:Fr}{a:Act}(h:pn N fr a):∀{xs:List Operand} {vs:cQ},AN fr xs=some vs->xs.map a.eval=vs
 |[],_,he=>by simpa[Proofs.YtaodmbolhoafcaaGreatDoor.AN]using he
 |x::r,vs,he=>by
  unfold Proofs.YtaodmbolhoafcaaGreatDoor.AN at he;split at he
  ·rename_i v vs' h1 h2;injection he with he;subst he;simp[h.tmp h1,h.AN h2]
  ·cases he
theorem pn.put{N:Nat}{fr:Fr}{a:Act}(h:pn N fr a){d:Nat}(hd:Nat.blt d N=true)(v:Value):pn N ((d,v)::fr) (a.put (some d) v):=by
 refine⟨h.defers,by simp[Act.put,h.size],λt u ht=>?_⟩;have hdn:d<N:=by simpa using hd
 unfold look at ht;by_cases e:d=t
 ·subst e;simp at ht;subst ht;simp[Act.put,h.size,hdn]
 ·have:Nat.beq d t=false:=by
   cases hb:Nat.beq d t with
   |false=>rfl
   |true=>exact absurd (wB hb) e
  rw[this]at ht;simp only[cond_false]at ht;have:=h.at_ t u ht;simp[Act.put,e,this]
def Sub(fr:Fr):Fr->Prop
 |[]=>True
 |(t,v)::r=>look t fr=some v/\Sub fr r
theorem Sub.look{fr:Fr}:∀{jD:Fr},Sub fr jD->∀t v,look t jD=some v->look t fr=some v
 |[],_,t,v,h=>by cases h
 |(s,u)::r,hs,t,v,h=>by
  unfold Proofs.YtaodmbolhoafcaaGreatDoor.look at h;cases hb:Nat.beq s t with
  |true=>
   rw[hb]at h;simp only[Hg,CZ]at h;have:=wB hb;subst this;subst h;exact hs.1
  |false=>
   rw[hb]at h;exact hs.2.look t v h
theorem pn.sub{N:Nat}{fr jD:Fr}(h:pn N fr a)(hs:Sub fr jD):pn N jD a:=⟨h.defers,h.size,λt v ht=>h.at_ t v (hs.look t v ht)⟩
inductive Ch where
 |own (e:TypeId) (size:Nat) (A:bh) (n c:Nat) (xs:cQ)
 |bI (g:Nat) (t:TypeId) (cs:cQ)
 |obj (g:Nat) (o:Obj)
def Ch.fp:Ch->Option Nat
 | .own _ _ A _ c _=>if c=0 then none else A.map (·.block)
 | .bI g _ _=>some g
 | .obj g _=>some g
def w7(w:World)(B:Nat)(e:TypeId)(size:Nat)(A:bh)(n c:Nat)(xs:cQ):Prop:=
 E xs=n*size/\n<=c/\(c=0\/∃g cur,A=some ⟨g,0,none⟩/\B<=g/\w.heap[g]? =some (.cells cur e (0,0))/\c<=maxLen/\cur.size=c*size/\cur.toList.take (n*size)=xs)
def Ch.holds(B:Nat)(w:World):Ch->Prop
 | .own e size A n c xs=>w7 w B e size A n c xs
 | .bI g t cs=>B<=g/\Mm w g t cs.toArray
 | .obj g o=>B<=g/\w.heap[g]? =some o
def Ch.apart(c d:Ch):Prop:=c.fp=none\/c.fp≠d.fp
structure Cx where
 P:Program
 N:Nat
 B:Nat
 w0:World
structure SL(B:Nat)(w0:World)(L:List Ch)(w:World):Prop where
 below:Below B w0 w
 base:B<=w.heap.size
 all:∀c∈L,c.holds B w
 apart:L.Pairwise Ch.apart
theorem Ch.apart.symm{c d:Ch}(h:c.apart d):d.apart c:=by
 rcases h with h|h
 ·by_cases hd:d.fp=none
  ·exact .inl hd
  ·exact .inr (by rw[h];exact hd)
 ·by_cases hd:d.fp=none
  ·exact .inl hd
  ·exact .inr (Ne.symm h)
theorem Ch.holds.lt{B:Nat}{w:World}{c:Ch}(h:c.holds B w){g:Nat}(hg:c.fp=some g):B<=g/\g<w.heap.size:=by
 cases c with
 |own e size A n c xs=>
  obtain⟨_,_,h⟩:=h;simp only[Ch.fp]at hg;by_cases hc:c=0
  ·rw[av hc]at hg;cases hg
  ·rw[aB hc]at hg;obtain⟨g',cur,rfl,h1,h2,_⟩:=h.resolve_left hc;simp at hg;subst hg;exact⟨h1,(Hh.1 h2).1⟩
 |bI g' t cs=>
  simp only[Ch.fp,CZ]at hg;subst hg;exact⟨h.1,h.2.lt⟩
 |obj g' o=>
  simp only[Ch.fp,CZ]at hg;subst hg;exact⟨h.1,(Hh.1 h.2).1⟩
theorem Ch.holds.keep{B:Nat}{w w':World}{c:Ch}(h:c.holds B w)(hk:∀g,c.fp=some g->w'.heap[g]? =w.heap[g]?):c.holds B w':=by
 cases c with
 |own e size A n c xs=>
  obtain⟨h1,h2,h3⟩:=h;refine⟨h1,h2,?_⟩;by_cases hc:c=0
  ·exact .inl hc
  ·obtain⟨g,cur,rfl,k1,k2,k3⟩:=h3.resolve_left hc;refine .inr ⟨g,cur,rfl,k1,?_,k3⟩;rw[hk g (by simp[Ch.fp,hc])];exact k2
 |bI g t cs=>
  refine⟨h.1,?_⟩;unfold Mm;rw[hk g rfl];exact h.2
 |obj g o=>exact⟨h.1,by rw[hk g rfl];exact h.2⟩
section
variable{B:Nat}{w0 w w':World}{L L':List Ch}{c c' d:Ch}
theorem SL.perm(h:SL B w0 L w)(hp:L.Perm L'):SL B w0 L' w:=
 ⟨h.below,h.base,λc hc=>h.all c (hp.mem_iff.2 hc),(hp.pairwise_iff (λh=>Ch.apart.symm h)).1 h.apart⟩
theorem SL.tail(h:SL B w0 (c::L) w):SL B w0 L w:=⟨h.below,h.base,λd hd=>h.all d (lj _ hd),h.apart.tail⟩
theorem SL.sub(h:SL B w0 L w)(hs:L'.Sublist L):SL B w0 L' w:=⟨h.below,h.base,λd hd=>h.all d (hs.subset hd),h.apart.sublist hs⟩
theorem SL.head(h:SL B w0 (c::L) w):c.holds B w:=h.all c rL
theorem SL.LZ(h:SL B w0 (c::L) w)(hg:w.grownBy w' c.fp)(hc:c'.holds B w')(hf:c'.fp=none\/c'.fp=c.fp\/∃g,c'.fp=some g/\w.heap.size<=g):SL B w0 (c'::L) w':=by
 have hap:=kG.1 h.apart;refine⟨h.below.grown hg h.base (λk hk=>(h.head.lt hk).1),iY h.base hg.size,λd hd=>?_,kG.2 ⟨λd hd=>?_,hap.2⟩⟩
 ·rcases fq.1 hd with rfl|hd
  ·exact hc
  ·refine(h.tail.all d hd).keep λg hg'=>hg.block g ((h.tail.all d hd).lt hg').2 λe=>?_;rcases hap.1 d hd with h0|h0
   ·rw[h0]at e;cases e
   ·exact h0 (e.symm.trans hg'.symm)
 ·rcases hf with hf|hf|⟨g,hf,x7⟩
  ·exact .inl hf
  ·rcases hap.1 d hd with h0|h0
   ·exact .inl (hf.trans h0)
   ·exact .inr (hf▸h0)
  ·refine .inr λe=>?_;have:=((h.tail.all d hd).lt (e.symm.trans hf)).2;omega
theorem SL.grow(h:SL B w0 L w)(hg:w.grownBy w' none):SL B w0 L w':=
 ⟨h.below.grown hg h.base (λk hk=>by cases hk),iY h.base hg.size,λd hd=>(h.all d hd).keep λg hg'=>hg.block g ((h.all d hd).lt hg').2 ao,h.apart⟩
theorem SL.gZ(h:SL B w0 L w)(hg:w.grownBy w' none)(hc:c'.holds B w')(hf:c'.fp=none\/∃g,c'.fp=some g/\w.heap.size<=g):SL B w0 (c'::L) w':=by
 have h':=h.grow hg;refine⟨h'.below,h'.base,λd hd=>?_,kG.2 ⟨λd hd=>?_,h.apart⟩⟩
 ·rcases fq.1 hd with rfl|hd
  ·exact hc
  ·exact h'.all d hd
 ·rcases hf with hf|⟨g,hf,x7⟩
  ·exact .inl hf
  ·refine .inr λe=>?_;have:=((h.all d hd).lt (e.symm.trans hf)).2;omega
theorem qK(w:World)(n:Nat):w.grownBy (w.drewN n) none:=⟨rfl,rfl,rfl,ga _,λ_ _ _=>rfl⟩
theorem SL.drewN(h:SL B w0 L w)(n:Nat):SL B w0 L (w.drewN n):=h.grow (qK w n)
theorem SL.C4(w:World):SL w.heap.size w [] w:=⟨EZ _ _,ga _,ao,List.Pairwise.nil⟩
end
inductive m9:Ch->List Ch->(Ch->List Ch)->Prop where
 |hd {c:Ch} {L:List Ch}:m9 c (c::L) (λd=>d::L)
 |tl {b c:Ch} {L:List Ch} {f:Ch->List Ch} (h:m9 c L f):m9 c (b::L) (λd=>b::f d)
theorem m9.perm{c:Ch}{L:List Ch}{f:Ch->List Ch}(h:m9 c L f):∃R,L.Perm (c::R)/\∀d,(f d).Perm (d::R):=by
 induction h with
 | @hd c L=>exact⟨L,.refl _,λ_=>.refl _⟩
 | @tl b c L f h ih=>
  obtain⟨R,h1,h2⟩:=ih;exact⟨b::R,(h1.cons b).trans (.swap ..),λd=>((h2 d).cons b).trans (.swap ..)⟩
theorem m9.mem{c:Ch}{L:List Ch}{f:Ch->List Ch}(h:m9 c L f):c∈L:=by
 obtain⟨R,h1,_⟩:=h.perm;exact h1.mem_iff.2 rL
def aJ(B:Nat)(w0:World)(L:List Ch)(size:Nat)(v:Value)(n:Nat)(xs:cQ):Prop:=∀w,SL B w0 L w->Rd w w.heap.size size v n xs
section
variable{B:Nat}{w0 w w':World}{L L':List Ch}{c c' d:Ch}{size n k m:Nat}{v:Value}{xs:cQ}
theorem w7.rd{e:TypeId}{A:bh}{c:Nat}(h:w7 w B e size A n c xs):Rd w w.heap.size size (.slice A n c) n xs:=by
 obtain⟨h1,h2,h3⟩:=h;refine⟨A,c,rfl,h2,h1,λhn=>?_⟩;obtain⟨g,cur,rfl,k1,k2,k3,k4,k5⟩:=h3.resolve_left aa;refine⟨_,rfl,(Hh.1 k2).1,λj u hu=>?_⟩;rw[C1,mH,cell_of_row w g j cur e (0,0) k2];rw[<-k5,KT]at hu;split at hu
 ·simpa using hu
 ·cases hu
theorem aJ.in_(h:Rd w0 B size v n xs):aJ B w0 L size v n xs:=λw hs=>(h.below hs.below).more hs.base
theorem aJ.own{e:TypeId}{A:bh}{c:Nat}(h:Ch.own e size A n c xs∈L):aJ B w0 L size (.slice A n c) n xs:=λw hs=>w7.rd (hs.all _ h)
theorem aJ.cons(h:aJ B w0 L size v n xs):aJ B w0 (c::L) size v n xs:=λw hs=>h w hs.tail
theorem aJ.mono(h:aJ B w0 L size v n xs)(hs:L.Sublist L'):aJ B w0 L' size v n xs:=λw h'=>h w (h'.sub hs)
theorem aJ.perm(h:aJ B w0 L size v n xs)(hp:L.Perm L'):aJ B w0 L' size v n xs:=λw h'=>h w (h'.perm hp.symm)
theorem aJ.C4{A:bh}{c:Nat}:aJ B w0 L size (.slice A 0 c) 0 []:=λw _=>⟨A,c,rfl,bD _,ao,λh=>absurd h aa⟩
theorem aJ.cut{A:bh}{c:Nat}(h:aJ B w0 L size (.slice A n c) n xs)(hk:k<=n):aJ B w0 L size (.slice (if c=k then A else A.map (·.add (k*size))) (n-k) (c-k)) (n-k) (xs.drop (k*size)):=λw hs=>(h w hs).cut hk
theorem aJ.h_{A:bh}{c:Nat}(h:aJ B w0 L size (.slice A n c) n xs)(hk:k<=n):aJ B w0 L size (.slice A k c) k (xs.take (k*size)):=λw hs=>(h w hs).h_ hk
end
def lift(C:Cx)(Q:Exit->Fr->List Ch->Prop):Exit->Act->World->Prop:=λe a w=>∃fr L,pn C.N fr a/\SL C.B C.w0 L w/\Q e fr L
def VC(C:Cx)(c:Code)(Q:Exit->Fr->List Ch->Prop)(fr:Fr)(L:List Ch):Prop:=∀a w,pn C.N fr a->SL C.B C.w0 L w->c.wp C.P (lift C Q) a w
def VL(C:Cx)(ops:Array Oper)(Q:Exit->Fr->List Ch->Prop)(l:sg)(fr:Fr)(L:List Ch):Prop:=
 ∀a w,pn C.N fr a->SL C.B C.w0 L w->wpList C.P ops (lift C Q) l a w
def ahi(C:Cx)(y:Code)(Q:Exit->Fr->List Ch->Prop):Exit->Fr->List Ch->Prop
 | .normal,fr,L=>VC C y Q fr L
 |e,fr,L=>Q e fr L
def InB(id:Nat)(Q:Exit->Fr->List Ch->Prop):Exit->Fr->List Ch->Prop
 | .exit i,fr,L=>if i=id then Q .normal fr L else Q (.exit i) fr L
 |e,fr,L=>Q e fr L
section
variable{C:Cx}{Q:Exit->Fr->List Ch->Prop}{fr jD:Fr}{L L':List Ch}{x y:Code}{ops:Array Oper}{l:sg}
theorem agP(h:VC C x (ahi C y Q) fr L):VC C (.seq x y) Q fr L:=λa w ha hs=>by
 refine wp_seq (wC (h a w ha hs) λe a w ⟨fr,L,ha,hs,hq⟩=>?_);cases e<;>first|exact hq a w ha hs|exact⟨fr,L,ha,hs,hq⟩
theorem agN(h:VC C x (InB id Q) fr L):VC C (.block id x) Q fr L:=λa w ha hs=>by
 refine wp_block (wC (h a w ha hs) λe a w ⟨fr,L,ha,hs,hq⟩=>?_);cases e with
 |exit i=>
  unfold Exit.inBlock InB at*;simp only at hq⊢;split
  ·rename_i hi;rw[av hi]at hq;exact⟨fr,L,ha,hs,hq⟩
  ·rename_i hi;rw[aB hi]at hq;exact⟨fr,L,ha,hs,hq⟩
 |_=>exact⟨fr,L,ha,hs,hq⟩
theorem akz(h:Q .normal fr L):VC C .skip Q fr L:=λa w ha hs=>wp_skip ⟨fr,L,ha,hs,h⟩
theorem aky(h:Q (.exit id) fr L):VC C (.exit id) Q fr L:=λa w ha hs=>wp_exit ⟨fr,L,ha,hs,h⟩
theorem aoU(h:Q .ret fr L):VC C .ret Q fr L:=λa w ha hs=>wp_ret ⟨fr,L,ha,hs,h⟩
theorem aa5{c:Operand}(hc:ev fr c=some (.bool true))(h:VC C x Q fr L):VC C (.cond c x y) Q fr L:=λa w ha hs=>wp_cond_true (ha.tmp hc) (h a w ha hs)
theorem aa4{c:Operand}(hc:ev fr c=some (.bool false))(h:VC C y Q fr L):VC C (.cond c x y) Q fr L:=λa w ha hs=>wp_cond_false (ha.tmp hc) (h a w ha hs)
theorem XW{c:Operand}(hc:ev fr c=some (.bool b))(ht:b=true->VC C x Q fr L)(hf:b=false->VC C y Q fr L):VC C (.cond c x y) Q fr L:=
 λa w ha hs=>wp_cond_split (ha.tmp hc) (λh=>ht h a w ha hs) (λh=>hf h a w ha hs)
theorem aa6{c:Operand}[Decidable p](hc:ev fr c=some (.bool (decide p)))(ht:p->VC C x Q fr L)(hf:¬p->VC C y Q fr L):VC C (.cond c x y) Q fr L:=
 XW hc (λh=>ht (E0 h)) (λh=>hf (O7 h))
theorem aa7{l:sg}(h:VL C l.toArray Q l fr L):VC C (.region id l.toArray false) Q fr L:=λa w ha hs=>wp_region_lit (h a w ha hs)
theorem BU(jD:Fr)(hs:Sub fr jD)(h:VC C x Q jD L):VC C x Q fr L:=λa w ha hw=>h a w (ha.sub hs) hw
theorem jP(hs:L.Perm L')(h:VC C x Q fr L'):VC C x Q fr L:=λa w ha hw=>h a w ha (hw.perm hs)
theorem aoY(jD:Fr)(hs:Sub fr jD)(h:Q .normal jD L):VL C ops Q [] fr L:=λa w ha hw=>wpList_nil ⟨jD,L,ha.sub hs,hw,h⟩
theorem avT(h:Q .normal fr L):VL C ops Q [] fr L:=λa w ha hw=>wpList_nil ⟨fr,L,ha,hw,h⟩
inductive HF(fr:Fr):br->Fr->Prop where
 |nil:HF fr [] []
 |cons {t:Nat} {v:Value} {ks:br} {r:Fr}:look t fr=some v->HF fr ks r->HF fr (t::ks) ((t,v)::r)
theorem HF.sub{ks:br}(h:HF fr ks jD):Sub fr jD:=by
 induction h with
 |nil=>trivial
 |cons h1 _ ih=>exact⟨h1,ih⟩
theorem ve(ks:br)(h:Q .normal jD L)(hs:HF fr ks jD:=by repeat (first|exact HF.nil|(apply HF.cons;exact rfl))):VL C ops Q [] fr L:=aoY jD hs.sub h
theorem aaL(h:VC C y Q fr L):ahi C y Q .normal fr L:=h
theorem asd(h:Q .normal fr L):InB id Q (.exit id) fr L:=by unfold InB;simp only[if_true];exact h
theorem ase(hi:Nat.beq i id=false)(h:Q (.exit i) fr L):InB id Q (.exit i) fr L:=by
 unfold InB;simp only;rw[aB (by intro e;subst e;simp at hi)];exact h
theorem anA(h:Q .ret fr L):InB id Q .ret fr L:=h
theorem Zx(h:Q .normal fr L):InB id Q .normal fr L:=h
abbrev oV:=Value->List Ch->Prop
abbrev aN:=List Ch
end
end
section
section
variable{C:Cx}{Q:Exit->Fr->aN->Prop}{fr jD:Fr}{L L':aN}{ops:Array Oper}{l:sg}{op:Op}{ty:TypeId}{pos:String}{af:Array Edge}{d:Nat}{v:Value}
theorem oy{P:Prop}(h:P:=by(rfl)):P:=h
theorem abK{P:Prop}(h:P:=by(rw[tb hj (ha.at_ _ _ ht)];simp)):P:=h
theorem amx{P:Prop}(h:P:=by(rw[tb hj (ha.at_ _ _ ht)];exact hb)):P:=h
theorem ahv{P:Prop}(h:P:=by(rw[tb hj (ha.at_ _ _ ht)];simpa using hb)):P:=h
theorem HY{P:Prop}(h:P:=by(simpa using gU)):P:=h
theorem aE{P:Prop}(h:P:=by(decide)):P:=h
theorem KV:type_of% @Calls.mono:= @Calls.mono
theorem y_:type_of% @List.size_toArray:= @List.size_toArray
theorem tS:type_of% @List.getElem?_eq_none:= @List.getElem?_eq_none
theorem Hi:type_of% @List.getElem?_eq_some_iff:= @List.getElem?_eq_some_iff
def gX(C:Cx)(fr:Fr)(L:aN)(op:Op)(ty:TypeId)(v:Value):Prop:=
 ∀a w,pn C.N fr a->SL C.B C.w0 L w->∀(d:Option Tmp) (pos:String) (af:Array Edge) (g:Option (Nat×Bool)),(execOp a.eval ⟨d,op,ty,pos,af,g⟩).run C.P w= .ok (.value v) w
def ra(C:Cx)(fr:Fr)(L:aN)(op:Op)(ty:TypeId)(R:oV):Prop:=
 ∀a w,pn C.N fr a->SL C.B C.w0 L w->∀(d:Option Tmp) (pos:String) (af:Array Edge) (g:Option (Nat×Bool)),∃v w' L',
  ((execOp a.eval ⟨d,op,ty,pos,af,g⟩).run C.P w= .ok (.value v) w'\/(execOp a.eval ⟨d,op,ty,pos,af,g⟩).run C.P w= .ok .skip w'/\v=undef)/\R v L'/\SL C.B C.w0 L' w'
theorem ab(h:gX C fr L op ty v)(hd:Nat.blt d C.N=true)(k:VL C ops Q l ((d,v)::fr) L):VL C ops Q (⟨some d,op,ty,pos,af,none⟩::l) fr L:=λa w ha hw=>
 OP rfl λK hK=>by unfold Oper.wp;rw[h a w ha hw];exact hK _ _ (k _ _ (ha.put hd v) hw)
theorem ou{R:oV}(h:ra C fr L op ty R)(hd:Nat.blt d C.N=true)(k:∀v L',R v L'->VL C ops Q l ((d,v)::fr) L'):VL C ops Q (⟨some d,op,ty,pos,af,none⟩::l) fr L:=λa w ha hw=>
 OP rfl λK hK=>by
  obtain⟨v,w',L',hr,hR,hs⟩:=h a w ha hw (some d) pos af none;unfold Oper.wp;rcases hr with hr|⟨hr,rfl⟩<;>rw[hr]<;>exact hK _ _ (k _ _ hR _ _ (ha.put hd _) hs)
theorem akB{R:oV}(h:ra C fr L op ty R)(k:∀v L',R v L'->VL C ops Q l fr L'):VL C ops Q (⟨none,op,ty,pos,af,none⟩::l) fr L:=λa w ha hw=>
 OP rfl λK hK=>by
  obtain⟨v,w',L',hr,hR,hs⟩:=h a w ha hw none pos af none;unfold Oper.wp;rcases hr with hr|⟨hr,rfl⟩<;>rw[hr]<;>exact hK _ _ (k _ _ hR _ _ ha hs)
theorem tb{op:Op}{ty:TypeId}{pos:String}{af:Array Edge}{t:Nat}(hj:(ops[j]?).bind (·.dst)=some t)(ha:a.tmps[t]? =some (.bool b)):
  Region.wanted ⟨dd,op,ty,pos,af,some (j,want)⟩ (yielded ops a.tmps)=(b==want):=by
 simp[Region.wanted,yielded,hj,ha]
theorem zP{op:Op}{ty:TypeId}{pos:String}{af:Array Edge}{t:Nat}(hj:(ops[j]?).bind (·.dst)=some t)(ha:a.tmps[t]? =some undef):
  Region.wanted ⟨dd,op,ty,pos,af,some (j,want)⟩ (yielded ops a.tmps)=false:=by
 simp[Region.wanted,yielded,hj,ha,undef]
theorem CI{QQ:Exit->Act->World->Prop}{g:Nat×Bool}{w:World}(hw:Region.wanted ⟨dd,op,ty,pos,af,some g⟩ (yielded ops a.tmps)=true)(h:wpList P ops QQ (⟨dd,op,ty,pos,af,none⟩::l) a w):
  wpList P ops QQ (⟨dd,op,ty,pos,af,some g⟩::l) a w:=by
 unfold wpList at h⊢;rw[av oy]at h;rw[av hw];exact h
theorem Gx{QQ:Exit->Act->World->Prop}{g:Nat×Bool}{w:World}(hw:Region.wanted ⟨dd,op,ty,pos,af,some g⟩ (yielded ops a.tmps)=false)(h:wpList P ops QQ l (a.put dd undef) w):
  wpList P ops QQ (⟨dd,op,ty,pos,af,some g⟩::l) a w:=by
 unfold wpList;rw[aB (by rw[hw];exact Bool.false_ne_true)];exact h
theorem pn.bool{N:Nat}{a:Act}{t:Nat}{b c:Bool}(ha:pn N fr a)(ht:look t fr=some (.bool b))(hb:b=c):pn N ((t,.bool c)::fr) a:=by
 subst hb;refine⟨ha.defers,ha.size,λs u hs=>?_⟩;unfold look at hs;cases yM:Nat.beq t s with
 |true=>
  have:=wB yM;subst this;rw[yM]at hs;simp only[Hg,CZ]at hs;subst hs;exact ha.at_ _ _ ht
 |false=>
  rw[yM]at hs;exact ha.at_ _ _ hs
theorem UC{t:Nat}(hj:(ops[j]?).bind (·.dst)=some t)(ht:look t fr=some (.bool want))(k:VL C ops Q (⟨dd,op,ty,pos,af,none⟩::l) fr L):
  VL C ops Q (⟨dd,op,ty,pos,af,some (j,want)⟩::l) fr L:=λa w ha hw=>
 CI abK (k a w ha hw)
theorem UB{t:Nat}(hj:(ops[j]?).bind (·.dst)=some t)(ht:look t fr=some (.bool b))(hb:(b==want)=false)(hd:Nat.blt d C.N=true)(k:VL C ops Q l ((d,undef)::fr) L):
  VL C ops Q (⟨some d,op,ty,pos,af,some (j,want)⟩::l) fr L:=λa w ha hw=>
 Gx amx (k _ _ (ha.put hd _) hw)
theorem UD{t:Nat}(hj:(ops[j]?).bind (·.dst)=some t)(ht:look t fr=some undef)(hd:Nat.blt d C.N=true)(k:VL C ops Q l ((d,undef)::fr) L):
  VL C ops Q (⟨some d,op,ty,pos,af,some (j,want)⟩::l) fr L:=λa w ha hw=>
 Gx (zP hj (ha.at_ _ _ ht)) (k _ _ (ha.put hd _) hw)
theorem lS{t:Nat}(hj:(ops[j]?).bind (·.dst)=some t)(ht:look t fr=some (.bool b))(hd:Nat.blt d C.N=true)(k1:b=want->VL C ops Q (⟨some d,op,ty,pos,af,none⟩::l) ((t,.bool want)::fr) L)(k2:b= !want->VL C ops Q l ((d,undef)::(t,.bool !want)::fr) L):
  VL C ops Q (⟨some d,op,ty,pos,af,some (j,want)⟩::l) fr L:=λa w ha hw=>by
 by_cases hb:b=want
 ·exact CI ahv (k1 hb a w (ha.bool ht hb) hw)
 ·have IW:b= !want:=by cases b<;>cases want<;>simp_all
  exact Gx ahv (k2 IW _ _ ((ha.bool ht IW).put hd _) hw)
theorem aa_{t:Nat}[Decidable p](hj:(ops[j]?).bind (·.dst)=some t)(ht:look t fr=some (.bool (decide p)))(hd:Nat.blt d C.N=true)(k1:p->VL C ops Q (⟨some d,op,ty,pos,af,none⟩::l) ((t,.bool true)::fr) L)(k2:¬p->VL C ops Q l ((d,undef)::(t,.bool false)::fr) L):
  VL C ops Q (⟨some d,op,ty,pos,af,some (j,true)⟩::l) fr L:=
 lS hj ht hd (λh=>k1 (E0 h)) (λh=>k2 (O7 h))
theorem aa9{t:Nat}[Decidable p](hj:(ops[j]?).bind (·.dst)=some t)(ht:look t fr=some (.bool (decide p)))(hd:Nat.blt d C.N=true)(k1:¬p->VL C ops Q (⟨some d,op,ty,pos,af,none⟩::l) ((t,.bool false)::fr) L)(k2:p->VL C ops Q l ((d,undef)::(t,.bool true)::fr) L):
  VL C ops Q (⟨some d,op,ty,pos,af,some (j,false)⟩::l) fr L:=
 lS hj ht hd (λh=>k1 (O7 h)) (λh=>k2 (E0 h))
def aK(P:Program)(f:FuncId):Prop:=∃fn c,P.funcs[f]? =some fn/\(fn.name== "runtime.NumGoroutine")=false/\fn.body=some c
def dQ(P:Program)(B:Nat)(w0:World)(f:FuncId)(args:cQ)(L:aN)(R:oV):Prop:=
 ∀w,SL B w0 L w->Calls P f args.toArray w λe w'=>∃v L',e= .returned v/\R v L'/\SL B w0 L' w'
theorem dQ.mono{P:Program}{B:Nat}{w0:World}{f:FuncId}{args:cQ}{R R':oV}(h:dQ P B w0 f args L R)(hr:∀v L',R v L'->R' v L'):dQ P B w0 f args L R':=
 λw hw=>(h w hw).mono λ_ _ ⟨v,L',e,hR,hs⟩=>⟨v,L',e,hr _ _ hR,hs⟩
theorem dQ.perm{P:Program}{B:Nat}{w0:World}{f:FuncId}{args:cQ}{R:oV}(h:dQ P B w0 f args L' R)(hp:L.Perm L'):dQ P B w0 f args L R:=
 λw hw=>h w (hw.perm hp)
theorem mz{ρ:Operand->Value}{w:World}{g:Operand}{Dh:Array TypeId}{fst cap:Array Value}{gu:Option (Nat×Bool)}(hc:aK P f)(hg:ρ g= .func (.func f) fst cap):
  (execOp ρ ⟨dd,.call {callee:=.value g,args:=ue.toArray,argTypes:=Dh},ty,pos,af,gu⟩).run P w= .ok (.enter f (fst++(ue.map ρ).toArray++cap)) w:=by
 obtain⟨fn,c,h1,h2,h3⟩:=hc;have h2':¬fn.name= "runtime.NumGoroutine" :=by simpa using h2
 simp[execOp,resolve,hg,Deferred.ofValue,invoke,callFunc,h1,h2',h3]
theorem bp{Dh:Array TypeId}{vs:cQ}{R:oV}(hc:aK C.P f)(he:AN fr ue=some vs)(h:dQ C.P C.B C.w0 f vs L R)(hd:Nat.blt d C.N=true)(k:∀v L',R v L'->VL C ops Q l ((d,v)::fr) L'):VL C ops Q (⟨some d,.call {callee:=.value (.func f),args:=ue.toArray,argTypes:=Dh},ty,pos,af,none⟩::l) fr L:=λa w ha hw=>
 OP rfl λK hK=>by
  unfold Oper.wp;rw[mz hc (fst:= #[]) (cap:= #[]) rfl,ha.AN he];rw[Array.append_empty,Array.empty_append];refine KV (h w hw) λe w' ⟨v,L',he,hR,hs⟩=>?_;subst he;exact hK _ _ (k _ _ hR _ _ (ha.put hd _) hs)
theorem vr{g:Operand}{Dh:Array TypeId}{vs fst cap:cQ}{R:oV}(hc:aK C.P f)(hg:ev fr g=some (.func (.func f) fst.toArray cap.toArray))(he:AN fr ue=some vs)(h:dQ C.P C.B C.w0 f (fst++vs++cap) L R)(hd:Nat.blt d C.N=true)(k:∀v L',R v L'->VL C ops Q l ((d,v)::fr) L'):VL C ops Q (⟨some d,.call {callee:=.value g,args:=ue.toArray,argTypes:=Dh},ty,pos,af,none⟩::l) fr L:=λa w ha hw=>
 OP rfl λK hK=>by
  unfold Oper.wp;rw[mz hc (ha.tmp hg),ha.AN he];simp only[List.append_toArray];refine KV (h w hw) λe w' ⟨v,L',he,hR,hs⟩=>?_;subst he;exact hK _ _ (k _ _ hR _ _ (ha.put hd _) hs)
def Ini(N:Nat)(args:cQ):Fr->Prop
 |[]=>True
 |(t,v)::r=>(Nat.blt t N=true/\args.getD t undef=v)/\Ini N args r
theorem Ini.look{N:Nat}{args:cQ}:∀{fr:Fr},Ini N args fr->∀t v,look t fr=some v->t<N/\args.getD t undef=v
 |[],_,t,v,h=>by cases h
 |(s,u)::r,hs,t,v,h=>by
  unfold Proofs.YtaodmbolhoafcaaGreatDoor.look at h;cases hb:Nat.beq s t with
  |true=>
   rw[hb]at h;simp only[Hg,CZ]at h;have:=wB hb;subst this;subst h;exact⟨by simpa using hs.1.1,hs.1.2⟩
  |false=>
   rw[hb]at h;exact hs.2.look t v h
def zT(P:Program)(fn:Func)(R:oV):Exit->Fr->aN->Prop
 | .ret,fr,L| .normal,fr,L=>∀(B:Nat) (w0:World) a w,pn fn.ntmps fr a->SL B w0 L w->∃v L',(results fn a.tmps).run P w= .ok v w/\R v L'/\SL B w0 L' w
 |_,_,_=>False
theorem aq0{c:Code}{args:cQ}{R:oV}(hf:P.funcs[f]? =some fn)(hb:fn.body=some c)(hl:E args<=fn.ntmps)(fr0:Fr)(hi:Ini fn.ntmps args fr0)(h:VC ⟨P,fn.ntmps,B,w0⟩ c (zT P fn R) fr0 L):dQ P B w0 f args L R:=λw hw=>by
 refine calls_of_wp hf hb (wC (h _ w ⟨rfl,?_,λt v ht=>?_⟩ hw) λe a w ⟨fr,L,ha,hs,hq⟩=>?_)
 ·simp;omega
 ·obtain⟨h1,h2⟩:=hi.look t v ht;simp only[y_];by_cases gU:t<E args
  ·rw[Array.getElem?_append_left HY];simp[gU]at h2;simp[gU,h2]
  ·rw[Array.getElem?_append_right HY];have h3:args[t]? =none:=tS aa;simp[h3]at h2;subst h2;simp;rw[Array.getElem?_replicate,av aa]
 ·cases e<;>first
   |exact hq.elim
   |(obtain⟨v,L',h1,h2,h3⟩:=hq B w0 a w ha hs;exact⟨ha.defers,v,h1,v,L',rfl,h2,h3⟩)
theorem avG{R:oV}{t:Nat}(hr:fn.results= #[.tmp t]){v:Value}(hl:look t fr=some v)(h:R v L):zT P fn R .ret fr L:=λB w0 a w ha hs=>by
 refine⟨v,L,?_,h,hs⟩;rw[results_tmp hr];simp[ha.at_ _ _ hl]
theorem avF{R:oV}(hr:fn.results= #[])(h:R (.tuple #[]) L):zT P fn R .ret fr L:=λB w0 a w ha hs=>⟨_,L,results_none hr _ _ _,h,hs⟩
theorem avH{R:oV}{t u:Nat}(hr:fn.results= #[.tmp t,.tmp u]){v x:Value}(hl:look t fr=some v)(oB:look u fr=some x)(h:R (.tuple #[v,x]) L):zT P fn R .ret fr L:=λB w0 a w ha hs=>by
 refine⟨_,L,?_,h,hs⟩;rw[results_tmp2 hr];simp[ha.at_ _ _ hl,ha.at_ _ _ oB]
theorem asL{R:oV}{t u s:Nat}(hr:fn.results= #[.tmp t,.tmp u,.tmp s]){v x y:Value}(hl:look t fr=some v)(oB:look u fr=some x)(G4:look s fr=some y)(h:R (.tuple #[v,x,y]) L):zT P fn R .ret fr L:=λB w0 a w ha hs=>by
 refine⟨_,L,?_,h,hs⟩;simp[results,hr,ha.at_ _ _ hl,ha.at_ _ _ oB,ha.at_ _ _ G4]
theorem asM{R:oV}{t u s:Nat}(hr:fn.results= #[.tmp t,.tmp u,.tmp s,.tmp q]){v x y z:Value}(hl:look t fr=some v)(oB:look u fr=some x)(G4:look s fr=some y)(hl4:look q fr=some z)(h:R (.tuple #[v,x,y,z]) L):zT P fn R .ret fr L:=λB w0 a w ha hs=>by
 refine⟨_,L,?_,h,hs⟩;simp[results,hr,ha.at_ _ _ hl,ha.at_ _ _ oB,ha.at_ _ _ G4,ha.at_ _ _ hl4]
theorem asN{R:oV}(h:zT P fn R .ret fr L):zT P fn R .normal fr L:=h
section
variable{x y z:Operand}{u t:Value}{k:IntKind}{m n:Int}
theorem ek(h:ev fr x=some v):gX C fr L (.move x) ty v:=λa w ha hw d pos af g=>by simp[execOp,ha.tmp h]
theorem lW(h:ev fr x=some v):gX C fr L (.assign x) ty v:=λa w ha hw d pos af g=>by simp[execOp,ha.tmp h]
theorem R6(h:ev fr x=some (.bool true))(h1:ev fr y=some v):gX C fr L (.pick x y z) ty v:=λa w ha hw d pos af g=>by simp[execOp,ha.tmp h,ha.tmp h1,asBool]
theorem R5(h:ev fr x=some (.bool false))(h1:ev fr z=some v):gX C fr L (.pick x y z) ty v:=λa w ha hw d pos af g=>by simp[execOp,ha.tmp h,ha.tmp h1,asBool]
theorem fW{op:BinOp}{xt:TypeId}{w:World}(a:Act)(d:Option Tmp)(pos:String)(af:Array Edge)(g:Option (Nat×Bool)){yt:TypeId}(h1:a.eval x= .int k m)(h2:a.eval y= .int k n)(hs:op≠ .shl/\op≠ .shr):
  (execOp a.eval ⟨d,.binOp op xt x y yt,ty,pos,af,g⟩).run P w=((match op with
  | .add| .sub| .mul=>Op.intArith op k m n
  | .quo| .rem=>Op.intDiv op k m n
  | .and| .or| .xor| .andNot=>Op.intBits op k m n
  |_=>Op.intCmp op m n).run P w).andThen λv w=>.ok (.value v) w:=by
 have he:(eqGuard op xt x y (.int k m) (.int k n)).run P w= .ok () w:=by cases op<;>simp[eqGuard]
 obtain⟨j8,jj⟩:=hs;cases op<;>simp_all[execOp,binOp]
theorem bF{xt yt:TypeId}(h1:ev fr x=some (.int k m))(h2:ev fr y=some (.int k n))(hr:k.wrap (m+n)=r):gX C fr L (.binOp .add xt x y yt) ty (.int k r):=λa w ha hw d pos af g=>by
 rw[fW a d pos af g (ha.tmp h1) (ha.tmp h2) ⟨aE,aE⟩];simp[Op.intArith,hr]
theorem cU{xt yt:TypeId}(h1:ev fr x=some (.int k m))(h2:ev fr y=some (.int k n))(hr:k.wrap (m-n)=r):gX C fr L (.binOp .sub xt x y yt) ty (.int k r):=λa w ha hw d pos af g=>by
 rw[fW a d pos af g (ha.tmp h1) (ha.tmp h2) ⟨aE,aE⟩];simp[Op.intArith,hr]
theorem eo{xt yt:TypeId}(h1:ev fr x=some (.int k m))(h2:ev fr y=some (.int k n))(hr:k.wrap (m*n)=r):gX C fr L (.binOp .mul xt x y yt) ty (.int k r):=λa w ha hw d pos af g=>by
 rw[fW a d pos af g (ha.tmp h1) (ha.tmp h2) ⟨aE,aE⟩];simp[Op.intArith,hr]
theorem iq{xt yt:TypeId}(h1:ev fr x=some (.int k m))(h2:ev fr y=some (.int k n))(h0:n≠0)(hr:k.wrap (m.tdiv n)=r):gX C fr L (.binOp .quo xt x y yt) ty (.int k r):=λa w ha hw d pos af g=>by
 rw[fW a d pos af g (ha.tmp h1) (ha.tmp h2) ⟨aE,aE⟩];simp[Op.intDiv,h0,hr]
theorem kl{xt yt:TypeId}(h1:ev fr x=some (.int k m))(h2:ev fr y=some (.int k n))(h0:n≠0)(hr:m.tmod n=r):gX C fr L (.binOp .rem xt x y yt) ty (.int k r):=λa w ha hw d pos af g=>by
 rw[fW a d pos af g (ha.tmp h1) (ha.tmp h2) ⟨aE,aE⟩];simp[Op.intDiv,h0,hr]
theorem kj{xt yt:TypeId}(h1:ev fr x=some (.int k m))(h2:ev fr y=some (.int k n))(hr:k.wrap ((BitVec.ofInt k.bits m &&& BitVec.ofInt k.bits n).toNat:Int)=r):gX C fr L (.binOp .and xt x y yt) ty (.int k r):=λa w ha hw d pos af g=>by
 rw[fW a d pos af g (ha.tmp h1) (ha.tmp h2) ⟨aE,aE⟩,<-hr];simp[Op.intBits]
theorem uv{xt yt:TypeId}(h1:ev fr x=some (.int k m))(h2:ev fr y=some (.int k n))(hr:k.wrap ((BitVec.ofInt k.bits m ||| BitVec.ofInt k.bits n).toNat:Int)=r):gX C fr L (.binOp .or xt x y yt) ty (.int k r):=λa w ha hw d pos af g=>by
 rw[fW a d pos af g (ha.tmp h1) (ha.tmp h2) ⟨aE,aE⟩,<-hr];simp[Op.intBits]
theorem lg{xt yt:TypeId}(h1:ev fr x=some (.int k m))(h2:ev fr y=some (.int k n))(hr:k.wrap ((BitVec.ofInt k.bits m ^^^ BitVec.ofInt k.bits n).toNat:Int)=r):gX C fr L (.binOp .xor xt x y yt) ty (.int k r):=λa w ha hw d pos af g=>by
 rw[fW a d pos af g (ha.tmp h1) (ha.tmp h2) ⟨aE,aE⟩,<-hr];simp[Op.intBits]
theorem gG{xt yt:TypeId}(h1:ev fr x=some (.int k m))(h2:ev fr y=some (.int k' n))(h0:0<=n)(hr:k.wrap (m*2^min n.toNat k.bits)=r):gX C fr L (.binOp .shl xt x y yt) ty (.int k r):=λa w ha hw d pos af g=>by
 have hn:¬n<0:=by omega
 rw[<-hr];simp[execOp,ha.tmp h1,ha.tmp h2,binOp,Op.shift,eqGuard,hn]
theorem dH{xt yt:TypeId}(h1:ev fr x=some (.int k m))(h2:ev fr y=some (.int k' n))(h0:0<=n)(hr:m.fdiv (2^min n.toNat k.bits)=r):gX C fr L (.binOp .shr xt x y yt) ty (.int k r):=λa w ha hw d pos af g=>by
 have hn:¬n<0:=by omega
 rw[<-hr];simp[execOp,ha.tmp h1,ha.tmp h2,binOp,Op.shift,eqGuard,hn]
theorem ah3{xt yt:TypeId}(h1:ev fr x=some (.int k m))(h2:ev fr y=some (.int k n)):gX C fr L (.binOp .eql xt x y yt) ty (.bool (decide (m=n))):=λa w ha hw d pos af g=>by
 rw[fW a d pos af g (ha.tmp h1) (ha.tmp h2) ⟨aE,aE⟩];simp[Op.intCmp];rfl
theorem ah7{xt yt:TypeId}(h1:ev fr x=some (.int k m))(h2:ev fr y=some (.int k n)):gX C fr L (.binOp .neq xt x y yt) ty (.bool (decide (¬m=n))):=λa w ha hw d pos af g=>by
 rw[fW a d pos af g (ha.tmp h1) (ha.tmp h2) ⟨aE,aE⟩];simp[Op.intCmp,bne];rfl
theorem yA{xt yt:TypeId}(h1:ev fr x=some (.int k m))(h2:ev fr y=some (.int k n)):gX C fr L (.binOp .lss xt x y yt) ty (.bool (decide (m<n))):=λa w ha hw d pos af g=>by
 rw[fW a d pos af g (ha.tmp h1) (ha.tmp h2) ⟨aE,aE⟩];simp[Op.intCmp]
theorem ah6{xt yt:TypeId}(h1:ev fr x=some (.int k m))(h2:ev fr y=some (.int k n)):gX C fr L (.binOp .leq xt x y yt) ty (.bool (decide (m<=n))):=λa w ha hw d pos af g=>by
 rw[fW a d pos af g (ha.tmp h1) (ha.tmp h2) ⟨aE,aE⟩];simp[Op.intCmp]
theorem ah5{xt yt:TypeId}(h1:ev fr x=some (.int k m))(h2:ev fr y=some (.int k n)):gX C fr L (.binOp .gtr xt x y yt) ty (.bool (decide (n<m))):=λa w ha hw d pos af g=>by
 rw[fW a d pos af g (ha.tmp h1) (ha.tmp h2) ⟨aE,aE⟩];simp[Op.intCmp]
theorem ah4{xt yt:TypeId}(h1:ev fr x=some (.int k m))(h2:ev fr y=some (.int k n)):gX C fr L (.binOp .geq xt x y yt) ty (.bool (decide (n<=m))):=λa w ha hw d pos af g=>by
 rw[fW a d pos af g (ha.tmp h1) (ha.tmp h2) ⟨aE,aE⟩];simp[Op.intCmp]
theorem lf(h:ev fr x=some (.bool b)){xt:TypeId}:gX C fr L (.unOp .not xt x) ty (.bool !b):=λa w ha hw d pos af g=>by simp[execOp,ha.tmp h,Op.unary]
theorem VU(h:ev fr x=some (.int k m)){xt:TypeId}(hr:k.wrap (0-m)=r):gX C fr L (.unOp .neg xt x) ty (.int k r):=λa w ha hw d pos af g=>by rw[<-hr];simp[execOp,ha.tmp h,Op.unary,Op.intArith]
theorem be{s t:TypeId}(hs:C.P.underlying s=some (.int k))(ht:C.P.underlying t=some (.int k'))(h:ev fr x=some (.int k m))(hr:k'.wrap m=r):gX C fr L (.convert s t x) ty (.int k' r):=λa w ha hw d pos af g=>by
 rw[<-hr];simp[execOp,ha.tmp h,convert,jk hs,jk ht,Conv.intToInt]
theorem Ns{vs:cQ}(h:ev fr x=some (.tuple vs.toArray))(hi:vs[i]? =some v):gX C fr L (.extract x i) ty v:=λa w ha hw d pos af g=>by simp[execOp,ha.tmp h,Instr.extract,hi]
theorem Ki{fn:Go.Fn}{bs:List Operand}{us vs:cQ}(h1:AN fr ue=some us)(h2:AN fr bs=some vs):gX C fr L (.makeFunc fn ue.toArray bs.toArray) ty (.func fn us.toArray vs.toArray):=λa w ha hw d pos af g=>by
 simp[execOp,Instr.makeFunc,ha.AN h1,ha.AN h2]
theorem Kk{p:Addr}(h:ev fr x=some (.pointer (some p))):gX C fr L (.nilCheck x) ty (.pointer (some p)):=λa w ha hw d pos af g=>by simp[execOp,ha.tmp h]
theorem Nt{t:TypeId}{s:ByteArray}(ht:C.P.underlying t=some .string)(h:ev fr x=some (.string s)):gX C fr L (.call {callee:=.builtin .len,args:= #[x],argTypes:= #[t]}) ty (.int .i64 (s.size:Int)):=λa w ha hw d pos af g=>by
 simp[execOp,resolve,invoke,builtin,Builtin.len_,ha.tmp h,jk ht,goInt]
theorem pB{t e:TypeId}{A:bh}{n:Nat}(ht:C.P.underlying t=some (.slice e))(h:ev fr x=some (.slice A n c)):gX C fr L (.call {callee:=.builtin .len,args:= #[x],argTypes:= #[t]}) ty (.int .i64 (n:Int)):=λa w ha hw d pos af g=>by
 simp[execOp,resolve,invoke,builtin,Builtin.len_,ha.tmp h,jk ht,goInt]
theorem yB{Dh:Array TypeId}(h1:ev fr x=some (.int k m))(h2:ev fr y=some (.int k n)):gX C fr L (.call {callee:=.builtin .min,args:= #[x,y],argTypes:=Dh}) ty (.int k (min m n)):=λa w ha hw d pos af g=>by
 have:(if n<m then n else m)=min m n:=by rw[Int.min_def];split<;>split<;>omega
 simp[execOp,resolve,invoke,builtin,Builtin.min_,Builtin.min2,ha.tmp h1,ha.tmp h2,this]
theorem Kj{Dh:Array TypeId}(h1:ev fr x=some (.int k m))(h2:ev fr y=some (.int k n)):gX C fr L (.call {callee:=.builtin .max,args:= #[x,y],argTypes:=Dh}) ty (.int k (max m n)):=λa w ha hw d pos af g=>by
 have:(if m<n then n else m)=max m n:=by rw[Int.max_def];split<;>split<;>omega
 simp[execOp,resolve,invoke,builtin,Builtin.max_,Builtin.max2,ha.tmp h1,ha.tmp h2,this]
theorem GY{t:TypeId}{s:aq}(ht:C.P.underlying t=some .string)(h:ev fr x=some (.string ⟨s.toArray⟩))(h2:ev fr y=some (.int k m))(hm:m=(i:Int)){b:UInt8}(hb:s[i]? =some b):gX C fr L (.index t x y) ty (.int .u8 (b.toNat:Int)):=λa w ha hw d pos af g=>by
 subst hm;obtain⟨hi,hb⟩:=Hi.1 hb;have h3:(⟨s.toArray⟩:ByteArray)[i]? =some b:=by
  have iy:i<(⟨s.toArray⟩:ByteArray).size:=by show i<s.toArray.size;simpa using hi
  rw[getElem?_pos (⟨s.toArray⟩:ByteArray) i iy];show some (s.toArray[i]'_)=_;simp[hb]
 simp[execOp,Instr.index,asIntOf,ha.tmp h,ha.tmp h2,jk ht,h3]
theorem Na(s t:aq):((⟨s.toArray⟩:ByteArray).toList==(⟨t.toArray⟩:ByteArray).toList)=decide (s=t):=by
 rw[ByteArray.toList_mk,ByteArray.toList_mk,Bool.eq_iff_iff];simp
end
end
end
section
theorem Vh{P:Prop}(h:P:=by(simpa using k1)):P:=h
theorem HW{P:Prop}(h:P:=by(simp[Ch.fp,sG])):P:=h
theorem B9{P:Prop}(h:P:=by(rw[e])):P:=h
theorem Bg:type_of% @Bool.and_eq_true:= @Bool.and_eq_true
theorem KW:type_of% @World.grownBy_alloc:= @World.grownBy_alloc
theorem bm:type_of% @List.length_append:= @List.length_append
theorem qR:type_of% @Nat.add_mul:= @Nat.add_mul
theorem bT:type_of% @List.append_assoc:= @List.append_assoc
theorem y':type_of% @List.take_left:= @List.take_left
theorem Tg:type_of% @setRow_heap:= @setRow_heap
theorem Hj:type_of% @Array.length_toList:= @Array.length_toList
theorem Th:type_of% @setRow_other:= @setRow_other
theorem mh:type_of% @List.nil_append:= @List.nil_append
theorem za:type_of% @Prod.mk.injEq:= @Prod.mk.injEq
theorem aiT:type_of% @Nat.le_mul_of_pos_right:= @Nat.le_mul_of_pos_right
def qQ(P:Program)(t:TypeId):Bool:=(match P.underlying t with|none=>false|some (.struct _)=>false|some (.array _ _)=>false|some _=>true)&&((P.info? t).map (·.size)==some 1)
theorem yW{t:TypeId}(h:qQ P t=true)(w:World):(isAgg t).run P w= .ok false w:=by
 unfold qQ at h;unfold isAgg;cases hd:P.underlying t with
 |none=>simp[hd]at h
 |some d=>cases d<;>simp[jk hd]<;>simp[hd]at h
theorem ZD{t:TypeId}(h:qQ P t=true)(w:World):(sizeOf t).run P w= .ok 1 w:=by
 unfold qQ at h;rw[Bg]at h;have h2:=h.2;cases hi:P.info? t with
 |none=>rw[hi]at h2;simp at h2
 |some i=>rw[hi]at h2;simp at h2;simp[sizeOf,typeInfo,hi,h2]
def pH(P:Program)(t:TypeId)(k:Nat):Bool:=(match P.underlying t with|some (.struct _)=>true|some (.array _ _)=>true|_=>false)&&((P.info? t).map (·.size)==some k)
theorem adZ{t:TypeId}{k:Nat}(h:pH P t k=true)(w:World):(isAgg t).run P w= .ok true w:=by
 unfold pH at h;unfold isAgg;cases hd:P.underlying t with
 |none=>simp[hd]at h
 |some d=>cases d<;>simp[jk hd]<;>simp[hd]at h
theorem ZC{t:TypeId}{k:Nat}(h:pH P t k=true)(w:World):(sizeOf t).run P w= .ok k w:=by
 unfold pH at h;rw[Bg]at h;have h2:=h.2;cases hi:P.info? t with
 |none=>rw[hi]at h2;simp at h2
 |some i=>rw[hi]at h2;simp at h2;simp[sizeOf,typeInfo,hi,h2]
theorem Hf{t:TypeId}{k:Nat}(h:(P.info? t).map (·.size)=some k)(w:World):(sizeOf t).run P w= .ok k w:=by
 cases hi:P.info? t with
 |none=>rw[hi]at h;simp at h
 |some i=>rw[hi]at h;simp at h;simp[sizeOf,typeInfo,hi,h]
theorem Dy{w:World}{L:aN}{g o:Nat}{bt:TypeId}{cs:cQ}{f:Ch->aN}{v:Value}(hw:SL B w0 L w)(hm:m9 (.bI g bt cs) L f)(hv:cs[o]? =some v):w.cell? ⟨g,o,none⟩=some v:=by
 have h:=(hw.all _ hm.mem).2.cell o;rw[h];simpa using hv
section
variable{C:Cx}{Q:Exit->Fr->aN->Prop}{fr jD:Fr}{L L':aN}{ops:Array Oper}{l:sg}{op:Op}{ty:TypeId}{pos:String}{af:Array Edge}{d:Nat}{v:Value}
variable{x y z:Operand}{k:IntKind}{m n:Int}{f:Ch->aN}{g o:Nat}{bt t e:TypeId}{cs:cQ}
theorem bL(hs:qQ C.P t=true)(he:ev fr x=some (.pointer (some ⟨g,o,none⟩)))(hm:m9 (.bI g bt cs) L f)(hv:cs[o]? =some v):gX C fr L (.load t x) ty v:=λa w ha hw d pos af gg=>by
 simp[execOp,Instr.loadAt,Instr.sureAddr,ha.tmp he,loadVar,yW hs,Dy hw hm hv]
theorem kX{w:World}{p:Addr}{t:TypeId}{cs:cQ}(hs:pH P t (E cs)=true)(h:∀j u,cs[j]? =some u->w.cell? (p.add j)=some u):(loadVar t p).run P w= .ok (.agg cs.toArray) w:=by
 simp[loadVar,adZ hs,ZC hs,run_loadCells_list w p cs h]
theorem cu(k:Nat)(hs:pH C.P t k=true)(he:ev fr x=some (.pointer (some ⟨g,o,none⟩)))(hm:m9 (.bI g bt cs) L f)(us:cQ)(hu:(cs.drop o).take k=us)(hk:E us=k):gX C fr L (.load t x) ty (.agg us.toArray):=λa w ha hw d pos af gg=>by
 subst hk;have:=kX (P:=C.P) (w:=w) (p:=⟨g,o,none⟩) hs (λj u hj=>by
  rw[C1];refine Dy hw hm ?_;rw[<-hu,KT]at hj;split at hj
  ·rwa [k_6]at hj
  ·cases hj)
 simp[execOp,Instr.loadAt,Instr.sureAddr,ha.tmp he,this]
theorem M9{w:World}{A:bh}{xs:cQ}(hb:aJ B w0 L size (.slice A nn c) nn xs)(hw:SL B w0 L w)(hu:xs[j]? =some u)(hs:0<nn):∃ad,A=some ad/\w.cell? (ad.add j)=some u:=by
 obtain⟨A',c',hv,hc,hl,hr⟩:=hb w hw;injection hv with q1 q2 q3;subst q1;obtain⟨ad,h,_,iw⟩:=hr hs;exact⟨ad,h,iw j u hu⟩
theorem az{A:bh}{xs:cQ}(ht:C.P.underlying t=some (.slice e))(hz:(C.P.info? e).map (·.size)=some size)(he:ev fr x=some (.slice A nn c))(h2:ev fr y=some (.int k m))(hm:m=(i:Int))(hi:i<nn)(hb:aJ C.B C.w0 L size (.slice A nn c) nn xs):
  gX C fr L (.indexAddr t x y) ty (.pointer (A.map (·.add (i*size)))):=λa w ha hw d pos af gg=>by
 subst hm;obtain⟨A',c',hv,hc,hl,hr⟩:=hb w hw;injection hv with q1 q2 q3;subst q1;obtain⟨ad,h,_,iw⟩:=hr aa;subst h;simp[execOp,Instr.indexAt,asIntOf,ha.tmp he,ha.tmp h2,jk ht,hi,Hf hz]
theorem al{A:bh}{xs:cQ}(hs:qQ C.P t=true)(he:ev fr x=some (.pointer (A.map (·.add j))))(hb:aJ C.B C.w0 L size (.slice A nn c) nn xs)(hn:0<nn)(hv:xs[j]? =some v):gX C fr L (.load t x) ty v:=λa w ha hw d pos af gg=>by
 obtain⟨ad,rfl,hc⟩:=M9 hb hw hv hn;simp[execOp,Instr.loadAt,Instr.sureAddr,ha.tmp he,loadVar,yW hs,hc]
theorem bH{A:bh}{xs:cQ}(hs:qQ C.P t=true)(he:ev fr x=some (.pointer (A.map (λad=>(ad.add j).add q))))(hb:aJ C.B C.w0 L size (.slice A nn c) nn xs)(hn:0<nn)(hv:xs[j+q]? =some v):gX C fr L (.load t x) ty v:=λa w ha hw d pos af gg=>by
 obtain⟨ad,rfl,hc⟩:=M9 hb hw hv hn;rw[<-lV]at hc;simp[execOp,Instr.loadAt,Instr.sureAddr,ha.tmp he,loadVar,yW hs,hc]
theorem bU{A:bh}{xs:cQ}(k:Nat)(hs:pH C.P t k=true)(he:ev fr x=some (.pointer (A.map (·.add j))))(hb:aJ C.B C.w0 L size (.slice A nn c) nn xs)(hn:0<nn)(us:cQ)(hu:∀q u,us[q]? =some u->xs[j+q]? =some u)(hk:E us=k):gX C fr L (.load t x) ty (.agg us.toArray):=λa w ha hw d pos af gg=>by
 subst hk;obtain⟨A',c',hv,hc,hl,hr⟩:=hb w hw;injection hv with q1 q2 q3;subst q1;obtain⟨ad,h,_,iw⟩:=hr hn;subst h;have:=kX (P:=C.P) (w:=w) (p:=ad.add j) hs (λq u hq=>by rw[lV];exact iw _ _ (hu q u hq));simp[execOp,Instr.loadAt,Instr.sureAddr,ha.tmp he,this]
theorem GX{fs:Array Field}{fd:Field}{sz:Nat}(ht:C.P.underlying t=some (.struct fs))(hf:fs[i]? =some fd)(hz:(C.P.info? fd.type).map (·.size)=some (sz+1))(he:ev fr x=some (.pointer (some ⟨g,o,none⟩)))(hq:o+fd.offset=q):
  gX C fr L (.fieldAddr t x i) ty (.pointer (some ⟨g,q,none⟩)):=λa w ha hw d pos af gg=>by
 subst hq;have h0:¬(sz+1=0):=by omega
 simp[execOp,Instr.fieldAt,Instr.sureAddr,fieldPlace,ha.tmp he,jk ht,hf,Hf hz,C1]
theorem yy{fs:Array Field}{fd:Field}{sz:Nat}{A:bh}{xs:cQ}(ht:C.P.underlying t=some (.struct fs))(hf:fs[i]? =some fd)(hz:(C.P.info? fd.type).map (·.size)=some (sz+1))(he:ev fr x=some (.pointer (A.map (·.add j))))(hb:aJ C.B C.w0 L size (.slice A nn c) nn xs)(hn:0<nn)(hq:fd.offset=q):
  gX C fr L (.fieldAddr t x i) ty (.pointer (A.map (λad=>(ad.add j).add q))):=λa w ha hw d pos af gg=>by
 subst hq;obtain⟨A',c',hv,hc,hl,hr⟩:=hb w hw;injection hv with q1 q2 q3;subst q1;obtain⟨ad,h,_,iw⟩:=hr hn;subst h;simp[execOp,Instr.fieldAt,Instr.sureAddr,fieldPlace,ha.tmp he,jk ht,hf,Hf hz]
theorem ajZ(P:Program)(w:World)(e:TypeId)(v:Value):(Instr.box e v).run P w= .ok (.pointer (some ⟨w.heap.size,0,none⟩)) (w.alloc (.cells v.cells e)):=by
 simp[Instr.box,newVar,newRow]
theorem SL.Lc{w:World}{L:aN}(h:SL B w0 L w)(e:TypeId)(cs:cQ):SL B w0 (.bI w.heap.size e cs::L) (w.alloc (.cells cs.toArray e)):=
 h.gZ (KW w _ none) ⟨h.base,Mm.new w e cs.toArray⟩ (.inr ⟨_,rfl,ga _⟩)
theorem aia(he:ev fr x=some v)(hc:v.cells=cs.toArray):ra C fr L (.box e x) ty (λp L'=>∃g,p= .pointer (some ⟨g,0,none⟩)/\L'= .bI g e cs::L):=λa w ha hw d pos af gg=>
 ⟨.pointer (some ⟨w.heap.size,0,none⟩),w.alloc (.cells v.cells e),_,.inl (by simp[execOp,ha.tmp he,ajZ]),⟨w.heap.size,rfl,rfl⟩,by rw[hc];exact hw.Lc e cs⟩
theorem YP{i:TypeInfo}(hi:C.P.info? e=some i)(hz:i.zero=some zv)(hc:zv.cells=cs.toArray):ra C fr L (.alloc e) ty (λp L'=>∃g,p= .pointer (some ⟨g,0,none⟩)/\L'= .bI g e cs::L):=λa w ha hw d pos af gg=>
 ⟨.pointer (some ⟨w.heap.size,0,none⟩),w.alloc (.cells zv.cells e),.bI w.heap.size e cs::L,.inl (by simp[execOp,Instr.alloc,zeroValue,typeInfo,hi,hz,newVar,newRow]),⟨w.heap.size,rfl,rfl⟩,by rw[hc];exact hw.Lc e cs⟩
theorem SL.Xx{w w':World}{L:aN}{c c':Ch}{f:Ch->aN}(h:SL B w0 L w)(hs:m9 c L f)(hg:w.grownBy w' c.fp)(hc:c.holds B w->c'.holds B w')(hf:c'.fp=none\/c'.fp=c.fp\/∃g,c'.fp=some g/\w.heap.size<=g):SL B w0 (f c') w':=by
 obtain⟨R,h1,h2⟩:=hs.perm;have hp:=h.perm h1;exact(hp.LZ hg (hc hp.head) hf).perm (h2 c').symm
theorem SL.store{w:World}{L:aN}{f:Ch->aN}{g o:Nat}{bt:TypeId}{cs:cQ}(h:SL B w0 L w)(hm:m9 (.bI g bt cs) L f)(u:Value):SL B w0 (f (.bI g bt (cs.set o u))) (w.setCell ⟨g,o,none⟩ u):=
 h.Xx hm (zx (Td w _) (.inl rfl) u) (λ⟨h1,h2⟩=>⟨h1,by have:=h2.afF o u;simpa using this⟩) (.inr (.inl rfl))
theorem vf{w:World}{p:Addr}{v:Value}(hs:qQ P t=true)(h1:v.oneCell'=true)(hc:w.cell? p=some u)(hf:w.frozen? p=false):(storeVar t p v).run P w= .ok () (w.setCell p v):=by
 have q8:v.cells= #[v]:=by cases v<;>simp_all[Value.cells,Value.oneCell']
 simp[storeVar,ZD hs,q8,storeCells,Addr.add,run_store P w p v _ h1,hc,hf]
theorem oX(hs:qQ C.P t=true)(he:ev fr x=some (.pointer (some ⟨g,o,none⟩)))(hv:ev fr y=some v)(h1:v.oneCell'=true)(hm:m9 (.bI g bt cs) L f)(ho:o<E cs):
  ra C fr L (.store t x y) ty (λp L'=>L'=f (.bI g bt (cs.set o v))):=λa w ha hw d pos af gg=>by
 have hc:=Dy hw hm (fx ho);have hf:=(hw.all _ hm.mem).2.frozen o;exact⟨undef,_,_,.inr ⟨by simp[execOp,Instr.storeAt,Instr.sureAddr,ha.tmp he,ha.tmp hv,vf hs h1 hc hf],rfl⟩,rfl,hw.store hm v⟩
theorem w7.append{t e:TypeId}{z:Value}(T:tc P t e size bytes z)(ty:TypeId){w:World}{A:bh}{n:Nat}{xs:cQ}(kQ:w7 w B e size A n c xs){B2:Nat}{x:Value}{m:Nat}{news:cQ}(hr:Rd w B2 size x m news)(h1:∀u∈news,u.oneCell'=true)(kg:(n+m)*bytes<=140737488355328)(xZ:n+m<=140737488355328)(Ci:B<=w.heap.size):
  ∃A' c' w',(Builtin.append_ #[t,t] ty #[.slice A n c,x]).run P w= .ok (.slice A' (n+m) c') w'/\w7 w' B e size A' (n+m) c' (xs++news)/\w.grownBy w' (Ch.own e size A n c xs).fp/\
   ((Ch.own e size A' (n+m) c' (xs++news)).fp=none\/(Ch.own e size A' (n+m) c' (xs++news)).fp=(Ch.own e size A n c xs).fp\/∃g,(Ch.own e size A' (n+m) c' (xs++news)).fp=some g/\w.heap.size<=g):=by
 obtain⟨i,hi,hz,iy,GF⟩:=T.hi;subst iy GF;obtain⟨X,cx,rfl,hmc,hl,xp⟩:=hr;obtain⟨k1,k2,k3⟩:=kQ;have anm:n+m<=maxLen:=by unfold maxLen;omega
 have hlen:E (xs++news)=(n+m)*i.size:=by rw[bm,k1,hl,qR]
 have big:∀old,old<n+m->w7 (w.drew.alloc (.cells (xs.toArray++news.toArray++Builtin.zeroCells z.cells (grownCap w (n+m) old e-(n+m))) e)) B e i.size (some ⟨w.heap.size,0,none⟩) (n+m) (grownCap w (n+m) old e) (xs++news):=by
  intro old ho;have x7:=grownCap_ge w (n+m) old e;refine⟨hlen,x7,.inr ⟨w.heap.size,_,rfl,Ci,EY w.drew _,grownCap_le_maxLen w (n+m) old e anm,?_,?_⟩⟩
  ·simp only[Array.size_append,y_,size_zeroCells,T.hz,k1,hl,<-qR];congr 1;omega
  ·simp only[Array.toList_append,bT];rw[<-bT,<-hlen];exact y'
 have Wu:∀(o:Obj) (row:Option Nat),w.grownBy (w.drew.alloc o) row:=λo row=>⟨rfl,rfl,rfl,ao,λk hk _=>heap_alloc_old w.drew o hk⟩
 have Re:∀c',0<c'->(Ch.own e i.size (some ⟨w.heap.size,0,none⟩) (n+m) c' (xs++news)).fp=some w.heap.size:=λc' h=>by simp[Ch.fp,Nat.pos_iff_ne_zero.1 h]
 rcases X with _|ad
 ·have hm:m=0:=by
   rcases Be m with h0|h0
   ·exact h0
   ·obtain⟨ad,h,_⟩:=xp h0;cases h
  subst hm;have hn:news=[]:=mg wI;subst hn;refine⟨A,c,w,?_,⟨Vh,by simpa using k2,by simpa using k3⟩,Td w _,.inr (.inl rfl)⟩;rcases A with _|a0
  ·simp[Builtin.append_,jk T.ht,sizeOf,typeInfo,hi,Builtin.lenOf,Builtin.firstCells,k2]
  ·simp[Builtin.append_,jk T.ht,sizeOf,typeInfo,hi,Builtin.lenOf,Builtin.firstCells,k2,storeCells]
 ·have EF:∀j u,news[j]? =some u->w.cell? (ad.add j)=some u:=by
   intro j u hu;rcases Be m with h0|h0
   ·subst h0;have hn:news=[]:=mg wI;subst hn;simp at hu
   ·obtain⟨ad',h,_,hc⟩:=xp h0;injection h with h;subst h;exact hc j u hu
  by_cases rA:n+m<=c
  ·by_cases sG:c=0
   ·have hn0:n=0:=by omega
    have hm0:m=0:=by omega
    subst hn0 hm0 sG;have hn:news=[]:=mg wI;have hx:xs=[]:=mg Vh;subst hn hx;refine⟨A,0,w,?_,⟨ao,ao,.inl rfl⟩,Td w _,.inl rfl⟩;rcases A with _|a0
    ·simp[Builtin.append_,jk T.ht,sizeOf,typeInfo,hi,Builtin.lenOf,Builtin.firstCells,loadCells,loadCellsFrom]
    ·simp[Builtin.append_,jk T.ht,sizeOf,typeInfo,hi,Builtin.lenOf,Builtin.firstCells,loadCells,loadCellsFrom,storeCells]
   ·obtain⟨g,cur,rfl,hbg,hg,hcm,q8,tu⟩:=k3.resolve_left sG;have KK:n*i.size+E news<=cur.size:=by rw[hl,q8,<-qR];exact C3 _ rA
    have hr:=run_append_room (P:=P) w t ty e i T.ht hi g n c cur hg ad m cx news hl EF h1 rA KK;refine⟨_,_,_,hr,⟨hlen,rA,.inr ⟨g,_,rfl,hbg,Tg w g cur _ e _ hg,hcm,?_,?_⟩⟩,?_,.inr (.inl HW)⟩
    ·simp only[y_,bm,fZ,jM,Hj];omega
    ·rw[tu,<-hlen];exact y'
    ·rw[show(Ch.own e i.size (some ⟨g,0,none⟩) n c xs).fp=some g by simp[Ch.fp,sG]];exact⟨rfl,rfl,rfl,ao,λk _ hk=>Th w g k _ (λe=>hk B9)⟩
  ·rcases A with _|a0
   ·have sG:c=0:=by
     rcases k3 with h|⟨g,_,h,_⟩
     ·exact h
     ·cases h
    have hn0:n=0:=by omega
    subst hn0 sG;have hx:xs=[]:=mg Vh;subst hx;have hr:=run_append_nil (P:=P) w t ty e i z T.ht hi hz ad m cx news hl EF aa aa (by simp only[mH]at kg;omega);have hb:=big 0 aa;simp only[mH,mh,Array.empty_append]at hb⊢;simp only[mH,mh]at Re;exact⟨_,_,_,hr,hb,Wu _ _,.inr (.inr ⟨_,Re _ (by have:=hb.2.1;omega),ga _⟩)⟩
   ·have holds:∀j u,xs[j]? =some u->w.cell? (a0.add j)=some u:=by
     intro j u hu;rcases k3 with h|⟨g,cur,h,_,hg,_,q8,tu⟩
     ·have hn0:n=0:=by omega
      subst hn0;have hx:xs=[]:=mg Vh;subst hx;simp at hu
     ·injection h with h;subst h;rw[C1,mH,cell_of_row w g j cur e (0,0) hg];rw[<-tu,KT]at hu;split at hu
      ·simpa using hu
      ·cases hu
    have hr:=run_append_grow (P:=P) w t ty e i z T.ht hi hz a0 n c xs k1 holds ad m cx news hl EF aa aa (growslice_fits aa kg);have hb:=big c aa;exact⟨_,_,_,hr,hb,Wu _ _,.inr (.inr ⟨_,Re _ (by have:=hb.2.1;omega),ga _⟩)⟩
theorem bB(T:tc C.P t e size bytes zv){A:bh}{n:Nat}{xs:cQ}(he:ev fr x=some (.slice A n c))(hs:m9 (.own e size A n c xs) L f){yv:Value}{m:Nat}{news:cQ}(hy:ev fr y=some yv)(hb:aJ C.B C.w0 L size yv m news)(h1:∀u∈news,u.oneCell'=true)(kg:(n+m)*bytes<=140737488355328)(xZ:n+m<=140737488355328):
  ra C fr L (.call {callee:=.builtin .append,args:= #[x,y],argTypes:= #[t,t]}) ty (λp L'=>∃A' c',p= .slice A' (n+m) c'/\L'=f (.own e size A' (n+m) c' (xs++news))):=λa w ha hw d pos af gg=>by
 obtain⟨A',c',w',hr,h2,h3,h4⟩:=w7.append T ty (hw.all _ hs.mem) (hb w hw) h1 kg xZ hw.base;refine⟨_,w',_,.inl ?_,⟨A',c',rfl,rfl⟩,hw.Xx hs h3 (λ_=>h2) h4⟩;simp[execOp,resolve,invoke,builtin,ha.tmp he,ha.tmp hy,hr]
theorem SL.Dq{w:World}{L:aN}(h:SL B w0 L w)(e:TypeId)(size:Nat)(A:bh):SL B w0 (.own e size A 0 0 []::L) w:=h.gZ (Td w _) ⟨ao,ga _,.inl rfl⟩ (.inl rfl)
theorem aM{cd:Code}(e:TypeId)(size:Nat)(A:bh)(h:VC C cd Q fr (.own e size A 0 0 []::L)):VC C cd Q fr L:=λa w ha hw=>h a w ha (hw.Dq e size A)
theorem my{kk:Nat}{parts:List (Nat×Operand)}(ht:C.P.underlying t=some (.slice e))(hz:(C.P.info? e).map (·.size)=some size)(h0:0<size)(sH:0<kk)(hk:kk*size<=1048576)(hzero:(C.P.info? e).bind (·.zero)=some zv){us:List (Nat×Value)}(hp:parts.map (λp=>(p.1,ev fr p.2))=us.map (λp=>(p.1,some p.2)))(alr:Instr.fill (λi=>some (i*size,size)) ((Array.range (kk*size)).map (zv.cells[· %zv.cells.size]!)) us=some cs.toArray)(hl:E cs=kk*size):
  ra C fr L (.buildSlice t kk parts.toArray) ty (λp L'=>∃A,p= .slice A kk kk/\L'= .own e size A kk kk cs::L):=λa w ha hw d pos af gg=>by
 have Oz:parts.map (λp=>(p.1,a.eval p.2))=us:=by
  clear alr;induction parts generalizing us with
  |nil=>cases us with|nil=>rfl|cons _ _=>cases hp
  |cons p ps ih=>
   cases us with
   |nil=>cases hp
   |cons u us=>
    simp only[iN,List.cons.injEq,za]at hp;obtain⟨⟨h1,h2⟩,h3⟩:=hp;simp only[iN,ha.tmp h2,h1,ih h3]
 cases hi:C.P.info? e with
 |none=>rw[hi]at hz;cases hz
 |some i=>
  rw[hi]at hz hzero;simp at hz hzero;subst hz;have Mu:¬(16777216<kk*i.size):=by omega
  refine⟨_,w.alloc (.cells cs.toArray e),_,.inl ?_,⟨some ⟨w.heap.size,0,none⟩,rfl,rfl⟩,hw.gZ (KW w _ none) ⟨hl,ga _,?_⟩ ?_⟩
  ·have wQ:¬kk*i.size=0:=Nat.ne_of_gt (Nat.mul_pos sH h0);simp[execOp,Instr.buildSlice,jk ht,sizeOf,typeInfo,zeroValue,hi,hzero,Mu,wQ,Oz,alr,newRow]
  ·by_cases wQ:kk=0
   ·exact .inl wQ
   ·exact .inr ⟨_,_,rfl,hw.base,EY w _,by unfold maxLen;have:=aiT kk h0;omega,wI,by simp[<-hl]⟩
  ·by_cases wQ:kk=0
   ·left;simp[Ch.fp,wQ]
   ·right;exact⟨w.heap.size,by simp[Ch.fp,wQ],ga _⟩
end
end
section
section
variable{C:Cx}{Q:Exit->Fr->aN->Prop}{fr jD:Fr}{L L':aN}{ops:Array Oper}{l:sg}{op:Op}{ty:TypeId}{pos:String}{af:Array Edge}{d:Nat}{v:Value}
variable{x y z:Operand}{k:IntKind}{m n:Int}{f:Ch->aN}{g o:Nat}{bt t e:TypeId}{cs:cQ}
theorem DM{P:Prop}(h:P:=by(simpa using h1)):P:=h
theorem Hk:type_of% @List.drop_take:= @List.drop_take
theorem js:type_of% @List.take_length:= @List.take_length
theorem xy:type_of% @Int.natCast_mul:= @Int.natCast_mul
theorem lJ:type_of% @Int.toNat_natCast:= @Int.toNat_natCast
theorem cH:type_of% @Nat.mul_one:= @Nat.mul_one
theorem eG:type_of% @congrArg:= @congrArg
theorem Py(A:bh):A.map (·.add 0)=A:=by cases A<;>rfl
theorem bV{A:bh}(ht:C.P.underlying t=some (.slice e))(hz:(C.P.info? e).map (·.size)=some size)(he:ev fr x=some (.slice A nn c))(hy:ev fr y=some (.int k m))(hm:m=(i:Int))(hi:i<=nn):
  gX C fr L (.slice t x (some y) none none) ty (.slice (if c=i then A else A.map (·.add (i*size))) (nn-i) (c-i)):=λa w ha hw d pos af gg=>by
 subst hm;simp[execOp,Instr.sliceAt,Instr.slice,Instr.sliceBounds,Instr.sliceBound,asIntOf,jk ht,ha.tmp he,ha.tmp hy,hi,Hf hz]
theorem bQ{A:bh}(ht:C.P.underlying t=some (.slice e))(hz:(C.P.info? e).map (·.size)=some size)(he:ev fr x=some (.slice A nn c))(hy:ev fr y=some (.int k m))(hm:m=(i:Int))(hi:i<=c):
  gX C fr L (.slice t x none (some y) none) ty (.slice A i c):=λa w ha hw d pos af gg=>by
 subst hm;simp[execOp,Instr.sliceAt,Instr.slice,Instr.sliceBounds,Instr.sliceBound,asIntOf,jk ht,ha.tmp he,ha.tmp hy,hi,Hf hz,Py]
theorem fR{A:bh}(ht:C.P.underlying t=some (.slice e))(hz:(C.P.info? e).map (·.size)=some size)(he:ev fr x=some (.slice A nn c))(hy:ev fr y=some (.int k m))(hm:m=(i:Int))(sI:ev fr z=some (.int k' n))(hn:n=(j:Int))(Ww:i<=j)(hj:j<=c):
  gX C fr L (.slice t x (some y) (some z) none) ty (.slice (if c=i then A else A.map (·.add (i*size))) (j-i) (c-i)):=λa w ha hw d pos af gg=>by
 subst hm;subst hn;simp[execOp,Instr.sliceAt,Instr.slice,Instr.sliceBounds,Instr.sliceBound,asIntOf,jk ht,ha.tmp he,ha.tmp hy,ha.tmp sI,Ww,hj,Hf hz]
theorem extract_mk(s:aq)(i j:Nat):(⟨s.toArray⟩:ByteArray).extract i j=⟨((s.take j).drop i).toArray⟩:=by
 apply ByteArray.ext;rw[ByteArray.data_extract];simp[List.extract_eq_take_drop,Hk]
theorem Dw(s:aq):(⟨s.toArray⟩:ByteArray).size=E s:=by simp[ByteArray.size]
theorem R8{s:aq}(ht:C.P.underlying t=some .string)(he:ev fr x=some (.string ⟨s.toArray⟩))(hy:ev fr y=some (.int k m))(hm:m=(i:Int))(hi:i<=E s):
  gX C fr L (.slice t x (some y) none none) ty (.string ⟨(s.drop i).toArray⟩):=λa w ha hw d pos af gg=>by
 subst hm;have h1:s.take (E s)=s:=js;simp[execOp,Instr.sliceAt,Instr.slice,Instr.sliceBounds,Instr.sliceBound,asIntOf,jk ht,ha.tmp he,ha.tmp hy,Dw,hi,extract_mk]
theorem Ed{s:aq}(ht:C.P.underlying t=some .string)(he:ev fr x=some (.string ⟨s.toArray⟩))(hy:ev fr y=some (.int k m))(hm:m=(i:Int))(hi:i<=E s):
  gX C fr L (.slice t x none (some y) none) ty (.string ⟨(s.take i).toArray⟩):=λa w ha hw d pos af gg=>by
 subst hm;simp[execOp,Instr.sliceAt,Instr.slice,Instr.sliceBounds,Instr.sliceBound,asIntOf,jk ht,ha.tmp he,ha.tmp hy,Dw,hi,extract_mk]
theorem sW{w:World}{op:BinOp}{xt:TypeId}(a:Act)(d:Option Tmp)(pos:String)(af:Array Edge)(gg:Option (Nat×Bool)){yt:TypeId}{s r:ByteArray}(h1:a.eval x= .string s)(h2:a.eval y= .string r)(hs:op≠ .shl/\op≠ .shr):
  (execOp a.eval ⟨d,.binOp op xt x y yt,ty,pos,af,gg⟩).run P w=((Op.stringOp op s r).run P w).andThen λv w=>.ok (.value v) w:=by
 have he:(eqGuard op xt x y (.string s) (.string r)).run P w= .ok () w:=by cases op<;>simp[eqGuard]
 obtain⟨j8,jj⟩:=hs;cases op<;>simp_all[execOp,binOp]
theorem J6(s r:aq):(s==r)=decide (s=r):=by rw[Bool.eq_iff_iff];simp
section
variable{s r:aq}{xt yt:TypeId}
theorem YE(h1:ev fr x=some (.string ⟨s.toArray⟩))(h2:ev fr y=some (.string ⟨r.toArray⟩)):gX C fr L (.binOp .eql xt x y yt) ty (.bool (decide (s=r))):=λa w ha hw d pos af gg=>by
 rw[sW a d pos af gg (ha.tmp h1) (ha.tmp h2) ⟨aE,aE⟩];simp[Op.stringOp,J6]
theorem It(h1:ev fr x=some (.string ⟨s.toArray⟩))(h2:ev fr y=some (.string ⟨r.toArray⟩)):gX C fr L (.binOp .neq xt x y yt) ty (.bool (decide (¬s=r))):=λa w ha hw d pos af gg=>by
 rw[sW a d pos af gg (ha.tmp h1) (ha.tmp h2) ⟨aE,aE⟩];simp[Op.stringOp,J6]
theorem YF(h1:ev fr x=some (.string ⟨s.toArray⟩))(h2:ev fr y=some (.string ⟨r.toArray⟩)):gX C fr L (.binOp .gtr xt x y yt) ty (.bool (!(Op.bytesLess s r||decide (s=r)))):=λa w ha hw d pos af gg=>by
 rw[sW a d pos af gg (ha.tmp h1) (ha.tmp h2) ⟨aE,aE⟩];simp[Op.stringOp,J6]
theorem AK(h1:ev fr x=some (.string ⟨s.toArray⟩))(h2:ev fr y=some (.string ⟨r.toArray⟩))(hl:E s+E r<=9223372036854775807):gX C fr L (.binOp .add xt x y yt) ty (.string ⟨(s++r).toArray⟩):=λa w ha hw d pos af gg=>by
 rw[sW a d pos af gg (ha.tmp h1) (ha.tmp h2) ⟨aE,aE⟩];have h3:((⟨s.toArray⟩:ByteArray)++(⟨r.toArray⟩:ByteArray))=⟨(s++r).toArray⟩:=ByteArray.mk_append_mk s r;have h4:(E s:Int)+(E r:Int)<=9223372036854775807:=by omega
 simp[Op.stringOp,Dw,h4,h3]
end
theorem pz{s:TypeId}{b:aq}(h1:C.P.underlying s=some (.slice e))(h2:C.P.underlying e=some (.int .u8))(h3:C.P.underlying t=some .string)(he:ev fr x=some v)(hb:aJ C.B C.w0 L 1 v nn (bv b)):gX C fr L (.convert s t x) ty (.string ⟨b.toArray⟩):=λa w ha hw d pos af gg=>by
 simp[execOp,ha.tmp he,afx h1 h2 h3 (hb w hw)]
theorem Nu{p:bh}{xt yt:TypeId}(ht:C.P.underlying xt=some (.pointer (C.P.pointee xt)))(h1:ev fr x=some (.pointer p))(h2:ev fr y=some (.pointer none)):gX C fr L (.binOp .eql xt x y yt) ty (.bool p.isNone):=λa w ha hw d pos af gg=>by
 have he:(eqGuard .eql xt x y (.pointer p) (.pointer none)).run C.P w= .ok () w:=by simp[eqGuard]
 simp only[execOp,ha.tmp h1,ha.tmp h2,Te,he,run_eql_pointer_nil w xt p ht,xx,OT]
theorem Kl{p:bh}{xt yt:TypeId}(ht:C.P.underlying xt=some (.pointer (C.P.pointee xt)))(h1:ev fr x=some (.pointer p))(h2:ev fr y=some (.pointer none)):gX C fr L (.binOp .neq xt x y yt) ty (.bool (!p.isNone)):=λa w ha hw d pos af gg=>by
 have he:(eqGuard .neq xt x y (.pointer p) (.pointer none)).run C.P w= .ok () w:=by simp[eqGuard]
 simp only[execOp,ha.tmp h1,ha.tmp h2,Te,he,run_neq_pointer_nil w xt p ht,xx,OT]
theorem eY(T:tc C.P t e 1 bytes zv)(CX:zv.cells= #[zv]){cc:Nat}(he:ev fr x=some (.int k m))(hm:m=(nn:Int))(hy:ev fr y=some (.int k' n))(hn:n=(cc:Int))(hle:nn<=cc)(kg:bytes*cc<=281474976710656)(xZ:cc<=281474976710656):
  ra C fr L (.makeSlice t x y) ty (λp L'=>∃A,p= .slice A nn cc/\L'= .own e 1 A nn cc (List.replicate nn zv)::L):=λa w ha hw d pos af gg=>by
 subst hm;subst hn;obtain⟨i,hi,hz,iy,GF⟩:=T.hi;have hr:=run_make (P:=C.P) w t e i zv T.ht hi hz k k' (nn:Int) (cc:Int) aa aa (by rw[GF,<-xy];omega) aa;simp only[lJ,iy,cH]at hr;refine⟨.slice (some ⟨w.heap.size,0,none⟩) nn cc,w.alloc (.cells (madeCells zv.cells cc) e),_,.inl (by simp[execOp,ha.tmp he,ha.tmp hy,hr]),⟨some ⟨w.heap.size,0,none⟩,rfl,rfl⟩,hw.gZ (KW w _ none) ⟨ao,hle,?_⟩ ?_⟩
 ·by_cases sG:cc=0
  ·exact .inl sG
  ·refine .inr ⟨_,_,rfl,hw.base,EY w _,yd,by rw[CX];simp[madeCells],?_⟩;rw[CX,toList_madeCells_one,cH,List.take_replicate,C2 hle]
 ·by_cases sG:cc=0
  ·left;simp[Ch.fp,sG]
  ·right;exact⟨w.heap.size,HW,ga _⟩
theorem w7.afF{w:World}{B:Nat}{e:TypeId}{size nn c j:Nat}{A:bh}{xs:cQ}(h:w7 w B e size A nn c xs)(hj:j<E xs)(u:Value):∃ad,A=some ad/\(Ch.own e size A nn c xs).fp=some ad.block/\(∃u,w.cell? (ad.add j)=some u)/\w.frozen? (ad.add j)=false/\
  w.grownBy (w.setCell (ad.add j) u) (some ad.block)/\w7 (w.setCell (ad.add j) u) B e size A nn c (xs.set j u):=by
 obtain⟨h1,h2,h3⟩:=h;have sG:¬c=0:=λh0=>by
  have:nn=0:=by omega
  subst this;simp at h1;simp[h1]at hj
 obtain⟨g,cur,rfl,k1,k2,k3,k4,k5⟩:=h3.resolve_left sG;have Oi:(⟨g,0,none⟩:Addr).add j=⟨g,j,none⟩:=by rw[C1,mH]
 have hjc:j<cur.size:=by
  have:=eG List.length k5;simp at this;omega
 have adu:Mm w g e cur:=k2;refine⟨_,rfl,HW,⟨cur[j],?_⟩,?_,zx (Td w _) (.inl (by rw[Oi])) u,DM,h2,.inr ⟨g,cur.setIfInBounds j u,rfl,k1,?_,k3,by simpa using k4,?_⟩⟩
 ·rw[Oi,adu.cell j,Array.getElem?_eq_getElem hjc]
 ·rw[Oi];exact adu.frozen j
 ·rw[Oi];exact adu.afF j u
 ·rw[Array.toList_setIfInBounds,List.take_set,k5]
theorem fy{A:bh}{xs:cQ}(hs:qQ C.P t=true)(he:ev fr x=some (.pointer (A.map (·.add j))))(hv:ev fr y=some v)(h1:v.oneCell'=true)(hm:m9 (.own e size A nn c xs) L f)(hj:j<E xs):
  ra C fr L (.store t x y) ty (λp L'=>L'=f (.own e size A nn c (xs.set j v))):=λa w ha hw d pos af gg=>by
 obtain⟨ad,rfl,Re,⟨u,hu⟩,hfz,hg,ho⟩:=w7.afF (hw.all _ hm.mem) hj v;exact⟨undef,_,_,.inr ⟨by simp[execOp,Instr.storeAt,Instr.sureAddr,ha.tmp he,ha.tmp hv,vf hs h1 hu hfz],rfl⟩,rfl,hw.Xx hm (by rw[Re];exact hg) (λ_=>ho) (.inr (.inl rfl))⟩
theorem ux{A:bh}{xs:cQ}(hs:qQ C.P t=true)(he:ev fr x=some (.pointer (A.map (λad=>(ad.add j).add q))))(hv:ev fr y=some v)(h1:v.oneCell'=true)(hm:m9 (.own e size A nn c xs) L f)(hj:j+q<E xs):
  ra C fr L (.store t x y) ty (λp L'=>L'=f (.own e size A nn c (xs.set (j+q) v))):=λa w ha hw d pos af gg=>by
 obtain⟨ad,rfl,Re,⟨u,hu⟩,hfz,hg,ho⟩:=w7.afF (hw.all _ hm.mem) hj v;refine⟨undef,_,_,.inr ⟨?_,rfl⟩,rfl,hw.Xx hm (by rw[Re];exact hg) (λ_=>ho) (.inr (.inl rfl))⟩;rw[<-lV]at hu hfz⊢;simp[execOp,Instr.storeAt,Instr.sureAddr,ha.tmp he,ha.tmp hv,vf hs h1 hu hfz]
def VQ(C:Cx)(ops:Array Oper)(L:aN)(Q:Fr->Prop)(l:sg)(fr:Fr):Prop:=∀a,pn C.N fr a->wpQuiet C.P ops (SL C.B C.w0 L) (λa'=>∃jD,pn C.N jD a'/\Q jD) l a
theorem abc{l:sg}(hm:C.P.follows .mixedOrders=true)(hB:Region.lexB .any l.toArray=true)(h:VQ C l.toArray L (λjD=>Q .normal jD L) l fr):VC C (.region id l.toArray true) Q fr L:=λa w ha hw=>by
 refine wp_region_quiet (C:=SL C.B C.w0 L) hm hB (hw.drewN 1) ?_;have:=h a ha;have Ow:∀(l:sg) (a:Act) {ops:Array Oper} {QQ UW:Act->Prop},(∀a,QQ a->UW a)->wpQuiet C.P ops (SL C.B C.w0 L) QQ l a->wpQuiet C.P ops (SL C.B C.w0 L) UW l a:=by
  intro l;induction l with
  |nil=>intro a ops QQ UW hq h;exact hq _ h
  |cons o l ih=>
   intro a ops QQ UW hq h;unfold wpQuiet at h⊢;split
   ·rename_i hw;rw[av hw]at h;exact Oper.quiet_mono (λa h=>ih a hq h) h
   ·rename_i hw;rw[aB hw]at h;exact ih _ hq h
 simpa using Ow l a (λa' ⟨jD,h1,h2⟩ w' EJ=>⟨jD,L,h1,EJ,h2⟩) this
section
variable{QF:Fr->Prop}
theorem lD(jD:Fr)(hs:Sub fr jD)(h:QF jD):VQ C ops L QF [] fr:=λa ha=>wpQuiet_nil ⟨jD,ha.sub hs,h⟩
theorem bJ(h:gX C fr L op ty v)(hd:Nat.blt d C.N=true)(k:VQ C ops L QF l ((d,v)::fr)):VQ C ops L QF (⟨some d,op,ty,pos,af,none⟩::l) fr:=λa ha=>
 wpQuiet_step λK hK=>by
  rw[av oy];exact⟨v,λw hw=>by unfold Oper.quietAt;rw[h a w ha hw];exact⟨rfl,rfl⟩,hK _ (k _ (ha.put hd v))⟩
theorem iL{f:FuncId}{Dh:Array TypeId}{vs:cQ}{R:oV}(hc:aK C.P f)(he:AN fr ue=some vs)(h:dQ C.P C.B C.w0 f vs L R)(hR:∀r L',R r L'->r=v/\L.Sublist L')(hd:Nat.blt d C.N=true)(k:VQ C ops L QF l ((d,v)::fr)):VQ C ops L QF (⟨some d,.call {callee:=.value (.func f),args:=ue.toArray,argTypes:=Dh},ty,pos,af,none⟩::l) fr:=λa ha=>
 wpQuiet_step λK hK=>by
  rw[av oy];refine⟨v,λw hw=>?_,hK _ (k _ (ha.put hd v))⟩;unfold Oper.quietAt;rw[mz hc (fst:= #[]) (cap:= #[]) rfl,ha.AN he,Array.append_empty,Array.empty_append];exact⟨rfl,(h w hw).mono λe w' ⟨r,L',he,hr,hs⟩=>by obtain⟨rfl,h2⟩:=hR r L' hr;exact⟨he,hs.sub h2⟩⟩
theorem Gr{gu:Nat×Bool}{QQ:Act->Prop}(hw:Region.wanted ⟨dd,op,ty,pos,af,some gu⟩ (yielded ops a.tmps)=true)(h:wpQuiet C.P ops (SL C.B C.w0 L) QQ (⟨dd,op,ty,pos,af,none⟩::l) a):
  wpQuiet C.P ops (SL C.B C.w0 L) QQ (⟨dd,op,ty,pos,af,some gu⟩::l) a:=by
 unfold wpQuiet at h⊢;rw[av oy]at h;rw[av hw];exact h
theorem Gq{gu:Nat×Bool}{QQ:Act->Prop}(hw:Region.wanted ⟨dd,op,ty,pos,af,some gu⟩ (yielded ops a.tmps)=false)(h:wpQuiet C.P ops (SL C.B C.w0 L) QQ l (a.put dd undef)):
  wpQuiet C.P ops (SL C.B C.w0 L) QQ (⟨dd,op,ty,pos,af,some gu⟩::l) a:=by
 unfold wpQuiet;rw[aB (by rw[hw];exact Bool.false_ne_true)];exact h
theorem UH{t:Nat}(hj:(ops[j]?).bind (·.dst)=some t)(ht:look t fr=some (.bool want))(k:VQ C ops L QF (⟨dd,op,ty,pos,af,none⟩::l) fr):
  VQ C ops L QF (⟨dd,op,ty,pos,af,some (j,want)⟩::l) fr:=λa ha=>
 Gr abK (k a ha)
theorem UG{t:Nat}(hj:(ops[j]?).bind (·.dst)=some t)(ht:look t fr=some (.bool b))(hb:(b==want)=false)(hd:Nat.blt d C.N=true)(k:VQ C ops L QF l ((d,undef)::fr)):
  VQ C ops L QF (⟨some d,op,ty,pos,af,some (j,want)⟩::l) fr:=λa ha=>
 Gq amx (k _ (ha.put hd _))
theorem UI{t:Nat}(hj:(ops[j]?).bind (·.dst)=some t)(ht:look t fr=some undef)(hd:Nat.blt d C.N=true)(k:VQ C ops L QF l ((d,undef)::fr)):
  VQ C ops L QF (⟨some d,op,ty,pos,af,some (j,want)⟩::l) fr:=λa ha=>
 Gq (zP hj (ha.at_ _ _ ht)) (k _ (ha.put hd _))
theorem QS{t:Nat}(hj:(ops[j]?).bind (·.dst)=some t)(ht:look t fr=some (.bool b))(hd:Nat.blt d C.N=true)(k1:b=want->VQ C ops L QF (⟨some d,op,ty,pos,af,none⟩::l) ((t,.bool want)::fr))(k2:b= !want->VQ C ops L QF l ((d,undef)::(t,.bool !want)::fr)):
  VQ C ops L QF (⟨some d,op,ty,pos,af,some (j,want)⟩::l) fr:=λa ha=>by
 by_cases hb:b=want
 ·exact Gr ahv (k1 hb a (ha.bool ht hb))
 ·have IW:b= !want:=by cases b<;>cases want<;>simp_all
  exact Gq ahv (k2 IW _ ((ha.bool ht IW).put hd _))
end
theorem jy{QF:Fr->Prop}{t:Nat}[Decidable p](hj:(ops[j]?).bind (·.dst)=some t)(ht:look t fr=some (.bool (decide p)))(hd:Nat.blt d C.N=true)(k1:p->VQ C ops L QF (⟨some d,op,ty,pos,af,none⟩::l) ((t,.bool true)::fr))(k2:¬p->VQ C ops L QF l ((d,undef)::(t,.bool false)::fr)):
  VQ C ops L QF (⟨some d,op,ty,pos,af,some (j,true)⟩::l) fr:=
 QS hj ht hd (λh=>k1 (E0 h)) (λh=>k2 (O7 h))
theorem wi{QF:Fr->Prop}{t:Nat}[Decidable p](hj:(ops[j]?).bind (·.dst)=some t)(ht:look t fr=some (.bool (decide p)))(hd:Nat.blt d C.N=true)(k1:¬p->VQ C ops L QF (⟨some d,op,ty,pos,af,none⟩::l) ((t,.bool false)::fr))(k2:p->VQ C ops L QF l ((d,undef)::(t,.bool true)::fr)):
  VQ C ops L QF (⟨some d,op,ty,pos,af,some (j,false)⟩::l) fr:=
 QS hj ht hd (λh=>k1 (O7 h)) (λh=>k2 (E0 h))
end
end
section
theorem ml{P:Prop}(h:P:=by(simpa using h)):P:=h
theorem ad2:type_of% @Nat.le_of_ble_eq_true:= @Nat.le_of_ble_eq_true
theorem gN:type_of% @List.append_nil:= @List.append_nil
theorem xz:type_of% @decide_eq_decide:= @decide_eq_decide
theorem pK:type_of% @decide_eq_true:= @decide_eq_true
theorem oi:type_of% @decide_eq_false:= @decide_eq_false
theorem nM:type_of% @List.cons_append:= @List.cons_append
theorem kH:type_of% @List.take_append_drop:= @List.take_append_drop
theorem aiU:type_of% @List.drop_eq_getElem_cons:= @List.drop_eq_getElem_cons
theorem zb:type_of% @List.perm_middle:= @List.perm_middle
theorem sJ:type_of% @List.sublist_append_left:= @List.sublist_append_left
theorem Bw{w:World}{e:TypeId}{v:Value}{n m:Nat}{xs ys:cQ}(h:w.ownsRow base e 1 v n xs)(hn:n=m)(hx:xs=ys):w.ownsRow base e 1 v m ys:=by subst hn;subst hx;exact h
def strs(l:fJ):cQ:=l.map λt=>.string ⟨t.toArray⟩
@[simp] theorem alZ(l k:fJ):strs (l++k)=strs l++strs k:=by simp[strs]
@[simp] theorem al0(l:fJ):E (strs l)=E l:=by simp[strs]
theorem afS(l:fJ):∀u∈strs l,u.oneCell'=true:=by
 intro u hu;obtain⟨b,_,rfl⟩:=qd.1 hu;rfl
def ints(k:IntKind)(l:List Int):cQ:=l.map (.int k)
@[simp] theorem alz(k:IntKind)(l r:List Int):ints k (l++r)=ints k l++ints k r:=by simp[ints]
@[simp] theorem jF(k:IntKind)(l:List Int):E (ints k l)=E l:=by simp[ints]
theorem OI(k:IntKind)(l:List Int):∀u∈ints k l,u.oneCell'=true:=by
 intro u hu;obtain⟨b,_,rfl⟩:=qd.1 hu;rfl
theorem bj{x:Int}(h1:-9223372036854775808<=x)(h2:x<=9223372036854775807):IntKind.i64.wrap x=x:=by rw[IntKind.wrap_i64];omega
theorem eQ{x:Int}(h1:0<=x)(h2:x<18446744073709551616):IntKind.u64.wrap x=x:=by
 show x%2^64=x;exact Int.emod_eq_of_lt h1 h2
theorem Gw{x:Int}(h1:0<=x)(h2:x<256):IntKind.u8.wrap x=x:=by
 show x%2^8=x;exact Int.emod_eq_of_lt h1 h2
theorem amb{x:Int}(h1:0<=x)(h2:x<65536):IntKind.u16.wrap x=x:=by
 show x%2^16=x;exact Int.emod_eq_of_lt h1 h2
theorem anC{k:IntKind}{a b:Int}(h:a=b):some (Value.int k a)=some (.int k b):=by rw[h]
section
variable{C:Cx}{Q:Exit->Fr->aN->Prop}{fr jD:Fr}{L L':aN}{cd Kc:Code}{ops:Array Oper}{l:sg}{op:Op}{ty:TypeId}{pos:String}{af:Array Edge}{d:Nat}{v:Value}
variable{x y z:Operand}{k:IntKind}{m n:Int}{f:Ch->aN}{g o:Nat}{bt t e:TypeId}{cs:cQ}
def InJ(J:Fr->aN->Nat->Prop)(n:Nat)(Q:Exit->Fr->aN->Prop):Exit->Fr->aN->Prop
 | .normal,fr,L=>∃n',n'<n/\J fr L n'
 |e,fr,L=>Q e fr L
theorem aw(J:Fr->aN->Nat->Prop)(n0:Nat)(h0:J fr L n0)(round:∀n fr L,J fr L n->VC C cd (InJ J n Q) fr L):VC C (.loop cd) Q fr L:=λa w ha hw=>by
 refine wp_loop_ghost (λn a w=>∃fr L,J fr L n/\pn C.N fr a/\SL C.B C.w0 L w) n0 ⟨fr,L,h0,ha,hw⟩ ?_;rintro n a w ⟨fr,L,hJ,ha,hw⟩;refine wC (round n fr L hJ a w ha hw) λe a w ⟨fr,L,ha,hs,hq⟩=>?_;cases e with
 |normal=>
  obtain⟨n',k1,k2⟩:=hq;exact⟨n',k1,fr,L,k2,ha,hs⟩
 |_=>exact⟨fr,L,ha,hs,hq⟩
theorem aj{J:Fr->aN->Nat->Prop}{n:Nat}(h:∃n',n'<n/\J fr L n'):InJ J n Q .normal fr L:=h
theorem ZT{J:Fr->aN->Nat->Prop}{n:Nat}(h:Q (.exit i) fr L):InJ J n Q (.exit i) fr L:=h
theorem aek{J:Fr->aN->Nat->Prop}{n:Nat}(h:Q .ret fr L):InJ J n Q .ret fr L:=h
theorem aaK(h:Q (.exit i) fr L):ahi C cd Q (.exit i) fr L:=h
theorem agd(h:Q .ret fr L):ahi C cd Q .ret fr L:=h
def InM(J:Fr->aN->Prop)(Q:Exit->Fr->aN->Prop):Exit->Fr->aN->Prop
 | .normal,fr,L=>J fr L
 |e,fr,L=>Q e fr L
theorem dq(J:Fr->aN->Prop)(h1:VC C cd (InM J Q) fr L)(h2:∀fr L,J fr L->VC C Kc Q fr L):VC C (.seq cd Kc) Q fr L:=
 agP λa w ha hw=>wC (h1 a w ha hw) λe a w ⟨fr,L,ha,hs,hq⟩=>by
  cases e with
  |normal=>exact⟨fr,L,ha,hs,h2 _ _ hq⟩
  |_=>exact⟨fr,L,ha,hs,hq⟩
theorem bo{J:Fr->aN->Prop}(h:J fr L):InM J Q .normal fr L:=h
theorem ZF{J:Fr->aN->Prop}(h:Q (.exit i) fr L):InM J Q (.exit i) fr L:=h
theorem ad1{J:Fr->aN->Prop}(h:Q .ret fr L):InM J Q .ret fr L:=h
theorem aiN(hi:Nat.beq i id=false)(h:Q (.exit i) fr L):InB id Q (.exit i) fr L:=ase hi h
theorem cV{f:FuncId}{c:Code}{args:cQ}{R:oV}(hf:P.funcs[f]? =some fn)(N:Nat)(hN:fn.ntmps=N)(hb:fn.body=some c)(hl:Nat.ble (E args) N=true)(fr0:Fr)(hi:Ini N args fr0)(h:VC ⟨P,N,B,w0⟩ c (zT P fn R) fr0 L):dQ P B w0 f args L R:=by
 subst hN;exact aq0 hf hb (ad2 hl) fr0 hi h
inductive Zp:Nat->cQ->br->Fr->Prop where
 |nil {i:Nat} {ue:cQ}:Zp i ue [] []
 |cons {i k:Nat} {a:Value} {ue:cQ} {ks:br} {r:Fr}:Nat.beq k i=true->Zp (i+1) ue ks r->Zp i (a::ue) (k::ks) ((k,a)::r)
 |und {i k:Nat} {ks:br} {r:Fr}:Nat.ble i k=true->Zp i [] ks r->Zp i [] (k::ks) ((k,undef)::r)
theorem Zp.ini{N:Nat}{ue:cQ}{ks:br}{r:Fr}(h:Zp i ue ks r):∀pre:cQ,E pre=i->ks.all (Nat.blt · N)=true->Ini N (pre++ue) r:=by
 induction h with
 |nil=>intro _ _ _;trivial
 | @cons i k a ue ks r hk _ ih=>
  intro pre hp ha;simp only[List.all_cons,Bg]at ha;have e:=wB hk;refine⟨⟨ha.1,?_⟩,?_⟩
  ·rw[e,<-hp];simp[List.getD]
  ·have:=ih (pre++[a]) (by simp[hp]) ha.2;simpa using this
 | @und i k ks r hk _ ih=>
  intro pre hp ha;simp only[List.all_cons,Bg]at ha;have e:=ad2 hk;refine⟨⟨ha.1,?_⟩,ih pre hp ha.2⟩;rw[gN,List.getD,tS aa];rfl
theorem fw{f:FuncId}{c:Code}{args:cQ}{R:oV}{fr0:Fr}(hf:P.funcs[f]? =some fn)(N:Nat)(ks:br)(h:VC ⟨P,N,B,w0⟩ c (zT P fn R) fr0 L)(hN:fn.ntmps=N:=by exact rfl)(hb:fn.body=some c:=by exact rfl)(hl:Nat.ble (E args) N=true:=by exact rfl)(ha:ks.all (Nat.blt · N)=true:=by exact rfl)(hi:Zp 0 args ks fr0:=by repeat (first|exact Zp.nil|(apply Zp.cons;exact rfl)|(apply Zp.und;exact rfl))):dQ P B w0 f args L R:=
 cV hf N hN hb hl fr0 (hi.ini [] rfl ha) h
theorem aQ{f:FuncId}(hf:P.funcs[f]? =some fn)(hn:(fn.name== "runtime.NumGoroutine")=false)(hb:fn.body.isSome=true):aK P f:=by
 obtain⟨c,hc⟩:=Option.isSome_iff_exists.1 hb;exact⟨fn,c,hf,hn,hc⟩
theorem sB{s:aq}(ht:C.P.underlying t=some .string)(h:ev fr x=some (.string ⟨s.toArray⟩))(h2:ev fr y=some (.int k m))(hm:m=(i:Int))(hi:i<E s):gX C fr L (.index t x y) ty (.int .u8 ((s.getD i 0).toNat:Int)):=
 GY ht h h2 hm (by rw[fx hi];simp[List.getD,fx hi])
section
variable{nn c j:Nat}{A:bh}
theorem aJ.len{w:World}{L:aN}{n:Nat}{v:Value}{xs:cQ}(h:aJ B w0 L size v n xs)(hw:SL B w0 L w):E xs=n*size:=by
 obtain⟨_,_,_,_,hl,_⟩:=h w hw;exact hl
theorem l8{b:aq}(hs:qQ C.P t=true)(he:ev fr x=some (.pointer (A.map (·.add (j*1)))))(hb:aJ C.B C.w0 L 1 (.slice A nn c) nn (bv b))(hj:j<nn):gX C fr L (.load t x) ty (.int .u8 ((b.getD j 0).toNat:Int)):=λa w ha hw=>by
 have hl:=hb.len hw;simp at hl;rw[cH]at he;refine al hs he hb aa ?_ a w ha hw;simp[bv,List.getD,fx (show j<E b by omega)]
theorem im{b:fJ}(hs:qQ C.P t=true)(he:ev fr x=some (.pointer (A.map (·.add (j*1)))))(hb:aJ C.B C.w0 L 1 (.slice A nn c) nn (strs b))(hj:j<nn):gX C fr L (.load t x) ty (.string ⟨(b.getD j []).toArray⟩):=λa w ha hw=>by
 have hl:=hb.len hw;simp at hl;rw[cH]at he;refine al hs he hb aa ?_ a w ha hw;simp[strs,List.getD,fx (show j<E b by omega)]
theorem Kh{b:List Int}{kk:IntKind}(hs:qQ C.P t=true)(he:ev fr x=some (.pointer (A.map (·.add (j*1)))))(hb:aJ C.B C.w0 L 1 (.slice A nn c) nn (ints kk b))(hj:j<nn):gX C fr L (.load t x) ty (.int kk (b.getD j 0)):=λa w ha hw=>by
 have hl:=hb.len hw;simp at hl;rw[cH]at he;refine al hs he hb aa ?_ a w ha hw;simp[ints,List.getD,fx (show j<E b by omega)]
end
theorem Ek(T:tc C.P t e 1 bytes zv)(he:ev fr x=some v)(h1:v.oneCell'=true):ra C fr L (.buildSlice t 1 #[(0,x)]) ty (λp L'=>∃A,p= .slice A 1 1/\L'= .own e 1 A 1 1 [v]::L):=λa w ha hw d pos af gg=>by
 obtain⟨i,hi,hz,iy,GF⟩:=T.hi;have hv:v.cells= #[v]:=by cases v<;>simp_all[Value.cells,Value.oneCell']
 have hzs:=T.hz;refine⟨_,w.alloc (.cells #[v] e),_,.inl ?_,⟨some ⟨w.heap.size,0,none⟩,rfl,rfl⟩,hw.gZ (KW w _ none) ⟨rfl,ga _,.inr ⟨_,_,rfl,hw.base,EY w _,aE,rfl,rfl⟩⟩ (.inr ⟨w.heap.size,rfl,ga _⟩)⟩;simp[execOp,Instr.buildSlice,jk T.ht,sizeOf,typeInfo,zeroValue,hi,hz,iy,ha.tmp he,Instr.fill,hv,hzs,newRow];simp[Array.range_succ,Array.range_zero']
theorem cC{d1 d2:Nat}{ty1 ty2:TypeId}{aok aaf:String}{af1 af2:Array Edge}{s:Operand}{A:bh}{n c:Nat}{xs:cQ}(T:tc C.P t e 1 bytes zv)(he:ev fr x=some v)(h1:v.oneCell'=true)(hd1:Nat.blt d1 C.N=true)(Y_:Nat.blt d2 C.N=true)(hs:ev ((d1,.slice none 0 0)::fr) s=some (.slice A n c))(hsn:∀u,ev ((d1,u)::fr) s=ev ((d1,.slice none 0 0)::fr) s)(hl:m9 (.own e 1 A n c xs) L f)(kg:(n+1)*bytes<=140737488355328)(xZ:n+1<=140737488355328)(kk:∀A1 A' c',VL C ops Q l ((d2,.slice A' (n+1) c')::(d1,.slice A1 1 1)::fr) (f (.own e 1 A' (n+1) c' (xs++[v])))):
  VL C ops Q (⟨some d1,.buildSlice t 1 #[(0,x)],ty1,aok,af1,none⟩::⟨some d2,.call {callee:=.builtin .append,args:= #[s,.tmp d1],argTypes:= #[t,t]},ty2,aaf,af2,none⟩::l) fr L:=by
 refine ou (Ek T he h1) hd1 ?_;rintro _ _ ⟨A1,rfl,rfl⟩;refine ou (bB (m:=1) (news:=[v]) T ((hsn _).trans hs) (.tl hl) (yv:=.slice A1 1 1) (by simp[ev,look]) (aJ.own (List.Mem.head _)) (by simp[h1]) kg xZ) Y_ ?_;rintro _ _ ⟨A2,c2,rfl,rfl⟩;intro a w ha hw;exact kk A1 A2 c2 a w ha hw.tail
theorem dG{q:Prop}[Decidable p][Decidable q](h:p↔q):some (Value.bool (decide p))=some (.bool (decide q)):=by rw[xz.2 h]
theorem dT{q:Prop}[Decidable q](h:q):some (Value.bool true)=some (.bool (decide q)):=by rw[pK h]
theorem dS{q:Prop}[Decidable q](h:¬q):some (Value.bool false)=some (.bool (decide q)):=by rw[oi h]
theorem oW{q:Prop}[Decidable q](h:b=true↔q):some (Value.bool b)=some (.bool (decide q)):=by
 cases b
 ·rw[oi ml]
 ·rw[pK ml]
theorem aoX(n d:Nat)(base:Fr)(p:Prop)[Decidable p](hs:Sub fr base)(h1:VL C ops (λe fr L'=>e= .normal/\L'=L/\Sub fr base/\look d fr=some (.bool (decide p))) (l.take n) fr L)(h2:VL C ops Q (l.drop n) ((d,.bool (decide p))::base) L):VL C ops Q l fr L:=λa w ha hw=>by
 have SF:∀(l1 l2:sg) (a:Act) (w:World),wpList C.P ops (λe a w=>e= .normal/\wpList C.P ops (lift C Q) l2 a w) l1 a w->wpList C.P ops (lift C Q) (l1++l2) a w:=by
  intro l1 l2;induction l1 with
  |nil=>intro a w h;exact h.2
  |cons o l1 ih=>
   intro a w h;rw[nM];unfold wpList at h⊢;split
   ·rename_i S3;rw[av S3]at h;rcases h with h|⟨_,_,_,h,_⟩
    ·refine .inl ?_;unfold Oper.wp at h⊢;revert h;generalize (execOp a.eval o).run C.P w=r;intro h;unfold Oper.upon at h⊢;split<;>simp only at h
     ·exact ih _ _ h
     ·exact ih _ _ h
     ·exact ih _ _ h
     ·refine KV h λe w' he=>?_;cases e with
      |returned v=>exact ih _ _ he
      |panicked ch=>cases he.1
      |outgrown=>obtain⟨_,_,h,_⟩:=he;cases h
     ·exact Rows.mono h λv w' he=>ih _ _ he
     ·cases h.1
    ·cases h
   ·rename_i S3;rw[aB S3]at h;exact ih _ _ h
 have:=SF (l.take n) (l.drop n) a w ?_
 ·rwa [kH]at this
 ·have hm:∀(l1:sg) (a:Act) (w:World) {QQ UW:Exit->Act->World->Prop},(∀e a w,QQ e a w->UW e a w)->wpList C.P ops QQ l1 a w->wpList C.P ops UW l1 a w:=by
   intro l1;induction l1 with
   |nil=>intro a w QQ UW hq h;exact hq _ _ _ h
   |cons o l1 ih=>
    intro a w QQ UW hq h;unfold wpList at h⊢;split
    ·rename_i S3;rw[av S3]at h;rcases h with h|⟨h1,a0,w0',h2⟩
     ·refine .inl ?_;unfold Oper.wp at h⊢;revert h;generalize (execOp a.eval o).run C.P w=r;intro h;unfold Oper.upon at h⊢;split<;>simp only at h
      ·exact ih _ _ hq h
      ·exact ih _ _ hq h
      ·exact ih _ _ hq h
      ·refine KV h λe w' he=>?_;cases e with
       |returned v=>exact ih _ _ hq he
       |panicked ch=>exact hq _ _ _ he
       |outgrown=>obtain⟨a1,w1,h⟩:=he;exact⟨a1,w1,hq _ _ _ h⟩
      ·exact Rows.mono h λv w' he=>ih _ _ hq he
      ·exact hq _ _ _ h
     ·exact .inr ⟨h1,a0,w0',hq _ _ _ h2⟩
    ·rename_i S3;rw[aB S3]at h;exact ih _ _ hq h
  refine hm _ _ _ ?_ (h1 a w ha hw);rintro e a w ⟨jD,L',CT,EJ,rfl,rfl,hb,hd⟩;refine⟨rfl,h2 a w ⟨CT.defers,CT.size,λt v ht=>?_⟩ EJ⟩;unfold look at ht;cases yM:Nat.beq d t with
  |true=>
   have:=wB yM;subst this;rw[yM]at ht;simp only[Hg,CZ]at ht;subst ht;exact CT.at_ _ _ hd
  |false=>
   rw[yM]at ht;exact CT.at_ _ _ (hb.look _ _ ht)
theorem UA{base:Fr}{d:Nat}(hb:Sub fr base)(hd:look d fr=some u):VL C ops (λe fr L'=>e= .normal/\L'=L/\Sub fr base/\look d fr=some u) [] fr L:=λa w ha hw=>wpList_nil ⟨fr,L,ha,hw,rfl,rfl,hb,hd⟩
theorem ao0{QF:Fr->Prop}(n d:Nat)(base:Fr)(p:Prop)[Decidable p](hs:Sub fr base)(h1:VQ C ops L (λfr=>Sub fr base/\look d fr=some (.bool (decide p))) (l.take n) fr)(h2:VQ C ops L QF (l.drop n) ((d,.bool (decide p))::base)):VQ C ops L QF l fr:=λa ha=>by
 have SF:∀(l1 l2:sg) (a:Act) {QQ:Act->Prop},wpQuiet C.P ops (SL C.B C.w0 L) (λa=>wpQuiet C.P ops (SL C.B C.w0 L) QQ l2 a) l1 a->wpQuiet C.P ops (SL C.B C.w0 L) QQ (l1++l2) a:=by
  intro l1 l2;induction l1 with
  |nil=>intro a QQ h;exact h
  |cons o l1 ih=>
   intro a QQ h;rw[nM];unfold wpQuiet at h⊢;split
   ·rename_i hw;rw[av hw]at h;exact Oper.quiet_mono (λa h=>ih a h) h
   ·rename_i hw;rw[aB hw]at h;exact ih _ h
 have Ow:∀(l:sg) (a:Act) {QQ UW:Act->Prop},(∀a,QQ a->UW a)->wpQuiet C.P ops (SL C.B C.w0 L) QQ l a->wpQuiet C.P ops (SL C.B C.w0 L) UW l a:=by
  intro l;induction l with
  |nil=>intro a QQ UW hq h;exact hq _ h
  |cons o l ih=>
   intro a QQ UW hq h;unfold wpQuiet at h⊢;split
   ·rename_i hw;rw[av hw]at h;exact Oper.quiet_mono (λa h=>ih a hq h) h
   ·rename_i hw;rw[aB hw]at h;exact ih _ hq h
 have:=SF (l.take n) (l.drop n) a (QQ:=λa'=>∃jD,pn C.N jD a'/\QF jD) (Ow _ _ (λa h=>?_) (h1 a ha))
 ·rwa [kH]at this
 ·obtain⟨jD,CT,hb,hd⟩:=h;refine h2 a ⟨CT.defers,CT.size,λt v ht=>?_⟩;unfold look at ht;cases yM:Nat.beq d t with
  |true=>
   have:=wB yM;subst this;rw[yM]at ht;simp only[Hg,CZ]at ht;subst ht;exact CT.at_ _ _ hd
  |false=>
   rw[yM]at ht;exact CT.at_ _ _ (hb.look _ _ ht)
theorem UF{base:Fr}{d:Nat}(hb:Sub fr base)(hd:look d fr=some u):VQ C ops L (λfr=>Sub fr base/\look d fr=some u) [] fr:=λa ha=>wpQuiet_nil ⟨fr,ha,hb,hd⟩
theorem acA[Decidable p]{xt:TypeId}(h:ev fr x=some (.bool (decide p))):gX C fr L (.unOp .not xt x) ty (.bool (decide (¬p))):=λa w ha hw d pos af g=>by
 have e:(!decide p)=decide (¬p):=by by_cases hp:p<;>simp[hp]
 rw[<-e];exact lf h a w ha hw d pos af g
theorem NF(hz:(C.P.info? e).bind (·.zero)=some zv)(hc:zv.cells=cs.toArray):ra C fr L (.alloc e) ty (λp L'=>∃g,p= .pointer (some ⟨g,0,none⟩)/\L'= .bI g e cs::L):=by
 cases hi:C.P.info? e with
 |none=>rw[hi]at hz;cases hz
 |some i=>
  rw[hi]at hz;exact YP hi hz hc
theorem YD{t:TypeId}{s:aq}(ht:C.P.underlying t=some .string)(h:ev fr x=some (.string ⟨s.toArray⟩)):gX C fr L (.call {callee:=.builtin .len,args:= #[x],argTypes:= #[t]}) ty (.int .i64 (E s:Int)):=by
 have:=Nt (L:=L) (ty:=ty) ht h
 rwa [Dw]at this
theorem aP{α:Type}{l:List α}{k:Nat}(h:k<E l)(d:α):l.take (k+1)=l.take k++[l.getD k d]:=by
 rw[List.take_succ_eq_append_getElem h];simp[List.getD,fx h]
theorem cy{α:Type}{l:List α}{k:Nat}(h:k<E l)(d:α):l.drop k=l.getD k d::l.drop (k+1):=by
 rw[aiU h];simp[List.getD,fx h]
theorem bc{α:Type}{l:List α}{k:Nat}(h:k<E l)(d:α):l.getD k d∈l:=by
 simp[List.getD,fx h]
theorem dQ.Bt{ff:FuncId}{args:cQ}{n:Nat}{xs:cQ}(h:∀w,SL B w0 L w->Calls P ff args.toArray w λe' w'=>∃v,e'= .returned v/\w'.ownsRow w.heap.size e size v n xs/\Below w.heap.size w w'):
  dQ P B w0 ff args L (λr L'=>∃A c,r= .slice A n c/\L'= .own e size A n c xs::L):=λw hw=>(h w hw).mono λe' w' ⟨v,he,ho,hb⟩=>by
 have hg:w.grownBy w' none:=⟨hb.os,hb.tape,hb.output,hb.size,λk hk _=>hb.block k hk⟩
 rcases ho.2 with⟨rfl,rfl⟩|⟨g,cap,cur,rfl,h1,h2,h3,h4,h5,h6⟩
 ·exact⟨_,_,he,⟨none,0,rfl,rfl⟩,hw.gZ hg ⟨ho.1,ga _,.inl rfl⟩ (.inl rfl)⟩
 ·refine⟨_,_,he,⟨_,_,rfl,rfl⟩,hw.gZ hg ⟨ho.1,h3,.inr ⟨g,cur,rfl,iY hw.base h1,h2,h4,h5,h6⟩⟩ ?_⟩;by_cases hc:cap=0
  ·left;simp[Ch.fp,hc]
  ·right;exact⟨g,by simp[Ch.fp,hc],h1⟩
theorem xU{tt:Nat}[Decidable p](hc:look tt fr=some (.bool (decide p)))(ht:p->VC C cd Q ((tt,.bool true)::fr) L)(hf:¬p->VC C Kc Q ((tt,.bool false)::fr) L):VC C (.cond (.tmp tt) cd Kc) Q fr L:=λa w ha hw=>
 aa6 (C:=C) (Q:=Q) (fr:=fr) (c:=.tmp tt) hc (λh a w ha hw=>ht h a w (ha.bool hc (pK h)) hw) (λh a w ha hw=>hf h a w (ha.bool hc (oi h)) hw) a w ha hw
theorem agO{tt:Nat}(hc:look tt fr=some (.bool b))(ht:b=true->VC C cd Q ((tt,.bool true)::fr) L)(hf:b=false->VC C Kc Q ((tt,.bool false)::fr) L):VC C (.cond (.tmp tt) cd Kc) Q fr L:=λa w ha hw=>
 XW (C:=C) (Q:=Q) (fr:=fr) (c:=.tmp tt) hc (λh a w ha hw=>ht h a w (ha.bool hc h) hw) (λh a w ha hw=>hf h a w (ha.bool hc h) hw) a w ha hw
def Wk(L L':aN):Prop:=∃M,L.Perm (L'++M)
theorem Wk.refl(L:aN):Wk L L:=⟨[],by rw[gN]⟩
theorem Wk.c_(h:L.Perm L'):Wk L L':=⟨[],by rwa [gN]⟩
theorem Wk.skip{c:Ch}(h:Wk L L'):Wk (c::L) L':=by
 obtain⟨M,h⟩:=h;exact⟨c::M,(h.cons c).trans (zb.symm)⟩
theorem Wk.s2{c0 c1:Ch}(h:Wk L L'):Wk (c0::c1::L) L':=.skip (.skip h)
theorem Wk.s3{c0 c1 c2:Ch}(h:Wk L L'):Wk (c0::c1::c2::L) L':=.skip (.skip (.skip h))
theorem Wk.s4{c0 c1 c2 c3:Ch}(h:Wk L L'):Wk (c0::c1::c2::c3::L) L':=.skip (.skip (.skip (.skip h)))
theorem Wk.s5{c0 c1 c2 c3 c4:Ch}(h:Wk L L'):Wk (c0::c1::c2::c3::c4::L) L':=.skip (.skip (.skip (.skip (.skip h))))
theorem Wk.s6{c0 c1 c2 c3 c4 c5:Ch}(h:Wk L L'):Wk (c0::c1::c2::c3::c4::c5::L) L':=.skip (.skip (.skip (.skip (.skip (.skip h)))))
theorem Wk.s7{c0 c1 c2 c3 c4 c5 c6:Ch}(h:Wk L L'):Wk (c0::c1::c2::c3::c4::c5::c6::L) L':=.skip (.skip (.skip (.skip (.skip (.skip (.skip h))))))
theorem Wk.s8{c0 c1 c2 c3 c4 c5 c6 c7:Ch}(h:Wk L L'):Wk (c0::c1::c2::c3::c4::c5::c6::c7::L) L':=.skip (.skip (.skip (.skip (.skip (.skip (.skip (.skip h)))))))
theorem Wk.cons{c:Ch}(h:Wk L L'):Wk (c::L) (c::L'):=by
 obtain⟨M,h⟩:=h;exact⟨M,h.cons c⟩
theorem Wk.swap{a b:Ch}(h:Wk (b::a::L) L'):Wk (a::b::L) L':=by
 obtain⟨M,h⟩:=h;exact⟨M,(List.Perm.swap b a L).trans h⟩
theorem Wk.trans{L'':aN}(h:Wk L L')(k:Wk L' L''):Wk L L'':=by
 obtain⟨M,h⟩:=h;obtain⟨N,k⟩:=k;exact⟨N++M,h.trans ((k.append_right M).trans (by rw[bT]))⟩
theorem Wk.sl{w:World}(h:Wk L L')(hs:SL B w0 L w):SL B w0 L' w:=by
 obtain⟨M,h⟩:=h;exact(hs.perm h).sub (sJ _ _)
theorem mM(h:Wk L L')(k:VC C cd Q fr L'):VC C cd Q fr L:=λa w ha hw=>k a w ha (h.sl hw)
theorem au{e:TypeId}{n n' c:Nat}{A:bh}{xs ys:cQ}(hn:n=n')(h:xs=ys)(t:Wk L L'):Wk (Ch.own e size A n c xs::L) (Ch.own e size A n' c ys::L'):=by subst hn;subst h;exact t.cons
theorem bx{g:Nat}{t:TypeId}{xs ys:cQ}(h:xs=ys)(k:Wk L L'):Wk (Ch.bI g t xs::L) (Ch.bI g t ys::L'):=by subst h;exact k.cons
theorem ak{R:oV}{ee:Exit}(hs:Wk L L')(h:zT P fn R ee fr L'):zT P fn R ee fr L:=by
 cases ee<;>first
  |exact h
  |(intro B w0 a w ha hw;exact h B w0 a w ha (hs.sl hw))
abbrev bq(g:Nat):Value:=.pointer (some ⟨g,0,none⟩)
abbrev ah(x:Int):Value:=.int .i64 x
end
end
end Go.Proofs.YtaodmbolhoafcaaGreatDoor
