/-
  'WholeRound': whatever log, version and options that may be: what is packed is unpacked to just this log, this version, these options, and packed again it is byte for byte the same. No condition but the row's own: the table of the sums as the program's text lays it.
-/
import Derived.Test.YtaodmbolhoafcaaGreatDoorZr15
import Derived.Test.YtaodmbolhoafcaaGreatDoorRows
import Derived.Test.YtaodmbolhoafcaaGreatDoorTie
import Derived.Test.YtaodmbolhoafcaaGreatDoorCards
import Derived.Lib.LaidTab
import Derived.SevenTiedAt
import Derived.LaidLaws
import Derived.Handed
namespace Go.Proofs.YtaodmbolhoafcaaGreatDoor.lawWholeRound
open Go.ChangeShapes Go.WideShapes Go.ChangeAt Go.RowKit
open Go.ChangeMaps (open_string shut_string)
set_option linter.unusedVariables false
set_option maxRecDepth 20000
theorem walk(w:World)(HT:bK w.heap.size w)(v:Int)(hv:-9223372036854775808≤v∧v≤9223372036854775807)(o:aO)(ho:aO.ok o)(vl:Value)(l:List aH)(hr:Rd w w.heap.size 4 vl l.length (cU l))(kT:∀x∈l,aH.ok x)(hm:l.length≤maxLen):
  Calls Tryz.prog 3 #[.int .i64 v,.agg (aO.cells o).toArray,vl] w fun e w'=>e= .returned (.bool true)∧Below w.heap.size w w':=by
 obtain⟨A0,c0,rfl,qO⟩:=hr.form;have hbo:aL w.heap.size w [] 4 (.slice A0 l.length c0) l.length (cU l):=aL.in_ hr;exact dP.law (args:=[.int .i64 v,.agg (aO.cells o).toArray,.slice A0 l.length c0]) (age HT hbo (fun x hx=>(kT x hx).1))
theorem own:ownKnob Tryz.prog.godebug=none:=by kernel_rfl
theorem laidOut:laidOutB Tryz.prog=true:=by kernel_rfl
theorem ato(xs:List (String×DataW Unit)):xs=xs:=rfl
def shN:String:=match Rows.wholeRoundRow.laid with|x::_=>x.1|[]=> ""
def shZ:List Int:=[0,498536548,997073096,651767980,1994146192,1802195444,1303535960,1342533948,3988292384,4027552580,3604390888,3412177804,2607071920,2262029012,2685067896,3183342108]
theorem aq2:Tryz.prog.globalNamed shN=some 0:=by kernel_rfl
theorem atp:(Tryz.prog.globals[0]?).map (·.type)=some 303:=by kernel_rfl
theorem aiZ:Rows.wholeRoundRow.laid=[(shN,Lib.tabData .u32 shZ)]:=rfl
abbrev shX(w:World):Prop:=laidMet Tryz.prog Rows.wholeRoundRow.laid w
theorem Wz{W:World}(h:shX W)(i:Nat)(hi:i<16):W.cell? ⟨0,i,none⟩=some (.int .u32 (shZ.getD i 0)):=by
 have h2:laidMet Tryz.prog [(shN,Lib.tabData .u32 shZ)] W:=aiZ▸h;have ht:Lib.TabIs Tryz.prog W shN .u32 shZ:=Lib.tabIs_of_head (rest:=[]) (e:=135) (n:=16) aq2 atp Tryz.underlying303 Tryz.underlying135 ag ag h2;exact ht.cell aq2 i hi
theorem anu{W:World}(h:shX W):bK W.heap.size W:=by
 refine aL.in_ ⟨_,_,rfl,Nat.le_refl _,rfl,fun _=>⟨_,rfl,World.block_lt_of_cell? W _ (Wz h 0 aA),fun j u hu=>?_⟩⟩;have hj:j<16:=by
  have:=(List.getElem?_eq_some_iff.1 hu).1;exact this
 rw[Pr hj]at hu;injection hu with hu;subst hu;rw[Addr.add_lit];have:=Wz h j hj;rw[show(0:Nat)+j=j by omega,this];have mA:∀i,i<16→shZ.getD i 0=((yS.getD i 0:Nat):Int):=by decide
 rw[mA j hj]
noncomputable def shW(os:Os):World:=
 {World.holding Tryz.prog os ⟨#[],#[],[]⟩with heap:=(World.holding Tryz.prog os ⟨#[],#[],[]⟩).heap.modify 0 fun
  | .cells _ t frozen=>.cells (shZ.map fun z=>Value.int .u32 z).toArray t frozen
  |o=>o}
theorem ant(os:Os)(args:Array Value):shX ((shW os).forCall (fun _ _=>0) ⟨#[],args,[]⟩).memory:=
 laidMet_of_run' 8 ag ag
set_option maxRecDepth 100000 in
theorem lifted(os:Os)(started:os.Started)(H:Type)(enc:TypeId×Value→H):
  ReturnsInHanded {} Tryz.checked os 3 .any (fun w args=>(Rows.wholeRoundSpec.pre enc Tryz.prog Tryz.f3 Rows.wholeRoundRow.domain false w args∧shX w)∧sizedMet enc Tryz.prog Tryz.f3 (OpenSpec.ofChange Rows.wholeRoundSpec) false w args)
   (Rows.wholeRoundSpec.post enc Tryz.prog Tryz.f3 false true false false):=by
 refine returnsInHanded_of_change_and (C:=Tryz.checked) (X:=fun w _=>shX w) (fun _ _ _ hh h=>h.of_heap hh) own started ag Tryz.func3
  (ChangeSpec.witness_at (enc:=enc) (C:=Tryz.checked) (os:=os) (X:=fun w _=>shX w) false (shW os) #[.int .i64 0,(.agg #[.int .i64 0,.bool false,.int .i64 0,.int .i64 0,.int .i64 0,.int .i64 0]),.slice none 0 0] 8 rfl ag ag ag ag ag (ant os _)) ?_
 intro W base args ds gs before akl hW atN _ hL _;have ahQ:∀(j:Nat) t v,Tryz.f3.params[j]? =some t→args[j]? =some v→Value.okWide Tryz.prog W .any base t v:=akl;have hW':=hW;obtain⟨p,q,hA0,hV,rfl,hfz,hnd⟩:=hW;have hA:DataW.TrodAll enc Tryz.prog W 0 (fun _=>true) true Tryz.f3.params.toList args.toList ds p:=hA0;rw[Tryz.params3]at hA ahQ;obtain⟨v0',vs0,d0,ds0,p0,q0,atz,rfl,rfl,h0',r0⟩:=trodAll_cons hA;obtain⟨v1',vs1,d1,ds1,p1,q1,rfl,rfl,rfl,Rq,r1⟩:=trodAll_cons r0;obtain⟨v2',vs2,d2,ds2,p2,q2,rfl,rfl,rfl,h2',r2⟩:=trodAll_cons r1;obtain⟨rfl,rfl,rfl⟩:=trodAll_nil r2;obtain rfl:args= #[v0',v1',v2']:=by cases args;simp_all
 obtain⟨rfl,rfl⟩:=trodVars_none hV;have k0:=h0';have lt0:∀x∈p0,x.block<W.heap.size:=by obtain⟨m,hm⟩:=k0;exact DataW.trod_lt m _ _ _ hm
 obtain⟨a0,rfl,hd0,RS,w0⟩:=open_int Tryz.underlying3 (ahQ 0 3 v0' rfl rfl) h0';have k1:=Rq;have lt1:∀x∈p1,x.block<W.heap.size:=by obtain⟨m,hm⟩:=k1;exact DataW.trod_lt m _ _ _ hm
 obtain⟨x1,e1,w1⟩:=nr.arg (w:=W) (ag9 W) k1;obtain rfl:=ak_ Tryz.underlying23 (ahQ 1 23 v1' rfl rfl) e1;have k2:=h2';have lt2:∀x∈p2,x.block<W.heap.size:=by obtain⟨m,hm⟩:=k2;exact DataW.trod_lt m _ _ _ hm
 obtain⟨A2,n2,c2,rfl⟩:=okWide_slice Tryz.underlying24 (ahQ 2 24 v2' rfl rfl);obtain⟨⟨u2,L2⟩,e2,vZ,ho2,vC⟩:=nr.arg (XS Tryz.underlying24 (by kernel_rfl:Tryz.prog.cellsOf 62=4) aa (fun _=>rfl) (ag_ W)) k2;obtain rfl:=MC A2 n2 c2 rfl e2;clear hA0 akl;refine(walk W (anu hL) a0 (bounds_i64 w0) x1 w1 _ L2 vZ ho2 vC).mono fun e W' ⟨he,bel⟩=>?_;subst he;exact⟨_,rfl,_,_,_,[],_,[],hW',trodAll_mk1 (shut_bool Tryz.underlying4 _),(trodAll_cons_mk (Below.trod laidOut ag (of_decide_eq_true ag) k0 bel lt0) (trodAll_cons_mk (Below.trod laidOut ag (of_decide_eq_true ag) k1 bel lt1) (trodAll_cons_mk (Below.trod laidOut ag (of_decide_eq_true ag) k2 bel lt2) trodAll_mk0))),rfl,bel.frame _,fun h=>jY⟩
theorem over:Rows.wholeRoundRow.holds Tryz.pinned (OpenSpec.ofChange Rows.wholeRoundSpec):=
 OpenClaim.holds_of_wide 3 Tryz.f3 rfl rfl rfl rfl rfl rfl rfl ⟨rfl,rfl,rfl,rfl,rfl⟩ rfl rfl rfl rfl rfl aqR Tryz.func3 atb as' ata
  (fun os started H enc _=>lifted os started H enc)
theorem proved:Rows.WholeRoundCardSaid:=
 Claim7.holds_tied_plain_at .later [] [.data] true Rows.wholeRoundCard.stood.harness false
  over (fun _ h=>jY) atd (fun _ h=>jY) wholeRound_row_tie rfl ⟨rfl,rfl⟩ ate rfl
  (fun f fn hf hfn=>by
   obtain rfl:f=3:=(Option.some.inj (aqR.symm.trans hf)).symm;obtain rfl:fn=Tryz.f3:=(Option.some.inj (Tryz.func3.symm.trans hfn)).symm;exact⟨atf,fun j t ht=>by
    rw[Tryz.params3]at ht;refine atg ?_;have:=List.mem_of_getElem? (l:=[3,23,24]) (i:=j) (a:=t) (by simpa using ht);exact this⟩)
  ath
#print axioms proved
end Go.Proofs.YtaodmbolhoafcaaGreatDoor.lawWholeRound
