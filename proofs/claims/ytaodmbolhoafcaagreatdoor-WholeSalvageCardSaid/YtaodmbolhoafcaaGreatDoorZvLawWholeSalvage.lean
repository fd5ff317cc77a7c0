/-
  'WholeSalvage': of an archive of version 2 some of whose blocks are changed, so that they can't be read, all records of the other ones are salvaged, in order, and the others are counted. No condition but the row's own: the table of the sums as the program's text lays it.
-/
import Derived.Test.YtaodmbolhoafcaaGreatDoorZv15
import Derived.Test.YtaodmbolhoafcaaGreatDoorRows
import Derived.Test.YtaodmbolhoafcaaGreatDoorTie
import Derived.Test.YtaodmbolhoafcaaGreatDoorCards
import Derived.Lib.LaidTab
import Derived.SevenTiedAt
import Derived.LaidLaws
import Derived.Handed
namespace Go.Proofs.YtaodmbolhoafcaaGreatDoor.lawWholeSalvage
open Go.ChangeShapes Go.WideShapes Go.ChangeAt Go.RowKit
open Go.ChangeMaps (open_string shut_string)
set_option linter.unusedVariables false
set_option maxRecDepth 20000
theorem walk(w:World)(HT:cK w.heap.size w)(o:aZ)(ho:aZ.ok o)(vl:Value)(l:List aI)(hr:Rd w w.heap.size 4 vl l.length (cD l))(la:∀x∈l,aI.ok x)(hm:l.length≤maxLen)(vt:Value)(t:List mT)(hrt:Rd w w.heap.size 2 vt t.length (turns t))(au1:∀x∈t,mT.ok x)(hmt:t.length≤maxLen):
  Calls Tryz.prog 7 #[.agg (aZ.cells o).toArray,vl,vt] w fun e w'=>e= .returned (.bool true)∧Below w.heap.size w w':=by
 obtain⟨A0,c0,rfl,sG⟩:=hr.form;obtain⟨A1,c1,rfl,Rc⟩:=hrt.form;have hbo:aJ w.heap.size w [] 4 (.slice A0 l.length c0) l.length (cD l):=aJ.in_ hr;have hbt:aJ w.heap.size w [] 2 (.slice A1 t.length c1) t.length (turns t):=aJ.in_ hrt;exact dQ.law (args:=[.agg (aZ.cells o).toArray,.slice A0 l.length c0,.slice A1 t.length c1]) (UK HT hbo (fun x hx=>(la x hx).1) hbt au1)
theorem own:ownKnob Tryz.prog.godebug=none:=by kernel_rfl
theorem laidOut:laidOutB Tryz.prog=true:=by kernel_rfl
theorem avM(xs:List (String×DataW Unit)):xs=xs:=rfl
def shN:String:=match Rows.wholeSalvageRow.laid with|x::_=>x.1|[]=> ""
def shZ:List Int:=[0,498536548,997073096,651767980,1994146192,1802195444,1303535960,1342533948,3988292384,4027552580,3604390888,3412177804,2607071920,2262029012,2685067896,3183342108]
theorem asR:Tryz.prog.globalNamed shN=some 0:=by kernel_rfl
theorem avN:(Tryz.prog.globals[0]?).map (·.type)=some 303:=by kernel_rfl
theorem aj2:Rows.wholeSalvageRow.laid=[(shN,Lib.tabData .u32 shZ)]:=rfl
abbrev shX(w:World):Prop:=laidMet Tryz.prog Rows.wholeSalvageRow.laid w
theorem Xy{W:World}(h:shX W)(i:Nat)(hi:i<16):W.cell? ⟨0,i,none⟩=some (.int .u32 (shZ.getD i 0)):=by
 have h2:laidMet Tryz.prog [(shN,Lib.tabData .u32 shZ)] W:=aj2▸h;have ht:Lib.TabIs Tryz.prog W shN .u32 shZ:=Lib.tabIs_of_head (rest:=[]) (e:=135) (n:=16) asR avN Tryz.underlying303 Tryz.underlying135 ae ae h2;exact ht.cell asR i hi
theorem aos{W:World}(h:shX W):cK W.heap.size W:=by
 refine aJ.in_ ⟨_,_,rfl,Nat.le_refl _,rfl,fun _=>⟨_,rfl,World.block_lt_of_cell? W _ (Xy h 0 aE),fun j u hu=>?_⟩⟩;have hj:j<16:=by
  have:=(List.getElem?_eq_some_iff.1 hu).1;exact this
 rw[Qr hj]at hu;injection hu with hu;subst hu;rw[Addr.add_lit];have:=Xy h j hj;rw[show(0:Nat)+j=j by omega,this];have pF:∀i,i<16→shZ.getD i 0=((w3.getD i 0:Nat):Int):=by decide
 rw[pF j hj]
noncomputable def shW(os:Os):World:=
 {World.holding Tryz.prog os ⟨#[],#[],[]⟩with heap:=(World.holding Tryz.prog os ⟨#[],#[],[]⟩).heap.modify 0 fun
  | .cells _ t frozen=>.cells (shZ.map fun z=>Value.int .u32 z).toArray t frozen
  |o=>o}
theorem aor(os:Os)(args:Array Value):shX ((shW os).forCall (fun _ _=>0) ⟨#[],args,[]⟩).memory:=
 laidMet_of_run' 8 ae ae
set_option maxRecDepth 100000 in
theorem lifted(os:Os)(started:os.Started)(H:Type)(enc:TypeId×Value→H):
  ReturnsInHanded {} Tryz.checked os 7 .any (fun w args=>(Rows.wholeSalvageSpec.pre enc Tryz.prog Tryz.f7 Rows.wholeSalvageRow.domain false w args∧shX w)∧sizedMet enc Tryz.prog Tryz.f7 (OpenSpec.ofChange Rows.wholeSalvageSpec) false w args)
   (Rows.wholeSalvageSpec.post enc Tryz.prog Tryz.f7 false true false false):=by
 refine returnsInHanded_of_change_and (C:=Tryz.checked) (X:=fun w _=>shX w) (fun _ _ _ hh h=>h.of_heap hh) own started ae Tryz.func7
  (ChangeSpec.witness_at (enc:=enc) (C:=Tryz.checked) (os:=os) (X:=fun w _=>shX w) false (shW os) #[(.agg #[.int .i64 0,.bool false,.int .i64 0,.int .i64 0,.int .i64 0,.int .i64 0]),.slice none 0 0,.slice none 0 0] 8 rfl ae ae ae ae ae (aor os _)) ?_
 intro W base args ds gs before aly hW awn _ hL _;have aiK:∀(j:Nat) t v,Tryz.f7.params[j]? =some t→args[j]? =some v→Value.okWide Tryz.prog W .any base t v:=aly;have hW':=hW;obtain⟨p,q,hA0,hV,rfl,hfz,hnd⟩:=hW;have hA:DataW.TrodAll enc Tryz.prog W 0 (fun _=>true) true Tryz.f7.params.toList args.toList ds p:=hA0;rw[Tryz.params7]at hA aiK;obtain⟨v0',vs0,d0,ds0,p0,q0,avY,rfl,rfl,h0',r0⟩:=trodAll_cons hA;obtain⟨v1',vs1,d1,ds1,p1,q1,rfl,rfl,rfl,Su,r1⟩:=trodAll_cons r0;obtain⟨v2',vs2,d2,ds2,p2,q2,rfl,rfl,rfl,h2',r2⟩:=trodAll_cons r1;obtain⟨rfl,rfl,rfl⟩:=trodAll_nil r2;obtain rfl:args= #[v0',v1',v2']:=by cases args;simp_all
 obtain⟨rfl,rfl⟩:=trodVars_none hV;have k0:=h0';have lt0:∀x∈p0,x.block<W.heap.size:=by obtain⟨m,hm⟩:=k0;exact DataW.trod_lt m _ _ _ hm
 obtain⟨x0,e0,w0⟩:=lE.arg (w:=W) (ahZ W) k0;obtain rfl:=amk Tryz.underlying23 (aiK 0 23 v0' rfl rfl) e0;have k1:=Su;have lt1:∀x∈p1,x.block<W.heap.size:=by obtain⟨m,hm⟩:=k1;exact DataW.trod_lt m _ _ _ hm
 obtain⟨A1,n1,c1,rfl⟩:=okWide_slice Tryz.underlying24 (aiK 1 24 v1' rfl rfl);obtain⟨⟨u1,L1⟩,e1,uG,ho1,zZ⟩:=lE.arg (Ir Tryz.underlying24 (by kernel_rfl:Tryz.prog.cellsOf 62=4) aa (fun _=>rfl) (ah0 W)) k1;obtain rfl:=Cb A1 n1 c1 rfl e1;have k2:=h2';have lt2:∀x∈p2,x.block<W.heap.size:=by obtain⟨m,hm⟩:=k2;exact DataW.trod_lt m _ _ _ hm
 obtain⟨A2,n2,c2,rfl⟩:=okWide_slice Tryz.underlying45 (aiK 2 45 v2' rfl rfl);obtain⟨⟨u2,L2⟩,e2,z6,ho2,oh⟩:=lE.arg (Ir Tryz.underlying45 (by kernel_rfl:Tryz.prog.cellsOf 59=2) aa (fun _=>rfl) (acx W)) k2;obtain rfl:=Cb A2 n2 c2 rfl e2;clear hA0 aly;refine(walk W (aos hL) x0 w0 _ L1 uG ho1 zZ _ L2 z6 ho2 oh).mono fun e W' ⟨he,bel⟩=>?_;subst he;exact⟨_,rfl,_,_,_,[],_,[],hW',trodAll_mk1 (shut_bool Tryz.underlying4 _),(trodAll_cons_mk (Below.trod laidOut ae (of_decide_eq_true ae) k0 bel lt0) (trodAll_cons_mk (Below.trod laidOut ae (of_decide_eq_true ae) k1 bel lt1) (trodAll_cons_mk (Below.trod laidOut ae (of_decide_eq_true ae) k2 bel lt2) trodAll_mk0))),rfl,bel.frame _,fun h=>jB⟩
theorem over:Rows.wholeSalvageRow.holds Tryz.pinned (OpenSpec.ofChange Rows.wholeSalvageSpec):=
 OpenClaim.holds_of_wide 7 Tryz.f7 rfl rfl rfl rfl rfl rfl rfl ⟨rfl,rfl,rfl,rfl,rfl⟩ rfl rfl rfl rfl rfl asA Tryz.func7 avy avw avx
  (fun os started H enc _=>lifted os started H enc)
theorem proved:Rows.WholeSalvageCardSaid:=
 Claim7.holds_tied_plain_at .later [] [.data] true Rows.wholeSalvageCard.stood.harness false
  over (fun _ h=>jB) avz (fun _ h=>jB) wholeSalvage_row_tie rfl ⟨rfl,rfl⟩ avA rfl
  (fun f fn hf hfn=>by
   obtain rfl:f=7:=(Option.some.inj (asA.symm.trans hf)).symm;obtain rfl:fn=Tryz.f7:=(Option.some.inj (Tryz.func7.symm.trans hfn)).symm;exact⟨avB,fun j t ht=>by
    rw[Tryz.params7]at ht;refine avC ?_;have:=List.mem_of_getElem? (l:=[23,24,45]) (i:=j) (a:=t) (by simpa using ht);exact this⟩)
  avD
#print axioms proved
end Go.Proofs.YtaodmbolhoafcaaGreatDoor.lawWholeSalvage
