/-
  'WholeRepair': whatever log and stripes: an archive of version 3 that is changed in at most as many chunks of each stripe as there is parity, so that their sums tell it, and in at most one copy of the head, is repaired byte for byte to what it was, and unpacked to the log as it is. No condition but the row's own: the table of the sums as the program's text lays it.
-/
import Derived.Test.YtaodmbolhoafcaaGreatDoorZp15
import Derived.Test.YtaodmbolhoafcaaGreatDoorRows
import Derived.Test.YtaodmbolhoafcaaGreatDoorTie
import Derived.Test.YtaodmbolhoafcaaGreatDoorCards
import Derived.Lib.LaidTab
import Derived.SevenTiedAt
import Derived.LaidLaws
import Derived.Handed
namespace Go.Proofs.YtaodmbolhoafcaaGreatDoor.lawWholeRepair
open Go.ChangeShapes Go.WideShapes Go.ChangeAt Go.RowKit
open Go.ChangeMaps (open_string shut_string)
set_option linter.unusedVariables false
set_option maxRecDepth 20000
theorem walk(w:World)(HT:bM w.heap.size w)(o:aN)(ho:aN.ok o)(vl:Value)(l:List aJ)(hr:Rd w w.heap.size 4 vl l.length (c_ l))(kN:∀x∈l,aJ.ok x)(hm:l.length≤maxLen)(vt:Value)(t:List kB)(hrt:Rd w w.heap.size 2 vt t.length (turns t))(ava:∀x∈t,kB.ok x)(hmt:t.length≤maxLen):
  Calls Tryz.prog 6 #[.agg (aN.cells o).toArray,vl,vt] w fun e w'=>e= .returned (.bool true)∧Below w.heap.size w w':=by
 obtain⟨A0,c0,rfl,rC⟩:=hr.form;obtain⟨A1,c1,rfl,Ly⟩:=hrt.form;have hbo:aM w.heap.size w [] 4 (.slice A0 l.length c0) l.length (c_ l):=aM.in_ hr;have hbt:aM w.heap.size w [] 2 (.slice A1 t.length c1) t.length (turns t):=aM.in_ hrt;exact dU.law (args:=[.agg (aN.cells o).toArray,.slice A0 l.length c0,.slice A1 t.length c1]) (acd HT hbo (fun x hx=>(kN x hx).1) hbt ava)
theorem own:ownKnob Tryz.prog.godebug=none:=by kernel_rfl
theorem laidOut:laidOutB Tryz.prog=true:=by kernel_rfl
theorem avO(xs:List (String×DataW Unit)):xs=xs:=rfl
def shN:String:=match Rows.wholeRepairRow.laid with|x::_=>x.1|[]=> ""
def shZ:List Int:=[0,498536548,997073096,651767980,1994146192,1802195444,1303535960,1342533948,3988292384,4027552580,3604390888,3412177804,2607071920,2262029012,2685067896,3183342108]
theorem atd:Tryz.prog.globalNamed shN=some 0:=by kernel_rfl
theorem avP:(Tryz.prog.globals[0]?).map (·.type)=some 303:=by kernel_rfl
theorem akS:Rows.wholeRepairRow.laid=[(shN,Lib.tabData .u32 shZ)]:=rfl
abbrev shX(w:World):Prop:=laidMet Tryz.prog Rows.wholeRepairRow.laid w
theorem Ye{W:World}(h:shX W)(i:Nat)(hi:i<16):W.cell? ⟨0,i,none⟩=some (.int .u32 (shZ.getD i 0)):=by
 have h2:laidMet Tryz.prog [(shN,Lib.tabData .u32 shZ)] W:=akS▸h;have ht:Lib.TabIs Tryz.prog W shN .u32 shZ:=Lib.tabIs_of_head (rest:=[]) (e:=135) (n:=16) atd avP Tryz.underlying303 Tryz.underlying135 ag ag h2;exact ht.cell atd i hi
theorem apu{W:World}(h:shX W):bM W.heap.size W:=by
 refine aM.in_ ⟨_,_,rfl,Nat.le_refl _,rfl,fun _=>⟨_,rfl,World.block_lt_of_cell? W _ (Ye h 0 ax),fun j u hu=>?_⟩⟩;have hj:j<16:=by
  have:=(List.getElem?_eq_some_iff.1 hu).1;exact this
 rw[QR hj]at hu;injection hu with hu;subst hu;rw[Addr.add_lit];have:=Ye h j hj;rw[show(0:Nat)+j=j by omega,this];have kU:∀i,i<16→shZ.getD i 0=((w9.getD i 0:Nat):Int):=by decide
 rw[kU j hj]
noncomputable def shW(os:Os):World:=
 {World.holding Tryz.prog os ⟨#[],#[],[]⟩with heap:=(World.holding Tryz.prog os ⟨#[],#[],[]⟩).heap.modify 0 fun
  | .cells _ t frozen=>.cells (shZ.map fun z=>Value.int .u32 z).toArray t frozen
  |o=>o}
theorem apt(os:Os)(args:Array Value):shX ((shW os).forCall (fun _ _=>0) ⟨#[],args,[]⟩).memory:=
 laidMet_of_run' 8 ag ag
set_option maxRecDepth 100000 in
theorem lifted(os:Os)(started:os.Started)(H:Type)(enc:TypeId×Value→H):
  ReturnsInHanded {} Tryz.checked os 6 .any (fun w args=>(Rows.wholeRepairSpec.pre enc Tryz.prog Tryz.f6 Rows.wholeRepairRow.domain false w args∧shX w)∧sizedMet enc Tryz.prog Tryz.f6 (OpenSpec.ofChange Rows.wholeRepairSpec) false w args)
   (Rows.wholeRepairSpec.post enc Tryz.prog Tryz.f6 false true false false):=by
 refine returnsInHanded_of_change_and (C:=Tryz.checked) (X:=fun w _=>shX w) (fun _ _ _ hh h=>h.of_heap hh) own started ag Tryz.func6
  (ChangeSpec.witness_at (enc:=enc) (C:=Tryz.checked) (os:=os) (X:=fun w _=>shX w) false (shW os) #[(.agg #[.int .i64 0,.bool false,.int .i64 0,.int .i64 0,.int .i64 0,.int .i64 0]),.slice none 0 0,.slice none 0 0] 8 rfl ag ag ag ag ag (apt os _)) ?_
 intro W base args ds gs before aml hW awe _ hL _;have ajJ:∀(j:Nat) t v,Tryz.f6.params[j]? =some t→args[j]? =some v→Value.okWide Tryz.prog W .any base t v:=aml;have hW':=hW;obtain⟨p,q,hA0,hV,rfl,hfz,hnd⟩:=hW;have hA:DataW.TrodAll enc Tryz.prog W 0 (fun _=>true) true Tryz.f6.params.toList args.toList ds p:=hA0;rw[Tryz.params6]at hA ajJ;obtain⟨v0',vs0,d0,ds0,p0,q0,avZ,rfl,rfl,h0',r0⟩:=trodAll_cons hA;obtain⟨v1',vs1,d1,ds1,p1,q1,rfl,rfl,rfl,S3,r1⟩:=trodAll_cons r0;obtain⟨v2',vs2,d2,ds2,p2,q2,rfl,rfl,rfl,h2',r2⟩:=trodAll_cons r1;obtain⟨rfl,rfl,rfl⟩:=trodAll_nil r2;obtain rfl:args= #[v0',v1',v2']:=by cases args;simp_all
 obtain⟨rfl,rfl⟩:=trodVars_none hV;have k0:=h0';have lt0:∀x∈p0,x.block<W.heap.size:=by obtain⟨m,hm⟩:=k0;exact DataW.trod_lt m _ _ _ hm
 obtain⟨x0,e0,w0⟩:=lQ.arg (w:=W) (aiZ W) k0;obtain rfl:=am9 Tryz.underlying23 (ajJ 0 23 v0' rfl rfl) e0;have k1:=S3;have lt1:∀x∈p1,x.block<W.heap.size:=by obtain⟨m,hm⟩:=k1;exact DataW.trod_lt m _ _ _ hm
 obtain⟨A1,n1,c1,rfl⟩:=okWide_slice Tryz.underlying24 (ajJ 1 24 v1' rfl rfl);obtain⟨⟨u1,L1⟩,e1,uk,ho1,O_⟩:=lQ.arg (I6 Tryz.underlying24 (by kernel_rfl:Tryz.prog.cellsOf 62=4) aa (fun _=>rfl) (ai0 W)) k1;obtain rfl:=Ct A1 n1 c1 rfl e1;have k2:=h2';have lt2:∀x∈p2,x.block<W.heap.size:=by obtain⟨m,hm⟩:=k2;exact DataW.trod_lt m _ _ _ hm
 obtain⟨A2,n2,c2,rfl⟩:=okWide_slice Tryz.underlying45 (ajJ 2 45 v2' rfl rfl);obtain⟨⟨u2,L2⟩,e2,wU,ho2,uj⟩:=lQ.arg (I6 Tryz.underlying45 (by kernel_rfl:Tryz.prog.cellsOf 59=2) aa (fun _=>rfl) (adr W)) k2;obtain rfl:=Ct A2 n2 c2 rfl e2;clear hA0 aml;refine(walk W (apu hL) x0 w0 _ L1 uk ho1 O_ _ L2 wU ho2 uj).mono fun e W' ⟨he,bel⟩=>?_;subst he;exact⟨_,rfl,_,_,_,[],_,[],hW',trodAll_mk1 (shut_bool Tryz.underlying4 _),(trodAll_cons_mk (Below.trod laidOut ag (of_decide_eq_true ag) k0 bel lt0) (trodAll_cons_mk (Below.trod laidOut ag (of_decide_eq_true ag) k1 bel lt1) (trodAll_cons_mk (Below.trod laidOut ag (of_decide_eq_true ag) k2 bel lt2) trodAll_mk0))),rfl,bel.frame _,fun h=>kC⟩
theorem over:Rows.wholeRepairRow.holds Tryz.pinned (OpenSpec.ofChange Rows.wholeRepairSpec):=
 OpenClaim.holds_of_wide 6 Tryz.f6 rfl rfl rfl rfl rfl rfl rfl ⟨rfl,rfl,rfl,rfl,rfl⟩ rfl rfl rfl rfl rfl as3 Tryz.func6 avB avz avA
  (fun os started H enc _=>lifted os started H enc)
theorem proved:Rows.WholeRepairCardSaid:=
 Claim7.holds_tied_plain_at .later [] [.data] true Rows.wholeRepairCard.stood.harness false
  over (fun _ h=>kC) avD (fun _ h=>kC) wholeRepair_row_tie rfl ⟨rfl,rfl⟩ avE rfl
  (fun f fn hf hfn=>by
   obtain rfl:f=6:=(Option.some.inj (as3.symm.trans hf)).symm;obtain rfl:fn=Tryz.f6:=(Option.some.inj (Tryz.func6.symm.trans hfn)).symm;exact⟨avF,fun j t ht=>by
    rw[Tryz.params6]at ht;refine avG ?_;have:=List.mem_of_getElem? (l:=[23,24,45]) (i:=j) (a:=t) (by simpa using ht);exact this⟩)
  avH
#print axioms proved
end Go.Proofs.YtaodmbolhoafcaaGreatDoor.lawWholeRepair
