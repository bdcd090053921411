/- The row of ModelTells: the walk's contract, put into the row's own words. No condition. -/
import Derived.Test.YtolbeecicikoaaaGreatDoorWorkAD
import Derived.Test.YtolbeecicikoaaaGreatDoorWorkAN
import Derived.Test.YtolbeecicikoaaaGreatDoorWorkCA
import Derived.Test.YtolbeecicikoaaaGreatDoorRows
import Derived.Test.YtolbeecicikoaaaGreatDoorCards
import Derived.Test.YtolbeecicikoaaaGreatDoorTie
import Derived.LaidMore
import Derived.Lay
import Derived.SevenTiedAt
set_option linter.unusedSimpArgs false
set_option linter.unusedVariables false
set_option linter.unusedSectionVars false
set_option maxRecDepth 100000
set_option maxHeartbeats 16000000
namespace Go.Proofs.YtolbeecicikoaaaGreatDoor
open Go.ChangeShapes Go.WideShapes Go.ChangeAt Go.RowKit
theorem yG(os:Os)(started:os.Started)(H:Type)(enc:TypeId×Value→H):
  ReturnsInHanded {} Tryz.checked os 3 .any (fun w args=>(Rows.modelTellsSpec.pre enc Tryz.prog Tryz.f3 Rows.modelTellsRow.domain false w args∧laidMetH Tryz.prog Rows.modelTellsRow.laid w)∧sizedMet enc Tryz.prog Tryz.f3 (OpenSpec.ofChange Rows.modelTellsSpec) false w args) (Rows.modelTellsSpec.post enc Tryz.prog Tryz.f3 false true false false):=by
 refine returnsInHanded_of_change_and (C:=Tryz.checked) (X:=fun w _=>laidMetH Tryz.prog Rows.modelTellsRow.laid w) (fun _ _ _ hh h=>h.of_heap hh) own started (by kernel_rfl) Tryz.func3
  (ChangeSpec.witness_shaped (enc:=enc) (C:=Tryz.checked) (os:=os) (X:=fun w _=>laidMetH Tryz.prog Rows.modelTellsRow.laid w) false (World.laidAll Tryz.prog os Rows.modelTellsRow.laid) #[.int .i64 0,.slice none 0 0,.slice none 0 0] 8 (World.laidAll_os _ _ _)
   (World.shaped_of_ZipB (by kernel_rfl) (by kernel_rfl)) (by kernel_rfl) (by kernel_rfl) (by kernel_rfl)
   (by rw[MakeChecks.laidMetH_plain _ _ _ (by kernel_rfl)];exact laidMet_laidAll _ (by kernel_rfl) (by kernel_rfl))) ?_
 intro W base args ds gs before hval0 hW hcnd _ hL _
 have hval:∀(j:Nat) t v,Tryz.f3.params[j]?=some t→args[j]?=some v→Value.okWide Tryz.prog W .any base t v:=hval0
 have hW':=hW
 obtain⟨p,q,hA0,hV,rfl,hfz,hnd⟩:=hW
 have hA:DataW.TrodAll enc Tryz.prog W 0 (fun _=>true) true Tryz.f3.params.toList args.toList ds p:=hA0
 rw[Tryz.params3]at hA hval
 obtain⟨v0,vs0,d0,ds0,p0,q0,hargs,rfl,rfl,h0,r0⟩:=trodAll_cons hA
 obtain⟨v1,vs1,d1,ds1,p1,q1,rfl,rfl,rfl,h1,r1⟩:=trodAll_cons r0
 obtain⟨v2,vs2,d2,ds2,p2,q2,rfl,rfl,rfl,h2,r2⟩:=trodAll_cons r1
 obtain⟨rfl,rfl,rfl⟩:=trodAll_nil r2
 obtain rfl:args= #[v0,v1,v2]:=by cases args;simp_all
 obtain⟨rfl,rfl⟩:=trodVars_none hV
 have lt0:∀x∈p0,x.block<W.heap.size:=by obtain⟨m,hm⟩:=h0;exact DataW.trod_lt m _ _ _ hm
 obtain⟨x0,s0,w0⟩:=aCl (by kernel_rfl) (hval 0 3 v0 rfl rfl) h0
 obtain⟨n0,rfl⟩:=aQP s0
 have lt1:∀x∈p1,x.block<W.heap.size:=by obtain⟨m,hm⟩:=h1;exact DataW.trod_lt m _ _ _ hm
 obtain⟨x1,s1,w1⟩:=aCl (by kernel_rfl) (hval 1 22 v1 rfl rfl) h1
 obtain⟨l1,rfl,ll1⟩:=aJ7 s1
 have lt2:∀x∈p2,x.block<W.heap.size:=by obtain⟨m,hm⟩:=h2;exact DataW.trod_lt m _ _ _ hm
 obtain⟨x2,s2,w2⟩:=aCl (by kernel_rfl) (hval 2 23 v2 rfl rfl) h2
 obtain⟨l2,rfl,ll2⟩:=aQO s2
 refine(aES ((aFU n0 false false l1 l2 [])) (aHr (wX w0 (wX w1 (wX w2 aJt))))).mono fun e W' ⟨he,bel⟩=>?_
 subst he
 exact⟨_,rfl,_,_,_,[],_,[],hW',trodAll_mk1 (shut_bool Tryz.underlying4 _),(trodAll_cons_mk (Below.trod aCp (by kernel_rfl) (zA6 (by kernel_rfl)) h0 bel lt0) (trodAll_cons_mk (Below.trod aCp (by kernel_rfl) (zA6 (by kernel_rfl)) h1 bel lt1) (trodAll_cons_mk (Below.trod aCp (by kernel_rfl) (zA6 (by kernel_rfl)) h2 bel lt2) trodAll_mk0))),rfl,bel.frame _,fun h=>by cases h⟩
theorem aUL{a b:Bool}(h:a=true)(k:b=true):(a&&b)=true:=by rw[h,k];rfl
theorem aDc:Tryz.pinned.checked.prog.funcNamed Rows.modelTellsRow.func=some 3:=by kernel_rfl
theorem aDd:joinedFacts Tryz.pinned.checked.prog 3 Tryz.f3 Rows.modelTellsSpec Rows.modelTellsRow=true:=by
 unfold joinedFacts
 repeat' refine aUL ?_ ?_
 all_goals(as_aux_lemma=>kernel_rfl)
theorem aBs:Rows.ModelTellsSaid:=
 OpenClaim.holds_of_wide 3 Tryz.f3 rfl rfl rfl rfl rfl rfl rfl ⟨rfl,rfl,rfl,rfl,rfl⟩ rfl rfl rfl rfl rfl aDc Tryz.func3 aDd
  (zA6 (by kernel_rfl)) (by unfold Func.isWrapper;first|(rw[zAc (by decide+kernel)];kernel_rfl)|(rw[zAb (by decide+kernel)];exact⟨rfl,rfl⟩))
  (fun os started H enc _=>yG os started H enc)
theorem provedModelTells:Rows.ModelTellsCardSaid:=
 Claim7.holds_tied_plain_at .later [] [.data,.pinned] true (true,"b2ae883fb60271fdb8382cb2df480c0e2f355cd6c703260301395788bbd3e9fc") true aBs (fun _ h=>by cases h) (by kernel_rfl) (fun _ h=>by cases h) modelTells_row_tie rfl ⟨rfl,rfl⟩ (by kernel_rfl) rfl
  (fun f fn hf hfn=>by
   obtain rfl:f=3:=Option.some.inj ((show Tryz.prog.funcNamed "gunwale/gunwalelaw19.ModelTells" =some 3 by kernel_rfl).symm.trans hf)|>.symm
   obtain rfl:fn=Tryz.f3:=(Option.some.inj (Tryz.func3.symm.trans hfn)).symm
   exact⟨by kernel_rfl,fun j t ht=>by
    rw[Tryz.params3]at ht
    have hm:t∈[3,22,23]:=by simpa using zB3 ht
    have hall:([3,22,23].all fun u=> !Tryz.prog.wantsStandIn u)=true:=by kernel_rfl
    exact(show Tryz.prog.wantsStandIn t=false by simpa using zAM.1 hall t hm)⟩)
  (by kernel_rfl)
end Go.Proofs.YtolbeecicikoaaaGreatDoor
