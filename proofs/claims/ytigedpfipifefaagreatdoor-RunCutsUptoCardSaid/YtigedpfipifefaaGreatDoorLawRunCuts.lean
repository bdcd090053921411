/- The row of RunCuts: the walk's contract, put into the row's own words. No condition. -/
import Derived.Test.YtigedpfipifefaaGreatDoorWorkBN
import Derived.Deep.DeepHandedRow
import Derived.Lib.LaidTab
import Derived.Test.YtigedpfipifefaaGreatDoorCards
import Derived.Test.YtigedpfipifefaaGreatDoorTie
import Derived.LaidMore
import Derived.Lay
import Derived.SevenTiedAt
set_option linter.unusedSimpArgs false
set_option linter.unusedVariables false
set_option linter.unusedSectionVars false
set_option maxRecDepth 100000
set_option maxHeartbeats 16000000
namespace Go.Proofs.YtigedpfipifefaaGreatDoor
open Go.ChangeShapes Go.WideShapes Go.ChangeAt Go.RowKit
theorem aJ2:dG Tryz.prog 37=false:=by kernel_rfl
theorem aEv{x:AV}(h:∃ys,x=mkA Tryz.prog 37 ys∧Sh Tryz.prog 37 ys∧(dG Tryz.prog 37=true∨ys.length=1)):∃n,x=.int .u16 n:=by
 obtain⟨ys,rfl,h,_⟩:=h;obtain⟨n,rfl,hw⟩:=qY Tryz.underlying37 h;exact⟨n,by rw[mkA,zAk (by rw[aJ2];decide)];rfl⟩
theorem sT(os:Os)(started:os.Started)(H:Type)(enc:TypeId×Value→H)(F:Stop.Interp):
  ReturnsInHanded {} Tryz.checked os 6 .any ((Rows.OpenSpec.upto Rows.runCutsSpec).preRow enc Tryz.prog Tryz.f6 Rows.runCutsUptoRow.domain false Rows.runCutsUptoRow.laid) (((Rows.OpenSpec.upto Rows.runCutsSpec).at F).post enc Tryz.prog Tryz.f6 false true false false):=by
 refine returnsInHanded_of_row (C:=Tryz.checked) (s:=Rows.OpenSpec.upto Rows.runCutsSpec) own started (by kernel_rfl) Tryz.func6
  (rB (enc:=enc) (C:=Tryz.checked) false (World.laidAll Tryz.prog os Rows.runCutsUptoRow.laid) #[.int .u8 0,.int .u16 0,.slice none 0 0,.int .u16 0] (World.laidAll_os _ _ _)
   (World.shaped_of_ZipB (by kernel_rfl) (by kernel_rfl)) (by kernel_rfl)
   (OpenSpec.preRow_of_cond 8 (x:=([.lit (.int .u8 0),.lit (.int .u16 0),.nil,.lit (.int .u16 0)],[],[])) (by kernel_rfl) (by kernel_rfl) (fun k hk=>by cases hk;kernel_rfl) (by kernel_rfl)
    (by rw[MakeChecks.laidMetH_plain _ _ _ (by kernel_rfl)];exact laidMet_laidAll _ (by kernel_rfl) (by kernel_rfl)))) ?_
 intro W base args ds gs before hval0 hW hcnd hk0 _ hL _ _;have hk:=hk0 _ rfl;have hval:∀(j:Nat) t v,Tryz.f6.params[j]?=some t→args[j]?=some v→Value.okWide Tryz.prog W .any base t v:=hval0;have hW':=hW;obtain⟨p,q,hA0,hV,rfl,hfz,hnd⟩:=hW;have hA:DataW.TrodAll enc Tryz.prog W 0 (fun _=>true) true Tryz.f6.params.toList args.toList ds p:=hA0
 rw[Tryz.params6]at hA hval;obtain⟨v0,vs0,d0,ds0,p0,q0,hargs,rfl,rfl,h0,r0⟩:=trodAll_cons hA;obtain⟨v1,vs1,d1,ds1,p1,q1,rfl,rfl,rfl,h1,r1⟩:=trodAll_cons r0;obtain⟨v2,vs2,d2,ds2,p2,q2,rfl,rfl,rfl,h2,r2⟩:=trodAll_cons r1;obtain⟨v3,vs3,d3,ds3,p3,q3,rfl,rfl,rfl,h3,r3⟩:=trodAll_cons r2;obtain⟨rfl,rfl,rfl⟩:=trodAll_nil r3;obtain rfl:args= #[v0,v1,v2,v3]:=by cases args;simp_all
 obtain⟨rfl,rfl⟩:=trodVars_none hV;have lt0:∀x∈p0,x.block<W.heap.size:=by obtain⟨m,hm⟩:=h0;exact DataW.trod_lt m _ _ _ hm
 obtain⟨x0,s0,w0,q0⟩:=kT (by kernel_rfl) (hval 0 5 v0 rfl rfl) h0
 obtain⟨n0,rfl⟩:=aMm s0;have lt1:∀x∈p1,x.block<W.heap.size:=by obtain⟨m,hm⟩:=h1;exact DataW.trod_lt m _ _ _ hm
 obtain⟨x1,s1,w1,q1⟩:=kT (by kernel_rfl) (hval 1 37 v1 rfl rfl) h1
 obtain⟨n1,rfl⟩:=aEv s1;have lt2:∀x∈p2,x.block<W.heap.size:=by obtain⟨m,hm⟩:=h2;exact DataW.trod_lt m _ _ _ hm
 obtain⟨x2,s2,w2,q2⟩:=kT (by kernel_rfl) (hval 2 22 v2 rfl rfl) h2
 obtain⟨l2,rfl,ll2⟩:=tZ s2;have lt3:∀x∈p3,x.block<W.heap.size:=by obtain⟨m,hm⟩:=h3;exact DataW.trod_lt m _ _ _ hm
 obtain⟨x3,s3,w3,q3⟩:=kT (by kernel_rfl) (hval 3 37 v3 rfl rfl) h3
 obtain⟨n3,rfl⟩:=aEv s3;replace q0:=nC hk (by simp) q0
 replace q1:=nC hk (by simp) q1
 replace q2:=nC hk (by simp) q2
 replace q3:=nC hk (by simp) q3
 have hM:laidMetH Tryz.prog Rows.runCutsUptoRow.laid W:=hL;rw[MakeChecks.laidMetH_plain _ _ _ (by kernel_rfl)]at hM
 have hl:Laid (qZ W):=aHx (rest:=Rows.runCutsUptoRow.laid.tail) hM;refine(rA (aCo n0 n1 n3 false l2 q2 []) (tN (eY w0 (eY w1 (eY w2 (eY w3 wT)))))).mono fun e W' ⟨he,bel⟩=>?_
 subst he;exact⟨_,rfl,_,_,_,[],_,[],hW',trodAll_mk1 (shut_bool Tryz.underlying4 _),(trodAll_cons_mk (Below.trod iR (by kernel_rfl) (zAB (by kernel_rfl)) h0 bel lt0) (trodAll_cons_mk (Below.trod iR (by kernel_rfl) (zAB (by kernel_rfl)) h1 bel lt1) (trodAll_cons_mk (Below.trod iR (by kernel_rfl) (zAB (by kernel_rfl)) h2 bel lt2) (trodAll_cons_mk (Below.trod iR (by kernel_rfl) (zAB (by kernel_rfl)) h3 bel lt3) trodAll_mk0)))),rfl,bel.frame _,fun h=>by cases h⟩
theorem aEu{a b:Bool}(h:a=true)(k:b=true):(a&&b)=true:=by rw[h,k];rfl
theorem aCr:Tryz.pinned.checked.prog.funcNamed Rows.runCutsRow.func=some 6:=by kernel_rfl
theorem aCs:joinedFacts Tryz.pinned.checked.prog 6 Tryz.f6 Rows.runCutsSpec Rows.runCutsRow=true:=by
 unfold joinedFacts;repeat' refine aEu ?_ ?_
 all_goals(as_aux_lemma=>kernel_rfl)
theorem aAF:Rows.RunCutsUptoSaid:=
 OpenClaim.holds_of_cond 6 Tryz.f6 rfl rfl rfl rfl rfl rfl rfl ⟨rfl,rfl,rfl,rfl,rfl⟩ rfl rfl rfl rfl rfl aCr Tryz.func6 aCs
  (zAB (by kernel_rfl)) (by unfold Func.isWrapper;first|(rw[zAp (by decide+kernel)];kernel_rfl)|(rw[zAk (by decide+kernel)];exact⟨rfl,rfl⟩))
  (fun os started H enc _ F=>by rw[OpenClaim.pre_eq_preRow];exact sT os started H enc F)
theorem provedRunCuts:Rows.RunCutsUptoCardSaid:=
 Claim7.holds_tied_plain_at .later [] [.data,.data,.pinned] true (true,"52ad022d9d113faaff7bbc4c4ea3205cbaf45b6c65be99697df0133416ff73fa") true aAF (fun _ h=>by cases h) (by kernel_rfl) (fun _ h=>by cases h) runCutsUpto_row_tie rfl ⟨rfl,rfl⟩ (by kernel_rfl) rfl
  (fun f fn hf hfn=>by
   obtain rfl:f=6:=zBh ((show Tryz.prog.funcNamed "gunwale/gunwalelaw24.RunCuts" =some 6 by kernel_rfl).symm.trans hf)|>.symm
   obtain rfl:fn=Tryz.f6:=(zBh (Tryz.func6.symm.trans hfn)).symm;exact⟨by kernel_rfl,fun j t ht=>by
    rw[Tryz.params6]at ht;have hm:t∈[5,37,22,37]:=by simpa using zBe ht
    have hall:([5,37,22,37].all fun u=> !Tryz.prog.wantsStandIn u)=true:=by kernel_rfl
    exact(show Tryz.prog.wantsStandIn t=false by simpa using zAx.1 hall t hm)⟩)
  (by kernel_rfl)
end Go.Proofs.YtigedpfipifefaaGreatDoor
