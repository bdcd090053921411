/- The row of DaemonModel: the walk's contract, put into the row's own words. No condition. -/
import Derived.Test.YtnmamncmpklliaaGreatDoorWorkCA
import Derived.Test.YtnmamncmpklliaaGreatDoorRows
import Derived.Test.YtnmamncmpklliaaGreatDoorCards
import Derived.Test.YtnmamncmpklliaaGreatDoorTie
import Derived.LaidMore
import Derived.Lay
import Derived.SevenTiedAt
set_option linter.unusedSimpArgs false
set_option linter.unusedVariables false
set_option linter.unusedSectionVars false
set_option maxRecDepth 100000
set_option maxHeartbeats 16000000
namespace Go.Proofs.YtnmamncmpklliaaGreatDoor
open Go.Proofs.Tryz
open Go.ChangeShapes Go.WideShapes Go.ChangeAt Go.RowKit
theorem aR8(os:Os)(started:os.Started)(H:Type)(enc:TypeId×Value->H):
  ReturnsInHanded {} checked os 4 .any (λw args=>(Rows.daemonModelSpec.pre enc prog Tryz.f4 Rows.daemonModelRow.domain false w args/\laidMetH prog Rows.daemonModelRow.laid w)/\sizedMet enc prog Tryz.f4 (OpenSpec.ofChange Rows.daemonModelSpec) false w args) (Rows.daemonModelSpec.post enc prog Tryz.f4 false true false false):=by
 refine returnsInHanded_of_change_and (C:=checked) (X:=λw _=>laidMetH prog Rows.daemonModelRow.laid w) (λ_ _ _ V h=>h.of_heap V) own started n2 func4
  (ChangeSpec.witness_shaped (enc:=enc) (C:=checked) (os:=os) (X:=λw _=>laidMetH prog Rows.daemonModelRow.laid w) false (World.laidAll prog os Rows.daemonModelRow.laid) #[.int .u8 0,.slice none 0 0,.string ⟨#[]⟩] 8 (World.laidAll_os _ _ _)
   (World.shaped_of_ZipB n2 n2) n2 n2 n2
   (by rw[MakeChecks.laidMetH_plain _ _ _ n2];exact laidMet_laidAll _ n2 n2)) ?_
 intro W base args bk gs before Z K Q3 _ I _;have J:∀(j:Nat) t v,Tryz.f4.params[j]?=some t->args[j]?=some v->Value.okWide prog W .any base t v:=Z;have z:=K;obtain⟨p,q,Ca,Am,rfl,EU,jn⟩:=K;have O:DataW.TrodAll enc prog W 0 (λ_=>true) true Tryz.f4.params.toList args.toList bk p:=Ca
 rw[params4]at O J;obtain⟨v0,Ty,d0,Qr,nf,wg,Q1,rfl,rfl,aw,br⟩:=trodAll_cons O;obtain⟨v1,Tz,d1,Qs,cq,aP,rfl,rfl,rfl,h1,a6⟩:=trodAll_cons br;obtain⟨v2,aCx,d2,Zu,cT,aR,rfl,rfl,rfl,h2,a8⟩:=trodAll_cons a6;obtain⟨rfl,rfl,rfl⟩:=trodAll_nil a8;obtain rfl:args= #[v0,v1,v2]:=by cases args;simp_all
 obtain⟨rfl,rfl⟩:=trodVars_none Am;have CR:∀x∈nf,x.block<W.heap.size:=by obtain⟨m,hm⟩:=aw;exact DataW.trod_lt m _ _ _ hm
 obtain⟨wv,kT,df⟩:=uw n2 (J 0 5 v0 rfl rfl) aw
 obtain⟨ja,rfl⟩:=K6 kT;have ey:∀x∈cq,x.block<W.heap.size:=by obtain⟨m,hm⟩:=h1;exact DataW.trod_lt m _ _ _ hm
 obtain⟨fY,s1,cP⟩:=uw n2 (J 1 22 v1 rfl rfl) h1
 obtain⟨ca,rfl,Sg⟩:=No s1;have fq:∀x∈cT,x.block<W.heap.size:=by obtain⟨m,hm⟩:=h2;exact DataW.trod_lt m _ _ _ hm
 obtain⟨dW,s2,dE⟩:=uw n2 (J 2 9 v2 rfl rfl) h2
 obtain⟨bo,rfl⟩:=KL s2;have T:laidMetH prog Rows.daemonModelRow.laid W:=I;rw[MakeChecks.laidMetH_plain _ _ _ n2]at T
 have hl:Laid (tH W):=K0 (rest:=Rows.daemonModelRow.laid.tail) T;refine(MZ (aHj ja false ca bo []) (Nb<|ua df (ua cP (ua dE Nz)))).mono λe DI ⟨he,U⟩=>?_
 subst he;exact⟨_,rfl,_,_,_,[],_,[],z,trodAll_mk1<|shut_bool underlying4 _,(trodAll_cons_mk (Below.trod ux n2 (lT n2) aw U CR) (trodAll_cons_mk (Below.trod ux n2 (lT n2) h1 U ey)<|trodAll_cons_mk (Below.trod ux n2 (lT n2) h2 U fq) trodAll_mk0)),rfl,U.frame _,λh=>by cases h⟩
theorem BF{a b:Bool}(h:a=true)(k:b=true):(a&&b)=true:=by rw[h,k];rfl
theorem aDa:Tryz.pinned.checked.prog.funcNamed Rows.daemonModelRow.func=some 4:=n2
theorem aDb:joinedFacts Tryz.pinned.checked.prog 4 Tryz.f4 Rows.daemonModelSpec Rows.daemonModelRow=true:=by
 unfold joinedFacts;repeat' refine BF ?_ ?_
 all_goals(as_aux_lemma=>kernel_rfl)
theorem aC5:Rows.DaemonModelSaid:=
 OpenClaim.holds_of_wide 4 Tryz.f4 rfl rfl rfl rfl rfl rfl rfl ⟨rfl,rfl,rfl,rfl,rfl⟩ rfl rfl rfl rfl rfl aDa func4 aDb
  (lT n2) (by unfold Func.isWrapper;first|(rw[aA (by decide+kernel)];kernel_rfl)|(rw[aj (by decide+kernel)];exact⟨rfl,rfl⟩))
  (λos started H enc _=>aR8 os started H enc)
theorem goes_no {P : Program} (h : (P.funcs.toList.all fun fn => !fn.goes) = true) (c : OpenClaim) (hs : c.start = .entering) : false = c.goesBy P := by
  have h1 : ∀ fn ∈ P.funcs, fn.goes = false := fun fn hm => by simpa using List.all_eq_true.1 h fn (Array.mem_toList_iff.2 hm)
  have h2 : P.funcs.any Func.goes = false := by
    rw [Array.any_eq_false']
    intro fn hm
    rw [h1 fn hm]
    decide
  have h3 : ∀ f, P.goes f = false := fun f => by
    unfold Program.goes
    rw [h2, Bool.and_false, Bool.or_false]
    rw [List.any_eq_false]
    intro g _
    cases hf : P.funcs[g]? with
    | none => simp
    | some fn => simp [h1 fn (Array.mem_of_getElem? hf)]
  unfold OpenClaim.goesBy Program.goesAt Program.goesFrom
  rw [hs]
  cases P.funcNamed c.func with
  | none => rfl
  | some f => simp [h3 f]
theorem goes_all : (Tryz.pinned.checked.prog.funcs.toList.all fun fn => !fn.goes) = true := by kernel_rfl
theorem provedDaemonModel:Rows.DaemonModelCardSaid:=
 Claim7.holds_tied_plain_at .later [] [.data,.data,.pinned] true (true,"31c076e2f65111c219a52b48c19c5d51bf8fd5c0df349b2344d7f754092b6c8c") true aC5 (λ_ h=>by cases h) n2 (λ_ h=>by cases h) daemonModel_row_tie rfl ⟨rfl,rfl⟩ n2 rfl
  (λf fn J U=>by
   obtain rfl:f=4:=qP ((show prog.funcNamed "gunwale/gunwalelaw23.DaemonModel" =some 4 by kernel_rfl).symm.trans J)|>.symm
   obtain rfl:fn=Tryz.f4:=(qP (func4.symm.trans U)).symm;exact⟨n2,λj t ah=>by
    rw[params4]at ah;have hm:t∈[5,22,9]:=by simpa using F9 ah
    have K:([5,22,9].all λu=> !prog.wantsStandIn u)=true:=n2
    exact(show prog.wantsStandIn t=false by simpa using gm.1 K t hm)⟩)
  (goes_no goes_all _ rfl)
end Go.Proofs.YtnmamncmpklliaaGreatDoor
