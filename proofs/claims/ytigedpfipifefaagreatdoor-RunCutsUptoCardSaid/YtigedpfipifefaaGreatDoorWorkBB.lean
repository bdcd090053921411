/- What the functions of this seat answer (28 of 40). No condition. -/
import Derived.Test.YtigedpfipifefaaGreatDoorWorkAY
set_option linter.unusedSimpArgs false
set_option linter.unusedVariables false
set_option maxRecDepth 100000
set_option maxHeartbeats 16000000
namespace Go.Proofs.YtigedpfipifefaaGreatDoor
theorem lL(r s:Int)(l:List Ord):eD r s l=if lC r s l=true then some (aV r.toNat++(aV s.toNat++iJ l))else none:=rfl
def rW(o:Option Txt):AV:=match o with
 |none=>.tup [.str [],.int .i64 240]
 |some w=>.tup [.str w,.int .i64 0]
theorem aBh(H:AHeap)(a b:ABlk)(k:Nat)(T:Txt)(R:List AV):lP (H++[a,b]) H.length (H.length+1) k T R=H++[.cells 0 (wrC (H.length+1) k T R),.cells (k+1) (bA T)]:=by
 unfold lP;rw[mX,nW];rfl
theorem WR.new(H:AHeap)(R:List AV):WR H.length (H.length+1) 0 [] R (H++[.cells 0 (.osl 1 (H.length+1) 1 0 0 0::R),.cells 1 []]):=
 ⟨by omega,by rw[fU];rfl,by rw[jF];rfl⟩
theorem lD(f:Bool)(r s:Int)(l:List Ord)(hr:r≤9223372036854775807)(hs:s≤9223372036854775807)(ho:∀o∈l,OS o)(hl:l.length≤1048576)(H:AHeap):
  bJ Tryz.prog 10 [.int .i64 r,.int .i64 s,.sl f (l.map eH)] H (rW (eD r s l)):=by
 refine fO Tryz.func10 ?_;iterate 4 first|(refine gS ?_;simp only[go_sem])|refine gA ?_|(refine gD ?_ ?_<;>intro h<;>try exact aD h)|fail
 refine jG (v:=0) (cs:=[.sl true []]) H.length 0 1 (by simp only[go_sem]) rfl ?_
 simp only[go_sem];have hw:=WR.new H [];repeat' first|(refine gS ?_;simp only[go_sem])|refine gA ?_|(refine gD ?_ ?_<;>intro h<;>try exact aD h)|fail
 refine aG (uD f r s l hw (by simp) hr hs ho hl (by simp)) (cO) ?_
 rintro v H' ⟨rfl,k,T,rfl,hT⟩;rw[aBh,lL];unfold wrC;cases hok:lC r s l with
 |false=>
  rw[zAk (by decide)]
  unfold rW;simp only[go_sem];repeat' first|(refine gS ?_;simp only[go_sem])|refine gA ?_|(refine gD ?_ ?_<;>intro h<;>try exact aD h)|fail
  exact dY (.refl _)
 |true=>
  have e:=hT hok;rw[zAJ]at e;rw[zAp rfl,←e];unfold rW;simp only[go_sem];repeat' first|(refine gS ?_;simp only[go_sem])|refine gA ?_|(refine gD ?_ ?_<;>intro h<;>try exact aD h)|fail
  exact dY (.refl _)
end Go.Proofs.YtigedpfipifefaaGreatDoor
