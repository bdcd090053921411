/- What the functions of this seat answer (9 of 40). No condition. -/
import Derived.Test.YtigedpfipifefaaGreatDoorWorkAD
import Derived.Test.YtigedpfipifefaaGreatDoorWorkAF
set_option linter.unusedSimpArgs false
set_option linter.unusedVariables false
set_option maxRecDepth 100000
set_option maxHeartbeats 16000000
namespace Go.Proofs.YtigedpfipifefaaGreatDoor
theorem aAZ(b:UInt8):b.toNat.toUInt8=b:=by simp
theorem wW(s:List UInt8)(b:Int)(H:AHeap):FnX Tryz.prog 230 [.str s,.int .u8 b] H (.int .i64 (Lib.countByte s b.toNat.toUInt8)):=
 aIX Tryz.func230 (by kernel_rfl) (by kernel_rfl) (by kernel_rfl) (by kernel_rfl) s b H
theorem wX(s:List UInt8)(b:Int)(H:AHeap):FnX Tryz.prog 309 [.str s,.int .u8 b] H (.int .i64 (Lib.indexByte s b.toNat.toUInt8)):=
 aIY Tryz.func309 (by kernel_rfl) (by kernel_rfl) (by kernel_rfl) (by kernel_rfl) s b H
theorem aDu(s:List UInt8)(b:UInt8)(H:AHeap):bJ Tryz.prog 188 [.str s,.str [b]] H (.int .i64 (Lib.countByte s b)):=by
 refine fO Tryz.func188 ?_;repeat' first|((first|refine tI (wW _ _ _) ?_|refine tJ (wW _ _ _) ?_|refine gS ?_);simp only[go_sem])|refine gA ?_|(refine gD ?_ ?_<;>intro h<;>try exact aD h)|fail
 rw[aAZ];exact cU (.refl _)
theorem aBI(s:List UInt8)(b:UInt8)(H:AHeap):bJ Tryz.prog 272 [.str s,.int .u8 b.toNat] H (.int .i64 (Lib.indexByte s b)):=by
 refine fO Tryz.func272 ?_;repeat' first|((first|refine tI (wX _ _ _) ?_|refine tJ (wX _ _ _) ?_|refine gS ?_);simp only[go_sem])|refine gA ?_|(refine gD ?_ ?_<;>intro h<;>try exact aD h)|fail
 rw[aAZ];exact cU (.refl _)
theorem aBJ(s:List UInt8)(b:UInt8)(H:AHeap):bJ Tryz.prog 231 [.str s,.str [b]] H (.int .i64 (Lib.indexByte s b)):=by
 refine fO Tryz.func231 ?_;repeat' first|((first|refine gQ (aBI _ _) ?_|refine gS ?_);simp only[go_sem])|refine gA ?_|(refine gD ?_ ?_<;>intro h<;>try exact aD h)|fail
 ·have e:[b]=s:=by simpa using h
  subst e;refine cU (.of ?_);rw[Lib.indexByte,zAp (by simp)]
 ·exact cU (.refl _)
theorem aDv(s:List UInt8)(b:UInt8)(H:AHeap):bJ Tryz.prog 189 [.str s,.str [b]] H (.int .i64 (Lib.indexByte s b)):=by
 refine fO Tryz.func189 ?_;repeat' first|((first|refine gQ (aBJ _ _) ?_|refine gS ?_);simp only[go_sem])|refine gA ?_|(refine gD ?_ ?_<;>intro h<;>try exact aD h)|fail
 exact cU (.refl _)
def sJ(s:List UInt8)(b:UInt8):AV:=match s with
 |[]=>.tup [.str [],.bool false]
 |c::l=>if c=b then .tup [.str l,.bool true]else .tup [.str (c::l),.bool false]
theorem aDw(s:List UInt8)(b:UInt8)(H:AHeap):bJ Tryz.prog 186 [.str s,.str [b]] H (.bool (decide (s.head?=some b))):=by
 refine fO Tryz.func186 ?_;cases s with
 |nil=>
  repeat' first|(refine gS ?_;simp only[go_sem])|refine gA ?_|(refine gD ?_ ?_<;>intro h<;>try exact aD h)|fail
  exact cU (.refl _)
 |cons c l=>
  repeat' first|(refine gS ?_;simp only[go_sem])|refine gA ?_|(refine gD ?_ ?_<;>intro h<;>try exact aD h)|fail
  have e1:decide ((1:Int)≤((l.length+1:Nat):Int))=true:=dT;have e2:decide ([c]=[b])=decide ((c::l).head?=some b):=by simp
  refine cU (.of ?_);rw[←e2];exact zA5 AV.bool (by rw[show((1:Nat):Int)=(1:Int)from rfl,e1,zAE])
theorem aDx(s:List UInt8)(b:UInt8)(H:AHeap):bJ Tryz.prog 156 [.str s,.str [b]] H (sJ s b):=by
 refine fO Tryz.func156 ?_;have hp:=aDw s b;cases s with
 |nil=>
  repeat' first|(refine gS ?_;simp only[go_sem])|refine gA ?_|(refine gD ?_ ?_<;>intro h<;>try exact aD h)|fail
  exact cU (.refl _)
 |cons c l=>
  by_cases h:c=b
  ·rw[zAg (by rw[h];rfl)]at hp
   rw[sJ,zAp h];repeat' first|(refine gS ?_;simp only[go_sem])|refine gA ?_|(refine gD ?_ ?_<;>intro h<;>try exact aD h)|fail
   exact cU (.refl _)
  ·rw[zAh (by simp[h])]at hp
   rw[sJ,zAk h];repeat' first|(refine gS ?_;simp only[go_sem])|refine gA ?_|(refine gD ?_ ?_<;>intro h<;>try exact aD h)|fail
   exact cU (.refl _)
theorem aI8(s:List UInt8)(b:UInt8)(H:AHeap):bJ Tryz.prog 107 [.str s,.str [b]] H (sJ s b):=by
 refine fO Tryz.func107 ?_;have hp:=aDx s b;cases s with
 |nil=>
  simp only[sJ]at hp ⊢;repeat' first|(refine gS ?_;simp only[go_sem])|refine gA ?_|(refine gD ?_ ?_<;>intro h<;>try exact aD h)|fail
  exact cU (.refl _)
 |cons c l=>
  by_cases h:c=b
  ·simp only[sJ,zAp h]at hp ⊢;repeat' first|(refine gS ?_;simp only[go_sem])|refine gA ?_|(refine gD ?_ ?_<;>intro h<;>try exact aD h)|fail
   exact cU (.refl _)
  ·simp only[sJ,zAk h]at hp ⊢;repeat' first|(refine gS ?_;simp only[go_sem])|refine gA ?_|(refine gD ?_ ?_<;>intro h<;>try exact aD h)|fail
   exact cU (.refl _)
end Go.Proofs.YtigedpfipifefaaGreatDoor
