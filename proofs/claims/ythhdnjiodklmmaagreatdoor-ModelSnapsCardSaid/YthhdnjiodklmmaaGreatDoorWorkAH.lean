/- The texts 8 of 51 beneath the rows of this seat (joined by program): the abstract machine, and what the functions answer. No condition. -/
import Derived.Test.YthhdnjiodklmmaaGreatDoorWorkAD
import Derived.Test.YthhdnjiodklmmaaGreatDoorWorkAE
set_option linter.unusedSimpArgs false
set_option linter.unusedVariables false
set_option linter.unusedSectionVars false
/- What the library's functions of strings answer, at a separator of one byte. No condition. -/
namespace Go.Proofs.YthhdnjiodklmmaaGreatDoor
open Go Go.Aw Go.Gw
set_option linter.unusedSimpArgs false
set_option maxRecDepth 20000
set_option maxHeartbeats 2000000
theorem aFJ(b:UInt8):b.toNat.toUInt8=b:=by simp
theorem aDc(s:List UInt8)(b:Int)(H:AHeap):FnX Tryz.prog 245 [.str s,.int .u8 b] H (.int .i64 (Lib.countByte s b.toNat.toUInt8)):=
 aQd Tryz.func245 (by kernel_rfl) (by kernel_rfl) (by kernel_rfl) (by kernel_rfl) s b H
theorem aDd(s:List UInt8)(b:Int)(H:AHeap):FnX Tryz.prog 254 [.str s,.int .u8 b] H (.int .i64 (Lib.indexByte s b.toNat.toUInt8)):=
 aQe Tryz.func254 (by kernel_rfl) (by kernel_rfl) (by kernel_rfl) (by kernel_rfl) s b H
theorem aIY(s:List UInt8)(b:UInt8)(H:AHeap):cJ Tryz.prog 230 [.str s,.str [b]] H (.int .i64 (Lib.countByte s b)):=by
 refine aL Tryz.func230 rfl (Nat.le_of_ble_eq_true rfl) ?_
 repeat' first|((first|refine aBG (aDc _ _ _) ?_|refine aBH (aDc _ _ _) ?_|refine gS ?_);simp only[go_sem])|refine gA ?_|(refine gD (fun h=>?_) (fun h=>?_)<;>try exact aA h)|fail
 rw[aFJ]
 exact aY (by simp only[go_sem]) (.refl _)
theorem wJ(s:List UInt8)(b:UInt8)(H:AHeap):cJ Tryz.prog 250 [.str s,.int .u8 b.toNat] H (.int .i64 (Lib.indexByte s b)):=by
 refine aL Tryz.func250 rfl (Nat.le_of_ble_eq_true rfl) ?_
 repeat' first|((first|refine aBG (aDd _ _ _) ?_|refine aBH (aDd _ _ _) ?_|refine gS ?_);simp only[go_sem])|refine gA ?_|(refine gD (fun h=>?_) (fun h=>?_)<;>try exact aA h)|fail
 rw[aFJ]
 exact aY (by simp only[go_sem]) (.refl _)
theorem wK(s:List UInt8)(b:UInt8)(H:AHeap):cJ Tryz.prog 246 [.str s,.str [b]] H (.int .i64 (Lib.indexByte s b)):=by
 refine aL Tryz.func246 rfl (Nat.le_of_ble_eq_true rfl) ?_
 repeat' first|((first|refine cK (ct (wJ _ _) tE) ?_|refine cP (ct (wJ _ _) tE) ?_|refine cM (ct (wJ _ _) tE) ?_|refine gS ?_);simp only[go_sem])|refine gA ?_|(refine gD (fun h=>?_) (fun h=>?_)<;>try exact aA h)|fail
 ·have e:[b]=s:=by simpa using h
  subst e
  refine aY (by simp only[go_sem]) (.of ?_)
  rw[Lib.indexByte,if_pos (by simp)]
 ·exact aY (by simp only[go_sem]) (.refl _)
theorem aIZ(s:List UInt8)(b:UInt8)(H:AHeap):cJ Tryz.prog 231 [.str s,.str [b]] H (.int .i64 (Lib.indexByte s b)):=by
 refine aL Tryz.func231 rfl (Nat.le_of_ble_eq_true rfl) ?_
 repeat' first|((first|refine cK (ct (wK _ _) tB) ?_|refine cP (ct (wK _ _) tB) ?_|refine cM (ct (wK _ _) tB) ?_|refine gS ?_);simp only[go_sem])|refine gA ?_|(refine gD (fun h=>?_) (fun h=>?_)<;>try exact aA h)|fail
 exact aY (by simp only[go_sem]) (.refl _)
def aBb(s:List UInt8)(b:UInt8):AV:=match s with
 |[]=>.tup [.str [],.bool false]
 |c::l=>if c=b then .tup [.str l,.bool true]else .tup [.str (c::l),.bool false]
theorem aI0(s:List UInt8)(b:UInt8)(H:AHeap):cJ Tryz.prog 228 [.str s,.str [b]] H (.bool (decide (s.head?=some b))):=by
 refine aL Tryz.func228 rfl (Nat.le_of_ble_eq_true rfl) ?_
 cases s with
 |nil=>
  repeat' first|(refine gS ?_;simp only[go_sem])|refine gA ?_|(refine gD (fun h=>?_) (fun h=>?_)<;>try exact aA h)|fail
  exact aY (by simp only[go_sem]) (.refl _)
 |cons c l=>
  repeat' first|(refine gS ?_;simp only[go_sem])|refine gA ?_|(refine gD (fun h=>?_) (fun h=>?_)<;>try exact aA h)|fail
  have e1:decide ((1:Int)≤((l.length+1:Nat):Int))=true:=decide_eq_true (by omega)
  have e2:decide ([c]=[b])=decide ((c::l).head?=some b):=by simp
  refine aY (by simp only[go_sem]) (.of ?_)
  rw[←e2]
  exact congrArg AV.bool (by rw[show((1:Nat):Int)=(1:Int)from rfl,e1,Bool.true_and])
theorem aI1(s:List UInt8)(b:UInt8)(H:AHeap):cJ Tryz.prog 202 [.str s,.str [b]] H (aBb s b):=by
 refine aL Tryz.func202 rfl (Nat.le_of_ble_eq_true rfl) ?_
 have hp:=aI0 s b
 cases s with
 |nil=>
  have ct0:=ct hp kQ;repeat' first|((first|refine gK ?_|refine gS ?_);simp only[go_sem])|refine gA ?_|(refine gD (fun h=>?_) (fun h=>?_)<;>try exact aA h)|fail
  exact aY (by simp only[go_sem]) (.refl _)
 |cons c l=>
  by_cases h:c=b
  ·rw[decide_eq_true (by rw[h];rfl)]at hp
   rw[aBb,if_pos h]
   have ct0:=ct hp kQ;repeat' first|((first|refine gK ?_|refine gS ?_);simp only[go_sem])|refine gA ?_|(refine gD (fun h=>?_) (fun h=>?_)<;>try exact aA h)|fail
   exact aY (by simp only[go_sem]) (.refl _)
  ·rw[decide_eq_false (by simp[h])]at hp
   rw[aBb,if_neg h]
   have ct0:=ct hp kQ;repeat' first|((first|refine gK ?_|refine gS ?_);simp only[go_sem])|refine gA ?_|(refine gD (fun h=>?_) (fun h=>?_)<;>try exact aA h)|fail
   exact aY (by simp only[go_sem]) (.refl _)
theorem aQg(s:List UInt8)(b:UInt8)(H:AHeap):cJ Tryz.prog 170 [.str s,.str [b]] H (aBb s b):=by
 refine aL Tryz.func170 rfl (Nat.le_of_ble_eq_true rfl) ?_
 have hp:=aI1 s b
 cases s with
 |nil=>
  simp only[aBb]at hp ⊢
  have ct0:=ct hp sU;repeat' first|((first|refine gK ?_|refine gS ?_);simp only[go_sem])|refine gA ?_|(refine gD (fun h=>?_) (fun h=>?_)<;>try exact aA h)|fail
  exact aY (by simp only[go_sem]) (.refl _)
 |cons c l=>
  by_cases h:c=b
  ·simp only[aBb,if_pos h]at hp ⊢
   have ct0:=ct hp sU;repeat' first|((first|refine gK ?_|refine gS ?_);simp only[go_sem])|refine gA ?_|(refine gD (fun h=>?_) (fun h=>?_)<;>try exact aA h)|fail
   exact aY (by simp only[go_sem]) (.refl _)
  ·simp only[aBb,if_neg h]at hp ⊢
   have ct0:=ct hp sU;repeat' first|((first|refine gK ?_|refine gS ?_);simp only[go_sem])|refine gA ?_|(refine gD (fun h=>?_) (fun h=>?_)<;>try exact aA h)|fail
   exact aY (by simp only[go_sem]) (.refl _)
end Go.Proofs.YthhdnjiodklmmaaGreatDoor
