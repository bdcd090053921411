/- The texts 22 of 51 beneath the rows of this seat (joined by program): the abstract machine, and what the functions answer. No condition. -/
import Derived.Test.YthhdnjiodklmmaaGreatDoorWorkAE
import Derived.Test.YthhdnjiodklmmaaGreatDoorWorkAU
set_option linter.unusedSimpArgs false
set_option linter.unusedVariables false
set_option linter.unusedSectionVars false
/- stamp.Next, ID and Seen of one stamp: what they answer. No condition. -/
namespace Go.Proofs.YthhdnjiodklmmaaGreatDoor
open Go Go.Aw Go.Gw
set_option linter.unusedSimpArgs false
set_option linter.unusedVariables false
set_option maxRecDepth 20000
set_option maxHeartbeats 4000000
theorem aV4(a b:Int)(d:Bool)(H:AHeap):cJ Tryz.prog 121 [.agg [.int .i64 a,.int .i64 b],.bool d] H (.int .i64 (idI a b d)):=by
 refine aL Tryz.func121 rfl (Nat.le_of_ble_eq_true rfl) ?_
 have hc:=iS a b
 unfold idI
 cases hk:okI a b with
 |false=>
  rw[hk]at hc
  have ct0:=ct hc cH;repeat' first|((first|refine gK ?_|refine gS ?_);simp only[go_sem])|refine gA ?_|(refine gD (fun h=>?_) (fun h=>?_)<;>try exact aA h)|fail
  exact done (by simp only[go_sem]) (.refl _)
 |true=>
  rw[hk]at hc
  have h:=pZ.1 hk
  have w1:IntKind.i64.wrap (128 * a)=128 * a:=wrap_i64 (by omega) (by omega)
  have w2:IntKind.i64.wrap (2 * b)=2 * b:=wrap_i64 (by omega) (by omega)
  have w3:IntKind.i64.wrap (128 * a+2 * b)=128 * a+2 * b:=wrap_i64 (by omega) (by omega)
  have w4:IntKind.i64.wrap (128 * a+2 * b+1)=128 * a+2 * b+1:=wrap_i64 (by omega) (by omega)
  cases d with
  |true=>
   have ct0:=ct hc cH;repeat' first|((first|refine gK ?_|refine gS ?_);simp only[go_sem,w1,w2,w3,w4])|refine gA ?_|(refine gD (fun h=>?_) (fun h=>?_)<;>try exact aA h)|fail
   exact done (by simp only[go_sem]) (.refl _)
  |false=>
   have ct0:=ct hc cH;repeat' first|((first|refine gK ?_|refine gS ?_);simp only[go_sem,w1,w2,w3,w4])|refine gA ?_|(refine gD (fun h=>?_) (fun h=>?_)<;>try exact aA h)|fail
   exact done (by simp only[go_sem]) (.of (by simp))
def aJK(a b:Int):AV:=if nO a b=true then .tup [.agg [.int .i64 (a+1),.int .i64 b],.int .i64 0]else .tup [.agg [.int .i64 0,.int .i64 0],.int .i64 20]
theorem aQD(a b:Int)(H:AHeap):cJ Tryz.prog 174 [.int .i64 a,.int .i64 b] H (aJK a b):=by
 refine aL Tryz.func174 rfl (Nat.le_of_ble_eq_true rfl) ?_
 unfold aJK
 by_cases h1:a<0
 ·have hn:nO a b=false:=by rw[←Bool.not_eq_true,qL];omega
  have d1:decide (a<0)=true:=decide_eq_true h1
  rw[hn]
  repeat' first|(refine gS ?_;simp only[go_sem,d1])|refine gA ?_|(refine gD (fun h=>?_) (fun h=>?_)<;>try exact aA h)|fail
  exact done (by simp only[go_sem]) (.refl _)
 have d1:decide (a<0)=false:=decide_eq_false h1
 by_cases h2:1048576≤a
 ·have hn:nO a b=false:=by rw[←Bool.not_eq_true,qL];omega
  have d2:decide (1048576≤a)=true:=decide_eq_true h2
  rw[hn]
  repeat' first|(refine gS ?_;simp only[go_sem,d1,d2])|refine gA ?_|(refine gD (fun h=>?_) (fun h=>?_)<;>try exact aA h)|fail
  exact done (by simp only[go_sem]) (.refl _)
 have d2:decide (1048576≤a)=false:=decide_eq_false h2
 have hw:IntKind.i64.wrap (a+1)=a+1:=wrap_i64 (by omega) (by omega)
 have hc:=iS (a+1) b
 cases hk:okI (a+1) b with
 |false=>
  have hn:nO a b=false:=by rw[←Bool.not_eq_true,qL];rw[←Bool.not_eq_true,pZ]at hk;omega
  rw[hk]at hc
  rw[hn]
  have ct0:=ct hc cH;repeat' first|((first|refine gK ?_|refine gS ?_);simp only[go_sem,d1,d2,hw])|refine gA ?_|(refine gD (fun h=>?_) (fun h=>?_)<;>try exact aA h)|fail
  exact done (by simp only[go_sem]) (.refl _)
 |true=>
  have hn:nO a b=true:=by rw[qL];rw[pZ]at hk;omega
  rw[hk]at hc
  rw[hn]
  have ct0:=ct hc cH;repeat' first|((first|refine gK ?_|refine gS ?_);simp only[go_sem,d1,d2,hw])|refine gA ?_|(refine gD (fun h=>?_) (fun h=>?_)<;>try exact aA h)|fail
  exact done (by simp only[go_sem]) (.refl _)
theorem aFZ(n:Int)(s:Stm)(f:Bool)(H:AHeap):cJ Tryz.prog 55 [.int .i64 n,.sl f [.agg [.int .i64 s.c,.int .i64 s.r]]] H (.int .i64 (eV n s)):=by
 refine aL Tryz.func55 rfl (Nat.le_of_ble_eq_true rfl) ?_
 obtain⟨a,b⟩:=s
 have hc:=iS a b
 have hw:IntKind.i64.wrap (0+1)=1:=rfl
 repeat' first|(refine gS ?_;simp only[go_sem])|refine gA ?_|(refine gD (fun h=>?_) (fun h=>?_)<;>try exact aA h)|fail
 refine wG 2 ?_
 unfold rJ
 repeat' first|(refine gS ?_;simp only[go_sem])|refine gA ?_|(refine gD (fun h=>?_) (fun h=>?_)<;>try exact aA h)|fail
 cases hk:okI a b with
 |false=>
  rw[hk]at hc
  have ct0:=ct hc cH;repeat' first|((first|refine gK ?_|refine gS ?_);simp only[go_sem,hw])|refine gA ?_|(refine gD (fun h=>?_) (fun h=>?_)<;>try exact aA h)|fail
  exact done (by simp only[go_sem]) (.of (by unfold eV;rw[hk];rfl))
 |true=>
  rw[hk]at hc
  have ct0:=ct hc cH;repeat' first|((first|refine gK ?_|refine gS ?_);simp only[go_sem,hw])|refine gA ?_|(refine gD (fun h=>?_) (fun h=>?_)<;>try exact aA h)|fail
  exact done (by simp only[go_sem]) (.of (by unfold eV;rw[hk];rfl))
end Go.Proofs.YthhdnjiodklmmaaGreatDoor
