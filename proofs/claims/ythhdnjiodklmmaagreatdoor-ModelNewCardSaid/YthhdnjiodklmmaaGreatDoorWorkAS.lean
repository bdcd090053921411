/- The texts 19 of 51 beneath the rows of this seat (joined by program): the abstract machine, and what the functions answer. No condition. -/
import Derived.Test.YthhdnjiodklmmaaGreatDoorWorkAG
import Derived.Test.YthhdnjiodklmmaaGreatDoorWorkAR
set_option linter.unusedSimpArgs false
set_option linter.unusedVariables false
set_option linter.unusedSectionVars false
/- Paths: name.fit and name.Split. No condition but the length of what comes in. -/
namespace Go.Gw
open Go Go.Aw Go.Proofs.YthhdnjiodklmmaaGreatDoor
theorem aHi{b:UInt8}{l:List UInt8}:∀x∈dN b l,x.length≤l.length:=by
 induction l with
 |nil=>intro x hx;simp[dN]at hx;simp[hx]
 |cons c l ih=>
  intro x hx
  rw[dN]at hx
  cases hs:dN b l with
  |nil=>exact absurd hs (wO b l)
  |cons y t=>
   rw[hs]at ih
   simp only[hs]at hx
   rw[List.length_cons]
   by_cases h:c=b
   ·rw[if_pos h]at hx
    rcases List.mem_cons.1 hx with q|q
    ·rw[q];simp
    ·have:=ih x q;omega
   ·rw[if_neg h]at hx
    rcases List.mem_cons.1 hx with q|q
    ·have:=ih y (by simp);rw[q,List.length_cons];omega
    ·have:=ih x (by simp[q]);omega
def aCu(l:List Txt):Bool:=decide ((l.length:Int)≤16)&&l.all iV
def dJ(p:Txt):Option (List Txt):=
 if p=[47]then some []else match p with
 |[]=>none
 |c::l=>if c=47 then(if aCu (dN 47 l)=true then some (dN 47 l)else none)else none
end Go.Gw
namespace Go.Proofs.YthhdnjiodklmmaaGreatDoor
open Go Go.Aw Go.Gw
set_option linter.unusedSimpArgs false
set_option maxRecDepth 20000
set_option maxHeartbeats 2000000
theorem aJA(s:List UInt8)(b:UInt8)(hs:s.length≤1048576)(H:AHeap):cJ Tryz.prog 171 [.str s,.str [b]] H (.sl false ((dN b s).map AV.str)):=by
 refine aL Tryz.func171 rfl (Nat.le_of_ble_eq_true rfl) ?_
 have hg:=aJs s b hs
 have ct0:=ct hg aEr;repeat' first|((first|refine gK ?_|refine gS ?_);simp only[go_sem])|refine gA ?_|(refine gD (fun h=>?_) (fun h=>?_)<;>try exact aA h)|fail
 exact aY (by simp only[go_sem]) (.refl _)
theorem aUi(f:Bool)(l:List Txt)(hl:∀x∈l,x.length≤1048576)(H:AHeap):cJ Tryz.prog 172 [.sl f (l.map AV.str)] H (.bool (aCu l)):=by
 refine aL Tryz.func172 rfl (Nat.le_of_ble_eq_true rfl) ?_
 by_cases h16:(l.length:Int)≤16
 ·have hd:decide ((16:Int)<(l.length:Int))=false:=decide_eq_false (by omega)
  have hF:aCu l=l.all iV:=by rw[aCu,decide_eq_true h16,Bool.true_and]
  rw[hF]
  repeat' first|(refine gS ?_;simp only[go_sem,hd])|refine gA ?_|(refine gD (fun h=>?_) (fun h=>?_)<;>try exact aA h)|fail
  refine aP (ι:=Nat) (fun i=>[(8,.sl f (l.map AV.str)),(9,.int .i64 l.length),(10,.int .i64 i)]) (fun _=>H) (fun i=>i≤l.length∧∀x∈l.take i,iV x=true) (fun i=>l.length-i) 0 ⟨Nat.zero_le _,by simp⟩ ?_ rfl ?_
  ·simp[go_sem]
  ·rintro i ⟨hi,hok⟩
   by_cases hlt:i<l.length
   ·have hp:=bA AV.str hlt
    have hli:decide ((i:Int)<(l.length:Int))=true:=decide_eq_true (by omega)
    have hn:=uJ l[i] (by have:=hl _ (List.getElem_mem hlt);omega)
    cases hk:iV l[i]with
    |false=>
     rw[hk]at hn
     have hall:l.all iV=false:=by rw[List.all_eq_false];exact⟨l[i],List.getElem_mem hlt,by rw[hk];decide⟩
     rw[hall]
     have ct0:=ct hn mA;repeat' first|((first|refine gK ?_|refine gS ?_);simp only[go_sem,hp,hli])|refine gA ?_|(refine gD (fun h=>?_) (fun h=>?_)<;>try exact aA h)|fail
     exact aY (by simp only[go_sem]) (.refl _)
    |true=>
     rw[hk]at hn
     have ct0:=ct hn mA;repeat' first|((first|refine gK ?_|refine gS ?_);simp only[go_sem,hp,hli])|refine gA ?_|(refine gD (fun h=>?_) (fun h=>?_)<;>try exact aA h)|fail
     refine⟨i+1,⟨hlt,fun x hx=>?_⟩,by omega,congrArg _ (bD hlt (by omega))⟩
     rw[List.take_succ_eq_append_getElem hlt,List.mem_append,List.mem_singleton]at hx
     rcases hx with q|q
     ·exact hok x q
     ·rw[q];exact hk
   ·have hie:i=l.length:=by omega
    subst hie
    have hli:decide ((l.length:Int)<(l.length:Int))=false:=by simp
    have hall:l.all iV=true:=List.all_eq_true.2 (by rwa[List.take_length]at hok)
    rw[hall]
    repeat' first|(refine gS ?_;simp only[go_sem,hli])|refine gA ?_|(refine gD (fun h=>?_) (fun h=>?_)<;>try exact aA h)|fail
    exact aY (by simp only[go_sem]) (.refl _)
 ·have hd:decide ((16:Int)<(l.length:Int))=true:=decide_eq_true (by omega)
  have hF:aCu l=false:=by rw[aCu,decide_eq_false h16,Bool.false_and]
  rw[hF]
  repeat' first|(refine gS ?_;simp only[go_sem,hd])|refine gA ?_|(refine gD (fun h=>?_) (fun h=>?_)<;>try exact aA h)|fail
  exact aY (by simp only[go_sem]) (.refl _)
def uR(p:Txt):AV:=match dJ p with
 |none=>.tup [.sl true [],.int .i64 10]
 |some l=>.tup [.sl (decide (p=[47])) (l.map AV.str),.int .i64 0]
theorem aCv(p:Txt)(hs:p.length≤1048576)(H:AHeap):cJ Tryz.prog 118 [.str p] H (uR p):=by
 refine aL Tryz.func118 rfl (Nat.le_of_ble_eq_true rfl) ?_
 have hcut:=aQg p 47
 by_cases h1:p=[47]
 ·have hd:decide (p=[47])=true:=decide_eq_true h1
  simp only[uR,dJ,if_pos h1,hd]
  repeat' first|(refine gS ?_;simp only[go_sem,hd])|refine gA ?_|(refine gD (fun h=>?_) (fun h=>?_)<;>try exact aA h)|fail
  exact aY (by simp only[go_sem]) (.refl _)
 ·have hd:decide (p=[47])=false:=decide_eq_false h1
  simp only[uR,dJ,if_neg h1,hd]
  cases p with
  |nil=>
   simp only[aBb]at hcut
   have ct0:=ct hcut oV;repeat' first|((first|refine gK ?_|refine gS ?_);simp only[go_sem,hd])|refine gA ?_|(refine gD (fun h=>?_) (fun h=>?_)<;>try exact aA h)|fail
   exact aY (by simp only[go_sem]) (.refl _)
  |cons c l=>
   rw[List.length_cons]at hs
   by_cases h2:c=47
   ·simp only[aBb,if_pos h2]at hcut ⊢
    have hsp:=aJA l 47 (by omega)
    have hfi:=aUi false (dN 47 l) (fun x hx=>by have:=aHi x hx;omega)
    cases hf:aCu (dN 47 l)with
    |false=>
     rw[hf]at hfi
     have ct0:=ct hcut oV;have ct1:=ct hsp aAg;have ct2:=ct hfi aAh;repeat' first|((first|refine gK ?_|refine gS ?_);simp only[go_sem,hd])|refine gA ?_|(refine gD (fun h=>?_) (fun h=>?_)<;>try exact aA h)|fail
     exact aY (by simp only[go_sem]) (.refl _)
    |true=>
     rw[hf]at hfi
     have ct0:=ct hcut oV;have ct1:=ct hsp aAg;have ct2:=ct hfi aAh;repeat' first|((first|refine gK ?_|refine gS ?_);simp only[go_sem,hd])|refine gA ?_|(refine gD (fun h=>?_) (fun h=>?_)<;>try exact aA h)|fail
     exact aY (by simp only[go_sem]) (.refl _)
   ·simp only[aBb,if_neg h2]at hcut ⊢
    have ct0:=ct hcut oV;repeat' first|((first|refine gK ?_|refine gS ?_);simp only[go_sem,hd])|refine gA ?_|(refine gD (fun h=>?_) (fun h=>?_)<;>try exact aA h)|fail
    exact aY (by simp only[go_sem]) (.refl _)
end Go.Proofs.YthhdnjiodklmmaaGreatDoor
