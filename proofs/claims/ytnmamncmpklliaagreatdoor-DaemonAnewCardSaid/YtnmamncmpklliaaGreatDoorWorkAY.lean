/- What the functions of this seat answer (25 of 53). No condition. -/
import Derived.Test.YtnmamncmpklliaaGreatDoorWorkAJ
import Derived.Test.YtnmamncmpklliaaGreatDoorWorkAP
set_option linter.unusedSimpArgs false
set_option linter.unusedVariables false
set_option maxRecDepth 100000
set_option maxHeartbeats 16000000
namespace Go.Proofs.YtnmamncmpklliaaGreatDoor
open Go.Proofs.Tryz
theorem aGJ{a b:I}(h:fv a b):∀(i:Nat) (x y:I),[a][i]?=some x->[b][i]?=some y->fv x y:=c6 h kZ
def BV(c:b8):I:=if fQ c=true then .iface 357 (c4 c)else if hA c=true then .iface 355 (.agg [.sl false ((hB c).map I.str)])else .iface 353 (.agg [])
theorem aJo(l:List ag):∀e∈l.map I.str,b6 e:=λe he=>by
 obtain⟨x,_,rfl⟩:=bJ.1 he;exact .str _
theorem oJ{n:Nat}{H L:ab}{f:Bool}{l m:List ag}(e:l=m):∃J y,H++L=H++J/\cL n (H++L) (.iface 355<|.agg [.sl f (l.map I.str)]) y/\y=.iface 355 (.agg [.sl false (m.map I.str)]):=by
 subst e;exact done (.iface _ _ (.agg _ (by simp only[dF,forall_eq];exact .sl _ _ (aJo l))))<|.iface _ _ _ (.agg _ _ rfl (aGJ (.sl _ _)))
theorem aEb(k:Int):k=4\/k=7\/k=1\/k=2\/k=3\/k=10\/k=5\/k=6\/k=13\/((k=4)=False/\(k=7)=False/\(k=1)=False/\(k=2)=False/\(k=3)=False/\(k=10)=False/\(k=5)=False/\(k=6)=False/\(k=13)=False):=by
 simp only[eq_iff_iff,iff_false];omega
theorem PS(c:b8)(ad:c.path.length<=1048576)(H:ab):aM prog 170 [c4 c] H (BV c):=by
 refine aZ func170 ?_;obtain⟨k,path,to,data,n⟩:=c;simp only at ad;have U:=Gj path ad;have af:(∀l,gB path=some l->l.length<=16):=λl hl=>IP hl
 rcases aEb k with rfl|rfl|rfl|rfl|rfl|rfl|rfl|rfl|rfl|⟨av,al,V,Z,z,gH,mN,p9,yv⟩;case inr.inr.inr.inr.inr.inr.inl=>
  repeat' first|(refine ae ?_;simp only[go_sem,c4,Int.reduceEq])|refine ao ?_|fail
  exact aV<|.refl _
 case inr.inr.inr.inr.inr.inr.inr.inl=>
  repeat' first|(refine ae ?_;simp only[go_sem,c4,Int.reduceEq])|refine ao ?_|fail
  exact aV<|.refl _
 case inr.inr.inr.inr.inr.inr.inr.inr.inl=>
  repeat' first|(refine ae ?_;simp only[go_sem,c4,Int.reduceEq])|refine ao ?_|fail
  exact aV<|.refl _
 case inr.inr.inr.inr.inr.inr.inr.inr.inr=>
  repeat' first|(refine ae ?_;simp only[go_sem,c4,av,al,V,Z,z,gH,mN,p9,yv])|refine ao ?_|fail
  exact aV<|.of (by simp only[BV,fQ,hA,av,al,V,Z,z,gH,mN,p9,yv];rfl)
 case inl=>
  by_cases aw:n=0
  ·subst aw;cases J:gB path with
   |none=>
    simp only[ly,J]at U;repeat' first|(refine ae ?_;simp only[go_sem,c4,Int.reduceEq])|refine ao ?_|fail
    exact oJ (l:=[])<|by simp only[hB,J]
   |some l=>
    simp only[ly,J]at U;cases l with
    |nil=>
     repeat' first|(refine ae ?_;simp only[go_sem,c4,Int.reduceEq])|refine ao ?_|fail
     exact oJ (l:=[])<|by simp only[hB,J];rfl
    |cons x xs=>
     have hl:=af _ J;rw[cg]at hl;have hw:IntKind.i64.wrap (((xs.length+1:Nat):Int)-1)=(xs.length:Int):=by rw[bI];omega
     have K:decide ((0:Int)<((xs.length+1:Nat):Int))=true:=cK;have O:((0:Int)<=(xs.length:Int)/\(xs.length:Int)<=((xs.length+1:Nat):Int))=True:=b5 iV
     repeat' first|(refine ae ?_;simp only[go_sem,c4,Int.reduceEq,hw,K,O,e5,dz])|refine ao ?_|fail
     rw[<-dz (f:=I.str),<-rI];exact oJ<|by simp only[hB,J];exact(Gb (l:=x::xs)).symm
  ·have T:(n=0)=False:=x5 aw;repeat' first|(refine ae ?_;simp only[go_sem,c4,Int.reduceEq,T])|refine ao ?_|fail
   exact aV<|.of (by simp only[BV,fQ,hA,T];rfl)
 case inr.inl=>
  by_cases aw:n=0
  ·subst aw;cases J:gB path with
   |none=>
    simp only[ly,J]at U;repeat' first|(refine ae ?_;simp only[go_sem,c4,Int.reduceEq])|refine ao ?_|fail
    exact oJ (l:=[])<|by simp only[hB,J]
   |some l=>
    simp only[ly,J]at U;cases l with
    |nil=>
     repeat' first|(refine ae ?_;simp only[go_sem,c4,Int.reduceEq])|refine ao ?_|fail
     exact oJ (l:=[])<|by simp only[hB,J];rfl
    |cons x xs=>
     have hl:=af _ J;rw[cg]at hl;have hw:IntKind.i64.wrap (((xs.length+1:Nat):Int)-1)=(xs.length:Int):=by rw[bI];omega
     have K:decide ((0:Int)<((xs.length+1:Nat):Int))=true:=cK;have O:((0:Int)<=(xs.length:Int)/\(xs.length:Int)<=((xs.length+1:Nat):Int))=True:=b5 iV
     repeat' first|(refine ae ?_;simp only[go_sem,c4,Int.reduceEq,hw,K,O,e5,dz])|refine ao ?_|fail
     exact oJ (l:=x::xs)<|by simp only[hB,J];rfl
  ·have T:(n=0)=False:=x5 aw;repeat' first|(refine ae ?_;simp only[go_sem,c4,Int.reduceEq,T])|refine ao ?_|fail
   exact aV<|.of (by simp only[BV,fQ,hA,T];rfl)
 case inr.inr.inl=>
  cases J:gB path with
  |none=>
   simp only[ly,J]at U;repeat' first|(refine ae ?_;simp only[go_sem,c4,Int.reduceEq])|refine ao ?_|fail
   exact oJ (l:=[])<|by simp only[hB,J]
  |some l=>
   simp only[ly,J]at U;cases l with
   |nil=>
    repeat' first|(refine ae ?_;simp only[go_sem,c4,Int.reduceEq])|refine ao ?_|fail
    exact oJ (l:=[])<|by simp only[hB,J];rfl
   |cons x xs=>
    have hl:=af _ J;rw[cg]at hl;have hw:IntKind.i64.wrap (((xs.length+1:Nat):Int)-1)=(xs.length:Int):=by rw[bI];omega
    have K:decide ((0:Int)<((xs.length+1:Nat):Int))=true:=cK;have O:((0:Int)<=(xs.length:Int)/\(xs.length:Int)<=((xs.length+1:Nat):Int))=True:=b5 iV
    repeat' first|(refine ae ?_;simp only[go_sem,c4,Int.reduceEq,hw,K,O,e5,dz])|refine ao ?_|fail
    rw[<-dz (f:=I.str),<-rI];exact oJ<|by simp only[hB,J];exact(Gb (l:=x::xs)).symm
 case inr.inr.inr.inl=>
  cases J:gB path with
  |none=>
   simp only[ly,J]at U;repeat' first|(refine ae ?_;simp only[go_sem,c4,Int.reduceEq])|refine ao ?_|fail
   exact oJ (l:=[])<|by simp only[hB,J]
  |some l=>
   simp only[ly,J]at U;cases l with
   |nil=>
    repeat' first|(refine ae ?_;simp only[go_sem,c4,Int.reduceEq])|refine ao ?_|fail
    exact oJ (l:=[])<|by simp only[hB,J];rfl
   |cons x xs=>
    have hl:=af _ J;rw[cg]at hl;have hw:IntKind.i64.wrap (((xs.length+1:Nat):Int)-1)=(xs.length:Int):=by rw[bI];omega
    have K:decide ((0:Int)<((xs.length+1:Nat):Int))=true:=cK;have O:((0:Int)<=(xs.length:Int)/\(xs.length:Int)<=((xs.length+1:Nat):Int))=True:=b5 iV
    repeat' first|(refine ae ?_;simp only[go_sem,c4,Int.reduceEq,hw,K,O,e5,dz])|refine ao ?_|fail
    rw[<-dz (f:=I.str),<-rI];exact oJ<|by simp only[hB,J];exact(Gb (l:=x::xs)).symm
 case inr.inr.inr.inr.inl=>
  cases J:gB path with
  |none=>
   simp only[ly,J]at U;repeat' first|(refine ae ?_;simp only[go_sem,c4,Int.reduceEq])|refine ao ?_|fail
   exact oJ (l:=[])<|by simp only[hB,J]
  |some l=>
   simp only[ly,J]at U;cases l with
   |nil=>
    repeat' first|(refine ae ?_;simp only[go_sem,c4,Int.reduceEq])|refine ao ?_|fail
    exact oJ (l:=[])<|by simp only[hB,J];rfl
   |cons x xs=>
    have hl:=af _ J;rw[cg]at hl;have hw:IntKind.i64.wrap (((xs.length+1:Nat):Int)-1)=(xs.length:Int):=by rw[bI];omega
    have K:decide ((0:Int)<((xs.length+1:Nat):Int))=true:=cK;have O:((0:Int)<=(xs.length:Int)/\(xs.length:Int)<=((xs.length+1:Nat):Int))=True:=b5 iV
    repeat' first|(refine ae ?_;simp only[go_sem,c4,Int.reduceEq,hw,K,O,e5,dz])|refine ao ?_|fail
    rw[<-dz (f:=I.str),<-rI];exact oJ<|by simp only[hB,J];exact(Gb (l:=x::xs)).symm
 case inr.inr.inr.inr.inr.inl=>
  cases J:gB path with
  |none=>
   simp only[ly,J]at U;repeat' first|(refine ae ?_;simp only[go_sem,c4,Int.reduceEq])|refine ao ?_|fail
   exact oJ (l:=[])<|by simp only[hB,J]
  |some l=>
   simp only[ly,J]at U;cases l with
   |nil=>
    repeat' first|(refine ae ?_;simp only[go_sem,c4,Int.reduceEq])|refine ao ?_|fail
    exact oJ (l:=[])<|by simp only[hB,J];rfl
   |cons x xs=>
    have hl:=af _ J;rw[cg]at hl;have hw:IntKind.i64.wrap (((xs.length+1:Nat):Int)-1)=(xs.length:Int):=by rw[bI];omega
    have K:decide ((0:Int)<((xs.length+1:Nat):Int))=true:=cK;have O:((0:Int)<=(xs.length:Int)/\(xs.length:Int)<=((xs.length+1:Nat):Int))=True:=b5 iV
    repeat' first|(refine ae ?_;simp only[go_sem,c4,Int.reduceEq,hw,K,O,e5,dz])|refine ao ?_|fail
    exact oJ (l:=x::xs)<|by simp only[hB,J];rfl
theorem aJp(c:b8)(ad:c.path.length<=1048576)(H:ab):aM prog 259 [c4 c] H (.bool<|hA c):=by
 refine aZ func259 ?_;have hw:=PS c ad;have J:fQ c=true->hA c=false:=by simp only[fQ,hA];intro h;simp at h ⊢;omega
 unfold BV at hw;cases ah:fQ c with
 |true=>
  rw[ah,aA rfl]at hw;rw[J ah];repeat' first|(refine ae ?_;simp only[go_sem,c4])|refine ao ?_|fail
  exact aV<|.refl _
 |false=>
  rw[ah,aj kk]at hw
  cases hk:hA c with
  |true=>
   rw[hk,aA rfl]at hw;repeat' first|(refine ae ?_;simp only[go_sem,c4])|refine ao ?_|fail
   exact aV<|.refl _
  |false=>
   rw[hk,aj kk]at hw
   repeat' first|(refine ae ?_;simp only[go_sem,c4])|refine ao ?_|fail
   exact aV<|.refl _
theorem aJq(c:b8)(H:ab):aM prog 362 [c4 c] H (.sl true<|(nu c).map I.str):=by
 refine aZ func362 ?_;unfold nu;by_cases J:c.kind=5
 ·rw[aA J];have hd:decide (c.kind=5)=true:=cD J;repeat' first|(refine ae ?_;simp only[go_sem,c4,hd])|refine ao ?_|fail
  exact aV<|.refl _
 ·rw[aj J];have hd:decide (c.kind=5)=false:=bN J;by_cases U:c.kind=6
  ·rw[aA U];have K:decide (c.kind=6)=true:=cD U;repeat' first|(refine ae ?_;simp only[go_sem,c4,hd,K])|refine ao ?_|fail
   exact aV<|.refl _
  ·rw[aj U];have K:decide (c.kind=6)=false:=bN U;repeat' first|(refine ae ?_;simp only[go_sem,c4,hd,K])|refine ao ?_|fail
   exact aV<|.refl _
end Go.Proofs.YtnmamncmpklliaaGreatDoor
