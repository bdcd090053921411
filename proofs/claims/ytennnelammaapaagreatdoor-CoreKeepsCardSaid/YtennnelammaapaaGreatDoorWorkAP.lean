/- What the functions of this seat answer (16 of 38). No condition. -/
import Derived.Test.YtennnelammaapaaGreatDoorWorkAL
set_option linter.unusedSimpArgs false
set_option linter.unusedVariables false
set_option maxRecDepth 100000
set_option maxHeartbeats 16000000
namespace Go.Proofs.YtennnelammaapaaGreatDoor
theorem oW(l:List Txt):∀e∈l.map AV.str,e.cells.length=1:=fun e he=>by
 obtain⟨x,_,rfl⟩:=zAm.1 he;rfl
theorem wG(l:List Txt):(∀e∈l.map AV.str,e.cells.length=1)=True:=zAC (oW l)
theorem rX(l:List Txt):∀e∈l.map AV.str,Pur e:=fun e he=>by
 obtain⟨x,_,rfl⟩:=zAm.1 he;first|exact(by simp only[go_sem])|(simp only[AV.str];exact(by simp only[go_sem]))
theorem aBq(b:Bool)(l:List Txt)(hl:l.length≤1073741824)(H:AHeap):bH Tryz.prog 135 [.sl b (l.map AV.str)] H (.sl false (l.map AV.str)):=by
 refine fO Tryz.func135 ?_;repeat' first|(refine gS ?_;simp only[go_sem])|refine gA ?_|(refine gD ?_ ?_<;>intro h<;>try exact aA h)|fail
 intro c hc;cases c with
 |true=>
  have hnil:l=[]:=by
   cases l with
   |nil=>rfl
   |cons x l=>exact absurd (hc (by simp)) (by decide)
  subst hnil;repeat' first|(refine gS ?_;simp only[go_sem])|refine gA ?_|(refine gD ?_ ?_<;>intro h<;>try exact aA h)|fail
  exact cL (.sl _ _)
 |false=>
  clear hc;repeat' first|(refine gS ?_;simp only[go_sem,wG])|refine gA ?_|(refine gD ?_ ?_<;>intro h<;>try exact aA h)|fail
  exact iU (cs:=List.flatMap AV.cells (List.map AV.str l)) (es:=l.map AV.str) (rest:=[]) (zAf _) (by simp only[go_sem]) (zAd _).symm (by rw[zAn]) (oW _) (rX _) rfl
theorem qS(l:List Evt):∀e∈l.map fF,e.cells.length=2:=fun e he=>by
 obtain⟨x,_,rfl⟩:=zAm.1 he;rfl
theorem yC(l:List Evt):(∀e∈l.map fF,e.cells.length=2)=True:=zAC (qS l)
theorem tY(l:List Evt):∀e∈l.map fF,Pur e:=fun e he=>by
 obtain⟨x,_,rfl⟩:=zAm.1 he;first|exact(by simp only[go_sem])|(simp only[fF];exact(by simp only[go_sem]))
theorem aII(b:Bool)(l:List Evt)(hl:l.length≤1073741824)(H:AHeap):bH Tryz.prog 148 [.sl b (l.map fF)] H (.sl false (l.map fF)):=by
 refine fO Tryz.func148 ?_;repeat' first|(refine gS ?_;simp only[go_sem])|refine gA ?_|(refine gD ?_ ?_<;>intro h<;>try exact aA h)|fail
 intro c hc;cases c with
 |true=>
  have hnil:l=[]:=by
   cases l with
   |nil=>rfl
   |cons x l=>exact absurd (hc (by simp)) (by decide)
  subst hnil;repeat' first|(refine gS ?_;simp only[go_sem])|refine gA ?_|(refine gD ?_ ?_<;>intro h<;>try exact aA h)|fail
  exact cL (.sl _ _)
 |false=>
  clear hc;repeat' first|(refine gS ?_;simp only[go_sem,yC])|refine gA ?_|(refine gD ?_ ?_<;>intro h<;>try exact aA h)|fail
  exact iU (cs:=List.flatMap AV.cells (List.map fF l)) (es:=l.map fF) (rest:=[]) (zAf _) (by simp only[go_sem]) (zAd _).symm (by rw[zAn]) (qS _) (tY _) rfl
theorem aLm(b:Bool)(l:List Int)(hl:l.length≤1073741824)(H:AHeap):
  ACalls Tryz.prog 147 [.sl b (l.map bK)] H (fun v H'=>v=.osl 1 H.length 1 0 l.length l.length∧H'=H++[.cells 1 (l.map bK)]):=by
 refine aQ Tryz.func147 ?_;have hcl:∀n,ClB n (.cells 1 (l.map bK)):=fun n x hx=>by obtain⟨y,_,rfl⟩:=zAm.1 hx;exact .int _ _
 have fin:∀v H',v=.osl 1 H.length 1 0 l.length l.length→H'=H++[.cells 1 (l.map bK)]→∃H1 L y,H'=H1++L∧H.length≤H1.length∧(∀(i:Nat) (b:ABlk),H1[i]?=some b→H[i]?=some b∨ClB H1.length b)∧Frz H1.length H' v y∧
   y=.osl 1 H.length 1 0 l.length l.length∧H1=H++[.cells 1 (l.map bK)]:=by
  rintro v H' rfl rfl;refine⟨_,[],_,(zAd _).symm,by simp,fun i b hi=>?_,.cl _ (.osl _ _ _ _ _ _ (by simp)),rfl,rfl⟩
  by_cases hlt:i<H.length
  ·rw[zAt hlt]at hi;exact .inl hi
  ·rw[zAV (by omega)]at hi
   cases hk:i-H.length with
   |zero=>rw[hk]at hi;cases hi;exact .inr (hcl _)
   |succ k=>rw[hk]at hi;simp at hi
 repeat' first|(refine gS ?_;simp only[go_sem])|refine gA ?_|(refine gD ?_ ?_<;>intro h<;>try exact aA h)|fail
 intro c hc;cases c with
 |true=>
  have hnil:l=[]:=by
   cases l with
   |nil=>rfl
   |cons x l=>exact absurd (hc (by simp)) (by decide)
  subst hnil;repeat' first|(refine gS ?_;simp only[go_sem])|refine gA ?_|fail
  refine eJ rfl (fun _=>?_) (fun h=>by cases h)
  refine pF ?_;refine dR rfl ?_;simp only[go_sem];refine jR 2 1 rfl ?_;repeat' first|(refine gS ?_;simp only[go_sem])|refine gA ?_|(refine gD ?_ ?_<;>intro h<;>try exact aA h)|fail
  exact fin _ _ rfl rfl
 |false=>
  clear hc;have hc1:(∀e∈l.map bK,e.cells.length=1)=True:=zAC (kW l);have hl8:(l.length * 8≤140737488355328)=True:=zAC (by omega)
  repeat' first|(refine gS ?_;simp only[go_sem,hc1,kQ,hl8,zCW,true_or])|refine gA ?_|(refine gD ?_ ?_<;>intro h<;>try exact aA h)|fail
  exact fin _ _ rfl rfl
theorem aFT(k:Nat)(b:Bool)(l:List Evt):Cl k (.sl b (l.map fF)):=(Pur.sl b _ (tY l)).cl k
theorem aDf(k:Nat)(b:Bool)(l:List Txt):Cl k (.sl b (l.map AV.str)):=(Pur.sl b _ (rX l)).cl k
theorem aOJ(k:Nat)(b:Bool)(l:List Int):Cl k (.sl b (l.map bK)):=(Pur.sl b _ (fun e he=>by obtain⟨x,_,rfl⟩:=zAm.1 he;exact .int _ _)).cl k
theorem aLn(k:Nat)(l:List Int):∀x∈l.map bK,Cl k x:=fun x hx=>by obtain⟨y,_,rfl⟩:=zAm.1 hx;exact .int _ _
def ThS(t:Thr):Prop:=t.call.path.length≤1048576∧t.has.length≤1048576∧t.ans.names.length≤1048576∧t.ans.events.length≤1048576
theorem aQD(f1 f2 f3:Bool)(t:Thr)(hs:ThS t)(H:AHeap):
  ACalls Tryz.prog 110 [pE f1 f2 f3 t] H (fun v H'=>v=vS (.osl 1 (H.length+2) 1 0 t.has.length t.has.length) (.sl false (t.ans.names.map AV.str)) (.sl false (t.ans.events.map fF)) t∧∃A B,H'=H++[A,B,.cells 1 (t.has.map bK)]):=by
 refine aQ Tryz.func110 ?_;obtain⟨h1,h2,h3,h4⟩:=hs;have hn:=aBq f2 t.ans.names (by omega)
 have he:=aII f3 t.ans.events (by omega)
 repeat' first|(refine gS ?_;simp only[go_sem,pE,vS])|refine gA ?_|(refine gD ?_ ?_<;>intro h<;>try exact aA h)|fail
 refine aR (aLm f1 t.has (by omega) _) (cO) ?_
 rintro v H' ⟨rfl,rfl⟩;simp only[go_sem];repeat' first|(refine gS ?_;simp only[go_sem])|refine gA ?_|(refine gD ?_ ?_<;>intro h<;>try exact aA h)|fail
 refine⟨_,[],_,(zAd _).symm,by simp,jU ?_,.cl _ ?_,rfl,_,_,rfl⟩
 all_goals repeat' first|exact all_nil|refine all_cons ?_ ?_|refine aH6 ?_|refine aRV ?_|refine aRW ?_|refine aNQ ?_ ?_|refine aNR ?_|exact .int _ _|exact .str _|exact .bool _|exact .nilptr|exact .nilIface|exact .osl _ _ _ _ _ _ (by simp only[zAa,zAc,zAv];omega)|exact .ref _ _ _ (by simp only[zAa,zAc,zAv];omega)|exact .map _ (by simp only[zAa,zAc,zAv];omega)|exact aDf _ _ _|exact aFT _ _ _|exact aLn _ _
theorem aSy{n i v lc k:Nat}{H:AHeap}{cs rest:List AV}{t:Thr}(hn:n≤i)(hh:hget H i=.cells v cs)(hcs:cs=t.has.map bK++rest)(hk:k=t.has.length):
  Frz n H (vS (.osl 1 i v 0 k lc) (.sl false (t.ans.names.map AV.str)) (.sl false (t.ans.events.map fF)) t) (pE false false false t):=by
 unfold pE vS;refine .agg _ _ rfl ?_;repeat' first|exact bN|refine aT ?_ ?_|exact .cl _ (.int _ _)|exact .cl _ (.str _)|exact .cl _ (.bool _)|exact .cl _ (aDf _ _ _)|exact .cl _ (aFT _ _ _)
 exact iT hn hh (by rw[kQ];exact hcs) (by rw[zAn,hk]) (kW _) (fun e he=>by obtain⟨x,_,rfl⟩:=zAm.1 he;exact .int _ _)
theorem aOK{n:Nat}{H:AHeap}(f:Bool)(t:Thr):Frz n H (vS (.sl f (t.has.map bK)) (.sl false (t.ans.names.map AV.str)) (.sl false (t.ans.events.map fF)) t) (pE false false false t):=by
 unfold pE vS;refine .agg _ _ rfl ?_;repeat' first|exact bN|refine aT ?_ ?_|exact .cl _ (.int _ _)|exact .cl _ (.str _)|exact .cl _ (.bool _)|exact .cl _ (aDf _ _ _)|exact .cl _ (aFT _ _ _)|exact .slw _ _ (aOJ _ _ _)
theorem kR{i v lc k:Nat}{H L:AHeap}{cs rest:List AV}{x:AV}(t:Thr)(hn:H.length≤i)(hh:hget (H++L) i=.cells v cs)(hcs:cs=t.has.map bK++rest)(hk:k=t.has.length)(hx:pE false false false t=x):
  ∃L' y,H++L=H++L'∧Frz H.length (H++L) (vS (.osl 1 i v 0 k lc) (.sl false (t.ans.names.map AV.str)) (.sl false (t.ans.events.map fF)) t) y∧y=x:=
 ⟨L,_,rfl,aSy hn hh hcs hk,hx⟩
theorem aOL(f1 f2 f3:Bool)(t:Thr)(hs:ThS t)(H:AHeap):bH Tryz.prog 103 [pE f1 f2 f3 t] H (pE false false false (rI t)):=by
 refine fO Tryz.func103 ?_;repeat' first|(refine gS ?_;simp only[go_sem,pE,vS])|refine gA ?_|(refine gD ?_ ?_<;>intro h<;>try exact aA h)|fail
 refine aR (aQD f1 f2 f3 t hs _) (cO) ?_;rintro v H' ⟨rfl,A,B,rfl⟩;simp only[go_sem,vS];repeat' first|(refine gS ?_;simp only[go_sem])|refine gA ?_|(refine gD ?_ ?_<;>intro h<;>try exact aA h)|fail
 exact⟨_,_,rfl,aOK true (rI t),rfl⟩
theorem aSz(l:List Int)(p:Int→Bool)(i v lc n:Nat)(hn:n=l.length)(hlc:n≤lc)(hl:n≤1073741824){fn:Fn}{fs cs:List AV}(H:AHeap)(hh:hget H i=.cells v (l.map bK))
  (hf:∀x,ACall Tryz.prog (.func fn fs cs) [.int .i64 x] H (fun r G'=>r=.bool (p x)∧G'=H)):
  bH Tryz.prog 149 [.osl 1 i v 0 n lc,.func fn fs cs] H (.int .i64 (cQ p l)):=by
 refine fO Tryz.func149 ?_;repeat' first|(refine gS ?_;simp only[go_sem,hh])|refine gA ?_|(refine gD ?_ ?_<;>intro h<;>try exact aA h)|fail
 refine aI (ι:=Nat) (fun k=>[(0,.osl 1 i v 0 n lc),(1,.func fn fs cs),(7,.int .i64 n),(8,.int .i64 k)]) (fun _=>H) (fun k=>k≤n∧∀q (hk:q<k) (hk2:q<l.length),p l[q]=false) (fun k=>n-k) 0 ⟨zAo _,fun q hk=>by omega⟩ ?_ rfl ?_
 ·simp[go_sem]
 ·rintro k ⟨hk,hno⟩;by_cases hlt:k<l.length
  ·have hp:=aN bK hlt;have hli:decide ((k:Int)<(n:Int))=true:=dT;have hw:=aS hlt (by omega)
   have hl8:(List.map bK l).length=n:=by rw[zAn,hn]
   repeat' first|(refine gS ?_;simp only[go_sem,hh,hli,hp,bK,zAn,zAB,←hn])|refine gA ?_|(refine gD ?_ ?_<;>intro h<;>try exact aA h)|fail
   refine iV (hf l[k]) ?_;simp only[go_sem];repeat' first|(refine gS ?_;simp only[go_sem])|refine gA ?_|(refine gD ?_ ?_<;>intro h<;>try exact aA h)|fail
   ·exact cL (.of (by rw[eV p l k hlt (fun q hq=>hno q hq (by omega)) (by assumption)]))
   ·refine⟨k+1,⟨by omega,fun q hq hq2=>?_⟩,by omega,zAx _ hw⟩
    by_cases e:q=k
    ·subst e;assumption
    ·exact hno q (by omega) (by omega)
  ·have hi':k=n:=by omega
   subst hi';have hli:decide ((k:Int)<(k:Int))=false:=by simp
   repeat' first|(refine gS ?_;simp only[go_sem,hh,hli])|refine gA ?_|(refine gD ?_ ?_<;>intro h<;>try exact aA h)|fail
   exact cL (.of (by rw[eW p l fun q hk=>hno q (by omega) hk]))
theorem aIJ{l:List Int}{p:Int→Bool}(h:cQ p l= -1):l.filter (fun x=> !p x)=l:=by
 induction l with
 |nil=>rfl
 |cons x l ih=>
  unfold cQ at h;by_cases hp:p x=true
  ·rw[zAl hp]at h;cases h
  ·rw[zAe hp]at h;split at h
   ·rename_i h1;rw[zA5,zAl (by simp[hp]),ih h1]
   ·have:=vG p l;omega
theorem aIK{l:List Int}{p:Int→Bool}(h:cQ p l≠ -1):∃A x B,l=A++x::B∧cQ p l=A.length∧p x=true∧A.filter (fun x=> !p x)=A:=by
 induction l with
 |nil=>exact absurd rfl h
 |cons x l ih=>
  by_cases hp:p x=true
  ·exact⟨[],x,l,rfl,by simp[cQ,hp],hp,rfl⟩
  ·unfold cQ at h ⊢;rw[zAe hp]at h ⊢;by_cases h1:cQ p l= -1
   ·rw[zAl h1]at h;exact absurd rfl h
   ·rw[zAe h1];obtain⟨A,y,B,e1,e2,e3,e4⟩:=ih h1;exact⟨x::A,y,B,by rw[e1];rfl,by rw[e2];simp,e3,by rw[zA5,zAl (by simp[hp]),e4]⟩
theorem aVS(l:List Int)(p:Int→Bool)(i v lc n:Nat)(hn:n=l.length)(hlc:n≤lc)(hl:n≤1073741824){fn:Fn}{fs cs:List AV}(Gd:AHeap→Prop)(hGd:∀G b,Gd G→Gd (aB G i b))(H:AHeap)(hh:hget H i=.cells v (l.map bK))
  (hf:∀x G,Gd G→ACall Tryz.prog (.func fn fs cs) [.int .i64 x] G (fun r G'=>r=.bool (p x)∧G'=G)) (hg:Gd H):
  ACalls Tryz.prog 112 [.osl 1 i v 0 n lc,.func fn fs cs] H (fun r H'=>∃rest,r=.osl 1 i v 0 (l.filter (fun x=> !p x)).length lc∧H'=aB H i (.cells v ((l.filter (fun x=> !p x)).map bK++rest))):=by
 refine aW Tryz.func112 ?_;have hidx:=aSz l p i v lc n hn hlc hl H hh (fun x=>hf x H hg)
 have hilt:=aV hh trivial;have s1:=fun b=>aX hilt b
 have s2:=bE H i;by_cases h1:cQ p l= -1
 ·rw[h1]at hidx;repeat' first|((first|refine aZ (hidx) (cO) ?_|refine bA (hidx) (cO) ?_|refine bB (fun _=>hidx) (cO) ?_|refine gS ?_);simp only[go_sem,hh,Int.reduceEq])|refine gA ?_|(refine gD ?_ ?_<;>intro h<;>try exact aA h)|fail
  rw[aIJ h1,hn];exact⟨[],rfl,by rw[zAd];exact(cI hh trivial).symm⟩
 ·obtain⟨A,x,B,rfl,e2,e3,e4⟩:=aIK h1;rw[e2]at hidx;have hA:n=A.length+(B.length+1):=by simp[hn]
  have hd:decide (((A.length:Nat):Int)= -1)=false:=dF;have hw:IntKind.i64.wrap ((A.length:Int)+1)=((A.length+1:Nat):Int):=by rw[wI];rfl
  repeat' first|((first|refine aZ (hidx) (cO) ?_|refine bA (hidx) (cO) ?_|refine bB (fun _=>hidx) (cO) ?_|refine gS ?_);simp only[go_sem,hh,hd,hw])|refine gA ?_|(refine gD ?_ ?_<;>intro h<;>try exact aA h)|fail
  generalize hL:A++x::B=L at *;refine aI (ι:=Nat×Nat×List Int) (fun s=>[(0,.osl 1 i v 0 n lc),(1,.func fn fs cs),(5,.int .i64 s.1),(6,.int .i64 s.2.1)])
   (fun s=>aB H i (.cells v (s.2.2.map bK))) (fun s=>s.1<s.2.1∧s.2.1≤n∧s.2.2.length=n∧s.2.2.take s.1=(L.take s.2.1).filter (fun x=> !p x)∧s.2.2.drop s.2.1=L.drop s.2.1) (fun s=>n-s.2.1) (A.length,A.length+1,L)
   ⟨by simp,by simp only;omega,hn.symm,?_,rfl⟩ ?_ (cI hh trivial).symm ?_
  ·simp only;rw[←hL,zBA,show A++x::B=(A++[x])++B by simp,show A.length+1=(A++[x]).length by simp,zBA,zAY,e4];simp[e3]
  ·simp[go_sem]
  ·rintro⟨k,j,E⟩ ⟨w1,w2,w3,w4,w5⟩;simp only at w1 w2 w3 w4 w5 ⊢;have hE:(E.map bK).length=n:=by rw[zAn,w3]
   by_cases hj:j<n
   ·have hli:decide ((j:Int)<(n:Int))=true:=dT;have hjL:j<L.length:=by omega
    have hEj:E[j]'(by omega)=L[j]:=by
     have a:=zAi (l:=E) (i:=j) (by omega)
     have b:=zAi hjL;rw[w5,b]at a;exact(zBn a).1.symm
    have hgy:(E.map bK).getD j .top=.int .i64 L[j]:=by rw[aN bK (by omega),hEj];rfl
    have hw1:IntKind.i64.wrap ((j:Int)+1)=((j+1:Nat):Int):=by rw[wI];rfl
    have hw2:IntKind.i64.wrap ((k:Int)+1)=((k+1:Nat):Int):=by rw[wI];rfl
    have hset1:bG (E.map bK) k [.int .i64 L[j]]=(E.set k L[j]).map bK:=by
     have hkE:k<E.length:=by omega
     have e:=cD (A:=(E.take k).map bK) (B:=(E.drop k).map bK) (off:=k) (X:=[AV.int .i64 L[j]]) (by simp;omega)
     rw[←zA9,zAS]at e;rw[e,zBJ,zAl hkE,zA9,zAw,←zCI,zCs];rfl
    have etk:L.take (j+1)=L.take j++[L[j]]:=zAk hjL;have hb1:(j * 1<n)=True:=zAC (by omega)
    repeat' first|(refine gS ?_;simp only[go_sem,s1,s2,hli,hE,hgy,zAB])|refine gA ?_|(refine gD ?_ ?_<;>intro h<;>try exact aA h)|fail
    refine iV (hf L[j] _ (hGd _ _ hg)) ?_;cases hpj:p L[j]with
    |true=>
     simp only[go_sem];repeat' first|(refine gS ?_;simp only[go_sem])|refine gA ?_|(refine gD ?_ ?_<;>intro h<;>try exact aA h)|fail
     refine⟨(k,j+1,E),⟨by simp only;omega,by simp only;omega,w3,?_,?_⟩,by simp only;omega,⟨rfl,zAx _ hw1⟩,rfl⟩
     ·simp only;rw[etk,zAY,←w4,zA5,zAe (by simp[hpj])];simp
     ·simp only;have a:=zAi (l:=E) (i:=j) (by omega)
      have b:=zAi hjL;rw[w5,b]at a;exact(zBn a).2.symm
    |false=>
     simp only[go_sem];repeat' first|(refine gS ?_;simp only[go_sem,s1,s2,hE,hset1,zAB])|refine gA ?_|(refine gD ?_ ?_<;>intro h<;>try exact aA h)|fail
     refine⟨(k+1,j+1,E.set k L[j]),⟨by simp only;omega,by simp only;omega,by simp only[zAG];exact w3,?_,?_⟩,by simp only;omega,⟨zAx _ hw2,zAx _ hw1⟩,rfl⟩
     ·simp only;rw[etk,zAY,←w4,zA5,zAl (by simp[hpj]),zAk (by simp;omega),zBj,zCe (zAf _)]
      rfl
     ·simp only;rw[zCf (by omega)]
      have a:=zAi (l:=E) (i:=j) (by omega)
      have b:=zAi hjL;rw[w5,b]at a;exact(zBn a).2.symm
   ·have hje:j=n:=by omega
    subst hje;have hli:decide ((j:Int)<(j:Int))=false:=by simp
    repeat' first|(refine gS ?_;simp only[go_sem,s1,s2,hli,hE,zAB])|refine gA ?_|(refine gD ?_ ?_<;>intro h<;>try exact aA h)|fail
    rw[hn,zAD]at w4;have hk:k=(L.filter (fun x=> !p x)).length:=by rw[←w4,zAL];omega
    have hsp:=cD (A:=(L.filter (fun x=> !p x)).map bK) (B:=(E.drop k).map bK) (off:=k) (X:=List.flatMap AV.cells (List.replicate (j-k) (AV.int IntKind.i64 0))) (by rw[zAn,hk])
    rw[←zA9,←w4,zAS]at hsp;exact⟨_,by rw[←hk],by rw[hsp,w4]⟩
theorem aLo(kind lock:Int)(i:Nat)(G:AHeap)(hh:hget G i=.cells 0 [.int .i64 kind,.int .i64 lock])(x:Int):bH Tryz.prog 113 [.int .i64 x,.ref i 0 0] G (.bool (decide (x=lock))):=by
 refine fO Tryz.func113 ?_;repeat' first|(refine gS ?_;simp only[go_sem,hh])|refine gA ?_|(refine gD ?_ ?_<;>intro h<;>try exact aA h)|fail
 exact cL (.refl _)
theorem aHf(f1 f2 f3:Bool)(t:Thr)(u:Trn)(hs:ThS t)(H:AHeap):bH Tryz.prog 94 [pE f1 f2 f3 t,trA u] H (pE false false false (afterT t u)):=by
 obtain⟨X,hX⟩:∃X,X=pE false false false (afterT t u):=⟨_,rfl⟩;rw[←hX];refine fO Tryz.func94 ?_;have hwk:=aOl t.call hs.1;have hlen:=hs.2.1;simp only[dS]at hwk;repeat' first|(refine gS ?_;simp only[go_sem,pE,vS,trA])|refine gA ?_|(refine gD ?_ ?_<;>intro h<;>try exact aA h)|fail
 refine aR (aQD f1 f2 f3 t hs _) (cO) ?_;rintro v H' ⟨rfl,A,B,rfl⟩;obtain⟨uk,ul⟩:=u;simp only[go_sem,vS];rcases(show uk=1∨uk=2∨uk=3∨uk=5∨((uk=1)=False∧(uk=2)=False∧(uk=3)=False∧(uk=5)=False) by simp only[eq_iff_iff,iff_false];omega)with rfl|rfl|rfl|rfl|⟨e1,e2,e3,e5⟩
 ·have hq1:(∀e,e=AV.int .i64 ul→e.cells.length=1)=True:=zAC (fun e he=>by rw[he];rfl)
  have hq2:((t.has.length+1) * 8≤140737488355328)=True:=zAC (by omega)
  by_cases h1:t.has.length=1
  ·have hd:decide ((t.has.length:Int)=1)=true:=dT;cases hk:walksK t.call with
   |true=>
    rw[hk]at hwk;repeat' first|(refine gS ?_;simp only[go_sem,Int.reduceEq,hd,hq1,hq2,zAB])|refine gA ?_|(refine gD ?_ ?_<;>intro h<;>try exact aA h)|fail
    exact kR {t with at_:=IntKind.i64.wrap (t.at_+1),has:=t.has++[ul]} (v:=2) (cs:=t.has.map bK++[.int .i64 ul]) (by omega) (by simp only[go_sem]) (rest:=[]) (by simp[bK]) (by simp) (by rw[hX];simp[afterT,h1,hk])
   |false=>
    rw[hk]at hwk;repeat' first|(refine gS ?_;simp only[go_sem,Int.reduceEq,hd,hq1,hq2,zAB])|refine gA ?_|(refine gD ?_ ?_<;>intro h<;>try exact aA h)|fail
    exact kR {t with has:=t.has++[ul]} (v:=2) (cs:=t.has.map bK++[.int .i64 ul]) (by omega) (by simp only[go_sem]) (rest:=[]) (by simp[bK]) (by simp) (by rw[hX];simp[afterT,h1,hk])
  ·have hd:decide ((t.has.length:Int)=1)=false:=dF;repeat' first|(refine gS ?_;simp only[go_sem,Int.reduceEq,hd,hq1,hq2,zAB])|refine gA ?_|(refine gD ?_ ?_<;>intro h<;>try exact aA h)|fail
   exact kR {t with has:=t.has++[ul]} (v:=2) (cs:=t.has.map bK++[.int .i64 ul]) (by omega) (by simp only[go_sem]) (rest:=[]) (by simp[bK]) (by simp) (by rw[hX];simp[afterT,h1])
 ·repeat' first|(refine gS ?_;simp only[go_sem,Int.reduceEq])|refine gA ?_|(refine gD ?_ ?_<;>intro h<;>try exact aA h)|fail
  refine aR (aVS t.has (fun x=>decide (x=ul)) (H.length+5) 1 t.has.length t.has.length rfl (zAf _) (by omega) (fun G=>hget G (H.length+1)=.cells 0 [.int .i64 2,.int .i64 ul]) (fun G b hg=>aH hg (by omega) b) _ (by simp only[go_sem])
   (fun x G hg=>Or.inl ⟨(cO),aLo 2 ul _ G hg x⟩) (by simp only[go_sem])) (cO) ?_
  rintro v H' ⟨rest,rfl,rfl⟩;simp only[go_sem];obtain⟨F,hF⟩:∃F,t.has.filter (fun x=> !decide (x=ul))=F:=⟨_,rfl⟩
  rw[hF];have hcs:(List.map bK F++rest)=F.map bK++rest:=rfl;by_cases h1:F=[]
  ·have hd:decide ((F.length:Int)=0)=true:=by rw[h1];rfl
   cases hdn:t.done with
   |true=>
    repeat' first|(refine gS ?_;simp only[go_sem,Int.reduceEq,hd])|refine gA ?_|(refine gD ?_ ?_<;>intro h<;>try exact aA h)|fail
    exact kR {t with has:=F,done:=true} (by omega) (by simp only[go_sem]) hcs rfl (by rw[hX];simp[afterT,hF,hdn])
   |false=>
    cases hk:walksK t.call with
    |true=>
     rw[hk]at hwk;repeat' first|(refine gS ?_;simp only[go_sem,Int.reduceEq,hd])|refine gA ?_|(refine gD ?_ ?_<;>intro h<;>try exact aA h)|fail
     exact kR {t with has:=F,at_:=0,done:=false} (by omega) (by simp only[go_sem]) hcs rfl (by rw[hX];simp[afterT,hF,h1,hk,hdn])
    |false=>
     rw[hk]at hwk;repeat' first|(refine gS ?_;simp only[go_sem,Int.reduceEq,hd])|refine gA ?_|(refine gD ?_ ?_<;>intro h<;>try exact aA h)|fail
     exact kR {t with has:=F,done:=false} (by omega) (by simp only[go_sem]) hcs rfl (by rw[hX];simp[afterT,hF,hk,hdn])
  ·have hd:decide ((F.length:Int)=0)=false:=zAg (fun h=>h1 (zAE (by omega)))
   repeat' first|(refine gS ?_;simp only[go_sem,Int.reduceEq,hd])|refine gA ?_|(refine gD ?_ ?_<;>intro h<;>try exact aA h)|fail
   exact kR {t with has:=F} (by omega) (by simp only[go_sem]) hcs rfl (by rw[hX];simp[afterT,hF,h1])
 ·repeat' first|(refine gS ?_;simp only[go_sem,Int.reduceEq])|refine gA ?_|(refine gD ?_ ?_<;>intro h<;>try exact aA h)|fail
  exact kR {t with done:=true} (by omega) (by simp only[go_sem]) (zAd _).symm rfl (by rw[hX];rfl)
 ·repeat' first|(refine gS ?_;simp only[go_sem,Int.reduceEq])|refine gA ?_|(refine gD ?_ ?_<;>intro h<;>try exact aA h)|fail
  exact kR {t with ended:=true} (by omega) (by simp only[go_sem]) (zAd _).symm rfl (by rw[hX];rfl)
 ·repeat' first|(refine gS ?_;simp only[go_sem,Int.reduceEq,e1,e2,e3,e5])|refine gA ?_|(refine gD ?_ ?_<;>intro h<;>try exact aA h)|fail
  exact kR t (by omega) (by simp only[go_sem]) (zAd _).symm rfl (by rw[hX];simp[afterT,e1,e2,e3,e5])
end Go.Proofs.YtennnelammaapaaGreatDoor
