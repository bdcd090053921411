/- What the functions of this seat answer (13 of 38). No condition. -/
import Derived.Test.YtennnelammaapaaGreatDoorWorkAK
set_option linter.unusedSimpArgs false
set_option linter.unusedVariables false
set_option linter.unusedSectionVars false
set_option maxRecDepth 100000
set_option maxHeartbeats 16000000
namespace Go.Proofs.YtennnelammaapaaGreatDoor
section
def flA{α:Type}(enc:α→AV)(D:List α):List AV:=(D.map enc).flatMap AV.cells
section
variable {α:Type} {enc:α→AV} {s:Nat}
theorem aC5:flA enc []=[]:=rfl
theorem cB(A B:List α):flA enc (A++B)=flA enc A++flA enc B:=by simp[flA]
theorem fG(x:α)(B:List α):flA enc (x::B)=(enc x).cells++flA enc B:=by simp[flA]
theorem aU(hs:∀x,(enc x).cells.length=s)(D:List α):(flA enc D).length=D.length * s:=by
 induction D with
 |nil=>simp[flA]
 |cons x D ih=>rw[fG,zAa,ih,hs,zAc,zCy];omega
theorem aOo(hs:∀x,(enc x).cells.length=s){A R:List α}{x:α}{k:Nat}(h:A.length=k):List.take s (List.drop (k * s) (flA enc (A++x::R)))=(enc x).cells:=by
 have hl:=aU hs A;rw[h]at hl;rw[cB,←hl,List.drop_left,fG,←hs x,zBA]
theorem iM(hs:∀x,(enc x).cells.length=s){D:List α}{k:Nat}(h:k<D.length):List.take s (List.drop (k * s) (flA enc D))=(enc D[k]).cells:=by
 have e:D=D.take k++D[k]::D.drop (k+1):=by rw[←zAi h,zAS]
 have:=aOo hs (A:=D.take k) (R:=D.drop (k+1)) (x:=D[k]) (k:=k) (by rw[zAL];omega)
 rwa[←e]at this
theorem qF(hs:∀x,(enc x).cells.length=s){D:List α}{k:Nat}(h:k<D.length)(y:α):bG (flA enc D) (k * s) (enc y).cells=flA enc (D.set k y):=by
 have hl:=aU hs (D.take k);rw[zAL,zCb (by omega)]at hl
 have e:D=D.take k++(D[k]::D.drop (k+1)):=by rw[←zAi h,zAS]
 have e2:=cD (A:=flA enc (D.take k)) (B:=flA enc (D[k]::D.drop (k+1))) (off:=k * s) (X:=(enc y).cells) hl;rw[←cB,←e]at e2;rw[e2,zBJ,zAl h,cB,fG,fG,show(enc y).cells.length=(enc D[k]).cells.length by rw[hs,hs],List.drop_left]
theorem eY(hp:∀x,Pur (enc x))(D:List α):∀x∈flA enc D,Pur x:=fun x hx=>by
 unfold flA at hx;rw[zBC]at hx;obtain⟨y,hy,hx⟩:=hx;obtain⟨z, -,rfl⟩:=zAm.1 hy;exact Pur.cells (hp z) x hx
theorem rR(hp:∀x,Pur (enc x))(n v:Nat)(D:List α):ClB n (.cells v (flA enc D)):=fun x hx=>(eY hp D x hx).cl n
theorem eQ{l:List α}{p:α→Bool}(h:cQ p l= -1):l.filter (fun x=> !p x)=l:=by
 induction l with
 |nil=>rfl
 |cons x l ih=>
  unfold cQ at h;by_cases hp:p x=true
  ·rw[zAl hp]at h;cases h
  ·rw[zAe hp]at h;split at h
   ·rename_i h1;rw[zA5,zAl (by simp[hp]),ih h1]
   ·have:=vG p l;omega
theorem mO{l:List α}{p:α→Bool}(h:cQ p l≠ -1):∃A x B,l=A++x::B∧cQ p l=A.length∧p x=true∧A.filter (fun x=> !p x)=A:=by
 induction l with
 |nil=>exact absurd rfl h
 |cons x l ih=>
  by_cases hp:p x=true
  ·exact⟨[],x,l,rfl,by simp[cQ,hp],hp,rfl⟩
  ·unfold cQ at h ⊢;rw[zAe hp]at h ⊢;by_cases h1:cQ p l= -1
   ·rw[zAl h1]at h;exact absurd rfl h
   ·rw[zAe h1];obtain⟨A,y,B,e1,e2,e3,e4⟩:=ih h1;exact⟨x::A,y,B,by rw[e1];rfl,by rw[e2];simp,e3,by rw[zA5,zAl (by simp[hp]),e4]⟩
end
end
section
theorem oS(l:List Nd):∀e∈l.map ndA,e.cells.length=8:=fun e he=>by
 obtain⟨x,_,rfl⟩:=zAm.1 he;rfl
theorem vW(l:List Nd):(∀e∈l.map ndA,e.cells.length=8)=True:=zAC (oS l)
theorem aBh(l:List Nd):∀e∈l.map ndA,Pur e:=fun e he=>by
 obtain⟨x,_,rfl⟩:=zAm.1 he;first|exact(by simp only[go_sem])|(simp only[ndA];exact(by simp only[go_sem]))
theorem aFG(b:Bool)(l:List Nd)(hl:l.length≤1073741824)(H:AHeap):bH Tryz.prog 157 [.sl b (l.map ndA)] H (.sl false (l.map ndA)):=by
 refine fO Tryz.func157 ?_;repeat' first|(refine gS ?_;simp only[go_sem])|refine gA ?_|(refine gD ?_ ?_<;>intro h<;>try exact aA h)|fail
 intro c hc;cases c with
 |true=>
  have hnil:l=[]:=by
   cases l with
   |nil=>rfl
   |cons x l=>exact absurd (hc (by simp)) (by decide)
  subst hnil;repeat' first|(refine gS ?_;simp only[go_sem])|refine gA ?_|(refine gD ?_ ?_<;>intro h<;>try exact aA h)|fail
  exact cL (.sl _ _)
 |false=>
  clear hc;repeat' first|(refine gS ?_;simp only[go_sem,vW])|refine gA ?_|(refine gD ?_ ?_<;>intro h<;>try exact aA h)|fail
  exact iU (cs:=List.flatMap AV.cells (List.map ndA l)) (es:=l.map ndA) (rest:=[]) (zAf _) (by simp only[go_sem]) (zAd _).symm (by rw[zAn]) (oS _) (aBh _) rfl
theorem aCs(b:Bool)(l:List Snp)(hl:l.length≤1073741824)(H:AHeap):
  ACalls Tryz.prog 158 [.sl b (l.map iG)] H (fun v H'=>v=.osl 2 H.length 1 0 l.length l.length∧H'=H++[.cells 1 (flA iG l)]):=by
 refine aQ Tryz.func158 ?_;have hcl:∀n,ClB n (.cells 1 (flA iG l)):=fun n=>rR (fun x=>by simp only[go_sem]) n 1 l
 have fin:∀v H',v=.osl 2 H.length 1 0 l.length l.length→H'=H++[.cells 1 (flA iG l)]→∃H1 L y,H'=H1++L∧H.length≤H1.length∧(∀(i:Nat) (b:ABlk),H1[i]?=some b→H[i]?=some b∨ClB H1.length b)∧Frz H1.length H' v y∧
   y=.osl 2 H.length 1 0 l.length l.length∧H1=H++[.cells 1 (flA iG l)]:=by
  rintro v H' rfl rfl;exact⟨_,[],_,(zAd _).symm,by simp,jU fun b hb=>by(rw[zAq]at hb;subst hb;exact hcl _),.cl _ (.osl _ _ _ _ _ _ (by simp)),rfl,rfl⟩
 have hfl:List.flatMap AV.cells (l.map iG)=flA iG l:=rfl;repeat' first|(refine gS ?_;simp only[go_sem])|refine gA ?_|(refine gD ?_ ?_<;>intro h<;>try exact aA h)|fail
 intro c hc;cases c with
 |true=>
  have hnil:l=[]:=by
   cases l with
   |nil=>rfl
   |cons x l=>exact absurd (hc (by simp)) (by decide)
  subst hnil;repeat' first|(refine gS ?_;simp only[go_sem])|refine gA ?_|fail
  refine eJ rfl (fun _=>?_) (fun h=>by cases h)
  refine pF ?_;refine dR rfl ?_;simp only[go_sem];refine jR 2 2 rfl ?_;repeat' first|(refine gS ?_;simp only[go_sem])|refine gA ?_|(refine gD ?_ ?_<;>intro h<;>try exact aA h)|fail
  exact fin _ _ rfl rfl
 |false=>
  clear hc;have hc1:(∀e∈l.map iG,e.cells.length=2)=True:=zAC fun e he=>by(obtain⟨x,_,rfl⟩:=zAm.1 he;rfl)
  have hl8:(l.length * 32≤140737488355328)=True:=zAC (by omega)
  repeat' first|(refine gS ?_;simp only[go_sem,hc1,hfl,hl8,zCW,true_or])|refine gA ?_|(refine gD ?_ ?_<;>intro h<;>try exact aA h)|fail
  exact fin _ _ rfl rfl
theorem tD(b:Bool)(l:List Wch)(hl:l.length≤1073741824)(H:AHeap):
  ACalls Tryz.prog 132 [.sl b (l.map dJ)] H (fun v H'=>v=.osl 4 H.length 1 0 l.length l.length∧H'=H++[.cells 1 (flA dJ l)]):=by
 refine aQ Tryz.func132 ?_;have hcl:∀n,ClB n (.cells 1 (flA dJ l)):=fun n=>rR (fun x=>by simp only[go_sem]) n 1 l
 have fin:∀v H',v=.osl 4 H.length 1 0 l.length l.length→H'=H++[.cells 1 (flA dJ l)]→∃H1 L y,H'=H1++L∧H.length≤H1.length∧(∀(i:Nat) (b:ABlk),H1[i]?=some b→H[i]?=some b∨ClB H1.length b)∧Frz H1.length H' v y∧
   y=.osl 4 H.length 1 0 l.length l.length∧H1=H++[.cells 1 (flA dJ l)]:=by
  rintro v H' rfl rfl;exact⟨_,[],_,(zAd _).symm,by simp,jU fun b hb=>by(rw[zAq]at hb;subst hb;exact hcl _),.cl _ (.osl _ _ _ _ _ _ (by simp)),rfl,rfl⟩
 have hfl:List.flatMap AV.cells (l.map dJ)=flA dJ l:=rfl;repeat' first|(refine gS ?_;simp only[go_sem])|refine gA ?_|(refine gD ?_ ?_<;>intro h<;>try exact aA h)|fail
 intro c hc;cases c with
 |true=>
  have hnil:l=[]:=by
   cases l with
   |nil=>rfl
   |cons x l=>exact absurd (hc (by simp)) (by decide)
  subst hnil;repeat' first|(refine gS ?_;simp only[go_sem])|refine gA ?_|fail
  refine eJ rfl (fun _=>?_) (fun h=>by cases h)
  refine pF ?_;refine dR rfl ?_;simp only[go_sem];refine jR 2 4 rfl ?_;repeat' first|(refine gS ?_;simp only[go_sem])|refine gA ?_|(refine gD ?_ ?_<;>intro h<;>try exact aA h)|fail
  exact fin _ _ rfl rfl
 |false=>
  clear hc;have hc1:(∀e∈l.map dJ,e.cells.length=4)=True:=zAC fun e he=>by(obtain⟨x,_,rfl⟩:=zAm.1 he;rfl)
  have hl8:(l.length * 48≤140737488355328)=True:=zAC (by omega)
  repeat' first|(refine gS ?_;simp only[go_sem,hc1,hfl,hl8,zCW,true_or])|refine gA ?_|(refine gD ?_ ?_<;>intro h<;>try exact aA h)|fail
  exact fin _ _ rfl rfl
theorem aEk(b:Bool)(l:List Snp)(fn:Fn)(fs cs:List AV)(p:Snp→Bool)(H:AHeap)(hf:∀c,FnV Tryz.prog (.func fn fs cs) [iG c] H (.bool (p c))):
  bH Tryz.prog 188 [.sl b (l.map iG),.func fn fs cs] H (.int .i64 (cQ p l)):=by
 refine fP fun hok _=>?_
 have hl:=jQ hok;rw[zAn]at hl;simp only[iG]at hf;refine fO Tryz.func188 ?_;repeat' first|(refine gS ?_;simp only[go_sem])|refine gA ?_|(refine gD ?_ ?_<;>intro h<;>try exact aA h)|fail
 refine aI (ι:=Nat) (fun i=>[(0,.sl b (l.map iG)),(1,.func fn fs cs),(7,.int .i64 l.length),(8,.int .i64 i)]) (fun _=>H) (fun i=>i≤l.length∧∀k (hk:k<i) (hk2:k<l.length),p l[k]=false) (fun i=>l.length-i) 0 ⟨zAo _,fun k hk=>by omega⟩ ?_ rfl ?_
 ·simp[go_sem]
 ·rintro i ⟨hi,hno⟩;by_cases hlt:i<l.length
  ·have hp:=aN iG hlt;repeat' first|(refine gS ?_;simp only[go_sem,hp,iG])|refine gA ?_|(refine gD ?_ ?_<;>intro h<;>try exact aA h)|fail
   refine kU (hf _) ?_;simp only[go_sem];repeat' first|(refine gS ?_;simp only[go_sem])|refine gA ?_|(refine gD ?_ ?_<;>intro h<;>try exact aA h)|fail
   ·exact cL (.of (by rw[eV p l i hlt (fun k hk=>hno k hk (by omega)) h]))
   ·refine⟨i+1,⟨hlt,fun k hk hk2=>?_⟩,by omega,by rw[wI];rfl⟩
    by_cases e:k=i
    ·subst e;exact h
    ·exact hno k (by omega) hk2
  ·have hi':i=l.length:=by omega
   repeat' first|(refine gS ?_;simp only[go_sem])|refine gA ?_|(refine gD ?_ ?_<;>intro h<;>try exact aA h)|fail
   subst hi';exact cL (.of (by rw[eW p l fun k hk=>hno k hk hk]))
theorem aOp(b:Bool)(l:List Snp)(fn:Fn)(fs cs:List AV)(p:Snp→Bool)(H:AHeap)(hf:∀c,FnV Tryz.prog (.func fn fs cs) [iG c] H (.bool (p c))):
  bH Tryz.prog 161 [.sl b (l.map iG),.func fn fs cs] H (.bool (l.any p)):=by
 refine fO Tryz.func161 ?_;have hx:=aEk b l fn fs cs p H hf;repeat' first|((first|refine aZ (hx) (cO) ?_|refine bA (hx) (cO) ?_|refine bB (fun _=>hx) (cO) ?_|refine gS ?_);simp only[go_sem])|refine gA ?_|(refine gD ?_ ?_<;>intro h<;>try exact aA h)|fail
 exact cL (.of (by rw[jW]))
theorem zI(b:Bool)(l:List Wch)(fn:Fn)(fs cs:List AV)(p:Wch→Bool)(H:AHeap)(hf:∀c,FnV Tryz.prog (.func fn fs cs) [dJ c] H (.bool (p c))):
  bH Tryz.prog 165 [.sl b (l.map dJ),.func fn fs cs] H (.int .i64 (cQ p l)):=by
 refine fP fun hok _=>?_
 have hl:=jQ hok;rw[zAn]at hl;simp only[dJ]at hf;refine fO Tryz.func165 ?_;repeat' first|(refine gS ?_;simp only[go_sem])|refine gA ?_|(refine gD ?_ ?_<;>intro h<;>try exact aA h)|fail
 refine aI (ι:=Nat) (fun i=>[(0,.sl b (l.map dJ)),(1,.func fn fs cs),(7,.int .i64 l.length),(8,.int .i64 i)]) (fun _=>H) (fun i=>i≤l.length∧∀k (hk:k<i) (hk2:k<l.length),p l[k]=false) (fun i=>l.length-i) 0 ⟨zAo _,fun k hk=>by omega⟩ ?_ rfl ?_
 ·simp[go_sem]
 ·rintro i ⟨hi,hno⟩;by_cases hlt:i<l.length
  ·have hp:=aN dJ hlt;repeat' first|(refine gS ?_;simp only[go_sem,hp,dJ])|refine gA ?_|(refine gD ?_ ?_<;>intro h<;>try exact aA h)|fail
   refine kU (hf _) ?_;simp only[go_sem];repeat' first|(refine gS ?_;simp only[go_sem])|refine gA ?_|(refine gD ?_ ?_<;>intro h<;>try exact aA h)|fail
   ·exact cL (.of (by rw[eV p l i hlt (fun k hk=>hno k hk (by omega)) h]))
   ·refine⟨i+1,⟨hlt,fun k hk hk2=>?_⟩,by omega,by rw[wI];rfl⟩
    by_cases e:k=i
    ·subst e;exact h
    ·exact hno k (by omega) hk2
  ·have hi':i=l.length:=by omega
   repeat' first|(refine gS ?_;simp only[go_sem])|refine gA ?_|(refine gD ?_ ?_<;>intro h<;>try exact aA h)|fail
   subst hi';exact cL (.of (by rw[eW p l fun k hk=>hno k hk hk]))
theorem aOq(b:Bool)(l:List Wch)(fn:Fn)(fs cs:List AV)(p:Wch→Bool)(H:AHeap)(hf:∀c,FnV Tryz.prog (.func fn fs cs) [dJ c] H (.bool (p c))):
  bH Tryz.prog 162 [.sl b (l.map dJ),.func fn fs cs] H (.bool (l.any p)):=by
 refine fO Tryz.func162 ?_;have hx:=zI b l fn fs cs p H hf;repeat' first|((first|refine aZ (hx) (cO) ?_|refine bA (hx) (cO) ?_|refine bB (fun _=>hx) (cO) ?_|refine gS ?_);simp only[go_sem])|refine gA ?_|(refine gD ?_ ?_<;>intro h<;>try exact aA h)|fail
 exact cL (.of (by rw[jW]))
theorem aOr(l:List Snp)(p:Snp→Bool)(i v lc n:Nat)(hn:n=l.length)(hlc:n≤lc)(hl:n≤1073741824){fn:Fn}{fs cs:List AV}(H:AHeap)(hh:hget H i=.cells v (flA iG l))
  (hf:∀x,ACall Tryz.prog (.func fn fs cs) [iG x] H (fun r G'=>r=.bool (p x)∧G'=H)):
  bH Tryz.prog 188 [.osl 2 i v 0 n lc,.func fn fs cs] H (.int .i64 (cQ p l)):=by
 refine fO Tryz.func188 ?_;have hln:(flA iG l).length=n * 2:=by rw[aU (s:=2) (fun _=>rfl),hn]
 have hf':=hf;simp only[iG]at hf';repeat' first|(refine gS ?_;simp only[go_sem,hh])|refine gA ?_|(refine gD ?_ ?_<;>intro h<;>try exact aA h)|fail
 refine aI (ι:=Nat) (fun k=>[(0,.osl 2 i v 0 n lc),(1,.func fn fs cs),(7,.int .i64 n),(8,.int .i64 k)]) (fun _=>H) (fun k=>k≤n∧∀q (hk:q<k) (hk2:q<l.length),p l[q]=false) (fun k=>n-k) 0 ⟨zAo _,fun q hk=>by omega⟩ ?_ rfl ?_
 ·simp[go_sem]
 ·rintro k ⟨hk,hno⟩;by_cases hlt:k<l.length
  ·have hp:=iM (enc:=iG) (s:=2) (fun _=>rfl) hlt
   simp only[iG,AV.cells]at hp;have hli:decide ((k:Int)<(n:Int))=true:=dT;have hw:=aS hlt (by omega)
   repeat' first|(refine gS ?_;simp only[go_sem,hh,hli,hp,hln])|refine gA ?_|(refine gD ?_ ?_<;>intro h<;>try exact aA h)|fail
   refine iV (hf' l[k]) ?_;simp only[go_sem];repeat' first|(refine gS ?_;simp only[go_sem])|refine gA ?_|(refine gD ?_ ?_<;>intro h<;>try exact aA h)|fail
   ·exact cL (.of (by rw[eV p l k hlt (fun q hq=>hno q hq (by omega)) (by assumption)]))
   ·refine⟨k+1,⟨by omega,fun q hq hq2=>?_⟩,by omega,zAx _ hw⟩
    by_cases e:q=k
    ·subst e;assumption
    ·exact hno q (by omega) (by omega)
  ·have hi':k=n:=by omega
   subst hi';have hli:decide ((k:Int)<(k:Int))=false:=by simp
   repeat' first|(refine gS ?_;simp only[go_sem,hh,hli])|refine gA ?_|(refine gD ?_ ?_<;>intro h<;>try exact aA h)|fail
   exact cL (.of (by rw[eW p l fun q hk=>hno q (by omega) hk]))
theorem aOs(l:List Wch)(p:Wch→Bool)(i v lc n:Nat)(hn:n=l.length)(hlc:n≤lc)(hl:n≤1073741824){fn:Fn}{fs cs:List AV}(H:AHeap)(hh:hget H i=.cells v (flA dJ l))
  (hf:∀x,ACall Tryz.prog (.func fn fs cs) [dJ x] H (fun r G'=>r=.bool (p x)∧G'=H)):
  bH Tryz.prog 165 [.osl 4 i v 0 n lc,.func fn fs cs] H (.int .i64 (cQ p l)):=by
 refine fO Tryz.func165 ?_;have hln:(flA dJ l).length=n * 4:=by rw[aU (s:=4) (fun _=>rfl),hn]
 have hf':=hf;simp only[dJ]at hf';repeat' first|(refine gS ?_;simp only[go_sem,hh])|refine gA ?_|(refine gD ?_ ?_<;>intro h<;>try exact aA h)|fail
 refine aI (ι:=Nat) (fun k=>[(0,.osl 4 i v 0 n lc),(1,.func fn fs cs),(7,.int .i64 n),(8,.int .i64 k)]) (fun _=>H) (fun k=>k≤n∧∀q (hk:q<k) (hk2:q<l.length),p l[q]=false) (fun k=>n-k) 0 ⟨zAo _,fun q hk=>by omega⟩ ?_ rfl ?_
 ·simp[go_sem]
 ·rintro k ⟨hk,hno⟩;by_cases hlt:k<l.length
  ·have hp:=iM (enc:=dJ) (s:=4) (fun _=>rfl) hlt
   simp only[dJ,AV.cells]at hp;have hli:decide ((k:Int)<(n:Int))=true:=dT;have hw:=aS hlt (by omega)
   repeat' first|(refine gS ?_;simp only[go_sem,hh,hli,hp,hln])|refine gA ?_|(refine gD ?_ ?_<;>intro h<;>try exact aA h)|fail
   refine iV (hf' l[k]) ?_;simp only[go_sem];repeat' first|(refine gS ?_;simp only[go_sem])|refine gA ?_|(refine gD ?_ ?_<;>intro h<;>try exact aA h)|fail
   ·exact cL (.of (by rw[eV p l k hlt (fun q hq=>hno q hq (by omega)) (by assumption)]))
   ·refine⟨k+1,⟨by omega,fun q hq hq2=>?_⟩,by omega,zAx _ hw⟩
    by_cases e:q=k
    ·subst e;assumption
    ·exact hno q (by omega) (by omega)
  ·have hi':k=n:=by omega
   subst hi';have hli:decide ((k:Int)<(k:Int))=false:=by simp
   repeat' first|(refine gS ?_;simp only[go_sem,hh,hli])|refine gA ?_|(refine gD ?_ ?_<;>intro h<;>try exact aA h)|fail
   exact cL (.of (by rw[eW p l fun q hk=>hno q (by omega) hk]))
theorem aOt(l:List Opn)(p:Opn→Bool)(i v lc n:Nat)(hn:n=l.length)(hlc:n≤lc)(hl:n≤1073741824){fn:Fn}{fs cs:List AV}(H:AHeap)(hh:hget H i=.cells v (flA opA l))
  (hf:∀x,ACall Tryz.prog (.func fn fs cs) [opA x] H (fun r G'=>r=.bool (p x)∧G'=H)):
  bH Tryz.prog 192 [.osl 7 i v 0 n lc,.func fn fs cs] H (.int .i64 (cQ p l)):=by
 refine fO Tryz.func192 ?_;have hln:(flA opA l).length=n * 7:=by rw[aU (s:=7) (fun _=>rfl),hn]
 have hf':=hf;simp only[opA]at hf';repeat' first|(refine gS ?_;simp only[go_sem,hh])|refine gA ?_|(refine gD ?_ ?_<;>intro h<;>try exact aA h)|fail
 refine aI (ι:=Nat) (fun k=>[(0,.osl 7 i v 0 n lc),(1,.func fn fs cs),(7,.int .i64 n),(8,.int .i64 k)]) (fun _=>H) (fun k=>k≤n∧∀q (hk:q<k) (hk2:q<l.length),p l[q]=false) (fun k=>n-k) 0 ⟨zAo _,fun q hk=>by omega⟩ ?_ rfl ?_
 ·simp[go_sem]
 ·rintro k ⟨hk,hno⟩;by_cases hlt:k<l.length
  ·have hp:=iM (enc:=opA) (s:=7) (fun _=>rfl) hlt
   simp only[opA,AV.cells]at hp;have hli:decide ((k:Int)<(n:Int))=true:=dT;have hw:=aS hlt (by omega)
   repeat' first|(refine gS ?_;simp only[go_sem,hh,hli,hp,hln])|refine gA ?_|(refine gD ?_ ?_<;>intro h<;>try exact aA h)|fail
   refine iV (hf' l[k]) ?_;simp only[go_sem];repeat' first|(refine gS ?_;simp only[go_sem])|refine gA ?_|(refine gD ?_ ?_<;>intro h<;>try exact aA h)|fail
   ·exact cL (.of (by rw[eV p l k hlt (fun q hq=>hno q hq (by omega)) (by assumption)]))
   ·refine⟨k+1,⟨by omega,fun q hq hq2=>?_⟩,by omega,zAx _ hw⟩
    by_cases e:q=k
    ·subst e;assumption
    ·exact hno q (by omega) (by omega)
  ·have hi':k=n:=by omega
   subst hi';have hli:decide ((k:Int)<(k:Int))=false:=by simp
   repeat' first|(refine gS ?_;simp only[go_sem,hh,hli])|refine gA ?_|(refine gD ?_ ?_<;>intro h<;>try exact aA h)|fail
   exact cL (.of (by rw[eW p l fun q hk=>hno q (by omega) hk]))
theorem aOu(l:List Snp)(p:Snp→Bool)(i v lc n:Nat)(hn:n=l.length)(hlc:n≤lc)(hl:n≤1073741824){fn:Fn}{fs cs:List AV}(Gd:AHeap→Prop)(hGd:∀G b,Gd G→Gd (aB G i b))(hGa:∀G L,Gd G→Gd (G++L))(H:AHeap)(hh:hget H i=.cells v (flA iG l))
  (hf:∀x G,Gd G→ACall Tryz.prog (.func fn fs cs) [iG x] G (fun r G'=>r=.bool (p x)∧G'=G)) (hg:Gd H):
  ACalls Tryz.prog 163 [.osl 2 i v 0 n lc,.func fn fs cs] H (fun r H'=>∃rest,r=.osl 2 i v 0 (l.filter (fun x=> !p x)).length lc∧H'=aB H i (.cells v (flA iG (l.filter (fun x=> !p x))++rest))):=by
 refine aO Tryz.func163 ?_;have hidx:=aOr l p i v lc n hn hlc hl H hh (fun x=>hf x H hg)
 have hilt:=aV hh trivial;have hf':=hf;simp only[iG]at hf';by_cases h1:cQ p l= -1
 ·rw[h1]at hidx;repeat' first|((first|refine aZ (hidx) (cO) ?_|refine bA (hidx) (cO) ?_|refine bB (fun _=>hidx) (cO) ?_|refine gS ?_);simp only[go_sem,hh,Int.reduceEq])|refine gA ?_|(refine gD ?_ ?_<;>intro h<;>try exact aA h)|fail
  refine⟨H,[],_,(zAd _).symm,rfl,fun k b hk=>.inl hk,.cl _ (.osl _ _ _ _ _ _ hilt),[],?_,?_⟩
  ·rw[eQ h1,hn]
  ·rw[eQ h1,zAd];exact(cI hh trivial).symm
 ·obtain⟨A,x,B,rfl,e2,e3,e4⟩:=mO h1;rw[e2]at hidx;have hA:n=A.length+(B.length+1):=by simp[hn]
  have hd:decide (((A.length:Nat):Int)= -1)=false:=dF;have hw:IntKind.i64.wrap ((A.length:Int)+1)=((A.length+1:Nat):Int):=by rw[wI];rfl
  repeat' first|((first|refine aZ (hidx) (cO) ?_|refine bA (hidx) (cO) ?_|refine bB (fun _=>hidx) (cO) ?_|refine gS ?_);simp only[go_sem,hh,hd,hw])|refine gA ?_|(refine gD ?_ ?_<;>intro h<;>try exact aA h)|fail
  generalize hL:A++x::B=L at *;refine aI (ι:=Nat×Nat×List Snp×AHeap) (fun s=>[(0,.osl 2 i v 0 n lc),(1,.func fn fs cs),(5,.int .i64 s.1),(6,.int .i64 s.2.1)])
   (fun s=>aB H i (.cells v (flA iG s.2.2.1))++s.2.2.2) (fun s=>s.1<s.2.1∧s.2.1≤n∧s.2.2.1.length=n∧s.2.2.1.take s.1=(L.take s.2.1).filter (fun x=> !p x)∧s.2.2.1.drop s.2.1=L.drop s.2.1) (fun s=>n-s.2.1) (A.length,A.length+1,L,[])
   ⟨by simp,by simp only;omega,hn.symm,?_,rfl⟩ ?_ (by rw[zAd];exact(cI hh trivial).symm) ?_
  ·simp only;rw[←hL,zBA,show A++x::B=(A++[x])++B by simp,show A.length+1=(A++[x]).length by simp,zBA,zAY,e4];simp[e3]
  ·simp[go_sem]
  ·rintro⟨k,j,E,M⟩ ⟨w1,w2,w3,w4,w5⟩;simp only at w1 w2 w3 w4 w5 ⊢;obtain⟨G,hG⟩:∃G,aB H i (.cells v (flA iG E))++M=G:=⟨_,rfl⟩;rw[hG];have g0:hget G i=.cells v (flA iG E):=by rw[←hG];exact aD (b:=.cells v (flA iG E)) (aX hilt _) trivial M
   have g1:=aG g0 trivial;have g2:=cC g0 trivial;have gg:Gd G:=by rw[←hG];exact hGa _ _ (hGd _ _ hg)
   have gs:∀X,aB G i X=aB H i X++M:=fun X=>by rw[←hG,bD (by rw[aC];exact hilt),bE]
   have hE:(flA iG E).length=n * 2:=by rw[aU (s:=2) (fun _=>rfl),w3]
   by_cases hj:j<n
   ·have hli:decide ((j:Int)<(n:Int))=true:=dT;have hjL:j<L.length:=by omega
    have hEj:E[j]'(by omega)=L[j]:=by
     have a:=zAi (l:=E) (i:=j) (by omega)
     have b:=zAi hjL;rw[w5,b]at a;exact(zBn a).1.symm
    have hgy:=iM (enc:=iG) (s:=2) (fun _=>rfl) (D:=E) (k:=j) (by omega)
    rw[hEj]at hgy;simp only[iG,AV.cells]at hgy;have hw1:IntKind.i64.wrap ((j:Int)+1)=((j+1:Nat):Int):=by rw[wI];rfl
    have hw2:IntKind.i64.wrap ((k:Int)+1)=((k+1:Nat):Int):=by rw[wI];rfl
    have hset1:=qF (enc:=iG) (s:=2) (fun _=>rfl) (D:=E) (k:=k) (by omega) L[j]
    simp only[iG,AV.cells]at hset1;have etk:L.take (j+1)=L.take j++[L[j]]:=zAk hjL;repeat' first|(refine gS ?_;simp only[go_sem,g0,g1,hli,hE,hgy])|refine gA ?_|(refine gD ?_ ?_<;>intro h<;>try exact aA h)|fail
    refine iV (hf' L[j] _ (hGa _ _ gg)) ?_;cases hpj:p L[j]with
    |true=>
     simp only[go_sem];repeat' first|(refine gS ?_;simp only[go_sem])|refine gA ?_|(refine gD ?_ ?_<;>intro h<;>try exact aA h)|fail
     refine⟨(k,j+1,E,M++[.cells 0 (iG L[j]).cells]),⟨by simp only;omega,by simp only;omega,w3,?_,?_⟩,by simp only;omega,⟨rfl,zAx _ hw1⟩,?_⟩
     ·simp only;rw[etk,zAY,←w4,zA5,zAe (by simp[hpj])];simp
     ·simp only;have a:=zAi (l:=E) (i:=j) (by omega)
      have b:=zAi hjL;rw[w5,b]at a;exact(zBn a).2.symm
     ·show G++[.cells 0 (iG L[j]).cells]=_;rw[←hG,zAr]
    |false=>
     simp only[go_sem];repeat' first|(refine gS ?_;simp only[go_sem,g0,g1,g2,hE,hset1])|refine gA ?_|(refine gD ?_ ?_<;>intro h<;>try exact aA h)|fail
     refine⟨(k+1,j+1,E.set k L[j],M++[.cells 0 (iG L[j]).cells]),⟨by simp only;omega,by simp only;omega,by simp only[zAG];exact w3,?_,?_⟩,by simp only;omega,⟨zAx _ hw2,zAx _ hw1⟩,?_⟩
     ·simp only;rw[etk,zAY,←w4,zA5,zAl (by simp[hpj]),zAk (by simp;omega),zBj,zCe (zAf _)]
      rfl
     ·simp only;rw[zCf (by omega)]
      have a:=zAi (l:=E) (i:=j) (by omega)
      have b:=zAi hjL;rw[w5,b]at a;exact(zBn a).2.symm
     ·show aB G i (.cells v (flA iG (E.set k L[j])))++[.cells 0 (iG L[j]).cells]=_;rw[gs,zAr]
   ·have hje:j=n:=by omega
    subst hje;have hli:decide ((j:Int)<(j:Int))=false:=by simp
    repeat' first|(refine gS ?_;simp only[go_sem,g0,g1,g2,hli,hE])|refine gA ?_|(refine gD ?_ ?_<;>intro h<;>try exact aA h)|fail
    rw[hn,zAD]at w4;obtain⟨F,hF⟩:∃F,F=L.filter (fun x=> !p x):=⟨_,rfl⟩
    rw[←hF]at w4 ⊢;have hk:k=F.length:=by rw[←w4,zAL];omega
    have hFl:=aU (enc:=iG) (s:=2) (fun _=>rfl) F
    have hsp:∀Z:List AV,∃rest,bG (flA iG E) (k * 2) Z=flA iG F++rest∧∀m,(∀x∈Z,Cl m x)→∀x∈rest,Cl m x:=fun Z=>by
     have e:=cD (A:=flA iG F) (B:=flA iG (E.drop k)) (off:=k * 2) (X:=Z) (by rw[hFl,hk])
     rw[←cB,←w4,zAS]at e;rw[w4]at e;refine⟨Z++(flA iG (E.drop k)).drop Z.length,e,fun m hz x hx=>?_⟩
     rcases zAy.1 hx with hx|hx
     ·exact hz x hx
     ·exact(eY (fun x=>by simp only[go_sem]) (E.drop k) x (zBq hx)).cl m
    obtain⟨rest,hr,hz⟩:=hsp (List.flatMap AV.cells (List.replicate (j-k) (.agg [.int .i64 0,.sl true []])));rw[hr,gs];have gM:∀c,hget (aB H i (.cells v c)++M) i=.cells v c:=fun c=>aD (b:=.cells v c) (aX hilt _) trivial M
    simp only[gM];refine⟨⟨trivial,by omega,by omega⟩,?_⟩
    repeat' first|(refine gS ?_;simp only[go_sem])|refine gA ?_|(refine gD ?_ ?_<;>intro h<;>try exact aA h)|fail
    refine⟨_,M,_,rfl,by rw[aC],dW ?_,.cl _ (.osl _ _ _ _ _ _ hilt),rest,by rw[hk],rfl⟩
    intro x hx;rcases zAy.1 hx with hx|hx
    ·exact(eY (fun x=>by simp only[go_sem]) F x hx).cl _
    ·refine hz _ (fun x hx=>?_) x hx
     rw[zBC]at hx;obtain⟨e,he,hx⟩:=hx;rw[zCj]at he;obtain⟨-,rfl⟩:=he;simp only[AV.cells,zAs,zAH,zBv]at hx;rcases hx with rfl|rfl<;>first|exact .int _ _|exact .bool _|exact .str _|exact(Pur.sl _ _ (fun _ h=>by cases h)).cl _
theorem aOv(l:List Wch)(p:Wch→Bool)(i v lc n:Nat)(hn:n=l.length)(hlc:n≤lc)(hl:n≤1073741824){fn:Fn}{fs cs:List AV}(Gd:AHeap→Prop)(hGd:∀G b,Gd G→Gd (aB G i b))(hGa:∀G L,Gd G→Gd (G++L))(H:AHeap)(hh:hget H i=.cells v (flA dJ l))
  (hf:∀x G,Gd G→ACall Tryz.prog (.func fn fs cs) [dJ x] G (fun r G'=>r=.bool (p x)∧G'=G)) (hg:Gd H):
  ACalls Tryz.prog 164 [.osl 4 i v 0 n lc,.func fn fs cs] H (fun r H'=>∃rest,r=.osl 4 i v 0 (l.filter (fun x=> !p x)).length lc∧H'=aB H i (.cells v (flA dJ (l.filter (fun x=> !p x))++rest))):=by
 refine aO Tryz.func164 ?_;have hidx:=aOs l p i v lc n hn hlc hl H hh (fun x=>hf x H hg)
 have hilt:=aV hh trivial;have hf':=hf;simp only[dJ]at hf';by_cases h1:cQ p l= -1
 ·rw[h1]at hidx;repeat' first|((first|refine aZ (hidx) (cO) ?_|refine bA (hidx) (cO) ?_|refine bB (fun _=>hidx) (cO) ?_|refine gS ?_);simp only[go_sem,hh,Int.reduceEq])|refine gA ?_|(refine gD ?_ ?_<;>intro h<;>try exact aA h)|fail
  refine⟨H,[],_,(zAd _).symm,rfl,fun k b hk=>.inl hk,.cl _ (.osl _ _ _ _ _ _ hilt),[],?_,?_⟩
  ·rw[eQ h1,hn]
  ·rw[eQ h1,zAd];exact(cI hh trivial).symm
 ·obtain⟨A,x,B,rfl,e2,e3,e4⟩:=mO h1;rw[e2]at hidx;have hA:n=A.length+(B.length+1):=by simp[hn]
  have hd:decide (((A.length:Nat):Int)= -1)=false:=dF;have hw:IntKind.i64.wrap ((A.length:Int)+1)=((A.length+1:Nat):Int):=by rw[wI];rfl
  repeat' first|((first|refine aZ (hidx) (cO) ?_|refine bA (hidx) (cO) ?_|refine bB (fun _=>hidx) (cO) ?_|refine gS ?_);simp only[go_sem,hh,hd,hw])|refine gA ?_|(refine gD ?_ ?_<;>intro h<;>try exact aA h)|fail
  generalize hL:A++x::B=L at *;refine aI (ι:=Nat×Nat×List Wch×AHeap) (fun s=>[(0,.osl 4 i v 0 n lc),(1,.func fn fs cs),(5,.int .i64 s.1),(6,.int .i64 s.2.1)])
   (fun s=>aB H i (.cells v (flA dJ s.2.2.1))++s.2.2.2) (fun s=>s.1<s.2.1∧s.2.1≤n∧s.2.2.1.length=n∧s.2.2.1.take s.1=(L.take s.2.1).filter (fun x=> !p x)∧s.2.2.1.drop s.2.1=L.drop s.2.1) (fun s=>n-s.2.1) (A.length,A.length+1,L,[])
   ⟨by simp,by simp only;omega,hn.symm,?_,rfl⟩ ?_ (by rw[zAd];exact(cI hh trivial).symm) ?_
  ·simp only;rw[←hL,zBA,show A++x::B=(A++[x])++B by simp,show A.length+1=(A++[x]).length by simp,zBA,zAY,e4];simp[e3]
  ·simp[go_sem]
  ·rintro⟨k,j,E,M⟩ ⟨w1,w2,w3,w4,w5⟩;simp only at w1 w2 w3 w4 w5 ⊢;obtain⟨G,hG⟩:∃G,aB H i (.cells v (flA dJ E))++M=G:=⟨_,rfl⟩;rw[hG];have g0:hget G i=.cells v (flA dJ E):=by rw[←hG];exact aD (b:=.cells v (flA dJ E)) (aX hilt _) trivial M
   have g1:=aG g0 trivial;have g2:=cC g0 trivial;have gg:Gd G:=by rw[←hG];exact hGa _ _ (hGd _ _ hg)
   have gs:∀X,aB G i X=aB H i X++M:=fun X=>by rw[←hG,bD (by rw[aC];exact hilt),bE]
   have hE:(flA dJ E).length=n * 4:=by rw[aU (s:=4) (fun _=>rfl),w3]
   by_cases hj:j<n
   ·have hli:decide ((j:Int)<(n:Int))=true:=dT;have hjL:j<L.length:=by omega
    have hEj:E[j]'(by omega)=L[j]:=by
     have a:=zAi (l:=E) (i:=j) (by omega)
     have b:=zAi hjL;rw[w5,b]at a;exact(zBn a).1.symm
    have hgy:=iM (enc:=dJ) (s:=4) (fun _=>rfl) (D:=E) (k:=j) (by omega)
    rw[hEj]at hgy;simp only[dJ,AV.cells]at hgy;have hw1:IntKind.i64.wrap ((j:Int)+1)=((j+1:Nat):Int):=by rw[wI];rfl
    have hw2:IntKind.i64.wrap ((k:Int)+1)=((k+1:Nat):Int):=by rw[wI];rfl
    have hset1:=qF (enc:=dJ) (s:=4) (fun _=>rfl) (D:=E) (k:=k) (by omega) L[j]
    simp only[dJ,AV.cells]at hset1;have etk:L.take (j+1)=L.take j++[L[j]]:=zAk hjL;repeat' first|(refine gS ?_;simp only[go_sem,g0,g1,hli,hE,hgy])|refine gA ?_|(refine gD ?_ ?_<;>intro h<;>try exact aA h)|fail
    refine iV (hf' L[j] _ (hGa _ _ gg)) ?_;cases hpj:p L[j]with
    |true=>
     simp only[go_sem];repeat' first|(refine gS ?_;simp only[go_sem])|refine gA ?_|(refine gD ?_ ?_<;>intro h<;>try exact aA h)|fail
     refine⟨(k,j+1,E,M++[.cells 0 (dJ L[j]).cells]),⟨by simp only;omega,by simp only;omega,w3,?_,?_⟩,by simp only;omega,⟨rfl,zAx _ hw1⟩,?_⟩
     ·simp only;rw[etk,zAY,←w4,zA5,zAe (by simp[hpj])];simp
     ·simp only;have a:=zAi (l:=E) (i:=j) (by omega)
      have b:=zAi hjL;rw[w5,b]at a;exact(zBn a).2.symm
     ·show G++[.cells 0 (dJ L[j]).cells]=_;rw[←hG,zAr]
    |false=>
     simp only[go_sem];repeat' first|(refine gS ?_;simp only[go_sem,g0,g1,g2,hE,hset1])|refine gA ?_|(refine gD ?_ ?_<;>intro h<;>try exact aA h)|fail
     refine⟨(k+1,j+1,E.set k L[j],M++[.cells 0 (dJ L[j]).cells]),⟨by simp only;omega,by simp only;omega,by simp only[zAG];exact w3,?_,?_⟩,by simp only;omega,⟨zAx _ hw2,zAx _ hw1⟩,?_⟩
     ·simp only;rw[etk,zAY,←w4,zA5,zAl (by simp[hpj]),zAk (by simp;omega),zBj,zCe (zAf _)]
      rfl
     ·simp only;rw[zCf (by omega)]
      have a:=zAi (l:=E) (i:=j) (by omega)
      have b:=zAi hjL;rw[w5,b]at a;exact(zBn a).2.symm
     ·show aB G i (.cells v (flA dJ (E.set k L[j])))++[.cells 0 (dJ L[j]).cells]=_;rw[gs,zAr]
   ·have hje:j=n:=by omega
    subst hje;have hli:decide ((j:Int)<(j:Int))=false:=by simp
    repeat' first|(refine gS ?_;simp only[go_sem,g0,g1,g2,hli,hE])|refine gA ?_|(refine gD ?_ ?_<;>intro h<;>try exact aA h)|fail
    rw[hn,zAD]at w4;obtain⟨F,hF⟩:∃F,F=L.filter (fun x=> !p x):=⟨_,rfl⟩
    rw[←hF]at w4 ⊢;have hk:k=F.length:=by rw[←w4,zAL];omega
    have hFl:=aU (enc:=dJ) (s:=4) (fun _=>rfl) F
    have hsp:∀Z:List AV,∃rest,bG (flA dJ E) (k * 4) Z=flA dJ F++rest∧∀m,(∀x∈Z,Cl m x)→∀x∈rest,Cl m x:=fun Z=>by
     have e:=cD (A:=flA dJ F) (B:=flA dJ (E.drop k)) (off:=k * 4) (X:=Z) (by rw[hFl,hk])
     rw[←cB,←w4,zAS]at e;rw[w4]at e;refine⟨Z++(flA dJ (E.drop k)).drop Z.length,e,fun m hz x hx=>?_⟩
     rcases zAy.1 hx with hx|hx
     ·exact hz x hx
     ·exact(eY (fun x=>by simp only[go_sem]) (E.drop k) x (zBq hx)).cl m
    obtain⟨rest,hr,hz⟩:=hsp (List.flatMap AV.cells (List.replicate (j-k) (.agg [.int .i64 0,.int .i64 0,.sl true [],.bool false])));rw[hr,gs];have gM:∀c,hget (aB H i (.cells v c)++M) i=.cells v c:=fun c=>aD (b:=.cells v c) (aX hilt _) trivial M
    simp only[gM];refine⟨⟨trivial,by omega,by omega⟩,?_⟩
    repeat' first|(refine gS ?_;simp only[go_sem])|refine gA ?_|(refine gD ?_ ?_<;>intro h<;>try exact aA h)|fail
    refine⟨_,M,_,rfl,by rw[aC],dW ?_,.cl _ (.osl _ _ _ _ _ _ hilt),rest,by rw[hk],rfl⟩
    intro x hx;rcases zAy.1 hx with hx|hx
    ·exact(eY (fun x=>by simp only[go_sem]) F x hx).cl _
    ·refine hz _ (fun x hx=>?_) x hx
     rw[zBC]at hx;obtain⟨e,he,hx⟩:=hx;rw[zCj]at he;obtain⟨-,rfl⟩:=he;simp only[AV.cells,zAs,zAH,zBv]at hx;rcases hx with rfl|rfl|rfl|rfl<;>first|exact .int _ _|exact .bool _|exact .str _|exact(Pur.sl _ _ (fun _ h=>by cases h)).cl _
end
end Go.Proofs.YtennnelammaapaaGreatDoor
