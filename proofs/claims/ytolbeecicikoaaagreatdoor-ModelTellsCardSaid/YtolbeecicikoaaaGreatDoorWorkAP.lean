/- The texts 16 of 53 beneath the rows of this seat (joined by program): the abstract machine, and what the functions answer. No condition. -/
import Derived.Test.YtolbeecicikoaaaGreatDoorWorkAE
import Derived.Test.YtolbeecicikoaaaGreatDoorWorkAN
set_option linter.unusedSimpArgs false
set_option linter.unusedVariables false
set_option linter.unusedSectionVars false
set_option maxRecDepth 100000
set_option maxHeartbeats 16000000
namespace Go.Proofs.YtolbeecicikoaaaGreatDoor
def flA{α:Type}(enc:α→AV)(D:List α):List AV:=(D.map enc).flatMap AV.cells
section
variable {α:Type} {enc:α→AV} {s:Nat}
theorem vO:flA enc []=[]:=rfl
theorem fC(A B:List α):flA enc (A++B)=flA enc A++flA enc B:=by simp[flA]
theorem fD(x:α)(B:List α):flA enc (x::B)=(enc x).cells++flA enc B:=by simp[flA]
theorem bQ(hs:∀x,(enc x).cells.length=s)(D:List α):(flA enc D).length=D.length * s:=by
 induction D with
 |nil=>simp[flA]
 |cons x D ih=>rw[fD,zAe,ih,hs,zAm,zCC];omega
theorem aNk(hs:∀x,(enc x).cells.length=s){A R:List α}{x:α}{k:Nat}(h:A.length=k):List.take s (List.drop (k * s) (flA enc (A++x::R)))=(enc x).cells:=by
 have hl:=bQ hs A
 rw[h]at hl
 rw[fC,←hl,List.drop_left,fD,←hs x,zCw]
theorem aAV(hs:∀x,(enc x).cells.length=s){D:List α}{k:Nat}(h:k<D.length):List.take s (List.drop (k * s) (flA enc D))=(enc D[k]).cells:=by
 have e:D=D.take k++D[k]::D.drop (k+1):=by rw[←zAk h,zBl]
 have:=aNk hs (A:=D.take k) (R:=D.drop (k+1)) (x:=D[k]) (k:=k) (by rw[zAy];omega)
 rwa[←e]at this
theorem aGx(hs:∀x,(enc x).cells.length=s){D:List α}{k:Nat}(h:k<D.length)(y:α):cH (flA enc D) (k * s) (enc y).cells=flA enc (D.set k y):=by
 have hl:=bQ hs (D.take k)
 rw[zAy,Nat.min_eq_left (by omega)]at hl
 have e:D=D.take k++(D[k]::D.drop (k+1)):=by rw[←zAk h,zBl]
 have e2:=fG (A:=flA enc (D.take k)) (B:=flA enc (D[k]::D.drop (k+1))) (off:=k * s) (X:=(enc y).cells) hl
 rw[←fC,←e]at e2
 rw[e2,List.set_eq_take_append_cons_drop,zAc h,fC,fD,fD,show(enc y).cells.length=(enc D[k]).cells.length by rw[hs,hs],List.drop_left]
theorem mK(hp:∀x,Pur (enc x))(D:List α):∀x∈flA enc D,Pur x:=fun x hx=>by
 unfold flA at hx
 rw[zBG]at hx
 obtain⟨y,hy,hx⟩:=hx
 obtain⟨z, -,rfl⟩:=zAi.1 hy
 exact Pur.cells (hp z) x hx
theorem aFc(hp:∀x,Pur (enc x))(n v:Nat)(D:List α):ClB n (.cells v (flA enc D)):=fun x hx=>(mK hp D x hx).cl n
theorem nP{l:List α}{p:α→Bool}(h:gX p l= -1):l.filter (fun x=> !p x)=l:=by
 induction l with
 |nil=>rfl
 |cons x l ih=>
  unfold gX at h
  by_cases hp:p x=true
  ·rw[zAc hp]at h;cases h
  ·rw[zAb hp]at h
   split at h
   ·rename_i h1;rw[zBA,zAc (by simp[hp]),ih h1]
   ·have:=aGb p l;omega
theorem tX{l:List α}{p:α→Bool}(h:gX p l≠ -1):∃A x B,l=A++x::B∧gX p l=A.length∧p x=true∧A.filter (fun x=> !p x)=A:=by
 induction l with
 |nil=>exact absurd rfl h
 |cons x l ih=>
  by_cases hp:p x=true
  ·exact⟨[],x,l,rfl,by simp[gX,hp],hp,rfl⟩
  ·unfold gX at h ⊢
   rw[zAb hp]at h ⊢
   by_cases h1:gX p l= -1
   ·rw[zAc h1]at h;exact absurd rfl h
   ·rw[zAb h1]
    obtain⟨A,y,B,e1,e2,e3,e4⟩:=ih h1
    exact⟨x::A,y,B,by rw[e1];rfl,by rw[e2];simp,e3,by rw[zBA,zAc (by simp[hp]),e4]⟩
end
end Go.Proofs.YtolbeecicikoaaaGreatDoor
namespace Go.Proofs.YtolbeecicikoaaaGreatDoor
theorem pE(l:List Nd):∀e∈l.map ndA,e.cells.length=8:=fun e he=>by
 obtain⟨x,_,rfl⟩:=zAi.1 he;rfl
theorem vP(l:List Nd):(∀e∈l.map ndA,e.cells.length=8)=True:=zAI (pE l)
theorem aAW(l:List Nd):∀e∈l.map ndA,Pur e:=fun e he=>by
 obtain⟨x,_,rfl⟩:=zAi.1 he;first|exact(by simp only[go_sem])|(simp only[ndA];exact(by simp only[go_sem]))
theorem aFd(b:Bool)(l:List Nd)(hl:l.length≤1073741824)(H:AHeap):bD Tryz.prog 102 [.sl b (l.map ndA)] H (.sl false (l.map ndA)):=by
 refine fO Tryz.func102 ?_
 repeat' first|(refine gS ?_;simp only[go_sem])|refine gA ?_|(refine gD (fun h=>?_) (fun h=>?_)<;>try exact aA h)|fail
 intro c hc
 cases c with
 |true=>
  have hnil:l=[]:=by
   cases l with
   |nil=>rfl
   |cons x l=>exact absurd (hc (by simp)) (by decide)
  subst hnil
  repeat' first|(refine gS ?_;simp only[go_sem])|refine gA ?_|(refine gD (fun h=>?_) (fun h=>?_)<;>try exact aA h)|fail
  exact bL (.sl _ _)
 |false=>
  clear hc
  repeat' first|(refine gS ?_;simp only[go_sem,vP])|refine gA ?_|(refine gD (fun h=>?_) (fun h=>?_)<;>try exact aA h)|fail
  exact fN (cs:=List.flatMap AV.cells (List.map ndA l)) (es:=l.map ndA) (rest:=[]) (zAh _) (by simp only[go_sem]) (zAg _).symm (by rw[zAj]) (pE _) (aAW _) rfl
theorem aBV(b:Bool)(l:List Snp)(hl:l.length≤1073741824)(H:AHeap):
  ACalls Tryz.prog 103 [.sl b (l.map dP)] H (fun v H'=>v=.osl 2 H.length 1 0 l.length l.length∧H'=H++[.cells 1 (flA dP l)]):=by
 refine aQ Tryz.func103 ?_
 have hcl:∀n,ClB n (.cells 1 (flA dP l)):=fun n=>aFc (fun x=>by simp only[go_sem]) n 1 l
 have fin:∀v H',v=.osl 2 H.length 1 0 l.length l.length→H'=H++[.cells 1 (flA dP l)]→∃H1 L y,H'=H1++L∧H.length≤H1.length∧(∀(i:Nat) (b:ABlk),H1[i]?=some b→H[i]?=some b∨ClB H1.length b)∧Frz H1.length H' v y∧
   y=.osl 2 H.length 1 0 l.length l.length∧H1=H++[.cells 1 (flA dP l)]:=by
  rintro v H' rfl rfl
  exact⟨_,[],_,(zAg _).symm,by simp,aAz fun b hb=>by(rw[zAx]at hb;subst hb;exact hcl _),.cl _ (.osl _ _ _ _ _ _ (by simp)),rfl,rfl⟩
 have hfl:List.flatMap AV.cells (l.map dP)=flA dP l:=rfl
 repeat' first|(refine gS ?_;simp only[go_sem])|refine gA ?_|(refine gD (fun h=>?_) (fun h=>?_)<;>try exact aA h)|fail
 intro c hc
 cases c with
 |true=>
  have hnil:l=[]:=by
   cases l with
   |nil=>rfl
   |cons x l=>exact absurd (hc (by simp)) (by decide)
  subst hnil
  repeat' first|(refine gS ?_;simp only[go_sem])|refine gA ?_|fail
  refine iR rfl (fun _=>?_) (fun h=>by cases h)
  refine aAe ?_
  refine kS rfl ?_
  simp only[go_sem]
  refine gI 2 2 rfl ?_
  repeat' first|(refine gS ?_;simp only[go_sem])|refine gA ?_|(refine gD (fun h=>?_) (fun h=>?_)<;>try exact aA h)|fail
  exact fin _ _ rfl rfl
 |false=>
  clear hc
  have hc1:(∀e∈l.map dP,e.cells.length=2)=True:=zAI fun e he=>by(obtain⟨x,_,rfl⟩:=zAi.1 he;rfl)
  have hl8:(l.length * 32≤140737488355328)=True:=zAI (by omega)
  repeat' first|(refine gS ?_;simp only[go_sem,hc1,hfl,hl8,Classical.em,true_or])|refine gA ?_|(refine gD (fun h=>?_) (fun h=>?_)<;>try exact aA h)|fail
  exact fin _ _ rfl rfl
theorem sN(b:Bool)(l:List Wch)(hl:l.length≤1073741824)(H:AHeap):
  ACalls Tryz.prog 58 [.sl b (l.map cD)] H (fun v H'=>v=.osl 4 H.length 1 0 l.length l.length∧H'=H++[.cells 1 (flA cD l)]):=by
 refine aQ Tryz.func58 ?_
 have hcl:∀n,ClB n (.cells 1 (flA cD l)):=fun n=>aFc (fun x=>by simp only[go_sem]) n 1 l
 have fin:∀v H',v=.osl 4 H.length 1 0 l.length l.length→H'=H++[.cells 1 (flA cD l)]→∃H1 L y,H'=H1++L∧H.length≤H1.length∧(∀(i:Nat) (b:ABlk),H1[i]?=some b→H[i]?=some b∨ClB H1.length b)∧Frz H1.length H' v y∧
   y=.osl 4 H.length 1 0 l.length l.length∧H1=H++[.cells 1 (flA cD l)]:=by
  rintro v H' rfl rfl
  exact⟨_,[],_,(zAg _).symm,by simp,aAz fun b hb=>by(rw[zAx]at hb;subst hb;exact hcl _),.cl _ (.osl _ _ _ _ _ _ (by simp)),rfl,rfl⟩
 have hfl:List.flatMap AV.cells (l.map cD)=flA cD l:=rfl
 repeat' first|(refine gS ?_;simp only[go_sem])|refine gA ?_|(refine gD (fun h=>?_) (fun h=>?_)<;>try exact aA h)|fail
 intro c hc
 cases c with
 |true=>
  have hnil:l=[]:=by
   cases l with
   |nil=>rfl
   |cons x l=>exact absurd (hc (by simp)) (by decide)
  subst hnil
  repeat' first|(refine gS ?_;simp only[go_sem])|refine gA ?_|fail
  refine iR rfl (fun _=>?_) (fun h=>by cases h)
  refine aAe ?_
  refine kS rfl ?_
  simp only[go_sem]
  refine gI 2 4 rfl ?_
  repeat' first|(refine gS ?_;simp only[go_sem])|refine gA ?_|(refine gD (fun h=>?_) (fun h=>?_)<;>try exact aA h)|fail
  exact fin _ _ rfl rfl
 |false=>
  clear hc
  have hc1:(∀e∈l.map cD,e.cells.length=4)=True:=zAI fun e he=>by(obtain⟨x,_,rfl⟩:=zAi.1 he;rfl)
  have hl8:(l.length * 48≤140737488355328)=True:=zAI (by omega)
  repeat' first|(refine gS ?_;simp only[go_sem,hc1,hfl,hl8,Classical.em,true_or])|refine gA ?_|(refine gD (fun h=>?_) (fun h=>?_)<;>try exact aA h)|fail
  exact fin _ _ rfl rfl
theorem aDS(b:Bool)(l:List Snp)(fn:Fn)(fs cs:List AV)(p:Snp→Bool)(H:AHeap)(hf:∀c,FnV Tryz.prog (.func fn fs cs) [dP c] H (.bool (p c))):
  bD Tryz.prog 155 [.sl b (l.map dP),.func fn fs cs] H (.int .i64 (gX p l)):=by
 refine eR fun hok _=>?_
 have hl:=jB hok
 rw[zAj]at hl
 simp only[dP]at hf
 refine fO Tryz.func155 ?_
 repeat' first|(refine gS ?_;simp only[go_sem])|refine gA ?_|(refine gD (fun h=>?_) (fun h=>?_)<;>try exact aA h)|fail
 refine aH (ι:=Nat) (fun i=>[(0,.sl b (l.map dP)),(1,.func fn fs cs),(7,.int .i64 l.length),(8,.int .i64 i)]) (fun _=>H) (fun i=>i≤l.length∧∀k (hk:k<i) (hk2:k<l.length),p l[k]=false) (fun i=>l.length-i) 0 ⟨zAn _,fun k hk=>by omega⟩ ?_ rfl ?_
 ·simp[go_sem]
 ·rintro i ⟨hi,hno⟩
  by_cases hlt:i<l.length
  ·have hp:=aJ dP hlt
   repeat' first|(refine gS ?_;simp only[go_sem,hp,dP])|refine gA ?_|(refine gD (fun h=>?_) (fun h=>?_)<;>try exact aA h)|fail
   refine rF (hf _) ?_
   simp only[go_sem]
   repeat' first|(refine gS ?_;simp only[go_sem])|refine gA ?_|(refine gD (fun h=>?_) (fun h=>?_)<;>try exact aA h)|fail
   ·exact bL (.of (by rw[mF p l i hlt (fun k hk=>hno k hk (by omega)) h]))
   ·refine⟨i+1,⟨hlt,fun k hk hk2=>?_⟩,by omega,by rw[wI];rfl⟩
    by_cases e:k=i
    ·subst e;exact h
    ·exact hno k (by omega) hk2
  ·have hi':i=l.length:=by omega
   repeat' first|(refine gS ?_;simp only[go_sem])|refine gA ?_|(refine gD (fun h=>?_) (fun h=>?_)<;>try exact aA h)|fail
   subst hi'
   exact bL (.of (by rw[mG p l fun k hk=>hno k hk hk]))
theorem aNl(b:Bool)(l:List Snp)(fn:Fn)(fs cs:List AV)(p:Snp→Bool)(H:AHeap)(hf:∀c,FnV Tryz.prog (.func fn fs cs) [dP c] H (.bool (p c))):
  bD Tryz.prog 106 [.sl b (l.map dP),.func fn fs cs] H (.bool (l.any p)):=by
 refine fO Tryz.func106 ?_
 have hx:=aDS b l fn fs cs p H hf
 repeat' first|((first|refine aY (hx) (cO) ?_|refine aZ (hx) (cO) ?_|refine bA (fun _=>hx) (cO) ?_|refine gS ?_);simp only[go_sem])|refine gA ?_|(refine gD (fun h=>?_) (fun h=>?_)<;>try exact aA h)|fail
 exact bL (.of (by rw[oV]))
theorem yV(b:Bool)(l:List Wch)(fn:Fn)(fs cs:List AV)(p:Wch→Bool)(H:AHeap)(hf:∀c,FnV Tryz.prog (.func fn fs cs) [cD c] H (.bool (p c))):
  bD Tryz.prog 110 [.sl b (l.map cD),.func fn fs cs] H (.int .i64 (gX p l)):=by
 refine eR fun hok _=>?_
 have hl:=jB hok
 rw[zAj]at hl
 simp only[cD]at hf
 refine fO Tryz.func110 ?_
 repeat' first|(refine gS ?_;simp only[go_sem])|refine gA ?_|(refine gD (fun h=>?_) (fun h=>?_)<;>try exact aA h)|fail
 refine aH (ι:=Nat) (fun i=>[(0,.sl b (l.map cD)),(1,.func fn fs cs),(7,.int .i64 l.length),(8,.int .i64 i)]) (fun _=>H) (fun i=>i≤l.length∧∀k (hk:k<i) (hk2:k<l.length),p l[k]=false) (fun i=>l.length-i) 0 ⟨zAn _,fun k hk=>by omega⟩ ?_ rfl ?_
 ·simp[go_sem]
 ·rintro i ⟨hi,hno⟩
  by_cases hlt:i<l.length
  ·have hp:=aJ cD hlt
   repeat' first|(refine gS ?_;simp only[go_sem,hp,cD])|refine gA ?_|(refine gD (fun h=>?_) (fun h=>?_)<;>try exact aA h)|fail
   refine rF (hf _) ?_
   simp only[go_sem]
   repeat' first|(refine gS ?_;simp only[go_sem])|refine gA ?_|(refine gD (fun h=>?_) (fun h=>?_)<;>try exact aA h)|fail
   ·exact bL (.of (by rw[mF p l i hlt (fun k hk=>hno k hk (by omega)) h]))
   ·refine⟨i+1,⟨hlt,fun k hk hk2=>?_⟩,by omega,by rw[wI];rfl⟩
    by_cases e:k=i
    ·subst e;exact h
    ·exact hno k (by omega) hk2
  ·have hi':i=l.length:=by omega
   repeat' first|(refine gS ?_;simp only[go_sem])|refine gA ?_|(refine gD (fun h=>?_) (fun h=>?_)<;>try exact aA h)|fail
   subst hi'
   exact bL (.of (by rw[mG p l fun k hk=>hno k hk hk]))
theorem aNm(b:Bool)(l:List Wch)(fn:Fn)(fs cs:List AV)(p:Wch→Bool)(H:AHeap)(hf:∀c,FnV Tryz.prog (.func fn fs cs) [cD c] H (.bool (p c))):
  bD Tryz.prog 107 [.sl b (l.map cD),.func fn fs cs] H (.bool (l.any p)):=by
 refine fO Tryz.func107 ?_
 have hx:=yV b l fn fs cs p H hf
 repeat' first|((first|refine aY (hx) (cO) ?_|refine aZ (hx) (cO) ?_|refine bA (fun _=>hx) (cO) ?_|refine gS ?_);simp only[go_sem])|refine gA ?_|(refine gD (fun h=>?_) (fun h=>?_)<;>try exact aA h)|fail
 exact bL (.of (by rw[oV]))
theorem aNn(l:List Snp)(p:Snp→Bool)(i v lc n:Nat)(hn:n=l.length)(hlc:n≤lc)(hl:n≤1073741824){fn:Fn}{fs cs:List AV}(H:AHeap)(hh:hget H i=.cells v (flA dP l))
  (hf:∀x,ACall Tryz.prog (.func fn fs cs) [dP x] H (fun r G'=>r=.bool (p x)∧G'=H)):
  bD Tryz.prog 155 [.osl 2 i v 0 n lc,.func fn fs cs] H (.int .i64 (gX p l)):=by
 refine fO Tryz.func155 ?_
 have hln:(flA dP l).length=n * 2:=by rw[bQ (s:=2) (fun _=>rfl),hn]
 have hf':=hf
 simp only[dP]at hf'
 repeat' first|(refine gS ?_;simp only[go_sem,hh])|refine gA ?_|(refine gD (fun h=>?_) (fun h=>?_)<;>try exact aA h)|fail
 refine aH (ι:=Nat) (fun k=>[(0,.osl 2 i v 0 n lc),(1,.func fn fs cs),(7,.int .i64 n),(8,.int .i64 k)]) (fun _=>H) (fun k=>k≤n∧∀q (hk:q<k) (hk2:q<l.length),p l[q]=false) (fun k=>n-k) 0 ⟨zAn _,fun q hk=>by omega⟩ ?_ rfl ?_
 ·simp[go_sem]
 ·rintro k ⟨hk,hno⟩
  by_cases hlt:k<l.length
  ·have hp:=aAV (enc:=dP) (s:=2) (fun _=>rfl) hlt
   simp only[dP,AV.cells]at hp
   have hli:decide ((k:Int)<(n:Int))=true:=dT
   have hw:=aK hlt (by omega)
   repeat' first|(refine gS ?_;simp only[go_sem,hh,hli,hp,hln])|refine gA ?_|(refine gD (fun h=>?_) (fun h=>?_)<;>try exact aA h)|fail
   refine uU (hf' l[k]) ?_
   simp only[go_sem]
   repeat' first|(refine gS ?_;simp only[go_sem])|refine gA ?_|(refine gD (fun h=>?_) (fun h=>?_)<;>try exact aA h)|fail
   ·exact bL (.of (by rw[mF p l k hlt (fun q hq=>hno q hq (by omega)) (by assumption)]))
   ·refine⟨k+1,⟨by omega,fun q hq hq2=>?_⟩,by omega,zAp _ hw⟩
    by_cases e:q=k
    ·subst e;assumption
    ·exact hno q (by omega) (by omega)
  ·have hi':k=n:=by omega
   subst hi'
   have hli:decide ((k:Int)<(k:Int))=false:=by simp
   repeat' first|(refine gS ?_;simp only[go_sem,hh,hli])|refine gA ?_|(refine gD (fun h=>?_) (fun h=>?_)<;>try exact aA h)|fail
   exact bL (.of (by rw[mG p l fun q hk=>hno q (by omega) hk]))
theorem aNo(l:List Wch)(p:Wch→Bool)(i v lc n:Nat)(hn:n=l.length)(hlc:n≤lc)(hl:n≤1073741824){fn:Fn}{fs cs:List AV}(H:AHeap)(hh:hget H i=.cells v (flA cD l))
  (hf:∀x,ACall Tryz.prog (.func fn fs cs) [cD x] H (fun r G'=>r=.bool (p x)∧G'=H)):
  bD Tryz.prog 110 [.osl 4 i v 0 n lc,.func fn fs cs] H (.int .i64 (gX p l)):=by
 refine fO Tryz.func110 ?_
 have hln:(flA cD l).length=n * 4:=by rw[bQ (s:=4) (fun _=>rfl),hn]
 have hf':=hf
 simp only[cD]at hf'
 repeat' first|(refine gS ?_;simp only[go_sem,hh])|refine gA ?_|(refine gD (fun h=>?_) (fun h=>?_)<;>try exact aA h)|fail
 refine aH (ι:=Nat) (fun k=>[(0,.osl 4 i v 0 n lc),(1,.func fn fs cs),(7,.int .i64 n),(8,.int .i64 k)]) (fun _=>H) (fun k=>k≤n∧∀q (hk:q<k) (hk2:q<l.length),p l[q]=false) (fun k=>n-k) 0 ⟨zAn _,fun q hk=>by omega⟩ ?_ rfl ?_
 ·simp[go_sem]
 ·rintro k ⟨hk,hno⟩
  by_cases hlt:k<l.length
  ·have hp:=aAV (enc:=cD) (s:=4) (fun _=>rfl) hlt
   simp only[cD,AV.cells]at hp
   have hli:decide ((k:Int)<(n:Int))=true:=dT
   have hw:=aK hlt (by omega)
   repeat' first|(refine gS ?_;simp only[go_sem,hh,hli,hp,hln])|refine gA ?_|(refine gD (fun h=>?_) (fun h=>?_)<;>try exact aA h)|fail
   refine uU (hf' l[k]) ?_
   simp only[go_sem]
   repeat' first|(refine gS ?_;simp only[go_sem])|refine gA ?_|(refine gD (fun h=>?_) (fun h=>?_)<;>try exact aA h)|fail
   ·exact bL (.of (by rw[mF p l k hlt (fun q hq=>hno q hq (by omega)) (by assumption)]))
   ·refine⟨k+1,⟨by omega,fun q hq hq2=>?_⟩,by omega,zAp _ hw⟩
    by_cases e:q=k
    ·subst e;assumption
    ·exact hno q (by omega) (by omega)
  ·have hi':k=n:=by omega
   subst hi'
   have hli:decide ((k:Int)<(k:Int))=false:=by simp
   repeat' first|(refine gS ?_;simp only[go_sem,hh,hli])|refine gA ?_|(refine gD (fun h=>?_) (fun h=>?_)<;>try exact aA h)|fail
   exact bL (.of (by rw[mG p l fun q hk=>hno q (by omega) hk]))
theorem aNp(l:List Opn)(p:Opn→Bool)(i v lc n:Nat)(hn:n=l.length)(hlc:n≤lc)(hl:n≤1073741824){fn:Fn}{fs cs:List AV}(H:AHeap)(hh:hget H i=.cells v (flA opA l))
  (hf:∀x,ACall Tryz.prog (.func fn fs cs) [opA x] H (fun r G'=>r=.bool (p x)∧G'=H)):
  bD Tryz.prog 159 [.osl 7 i v 0 n lc,.func fn fs cs] H (.int .i64 (gX p l)):=by
 refine fO Tryz.func159 ?_
 have hln:(flA opA l).length=n * 7:=by rw[bQ (s:=7) (fun _=>rfl),hn]
 have hf':=hf
 simp only[opA]at hf'
 repeat' first|(refine gS ?_;simp only[go_sem,hh])|refine gA ?_|(refine gD (fun h=>?_) (fun h=>?_)<;>try exact aA h)|fail
 refine aH (ι:=Nat) (fun k=>[(0,.osl 7 i v 0 n lc),(1,.func fn fs cs),(7,.int .i64 n),(8,.int .i64 k)]) (fun _=>H) (fun k=>k≤n∧∀q (hk:q<k) (hk2:q<l.length),p l[q]=false) (fun k=>n-k) 0 ⟨zAn _,fun q hk=>by omega⟩ ?_ rfl ?_
 ·simp[go_sem]
 ·rintro k ⟨hk,hno⟩
  by_cases hlt:k<l.length
  ·have hp:=aAV (enc:=opA) (s:=7) (fun _=>rfl) hlt
   simp only[opA,AV.cells]at hp
   have hli:decide ((k:Int)<(n:Int))=true:=dT
   have hw:=aK hlt (by omega)
   repeat' first|(refine gS ?_;simp only[go_sem,hh,hli,hp,hln])|refine gA ?_|(refine gD (fun h=>?_) (fun h=>?_)<;>try exact aA h)|fail
   refine uU (hf' l[k]) ?_
   simp only[go_sem]
   repeat' first|(refine gS ?_;simp only[go_sem])|refine gA ?_|(refine gD (fun h=>?_) (fun h=>?_)<;>try exact aA h)|fail
   ·exact bL (.of (by rw[mF p l k hlt (fun q hq=>hno q hq (by omega)) (by assumption)]))
   ·refine⟨k+1,⟨by omega,fun q hq hq2=>?_⟩,by omega,zAp _ hw⟩
    by_cases e:q=k
    ·subst e;assumption
    ·exact hno q (by omega) (by omega)
  ·have hi':k=n:=by omega
   subst hi'
   have hli:decide ((k:Int)<(k:Int))=false:=by simp
   repeat' first|(refine gS ?_;simp only[go_sem,hh,hli])|refine gA ?_|(refine gD (fun h=>?_) (fun h=>?_)<;>try exact aA h)|fail
   exact bL (.of (by rw[mG p l fun q hk=>hno q (by omega) hk]))
theorem aNq(l:List Snp)(p:Snp→Bool)(i v lc n:Nat)(hn:n=l.length)(hlc:n≤lc)(hl:n≤1073741824){fn:Fn}{fs cs:List AV}(Gd:AHeap→Prop)(hGd:∀G b,Gd G→Gd (aB G i b))(hGa:∀G L,Gd G→Gd (G++L))(H:AHeap)(hh:hget H i=.cells v (flA dP l))
  (hf:∀x G,Gd G→ACall Tryz.prog (.func fn fs cs) [dP x] G (fun r G'=>r=.bool (p x)∧G'=G)) (hg:Gd H):
  ACalls Tryz.prog 108 [.osl 2 i v 0 n lc,.func fn fs cs] H (fun r H'=>∃rest,r=.osl 2 i v 0 (l.filter (fun x=> !p x)).length lc∧H'=aB H i (.cells v (flA dP (l.filter (fun x=> !p x))++rest))):=by
 refine aO Tryz.func108 ?_
 have hidx:=aNn l p i v lc n hn hlc hl H hh (fun x=>hf x H hg)
 have hilt:=aU hh trivial
 have hf':=hf
 simp only[dP]at hf'
 by_cases h1:gX p l= -1
 ·rw[h1]at hidx
  repeat' first|((first|refine aY (hidx) (cO) ?_|refine aZ (hidx) (cO) ?_|refine bA (fun _=>hidx) (cO) ?_|refine gS ?_);simp only[go_sem,hh,Int.reduceEq])|refine gA ?_|(refine gD (fun h=>?_) (fun h=>?_)<;>try exact aA h)|fail
  refine⟨H,[],_,(zAg _).symm,rfl,fun k b hk=>.inl hk,.cl _ (.osl _ _ _ _ _ _ hilt),[],?_,?_⟩
  ·rw[nP h1,hn]
  ·rw[nP h1,zAg];exact(gW hh trivial).symm
 ·obtain⟨A,x,B,rfl,e2,e3,e4⟩:=tX h1
  rw[e2]at hidx
  have hA:n=A.length+(B.length+1):=by simp[hn]
  have hd:decide (((A.length:Nat):Int)= -1)=false:=dF
  have hw:IntKind.i64.wrap ((A.length:Int)+1)=((A.length+1:Nat):Int):=by rw[wI];rfl
  repeat' first|((first|refine aY (hidx) (cO) ?_|refine aZ (hidx) (cO) ?_|refine bA (fun _=>hidx) (cO) ?_|refine gS ?_);simp only[go_sem,hh,hd,hw])|refine gA ?_|(refine gD (fun h=>?_) (fun h=>?_)<;>try exact aA h)|fail
  generalize hL:A++x::B=L at *
  refine aH (ι:=Nat×Nat×List Snp×AHeap) (fun s=>[(0,.osl 2 i v 0 n lc),(1,.func fn fs cs),(5,.int .i64 s.1),(6,.int .i64 s.2.1)])
   (fun s=>aB H i (.cells v (flA dP s.2.2.1))++s.2.2.2) (fun s=>s.1<s.2.1∧s.2.1≤n∧s.2.2.1.length=n∧s.2.2.1.take s.1=(L.take s.2.1).filter (fun x=> !p x)∧s.2.2.1.drop s.2.1=L.drop s.2.1) (fun s=>n-s.2.1) (A.length,A.length+1,L,[])
   ⟨by simp,by simp only;omega,hn.symm,?_,rfl⟩ ?_ (by rw[zAg];exact(gW hh trivial).symm) ?_
  ·simp only;rw[←hL,zCw,show A++x::B=(A++[x])++B by simp,show A.length+1=(A++[x]).length by simp,zCw,zAV,e4];simp[e3]
  ·simp[go_sem]
  ·rintro⟨k,j,E,M⟩ ⟨w1,w2,w3,w4,w5⟩
   simp only at w1 w2 w3 w4 w5 ⊢
   obtain⟨G,hG⟩:∃G,aB H i (.cells v (flA dP E))++M=G:=⟨_,rfl⟩
   rw[hG]
   have g0:hget G i=.cells v (flA dP E):=by rw[←hG];exact aG (b:=.cells v (flA dP E)) (cJ hilt _) trivial M
   have g1:=aR g0 trivial
   have g2:=eE g0 trivial
   have gg:Gd G:=by rw[←hG];exact hGa _ _ (hGd _ _ hg)
   have gs:∀X,aB G i X=aB H i X++M:=fun X=>by rw[←hG,bE (by rw[aC];exact hilt),cS]
   have hE:(flA dP E).length=n * 2:=by rw[bQ (s:=2) (fun _=>rfl),w3]
   by_cases hj:j<n
   ·have hli:decide ((j:Int)<(n:Int))=true:=dT
    have hjL:j<L.length:=by omega
    have hEj:E[j]'(by omega)=L[j]:=by
     have a:=zAk (l:=E) (i:=j) (by omega)
     have b:=zAk hjL
     rw[w5,b]at a
     exact(zCp a).1.symm
    have hgy:=aAV (enc:=dP) (s:=2) (fun _=>rfl) (D:=E) (k:=j) (by omega)
    rw[hEj]at hgy
    simp only[dP,AV.cells]at hgy
    have hw1:IntKind.i64.wrap ((j:Int)+1)=((j+1:Nat):Int):=by rw[wI];rfl
    have hw2:IntKind.i64.wrap ((k:Int)+1)=((k+1:Nat):Int):=by rw[wI];rfl
    have hset1:=aGx (enc:=dP) (s:=2) (fun _=>rfl) (D:=E) (k:=k) (by omega) L[j]
    simp only[dP,AV.cells]at hset1
    have etk:L.take (j+1)=L.take j++[L[j]]:=zAa hjL
    repeat' first|(refine gS ?_;simp only[go_sem,g0,g1,hli,hE,hgy])|refine gA ?_|(refine gD (fun h=>?_) (fun h=>?_)<;>try exact aA h)|fail
    refine uU (hf' L[j] _ (hGa _ _ gg)) ?_
    cases hpj:p L[j]with
    |true=>
     simp only[go_sem]
     repeat' first|(refine gS ?_;simp only[go_sem])|refine gA ?_|(refine gD (fun h=>?_) (fun h=>?_)<;>try exact aA h)|fail
     refine⟨(k,j+1,E,M++[.cells 0 (dP L[j]).cells]),⟨by simp only;omega,by simp only;omega,w3,?_,?_⟩,by simp only;omega,⟨rfl,zAp _ hw1⟩,?_⟩
     ·simp only;rw[etk,zAV,←w4,zBA,zAb (by simp[hpj])];simp
     ·simp only
      have a:=zAk (l:=E) (i:=j) (by omega)
      have b:=zAk hjL
      rw[w5,b]at a
      exact(zCp a).2.symm
     ·show G++[.cells 0 (dP L[j]).cells]=_
      rw[←hG,zAu]
    |false=>
     simp only[go_sem]
     repeat' first|(refine gS ?_;simp only[go_sem,g0,g1,g2,hE,hset1])|refine gA ?_|(refine gD (fun h=>?_) (fun h=>?_)<;>try exact aA h)|fail
     refine⟨(k+1,j+1,E.set k L[j],M++[.cells 0 (dP L[j]).cells]),⟨by simp only;omega,by simp only;omega,by simp only[List.length_set];exact w3,?_,?_⟩,by simp only;omega,⟨zAp _ hw2,zAp _ hw1⟩,?_⟩
     ·simp only
      rw[etk,zAV,←w4,zBA,zAc (by simp[hpj]),zAa (by simp;omega),List.getElem_set_self,List.take_set_of_le (zAh _)]
      rfl
     ·simp only
      rw[List.drop_set_of_lt (by omega)]
      have a:=zAk (l:=E) (i:=j) (by omega)
      have b:=zAk hjL
      rw[w5,b]at a
      exact(zCp a).2.symm
     ·show aB G i (.cells v (flA dP (E.set k L[j])))++[.cells 0 (dP L[j]).cells]=_
      rw[gs,zAu]
   ·have hje:j=n:=by omega
    subst hje
    have hli:decide ((j:Int)<(j:Int))=false:=by simp
    repeat' first|(refine gS ?_;simp only[go_sem,g0,g1,g2,hli,hE])|refine gA ?_|(refine gD (fun h=>?_) (fun h=>?_)<;>try exact aA h)|fail
    rw[hn,zAq]at w4
    obtain⟨F,hF⟩:∃F,F=L.filter (fun x=> !p x):=⟨_,rfl⟩
    rw[←hF]at w4 ⊢
    have hk:k=F.length:=by rw[←w4,zAy];omega
    have hFl:=bQ (enc:=dP) (s:=2) (fun _=>rfl) F
    have hsp:∀Z:List AV,∃rest,cH (flA dP E) (k * 2) Z=flA dP F++rest∧∀m,(∀x∈Z,Cl m x)→∀x∈rest,Cl m x:=fun Z=>by
     have e:=fG (A:=flA dP F) (B:=flA dP (E.drop k)) (off:=k * 2) (X:=Z) (by rw[hFl,hk])
     rw[←fC,←w4,zBl]at e
     rw[w4]at e
     refine⟨Z++(flA dP (E.drop k)).drop Z.length,e,fun m hz x hx=>?_⟩
     rcases zAD.1 hx with hx|hx
     ·exact hz x hx
     ·exact(mK (fun x=>by simp only[go_sem]) (E.drop k) x (zCs hx)).cl m
    obtain⟨rest,hr,hz⟩:=hsp (List.flatMap AV.cells (List.replicate (j-k) (.agg [.int .i64 0,.sl true []])))
    rw[hr,gs]
    have gM:∀c,hget (aB H i (.cells v c)++M) i=.cells v c:=fun c=>aG (b:=.cells v c) (cJ hilt _) trivial M
    simp only[gM]
    refine⟨⟨trivial,by omega,by omega⟩,?_⟩
    repeat' first|(refine gS ?_;simp only[go_sem])|refine gA ?_|(refine gD (fun h=>?_) (fun h=>?_)<;>try exact aA h)|fail
    refine⟨_,M,_,rfl,by rw[aC],nD ?_,.cl _ (.osl _ _ _ _ _ _ hilt),rest,by rw[hk],rfl⟩
    intro x hx
    rcases zAD.1 hx with hx|hx
    ·exact(mK (fun x=>by simp only[go_sem]) F x hx).cl _
    ·refine hz _ (fun x hx=>?_) x hx
     rw[zBG]at hx
     obtain⟨e,he,hx⟩:=hx
     rw[List.mem_replicate]at he
     obtain⟨-,rfl⟩:=he
     simp only[AV.cells,zAv,zAS,zBY]at hx
     rcases hx with rfl|rfl<;>first|exact .int _ _|exact .bool _|exact .str _|exact(Pur.sl _ _ (fun _ h=>by cases h)).cl _
theorem aNr(l:List Wch)(p:Wch→Bool)(i v lc n:Nat)(hn:n=l.length)(hlc:n≤lc)(hl:n≤1073741824){fn:Fn}{fs cs:List AV}(Gd:AHeap→Prop)(hGd:∀G b,Gd G→Gd (aB G i b))(hGa:∀G L,Gd G→Gd (G++L))(H:AHeap)(hh:hget H i=.cells v (flA cD l))
  (hf:∀x G,Gd G→ACall Tryz.prog (.func fn fs cs) [cD x] G (fun r G'=>r=.bool (p x)∧G'=G)) (hg:Gd H):
  ACalls Tryz.prog 109 [.osl 4 i v 0 n lc,.func fn fs cs] H (fun r H'=>∃rest,r=.osl 4 i v 0 (l.filter (fun x=> !p x)).length lc∧H'=aB H i (.cells v (flA cD (l.filter (fun x=> !p x))++rest))):=by
 refine aO Tryz.func109 ?_
 have hidx:=aNo l p i v lc n hn hlc hl H hh (fun x=>hf x H hg)
 have hilt:=aU hh trivial
 have hf':=hf
 simp only[cD]at hf'
 by_cases h1:gX p l= -1
 ·rw[h1]at hidx
  repeat' first|((first|refine aY (hidx) (cO) ?_|refine aZ (hidx) (cO) ?_|refine bA (fun _=>hidx) (cO) ?_|refine gS ?_);simp only[go_sem,hh,Int.reduceEq])|refine gA ?_|(refine gD (fun h=>?_) (fun h=>?_)<;>try exact aA h)|fail
  refine⟨H,[],_,(zAg _).symm,rfl,fun k b hk=>.inl hk,.cl _ (.osl _ _ _ _ _ _ hilt),[],?_,?_⟩
  ·rw[nP h1,hn]
  ·rw[nP h1,zAg];exact(gW hh trivial).symm
 ·obtain⟨A,x,B,rfl,e2,e3,e4⟩:=tX h1
  rw[e2]at hidx
  have hA:n=A.length+(B.length+1):=by simp[hn]
  have hd:decide (((A.length:Nat):Int)= -1)=false:=dF
  have hw:IntKind.i64.wrap ((A.length:Int)+1)=((A.length+1:Nat):Int):=by rw[wI];rfl
  repeat' first|((first|refine aY (hidx) (cO) ?_|refine aZ (hidx) (cO) ?_|refine bA (fun _=>hidx) (cO) ?_|refine gS ?_);simp only[go_sem,hh,hd,hw])|refine gA ?_|(refine gD (fun h=>?_) (fun h=>?_)<;>try exact aA h)|fail
  generalize hL:A++x::B=L at *
  refine aH (ι:=Nat×Nat×List Wch×AHeap) (fun s=>[(0,.osl 4 i v 0 n lc),(1,.func fn fs cs),(5,.int .i64 s.1),(6,.int .i64 s.2.1)])
   (fun s=>aB H i (.cells v (flA cD s.2.2.1))++s.2.2.2) (fun s=>s.1<s.2.1∧s.2.1≤n∧s.2.2.1.length=n∧s.2.2.1.take s.1=(L.take s.2.1).filter (fun x=> !p x)∧s.2.2.1.drop s.2.1=L.drop s.2.1) (fun s=>n-s.2.1) (A.length,A.length+1,L,[])
   ⟨by simp,by simp only;omega,hn.symm,?_,rfl⟩ ?_ (by rw[zAg];exact(gW hh trivial).symm) ?_
  ·simp only;rw[←hL,zCw,show A++x::B=(A++[x])++B by simp,show A.length+1=(A++[x]).length by simp,zCw,zAV,e4];simp[e3]
  ·simp[go_sem]
  ·rintro⟨k,j,E,M⟩ ⟨w1,w2,w3,w4,w5⟩
   simp only at w1 w2 w3 w4 w5 ⊢
   obtain⟨G,hG⟩:∃G,aB H i (.cells v (flA cD E))++M=G:=⟨_,rfl⟩
   rw[hG]
   have g0:hget G i=.cells v (flA cD E):=by rw[←hG];exact aG (b:=.cells v (flA cD E)) (cJ hilt _) trivial M
   have g1:=aR g0 trivial
   have g2:=eE g0 trivial
   have gg:Gd G:=by rw[←hG];exact hGa _ _ (hGd _ _ hg)
   have gs:∀X,aB G i X=aB H i X++M:=fun X=>by rw[←hG,bE (by rw[aC];exact hilt),cS]
   have hE:(flA cD E).length=n * 4:=by rw[bQ (s:=4) (fun _=>rfl),w3]
   by_cases hj:j<n
   ·have hli:decide ((j:Int)<(n:Int))=true:=dT
    have hjL:j<L.length:=by omega
    have hEj:E[j]'(by omega)=L[j]:=by
     have a:=zAk (l:=E) (i:=j) (by omega)
     have b:=zAk hjL
     rw[w5,b]at a
     exact(zCp a).1.symm
    have hgy:=aAV (enc:=cD) (s:=4) (fun _=>rfl) (D:=E) (k:=j) (by omega)
    rw[hEj]at hgy
    simp only[cD,AV.cells]at hgy
    have hw1:IntKind.i64.wrap ((j:Int)+1)=((j+1:Nat):Int):=by rw[wI];rfl
    have hw2:IntKind.i64.wrap ((k:Int)+1)=((k+1:Nat):Int):=by rw[wI];rfl
    have hset1:=aGx (enc:=cD) (s:=4) (fun _=>rfl) (D:=E) (k:=k) (by omega) L[j]
    simp only[cD,AV.cells]at hset1
    have etk:L.take (j+1)=L.take j++[L[j]]:=zAa hjL
    repeat' first|(refine gS ?_;simp only[go_sem,g0,g1,hli,hE,hgy])|refine gA ?_|(refine gD (fun h=>?_) (fun h=>?_)<;>try exact aA h)|fail
    refine uU (hf' L[j] _ (hGa _ _ gg)) ?_
    cases hpj:p L[j]with
    |true=>
     simp only[go_sem]
     repeat' first|(refine gS ?_;simp only[go_sem])|refine gA ?_|(refine gD (fun h=>?_) (fun h=>?_)<;>try exact aA h)|fail
     refine⟨(k,j+1,E,M++[.cells 0 (cD L[j]).cells]),⟨by simp only;omega,by simp only;omega,w3,?_,?_⟩,by simp only;omega,⟨rfl,zAp _ hw1⟩,?_⟩
     ·simp only;rw[etk,zAV,←w4,zBA,zAb (by simp[hpj])];simp
     ·simp only
      have a:=zAk (l:=E) (i:=j) (by omega)
      have b:=zAk hjL
      rw[w5,b]at a
      exact(zCp a).2.symm
     ·show G++[.cells 0 (cD L[j]).cells]=_
      rw[←hG,zAu]
    |false=>
     simp only[go_sem]
     repeat' first|(refine gS ?_;simp only[go_sem,g0,g1,g2,hE,hset1])|refine gA ?_|(refine gD (fun h=>?_) (fun h=>?_)<;>try exact aA h)|fail
     refine⟨(k+1,j+1,E.set k L[j],M++[.cells 0 (cD L[j]).cells]),⟨by simp only;omega,by simp only;omega,by simp only[List.length_set];exact w3,?_,?_⟩,by simp only;omega,⟨zAp _ hw2,zAp _ hw1⟩,?_⟩
     ·simp only
      rw[etk,zAV,←w4,zBA,zAc (by simp[hpj]),zAa (by simp;omega),List.getElem_set_self,List.take_set_of_le (zAh _)]
      rfl
     ·simp only
      rw[List.drop_set_of_lt (by omega)]
      have a:=zAk (l:=E) (i:=j) (by omega)
      have b:=zAk hjL
      rw[w5,b]at a
      exact(zCp a).2.symm
     ·show aB G i (.cells v (flA cD (E.set k L[j])))++[.cells 0 (cD L[j]).cells]=_
      rw[gs,zAu]
   ·have hje:j=n:=by omega
    subst hje
    have hli:decide ((j:Int)<(j:Int))=false:=by simp
    repeat' first|(refine gS ?_;simp only[go_sem,g0,g1,g2,hli,hE])|refine gA ?_|(refine gD (fun h=>?_) (fun h=>?_)<;>try exact aA h)|fail
    rw[hn,zAq]at w4
    obtain⟨F,hF⟩:∃F,F=L.filter (fun x=> !p x):=⟨_,rfl⟩
    rw[←hF]at w4 ⊢
    have hk:k=F.length:=by rw[←w4,zAy];omega
    have hFl:=bQ (enc:=cD) (s:=4) (fun _=>rfl) F
    have hsp:∀Z:List AV,∃rest,cH (flA cD E) (k * 4) Z=flA cD F++rest∧∀m,(∀x∈Z,Cl m x)→∀x∈rest,Cl m x:=fun Z=>by
     have e:=fG (A:=flA cD F) (B:=flA cD (E.drop k)) (off:=k * 4) (X:=Z) (by rw[hFl,hk])
     rw[←fC,←w4,zBl]at e
     rw[w4]at e
     refine⟨Z++(flA cD (E.drop k)).drop Z.length,e,fun m hz x hx=>?_⟩
     rcases zAD.1 hx with hx|hx
     ·exact hz x hx
     ·exact(mK (fun x=>by simp only[go_sem]) (E.drop k) x (zCs hx)).cl m
    obtain⟨rest,hr,hz⟩:=hsp (List.flatMap AV.cells (List.replicate (j-k) (.agg [.int .i64 0,.int .i64 0,.sl true [],.bool false])))
    rw[hr,gs]
    have gM:∀c,hget (aB H i (.cells v c)++M) i=.cells v c:=fun c=>aG (b:=.cells v c) (cJ hilt _) trivial M
    simp only[gM]
    refine⟨⟨trivial,by omega,by omega⟩,?_⟩
    repeat' first|(refine gS ?_;simp only[go_sem])|refine gA ?_|(refine gD (fun h=>?_) (fun h=>?_)<;>try exact aA h)|fail
    refine⟨_,M,_,rfl,by rw[aC],nD ?_,.cl _ (.osl _ _ _ _ _ _ hilt),rest,by rw[hk],rfl⟩
    intro x hx
    rcases zAD.1 hx with hx|hx
    ·exact(mK (fun x=>by simp only[go_sem]) F x hx).cl _
    ·refine hz _ (fun x hx=>?_) x hx
     rw[zBG]at hx
     obtain⟨e,he,hx⟩:=hx
     rw[List.mem_replicate]at he
     obtain⟨-,rfl⟩:=he
     simp only[AV.cells,zAv,zAS,zBY]at hx
     rcases hx with rfl|rfl|rfl|rfl<;>first|exact .int _ _|exact .bool _|exact .str _|exact(Pur.sl _ _ (fun _ h=>by cases h)).cl _
end Go.Proofs.YtolbeecicikoaaaGreatDoor
