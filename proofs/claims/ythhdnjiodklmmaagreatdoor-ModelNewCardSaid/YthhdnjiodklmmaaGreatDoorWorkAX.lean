/- The texts 24 of 51 beneath the rows of this seat (joined by program): the abstract machine, and what the functions answer. No condition. -/
import Derived.Test.YthhdnjiodklmmaaGreatDoorWorkAE
import Derived.Test.YthhdnjiodklmmaaGreatDoorWorkAQ
import Derived.Test.YthhdnjiodklmmaaGreatDoorWorkAU
set_option linter.unusedSimpArgs false
set_option linter.unusedVariables false
set_option linter.unusedSectionVars false
/- Lists whose members have several cells, ars slices that may be written to: what the library's functions of slices do of them. No condition but their length. -/
namespace Go.Gw
open Go Go.Aw Go.Proofs.YthhdnjiodklmmaaGreatDoor
def flA{α:Type}(enc:α→AV)(D:List α):List AV:=(D.map enc).flatMap AV.cells
section
variable {α:Type} {enc:α→AV} {s:Nat}
theorem uY:flA enc []=[]:=rfl
theorem fN(A B:List α):flA enc (A++B)=flA enc A++flA enc B:=by simp[flA]
theorem gW(x:α)(B:List α):flA enc (x::B)=(enc x).cells++flA enc B:=by simp[flA]
theorem eR(hs:∀x,(enc x).cells.length=s)(D:List α):(flA enc D).length=D.length * s:=by
 induction D with
 |nil=>simp[flA]
 |cons x D ih=>rw[gW,List.length_append,ih,hs,List.length_cons,Nat.add_mul];omega
theorem aMi(hs:∀x,(enc x).cells.length=s){A R:List α}{x:α}{k:Nat}(h:A.length=k):List.take s (List.drop (k * s) (flA enc (A++x::R)))=(enc x).cells:=by
 have hl:=eR hs A
 rw[h]at hl
 rw[fN,←hl,List.drop_left,gW,←hs x,List.take_left]
theorem aAL(hs:∀x,(enc x).cells.length=s){D:List α}{k:Nat}(h:k<D.length):List.take s (List.drop (k * s) (flA enc D))=(enc D[k]).cells:=by
 have e:D=D.take k++D[k]::D.drop (k+1):=by rw[←List.drop_eq_getElem_cons h,List.take_append_drop]
 have:=aMi hs (A:=D.take k) (R:=D.drop (k+1)) (x:=D[k]) (k:=k) (by rw[List.length_take];omega)
 rwa[←e]at this
theorem aF1(hs:∀x,(enc x).cells.length=s){D:List α}{k:Nat}(h:k<D.length)(y:α):cR (flA enc D) (k * s) (enc y).cells=flA enc (D.set k y):=by
 have hl:=eR hs (D.take k)
 rw[List.length_take,Nat.min_eq_left (by omega)]at hl
 have e:D=D.take k++(D[k]::D.drop (k+1)):=by rw[←List.drop_eq_getElem_cons h,List.take_append_drop]
 have e2:=fD (A:=flA enc (D.take k)) (B:=flA enc (D[k]::D.drop (k+1))) (off:=k * s) (X:=(enc y).cells) hl
 rw[←fN,←e]at e2
 rw[e2,List.set_eq_take_append_cons_drop,if_pos h,fN,gW,gW,show(enc y).cells.length=(enc D[k]).cells.length by rw[hs,hs],List.drop_left]
theorem pG(hp:∀x,Pur (enc x))(D:List α):∀x∈flA enc D,Pur x:=fun x hx=>by
 unfold flA at hx
 rw[List.mem_flatMap]at hx
 obtain⟨y,hy,hx⟩:=hx
 obtain⟨z, -,rfl⟩:=List.mem_map.1 hy
 exact Pur.cells (hp z) x hx
theorem aE1(hp:∀x,Pur (enc x))(n v:Nat)(D:List α):ClB n (.cells v (flA enc D)):=fun x hx=>(pG hp D x hx).cl n
theorem mL{l:List α}{p:α→Bool}(h:iT p l= -1):l.filter (fun x=> !p x)=l:=by
 induction l with
 |nil=>rfl
 |cons x l ih=>
  unfold iT at h
  by_cases hp:p x=true
  ·rw[if_pos hp]at h;cases h
  ·rw[if_neg hp]at h
   split at h
   ·rename_i h1;rw[List.filter_cons,if_pos (by simp[hp]),ih h1]
   ·have:=aFH p l;omega
theorem tN{l:List α}{p:α→Bool}(h:iT p l≠ -1):∃A x B,l=A++x::B∧iT p l=A.length∧p x=true∧A.filter (fun x=> !p x)=A:=by
 induction l with
 |nil=>exact absurd rfl h
 |cons x l ih=>
  by_cases hp:p x=true
  ·exact⟨[],x,l,rfl,by simp[iT,hp],hp,rfl⟩
  ·unfold iT at h ⊢
   rw[if_neg hp]at h ⊢
   by_cases h1:iT p l= -1
   ·rw[if_pos h1]at h;exact absurd rfl h
   ·rw[if_neg h1]
    obtain⟨A,y,B,e1,e2,e3,e4⟩:=ih h1
    exact⟨x::A,y,B,by rw[e1];rfl,by rw[e2];simp,e3,by rw[List.filter_cons,if_pos (by simp[hp]),e4]⟩
end
end Go.Gw
namespace Go.Proofs.YthhdnjiodklmmaaGreatDoor
open Go Go.Aw Go.Gw
set_option linter.unusedSimpArgs false
set_option linter.unusedVariables false
set_option maxRecDepth 20000
set_option maxHeartbeats 4000000
theorem oH(l:List Nd):∀e∈l.map ndA,e.cells.length=8:=fun e he=>by
 obtain⟨x,_,rfl⟩:=List.mem_map.1 he;rfl
theorem uZ(l:List Nd):(∀e∈l.map ndA,e.cells.length=8)=True:=eq_true (oH l)
theorem aAM(l:List Nd):∀e∈l.map ndA,Pur e:=fun e he=>by
 obtain⟨x,_,rfl⟩:=List.mem_map.1 he;first|exact(by simp only[go_sem])|(simp only[ndA];exact(by simp only[go_sem]))
theorem aE2(b:Bool)(l:List Nd)(hl:l.length≤1073741824)(H:AHeap):cJ Tryz.prog 128 [.sl b (l.map ndA)] H (.sl false (l.map ndA)):=by
 refine aL Tryz.func128 rfl (Nat.le_of_ble_eq_true rfl) ?_
 repeat' first|(refine gS ?_;simp only[go_sem])|refine gA ?_|(refine gD (fun h=>?_) (fun h=>?_)<;>try exact aA h)|fail
 intro c hc
 cases c with
 |true=>
  have hnil:l=[]:=by
   cases l with
   |nil=>rfl
   |cons x l=>exact absurd (hc (by simp)) (by decide)
  subst hnil
  repeat' first|(refine gS ?_;simp only[go_sem])|refine gA ?_|(refine gD (fun h=>?_) (fun h=>?_)<;>try exact aA h)|fail
  exact aY (by simp only[go_sem]) (.sl _ _)
 |false=>
  clear hc
  repeat' first|(refine gS ?_;simp only[go_sem,uZ])|refine gA ?_|(refine gD (fun h=>?_) (fun h=>?_)<;>try exact aA h)|fail
  exact jS (cs:=List.flatMap AV.cells (List.map ndA l)) (es:=l.map ndA) (rest:=[]) (Nat.le_refl _) (by simp only[go_sem]) (List.append_nil _).symm (by rw[List.length_map]) (oH _) (aAM _) rfl
theorem aBS(b:Bool)(l:List Snp)(hl:l.length≤1073741824)(H:AHeap):
  ACalls Tryz.prog 129 [.sl b (l.map hU)] H (fun v H'=>v=.osl 2 H.length 1 0 l.length l.length∧H'=H++[.cells 1 (flA hU l)]):=by
 refine fW Tryz.func129 rfl (Nat.le_of_ble_eq_true rfl) ?_
 have hcl:∀n,ClB n (.cells 1 (flA hU l)):=fun n=>aE1 (fun x=>by simp only[go_sem]) n 1 l
 have fin:∀v H',v=.osl 2 H.length 1 0 l.length l.length→H'=H++[.cells 1 (flA hU l)]→∃H1 L y,H'=H1++L∧H.length≤H1.length∧(∀(i:Nat) (b:ABlk),H1[i]?=some b→H[i]?=some b∨ClB H1.length b)∧Frz H1.length H' v y∧
   y=.osl 2 H.length 1 0 l.length l.length∧H1=H++[.cells 1 (flA hU l)]:=by
  rintro v H' rfl rfl
  exact⟨_,[],_,(List.append_nil _).symm,by simp,aAq fun b hb=>by(rw[List.mem_singleton]at hb;subst hb;exact hcl _),.cl _ (.osl _ _ _ _ _ _ (by simp)),rfl,rfl⟩
 have hfl:List.flatMap AV.cells (l.map hU)=flA hU l:=rfl
 repeat' first|(refine gS ?_;simp only[go_sem])|refine gA ?_|(refine gD (fun h=>?_) (fun h=>?_)<;>try exact aA h)|fail
 intro c hc
 cases c with
 |true=>
  have hnil:l=[]:=by
   cases l with
   |nil=>rfl
   |cons x l=>exact absurd (hc (by simp)) (by decide)
  subst hnil
  repeat' first|(refine gS ?_;simp only[go_sem])|refine gA ?_|fail
  refine rD rfl (fun _=>?_) (fun h=>by cases h)
  refine aB7 ?_
  refine nU rfl ?_
  simp only[go_sem]
  refine oP 2 2 rfl ?_
  repeat' first|(refine gS ?_;simp only[go_sem])|refine gA ?_|(refine gD (fun h=>?_) (fun h=>?_)<;>try exact aA h)|fail
  exact fin _ _ rfl rfl
 |false=>
  clear hc
  have hc1:(∀e∈l.map hU,e.cells.length=2)=True:=eq_true fun e he=>by(obtain⟨x,_,rfl⟩:=List.mem_map.1 he;rfl)
  have hl8:(l.length * 32≤140737488355328)=True:=eq_true (by omega)
  repeat' first|(refine gS ?_;simp only[go_sem,hc1,hfl,hl8,Classical.em,true_or])|refine gA ?_|(refine gD (fun h=>?_) (fun h=>?_)<;>try exact aA h)|fail
  exact fin _ _ rfl rfl
theorem rO(b:Bool)(l:List Wch)(hl:l.length≤1073741824)(H:AHeap):
  ACalls Tryz.prog 79 [.sl b (l.map dL)] H (fun v H'=>v=.osl 4 H.length 1 0 l.length l.length∧H'=H++[.cells 1 (flA dL l)]):=by
 refine fW Tryz.func79 rfl (Nat.le_of_ble_eq_true rfl) ?_
 have hcl:∀n,ClB n (.cells 1 (flA dL l)):=fun n=>aE1 (fun x=>by simp only[go_sem]) n 1 l
 have fin:∀v H',v=.osl 4 H.length 1 0 l.length l.length→H'=H++[.cells 1 (flA dL l)]→∃H1 L y,H'=H1++L∧H.length≤H1.length∧(∀(i:Nat) (b:ABlk),H1[i]?=some b→H[i]?=some b∨ClB H1.length b)∧Frz H1.length H' v y∧
   y=.osl 4 H.length 1 0 l.length l.length∧H1=H++[.cells 1 (flA dL l)]:=by
  rintro v H' rfl rfl
  exact⟨_,[],_,(List.append_nil _).symm,by simp,aAq fun b hb=>by(rw[List.mem_singleton]at hb;subst hb;exact hcl _),.cl _ (.osl _ _ _ _ _ _ (by simp)),rfl,rfl⟩
 have hfl:List.flatMap AV.cells (l.map dL)=flA dL l:=rfl
 repeat' first|(refine gS ?_;simp only[go_sem])|refine gA ?_|(refine gD (fun h=>?_) (fun h=>?_)<;>try exact aA h)|fail
 intro c hc
 cases c with
 |true=>
  have hnil:l=[]:=by
   cases l with
   |nil=>rfl
   |cons x l=>exact absurd (hc (by simp)) (by decide)
  subst hnil
  repeat' first|(refine gS ?_;simp only[go_sem])|refine gA ?_|fail
  refine rD rfl (fun _=>?_) (fun h=>by cases h)
  refine aB7 ?_
  refine nU rfl ?_
  simp only[go_sem]
  refine oP 2 4 rfl ?_
  repeat' first|(refine gS ?_;simp only[go_sem])|refine gA ?_|(refine gD (fun h=>?_) (fun h=>?_)<;>try exact aA h)|fail
  exact fin _ _ rfl rfl
 |false=>
  clear hc
  have hc1:(∀e∈l.map dL,e.cells.length=4)=True:=eq_true fun e he=>by(obtain⟨x,_,rfl⟩:=List.mem_map.1 he;rfl)
  have hl8:(l.length * 48≤140737488355328)=True:=eq_true (by omega)
  repeat' first|(refine gS ?_;simp only[go_sem,hc1,hfl,hl8,Classical.em,true_or])|refine gA ?_|(refine gD (fun h=>?_) (fun h=>?_)<;>try exact aA h)|fail
  exact fin _ _ rfl rfl
theorem aDx(b:Bool)(l:List Snp)(fn:Fn)(fs cs:List AV)(p:Snp→Bool)(H:AHeap)(hf:∀c,FnV Tryz.prog (.func fn fs cs) [hU c] H (.bool (p c))):
  cJ Tryz.prog 176 [.sl b (l.map hU),.func fn fs cs] H (.int .i64 (iT p l)):=by
 refine gI fun hok _=>?_
 have hl:=lK hok
 rw[List.length_map]at hl
 simp only[hU]at hf
 refine aL Tryz.func176 rfl (Nat.le_of_ble_eq_true rfl) ?_
 repeat' first|(refine gS ?_;simp only[go_sem])|refine gA ?_|(refine gD (fun h=>?_) (fun h=>?_)<;>try exact aA h)|fail
 refine aP (ι:=Nat) (fun i=>[(0,.sl b (l.map hU)),(1,.func fn fs cs),(7,.int .i64 l.length),(8,.int .i64 i)]) (fun _=>H) (fun i=>i≤l.length∧∀k (hk:k<i) (hk2:k<l.length),p l[k]=false) (fun i=>l.length-i) 0 ⟨Nat.zero_le _,fun k hk=>by omega⟩ ?_ rfl ?_
 ·simp[go_sem]
 ·rintro i ⟨hi,hno⟩
  by_cases hlt:i<l.length
  ·have hp:=bA hU hlt
   repeat' first|(refine gS ?_;simp only[go_sem,hp,hU])|refine gA ?_|(refine gD (fun h=>?_) (fun h=>?_)<;>try exact aA h)|fail
   refine pW (hf _) ?_
   simp only[go_sem]
   repeat' first|(refine gS ?_;simp only[go_sem])|refine gA ?_|(refine gD (fun h=>?_) (fun h=>?_)<;>try exact aA h)|fail
   ·exact aY (by simp only[go_sem]) (.of (by rw[nA p l i hlt (fun k hk=>hno k hk (by omega)) h]))
   ·refine⟨i+1,⟨hlt,fun k hk hk2=>?_⟩,by omega,by rw[wrap_i64 (by omega) (by omega)];rfl⟩
    by_cases e:k=i
    ·subst e;exact h
    ·exact hno k (by omega) hk2
  ·have hi':i=l.length:=by omega
   repeat' first|(refine gS ?_;simp only[go_sem])|refine gA ?_|(refine gD (fun h=>?_) (fun h=>?_)<;>try exact aA h)|fail
   subst hi'
   exact aY (by simp only[go_sem]) (.of (by rw[nB p l fun k hk=>hno k hk hk]))
theorem aMj(b:Bool)(l:List Snp)(fn:Fn)(fs cs:List AV)(p:Snp→Bool)(H:AHeap)(hf:∀c,FnV Tryz.prog (.func fn fs cs) [hU c] H (.bool (p c))):
  cJ Tryz.prog 132 [.sl b (l.map hU),.func fn fs cs] H (.bool (l.any p)):=by
 refine aL Tryz.func132 rfl (Nat.le_of_ble_eq_true rfl) ?_
 have hx:=aDx b l fn fs cs p H hf
 repeat' first|((first|refine aV (hx) gN ?_|refine aW (hx) gN ?_|refine aX (fun _=>hx) gN ?_|refine gS ?_);simp only[go_sem])|refine gA ?_|(refine gD (fun h=>?_) (fun h=>?_)<;>try exact aA h)|fail
 exact aY (by simp only[go_sem]) (.of (by rw[nY]))
theorem xU(b:Bool)(l:List Wch)(fn:Fn)(fs cs:List AV)(p:Wch→Bool)(H:AHeap)(hf:∀c,FnV Tryz.prog (.func fn fs cs) [dL c] H (.bool (p c))):
  cJ Tryz.prog 136 [.sl b (l.map dL),.func fn fs cs] H (.int .i64 (iT p l)):=by
 refine gI fun hok _=>?_
 have hl:=lK hok
 rw[List.length_map]at hl
 simp only[dL]at hf
 refine aL Tryz.func136 rfl (Nat.le_of_ble_eq_true rfl) ?_
 repeat' first|(refine gS ?_;simp only[go_sem])|refine gA ?_|(refine gD (fun h=>?_) (fun h=>?_)<;>try exact aA h)|fail
 refine aP (ι:=Nat) (fun i=>[(0,.sl b (l.map dL)),(1,.func fn fs cs),(7,.int .i64 l.length),(8,.int .i64 i)]) (fun _=>H) (fun i=>i≤l.length∧∀k (hk:k<i) (hk2:k<l.length),p l[k]=false) (fun i=>l.length-i) 0 ⟨Nat.zero_le _,fun k hk=>by omega⟩ ?_ rfl ?_
 ·simp[go_sem]
 ·rintro i ⟨hi,hno⟩
  by_cases hlt:i<l.length
  ·have hp:=bA dL hlt
   repeat' first|(refine gS ?_;simp only[go_sem,hp,dL])|refine gA ?_|(refine gD (fun h=>?_) (fun h=>?_)<;>try exact aA h)|fail
   refine pW (hf _) ?_
   simp only[go_sem]
   repeat' first|(refine gS ?_;simp only[go_sem])|refine gA ?_|(refine gD (fun h=>?_) (fun h=>?_)<;>try exact aA h)|fail
   ·exact aY (by simp only[go_sem]) (.of (by rw[nA p l i hlt (fun k hk=>hno k hk (by omega)) h]))
   ·refine⟨i+1,⟨hlt,fun k hk hk2=>?_⟩,by omega,by rw[wrap_i64 (by omega) (by omega)];rfl⟩
    by_cases e:k=i
    ·subst e;exact h
    ·exact hno k (by omega) hk2
  ·have hi':i=l.length:=by omega
   repeat' first|(refine gS ?_;simp only[go_sem])|refine gA ?_|(refine gD (fun h=>?_) (fun h=>?_)<;>try exact aA h)|fail
   subst hi'
   exact aY (by simp only[go_sem]) (.of (by rw[nB p l fun k hk=>hno k hk hk]))
theorem aMk(b:Bool)(l:List Wch)(fn:Fn)(fs cs:List AV)(p:Wch→Bool)(H:AHeap)(hf:∀c,FnV Tryz.prog (.func fn fs cs) [dL c] H (.bool (p c))):
  cJ Tryz.prog 133 [.sl b (l.map dL),.func fn fs cs] H (.bool (l.any p)):=by
 refine aL Tryz.func133 rfl (Nat.le_of_ble_eq_true rfl) ?_
 have hx:=xU b l fn fs cs p H hf
 repeat' first|((first|refine aV (hx) cY ?_|refine aW (hx) cY ?_|refine aX (fun _=>hx) cY ?_|refine gS ?_);simp only[go_sem])|refine gA ?_|(refine gD (fun h=>?_) (fun h=>?_)<;>try exact aA h)|fail
 exact aY (by simp only[go_sem]) (.of (by rw[nY]))
theorem aMl(l:List Snp)(p:Snp→Bool)(i v lc n:Nat)(hn:n=l.length)(hlc:n≤lc)(hl:n≤1073741824){fn:Fn}{fs cs:List AV}(H:AHeap)(hh:hget H i=.cells v (flA hU l))
  (hf:∀x,ACall Tryz.prog (.func fn fs cs) [hU x] H (fun r G'=>r=.bool (p x)∧G'=H)):
  cJ Tryz.prog 176 [.osl 2 i v 0 n lc,.func fn fs cs] H (.int .i64 (iT p l)):=by
 refine aL Tryz.func176 rfl (Nat.le_of_ble_eq_true rfl) ?_
 have hln:(flA hU l).length=n * 2:=by rw[eR (s:=2) (fun _=>rfl),hn]
 have hf':=hf
 simp only[hU]at hf'
 repeat' first|(refine gS ?_;simp only[go_sem,hh])|refine gA ?_|(refine gD (fun h=>?_) (fun h=>?_)<;>try exact aA h)|fail
 refine aP (ι:=Nat) (fun k=>[(0,.osl 2 i v 0 n lc),(1,.func fn fs cs),(7,.int .i64 n),(8,.int .i64 k)]) (fun _=>H) (fun k=>k≤n∧∀q (hk:q<k) (hk2:q<l.length),p l[q]=false) (fun k=>n-k) 0 ⟨Nat.zero_le _,fun q hk=>by omega⟩ ?_ rfl ?_
 ·simp[go_sem]
 ·rintro k ⟨hk,hno⟩
  by_cases hlt:k<l.length
  ·have hp:=aAL (enc:=hU) (s:=2) (fun _=>rfl) hlt
   simp only[hU,AV.cells]at hp
   have hli:decide ((k:Int)<(n:Int))=true:=decide_eq_true (by omega)
   have hw:=bD hlt (by omega)
   repeat' first|(refine gS ?_;simp only[go_sem,hh,hli,hp,hln])|refine gA ?_|(refine gD (fun h=>?_) (fun h=>?_)<;>try exact aA h)|fail
   refine uF (hf' l[k]) ?_
   simp only[go_sem]
   repeat' first|(refine gS ?_;simp only[go_sem])|refine gA ?_|(refine gD (fun h=>?_) (fun h=>?_)<;>try exact aA h)|fail
   ·exact aY (by simp only[go_sem]) (.of (by rw[nA p l k hlt (fun q hq=>hno q hq (by omega)) (by assumption)]))
   ·refine⟨k+1,⟨by omega,fun q hq hq2=>?_⟩,by omega,congrArg _ hw⟩
    by_cases e:q=k
    ·subst e;assumption
    ·exact hno q (by omega) (by omega)
  ·have hi':k=n:=by omega
   subst hi'
   have hli:decide ((k:Int)<(k:Int))=false:=by simp
   repeat' first|(refine gS ?_;simp only[go_sem,hh,hli])|refine gA ?_|(refine gD (fun h=>?_) (fun h=>?_)<;>try exact aA h)|fail
   exact aY (by simp only[go_sem]) (.of (by rw[nB p l fun q hk=>hno q (by omega) hk]))
theorem aMm(l:List Wch)(p:Wch→Bool)(i v lc n:Nat)(hn:n=l.length)(hlc:n≤lc)(hl:n≤1073741824){fn:Fn}{fs cs:List AV}(H:AHeap)(hh:hget H i=.cells v (flA dL l))
  (hf:∀x,ACall Tryz.prog (.func fn fs cs) [dL x] H (fun r G'=>r=.bool (p x)∧G'=H)):
  cJ Tryz.prog 136 [.osl 4 i v 0 n lc,.func fn fs cs] H (.int .i64 (iT p l)):=by
 refine aL Tryz.func136 rfl (Nat.le_of_ble_eq_true rfl) ?_
 have hln:(flA dL l).length=n * 4:=by rw[eR (s:=4) (fun _=>rfl),hn]
 have hf':=hf
 simp only[dL]at hf'
 repeat' first|(refine gS ?_;simp only[go_sem,hh])|refine gA ?_|(refine gD (fun h=>?_) (fun h=>?_)<;>try exact aA h)|fail
 refine aP (ι:=Nat) (fun k=>[(0,.osl 4 i v 0 n lc),(1,.func fn fs cs),(7,.int .i64 n),(8,.int .i64 k)]) (fun _=>H) (fun k=>k≤n∧∀q (hk:q<k) (hk2:q<l.length),p l[q]=false) (fun k=>n-k) 0 ⟨Nat.zero_le _,fun q hk=>by omega⟩ ?_ rfl ?_
 ·simp[go_sem]
 ·rintro k ⟨hk,hno⟩
  by_cases hlt:k<l.length
  ·have hp:=aAL (enc:=dL) (s:=4) (fun _=>rfl) hlt
   simp only[dL,AV.cells]at hp
   have hli:decide ((k:Int)<(n:Int))=true:=decide_eq_true (by omega)
   have hw:=bD hlt (by omega)
   repeat' first|(refine gS ?_;simp only[go_sem,hh,hli,hp,hln])|refine gA ?_|(refine gD (fun h=>?_) (fun h=>?_)<;>try exact aA h)|fail
   refine uF (hf' l[k]) ?_
   simp only[go_sem]
   repeat' first|(refine gS ?_;simp only[go_sem])|refine gA ?_|(refine gD (fun h=>?_) (fun h=>?_)<;>try exact aA h)|fail
   ·exact aY (by simp only[go_sem]) (.of (by rw[nA p l k hlt (fun q hq=>hno q hq (by omega)) (by assumption)]))
   ·refine⟨k+1,⟨by omega,fun q hq hq2=>?_⟩,by omega,congrArg _ hw⟩
    by_cases e:q=k
    ·subst e;assumption
    ·exact hno q (by omega) (by omega)
  ·have hi':k=n:=by omega
   subst hi'
   have hli:decide ((k:Int)<(k:Int))=false:=by simp
   repeat' first|(refine gS ?_;simp only[go_sem,hh,hli])|refine gA ?_|(refine gD (fun h=>?_) (fun h=>?_)<;>try exact aA h)|fail
   exact aY (by simp only[go_sem]) (.of (by rw[nB p l fun q hk=>hno q (by omega) hk]))
theorem aMn(l:List Opn)(p:Opn→Bool)(i v lc n:Nat)(hn:n=l.length)(hlc:n≤lc)(hl:n≤1073741824){fn:Fn}{fs cs:List AV}(H:AHeap)(hh:hget H i=.cells v (flA opA l))
  (hf:∀x,ACall Tryz.prog (.func fn fs cs) [opA x] H (fun r G'=>r=.bool (p x)∧G'=H)):
  cJ Tryz.prog 180 [.osl 7 i v 0 n lc,.func fn fs cs] H (.int .i64 (iT p l)):=by
 refine aL Tryz.func180 rfl (Nat.le_of_ble_eq_true rfl) ?_
 have hln:(flA opA l).length=n * 7:=by rw[eR (s:=7) (fun _=>rfl),hn]
 have hf':=hf
 simp only[opA]at hf'
 repeat' first|(refine gS ?_;simp only[go_sem,hh])|refine gA ?_|(refine gD (fun h=>?_) (fun h=>?_)<;>try exact aA h)|fail
 refine aP (ι:=Nat) (fun k=>[(0,.osl 7 i v 0 n lc),(1,.func fn fs cs),(7,.int .i64 n),(8,.int .i64 k)]) (fun _=>H) (fun k=>k≤n∧∀q (hk:q<k) (hk2:q<l.length),p l[q]=false) (fun k=>n-k) 0 ⟨Nat.zero_le _,fun q hk=>by omega⟩ ?_ rfl ?_
 ·simp[go_sem]
 ·rintro k ⟨hk,hno⟩
  by_cases hlt:k<l.length
  ·have hp:=aAL (enc:=opA) (s:=7) (fun _=>rfl) hlt
   simp only[opA,AV.cells]at hp
   have hli:decide ((k:Int)<(n:Int))=true:=decide_eq_true (by omega)
   have hw:=bD hlt (by omega)
   repeat' first|(refine gS ?_;simp only[go_sem,hh,hli,hp,hln])|refine gA ?_|(refine gD (fun h=>?_) (fun h=>?_)<;>try exact aA h)|fail
   refine uF (hf' l[k]) ?_
   simp only[go_sem]
   repeat' first|(refine gS ?_;simp only[go_sem])|refine gA ?_|(refine gD (fun h=>?_) (fun h=>?_)<;>try exact aA h)|fail
   ·exact aY (by simp only[go_sem]) (.of (by rw[nA p l k hlt (fun q hq=>hno q hq (by omega)) (by assumption)]))
   ·refine⟨k+1,⟨by omega,fun q hq hq2=>?_⟩,by omega,congrArg _ hw⟩
    by_cases e:q=k
    ·subst e;assumption
    ·exact hno q (by omega) (by omega)
  ·have hi':k=n:=by omega
   subst hi'
   have hli:decide ((k:Int)<(k:Int))=false:=by simp
   repeat' first|(refine gS ?_;simp only[go_sem,hh,hli])|refine gA ?_|(refine gD (fun h=>?_) (fun h=>?_)<;>try exact aA h)|fail
   exact aY (by simp only[go_sem]) (.of (by rw[nB p l fun q hk=>hno q (by omega) hk]))
theorem aMo(l:List Snp)(p:Snp→Bool)(i v lc n:Nat)(hn:n=l.length)(hlc:n≤lc)(hl:n≤1073741824){fn:Fn}{fs cs:List AV}(Gd:AHeap→Prop)(hGd:∀G b,Gd G→Gd (aD G i b))(hGa:∀G L,Gd G→Gd (G++L))(H:AHeap)(hh:hget H i=.cells v (flA hU l))
  (hf:∀x G,Gd G→ACall Tryz.prog (.func fn fs cs) [hU x] G (fun r G'=>r=.bool (p x)∧G'=G)) (hg:Gd H):
  ACalls Tryz.prog 134 [.osl 2 i v 0 n lc,.func fn fs cs] H (fun r H'=>∃rest,r=.osl 2 i v 0 (l.filter (fun x=> !p x)).length lc∧H'=aD H i (.cells v (flA hU (l.filter (fun x=> !p x))++rest))):=by
 refine bJ Tryz.func134 rfl (Nat.le_of_ble_eq_true rfl) ?_
 have hidx:=aMl l p i v lc n hn hlc hl H hh (fun x=>hf x H hg)
 have hilt:=bI hh trivial
 have hf':=hf
 simp only[hU]at hf'
 by_cases h1:iT p l= -1
 ·rw[h1]at hidx
  repeat' first|((first|refine aV (hidx) gN ?_|refine aW (hidx) gN ?_|refine aX (fun _=>hidx) gN ?_|refine gS ?_);simp only[go_sem,hh,Int.reduceEq])|refine gA ?_|(refine gD (fun h=>?_) (fun h=>?_)<;>try exact aA h)|fail
  refine⟨H,[],_,(List.append_nil _).symm,rfl,fun k b hk=>.inl hk,.cl _ (.osl _ _ _ _ _ _ hilt),[],?_,?_⟩
  ·rw[mL h1,hn]
  ·rw[mL h1,List.append_nil];exact(gV hh trivial).symm
 ·obtain⟨A,x,B,rfl,e2,e3,e4⟩:=tN h1
  rw[e2]at hidx
  have hA:n=A.length+(B.length+1):=by simp[hn]
  have hd:decide (((A.length:Nat):Int)= -1)=false:=decide_eq_false (by omega)
  have hw:IntKind.i64.wrap ((A.length:Int)+1)=((A.length+1:Nat):Int):=by rw[wrap_i64 (by omega) (by omega)];rfl
  repeat' first|((first|refine aV (hidx) gN ?_|refine aW (hidx) gN ?_|refine aX (fun _=>hidx) gN ?_|refine gS ?_);simp only[go_sem,hh,hd,hw])|refine gA ?_|(refine gD (fun h=>?_) (fun h=>?_)<;>try exact aA h)|fail
  generalize hL:A++x::B=L at *
  refine aP (ι:=Nat×Nat×List Snp×AHeap) (fun s=>[(0,.osl 2 i v 0 n lc),(1,.func fn fs cs),(5,.int .i64 s.1),(6,.int .i64 s.2.1)])
   (fun s=>aD H i (.cells v (flA hU s.2.2.1))++s.2.2.2) (fun s=>s.1<s.2.1∧s.2.1≤n∧s.2.2.1.length=n∧s.2.2.1.take s.1=(L.take s.2.1).filter (fun x=> !p x)∧s.2.2.1.drop s.2.1=L.drop s.2.1) (fun s=>n-s.2.1) (A.length,A.length+1,L,[])
   ⟨by simp,by simp only;omega,hn.symm,?_,rfl⟩ ?_ (by rw[List.append_nil];exact(gV hh trivial).symm) ?_
  ·simp only;rw[←hL,List.take_left,show A++x::B=(A++[x])++B by simp,show A.length+1=(A++[x]).length by simp,List.take_left,List.filter_append,e4];simp[e3]
  ·simp[go_sem]
  ·rintro⟨k,j,E,M⟩ ⟨w1,w2,w3,w4,w5⟩
   simp only at w1 w2 w3 w4 w5 ⊢
   obtain⟨G,hG⟩:∃G,aD H i (.cells v (flA hU E))++M=G:=⟨_,rfl⟩
   rw[hG]
   have g0:hget G i=.cells v (flA hU E):=by rw[←hG];exact aH (b:=.cells v (flA hU E)) (cV hilt _) trivial M
   have g1:=aT g0 trivial
   have g2:=fM g0 trivial
   have gg:Gd G:=by rw[←hG];exact hGa _ _ (hGd _ _ hg)
   have gs:∀X,aD G i X=aD H i X++M:=fun X=>by rw[←hG,bS (by rw[aC];exact hilt),cZ]
   have hE:(flA hU E).length=n * 2:=by rw[eR (s:=2) (fun _=>rfl),w3]
   by_cases hj:j<n
   ·have hli:decide ((j:Int)<(n:Int))=true:=decide_eq_true (by omega)
    have hjL:j<L.length:=by omega
    have hEj:E[j]'(by omega)=L[j]:=by
     have a:=List.drop_eq_getElem_cons (l:=E) (i:=j) (by omega)
     have b:=List.drop_eq_getElem_cons hjL
     rw[w5,b]at a
     exact(List.cons.inj a).1.symm
    have hgy:=aAL (enc:=hU) (s:=2) (fun _=>rfl) (D:=E) (k:=j) (by omega)
    rw[hEj]at hgy
    simp only[hU,AV.cells]at hgy
    have hw1:IntKind.i64.wrap ((j:Int)+1)=((j+1:Nat):Int):=by rw[wrap_i64 (by omega) (by omega)];rfl
    have hw2:IntKind.i64.wrap ((k:Int)+1)=((k+1:Nat):Int):=by rw[wrap_i64 (by omega) (by omega)];rfl
    have hset1:=aF1 (enc:=hU) (s:=2) (fun _=>rfl) (D:=E) (k:=k) (by omega) L[j]
    simp only[hU,AV.cells]at hset1
    have etk:L.take (j+1)=L.take j++[L[j]]:=List.take_succ_eq_append_getElem hjL
    repeat' first|(refine gS ?_;simp only[go_sem,g0,g1,hli,hE,hgy])|refine gA ?_|(refine gD (fun h=>?_) (fun h=>?_)<;>try exact aA h)|fail
    refine uF (hf' L[j] _ (hGa _ _ gg)) ?_
    cases hpj:p L[j]with
    |true=>
     simp only[go_sem]
     repeat' first|(refine gS ?_;simp only[go_sem])|refine gA ?_|(refine gD (fun h=>?_) (fun h=>?_)<;>try exact aA h)|fail
     refine⟨(k,j+1,E,M++[.cells 0 (hU L[j]).cells]),⟨by simp only;omega,by simp only;omega,w3,?_,?_⟩,by simp only;omega,⟨rfl,congrArg _ hw1⟩,?_⟩
     ·simp only;rw[etk,List.filter_append,←w4,List.filter_cons,if_neg (by simp[hpj])];simp
     ·simp only
      have a:=List.drop_eq_getElem_cons (l:=E) (i:=j) (by omega)
      have b:=List.drop_eq_getElem_cons hjL
      rw[w5,b]at a
      exact(List.cons.inj a).2.symm
     ·show G++[.cells 0 (hU L[j]).cells]=_
      rw[←hG,List.append_assoc]
    |false=>
     simp only[go_sem]
     repeat' first|(refine gS ?_;simp only[go_sem,g0,g1,g2,hE,hset1])|refine gA ?_|(refine gD (fun h=>?_) (fun h=>?_)<;>try exact aA h)|fail
     refine⟨(k+1,j+1,E.set k L[j],M++[.cells 0 (hU L[j]).cells]),⟨by simp only;omega,by simp only;omega,by simp only[List.length_set];exact w3,?_,?_⟩,by simp only;omega,⟨congrArg _ hw2,congrArg _ hw1⟩,?_⟩
     ·simp only
      rw[etk,List.filter_append,←w4,List.filter_cons,if_pos (by simp[hpj]),List.take_succ_eq_append_getElem (by simp;omega),List.getElem_set_self,List.take_set_of_le (Nat.le_refl _)]
      rfl
     ·simp only
      rw[List.drop_set_of_lt (by omega)]
      have a:=List.drop_eq_getElem_cons (l:=E) (i:=j) (by omega)
      have b:=List.drop_eq_getElem_cons hjL
      rw[w5,b]at a
      exact(List.cons.inj a).2.symm
     ·show aD G i (.cells v (flA hU (E.set k L[j])))++[.cells 0 (hU L[j]).cells]=_
      rw[gs,List.append_assoc]
   ·have hje:j=n:=by omega
    subst hje
    have hli:decide ((j:Int)<(j:Int))=false:=by simp
    repeat' first|(refine gS ?_;simp only[go_sem,g0,g1,g2,hli,hE])|refine gA ?_|(refine gD (fun h=>?_) (fun h=>?_)<;>try exact aA h)|fail
    rw[hn,List.take_length]at w4
    obtain⟨F,hF⟩:∃F,F=L.filter (fun x=> !p x):=⟨_,rfl⟩
    rw[←hF]at w4 ⊢
    have hk:k=F.length:=by rw[←w4,List.length_take];omega
    have hFl:=eR (enc:=hU) (s:=2) (fun _=>rfl) F
    have hsp:∀Z:List AV,∃rest,cR (flA hU E) (k * 2) Z=flA hU F++rest∧∀m,(∀x∈Z,Cl m x)→∀x∈rest,Cl m x:=fun Z=>by
     have e:=fD (A:=flA hU F) (B:=flA hU (E.drop k)) (off:=k * 2) (X:=Z) (by rw[hFl,hk])
     rw[←fN,←w4,List.take_append_drop]at e
     rw[w4]at e
     refine⟨Z++(flA hU (E.drop k)).drop Z.length,e,fun m hz x hx=>?_⟩
     rcases List.mem_append.1 hx with hx|hx
     ·exact hz x hx
     ·exact(pG (fun x=>by simp only[go_sem]) (E.drop k) x (List.mem_of_mem_drop hx)).cl m
    obtain⟨rest,hr,hz⟩:=hsp (List.flatMap AV.cells (List.replicate (j-k) (.agg [.int .i64 0,.sl true []])))
    rw[hr,gs]
    have gM:∀c,hget (aD H i (.cells v c)++M) i=.cells v c:=fun c=>aH (b:=.cells v c) (cV hilt _) trivial M
    simp only[gM]
    refine⟨⟨trivial,by omega,by omega⟩,?_⟩
    repeat' first|(refine gS ?_;simp only[go_sem])|refine gA ?_|(refine gD (fun h=>?_) (fun h=>?_)<;>try exact aA h)|fail
    refine⟨_,M,_,rfl,by rw[aC],mD ?_,.cl _ (.osl _ _ _ _ _ _ hilt),rest,by rw[hk],rfl⟩
    intro x hx
    rcases List.mem_append.1 hx with hx|hx
    ·exact(pG (fun x=>by simp only[go_sem]) F x hx).cl _
    ·refine hz _ (fun x hx=>?_) x hx
     rw[List.mem_flatMap]at hx
     obtain⟨e,he,hx⟩:=hx
     rw[List.mem_replicate]at he
     obtain⟨-,rfl⟩:=he
     simp only[AV.cells,List.mem_cons,List.not_mem_nil,or_false]at hx
     rcases hx with rfl|rfl<;>first|exact .int _ _|exact .bool _|exact .str _|exact(Pur.sl _ _ (fun _ h=>by cases h)).cl _
theorem aMp(l:List Wch)(p:Wch→Bool)(i v lc n:Nat)(hn:n=l.length)(hlc:n≤lc)(hl:n≤1073741824){fn:Fn}{fs cs:List AV}(Gd:AHeap→Prop)(hGd:∀G b,Gd G→Gd (aD G i b))(hGa:∀G L,Gd G→Gd (G++L))(H:AHeap)(hh:hget H i=.cells v (flA dL l))
  (hf:∀x G,Gd G→ACall Tryz.prog (.func fn fs cs) [dL x] G (fun r G'=>r=.bool (p x)∧G'=G)) (hg:Gd H):
  ACalls Tryz.prog 135 [.osl 4 i v 0 n lc,.func fn fs cs] H (fun r H'=>∃rest,r=.osl 4 i v 0 (l.filter (fun x=> !p x)).length lc∧H'=aD H i (.cells v (flA dL (l.filter (fun x=> !p x))++rest))):=by
 refine bJ Tryz.func135 rfl (Nat.le_of_ble_eq_true rfl) ?_
 have hidx:=aMm l p i v lc n hn hlc hl H hh (fun x=>hf x H hg)
 have hilt:=bI hh trivial
 have hf':=hf
 simp only[dL]at hf'
 by_cases h1:iT p l= -1
 ·rw[h1]at hidx
  repeat' first|((first|refine aV (hidx) cY ?_|refine aW (hidx) cY ?_|refine aX (fun _=>hidx) cY ?_|refine gS ?_);simp only[go_sem,hh,Int.reduceEq])|refine gA ?_|(refine gD (fun h=>?_) (fun h=>?_)<;>try exact aA h)|fail
  refine⟨H,[],_,(List.append_nil _).symm,rfl,fun k b hk=>.inl hk,.cl _ (.osl _ _ _ _ _ _ hilt),[],?_,?_⟩
  ·rw[mL h1,hn]
  ·rw[mL h1,List.append_nil];exact(gV hh trivial).symm
 ·obtain⟨A,x,B,rfl,e2,e3,e4⟩:=tN h1
  rw[e2]at hidx
  have hA:n=A.length+(B.length+1):=by simp[hn]
  have hd:decide (((A.length:Nat):Int)= -1)=false:=decide_eq_false (by omega)
  have hw:IntKind.i64.wrap ((A.length:Int)+1)=((A.length+1:Nat):Int):=by rw[wrap_i64 (by omega) (by omega)];rfl
  repeat' first|((first|refine aV (hidx) cY ?_|refine aW (hidx) cY ?_|refine aX (fun _=>hidx) cY ?_|refine gS ?_);simp only[go_sem,hh,hd,hw])|refine gA ?_|(refine gD (fun h=>?_) (fun h=>?_)<;>try exact aA h)|fail
  generalize hL:A++x::B=L at *
  refine aP (ι:=Nat×Nat×List Wch×AHeap) (fun s=>[(0,.osl 4 i v 0 n lc),(1,.func fn fs cs),(5,.int .i64 s.1),(6,.int .i64 s.2.1)])
   (fun s=>aD H i (.cells v (flA dL s.2.2.1))++s.2.2.2) (fun s=>s.1<s.2.1∧s.2.1≤n∧s.2.2.1.length=n∧s.2.2.1.take s.1=(L.take s.2.1).filter (fun x=> !p x)∧s.2.2.1.drop s.2.1=L.drop s.2.1) (fun s=>n-s.2.1) (A.length,A.length+1,L,[])
   ⟨by simp,by simp only;omega,hn.symm,?_,rfl⟩ ?_ (by rw[List.append_nil];exact(gV hh trivial).symm) ?_
  ·simp only;rw[←hL,List.take_left,show A++x::B=(A++[x])++B by simp,show A.length+1=(A++[x]).length by simp,List.take_left,List.filter_append,e4];simp[e3]
  ·simp[go_sem]
  ·rintro⟨k,j,E,M⟩ ⟨w1,w2,w3,w4,w5⟩
   simp only at w1 w2 w3 w4 w5 ⊢
   obtain⟨G,hG⟩:∃G,aD H i (.cells v (flA dL E))++M=G:=⟨_,rfl⟩
   rw[hG]
   have g0:hget G i=.cells v (flA dL E):=by rw[←hG];exact aH (b:=.cells v (flA dL E)) (cV hilt _) trivial M
   have g1:=aT g0 trivial
   have g2:=fM g0 trivial
   have gg:Gd G:=by rw[←hG];exact hGa _ _ (hGd _ _ hg)
   have gs:∀X,aD G i X=aD H i X++M:=fun X=>by rw[←hG,bS (by rw[aC];exact hilt),cZ]
   have hE:(flA dL E).length=n * 4:=by rw[eR (s:=4) (fun _=>rfl),w3]
   by_cases hj:j<n
   ·have hli:decide ((j:Int)<(n:Int))=true:=decide_eq_true (by omega)
    have hjL:j<L.length:=by omega
    have hEj:E[j]'(by omega)=L[j]:=by
     have a:=List.drop_eq_getElem_cons (l:=E) (i:=j) (by omega)
     have b:=List.drop_eq_getElem_cons hjL
     rw[w5,b]at a
     exact(List.cons.inj a).1.symm
    have hgy:=aAL (enc:=dL) (s:=4) (fun _=>rfl) (D:=E) (k:=j) (by omega)
    rw[hEj]at hgy
    simp only[dL,AV.cells]at hgy
    have hw1:IntKind.i64.wrap ((j:Int)+1)=((j+1:Nat):Int):=by rw[wrap_i64 (by omega) (by omega)];rfl
    have hw2:IntKind.i64.wrap ((k:Int)+1)=((k+1:Nat):Int):=by rw[wrap_i64 (by omega) (by omega)];rfl
    have hset1:=aF1 (enc:=dL) (s:=4) (fun _=>rfl) (D:=E) (k:=k) (by omega) L[j]
    simp only[dL,AV.cells]at hset1
    have etk:L.take (j+1)=L.take j++[L[j]]:=List.take_succ_eq_append_getElem hjL
    repeat' first|(refine gS ?_;simp only[go_sem,g0,g1,hli,hE,hgy])|refine gA ?_|(refine gD (fun h=>?_) (fun h=>?_)<;>try exact aA h)|fail
    refine uF (hf' L[j] _ (hGa _ _ gg)) ?_
    cases hpj:p L[j]with
    |true=>
     simp only[go_sem]
     repeat' first|(refine gS ?_;simp only[go_sem])|refine gA ?_|(refine gD (fun h=>?_) (fun h=>?_)<;>try exact aA h)|fail
     refine⟨(k,j+1,E,M++[.cells 0 (dL L[j]).cells]),⟨by simp only;omega,by simp only;omega,w3,?_,?_⟩,by simp only;omega,⟨rfl,congrArg _ hw1⟩,?_⟩
     ·simp only;rw[etk,List.filter_append,←w4,List.filter_cons,if_neg (by simp[hpj])];simp
     ·simp only
      have a:=List.drop_eq_getElem_cons (l:=E) (i:=j) (by omega)
      have b:=List.drop_eq_getElem_cons hjL
      rw[w5,b]at a
      exact(List.cons.inj a).2.symm
     ·show G++[.cells 0 (dL L[j]).cells]=_
      rw[←hG,List.append_assoc]
    |false=>
     simp only[go_sem]
     repeat' first|(refine gS ?_;simp only[go_sem,g0,g1,g2,hE,hset1])|refine gA ?_|(refine gD (fun h=>?_) (fun h=>?_)<;>try exact aA h)|fail
     refine⟨(k+1,j+1,E.set k L[j],M++[.cells 0 (dL L[j]).cells]),⟨by simp only;omega,by simp only;omega,by simp only[List.length_set];exact w3,?_,?_⟩,by simp only;omega,⟨congrArg _ hw2,congrArg _ hw1⟩,?_⟩
     ·simp only
      rw[etk,List.filter_append,←w4,List.filter_cons,if_pos (by simp[hpj]),List.take_succ_eq_append_getElem (by simp;omega),List.getElem_set_self,List.take_set_of_le (Nat.le_refl _)]
      rfl
     ·simp only
      rw[List.drop_set_of_lt (by omega)]
      have a:=List.drop_eq_getElem_cons (l:=E) (i:=j) (by omega)
      have b:=List.drop_eq_getElem_cons hjL
      rw[w5,b]at a
      exact(List.cons.inj a).2.symm
     ·show aD G i (.cells v (flA dL (E.set k L[j])))++[.cells 0 (dL L[j]).cells]=_
      rw[gs,List.append_assoc]
   ·have hje:j=n:=by omega
    subst hje
    have hli:decide ((j:Int)<(j:Int))=false:=by simp
    repeat' first|(refine gS ?_;simp only[go_sem,g0,g1,g2,hli,hE])|refine gA ?_|(refine gD (fun h=>?_) (fun h=>?_)<;>try exact aA h)|fail
    rw[hn,List.take_length]at w4
    obtain⟨F,hF⟩:∃F,F=L.filter (fun x=> !p x):=⟨_,rfl⟩
    rw[←hF]at w4 ⊢
    have hk:k=F.length:=by rw[←w4,List.length_take];omega
    have hFl:=eR (enc:=dL) (s:=4) (fun _=>rfl) F
    have hsp:∀Z:List AV,∃rest,cR (flA dL E) (k * 4) Z=flA dL F++rest∧∀m,(∀x∈Z,Cl m x)→∀x∈rest,Cl m x:=fun Z=>by
     have e:=fD (A:=flA dL F) (B:=flA dL (E.drop k)) (off:=k * 4) (X:=Z) (by rw[hFl,hk])
     rw[←fN,←w4,List.take_append_drop]at e
     rw[w4]at e
     refine⟨Z++(flA dL (E.drop k)).drop Z.length,e,fun m hz x hx=>?_⟩
     rcases List.mem_append.1 hx with hx|hx
     ·exact hz x hx
     ·exact(pG (fun x=>by simp only[go_sem]) (E.drop k) x (List.mem_of_mem_drop hx)).cl m
    obtain⟨rest,hr,hz⟩:=hsp (List.flatMap AV.cells (List.replicate (j-k) (.agg [.int .i64 0,.int .i64 0,.sl true [],.bool false])))
    rw[hr,gs]
    have gM:∀c,hget (aD H i (.cells v c)++M) i=.cells v c:=fun c=>aH (b:=.cells v c) (cV hilt _) trivial M
    simp only[gM]
    refine⟨⟨trivial,by omega,by omega⟩,?_⟩
    repeat' first|(refine gS ?_;simp only[go_sem])|refine gA ?_|(refine gD (fun h=>?_) (fun h=>?_)<;>try exact aA h)|fail
    refine⟨_,M,_,rfl,by rw[aC],mD ?_,.cl _ (.osl _ _ _ _ _ _ hilt),rest,by rw[hk],rfl⟩
    intro x hx
    rcases List.mem_append.1 hx with hx|hx
    ·exact(pG (fun x=>by simp only[go_sem]) F x hx).cl _
    ·refine hz _ (fun x hx=>?_) x hx
     rw[List.mem_flatMap]at hx
     obtain⟨e,he,hx⟩:=hx
     rw[List.mem_replicate]at he
     obtain⟨-,rfl⟩:=he
     simp only[AV.cells,List.mem_cons,List.not_mem_nil,or_false]at hx
     rcases hx with rfl|rfl|rfl|rfl<;>first|exact .int _ _|exact .bool _|exact .str _|exact(Pur.sl _ _ (fun _ h=>by cases h)).cl _
end Go.Proofs.YthhdnjiodklmmaaGreatDoor
