/- The texts 5 of 8 beneath the rows of this seat (joined by program): the abstract machine, and what the functions answer. No condition. -/
import Derived.Test.YthhdnjiodklmmaaGreatDoorWorkD
set_option linter.unusedSimpArgs false
set_option linter.unusedVariables false
set_option linter.unusedSectionVars false
/- Lists whose members have several cells, ars slices that may be written to: what the library's functions of slices do of them. No condition but their length. -/
namespace Go.Gw
open Go Go.Aw Go.Proofs.YthhdnjiodklmmaaGreatDoor
def flA{α:Type}(enc:α→AV)(D:List α):List AV:=(D.map enc).flatMap AV.cells
section
variable {α:Type} {enc:α→AV} {s:Nat}
theorem aJW:flA enc []=[]:=rfl
theorem iW(A B:List α):flA enc (A++B)=flA enc A++flA enc B:=by simp[flA]
theorem mZ(x:α)(B:List α):flA enc (x::B)=(enc x).cells++flA enc B:=by simp[flA]
theorem gB(hs:∀x,(enc x).cells.length=s)(D:List α):(flA enc D).length=D.length * s:=by
 induction D with
 |nil=>simp[flA]
 |cons x D ih=>rw[mZ,List.length_append,ih,hs,List.length_cons,Nat.add_mul];omega
theorem aJX(hs:∀x,(enc x).cells.length=s){A R:List α}{x:α}{k:Nat}(h:A.length=k):List.take s (List.drop (k * s) (flA enc (A++x::R)))=(enc x).cells:=by
 have hl:=gB hs A
 rw[h]at hl
 rw[iW,←hl,List.drop_left,mZ,←hs x,List.take_left]
theorem wD(hs:∀x,(enc x).cells.length=s){D:List α}{k:Nat}(h:k<D.length):List.take s (List.drop (k * s) (flA enc D))=(enc D[k]).cells:=by
 have e:D=D.take k++D[k]::D.drop (k+1):=by rw[←List.drop_eq_getElem_cons h,List.take_append_drop]
 have:=aJX hs (A:=D.take k) (R:=D.drop (k+1)) (x:=D[k]) (k:=k) (by rw[List.length_take];omega)
 rwa[←e]at this
theorem aDl(hs:∀x,(enc x).cells.length=s){D:List α}{k:Nat}(h:k<D.length)(y:α):cT (flA enc D) (k * s) (enc y).cells=flA enc (D.set k y):=by
 have hl:=gB hs (D.take k)
 rw[List.length_take,Nat.min_eq_left (by omega)]at hl
 have e:D=D.take k++(D[k]::D.drop (k+1)):=by rw[←List.drop_eq_getElem_cons h,List.take_append_drop]
 have e2:=gL (A:=flA enc (D.take k)) (B:=flA enc (D[k]::D.drop (k+1))) (off:=k * s) (X:=(enc y).cells) hl
 rw[←iW,←e]at e2
 rw[e2,List.set_eq_take_append_cons_drop,if_pos h,iW,mZ,mZ,show(enc y).cells.length=(enc D[k]).cells.length by rw[hs,hs],List.drop_left]
theorem mB(hp:∀x,Pur (enc x))(D:List α):∀x∈flA enc D,Pur x:=fun x hx=>by
 unfold flA at hx
 rw[List.mem_flatMap]at hx
 obtain⟨y,hy,hx⟩:=hx
 obtain⟨z, -,rfl⟩:=List.mem_map.1 hy
 exact Pur.cells (hp z) x hx
theorem aCA(hp:∀x,Pur (enc x))(n v:Nat)(D:List α):ClB n (.cells v (flA enc D)):=fun x hx=>(mB hp D x hx).cl n
theorem mC{l:List α}{p:α→Bool}(h:gJ p l= -1):l.filter (fun x=> !p x)=l:=by
 induction l with
 |nil=>rfl
 |cons x l ih=>
  unfold gJ at h
  by_cases hp:p x=true
  ·rw[if_pos hp]at h;cases h
  ·rw[if_neg hp]at h
   split at h
   ·rename_i h1;rw[List.filter_cons,if_pos (by simp[hp]),ih h1]
   ·have:=aC6 p l;omega
theorem wE{l:List α}{p:α→Bool}(h:gJ p l≠ -1):∃A x B,l=A++x::B∧gJ p l=A.length∧p x=true∧A.filter (fun x=> !p x)=A:=by
 induction l with
 |nil=>exact absurd rfl h
 |cons x l ih=>
  by_cases hp:p x=true
  ·exact⟨[],x,l,rfl,by simp[gJ,hp],hp,rfl⟩
  ·unfold gJ at h ⊢
   rw[if_neg hp]at h ⊢
   by_cases h1:gJ p l= -1
   ·rw[if_pos h1]at h;exact absurd rfl h
   ·rw[if_neg h1]
    obtain⟨A,y,B,e1,e2,e3,e4⟩:=ih h1
    exact⟨x::A,y,B,by rw[e1];rfl,by rw[e2];simp,e3,by rw[List.filter_cons,if_pos (by simp[hp]),e4]⟩
end
end Go.Gw
namespace Go.Proofs.YthhdnjiodklmmaaGreatDoor
open Go Go.Aw Go.Gw
set_option linter.unusedSimpArgs false
set_option linter.unusedVariables false
set_option maxRecDepth 20000
set_option maxHeartbeats 4000000
theorem lJ(l:List Nd):∀e∈l.map ndA,e.cells.length=8:=fun e he=>by
 obtain⟨x,_,rfl⟩:=List.mem_map.1 he;rfl
theorem qS(l:List Nd):(∀e∈l.map ndA,e.cells.length=8)=True:=eq_true (lJ l)
theorem wF(l:List Nd):∀e∈l.map ndA,Pur e:=fun e he=>by
 obtain⟨x,_,rfl⟩:=List.mem_map.1 he;first|exact(by simp only[go_sem])|(simp only[ndA];exact(by simp only[go_sem]))
theorem aCB(b:Bool)(l:List Nd)(hl:l.length≤1073741824)(H:AHeap):cN Tryz.prog 128 [.sl b (l.map ndA)] H (.sl false (l.map ndA)):=by
 refine aQ Tryz.func128 rfl (Nat.le_of_ble_eq_true rfl) ?_
 repeat' first|(refine gS ?_;simp only[go_sem])|refine gA ?_|(refine gD (fun h=>?_) (fun h=>?_)<;>try exact aB h)|fail
 intro c hc
 cases c with
 |true=>
  have hnil:l=[]:=by
   cases l with
   |nil=>rfl
   |cons x l=>exact absurd (hc (by simp)) (by decide)
  subst hnil
  repeat' first|(refine gS ?_;simp only[go_sem])|refine gA ?_|(refine gD (fun h=>?_) (fun h=>?_)<;>try exact aB h)|fail
  exact aT (by simp only[go_sem]) (.sl _ _)
 |false=>
  clear hc
  repeat' first|(refine gS ?_;simp only[go_sem,qS])|refine gA ?_|(refine gD (fun h=>?_) (fun h=>?_)<;>try exact aB h)|fail
  exact iU (cs:=List.flatMap AV.cells (List.map ndA l)) (es:=l.map ndA) (rest:=[]) (Nat.le_refl _) (by simp only[go_sem]) (List.append_nil _).symm (by rw[List.length_map]) (lJ _) (wF _) rfl
theorem yL(b:Bool)(l:List Snp)(hl:l.length≤1073741824)(H:AHeap):
  ACalls Tryz.prog 129 [.sl b (l.map gX)] H (fun v H'=>v=.osl 2 H.length 1 0 l.length l.length∧H'=H++[.cells 1 (flA gX l)]):=by
 refine gR Tryz.func129 rfl (Nat.le_of_ble_eq_true rfl) ?_
 have hcl:∀n,ClB n (.cells 1 (flA gX l)):=fun n=>aCA (fun x=>by simp only[go_sem]) n 1 l
 have fin:∀v H',v=.osl 2 H.length 1 0 l.length l.length→H'=H++[.cells 1 (flA gX l)]→∃H1 L y,H'=H1++L∧H.length≤H1.length∧(∀(i:Nat) (b:ABlk),H1[i]?=some b→H[i]?=some b∨ClB H1.length b)∧Frz H1.length H' v y∧
   y=.osl 2 H.length 1 0 l.length l.length∧H1=H++[.cells 1 (flA gX l)]:=by
  rintro v H' rfl rfl
  exact⟨_,[],_,(List.append_nil _).symm,by simp,aAL fun b hb=>by(rw[List.mem_singleton]at hb;subst hb;exact hcl _),.cl _ (.osl _ _ _ _ _ _ (by simp)),rfl,rfl⟩
 have hfl:List.flatMap AV.cells (l.map gX)=flA gX l:=rfl
 repeat' first|(refine gS ?_;simp only[go_sem])|refine gA ?_|(refine gD (fun h=>?_) (fun h=>?_)<;>try exact aB h)|fail
 intro c hc
 cases c with
 |true=>
  have hnil:l=[]:=by
   cases l with
   |nil=>rfl
   |cons x l=>exact absurd (hc (by simp)) (by decide)
  subst hnil
  repeat' first|(refine gS ?_;simp only[go_sem])|refine gA ?_|fail
  refine qB rfl (fun _=>?_) (fun h=>by cases h)
  refine yY ?_
  refine lB rfl ?_
  simp only[go_sem]
  refine qE 2 2 rfl ?_
  repeat' first|(refine gS ?_;simp only[go_sem])|refine gA ?_|(refine gD (fun h=>?_) (fun h=>?_)<;>try exact aB h)|fail
  exact fin _ _ rfl rfl
 |false=>
  clear hc
  have hc1:(∀e∈l.map gX,e.cells.length=2)=True:=eq_true fun e he=>by(obtain⟨x,_,rfl⟩:=List.mem_map.1 he;rfl)
  have hl8:(l.length * 32≤140737488355328)=True:=eq_true (by omega)
  repeat' first|(refine gS ?_;simp only[go_sem,hc1,hfl,hl8,Classical.em,true_or])|refine gA ?_|(refine gD (fun h=>?_) (fun h=>?_)<;>try exact aB h)|fail
  exact fin _ _ rfl rfl
theorem yM(b:Bool)(l:List Wch)(hl:l.length≤1073741824)(H:AHeap):
  ACalls Tryz.prog 79 [.sl b (l.map fT)] H (fun v H'=>v=.osl 4 H.length 1 0 l.length l.length∧H'=H++[.cells 1 (flA fT l)]):=by
 refine gR Tryz.func79 rfl (Nat.le_of_ble_eq_true rfl) ?_
 have hcl:∀n,ClB n (.cells 1 (flA fT l)):=fun n=>aCA (fun x=>by simp only[go_sem]) n 1 l
 have fin:∀v H',v=.osl 4 H.length 1 0 l.length l.length→H'=H++[.cells 1 (flA fT l)]→∃H1 L y,H'=H1++L∧H.length≤H1.length∧(∀(i:Nat) (b:ABlk),H1[i]?=some b→H[i]?=some b∨ClB H1.length b)∧Frz H1.length H' v y∧
   y=.osl 4 H.length 1 0 l.length l.length∧H1=H++[.cells 1 (flA fT l)]:=by
  rintro v H' rfl rfl
  exact⟨_,[],_,(List.append_nil _).symm,by simp,aAL fun b hb=>by(rw[List.mem_singleton]at hb;subst hb;exact hcl _),.cl _ (.osl _ _ _ _ _ _ (by simp)),rfl,rfl⟩
 have hfl:List.flatMap AV.cells (l.map fT)=flA fT l:=rfl
 repeat' first|(refine gS ?_;simp only[go_sem])|refine gA ?_|(refine gD (fun h=>?_) (fun h=>?_)<;>try exact aB h)|fail
 intro c hc
 cases c with
 |true=>
  have hnil:l=[]:=by
   cases l with
   |nil=>rfl
   |cons x l=>exact absurd (hc (by simp)) (by decide)
  subst hnil
  repeat' first|(refine gS ?_;simp only[go_sem])|refine gA ?_|fail
  refine qB rfl (fun _=>?_) (fun h=>by cases h)
  refine yY ?_
  refine lB rfl ?_
  simp only[go_sem]
  refine qE 2 4 rfl ?_
  repeat' first|(refine gS ?_;simp only[go_sem])|refine gA ?_|(refine gD (fun h=>?_) (fun h=>?_)<;>try exact aB h)|fail
  exact fin _ _ rfl rfl
 |false=>
  clear hc
  have hc1:(∀e∈l.map fT,e.cells.length=4)=True:=eq_true fun e he=>by(obtain⟨x,_,rfl⟩:=List.mem_map.1 he;rfl)
  have hl8:(l.length * 48≤140737488355328)=True:=eq_true (by omega)
  repeat' first|(refine gS ?_;simp only[go_sem,hc1,hfl,hl8,Classical.em,true_or])|refine gA ?_|(refine gD (fun h=>?_) (fun h=>?_)<;>try exact aB h)|fail
  exact fin _ _ rfl rfl
theorem aA7(b:Bool)(l:List Snp)(fn:Fn)(fs cs:List AV)(p:Snp→Bool)(H:AHeap)(hf:∀c,FnV Tryz.prog (.func fn fs cs) [gX c] H (.bool (p c))):
  cN Tryz.prog 176 [.sl b (l.map gX),.func fn fs cs] H (.int .i64 (gJ p l)):=by
 refine iT fun hok _=>?_
 have hl:=mS hok
 rw[List.length_map]at hl
 simp only[gX]at hf
 refine aQ Tryz.func176 rfl (Nat.le_of_ble_eq_true rfl) ?_
 repeat' first|(refine gS ?_;simp only[go_sem])|refine gA ?_|(refine gD (fun h=>?_) (fun h=>?_)<;>try exact aB h)|fail
 refine aR (ι:=Nat) (fun i=>[(0,.sl b (l.map gX)),(1,.func fn fs cs),(7,.int .i64 l.length),(8,.int .i64 i)]) (fun _=>H) (fun i=>i≤l.length∧∀k (hk:k<i) (hk2:k<l.length),p l[k]=false) (fun i=>l.length-i) 0 ⟨Nat.zero_le _,fun k hk=>by omega⟩ ?_ rfl ?_
 ·simp[go_sem]
 ·rintro i ⟨hi,hno⟩
  by_cases hlt:i<l.length
  ·have hp:=bF gX hlt
   repeat' first|(refine gS ?_;simp only[go_sem,hp,gX])|refine gA ?_|(refine gD (fun h=>?_) (fun h=>?_)<;>try exact aB h)|fail
   refine mT (hf _) ?_
   simp only[go_sem]
   repeat' first|(refine gS ?_;simp only[go_sem])|refine gA ?_|(refine gD (fun h=>?_) (fun h=>?_)<;>try exact aB h)|fail
   ·exact aT (by simp only[go_sem]) (.of (by rw[kJ p l i hlt (fun k hk=>hno k hk (by omega)) h]))
   ·refine⟨i+1,⟨hlt,fun k hk hk2=>?_⟩,by omega,by rw[wrap_i64 (by omega) (by omega)];rfl⟩
    by_cases e:k=i
    ·subst e;exact h
    ·exact hno k (by omega) hk2
  ·have hi':i=l.length:=by omega
   repeat' first|(refine gS ?_;simp only[go_sem])|refine gA ?_|(refine gD (fun h=>?_) (fun h=>?_)<;>try exact aB h)|fail
   subst hi'
   exact aT (by simp only[go_sem]) (.of (by rw[kK p l fun k hk=>hno k hk hk]))
theorem aJY(b:Bool)(l:List Snp)(fn:Fn)(fs cs:List AV)(p:Snp→Bool)(H:AHeap)(hf:∀c,FnV Tryz.prog (.func fn fs cs) [gX c] H (.bool (p c))):
  cN Tryz.prog 132 [.sl b (l.map gX),.func fn fs cs] H (.bool (l.any p)):=by
 refine aQ Tryz.func132 rfl (Nat.le_of_ble_eq_true rfl) ?_
 have hx:=aA7 b l fn fs cs p H hf
 repeat' first|((first|refine aV (hx) eP ?_|refine aW (hx) eP ?_|refine aX (fun _=>hx) eP ?_|refine gS ?_);simp only[go_sem])|refine gA ?_|(refine gD (fun h=>?_) (fun h=>?_)<;>try exact aB h)|fail
 exact aT (by simp only[go_sem]) (.of (by rw[mX]))
theorem aA8(b:Bool)(l:List Wch)(fn:Fn)(fs cs:List AV)(p:Wch→Bool)(H:AHeap)(hf:∀c,FnV Tryz.prog (.func fn fs cs) [fT c] H (.bool (p c))):
  cN Tryz.prog 136 [.sl b (l.map fT),.func fn fs cs] H (.int .i64 (gJ p l)):=by
 refine iT fun hok _=>?_
 have hl:=mS hok
 rw[List.length_map]at hl
 simp only[fT]at hf
 refine aQ Tryz.func136 rfl (Nat.le_of_ble_eq_true rfl) ?_
 repeat' first|(refine gS ?_;simp only[go_sem])|refine gA ?_|(refine gD (fun h=>?_) (fun h=>?_)<;>try exact aB h)|fail
 refine aR (ι:=Nat) (fun i=>[(0,.sl b (l.map fT)),(1,.func fn fs cs),(7,.int .i64 l.length),(8,.int .i64 i)]) (fun _=>H) (fun i=>i≤l.length∧∀k (hk:k<i) (hk2:k<l.length),p l[k]=false) (fun i=>l.length-i) 0 ⟨Nat.zero_le _,fun k hk=>by omega⟩ ?_ rfl ?_
 ·simp[go_sem]
 ·rintro i ⟨hi,hno⟩
  by_cases hlt:i<l.length
  ·have hp:=bF fT hlt
   repeat' first|(refine gS ?_;simp only[go_sem,hp,fT])|refine gA ?_|(refine gD (fun h=>?_) (fun h=>?_)<;>try exact aB h)|fail
   refine mT (hf _) ?_
   simp only[go_sem]
   repeat' first|(refine gS ?_;simp only[go_sem])|refine gA ?_|(refine gD (fun h=>?_) (fun h=>?_)<;>try exact aB h)|fail
   ·exact aT (by simp only[go_sem]) (.of (by rw[kJ p l i hlt (fun k hk=>hno k hk (by omega)) h]))
   ·refine⟨i+1,⟨hlt,fun k hk hk2=>?_⟩,by omega,by rw[wrap_i64 (by omega) (by omega)];rfl⟩
    by_cases e:k=i
    ·subst e;exact h
    ·exact hno k (by omega) hk2
  ·have hi':i=l.length:=by omega
   repeat' first|(refine gS ?_;simp only[go_sem])|refine gA ?_|(refine gD (fun h=>?_) (fun h=>?_)<;>try exact aB h)|fail
   subst hi'
   exact aT (by simp only[go_sem]) (.of (by rw[kK p l fun k hk=>hno k hk hk]))
theorem aJZ(b:Bool)(l:List Wch)(fn:Fn)(fs cs:List AV)(p:Wch→Bool)(H:AHeap)(hf:∀c,FnV Tryz.prog (.func fn fs cs) [fT c] H (.bool (p c))):
  cN Tryz.prog 133 [.sl b (l.map fT),.func fn fs cs] H (.bool (l.any p)):=by
 refine aQ Tryz.func133 rfl (Nat.le_of_ble_eq_true rfl) ?_
 have hx:=aA8 b l fn fs cs p H hf
 repeat' first|((first|refine aV (hx) eO ?_|refine aW (hx) eO ?_|refine aX (fun _=>hx) eO ?_|refine gS ?_);simp only[go_sem])|refine gA ?_|(refine gD (fun h=>?_) (fun h=>?_)<;>try exact aB h)|fail
 exact aT (by simp only[go_sem]) (.of (by rw[mX]))
theorem aJ0(l:List Snp)(p:Snp→Bool)(i v lc n:Nat)(hn:n=l.length)(hlc:n≤lc)(hl:n≤1073741824){fn:Fn}{fs cs:List AV}(H:AHeap)(hh:hget H i=.cells v (flA gX l))
  (hf:∀x,ACall Tryz.prog (.func fn fs cs) [gX x] H (fun r G'=>r=.bool (p x)∧G'=H)):
  cN Tryz.prog 176 [.osl 2 i v 0 n lc,.func fn fs cs] H (.int .i64 (gJ p l)):=by
 refine aQ Tryz.func176 rfl (Nat.le_of_ble_eq_true rfl) ?_
 have hln:(flA gX l).length=n * 2:=by rw[gB (s:=2) (fun _=>rfl),hn]
 have hf':=hf
 simp only[gX]at hf'
 repeat' first|(refine gS ?_;simp only[go_sem,hh])|refine gA ?_|(refine gD (fun h=>?_) (fun h=>?_)<;>try exact aB h)|fail
 refine aR (ι:=Nat) (fun k=>[(0,.osl 2 i v 0 n lc),(1,.func fn fs cs),(7,.int .i64 n),(8,.int .i64 k)]) (fun _=>H) (fun k=>k≤n∧∀q (hk:q<k) (hk2:q<l.length),p l[q]=false) (fun k=>n-k) 0 ⟨Nat.zero_le _,fun q hk=>by omega⟩ ?_ rfl ?_
 ·simp[go_sem]
 ·rintro k ⟨hk,hno⟩
  by_cases hlt:k<l.length
  ·have hp:=wD (enc:=gX) (s:=2) (fun _=>rfl) hlt
   simp only[gX,AV.cells]at hp
   have hli:decide ((k:Int)<(n:Int))=true:=decide_eq_true (by omega)
   have hw:=bI hlt (by omega)
   repeat' first|(refine gS ?_;simp only[go_sem,hh,hli,hp,hln])|refine gA ?_|(refine gD (fun h=>?_) (fun h=>?_)<;>try exact aB h)|fail
   refine qI (hf' l[k]) ?_
   simp only[go_sem]
   repeat' first|(refine gS ?_;simp only[go_sem])|refine gA ?_|(refine gD (fun h=>?_) (fun h=>?_)<;>try exact aB h)|fail
   ·exact aT (by simp only[go_sem]) (.of (by rw[kJ p l k hlt (fun q hq=>hno q hq (by omega)) (by assumption)]))
   ·refine⟨k+1,⟨by omega,fun q hq hq2=>?_⟩,by omega,congrArg _ hw⟩
    by_cases e:q=k
    ·subst e;assumption
    ·exact hno q (by omega) (by omega)
  ·have hi':k=n:=by omega
   subst hi'
   have hli:decide ((k:Int)<(k:Int))=false:=by simp
   repeat' first|(refine gS ?_;simp only[go_sem,hh,hli])|refine gA ?_|(refine gD (fun h=>?_) (fun h=>?_)<;>try exact aB h)|fail
   exact aT (by simp only[go_sem]) (.of (by rw[kK p l fun q hk=>hno q (by omega) hk]))
theorem aJ1(l:List Wch)(p:Wch→Bool)(i v lc n:Nat)(hn:n=l.length)(hlc:n≤lc)(hl:n≤1073741824){fn:Fn}{fs cs:List AV}(H:AHeap)(hh:hget H i=.cells v (flA fT l))
  (hf:∀x,ACall Tryz.prog (.func fn fs cs) [fT x] H (fun r G'=>r=.bool (p x)∧G'=H)):
  cN Tryz.prog 136 [.osl 4 i v 0 n lc,.func fn fs cs] H (.int .i64 (gJ p l)):=by
 refine aQ Tryz.func136 rfl (Nat.le_of_ble_eq_true rfl) ?_
 have hln:(flA fT l).length=n * 4:=by rw[gB (s:=4) (fun _=>rfl),hn]
 have hf':=hf
 simp only[fT]at hf'
 repeat' first|(refine gS ?_;simp only[go_sem,hh])|refine gA ?_|(refine gD (fun h=>?_) (fun h=>?_)<;>try exact aB h)|fail
 refine aR (ι:=Nat) (fun k=>[(0,.osl 4 i v 0 n lc),(1,.func fn fs cs),(7,.int .i64 n),(8,.int .i64 k)]) (fun _=>H) (fun k=>k≤n∧∀q (hk:q<k) (hk2:q<l.length),p l[q]=false) (fun k=>n-k) 0 ⟨Nat.zero_le _,fun q hk=>by omega⟩ ?_ rfl ?_
 ·simp[go_sem]
 ·rintro k ⟨hk,hno⟩
  by_cases hlt:k<l.length
  ·have hp:=wD (enc:=fT) (s:=4) (fun _=>rfl) hlt
   simp only[fT,AV.cells]at hp
   have hli:decide ((k:Int)<(n:Int))=true:=decide_eq_true (by omega)
   have hw:=bI hlt (by omega)
   repeat' first|(refine gS ?_;simp only[go_sem,hh,hli,hp,hln])|refine gA ?_|(refine gD (fun h=>?_) (fun h=>?_)<;>try exact aB h)|fail
   refine qI (hf' l[k]) ?_
   simp only[go_sem]
   repeat' first|(refine gS ?_;simp only[go_sem])|refine gA ?_|(refine gD (fun h=>?_) (fun h=>?_)<;>try exact aB h)|fail
   ·exact aT (by simp only[go_sem]) (.of (by rw[kJ p l k hlt (fun q hq=>hno q hq (by omega)) (by assumption)]))
   ·refine⟨k+1,⟨by omega,fun q hq hq2=>?_⟩,by omega,congrArg _ hw⟩
    by_cases e:q=k
    ·subst e;assumption
    ·exact hno q (by omega) (by omega)
  ·have hi':k=n:=by omega
   subst hi'
   have hli:decide ((k:Int)<(k:Int))=false:=by simp
   repeat' first|(refine gS ?_;simp only[go_sem,hh,hli])|refine gA ?_|(refine gD (fun h=>?_) (fun h=>?_)<;>try exact aB h)|fail
   exact aT (by simp only[go_sem]) (.of (by rw[kK p l fun q hk=>hno q (by omega) hk]))
theorem bDt(l:List Opn)(p:Opn→Bool)(i v lc n:Nat)(hn:n=l.length)(hlc:n≤lc)(hl:n≤1073741824){fn:Fn}{fs cs:List AV}(H:AHeap)(hh:hget H i=.cells v (flA opA l))
  (hf:∀x,ACall Tryz.prog (.func fn fs cs) [opA x] H (fun r G'=>r=.bool (p x)∧G'=H)):
  cN Tryz.prog 180 [.osl 7 i v 0 n lc,.func fn fs cs] H (.int .i64 (gJ p l)):=by
 refine aQ Tryz.func180 rfl (Nat.le_of_ble_eq_true rfl) ?_
 have hln:(flA opA l).length=n * 7:=by rw[gB (s:=7) (fun _=>rfl),hn]
 have hf':=hf
 simp only[opA]at hf'
 repeat' first|(refine gS ?_;simp only[go_sem,hh])|refine gA ?_|(refine gD (fun h=>?_) (fun h=>?_)<;>try exact aB h)|fail
 refine aR (ι:=Nat) (fun k=>[(0,.osl 7 i v 0 n lc),(1,.func fn fs cs),(7,.int .i64 n),(8,.int .i64 k)]) (fun _=>H) (fun k=>k≤n∧∀q (hk:q<k) (hk2:q<l.length),p l[q]=false) (fun k=>n-k) 0 ⟨Nat.zero_le _,fun q hk=>by omega⟩ ?_ rfl ?_
 ·simp[go_sem]
 ·rintro k ⟨hk,hno⟩
  by_cases hlt:k<l.length
  ·have hp:=wD (enc:=opA) (s:=7) (fun _=>rfl) hlt
   simp only[opA,AV.cells]at hp
   have hli:decide ((k:Int)<(n:Int))=true:=decide_eq_true (by omega)
   have hw:=bI hlt (by omega)
   repeat' first|(refine gS ?_;simp only[go_sem,hh,hli,hp,hln])|refine gA ?_|(refine gD (fun h=>?_) (fun h=>?_)<;>try exact aB h)|fail
   refine qI (hf' l[k]) ?_
   simp only[go_sem]
   repeat' first|(refine gS ?_;simp only[go_sem])|refine gA ?_|(refine gD (fun h=>?_) (fun h=>?_)<;>try exact aB h)|fail
   ·exact aT (by simp only[go_sem]) (.of (by rw[kJ p l k hlt (fun q hq=>hno q hq (by omega)) (by assumption)]))
   ·refine⟨k+1,⟨by omega,fun q hq hq2=>?_⟩,by omega,congrArg _ hw⟩
    by_cases e:q=k
    ·subst e;assumption
    ·exact hno q (by omega) (by omega)
  ·have hi':k=n:=by omega
   subst hi'
   have hli:decide ((k:Int)<(k:Int))=false:=by simp
   repeat' first|(refine gS ?_;simp only[go_sem,hh,hli])|refine gA ?_|(refine gD (fun h=>?_) (fun h=>?_)<;>try exact aB h)|fail
   exact aT (by simp only[go_sem]) (.of (by rw[kK p l fun q hk=>hno q (by omega) hk]))
theorem aJ2(l:List Snp)(p:Snp→Bool)(i v lc n:Nat)(hn:n=l.length)(hlc:n≤lc)(hl:n≤1073741824){fn:Fn}{fs cs:List AV}(Gd:AHeap→Prop)(hGd:∀G b,Gd G→Gd (aD G i b))(hGa:∀G L,Gd G→Gd (G++L))(H:AHeap)(hh:hget H i=.cells v (flA gX l))
  (hf:∀x G,Gd G→ACall Tryz.prog (.func fn fs cs) [gX x] G (fun r G'=>r=.bool (p x)∧G'=G)) (hg:Gd H):
  ACalls Tryz.prog 134 [.osl 2 i v 0 n lc,.func fn fs cs] H (fun r H'=>∃rest,r=.osl 2 i v 0 (l.filter (fun x=> !p x)).length lc∧H'=aD H i (.cells v (flA gX (l.filter (fun x=> !p x))++rest))):=by
 refine bQ Tryz.func134 rfl (Nat.le_of_ble_eq_true rfl) ?_
 have hidx:=aJ0 l p i v lc n hn hlc hl H hh (fun x=>hf x H hg)
 have hilt:=bP hh trivial
 have hf':=hf
 simp only[gX]at hf'
 by_cases h1:gJ p l= -1
 ·rw[h1]at hidx
  repeat' first|((first|refine aV (hidx) eP ?_|refine aW (hidx) eP ?_|refine aX (fun _=>hidx) eP ?_|refine gS ?_);simp only[go_sem,hh,Int.reduceEq])|refine gA ?_|(refine gD (fun h=>?_) (fun h=>?_)<;>try exact aB h)|fail
  refine⟨H,[],_,(List.append_nil _).symm,rfl,fun k b hk=>.inl hk,.cl _ (.osl _ _ _ _ _ _ hilt),[],?_,?_⟩
  ·rw[mC h1,hn]
  ·rw[mC h1,List.append_nil];exact(hP hh trivial).symm
 ·obtain⟨A,x,B,rfl,e2,e3,e4⟩:=wE h1
  rw[e2]at hidx
  have hA:n=A.length+(B.length+1):=by simp[hn]
  have hd:decide (((A.length:Nat):Int)= -1)=false:=decide_eq_false (by omega)
  have hw:IntKind.i64.wrap ((A.length:Int)+1)=((A.length+1:Nat):Int):=by rw[wrap_i64 (by omega) (by omega)];rfl
  repeat' first|((first|refine aV (hidx) eP ?_|refine aW (hidx) eP ?_|refine aX (fun _=>hidx) eP ?_|refine gS ?_);simp only[go_sem,hh,hd,hw])|refine gA ?_|(refine gD (fun h=>?_) (fun h=>?_)<;>try exact aB h)|fail
  generalize hL:A++x::B=L at *
  refine aR (ι:=Nat×Nat×List Snp×AHeap) (fun s=>[(0,.osl 2 i v 0 n lc),(1,.func fn fs cs),(5,.int .i64 s.1),(6,.int .i64 s.2.1)])
   (fun s=>aD H i (.cells v (flA gX s.2.2.1))++s.2.2.2) (fun s=>s.1<s.2.1∧s.2.1≤n∧s.2.2.1.length=n∧s.2.2.1.take s.1=(L.take s.2.1).filter (fun x=> !p x)∧s.2.2.1.drop s.2.1=L.drop s.2.1) (fun s=>n-s.2.1) (A.length,A.length+1,L,[])
   ⟨by simp,by simp only;omega,hn.symm,?_,rfl⟩ ?_ (by rw[List.append_nil];exact(hP hh trivial).symm) ?_
  ·simp only;rw[←hL,List.take_left,show A++x::B=(A++[x])++B by simp,show A.length+1=(A++[x]).length by simp,List.take_left,List.filter_append,e4];simp[e3]
  ·simp[go_sem]
  ·rintro⟨k,j,E,M⟩ ⟨w1,w2,w3,w4,w5⟩
   simp only at w1 w2 w3 w4 w5 ⊢
   obtain⟨G,hG⟩:∃G,aD H i (.cells v (flA gX E))++M=G:=⟨_,rfl⟩
   rw[hG]
   have g0:hget G i=.cells v (flA gX E):=by rw[←hG];exact aK (b:=.cells v (flA gX E)) (dD hilt _) trivial M
   have g1:=aZ g0 trivial
   have g2:=eZ g0 trivial
   have gg:Gd G:=by rw[←hG];exact hGa _ _ (hGd _ _ hg)
   have gs:∀X,aD G i X=aD H i X++M:=fun X=>by rw[←hG,cG (by rw[aI];exact hilt),dR]
   have hE:(flA gX E).length=n * 2:=by rw[gB (s:=2) (fun _=>rfl),w3]
   by_cases hj:j<n
   ·have hli:decide ((j:Int)<(n:Int))=true:=decide_eq_true (by omega)
    have hjL:j<L.length:=by omega
    have hEj:E[j]'(by omega)=L[j]:=by
     have a:=List.drop_eq_getElem_cons (l:=E) (i:=j) (by omega)
     have b:=List.drop_eq_getElem_cons hjL
     rw[w5,b]at a
     exact(List.cons.inj a).1.symm
    have hgy:=wD (enc:=gX) (s:=2) (fun _=>rfl) (D:=E) (k:=j) (by omega)
    rw[hEj]at hgy
    simp only[gX,AV.cells]at hgy
    have hw1:IntKind.i64.wrap ((j:Int)+1)=((j+1:Nat):Int):=by rw[wrap_i64 (by omega) (by omega)];rfl
    have hw2:IntKind.i64.wrap ((k:Int)+1)=((k+1:Nat):Int):=by rw[wrap_i64 (by omega) (by omega)];rfl
    have hset1:=aDl (enc:=gX) (s:=2) (fun _=>rfl) (D:=E) (k:=k) (by omega) L[j]
    simp only[gX,AV.cells]at hset1
    have etk:L.take (j+1)=L.take j++[L[j]]:=List.take_succ_eq_append_getElem hjL
    repeat' first|(refine gS ?_;simp only[go_sem,g0,g1,hli,hE,hgy])|refine gA ?_|(refine gD (fun h=>?_) (fun h=>?_)<;>try exact aB h)|fail
    refine qI (hf' L[j] _ (hGa _ _ gg)) ?_
    cases hpj:p L[j]with
    |true=>
     simp only[go_sem]
     repeat' first|(refine gS ?_;simp only[go_sem])|refine gA ?_|(refine gD (fun h=>?_) (fun h=>?_)<;>try exact aB h)|fail
     refine⟨(k,j+1,E,M++[.cells 0 (gX L[j]).cells]),⟨by simp only;omega,by simp only;omega,w3,?_,?_⟩,by simp only;omega,⟨rfl,congrArg _ hw1⟩,?_⟩
     ·simp only;rw[etk,List.filter_append,←w4,List.filter_cons,if_neg (by simp[hpj])];simp
     ·simp only
      have a:=List.drop_eq_getElem_cons (l:=E) (i:=j) (by omega)
      have b:=List.drop_eq_getElem_cons hjL
      rw[w5,b]at a
      exact(List.cons.inj a).2.symm
     ·show G++[.cells 0 (gX L[j]).cells]=_
      rw[←hG,List.append_assoc]
    |false=>
     simp only[go_sem]
     repeat' first|(refine gS ?_;simp only[go_sem,g0,g1,g2,hE,hset1])|refine gA ?_|(refine gD (fun h=>?_) (fun h=>?_)<;>try exact aB h)|fail
     refine⟨(k+1,j+1,E.set k L[j],M++[.cells 0 (gX L[j]).cells]),⟨by simp only;omega,by simp only;omega,by simp only[List.length_set];exact w3,?_,?_⟩,by simp only;omega,⟨congrArg _ hw2,congrArg _ hw1⟩,?_⟩
     ·simp only
      rw[etk,List.filter_append,←w4,List.filter_cons,if_pos (by simp[hpj]),List.take_succ_eq_append_getElem (by simp;omega),List.getElem_set_self,List.take_set_of_le (Nat.le_refl _)]
      rfl
     ·simp only
      rw[List.drop_set_of_lt (by omega)]
      have a:=List.drop_eq_getElem_cons (l:=E) (i:=j) (by omega)
      have b:=List.drop_eq_getElem_cons hjL
      rw[w5,b]at a
      exact(List.cons.inj a).2.symm
     ·show aD G i (.cells v (flA gX (E.set k L[j])))++[.cells 0 (gX L[j]).cells]=_
      rw[gs,List.append_assoc]
   ·have hje:j=n:=by omega
    subst hje
    have hli:decide ((j:Int)<(j:Int))=false:=by simp
    repeat' first|(refine gS ?_;simp only[go_sem,g0,g1,g2,hli,hE])|refine gA ?_|(refine gD (fun h=>?_) (fun h=>?_)<;>try exact aB h)|fail
    rw[hn,List.take_length]at w4
    obtain⟨F,hF⟩:∃F,F=L.filter (fun x=> !p x):=⟨_,rfl⟩
    rw[←hF]at w4 ⊢
    have hk:k=F.length:=by rw[←w4,List.length_take];omega
    have hFl:=gB (enc:=gX) (s:=2) (fun _=>rfl) F
    have hsp:∀Z:List AV,∃rest,cT (flA gX E) (k * 2) Z=flA gX F++rest∧∀m,(∀x∈Z,Cl m x)→∀x∈rest,Cl m x:=fun Z=>by
     have e:=gL (A:=flA gX F) (B:=flA gX (E.drop k)) (off:=k * 2) (X:=Z) (by rw[hFl,hk])
     rw[←iW,←w4,List.take_append_drop]at e
     rw[w4]at e
     refine⟨Z++(flA gX (E.drop k)).drop Z.length,e,fun m hz x hx=>?_⟩
     rcases List.mem_append.1 hx with hx|hx
     ·exact hz x hx
     ·exact(mB (fun x=>by simp only[go_sem]) (E.drop k) x (List.mem_of_mem_drop hx)).cl m
    obtain⟨rest,hr,hz⟩:=hsp (List.flatMap AV.cells (List.replicate (j-k) (.agg [.int .i64 0,.sl true []])))
    rw[hr,gs]
    have gM:∀c,hget (aD H i (.cells v c)++M) i=.cells v c:=fun c=>aK (b:=.cells v c) (dD hilt _) trivial M
    simp only[gM]
    refine⟨⟨trivial,by omega,by omega⟩,?_⟩
    repeat' first|(refine gS ?_;simp only[go_sem])|refine gA ?_|(refine gD (fun h=>?_) (fun h=>?_)<;>try exact aB h)|fail
    refine⟨_,M,_,rfl,by rw[aI],jW ?_,.cl _ (.osl _ _ _ _ _ _ hilt),rest,by rw[hk],rfl⟩
    intro x hx
    rcases List.mem_append.1 hx with hx|hx
    ·exact(mB (fun x=>by simp only[go_sem]) F x hx).cl _
    ·refine hz _ (fun x hx=>?_) x hx
     rw[List.mem_flatMap]at hx
     obtain⟨e,he,hx⟩:=hx
     rw[List.mem_replicate]at he
     obtain⟨-,rfl⟩:=he
     simp only[AV.cells,List.mem_cons,List.not_mem_nil,or_false]at hx
     rcases hx with rfl|rfl<;>first|exact .int _ _|exact .bool _|exact .str _|exact(Pur.sl _ _ (fun _ h=>by cases h)).cl _
theorem aJ3(l:List Wch)(p:Wch→Bool)(i v lc n:Nat)(hn:n=l.length)(hlc:n≤lc)(hl:n≤1073741824){fn:Fn}{fs cs:List AV}(Gd:AHeap→Prop)(hGd:∀G b,Gd G→Gd (aD G i b))(hGa:∀G L,Gd G→Gd (G++L))(H:AHeap)(hh:hget H i=.cells v (flA fT l))
  (hf:∀x G,Gd G→ACall Tryz.prog (.func fn fs cs) [fT x] G (fun r G'=>r=.bool (p x)∧G'=G)) (hg:Gd H):
  ACalls Tryz.prog 135 [.osl 4 i v 0 n lc,.func fn fs cs] H (fun r H'=>∃rest,r=.osl 4 i v 0 (l.filter (fun x=> !p x)).length lc∧H'=aD H i (.cells v (flA fT (l.filter (fun x=> !p x))++rest))):=by
 refine bQ Tryz.func135 rfl (Nat.le_of_ble_eq_true rfl) ?_
 have hidx:=aJ1 l p i v lc n hn hlc hl H hh (fun x=>hf x H hg)
 have hilt:=bP hh trivial
 have hf':=hf
 simp only[fT]at hf'
 by_cases h1:gJ p l= -1
 ·rw[h1]at hidx
  repeat' first|((first|refine aV (hidx) eO ?_|refine aW (hidx) eO ?_|refine aX (fun _=>hidx) eO ?_|refine gS ?_);simp only[go_sem,hh,Int.reduceEq])|refine gA ?_|(refine gD (fun h=>?_) (fun h=>?_)<;>try exact aB h)|fail
  refine⟨H,[],_,(List.append_nil _).symm,rfl,fun k b hk=>.inl hk,.cl _ (.osl _ _ _ _ _ _ hilt),[],?_,?_⟩
  ·rw[mC h1,hn]
  ·rw[mC h1,List.append_nil];exact(hP hh trivial).symm
 ·obtain⟨A,x,B,rfl,e2,e3,e4⟩:=wE h1
  rw[e2]at hidx
  have hA:n=A.length+(B.length+1):=by simp[hn]
  have hd:decide (((A.length:Nat):Int)= -1)=false:=decide_eq_false (by omega)
  have hw:IntKind.i64.wrap ((A.length:Int)+1)=((A.length+1:Nat):Int):=by rw[wrap_i64 (by omega) (by omega)];rfl
  repeat' first|((first|refine aV (hidx) eO ?_|refine aW (hidx) eO ?_|refine aX (fun _=>hidx) eO ?_|refine gS ?_);simp only[go_sem,hh,hd,hw])|refine gA ?_|(refine gD (fun h=>?_) (fun h=>?_)<;>try exact aB h)|fail
  generalize hL:A++x::B=L at *
  refine aR (ι:=Nat×Nat×List Wch×AHeap) (fun s=>[(0,.osl 4 i v 0 n lc),(1,.func fn fs cs),(5,.int .i64 s.1),(6,.int .i64 s.2.1)])
   (fun s=>aD H i (.cells v (flA fT s.2.2.1))++s.2.2.2) (fun s=>s.1<s.2.1∧s.2.1≤n∧s.2.2.1.length=n∧s.2.2.1.take s.1=(L.take s.2.1).filter (fun x=> !p x)∧s.2.2.1.drop s.2.1=L.drop s.2.1) (fun s=>n-s.2.1) (A.length,A.length+1,L,[])
   ⟨by simp,by simp only;omega,hn.symm,?_,rfl⟩ ?_ (by rw[List.append_nil];exact(hP hh trivial).symm) ?_
  ·simp only;rw[←hL,List.take_left,show A++x::B=(A++[x])++B by simp,show A.length+1=(A++[x]).length by simp,List.take_left,List.filter_append,e4];simp[e3]
  ·simp[go_sem]
  ·rintro⟨k,j,E,M⟩ ⟨w1,w2,w3,w4,w5⟩
   simp only at w1 w2 w3 w4 w5 ⊢
   obtain⟨G,hG⟩:∃G,aD H i (.cells v (flA fT E))++M=G:=⟨_,rfl⟩
   rw[hG]
   have g0:hget G i=.cells v (flA fT E):=by rw[←hG];exact aK (b:=.cells v (flA fT E)) (dD hilt _) trivial M
   have g1:=aZ g0 trivial
   have g2:=eZ g0 trivial
   have gg:Gd G:=by rw[←hG];exact hGa _ _ (hGd _ _ hg)
   have gs:∀X,aD G i X=aD H i X++M:=fun X=>by rw[←hG,cG (by rw[aI];exact hilt),dR]
   have hE:(flA fT E).length=n * 4:=by rw[gB (s:=4) (fun _=>rfl),w3]
   by_cases hj:j<n
   ·have hli:decide ((j:Int)<(n:Int))=true:=decide_eq_true (by omega)
    have hjL:j<L.length:=by omega
    have hEj:E[j]'(by omega)=L[j]:=by
     have a:=List.drop_eq_getElem_cons (l:=E) (i:=j) (by omega)
     have b:=List.drop_eq_getElem_cons hjL
     rw[w5,b]at a
     exact(List.cons.inj a).1.symm
    have hgy:=wD (enc:=fT) (s:=4) (fun _=>rfl) (D:=E) (k:=j) (by omega)
    rw[hEj]at hgy
    simp only[fT,AV.cells]at hgy
    have hw1:IntKind.i64.wrap ((j:Int)+1)=((j+1:Nat):Int):=by rw[wrap_i64 (by omega) (by omega)];rfl
    have hw2:IntKind.i64.wrap ((k:Int)+1)=((k+1:Nat):Int):=by rw[wrap_i64 (by omega) (by omega)];rfl
    have hset1:=aDl (enc:=fT) (s:=4) (fun _=>rfl) (D:=E) (k:=k) (by omega) L[j]
    simp only[fT,AV.cells]at hset1
    have etk:L.take (j+1)=L.take j++[L[j]]:=List.take_succ_eq_append_getElem hjL
    repeat' first|(refine gS ?_;simp only[go_sem,g0,g1,hli,hE,hgy])|refine gA ?_|(refine gD (fun h=>?_) (fun h=>?_)<;>try exact aB h)|fail
    refine qI (hf' L[j] _ (hGa _ _ gg)) ?_
    cases hpj:p L[j]with
    |true=>
     simp only[go_sem]
     repeat' first|(refine gS ?_;simp only[go_sem])|refine gA ?_|(refine gD (fun h=>?_) (fun h=>?_)<;>try exact aB h)|fail
     refine⟨(k,j+1,E,M++[.cells 0 (fT L[j]).cells]),⟨by simp only;omega,by simp only;omega,w3,?_,?_⟩,by simp only;omega,⟨rfl,congrArg _ hw1⟩,?_⟩
     ·simp only;rw[etk,List.filter_append,←w4,List.filter_cons,if_neg (by simp[hpj])];simp
     ·simp only
      have a:=List.drop_eq_getElem_cons (l:=E) (i:=j) (by omega)
      have b:=List.drop_eq_getElem_cons hjL
      rw[w5,b]at a
      exact(List.cons.inj a).2.symm
     ·show G++[.cells 0 (fT L[j]).cells]=_
      rw[←hG,List.append_assoc]
    |false=>
     simp only[go_sem]
     repeat' first|(refine gS ?_;simp only[go_sem,g0,g1,g2,hE,hset1])|refine gA ?_|(refine gD (fun h=>?_) (fun h=>?_)<;>try exact aB h)|fail
     refine⟨(k+1,j+1,E.set k L[j],M++[.cells 0 (fT L[j]).cells]),⟨by simp only;omega,by simp only;omega,by simp only[List.length_set];exact w3,?_,?_⟩,by simp only;omega,⟨congrArg _ hw2,congrArg _ hw1⟩,?_⟩
     ·simp only
      rw[etk,List.filter_append,←w4,List.filter_cons,if_pos (by simp[hpj]),List.take_succ_eq_append_getElem (by simp;omega),List.getElem_set_self,List.take_set_of_le (Nat.le_refl _)]
      rfl
     ·simp only
      rw[List.drop_set_of_lt (by omega)]
      have a:=List.drop_eq_getElem_cons (l:=E) (i:=j) (by omega)
      have b:=List.drop_eq_getElem_cons hjL
      rw[w5,b]at a
      exact(List.cons.inj a).2.symm
     ·show aD G i (.cells v (flA fT (E.set k L[j])))++[.cells 0 (fT L[j]).cells]=_
      rw[gs,List.append_assoc]
   ·have hje:j=n:=by omega
    subst hje
    have hli:decide ((j:Int)<(j:Int))=false:=by simp
    repeat' first|(refine gS ?_;simp only[go_sem,g0,g1,g2,hli,hE])|refine gA ?_|(refine gD (fun h=>?_) (fun h=>?_)<;>try exact aB h)|fail
    rw[hn,List.take_length]at w4
    obtain⟨F,hF⟩:∃F,F=L.filter (fun x=> !p x):=⟨_,rfl⟩
    rw[←hF]at w4 ⊢
    have hk:k=F.length:=by rw[←w4,List.length_take];omega
    have hFl:=gB (enc:=fT) (s:=4) (fun _=>rfl) F
    have hsp:∀Z:List AV,∃rest,cT (flA fT E) (k * 4) Z=flA fT F++rest∧∀m,(∀x∈Z,Cl m x)→∀x∈rest,Cl m x:=fun Z=>by
     have e:=gL (A:=flA fT F) (B:=flA fT (E.drop k)) (off:=k * 4) (X:=Z) (by rw[hFl,hk])
     rw[←iW,←w4,List.take_append_drop]at e
     rw[w4]at e
     refine⟨Z++(flA fT (E.drop k)).drop Z.length,e,fun m hz x hx=>?_⟩
     rcases List.mem_append.1 hx with hx|hx
     ·exact hz x hx
     ·exact(mB (fun x=>by simp only[go_sem]) (E.drop k) x (List.mem_of_mem_drop hx)).cl m
    obtain⟨rest,hr,hz⟩:=hsp (List.flatMap AV.cells (List.replicate (j-k) (.agg [.int .i64 0,.int .i64 0,.sl true [],.bool false])))
    rw[hr,gs]
    have gM:∀c,hget (aD H i (.cells v c)++M) i=.cells v c:=fun c=>aK (b:=.cells v c) (dD hilt _) trivial M
    simp only[gM]
    refine⟨⟨trivial,by omega,by omega⟩,?_⟩
    repeat' first|(refine gS ?_;simp only[go_sem])|refine gA ?_|(refine gD (fun h=>?_) (fun h=>?_)<;>try exact aB h)|fail
    refine⟨_,M,_,rfl,by rw[aI],jW ?_,.cl _ (.osl _ _ _ _ _ _ hilt),rest,by rw[hk],rfl⟩
    intro x hx
    rcases List.mem_append.1 hx with hx|hx
    ·exact(mB (fun x=>by simp only[go_sem]) F x hx).cl _
    ·refine hz _ (fun x hx=>?_) x hx
     rw[List.mem_flatMap]at hx
     obtain⟨e,he,hx⟩:=hx
     rw[List.mem_replicate]at he
     obtain⟨-,rfl⟩:=he
     simp only[AV.cells,List.mem_cons,List.not_mem_nil,or_false]at hx
     rcases hx with rfl|rfl|rfl|rfl<;>first|exact .int _ _|exact .bool _|exact .str _|exact(Pur.sl _ _ (fun _ h=>by cases h)).cl _
end Go.Proofs.YthhdnjiodklmmaaGreatDoor
/- view.inside, seen, Child and Find: what they answer. No condition but the length of what comes in. -/
namespace Go.Proofs.YthhdnjiodklmmaaGreatDoor
open Go Go.Aw Go.Gw
set_option linter.unusedSimpArgs false
set_option maxRecDepth 20000
set_option maxHeartbeats 2000000
theorem aEm(b:Bool)(l:List Nd)(dir:Int)(y:Nat)(J:Nat→AHeap→Prop)(hA:∀i G L,J i G→J i (G++L))
  (hN:∀i (h:i<l.length) G,J i G→inD dir l[i]=false→J (i+1) G)
  (hY:∀i (h:i<l.length) G,J i G→inD dir l[i]=true→AYield Tryz.prog y [ndA l[i]] G (fun v G'=>v=.bool true∧J (i+1) G')) (hl:l.length≤1073741824) (H:AHeap) (h0:J 0 H):
  ACalls Tryz.prog 144 [.func (.yield y) [] [],.cptr [.sl b (l.map ndA)],.cptr [.int .i64 dir]] H (fun _ G=>J l.length G):=by
 refine dI Tryz.func144 rfl (Nat.le_of_ble_eq_true rfl) ?_
 repeat' first|(refine gS ?_;simp only[go_sem])|refine gA ?_|(refine gD (fun h=>?_) (fun h=>?_)<;>try exact aB h)|fail
 refine aR (ι:=Nat×AHeap) (fun p=>[(0,.func (.yield y) [] []),(2,.cptr [.int .i64 dir]),(6,.sl b (l.map ndA)),(7,.int .i64 l.length),(8,.int .i64 p.1)]) (fun p=>p.2) (fun p=>p.1≤l.length∧J p.1 p.2) (fun p=>l.length-p.1) (0,H) ⟨Nat.zero_le _,h0⟩ ?_ rfl ?_
 ·simp[go_sem]
 ·rintro⟨i,G⟩ ⟨hi,hJ⟩
  simp only at hi hJ ⊢
  by_cases hlt:i<l.length
  ·have hp:=bF ndA hlt
   have hli:decide ((i:Int)<(l.length:Int))=true:=decide_eq_true (by omega)
   have hw:=bI hlt (by omega)
   have hck:=fO l[i].moved.c l[i].moved.r
   by_cases h1:l[i].parent=dir
   ·have hd:decide (l[i].parent=dir)=true:=decide_eq_true h1
    cases h2:okI l[i].moved.c l[i].moved.r with
    |false=>
     rw[h2]at hck
     have ct0:=ct hck bY;repeat' first|((first|refine gK ?_|refine gS ?_);simp only[go_sem,hp,hli,hd,ndA])|refine gA ?_|(refine gD (fun h=>?_) (fun h=>?_)<;>try exact aB h)|fail
     exact⟨(i+1,_),⟨hlt,hN i hlt _ (hA _ _ _ hJ) (by simp[inD,h2])⟩,by simp only;omega,congrArg _ hw,rfl⟩
    |true=>
     rw[h2]at hck
     have hy:=hY i hlt _ (hA i G [.cells 0 (ndA l[i]).cells] hJ) (by simp[inD,h1,h2])
     have ct0:=ct hck bY;repeat' first|((first|refine gK ?_|refine gS ?_);simp only[go_sem,hp,hli,hd,ndA])|refine gA ?_|(refine gD (fun h=>?_) (fun h=>?_)<;>try exact aB h)|fail
     refine mW hy ?_
     rintro v G' ⟨rfl,hJ'⟩
     simp only[go_sem]
     repeat' first|(refine gS ?_;simp only[go_sem])|refine gA ?_|(refine gD (fun h=>?_) (fun h=>?_)<;>try exact aB h)|fail
     exact⟨(i+1,G'),⟨hlt,hJ'⟩,by simp only;omega,congrArg _ hw,rfl⟩
   ·have hd:decide (l[i].parent=dir)=false:=decide_eq_false h1
    repeat' first|(refine gS ?_;simp only[go_sem,hp,hli,hd,ndA])|refine gA ?_|(refine gD (fun h=>?_) (fun h=>?_)<;>try exact aB h)|fail
    exact⟨(i+1,_),⟨hlt,hN i hlt _ (hA _ _ _ hJ) (by simp[inD,h1])⟩,by simp only;omega,congrArg _ hw,rfl⟩
  ·have hie:i=l.length:=by omega
   subst hie
   repeat' first|(refine gS ?_;simp only[go_sem])|refine gA ?_|(refine gD (fun h=>?_) (fun h=>?_)<;>try exact aB h)|fail
   exact hJ
theorem bB9(k:Nat)(b:Bool)(l:List Nd):Cl k (.sl b (l.map ndA)):=(Pur.sl b _ (aGm l)).cl k
theorem wG(b:Bool)(l:List Nd)(dir:Int)(H:AHeap):cN Tryz.prog 83 [.sl b (l.map ndA),.int .i64 dir] H (.func (.func 144) [] [.cptr [.sl b (l.map ndA)],.cptr [.int .i64 dir]]):=by
 refine aQ Tryz.func83 rfl (Nat.le_of_ble_eq_true rfl) ?_
 repeat' first|(refine gS ?_;simp only[go_sem])|refine gA ?_|(refine gD (fun h=>?_) (fun h=>?_)<;>try exact aB h)|fail
 refine⟨_,_,rfl,?_,rfl⟩
 refine .func _ _ _ _ _ rfl rfl iV (iY (tS (Nat.le_refl _) (by simp only[go_sem]) ?_) (iY (tS (by omega) (by simp only[go_sem]) ?_) iV))
 ·simp only[List.mem_singleton,forall_eq];exact bB9 _ _ _
 ·simp only[List.mem_singleton,forall_eq];exact .int _ _
theorem aRd(b:Bool)(l:List Nd)(dir:Int)(hl:l.length≤1073741824)(H:AHeap):
  ACalls Tryz.prog 42 [.sl b (l.map ndA),.int .i64 dir] H (fun v H'=>v=.map H.length∧H'=H++[.map (mG 0 (dS l dir)) (dS l dir).length]):=by
 refine gR Tryz.func42 rfl (Nat.le_of_ble_eq_true rfl) ?_
 repeat' first|((first|refine cK (ct (wG _ _ _) rU) ?_|refine cP (ct (wG _ _ _) rU) ?_|refine cM (ct (wG _ _ _) rU) ?_|refine gS ?_);simp only[go_sem])|refine gA ?_|(refine gD (fun h=>?_) (fun h=>?_)<;>try exact aB h)|fail
 refine aF4 [(5,.ref (H.length+1) 0 0),(12,.func (.func 144) [] [.cptr [.sl b (l.map ndA)],.cptr [.int .i64 dir]])] (by simp[go_sem]) ?_
 refine qH rfl aBY fun y LB hLB=>?_
 have hlen2:(H++[ABlk.map [] 0,.cells 0 [.map H.length]]).length=H.length+2:=by simp
 rw[hlen2,List.append_assoc]
 let M:Nat→List (Txt×Nd):=fun i=>(l.take i).foldl (rX dir) []
 let J:Nat→AHeap→Prop:=fun i G=>∃L,G=(H++[.map (mG 0 (M i)) (M i).length,.cells 0 [.map H.length],LB])++L
 have hM:∀i (h:i<l.length),M (i+1)=rX dir (M i) l[i]:=fun i h=>by
  simp only[M];rw[List.take_succ_eq_append_getElem h,List.foldl_append];rfl
 refine(aEm b l dir y J (fun i G L ⟨L',e⟩=>⟨L'++L,by rw[e,List.append_assoc]⟩) (fun i h G ⟨L,e⟩ hd=>⟨L,by rw[e,hM i h,rX,if_neg (by rw[hd];simp)]⟩) (fun i h G ⟨L,e⟩ hd=>?_) hl _ ⟨[],by simp[M,mG]⟩).mono fun _ G ⟨L,e⟩=>?_
 ·have hmi:=hM i h
  rw[rX,if_pos hd]at hmi
  have e1:hget G H.length=.map (mG 0 (M i)) (M i).length:=by rw[e];exact aK (b:=.map _ _) (by simp only[go_sem]) trivial L
  have e2:hget G (H.length+1)=.cells 0 [.map H.length]:=by rw[e];exact aK (b:=.cells _ _) (by simp only[go_sem]) trivial L
  have e3:hget G (H.length+2)=LB:=by rw[e];exact aK (by simp only[go_sem]) (by rw[hLB];trivial) L
  have hlv:LB.live:=by rw[hLB];trivial
  refine yB e3 hLB rfl rfl rfl rfl fun BB fin hBB hlB hf1 hf2=>?_
  have f3:=aZ e3 hlv
  have g3:=eZ e3 hlv
  simp only[vK]
  refine lB rfl ?_
  simp only[go_sem,f3,g3,ndA]
  obtain⟨G1,hG1⟩:∃G1,aD G (H.length+2) BB=G1:=⟨_,rfl⟩
  rw[hG1]
  have hl3:=bP e3 hlv
  have hlen:G.length=G1.length:=by rw[←hG1];simp[aD]
  have a1:hget G1 H.length=.map (mG 0 (M i)) (M i).length:=by rw[←hG1];exact bH e1 (by omega) BB
  have a2:hget G1 (H.length+1)=.cells 0 [.map H.length]:=by rw[←hG1];exact bH e2 (by omega) BB
  have a3:hget G1 (H.length+2)=BB:=by rw[←hG1];exact dD hl3 BB
  have k1:=aZ a1 trivial
  have k2:=aZ a2 trivial
  have k3:=aZ a3 hlB
  have s1:=eZ a1 trivial
  rw[hlen]
  have hks:keysIn .string (mG 0 (M i))=True:=eq_true (aAR 0 _)
  clear hLB hBB hf2
  have hno:∀Y,M (i+1)=M i→lS (H.length+2) BB fin G1 (fun v G'=>v=.bool true∧J (i+1) G') true none (G1++Y):=fun Y hY=>
   ⟨k3 _,G1,Y,rfl,rfl,fun _ _ h=>.inl h,rfl,L,by rw[hf1,←hG1,dR,hP e3 hlv,hY];exact e⟩
  have hyes:∀Y,M (i+1)=jA l[i].name l[i] (M i)→lS (H.length+2) BB fin G1 (fun v G'=>v=.bool true∧J (i+1) G') true none
    (aD G1 H.length (.map (rC (.str l[i].name) (ndA l[i]) (mG 0 (M i)) (M i).length) (kY (.str l[i].name) (mG 0 (M i)) (M i).length))++Y):=fun Y hY=>by
   rw[aGd,←hY]
   refine⟨aZ (bH a3 (by omega) _) hlB _,_,Y,rfl,by rw[aI],jW (aGe _ _ _),rfl,L,?_⟩
   rw[hf1,←hG1,jN _ _ _ (by omega),dR,hP e3 hlv,e]
   simp[aD,List.set_append]
  rcases aGc 0 (M i) l[i].name with⟨q1,q2⟩|⟨o,j,q1,q2⟩
  ·repeat' first|(refine gS ?_;simp only[go_sem,k1,k2,k3,s1,hks,q2,ndA])|refine gA ?_|(refine gD (fun h=>?_) (fun h=>?_)<;>try exact aB h)|fail
   exact hyes _ (by rw[hmi,zM,q1])
  ·have hless:=pJ l[i].moved.c l[i].moved.r o.moved.c o.moved.r
   cases hlt:vM l[i].moved.c l[i].moved.r o.moved.c o.moved.r with
   |true=>
    rw[hlt]at hless
    have ct0:=ct hless gT;repeat' first|((first|refine gK ?_|refine gS ?_);simp only[go_sem,k1,k2,k3,s1,hks,q2,ndA])|refine gA ?_|(refine gD (fun h=>?_) (fun h=>?_)<;>try exact aB h)|fail
    exact hno _ (by rw[hmi,zM,q1];exact if_pos hlt)
   |false=>
    rw[hlt]at hless
    have ct0:=ct hless gT;repeat' first|((first|refine gK ?_|refine gS ?_);simp only[go_sem,k1,k2,k3,s1,hks,q2,ndA])|refine gA ?_|(refine gD (fun h=>?_) (fun h=>?_)<;>try exact aB h)|fail
    exact hyes _ (by rw[hmi,zM,q1];exact if_neg (by rw[hlt];simp))
 ·have hml:M l.length=dS l dir:=by simp only[M];rw[List.take_length];rfl
  rw[hml]at e
  have e1:hget G H.length=.map (mG 0 (dS l dir)) (dS l dir).length:=by rw[e];exact aK (b:=.map _ _) (by simp only[go_sem]) trivial L
  have e2:hget G (H.length+1)=.cells 0 [.map H.length]:=by rw[e];exact aK (b:=.cells _ _) (by simp only[go_sem]) trivial L
  have e3:hget G (H.length+2)=LB:=by rw[e];exact aK (by simp only[go_sem]) (by rw[hLB];trivial) L
  refine .inl ⟨.ready,by simp,e3.trans hLB,fun X=>?_⟩
  have e4:=bH e2 (i:=H.length+2) (by omega) X
  have e5:aD G (H.length+2) X=(H++[.map (mG 0 (dS l dir)) (dS l dir).length])++(.cells 0 [.map H.length]::X::L):=by rw[e];simp[aD,List.set_append]
  obtain⟨G2,hG2⟩:∃G2,aD G (H.length+2) X=G2:=⟨_,rfl⟩
  rw[hG2]at e4 e5 ⊢
  simp only[go_sem]
  repeat' first|(refine gS ?_;simp only[go_sem,e4])|refine gA ?_|(refine gD (fun h=>?_) (fun h=>?_)<;>try exact aB h)|fail
  refine⟨_,_,_,e5,by simp,fun j b' hj=>?_,.cl _ (.map _ (by simp)),rfl,rfl⟩
  by_cases hlt:j<H.length
  ·rw[List.getElem?_append_left hlt]at hj;exact .inl hj
  ·rw[List.getElem?_append_right (by omega)]at hj
   refine .inr ?_
   cases hk:j-H.length with
   |zero=>rw[hk]at hj;cases hj;exact aGe _ _ _
   |succ k=>rw[hk]at hj;simp at hj
def zX(o:Option Nd):AV:=.tup [.int .i64 ((o.map (·.id)).getD 0),.bool o.isSome]
theorem aDm(b:Bool)(l:List Nd)(dir:Int)(s:Txt)(hl:l.length≤1073741824)(H:AHeap):cN Tryz.prog 21 [.sl b (l.map ndA),.int .i64 dir,.str s] H (zX (childN l dir s)):=by
 refine aQ Tryz.func21 rfl (Nat.le_of_ble_eq_true rfl) ?_
 cases hs:chk l with
 |false=>
  have he:childN l dir s=none:=by simp[childN,hs]
  rw[he]
  repeat' first|((first|refine cK (ct (bM _ _) aN) ?_|refine cP (ct (bM _ _) aN) ?_|refine cM (ct (bM _ _) aN) ?_|refine gS ?_);simp only[go_sem,hs])|refine gA ?_|(refine gD (fun h=>?_) (fun h=>?_)<;>try exact aB h)|fail
  exact aT (by simp only[go_sem]) (.refl _)
 |true=>
  have he:childN l dir s=fS s (dS l dir):=by simp[childN,hs]
  rw[he]
  repeat' first|((first|refine cK (ct (bM _ _) aN) ?_|refine cP (ct (bM _ _) aN) ?_|refine cM (ct (bM _ _) aN) ?_|refine gS ?_);simp only[go_sem,hs])|refine gA ?_|(refine gD (fun h=>?_) (fun h=>?_)<;>try exact aB h)|fail
  refine bJ (aRd b l dir hl H) aD2 ?_
  rintro v H' ⟨rfl,rfl⟩
  have hks:keysIn .string (mG 0 (dS l dir))=True:=eq_true (aAR 0 _)
  rcases aGc 0 (dS l dir) s with⟨q1,q2⟩|⟨o,j,q1,q2⟩
  ·rw[q1]
   simp only[go_sem,hks,q2]
   repeat' first|(refine gS ?_;simp only[go_sem,hks,q2,ndA])|refine gA ?_|(refine gD (fun h=>?_) (fun h=>?_)<;>try exact aB h)|fail
   exact done (by simp only[go_sem]) (.refl _)
  ·rw[q1]
   simp only[go_sem,hks,q2,ndA]
   repeat' first|(refine gS ?_;simp only[go_sem,hks,q2,ndA])|refine gA ?_|(refine gD (fun h=>?_) (fun h=>?_)<;>try exact aB h)|fail
   exact done (by simp only[go_sem]) (.refl _)
def aA9(r:Int×Int):AV:=.tup [.int .i64 r.1,.int .i64 r.2]
theorem aCC(l:List Nd)(at_:Int)(s:Txt)(names:List Txt):aAQ l at_ (s::names)=if dirI at_=true then(match childN l at_ s with|some n=>aAQ l n.id names|none=>(0,80))else(0,81):=rfl
theorem aDn(b b':Bool)(l:List Nd)(names:List Txt)(hl:l.length≤1073741824)(H:AHeap):cN Tryz.prog 173 [.sl b (l.map ndA),.sl b' (names.map AV.str)] H (aA9 (sZ l names)):=by
 refine iT fun _ hok=>?_
 have hn:=mS hok
 rw[List.length_map]at hn
 refine aQ Tryz.func173 rfl (Nat.le_of_ble_eq_true rfl) ?_
 repeat' first|(refine gS ?_;simp only[go_sem])|refine gA ?_|(refine gD (fun h=>?_) (fun h=>?_)<;>try exact aB h)|fail
 refine aR (ι:=Nat×Int) (fun p=>[(0,.sl b (l.map ndA)),(11,.sl b' (names.map AV.str)),(12,.int .i64 names.length),(13,.int .i64 p.1),(6,.int .i64 p.2)]) (fun _=>H) (fun p=>p.1≤names.length∧sZ l names=aAQ l p.2 (names.drop p.1)) (fun p=>names.length-p.1) (0,0) ⟨Nat.zero_le _,rfl⟩ ?_ rfl ?_
 ·simp[go_sem]
 ·rintro⟨i,at_⟩ ⟨hi,he⟩
  simp only at hi he ⊢
  by_cases hlt:i<names.length
  ·have hp:=bF AV.str hlt
   have hli:decide ((i:Int)<(names.length:Int))=true:=decide_eq_true (by omega)
   have hw:=bI hlt hn
   have hd:=yC at_
   have hch:=aDm b l at_ names[i] hl
   rw[List.drop_eq_getElem_cons hlt,aCC]at he
   cases h1:dirI at_ with
   |false=>
    rw[h1]at hd he
    have ct0:=ct hd eG;repeat' first|((first|refine gK ?_|refine gS ?_);simp only[go_sem,hp,hli])|refine gA ?_|(refine gD (fun h=>?_) (fun h=>?_)<;>try exact aB h)|fail
    exact aT (by simp only[go_sem]) (.of (by rw[he];rfl))
   |true=>
    rw[h1,if_pos rfl]at he
    rw[h1]at hd
    cases h2:childN l at_ names[i]with
    |none=>
     rw[h2]at hch he
     simp only[zX,Option.map_none,Option.getD_none,Option.isSome_none]at hch
     have ct0:=ct hd eG;have ct1:=ct hch rQ;repeat' first|((first|refine gK ?_|refine gS ?_);simp only[go_sem,hp,hli])|refine gA ?_|(refine gD (fun h=>?_) (fun h=>?_)<;>try exact aB h)|fail
     exact aT (by simp only[go_sem]) (.of (by rw[he];rfl))
    |some n=>
     rw[h2]at hch he
     simp only[zX,Option.map_some,Option.getD_some,Option.isSome_some]at hch
     have ct0:=ct hd eG;have ct1:=ct hch rQ;repeat' first|((first|refine gK ?_|refine gS ?_);simp only[go_sem,hp,hli])|refine gA ?_|(refine gD (fun h=>?_) (fun h=>?_)<;>try exact aB h)|fail
     exact⟨(i+1,n.id),⟨hlt,he⟩,by simp only;omega,congrArg _ hw,rfl⟩
  ·have hie:i=names.length:=by omega
   subst hie
   have hli:decide ((names.length:Int)<(names.length:Int))=false:=by simp
   repeat' first|(refine gS ?_;simp only[go_sem,hli])|refine gA ?_|(refine gD (fun h=>?_) (fun h=>?_)<;>try exact aB h)|fail
   exact aT (by simp only[go_sem]) (.of (by rw[he,List.drop_length];rfl))
end Go.Proofs.YthhdnjiodklmmaaGreatDoor
/- The desk where one call is done, ars two blocks of the heap; what is at a path; the stamp of an operation that is made; an operation is added. No condition but what is known of a replica. -/
namespace Go.Aw
open Go
theorem aO{P:Program}{g:Bool}{f:FuncId}{args:List AV}{H:AHeap}{x:AV}(h:cN P f args H x)(ok:aA P f=true):gF P g (.func (.func f) [] []) args x H:=
 fun _=>Or.inl ⟨ok,by simp only[List.nil_append,List.append_nil];exact h⟩
theorem yN{G:AHeap}{i j n:Nat}(h1:i<G.length)(h2:j<G.length)(hne:i<j)(hn:G.length=n):
  (∀L X,aD (G++L) i X=aD G i X++L)∧(∀L X,aD (G++L) j X=aD G j X++L)∧(∀v X,hget (aD G i (.cells v X)) i=.cells v X)∧(∀v X L,hget (aD G i (.cells v X)++L) i=.cells v X)∧(∀X Y,aD (aD G i X) i Y=aD G i Y)∧
  (∀X Y L,aD (aD G i X++L) i Y=aD G i Y++L)∧(∀X Y,aD (aD G i X) j Y=aD (aD G j Y) i X)∧(∀X Y L,aD (aD G i X++L) j Y=aD (aD G j Y) i X++L)∧(∀v X Y L,hget (aD (aD G j Y) i (.cells v X)++L) i=.cells v X)∧
  (∀X v Y L,hget (aD (aD G j (.cells v Y)) i X++L) j=.cells v Y)∧(∀X Y Z L,aD (aD (aD G j Y) i X++L) i Z=aD (aD G j Y) i Z++L)∧(∀X Y Z L,aD (aD (aD G j Y) i X++L) j Z=aD (aD G j Z) i X++L)∧
  (∀X L,hget (aD G i X++L) n=L.getD 0 .gone)∧(∀X L k,hget (aD G i X++L) (n+k)=L.getD k .gone)∧(∀X Y L,hget (aD (aD G j Y) i X++L) n=L.getD 0 .gone)∧(∀X Y L k,hget (aD (aD G j Y) i X++L) (n+k)=L.getD k .gone)∧
  (∀X Y L,aD (aD G i X++L) n Y=aD G i X++L.set 0 Y)∧(∀X Y L k,aD (aD G i X++L) (n+k) Y=aD G i X++L.set k Y)∧(∀v Y L,hget (aD G j (.cells v Y)++L) j=.cells v Y)∧(∀X Y L,aD (aD G j Y++L) i X=aD (aD G j Y) i X++L)∧
  (∀L,hget (G++L) n=L.getD 0 .gone)∧(∀L k,hget (G++L) (n+k)=L.getD k .gone)∧(∀Y L,aD (G++L) n Y=G++L.set 0 Y)∧(∀Y L k,aD (G++L) (n+k) Y=G++L.set k Y):=by
 subst hn
 have n1:∀X,(aD G i X).length=G.length:=fun X=>aI _ _ _
 have n2:∀X Y,(aD (aD G j Y) i X).length=G.length:=fun X Y=>by rw[aI,aI]
 have n3:∀Y,(aD G j Y).length=G.length:=fun X=>aI _ _ _
 have ne:j≠i:=by omega
 refine⟨fun L X=>cG h1 L X,fun L X=>cG h2 L X,fun v X=>dD h1 _,fun v X L=>aK (b:=.cells v X) (dD h1 _) trivial L,fun X Y=>dR _ _ _ _,fun X Y L=>?_,fun X Y=>?_,fun X Y L=>?_,fun v X Y L=>?_,fun X v Y L=>?_,fun X Y Z L=>?_,fun X Y Z L=>?_,
  fun X L=>qP (n1 X),fun X L k=>?_,fun X Y L=>qP (n2 X Y),fun X Y L k=>?_,fun X Y L=>aGp (n1 X) Y,fun X Y L k=>zQ (n1 X) Y,fun v Y L=>aK (b:=.cells v Y) (dD h2 _) trivial L,fun X Y L=>cG (by rw[n3];exact h1) L X,
  fun L=>iF _ _,fun L k=>mQ _ _ _,fun Y L=>xO _ _ _,fun Y L k=>uU _ _ _ _⟩
 ·rw[cG (by rw[n1];exact h1),dR]
 ·rw[jN _ _ _ (by omega)]
 ·rw[cG (by rw[n1];exact h2),jN _ _ _ (by omega)]
 ·exact aK (b:=.cells v X) (dD (by rw[n3];exact h1) _) trivial L
 ·exact aK (b:=.cells v Y) (bH (dD h2 _) (by omega) _) trivial L
 ·rw[cG (by rw[n2];exact h1),dR]
 ·rw[cG (by rw[n2];exact h2),jN (aD G j Y) _ _ (by omega),dR]
 ·rw[←n1 X];exact mQ _ _ _
 ·rw[←n2 X Y];exact mQ _ _ _
end Go.Aw
namespace Go.Gw
open Go Go.Aw Go.Proofs.YthhdnjiodklmmaaGreatDoor
theorem bEx(k:Nat)(l:List Opn):∀x∈flA opA l,Cl k x:=fun x hx=>(mB (fun x=>by simp only[go_sem]) l x hx).cl k
def dkC(j:Nat)(c:Cal)(d:Dsk):List AV:=
 [.sl false (d.m.log.entries.map fR),.sl false (d.m.log.nodes.map ndA),.int .i64 d.m.seen,.int .i64 d.m.rep,.sl false (d.m.snaps.map gX),.sl false (d.m.watches.map fT),.int .i64 d.m.next,
  .int .i64 d.a.err,.str d.a.data,.sl false (d.a.names.map AV.str),.int .i64 d.a.n,.sl false (d.a.events.map kE),
  .int .i64 c.kind,.str c.path,.str c.to,.str c.data,.int .i64 c.n,.osl 7 j (d.ops.length+1) 0 d.ops.length d.ops.length]
structure KB (i j:Nat) (c:Cal) (d:Dsk) (G:AHeap):Prop where
 ne:i<j
 b1:hget G i=.cells 0 (dkC j c d)
 b2:hget G j=.cells (d.ops.length+1) (flA opA d.ops)
def pS(G:AHeap)(i j:Nat)(c:Cal)(d:Dsk):AHeap:=aD (aD G j (.cells (d.ops.length+1) (flA opA d.ops))) i (.cells 0 (dkC j c d))
theorem zY(G:AHeap)(i j:Nat)(c:Cal)(d:Dsk):(pS G i j c d).length=G.length:=by unfold pS;rw[aI,aI]
section
variable {i j:Nat} {c:Cal} {d:Dsk} {G:AHeap} (h:KB i j c d G)
include h
theorem KB.lt1:i<G.length:=bP h.b1 trivial
theorem KB.lt2:j<G.length:=bP h.b2 trivial
theorem KB.own:pS G i j c d=G:=by unfold pS;rw[hP h.b2 trivial,hP h.b1 trivial]
theorem KB.app(L:AHeap):KB i j c d (G++L):=⟨h.ne,aK h.b1 trivial L,aK h.b2 trivial L⟩
theorem KB.happ(d':Dsk)(L:AHeap):pS (G++L) i j c d'=pS G i j c d'++L:=by
 unfold pS
 rw[cG h.lt2,cG (by rw[aI];exact h.lt1)]
theorem KB.put(d':Dsk):KB i j c d' (pS G i j c d'):=by
 have hne:¬j=i:=by have:=h.ne;omega
 refine⟨h.ne,dD (by rw[aI];exact h.lt1) _,?_⟩
 unfold pS
 rw[jN _ _ _ hne]
 exact dD (by rw[aI];exact h.lt2) _
theorem KB.twice(d1 d2:Dsk):pS (pS G i j c d1) i j c d2=pS G i j c d2:=by
 have hne:¬j=i:=by have:=h.ne;omega
 unfold pS
 rw[jN (aD G j _) _ _ (fun e=>hne e.symm),dR,dR]
theorem KB.r3:∀X L,hget (aD G i X++L) j=.cells (d.ops.length+1) (flA opA d.ops):=fun X L=>aK (bH h.b2 (by have:=h.ne;omega) X) trivial L
theorem KB.r4:∀X,hget (aD G i X) j=.cells (d.ops.length+1) (flA opA d.ops):=fun X=>bH h.b2 (by have:=h.ne;omega) X
theorem KB.one{d':Dsk}(ho:d'.ops=d.ops):aD G i (.cells 0 (dkC j c d'))=pS G i j c d':=by
 unfold pS
 rw[ho,hP h.b2 trivial]
end
theorem zZ(k:Nat)(b:Bool)(l:List Nd):Cl k (.sl b (l.map ndA)):=(Pur.sl b _ fun x hx=>by obtain⟨y, -,rfl⟩:=List.mem_map.1 hx;simp only[go_sem]).cl k
theorem aAa(k:Nat)(b:Bool)(l:List Ent):Cl k (.sl b (l.map fR)):=(Pur.sl b _ fun x hx=>by obtain⟨y, -,rfl⟩:=List.mem_map.1 hx;simp only[go_sem]).cl k
theorem aAb(k:Nat)(b:Bool)(l:List Snp):Cl k (.sl b (l.map gX)):=(Pur.sl b _ fun x hx=>by obtain⟨y, -,rfl⟩:=List.mem_map.1 hx;simp only[go_sem]).cl k
theorem aAc(k:Nat)(b:Bool)(l:List Wch):Cl k (.sl b (l.map fT)):=(Pur.sl b _ fun x hx=>by obtain⟨y, -,rfl⟩:=List.mem_map.1 hx;simp only[go_sem]).cl k
theorem aAd(k:Nat)(b:Bool)(l:List Txt):Cl k (.sl b (l.map AV.str)):=(Pur.sl b _ fun x hx=>by obtain⟨y, -,rfl⟩:=List.mem_map.1 hx;exact .str _).cl k
theorem aAe(k:Nat)(b:Bool)(l:List Evt):Cl k (.sl b (l.map kE)):=(Pur.sl b _ fun x hx=>by obtain⟨y, -,rfl⟩:=List.mem_map.1 hx;simp only[kE,go_sem]).cl k
theorem bCa{n j:Nat}(hj:j<n)(c:Cal)(d:Dsk):ClB n (.cells 0 (dkC j c d)):=fun x hx=>by
 simp only[dkC,List.mem_cons,List.not_mem_nil,or_false]at hx
 rcases hx with rfl|rfl|rfl|rfl|rfl|rfl|rfl|rfl|rfl|rfl|rfl|rfl|rfl|rfl|rfl|rfl|rfl|rfl
 all_goals first|exact .int _ _|exact .str _|exact aAa _ _ _|exact zZ _ _ _|exact aAb _ _ _|exact aAc _ _ _|exact aAd _ _ _|exact aAe _ _ _|exact .osl _ _ _ _ _ _ hj
theorem sC{i j:Nat}{c:Cal}{d d':Dsk}{G A L:AHeap}(h:KB i j c d G){e:Int}{v:AV}(hv:v=.int .i64 e)(hA:A=pS G i j c d'):
  ∃H1 L' y,A++L=H1++L'∧H1.length=G.length∧(∀(k:Nat) (b:ABlk),H1[k]?=some b→G[k]?=some b∨ClB G.length b)∧Frz G.length (A++L) v y∧(y=.int .i64 e∧H1=pS G i j c d'):=by
 subst hv
 subst hA
 refine⟨_,L,_,rfl,zY _ _ _ _ _,fun k b hk=>?_,.cl _ (.int _ _),rfl,rfl⟩
 unfold pS at hk
 rcases jW (bCa h.lt2 c d') k b hk with hk|hk
 ·exact jW (aCA (enc:=opA) (fun x=>by simp only[go_sem]) G.length (d'.ops.length+1) d'.ops) k b hk
 ·exact .inr hk
theorem aJ4{i j:Nat}{c:Cal}{d d':Dsk}{G A:AHeap}(h:KB i j c d G){e:Int}{v:AV}(hv:v=.int .i64 e)(hA:A=pS G i j c d'):
  ∃H1 L' y,A=H1++L'∧H1.length=G.length∧(∀(k:Nat) (b:ABlk),H1[k]?=some b→G[k]?=some b∨ClB G.length b)∧Frz G.length A v y∧(y=.int .i64 e∧H1=pS G i j c d'):=by
 have:=sC (L:=[]) h hv hA
 rwa[List.append_nil]at this
def aJ5(P:Program)(f:FuncId)(i j:Nat)(c:Cal)(r:Int×Dsk)(G:AHeap):Prop:=ACalls P f [.ref i 0 0] G (fun v H'=>v=.int .i64 r.1∧H'=pS G i j c r.2)
def aRe(o:Option (List Nd)):AV:=match o with
 |none=>.tup [.sl true [],.int .i64 191]
 |some l=>.tup [.sl false (l.map ndA),.int .i64 0]
def aJ6(r:Int×Txt×Int):AV:=.tup [.int .i64 r.1,.str r.2.1,.int .i64 r.2.2]
structure DS (m:Mdl):Prop where
 nodes:m.log.nodes.length≤1000000
 ents:m.log.entries.length≤1000000
 ops:∀e∈m.log.entries,OpS e.op
 snaps:m.snaps.length≤1000000
 watches:m.watches.length≤1000000
 snap:∀s∈m.snaps,s.nodes.length≤1000000
 evs:∀w∈m.watches,w.evs.length≤1000000
end Go.Gw
namespace Go.Proofs.YthhdnjiodklmmaaGreatDoor
open Go Go.Aw Go.Gw
set_option linter.unusedSimpArgs false
set_option linter.unusedVariables false
set_option maxRecDepth 20000
set_option maxHeartbeats 4000000
def mD:List Pl:=[.free,.pure 0,.pure 0,.pure 0,.pure 0,.free,.pure 0,.pure 0,.pure 0,.pure 0,.pure 0,.free,.free,.free,.eff [true,true,true,true,true,true,true,true,true],.eff [false,false,false,false,false,false,false,false,false],.free]
def pP:List Pl:=[.free,.pure 0,.pure 0,.pure 0,.pure 0,.pure 0,.pure 0,.free,.free,.free,.eff [true,true,true,true,true,true],.eff [false,false,false,false,false,false],.free]
def pQ:List Pl:=[.free,.free,.pure 0,.pure 0,.pure 0,.pure 0,.free,.eff [true,false,true,true],.pure 0,.pure 0,.eff [false,true,false,false,false]]
attribute [go_sem] mD pP pQ
theorem bEy(b:Bool)(l:List Nd)(p:Txt)(hl:l.length≤1073741824)(hp:p.length≤1048576)(H:AHeap):cN Tryz.prog 123 [.sl b (l.map ndA),.str p] H (aA9 (atN l p)):=by
 refine aQ Tryz.func123 rfl (Nat.le_of_ble_eq_true rfl) ?_
 have hs:=aCv p hp
 unfold atN
 cases hn:fZ p with
 |none=>
  simp only[tB,hn]at hs
  have ct0:=ct hs eN;repeat' first|((first|refine gK ?_|refine gS ?_);simp only[go_sem])|refine gA ?_|(refine gD (fun h=>?_) (fun h=>?_)<;>try exact aB h)|fail
  exact aT (by simp only[go_sem]) (.refl _)
 |some ns=>
  simp only[tB,hn]at hs
  have hf:=aDn b (decide (p=[47])) l ns hl
  simp only[aA9]at hf
  have ct0:=ct hs eN;have ct1:=ct hf dY;repeat' first|((first|refine gK ?_|refine gS ?_);simp only[go_sem])|refine gA ?_|(refine gD (fun h=>?_) (fun h=>?_)<;>try exact aB h)|fail
  exact aT (by simp only[go_sem]) (.refl _)
theorem bEP(b:Bool)(l:List Nd)(p:Txt)(hl:l.length≤1073741824)(hp:p.length≤1048576)(H:AHeap):cN Tryz.prog 119 [.sl b (l.map ndA),.str p] H (aJ6 (abvN l p)):=by
 refine aQ Tryz.func119 rfl (Nat.le_of_ble_eq_true rfl) ?_
 have hs:=aCv p hp
 unfold abvN
 cases hn:fZ p with
 |none=>
  simp only[tB,hn]at hs
  have ct0:=ct hs eN;repeat' first|((first|refine gK ?_|refine gS ?_);simp only[go_sem])|refine gA ?_|(refine gD (fun h=>?_) (fun h=>?_)<;>try exact aB h)|fail
  exact aT (by simp only[go_sem]) (.refl _)
 |some ns=>
  simp only[tB,hn]at hs
  cases ns with
  |nil=>
   have ct0:=ct hs eN;repeat' first|((first|refine gK ?_|refine gS ?_);simp only[go_sem])|refine gA ?_|(refine gD (fun h=>?_) (fun h=>?_)<;>try exact aB h)|fail
   exact aT (by simp only[go_sem]) (.refl _)
  |cons x xs=>
   have hlen:=aA2 hn
   rw[List.length_cons]at hlen
   have hw:IntKind.i64.wrap (((xs.length+1:Nat):Int)-1)=(xs.length:Int):=by rw[wrap_i64 (by omega) (by omega)];omega
   have hb:((0:Int)≤(xs.length:Int)∧(xs.length:Int)≤((xs.length+1:Nat):Int))=True:=eq_true (by omega)
   have hd:decide (((xs.length+1:Nat):Int)=0)=false:=decide_eq_false (by omega)
   have hgd:(AV.str x::xs.map AV.str).getD xs.length .top=.str ((x::xs).getLast (by simp)):=by
    rw[←List.map_cons (f:=AV.str),bF AV.str (by simp),List.getLast_eq_getElem];simp
   have hlt:xs.length<xs.length+1:=Nat.lt_succ_self _
   have ht:List.take xs.length (AV.str x::xs.map AV.str)=((x::xs).dropLast).map AV.str:=by
    rw[←List.map_cons (f:=AV.str),←List.map_take,List.dropLast_eq_take];rfl
   obtain⟨⟨dir,e⟩,hr⟩:∃r,sZ l (x::xs).dropLast=r:=⟨_,rfl⟩
   have hf:=fun f=>aDn b f l (x::xs).dropLast hl
   simp only[aA9,hr]at hf
   have hdd:=yC dir
   by_cases he:e=0
   ·subst he
    simp only[if_true]
    cases hdi:dirI dir with
    |true=>
     rw[hdi]at hdd
     have ct0:=ct hs eN;have ct1:=ct hdd eG;repeat' first|((first|refine gK ?_|refine cK (ct (hf _) dY) ?_|refine cP (ct (hf _) dY) ?_|refine cM (ct (hf _) dY) ?_|refine gS ?_);simp only[go_sem,hw,hb,hd,hgd,hlt,ht])|refine gA ?_|(refine gD (fun h=>?_) (fun h=>?_)<;>try exact aB h)|fail
     exact aT (by simp only[go_sem]) (.of (by simp[aJ6,hr,hdi]))
    |false=>
     rw[hdi]at hdd
     have ct0:=ct hs eN;have ct1:=ct hdd eG;repeat' first|((first|refine gK ?_|refine cK (ct (hf _) dY) ?_|refine cP (ct (hf _) dY) ?_|refine cM (ct (hf _) dY) ?_|refine gS ?_);simp only[go_sem,hw,hb,hd,hgd,hlt,ht])|refine gA ?_|(refine gD (fun h=>?_) (fun h=>?_)<;>try exact aB h)|fail
     exact aT (by simp only[go_sem]) (.of (by simp[aJ6,hr,hdi]))
   ·have he':decide (e=0)=false:=decide_eq_false he
    simp only[if_neg he]
    have ct0:=ct hs eN;repeat' first|((first|refine gK ?_|refine cK (ct (hf _) dY) ?_|refine cP (ct (hf _) dY) ?_|refine cM (ct (hf _) dY) ?_|refine gS ?_);simp only[go_sem,hw,hb,hd,hgd,hlt,ht,he'])|refine gA ?_|(refine gD (fun h=>?_) (fun h=>?_)<;>try exact aB h)|fail
    exact aT (by simp only[go_sem]) (.of (by simp[aJ6,hr,he]))
theorem bDu(m:Mdl)(n:Int)(i:Nat)(cs:List AV)(hm:m.snaps.length≤1000000)(H:AHeap)(hh:hget H i=.cells 0 (.sl false (m.log.entries.map fR)::.sl false (m.log.nodes.map ndA)::.int .i64 m.seen::.int .i64 m.rep::.sl false (m.snaps.map gX)::cs)):
  cN Tryz.prog 124 [.ref i 0 0,.int .i64 n] H (aRe (gN m n)):=by
 refine aQ Tryz.func124 rfl (Nat.le_of_ble_eq_true rfl) ?_
 unfold gN
 by_cases h0:n=0
 ·have hd:decide (n=0)=true:=decide_eq_true h0
  rw[if_pos h0]
  repeat' first|(refine gS ?_;simp only[go_sem,hh,hd])|refine gA ?_|(refine gD (fun h=>?_) (fun h=>?_)<;>try exact aB h)|fail
  exact aT (by simp only[go_sem]) (.refl _)
 have hd:decide (n=0)=false:=decide_eq_false h0
 rw[if_neg h0]
 have h1:=aZ hh trivial
 repeat' first|(refine gS ?_;simp only[go_sem,hh,hd])|refine gA ?_|(refine gD (fun h=>?_) (fun h=>?_)<;>try exact aB h)|fail
 refine aR (ι:=Nat×AHeap) (fun s=>[(1,.int .i64 n),(20,.sl false (m.snaps.map gX)),(21,.int .i64 m.snaps.length),(22,.int .i64 s.1)]) (fun s=>H++s.2) (fun s=>s.1≤m.snaps.length∧∀q (hk:q<s.1) (hk2:q<m.snaps.length),decide (m.snaps[q].n=n)=false) (fun s=>m.snaps.length-s.1) (0,[]) ⟨Nat.zero_le _,fun q hk=>by simp only at hk;omega⟩ ?_ (List.append_nil _).symm ?_
 ·simp[go_sem]
 rintro⟨k,L⟩ ⟨hk,hno⟩
 simp only at hk hno ⊢
 generalize hG:H++L=G
 by_cases hlt:k<m.snaps.length
 ·have hp:=bF gX hlt
  repeat' first|(refine gS ?_;simp only[go_sem,hp,gX,hlt])|refine gA ?_|(refine gD (fun h=>?_) (fun h=>?_)<;>try exact aB h)|fail
  ·have hf:m.snaps.find? (fun s=>decide (s.n=n))=some m.snaps[k]:=by
    rw[List.find?_eq_some_iff_getElem]
    exact⟨by assumption,k,hlt,rfl,fun q hq=>by rw[hno q hq (by omega)];rfl⟩
   rw[hf]
   exact aLf hG (by simp only[go_sem]) (.refl _)
  ·refine⟨(k+1,L++[.cells 0 (gX m.snaps[k]).cells]),⟨hlt,fun q hq hq2=>?_⟩,by simp only;omega,congrArg _ (bI hlt (by omega)),?_⟩
   ·by_cases e:q=k
    ·subst e;simpa using h
    ·have:=hno q (by simp only at hq;omega) hq2;simpa using this
   ·show G++[.cells 0 (gX m.snaps[k]).cells]=_
    rw[←hG,List.append_assoc]
 ·have hke:k=m.snaps.length:=by omega
  have hf:m.snaps.find? (fun s=>decide (s.n=n))=none:=by
   rw[List.find?_eq_none]
   intro s hs
   obtain⟨q,hq,rfl⟩:=List.mem_iff_getElem.1 hs
   rw[hno q (by omega) hq];simp
  rw[hf]
  repeat' first|(refine gS ?_;simp only[go_sem,hlt])|refine gA ?_|(refine gD (fun h=>?_) (fun h=>?_)<;>try exact aB h)|fail
  exact oL hG (by simp only[go_sem]) (.refl _)
theorem aJ7(j:Nat)(c:Cal)(d:Dsk)(i:Nat)(hm:d.m.log.entries.length≤1000000)(H:AHeap)(hh:hget H i=.cells 0 (dkC j c d)):
  cN Tryz.prog 120 [.ref i 0 0] H (.tup [stA (nextD d.m).1,.int .i64 (nextD d.m).2]):=by
 refine aQ Tryz.func120 rfl (Nat.le_of_ble_eq_true rfl) ?_
 have h1:=aZ hh trivial
 have hn:=aRb d.m.seen d.m.rep
 simp only[dkC]at hh h1
 unfold nextD
 unfold aGz at hn
 cases ho:lZ d.m.seen d.m.rep with
 |false=>
  rw[ho,if_neg (by simp)]at hn
  rw[if_pos rfl]
  repeat' first|((first|refine aV (hn _) bZ ?_|refine aW (hn _) bZ ?_|refine aX (fun _=>hn _) bZ ?_|refine mx [1] mD ?_|refine gS ?_);simp only[go_sem,hh,h1])|((with_reducible refine And.intro ?_ ?_);focus (exact aO (hn _) bZ))|((with_reducible refine And.intro (And.intro ?_ ?_) ?_);focus (exact aO (hn _) bZ))|(exact aO (hn _) bZ)|refine gA ?_|(refine gD (fun h=>?_) (fun h=>?_)<;>try exact aB h)|fail
  exact done (by simp only[go_sem]) (.refl _)
 |true=>
  rw[ho,if_pos rfl]at hn
  rw[if_neg (by simp)]
  by_cases hl:(200:Int)≤(d.m.log.entries.length:Int)
  ·have hd:decide ((200:Int)≤(d.m.log.entries.length:Int))=true:=decide_eq_true hl
   rw[if_pos hl]
   repeat' first|((first|refine aV (hn _) bZ ?_|refine aW (hn _) bZ ?_|refine aX (fun _=>hn _) bZ ?_|refine mx [1] mD ?_|refine gS ?_);simp only[go_sem,hh,h1,hd])|((with_reducible refine And.intro ?_ ?_);focus (exact aO (hn _) bZ))|((with_reducible refine And.intro (And.intro ?_ ?_) ?_);focus (exact aO (hn _) bZ))|(exact aO (hn _) bZ)|refine gA ?_|(refine gD (fun h=>?_) (fun h=>?_)<;>try exact aB h)|fail
   exact done (by simp only[go_sem]) (.refl _)
  ·have hd:decide ((200:Int)≤(d.m.log.entries.length:Int))=false:=decide_eq_false hl
   rw[if_neg hl]
   repeat' first|((first|refine aV (hn _) bZ ?_|refine aW (hn _) bZ ?_|refine aX (fun _=>hn _) bZ ?_|refine mx [1] mD ?_|refine gS ?_);simp only[go_sem,hh,h1,hd])|((with_reducible refine And.intro ?_ ?_);focus (exact aO (hn _) bZ))|((with_reducible refine And.intro (And.intro ?_ ?_) ?_);focus (exact aO (hn _) bZ))|(exact aO (hn _) bZ)|refine gA ?_|(refine gD (fun h=>?_) (fun h=>?_)<;>try exact aB h)|fail
   exact done (by simp only[go_sem]) (.refl _)
theorem aRf{i j:Nat}{c:Cal}{d:Dsk}{G:AHeap}(hb:KB i j c d G)(hs:DS d.m){o:Opn}(ho:OpS o)(hl:d.ops.length≤1000000):
  ACalls Tryz.prog 143 [.ref i 0 0,opA o] G (fun v H'=>v=.int .i64 (nT d o).1∧H'=pS G i j c (nT d o).2):=by
 refine bQ Tryz.func143 rfl (Nat.le_of_ble_eq_true rfl) ?_
 have hm:=aQ5 false false d.m.log o ho hs.ops hs.nodes hs.ents
 have r0:=hb.b1;have r1:=aZ hb.b1 trivial;have r2:=aZ hb.b2 trivial;have hne:=hb.ne;have hl1:=hb.lt1;have hl2:=hb.lt2;have r3:=hb.r3;have r4:=hb.r4;have hnl:=aI G i;simp only[dkC]at r0 r1;have qs:=yN hl1 hl2 hne rfl
 simp only[aQ4,lgA,lgF,opA]at hm
 unfold nT
 by_cases he:xE d.m.log o=0
 ·rw[if_pos he]
  rw[he]at hm
  have hq1:(∀e,e=AV.agg [.int .i64 o.at_.c,.int .i64 o.at_.r,.int .i64 o.kind,.int .i64 o.node,.int .i64 o.parent,.str o.name,.str o.data]→e.cells.length=7)=True:=eq_true (fun e he=>by rw[he];rfl)
  have hl8:((d.ops.length+1) * 72≤140737488355328)=True:=eq_true (by omega)
  have hfl:=gB (enc:=opA) (s:=7) (fun _=>rfl) d.ops
  repeat' first|((first|refine aV (hm _) dE ?_|refine aW (hm _) dE ?_|refine aX (fun _=>hm _) dE ?_|refine mx [1] pP ?_|refine mx [5] pQ ?_|refine gS ?_);simp only[go_sem,opA,r0,r1,r2,r3,r4,hnl,qs,aI,hq1,hl8,hfl])|((with_reducible refine And.intro ?_ ?_);focus (exact aO (hm _) dE))|((with_reducible refine And.intro (And.intro ?_ ?_) ?_);focus (exact aO (hm _) dE))|(exact aO (hm _) dE)|refine gA ?_|(refine gD (fun h=>?_) (fun h=>?_)<;>try exact aB h)|fail
  refine sC hb rfl ?_
  unfold pS dkC
  simp[iW,mZ,aJW,opA,AV.cells]
 ·have hd:decide (xE d.m.log o=0)=false:=decide_eq_false he
  rw[if_neg he]
  repeat' first|((first|refine aV (hm _) dE ?_|refine aW (hm _) dE ?_|refine aX (fun _=>hm _) dE ?_|refine mx [1] pP ?_|refine mx [5] pQ ?_|refine gS ?_);simp only[go_sem,opA,r0,r1,r2,r3,r4,hnl,qs,aI,hd])|((with_reducible refine And.intro ?_ ?_);focus (exact aO (hm _) dE))|((with_reducible refine And.intro (And.intro ?_ ?_) ?_);focus (exact aO (hm _) dE))|(exact aO (hm _) dE)|refine gA ?_|(refine gD (fun h=>?_) (fun h=>?_)<;>try exact aB h)|fail
  exact sC hb rfl hb.own.symm
theorem bDv{i j:Nat}{c:Cal}{d:Dsk}{G:AHeap}(hb:KB i j c d G)(hs:DS d.m){o:Opn}(ho:OpS o)(hl:d.ops.length≤1000000):
  ACalls Tryz.prog 122 [.ref i 0 0,opA o] G (fun v H'=>v=.int .i64 (vY d o).1∧H'=pS G i j c (vY d o).2):=by
 refine bQ Tryz.func122 rfl (Nat.le_of_ble_eq_true rfl) ?_
 have r0:=hb.b1;have r1:=aZ hb.b1 trivial;have r2:=aZ hb.b2 trivial;have hne:=hb.ne;have hl1:=hb.lt1;have hl2:=hb.lt2;have r3:=hb.r3;have r4:=hb.r4;have hnl:=aI G i;simp only[dkC]at r0 r1;have qs:=yN hl1 hl2 hne rfl
 unfold vY
 obtain⟨s,e,hn⟩:∃s e,nextD d.m=(s,e):=⟨_,_,rfl⟩
 simp only[hn]
 have hnx:=fun L=>aJ7 j c d i (by have:=hs.ents;omega) (G++L) (hb.app L).b1
 simp only[hn,stA]at hnx
 by_cases he:e=0
 ·subst he
  rw[if_pos rfl]
  repeat' first|((first|refine aV (hnx _) iJ ?_|refine aW (hnx _) iJ ?_|refine aX (fun _=>hnx _) iJ ?_|refine gS ?_);simp only[go_sem,opA])|refine gA ?_|(refine gD (fun h=>?_) (fun h=>?_)<;>try exact aB h)|fail
  obtain⟨L,hL⟩:∃L:AHeap,L=[.cells 0 [.int .i64 s.c,.int .i64 s.r,.int .i64 o.kind,.int .i64 o.node,.int .i64 o.parent,.str o.name,.str o.data],.cells 0 [.int .i64 s.c,.int .i64 s.r]]:=⟨_,rfl⟩
  rw[←hL]
  refine bJ (aRf (hb.app L) hs (o:={o with at_:=s}) ho hl) aBX ?_
  rintro v H' ⟨rfl,rfl⟩
  rw[hb.happ]
  obtain⟨⟨x,d1⟩,hr⟩:∃r,nT d {o with at_:=s}=r:=⟨_,rfl⟩
  rw[hr]
  simp only
  obtain⟨G1,hG1⟩:∃G1,pS G i j c d1=G1:=⟨_,rfl⟩
  have hb1:KB i j c d1 G1:=hG1▸hb.put d1
  have hGl:G1.length=G.length:=by rw[←hG1,zY]
  have htw:∀d2,pS G1 i j c d2=pS G i j c d2:=fun d2=>by rw[←hG1,hb.twice]
  rw[hG1,hL]
  have r0:=hb1.b1;have r1:=aZ hb1.b1 trivial;have r2:=aZ hb1.b2 trivial;have hne:=hb1.ne;have hl1:=hb1.lt1;have hl2:=hb1.lt2;have r3:=hb1.r3;have r4:=hb1.r4;have hnl:=hGl;simp only[dkC]at r0 r1;have qs:=yN hl1 hl2 hne hGl
  simp only[go_sem]
  by_cases hx:x=0
  ·subst hx
   rw[if_pos rfl]
   repeat' first|(refine gS ?_;simp only[go_sem,r0,r1,r2,r3,r4,hnl,qs,aI])|refine gA ?_|(refine gD (fun h=>?_) (fun h=>?_)<;>try exact aB h)|fail
   refine sC hb rfl ?_
   rw[←htw]
   exact hb1.one (d':={d1 with m:={d1.m with seen:=s.c}}) rfl
  ·have hd:decide (x=0)=false:=decide_eq_false hx
   rw[if_neg hx]
   repeat' first|(refine gS ?_;simp only[go_sem,r0,r1,r2,r3,r4,hnl,qs,aI,hd])|refine gA ?_|(refine gD (fun h=>?_) (fun h=>?_)<;>try exact aB h)|fail
   exact sC hb rfl hG1.symm
 ·rw[if_neg he]
  have hd:decide (e=0)=false:=decide_eq_false he
  repeat' first|((first|refine aV (hnx _) iJ ?_|refine aW (hnx _) iJ ?_|refine aX (fun _=>hnx _) iJ ?_|refine gS ?_);simp only[go_sem,opA,hd])|refine gA ?_|(refine gD (fun h=>?_) (fun h=>?_)<;>try exact aB h)|fail
  exact sC hb rfl hb.own.symm
end Go.Proofs.YthhdnjiodklmmaaGreatDoor
/- What is seen in a directory is of the nodes, in plain Lean. No condition. -/
namespace Go.Gw
open Go Go.Aw Go.Proofs.YthhdnjiodklmmaaGreatDoor
theorem aGE{s:Txt}{n:Nd}{m:List (Txt×Nd)}{p:Txt×Nd}(h:p∈jA s n m):p.2=n∨p∈m:=by
 induction m with
 |nil=>simp[jA]at h;left;rw[h]
 |cons q m ih=>
  obtain⟨k,x⟩:=q
  unfold jA at h
  split at h
  ·rcases List.mem_cons.1 h with rfl|h
   ·exact .inl rfl
   ·exact .inr (List.mem_cons_of_mem _ h)
  ·rcases List.mem_cons.1 h with rfl|h
   ·exact .inr (by simp)
   ·rcases ih h with h|h
    ·exact .inl h
    ·exact .inr (List.mem_cons_of_mem _ h)
theorem aEn{s:Txt}{n:Nd}{m:List (Txt×Nd)}(h:fS s m=some n):∃p∈m,p.2=n:=by
 induction m with
 |nil=>cases h
 |cons q m ih=>
  obtain⟨k,x⟩:=q
  unfold fS at h
  split at h
  ·exact⟨(k,x),by simp,by simpa using h⟩
  ·obtain⟨p,hp,e⟩:=ih h;exact⟨p,List.mem_cons_of_mem _ hp,e⟩
theorem yO(l:List Nd)(dir:Int):∀p∈dS l dir,p.2∈l∧inD dir p.2=true:=by
 suffices h:∀(k l:List Nd) (m:List (Txt×Nd)),(∀p∈m,p.2∈l∧inD dir p.2=true)→(∀n∈k,n∈l)→∀p∈k.foldl (rX dir) m,p.2∈l∧inD dir p.2=true from h l l [] (fun p hp=>by cases hp) (fun n hn=>hn)
 intro k
 induction k with
 |nil=>intro l m hm _;exact hm
 |cons x k ih=>
  intro l m hm hk
  refine ih l (rX dir m x) (fun p hp=>?_) (fun n hn=>hk n (List.mem_cons_of_mem _ hn))
  unfold rX at hp
  split at hp
  ·rename_i hx
   unfold zM at hp
   have hs:∀p∈jA x.name x m,p.2∈l∧inD dir p.2=true:=fun p hp=>by
    rcases aGE hp with e|h
    ·rw[e];exact⟨hk x (by simp),hx⟩
    ·exact hm p h
   split at hp
   ·exact hs p hp
   ·split at hp
    ·exact hm p hp
    ·exact hs p hp
  ·exact hm p hp
theorem aYh{l:List Nd}{dir:Int}{s:Txt}{n:Nd}(h:childN l dir s=some n):chk l=true∧n∈l∧n.parent=dir:=by
 unfold childN at h
 split at h
 ·rename_i hc
  obtain⟨p,hp,e⟩:=aEn h
  obtain⟨h1,h2⟩:=yO l dir p hp
  rw[e]at h1 h2
  unfold inD at h2
  rw[Bool.and_eq_true,decide_eq_true_eq]at h2
  exact⟨hc,h1,h2.1⟩
 ·cases h
end Go.Gw
/- What is done, and taken back, leaves nodes ars they were; nodes that may be stay so. No condition. -/
namespace Go.Gw
open Go Go.Aw Go.Proofs.YthhdnjiodklmmaaGreatDoor
def sD(l:List Nd)(n:Nd):List Nd:=lF l (pos l n.id) (upto l n.id) [n]
def bCb(l:List Nd)(id:Int):List Nd:=lF l (pos l id) (upto l id) []
theorem iR(l:List Nd)(o:Opn):(cJ l o).id=o.node:=by
 have h:(fA l o).id=o.node:=by
  unfold fA
  split
  ·rename_i n hn
   have:=List.find?_some hn
   simpa using this
  ·rfl
 unfold cJ;split<;>exact h
theorem kP{l:List Nd}{o:Opn}(h:cA l o=false):kX l o=sD l (cJ l o):=by
 rw[kX,if_neg (by rw[h];decide),sD,iR]
theorem aBa(l:List Nd)(id:Int)(x:Nd)(hx:x∈l.take (pos l id)):x.id<id:=by
 induction l with
 |nil=>simp at hx
 |cons n l ih=>
  unfold pos at hx
  split at hx
  ·rename_i h
   rw[List.take_succ_cons,List.mem_cons]at hx
   rcases hx with rfl|hx
   ·exact h
   ·exact ih hx
  ·simp at hx
theorem aBb{l:List Nd}(hs:chk l=true)(id:Int)(x:Nd)(hx:x∈l.drop (upto l id)):id<x.id:=by
 have hp:=((nJ l).1 hs).2
 rw[List.pairwise_iff_getElem]at hp
 obtain⟨i,hi,rfl⟩:=List.getElem_of_mem hx
 rw[List.length_drop]at hi
 rw[List.getElem_drop]
 have hpos:∀k (hk:k<l.length),pos l id≤k→¬l[k].id<id:=by
  intro k hk hle hlt
  have key:∀(l:List Nd),(∀(i j:Nat) (_hi:i<l.length) (_hj:j<l.length),i<j→l[i].id<l[j].id)→∀k (hk:k<l.length),pos l id≤k→¬l[k].id<id:=by
   intro l
   induction l with
   |nil=>intro _ k hk;simp at hk
   |cons n l ih=>
    intro hp k hk hle hlt
    unfold pos at hle
    split at hle
    ·cases k with
     |zero=>omega
     |succ k=>
      refine ih (fun i j hi hj hij=>?_) k (by simpa using hk) (by omega) (by simpa using hlt)
      have:=hp (i+1) (j+1) (by simpa using hi) (by simpa using hj) (by omega)
      simpa using this
    ·rename_i hn
     cases k with
     |zero=>simp at hlt;omega
     |succ k=>
      have:=hp 0 (k+1) (by simp) hk (by omega)
      simp at this hlt;omega
  exact key l hp k hk hle hlt
 unfold upto at hi ⊢
 split
 ·rename_i hh
  have hlt:=jY hs hh
  have he:l[pos l id].id=id:=by
   rw[lU hs,List.getElem?_eq_getElem hlt]at hh;simpa using hh
  rw[if_pos hh]at hi
  have:=hp (pos l id) (pos l id+1+i) hlt (by omega) (by omega)
  omega
 ·rename_i hh
  rw[if_neg hh]at hi
  have h1:=hpos (pos l id+i) (by omega) (by omega)
  have h2:l[pos l id+i].id≠id:=by
   intro e
   by_cases hi0:i=0
   ·subst hi0
    apply hh
    rw[lU hs,List.getElem?_eq_getElem (by omega)]
    simpa using e
   ·have h3:=hp (pos l id) (pos l id+i) (by omega) (by omega) (by omega)
    have h4:=hpos (pos l id) (by omega) (Nat.le_refl _)
    omega
  omega
theorem aDo{l:List Nd}(hs:chk l=true){n:Nd}(hn:iZ n.id=true):chk (sD l n)=true:=by
 have h:=(nJ l).1 hs
 rw[nJ]
 have ht:∀x∈l.take (pos l n.id),x.id<n.id:=aBa l n.id
 have hd:∀x∈l.drop (upto l n.id),n.id<x.id:=aBb hs n.id
 unfold sD lF
 refine⟨fun x hx=>?_,?_⟩
 ·rw[List.mem_append,List.mem_append,List.mem_singleton]at hx
  rcases hx with(hx|rfl)|hx
  ·exact h.1 x (List.mem_of_mem_take hx)
  ·exact hn
  ·exact h.1 x (List.mem_of_mem_drop hx)
 ·rw[List.pairwise_append,List.pairwise_append]
  refine⟨⟨h.2.sublist (List.take_sublist _ _),List.pairwise_singleton _ _,fun a ha b hb=>by rw[List.mem_singleton]at hb;subst hb;exact ht a ha⟩,h.2.sublist (List.drop_sublist _ _),fun a ha b hb=>?_⟩
  rw[List.mem_append,List.mem_singleton]at ha
  rcases ha with ha|rfl
  ·exact Int.lt_trans (ht a ha) (hd b hb)
  ·exact hd b hb
theorem aDp{A B:List Nd}{n:Nd}{id:Int}(hA:∀x∈A,x.id<id)(hn:n.id=id):pos (A++n::B) id=A.length:=by
 induction A with
 |nil=>simp[pos,hn]
 |cons a A ih=>
  rw[List.cons_append,pos,if_pos (hA a (by simp)),ih fun x hx=>hA x (by simp[hx])];rfl
theorem bDw{A B:List Nd}{id:Int}(hA:∀x∈A,x.id<id)(hB:∀x∈B,id<x.id):pos (A++B) id=A.length:=by
 induction A with
 |nil=>
  cases B with
  |nil=>rfl
  |cons b B=>have:=hB b (by simp);rw[List.nil_append,pos,if_neg (by omega)];rfl
 |cons a A ih=>
  rw[List.cons_append,pos,if_pos (hA a (by simp)),ih fun x hx=>hA x (by simp[hx])];rfl
theorem tZ{A B:List Nd}{n:Nd}{id:Int}(hA:∀x∈A,x.id<id)(hn:n.id=id):nK (A++n::B) id=some n:=by
 unfold nK
 rw[List.find?_append,List.find?_cons,decide_eq_true hn]
 have:A.find? (fun n=>decide (n.id=id))=none:=by
  rw[List.find?_eq_none];intro x hx;have:=hA x hx;simp;omega
 rw[this];rfl
theorem aBc{l:List Nd}(hs:chk l=true)(id:Int):∃A B,(∀x∈A,x.id<id)∧(∀x∈B,id<x.id)∧A=l.take (pos l id)∧B=l.drop (upto l id)∧(l=A++B∧had l id=false∨∃n,n.id=id∧l=A++n::B∧had l id=true):=by
 refine⟨_,_,aBa l id,aBb hs id,rfl,rfl,?_⟩
 cases hh:had l id with
 |false=>
  left
  unfold upto
  rw[hh]
  exact⟨(List.take_append_drop _ _).symm,rfl⟩
 |true=>
  right
  have hlt:=jY hs hh
  have he:l[pos l id].id=id:=by
   have:=hh
   rw[lU hs,List.getElem?_eq_getElem hlt]at this;simpa using this
  refine⟨l[pos l id],he,?_,rfl⟩
  unfold upto
  rw[if_pos hh,←List.drop_eq_getElem_cons hlt,List.take_append_drop]
theorem aGF{l:List Nd}(n:Nd){A B:List Nd}(hA:A=l.take (pos l n.id))(hB:B=l.drop (upto l n.id)):sD l n=A++n::B:=by
 rw[sD,lF,hA,hB,List.append_assoc];rfl
theorem aJ8{A B:List Nd}{n m:Nd}(hA:∀x∈A,x.id<n.id)(hm:m.id=n.id):sD (A++m::B) n=A++n::B:=by
 have hp:pos (A++m::B) n.id=A.length:=aDp hA hm
 have hh:had (A++m::B) n.id=true:=by rw[had,tZ hA hm];rfl
 rw[sD,lF,upto,if_pos hh,hp,List.take_left',show A.length+1=A.length+1 from rfl,List.append_assoc]
 ·congr 1
  rw[List.drop_append,List.drop_of_length_le (by omega)];simp
 ·rfl
theorem aJ9{A B:List Nd}{m:Nd}{id:Int}(hA:∀x∈A,x.id<id)(hm:m.id=id):bCb (A++m::B) id=A++B:=by
 have hp:pos (A++m::B) id=A.length:=aDp hA hm
 have hh:had (A++m::B) id=true:=by rw[had,tZ hA hm];rfl
 rw[bCb,lF,upto,if_pos hh,hp,List.take_left',List.append_nil]
 ·congr 1
  rw[List.drop_append,List.drop_of_length_le (by omega)];simp
 ·rfl
theorem aKa{l:List Nd}(o:Opn)(hs:chk l=true):lG (kX l o) o (qL l o)=l:=by
 cases hr:cA l o with
 |true=>
  rw[kX,if_pos hr,qL,if_pos hr,lG,if_pos (by simp[aNt])]
 |false=>
  have hok:opOk o=true:=by
   cases ho:opOk o with
   |true=>rfl
   |false=>simp[cA,ho]at hr
  have hof:iZ o.node=true:=by
   unfold opOk yD aC8 at hok
   split at hok<;>simp at hok<;>simp[hok]
  have hid:=iR l o
  have hc:chk (kX l o)=true:=by rw[kP hr];exact aDo hs (by rw[hid];exact hof)
  rw[qL,if_neg (by rw[hr];decide),lG,if_neg (by rw[hc];simp)]
  obtain⟨A,B,hA,hB,eA,eB,hcase⟩:=aBc hs o.node
  have hd:kX l o=A++cJ l o::B:=by
   rw[kP hr]
   exact aGF _ (by rw[hid];exact eA) (by rw[hid];exact eB)
  rcases hcase with⟨hl,hh⟩|⟨n,hn,hl,hh⟩
  ·rw[if_neg (by rw[hh];simp)]
   have:=aJ9 (B:=B) hA hid
   rw[hd]
   exact this.trans hl.symm
  ·have hf:nK l o.node=some n:=by rw[hl];exact tZ hA hn
   rw[if_pos (by rw[hh,hf,hof];simpa using hn),hf,Option.getD_some]
   have:=aJ8 (n:=n) (m:=cJ l o) (B:=B) (by rw[hn];exact hA) (by rw[hn,hid])
   rw[hd]
   have h2:sD (A++cJ l o::B) n=lF (A++cJ l o::B) (pos (A++cJ l o::B) o.node) (upto (A++cJ l o::B) o.node) [n]:=by rw[sD,hn]
   rw[←h2,this,←hl]
theorem aCD{l:List Nd}(o:Opn)(hs:chk l=true):chk (kX l o)=true:=by
 cases hr:cA l o with
 |true=>rw[kX,if_pos hr];exact hs
 |false=>
  have hok:opOk o=true:=by
   cases ho:opOk o with
   |true=>rfl
   |false=>simp[cA,ho]at hr
  have hof:iZ o.node=true:=by
   unfold opOk yD aC8 at hok
   split at hok<;>simp at hok<;>simp[hok]
  rw[kP hr];exact aDo hs (by rw[iR];exact hof)
end Go.Gw
/- Logs are what their operations make, in order. No condition. -/
namespace Go.Gw
open Go Go.Aw Go.Proofs.YthhdnjiodklmmaaGreatDoor
theorem uA{a b:Stm}:fH a b=true↔a.c<b.c∨(a.c=b.c∧a.r<b.r):=aC5
theorem aKb{a b:Stm}:fH a b=false↔¬(a.c<b.c∨(a.c=b.c∧a.r<b.r)):=by rw[←uA,Bool.not_eq_true]
theorem aKc{a b:Stm}(h1:a.c=b.c)(h2:a.r=b.r):a=b:=by cases a;cases b;simp_all
theorem aEo(a b:Stm):fH a b=true∨a=b∨fH b a=true:=by
 rw[uA,uA]
 by_cases h:a=b
 ·exact .inr (.inl h)
 ·have:¬(a.c=b.c∧a.r=b.r):=fun q=>h (aKc q.1 q.2)
  omega
theorem tC{a b c:Stm}(h:fH a b=true)(k:fH b c=true):fH a c=true:=by
 rw[uA]at *;omega
theorem nO(a:Stm):fH a a=false:=by rw[aKb];omega
def logOf(l:List Opn):Lg:=⟨(dP l [] []).1,(dP l [] []).2⟩
abbrev Srt(l:List Opn):Prop:=l.Pairwise fun x y=>fH x.at_ y.at_=true
theorem aBd(a b:List Opn)(es:List Ent)(n:List Nd):dP (a++b) es n=dP b (dP a es n).1 (dP a es n).2:=by
 induction a generalizing es n with
 |nil=>rfl
 |cons o a ih=>rw[List.cons_append,dP,ih,dP]
theorem aGG(l:List Opn)(es:List Ent)(n:List Nd):dP l es n=(es++(dP l [] n).1,(dP l [] n).2):=by
 induction l generalizing es n with
 |nil=>simp[dP]
 |cons o l ih=>
  show dP l (es++[⟨o,qL n o⟩]) (kX n o)=(es++(dP l ([]++[⟨o,qL n o⟩]) (kX n o)).1,(dP l ([]++[⟨o,qL n o⟩]) (kX n o)).2)
  rw[ih (es++[Ent.mk o (qL n o)]),ih ([]++[Ent.mk o (qL n o)])]
  simp
theorem aGH(l:List Opn)(es:List Ent){n:List Nd}(h:chk n=true):chk (dP l es n).2=true:=by
 induction l generalizing es n with
 |nil=>exact h
 |cons o l ih=>exact ih _ (aCD o h)
theorem aEp(l:List Opn):chk (logOf l).nodes=true:=aGH l [] rfl
theorem eU(l:List Opn):opsG (logOf l)=l:=by rw[opsG,logOf,aA6];rfl
theorem aGI(a:Stm)(pre:List Opn)(r:List Opn)(h:∀x∈r,fH a x.at_=true):
  dT a (logOf (pre++r.reverse)).entries.reverse (logOf (pre++r.reverse)).nodes=((dT a (logOf pre).entries.reverse (logOf pre).nodes).1+r.length,(dT a (logOf pre).entries.reverse (logOf pre).nodes).2):=by
 induction r with
 |nil=>simp
 |cons x r ih=>
  have h2:=ih fun y hy=>h y (by simp[hy])
  have e:pre++(x::r).reverse=(pre++r.reverse)++[x]:=by simp
  have e2:logOf ((pre++r.reverse)++[x])=⟨(logOf (pre++r.reverse)).entries++[⟨x,qL (logOf (pre++r.reverse)).nodes x⟩],kX (logOf (pre++r.reverse)).nodes x⟩:=by
   rw[logOf,yH];rfl
  rw[e,e2]
  simp only[List.reverse_append,List.reverse_cons,List.reverse_nil,List.nil_append,List.cons_append]
  rw[dT,if_pos (h x (by simp)),aKa x (aEp _),h2]
  simp[Nat.add_assoc]
theorem aEr(a:Stm)(pre:List Opn)(h:∀x∈pre,fH a x.at_=false)(n:List Nd):(dT a (logOf pre).entries.reverse n).1=0∧(dT a (logOf pre).entries.reverse n).2=n:=by
 cases hr:(logOf pre).entries.reverse with
 |nil=>exact⟨rfl,rfl⟩
 |cons e r=>
  have he:e∈(logOf pre).entries:=by rw[←List.mem_reverse,hr];simp
  have h1:e.op∈opsG (logOf pre):=List.mem_map_of_mem he
  rw[eU]at h1
  rw[dT,if_neg (by rw[h _ h1];decide)]
  exact⟨rfl,rfl⟩
def iS(o:Opn)(l:List Opn):List Opn:=l.takeWhile fun x=> !fH o.at_ x.at_
def nU(o:Opn)(l:List Opn):List Opn:=l.dropWhile fun x=> !fH o.at_ x.at_
def aAf(o:Opn)(l:List Opn):List Opn:=iS o l++o::nU o l
theorem kQ(o:Opn)(l:List Opn):iS o l++nU o l=l:=List.takeWhile_append_dropWhile
theorem aGJ(o:Opn)(l:List Opn):∀x∈iS o l,fH o.at_ x.at_=false:=by
 intro x hx
 unfold iS at hx
 induction l with
 |nil=>simp at hx
 |cons y l ih=>
  rw[List.takeWhile_cons]at hx
  split at hx
  ·rename_i hy
   rw[List.mem_cons]at hx
   rcases hx with rfl|hx
   ·simpa using hy
   ·exact ih hx
  ·simp at hx
theorem aGK{o:Opn}{l:List Opn}(h:Srt l):∀x∈nU o l,fH o.at_ x.at_=true:=by
 intro x hx
 unfold nU at hx
 induction l with
 |nil=>simp at hx
 |cons y l ih=>
  rw[Srt,List.pairwise_cons]at h
  rw[List.dropWhile_cons]at hx
  split at hx
  ·exact ih h.2 hx
  ·rename_i hy
   have hy:fH o.at_ y.at_=true:=by simpa using hy
   rw[List.mem_cons]at hx
   rcases hx with rfl|hx
   ·exact hy
   ·exact tC hy (h.1 x hx)
theorem aKd{l:List Opn}(hs:Srt l)(o:Opn)(h1:opOk o=true)(h2:lH (logOf l).entries o.at_=false)(h3:(l.length:Int)<200):fB (logOf l) o=logOf (aAf o l):=by
 have hlen:(logOf l).entries.length=l.length:=by
  have:=congrArg List.length (eU l);rwa[opsG,List.length_map]at this
 have hu:=aGI o.at_ (iS o l) (nU o l).reverse (fun x hx=>aGK hs x (List.mem_reverse.1 hx))
 rw[List.reverse_reverse,kQ]at hu
 have hn:=aEr o.at_ (iS o l) (aGJ o l) (logOf (iS o l)).nodes
 have hu2:dT o.at_ (logOf l).entries.reverse (logOf l).nodes=((nU o l).length,(logOf (iS o l)).nodes):=by
  rw[hu,hn.2,hn.1];simp
 have hll:l.length=(iS o l).length+(nU o l).length:=by
  have:=congrArg List.length (kQ o l);rw[List.length_append]at this;exact this.symm
 have he:(logOf l).entries=(logOf (iS o l)).entries++(dP (nU o l) [] (logOf (iS o l)).nodes).1:=by
  have e:(logOf l).entries=(logOf (iS o l++nU o l)).entries:=congrArg (fun x=>(logOf x).entries) (kQ o l).symm
  rw[e,logOf,aBd,aGG (nU o l)];rfl
 have hpl:(logOf (iS o l)).entries.length=(iS o l).length:=by
  have:=congrArg List.length (eU (iS o l));rwa[opsG,List.length_map]at this
 rw[fB,if_neg (by rw[h1];decide),if_neg (by rw[h2];decide),if_neg (by omega),hu2]
 simp only
 have e1:(logOf l).entries.length-(nU o l).length=(iS o l).length:=by omega
 have e2:(logOf l).entries.take (iS o l).length=(logOf (iS o l)).entries:=by rw[he,←hpl,List.take_left'];rfl
 have e3:((logOf l).entries.drop (iS o l).length).map Ent.op=nU o l:=by
  rw[List.map_drop]
  have:=eU l
  rw[opsG]at this
  rw[this]
  exact(congrArg (List.drop (iS o l).length) (kQ o l).symm).trans (List.drop_left' rfl)
 rw[e1,e2,e3,aAf]
 have e4:logOf (iS o l++o::nU o l)=⟨(dP (o::nU o l) (dP (iS o l) [] []).1 (dP (iS o l) [] []).2).1,(dP (o::nU o l) (dP (iS o l) [] []).1 (dP (iS o l) [] []).2).2⟩:=by
  rw[logOf,aBd]
 rw[e4]
 rfl
theorem uB{o x:Opn}{l:List Opn}:x∈aAf o l↔x=o∨x∈l:=by
 rw[aAf,List.mem_append,List.mem_cons]
 have:x∈l↔x∈iS o l∨x∈nU o l:=by rw[←List.mem_append,kQ]
 rw[this]
 constructor
 ·rintro(h|h|h)
  ·exact .inr (.inl h)
  ·exact .inl h
  ·exact .inr (.inr h)
 ·rintro(h|h|h)
  ·exact .inr (.inl h)
  ·exact .inl h
  ·exact .inr (.inr h)
theorem aDq(o:Opn)(l:List Opn):(aAf o l).length=l.length+1:=by
 have:=congrArg List.length (kQ o l)
 rw[List.length_append]at this
 rw[aAf,List.length_append,List.length_cons];omega
theorem aKe{o:Opn}{l:List Opn}(hs:Srt l)(hn:∀x∈l,x.at_≠o.at_):Srt (aAf o l):=by
 have h0:=hs
 rw[←kQ o l]at h0
 rw[Srt,List.pairwise_append]at h0
 rw[aAf,Srt,List.pairwise_append,List.pairwise_cons]
 have hp:∀x∈iS o l,fH x.at_ o.at_=true:=fun x hx=>by
  have hx1:=aGJ o l x hx
  rcases aEo o.at_ x.at_ with q|q|q
  ·rw[q]at hx1;cases hx1
  ·exact absurd q.symm (hn x (by rw[←kQ o l];simp[hx]))
  ·exact q
 refine⟨h0.1,⟨aGK hs,h0.2.1⟩,fun a ha b hb=>?_⟩
 rw[List.mem_cons]at hb
 rcases hb with rfl|hb
 ·exact hp a ha
 ·exact h0.2.2 a ha b hb
theorem yP(l:List Opn)(a:Stm):lH (logOf l).entries a=l.any fun o=>decide (o.at_=a):=by rw[hasAt_ops',eU]
 where hasAt_ops' {g:Lg} {a:Stm}:lH g.entries a=(opsG g).any fun o=>decide (o.at_=a):=by rw[lH,opsG,List.any_map];rfl
structure Good (g:Lg):Prop where
 log:g=logOf (opsG g)
 srt:Srt (opsG g)
 ok:∀o∈opsG g,opOk o=true
theorem bCc:Good ⟨[],[]⟩:=⟨rfl,by simp[opsG],by simp[opsG]⟩
theorem aBe{g:Lg}(h:Good g)(o:Opn):Good (fB g o)∧(opsG (fB g o)=opsG g∧fB g o=g∧(opOk o=false∨(∃x∈opsG g,x.at_=o.at_)∨200≤(opsG g).length)∨opsG (fB g o)=aAf o (opsG g)∧opOk o=true∧(∀x∈opsG g,x.at_≠o.at_)):=by
 have hlen:(opsG g).length=g.entries.length:=List.length_map ..
 by_cases h1:opOk o=true
 ·by_cases h2:lH g.entries o.at_=true
  ·have e:fB g o=g:=by rw[fB,if_neg (by rw[h1];decide),if_pos h2]
   rw[e]
   refine⟨h,.inl ⟨rfl,rfl,.inr (.inl ?_)⟩⟩
   rw[h.log,yP]at h2
   obtain⟨x,hx,hx2⟩:=List.any_eq_true.1 h2
   exact⟨x,hx,of_decide_eq_true hx2⟩
  ·by_cases h3:(200:Int)≤(g.entries.length:Int)
   ·have e:fB g o=g:=by rw[fB,if_neg (by rw[h1];decide),if_neg h2,if_pos h3]
    rw[e]
    exact⟨h,.inl ⟨rfl,rfl,.inr (.inr (by omega))⟩⟩
   ·have hno:∀x∈opsG g,x.at_≠o.at_:=by
     intro x hx e
     apply h2
     rw[h.log,yP]
     exact List.any_eq_true.2 ⟨x,hx,by simpa using e⟩
    have h2':lH (logOf (opsG g)).entries o.at_=false:=by rw[←h.log];simpa using h2
    have e:=aKd h.srt o h1 h2' (by omega)
    rw[←h.log]at e
    rw[e,eU]
    exact⟨⟨by rw[eU],by rw[eU];exact aKe h.srt hno,by rw[eU];intro x hx;rcases uB.1 hx with rfl|hx;exact h1;exact h.ok x hx⟩,.inr ⟨rfl,h1,hno⟩⟩
 ·have h1:opOk o=false:=by simpa using h1
  have e:fB g o=g:=by rw[fB,if_pos h1]
  rw[e]
  exact⟨h,.inl ⟨rfl,rfl,.inl h1⟩⟩
theorem aGL{g:Lg}(h:Good g)(l:List Opn):Good (lV g l):=by
 induction l generalizing g with
 |nil=>exact h
 |cons o l ih=>exact ih (aBe h o).1
theorem aKf{a b:List Opn}(ha:Srt a)(hb:Srt b)(h:∀x,x∈a↔x∈b):a=b:=by
 induction a generalizing b with
 |nil=>
  cases b with
  |nil=>rfl
  |cons y b=>have:=(h y).2 (by simp);simp at this
 |cons x a ih=>
  cases b with
  |nil=>have:=(h x).1 (by simp);simp at this
  |cons y b=>
   rw[Srt,List.pairwise_cons]at ha hb
   have hxy:x=y:=by
    have h1:=(h x).1 (by simp)
    have h2:=(h y).2 (by simp)
    rw[List.mem_cons]at h1 h2
    rcases h1 with h1|h1
    ·exact h1
    ·rcases h2 with h2|h2
     ·exact h2.symm
     ·have h3:=tC (ha.1 y h2) (hb.1 x h1)
      rw[nO]at h3;cases h3
   subst hxy
   congr 1
   refine ih ha.2 hb.2 fun z=>?_
   have hz:=h z
   simp only[List.mem_cons]at hz
   constructor
   ·intro hza
    rcases hz.1 (.inr hza)with q|q
    ·subst q;have:=ha.1 z hza;rw[nO]at this;cases this
    ·exact q
   ·intro hzb
    rcases hz.2 (.inr hzb)with q|q
    ·subst q;have:=hb.1 z hzb;rw[nO]at this;cases this
    ·exact q
theorem bCd{g k:Lg}(hg:Good g)(hk:Good k)(h:∀x,x∈opsG g↔x∈opsG k):g=k:=by
 rw[hg.log,hk.log,aKf hg.srt hk.srt h]
theorem bDx{g:Lg}(hg:Good g)(l:List Opn):(∀x∈opsG (lV g l),x∈opsG g∨x∈l∧opOk x=true)∧(∀x∈opsG g,x∈opsG (lV g l))∧(opsG (lV g l)).length≤(opsG g).length+l.length∧
  ((opsG g).length+l.length≤200→∀x∈l,opOk x=true→∃y∈opsG (lV g l),y.at_=x.at_):=by
 induction l generalizing g with
 |nil=>exact⟨fun x hx=>.inl hx,fun x hx=>hx,Nat.le_refl _,fun _ x hx=>by simp at hx⟩
 |cons o l ih=>
  obtain⟨h1,h2⟩:=aBe hg o
  obtain⟨i1,i2,i3,i4⟩:=ih h1
  show(∀x∈opsG (lV (fB g o) l),_)∧(∀x∈opsG g,x∈opsG (lV (fB g o) l))∧(opsG (lV (fB g o) l)).length≤_∧(_→∀x∈o::l,_→∃y∈opsG (lV (fB g o) l),_)
  rcases h2 with⟨e1,e2,e3⟩|⟨e1,e2,e3⟩
  ·rw[e1]at i1 i2 i3 i4
   refine⟨fun x hx=>?_,i2,by simp only[List.length_cons];omega,fun hle x hx hxo=>?_⟩
   ·rcases i1 x hx with q|q
    ·exact .inl q
    ·exact .inr ⟨List.mem_cons_of_mem _ q.1,q.2⟩
   ·simp only[List.length_cons]at hle
    rw[List.mem_cons]at hx
    rcases hx with rfl|hx
    ·rcases e3 with e3|⟨y,hy,he⟩|e3
     ·rw[hxo]at e3;cases e3
     ·exact⟨y,i2 y hy,he⟩
     ·omega
    ·exact i4 (by omega) x hx hxo
  ·rw[e1]at i1 i2 i3 i4
   rw[aDq]at i3 i4
   refine⟨fun x hx=>?_,fun x hx=>i2 x (uB.2 (.inr hx)),by simp only[List.length_cons];omega,fun hle x hx hxo=>?_⟩
   ·rcases i1 x hx with q|q
    ·rcases uB.1 q with rfl|q
     ·exact .inr ⟨by simp,e2⟩
     ·exact .inl q
    ·exact .inr ⟨List.mem_cons_of_mem _ q.1,q.2⟩
   ·simp only[List.length_cons]at hle
    rw[List.mem_cons]at hx
    rcases hx with rfl|hx
    ·exact⟨x,i2 x (uB.2 (.inl rfl)),rfl⟩
    ·exact i4 (by omega) x hx hxo
end Go.Gw
/- The document's sorting, in plain Lean: one behind the other, each at its place. No condition. -/
namespace Go.Gw
open Go Go.Aw Go.Proofs.YthhdnjiodklmmaaGreatDoor
def rK(o:Opn)(out:List Opn):Nat:=out.length-(out.reverse.takeWhile fun x=>fH o.at_ x.at_).length
theorem aHI{α:Type}(p:α→Bool)(a b:List α)(h:∀x∈a,p x=true)(hb:∀x∈b,p x=false):(a++b).takeWhile p=a:=by
 induction a with
 |nil=>
  cases b with
  |nil=>rfl
  |cons x b=>simp[hb x (by simp)]
 |cons x a ih=>
  rw[List.cons_append,List.takeWhile_cons,if_pos (h x (by simp)),ih fun y hy=>h y (by simp[hy])]
end Go.Gw
/- More of what is done and taken back, in plain Lean. No condition. -/
namespace Go.Gw
open Go Go.Aw Go.Proofs.YthhdnjiodklmmaaGreatDoor
theorem aCE{l:List Nd}{o:Opn}(h:cA l o=true):kX l o=l∧qL l o=aNt:=by rw[kX,qL,if_pos h,if_pos h];exact⟨rfl,rfl⟩
theorem aGM{l:List Nd}{o:Opn}(h:chk l=false):cA l o=true:=by simp[cA,h]
theorem aKg(l:List Nd)(o:Opn):chk (kX l o)=chk l:=by
 cases hc:chk l with
 |true=>exact aCD o hc
 |false=>rw[(aCE (o:=o) (aGM hc)).1,hc]
theorem aAg{l:List Nd}(hs:chk l=true)(n:Nd)(id:Int):nK (sD l n) id=if id=n.id then some n else nK l id:=by
 obtain⟨A,B,hA,hB,eA,eB,h⟩:=aBc hs n.id
 rw[aGF n eA eB]
 by_cases hid:id=n.id
 ·rw[if_pos hid];exact tZ (fun x hx=>by rw[hid];exact hA x hx) hid.symm
 ·rw[if_neg hid]
  have key:∀m:Nd,m.id=n.id→nK (A++m::B) id=nK (A++B) id:=by
   intro m hm
   unfold nK
   rw[List.find?_append,List.find?_append,List.find?_cons,decide_eq_false (by rw[hm];exact fun e=>hid e.symm)]
  rcases h with⟨h,_⟩|⟨m,hm,h,_⟩
  ·conv=>rhs;rw[h]
   exact key n rfl
  ·conv=>rhs;rw[h]
   rw[key m hm];exact key n rfl
theorem qT{l:List Nd}{o:Opn}(hk:o.kind=1):cJ l o=⟨(fA l o).id,o.parent,o.name,o.at_,((nK l o.node).getD nd0).data,((nK l o.node).getD nd0).wrote⟩:=by
 unfold cJ fA
 rw[if_pos hk]
 cases nK l o.node<;>rfl
theorem oD{l:List Nd}{o:Opn}(hk:o.kind=2):cJ l o=⟨(fA l o).id,if(nK l o.node).isSome=true then((nK l o.node).getD nd0).parent else-1,((nK l o.node).getD nd0).name,((nK l o.node).getD nd0).moved,o.data,o.at_⟩:=by
 unfold cJ fA
 rw[if_neg (by omega)]
 cases nK l o.node<;>rfl
theorem bDy{l:List Nd}(o:Opn)(id:Int)(hs:chk l=true)(hr:cA l o=false):findI (kX l o) id=if id=o.node then some (cJ l o)else findI l id:=by
 rw[findI,findI,aKg,if_pos hs,if_pos hs,kP hr,aAg hs,iR]
end Go.Gw
/- What is above what, in plain Lean: of the nodes that operations make none is above itself. No condition. -/
namespace Go.Gw
open Go Go.Aw Go.Proofs.YthhdnjiodklmmaaGreatDoor
def par(l:List Nd)(id:Int):Option Int:=match nK l id with|none=>none|some n=>if n.parent= -1 then none else some n.parent
theorem cQ(l:List Nd)(k:Nat)(id:Int):eR l (k+1) id=match par l id with|none=>[]|some p=>p::eR l k p:=by
 rw[eR,par]
 cases nK l id with
 |none=>rfl
 |some n=>simp only;by_cases h:n.parent= -1<;>simp[h]
theorem aBf(l:List Nd)(k j:Nat)(id:Int):eR l k id=(eR l (k+j) id).take k:=by
 induction k generalizing id with
 |zero=>rfl
 |succ k ih=>
  rw[Nat.succ_add,cQ,cQ]
  cases par l id with
  |none=>rfl
  |some p=>simp only[List.take_succ_cons];rw[←ih p]
def Wfr(l:List Nd):Prop:=∃r:Int→Nat,∀x p,par l x=some p→r p<r x
def aBg(l:List Nd):Nat→Int→List Int
 |0,_=>[]
 |k+1,id=>match par l id with|none=>[]|some p=>id::aBg l k p
theorem aGN(l:List Nd)(k:Nat)(id:Int):(aBg l k id).length=(eR l k id).length:=by
 induction k generalizing id with
 |zero=>rfl
 |succ k ih=>
  rw[cQ,aBg]
  cases par l id with
  |none=>rfl
  |some p=>simp only[List.length_cons,ih]
theorem aGO(l:List Nd)(k:Nat)(id:Int):∀x∈aBg l k id,x∈l.map Nd.id:=by
 induction k generalizing id with
 |zero=>intro x hx;cases hx
 |succ k ih=>
  intro x hx
  rw[aBg]at hx
  cases hp:par l id with
  |none=>rw[hp]at hx;cases hx
  |some p=>
   rw[hp]at hx
   rcases List.mem_cons.1 hx with rfl|hx
   ·unfold par at hp
    cases hf:nK l x with
    |none=>rw[hf]at hp;cases hp
    |some n=>
     have h1:=List.mem_of_find?_eq_some hf
     have h2:=List.find?_some hf
     exact List.mem_map.2 ⟨n,h1,by simpa using h2⟩
   ·exact ih p x hx
theorem aEs{l:List Nd}{r:Int→Nat}(hr:∀x p,par l x=some p→r p<r x)(k:Nat)(id:Int):(∀x∈aBg l k id,r x≤r id)∧(aBg l k id).Nodup:=by
 induction k generalizing id with
 |zero=>exact⟨fun x hx=>(by cases hx),List.nodup_nil⟩
 |succ k ih=>
  rw[aBg]
  cases hp:par l id with
  |none=>exact⟨fun x hx=>(by cases hx),List.nodup_nil⟩
  |some p=>
   obtain⟨h1,h2⟩:=ih p
   have h3:=hr id p hp
   refine⟨fun x hx=>?_,List.nodup_cons.2 ⟨fun hx=>?_,h2⟩⟩
   ·rcases List.mem_cons.1 hx with rfl|hx
    ·exact Nat.le_refl _
    ·have:=h1 x hx;omega
   ·have:=h1 id hx;omega
theorem aCF{l:List Nd}{r:Int→Nat}(hr:∀x p,par l x=some p→r p<r x)(k:Nat)(id:Int):∀x∈eR l k id,r x<r id:=by
 induction k generalizing id with
 |zero=>intro x hx;cases hx
 |succ k ih=>
  intro x hx
  rw[cQ]at hx
  cases hp:par l id with
  |none=>rw[hp]at hx;cases hx
  |some p=>
   rw[hp]at hx
   have h3:=hr id p hp
   rcases List.mem_cons.1 hx with rfl|hx
   ·exact h3
   ·have:=ih p x hx;omega
theorem aRg{xs ys:List Int}(hn:xs.Nodup)(hs:∀x∈xs,x∈ys):xs.length≤ys.length:=by
 induction xs generalizing ys with
 |nil=>exact Nat.zero_le _
 |cons x xs ih=>
  have hx:=hs x (by simp)
  have h:=ih (ys:=ys.erase x) (List.nodup_cons.1 hn).2 (fun z hz=>by
   have hne:z≠x:=fun e=>(List.nodup_cons.1 hn).1 (e▸hz)
   exact(List.mem_erase_of_ne hne).2 (hs z (by simp[hz])))
  have h1:=List.length_erase_of_mem hx
  have h2:=List.length_pos_of_mem hx
  rw[List.length_cons];omega
theorem yQ{l:List Nd}(h:Wfr l)(k:Nat)(id:Int):(eR l k id).length≤l.length:=by
 obtain⟨r,hr⟩:=h
 have:=aRg (aEs hr k id).2 (aGO l k id)
 rwa[aGN,List.length_map]at this
theorem kB{l:List Nd}(h:Wfr l){k:Nat}(hk:l.length≤k)(id:Int):eR l k id=cY l id:=by
 obtain⟨j,rfl⟩:∃j,k=l.length+j:=⟨k-l.length,by omega⟩
 rw[cY,aBf l l.length j id,List.take_of_length_le (yQ h _ _)]
theorem aCG(l:List Nd)(k:Nat)(id:Int):∀y∈id::eR l k id,∀p,par l y=some p→p∈eR l (k+1) id:=by
 induction k generalizing id with
 |zero=>
  intro y hy p hp
  simp only[eR,List.mem_cons,List.not_mem_nil,or_false]at hy
  subst hy
  rw[cQ,hp];simp
 |succ k ih=>
  intro y hy p hp
  rcases List.mem_cons.1 hy with rfl|hy
  ·rw[cQ,hp];simp
  ·rw[cQ]at hy
   rw[cQ]
   cases hq:par l id with
   |none=>rw[hq]at hy;cases hy
   |some q=>
    rw[hq]at hy
    exact List.mem_cons_of_mem _ (ih q y hy p hp)
theorem aAh{l:List Nd}(h:Wfr l)(id:Int):∀y∈id::cY l id,∀p,par l y=some p→p∈cY l id:=by
 intro y hy p hp
 have:=aCG l l.length id y hy p hp
 rwa[kB h (Nat.le_succ _)]at this
theorem aEt{l:List Nd}{C:Int→Prop}(hc:∀y,C y→∀p,par l y=some p→C p)(k:Nat)(id:Int)(hi:C id):∀x∈eR l k id,C x:=by
 induction k generalizing id with
 |zero=>intro x hx;cases hx
 |succ k ih=>
  intro x hx
  rw[cQ]at hx
  cases hp:par l id with
  |none=>rw[hp]at hx;cases hx
  |some p=>
   rw[hp]at hx
   have h3:=hc id hi p hp
   rcases List.mem_cons.1 hx with rfl|hx
   ·exact h3
   ·exact ih p h3 x hx
theorem aYi{l:List Nd}(h:Wfr l)(id:Int):id∉cY l id:=by
 obtain⟨r,hr⟩:=h
 intro hx
 have:=aCF hr _ _ _ hx
 omega
theorem aEu{l:List Nd}{o:Opn}(hs:chk l=true)(hr:cA l o=false)(hk:o.kind=2)(x:Int):par (kX l o) x=par l x:=by
 rw[par,par,kP hr,aAg hs,iR]
 by_cases hx:x=o.node
 ·rw[if_pos hx,oD hk,hx]
  simp only
  cases nK l o.node with
  |none=>rfl
  |some n=>rfl
 ·rw[if_neg hx]
theorem aGP{l:List Nd}{o:Opn}(hs:chk l=true)(hr:cA l o=false)(hk:o.kind=1)(hp:o.parent≠ -1)(x:Int):par (kX l o) x=if x=o.node then some o.parent else par l x:=by
 rw[par,kP hr,aAg hs,iR]
 by_cases hx:x=o.node
 ·rw[if_pos hx,if_pos hx,qT hk]
  simp only
  rw[if_neg hp]
 ·rw[if_neg hx,if_neg hx,par]
theorem aDr{o:Opn}(h:opOk o=true):o.kind=1∨o.kind=2:=by
 unfold opOk at h
 simp only[Bool.and_eq_true,Bool.or_eq_true,decide_eq_true_eq]at h
 exact h.1.1.1
theorem aDs{n:Int}(h:dirI n=true):n≠ -1:=by
 intro e;subst e;revert h;decide
theorem aGQ{o:Opn}(h:opOk o=true)(hk:o.kind=1):dirI o.parent=true:=by
 unfold opOk at h
 rw[if_pos hk]at h
 simp only[Bool.and_eq_true]at h
 have h2:=h.2
 unfold yD at h2
 simp only[Bool.and_eq_true]at h2
 exact h2.1.1.1.2
theorem aMf{l:List Nd}{o:Opn}(h:cA l o=false):chk l=true∧opOk o=true∧(o.kind=1→pM l o=false):=by
 unfold cA at h
 simp only[Bool.or_eq_false_iff,Bool.and_eq_false_iff,Bool.not_eq_false',decide_eq_false_iff_not]at h
 exact⟨h.1.1,h.1.2,fun hk=>h.2.resolve_left (fun q=>q hk)⟩
theorem aKh{l:List Nd}{o:Opn}(h:pM l o=false):o.node∉o.parent::cY l o.parent:=by
 unfold pM at h
 simp only[Bool.or_eq_false_iff,decide_eq_false_iff_not,List.any_eq_false,decide_eq_true_eq]at h
 intro hx
 rcases List.mem_cons.1 hx with e|hx
 ·exact h.1 e.symm
 ·exact h.2 _ hx rfl
theorem bCe{l:List Nd}(o:Opn)(hs:chk l=true)(h:Wfr l):Wfr (kX l o):=by
 cases hr:cA l o with
 |true=>rw[(aCE hr).1];exact h
 |false=>
  obtain⟨-,hok,hlo⟩:=aMf hr
  rcases aDr hok with hk|hk
  ·have hno:=aKh (hlo hk)
   have hpar:=aGP hs hr hk (aDs (aGQ hok hk))
   obtain⟨r,hr'⟩:=id h
   have hdesc:∀x p,x≠o.node→par l x=some p→(o.node∈x::cY l x↔o.node∈p::cY l p):=by
    intro x p hx hp
    have hcl:=aAh h x
    have hpx:p∈cY l x:=hcl x (by simp) p hp
    constructor
    ·intro hm
     rcases List.mem_cons.1 hm with e|hm
     ·exact absurd e.symm hx
     ·have hm2:o.node∈eR l (l.length+1) x:=by rw[kB h (Nat.le_succ _)];exact hm
      rw[cQ,hp]at hm2
      exact hm2
    ·intro hm
     refine List.mem_cons_of_mem _ ?_
     rcases List.mem_cons.1 hm with e|hm
     ·rw[e];exact hpx
     ·exact aEt (C:=fun y=>y∈cY l x) (fun y hy q hq=>hcl y (List.mem_cons_of_mem _ hy) q hq) _ p hpx _ hm
   refine⟨fun x=>if o.node∈x::cY l x then r x+r o.parent+1 else r x,fun x p hxp=>?_⟩
   rw[hpar]at hxp
   simp only
   by_cases hx:x=o.node
   ·rw[if_pos hx]at hxp
    cases hxp
    rw[if_neg hno,if_pos (by rw[hx];simp)];omega
   ·rw[if_neg hx]at hxp
    have h1:=hdesc x p hx hxp
    have h2:=hr' x p hxp
    by_cases hd:o.node∈x::cY l x
    ·rw[if_pos hd,if_pos (h1.1 hd)];omega
    ·rw[if_neg hd,if_neg (fun q=>hd (h1.2 q))];exact h2
  ·obtain⟨r,hr'⟩:=h
   exact⟨r,fun x p hp=>hr' x p (by rw[aEu hs hr hk]at hp;exact hp)⟩
structure Frs (l:List Nd):Prop where
 chk:chk l=true
 wf:Wfr l
 dir:∀n∈l,n.parent= -1∨dirI n.parent=true
theorem aKi:Frs []:=⟨rfl,⟨fun _=>0,fun x p h=>by cases h⟩,fun n h=>by cases h⟩
theorem aDt{l:List Nd}{n x:Nd}(h:x∈sD l n):x=n∨x∈l:=by
 rw[sD,lF,List.append_assoc,List.mem_append]at h
 rcases h with h|h
 ·exact .inr (List.mem_of_mem_take h)
 ·rcases List.mem_append.1 h with h|h
  ·rw[List.mem_singleton]at h;exact .inl h
  ·exact .inr (List.mem_of_mem_drop h)
theorem aRh{l:List Nd}(o:Opn)(h:Frs l):Frs (kX l o):=by
 refine⟨aCD o h.chk,bCe o h.chk h.wf,?_⟩
 cases hr:cA l o with
 |true=>rw[(aCE hr).1];exact h.dir
 |false=>
  obtain⟨-,hok, -⟩:=aMf hr
  intro n hn
  rw[kP hr]at hn
  rcases aDt hn with rfl|hn
  ·rcases aDr hok with hk|hk
   ·rw[qT hk];exact .inr (aGQ hok hk)
   ·rw[oD hk]
    simp only
    cases hf:nK l o.node with
    |none=>exact .inl rfl
    |some m=>exact h.dir m (List.mem_of_find?_eq_some hf)
  ·exact h.dir n hn
theorem aEv(s:List Opn){l:List Nd}(h:Frs l):Frs (s.foldl kX l):=by
 induction s generalizing l with
 |nil=>exact h
 |cons o s ih=>exact ih (aRh o h)
theorem aKj{l:List Nd}(hs:chk l=true){n:Nd}(hn:n∈l):nK l n.id=some n:=by
 have hp:=((nJ l).1 hs).2
 cases h:nK l n.id with
 |none=>
  have:=List.find?_eq_none.1 h n hn
  simp at this
 |some m=>
  have h1:=List.mem_of_find?_eq_some h
  have h2:m.id=n.id:=by have:=List.find?_some h;simpa using this
  obtain⟨i,hi,rfl⟩:=List.getElem_of_mem h1
  obtain⟨j,hj,rfl⟩:=List.getElem_of_mem hn
  rcases Nat.lt_trichotomy i j with q|q|q
  ·have:=List.pairwise_iff_getElem.1 hp i j hi hj q;omega
  ·subst q;rfl
  ·have:=List.pairwise_iff_getElem.1 hp j i hj hi q;omega
end Go.Gw
/- What is seen below a directory, of nodes that form a forest: how deep, how much; in plain Lean. No condition. -/
namespace Go.Gw
open Go Go.Aw Go.Proofs.YthhdnjiodklmmaaGreatDoor
theorem aCH{s:Txt}{n:Nd}(hn:n.name=s){m:List (Txt×Nd)}(h:∀p∈m,p.2.name=p.1):∀p∈jA s n m,p.2.name=p.1:=by
 induction m with
 |nil=>
  intro p hp
  simp only[jA,List.mem_singleton]at hp
  subst hp;exact hn
 |cons q m ih=>
  intro p hp
  obtain⟨k,x⟩:=q
  unfold jA at hp
  split at hp
  ·rcases List.mem_cons.1 hp with rfl|hp
   ·exact hn
   ·exact h p (List.mem_cons_of_mem _ hp)
  ·rcases List.mem_cons.1 hp with rfl|hp
   ·exact h (k,x) (by simp)
   ·exact ih (fun p hp=>h p (List.mem_cons_of_mem _ hp)) p hp
theorem aEw(s:Txt)(n:Nd)(m:List (Txt×Nd)):((jA s n m).map (·.1))=if s∈m.map (·.1)then m.map (·.1)else m.map (·.1)++[s]:=by
 induction m with
 |nil=>rfl
 |cons q m ih=>
  obtain⟨k,x⟩:=q
  unfold jA
  by_cases h:k=s
  ·subst h;simp
  ·rw[if_neg h,List.map_cons,ih]
   have h':¬s=k:=fun e=>h e.symm
   by_cases hs:s∈m.map (·.1)
   ·rw[if_pos hs,if_pos (by rw[List.map_cons];exact List.mem_cons_of_mem _ hs)];rfl
   ·rw[if_neg hs,if_neg (by rw[List.map_cons,List.mem_cons];rintro(e|e);exact h' e;exact hs e)];rfl
theorem aCI{s:Txt}{n:Nd}{m:List (Txt×Nd)}(h:(m.map (·.1)).Nodup):((jA s n m).map (·.1)).Nodup:=by
 rw[aEw]
 split
 ·exact h
 ·rename_i hs
  rw[List.nodup_append]
  exact⟨h,by simp,fun a ha b hb e=>by rw[List.mem_singleton]at hb;subst hb;subst e;exact hs ha⟩
theorem aGR{m:List (Txt×Nd)}(n:Nd)(h:(m.map (·.1)).Nodup∧∀p∈m,p.2.name=p.1):((zM m n).map (·.1)).Nodup∧∀p∈zM m n,p.2.name=p.1:=by
 have hs:((jA n.name n m).map (·.1)).Nodup∧∀p∈jA n.name n m,p.2.name=p.1:=⟨aCI h.1,aCH rfl h.2⟩
 unfold zM
 split
 ·exact hs
 ·split
  ·exact h
  ·exact hs
theorem nP(l:List Nd)(dir:Int):((dS l dir).map (·.1)).Nodup∧∀p∈dS l dir,p.2.name=p.1:=by
 suffices h:∀(k:List Nd) (m:List (Txt×Nd)),((m.map (·.1)).Nodup∧∀p∈m,p.2.name=p.1)→((k.foldl (rX dir) m).map (·.1)).Nodup∧∀p∈k.foldl (rX dir) m,p.2.name=p.1 from
  h l [] ⟨List.nodup_nil,fun p hp=>by cases hp⟩
 intro k
 induction k with
 |nil=>exact fun m h=>h
 |cons x k ih=>
  intro m h
  refine ih _ ?_
  unfold rX
  split
  ·exact aGR x h
  ·exact h
theorem aGS{s:Txt}{n:Nd}{m:List (Txt×Nd)}(hn:(m.map (·.1)).Nodup)(h:(s,n)∈m):fS s m=some n:=by
 induction m with
 |nil=>cases h
 |cons q m ih=>
  obtain⟨k,x⟩:=q
  rw[List.map_cons,List.nodup_cons]at hn
  unfold fS
  by_cases hk:k=s
  ·subst hk
   rcases List.mem_cons.1 h with e|h
   ·cases e;rw[if_pos rfl]
   ·exact absurd (List.mem_map.2 ⟨(k,n),h,rfl⟩) hn.1
  ·rw[if_neg hk]
   rcases List.mem_cons.1 h with e|h
   ·cases e;exact absurd rfl hk
   ·exact ih hn.2 h
theorem aGT{s:Txt}{n:Nd}{m:List (Txt×Nd)}(h:fS s m=some n):(s,n)∈m:=by
 induction m with
 |nil=>cases h
 |cons q m ih=>
  obtain⟨k,x⟩:=q
  unfold fS at h
  split at h
  ·rename_i hk;cases h;subst hk;simp
  ·exact List.mem_cons_of_mem _ (ih h)
theorem wH{m:List (Txt×Nd)}(hn:(m.map (·.1)).Nodup)(p:Txt×Nd→Bool):((m.filter p).map (·.1)).Nodup:=
 List.Nodup.sublist (List.Sublist.map _ List.filter_sublist) hn
def dep(l:List Nd)(x:Int):Nat:=(cY l x).length
theorem sF{l:List Nd}(h:Wfr l){x p:Int}(hp:par l x=some p):cY l x=p::cY l p:=by
 rw[←kB h (Nat.le_succ _) x,cQ,hp];rfl
theorem uC{l:List Nd}(h:Wfr l){x p:Int}(hp:par l x=some p):dep l x=dep l p+1:=by
 rw[dep,sF h hp];rfl
theorem aCJ{l:List Nd}(h:Wfr l)(x:Int):dep l x≤l.length:=yQ h _ _
theorem aGU{l:List Nd}(h:Wfr l):∀(j:Nat) {q w:Int},dep l q=j→w∈cY l q→dep l w<dep l q:=by
 intro j
 induction j with
 |zero=>intro q w hj hw;unfold dep at hj;rw[List.eq_nil_of_length_eq_zero hj]at hw;cases hw
 |succ j ihj=>
  intro q w hj hw
  cases hq:par l q with
  |none=>
   have:cY l q=[]:=by rw[←kB h (Nat.le_succ _) q,cQ,hq]
   rw[this]at hw;cases hw
  |some r=>
   have hd:=uC h hq
   rw[sF h hq]at hw
   rcases List.mem_cons.1 hw with rfl|hw
   ·omega
   ·have:=ihj (by omega) hw;omega
theorem bDz{l:List Nd}(h:Wfr l):∀(k:Nat) {x y z:Int},dep l x=k→y∈cY l x→z∈cY l x→dep l y=dep l z→y=z:=by
 intro k
 induction k with
 |zero=>intro x y z hk hy;unfold dep at hk;rw[List.eq_nil_of_length_eq_zero hk]at hy;cases hy
 |succ k ih=>
  intro x y z hk hy hz he
  cases hp:par l x with
  |none=>
   have:cY l x=[]:=by rw[←kB h (Nat.le_succ _) x,cQ,hp]
   rw[this]at hy;cases hy
  |some p=>
   have e:=sF h hp
   have hkp:dep l p=k:=by have:=uC h hp;omega
   have lt:∀{w:Int},w∈cY l p→dep l w<dep l p:=fun hw=>aGU h _ rfl hw
   rw[e]at hy hz
   rcases List.mem_cons.1 hy with rfl|hy<;>rcases List.mem_cons.1 hz with rfl|hz
   ·rfl
   ·have:=lt hz;omega
   ·have:=lt hy;omega
   ·exact ih hkp hy hz he
theorem aBh{l:List Nd}(hc:chk l=true){dir:Int}(hd:dirI dir=true){s:Txt}{n:Nd}(h:(s,n)∈dS l dir):par l n.id=some dir∧n∈l∧nK l n.id=some n:=by
 obtain⟨h1,h2⟩:=yO l dir _ h
 have hf:=aKj hc h1
 simp only at h1 h2 hf
 unfold inD at h2
 rw[Bool.and_eq_true,decide_eq_true_eq]at h2
 refine⟨?_,h1,hf⟩
 rw[par,hf]
 simp only
 rw[if_neg (by rw[h2.1];exact aDs hd),h2.1]
theorem yR{l:List Nd}{dir:Int}{s:Txt}{n:Nd}(h:fS s (dS l dir)=some n):(s,n)∈dS l dir:=aGT h
def aAi(l:List Nd)(out:List Int)(dir:Int):List Txt:=mY (((dS l dir).filter fun p=> !out.contains p.2.id).map (·.1))
theorem aBi{l:List Nd}(hc:chk l=true)(h:Wfr l)(out:List Int):∀(k j:Nat) (dir:Int) (path:Txt),dirI dir=true→l.length<k+dep l dir→l.length<j+dep l dir→iQ l out k dir path=iQ l out j dir path:=by
 intro k
 induction k with
 |zero=>intro j dir path _ hk;have:=aCJ h dir;omega
 |succ k ih=>
  intro j dir path hd hk hj
  cases j with
  |zero=>have:=aCJ h dir;omega
  |succ j=>
   rw[iQ,iQ]
   congr 1
   funext s
   cases hl:fS s (dS l dir)with
   |none=>rfl
   |some n=>
    have hp:=(aBh hc hd (yR hl)).1
    have hdp:=uC h hp
    simp only
    by_cases hdn:dirI n.id=true
    ·rw[if_pos hdn,if_pos hdn,ih j n.id _ hdn (by omega) (by omega)]
    ·rw[if_neg hdn,if_neg hdn]
def blw(l:List Nd)(out:List Int)(dir:Int)(path:Txt):List Itm:=iQ l out (l.length+1) dir path
def aGV(l:List Nd)(out:List Int)(dir:Int)(path:Txt)(s:Txt):List Itm:=match fS s (dS l dir)with
 |some n=>⟨path++(47::s),n.id,n.data⟩::(if dirI n.id=true then blw l out n.id (path++(47::s))else[])
 |none=>[]
theorem aGW{l:List Nd}(hc:chk l=true)(h:Wfr l)(out:List Int){dir:Int}(hd:dirI dir=true)(path:Txt):blw l out dir path=(aAi l out dir).flatMap (aGV l out dir path):=by
 rw[blw,iQ]
 unfold aAi
 congr 1
 funext s
 unfold aGV
 cases hl:fS s (dS l dir)with
 |none=>rfl
 |some n=>
  have hp:=(aBh hc hd (yR hl)).1
  have hdp:=uC h hp
  simp only
  by_cases hdn:dirI n.id=true
  ·rw[if_pos hdn,if_pos hdn,blw,aBi hc h out l.length (l.length+1) n.id _ hdn (by omega) (by omega)]
  ·rw[if_neg hdn,if_neg hdn]
theorem aRi{l:List Nd}{out:List Int}{dir:Int}{s:Txt}(h:s∈aAi l out dir):∃n,fS s (dS l dir)=some n∧(s,n)∈dS l dir∧out.contains n.id=false:=by
 have h1:=(kA _).mem_iff.1 h
 obtain⟨p,hp,rfl⟩:=List.mem_map.1 h1
 obtain⟨h2,h3⟩:=List.mem_filter.1 hp
 exact⟨p.2,aGS (nP l dir).1 h2,h2,by simpa using h3⟩
theorem aKk(l:List Nd)(out:List Int)(dir:Int):(aAi l out dir).Nodup:=(kA _).nodup_iff.2 (wH (nP l dir).1 _)
theorem bDA{l:List Nd}(hc:chk l=true)(h:Wfr l)(out:List Int):∀(k:Nat) (dir:Int) (path:Txt),dirI dir=true→l.length<k+dep l dir→
  ((blw l out dir path).map (·.id)).Nodup∧∀x∈(blw l out dir path).map (·.id),x∈l.map Nd.id∧dir∈cY l x:=by
 intro k
 induction k with
 |zero=>intro dir path _ hk;have:=aCJ h dir;omega
 |succ k ih=>
  intro dir path hd hk
  rw[aGW hc h out hd]
  -- the piece of one name
  have piece:∀s∈aAi l out dir,∃n,(s,n)∈dS l dir∧((aGV l out dir path s).map (·.id)).Nodup∧
    ∀x∈(aGV l out dir path s).map (·.id),x∈l.map Nd.id∧dir∈cY l x∧(x=n.id∨n.id∈cY l x):=by
   intro s hs
   obtain⟨n,hl,hm,_⟩:=aRi hs
   obtain⟨hp,hnl,_⟩:=aBh hc hd hm
   have hdp:=uC h hp
   have hin:n.id∈l.map Nd.id:=List.mem_map.2 ⟨n,hnl,rfl⟩
   have hab:dir∈cY l n.id:=by rw[sF h hp];simp
   refine⟨n,hm,?_⟩
   unfold aGV
   rw[hl]
   simp only
   by_cases hdn:dirI n.id=true
   ·rw[if_pos hdn]
    obtain⟨i1,i2⟩:=ih n.id (path++(47::s)) hdn (by omega)
    refine⟨?_,fun x hx=>?_⟩
    ·rw[List.map_cons,List.nodup_cons]
     refine⟨fun hx=>?_,i1⟩
     exact aYi h _ (i2 _ hx).2
    ·rw[List.map_cons,List.mem_cons]at hx
     rcases hx with rfl|hx
     ·exact⟨hin,hab,.inl rfl⟩
     ·obtain⟨j1,j2⟩:=i2 x hx
      have:dir∈cY l x:=aAh h x n.id (List.mem_cons_of_mem _ j2) dir hp
      exact⟨j1,this,.inr j2⟩
   ·rw[if_neg hdn]
    exact⟨by simp,fun x hx=>by simp only[List.map_cons,List.map_nil,List.mem_singleton]at hx;subst hx;exact⟨hin,hab,.inl rfl⟩⟩
  have disj:∀s∈aAi l out dir,∀t∈aAi l out dir,s≠t→∀x∈(aGV l out dir path s).map (·.id),x∉(aGV l out dir path t).map (·.id):=by
   intro s hs t ht hne x hx hy
   obtain⟨n,hm, -,k1⟩:=piece s hs
   obtain⟨m,hm', -,k2⟩:=piece t ht
   obtain⟨-, -,q1⟩:=k1 x hx
   obtain⟨-, -,q2⟩:=k2 x hy
   obtain⟨p1,l1,f1⟩:=aBh hc hd hm
   obtain⟨p2,l2,f2⟩:=aBh hc hd hm'
   have d1:=uC h p1
   have d2:=uC h p2
   have hid:n.id≠m.id:=fun e=>by
    rw[e,f2]at f1
    cases f1
    have a:=(nP l dir).2 _ hm
    have b:=(nP l dir).2 _ hm'
    exact hne (a.symm.trans b)
   rcases q1 with rfl|q1<;>rcases q2 with e2|q2
   ·exact hid e2
   ·have:=aGU h _ rfl q2;omega
   ·subst e2;have:=aGU h _ rfl q1;omega
   ·exact hid (bDz h _ rfl q1 q2 (by omega))
  refine⟨?_,fun x hx=>?_⟩
  ·rw[List.map_flatMap]
   rw[List.nodup_iff_pairwise_ne,List.pairwise_flatMap]
   refine⟨fun s hs=>?_,?_⟩
   ·obtain⟨_,_,k1,_⟩:=piece s hs;exact k1
   ·have hnd:=aKk l out dir
    rw[List.nodup_iff_pairwise_ne]at hnd
    exact(List.Pairwise.and_mem.1 hnd).imp fun{s t} ⟨hs,ht,hne⟩ x hx y hy e=>by subst e;exact disj s hs t ht hne x hx hy
  ·rw[List.map_flatMap,List.mem_flatMap]at hx
   obtain⟨s,hs,hx⟩:=hx
   obtain⟨_,_,_,k1⟩:=piece s hs
   exact⟨(k1 x hx).1,(k1 x hx).2.1⟩
theorem bDB{l:List Nd}(hc:chk l=true)(h:Wfr l)(out:List Int)(dir:Int)(path:Txt)(hd:dirI dir=true):(blw l out dir path).length≤l.length:=by
 obtain⟨h1,h2⟩:=bDA hc h out (l.length+1) dir path hd (by omega)
 have:=aRg h1 (fun x hx=>(h2 x hx).1)
 simpa using this
end Go.Gw
/- What holds of a replica, call by call, in plain Lean. No condition. -/
namespace Go.Gw
open Go Go.Aw Go.Proofs.YthhdnjiodklmmaaGreatDoor
theorem enc_len(l:List Int):(l.flatMap Lib.encodeRune).length≤4 * l.length:=by
 induction l with
 |nil=>simp
 |cons x l ih=>
  have:=(Lib.encodeRuneZ_length x).2
  have e:(Lib.encodeRune x).length=(Lib.encodeRuneZ x).length:=by simp[Lib.encodeRune]
  rw[List.flatMap_cons,List.length_append,List.length_cons]
  omega
theorem nameOk_len{s:Txt}(h:jX s=true):s.length≤80:=by
 unfold jX at h
 cases hs:lE s with
 |none=>rw[hs]at h;simp at h
 |some l=>
  rw[hs]at h
  have e:=(kN hs).1
  have:=enc_len l
  rw[←e]at this
  have hl:l.length≤20:=by
   simp only at h
   have hA:(decide ((l.length:Int)<1)||decide (20<(l.length:Int))||decide (s=[46])||decide (s=[46,46]))=false:=by
    cases hA:(decide ((l.length:Int)<1)||decide (20<(l.length:Int))||decide (s=[46])||decide (s=[46,46]))with
    |false=>rfl
    |true=>rw[hA]at h;cases h
   simp only[Bool.or_eq_false_iff,decide_eq_false_iff_not]at hA
   omega
  omega
theorem opOk_name{o:Opn}(h:opOk o=true):o.name.length≤80∧o.data.length≤64:=by
 unfold opOk at h
 simp only[Bool.and_eq_true]at h
 obtain⟨⟨⟨h1,h2⟩,h3⟩,h4⟩:=h
 split at h4
 ·unfold yD at h4
  simp only[Bool.and_eq_true,decide_eq_true_eq]at h4
  exact⟨nameOk_len h4.1.2,by rw[h4.2];simp⟩
 ·unfold aC8 at h4
  simp only[Bool.and_eq_true,decide_eq_true_eq]at h4
  refine⟨by rw[h4.2];simp,?_⟩
  have:=h4.1.1.2
  omega
theorem aGX{o:Opn}(h:opOk o=true):OpS o:=⟨by have:=(opOk_name h).1;omega,by have:=(opOk_name h).2;omega⟩
theorem redo_fold'(l:List Opn)(es:List Ent)(n:List Nd):(dP l es n).2=l.foldl kX n:=by
 induction l generalizing es n with
 |nil=>rfl
 |cons o l ih=>rw[dP,ih];rfl
theorem aCK{g:Lg}(h:Good g):g.nodes=(opsG g).foldl kX []:=by
 have e:=h.log
 have:(logOf (opsG g)).nodes=(opsG g).foldl kX []:=redo_fold' _ _ _
 rw[←e]at this
 exact this
structure NdI (q:Int) (n:Nd):Prop where
 name:n.name.length≤80
 data:n.data.length≤64
 id:oA n.id≤q
 par:oA n.parent≤q
theorem later_oA{a b n:Int}(h:aCo a b n=false)(ha:0≤a):oA n≤a:=by
 unfold aCo at h
 cases ho:iZ n with
 |false=>unfold oA;rw[ho];simpa using ha
 |true=>
  rw[ho,Bool.true_and]at h
  have:¬vM a b (oA n) (oB n)=true:=by rw[h];simp
  rw[aC5]at this
  omega
theorem oA_m1:oA (-1)=0:=by decide
theorem oA_2:oA 2=0:=by decide
theorem oA_0:oA 0=0:=by decide
theorem aRj{o:Opn}(h:opOk o=true):1≤o.at_.c∧o.at_.c≤1048576∧0≤o.at_.r∧o.at_.r≤63∧oA o.node≤o.at_.c∧oA o.parent≤o.at_.c∧iZ o.node=true∧(o.kind=1∨o.kind=2):=by
 have hk:=aDr h
 unfold opOk at h
 simp only[Bool.and_eq_true,Bool.not_eq_true']at h
 obtain⟨⟨⟨h1,h2⟩,h3⟩,h4⟩:=h
 rw[aAM]at h2
 refine⟨h2.1,h2.2.1,h2.2.2.1,h2.2.2.2,later_oA h3 (by omega),?_,?_,hk⟩
 ·split at h4
  ·unfold yD at h4
   simp only[Bool.and_eq_true,Bool.not_eq_true']at h4
   exact later_oA h4.1.1.2 (by omega)
  ·unfold aC8 at h4
   simp only[Bool.and_eq_true,decide_eq_true_eq]at h4
   rw[h4.1.2,oA_0];omega
 ·split at h4
  ·unfold yD at h4
   simp only[Bool.and_eq_true]at h4
   exact h4.1.1.1.1
  ·unfold aC8 at h4
   simp only[Bool.and_eq_true]at h4
   exact h4.1.1.1.1
theorem bEz{l:List Nd}{x:Int}{n:Nd}(h:nK l x=some n):n∈l∧n.id=x:=by
 unfold nK at h
 exact⟨List.mem_of_find?_eq_some h,by simpa using List.find?_some h⟩
theorem ndi_do{q:Int}{l:List Nd}{o:Opn}(h:∀n∈l,NdI q n)(ho:opOk o=true)(hq:o.at_.c≤q):∀n∈kX l o,NdI q n:=by
 cases hr:cA l o with
 |true=>intro n hn;rw[kX,if_pos hr]at hn;exact h n hn
 |false=>
  rw[kP hr]
  obtain⟨p1, -, -, -,p5,p6, -,hk⟩:=aRj ho
  obtain⟨s1,s2⟩:=opOk_name ho
  have hw:NdI q (fA l o):=by
   unfold fA
   split
   ·rename_i n hf;exact h n (bEz hf).1
   ·exact⟨by simp[nd0],by simp[nd0],by simp only;omega,by rw[oA_m1];omega⟩
  intro n hn
  rcases aDt hn with rfl|hn
  ·unfold cJ
   have hid:(fA l o).id=o.node:=by
    have:=iR l o
    unfold cJ at this
    split at this<;>exact this
   split
   ·exact⟨s1,hw.data,hw.id,by simp only;omega⟩
   ·exact⟨hw.name,s2,hw.id,hw.par⟩
  ·exact h n hn
theorem aYk{q:Int}(s:List Opn){l:List Nd}(h:∀n∈l,NdI q n)(hs:∀o∈s,opOk o=true∧o.at_.c≤q):∀n∈s.foldl kX l,NdI q n:=by
 induction s generalizing l with
 |nil=>exact h
 |cons o s ih=>exact ih (ndi_do h (hs o (by simp)).1 (hs o (by simp)).2)fun o ho=>hs o (List.mem_cons_of_mem _ ho)
theorem aRk(l:List Opn)(n:List Nd):(l.foldl kX n).length≤n.length+l.length:=by
 induction l generalizing n with
 |nil=>exact Nat.le_refl _
 |cons o l ih=>have:=ih (kX n o);have:=aDd n o;simp only[List.foldl_cons,List.length_cons];omega
structure NsI (q:Int) (l:List Nd):Prop where
 frs:Frs l
 len:l.length≤200
 nd:∀n∈l,NdI q n
theorem NsI.up{q r:Int}{l:List Nd}(h:NsI q l)(hq:q≤r):NsI r l:=⟨h.frs,h.len,fun n hn=>⟨(h.nd n hn).name,(h.nd n hn).data,Int.le_trans (h.nd n hn).id hq,Int.le_trans (h.nd n hn).par hq⟩⟩
structure MI (m:Mdl):Prop where
 good:Good m.log
 cap:m.log.entries.length≤200
 cnt:∀o∈opsG m.log,o.at_.c≤m.seen
 seen:0≤m.seen
 rep:0≤m.rep∧m.rep≤63
 snaps:m.snaps.length≤8
 snap:∀s∈m.snaps,NsI m.seen s.nodes
 watches:m.watches.length≤8
 watch:∀w∈m.watches,dirI w.dir=true∧w.evs.length≤9∧(w.over=false→w.evs.length≤8)
theorem MI.ops_len{m:Mdl}(h:MI m):(opsG m.log).length≤200:=by rw[opsG,List.length_map];exact h.cap
theorem MI.nodes{m:Mdl}(h:MI m):NsI m.seen m.log.nodes:=by
 rw[aCK h.good]
 refine⟨aEv _ aKi,?_,aYk _ (fun n hn=>by cases hn)fun o ho=>⟨h.good.ok o ho,h.cnt o ho⟩⟩
 have:=aRk (opsG m.log) []
 have:=h.ops_len
 simp only[List.length_nil]at *
 omega
theorem nA{r:Int}{m:Mdl}(h:wC r=(m,0)):MI m:=by
 unfold wC at h
 split at h
 ·rename_i hr
  cases h
  exact⟨bCc,by simp[md0],by simp[opsG,md0],Int.le_refl _,hr,by simp[md0],by simp[md0],by simp[md0],by simp[md0]⟩
 ·cases h
theorem path_mem(l:List Nd):∀(names:List Txt) (x d:Int),aAQ l x names=(d,0)→(names=[]∧d=x)∨∃n∈l,n.id=d:=by
 intro names
 induction names with
 |nil=>intro x d h;cases h;exact .inl ⟨rfl,rfl⟩
 |cons s names ih=>
  intro x d h
  rw[aAQ]at h
  split at h
  ·cases hc:childN l x s with
   |none=>rw[hc]at h;cases h
   |some n=>
    rw[hc]at h
    rcases ih n.id d h with⟨-,rfl⟩|h
    ·exact .inr ⟨n,(aYh hc).2.1,rfl⟩
    ·exact .inr h
  ·cases h
theorem find_mem{l:List Nd}{names:List Txt}{d:Int}(h:sZ l names=(d,0)):(names=[]∧d=0)∨∃n∈l,n.id=d:=path_mem l names 0 d h
theorem at_mem{l:List Nd}{p:Txt}{d:Int}(h:atN l p=(d,0)):∃ns,fZ p=some ns∧((ns=[]∧d=0)∨∃n∈l,n.id=d):=by
 unfold atN at h
 cases hn:fZ p with
 |none=>rw[hn]at h;cases h
 |some ns=>rw[hn]at h;exact⟨ns,rfl,find_mem h⟩
theorem find_oA{q:Int}{l:List Nd}{ns:List Txt}{d:Int}(hl:NsI q l)(hq:0≤q)(h:sZ l ns=(d,0)):oA d≤q:=by
 rcases find_mem h with⟨-,rfl⟩|⟨n,hn,rfl⟩
 ·rw[oA_0];exact hq
 ·exact(hl.nd n hn).id
theorem names_ok{p:Txt}{l:List Txt}(h:fZ p=some l):∀s∈l,jX s=true:=by
 unfold fZ at h
 split at h
 ·cases h;intro s hs;cases hs
 ·split at h
  ·cases h
  ·split at h
   ·split at h
    ·rename_i hf
     cases h
     simp only[aA1,Bool.and_eq_true,List.all_eq_true]at hf
     exact hf.2
    ·cases h
   ·cases h
theorem abv_of{q:Int}{l:List Nd}{p:Txt}{d:Int}{s:Txt}(hl:NsI q l)(hq:0≤q)(h:abvN l p=(d,s,0)):dirI d=true∧oA d≤q∧jX s=true:=by
 unfold abvN at h
 split at h
 ·cases h
 ·cases h
 ·rename_i x xs hn
  split at h
  ·rename_i h0
   split at h
   ·rename_i hd
    cases h
    refine⟨hd,find_oA hl hq (show sZ l (x::xs).dropLast=((sZ l (x::xs).dropLast).1,0)by rw[←h0]),?_⟩
    exact names_ok hn _ (List.getLast_mem _)
   ·cases h
  ·rename_i h0;exact absurd (congrArg (fun z=>z.2.2) h) h0
end Go.Gw
/- A call leaves a replica of which all is known ars such a one; what is made may be. In plain Lean. No condition. -/
namespace Go.Gw
open Go Go.Aw Go.Proofs.YthhdnjiodklmmaaGreatDoor
theorem next_ok{m:Mdl}{s:Stm}(h:nextD m=(s,0)):lZ m.seen m.rep=true∧m.log.entries.length<200∧s=⟨m.seen+1,m.rep⟩:=by
 unfold nextD at h
 split at h
 ·cases h
 ·rename_i h1
  split at h
  ·cases h
  ·rename_i h2
   cases h
   exact⟨by simpa using h1,by omega,rfl⟩
def putM(m:Mdl)(o:Opn):Mdl:={m with log:=fB m.log o,seen:=m.seen+1}
theorem put_ok{d:Dsk}(h:MI d.m){o:Opn}(hn:(nextD d.m).2=0)(ho:opOk {o with at_:=⟨d.m.seen+1,d.m.rep⟩}=true):
  vY d o=(0,{d with m:=putM d.m {o with at_:=⟨d.m.seen+1,d.m.rep⟩},ops:=d.ops++[{o with at_:=⟨d.m.seen+1,d.m.rep⟩}]}):=by
 obtain⟨s,hs⟩:∃s,nextD d.m=(s,0):=⟨_,by rw[←hn]⟩
 obtain⟨h1,h2,rfl⟩:=next_ok hs
 have ha:xE d.m.log {o with at_:=⟨d.m.seen+1,d.m.rep⟩}=0:=by
  unfold xE
  rw[if_neg (by rw[ho];simp)]
  split
  ·rfl
  ·rw[if_neg (by omega)]
 unfold vY
 simp only[hs,if_true]
 unfold nT
 rw[ha]
 rfl
theorem put_err{d:Dsk}{o:Opn}(hn:(nextD d.m).2≠0):vY d o=((nextD d.m).2,d):=by
 unfold vY
 rw[if_neg hn]
theorem bDC{m:Mdl}(hn:(nextD m).2=0):(nextD m).1=⟨m.seen+1,m.rep⟩∧0≤m.seen∧m.seen<1048576∧0≤m.rep∧m.rep≤63∧m.log.entries.length<200:=by
 obtain⟨s,hs⟩:∃s,nextD m=(s,0):=⟨_,by rw[←hn]⟩
 obtain⟨h1,h2,rfl⟩:=next_ok hs
 rw[qQ]at h1
 exact⟨by rw[hs],h1.1,h1.2.1,h1.2.2.1,h1.2.2.2,h2⟩
theorem oA_id{a b:Int}{d:Bool}(h1:1≤a)(h2:a≤1048576)(h3:0≤b)(h4:b≤63):iZ (idI a b d)=true∧oA (idI a b d)=a∧oB (idI a b d)=b∧oC (idI a b d)=d:=by
 have hk:okI a b=true:=by rw[aAM];exact⟨h1,h2,h3,h4⟩
 have e:idI a b d=128 * a+2 * b+(if d then 1 else 0):=by rw[idI,if_pos hk]
 have ho:iZ (idI a b d)=true:=by rw[e,aF5];cases d<;>simp<;>omega
 refine⟨ho,?_,?_,?_⟩
 ·rw[oA,if_pos ho,e];cases d<;>simp<;>omega
 ·rw[oB,if_pos ho,e];cases d<;>simp<;>omega
 ·rw[oC,ho,e];cases d<;>simp<;>omega
theorem later_no{a b n:Int}(h:oA n<a):aCo a b n=false:=by
 unfold aCo
 cases iZ n with
 |false=>rfl
 |true=>
  rw[Bool.true_and,Bool.eq_false_iff,Ne,aC5]
  omega
theorem later_eq{a b n:Int}(h1:oA n=a)(h2:oB n=b):aCo a b n=false:=by
 unfold aCo
 rw[h1,h2]
 cases iZ n with
 |false=>rfl
 |true=>
  rw[Bool.true_and,Bool.eq_false_iff,Ne,aC5]
  omega
theorem ok_move{a b n p:Int}{s:Txt}(h1:1≤a)(h2:a≤1048576)(h3:0≤b)(h4:b≤63)(hn:iZ n=true)(hl:aCo a b n=false)(hp:dirI p=true)(hpl:oA p<a)(hs:jX s=true):opOk ⟨⟨a,b⟩,1,n,p,s,[]⟩=true:=by
 unfold opOk
 have hk:okI a b=true:=by rw[aAM];exact⟨h1,h2,h3,h4⟩
 simp only[hk,hl]
 unfold yD
 simp[hn,hp,hs,later_no hpl]
theorem ok_write{a b n:Int}{t:Txt}(h1:1≤a)(h2:a≤1048576)(h3:0≤b)(h4:b≤63)(hn:iZ n=true)(hc:oC n=true)(hl:aCo a b n=false)(ht:t.length≤64):opOk ⟨⟨a,b⟩,2,n,0,[],t⟩=true:=by
 unfold opOk
 have hk:okI a b=true:=by rw[aAM];exact⟨h1,h2,h3,h4⟩
 simp only[hk,hl]
 unfold aC8
 simp only[hn,hc]
 simp
 omega
theorem ins_mem{g:Lg}(hg:Good g)(o:Opn):∀x∈opsG (fB g o),x=o∨x∈opsG g:=by
 intro x hx
 rcases(aBe hg o).2 with⟨e, -, -⟩|⟨e, -, -⟩
 ·rw[e]at hx;exact .inr hx
 ·rw[e]at hx;exact uB.1 hx
theorem mi_put{m:Mdl}(h:MI m){o:Opn}(ho:o.at_.c≤m.seen+1)(hlt:m.log.entries.length<200):MI (putM m o)where
 good:=(aBe h.good o).1
 cap:=by have:=(aGC m.log o).1;unfold putM;simp only;omega
 cnt:=fun x hx=>by
  rcases ins_mem h.good o x hx with rfl|hx
  ·exact ho
  ·exact Int.le_trans (h.cnt x hx) (by show m.seen≤m.seen+1;omega)
 seen:=by have:=h.seen;show 0≤m.seen+1;omega
 rep:=h.rep
 snaps:=h.snaps
 snap:=fun s hs=>(h.snap s hs).up (by show m.seen≤m.seen+1;omega)
 watches:=h.watches
 watch:=h.watch
theorem putQ_len(e:List Evt)(b:Bool)(l:List Evt)(he:e.length≤9∧(b=false→e.length≤8)):(lY e b l).1.length≤9∧((lY e b l).2=false→(lY e b l).1.length≤8):=by
 unfold lY
 cases b with
 |true=>exact⟨he.1,fun h=>by cases h⟩
 |false=>
  have:=he.2 rfl
  rw[if_neg (by simp)]
  split
  ·refine⟨?_,fun h=>by cases h⟩
   simp only[List.length_append,List.length_take,List.length_cons,List.length_nil];omega
  ·rename_i h
   simp only[List.length_append]
   exact⟨by omega,fun _=>by omega⟩
theorem mi_tell{d:Dsk}(h:MI d.m)(was:List Nd):MI (aMe was d).m where
 good:=h.good
 cap:=h.cap
 cnt:=h.cnt
 seen:=h.seen
 rep:=h.rep
 snaps:=h.snaps
 snap:=h.snap
 watches:=by show(d.m.watches.map _).length≤8;rw[List.length_map];exact h.watches
 watch:=fun w hw=>by
  obtain⟨v,hv,rfl⟩:=List.mem_map.1 hw
  obtain⟨h1,h2⟩:=h.watch v hv
  exact⟨h1,putQ_len _ _ _ h2⟩
theorem mi_handles{m:Mdl}(h:MI m){s:List Snp}{w:List Wch}{n:Int}(h1:s.length≤8)(h2:∀x∈s,NsI m.seen x.nodes)(h3:w.length≤8)(h4:∀x∈w,dirI x.dir=true∧x.evs.length≤9∧(x.over=false→x.evs.length≤8)):
  MI {m with snaps:=s,watches:=w,next:=n}:=
 ⟨h.good,h.cap,h.cnt,h.seen,h.rep,h1,h2,h3,h4⟩
theorem emptyW_mem(n:Int)(l:List Wch):(emptyW n l).length=l.length∧∀w∈emptyW n l,∃v∈l,w.dir=v.dir∧w.n=v.n∧w.over=v.over∧(w.evs=v.evs∨w.evs=[]):=by
 induction l with
 |nil=>exact⟨rfl,fun w hw=>by cases hw⟩
 |cons x l ih=>
  unfold emptyW
  split
  ·refine⟨rfl,fun w hw=>?_⟩
   rcases List.mem_cons.1 hw with rfl|hw
   ·exact⟨x,by simp,rfl,rfl,rfl,.inr rfl⟩
   ·exact⟨w,List.mem_cons_of_mem _ hw,rfl,rfl,rfl,.inl rfl⟩
  ·refine⟨by simp[ih.1],fun w hw=>?_⟩
   rcases List.mem_cons.1 hw with rfl|hw
   ·exact⟨w,by simp,rfl,rfl,rfl,.inl rfl⟩
   ·obtain⟨v,hv,q⟩:=ih.2 w hw
    exact⟨v,List.mem_cons_of_mem _ hv,q⟩
end Go.Gw
/- What each call does, in plain Lean. No condition. -/
namespace Go.Gw
open Go Go.Aw Go.Proofs.YthhdnjiodklmmaaGreatDoor
theorem dir_no{n:Int}(h:iZ n=true)(hd:dirI n=false):oC n=true:=by
 unfold dirI at hd
 simp only[h,Bool.true_and,Bool.or_eq_false_iff,Bool.not_eq_false']at hd
 exact hd.2
theorem chk_of{l:List Nd}(h:Frs l){n:Nd}(hn:n∈l):iZ n.id=true:=((nJ l).1 h.chk).1 n hn
def bornO(m:Mdl)(c:Cal)(dir:Int)(s:Txt):Opn:=⟨⟨m.seen+1,m.rep⟩,1,idI (m.seen+1) m.rep (decide (c.kind=1)),dir,s,[]⟩
def donePut(d:Dsk)(o:Opn):Int×Dsk:=(0,{d with m:=putM d.m o,ops:=d.ops++[o]})
theorem born_shape{c:Cal}{d:Dsk}(h:MI d.m):(∃e,e≠0∧aMc c d=(e,d))∨
  ∃dir s,c.path≠[47]∧abvN d.m.log.nodes c.path=(dir,s,0)∧childN d.m.log.nodes dir s=none∧(nextD d.m).2=0∧opOk (bornO d.m c dir s)=true∧aMc c d=donePut d (bornO d.m c dir s):=by
 unfold aMc
 by_cases h1:c.path=[47]
 ·rw[if_pos h1];exact .inl ⟨194,by decide,rfl⟩
 rw[if_neg h1]
 obtain⟨⟨dir,s,e⟩,ha⟩:∃x,abvN d.m.log.nodes c.path=x:=⟨_,rfl⟩
 rw[ha]
 simp only
 by_cases h2:e=0
 ·subst h2
  rw[if_pos rfl]
  obtain⟨a1,a2,a3⟩:=abv_of h.nodes h.seen ha
  cases hc:childN d.m.log.nodes dir s with
  |some n=>exact .inl ⟨190,by decide,if_pos rfl⟩
  |none=>
   rw[if_neg (by simp)]
   by_cases h3:(nextD d.m).2=0
   ·rw[if_pos h3]
    obtain⟨n1,n2,n3,n4,n5,n6⟩:=bDC h3
    rw[n1]
    obtain⟨i1,i2,i3,i4⟩:=oA_id (d:=decide (c.kind=1)) (show 1≤d.m.seen+1 by omega) (show d.m.seen+1≤1048576 by omega) n4 n5
    have hok:opOk (bornO d.m c dir s)=true:=ok_move (by omega) (by omega) n4 n5 i1 (later_eq i2 i3) a1 (by omega) a3
    exact .inr ⟨dir,s,h1,rfl,hc,h3,hok,put_ok h h3 hok⟩
   ·rw[if_neg h3];exact .inl ⟨_,h3,rfl⟩
 ·rw[if_neg h2];exact .inl ⟨e,h2,rfl⟩
def writeO(m:Mdl)(c:Cal)(id:Int):Opn:=⟨⟨m.seen+1,m.rep⟩,2,id,0,[],c.data⟩
theorem write_shape{c:Cal}{d:Dsk}(h:MI d.m)(hd:c.data.length≤64):(∃e,e≠0∧aGv c d=(e,d))∨
  ∃id,atN d.m.log.nodes c.path=(id,0)∧dirI id=false∧(nextD d.m).2=0∧opOk (writeO d.m c id)=true∧aGv c d=donePut d (writeO d.m c id):=by
 unfold aGv
 obtain⟨⟨id,e⟩,ha⟩:∃x,atN d.m.log.nodes c.path=x:=⟨_,rfl⟩
 rw[ha]
 simp only
 by_cases h2:e=0
 ·subst h2
  rw[if_pos rfl]
  cases hdi:dirI id with
  |true=>rw[if_pos rfl];exact .inl ⟨82,by decide,rfl⟩
  |false=>
   rw[if_neg (by simp)]
   by_cases h3:(nextD d.m).2=0
   ·obtain⟨n1,n2,n3,n4,n5,n6⟩:=bDC h3
    obtain⟨ns, -,⟨-,rfl⟩|⟨n,hn,rfl⟩⟩:=at_mem ha
    ·cases hdi
    ·have ho:=chk_of h.nodes.frs hn
     have hok:opOk (writeO d.m c n.id)=true:=ok_write (by omega) (by omega) n4 n5 ho (dir_no ho hdi) (later_no (by have:=(h.nodes.nd n hn).id;omega)) hd
     exact .inr ⟨n.id,rfl,hdi,h3,hok,put_ok h h3 hok⟩
   ·exact .inl ⟨_,h3,put_err h3⟩
 ·rw[if_neg h2];exact .inl ⟨e,h2,rfl⟩
def moveO(m:Mdl)(id dir:Int)(s:Txt):Opn:=⟨⟨m.seen+1,m.rep⟩,1,id,dir,s,[]⟩
theorem at_ok{m:Mdl}(h:MI m){p:Txt}{id:Int}(hp:p≠[47])(ha:atN m.log.nodes p=(id,0)):iZ id=true∧oA id≤m.seen∧∃n∈m.log.nodes,n.id=id:=by
 obtain⟨ns,hn,⟨hni, -⟩|⟨n,hn,rfl⟩⟩:=at_mem ha
 ·subst hni
  unfold fZ at hn
  rw[if_neg hp]at hn
  split at hn
  ·cases hn
  ·split at hn
   ·split at hn
    ·exact absurd (Option.some.inj hn) (yI _ _)
    ·cases hn
   ·cases hn
 ·exact⟨chk_of h.nodes.frs hn,(h.nodes.nd n hn).id,n,hn,rfl⟩
theorem move_shape{c:Cal}{d:Dsk}(h:MI d.m):(∃e,e≠0∧aMd c d=(e,d))∨
  ∃id dir s,c.path≠[47]∧c.to≠[47]∧atN d.m.log.nodes c.path=(id,0)∧abvN d.m.log.nodes c.to=(dir,s,0)∧childN d.m.log.nodes dir s=none∧dir≠id∧(zL d.m.log.nodes dir).contains id=false∧(nextD d.m).2=0∧
   opOk (moveO d.m id dir s)=true∧aMd c d=donePut d (moveO d.m id dir s):=by
 unfold aMd
 by_cases h1:c.path=[47]∨c.to=[47]
 ·rw[if_pos h1];exact .inl ⟨194,by decide,rfl⟩
 rw[if_neg h1]
 obtain⟨⟨id,e⟩,ha⟩:∃x,atN d.m.log.nodes c.path=x:=⟨_,rfl⟩
 rw[ha]
 simp only
 by_cases h2:e=0
 ·subst h2
  rw[if_pos rfl]
  obtain⟨⟨dir,s,f⟩,hb⟩:∃x,abvN d.m.log.nodes c.to=x:=⟨_,rfl⟩
  rw[hb]
  simp only
  by_cases h3:f=0
  ·subst h3
   rw[if_pos rfl]
   obtain⟨a1,a2,a3⟩:=abv_of h.nodes h.seen hb
   cases hc:childN d.m.log.nodes dir s with
   |some n=>exact .inl ⟨190,by decide,if_pos rfl⟩
   |none=>
    rw[if_neg (by simp)]
    by_cases h4:dir=id∨(zL d.m.log.nodes dir).contains id=true
    ·rw[if_pos h4];exact .inl ⟨192,by decide,rfl⟩
    rw[if_neg h4]
    by_cases h5:(nextD d.m).2=0
    ·obtain⟨n1,n2,n3,n4,n5,n6⟩:=bDC h5
     obtain⟨o1,o2, -⟩:=at_ok h (fun e=>h1 (.inl e)) ha
     have hok:opOk (moveO d.m id dir s)=true:=ok_move (by omega) (by omega) n4 n5 o1 (later_no (by omega)) a1 (by omega) a3
     exact .inr ⟨id,dir,s,fun e=>h1 (.inl e),fun e=>h1 (.inr e),rfl,rfl,hc,fun e=>h4 (.inl e),by simpa using fun e=>h4 (.inr e),h5,hok,put_ok h h5 hok⟩
    ·exact .inl ⟨_,h5,put_err h5⟩
  ·rw[if_neg h3];exact .inl ⟨f,h3,rfl⟩
 ·rw[if_neg h2];exact .inl ⟨e,h2,rfl⟩
theorem remove_shape{c:Cal}{d:Dsk}(h:MI d.m):(∃e,e≠0∧aDj c d=(e,d))∨
  ∃id s,c.path≠[47]∧atN d.m.log.nodes c.path=(id,0)∧(∃x xs,fZ c.path=some (x::xs)∧s=(x::xs).getLast (by simp))∧(nextD d.m).2=0∧opOk (moveO d.m id 2 s)=true∧aDj c d=donePut d (moveO d.m id 2 s):=by
 unfold aDj
 by_cases h1:c.path=[47]
 ·rw[if_pos h1];exact .inl ⟨194,by decide,rfl⟩
 rw[if_neg h1]
 obtain⟨⟨id,e⟩,ha⟩:∃x,atN d.m.log.nodes c.path=x:=⟨_,rfl⟩
 rw[ha]
 simp only
 by_cases h2:e=0
 ·subst h2
  rw[if_pos rfl]
  split
  ·rename_i x xs hn
   by_cases h5:(nextD d.m).2=0
   ·obtain⟨n1,n2,n3,n4,n5,n6⟩:=bDC h5
    obtain⟨o1,o2, -⟩:=at_ok h h1 ha
    have hok:opOk (moveO d.m id 2 ((x::xs).getLast (by simp)))=true:=ok_move (by omega) (by omega) n4 n5 o1 (later_no (by omega)) (by decide) (by rw[oA_2];omega) (names_ok hn _ (List.getLast_mem _))
    exact .inr ⟨id,_,h1,rfl,⟨x,xs,hn,rfl⟩,h5,hok,put_ok h h5 hok⟩
   ·exact .inl ⟨_,h5,put_err h5⟩
  ·exact .inl ⟨194,by decide,rfl⟩
 ·rw[if_neg h2];exact .inl ⟨e,h2,rfl⟩
theorem takeO_ok{b r:Txt}{o:Opn}(h:bB5 b=some (o,r)):opOk o=true:=by
 unfold bB5 at h
 simp only[Option.bind_eq_some_iff]at h
 obtain⟨⟨c,b1⟩, -,⟨rr,b2⟩, -,⟨k,b3⟩, -,⟨nd,b4⟩, -,h⟩:=h
 simp only at h
 split at h
 ·simp only[Option.bind_eq_some_iff]at h
  obtain⟨⟨p,b5⟩, -,⟨t,b6⟩, -,h⟩:=h
  simp only at h
  split at h
  ·rename_i ho;cases h;exact ho
  ·cases h
 ·simp only[Option.bind_eq_some_iff]at h
  obtain⟨⟨t,b6⟩, -,h⟩:=h
  simp only at h
  split at h
  ·rename_i ho;cases h;exact ho
  ·cases h
theorem readF_ok:∀(k:Nat) (b:Txt) (l:List Opn),aMb k b=some l→∀o∈l,opOk o=true:=by
 intro k
 induction k with
 |zero=>
  intro b l h
  unfold aMb at h
  split at h
  ·cases h;intro o ho;cases ho
  ·cases h
 |succ k ih=>
  intro b l h
  unfold aMb at h
  split at h
  ·cases h;intro o ho;cases ho
  ·simp only[Option.bind_eq_some_iff]at h
   obtain⟨⟨o,r⟩,h1,h2⟩:=h
   simp only[Option.map_eq_some_iff]at h2
   obtain⟨t,h3,rfl⟩:=h2
   intro x hx
   rcases List.mem_cons.1 hx with rfl|hx
   ·exact takeO_ok h1
   ·exact ih r t h3 x hx
theorem bCf{b:Txt}{l:List Opn}(h:readO b=some l):∀o∈l,opOk o=true:=readF_ok _ _ _ h
theorem aYl(g:Lg):∀(l acc:List Opn),∀x∈freshN g acc l,x∈acc∨x∈l:=by
 intro l
 induction l with
 |nil=>intro acc x hx;exact .inl hx
 |cons o l ih=>
  intro acc x hx
  rw[freshN]at hx
  rcases ih _ x hx with h|h
  ·split at h
   ·rcases List.mem_append.1 h with h|h
    ·exact .inl h
    ·rw[List.mem_singleton]at h;subst h;exact .inr (by simp)
   ·exact .inl h
  ·exact .inr (List.mem_cons_of_mem _ h)
theorem adds_ok:∀(l:List Opn) (d:Dsk),(∀o∈l,opOk o=true)→d.m.log.entries.length+l.length≤200→nZ d l=(0,{d with m:={d.m with log:=lV d.m.log l},ops:=d.ops++l}):=by
 intro l
 induction l with
 |nil=>intro d _ _;simp[nZ,lV]
 |cons o l ih=>
  intro d ho hc
  rw[List.length_cons]at hc
  have ha:xE d.m.log o=0:=by
   unfold xE
   rw[if_neg (by rw[ho o (by simp)];simp)]
   split
   ·rfl
   ·rw[if_neg (by omega)]
  have hk:nT d o=(0,{d with m:={d.m with log:=fB d.m.log o},ops:=d.ops++[o]}):=by unfold nT;rw[if_pos ha]
  have hl:=(aGC d.m.log o).1
  rw[nZ,hk]
  simp only[if_true]
  rw[ih _ (fun x hx=>ho x (List.mem_cons_of_mem _ hx)) (by simp only;omega)]
  simp[lV]
theorem seen_fold(l:List Opn):∀(n:Int),n≤l.foldl (fun n o=>aA3 n o.at_) n∧∀o∈l,opOk o=true→o.at_.c≤l.foldl (fun n o=>aA3 n o.at_) n:=by
 induction l with
 |nil=>exact fun n=>⟨Int.le_refl _,fun o ho=>by cases ho⟩
 |cons x l ih=>
  intro n
  obtain⟨i1,i2⟩:=ih (aA3 n x.at_)
  have h1:n≤aA3 n x.at_:=by unfold aA3;split<;>omega
  refine⟨Int.le_trans h1 i1,fun o ho hok=>?_⟩
  rcases List.mem_cons.1 ho with rfl|ho
  ·refine Int.le_trans ?_ i1
   obtain⟨p1,p2,p3,p4, -⟩:=aRj hok
   unfold aA3
   rw[if_pos (by rw[aAM];exact⟨p1,p2,p3,p4⟩)]
   omega
  ·exact i2 o ho hok
theorem all_len(l:List Opn):∀g:Lg,(lV g l).entries.length≤g.entries.length+l.length:=by
 induction l with
 |nil=>exact fun g=>Nat.le_refl _
 |cons o l ih=>intro g;have:=ih (fB g o);have:=(aGC g o).1;rw[lV,List.length_cons];omega
def mergeM(m:Mdl)(l:List Opn):Mdl:={m with log:=lV m.log (freshN m.log [] l),seen:=l.foldl (fun n o=>aA3 n o.at_) m.seen}
theorem merge_shape{c:Cal}{d:Dsk}:(∃e,e≠0∧aGw c d=(e,d))∨
  ∃l,readO c.data=some l∧d.m.log.entries.length+(freshN d.m.log [] l).length≤200∧
   aGw c d=(0,{m:=mergeM d.m l,a:={d.a with n:=((freshN d.m.log [] l).length:Int)},ops:=d.ops++freshN d.m.log [] l}):=by
 unfold aGw
 cases hr:readO c.data with
 |none=>exact .inl ⟨50,by decide,rfl⟩
 |some l=>
  simp only
  by_cases h1:(200:Int)<(d.m.log.entries.length:Int)+((freshN d.m.log [] l).length:Int)
  ·rw[if_pos h1];exact .inl ⟨193,by decide,rfl⟩
  rw[if_neg h1]
  have hok:∀o∈freshN d.m.log [] l,opOk o=true:=fun o ho=>by
   rcases aYl _ _ _ o ho with h|h
   ·cases h
   ·exact bCf hr o h
  rw[adds_ok _ d hok (by omega)]
  exact .inr ⟨l,rfl,by omega,rfl⟩
theorem mi_merge{m:Mdl}(h:MI m){l:List Opn}(ho:∀o∈l,opOk o=true)(hc:m.log.entries.length+(freshN m.log [] l).length≤200):MI (mergeM m l)where
 good:=aGL h.good _
 cap:=by have:=all_len (freshN m.log [] l) m.log;unfold mergeM;simp only;omega
 cnt:=fun x hx=>by
  rcases(bDx h.good _).1 x hx with hx|⟨hx,hok⟩
  ·exact Int.le_trans (h.cnt x hx) (seen_fold l m.seen).1
  ·rcases aYl _ _ _ x hx with hx|hx
   ·cases hx
   ·exact(seen_fold l m.seen).2 x hx hok
 seen:=Int.le_trans h.seen (seen_fold l m.seen).1
 rep:=h.rep
 snaps:=h.snaps
 snap:=fun s hs=>(h.snap s hs).up (seen_fold l m.seen).1
 watches:=h.watches
 watch:=h.watch
theorem chk_data{c:Cal}(h:chkC c=true)(hk:c.kind=3):c.data.length≤64:=by
 unfold chkC at h
 rw[hk]at h
 have hp:mA 3=some 5:=rfl
 rw[hp]at h
 simp only[Bool.and_eq_true]at h
 have h':=h.2.2.1
 rw[mJ,if_neg (by decide),if_neg (by decide),decide_eq_true_eq]at h'
 omega
theorem way_mi{m:Mdl}{c:Cal}(h:MI m)(hc:chkC c=true)(h0:(fQ c ⟨m,an0,[]⟩).1=0):MI (fQ c ⟨m,an0,[]⟩).2.m:=by
 have put:∀{o:Opn} {r:Int×Dsk},r=donePut ⟨m,an0,[]⟩ o→o.at_.c≤m.seen+1→(nextD m).2=0→MI r.2.m:=fun e h1 h2=>by
  subst e;exact mi_put h h1 (bDC h2).2.2.2.2.2
 have err:∀{e:Int} {r:Int×Dsk},e≠0→r=(e,⟨m,an0,[]⟩)→r.1=0→MI r.2.m:=fun h1 e h2=>by subst e;exact absurd h2 h1
 unfold fQ at h0 ⊢
 by_cases k1:c.kind=1∨c.kind=2
 ·rw[if_pos k1]at h0 ⊢
  rcases born_shape (c:=c) (d:=⟨m,an0,[]⟩) h with⟨e,he,e1⟩|⟨dir,s, -, -, -,hn, -,e1⟩
  ·exact err he e1 h0
  ·exact put e1 (Int.le_refl _) hn
 rw[if_neg k1]at h0 ⊢
 by_cases k3:c.kind=3
 ·rw[if_pos k3]at h0 ⊢
  rcases write_shape (c:=c) (d:=⟨m,an0,[]⟩) h (chk_data hc k3)with⟨e,he,e1⟩|⟨id, -, -,hn, -,e1⟩
  ·exact err he e1 h0
  ·exact put e1 (Int.le_refl _) hn
 rw[if_neg k3]at h0 ⊢
 by_cases k4:c.kind=4
 ·rw[if_pos k4]at h0 ⊢
  unfold vZ
  split
  ·exact h
  ·split
   ·split<;>exact h
   ·exact h
 rw[if_neg k4]at h0 ⊢
 by_cases k5:c.kind=5
 ·rw[if_pos k5]at h0 ⊢
  rcases move_shape (c:=c) (d:=⟨m,an0,[]⟩) h with⟨e,he,e1⟩|⟨id,dir,s, -, -, -, -, -, -, -,hn, -,e1⟩
  ·exact err he e1 h0
  ·exact put e1 (Int.le_refl _) hn
 rw[if_neg k5]at h0 ⊢
 by_cases k6:c.kind=6
 ·rw[if_pos k6]at h0 ⊢
  rcases remove_shape (c:=c) (d:=⟨m,an0,[]⟩) h with⟨e,he,e1⟩|⟨id,s, -, -, -,hn, -,e1⟩
  ·exact err he e1 h0
  ·exact put e1 (Int.le_refl _) hn
 rw[if_neg k6]at h0 ⊢
 by_cases k7:c.kind=7
 ·rw[if_pos k7]at h0 ⊢
  unfold lsD
  split
  ·exact h
  ·split
   ·split<;>exact h
   ·exact h
 rw[if_neg k7]at h0 ⊢
 by_cases k8:c.kind=8
 ·rw[if_pos k8]at h0 ⊢
  unfold yK
  split
  ·exact h
  ·rename_i hl
   refine mi_handles h ?_ (fun x hx=>?_) h.watches h.watch
   ·rw[List.length_append];simp only[List.length_cons,List.length_nil]at hl ⊢;omega
   ·rcases List.mem_append.1 hx with hx|hx
    ·exact h.snap x hx
    ·rw[List.mem_singleton]at hx;subst hx;exact h.nodes
 rw[if_neg k8]at h0 ⊢
 by_cases k9:c.kind=9
 ·rw[if_pos k9]at h0 ⊢
  unfold wA
  split
  ·exact h
  ·exact mi_handles (n:=m.next) h (Nat.le_trans (List.length_filter_le ..) h.snaps) (fun x hx=>h.snap x (List.mem_filter.1 hx).1) (Nat.le_trans (List.length_filter_le ..) h.watches) (fun x hx=>h.watch x (List.mem_filter.1 hx).1)
 rw[if_neg k9]at h0 ⊢
 by_cases k10:c.kind=10
 ·rw[if_pos k10]at h0 ⊢
  unfold sB
  split
  ·split
   ·rename_i hdi
    split
    ·exact h
    ·rename_i hl
     refine mi_handles h h.snaps h.snap ?_ (fun x hx=>?_)
     ·rw[List.length_append];simp only[List.length_cons,List.length_nil]at hl ⊢;omega
     ·rcases List.mem_append.1 hx with hx|hx
      ·exact h.watch x hx
      ·rw[List.mem_singleton]at hx;subst hx;exact⟨hdi,by simp,by simp⟩
   ·exact h
  ·exact h
 rw[if_neg k10]at h0 ⊢
 by_cases k11:c.kind=11
 ·rw[if_pos k11]at h0 ⊢
  unfold aA4
  split
  ·exact h
  ·obtain⟨e1,e2⟩:=emptyW_mem c.n m.watches
   refine mi_handles (n:=m.next) h h.snaps h.snap (by rw[e1];exact h.watches)fun x hx=>?_
   obtain⟨v,hv,q1, -,q3,q2⟩:=e2 x hx
   obtain⟨w1,w2,w3⟩:=h.watch v hv
   rw[q1,q3]
   rcases q2 with q|q<;>rw[q]
   ·exact⟨w1,w2,w3⟩
   ·exact⟨w1,by simp,by simp⟩
 rw[if_neg k11]at h0 ⊢
 by_cases k12:c.kind=12
 ·rw[if_pos k12]at h0 ⊢;exact h
 rw[if_neg k12]at h0 ⊢
 rcases merge_shape (c:=c) (d:=⟨m,an0,[]⟩)with⟨e,he,e1⟩|⟨l,hr,hcap,e1⟩
 ·exact err he e1 h0
 ·rw[e1];exact mi_merge h (bCf hr) hcap
theorem nB{m:Mdl}(h:MI m)(c:Cal):MI (doM m c).1:=by
 unfold doM
 split
 ·exact h
 ·rename_i hc
  split
  ·rename_i h0
   have:=way_mi h (by simpa using hc) h0
   split
   ·exact this
   ·exact mi_tell this _
  ·exact h
theorem aCL(l:List Cal):∀{m:Mdl},MI m→MI (aCz m l).1:=by
 induction l with
 |nil=>exact fun h=>h
 |cons c l ih=>exact fun h=>ih (nB h c)
end Go.Gw
/- What each call leaves, and which operations it adds, in plain Lean. No condition. -/
namespace Go.Gw
open Go Go.Aw Go.Proofs.YthhdnjiodklmmaaGreatDoor
def tellM(m m':Mdl):Mdl:={m' with watches:=m'.watches.map (wB m.log.nodes m'.log.nodes)}
theorem bCg{c:Cal}(h:chkC c=true):c.kind=1∨c.kind=2∨c.kind=3∨c.kind=4∨c.kind=5∨c.kind=6∨c.kind=7∨c.kind=8∨c.kind=9∨c.kind=10∨c.kind=11∨c.kind=12∨c.kind=13:=by
 unfold chkC at h
 cases hp:mA c.kind with
 |none=>rw[hp]at h;cases h
 |some p=>
  unfold mA at hp
  by_cases h1:c.kind=1∨c.kind=2∨c.kind=6∨c.kind=10
  ·omega
  rw[if_neg h1]at hp
  by_cases h2:c.kind=3
  ·omega
  rw[if_neg h2]at hp
  by_cases h3:c.kind=4∨c.kind=7
  ·omega
  rw[if_neg h3]at hp
  by_cases h4:c.kind=5
  ·omega
  rw[if_neg h4]at hp
  by_cases h5:c.kind=9∨c.kind=11
  ·omega
  rw[if_neg h5]at hp
  by_cases h6:c.kind=13
  ·omega
  rw[if_neg h6]at hp
  by_cases h7:c.kind=8∨c.kind=12
  ·omega
  rw[if_neg h7]at hp
  cases hp
inductive WyS (m:Mdl) (c:Cal):Int×Dsk→Prop
 |err (e:Int) (d:Dsk) (he:e≠0):WyS m c (e,d)
 |put (o:Opn) (hk:c.kind=1∨c.kind=2∨c.kind=3∨c.kind=5∨c.kind=6) (hn:(nextD m).2=0) (ho:opOk o=true) (ha:o.at_=⟨m.seen+1,m.rep⟩):WyS m c (donePut ⟨m,an0,[]⟩ o)
 |keep (m':Mdl) (a:Ans) (ha:a.err=0) (h1:m'.log=m.log) (h2:m'.seen=m.seen) (h3:m'.rep=m.rep) (h4:(c.kind=4∨c.kind=7∨c.kind=12)→m'=m):WyS m c (0,⟨m',a,[]⟩)
 |merge (l:List Opn) (hk:c.kind=13) (hr:readO c.data=some l) (hc:m.log.entries.length+(freshN m.log [] l).length≤200):
   WyS m c (0,⟨mergeM m l,{an0 with n:=((freshN m.log [] l).length:Int)},freshN m.log [] l⟩)
theorem aYm{m:Mdl}{c:Cal}(h:MI m)(hc:chkC c=true):WyS m c (fQ c ⟨m,an0,[]⟩):=by
 have hk:=bCg hc
 unfold fQ
 by_cases k1:c.kind=1∨c.kind=2
 ·rw[if_pos k1]
  rcases born_shape (c:=c) (d:=⟨m,an0,[]⟩) h with⟨e,he,e1⟩|⟨dir,s, -, -, -,hn,ho,e1⟩
  ·rw[e1];exact .err _ _ he
  ·rw[e1];exact .put _ (by omega) hn ho rfl
 rw[if_neg k1]
 by_cases k3:c.kind=3
 ·rw[if_pos k3]
  rcases write_shape (c:=c) (d:=⟨m,an0,[]⟩) h (chk_data hc k3)with⟨e,he,e1⟩|⟨id, -, -,hn,ho,e1⟩
  ·rw[e1];exact .err _ _ he
  ·rw[e1];exact .put _ (by omega) hn ho rfl
 rw[if_neg k3]
 by_cases k4:c.kind=4
 ·rw[if_pos k4]
  unfold vZ
  split
  ·exact .err _ _ (by decide)
  ·split
   ·split
    ·exact .err _ _ (by decide)
    ·exact .keep _ _ rfl rfl rfl rfl fun _=>rfl
   ·rename_i h;exact .err _ _ h
 rw[if_neg k4]
 by_cases k5:c.kind=5
 ·rw[if_pos k5]
  rcases move_shape (c:=c) (d:=⟨m,an0,[]⟩) h with⟨e,he,e1⟩|⟨id,dir,s, -, -, -, -, -, -, -,hn,ho,e1⟩
  ·rw[e1];exact .err _ _ he
  ·rw[e1];exact .put _ (by omega) hn ho rfl
 rw[if_neg k5]
 by_cases k6:c.kind=6
 ·rw[if_pos k6]
  rcases remove_shape (c:=c) (d:=⟨m,an0,[]⟩) h with⟨e,he,e1⟩|⟨id,s, -, -, -,hn,ho,e1⟩
  ·rw[e1];exact .err _ _ he
  ·rw[e1];exact .put _ (by omega) hn ho rfl
 rw[if_neg k6]
 by_cases k7:c.kind=7
 ·rw[if_pos k7]
  unfold lsD
  split
  ·exact .err _ _ (by decide)
  ·split
   ·split
    ·exact .keep _ _ rfl rfl rfl rfl fun _=>rfl
    ·exact .err _ _ (by decide)
   ·rename_i h;exact .err _ _ h
 rw[if_neg k7]
 by_cases k8:c.kind=8
 ·rw[if_pos k8]
  unfold yK
  split
  ·exact .err _ _ (by decide)
  ·exact .keep _ _ rfl rfl rfl rfl fun h=>by omega
 rw[if_neg k8]
 by_cases k9:c.kind=9
 ·rw[if_pos k9]
  unfold wA
  split
  ·exact .err _ _ (by decide)
  ·exact .keep _ _ rfl rfl rfl rfl fun h=>by omega
 rw[if_neg k9]
 by_cases k10:c.kind=10
 ·rw[if_pos k10]
  unfold sB
  split
  ·split
   ·split
    ·exact .err _ _ (by decide)
    ·exact .keep _ _ rfl rfl rfl rfl fun h=>by omega
   ·exact .err _ _ (by decide)
  ·rename_i h;exact .err _ _ h
 rw[if_neg k10]
 by_cases k11:c.kind=11
 ·rw[if_pos k11]
  unfold aA4
  split
  ·exact .err _ _ (by decide)
  ·exact .keep _ _ rfl rfl rfl rfl fun h=>by omega
 rw[if_neg k11]
 by_cases k12:c.kind=12
 ·rw[if_pos k12];exact .keep _ _ rfl rfl rfl rfl fun _=>rfl
 rw[if_neg k12]
 rcases merge_shape (c:=c) (d:=⟨m,an0,[]⟩)with⟨e,he,e1⟩|⟨l,hr,hcap,e1⟩
 ·rw[e1];exact .err _ _ he
 ·rw[e1];exact .merge l (by omega) hr hcap
inductive DoS (m:Mdl) (c:Cal):Mdl×Ans×List Opn→Prop
 |err (e:Int) (he:e≠0):DoS m c (m,errA e,[])
 |put (o:Opn) (hk:c.kind=1∨c.kind=2∨c.kind=3∨c.kind=5∨c.kind=6) (hn:(nextD m).2=0) (ho:opOk o=true) (ha:o.at_=⟨m.seen+1,m.rep⟩):DoS m c (tellM m (putM m o),an0,[o])
 |keep (m':Mdl) (a:Ans) (ha:a.err=0) (h1:m'.log=m.log) (h2:m'.seen=m.seen) (h3:m'.rep=m.rep) (h4:(c.kind=4∨c.kind=7∨c.kind=12)→m'=m):DoS m c (m',a,[])
 |merge (l:List Opn) (hk:c.kind=13) (hr:readO c.data=some l) (hc:m.log.entries.length+(freshN m.log [] l).length≤200):
   DoS m c (if freshN m.log [] l=[]then mergeM m l else tellM m (mergeM m l),{an0 with n:=((freshN m.log [] l).length:Int)},freshN m.log [] l)
theorem aBj{m:Mdl}(h:MI m)(c:Cal):DoS m c (doM m c):=by
 unfold doM
 split
 ·exact .err 180 (by decide)
 ·rename_i hc
  have hs:=aYm h (by simpa using hc)
  generalize fQ c ⟨m,an0,[]⟩=r at hs ⊢
  cases hs with
  |err e d he=>rw[if_neg he];exact .err e he
  |put o hk hn ho ha=>exact .put o hk hn ho ha
  |keep m' a ha h1 h2 h3 h4=>exact .keep m' a ha h1 h2 h3 h4
  |merge l hk hr hc=>
   have hm:=DoS.merge (m:=m) (c:=c) l hk hr hc
   rw[if_pos rfl]
   split
   ·rename_i e
    simp only at e
    rw[if_pos e]at hm
    rw[e]at hm ⊢
    exact hm
   ·rename_i e
    rw[if_neg e]at hm
    exact hm
theorem has_op(g:Lg)(a:Stm):lH g.entries a=true↔∃x∈opsG g,x.at_=a:=by
 unfold lH opsG
 rw[List.any_eq_true]
 constructor
 ·rintro⟨e,he,h⟩;exact⟨e.op,List.mem_map.2 ⟨e,he,rfl⟩,by simpa using h⟩
 ·rintro⟨x,hx,h⟩
  obtain⟨e,he,rfl⟩:=List.mem_map.1 hx
  exact⟨e,he,by simpa using h⟩
theorem has_no{g:Lg}{a:Stm}:lH g.entries a=false↔∀x∈opsG g,x.at_≠a:=by
 rw[←Bool.not_eq_true,has_op]
 constructor
 ·intro h x hx e;exact h ⟨x,hx,e⟩
 ·rintro h ⟨x,hx,e⟩;exact h x hx e
theorem wI(g:Lg):(opsG g).length=g.entries.length:=by rw[opsG,List.length_map]
theorem bDD{g:Lg}(h:Good g){o:Opn}(ho:opOk o=true)(hn:∀x∈opsG g,x.at_≠o.at_)(hl:g.entries.length<200):opsG (fB g o)=aAf o (opsG g):=by
 rcases(aBe h o).2 with⟨-, -,e|⟨x,hx,e⟩|e⟩|⟨e, -, -⟩
 ·rw[ho]at e;cases e
 ·exact absurd e (hn x hx)
 ·rw[wI]at e;omega
 ·exact e
theorem aKl(l:List Opn):∀{g:Lg},Good g→(∀o∈l,opOk o=true)→l.Pairwise (fun a b=>a.at_≠b.at_)→(∀o∈l,∀x∈opsG g,x.at_≠o.at_)→g.entries.length+l.length≤200→
  (∀x,x∈opsG (lV g l)↔x∈opsG g∨x∈l)∧(lV g l).entries.length=g.entries.length+l.length:=by
 induction l with
 |nil=>intro g _ _ _ _ _;exact⟨fun x=>by simp[lV],rfl⟩
 |cons o l ih=>
  intro g hg ho hp hn hl
  rw[List.length_cons]at hl
  rw[List.pairwise_cons]at hp
  have e:=bDD hg (ho o (by simp)) (hn o (by simp)) (by omega)
  have el:(fB g o).entries.length=g.entries.length+1:=by rw[←wI,e,aDq,wI]
  obtain⟨i1,i2⟩:=ih (aBe hg o).1 (fun x hx=>ho x (List.mem_cons_of_mem _ hx)) hp.2 (fun x hx y hy=>by
   rw[e]at hy
   rcases uB.1 hy with rfl|hy
   ·exact hp.1 x hx
   ·exact hn x (List.mem_cons_of_mem _ hx) y hy) (by omega)
  refine⟨fun x=>?_,by rw[lV,i2,el,List.length_cons];omega⟩
  rw[lV,i1,e,uB,List.mem_cons]
  constructor
  ·rintro((h|h)|h)
   ·exact .inr (.inl h)
   ·exact .inl h
   ·exact .inr (.inr h)
  ·rintro(h|h|h)
   ·exact .inl (.inr h)
   ·exact .inl (.inl h)
   ·exact .inr h
theorem bCh(g:Lg):∀(l acc:List Opn),acc.Pairwise (fun a b=>a.at_≠b.at_)→(∀o∈acc,∀x∈opsG g,x.at_≠o.at_)→(freshN g acc l).Pairwise (fun a b=>a.at_≠b.at_)∧(∀o∈freshN g acc l,∀x∈opsG g,x.at_≠o.at_):=by
 intro l
 induction l with
 |nil=>exact fun acc h1 h2=>⟨h1,h2⟩
 |cons o l ih=>
  intro acc h1 h2
  rw[freshN]
  split
  ·rename_i hc
   simp only[Bool.and_eq_true,Bool.not_eq_true']at hc
   have hn:=has_no.1 hc.1
   refine ih _ (List.pairwise_append.2 ⟨h1,List.pairwise_singleton _ _,fun a ha b hb=>?_⟩)fun x hx=>?_
   ·rw[List.mem_singleton]at hb;subst hb
    have:=(List.any_eq_false.1 hc.2) a ha
    simpa using this
   ·rcases List.mem_append.1 hx with hx|hx
    ·exact h2 x hx
    ·rw[List.mem_singleton]at hx;subst hx;exact hn
  ·exact ih _ h1 h2
theorem fresh_has(g:Lg):∀(l acc:List Opn),(∀o∈acc,o∈freshN g acc l)∧∀o∈l,lH g.entries o.at_=true∨∃f∈freshN g acc l,f.at_=o.at_:=by
 intro l
 induction l with
 |nil=>exact fun acc=>⟨fun o h=>h,fun o h=>by cases h⟩
 |cons o l ih=>
  intro acc
  rw[freshN]
  split
  ·obtain⟨i1,i2⟩:=ih (acc++[o])
   refine⟨fun x hx=>i1 x (List.mem_append_left _ hx),fun x hx=>?_⟩
   rcases List.mem_cons.1 hx with rfl|hx
   ·exact .inr ⟨x,i1 x (by simp),rfl⟩
   ·exact i2 x hx
  ·rename_i hc
   obtain⟨i1,i2⟩:=ih acc
   refine⟨i1,fun x hx=>?_⟩
   rcases List.mem_cons.1 hx with rfl|hx
   ·cases hh:lH g.entries x.at_ with
    |true=>exact .inl rfl
    |false=>
     rw[hh]at hc
     simp only[Bool.not_false,Bool.true_and,Bool.not_eq_true',Bool.not_eq_false']at hc
     have hc':(acc.any fun f=>decide (f.at_=x.at_))=true:=by simpa using hc
     obtain⟨f,hf,e⟩:=List.any_eq_true.1 hc'
     exact .inr ⟨f,i1 f hf,by simpa using e⟩
   ·exact i2 x hx
theorem seen_top(l:List Opn):∀n:Int,l.foldl (fun n o=>aA3 n o.at_) n=n∨∃o∈l,o.at_.c=l.foldl (fun n o=>aA3 n o.at_) n:=by
 induction l with
 |nil=>exact fun n=>.inl rfl
 |cons o l ih=>
  intro n
  rw[List.foldl_cons]
  rcases ih (aA3 n o.at_)with e|⟨x,hx,e⟩
  ·rw[e]
   unfold aA3
   split
   ·rcases Int.le_total n o.at_.c with h|h
    ·exact .inr ⟨o,by simp,by omega⟩
    ·exact .inl (by omega)
   ·exact .inl rfl
  ·exact .inr ⟨x,List.mem_cons_of_mem _ hx,e⟩
structure OI (m:Mdl) (ops:List Opn):Prop where
 mem:∀x,x∈opsG m.log↔x∈ops
 len:m.log.entries.length=ops.length
 ap:ops.Pairwise (fun a b=>a.at_≠b.at_)
 top:m.seen=0∨∃o∈ops,o.at_.c=m.seen
theorem aGY{r:Int}{m:Mdl}(h:wC r=(m,0)):OI m []:=by
 unfold wC at h
 split at h
 ·cases h;exact⟨fun x=>by simp[opsG,md0],rfl,.nil,.inl rfl⟩
 ·cases h
theorem oi_tell{m m':Mdl}{ops:List Opn}(h:OI m' ops):OI (tellM m m') ops:=⟨h.mem,h.len,h.ap,h.top⟩
theorem oi_put{m:Mdl}{ops:List Opn}(h:MI m)(hi:OI m ops){o:Opn}(hn:(nextD m).2=0)(ho:opOk o=true)(ha:o.at_=⟨m.seen+1,m.rep⟩):OI (putM m o) (ops++[o]):=by
 have hl:=(bDC hn).2.2.2.2.2
 have hno:∀x∈opsG m.log,x.at_≠o.at_:=fun x hx e=>by have:=h.cnt x hx;rw[e,ha]at this;simp only at this;omega
 have e:=bDD h.good ho hno hl
 refine⟨fun x=>?_,?_,List.pairwise_append.2 ⟨hi.ap,List.pairwise_singleton _ _,fun a ha' b hb=>?_⟩,.inr ⟨o,by simp,by rw[ha];rfl⟩⟩
 ·show x∈opsG (fB m.log o)↔_
  rw[e,uB,hi.mem,List.mem_append,List.mem_singleton,Or.comm]
 ·show(fB m.log o).entries.length=_
  rw[←wI,e,aDq,wI,hi.len,List.length_append];rfl
 ·rw[List.mem_singleton]at hb;subst hb
  exact hno a ((hi.mem a).2 ha')
theorem oi_merge{m:Mdl}{ops l:List Opn}(h:MI m)(hi:OI m ops)(ho:∀o∈l,opOk o=true)(hc:m.log.entries.length+(freshN m.log [] l).length≤200):OI (mergeM m l) (ops++freshN m.log [] l):=by
 obtain⟨f1,f2⟩:=bCh m.log l [] .nil (fun o ho=>by cases ho)
 have hfo:∀o∈freshN m.log [] l,opOk o=true:=fun o hx=>by
  rcases aYl _ _ _ o hx with h|h
  ·cases h
  ·exact ho o h
 obtain⟨a1,a2⟩:=aKl (freshN m.log [] l) h.good hfo f1 f2 hc
 refine⟨fun x=>?_,?_,List.pairwise_append.2 ⟨hi.ap,f1,fun a ha b hb=>f2 b hb a ((hi.mem a).2 ha)⟩,?_⟩
 ·show x∈opsG (lV m.log (freshN m.log [] l))↔_
  rw[a1,hi.mem,List.mem_append]
 ·show(lV m.log (freshN m.log [] l)).entries.length=_
  rw[a2,hi.len,List.length_append]
 ·show l.foldl (fun n o=>aA3 n o.at_) m.seen=0∨∃o∈ops++freshN m.log [] l,o.at_.c=l.foldl (fun n o=>aA3 n o.at_) m.seen
  rcases seen_top l m.seen with e|⟨o,hol,e⟩
  ·rw[e]
   rcases hi.top with e0|⟨o,ho2,e0⟩
   ·exact .inl e0
   ·exact .inr ⟨o,List.mem_append_left _ ho2,e0⟩
  ·refine .inr ?_
   rcases(fresh_has m.log l []).2 o hol with hh|⟨f,hf,ef⟩
   ·obtain⟨x,hx,ex⟩:=(has_op _ _).1 hh
    exact⟨x,List.mem_append_left _ ((hi.mem x).1 hx),by rw[ex];exact e⟩
   ·exact⟨f,List.mem_append_right _ hf,by rw[ef];exact e⟩
theorem bCi{m:Mdl}{ops:List Opn}(h:MI m)(hi:OI m ops)(c:Cal):OI (doM m c).1 (ops++(doM m c).2.2):=by
 have hs:=aBj h c
 generalize doM m c=r at hs ⊢
 cases hs with
 |err e he=>simpa using hi
 |put o hk hn ho ha=>exact oi_tell (oi_put h hi hn ho ha)
 |keep m' a ha h1 h2 h3 h4=>simp only[List.append_nil];exact⟨by rw[h1];exact hi.mem,by rw[h1];exact hi.len,hi.ap,by rw[h2];exact hi.top⟩
 |merge l hk hr hc=>
  have:=oi_merge h hi (bCf hr) hc
  simp only
  split
  ·exact this
  ·exact oi_tell this
theorem OI.ok{m:Mdl}{ops:List Opn}(h:MI m)(hi:OI m ops):∀o∈ops,opOk o=true:=fun o ho=>h.good.ok o ((hi.mem o).2 ho)
theorem OI.le{m:Mdl}{ops:List Opn}(h:MI m)(hi:OI m ops):∀o∈ops,o.at_.c≤m.seen:=fun o ho=>h.cnt o ((hi.mem o).2 ho)
theorem fold_ok(l:List Opn)(h:∀o∈l,opOk o=true):∀n:Int,l.foldl (fun n o=>if opOk o=true then aA3 n o.at_ else n) n=l.foldl (fun n o=>aA3 n o.at_) n:=by
 induction l with
 |nil=>exact fun n=>rfl
 |cons o l ih=>
  intro n
  rw[List.foldl_cons,List.foldl_cons,if_pos (h o (by simp))]
  exact ih (fun x hx=>h x (List.mem_cons_of_mem _ hx)) _
theorem top_one{a b:Int}{l:List Opn}(ha:0≤a)(h1:∀o∈l,o.at_.c≤a)(h2:a=0∨∃o∈l,o.at_.c=a)(hb:0≤b)(h3:∀o∈l,o.at_.c≤b)(h4:b=0∨∃o∈l,o.at_.c=b):a=b:=by
 rcases h2 with e|⟨x,hx,e⟩<;>rcases h4 with f|⟨y,hy,f⟩
 ·omega
 ·have:=h1 y hy;omega
 ·have:=h3 x hx;omega
 ·have:=h1 y hy;have:=h3 x hx;omega
theorem aYn{m n:Mdl}{ops t:List Opn}(h:MI m)(hi:OI m ops)(hn:MI n)(hl:n.log=⟨[],[]⟩)(hs:n.seen=0)(hp:t.Perm ops):(jH n t).log=m.log∧(jH n t).seen=m.seen:=by
 have hok:∀o∈t,opOk o=true:=fun o ho=>hi.ok h o (hp.mem_iff.1 ho)
 have hap:t.Pairwise (fun a b=>a.at_≠b.at_):=(hp.pairwise_iff (fun{a b:Opn} (h:a.at_≠b.at_) (e:b.at_=a.at_)=>h e.symm)).2 hi.ap
 have hcap:=h.cap
 have hlen:=hi.len
 have htl:=hp.length_eq
 obtain⟨a1,a2⟩:=aKl t hn.good hok hap (by rw[hl];intro o _ x hx;simp[opsG]at hx) (by rw[hl];simp only[List.length_nil];omega)
 refine⟨bCd (aGL hn.good t) h.good fun x=>?_,?_⟩
 ·show x∈opsG (lV n.log t)↔_
  rw[a1,hl,hi.mem]
  simp[opsG,hp.mem_iff]
 ·show t.foldl (fun n o=>if opOk o=true then aA3 n o.at_ else n) n.seen=m.seen
  rw[fold_ok t hok,hs]
  obtain⟨s1,s2⟩:=seen_fold t 0
  refine top_one (l:=ops) s1 (fun o ho=>s2 o (hp.mem_iff.2 ho) (hi.ok h o ho)) ?_ h.seen (hi.le h) hi.top
  rcases seen_top t 0 with e|⟨o,ho,e⟩
  ·exact .inl e
  ·exact .inr ⟨o,hp.mem_iff.1 ho,e⟩
theorem bDE{m n:Mdl}{a b:List Opn}(h:MI m)(hi:OI m a)(k:MI n)(ki:OI n b)(hd:∀x∈a,∀y∈b,x.at_≠y.at_)(hc:a.length+b.length≤200):
  (jH m (opsG n.log)).log=(jH n (opsG m.log)).log∧(jH m (opsG n.log)).seen=(jH n (opsG m.log)).seen:=by
 have ap:∀{m:Mdl},MI m→(opsG m.log).Pairwise (fun a b=>a.at_≠b.at_):=fun{m} h=>h.good.srt.imp fun hl e=>by
  rw[e]at hl;rw[nO]at hl;cases hl
 have ha:=hi.len
 have hb:=ki.len
 obtain⟨a1, -⟩:=aKl (opsG n.log) h.good k.good.ok (ap k) (fun o ho x hx=>hd x ((hi.mem x).1 hx) o ((ki.mem o).1 ho)) (by rw[wI];omega)
 obtain⟨b1, -⟩:=aKl (opsG m.log) k.good h.good.ok (ap h) (fun o ho x hx e=>hd o ((hi.mem o).1 ho) x ((ki.mem x).1 hx) e.symm) (by rw[wI];omega)
 refine⟨bCd (aGL h.good _) (aGL k.good _)fun x=>?_,?_⟩
 ·show x∈opsG (lV m.log _)↔x∈opsG (lV n.log _)
  rw[a1,b1,Or.comm]
 ·show(opsG n.log).foldl (fun n o=>if opOk o=true then aA3 n o.at_ else n) m.seen=(opsG m.log).foldl (fun n o=>if opOk o=true then aA3 n o.at_ else n) n.seen
  rw[fold_ok _ k.good.ok,fold_ok _ h.good.ok]
  obtain⟨s1,s2⟩:=seen_fold (opsG n.log) m.seen
  obtain⟨t1,t2⟩:=seen_fold (opsG m.log) n.seen
  have h0:=h.seen
  have k0:=k.seen
  have up:∀{m:Mdl} {a:List Opn} {s:Int},MI m→OI m a→0≤s→(∀x∈opsG m.log,opOk x=true→x.at_.c≤s)→m.seen≤s:=fun{m a s} h hi h0 hs=>by
   rcases hi.top with e|⟨o,ho,e⟩
   ·omega
   ·rw[←e];exact hs o ((hi.mem o).2 ho) (hi.ok h o ho)
  have q1:=up k ki (by omega) s2
  have q2:=up h hi (by omega) t2
  rcases seen_top (opsG n.log) m.seen with e|⟨o,ho,e⟩<;>rcases seen_top (opsG m.log) n.seen with f|⟨p,hp,f⟩
  ·omega
  ·have:=h.cnt p hp;omega
  ·have:=k.cnt o ho;omega
  ·have:=h.cnt p hp;have:=k.cnt o ho;omega
end Go.Gw
/- What is made is new, and what is written is read, in plain Lean. No condition. -/
namespace Go.Gw
open Go Go.Aw Go.Proofs.YthhdnjiodklmmaaGreatDoor
theorem ins_last{l:List Opn}{o:Opn}(h:∀x∈l,fH o.at_ x.at_=false):aAf o l=l++[o]:=by
 have h1:iS o l=l:=by
  have:=aHI (fun x=> !fH o.at_ x.at_) l [] (fun x hx=>by rw[h x hx];rfl) (fun x hx=>by cases hx)
  rwa[List.append_nil]at this
 have h2:nU o l=[]:=by
  have e:=congrArg List.length (kQ o l)
  rw[h1,List.length_append]at e
  exact List.eq_nil_of_length_eq_zero (by omega)
 rw[aAf,h1,h2]
theorem put_nodes{m:Mdl}(h:MI m){o:Opn}(hn:(nextD m).2=0)(ho:opOk o=true)(ha:o.at_=⟨m.seen+1,m.rep⟩):(putM m o).log.nodes=kX m.log.nodes o:=by
 have hl:=(bDC hn).2.2.2.2.2
 have hno:∀x∈opsG m.log,x.at_≠o.at_:=fun x hx e=>by have:=h.cnt x hx;rw[e,ha]at this;simp only at this;omega
 have e:=bDD h.good ho hno hl
 have hlast:∀x∈opsG m.log,fH o.at_ x.at_=false:=fun x hx=>by
  have:=h.cnt x hx
  rw[aKb,ha]
  simp only
  omega
 show(fB m.log o).nodes=_
 rw[aCK (aBe h.good o).1,e,ins_last hlast,List.foldl_append,←aCK h.good]
 rfl
theorem above_mem(l:List Nd):∀(k:Nat) (id x:Int),x∈eR l k id→∃n∈l,n.parent=x:=by
 intro k
 induction k with
 |zero=>intro id x h;simp[eR]at h
 |succ k ih=>
  intro id x h
  rw[eR]at h
  cases hf:nK l id with
  |none=>rw[hf]at h;simp at h
  |some n=>
   rw[hf]at h
   simp only at h
   split at h
   ·simp at h
   ·rcases List.mem_cons.1 h with rfl|h
    ·exact⟨n,(bEz hf).1,rfl⟩
    ·exact ih _ _ h
theorem id_lt{q x y:Int}(hx:iZ x=true)(h:oA x≤q)(hy:iZ y=true)(h2:q<oA y):x<y:=by
 unfold oA at h h2
 rw[if_pos hx]at h
 rw[if_pos hy]at h2
 omega
theorem born_nodes{m:Mdl}(h:MI m){o:Opn}(hk:o.kind=1)(ho:opOk o=true)(hid:iZ o.node=true)(hA:oA o.node=m.seen+1)(hp:oA o.parent≤m.seen):
  kX m.log.nodes o=m.log.nodes++[⟨o.node,o.parent,o.name,o.at_,[],st0⟩]:=by
 have hN:=h.nodes
 obtain⟨l,hl⟩:∃l,l=m.log.nodes:=⟨_,rfl⟩
 rw[←hl]at hN ⊢
 have hlt:∀n∈l,n.id<o.node:=fun n hn=>id_lt (chk_of hN.frs hn) (hN.nd n hn).id hid (by omega)
 have hfn:nK l o.node=none:=by
  unfold nK
  rw[List.find?_eq_none]
  intro n hn;have:=hlt n hn;simp;omega
 have hr:cA l o=false:=by
  unfold cA
  rw[hN.frs.chk,ho,hk]
  simp only[Bool.not_true,Bool.false_or,decide_true,Bool.true_and]
  unfold pM
  rw[Bool.or_eq_false_iff]
  refine⟨by simp only[decide_eq_false_iff_not];intro e;rw[e]at hp;omega,?_⟩
  rw[List.any_eq_false]
  intro x hx
  simp only[decide_eq_true_eq]
  rintro rfl
  obtain⟨n,hn,e⟩:=above_mem l _ _ _ hx
  have:=(hN.nd n hn).par
  rw[e]at this
  omega
 rw[kP hr]
 have hnn:cJ l o=⟨o.node,o.parent,o.name,o.at_,[],st0⟩:=by
  rw[qT hk,hfn]
  unfold fA
  rw[hfn]
  rfl
 rw[hnn]
 have hpos:pos l o.node=l.length:=by
  have:=bDw (A:=l) (B:=[]) (id:=o.node) hlt (fun _ hx=>by cases hx)
  rwa[List.append_nil]at this
 have hup:upto l o.node=l.length:=by
  unfold upto had
  rw[hfn,hpos];rfl
 exact aGF _ (A:=l) (B:=[]) (by show l=l.take (pos l o.node);rw[hpos,List.take_length]) (by show[]=l.drop (upto l o.node);rw[hup,List.drop_length])
theorem look_set(s:Txt)(n:Nd)(m:List (Txt×Nd)):fS s (jA s n m)=some n:=by
 induction m with
 |nil=>simp[jA,fS]
 |cons p m ih=>
  obtain⟨k,x⟩:=p
  unfold jA
  by_cases h:k=s
  ·rw[if_pos h];simp[fS]
  ·rw[if_neg h,fS,if_neg h,ih]
theorem look_ne{s t:Txt}(h:s≠t)(n:Nd)(m:List (Txt×Nd)):fS t (jA s n m)=fS t m:=by
 induction m with
 |nil=>simp[jA,fS,h]
 |cons p m ih=>
  obtain⟨k,x⟩:=p
  unfold jA
  by_cases hk:k=s
  ·rw[if_pos hk,fS,fS,if_neg h,if_neg (by rw[hk];exact h)]
  ·rw[if_neg hk,fS,fS,ih]
theorem seen_snoc(l:List Nd)(n:Nd)(dir:Int):dS (l++[n]) dir=rX dir (dS l dir) n:=by simp[dS,List.foldl_append]
theorem child_new{l:List Nd}{n:Nd}{dir:Int}(hc:chk (l++[n])=true)(hcl:chk l=true)(hp:n.parent=dir)(hm:okI n.moved.c n.moved.r=true)(h:childN l dir n.name=none):childN (l++[n]) dir n.name=some n:=by
 unfold childN at h ⊢
 rw[if_pos hc,seen_snoc]
 rw[if_pos hcl]at h
 unfold rX inD
 rw[if_pos (by simp[hp,hm])]
 unfold zM
 rw[h]
 exact look_set _ _ _
theorem child_old{l:List Nd}{n:Nd}{dir:Int}{s:Txt}(hc:chk (l++[n])=true)(hcl:chk l=true)(h:¬(n.parent=dir∧n.name=s)):childN (l++[n]) dir s=childN l dir s:=by
 unfold childN
 rw[if_pos hc,if_pos hcl,seen_snoc]
 unfold rX
 split
 ·rename_i hi
  have hp:n.parent=dir:=by simp[inD]at hi;exact hi.1
  have hne:n.name≠s:=fun e=>h ⟨hp,e⟩
  unfold zM
  split
  ·exact look_ne hne _ _
  ·split
   ·rfl
   ·exact look_ne hne _ _
 ·rfl
theorem path_app(l:List Nd)(b:List Txt):∀(a:List Txt) (x:Int),aAQ l x (a++b)=if(aAQ l x a).2=0 then aAQ l (aAQ l x a).1 b else aAQ l x a:=by
 intro a
 induction a with
 |nil=>intro x;rw[List.nil_append,aAQ,if_pos rfl]
 |cons s a ih=>
  intro x
  rw[List.cons_append,aAQ,aAQ]
  split
  ·cases childN l x s with
   |none=>simp
   |some n=>exact ih n.id
  ·simp
theorem path_keep{l l':List Nd}(hs:∀(x:Int) (t:Txt) (n:Nd),childN l x t=some n→∃n',childN l' x t=some n'∧n'.id=n.id):∀(names:List Txt) (x d:Int),aAQ l x names=(d,0)→aAQ l' x names=(d,0):=by
 intro names
 induction names with
 |nil=>intro x d h;exact h
 |cons s names ih=>
  intro x d h
  rw[aAQ]at h ⊢
  split at h
  ·rename_i hd
   rw[if_pos hd]
   cases hc:childN l x s with
   |none=>rw[hc]at h;cases h
   |some n=>
    rw[hc]at h
    obtain⟨n',e1,e2⟩:=hs x s n hc
    rw[e1]
    simp only
    rw[e2]
    exact ih _ _ h
  ·cases h
theorem abv_names{l:List Nd}{p:Txt}{dir:Int}{s:Txt}(h:abvN l p=(dir,s,0)):∃ns,fZ p=some (ns++[s])∧sZ l ns=(dir,0)∧dirI dir=true:=by
 unfold abvN at h
 split at h
 ·cases h
 ·cases h
 ·rename_i x xs hn
  split at h
  ·rename_i h0
   split at h
   ·rename_i hd
    cases h
    exact⟨(x::xs).dropLast,by rw[hn,List.dropLast_concat_getLast],by rw[←h0],hd⟩
   ·cases h
  ·rename_i h0;exact absurd (congrArg (fun z=>z.2.2) h) h0
theorem abv_mk{l:List Nd}{p:Txt}{ns:List Txt}{s:Txt}{dir:Int}(hn:fZ p=some (ns++[s]))(hf:sZ l ns=(dir,0))(hd:dirI dir=true):abvN l p=(dir,s,0):=by
 unfold abvN
 split
 ·rename_i h;rw[hn]at h;cases h
 ·rename_i h;rw[hn]at h;simp at h
 ·rename_i x xs h
  rw[hn]at h
  have h:=Option.some.inj h
  have e1:(x::xs).dropLast=ns:=by rw[←h,List.dropLast_concat]
  have e2:(x::xs).getLast (by simp)=s:=by simp only[←h,List.getLast_concat]
  rw[e1,e2,hf]
  simp[hd]
def bornN(m:Mdl)(c:Cal)(dir:Int)(s:Txt):Nd:=⟨idI (m.seen+1) m.rep (decide (c.kind=1)),dir,s,⟨m.seen+1,m.rep⟩,[],st0⟩
structure Made (m:Mdl) (c:Cal) (dir:Int) (s:Txt):Prop where
 does:doM m c=(tellM m (putM m (bornO m c dir s)),an0,[bornO m c dir s])
 chk:chkC c=true
 root:c.path≠[47]
 abv:abvN m.log.nodes c.path=(dir,s,0)
 none_:childN m.log.nodes dir s=none
 nodes:(putM m (bornO m c dir s)).log.nodes=m.log.nodes++[bornN m c dir s]
 new:∀n∈m.log.nodes,n.id≠idI (m.seen+1) m.rep (decide (c.kind=1))∧n.parent≠idI (m.seen+1) m.rep (decide (c.kind=1))
 ne:dir≠idI (m.seen+1) m.rep (decide (c.kind=1))
 chks:Go.Gw.chk (m.log.nodes++[bornN m c dir s])=true
 dir_:dirI (idI (m.seen+1) m.rep (decide (c.kind=1)))= !decide (c.kind=1)
 child:childN (m.log.nodes++[bornN m c dir s]) dir s=some (bornN m c dir s)
theorem aKm{m:Mdl}{c:Cal}(h0:(doM m c).2.1.err=0):chkC c=true∧(fQ c ⟨m,an0,[]⟩).1=0:=by
 unfold doM at h0
 split at h0
 ·cases h0
 ·rename_i hc
  split at h0
  ·rename_i hw;exact⟨by simpa using hc,hw⟩
  ·rename_i hw;exact absurd h0 hw
theorem bE0{m:Mdl}(h:MI m){c:Cal}(hk:c.kind=1∨c.kind=2)(h0:(doM m c).2.1.err=0):∃dir s,Made m c dir s:=by
 obtain⟨hc,hw⟩:=aKm h0
 have hwd:fQ c ⟨m,an0,[]⟩=aMc c ⟨m,an0,[]⟩:=by unfold fQ;rw[if_pos hk]
 rw[hwd]at hw
 rcases born_shape (c:=c) (d:=⟨m,an0,[]⟩) h with⟨e,he,e1⟩|⟨dir,s,e1,e2,e3,e4,e5,e6⟩
 ·rw[e1]at hw;exact absurd hw he
 simp only at e2 e3 e4 e5 e6
 obtain⟨n1,n2,n3,n4,n5,n6⟩:=bDC e4
 obtain⟨i1,i2,i3,i4⟩:=oA_id (d:=decide (c.kind=1)) (show 1≤m.seen+1 by omega) (show m.seen+1≤1048576 by omega) n4 n5
 obtain⟨a1,a2,a3⟩:=abv_of h.nodes h.seen e2
 have hnodes:(putM m (bornO m c dir s)).log.nodes=m.log.nodes++[bornN m c dir s]:=by
  rw[put_nodes h e4 e5 rfl,born_nodes h rfl e5 i1 i2 a2]
  rfl
 have hchk:chk (m.log.nodes++[bornN m c dir s])=true:=by
  rw[←hnodes,put_nodes h e4 e5 rfl,aKg,h.nodes.frs.chk]
 refine⟨dir,s,?_,hc,e1,e2,e3,hnodes,fun n hn=>?_,fun e=>?_,hchk,?_,?_⟩
 ·unfold doM
  rw[if_neg (by rw[hc];simp),hwd,e6]
  rfl
 ·have q:=h.nodes.nd n hn
  have q1:=q.id
  have q2:=q.par
  exact⟨fun e=>by rw[e,i2]at q1;omega,fun e=>by rw[e,i2]at q2;omega⟩
 ·rw[e,i2]at a2;omega
 ·unfold dirI
  rw[i1,i4]
  have:128≤idI (m.seen+1) m.rep (decide (c.kind=1)):=(aF5.1 i1).1
  rw[decide_eq_false (by omega),decide_eq_false (by omega)]
  rfl
 ·exact child_new (n:=bornN m c dir s) hchk h.nodes.frs.chk rfl (by rw[aAM];exact⟨by simp only[bornN];omega,by simp only[bornN];omega,n4,n5⟩) e3
theorem Made.find{m:Mdl}{c:Cal}{dir:Int}{s:Txt}(h:MI m)(k:Made m c dir s):∃ns,fZ c.path=some (ns++[s])∧sZ (m.log.nodes++[bornN m c dir s]) ns=(dir,0)∧dirI dir=true∧
  sZ (m.log.nodes++[bornN m c dir s]) (ns++[s])=(idI (m.seen+1) m.rep (decide (c.kind=1)),0):=by
 obtain⟨ns,hn,hf,hd⟩:=abv_names k.abv
 have hf':sZ (m.log.nodes++[bornN m c dir s]) ns=(dir,0):=by
  refine path_keep (fun x t n hx=>⟨n,?_,rfl⟩) ns 0 dir hf
  rw[child_old k.chks h.nodes.frs.chk,hx]
  rintro⟨rfl,rfl⟩
  have:=k.none_
  rw[show childN m.log.nodes dir s=some n from hx]at this
  cases this
 refine⟨ns,hn,hf',hd,?_⟩
 unfold sZ at hf' ⊢
 rw[path_app,hf']
 simp only[if_true]
 rw[aAQ,if_pos hd,k.child]
 rfl
theorem seen_none{l:List Nd}{dir:Int}(h:∀n∈l,n.parent≠dir):dS l dir=[]:=by
 unfold dS
 have key:∀(l:List Nd),(∀n∈l,n.parent≠dir)→l.foldl (rX dir) []=[]:=by
  intro l
  induction l with
  |nil=>intro _;rfl
  |cons n l ih=>
   intro h
   rw[List.foldl_cons]
   have:rX dir [] n=[]:=by unfold rX inD;rw[if_neg (by simp[h n (by simp)])]
   rw[this]
   exact ih fun x hx=>h x (List.mem_cons_of_mem _ hx)
 exact key l h
theorem at_mk{l:List Nd}{p:Txt}{ns:List Txt}(hn:fZ p=some ns):atN l p=sZ l ns:=by unfold atN;rw[hn]
theorem chk_path{c:Cal}(hk:c.kind=1∨c.kind=2∨c.kind=3)(h:chkC c=true):kO c.path=true∧c.to=[]:=by
 unfold chkC at h
 rcases hk with e|e|e<;>rw[e]at h
 ·have hp:mA 1=some 1:=rfl
  rw[hp]at h
  simp only[Bool.and_eq_true]at h
  exact⟨by have:=h.1;rw[mJ,if_neg (by decide)]at this;exact this,by have:=h.2.1;rw[mJ,if_pos (by decide)]at this;simpa using this⟩
 ·have hp:mA 2=some 1:=rfl
  rw[hp]at h
  simp only[Bool.and_eq_true]at h
  exact⟨by have:=h.1;rw[mJ,if_neg (by decide)]at this;exact this,by have:=h.2.1;rw[mJ,if_pos (by decide)]at this;simpa using this⟩
 ·have hp:mA 3=some 5:=rfl
  rw[hp]at h
  simp only[Bool.and_eq_true]at h
  exact⟨by have:=h.1;rw[mJ,if_neg (by decide)]at this;exact this,by have:=h.2.1;rw[mJ,if_pos (by decide)]at this;simpa using this⟩
def aF(k:Int)(p:Txt)(n:Int):Cal:=⟨k,p,[],[],n⟩
theorem chk_ask{k:Int}{p:Txt}{n:Int}(hk:k=4∨k=7)(hp:kO p=true)(hn:0≤n):chkC (aF k p n)=true:=by
 unfold chkC aF
 rcases hk with rfl|rfl
 ·have hq:mA 4=some 9:=rfl
  simp only[hq]
  unfold mJ
  rw[if_neg (show ¬dZ .and .i64 9 1=0 by decide),if_pos (show dZ .and .i64 9 2=0 by decide),if_pos (show dZ .and .i64 9 4=0 by decide),if_neg (show ¬dZ .and .i64 9 8=0 by decide)]
  simp[hp,hn]
 ·have hq:mA 7=some 9:=rfl
  simp only[hq]
  unfold mJ
  rw[if_neg (show ¬dZ .and .i64 9 1=0 by decide),if_pos (show dZ .and .i64 9 2=0 by decide),if_pos (show dZ .and .i64 9 4=0 by decide),if_neg (show ¬dZ .and .i64 9 8=0 by decide)]
  simp[hp,hn]
def mapP(g:Nd→Nd)(m:List (Txt×Nd)):List (Txt×Nd):=m.map fun p=>(p.1,g p.2)
section
variable {g:Nd→Nd} (hn:∀n,(g n).name=n.name) (hp:∀n,(g n).parent=n.parent) (hm:∀n,(g n).moved=n.moved)
theorem look_map(s:Txt)(m:List (Txt×Nd)):fS s (mapP g m)=(fS s m).map g:=by
 induction m with
 |nil=>rfl
 |cons p m ih=>
  obtain⟨k,x⟩:=p
  show fS s ((k,g x)::mapP g m)=_
  rw[fS,fS]
  split
  ·rfl
  ·exact ih
theorem set_map(s:Txt)(n:Nd)(m:List (Txt×Nd)):jA s (g n) (mapP g m)=mapP g (jA s n m):=by
 induction m with
 |nil=>rfl
 |cons p m ih=>
  obtain⟨k,x⟩:=p
  show jA s (g n) ((k,g x)::mapP g m)=_
  rw[jA,jA]
  split
  ·rfl
  ·rw[ih];rfl
include hn hm in
theorem putV_map(n:Nd)(m:List (Txt×Nd)):zM (mapP g m) (g n)=mapP g (zM m n):=by
 unfold zM
 rw[hn,look_map]
 cases fS n.name m with
 |none=>exact set_map _ _ _
 |some o=>
  simp only[Option.map_some]
  rw[hm,hm]
  split
  ·rfl
  ·exact set_map _ _ _
include hn hp hm in
theorem seen_map(dir:Int)(l:List Nd):dS (l.map g) dir=mapP g (dS l dir):=by
 have key:∀(l:List Nd) (m:List (Txt×Nd)),(l.map g).foldl (rX dir) (mapP g m)=mapP g (l.foldl (rX dir) m):=by
  intro l
  induction l with
  |nil=>exact fun m=>rfl
  |cons n l ih=>
   intro m
   rw[List.map_cons,List.foldl_cons,List.foldl_cons,←ih]
   congr 1
   unfold rX inD
   rw[hp,hm]
   split
   ·exact putV_map hn hm n m
   ·rfl
 exact key l []
include hn hp hm in
theorem child_map(l:List Nd)(hc:chk (l.map g)=chk l)(dir:Int)(s:Txt):childN (l.map g) dir s=(childN l dir s).map g:=by
 unfold childN
 rw[hc,seen_map hn hp hm,look_map]
 split<;>rfl
end
def wroteN(o:Opn)(n:Nd):Nd:=if n.id=o.node then{n with data:=o.data,wrote:=o.at_}else n
theorem wrote_nodes{l:List Nd}(hf:Frs l){o:Opn}(hk:o.kind=2)(ho:opOk o=true)(hh:∃n∈l,n.id=o.node):kX l o=l.map (wroteN o)∧cA l o=false:=by
 have hr:cA l o=false:=by
  unfold cA
  rw[hf.chk,ho,hk]
  rfl
 refine⟨?_,hr⟩
 rw[kP hr]
 obtain⟨A,B,hA,hB,eA,eB,⟨e,hno⟩|⟨n,hn,e, -⟩⟩:=aBc hf.chk o.node
 ·obtain⟨n,hm,hn⟩:=hh
  rw[e]at hm
  rcases List.mem_append.1 hm with hm|hm
  ·have:=hA n hm;omega
  ·have:=hB n hm;omega
 ·have hfn:nK l o.node=some n:=by rw[e];exact tZ hA hn
  have hnew:cJ l o=wroteN o n:=by
   unfold cJ fA wroteN
   rw[hfn,hk,if_pos hn]
   rfl
  have hid:(wroteN o n).id=o.node:=by unfold wroteN;rw[if_pos hn];exact hn
  rw[hnew,e,aJ8 (n:=wroteN o n) (by rw[hid];exact hA) (by rw[hid];exact hn),List.map_append,List.map_cons]
  have k1:A.map (wroteN o)=A:=by
   conv=>rhs;rw[←List.map_id A]
   refine List.map_congr_left fun x hx=>?_
   have:=hA x hx
   unfold wroteN;rw[if_neg (by omega)];rfl
  have k2:B.map (wroteN o)=B:=by
   conv=>rhs;rw[←List.map_id B]
   refine List.map_congr_left fun x hx=>?_
   have:=hB x hx
   unfold wroteN;rw[if_neg (by omega)];rfl
  rw[k1,k2]
theorem wroteN_id(o:Opn)(n:Nd):(wroteN o n).id=n.id∧(wroteN o n).name=n.name∧(wroteN o n).parent=n.parent∧(wroteN o n).moved=n.moved:=by
 unfold wroteN;split<;>exact⟨rfl,rfl,rfl,rfl⟩
structure Written (m:Mdl) (c:Cal) (id:Int):Prop where
 does:doM m c=(tellM m (putM m (writeO m c id)),an0,[writeO m c id])
 chk:chkC c=true
 file:dirI id=false
 at_:atN (putM m (writeO m c id)).log.nodes c.path=(id,0)
 data:((findI (putM m (writeO m c id)).log.nodes id).getD nd0).data=c.data
theorem written{m:Mdl}(h:MI m){c:Cal}(hk:c.kind=3)(h0:(doM m c).2.1.err=0):∃id,Written m c id:=by
 obtain⟨hc,hw⟩:=aKm h0
 have hwd:fQ c ⟨m,an0,[]⟩=aGv c ⟨m,an0,[]⟩:=by unfold fQ;rw[if_neg (by omega),if_pos hk]
 rw[hwd]at hw
 rcases write_shape (c:=c) (d:=⟨m,an0,[]⟩) h (chk_data hc hk)with⟨e,he,e1⟩|⟨id,e1,e2,e3,e4,e5⟩
 ·rw[e1]at hw;exact absurd hw he
 simp only at e1 e3 e4 e5
 obtain⟨ns,hns,hat⟩:=at_mem e1
 have hin:∃n∈m.log.nodes,n.id=id:=by
  rcases hat with⟨-,e⟩|hat
  ·rw[e]at e2;cases e2
  ·exact hat
 obtain⟨w1,w2⟩:=wrote_nodes (o:=writeO m c id) h.nodes.frs rfl e4 hin
 have hnodes:(putM m (writeO m c id)).log.nodes=m.log.nodes.map (wroteN (writeO m c id)):=by rw[put_nodes h e3 e4 rfl,w1]
 have hchk:chk (m.log.nodes.map (wroteN (writeO m c id)))=chk m.log.nodes:=by rw[←w1,aKg]
 refine⟨id,?_,hc,e2,?_,?_⟩
 ·unfold doM
  rw[if_neg (by rw[hc];simp),hwd,e5]
  rfl
 ·rw[hnodes,at_mk hns]
  rw[at_mk hns]at e1
  refine path_keep (fun x t n hx=>⟨wroteN (writeO m c id) n,?_,(wroteN_id _ _).1⟩) ns 0 id e1
  rw[child_map (fun n=>(wroteN_id _ n).2.1) (fun n=>(wroteN_id _ n).2.2.1) (fun n=>(wroteN_id _ n).2.2.2) _ hchk,hx]
  rfl
 ·rw[put_nodes h e3 e4 rfl,bDy _ _ h.nodes.frs.chk w2,if_pos (show id=(writeO m c id).node from rfl),Option.getD_some,oD rfl]
  rfl
theorem doM_read{w:Mdl}{p:Txt}{id:Int}(hp:kO p=true)(ha:atN w.log.nodes p=(id,0))(hd:dirI id=false):doM w (aF 4 p 0)=(w,{an0 with data:=((findI w.log.nodes id).getD nd0).data},[]):=by
 unfold doM
 rw[if_neg (by rw[chk_ask (.inl rfl) hp (Int.le_refl _)];simp)]
 have hw:fQ (aF 4 p 0) ⟨w,an0,[]⟩=vZ (aF 4 p 0) ⟨w,an0,[]⟩:=by unfold fQ;rfl
 have hr:vZ (aF 4 p 0) ⟨w,an0,[]⟩=(0,⟨w,{an0 with data:=((findI w.log.nodes id).getD nd0).data},[]⟩):=by
  unfold vZ
  simp only[gN,aF,if_true]
  simp[ha,hd]
 rw[hw,hr]
 rfl
theorem doM_list{w:Mdl}{p:Txt}{id:Int}(hp:kO p=true)(ha:atN w.log.nodes p=(id,0))(hd:dirI id=true):doM w (aF 7 p 0)=(w,{an0 with names:=aGu w.log.nodes id},[]):=by
 unfold doM
 rw[if_neg (by rw[chk_ask (.inr rfl) hp (Int.le_refl _)];simp)]
 have hw:fQ (aF 7 p 0) ⟨w,an0,[]⟩=lsD (aF 7 p 0) ⟨w,an0,[]⟩:=by unfold fQ;rfl
 have hr:lsD (aF 7 p 0) ⟨w,an0,[]⟩=(0,⟨w,{an0 with names:=aGu w.log.nodes id},[]⟩):=by
  unfold lsD
  simp only[gN,aF,if_true]
  simp[ha,hd]
 rw[hw,hr]
 rfl
theorem chk_make{p:Txt}(hp:kO p=true):chkC (aF 1 p 0)=true:=by
 unfold chkC aF
 have hq:mA 1=some 1:=rfl
 simp only[hq]
 unfold mJ
 rw[if_neg (show ¬dZ .and .i64 1 1=0 by decide),if_pos (show dZ .and .i64 1 2=0 by decide),if_pos (show dZ .and .i64 1 4=0 by decide),if_pos (show dZ .and .i64 1 8=0 by decide)]
 simp[hp]
theorem doM_there{w:Mdl}{p:Txt}{dir:Int}{s:Txt}{n:Nd}(hp:kO p=true)(hr:p≠[47])(ha:abvN w.log.nodes p=(dir,s,0))(hc:childN w.log.nodes dir s=some n):doM w (aF 1 p 0)=(w,errA 190,[]):=by
 unfold doM
 rw[if_neg (by rw[chk_make hp];simp)]
 have hw:fQ (aF 1 p 0) ⟨w,an0,[]⟩=aMc (aF 1 p 0) ⟨w,an0,[]⟩:=by unfold fQ;rfl
 have hb:aMc (aF 1 p 0) ⟨w,an0,[]⟩=(190,⟨w,an0,[]⟩):=by
  unfold aMc
  rw[if_neg (by exact hr)]
  simp only[aF]
  simp[ha,hc]
 rw[hw,hb]
 rfl
theorem aMg{m:Mdl}(h:MI m){c:Cal}(hk:c.kind=3)(h0:(doM m c).2.1.err=0):(doM (doM m c).1 (aF 4 c.path 0)).2.1={an0 with data:=c.data}:=by
 obtain⟨id,w⟩:=written h hk h0
 rw[w.does]
 have:=doM_read (w:=tellM m (putM m (writeO m c id))) (chk_path (.inr (.inr hk)) w.chk).1 w.at_ w.file
 rw[this]
 simp only
 rw[show(tellM m (putM m (writeO m c id))).log=(putM m (writeO m c id)).log from rfl,w.data]
theorem aRl{m:Mdl}(h:MI m){c:Cal}(hk:c.kind=2)(h0:(doM m c).2.1.err=0):(doM (doM m c).1 (aF 7 c.path 0)).2.1=an0∧(doM (doM m c).1 (aF 1 c.path 0)).2.1=errA 190:=by
 obtain⟨dir,s,k⟩:=bE0 h (.inr hk) h0
 obtain⟨ns,hn,hf,hd,hfi⟩:=k.find h
 have hp:=(chk_path (.inr (.inl hk)) k.chk).1
 have hno:decide (c.kind=1)=false:=decide_eq_false (by omega)
 rw[k.does]
 simp only
 have hlog:(tellM m (putM m (bornO m c dir s))).log.nodes=m.log.nodes++[bornN m c dir s]:=k.nodes
 constructor
 ·rw[doM_list hp (id:=idI (m.seen+1) m.rep (decide (c.kind=1))) (by rw[hlog,at_mk hn];exact hfi) (by rw[k.dir_,hno];rfl)]
  simp only
  rw[hlog]
  have:aGu (m.log.nodes++[bornN m c dir s]) (idI (m.seen+1) m.rep (decide (c.kind=1)))=[]:=by
   unfold aGu
   rw[if_pos k.chks,seen_none]
   ·simp[mY]
   ·intro n hn'
    rcases List.mem_append.1 hn' with hn'|hn'
    ·exact(k.new n hn').2
    ·rw[List.mem_singleton]at hn';subst hn';exact k.ne
  rw[this]
  rfl
 ·rw[doM_there hp k.root (by rw[hlog];exact abv_mk hn hf hd) (by rw[hlog];exact k.child)]
end Go.Gw
