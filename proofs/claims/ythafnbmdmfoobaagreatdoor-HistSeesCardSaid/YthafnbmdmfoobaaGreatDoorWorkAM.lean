/- What the functions of this seat answer (13 of 40). No condition. -/
import Derived.Test.YthafnbmdmfoobaaGreatDoorWorkAK
set_option linter.unusedSimpArgs false
set_option linter.unusedVariables false
set_option linter.unusedSectionVars false
set_option maxRecDepth 100000
set_option maxHeartbeats 16000000
namespace Go.Proofs.YthafnbmdmfoobaaGreatDoor
section
def aI{α:Type}(enc:α->I)(D:List α):List I:=(D.map enc).flatMap I.cells
section
variable {α:Type} {enc:α->I} {s:Nat}
theorem Hc:aI enc []=[]:=rfl
theorem iu(A B:List α):aI enc (A++B)=aI enc A++aI enc B:=by simp[aI]
theorem pK(x:α)(B:List α):aI enc (x::B)=(enc x).cells++aI enc B:=by simp[aI]
theorem dE(hs:∀x,(enc x).cells.length=s)(D:List α):(aI enc D).length=D.length * s:=by
 induction D with
 |nil=>simp[aI]
 |cons x D ay=>rw[pK,bt,ay,hs,cm,n1];omega
theorem aDt(hs:∀x,(enc x).cells.length=s){A R:List α}{x:α}{k:Nat}(h:A.length=k):List.take s (List.drop (k * s) (aI enc (A++x::R)))=(enc x).cells:=by
 have hl:=dE hs A;rw[h]at hl;rw[iu,<-hl,List.drop_left,pK,<-hs x,s0]
theorem om(hs:∀x,(enc x).cells.length=s){D:List α}{k:Nat}(h:k<D.length):List.take s (List.drop (k * s) (aI enc D))=(enc D[k]).cells:=by
 have e:D=D.take k++D[k]::D.drop (k+1):=by rw[<-eo h,jf]
 have:=aDt hs (A:=D.take k) (R:=D.drop (k+1)) (x:=D[k]) (k:=k) (by rw[e8];omega)
 rwa[<-e]at this
theorem w4(hs:∀x,(enc x).cells.length=s){D:List α}{k:Nat}(h:k<D.length)(y:α):dw (aI enc D) (k * s) (enc y).cells=aI enc (D.set k y):=by
 have hl:=dE hs (D.take k);rw[e8,uu (by omega)]at hl
 have e:D=D.take k++(D[k]::D.drop (k+1)):=by rw[<-eo h,jf]
 have au:=m0 (A:=aI enc (D.take k)) (B:=aI enc (D[k]::D.drop (k+1))) (off:=k * s) (X:=(enc y).cells) hl;rw[<-iu,<-e]at au;rw[au,K7,aF h,iu,pK,pK,show(enc y).cells.length=(enc D[k]).cells.length by rw[hs,hs],List.drop_left]
theorem oX(ae:∀x,bO (enc x))(D:List α):∀x∈aI enc D,bO x:=fun x J=>by
 unfold aI at J;rw[rZ]at J;obtain⟨y,aG,J⟩:=J;obtain⟨z, -,rfl⟩:=bP.1 aG;exact bO.cells (ae z) x J
theorem yN(ae:∀x,bO (enc x))(n v:Nat)(D:List α):dp n (.cells v (aI enc D)):=fun x J=>(oX ae D x J).cl n
theorem uQ{l:List α}{p:α->Bool}(h:eg p l= -1):l.filter (fun x=> !p x)=l:=by
 induction l with
 |nil=>rfl
 |cons x l ay=>
  unfold eg at h;by_cases ae:p x=true
  ·rw[aF ae]at h;cases h
  ·rw[az ae]at h;split at h
   ·rename_i h1;rw[mX,aF (by simp[ae]),ay h1]
   ·have:=GW p l;omega
theorem Gg{l:List α}{p:α->Bool}(h:eg p l≠ -1):∃A x B,l=A++x::B∧eg p l=A.length∧p x=true∧A.filter (fun x=> !p x)=A:=by
 induction l with
 |nil=>exact absurd rfl h
 |cons x l ay=>
  by_cases ae:p x=true
  ·exact⟨[],x,l,rfl,by simp[eg,ae],ae,rfl⟩
  ·unfold eg at h ⊢;rw[az ae]at h ⊢;by_cases h1:eg p l= -1
   ·rw[aF h1]at h;exact absurd rfl h
   ·rw[az h1];obtain⟨A,y,B,ar,au,bd,bE⟩:=ay h1;exact⟨x::A,y,B,by rw[ar];rfl,by rw[au];simp,bd,by rw[mX,aF (by simp[ae]),bE]⟩
end
end
section
theorem W5(l:List aB):∀e∈l.map aW,e.cells.length=8:=fun e he=>by
 obtain⟨x,_,rfl⟩:=bP.1 he;rfl
theorem aL6(l:List aB):(∀e∈l.map aW,e.cells.length=8)=True:=bJ (W5 l)
theorem Ya(l:List aB):∀e∈l.map aW,bO e:=fun e he=>by
 obtain⟨x,_,rfl⟩:=bP.1 he;first|exact(by simp only[go_sem])|(simp only[aW];exact(by simp only[go_sem]))
theorem YV(b:Bool)(l:List aB)(hl:l.length<=1073741824)(H:ab):aY Tryz.prog 68 [.sl b (l.map aW)] H (.sl false (l.map aW)):=by
 refine bh Tryz.func68 ?_;refine aT ?_;intro c al;cases c with
 |true=>
  have lZ:l=[]:=by
   cases l with
   |nil=>rfl
   |cons x l=>exact absurd (al (by simp)) (by decide)
  subst lZ;refine aT ?_;exact bC (.sl _ _)
 |false=>
  clear al;refine b0 @aL6 ?_;exact p3 (cs:=List.flatMap I.cells (List.map aW l)) (es:=l.map aW) (rest:=[]) (bk _) (by simp only[go_sem]) (b2 _).symm (by rw[cP]) (W5 _) (Ya _) rfl
theorem Qc(b:Bool)(l:List n4)(hl:l.length<=1073741824)(H:ab):
  c5 Tryz.prog 69 [.sl b (l.map cU)] H (fun v H'=>v=.osl 2 H.length 1 0 l.length l.length∧H'=H++[.cells 1 (aI cU l)]):=by
 refine pD Tryz.func69 ?_;have eM:∀n,dp n (.cells 1 (aI cU l)):=fun n=>yN (fun x=>by simp only[go_sem]) n 1 l
 have fin:∀v H',v=.osl 2 H.length 1 0 l.length l.length->H'=H++[.cells 1 (aI cU l)]->∃H1 L y,H'=H1++L∧H.length<=H1.length∧(∀(i:Nat) (b:bu),H1[i]?=some b->H[i]?=some b∨dp H1.length b)∧cQ H1.length H' v y∧
   y=.osl 2 H.length 1 0 l.length l.length∧H1=H++[.cells 1 (aI cU l)]:=by
  rintro v H' rfl rfl;exact⟨_,[],_,(b2 _).symm,by simp,wT fun b aa=>by(rw[dA]at aa;subst aa;exact eM _),.cl _ (.osl _ _ _ _ _ _ (by simp)),rfl,rfl⟩
 have eu:List.flatMap I.cells (l.map cU)=aI cU l:=rfl;refine aT ?_;intro c al;cases c with
 |true=>
  have lZ:l=[]:=by
   cases l with
   |nil=>rfl
   |cons x l=>exact absurd (al (by simp)) (by decide)
  subst lZ;repeat' first|(refine ad ?_;simp only[go_sem])|refine bx ?_|fail
  refine ly rfl (fun _=>?_) (fun h=>by cases h)
  refine w6 ?_;refine qn rfl ?_;simp only[go_sem];refine sF 2 2 rfl ?_;repeat' first|(refine ad ?_;simp only[go_sem])|refine af ?_|fail
  exact fin _ _ rfl rfl
 |false=>
  clear al;have kP:(∀e∈l.map cU,e.cells.length=2)=True:=bJ fun e he=>by(obtain⟨x,_,rfl⟩:=bP.1 he;rfl)
  have kT:(l.length * 32<=140737488355328)=True:=bJ (by omega)
  repeat' first|(refine ad ?_;simp only[go_sem,kP,eu,kT,DK,true_or])|refine af ?_|fail
  exact fin _ _ rfl rfl
theorem Gk(b:Bool)(l:List jV)(hl:l.length<=1073741824)(H:ab):
  c5 Tryz.prog 70 [.sl b (l.map bU)] H (fun v H'=>v=.osl 4 H.length 1 0 l.length l.length∧H'=H++[.cells 1 (aI bU l)]):=by
 refine pD Tryz.func70 ?_;have eM:∀n,dp n (.cells 1 (aI bU l)):=fun n=>yN (fun x=>by simp only[go_sem]) n 1 l
 have fin:∀v H',v=.osl 4 H.length 1 0 l.length l.length->H'=H++[.cells 1 (aI bU l)]->∃H1 L y,H'=H1++L∧H.length<=H1.length∧(∀(i:Nat) (b:bu),H1[i]?=some b->H[i]?=some b∨dp H1.length b)∧cQ H1.length H' v y∧
   y=.osl 4 H.length 1 0 l.length l.length∧H1=H++[.cells 1 (aI bU l)]:=by
  rintro v H' rfl rfl;exact⟨_,[],_,(b2 _).symm,by simp,wT fun b aa=>by(rw[dA]at aa;subst aa;exact eM _),.cl _ (.osl _ _ _ _ _ _ (by simp)),rfl,rfl⟩
 have eu:List.flatMap I.cells (l.map bU)=aI bU l:=rfl;refine aT ?_;intro c al;cases c with
 |true=>
  have lZ:l=[]:=by
   cases l with
   |nil=>rfl
   |cons x l=>exact absurd (al (by simp)) (by decide)
  subst lZ;repeat' first|(refine ad ?_;simp only[go_sem])|refine bx ?_|fail
  refine ly rfl (fun _=>?_) (fun h=>by cases h)
  refine w6 ?_;refine qn rfl ?_;simp only[go_sem];refine sF 2 4 rfl ?_;repeat' first|(refine ad ?_;simp only[go_sem])|refine af ?_|fail
  exact fin _ _ rfl rfl
 |false=>
  clear al;have kP:(∀e∈l.map bU,e.cells.length=4)=True:=bJ fun e he=>by(obtain⟨x,_,rfl⟩:=bP.1 he;rfl)
  have kT:(l.length * 48<=140737488355328)=True:=bJ (by omega)
  repeat' first|(refine ad ?_;simp only[go_sem,kP,eu,kT,DK,true_or])|refine af ?_|fail
  exact fin _ _ rfl rfl
theorem Yp(b:Bool)(l:List n4)(fn:Fn)(fs cs:List I)(p:n4->Bool)(H:ab)(an:∀c,oK Tryz.prog (.func fn fs cs) [cU c] H (.bool (p c))):
  aY Tryz.prog 179 [.sl b (l.map cU),.func fn fs cs] H (.int .i64 (eg p l)):=by
 refine nz fun bl _=>?_
 have hl:=lI bl;rw[cP]at hl;simp only[cU]at an;refine bh Tryz.func179 ?_;refine aT ?_;refine b5 (ι:=Nat) (fun i=>[(0,.sl b (l.map cU)),(1,.func fn fs cs),(7,.int .i64 l.length),(8,.int .i64 i)]) (fun _=>H) (fun i=>i<=l.length∧∀k (hk:k<i) (eb:k<l.length),p l[k]=false) (fun i=>l.length-i) 0 ⟨bG _,fun k hk=>by omega⟩ ?_ rfl ?_
 ·simp[go_sem]
 ·rintro i ⟨hi,bX⟩;by_cases ak:i<l.length
  ·have ae:=dg cU ak;repeat' first|(refine ad ?_;simp only[go_sem,ae,cU])|refine af ?_|fail
   refine AB (an _) ?_;simp only[go_sem];repeat' first|refine aT ?_|(refine bD ?_ ?_<;>intro h<;>try exact bB h)|fail
   ·exact bC (.of (by rw[pN p l i ak (fun k hk=>bX k hk (by omega)) h]))
   ·refine⟨i+1,⟨ak,fun k hk eb=>?_⟩,by omega,by rw[cB];rfl⟩
    by_cases e:k=i
    ·subst e;exact h
    ·exact bX k (by omega) eb
  ·have cv:i=l.length:=by omega
   repeat' first|(refine ad ?_;simp only[go_sem])|refine af ?_|fail
   subst cv;exact bC (.of (by rw[pO p l fun k hk=>bX k hk hk]))
theorem aDu(b:Bool)(l:List n4)(fn:Fn)(fs cs:List I)(p:n4->Bool)(H:ab)(an:∀c,oK Tryz.prog (.func fn fs cs) [cU c] H (.bool (p c))):
  aY Tryz.prog 136 [.sl b (l.map cU),.func fn fs cs] H (.bool (l.any p)):=by
 refine bh Tryz.func136 ?_;have J:=Yp b l fn fs cs p H an;repeat' first|((first|refine ea (J) (aA) ?_|refine ep (J) (aA) ?_|refine er (fun _=>J) (aA) ?_|refine ad ?_);simp only[go_sem])|refine af ?_|fail
 exact bC (.of (by rw[yx]))
theorem QU(b:Bool)(l:List jV)(fn:Fn)(fs cs:List I)(p:jV->Bool)(H:ab)(an:∀c,oK Tryz.prog (.func fn fs cs) [bU c] H (.bool (p c))):
  aY Tryz.prog 140 [.sl b (l.map bU),.func fn fs cs] H (.int .i64 (eg p l)):=by
 refine nz fun bl _=>?_
 have hl:=lI bl;rw[cP]at hl;simp only[bU]at an;refine bh Tryz.func140 ?_;refine aT ?_;refine b5 (ι:=Nat) (fun i=>[(0,.sl b (l.map bU)),(1,.func fn fs cs),(7,.int .i64 l.length),(8,.int .i64 i)]) (fun _=>H) (fun i=>i<=l.length∧∀k (hk:k<i) (eb:k<l.length),p l[k]=false) (fun i=>l.length-i) 0 ⟨bG _,fun k hk=>by omega⟩ ?_ rfl ?_
 ·simp[go_sem]
 ·rintro i ⟨hi,bX⟩;by_cases ak:i<l.length
  ·have ae:=dg bU ak;repeat' first|(refine ad ?_;simp only[go_sem,ae,bU])|refine af ?_|fail
   refine AB (an _) ?_;simp only[go_sem];repeat' first|refine aT ?_|(refine bD ?_ ?_<;>intro h<;>try exact bB h)|fail
   ·exact bC (.of (by rw[pN p l i ak (fun k hk=>bX k hk (by omega)) h]))
   ·refine⟨i+1,⟨ak,fun k hk eb=>?_⟩,by omega,by rw[cB];rfl⟩
    by_cases e:k=i
    ·subst e;exact h
    ·exact bX k (by omega) eb
  ·have cv:i=l.length:=by omega
   repeat' first|(refine ad ?_;simp only[go_sem])|refine af ?_|fail
   subst cv;exact bC (.of (by rw[pO p l fun k hk=>bX k hk hk]))
theorem aDv(b:Bool)(l:List jV)(fn:Fn)(fs cs:List I)(p:jV->Bool)(H:ab)(an:∀c,oK Tryz.prog (.func fn fs cs) [bU c] H (.bool (p c))):
  aY Tryz.prog 137 [.sl b (l.map bU),.func fn fs cs] H (.bool (l.any p)):=by
 refine bh Tryz.func137 ?_;have J:=QU b l fn fs cs p H an;repeat' first|((first|refine ea (J) (aA) ?_|refine ep (J) (aA) ?_|refine er (fun _=>J) (aA) ?_|refine ad ?_);simp only[go_sem])|refine af ?_|fail
 exact bC (.of (by rw[yx]))
theorem aDw(l:List n4)(p:n4->Bool)(i v lc n:Nat)(ag:n=l.length)(gE:n<=lc)(hl:n<=1073741824){fn:Fn}{fs cs:List I}(H:ab)(ah:ao H i=.cells v (aI cU l))
  (an:∀x,h6 Tryz.prog (.func fn fs cs) [cU x] H (fun r dt=>r=.bool (p x)∧dt=H)):
  aY Tryz.prog 179 [.osl 2 i v 0 n lc,.func fn fs cs] H (.int .i64 (eg p l)):=by
 refine bh Tryz.func179 ?_;have g4:(aI cU l).length=n * 2:=by rw[dE (s:=2) (fun _=>rfl),ag]
 have dF:=an;simp only[cU]at dF;repeat' first|(refine ad ?_;simp only[go_sem,ah])|refine af ?_|fail
 refine b5 (ι:=Nat) (fun k=>[(0,.osl 2 i v 0 n lc),(1,.func fn fs cs),(7,.int .i64 n),(8,.int .i64 k)]) (fun _=>H) (fun k=>k<=n∧∀q (hk:q<k) (eb:q<l.length),p l[q]=false) (fun k=>n-k) 0 ⟨bG _,fun q hk=>by omega⟩ ?_ rfl ?_
 ·simp[go_sem]
 ·rintro k ⟨hk,bX⟩;by_cases ak:k<l.length
  ·have ae:=om (enc:=cU) (s:=2) (fun _=>rfl) ak
   simp only[cU,I.cells]at ae;have aH:decide ((k:Int)<(n:Int))=true:=b1;have hw:=dW ak (by omega)
   refine bW ?_;refine sH (dF l[k]) ?_;simp only[go_sem];repeat' first|refine aT ?_|(refine bD ?_ ?_<;>intro h<;>try exact bB h)|fail
   ·exact bC (.of (by rw[pN p l k ak (fun q aS=>bX q aS (by omega)) (by assumption)]))
   ·refine⟨k+1,⟨by omega,fun q aS iK=>?_⟩,by omega,bH _ hw⟩
    by_cases e:q=k
    ·subst e;assumption
    ·exact bX q (by omega) (by omega)
  ·have cv:k=n:=by omega
   subst cv;have aH:decide ((k:Int)<(k:Int))=false:=by simp
   refine bW ?_;exact bC (.of (by rw[pO p l fun q hk=>bX q (by omega) hk]))
theorem aDx(l:List jV)(p:jV->Bool)(i v lc n:Nat)(ag:n=l.length)(gE:n<=lc)(hl:n<=1073741824){fn:Fn}{fs cs:List I}(H:ab)(ah:ao H i=.cells v (aI bU l))
  (an:∀x,h6 Tryz.prog (.func fn fs cs) [bU x] H (fun r dt=>r=.bool (p x)∧dt=H)):
  aY Tryz.prog 140 [.osl 4 i v 0 n lc,.func fn fs cs] H (.int .i64 (eg p l)):=by
 refine bh Tryz.func140 ?_;have g4:(aI bU l).length=n * 4:=by rw[dE (s:=4) (fun _=>rfl),ag]
 have dF:=an;simp only[bU]at dF;repeat' first|(refine ad ?_;simp only[go_sem,ah])|refine af ?_|fail
 refine b5 (ι:=Nat) (fun k=>[(0,.osl 4 i v 0 n lc),(1,.func fn fs cs),(7,.int .i64 n),(8,.int .i64 k)]) (fun _=>H) (fun k=>k<=n∧∀q (hk:q<k) (eb:q<l.length),p l[q]=false) (fun k=>n-k) 0 ⟨bG _,fun q hk=>by omega⟩ ?_ rfl ?_
 ·simp[go_sem]
 ·rintro k ⟨hk,bX⟩;by_cases ak:k<l.length
  ·have ae:=om (enc:=bU) (s:=4) (fun _=>rfl) ak
   simp only[bU,I.cells]at ae;have aH:decide ((k:Int)<(n:Int))=true:=b1;have hw:=dW ak (by omega)
   refine bW ?_;refine sH (dF l[k]) ?_;simp only[go_sem];repeat' first|refine aT ?_|(refine bD ?_ ?_<;>intro h<;>try exact bB h)|fail
   ·exact bC (.of (by rw[pN p l k ak (fun q aS=>bX q aS (by omega)) (by assumption)]))
   ·refine⟨k+1,⟨by omega,fun q aS iK=>?_⟩,by omega,bH _ hw⟩
    by_cases e:q=k
    ·subst e;assumption
    ·exact bX q (by omega) (by omega)
  ·have cv:k=n:=by omega
   subst cv;have aH:decide ((k:Int)<(k:Int))=false:=by simp
   refine bW ?_;exact bC (.of (by rw[pO p l fun q hk=>bX q (by omega) hk]))
theorem aDy(l:List bf)(p:bf->Bool)(i v lc n:Nat)(ag:n=l.length)(gE:n<=lc)(hl:n<=1073741824){fn:Fn}{fs cs:List I}(H:ab)(ah:ao H i=.cells v (aI bY l))
  (an:∀x,h6 Tryz.prog (.func fn fs cs) [bY x] H (fun r dt=>r=.bool (p x)∧dt=H)):
  aY Tryz.prog 183 [.osl 7 i v 0 n lc,.func fn fs cs] H (.int .i64 (eg p l)):=by
 refine bh Tryz.func183 ?_;have g4:(aI bY l).length=n * 7:=by rw[dE (s:=7) (fun _=>rfl),ag]
 have dF:=an;simp only[bY]at dF;repeat' first|(refine ad ?_;simp only[go_sem,ah])|refine af ?_|fail
 refine b5 (ι:=Nat) (fun k=>[(0,.osl 7 i v 0 n lc),(1,.func fn fs cs),(7,.int .i64 n),(8,.int .i64 k)]) (fun _=>H) (fun k=>k<=n∧∀q (hk:q<k) (eb:q<l.length),p l[q]=false) (fun k=>n-k) 0 ⟨bG _,fun q hk=>by omega⟩ ?_ rfl ?_
 ·simp[go_sem]
 ·rintro k ⟨hk,bX⟩;by_cases ak:k<l.length
  ·have ae:=om (enc:=bY) (s:=7) (fun _=>rfl) ak
   simp only[bY,I.cells]at ae;have aH:decide ((k:Int)<(n:Int))=true:=b1;have hw:=dW ak (by omega)
   refine bW ?_;refine sH (dF l[k]) ?_;simp only[go_sem];repeat' first|refine aT ?_|(refine bD ?_ ?_<;>intro h<;>try exact bB h)|fail
   ·exact bC (.of (by rw[pN p l k ak (fun q aS=>bX q aS (by omega)) (by assumption)]))
   ·refine⟨k+1,⟨by omega,fun q aS iK=>?_⟩,by omega,bH _ hw⟩
    by_cases e:q=k
    ·subst e;assumption
    ·exact bX q (by omega) (by omega)
  ·have cv:k=n:=by omega
   subst cv;have aH:decide ((k:Int)<(k:Int))=false:=by simp
   refine bW ?_;exact bC (.of (by rw[pO p l fun q hk=>bX q (by omega) hk]))
theorem aDz(l:List n4)(p:n4->Bool)(i v lc n:Nat)(ag:n=l.length)(gE:n<=lc)(hl:n<=1073741824){fn:Fn}{fs cs:List I}(hx:ab->Prop)(wy:∀G b,hx G->hx (ai G i b))(tq:∀G L,hx G->hx (G++L))(H:ab)(ah:ao H i=.cells v (aI cU l))
  (an:∀x G,hx G->h6 Tryz.prog (.func fn fs cs) [cU x] G (fun r dt=>r=.bool (p x)∧dt=G)) (aJ:hx H):
  c5 Tryz.prog 138 [.osl 2 i v 0 n lc,.func fn fs cs] H (fun r H'=>∃rest,r=.osl 2 i v 0 (l.filter (fun x=> !p x)).length lc∧H'=ai H i (.cells v (aI cU (l.filter (fun x=> !p x))++rest))):=by
 refine eJ Tryz.func138 ?_;have fI:=aDw l p i v lc n ag gE hl H ah (fun x=>an x H aJ)
 have kA:=c8 ah trivial;have dF:=an;simp only[cU]at dF;by_cases h1:eg p l= -1
 ·rw[h1]at fI;repeat' first|((first|refine ea (fI) (aA) ?_|refine ep (fI) (aA) ?_|refine er (fun _=>fI) (aA) ?_|refine ad ?_);simp only[go_sem,ah,Int.reduceEq])|refine bx ?_|(refine bD ?_ ?_<;>intro h<;>try exact bB h)|fail
  refine⟨H,[],_,(b2 _).symm,rfl,fun k b hk=>.inl hk,.cl _ (.osl _ _ _ _ _ _ kA),[],?_,?_⟩
  ·rw[uQ h1,ag]
  ·rw[uQ h1,b2];exact(kr ah trivial).symm
 ·obtain⟨A,x,B,rfl,au,bd,bE⟩:=Gg h1;rw[au]at fI;have cf:n=A.length+(B.length+1):=by simp[ag]
  have hd:decide (((A.length:Nat):Int)= -1)=false:=cg;have hw:IntKind.i64.wrap ((A.length:Int)+1)=((A.length+1:Nat):Int):=by rw[cB];rfl
  repeat' first|((first|refine ea (fI) (aA) ?_|refine ep (fI) (aA) ?_|refine er (fun _=>fI) (aA) ?_|refine ad ?_);simp only[go_sem,ah,hd,hw])|refine bx ?_|(refine bD ?_ ?_<;>intro h<;>try exact bB h)|fail
  generalize hU:A++x::B=L at *;refine b5 (ι:=Nat×Nat×List n4×ab) (fun s=>[(0,.osl 2 i v 0 n lc),(1,.func fn fs cs),(5,.int .i64 s.1),(6,.int .i64 s.2.1)])
   (fun s=>ai H i (.cells v (aI cU s.2.2.1))++s.2.2.2) (fun s=>s.1<s.2.1∧s.2.1<=n∧s.2.2.1.length=n∧s.2.2.1.take s.1=(L.take s.2.1).filter (fun x=> !p x)∧s.2.2.1.drop s.2.1=L.drop s.2.1) (fun s=>n-s.2.1) (A.length,A.length+1,L,[])
   ⟨by simp,by simp only;omega,ag.symm,?_,rfl⟩ ?_ (by rw[b2];exact(kr ah trivial).symm) ?_
  ·simp only;rw[<-hU,s0,show A++x::B=(A++[x])++B by simp,show A.length+1=(A++[x]).length by simp,s0,ld,bE];simp[bd]
  ·simp[go_sem]
  ·rintro⟨k,j,E,M⟩ ⟨c4,dm,ee,dH,fD⟩;simp only at c4 dm ee dH fD ⊢;obtain⟨G,aT⟩:∃G,ai H i (.cells v (aI cU E))++M=G:=⟨_,rfl⟩;rw[aT];have cw:ao G i=.cells v (aI cU E):=by rw[<-aT];exact bQ (b:=.cells v (aI cU E)) (dT kA _) trivial M
   have aZ:=bz cw trivial;have a7:=jI cw trivial;have zJ:hx G:=by rw[<-aT];exact tq _ _ (wy _ _ aJ)
   have gs:∀X,ai G i X=ai H i X++M:=fun X=>by rw[<-aT,gW (by rw[aX];exact kA),iQ]
   have ga:(aI cU E).length=n * 2:=by rw[dE (s:=2) (fun _=>rfl),ee]
   by_cases aw:j<n
   ·have aH:decide ((j:Int)<(n:Int))=true:=b1;have kS:j<L.length:=by omega
    have wx:E[j]'(by omega)=L[j]:=by
     have a:=eo (l:=E) (i:=j) (by omega)
     have b:=eo kS;rw[fD,b]at a;exact(pr a).1.symm
    have od:=om (enc:=cU) (s:=2) (fun _=>rfl) (D:=E) (k:=j) (by omega)
    rw[wx]at od;simp only[cU,I.cells]at od;have ca:IntKind.i64.wrap ((j:Int)+1)=((j+1:Nat):Int):=by rw[cB];rfl
    have bT:IntKind.i64.wrap ((k:Int)+1)=((k+1:Nat):Int):=by rw[cB];rfl
    have fX:=w4 (enc:=cU) (s:=2) (fun _=>rfl) (D:=E) (k:=k) (by omega) L[j]
    simp only[cU,I.cells]at fX;have oU:L.take (j+1)=L.take j++[L[j]]:=eB kS;repeat' first|(refine ad ?_;simp only[go_sem,cw,aZ,aH,ga,od])|refine af ?_|fail
    refine sH (dF L[j] _ (tq _ _ zJ)) ?_;cases lH:p L[j]with
    |true=>
     simp only[go_sem];repeat' first|(refine ad ?_;simp only[go_sem])|refine bx ?_|(refine bD ?_ ?_<;>intro h<;>try exact bB h)|fail
     refine⟨(k,j+1,E,M++[.cells 0 (cU L[j]).cells]),⟨by simp only;omega,by simp only;omega,ee,?_,?_⟩,by simp only;omega,⟨rfl,bH _ ca⟩,?_⟩
     ·simp only;rw[oU,ld,<-dH,mX,az (by simp[lH])];simp
     ·simp only;have a:=eo (l:=E) (i:=j) (by omega)
      have b:=eo kS;rw[fD,b]at a;exact(pr a).2.symm
     ·show G++[.cells 0 (cU L[j]).cells]=_;rw[<-aT,cr]
    |false=>
     simp only[go_sem];repeat' first|(refine ad ?_;simp only[go_sem,cw,aZ,a7,ga,fX])|refine bx ?_|(refine bD ?_ ?_<;>intro h<;>try exact bB h)|fail
     refine⟨(k+1,j+1,E.set k L[j],M++[.cells 0 (cU L[j]).cells]),⟨by simp only;omega,by simp only;omega,by simp only[gj];exact ee,?_,?_⟩,by simp only;omega,⟨bH _ bT,bH _ ca⟩,?_⟩
     ·simp only;rw[oU,ld,<-dH,mX,aF (by simp[lH]),eB (by simp;omega),vE,DN (bk _)]
      rfl
     ·simp only;rw[Hp (by omega)]
      have a:=eo (l:=E) (i:=j) (by omega)
      have b:=eo kS;rw[fD,b]at a;exact(pr a).2.symm
     ·show ai G i (.cells v (aI cU (E.set k L[j])))++[.cells 0 (cU L[j]).cells]=_;rw[gs,cr]
   ·have lB:j=n:=by omega
    subst lB;have aH:decide ((j:Int)<(j:Int))=false:=by simp
    repeat' first|(refine ad ?_;simp only[go_sem,cw,aZ,a7,aH,ga])|refine af ?_|fail
    rw[ag,eQ]at dH;obtain⟨F,lA⟩:∃F,F=L.filter (fun x=> !p x):=⟨_,rfl⟩
    rw[<-lA]at dH ⊢;have hk:k=F.length:=by rw[<-dH,e8];omega
    have zN:=dE (enc:=cU) (s:=2) (fun _=>rfl) F
    have dK:∀Z:List I,∃rest,dw (aI cU E) (k * 2) Z=aI cU F++rest∧∀m,(∀x∈Z,cX m x)->∀x∈rest,cX m x:=fun Z=>by
     have e:=m0 (A:=aI cU F) (B:=aI cU (E.drop k)) (off:=k * 2) (X:=Z) (by rw[zN,hk])
     rw[<-iu,<-dH,jf]at e;rw[dH]at e;refine⟨Z++(aI cU (E.drop k)).drop Z.length,e,fun m a2 x J=>?_⟩
     rcases eX.1 J with J|J
     ·exact a2 x J
     ·exact(oX (fun x=>by simp only[go_sem]) (E.drop k) x (vG J)).cl m
    obtain⟨rest,ax,a2⟩:=dK (List.flatMap I.cells (List.replicate (j-k) (.agg [.int .i64 0,.sl true []])));rw[ax,gs];have zG:∀c,ao (ai H i (.cells v c)++M) i=.cells v c:=fun c=>bQ (b:=.cells v c) (dT kA _) trivial M
    simp only[zG];refine⟨⟨trivial,by omega,by omega⟩,?_⟩
    repeat' first|(refine ad ?_;simp only[go_sem])|refine af ?_|fail
    refine⟨_,M,_,rfl,by rw[aX],pI ?_,.cl _ (.osl _ _ _ _ _ _ kA),rest,by rw[hk],rfl⟩
    intro x J;rcases eX.1 J with J|J
    ·exact(oX (fun x=>by simp only[go_sem]) F x J).cl _
    ·refine a2 _ (fun x J=>?_) x J
     rw[rZ]at J;obtain⟨e,he,J⟩:=J;rw[y2]at he;obtain⟨-,rfl⟩:=he;simp only[I.cells,c7,jB,jD]at J;rcases J with rfl|rfl<;>first|exact .int _ _|exact .bool _|exact .str _|exact(bO.sl _ _ (fun _ h=>by cases h)).cl _
theorem aDA(l:List jV)(p:jV->Bool)(i v lc n:Nat)(ag:n=l.length)(gE:n<=lc)(hl:n<=1073741824){fn:Fn}{fs cs:List I}(hx:ab->Prop)(wy:∀G b,hx G->hx (ai G i b))(tq:∀G L,hx G->hx (G++L))(H:ab)(ah:ao H i=.cells v (aI bU l))
  (an:∀x G,hx G->h6 Tryz.prog (.func fn fs cs) [bU x] G (fun r dt=>r=.bool (p x)∧dt=G)) (aJ:hx H):
  c5 Tryz.prog 139 [.osl 4 i v 0 n lc,.func fn fs cs] H (fun r H'=>∃rest,r=.osl 4 i v 0 (l.filter (fun x=> !p x)).length lc∧H'=ai H i (.cells v (aI bU (l.filter (fun x=> !p x))++rest))):=by
 refine eJ Tryz.func139 ?_;have fI:=aDx l p i v lc n ag gE hl H ah (fun x=>an x H aJ)
 have kA:=c8 ah trivial;have dF:=an;simp only[bU]at dF;by_cases h1:eg p l= -1
 ·rw[h1]at fI;repeat' first|((first|refine ea (fI) (aA) ?_|refine ep (fI) (aA) ?_|refine er (fun _=>fI) (aA) ?_|refine ad ?_);simp only[go_sem,ah,Int.reduceEq])|refine bx ?_|(refine bD ?_ ?_<;>intro h<;>try exact bB h)|fail
  refine⟨H,[],_,(b2 _).symm,rfl,fun k b hk=>.inl hk,.cl _ (.osl _ _ _ _ _ _ kA),[],?_,?_⟩
  ·rw[uQ h1,ag]
  ·rw[uQ h1,b2];exact(kr ah trivial).symm
 ·obtain⟨A,x,B,rfl,au,bd,bE⟩:=Gg h1;rw[au]at fI;have cf:n=A.length+(B.length+1):=by simp[ag]
  have hd:decide (((A.length:Nat):Int)= -1)=false:=cg;have hw:IntKind.i64.wrap ((A.length:Int)+1)=((A.length+1:Nat):Int):=by rw[cB];rfl
  repeat' first|((first|refine ea (fI) (aA) ?_|refine ep (fI) (aA) ?_|refine er (fun _=>fI) (aA) ?_|refine ad ?_);simp only[go_sem,ah,hd,hw])|refine bx ?_|(refine bD ?_ ?_<;>intro h<;>try exact bB h)|fail
  generalize hU:A++x::B=L at *;refine b5 (ι:=Nat×Nat×List jV×ab) (fun s=>[(0,.osl 4 i v 0 n lc),(1,.func fn fs cs),(5,.int .i64 s.1),(6,.int .i64 s.2.1)])
   (fun s=>ai H i (.cells v (aI bU s.2.2.1))++s.2.2.2) (fun s=>s.1<s.2.1∧s.2.1<=n∧s.2.2.1.length=n∧s.2.2.1.take s.1=(L.take s.2.1).filter (fun x=> !p x)∧s.2.2.1.drop s.2.1=L.drop s.2.1) (fun s=>n-s.2.1) (A.length,A.length+1,L,[])
   ⟨by simp,by simp only;omega,ag.symm,?_,rfl⟩ ?_ (by rw[b2];exact(kr ah trivial).symm) ?_
  ·simp only;rw[<-hU,s0,show A++x::B=(A++[x])++B by simp,show A.length+1=(A++[x]).length by simp,s0,ld,bE];simp[bd]
  ·simp[go_sem]
  ·rintro⟨k,j,E,M⟩ ⟨c4,dm,ee,dH,fD⟩;simp only at c4 dm ee dH fD ⊢;obtain⟨G,aT⟩:∃G,ai H i (.cells v (aI bU E))++M=G:=⟨_,rfl⟩;rw[aT];have cw:ao G i=.cells v (aI bU E):=by rw[<-aT];exact bQ (b:=.cells v (aI bU E)) (dT kA _) trivial M
   have aZ:=bz cw trivial;have a7:=jI cw trivial;have zJ:hx G:=by rw[<-aT];exact tq _ _ (wy _ _ aJ)
   have gs:∀X,ai G i X=ai H i X++M:=fun X=>by rw[<-aT,gW (by rw[aX];exact kA),iQ]
   have ga:(aI bU E).length=n * 4:=by rw[dE (s:=4) (fun _=>rfl),ee]
   by_cases aw:j<n
   ·have aH:decide ((j:Int)<(n:Int))=true:=b1;have kS:j<L.length:=by omega
    have wx:E[j]'(by omega)=L[j]:=by
     have a:=eo (l:=E) (i:=j) (by omega)
     have b:=eo kS;rw[fD,b]at a;exact(pr a).1.symm
    have od:=om (enc:=bU) (s:=4) (fun _=>rfl) (D:=E) (k:=j) (by omega)
    rw[wx]at od;simp only[bU,I.cells]at od;have ca:IntKind.i64.wrap ((j:Int)+1)=((j+1:Nat):Int):=by rw[cB];rfl
    have bT:IntKind.i64.wrap ((k:Int)+1)=((k+1:Nat):Int):=by rw[cB];rfl
    have fX:=w4 (enc:=bU) (s:=4) (fun _=>rfl) (D:=E) (k:=k) (by omega) L[j]
    simp only[bU,I.cells]at fX;have oU:L.take (j+1)=L.take j++[L[j]]:=eB kS;repeat' first|(refine ad ?_;simp only[go_sem,cw,aZ,aH,ga,od])|refine af ?_|fail
    refine sH (dF L[j] _ (tq _ _ zJ)) ?_;cases lH:p L[j]with
    |true=>
     simp only[go_sem];repeat' first|(refine ad ?_;simp only[go_sem])|refine bx ?_|(refine bD ?_ ?_<;>intro h<;>try exact bB h)|fail
     refine⟨(k,j+1,E,M++[.cells 0 (bU L[j]).cells]),⟨by simp only;omega,by simp only;omega,ee,?_,?_⟩,by simp only;omega,⟨rfl,bH _ ca⟩,?_⟩
     ·simp only;rw[oU,ld,<-dH,mX,az (by simp[lH])];simp
     ·simp only;have a:=eo (l:=E) (i:=j) (by omega)
      have b:=eo kS;rw[fD,b]at a;exact(pr a).2.symm
     ·show G++[.cells 0 (bU L[j]).cells]=_;rw[<-aT,cr]
    |false=>
     simp only[go_sem];repeat' first|(refine ad ?_;simp only[go_sem,cw,aZ,a7,ga,fX])|refine bx ?_|(refine bD ?_ ?_<;>intro h<;>try exact bB h)|fail
     refine⟨(k+1,j+1,E.set k L[j],M++[.cells 0 (bU L[j]).cells]),⟨by simp only;omega,by simp only;omega,by simp only[gj];exact ee,?_,?_⟩,by simp only;omega,⟨bH _ bT,bH _ ca⟩,?_⟩
     ·simp only;rw[oU,ld,<-dH,mX,aF (by simp[lH]),eB (by simp;omega),vE,DN (bk _)]
      rfl
     ·simp only;rw[Hp (by omega)]
      have a:=eo (l:=E) (i:=j) (by omega)
      have b:=eo kS;rw[fD,b]at a;exact(pr a).2.symm
     ·show ai G i (.cells v (aI bU (E.set k L[j])))++[.cells 0 (bU L[j]).cells]=_;rw[gs,cr]
   ·have lB:j=n:=by omega
    subst lB;have aH:decide ((j:Int)<(j:Int))=false:=by simp
    repeat' first|(refine ad ?_;simp only[go_sem,cw,aZ,a7,aH,ga])|refine af ?_|fail
    rw[ag,eQ]at dH;obtain⟨F,lA⟩:∃F,F=L.filter (fun x=> !p x):=⟨_,rfl⟩
    rw[<-lA]at dH ⊢;have hk:k=F.length:=by rw[<-dH,e8];omega
    have zN:=dE (enc:=bU) (s:=4) (fun _=>rfl) F
    have dK:∀Z:List I,∃rest,dw (aI bU E) (k * 4) Z=aI bU F++rest∧∀m,(∀x∈Z,cX m x)->∀x∈rest,cX m x:=fun Z=>by
     have e:=m0 (A:=aI bU F) (B:=aI bU (E.drop k)) (off:=k * 4) (X:=Z) (by rw[zN,hk])
     rw[<-iu,<-dH,jf]at e;rw[dH]at e;refine⟨Z++(aI bU (E.drop k)).drop Z.length,e,fun m a2 x J=>?_⟩
     rcases eX.1 J with J|J
     ·exact a2 x J
     ·exact(oX (fun x=>by simp only[go_sem]) (E.drop k) x (vG J)).cl m
    obtain⟨rest,ax,a2⟩:=dK (List.flatMap I.cells (List.replicate (j-k) (.agg [.int .i64 0,.int .i64 0,.sl true [],.bool false])));rw[ax,gs];have zG:∀c,ao (ai H i (.cells v c)++M) i=.cells v c:=fun c=>bQ (b:=.cells v c) (dT kA _) trivial M
    simp only[zG];refine⟨⟨trivial,by omega,by omega⟩,?_⟩
    repeat' first|(refine ad ?_;simp only[go_sem])|refine af ?_|fail
    refine⟨_,M,_,rfl,by rw[aX],pI ?_,.cl _ (.osl _ _ _ _ _ _ kA),rest,by rw[hk],rfl⟩
    intro x J;rcases eX.1 J with J|J
    ·exact(oX (fun x=>by simp only[go_sem]) F x J).cl _
    ·refine a2 _ (fun x J=>?_) x J
     rw[rZ]at J;obtain⟨e,he,J⟩:=J;rw[y2]at he;obtain⟨-,rfl⟩:=he;simp only[I.cells,c7,jB,jD]at J;rcases J with rfl|rfl|rfl|rfl<;>first|exact .int _ _|exact .bool _|exact .str _|exact(bO.sl _ _ (fun _ h=>by cases h)).cl _
end
end Go.Proofs.YthafnbmdmfoobaaGreatDoor
