/- What the functions of this seat answer (21 of 40). No condition. -/
import Derived.Test.YthafnbmdmfoobaaGreatDoorWorkAQ
import Derived.Test.YthafnbmdmfoobaaGreatDoorWorkAT
set_option linter.unusedSimpArgs false
set_option linter.unusedVariables false
set_option linter.unusedSectionVars false
set_option maxRecDepth 100000
set_option maxHeartbeats 16000000
namespace Go.Proofs.YthafnbmdmfoobaaGreatDoor
section
theorem RB{H L:ab}{v:I}(ae:bO v)(R:I->ab->Prop)(e2:R v H):
  ∃H1 M y,H++L=H1++M∧H1.length=H.length∧(∀(j:Nat) (c:bu),H1[j]?=some c->H[j]?=some c∨dp H.length c)∧cQ H.length (H++L) v y∧R y H1:=
 ⟨H,L,v,rfl,rfl,fun _ _ h=>.inl h,.cl _ (ae.cl _),e2⟩
section
variable {lt:dB->dB->Bool} {c:dB->dB->Int} {fn:Fn} {fs cs:List I}
def lK(s:Int):bu:=.cells 0 [.int .i64 s]
theorem HO(n:Nat)(s:Int):dp n (lK s):=fun x J=>by simp at J;subst J;exact .int _ _
theorem Mw(an:qX Tryz.prog (.func fn fs cs) c){d:Array dB}{a b n lc aE v i:Nat}{s:Int}(ag:n=d.size)(aD:a<n)(aa:b<n)(H:ab)(ah:ao H aE=.cells v (dx d))(hi:ao H i=lK s):
  c5 Tryz.prog 257 [.osl 1 aE v 0 n lc,.int .i64 a,.int .i64 b,.ref i 0 0,.func fn fs cs] H
   (fun r H'=>∃(x y:Nat) (qN:Int),(x=a∧y=b∨x=b∧y=a)∧r=.a0 [.int .i64 x,.int .i64 y]∧H'=ai H i (lK qN)):=by
 refine eJ Tryz.func257 ?_;have nA:=eU (d:=d) (show a<d.size by omega)
 have IW:=eU (d:=d) (show b<d.size by omega)
 unfold lK at hi;repeat' first|(refine ad ?_;simp only[go_sem,ah,hi,nA,IW,eE,fF,<-ag])|refine af ?_|fail
 refine n8 an ?_;simp only[go_sem];repeat' first|(refine ad ?_;simp only[go_sem,ah,hi])|refine bx ?_|(refine bD ?_ ?_<;>intro h<;>try exact bB h)|fail
 ·exact tT (HO _ _) (by simp only[go_sem]) _ ⟨b,a,_,.inr ⟨rfl,rfl⟩,rfl,rfl⟩
 ·have:=tT (H:=H) (i:=i) (v:=.a0 [.int .i64 a,.int .i64 b]) (HO _ s) (by simp only[go_sem]) (fun r H'=>∃(x y:Nat) (qN:Int),(x=a∧y=b∨x=b∧y=a)∧r=.a0 [.int .i64 x,.int .i64 y]∧H'=ai H i (lK qN)) ⟨a,b,s,.inl ⟨rfl,rfl⟩,rfl,rfl⟩
  rw[show ai H i (lK s)=H from oY hi trivial]at this
  exact this
theorem Mx(an:qX Tryz.prog (.func fn fs cs) c){d:Array dB}{a b e n lc aE v i:Nat}{s:Int}(ag:n=d.size)(aD:a<n)(aa:b<n)(he:e<n)(H:ab)(ah:ao H aE=.cells v (dx d))(hi:ao H i=lK s)(aP:i≠aE):
  c5 Tryz.prog 256 [.osl 1 aE v 0 n lc,.int .i64 a,.int .i64 b,.int .i64 e,.ref i 0 0,.func fn fs cs] H
   (fun r H'=>∃(x:Nat) (qN:Int),(x=a∨x=b∨x=e)∧r=.int .i64 x∧H'=ai H i (lK qN)):=by
 refine eJ Tryz.func256 ?_;have aZ:=fun b=>bM ah aP b
 have a7:=fun b=>m2 hi trivial b
 have ch:=nw H i;refine aT ?_;refine c6 (Mw an ag aD aa _ ah hi) (aA) ?_;rintro r H' ⟨fr,nV,s1,h1,rfl,rfl⟩;simp only[go_sem];refine aT ?_;refine c6 (Mw an ag (a:=nV) (b:=e) (by omega) he _ (aZ _) (a7 _)) (aA) ?_
 rintro r H' ⟨dZ,oH,s2,h2,rfl,rfl⟩;simp only[go_sem,ch];refine aT ?_;refine c6 (Mw an ag (a:=fr) (b:=dZ) (by omega) (by omega) _ (aZ _) (a7 _)) (aA) ?_
 rintro r H' ⟨gh,mA,l3,h3,rfl,rfl⟩;simp only[go_sem,ch];refine aT ?_;exact tT (HO _ _) (.int _ _) _ ⟨mA,l3,by omega,rfl,rfl⟩
theorem LL(an:qX Tryz.prog (.func fn fs cs) c){d:Array dB}{a n lc aE v i:Nat}{s:Int}(ag:n=d.size)(hl:n<=1073741824)(aD:1<=a)(Jb:a+1<n)(H:ab)(ah:ao H aE=.cells v (dx d))(hi:ao H i=lK s)(aP:i≠aE):
  c5 Tryz.prog 255 [.osl 1 aE v 0 n lc,.int .i64 a,.ref i 0 0,.func fn fs cs] H
   (fun r H'=>∃(x:Nat) (qN:Int),(a<=x+1∧x<=a+1)∧r=.int .i64 x∧H'=ai H i (lK qN)):=by
 refine eJ Tryz.func255 ?_;have ca:IntKind.i64.wrap ((a:Int)-1)=((a-1:Nat):Int):=b9 (by omega) (by omega)
 have bT:IntKind.i64.wrap ((a:Int)+1)=((a+1:Nat):Int):=b9 (by omega) (by omega)
 repeat' first|(refine ad ?_;simp only[go_sem,ca,bT])|refine af ?_|fail
 refine c6 (Mx an ag (a:=a-1) (b:=a) (e:=a+1) (by omega) (by omega) Jb _ ah hi aP) (aA) ?_
 rintro r H' ⟨x,qN,h,rfl,rfl⟩;simp only[go_sem];repeat' first|(refine ad ?_;simp only[go_sem])|refine af ?_|fail
 exact tT (HO _ _) (.int _ _) _ ⟨x,qN,by omega,rfl,rfl⟩
theorem aAe(an:qX Tryz.prog (.func fn fs cs) c){d:Array dB}{a b n lc aE v:Nat}(ag:n=d.size)(hl:n<=1073741824)(aa:b<=n)(c3:a+12<b)(H:ab)(ah:ao H aE=.cells v (dx d)):
  c5 Tryz.prog 244 [.osl 1 aE v 0 n lc,.int .i64 a,.int .i64 b,.func fn fs cs] H
   (fun r H'=>∃(p:Nat) (h:Int),(a<=p∧p<b)∧r=.a0 [.int .i64 p,.int .i64 h]∧H'=H):=by
 refine eJ Tryz.func244 ?_;have ak:=c8 ah trivial;obtain⟨m,rfl⟩:∃m,b=a+m:=⟨b-a,by omega⟩
 have eW:IntKind.i64.wrap (((a+m:Nat):Int)-(a:Int))=(m:Int):=b9 (by omega) (by omega)
 have aS:IntKind.i64.wrap ((m:Int).tdiv 4)=((m / 4:Nat):Int):=by rw[Bb (by omega)];exact b9 (by omega) (by omega)
 obtain⟨q,iK⟩:∃q,m / 4=q:=⟨_,rfl⟩;rw[iK]at aS;have aKj:3 * q<=m-3∧m<=4 * q+3:=by omega
 have ca:IntKind.i64.wrap ((q:Int) * 1)=(q:Int):=b9 (by omega) (by omega)
 have bT:IntKind.i64.wrap ((q:Int) * 2)=((q * 2:Nat):Int):=b9 (by omega) (by omega)
 have dL:IntKind.i64.wrap ((q:Int) * 3)=((q * 3:Nat):Int):=b9 (by omega) (by omega)
 have gH:IntKind.i64.wrap ((a:Int)+(q:Int))=((a+q:Nat):Int):=b9 (by omega) (by omega)
 have hM:IntKind.i64.wrap ((a:Int)+((q * 2:Nat):Int))=((a+q * 2:Nat):Int):=b9 (by omega) (by omega)
 have jt:IntKind.i64.wrap ((a:Int)+((q * 3:Nat):Int))=((a+q * 3:Nat):Int):=b9 (by omega) (by omega)
 have z7:decide (8<=(m:Int))=true:=b1;have Cg:∀s,ao (H++[lK s]) aE=.cells v (dx d):=fun s=>bQ ah trivial _
 have fV:∀s,ao (H++[lK s]) H.length=lK s:=fun s=>rf H _
 have gs:∀s t,ai (H++[lK s]) H.length (lK t)=H++[lK t]:=fun s t=>by simp[ai]
 have aP:H.length≠aE:=by omega
 by_cases aSk:50<=m
 ·have CA:decide (50<=(m:Int))=true:=b1;repeat' first|(refine ad ?_;simp only[go_sem,eW,aS,ca,bT,dL,gH,hM,jt,z7,CA])|refine af ?_|fail
  refine c6 (LL an ag hl (a:=a+q) (by omega) (by omega) (H++[lK 0]) (Cg 0) (fV 0) aP) (aA) ?_
  rintro r H' ⟨fr,s1,h1,rfl,rfl⟩;rw[gs];simp only[go_sem];repeat' first|(refine ad ?_;simp only[go_sem,eW,aS,ca,bT,dL,gH,hM,jt,z7,CA])|refine af ?_|fail
  refine c6 (LL an ag hl (a:=a+q * 2) (by omega) (by omega) (H++[lK s1]) (Cg _) (fV _) aP) (aA) ?_
  rintro r H' ⟨dZ,s2,h2,rfl,rfl⟩;rw[gs];simp only[go_sem];repeat' first|(refine ad ?_;simp only[go_sem,eW,aS,ca,bT,dL,gH,hM,jt,z7,CA])|refine af ?_|fail
  refine c6 (LL an ag hl (a:=a+q * 3) (by omega) (by omega) (H++[lK s2]) (Cg _) (fV _) aP) (aA) ?_
  rintro r H' ⟨gh,l3,h3,rfl,rfl⟩;rw[gs];simp only[go_sem];repeat' first|(refine ad ?_;simp only[go_sem,eW,aS,ca,bT,dL,gH,hM,jt,z7,CA])|refine af ?_|fail
  refine c6 (Mx an ag (a:=fr) (b:=dZ) (e:=gh) (by omega) (by omega) (by omega) (H++[lK l3]) (Cg _) (fV _) aP) (aA) ?_
  rintro r H' ⟨x,s,h,rfl,rfl⟩;rw[gs];unfold lK;simp only[go_sem];repeat' first|(refine ad ?_;simp only[go_sem])|refine bx ?_|(refine bD ?_ ?_<;>intro h<;>try exact bB h)|fail
  all_goals exact RB (by simp only[go_sem]) _ ⟨x,_,by omega,rfl,rfl⟩
 ·have CA:decide (50<=(m:Int))=false:=cg;repeat' first|(refine ad ?_;simp only[go_sem,eW,aS,ca,bT,dL,gH,hM,jt,z7,CA])|refine af ?_|fail
  refine c6 (Mx an ag (a:=a+q) (b:=a+q * 2) (e:=a+q * 3) (by omega) (by omega) (by omega) (H++[lK 0]) (Cg _) (fV _) aP) (aA) ?_
  rintro r H' ⟨x,s,h,rfl,rfl⟩;rw[gs];unfold lK;simp only[go_sem];repeat' first|(refine ad ?_;simp only[go_sem])|refine bx ?_|(refine bD ?_ ?_<;>intro h<;>try exact bB h)|fail
  all_goals exact RB (by simp only[go_sem]) _ ⟨x,_,by omega,rfl,rfl⟩
end
end
section
theorem aCr(c:b3)(ae:c.path.length<=1048576)(H:ab):
  aY Tryz.prog 117 [cJ c] H (if fC c=false∧gR c=true then .a0 [.sl false ((hr c).map I.str),.bool true]else .a0 [.sl true [],.bool false]):=by
 refine bh Tryz.func117 ?_;have hw:=MV c ae;have eM:=PT false (hr c) (by have:=PL c;omega)
 unfold zv at hw;cases iX:fC c with
 |true=>
  rw[iX,aF rfl]at hw;rw[az (fun h=>by cases h.1)]
  simp only[cJ]at hw;repeat' first|(refine ad ?_;simp only[go_sem,cJ])|refine af ?_|fail
  exact bo (.refl _)
 |false=>
  rw[iX,az (fun h=>by cases h)]at hw
  cases CK:gR c with
  |true=>
   rw[CK,aF rfl]at hw;rw[aF ⟨rfl,rfl⟩];simp only[cJ]at hw;repeat' first|(refine ad ?_;simp only[go_sem,cJ])|refine af ?_|fail
   exact bo (.refl _)
  |false=>
   rw[CK,az (fun h=>by cases h)]at hw
   rw[az (fun h=>by cases h.2)]
   simp only[cJ]at hw;repeat' first|(refine ad ?_;simp only[go_sem,cJ])|refine af ?_|fail
   exact bo (.refl _)
end
section
theorem QV(b:Bool)(l:List cM)(fn:Fn)(fs cs:List I)(p:cM->Bool)(H:ab)(an:∀c,oK Tryz.prog (.func fn fs cs) [a6 c] H (.bool (p c))):
  aY Tryz.prog 104 [.sl b (l.map a6),.func fn fs cs] H (.int .i64 (eg p l)):=by
 refine nz fun bl _=>?_
 have hl:=lI bl;rw[cP]at hl;simp only[a6]at an;refine bh Tryz.func104 ?_;refine aT ?_;refine b5 (ι:=Nat) (fun i=>[(0,.sl b (l.map a6)),(1,.func fn fs cs),(7,.int .i64 l.length),(8,.int .i64 i)]) (fun _=>H) (fun i=>i<=l.length∧∀k (hk:k<i) (eb:k<l.length),p l[k]=false) (fun i=>l.length-i) 0 ⟨bG _,fun k hk=>by omega⟩ ?_ rfl ?_
 ·simp[go_sem]
 ·rintro i ⟨hi,bX⟩;by_cases ak:i<l.length
  ·have ae:=dg a6 ak;repeat' first|(refine ad ?_;simp only[go_sem,ae,a6])|refine af ?_|fail
   refine AB (an _) ?_;simp only[go_sem];repeat' first|(refine ad ?_;simp only[go_sem])|refine bx ?_|(refine bD ?_ ?_<;>intro h<;>try exact bB h)|fail
   ·exact bC (.of (by rw[pN p l i ak (fun k hk=>bX k hk (by omega)) h]))
   ·refine⟨i+1,⟨ak,fun k hk eb=>?_⟩,by omega,by rw[cB];rfl⟩
    by_cases e:k=i
    ·subst e;exact h
    ·exact bX k (by omega) eb
  ·have cv:i=l.length:=by omega
   repeat' first|(refine ad ?_;simp only[go_sem])|refine af ?_|fail
   subst cv;exact bC (.of (by rw[pO p l fun k hk=>bX k hk hk]))
theorem Y8(b:Bool)(l:List iD)(fn:Fn)(fs cs:List I)(p:iD->Bool)(H:ab)(an:∀c,oK Tryz.prog (.func fn fs cs) [cq c] H (.bool (p c))):
  aY Tryz.prog 75 [.sl b (l.map cq),.func fn fs cs] H (.int .i64 (eg p l)):=by
 refine nz fun bl _=>?_
 have hl:=lI bl;rw[cP]at hl;simp only[cq]at an;refine bh Tryz.func75 ?_;refine aT ?_;refine b5 (ι:=Nat) (fun i=>[(0,.sl b (l.map cq)),(1,.func fn fs cs),(7,.int .i64 l.length),(8,.int .i64 i)]) (fun _=>H) (fun i=>i<=l.length∧∀k (hk:k<i) (eb:k<l.length),p l[k]=false) (fun i=>l.length-i) 0 ⟨bG _,fun k hk=>by omega⟩ ?_ rfl ?_
 ·simp[go_sem]
 ·rintro i ⟨hi,bX⟩;by_cases ak:i<l.length
  ·have ae:=dg cq ak;repeat' first|(refine ad ?_;simp only[go_sem,ae,cq])|refine af ?_|fail
   refine AB (an _) ?_;simp only[go_sem];repeat' first|(refine ad ?_;simp only[go_sem])|refine bx ?_|(refine bD ?_ ?_<;>intro h<;>try exact bB h)|fail
   ·exact bC (.of (by rw[pN p l i ak (fun k hk=>bX k hk (by omega)) h]))
   ·refine⟨i+1,⟨ak,fun k hk eb=>?_⟩,by omega,by rw[cB];rfl⟩
    by_cases e:k=i
    ·subst e;exact h
    ·exact bX k (by omega) eb
  ·have cv:i=l.length:=by omega
   repeat' first|(refine ad ?_;simp only[go_sem])|refine af ?_|fail
   subst cv;exact bC (.of (by rw[pO p l fun k hk=>bX k hk hk]))
theorem aGm(b:Bool)(l:List iD)(fn:Fn)(fs cs:List I)(p:iD->Bool)(H:ab)(an:∀c,oK Tryz.prog (.func fn fs cs) [cq c] H (.bool (p c))):
  aY Tryz.prog 73 [.sl b (l.map cq),.func fn fs cs] H (.bool (l.any p)):=by
 refine bh Tryz.func73 ?_;have J:=Y8 b l fn fs cs p H an;repeat' first|((first|refine ea (J) (aA) ?_|refine ep (J) (aA) ?_|refine er (fun _=>J) (aA) ?_|refine ad ?_);simp only[go_sem])|refine af ?_|fail
 exact bC (.of (by rw[yx]))
def It(o:Option Int):I:=.a0 [.int .i64 (o.getD 0),.bool o.isSome]
theorem GG{α:Type}(p:α->Bool)(l:List α):(eg p l= -1∧l.find? p=none)∨∃(i:Nat) (h:i<l.length),eg p l=(i:Int)∧l.find? p=some l[i]:=by
 induction l with
 |nil=>exact .inl ⟨rfl,rfl⟩
 |cons x l ay=>
  unfold eg;rw[List.find?_cons];cases ae:p x with
  |true=>exact .inr ⟨0,by simp,rfl,rfl⟩
  |false=>
   rw[az (by simp)]
   rcases ay with⟨h1,h2⟩|⟨i,hi,h1,h2⟩
   ·rw[aF h1];exact .inl ⟨rfl,h2⟩
   ·rw[az (by omega)];exact .inr ⟨i+1,by simpa using hi,by omega,by simpa using h2⟩
theorem aAf{i:Nat}{n:Int}{G:ab}(hi:ao G i=.cells 0 [.int .i64 n])(s:cM):aY Tryz.prog 105 [a6 s,.ref i 0 0] G (.bool (decide (s.aR=n))):=by
 refine bh Tryz.func105 ?_;have iJ:=bz hi trivial;refine b0 a6.eq_1 ?_;exact bo (.refl _)
theorem Y9{i:Nat}{n:Int}{G:ab}(hi:ao G i=.cells 0 [.int .i64 n])(s:cM):aY Tryz.prog 158 [a6 s,.ref i 0 0] G (.bool (decide (s.lock=n))):=by
 refine bh Tryz.func158 ?_;have iJ:=bz hi trivial;refine b0 a6.eq_1 ?_;exact bo (.refl _)
theorem aAg{i:Nat}{n:Int}{G:ab}(hi:ao G i=.cells 0 [.int .i64 n])(s:iD):aY Tryz.prog 74 [cq s,.ref i 0 0] G (.bool (decide (s.aR=n))):=by
 refine bh Tryz.func74 ?_;have iJ:=bz hi trivial;refine b0 cq.eq_1 ?_;exact bo (.refl _)
theorem aCs(f1 f2:Bool)(t:eS)(n:Int)(H:ab):aY Tryz.prog 71 [fN f1 f2 t,.int .i64 n] H (It (um t.waits n)):=by
 refine bh Tryz.func71 ?_;have J:∀G,ao G (H.length+1)=.cells 0 [.int .i64 n]->aY Tryz.prog 104 [.sl f2 (t.waits.map a6),.func (.func 105) [] [.ref (H.length+1) 0 0]] G (.int .i64 (eg (fun s=>decide (s.aR=n)) t.waits)):=
  fun G h=>QV f2 t.waits (.func 105) [] [.ref (H.length+1) 0 0] (fun s=>decide (s.aR=n)) G (fun s=>.mk (first:=[]) (fun L=>aAf (bQ h trivial L) s) (aA))
 unfold um;rcases GG (fun s:cM=>decide (s.aR=n)) t.waits with⟨h1,h2⟩|⟨i,hi,h1,h2⟩
 ·rw[h1]at J;rw[h2];repeat' first|((first|refine ea (J _ (by simp only[go_sem,fN,Int.reduceLT])) (aA) ?_|refine ep (J _ (by simp only[go_sem,fN,Int.reduceLT])) (aA) ?_|refine er (fun _=>J _ (by simp only[go_sem,fN,Int.reduceLT])) (aA) ?_|refine ad ?_);simp only[go_sem,fN,Int.reduceLT])|refine af ?_|fail
  exact bo (.refl _)
 ·rw[h1]at J;rw[h2];have ak:decide ((i:Int)<0)=false:=cg;have ae:=dg a6 hi;simp only[a6]at ae;repeat' first|((first|refine ea (J _ (by simp only[go_sem,fN,ak,ae])) (aA) ?_|refine ep (J _ (by simp only[go_sem,fN,ak,ae])) (aA) ?_|refine er (fun _=>J _ (by simp only[go_sem,fN,ak,ae])) (aA) ?_|refine ad ?_);simp only[go_sem,fN,ak,ae])|refine af ?_|fail
  exact bo (.refl _)
theorem aAh(f1 f2:Bool)(t:eS)(n:Int)(H:ab):aY Tryz.prog 110 [fN f1 f2 t,.int .i64 n] H (It (uk t.held n)):=by
 refine bh Tryz.func110 ?_;have J:∀G,ao G (H.length+1)=.cells 0 [.int .i64 n]->aY Tryz.prog 104 [.sl f1 (t.held.map a6),.func (.func 158) [] [.ref (H.length+1) 0 0]] G (.int .i64 (eg (fun s=>decide (s.lock=n)) t.held)):=
  fun G h=>QV f1 t.held (.func 158) [] [.ref (H.length+1) 0 0] (fun s=>decide (s.lock=n)) G (fun s=>.mk (first:=[]) (fun L=>Y9 (bQ h trivial L) s) (aA))
 unfold uk;rcases GG (fun s:cM=>decide (s.lock=n)) t.held with⟨h1,h2⟩|⟨i,hi,h1,h2⟩
 ·rw[h1]at J;rw[h2];repeat' first|((first|refine ea (J _ (by simp only[go_sem,fN,Int.reduceLT])) (aA) ?_|refine ep (J _ (by simp only[go_sem,fN,Int.reduceLT])) (aA) ?_|refine er (fun _=>J _ (by simp only[go_sem,fN,Int.reduceLT])) (aA) ?_|refine ad ?_);simp only[go_sem,fN,Int.reduceLT])|refine af ?_|fail
  exact bo (.refl _)
 ·rw[h1]at J;rw[h2];have ak:decide ((i:Int)<0)=false:=cg;have ae:=dg a6 hi;simp only[a6]at ae;repeat' first|((first|refine ea (J _ (by simp only[go_sem,fN,ak,ae])) (aA) ?_|refine ep (J _ (by simp only[go_sem,fN,ak,ae])) (aA) ?_|refine er (fun _=>J _ (by simp only[go_sem,fN,ak,ae])) (aA) ?_|refine ad ?_);simp only[go_sem,fN,ak,ae])|refine af ?_|fail
  exact bo (.refl _)
theorem Sd(f:Bool)(g:ns)(n:Int)(H:ab):aY Tryz.prog 43 [kN f g,.int .i64 n] H (.bool (ie g n)):=by
 refine bh Tryz.func43 ?_;have J:∀G,ao G (H.length+1)=.cells 0 [.int .i64 n]->aY Tryz.prog 73 [.sl f (g.waits.map cq),.func (.func 74) [] [.ref (H.length+1) 0 0]] G (.bool (ie g n)):=
  fun G h=>aGm f g.waits (.func 74) [] [.ref (H.length+1) 0 0] (fun s=>decide (s.aR=n)) G (fun s=>.mk (first:=[]) (fun L=>aAg (bQ h trivial L) s) (aA))
 repeat' first|((first|refine ea (J _ (by simp only[go_sem,kN])) (aA) ?_|refine ep (J _ (by simp only[go_sem,kN])) (aA) ?_|refine er (fun _=>J _ (by simp only[go_sem,kN])) (aA) ?_|refine ad ?_);simp only[go_sem,kN])|refine af ?_|fail
 exact bo (.refl _)
def TL(g:ns):Int:=g.waits.foldl (fun u w=>max u w.upto) ((g.waits.head?.map (·.upto)).getD 0)
def MZ(g:ns):I:=.a0 [.int .i64 ((xK g).getD 0),.int .i64 (TL g),.bool (xK g).isSome]
theorem aDo(f:Bool)(g:ns)(H:ab):aY Tryz.prog 72 [kN f g] H (MZ g):=by
 refine GS fun bl=>?_
 have hl:g.waits.length<=9223372036854775807:=by
  have:=lI (Tm bl (.sl f (g.waits.map cq)) (by simp))
  rwa[cP]at this
 refine bh Tryz.func72 ?_;unfold MZ xK TL;by_cases ag:g.waits=[]
 ·rw[ag];refine b0 kN.eq_1 ?_;exact bo (.refl _)
 ·have lF:0<g.waits.length:=vF.2 ag;have d0:decide ((g.waits.length:Int)=0)=false:=cg;have FF:=dg cq lF;have ah:g.waits.head?=some g.waits[0]:=List.head?_eq_getElem? .. ▸c0 lF;rw[ah];obtain⟨ds,eW⟩:∃w,w=g.waits[0]:=⟨_,rfl⟩;rw[<-eW]at FF ⊢;simp only[cq]at FF;repeat' first|(refine ad ?_;simp only[go_sem,kN,d0,FF,lF])|refine af ?_|fail
  refine b5 (ι:=Nat×ab) (fun s=>[(1,.ref H.length 0 0),(5,.int .i64 ((g.waits.take s.1).foldl (fun u w=>max u w.upto) ds.upto)),(18,.sl f (g.waits.map cq)),(19,.int .i64 g.waits.length),(20,.int .i64 s.1)])
   (fun s=>H++(.cells 0 [.int .i64 g.kept,.sl f (g.waits.map cq)]::s.2)) (fun s=>s.1<=g.waits.length) (fun s=>g.waits.length-s.1) (0,[]) (bG _) ?_ rfl ?_
  ·simp[go_sem]
  rintro⟨i,M⟩ hi;simp only at hi ⊢;obtain⟨G,aT⟩:∃G,H++(.cells 0 [.int .i64 g.kept,.sl f (g.waits.map cq)]::M)=G:=⟨_,rfl⟩;rw[aT];have cw:ao G H.length=.cells 0 [.int .i64 g.kept,.sl f (g.waits.map cq)]:=by rw[<-aT];simp only[go_sem]
  have aZ:=bz cw trivial;by_cases ak:i<g.waits.length
  ·have ae:=dg cq ak;simp only[cq]at ae;have aH:decide ((i:Int)<(g.waits.length:Int))=true:=b1;refine bW ?_;exact⟨(i+1,M++[.cells 0 [.int .i64 g.waits[i].aR,.int .i64 g.waits[i].upto]]),ak,by simp only;omega,⟨by rw[eB ak,s4];rfl,bH _ (by rw[cB];rfl)⟩,by rw[<-aT];simp⟩
  ·have fx:i=g.waits.length:=by omega
   subst fx;have aH:decide ((g.waits.length:Int)<(g.waits.length:Int))=false:=by simp
   rw[eQ];refine bW ?_;exact yK aT (by simp only[go_sem]) (.refl _)
end
end Go.Proofs.YthafnbmdmfoobaaGreatDoor
