/- What the functions of this seat answer (16 of 40). No condition. -/
import Derived.Test.YthafnbmdmfoobaaGreatDoorWorkAL
set_option linter.unusedSimpArgs false
set_option linter.unusedVariables false
set_option maxRecDepth 100000
set_option maxHeartbeats 16000000
namespace Go.Proofs.YthafnbmdmfoobaaGreatDoor
theorem W6(l:List aM):∀e∈l.map I.str,e.cells.length=1:=fun e he=>by
 obtain⟨x,_,rfl⟩:=bP.1 he;rfl
theorem aL7(l:List aM):(∀e∈l.map I.str,e.cells.length=1)=True:=bJ (W6 l)
theorem Xx(l:List aM):∀e∈l.map I.str,bO e:=fun e he=>by
 obtain⟨x,_,rfl⟩:=bP.1 he;first|exact(by simp only[go_sem])|(simp only[I.str];exact(by simp only[go_sem]))
theorem PT(b:Bool)(l:List aM)(hl:l.length<=1073741824)(H:ab):aY Tryz.prog 55 [.sl b (l.map I.str)] H (.sl false (l.map I.str)):=by
 refine bh Tryz.func55 ?_;repeat' first|(refine ad ?_;simp only[go_sem])|refine af ?_|fail
 intro c al;cases c with
 |true=>
  have lZ:l=[]:=by
   cases l with
   |nil=>rfl
   |cons x l=>exact absurd (al (by simp)) (by decide)
  subst lZ;repeat' first|(refine ad ?_;simp only[go_sem])|refine af ?_|fail
  exact bC (.sl _ _)
 |false=>
  clear al;repeat' first|(refine ad ?_;simp only[go_sem,aL7])|refine af ?_|fail
  exact p3 (cs:=List.flatMap I.cells (List.map I.str l)) (es:=l.map I.str) (rest:=[]) (bk _) (by simp only[go_sem]) (b2 _).symm (by rw[cP]) (W6 _) (Xx _) rfl
theorem Xg(l:List dS):∀e∈l.map ct,e.cells.length=2:=fun e he=>by
 obtain⟨x,_,rfl⟩:=bP.1 he;rfl
theorem aMn(l:List dS):(∀e∈l.map ct,e.cells.length=2)=True:=bJ (Xg l)
theorem XH(l:List dS):∀e∈l.map ct,bO e:=fun e he=>by
 obtain⟨x,_,rfl⟩:=bP.1 he;first|exact(by simp only[go_sem])|(simp only[ct];exact(by simp only[go_sem]))
theorem Qj(b:Bool)(l:List dS)(hl:l.length<=1073741824)(H:ab):aY Tryz.prog 56 [.sl b (l.map ct)] H (.sl false (l.map ct)):=by
 refine bh Tryz.func56 ?_;repeat' first|(refine ad ?_;simp only[go_sem])|refine af ?_|fail
 intro c al;cases c with
 |true=>
  have lZ:l=[]:=by
   cases l with
   |nil=>rfl
   |cons x l=>exact absurd (al (by simp)) (by decide)
  subst lZ;repeat' first|(refine ad ?_;simp only[go_sem])|refine af ?_|fail
  exact bC (.sl _ _)
 |false=>
  clear al;repeat' first|(refine ad ?_;simp only[go_sem,aMn])|refine af ?_|fail
  exact p3 (cs:=List.flatMap I.cells (List.map ct l)) (es:=l.map ct) (rest:=[]) (bk _) (by simp only[go_sem]) (b2 _).symm (by rw[cP]) (Xg _) (XH _) rfl
theorem aCg(b:Bool)(l:List Int)(hl:l.length<=1073741824)(H:ab):
  c5 Tryz.prog 194 [.sl b (l.map bj)] H (fun v H'=>v=.osl 1 H.length 1 0 l.length l.length∧H'=H++[.cells 1 (l.map bj)]):=by
 refine pD Tryz.func194 ?_;have eM:∀n,dp n (.cells 1 (l.map bj)):=fun n x J=>by obtain⟨y,_,rfl⟩:=bP.1 J;exact .int _ _
 have fin:∀v H',v=.osl 1 H.length 1 0 l.length l.length->H'=H++[.cells 1 (l.map bj)]->∃H1 L y,H'=H1++L∧H.length<=H1.length∧(∀(i:Nat) (b:bu),H1[i]?=some b->H[i]?=some b∨dp H1.length b)∧cQ H1.length H' v y∧
   y=.osl 1 H.length 1 0 l.length l.length∧H1=H++[.cells 1 (l.map bj)]:=by
  rintro v H' rfl rfl;refine⟨_,[],_,(b2 _).symm,by simp,fun i b hi=>?_,.cl _ (.osl _ _ _ _ _ _ (by simp)),rfl,rfl⟩
  by_cases ak:i<H.length
  ·rw[iC ak]at hi;exact .inl hi
  ·rw[qf (by omega)]at hi
   cases hk:i-H.length with
   |zero=>rw[hk]at hi;cases hi;exact .inr (eM _)
   |succ k=>rw[hk]at hi;simp at hi
 repeat' first|(refine ad ?_;simp only[go_sem])|refine af ?_|fail
 intro c al;cases c with
 |true=>
  have lZ:l=[]:=by
   cases l with
   |nil=>rfl
   |cons x l=>exact absurd (al (by simp)) (by decide)
  subst lZ;repeat' first|(refine ad ?_;simp only[go_sem])|refine bx ?_|fail
  refine ly rfl (fun _=>?_) (fun h=>by cases h)
  refine w6 ?_;refine qn rfl ?_;simp only[go_sem];refine sF 2 1 rfl ?_;repeat' first|(refine ad ?_;simp only[go_sem])|refine af ?_|fail
  exact fin _ _ rfl rfl
 |false=>
  clear al;have kP:(∀e∈l.map bj,e.cells.length=1)=True:=bJ (yy l);have kT:(l.length * 8<=140737488355328)=True:=bJ (by omega)
  repeat' first|(refine ad ?_;simp only[go_sem,kP,va,kT,DK,true_or])|refine af ?_|fail
  exact fin _ _ rfl rfl
theorem Mt(k:Nat)(b:Bool)(l:List dS):cX k (.sl b (l.map ct)):=(bO.sl b _ (XH l)).cl k
theorem LJ(k:Nat)(b:Bool)(l:List aM):cX k (.sl b (l.map I.str)):=(bO.sl b _ (Xx l)).cl k
theorem aDN(k:Nat)(b:Bool)(l:List Int):cX k (.sl b (l.map bj)):=(bO.sl b _ (fun e he=>by obtain⟨x,_,rfl⟩:=bP.1 he;exact .int _ _)).cl k
theorem aCh(k:Nat)(l:List Int):∀x∈l.map bj,cX k x:=fun x J=>by obtain⟨y,_,rfl⟩:=bP.1 J;exact .int _ _
def q8(t:ba):Prop:=t.call.path.length<=1048576∧t.has.length<=1048576∧t.bp.names.length<=1048576∧t.bp.events.length<=1048576
theorem Uk(f1 f2 f3:Bool)(t:ba)(hs:q8 t)(H:ab):
  c5 Tryz.prog 159 [g9 f1 f2 f3 t] H (fun v H'=>v=jd (.osl 1 (H.length+2) 1 0 t.has.length t.has.length) (.sl false (t.bp.names.map I.str)) (.sl false (t.bp.events.map ct)) t∧∃A B,H'=H++[A,B,.cells 1 (t.has.map bj)]):=by
 refine pD Tryz.func159 ?_;obtain⟨h1,h2,h3,h4⟩:=hs;have ag:=PT f2 t.bp.names (by omega)
 have he:=Qj f3 t.bp.events (by omega)
 repeat' first|(refine ad ?_;simp only[go_sem,g9,jd])|refine af ?_|fail
 refine c6 (aCg f1 t.has (by omega) _) (aA) ?_
 rintro v H' ⟨rfl,rfl⟩;simp only[go_sem];repeat' first|(refine ad ?_;simp only[go_sem])|refine af ?_|fail
 refine⟨_,[],_,(b2 _).symm,by simp,wT ?_,.cl _ ?_,rfl,_,_,rfl⟩
 all_goals repeat' first|exact all_nil|refine all_cons ?_ ?_|refine Z0 ?_|refine aFU ?_|refine aFV ?_|refine aC0 ?_ ?_|refine aC1 ?_|exact .int _ _|exact .str _|exact .bool _|exact .hp|exact .nilIface|exact .osl _ _ _ _ _ _ (by simp only[bt,cm,ew];omega)|exact .ref _ _ _ (by simp only[bt,cm,ew];omega)|exact .map _ (by simp only[bt,cm,ew];omega)|exact LJ _ _ _|exact Mt _ _ _|exact aCh _ _
theorem aFt{n i v lc k:Nat}{H:ab}{cs rest:List I}{t:ba}(ag:n<=i)(ah:ao H i=.cells v cs)(fk:cs=t.has.map bj++rest)(hk:k=t.has.length):
  cQ n H (jd (.osl 1 i v 0 k lc) (.sl false (t.bp.names.map I.str)) (.sl false (t.bp.events.map ct)) t) (g9 false false false t):=by
 unfold g9 jd;refine .agg _ _ rfl ?_;repeat' first|exact gY|refine dV ?_ ?_|exact .cl _ (.int _ _)|exact .cl _ (.str _)|exact .cl _ (.bool _)|exact .cl _ (LJ _ _ _)|exact .cl _ (Mt _ _ _)
 exact sG ag ah (by rw[va];exact fk) (by rw[cP,hk]) (yy _) (fun e he=>by obtain⟨x,_,rfl⟩:=bP.1 he;exact .int _ _)
theorem aDO{n:Nat}{H:ab}(f:Bool)(t:ba):cQ n H (jd (.sl f (t.has.map bj)) (.sl false (t.bp.names.map I.str)) (.sl false (t.bp.events.map ct)) t) (g9 false false false t):=by
 unfold g9 jd;refine .agg _ _ rfl ?_;repeat' first|exact gY|refine dV ?_ ?_|exact .cl _ (.int _ _)|exact .cl _ (.str _)|exact .cl _ (.bool _)|exact .cl _ (LJ _ _ _)|exact .cl _ (Mt _ _ _)|exact .GC _ _ (aDN _ _ _)
theorem vc{i v lc k:Nat}{H L:ab}{cs rest:List I}{x:I}(t:ba)(ag:H.length<=i)(ah:ao (H++L) i=.cells v cs)(fk:cs=t.has.map bj++rest)(hk:k=t.has.length)(J:g9 false false false t=x):
  ∃gk y,H++L=H++gk∧cQ H.length (H++L) (jd (.osl 1 i v 0 k lc) (.sl false (t.bp.names.map I.str)) (.sl false (t.bp.events.map ct)) t) y∧y=x:=
 ⟨L,_,rfl,aFt ag ah fk hk,J⟩
theorem aDP(f1 f2 f3:Bool)(t:ba)(hs:q8 t)(H:ab):aY Tryz.prog 119 [g9 f1 f2 f3 t] H (g9 false false false (nS t)):=by
 refine bh Tryz.func119 ?_;repeat' first|(refine ad ?_;simp only[go_sem,g9,jd])|refine af ?_|fail
 refine c6 (Uk f1 f2 f3 t hs _) (aA) ?_;rintro v H' ⟨rfl,A,B,rfl⟩;simp only[go_sem,jd];repeat' first|(refine ad ?_;simp only[go_sem])|refine af ?_|fail
 exact⟨_,_,rfl,aDO true (nS t),rfl⟩
theorem aGk(l:List Int)(p:Int->Bool)(i v lc n:Nat)(ag:n=l.length)(gE:n<=lc)(hl:n<=1073741824){fn:Fn}{fs cs:List I}(H:ab)(ah:ao H i=.cells v (l.map bj))
  (an:∀x,h6 Tryz.prog (.func fn fs cs) [.int .i64 x] H (fun r dt=>r=.bool (p x)∧dt=H)):
  aY Tryz.prog 195 [.osl 1 i v 0 n lc,.func fn fs cs] H (.int .i64 (eg p l)):=by
 refine bh Tryz.func195 ?_;repeat' first|(refine ad ?_;simp only[go_sem,ah])|refine af ?_|fail
 refine b5 (ι:=Nat) (fun k=>[(0,.osl 1 i v 0 n lc),(1,.func fn fs cs),(7,.int .i64 n),(8,.int .i64 k)]) (fun _=>H) (fun k=>k<=n∧∀q (hk:q<k) (eb:q<l.length),p l[q]=false) (fun k=>n-k) 0 ⟨bG _,fun q hk=>by omega⟩ ?_ rfl ?_
 ·simp[go_sem]
 ·rintro k ⟨hk,bX⟩;by_cases ak:k<l.length
  ·have ae:=dg bj ak;have aH:decide ((k:Int)<(n:Int))=true:=b1;have hw:=dW ak (by omega)
   have kT:(List.map bj l).length=n:=by rw[cP,ag]
   repeat' first|(refine ad ?_;simp only[go_sem,ah,aH,ae,bj,cP,eE,<-ag])|refine af ?_|fail
   refine sH (an l[k]) ?_;simp only[go_sem];repeat' first|(refine ad ?_;simp only[go_sem])|refine bx ?_|(refine bD ?_ ?_<;>intro h<;>try exact bB h)|fail
   ·exact bC (.of (by rw[pN p l k ak (fun q aS=>bX q aS (by omega)) (by assumption)]))
   ·refine⟨k+1,⟨by omega,fun q aS iK=>?_⟩,by omega,bH _ hw⟩
    by_cases e:q=k
    ·subst e;assumption
    ·exact bX q (by omega) (by omega)
  ·have cv:k=n:=by omega
   subst cv;have aH:decide ((k:Int)<(k:Int))=false:=by simp
   repeat' first|(refine ad ?_;simp only[go_sem,ah,aH])|refine af ?_|fail
   exact bC (.of (by rw[pO p l fun q hk=>bX q (by omega) hk]))
theorem aAQ{l:List Int}{p:Int->Bool}(h:eg p l= -1):l.filter (fun x=> !p x)=l:=by
 induction l with
 |nil=>rfl
 |cons x l ay=>
  unfold eg at h;by_cases ae:p x=true
  ·rw[aF ae]at h;cases h
  ·rw[az ae]at h;split at h
   ·rename_i h1;rw[mX,aF (by simp[ae]),ay h1]
   ·have:=GW p l;omega
theorem aAR{l:List Int}{p:Int->Bool}(h:eg p l≠ -1):∃A x B,l=A++x::B∧eg p l=A.length∧p x=true∧A.filter (fun x=> !p x)=A:=by
 induction l with
 |nil=>exact absurd rfl h
 |cons x l ay=>
  by_cases ae:p x=true
  ·exact⟨[],x,l,rfl,by simp[eg,ae],ae,rfl⟩
  ·unfold eg at h ⊢;rw[az ae]at h ⊢;by_cases h1:eg p l= -1
   ·rw[aF h1]at h;exact absurd rfl h
   ·rw[az h1];obtain⟨A,y,B,ar,au,bd,bE⟩:=ay h1;exact⟨x::A,y,B,by rw[ar];rfl,by rw[au];simp,bd,by rw[mX,aF (by simp[ae]),bE]⟩
theorem aHl(l:List Int)(p:Int->Bool)(i v lc n:Nat)(ag:n=l.length)(gE:n<=lc)(hl:n<=1073741824){fn:Fn}{fs cs:List I}(hx:ab->Prop)(wy:∀G b,hx G->hx (ai G i b))(H:ab)(ah:ao H i=.cells v (l.map bj))
  (an:∀x G,hx G->h6 Tryz.prog (.func fn fs cs) [.int .i64 x] G (fun r dt=>r=.bool (p x)∧dt=G)) (aJ:hx H):
  c5 Tryz.prog 161 [.osl 1 i v 0 n lc,.func fn fs cs] H (fun r H'=>∃rest,r=.osl 1 i v 0 (l.filter (fun x=> !p x)).length lc∧H'=ai H i (.cells v ((l.filter (fun x=> !p x)).map bj++rest))):=by
 refine uM Tryz.func161 ?_;have fI:=aGk l p i v lc n ag gE hl H ah (fun x=>an x H aJ)
 have kA:=c8 ah trivial;have s1:=fun b=>dT kA b
 have s2:=iQ H i;by_cases h1:eg p l= -1
 ·rw[h1]at fI;repeat' first|((first|refine ea (fI) (aA) ?_|refine ep (fI) (aA) ?_|refine er (fun _=>fI) (aA) ?_|refine ad ?_);simp only[go_sem,ah,Int.reduceEq])|refine af ?_|fail
  rw[aAQ h1,ag];exact⟨[],rfl,by rw[b2];exact(kr ah trivial).symm⟩
 ·obtain⟨A,x,B,rfl,au,bd,bE⟩:=aAR h1;rw[au]at fI;have cf:n=A.length+(B.length+1):=by simp[ag]
  have hd:decide (((A.length:Nat):Int)= -1)=false:=cg;have hw:IntKind.i64.wrap ((A.length:Int)+1)=((A.length+1:Nat):Int):=by rw[cB];rfl
  repeat' first|((first|refine ea (fI) (aA) ?_|refine ep (fI) (aA) ?_|refine er (fun _=>fI) (aA) ?_|refine ad ?_);simp only[go_sem,ah,hd,hw])|refine af ?_|fail
  generalize hU:A++x::B=L at *;refine b5 (ι:=Nat×Nat×List Int) (fun s=>[(0,.osl 1 i v 0 n lc),(1,.func fn fs cs),(5,.int .i64 s.1),(6,.int .i64 s.2.1)])
   (fun s=>ai H i (.cells v (s.2.2.map bj))) (fun s=>s.1<s.2.1∧s.2.1<=n∧s.2.2.length=n∧s.2.2.take s.1=(L.take s.2.1).filter (fun x=> !p x)∧s.2.2.drop s.2.1=L.drop s.2.1) (fun s=>n-s.2.1) (A.length,A.length+1,L)
   ⟨by simp,by simp only;omega,ag.symm,?_,rfl⟩ ?_ (kr ah trivial).symm ?_
  ·simp only;rw[<-hU,s0,show A++x::B=(A++[x])++B by simp,show A.length+1=(A++[x]).length by simp,s0,ld,bE];simp[bd]
  ·simp[go_sem]
  ·rintro⟨k,j,E⟩ ⟨c4,dm,ee,dH,fD⟩;simp only at c4 dm ee dH fD ⊢;have ga:(E.map bj).length=n:=by rw[cP,ee]
   by_cases aw:j<n
   ·have aH:decide ((j:Int)<(n:Int))=true:=b1;have kS:j<L.length:=by omega
    have wx:E[j]'(by omega)=L[j]:=by
     have a:=eo (l:=E) (i:=j) (by omega)
     have b:=eo kS;rw[fD,b]at a;exact(pr a).1.symm
    have od:(E.map bj).getD j .top=.int .i64 L[j]:=by rw[dg bj (by omega),wx];rfl
    have ca:IntKind.i64.wrap ((j:Int)+1)=((j+1:Nat):Int):=by rw[cB];rfl
    have bT:IntKind.i64.wrap ((k:Int)+1)=((k+1:Nat):Int):=by rw[cB];rfl
    have fX:dw (E.map bj) k [.int .i64 L[j]]=(E.set k L[j]).map bj:=by
     have aJJ:k<E.length:=by omega
     have e:=m0 (A:=(E.take k).map bj) (B:=(E.drop k).map bj) (off:=k) (X:=[I.int .i64 L[j]]) (by simp;omega)
     rw[<-n0,jf]at e;rw[e,K7,aF aJJ,n0,dn,<-y1,Bg];rfl
    have oU:L.take (j+1)=L.take j++[L[j]]:=eB kS;have gB:(j * 1<n)=True:=bJ (by omega)
    repeat' first|(refine ad ?_;simp only[go_sem,s1,s2,aH,ga,od,eE])|refine af ?_|fail
    refine sH (an L[j] _ (wy _ _ aJ)) ?_;cases lH:p L[j]with
    |true=>
     simp only[go_sem];repeat' first|(refine ad ?_;simp only[go_sem])|refine af ?_|fail
     refine⟨(k,j+1,E),⟨by simp only;omega,by simp only;omega,ee,?_,?_⟩,by simp only;omega,⟨rfl,bH _ ca⟩,rfl⟩
     ·simp only;rw[oU,ld,<-dH,mX,az (by simp[lH])];simp
     ·simp only;have a:=eo (l:=E) (i:=j) (by omega)
      have b:=eo kS;rw[fD,b]at a;exact(pr a).2.symm
    |false=>
     simp only[go_sem];repeat' first|(refine ad ?_;simp only[go_sem,s1,s2,ga,fX,eE])|refine af ?_|fail
     refine⟨(k+1,j+1,E.set k L[j]),⟨by simp only;omega,by simp only;omega,by simp only[gj];exact ee,?_,?_⟩,by simp only;omega,⟨bH _ bT,bH _ ca⟩,rfl⟩
     ·simp only;rw[oU,ld,<-dH,mX,aF (by simp[lH]),eB (by simp;omega),vE,DN (bk _)]
      rfl
     ·simp only;rw[Hp (by omega)]
      have a:=eo (l:=E) (i:=j) (by omega)
      have b:=eo kS;rw[fD,b]at a;exact(pr a).2.symm
   ·have lB:j=n:=by omega
    subst lB;have aH:decide ((j:Int)<(j:Int))=false:=by simp
    repeat' first|(refine ad ?_;simp only[go_sem,s1,s2,aH,ga,eE])|refine af ?_|fail
    rw[ag,eQ]at dH;have hk:k=(L.filter (fun x=> !p x)).length:=by rw[<-dH,e8];omega
    have dK:=m0 (A:=(L.filter (fun x=> !p x)).map bj) (B:=(E.drop k).map bj) (off:=k) (X:=List.flatMap I.cells (List.replicate (j-k) (I.int IntKind.i64 0))) (by rw[cP,hk])
    rw[<-n0,<-dH,jf]at dK;exact⟨_,by rw[<-hk],by rw[dK,dH]⟩
theorem aCi(kind lock:Int)(i:Nat)(G:ab)(ah:ao G i=.cells 0 [.int .i64 kind,.int .i64 lock])(x:Int):aY Tryz.prog 162 [.int .i64 x,.ref i 0 0] G (.bool (decide (x=lock))):=by
 refine bh Tryz.func162 ?_;repeat' first|(refine ad ?_;simp only[go_sem,ah])|refine af ?_|fail
 exact bC (.refl _)
theorem Sq(f1 f2 f3:Bool)(t:ba)(u:eR)(hs:q8 t)(H:ab):aY Tryz.prog 113 [g9 f1 f2 f3 t,oF u] H (g9 false false false (dj t u)):=by
 obtain⟨X,ez⟩:∃X,X=g9 false false false (dj t u):=⟨_,rfl⟩;rw[<-ez];refine bh Tryz.func113 ?_;have ju:=aEe t.call hs.1;have hlen:=hs.2.1;simp only[cJ]at ju;repeat' first|(refine ad ?_;simp only[go_sem,g9,jd,oF])|refine af ?_|fail
 refine c6 (Uk f1 f2 f3 t hs _) (aA) ?_;rintro v H' ⟨rfl,A,B,rfl⟩;obtain⟨vn,ul⟩:=u;simp only[go_sem,jd];rcases(show vn=1∨vn=2∨vn=3∨vn=5∨((vn=1)=False∧(vn=2)=False∧(vn=3)=False∧(vn=5)=False) by simp only[eq_iff_iff,iff_false];omega)with rfl|rfl|rfl|rfl|⟨ar,au,bd,cE⟩
 ·have jN:(∀e,e=I.int .i64 ul->e.cells.length=1)=True:=bJ (fun e he=>by rw[he];rfl)
  have iK:((t.has.length+1) * 8<=140737488355328)=True:=bJ (by omega)
  by_cases h1:t.has.length=1
  ·have hd:decide ((t.has.length:Int)=1)=true:=b1;cases hk:gR t.call with
   |true=>
    rw[hk]at ju;repeat' first|(refine ad ?_;simp only[go_sem,Int.reduceEq,hd,jN,iK,eE])|refine af ?_|fail
    exact vc {t with at_:=IntKind.i64.wrap (t.at_+1),has:=t.has++[ul]} (v:=2) (cs:=t.has.map bj++[.int .i64 ul]) (by omega) (by simp only[go_sem]) (rest:=[]) (by simp[bj]) (by simp) (by rw[ez];simp[dj,h1,hk])
   |false=>
    rw[hk]at ju;repeat' first|(refine ad ?_;simp only[go_sem,Int.reduceEq,hd,jN,iK,eE])|refine af ?_|fail
    exact vc {t with has:=t.has++[ul]} (v:=2) (cs:=t.has.map bj++[.int .i64 ul]) (by omega) (by simp only[go_sem]) (rest:=[]) (by simp[bj]) (by simp) (by rw[ez];simp[dj,h1,hk])
  ·have hd:decide ((t.has.length:Int)=1)=false:=cg;repeat' first|(refine ad ?_;simp only[go_sem,Int.reduceEq,hd,jN,iK,eE])|refine af ?_|fail
   exact vc {t with has:=t.has++[ul]} (v:=2) (cs:=t.has.map bj++[.int .i64 ul]) (by omega) (by simp only[go_sem]) (rest:=[]) (by simp[bj]) (by simp) (by rw[ez];simp[dj,h1])
 ·repeat' first|(refine ad ?_;simp only[go_sem,Int.reduceEq])|refine af ?_|fail
  refine c6 (aHl t.has (fun x=>decide (x=ul)) (H.length+5) 1 t.has.length t.has.length rfl (bk _) (by omega) (fun G=>ao G (H.length+1)=.cells 0 [.int .i64 2,.int .i64 ul]) (fun G b aJ=>bM aJ (by omega) b) _ (by simp only[go_sem])
   (fun x G aJ=>Or.inl ⟨(aA),aCi 2 ul _ G aJ x⟩) (by simp only[go_sem])) (aA) ?_
  rintro v H' ⟨rest,rfl,rfl⟩;simp only[go_sem];obtain⟨F,lA⟩:∃F,t.has.filter (fun x=> !decide (x=ul))=F:=⟨_,rfl⟩
  rw[lA];have fk:(List.map bj F++rest)=F.map bj++rest:=rfl;by_cases h1:F=[]
  ·have hd:decide ((F.length:Int)=0)=true:=by rw[h1];rfl
   cases ky:t.done with
   |true=>
    repeat' first|(refine ad ?_;simp only[go_sem,Int.reduceEq,hd])|refine af ?_|fail
    exact vc {t with has:=F,done:=true} (by omega) (by simp only[go_sem]) fk rfl (by rw[ez];simp[dj,lA,ky])
   |false=>
    cases hk:gR t.call with
    |true=>
     rw[hk]at ju;repeat' first|(refine ad ?_;simp only[go_sem,Int.reduceEq,hd])|refine af ?_|fail
     exact vc {t with has:=F,at_:=0,done:=false} (by omega) (by simp only[go_sem]) fk rfl (by rw[ez];simp[dj,lA,h1,hk,ky])
    |false=>
     rw[hk]at ju;repeat' first|(refine ad ?_;simp only[go_sem,Int.reduceEq,hd])|refine af ?_|fail
     exact vc {t with has:=F,done:=false} (by omega) (by simp only[go_sem]) fk rfl (by rw[ez];simp[dj,lA,hk,ky])
  ·have hd:decide ((F.length:Int)=0)=false:=b8 (fun h=>h1 (jg (by omega)))
   repeat' first|(refine ad ?_;simp only[go_sem,Int.reduceEq,hd])|refine af ?_|fail
   exact vc {t with has:=F} (by omega) (by simp only[go_sem]) fk rfl (by rw[ez];simp[dj,lA,h1])
 ·repeat' first|(refine ad ?_;simp only[go_sem,Int.reduceEq])|refine af ?_|fail
  exact vc {t with done:=true} (by omega) (by simp only[go_sem]) (b2 _).symm rfl (by rw[ez];rfl)
 ·repeat' first|(refine ad ?_;simp only[go_sem,Int.reduceEq])|refine af ?_|fail
  exact vc {t with ended:=true} (by omega) (by simp only[go_sem]) (b2 _).symm rfl (by rw[ez];rfl)
 ·repeat' first|(refine ad ?_;simp only[go_sem,Int.reduceEq,ar,au,bd,cE])|refine af ?_|fail
  exact vc t (by omega) (by simp only[go_sem]) (b2 _).symm rfl (by rw[ez];simp[dj,ar,au,bd,cE])
end Go.Proofs.YthafnbmdmfoobaaGreatDoor
