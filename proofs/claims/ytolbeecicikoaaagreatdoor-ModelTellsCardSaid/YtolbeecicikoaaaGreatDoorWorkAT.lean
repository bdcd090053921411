/- The texts 20 of 53 beneath the rows of this seat (joined by program): the abstract machine, and what the functions answer. No condition. -/
import Derived.Test.YtolbeecicikoaaaGreatDoorWorkAI
import Derived.Test.YtolbeecicikoaaaGreatDoorWorkAL
import Derived.Test.YtolbeecicikoaaaGreatDoorWorkAN
set_option linter.unusedSimpArgs false
set_option linter.unusedVariables false
set_option linter.unusedSectionVars false
set_option maxRecDepth 100000
set_option maxHeartbeats 16000000
namespace Go.Proofs.YtolbeecicikoaaaGreatDoor
def kY(l:List Nd)(id:Int):List Nd:=l.filter fun n=> !decide (n.id=id)
def xJ(l:List Nd)(id:Int):Nat:=(l.takeWhile fun n=>decide (n.id<id)).length
def aGC(l:List Nd)(n:Nd):List Nd:=(kY l n.id).take (xJ (kY l n.id) n.id)++n::(kY l n.id).drop (xJ (kY l n.id) n.id)
theorem aGD{l:List Nd}{id:Int}(h:∀x∈l,x.id≠id):kY l id=l:=by
 unfold kY
 rw[List.filter_eq_self]
 intro x hx
 simp[h x hx]
theorem aFf(p:Nd→Bool)(a b:List Nd)(h:∀x∈a,p x=true)(hb:∀x∈b,p x=false):(a++b).takeWhile p=a:=by
 induction a with
 |nil=>
  cases b with
  |nil=>rfl
  |cons x b=>simp[hb x (by simp)]
 |cons x a ih=>rw[zA1,zBq,zAc (h x (by simp)),ih fun y hy=>h y (by simp[hy])]
theorem aFg{l:List Nd}(hs:chk l=true)(id:Int):∃A B,(∀x∈A,x.id<id)∧(∀x∈B,id<x.id)∧A=l.take (pos l id)∧B=l.drop (upto l id)∧kY l id=A++B:=by
 obtain⟨A,B,hA,hB,eA,eB,h⟩:=vC hs id
 refine⟨A,B,hA,hB,eA,eB,?_⟩
 have nA:kY A id=A:=aGD fun x hx=>by have:=hA x hx;omega
 have nB:kY B id=B:=aGD fun x hx=>by have:=hB x hx;omega
 rcases h with⟨e, -⟩|⟨n,hn,e, -⟩
 ·rw[e,kY,zAV]
  exact congr (zAp _ nA) nB
 ·rw[e,kY,zAV,zBA]
  simp only[hn,zCe,zBz,zAw,zA3]
  exact congr (zAp _ nA) nB
theorem aDX{l:List Nd}(hs:chk l=true)(n:Nd):aGC l n=mH l (pos l n.id) (upto l n.id) [n]:=by
 obtain⟨A,B,hA,hB,eA,eB,e⟩:=aFg hs n.id
 have hk:xJ (A++B) n.id=A.length:=by
  rw[xJ,aFf _ A B (fun x hx=>by simpa using hA x hx) (fun x hx=>by have:=hB x hx;simp;omega)]
 rw[aGC,e,hk,zCH rfl,List.drop_left' rfl,mH,←eA,←eB];simp
end Go.Proofs.YtolbeecicikoaaaGreatDoor
namespace Go.Proofs.YtolbeecicikoaaaGreatDoor
theorem xK{α:Type}(p:α→Bool)(l:List α):(gX p l= -1∧l.find? p=none)∨∃i,∃h:i<l.length,gX p l=(i:Int)∧l.find? p=some l[i]:=by
 induction l with
 |nil=>exact .inl ⟨rfl,rfl⟩
 |cons x l ih=>
  unfold gX
  rw[zCn]
  cases hp:p x with
  |true=>exact .inr ⟨0,by simp,by simp⟩
  |false=>
   simp only[zAw,zA3]
   rcases ih with⟨h1,h2⟩|⟨i,hi,h1,h2⟩
   ·exact .inl ⟨by rw[zAc h1],h2⟩
   ·refine .inr ⟨i+1,by simp;omega,?_,by simpa using h2⟩
    rw[zAb (by omega),h1];simp
def aCQ(l:List Nd)(id:Int):Int:=gX (fun n=>decide (n.id=id)) l
theorem aKt(b:Bool)(l:List Nd)(id:Int)(H:AHeap):bD Tryz.prog 130 [.sl b (l.map ndA),.int .i64 id] H (.int .i64 (aCQ l id)):=by
 refine eR fun hok _=>?_
 have hl:=jB hok
 rw[zAj]at hl
 refine fO Tryz.func130 ?_
 repeat' first|(refine gS ?_;simp only[go_sem])|refine gA ?_|(refine gD (fun h=>?_) (fun h=>?_)<;>try exact aA h)|fail
 refine aH (ι:=Nat) (fun i=>[(0,.sl b (l.map ndA)),(1,.int .i64 id),(5,.int .i64 i)]) (fun _=>H) (fun i=>i≤l.length∧∀k (hk:k<i) (hk2:k<l.length),¬l[k].id=id) (fun i=>l.length-i) 0 ⟨zAn _,fun k hk=>by omega⟩ ?_ rfl ?_
 ·simp[go_sem]
 ·rintro i ⟨hi,hno⟩
  by_cases hlt:i<l.length
  ·have hp:=aJ ndA hlt
   repeat' first|(refine gS ?_;simp only[go_sem,hp,ndA])|refine gA ?_|(refine gD (fun h=>?_) (fun h=>?_)<;>try exact aA h)|fail
   ·exact bL (.of (by rw[aCQ,mF _ l i hlt (fun k hk=>eT (hno k hk (by omega))) h]))
   ·refine⟨i+1,⟨hlt,fun k hk hk2=>?_⟩,by omega,zAp _ (aK hlt (by omega))⟩
    by_cases e:k=i
    ·subst e;exact zBT h
    ·exact hno k (by omega) hk2
  ·have hi':i=l.length:=by omega
   repeat' first|(refine gS ?_;simp only[go_sem])|refine gA ?_|(refine gD (fun h=>?_) (fun h=>?_)<;>try exact aA h)|fail
   subst hi'
   exact bL (.of (by rw[aCQ,mG _ l fun k hk=>eT (hno k hk hk)]))
theorem aCR(b:Bool)(l:List Nd)(id:Int)(H:AHeap):bD Tryz.prog 70 [.sl b (l.map ndA),.int .i64 id] H (ndV (findI l id)):=by
 refine fO Tryz.func70 ?_
 have hat:=aKt b l id
 unfold findI
 cases hs:chk l with
 |false=>
  repeat' first|((first|refine gQ (pY _ _) ?_|refine gS ?_);simp only[go_sem,hs])|refine gA ?_|(refine gD (fun h=>?_) (fun h=>?_)<;>try exact aA h)|fail
  exact dY (.refl _)
 |true=>
  rcases xK (fun n:Nd=>decide (n.id=id)) l with⟨h1,h2⟩|⟨i,hlt,h1,h2⟩
  ·have e1:aCQ l id= -1:=h1
   have e2:lZ l id=none:=h2
   rw[e1]at hat
   rw[e2]
   repeat' first|((first|refine gQ (pY _ _) ?_|refine gS ?_);simp only[go_sem,hs])|refine gA ?_|(refine gD (fun h=>?_) (fun h=>?_)<;>try exact aA h)|fail
   exact dY (.refl _)
  ·have e1:aCQ l id=(i:Int):=h1
   have e2:lZ l id=some l[i]:=h2
   have hp:=aJ ndA hlt
   have hn:decide ((i:Int)<0)=false:=dF
   rw[e1]at hat
   rw[e2]
   repeat' first|((first|refine gQ (pY _ _) ?_|refine gS ?_);simp only[go_sem,hs,hp,ndA,hn])|refine gA ?_|(refine gD (fun h=>?_) (fun h=>?_)<;>try exact aA h)|fail
   exact dY (.refl _)
theorem aDY(b:Bool)(l:List Nd)(id:Int)(hl:l.length≤1073741824)(H:AHeap):bD Tryz.prog 131 [.sl b (l.map ndA),.int .i64 id] H (.sl false ((eO l id).map iY)):=by
 refine fO Tryz.func131 ?_
 have hat:=fun id=>aKt b l id
 unfold eO
 cases hs:chk l with
 |false=>
  repeat' first|((first|refine gQ (pY _ _) ?_|refine gS ?_);simp only[go_sem,hs])|refine gA ?_|(refine gD (fun h=>?_) (fun h=>?_)<;>try exact aA h)|fail
  exact bL (.sl _ _)
 |true=>
  repeat' first|((first|refine gQ (pY _ _) ?_|refine gS ?_);simp only[go_sem,hs])|refine gA ?_|(refine gD (fun h=>?_) (fun h=>?_)<;>try exact aA h)|fail
  refine gI 5 1 rfl ?_
  refine aH (ι:=List Int×Int) (fun x=>[(0,.sl b (l.map ndA)),(1,.int .i64 x.2),(5,.osl 1 H.length (x.1.length+1) 0 x.1.length x.1.length),(7,.int .i64 x.1.length)]) (fun x=>H++[.cells (x.1.length+1) (x.1.map iY)])
   (fun x=>x.1.length≤l.length∧x.1++cL l (l.length-x.1.length) x.2=bR l id) (fun x=>l.length-x.1.length) ([],id) ⟨zAn _,rfl⟩ ?_ rfl ?_
  ·simp[go_sem]
  ·rintro⟨acc,id'⟩ ⟨hn,he⟩
   simp only at hn he ⊢
   have ha:=hat id'
   by_cases hlt:acc.length<l.length
   ·obtain⟨m,hm⟩:∃m,l.length-acc.length=m+1:=⟨l.length-acc.length-1,by omega⟩
    rw[hm,cL]at he
    rcases xK (fun n:Nd=>decide (n.id=id')) l with⟨h1,h2⟩|⟨i,hil,h1,h2⟩
    ·have e1:aCQ l id'= -1:=h1
     have e2:lZ l id'=none:=h2
     rw[e1]at ha
     rw[e2]at he
     repeat' first|(refine gS ?_;simp only[go_sem])|refine gA ?_|(refine gD (fun h=>?_) (fun h=>?_)<;>try exact aA h)|fail
     exact fN (cs:=acc.map iY) (es:=acc.map iY) (rest:=[]) (zAh _) (by simp only[go_sem]) (by rw[lD,zAg]) (by simp) (nH acc) (fun e he=>by obtain⟨c,_,rfl⟩:=zAi.1 he;exact .int _ _) (by rw[←he];simp)
    ·have e1:aCQ l id'=(i:Int):=h1
     have e2:lZ l id'=some l[i]:=h2
     have hp:=aJ ndA hil
     have hin:decide ((i:Int)<0)=false:=dF
     rw[e1]at ha
     rw[e2]at he
     simp only at he
     repeat' first|(refine gS ?_;simp only[go_sem,hp,ndA,hin])|refine gA ?_|(refine gD (fun h=>?_) (fun h=>?_)<;>try exact aA h)|fail
     ·rw[zAc (zA6 h)]at he
      exact fN (cs:=acc.map iY) (es:=acc.map iY) (rest:=[]) (zAh _) (by simp only[go_sem]) (by rw[lD,zAg]) (by simp) (nH acc) (fun e he=>by obtain⟨c,_,rfl⟩:=zAi.1 he;exact .int _ _) (by rw[←he];simp)
     ·rw[zAb (zBT h)]at he
      refine⟨⟨by omega,fun e he=>by rw[he];rfl,by omega⟩,?_⟩
      repeat' first|(refine gS ?_;simp only[go_sem])|refine gA ?_|(refine gD (fun h=>?_) (fun h=>?_)<;>try exact aA h)|fail
      exact⟨(acc++[l[i].parent],l[i].parent),⟨by simp;omega,by rw[←he];simp[show l.length-(acc.length+1)=m by omega]⟩,by simp;omega,⟨rfl,by simp,by rw[aK hlt (by omega)];simp⟩,by simp[iY]⟩
   ·repeat' first|(refine gS ?_;simp only[go_sem,hlt])|refine gA ?_|(refine gD (fun h=>?_) (fun h=>?_)<;>try exact aA h)|fail
    have he2:l.length-acc.length=0:=by omega
    rw[he2]at he
    exact fN (cs:=acc.map iY) (es:=acc.map iY) (rest:=[]) (zAh _) (by simp only[go_sem]) (by rw[lD,zAg]) (by simp) (nH acc) (fun e he=>by obtain⟨c,_,rfl⟩:=zAi.1 he;exact .int _ _) (by rw[←he];simp[cL])
end Go.Proofs.YtolbeecicikoaaaGreatDoor
namespace Go.Proofs.YtolbeecicikoaaaGreatDoor
theorem aFh(l:List Nd)(id:Int):xJ l id≤l.length:=by
 unfold xJ
 induction l with
 |nil=>exact zAh _
 |cons x l ih=>rw[zBq];split<;>simp;exact ih
theorem aRh{l:List Nd}{id:Int}{i:Nat}(h:i<xJ l id):(l[i]'(zBe h (aFh l id))).id<id:=by
 induction l generalizing i with
 |nil=>simp[xJ]at h
 |cons x l ih=>
  unfold xJ at h
  rw[zBq]at h
  split at h
  ·rename_i hx
   cases i with
   |zero=>simpa using hx
   |succ i=>exact ih (by simpa[xJ]using h)
  ·simp at h
theorem aKu{l:List Nd}{id:Int}(h:xJ l id<l.length):¬(l[xJ l id]).id<id:=by
 induction l with
 |nil=>simp at h
 |cons x l ih=>
  have e:xJ (x::l) id=if x.id<id then xJ l id+1 else 0:=by
   unfold xJ;rw[zBq];split<;>simp_all
  by_cases hx:x.id<id
  ·have e1:xJ (x::l) id=xJ l id+1:=by rw[e,zAc hx]
   simp only[e1,List.getElem_cons_succ]
   exact ih (by simp[e1]at h;exact h)
  ·have e1:xJ (x::l) id=0:=by rw[e,zAb hx]
   simp only[e1,List.getElem_cons_zero]
   exact hx
def fZ:List Pl:=[.free,.free,.free,.pure 0,.eff [false],.pure 1,.free,.eff [true],.free,.eff [true],.free]
def fE:List Pl:=[.free,.pure 0,.pure 0,.pure 0,.free,.eff [false,false,false]]
attribute [go_sem] fZ fE
theorem aKv(b:Bool)(l:List Nd)(o:Opn)(hs:chk l=true)(hl:l.length≤1073741824)(H:AHeap):bD Tryz.prog 174 [.sl b (l.map ndA),opA o] H (.bool (nG l o)):=by
 refine fO Tryz.func174 ?_
 have hab:=aDY b l o.parent hl
 have e:eO l o.parent=bR l o.parent:=by rw[eO,zAc hs]
 rw[e]at hab
 have hlen:=aAG l l.length o.parent
 unfold nG
 rw[show bR l o.parent=cL l l.length o.parent from rfl]at hab ⊢
 generalize cL l l.length o.parent=up at hab hlen
 simp only[opA]
 repeat' first|(refine gS ?_;simp only[go_sem])|refine gA ?_|(refine gD (fun h=>?_) (fun h=>?_)<;>try exact aA h)|fail
 refine aH (ι:=Nat) (fun i=>[(3,.ref H.length 0 0),(5,.sl false (up.map iY)),(6,.int .i64 i)]) (fun _=>H++[.cells 0 [.int .i64 o.at_.c,.int .i64 o.at_.r,.int .i64 o.kind,.int .i64 o.node,.int .i64 o.parent,.str o.name,.str o.data]])
  (fun i=>i≤up.length∧∀k (hk:k<i) (hk2:k<up.length),¬up[k]=o.node) (fun i=>up.length-i) 0 ⟨zAn _,fun k hk=>by omega⟩ ?_ rfl ?_
 ·simp[go_sem]
 ·rintro i ⟨hi,hno⟩
  by_cases hlt:i<up.length
  ·have hp:=aJ iY hlt
   repeat' first|(refine gS ?_;simp only[go_sem,hp,iY])|refine gA ?_|(refine gD (fun h=>?_) (fun h=>?_)<;>try exact aA h)|fail
   ·refine dY (.of (zAp AV.bool ?_))
    have:up.any (fun x=>decide (x=o.node))=true:=zBU.2 ⟨_,zAF hlt,h⟩
    rw[this,zCQ]
   ·refine⟨i+1,⟨hlt,fun k hk hk2=>?_⟩,by omega,zAp _ (aK hlt (by omega))⟩
    by_cases e:k=i
    ·subst e;exact zBT h
    ·exact hno k (by omega) hk2
  ·have hi':i=up.length:=by omega
   repeat' first|(refine gS ?_;simp only[go_sem])|refine gA ?_|(refine gD (fun h=>?_) (fun h=>?_)<;>try exact aA h)|fail
   subst hi'
   refine dY (.of (zAp AV.bool ?_))
   have:up.any (fun x=>decide (x=o.node))=false:=by
    rw[zBK]
    intro x hx
    obtain⟨k,hk,rfl⟩:=zB1 hx
    simpa using hno k hk hk
   rw[this,Bool.or_false]
theorem aFi(b:Bool)(l:List Nd)(id:Int)(hl:l.length≤1073741824)(H:AHeap):bD Tryz.prog 195 [.sl b (l.map ndA),.int .i64 id] H (.sl false ((kY l id).map ndA)):=by
 refine fO Tryz.func195 ?_
 repeat' first|(refine gS ?_;simp only[go_sem])|refine gA ?_|(refine gD (fun h=>?_) (fun h=>?_)<;>try exact aA h)|fail
 refine gI 5 8 rfl ?_
 refine aH (ι:=Nat×Nat) (fun x=>[(0,.sl b (l.map ndA)),(1,.int .i64 id),(5,.osl 8 H.length (x.2+1) 0 x.2 x.2),(6,.int .i64 x.1)]) (fun x=>H++[.cells (x.2+1) (((kY (l.take x.1) id).map ndA).flatMap AV.cells)])
  (fun x=>x.1≤l.length∧(kY (l.take x.1) id).length=x.2) (fun x=>l.length-x.1) (0,0) ⟨zAn _,rfl⟩ ?_ rfl ?_
 ·simp[go_sem]
 ·rintro⟨i,n⟩ ⟨hi,hn⟩
  simp only at hi hn ⊢
  have hfl:=iU (kY (l.take i) id)
  rw[hn]at hfl
  by_cases hlt:i<l.length
  ·have hp:=aJ ndA hlt
   have htk:l.take (i+1)=l.take i++[l[i]]:=zAa hlt
   have hle:n≤i:=by
    have:=zAQ (fun n:Nd=> !decide (n.id=id)) (l.take i)
    rw[zAy]at this
    rw[kY]at hn;omega
   repeat' first|(refine gS ?_;simp only[go_sem,hp,ndA,hfl])|refine gA ?_|(refine gD (fun h=>?_) (fun h=>?_)<;>try exact aA h)|fail
   ·have hne:¬l[i].id=id:=by simpa using h
    have hr:kY (l.take (i+1)) id=kY (l.take i) id++[l[i]]:=by rw[htk,kY,zAV];simp[kY,hne]
    refine⟨⟨fun e he=>by rw[he];rfl,by omega⟩,?_⟩
    repeat' first|(refine gS ?_;simp only[go_sem])|refine gA ?_|(refine gD (fun h=>?_) (fun h=>?_)<;>try exact aA h)|fail
    exact⟨(i+1,n+1),⟨hlt,by simp only[hr,zAe,hn];rfl⟩,by simp only;omega,⟨rfl,zAp _ (aK hlt (by omega))⟩,by simp only[hr,zBa,zA0];rfl⟩
   ·have hne:l[i].id=id:=by simpa using h
    have hr:kY (l.take (i+1)) id=kY (l.take i) id:=by rw[htk,kY,zAV];simp[kY,hne]
    exact⟨(i+1,n),⟨hlt,by simp only[hr];exact hn⟩,by simp only;omega,⟨rfl,zAp _ (aK hlt (by omega))⟩,by simp only[hr]⟩
  ·have hi':i=l.length:=by omega
   subst hi'
   rw[zAq]at hn hfl ⊢
   repeat' first|(refine gS ?_;simp only[go_sem])|refine gA ?_|(refine gD (fun h=>?_) (fun h=>?_)<;>try exact aA h)|fail
   exact fN (es:=(kY l id).map ndA) (rest:=[]) (zAh _) (by simp only[go_sem]) (zAg _).symm (by rw[zAj];exact hn) (rM _) (aCy _) rfl
theorem aNz(b:Bool)(l:List Nd)(n:Nd)(hl:l.length≤1000000000)(H:AHeap):bD Tryz.prog 173 [.sl b (l.map ndA),ndA n] H (.sl false ((aGC l n).map ndA)):=by
 refine fO Tryz.func173 ?_
 have hwo:=aFi b l n.id (by omega)
 have hrl:=zAQ (fun x:Nd=> !decide (x.id=n.id)) l
 unfold aGC
 rw[show List.filter (fun x:Nd=> !decide (x.id=n.id)) l=kY l n.id from rfl]at hrl
 generalize kY l n.id=rest at hwo hrl
 simp only[ndA]
 repeat' first|((first|refine mx [6] fZ ?_|refine gS ?_);simp only[go_sem])|refine gA ?_|(refine gD (fun h=>?_) (fun h=>?_)<;>try exact aA h)|fail
 refine dB (ι:=Unit) (fun _=>[(3,.ref H.length 0 0),(5,.sl false (rest.map ndA)),(6,.int .i64 (xJ rest n.id))]) (fun _=>H++[.cells 0 (ndA n).cells]) (fun _=>True) ?_ ?_
 ·have hr0:=aFh rest n.id
  refine aH (ι:=Nat) (fun i=>[(3,.ref H.length 0 0),(5,.sl false (rest.map ndA)),(6,.int .i64 i)]) (fun _=>H++[.cells 0 (ndA n).cells]) (fun i=>i≤xJ rest n.id) (fun i=>xJ rest n.id-i) 0 (zAn _) ?_ rfl ?_
  ·simp[go_sem]
  ·intro i hi
   by_cases hlt:i<rest.length
   ·have hp:=aJ ndA hlt
    have hli:decide ((i:Int)<(rest.length:Int))=true:=dT
    by_cases hia:i<xJ rest n.id
    ·have hle:decide (rest[i].id<n.id)=true:=zAd (aRh hia)
     repeat' first|((first|refine mx [6] fZ ?_|refine gS ?_);simp only[go_sem,hp,hli,ndA,hle])|refine gA ?_|(refine gD (fun h=>?_) (fun h=>?_)<;>try exact aA h)|fail
     exact⟨i+1,hia,by omega,zAp _ (aK hlt (by omega))⟩
    ·have hie:i=xJ rest n.id:=by omega
     subst hie
     have hle:decide (rest[xJ rest n.id].id<n.id)=false:=eT (aKu hlt)
     repeat' first|((first|refine mx [6] fZ ?_|refine gS ?_);simp only[go_sem,hp,hli,ndA,hle])|refine gA ?_|(refine gD (fun h=>?_) (fun h=>?_)<;>try exact aA h)|fail
     exact⟨(),trivial⟩
   ·have hie:i=xJ rest n.id:=by omega
    subst hie
    have hli:decide ((xJ rest n.id:Int)<(rest.length:Int))=false:=dF
    repeat' first|((first|refine mx [6] fZ ?_|refine gS ?_);simp only[go_sem,hli,ndA])|refine gA ?_|(refine gD (fun h=>?_) (fun h=>?_)<;>try exact aA h)|fail
    exact⟨(),trivial⟩
 ·intro _ _
  have hr0:=aFh rest n.id
  generalize xJ rest n.id=k at hr0 ⊢
  have s1:List.take k (rest.map ndA)=(rest.take k).map ndA:=(zBN ..).symm
  have s2:List.drop k (rest.map ndA)=(rest.drop k).map ndA:=(zCh ..).symm
  have l1:(rest.take k).length=k:=by rw[zAy];omega
  have l2:(rest.drop k).length=rest.length-k:=zAH ..
  have c1:=xF (rest.take k)
  have c2:=xF (rest.drop k)
  have f1:=iU (rest.take k)
  have f2:=iU (rest.drop k)
  have o2:=aGp (rest.drop k)
  repeat' first|((first|refine mx [6] fZ ?_|refine gS ?_);simp only[go_sem,s1,s2,c1,c2,f1,f2,o2,l1,l2,ndA])|refine gA ?_|(refine gD (fun h=>?_) (fun h=>?_)<;>try exact aA h)|fail
  refine⟨⟨by omega,by omega,rM _⟩,⟨.inl trivial,by omega⟩,?_⟩
  repeat' first|((first|refine mx [6] fZ ?_|refine gS ?_);simp only[go_sem,s1,s2,c1,c2,f1,f2,o2,l1,l2,ndA])|refine gA ?_|(refine gD (fun h=>?_) (fun h=>?_)<;>try exact aA h)|fail
  have ht:List.take ((rest.length-k) * 8) (List.flatMap AV.cells (List.map ndA (List.drop k rest)))=List.flatMap AV.cells (List.map ndA (List.drop k rest)):=zBh (by rw[f2,l2];exact zAh _)
  refine⟨⟨fun e he=>by rw[he];rfl,by omega⟩,⟨by omega,zAh _,by omega,by rw[ht];exact o2⟩,?_⟩
  rw[ht]
  repeat' first|((first|refine mx [6] fZ ?_|refine gS ?_);simp only[go_sem])|refine gA ?_|(refine gD (fun h=>?_) (fun h=>?_)<;>try exact aA h)|fail
  exact fN (es:=(rest.take k++n::rest.drop k).map ndA) (rest:=[]) (by omega) (by simp only[go_sem];rfl) (by rw[zAg,zBa,zAA,zA0,zAK];rfl) (by rw[zAj,zAe,zAm,l1,l2];omega) (rM _) (aCy _) rfl
end Go.Proofs.YtolbeecicikoaaaGreatDoor
namespace Go.Proofs.YtolbeecicikoaaaGreatDoor
theorem aUj(b:Bool)(l:List Nd)(o:Opn)(hl:l.length≤1000000000)(hc:∀H,bD Tryz.prog 38 [opA o] H (.bool (opOk o)))(H:AHeap):
  bD Tryz.prog 142 [.sl b (l.map ndA),opA o] H (.tup [.sl (b&&bB l o) ((jQ l o).map ndA),unA (qW l o)]):=by
 refine fO Tryz.func142 ?_
 have hch:=pY b l
 have hfi:=aCR b l o.node
 simp only[opA,ndV]at hc hfi ⊢
 cases hs:chk l with
 |false=>
  have hr:bB l o=true:=by simp[bB,hs]
  rw[jQ,qW,zAc hr,zAc hr,hr,zBE]
  repeat' first|((first|refine mx [12,19] fE ?_|refine gS ?_);simp only[go_sem,hs])|refine gA ?_|(refine gD (fun h=>?_) (fun h=>?_)<;>try exact aA h)|fail
  exact dY (.refl _)
 |true=>
  cases ho:opOk o with
  |false=>
   have hr:bB l o=true:=by simp[bB,ho]
   rw[jQ,qW,zAc hr,zAc hr,hr,zBE]
   repeat' first|((first|refine mx [12,19] fE ?_|refine gS ?_);simp only[go_sem,hs,ho])|refine gA ?_|(refine gD (fun h=>?_) (fun h=>?_)<;>try exact aA h)|fail
   exact dY (.refl _)
  |true=>
   have hlo:=aKv b l o hs (by omega)
   have hwi:=fun n=>aNz b l n hl
   have hkind:o.kind=1∨o.kind=2:=by
    simp only[opOk,zAl,zBS,zAr]at ho
    exact ho.1.1.1
   have hfe:findI l o.node=lZ l o.node:=by rw[findI,zAc hs]
   rw[hfe]at hfi
   simp only[opA]at hlo
   rcases hkind with hk|hk
   ·have hk2:decide (o.kind=2)=false:=dF
    cases hlp:nG l o with
    |true=>
     have hr:bB l o=true:=by simp[bB,hk,hlp]
     rw[jQ,qW,zAc hr,zAc hr,hr,zBE]
     rw[hlp]at hlo
     cases hf:lZ l o.node with
     |none=>
      rw[hf]at hfi
      simp only[zBV,zBy,ndA,nd0,lT]at hfi
      repeat' first|((first|refine mx [12,19] fE ?_|refine gS ?_);simp only[go_sem,hs,ho,hk2])|refine gA ?_|(refine gD (fun h=>?_) (fun h=>?_)<;>try exact aA h)|fail
      exact dY (.refl _)
     |some m=>
      rw[hf]at hfi
      simp only[zBs,zBf,ndA]at hfi
      repeat' first|((first|refine mx [12,19] fE ?_|refine gS ?_);simp only[go_sem,hs,ho,hk2])|refine gA ?_|(refine gD (fun h=>?_) (fun h=>?_)<;>try exact aA h)|fail
      exact dY (.refl _)
    |false=>
     have hr:bB l o=false:=by simp[bB,hs,ho,hlp]
     have hn:(bM l o).id=o.node:=gN l o
     have hw:=hwi (bM l o)
     rw[aDX hs,hn]at hw
     rw[jQ,qW,zAb (by rw[hr];decide),zAb (by rw[hr];decide),hr,zCu]
     rw[hlp]at hlo
     rw[bM,zAc hk,dI]at hw ⊢
     generalize mH l (pos l o.node) (upto l o.node)=lay at hw ⊢
     cases hf:lZ l o.node with
     |none=>
      have hh:had l o.node=false:=by rw[had,hf];rfl
      rw[hf]at hfi hw
      simp only[zBV,zBy,ndA,nd0,lT]at hfi hw
      repeat' first|((first|refine mx [12,19] fE ?_|refine gS ?_);simp only[go_sem,hs,ho,hk2])|refine gA ?_|(refine gD (fun h=>?_) (fun h=>?_)<;>try exact aA h)|fail
      rw[hh]
      exact dY (.refl _)
     |some m=>
      have hh:had l o.node=true:=by rw[had,hf];rfl
      rw[hf]at hfi hw
      simp only[zBs,zBf,ndA]at hfi hw
      repeat' first|((first|refine mx [12,19] fE ?_|refine gS ?_);simp only[go_sem,hs,ho,hk2])|refine gA ?_|(refine gD (fun h=>?_) (fun h=>?_)<;>try exact aA h)|fail
      rw[hh]
      exact dY (.refl _)
   ·have hk2:decide (o.kind=2)=true:=zAd hk
    have hk1:¬o.kind=1:=by omega
    have hr:bB l o=false:=by simp[bB,hs,ho,hk1]
    have hn:(bM l o).id=o.node:=gN l o
    have hw:=hwi (bM l o)
    rw[aDX hs,hn]at hw
    rw[jQ,qW,zAb (by rw[hr];decide),zAb (by rw[hr];decide),hr,zCu]
    rw[bM,zAb hk1,dI]at hw ⊢
    generalize mH l (pos l o.node) (upto l o.node)=lay at hw ⊢
    cases hf:lZ l o.node with
    |none=>
     have hh:had l o.node=false:=by rw[had,hf];rfl
     rw[hf]at hfi hw
     simp only[zBV,zBy,ndA,nd0,lT]at hfi hw
     repeat' first|((first|refine mx [12,19] fE ?_|refine gS ?_);simp only[go_sem,hs,ho,hk2])|refine gA ?_|(refine gD (fun h=>?_) (fun h=>?_)<;>try exact aA h)|fail
     rw[hh]
     exact dY (.refl _)
    |some m=>
     have hh:had l o.node=true:=by rw[had,hf];rfl
     rw[hf]at hfi hw
     simp only[zBs,zBf,ndA]at hfi hw
     repeat' first|((first|refine mx [12,19] fE ?_|refine gS ?_);simp only[go_sem,hs,ho,hk2])|refine gA ?_|(refine gD (fun h=>?_) (fun h=>?_)<;>try exact aA h)|fail
     rw[hh]
     exact dY (.refl _)
end Go.Proofs.YtolbeecicikoaaaGreatDoor
