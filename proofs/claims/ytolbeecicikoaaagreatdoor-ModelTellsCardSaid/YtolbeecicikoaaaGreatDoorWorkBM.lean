/- The texts 39 of 53 beneath the rows of this seat (joined by program): the abstract machine, and what the functions answer. No condition. -/
import Derived.Test.YtolbeecicikoaaaGreatDoorWorkAP
import Derived.Test.YtolbeecicikoaaaGreatDoorWorkAT
import Derived.Test.YtolbeecicikoaaaGreatDoorWorkAU
import Derived.Test.YtolbeecicikoaaaGreatDoorWorkAY
import Derived.Test.YtolbeecicikoaaaGreatDoorWorkAZ
import Derived.Test.YtolbeecicikoaaaGreatDoorWorkBJ
set_option linter.unusedSimpArgs false
set_option linter.unusedVariables false
set_option linter.unusedSectionVars false
set_option maxRecDepth 100000
set_option maxHeartbeats 16000000
namespace Go.Proofs.YtolbeecicikoaaaGreatDoor
theorem aUE{p:Txt→Bool}{l:List Txt}{i:Nat}(h:i<(l.takeWhile p).length):∃h':i<l.length,p l[i]=true:=by
 have h1:=(List.takeWhile_sublist p (l:=l)).length_le
 refine⟨by omega,?_⟩
 have h2:(l.takeWhile p)[i]=l[i]:=List.IsPrefix.getElem (List.takeWhile_prefix p) h
 rw[←h2]
 exact aFo p l _ (zAF h)
theorem aNX{p:Txt→Bool}{l:List Txt}(h:(l.takeWhile p).length<l.length):p l[(l.takeWhile p).length]=false:=by
 have h1:=(aA4 p l).2
 rw[zAk h]at h1
 have:=List.head?_dropWhile_not p l
 grind
theorem aUF(p:Txt→Bool)(l:List Txt):(l.takeWhile p).length≤l.length:=(List.takeWhile_sublist p (l:=l)).length_le
theorem aNY(l:List Txt)(s:Txt):zO l s=if h:(l.takeWhile fun x=>kG x s).length<l.length then(if l[(l.takeWhile fun x=>kG x s).length]=s then l else l.take (l.takeWhile fun x=>kG x s).length++s::l.drop (l.takeWhile fun x=>kG x s).length)else l.take (l.takeWhile fun x=>kG x s).length++s::l.drop (l.takeWhile fun x=>kG x s).length:=by
 unfold zO
 generalize(l.takeWhile fun x=>kG x s).length=k
 by_cases h:k<l.length
 ·simp_all
 ·rw[dif_neg h,zAb]
  simp_all
theorem aIj{P:Program}{f:FuncId}{pre post:List AV}{H:AHeap}{x:AV}{K:AV→AHeap→Prop}{i v s k lc:Nat}{cs:List AV}(es rest:List AV)(hf:∀H,bD P f (pre++.sl false es::post) H x)(ok:dR P f=true)(hlen:es.length=k)
  (hh:hget H i=.cells v cs) (hv:v≠0) (hcs:cs=es.flatMap AV.cells++rest) (hs:∀e∈es,e.cells.length=s) (hk:K x (aB H i .gone)):lG P (.func (.func f) [] []) (pre++.osl s i v 0 k lc::post) H K:=by
 subst hlen
 refine Or.inl ⟨ok,?_⟩
 simp only[zAG,zAg]
 intro c vs hst ha
 have hx':=Ext.stop c i
 refine(hf _ (c.stop i) vs (hst.stop hh hv) ⟨by have:=ha.1;simpa using this,fun j y u hy hu=>?_⟩).mono fun e w' ⟨c',x',v',H',e1,e2,e3,e4,e5,e6,e7⟩=>⟨c',x',v',H',e1,e2,e3,hx'.trans e4,e5,by subst e6;subst e7;exact hk⟩
 by_cases hj:j<pre.length
 ·rw[zAt hj]at hy
  exact(ha.2 j y u (by grind) hu).mono hx'
 ·rw[zAJ (by omega)]at hy
  obtain⟨d,hd⟩:∃d,d=j-pre.length:=⟨_,rfl⟩
  rw[←hd]at hy
  cases d with
  |zero=>
   simp only[zBZ,zB0]at hy
   subst hy
   exact uQ hst hh rest hcs hs (ha.2 j _ u (by rw[zAJ (by omega),←hd];rfl) hu)
  |succ d=>exact(ha.2 j y u (by rw[zAJ (by omega),←hd];simpa using hy) hu).mono hx'
theorem aEh{α β:Type}(f:α→List β)(l:List α)(k:Nat):((l.take k).flatMap f).Sublist (l.flatMap f):=by
 grind [zBl,zA0,List.sublist_append_left]
theorem nU(l:List Txt):∀e∈l.map AV.str,e.cells.length=1:=fun e he=>by
 obtain⟨x,_,rfl⟩:=zAi.1 he;rfl
theorem aGR(n:Nat)(l:List Txt):(List.take n (l.map AV.str)).all AV.one=true:=zAM.2 fun x hx=>by
 obtain⟨y,_,rfl⟩:=zAi.1 (List.mem_of_mem_take hx);rfl
theorem aLi(l:List Txt):∀e∈l.map AV.str,Pur e:=fun e he=>by
 obtain⟨x,_,rfl⟩:=zAi.1 he;exact .str _
theorem aEi{H L:AHeap}{v lc:Nat}(l:List Txt)(k:Nat)(s:Txt)(hk:k≤l.length)(cs:List AV)(hh:hget (H++L) (H.length+1)=.cells v cs)(hc:cs=(l.take k).map AV.str++AV.str s::(l.drop k).map AV.str):
  ∃L' y,H++L=H++L'∧Frz H.length (H++L) (.osl 1 (H.length+1) v 0 (k+(1+(l.length-k))) lc) y∧y=.sl false ((l.take k++s::l.drop k).map AV.str):=
 ⟨L,_,rfl,iC (Nat.le_add_right _ _) hh (by rw[hc,xZ];simp) (by simp;omega) (nU _) (aLi _) (rest:=[]),rfl⟩
def rY:List Pl:=[.free,.free,.free,.free,.free,.pure 0,.pure 0,.free,.free,.pure 0,.pure 0,.free,.free,.eff [true,true,true,true],.free]
attribute [go_sem] rY
theorem aNZ(b:Bool)(l:List Txt)(s:Txt)(hl:l.length≤1000000000)(hm:SmL l)(hs:s.length≤1073741824)(H:AHeap):bD Tryz.prog 129 [.sl b (l.map AV.str),.str s] H (.sl false ((zO l s).map AV.str)):=by
 refine fO Tryz.func129 ?_
 rw[aNY]
 obtain⟨k,hk⟩:∃k,(l.takeWhile fun x=>kG x s).length=k:=⟨_,rfl⟩
 have hkl:=aUF (fun x=>kG x s) l
 have t1:∀i (hi:i<k),∃h':i<l.length,kG l[i] s=true:=fun i hi=>aUE (p:=fun x=>kG x s) (by omega)
 have t2:∀h:k<l.length,kG l[k] s=false:=by
  subst hk;exact fun h=>aNX h
 rw[hk]at hkl
 simp only[hk]
 have hless:∀(i:Nat) (hi:i<l.length) (H:AHeap),bD Tryz.prog 162 [.str l[i],.str s] H (.bool (kG l[i] s)):=fun i hi=>aKY l[i] s (hm _ (zAF hi)) hs
 repeat' first|(refine gS ?_;simp only[go_sem])|refine gA ?_|(refine gD (fun h=>?_) (fun h=>?_)<;>try exact aA h)|fail
 refine dB (ι:=Unit) (fun _=>[(0,.sl b (l.map AV.str)),(1,.str s),(5,.int .i64 k)]) (fun _=>H) (fun _=>True) ?_ ?_
 ·refine aH (ι:=Nat) (fun i=>[(0,.sl b (l.map AV.str)),(1,.str s),(5,.int .i64 i)]) (fun _=>H) (fun i=>i≤k) (fun i=>k-i) 0 (zAn _) ?_ rfl ?_
  ·simp[go_sem]
  ·intro i hi
   by_cases hlt:i<l.length
   ·have hp:=aJ AV.str hlt
    have hli:decide ((i:Int)<(l.length:Int))=true:=dT
    have hle:=hless i hlt
    by_cases hia:i<k
    ·obtain⟨hx0,hlb⟩:=t1 i hia
     rw[hlb]at hle
     repeat' first|(refine gS ?_;simp only[go_sem,hp,hli])|refine gA ?_|(refine gD (fun h=>?_) (fun h=>?_)<;>try exact aA h)|fail
     exact⟨i+1,hia,by omega,zAp _ (aK hlt (by omega))⟩
    ·have hie:i=k:=by omega
     subst hie
     rw[t2 hlt]at hle
     repeat' first|(refine gS ?_;simp only[go_sem,hp,hli])|refine gA ?_|(refine gD (fun h=>?_) (fun h=>?_)<;>try exact aA h)|fail
     exact⟨(),trivial⟩
   ·have hie:i=k:=by omega
    subst hie
    have hli:decide ((i:Int)<(l.length:Int))=false:=dF
    repeat' first|(refine gS ?_;simp only[go_sem,hli])|refine gA ?_|(refine gD (fun h=>?_) (fun h=>?_)<;>try exact aA h)|fail
    exact⟨(),trivial⟩
 ·intro _ _
  have s1:List.take k (l.map AV.str)=(l.take k).map AV.str:=(zBN ..).symm
  have s2:List.drop k (l.map AV.str)=(l.drop k).map AV.str:=(zCh ..).symm
  have l1:(l.take k).length=k:=by rw[zAy];omega
  have l2:(l.drop k).length=l.length-k:=zAH ..
  have c1:=nU (l.take k)
  have c2:=nU (l.drop k)
  have f1:=xZ (l.take k)
  have f2:=xZ (l.drop k)
  by_cases hlt:k<l.length
  ·have hli:decide ((k:Int)<(l.length:Int))=true:=dT
   have hp:=aJ AV.str hlt
   rw[dif_pos hlt]
   by_cases he:l[k]=s
   ·have hd:decide (l[k]=s)=true:=zAd he
    rw[zAc he]
    repeat' first|(refine gS ?_;simp only[go_sem,hp,hli,hd])|refine gA ?_|(refine gD (fun h=>?_) (fun h=>?_)<;>try exact aA h)|fail
    exact bL (.sl _ _)
   ·have hd:decide (l[k]=s)=false:=eT he
    rw[zAb he]
    repeat' first|(refine gS ?_;simp only[go_sem,hp,hli,hd,s1,s2,c1,c2,f1,f2,l1,l2])|refine gA ?_|(refine gD (fun h=>?_) (fun h=>?_)<;>try exact aA h)|fail
    refine⟨⟨by omega,by omega,nU l⟩,⟨.inl trivial,c2,by omega⟩,?_⟩
    repeat' first|(refine gS ?_;simp only[go_sem,s1,s2,c1,c2,f1,f2,l1,l2])|refine gA ?_|(refine gD (fun h=>?_) (fun h=>?_)<;>try exact aA h)|fail
    refine⟨⟨.inl trivial,c1,by omega⟩,⟨zAz _,fun e he=>by(rw[he];rfl),by omega⟩,⟨zAz _,by omega,by omega,aGR _ _⟩,?_⟩
    repeat' first|(refine gS ?_;simp only[go_sem,s1,s2,c1,c2,f1,f2,l1,l2])|refine gA ?_|(refine gD (fun h=>?_) (fun h=>?_)<;>try exact aA h)|fail
    exact aEi l k s hkl _ (by simp only[go_sem];rfl) (by rw[zAz,zBh (l:=(l.drop k).map AV.str) (by rw[zAj,l2];exact zAh _)])
  ·have hli:decide ((k:Int)<(l.length:Int))=false:=dF
   rw[dif_neg hlt]
   repeat' first|(refine gS ?_;simp only[go_sem,hli,s1,s2,c1,c2,f1,f2,l1,l2])|refine gA ?_|(refine gD (fun h=>?_) (fun h=>?_)<;>try exact aA h)|fail
   refine⟨⟨by omega,by omega,nU l⟩,⟨.inl trivial,c2,by omega⟩,?_⟩
   repeat' first|(refine gS ?_;simp only[go_sem,s1,s2,c1,c2,f1,f2,l1,l2])|refine gA ?_|(refine gD (fun h=>?_) (fun h=>?_)<;>try exact aA h)|fail
   refine⟨⟨.inl trivial,c1,by omega⟩,⟨zAz _,fun e he=>by(rw[he];rfl),by omega⟩,⟨zAz _,by omega,by omega,aGR _ _⟩,?_⟩
   repeat' first|(refine gS ?_;simp only[go_sem,s1,s2,c1,c2,f1,f2,l1,l2])|refine gA ?_|(refine gD (fun h=>?_) (fun h=>?_)<;>try exact aA h)|fail
   exact aEi l k s hkl _ (by simp only[go_sem];rfl) (by rw[zAz,zBh (l:=(l.drop k).map AV.str) (by rw[zAj,l2];exact zAh _)])
theorem aIk(b:Bool)(l:List Nd)(id:Int)(hc:chk l=true)(hl:l.length≤1073741824)(H:AHeap):
  ACalls Tryz.prog 131 [.sl b (l.map ndA),.int .i64 id] H (fun v H'=>v=.osl 1 H.length ((bR l id).length+1) 0 (bR l id).length (bR l id).length∧H'=H++[.cells ((bR l id).length+1) ((bR l id).map iY)]):=by
 refine aW Tryz.func131 ?_
 have hat:=fun id=>aKt b l id
 repeat' first|((first|refine gQ (pY _ _) ?_|refine gS ?_);simp only[go_sem,hc])|refine gA ?_|(refine gD (fun h=>?_) (fun h=>?_)<;>try exact aA h)|fail
 refine gI 5 1 rfl ?_
 refine aH (ι:=List Int×Int) (fun x=>[(0,.sl b (l.map ndA)),(1,.int .i64 x.2),(5,.osl 1 H.length (x.1.length+1) 0 x.1.length x.1.length),(7,.int .i64 x.1.length)]) (fun x=>H++[.cells (x.1.length+1) (x.1.map iY)])
  (fun x=>x.1.length≤l.length∧x.1++cL l (l.length-x.1.length) x.2=bR l id) (fun x=>l.length-x.1.length) ([],id) ⟨zAn _,rfl⟩ ?_ rfl ?_
 ·simp[go_sem]
 ·rintro⟨acc,id'⟩ ⟨hn,he⟩
  simp only at hn he ⊢
  have ha:=hat id'
  by_cases hlt:acc.length<l.length
  ·obtain⟨m,hm⟩:∃m,l.length-acc.length=m+1:=⟨l.length-acc.length-1,by omega⟩
   rw[hm,cL]at he
   rcases xK (fun n:Nd=>decide (n.id=id')) l with⟨h1,h2⟩|⟨i,hil,h1,h2⟩
   ·have e1:aCQ l id'= -1:=h1
    have e2:lZ l id'=none:=h2
    rw[e1]at ha
    rw[e2]at he
    repeat' first|(refine gS ?_;simp only[go_sem])|refine gA ?_|(refine gD (fun h=>?_) (fun h=>?_)<;>try exact aA h)|fail
    (have hu:bR l id=acc:=by rw[←he]<;>simp);rw[hu]
   ·have e1:aCQ l id'=(i:Int):=h1
    have e2:lZ l id'=some l[i]:=h2
    have hp:=aJ ndA hil
    have hin:decide ((i:Int)<0)=false:=dF
    rw[e1]at ha
    rw[e2]at he
    simp only at he
    repeat' first|(refine gS ?_;simp only[go_sem,hp,ndA,hin])|refine gA ?_|(refine gD (fun h=>?_) (fun h=>?_)<;>try exact aA h)|fail
    ·rw[zAc (zA6 h)]at he
     (have hu:bR l id=acc:=by rw[←he]<;>simp);rw[hu]
    ·rw[zAb (zBT h)]at he
     refine⟨⟨by omega,fun e he=>by rw[he];rfl,by omega⟩,?_⟩
     repeat' first|(refine gS ?_;simp only[go_sem])|refine gA ?_|(refine gD (fun h=>?_) (fun h=>?_)<;>try exact aA h)|fail
     exact⟨(acc++[l[i].parent],l[i].parent),⟨by simp;omega,by rw[←he];simp[show l.length-(acc.length+1)=m by omega]⟩,by simp;omega,⟨rfl,by simp,by rw[aK hlt (by omega)];simp⟩,by simp[iY]⟩
  ·repeat' first|(refine gS ?_;simp only[go_sem,hlt])|refine gA ?_|(refine gD (fun h=>?_) (fun h=>?_)<;>try exact aA h)|fail
   have he2:l.length-acc.length=0:=by omega
   rw[he2]at he
   (have hu:bR l id=acc:=by rw[←he]<;>simp[cL]);rw[hu]
theorem aN0{l:List Txt}{s:Txt}(h:SmL l)(hs:s.length≤1073741824)(hr:aD7 l):SmL (zO l s):=fun x hx=>by
 rcases((xP s hr).2 x).1 hx with hx|rfl
 ·exact h x hx
 ·exact hs
theorem aLj(l:List Txt)(s:Txt):(zO l s).length≤l.length+1:=by
 unfold zO
 split
 ·omega
 ·rw[zAe,zAm,zAy,zAH];omega
theorem aBc(b:Bool)(l:List Nd)(dir:Int)(hc:chk l=true)(hl:l.length≤1000000000)(hn:SmN l)(H:AHeap):bD Tryz.prog 69 [.sl b (l.map ndA),.int .i64 dir] H (.sl false ((nJ l dir).map AV.str)):=by
 refine fO Tryz.func69 ?_
 rw[←aKM hc]
 repeat' first|((first|refine gQ (pY _ _) ?_|refine gS ?_);simp only[go_sem,hc])|refine gA ?_|(refine gD (fun h=>?_) (fun h=>?_)<;>try exact aA h)|fail
 refine aH (ι:=Nat×Bool×List Txt) (fun x=>[(0,.sl b (l.map ndA)),(1,.int .i64 dir),(5,.bool true),(6,.sl x.2.1 (x.2.2.map AV.str)),(7,.int .i64 x.1)]) (fun _=>H)
  (fun x=>x.1≤l.length∧x.2.2.length≤x.1∧aD7 x.2.2∧SmL x.2.2∧aKL l dir=(l.drop x.1).foldl (uE dir) x.2.2) (fun x=>l.length-x.1) (0,true,[]) ⟨zAn _,zAh _,.nil,fun s hs=>by(cases hs),rfl⟩ ?_ rfl ?_
 ·simp[go_sem]
 rintro⟨i,f,out⟩ ⟨hi,ho,hr,hm,he⟩
 simp only at hi ho hr hm he ⊢
 by_cases hlt:i<l.length
 ·have hli:decide ((i:Int)<(l.length:Int))=true:=dT
  have hp:=aJ ndA hlt
  have hin:=aPm l[i] dir
  have hsm:=hn _ (zAF hlt)
  have hpt:=aNZ f out l[i].name (by omega) hm hsm
  rw[zAk hlt,zAZ,uE]at he
  cases hd:zN dir l[i]with
  |false=>
   rw[hd]at hin
   rw[hd,zAb (by simp)]at he
   simp only[ndA]at hin
   repeat' first|(refine gS ?_;simp only[go_sem,hp,hli,ndA])|refine gA ?_|(refine gD (fun h=>?_) (fun h=>?_)<;>try exact aA h)|fail
   exact⟨(i+1,f,out),⟨hlt,by simp only;omega,hr,hm,he⟩,by simp only;omega,⟨rfl,zAp _ (aK hlt (by omega))⟩⟩
  |true=>
   rw[hd]at hin
   rw[hd,zAc rfl]at he
   simp only[ndA]at hin
   have h1:=aLj out l[i].name
   repeat' first|(refine gS ?_;simp only[go_sem,hp,hli,ndA])|refine gA ?_|(refine gD (fun h=>?_) (fun h=>?_)<;>try exact aA h)|fail
   exact⟨(i+1,false,zO out l[i].name),⟨hlt,by simp only;omega,(xP _ hr).1,aN0 hm hsm hr,he⟩,by simp only;omega,⟨rfl,zAp _ (aK hlt (by omega))⟩⟩
 ·have hli:decide ((i:Int)<(l.length:Int))=false:=dF
  rw[zAN (by omega)]at he
  rw[show aKL l dir=out from he]
  repeat' first|(refine gS ?_;simp only[go_sem,hli])|refine gA ?_|(refine gD (fun h=>?_) (fun h=>?_)<;>try exact aA h)|fail
  exact bL (.sl _ _)
theorem aN1(b:Bool)(l:List Int)(n:Int)(hl:l.length≤1073741824)(H:AHeap):bD Tryz.prog 213 [.sl b (l.map iY),.int .i64 n] H (.bool (l.contains n)):=by
 refine fO Tryz.func213 ?_
 repeat' first|(refine gS ?_;simp only[go_sem])|refine gA ?_|(refine gD (fun h=>?_) (fun h=>?_)<;>try exact aA h)|fail
 refine aH (ι:=Nat) (fun i=>[(0,.sl b (l.map iY)),(1,.int .i64 n),(5,.int .i64 i)]) (fun _=>H) (fun i=>i≤l.length∧l.contains n=(l.drop i).contains n) (fun i=>l.length-i) 0 ⟨zAn _,rfl⟩ ?_ rfl ?_
 ·simp[go_sem]
 rintro i ⟨hi,he⟩
 by_cases hlt:i<l.length
 ·have hp:=aJ iY hlt
  have hli:decide ((i:Int)<(l.length:Int))=true:=dT
  rw[zAk hlt,List.contains_cons]at he
  by_cases hq:l[i]=n
  ·have hd:decide (l[i]=n)=true:=zAd hq
   rw[he,show(n==l[i])=true by simp[hq],zCm]
   repeat' first|(refine gS ?_;simp only[go_sem,hp,hli,hd,iY])|refine gA ?_|(refine gD (fun h=>?_) (fun h=>?_)<;>try exact aA h)|fail
   exact bL (.refl _)
  ·have hd:decide (l[i]=n)=false:=eT hq
   rw[show(n==l[i])=false by simp;exact fun e=>hq e.symm,zBX]at he
   repeat' first|(refine gS ?_;simp only[go_sem,hp,hli,hd,iY])|refine gA ?_|(refine gD (fun h=>?_) (fun h=>?_)<;>try exact aA h)|fail
   exact⟨i+1,⟨hlt,he⟩,by omega,zAp _ (aK hlt (by omega))⟩
 ·have hli:decide ((i:Int)<(l.length:Int))=false:=dF
  rw[zAN (by omega)]at he
  rw[he]
  repeat' first|(refine gS ?_;simp only[go_sem,hli])|refine gA ?_|(refine gD (fun h=>?_) (fun h=>?_)<;>try exact aA h)|fail
  exact bL (.refl _)
theorem aIl(b b2:Bool)(l:List Nd)(not:List Int)(hc:chk l=true)(hw:Wfr l)(hl:l.length≤1000000)(hn:SmN l)(hnl:not.length≤1073741824):∀(k:Nat) (dir:Int) (path:Txt),k≤1000000→dirI dir=true→path.length+k * 1073741826≤4611686018427387904→∀H,
  bD Tryz.prog 192 [.sl b (l.map ndA),.int .i64 dir,.str path,.sl b2 (not.map iY),.int .i64 k] H (.sl false ((nS l not k dir path).map itA)):=by
 intro k
 induction k with
 |zero=>
  intro dir path _ hd _ H
  refine fO Tryz.func192 ?_
  have hls:=aBc b l dir hc (by omega) hn
  repeat' first|(refine gS ?_;simp only[go_sem])|refine gA ?_|(refine gD (fun h=>?_) (fun h=>?_)<;>try exact aA h)|fail
  refine mS 1 ?_
  unfold mE
  repeat' first|(refine gS ?_;simp only[go_sem])|refine gA ?_|(refine gD (fun h=>?_) (fun h=>?_)<;>try exact aA h)|fail
  exact bL (.sl _ _)
 |succ k ih=>
  intro dir path hk hd hp H
  refine fO Tryz.func192 ?_
  have hls:=aBc b l dir hc (by omega) hn
  have hall:∀s∈nJ l dir,∃n,childN l dir s=some n∧n∈l∧findI l n.id=some n∧s.length≤1073741824:=by
   intro s hs
   rw[nJ,zAc hc]at hs
   obtain⟨n,hn1⟩:=aHN ((iJ _).mem_iff.1 hs)
   have hse:=rQ hc hd (pD hn1)
   have hnm:=(jV l dir).2 _ (pD hn1)
   refine⟨n,by rw[childN,zAc hc];exact hn1,hse.2.1,by rw[findI,zAc hc];exact hse.2.2,?_⟩
   have:=hn n hse.2.1
   simp only at hnm
   rw[←hnm];exact this
  have hlen:(nJ l dir).length≤l.length:=by
   rw[nJ,zAc hc,(iJ _).length_eq,zAj];exact aTb l dir
  obtain⟨N,hN⟩:∃N,nJ l dir=N:=⟨_,rfl⟩
  obtain⟨f,hf⟩:∃f:Txt→List Itm,f=fun s=>match childN l dir s with
   |some n=>if not.contains n.id=true then[]else⟨path++(47::s),n.id,n.data⟩::(if dirI n.id=true then nS l not k n.id (path++(47::s))else[])
   |none=>[]:=⟨_,rfl⟩
  have hR:nS l not (k+1) dir path=N.flatMap f:=by rw[nS,hN,hf];rfl
  have hRl:=qF hc hw not (k+1) path hd
  rw[hR]at hRl ⊢
  rw[hN]at hls hall hlen
  repeat' first|(refine gS ?_;simp only[go_sem])|refine gA ?_|(refine gD (fun h=>?_) (fun h=>?_)<;>try exact aA h)|fail
  refine gI 11 3 rfl ?_
  refine aH (ι:=Nat×List Itm×Nat×AHeap) (fun x=>[(0,.sl b (l.map ndA)),(1,.int .i64 dir),(2,.str path),(3,.sl b2 (not.map iY)),(4,.int .i64 ((k+1:Nat):Int)),(11,.osl 3 H.length (x.2.2.1+1) 0 x.2.1.length x.2.1.length),(12,.sl false (N.map AV.str)),(13,.int .i64 x.1)])
   (fun x=>H++.cells (x.2.2.1+1) (flA itA x.2.1)::x.2.2.2) (fun x=>x.1≤N.length∧x.2.1=(N.take x.1).flatMap f) (fun x=>N.length-x.1) (0,[],0,[]) ⟨zAn _,rfl⟩ ?_ ?_ ?_
  ·simp[go_sem]
  ·rfl
  rintro⟨i,D,v,J⟩ ⟨hi,hD⟩
  simp only at hi hD ⊢
  obtain⟨G,hG⟩:∃G,H++(.cells (v+1) (flA itA D)::J)=G:=⟨_,rfl⟩
  rw[hG]
  have g0:hget G H.length=.cells (v+1) (flA itA D):=by rw[←hG];simp only[go_sem]
  have g1:=aR g0 trivial
  have g2:=eE g0 trivial
  have gs:∀X,aB G H.length X=H++(X::J):=fun X=>by rw[←hG];simp only[go_sem]
  have hk0:decide ((0:Int)<((k+1:Nat):Int))=true:=dT
  by_cases hlt:i<N.length
  ·have hli:decide ((i:Int)<(N.length:Int))=true:=dT
   have hgd:=aJ AV.str hlt
   obtain⟨s,hs⟩:∃s,s=N[i]:=⟨_,rfl⟩
   rw[←hs]at hgd
   obtain⟨n,hn1,hn2,hn3,hn4⟩:=hall s (by rw[hs];exact zAF hlt)
   have hch:=vY b l dir s (by omega)
   have hfi:=aCR b l n.id
   have hha:=aN1 b2 not n.id hnl
   have hdi:=tR n.id
   have htk:(N.take (i+1)).flatMap f=D++f s:=by rw[zAa hlt,zA0,←hD,←hs];simp
   have hfs:f s=if not.contains n.id=true then[]else⟨path++(47::s),n.id,n.data⟩::(if dirI n.id=true then nS l not k n.id (path++(47::s))else[]):=by rw[hf];simp only[hn1]
   have hDl:D.length+(f s).length≤l.length:=by
    have h1:((N.take (i+1)).flatMap f).length≤(N.flatMap f).length:=(aEh f N (i+1)).length_le
    rw[htk,zAe]at h1
    omega
   rw[hn1]at hch
   rw[hn3]at hfi
   simp only[jK,ndV,zBR,zBs,zBf,ndA]at hch hfi
   have hw1:=aK hlt (by omega)
   have hfl:=bQ (enc:=itA) (s:=3) (fun _=>rfl) D
   have hq1:(∀e,e=AV.agg [.str (path++47::s),.int .i64 n.id,.str n.data]→e.cells.length=3)=True:=zAI (fun e he=>by rw[he];rfl)
   have hb1:D.length+1≤1000001:=by omega
   have q0:∀X c,hget (aB G H.length X++[c]) G.length=c:=fun X c=>(lK (bK G _ X)).trans rfl
   have hGl:H.length<G.length:=aU g0 trivial
   have q4:∀v cs c,hget (aB G H.length (.cells v cs)++[c]) H.length=.cells v cs:=fun v cs c=>aG (b:=.cells v cs) (bU hGl _) trivial _
   have q5:∀X c Y,aB (aB G H.length X++[c]) H.length Y=aB G H.length Y++[c]:=fun X c Y=>by rw[bE (by rw[bK];exact hGl),fB]
   have one_it:∀L:List Itm,((L.map itA).flatMap AV.cells).all AV.one=true:=fun L=>by
    induction L with
    |nil=>rfl
    |cons x L ih=>rw[zAA,zAK,List.all_append,ih];rfl
   clear hf hN hall hlen hRl hR
   cases hno:not.contains n.id with
   |true=>
    rw[hno]at hha
    rw[hno,zAc rfl]at hfs
    repeat' first|(refine gS ?_;simp only[go_sem,hk0,hli,hgd,g0,g1,g2])|refine gA ?_|(refine gD (fun h=>?_) (fun h=>?_)<;>try exact aA h)|fail
    exact⟨(i+1,D,v,J++[.cells 0 (ndA n).cells]),⟨hlt,by simp only;rw[htk,hfs,zAg]⟩,by simp only;omega,⟨rfl,zAp _ hw1⟩,by rw[←hG];simp[ndA,AV.cells]⟩
   |false=>
    rw[hno]at hha
    rw[hno,zAb (by simp)]at hfs
    cases hdn:dirI n.id with
    |false=>
     rw[hdn]at hdi
     rw[hdn,zAb (by simp)]at hfs
     repeat' first|((first|refine mx [10] rY ?_|refine gS ?_);simp only[go_sem,hk0,hli,hgd,g0,g1,g2,hfl,hq1,q0])|refine gA ?_|(refine gD (fun h=>?_) (fun h=>?_)<;>try exact aA h)|fail
     rw[hfs]at htk
     exact⟨(i+1,D++[⟨path++47::s,n.id,n.data⟩],v+1,J++[.cells 0 (ndA n).cells]),⟨hlt,htk.symm⟩,by simp only;omega,⟨by simp,zAp _ hw1⟩,by rw[gs];simp[flA,itA,ndA,AV.cells]⟩
    |true=>
     rw[hdn]at hdi
     rw[hdn,zAc rfl]at hfs
     have hrec:=ih n.id (path++(47::s)) (by omega) hdn (by simp only[zAe,zAm];omega)
     have hwk:IntKind.i64.wrap (((k+1:Nat):Int)-1)=(k:Int):=by rw[wI];omega
     obtain⟨R,hRe⟩:∃R,nS l not k n.id (path++47::s)=R:=⟨_,rfl⟩
     rw[hRe]at hfs hrec
     rw[hfs,zAm]at hDl
     rw[hfs]at htk
     clear hRe ih
     have hq3:(∀e,e∈R.map itA→e.cells.length=3)=True:=zAI (fun e he=>by(obtain⟨x,_,rfl⟩:=zAi.1 he;rfl))
     repeat' first|((first|refine mx [10] rY ?_|refine gS ?_);simp only[go_sem,hk0,hli,hgd,g0,g1,g2,hfl,hq1,q0,q4,q5,hwk,hq3,one_it])|refine gA ?_|(refine gD (fun h=>?_) (fun h=>?_)<;>try exact aA h)|fail
     exact⟨(i+1,D++⟨path++47::s,n.id,n.data⟩::R,v+2,J++[.cells 0 (ndA n).cells]),⟨hlt,htk.symm⟩,by simp only;omega,⟨by simp;omega,zAp _ hw1⟩,by rw[gs];simp[flA,itA,ndA,AV.cells]⟩
  ·have hli:decide ((i:Int)<(N.length:Int))=false:=dF
   have hie:i=N.length:=by omega
   subst hie
   rw[zAq]at hD
   repeat' first|(refine gS ?_;simp only[go_sem,hli])|refine gA ?_|(refine gD (fun h=>?_) (fun h=>?_)<;>try exact aA h)|fail
   rw[←hD]
   exact⟨_,_,hG.symm,iC (es:=D.map itA) (rest:=[]) (zAh _) g0 (zAg _).symm (zAj ..) (fun e he=>by(obtain⟨x,_,rfl⟩:=zAi.1 he;rfl)) (fun e he=>by(obtain⟨x,_,rfl⟩:=zAi.1 he;simp only[itA,go_sem])),rfl⟩
theorem aCa(b:Bool)(l:List Nd)(dir:Int)(hc:chk l=true)(hw:Wfr l)(hd:dirI dir=true)(hl:l.length≤1000000)(hn:SmN l)(H:AHeap):bD Tryz.prog 166 [.sl b (l.map ndA),.int .i64 dir] H (.sl false ((cB l dir).map itA)):=by
 refine fO Tryz.func166 ?_
 rw[←sV hw hd,xQ,zAc hc,eO,zAc hc]
 have hal:(bR l dir).length≤l.length:=xH hw l.length dir
 repeat' first|(refine gS ?_;simp only[go_sem])|refine gA ?_|(refine gD (fun h=>?_) (fun h=>?_)<;>try exact aA h)|fail
 refine aV (aIk b l dir hc (by omega) H) (cO) ?_
 rintro v H' ⟨rfl,rfl⟩
 simp only[go_sem]
 refine⟨⟨zAz _,fun e he=>by(rw[he];rfl),by omega⟩,?_⟩
 have hbl:=aIl b false l (bR l dir++[dir]) hc hw hl hn (by rw[zAe,zAX];omega) l.length dir [] hl hd (by simp only[zAE];omega)
 have hcells:∀e∈(bR l dir++[dir]).map iY,e.cells.length=1:=fun e he=>by(obtain⟨x,_,rfl⟩:=zAi.1 he;rfl)
 refine aIj (pre:=[.sl b (l.map ndA),.int .i64 dir,.str []]) (post:=[.int .i64 l.length]) ((bR l dir++[dir]).map iY) [] hbl (cO) (by simp) (by simp only[go_sem];rfl) (by omega) (by rw[zAg,zBa,zA0];rw[lD,lD];simp[iY]) hcells ?_
 simp only[go_sem]
 repeat' first|(refine gS ?_;simp only[go_sem])|refine gA ?_|(refine gD (fun h=>?_) (fun h=>?_)<;>try exact aA h)|fail
 exact dY (.refl _)
end Go.Proofs.YtolbeecicikoaaaGreatDoor
