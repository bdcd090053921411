/- The texts 27 of 53 beneath the rows of this seat (joined by program): the abstract machine, and what the functions answer. No condition. -/
import Derived.Test.YtolbeecicikoaaaGreatDoorWorkAI
import Derived.Test.YtolbeecicikoaaaGreatDoorWorkAN
import Derived.Test.YtolbeecicikoaaaGreatDoorWorkAO
import Derived.Test.YtolbeecicikoaaaGreatDoorWorkAT
import Derived.Test.YtolbeecicikoaaaGreatDoorWorkAY
set_option linter.unusedSimpArgs false
set_option linter.unusedVariables false
set_option linter.unusedSectionVars false
set_option maxRecDepth 100000
set_option maxHeartbeats 16000000
namespace Go.Proofs.YtolbeecicikoaaaGreatDoor
section tw
variable {α:Type} (p:α→Bool)
def twL(l:List α):Nat:=(l.takeWhile p).length
theorem aKZ(l:List α):twL p l≤l.length:=by
 unfold twL
 induction l with
 |nil=>exact zAh _
 |cons x l ih=>rw[zBq];split<;>simp;exact ih
theorem aA7(x:α)(l:List α):twL p (x::l)=if p x=true then twL p l+1 else 0:=by
 unfold twL;rw[zBq];split<;>simp
theorem aRs{l:List α}{i:Nat}(h:i<twL p l):p (l[i]'(zBe h (aKZ p l)))=true:=by
 induction l generalizing i with
 |nil=>simp[twL]at h
 |cons x l ih=>
  rw[aA7]at h
  split at h
  ·rename_i hx
   cases i with
   |zero=>simpa using hx
   |succ i=>exact ih (by omega)
  ·omega
theorem aK0{l:List α}(h:twL p l<l.length):p l[twL p l]=false:=by
 induction l with
 |nil=>simp at h
 |cons x l ih=>
  by_cases hx:p x=true
  ·have e1:twL p (x::l)=twL p l+1:=by rw[aA7,zAc hx]
   simp only[e1,List.getElem_cons_succ]
   exact ih (by simp[e1]at h;exact h)
  ·have e1:twL p (x::l)=0:=by rw[aA7,zAb hx]
   simp only[e1,List.getElem_cons_zero]
   simpa using hx
end tw
theorem aK1(o:Opn)(out:List Opn):rK o out=out.length-twL (fun x:Opn=>dD o.at_ x.at_) out.reverse:=rfl
theorem aK2(o:Opn)(out:List Opn):rK o out≤out.length:=Nat.sub_le _ _
theorem aUq{o:Opn}{out:List Opn}{k:Nat}(h:rK o out<k)(hk:k≤out.length):dD o.at_ (out[k-1]'(by omega)).at_=true:=by
 rw[aK1]at h
 have h1:=aRs (fun x:Opn=>dD o.at_ x.at_) (l:=out.reverse) (i:=out.length-k) (by omega)
 have e:out.reverse[out.length-k]'(by rw[zA9];omega)=out[k-1]'(by omega):=by
  rw[zCt];congr 1;omega
 rw[e]at h1
 exact h1
theorem aUr{o:Opn}{out:List Opn}(h:0<rK o out):dD o.at_ (out[rK o out-1]'(by have:=aK2 o out;omega)).at_=false:=by
 have hle:=aKZ (fun x:Opn=>dD o.at_ x.at_) out.reverse
 rw[zA9]at hle
 have h0:=h
 rw[aK1]at h0
 have h1:=aK0 (fun x:Opn=>dD o.at_ x.at_) (l:=out.reverse) (by rw[zA9];omega)
 have e:out.reverse[twL (fun x:Opn=>dD o.at_ x.at_) out.reverse]'(by rw[zA9];omega)=out[rK o out-1]'(by have:=aK2 o out;omega):=by
  rw[zCt];congr 1;rw[aK1];omega
 rw[e]at h1
 exact h1
theorem aK3(out:List Opn)(o:Opn):(qU out o).length≤out.length+1:=by
 unfold qU
 split
 ·omega
 ·rw[zAe,zAm,zAy,zAH];omega
theorem aIb(l:List Opn):(lJ l).length≤l.length:=by
 suffices h:∀(l acc:List Opn),(l.foldl qU acc).length≤acc.length+l.length by have:=h l [];simpa[lJ]using this
 intro l
 induction l with
 |nil=>intro acc;exact zAh _
 |cons o l ih=>intro acc;have:=ih (qU acc o);have:=aK3 acc o;rw[zAZ,zAm];omega
end Go.Proofs.YtolbeecicikoaaaGreatDoor
namespace Go.Proofs.YtolbeecicikoaaaGreatDoor
def cZ:List Pl:=[.free,.free,.free,.pure 0,.eff [false],.free,.free,.pure 1,.pure 1,.free,.eff [true,true],.free,.eff [true,true],.free]
attribute [go_sem] cZ
theorem aRt(l:List Opn):((l.map opA).flatMap AV.cells).all AV.one=true:=by
 induction l with
 |nil=>rfl
 |cons x l ih=>rw[zAA,zAK,List.all_append,ih];rfl
theorem aIc(b:Bool)(l:List Opn)(hl:l.length≤1000000000)(hc:∀o∈l,∀H,bD Tryz.prog 38 [opA o] H (.bool (opOk o)))(H:AHeap):
  bD Tryz.prog 87 [.sl b (l.map opA)] H (.sl false ((lJ l).map opA)):=by
 refine fO Tryz.func87 ?_
 repeat' first|(refine gS ?_;simp only[go_sem])|refine gA ?_|(refine gD (fun h=>?_) (fun h=>?_)<;>try exact aA h)|fail
 refine aH (ι:=Nat×Bool×AHeap) (fun x=>[(0,.sl b (l.map opA)),(3,.sl x.2.1 ((lJ (l.take x.1)).map opA)),(4,.int .i64 x.1)]) (fun x=>x.2.2)
  (fun x=>x.1≤l.length∧∃M,x.2.2=H++M) (fun x=>l.length-x.1) (0,true,H) ⟨zAn _,[],(zAg H).symm⟩ ?_ rfl ?_
 ·simp[go_sem]
  rfl
 ·rintro⟨i,f,X⟩ ⟨hi,hX⟩
  simp only at hi hX ⊢
  by_cases hlt:i<l.length
  ·have hp:=aJ opA hlt
   have hli:decide ((i:Int)<(l.length:Int))=true:=dT
   have htk:lJ (l.take (i+1))=qU (lJ (l.take i)) l[i]:=by rw[zAa hlt,aAJ]
   have hol:=aIb (l.take i)
   rw[zAy]at hol
   have hck:=hc _ (zAF hlt)
   simp only[opA]at hck
   generalize lJ (l.take i)=out at hol htk ⊢
   generalize hoe:l[i]=o at hp htk hck
   have hk0:=aK2 o out
   repeat' first|((first|refine mx [11] cZ ?_|refine gS ?_);simp only[go_sem,hli,hp,opA])|refine gA ?_|(refine gD (fun h=>?_) (fun h=>?_)<;>try exact aA h)|fail
   refine dB (ι:=Unit) (fun _=>[(0,.sl b (l.map opA)),(3,.sl f (out.map opA)),(4,.int .i64 i),(5,.bool (opOk o)),(6,.int .i64 (rK o out))]) (fun _=>X) (fun _=>True) ?_ ?_
   ·refine aH (ι:=Nat) (fun k=>[(0,.sl b (l.map opA)),(3,.sl f (out.map opA)),(4,.int .i64 i),(5,.bool (opOk o)),(6,.int .i64 k)]) (fun _=>X) (fun k=>rK o out≤k∧k≤out.length) (fun k=>k) out.length ⟨hk0,zAh _⟩ ?_ rfl ?_
    ·simp[go_sem]
    ·rintro k ⟨hk1,hk2⟩
     by_cases hkp:0<k
     ·have hpk:=aJ opA (show k-1<out.length by omega)
      have hk:decide ((0:Int)<(k:Int))=true:=dT
      have hw:IntKind.i64.wrap ((k:Int)-1)=((k-1:Nat):Int):=by rw[wI];omega
      have hlk:decide (((k-1:Nat):Int)<(out.length:Int))=true:=dT
      have hle:=aHt o out[k-1]
      simp only[opA]at hle
      by_cases hgt:rK o out<k
      ·have hl1:iI o.at_.c o.at_.r out[k-1].at_.c out[k-1].at_.r=true:=aUq hgt hk2
       rw[hl1]at hle
       repeat' first|((first|refine mx [11] cZ ?_|refine gS ?_);simp only[go_sem,hli,hp,hpk,hk,hw,hlk,opA])|refine gA ?_|(refine gD (fun h=>?_) (fun h=>?_)<;>try exact aA h)|fail
       exact⟨k-1,⟨by omega,by omega⟩,by omega,rfl⟩
      ·have hke:k=rK o out:=by omega
       subst hke
       have hl1:iI o.at_.c o.at_.r out[rK o out-1].at_.c out[rK o out-1].at_.r=false:=aUr hkp
       rw[hl1]at hle
       repeat' first|((first|refine mx [11] cZ ?_|refine gS ?_);simp only[go_sem,hli,hp,hpk,hk,hw,hlk,opA])|refine gA ?_|(refine gD (fun h=>?_) (fun h=>?_)<;>try exact aA h)|fail
       exact⟨(),trivial⟩
     ·have hke:rK o out=0:=by omega
      have hke2:k=0:=by omega
      subst hke2
      repeat' first|((first|refine mx [11] cZ ?_|refine gS ?_);simp only[go_sem,hli,hp,hke,opA])|refine gA ?_|(refine gD (fun h=>?_) (fun h=>?_)<;>try exact aA h)|fail
      exact⟨(),trivial⟩
   ·intro _ _
    have hkk:qU out o=if(!opOk o||(decide (0<rK o out)&&decide ((out.getD (rK o out-1) op0).at_=o.at_)))=true then out else out.take (rK o out)++o::out.drop (rK o out):=rfl
    generalize rK o out=k at hk0 hkk ⊢
    have s1:List.take k (out.map opA)=(out.take k).map opA:=(zBN ..).symm
    have s2:List.drop k (out.map opA)=(out.drop k).map opA:=(zCh ..).symm
    have l1:(out.take k).length=k:=by rw[zAy];omega
    have l2:(out.drop k).length=out.length-k:=zAH ..
    have c1:(∀e∈(out.take k).map opA,e.cells.length=7)=True:=zAI (lO _)
    have c2:(∀e∈(out.drop k).map opA,e.cells.length=7)=True:=zAI (lO _)
    have f1:=rR (out.take k)
    have f2:=rR (out.drop k)
    have o2:=aRt (out.drop k)
    have hw:0<k→IntKind.i64.wrap ((k:Int)-1)=((k-1:Nat):Int):=fun _=>by rw[wI];omega
    cases hok:opOk o with
    |false=>
     rw[hok]at hkk
     simp only[zBb,zCm,zAU]at hkk
     repeat' first|((first|refine mx [11] cZ ?_|refine gS ?_);simp only[go_sem,hp,hli])|refine gA ?_|(refine gD (fun h=>?_) (fun h=>?_)<;>try exact aA h)|fail
     exact⟨(i+1,f,X),⟨hlt,hX⟩,by simp only;omega,⟨by simp only;rw[htk,hkk],zAp _ (aK hlt (by omega))⟩,rfl⟩
    |true=>
     have ht:List.take ((out.length-k) * 7) (List.flatMap AV.cells ((out.drop k).map opA))=List.flatMap AV.cells ((out.drop k).map opA):=zBh (by rw[f2,l2];exact zAh _)
     have hel:((out.take k++o::out.drop k).map opA).length=k+(1+(out.length-k)):=by rw[zAj,zAe,zAm,l1,l2];omega
     have hec:((out.take k++o::out.drop k).map opA).flatMap AV.cells=((out.take k).map opA).flatMap AV.cells++((opA o).cells++((out.drop k).map opA).flatMap AV.cells):=by rw[zBa,zAA,zA0,zAK]
     rw[hok,zBz,zBX]at hkk
     by_cases hk0':0<k
     ·have hpk:=aJ opA (show k-1<out.length by omega)
      have hgd:out.getD (k-1) op0=out[k-1]'(by omega):=by rw[zAs,zAo (by omega)];rfl
      rw[zAd hk0',zAB,hgd]at hkk
      have hk:decide ((0:Int)<(k:Int))=true:=dT
      have hlk:decide (((k-1:Nat):Int)<(out.length:Int))=true:=dT
      have hw':=hw hk0'
      repeat' first|((first|refine mx [11] cZ ?_|refine gS ?_);simp only[go_sem,hpk,hk,hlk,hw',hp,hli,s1,s2,c1,c2,f1,f2,o2,l1,l2,opA])|refine gA ?_|(refine gD (fun h=>?_) (fun h=>?_)<;>try exact aA h)|fail
      ·rw[zAc (by rw[zAl,zAr,zAr]at h;exact zAd (aGl h.1 h.2))]at hkk
       exact⟨(i+1,f,X),⟨hlt,hX⟩,by simp only;omega,⟨by simp only;rw[htk,hkk],zAp _ (aK hlt (by omega))⟩,rfl⟩
      ·rw[zAb (fun q=>by have q:=zA6 q;rw[q]at h;simp at h)]at hkk
       (repeat'(with_reducible refine And.intro ?_ ?_))<;>try(first|omega|exact zAh _|exact lO _|exact .inl trivial|exact(fun e he=>by rw[he];rfl)|(rw[ht];exact o2))
       repeat' first|((first|refine mx [11] cZ ?_|refine gS ?_);simp only[go_sem,hp,hli,s1,s2,c1,c2,f1,f2,o2,l1,l2,opA])|refine gA ?_|(refine gD (fun h=>?_) (fun h=>?_)<;>try exact aA h)|fail
       (repeat'(with_reducible refine And.intro ?_ ?_))<;>try(first|omega|exact zAh _|exact lO _|exact .inl trivial|exact(fun e he=>by rw[he];rfl)|(rw[ht];exact o2))
       rw[ht]
       refine wQ [3] ((out.take k++o::out.drop k).map opA) (v:=3) (lc:=k+(1+(out.length-k))) (i:=X.length+1) (s:=7) (cs:=((out.take k++o::out.drop k).map opA).flatMap AV.cells) (by intro t ht;simp only[zAx]at ht;subst ht;rw[hel];first|rfl|simp only[go_sem]) (by simp only[go_sem];rw[hec];rfl) (by omega) rfl (lO _) ?_
       repeat' first|((first|refine mx [11] cZ ?_|refine gS ?_);simp only[go_sem])|refine gA ?_|(refine gD (fun h=>?_) (fun h=>?_)<;>try exact aA h)|fail
       exact⟨(i+1,false,_),⟨hlt,mJ hX _⟩,by simp only;omega,⟨by simp only;rw[htk,hkk],zAp _ (aK hlt (by omega))⟩,rfl⟩
     ·have hk:decide ((0:Int)<(k:Int))=false:=dF
      rw[eT hk0',zBO,zAb (by decide)]at hkk
      repeat' first|((first|refine mx [11] cZ ?_|refine gS ?_);simp only[go_sem,hk,hp,hli,s1,s2,c1,c2,f1,f2,o2,l1,l2,opA])|refine gA ?_|(refine gD (fun h=>?_) (fun h=>?_)<;>try exact aA h)|fail
      (repeat'(with_reducible refine And.intro ?_ ?_))<;>try(first|omega|exact zAh _|exact lO _|exact .inl trivial|exact(fun e he=>by rw[he];rfl)|(rw[ht];exact o2))
      rw[ht]
      refine wQ [3] ((out.take k++o::out.drop k).map opA) (v:=3) (lc:=k+(1+(out.length-k))) (i:=X.length+1) (s:=7) (cs:=((out.take k++o::out.drop k).map opA).flatMap AV.cells) (by intro t ht;simp only[zAx]at ht;subst ht;rw[hel];first|rfl|simp only[go_sem]) (by simp only[go_sem];rw[hec];rfl) (by omega) rfl (lO _) ?_
      repeat' first|((first|refine mx [11] cZ ?_|refine gS ?_);simp only[go_sem])|refine gA ?_|(refine gD (fun h=>?_) (fun h=>?_)<;>try exact aA h)|fail
      exact⟨(i+1,false,_),⟨hlt,mJ hX _⟩,by simp only;omega,⟨by simp only;rw[htk,hkk],zAp _ (aK hlt (by omega))⟩,rfl⟩
  ·have hie:i=l.length:=by omega
   subst hie
   have hli:decide ((l.length:Int)<(l.length:Int))=false:=by simp
   rw[zAq]
   repeat' first|((first|refine mx [11] cZ ?_|refine gS ?_);simp only[go_sem,hli])|refine gA ?_|(refine gD (fun h=>?_) (fun h=>?_)<;>try exact aA h)|fail
   obtain⟨M,hM⟩:=hX
   exact aAq hM.symm (by simp only[go_sem]) (by cases f;exact .refl _;exact .sl _ _)
end Go.Proofs.YtolbeecicikoaaaGreatDoor
namespace Go.Proofs.YtolbeecicikoaaaGreatDoor
def gV(k:Int):Bool×Bool×Bool×Bool×Bool:=
 if k=1∨k=2∨k=6∨k=10 then(true,true,false,false,false)else if k=3 then(true,true,false,true,false)else if k=4∨k=7 then(true,true,false,false,true)else if k=5 then(true,true,true,false,false)
 else if k=9∨k=11 then(true,false,false,false,true)else if k=13 then(true,false,false,true,false)else if k=8∨k=12 then(true,false,false,false,false)else(false,false,false,false,false)
def aRu(q:Bool×Bool×Bool×Bool×Bool):AV:=.agg [.bool q.1,.bool q.2.1,.bool q.2.2.1,.bool q.2.2.2.1,.bool q.2.2.2.2]
def isP(is:Bool)(p:Txt):Bool:=bif is then dW p else decide (p=[])
theorem aPn(c:Cal):chkC c=((gV c.kind).1&&isP (gV c.kind).2.1 c.path&&isP (gV c.kind).2.2.1 c.to&&
  !(!(gV c.kind).2.2.2.1&&decide ((0:Int)<c.data.length)||decide (c.kind=3)&&decide ((64:Int)<c.data.length)||decide ((4000:Int)<c.data.length))&&
  (decide (c.n=0)||(gV c.kind).2.2.2.2&&decide (0<c.n))):=by
 have hd:decide (c.data=[])= !decide ((0:Int)<c.data.length):=by cases c.data<;>simp
 have f1_1:∀r e,fH 1 1 r e=r:=fun _ _=>zAb (by decide)
 have f1_2:∀r e,fH 1 2 r e=e:=fun _ _=>zAc (by decide)
 have f1_4:∀r e,fH 1 4 r e=e:=fun _ _=>zAc (by decide)
 have f1_8:∀r e,fH 1 8 r e=e:=fun _ _=>zAc (by decide)
 have f5_1:∀r e,fH 5 1 r e=r:=fun _ _=>zAb (by decide)
 have f5_2:∀r e,fH 5 2 r e=e:=fun _ _=>zAc (by decide)
 have f5_4:∀r e,fH 5 4 r e=r:=fun _ _=>zAb (by decide)
 have f5_8:∀r e,fH 5 8 r e=e:=fun _ _=>zAc (by decide)
 have f9_1:∀r e,fH 9 1 r e=r:=fun _ _=>zAb (by decide)
 have f9_2:∀r e,fH 9 2 r e=e:=fun _ _=>zAc (by decide)
 have f9_4:∀r e,fH 9 4 r e=e:=fun _ _=>zAc (by decide)
 have f9_8:∀r e,fH 9 8 r e=r:=fun _ _=>zAb (by decide)
 have f3_1:∀r e,fH 3 1 r e=r:=fun _ _=>zAb (by decide)
 have f3_2:∀r e,fH 3 2 r e=r:=fun _ _=>zAb (by decide)
 have f3_4:∀r e,fH 3 4 r e=e:=fun _ _=>zAc (by decide)
 have f3_8:∀r e,fH 3 8 r e=e:=fun _ _=>zAc (by decide)
 have f8_1:∀r e,fH 8 1 r e=e:=fun _ _=>zAc (by decide)
 have f8_2:∀r e,fH 8 2 r e=e:=fun _ _=>zAc (by decide)
 have f8_4:∀r e,fH 8 4 r e=e:=fun _ _=>zAc (by decide)
 have f8_8:∀r e,fH 8 8 r e=r:=fun _ _=>zAb (by decide)
 have f4_1:∀r e,fH 4 1 r e=e:=fun _ _=>zAc (by decide)
 have f4_2:∀r e,fH 4 2 r e=e:=fun _ _=>zAc (by decide)
 have f4_4:∀r e,fH 4 4 r e=r:=fun _ _=>zAb (by decide)
 have f4_8:∀r e,fH 4 8 r e=e:=fun _ _=>zAc (by decide)
 have f0_1:∀r e,fH 0 1 r e=e:=fun _ _=>zAc (by decide)
 have f0_2:∀r e,fH 0 2 r e=e:=fun _ _=>zAc (by decide)
 have f0_4:∀r e,fH 0 4 r e=e:=fun _ _=>zAc (by decide)
 have f0_8:∀r e,fH 0 8 r e=e:=fun _ _=>zAc (by decide)
 have hn:decide (c.n=0)=(decide (0≤c.n)&& !decide (0<c.n)):=by grind
 unfold chkC rS gV isP
 rcases aCM c.kind with h|h|h|h|h|h|h|h|h|h|h|h|h|⟨h1,h2,h3,h4,h5,h6,h7,h8,h9,h10,h11,h12,h13⟩
 iterate 13
  focus
   simp only[h,f1_1,f1_2,f1_4,f1_8,f5_1,f5_2,f5_4,f5_8,f9_1,f9_2,f9_4,f9_8,f3_1,f3_2,f3_4,f3_8,f8_1,f8_2,f8_4,f8_8,f4_1,f4_2,f4_4,f4_8,f0_1,f0_2,f0_4,f0_8,hd,zCY,zCj,Int.reduceEq,false_or,zBY,or_true,true_or,zAU,zA3,zCe,zB4]
   first|grind|(simp;grind)|fail "K"
 ·simp only[*,or_self,zA3]
  simp
theorem aK5(k:Int)(H:AHeap):bD Tryz.prog 61 [.int .i64 k] H (aRu (gV k)):=by
 refine fO Tryz.func61 ?_
 rcases aCM k with rfl|rfl|rfl|rfl|rfl|rfl|rfl|rfl|rfl|rfl|rfl|rfl|rfl|⟨h1,h2,h3,h4,h5,h6,h7,h8,h9,h10,h11,h12,h13⟩
 all_goals simp only[gV,aRu, *]
 all_goals
  repeat' first|(refine gS ?_;simp only[go_sem, *])|refine gA ?_|(refine gD (fun h=>?_) (fun h=>?_)<;>try exact aA h)|fail
  exact dY (.of (by simp))
theorem aB6(p:Txt)(is:Bool)(hs:p.length≤1048576)(H:AHeap):bD Tryz.prog 62 [.str p,.bool is] H (.bool (isP is p)):=by
 refine fO Tryz.func62 ?_
 have hsp:=vZ p hs
 unfold xY at hsp
 unfold isP dW
 have hl:decide ((p.length:Int)=0)=decide (p=[]):=by cases p<;>simp;omega
 cases hn:bV p with
 |none=>
  rw[hn]at hsp
  cases is
  ·repeat' first|(refine gS ?_;simp only[go_sem,hl])|refine gA ?_|(refine gD (fun h=>?_) (fun h=>?_)<;>try exact aA h)|fail
   exact bL (.refl _)
  ·repeat' first|(refine gS ?_;simp only[go_sem,hl])|refine gA ?_|(refine gD (fun h=>?_) (fun h=>?_)<;>try exact aA h)|fail
   exact bL (.refl _)
 |some l=>
  rw[hn]at hsp
  cases is
  ·repeat' first|(refine gS ?_;simp only[go_sem,hl])|refine gA ?_|(refine gD (fun h=>?_) (fun h=>?_)<;>try exact aA h)|fail
   exact bL (.refl _)
  ·repeat' first|(refine gS ?_;simp only[go_sem,hl])|refine gA ?_|(refine gD (fun h=>?_) (fun h=>?_)<;>try exact aA h)|fail
   exact bL (.refl _)
theorem aFx(c:Cal)(h1:c.path.length≤1048576)(h2:c.to.length≤1048576)(H:AHeap):bD Tryz.prog 23 [fJ c] H (.bool (chkC c)):=by
 refine fO Tryz.func23 ?_
 have ho:=aK5 c.kind
 rw[aPn]
 generalize gV c.kind=q at *
 obtain⟨q0,q1,q2,q3,q4⟩:=q
 simp only[aRu]at ho
 have hp:=aB6 c.path q1 h1
 have ht:=aB6 c.to q2 h2
 simp only[fJ]
 repeat' first|(refine gS ?_;simp only[go_sem])|refine gA ?_|(refine gD (fun h=>?_) (fun h=>?_)<;>try exact aA h)|fail
 all_goals(clear hp ht ho;exact dY (.of (by first|(simp_all;done)|grind)))
end Go.Proofs.YtolbeecicikoaaaGreatDoor
