/- The texts 29 of 53 beneath the rows of this seat (joined by program): the abstract machine, and what the functions answer. No condition. -/
import Derived.Test.YtolbeecicikoaaaGreatDoorWorkAO
import Derived.Test.YtolbeecicikoaaaGreatDoorWorkAT
import Derived.Test.YtolbeecicikoaaaGreatDoorWorkAU
import Derived.Test.YtolbeecicikoaaaGreatDoorWorkAY
set_option linter.unusedSimpArgs false
set_option linter.unusedVariables false
set_option linter.unusedSectionVars false
set_option maxRecDepth 100000
set_option maxHeartbeats 16000000
namespace Go.Proofs.YtolbeecicikoaaaGreatDoor
def wA(l:List Nd)(p:Txt):Int×Txt×Int:=match bV p with
 |none=>(0,[],194)
 |some []=>(0,[],194)
 |some (x::xs)=>((fQ l (x::xs).dropLast).1,(x::xs).getLast (by simp),if(fQ l (x::xs).dropLast).2=0∧dirI (fQ l (x::xs).dropLast).1=false then 81 else(fQ l (x::xs).dropLast).2)
theorem aEd{l:List Nd}{p:Txt}(h:dW p=true):(wA l p).2.2=(abvN l p).2.2∧((abvN l p).2.2=0→wA l p=abvN l p):=by
 unfold dW at h
 unfold wA abvN
 cases hn:bV p with
 |none=>rw[hn]at h;cases h
 |some ns=>
  cases ns with
  |nil=>exact⟨rfl,fun _=>rfl⟩
  |cons x xs=>
   simp only
   by_cases h0:(fQ l (x::xs).dropLast).2=0
   ·rw[zAc h0]
    cases hd:dirI (fQ l (x::xs).dropLast).1 with
    |true=>simp[h0]
    |false=>simp[h0]
   ·rw[zAb h0]
    simp[h0]
theorem mL(f1 f2 f3 f4:Bool)(m:Mdl):Sim (bC f1 f2 f3 f4 m) (bC false false false false m):=
 .agg _ _ rfl (aD (.sl _ _) (aD (.sl _ _) (aD (.refl _) (aD (.refl _) (aD (.sl _ _) (aD (.sl _ _) (aD (.refl _) bJ)))))))
theorem aK6(r:Int)(H:AHeap):bD Tryz.prog 8 [.int .i64 r] H (.tup [bC false false false false (xL r).1,.int .i64 (xL r).2]):=by
 refine fO Tryz.func8 ?_
 unfold xL
 by_cases h1:r<0
 ·rw[zAb (by omega)]
  have hd:decide (r<0)=true:=zAd h1
  repeat' first|(refine gS ?_;simp only[go_sem,hd])|refine gA ?_|(refine gD (fun h=>?_) (fun h=>?_)<;>try exact aA h)|fail
  exact dY (.tup _ _ rfl (aD (mL true true true true sL) (aD (.refl _) bJ)))
 ·have hd:decide (r<0)=false:=eT h1
  by_cases h2:63<r
  ·rw[zAb (by omega)]
   have hd2:decide (63<r)=true:=zAd h2
   repeat' first|(refine gS ?_;simp only[go_sem,hd,hd2])|refine gA ?_|(refine gD (fun h=>?_) (fun h=>?_)<;>try exact aA h)|fail
   exact dY (.tup _ _ rfl (aD (mL true true true true sL) (aD (.refl _) bJ)))
  ·rw[zAc (by omega)]
   have hd2:decide (63<r)=false:=eT h2
   repeat' first|(refine gS ?_;simp only[go_sem,hd,hd2])|refine gA ?_|(refine gD (fun h=>?_) (fun h=>?_)<;>try exact aA h)|fail
   exact dY (.tup _ _ rfl (aD (mL true true true true {sL with rep:=r,next:=1}) (aD (.refl _) bJ)))
theorem wB(b:Bool)(l:List Nd)(p:Txt)(hp:dW p=true)(hs:p.length≤1048576)(hl:l.length≤1073741824)(H:AHeap):bD Tryz.prog 66 [.sl b (l.map ndA),.str p] H (jS (atN l p)):=by
 refine fO Tryz.func66 ?_
 have hsp:=vZ p hs
 unfold xY at hsp
 unfold dW at hp
 unfold atN
 cases hn:bV p with
 |none=>rw[hn]at hp;cases hp
 |some ns=>
  rw[hn]at hsp
  have hnl:=jU hn
  have hf:=aEa b false l ns hl (by omega)
  simp only[jS]at hf ⊢
  repeat' first|(refine gS ?_;simp only[go_sem])|refine gA ?_|(refine gD (fun h=>?_) (fun h=>?_)<;>try exact aA h)|fail
  exact bL (.refl _)
theorem aEe(b:Bool)(l:List Nd)(p:Txt)(hp:dW p=true)(hs:p.length≤1048576)(hl:l.length≤1073741824)(H:AHeap):
  bD Tryz.prog 63 [.sl b (l.map ndA),.str p] H (.tup [.int .i64 (wA l p).1,.str (wA l p).2.1,.int .i64 (wA l p).2.2]):=by
 refine fO Tryz.func63 ?_
 have hsp:=vZ p hs
 unfold xY at hsp
 unfold dW at hp
 unfold wA
 cases hn:bV p with
 |none=>rw[hn]at hp;cases hp
 |some ns=>
  rw[hn]at hsp
  have hnl:=jU hn
  cases ns with
  |nil=>
   repeat' first|(refine gS ?_;simp only[go_sem])|refine gA ?_|(refine gD (fun h=>?_) (fun h=>?_)<;>try exact aA h)|fail
   exact bL (.refl _)
  |cons x xs=>
   have h16:=jU hn
   rw[zAm]at h16
   have hf:=aEa b false l (x::xs).dropLast hl (by simp;omega)
   obtain⟨⟨d,e⟩,hde⟩:∃r,fQ l (x::xs).dropLast=r:=⟨_,rfl⟩
   simp only[jS,hde]at hf ⊢
   have hw:IntKind.i64.wrap (((xs.length+1:Nat):Int)-1)=((xs.length:Nat):Int):=by rw[wI];omega
   have hz:decide (((xs.length+1:Nat):Int)=0)=false:=dF
   have htk:((x::xs).map AV.str).take xs.length=((x::xs).dropLast).map AV.str:=by rw[List.dropLast_eq_take,zBN];simp
   have hgd:(AV.str x::xs.map AV.str).getD xs.length .top=.str ((x::xs).getLast (by simp)):=by
    rw[←zAA (f:=AV.str),aJ AV.str (by simp),zCi];simp
   have hlt:xs.length<xs.length+1:=zAT _
   simp only[zAA]at hsp htk
   have hdr:=tR d
   by_cases he0:e=0
   ·subst he0
    cases hdd:dirI d with
    |false=>
     rw[hdd]at hdr
     repeat' first|(refine gS ?_;simp only[go_sem,Int.reduceEq,hw,hz,htk,hgd,hlt])|refine gA ?_|(refine gD (fun h=>?_) (fun h=>?_)<;>try exact aA h)|fail
     exact bL (.of (by simp))
    |true=>
     rw[hdd]at hdr
     repeat' first|(refine gS ?_;simp only[go_sem,Int.reduceEq,hw,hz,htk,hgd,hlt])|refine gA ?_|(refine gD (fun h=>?_) (fun h=>?_)<;>try exact aA h)|fail
     exact bL (.of (by simp))
   ·have hez:decide (e=0)=false:=eT he0
    cases hdd:dirI d with
    |false=>
     rw[hdd]at hdr
     repeat' first|(refine gS ?_;simp only[go_sem,Int.reduceEq,hw,hz,htk,hgd,hlt,hez])|refine gA ?_|(refine gD (fun h=>?_) (fun h=>?_)<;>try exact aA h)|fail
     exact bL (.of (by simp[he0]))
    |true=>
     rw[hdd]at hdr
     repeat' first|(refine gS ?_;simp only[go_sem,Int.reduceEq,hw,hz,htk,hgd,hlt,hez])|refine gA ?_|(refine gD (fun h=>?_) (fun h=>?_)<;>try exact aA h)|fail
     exact bL (.of (by simp[he0]))
theorem aNN(f1 f2 f3 f4:Bool)(m:Mdl)(n:Int)(hs:m.snaps.length≤1073741824)(H:AHeap):
  bD Tryz.prog 68 [bC f1 f2 f3 f4 m,.int .i64 n] H (match fR m n with|some l=>.tup [.sl false (l.map ndA),.int .i64 0]|none=>.tup [.sl false [],.int .i64 191]):=by
 refine fO Tryz.func68 ?_
 unfold fR
 by_cases h0:n=0
 ·rw[zAc h0]
  have hd:decide (n=0)=true:=zAd h0
  repeat' first|(refine gS ?_;simp only[go_sem,hd,bC,dN])|refine gA ?_|(refine gD (fun h=>?_) (fun h=>?_)<;>try exact aA h)|fail
  exact dY (.tup _ _ rfl (aD (.sl _ _) (aD (.refl _) bJ)))
 ·rw[zAb h0]
  have hd:decide (n=0)=false:=eT h0
  simp only[bC,dN]
  repeat' first|(refine gS ?_;simp only[go_sem,hd])|refine gA ?_|(refine gD (fun h=>?_) (fun h=>?_)<;>try exact aA h)|fail
  refine aH (ι:=Nat) (fun i=>[(1,.int .i64 n),(2,.ref H.length 0 0),(6,.int .i64 i)]) (fun _=>H++[.cells 0 (bC f1 f2 f3 f4 m).cells]) (fun i=>i≤m.snaps.length∧m.snaps.find? (fun s=>decide (s.n=n))=(m.snaps.drop i).find? (fun s=>decide (s.n=n))) (fun i=>m.snaps.length-i) 0 ⟨zAn _,rfl⟩ ?_ rfl ?_
  ·simp[go_sem]
  rintro i ⟨hi,he⟩
  by_cases hlt:i<m.snaps.length
  ·have hp:=aJ dP hlt
   have hli:decide ((i:Int)<(m.snaps.length:Int))=true:=dT
   rw[zAk hlt,zCn]at he
   by_cases hq:m.snaps[i].n=n
   ·have hd2:decide (m.snaps[i].n=n)=true:=zAd hq
    rw[hd2]at he
    simp only at he
    rw[he]
    repeat' first|(refine gS ?_;simp only[go_sem,hp,hli,hd2,dP,bC,dN])|refine gA ?_|(refine gD (fun h=>?_) (fun h=>?_)<;>try exact aA h)|fail
    exact dY (.refl _)
   ·have hd2:decide (m.snaps[i].n=n)=false:=eT hq
    rw[hd2]at he
    simp only at he
    repeat' first|(refine gS ?_;simp only[go_sem,hp,hli,hd2,dP,bC,dN])|refine gA ?_|(refine gD (fun h=>?_) (fun h=>?_)<;>try exact aA h)|fail
    exact⟨i+1,⟨hlt,he⟩,by omega,zAp _ (aK hlt (by omega))⟩
  ·have hli:decide ((i:Int)<(m.snaps.length:Int))=false:=dF
   rw[zAN (by omega)]at he
   rw[he]
   repeat' first|(refine gS ?_;simp only[go_sem,hli,bC,dN])|refine gA ?_|(refine gD (fun h=>?_) (fun h=>?_)<;>try exact aA h)|fail
   exact dY (.tup _ _ rfl (aD (.sl _ _) (aD (.refl _) bJ)))
theorem aFy(b:Bool)(l:List Nd)(dir id:Int)(hl:l.length≤1073741824)(H:AHeap):
  bD Tryz.prog 71 [.sl b (l.map ndA),.int .i64 dir,.int .i64 id] H (.bool (decide (dir=id)||(eO l dir).contains id)):=by
 refine fO Tryz.func71 ?_
 have hab:=aDY b l dir hl
 have hul:(eO l dir).length≤1073741824:=by
  rw[eO]
  split
  ·have:=aAG l l.length dir;unfold bR;omega
  ·simp
 generalize eO l dir=u at *
 repeat' first|(refine gS ?_;simp only[go_sem])|refine gA ?_|(refine gD (fun h=>?_) (fun h=>?_)<;>try exact aA h)|fail
 refine aH (ι:=Nat) (fun i=>[(1,.int .i64 dir),(2,.int .i64 id),(7,.sl false (u.map iY)),(8,.int .i64 i)]) (fun _=>H) (fun i=>i≤u.length∧u.contains id=(u.drop i).contains id) (fun i=>u.length-i) 0 ⟨zAn _,rfl⟩ ?_ rfl ?_
 ·simp[go_sem]
 rintro i ⟨hi,he⟩
 by_cases hlt:i<u.length
 ·have hp:=aJ iY hlt
  have hli:decide ((i:Int)<(u.length:Int))=true:=dT
  rw[zAk hlt,List.contains_cons]at he
  by_cases hq:u[i]=id
  ·have hd:decide (u[i]=id)=true:=zAd hq
   rw[he,show(id==u[i])=true by simp[hq],zCm,zCQ]
   repeat' first|(refine gS ?_;simp only[go_sem,hp,hli,hd,iY])|refine gA ?_|(refine gD (fun h=>?_) (fun h=>?_)<;>try exact aA h)|fail
   exact bL (.refl _)
  ·have hd:decide (u[i]=id)=false:=eT hq
   rw[show(id==u[i])=false by simp;exact fun e=>hq e.symm,zBX]at he
   repeat' first|(refine gS ?_;simp only[go_sem,hp,hli,hd,iY])|refine gA ?_|(refine gD (fun h=>?_) (fun h=>?_)<;>try exact aA h)|fail
   exact⟨i+1,⟨hlt,he⟩,by omega,zAp _ (aK hlt (by omega))⟩
 ·have hli:decide ((i:Int)<(u.length:Int))=false:=dF
  rw[zAN (by omega)]at he
  rw[he]
  repeat' first|(refine gS ?_;simp only[go_sem,hli])|refine gA ?_|(refine gD (fun h=>?_) (fun h=>?_)<;>try exact aA h)|fail
  exact bL (.of (by simp))
end Go.Proofs.YtolbeecicikoaaaGreatDoor
