/- The texts 24 of 53 beneath the rows of this seat (joined by program): the abstract machine, and what the functions answer. No condition. -/
import Derived.Test.YtolbeecicikoaaaGreatDoorWorkAH
import Derived.Test.YtolbeecicikoaaaGreatDoorWorkAP
import Derived.Test.YtolbeecicikoaaaGreatDoorWorkAR
set_option linter.unusedSimpArgs false
set_option linter.unusedVariables false
set_option linter.unusedSectionVars false
set_option maxRecDepth 100000
set_option maxHeartbeats 16000000
namespace Go.Proofs.YtolbeecicikoaaaGreatDoor
def aD9(b:Txt):Option ((Int×Int×Int×Int)×Txt):=
 (cQ b).bind fun(c,b1)=>(cQ b1).bind fun(r,b2)=>(cQ b2).bind fun(k,b3)=>(cQ b3).bind fun(nd,b4)=>some ((c,r,k,nd),b4)
def aC0(b:Txt):AV:=match qN b with
 |none=>.tup [opA op0,.str [],.int .i64 50]
 |some (o,r)=>.tup [opA o,.str r,.int .i64 0]
def aC1(b:Txt):AV:=match readO b with
 |none=>.tup [.sl true [],.int .i64 50]
 |some l=>.tup [.sl false (l.map opA),.int .i64 0]
theorem pH{b t r:Txt}(h:pB b=some (t,r)):t.length≤b.length∧r.length<b.length:=by
 unfold pB at h
 cases hv:cQ b with
 |none=>rw[hv]at h;cases h
 |some p=>
  obtain⟨n,s⟩:=p
  rw[hv]at h
  simp only at h
  have:=fT hv
  split at h
  ·cases h
  ·cases h
   rw[zAy,zAH]
   omega
theorem aKQ(b:Txt):qN b=(aD9 b).bind fun((c,r,k,nd),b4)=>
  if k=1 then(cQ b4).bind fun(p,b5)=>(pB b5).bind fun(t,b6)=>if opOk ⟨⟨c,r⟩,k,nd,p,t,[]⟩=true then some (⟨⟨c,r⟩,k,nd,p,t,[]⟩,b6)else none
  else(pB b4).bind fun(t,b6)=>if opOk ⟨⟨c,r⟩,k,nd,0,[],t⟩=true then some (⟨⟨c,r⟩,k,nd,0,[],t⟩,b6)else none:=by
 unfold qN aD9
 cases cQ b with
 |none=>rfl
 |some x=>
  simp only[zBd]
  cases cQ x.2 with
  |none=>rfl
  |some y=>
   simp only[zBd]
   cases cQ y.2 with
   |none=>rfl
   |some z=>
    simp only[zBd]
    cases cQ z.2<;>rfl
theorem xX{b r:Txt}{o:Opn}(h:qN b=some (o,r)):r.length<b.length:=by
 unfold qN at h
 simp only[zBm]at h
 obtain⟨⟨c,b1⟩,h1,⟨rr,b2⟩,h2,⟨k,b3⟩,h3,⟨nd,b4⟩,h4,h⟩:=h
 have l1:=fT h1
 have l2:=fT h2
 have l3:=fT h3
 have l4:=fT h4
 simp only at h l2 l3 l4
 split at h
 ·simp only[zBm]at h
  obtain⟨⟨p,b5⟩,h5,⟨t,b6⟩,h6,h⟩:=h
  have l5:=fT h5
  have l6:=(pH h6).2
  simp only at h l6
  split at h
  ·cases h;omega
  ·cases h
 ·simp only[zBm]at h
  obtain⟨⟨t,b6⟩,h6,h⟩:=h
  have l6:=(pH h6).2
  simp only at h
  split at h
  ·cases h;omega
  ·cases h
theorem aFs:∀(n k:Nat) (b:Txt),b.length≤n→b.length≤k→lN k b=lN b.length b:=by
 intro n
 induction n with
 |zero=>intro k b h _;rw[zAO (by omega:b.length=0)];cases k<;>rfl
 |succ n ih=>
  intro k b h hk
  cases b with
  |nil=>cases k<;>rfl
  |cons x b=>
   rw[zAm]at h hk
   obtain⟨k,rfl⟩:∃m,k=m+1:=⟨k-1,by omega⟩
   rw[zAm,lN,lN,zAb (by simp),zAb (by simp)]
   cases ht:qN (x::b)with
   |none=>rfl
   |some p=>
    obtain⟨o,r⟩:=p
    have:=xX ht
    rw[zAm]at this
    simp only[zBd]
    rw[ih k r (by omega) (by omega),ih b.length r (by omega) (by omega)]
theorem aFt{b:Txt}(h:b≠[]):readO b=(qN b).bind fun(o,r)=>(readO r).map (o::·):=by
 cases b with
 |nil=>exact absurd rfl h
 |cons x b=>
  unfold readO
  rw[zAm,lN,zAb (by simp)]
  cases ht:qN (x::b)with
  |none=>rfl
  |some p=>
   obtain⟨o,r⟩:=p
   have:=xX ht
   rw[zAm]at this
   simp only[zBd]
   rw[aFs _ b.length r (zAh _) (by omega)]
theorem aNJ{α:Type}{enc:α→AV}{s n i v k lc:Nat}{H:AHeap}{D:List α}(hn:n≤i)(hh:hget H i=.cells v (flA enc D))(hk:D.length=k)(hs:∀x,(enc x).cells.length=s)(hp:∀x,Pur (enc x)):Frz n H (.osl s i v 0 k lc) (.sl false (D.map enc)):=
 iC (es:=D.map enc) (rest:=[]) hn hh (zAg _).symm (by rw[zAj,hk]) (fun e he=>by(obtain⟨x, -,rfl⟩:=zAi.1 he;exact hs x)) (fun e he=>by(obtain⟨x, -,rfl⟩:=zAi.1 he;exact hp x))
theorem aKR(b:Txt)(hb:b.length≤1073741824)(f:Bool)(i:Nat)(c0 c1 c2 c3 c5 c6:AV)(x:Int)(H:AHeap)(hh:hget H i=.cells 0 [c0,c1,c2,c3,.int .i64 x,c5,c6]):
  ACalls Tryz.prog 186 [.str b,.sl f [.ref i 0 4]] H (fun r H'=>(cQ b=none∧r=.tup [.str [],.bool false]∧H'=H)∨∃p rest,cQ b=some (p,rest)∧r=.tup [.str rest,.bool true]∧H'=aB H i (.cells 0 [c0,c1,c2,c3,.int .i64 p,c5,c6])):=by
 refine aW Tryz.func186 ?_
 have hlt:=aU hh trivial
 have s1:=fun b=>cJ hlt b
 have s2:=cS H i
 have w1:IntKind.i64.wrap (0+1)=1:=rfl
 have ht:=aCN b hb
 unfold pF at ht
 repeat' first|(refine gS ?_;simp only[go_sem])|refine gA ?_|(refine gD (fun h=>?_) (fun h=>?_)<;>try exact aA h)|fail
 refine mS 2 ?_
 unfold mE
 cases h1:cQ b with
 |none=>
  simp only[h1]at ht
  repeat' first|(refine gS ?_;simp only[go_sem,hh])|refine gA ?_|(refine gD (fun h=>?_) (fun h=>?_)<;>try exact aA h)|fail
  first|trivial|exact .inl trivial|exact .inl ⟨rfl,rfl,rfl⟩
 |some p=>
  obtain⟨p,rest⟩:=p
  simp only[h1]at ht
  repeat' first|(refine gS ?_;simp only[go_sem,hh,s1,s2,w1])|refine gA ?_|(refine gD (fun h=>?_) (fun h=>?_)<;>try exact aA h)|fail
  exact .inr ⟨p,rest,rfl,rfl,rfl⟩
theorem aKS(b:Txt)(hb:b.length≤1073741824)(f:Bool)(i:Nat)(c4 c5 c6:AV)(x0 x1 x2 x3:Int)(H:AHeap)(hh:hget H i=.cells 0 [.int .i64 x0,.int .i64 x1,.int .i64 x2,.int .i64 x3,c4,c5,c6]):
  ACalls Tryz.prog 186 [.str b,.sl f [.ref i 0 0,.ref i 0 1,.ref i 0 2,.ref i 0 3]] H (fun r H'=>(aD9 b=none∧r=.tup [.str [],.bool false]∧∃X,H'=aB H i X)∨∃n0 n1 n2 n3 rest,aD9 b=some ((n0,n1,n2,n3),rest)∧rest.length≤b.length∧r=.tup [.str rest,.bool true]∧H'=aB H i (.cells 0 [.int .i64 n0,.int .i64 n1,.int .i64 n2,.int .i64 n3,c4,c5,c6])):=by
 refine aW Tryz.func186 ?_
 have hlt:=aU hh trivial
 have s1:=fun b=>cJ hlt b
 have s2:=cS H i
 have w1:IntKind.i64.wrap (0+1)=1:=rfl
 have w2:IntKind.i64.wrap (1+1)=2:=rfl
 have w3:IntKind.i64.wrap (2+1)=3:=rfl
 have w4:IntKind.i64.wrap (3+1)=4:=rfl
 have own:=(gW hh trivial).symm
 have hv:∀b:Txt,b.length≤1073741824→∀H,bD Tryz.prog 210 [.str b] H (pF b):=fun b h=>aCN b h
 unfold pF at hv
 unfold aD9
 repeat' first|(refine gS ?_;simp only[go_sem])|refine gA ?_|(refine gD (fun h=>?_) (fun h=>?_)<;>try exact aA h)|fail
 have ht:=hv b hb
 refine mS 5 ?_
 unfold mE
 cases h1:cQ b with
 |none=>
  simp only[h1]at ht
  repeat' first|(refine gS ?_;simp only[go_sem,hh])|refine gA ?_|(refine gD (fun h=>?_) (fun h=>?_)<;>try exact aA h)|fail
  first|exact .inl ⟨rfl,_,own⟩|exact .inl ⟨rfl,rfl,_,own⟩|exact .inl ⟨_,own⟩|exact⟨_,own⟩|fail "Q"
 |some p=>
  obtain⟨n0,b1⟩:=p
  simp only[h1]at ht
  have l1:=fT h1
  repeat' first|(refine gS ?_;simp only[go_sem,hh,s1,s2,w1])|refine gA ?_|(refine gD (fun h=>?_) (fun h=>?_)<;>try exact aA h)|fail
  have ht1:=hv b1 (by omega)
  cases h2:cQ b1 with
  |none=>
   simp only[h2]at ht1
   repeat' first|(refine gS ?_;simp only[go_sem,s1,s2])|refine gA ?_|(refine gD (fun h=>?_) (fun h=>?_)<;>try exact aA h)|fail
   first|exact .inl ⟨by simp[h2],rfl,_,rfl⟩|exact .inl ⟨by simp[h2],_,rfl⟩|exact .inl ⟨_,rfl⟩|fail "R"
  |some p=>
   obtain⟨n1,b2⟩:=p
   simp only[h2]at ht1
   have l2:=fT h2
   repeat' first|(refine gS ?_;simp only[go_sem,s1,s2,w2])|refine gA ?_|(refine gD (fun h=>?_) (fun h=>?_)<;>try exact aA h)|fail
   have ht2:=hv b2 (by omega)
   cases h3:cQ b2 with
   |none=>
    simp only[h3]at ht2
    repeat' first|(refine gS ?_;simp only[go_sem,s1,s2])|refine gA ?_|(refine gD (fun h=>?_) (fun h=>?_)<;>try exact aA h)|fail
    first|exact .inl ⟨by simp[h2,h3],rfl,_,rfl⟩|exact .inl ⟨by simp[h2,h3],_,rfl⟩|exact .inl ⟨_,rfl⟩|fail "R"
   |some p=>
    obtain⟨n2,b3⟩:=p
    simp only[h3]at ht2
    have l3:=fT h3
    repeat' first|(refine gS ?_;simp only[go_sem,s1,s2,w3])|refine gA ?_|(refine gD (fun h=>?_) (fun h=>?_)<;>try exact aA h)|fail
    have ht3:=hv b3 (by omega)
    cases h4:cQ b3 with
    |none=>
     simp only[h4]at ht3
     repeat' first|(refine gS ?_;simp only[go_sem,s1,s2])|refine gA ?_|(refine gD (fun h=>?_) (fun h=>?_)<;>try exact aA h)|fail
     first|exact .inl ⟨by simp[h2,h3,h4],rfl,_,rfl⟩|exact .inl ⟨by simp[h2,h3,h4],_,rfl⟩|exact .inl ⟨_,rfl⟩|fail "R"
    |some p=>
     obtain⟨n3,b4⟩:=p
     simp only[h4]at ht3
     have l4:=fT h4
     repeat' first|(refine gS ?_;simp only[go_sem,s1,s2,w4])|refine gA ?_|(refine gD (fun h=>?_) (fun h=>?_)<;>try exact aA h)|fail
     exact .inr ⟨n0,n1,n2,n3,b4,by simp[h2,h3,h4],by omega,rfl,rfl⟩
theorem aKT(b:Txt)(hb:b.length≤1073741824)(H:AHeap):bD Tryz.prog 156 [.str b] H (aC0 b):=by
 refine fO Tryz.func156 ?_
 unfold aC0
 rw[aKQ]
 repeat' first|(refine gS ?_;simp only[go_sem])|refine gA ?_|(refine gD (fun h=>?_) (fun h=>?_)<;>try exact aA h)|fail
 refine aV (aKS b hb true (H.length+1) (.int .i64 0) (.str []) (.str []) 0 0 0 0 _ (by simp only[go_sem])) (cO) ?_
 rintro v H' (⟨h4,rfl,X,rfl⟩|⟨c,r,k,nd,b4,h4,hl4,rfl,rfl⟩)
 ·rw[h4]
  simp only[go_sem]
  repeat' first|(refine gS ?_;simp only[go_sem])|refine gA ?_|(refine gD (fun h=>?_) (fun h=>?_)<;>try exact aA h)|fail
  exact dY (.refl _)
 rw[h4]
 simp only[go_sem,zBd]
 have hkd:=aDw ⟨⟨c,r⟩,k,nd,0,[],[]⟩
 simp only[opA]at hkd
 by_cases hk:k=1
 ·subst hk
  simp only[zAU]at hkd ⊢
  repeat' first|(refine gS ?_;simp only[go_sem])|refine gA ?_|(refine gD (fun h=>?_) (fun h=>?_)<;>try exact aA h)|fail
  refine aV (aKR b4 (by omega) true (H.length+1) (.int .i64 c) (.int .i64 r) (.int .i64 1) (.int .i64 nd) (.str []) (.str []) 0 _ (by simp only[go_sem])) (cO) ?_
  rintro v H' (⟨h5,rfl,rfl⟩|⟨q,b5,h5,rfl,rfl⟩)
  ·rw[h5]
   simp only[go_sem]
   repeat' first|(refine gS ?_;simp only[go_sem])|refine gA ?_|(refine gD (fun h=>?_) (fun h=>?_)<;>try exact aA h)|fail
   exact dY (.refl _)
  have hl5:=fT h5
  rw[h5]
  simp only[go_sem,zBd]
  repeat' first|(refine gS ?_;simp only[go_sem])|refine gA ?_|(refine gD (fun h=>?_) (fun h=>?_)<;>try exact aA h)|fail
  have htx:=aCO b5 (by omega)
  unfold yW at htx
  cases hx:pB b5 with
  |none=>
   simp only[hx]at htx
   repeat' first|(refine gS ?_;simp only[go_sem])|refine gA ?_|(refine gD (fun h=>?_) (fun h=>?_)<;>try exact aA h)|fail
   exact dY (.refl _)
  |some p=>
   obtain⟨t,b6⟩:=p
   simp only[hx]at htx
   have hl6:=pH hx
   have hok:=xA ⟨⟨c,r⟩,1,nd,q,t,[]⟩ ⟨by simp only[zAE];omega,by simp only[zAE];omega⟩
   simp only[opA,zBd]at hok ⊢
   cases ho:opOk ⟨⟨c,r⟩,1,nd,q,t,[]⟩with
   |true=>
    rw[ho]at hok
    repeat' first|(refine gS ?_;simp only[go_sem])|refine gA ?_|(refine gD (fun h=>?_) (fun h=>?_)<;>try exact aA h)|fail
    exact dY (.refl _)
   |false=>
    rw[ho]at hok
    repeat' first|(refine gS ?_;simp only[go_sem])|refine gA ?_|(refine gD (fun h=>?_) (fun h=>?_)<;>try exact aA h)|fail
    exact dY (.refl _)
 ·simp only[zAb hk]at hkd ⊢
  by_cases hk2:k=2
  ·subst hk2
   simp only[zAU]at hkd
   repeat' first|(refine gS ?_;simp only[go_sem])|refine gA ?_|(refine gD (fun h=>?_) (fun h=>?_)<;>try exact aA h)|fail
   have htx:=aCO b4 (by omega)
   unfold yW at htx
   cases hx:pB b4 with
   |none=>
    simp only[hx]at htx
    repeat' first|(refine gS ?_;simp only[go_sem])|refine gA ?_|(refine gD (fun h=>?_) (fun h=>?_)<;>try exact aA h)|fail
    exact dY (.refl _)
   |some p=>
    obtain⟨t,b6⟩:=p
    simp only[hx]at htx
    have hl6:=pH hx
    have hok:=xA ⟨⟨c,r⟩,2,nd,0,[],t⟩ ⟨by simp only[zAE];omega,by simp only[zAE];omega⟩
    simp only[opA,zBd]at hok ⊢
    cases ho:opOk ⟨⟨c,r⟩,2,nd,0,[],t⟩with
    |true=>
     rw[ho]at hok
     repeat' first|(refine gS ?_;simp only[go_sem])|refine gA ?_|(refine gD (fun h=>?_) (fun h=>?_)<;>try exact aA h)|fail
     exact dY (.refl _)
    |false=>
     rw[ho]at hok
     repeat' first|(refine gS ?_;simp only[go_sem])|refine gA ?_|(refine gD (fun h=>?_) (fun h=>?_)<;>try exact aA h)|fail
     exact dY (.refl _)
  ·simp only[zAb hk2]at hkd
   repeat' first|(refine gS ?_;simp only[go_sem])|refine gA ?_|(refine gD (fun h=>?_) (fun h=>?_)<;>try exact aA h)|fail
   have htx:=aCO b4 (by omega)
   unfold yW at htx
   cases hx:pB b4 with
   |none=>
    simp only[hx]at htx
    repeat' first|(refine gS ?_;simp only[go_sem])|refine gA ?_|(refine gD (fun h=>?_) (fun h=>?_)<;>try exact aA h)|fail
    exact dY (.refl _)
   |some p=>
    obtain⟨t,b6⟩:=p
    simp only[hx]at htx
    have hl6:=pH hx
    have hok:=xA ⟨⟨c,r⟩,k,nd,0,[],t⟩ ⟨by simp only[zAE];omega,by simp only[zAE];omega⟩
    simp only[opA,zBd]at hok ⊢
    cases ho:opOk ⟨⟨c,r⟩,k,nd,0,[],t⟩with
    |true=>
     rw[ho]at hok
     repeat' first|(refine gS ?_;simp only[go_sem])|refine gA ?_|(refine gD (fun h=>?_) (fun h=>?_)<;>try exact aA h)|fail
     exact dY (.refl _)
    |false=>
     rw[ho]at hok
     repeat' first|(refine gS ?_;simp only[go_sem])|refine gA ?_|(refine gD (fun h=>?_) (fun h=>?_)<;>try exact aA h)|fail
     exact dY (.refl _)
theorem aKU(b:Txt)(hb:b.length≤1073741824)(H:AHeap):bD Tryz.prog 113 [.str b] H (aC1 b):=by
 refine fO Tryz.func113 ?_
 repeat' first|(refine gS ?_;simp only[go_sem])|refine gA ?_|fail
 refine gI 4 7 rfl ?_
 refine aH (ι:=List Opn×Txt×AHeap) (fun s=>[(0,.str s.2.1),(4,.osl 7 H.length (s.1.length+1) 0 s.1.length s.1.length)]) (fun s=>H++(.cells (s.1.length+1) (flA opA s.1)::s.2.2)) (fun s=>s.1.length+s.2.1.length≤b.length∧readO b=(readO s.2.1).map (s.1++·)) (fun s=>s.2.1.length) ([],b,[]) ⟨by simp,by simp⟩ ?_ rfl ?_
 ·simp[go_sem]
 rintro⟨acc,r,M⟩ ⟨hl,hr⟩
 simp only at hl hr ⊢
 unfold aC1
 obtain⟨G,hG⟩:∃G,H++(.cells (acc.length+1) (flA opA acc)::M)=G:=⟨_,rfl⟩
 rw[hG]
 have g0:hget G H.length=.cells (acc.length+1) (flA opA acc):=by rw[←hG];simp only[go_sem]
 have g1:=aR g0 trivial
 have g2:=eE g0 trivial
 have gs:∀X,aB G H.length X=H++(X::M):=fun X=>by rw[←hG];simp only[go_sem]
 by_cases hn:r=[]
 ·have hd:decide (r=[])=true:=zAd hn
  subst hn
  have hra:readO b=some acc:=by rw[hr];simp[readO,lN]
  rw[hra]
  repeat' first|(refine gS ?_;simp only[go_sem,hd])|refine gA ?_|(refine gD (fun h=>?_) (fun h=>?_)<;>try exact aA h)|fail
  exact⟨_,.tup [.sl false (acc.map opA),.int .i64 0],hG.symm,.tup _ _ rfl (aS (aNJ (zAh _) g0 rfl (fun _=>rfl) (fun x=>by simp only[go_sem])) (aS (.cl _ (.int _ _)) cI)),rfl⟩
 have hd:decide (r=[])=false:=eT hn
 have hot:=aKT r (by omega)
 unfold aC0 at hot
 rw[aFt hn]at hr
 cases ht:qN r with
 |none=>
  simp only[ht,opA]at hot
  rw[ht]at hr
  rw[show readO b=none from hr]
  repeat' first|(refine gS ?_;simp only[go_sem,hd])|refine gA ?_|(refine gD (fun h=>?_) (fun h=>?_)<;>try exact aA h)|fail
  exact aF2 hG (by simp only[go_sem]) (.refl _)
 |some p=>
  obtain⟨o,r2⟩:=p
  have hl2:=xX ht
  simp only[ht,opA]at hot
  have hrn:0<r.length:=List.length_pos_iff.2 hn
  have hq1:(∀e,e=AV.agg [.int .i64 o.at_.c,.int .i64 o.at_.r,.int .i64 o.kind,.int .i64 o.node,.int .i64 o.parent,.str o.name,.str o.data]→e.cells.length=7)=True:=zAI (fun e he=>by rw[he];rfl)
  have hl8:((acc.length+1) * 72≤140737488355328)=True:=zAI (by omega)
  have hfl:=bQ (enc:=opA) (s:=7) (fun _=>rfl) acc
  repeat' first|(refine gS ?_;simp only[go_sem,hd,hq1,hl8,hfl,g0,g1,g2])|refine gA ?_|(refine gD (fun h=>?_) (fun h=>?_)<;>try exact aA h)|fail
  refine⟨(acc++[o],r2,M++[.cells 0 (opA o).cells]),⟨by simp only[zAe,zAm,zAE];omega,?_⟩,hl2,?_⟩
  ·simp only
   rw[hr,ht]
   simp only[zBd,Option.map_map]
   congr 1
   funext l
   simp
  ·simp only[gs,zAe,zAm,zAE,fC,fD,vO,zAg,opA,AV.cells,zAu,zA1]
   refine⟨⟨?_,?_⟩,?_⟩<;>first|trivial|rfl
end Go.Proofs.YtolbeecicikoaaaGreatDoor
