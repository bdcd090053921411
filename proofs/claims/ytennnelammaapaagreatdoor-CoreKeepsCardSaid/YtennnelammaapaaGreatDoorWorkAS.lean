/- What the functions of this seat answer (19 of 38). No condition. -/
import Derived.Test.YtennnelammaapaaGreatDoorWorkAM
import Derived.Test.YtennnelammaapaaGreatDoorWorkAN
set_option linter.unusedSimpArgs false
set_option linter.unusedVariables false
set_option maxRecDepth 100000
set_option maxHeartbeats 16000000
namespace Go.Proofs.YtennnelammaapaaGreatDoor
def aEw(b:Txt):Option ((Int×Int×Int×Int)×Txt):=
 (cZ b).bind fun(c,b1)=>(cZ b1).bind fun(r,b2)=>(cZ b2).bind fun(k,b3)=>(cZ b3).bind fun(nd,b4)=>some ((c,r,k,nd),b4)
def aFU(b:Txt):AV:=match qR b with
 |none=>.tup [opA op0,.str [],.int .i64 50]
 |some (o,r)=>.tup [opA o,.str r,.int .i64 0]
def aFV(b:Txt):AV:=match readO b with
 |none=>.tup [.sl true [],.int .i64 50]
 |some l=>.tup [.sl false (l.map opA),.int .i64 0]
theorem oX{b t r:Txt}(h:rN b=some (t,r)):t.length≤b.length∧r.length<b.length:=by
 unfold rN at h;cases hv:cZ b with
 |none=>rw[hv]at h;cases h
 |some p=>
  obtain⟨n,s⟩:=p;rw[hv]at h;simp only at h;have:=fI hv;split at h
  ·cases h
  ·cases h;rw[zAL,zAX];omega
theorem aLq(b:Txt):qR b=(aEw b).bind fun((c,r,k,nd),b4)=>
  if k=1 then(cZ b4).bind fun(p,b5)=>(rN b5).bind fun(t,b6)=>if opOk ⟨⟨c,r⟩,k,nd,p,t,[]⟩=true then some (⟨⟨c,r⟩,k,nd,p,t,[]⟩,b6)else none
  else(rN b4).bind fun(t,b6)=>if opOk ⟨⟨c,r⟩,k,nd,0,[],t⟩=true then some (⟨⟨c,r⟩,k,nd,0,[],t⟩,b6)else none:=by
 unfold qR aEw;cases cZ b with
 |none=>rfl
 |some x=>
  simp only[zA6];cases cZ x.2 with
  |none=>rfl
  |some y=>
   simp only[zA6];cases cZ y.2 with
   |none=>rfl
   |some z=>
    simp only[zA6];cases cZ z.2<;>rfl
theorem yJ{b r:Txt}{o:Opn}(h:qR b=some (o,r)):r.length<b.length:=by
 unfold qR at h;simp only[zBm]at h;obtain⟨⟨c,b1⟩,h1,⟨rr,b2⟩,h2,⟨k,b3⟩,h3,⟨nd,b4⟩,h4,h⟩:=h;have l1:=fI h1;have l2:=fI h2;have l3:=fI h3;have l4:=fI h4;simp only at h l2 l3 l4;split at h
 ·simp only[zBm]at h;obtain⟨⟨p,b5⟩,h5,⟨t,b6⟩,h6,h⟩:=h;have l5:=fI h5;have l6:=(oX h6).2;simp only at h l6;split at h
  ·cases h;omega
  ·cases h
 ·simp only[zBm]at h;obtain⟨⟨t,b6⟩,h6,h⟩:=h;have l6:=(oX h6).2;simp only at h;split at h
  ·cases h;omega
  ·cases h
theorem aFW:∀(n k:Nat) (b:Txt),b.length≤n→b.length≤k→nL k b=nL b.length b:=by
 intro n;induction n with
 |zero=>intro k b h _;rw[zAE (by omega:b.length=0)];cases k<;>rfl
 |succ n ih=>
  intro k b h hk;cases b with
  |nil=>cases k<;>rfl
  |cons x b=>
   rw[zAc]at h hk;obtain⟨k,rfl⟩:∃m,k=m+1:=⟨k-1,by omega⟩
   rw[zAc,nL,nL,zAe (by simp),zAe (by simp)]
   cases ht:qR (x::b)with
   |none=>rfl
   |some p=>
    obtain⟨o,r⟩:=p;have:=yJ ht;rw[zAc]at this;simp only[zA6];rw[ih k r (by omega) (by omega),ih b.length r (by omega) (by omega)]
theorem aFX{b:Txt}(h:b≠[]):readO b=(qR b).bind fun(o,r)=>(readO r).map (o::·):=by
 cases b with
 |nil=>exact absurd rfl h
 |cons x b=>
  unfold readO;rw[zAc,nL,zAe (by simp)]
  cases ht:qR (x::b)with
  |none=>rfl
  |some p=>
   obtain⟨o,r⟩:=p;have:=yJ ht;rw[zAc]at this;simp only[zA6];rw[aFW _ b.length r (zAf _) (by omega)]
theorem aOP{α:Type}{enc:α→AV}{s n i v k lc:Nat}{H:AHeap}{D:List α}(hn:n≤i)(hh:hget H i=.cells v (flA enc D))(hk:D.length=k)(hs:∀x,(enc x).cells.length=s)(hp:∀x,Pur (enc x)):Frz n H (.osl s i v 0 k lc) (.sl false (D.map enc)):=
 iT (es:=D.map enc) (rest:=[]) hn hh (zAd _).symm (by rw[zAn,hk]) (fun e he=>by(obtain⟨x, -,rfl⟩:=zAm.1 he;exact hs x)) (fun e he=>by(obtain⟨x, -,rfl⟩:=zAm.1 he;exact hp x))
theorem aLr(b:Txt)(hb:b.length≤1073741824)(f:Bool)(i:Nat)(c0 c1 c2 c3 c5 c6:AV)(x:Int)(H:AHeap)(hh:hget H i=.cells 0 [c0,c1,c2,c3,.int .i64 x,c5,c6]):
  ACalls Tryz.prog 205 [.str b,.sl f [.ref i 0 4]] H (fun r H'=>(cZ b=none∧r=.tup [.str [],.bool false]∧H'=H)∨∃p rest,cZ b=some (p,rest)∧r=.tup [.str rest,.bool true]∧H'=aB H i (.cells 0 [c0,c1,c2,c3,.int .i64 p,c5,c6])):=by
 refine aW Tryz.func205 ?_;have hlt:=aV hh trivial;have s1:=fun b=>aX hlt b
 have s2:=bE H i;have w1:IntKind.i64.wrap (0+1)=1:=rfl;have ht:=aC6 b hb;unfold aBj at ht;repeat' first|(refine gS ?_;simp only[go_sem])|refine gA ?_|(refine gD ?_ ?_<;>intro h<;>try exact aA h)|fail
 refine fD 2 ?_;unfold fZ;cases h1:cZ b with
 |none=>
  simp only[h1]at ht;repeat' first|(refine gS ?_;simp only[go_sem,hh])|refine gA ?_|(refine gD ?_ ?_<;>intro h<;>try exact aA h)|fail
  first|trivial|exact .inl trivial|exact .inl ⟨rfl,rfl,rfl⟩
 |some p=>
  obtain⟨p,rest⟩:=p;simp only[h1]at ht;repeat' first|(refine gS ?_;simp only[go_sem,hh,s1,s2,w1])|refine gA ?_|(refine gD ?_ ?_<;>intro h<;>try exact aA h)|fail
  exact .inr ⟨p,rest,rfl,rfl,rfl⟩
theorem aLs(b:Txt)(hb:b.length≤1073741824)(f:Bool)(i:Nat)(c4 c5 c6:AV)(x0 x1 x2 x3:Int)(H:AHeap)(hh:hget H i=.cells 0 [.int .i64 x0,.int .i64 x1,.int .i64 x2,.int .i64 x3,c4,c5,c6]):
  ACalls Tryz.prog 205 [.str b,.sl f [.ref i 0 0,.ref i 0 1,.ref i 0 2,.ref i 0 3]] H (fun r H'=>(aEw b=none∧r=.tup [.str [],.bool false]∧∃X,H'=aB H i X)∨∃n0 n1 n2 n3 rest,aEw b=some ((n0,n1,n2,n3),rest)∧rest.length≤b.length∧r=.tup [.str rest,.bool true]∧H'=aB H i (.cells 0 [.int .i64 n0,.int .i64 n1,.int .i64 n2,.int .i64 n3,c4,c5,c6])):=by
 refine aW Tryz.func205 ?_;have hlt:=aV hh trivial;have s1:=fun b=>aX hlt b
 have s2:=bE H i;have w1:IntKind.i64.wrap (0+1)=1:=rfl;have w2:IntKind.i64.wrap (1+1)=2:=rfl;have w3:IntKind.i64.wrap (2+1)=3:=rfl;have w4:IntKind.i64.wrap (3+1)=4:=rfl;have own:=(cI hh trivial).symm;have hv:∀b:Txt,b.length≤1073741824→∀H,bH Tryz.prog 221 [.str b] H (aBj b):=fun b h=>aC6 b h
 unfold aBj at hv;unfold aEw;repeat' first|(refine gS ?_;simp only[go_sem])|refine gA ?_|(refine gD ?_ ?_<;>intro h<;>try exact aA h)|fail
 have ht:=hv b hb;refine fD 5 ?_;unfold fZ;cases h1:cZ b with
 |none=>
  simp only[h1]at ht;repeat' first|(refine gS ?_;simp only[go_sem,hh])|refine gA ?_|(refine gD ?_ ?_<;>intro h<;>try exact aA h)|fail
  first|exact .inl ⟨rfl,_,own⟩|exact .inl ⟨rfl,rfl,_,own⟩|exact .inl ⟨_,own⟩|exact⟨_,own⟩|fail "Q"
 |some p=>
  obtain⟨n0,b1⟩:=p;simp only[h1]at ht;have l1:=fI h1;repeat' first|(refine gS ?_;simp only[go_sem,hh,s1,s2,w1])|refine gA ?_|(refine gD ?_ ?_<;>intro h<;>try exact aA h)|fail
  have ht1:=hv b1 (by omega)
  cases h2:cZ b1 with
  |none=>
   simp only[h2]at ht1;repeat' first|(refine gS ?_;simp only[go_sem,s1,s2])|refine gA ?_|(refine gD ?_ ?_<;>intro h<;>try exact aA h)|fail
   first|exact .inl ⟨by simp[h2],rfl,_,rfl⟩|exact .inl ⟨by simp[h2],_,rfl⟩|exact .inl ⟨_,rfl⟩|fail "R"
  |some p=>
   obtain⟨n1,b2⟩:=p;simp only[h2]at ht1;have l2:=fI h2;repeat' first|(refine gS ?_;simp only[go_sem,s1,s2,w2])|refine gA ?_|(refine gD ?_ ?_<;>intro h<;>try exact aA h)|fail
   have ht2:=hv b2 (by omega)
   cases h3:cZ b2 with
   |none=>
    simp only[h3]at ht2;repeat' first|(refine gS ?_;simp only[go_sem,s1,s2])|refine gA ?_|(refine gD ?_ ?_<;>intro h<;>try exact aA h)|fail
    first|exact .inl ⟨by simp[h2,h3],rfl,_,rfl⟩|exact .inl ⟨by simp[h2,h3],_,rfl⟩|exact .inl ⟨_,rfl⟩|fail "R"
   |some p=>
    obtain⟨n2,b3⟩:=p;simp only[h3]at ht2;have l3:=fI h3;repeat' first|(refine gS ?_;simp only[go_sem,s1,s2,w3])|refine gA ?_|(refine gD ?_ ?_<;>intro h<;>try exact aA h)|fail
    have ht3:=hv b3 (by omega)
    cases h4:cZ b3 with
    |none=>
     simp only[h4]at ht3;repeat' first|(refine gS ?_;simp only[go_sem,s1,s2])|refine gA ?_|(refine gD ?_ ?_<;>intro h<;>try exact aA h)|fail
     first|exact .inl ⟨by simp[h2,h3,h4],rfl,_,rfl⟩|exact .inl ⟨by simp[h2,h3,h4],_,rfl⟩|exact .inl ⟨_,rfl⟩|fail "R"
    |some p=>
     obtain⟨n3,b4⟩:=p;simp only[h4]at ht3;have l4:=fI h4;repeat' first|(refine gS ?_;simp only[go_sem,s1,s2,w4])|refine gA ?_|(refine gD ?_ ?_<;>intro h<;>try exact aA h)|fail
     exact .inr ⟨n0,n1,n2,n3,b4,by simp[h2,h3,h4],by omega,rfl,rfl⟩
theorem aLt(b:Txt)(hb:b.length≤1073741824)(H:AHeap):bH Tryz.prog 189 [.str b] H (aFU b):=by
 refine fO Tryz.func189 ?_;unfold aFU;rw[aLq];repeat' first|(refine gS ?_;simp only[go_sem])|refine gA ?_|(refine gD ?_ ?_<;>intro h<;>try exact aA h)|fail
 refine aR (aLs b hb true (H.length+1) (.int .i64 0) (.str []) (.str []) 0 0 0 0 _ (by simp only[go_sem])) (cO) ?_
 rintro v H' (⟨h4,rfl,X,rfl⟩|⟨c,r,k,nd,b4,h4,hl4,rfl,rfl⟩)
 ·rw[h4];simp only[go_sem];repeat' first|(refine gS ?_;simp only[go_sem])|refine gA ?_|(refine gD ?_ ?_<;>intro h<;>try exact aA h)|fail
  exact dY (.refl _)
 rw[h4];simp only[go_sem,zA6];have hkd:=aDR ⟨⟨c,r⟩,k,nd,0,[],[]⟩;simp only[opA]at hkd;by_cases hk:k=1
 ·subst hk;simp only[zBc]at hkd ⊢;repeat' first|(refine gS ?_;simp only[go_sem])|refine gA ?_|(refine gD ?_ ?_<;>intro h<;>try exact aA h)|fail
  refine aR (aLr b4 (by omega) true (H.length+1) (.int .i64 c) (.int .i64 r) (.int .i64 1) (.int .i64 nd) (.str []) (.str []) 0 _ (by simp only[go_sem])) (cO) ?_
  rintro v H' (⟨h5,rfl,rfl⟩|⟨q,b5,h5,rfl,rfl⟩)
  ·rw[h5];simp only[go_sem];repeat' first|(refine gS ?_;simp only[go_sem])|refine gA ?_|(refine gD ?_ ?_<;>intro h<;>try exact aA h)|fail
   exact dY (.refl _)
  have hl5:=fI h5;rw[h5];simp only[go_sem,zA6];repeat' first|(refine gS ?_;simp only[go_sem])|refine gA ?_|(refine gD ?_ ?_<;>intro h<;>try exact aA h)|fail
  have htx:=aC7 b5 (by omega)
  unfold aEn at htx;cases hx:rN b5 with
  |none=>
   simp only[hx]at htx;repeat' first|(refine gS ?_;simp only[go_sem])|refine gA ?_|(refine gD ?_ ?_<;>intro h<;>try exact aA h)|fail
   exact dY (.refl _)
  |some p=>
   obtain⟨t,b6⟩:=p;simp only[hx]at htx;have hl6:=oX hx;have hok:=aA4 ⟨⟨c,r⟩,1,nd,q,t,[]⟩ ⟨by simp only[zAv];omega,by simp only[zAv];omega⟩
   simp only[opA,zA6]at hok ⊢;cases ho:opOk ⟨⟨c,r⟩,1,nd,q,t,[]⟩with
   |true=>
    rw[ho]at hok;repeat' first|(refine gS ?_;simp only[go_sem])|refine gA ?_|(refine gD ?_ ?_<;>intro h<;>try exact aA h)|fail
    exact dY (.refl _)
   |false=>
    rw[ho]at hok;repeat' first|(refine gS ?_;simp only[go_sem])|refine gA ?_|(refine gD ?_ ?_<;>intro h<;>try exact aA h)|fail
    exact dY (.refl _)
 ·simp only[zAe hk]at hkd ⊢;by_cases hk2:k=2
  ·subst hk2;simp only[zBc]at hkd;repeat' first|(refine gS ?_;simp only[go_sem])|refine gA ?_|(refine gD ?_ ?_<;>intro h<;>try exact aA h)|fail
   have htx:=aC7 b4 (by omega)
   unfold aEn at htx;cases hx:rN b4 with
   |none=>
    simp only[hx]at htx;repeat' first|(refine gS ?_;simp only[go_sem])|refine gA ?_|(refine gD ?_ ?_<;>intro h<;>try exact aA h)|fail
    exact dY (.refl _)
   |some p=>
    obtain⟨t,b6⟩:=p;simp only[hx]at htx;have hl6:=oX hx;have hok:=aA4 ⟨⟨c,r⟩,2,nd,0,[],t⟩ ⟨by simp only[zAv];omega,by simp only[zAv];omega⟩
    simp only[opA,zA6]at hok ⊢;cases ho:opOk ⟨⟨c,r⟩,2,nd,0,[],t⟩with
    |true=>
     rw[ho]at hok;repeat' first|(refine gS ?_;simp only[go_sem])|refine gA ?_|(refine gD ?_ ?_<;>intro h<;>try exact aA h)|fail
     exact dY (.refl _)
    |false=>
     rw[ho]at hok;repeat' first|(refine gS ?_;simp only[go_sem])|refine gA ?_|(refine gD ?_ ?_<;>intro h<;>try exact aA h)|fail
     exact dY (.refl _)
  ·simp only[zAe hk2]at hkd;repeat' first|(refine gS ?_;simp only[go_sem])|refine gA ?_|(refine gD ?_ ?_<;>intro h<;>try exact aA h)|fail
   have htx:=aC7 b4 (by omega)
   unfold aEn at htx;cases hx:rN b4 with
   |none=>
    simp only[hx]at htx;repeat' first|(refine gS ?_;simp only[go_sem])|refine gA ?_|(refine gD ?_ ?_<;>intro h<;>try exact aA h)|fail
    exact dY (.refl _)
   |some p=>
    obtain⟨t,b6⟩:=p;simp only[hx]at htx;have hl6:=oX hx;have hok:=aA4 ⟨⟨c,r⟩,k,nd,0,[],t⟩ ⟨by simp only[zAv];omega,by simp only[zAv];omega⟩
    simp only[opA,zA6]at hok ⊢;cases ho:opOk ⟨⟨c,r⟩,k,nd,0,[],t⟩with
    |true=>
     rw[ho]at hok;repeat' first|(refine gS ?_;simp only[go_sem])|refine gA ?_|(refine gD ?_ ?_<;>intro h<;>try exact aA h)|fail
     exact dY (.refl _)
    |false=>
     rw[ho]at hok;repeat' first|(refine gS ?_;simp only[go_sem])|refine gA ?_|(refine gD ?_ ?_<;>intro h<;>try exact aA h)|fail
     exact dY (.refl _)
theorem aLu(b:Txt)(hb:b.length≤1073741824)(H:AHeap):bH Tryz.prog 168 [.str b] H (aFV b):=by
 refine fO Tryz.func168 ?_;repeat' first|(refine gS ?_;simp only[go_sem])|refine gA ?_|fail
 refine jR 4 7 rfl ?_;refine aI (ι:=List Opn×Txt×AHeap) (fun s=>[(0,.str s.2.1),(4,.osl 7 H.length (s.1.length+1) 0 s.1.length s.1.length)]) (fun s=>H++(.cells (s.1.length+1) (flA opA s.1)::s.2.2)) (fun s=>s.1.length+s.2.1.length≤b.length∧readO b=(readO s.2.1).map (s.1++·)) (fun s=>s.2.1.length) ([],b,[]) ⟨by simp,by simp⟩ ?_ rfl ?_
 ·simp[go_sem]
 rintro⟨acc,r,M⟩ ⟨hl,hr⟩;simp only at hl hr ⊢;unfold aFV;obtain⟨G,hG⟩:∃G,H++(.cells (acc.length+1) (flA opA acc)::M)=G:=⟨_,rfl⟩;rw[hG];have g0:hget G H.length=.cells (acc.length+1) (flA opA acc):=by rw[←hG];simp only[go_sem]
 have g1:=aG g0 trivial;have g2:=cC g0 trivial;have gs:∀X,aB G H.length X=H++(X::M):=fun X=>by rw[←hG];simp only[go_sem]
 by_cases hn:r=[]
 ·have hd:decide (r=[])=true:=zAj hn;subst hn;have hra:readO b=some acc:=by rw[hr];simp[readO,nL]
  rw[hra];repeat' first|(refine gS ?_;simp only[go_sem,hd])|refine gA ?_|(refine gD ?_ ?_<;>intro h<;>try exact aA h)|fail
  exact⟨_,.tup [.sl false (acc.map opA),.int .i64 0],hG.symm,.tup _ _ rfl (aT (aOP (zAf _) g0 rfl (fun _=>rfl) (fun x=>by simp only[go_sem])) (aT (.cl _ (.int _ _)) bN)),rfl⟩
 have hd:decide (r=[])=false:=zAg hn;have hot:=aLt r (by omega)
 unfold aFU at hot;rw[aFX hn]at hr;cases ht:qR r with
 |none=>
  simp only[ht,opA]at hot;rw[ht]at hr;rw[show readO b=none from hr]
  repeat' first|(refine gS ?_;simp only[go_sem,hd])|refine gA ?_|(refine gD ?_ ?_<;>intro h<;>try exact aA h)|fail
  exact aJQ hG (by simp only[go_sem]) (.refl _)
 |some p=>
  obtain⟨o,r2⟩:=p;have hl2:=yJ ht;simp only[ht,opA]at hot;have hrn:0<r.length:=zBl.2 hn;have hq1:(∀e,e=AV.agg [.int .i64 o.at_.c,.int .i64 o.at_.r,.int .i64 o.kind,.int .i64 o.node,.int .i64 o.parent,.str o.name,.str o.data]→e.cells.length=7)=True:=zAC (fun e he=>by rw[he];rfl)
  have hl8:((acc.length+1) * 72≤140737488355328)=True:=zAC (by omega)
  have hfl:=aU (enc:=opA) (s:=7) (fun _=>rfl) acc
  repeat' first|(refine gS ?_;simp only[go_sem,hd,hq1,hl8,hfl,g0,g1,g2])|refine gA ?_|(refine gD ?_ ?_<;>intro h<;>try exact aA h)|fail
  refine⟨(acc++[o],r2,M++[.cells 0 (opA o).cells]),⟨by simp only[zAa,zAc,zAv];omega,?_⟩,hl2,?_⟩
  ·simp only;rw[hr,ht];simp only[zA6,Option.map_map];congr 1;funext l;simp
  ·simp only[gs,zAa,zAc,zAv,cB,fG,aC5,zAd,opA,AV.cells,zAr,zA0];refine⟨⟨?_,?_⟩,?_⟩<;>first|trivial|rfl
end Go.Proofs.YtennnelammaapaaGreatDoor
