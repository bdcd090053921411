/- The texts 31 of 51 beneath the rows of this seat (joined by program): the abstract machine, and what the functions answer. No condition. -/
import Derived.Test.YthhdnjiodklmmaaGreatDoorWorkAG
import Derived.Test.YthhdnjiodklmmaaGreatDoorWorkAX
import Derived.Test.YthhdnjiodklmmaaGreatDoorWorkAZ
set_option linter.unusedSimpArgs false
set_option linter.unusedVariables false
set_option linter.unusedSectionVars false
/- op.take, Take and Read: what they answer. No condition but the length of the bytes. -/
namespace Go.Gw
open Go Go.Aw Go.Proofs.YthhdnjiodklmmaaGreatDoor
def aDJ(b:Txt):Option ((Int×Int×Int×Int)×Txt):=
 (dP b).bind fun(c,b1)=>(dP b1).bind fun(r,b2)=>(dP b2).bind fun(k,b3)=>(dP b3).bind fun(nd,b4)=>some ((c,r,k,nd),b4)
def aFg(b:Txt):AV:=match pM b with
 |none=>.tup [opA op0,.str [],.int .i64 50]
 |some (o,r)=>.tup [opA o,.str r,.int .i64 0]
def aFh(b:Txt):AV:=match readO b with
 |none=>.tup [.sl true [],.int .i64 50]
 |some l=>.tup [.sl false (l.map opA),.int .i64 0]
theorem oK{b t r:Txt}(h:qO b=some (t,r)):t.length≤b.length∧r.length<b.length:=by
 unfold qO at h
 cases hv:dP b with
 |none=>rw[hv]at h;cases h
 |some p=>
  obtain⟨n,s⟩:=p
  rw[hv]at h
  simp only at h
  have:=fU hv
  split at h
  ·cases h
  ·cases h
   rw[List.length_take,List.length_drop]
   omega
theorem aKd(b:Txt):pM b=(aDJ b).bind fun((c,r,k,nd),b4)=>
  if k=1 then(dP b4).bind fun(p,b5)=>(qO b5).bind fun(t,b6)=>if opOk ⟨⟨c,r⟩,k,nd,p,t,[]⟩=true then some (⟨⟨c,r⟩,k,nd,p,t,[]⟩,b6)else none
  else(qO b4).bind fun(t,b6)=>if opOk ⟨⟨c,r⟩,k,nd,0,[],t⟩=true then some (⟨⟨c,r⟩,k,nd,0,[],t⟩,b6)else none:=by
 unfold pM aDJ
 cases dP b with
 |none=>rfl
 |some x=>
  simp only[Option.bind_some]
  cases dP x.2 with
  |none=>rfl
  |some y=>
   simp only[Option.bind_some]
   cases dP y.2 with
   |none=>rfl
   |some z=>
    simp only[Option.bind_some]
    cases dP z.2<;>rfl
theorem wY{b r:Txt}{o:Opn}(h:pM b=some (o,r)):r.length<b.length:=by
 unfold pM at h
 simp only[Option.bind_eq_some_iff]at h
 obtain⟨⟨c,b1⟩,h1,⟨rr,b2⟩,h2,⟨k,b3⟩,h3,⟨nd,b4⟩,h4,h⟩:=h
 have l1:=fU h1
 have l2:=fU h2
 have l3:=fU h3
 have l4:=fU h4
 simp only at h l2 l3 l4
 split at h
 ·simp only[Option.bind_eq_some_iff]at h
  obtain⟨⟨p,b5⟩,h5,⟨t,b6⟩,h6,h⟩:=h
  have l5:=fU h5
  have l6:=(oK h6).2
  simp only at h l6
  split at h
  ·cases h;omega
  ·cases h
 ·simp only[Option.bind_eq_some_iff]at h
  obtain⟨⟨t,b6⟩,h6,h⟩:=h
  have l6:=(oK h6).2
  simp only at h
  split at h
  ·cases h;omega
  ·cases h
theorem aFi:∀(n k:Nat) (b:Txt),b.length≤n→b.length≤k→nF k b=nF b.length b:=by
 intro n
 induction n with
 |zero=>intro k b h _;rw[List.eq_nil_of_length_eq_zero (by omega:b.length=0)];cases k<;>rfl
 |succ n ih=>
  intro k b h hk
  cases b with
  |nil=>cases k<;>rfl
  |cons x b=>
   rw[List.length_cons]at h hk
   obtain⟨k,rfl⟩:∃m,k=m+1:=⟨k-1,by omega⟩
   rw[List.length_cons,nF,nF,if_neg (by simp),if_neg (by simp)]
   cases ht:pM (x::b)with
   |none=>rfl
   |some p=>
    obtain⟨o,r⟩:=p
    have:=wY ht
    rw[List.length_cons]at this
    simp only[Option.bind_some]
    rw[ih k r (by omega) (by omega),ih b.length r (by omega) (by omega)]
theorem aFj{b:Txt}(h:b≠[]):readO b=(pM b).bind fun(o,r)=>(readO r).map (o::·):=by
 cases b with
 |nil=>exact absurd rfl h
 |cons x b=>
  unfold readO
  rw[List.length_cons,nF,if_neg (by simp)]
  cases ht:pM (x::b)with
  |none=>rfl
  |some p=>
   obtain⟨o,r⟩:=p
   have:=wY ht
   rw[List.length_cons]at this
   simp only[Option.bind_some]
   rw[aFi _ b.length r (Nat.le_refl _) (by omega)]
theorem aMJ{α:Type}{enc:α→AV}{s n i v k lc:Nat}{H:AHeap}{D:List α}(hn:n≤i)(hh:hget H i=.cells v (flA enc D))(hk:D.length=k)(hs:∀x,(enc x).cells.length=s)(hp:∀x,Pur (enc x)):Frz n H (.osl s i v 0 k lc) (.sl false (D.map enc)):=
 yM (es:=D.map enc) (rest:=[]) hn hh (List.append_nil _).symm (by rw[List.length_map,hk]) (fun e he=>by(obtain⟨x, -,rfl⟩:=List.mem_map.1 he;exact hs x)) (fun e he=>by(obtain⟨x, -,rfl⟩:=List.mem_map.1 he;exact hp x))
end Go.Gw
namespace Go.Proofs.YthhdnjiodklmmaaGreatDoor
open Go Go.Aw Go.Gw
set_option linter.unusedSimpArgs false
set_option linter.unusedVariables false
set_option maxRecDepth 20000
set_option maxHeartbeats 4000000
theorem aKe(b:Txt)(hb:b.length≤1073741824)(f:Bool)(i:Nat)(c0 c1 c2 c3 c5 c6:AV)(x:Int)(H:AHeap)(hh:hget H i=.cells 0 [c0,c1,c2,c3,.int .i64 x,c5,c6]):
  ACalls Tryz.prog 205 [.str b,.sl f [.ref i 0 4]] H (fun r H'=>(dP b=none∧r=.tup [.str [],.bool false]∧H'=H)∨∃p rest,dP b=some (p,rest)∧r=.tup [.str rest,.bool true]∧H'=aD H i (.cells 0 [c0,c1,c2,c3,.int .i64 p,c5,c6])):=by
 refine dH Tryz.func205 rfl (Nat.le_of_ble_eq_true rfl) ?_
 have hlt:=bI hh trivial
 have s1:=fun b=>cV hlt b
 have s2:=cZ H i
 have w1:IntKind.i64.wrap (0+1)=1:=rfl
 have ht:=aCC b hb
 unfold aAN at ht
 repeat' first|(refine gS ?_;simp only[go_sem])|refine gA ?_|(refine gD (fun h=>?_) (fun h=>?_)<;>try exact aA h)|fail
 refine wG 2 ?_
 unfold rJ
 cases h1:dP b with
 |none=>
  simp only[h1]at ht
  have ct0:=ct ht dU;repeat' first|((first|refine gK ?_|refine gS ?_);simp only[go_sem,hh])|refine gA ?_|(refine gD (fun h=>?_) (fun h=>?_)<;>try exact aA h)|fail
  first|trivial|exact .inl trivial|exact .inl ⟨rfl,rfl,rfl⟩
 |some p=>
  obtain⟨p,rest⟩:=p
  simp only[h1]at ht
  have ct0:=ct ht dU;repeat' first|((first|refine gK ?_|refine gS ?_);simp only[go_sem,hh,s1,s2,w1])|refine gA ?_|(refine gD (fun h=>?_) (fun h=>?_)<;>try exact aA h)|fail
  exact .inr ⟨p,rest,rfl,rfl,rfl⟩
theorem aKf(b:Txt)(hb:b.length≤1073741824)(f:Bool)(i:Nat)(c4 c5 c6:AV)(x0 x1 x2 x3:Int)(H:AHeap)(hh:hget H i=.cells 0 [.int .i64 x0,.int .i64 x1,.int .i64 x2,.int .i64 x3,c4,c5,c6]):
  ACalls Tryz.prog 205 [.str b,.sl f [.ref i 0 0,.ref i 0 1,.ref i 0 2,.ref i 0 3]] H (fun r H'=>(aDJ b=none∧r=.tup [.str [],.bool false]∧∃X,H'=aD H i X)∨∃n0 n1 n2 n3 rest,aDJ b=some ((n0,n1,n2,n3),rest)∧rest.length≤b.length∧r=.tup [.str rest,.bool true]∧H'=aD H i (.cells 0 [.int .i64 n0,.int .i64 n1,.int .i64 n2,.int .i64 n3,c4,c5,c6])):=by
 refine dH Tryz.func205 rfl (Nat.le_of_ble_eq_true rfl) ?_
 have hlt:=bI hh trivial
 have s1:=fun b=>cV hlt b
 have s2:=cZ H i
 have w1:IntKind.i64.wrap (0+1)=1:=rfl
 have w2:IntKind.i64.wrap (1+1)=2:=rfl
 have w3:IntKind.i64.wrap (2+1)=3:=rfl
 have w4:IntKind.i64.wrap (3+1)=4:=rfl
 have own:=(gV hh trivial).symm
 have hv:∀b:Txt,b.length≤1073741824→∀H,cJ Tryz.prog 234 [.str b] H (aAN b):=fun b h=>aCC b h
 unfold aAN at hv
 unfold aDJ
 have ht:=hv b hb
 repeat' first|(refine gS ?_;simp only[go_sem])|refine gA ?_|(refine gD (fun h=>?_) (fun h=>?_)<;>try exact aA h)|fail
 refine wG 5 ?_
 unfold rJ
 cases h1:dP b with
 |none=>
  simp only[h1]at ht
  have ct0:=ct ht dU;repeat' first|((first|refine gK ?_|refine gS ?_);simp only[go_sem,hh])|refine gA ?_|(refine gD (fun h=>?_) (fun h=>?_)<;>try exact aA h)|fail
  first|exact .inl ⟨rfl,_,own⟩|exact .inl ⟨rfl,rfl,_,own⟩|exact .inl ⟨_,own⟩|exact⟨_,own⟩|fail "Q"
 |some p=>
  obtain⟨n0,b1⟩:=p
  simp only[h1]at ht
  have l1:=fU h1
  have ht1:=hv b1 (by omega)
  have ct0:=ct ht dU;repeat' first|((first|refine gK ?_|refine gS ?_);simp only[go_sem,hh,s1,s2,w1])|refine gA ?_|(refine gD (fun h=>?_) (fun h=>?_)<;>try exact aA h)|fail
  cases h2:dP b1 with
  |none=>
   simp only[h2]at ht1
   have ct0:=ct ht1 dU;repeat' first|((first|refine gK ?_|refine gS ?_);simp only[go_sem,s1,s2])|refine gA ?_|(refine gD (fun h=>?_) (fun h=>?_)<;>try exact aA h)|fail
   first|exact .inl ⟨by simp[h2],rfl,_,rfl⟩|exact .inl ⟨by simp[h2],_,rfl⟩|exact .inl ⟨_,rfl⟩|fail "R"
  |some p=>
   obtain⟨n1,b2⟩:=p
   simp only[h2]at ht1
   have l2:=fU h2
   have ht2:=hv b2 (by omega)
   have ct0:=ct ht1 dU;repeat' first|((first|refine gK ?_|refine gS ?_);simp only[go_sem,s1,s2,w2])|refine gA ?_|(refine gD (fun h=>?_) (fun h=>?_)<;>try exact aA h)|fail
   cases h3:dP b2 with
   |none=>
    simp only[h3]at ht2
    have ct0:=ct ht2 dU;repeat' first|((first|refine gK ?_|refine gS ?_);simp only[go_sem,s1,s2])|refine gA ?_|(refine gD (fun h=>?_) (fun h=>?_)<;>try exact aA h)|fail
    first|exact .inl ⟨by simp[h2,h3],rfl,_,rfl⟩|exact .inl ⟨by simp[h2,h3],_,rfl⟩|exact .inl ⟨_,rfl⟩|fail "R"
   |some p=>
    obtain⟨n2,b3⟩:=p
    simp only[h3]at ht2
    have l3:=fU h3
    have ht3:=hv b3 (by omega)
    have ct0:=ct ht2 dU;repeat' first|((first|refine gK ?_|refine gS ?_);simp only[go_sem,s1,s2,w3])|refine gA ?_|(refine gD (fun h=>?_) (fun h=>?_)<;>try exact aA h)|fail
    cases h4:dP b3 with
    |none=>
     simp only[h4]at ht3
     have ct0:=ct ht3 dU;repeat' first|((first|refine gK ?_|refine gS ?_);simp only[go_sem,s1,s2])|refine gA ?_|(refine gD (fun h=>?_) (fun h=>?_)<;>try exact aA h)|fail
     first|exact .inl ⟨by simp[h2,h3,h4],rfl,_,rfl⟩|exact .inl ⟨by simp[h2,h3,h4],_,rfl⟩|exact .inl ⟨_,rfl⟩|fail "R"
    |some p=>
     obtain⟨n3,b4⟩:=p
     simp only[h4]at ht3
     have l4:=fU h4
     have ct0:=ct ht3 dU;repeat' first|((first|refine gK ?_|refine gS ?_);simp only[go_sem,s1,s2,w4])|refine gA ?_|(refine gD (fun h=>?_) (fun h=>?_)<;>try exact aA h)|fail
     exact .inr ⟨n0,n1,n2,n3,b4,by simp[h2,h3,h4],by omega,rfl,rfl⟩
theorem aKg(b:Txt)(hb:b.length≤1073741824)(H:AHeap):cJ Tryz.prog 177 [.str b] H (aFg b):=by
 refine aL Tryz.func177 rfl (Nat.le_of_ble_eq_true rfl) ?_
 unfold aFg
 rw[aKd]
 repeat' first|(refine gS ?_;simp only[go_sem])|refine gA ?_|(refine gD (fun h=>?_) (fun h=>?_)<;>try exact aA h)|fail
 refine bE (aKf b hb true (H.length+1) (.int .i64 0) (.str []) (.str []) 0 0 0 0 _ (by simp only[go_sem])) aAl ?_
 rintro v H' (⟨h4,rfl,X,rfl⟩|⟨c,r,k,nd,b4,h4,hl4,rfl,rfl⟩)
 ·rw[h4]
  simp only[go_sem]
  repeat' first|(refine gS ?_;simp only[go_sem])|refine gA ?_|(refine gD (fun h=>?_) (fun h=>?_)<;>try exact aA h)|fail
  exact done (by simp only[go_sem]) (.refl _)
 rw[h4]
 simp only[go_sem,Option.bind_some]
 have hkd:=aC8 ⟨⟨c,r⟩,k,nd,0,[],[]⟩
 simp only[opA]at hkd
 by_cases hk:k=1
 ·subst hk
  simp only[if_true]at hkd ⊢
  have ct0:=ct hkd kK;repeat' first|((first|refine gK ?_|refine gS ?_);simp only[go_sem])|refine gA ?_|(refine gD (fun h=>?_) (fun h=>?_)<;>try exact aA h)|fail
  refine bE (aKe b4 (by omega) true (H.length+1) (.int .i64 c) (.int .i64 r) (.int .i64 1) (.int .i64 nd) (.str []) (.str []) 0 _ (by simp only[go_sem])) aAl ?_
  rintro v H' (⟨h5,rfl,rfl⟩|⟨q,b5,h5,rfl,rfl⟩)
  ·rw[h5]
   simp only[go_sem]
   repeat' first|(refine gS ?_;simp only[go_sem])|refine gA ?_|(refine gD (fun h=>?_) (fun h=>?_)<;>try exact aA h)|fail
   exact done (by simp only[go_sem]) (.refl _)
  have hl5:=fU h5
  rw[h5]
  simp only[go_sem,Option.bind_some]
  repeat' first|(refine gS ?_;simp only[go_sem])|refine gA ?_|(refine gD (fun h=>?_) (fun h=>?_)<;>try exact aA h)|fail
  have htx:=aCD b5 (by omega)
  unfold aDy at htx
  cases hx:qO b5 with
  |none=>
   simp only[hx]at htx
   have ct0:=ct htx gP;repeat' first|((first|refine gK ?_|refine gS ?_);simp only[go_sem])|refine gA ?_|(refine gD (fun h=>?_) (fun h=>?_)<;>try exact aA h)|fail
   exact done (by simp only[go_sem]) (.refl _)
  |some p=>
   obtain⟨t,b6⟩:=p
   simp only[hx]at htx
   have hl6:=oK hx
   have hok:=wI ⟨⟨c,r⟩,1,nd,q,t,[]⟩ ⟨by simp only[List.length_nil];omega,by simp only[List.length_nil];omega⟩
   simp only[opA,Option.bind_some]at hok ⊢
   cases ho:opOk ⟨⟨c,r⟩,1,nd,q,t,[]⟩with
   |true=>
    rw[ho]at hok
    have ct0:=ct htx gP;have ct1:=ct hok cS;repeat' first|((first|refine gK ?_|refine gS ?_);simp only[go_sem])|refine gA ?_|(refine gD (fun h=>?_) (fun h=>?_)<;>try exact aA h)|fail
    exact done (by simp only[go_sem]) (.refl _)
   |false=>
    rw[ho]at hok
    have ct0:=ct htx gP;have ct1:=ct hok cS;repeat' first|((first|refine gK ?_|refine gS ?_);simp only[go_sem])|refine gA ?_|(refine gD (fun h=>?_) (fun h=>?_)<;>try exact aA h)|fail
    exact done (by simp only[go_sem]) (.refl _)
 ·simp only[if_neg hk]at hkd ⊢
  by_cases hk2:k=2
  ·subst hk2
   simp only[if_true]at hkd
   have ct0:=ct hkd kK;repeat' first|((first|refine gK ?_|refine gS ?_);simp only[go_sem])|refine gA ?_|(refine gD (fun h=>?_) (fun h=>?_)<;>try exact aA h)|fail
   have htx:=aCD b4 (by omega)
   unfold aDy at htx
   cases hx:qO b4 with
   |none=>
    simp only[hx]at htx
    have ct0:=ct htx gP;repeat' first|((first|refine gK ?_|refine gS ?_);simp only[go_sem])|refine gA ?_|(refine gD (fun h=>?_) (fun h=>?_)<;>try exact aA h)|fail
    exact done (by simp only[go_sem]) (.refl _)
   |some p=>
    obtain⟨t,b6⟩:=p
    simp only[hx]at htx
    have hl6:=oK hx
    have hok:=wI ⟨⟨c,r⟩,2,nd,0,[],t⟩ ⟨by simp only[List.length_nil];omega,by simp only[List.length_nil];omega⟩
    simp only[opA,Option.bind_some]at hok ⊢
    cases ho:opOk ⟨⟨c,r⟩,2,nd,0,[],t⟩with
    |true=>
     rw[ho]at hok
     have ct0:=ct htx gP;have ct1:=ct hok cS;repeat' first|((first|refine gK ?_|refine gS ?_);simp only[go_sem])|refine gA ?_|(refine gD (fun h=>?_) (fun h=>?_)<;>try exact aA h)|fail
     exact done (by simp only[go_sem]) (.refl _)
    |false=>
     rw[ho]at hok
     have ct0:=ct htx gP;have ct1:=ct hok cS;repeat' first|((first|refine gK ?_|refine gS ?_);simp only[go_sem])|refine gA ?_|(refine gD (fun h=>?_) (fun h=>?_)<;>try exact aA h)|fail
     exact done (by simp only[go_sem]) (.refl _)
  ·simp only[if_neg hk2]at hkd
   have ct0:=ct hkd kK;repeat' first|((first|refine gK ?_|refine gS ?_);simp only[go_sem])|refine gA ?_|(refine gD (fun h=>?_) (fun h=>?_)<;>try exact aA h)|fail
   have htx:=aCD b4 (by omega)
   unfold aDy at htx
   cases hx:qO b4 with
   |none=>
    simp only[hx]at htx
    have ct0:=ct htx gP;repeat' first|((first|refine gK ?_|refine gS ?_);simp only[go_sem])|refine gA ?_|(refine gD (fun h=>?_) (fun h=>?_)<;>try exact aA h)|fail
    exact done (by simp only[go_sem]) (.refl _)
   |some p=>
    obtain⟨t,b6⟩:=p
    simp only[hx]at htx
    have hl6:=oK hx
    have hok:=wI ⟨⟨c,r⟩,k,nd,0,[],t⟩ ⟨by simp only[List.length_nil];omega,by simp only[List.length_nil];omega⟩
    simp only[opA,Option.bind_some]at hok ⊢
    cases ho:opOk ⟨⟨c,r⟩,k,nd,0,[],t⟩with
    |true=>
     rw[ho]at hok
     have ct0:=ct htx gP;have ct1:=ct hok cS;repeat' first|((first|refine gK ?_|refine gS ?_);simp only[go_sem])|refine gA ?_|(refine gD (fun h=>?_) (fun h=>?_)<;>try exact aA h)|fail
     exact done (by simp only[go_sem]) (.refl _)
    |false=>
     rw[ho]at hok
     have ct0:=ct htx gP;have ct1:=ct hok cS;repeat' first|((first|refine gK ?_|refine gS ?_);simp only[go_sem])|refine gA ?_|(refine gD (fun h=>?_) (fun h=>?_)<;>try exact aA h)|fail
     exact done (by simp only[go_sem]) (.refl _)
theorem aKh(b:Txt)(hb:b.length≤1073741824)(H:AHeap):cJ Tryz.prog 139 [.str b] H (aFh b):=by
 refine aL Tryz.func139 rfl (Nat.le_of_ble_eq_true rfl) ?_
 repeat' first|(refine gS ?_;simp only[go_sem])|refine gA ?_|fail
 refine oP 4 7 rfl ?_
 refine aP (ι:=List Opn×Txt×AHeap) (fun s=>[(0,.str s.2.1),(4,.osl 7 H.length (s.1.length+1) 0 s.1.length s.1.length)]) (fun s=>H++(.cells (s.1.length+1) (flA opA s.1)::s.2.2)) (fun s=>s.1.length+s.2.1.length≤b.length∧readO b=(readO s.2.1).map (s.1++·)) (fun s=>s.2.1.length) ([],b,[]) ⟨by simp,by simp⟩ ?_ rfl ?_
 ·simp[go_sem]
 rintro⟨acc,r,M⟩ ⟨hl,hr⟩
 simp only at hl hr ⊢
 unfold aFh
 obtain⟨G,hG⟩:∃G,H++(.cells (acc.length+1) (flA opA acc)::M)=G:=⟨_,rfl⟩
 rw[hG]
 have g0:hget G H.length=.cells (acc.length+1) (flA opA acc):=by rw[←hG];simp only[go_sem]
 have g1:=aT g0 trivial
 have g2:=fM g0 trivial
 have gs:∀X,aD G H.length X=H++(X::M):=fun X=>by rw[←hG];simp only[go_sem]
 by_cases hn:r=[]
 ·have hd:decide (r=[])=true:=decide_eq_true hn
  subst hn
  have hra:readO b=some acc:=by rw[hr];simp[readO,nF]
  rw[hra]
  repeat' first|(refine gS ?_;simp only[go_sem,hd])|refine gA ?_|(refine gD (fun h=>?_) (fun h=>?_)<;>try exact aA h)|fail
  exact⟨_,.tup [.sl false (acc.map opA),.int .i64 0],hG.symm,.tup _ _ rfl (dW (aMJ (Nat.le_refl _) g0 rfl (fun _=>rfl) (fun x=>by simp only[go_sem])) (dW (.cl _ (.int _ _)) gQ)),rfl⟩
 have hd:decide (r=[])=false:=decide_eq_false hn
 have hot:=aKg r (by omega)
 unfold aFg at hot
 rw[aFj hn]at hr
 cases ht:pM r with
 |none=>
  simp only[ht,opA]at hot
  rw[ht]at hr
  rw[show readO b=none from hr]
  have ct0:=ct hot aAi;repeat' first|((first|refine gK ?_|refine gS ?_);simp only[go_sem,hd])|refine gA ?_|(refine gD (fun h=>?_) (fun h=>?_)<;>try exact aA h)|fail
  exact aIC hG (by simp only[go_sem]) (.refl _)
 |some p=>
  obtain⟨o,r2⟩:=p
  have hl2:=wY ht
  simp only[ht,opA]at hot
  have hrn:0<r.length:=List.length_pos_iff.2 hn
  have hq1:(∀e,e=AV.agg [.int .i64 o.at_.c,.int .i64 o.at_.r,.int .i64 o.kind,.int .i64 o.node,.int .i64 o.parent,.str o.name,.str o.data]→e.cells.length=7)=True:=eq_true (fun e he=>by rw[he];rfl)
  have hl8:((acc.length+1) * 72≤140737488355328)=True:=eq_true (by omega)
  have hfl:=eR (enc:=opA) (s:=7) (fun _=>rfl) acc
  have ct0:=ct hot aAi;repeat' first|((first|refine gK ?_|refine gS ?_);simp only[go_sem,hd,hq1,hl8,hfl,g0,g1,g2])|refine gA ?_|(refine gD (fun h=>?_) (fun h=>?_)<;>try exact aA h)|fail
  refine⟨(acc++[o],r2,M++[.cells 0 (opA o).cells]),⟨by simp only[List.length_append,List.length_cons,List.length_nil];omega,?_⟩,hl2,?_⟩
  ·simp only
   rw[hr,ht]
   simp only[Option.bind_some,Option.map_map]
   congr 1
   funext l
   simp
  ·simp only[gs,List.length_append,List.length_cons,List.length_nil,fN,gW,uY,List.append_nil,opA,AV.cells,List.append_assoc,List.cons_append]
   refine⟨⟨?_,?_⟩,?_⟩<;>first|trivial|rfl
end Go.Proofs.YthhdnjiodklmmaaGreatDoor
