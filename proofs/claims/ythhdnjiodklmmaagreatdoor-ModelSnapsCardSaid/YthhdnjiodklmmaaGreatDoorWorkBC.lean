/- The texts 29 of 51 beneath the rows of this seat (joined by program): the abstract machine, and what the functions answer. No condition. -/
import Derived.Test.YthhdnjiodklmmaaGreatDoorWorkAI
import Derived.Test.YthhdnjiodklmmaaGreatDoorWorkAO
import Derived.Test.YthhdnjiodklmmaaGreatDoorWorkAS
import Derived.Test.YthhdnjiodklmmaaGreatDoorWorkAV
import Derived.Test.YthhdnjiodklmmaaGreatDoorWorkAX
import Derived.Test.YthhdnjiodklmmaaGreatDoorWorkBB
set_option linter.unusedSimpArgs false
set_option linter.unusedVariables false
set_option linter.unusedSectionVars false
/- The desk where one call is done, ars two blocks of the heap; what is at a path; the stamp of an operation that is made; an operation is added. No condition but what is known of a replica. -/
namespace Go.Aw
open Go
theorem aK{P:Program}{g:Bool}{f:FuncId}{args:List AV}{H:AHeap}{x:AV}(h:cJ P f args H x)(ok:aB P f=true):jG P g (.func (.func f) [] []) args x H:=
 fun _=>Or.inl ⟨ok,by simp only[List.nil_append,List.append_nil];exact h⟩
theorem lE{G:AHeap}{i j n:Nat}(h1:i<G.length)(h2:j<G.length)(hne:i<j)(hn:G.length=n):
  (∀L X,aD (G++L) i X=aD G i X++L)∧(∀L X,aD (G++L) j X=aD G j X++L)∧(∀v X,hget (aD G i (.cells v X)) i=.cells v X)∧(∀v X L,hget (aD G i (.cells v X)++L) i=.cells v X)∧(∀X Y,aD (aD G i X) i Y=aD G i Y)∧
  (∀X Y L,aD (aD G i X++L) i Y=aD G i Y++L)∧(∀X Y,aD (aD G i X) j Y=aD (aD G j Y) i X)∧(∀X Y L,aD (aD G i X++L) j Y=aD (aD G j Y) i X++L)∧(∀v X Y L,hget (aD (aD G j Y) i (.cells v X)++L) i=.cells v X)∧
  (∀X v Y L,hget (aD (aD G j (.cells v Y)) i X++L) j=.cells v Y)∧(∀X Y Z L,aD (aD (aD G j Y) i X++L) i Z=aD (aD G j Y) i Z++L)∧(∀X Y Z L,aD (aD (aD G j Y) i X++L) j Z=aD (aD G j Z) i X++L)∧
  (∀X L,hget (aD G i X++L) n=L.getD 0 .gone)∧(∀X L k,hget (aD G i X++L) (n+k)=L.getD k .gone)∧(∀X Y L,hget (aD (aD G j Y) i X++L) n=L.getD 0 .gone)∧(∀X Y L k,hget (aD (aD G j Y) i X++L) (n+k)=L.getD k .gone)∧
  (∀X Y L,aD (aD G i X++L) n Y=aD G i X++L.set 0 Y)∧(∀X Y L k,aD (aD G i X++L) (n+k) Y=aD G i X++L.set k Y)∧(∀v Y L,hget (aD G j (.cells v Y)++L) j=.cells v Y)∧(∀X Y L,aD (aD G j Y++L) i X=aD (aD G j Y) i X++L)∧
  (∀L,hget (G++L) n=L.getD 0 .gone)∧(∀L k,hget (G++L) (n+k)=L.getD k .gone)∧(∀Y L,aD (G++L) n Y=G++L.set 0 Y)∧(∀Y L k,aD (G++L) (n+k) Y=G++L.set k Y):=by
 subst hn
 have n1:∀X,(aD G i X).length=G.length:=fun X=>aC _ _ _
 have n2:∀X Y,(aD (aD G j Y) i X).length=G.length:=fun X Y=>by rw[aC,aC]
 have n3:∀Y,(aD G j Y).length=G.length:=fun X=>aC _ _ _
 have ne:j≠i:=by omega
 refine⟨fun L X=>bS h1 L X,fun L X=>bS h2 L X,fun v X=>cV h1 _,fun v X L=>aH (b:=.cells v X) (cV h1 _) trivial L,fun X Y=>cZ _ _ _ _,fun X Y L=>?_,fun X Y=>?_,fun X Y L=>?_,fun v X Y L=>?_,fun X v Y L=>?_,fun X Y Z L=>?_,fun X Y Z L=>?_,
  fun X L=>uQ (n1 X),fun X L k=>?_,fun X Y L=>uQ (n2 X Y),fun X Y L k=>?_,fun X Y L=>aJp (n1 X) Y,fun X Y L k=>aCn (n1 X) Y,fun v Y L=>aH (b:=.cells v Y) (cV h2 _) trivial L,fun X Y L=>bS (by rw[n3];exact h1) L X,
  fun L=>jL _ _,fun L k=>pT _ _ _,fun Y L=>aBr _ _ _,fun Y L k=>zR _ _ _ _⟩
 ·rw[bS (by rw[n1];exact h1),cZ]
 ·rw[kT _ _ _ (by omega)]
 ·rw[bS (by rw[n1];exact h2),kT _ _ _ (by omega)]
 ·exact aH (b:=.cells v X) (cV (by rw[n3];exact h1) _) trivial L
 ·exact aH (b:=.cells v Y) (bB (cV h2 _) (by omega) _) trivial L
 ·rw[bS (by rw[n2];exact h1),cZ]
 ·rw[bS (by rw[n2];exact h2),kT (aD G j Y) _ _ (by omega),cZ]
 ·rw[←n1 X];exact pT _ _ _
 ·rw[←n2 X Y];exact pT _ _ _
end Go.Aw
namespace Go.Gw
open Go Go.Aw Go.Proofs.YthhdnjiodklmmaaGreatDoor
theorem aV7(k:Nat)(l:List Opn):∀x∈flA opA l,Cl k x:=fun x hx=>(pG (fun x=>by simp only[go_sem]) l x hx).cl k
def dkC(j:Nat)(c:Cal)(d:Dsk):List AV:=
 [.sl false (d.m.log.entries.map fX),.sl false (d.m.log.nodes.map ndA),.int .i64 d.m.seen,.int .i64 d.m.rep,.sl false (d.m.snaps.map hU),.sl false (d.m.watches.map dL),.int .i64 d.m.next,
  .int .i64 d.a.err,.str d.a.data,.sl false (d.a.names.map AV.str),.int .i64 d.a.n,.sl false (d.a.events.map gF),
  .int .i64 c.kind,.str c.path,.str c.to,.str c.data,.int .i64 c.n,.osl 7 j (d.ops.length+1) 0 d.ops.length d.ops.length]
structure KB (i j:Nat) (c:Cal) (d:Dsk) (G:AHeap):Prop where
 ne:i<j
 b1:hget G i=.cells 0 (dkC j c d)
 b2:hget G j=.cells (d.ops.length+1) (flA opA d.ops)
def nS(G:AHeap)(i j:Nat)(c:Cal)(d:Dsk):AHeap:=aD (aD G j (.cells (d.ops.length+1) (flA opA d.ops))) i (.cells 0 (dkC j c d))
theorem vG(G:AHeap)(i j:Nat)(c:Cal)(d:Dsk):(nS G i j c d).length=G.length:=by unfold nS;rw[aC,aC]
section
variable {i j:Nat} {c:Cal} {d:Dsk} {G:AHeap} (h:KB i j c d G)
include h
theorem KB.lt1:i<G.length:=bI h.b1 trivial
theorem KB.lt2:j<G.length:=bI h.b2 trivial
theorem KB.own:nS G i j c d=G:=by unfold nS;rw[gV h.b2 trivial,gV h.b1 trivial]
theorem KB.app(L:AHeap):KB i j c d (G++L):=⟨h.ne,aH h.b1 trivial L,aH h.b2 trivial L⟩
theorem KB.happ(d':Dsk)(L:AHeap):nS (G++L) i j c d'=nS G i j c d'++L:=by
 unfold nS
 rw[bS h.lt2,bS (by rw[aC];exact h.lt1)]
theorem KB.put(d':Dsk):KB i j c d' (nS G i j c d'):=by
 have hne:¬j=i:=by have:=h.ne;omega
 refine⟨h.ne,cV (by rw[aC];exact h.lt1) _,?_⟩
 unfold nS
 rw[kT _ _ _ hne]
 exact cV (by rw[aC];exact h.lt2) _
theorem KB.twice(d1 d2:Dsk):nS (nS G i j c d1) i j c d2=nS G i j c d2:=by
 have hne:¬j=i:=by have:=h.ne;omega
 unfold nS
 rw[kT (aD G j _) _ _ (fun e=>hne e.symm),cZ,cZ]
theorem KB.r3:∀X L,hget (aD G i X++L) j=.cells (d.ops.length+1) (flA opA d.ops):=fun X L=>aH (bB h.b2 (by have:=h.ne;omega) X) trivial L
theorem KB.r4:∀X,hget (aD G i X) j=.cells (d.ops.length+1) (flA opA d.ops):=fun X=>bB h.b2 (by have:=h.ne;omega) X
theorem KB.one{d':Dsk}(ho:d'.ops=d.ops):aD G i (.cells 0 (dkC j c d'))=nS G i j c d':=by
 unfold nS
 rw[ho,gV h.b2 trivial]
end
theorem wS(k:Nat)(b:Bool)(l:List Nd):Cl k (.sl b (l.map ndA)):=(Pur.sl b _ fun x hx=>by obtain⟨y, -,rfl⟩:=List.mem_map.1 hx;simp only[go_sem]).cl k
theorem wT(k:Nat)(b:Bool)(l:List Ent):Cl k (.sl b (l.map fX)):=(Pur.sl b _ fun x hx=>by obtain⟨y, -,rfl⟩:=List.mem_map.1 hx;simp only[go_sem]).cl k
theorem wU(k:Nat)(b:Bool)(l:List Snp):Cl k (.sl b (l.map hU)):=(Pur.sl b _ fun x hx=>by obtain⟨y, -,rfl⟩:=List.mem_map.1 hx;simp only[go_sem]).cl k
theorem wV(k:Nat)(b:Bool)(l:List Wch):Cl k (.sl b (l.map dL)):=(Pur.sl b _ fun x hx=>by obtain⟨y, -,rfl⟩:=List.mem_map.1 hx;simp only[go_sem]).cl k
theorem wW(k:Nat)(b:Bool)(l:List Txt):Cl k (.sl b (l.map AV.str)):=(Pur.sl b _ fun x hx=>by obtain⟨y, -,rfl⟩:=List.mem_map.1 hx;exact .str _).cl k
theorem wX(k:Nat)(b:Bool)(l:List Evt):Cl k (.sl b (l.map gF)):=(Pur.sl b _ fun x hx=>by obtain⟨y, -,rfl⟩:=List.mem_map.1 hx;simp only[gF,go_sem]).cl k
theorem aUs{n j:Nat}(hj:j<n)(c:Cal)(d:Dsk):ClB n (.cells 0 (dkC j c d)):=fun x hx=>by
 simp only[dkC,List.mem_cons,List.not_mem_nil,or_false]at hx
 rcases hx with rfl|rfl|rfl|rfl|rfl|rfl|rfl|rfl|rfl|rfl|rfl|rfl|rfl|rfl|rfl|rfl|rfl|rfl
 all_goals first|exact .int _ _|exact .str _|exact wT _ _ _|exact wS _ _ _|exact wU _ _ _|exact wV _ _ _|exact wW _ _ _|exact wX _ _ _|exact .osl _ _ _ _ _ _ hj
theorem lH{i j:Nat}{c:Cal}{d d':Dsk}{G A L:AHeap}(h:KB i j c d G){e:Int}{v:AV}(hv:v=.int .i64 e)(hA:A=nS G i j c d'):
  ∃H1 L' y,A++L=H1++L'∧H1.length=G.length∧(∀(k:Nat) (b:ABlk),H1[k]?=some b→G[k]?=some b∨ClB G.length b)∧Frz G.length (A++L) v y∧(y=.int .i64 e∧H1=nS G i j c d'):=by
 subst hv
 subst hA
 refine⟨_,L,_,rfl,vG _ _ _ _ _,fun k b hk=>?_,.cl _ (.int _ _),rfl,rfl⟩
 unfold nS at hk
 rcases mD (aUs h.lt2 c d') k b hk with hk|hk
 ·exact mD (aE1 (enc:=opA) (fun x=>by simp only[go_sem]) G.length (d'.ops.length+1) d'.ops) k b hk
 ·exact .inr hk
theorem cN{i j:Nat}{c:Cal}{d d':Dsk}{G A:AHeap}(h:KB i j c d G){e:Int}{v:AV}(hv:v=.int .i64 e)(hA:A=nS G i j c d'):
  ∃H1 L' y,A=H1++L'∧H1.length=G.length∧(∀(k:Nat) (b:ABlk),H1[k]?=some b→G[k]?=some b∨ClB G.length b)∧Frz G.length A v y∧(y=.int .i64 e∧H1=nS G i j c d'):=by
 have:=lH (L:=[]) h hv hA
 rwa[List.append_nil]at this
def vH(P:Program)(f:FuncId)(i j:Nat)(c:Cal)(r:Int×Dsk)(G:AHeap):Prop:=ACalls P f [.ref i 0 0] G (fun v H'=>v=.int .i64 r.1∧H'=nS G i j c r.2)
def aAV(o:Option (List Nd)):AV:=match o with
 |none=>.tup [.sl true [],.int .i64 191]
 |some l=>.tup [.sl false (l.map ndA),.int .i64 0]
def aHG(r:Int×Txt×Int):AV:=.tup [.int .i64 r.1,.str r.2.1,.int .i64 r.2.2]
structure DS (m:Mdl):Prop where
 nodes:m.log.nodes.length≤1000000
 ents:m.log.entries.length≤1000000
 ops:∀e∈m.log.entries,OpS e.op
 snaps:m.snaps.length≤1000000
 watches:m.watches.length≤1000000
 snap:∀s∈m.snaps,s.nodes.length≤1000000
 evs:∀w∈m.watches,w.evs.length≤1000000
end Go.Gw
namespace Go.Proofs.YthhdnjiodklmmaaGreatDoor
open Go Go.Aw Go.Gw
set_option linter.unusedSimpArgs false
set_option linter.unusedVariables false
set_option maxRecDepth 20000
set_option maxHeartbeats 4000000
def pI:List Pl:=[.free,.pure 0,.pure 0,.pure 0,.pure 0,.free,.pure 0,.pure 0,.pure 0,.pure 0,.pure 0,.free,.free,.free,.eff [true,true,true,true,true,true,true,true,true],.eff [false,false,false,false,false,false,false,false,false],.free]
def tR:List Pl:=[.free,.pure 0,.pure 0,.pure 0,.pure 0,.pure 0,.pure 0,.free,.free,.free,.eff [true,true,true,true,true,true],.eff [false,false,false,false,false,false],.free]
def tS:List Pl:=[.free,.free,.pure 0,.pure 0,.pure 0,.pure 0,.free,.eff [true,false,true,true],.pure 0,.pure 0,.eff [false,true,false,false,false]]
attribute [go_sem] pI tR tS
theorem aHH(b:Bool)(l:List Nd)(p:Txt)(hl:l.length≤1073741824)(hp:p.length≤1048576)(H:AHeap):cJ Tryz.prog 123 [.sl b (l.map ndA),.str p] H (sB (atN l p)):=by
 refine aL Tryz.func123 rfl (Nat.le_of_ble_eq_true rfl) ?_
 have hs:=aCv p hp
 unfold atN
 cases hn:dJ p with
 |none=>
  simp only[uR,hn]at hs
  have ct0:=ct hs eE;repeat' first|((first|refine gK ?_|refine gS ?_);simp only[go_sem])|refine gA ?_|(refine gD (fun h=>?_) (fun h=>?_)<;>try exact aA h)|fail
  exact aY (by simp only[go_sem]) (.refl _)
 |some ns=>
  simp only[uR,hn]at hs
  have hf:=aFU b (decide (p=[47])) l ns hl
  simp only[sB]at hf
  have ct0:=ct hs eE;have ct1:=ct hf fQ;repeat' first|((first|refine gK ?_|refine gS ?_);simp only[go_sem])|refine gA ?_|(refine gD (fun h=>?_) (fun h=>?_)<;>try exact aA h)|fail
  exact aY (by simp only[go_sem]) (.refl _)
theorem aN4(b:Bool)(l:List Nd)(p:Txt)(hl:l.length≤1073741824)(hp:p.length≤1048576)(H:AHeap):cJ Tryz.prog 119 [.sl b (l.map ndA),.str p] H (aHG (abvN l p)):=by
 refine aL Tryz.func119 rfl (Nat.le_of_ble_eq_true rfl) ?_
 have hs:=aCv p hp
 unfold abvN
 cases hn:dJ p with
 |none=>
  simp only[uR,hn]at hs
  have ct0:=ct hs eE;repeat' first|((first|refine gK ?_|refine gS ?_);simp only[go_sem])|refine gA ?_|(refine gD (fun h=>?_) (fun h=>?_)<;>try exact aA h)|fail
  exact aY (by simp only[go_sem]) (.refl _)
 |some ns=>
  simp only[uR,hn]at hs
  cases ns with
  |nil=>
   have ct0:=ct hs eE;repeat' first|((first|refine gK ?_|refine gS ?_);simp only[go_sem])|refine gA ?_|(refine gD (fun h=>?_) (fun h=>?_)<;>try exact aA h)|fail
   exact aY (by simp only[go_sem]) (.refl _)
  |cons x xs=>
   have hlen:=xR hn
   rw[List.length_cons]at hlen
   have hw:IntKind.i64.wrap (((xs.length+1:Nat):Int)-1)=(xs.length:Int):=by rw[wrap_i64 (by omega) (by omega)];omega
   have hb:((0:Int)≤(xs.length:Int)∧(xs.length:Int)≤((xs.length+1:Nat):Int))=True:=eq_true (by omega)
   have hd:decide (((xs.length+1:Nat):Int)=0)=false:=decide_eq_false (by omega)
   have hgd:(AV.str x::xs.map AV.str).getD xs.length .top=.str ((x::xs).getLast (by simp)):=by
    rw[←List.map_cons (f:=AV.str),bA AV.str (by simp),List.getLast_eq_getElem];simp
   have hlt:xs.length<xs.length+1:=Nat.lt_succ_self _
   have ht:List.take xs.length (AV.str x::xs.map AV.str)=((x::xs).dropLast).map AV.str:=by
    rw[←List.map_cons (f:=AV.str),←List.map_take,List.dropLast_eq_take];rfl
   obtain⟨⟨dir,e⟩,hr⟩:∃r,jX l (x::xs).dropLast=r:=⟨_,rfl⟩
   have hf:=fun f=>aFU b f l (x::xs).dropLast hl
   simp only[sB,hr]at hf
   have hdd:=uH dir
   by_cases he:e=0
   ·subst he
    simp only[if_true]
    cases hdi:dirI dir with
    |true=>
     rw[hdi]at hdd
     have ct0:=ct hs eE;have ct1:=ct hdd dA;repeat' first|((first|refine gK ?_|refine cK (ct (hf _) fQ) ?_|refine cP (ct (hf _) fQ) ?_|refine cM (ct (hf _) fQ) ?_|refine gS ?_);simp only[go_sem,hw,hb,hd,hgd,hlt,ht])|refine gA ?_|(refine gD (fun h=>?_) (fun h=>?_)<;>try exact aA h)|fail
     exact aY (by simp only[go_sem]) (.of (by simp[aHG,hr,hdi]))
    |false=>
     rw[hdi]at hdd
     have ct0:=ct hs eE;have ct1:=ct hdd dA;repeat' first|((first|refine gK ?_|refine cK (ct (hf _) fQ) ?_|refine cP (ct (hf _) fQ) ?_|refine cM (ct (hf _) fQ) ?_|refine gS ?_);simp only[go_sem,hw,hb,hd,hgd,hlt,ht])|refine gA ?_|(refine gD (fun h=>?_) (fun h=>?_)<;>try exact aA h)|fail
     exact aY (by simp only[go_sem]) (.of (by simp[aHG,hr,hdi]))
   ·have he':decide (e=0)=false:=decide_eq_false he
    simp only[if_neg he]
    have ct0:=ct hs eE;repeat' first|((first|refine gK ?_|refine cK (ct (hf _) fQ) ?_|refine cP (ct (hf _) fQ) ?_|refine cM (ct (hf _) fQ) ?_|refine gS ?_);simp only[go_sem,hw,hb,hd,hgd,hlt,ht,he'])|refine gA ?_|(refine gD (fun h=>?_) (fun h=>?_)<;>try exact aA h)|fail
    exact aY (by simp only[go_sem]) (.of (by simp[aHG,hr,he]))
theorem aGa(m:Mdl)(n:Int)(i:Nat)(cs:List AV)(hm:m.snaps.length≤1000000)(H:AHeap)(hh:hget H i=.cells 0 (.sl false (m.log.entries.map fX)::.sl false (m.log.nodes.map ndA)::.int .i64 m.seen::.int .i64 m.rep::.sl false (m.snaps.map hU)::cs)):
  cJ Tryz.prog 124 [.ref i 0 0,.int .i64 n] H (aAV (eG m n)):=by
 refine aL Tryz.func124 rfl (Nat.le_of_ble_eq_true rfl) ?_
 unfold eG
 by_cases h0:n=0
 ·have hd:decide (n=0)=true:=decide_eq_true h0
  rw[if_pos h0]
  repeat' first|(refine gS ?_;simp only[go_sem,hh,hd])|refine gA ?_|(refine gD (fun h=>?_) (fun h=>?_)<;>try exact aA h)|fail
  exact aY (by simp only[go_sem]) (.refl _)
 have hd:decide (n=0)=false:=decide_eq_false h0
 rw[if_neg h0]
 have h1:=aT hh trivial
 repeat' first|(refine gS ?_;simp only[go_sem,hh,hd])|refine gA ?_|(refine gD (fun h=>?_) (fun h=>?_)<;>try exact aA h)|fail
 refine aP (ι:=Nat×AHeap) (fun s=>[(1,.int .i64 n),(20,.sl false (m.snaps.map hU)),(21,.int .i64 m.snaps.length),(22,.int .i64 s.1)]) (fun s=>H++s.2) (fun s=>s.1≤m.snaps.length∧∀q (hk:q<s.1) (hk2:q<m.snaps.length),decide (m.snaps[q].n=n)=false) (fun s=>m.snaps.length-s.1) (0,[]) ⟨Nat.zero_le _,fun q hk=>by simp only at hk;omega⟩ ?_ (List.append_nil _).symm ?_
 ·simp[go_sem]
 rintro⟨k,L⟩ ⟨hk,hno⟩
 simp only at hk hno ⊢
 generalize hG:H++L=G
 by_cases hlt:k<m.snaps.length
 ·have hp:=bA hU hlt
  repeat' first|(refine gS ?_;simp only[go_sem,hp,hU,hlt])|refine gA ?_|(refine gD (fun h=>?_) (fun h=>?_)<;>try exact aA h)|fail
  ·have hf:m.snaps.find? (fun s=>decide (s.n=n))=some m.snaps[k]:=by
    rw[List.find?_eq_some_iff_getElem]
    exact⟨by assumption,k,hlt,rfl,fun q hq=>by rw[hno q hq (by omega)];rfl⟩
   rw[hf]
   exact aIC hG (by simp only[go_sem]) (.refl _)
  ·refine⟨(k+1,L++[.cells 0 (hU m.snaps[k]).cells]),⟨hlt,fun q hq hq2=>?_⟩,by simp only;omega,congrArg _ (bD hlt (by omega)),?_⟩
   ·by_cases e:q=k
    ·subst e;simpa using h
    ·have:=hno q (by simp only at hq;omega) hq2;simpa using this
   ·show G++[.cells 0 (hU m.snaps[k]).cells]=_
    rw[←hG,List.append_assoc]
 ·have hke:k=m.snaps.length:=by omega
  have hf:m.snaps.find? (fun s=>decide (s.n=n))=none:=by
   rw[List.find?_eq_none]
   intro s hs
   obtain⟨q,hq,rfl⟩:=List.mem_iff_getElem.1 hs
   rw[hno q (by omega) hq];simp
  rw[hf]
  repeat' first|(refine gS ?_;simp only[go_sem,hlt])|refine gA ?_|(refine gD (fun h=>?_) (fun h=>?_)<;>try exact aA h)|fail
  exact sI hG (by simp only[go_sem]) (.refl _)
theorem aCK(j:Nat)(c:Cal)(d:Dsk)(i:Nat)(hm:d.m.log.entries.length≤1000000)(H:AHeap)(hh:hget H i=.cells 0 (dkC j c d)):
  cJ Tryz.prog 120 [.ref i 0 0] H (.tup [stA (nextD d.m).1,.int .i64 (nextD d.m).2]):=by
 refine aL Tryz.func120 rfl (Nat.le_of_ble_eq_true rfl) ?_
 have h1:=aT hh trivial
 have hn:=aQD d.m.seen d.m.rep
 simp only[dkC]at hh h1
 unfold nextD
 unfold aJK at hn
 cases ho:nO d.m.seen d.m.rep with
 |false=>
  rw[ho,if_neg (by simp)]at hn
  rw[if_pos rfl]
  repeat' first|((first|refine aV (hn _) cI ?_|refine aW (hn _) cI ?_|refine aX (fun _=>hn _) cI ?_|refine mx [1] pI ?_|refine gS ?_);simp only[go_sem,hh,h1])|((with_reducible refine And.intro ?_ ?_);focus (exact aK (hn _) cI))|((with_reducible refine And.intro (And.intro ?_ ?_) ?_);focus (exact aK (hn _) cI))|(exact aK (hn _) cI)|refine gA ?_|(refine gD (fun h=>?_) (fun h=>?_)<;>try exact aA h)|fail
  exact done (by simp only[go_sem]) (.refl _)
 |true=>
  rw[ho,if_pos rfl]at hn
  rw[if_neg (by simp)]
  by_cases hl:(200:Int)≤(d.m.log.entries.length:Int)
  ·have hd:decide ((200:Int)≤(d.m.log.entries.length:Int))=true:=decide_eq_true hl
   rw[if_pos hl]
   repeat' first|((first|refine aV (hn _) cI ?_|refine aW (hn _) cI ?_|refine aX (fun _=>hn _) cI ?_|refine mx [1] pI ?_|refine gS ?_);simp only[go_sem,hh,h1,hd])|((with_reducible refine And.intro ?_ ?_);focus (exact aK (hn _) cI))|((with_reducible refine And.intro (And.intro ?_ ?_) ?_);focus (exact aK (hn _) cI))|(exact aK (hn _) cI)|refine gA ?_|(refine gD (fun h=>?_) (fun h=>?_)<;>try exact aA h)|fail
   exact done (by simp only[go_sem]) (.refl _)
  ·have hd:decide ((200:Int)≤(d.m.log.entries.length:Int))=false:=decide_eq_false hl
   rw[if_neg hl]
   repeat' first|((first|refine aV (hn _) cI ?_|refine aW (hn _) cI ?_|refine aX (fun _=>hn _) cI ?_|refine mx [1] pI ?_|refine gS ?_);simp only[go_sem,hh,h1,hd])|((with_reducible refine And.intro ?_ ?_);focus (exact aK (hn _) cI))|((with_reducible refine And.intro (And.intro ?_ ?_) ?_);focus (exact aK (hn _) cI))|(exact aK (hn _) cI)|refine gA ?_|(refine gD (fun h=>?_) (fun h=>?_)<;>try exact aA h)|fail
   exact done (by simp only[go_sem]) (.refl _)
theorem aKc{i j:Nat}{c:Cal}{d:Dsk}{G:AHeap}(hb:KB i j c d G)(hs:DS d.m){o:Opn}(ho:OpS o)(hl:d.ops.length≤1000000):
  ACalls Tryz.prog 143 [.ref i 0 0,opA o] G (fun v H'=>v=.int .i64 (mU d o).1∧H'=nS G i j c (mU d o).2):=by
 refine bJ Tryz.func143 rfl (Nat.le_of_ble_eq_true rfl) ?_
 have hm:=aJq false false d.m.log o ho hs.ops hs.nodes hs.ents
 have r0:=hb.b1;have r1:=aT hb.b1 trivial;have r2:=aT hb.b2 trivial;have hne:=hb.ne;have hl1:=hb.lt1;have hl2:=hb.lt2;have r3:=hb.r3;have r4:=hb.r4;have hnl:=aC G i;simp only[dkC]at r0 r1;have qs:=lE hl1 hl2 hne rfl
 simp only[aER,lgA,zW,opA]at hm
 unfold mU
 by_cases he:qD d.m.log o=0
 ·rw[if_pos he]
  rw[he]at hm
  have hq1:(∀e,e=AV.agg [.int .i64 o.at_.c,.int .i64 o.at_.r,.int .i64 o.kind,.int .i64 o.node,.int .i64 o.parent,.str o.name,.str o.data]→e.cells.length=7)=True:=eq_true (fun e he=>by rw[he];rfl)
  have hl8:((d.ops.length+1) * 72≤140737488355328)=True:=eq_true (by omega)
  have hfl:=eR (enc:=opA) (s:=7) (fun _=>rfl) d.ops
  repeat' first|((first|refine aV (hm _) dT ?_|refine aW (hm _) dT ?_|refine aX (fun _=>hm _) dT ?_|refine mx [1] tR ?_|refine mx [5] tS ?_|refine gS ?_);simp only[go_sem,opA,r0,r1,r2,r3,r4,hnl,qs,aC,hq1,hl8,hfl])|((with_reducible refine And.intro ?_ ?_);focus (exact aK (hm _) dT))|((with_reducible refine And.intro (And.intro ?_ ?_) ?_);focus (exact aK (hm _) dT))|(exact aK (hm _) dT)|refine gA ?_|(refine gD (fun h=>?_) (fun h=>?_)<;>try exact aA h)|fail
  refine lH hb rfl ?_
  unfold nS dkC
  simp[fN,gW,uY,opA,AV.cells]
 ·have hd:decide (qD d.m.log o=0)=false:=decide_eq_false he
  rw[if_neg he]
  repeat' first|((first|refine aV (hm _) dT ?_|refine aW (hm _) dT ?_|refine aX (fun _=>hm _) dT ?_|refine mx [1] tR ?_|refine mx [5] tS ?_|refine gS ?_);simp only[go_sem,opA,r0,r1,r2,r3,r4,hnl,qs,aC,hd])|((with_reducible refine And.intro ?_ ?_);focus (exact aK (hm _) dT))|((with_reducible refine And.intro (And.intro ?_ ?_) ?_);focus (exact aK (hm _) dT))|(exact aK (hm _) dT)|refine gA ?_|(refine gD (fun h=>?_) (fun h=>?_)<;>try exact aA h)|fail
  exact lH hb rfl hb.own.symm
theorem zB{i j:Nat}{c:Cal}{d:Dsk}{G:AHeap}(hb:KB i j c d G)(hs:DS d.m){o:Opn}(ho:OpS o)(hl:d.ops.length≤1000000):
  ACalls Tryz.prog 122 [.ref i 0 0,opA o] G (fun v H'=>v=.int .i64 (tL d o).1∧H'=nS G i j c (tL d o).2):=by
 refine bJ Tryz.func122 rfl (Nat.le_of_ble_eq_true rfl) ?_
 have r0:=hb.b1;have r1:=aT hb.b1 trivial;have r2:=aT hb.b2 trivial;have hne:=hb.ne;have hl1:=hb.lt1;have hl2:=hb.lt2;have r3:=hb.r3;have r4:=hb.r4;have hnl:=aC G i;simp only[dkC]at r0 r1;have qs:=lE hl1 hl2 hne rfl
 unfold tL
 obtain⟨s,e,hn⟩:∃s e,nextD d.m=(s,e):=⟨_,_,rfl⟩
 simp only[hn]
 have hnx:=fun L=>aCK j c d i (by have:=hs.ents;omega) (G++L) (hb.app L).b1
 simp only[hn,stA]at hnx
 by_cases he:e=0
 ·subst he
  rw[if_pos rfl]
  repeat' first|((first|refine aV (hnx _) eF ?_|refine aW (hnx _) eF ?_|refine aX (fun _=>hnx _) eF ?_|refine gS ?_);simp only[go_sem,opA])|refine gA ?_|(refine gD (fun h=>?_) (fun h=>?_)<;>try exact aA h)|fail
  obtain⟨L,hL⟩:∃L:AHeap,L=[.cells 0 [.int .i64 s.c,.int .i64 s.r,.int .i64 o.kind,.int .i64 o.node,.int .i64 o.parent,.str o.name,.str o.data],.cells 0 [.int .i64 s.c,.int .i64 s.r]]:=⟨_,rfl⟩
  rw[←hL]
  refine bE (aKc (hb.app L) hs (o:={o with at_:=s}) ho hl) aAc ?_
  rintro v H' ⟨rfl,rfl⟩
  rw[hb.happ]
  obtain⟨⟨x,d1⟩,hr⟩:∃r,mU d {o with at_:=s}=r:=⟨_,rfl⟩
  rw[hr]
  simp only
  obtain⟨G1,hG1⟩:∃G1,nS G i j c d1=G1:=⟨_,rfl⟩
  have hb1:KB i j c d1 G1:=hG1▸hb.put d1
  have hGl:G1.length=G.length:=by rw[←hG1,vG]
  have htw:∀d2,nS G1 i j c d2=nS G i j c d2:=fun d2=>by rw[←hG1,hb.twice]
  rw[hG1,hL]
  have r0:=hb1.b1;have r1:=aT hb1.b1 trivial;have r2:=aT hb1.b2 trivial;have hne:=hb1.ne;have hl1:=hb1.lt1;have hl2:=hb1.lt2;have r3:=hb1.r3;have r4:=hb1.r4;have hnl:=hGl;simp only[dkC]at r0 r1;have qs:=lE hl1 hl2 hne hGl
  simp only[go_sem]
  by_cases hx:x=0
  ·subst hx
   rw[if_pos rfl]
   repeat' first|(refine gS ?_;simp only[go_sem,r0,r1,r2,r3,r4,hnl,qs,aC])|refine gA ?_|(refine gD (fun h=>?_) (fun h=>?_)<;>try exact aA h)|fail
   refine lH hb rfl ?_
   rw[←htw]
   exact hb1.one (d':={d1 with m:={d1.m with seen:=s.c}}) rfl
  ·have hd:decide (x=0)=false:=decide_eq_false hx
   rw[if_neg hx]
   repeat' first|(refine gS ?_;simp only[go_sem,r0,r1,r2,r3,r4,hnl,qs,aC,hd])|refine gA ?_|(refine gD (fun h=>?_) (fun h=>?_)<;>try exact aA h)|fail
   exact lH hb rfl hG1.symm
 ·rw[if_neg he]
  have hd:decide (e=0)=false:=decide_eq_false he
  repeat' first|((first|refine aV (hnx _) eF ?_|refine aW (hnx _) eF ?_|refine aX (fun _=>hnx _) eF ?_|refine gS ?_);simp only[go_sem,opA,hd])|refine gA ?_|(refine gD (fun h=>?_) (fun h=>?_)<;>try exact aA h)|fail
  exact lH hb rfl hb.own.symm
end Go.Proofs.YthhdnjiodklmmaaGreatDoor
