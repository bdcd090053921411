/- The texts 14 of 53 beneath the rows of this seat (joined by program): the abstract machine, and what the functions answer. No condition. -/
import Derived.Test.YtolbeecicikoaaaGreatDoorWorkAE
import Derived.Test.YtolbeecicikoaaaGreatDoorWorkAG
import Derived.Test.YtolbeecicikoaaaGreatDoorWorkAH
import Derived.Test.YtolbeecicikoaaaGreatDoorWorkAI
import Derived.Test.YtolbeecicikoaaaGreatDoorWorkAJ
import Derived.Test.YtolbeecicikoaaaGreatDoorWorkAL
import Derived.Lib.MapLaws
import Derived.Sort.AssemblyPlain
set_option linter.unusedSimpArgs false
set_option linter.unusedVariables false
set_option linter.unusedSectionVars false
set_option maxRecDepth 100000
set_option maxHeartbeats 16000000
namespace Go.Proofs.YtolbeecicikoaaaGreatDoor
theorem bK(H:AHeap)(i:Nat)(b:ABlk):(aB H i b).length=H.length:=by simp[aB]
theorem aP{H:AHeap}{i j:Nat}(h:i≠j)(b:ABlk):hget (aB H i b) j=hget H j:=by
 simp only[hget,aB,zAs];rw[zAW h]
theorem bU{H:AHeap}{i:Nat}(h:i<H.length)(b:ABlk):hget (aB H i b) i=b:=by
 simp only[hget,aB,zAs];rw[zA4 h];rfl
theorem vH{G L:AHeap}{n k:Nat}(h:G.length=n):hget (G++L) (n+k)=L.getD k .gone:=by subst h;exact rA _ _ _
theorem lK{G L:AHeap}{n:Nat}(h:G.length=n):hget (G++L) n=L.getD 0 .gone:=by subst h;exact jO _ _
theorem aCA{G L:AHeap}{n k:Nat}(h:G.length=n)(b:ABlk):aB (G++L) (n+k) b=G++L.set k b:=by subst h;exact aAp _ _ _ _
theorem aJ1{G L:AHeap}{n:Nat}(h:G.length=n)(b:ABlk):aB (G++L) n b=G++L.set 0 b:=by subst h;exact aBz _ _ _
theorem aDM(es:List Ent)(e:Ent):((es++[e]).map dM).flatMap AV.cells=(es.map dM).flatMap AV.cells++(dM e).cells:=by
 rw[zBa,zA0];simp
theorem aQ2(b:Bool)(es:List Ent)(n:List Nd)(o:Opn)(hs:OpS o)(hl:n.length≤1000000000)(he:es.length≤1000000)(H:AHeap)(i j:Nat)(hij:i≠j)
  (hi:hget H i=.cells 0 [.sl b (n.map ndA)]) (hj:hget H j=.cells 0 [.sl true (es.map dM)]):
  ACalls Tryz.prog 138 [opA o,.ref i 0 0,.ref j 0 0] H (fun x H'=>x=.tup []∧
   ∃b0 b1,H'=aB (aB H i (.cells 0 [.sl false ((jQ n o).map ndA)])) j (.cells 0 [.osl 17 (H.length+2) 1 0 (es.length+1) (es.length+1)])++([b0,b1,.cells 1 (((es++[(⟨o,qW n o⟩:Ent)]).map dM).flatMap AV.cells)]:AHeap)):=by
 refine aW Tryz.func138 ?_
 have hdo:=aUc b n o hs hl
 have hi2:=fun L=>aG hi trivial L
 have hi3:i<H.length:=aU hi trivial
 have hj3:j<H.length:=aU hj trivial
 have f1:=fun L b=>bE hi3 L b
 have f2:=fun b=>bK H i b
 have f3:∀L b k,hget (aB H i b++L) (H.length+k)=L.getD k .gone:=fun L b k=>vH (bK H i b)
 have f30:∀L b,hget (aB H i b++L) H.length=L.getD 0 .gone:=fun L b=>lK (bK H i b)
 have f4:∀L b k b',aB (aB H i b++L) (H.length+k) b'=aB H i b++L.set k b':=fun L b k b'=>aCA (bK H i b) b'
 have f5:∀L b,hget (aB H i b++L) j=.cells 0 [.sl true (es.map dM)]:=fun L b=>aG ((aP hij b).trans hj) trivial L
 have f6:∀L b b',aB (aB H i b++L) j b'=aB (aB H i b) j b'++L:=fun L b b'=>bE (by rw[bK];exact hj3) L b'
 have ec:=aDM es ⟨o,qW n o⟩
 have hcl:=iT es
 simp only[opA,unA]at hdo ⊢
 repeat' first|(refine gS ?_;simp only[go_sem,hi,hj,hi2,f1,f2,f3,f30,f4,f5,f6,hcl])|refine gA ?_|(refine gD (fun h=>?_) (fun h=>?_)<;>try exact aA h)|fail
 rw[ec]
 exact⟨⟨.inr trivial,fun e he=>by rw[he];rfl,by omega⟩,_,_,rfl⟩
theorem aQ3(b:Bool)(es:List Ent)(n:List Nd)(o:Opn)(hs:OpS o)(hl:n.length≤1000000000)(he:es.length≤1000000)(H:AHeap)(i j k v:Nat)(hij:i≠j)(hik:i≠k)(hjk:j≠k)(hv:v≠0)
  (hi:hget H i=.cells 0 [.sl b (n.map ndA)]) (hj:hget H j=.cells 0 [.osl 17 k v 0 es.length es.length]) (hk:hget H k=.cells v ((es.map dM).flatMap AV.cells)):
  ACalls Tryz.prog 138 [opA o,.ref i 0 0,.ref j 0 0] H (fun x H'=>x=.tup []∧
   ∃b0 b1,H'=aB (aB (aB H i (.cells 0 [.sl false ((jQ n o).map ndA)])) k (.cells (v+1) (((es++[(⟨o,qW n o⟩:Ent)]).map dM).flatMap AV.cells))) j (.cells 0 [.osl 17 k (v+1) 0 (es.length+1) (es.length+1)])++([b0,b1]:AHeap)):=by
 refine aW Tryz.func138 ?_
 have hdo:=aUc b n o hs hl
 have hi2:=fun L=>aG hi trivial L
 have hi3:i<H.length:=aU hi trivial
 have hj3:j<H.length:=aU hj trivial
 have hk3:k<H.length:=aU hk trivial
 have f1:=fun L b=>bE hi3 L b
 have f2:=fun b=>bK H i b
 have f3:∀L b k,hget (aB H i b++L) (H.length+k)=L.getD k .gone:=fun L b k=>vH (bK H i b)
 have f30:∀L b,hget (aB H i b++L) H.length=L.getD 0 .gone:=fun L b=>lK (bK H i b)
 have f4:∀L b k b',aB (aB H i b++L) (H.length+k) b'=aB H i b++L.set k b':=fun L b k b'=>aCA (bK H i b) b'
 have f5:∀L b,hget (aB H i b++L) j=.cells 0 [.osl 17 k v 0 es.length es.length]:=fun L b=>aG ((aP hij b).trans hj) trivial L
 have f6:∀L b,hget (aB H i b++L) k=.cells v ((es.map dM).flatMap AV.cells):=fun L b=>aG ((aP hik b).trans hk) trivial L
 have f7:∀L b b',aB (aB H i b++L) k b'=aB (aB H i b) k b'++L:=fun L b b'=>bE (by rw[bK];exact hk3) L b'
 have f8:∀L b b' b'',aB (aB (aB H i b) k b'++L) j b''=aB (aB (aB H i b) k b') j b''++L:=fun L b b' b''=>bE (by rw[bK,bK];exact hj3) L b''
 have f9:∀L b b',hget (aB (aB H i b) k b'++L) j=.cells 0 [.osl 17 k v 0 es.length es.length]:=fun L b b'=>aG ((aP hjk.symm b').trans ((aP hij b).trans hj)) trivial L
 have ec:=aDM es ⟨o,qW n o⟩
 have hcl:=iT es
 have hfl:(List.flatMap AV.cells (es.map dM)).length=es.length * 17:=(rC (jD es)).trans (by rw[zAj])
 simp only[opA,unA]at hdo ⊢
 repeat' first|(refine gS ?_;simp only[go_sem,hi,hj,hi2,f1,f2,f3,f30,f4,f5,f6,f7,f8,f9,hcl,hfl,hv])|refine gA ?_|(refine gD (fun h=>?_) (fun h=>?_)<;>try exact aA h)|fail
 rw[ec]
 exact⟨⟨fun e he=>by rw[he];rfl,by omega⟩,_,_,rfl⟩
end Go.Proofs.YtolbeecicikoaaaGreatDoor
namespace Go.Proofs.YtolbeecicikoaaaGreatDoor
variable {P:Program}
def aE0{ι:Type}(F:ι→AF)(Hp:ι→AHeap)(pre:ι→Prop)(Q:bI):bI
 |.normal,α,H=>∃y,pre y∧aDo (F y) α∧H=Hp y
 |e,α,H=>Q e α H
section
variable {ι:Type} (F:ι→AF) (Hp:ι→AHeap) (pre:ι→Prop) (Q:bI) (α:AF) (H:AHeap)
@[go_sem] theorem aPe:aE0 F Hp pre Q .normal α H=∃y,pre y∧aDo (F y) α∧H=Hp y:=rfl
@[go_sem] theorem aS4(i:Nat):aE0 F Hp pre Q (.exit i) α H=Q (.exit i) α H:=rfl
@[go_sem] theorem aUe:aE0 F Hp pre Q .ret α H=Q .ret α H:=rfl
end
theorem xG{N:Nat}{x y:Code}{Q:bI}{α:AF}{H:AHeap}{ι:Type}(F:ι→AF)(Hp:ι→AHeap)(pre:ι→Prop)(h1:aw P N x (aE0 F Hp pre Q) α H)(h2:∀i,pre i→aw P N y Q (F i) (Hp i)):aw P N (.seq x y) Q α H:=by
 refine aAe (zQ h1 fun e α' H' h=>?_)
 cases e with
 |normal=>
  obtain⟨i,hp,hs,rfl⟩:=h
  exact sF (h2 i hp) (kU hs)
 |_=>exact h
theorem dB{N id:Nat}{x y:Code}{Q:bI}{α:AF}{H:AHeap}{ι:Type}(F:ι→AF)(Hp:ι→AHeap)(pre:ι→Prop)(h1:aw P N x (pJ id (aE0 F Hp pre Q)) α H)(h2:∀i,pre i→aw P N y Q (F i) (Hp i)):aw P N x (pJ id (aAd P N y Q)) α H:=by
 refine zQ h1 fun e α' H' h=>?_
 have key:aE0 F Hp pre Q .normal α' H'→aAd P N y Q .normal α' H':=fun⟨i,hp,hs,hH⟩=>by subst hH;exact sF (h2 i hp) (kU hs)
 cases e with
 |normal=>exact key h
 |exit i=>
  simp only[pJ]at h ⊢
  by_cases hi:i==id
  ·rw[hi,zCY]at h ⊢;exact key h
  ·have hi':(i==id)=false:=by simpa using hi
   rw[hi',zCj]at h ⊢;exact h
 |_=>exact h
end Go.Proofs.YtolbeecicikoaaaGreatDoor
namespace Go.Proofs.YtolbeecicikoaaaGreatDoor
def iV:List Pl:=[.pure 0,.pure 0,.pure 0,.pure 0,.pure 0,.eff [true,true,true,true,true],.eff [true,true,true,false,false],.free]
attribute [go_sem] iV
def mI(o:Opn):List AV:=[.int .i64 o.at_.c,.int .i64 o.at_.r,.int .i64 o.kind,.int .i64 o.node,.int .i64 o.parent,.str o.name,.str o.data]
def aJ2(g:Lg)(e:Int):AV:=.tup [lgA g,.int .i64 e]
def aQ4(l:List Ent):Prop:=∀e∈l,OpS e.op
theorem vI{n:Nat}{H:AHeap}:∀(i:Nat) (x y:AV),([]:List AV)[i]?=some x→([]:List AV)[i]?=some y→Frz n H x y:=fun _ _ _ h=>by simp at h
theorem jT{n:Nat}{H:AHeap}{a b:AV}{cs ds:List AV}(h:Frz n H a b)(hs:∀(i:Nat) (x y:AV),cs[i]?=some x→ds[i]?=some y→Frz n H x y):∀(i:Nat) (x y:AV),(a::cs)[i]?=some x→(b::ds)[i]?=some y→Frz n H x y
 |0,x,y,hx,hy=>by simp at hx hy;subst hx;subst hy;exact h
 |i+1,x,y,hx,hy=>hs i x y (by simpa using hx) (by simpa using hy)
theorem aPf{H M L G X:AHeap}(hG:H++(M++L)=G):G++X=H++(M++(L++X)):=by rw[←hG];simp only[zAu]
theorem cR{H X:AHeap}{i:Nat}(h:∃M,X=H++M)(hi:H.length≤i)(b:ABlk):∃M,aB X i b=H++M:=by
 obtain⟨M,rfl⟩:=h
 obtain⟨k,rfl⟩:∃k,i=H.length+k:=⟨i-H.length,by omega⟩
 exact⟨M.set k b,aAp _ _ _ _⟩
theorem mJ{H X:AHeap}(h:∃M,X=H++M)(L:AHeap):∃M,X++L=H++M:=by
 obtain⟨M,rfl⟩:=h;exact⟨M++L,zAu ..⟩
theorem aQ5(b1 b2:Bool)(g:Lg)(o:Opn)(hs:OpS o)(hes:aQ4 g.entries)(h2:g.nodes.length≤1000000)(h1:g.entries.length≤1000000)(H:AHeap):bD Tryz.prog 77 [qT b1 b2 g,opA o] H (aJ2 (dU g o) (oQ g o)):=by
 have hok:=xA o hs
 have hsm:=aM7 b1 b2 g (by omega) (by omega)
 have hha:=aPc b1 b2 g o.at_
 refine fO Tryz.func77 ?_
 have hP:=pT [(7,iV)]
 simp only[opA,lgA,qT,stA,aJ2]at hok hsm hha ⊢
 cases ho:opOk o with
 |false=>
  rw[dU,zAc ho,oQ,zAc ho]
  refine hH ?_
  exact dY (.refl _)
 |true=>
  cases hh:fA g.entries o.at_ with
  |true=>
   rw[dU,zAb (by rw[ho];decide),zAc hh,oQ,zAb (by rw[ho];decide),zAc hh]
   refine hH ?_
   exact dY (.refl _)
  |false=>
   by_cases hm:(200:Int)≤(g.entries.length:Int)
   ·rw[dU,zAb (by rw[ho];decide),zAb (by rw[hh];decide),zAc hm,oQ,zAb (by rw[ho];decide),zAb (by rw[hh];decide),zAc hm]
    refine hH ?_
    exact dY (.refl _)
   ·rw[dU,zAb (by rw[ho];decide),zAb (by rw[hh];decide),zAb hm,oQ,zAb (by rw[ho];decide),zAb (by rw[hh];decide),zAb hm]
    refine hH ?_
    have hbk:=fun l e u hl=>aQ1 false l e u hl
    simp only[opA,unA]at hbk
    refine zR (H.length+3) [.sl false (g.nodes.map ndA)] (v:=0) (cs:=[.sl b2 (g.nodes.map ndA)]) (by simp only[go_sem]) rfl (aD (.sl _ _) bJ) ?_
    simp only[go_sem]
    refine dB (ι:=Nat×List Nd×AHeap)
     (fun x=>[(2,.ref H.length 0 0),(3,.ref (H.length+1) 0 0),(4,.ref (H.length+2) 0 0),(6,.ref (H.length+3) 0 0),(7,.int .i64 ((g.entries.length-x.1:Nat):Int))])
     (fun x=>H++([.cells 0 [.sl b1 (g.entries.map dM),.sl b2 (g.nodes.map ndA)],.cells 0 (mI o),.cells 0 [.sl true [],.sl true []],.cells 0 [.sl false (x.2.1.map ndA)]]++x.2.2))
     (fun x=>x.1≤g.entries.length∧x.2.1.length≤g.nodes.length+x.1∧eP o.at_ g.entries.reverse g.nodes=(x.1,x.2.1)) ?_ ?_
    ·refine aH (ι:=Nat×List Nd×AHeap)
      (fun x=>[(2,.ref H.length 0 0),(3,.ref (H.length+1) 0 0),(4,.ref (H.length+2) 0 0),(6,.ref (H.length+3) 0 0),(7,.int .i64 ((g.entries.length-x.1:Nat):Int)),(41,.int .i64 g.entries.length),(42,.int .i64 x.1)])
      (fun x=>H++([.cells 0 [.sl b1 (g.entries.map dM),.sl b2 (g.nodes.map ndA)],.cells 0 (mI o),.cells 0 [.sl true [],.sl true []],.cells 0 [.sl false (x.2.1.map ndA)]]++x.2.2))
      (fun x=>x.1≤g.entries.length∧x.2.1.length≤g.nodes.length+x.1∧eP o.at_ g.entries.reverse g.nodes=(x.1+(eP o.at_ (g.entries.reverse.drop x.1) x.2.1).1,(eP o.at_ (g.entries.reverse.drop x.1) x.2.1).2)) (fun x=>g.entries.length-x.1) (0,g.nodes,[]) ⟨zAn _,zAh _,by simp⟩ ?_ (by simp[mI]) ?_
     ·simp[go_sem]
     ·rintro⟨i,n,L⟩ ⟨hi,hn,he⟩
      simp only[mI]at hi hn he ⊢
      generalize hG:H++([ABlk.cells 0 [AV.sl b1 (g.entries.map dM),.sl b2 (g.nodes.map ndA)],.cells 0 [.int .i64 o.at_.c,.int .i64 o.at_.r,.int .i64 o.kind,.int .i64 o.node,.int .i64 o.parent,.str o.name,.str o.data],.cells 0 [.sl true [],.sl true []],.cells 0 [.sl false (n.map ndA)]]++L)=G
      have hlG:H.length+3<G.length:=by rw[←hG];simp
      have q0:hget G H.length=.cells 0 [AV.sl b1 (g.entries.map dM),.sl b2 (g.nodes.map ndA)]:=by rw[←hG];simp only[go_sem]
      have q1:hget G (H.length+1)=.cells 0 [.int .i64 o.at_.c,.int .i64 o.at_.r,.int .i64 o.kind,.int .i64 o.node,.int .i64 o.parent,.str o.name,.str o.data]:=by rw[←hG];simp only[go_sem]
      have q3:hget G (H.length+3)=.cells 0 [.sl false (n.map ndA)]:=by rw[←hG];simp only[go_sem]
      have q0':=fun M=>aG q0 trivial M
      have q1':=fun M=>aG q1 trivial M
      have q3':=fun M=>aG q3 trivial M
      have qs:=fun M b=>bE hlG M b
      have qn:∀b,aB G (H.length+3) b=H++([ABlk.cells 0 [AV.sl b1 (g.entries.map dM),.sl b2 (g.nodes.map ndA)],.cells 0 [.int .i64 o.at_.c,.int .i64 o.at_.r,.int .i64 o.kind,.int .i64 o.node,.int .i64 o.parent,.str o.name,.str o.data],.cells 0 [.sl true [],.sl true []],b]++L):=fun b=>by rw[←hG];simp only[go_sem]
      by_cases hlt:i<g.entries.length
      ·have hix:g.entries.length-1-i<g.entries.length:=by omega
       have hp:=aJ dM hix
       have e1:IntKind.i64.wrap (IntKind.i64.wrap ((g.entries.length:Int)-1)-(i:Int))=((g.entries.length-1-i:Nat):Int):=by
        rw[wrap_i64 (n:=(g.entries.length:Int)-1) (by omega) (by omega),wI];omega
       have hdr:g.entries.reverse.drop i=g.entries[g.entries.length-1-i]::g.entries.reverse.drop (i+1):=by
        rw[zAk (by simpa using hlt)]
        congr 1
        rw[zCt]
       rw[hdr,eP]at he
       repeat' first|((first|refine gQ (aEV _ _ _ _) ?_|refine aY (hbk _ _ _ (by first|assumption|decide|omega|(simp_all;done)|(simp_all;omega)) _) (cO) ?_|refine aZ (hbk _ _ _ (by first|assumption|decide|omega|(simp_all;done)|(simp_all;omega)) _) (cO) ?_|refine bA (fun _=>hbk _ _ _ (by first|assumption|decide|omega|(simp_all;done)|(simp_all;omega)) _) (cO) ?_|refine mx [7] iV ?_|refine gS ?_);simp only[go_sem,hp,dM,e1,q0,q1,q3,q0',q1',q3',qs])|refine gA ?_|(refine gD (fun h=>?_) (fun h=>?_)<;>try exact aA h)|fail
       ·have hl0:¬dD o.at_ g.entries[g.entries.length-1-i].op.at_=true:=by
         rw[zBr];unfold dD;simpa using h
        rw[zAb hl0]at he
        exact⟨(i,n,L++[_]),⟨hi,hn,by rw[he];rfl⟩,rfl,aPf hG⟩
       ·have hl0:dD o.at_ g.entries[g.entries.length-1-i].op.at_=true:=by unfold dD;simpa using h
        rw[zAc hl0]at he
        have hbl:=aBO n g.entries[g.entries.length-1-i].op g.entries[g.entries.length-1-i].undo
        refine⟨(i+1,oW n g.entries[g.entries.length-1-i].op g.entries[g.entries.length-1-i].undo,L++[_]),⟨hlt,by simp only;omega,by rw[he];simp only[Prod.mk.injEq,and_true];omega⟩,by simp only;omega,⟨zAp _ ?_,zAp _ (aK hlt (by omega))⟩,aPf (qn _).symm⟩
        simp only
        rw[wI];omega
      ·repeat' first|((first|refine mx [7] iV ?_|refine gS ?_);simp only[go_sem,q0,q1,q3,hlt])|refine gA ?_|(refine gD (fun h=>?_) (fun h=>?_)<;>try exact aA h)|fail
       have hil:i=g.entries.length:=by omega
       have hd0:g.entries.reverse.drop i=[]:=List.drop_of_length_le (by simp;omega)
       rw[hd0]at he
       exact⟨(i,n,L),⟨hi,hn,by rw[he];rfl⟩,rfl,by rw[←hG];simp only[go_sem]⟩
    ·rintro⟨c,n,L⟩ ⟨hc,hn,he⟩
     simp only[mI]at hc hn he ⊢
     rw[he]
     simp only
     generalize hG:H++([ABlk.cells 0 [AV.sl b1 (g.entries.map dM),.sl b2 (g.nodes.map ndA)],.cells 0 [.int .i64 o.at_.c,.int .i64 o.at_.r,.int .i64 o.kind,.int .i64 o.node,.int .i64 o.parent,.str o.name,.str o.data],.cells 0 [.sl true [],.sl true []],.cells 0 [.sl false (n.map ndA)]]++L)=G
     have hlG:H.length+3<G.length:=by rw[←hG];simp
     have hpG:∃M,G=H++M:=⟨_,hG.symm⟩
     have q0:hget G H.length=.cells 0 [AV.sl b1 (g.entries.map dM),.sl b2 (g.nodes.map ndA)]:=by rw[←hG];simp only[go_sem]
     have q1:hget G (H.length+1)=.cells 0 [.int .i64 o.at_.c,.int .i64 o.at_.r,.int .i64 o.kind,.int .i64 o.node,.int .i64 o.parent,.str o.name,.str o.data]:=by rw[←hG];simp only[go_sem]
     have q2:hget G (H.length+2)=.cells 0 [.sl true [],.sl true []]:=by rw[←hG];simp only[go_sem]
     have q3:hget G (H.length+3)=.cells 0 [.sl false (n.map ndA)]:=by rw[←hG];simp only[go_sem]
     have q0':=fun M=>aG q0 trivial M
     have q1':=fun M=>aG q1 trivial M
     have q3':=fun M=>aG q3 trivial M
     have t1:List.take (g.entries.length-c) (List.map dM g.entries)=List.map dM (g.entries.take (g.entries.length-c)):=zBN.symm
     have t2:List.drop (g.entries.length-c) (List.map dM g.entries)=List.map dM (g.entries.drop (g.entries.length-c)):=zCh.symm
     have ha1:=aQ2 false (g.entries.take (g.entries.length-c)) n o hs (by omega) (by simp;omega) (G++[.cells 0 [.sl true ((g.entries.take (g.entries.length-c)).map dM)]]) (H.length+3) G.length (by omega) (aG q3 trivial _) (jO _ _)
     simp only[opA]at ha1
     refine hH ?_
     refine oD ha1 (cO) ?_
     rintro x H' ⟨rfl,c0,c1,hH'⟩
     simp only[go_sem]
     have hl1:(G++[ABlk.cells 0 [AV.sl true ((g.entries.take (g.entries.length-c)).map dM)]]).length=G.length+1:=by simp
     have hdl:=aCu n o
     have lt1:(g.entries.take (g.entries.length-c)).length=g.entries.length-c:=by rw[zAy];omega
     rw[hl1,lt1]at hH'
     have r0:hget H' H.length=.cells 0 [AV.sl b1 (g.entries.map dM),.sl b2 (g.nodes.map ndA)]:=by
      rw[hH'];exact aG ((aP (by omega) _).trans ((aP (by omega) _).trans (q0' _))) trivial _
     have r2:hget H' (H.length+2)=.cells 0 [.sl true [],.sl true []]:=by
      rw[hH'];exact aG ((aP (by omega) _).trans ((aP (by omega) _).trans (aG q2 trivial _))) trivial _
     have r3:hget H' (H.length+3)=.cells 0 [.sl false ((jQ n o).map ndA)]:=by
      rw[hH'];exact aG (b:=.cells 0 [.sl false ((jQ n o).map ndA)]) ((aP (by omega) _).trans (bU (by rw[hl1];omega) _)) trivial _
     have rE:hget H' G.length=.cells 0 [.osl 17 (G.length+3) 1 0 (g.entries.length-c+1) (g.entries.length-c+1)]:=by
      rw[hH'];exact aG (b:=.cells 0 [.osl 17 (G.length+3) 1 0 (g.entries.length-c+1) (g.entries.length-c+1)]) (bU (by rw[bK,hl1];omega) _) trivial _
     have rK:hget H' (G.length+3)=.cells 1 (((g.entries.take (g.entries.length-c)++[(⟨o,qW n o⟩:Ent)]).map dM).flatMap AV.cells):=by
      rw[hH'];exact vH (n:=G.length+1) (k:=2) (by rw[bK,bK,hl1])
     have rP:∃M,H'=H++M:=by
      rw[hH'];exact mJ (cR (cR (mJ hpG _) (by omega) _) (by omega) _) _
     have hGK:H.length+3<G.length:=hlG
     generalize G.length=B at r0 r2 r3 rE rK hGK ⊢
     clear hH' hG hpG q0 q1 q2 q3 q0' q1' q3' ha1 hl1 hlG
     refine hK @iT ?_
     clear hok hsm hha hbk he
     refine aH (ι:=Nat×AHeap) (fun x=>[(4,.ref (H.length+2) 0 0),(6,.ref (H.length+3) 0 0),(10,.ref B 0 0),(11,.func (.func 138) [] [.ref (H.length+3) 0 0,.ref B 0 0]),(83,.sl b1 ((g.entries.drop (g.entries.length-c)).map dM)),(84,.int .i64 ((g.entries.drop (g.entries.length-c)).length:Int)),(85,.int .i64 x.1)])
      (fun x=>x.2)
      (fun x=>x.1≤(g.entries.drop (g.entries.length-c)).length∧hget x.2 (H.length+2)=.cells 0 [.sl true [],.sl true []]∧
       hget x.2 (H.length+3)=.cells 0 [.sl false ((cN (o::((g.entries.drop (g.entries.length-c)).take x.1).map Ent.op) (g.entries.take (g.entries.length-c)) n).2.map ndA)]∧
       hget x.2 B=.cells 0 [.osl 17 (B+3) (x.1+1) 0 (cN (o::((g.entries.drop (g.entries.length-c)).take x.1).map Ent.op) (g.entries.take (g.entries.length-c)) n).1.length (cN (o::((g.entries.drop (g.entries.length-c)).take x.1).map Ent.op) (g.entries.take (g.entries.length-c)) n).1.length]∧
       hget x.2 (B+3)=.cells (x.1+1) (((cN (o::((g.entries.drop (g.entries.length-c)).take x.1).map Ent.op) (g.entries.take (g.entries.length-c)) n).1.map dM).flatMap AV.cells)∧∃M,x.2=H++M) (fun x=>(g.entries.drop (g.entries.length-c)).length-x.1) (0,H')
      ⟨zAn _,r2,by simpa[cN]using r3,by simpa[cN,lt1]using rE,by simpa[cN]using rK,rP⟩ ?_ rfl ?_
     ·simp[go_sem]
     ·rintro⟨m,X⟩ ⟨hm1,s2,s3,sE,sK,sP⟩
      simp only at hm1 s2 s3 sE sK sP ⊢
      have hrl:=aAI (o::((g.entries.drop (g.entries.length-c)).take m).map Ent.op) (g.entries.take (g.entries.length-c)) n
      have hdl2:(g.entries.drop (g.entries.length-c)).length≤g.entries.length:=by rw[zAH];omega
      have htl:((o::((g.entries.drop (g.entries.length-c)).take m).map Ent.op)).length=m+1:=by simp;rw[zAH]at hm1;omega
      rw[htl,lt1]at hrl
      by_cases hlt:m<(g.entries.drop (g.entries.length-c)).length
      ·have hp:=aJ dM hlt
       have hmem:(g.entries.drop (g.entries.length-c))[m]∈g.entries:=zCs (zAF hlt)
       have hops:=hes _ hmem
       have hsn:=xB (o::((g.entries.drop (g.entries.length-c)).take m).map Ent.op) (g.entries.drop (g.entries.length-c))[m].op (g.entries.take (g.entries.length-c)) n
       have htk:(o::((g.entries.drop (g.entries.length-c)).take m).map Ent.op)++[(g.entries.drop (g.entries.length-c))[m].op]=o::((g.entries.drop (g.entries.length-c)).take (m+1)).map Ent.op:=by
        rw[zAa hlt,zBa];rfl
       rw[htk]at hsn
       generalize hR:cN (o::((g.entries.drop (g.entries.length-c)).take m).map Ent.op) (g.entries.take (g.entries.length-c)) n=R at s3 sE sK hrl hsn
       have hX:H.length+3<X.length:=aU s3 trivial
       have hB:B<X.length:=aU sE trivial
       have hK:B+3<X.length:=aU sK trivial
       have s3':=fun M=>aG s3 trivial M
       have sE':=fun M=>aG sE trivial M
       have ha2:=fun E=>aQ3 false R.1 R.2 (g.entries.drop (g.entries.length-c))[m].op hops (by omega) (by omega) (X++[E]) (H.length+3) B (B+3) (m+1) (by omega) (by omega) (by omega) (by omega) (s3' _) (sE' _) (aG sK trivial _)
       simp only[opA]at ha2
       have hltI:decide ((m:Int)<((g.entries.drop (g.entries.length-c)).length:Int))=true:=dT
       repeat' first|((first|refine mx [7] iV ?_|refine gS ?_);simp only[go_sem,hp,dM,s3',sE',hltI])|refine gA ?_|(refine gD (fun h=>?_) (fun h=>?_)<;>try exact aA h)|fail
       refine oD (ha2 _) (cO) ?_
       rintro x H2 ⟨rfl,d0,d1,hH2⟩
       simp only[go_sem]
       refine hG ?_
       have hl2:(X++[ABlk.cells 0 (dM (g.entries.drop (g.entries.length-c))[m]).cells]).length=X.length+1:=by simp
       refine⟨(m+1,H2),⟨hlt,?_,?_,?_,?_,?_⟩,by simp only;omega,zAp _ (aK hlt (by omega)),rfl⟩
       ·simp only
        rw[hH2]
        exact aG ((aP (by omega) _).trans ((aP (by omega) _).trans ((aP (by omega) _).trans (aG s2 trivial _)))) trivial _
       ·simp only
        rw[hH2,hsn]
        refine aG (b:=.cells 0 [.sl false ((jQ R.2 (g.entries.drop (g.entries.length-c))[m].op).map ndA)]) ((aP (by omega) _).trans ((aP (by omega) _).trans (bU ?_ _))) trivial _
        rw[zAe];omega
       ·simp only
        rw[hH2,hsn]
        have hb:=bU (H:=aB (aB (X++[ABlk.cells 0 (dM (g.entries.drop (g.entries.length-c))[m]).cells]) (H.length+3) (.cells 0 [.sl false ((jQ R.2 (g.entries.drop (g.entries.length-c))[m].op).map ndA)])) (B+3) (.cells (m+1+1) (((R.1++[(⟨(g.entries.drop (g.entries.length-c))[m].op,qW R.2 (g.entries.drop (g.entries.length-c))[m].op⟩:Ent)]).map dM).flatMap AV.cells))) (i:=B) (by rw[bK,bK,hl2];omega) (.cells 0 [.osl 17 (B+3) (m+1+1) 0 (R.1.length+1) (R.1.length+1)])
        refine(aG hb trivial _).trans ?_
        rw[zAe];rfl
       ·simp only
        rw[hH2,hsn]
        refine aG (b:=.cells (m+1+1) (((R.1++[(⟨(g.entries.drop (g.entries.length-c))[m].op,qW R.2 (g.entries.drop (g.entries.length-c))[m].op⟩:Ent)]).map dM).flatMap AV.cells)) ((aP (by omega) _).trans (bU ?_ _)) trivial _
        rw[bK,zAe];omega
       ·simp only
        rw[hH2]
        exact mJ (cR (cR (cR (mJ sP _) (by omega) _) (by omega) _) (by omega) _) _
      ·have hme:m=(g.entries.drop (g.entries.length-c)).length:=by omega
       subst hme
       rw[zAq]at s3 sE sK hrl
       have hltI:decide (((g.entries.drop (g.entries.length-c)).length:Int)<((g.entries.drop (g.entries.length-c)).length:Int))=false:=by simp
       obtain⟨M,hM⟩:=sP
       have h2M:H.length+2<X.length:=aU s2 trivial
       have sK':=sK
       generalize hV:(cN (o::(g.entries.drop (g.entries.length-c)).map Ent.op) (g.entries.take (g.entries.length-c)) n)=R at s3 sE sK hrl ⊢
       have sS:∀b,hget (aB X (H.length+2) b) (H.length+2)=b:=fun b=>bU h2M b
       repeat' first|((first|refine mx [7] iV ?_|refine gS ?_);simp only[go_sem,s2,s3,sE,hltI,sS])|refine gA ?_|(refine gD (fun h=>?_) (fun h=>?_)<;>try exact aA h)|fail
       obtain⟨M2,hM2⟩:=cR ⟨M,hM⟩ (i:=H.length+2) (by omega) (.cells 0 [.osl 17 (B+3) ((g.entries.drop (g.entries.length-c)).length+1) 0 R.1.length R.1.length,.sl false (R.2.map ndA)])
       refine⟨M2,_,hM2,?_,rfl⟩
       refine .tup _ _ rfl (jT (.agg _ _ rfl (jT ?_ (jT (.cl _ (Pur.cl (by simp only[go_sem]) _)) vI))) (jT (.cl _ (.int _ _)) vI))
       exact iC (es:=R.1.map dM) (rest:=[]) (by omega) ((aP (by omega) _).trans sK) (zAg _).symm (by rw[zAj]) (jD _) (tG _)
end Go.Proofs.YtolbeecicikoaaaGreatDoor
namespace Go.Srt
section
variable {α:Type} (lt:α→α→Bool)
structure SWO:Prop where
 irr:∀a,lt a a=false
 ntr:∀a b c,lt a b=false→lt b c=false→lt a c=false
 asy:∀a b,lt a b=true→lt b a=false
def eqv(k x:α):Bool:= !lt k x&& !lt x k
theorem aJ3{k x:α}:eqv lt k x=true↔lt k x=false∧lt x k=false:=by simp[eqv]
def Sd(l:List α):Prop:=l.Pairwise (fun a b=>lt b a=false)
def Fs(xs ys:List α):Prop:=ys.length=xs.length∧∀k,ys.filter (eqv lt k)=xs.filter (eqv lt k)
variable {lt}
theorem Fs.refl(xs:List α):Fs lt xs xs:=⟨rfl,fun _=>rfl⟩
theorem Fs.trans{a b c:List α}(h:Fs lt a b)(k:Fs lt b c):Fs lt a c:=⟨k.1.trans h.1,fun x=>(k.2 x).trans (h.2 x)⟩
theorem Fs.app{a b c d:List α}(h:Fs lt a b)(k:Fs lt c d):Fs lt (a++c) (b++d):=
 ⟨by rw[zAe,zAe,h.1,k.1],fun x=>by rw[zAV,zAV,h.2,k.2]⟩
theorem Fs.mem{a b:List α}(hw:SWO lt)(h:Fs lt a b)(x:α):x∈b↔x∈a:=by
 have e:eqv lt x x=true:=aJ3 lt|>.2 ⟨hw.irr x,hw.irr x⟩
 have:=h.2 x
 have m1:x∈b.filter (eqv lt x)↔x∈b:=by rw[zBi];simp[e]
 have m2:x∈a.filter (eqv lt x)↔x∈a:=by rw[zBi];simp[e]
 rw[←m1,←m2,this]
theorem Fs.swap(hw:SWO lt){A B:List α}(h:∀a∈A,∀b∈B,lt b a=true):Fs lt (A++B) (B++A):=by
 refine⟨by rw[zAe,zAe,Nat.add_comm],fun k=>?_⟩
 rw[zAV,zAV]
 by_cases hA:A.filter (eqv lt k)=[]
 ·rw[hA,zAg,zAG]
 ·obtain⟨a,ha⟩:=List.exists_mem_of_ne_nil _ hA
  rw[zBi]at ha
  have hB:B.filter (eqv lt k)=[]:=by
   rw[List.filter_eq_nil_iff]
   intro b hb e
   have e1:=(aJ3 lt).1 e
   have e2:=(aJ3 lt).1 ha.2
   have:=hw.ntr b k a e1.2 e2.1
   rw[h a ha.1 b hb]at this;cases this
  rw[hB,zAg,zAG]
theorem Sd.app{a b:List α}(ha:Sd lt a)(hb:Sd lt b)(h:∀x∈a,∀y∈b,lt y x=false):Sd lt (a++b):=zBp.2 ⟨ha,hb,h⟩
theorem Sd.left{a b:List α}(h:Sd lt (a++b)):Sd lt a:=(zBp.1 h).1
theorem Sd.right{a b:List α}(h:Sd lt (a++b)):Sd lt b:=(zBp.1 h).2.1
theorem Sd.nil:Sd lt ([]:List α):=List.Pairwise.nil
theorem Sd.one(x:α):Sd lt [x]:=List.pairwise_singleton _ _
theorem Sd.get{l:List α}(h:Sd lt l){i j:Nat}(hij:i<j)(hj:j<l.length):lt l[j] (l[i]'(by omega))=false:=zBn.1 h i j (by omega) hj hij
end
end Go.Srt
namespace Go.Proofs.YtolbeecicikoaaaGreatDoor
def fl(D:List Opn):List AV:=(D.map opA).flatMap AV.cells
theorem fB(H:AHeap)(i:Nat)(b b':ABlk):aB (aB H i b) i b'=aB H i b':=by simp[aB]
theorem kF{H:AHeap}{i:Nat}{b:ABlk}(h:hget H i=b)(hb:b.live)(b':ABlk):hget (aB H i b') i=b':=bU (aU h hb) b'
theorem oH{H:AHeap}{i:Nat}{b:ABlk}(h:hget H i=b)(hb:b.live):aB H i b=H:=aHb (cX h hb)
where
 pur_opm (l:List Opn):∀e∈l.map opA,Pur e:=fun e he=>by
  obtain⟨x,_,rfl⟩:=zAi.1 he;exact(by simp only[go_sem])
theorem pZ{H:AHeap}{i n:Nat}{b:ABlk}(hb:ClB n b):∀(j:Nat) (c:ABlk),(aB H i b)[j]?=some c→H[j]?=some c∨ClB n c:=by
 intro j c hj
 by_cases e:i=j
 ·subst e
  unfold aB at hj
  by_cases hl:i<H.length
  ·rw[zA4 hl]at hj;cases hj;exact .inr hb
  ·rw[zCl (by rw[List.length_set];omega)]at hj;cases hj
 ·unfold aB at hj
  rw[zAW e]at hj;exact .inl hj
theorem jE{H:AHeap}{i:Nat}{b:ABlk}(hb:ClB H.length b)(R:AV→AHeap→Prop)(hR:R (.tup []) (aB H i b)):
  ∃H1 L y,aB H i b=H1++L∧H1.length=H.length∧(∀(j:Nat) (c:ABlk),H1[j]?=some c→H[j]?=some c∨ClB H.length c)∧Frz H.length (aB H i b) (.tup []) y∧R y H1:=by
 exact⟨aB H i b,[],.tup [],(zAg _).symm,bK H i b,pZ hb,.cl _ (Pur.cl (.tup _ (fun _ h=>by cases h)) _),hR⟩
theorem aI{n:Nat}{m:Int}(h:(n:Int)=m)(hn:n≤9223372036854775807):IntKind.i64.wrap m=(n:Int):=by subst h;exact wI
theorem vJ{P:Program}{N:Nat}{x y:Code}{Q:bI}{α:AF}{H:AHeap}{ι:Type}(F:ι→AF)(Hp:ι→AHeap)(pre:ι→Prop)(h1:aw P N x (aE0 F Hp pre Q) α H)(h2:∀i,pre i→aw P N y Q (F i) (Hp i)):aw P N x (aAd P N y Q) α H:=by
 refine zQ h1 fun e α' H' h=>?_
 cases e with
 |normal=>
  obtain⟨i,hp,hs,rfl⟩:=h
  exact sF (h2 i hp) (kU hs)
 |_=>exact h
open Go.Srt
end Go.Proofs.YtolbeecicikoaaaGreatDoor
namespace Go.Proofs.YtolbeecicikoaaaGreatDoor
def cA(b:UInt8):List UInt8→List (List UInt8)
 |[]=>[[]]
 |c::l=>match cA b l with
  |[]=>[[]]
  |h::t=>if c=b then[]::h::t else(c::h)::t
theorem mT(b:UInt8)(l:List UInt8):cA b l≠[]:=by
 cases l with
 |nil=>simp[cA]
 |cons c l=>rw[cA];split;simp;split<;>simp
theorem aAN{b:UInt8}{l:List UInt8}(h:Lib.indexByte l b<0):cA b l=[l]∧Lib.countByte l b=0:=by
 induction l with
 |nil=>exact⟨rfl,rfl⟩
 |cons c l ih=>
  rw[Lib.indexByte]at h
  split at h
  ·omega
  ·rename_i h1
   have h2:Lib.indexByte l b<0:=by
    have:=Lib.indexByte_ge l b
    split at h
    ·rename_i h3;have:Lib.indexByte l b= -1:=by simpa using h3
     omega
    ·omega
   obtain⟨e1,e2⟩:=ih h2
   have h3:¬c=b:=by simpa using h1
   refine⟨by rw[cA,e1];simp[h3],?_⟩
   unfold Lib.countByte at e2 ⊢
   rw[List.count_cons,e2];simp[h3]
theorem aAO{b:UInt8}{l:List UInt8}{k:Nat}(h:Lib.indexByte l b=k):k<l.length∧cA b l=l.take k::cA b (l.drop (k+1))∧Lib.countByte l b=Lib.countByte (l.drop (k+1)) b+1:=by
 induction l generalizing k with
 |nil=>rw[Lib.indexByte]at h;omega
 |cons c l ih=>
  rw[Lib.indexByte]at h
  split at h
  ·rename_i h1
   have h1:c=b:=by simpa using h1
   have hk:k=0:=by omega
   subst hk
   subst h1
   refine⟨by simp,?_,?_⟩
   ·rw[cA]
    cases hs:cA c l with
    |nil=>exact absurd hs (mT c l)
    |cons x t=>simp[hs]
   ·unfold Lib.countByte;simp
  ·rename_i h1
   have h3:¬c=b:=by simpa using h1
   split at h
   ·omega
   ·obtain⟨j,rfl⟩:∃j,k=j+1:=⟨k-1,by
     rename_i h4
     have:=Lib.indexByte_ge l b
     have h5:¬Lib.indexByte l b= -1:=by simpa using h4
     omega⟩
    obtain⟨a1,a2,a3⟩:=ih (k:=j) (by omega)
    refine⟨by simpa using a1,?_,?_⟩
    ·rw[cA,a2];simp[h3]
    ·unfold Lib.countByte at a3 ⊢
     rw[List.count_cons,a3];simp[h3]
theorem aE1{b:UInt8}{l:List UInt8}(h:Lib.countByte l b=0):cA b l=[l]:=by
 rcases Int.lt_or_le (Lib.indexByte l b) 0 with h1|h1
 ·exact(aAN h1).1
 ·have:=(aAO (b:=b) (l:=l) (k:=(Lib.indexByte l b).toNat) (by omega)).2.2
  omega
theorem aHH{b:UInt8}{l:List UInt8}(h:0<Lib.countByte l b):∃k:Nat,Lib.indexByte l b=k:=by
 rcases Int.lt_or_le (Lib.indexByte l b) 0 with h1|h1
 ·have:=(aAN h1).2;omega
 ·exact⟨(Lib.indexByte l b).toNat,by omega⟩
theorem aAP(A B:List AV)(y x:AV){n:Nat}(h:A.length=n):cH (A++y::B) (n * 1) [x]=A++x::B:=by
 subst h
 rw[zAz]
 simp[cH]
theorem aJ4(s:List UInt8)(b:UInt8)(hs:s.length≤1048576)(H:AHeap):bD Tryz.prog 176 [.str s,.str [b],.int .i64 0,.int .i64 (-1)] H (.sl false ((cA b s).map AV.str)):=by
 refine fO Tryz.func176 ?_
 have hcle:Lib.countByte s b≤s.length:=List.count_le_length
 have hcnt:=aJB s b
 generalize hm:Lib.countByte s b=m at *
 have w1:IntKind.i64.wrap ((m:Int)+1)=((m+1:Nat):Int):=by rw[wI];rfl
 have w2:IntKind.i64.wrap ((s.length:Int)+1)=((s.length+1:Nat):Int):=by rw[wI];rfl
 have w3:min ((m+1:Nat):Int) ((s.length+1:Nat):Int)=((m+1:Nat):Int):=by omega
 have w4:IntKind.i64.wrap (((m+1:Nat):Int)-1)=(m:Int):=by rw[wI];omega
 have w5:(((m+1:Nat):Int)).toNat=m+1:=zB7 _
 have e0:List.flatMap AV.cells (List.replicate (m+1) (AV.str []))=List.replicate (m+1) (AV.str []):=by
  rw[List.flatMap_replicate];simp[AV.cells]
 have hc1:∀l:List (List UInt8),(l.map AV.str).flatMap AV.cells=l.map AV.str:=fun l=>by
  rw[zCz];induction l with|nil=>rfl|cons x l ih=>rw[zAK,zAA,ih];rfl
 refine hH ?_
 refine aH (ι:=Nat×List (List UInt8)×List UInt8) (fun x=>[(0,.str x.2.2),(1,.str [b]),(2,.int .i64 0),(3,.int .i64 m),(9,.osl 1 H.length 1 0 (m+1) (m+1)),(10,.int .i64 x.1)])
  (fun x=>H++[.cells 1 (x.2.1.map AV.str++List.replicate (m+1-x.1) (.str []))])
  (fun x=>x.1≤m∧x.2.1.length=x.1∧cA b s=x.2.1++cA b x.2.2∧Lib.countByte x.2.2 b+x.1=m∧x.2.2.length≤s.length) (fun x=>m-x.1) (0,[],s) ⟨zAn _,rfl,rfl,hm,zAh _⟩ ?_ (by simp) ?_
 ·simp[go_sem]
 ·rintro⟨i,pre,r⟩ ⟨hi,hl,hsp,hct,hrl⟩
  simp only at hi hl hsp hct hrl ⊢
  by_cases hlt:i<m
  ·obtain⟨k,hk⟩:=aHH (b:=b) (l:=r) (by omega)
   obtain⟨k1,k2,k3⟩:=aAO hk
   have hix:=aJC r b
   rw[hk]at hix
   have hli:decide ((i:Int)<(m:Int))=true:=dT
   have hkn:decide ((k:Int)<0)=false:=dF
   have x1:IntKind.i64.wrap ((k:Int)+0)=(k:Int):=by rw[wI];omega
   have x2:IntKind.i64.wrap ((k:Int)+1)=((k+1:Nat):Int):=by rw[wI];rfl
   repeat' first|(refine gS ?_;simp only[go_sem,hli,hkn,x1,x2])|refine gA ?_|(refine gD (fun h=>?_) (fun h=>?_)<;>try exact aA h)|fail
   have x3:(IntKind.i64.wrap ((k:Int)+((1:Nat):Int))).toNat=k+1:=by rw[wI];omega
   refine⟨(i+1,pre++[r.take k],r.drop (k+1)),⟨hlt,by simp[hl],by rw[hsp,k2];simp,by simp only;omega,by simp only[zAH];omega⟩,by simp only;omega,⟨by rw[x3],zAp _ (aK hlt (by omega))⟩,?_⟩
   have e1:m+1-i=(m-i)+1:=by omega
   have e2:m+1-(i+1)=m-i:=by omega
   simp only[e1,e2,zBJ]
   rw[aAP _ _ _ _ (by rw[zAj];exact hl)]
   simp
  ·have hie:i=m:=by omega
   subst hie
   have hli:decide ((i:Int)<(i:Int))=false:=by simp
   repeat' first|(refine gS ?_;simp only[go_sem,hli])|refine gA ?_|(refine gD (fun h=>?_) (fun h=>?_)<;>try exact aA h)|fail
   have e1:i+1-i=1:=by omega
   have e3:(IntKind.i64.wrap ((i:Int)+1)).toNat=i+1:=by rw[wI];omega
   have e4:cA b s=pre++[r]:=by rw[hsp,aE1 (b:=b) (l:=r) (by omega)]
   simp only[e1,e3,zBJ,List.replicate_zero]
   rw[aAP _ _ _ _ (by rw[zAj];exact hl)]
   have e5:pre.map AV.str++[AV.str r]=(cA b s).map AV.str:=by rw[e4];simp
   rw[e5]
   exact fN (cs:=(cA b s).map AV.str) (es:=(cA b s).map AV.str) (rest:=[]) (by omega) (by simp only[go_sem]) (by rw[hc1,zAg]) (by rw[zAj,e4];simp[hl]) (fun e he=>by obtain⟨x,_,rfl⟩:=zAi.1 he;rfl) (fun e he=>by obtain⟨x,_,rfl⟩:=zAi.1 he;exact(by simp only[go_sem])) rfl
end Go.Proofs.YtolbeecicikoaaaGreatDoor
namespace Go.Proofs.YtolbeecicikoaaaGreatDoor
theorem aHI{b:UInt8}{l:List UInt8}:∀x∈cA b l,x.length≤l.length:=by
 induction l with
 |nil=>intro x hx;simp[cA]at hx;simp[hx]
 |cons c l ih=>
  intro x hx
  rw[cA]at hx
  cases hs:cA b l with
  |nil=>exact absurd hs (mT b l)
  |cons y t=>
   rw[hs]at ih
   simp only[hs]at hx
   rw[zAm]
   by_cases h:c=b
   ·rw[zAc h]at hx
    rcases zAv.1 hx with q|q
    ·rw[q];simp
    ·have:=ih x q;omega
   ·rw[zAb h]at hx
    rcases zAv.1 hx with q|q
    ·have:=ih y (by simp);rw[q,zAm];omega
    ·have:=ih x (by simp[q]);omega
def aAQ(l:List Txt):Bool:=decide ((l.length:Int)≤16)&&l.all dO
def bV(p:Txt):Option (List Txt):=
 if p=[47]then some []else match p with
 |[]=>none
 |c::l=>if c=47 then(if aAQ (cA 47 l)=true then some (cA 47 l)else none)else none
theorem aJ5(s:List UInt8)(b:UInt8)(hs:s.length≤1048576)(H:AHeap):bD Tryz.prog 145 [.str s,.str [b]] H (.sl false ((cA b s).map AV.str)):=by
 refine fO Tryz.func145 ?_
 have hg:=aJ4 s b hs
 repeat' first|(refine gS ?_;simp only[go_sem])|refine gA ?_|(refine gD (fun h=>?_) (fun h=>?_)<;>try exact aA h)|fail
 exact bL (.refl _)
theorem aUf(f:Bool)(l:List Txt)(hl:∀x∈l,x.length≤1048576)(H:AHeap):bD Tryz.prog 146 [.sl f (l.map AV.str)] H (.bool (aAQ l)):=by
 refine fO Tryz.func146 ?_
 by_cases h16:(l.length:Int)≤16
 ·have hd:decide ((16:Int)<(l.length:Int))=false:=dF
  have hF:aAQ l=l.all dO:=by rw[aAQ,zAd h16,zAB]
  rw[hF]
  refine hH ?_
  refine aH (ι:=Nat) (fun i=>[(8,.sl f (l.map AV.str)),(9,.int .i64 l.length),(10,.int .i64 i)]) (fun _=>H) (fun i=>i≤l.length∧∀x∈l.take i,dO x=true) (fun i=>l.length-i) 0 ⟨zAn _,by simp⟩ ?_ rfl ?_
  ·simp[go_sem]
  ·rintro i ⟨hi,hok⟩
   by_cases hlt:i<l.length
   ·have hp:=aJ AV.str hlt
    have hli:decide ((i:Int)<(l.length:Int))=true:=dT
    have hn:=uX l[i] (by have:=hl _ (zAF hlt);omega)
    cases hk:dO l[i]with
    |false=>
     rw[hk]at hn
     have hall:l.all dO=false:=by rw[List.all_eq_false];exact⟨l[i],zAF hlt,by rw[hk];decide⟩
     rw[hall]
     refine hH ?_
     exact bL (.refl _)
    |true=>
     rw[hk]at hn
     refine hH ?_
     refine⟨i+1,⟨hlt,fun x hx=>?_⟩,by omega,zAp _ (aK hlt (by omega))⟩
     rw[zAa hlt,zAD,zAx]at hx
     rcases hx with q|q
     ·exact hok x q
     ·rw[q];exact hk
   ·have hie:i=l.length:=by omega
    subst hie
    have hli:decide ((l.length:Int)<(l.length:Int))=false:=by simp
    have hall:l.all dO=true:=zAM.2 (by rwa[zAq]at hok)
    rw[hall]
    refine hH ?_
    exact bL (.refl _)
 ·have hd:decide ((16:Int)<(l.length:Int))=true:=dT
  have hF:aAQ l=false:=by rw[aAQ,eT h16,zBO]
  rw[hF]
  refine hH ?_
  exact bL (.refl _)
def vK(p:Txt):AV:=match bV p with
 |none=>.tup [.sl true [],.int .i64 10]
 |some l=>.tup [.sl (decide (p=[47])) (l.map AV.str),.int .i64 0]
theorem aCB(p:Txt)(hs:p.length≤1048576)(H:AHeap):bD Tryz.prog 89 [.str p] H (vK p):=by
 refine fO Tryz.func89 ?_
 have hcut:=aQQ p 47
 by_cases h1:p=[47]
 ·have hd:decide (p=[47])=true:=zAd h1
  simp only[vK,bV,zAc h1,hd]
  refine hH ?_
  exact bL (.refl _)
 ·have hd:decide (p=[47])=false:=eT h1
  simp only[vK,bV,zAb h1,hd]
  cases p with
  |nil=>
   simp only[aBl]at hcut
   refine hH ?_
   exact bL (.refl _)
  |cons c l=>
   rw[zAm]at hs
   by_cases h2:c=47
   ·simp only[aBl,zAc h2]at hcut ⊢
    have hsp:=aJ5 l 47 (by omega)
    have hfi:=aUf false (cA 47 l) (fun x hx=>by have:=aHI x hx;omega)
    cases hf:aAQ (cA 47 l)with
    |false=>
     rw[hf]at hfi
     repeat' first|(refine gS ?_;simp only[go_sem,hd])|refine gA ?_|(refine gD (fun h=>?_) (fun h=>?_)<;>try exact aA h)|fail
     exact bL (.refl _)
    |true=>
     rw[hf]at hfi
     repeat' first|(refine gS ?_;simp only[go_sem,hd])|refine gA ?_|(refine gD (fun h=>?_) (fun h=>?_)<;>try exact aA h)|fail
     exact bL (.refl _)
   ·simp only[aBl,zAb h2]at hcut ⊢
    refine hH ?_
    exact bL (.refl _)
end Go.Proofs.YtolbeecicikoaaaGreatDoor
namespace Go.Proofs.YtolbeecicikoaaaGreatDoor
structure Cal where
 kind:Int
 path:Txt
 to:Txt
 data:Txt
 n:Int
deriving DecidableEq,Inhabited
structure Evt where
 kind:Int
 path:Txt
deriving DecidableEq,Inhabited
structure Ans where
 err:Int
 data:Txt
 names:List Txt
 n:Int
 events:List Evt
deriving DecidableEq,Inhabited
structure Thr where
 call:Cal
 has:List Int
 at_:Int
 done:Bool
 ended:Bool
 upto:Int
 begin_:Int
 mark:Int
 end_:Int
 ans:Ans
deriving DecidableEq,Inhabited
structure Trn where
 kind:Int
 lock:Int
deriving DecidableEq,Inhabited
def aE2(s:Txt):AV:=.str s
def fJ(c:Cal):AV:=.agg [.int .i64 c.kind,.str c.path,.str c.to,.str c.data,.int .i64 c.n]
def cY(e:Evt):AV:=.agg [.int .i64 e.kind,.str e.path]
def trA(t:Trn):AV:=.agg [.int .i64 t.kind,.int .i64 t.lock]
def thF(h n e:AV)(t:Thr):AV:=.agg [.int .i64 t.call.kind,.str t.call.path,.str t.call.to,.str t.call.data,.int .i64 t.call.n,h,.int .i64 t.at_,.bool t.done,.bool t.ended,.int .i64 t.upto,.int .i64 t.begin_,.int .i64 t.mark,.int .i64 t.end_,
 .int .i64 t.ans.err,.str t.ans.data,n,.int .i64 t.ans.n,e]
def thA(f1 f2 f3:Bool)(t:Thr):AV:=thF (.sl f1 (t.has.map iY)) (.sl f2 (t.ans.names.map AV.str)) (.sl f3 (t.ans.events.map cY)) t
@[go_sem] theorem aV4(x:Cal):Pur (fJ x)=True:=by simp only[fJ,go_sem]
@[go_sem] theorem aV5(x:Evt):Pur (cY x)=True:=by simp only[cY,go_sem]
@[go_sem] theorem aV6(x:Trn):Pur (trA x)=True:=by simp only[trA,go_sem]
@[go_sem] theorem aV7(f1 f2 f3:Bool)(x:Thr):Pur (thA f1 f2 f3 x)=True:=by simp only[thA,thF,go_sem]
def an0:Ans:=⟨0,[],[],0,[]⟩
theorem jU{p:Txt}{l:List Txt}(h:bV p=some l):l.length≤16:=by
 unfold bV at h
 split at h
 ·cases h;simp
 ·split at h
  ·cases h
  ·split at h
   ·split at h
    ·rename_i hf
     cases h
     simp only[aAQ,zAl,zAr]at hf
     omega
    ·cases h
   ·cases h
theorem aDN{p:Txt}(hn:bV p=some []):p=[47]:=by
 by_cases hp:p=[47]
 ·exact hp
 ·unfold bV at hn
  rw[zAb hp]at hn
  split at hn
  ·cases hn
  ·split at hn
   ·split at hn
    ·exact absurd (Option.some.inj hn) (mT _ _)
    ·cases hn
   ·cases hn
end Go.Proofs.YtolbeecicikoaaaGreatDoor
namespace Go.Proofs.YtolbeecicikoaaaGreatDoor
open Go.ChangeShapes Go.WideShapes Go.ChangeAt Go.RowKit
theorem aUg:gJ Tryz.prog 46=true:=by kernel_rfl
theorem aQ6:kindB Tryz.prog 46=true:=by kernel_rfl
theorem aJ6{ys:List AV}(h:Sh Tryz.prog 46 ys):∃o:Cal,ys=(fJ o).cells:=by
 obtain⟨y1,ys1,rfl,h1,r1⟩:=fP (wW Tryz.underlying46 aQ6 h)
 obtain⟨y2,ys2,rfl,h2,r2⟩:=fP r1
 obtain⟨y3,ys3,rfl,h3,r3⟩:=fP r2
 obtain⟨y4,ys4,rfl,h4,r4⟩:=fP r3
 obtain⟨y5,ys5,rfl,h5,r5⟩:=fP r4
 obtain rfl:=aCk r5
 obtain⟨a,rfl,_⟩:=rG Tryz.underlying3 h1
 obtain⟨s,rfl,_⟩:=aAw Tryz.underlying9 h2
 obtain⟨u,rfl,_⟩:=aAw Tryz.underlying9 h3
 obtain⟨v,rfl,_⟩:=aAw Tryz.underlying9 h4
 obtain⟨b,rfl,_⟩:=rG Tryz.underlying3 h5
 exact⟨⟨a,s,u,v,b⟩,rfl⟩
end Go.Proofs.YtolbeecicikoaaaGreatDoor
namespace Go.Proofs.YtolbeecicikoaaaGreatDoor
open Go.ChangeShapes Go.WideShapes Go.ChangeAt Go.RowKit
theorem aQ7:gJ Tryz.prog 22=false:=by kernel_rfl
theorem aNb:kindB Tryz.prog 22=true:=by kernel_rfl
theorem aNc{zs:List (List AV)}(h:∀z∈zs,Sh Tryz.prog 46 z):∃l:List Cal,zs.map (mkA Tryz.prog 46)=l.map fJ∧l.length=zs.length:=by
 induction zs with
 |nil=>exact⟨[],rfl,rfl⟩
 |cons z zs ih=>
  obtain⟨p,rfl⟩:=aJ6 (h z (by simp))
  obtain⟨l,h1,h2⟩:=ih fun z hz=>h z (by simp[hz])
  refine⟨p::l,?_,by simp[h2]⟩
  rw[zAA,zAA,h1,mkA,zAc aUg];rfl
theorem aJ7{x:AV}(h:∃ys,x=mkA Tryz.prog 22 ys∧Sh Tryz.prog 22 ys∧(gJ Tryz.prog 22=true∨ys.length=1)):∃l:List Cal,x=.sl false (l.map fJ)∧l.length≤maxLen:=by
 obtain⟨ys,rfl,h,_⟩:=h
 obtain⟨zs,rfl,hl,hz⟩:=aDt Tryz.underlying22 aNb h
 obtain⟨l,h1,h2⟩:=aNc hz
 refine⟨l,?_,by rw[h2];exact hl⟩
 rw[mkA,zAb (by rw[aQ7];decide),h1];rfl
end Go.Proofs.YtolbeecicikoaaaGreatDoor
namespace Go.Proofs.YtolbeecicikoaaaGreatDoor
def fK:List Int→List Int→Int
 |[],[]=>0
 |[],(_::_)=> -1
 |_::_,[]=>1
 |x::xs,y::ys=>if x<y then-1 else if y<x then 1 else fK xs ys
def bX(s:Txt):List Int:=match kB s with
 |some l=>l
 |none=>s.map fun b=>((b.toNat:Int)+1114112)
def kG(a b:Txt):Bool:=decide (fK (bX a) (bX b)<0)
theorem nI(a b:List Int):fK a b= -1∨fK a b=0∨fK a b=1:=by
 induction a generalizing b<;>grind [fK,List,Int]
theorem aCC{a b:List Int}(h:fK a b=0):a=b:=by
 induction a generalizing b with
 |nil=>grind [fK,List,Int]
 |cons x a ih=>
  cases b with
  |nil=>simp[fK]at h
  |cons y b=>
   grind [fK]
theorem aHJ(a:List Int):fK a a=0:=by
 induction a with
 |nil=>rfl
 |cons x a ih=>rw[fK,zAb (by omega),zAb (by omega),ih]
theorem sJ(a b:List Int):fK b a= -fK a b:=by
 induction a generalizing b<;>grind [fK,List,Int]
theorem aAR{a b c:List Int}(h:fK a b= -1)(k:fK b c= -1):fK a c= -1:=by
 induction a generalizing b c with
 |nil=>
  grind [fK,List,Int]
 |cons x a ih=>
  cases b with
  |nil=>simp[fK]at h
  |cons y b=>
   cases c with
   |nil=>simp[fK]at k
   |cons z c=>
    rw[fK]at h k ⊢
    grind
theorem tV(s:Txt)(pos:Nat):eU s pos=Lib.decodeL (s.drop pos):=(Lib.decodeL_drop ⟨s.toArray⟩ pos).symm
theorem aV8{l:Txt}(h:tE [239,191,189] l=true):Lib.decodeL l=(65533,3):=by
 unfold tE at h
 simp only[zAl,zAr]at h
 obtain⟨h1,h2⟩:=h
 match l,h1,h2 with
 |a::b::c::r,h1,h2=>
  simp only[zAm,zAE,zCf,List.take_zero,List.cons.injEq,and_true]at h2
  obtain⟨rfl,rfl,rfl⟩:=h2
  simp[zAm,zAE,zCf,List.take_zero,List.cons.injEq,Lib.decodeL_N,List.getD_cons_zero,List.getD_cons_succ,Lib.decodeN,]
theorem aCD(s:Txt):∀(k pos:Nat) (l:List Int),eX s k pos=some l→s.drop pos=l.flatMap Lib.encodeRune∧∀x∈l,x≤1114111:=by
 intro k
 induction k with
 |zero=>
  simp[pos,eX,zAN,]
 |succ k ih=>
  intro pos l h
  unfold eX at h
  split at h
  ·rename_i hlt
   split at h
   ·rename_i hc
    cases hr:eX s k (pos+(eU s pos).2)with
    |none=>rw[hr]at h;cases h
    |some r=>
     rw[hr,zBR]at h
     obtain⟨e1,e2⟩:=ih _ _ hr
     cases h
     have hne:s.drop pos≠[]:=by rw[Ne,List.drop_eq_nil_iff];omega
     have hv:¬((Lib.decodeL (s.drop pos)).1=65533∧(Lib.decodeL (s.drop pos)).2=1):=by
      rintro⟨q1,q2⟩
      rcases hc with hc|hc
      ·rw[tV,q1]at hc;simp at hc
      ·rw[aV8 hc]at q2;cases q2
     have hen:=Lib.encode_decode _ hne hv
     rw[←tV]at hen
     refine⟨?_,fun x hx=>?_⟩
     ·rw[zAK,hen,←e1,←zCv,zBl]
     ·rcases zAv.1 hx with rfl|hx
      ·have:=Lib.decodeL_rune (s.drop pos)
       rw[←tV]at this
       omega
      ·exact e2 x hx
   ·cases h
  simp_all
theorem lL{s:Txt}{l:List Int}(h:kB s=some l):s=l.flatMap Lib.encodeRune∧∀x∈l,x≤1114111:=aCD s _ 0 l h
theorem aE3{a b:Txt}(h:bX a=bX b):a=b:=by
 have big:∀{s:Txt} {l:List Int},kB s=none→(∀x∈l,x≤1114111)→(s.map fun b=>((b.toNat:Int)+1114112))≠l:=by
  intro s l hs hl he
  cases s with
  |nil=>cases hs
  |cons c s=>
   have:=hl ((c.toNat:Int)+1114112) (by rw[←he];simp)
   omega
 unfold bX at h
 cases ha:kB a with
 |some l=>
  obtain⟨e1,e2⟩:=lL ha
  cases hb:kB b with
  |some m=>
   rw[ha,hb]at h
   rw[e1,(lL hb).1]
   exact zAp _ h
  |none=>
   grind
 |none=>
  cases hb:kB b with
  |some m=>
   rw[ha,hb]at h
   exact absurd h (big ha (lL hb).2)
  |none=>
   rw[ha,hb]at h
   simp only at h
   refine(List.map_inj_right fun x y hxy=>?_).1 h
   have:x.toNat=y.toNat:=by omega
   exact UInt8.toNat_inj.1 this
theorem kH:Sort.SWO kG where
 irrefl:=fun x=>by simp[kG,aHJ]
 trans:=fun x y z h k=>by
  unfold kG at *
  rw[zAr]at *
  have h1:=nI (bX x) (bX y)
  have h2:=nI (bX y) (bX z)
  rw[aAR (show fK (bX x) (bX y)= -1 by omega) (show fK (bX y) (bX z)= -1 by omega)]
  omega
 ntrans:=fun x y z h k=>by
  unfold kG at *
  rw[zAC]at *
  intro q
  have h1:=nI (bX x) (bX y)
  have h2:=nI (bX y) (bX z)
  have h3:=nI (bX x) (bX z)
  have a1:=sJ (bX x) (bX y)
  have a2:=sJ (bX y) (bX z)
  rcases h1 with h1|h1|h1
  ·omega
  ·rw[aCC h1]at q;omega
  ·rcases h2 with h2|h2|h2
   ·omega
   ·rw[←aCC h2]at q;omega
   ·have:=aAR (show fK (bX z) (bX y)= -1 by omega) (show fK (bX y) (bX x)= -1 by omega)
    have a3:=sJ (bX x) (bX z)
    omega
theorem aBS{x y:Txt}(h:kG x y=false)(k:kG y x=false):x=y:=by
 unfold kG at *
 rw[zAC]at *
 have:=sJ (bX x) (bX y)
 exact aE3 (aCC (by omega))
def oZ(l:List Txt):List Txt:=l.mergeSort fun x y=> !kG y x
theorem aQ8(a b c:Txt):(!kG b a)=true→(!kG c b)=true→(!kG c a)=true:=by
 simp only[zBc]
 exact fun h k=>kH.ntrans c b a k h
theorem aNd(a b:Txt):((!kG b a)||(!kG a b))=true:=by
 cases h:kG b a with
 |false=>rfl
 |true=>
  cases k:kG a b with
  |false=>rfl
  |true=>have:=kH.trans _ _ _ h k;rw[kH.irrefl]at this;cases this
theorem iJ(l:List Txt):(oZ l).Perm l:=List.mergeSort_perm ..
theorem vL(l:List Txt):(oZ l).Pairwise fun x y=>(!kG y x)=true:=List.pairwise_mergeSort aQ8 aNd l
theorem tW{a l:List Txt}(hs:a.Pairwise fun x y=>(!kG y x)=true)(hp:a.Perm l):a=oZ l:=
 List.Perm.eq_of_pairwise (fun x y _ _ h k=>aBS (by simpa using k) (by simpa using h)) hs (vL l) (hp.trans (iJ l).symm)
structure Itm where
 path:Txt
 id:Int
 data:Txt
deriving DecidableEq,Inhabited
def itA(x:Itm):AV:=.agg [.str x.path,.int .i64 x.id,.str x.data]
@[go_sem] theorem aV9(x:Itm):Pur (itA x)=True:=by simp only[itA,go_sem]
def nJ(l:List Nd)(dir:Int):List Txt:=if chk l=true then oZ ((cG l dir).map (·.1))else[]
def aNe(l:List Nd)(dir:Int):List Int:=dir::eO l dir
def dG(l:List Nd)(out:List Int):Nat→Int→Txt→List Itm
 |0,_,_=>[]
 |k+1,dir,path=>(oZ (((cG l dir).filter fun p=> !out.contains p.2.id).map (·.1))).flatMap fun s=>match bT s (cG l dir)with
  |some n=>⟨path++(47::s),n.id,n.data⟩::(if dirI n.id=true then dG l out k n.id (path++(47::s))else[])
  |none=>[]
def cB(l:List Nd)(dir:Int):List Itm:=if chk l=true then dG l (aNe l dir) (l.length+1) dir []else[]
def lookI(p:Txt)(l:List Itm):Option Itm:=l.reverse.find? fun x=>decide (x.path=p)
def pA(is:List Itm)(t:Itm):Bool:=match lookI t.path is with|some n=> !decide (n.id=t.id)|none=>true
def rN(was:List Itm)(t:Itm):Bool:=match lookI t.path was with|some o=>decide (o.id=t.id)&& !decide (o.data=t.data)|none=>false
def mA(was is:List Itm):List Evt:=
 ((was.reverse.filter (pA is)).map fun t=>⟨1,t.path⟩)++((is.filter (pA was)).map fun t=>⟨2,t.path⟩)++((is.filter (rN was)).map fun t=>⟨3,t.path⟩)
def lM(e:List Evt)(over:Bool)(l:List Evt):List Evt×Bool:=
 if over=true then(e,true)else if 8-e.length<l.length then(e++l.take (8-e.length)++[⟨9,[]⟩],true)else(e++l,false)
end Go.Proofs.YtolbeecicikoaaaGreatDoor
namespace Go.Proofs.YtolbeecicikoaaaGreatDoor
structure Snp where
 n:Int
 nodes:List Nd
deriving DecidableEq,Inhabited
structure Wch where
 n:Int
 dir:Int
 evs:List Evt
 over:Bool
deriving DecidableEq,Inhabited
structure Mdl where
 log:Lg
 seen:Int
 rep:Int
 snaps:List Snp
 watches:List Wch
 next:Int
deriving DecidableEq,Inhabited
def dP(s:Snp):AV:=.agg [.int .i64 s.n,.sl false (s.nodes.map ndA)]
def cD(w:Wch):AV:=.agg [.int .i64 w.n,.int .i64 w.dir,.sl false (w.evs.map cY),.bool w.over]
def dN(e n s w:AV)(m:Mdl):AV:=.agg [e,n,.int .i64 m.seen,.int .i64 m.rep,s,w,.int .i64 m.next]
def bC(f1 f2 f3 f4:Bool)(m:Mdl):AV:=dN (.sl f1 (m.log.entries.map dM)) (.sl f2 (m.log.nodes.map ndA)) (.sl f3 (m.snaps.map dP)) (.sl f4 (m.watches.map cD)) m
@[go_sem] theorem aWa(x:Snp):Pur (dP x)=True:=by simp only[dP,go_sem]
@[go_sem] theorem aWb(x:Wch):Pur (cD x)=True:=by simp only[cD,go_sem]
@[go_sem] theorem aWc(f1 f2 f3 f4:Bool)(x:Mdl):Pur (bC f1 f2 f3 f4 x)=True:=by simp only[bC,dN,go_sem]
def sL:Mdl:=⟨⟨[],[]⟩,0,0,[],[],0⟩
def idI(a b:Int)(d:Bool):Int:=if zM a b=true then 128 * a+2 * b+(if d then 1 else 0)else-1
def kX(a b:Int):Bool:=decide (0≤a)&&decide (a<1048576)&&decide (0≤b)&&decide (b≤63)
theorem nK{a b:Int}:kX a b=true↔0≤a∧a<1048576∧0≤b∧b≤63:=by
 simp[kX,and_assoc]
def bY(n:Int)(s:Stm):Int:=if zM s.c s.r=true then max n s.c else n
def qL(n:Int)(first:Bool):Txt→Option (Int×Txt)
 |[]=>none
 |x::r=>if(first&&decide ((x.toNat:Int)=128)||decide (72057594037927935<n))=true then none
  else if(x.toNat:Int)<128 then some (n * 128+x.toNat,r)else qL (n * 128+((x.toNat:Int)-128)) false r
def cQ(b:Txt):Option (Int×Txt):=qL 0 true b
def pB(b:Txt):Option (Txt×Txt):=match cQ b with
 |none=>none
 |some (n,r)=>if(r.length:Int)<n then none else some (r.take n.toNat,r.drop n.toNat)
def qN(b:Txt):Option (Opn×Txt):=
 (cQ b).bind fun(c,b1)=>(cQ b1).bind fun(r,b2)=>(cQ b2).bind fun(k,b3)=>(cQ b3).bind fun(nd,b4)=>
  if k=1 then(cQ b4).bind fun(p,b5)=>(pB b5).bind fun(t,b6)=>if opOk ⟨⟨c,r⟩,k,nd,p,t,[]⟩=true then some (⟨⟨c,r⟩,k,nd,p,t,[]⟩,b6)else none
  else(pB b4).bind fun(t,b6)=>if opOk ⟨⟨c,r⟩,k,nd,0,[],t⟩=true then some (⟨⟨c,r⟩,k,nd,0,[],t⟩,b6)else none
def lN:Nat→Txt→Option (List Opn)
 |0,b=>if b=[]then some []else none
 |k+1,b=>if b=[]then some []else(qN b).bind fun(o,r)=>(lN k r).map (o::·)
def readO(b:Txt):Option (List Opn):=lN b.length b
structure Dsk where
 m:Mdl
 a:Ans
 ops:List Opn
deriving DecidableEq,Inhabited
def nextD(m:Mdl):Stm×Int:=if kX m.seen m.rep=false then(lT,20)else if(200:Int)≤(m.log.entries.length:Int)then(lT,193)else(⟨m.seen+1,m.rep⟩,0)
def nW(d:Dsk)(o:Opn):Int×Dsk:=if oQ d.m.log o=0 then(0,{d with m:={d.m with log:=dU d.m.log o},ops:=d.ops++[o]})else(oQ d.m.log o,d)
def qV(d:Dsk)(o:Opn):Int×Dsk:=
 if(nextD d.m).2=0 then
  (if(nW d {o with at_:=(nextD d.m).1}).1=0 then(0,{(nW d {o with at_:=(nextD d.m).1}).2 with m:={(nW d {o with at_:=(nextD d.m).1}).2.m with seen:=(nextD d.m).1.c}})
  else nW d {o with at_:=(nextD d.m).1})
 else((nextD d.m).2,d)
def fR(m:Mdl)(h:Int):Option (List Nd):=if h=0 then some m.log.nodes else(m.snaps.find? fun s=>decide (s.n=h)).map (·.nodes)
def atN(l:List Nd)(p:Txt):Int×Int:=match bV p with
 |none=>(0,10)
 |some ns=>fQ l ns
def abvN(l:List Nd)(p:Txt):Int×Txt×Int:=match bV p with
 |none=>(0,[],10)
 |some []=>(0,[],194)
 |some (x::xs)=>if(fQ l (x::xs).dropLast).2=0 then(if dirI (fQ l (x::xs).dropLast).1=true then((fQ l (x::xs).dropLast).1,(x::xs).getLast (by simp),0)else(0,[],81))else(0,[],(fQ l (x::xs).dropLast).2)
def qO(c:Cal)(d:Dsk):Int×Dsk:=
 if c.path=[47]then(194,d)else
 if(abvN d.m.log.nodes c.path).2.2=0 then
  (if(childN d.m.log.nodes (abvN d.m.log.nodes c.path).1 (abvN d.m.log.nodes c.path).2.1).isSome=true then(190,d)else
   if(nextD d.m).2=0 then qV d ⟨lT,1,idI (nextD d.m).1.c (nextD d.m).1.r (decide (c.kind=1)),(abvN d.m.log.nodes c.path).1,(abvN d.m.log.nodes c.path).2.1,[]⟩else((nextD d.m).2,d))
 else((abvN d.m.log.nodes c.path).2.2,d)
def nL(c:Cal)(d:Dsk):Int×Dsk:=
 if(atN d.m.log.nodes c.path).2=0 then(if dirI (atN d.m.log.nodes c.path).1=true then(82,d)else qV d ⟨lT,2,(atN d.m.log.nodes c.path).1,0,[],c.data⟩)
 else((atN d.m.log.nodes c.path).2,d)
def nM(c:Cal)(d:Dsk):Int×Dsk:=match fR d.m c.n with
 |none=>(191,d)
 |some l=>if(atN l c.path).2=0 then(if dirI (atN l c.path).1=true then(82,d)else(0,{d with a:={d.a with data:=((findI l (atN l c.path).1).getD nd0).data}}))else((atN l c.path).2,d)
def lsD(c:Cal)(d:Dsk):Int×Dsk:=match fR d.m c.n with
 |none=>(191,d)
 |some l=>if(atN l c.path).2=0 then(if dirI (atN l c.path).1=true then(0,{d with a:={d.a with names:=nJ l (atN l c.path).1}})else(81,d))else((atN l c.path).2,d)
def tH(c:Cal)(d:Dsk):Int×Dsk:=
 if c.path=[47]∨c.to=[47]then(194,d)else
 if(atN d.m.log.nodes c.path).2=0 then
  (if(abvN d.m.log.nodes c.to).2.2=0 then
   (if(childN d.m.log.nodes (abvN d.m.log.nodes c.to).1 (abvN d.m.log.nodes c.to).2.1).isSome=true then(190,d)else
    if(abvN d.m.log.nodes c.to).1=(atN d.m.log.nodes c.path).1∨(eO d.m.log.nodes (abvN d.m.log.nodes c.to).1).contains (atN d.m.log.nodes c.path).1=true then(192,d)
    else qV d ⟨lT,1,(atN d.m.log.nodes c.path).1,(abvN d.m.log.nodes c.to).1,(abvN d.m.log.nodes c.to).2.1,[]⟩)
  else((abvN d.m.log.nodes c.to).2.2,d))
 else((atN d.m.log.nodes c.path).2,d)
def lE(c:Cal)(d:Dsk):Int×Dsk:=
 if c.path=[47]then(194,d)else
 if(atN d.m.log.nodes c.path).2=0 then
  (match bV c.path with
  |some (x::xs)=>qV d ⟨lT,1,(atN d.m.log.nodes c.path).1,2,(x::xs).getLast (by simp),[]⟩
  |_=>(194,d))
 else((atN d.m.log.nodes c.path).2,d)
def rO(d:Dsk):Int×Dsk:=
 if(8:Int)≤(d.m.snaps.length:Int)then(193,d)else(0,{d with a:={d.a with n:=d.m.next},m:={d.m with snaps:=d.m.snaps++[⟨d.m.next,d.m.log.nodes⟩],next:=IntKind.i64.wrap (d.m.next+1)}})
def kI(c:Cal)(d:Dsk):Int×Dsk:=
 if(!(d.m.snaps.any fun s=>decide (s.n=c.n))&& !(d.m.watches.any fun w=>decide (w.n=c.n)))=true then(191,d)
 else(0,{d with m:={d.m with snaps:=d.m.snaps.filter (fun s=> !decide (s.n=c.n)),watches:=d.m.watches.filter (fun w=> !decide (w.n=c.n))}})
def nN(c:Cal)(d:Dsk):Int×Dsk:=
 if(atN d.m.log.nodes c.path).2=0 then
  (if dirI (atN d.m.log.nodes c.path).1=true then
   (if(8:Int)≤(d.m.watches.length:Int)then(193,d)else(0,{d with a:={d.a with n:=d.m.next},m:={d.m with watches:=d.m.watches++[⟨d.m.next,(atN d.m.log.nodes c.path).1,[],false⟩],next:=IntKind.i64.wrap (d.m.next+1)}}))
  else(81,d))
 else((atN d.m.log.nodes c.path).2,d)
def emptyW(n:Int):List Wch→List Wch
 |[]=>[]
 |w::l=>if w.n=n then{w with evs:=[]}::l else w::emptyW n l
def qP(c:Cal)(d:Dsk):Int×Dsk:=match d.m.watches.find? fun w=>decide (w.n=c.n)with
 |none=>(191,d)
 |some w=>(0,{d with a:={d.a with events:=w.evs},m:={d.m with watches:=emptyW c.n d.m.watches}})
def freshN(g:Lg):List Opn→List Opn→List Opn
 |acc,[]=>acc
 |acc,o::l=>freshN g (if(!fA g.entries o.at_&& !(acc.any fun f=>decide (f.at_=o.at_)))=true then acc++[o]else acc) l
def iK(d:Dsk):List Opn→Int×Dsk
 |[]=>(0,d)
 |o::l=>if(nW d o).1=0 then iK (nW d o).2 l else nW d o
def lW(c:Cal)(d:Dsk):Int×Dsk:=match readO c.data with
 |none=>(50,d)
 |some l=>
  if(200:Int)<(d.m.log.entries.length:Int)+((freshN d.m.log [] l).length:Int)then(193,d)else
  if(iK d (freshN d.m.log [] l)).1=0 then
   (0,{(iK d (freshN d.m.log [] l)).2 with a:={(iK d (freshN d.m.log [] l)).2.a with n:=(freshN d.m.log [] l).length},m:={(iK d (freshN d.m.log [] l)).2.m with seen:=l.foldl (fun n o=>bY n o.at_) d.m.seen}})
  else iK d (freshN d.m.log [] l)
def dH(c:Cal)(d:Dsk):Int×Dsk:=
 if c.kind=1∨c.kind=2 then qO c d else if c.kind=3 then nL c d else if c.kind=4 then nM c d else if c.kind=5 then tH c d else if c.kind=6 then lE c d
 else if c.kind=7 then lsD c d else if c.kind=8 then rO d else if c.kind=9 then kI c d else if c.kind=10 then nN c d else if c.kind=11 then qP c d
 else if c.kind=12 then(0,d)else lW c d
def pC(was is:List Nd)(w:Wch):Wch:={w with evs:=(lM w.evs w.over (mA (cB was w.dir) (cB is w.dir))).1,over:=(lM w.evs w.over (mA (cB was w.dir) (cB is w.dir))).2}
def vM(was:List Nd)(d:Dsk):Dsk:={d with m:={d.m with watches:=d.m.watches.map (pC was d.m.log.nodes)}}
end Go.Proofs.YtolbeecicikoaaaGreatDoor
namespace Go.Proofs.YtolbeecicikoaaaGreatDoor
theorem aE5{l:List Nd}{o:Opn}(h:bB l o=true):jQ l o=l∧qW l o=aQD:=by rw[jQ,qW,zAc h,zAc h];exact⟨rfl,rfl⟩
theorem aJ8{l:List Nd}{o:Opn}(h:chk l=false):bB l o=true:=by simp[bB,h]
theorem aCE(l:List Nd)(o:Opn):chk (jQ l o)=chk l:=by
 cases hc:chk l with
 |true=>exact aEZ o hc
 |false=>rw[(aE5 (o:=o) (aJ8 hc)).1,hc]
theorem aCF{l:List Nd}(hs:chk l=true)(n:Nd)(id:Int):lZ (xC l n) id=if id=n.id then some n else lZ l id:=by
 obtain⟨A,B,hA,hB,eA,eB,h⟩:=vC hs n.id
 rw[aEY n eA eB]
 by_cases hid:id=n.id
 ·rw[zAc hid];exact vB (fun x hx=>by rw[hid];exact hA x hx) hid.symm
 ·rw[zAb hid]
  have key:∀m:Nd,m.id=n.id→lZ (A++m::B) id=lZ (A++B) id:=by
   intro m hm
   unfold lZ
   rw[List.find?_append,List.find?_append,zCn,eT (by rw[hm];exact fun e=>hid e.symm)]
  rcases h with⟨h,_⟩|⟨m,hm,h,_⟩
  ·conv=>rhs;rw[h]
   exact key n rfl
  ·conv=>rhs;rw[h]
   rw[key m hm];exact key n rfl
theorem qB{l:List Nd}{o:Opn}(hk:o.kind=1):bM l o=⟨(dI l o).id,o.parent,o.name,o.at_,((lZ l o.node).getD nd0).data,((lZ l o.node).getD nd0).wrote⟩:=by
 unfold bM dI
 rw[zAc hk]
 cases lZ l o.node<;>rfl
theorem oR{l:List Nd}{o:Opn}(hk:o.kind=2):bM l o=⟨(dI l o).id,if(lZ l o.node).isSome=true then((lZ l o.node).getD nd0).parent else-1,((lZ l o.node).getD nd0).name,((lZ l o.node).getD nd0).moved,o.data,o.at_⟩:=by
 unfold bM dI
 rw[zAb (by omega)]
 cases lZ l o.node<;>rfl
theorem aNf{l:List Nd}(o:Opn)(id:Int)(hs:chk l=true)(hr:bB l o=false):findI (jQ l o) id=if id=o.node then some (bM l o)else findI l id:=by
 rw[findI,findI,aCE,zAc hs,zAc hs,kD hr,aCF hs,gN]
theorem aJ9{l:List Opn}{n:Int}(h:tT l n=true):(∀o∈l,OpS o)∧(l.length:Int)≤n:=by
 rw[tT,zAl]at h
 refine⟨fun o ho=>?_,zA6 h.2⟩
 have:=zAM.1 h.1 o ho
 simp[uZ]at this
 exact⟨by omega,by omega⟩
end Go.Proofs.YtolbeecicikoaaaGreatDoor
namespace Go.Proofs.YtolbeecicikoaaaGreatDoor
def par(l:List Nd)(id:Int):Option Int:=match lZ l id with|none=>none|some n=>if n.parent= -1 then none else some n.parent
theorem cT(l:List Nd)(k:Nat)(id:Int):cL l (k+1) id=match par l id with|none=>[]|some p=>p::cL l k p:=by
 grind [cL,par,lZ,id]
theorem aDO(l:List Nd)(k j:Nat)(id:Int):cL l k id=(cL l (k+j) id).take k:=by
 induction k generalizing id with
 |zero=>rfl
 |succ k ih=>
  rw[Nat.succ_add,cT,cT]
  grind
def Wfr(l:List Nd):Prop:=∃r:Int→Nat,∀x p,par l x=some p→r p<r x
def aDP(l:List Nd):Nat→Int→List Int
 |0,_=>[]
 |k+1,id=>match par l id with|none=>[]|some p=>id::aDP l k p
theorem aKa(l:List Nd)(k:Nat)(id:Int):(aDP l k id).length=(cL l k id).length:=by
 induction k generalizing id with
 |zero=>rfl
 |succ k ih=>
  rw[cT,aDP]
  grind
theorem aKb(l:List Nd)(k:Nat)(id:Int):∀x∈aDP l k id,x∈l.map Nd.id:=by
 induction k generalizing id<;>grind [id,aDP,par,zAv,lZ,zA5,zCG,zAi]
theorem aHK{l:List Nd}{r:Int→Nat}(hr:∀x p,par l x=some p→r p<r x)(k:Nat)(id:Int):(∀x∈aDP l k id,r x≤r id)∧(aDP l k id).Nodup:=by
 induction k generalizing id with
 |zero=>exact⟨fun x hx=>(by cases hx),List.nodup_nil⟩
 |succ k ih=>
  rw[aDP]
  grind
theorem aE6{l:List Nd}{r:Int→Nat}(hr:∀x p,par l x=some p→r p<r x)(k:Nat)(id:Int):∀x∈cL l k id,r x<r id:=by
 induction k generalizing id with
 |zero=>intro x hx;cases hx
 |succ k ih=>
  intro x hx
  rw[cT]at hx
  grind
theorem aQ9{xs ys:List Int}(hn:xs.Nodup)(hs:∀x∈xs,x∈ys):xs.length≤ys.length:=by
 induction xs generalizing ys with
 |nil=>exact zAn _
 |cons x xs ih=>
  have hx:=hs x (by simp)
  have h:=ih (ys:=ys.erase x) (zCF.1 hn).2 (fun z hz=>by
   grind)
  grind
theorem xH{l:List Nd}(h:Wfr l)(k:Nat)(id:Int):(cL l k id).length≤l.length:=by
 obtain⟨r,hr⟩:=h
 have:=aQ9 (aHK hr k id).2 (aKb l k id)
 rwa[aKa,zAj]at this
theorem nO{l:List Nd}(h:Wfr l){k:Nat}(hk:l.length≤k)(id:Int):cL l k id=bR l id:=by
 obtain⟨j,rfl⟩:∃j,k=l.length+j:=⟨k-l.length,by omega⟩
 rw[bR,aDO l l.length j id,zBh (xH h _ _)]
theorem aE7(l:List Nd)(k:Nat)(id:Int):∀y∈id::cL l k id,∀p,par l y=some p→p∈cL l (k+1) id:=by
 induction k generalizing id with
 |zero=>
  intro y hy p hp
  simp only[cL,zAv,zAS,zBY]at hy
  subst hy
  rw[cT,hp];simp
 |succ k ih=>
  intro y hy p hp
  rcases zAv.1 hy with rfl|hy
  ·rw[cT,hp];simp
  ·rw[cT]at hy
   rw[cT]
   cases hq:par l id with
   |none=>rw[hq]at hy;cases hy
   |some q=>
    grind
theorem aCG{l:List Nd}(h:Wfr l)(id:Int):∀y∈id::bR l id,∀p,par l y=some p→p∈bR l id:=by
 intro y hy p hp
 have:=aE7 l l.length id y hy p hp
 rwa[nO h (zCd _)]at this
theorem aHL{l:List Nd}{C:Int→Prop}(hc:∀y,C y→∀p,par l y=some p→C p)(k:Nat)(id:Int)(hi:C id):∀x∈cL l k id,C x:=by
 induction k generalizing id with
 |zero=>intro x hx;cases hx
 |succ k ih=>
  intro x hx
  rw[cT]at hx
  grind
theorem aS5{l:List Nd}(h:Wfr l)(id:Int):id∉bR l id:=by
 obtain⟨r,hr⟩:=h
 intro hx
 have:=aE6 hr _ _ _ hx
 omega
theorem aHM{l:List Nd}{o:Opn}(hs:chk l=true)(hr:bB l o=false)(hk:o.kind=2)(x:Int):par (jQ l o) x=par l x:=by
 grind [par,kD,aCF,gN,oR,lZ]
theorem aKc{l:List Nd}{o:Opn}(hs:chk l=true)(hr:bB l o=false)(hk:o.kind=1)(hp:o.parent≠ -1)(x:Int):par (jQ l o) x=if x=o.node then some o.parent else par l x:=by
 grind [par,kD,aCF,gN,qB]
theorem aCH{o:Opn}(h:opOk o=true):o.kind=1∨o.kind=2:=by
 unfold opOk at h
 simp only[zAl,zBS,zAr]at h
 exact h.1.1.1
theorem aGs{n:Int}(h:dirI n=true):n≠ -1:=by
 intro e;subst e;revert h;decide
theorem aKd{o:Opn}(h:opOk o=true)(hk:o.kind=1):dirI o.parent=true:=by
 grind [opOk,rJ]
theorem aPg{l:List Nd}{o:Opn}(h:bB l o=false):chk l=true∧opOk o=true∧(o.kind=1→nG l o=false):=by
 unfold bB at h
 grind
theorem aNg{l:List Nd}{o:Opn}(h:nG l o=false):o.node∉o.parent::bR l o.parent:=by
 grind [nG,zBw,zAC,zBK,zAv]
theorem aUh{l:List Nd}(o:Opn)(hs:chk l=true)(h:Wfr l):Wfr (jQ l o):=by
 cases hr:bB l o with
 |true=>rw[(aE5 hr).1];exact h
 |false=>
  obtain⟨-,hok,hlo⟩:=aPg hr
  rcases aCH hok with hk|hk
  ·have hno:=aNg (hlo hk)
   have hpar:=aKc hs hr hk (aGs (aKd hok hk))
   obtain⟨r,hr'⟩:=id h
   have hdesc:∀x p,x≠o.node→par l x=some p→(o.node∈x::bR l x↔o.node∈p::bR l p):=by
    intro x p hx hp
    have hcl:=aCG h x
    have hpx:p∈bR l x:=hcl x (by simp) p hp
    constructor
    ·intro hm
     rcases zAv.1 hm with e|hm
     ·exact absurd e.symm hx
     ·have hm2:o.node∈cL l (l.length+1) x:=by rw[nO h (zCd _)];exact hm
      rw[cT,hp]at hm2
      exact hm2
    ·intro hm
     refine zAP _ ?_
     rcases zAv.1 hm with e|hm
     ·rw[e];exact hpx
     ·exact aHL (C:=fun y=>y∈bR l x) (fun y hy q hq=>hcl y (zAP _ hy) q hq) _ p hpx _ hm
   refine⟨fun x=>if o.node∈x::bR l x then r x+r o.parent+1 else r x,fun x p hxp=>?_⟩
   grind
  ·obtain⟨r,hr'⟩:=h
   exact⟨r,fun x p hp=>hr' x p (by rw[aHM hs hr hk]at hp;exact hp)⟩
structure Frs (l:List Nd):Prop where
 chk:chk l=true
 wf:Wfr l
 dir:∀n∈l,n.parent= -1∨dirI n.parent=true
theorem aGt:Frs []:=⟨rfl,⟨fun _=>0,fun x p h=>by cases h⟩,fun n h=>by cases h⟩
theorem aCI{l:List Nd}{n x:Nd}(h:x∈xC l n):x=n∨x∈l:=by
 grind [xC,mH,zAu,zAD]
theorem aRa{l:List Nd}(o:Opn)(h:Frs l):Frs (jQ l o):=by
 refine⟨aEZ o h.chk,aUh o h.chk h.wf,?_⟩
 cases hr:bB l o with
 |true=>rw[(aE5 hr).1];exact h.dir
 |false=>
  obtain⟨-,hok, -⟩:=aPg hr
  intro n hn
  rw[kD hr]at hn
  rcases aCI hn with rfl|hn
  ·rcases aCH hok with hk|hk
   ·rw[qB hk];exact .inr (aKd hok hk)
   ·rw[oR hk]
    simp only
    cases hf:lZ l o.node with
    |none=>exact .inl rfl
    |some m=>exact h.dir m (zA5 hf)
  ·exact h.dir n hn
theorem aBT(s:List Opn){l:List Nd}(h:Frs l):Frs (s.foldl jQ l):=by
 induction s generalizing l with
 |nil=>exact h
 |cons o s ih=>exact ih (aRa o h)
theorem aNh{l:List Nd}(hs:chk l=true){n:Nd}(hn:n∈l):lZ l n.id=some n:=by
 have hp:=((oG l).1 hs).2
 cases h:lZ l n.id with
 |none=>
  have:=zBF.1 h n hn
  simp at this
 |some m=>
  have h1:=zA5 h
  have h2:m.id=n.id:=by have:=zCG h;simpa using this
  obtain⟨i,hi,rfl⟩:=zB1 h1
  obtain⟨j,hj,rfl⟩:=zB1 hn
  rcases Nat.lt_trichotomy i j with q|q|q
  ·have:=zBn.1 hp i j hi hj q;omega
  ·subst q;rfl
  ·have:=zBn.1 hp j i hj hi q;omega
end Go.Proofs.YtolbeecicikoaaaGreatDoor
namespace Go.Proofs.YtolbeecicikoaaaGreatDoor
theorem aE8{s:Txt}{n:Nd}(hn:n.name=s){m:List (Txt×Nd)}(h:∀p∈m,p.2.name=p.1):∀p∈gL s n m,p.2.name=p.1:=by
 induction m<;>grind [gL,zAx]
theorem aBU(s:Txt)(n:Nd)(m:List (Txt×Nd)):((gL s n m).map (·.1))=if s∈m.map (·.1)then m.map (·.1)else m.map (·.1)++[s]:=by
 induction m<;>grind [gL]
theorem aE9{s:Txt}{n:Nd}{m:List (Txt×Nd)}(h:(m.map (·.1)).Nodup):((gL s n m).map (·.1)).Nodup:=by
 rw[aBU]
 grind
theorem aKe{m:List (Txt×Nd)}(n:Nd)(h:(m.map (·.1)).Nodup∧∀p∈m,p.2.name=p.1):((rL m n).map (·.1)).Nodup∧∀p∈rL m n,p.2.name=p.1:=by
 have hs:((gL n.name n m).map (·.1)).Nodup∧∀p∈gL n.name n m,p.2.name=p.1:=⟨aE9 h.1,aE8 rfl h.2⟩
 unfold rL
 grind
theorem jV(l:List Nd)(dir:Int):((cG l dir).map (·.1)).Nodup∧∀p∈cG l dir,p.2.name=p.1:=by
 suffices h:∀(k:List Nd) (m:List (Txt×Nd)),((m.map (·.1)).Nodup∧∀p∈m,p.2.name=p.1)→((k.foldl (lV dir) m).map (·.1)).Nodup∧∀p∈k.foldl (lV dir) m,p.2.name=p.1 from
  h l [] ⟨List.nodup_nil,fun p hp=>by cases hp⟩
 intro k
 induction k with
 |nil=>exact fun m h=>h
 |cons x k ih=>
  intro m h
  refine ih _ ?_
  unfold lV
  split
  ·exact aKe x h
  ·exact h
theorem aDQ{s:Txt}{n:Nd}{m:List (Txt×Nd)}(hn:(m.map (·.1)).Nodup)(h:(s,n)∈m):bT s m=some n:=by
 induction m<;>grind [zAA,zCF,bT]
theorem aDR{s:Txt}{n:Nd}{m:List (Txt×Nd)}(h:bT s m=some n):(s,n)∈m:=by
 induction m<;>grind [bT]
theorem aHN{s:Txt}{m:List (Txt×Nd)}(h:s∈m.map (·.1)):∃n,bT s m=some n:=by
 induction m with
 |nil=>cases h
 |cons q m ih=>
  obtain⟨k,x⟩:=q
  unfold bT
  by_cases hk:k=s
  ·exact⟨x,zAc hk⟩
  grind
theorem aAS{m:List (Txt×Nd)}(hn:(m.map (·.1)).Nodup)(p:Txt×Nd→Bool):((m.filter p).map (·.1)).Nodup:=
 List.Nodup.sublist (List.Sublist.map _ List.filter_sublist) hn
def dep(l:List Nd)(x:Int):Nat:=(bR l x).length
theorem xI{l:List Nd}(h:Wfr l){x p:Int}(hp:par l x=some p):bR l x=p::bR l p:=by
 rw[←nO h (zCd _) x,cT,hp];rfl
theorem sM{l:List Nd}(h:Wfr l){x p:Int}(hp:par l x=some p):dep l x=dep l p+1:=by
 rw[dep,xI h hp];rfl
theorem aAU{l:List Nd}(h:Wfr l)(x:Int):dep l x≤l.length:=xH h _ _
theorem aKf{l:List Nd}(h:Wfr l):∀(j:Nat) {q w:Int},dep l q=j→w∈bR l q→dep l w<dep l q:=by
 intro j
 induction j with
 |zero=>grind [dep,zAO]
 |succ j ihj=>
  intro q w hj hw
  cases hq:par l q with
  |none=>
   have:bR l q=[]:=by rw[←nO h (zCd _) q,cT,hq]
   rw[this]at hw;cases hw
  |some r=>
   have hd:=sM h hq
   rw[xI h hq]at hw
   grind
theorem aVe{l:List Nd}(h:Wfr l):∀(k:Nat) {x y z:Int},dep l x=k→y∈bR l x→z∈bR l x→dep l y=dep l z→y=z:=by
 intro k
 induction k with
 |zero=>grind [dep,zAO]
 |succ k ih=>
  intro x y z hk hy hz he
  cases hp:par l x with
  |none=>
   have:bR l x=[]:=by rw[←nO h (zCd _) x,cT,hp]
   rw[this]at hy;cases hy
  |some p=>
   have e:=xI h hp
   have hkp:dep l p=k:=by have:=sM h hp;omega
   have lt:∀{w:Int},w∈bR l p→dep l w<dep l p:=fun hw=>aKf h _ rfl hw
   grind
theorem rQ{l:List Nd}(hc:chk l=true){dir:Int}(hd:dirI dir=true){s:Txt}{n:Nd}(h:(s,n)∈cG l dir):par l n.id=some dir∧n∈l∧lZ l n.id=some n:=by
 obtain⟨h1,h2⟩:=aBP l dir _ h
 have hf:=aNh hc h1
 simp only at h1 h2 hf
 unfold zN at h2
 rw[zAl,zAr]at h2
 refine⟨?_,h1,hf⟩
 rw[par,hf]
 simp only
 rw[zAb (by rw[h2.1];exact aGs hd),h2.1]
theorem pD{l:List Nd}{dir:Int}{s:Txt}{n:Nd}(h:bT s (cG l dir)=some n):(s,n)∈cG l dir:=aDR h
def aCJ(l:List Nd)(out:List Int)(dir:Int):List Txt:=oZ (((cG l dir).filter fun p=> !out.contains p.2.id).map (·.1))
theorem yU{l:List Nd}(hc:chk l=true)(h:Wfr l)(out:List Int):∀(k j:Nat) (dir:Int) (path:Txt),dirI dir=true→l.length<k+dep l dir→l.length<j+dep l dir→dG l out k dir path=dG l out j dir path:=by
 intro k
 induction k with
 |zero=>intro j dir path _ hk;have:=aAU h dir;omega
 |succ k ih=>
  intro j dir path hd hk hj
  cases j with
  |zero=>have:=aAU h dir;omega
  |succ j=>
   rw[dG,dG]
   congr 1
   funext s
   cases hl:bT s (cG l dir)with
   |none=>rfl
   |some n=>
    have hp:=(rQ hc hd (pD hl)).1
    have hdp:=sM h hp
    grind
def blw(l:List Nd)(out:List Int)(dir:Int)(path:Txt):List Itm:=dG l out (l.length+1) dir path
def aKg(l:List Nd)(out:List Int)(dir:Int)(path:Txt)(s:Txt):List Itm:=match bT s (cG l dir)with
 |some n=>⟨path++(47::s),n.id,n.data⟩::(if dirI n.id=true then blw l out n.id (path++(47::s))else[])
 |none=>[]
theorem aKh{l:List Nd}(hc:chk l=true)(h:Wfr l)(out:List Int){dir:Int}(hd:dirI dir=true)(path:Txt):blw l out dir path=(aCJ l out dir).flatMap (aKg l out dir path):=by
 rw[blw,dG]
 unfold aCJ
 congr 1
 funext s
 unfold aKg
 cases hl:bT s (cG l dir)with
 |none=>rfl
 |some n=>
  have hp:=(rQ hc hd (pD hl)).1
  have hdp:=sM h hp
  simp only
  by_cases hdn:dirI n.id=true
  ·rw[zAc hdn,zAc hdn,blw,yU hc h out l.length (l.length+1) n.id _ hdn (by omega) (by omega)]
  ·rw[zAb hdn,zAb hdn]
theorem aRb{l:List Nd}{out:List Int}{dir:Int}{s:Txt}(h:s∈aCJ l out dir):∃n,bT s (cG l dir)=some n∧(s,n)∈cG l dir∧out.contains n.id=false:=by
 have h1:=(iJ _).mem_iff.1 h
 obtain⟨p,hp,rfl⟩:=zAi.1 h1
 obtain⟨h2,h3⟩:=zBi.1 hp
 exact⟨p.2,aDQ (jV l dir).1 h2,h2,by simpa using h3⟩
theorem aNj(l:List Nd)(out:List Int)(dir:Int):(aCJ l out dir).Nodup:=(iJ _).nodup_iff.2 (aAS (jV l dir).1 _)
theorem aVf{l:List Nd}(hc:chk l=true)(h:Wfr l)(out:List Int):∀(k:Nat) (dir:Int) (path:Txt),dirI dir=true→l.length<k+dep l dir→
  ((blw l out dir path).map (·.id)).Nodup∧∀x∈(blw l out dir path).map (·.id),x∈l.map Nd.id∧dir∈bR l x:=by
 intro k
 induction k with
 |zero=>intro dir path _ hk;have:=aAU h dir;omega
 |succ k ih=>
  intro dir path hd hk
  rw[aKh hc h out hd]
  -- the piece of one name
  have piece:∀s∈aCJ l out dir,∃n,(s,n)∈cG l dir∧((aKg l out dir path s).map (·.id)).Nodup∧
    ∀x∈(aKg l out dir path s).map (·.id),x∈l.map Nd.id∧dir∈bR l x∧(x=n.id∨n.id∈bR l x):=by
   intro s hs
   obtain⟨n,hl,hm,_⟩:=aRb hs
   obtain⟨hp,hnl,_⟩:=rQ hc hd hm
   have hdp:=sM h hp
   have hin:n.id∈l.map Nd.id:=zAi.2 ⟨n,hnl,rfl⟩
   have hab:dir∈bR l n.id:=by rw[xI h hp];simp
   refine⟨n,hm,?_⟩
   unfold aKg
   rw[hl]
   simp only
   by_cases hdn:dirI n.id=true
   ·rw[zAc hdn]
    obtain⟨i1,i2⟩:=ih n.id (path++(47::s)) hdn (by omega)
    refine⟨?_,fun x hx=>?_⟩
    ·rw[zAA,zCF]
     refine⟨fun hx=>?_,i1⟩
     exact aS5 h _ (i2 _ hx).2
    ·rw[zAA,zAv]at hx
     rcases hx with rfl|hx
     ·exact⟨hin,hab,.inl rfl⟩
     ·obtain⟨j1,j2⟩:=i2 x hx
      have:dir∈bR l x:=aCG h x n.id (zAP _ j2) dir hp
      exact⟨j1,this,.inr j2⟩
   ·rw[zAb hdn]
    exact⟨by simp,fun x hx=>by simp only[zAA,zBx,zAx]at hx;subst hx;exact⟨hin,hab,.inl rfl⟩⟩
  have disj:∀s∈aCJ l out dir,∀t∈aCJ l out dir,s≠t→∀x∈(aKg l out dir path s).map (·.id),x∉(aKg l out dir path t).map (·.id):=by
   intro s hs t ht hne x hx hy
   obtain⟨n,hm, -,k1⟩:=piece s hs
   obtain⟨m,hm', -,k2⟩:=piece t ht
   obtain⟨-, -,q1⟩:=k1 x hx
   obtain⟨-, -,q2⟩:=k2 x hy
   obtain⟨p1,l1,f1⟩:=rQ hc hd hm
   obtain⟨p2,l2,f2⟩:=rQ hc hd hm'
   have d1:=sM h p1
   have d2:=sM h p2
   have hid:n.id≠m.id:=fun e=>by
    rw[e,f2]at f1
    cases f1
    have a:=(jV l dir).2 _ hm
    have b:=(jV l dir).2 _ hm'
    exact hne (a.symm.trans b)
   rcases q1 with rfl|q1<;>rcases q2 with e2|q2
   ·exact hid e2
   ·have:=aKf h _ rfl q2;omega
   ·subst e2;have:=aKf h _ rfl q1;omega
   ·exact hid (aVe h _ rfl q1 q2 (by omega))
  refine⟨?_,fun x hx=>?_⟩
  ·rw[List.map_flatMap]
   rw[List.nodup_iff_pairwise_ne,List.pairwise_flatMap]
   refine⟨fun s hs=>?_,?_⟩
   ·obtain⟨_,_,k1,_⟩:=piece s hs;exact k1
   ·have hnd:=aNj l out dir
    rw[List.nodup_iff_pairwise_ne]at hnd
    exact(List.Pairwise.and_mem.1 hnd).imp fun{s t} ⟨hs,ht,hne⟩ x hx y hy e=>by subst e;exact disj s hs t ht hne x hx hy
  ·rw[List.map_flatMap,zBG]at hx
   obtain⟨s,hs,hx⟩:=hx
   obtain⟨_,_,_,k1⟩:=piece s hs
   exact⟨(k1 x hx).1,(k1 x hx).2.1⟩
theorem aGu{l:List Nd}(hc:chk l=true)(h:Wfr l)(out:List Int)(dir:Int)(path:Txt)(hd:dirI dir=true):(blw l out dir path).length≤l.length:=by
 obtain⟨h1,h2⟩:=aVf hc h out (l.length+1) dir path hd (by omega)
 have:=aQ9 h1 (fun x hx=>(h2 x hx).1)
 simpa using this
end Go.Proofs.YtolbeecicikoaaaGreatDoor
namespace Go.Proofs.YtolbeecicikoaaaGreatDoor
theorem aWd(b1 b2 b3:Bool)(g:Lg)(l:List Opn)(hf:Fit g l.length)(hl:∀o∈l,OpS o)(H:AHeap):bD Tryz.prog 35 [qT b1 b2 g,.sl b3 (l.map opA)] H (aJ2 (eQ g l) (aAH g l)):=by
 refine fO Tryz.func35 ?_
 have hsm:=aM7 b1 b2 g (by have:=hf.len;omega) (by have:=hf.nodes;omega)
 have hlen:l.length≤1000000:=by have:=hf.nodes;omega
 simp only[qT,lgA,aJ2]at hsm ⊢
 repeat' first|(refine gS ?_;simp only[go_sem])|refine gA ?_|(refine gD (fun h=>?_) (fun h=>?_)<;>try exact aA h)|fail
 refine aH (ι:=Nat×AHeap) (fun x=>[(4,.ref (H.length+1) 0 0),(6,.ref (H.length+2) 0 0),(7,.int .i64 (aAH g (l.take x.1))),(13,.sl b3 (l.map opA)),(14,.int .i64 l.length),(15,.int .i64 x.1)])
  (fun x=>x.2) (fun x=>x.1≤l.length∧hget x.2 (H.length+1)=.cells 0 [.sl true [],.sl true []]∧hget x.2 (H.length+2)=.cells 0 [.sl false ((eQ g (l.take x.1)).entries.map dM),.sl false ((eQ g (l.take x.1)).nodes.map ndA)]∧∃M,x.2=H++M)
  (fun x=>l.length-x.1) (0,_) ⟨zAn _,by simp only[go_sem],by simp only[go_sem];rfl,⟨_,rfl⟩⟩ ?_ rfl ?_
 ·simp[go_sem,aAH]
 ·rintro⟨i,X⟩ ⟨hi,r1,r2,rP⟩
  simp only at hi r1 r2 rP ⊢
  have hX1:H.length+1<X.length:=aU r1 trivial
  have hX2:H.length+2<X.length:=aU r2 trivial
  have r2':=fun M=>aG r2 trivial M
  have qs:=fun M b=>bE hX2 M b
  by_cases hlt:i<l.length
  ·have hp:=aJ opA hlt
   have hli:decide ((i:Int)<(l.length:Int))=true:=dT
   have htk:l.take (i+1)=l.take i++[l[i]]:=zAa hlt
   have hops:∀o∈l.take i,OpS o:=fun o ho=>hl o (List.mem_of_mem_take ho)
   have hfi:Fit (eQ g (l.take i)) 1:=Fit.all (k:=1) (hf.less (by rw[zAy];omega)) hops
   have hadd:=aQ5 false false (eQ g (l.take i)) l[i] (hl _ (zAF hlt)) hfi.ops (by have:=hfi.nodes;omega) (by have:=hfi.len;omega)
   have hG:eQ g (l.take (i+1))=dU (eQ g (l.take i)) l[i]:=by rw[htk,aJN];rfl
   have hN:aAH g (l.take (i+1))=aAH g (l.take i)+(if oQ (eQ g (l.take i)) l[i]=0 then 0 else 1):=by rw[htk,aT8];simp[aAH]
   have hnle:=aVd g (l.take i)
   rw[zAy]at hnle
   have hw:IntKind.i64.wrap (aAH g (l.take i)+1)=aAH g (l.take i)+1:=wI
   simp only[qT,lgA,opA,aJ2]at hadd
   repeat' first|(refine gS ?_;simp only[go_sem,hp,opA,hli,r2',qs,hw])|refine gA ?_|(refine gD (fun h=>?_) (fun h=>?_)<;>try exact aA h)|fail
   ·have he:¬oQ (eQ g (l.take i)) l[i]=0:=by simpa using h
    rw[zAb he]at hN
    exact⟨(i+1,_),⟨hlt,aG ((aP (by omega) _).trans r1) trivial _,by simp only;rw[hG];exact aG (b:=.cells 0 [.sl false ((dU (eQ g (l.take i)) l[i]).entries.map dM),.sl false ((dU (eQ g (l.take i)) l[i]).nodes.map ndA)]) (bU hX2 _) trivial _,mJ (cR rP (by omega) _) _⟩,by simp only;omega,⟨by simp only;rw[hN],zAp _ (aK hlt (by omega))⟩,rfl⟩
   ·have he:oQ (eQ g (l.take i)) l[i]=0:=by simpa using h
    rw[zAc he]at hN
    exact⟨(i+1,_),⟨hlt,aG ((aP (by omega) _).trans r1) trivial _,by simp only;rw[hG];exact aG (b:=.cells 0 [.sl false ((dU (eQ g (l.take i)) l[i]).entries.map dM),.sl false ((dU (eQ g (l.take i)) l[i]).nodes.map ndA)]) (bU hX2 _) trivial _,mJ (cR rP (by omega) _) _⟩,by simp only;omega,⟨by simp only;rw[hN,Int.add_zero],zAp _ (aK hlt (by omega))⟩,rfl⟩
  ·have hie:i=l.length:=by omega
   subst hie
   have hli:decide ((l.length:Int)<(l.length:Int))=false:=by simp
   have sS:∀b,hget (aB X (H.length+1) b) (H.length+1)=b:=fun b=>bU hX1 b
   rw[zAq]at r2 ⊢
   refine hH ?_
   obtain⟨M2,hM2⟩:=cR rP (i:=H.length+1) (by omega) (.cells 0 [.sl false ((eQ g l).entries.map dM),.sl false ((eQ g l).nodes.map ndA)])
   exact⟨M2,_,hM2,.cl _ (Pur.cl (by simp only[go_sem]) _),rfl⟩
theorem lO(l:List Opn):∀e∈l.map opA,e.cells.length=7:=fun e he=>by
 obtain⟨x,_,rfl⟩:=zAi.1 he;rfl
theorem rR(l:List Opn):(List.flatMap AV.cells (l.map opA)).length=l.length * 7:=(rC (lO l)).trans (by rw[zAj])
end Go.Proofs.YtolbeecicikoaaaGreatDoor
namespace Go.Proofs.YtolbeecicikoaaaGreatDoor
def aUi(n:Nat):Txt:=if h:n=0 then[]else aUi (n / 128)++[UInt8.ofNat (n % 128+128)]
termination_by n
decreasing_by omega
def aKi(n:Nat):Txt:=aUi (n / 128)++[UInt8.ofNat (n % 128)]
theorem aVg:aUi 0=[]:=by rw[aUi];simp
theorem aVh{n:Nat}(h:n≠0):aUi n=aUi (n / 128)++[UInt8.ofNat (n % 128+128)]:=by rw[aUi,dif_neg h]
theorem aHO:∀(k n:Nat),n≤k→(aUi n).length≤n:=by
 intro k
 induction k with
 |zero=>grind [aVg]
 |succ k ih=>
  intro n h
  by_cases h0:n=0
  ·rw[h0,aVg];exact zAh _
  ·have:=ih (n / 128) (by omega)
   rw[aVh h0,zAe,zAX];omega
theorem gY{n:Nat}(h:n<9223372036854775808):(aKi n).length≤72057594037927937:=by
 have:=aHO _ (n / 128) (zAh _)
 rw[aKi,zAe,zAX];omega
theorem u8n{k:Nat}(h:k<256):(UInt8.ofNat k).toNat=k:=by simp[UInt8.toNat_ofNat'];omega
theorem aFa(m:Int)(f:Bool)(x:UInt8)(r:Txt):qL m f (x::r)=if(f&&decide ((x.toNat:Int)=128)||decide (72057594037927935<m))=true then none
  else if(x.toNat:Int)<128 then some (m * 128+x.toNat,r)else qL (m * 128+((x.toNat:Int)-128)) false r:=rfl
theorem takeG_high(s:Txt):∀(k n:Nat),n≤k→n≤72057594037927935→qL 0 true (aUi n++s)=if n=0 then qL 0 true s else qL n false s:=by
 intro k
 induction k generalizing s with
 |zero=>grind [aVg]
 |succ k ih=>
  intro n h hn
  by_cases h0:n=0
  ·rw[h0,aVg,zAc rfl];rfl
  ·rw[aVh h0,zAu,ih _ (n / 128) (by omega) (by omega),zAb h0]
   have hu:=u8n (k:=n % 128+128) (by omega)
   by_cases h1:n / 128=0
   ·rw[zAc h1,List.singleton_append,aFa,hu,zAb (by simp;omega),zAb (by omega)]
    rw[show((0:Int) * 128+(((n % 128+128:Nat):Int)-128))=(n:Int) by omega]
   ·rw[zAb h1,List.singleton_append,aFa,hu,zAb (by simp;omega),zAb (by omega)]
    rw[show(((n / 128:Nat):Int) * 128+(((n % 128+128:Nat):Int)-128))=(n:Int) by omega]
theorem aS6{n:Nat}(h:n<9223372036854775808)(s:Txt):cQ (aKi n++s)=some ((n:Int),s):=by
 have hu:=u8n (k:=n % 128) (by omega)
 rw[cQ,aKi,zAu,takeG_high _ _ _ (zAh _) (by omega),List.singleton_append]
 split
 ·rw[aFa,hu,zAb (by simp;omega),zAc (by omega)]
  grind
 ·rw[aFa,hu,zAb (by simp;omega),zAc (by omega)]
  grind
theorem takeG_read:∀(b:Txt) {m:Nat} {f:Bool} {n:Int} {r:Txt},(f=true↔m=0)→qL m f b=some (n,r)→
  0≤n∧n<9223372036854775808∧aUi m++b=aKi n.toNat++r:=by
 intro b
 induction b with
 |nil=>intro m f n r _ h;cases h
 |cons x b ih=>
  intro m f n r hf h
  have hx:x.toNat<256:=x.toNat_lt
  rw[aFa]at h
  split at h
  ·cases h
  ·rename_i hc
   simp only[zBS,zAl,zAr,not_or,not_and]at hc
   split at h
   ·rename_i hl
    obtain⟨rfl,rfl⟩:(m:Int) * 128+x.toNat=n∧b=r:=by simpa using h
    refine⟨by omega,by omega,?_⟩
    rw[show((m:Int) * 128+x.toNat).toNat=m * 128+x.toNat by omega,aKi,show(m * 128+x.toNat) / 128=m by omega,show(m * 128+x.toNat) % 128=x.toNat by omega,UInt8.ofNat_toNat,zAu];rfl
   ·rename_i hl
    have hk:((m:Int) * 128+((x.toNat:Int)-128))=((m * 128+(x.toNat-128):Nat):Int):=by omega
    rw[hk]at h
    have hz:m * 128+(x.toNat-128)≠0:=by
     intro hz
     have hm:m=0:=by omega
     exact hc.1 (hf.2 hm) (by omega)
    obtain⟨h1,h2,h3⟩:=ih (by simp;omega) h
    refine⟨h1,h2,?_⟩
    rw[←h3,aVh hz,show(m * 128+(x.toNat-128)) / 128=m by omega,show(m * 128+(x.toNat-128)) % 128+128=x.toNat by omega,UInt8.ofNat_toNat,zAu];rfl
theorem aFb{b r:Txt}{n:Int}(h:cQ b=some (n,r)):0≤n∧n<9223372036854775808∧b=aKi n.toNat++r:=by
 have:=takeG_read b (m:=0) (f:=true) (by simp) h
 rwa[aVg,zAG]at this
def aPh(t:Txt):Txt:=aKi t.length++t
theorem takeT_text{t:Txt}(h:t.length<9223372036854775808)(s:Txt):pB (aPh t++s)=some (t,s):=by
 rw[pB,aPh,zAu,aS6 h]
 simp only[zAe]
 rw[zAb (by omega)]
 simp
theorem takeT_read{b t r:Txt}(h:pB b=some (t,r)):b=aPh t++r:=by
 unfold pB at h
 split at h
 ·cases h
 ·rename_i n q hv
  obtain⟨h1,h2,h3⟩:=aFb hv
  grind [aPh,zAy,min,zAu,zBl]
def aCK(o:Opn):Txt:=aKi o.at_.c.toNat++aKi o.at_.r.toNat++aKi o.kind.toNat++aKi o.node.toNat++(if o.kind=1 then aKi o.parent.toNat++aPh o.name else aPh o.data)
theorem aKj{o:Opn}(h:opOk o=true):(0≤o.at_.c∧o.at_.c<9223372036854775808)∧(0≤o.at_.r∧o.at_.r<9223372036854775808)∧(0≤o.node∧o.node<9223372036854775808)∧
  ((o.kind=1∧0≤o.parent∧o.parent<9223372036854775808∧o.data=[])∨(o.kind=2∧o.parent=0∧o.name=[])):=by
 unfold opOk at h
 simp only[zAl,zBS,zAr]at h
 obtain⟨⟨⟨hk,hok⟩, -⟩,hf⟩:=h
 have ho:=oU.1 hok
 refine⟨by omega,by omega,?_⟩
 rcases hk with hk|hk
 ·rw[zAc hk]at hf
  unfold rJ at hf
  simp only[zAl,zAr]at hf
  obtain⟨⟨⟨⟨h1,h2⟩, -⟩, -⟩,h5⟩:=hf
  have hn:=tQ.1 h1
  refine⟨by omega,.inl ⟨hk,?_⟩⟩
  unfold dirI at h2
  simp only[zBS,zAl,zAr]at h2
  rcases h2 with(h2|h2)|⟨h2, -⟩
  ·exact⟨by omega,by omega,h5⟩
  ·exact⟨by omega,by omega,h5⟩
  ·have:=tQ.1 h2;exact⟨by omega,by omega,h5⟩
 ·rw[zAb (by omega)]at hf
  unfold uY at hf
  simp only[zAl,zAr]at hf
  obtain⟨⟨⟨⟨h1, -⟩, -⟩,h4⟩,h5⟩:=hf
  have hn:=tQ.1 h1
  exact⟨by omega,.inr ⟨hk,h4,h5⟩⟩
theorem takeV_oneI{n:Int}(h0:0≤n)(h:n<9223372036854775808)(s:Txt):cQ (aKi n.toNat++s)=some (n,s):=by
 rw[aS6 (by omega),Int.toNat_of_nonneg h0]
theorem takeO_bytes{o:Opn}(h:opOk o=true)(hn:o.name.length<9223372036854775808)(hd:o.data.length<9223372036854775808)(s:Txt):qN (aCK o++s)=some (o,s):=by
 obtain⟨⟨c0,c1⟩,⟨r0,r1⟩,⟨n0,n1⟩,hk⟩:=aKj h
 unfold qN aCK
 simp only[zAu]
 rw[takeV_oneI c0 c1,zBd,takeV_oneI r0 r1,zBd]
 obtain⟨⟨c,r⟩,k,nd,p,nm,dt⟩:=o
 simp only at *
 rcases hk with⟨rfl,p0,p1,rfl⟩|⟨rfl,rfl,rfl⟩
 ·rw[takeV_oneI (by omega) (by omega),zBd,takeV_oneI n0 n1,zBd,zAc rfl,zAc rfl,zAu,takeV_oneI p0 p1,zBd,takeT_text hn,zBd,zAc h]
 ·rw[takeV_oneI (by omega) (by omega),zBd,takeV_oneI n0 n1,zBd,zAb (by omega),zAb (by omega),takeT_text hd,zBd,zAc h]
def dtv(b:Txt):Int×Txt:=(cQ b).getD (0,[])
def dtt(b:Txt):Txt×Txt:=(pB b).getD ([],[])
def docO(b:Txt):Opn:=
 if(dtv (dtv (dtv b).2).2).1=1 then⟨⟨(dtv b).1,(dtv (dtv b).2).1⟩,(dtv (dtv (dtv b).2).2).1,(dtv (dtv (dtv (dtv b).2).2).2).1,(dtv (dtv (dtv (dtv (dtv b).2).2).2).2).1,(dtt (dtv (dtv (dtv (dtv (dtv b).2).2).2).2).2).1,[]⟩
 else⟨⟨(dtv b).1,(dtv (dtv b).2).1⟩,(dtv (dtv (dtv b).2).2).1,(dtv (dtv (dtv (dtv b).2).2).2).1,0,[],(dtt (dtv (dtv (dtv (dtv b).2).2).2).2).1⟩
theorem dtt_len(b:Txt):(dtt b).1.length≤b.length:=by
 unfold dtt pB
 split
 ·simp
 ·rename_i n r hv
  have h3:=(aFb hv).2.2
  grind
theorem aCL(b:Txt):(dtv b).2.length≤b.length:=by
 unfold dtv
 cases hv:cQ b with
 |none=>simp
 |some p=>
  obtain⟨n,r⟩:=p
  have h3:=(aFb hv).2.2
  grind
theorem docO_of{b r:Txt}{o:Opn}(h:qN b=some (o,r)):docO b=o∧opOk o=true∧b=aCK o++r:=by
 unfold qN at h
 simp only[zBm]at h
 obtain⟨⟨c,b1⟩,h1,⟨rr,b2⟩,h2,⟨k,b3⟩,h3,⟨nd,b4⟩,h4,h⟩:=h
 simp only at h2 h3 h4 h
 have e1:dtv b=(c,b1):=by rw[dtv,h1];rfl
 have e2:dtv b1=(rr,b2):=by rw[dtv,h2];rfl
 have e3:dtv b2=(k,b3):=by rw[dtv,h3];rfl
 have e4:dtv b3=(nd,b4):=by rw[dtv,h4];rfl
 have r1:=(aFb h1).2.2
 have r2:=(aFb h2).2.2
 have r3:=(aFb h3).2.2
 have r4:=(aFb h4).2.2
 unfold docO
 simp only[e1,e2,e3,e4]
 split at h
 ·rename_i hk
  simp only[zBm]at h
  obtain⟨⟨p,b5⟩,h5,⟨t,b6⟩,h6,h⟩:=h
  simp only at h6 h
  have e5:dtv b4=(p,b5):=by rw[dtv,h5];rfl
  have e6:dtt b5=(t,b6):=by rw[dtt,h6];rfl
  have r5:=(aFb h5).2.2
  have r6:=takeT_read h6
  split at h
  ·grind [aCK,zAu]
  ·cases h
 ·rename_i hk
  simp only[zBm]at h
  obtain⟨⟨t,b6⟩,h6,h⟩:=h
  simp only at h
  have e6:dtt b4=(t,b6):=by rw[dtt,h6];rfl
  have r6:=takeT_read h6
  split at h
  ·rename_i ho
   cases h
   refine⟨by rw[zAb hk];simp only[e6],ho,?_⟩
   rw[aCK,zAb hk]
   simp only[zAu]
   rw[←r6,←r4,←r3,←r2,←r1]
  ·cases h
theorem aS8{b:Txt}(hb:b.length<9223372036854775808):qN b=if opOk (docO b)=true∧(aCK (docO b)).length≤b.length∧aCK (docO b)=b.take (aCK (docO b)).length then some (docO b,b.drop (aCK (docO b)).length)else none:=by
 have hl:(docO b).name.length<9223372036854775808∧(docO b).data.length<9223372036854775808:=by
  have l1:=aCL b
  have l2:=aCL (dtv b).2
  have l3:=aCL (dtv (dtv b).2).2
  have l4:=aCL (dtv (dtv (dtv b).2).2).2
  have l5:=aCL (dtv (dtv (dtv (dtv b).2).2).2).2
  have l6:=dtt_len (dtv (dtv (dtv (dtv (dtv b).2).2).2).2).2
  have l7:=dtt_len (dtv (dtv (dtv (dtv b).2).2).2).2
  unfold docO
  split
  ·grind
  ·exact⟨by simp,by simp only;omega⟩
 split
 ·rename_i h
  obtain⟨h1,h2,h3⟩:=h
  have he:b=aCK (docO b)++b.drop (aCK (docO b)).length:=by
   conv=>lhs;rw[←zBl (aCK (docO b)).length b]
   rw[←h3]
  have:=takeO_bytes h1 hl.1 hl.2 (b.drop (aCK (docO b)).length)
  rwa[←he]at this
 ·rename_i h
  cases ho:qN b with
  |none=>rfl
  |some p=>
   obtain⟨o,r⟩:=p
   obtain⟨h1,h2,h3⟩:=docO_of ho
   exfalso
   apply h
   rw[h1]
   refine⟨h2,?_,?_⟩
   ·rw[h3,zAe];omega
   ·conv=>rhs;rw[h3]
    rw[zCw]
end Go.Proofs.YtolbeecicikoaaaGreatDoor
