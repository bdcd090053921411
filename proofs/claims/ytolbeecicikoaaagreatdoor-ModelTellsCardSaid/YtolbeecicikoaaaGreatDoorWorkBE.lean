/- The texts 31 of 53 beneath the rows of this seat (joined by program): the abstract machine, and what the functions answer. No condition. -/
import Derived.Test.YtolbeecicikoaaaGreatDoorWorkAX
import Derived.Test.YtolbeecicikoaaaGreatDoorWorkAZ
set_option linter.unusedSimpArgs false
set_option linter.unusedVariables false
set_option linter.unusedSectionVars false
set_option maxRecDepth 100000
set_option maxHeartbeats 16000000
namespace Go.Proofs.YtolbeecicikoaaaGreatDoor
def aFz:List Pl:=[.pure 0,.free,.free,.pure 0,.pure 0,.eff [true,true,false],.free,.free]
attribute [go_sem] aFz
theorem wC{n:Int}(h0:0≤n)(h:n<9223372036854775808)(H:AHeap):bD Tryz.prog 190 [.int .i64 n] H (.str (aKi n.toNat)):=by
 obtain⟨m,rfl⟩:∃m:Nat,n=(m:Int):=⟨n.toNat,by omega⟩
 exact aFw m (by omega) H
theorem aLb(o:Opn)(ho:opOk o=true)(hs:OpS o)(H:AHeap):bD Tryz.prog 191 [opA o] H (.str (aCK o)):=by
 refine fO Tryz.func191 ?_
 obtain⟨⟨c0,c1⟩,⟨r0,r1⟩,⟨n0,n1⟩,hk⟩:=aKj ho
 have hk0:0≤o.kind∧o.kind<9223372036854775808:=by omega
 have w1:=wC c0 c1
 have w2:=wC r0 r1
 have w3:=wC hk0.1 hk0.2
 have w4:=wC n0 n1
 have tx:=fun b hb=>aGK b o.name hb hs.1
 have ty:=fun b hb=>aGK b o.data hb hs.2
 have q1:=gY (n:=o.at_.c.toNat) (by omega)
 have q2:=gY (n:=o.at_.r.toNat) (by omega)
 have q3:=gY (n:=o.kind.toNat) (by omega)
 have q4:=gY (n:=o.node.toNat) (by omega)
 unfold aCK
 simp only[opA]
 rcases hk with⟨hk,p0,p1,hd⟩|⟨hk,hp,hn⟩
 ·have hkd:decide (o.kind=1)=true:=zAd hk
  have w5:=wC p0 p1
  have q5:=gY (n:=o.parent.toNat) (by omega)
  rw[zAc hk]
  have ct0:=w1;have ct1:=w2;have ct2:=w3;have ct3:=w4;have ct4:=w5;repeat' first|((first|refine aY (tx _ (by first|assumption|decide|omega|(simp_all;done)|(simp_all;omega)) _) (cO) ?_|refine aZ (tx _ (by first|assumption|decide|omega|(simp_all;done)|(simp_all;omega)) _) (cO) ?_|refine bA (fun _=>tx _ (by first|assumption|decide|omega|(simp_all;done)|(simp_all;omega)) _) (cO) ?_|refine gS ?_);simp only[go_sem,hkd])|refine gA ?_|(refine gD (fun h=>?_) (fun h=>?_)<;>try exact aA h)|fail
  exact dY (.refl _)
 ·have hkd:decide (o.kind=1)=false:=dF
  rw[zAb (by omega)]
  have ct0:=w1;have ct1:=w2;have ct2:=w3;have ct3:=w4;repeat' first|((first|refine aY (ty _ (by first|assumption|decide|omega|(simp_all;done)|(simp_all;omega)) _) (cO) ?_|refine aZ (ty _ (by first|assumption|decide|omega|(simp_all;done)|(simp_all;omega)) _) (cO) ?_|refine bA (fun _=>ty _ (by first|assumption|decide|omega|(simp_all;done)|(simp_all;omega)) _) (cO) ?_|refine gS ?_);simp only[go_sem,hkd])|refine gA ?_|(refine gD (fun h=>?_) (fun h=>?_)<;>try exact aA h)|fail
  exact dY (.refl _)
theorem aFA{o:Opn}(ho:opOk o=true)(hs:OpS o):(aCK o).length≤576460752303423488:=by
 obtain⟨⟨c0,c1⟩,⟨r0,r1⟩,⟨n0,n1⟩,hk⟩:=aKj ho
 have q1:=gY (n:=o.at_.c.toNat) (by omega)
 have q2:=gY (n:=o.at_.r.toNat) (by omega)
 have q3:=gY (n:=o.kind.toNat) (by omega)
 have q4:=gY (n:=o.node.toNat) (by omega)
 have q5:=gY (n:=o.parent.toNat) (by omega)
 have q6:=gY (n:=o.name.length) (by have:=hs.1;omega)
 have q7:=gY (n:=o.data.length) (by have:=hs.2;omega)
 have h1:=hs.1
 have h2:=hs.2
 unfold aCK aPh
 split<;>simp only[zAe]<;>omega
def aPo(b:Txt)(o:Opn):AV:=if opOk o=true then .tup [.str (b++aCK o),.int .i64 0]else .tup [.str [],.int .i64 50]
theorem aVj(b:Txt)(hb:b.length≤1073741824)(o:Opn)(hs:OpS o)(H:AHeap):bD Tryz.prog 165 [.str b,opA o] H (aPo b o):=by
 refine fO Tryz.func165 ?_
 have hck:=vS o hs
 unfold aPo
 cases ho:opOk o with
 |false=>
  rw[ho]at hck
  rw[zAb (by simp)]
  simp only[opA]at hck ⊢
  repeat' first|(refine gS ?_;simp only[go_sem])|refine gA ?_|(refine gD (fun h=>?_) (fun h=>?_)<;>try exact aA h)|fail
  exact dY (.refl _)
 |true=>
  have hby:=aLb o ho hs
  have hbl:=aFA ho hs
  rw[ho]at hck
  rw[zAc rfl]
  simp only[opA]at hck hby ⊢
  repeat' first|(refine gS ?_;simp only[go_sem])|refine gA ?_|(refine gD (fun h=>?_) (fun h=>?_)<;>try exact aA h)|fail
  exact dY (.refl _)
theorem wD(b:Txt)(hb:b.length≤1073741824):∃e:Int,∀H,bD Tryz.prog 163 [.str b] H (.tup [.int .i64 (dtv b).1,.str (dtv b).2,.int .i64 e]):=by
 have h:=aEc b hb
 unfold pF at h
 unfold dtv
 cases hv:cQ b with
 |none=>rw[hv]at h;exact⟨40,h⟩
 |some p=>rw[hv]at h;exact⟨0,h⟩
theorem aUs(b:Txt)(hb:b.length≤1073741824):∃(r:Txt) (e:Int),∀H,bD Tryz.prog 164 [.str b] H (.tup [.str (dtt b).1,.str r,.int .i64 e]):=by
 have h:=aKX b hb
 unfold yW at h
 unfold dtt
 cases hv:pB b with
 |none=>rw[hv]at h;exact⟨_,_,h⟩
 |some p=>rw[hv]at h;exact⟨_,_,h⟩
theorem aUt(b:Txt)(hb:b.length≤1073741824)(H:AHeap):bD Tryz.prog 132 [.str b] H (aC0 b):=by
 refine fO Tryz.func132 ?_
 have hdt:=aS8 (b:=b) (by omega)
 obtain⟨p0,h0⟩:∃p,dtv b=p:=⟨_,rfl⟩
 obtain⟨p1,h1⟩:∃p,dtv p0.2=p:=⟨_,rfl⟩
 obtain⟨p2,h2⟩:∃p,dtv p1.2=p:=⟨_,rfl⟩
 obtain⟨p3,h3⟩:∃p,dtv p2.2=p:=⟨_,rfl⟩
 have l0:=aCL b
 have l1:=aCL p0.2
 have l2:=aCL p1.2
 have l3:=aCL p2.2
 rw[h0]at l0
 rw[h1]at l1
 rw[h2]at l2
 rw[h3]at l3
 obtain⟨e0,t0⟩:=wD b hb
 obtain⟨e1,t1⟩:=wD p0.2 (by omega)
 obtain⟨e2,t2⟩:=wD p1.2 (by omega)
 obtain⟨e3,t3⟩:=wD p2.2 (by omega)
 rw[h0]at t0
 rw[h1]at t1
 rw[h2]at t2
 rw[h3]at t3
 have w1:IntKind.i64.wrap (0+1)=1:=rfl
 have w2:IntKind.i64.wrap (1+1)=2:=rfl
 have w3:IntKind.i64.wrap (2+1)=3:=rfl
 have w4:IntKind.i64.wrap (3+1)=4:=rfl
 repeat' first|(refine gS ?_;simp only[go_sem])|refine gA ?_|(refine gD (fun h=>?_) (fun h=>?_)<;>try exact aA h)|fail
 refine mS 5 ?_
 unfold mE
 -- the fifth number, and the texts
 obtain⟨p4,h4⟩:∃p,dtv p3.2=p:=⟨_,rfl⟩
 have l4:=aCL p3.2
 rw[h4]at l4
 obtain⟨e4,t4⟩:=wD p3.2 (by omega)
 rw[h4]at t4
 obtain⟨y5,e5,t5⟩:=aUs p4.2 (by omega)
 obtain⟨y6,e6,t6⟩:=aUs p3.2 (by omega)
 have n5:=dtt_len p4.2
 have n6:=dtt_len p3.2
 by_cases hk:p2.1=1
 ·have hkd:decide (p2.1=1)=true:=zAd hk
  have hd:docO b=⟨⟨p0.1,p1.1⟩,p2.1,p3.1,p4.1,(dtt p4.2).1,[]⟩:=by
   unfold docO;simp only[h0,h1,h2,h3,h4];rw[zAc hk]
  have hs:OpS (docO b):=by rw[hd];exact⟨by simp only;omega,by simp⟩
  have hput:=aVj [] (by simp) (docO b) hs
  generalize hw:aCK (docO b)=w at *
  unfold aPo at hput
  unfold aC0
  rw[hdt]
  by_cases ho:opOk (docO b)=true
  ·rw[zAc ho]at hput
   rw[hw,zAG]at hput
   rw[hd]at hput
   simp only[opA]at hput
   by_cases hl:w.length≤b.length
   ·obtain⟨k,hwk⟩:∃k,w.length=k:=⟨_,rfl⟩
    rw[hwk]at hl ⊢
    have hld:decide ((b.length:Int)<(k:Int))=false:=dF
    have hlt:(k≤b.length)=True:=zAI hl
    by_cases he:w=b.take k
    ·rw[zAc ⟨ho,hl,he⟩,hd]
     clear hw
     subst he
     have ct0:=t0;have ct1:=t1;have ct2:=t2;have ct3:=t3;have ct4:=t4;have ct5:=t5;repeat' first|((first|refine mx [15] aFz ?_|refine gS ?_);simp only[go_sem,w1,w2,w3,w4,hkd,hwk,hld,hlt])|refine gA ?_|(refine gD (fun h=>?_) (fun h=>?_)<;>try exact aA h)|fail
     exact dY (.refl _)
    ·have hed:decide (w=b.take k)=false:=eT he
     rw[zAb (fun h=>he h.2.2)]
     have ct0:=t0;have ct1:=t1;have ct2:=t2;have ct3:=t3;have ct4:=t4;have ct5:=t5;repeat' first|(refine gS ?_;simp only[go_sem,w1,w2,w3,w4,hkd,hwk,hld,hlt,hed])|refine gA ?_|(refine gD (fun h=>?_) (fun h=>?_)<;>try exact aA h)|fail
     exact dY (.refl _)
   ·have hld:decide ((b.length:Int)<(w.length:Int))=true:=dT
    rw[zAb (fun h=>hl h.2.1)]
    have ct0:=t0;have ct1:=t1;have ct2:=t2;have ct3:=t3;have ct4:=t4;have ct5:=t5;repeat' first|(refine gS ?_;simp only[go_sem,w1,w2,w3,w4,hkd,hld])|refine gA ?_|(refine gD (fun h=>?_) (fun h=>?_)<;>try exact aA h)|fail
    exact dY (.refl _)
  ·rw[zAb ho]at hput
   rw[hd]at hput
   simp only[opA]at hput
   rw[zAb (fun h=>ho h.1)]
   have ct0:=t0;have ct1:=t1;have ct2:=t2;have ct3:=t3;have ct4:=t4;have ct5:=t5;repeat' first|(refine gS ?_;simp only[go_sem,w1,w2,w3,w4,hkd])|refine gA ?_|(refine gD (fun h=>?_) (fun h=>?_)<;>try exact aA h)|fail
   exact dY (.refl _)
 ·have hkd:decide (p2.1=1)=false:=eT hk
  have hd:docO b=⟨⟨p0.1,p1.1⟩,p2.1,p3.1,0,[],(dtt p3.2).1⟩:=by
   unfold docO;simp only[h0,h1,h2,h3,h4];rw[zAb hk]
  have hs:OpS (docO b):=by rw[hd];exact⟨by simp,by simp only;omega⟩
  have hput:=aVj [] (by simp) (docO b) hs
  generalize hw:aCK (docO b)=w at *
  unfold aPo at hput
  unfold aC0
  rw[hdt]
  by_cases ho:opOk (docO b)=true
  ·rw[zAc ho]at hput
   rw[hw,zAG]at hput
   rw[hd]at hput
   simp only[opA]at hput
   by_cases hl:w.length≤b.length
   ·obtain⟨k,hwk⟩:∃k,w.length=k:=⟨_,rfl⟩
    rw[hwk]at hl ⊢
    have hld:decide ((b.length:Int)<(k:Int))=false:=dF
    have hlt:(k≤b.length)=True:=zAI hl
    by_cases he:w=b.take k
    ·rw[zAc ⟨ho,hl,he⟩,hd]
     clear hw
     subst he
     have ct0:=t0;have ct1:=t1;have ct2:=t2;have ct3:=t3;have ct4:=t6;repeat' first|((first|refine mx [15] aFz ?_|refine gS ?_);simp only[go_sem,w1,w2,w3,w4,hkd,hwk,hld,hlt])|refine gA ?_|(refine gD (fun h=>?_) (fun h=>?_)<;>try exact aA h)|fail
     exact dY (.refl _)
    ·have hed:decide (w=b.take k)=false:=eT he
     rw[zAb (fun h=>he h.2.2)]
     have ct0:=t0;have ct1:=t1;have ct2:=t2;have ct3:=t3;have ct4:=t6;repeat' first|(refine gS ?_;simp only[go_sem,w1,w2,w3,w4,hkd,hwk,hld,hlt,hed])|refine gA ?_|(refine gD (fun h=>?_) (fun h=>?_)<;>try exact aA h)|fail
     exact dY (.refl _)
   ·have hld:decide ((b.length:Int)<(w.length:Int))=true:=dT
    rw[zAb (fun h=>hl h.2.1)]
    have ct0:=t0;have ct1:=t1;have ct2:=t2;have ct3:=t3;have ct4:=t6;repeat' first|(refine gS ?_;simp only[go_sem,w1,w2,w3,w4,hkd,hld])|refine gA ?_|(refine gD (fun h=>?_) (fun h=>?_)<;>try exact aA h)|fail
    exact dY (.refl _)
  ·rw[zAb ho]at hput
   rw[hd]at hput
   simp only[opA]at hput
   rw[zAb (fun h=>ho h.1)]
   have ct0:=t0;have ct1:=t1;have ct2:=t2;have ct3:=t3;have ct4:=t6;repeat' first|(refine gS ?_;simp only[go_sem,w1,w2,w3,w4,hkd])|refine gA ?_|(refine gD (fun h=>?_) (fun h=>?_)<;>try exact aA h)|fail
   exact dY (.refl _)
theorem aUu(b:Txt)(hb:b.length≤1073741824)(H:AHeap):bD Tryz.prog 73 [.str b] H (aC1 b):=by
 refine fO Tryz.func73 ?_
 repeat' first|(refine gS ?_;simp only[go_sem])|refine gA ?_|fail
 refine gI 4 7 rfl ?_
 refine aH (ι:=List Opn×Txt×AHeap) (fun s=>[(0,.str s.2.1),(4,.osl 7 H.length (s.1.length+1) 0 s.1.length s.1.length)]) (fun s=>H++(.cells (s.1.length+1) (flA opA s.1)::s.2.2)) (fun s=>s.1.length+s.2.1.length≤b.length∧readO b=(readO s.2.1).map (s.1++·)) (fun s=>s.2.1.length) ([],b,[]) ⟨by simp,by simp⟩ ?_ rfl ?_
 ·simp[go_sem]
 rintro⟨acc,r,M⟩ ⟨hl,hr⟩
 simp only at hl hr ⊢
 unfold aC1
 obtain⟨G,hG⟩:∃G,H++(.cells (acc.length+1) (flA opA acc)::M)=G:=⟨_,rfl⟩
 rw[hG]
 have g0:hget G H.length=.cells (acc.length+1) (flA opA acc):=by rw[←hG];simp only[go_sem]
 have g1:=aR g0 trivial
 have g2:=eE g0 trivial
 have gs:∀X,aB G H.length X=H++(X::M):=fun X=>by rw[←hG];simp only[go_sem]
 by_cases hn:r=[]
 ·have hd:decide ((0:Int)<(r.length:Int))=false:=eT (by rw[hn];simp)
  have hra:readO b=some acc:=by rw[hr,hn];simp[readO,lN]
  rw[hra]
  repeat' first|(refine gS ?_;simp only[go_sem,hd])|refine gA ?_|(refine gD (fun h=>?_) (fun h=>?_)<;>try exact aA h)|fail
  exact⟨_,.tup [.sl false (acc.map opA),.int .i64 0],hG.symm,.tup _ _ rfl (aS (aNJ (zAh _) g0 rfl (fun _=>rfl) (fun x=>by simp only[go_sem])) (aS (.cl _ (.int _ _)) cI)),rfl⟩
 have hd:decide ((0:Int)<(r.length:Int))=true:=zAd (by have:=List.length_pos_iff.2 hn;omega)
 have hot:=aUt r (by omega)
 unfold aC0 at hot
 rw[aFt hn]at hr
 cases ht:qN r with
 |none=>
  simp only[ht,opA]at hot
  rw[ht]at hr
  rw[show readO b=none from hr]
  repeat' first|(refine gS ?_;simp only[go_sem,hd,opA,op0,lT])|refine gA ?_|(refine gD (fun h=>?_) (fun h=>?_)<;>try exact aA h)|fail
  exact aF2 hG (by simp only[go_sem]) (.refl _)
 |some p=>
  obtain⟨o,r2⟩:=p
  have hl2:=xX ht
  simp only[ht,opA]at hot
  have hrn:0<r.length:=List.length_pos_iff.2 hn
  have hq1:(∀e,e=AV.agg [.int .i64 o.at_.c,.int .i64 o.at_.r,.int .i64 o.kind,.int .i64 o.node,.int .i64 o.parent,.str o.name,.str o.data]→e.cells.length=7)=True:=zAI (fun e he=>by rw[he];rfl)
  have hl8:((acc.length+1) * 72≤140737488355328)=True:=zAI (by omega)
  have hfl:=bQ (enc:=opA) (s:=7) (fun _=>rfl) acc
  repeat' first|(refine gS ?_;simp only[go_sem,hd,hq1,hl8,hfl,g0,g1,g2])|refine gA ?_|(refine gD (fun h=>?_) (fun h=>?_)<;>try exact aA h)|fail
  refine⟨(acc++[o],r2,M++[.cells 0 (opA o).cells]),⟨by simp only[zAe,zAm,zAE];omega,?_⟩,hl2,?_⟩
  ·simp only
   rw[hr,ht]
   simp only[zBd,Option.map_map]
   congr 1
   funext l
   simp
  ·simp only[gs,zAe,zAm,zAE,fC,fD,vO,zAg,opA,AV.cells,zAu,zA1]
   refine⟨⟨?_,?_⟩,?_⟩<;>first|trivial|rfl
end Go.Proofs.YtolbeecicikoaaaGreatDoor
