/- What the functions of this seat answer (26 of 40). No condition. -/
import Derived.Test.YtigedpfipifefaaGreatDoorWorkAU
set_option linter.unusedSimpArgs false
set_option linter.unusedVariables false
set_option maxRecDepth 100000
set_option maxHeartbeats 16000000
namespace Go.Proofs.YtigedpfipifefaaGreatDoor
@[go_sem] theorem aJK{ι:Type}(F:ι→AF)(Hp:ι→AHeap)(pre:ι→Prop)(Q:aT)(ch:List PanicEntry)(α:AF)(H:AHeap):sN F Hp pre Q (.panic ch) α H=Q (.panic ch) α H:=rfl
theorem aHN{G:AHeap}{i:Nat}(h:i<G.length):
  (∀X L k,hget (aA G i X++L) (G.length+k)=L.getD k .gone)∧(∀X L,hget (aA G i X++L) G.length=L.getD 0 .gone)∧(∀X L k Y,aA (aA G i X++L) (G.length+k) Y=aA G i X++L.set k Y)∧(∀X L Y,aA (aA G i X++L) G.length Y=aA G i X++L.set 0 Y)∧
  (∀v X L,hget (aA G i (.cells v X)++L) i=.cells v X)∧(∀X L Y,aA (aA G i X++L) i Y=aA G i Y++L):=by
 have n1:=fun X=>bF G i X
 refine⟨fun X L k=>?_,fun X L=>rI (n1 X),fun X L k Y=>aA4 (n1 X) Y,fun X L Y=>xH (n1 X) Y,fun v X L=>aK (b:=.cells v X) (bX h _) trivial L,fun X L Y=>by rw[bQ (by rw[n1];exact h),cB]⟩
 rw[←n1 X];exact jF _ _ _
theorem aEc{p:Int}{b r:Txt}{n:Int}(h:pM p b=some (n,r)):r.length≤b.length:=by
 unfold pM at h;split at h
 ·cases h;exact zAb _
 ·exact Nat.le_of_lt (bR h)
def aAs(b:Txt):AV:=match dP b with
 |none=>.tup [pB gR,.str [],.int .i64 180]
 |some (c,r)=>.tup [pB c,.str r,.int .i64 0]
def brk:Value:=.iface 165 (.agg #[.int .i64 180])
def pI:List Pl:=[.free,.pure 0,.pure 0,.eff [true,true],.eff [true,true],.eff [false,false]]
def pJ:List Pl:=[.pure 0,.pure 0,.pure 0,.eff [true,true,false],.eff [false,false],.eff []]
attribute [go_sem] pI pJ
theorem aEd(b:Txt)(hb:b.length≤1073741824)(i:Nat){H:AHeap}(hh:hget H i=.cells 0 [.str b]){n:Int}{r:Txt}(ht:bK b=some (n,r)):
  ACalls Tryz.prog 105 [.ref i 0 0] H (fun x H'=>x=.int .i64 n∧H'=aA H i (.cells 0 [.str r])):=by
 refine aW Tryz.func105 ?_;have hv:=nH b hb;simp only[pD,ht]at hv;repeat' first|(refine gS ?_;simp only[go_sem,hh])|refine gA ?_|(refine gD ?_ ?_<;>intro h<;>try exact aD h)|fail
theorem aEe(b:Txt)(hb:b.length≤1073741824)(i:Nat){H:AHeap}(hh:hget H i=.cells 0 [.str b])(ht:bK b=none):
  APan Tryz.prog 105 [.ref i 0 0] H (fun v H'=>v=brk∧H'=H):=by
 refine mF Tryz.func105 rfl (zAP rfl) ?_;have hv:=nH b hb;simp only[pD,ht]at hv;repeat' first|(refine gS ?_;simp only[go_sem,hh])|refine gA ?_|fail
 refine cJ rfl (fun _=>?_) (fun h=>nomatch h)
 refine bN 2 _ (by rfl) (by rfl) (by rfl) ?_
 simp only[go_sem,zAD,zAS];exact iP rfl rfl ⟨rfl,rfl⟩
theorem vP(b:Txt)(hb:b.length≤1073741824)(i:Nat){H:AHeap}(hh:hget H i=.cells 0 [.str b]){t r:Txt}(ht:eZ b=some (t,r)):
  ACalls Tryz.prog 106 [.ref i 0 0] H (fun x H'=>x=.str t∧H'=aA H i (.cells 0 [.str r])):=by
 refine aW Tryz.func106 ?_;have hv:=vI b hb;simp only[xP,ht]at hv;repeat' first|(refine gS ?_;simp only[go_sem,hh])|refine gA ?_|(refine gD ?_ ?_<;>intro h<;>try exact aD h)|fail
theorem vQ(b:Txt)(hb:b.length≤1073741824)(i:Nat){H:AHeap}(hh:hget H i=.cells 0 [.str b])(ht:eZ b=none):
  APan Tryz.prog 106 [.ref i 0 0] H (fun v H'=>v=brk∧H'=H):=by
 refine mF Tryz.func106 rfl (zAP rfl) ?_;have hv:=vI b hb;simp only[xP,ht]at hv;repeat' first|(refine gS ?_;simp only[go_sem,hh])|refine gA ?_|fail
 refine cJ rfl (fun _=>?_) (fun h=>nomatch h)
 refine bN 2 _ (by rfl) (by rfl) (by rfl) ?_
 simp only[go_sem,zAD,zAS];exact iP rfl rfl ⟨rfl,rfl⟩
theorem aGu(b:Txt)(hb:b.length≤1048576)(i:Nat){H:AHeap}(hh:hget H i=.cells 0 [.str b]):
  (dP b=none→APan Tryz.prog 71 [.ref i 0 0] H (fun v H'=>v=brk∧∃r L,H'=aA H i (.cells 0 [.str r])++L))∧
  (∀c r,dP b=some (c,r)→ACalls Tryz.prog 71 [.ref i 0 0] H (fun v H'=>v=pB c∧∃L,H'=aA H i (.cells 0 [.str r])++L)):=by
 have key:=aFW (args:=[.ref i 0 0]) (H:=H) (X:=fun v H'=>(v=brk∧∃r L,H'=aA H i (.cells 0 [.str r])++L)∧dP b=none) (R:=fun v H'=>∃c r,dP b=some (c,r)∧v=pB c∧∃L,H'=aA H i (.cells 0 [.str r])++L) Tryz.func71 ?_
 ·exact⟨fun hn=>(key.1 fun v H' ⟨c,r,e,_⟩=>by rw[hn]at e;cases e).mono fun v H' q=>q.1,fun c r hs=>(key.2 fun v H' q=>by rw[hs]at q;cases q.2).mono fun v H' ⟨c',r',e,q⟩=>by rw[hs]at e;cases e;exact q⟩
 have hpan:∀{f:FuncId} {args:List AV} {r:Txt} {L:AHeap},APan Tryz.prog f args (aA H i (.cells 0 [.str r])++L) (fun v H'=>v=brk∧H'=aA H i (.cells 0 [.str r])++L)→dP b=none→APan Tryz.prog f args (aA H i (.cells 0 [.str r])++L) (fun v H'=>(v=brk∧∃r L,H'=aA H i (.cells 0 [.str r])++L)∧dP b=none):=fun h hn=>h.mono fun v _ e=>⟨⟨e.1,_,_,e.2⟩,hn⟩
 cases h0:bK b with
 |none=>
  have hN:dP b=none:=by unfold dP;rw[h0];rfl
  have hn:=hpan (r:=b) (by rw[eL hh trivial];exact aEe b (by omega) i (cY hh trivial [.cells 0 [.int .i64 0,.str [],.str [],.str [],.int .i64 0]]) h0) hN
  rw[eL hh trivial]at hn;iterate 3 first|(refine gS ?_;simp only[go_sem])|refine gA ?_|(refine gD ?_ ?_<;>intro h<;>try exact aD h)|fail
  refine bN 1 _ (by rfl) (by rfl) (by rfl) ?_
  simp only[go_sem,zAD,zAS];exact fW rfl rfl cO hn
 |some p=>
  obtain⟨kd,r0⟩:=p;have hn:=aEd b (by omega) i (cY hh trivial [.cells 0 [.int .i64 0,.str [],.str [],.str [],.int .i64 0]]) h0
  have hi:=bC hh trivial;have e0:=bR h0;have hha:=aAi kd;have s1:=fun L X=>bQ hi L X
  have q1:=aHN hi;have s2:=fun X=>bF H i X
  have hT:dP b=(eR kd).bind fun p=>(gL p 1 r0).bind fun(a,r1)=>(gL p 2 r1).bind fun(t,r2)=>(gL p 4 r2).bind fun(d,r3)=>(pM p r3).bind fun(n,r4)=>
   if chkC ⟨kd,a,t,d,n⟩=true then some (⟨kd,a,t,d,n⟩,r4)else none:=by unfold dP;rw[h0];rfl
  iterate 4 first|(refine gS ?_;simp only[go_sem])|refine gA ?_|(refine gD ?_ ?_<;>intro h<;>try exact aD h)|fail
  refine aG hn cO ?_;rintro v H' ⟨rfl,rfl⟩;rw[s1];simp only[go_sem];cases hp:eR kd with
  |none=>
   rw[hp]at hha hT;repeat' first|(refine gS ?_;simp only[go_sem,s2,q1])|refine gA ?_|fail
   refine cJ rfl (fun _=>?_) (fun h=>nomatch h)
   refine bN 2 _ (by rfl) (by rfl) (by rfl) ?_
   simp only[go_sem,zAD,zAS];exact iP rfl rfl ⟨⟨rfl,_,_,rfl⟩,by rw[hT];rfl⟩
  |some p=>
   rw[hp]at hha hT;simp only[Option.getD_some,Option.isSome_some,zAn]at hha hT;repeat' first|(refine gS ?_;simp only[go_sem,s2,q1])|refine gA ?_|fail
   refine cJ rfl (fun h=>nomatch h) (fun _=>?_)
   refine aE2 ?_;repeat' first|(refine gS ?_;simp only[go_sem,q1])|refine gA ?_|fail
   refine jZ (ι:=Txt×Txt) (fun _=>[(0,.ref i 0 0),(2,.ref H.length 0 0),(3,.ref (H.length+1) 0 0),(4,.int .i64 p)]) (fun s=>aA H i (.cells 0 [.str s.2])++[.cells 0 [.int .i64 0,.str [],.str [],.str [],.int .i64 0],.cells 0 [.int .i64 kd,.str s.1,.str [],.str [],.int .i64 0]]) (fun s=>gL p 1 r0=some s) ?_ fun⟨a,r1⟩ h1=>?_
   ·by_cases hb1:aY .and .i64 p 1=0
    ·have e:gL p 1 r0=some ([],r0):=by unfold gL;rw[zAp hb1]
     repeat' first|(refine gS ?_;simp only[go_sem,hb1,q1])|refine gA ?_|(refine gD ?_ ?_<;>intro h<;>try exact aD h)|fail
     exact⟨_,e,by simp[go_sem]⟩
    have e:gL p 1 r0=eZ r0:=by unfold gL;rw[zAk hb1]
    have hd:(!decide (aY .and .i64 p 1=0))=true:=by rw[zAh hb1];rfl
    have hh1:=q1.2.2.2.2.1 0 [.str r0] [.cells 0 [.int .i64 0,.str [],.str [],.str [],.int .i64 0],.cells 0 [.int .i64 kd,.str [],.str [],.str [],.int .i64 0]];cases h:eZ r0 with
    |none=>
     have hN:dP b=none:=by rw[hT,e,h];rfl
     have hx:=hpan (vQ r0 (by omega) i hh1 h) hN
     refine cJ rfl (fun _=>?_) (fun w=>absurd hd (by rw[w];decide))
     refine bN 1 _ (by rfl) (by rfl) (by rfl) ?_
     simp only[go_sem,zAD,zAS];exact fW rfl rfl cO hx
    |some y=>
     obtain⟨y1,y2⟩:=y;have hx:=vP r0 (by omega) i hh1 h
     refine cJ rfl (fun _=>?_) (fun w=>absurd hd (by rw[w];decide))
     repeat' first|(refine gS ?_;simp only[go_sem])|refine gA ?_|(refine gD ?_ ?_<;>intro h<;>try exact aD h)|fail
     refine aG hx cO ?_;rintro v H' ⟨rfl,rfl⟩;simp only[go_sem,q1];repeat' first|(refine gS ?_;simp only[go_sem,q1])|refine gA ?_|(refine gD ?_ ?_<;>intro h<;>try exact aD h)|fail
     exact⟨(y1,y2),e.trans h,rfl⟩
   rw[h1]at hT;simp only[zAn]at hT;have e1:r1.length≤r0.length:=by have:=eC h1;omega
   simp only;repeat' first|(refine gS ?_;simp only[go_sem,q1])|refine gA ?_|fail
   refine jZ (ι:=Txt×Txt) (fun _=>[(0,.ref i 0 0),(2,.ref H.length 0 0),(3,.ref (H.length+1) 0 0),(4,.int .i64 p)]) (fun s=>aA H i (.cells 0 [.str s.2])++[.cells 0 [.int .i64 0,.str [],.str [],.str [],.int .i64 0],.cells 0 [.int .i64 kd,.str a,.str s.1,.str [],.int .i64 0]]) (fun s=>gL p 2 r1=some s) ?_ fun⟨t,r2⟩ h2=>?_
   ·by_cases hb2:aY .and .i64 p 2=0
    ·have e:gL p 2 r1=some ([],r1):=by unfold gL;rw[zAp hb2]
     repeat' first|(refine gS ?_;simp only[go_sem,hb2,q1])|refine gA ?_|(refine gD ?_ ?_<;>intro h<;>try exact aD h)|fail
     exact⟨_,e,by simp[go_sem]⟩
    have e:gL p 2 r1=eZ r1:=by unfold gL;rw[zAk hb2]
    have hd:(!decide (aY .and .i64 p 2=0))=true:=by rw[zAh hb2];rfl
    have hh1:=q1.2.2.2.2.1 0 [.str r1] [.cells 0 [.int .i64 0,.str [],.str [],.str [],.int .i64 0],.cells 0 [.int .i64 kd,.str a,.str [],.str [],.int .i64 0]];cases h:eZ r1 with
    |none=>
     have hN:dP b=none:=by rw[hT,e,h];rfl
     have hx:=hpan (vQ r1 (by omega) i hh1 h) hN
     refine cJ rfl (fun _=>?_) (fun w=>absurd hd (by rw[w];decide))
     refine bN 1 _ (by rfl) (by rfl) (by rfl) ?_
     simp only[go_sem,zAD,zAS];exact fW rfl rfl cO hx
    |some y=>
     obtain⟨y1,y2⟩:=y;have hx:=vP r1 (by omega) i hh1 h
     refine cJ rfl (fun _=>?_) (fun w=>absurd hd (by rw[w];decide))
     repeat' first|(refine gS ?_;simp only[go_sem])|refine gA ?_|(refine gD ?_ ?_<;>intro h<;>try exact aD h)|fail
     refine aG hx cO ?_;rintro v H' ⟨rfl,rfl⟩;simp only[go_sem,q1];repeat' first|(refine gS ?_;simp only[go_sem,q1])|refine gA ?_|(refine gD ?_ ?_<;>intro h<;>try exact aD h)|fail
     exact⟨(y1,y2),e.trans h,rfl⟩
   rw[h2]at hT;simp only[zAn]at hT;have e2:r2.length≤r1.length:=by have:=eC h2;omega
   simp only;repeat' first|(refine gS ?_;simp only[go_sem,q1])|refine gA ?_|fail
   refine jZ (ι:=Txt×Txt) (fun _=>[(0,.ref i 0 0),(2,.ref H.length 0 0),(3,.ref (H.length+1) 0 0),(4,.int .i64 p)]) (fun s=>aA H i (.cells 0 [.str s.2])++[.cells 0 [.int .i64 0,.str [],.str [],.str [],.int .i64 0],.cells 0 [.int .i64 kd,.str a,.str t,.str s.1,.int .i64 0]]) (fun s=>gL p 4 r2=some s) ?_ fun⟨d,r3⟩ h3=>?_
   ·by_cases hb4:aY .and .i64 p 4=0
    ·have e:gL p 4 r2=some ([],r2):=by unfold gL;rw[zAp hb4]
     repeat' first|(refine gS ?_;simp only[go_sem,hb4,q1])|refine gA ?_|(refine gD ?_ ?_<;>intro h<;>try exact aD h)|fail
     exact⟨_,e,by simp[go_sem]⟩
    have e:gL p 4 r2=eZ r2:=by unfold gL;rw[zAk hb4]
    have hd:(!decide (aY .and .i64 p 4=0))=true:=by rw[zAh hb4];rfl
    have hh1:=q1.2.2.2.2.1 0 [.str r2] [.cells 0 [.int .i64 0,.str [],.str [],.str [],.int .i64 0],.cells 0 [.int .i64 kd,.str a,.str t,.str [],.int .i64 0]];cases h:eZ r2 with
    |none=>
     have hN:dP b=none:=by rw[hT,e,h];rfl
     have hx:=hpan (vQ r2 (by omega) i hh1 h) hN
     refine cJ rfl (fun _=>?_) (fun w=>absurd hd (by rw[w];decide))
     refine bN 1 _ (by rfl) (by rfl) (by rfl) ?_
     simp only[go_sem,zAD,zAS];exact fW rfl rfl cO hx
    |some y=>
     obtain⟨y1,y2⟩:=y;have hx:=vP r2 (by omega) i hh1 h
     refine cJ rfl (fun _=>?_) (fun w=>absurd hd (by rw[w];decide))
     repeat' first|(refine gS ?_;simp only[go_sem])|refine gA ?_|(refine gD ?_ ?_<;>intro h<;>try exact aD h)|fail
     refine aG hx cO ?_;rintro v H' ⟨rfl,rfl⟩;simp only[go_sem,q1];repeat' first|(refine gS ?_;simp only[go_sem,q1])|refine gA ?_|(refine gD ?_ ?_<;>intro h<;>try exact aD h)|fail
     exact⟨(y1,y2),e.trans h,rfl⟩
   rw[h3]at hT;simp only[zAn]at hT;have e3:r3.length≤r2.length:=by have:=eC h3;omega
   simp only;repeat' first|(refine gS ?_;simp only[go_sem,q1])|refine gA ?_|fail
   refine jZ (ι:=Int×Txt) (fun _=>[(0,.ref i 0 0),(2,.ref H.length 0 0),(3,.ref (H.length+1) 0 0),(4,.int .i64 p)]) (fun s=>aA H i (.cells 0 [.str s.2])++[.cells 0 [.int .i64 0,.str [],.str [],.str [],.int .i64 0],.cells 0 [.int .i64 kd,.str a,.str t,.str d,.int .i64 s.1]]) (fun s=>pM p r3=some s) ?_ fun⟨n,r4⟩ h4=>?_
   ·by_cases hb8:aY .and .i64 p 8=0
    ·have e:pM p r3=some (0,r3):=by unfold pM;rw[zAp hb8]
     repeat' first|(refine gS ?_;simp only[go_sem,hb8,q1])|refine gA ?_|(refine gD ?_ ?_<;>intro h<;>try exact aD h)|fail
     exact⟨_,e,by simp[go_sem]⟩
    have e:pM p r3=bK r3:=by unfold pM;rw[zAk hb8]
    have hd:(!decide (aY .and .i64 p 8=0))=true:=by rw[zAh hb8];rfl
    have hh1:=q1.2.2.2.2.1 0 [.str r3] [.cells 0 [.int .i64 0,.str [],.str [],.str [],.int .i64 0],.cells 0 [.int .i64 kd,.str a,.str t,.str d,.int .i64 0]];cases h:bK r3 with
    |none=>
     have hN:dP b=none:=by rw[hT,e,h];rfl
     have hx:=hpan (aEe r3 (by omega) i hh1 h) hN
     refine cJ rfl (fun _=>?_) (fun w=>absurd hd (by rw[w];decide))
     refine bN 1 _ (by rfl) (by rfl) (by rfl) ?_
     simp only[go_sem,zAD,zAS];exact fW rfl rfl cO hx
    |some y=>
     obtain⟨y1,y2⟩:=y;have hx:=aEd r3 (by omega) i hh1 h
     refine cJ rfl (fun _=>?_) (fun w=>absurd hd (by rw[w];decide))
     repeat' first|(refine gS ?_;simp only[go_sem])|refine gA ?_|(refine gD ?_ ?_<;>intro h<;>try exact aD h)|fail
     refine aG hx cO ?_;rintro v H' ⟨rfl,rfl⟩;simp only[go_sem,q1];repeat' first|(refine gS ?_;simp only[go_sem,q1])|refine gA ?_|(refine gD ?_ ?_<;>intro h<;>try exact aD h)|fail
     exact⟨(y1,y2),e.trans h,rfl⟩
   rw[h4]at hT;simp only[zAn]at hT;have e4:r4.length≤r3.length:=aEc h4;simp only;have l1:=eC h1;have l2:=eC h2;have hck:=rO ⟨kd,a,t,d,n⟩ (by simp only;omega) (by simp only;omega)
   simp only[pB]at hck;cases hc:chkC ⟨kd,a,t,d,n⟩with
   |false=>
    rw[hc]at hck hT;repeat' first|(refine gS ?_;simp only[go_sem,q1])|refine gA ?_|fail
    refine cJ rfl (fun _=>?_) (fun h=>nomatch h)
    refine bN 2 _ (by rfl) (by rfl) (by rfl) ?_
    simp only[go_sem,zAD,zAS];exact iP rfl rfl ⟨⟨rfl,_,_,rfl⟩,by rw[hT];rfl⟩
   |true=>
    rw[hc]at hck hT;repeat' first|(refine gS ?_;simp only[go_sem,q1])|refine gA ?_|(refine gD ?_ ?_<;>intro h<;>try exact aD h)|fail
    exact⟨⟨kd,a,t,d,n⟩,r4,hT,rfl,_,rfl⟩
theorem aMU(i1 i2 i3:AV)(G:AHeap):ADef Tryz.prog 70 [i1,i2,i3] G none (fun H'=>∃L,H'=G++L):=by
 refine qW .nilIface Tryz.func70 rfl (zAP rfl) rfl rfl rfl rfl rfl (by rfl) (fun c=>.nilIface) ?_
 simp only[go_sem];repeat' first|(refine gS ?_;simp only[go_sem])|refine gA ?_|(refine gD ?_ ?_<;>intro h<;>try exact aD h)|fail
 exact⟨_,rfl⟩
theorem aMV(H:AHeap)(x1 x2 x3 x4 x5 y z:AV)(M:AHeap):ADef Tryz.prog 70 [.ref H.length 0 0,.ref (H.length+1) 0 0,.ref (H.length+2) 0 0] (H++(.cells 0 [x1,x2,x3,x4,x5]::.cells 0 [y]::.cells 0 [z]::M)) (some brk)
  (fun H'=>∃M,H'=H++(.cells 0 (pB gR).cells::.cells 0 [.str []]::.cells 0 [.int .i64 180]::M)):=by
 refine qW (.iface 165 (.agg [.int .i64 180])) Tryz.func70 rfl (zAP rfl) rfl rfl rfl rfl rfl (by rfl) (fun c=>?_) ?_
 ·refine .iface _ _ _ (.agg _ _ rfl fun j x v h1 h2=>?_)
  cases j with
  |zero=>cases h1;cases h2;exact .int _ _ (lZ.1 rfl)
  |succ j=>cases h1
 have m1:∀x:ABlk,(M++[x]).getD M.length .gone=x:=fun x=>by simp
 have m2:∀x y:ABlk,(M++[x]).set M.length y=M++[y]:=fun x y=>by simp
 simp only[go_sem];repeat' first|((first|refine mx [2] pI ?_|refine gS ?_);simp only[go_sem,m1,m2])|refine gA ?_|(refine gD ?_ ?_<;>intro h<;>try exact aD h)|fail
 exact⟨_,rfl⟩
theorem aGv(b:Txt)(hb:b.length≤1048576)(H:AHeap):bJ Tryz.prog 39 [.str b] H (aAs b):=by
 refine aDh ?_;refine uW (g:=70) Tryz.func39 rfl (zAP rfl) rfl rfl (by decide) rfl rfl rfl rfl cO ?_
 have hsc:=aGu b hb (H.length+3) (H:=H++[.cells 0 [.int .i64 0,.str [],.str [],.str [],.int .i64 0],.cells 0 [.str []],.cells 0 [.int .i64 0],.cells 0 [.str b]]) (by simp only[go_sem])
 unfold aAs;cases ht:dP b with
 |none=>
  have hp:=hsc.1 ht;iterate 4 first|(refine gS ?_;simp only[go_sem])|refine gA ?_|(refine gD ?_ ?_<;>intro h<;>try exact aD h)|fail
  refine bN 0 _ (by rfl) (by rfl) (by rfl) ?_
  simp only[go_sem,zAD,zAS];refine fW rfl rfl cO (hp.mono ?_);rintro v H' ⟨rfl,r,L,rfl⟩;simp only[go_sem];refine(aMV H _ _ _ _ _ _ _ _).mono ?_;rintro H' ⟨M,rfl⟩;simp only[go_sem,pB,gR,AV.cells];exact dY (.refl _)
 |some p=>
  obtain⟨c,r⟩:=p;repeat' first|(refine gS ?_;simp only[go_sem])|refine gA ?_|(refine gD ?_ ?_<;>intro h<;>try exact aD h)|fail
  refine aG (hsc.2 c r ht) cO ?_;rintro v H' ⟨rfl,L,rfl⟩;unfold pB;simp only[go_sem];repeat' first|((first|refine mx [4] pJ ?_|refine gS ?_);simp only[go_sem])|refine gA ?_|(refine gD ?_ ?_<;>intro h<;>try exact aD h)|fail
  refine(aMU _ _ _ _).mono ?_;rintro H' ⟨M,rfl⟩;simp only[go_sem];exact dY (.refl _)
end Go.Proofs.YtigedpfipifefaaGreatDoor
