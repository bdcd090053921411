/- What the functions of this seat answer (32 of 40). No condition. -/
import Derived.Test.YthafnbmdmfoobaaGreatDoorWorkBE
set_option linter.unusedSimpArgs false
set_option linter.unusedVariables false
set_option maxRecDepth 100000
set_option maxHeartbeats 16000000
namespace Go.Proofs.YthafnbmdmfoobaaGreatDoor
section
theorem sJ{α:Type}{enc:α->I}{s:Nat}(hs:∀x,(enc x).cells.length=s){D:List α}{k f:Nat}{X:List I}(h:k<D.length)(an:f+X.length<=s)(y:α)(aG:(enc y).cells=dw (enc D[k]).cells f X):dw (aI enc D) (k * s+f) X=aI enc (D.set k y):=by
 have hl:=dE hs (D.take k);rw[e8,uu (by omega)]at hl
 have e:D=D.take k++(D[k]::D.drop (k+1)):=by rw[<-eo h,jf]
 have au:aI enc D=aI enc (D.take k)++((enc D[k]).cells++aI enc (D.drop (k+1))):=by rw[<-pK,<-iu,<-e]
 rw[K7,aF h,iu,pK,aG,au];have al:=hs D[k];have key:∀(A B C:List I),A.length=k * s->f+X.length<=C.length->dw (A++(C++B)) (k * s+f) X=A++(dw C f X++B):=fun A B C cf uU=>by
  unfold dw;rw[<-cf,List.take_length_add_append,vJ,List.drop_length_add_append,List.take_append_of_le_length (by omega),List.drop_append_of_le_length uU]
  simp only[cr]
 exact key _ _ _ hl (by rw[al];exact an)
theorem Si{n up:Int}:∀{l:List iD} {a:Nat} (aD:a<l.length),eg (fun w:iD=>decide (w.aR=n)) l=(a:Int)->HT n up l=l.set a ⟨l[a].aR,max l[a].upto up⟩
 |w::l,a,aD,h=>by
  unfold eg at h;unfold HT;by_cases e:w.aR=n
  ·rw[aF (by simpa using e)]at h
   have:a=0:=by omega
   subst this;rw[aF e];rfl
  ·rw[az (by simpa using e)]at h
   rw[az e];have:=GW (fun w:iD=>decide (w.aR=n)) l
   split at h
   ·omega
   ·obtain⟨a,rfl⟩:∃b,a=b+1:=⟨a-1,by omega⟩
    rw[Si (a:=a) (by simpa using aD) (by omega)]
    rfl
def Pz:List cR:=[.pure 0,.pure 0,.free,.pure 0,.pure 0,.free,.pure 0,.pure 0,.pure 0,.free,.pure 0,.pure 0,.pure 0,.eff [false,true,false,false,false,false,false,false,false,false]]
def PA:List cR:=[.free,.free,.pure 0,.pure 0,.pure 0,.free,.eff [true,false,true],.pure 0,.eff [false,false,false]]
attribute [go_sem] Pz PA
theorem Sj(b:Bool)(l:List iD)(hl:l.length<=1073741824)(H:ab):
  c5 Tryz.prog 46 [.sl b (l.map cq)] H (fun v H'=>v=.osl 2 H.length 1 0 l.length l.length∧H'=H++[.cells 1 (aI cq l)]):=by
 refine pD Tryz.func46 ?_;have eM:∀n,dp n (.cells 1 (aI cq l)):=fun n=>yN (fun x=>by simp only[go_sem]) n 1 l
 have fin:∀v H',v=.osl 2 H.length 1 0 l.length l.length->H'=H++[.cells 1 (aI cq l)]->∃H1 L y,H'=H1++L∧H.length<=H1.length∧(∀(i:Nat) (b:bu),H1[i]?=some b->H[i]?=some b∨dp H1.length b)∧cQ H1.length H' v y∧
   y=.osl 2 H.length 1 0 l.length l.length∧H1=H++[.cells 1 (aI cq l)]:=by
  rintro v H' rfl rfl;exact⟨_,[],_,(b2 _).symm,by simp,wT fun b aa=>by(rw[dA]at aa;subst aa;exact eM _),.cl _ (.osl _ _ _ _ _ _ (by simp)),rfl,rfl⟩
 have eu:List.flatMap I.cells (l.map cq)=aI cq l:=rfl;refine aT ?_;intro c al;cases c with
 |true=>
  have lZ:l=[]:=by
   cases l with
   |nil=>rfl
   |cons x l=>exact absurd (al (by simp)) (by decide)
  subst lZ;repeat' first|(refine ad ?_;simp only[go_sem])|refine bx ?_|fail
  refine ly rfl (fun _=>?_) (fun h=>by cases h)
  refine w6 ?_;refine qn rfl ?_;simp only[go_sem];refine sF 2 2 rfl ?_;repeat' first|(refine ad ?_;simp only[go_sem])|refine af ?_|fail
  exact fin _ _ rfl rfl
 |false=>
  clear al;have kP:(∀e∈l.map cq,e.cells.length=2)=True:=bJ fun e he=>by(obtain⟨x,_,rfl⟩:=bP.1 he;rfl)
  have kT:(l.length * 16<=140737488355328)=True:=bJ (by omega)
  repeat' first|(refine ad ?_;simp only[go_sem,kP,eu,kT,DK,true_or])|refine af ?_|fail
  exact fin _ _ rfl rfl
theorem S7(l:List iD)(p:iD->Bool)(i v lc n:Nat)(ag:n=l.length)(gE:n<=lc)(hl:n<=1073741824){fn:Fn}{fs cs:List I}(H:ab)(ah:ao H i=.cells v (aI cq l))
  (an:∀x,h6 Tryz.prog (.func fn fs cs) [cq x] H (fun r dt=>r=.bool (p x)∧dt=H)):
  aY Tryz.prog 75 [.osl 2 i v 0 n lc,.func fn fs cs] H (.int .i64 (eg p l)):=by
 refine bh Tryz.func75 ?_;have g4:(aI cq l).length=n * 2:=by rw[dE (s:=2) (fun _=>rfl),ag]
 have dF:=an;simp only[cq]at dF;repeat' first|(refine ad ?_;simp only[go_sem,ah])|refine af ?_|fail
 refine b5 (ι:=Nat) (fun k=>[(0,.osl 2 i v 0 n lc),(1,.func fn fs cs),(7,.int .i64 n),(8,.int .i64 k)]) (fun _=>H) (fun k=>k<=n∧∀q (hk:q<k) (eb:q<l.length),p l[q]=false) (fun k=>n-k) 0 ⟨bG _,fun q hk=>by omega⟩ ?_ rfl ?_
 ·simp[go_sem]
 ·rintro k ⟨hk,bX⟩;by_cases ak:k<l.length
  ·have ae:=om (enc:=cq) (s:=2) (fun _=>rfl) ak
   simp only[cq,I.cells]at ae;have aH:decide ((k:Int)<(n:Int))=true:=b1;have hw:=dW ak (by omega)
   refine bW ?_;refine sH (dF l[k]) ?_;simp only[go_sem];repeat' first|(refine ad ?_;simp only[go_sem])|refine bx ?_|(refine bD ?_ ?_<;>intro h<;>try exact bB h)|fail
   ·exact bC (.of (by rw[pN p l k ak (fun q aS=>bX q aS (by omega)) (by assumption)]))
   ·refine⟨k+1,⟨by omega,fun q aS iK=>?_⟩,by omega,bH _ hw⟩
    by_cases e:q=k
    ·subst e;assumption
    ·exact bX q (by omega) (by omega)
  ·have cv:k=n:=by omega
   subst cv;have aH:decide ((k:Int)<(k:Int))=false:=by simp
   refine bW ?_;exact bC (.of (by rw[pO p l fun q hk=>bX q (by omega) hk]))
theorem aBN{i:Nat}{n:Int}{G:ab}(hi:ao G i=.cells 0 [.int .i64 n])(s:iD):aY Tryz.prog 120 [cq s,.ref i 0 0] G (.bool (decide (s.aR=n))):=by
 refine bh Tryz.func120 ?_;have iJ:=bz hi trivial;refine b0 cq.eq_1 ?_;exact bo (.refl _)
theorem HW{n i v k lc:Nat}{H:ab}{cs r:List I}(D:List iD)(ag:n<=i)(ah:ao H i=.cells v cs)(al:cs=aI cq D++r)(hk:D.length=k):cQ n H (.osl 2 i v 0 k lc) (.sl false (D.map cq)):=
 sG (es:=D.map cq) (rest:=r) ag ah al (by rw[cP,hk]) (fun e he=>by(obtain⟨x, -,rfl⟩:=bP.1 he;rfl)) (fun e he=>by(obtain⟨x, -,rfl⟩:=bP.1 he;simp only[go_sem]))
theorem aEr(f:Bool)(g:ns)(n up:Int)(h1:g.waits.length<=1000000)(H:ab):aY Tryz.prog 84 [kN f g,.int .i64 n,.int .i64 up] H (.a0 [kN false (vV g n up).1,.bool (vV g n up).2]):=by
 refine bh Tryz.func84 ?_;have kv:=mT [(8,Pz)];have eu:=dE (enc:=cq) (s:=2) (fun _=>rfl) g.waits
 refine b0 kN.eq_1 ?_;refine c6 (Sj f g.waits (by omega) _) (aA) ?_
 rintro v H' ⟨rfl,rfl⟩;simp only[go_sem];unfold vV;by_cases hk:up<=g.kept
 ·have g1:decide (up<=g.kept)=true:=cF hk;rw[aF hk];refine bW ?_;exact⟨_,.a0 [kN false g,.bool true],rfl,.a0 _ _ rfl (dV (.agg _ _ rfl (dV (.cl _ (.int _ _)) (dV (HW (r:=[]) _ (by omega) (by simp only[go_sem]) (b2 _).symm rfl) gY))) (dV (.cl _ (.bool _)) gY)),rfl⟩
 ·have g1:decide (up<=g.kept)=false:=b8 hk;rw[az hk];refine bW ?_;refine ea (S7 g.waits (fun w=>decide (w.aR=n)) (H.length+3) 1 g.waits.length g.waits.length rfl (bk _) (by omega) _ (by simp only[go_sem]) fun x=>.inl ⟨aA,aBN (by simp only[go_sem]) x⟩) aA ?_
  rcases GG (fun w:iD=>decide (w.aR=n)) g.waits with⟨aQ,aO⟩|⟨a,aD,aQ,aO⟩
  ·have bS:ie g n=false:=by
    unfold ie;rw[Hn];exact ux.1 aO
   rw[aQ];simp only[bS,ht,eF,go_sem];have d1:decide ((-1:Int)<0)=true:=rfl;refine bW ?_;refine⟨⟨fun e he=>by rw[he];rfl,by omega⟩,?_⟩
   refine aT ?_;exact⟨_,.a0 [kN false ⟨g.kept,g.waits++[⟨n,up⟩]⟩,.bool false],rfl,.a0 _ _ rfl (dV (.agg _ _ rfl (dV (.cl _ (.int _ _)) (dV (HW (r:=[]) (cs:=aI cq g.waits++[.int .i64 n,.int .i64 up]) (g.waits++[⟨n,up⟩]) (by omega) (by simp only[go_sem]) (by rw[iu,b2];rfl) (by simp)) gY))) (dV (.cl _ (.bool _)) gY)),rfl⟩
  ·have bS:ie g n=true:=List.any_eq_true.2 ⟨_,hv aD,by have:=yY aO;exact this⟩
   rw[aQ];have d1:decide ((a:Int)<0)=false:=cg;have fj:=om (enc:=cq) (s:=2) (fun _=>rfl) aD
   simp only[cq,I.cells]at fj;simp only[bS,dI,go_sem];have iJ:a * 2+2<=g.waits.length * 2:=by omega
   have hV:a * 2+1<g.waits.length * 2:=by omega
   have ak:decide ((a:Int)<(g.waits.length:Int))=true:=b1;have Oz:=Si (up:=up) aD aQ;clear aQ aO;have mJ:(aI cq g.waits).getD (a * 2+1) .top=.int .i64 g.waits[a].upto:=by
    unfold aI;rw[eP,yw (s:=2) (es:=g.waits.map cq) (k:=a) (j:=1) (e:=cq g.waits[a]) (x:=.int .i64 g.waits[a].upto) (fun e he=>by(obtain⟨x, -,rfl⟩:=bP.1 he;rfl)) (by rw[nj,c0 aD];rfl) rfl]
    rfl
   have o7:=sJ (enc:=cq) (s:=2) (f:=1) (X:=[.int .i64 (max g.waits[a].upto up)]) (fun _=>rfl) aD (bk 2) ⟨g.waits[a].aR,max g.waits[a].upto up⟩ rfl
   have a2:((0:Int)<=(a:Int)∧(a:Int)<(g.waits.length:Int))=True:=bJ ⟨by omega,by omega⟩
   have hV:(a * 2+1<g.waits.length * 2)=True:=bJ hV;repeat' first|((first|refine mx [8] Pz ?_|refine ad ?_);simp only[go_sem,d1,eu,mJ,o7,a2,hV])|refine af ?_|fail
   rw[Oz];exact⟨_,.a0 [kN false ⟨g.kept,g.waits.set a ⟨g.waits[a].aR,max g.waits[a].upto up⟩⟩,.bool false],rfl,.a0 _ _ rfl (dV (.agg _ _ rfl (dV (.cl _ (.int _ _)) (dV (HW (r:=[]) (g.waits.set a ⟨g.waits[a].aR,max g.waits[a].upto up⟩) (by omega) (by simp only[go_sem]) (b2 _).symm (by simp)) gY))) (dV (.cl _ (.bool _)) gY)),rfl⟩
structure Bp (i p eT aV:Nat) (k:Int) (A B:List iD) (G:ab):Prop where
 hi:∃w,ao G i=.cells 0 [.int .i64 k,w]
 ae:ao G p=.cells 0 [.osl 2 eT (A.length+1) 0 A.length A.length,.osl 2 aV (B.length+1) 0 B.length B.length]
 aC:ao G eT=.cells (A.length+1) (aI cq A)
 h1:ao G aV=.cells (B.length+1) (aI cq B)
theorem aBO{i p eT aV:Nat}{k:Int}{A B:List iD}{G:ab}(h:Bp i p eT aV k A B G)(d1:p≠eT)(d2:p≠aV)(d3:eT≠aV)(d4:i≠p)(d5:i≠eT)(d6:i≠aV)(O1:A.length<=1000000)(aKU:B.length<=1000000)(w:iD):
  c5 Tryz.prog 76 [cq w,.ref i 0 0,.ref p 0 0] G (fun v H'=>v=.a0 []∧Bp i p eT aV k (if w.upto<=k then A else A++[w]) (if w.upto<=k then B++[w]else B) H'∧H'.length=G.length∧∀j,j≠p->j≠eT->j≠aV->ao H' j=ao G j):=by
 refine eJ Tryz.func76 ?_;obtain⟨⟨ws,hi⟩,ae,aC,h1⟩:=h;have fV:=bz hi trivial;have qo:=bz ae trivial;have cw:=bz aC trivial;have aZ:=bz h1 trivial;have sp:=jI ae trivial;have kk:=jI aC trivial;have s1:=jI h1 trivial;have U8:=dE (enc:=cq) (s:=2) (fun _=>rfl) A
 have EU:=dE (enc:=cq) (s:=2) (fun _=>rfl) B
 have O4:=c8 ae trivial;have dP:∀b,b≠p->∀X L,ao (ai G b X++L) p=_:=fun b aa X L=>bQ (bM ae aa X) trivial L
 have ar:∀b X L,ao (ai G b X++L) G.length=L.getD 0 .gone:=fun b X L=>rB (aX _ _ _)
 have au:∀b X L Y,ai (ai G b X++L) p Y=ai (ai G b X) p Y++L:=fun b X L Y=>gW (by rw[aX];exact O4) L Y
 have bd:=dP eT (kn d1);have bE:=dP aV (kn d2);have rF:=c8 aC trivial;have cu:=c8 h1 trivial;have li:=c8 hi trivial;have fin:∀(b:Nat) (X Y:List I) (v:Nat),(∀x∈X,bO x)->(∀x∈Y,cX G.length x)->∀(j:Nat) (c:bu),(ai (ai G b (.cells v X)) p (.cells 0 Y))[j]?=some c->G[j]?=some c∨dp G.length c:=fun b X Y v ez tt j c al=>(pI (H:=ai G b (.cells v X)) (i:=p) (b:=.cells 0 Y) tt j c al).elim (fun h=>pI (b:=.cells v X) (fun x J=>(ez x J).cl _) j c h) .inr
 have Wk:∀(l:List iD),∀x∈aI cq l,bO x:=fun l=>oX (fun x=>by simp only[go_sem]) l
 by_cases hk:w.upto<=k
 ·have g1:decide (w.upto<=k)=true:=cF hk;simp only[aF hk];repeat' first|((first|refine mx [4] PA ?_|refine ad ?_);simp only[go_sem,cq,fV,qo,cw,aZ,sp,kk,s1,U8,EU,g1,ar,au,bd,bE])|refine af ?_|fail
  refine⟨⟨fun e he=>by rw[he];rfl,by omega⟩,by omega,by omega,?_⟩
  have aD:aI cq (B++[w])=aI cq B++[.int .i64 w.aR,.int .i64 w.upto]:=iu ..;refine⟨_,_,.a0 [],rfl,by rw[aX,aX],fin aV _ _ _ (by rw[<-aD];exact Wk _) (fun x J=>?_),.cl _ (.a0 _ fun _ _ J=>by simp at J),rfl,⟨⟨ws,bM (bM hi (kn d6) _) (kn d4) _⟩,by rw[bt];exact dT (by rw[aX];exact O4) _,bM (bM aC (kn d3) _) d1 _,by rw[aD,bt];exact bM (dT cu _) d2 _⟩,by rw[aX,aX],fun j fr dZ gh=>by rw[hI (kn fr),hI (kn gh)]⟩
  simp only[c7,jB,jD]at J;rcases J with rfl|rfl
  ·exact .osl _ _ _ _ _ _ rF
  ·exact .osl _ _ _ _ _ _ cu
 ·have g1:decide (w.upto<=k)=false:=b8 hk;simp only[az hk];repeat' first|((first|refine mx [4] PA ?_|refine ad ?_);simp only[go_sem,cq,fV,qo,cw,aZ,sp,kk,s1,U8,EU,g1,ar,au,bd,bE])|refine af ?_|fail
  refine⟨⟨fun e he=>by rw[he];rfl,by omega⟩,by omega,by omega,?_⟩
  have aD:aI cq (A++[w])=aI cq A++[.int .i64 w.aR,.int .i64 w.upto]:=iu ..;refine⟨_,_,.a0 [],rfl,by rw[aX,aX],fin eT _ _ _ (by rw[<-aD];exact Wk _) (fun x J=>?_),.cl _ (.a0 _ fun _ _ J=>by simp at J),rfl,⟨⟨ws,bM (bM hi (kn d5) _) (kn d4) _⟩,by rw[bt];exact dT (by rw[aX];exact O4) _,by rw[aD,bt];exact bM (dT rF _) d1 _,bM (bM h1 d3 _) d2 _⟩,by rw[aX,aX],fun j fr dZ gh=>by rw[hI (kn fr),hI (kn dZ)]⟩
  simp only[c7,jB,jD]at J;rcases J with rfl|rfl
  ·exact .osl _ _ _ _ _ _ rF
  ·exact .osl _ _ _ _ _ _ cu
end
section
theorem aGE(d:TypeDesc):iy d []=True:=bJ fun _ h=>by cases h
theorem aEs(d:TypeDesc)(p:I×I×Nat)(es:List (I×I×Nat)):iy d (p::es)=(jE d p.1=true∧iy d es):=propext List.forall_mem_cons
theorem aGF(k l:IntKind)(a b:Int):iA (.int k a) (.int l b)=decide (a=b):=rfl
def zr:List (I×I×Nat):=[(.int .i64 1,.func (.func 90) [] [],0),(.int .i64 2,.func (.func 90) [] [],1),(.int .i64 3,.func (.func 91) [] [],2),(.int .i64 4,.func (.func 92) [] [],3),(.int .i64 5,.func (.func 93) [] [],4),(.int .i64 6,.func (.func 94) [] [],5),(.int .i64 7,.func (.func 95) [] [],6),(.int .i64 8,.func (.func 96) [] [],7),(.int .i64 9,.func (.func 97) [] [],8),(.int .i64 10,.func (.func 98) [] [],9),(.int .i64 11,.func (.func 99) [] [],10),(.int .i64 12,.func (.func 100) [] [],11),(.int .i64 13,.func (.func 101) [] [],12)]
def Ii(k:Int):FuncId:=if k=1∨k=2 then 90 else if k=3 then 91 else if k=4 then 92 else if k=5 then 93 else if k=6 then 94
 else if k=7 then 95 else if k=8 then 96 else if k=9 then 97 else if k=10 then 98 else if k=11 then 99 else if k=12 then 100 else 101
theorem aEt(n:Nat):dp n (.map zr 13):=fun p ae=>by
 simp only[zr,c7,jB,jD]at ae;rcases ae with rfl|rfl|rfl|rfl|rfl|rfl|rfl|rfl|rfl|rfl|rfl|rfl|rfl;all_goals exact⟨.int _ _,.func _ _ _ (fun _ _ h=>by simp at h) (fun _ _ h=>by simp at h)⟩
theorem Uq{m:cb}(h:ey m):np m where
 nodes:=by have:=h.nodes.len;omega
 db:=by have:=h.cap;omega
 ops:=fun e he=>TA (h.ob.ok e.op (bP.2 ⟨e,he,rfl⟩))
 cj:=by have:=h.cj;omega
 bN:=by have:=h.bN;omega
 snap:=fun s hs=>by have:=(h.snap s hs).len;omega
 bV:=fun w hw=>by have:=(h.watch w hw).2.1;omega
theorem Ij{q:Int}{l:List aB}(h:vP q l):r6 l:=fun n ag=>by have:=(h.fq n ag).name;omega
theorem aG0{m:cb}(h:ey m){d:cS}(hd:ey d.m):Qt m.log.nodes d where
 PX:=h.nodes.lU.wf
 PY:=hd.nodes.lU.wf
 Xt:=Ij h.nodes
 Xu:=Ij hd.nodes
 len:=by have:=h.nodes.len;omega
 dir:=fun w hw=>(hd.watch w hw).1
def wg(r:cb×hS×List bf):I:=.a0 [dv false false false false r.1,il false false r.2.1,.sl false (r.2.2.map bY)]
theorem aGG(f1 f2 f3 f4:Bool)(m:cb):fY (dv f1 f2 f3 f4 m) (dv false false false false m):=
 .agg _ _ rfl (dh (.sl _ _) (dh (.sl _ _) (dh (.refl _) (dh (.refl _) (dh (.sl _ _) (dh (.sl _ _) (dh (.refl _) mF)))))))
theorem aGH(f1 f2:Bool)(a:hS):fY (il f1 f2 a) (il false false a):=
 .agg _ _ rfl (dh (.refl _) (dh (.refl _) (dh (.sl _ _) (dh (.refl _) (dh (.sl _ _) mF)))))
theorem TI(f1 f2 f3 f4 aZ a7 h1:Bool)(m:cb)(a:hS)(o:List bf):fY (.a0 [dv f1 f2 f3 f4 m,il aZ a7 a,.sl h1 (o.map bY)]) (wg (m,a,o)):=
 .a0 _ _ rfl (dh (aGG _ _ _ _ _) (dh (aGH _ _ _) (dh (.sl _ _) mF)))
theorem aG1(n:Nat)(f g:Bool)(a:hS):cX n (il f g a):=(bO.agg _ fun x J=>by
 simp only[c7,jB,jD]at J;rcases J with rfl|rfl|rfl|rfl|rfl
 ·exact .int _ _
 ·exact .str _
 ·exact .sl _ _ fun x J=>by(obtain⟨y, -,rfl⟩:=bP.1 J;exact .str _)
 ·exact .int _ _
 ·exact .sl _ _ fun x J=>by(obtain⟨y, -,rfl⟩:=bP.1 J;simp only[ct,go_sem])).cl n
theorem TJ{n i v k lc:Nat}{H:ab}(m:cb)(a:hS)(o:List bf)(ag:n<=i)(ah:ao H i=.cells v (aI bY o))(hk:o.length=k):cQ n H (.a0 [dv false false false false m,il false false a,.osl 7 i v 0 k lc]) (wg (m,a,o)):=
 .a0 _ _ rfl (dV (.cl _ ((bO.cl (by simp only[go_sem])) n)) (dV (.cl _ (aG1 n false false a)) (dV (tV ag ah hk (fun _=>rfl) (fun x=>by simp only[go_sem])) gY)))
def GH:List cR:=[.eff [],.pure 1,.pure 1,.pure 0,.free,.free,.free,.free,.free]
def GI:List cR:=[.free,.pure 0,.pure 0,.pure 0,.free,.pure 0,.pure 0,.pure 0,.free,.pure 0,.pure 0,.pure 0,.eff [true,true,true,true,true,true,false,false,false],.eff [true,true,true,false,false,false],.free]
attribute [go_sem] GH GI
theorem Eg(r:Int)(H:ab):aY Tryz.prog 10 [.int .i64 r] H (.a0 [dv false false false false (ng r).1,.int .i64 (ng r).2]):=by
 refine bh Tryz.func10 ?_;unfold ng;by_cases h1:r<0
 ·have d1:decide (r<0)=true:=cF h1;rw[az (by omega)]
  refine bW ?_;exact bo (.a0 _ _ rfl (dh (.agg _ _ rfl (dh (.sl _ _) (dh (.sl _ _) (dh (.refl _) (dh (.refl _) (dh (.sl _ _) (dh (.sl _ _) (dh (.refl _) mF)))))))) (dh (.refl _) mF)))
 have d1:decide (r<0)=false:=b8 h1;by_cases h2:63<r
 ·have d2:decide (63<r)=true:=cF h2;rw[az (by omega)]
  refine bW ?_;exact bo (.a0 _ _ rfl (dh (.agg _ _ rfl (dh (.sl _ _) (dh (.sl _ _) (dh (.refl _) (dh (.refl _) (dh (.sl _ _) (dh (.sl _ _) (dh (.refl _) mF)))))))) (dh (.refl _) mF)))
 have d2:decide (63<r)=false:=b8 h2;rw[aF (by omega)]
 refine bW ?_;exact bo (.a0 _ _ rfl (dh (.agg _ _ rfl (dh (.sl _ _) (dh (.sl _ _) (dh (.refl _) (dh (.refl _) (dh (.sl _ _) (dh (.sl _ _) (dh (.refl _) mF)))))))) (dh (.refl _) mF)))
theorem aFY(H:ab):c5 Tryz.prog 60 [] H (fun v H'=>v=.map H.length∧H'=H++[.map zr 13]):=by
 refine pD Tryz.func60 ?_;repeat' first|(refine ad ?_;simp only[go_sem,hB,pQ,eL,aGF,aGE,aEs,jE,qi,Bf,DP,Int.reduceEq,gK])|refine af ?_|fail
 exact⟨_,[],_,(b2 _).symm,by simp,wT fun b aa=>by(rw[dA]at aa;subst aa;exact aEt _),.cl _ (.map _ (by simp)),rfl,rfl⟩
theorem aHy{c:b3}(hk:pG c=true):(∃n,eL (.int .i64 c.kind) zr=some (n,.func (.func (Ii c.kind)) [] []))∧lx Tryz.prog (Ii c.kind)=true:=by
 rcases KZ hk with e|e|e|e|e|e|e|e|e|e|e|e|e<;>rw[e]
 ·exact⟨⟨_,rfl⟩,(aA)⟩
 ·exact⟨⟨_,rfl⟩,(aA)⟩
 ·exact⟨⟨_,rfl⟩,(aA)⟩
 ·exact⟨⟨_,rfl⟩,(aA)⟩
 ·exact⟨⟨_,rfl⟩,(aA)⟩
 ·exact⟨⟨_,rfl⟩,(aA)⟩
 ·exact⟨⟨_,rfl⟩,(aA)⟩
 ·exact⟨⟨_,rfl⟩,(aA)⟩
 ·exact⟨⟨_,rfl⟩,(aA)⟩
 ·exact⟨⟨_,rfl⟩,(aA)⟩
 ·exact⟨⟨_,rfl⟩,(aA)⟩
 ·exact⟨⟨_,rfl⟩,(aA)⟩
 ·exact⟨⟨_,rfl⟩,(aA)⟩
theorem aEu{m:cb}(h:ey m){c:b3}(al:jh c)(hk:pG c=true){i j:Nat}{G:ab}(aa:gv i j c ⟨m,c2,[]⟩ G):qZ Tryz.prog (Ii c.kind) i j c (ih c ⟨m,c2,[]⟩) G:=by
 have hs:np (cS.m ⟨m,c2,[]⟩):=Uq h;have hl:(cS.ops ⟨m,c2,[]⟩).length<=1000000:=bG _;have m9:∀l,pa m c.n=some l->r6 l:=fun l hl=>by
  unfold pa at hl;split at hl
  ·cases hl;exact Ij h.nodes
  ·obtain⟨s,an,rfl⟩:=jC.1 hl;exact Ij (h.snap s (rV an))
 rcases KZ hk with e|e|e|e|e|e|e|e|e|e|e|e|e;all_goals(unfold ih;rw[e])
 ·exact Sx aa hs al hl
 ·exact Sx aa hs al hl
 ·exact aBW aa hs al hl
 ·exact aER aa hs al m9
 ·exact aES aa hs al hl
 ·exact aAl aa hs al hl
 ·exact aGV aa hs al m9
 ·exact aE0 aa hs
 ·exact aE2 aa hs
 ·exact aBZ aa hs al
 ·exact aE5 aa hs
 ·exact aEZ aa
 ·exact aB4 aa hs al (bG _) ⟨h.cap,by have:=h.nodes.len;simp only;omega⟩
theorem Ik(f1 f2 f3 f4:Bool)(m:cb)(h:ey m)(c:b3)(al:jh c)(H:ab):aY Tryz.prog 33 [dv f1 f2 f3 f4 m,cJ c] H (wg (dz m c)):=by
 refine bh Tryz.func33 ?_;have kv:=mT [(4,GH),(12,GI)];have kx:=aBt c al.path al.to;simp only[cJ]at kx;unfold dz;cases hk:pG c with
 |false=>
  rw[hk]at kx;rw[aF rfl];refine b0 (hC dv.eq_1 (hC gf.eq_1 cJ.eq_1)) ?_;exact bo (TI f1 f2 f3 f4 true true true m (Cf 180) [])
 |true=>
  rw[hk]at kx;rw[az (by simp)]
  repeat' first|(refine ad ?_;simp only[go_sem,dv,gf,cJ])|refine bx ?_|fail
  refine ly rfl (fun h=>by cases h) (fun _=>?_)
  refine SR ?_;simp only[go_sem];have hm:=h;obtain⟨Qu,Cp⟩:∃X:List I,X=[.sl f1 (m.log.entries.map de),.sl f2 (m.log.nodes.map aW),.int .i64 m.seen,.int .i64 m.rep,.sl f3 (m.cj.map cU),.sl f4 (m.bN.map bU),.int .i64 m.next]:=⟨_,rfl⟩;obtain⟨Qv,NX⟩:∃X:List I,X=[.sl true [],.sl true [],.int .i64 0,.int .i64 0,.sl true [],.sl true [],.int .i64 0]:=⟨_,rfl⟩;obtain⟨Qw,NY⟩:∃X:List I,X=[.int .i64 0,.str [],.sl true [],.int .i64 0,.sl true []]:=⟨_,rfl⟩;obtain⟨Lf,I6⟩:∃D:List I,D=[.sl f1 (m.log.entries.map de),.sl f2 (m.log.nodes.map aW),.int .i64 m.seen,.int .i64 m.rep,.sl f3 (m.cj.map cU),.sl f4 (m.bN.map bU),.int .i64 m.next,.int .i64 0,.str [],.sl true [],.int .i64 0,.sl true [],.int .i64 c.kind,.str c.path,.str c.to,.str c.data,.int .i64 c.n,.sl true []]:=⟨_,rfl⟩
  refine vr (ι:=Unit) (fun _=>[(2,.ref H.length 0 0),(3,.ref (H.length+1) 0 0),(4,.ref (H.length+2) 0 0),(5,.ref (H.length+3) 0 0),(6,.sl true []),(7,.ref (H.length+4) 0 0)])
   (fun _=>H++[.cells 0 Qu,.cells 0 [.int .i64 c.kind,.str c.path,.str c.to,.str c.data,.int .i64 c.n],.cells 0 Qv,.cells 0 Qw,.cells 0 Lf]) (fun _=>True) ?_ fun _ _=>?_
  ·rw[Cp,NX,NY,I6];repeat' first|(refine ad ?_;simp only[go_sem])|refine af ?_|fail
   exact⟨(),trivial⟩
  refine Dm (H.length+4) 17 7 (cs:=Lf) (v:=0) (by simp only[go_sem]) (by rw[I6];rfl) ?_
  refine Dq (H.length+4) (fv (H.length+5) c ⟨m,c2,[]⟩) (v:=0) (cs:=Lf.set 17 (.osl 7 (H.length+5) 1 0 0 0)) (by simp only[go_sem]) (by rw[I6];rfl) ?_ ?_
  ·rw[I6];unfold fv;repeat' first|exact mF|refine dh ?_ ?_|exact .refl _|exact .sl _ _
  simp only[go_sem];obtain⟨⟨aKS,ss⟩,VL⟩:=aHy hk;have VY:iy (.int .i64) zr=True:=bJ (by intro p ae;simp only[zr,c7,jB,jD]at ae;rcases ae with rfl|rfl|rfl|rfl|rfl|rfl|rfl|rfl|rfl|rfl|rfl|rfl|rfl<;>rfl)
  obtain⟨rh,VQ⟩:∃rh,Ii c.kind=rh:=⟨_,rfl⟩;rw[VQ]at ss VL;obtain⟨XU,NM⟩:∃C:List I,C=[.int .i64 c.kind,.str c.path,.str c.to,.str c.data,.int .i64 c.n]:=⟨_,rfl⟩;have hw:∀{i j:Nat} {G:ab},gv i j c ⟨m,c2,[]⟩ G->qZ Tryz.prog rh i j c (ih c ⟨m,c2,[]⟩) G:=fun aa=>VQ▸aEu hm al hk aa
  obtain⟨⟨e,d1⟩,ax⟩:∃r,ih c ⟨m,c2,[]⟩=r:=⟨_,rfl⟩;rw[ax]at hw ⊢;refine vr (ι:=Unit) (fun _=>[(2,.ref H.length 0 0),(3,.ref (H.length+1) 0 0),(4,.ref (H.length+2) 0 0),(5,.ref (H.length+3) 0 0),(6,.sl true []),(7,.ref (H.length+4) 0 0),(8,.func (.func rh) [] []),(9,.bool true)])
   (fun _=>H++[.cells 0 Qu,.cells 0 XU,.cells 0 Qv,.cells 0 Qw,.cells 0 (fv (H.length+5) c ⟨m,c2,[]⟩),.cells 1 [],.map zr 13]) (fun _=>True) ?_ fun _ _=>?_
  ·repeat' first|((first|refine mx [4] GH ?_|refine mx [12] GI ?_|refine ad ?_);simp only[go_sem])|refine af ?_|fail
   refine pJ (aFY _) (aA) ?_;simp only[go_sem,ss,VY];repeat' first|(refine ad ?_;simp only[go_sem,ss,VY])|refine af ?_|fail
   first|exact⟨(),trivial,⟨rfl,rfl,rfl,rfl,rfl,rfl,rfl,rfl⟩,by rw[NM]⟩|(refine⟨(),?_⟩;rw[NM];done)|(refine⟨(),?_⟩;rw[NM];rfl)|fail "Z"
  repeat' first|(refine ad ?_;simp only[go_sem])|refine af ?_|fail
  refine c6 (hw (i:=H.length+4) (j:=H.length+5) ⟨by omega,by simp only[go_sem],by simp only[go_sem];rfl⟩) VL ?_
  rintro v H' ⟨rfl,rfl⟩;unfold gg;simp only[go_sem];by_cases he:e=0
  ·subst he;rw[aF rfl];have gF:ey d1.m:=by
    have:=Tu hm hk (by rw[ax])
    rwa[ax]at this
   have hlen:(if d1.ops=[]then(d1.m,d1.a,[])else((xJ m.log.nodes d1).m,d1.a,d1.ops))=if d1.ops=[]then(d1.m,d1.a,([]:List bf))else((xJ m.log.nodes d1).m,d1.a,d1.ops):=rfl
   by_cases aN:d1.ops=[]
   ·have FC:d1.ops.length=0:=by rw[aN];rfl
    rw[aF aN];repeat' first|((first|refine mx [4] GH ?_|refine mx [12] GI ?_|refine ad ?_);simp only[go_sem,Cp,NX,NY,fv,FC,Int.reduceLT])|refine af ?_|fail
    exact⟨_,wg (d1.m,d1.a,[]),rfl,TJ d1.m d1.a [] (by omega) (by simp only[go_sem];rw[aN]) rfl,rfl⟩
   ·have FC:decide ((0:Int)<(d1.ops.length:Int))=true:=cF (by have:=vF.2 aN;omega)
    rw[az aN];refine b0 fv.eq_1 ?_;refine c6 (aE7 (i:=H.length+4) (j:=H.length+5) (c:=c) (d:=d1) ⟨by omega,by simp only[go_sem,fv],by simp only[go_sem]⟩ (Uq gF) f2 m.log.nodes (aG0 hm gF)) (aA) ?_
    rintro v H' ⟨rfl,rfl⟩;unfold gg;simp only[go_sem,fv];repeat' first|((first|refine mx [4] GH ?_|refine mx [12] GI ?_|refine ad ?_);simp only[go_sem,Cp,NX,NY,fv])|refine af ?_|fail
    exact⟨_,wg ((xJ m.log.nodes d1).m,d1.a,d1.ops),rfl,TJ (xJ m.log.nodes d1).m d1.a d1.ops (by omega) (by simp only[go_sem];rfl) rfl,rfl⟩
  ·have hd:decide (e=0)=false:=b8 he;rw[az he];refine bW ?_;exact bo (TI f1 f2 f3 f4 true true true m (Cf e) [])
end
end Go.Proofs.YthafnbmdmfoobaaGreatDoor
