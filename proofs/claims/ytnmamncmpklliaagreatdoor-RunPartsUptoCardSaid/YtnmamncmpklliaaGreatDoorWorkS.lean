/- What functions answer. No condition. -/
import Derived.Test.YtnmamncmpklliaaGreatDoorWorkN
import Derived.Test.YtnmamncmpklliaaGreatDoorWorkR
set_option linter.unusedSimpArgs false
set_option linter.unusedVariables false
set_option linter.unusedSectionVars false
set_option maxRecDepth 100000
set_option maxHeartbeats 16000000
namespace Go.Proofs.YtnmamncmpklliaaGreatDoor
variable{i p n aB hM hP jE kq lw k fL aW:Nat}{H G:ab}{t:fw}{x':bM}
open Go.Proofs.Tryz
def gV(x:bM)(i:Nat):List Int:=((x.aE.take i).zipIdx.filter (sg x)).map λp=>(p.2:Int)
theorem aFj(x:bM)(hi:i<x.aE.length):gV x (i+1)=gV x i++if sg x (x.aE[i],i)=true then[(i:Int)]else[]:=by unfold gV;rw[hc hi,List.zipIdx_append,wS,qz,gK,Nat.min_eq_left gf];congr 1;simp only[List.zipIdx_cons,List.zipIdx_nil,sG,List.filter_nil,lr];split<;>simp_all
theorem VU(x:bM):gV x x.aE.length=(kG x).map λn:Nat=>(n:Int):=by unfold gV kG;rw[fe,sH];rfl
theorem VV(x:bM)(i:Nat):(gV x i).length<=i:=by unfold gV;rw[dq];have h1:=o1 (sg x) (x.aE.take i).zipIdx;rw[List.length_zipIdx,gK]at h1;omega
theorem aKP(f1 f2 f3 f4 f5 f6 f7 f8 f9:Bool)(x:bM)(af:x.aE.length<=1000)(H:ab):aO prog 116 [jk f1 f2 f3 f4 f5 f6 f7 f8 f9 x] H (.sl false<|((kG x).map λn:Nat=>(n:Int)).map bu):=by
 refine bg func116 ?_;have Z:=aIU f7 x.g;refine bL (hj jk.eq_1 lx.eq_1) ?_;obtain⟨X,dk⟩:∃X,(jk f1 f2 f3 f4 f5 f6 f7 f8 f9 x).cells=X:=⟨_,rfl⟩;have ux:=dk;simp only[jk,lx,I.cells]at ux;rw[ux];refine xU 3 1 rfl ?_;simp only[go_sem];refine c7 (ι:=Nat×ab) (λs=>[(1,.ref H.length 0 0),(3,.osl 1 (H.length+1) ((gV x s.1).length+1) 0 (gV x s.1).length (gV x s.1).length),(12,.sl f8<|x.aE.map aZ),(13,.int .i64 x.aE.length),(14,.int .i64 s.1)])
  (λs=>H++(.cells 0 X::.cells ((gV x s.1).length+1) ((gV x s.1).map bu)::s.2)) (λs=>s.1<=x.aE.length) (λs=>x.aE.length-s.1) (0,[]) (cb _) ?_ rfl ?_
 ·simp[go_sem,gV]
 rintro⟨i,M⟩ hi;simp only at hi ⊢;have rV:=VV x i;obtain⟨G,a7⟩:∃G,H++(.cells 0 X::.cells ((gV x i).length+1) ((gV x i).map bu)::M)=G:=⟨_,rfl⟩;have g0:az G H.length=.cells 0 (jk f1 f2 f3 f4 f5 f6 f7 f8 f9 x).cells:=by rw[<-a7,dk];simp only[go_sem]
 have g2:az G (H.length+1)=.cells ((gV x i).length+1) ((gV x i).map bu):=by rw[<-a7];simp only[go_sem]
 simp only[jk,lx,I.cells]at g0;by_cases K:i<x.aE.length
 ·rw[a7];have g1:=bE g0 trivial;have g3:=bE g2 trivial;have g4:=hU g2 trivial;have gs:∀Y,an G (H.length+1) Y=H++(.cells 0 X::Y::M):=λY=>by rw[<-a7];simp only[go_sem]
  have ad:=ek aZ K;have O:decide ((i:Int)<(x.aE.length:Int))=true:=cS;have gI:IntKind.i64.wrap ((i:Int)+1)=((i+1:Nat):Int):=eb K gf;have J:=aFj x K;obtain⟨t,ag⟩:∃t,t=x.aE[i]:=⟨_,rfl⟩;rw[<-ag]at ad J;simp only[aZ]at ad;have z:=aHu f5 f6 x.t (i:Int);have vV:=Xb f7 x.g (i:Int);simp only[gp,mw,L7,Qi]at z vV Z;have U:sg x (t,i)=false->∃y:Nat×ab,y.1<=x.aE.length/\x.aE.length-y.1<x.aE.length-i/\(I.osl 1 (H.length+1) ((gV x i).length+1) 0 (gV x i).length (gV x i).length=I.osl 1 (H.length+1) ((gV x y.1).length+1) 0 (gV x y.1).length (gV x y.1).length/\I.int .i64 (IntKind.i64.wrap<|(i:Int)+1)=.int .i64 (y.1:Int))/\G++[.cells 0 (aZ t).cells]=H++(.cells 0 X::.cells ((gV x y.1).length+1) ((gV x y.1).map bu)::y.2):=λS=>by rw[S,ar ko,cE]at J;exact⟨(i+1,M++[.cells 0 (aZ t).cells]),K,by simp only;omega,⟨by simp only[J],b7 _ gI⟩,by simp only[J];rw[<-a7];simp⟩
  have T:sg x (t,i)=true->∃y:Nat×ab,y.1<=x.aE.length/\x.aE.length-y.1<x.aE.length-i/\(I.osl 1 (H.length+1) ((gV x i).length+2) 0 ((gV x i).length+1) ((gV x i).length+1)=I.osl 1 (H.length+1) ((gV x y.1).length+1) 0 (gV x y.1).length (gV x y.1).length/\I.int .i64 (IntKind.i64.wrap<|(i:Int)+1)=.int .i64 (y.1:Int))/\an G (H.length+1) (.cells ((gV x i).length+2)<|(gV x i).map bu++[.int .i64 i])++[.cells 0 (aZ t).cells]=H++(.cells 0 X::.cells ((gV x y.1).length+1) ((gV x y.1).map bu)::y.2):=λS=>by rw[S,aC rfl]at J;exact⟨(i+1,M++[.cells 0 (aZ t).cells]),K,by simp only;omega,⟨by simp only[J,bw,cd,dZ],b7 _ gI⟩,by simp only[J];rw[gs];simp[bu]⟩
  have AN:((gV x i).length * 1=(gV x i).length/\(∀(e:I),e=I.int IntKind.i64 ↑i->e.cells.length=1)/\((gV x i).length+1) * 8<=140737488355328):=⟨gf,λe he=>(by rw[he];rfl),gf⟩
  simp only[aZ,I.cells]at U T;cases he:t.ended with
  |true=>
   repeat' first|(refine ae ?_;simp only[go_sem,ad,O,he])|refine ai ?_|fail
   rw[he]at U;exact U<|by unfold sg;simp[he]
  |false=>
   rw[he]at U;cases hw:vt x.t.waits i with
   |some k=>
    rw[hw]at z;repeat' first|(refine ae ?_;simp only[go_sem,ad,O,he,g0,g1,g2,g3])|refine ai ?_|fail
    exact U<|by unfold sg;simp[hw]
   |none=>
    rw[hw]at z;cases V:iC x.g i with
    |false=>
     rw[V]at vV;have S:sg x (t,i)=true:=by unfold sg;simp[he,hw,V]
     repeat' first|(refine ae ?_;simp only[go_sem,ad,O,he,g0,g1,g2,g3,g4])|refine ai ?_|fail
     rw[he]at T;exact T S
    |true=>
     rw[V]at vV;repeat' first|(refine ae ?_;simp only[go_sem,ad,O,he,g0,g1,g2,g3,g4])|refine bp ?_|(refine bz ?_ ?_<;>intro h<;>try exact bx h)|fail
     ·refine U ?_;unfold sg;simp only[Bool.or_eq_true,yt,wY]at h;have:¬z7 x.g=some (i:Int):=λe=>by rw[e]at h;simp at h
      simp[he,hw,V,this]
     ·rw[he]at T;refine T ?_;unfold sg;simp only[Bool.or_eq_false_iff,Bool.not_eq_false',iK]at h;have:z7 x.g=some (i:Int):=by
       obtain⟨h1,h2⟩:=h;cases hl:z7 x.g with
       |none=>rw[hl]at h1;cases h1
       |some k=>rw[hl]at h2;simp only[o0]at h2;rw[h2]
      simp[he,hw,V,this]
 ·have eI:i=x.aE.length:=gf;subst eI;have O:decide ((x.aE.length:Int)<(x.aE.length:Int))=false:=hW;rw[a7];refine hH ?_;refine⟨_,_,a7.symm,q8 (es:=(gV x x.aE.length).map bu) (rest:=[]) gf g2 (by rw[xQ,cE]) (by rw[dq]) (λe he=>?_) λe he=>?_,by rw[VU]⟩
  ·obtain⟨n,_,rfl⟩:=bP.1 he;rfl
  ·obtain⟨n,_,rfl⟩:=bP.1 he;simp only[bu,go_sem]
def LK(x:bM)(p:Int):I:=match wL x p with
 |none=>.aN [.int .i64 0,.bool false,.bool false]
 |some n=>.aN [.int .i64 n,.bool<|iC x.g n,.bool true]
theorem aJ0{p:Int}(af:0<n)(h2:n<=1000):(IntKind.i64.wrap (p.tmod n+n)).tmod n=p % n:=by
 have ay:(0:Int)<n:=gf;have J:=Int.tmod_lt_of_pos p ay;have a2: -(n:Int)<p.tmod n:=Int.lt_tmod_of_pos p ay;rw[wrap_i64 (n:=p.tmod n+n) gf gf,wR gf,Int.add_emod_right,Int.tmod_eq_emod];split
 ·simp
 ·rw[Int.sub_emod];simp
theorem XB(f1 f2 f3 f4 f5 f6 f7 f8 f9:Bool)(x:bM)(p:Int)(af:x.aE.length<=1000)(H:ab):aO prog 68 [jk f1 f2 f3 f4 f5 f6 f7 f8 f9 x,.int .i64 p] H (LK x p):=by
 refine bg func68 ?_;have J:=aKP f1 f2 f3 f4 f5 f6 f7 f8 f9 x af;unfold LK wL;by_cases ay:kG x=[]
 ·rw[aC ay];rw[ay]at J;simp only[jk,lx]at J;refine bL (hj jk.eq_1 lx.eq_1) ?_;exact aX<|.refl _
 ·rw[ar ay];have hl:0<(kG x).length:=nH.2 ay;have K:(kG x).length<=1000:=by
   have:=VV x x.aE.length;rw[VU,dq]at this;omega
  have d0:decide (((kG x).length:Int)=0)=false:=dA;simp only[jk,lx]at J;have h1:0<=p % ((kG x).length:Int):=Int.emod_nonneg _ gf;have h2:p % ((kG x).length:Int)<(kG x).length:=Int.emod_lt_of_pos _ gf;obtain⟨k,hk⟩:∃k:Nat,p % ((kG x).length:Int)=k:=⟨_,(Hd h1).symm⟩;have U:k<(kG x).length:=gf;have hw:=aJ0 (p:=p) hl K;rw[hk]at hw ⊢;have ad:((((kG x).map λn:Nat=>(n:Int)).map bu).getD k I.top)=.int .i64 ((kG x)[k]:Nat):=by rw[gg,nk,nk,dn U];rfl
  have O:(kG x).getD ((k:Int)).toNat 0=(kG x)[k]:=by rw[h5,gg,dn U];rfl
  simp only[O];have S:=Xb f7 x.g ((kG x)[k]:Nat);simp only[mw]at S;refine bL (hj jk.eq_1 lx.eq_1) ?_;exact aX<|.refl _
def UP:List cK:=[.ah 0,.ah 0,.bW [false,true],.ah 1,.ah 1,.ah 1,.aQ,.aQ,.bW [true,true,true,true],.ah 0,.bW []]
attribute [go_sem] UP
theorem YS(f1 f2 f3 f4 f5 f6 f7 f8 f9:Bool)(x:bM):eT (jk f1 f2 f3 f4 f5 f6 f7 f8 f9 x) (jk false false false false false false false false false x):=by unfold jk lx;refine .agg _ _ rfl ?_;repeat' first|exact kZ|refine de ?_ ?_|exact .refl _|exact .sl _ _
abbrev nM:bM->I:=jk false false false false false false false false false
theorem YT(f1 f2 f3 f4 f5 f6 f7 f8 f9:Bool)(x:bM)(e:Int):eT (.aN [jk f1 f2 f3 f4 f5 f6 f7 f8 f9 x,.int .i64 e]) (.aN [nM x,.int .i64 e]):=.aN _ _ rfl<|de (YS ..) (de (.refl _) kZ)
theorem aJ1(f1 f2 f3 f4 f5 f6 f7 f8 f9:Bool)(x:bM)(n e:Int):eT (.aN [jk f1 f2 f3 f4 f5 f6 f7 f8 f9 x,.int .i64 n,.int .i64 e]) (.aN [nM x,.int .i64 n,.int .i64 e]):=.aN _ _ rfl<|de (YS ..) (de (.refl _) (de (.refl _) kZ))
theorem VF:DX prog 102 aZ 18:=HJ 18 216 func102
theorem YU(r:Int)(H:ab):aO prog 30 [.int .i64 r] H (.aN [nM (mG r).1,.int .i64 (mG r).2]):=by
 refine bg func30 ?_;have hm:=aNa r;unfold mG;obtain⟨⟨m,e⟩,J⟩:∃z,og r=z:=⟨_,rfl⟩;rw[J]at hm ⊢;simp only[lf,tr]at hm;by_cases he:e=0
 ·subst he;rw[aC rfl];repeat' first|(refine ae ?_;simp only[go_sem])|refine ai ?_|fail
  exact aX<|YT false false false false true true true true true {yO with m:=m} 0
 ·have hd:decide (e=0)=false:=b0 he;rw[ar he];refine hH ?_;exact aX<|YT true true true true true true true true true yO e
theorem YV(f1 f2 f3 f4 f5 f6 f7 f9:Bool)(x:bM){t:I}(h:cJ n H t (.sl false<|x.aE.map aZ)):
  cJ n H (lx (.sl f1<|x.m.log.entries.map dT) (.sl f2<|x.m.log.nodes.map bj) (.sl f3<|x.m.dh.map jj) (.sl f4<|x.m.cq.map dY) (.sl f5<|x.t.held.map bB) (.sl f6<|x.t.waits.map bB) (.sl f7<|x.g.waits.map dR) t (.sl f9<|x.ops.map bt) x) (nM x):=by
 refine .agg _ _ rfl ?_;repeat' first|exact fx|refine ds ?_ ?_|exact .cl _ (.int _ _)|exact h|exact eT.qR (.sl _ _) mZ
theorem aIn(f1 f2 f3 f4 f5 f6 f7 f8 f9:Bool)(x:bM)(c:cg)(af:x.aE.length<=1000)(H:ab):aO prog 56 [jk f1 f2 f3 f4 f5 f6 f7 f8 f9 x,cy c] H (.aN [nM (sa x c).1,.int .i64 (sa x c).2.1,.int .i64 (sa x c).2.2]):=by
 refine bg func56 ?_;have K:=nB [(5,UP)];unfold sa;by_cases J:(40:Int)<=(x.aE.length:Int)
 ·have d:decide ((40:Int)<=(x.aE.length:Int))=true:=dr J;rw[aC J];refine bL (hj jk.eq_1<|hj lx.eq_1 cy.eq_1) ?_;exact aX<|aJ1 f1 f2 f3 f4 f5 f6 f7 f8 f9 x 0 193
 ·have d:decide ((40:Int)<=(x.aE.length:Int))=false:=b0 J;rw[ar J];refine bL (hj jk.eq_1<|hj lx.eq_1 cy.eq_1) ?_;refine qj (VF f8 x.aE gf _) aI ?_
  have U:=en (enc:=aZ) (s:=18) (λ_=>rfl) x.aE;simp only[go_sem,U];repeat' first|(refine ae ?_;simp only[go_sem,U])|refine ai ?_|fail
  refine⟨⟨λe he=>by rw[he];rfl,gf⟩,?_⟩
  repeat' first|(refine ae ?_;simp only[go_sem,U])|refine ai ?_|fail
  refine⟨_,.aN [nM {x with time:=IntKind.i64.wrap<|x.time+1,aE:=x.aE++[{so c with mU:=IntKind.i64.wrap (x.time+1)}]},.int .i64 x.aE.length,.int .i64 0],rfl,.aN _ _ rfl<|ds (YV f1 f2 f3 f4 f5 f6 f7 f9 {x with time:=IntKind.i64.wrap (x.time+1),aE:=x.aE++[{so c with mU:=IntKind.i64.wrap (x.time+1)}]} ?_) (ds (.cl _ (.int _ _)) (ds (.cl _ (.int _ _)) fx)),rfl⟩
  refine ZX gf (by simp only[go_sem];rfl) hW (by simp only[bw,U,cd,dZ];omega) (λ_=>rfl) ?_
  rw[iP];refine ZS (zD (λx=>mZ) _) ?_;repeat' first|exact fx|refine ds ?_ ?_|exact .cl _ (.int _ _)|exact .cl _ (.bool _)|exact .cl _ (.str _)|exact .Kc _ _<|(b9.sl true [] (λ_ h=>p2 h)).cl _
structure eR where
 c:bM
 w:cj
 Kb:Int
deriving DecidableEq,Inhabited
def fq(f1 f2 f3 f4 f5 f6 f7 f8 f9 Re Rf:Bool)(x:eR):I:=
 .agg [.sl f1 (x.c.m.log.entries.map dT),.sl f2<|x.c.m.log.nodes.map bj,.int .i64 x.c.m.seen,.int .i64 x.c.m.rep,.sl f3<|x.c.m.dh.map jj,.sl f4<|x.c.m.cq.map dY,.int .i64 x.c.m.next,.sl f5<|x.c.t.held.map bB,.sl f6<|x.c.t.waits.map bB,.int .i64 x.c.g.kept,.sl f7<|x.c.g.waits.map dR,.sl f8<|x.c.aE.map aZ,.int .i64 x.c.time,.sl f9<|x.c.ops.map bt,
  .int .i64 x.w.bG.size,.str x.w.bG.jJ,.sl Re<|x.w.bG.loose.map fa,.int .i64 x.w.seq,.int .i64 x.w.base,.int .i64 x.w.next,.int .i64 x.w.end_,.int .i64 x.w.eB,.int .i64 x.w.kept,.sl Rf<|x.w.waits.map I.str,.bool x.w.iQ,.int .i64 x.w.marked,.int .i64 x.w.fP,.int .i64 x.w.lg,.int .i64 x.Kb]
abbrev ez:eR->I:=fq false false false false false false false false false false false
def qP:eR:=⟨yO,tN,0⟩
def jA(r s:Int):eR×Int:=if(mG r).2=0 then(if(tP s).2=0 then(⟨(mG r).1,(tP s).1,0⟩,0)else(qP,(tP s).2))else(qP,(mG r).2)
theorem Bu(f1 f2 f3 f4 f5 f6 f7 f8 f9 J U:Bool)(x:eR)(e:Int):eT (.aN [fq f1 f2 f3 f4 f5 f6 f7 f8 f9 J U x,.int .i64 e]) (.aN [ez x,.int .i64 e]):=by refine .aN _ _ rfl<|de ?_ (de (.refl _) kZ);unfold fq;refine .agg _ _ rfl ?_;repeat' first|exact kZ|refine de ?_ ?_|exact .refl _|exact .sl _ _
theorem PW(r s:Int)(H:ab):aO prog 11 [.int .i64 r,.int .i64 s] H (.aN [ez (jA r s).1,.int .i64 (jA r s).2]):=by
 refine bg func11 ?_;have J:=YU r;have hw:=aKV s;unfold jA;generalize mG r=p at *;generalize tP s=q at *;obtain⟨c,e⟩:=p;obtain⟨w,k⟩:=q;simp only[nM,jk,lx,ei]at J hw ⊢;by_cases he:e=0
 ·subst he;by_cases hk:k=0
  ·subst hk;repeat' first|(refine ae ?_;simp only[go_sem])|refine ai ?_|fail
   exact aX<|Bu false false false false false false false false false false false ⟨c,w,0⟩ 0
  ·have hd:decide (k=0)=false:=b0 hk;rw[aC rfl,ar hk];refine hH ?_;exact aX<|Bu true true true true true true true true true true true qP k
 ·have hd:decide (e=0)=false:=b0 he;rw[ar he];refine hH ?_;exact aX<|Bu true true true true true true true true true true true qP e
structure aDG (H:ab) (t:fw) (n:Int) (f1 f2:Bool) (q:Nat) (s:fw×List dI) (G:ab):Prop where
 aM:q<=t.held.length
 hs:sL (H.length+6) (H.length+4) (H.length+5) 1 1 t.held.length t.waits.length s.1 G
 af:az G (H.length+1)=.cells 0 [.int .i64 n]
 ag:az G (H.length+2)=.cells 0 [.sl true [],.sl true []]
 ad:az G (H.length+7)=.cells (s.2.length+1) (aV bB s.2)
 pre:∀j,j<H.length->az G j=az H j
 len:H.length+8<=G.length
 pl:s.2.length<=q
 run:oF n (t.held.drop q) s=kC t n
theorem sL.app(h:sL p aB hM hP jE kq lw t G)(L:ab):sL p aB hM hP jE kq lw t (G++L):=by obtain⟨J,U,a2⟩:=h.h1;obtain⟨K,aW,bA⟩:=h.h2;exact⟨bX h.ad trivial L,⟨J,bX U trivial L,a2⟩,⟨K,bX aW trivial L,bA⟩⟩
theorem sL.put(h:sL p aB hM hP jE kq lw t G)(h1:i≠p)(h2:i≠aB)(h3:i≠hM)(b:bD):sL p aB hM hP jE kq lw t (an G i b):=by obtain⟨J,U,a2⟩:=h.h1;obtain⟨K,aW,bA⟩:=h.h2;exact⟨bN h.ad h1 _,⟨J,bN U h2 _,a2⟩,⟨K,bN aW h3 _,bA⟩⟩
theorem GJ{M:ab}(h:∀j,j<H.length->az M j=az H j)(hl:H.length<=M.length)(L:ab):∀j,j<H.length->az (M++L) j=az H j:=λj J=>by rw[<-h j J];simp only[az,gg];rw[jc gf]
theorem aIo(f1 f2:Bool)(t:fw)(n:Int)(h1:t.held.length<=1000000)(h2:t.waits.length<=1000000)(H:ab):aO prog 237 [gp f1 f2 t,.int .i64 n] H (.aN [gp false false (kC t n).1,.sl false<|(kC t n).2.map bB]):=by
 refine bg func237 ?_;have nV:=QP f1 f2 t h1 h2;simp only[gp]at nV;refine bL gp.eq_1 ?_;obtain⟨J,vK⟩:∃J,H++[bD.cells 0 [.sl f1 (t.held.map bB),.sl f2<|t.waits.map bB],bD.cells 0 [.int .i64 n],bD.cells 0 [.sl true [],.sl true []]]=J:=⟨_,rfl⟩;rw[vK];have lL:J.length=H.length+3:=by rw[<-vK];simp
 have a0:az J H.length=.cells 0 [.sl f1 (t.held.map bB),.sl f2<|t.waits.map bB]:=by rw[<-vK];simp only[go_sem]
 have cx:az J (H.length+1)=.cells 0 [.int .i64 n]:=by rw[<-vK];simp only[go_sem]
 have a2:az J (H.length+2)=.cells 0 [.sl true [],.sl true []]:=by rw[<-vK];simp only[go_sem]
 refine c4 (nV _) aI ?_;rintro v H' ⟨rfl,rfl⟩;have hs:=aAa f1 f2 t J;have a0:=bX a0 trivial<|rN J.length f1 f2 t;have cx:=bX cx trivial<|rN J.length f1 f2 t;have a2:=bX a2 trivial<|rN J.length f1 f2 t;have cM:(J++rN J.length f1 f2 t).length=H.length+7:=by rw[bw,lL];rfl
 have wa:∀j,j<H.length->az (J++rN J.length f1 f2 t) j=az H j:=λj K=>by rw[<-vK,c6];simp only[az,gg];rw[jc K]
 obtain⟨G,a7⟩:∃G,J++rN J.length f1 f2 t=G:=⟨_,rfl⟩;rw[a7]at hs a0 cx a2 cM wa ⊢;rw[lL]at hs;obtain⟨aL,⟨aS,aR,aRX,aRY⟩,⟨aY,bC,aRZ,aY4⟩⟩:sL (H.length+6) (H.length+4) (H.length+5) 1 1 t.held.length t.waits.length t G:=hs;have nZ:aY=[]:=by have ax:=en (enc:=bB) (s:=2) (λ_=>rfl) t.waits;rw[bw,ax]at aRZ;exact iL gf
 subst nZ;rw[cE]at bC;simp only[go_sem];have aW:=bE aL trivial;refine hH ?_;refine c4 (aMK t.waits (λw=>decide<|w.aZ=n) (H.length+5) 1 t.waits.length t.waits.length rfl (bh _) gf (λdC=>az dC (H.length+1)=.cells 0 [.int .i64 n]) (λdC b h=>bN h gf b) (λdC L h=>bX h trivial L) G bC (fn:=.func 281) (fs:=[]) (cs:=[.ref (H.length+1) 0 0]) (λx dC aP=>.inl ⟨aI,aMj aP x⟩) cx) aI ?_
 rintro v H' ⟨rest,rfl,rfl,te,CW⟩;have i5:=cZ bC trivial;have i6:=cZ aL trivial;obtain⟨W,gG⟩:∃W,W=t.waits.filter λw=> !decide (w.aZ=n):=⟨_,rfl⟩;rw[<-gG]at te ⊢;have MG:W.length<=t.waits.length:=by rw[gG];exact o1 ..
 obtain⟨cO,T⟩:∃cO,an G (H.length+5) (.cells 1<|aV bB W++rest)=cO:=⟨_,rfl⟩;have cw:az cO (H.length+6)=.cells 0 [.osl 2 (H.length+4) 1 0 t.held.length t.held.length,.osl 2 (H.length+5) 1 0 t.waits.length t.waits.length]:=by rw[<-T];exact bN aL gf _
 rw[T];have z0:∀X,az (an cO (H.length+6) X) H.length=.cells 0 [.sl f1 (t.held.map bB),.sl f2<|t.waits.map bB]:=λX=>by rw[<-T];exact bN (bN a0 gf _) gf _
 simp only[go_sem];repeat' first|(refine ae ?_;simp only[go_sem,cw,z0])|refine ai ?_|fail
 obtain⟨dd,hy⟩:∃dd,an cO (H.length+6) (.cells 0 [.osl 2 (H.length+4) 1 0 t.held.length t.held.length,.osl 2 (H.length+5) 1 0 W.length t.waits.length])=dd:=⟨_,rfl⟩;have cH:dd.length=H.length+7:=by rw[<-hy,bc,<-T,bc,cM]
 have m1:∀{j b},az G j=b->j≠H.length+5->j≠H.length+6->az dd j=b:=λh ax aq=>by rw[<-hy,<-T];exact bN (bN h gf _) gf _
 have r5:sL (H.length+6) (H.length+4) (H.length+5) 1 1 t.held.length t.waits.length ⟨t.held,W⟩ dd:=by
  refine⟨by rw[<-hy];exact dK (by rw[<-T,bc];exact i6) _,⟨aS,m1 aR gf gf,aRX,aRY⟩,⟨rest,?_,?_,CW⟩⟩
  ·rw[<-hy];refine bN ?_ gf _;rw[<-T];exact dK i5 _
  ·rw[bw,en (s:=2) λ_=>rfl,te];simp only;omega
 rw[hy];have e2:=m1 a0 gf gf;have c1:=m1 cx gf gf;have c2:=m1 a2 gf gf;refine xU 8 2 rfl ?_;rw[cH];refine c7 (ι:=Nat×(fw×List dI)×ab) (λs=>[(3,.ref (H.length+1) 0 0),(4,.ref (H.length+2) 0 0),(6,.ref (H.length+6) 0 0),(7,.func (.func 231) [.ref (H.length+6) 0 0] []),(8,.osl 2 (H.length+7) (s.2.1.2.length+1) 0 s.2.1.2.length s.2.1.2.length),(29,.sl f1<|t.held.map bB),(30,.int .i64 t.held.length),(31,.int .i64 s.1)])
  (λs=>s.2.2) (λs=>aDG H t n f1 f2 s.1 s.2.1 s.2.2) (λs=>t.held.length-s.1) (0,(⟨t.held,W⟩,[]),dd++[.cells 1 []]) ?_ ?_ rfl ?_
 ·refine⟨cb _,r5.app _,bX c1 trivial _,bX c2 trivial _,?_,GJ (λj K=>?_) gf _,?_,bh _,by rw[gG];rfl⟩
  ·rw[<-cH];exact uP _ _
  ·rw[<-wa j K,<-hy,<-T,ht gf,ht gf]
  ·rw[bw,cH];simp
 ·simp[go_sem]
 rintro⟨q,⟨O,ps⟩,M⟩ hd;simp only at hd ⊢;obtain⟨c5,V,S,Z,I,z,Od,aSH,U⟩:=hd;simp only at V S Z I z Od aSH;by_cases av:q<t.held.length
 ·have bl:decide ((q:Int)<(t.held.length:Int))=true:=cS;have ad:=ek bB av;have hw:=eb av gf;rw[ir av]at U;unfold oF at U;have v3:=bE S trivial;by_cases he:t.held[q].aZ=n
  ·rw[aC he]at U;have Cq:decide (t.held[q].aZ=n)=true:=dr he;have den:(!decide (t.held[q].aZ=n))=false:=by rw[Cq];rfl
   repeat' first|(refine ae ?_;simp only[go_sem,bl,ad,bB,S,v3,Cq,den])|refine ai ?_|fail
   obtain⟨BO,CA⟩:∃BO,M++[bD.cells 0 [.int .i64 t.held[q].lock,.int .i64 t.held[q].aZ]]=BO:=⟨_,rfl⟩;have V:=V.app [bD.cells 0 [.int .i64 t.held[q].lock,.int .i64 t.held[q].aZ]];have S:=bX S trivial [bD.cells 0 [.int .i64 t.held[q].lock,.int .i64 t.held[q].aZ]];have Z:=bX Z trivial [bD.cells 0 [.int .i64 t.held[q].lock,.int .i64 t.held[q].aZ]];have I:=bX I trivial [bD.cells 0 [.int .i64 t.held[q].lock,.int .i64 t.held[q].aZ]];have z:=GJ z gf [bD.cells 0 [.int .i64 t.held[q].lock,.int .i64 t.held[q].aZ]];have aDv:az (M++[bD.cells 0 [.int .i64 t.held[q].lock,.int .i64 t.held[q].aZ]]) M.length=.cells 0 [.int .i64 t.held[q].lock,.int .i64 t.held[q].aZ]:=uP _ _;have aZd:BO.length=M.length+1:=by rw[<-CA];simp
   rw[CA]at V S Z I z aDv ⊢;refine pT (first:=[.ref (H.length+6) 0 0]) (cap:=[]) (ZY V gf gf gf h1 h2 n t.held[q].lock) aI ?_
   rintro v H' ⟨rfl,gk,pg,pn⟩;unfold Iy;have pG:az H' (H.length+1)=_:=(pn _ gf gf gf).trans S;have Ot:az H' (H.length+2)=_:=(pn _ gf gf gf).trans Z;have Ou:az H' (H.length+7)=_:=(pn _ gf gf gf).trans I;have aDA:∀j,j<H.length->az H' j=az H j:=λj K=>(pn _ gf gf gf).trans<|z j K
   have aZe:az H' M.length=_:=(pn _ gf gf gf).trans aDv;simp only[go_sem];cases aA:(fE O n t.held[q].lock).2 with
   |none=>
    rw[aA]at U;simp only at U;simp only[DO,DP];repeat' first|(refine ae ?_;simp only[go_sem])|refine ai ?_|fail
    exact⟨(q+1,((fE O n t.held[q].lock).1,ps),H'),⟨av,gk,pG,Ot,Ou,aDA,by simp only;omega,by simp only;omega,U⟩,by simp only;omega,⟨⟨rfl,b7 _ hw⟩,rfl⟩⟩
   |some j=>
    rw[aA]at U;simp only at U;simp only[o0,wX];have eh:=en (enc:=bB) (s:=2) (λ_=>rfl) ps;have aZf:=bE Ou trivial;have aZg:=hU Ou trivial;have aT:(ps.length * 16+16<=140737488355328)=True:=b1 gf;refine hH ?_;refine⟨⟨λe he=>by rw[he];rfl,gf⟩,?_⟩
    repeat' first|(refine ae ?_;simp only[go_sem])|refine ai ?_|fail
    exact⟨(q+1,((fE O n t.held[q].lock).1,ps++[⟨t.held[q].lock,j⟩]),an H' (H.length+7)<|.cells (ps.length+2) (aV bB (ps++[⟨t.held[q].lock,j⟩]))),
     ⟨av,gk.put gf gf gf _,bN pG gf _,bN Ot gf _,by simp only[bw,cd,dZ];exact dK gf _,λj K=>by rw[ht gf,aDA j K],by simp only[bc];omega,by simp only[bw,cd,dZ];omega,U⟩,by simp only;omega,⟨⟨by simp only[bw,cd,dZ],b7 _ hw⟩,by rw[iP];rfl⟩⟩
  ·rw[ar he]at U;have Cq:decide (t.held[q].aZ=n)=false:=b0 he;have den:(!decide (t.held[q].aZ=n))=true:=by rw[Cq];rfl
   repeat' first|(refine ae ?_;simp only[go_sem,bl,ad,bB,S,v3,Cq,den])|refine ai ?_|fail
   exact⟨(q+1,(O,ps),M++[.cells 0 [.int .i64 t.held[q].lock,.int .i64 t.held[q].aZ]]),⟨av,V.app _,bX S trivial _,bX Z trivial _,bX I trivial _,GJ z gf _,by simp only[bw];omega,by simp only;omega,U⟩,by simp only;omega,⟨⟨rfl,b7 _ hw⟩,rfl⟩⟩
 ·have l2:q=t.held.length:=gf;subst l2;have bl:decide ((t.held.length:Int)<(t.held.length:Int))=false:=hW;rw[qD]at U;unfold oF at U;obtain⟨aL,⟨aS,aR, -, -⟩,⟨aY,bC, -, -⟩⟩:=V;have g8:=λv X=>dK (cZ Z trivial)<|.cells v X
  refine hH ?_;obtain⟨X,dk⟩:∃X,an M (H.length+2) (bD.cells 0 [.osl 2 (H.length+4) 1 0 O.held.length t.held.length,.osl 2 (H.length+5) 1 0 O.waits.length t.waits.length])=X:=⟨_,rfl⟩;have dV:az X (H.length+4)=.cells 1 (aV bB O.held++aS):=by rw[<-dk];exact bN aR gf _
  have gn:az X (H.length+5)=.cells 1 (aV bB O.waits++aY):=by rw[<-dk];exact bN bC gf _
  have sy:az X (H.length+7)=.cells (ps.length+1) (aV bB ps++[]):=by rw[<-dk,cE];exact bN I gf _
  obtain⟨L,gW⟩:=Lz (H:=H) (H':=X) (by rw[<-dk,bc];omega) λj K=>by rw[<-dk,ht gf,z j K]
  rw[dk,<-U];exact⟨L,.aN [gp false false O,.sl false<|ps.map bB],gW,.aN _ _ rfl<|ds (.agg _ _ rfl (ds (H8 _ gf dV rfl rfl) (ds (H8 _ gf gn rfl rfl) fx))) (ds (H8 _ gf sy rfl rfl) fx),rfl⟩
theorem Bg{α:Type}{enc:α->I}{s:Nat}(hs:∀x,(enc x).cells.length=s){D:List α}{f:Nat}{X:List I}(h:k<D.length)(J:f+X.length<=s)(y:α)(U:(enc y).cells=du (enc D[k]).cells f X):du (aV enc D) (k * s+f) X=aV enc (D.set k y):=by
 have hl:=en hs<|D.take k;rw[gK,Nat.min_eq_left gf]at hl
 have e:D=D.take k++(D[k]::D.drop (k+1)):=by rw[<-ir h,sF]
 have K:aV enc D=aV enc (D.take k)++((enc D[k]).cells++aV enc (D.drop<|k+1)):=by rw[<-p9,<-iP,<-e]
 rw[List.set_eq_take_append_cons_drop,aC h,iP,p9,U,K];have O:=hs D[k];have key:∀(A B C:List I),A.length=k * s->f+X.length<=C.length->du (A++(C++B)) (k * s+f) X=A++(du C f X++B):=λA B C S T=>by unfold du;rw[<-S,List.take_length_add_append,vh,List.drop_length_add_append,List.take_append_of_le_length gf,List.drop_append_of_le_length T];simp only[c6]
 exact key _ _ _ hl<|by rw[O];exact J
theorem WN{n up:Int}:∀{l:List mO} {a:Nat} (J:a<l.length),e3 (λw:mO=>decide<|w.aZ=n) l=(a:Int)->Lw n up l=l.set a ⟨l[a].aZ,max l[a].upto up⟩
 |w::l,a,J,h=>by
  unfold e3 at h;unfold Lw;by_cases e:w.aZ=n
  ·rw[aC (oq e)]at h;have:a=0:=gf;subst this;rw[aC e];rfl
  ·rw[ar (oq e)]at h;rw[ar e];have:=HF (λw:mO=>decide<|w.aZ=n) l
   split at h
   ·omega
   ·obtain⟨a,rfl⟩:∃b,a=b+1:=⟨a-1,gf⟩;rw[WN (a:=a) (oq J) gf];rfl
def TJ:List cK:=[.ah 0,.ah 0,.aQ,.ah 0,.ah 0,.aQ,.ah 0,.ah 0,.ah 0,.aQ,.ah 0,.ah 0,.ah 0,.bW [false,true]]
def TK:List cK:=[.aQ,.aQ,.ah 0,.ah 0,.ah 0,.aQ,.bW [true,false,true],.ah 0,.bW []]
attribute [go_sem] TJ TK
theorem WO:DX prog 167 dR 2:=HJ 2 16 func167
theorem WQ:tW prog 200 dR 2:=H9 2 func200
theorem aJ2:LQ prog 200 dR 2:=WQ.o
theorem aIp{n:Int}(hi:az G i=.cells 0 [.int .i64 n])(s:mO):aO prog 239 [dR s,.ref i 0 0] G (.bool<|decide (s.aZ=n)):=by refine bg func239 ?_;have J:=bE hi trivial;refine bL dR.eq_1 ?_;exact aX<|.refl _
theorem Lq{v lc:Nat}{cs r:List I}(D:List mO)(af:n<=i)(J:az H i=.cells v cs)(U:cs=aV dR D++r)(hk:D.length=k):cJ n H (.osl 2 i v 0 k lc) (.sl false<|D.map dR):=
 q8 (es:=D.map dR) (rest:=r) af J U (by rw[dq,hk]) (λe he=>by(obtain⟨x, -,rfl⟩:=bP.1 he;rfl)) (λe he=>by(obtain⟨x, -,rfl⟩:=bP.1 he;simp only[go_sem]))
theorem aJ3(f:Bool)(g:o4)(n up:Int)(h1:g.waits.length<=1000000)(H:ab):aO prog 209 [mw f g,.int .i64 n,.int .i64 up] H (.aN [mw false (yB g n up).1,.bool (yB g n up).2]):=by
 refine bg func209 ?_;have iy:=nB [(8,TJ)];have T:=en (enc:=dR) (s:=2) (λ_=>rfl) g.waits;refine bL mw.eq_1 ?_;refine c4 (WO f g.waits gf _) aI ?_;rintro v H' ⟨rfl,rfl⟩;simp only[go_sem];unfold yB;by_cases hk:up<=g.kept
 ·have V:decide (up<=g.kept)=true:=dr hk;rw[aC hk];refine hH ?_;exact⟨_,.aN [mw false g,.bool true],rfl,.aN _ _ rfl<|ds (.agg _ _ rfl (ds (.cl _ (.int _ _)) (ds (Lq (r:=[]) _ gf mZ (cE _).symm rfl) fx))) (ds (.cl _ (.bool _)) fx),rfl⟩
 ·have V:decide (up<=g.kept)=false:=b0 hk;rw[ar hk];refine hH ?_;refine ia (aJ2 g.waits (λw=>decide<|w.aZ=n) (H.length+3) 1 g.waits.length g.waits.length rfl (bh _) gf _ mZ λx=>.inl ⟨aI,aIp mZ x⟩) aI ?_
  rcases HO (λw:mO=>decide<|w.aZ=n) g.waits with⟨J,K⟩|⟨a,U,J,K⟩
  ·have O:iC g n=false:=by
    unfold iC;rw[DW];exact List.find?_eq_none.1 K
   rw[J];simp only[O,mM,gB,go_sem];have d1:decide ((-1:Int)<0)=true:=rfl;refine hH ?_;refine⟨⟨λe he=>by rw[he];rfl,gf⟩,?_⟩
   refine a7 ?_;exact⟨_,.aN [mw false ⟨g.kept,g.waits++[⟨n,up⟩]⟩,.bool false],rfl,.aN _ _ rfl<|ds (.agg _ _ rfl (ds (.cl _ (.int _ _)) (ds (Lq (r:=[]) (cs:=aV dR g.waits++[.int .i64 n,.int .i64 up]) (g.waits++[⟨n,up⟩]) gf mZ (by rw[iP,cE];rfl) hW) fx))) (ds (.cl _ (.bool _)) fx),rfl⟩
  ·have O:iC g n=true:=List.any_eq_true.2 ⟨_,fQ U,by have:=List.find?_some K;exact this⟩
   rw[J];have d1:decide ((a:Int)<0)=false:=dA;have Z:=Bt (enc:=dR) (s:=2) (λ_=>rfl) U;simp only[dR,I.cells]at Z;simp only[O,dW,go_sem];have iT:a * 2+2<=g.waits.length * 2:=gf;have S:a * 2+1<g.waits.length * 2:=gf;have av:decide ((a:Int)<(g.waits.length:Int))=true:=cS;have z:=WN (up:=up) U J;clear J K;have oK:(aV dR g.waits).getD (a * 2+1) .top=.int .i64 g.waits[a].upto:=by
    unfold aV;rw[gg,Bc (s:=2) (es:=g.waits.map dR) (k:=a) (j:=1) (e:=dR g.waits[a]) (x:=.int .i64 g.waits[a].upto) (λe he=>by(obtain⟨x, -,rfl⟩:=bP.1 he;rfl)) (by rw[nk,dn U];rfl) rfl]
    rfl
   have nw:=Bg (enc:=dR) (s:=2) (f:=1) (X:=[.int .i64 (max g.waits[a].upto up)]) (λ_=>rfl) U (bh 2) ⟨g.waits[a].aZ,max g.waits[a].upto up⟩ rfl;have a1:((0:Int)<=(a:Int)/\(a:Int)<(g.waits.length:Int))=True:=b1 ⟨gf,gf⟩;have S:(a * 2+1<g.waits.length * 2)=True:=b1 S;repeat' first|((first|refine mx [8] TJ ?_|refine ae ?_);simp only[go_sem,d1,T,oK,nw,a1,S])|refine ai ?_|fail
   rw[z];exact⟨_,.aN [mw false ⟨g.kept,g.waits.set a ⟨g.waits[a].aZ,max g.waits[a].upto up⟩⟩,.bool false],rfl,.aN _ _ rfl<|ds (.agg _ _ rfl (ds (.cl _ (.int _ _)) (ds (Lq (r:=[]) (g.waits.set a ⟨g.waits[a].aZ,max g.waits[a].upto up⟩) gf mZ (cE _).symm hW) fx))) (ds (.cl _ (.bool _)) fx),rfl⟩
structure Eb (i p fL aW:Nat) (k:Int) (A B:List mO) (G:ab):Prop where
 hi:∃w,az G i=.cells 0 [.int .i64 k,w]
 ad:az G p=.cells 0 [.osl 2 fL (A.length+1) 0 A.length A.length,.osl 2 aW (B.length+1) 0 B.length B.length]
 ay:az G fL=.cells (A.length+1) (aV dR A)
 h1:az G aW=.cells (B.length+1) (aV dR B)
theorem aIq{k:Int}{A B:List mO}(h:Eb i p fL aW k A B G)(d1:p≠fL)(d2:p≠aW)(d3:fL≠aW)(d4:i≠p)(d5:i≠fL)(d6:i≠aW)(S0:A.length<=1000000)(aQ5:B.length<=1000000)(w:mO):
  cV prog 201 [dR w,.ref i 0 0,.ref p 0 0] G (λv H'=>v=.aN []/\Eb i p fL aW k (if w.upto<=k then A else A++[w]) (if w.upto<=k then B++[w]else B) H'/\H'.length=G.length/\∀j,j≠p->j≠fL->j≠aW->az H' j=az G j):=by
 refine h9 func201 ?_;obtain⟨⟨ws,hi⟩,ad,ay,h1⟩:=h;have U:=bE hi trivial;have vH:=bE ad trivial;have g0:=bE ay trivial;have g1:=bE h1 trivial;have sp:=hU ad trivial;have lj:=hU ay trivial;have s1:=hU h1 trivial;have K:=en (enc:=dR) (s:=2) (λ_=>rfl) A;have IF:=en (enc:=dR) (s:=2) (λ_=>rfl) B;have T:=cZ ad trivial;have cW:∀b,b≠p->∀X L,az (an G b X++L) p=_:=λb aa X L=>bX (bN ad aa X) trivial L;have ax:∀b X L,az (an G b X++L) G.length=L.getD 0 .gone:=λb X L=>tl<|bc _ _ _
 have aq:∀b X L Y,an (an G b X++L) p Y=an (an G b X) p Y++L:=λb X L Y=>gU (by rw[bc];exact T) L Y
 have aU:=cW fL<|ka d1;have bf:=cW aW<|ka d2;have V:=cZ ay trivial;have Z:=cZ h1 trivial;have li:=cZ hi trivial;have fin:∀(b:Nat) (X Y:List I) (v:Nat),(∀x∈X,b9 x)->(∀x∈Y,cN G.length x)->∀(j:Nat) (c:bD),(an (an G b<|.cells v X) p (.cells 0 Y))[j]?=some c->G[j]?=some c\/ed G.length c:=λb X Y v dk qU j c ao=>(ns (H:=an G b<|.cells v X) (i:=p) (b:=.cells 0 Y) qU j c ao).elim (λh=>ns (b:=.cells v X) (λx J=>(dk x J).cl _) j c h) .inr
 have O:∀(l:List mO),∀x∈aV dR l,b9 x:=λl=>zD (λx=>mZ) l;by_cases hk:w.upto<=k
 ·have z:decide (w.upto<=k)=true:=dr hk;simp only[aC hk];repeat' first|((first|refine mx [4] TK ?_|refine ae ?_);simp only[go_sem,dR,U,vH,g0,g1,sp,lj,s1,K,IF,z,ax,aq,aU,bf])|refine ai ?_|fail
  refine⟨⟨λe he=>by rw[he];rfl,gf⟩,gf,gf,?_⟩
  have S:aV dR (B++[w])=aV dR B++[.int .i64 w.aZ,.int .i64 w.upto]:=iP ..;refine⟨_,_,.aN [],rfl,by rw[bc,bc],fin aW _ _ _ (by rw[<-S];exact O _) λx J=>?_,.cl _<|.aN _ λ_ _ J=>by simp at J,rfl,⟨⟨ws,bN (bN hi (ka d6) _) (ka d4) _⟩,by rw[bw];exact dK (by rw[bc];exact T) _,bN (bN ay (ka d3) _) d1 _,by rw[S,bw];exact bN (dK Z _) d2 _⟩,by rw[bc,bc],λj eQ dV gn=>by rw[ht (ka eQ),ht<|ka gn]⟩
  simp only[db,mh,mj]at J;rcases J with rfl|rfl
  ·exact .osl _ _ _ _ _ _ V
  ·exact .osl _ _ _ _ _ _ Z
 ·have z:decide (w.upto<=k)=false:=b0 hk;simp only[ar hk];repeat' first|((first|refine mx [4] TK ?_|refine ae ?_);simp only[go_sem,dR,U,vH,g0,g1,sp,lj,s1,K,IF,z,ax,aq,aU,bf])|refine ai ?_|fail
  refine⟨⟨λe he=>by rw[he];rfl,gf⟩,gf,gf,?_⟩
  have S:aV dR (A++[w])=aV dR A++[.int .i64 w.aZ,.int .i64 w.upto]:=iP ..;refine⟨_,_,.aN [],rfl,by rw[bc,bc],fin fL _ _ _ (by rw[<-S];exact O _) λx J=>?_,.cl _<|.aN _ λ_ _ J=>by simp at J,rfl,⟨⟨ws,bN (bN hi (ka d5) _) (ka d4) _⟩,by rw[bw];exact dK (by rw[bc];exact T) _,by rw[S,bw];exact bN (dK V _) d1 _,bN (bN h1 d3 _) d2 _⟩,by rw[bc,bc],λj eQ dV gn=>by rw[ht (ka eQ),ht<|ka dV]⟩
  simp only[db,mh,mj]at J;rcases J with rfl|rfl
  ·exact .osl _ _ _ _ _ _ V
  ·exact .osl _ _ _ _ _ _ Z
theorem Eb.app{k:Int}{A B:List mO}(h:Eb i p fL aW k A B G)(L:ab):Eb i p fL aW k A B (G++L):=by obtain⟨w,hw⟩:=h.hi;exact⟨⟨w,bX hw trivial L⟩,bX h.ad trivial L,bX h.ay trivial L,bX h.h1 trivial L⟩
structure aDK (H:ab) (f:Bool) (g:o4) (K:Int) (q:Nat) (M:ab):Prop where
 aM:q<=g.waits.length
 hs:Eb H.length (H.length+2) (H.length+3) (H.length+4) K ((g.waits.take q).filter λw=> !decide (w.upto<=K)) ((g.waits.take q).filter λw=>decide<|w.upto<=K) M
 hi:az M H.length=.cells 0 [.int .i64 K,.sl f<|g.waits.map dR]
 ag:az M (H.length+1)=.cells 0 [.int .i64 0,.sl true []]
 pre:∀j,j<H.length->az M j=az H j
 len:H.length+5<=M.length
theorem aJ4(f:Bool)(g:o4)(k:Int)(hl:g.waits.length<=1000000)(H:ab):aO prog 169 [mw f g,.int .i64 k] H (.aN [mw false (Aj g k).1,.sl false<|(Aj g k).2.map bu]):=by
 refine bg func169 ?_;refine bL mw.eq_1 ?_;obtain⟨K,bL⟩:∃K,K=max g.kept k:=⟨_,rfl⟩;unfold Aj;rw[<-bL];refine uM (v:=0) (cs:=[.sl true [],.sl true []]) (H.length+2) 0 2 mZ rfl ?_;simp only[go_sem];refine uM (v:=0) (cs:=[.osl 2 (H.length+3) 1 0 0 0,.sl true []]) (H.length+2) 1 2 mZ rfl ?_;simp only[go_sem];refine c7 (ι:=Nat×ab) (λs=>[(2,.ref H.length 0 0),(4,.ref (H.length+1) 0 0),(6,.ref (H.length+2) 0 0),(7,.func (.func 201) [] [.ref H.length 0 0,.ref (H.length+2) 0 0]),(20,.sl f<|g.waits.map dR),(21,.int .i64 g.waits.length),(22,.int .i64 s.1)])
  (λs=>s.2) (λs=>aDK H f g K s.1 s.2) (λs=>g.waits.length-s.1) (0,H++[.cells 0 [.int .i64 K,.sl f<|g.waits.map dR],.cells 0 [.int .i64 0,.sl true []],.cells 0 [.osl 2 (H.length+3) 1 0 0 0,.osl 2 (H.length+4) 1 0 0 0],.cells 1 [],.cells 1 []]) ?_ ?_ ?_ ?_
 ·refine⟨cb _,⟨⟨_,by simp only[go_sem];rfl⟩,by simp only[go_sem];rfl,by simp only[go_sem];rfl,by simp only[go_sem];rfl⟩,mZ,mZ,GJ (M:=H) (λ_ _=>rfl) (bh _) _,hW⟩
 ·simp[go_sem]
 ·rfl
 rintro⟨q,M⟩ hd;simp only at hd ⊢;obtain⟨c5,U,S,T,V,sr⟩:=hd;by_cases av:q<g.waits.length
 ·have O:decide ((q:Int)<(g.waits.length:Int))=true:=cS;have ad:=ek dR av;have hw:=eb av gf;repeat' first|(refine ae ?_;simp only[go_sem,O,ad,dR])|refine ai ?_|fail
  obtain⟨X,J⟩:∃X,M++[bD.cells 0 [.int .i64 g.waits[q].aZ,.int .i64 g.waits[q].upto]]=X:=⟨_,rfl⟩;have U:=U.app [bD.cells 0 [.int .i64 g.waits[q].aZ,.int .i64 g.waits[q].upto]];have S:=bX S trivial [bD.cells 0 [.int .i64 g.waits[q].aZ,.int .i64 g.waits[q].upto]];have T:=bX T trivial [bD.cells 0 [.int .i64 g.waits[q].aZ,.int .i64 g.waits[q].upto]];have V:=GJ V gf [bD.cells 0 [.int .i64 g.waits[q].aZ,.int .i64 g.waits[q].upto]];have Od:X.length=M.length+1:=by rw[<-J];simp
  have S0:∀p:mO->Bool,((g.waits.take q).filter p).length<=1000000:=λp=>by have:=o1 p<|g.waits.take q;rw[gK]at this;omega
  rw[J]at U S T V ⊢;refine pT (first:=[]) (cap:=[.ref H.length 0 0,.ref (H.length+2) 0 0]) (aIq U gf gf gf gf gf gf (S0 _) (S0 _) g.waits[q]) aI ?_
  rintro v H' ⟨rfl,gk,pg,pn⟩;have Cs:g.waits.take (q+1)=g.waits.take q++[g.waits[q]]:=hc av;simp only[go_sem];refine a7 ?_;refine⟨(q+1,H'),⟨av,?_,(pn _ gf gf gf).trans S,(pn _ gf gf gf).trans T,λj z=>(pn _ gf gf gf).trans<|V j z,by simp only;omega⟩,by simp only;omega,⟨b7 _ hw,rfl⟩⟩
  simp only[Cs,wS];by_cases hk:g.waits[q].upto<=K
  ·simpa[hk]using gk
  ·simpa[hk]using gk
 ·have l2:q=g.waits.length:=gf;subst l2;have O:decide ((g.waits.length:Int)<(g.waits.length:Int))=false:=hW;rw[fe]at U;obtain⟨A,cc⟩:∃A,A=g.waits.filter λw=> !decide (w.upto<=K):=⟨_,rfl⟩;obtain⟨B,cf⟩:∃B,B=g.waits.filter λw=>decide (w.upto<=K):=⟨_,rfl⟩;have aQ5:B.length<=1000000:=by rw[cf];exact e1 (o1 ..) hl
  rw[<-cc,<-cf]at U ⊢;obtain⟨-,v1,v2,v3⟩:=U;have tB:=bE v1 trivial;have DG:=bE v3 trivial;repeat' first|(refine ae ?_;simp only[go_sem,O,v1,tB,v3,DG,PD])|refine ai ?_|fail
  refine c7 (ι:=Nat×ab) (λs=>[(2,.ref H.length 0 0),(4,.ref (H.length+1) 0 0),(6,.ref (H.length+2) 0 0),(10,.osl 1 M.length 1 0 B.length B.length),(35,.osl 2 (H.length+4) (B.length+1) 0 B.length B.length),(36,.int .i64 B.length),(37,.int .i64 s.1)])
   (λs=>M++(.cells 1 ((B.take s.1).map (λw=>.int .i64 w.aZ)++List.replicate (B.length-s.1) (.int .i64 0))::s.2)) (λs=>s.1<=B.length) (λs=>B.length-s.1) (0,[]) (cb _) ?_ ?_ ?_
  ·simp[go_sem]
  ·simp
  rintro⟨j,L⟩ z;simp only at z ⊢;have IF:=en (enc:=dR) (s:=2) (λ_=>rfl) B;obtain⟨C,ic⟩:∃C,(B.take j).map (λw=>I.int .i64 w.aZ)++List.replicate (B.length-j) (.int .i64 0)=C:=⟨_,rfl⟩;obtain⟨G,a7⟩:∃G,M++(.cells 1 C::L)=G:=⟨_,rfl⟩;have aPO:C.length=B.length:=by rw[<-ic];simp;omega
  have m3:=DG (.cells 1 C::L);have m1:=tB (.cells 1 C::L);rw[a7]at m1 m3;have m10:az G M.length=.cells 1 C:=by rw[<-a7];simp only[go_sem]
  have gs:∀Y,an G M.length Y=M++(Y::L):=λY=>by rw[<-a7];simp only[go_sem]
  rw[ic,a7];by_cases gP:j<B.length
  ·have O:decide ((j:Int)<(B.length:Int))=true:=cS;have fC:=Bt (enc:=dR) (s:=2) (λ_=>rfl) gP;simp only[dR,I.cells]at fC;have hw:=eb gP gf;have hlen:((B.take j).map (λw=>I.int .i64 w.aZ)).length=j:=by rw[dq,gK];omega
   have ee:=N8 ((B.take j).map (λw=>I.int .i64 w.aZ)) (B.length-j-1) (.int .i64 0)<|.int .i64 B[j].aZ
   rw[hlen,show B.length-j-1+1=B.length-j by omega,ic]at ee
   have im:=bE m3 trivial;have n10:=bE m10 trivial;have aSh:=hU m10 trivial;have aPB:(j<B.length)=True:=b1 gP;repeat' first|(refine ae ?_;simp only[go_sem,O,fC,IF,m3,im,m10,n10,aSh,ee,aPO,mi,aPB])|refine ai ?_|fail
   refine⟨(j+1,L++[.cells 0 [.int .i64 B[j].aZ,.int .i64 B[j].upto]]),gP,by simp only;omega,b7 _ hw,?_⟩
   rw[gs,hc gP,qz,show B.length-j-1=B.length-(j+1) by omega]
   simp
  ·have tb:j=B.length:=gf;subst tb;have O:decide ((B.length:Int)<(B.length:Int))=false:=hW;have m0:=bE S trivial (.cells 1 C::L);have mt:=bE T trivial (.cells 1 C::L);rw[a7]at m0 mt;have z2:∀X,az (an G (H.length+4) X) (H.length+2)=_:=λX=>bN m1 gf X;have z0:∀X,az (an G (H.length+4) X) H.length=_:=λX=>bN m0 gf X;have aS6:∀X Y,az (an (an G (H.length+4) X) H.length Y) (H.length+1)=_:=λX Y=>bN (bN mt gf X) gf Y;have aS4:∀X v Y,az (an (an G (H.length+4) X) H.length<|.cells v Y) H.length=.cells v Y:=λX v Y=>dK (by rw[bc];exact cZ m0 trivial) _
   have aS5:∀X Y v Z,az (an (an (an G (H.length+4) X) H.length Y) (H.length+1)<|.cells v Z) (H.length+1)=.cells v Z:=λX Y v Z=>dK (by rw[bc,bc];exact cZ mt trivial) _
   repeat' first|(refine ae ?_;simp only[go_sem,O,m1,m3,IF,z2,z0,aS6,aS4,aS5])|refine ai ?_|fail
   have bK:∀l:List mO,(l.map λw=>I.int .i64 w.aZ).flatMap I.cells=l.map λw=>I.int .i64 w.aZ:=λl=>by
    induction l with
    |nil=>rfl
    |cons x l aB=>rw[dO,nj,aB];rfl
   have aOp:C=(B.map λw:mO=>I.int .i64 w.aZ).flatMap I.cells++[]:=by rw[<-ic,fe,Nat.sub_self,cE,bK];simp
   obtain⟨X,J⟩:∃X,an (an (an G (H.length+4) (bD.cells (B.length+1) (du (aV dR B) 0 (List.flatMap I.cells (List.replicate B.length (I.agg [I.int .i64 0,I.int .i64 0])))))) H.length<|bD.cells 0 [.int .i64 K,.osl 2 (H.length+3) (A.length+1) 0 A.length A.length]) (H.length+1) (bD.cells 0 [.int .i64 K,.osl 2 (H.length+3) (A.length+1) 0 A.length A.length])=X:=⟨_,rfl⟩;have m2:=bE v2 trivial (.cells 1 C::L);rw[a7]at m2;have dV:az X (H.length+3)=.cells (A.length+1) (aV dR A++[]):=by rw[<-J,cE];exact bN (bN (bN m2 gf _) gf _) gf _
   have gn:az X M.length=.cells 1 C:=by rw[<-J];exact bN (bN (bN m10 gf _) gf _) gf _
   obtain⟨qF,IX⟩:=Lz (H:=H) (H':=X) (by rw[<-J,bc,bc,bc,<-a7,bw];omega) λj z=>by rw[<-J,ht gf,ht gf,ht gf,<-a7,GJ V gf _ j z]
   rw[J];exact⟨qF,.aN [mw false ⟨K,A⟩,.sl false<|B.map λw=>.int .i64 w.aZ],IX,.aN _ _ rfl<|ds (.agg _ _ rfl (ds (.cl _ (.int _ _)) (ds (Lq _ gf dV rfl rfl) fx))) (ds (q8 (es:=B.map λw=>.int .i64 w.aZ) (rest:=[]) gf gn aOp (by rw[dq]) (λe he=>by(obtain⟨x, -,rfl⟩:=bP.1 he;rfl)) (λe he=>by(obtain⟨x, -,rfl⟩:=bP.1 he;exact .int _ _))) fx),by rw[sH];rfl⟩
theorem uZ{j:Nat}(h1:i<G.length)(h2:j<G.length)(K:i<j):
  ((∀v X,az (an G i<|.cells v X) i=.cells v X)/\(∀v X L,az (an G i (.cells v X)++L) i=.cells v X)/\(∀v Y,az (an G j<|.cells v Y) j=.cells v Y)/\(∀v Y L,az (an G j (.cells v Y)++L) j=.cells v Y)/\
  (∀v X Z,az (an (an G j Z) i<|.cells v X) i=.cells v X)/\(∀v X Z L,az (an (an G j Z) i (.cells v X)++L) i=.cells v X)/\(∀v Y X,az (an (an G j<|.cells v Y) i X) j=.cells v Y)/\(∀v Y X L,az (an (an G j<|.cells v Y) i X++L) j=.cells v Y))/\
  ((∀X L,an (G++L) i X=an G i X++L)/\(∀X L,an (G++L) j X=an G j X++L)/\(∀X Y,an (an G i X) i Y=an G i Y)/\(∀X Y L,an (an G i X++L) i Y=an G i Y++L)/\(∀X Y,an (an G j X) j Y=an G j Y)/\(∀X Y L,an (an G j X++L) j Y=an G j Y++L)/\
  (∀X Y,an (an G i X) j Y=an (an G j Y) i X)/\(∀X Y L,an (an G i X++L) j Y=an (an G j Y) i X++L)/\(∀X Y L,an (an G j Y++L) i X=an (an G j Y) i X++L)/\(∀X Y Z,an (an (an G j Y) i X) i Z=an (an G j Y) i Z)/\(∀X Y Z L,an (an (an G j Y) i X++L) i Z=an (an G j Y) i Z++L)/\
  (∀X Y Z,an (an (an G j Y) i X) j Z=an (an G j Z) i X)/\(∀X Y Z L,an (an (an G j Y) i X++L) j Z=an (an G j Z) i X++L))/\
  ((∀k X L,az (an G k X++L) G.length=L.getD 0 .gone)/\(∀k X L m,az (an G k X++L) (G.length+m)=L.getD m .gone)/\(∀X Y L,az (an (an G j Y) i X++L) G.length=L.getD 0 .gone)/\(∀X Y L m,az (an (an G j Y) i X++L) (G.length+m)=L.getD m .gone)/\
  (∀k X L Z,an (an G k X++L) G.length Z=an G k X++L.set 0 Z)/\(∀k X L m Z,an (an G k X++L) (G.length+m) Z=an G k X++L.set m Z)/\(∀X Y L Z,an (an (an G j Y) i X++L) G.length Z=an (an G j Y) i X++L.set 0 Z)/\(∀X Y L m Z,an (an (an G j Y) i X++L) (G.length+m) Z=an (an G j Y) i X++L.set m Z)):=by
 have ne:j≠i:=gf;have J:∀k X,(an G k X).length=G.length:=λk X=>bc _ _ _;have fr:∀X Y,(an (an G j Y) i X).length=G.length:=λX Y=>by rw[bc,bc]
 have U:∀X Y,an (an G i X) j Y=an (an G j Y) i X:=λX Y=>sW _ _ _ gf;have a2:∀X Y Z,an (an (an G j Y) i X) j Z=an (an G j Z) i X:=λX Y Z=>by rw[sW _ _ _ gf,jd]
 refine⟨⟨λv X=>dK h1 _,λv X L=>bX (b:=.cells v X) (dK h1 _) trivial L,λv Y=>dK h2 _,λv Y L=>bX (b:=.cells v Y) (dK h2 _) trivial L,λv X Z=>dK (by rw[J];exact h1) _,λv X Z L=>bX (b:=.cells v X) (dK (by rw[J];exact h1) _) trivial L,
  λv Y X=>bN (dK h2 _) gf _,λv Y X L=>bX (b:=.cells v Y) (bN (dK h2 _) gf _) trivial L⟩,
  ⟨λX L=>gU h1 L X,λX L=>gU h2 L X,λX Y=>jd _ _ _ _,λX Y L=>by rw[gU (by rw[J];exact h1),jd],λX Y=>jd _ _ _ _,λX Y L=>by rw[gU (by rw[J];exact h2),jd],U,λX Y L=>by rw[gU (by rw[J];exact h2),U],
  λX Y L=>gU (by rw[J];exact h1) L X,λX Y Z=>jd _ _ _ _,λX Y Z L=>by rw[gU (by rw[fr];exact h1),jd],a2,λX Y Z L=>by rw[gU (by rw[fr];exact h2),a2]⟩,
  λk X L=>tl<|J k X,λk X L m=>zy<|J k X,λX Y L=>tl<|fr X Y,λX Y L m=>zy<|fr X Y,λk X L Z=>On (J k X) Z,λk X L m Z=>GS (J k X) Z,λX Y L Z=>On (fr X Y) Z,λX Y L m Z=>GS (fr X Y) Z⟩
def fc(j:Nat)(who:Int)(u:fk)(x:bM):List I:=[.sl false (x.m.log.entries.map dT),.sl false<|x.m.log.nodes.map bj,.int .i64 x.m.seen,.int .i64 x.m.rep,.sl false<|x.m.dh.map jj,.sl false<|x.m.cq.map dY,.int .i64 x.m.next,
 .sl false (x.t.held.map bB),.sl false<|x.t.waits.map bB,.int .i64 x.g.kept,.sl false<|x.g.waits.map dR,.osl 18 j 1 0 x.aE.length x.aE.length,.int .i64 x.time,.sl false<|x.ops.map bt,.int .i64 who,.int .i64 u.kind,.int .i64 u.lock]
structure hr (i j:Nat) (who:Int) (u:fk) (x:bM) (G:ab):Prop where
 ne:i<j
 aW:az G i=.cells 0 (fc j who u x)
 bA:az G j=.cells 1 (aV aZ x.aE)
def fb(G:ab)(i j:Nat)(who:Int)(u:fk)(x:bM):ab:=an (an G j (.cells 1 (aV aZ x.aE))) i<|.cells 0 (fc j who u x)
theorem Bh(G:ab)(i j:Nat)(who:Int)(u:fk)(x:bM):(fb G i j who u x).length=G.length:=by unfold fb;rw[bc,bc]
section
variable {i j:Nat} {who:Int} {u:fk} {x:bM} {G:ab} (h:hr i j who u x G)
include h
theorem hr.eV:i<G.length:=cZ h.aW trivial
theorem hr.fF:j<G.length:=cZ h.bA trivial
theorem hr.own:fb G i j who u x=G:=by unfold fb;rw[kf h.bA trivial,kf h.aW trivial]
theorem hr.app(L:ab):hr i j who u x (G++L):=⟨h.ne,bX h.aW trivial L,bX h.bA trivial L⟩
theorem hr.pV(x':bM)(L:ab):fb (G++L) i j who u x'=fb G i j who u x'++L:=by unfold fb;rw[gU h.fF,gU<|by rw[bc];exact h.eV]
theorem hr.put(x':bM):hr i j who u x' (fb G i j who u x'):=by
 have J:¬j=i:=oC h.ne;refine⟨h.ne,dK (by rw[bc];exact h.eV) _,?_⟩
 unfold fb;rw[sW _ _ _ J];exact dK (by rw[bc];exact h.fF) _
theorem hr.sq(U J:bM):fb (fb G i j who u U) i j who u J=fb G i j who u J:=by have K:¬j=i:=oC h.ne;unfold fb;rw[sW (an G j _) _ _ (λe=>K e.symm),jd,jd]
theorem hr.a6:∀X L,az (an G i X++L) j=.cells 1 (aV aZ x.aE):=λX L=>bX (bN h.bA (oC h.ne) X) trivial L
theorem hr.bb:∀X,az (an G i X) j=.cells 1 (aV aZ x.aE):=λX=>bN h.bA (oC h.ne) X
theorem hr.dm:∀X,az (an G j X) i=.cells 0 (fc j who u x):=λX=>bN h.aW (oC h.ne) X
theorem hr.ey:∀X L,az (an G j X++L) i=.cells 0 (fc j who u x):=λX L=>bX (bN h.aW (oC h.ne) X) trivial L
theorem hr.aE{l:List bF}(hl:l.length=x.aE.length):an G j (.cells 1<|aV aZ l)=fb G i j who u {x with aE:=l}:=by unfold fb;rw[show fc j who u {x with aE:=l}=fc j who u x by unfold fc;rw[hl],kf (h.dm _) trivial]
theorem hr.one(hl:x'.aE=x.aE):an G i (.cells 0<|fc j who u x')=fb G i j who u x':=by unfold fb;rw[hl,kf h.bA trivial]
end
theorem aKQ(n:Nat)(l:List bF):ed n (.cells 1<|aV aZ l):=LA (λx=>mZ) n 1 l
theorem aMm{j:Nat}(U:j<n)(who:Int)(u:fk)(x:bM):ed n (.cells 0<|fc j who u x):=λy J=>by
 unfold fc at J;simp only[db,mh,mj]at J;have ad:∀{α:Type} (f:α->I) (l:List α),(∀x,b9<|f x)->cN n (.sl false<|l.map f):=λf l K=>(b9.sl false _ λz O=>by obtain⟨w, -,rfl⟩:=bP.1 O;exact K w).cl n
 rcases J with rfl|rfl|rfl|rfl|rfl|rfl|rfl|rfl|rfl|rfl|rfl|rfl|rfl|rfl|rfl|rfl|rfl<;>first|exact .int _ _|exact .osl _ _ _ _ _ _ U|exact ad _ _ λx=>mZ
def sO(P:Program)(f:FuncId)(args:List I)(i j:Nat)(who:Int)(u:fk)(x':bM)(G:ab):Prop:=cV P f (.ref i 0 0::args) G λv H'=>v=.aN []/\H'=fb G i j who u x'
theorem qc{j:Nat}{who:Int}{u:fk}{x:bM}{A L:ab}(h:hr i j who u x G)(U:A=fb G i j who u x'):
  ∃H1 K y,A++L=H1++K/\H1.length=G.length/\(∀(k:Nat) (b:bD),H1[k]?=some b->G[k]?=some b\/ed G.length b)/\cJ G.length (A++L) (.aN []) y/\(y=.aN []/\H1=fb G i j who u x'):=by
 subst U;refine⟨_,L,_,rfl,Bh _ _ _ _ _ _,λk b hk=>?_,.cl _<|.aN _ λ_ _ J=>by simp at J,rfl,rfl⟩
 unfold fb at hk;rcases ns (aMm h.fF who u x') k b hk with hk|hk
 ·exact ns (aKQ _ _) k b hk
 ·exact .inr hk
theorem KH{j:Nat}{who:Int}{u:fk}{x:bM}{A:ab}(h:hr i j who u x G)(J:A=fb G i j who u x'):
  ∃H1 U y,A=H1++U/\H1.length=G.length/\(∀(k:Nat) (b:bD),H1[k]?=some b->G[k]?=some b\/ed G.length b)/\cJ G.length A (.aN []) y/\(y=.aN []/\H1=fb G i j who u x'):=by
 have:=qc (L:=[]) h J;rwa[cE]at this
theorem jG.aCs(H:ab)(A:bD)(R:List I):jG (H.length+1) (H.length+2) 0 [] R (H++[A,.cells 0 (.osl 1 (H.length+2) 1 0 0 0::R),.cells 1 []]):=by simpa using jG.new (H++[A]) R
def uO(o:Ord):Bool:=DL [o.call] 1&& !decide ((1000:Int)<(o.cC.length:Int))
def xe(l:List Ord)(n:Int):Bool:=l.all uO&&decide ((l.length:Int)<=n)
theorem XC(aW:Bool)(l:List Ord)(n:Int)(H:ab):aO prog 12 [.sl aW (l.map da),.int .i64 n] H (.bool<|xe l n):=by
 refine xX λO _=>?_;have hl:=wO O;rw[dq]at hl;refine bg func12 ?_;refine a7 ?_;refine c7 (ι:=Nat) (λi=>[(0,.sl aW<|l.map da),(1,.int .i64 n),(5,.int .i64 i)]) (λ_=>H) (λi=>i<=l.length/\∀x∈l.take i,uO x=true) (λi=>l.length-i) 0 ⟨cb _,hW⟩ ?_ rfl ?_
 ·simp[go_sem]
 ·rintro i ⟨hi,he⟩;by_cases U:i<l.length
  ·have ad:=ek da U;have S:=aJw true [l[i].call] 1;simp only[dO,jm,cy]at S;repeat' first|(refine ae ?_;simp only[go_sem,ad,da])|refine bp ?_|(refine bz ?_ ?_<;>intro h<;>try exact bx h)|fail
   ·exact bJ (.of (by
     have T:uO l[i]=false:=by rw[wV];intro q;unfold uO at q;rw[dp]at q;rw[q.1]at h;simp_all
     have:xe l n=false:=by unfold xe;rw[Bool.and_eq_false_iff];left;rw[wV];intro q;have K:=fu.1 q l[i] (fQ _);rw[T]at K;cases K
     rw[this]))
   ·refine⟨i+1,⟨U,λx J=>?_⟩,gf,by rw[bS];rfl⟩
    rw[hc U,fH]at J;rcases J with J|J
    ·exact he x J
    ·simp at J;subst J;unfold uO;revert h;cases DL [l[i].call] 1<;>simp
  ·have V:i=l.length:=gf;subst V;refine hH ?_;exact bJ (.of (by
    have:l.all uO=true:=fu.2<|oq he
    rw[xe,this,vk]))
end Go.Proofs.YtnmamncmpklliaaGreatDoor
