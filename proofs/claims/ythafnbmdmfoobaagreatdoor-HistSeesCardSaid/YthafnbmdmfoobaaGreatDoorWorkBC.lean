/- What the functions of this seat answer (29 of 40). No condition. -/
import Derived.Test.YthafnbmdmfoobaaGreatDoorWorkBB
set_option linter.unusedSimpArgs false
set_option linter.unusedVariables false
set_option maxRecDepth 100000
set_option maxHeartbeats 16000000
namespace Go.Proofs.YthafnbmdmfoobaaGreatDoor
section
theorem YT{α:Type}{p:α->Bool}{A B:List α}{x:α}(cf:A.filter (fun x=> !p x)=A)(J:p x=true):(A++x::B).find? p=some x:=by
 rw[List.find?_append];have:A.find? p=none:=by
  rw[ux];intro a aD;rw[<-cf]at aD;have:=(km.1 aD).2;simpa using this
 rw[this];simp[J]
theorem YO{n:Int}{A B:List jV}{w:jV}(cf:A.filter (fun x=> !decide (x.n=n))=A)(J:w.n=n):xc n (A++w::B)=A++{w with bV:=[]}::B:=by
 induction A with
 |nil=>simp[xc,J]
 |cons a A ay=>
  have aP:a.n≠n:=by
   have aD:a∈(a::A).filter (fun x=> !decide (x.n=n)):=by rw[cf];simp
   simpa using(km.1 aD).2
  rw[gi,xc,az aP,ay]
  ·rfl
  ·rw[mX,aF (by simp[aP])]at cf
   exact(pr cf).2
theorem aB0{α:Type}{p:α->Bool}{l:List α}(h:eg p l= -1):l.find? p=none:=by
 rw[ux];intro x J;rw[<-uQ h]at J;have:=(km.1 J).2;simpa using this
def Pw:List cR:=[.pure 0,.pure 0,.pure 0,.pure 0,.pure 0,.pure 0,.eff [false,true,true,true,true,true],.pure 0,.pure 0,.pure 0,.eff [false,true,true,false,false,false,false,false]]
def Px:List cR:=[.free,.pure 0,.free,.pure 0,.pure 0,.pure 0,.free,.pure 0,.pure 0,.pure 0,.pure 0,.pure 0,.pure 0,.free,.free,.free,.pure 0,.pure 0,.eff [false,true,false,false,false,false,false,false,false,false,false,true],.pure 0,.pure 0,.pure 0,.eff [false,true,true,false,false]]
def QE:List cR:=[.free,.free,.pure 0,.pure 0,.pure 0,.free,.free,.pure 0,.pure 0,.pure 0,.pure 0,.pure 0,.free,.pure 0,.pure 0,.pure 0,.pure 0,.pure 0,.pure 0,.pure 0,.eff [false,true,false,false,false,false,false,false,false,false,false,false,false,false,false]]
attribute [go_sem] Pw Px QE
theorem aE5{i j:Nat}{c:b3}{d:cS}{G:ab}(aa:gv i j c d G)(hs:np d.m):qZ Tryz.prog 99 i j c (Bx c d) G:=by
 refine El Tryz.func99 ?_;have a8:=aa.aV;have aU:=bz aa.aV trivial;have a3:=bz aa.bm trivial;have aP:=aa.ne;have cH:=aa.e3;have cO:=aa.fR;have a1:=aa.a1;have a4:=aa.a4;have bL:=aX G i;simp only[fv]at a8 aU;have bq:=mq cH cO aP rfl;have me:∀H,ao H G.length=.cells 0 [.ref i 0 0]->ao H i=.cells 0 (fv j c d)->aY Tryz.prog 140 [.sl false (d.m.bN.map bU),.func (.func 141) [] [.ref G.length 0 0]] H (.int .i64 (eg (fun s=>decide (s.n=c.n)) d.m.bN)):=
  fun H h1 h2=>QU false d.m.bN (.func 141) [] [.ref G.length 0 0] (fun s=>decide (s.n=c.n)) H (fun s=>.mk (first:=[]) (fun L=>aE1 G.length (bQ h1 trivial L) (bQ h2 trivial L) s) (aA))
 simp only[fv]at me;have k1:¬i=G.length:=by omega
 unfold Bx;have tD:=hs.bN;by_cases h1:eg (fun s:jV=>decide (s.n=c.n)) d.m.bN= -1
 ·rw[h1]at me;rw[aB0 h1];repeat' first|((first|refine ea (me _ (by simp only[go_sem,a8,aU,a3,a1,a4,bL,bq,aX,Int.reduceLT]) (by simp only[go_sem,a8,aU,a3,a1,a4,bL,bq,aX,Int.reduceLT])) (aA) ?_|refine ep (me _ (by simp only[go_sem,a8,aU,a3,a1,a4,bL,bq,aX,Int.reduceLT]) (by simp only[go_sem,a8,aU,a3,a1,a4,bL,bq,aX,Int.reduceLT])) (aA) ?_|refine er (fun _=>me _ (by simp only[go_sem,a8,aU,a3,a1,a4,bL,bq,aX,Int.reduceLT]) (by simp only[go_sem,a8,aU,a3,a1,a4,bL,bq,aX,Int.reduceLT])) (aA) ?_|refine ad ?_);simp only[go_sem,a8,aU,a3,a1,a4,bL,bq,aX,Int.reduceLT])|refine af ?_|fail
  exact L6 aa rfl _
 obtain⟨A,w,B,ar,au,bd,bE⟩:=Gg h1;rw[au]at me;have hw:w.n=c.n:=by simpa using bd
 have Am:d.m.bN.find? (fun s=>decide (s.n=c.n))=some w:=by rw[ar];exact YT bE bd
 rw[Am];simp only;have Ji:xc c.n d.m.bN=A++{w with bV:=[]}::B:=by rw[ar];exact YO bE hw
 rw[Ji];have hle:w.bV.length<=1000000:=hs.bV w (by rw[ar];simp)
 have hlen:d.m.bN.length=A.length+(B.length+1):=by rw[ar];simp
 have d1:decide (((A.length:Nat):Int)<0)=false:=cg;repeat' first|((first|refine ea (me _ (by simp only[go_sem,a8,aU,a3,a1,a4,bL,bq,aX,d1]) (by simp only[go_sem,a8,aU,a3,a1,a4,bL,bq,aX,d1])) (aA) ?_|refine ep (me _ (by simp only[go_sem,a8,aU,a3,a1,a4,bL,bq,aX,d1]) (by simp only[go_sem,a8,aU,a3,a1,a4,bL,bq,aX,d1])) (aA) ?_|refine er (fun _=>me _ (by simp only[go_sem,a8,aU,a3,a1,a4,bL,bq,aX,d1]) (by simp only[go_sem,a8,aU,a3,a1,a4,bL,bq,aX,d1])) (aA) ?_|refine mx [4] Pw ?_|refine mx [6] Px ?_|refine ad ?_);simp only[go_sem,a8,aU,a3,a1,a4,bL,bq,aX,d1])|refine af ?_|fail
 refine pJ (Gk false d.m.bN (by omega) _) (aA) ?_
 simp only[go_sem,a8,aU,a3,a1,a4,bL,bq,aX];have Cz:=dE (enc:=bU) (s:=4) (fun _=>rfl) A
 have eu:aI bU d.m.bN=aI bU A++(.int .i64 w.n::.int .i64 w.dir::.sl false (w.bV.map ct)::.bool w.over::aI bU B):=by rw[ar,iu,pK];rfl
 have kz:List.drop (A.length * 4+2) (aI bU d.m.bN)=.sl false (w.bV.map ct)::.bool w.over::aI bU B:=by
  rw[eu,<-Cz,List.drop_append];simp
 have sA:List.take 2 (List.drop (A.length * 4+2) (aI bU d.m.bN))=[.sl false (w.bV.map ct),.bool w.over]:=by rw[kz];rfl
 have yl:(aI bU d.m.bN).getD (A.length * 4+2) .top=.sl false (w.bV.map ct):=by
  rw[eP,<-List.head?_drop,kz];rfl
 have kQ:(aI bU d.m.bN).length=(A.length+(B.length+1)) * 4:=by rw[dE (s:=4) (fun _=>rfl),hlen]
 have CL:=aEY false w.over w.bV (w.bV.length:Int) (by omega)
 simp only[j6,Nat.min_self,l7,eQ,im]at CL;have dK:dw (aI bU d.m.bN) (A.length * 4+2) [.sl false [],.bool w.over]=aI bU (A++{w with bV:=[]}::B):=by
  have e:=m0 (A:=aI bU A++[.int .i64 w.n,.int .i64 w.dir]) (B:=.sl false (w.bV.map ct)::.bool w.over::aI bU B) (off:=A.length * 4+2) (X:=[.sl false [],.bool w.over]) (by simp[Cz])
  rw[eu];rw[show aI bU A++[I.int .i64 w.n,.int .i64 w.dir]++(.sl false (w.bV.map ct)::.bool w.over::aI bU B)=aI bU A++(.int .i64 w.n::.int .i64 w.dir::.sl false (w.bV.map ct)::.bool w.over::aI bU B) by simp]at e
  rw[e,iu,pK];simp[bU,I.cells]
 repeat' first|((first|refine mx [4] Pw ?_|refine mx [6] Px ?_|refine ad ?_);simp only[go_sem,a8,aU,a3,a1,a4,bL,bq,aX,hlen,sA,yl,kQ,dK])|refine af ?_|fail
 refine He aa rfl rfl rfl ?_;unfold fv;repeat' first|exact gY|refine dV ?_ ?_|exact .cl _ (.int _ _)|exact .cl _ (.str _)|exact .cl _ (DV _ _ _)|exact .cl _ (DU _ _ _)|exact .cl _ (DW _ _ _)|exact .cl _ (DX _ _ _)|exact .cl _ (DY _ _ _)|exact .cl _ (DZ _ _ _)|exact .cl _ (.osl _ _ _ _ _ _ cO)
 exact tV (by omega) (by first|(simp only[go_sem,a8,aU,a3,a1,a4,bL,bq,aX];done)|(simp only[go_sem,a8,aU,a3,a1,a4,bL,bq,aX];rfl)) (by simp) (fun _=>rfl) (fun x=>by simp only[go_sem])
theorem aAn(a b:List eZ):(vZ a b).length<=a.length+b.length+b.length:=by
 unfold vZ;simp only[bt,cP,List.length_reverse];have h1:=nX (jW b) a;have h2:=nX (jW a) b;have h3:=nX (n6 a) b;have h4:=nX (jW b) a.reverse;rw[List.length_reverse]at h4;omega
theorem Rt{l:List aB}(h:kL l){dir:Int}(hd:dy dir=true):(nN l dir).length<=l.length:=by
 unfold nN;split
 ·rename_i al;exact M8 al h _ _ _ hd
 ·exact bG _
theorem aE6{i j:Nat}{c:b3}{d d':cS}{G L:ab}{cs:List I}(h:gv i j c d G)(aN:d'.ops=d.ops)(hl:cs.length=18)
  (an:∀(m:Nat) (x y:I),cs[m]?=some x->(fv j c d')[m]?=some y->cQ G.length (ai G i (.cells 0 cs)++L) x y):
  ∃A gk H1 y,ai G i (.cells 0 cs)++L=A++gk∧A.length=G.length∧H1.length=G.length∧zt G.length (ai G i (.cells 0 cs)++L) A H1 G∧cQ G.length (ai G i (.cells 0 cs)++L) (.a0 []) y∧(y=.a0 []∧H1=gg G i j c d'):=by
 obtain⟨A,gk,H1,y,ar,au,bd,bE, -, -,h8⟩:=He (e:=0) h rfl aN hl an;exact⟨A,gk,H1,_,ar,au,bd,bE,.cl _ (.a0 _ fun _ _ J=>by simp at J),rfl,h8⟩
structure Qt (b4:List aB) (d:cS):Prop where
 PX:kL b4
 PY:kL d.m.log.nodes
 Xt:r6 b4
 Xu:r6 d.m.log.nodes
 len:b4.length<=1000000
 dir:∀w∈d.m.bN,dy w.dir=true
theorem aE7{i j:Nat}{c:b3}{d:cS}{G:ab}(aa:gv i j c d G)(hs:np d.m)(f:Bool)(b4:List aB)(aj:Qt b4 d):
  c5 Tryz.prog 61 [.ref i 0 0,.sl f (b4.map aW)] G (fun v H'=>v=.a0 []∧H'=gg G i j c (xJ b4 d)):=by
 refine El Tryz.func61 ?_;have a8:=aa.aV;have aU:=bz aa.aV trivial;have a3:=bz aa.bm trivial;have aP:=aa.ne;have cH:=aa.e3;have cO:=aa.fR;have a1:=aa.a1;have a4:=aa.a4;have bL:=aX G i;simp only[fv]at a8 aU;have bq:=mq cH cO aP rfl;have tD:=hs.bN;have rq:=hs.nodes;repeat' first|(refine ad ?_;simp only[go_sem,a8,aU,a3,a1,a4,bL,bq,aX])|refine af ?_|fail
 refine c6 (Gk false d.m.bN (by omega) _) (aA) ?_
 rintro v H' ⟨rfl,rfl⟩;simp only[go_sem,a8,aU,a3,a1,a4,bL,bq,aX];repeat' first|(refine ad ?_;simp only[go_sem,a8,aU,a3,a1,a4,bL,bq,aX])|refine af ?_|fail
 obtain⟨T,o1⟩:∃T,T=MS b4 d.m.log.nodes:=⟨_,rfl⟩;obtain⟨W,hg⟩:∃W:Nat->List jV,W=fun k=>(d.m.bN.take k).map T++d.m.bN.drop k:=⟨_,rfl⟩
 have I9:∀k,(W k).length=d.m.bN.length:=fun k=>by rw[hg];simp only[bt,cP,e8,gL];omega
 obtain⟨n,ag⟩:∃n,n=d.m.bN.length:=⟨_,rfl⟩;rw[<-ag]at I9 tD ⊢;obtain⟨X,ez⟩:∃X:List I,X=[.sl false (d.m.log.entries.map de),.sl false (d.m.log.nodes.map aW),.int .i64 d.m.seen,.int .i64 d.m.rep,.sl false (d.m.cj.map cU),.osl 4 G.length 1 0 n n,.int .i64 d.m.next,
  .int .i64 d.a.err,.str d.a.data,.sl false (d.a.names.map I.str),.int .i64 d.a.n,.sl false (d.a.events.map ct),
  .int .i64 c.kind,.str c.path,.str c.to,.str c.data,.int .i64 c.n,.osl 7 j (d.ops.length+1) 0 d.ops.length d.ops.length]:=⟨_,rfl⟩
 refine b5 (ι:=Nat) (fun k=>[(0,.ref i 0 0),(1,.sl f (b4.map aW)),(21,.int .i64 n),(22,.int .i64 k)]) (fun k=>ai G i (.cells 0 X)++[.cells 1 (aI bU (W k))]) (fun k=>k<=n) (fun k=>n-k) 0 (bG _) ?_ ?_ ?_
 ·simp[go_sem]
 ·rw[ez,hg];simp
 intro k hk;by_cases ak:k<n
 ·have NU:W k=(d.m.bN.take k).map T++d.m.bN[k]::d.m.bN.drop (k+1):=by rw[hg];simp only;rw[eo (by omega)]
  have NV:W (k+1)=(d.m.bN.take k).map T++T d.m.bN[k]::d.m.bN.drop (k+1):=by rw[hg];simp only;rw[eB (by omega),n0,cr];rfl
  obtain⟨w,hw⟩:∃w,w=d.m.bN[k]:=⟨_,rfl⟩;rw[<-hw]at NU NV;have kh:w∈d.m.bN:=by rw[hw];exact hv _
  obtain⟨A,cf⟩:∃A,A=(d.m.bN.take k).map T:=⟨_,rfl⟩;have E1:A.length=k:=by rw[cf,cP,e8];omega
  rw[<-cf]at NU NV;have Cz:=dE (enc:=bU) (s:=4) (fun _=>rfl) A
  rw[E1]at Cz;have eu:aI bU (W k)=aI bU A++(.int .i64 w.n::.int .i64 w.dir::.sl false (w.bV.map ct)::.bool w.over::aI bU (d.m.bN.drop (k+1))):=by rw[NU,iu,pK];rfl
  have kQ:(aI bU (W k)).length=n * 4:=by rw[dE (s:=4) (fun _=>rfl),I9]
  have kz:∀q,List.drop (k * 4+q) (aI bU (W k))=List.drop q (.int .i64 w.n::.int .i64 w.dir::.sl false (w.bV.map ct)::.bool w.over::aI bU (d.m.bN.drop (k+1))):=fun q=>by
   rw[eu,<-Cz,List.drop_append];simp
  have sA:List.take 2 (List.drop (k * 4+2) (aI bU (W k)))=[.sl false (w.bV.map ct),.bool w.over]:=by rw[kz];rfl
  have yl:(aI bU (W k)).getD (k * 4+1) .top=.int .i64 w.dir:=by
   rw[eP,<-List.head?_drop,kz];rfl
  have fl:=aj.dir w kh;have aJh:=aGC f false b4 d.m.log.nodes w.dir aj.PX aj.PY fl (by have:=aj.len;omega) (by omega) aj.Xt aj.Xu
  obtain⟨D,cD⟩:∃D,D=vZ (nN b4 w.dir) (nN d.m.log.nodes w.dir):=⟨_,rfl⟩;rw[<-cD]at aJh;have uV:D.length<=1073741824:=by
   have h1:=aAn (nN b4 w.dir) (nN d.m.log.nodes w.dir);have h2:=Rt aj.PX fl;have h3:=Rt aj.PY fl;have:=aj.len;rw[cD];omega
  have hle:=hs.bV w kh;have wH:=aGB false false w.over w.bV D (by omega) uV
  have aIY:T w={w with bV:=(po w.bV w.over D).1,over:=(po w.bV w.over D).2}:=by rw[o1,cD];rfl
  have dK:dw (aI bU (W k)) (k * 4+2) [.sl false ((po w.bV w.over D).1.map ct),.bool (po w.bV w.over D).2]=aI bU (W (k+1)):=by
   have e:=m0 (A:=aI bU A++[.int .i64 w.n,.int .i64 w.dir]) (B:=.sl false (w.bV.map ct)::.bool w.over::aI bU (d.m.bN.drop (k+1))) (off:=k * 4+2) (X:=[.sl false ((po w.bV w.over D).1.map ct),.bool (po w.bV w.over D).2]) (by simp[Cz])
   rw[eu];rw[show aI bU A++[I.int .i64 w.n,.int .i64 w.dir]++(.sl false (w.bV.map ct)::.bool w.over::aI bU (d.m.bN.drop (k+1)))=aI bU A++(.int .i64 w.n::.int .i64 w.dir::.sl false (w.bV.map ct)::.bool w.over::aI bU (d.m.bN.drop (k+1))) by simp]at e
   rw[e,NV,iu,pK,aIY];simp[bU,I.cells]
  have aH:decide ((k:Int)<(n:Int))=true:=b1;repeat' first|((first|refine mx [5] QE ?_|refine ad ?_);simp only[go_sem,a8,aU,a3,a1,a4,bL,bq,aX,ez,aH,sA,yl,kQ,dK])|refine af ?_|fail
  exact⟨k+1,ak,by omega,bH _ (dW ak (by omega)),rfl⟩
 ·have g3:k=n:=by omega
  have aH:decide ((k:Int)<(n:Int))=false:=cg;repeat' first|(refine ad ?_;simp only[go_sem,a8,aU,a3,a1,a4,bL,bq,aX,aH])|refine af ?_|fail
  have Vz:W k=(xJ b4 d).m.bN:=by
   rw[hg,g3,ag];simp only[eQ,l7,b2];rw[o1];rfl
  rw[Vz];subst ez;refine aE6 aa rfl rfl ?_;unfold fv;repeat' first|exact gY|refine dV ?_ ?_|exact .cl _ (.int _ _)|exact .cl _ (.str _)|exact .cl _ (DV _ _ _)|exact .cl _ (DU _ _ _)|exact .cl _ (DW _ _ _)|exact .cl _ (DX _ _ _)|exact .cl _ (DY _ _ _)|exact .cl _ (DZ _ _ _)|exact .cl _ (.osl _ _ _ _ _ _ cO)
  exact tV (bk _) (by first|(simp only[go_sem,a8,aU,a3,a1,a4,bL,bq,aX];done)|(simp only[go_sem,a8,aU,a3,a1,a4,bL,bq,aX];rfl)) (by rw[<-Vz,I9]) (fun _=>rfl) (fun x=>by simp only[go_sem])
end
section
def Ke:List cR:=[.free,.free,.pure 0,.free,.free,.pure 0,.eff [false,false],.free]
attribute [go_sem] Ke
theorem HK{α:Type}{enc:α->I}{s:Nat}(hs:∀x,(enc x).cells.length=s){D:List α}{k:Nat}(h:k<D.length)(rest:List I):List.take s (List.drop (k * s) (aI enc D++rest))=(enc D[k]).cells:=by
 have hl:=dE hs D;have h2:k * s+s<=D.length * s:=by rw[<-Nat.succ_mul];exact vI s h
 rw[List.drop_append_of_le_length (by omega),List.take_append_of_le_length (by rw[gL];omega),om hs h]
theorem aE8(l:List cM)(p:cM->Bool)(i v lc n:Nat)(ag:n=l.length)(gE:n<=lc)(hl:n<=1073741824){fn:Fn}{fs cs:List I}(rest:List I)(H:ab)(ah:ao H i=.cells v (aI a6 l++rest))
  (an:∀x,h6 Tryz.prog (.func fn fs cs) [a6 x] H (fun r dt=>r=.bool (p x)∧dt=H)):
  aY Tryz.prog 104 [.osl 2 i v 0 n lc,.func fn fs cs] H (.int .i64 (eg p l)):=by
 refine bh Tryz.func104 ?_;have g4:(aI a6 l).length=n * 2:=by rw[dE (s:=2) (fun _=>rfl),ag]
 have cO:∀k,k<n->k * 2+2<=(aI a6 l++rest).length:=fun k hk=>by rw[bt,g4];omega
 have dF:=an;simp only[a6]at dF;repeat' first|(refine ad ?_;simp only[go_sem,ah])|refine af ?_|fail
 refine b5 (ι:=Nat) (fun k=>[(0,.osl 2 i v 0 n lc),(1,.func fn fs cs),(7,.int .i64 n),(8,.int .i64 k)]) (fun _=>H) (fun k=>k<=n∧∀q (hk:q<k) (eb:q<l.length),p l[q]=false) (fun k=>n-k) 0 ⟨bG _,fun q hk=>by omega⟩ ?_ rfl ?_
 ·simp[go_sem]
 ·rintro k ⟨hk,bX⟩;by_cases ak:k<l.length
  ·have ae:=HK (enc:=a6) (s:=2) (fun _=>rfl) ak rest
   simp only[a6,I.cells]at ae;have aH:decide ((k:Int)<(n:Int))=true:=b1;have hw:=dW ak (by omega)
   refine bW ?_;refine sH (dF l[k]) ?_;simp only[go_sem];repeat' first|(refine ad ?_;simp only[go_sem])|refine bx ?_|(refine bD ?_ ?_<;>intro h<;>try exact bB h)|fail
   ·exact bC (.of (by rw[pN p l k ak (fun q aS=>bX q aS (by omega)) (by assumption)]))
   ·refine⟨k+1,⟨by omega,fun q aS iK=>?_⟩,by omega,bH _ hw⟩
    by_cases e:q=k
    ·subst e;assumption
    ·exact bX q (by omega) (by omega)
  ·have cv:k=n:=by omega
   subst cv;have aH:decide ((k:Int)<(k:Int))=false:=by simp
   refine bW ?_;exact bC (.of (by rw[pO p l fun q hk=>bX q (by omega) hk]))
theorem Up(w x:cM):(decide (w.lock=x.lock)&&decide (w.aR=x.aR))=decide (w=x):=by cases w;cases x;simp
theorem aB1(l:List cM)(w:cM)(i v lc n:Nat)(ag:n=l.length)(gE:n<=lc)(hl:n<=1073741824)(rest:List I)(H:ab)(ah:ao H i=.cells v (aI a6 l++rest)):
  aY Tryz.prog 163 [.osl 2 i v 0 n lc,a6 w] H (.int .i64 (eg (fun x=>decide (w=x)) l)):=by
 refine bh Tryz.func163 ?_;have g4:(aI a6 l).length=n * 2:=by rw[dE (s:=2) (fun _=>rfl),ag]
 have cO:∀k,k<n->k * 2+2<=(aI a6 l++rest).length:=fun k hk=>by rw[bt,g4];omega
 have Fm:=bz ah trivial;repeat' first|(refine ad ?_;simp only[go_sem,ah,a6])|refine af ?_|fail
 refine b5 (ι:=Nat) (fun k=>[(0,.osl 2 i v 0 n lc),(3,.ref H.length 0 0),(7,.int .i64 n),(8,.int .i64 k)]) (fun _=>H++[.cells 0 [.int .i64 w.lock,.int .i64 w.aR]]) (fun k=>k<=n∧∀q (hk:q<k) (eb:q<l.length),decide (w=l[q])=false) (fun k=>n-k) 0 ⟨bG _,fun q hk=>by omega⟩ ?_ rfl ?_
 ·simp[go_sem]
 ·rintro k ⟨hk,bX⟩;by_cases ak:k<l.length
  ·have ae:=HK (enc:=a6) (s:=2) (fun _=>rfl) ak rest
   simp only[a6,I.cells]at ae;have aH:decide ((k:Int)<(n:Int))=true:=b1;have hw:=dW ak (by omega)
   have nD:=cO k (by omega)
   repeat' first|(refine ad ?_;simp only[go_sem,ah,Fm,aH,ae,g4])|refine bx ?_|(refine bD ?_ ?_<;>intro h<;>try exact bB h)|fail
   ·rw[Up]at h;exact bo (.of (by rw[pN _ l k ak (fun q aS=>bX q aS (by omega)) h]))
   ·rw[Up]at h;refine⟨k+1,⟨by omega,fun q aS iK=>?_⟩,by omega,bH _ hw⟩
    by_cases e:q=k
    ·subst e;simpa using h
    ·simpa using bX q (by omega) iK
  ·have cv:k=n:=by omega
   subst cv;have aH:decide ((k:Int)<(k:Int))=false:=by simp
   refine bW ?_;exact bo (.of (by rw[pO _ l fun q hk=>bX q (by omega) hk]))
theorem TO(l:List cM)(a i v lc n:Nat)(ag:n=l.length)(aD:a<n)(hl:lc<=1073741824)(rest:List I)(H:ab)(ah:ao H i=.cells v (aI a6 l++rest))(ax:(aI a6 l++rest).length=lc * 2)(aKg:∀x∈rest,bO x):
  c5 Tryz.prog 164 [.osl 2 i v 0 n lc,.int .i64 a,.int .i64 ((a+1:Nat):Int)] H (fun r H'=>∃rest',r=.osl 2 i v 0 (n-1) lc∧H'=ai H i (.cells v (aI a6 (l.eraseIdx a)++rest'))∧(aI a6 (l.eraseIdx a)++rest').length=lc * 2∧∀x∈rest',bO x):=by
 refine eJ Tryz.func164 ?_;have g4:(aI a6 l).length=n * 2:=by rw[dE (s:=2) (fun _=>rfl),ag]
 have h1:=bz ah trivial;have d0:decide (((a:Nat):Int)=((a+1:Nat):Int))=false:=cg;repeat' first|((first|refine mx [5] Ke ?_|refine ad ?_);simp only[go_sem,ah,g4,d0])|refine af ?_|fail
 have bL:n<=lc:=by rw[bt,g4]at ax;omega
 refine⟨⟨by omega,by omega,by omega,by omega⟩,?_⟩
 have zR:(a=lc)=False:=uy (by omega)
 have Ff:List.take ((n-(a+1)) * 2) (List.drop ((a+1) * 2) (aI a6 l++rest))=aI a6 (l.drop (a+1)):=by
  have e:aI a6 l=aI a6 (l.take (a+1))++aI a6 (l.drop (a+1)):=by rw[<-iu,jf]
  have ar:(aI a6 (l.take (a+1))).length=(a+1) * 2:=by rw[dE (s:=2) (fun _=>rfl),e8,uu (by omega)]
  have au:(aI a6 (l.drop (a+1))).length=(n-(a+1)) * 2:=by rw[dE (s:=2) (fun _=>rfl),gL,ag]
  rw[e,cr,<-ar,List.drop_left,<-au,s0]
 have qv:(aI a6 (l.drop (a+1))).all I.one=true:=by
  rw[gT];intro x J;unfold aI at J;simp only[rZ,bP]at J;obtain⟨_,⟨y,_,rfl⟩,J⟩:=J;simp only[a6,I.cells,c7,jB,jD]at J;rcases J with rfl|rfl<;>rfl
 obtain⟨R,e2,Vw,aIW⟩:∃R,dw (aI a6 l++rest) (a * 2) (aI a6 (l.drop (a+1)))=aI a6 (l.eraseIdx a)++R∧R.length=2+rest.length∧∀x∈R,bO x:=by
  have ar:(aI a6 (l.take a)).length=a * 2:=by rw[dE (s:=2) (fun _=>rfl),e8,uu (by omega)]
  have dP:aI a6 l++rest=aI a6 (l.take a)++(aI a6 (l.drop a)++rest):=by rw[<-cr,<-iu,jf]
  have au:=m0 (A:=aI a6 (l.take a)) (B:=aI a6 (l.drop a)++rest) (off:=a * 2) (X:=aI a6 (l.drop (a+1))) ar;rw[<-dP]at au;refine⟨_,by rw[au,List.eraseIdx_eq_take_drop_succ,iu,cr],?_,fun x J=>?_⟩
  rotate_left
  ·rcases eX.1 (vG J)with J|J
   ·exact oX (fun x=>by simp only[go_sem]) _ x J
   ·exact aKg x J
  rw[gL,bt,dE (s:=2) (fun _=>rfl),dE (s:=2) (fun _=>rfl),gL,gL]
  omega
 have Js:=c8 ah trivial;have aQ:∀X,ao (ai H i (.cells v X)) i=.cells v X:=fun X=>dT Js _
 repeat' first|((first|refine mx [5] Ke ?_|refine ad ?_);simp only[go_sem,ah,g4,d0,zR,Ff,qv,e2,eF])|refine bx ?_|(refine bD ?_ ?_<;>intro h<;>try exact bB h)|fail
 have aJU:n * 2+rest.length=lc * 2:=by rw[<-g4,<-bt];exact ax
 have dP:a+(n-(a+1))=n-1:=by omega
 refine⟨⟨by omega,by omega,by omega⟩,?_⟩
 rw[dP];have Jh:(aI a6 (l.eraseIdx a)).length=(n-1) * 2:=by rw[dE (s:=2) (fun _=>rfl),List.length_eraseIdx,aF (by omega),ag]
 have a2:∀Z:List I,dw (aI a6 (l.eraseIdx a)++R) ((n-1) * 2) Z=aI a6 (l.eraseIdx a)++(Z++R.drop Z.length):=fun Z=>m0 Jh
 have JA:((n-1:Nat):Int)=(n:Int)-1:=by omega
 repeat' first|((first|refine mx [5] Ke ?_|refine ad ?_);simp only[go_sem,ah,g4,aQ,Jh,Vw,a2])|refine af ?_|fail
 rw[iQ];have ar:n-(n-1)=1:=by omega
 rw[ar];have JG:∀x∈([.int .i64 0,.int .i64 0]:List I)++R.drop 2,bO x:=fun x J=>by
  rcases eX.1 J with J|J
  ·simp only[c7,jB,jD]at J;rcases J with rfl|rfl<;>exact .int _ _
  ·exact aIW x (vG J)
 refine⟨_,[],.osl 2 i v 0 (n-1) lc,(b2 _).symm,by rw[aX],pI fun x J=>?_,.cl _ (.osl _ _ _ _ _ _ Js),[.int .i64 0,.int .i64 0]++R.drop 2,rfl,rfl,?_,JG⟩
 ·rcases eX.1 J with J|J
  ·exact(oX (fun x=>by simp only[go_sem]) _ x J).cl _
  ·exact(JG x J).cl _
 ·simp only[bt,cm,ew,gL];omega
end
end Go.Proofs.YthafnbmdmfoobaaGreatDoor
