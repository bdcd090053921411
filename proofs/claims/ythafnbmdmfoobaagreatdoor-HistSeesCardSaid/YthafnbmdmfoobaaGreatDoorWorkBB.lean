/- What the functions of this seat answer (28 of 40). No condition. -/
import Derived.Test.YthafnbmdmfoobaaGreatDoorWorkBA
set_option linter.unusedSimpArgs false
set_option linter.unusedVariables false
set_option linter.unusedSectionVars false
set_option maxRecDepth 100000
set_option maxHeartbeats 16000000
namespace Go.Proofs.YthafnbmdmfoobaaGreatDoor
section
theorem tV{α:Type}{enc:α->I}{s n i v k lc:Nat}{H:ab}{D:List α}(ag:n<=i)(ah:ao H i=.cells v (aI enc D))(hk:D.length=k)(hs:∀x,(enc x).cells.length=s)(ae:∀x,bO (enc x)):cQ n H (.osl s i v 0 k lc) (.sl false (D.map enc)):=
 sG (es:=D.map enc) (rest:=[]) ag ah (b2 _).symm (by rw[cP,hk]) (fun e he=>by(obtain⟨x, -,rfl⟩:=bP.1 he;exact hs x)) (fun e he=>by(obtain⟨x, -,rfl⟩:=bP.1 he;exact ae x))
theorem S2{α:Type}{enc:α->I}{s n i v k lc:Nat}{H:ab}{D:List α}{cs:List I}(ag:n<=i)(ah:ao H i=.cells v cs)(hk:D.length=k)(hl:cs.length=D.length * s)(hs:∀x,(enc x).cells.length=s)
  (h:∀(m:Nat) (x y:I),cs[m]?=some x->(aI enc D)[m]?=some y->cQ n H x y):cQ n H (.osl s i v 0 k lc) (.sl false (D.map enc)):=
 .osl s i v 0 k lc cs _ ag ah (by rw[cP,hk]) (by rw[hl,hk];omega) (fun e he=>by(obtain⟨x, -,rfl⟩:=bP.1 he;exact hs x)) fun q j e x y he aG J=>
  h (q * s+j) x y (by rwa[mC]at J) (yw (fun e he=>by(obtain⟨x, -,rfl⟩:=bP.1 he;exact hs x)) he aG)
theorem Sf{n:Nat}{H:ab}{A B C:List I}(cf:∀x∈A,bO x)(h:∀(m:Nat) (x y:I),B[m]?=some x->C[m]?=some y->cQ n H x y):∀(m:Nat) (x y:I),(A++B)[m]?=some x->(A++C)[m]?=some y->cQ n H x y:=fun m x y J aG=>by
 by_cases hm:m<A.length
 ·rw[iC hm]at J aG;rw[J]at aG;cases aG;exact .cl _ ((cf x (df J)).cl _)
 ·rw[qf (by omega)]at J aG
  exact h _ x y J aG
theorem He{i j:Nat}{c:b3}{d d':cS}{G L:ab}{cs:List I}(h:gv i j c d G){e:Int}{v:I}(aL:v=.int .i64 e)(aN:d'.ops=d.ops)(hl:cs.length=18)
  (an:∀(m:Nat) (x y:I),cs[m]?=some x->(fv j c d')[m]?=some y->cQ G.length (ai G i (.cells 0 cs)++L) x y):
  ∃A gk H1 y,ai G i (.cells 0 cs)++L=A++gk∧A.length=G.length∧H1.length=G.length∧zt G.length (ai G i (.cells 0 cs)++L) A H1 G∧cQ G.length (ai G i (.cells 0 cs)++L) v y∧(y=.int .i64 e∧H1=gg G i j c d'):=by
 subst aL;refine⟨_,L,_,_,rfl,aX _ _ _,Hd _ _ _ _ _,fun k a b aD hk=>?_,.cl _ (.int _ _),rfl,rfl⟩
 rw[<-h.one aN]at hk;by_cases e:i=k
 ·subst e;rw[ai,oI h.e3]at aD hk;cases aD;cases hk;exact .inr ⟨0,cs,_,rfl,rfl,hl,an⟩
 ·rw[ai,gS e]at aD hk;rw[aD]at hk;cases hk;exact .inl ⟨rfl,.inl aD⟩
theorem L6{i j:Nat}{c:b3}{d:cS}{G:ab}(h:gv i j c d G){e:Int}{v:I}(aL:v=.int .i64 e)(L:ab):
  ∃A gk H1 y,G++L=A++gk∧A.length=G.length∧H1.length=G.length∧zt G.length (G++L) A H1 G∧cQ G.length (G++L) v y∧(y=.int .i64 e∧H1=gg G i j c d):=by
 subst aL;exact⟨G,L,G,_,rfl,rfl,rfl,fun k a b aD aa=>by(rw[aD]at aa;cases aa;exact .inl ⟨rfl,.inl aD⟩),.cl _ (.int _ _),rfl,h.own.symm⟩
theorem K1{i j:Nat}{c:b3}{d:cS}{G:ab}(h:gv i j c d G){e:Int}{v:I}(aL:v=.int .i64 e):
  ∃A gk H1 y,G=A++gk∧A.length=G.length∧H1.length=G.length∧zt G.length G A H1 G∧cQ G.length G v y∧(y=.int .i64 e∧H1=gg G i j c d):=by
 have:=L6 h aL [];rwa[b2]at this
def QB:List cR:=[.free,.pure 0,.pure 0,.pure 0,.pure 0,.free,.pure 0,.pure 0,.pure 0,.pure 0,.pure 0,.pure 0,.free,.eff [true,true,true,true,true,true,true,true,true,true],.eff [false,false,false,false,false,false,false,false,false,false]]
def QC:List cR:=[.free,.free,.pure 0,.pure 0,.pure 0,.pure 0,.eff [false,true,true,true],.pure 1,.free,.eff [true,true,true,true],.pure 0,.pure 0,.pure 0,.eff [false,true,true,false,false,false,false]]
def QD:List cR:=[.free,.free,.pure 0,.pure 0,.pure 0,.pure 0,.eff [false,true,true,true],.free,.pure 1,.pure 1,.pure 1,.pure 1,.free,.free,.free,.eff [true,true,true,true,true,true,true],.pure 0,.pure 0,.pure 0,.eff [false,true,true,false,false,false,false,false,false,false]]
def F6:List cR:=[.pure 0,.pure 0,.pure 0,.pure 0,.pure 0,.pure 0,.eff [false,true,true,true,true,true],.free,.eff [true,true,true,true,true],.pure 0,.pure 0,.pure 0,.eff [false,true,true,false,false,false,false,false]]
attribute [go_sem] QB QC QD F6
theorem aEZ{i j:Nat}{c:b3}{d:cS}{G:ab}(aa:gv i j c d G):qZ Tryz.prog 100 i j c (0,d) G:=by
 refine eJ Tryz.func100 ?_;refine aT ?_;exact jG aa rfl aa.own.symm
theorem aE0{i j:Nat}{c:b3}{d:cS}{G:ab}(aa:gv i j c d G)(hs:np d.m):qZ Tryz.prog 96 i j c (Bv d) G:=by
 refine El Tryz.func96 ?_;have kv:=mT [(4,QB),(5,QC)];have a8:=aa.aV;have aU:=bz aa.aV trivial;have a3:=bz aa.bm trivial;have aP:=aa.ne;have cH:=aa.e3;have cO:=aa.fR;have a1:=aa.a1;have a4:=aa.a4;have bL:=aX G i;simp only[fv]at a8 aU;have bq:=mq cH cO aP rfl;unfold Bv;by_cases lW:(8:Int)<=(d.m.cj.length:Int)
 ·have d8:decide ((8:Int)<=(d.m.cj.length:Int))=true:=cF lW;rw[aF lW];refine bW ?_;exact K1 aa rfl
 have d8:decide ((8:Int)<=(d.m.cj.length:Int))=false:=b8 lW;rw[az lW];have tw:=YV false d.m.log.nodes (by have:=hs.nodes;omega)
 refine bW ?_;refine pJ (Qc false d.m.cj (by have:=hs.cj;omega) _) (aA) ?_
 have eu:=dE (enc:=cU) (s:=2) (fun _=>rfl) d.m.cj
 have jN:(∀e,e=I.agg [.int .i64 d.m.next,.sl false (d.m.log.nodes.map aW)]->e.cells.length=2)=True:=bJ (fun e he=>by rw[he];rfl)
 have kT:((d.m.cj.length+1) * 32<=140737488355328)=True:=bJ (by have:=hs.cj;omega)
 simp only[go_sem,a8,aU,a3,a1,a4,bL,bq,aX,eu,jN,kT];refine bW ?_;refine He aa rfl rfl rfl ?_;unfold fv;repeat' first|exact gY|refine dV ?_ ?_|exact .cl _ (.int _ _)|exact .cl _ (.str _)|exact .cl _ (DV _ _ _)|exact .cl _ (DU _ _ _)|exact .cl _ (DW _ _ _)|exact .cl _ (DX _ _ _)|exact .cl _ (DY _ _ _)|exact .cl _ (DZ _ _ _)|exact .cl _ (.osl _ _ _ _ _ _ cO)
 exact tV (by omega) (by rw[iu];simp only[go_sem,a8,aU,a3,a1,a4,bL,bq,aX];rfl) (by simp) (fun _=>rfl) (fun x=>by simp only[go_sem])
theorem aBZ{i j:Nat}{c:b3}{d:cS}{G:ab}(aa:gv i j c d G)(hs:np d.m)(al:jh c):qZ Tryz.prog 98 i j c (DR c d) G:=by
 refine El Tryz.func98 ?_;have kv:=mT [(9,QD)];have a8:=aa.aV;have aU:=bz aa.aV trivial;have a3:=bz aa.bm trivial;have aP:=aa.ne;have cH:=aa.e3;have cO:=aa.fR;have a1:=aa.a1;have a4:=aa.a4;have bL:=aX G i;simp only[fv]at a8 aU;have bq:=mq cH cO aP rfl;unfold DR;have fj:=BR false d.m.log.nodes c.path (by have:=hs.nodes;omega) al.path
 obtain⟨⟨id,e⟩,aD⟩:∃x,fL d.m.log.nodes c.path=x:=⟨_,rfl⟩;rw[aD]at fj ⊢;simp only[sT]at fj;by_cases he:e=0
 ·subst he;simp only[dI];have jr:=sX id;cases fl:dy id with
  |false=>
   rw[fl]at jr;rw[az (by simp)]
   refine bW ?_;exact K1 aa rfl
  |true=>
   rw[fl]at jr;rw[aF rfl];by_cases lW:(8:Int)<=(d.m.bN.length:Int)
   ·have d8:decide ((8:Int)<=(d.m.bN.length:Int))=true:=cF lW;rw[aF lW];refine bW ?_;exact K1 aa rfl
   have d8:decide ((8:Int)<=(d.m.bN.length:Int))=false:=b8 lW;rw[az lW];refine bW ?_;refine pJ (Gk false d.m.bN (by have:=hs.bN;omega) _) (aA) ?_
   have eu:=dE (enc:=bU) (s:=4) (fun _=>rfl) d.m.bN
   have jN:(∀e,e=I.agg [.int .i64 d.m.next,.int .i64 id,.sl true [],.bool false]->e.cells.length=4)=True:=bJ (fun e he=>by rw[he];rfl)
   have kT:((d.m.bN.length+1) * 48<=140737488355328)=True:=bJ (by have:=hs.bN;omega)
   simp only[go_sem,a8,aU,a3,a1,a4,bL,bq,aX,eu,jN,kT];refine bW ?_;refine He aa rfl rfl rfl ?_;unfold fv;repeat' first|exact gY|refine dV ?_ ?_|exact .cl _ (.int _ _)|exact .cl _ (.str _)|exact .cl _ (DV _ _ _)|exact .cl _ (DU _ _ _)|exact .cl _ (DW _ _ _)|exact .cl _ (DX _ _ _)|exact .cl _ (DY _ _ _)|exact .cl _ (DZ _ _ _)|exact .cl _ (.osl _ _ _ _ _ _ cO)
   refine S2 (bk _) (by simp only[go_sem,a8,aU,a3,a1,a4,bL,bq,aX];rfl) (by simp) (by simp only[bt,eu,cm,ew];omega) (fun _=>rfl) ?_
   rw[iu];refine Sf (oX (fun x=>by simp only[go_sem]) _) ?_
   repeat' first|exact gY|refine dV ?_ ?_|exact .cl _ (.int _ _)|exact .cl _ (.bool _)|exact .GC _ _ ((bO.sl true [] (fun _ h=>by cases h)).cl _)
 ·have hd:decide (e=0)=false:=b8 he;simp only[az he];refine bW ?_;exact K1 aa rfl
theorem S3{i:Nat}{n:Int}{jz fr dZ gh vx A5 G4 G5 G6 G7 GX GY GZ G0 G1 G2 G3:I}{G:ab}(k:Nat)(hk:ao G k=.cells 0 [.ref i 0 0])(hi:ao G i=.cells 0 [jz,fr,dZ,gh,vx,A5,G4,G5,G6,G7,GX,GY,GZ,G0,G1,G2,.int .i64 n,G3])(s:n4):aY Tryz.prog 134 [cU s,.ref k 0 0] G (.bool (decide (s.n=n))):=by
 refine bh Tryz.func134 ?_;have hX:=bz hk trivial;have iJ:=bz hi trivial;refine b0 cU.eq_1 ?_;exact bo (.refl _)
theorem S4{i:Nat}{n:Int}{jz fr dZ gh vx A5 G4 G5 G6 G7 GX GY GZ G0 G1 G2 G3:I}{G:ab}(k:Nat)(hk:ao G k=.cells 0 [.ref i 0 0])(hi:ao G i=.cells 0 [jz,fr,dZ,gh,vx,A5,G4,G5,G6,G7,GX,GY,GZ,G0,G1,G2,.int .i64 n,G3])(s:jV):aY Tryz.prog 135 [bU s,.ref k 0 0] G (.bool (decide (s.n=n))):=by
 refine bh Tryz.func135 ?_;have hX:=bz hk trivial;have iJ:=bz hi trivial;refine b0 bU.eq_1 ?_;exact bo (.refl _)
theorem aE1{i:Nat}{n:Int}{jz fr dZ gh vx A5 G4 G5 G6 G7 GX GY GZ G0 G1 G2 G3:I}{G:ab}(k:Nat)(hk:ao G k=.cells 0 [.ref i 0 0])(hi:ao G i=.cells 0 [jz,fr,dZ,gh,vx,A5,G4,G5,G6,G7,GX,GY,GZ,G0,G1,G2,.int .i64 n,G3])(s:jV):aY Tryz.prog 141 [bU s,.ref k 0 0] G (.bool (decide (s.n=n))):=by
 refine bh Tryz.func141 ?_;have hX:=bz hk trivial;have iJ:=bz hi trivial;refine b0 bU.eq_1 ?_;exact bo (.refl _)
theorem aE2{i j:Nat}{c:b3}{d:cS}{G:ab}(aa:gv i j c d G)(hs:np d.m):qZ Tryz.prog 97 i j c (Bw c d) G:=by
 refine El Tryz.func97 ?_;have kv:=mT [(5,F6),(6,F6)];have a8:=aa.aV;have aU:=bz aa.aV trivial;have a3:=bz aa.bm trivial;have aP:=aa.ne;have cH:=aa.e3;have cO:=aa.fR;have a1:=aa.a1;have a4:=aa.a4;have bL:=aX G i;simp only[fv]at a8 aU;have bq:=mq cH cO aP rfl;have me:∀H,ao H G.length=.cells 0 [.ref i 0 0]->ao H i=.cells 0 (fv j c d)->aY Tryz.prog 136 [.sl false (d.m.cj.map cU),.func (.func 134) [] [.ref G.length 0 0]] H (.bool (d.m.cj.any fun s=>decide (s.n=c.n))):=
  fun H h1 h2=>aDu false d.m.cj (.func 134) [] [.ref G.length 0 0] (fun s=>decide (s.n=c.n)) H (fun s=>.mk (first:=[]) (fun L=>S3 G.length (bQ h1 trivial L) (bQ h2 trivial L) s) (aA))
 have tn:∀H,ao H G.length=.cells 0 [.ref i 0 0]->ao H i=.cells 0 (fv j c d)->aY Tryz.prog 137 [.sl false (d.m.bN.map bU),.func (.func 135) [] [.ref G.length 0 0]] H (.bool (d.m.bN.any fun s=>decide (s.n=c.n))):=
  fun H h1 h2=>aDv false d.m.bN (.func 135) [] [.ref G.length 0 0] (fun s=>decide (s.n=c.n)) H (fun s=>.mk (first:=[]) (fun L=>S4 G.length (bQ h1 trivial L) (bQ h2 trivial L) s) (aA))
 simp only[fv]at me tn;unfold Bw;have VU:=hs.cj;have tD:=hs.bN;by_cases bX:(!(d.m.cj.any fun s=>decide (s.n=c.n))&& !(d.m.bN.any fun w=>decide (w.n=c.n)))=true
 ·rw[aF bX];simp only[dD,nk]at bX;rw[bX.1]at me;rw[bX.2]at tn
  repeat' first|((first|refine ea (me _ (by simp only[go_sem,a8,aU,a3,a1,a4,bL,bq,aX]) (by simp only[go_sem,a8,aU,a3,a1,a4,bL,bq,aX])) (aA) ?_|refine ep (me _ (by simp only[go_sem,a8,aU,a3,a1,a4,bL,bq,aX]) (by simp only[go_sem,a8,aU,a3,a1,a4,bL,bq,aX])) (aA) ?_|refine er (fun _=>me _ (by simp only[go_sem,a8,aU,a3,a1,a4,bL,bq,aX]) (by simp only[go_sem,a8,aU,a3,a1,a4,bL,bq,aX])) (aA) ?_|refine ea (tn _ (by simp only[go_sem,a8,aU,a3,a1,a4,bL,bq,aX]) (by simp only[go_sem,a8,aU,a3,a1,a4,bL,bq,aX])) (aA) ?_|refine ep (tn _ (by simp only[go_sem,a8,aU,a3,a1,a4,bL,bq,aX]) (by simp only[go_sem,a8,aU,a3,a1,a4,bL,bq,aX])) (aA) ?_|refine er (fun _=>tn _ (by simp only[go_sem,a8,aU,a3,a1,a4,bL,bq,aX]) (by simp only[go_sem,a8,aU,a3,a1,a4,bL,bq,aX])) (aA) ?_|refine mx [5,6] F6 ?_|refine ad ?_);simp only[go_sem,a8,aU,a3,a1,a4,bL,bq,aX])|refine af ?_|fail
  exact L6 aa rfl _
 rw[az bX];obtain⟨A,cf⟩:∃A,d.m.cj.any (fun s=>decide (s.n=c.n))=A:=⟨_,rfl⟩
 obtain⟨B,bK⟩:∃B,d.m.bN.any (fun s=>decide (s.n=c.n))=B:=⟨_,rfl⟩
 rw[cf,bK]at bX;rw[cf]at me;rw[bK]at tn;have fin:∀n:Nat,n=n:=fun _=>rfl
 have k1:¬i=G.length:=by omega
 cases A<;>cases B
 ·exact absurd rfl bX
 all_goals
  repeat' first|((first|refine ea (me _ (by simp only[go_sem,a8,aU,a3,a1,a4,bL,bq,aX]) (by simp only[go_sem,a8,aU,a3,a1,a4,bL,bq,aX])) (aA) ?_|refine ep (me _ (by simp only[go_sem,a8,aU,a3,a1,a4,bL,bq,aX]) (by simp only[go_sem,a8,aU,a3,a1,a4,bL,bq,aX])) (aA) ?_|refine er (fun _=>me _ (by simp only[go_sem,a8,aU,a3,a1,a4,bL,bq,aX]) (by simp only[go_sem,a8,aU,a3,a1,a4,bL,bq,aX])) (aA) ?_|refine ea (tn _ (by simp only[go_sem,a8,aU,a3,a1,a4,bL,bq,aX]) (by simp only[go_sem,a8,aU,a3,a1,a4,bL,bq,aX])) (aA) ?_|refine ep (tn _ (by simp only[go_sem,a8,aU,a3,a1,a4,bL,bq,aX]) (by simp only[go_sem,a8,aU,a3,a1,a4,bL,bq,aX])) (aA) ?_|refine er (fun _=>tn _ (by simp only[go_sem,a8,aU,a3,a1,a4,bL,bq,aX]) (by simp only[go_sem,a8,aU,a3,a1,a4,bL,bq,aX])) (aA) ?_|refine mx [5,6] F6 ?_|refine ad ?_);simp only[go_sem,a8,aU,a3,a1,a4,bL,bq,aX])|refine af ?_|fail
  refine pJ (Qc false d.m.cj (by omega) _) (aA) ?_
  simp only[go_sem,a8,aU,a3,a1,a4,bL,bq,aX];repeat' first|refine bW ?_|(refine bD ?_ ?_<;>intro h<;>try exact bB h)|fail
  refine pJ ((aDz d.m.cj (fun s=>decide (s.n=c.n)) (G.length+1) 1 d.m.cj.length d.m.cj.length rfl (bk _) (by omega) (fun dt=>ao dt G.length=.cells 0 [.ref i 0 0]∧ao dt i=.cells 0 (fv j c d)) (fun dt b h=>⟨bM h.1 (by omega) b,bM h.2 (by omega) b⟩) (fun dt L h=>⟨bQ h.1 trivial L,bQ h.2 trivial L⟩) _
   (fn:=.func 134) (fs:=[]) (cs:=[.ref G.length 0 0]) (by first|(simp only[go_sem,a8,aU,a3,a1,a4,bL,bq,aX];done)|(simp only[go_sem,a8,aU,a3,a1,a4,bL,bq,aX];rfl)) (fun s dt aJ=>Or.inl ⟨(aA),S3 G.length aJ.1 aJ.2 s⟩) ⟨(by first|(simp only[go_sem,a8,aU,a3,a1,a4,bL,bq,aX];done)|(simp only[go_sem,a8,aU,a3,a1,a4,bL,bq,aX];rfl)),(by first|(simp only[go_sem,a8,aU,a3,a1,a4,bL,bq,aX];done)|(simp only[go_sem,a8,aU,a3,a1,a4,bL,bq,aX];rfl))⟩).PD (by simp)) (aA) ?_
  simp only[go_sem,a8,aU,a3,a1,a4,bL,bq,aX];refine bW ?_;refine pJ (Gk false d.m.bN (by omega) _) (aA) ?_
  simp only[go_sem,a8,aU,a3,a1,a4,bL,bq,aX];repeat' first|refine bW ?_|(refine bD ?_ ?_<;>intro h<;>try exact bB h)|fail
  refine pJ ((aDA d.m.bN (fun s=>decide (s.n=c.n)) (G.length+2) 1 d.m.bN.length d.m.bN.length rfl (bk _) (by omega) (fun dt=>ao dt G.length=.cells 0 [.ref i 0 0]∧ao dt i=.cells 0 [.sl false (d.m.log.entries.map de),.sl false (d.m.log.nodes.map aW),.int .i64 d.m.seen,.int .i64 d.m.rep,.osl 2 (G.length+1) 1 0 (d.m.cj.filter (fun s=> !decide (s.n=c.n))).length d.m.cj.length,.sl false (d.m.bN.map bU),.int .i64 d.m.next,
 .int .i64 d.a.err,.str d.a.data,.sl false (d.a.names.map I.str),.int .i64 d.a.n,.sl false (d.a.events.map ct),
 .int .i64 c.kind,.str c.path,.str c.to,.str c.data,.int .i64 c.n,.osl 7 j (d.ops.length+1) 0 d.ops.length d.ops.length]) (fun dt b h=>⟨bM h.1 (by omega) b,bM h.2 (by omega) b⟩) (fun dt L h=>⟨bQ h.1 trivial L,bQ h.2 trivial L⟩) _
   (fn:=.func 135) (fs:=[]) (cs:=[.ref G.length 0 0]) (by first|(simp only[go_sem,a8,aU,a3,a1,a4,bL,bq,aX];done)|(simp only[go_sem,a8,aU,a3,a1,a4,bL,bq,aX];rfl)) (fun s dt aJ=>Or.inl ⟨(aA),S4 G.length aJ.1 aJ.2 s⟩) ⟨(by first|(simp only[go_sem,a8,aU,a3,a1,a4,bL,bq,aX];done)|(simp only[go_sem,a8,aU,a3,a1,a4,bL,bq,aX];rfl)),(by first|(simp only[go_sem,a8,aU,a3,a1,a4,bL,bq,aX];done)|(simp only[go_sem,a8,aU,a3,a1,a4,bL,bq,aX];rfl))⟩).PD (by simp[aX])) (aA) ?_
  simp only[go_sem,a8,aU,a3,a1,a4,bL,bq,aX];refine bW ?_;refine He aa rfl rfl rfl ?_;unfold fv;repeat' first|exact gY|refine dV ?_ ?_|exact .cl _ (.int _ _)|exact .cl _ (.str _)|exact .cl _ (DV _ _ _)|exact .cl _ (DU _ _ _)|exact .cl _ (DW _ _ _)|exact .cl _ (DX _ _ _)|exact .cl _ (DY _ _ _)|exact .cl _ (DZ _ _ _)|exact .cl _ (.osl _ _ _ _ _ _ cO)
  ·exact tV (by omega) (by first|(simp only[go_sem,a8,aU,a3,a1,a4,bL,bq,aX];done)|(simp only[go_sem,a8,aU,a3,a1,a4,bL,bq,aX];rfl)) rfl (fun _=>rfl) (fun x=>by simp only[go_sem])
  ·exact tV (by omega) (by first|(simp only[go_sem,a8,aU,a3,a1,a4,bL,bq,aX];done)|(simp only[go_sem,a8,aU,a3,a1,a4,bL,bq,aX];rfl)) rfl (fun _=>rfl) (fun x=>by simp only[go_sem])
end
section
variable {P:Program}
@[go_sem] theorem aQN(all os:List Oper)(pp:List cR)(k:Nat)(fs:List Bool)(α:a5)(H:ab)(bI:List ab)(b6:g2)(dM:a5->ab->Prop)(dst:Option Tmp)(ty t:TypeId)(pos:String)(after:Array Edge)(x:Array (Nat×Operand)):
  et P all (.eff fs::pp) (⟨dst,.build t x,ty,pos,after,none⟩::os) k α H bI b6 dM=((cn P (.build t x) (bb α) H).s∧qT fs b6 (cn P (.build t x) (bb α) H).H∧et P all pp os (k+1) (cY dst (cn P (.build t x) (bb α) H).v α) (cn P (.build t x) (bb α) H).H (H::bI) (mO fs b6) dM):=
 Nu (A:=(cn P (.build t x) (bb α) H).s) (b:=(cn P (.build t x) (bb α) H).v) (G:=(cn P (.build t x) (bb α) H).H) (W:=fun H1=>qT fs b6 H1) (X:=fun v H1=>et P all pp os (k+1) (cY dst v α) H1 (H::bI) (mO fs b6) dM)
end
section
def Pv:List cR:=[.pure 0,.pure 0,.eff [false,true],.pure 1,.pure 1,.eff [false,true,true],.eff [true,true],.eff [true,true],.eff [true,true],.free]
def F7:List cR:=[.free,.free,.pure 0,.pure 0,.pure 0,.pure 0,.pure 0,.free,.eff [true,false,true,true,true],.pure 0,.pure 0,.pure 0,.eff [false,true,true,false,false,false,false]]
attribute [go_sem] Pv F7
theorem Sg(b:Bool)(l:List cM)(hl:l.length<=1073741824)(H:ab):
  c5 Tryz.prog 157 [.sl b (l.map a6)] H (fun v H'=>v=.osl 2 H.length 1 0 l.length l.length∧H'=H++[.cells 1 (aI a6 l)]):=by
 refine pD Tryz.func157 ?_;have eM:∀n,dp n (.cells 1 (aI a6 l)):=fun n=>yN (fun x=>by simp only[go_sem]) n 1 l
 have fin:∀v H',v=.osl 2 H.length 1 0 l.length l.length->H'=H++[.cells 1 (aI a6 l)]->∃H1 L y,H'=H1++L∧H.length<=H1.length∧(∀(i:Nat) (b:bu),H1[i]?=some b->H[i]?=some b∨dp H1.length b)∧cQ H1.length H' v y∧
   y=.osl 2 H.length 1 0 l.length l.length∧H1=H++[.cells 1 (aI a6 l)]:=by
  rintro v H' rfl rfl;exact⟨_,[],_,(b2 _).symm,by simp,wT fun b aa=>by(rw[dA]at aa;subst aa;exact eM _),.cl _ (.osl _ _ _ _ _ _ (by simp)),rfl,rfl⟩
 have eu:List.flatMap I.cells (l.map a6)=aI a6 l:=rfl;refine aT ?_;intro c al;cases c with
 |true=>
  have lZ:l=[]:=by
   cases l with
   |nil=>rfl
   |cons x l=>exact absurd (al (by simp)) (by decide)
  subst lZ;repeat' first|(refine ad ?_;simp only[go_sem])|refine bx ?_|fail
  refine ly rfl (fun _=>?_) (fun h=>by cases h)
  refine w6 ?_;refine qn rfl ?_;simp only[go_sem];refine sF 2 2 rfl ?_;repeat' first|(refine ad ?_;simp only[go_sem])|refine af ?_|fail
  exact fin _ _ rfl rfl
 |false=>
  clear al;have kP:(∀e∈l.map a6,e.cells.length=2)=True:=bJ fun e he=>by(obtain⟨x,_,rfl⟩:=bP.1 he;rfl)
  have kT:(l.length * 16<=140737488355328)=True:=bJ (by omega)
  repeat' first|(refine ad ?_;simp only[go_sem,kP,eu,kT,DK,true_or])|refine af ?_|fail
  exact fin _ _ rfl rfl
def qK(n:Nat)(f1 f2:Bool)(t:eS):ab:=[.cells 0 (fN f1 f2 t).cells,.cells 1 (aI a6 t.held),.cells 1 (aI a6 t.waits),.cells 0 [.osl 2 (n+1) 1 0 t.held.length t.held.length,.osl 2 (n+2) 1 0 t.waits.length t.waits.length]]
theorem LC(f1 f2:Bool)(t:eS)(h1:t.held.length<=1000000)(h2:t.waits.length<=1000000)(H:ab):
  c5 Tryz.prog 109 [fN f1 f2 t] H (fun v H'=>v=.ref (H.length+3) 0 0∧H'=H++qK H.length f1 f2 t):=by
 refine pD Tryz.func109 ?_;have kv:=mT [(1,Pv)];refine b0 fN.eq_1 ?_;refine pJ (Sg f1 t.held (by omega) _) (aA) ?_
 have gC:=dE (enc:=a6) (s:=2) (fun _=>rfl) t.held
 have iI:=dE (enc:=a6) (s:=2) (fun _=>rfl) t.waits
 simp only[go_sem];repeat' first|((first|refine mx [1] Pv ?_|refine ad ?_);simp only[go_sem,fN])|refine af ?_|fail
 refine pJ (Sg f2 t.waits (by omega) _) (aA) ?_
 simp only[go_sem];refine b0 fN.eq_1 ?_;refine⟨_,[],_,(b2 _).symm,by simp,wT fun b aa=>?_,.cl _ (.ref _ _ _ (by simp)),rfl,rfl⟩
 have Wj:∀(n v:Nat) (l:List cM),dp n (.cells v (aI a6 l)):=fun n v l=>yN (fun x=>by simp only[go_sem]) n v l
 simp only[c7,jB,jD]at aa;rcases aa with rfl|rfl|rfl|rfl
 ·intro x J;simp only[c7,jB,jD]at J;rcases J with rfl|rfl
  ·exact(bO.sl _ _ fun e he=>by(obtain⟨x,_,rfl⟩:=bP.1 he;simp only[go_sem])).cl _
  ·exact(bO.sl _ _ fun e he=>by(obtain⟨x,_,rfl⟩:=bP.1 he;simp only[go_sem])).cl _
 ·exact Wj _ _ _
 ·exact Wj _ _ _
 ·intro x J;simp only[c7,jB,jD]at J;rcases J with rfl|rfl
  ·exact .osl _ _ _ _ _ _ (by simp)
  ·exact .osl _ _ _ _ _ _ (by simp)
def BP(r:eS×Bool):I:=.a0 [fN false false r.1,.bool r.2]
theorem HV{n:Nat}{H:ab}(t:eS){a b:I}(aD:cQ n H a (.sl false (t.held.map a6)))(aa:cQ n H b (.sl false (t.waits.map a6))):cQ n H (.agg [a,b]) (fN false false t):=.agg _ _ rfl (dV aD (dV aa gY))
theorem yO{n i v k lc:Nat}{H:ab}{cs:List I}(D:List cM)(ag:n<=i)(ah:ao H i=.cells v cs)(al:cs=aI a6 D)(hk:D.length=k):cQ n H (.osl 2 i v 0 k lc) (.sl false (D.map a6)):=
 tV ag (by rw[ah,al]) hk (fun _=>rfl) (fun x=>by simp only[go_sem])
theorem S5(l:List cM)(p:cM->Bool)(i v lc n:Nat)(ag:n=l.length)(gE:n<=lc)(hl:n<=1073741824){fn:Fn}{fs cs:List I}(H:ab)(ah:ao H i=.cells v (aI a6 l))
  (an:∀x,h6 Tryz.prog (.func fn fs cs) [a6 x] H (fun r dt=>r=.bool (p x)∧dt=H)):
  aY Tryz.prog 104 [.osl 2 i v 0 n lc,.func fn fs cs] H (.int .i64 (eg p l)):=by
 refine bh Tryz.func104 ?_;have g4:(aI a6 l).length=n * 2:=by rw[dE (s:=2) (fun _=>rfl),ag]
 have dF:=an;simp only[a6]at dF;repeat' first|(refine ad ?_;simp only[go_sem,ah])|refine af ?_|fail
 refine b5 (ι:=Nat) (fun k=>[(0,.osl 2 i v 0 n lc),(1,.func fn fs cs),(7,.int .i64 n),(8,.int .i64 k)]) (fun _=>H) (fun k=>k<=n∧∀q (hk:q<k) (eb:q<l.length),p l[q]=false) (fun k=>n-k) 0 ⟨bG _,fun q hk=>by omega⟩ ?_ rfl ?_
 ·simp[go_sem]
 ·rintro k ⟨hk,bX⟩;by_cases ak:k<l.length
  ·have ae:=om (enc:=a6) (s:=2) (fun _=>rfl) ak
   simp only[a6,I.cells]at ae;have aH:decide ((k:Int)<(n:Int))=true:=b1;have hw:=dW ak (by omega)
   refine bW ?_;refine sH (dF l[k]) ?_;simp only[go_sem];repeat' first|refine aT ?_|(refine bD ?_ ?_<;>intro h<;>try exact bB h)|fail
   ·exact bC (.of (by rw[pN p l k ak (fun q aS=>bX q aS (by omega)) (by assumption)]))
   ·refine⟨k+1,⟨by omega,fun q aS iK=>?_⟩,by omega,bH _ hw⟩
    by_cases e:q=k
    ·subst e;assumption
    ·exact bX q (by omega) (by omega)
  ·have cv:k=n:=by omega
   subst cv;have aH:decide ((k:Int)<(k:Int))=false:=by simp
   refine bW ?_;exact bC (.of (by rw[pO p l fun q hk=>bX q (by omega) hk]))
theorem aE3(l:List cM)(p:cM->Bool)(i v lc n:Nat)(ag:n=l.length)(gE:n<=lc)(hl:n<=1073741824){fn:Fn}{fs cs:List I}(H:ab)(ah:ao H i=.cells v (aI a6 l))
  (an:∀x,h6 Tryz.prog (.func fn fs cs) [a6 x] H (fun r dt=>r=.bool (p x)∧dt=H)):
  aY Tryz.prog 112 [.osl 2 i v 0 n lc,.func fn fs cs] H (.bool (l.any p)):=by
 refine bh Tryz.func112 ?_;have J:=S5 l p i v lc n ag gE hl H ah an;repeat' first|((first|refine ea (J) (aA) ?_|refine ep (J) (aA) ?_|refine er (fun _=>J) (aA) ?_|refine ad ?_);simp only[go_sem])|refine af ?_|fail
 exact bC (.of (by rw[yx]))
theorem aE4{i:Nat}{w:cM}{G:ab}(hi:ao G i=.cells 0 (a6 w).cells)(s:cM):aY Tryz.prog 111 [a6 s,.ref i 0 0] G (.bool (decide (s=w))):=by
 refine bh Tryz.func111 ?_;have iJ:=bz hi trivial;simp only[a6,I.cells]at hi iJ;refine b0 a6.eq_1 ?_;exact bo (.of (by cases s;cases w;simp))
theorem aGD(f1 f2:Bool)(t:eS)(n k:Int)(h1:t.held.length<=1000000)(h2:t.waits.length<=1000000)(H:ab):aY Tryz.prog 78 [fN f1 f2 t,.int .i64 n,.int .i64 k] H (BP (v8 t n k)):=by
 refine bh Tryz.func78 ?_;have Og:=aAh f1 f2 t k;have mh:=LC f1 f2 t h1 h2;simp only[fN,It]at Og mh;have gC:=dE (enc:=a6) (s:=2) (fun _=>rfl) t.held
 have iI:=dE (enc:=a6) (s:=2) (fun _=>rfl) t.waits
 repeat' first|(refine ad ?_;simp only[go_sem,fN])|refine af ?_|fail
 refine c6 (mh _) (aA) ?_;rintro v H' ⟨rfl,rfl⟩;unfold qK fN;simp only[go_sem];unfold v8;cases an:uk t.held k with
 |none=>
  rw[an]at Og;repeat' first|((first|refine mx [7,11] F7 ?_|refine ad ?_);simp only[go_sem,gC,iI])|refine af ?_|fail
  refine⟨⟨fun e he=>by rw[he];rfl,by omega⟩,?_⟩
  repeat' first|(refine ad ?_;simp only[go_sem,gC,iI])|refine af ?_|fail
  exact⟨_,BP (⟨t.held++[⟨k,n⟩],t.waits⟩,true),rfl,.a0 _ _ rfl (dV (HV ⟨t.held++[⟨k,n⟩],t.waits⟩ (yO _ (by omega) (by simp only[go_sem];try rfl) (iu ..).symm (by simp)) (yO _ (by omega) (by simp only[go_sem];try rfl) rfl rfl)) (dV (.cl _ (.bool _)) gY)),rfl⟩
 |some j=>
  rw[an]at Og;by_cases aw:j=n
  ·have fH:decide (j=n)=true:=cF aw;simp only[aF aw];repeat' first|((first|refine mx [7,11] F7 ?_|refine ad ?_);simp only[go_sem,gC,iI,fH,oJ])|refine af ?_|fail
   exact⟨_,BP (t,true),rfl,.a0 _ _ rfl (dV (HV t (yO _ (by omega) (by simp only[go_sem];try rfl) rfl rfl) (yO _ (by omega) (by simp only[go_sem];try rfl) rfl rfl)) (dV (.cl _ (.bool _)) gY)),rfl⟩
  ·have fH:decide (j=n)=false:=b8 aw;simp only[az aw];repeat' first|((first|refine mx [7,11] F7 ?_|refine ad ?_);simp only[go_sem,gC,iI,fH,oJ])|refine af ?_|fail
   refine ea (aE3 t.waits (fun s=>decide (s=⟨k,n⟩)) (H.length+4) 1 t.waits.length t.waits.length rfl (bk _) (by omega) _ (by simp only[go_sem]) (fun x=>Or.inl ⟨(aA),aE4 (w:=⟨k,n⟩) (by simp only[go_sem];try rfl) x⟩)) (aA) ?_
   have x9:(t.waits.any fun s=>decide (s=⟨k,n⟩))=t.waits.contains ⟨k,n⟩:=by rw[List.contains_eq_any_beq];congr 1;funext s;simp[eq_comm,Bool.beq_eq_decide_eq]
   rw[x9];cases al:t.waits.contains ⟨k,n⟩with
   |true=>
    simp only[go_sem];repeat' first|refine aT ?_|(refine bD ?_ ?_<;>intro h<;>try exact bB h)|fail
    exact⟨_,BP (t,false),rfl,.a0 _ _ rfl (dV (HV t (yO _ (by omega) (by simp only[go_sem];try rfl) rfl rfl) (yO _ (by omega) (by simp only[go_sem];try rfl) rfl rfl)) (dV (.cl _ (.bool _)) gY)),rfl⟩
   |false=>
    simp only[go_sem];repeat' first|((first|refine mx [7,11] F7 ?_|refine ad ?_);simp only[go_sem,gC,iI])|refine af ?_|fail
    refine⟨⟨fun e he=>by rw[he];rfl,by omega⟩,?_⟩
    repeat' first|(refine ad ?_;simp only[go_sem,gC,iI])|refine af ?_|fail
    exact⟨_,BP (⟨t.held,t.waits++[⟨k,n⟩]⟩,false),rfl,.a0 _ _ rfl (dV (HV ⟨t.held,t.waits++[⟨k,n⟩]⟩ (yO _ (by omega) (by simp only[go_sem];try rfl) rfl rfl) (yO _ (by omega) (by simp only[go_sem];try rfl) (iu ..).symm (by simp))) (dV (.cl _ (.bool _)) gY)),rfl⟩
end
end Go.Proofs.YthafnbmdmfoobaaGreatDoor
