/- What the functions of this seat answer (37 of 53). No condition. -/
import Derived.Test.YtnmamncmpklliaaGreatDoorWorkAQ
import Derived.Test.YtnmamncmpklliaaGreatDoorWorkAS
import Derived.Test.YtnmamncmpklliaaGreatDoorWorkBH
set_option linter.unusedSimpArgs false
set_option linter.unusedVariables false
set_option maxRecDepth 100000
set_option maxHeartbeats 16000000
namespace Go.Proofs.YtnmamncmpklliaaGreatDoor
variable{i:Nat}{n:Int}{G:ab}
open Go.Proofs.Tryz
theorem Uz:yp prog 198 bx:=Hg 2 func198
theorem aDU:yp prog 200 dy:=Hg 2 func200
theorem aK3:Ec prog 163 dy:=Lk func163 aDU
def Lo(o:Option Int):I:=.aQ [.int .i64 (o.getD 0),.bool o.isSome]
theorem Ji{α:Type}(p:α->Bool)(l:List α):(eT p l= -1/\l.find? p=none)\/∃(i:Nat) (h:i<l.length),eT p l=(i:Int)/\l.find? p=some l[i]:=by
 induction l with
 |nil=>exact .inl ⟨rfl,rfl⟩
 |cons x l J=>
  unfold eT;rw[List.find?_cons];cases ad:p x with
  |true=>exact .inr ⟨0,kk,rfl,rfl⟩
  |false=>
   rw[aj kk]
   rcases J with⟨h1,h2⟩|⟨i,hi,h1,h2⟩
   ·rw[aA h1];exact .inl ⟨rfl,h2⟩
   ·rw[aj iV];exact .inr ⟨i+1,by simpa using hi,iV,by simpa using h2⟩
theorem aFR(hi:ay G i=.cells 0 [.int .i64 n])(s:dx):aM prog 199 [bx s,.ref i 0 0] G (.bool<|decide (s.aU=n)):=by
 refine aZ func199 ?_;have J:=bC hi trivial;refine bP bx.eq_1 ?_;exact aV<|.refl _
theorem aDV(hi:ay G i=.cells 0 [.int .i64 n])(s:dx):aM prog 257 [bx s,.ref i 0 0] G (.bool<|decide (s.lock=n)):=by
 refine aZ func257 ?_;have J:=bC hi trivial;refine bP bx.eq_1 ?_;exact aV<|.refl _
theorem aFS(hi:ay G i=.cells 0 [.int .i64 n])(s:mK):aM prog 164 [dy s,.ref i 0 0] G (.bool<|decide (s.aU=n)):=by
 refine aZ func164 ?_;have J:=bC hi trivial;refine bP dy.eq_1 ?_;exact aV<|.refl _
theorem aGy(f1 f2:Bool)(t:fl)(n:Int)(H:ab):aM prog 161 [fB f1 f2 t,.int .i64 n] H (Lo<|vc t.waits n):=by
 refine aZ func161 ?_;have J:∀G,ay G (H.length+1)=.cells 0 [.int .i64 n]->aM prog 198 [.sl f2 (t.waits.map bx),.func (.func 199) [] [.ref (H.length+1) 0 0]] G (.int .i64<|eT (λs=>decide (s.aU=n)) t.waits):=
  λG h=>Uz f2 t.waits (.func 199) [] [.ref (H.length+1) 0 0] (λs=>decide<|s.aU=n) G (λs=>.mk (first:=[]) (λL=>aFR (b3 h trivial L) s) aK)
 unfold vc;rcases Ji (λs:dx=>decide<|s.aU=n) t.waits with⟨h1,h2⟩|⟨i,hi,h1,h2⟩
 ·rw[h1]at J;rw[h2];repeat' first|((first|refine hY (J _<|by simp only[go_sem,fB,Int.reduceLT]) aK ?_|refine kf (J _<|by simp only[go_sem,fB,Int.reduceLT]) aK ?_|refine kg (λ_=>J _<|by simp only[go_sem,fB,Int.reduceLT]) aK ?_|refine ae ?_);simp only[go_sem,fB,Int.reduceLT])|refine ao ?_|fail
  exact aV<|.refl _
 ·rw[h1]at J;rw[h2];have U:decide ((i:Int)<0)=false:=cQ;have ad:=di bx hi;simp only[bx]at ad;repeat' first|((first|refine hY (J _<|by simp only[go_sem,fB,U,ad]) aK ?_|refine kf (J _<|by simp only[go_sem,fB,U,ad]) aK ?_|refine kg (λ_=>J _<|by simp only[go_sem,fB,U,ad]) aK ?_|refine ae ?_);simp only[go_sem,fB,U,ad])|refine ao ?_|fail
  exact aV<|.refl _
theorem aFT(f1 f2:Bool)(t:fl)(n:Int)(H:ab):aM prog 227 [fB f1 f2 t,.int .i64 n] H (Lo<|w0 t.held n):=by
 refine aZ func227 ?_;have J:∀G,ay G (H.length+1)=.cells 0 [.int .i64 n]->aM prog 198 [.sl f1 (t.held.map bx),.func (.func 257) [] [.ref (H.length+1) 0 0]] G (.int .i64<|eT (λs=>decide (s.lock=n)) t.held):=
  λG h=>Uz f1 t.held (.func 257) [] [.ref (H.length+1) 0 0] (λs=>decide<|s.lock=n) G (λs=>.mk (first:=[]) (λL=>aDV (b3 h trivial L) s) aK)
 unfold w0;rcases Ji (λs:dx=>decide<|s.lock=n) t.held with⟨h1,h2⟩|⟨i,hi,h1,h2⟩
 ·rw[h1]at J;rw[h2];repeat' first|((first|refine hY (J _<|by simp only[go_sem,fB,Int.reduceLT]) aK ?_|refine kf (J _<|by simp only[go_sem,fB,Int.reduceLT]) aK ?_|refine kg (λ_=>J _<|by simp only[go_sem,fB,Int.reduceLT]) aK ?_|refine ae ?_);simp only[go_sem,fB,Int.reduceLT])|refine ao ?_|fail
  exact aV<|.refl _
 ·rw[h1]at J;rw[h2];have U:decide ((i:Int)<0)=false:=cQ;have ad:=di bx hi;simp only[bx]at ad;repeat' first|((first|refine hY (J _<|by simp only[go_sem,fB,U,ad]) aK ?_|refine kf (J _<|by simp only[go_sem,fB,U,ad]) aK ?_|refine kg (λ_=>J _<|by simp only[go_sem,fB,U,ad]) aK ?_|refine ae ?_);simp only[go_sem,fB,U,ad])|refine ao ?_|fail
  exact aV<|.refl _
theorem VW(f:Bool)(g:nU)(n:Int)(H:ab):aM prog 117 [kK f g,.int .i64 n] H (.bool<|iE g n):=by
 refine aZ func117 ?_;have J:∀G,ay G (H.length+1)=.cells 0 [.int .i64 n]->aM prog 163 [.sl f (g.waits.map dy),.func (.func 164) [] [.ref (H.length+1) 0 0]] G (.bool<|iE g n):=
  λG h=>aK3 f g.waits (.func 164) [] [.ref (H.length+1) 0 0] (λs=>decide<|s.aU=n) G (λs=>.mk (first:=[]) (λL=>aFS (b3 h trivial L) s) aK)
 repeat' first|((first|refine hY (J _<|by simp only[go_sem,kK]) aK ?_|refine kf (J _<|by simp only[go_sem,kK]) aK ?_|refine kg (λ_=>J _<|by simp only[go_sem,kK]) aK ?_|refine ae ?_);simp only[go_sem,kK])|refine ao ?_|fail
 exact aV<|.refl _
def XP(g:nU):Int:=g.waits.foldl (λu w=>max u w.upto)<|(g.waits.head?.map (·.upto)).getD 0
def Px(g:nU):I:=.aQ [.int .i64 ((zD g).getD 0),.int .i64<|XP g,.bool (zD g).isSome]
theorem aIW(f:Bool)(g:nU)(H:ab):aM prog 162 [kK f g] H (Px g):=by
 refine OU λO=>?_
 have hl:g.waits.length<=9223372036854775807:=by
  have:=oi<|XH O (.sl f (g.waits.map dy)) kk
  rwa[cv]at this
 refine aZ func162 ?_;unfold Px zD XP;by_cases af:g.waits=[]
 ·rw[af];refine bP kK.eq_1 ?_;exact aV<|.refl _
 ·have J:0<g.waits.length:=pe.2 af;have d0:decide ((g.waits.length:Int)=0)=false:=cQ;have U:=di dy J;have T:g.waits.head?=some g.waits[0]:=List.head?_eq_getElem? .. ▸da J;rw[T];obtain⟨V,Z⟩:∃w,w=g.waits[0]:=⟨_,rfl⟩;rw[<-Z]at U ⊢;simp only[dy]at U;repeat' first|(refine ae ?_;simp only[go_sem,kK,d0,U,J])|refine ao ?_|fail
  refine cE (ι:=Nat×ab) (λs=>[(1,.ref H.length 0 0),(5,.int .i64<|(g.waits.take s.1).foldl (λu w=>max u w.upto) V.upto),(18,.sl f<|g.waits.map dy),(19,.int .i64 g.waits.length),(20,.int .i64 s.1)])
   (λs=>H++(.cells 0 [.int .i64 g.kept,.sl f<|g.waits.map dy]::s.2)) (λs=>s.1<=g.waits.length) (λs=>g.waits.length-s.1) (0,[]) (bW _) ?_ rfl ?_
  ·simp[go_sem]
  rintro⟨i,M⟩ hi;simp only at hi ⊢;obtain⟨G,aW⟩:∃G,H++(.cells 0 [.int .i64 g.kept,.sl f<|g.waits.map dy]::M)=G:=⟨_,rfl⟩;rw[aW];have g0:ay G H.length=.cells 0 [.int .i64 g.kept,.sl f<|g.waits.map dy]:=by rw[<-aW];simp only[go_sem]
  have g1:=bC g0 trivial;by_cases K:i<g.waits.length
  ·have ad:=di dy K;simp only[dy]at ad;have I:decide ((i:Int)<(g.waits.length:Int))=true:=cK;refine hH ?_;exact⟨(i+1,M++[.cells 0 [.int .i64 g.waits[i].aU,.int .i64 g.waits[i].upto]]),K,by simp only;omega,⟨by rw[fj K,u0];rfl,bU _<|by rw[bI];rfl⟩,by rw[<-aW];simp⟩
  ·have z:i=g.waits.length:=iV
   subst z;have I:decide ((g.waits.length:Int)<(g.waits.length:Int))=false:=kk
   rw[eG];refine hH ?_;exact KI aW nb<|.refl _
def gO(x:bK)(i:Nat):List Int:=((x.aC.take i).zipIdx.filter (sj x)).map λp=>(p.2:Int)
theorem aDW(x:bK)(hi:i<x.aC.length):gO x (i+1)=gO x i++if sj x (x.aC[i],i)=true then[(i:Int)]else[]:=by
 unfold gO;rw[fj hi,List.zipIdx_append,wD,nQ,eK,uX iV]
 congr 1;simp only[List.zipIdx_cons,List.zipIdx_nil,sE,List.filter_nil,j9];split<;>simp_all
theorem UQ(x:bK):gO x x.aC.length=(jV x).map λn:Nat=>(n:Int):=by
 unfold gO jV;rw[eG,sG];rfl
theorem UR(x:bK)(i:Nat):(gO x i).length<=i:=by
 unfold gO;rw[cv];have h1:=pd (sj x) (x.aC.take i).zipIdx;rw[List.length_zipIdx,eK]at h1;omega
theorem aK4(f1 f2 f3 f4 f5 f6 f7 f8 f9:Bool)(x:bK)(af:x.aC.length<=1000)(H:ab):aM prog 116 [hx f1 f2 f3 f4 f5 f6 f7 f8 f9 x] H (.sl false<|((jV x).map λn:Nat=>(n:Int)).map bq):=by
 refine aZ func116 ?_;have z:=aIW f7 x.g;refine bP (gP hx.eq_1 kC.eq_1) ?_;obtain⟨X,cS⟩:∃X,(hx f1 f2 f3 f4 f5 f6 f7 f8 f9 x).cells=X:=⟨_,rfl⟩;have ug:=cS;simp only[hx,kC,I.cells]at ug;rw[ug];refine y2 3 1 rfl ?_;simp only[go_sem];refine cE (ι:=Nat×ab) (λs=>[(1,.ref H.length 0 0),(3,.osl 1 (H.length+1) ((gO x s.1).length+1) 0 (gO x s.1).length (gO x s.1).length),(12,.sl f8<|x.aC.map aU),(13,.int .i64 x.aC.length),(14,.int .i64 s.1)])
  (λs=>H++(.cells 0 X::.cells ((gO x s.1).length+1) ((gO x s.1).map bq)::s.2)) (λs=>s.1<=x.aC.length) (λs=>x.aC.length-s.1) (0,[]) (bW _) ?_ rfl ?_
 ·simp[go_sem,gO]
 rintro⟨i,M⟩ hi;simp only at hi ⊢;have uf:=UR x i;obtain⟨G,aW⟩:∃G,H++(.cells 0 X::.cells ((gO x i).length+1) ((gO x i).map bq)::M)=G:=⟨_,rfl⟩;have g0:ay G H.length=.cells 0 (hx f1 f2 f3 f4 f5 f6 f7 f8 f9 x).cells:=by rw[<-aW,cS];simp only[go_sem]
 have g2:ay G (H.length+1)=.cells ((gO x i).length+1) ((gO x i).map bq):=by rw[<-aW];simp only[go_sem]
 simp only[hx,kC,I.cells]at g0;by_cases K:i<x.aC.length
 ·rw[aW];have g1:=bC g0 trivial;have g3:=bC g2 trivial;have g4:=gN g2 trivial;have gs:∀Y,ar G (H.length+1) Y=H++(.cells 0 X::Y::M):=λY=>by rw[<-aW];simp only[go_sem]
  have ad:=di aU K;have O:decide ((i:Int)<(x.aC.length:Int))=true:=cK;have gQ:IntKind.i64.wrap ((i:Int)+1)=((i+1:Nat):Int):=dA K iV
  have J:=aDW x K;obtain⟨t,ah⟩:∃t,t=x.aC[i]:=⟨_,rfl⟩;rw[<-ah]at ad J;simp only[aU]at ad;have Mi:=aGy f5 f6 x.t (i:Int);have vF:=VW f7 x.g (i:Int);simp only[fB,kK,Lo,Px]at Mi vF z;have U:sj x (t,i)=false->∃y:Nat×ab,y.1<=x.aC.length/\x.aC.length-y.1<x.aC.length-i/\(I.osl 1 (H.length+1) ((gO x i).length+1) 0 (gO x i).length (gO x i).length=I.osl 1 (H.length+1) ((gO x y.1).length+1) 0 (gO x y.1).length (gO x y.1).length/\I.int .i64 (IntKind.i64.wrap<|(i:Int)+1)=.int .i64 (y.1:Int))/\G++[.cells 0 (aU t).cells]=H++(.cells 0 X::.cells ((gO x y.1).length+1) ((gO x y.1).map bq)::y.2):=λT=>by
   rw[T,aj l9,cA]at J
   exact⟨(i+1,M++[.cells 0 (aU t).cells]),K,by simp only;omega,⟨by simp only[J],bU _ gQ⟩,by simp only[J];rw[<-aW];simp⟩
  have V:sj x (t,i)=true->∃y:Nat×ab,y.1<=x.aC.length/\x.aC.length-y.1<x.aC.length-i/\(I.osl 1 (H.length+1) ((gO x i).length+2) 0 ((gO x i).length+1) ((gO x i).length+1)=I.osl 1 (H.length+1) ((gO x y.1).length+1) 0 (gO x y.1).length (gO x y.1).length/\I.int .i64 (IntKind.i64.wrap<|(i:Int)+1)=.int .i64 (y.1:Int))/\ar G (H.length+1) (.cells ((gO x i).length+2)<|(gO x i).map bq++[.int .i64 i])++[.cells 0 (aU t).cells]=H++(.cells 0 X::.cells ((gO x y.1).length+1) ((gO x y.1).map bq)::y.2):=λT=>by
   rw[T,aA rfl]at J;exact⟨(i+1,M++[.cells 0 (aU t).cells]),K,by simp only;omega,⟨by simp only[J,bF,cg,eg],bU _ gQ⟩,by simp only[J];rw[gs];simp[bq]⟩
  have Ap:((gO x i).length * 1=(gO x i).length/\(∀(e:I),e=I.int IntKind.i64 ↑i->e.cells.length=1)/\((gO x i).length+1) * 8<=140737488355328):=⟨iV,λe he=>(by rw[he];rfl),iV⟩
  simp only[aU,I.cells]at U V;cases he:t.ended with
  |true=>
   repeat' first|(refine ae ?_;simp only[go_sem,ad,O,he])|refine ao ?_|fail
   rw[he]at U;exact U<|by unfold sj;simp[he]
  |false=>
   rw[he]at U;cases hw:vc x.t.waits i with
   |some k=>
    rw[hw]at Mi;repeat' first|(refine ae ?_;simp only[go_sem,ad,O,he,g0,g1,g2,g3])|refine ao ?_|fail
    exact U<|by unfold sj;simp[hw]
   |none=>
    rw[hw]at Mi;cases Z:iE x.g i with
    |false=>
     rw[Z]at vF;have T:sj x (t,i)=true:=by unfold sj;simp[he,hw,Z]
     repeat' first|(refine ae ?_;simp only[go_sem,ad,O,he,g0,g1,g2,g3,g4])|refine ao ?_|fail
     rw[he]at V;exact V T
    |true=>
     rw[Z]at vF;repeat' first|(refine ae ?_;simp only[go_sem,ad,O,he,g0,g1,g2,g3,g4])|refine bt ?_|(refine bB ?_ ?_<;>intro h<;>try exact bA h)|fail
     ·refine U ?_;unfold sj;simp only[Bool.or_eq_true,sB,wG]at h;have:¬zD x.g=some (i:Int):=λe=>by rw[e]at h;simp at h
      simp[he,hw,Z,this]
     ·rw[he]at V;refine V ?_;unfold sj;simp only[Bool.or_eq_false_iff,Bool.not_eq_false',gU]at h;have:zD x.g=some (i:Int):=by
       obtain⟨h1,h2⟩:=h;cases hl:zD x.g with
       |none=>rw[hl]at h1;cases h1
       |some k=>rw[hl]at h2;simp only[pW]at h2;rw[h2]
      simp[he,hw,Z,this]
 ·have eV:i=x.aC.length:=iV
  subst eV;have O:decide ((x.aC.length:Int)<(x.aC.length:Int))=false:=kk
  rw[aW];refine hH ?_;refine⟨_,_,aW.symm,q3 (es:=(gO x x.aC.length).map bq) (rest:=[]) iV g2 (by rw[xx,cA]) (by rw[cv]) (λe he=>?_) λe he=>?_,by rw[UQ]⟩
  ·obtain⟨n,_,rfl⟩:=bJ.1 he;rfl
  ·obtain⟨n,_,rfl⟩:=bJ.1 he;simp only[bq,go_sem]
def K8(x:bK)(p:Int):I:=match uQ x p with
 |none=>.aQ [.int .i64 0,.bool false,.bool false]
 |some n=>.aQ [.int .i64 n,.bool<|iE x.g n,.bool true]
theorem aIX{p:Int}{n:Nat}(af:0<n)(h2:n<=1000):(IntKind.i64.wrap (p.tmod n+n)).tmod n=p % n:=by
 have aw:(0:Int)<n:=iV
 have J:=Int.tmod_lt_of_pos p aw;have a2: -(n:Int)<p.tmod n:=Int.lt_tmod_of_pos p aw;rw[wrap_i64 (n:=p.tmod n+n) iV iV,Bf iV,Int.add_emod_right,Int.tmod_eq_emod]
 split
 ·simp
 ·rw[Int.sub_emod];simp
theorem Xo(f1 f2 f3 f4 f5 f6 f7 f8 f9:Bool)(x:bK)(p:Int)(af:x.aC.length<=1000)(H:ab):aM prog 68 [hx f1 f2 f3 f4 f5 f6 f7 f8 f9 x,.int .i64 p] H (K8 x p):=by
 refine aZ func68 ?_;have J:=aK4 f1 f2 f3 f4 f5 f6 f7 f8 f9 x af;unfold K8 uQ;by_cases aw:jV x=[]
 ·rw[aA aw];rw[aw]at J;simp only[hx,kC]at J;refine bP (gP hx.eq_1 kC.eq_1) ?_;exact aV<|.refl _
 ·rw[aj aw];have hl:0<(jV x).length:=pe.2 aw;have K:(jV x).length<=1000:=by
   have:=UR x x.aC.length;rw[UQ,cv]at this;omega
  have d0:decide (((jV x).length:Int)=0)=false:=cQ;simp only[hx,kC]at J;have h1:0<=p % ((jV x).length:Int):=Int.emod_nonneg _ iV
  have h2:p % ((jV x).length:Int)<(jV x).length:=Int.emod_lt_of_pos _ iV
  obtain⟨k,hk⟩:∃k:Nat,p % ((jV x).length:Int)=k:=⟨_,(F7 h1).symm⟩;have U:k<(jV x).length:=iV
  have hw:=aIX (p:=p) hl K;rw[hk]at hw ⊢;have ad:((((jV x).map λn:Nat=>(n:Int)).map bq).getD k I.top)=.int .i64 ((jV x)[k]:Nat):=by
   rw[et,mF,mF,da U];rfl
  have O:(jV x).getD ((k:Int)).toNat 0=(jV x)[k]:=by rw[e5,et,da U];rfl
  simp only[O];have T:=VW f7 x.g ((jV x)[k]:Nat);simp only[kK]at T;refine bP (gP hx.eq_1 kC.eq_1) ?_;exact aV<|.refl _
end Go.Proofs.YtnmamncmpklliaaGreatDoor
