/- What the functions of this seat answer (19 of 40). No condition. -/
import Derived.Test.YthafnbmdmfoobaaGreatDoorWorkAM
import Derived.Test.YthafnbmdmfoobaaGreatDoorWorkAN
import Derived.Test.YthafnbmdmfoobaaGreatDoorWorkAP
set_option linter.unusedSimpArgs false
set_option linter.unusedVariables false
set_option maxRecDepth 100000
set_option maxHeartbeats 16000000
namespace Go.Proofs.YthafnbmdmfoobaaGreatDoor
section
def En(b:aM):Option ((Int×Int×Int×Int)×aM):=
 (hb b).bind fun(c,aV)=>(hb aV).bind fun(r,bm)=>(hb bm).bind fun(k,iE)=>(hb iE).bind fun(fq,ir)=>some ((c,r,k,fq),ir)
def Mu(b:aM):I:=match sU b with
 |none=>.a0 [bY aLf,.str [],.int .i64 50]
 |some (o,r)=>.a0 [bY o,.str r,.int .i64 0]
def Mv(b:aM):I:=match oB b with
 |none=>.a0 [.sl true [],.int .i64 50]
 |some l=>.a0 [.sl false (l.map bY),.int .i64 0]
theorem Gn{b t r:aM}(h:uj b=some (t,r)):t.length<=b.length∧r.length<b.length:=by
 unfold uj at h;cases aL:hb b with
 |none=>rw[aL]at h;cases h
 |some p=>
  obtain⟨n,s⟩:=p;rw[aL]at h;simp only at h;have:=tl aL;split at h
  ·cases h
  ·cases h;rw[e8,gL];omega
theorem aCj(b:aM):sU b=(En b).bind fun((c,r,k,fq),ir)=>
  if k=1 then(hb ir).bind fun(p,oQ)=>(uj oQ).bind fun(t,qm)=>if dk ⟨⟨c,r⟩,k,fq,p,t,[]⟩=true then some (⟨⟨c,r⟩,k,fq,p,t,[]⟩,qm)else none
  else(uj ir).bind fun(t,qm)=>if dk ⟨⟨c,r⟩,k,fq,0,[],t⟩=true then some (⟨⟨c,r⟩,k,fq,0,[],t⟩,qm)else none:=by
 unfold sU En;cases hb b with
 |none=>rfl
 |some x=>
  simp only[lb];cases hb x.2 with
  |none=>rfl
  |some y=>
   simp only[lb];cases hb y.2 with
   |none=>rfl
   |some z=>
    simp only[lb];cases hb z.2<;>rfl
theorem Qk{b r:aM}{o:bf}(h:sU b=some (o,r)):r.length<b.length:=by
 unfold sU at h;simp only[xn]at h;obtain⟨⟨c,aV⟩,h1,⟨aLC,bm⟩,h2,⟨k,iE⟩,h3,⟨fq,ir⟩,h4,h⟩:=h;have cu:=tl h1;have dC:=tl h2;have rG:=tl h3;have F3:=tl h4;simp only at h dC rG F3;split at h
 ·simp only[xn]at h;obtain⟨⟨p,oQ⟩,cz,⟨t,qm⟩,eK,h⟩:=h;have aKT:=tl cz;have WS:=(Gn eK).2;simp only at h WS;split at h
  ·cases h;omega
  ·cases h
 ·simp only[xn]at h;obtain⟨⟨t,qm⟩,eK,h⟩:=h;have WS:=(Gn eK).2;simp only at h;split at h
  ·cases h;omega
  ·cases h
theorem Y3:∀(n k:Nat) (b:aM),b.length<=n->b.length<=k->qH k b=qH b.length b:=by
 intro n;induction n with
 |zero=>intro k b h _;rw[jg (by omega:b.length=0)];cases k<;>rfl
 |succ n ay=>
  intro k b h hk;cases b with
  |nil=>cases k<;>rfl
  |cons x b=>
   rw[cm]at h hk;obtain⟨k,rfl⟩:∃m,k=m+1:=⟨k-1,by omega⟩
   rw[cm,qH,qH,az (by simp),az (by simp)]
   cases aj:sU (x::b)with
   |none=>rfl
   |some p=>
    obtain⟨o,r⟩:=p;have:=Qk aj;rw[cm]at this;simp only[lb];rw[ay k r (by omega) (by omega),ay b.length r (by omega) (by omega)]
theorem Y4{b:aM}(h:b≠[]):oB b=(sU b).bind fun(o,r)=>(oB r).map (o::·):=by
 cases b with
 |nil=>exact absurd rfl h
 |cons x b=>
  unfold oB;rw[cm,qH,az (by simp)]
  cases aj:sU (x::b)with
  |none=>rfl
  |some p=>
   obtain⟨o,r⟩:=p;have:=Qk aj;rw[cm]at this;simp only[lb];rw[Y3 _ b.length r (bk _) (by omega)]
theorem aDj{α:Type}{enc:α->I}{s n i v k lc:Nat}{H:ab}{D:List α}(ag:n<=i)(ah:ao H i=.cells v (aI enc D))(hk:D.length=k)(hs:∀x,(enc x).cells.length=s)(ae:∀x,bO (enc x)):cQ n H (.osl s i v 0 k lc) (.sl false (D.map enc)):=
 sG (es:=D.map enc) (rest:=[]) ag ah (b2 _).symm (by rw[cP,hk]) (fun e he=>by(obtain⟨x, -,rfl⟩:=bP.1 he;exact hs x)) (fun e he=>by(obtain⟨x, -,rfl⟩:=bP.1 he;exact ae x))
theorem aCk(b:aM)(aa:b.length<=1073741824)(f:Bool)(i:Nat)(fG cc cI gZ th EJ:I)(x:Int)(H:ab)(ah:ao H i=.cells 0 [fG,cc,cI,gZ,.int .i64 x,th,EJ]):
  c5 Tryz.prog 204 [.str b,.sl f [.ref i 0 4]] H (fun r H'=>(hb b=none∧r=.a0 [.str [],.bool false]∧H'=H)∨∃p rest,hb b=some (p,rest)∧r=.a0 [.str rest,.bool true]∧H'=ai H i (.cells 0 [fG,cc,cI,gZ,.int .i64 p,th,EJ])):=by
 refine uM Tryz.func204 ?_;have ak:=c8 ah trivial;have s1:=fun b=>dT ak b
 have s2:=iQ H i;have c4:IntKind.i64.wrap (0+1)=1:=rfl;have aj:=LX b aa;unfold zg at aj;refine aT ?_;refine tk 2 ?_;unfold qx;cases h1:hb b with
 |none=>
  simp only[h1]at aj;refine bW ?_;first|trivial|exact .inl trivial|exact .inl ⟨rfl,rfl,rfl⟩
 |some p=>
  obtain⟨p,rest⟩:=p;simp only[h1]at aj;refine bW ?_;exact .inr ⟨p,rest,rfl,rfl,rfl⟩
theorem aCl(b:aM)(aa:b.length<=1073741824)(f:Bool)(i:Nat)(mZ th EJ:I)(jz fr dZ gh:Int)(H:ab)(ah:ao H i=.cells 0 [.int .i64 jz,.int .i64 fr,.int .i64 dZ,.int .i64 gh,mZ,th,EJ]):
  c5 Tryz.prog 204 [.str b,.sl f [.ref i 0 0,.ref i 0 1,.ref i 0 2,.ref i 0 3]] H (fun r H'=>(En b=none∧r=.a0 [.str [],.bool false]∧∃X,H'=ai H i X)∨∃C2 fK g7 kG rest,En b=some ((C2,fK,g7,kG),rest)∧rest.length<=b.length∧r=.a0 [.str rest,.bool true]∧H'=ai H i (.cells 0 [.int .i64 C2,.int .i64 fK,.int .i64 g7,.int .i64 kG,mZ,th,EJ])):=by
 refine uM Tryz.func204 ?_;have ak:=c8 ah trivial;have s1:=fun b=>dT ak b
 have s2:=iQ H i;have c4:IntKind.i64.wrap (0+1)=1:=rfl;have dm:IntKind.i64.wrap (1+1)=2:=rfl;have ee:IntKind.i64.wrap (2+1)=3:=rfl;have dH:IntKind.i64.wrap (3+1)=4:=rfl;have own:=(kr ah trivial).symm;have aL:∀b:aM,b.length<=1073741824->∀H,aY Tryz.prog 225 [.str b] H (zg b):=fun b h=>LX b h
 unfold zg at aL;unfold En;refine aT ?_;have aj:=aL b aa;refine tk 5 ?_;unfold qx;cases h1:hb b with
 |none=>
  simp only[h1]at aj;repeat' first|(refine ad ?_;simp only[go_sem,ah])|refine af ?_|fail
  first|exact .inl ⟨rfl,_,own⟩|exact .inl ⟨rfl,rfl,_,own⟩|exact .inl ⟨_,own⟩|exact⟨_,own⟩|fail "Q"
 |some p=>
  obtain⟨C2,aV⟩:=p;simp only[h1]at aj;have cu:=tl h1;repeat' first|(refine ad ?_;simp only[go_sem,ah,s1,s2,c4])|refine af ?_|fail
  have Ah:=aL aV (by omega)
  cases h2:hb aV with
  |none=>
   simp only[h2]at Ah;repeat' first|(refine ad ?_;simp only[go_sem,s1,s2])|refine af ?_|fail
   first|exact .inl ⟨by simp[h2],rfl,_,rfl⟩|exact .inl ⟨by simp[h2],_,rfl⟩|exact .inl ⟨_,rfl⟩|fail "R"
  |some p=>
   obtain⟨fK,bm⟩:=p;simp only[h2]at Ah;have dC:=tl h2;repeat' first|(refine ad ?_;simp only[go_sem,s1,s2,dm])|refine af ?_|fail
   have p0:=aL bm (by omega)
   cases h3:hb bm with
   |none=>
    simp only[h3]at p0;repeat' first|(refine ad ?_;simp only[go_sem,s1,s2])|refine af ?_|fail
    first|exact .inl ⟨by simp[h2,h3],rfl,_,rfl⟩|exact .inl ⟨by simp[h2,h3],_,rfl⟩|exact .inl ⟨_,rfl⟩|fail "R"
   |some p=>
    obtain⟨g7,iE⟩:=p;simp only[h3]at p0;have rG:=tl h3;repeat' first|(refine ad ?_;simp only[go_sem,s1,s2,ee])|refine af ?_|fail
    have FN:=aL iE (by omega)
    cases h4:hb iE with
    |none=>
     simp only[h4]at FN;repeat' first|(refine ad ?_;simp only[go_sem,s1,s2])|refine af ?_|fail
     first|exact .inl ⟨by simp[h2,h3,h4],rfl,_,rfl⟩|exact .inl ⟨by simp[h2,h3,h4],_,rfl⟩|exact .inl ⟨_,rfl⟩|fail "R"
    |some p=>
     obtain⟨kG,ir⟩:=p;simp only[h4]at FN;have F3:=tl h4;repeat' first|(refine ad ?_;simp only[go_sem,s1,s2,dH])|refine af ?_|fail
     exact .inr ⟨C2,fK,g7,kG,ir,by simp[h2,h3,h4],by omega,rfl,rfl⟩
theorem aCm(b:aM)(aa:b.length<=1073741824)(H:ab):aY Tryz.prog 180 [.str b] H (Mu b):=by
 refine bh Tryz.func180 ?_;unfold Mu;rw[aCj];refine aT ?_;refine c6 (aCl b aa true (H.length+1) (.int .i64 0) (.str []) (.str []) 0 0 0 0 _ (by simp only[go_sem])) (aA) ?_
 rintro v H' (⟨h4,rfl,X,rfl⟩|⟨c,r,k,fq,ir,h4,aSA,rfl,rfl⟩)
 ·rw[h4];simp only[go_sem];refine aT ?_;exact bo (.refl _)
 rw[h4];simp only[go_sem,lb];have fW:=RR ⟨⟨c,r⟩,k,fq,0,[],[]⟩;simp only[bY]at fW;by_cases hk:k=1
 ·subst hk;simp only[dI]at fW ⊢;repeat' first|(refine ad ?_;simp only[go_sem])|refine af ?_|fail
  refine c6 (aCk ir (by omega) true (H.length+1) (.int .i64 c) (.int .i64 r) (.int .i64 1) (.int .i64 fq) (.str []) (.str []) 0 _ (by simp only[go_sem])) (aA) ?_
  rintro v H' (⟨cz,rfl,rfl⟩|⟨q,oQ,cz,rfl,rfl⟩)
  ·rw[cz];simp only[go_sem];refine aT ?_;exact bo (.refl _)
  have aSB:=tl cz;rw[cz];simp only[go_sem,lb];repeat' first|(refine ad ?_;simp only[go_sem])|refine af ?_|fail
  have rz:=LY oQ (by omega)
  unfold Em at rz;cases J:uj oQ with
  |none=>
   simp only[J]at rz;repeat' first|(refine ad ?_;simp only[go_sem])|refine af ?_|fail
   exact bo (.refl _)
  |some p=>
   obtain⟨t,qm⟩:=p;simp only[J]at rz;have V1:=Gn J;have bl:=Ee ⟨⟨c,r⟩,1,fq,q,t,[]⟩ ⟨by simp only[ew];omega,by simp only[ew];omega⟩
   simp only[bY,lb]at bl ⊢;cases aN:dk ⟨⟨c,r⟩,1,fq,q,t,[]⟩with
   |true=>
    rw[aN]at bl;repeat' first|(refine ad ?_;simp only[go_sem])|refine af ?_|fail
    exact bo (.refl _)
   |false=>
    rw[aN]at bl;repeat' first|(refine ad ?_;simp only[go_sem])|refine af ?_|fail
    exact bo (.refl _)
 ·simp only[az hk]at fW ⊢;by_cases eb:k=2
  ·subst eb;simp only[dI]at fW;repeat' first|(refine ad ?_;simp only[go_sem])|refine af ?_|fail
   have rz:=LY ir (by omega)
   unfold Em at rz;cases J:uj ir with
   |none=>
    simp only[J]at rz;repeat' first|(refine ad ?_;simp only[go_sem])|refine af ?_|fail
    exact bo (.refl _)
   |some p=>
    obtain⟨t,qm⟩:=p;simp only[J]at rz;have V1:=Gn J;have bl:=Ee ⟨⟨c,r⟩,2,fq,0,[],t⟩ ⟨by simp only[ew];omega,by simp only[ew];omega⟩
    simp only[bY,lb]at bl ⊢;cases aN:dk ⟨⟨c,r⟩,2,fq,0,[],t⟩with
    |true=>
     rw[aN]at bl;repeat' first|(refine ad ?_;simp only[go_sem])|refine af ?_|fail
     exact bo (.refl _)
    |false=>
     rw[aN]at bl;repeat' first|(refine ad ?_;simp only[go_sem])|refine af ?_|fail
     exact bo (.refl _)
  ·simp only[az eb]at fW;repeat' first|(refine ad ?_;simp only[go_sem])|refine af ?_|fail
   have rz:=LY ir (by omega)
   unfold Em at rz;cases J:uj ir with
   |none=>
    simp only[J]at rz;repeat' first|(refine ad ?_;simp only[go_sem])|refine af ?_|fail
    exact bo (.refl _)
   |some p=>
    obtain⟨t,qm⟩:=p;simp only[J]at rz;have V1:=Gn J;have bl:=Ee ⟨⟨c,r⟩,k,fq,0,[],t⟩ ⟨by simp only[ew];omega,by simp only[ew];omega⟩
    simp only[bY,lb]at bl ⊢;cases aN:dk ⟨⟨c,r⟩,k,fq,0,[],t⟩with
    |true=>
     rw[aN]at bl;repeat' first|(refine ad ?_;simp only[go_sem])|refine af ?_|fail
     exact bo (.refl _)
    |false=>
     rw[aN]at bl;repeat' first|(refine ad ?_;simp only[go_sem])|refine af ?_|fail
     exact bo (.refl _)
theorem aCn(b:aM)(aa:b.length<=1073741824)(H:ab):aY Tryz.prog 143 [.str b] H (Mv b):=by
 refine bh Tryz.func143 ?_;refine bW ?_;refine sF 4 7 rfl ?_;refine b5 (ι:=List bf×aM×ab) (fun s=>[(0,.str s.2.1),(4,.osl 7 H.length (s.1.length+1) 0 s.1.length s.1.length)]) (fun s=>H++(.cells (s.1.length+1) (aI bY s.1)::s.2.2)) (fun s=>s.1.length+s.2.1.length<=b.length∧oB b=(oB s.2.1).map (s.1++·)) (fun s=>s.2.1.length) ([],b,[]) ⟨by simp,by simp⟩ ?_ rfl ?_
 ·simp[go_sem]
 rintro⟨acc,r,M⟩ ⟨hl,ax⟩;simp only at hl ax ⊢;unfold Mv;obtain⟨G,aT⟩:∃G,H++(.cells (acc.length+1) (aI bY acc)::M)=G:=⟨_,rfl⟩;rw[aT];have cw:ao G H.length=.cells (acc.length+1) (aI bY acc):=by rw[<-aT];simp only[go_sem]
 have aZ:=bz cw trivial;have a7:=jI cw trivial;have gs:∀X,ai G H.length X=H++(X::M):=fun X=>by rw[<-aT];simp only[go_sem]
 by_cases ag:r=[]
 ·have hd:decide (r=[])=true:=cF ag;subst ag;have Oz:oB b=some acc:=by rw[ax];simp[oB,qH]
  rw[Oz];refine bW ?_;exact⟨_,.a0 [.sl false (acc.map bY),.int .i64 0],aT.symm,.a0 _ _ rfl (dV (aDj (bk _) cw rfl (fun _=>rfl) (fun x=>by simp only[go_sem])) (dV (.cl _ (.int _ _)) gY)),rfl⟩
 have hd:decide (r=[])=false:=b8 ag;have Ov:=aCm r (by omega)
 unfold Mu at Ov;rw[Y4 ag]at ax;cases aj:sU r with
 |none=>
  simp only[aj,bY]at Ov;rw[aj]at ax;rw[show oB b=none from ax]
  refine bW ?_;exact xG aT (by simp only[go_sem]) (.refl _)
 |some p=>
  obtain⟨o,a3⟩:=p;have cO:=Qk aj;simp only[aj,bY]at Ov;have aSK:0<r.length:=vF.2 ag;have jN:(∀e,e=I.agg [.int .i64 o.at_.c,.int .i64 o.at_.r,.int .i64 o.kind,.int .i64 o.node,.int .i64 o.parent,.str o.name,.str o.data]->e.cells.length=7)=True:=bJ (fun e he=>by rw[he];rfl)
  have kT:((acc.length+1) * 72<=140737488355328)=True:=bJ (by omega)
  have eu:=dE (enc:=bY) (s:=7) (fun _=>rfl) acc
  repeat' first|(refine ad ?_;simp only[go_sem,hd,jN,kT,eu,cw,aZ,a7])|refine af ?_|fail
  refine⟨(acc++[o],a3,M++[.cells 0 (bY o).cells]),⟨by simp only[bt,cm,ew];omega,?_⟩,cO,?_⟩
  ·simp only;rw[ax,aj];simp only[lb,Option.map_map];congr 1;funext l;simp
  ·simp only[gs,bt,cm,ew,iu,pK,Hc,b2,bY,I.cells,cr,gi];refine⟨⟨?_,?_⟩,?_⟩<;>first|trivial|rfl
end
section
theorem aGl(n:Nat)(aC:0<n)(ag:n<=1048576)(H:ab):c5 Tryz.prog 280 [.sl true [],.int .i64 n] H (fun v H'=>v=.osl 1 H.length 1 0 0 n∧∃cs,cs.length=n∧H'=H++[.cells 1 cs]):=by
 refine uM Tryz.func280 ?_;have h1:decide ((n:Int)<0)=false:=cg;have h2:decide ((0:Int)<(n:Int))=true:=b1;have h3:IntKind.i64.wrap ((n:Int)-IntKind.i64.wrap 0)=n:=by rw[show IntKind.i64.wrap 0=0 from rfl,cB];omega
 have h4:(n * 8<=140737488355328)=True:=bJ (by omega)
 have cz:((0:Int)<(n:Int))=True:=bJ (by omega)
 have eK:IntKind.i64.wrap ((n:Int)-IntKind.i64.wrap (0-0))=n:=h3;repeat' first|(refine ad ?_;simp only[go_sem,h1,h2,h3,h4,cz,eK,j6,ew,Int.natCast_zero,hG,Int.toNat_zero,List.take_nil])|refine af ?_|fail
 exact⟨_,by simp[I.cells],rfl⟩
theorem Ss{H:ab}(v n:Nat)(l:List Int){B:bu}(bK:B=.cells v (l.map bj)):cQ H.length (H++[B]) (.osl 1 H.length v 0 l.length n) (.sl false (l.map bj)):=by
 subst bK;refine sG (v:=v) (cs:=l.map bj) (rest:=[]) (bk _) (by simp only[go_sem]) (by rw[va,b2]) (by rw[cP]) (yy _) (fun e he=>by obtain⟨x,_,rfl⟩:=bP.1 he;exact .int _ _)
theorem TR(l:List Int):(List.flatMap I.cells (l.map bj)).all I.one=true:=by
 rw[va];induction l with
 |nil=>rfl
 |cons x l ay=>rw[dn,List.all_cons,ay];rfl
theorem Gp{A B X C:List I}(h:X.length=C.length):dw (A++(C++B)) A.length X=A++(X++B):=by
 rw[m0 rfl,h,List.drop_left]
theorem K0(f f1 f2:Bool)(cu dC:List Int)(h1:0<cu.length)(h2:cu.length<=100000)(h3:dC.length<=100000)(H:ab):
  aY Tryz.prog 279 [.sl f [.sl f1 (cu.map bj),.sl f2 (dC.map bj)]] H (.sl false ((cu++dC).map bj)):=by
 refine bh Tryz.func279 ?_;obtain⟨n,ag⟩:∃n,cu.length+dC.length=n:=⟨_,rfl⟩;have ca:IntKind.i64.wrap (0+(cu.length:Int))=(cu.length:Int):=by rw[cB];omega
 have bT:IntKind.i64.wrap ((cu.length:Int)+(dC.length:Int))=(n:Int):=by rw[cB];omega
 have yc:decide ((cu.length:Int)<0)=false:=cg;have Cs:decide ((n:Int)<0)=false:=cg;have iJ:IntKind.i64.wrap (0+1)=1:=rfl;have hV:IntKind.i64.wrap (1+1)=2:=rfl;repeat' first|(refine ad ?_;simp only[go_sem])|refine af ?_|fail
 refine tk 3 ?_;unfold qx;repeat' first|(refine ad ?_;simp only[go_sem,ca,yc,iJ,bT,Cs,hV,Int.reduceLT])|refine af ?_|fail
 refine c6 (aGl n (by omega) (by omega) H) (aA) (fun v H' aL=>?_)
 obtain⟨rfl,cs,al,rfl⟩:=aL;obtain⟨cc,cI,rfl,kP,yb⟩:∃cc cI,cs=cc++cI∧cc.length=cu.length∧cI.length=dC.length:=⟨cs.take cu.length,cs.drop cu.length,by simp,by simp;omega,by simp;omega⟩
 have dP:((0:Nat)=n)=False:=uy (by omega)
 simp only[go_sem];repeat' first|(refine ad ?_;simp only[go_sem,dP])|refine af ?_|fail
 refine tk 3 ?_;unfold qx;repeat' first|(refine ad ?_;simp only[go_sem,dP,iJ,hV,Int.reduceLT])|refine af ?_|fail
 have aZ:dw (cc++cI) 0 (List.flatMap I.cells (cu.map bj))=cu.map bj++cI:=by
  have:=Gp (A:=[]) (B:=cI) (X:=cu.map bj) (C:=cc) (by rw[cP,kP])
  rw[va];simpa using this
 rw[aZ];refine⟨⟨by omega,by omega,yy _,TR _⟩,?_⟩
 by_cases z:dC=[]
 ·subst z;have ar:(cu.length=n)=True:=bJ (by simpa using ag)
  have au:cI=[]:=jg yb;subst au;have bd:cu.length * 8<=140737488355328:=by omega
  repeat' first|(refine ad ?_;simp only[go_sem,ar,iJ,hV,Int.reduceLT,b2,im,DL,ew,uz,bd,cP,List.all_nil,eE])|refine af ?_|fail
  refine⟨_,_,rfl,Ss 2 _ cu rfl,?_⟩;first|rfl|rw[b2]
 ·have aMq:0<dC.length:=vF.2 z;have ar:(cu.length=n)=False:=uy (by omega)
  repeat' first|(refine ad ?_;simp only[go_sem,ar,iJ,hV,Int.reduceLT])|refine af ?_|fail
  have a7:dw (cu.map bj++cI) cu.length (List.flatMap I.cells (dC.map bj))=cu.map bj++dC.map bj:=by
   have:=Gp (A:=cu.map bj) (B:=[]) (X:=dC.map bj) (C:=cI) (by rw[cP,yb])
   rw[va];simpa using this
  have ch:dw (cu.map bj++cI) (cu.length * 1) (List.flatMap I.cells (dC.map bj))=cu.map bj++dC.map bj:=by rw[eE,a7]
  try rw[a7]
  try rw[ch]
  refine⟨⟨by omega,by omega,yy _,TR _⟩,?_⟩
  repeat' first|(refine ad ?_;simp only[go_sem,hV,Int.reduceLT])|refine af ?_|fail
  rw[<-n0];refine⟨_,_,rfl,?_,rfl⟩;have:=Ss (H:=H) 1 n (cu++dC) rfl;rwa[bt]at this
theorem aCo(H:ab){i v lc:Nat}{a d:Int}{cs:List I}(ah:ao H i=.cells v (bj a::cs))(gE:0<lc):aY Tryz.prog 131 [.osl 1 i v 0 1 lc,.int .i64 d] H (.bool (decide (a=d))):=by
 have iJ:IntKind.i64.wrap (0+1)=1:=rfl;have a2:decide ((1:Int)<((1:Nat):Int))=false:=rfl;by_cases h:d=a
 ·subst h;have J:aY Tryz.prog 176 [.osl 1 i v 0 1 lc,.int .i64 d] H (.int .i64 0):=by
   refine bh Tryz.func176 ?_;repeat' first|(refine ad ?_;simp only[go_sem])|refine af ?_|fail
   refine tk 2 ?_;unfold qx;repeat' first|(refine ad ?_;simp only[go_sem,ah,bj,iJ,a2,pt])|refine af ?_|fail
   exact zk (.int _ _) (.refl _)
  refine bh Tryz.func131 ?_;have a2:decide ((0:Int)<=0)=true:=rfl;rw[cF rfl];repeat' first|((first|refine ea (J) (aA) ?_|refine ep (J) (aA) ?_|refine er (fun _=>J) (aA) ?_|refine ad ?_);simp only[go_sem,a2])|refine af ?_|fail
  exact zk (.bool _) (.refl _)
 ·have ar:decide (d=a)=false:=b8 h;have J:aY Tryz.prog 176 [.osl 1 i v 0 1 lc,.int .i64 d] H (.int .i64 (-1)):=by
   refine bh Tryz.func176 ?_;repeat' first|(refine ad ?_;simp only[go_sem])|refine af ?_|fail
   refine tk 2 ?_;unfold qx;repeat' first|(refine ad ?_;simp only[go_sem,ah,ar,bj,iJ,a2])|refine af ?_|fail
   exact zk (.int _ _) (.refl _)
  refine bh Tryz.func131 ?_;have a2:decide ((0:Int)<= -1)=false:=rfl;rw[b8 (kn h)];repeat' first|((first|refine ea (J) (aA) ?_|refine ep (J) (aA) ?_|refine er (fun _=>J) (aA) ?_|refine ad ?_);simp only[go_sem,a2])|refine af ?_|fail
  exact zk (.bool _) (.refl _)
def p9(i:Nat):List Int->I
 |[]=>.sl true []
 |d::bc=>.osl 1 i (bc.length+1) 0 (bc.length+1) (bc.length+1)
def qJ(H:ab):List Int->ab
 |[]=>H
 |d::bc=>H++[.cells (bc.length+1) ((d::bc).map bj)]
theorem Y5{bc:List Int}{ps:List aM}{f:List Int->aM->List Int}{k:Nat}(h:k<ps.length):(ps.drop k).foldl f bc=(ps.drop (k+1)).foldl f (f bc ps[k]):=by
 rw[eo h];rfl
theorem Y6{l:List aB}{p:aM}(h:gl p=none):fZ l p=none:=by rw[fZ,h]
theorem aAd{l:List aB}{p:aM}(h:gl p=some []):fZ l p=none:=by rw[fZ,h]
theorem Y7{l:List aB}{p x:aM}{xs:List aM}{d e:Int}(h:gl p=some (x::xs))(an:fg l (x::xs).dropLast=(d,e)):fZ l p=if e=0∧dy d=true then some d else none:=by rw[fZ,h];simp only[an]
theorem St(l:List Int)(u:Int):(l.any fun x=>decide (x=u))=l.contains u:=by
 rw[qh];simp
theorem Um(b:Bool)(l:List aB)(u w:Int)(hl:l.length<=1073741824)(H:ab)(i:Nat)(ah:ao H i=.cells 0 [.sl b (l.map aW)]):aY Tryz.prog 278 [.int .i64 u,.int .i64 w,.ref i 0 0] H (.bool (nL l u w)):=by
 refine bh Tryz.func278 ?_;have c3:=L5 b l w hl;repeat' first|((first|refine du (Gz _ _ _) ?_|refine ad ?_);simp only[go_sem,ah])|refine af ?_|fail
 refine bC (.of ?_);rw[nL,St]
theorem aDk(b:Bool)(l:List aB)(c:b3)(ae:c.path.length<=1048576)(aj:c.to.length<=1048576)(hl:l.length<=1073741824)(H:ab):
  aY Tryz.prog 277 [cJ c,.sl b (l.map aW)] H (.sl false ((ij l c).map bj)):=by
 refine bh Tryz.func277 ?_;obtain⟨ps,nG⟩:∃ps,mN c=ps:=⟨_,rfl⟩;have yn:=aDs c;rw[nG]at yn;have iU:ps.length<=2:=by rw[<-nG,mN];split<;>(try split)<;>simp
 have pW:∀p∈ps,p.length<=1048576:=by
  rw[<-nG,mN];intro p aS;split at aS
  ·rcases c7.1 aS with rfl|aS
   ·exact ae
   ·rw[dA.1 aS];exact aj
  ·split at aS
   ·rw[dA.1 aS];exact ae
   ·cases aS
 rw[show ij l c=1::nc l (ps.foldl (fun bc p=>jw bc (fZ l p)) [])from by rw[ij,xf,nG]]
 clear nG;obtain⟨O0,pp,to,EO,WY⟩:=c;simp only[cJ]at yn;have Oc:=G8 b;repeat' first|(refine ad ?_;simp only[go_sem,cJ])|refine af ?_|fail
 refine b5 (ι:=Nat×List Int) (fun q=>[(3,.ref (H.length+1) 0 0),(15,.sl true (ps.map I.str)),(16,.int .i64 ps.length),(17,.int .i64 q.1),(5,p9 (H.length+2) q.2)]) (fun q=>qJ (H++[.cells 0 [.int .i64 O0,.str pp,.str to,.str EO,.int .i64 WY],.cells 0 [.sl b (l.map aW)]]) q.2)
  (fun q=>q.1<=ps.length∧q.2.length<=q.1∧ps.foldl (fun bc p=>jw bc (fZ l p)) []=(ps.drop q.1).foldl (fun bc p=>jw bc (fZ l p)) q.2) (fun q=>ps.length-q.1) (0,[]) ⟨bG _,bG _,rfl⟩ ?_ rfl ?_
 ·simp[go_sem,p9]
 ·rintro⟨k,bc⟩ ⟨hk,iw,he⟩;simp only at hk iw he ⊢;by_cases ak:k<ps.length
  ·have mm:=dg I.str ak;have aH:decide ((k:Int)<(ps.length:Int))=true:=b1;have hw:IntKind.i64.wrap ((k:Int)+1)=((k+1:Nat):Int):=by rw[cB];omega
   rw[Y5 ak]at he;have o6:=DQ ps[k] (pW _ (hv _));cases eD:gl ps[k]with
   |none=>
    rw[Y6 eD]at he;simp only[kV,eD]at o6;rcases bc with _|⟨a,_|⟨bZ,bc⟩⟩
    ·simp only[p9,qJ];repeat' first|(refine ad ?_;simp only[go_sem,mm,aH])|refine af ?_|fail
     exact⟨(k+1,[]),⟨ak,by simp only[cm,ew]at iw ⊢;omega,he⟩,by simp only;omega,⟨bH _ hw,rfl⟩,rfl⟩
    ·simp only[p9,qJ];repeat' first|(refine ad ?_;simp only[go_sem,mm,aH])|refine af ?_|fail
     exact⟨(k+1,[a]),⟨ak,by simp only[cm,ew]at iw ⊢;omega,he⟩,by simp only;omega,⟨bH _ hw,rfl⟩,rfl⟩
    ·simp only[cm]at iw;omega
   |some nl=>
    have bL:=F5 eD;cases nl with
    |nil=>
     rw[aAd eD]at he;simp only[kV,eD]at o6;rcases bc with _|⟨a,_|⟨bZ,bc⟩⟩
     ·simp only[p9,qJ];repeat' first|(refine ad ?_;simp only[go_sem,mm,aH])|refine af ?_|fail
      exact⟨(k+1,[]),⟨ak,by simp only[cm,ew]at iw ⊢;omega,he⟩,by simp only;omega,⟨bH _ hw,rfl⟩,rfl⟩
     ·simp only[p9,qJ];repeat' first|(refine ad ?_;simp only[go_sem,mm,aH])|refine af ?_|fail
      exact⟨(k+1,[a]),⟨ak,by simp only[cm,ew]at iw ⊢;omega,he⟩,by simp only;omega,⟨bH _ hw,rfl⟩,rfl⟩
     ·simp only[cm]at iw;omega
    |cons x xs=>
     simp only[kV,eD]at o6;rw[cm]at bL;have bT:IntKind.i64.wrap (((xs.length+1:Nat):Int)-1)=(xs.length:Int):=by rw[cB];omega
     have m7:decide (((xs.length+1:Nat):Int)=0)=false:=cg;have aa:((0:Int)<=(xs.length:Int)∧(xs.length:Int)<=((xs.length+1:Nat):Int))=True:=bJ (by omega)
     have an:=fun cN=>G8 b cN l (x::xs).dropLast hl
     obtain⟨⟨d,e⟩,rm⟩:∃r,fg l (x::xs).dropLast=r:=⟨_,rfl⟩;rw[Y7 eD rm]at he;rw[rm,sT,DE,rX,dn,cm,Nat.add_sub_cancel]at an;simp only at an;have tx:=sX d;by_cases lX:e=0
     ·subst lX;cases jr:dy d with
      |false=>
       rw[jr]at he tx;rw[az (by rintro⟨_,h⟩;cases h)]at he
       rcases bc with _|⟨a,_|⟨bZ,bc⟩⟩
       ·simp only[p9,qJ];repeat' first|((first|refine du (an _) ?_|refine ad ?_);simp only[go_sem,mm,aH,bT,m7,aa,j6,dn,pt])|refine af ?_|fail
        exact⟨(k+1,[]),⟨ak,by simp only[cm,ew]at iw ⊢;omega,he⟩,by simp only;omega,⟨bH _ hw,rfl⟩,rfl⟩
       ·simp only[p9,qJ];repeat' first|((first|refine du (an _) ?_|refine ad ?_);simp only[go_sem,mm,aH,bT,m7,aa,j6,dn,pt])|refine af ?_|fail
        exact⟨(k+1,[a]),⟨ak,by simp only[cm,ew]at iw ⊢;omega,he⟩,by simp only;omega,⟨bH _ hw,rfl⟩,rfl⟩
       ·simp only[cm]at iw;omega
      |true=>
       rw[jr]at he tx;rw[aF ⟨rfl,rfl⟩]at he;rcases bc with _|⟨a,_|⟨bZ,bc⟩⟩
       ·simp only[p9,qJ];have al:=Gz true [] d;simp only[im,List.any_nil]at al;repeat' first|((first|refine du (an _) ?_|refine ad ?_);simp only[go_sem,mm,aH,bT,m7,aa,j6,dn,pt])|refine af ?_|fail
        refine⟨⟨by simp only[true_or,and_self],by rintro e rfl;rfl⟩,?_⟩
        repeat' first|(refine ad ?_;simp only[go_sem])|refine af ?_|fail
        exact⟨(k+1,[d]),⟨ak,by simp only[cm,ew]at iw ⊢;omega,he⟩,by simp only;omega,⟨bH _ hw,rfl⟩,rfl⟩
       ·simp only[p9,qJ];have al:=aCo (H++[.cells 0 [.int .i64 O0,.str pp,.str to,.str EO,.int .i64 WY],.cells 0 [.sl b (l.map aW)],.cells 1 [bj a]]) (i:=H.length+2) (v:=1) (lc:=1) (a:=a) (d:=d) (cs:=[]) (by simp only[go_sem]) (by omega)
        by_cases hh:a=d
        ·rw[cF hh]at al;rw[show jw [a] (some d)=[a]from by rw[hh];simp[jw]]at he
         repeat' first|((first|refine du (an _) ?_|refine ea (al) (aA) ?_|refine ep (al) (aA) ?_|refine er (fun _=>al) (aA) ?_|refine ad ?_);simp only[go_sem,mm,aH,bT,m7,aa,j6,dn,pt])|refine af ?_|fail
         exact⟨(k+1,[a]),⟨ak,by simp only[cm,ew]at iw ⊢;omega,he⟩,by simp only;omega,⟨bH _ hw,rfl⟩,rfl⟩
        ·rw[b8 hh]at al;rw[show jw [a] (some d)=[a,d]from by simp[jw,kn hh]]at he
         repeat' first|((first|refine du (an _) ?_|refine ea (al) (aA) ?_|refine ep (al) (aA) ?_|refine er (fun _=>al) (aA) ?_|refine ad ?_);simp only[go_sem,mm,aH,bT,m7,aa,j6,dn,pt])|refine af ?_|fail
         refine⟨by rintro e rfl;rfl,?_⟩
         repeat' first|(refine ad ?_;simp only[go_sem])|refine af ?_|fail
         exact⟨(k+1,[a,d]),⟨ak,by simp only[cm,ew]at iw ⊢;omega,he⟩,by simp only;omega,⟨bH _ hw,rfl⟩,rfl⟩
       ·simp only[cm]at iw;omega
     ·rw[az (fun h=>lX h.1)]at he
      have Ct:decide (e=0)=false:=b8 lX;rcases bc with _|⟨a,_|⟨bZ,bc⟩⟩
      ·simp only[p9,qJ];repeat' first|((first|refine du (an _) ?_|refine ad ?_);simp only[go_sem,mm,aH,bT,m7,aa,j6,dn,Ct])|refine af ?_|fail
       exact⟨(k+1,[]),⟨ak,by simp only[cm,ew]at iw ⊢;omega,he⟩,by simp only;omega,⟨bH _ hw,rfl⟩,rfl⟩
      ·simp only[p9,qJ];repeat' first|((first|refine du (an _) ?_|refine ad ?_);simp only[go_sem,mm,aH,bT,m7,aa,j6,dn,Ct])|refine af ?_|fail
       exact⟨(k+1,[a]),⟨ak,by simp only[cm,ew]at iw ⊢;omega,he⟩,by simp only;omega,⟨bH _ hw,rfl⟩,rfl⟩
      ·simp only[cm]at iw;omega
  ·have g3:k=ps.length:=by omega
   subst g3;rw[l7]at he;simp only[Bc]at he;have aH:decide ((ps.length:Int)<(ps.length:Int))=false:=by simp
   rw[he];rcases bc with _|⟨a,_|⟨bZ,_|⟨dO,bc⟩⟩⟩
   ·simp only[p9,qJ];have hj:=fun f f1=>K0 f f1 true [1] [] (by simp) (by simp) (by simp)
    simp only[dn,im,b2,bj]at hj;repeat' first|((first|refine du (hj _ _) ?_|refine ad ?_);simp only[go_sem,aH])|refine af ?_|fail
    exact bo (.of rfl)
   ·simp only[p9,qJ];have hj:=fun f f1=>K0 f f1 false [1] [a] (by simp) (by simp) (by simp)
    simp only[dn,im,gi,gK,bj]at hj;refine wQ [5] [bj a] (v:=1) (lc:=1) (i:=H.length+2) (s:=1) (cs:=[bj a]) (by intro t aj;simp only[dA]at aj;subst aj;rfl) (by simp only[go_sem]) (by decide) rfl (by simp[bj,I.cells]) ?_
    repeat' first|((first|refine du (hj _ _) ?_|refine ad ?_);simp only[go_sem,aH,bj])|refine af ?_|fail
    exact bo (.of rfl)
   ·simp only[p9,qJ];have c3:=fun H' ah=>Um b l a bZ hl H' (H.length+1) ah
    have so:=fun H' ah=>Um b l bZ a hl H' (H.length+1) ah
    by_cases gd:(!nL l a bZ&&(nL l bZ a||decide (bZ<a)))=true
    ·rw[show nc l [a,bZ]=[bZ,a]from by rw[nc,aF gd]]
     have hj:=fun f f1=>K0 f f1 false [1] [bZ,a] (by simp) (by simp) (by simp)
     simp only[dn,im,gi,gK,bj]at hj;repeat' first|(refine ad ?_;simp only[go_sem,aH])|refine bx ?_|fail
     refine ly rfl (fun h=>by cases h) (fun _=>?_)
     repeat' first|(refine ad ?_;simp only[go_sem])|refine bx ?_|fail
     refine ly rfl (fun _=>?_) (fun h=>absurd h (by decide))
     cases J:nL l a bZ with
     |true=>rw[J]at gd;cases gd
     |false=>
      rw[J]at c3;cases aG:nL l bZ a with
      |true=>
       rw[aG]at so;repeat' first|((first|refine lp (c3 _ (by simp only[go_sem,bj])) (aA) ?_|refine lq (fun _=>c3 _ (by simp only[go_sem,bj])) (aA) ?_|refine lr (fun _=>c3 _ (by simp only[go_sem,bj])) (aA) ?_|refine lp (so _ (by simp only[go_sem,bj])) (aA) ?_|refine lq (fun _=>so _ (by simp only[go_sem,bj])) (aA) ?_|refine lr (fun _=>so _ (by simp only[go_sem,bj])) (aA) ?_|refine ad ?_);simp only[go_sem,bj])|refine bx ?_|fail
       refine ly rfl (fun _=>?_) (fun h=>by cases h)
       refine qn rfl ?_;simp only[go_sem];refine⟨by decide,by decide,?_⟩
       refine wQ [5] [bj bZ,bj a] (v:=2) (lc:=2) (i:=H.length+2) (s:=1) (cs:=[bj bZ,bj a]) (by intro t aj;simp only[dA]at aj;subst aj;rfl) (by simp only[go_sem,bj]) (by decide) rfl (by simp[bj,I.cells]) ?_
       simp only[bj];repeat' first|((first|refine du (hj _ _) ?_|refine ad ?_);simp only[go_sem])|refine af ?_|fail
       exact bo (.of rfl)
      |false=>
       rw[aG,J]at gd;rw[aG]at so;have gb:decide (bZ<a)=true:=by simpa using gd
       repeat' first|((first|refine lp (c3 _ (by simp only[go_sem,bj,gb])) (aA) ?_|refine lq (fun _=>c3 _ (by simp only[go_sem,bj,gb])) (aA) ?_|refine lr (fun _=>c3 _ (by simp only[go_sem,bj,gb])) (aA) ?_|refine lp (so _ (by simp only[go_sem,bj,gb])) (aA) ?_|refine lq (fun _=>so _ (by simp only[go_sem,bj,gb])) (aA) ?_|refine lr (fun _=>so _ (by simp only[go_sem,bj,gb])) (aA) ?_|refine ad ?_);simp only[go_sem,bj,gb])|refine bx ?_|fail
       refine ly rfl (fun _=>?_) (fun h=>by cases h)
       refine qn rfl ?_;simp only[go_sem];refine⟨by decide,by decide,?_⟩
       refine wQ [5] [bj bZ,bj a] (v:=2) (lc:=2) (i:=H.length+2) (s:=1) (cs:=[bj bZ,bj a]) (by intro t aj;simp only[dA]at aj;subst aj;rfl) (by simp only[go_sem,bj]) (by decide) rfl (by simp[bj,I.cells]) ?_
       simp only[bj];repeat' first|((first|refine du (hj _ _) ?_|refine ad ?_);simp only[go_sem])|refine af ?_|fail
       exact bo (.of rfl)
    ·rw[show nc l [a,bZ]=[a,bZ]from by rw[nc,az gd]]
     have hj:=fun f f1=>K0 f f1 false [1] [a,bZ] (by simp) (by simp) (by simp)
     simp only[dn,im,gi,gK,bj]at hj;refine wQ [5] [bj a,bj bZ] (v:=2) (lc:=2) (i:=H.length+2) (s:=1) (cs:=[bj a,bj bZ]) (by intro t aj;simp only[dA]at aj;subst aj;rfl) (by simp only[go_sem]) (by decide) rfl (by simp[bj,I.cells]) ?_
     cases J:nL l a bZ with
     |true=>
      rw[J]at c3;repeat' first|((first|refine du (hj _ _) ?_|refine lp (c3 _ (by simp only[go_sem,aH,bj])) (aA) ?_|refine lq (fun _=>c3 _ (by simp only[go_sem,aH,bj])) (aA) ?_|refine lr (fun _=>c3 _ (by simp only[go_sem,aH,bj])) (aA) ?_|refine ad ?_);simp only[go_sem,aH,bj])|refine af ?_|fail
      exact bo (.of rfl)
     |false=>
      rw[J]at c3 gd;cases aG:nL l bZ a with
      |true=>rw[aG]at gd;exact absurd rfl gd
      |false=>
       rw[aG]at so gd;have gb:decide (bZ<a)=false:=by simpa using gd
       repeat' first|((first|refine du (hj _ _) ?_|refine lp (c3 _ (by simp only[go_sem,aH,bj,gb])) (aA) ?_|refine lq (fun _=>c3 _ (by simp only[go_sem,aH,bj,gb])) (aA) ?_|refine lr (fun _=>c3 _ (by simp only[go_sem,aH,bj,gb])) (aA) ?_|refine lp (so _ (by simp only[go_sem,aH,bj,gb])) (aA) ?_|refine lq (fun _=>so _ (by simp only[go_sem,aH,bj,gb])) (aA) ?_|refine lr (fun _=>so _ (by simp only[go_sem,aH,bj,gb])) (aA) ?_|refine ad ?_);simp only[go_sem,aH,bj,gb])|refine af ?_|fail
       exact bo (.of rfl)
   ·simp only[cm]at iw;omega
end
end Go.Proofs.YthafnbmdmfoobaaGreatDoor
