/- What functions answer. No condition. -/
import Derived.Test.YtnmamncmpklliaaGreatDoorWorkD
set_option linter.unusedSimpArgs false
set_option linter.unusedVariables false
set_option maxRecDepth 100000
set_option maxHeartbeats 16000000
namespace Go.Proofs.YtnmamncmpklliaaGreatDoor
open Go.Proofs.Tryz
theorem aFH(b:Bool)(l:List aH)(dir:Int)(y:Nat)(J:Nat->ab->Prop)(K:∀i G L,J i G->J i (G++L))
  (T:∀i (h:i<l.length) G,J i G->px dir l[i]=false->J (i+1) G)
  (Z:∀i (h:i<l.length) G,J i G->px dir l[i]=true->sJ prog y [bj l[i]] G (λv O=>v=.bool true/\J (i+1) O)) (hl:l.length<=1073741824) (H:ab) (ay:J 0 H):
  cV prog 186 [.func (.yield y) [] [],.cptr [.sl b (l.map bj)],.cptr [.int .i64 dir]] H (λ_ G=>J l.length G):=by
 refine mS func186 ?_;refine a7 ?_;refine c7 (ι:=Nat×ab) (λp=>[(0,.func (.yield y) [] []),(2,.cptr [.int .i64 dir]),(6,.sl b<|l.map bj),(7,.int .i64 l.length),(8,.int .i64 p.1)]) (λp=>p.2) (λp=>p.1<=l.length/\J p.1 p.2) (λp=>l.length-p.1) (0,H) ⟨cb _,ay⟩ ?_ rfl ?_
 ·simp[go_sem]
 ·rintro⟨i,G⟩ ⟨hi,hj⟩;simp only at hi hj ⊢;by_cases U:i<l.length
  ·have ad:=ek bj U;have S:decide ((i:Int)<(l.length:Int))=true:=cS;have hw:=eb U gf;have V:=Du l[i].gx.c l[i].gx.r;by_cases h1:l[i].parent=dir
   ·have hd:decide (l[i].parent=dir)=true:=dr h1;cases h2:pC l[i].gx.c l[i].gx.r with
    |false=>
     rw[h2]at V;repeat' first|(refine ae ?_;simp only[go_sem,ad,S,hd,bj])|refine ai ?_|fail
     exact⟨(i+1,_),⟨U,T i U _ (K _ _ _ hj)<|by simp[px,h2]⟩,by simp only;omega,b7 _ hw,rfl⟩
    |true=>
     rw[h2]at V;have I:=Z i U _ (K i G [.cells 0 (bj l[i]).cells] hj)<|by simp[px,h1,h2]
     repeat' first|(refine ae ?_;simp only[go_sem,ad,S,hd,bj])|refine ai ?_|fail
     refine NQ I ?_;rintro v O ⟨rfl,z⟩;simp only[go_sem];repeat' first|(refine ae ?_;simp only[go_sem])|refine ai ?_|fail
     exact⟨(i+1,O),⟨U,z⟩,by simp only;omega,b7 _ hw,rfl⟩
   ·have hd:decide (l[i].parent=dir)=false:=b0 h1;repeat' first|(refine ae ?_;simp only[go_sem,ad,S,hd,bj])|refine ai ?_|fail
    exact⟨(i+1,_),⟨U,T i U _ (K _ _ _ hj)<|by simp[px,h1]⟩,by simp only;omega,b7 _ hw,rfl⟩
  ·have eI:i=l.length:=gf;subst eI;repeat' first|(refine ae ?_;simp only[go_sem])|refine ai ?_|fail
   exact hj
theorem aLR(k:Nat)(b:Bool)(l:List aH):cN k (.sl b<|l.map bj):=(b9.sl b _ (Yt l)).cl k
theorem aHe(b:Bool)(l:List aH)(dir:Int)(H:ab):aO prog 146 [.sl b (l.map bj),.int .i64 dir] H (.func (.func 186) [] [.cptr [.sl b (l.map bj)],.cptr [.int .i64 dir]]):=by
 refine bg func146 ?_;refine a7 ?_;refine⟨_,_,rfl,?_,rfl⟩;refine .func _ _ _ _ _ rfl rfl fx (ds (DE (bh _) mZ ?_)<|ds (DE gf mZ ?_) fx)
 ·simp only[dH,zM];exact aLR _ _ _
 ·simp only[dH,zM];exact .int _ _
theorem Qe(b:Bool)(l:List aH)(dir:Int)(hl:l.length<=1073741824)(H:ab):
  cV prog 96 [.sl b (l.map bj),.int .i64 dir] H (λv H'=>v=.map H.length/\H'=H++[.map (fY 0<|fA l dir) (fA l dir).length]):=by
 refine uf func96 ?_;repeat' first|((first|refine cI (aHe _ _ _) ?_|refine ae ?_);simp only[go_sem])|refine ai ?_|fail
 refine H2 [(5,.ref (H.length+1) 0 0),(12,.func (.func 186) [] [.cptr [.sl b (l.map bj)],.cptr [.int .i64 dir]])] (by simp[go_sem]) ?_
 refine J7 rfl aI λy dJ S=>?_;have R4:(H++[bD.map [] 0,.cells 0 [.map H.length]]).length=H.length+2:=hW;rw[R4,c6];let M:Nat->List (al×aH):=λi=>(l.take i).foldl (mo dir) [];let ff:Nat->ab->Prop:=λi G=>∃L,G=(H++[.map (fY 0<|M i) (M i).length,.cells 0 [.map H.length],dJ])++L
 have pa:∀i (h:i<l.length),M (i+1)=mo dir (M i) l[i]:=λi h=>by simp only[M];rw[hc h,yl];rfl
 refine(aFH b l dir y ff (λi G L ⟨fv,e⟩=>⟨fv++L,by rw[e,c6]⟩) (λi h G ⟨L,e⟩ hd=>⟨L,by rw[e,pa i h,mo,ar<|by rw[hd];simp]⟩) (λi h G ⟨L,e⟩ hd=>?_) hl _ ⟨[],by simp[M,fY]⟩).mono λ_ G ⟨L,e⟩=>?_
 ·have I:=pa i h;rw[mo,aC hd]at I;have ax:az G H.length=.map (fY 0<|M i) (M i).length:=by rw[e];exact bX (b:=.map _ _) mZ trivial L
  have aq:az G (H.length+1)=.cells 0 [.map H.length]:=by rw[e];exact bX (b:=.cells _ _) mZ trivial L
  have aU:az G (H.length+2)=dJ:=by rw[e];exact bX mZ (by rw[S];trivial) L
  have V:dJ.live:=by rw[S];trivial
  refine KL aU S rfl rfl rfl rfl λU fin Cx xE gO jg=>?_;have f3:=bE aU V;have g3:=hU aU V;simp only[w8];refine uu rfl ?_;simp only[go_sem,f3,g3,bj];obtain⟨J,K⟩:∃J,an G (H.length+2) U=J:=⟨_,rfl⟩;rw[K];have jN:=cZ aU V;have hlen:G.length=J.length:=by rw[<-K];simp[an]
  have cx:az J H.length=.map (fY 0<|M i) (M i).length:=by rw[<-K];exact bN ax gf U
  have a2:az J (H.length+1)=.cells 0 [.map H.length]:=by rw[<-K];exact bN aq gf U
  have a3:az J (H.length+2)=U:=by rw[<-K];exact dK jN U
  have k1:=bE cx trivial;have k2:=bE a2 trivial;have k3:=bE a3 xE;have s1:=hU cx trivial;rw[hlen];have lK:iV .string (fY 0<|M i)=True:=b1<|OT 0 _;clear S Cx jg;have c9:∀Y,M (i+1)=M i->wD (H.length+2) U fin J (λv dC=>v=.bool true/\ff (i+1) dC) true none (J++Y):=λY qU=>⟨k3 _,J,Y,rfl,rfl,λ_ _ h=>.inl h,rfl,L,by rw[gO,<-K,jd,kf aU V,qU];exact e⟩
  have q7:∀Y,M (i+1)=h0 l[i].name l[i] (M i)->wD (H.length+2) U fin J (λv dC=>v=.bool true/\ff (i+1) dC) true none
    (an J H.length (.map (hG (.str l[i].name) (bj l[i]) (fY 0 (M i)) (M i).length)<|qS (.str l[i].name) (fY 0 (M i)) (M i).length)++Y):=λY qU=>by
   rw[aHm,<-qU];refine⟨bE (bN a3 gf _) xE _,_,Y,rfl,by rw[bc],ns<|Yv _ _ _,rfl,L,?_⟩
   rw[gO,<-K,sW _ _ _ gf,jd,kf aU V,e];simp[an]
  rcases Yu 0 (M i) l[i].name with⟨z,aR⟩|⟨o,j,z,aR⟩
  ·refine bL bj.eq_1 ?_;exact q7 _<|by rw[I,rM,z]
  ·have Z:=PQ l[i].gx.c l[i].gx.r o.gx.c o.gx.r;cases T:z8 l[i].gx.c l[i].gx.r o.gx.c o.gx.r with
   |true=>rw[T]at Z;refine bL bj.eq_1 ?_;exact c9 _<|by rw[I,rM,z];exact aC T
   |false=>rw[T]at Z;refine bL bj.eq_1 ?_;exact q7 _<|by rw[I,rM,z];exact ar (by rw[T];simp)
 ·have r1:M l.length=fA l dir:=by simp only[M];rw[fe];rfl
  rw[r1]at e;have ax:az G H.length=.map (fY 0<|fA l dir) (fA l dir).length:=by rw[e];exact bX (b:=.map _ _) mZ trivial L
  have aq:az G (H.length+1)=.cells 0 [.map H.length]:=by rw[e];exact bX (b:=.cells _ _) mZ trivial L
  have aU:az G (H.length+2)=dJ:=by rw[e];exact bX mZ (by rw[S];trivial) L
  refine .inl ⟨.ready,hW,aU.trans S,λX=>?_⟩;have bf:=bN aq (i:=H.length+2) gf X;have b8:an G (H.length+2) X=(H++[.map (fY 0<|fA l dir) (fA l dir).length])++(.cells 0 [.map H.length]::X::L):=by rw[e];simp[an]
  obtain⟨dd,hy⟩:∃dd,an G (H.length+2) X=dd:=⟨_,rfl⟩;rw[hy]at bf b8 ⊢;simp only[go_sem];repeat' first|(refine ae ?_;simp only[go_sem,bf])|refine ai ?_|fail
  refine⟨_,_,_,b8,hW,λj cR O=>?_,.cl _<|.map _ hW,rfl,rfl⟩
  by_cases T:j<H.length
  ·rw[jc T]at O;exact .inl O
  ·rw[pH gf]at O;refine .inr ?_;cases hk:j-H.length with
   |zero=>rw[hk]at O;cases O;exact Yv _ _ _
   |succ k=>rw[hk]at O;simp at O
def zs(o:Option aH):I:=.aN [.int .i64 ((o.map (·.id)).getD 0),.bool o.isSome]
theorem La(b:Bool)(l:List aH)(dir:Int)(s:al)(hl:l.length<=1073741824)(H:ab):aO prog 296 [.sl b (l.map bj),.int .i64 dir,.str s] H (zs<|fz l dir s):=by
 refine bg func296 ?_;cases hs:cG l with
 |false=>
  have he:fz l dir s=none:=by simp[fz,hs]
  rw[he];repeat' first|((first|refine cI (lP _ _) ?_|refine ae ?_);simp only[go_sem,hs])|refine ai ?_|fail
  exact bJ<|.refl _
 |true=>
  have he:fz l dir s=hA s (fA l dir):=by simp[fz,hs]
  rw[he];repeat' first|((first|refine cI (lP _ _) ?_|refine ae ?_);simp only[go_sem,hs])|refine ai ?_|fail
  refine c4 (Qe b l dir hl H) aI ?_;rintro v H' ⟨rfl,rfl⟩;have K:iV .string (fY 0<|fA l dir)=True:=b1<|OT 0 _;rcases Yu 0 (fA l dir) s with⟨J,U⟩|⟨o,j,J,U⟩
  ·rw[J];simp only[go_sem,K,U];refine bL bj.eq_1 ?_;exact aX<|.refl _
  ·rw[J];simp only[go_sem,K,U,bj];refine bL bj.eq_1 ?_;exact aX<|.refl _
def u4(r:Int×Int):I:=.aN [.int .i64 r.1,.int .i64 r.2]
theorem aFa(l:List aH)(at_:Int)(s:al)(names:List al):iU l at_ (s::names)=if dv at_=true then(match fz l at_ s with|some n=>iU l n.id names|none=>(0,80))else(0,81):=rfl
theorem KD(b O:Bool)(l:List aH)(names:List al)(hl:l.length<=1073741824)(H:ab):aO prog 327 [.sl b (l.map bj),.sl O<|names.map I.str] H (u4<|fp l names):=by
 refine xX λ_ S=>?_;have af:=wO S;rw[dq]at af;refine bg func327 ?_;refine a7 ?_;refine c7 (ι:=Nat×Int) (λp=>[(0,.sl b<|l.map bj),(11,.sl O<|names.map I.str),(12,.int .i64 names.length),(13,.int .i64 p.1),(6,.int .i64 p.2)]) (λ_=>H) (λp=>p.1<=names.length/\fp l names=iU l p.2 (names.drop p.1)) (λp=>names.length-p.1) (0,0) ⟨cb _,rfl⟩ ?_ rfl ?_
 ·simp[go_sem]
 ·rintro⟨i,at_⟩ ⟨hi,he⟩
  simp only at hi he ⊢;by_cases U:i<names.length
  ·have ad:=ek I.str U;have J:decide ((i:Int)<(names.length:Int))=true:=cS;have hw:=eb U af;have hd:=va at_
   have K:=La b l at_ names[i] hl
   rw[ir U,aFa]at he;cases h1:dv at_ with
   |false=>
    rw[h1]at hd he;repeat' first|(refine ae ?_;simp only[go_sem,ad,J])|refine ai ?_|fail
    exact bJ<|.of (by rw[he];rfl)
   |true=>
    rw[h1,aC rfl]at he;rw[h1]at hd;cases h2:fz l at_ names[i]with
    |none=>
     rw[h2]at K he;simp only[zs,DV,DO,DP]at K;repeat' first|(refine ae ?_;simp only[go_sem,ad,J])|refine ai ?_|fail
     exact bJ<|.of (by rw[he];rfl)
    |some n=>
     rw[h2]at K he;simp only[zs,vj,o0,wX]at K;repeat' first|(refine ae ?_;simp only[go_sem,ad,J])|refine ai ?_|fail
     exact⟨(i+1,n.id),⟨U,he⟩,by simp only;omega,b7 _ hw,rfl⟩
  ·have T:i=names.length:=gf;subst T;have J:decide ((names.length:Int)<(names.length:Int))=false:=hW;repeat' first|(refine ae ?_;simp only[go_sem,J])|refine ai ?_|fail
   exact bJ<|.of (by rw[he,qD];rfl)
theorem aHf{a b:I}(h:eT a b):∀(i:Nat) (x y:I),[a][i]?=some x->[b][i]?=some y->eT x y:=de h kZ
def Ch(c:cg):I:=if fZ c=true then .iface 357 (cy c)else if hB c=true then .iface 355 (.agg [.sl false ((hQ c).map I.str)])else .iface 353 (.agg [])
theorem aJx(l:List al):∀e∈l.map I.str,b9 e:=λe he=>by obtain⟨x,_,rfl⟩:=bP.1 he;exact .str _
theorem oy{n:Nat}{H L:ab}{f:Bool}{l m:List al}(e:l=m):∃J y,H++L=H++J/\cJ n (H++L) (.iface 355<|.agg [.sl f (l.map I.str)]) y/\y=.iface 355 (.agg [.sl false (m.map I.str)]):=by subst e;exact done (.iface _ _ (.agg _ (by simp only[dH,zM];exact .sl _ _ (aJx l))))<|.iface _ _ _ (.agg _ _ rfl (aHf (.sl _ _)))
theorem aFb(k:Int):k=4\/k=7\/k=1\/k=2\/k=3\/k=10\/k=5\/k=6\/k=13\/((k=4)=False/\(k=7)=False/\(k=1)=False/\(k=2)=False/\(k=3)=False/\(k=10)=False/\(k=5)=False/\(k=6)=False/\(k=13)=False):=by simp only[eq_iff_iff,iff_false];omega
theorem Qv(c:cg)(ad:c.path.length<=1048576)(H:ab):aO prog 170 [cy c] H (Ch c):=by
 refine bg func170 ?_;obtain⟨k,path,to,data,n⟩:=c;simp only at ad;have U:=Hm path ad;have af:(∀l,gD path=some l->l.length<=16):=λl hl=>JI hl;rcases aFb k with rfl|rfl|rfl|rfl|rfl|rfl|rfl|rfl|rfl|⟨ax,T,aU,bf,V,Z,z,hF,Ms⟩;case inr.inr.inr.inr.inr.inr.inl=>
  repeat' first|(refine ae ?_;simp only[go_sem,cy,Int.reduceEq])|refine ai ?_|fail
  exact aX<|.refl _
 case inr.inr.inr.inr.inr.inr.inr.inl=>
  repeat' first|(refine ae ?_;simp only[go_sem,cy,Int.reduceEq])|refine ai ?_|fail
  exact aX<|.refl _
 case inr.inr.inr.inr.inr.inr.inr.inr.inl=>
  repeat' first|(refine ae ?_;simp only[go_sem,cy,Int.reduceEq])|refine ai ?_|fail
  exact aX<|.refl _
 case inr.inr.inr.inr.inr.inr.inr.inr.inr=>
  repeat' first|(refine ae ?_;simp only[go_sem,cy,ax,T,aU,bf,V,Z,z,hF,Ms])|refine ai ?_|fail
  exact aX<|.of (by simp only[Ch,fZ,hB,ax,T,aU,bf,V,Z,z,hF,Ms];rfl)
 case inl=>
  by_cases ay:n=0
  ·subst ay;cases J:gD path with
   |none=>
    simp only[lB,J]at U;repeat' first|(refine ae ?_;simp only[go_sem,cy,Int.reduceEq])|refine ai ?_|fail
    exact oy (l:=[])<|by simp only[hQ,J]
   |some l=>
    simp only[lB,J]at U;cases l with
    |nil=>
     repeat' first|(refine ae ?_;simp only[go_sem,cy,Int.reduceEq])|refine ai ?_|fail
     exact oy (l:=[])<|by simp only[hQ,J];rfl
    |cons x xs=>
     have hl:=af _ J;rw[cd]at hl;have hw:IntKind.i64.wrap (((xs.length+1:Nat):Int)-1)=(xs.length:Int):=by rw[bS];omega
     have K:decide ((0:Int)<((xs.length+1:Nat):Int))=true:=cS;have O:((0:Int)<=(xs.length:Int)/\(xs.length:Int)<=((xs.length+1:Nat):Int))=True:=b1 gf;repeat' first|(refine ae ?_;simp only[go_sem,cy,Int.reduceEq,hw,K,O,h5,dO])|refine ai ?_|fail
     rw[<-dO (f:=I.str),<-vl];exact oy<|by simp only[hQ,J];exact(Hb (l:=x::xs)).symm
  ·have S:(n=0)=False:=eq_false ay;repeat' first|(refine ae ?_;simp only[go_sem,cy,Int.reduceEq,S])|refine ai ?_|fail
   exact aX<|.of (by simp only[Ch,fZ,hB,S];rfl)
 case inr.inl=>
  by_cases ay:n=0
  ·subst ay;cases J:gD path with
   |none=>
    simp only[lB,J]at U;repeat' first|(refine ae ?_;simp only[go_sem,cy,Int.reduceEq])|refine ai ?_|fail
    exact oy (l:=[])<|by simp only[hQ,J]
   |some l=>
    simp only[lB,J]at U;cases l with
    |nil=>
     repeat' first|(refine ae ?_;simp only[go_sem,cy,Int.reduceEq])|refine ai ?_|fail
     exact oy (l:=[])<|by simp only[hQ,J];rfl
    |cons x xs=>
     have hl:=af _ J;rw[cd]at hl;have hw:IntKind.i64.wrap (((xs.length+1:Nat):Int)-1)=(xs.length:Int):=by rw[bS];omega
     have K:decide ((0:Int)<((xs.length+1:Nat):Int))=true:=cS;have O:((0:Int)<=(xs.length:Int)/\(xs.length:Int)<=((xs.length+1:Nat):Int))=True:=b1 gf;repeat' first|(refine ae ?_;simp only[go_sem,cy,Int.reduceEq,hw,K,O,h5,dO])|refine ai ?_|fail
     exact oy (l:=x::xs)<|by simp only[hQ,J];rfl
  ·have S:(n=0)=False:=eq_false ay;repeat' first|(refine ae ?_;simp only[go_sem,cy,Int.reduceEq,S])|refine ai ?_|fail
   exact aX<|.of (by simp only[Ch,fZ,hB,S];rfl)
 case inr.inr.inl=>
  cases J:gD path with
  |none=>
   simp only[lB,J]at U;repeat' first|(refine ae ?_;simp only[go_sem,cy,Int.reduceEq])|refine ai ?_|fail
   exact oy (l:=[])<|by simp only[hQ,J]
  |some l=>
   simp only[lB,J]at U;cases l with
   |nil=>
    repeat' first|(refine ae ?_;simp only[go_sem,cy,Int.reduceEq])|refine ai ?_|fail
    exact oy (l:=[])<|by simp only[hQ,J];rfl
   |cons x xs=>
    have hl:=af _ J;rw[cd]at hl;have hw:IntKind.i64.wrap (((xs.length+1:Nat):Int)-1)=(xs.length:Int):=by rw[bS];omega
    have K:decide ((0:Int)<((xs.length+1:Nat):Int))=true:=cS;have O:((0:Int)<=(xs.length:Int)/\(xs.length:Int)<=((xs.length+1:Nat):Int))=True:=b1 gf;repeat' first|(refine ae ?_;simp only[go_sem,cy,Int.reduceEq,hw,K,O,h5,dO])|refine ai ?_|fail
    rw[<-dO (f:=I.str),<-vl];exact oy<|by simp only[hQ,J];exact(Hb (l:=x::xs)).symm
 case inr.inr.inr.inl=>
  cases J:gD path with
  |none=>
   simp only[lB,J]at U;repeat' first|(refine ae ?_;simp only[go_sem,cy,Int.reduceEq])|refine ai ?_|fail
   exact oy (l:=[])<|by simp only[hQ,J]
  |some l=>
   simp only[lB,J]at U;cases l with
   |nil=>
    repeat' first|(refine ae ?_;simp only[go_sem,cy,Int.reduceEq])|refine ai ?_|fail
    exact oy (l:=[])<|by simp only[hQ,J];rfl
   |cons x xs=>
    have hl:=af _ J;rw[cd]at hl;have hw:IntKind.i64.wrap (((xs.length+1:Nat):Int)-1)=(xs.length:Int):=by rw[bS];omega
    have K:decide ((0:Int)<((xs.length+1:Nat):Int))=true:=cS;have O:((0:Int)<=(xs.length:Int)/\(xs.length:Int)<=((xs.length+1:Nat):Int))=True:=b1 gf;repeat' first|(refine ae ?_;simp only[go_sem,cy,Int.reduceEq,hw,K,O,h5,dO])|refine ai ?_|fail
    rw[<-dO (f:=I.str),<-vl];exact oy<|by simp only[hQ,J];exact(Hb (l:=x::xs)).symm
 case inr.inr.inr.inr.inl=>
  cases J:gD path with
  |none=>
   simp only[lB,J]at U;repeat' first|(refine ae ?_;simp only[go_sem,cy,Int.reduceEq])|refine ai ?_|fail
   exact oy (l:=[])<|by simp only[hQ,J]
  |some l=>
   simp only[lB,J]at U;cases l with
   |nil=>
    repeat' first|(refine ae ?_;simp only[go_sem,cy,Int.reduceEq])|refine ai ?_|fail
    exact oy (l:=[])<|by simp only[hQ,J];rfl
   |cons x xs=>
    have hl:=af _ J;rw[cd]at hl;have hw:IntKind.i64.wrap (((xs.length+1:Nat):Int)-1)=(xs.length:Int):=by rw[bS];omega
    have K:decide ((0:Int)<((xs.length+1:Nat):Int))=true:=cS;have O:((0:Int)<=(xs.length:Int)/\(xs.length:Int)<=((xs.length+1:Nat):Int))=True:=b1 gf;repeat' first|(refine ae ?_;simp only[go_sem,cy,Int.reduceEq,hw,K,O,h5,dO])|refine ai ?_|fail
    rw[<-dO (f:=I.str),<-vl];exact oy<|by simp only[hQ,J];exact(Hb (l:=x::xs)).symm
 case inr.inr.inr.inr.inr.inl=>
  cases J:gD path with
  |none=>
   simp only[lB,J]at U;repeat' first|(refine ae ?_;simp only[go_sem,cy,Int.reduceEq])|refine ai ?_|fail
   exact oy (l:=[])<|by simp only[hQ,J]
  |some l=>
   simp only[lB,J]at U;cases l with
   |nil=>
    repeat' first|(refine ae ?_;simp only[go_sem,cy,Int.reduceEq])|refine ai ?_|fail
    exact oy (l:=[])<|by simp only[hQ,J];rfl
   |cons x xs=>
    have hl:=af _ J;rw[cd]at hl;have hw:IntKind.i64.wrap (((xs.length+1:Nat):Int)-1)=(xs.length:Int):=by rw[bS];omega
    have K:decide ((0:Int)<((xs.length+1:Nat):Int))=true:=cS;have O:((0:Int)<=(xs.length:Int)/\(xs.length:Int)<=((xs.length+1:Nat):Int))=True:=b1 gf;repeat' first|(refine ae ?_;simp only[go_sem,cy,Int.reduceEq,hw,K,O,h5,dO])|refine ai ?_|fail
    exact oy (l:=x::xs)<|by simp only[hQ,J];rfl
theorem aJy(c:cg)(ad:c.path.length<=1048576)(H:ab):aO prog 259 [cy c] H (.bool<|hB c):=by
 refine bg func259 ?_;have hw:=Qv c ad;have J:fZ c=true->hB c=false:=by simp only[fZ,hB];intro h;simp at h ⊢;omega
 unfold Ch at hw;cases ag:fZ c with
 |true=>
  rw[ag,aC rfl]at hw;rw[J ag];repeat' first|(refine ae ?_;simp only[go_sem,cy])|refine ai ?_|fail
  exact aX<|.refl _
 |false=>
  rw[ag,ar hW]at hw;cases hk:hB c with
  |true=>
   rw[hk,aC rfl]at hw;repeat' first|(refine ae ?_;simp only[go_sem,cy])|refine ai ?_|fail
   exact aX<|.refl _
  |false=>
   rw[hk,ar hW]at hw;repeat' first|(refine ae ?_;simp only[go_sem,cy])|refine ai ?_|fail
   exact aX<|.refl _
theorem aJz(c:cg)(H:ab):aO prog 362 [cy c] H (.sl true<|(nt c).map I.str):=by
 refine bg func362 ?_;unfold nt;by_cases J:c.kind=5
 ·rw[aC J];have hd:decide (c.kind=5)=true:=dr J;repeat' first|(refine ae ?_;simp only[go_sem,cy,hd])|refine ai ?_|fail
  exact aX<|.refl _
 ·rw[ar J];have hd:decide (c.kind=5)=false:=b0 J;by_cases U:c.kind=6
  ·rw[aC U];have K:decide (c.kind=6)=true:=dr U;repeat' first|(refine ae ?_;simp only[go_sem,cy,hd,K])|refine ai ?_|fail
   exact aX<|.refl _
  ·rw[ar U];have K:decide (c.kind=6)=false:=b0 U;repeat' first|(refine ae ?_;simp only[go_sem,cy,hd,K])|refine ai ?_|fail
   exact aX<|.refl _
section
open Go.ChangeShapes Go.WideShapes Go.ChangeAt Go.RowKit
theorem own:ownKnob prog.godebug=none:=ma
theorem GV:laidOutB prog=true:=ma
theorem aLS:n5 prog 5=false:=ma
theorem aLT{x:I}(h:∃ys,x=mF prog 5 ys/\jW prog 5 ys/\(n5 prog 5=true\/ys.length=1)):∃n,x=.int .u8 n:=by obtain⟨ys,rfl,h,_⟩:=h;obtain⟨n,rfl,hw⟩:=EJ underlying5 h;exact⟨n,by rw[mF,ar<|by rw[aLS];decide];rfl⟩
end
end Go.Proofs.YtnmamncmpklliaaGreatDoor
