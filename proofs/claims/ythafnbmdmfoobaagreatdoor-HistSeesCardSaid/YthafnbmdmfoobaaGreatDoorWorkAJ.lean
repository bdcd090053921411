/- What the functions of this seat answer (10 of 40). No condition. -/
import Derived.Test.YthafnbmdmfoobaaGreatDoorWorkAI
set_option linter.unusedSimpArgs false
set_option linter.unusedVariables false
set_option maxRecDepth 100000
set_option maxHeartbeats 16000000
namespace Go.Proofs.YthafnbmdmfoobaaGreatDoor
section
def QT:List cR:=[.free,.free,.pure 0,.free,.free,.pure 0,.eff [false,false]]
attribute [go_sem] QT
theorem aBG(b:Bool)(l:List Int)(v:Int)(H:ab):
  aY Tryz.prog 176 [.sl b (l.map bj),.int .i64 v] H (.int .i64 (eg (fun x=>decide (v=x)) l)):=by
 refine nz fun bl _=>?_
 have hl:=lI bl;rw[cP]at hl;refine bh Tryz.func176 ?_;refine aT ?_;refine b5 (ι:=Nat) (fun i=>[(0,.sl b (l.map bj)),(1,.int .i64 v),(7,.int .i64 l.length),(8,.int .i64 i)]) (fun _=>H) (fun i=>i<=l.length∧∀k (hk:k<i) (eb:k<l.length),decide (v=l[k])=false) (fun i=>l.length-i) 0 ⟨bG _,fun k hk=>by omega⟩ ?_ rfl ?_
 ·simp[go_sem]
 ·rintro i ⟨hi,bX⟩;by_cases ak:i<l.length
  ·have ae:=dg bj ak;repeat' first|(refine ad ?_;simp only[go_sem,ae,bj])|refine bx ?_|(refine bD ?_ ?_<;>intro h<;>try exact bB h)|fail
   ·exact bC (.of (by rw[pN (fun x=>decide (v=x)) l i ak (fun k hk=>bX k hk (by omega)) h]))
   ·refine⟨i+1,⟨ak,fun k hk eb=>?_⟩,by omega,by rw[cB];rfl⟩
    by_cases e:k=i
    ·subst e;simpa using h
    ·simpa using bX k (by omega) eb
  ·have cv:i=l.length:=by omega
   repeat' first|(refine ad ?_;simp only[go_sem])|refine bx ?_|(refine bD ?_ ?_<;>intro h<;>try exact bB h)|fail
   subst cv;exact bC (.of (by rw[pO (fun x=>decide (v=x)) l fun k hk=>bX k hk hk]))
theorem Gz(b:Bool)(l:List Int)(v:Int)(H:ab):
  aY Tryz.prog 131 [.sl b (l.map bj),.int .i64 v] H (.bool (l.any fun x=>decide (x=v))):=by
 refine bh Tryz.func131 ?_;repeat' first|((first|refine du (aBG _ _ _) ?_|refine ad ?_);simp only[go_sem])|refine bx ?_|(refine bD ?_ ?_<;>intro h<;>try exact bB h)|fail
 refine bC (.of ?_);rw[yx];congr 2;funext x;exact DO.2 ⟨Eq.symm,Eq.symm⟩
theorem va(l:List Int):(l.map bj).flatMap I.cells=l.map bj:=by
 induction l with
 |nil=>rfl
 |cons x l ay=>rw[dn,qe,ay];rfl
theorem yy(l:List Int):∀e∈l.map bj,e.cells.length=1:=fun e he=>by
 obtain⟨x,_,rfl⟩:=bP.1 he;rfl
theorem SF(b:Bool)(l:List aB)(id:Int)(hs:cC l=true)(hl:l.length<=1073741824)(H:ab):aY Tryz.prog 177 [.sl b (l.map aW),.int .i64 id] H (.sl false ((g0 l id).map bj)):=by
 refine bh Tryz.func177 ?_;have iU:=fun id=>HE b l id hs
 refine aT ?_;refine sF 5 1 (by simp only[go_sem]) ?_
 refine b5 (ι:=List Int×Int) (fun x=>[(0,.sl b (l.map aW)),(1,.int .i64 x.2),(5,.osl 1 H.length (x.1.length+1) 0 x.1.length x.1.length)]) (fun x=>H++[.cells (x.1.length+1) (x.1.map bj)])
  (fun x=>x.1.length<=l.length∧x.1++kt l (l.length-x.1.length) x.2=g0 l id) (fun x=>l.length-x.1.length) ([],id) ⟨bG _,rfl⟩ ?_ rfl ?_
 ·simp[go_sem]
 ·rintro⟨acc,Aq⟩ ⟨ag,he⟩;simp only at ag he ⊢;by_cases ak:acc.length<l.length
  ·obtain⟨m,hm⟩:∃m,l.length-acc.length=m+1:=⟨l.length-acc.length-1,by omega⟩
   rw[hm,kt]at he;cases ah:hh l Aq with
   |false=>
    rw[HS ah]at he;repeat' first|((first|refine du (iU _) ?_|refine ad ?_);simp only[go_sem,ah])|refine bx ?_|(refine bD ?_ ?_<;>intro h<;>try exact bB h)|fail
    exact p3 (cs:=acc.map bj) (es:=acc.map bj) (rest:=[]) (bk _) (by simp only[go_sem]) (by rw[va,b2]) (by simp) (yy acc) (fun e he=>by obtain⟨c,_,rfl⟩:=bP.1 he;exact .int _ _) (by rw[<-he];simp)
   |true=>
    have fe:=uc hs ah;have ae:=dg aW fe;rw[HB hs ah]at he;simp only at he;repeat' first|((first|refine du (iU _) ?_|refine ad ?_);simp only[go_sem,ah,ae,aW])|refine bx ?_|(refine bD ?_ ?_<;>intro h<;>try exact bB h)|fail
    ·rw[aF (mB h)]at he;exact p3 (cs:=acc.map bj) (es:=acc.map bj) (rest:=[]) (bk _) (by simp only[go_sem]) (by rw[va,b2]) (by simp) (yy acc) (fun e he=>by obtain⟨c,_,rfl⟩:=bP.1 he;exact .int _ _) (by rw[<-he];simp)
    ·rw[az (of_decide_eq_false h)]at he;exact⟨⟨by omega,fun e he=>by rw[he];rfl,by omega⟩,(acc++[l[pos l Aq].parent],l[pos l Aq].parent),⟨by simp;omega,by rw[<-he];simp[show l.length-(acc.length+1)=m by omega]⟩,by simp;omega,⟨rfl,by simp⟩,by simp[bj]⟩
  ·refine bW ?_;have zW:l.length-acc.length=0:=by omega
   rw[zW]at he;exact p3 (cs:=acc.map bj) (es:=acc.map bj) (rest:=[]) (bk _) (by simp only[go_sem]) (by rw[va,b2]) (by simp) (yy acc) (fun e he=>by obtain⟨c,_,rfl⟩:=bP.1 he;exact .int _ _) (by rw[<-he];simp[kt])
theorem L5(b:Bool)(l:List aB)(id:Int)(hl:l.length<=1073741824)(H:ab):aY Tryz.prog 132 [.sl b (l.map aW),.int .i64 id] H (.sl false ((nb l id).map bj)):=by
 refine bh Tryz.func132 ?_;unfold nb;cases hs:cC l with
 |false=>
  repeat' first|((first|refine du (kY _ _) ?_|refine ad ?_);simp only[go_sem,hs])|refine bx ?_|(refine bD ?_ ?_<;>intro h<;>try exact bB h)|fail
  exact bC (.sl _ _)
 |true=>
  have c3:=SF b l id hs hl;repeat' first|((first|refine du (kY _ _) ?_|refine ad ?_);simp only[go_sem,hs])|refine bx ?_|(refine bD ?_ ?_<;>intro h<;>try exact bB h)|fail
  exact bC (.refl _)
theorem SG(l:List aB):(l.map aW).flatMap I.cells=l.flatMap fun n=>(aW n).cells:=by
 rw[List.flatMap_map]
theorem Yw(l:List aB):(l.flatMap fun n=>(aW n).cells).length=l.length * 8:=by
 induction l with
 |nil=>rfl
 |cons x l ay=>rw[qe,bt,ay];simp[aW,I.cells];omega
theorem RZ(l:List aB):∀e∈l.map aW,e.cells.length=8:=fun e he=>by
 obtain⟨x,_,rfl⟩:=bP.1 he;rfl
theorem ZH(l:List aB):(∀e∈l.map aW,e.cells.length=8)=True:=bJ (RZ l)
theorem aFD(l:List aB):(l.flatMap fun n=>(aW n).cells).all I.one=true:=by
 rw[gT];intro x J;obtain⟨n,_,ag⟩:=rZ.1 J;simp only[aW,I.cells,c7,jB,jD]at ag;rcases ag with rfl|rfl|rfl|rfl|rfl|rfl|rfl|rfl<;>rfl
theorem TF(l:List aB):∀e∈l.map aW,bO e:=fun e he=>by
 obtain⟨x,_,rfl⟩:=bP.1 he;exact(by simp only[go_sem])
theorem m0{A B X:List I}{off:Nat}(h:A.length=off):dw (A++B) off X=A++(X++B.drop X.length):=by
 subst h;simp[dw,List.drop_append]
def vd:I:=.agg [.int .i64 0,.int .i64 0,.str [],.int .i64 0,.int .i64 0,.str [],.int .i64 0,.int .i64 0]
theorem Pe(l:List aB):(List.flatMap I.cells (l.map aW)).length=l.length * 8:=by rw[SG,Yw]
theorem aD2(l:List aB):(List.flatMap I.cells (l.map aW)).all I.one=true:=by rw[SG];exact aFD l
theorem aBH(n:Nat):(List.flatMap I.cells (List.replicate n vd)).length=n * 8:=by
 induction n with
 |zero=>rfl
 |succ n ay=>rw[Ba,qe,bt,ay];simp[vd,I.cells];omega
theorem MX(aV bm:Bool)(l xs:List aB)(i j:Nat)(gp:i<=j)(aw:j<=l.length)(hl:l.length+xs.length<=1073741824)(H:ab):
  aY Tryz.prog 228 [.sl aV (l.map aW),.int .i64 i,.int .i64 j,.sl bm (xs.map aW)] H (.sl false ((mv l i j xs).map aW)):=by
 refine bh Tryz.func228 ?_;have ar:IntKind.i64.wrap (IntKind.i64.wrap (((i+xs.length:Nat):Int)+(l.length:Int))-(j:Int))=((i+xs.length+(l.length-j):Nat):Int):=by
  rw[wrap_i64 (n:=((i+xs.length:Nat):Int)+l.length) (by omega) (by omega),cB];omega
 have t1:List.take i (List.map aW l)=List.map aW (l.take i):=rX.symm;have t2:List.drop j (List.map aW l)=List.map aW (l.drop j):=y1.symm;have fK:(l.take i).length=i:=List.length_take_of_le (by omega)
 have g7:(l.drop j).length=l.length-j:=gL;have au:IntKind.i64.wrap ((i:Int)+(xs.length:Int))=((i+xs.length:Nat):Int):=cB;have a2:vd=.agg [.int .i64 0,.int .i64 0,.str [],.int .i64 0,.int .i64 0,.str [],.int .i64 0,.int .i64 0]:=rfl;have cu:=Pe (l.take i);have dC:=Pe xs;have rG:=Pe (l.drop j);have CZ:=aBH (i+(xs.length+(l.length-j)));rw[fK]at cu;rw[g7]at rG;have s1:dw (List.flatMap I.cells (List.replicate (i+(xs.length+(l.length-j))) vd)) 0 (List.flatMap I.cells (List.map aW (l.take i)))=
   List.flatMap I.cells (List.map aW (l.take i))++(List.flatMap I.cells (List.replicate (i+(xs.length+(l.length-j))) vd)).drop (i * 8):=by
  have:=m0 (A:=[]) (B:=List.flatMap I.cells (List.replicate (i+(xs.length+(l.length-j))) vd)) (X:=List.flatMap I.cells (List.map aW (l.take i))) (off:=0) rfl;rw[cu]at this;exact this
 have s2:dw (List.flatMap I.cells (List.map aW (l.take i))++(List.flatMap I.cells (List.replicate (i+(xs.length+(l.length-j))) vd)).drop (i * 8)) (i * 8) (List.flatMap I.cells (List.map aW xs))=
   List.flatMap I.cells (List.map aW (l.take i))++(List.flatMap I.cells (List.map aW xs)++(List.flatMap I.cells (List.replicate (i+(xs.length+(l.length-j))) vd)).drop (i * 8+xs.length * 8)):=by
  rw[m0 cu,dC,Bg]
 have l3:dw (List.flatMap I.cells (List.map aW (l.take i))++(List.flatMap I.cells (List.map aW xs)++(List.flatMap I.cells (List.replicate (i+(xs.length+(l.length-j))) vd)).drop (i * 8+xs.length * 8))) ((i+xs.length) * 8) (List.flatMap I.cells (List.map aW (l.drop j)))=
   List.flatMap I.cells (List.map aW (mv l i j xs)):=by
  rw[<-cr,m0 (by rw[bt,cu,dC];omega),rG,Bg,show List.drop (i * 8+xs.length * 8+(l.length-j) * 8) (List.flatMap I.cells (List.replicate (i+(xs.length+(l.length-j))) vd))=[]from List.drop_of_length_le (by rw[CZ];omega)]
  simp[mv,cr]
 repeat' first|((first|refine mx [4] QT ?_|refine ad ?_);simp only[go_sem,ar,au,t1,t2,fK,g7,<-a2,s1,s2,l3,cu,dC,rG,CZ,aD2,ZH,gL])|refine bx ?_|(refine bD ?_ ?_<;>intro h<;>try exact bB h)|fail
 have hlen:=KR l i j xs gp aw;exact p3 (cs:=List.flatMap I.cells (List.map aW (mv l i j xs))) (es:=(mv l i j xs).map aW) (rest:=[]) (bk _) (by simp only[go_sem]) (b2 _).symm (by rw[cP];omega) (RZ _) (TF _) rfl
theorem SH(b:Bool)(l:List aB)(hl:l.length<=1000000000)(H:ab):aY Tryz.prog 227 [.sl b (l.map aW)] H (.sl false (l.map aW)):=by
 refine bh Tryz.func227 ?_;have sx:=MX b true l [] l.length l.length (bk _) (bk _) (by simp;omega) H
 have e:mv l l.length l.length []=l:=by simp[mv]
 rw[e]at sx;repeat' first|((first|refine ea (sx) (aA) ?_|refine ep (sx) (aA) ?_|refine er (fun _=>sx) (aA) ?_|refine ad ?_);simp only[go_sem])|refine bx ?_|(refine bD ?_ ?_<;>intro h<;>try exact bB h)|fail
 exact bC (.refl _)
end
section
theorem aFE(b:Bool)(l:List aB)(o:bf)(u:xB)(hl:l.length<=1000000000)(H:ab):aY Tryz.prog 210 [.sl b (l.map aW),bY o,sY u] H (.sl false ((rJ l o u).map aW)):=by
 refine bh Tryz.func210 ?_;have m9:=SH b l hl;simp only[bY,sY];cases al:cC l with
 |false=>
  have ax:(!cC l|| !u.oT)=true:=by simp[al]
  rw[rJ,aF ax];repeat' first|((first|refine du (kY _ _) ?_|refine ad ?_);simp only[go_sem,al])|refine af ?_|fail
  exact bo (.refl _)
 |true=>
  cases hd:u.oT with
  |false=>
   have ax:(!cC l|| !u.oT)=true:=by simp[hd]
   rw[rJ,aF ax];repeat' first|((first|refine du (kY _ _) ?_|refine ad ?_);simp only[go_sem,al,hd])|refine af ?_|fail
   exact bo (.refl _)
  |true=>
   have ax:¬(!cC l|| !u.oT)=true:=by simp[al,hd]
   have iU:=HE b l o.node al;have sx:=MX b true l;have jO:=HC l o.node al;rw[rJ,az ax];cases aS:(gm o.node&&u.hh&&decide (u.b4.id=o.node))with
   |true=>
    rw[aF rfl];have cH:=sx [u.b4] (pos l o.node) (upto l o.node) jO.1 jO.2 (by simp;omega)
    simp only[dn,im,aW]at cH;cases ah:hh l o.node with
    |true=>
     have ak:=uc al ah;have hw:=dW ak (show l.length<=9223372036854775807 by omega)
     have m3:upto l o.node=pos l o.node+1:=by rw[upto,aF ah]
     rw[m3]at cH ⊢;repeat' first|((first|refine du (kY _ _) ?_|refine du (v3 _) ?_|refine ad ?_);simp only[go_sem,al,hd,ah,hw,aS])|refine af ?_|fail
     exact bo (.refl _)
    |false=>
     have m3:upto l o.node=pos l o.node:=by rw[upto,az (by rw[ah];decide)]
     rw[m3]at cH ⊢;repeat' first|((first|refine du (kY _ _) ?_|refine du (v3 _) ?_|refine ad ?_);simp only[go_sem,al,hd,ah,aS])|refine af ?_|fail
     exact bo (.refl _)
   |false=>
    rw[az (by decide)]
    have cH:=sx [] (pos l o.node) (upto l o.node) jO.1 jO.2 (by simp;omega)
    simp only[im]at cH;cases ah:hh l o.node with
    |true=>
     have ak:=uc al ah;have hw:=dW ak (show l.length<=9223372036854775807 by omega)
     have m3:upto l o.node=pos l o.node+1:=by rw[upto,aF ah]
     rw[m3]at cH ⊢;repeat' first|((first|refine du (kY _ _) ?_|refine du (v3 _) ?_|refine ad ?_);simp only[go_sem,al,hd,ah,hw,aS])|refine af ?_|fail
     exact bo (.refl _)
    |false=>
     have m3:upto l o.node=pos l o.node:=by rw[upto,az (by rw[ah];decide)]
     rw[m3]at cH ⊢;repeat' first|((first|refine du (kY _ _) ?_|refine du (v3 _) ?_|refine ad ?_);simp only[go_sem,al,hd,ah,aS])|refine af ?_|fail
     exact bo (.refl _)
end
section
def xZ:List cR:=[.pure 0,.pure 0,.pure 0,.pure 0,.pure 0,.pure 0,.pure 0,.eff [false,true,true,true,true,false,false],.pure 0,.eff [false,true,true,false,false],.pure 0,.eff [false,false,false]]
def x1:List cR:=[.pure 0,.pure 0,.pure 0,.pure 0,.pure 0,.eff [false,true,true,false,false],.pure 0,.eff [false,false,false]]
def x2:List cR:=[.pure 0,.free,.free,.pure 0,.free,.pure 0,.pure 0,.free,.eff [false,false,false,false]]
attribute [go_sem] xZ x1 x2
theorem aD3(l:List aB)(o:bf)(hs:cC l=true)(hl:l.length<=1000000000)(H:ab)(i j:Nat)(b:Bool)
  (hi:ao H i=.cells 0 [.int .i64 o.at_.c,.int .i64 o.at_.r,.int .i64 o.kind,.int .i64 o.node,.int .i64 o.parent,.str o.name,.str o.data]) (aw:ao H j=.cells 0 [.sl b (l.map aW)]):
  aY Tryz.prog 229 [.ref i 0 0,.ref j 0 0] H (.bool (sP l o)):=by
 refine bh Tryz.func229 ?_;have c3:=SF b l o.parent hs (by omega) H
 repeat' first|((first|refine ea (c3) (aA) ?_|refine ep (c3) (aA) ?_|refine er (fun _=>c3) (aA) ?_|refine du (Gz _ _ _) ?_|refine ad ?_);simp only[go_sem,hi,aw])|refine af ?_|fail
 refine bC (.of ?_);rw[sP]
theorem UN(b:Bool)(l:List aB)(o:bf)(hs:pz o)(hl:l.length<=1000000000)(H:ab):aY Tryz.prog 212 [.sl b (l.map aW),bY o] H (.a0 [.sl false ((ed l o).map aW),sY (j5 l o)]):=by
 refine bh Tryz.func212 ?_;have bl:=Ee o hs;have m9:=SH b l hl;simp only[bY]at bl ⊢;cases al:cC l with
 |false=>
  have ax:refused l o=true:=by simp[refused,al]
  rw[ed,aF ax,j5,aF ax];repeat' first|((first|refine du (kY _ _) ?_|refine mx [15] xZ ?_|refine mx [16] x1 ?_|refine mx [17] x2 ?_|refine ad ?_);simp only[go_sem,al])|refine af ?_|fail
  exact bo (.refl _)
 |true=>
  cases aN:dk o with
  |false=>
   have ax:refused l o=true:=by simp[refused,aN]
   rw[ed,aF ax,j5,aF ax];repeat' first|((first|refine du (kY _ _) ?_|refine mx [15] xZ ?_|refine mx [16] x1 ?_|refine mx [17] x2 ?_|refine ad ?_);simp only[go_sem,al,aN])|refine af ?_|fail
   exact bo (.refl _)
  |true=>
   have iU:=HE b l o.node al;have sx:=MX b true l;have jO:=HC l o.node al;have gE:=fun H i j hi aw=>aD3 l o al hl H i j b hi aw
   by_cases hk:o.kind=1
   ·have fW:decide (o.kind=1)=true:=cF hk;cases fe:sP l o with
    |true=>
     have ax:refused l o=true:=by simp[refused,hk,fe]
     rw[ed,aF ax,j5,aF ax];repeat' first|((first|refine du (kY _ _) ?_|refine lp (gE _ _ _ (by simp only[go_sem,al,aN,fW,fe]) (by simp only[go_sem,al,aN,fW,fe])) (aA) ?_|refine lq (fun _=>gE _ _ _ (by simp only[go_sem,al,aN,fW,fe]) (by simp only[go_sem,al,aN,fW,fe])) (aA) ?_|refine lr (fun _=>gE _ _ _ (by simp only[go_sem,al,aN,fW,fe]) (by simp only[go_sem,al,aN,fW,fe])) (aA) ?_|refine mx [15] xZ ?_|refine mx [16] x1 ?_|refine mx [17] x2 ?_|refine ad ?_);simp only[go_sem,al,aN,fW,fe])|refine af ?_|fail
     exact bo (.refl _)
    |false=>
     have ax:¬refused l o=true:=by simp[refused,al,aN,fe]
     cases ah:hh l o.node with
     |true=>
      have ak:=uc al ah;have ae:=dg aW ak;have hw:=dW ak (show l.length<=9223372036854775807 by omega)
      have an:=HB al ah;have e:iR l o=⟨l[pos l o.node].id,o.parent,o.name,o.at_,l[pos l o.node].data,l[pos l o.node].wrote⟩:=by
       unfold iR n9;rw[aF hk,an]
      have m3:upto l o.node=pos l o.node+1:=by rw[upto,aF ah]
      rw[m3]at jO;have cH:=sx [⟨l[pos l o.node].id,o.parent,o.name,o.at_,l[pos l o.node].data,l[pos l o.node].wrote⟩] (pos l o.node) (pos l o.node+1) jO.1 jO.2 (by simp;omega)
      simp only[dn,im,aW]at cH;rw[ed,az ax,j5,az ax,e,m3,an];repeat' first|((first|refine du (kY _ _) ?_|refine lp (gE _ _ _ (by simp only[go_sem,al,aN,fW,ah,fe,ae,hw,aW]) (by simp only[go_sem,al,aN,fW,ah,fe,ae,hw,aW])) (aA) ?_|refine lq (fun _=>gE _ _ _ (by simp only[go_sem,al,aN,fW,ah,fe,ae,hw,aW]) (by simp only[go_sem,al,aN,fW,ah,fe,ae,hw,aW])) (aA) ?_|refine lr (fun _=>gE _ _ _ (by simp only[go_sem,al,aN,fW,ah,fe,ae,hw,aW]) (by simp only[go_sem,al,aN,fW,ah,fe,ae,hw,aW])) (aA) ?_|refine mx [15] xZ ?_|refine mx [16] x1 ?_|refine mx [17] x2 ?_|refine ad ?_);simp only[go_sem,al,aN,fW,ah,fe,ae,hw,aW])|refine af ?_|fail
      exact bo (.of (by simp only[sY,ah];rfl))
     |false=>
      have an:=HS ah;have e:iR l o=⟨o.node,o.parent,o.name,o.at_,[],mV⟩:=by
       unfold iR n9;rw[aF hk,an];rfl
      have m3:upto l o.node=pos l o.node:=by rw[upto,az (by rw[ah];decide)]
      rw[m3]at jO;have cH:=sx [⟨o.node,o.parent,o.name,o.at_,[],mV⟩] (pos l o.node) (pos l o.node) jO.1 jO.2 (by simp;omega)
      simp only[dn,im,aW]at cH;rw[ed,az ax,j5,az ax,e,m3,an];repeat' first|((first|refine du (kY _ _) ?_|refine lp (gE _ _ _ (by simp only[go_sem,al,aN,fW,ah,fe]) (by simp only[go_sem,al,aN,fW,ah,fe])) (aA) ?_|refine lq (fun _=>gE _ _ _ (by simp only[go_sem,al,aN,fW,ah,fe]) (by simp only[go_sem,al,aN,fW,ah,fe])) (aA) ?_|refine lr (fun _=>gE _ _ _ (by simp only[go_sem,al,aN,fW,ah,fe]) (by simp only[go_sem,al,aN,fW,ah,fe])) (aA) ?_|refine mx [15] xZ ?_|refine mx [16] x1 ?_|refine mx [17] x2 ?_|refine ad ?_);simp only[go_sem,al,aN,fW,ah,fe])|refine af ?_|fail
      exact bo (.of (by simp only[sY,ah];rfl))
   ·have fW:decide (o.kind=1)=false:=b8 hk;have ax:¬refused l o=true:=by simp[refused,al,aN,hk]
    cases ah:hh l o.node with
    |true=>
     have ak:=uc al ah;have ae:=dg aW ak;have hw:=dW ak (show l.length<=9223372036854775807 by omega)
     have an:=HB al ah;have e:iR l o=⟨l[pos l o.node].id,l[pos l o.node].parent,l[pos l o.node].name,l[pos l o.node].fB,o.data,o.at_⟩:=by
      unfold iR n9;rw[az hk,an]
     have m3:upto l o.node=pos l o.node+1:=by rw[upto,aF ah]
     rw[m3]at jO;have cH:=sx [⟨l[pos l o.node].id,l[pos l o.node].parent,l[pos l o.node].name,l[pos l o.node].fB,o.data,o.at_⟩] (pos l o.node) (pos l o.node+1) jO.1 jO.2 (by simp;omega)
     simp only[dn,im,aW]at cH;rw[ed,az ax,j5,az ax,e,m3,an];repeat' first|((first|refine du (kY _ _) ?_|refine mx [15] xZ ?_|refine mx [16] x1 ?_|refine mx [17] x2 ?_|refine ad ?_);simp only[go_sem,al,aN,fW,ah,ae,hw,aW])|refine af ?_|fail
     exact bo (.of (by simp only[sY,ah];rfl))
    |false=>
     have an:=HS ah;have e:iR l o=⟨o.node, -1,[],mV,o.data,o.at_⟩:=by
      unfold iR n9;rw[az hk,an];rfl
     have m3:upto l o.node=pos l o.node:=by rw[upto,az (by rw[ah];decide)]
     rw[m3]at jO;have cH:=sx [⟨o.node, -1,[],mV,o.data,o.at_⟩] (pos l o.node) (pos l o.node) jO.1 jO.2 (by simp;omega)
     simp only[dn,im,aW]at cH;rw[ed,az ax,j5,az ax,e,m3,an];repeat' first|((first|refine du (kY _ _) ?_|refine mx [15] xZ ?_|refine mx [16] x1 ?_|refine mx [17] x2 ?_|refine ad ?_);simp only[go_sem,al,aN,fW,ah])|refine af ?_|fail
     exact bo (.of (by simp only[sY,ah];rfl))
end
section
theorem ZI(b:Bool)(l:List aB)(dir:Int)(y:Nat)(iP:Nat->ab->Prop)(cf:∀i G L,iP i G->iP i (G++L))
  (hc:∀i (h:i<l.length) G,iP i G->oo dir l[i]=false->iP (i+1) G)
  (tt:∀i (h:i<l.length) G,iP i G->oo dir l[i]=true->vL Tryz.prog y [aW l[i]] G (fun v dt=>v=.bool true∧iP (i+1) dt)) (hl:l.length<=1073741824) (H:ab) (aC:iP 0 H):
  c5 Tryz.prog 219 [.func (.yield y) [] [],.cptr [.sl b (l.map aW)],.cptr [.int .i64 dir]] H (fun _ G=>iP l.length G):=by
 refine uM Tryz.func219 ?_;refine aT ?_;refine b5 (ι:=Nat×ab) (fun p=>[(0,.func (.yield y) [] []),(2,.cptr [.int .i64 dir]),(6,.sl b (l.map aW)),(7,.int .i64 l.length),(8,.int .i64 p.1)]) (fun p=>p.2) (fun p=>p.1<=l.length∧iP p.1 p.2) (fun p=>l.length-p.1) (0,H) ⟨bG _,aC⟩ ?_ rfl ?_
 ·simp[go_sem]
 ·rintro⟨i,G⟩ ⟨hi,hC⟩;simp only at hi hC ⊢;by_cases ak:i<l.length
  ·have ae:=dg aW ak;have aH:decide ((i:Int)<(l.length:Int))=true:=b1;have hw:=dW ak (by omega)
   have kx:=AI l[i].fB.c l[i].fB.r;by_cases h1:l[i].parent=dir
   ·have hd:decide (l[i].parent=dir)=true:=cF h1;cases h2:ox l[i].fB.c l[i].fB.r with
    |false=>
     rw[h2]at kx;repeat' first|(refine ad ?_;simp only[go_sem,ae,aH,hd,aW])|refine af ?_|fail
     exact⟨(i+1,_),⟨ak,hc i ak _ (cf _ _ _ hC) (by simp[oo,h2])⟩,by simp only;omega,bH _ hw,rfl⟩
    |true=>
     rw[h2]at kx;have aG:=tt i ak _ (cf i G [.cells 0 (aW l[i]).cells] hC) (by simp[oo,h1,h2])
     repeat' first|(refine ad ?_;simp only[go_sem,ae,aH,hd,aW])|refine af ?_|fail
     refine Po aG ?_;rintro v dt ⟨rfl,NR⟩;simp only[go_sem];repeat' first|(refine ad ?_;simp only[go_sem])|refine af ?_|fail
     exact⟨(i+1,dt),⟨ak,NR⟩,by simp only;omega,bH _ hw,rfl⟩
   ·have hd:decide (l[i].parent=dir)=false:=b8 h1;repeat' first|(refine ad ?_;simp only[go_sem,ae,aH,hd,aW])|refine af ?_|fail
    exact⟨(i+1,_),⟨ak,hc i ak _ (cf _ _ _ hC) (by simp[oo,h1])⟩,by simp only;omega,bH _ hw,rfl⟩
  ·have fx:i=l.length:=by omega
   subst fx;repeat' first|(refine ad ?_;simp only[go_sem])|refine af ?_|fail
   exact hC
theorem aHc(k:Nat)(b:Bool)(l:List aB):cX k (.sl b (l.map aW)):=(bO.sl b _ (TF l)).cl k
theorem aBI(b:Bool)(l:List aB)(dir:Int)(H:ab):aY Tryz.prog 196 [.sl b (l.map aW),.int .i64 dir] H (.func (.func 219) [] [.cptr [.sl b (l.map aW)],.cptr [.int .i64 dir]]):=by
 refine bh Tryz.func196 ?_;refine aT ?_;refine⟨_,_,rfl,?_,rfl⟩;refine .func _ _ _ _ _ rfl rfl gY (dV (Hy (bk _) (by simp only[go_sem]) ?_) (dV (Hy (by omega) (by simp only[go_sem]) ?_) gY))
 ·simp only[dA,forall_eq];exact aHc _ _ _
 ·simp only[dA,forall_eq];exact .int _ _
theorem MY(b:Bool)(l:List aB)(dir:Int)(hl:l.length<=1073741824)(H:ab):
  c5 Tryz.prog 171 [.sl b (l.map aW),.int .i64 dir] H (fun v H'=>v=.map H.length∧H'=H++[.map (fO 0 (fu l dir)) (fu l dir).length]):=by
 refine pD Tryz.func171 ?_;repeat' first|((first|refine du (aBI _ _ _) ?_|refine ad ?_);simp only[go_sem])|refine af ?_|fail
 refine MQ [(5,.ref (H.length+1) 0 0),(12,.func (.func 219) [] [.cptr [.sl b (l.map aW)],.cptr [.int .i64 dir]])] (by simp[go_sem]) ?_
 refine PW rfl (aA) fun y fT o0=>?_
 have On:(H++[bu.map [] 0,.cells 0 [.map H.length]]).length=H.length+2:=by simp
 rw[On,cr];let M:Nat->List (aM×aB):=fun i=>(l.take i).foldl (l4 dir) []
 let iP:Nat->ab->Prop:=fun i G=>∃L,G=(H++[.map (fO 0 (M i)) (M i).length,.cells 0 [.map H.length],fT])++L
 have kO:∀i (h:i<l.length),M (i+1)=l4 dir (M i) l[i]:=fun i h=>by
  simp only[M];rw[eB h,s4];rfl
 refine(ZI b l dir y iP (fun i G L ⟨gk,e⟩=>⟨gk++L,by rw[e,cr]⟩) (fun i h G ⟨L,e⟩ hd=>⟨L,by rw[e,kO i h,l4,az (by rw[hd];simp)]⟩) (fun i h G ⟨L,e⟩ hd=>?_) hl _ ⟨[],by simp[M,fO]⟩).mono fun _ G ⟨L,e⟩=>?_
 ·have gF:=kO i h;rw[l4,aF hd]at gF;have ar:ao G H.length=.map (fO 0 (M i)) (M i).length:=by rw[e];exact bQ (b:=.map _ _) (by simp only[go_sem]) trivial L
  have au:ao G (H.length+1)=.cells 0 [.map H.length]:=by rw[e];exact bQ (b:=.cells _ _) (by simp only[go_sem]) trivial L
  have bd:ao G (H.length+2)=fT:=by rw[e];exact bQ (by simp only[go_sem]) (by rw[o0];trivial) L
  have yh:fT.live:=by rw[o0];trivial
  refine LA bd o0 rfl rfl rfl rfl fun lg fin nB yf gC iI=>?_
  have f3:=bz bd yh;have ch:=jI bd yh;simp only[xM];refine qn rfl ?_;simp only[go_sem,f3,ch,aW];obtain⟨dd,ek⟩:∃dd,ai G (H.length+2) lg=dd:=⟨_,rfl⟩;rw[ek];have nD:=c8 bd yh;have hlen:G.length=dd.length:=by rw[<-ek];simp[ai]
  have dq:ao dd H.length=.map (fO 0 (M i)) (M i).length:=by rw[<-ek];exact bM ar (by omega) lg
  have bZ:ao dd (H.length+1)=.cells 0 [.map H.length]:=by rw[<-ek];exact bM au (by omega) lg
  have dO:ao dd (H.length+2)=lg:=by rw[<-ek];exact dT nD lg
  have k1:=bz dq trivial;have k2:=bz bZ trivial;have k3:=bz dO yf;have s1:=jI dq trivial;rw[hlen];have mK:iy .string (fO 0 (M i))=True:=bJ (L4 0 _);clear o0 nB iI;have bX:∀Y,M (i+1)=M i->ug (H.length+2) lg fin dd (fun v dt=>v=.bool true∧iP (i+1) dt) true none (dd++Y):=fun Y tt=>
   ⟨k3 _,dd,Y,rfl,rfl,fun _ _ h=>.inl h,rfl,L,by rw[gC,<-ek,iQ,kr bd yh,tt];exact e⟩
  have na:∀Y,M (i+1)=hO l[i].name l[i] (M i)->ug (H.length+2) lg fin dd (fun v dt=>v=.bool true∧iP (i+1) dt) true none
    (ai dd H.length (.map (hB (.str l[i].name) (aW l[i]) (fO 0 (M i)) (M i).length) (pQ (.str l[i].name) (fO 0 (M i)) (M i).length))++Y):=fun Y tt=>by
   rw[aBw,<-tt];refine⟨bz (bM dO (by omega) _) yf _,_,Y,rfl,by rw[aX],pI (TC _ _ _),rfl,L,?_⟩
   rw[gC,<-ek,tj _ _ _ (by omega),iQ,kr bd yh,e]
   simp[ai,List.set_append]
  rcases Tl 0 (M i) l[i].name with⟨aQ,aO⟩|⟨o,j,aQ,aO⟩
  ·refine b0 aW.eq_1 ?_;exact na _ (by rw[gF,q0,aQ])
  ·have V2:=My l[i].fB.c l[i].fB.r o.fB.c o.fB.r;cases ak:xH l[i].fB.c l[i].fB.r o.fB.c o.fB.r with
   |true=>
    rw[ak]at V2;refine b0 aW.eq_1 ?_;exact bX _ (by rw[gF,q0,aQ];exact aF ak)
   |false=>
    rw[ak]at V2;refine b0 aW.eq_1 ?_;exact na _ (by rw[gF,q0,aQ];exact az (by rw[ak];simp))
 ·have yj:M l.length=fu l dir:=by simp only[M];rw[eQ];rfl
  rw[yj]at e;have ar:ao G H.length=.map (fO 0 (fu l dir)) (fu l dir).length:=by rw[e];exact bQ (b:=.map _ _) (by simp only[go_sem]) trivial L
  have au:ao G (H.length+1)=.cells 0 [.map H.length]:=by rw[e];exact bQ (b:=.cells _ _) (by simp only[go_sem]) trivial L
  have bd:ao G (H.length+2)=fT:=by rw[e];exact bQ (by simp only[go_sem]) (by rw[o0];trivial) L
  refine .inl ⟨.ready,by simp,bd.trans o0,fun X=>?_⟩
  have bE:=bM au (i:=H.length+2) (by omega) X
  have cE:ai G (H.length+2) X=(H++[.map (fO 0 (fu l dir)) (fu l dir).length])++(.cells 0 [.map H.length]::X::L):=by rw[e];simp[ai,List.set_append]
  obtain⟨cZ,fh⟩:∃cZ,ai G (H.length+2) X=cZ:=⟨_,rfl⟩;rw[fh]at bE cE ⊢;simp only[go_sem];repeat' first|(refine ad ?_;simp only[go_sem,bE])|refine af ?_|fail
  refine⟨_,_,_,cE,by simp,fun j cN aw=>?_,.cl _ (.map _ (by simp)),rfl,rfl⟩
  by_cases ak:j<H.length
  ·rw[iC ak]at aw;exact .inl aw
  ·rw[qf (by omega)]at aw
   refine .inr ?_;cases hk:j-H.length with
   |zero=>rw[hk]at aw;cases aw;exact TC _ _ _
   |succ k=>rw[hk]at aw;simp at aw
def xb(o:Option aB):I:=.a0 [.int .i64 ((o.map (·.id)).getD 0),.bool o.isSome]
theorem HF(b:Bool)(l:List aB)(dir:Int)(s:aM)(hl:l.length<=1073741824)(H:ab):aY Tryz.prog 123 [.sl b (l.map aW),.int .i64 dir,.str s] H (xb (fp l dir s)):=by
 refine bh Tryz.func123 ?_;cases hs:cC l with
 |false=>
  have he:fp l dir s=none:=by simp[fp,hs]
  rw[he];repeat' first|((first|refine du (kY _ _) ?_|refine ad ?_);simp only[go_sem,hs])|refine af ?_|fail
  exact bC (.refl _)
 |true=>
  have he:fp l dir s=hA s (fu l dir):=by simp[fp,hs]
  rw[he];repeat' first|((first|refine du (kY _ _) ?_|refine ad ?_);simp only[go_sem,hs])|refine af ?_|fail
  refine c6 (MY b l dir hl H) (aA) ?_;rintro v H' ⟨rfl,rfl⟩;have mK:iy .string (fO 0 (fu l dir))=True:=bJ (L4 0 _);rcases Tl 0 (fu l dir) s with⟨aQ,aO⟩|⟨o,j,aQ,aO⟩
  ·rw[aQ];simp only[go_sem,mK,aO];refine b0 aW.eq_1 ?_;exact bo (.refl _)
  ·rw[aQ];simp only[go_sem,mK,aO,aW];refine b0 aW.eq_1 ?_;exact bo (.refl _)
def sT(r:Int×Int):I:=.a0 [.int .i64 r.1,.int .i64 r.2]
theorem Zf(l:List aB)(at_:Int)(s:aM)(names:List aM):jo l at_ (s::names)=if dy at_=true then(match fp l at_ s with|some n=>jo l n.id names|none=>(0,80))else(0,81):=rfl
theorem G8(b cN:Bool)(l:List aB)(names:List aM)(hl:l.length<=1073741824)(H:ab):aY Tryz.prog 169 [.sl b (l.map aW),.sl cN (names.map I.str)] H (sT (fg l names)):=by
 refine nz fun _ bl=>?_
 have ag:=lI bl;rw[cP]at ag;refine bh Tryz.func169 ?_;refine aT ?_;refine b5 (ι:=Nat×Int) (fun p=>[(0,.sl b (l.map aW)),(11,.sl cN (names.map I.str)),(12,.int .i64 names.length),(13,.int .i64 p.1),(6,.int .i64 p.2)]) (fun _=>H) (fun p=>p.1<=names.length∧fg l names=jo l p.2 (names.drop p.1)) (fun p=>names.length-p.1) (0,0) ⟨bG _,rfl⟩ ?_ rfl ?_
 ·simp[go_sem]
 ·rintro⟨i,at_⟩ ⟨hi,he⟩
  simp only at hi he ⊢;by_cases ak:i<names.length
  ·have ae:=dg I.str ak;have aH:decide ((i:Int)<(names.length:Int))=true:=b1;have hw:=dW ak ag;have hd:=sX at_
   have iH:=HF b l at_ names[i] hl
   rw[eo ak,Zf]at he;cases h1:dy at_ with
   |false=>
    rw[h1]at hd he;repeat' first|(refine ad ?_;simp only[go_sem,ae,aH])|refine af ?_|fail
    exact bC (.of (by rw[he];rfl))
   |true=>
    rw[h1,aF rfl]at he;rw[h1]at hd;cases h2:fp l at_ names[i]with
    |none=>
     rw[h2]at iH he;simp only[xb,Bf,Be,A8]at iH;repeat' first|(refine ad ?_;simp only[go_sem,ae,aH])|refine af ?_|fail
     exact bC (.of (by rw[he];rfl))
    |some n=>
     rw[h2]at iH he;simp only[xb,rY,oJ,xp]at iH;repeat' first|(refine ad ?_;simp only[go_sem,ae,aH])|refine af ?_|fail
     exact⟨(i+1,n.id),⟨ak,he⟩,by simp only;omega,bH _ hw,rfl⟩
  ·have fx:i=names.length:=by omega
   subst fx;have aH:decide ((names.length:Int)<(names.length:Int))=false:=by simp
   repeat' first|(refine ad ?_;simp only[go_sem,aH])|refine af ?_|fail
   exact bC (.of (by rw[he,l7];rfl))
end
end Go.Proofs.YthafnbmdmfoobaaGreatDoor
