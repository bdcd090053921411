/- What the functions of this seat answer (23 of 40). No condition. -/
import Derived.Test.YthafnbmdmfoobaaGreatDoorWorkAV
set_option linter.unusedSimpArgs false
set_option linter.unusedVariables false
set_option maxRecDepth 100000
set_option maxHeartbeats 16000000
namespace Go.Proofs.YthafnbmdmfoobaaGreatDoor
section
def gO(x:bn)(i:Nat):List Int:=((x.aq.take i).zipIdx.filter (qI x)).map fun p=>(p.2:Int)
theorem Za(x:bn){i:Nat}(hi:i<x.aq.length):gO x (i+1)=gO x i++if qI x (x.aq[i],i)=true then[(i:Int)]else[]:=by
 unfold gO;rw[eB hi,List.zipIdx_append,ld,n0,e8,uu (by omega)]
 congr 1;simp only[List.zipIdx_cons,List.zipIdx_nil,mX,List.filter_nil,mC];split<;>simp_all
theorem RC(x:bn):gO x x.aq.length=(jM x).map fun n:Nat=>(n:Int):=by
 unfold gO jM;rw[eQ,rW];rfl
theorem RD(x:bn)(i:Nat):(gO x i).length<=i:=by
 unfold gO;rw[cP];have h1:=nX (qI x) (x.aq.take i).zipIdx;rw[List.length_zipIdx,e8]at h1;omega
theorem aGq(f1 f2 f3 f4 f5 f6 f7 f8 f9:Bool)(x:bn)(ag:x.aq.length<=1000)(H:ab):aY Tryz.prog 42 [e4 f1 f2 f3 f4 f5 f6 f7 f8 f9 x] H (.sl false (((jM x).map fun n:Nat=>(n:Int)).map bj)):=by
 refine bh Tryz.func42 ?_;have VU:=aDo f7 x.g;repeat' first|(refine ad ?_;simp only[go_sem,e4,gu])|refine bx ?_|(refine bD ?_ ?_<;>intro h<;>try exact bB h)|fail
 obtain⟨X,ez⟩:∃X,(e4 f1 f2 f3 f4 f5 f6 f7 f8 f9 x).cells=X:=⟨_,rfl⟩;have Cp:=ez;simp only[e4,gu,I.cells]at Cp;rw[Cp];refine sF 3 1 rfl ?_;simp only[go_sem];refine b5 (ι:=Nat×ab) (fun s=>[(1,.ref H.length 0 0),(3,.osl 1 (H.length+1) ((gO x s.1).length+1) 0 (gO x s.1).length (gO x s.1).length),(12,.sl f8 (x.aq.map aR)),(13,.int .i64 x.aq.length),(14,.int .i64 s.1)])
  (fun s=>H++(.cells 0 X::.cells ((gO x s.1).length+1) ((gO x s.1).map bj)::s.2)) (fun s=>s.1<=x.aq.length) (fun s=>x.aq.length-s.1) (0,[]) (bG _) ?_ rfl ?_
 ·simp[go_sem,gO]
 rintro⟨i,M⟩ hi;simp only at hi ⊢;have uV:=RD x i;obtain⟨G,aT⟩:∃G,H++(.cells 0 X::.cells ((gO x i).length+1) ((gO x i).map bj)::M)=G:=⟨_,rfl⟩;have cw:ao G H.length=.cells 0 (e4 f1 f2 f3 f4 f5 f6 f7 f8 f9 x).cells:=by rw[<-aT,ez];simp only[go_sem]
 have a7:ao G (H.length+1)=.cells ((gO x i).length+1) ((gO x i).map bj):=by rw[<-aT];simp only[go_sem]
 simp only[e4,gu,I.cells]at cw;by_cases ak:i<x.aq.length
 ·rw[aT];have aZ:=bz cw trivial;have ch:=bz a7 trivial;have fc:=jI a7 trivial;have gs:∀Y,ai G (H.length+1) Y=H++(.cells 0 X::Y::M):=fun Y=>by rw[<-aT];simp only[go_sem]
  have ae:=dg aR ak;have aH:decide ((i:Int)<(x.aq.length:Int))=true:=b1;have gq:IntKind.i64.wrap ((i:Int)+1)=((i+1:Nat):Int):=dW ak (by omega)
  have Ag:=Za x ak;obtain⟨t,aj⟩:∃t,t=x.aq[i]:=⟨_,rfl⟩;rw[<-aj]at ae Ag;simp only[aR]at ae;have Jy:=aCs f5 f6 x.t (i:Int);have tD:=Sd f7 x.g (i:Int);simp only[fN,kN,It,MZ]at Jy tD VU;have bX:qI x (t,i)=false->∃y:Nat×ab,y.1<=x.aq.length∧x.aq.length-y.1<x.aq.length-i∧(I.osl 1 (H.length+1) ((gO x i).length+1) 0 (gO x i).length (gO x i).length=I.osl 1 (H.length+1) ((gO x y.1).length+1) 0 (gO x y.1).length (gO x y.1).length∧I.int .i64 (IntKind.i64.wrap ((i:Int)+1))=.int .i64 (y.1:Int))∧G++[.cells 0 (aR t).cells]=H++(.cells 0 X::.cells ((gO x y.1).length+1) ((gO x y.1).map bj)::y.2):=fun aa=>by
   rw[aa,az (by decide),b2]at Ag
   exact⟨(i+1,M++[.cells 0 (aR t).cells]),ak,by simp only;omega,⟨by simp only[Ag],bH _ gq⟩,by simp only[Ag];rw[<-aT];simp⟩
  have na:qI x (t,i)=true->∃y:Nat×ab,y.1<=x.aq.length∧x.aq.length-y.1<x.aq.length-i∧(I.osl 1 (H.length+1) ((gO x i).length+2) 0 ((gO x i).length+1) ((gO x i).length+1)=I.osl 1 (H.length+1) ((gO x y.1).length+1) 0 (gO x y.1).length (gO x y.1).length∧I.int .i64 (IntKind.i64.wrap ((i:Int)+1))=.int .i64 (y.1:Int))∧ai G (H.length+1) (.cells ((gO x i).length+2) ((gO x i).map bj++[.int .i64 i]))++[.cells 0 (aR t).cells]=H++(.cells 0 X::.cells ((gO x y.1).length+1) ((gO x y.1).map bj)::y.2):=fun aa=>by
   rw[aa,aF rfl]at Ag;exact⟨(i+1,M++[.cells 0 (aR t).cells]),ak,by simp only;omega,⟨by simp only[Ag,bt,cm,ew],bH _ gq⟩,by simp only[Ag];rw[gs];simp[bj]⟩
  have sm:((gO x i).length * 1=(gO x i).length∧(∀(e:I),e=I.int IntKind.i64 ↑i->e.cells.length=1)∧((gO x i).length+1) * 8<=140737488355328):=⟨by omega,fun e he=>(by rw[he];rfl),by omega⟩
  simp only[aR,I.cells]at bX na;cases he:t.ended with
  |true=>
   repeat' first|(refine ad ?_;simp only[go_sem,ae,aH,he])|refine bx ?_|(refine bD ?_ ?_<;>intro h<;>try exact bB h)|fail
   rw[he]at bX;exact bX (by unfold qI;simp[he])
  |false=>
   rw[he]at bX;cases hw:um x.t.waits i with
   |some k=>
    rw[hw]at Jy;repeat' first|(refine ad ?_;simp only[go_sem,ae,aH,he,cw,aZ,a7,ch])|refine bx ?_|(refine bD ?_ ?_<;>intro h<;>try exact bB h)|fail
    exact bX (by unfold qI;simp[hw])
   |none=>
    rw[hw]at Jy;cases aJ:ie x.g i with
    |false=>
     rw[aJ]at tD;have aa:qI x (t,i)=true:=by unfold qI;simp[he,hw,aJ]
     repeat' first|(refine ad ?_;simp only[go_sem,ae,aH,he,cw,aZ,a7,ch,fc])|refine bx ?_|(refine bD ?_ ?_<;>intro h<;>try exact bB h)|fail
     rw[he]at na;exact na aa
    |true=>
     rw[aJ]at tD;repeat' first|(refine ad ?_;simp only[go_sem,ae,aH,he,cw,aZ,a7,ch,fc])|refine bx ?_|(refine bD ?_ ?_<;>intro h<;>try exact bB h)|fail
     ·refine bX ?_;unfold qI;simp only[xq,nk,nm]at h;have:¬xK x.g=some (i:Int):=fun e=>by rw[e]at h;simp at h
      simp[he,hw,aJ,this]
     ·rw[he]at na;refine na ?_;unfold qI;simp only[xl,Bool.not_eq_false',hR]at h;have:xK x.g=some (i:Int):=by
       obtain⟨h1,h2⟩:=h;cases hl:xK x.g with
       |none=>rw[hl]at h1;cases h1
       |some k=>rw[hl]at h2;simp only[oJ]at h2;rw[h2]
      simp[he,hw,aJ,this]
 ·have fx:i=x.aq.length:=by omega
  subst fx;have aH:decide ((x.aq.length:Int)<(x.aq.length:Int))=false:=by simp
  rw[aT];repeat' first|(refine ad ?_;simp only[go_sem,aH])|refine bx ?_|(refine bD ?_ ?_<;>intro h<;>try exact bB h)|fail
  refine⟨_,_,aT.symm,sG (es:=(gO x x.aq.length).map bj) (rest:=[]) (by omega) a7 (by rw[va,b2]) (by rw[cP]) (fun e he=>?_) (fun e he=>?_),by rw[RC]⟩
  ·obtain⟨n,_,rfl⟩:=bP.1 he;rfl
  ·obtain⟨n,_,rfl⟩:=bP.1 he;simp only[bj,go_sem]
def M0(x:bn)(p:Int):I:=match vS x p with
 |none=>.a0 [.int .i64 0,.bool false,.bool false]
 |some n=>.a0 [.int .i64 n,.bool (ie x.g n),.bool true]
theorem aEN{p:Int}{n:Nat}(ag:0<n)(h2:n<=1000):(IntKind.i64.wrap (p.tmod n+n)).tmod n=p % n:=by
 have aC:(0:Int)<n:=by omega
 have dq:=Int.tmod_lt_of_pos p aC;have bZ: -(n:Int)<p.tmod n:=Int.lt_tmod_of_pos p aC;rw[wrap_i64 (n:=p.tmod n+n) (by omega) (by omega),DH (by omega),Int.add_emod_right,Int.tmod_eq_emod]
 split
 ·simp
 ·rw[Int.sub_emod];simp
theorem aEO(f1 f2 f3 f4 f5 f6 f7 f8 f9:Bool)(x:bn)(p:Int)(ag:x.aq.length<=1000)(H:ab):aY Tryz.prog 25 [e4 f1 f2 f3 f4 f5 f6 f7 f8 f9 x,.int .i64 p] H (M0 x p):=by
 refine bh Tryz.func25 ?_;have c3:=aGq f1 f2 f3 f4 f5 f6 f7 f8 f9 x ag;unfold M0 vS;by_cases aC:jM x=[]
 ·rw[aF aC];rw[aC]at c3;simp only[e4,gu]at c3;repeat' first|(refine ad ?_;simp only[go_sem,e4,gu])|refine bx ?_|(refine bD ?_ ?_<;>intro h<;>try exact bB h)|fail
  exact bo (.refl _)
 ·rw[az aC];have hl:0<(jM x).length:=vF.2 aC;have cO:(jM x).length<=1000:=by
   have:=RD x x.aq.length;rw[RC,cP]at this;omega
  have d0:decide (((jM x).length:Int)=0)=false:=cg;simp only[e4,gu]at c3;have h1:0<=p % ((jM x).length:Int):=Int.emod_nonneg _ (by omega)
  have h2:p % ((jM x).length:Int)<(jM x).length:=Int.emod_lt_of_pos _ (by omega)
  obtain⟨k,hk⟩:∃k:Nat,p % ((jM x).length:Int)=k:=⟨_,(Int.toNat_of_nonneg h1).symm⟩;have gD:k<(jM x).length:=by omega
  have hw:=aEN (p:=p) hl cO;rw[hk]at hw ⊢;have ae:((((jM x).map fun n:Nat=>(n:Int)).map bj).getD k I.top)=.int .i64 ((jM x)[k]:Nat):=by
   rw[eP,nj,nj,c0 gD];rfl
  have cG:(jM x).getD ((k:Int)).toNat 0=(jM x)[k]:=by rw[j6,eP,c0 gD];rfl
  simp only[cG];have tD:=Sd f7 x.g ((jM x)[k]:Nat);simp only[kN]at tD;repeat' first|(refine ad ?_;simp only[go_sem,e4,gu,d0,cP,hw,ae,gD])|refine bx ?_|(refine bD ?_ ?_<;>intro h<;>try exact bB h)|fail
  exact bo (.refl _)
end
section
def Ex(a b:aM):Int:=if kZ a b=true then-1 else if kZ b a=true then 1 else 0
theorem aHt(a b:aM):decide (Ex a b<0)=kZ a b:=by
 unfold Ex;cases h:kZ a b with
 |true=>rfl
 |false=>
  rw[az (by simp)]
  split<;>rfl
theorem aBU(a:Int)(H:ab):aY Tryz.prog 251 [.int .i32 a] H (.bool false):=by
 refine bh Tryz.func251 ?_;have aC:decide (a=a)=true:=cF rfl;repeat' first|(refine ad ?_;simp only[go_sem,aC])|refine af ?_|fail
 exact bC (.of (by simp))
def xS(a b:Int):Int:=if a<b then-1 else if b<a then 1 else 0
theorem aGr(a b:Int)(H:ab):aY Tryz.prog 238 [.int .i32 a,.int .i32 b] H (.int .i64 (xS a b)):=by
 refine bh Tryz.func238 ?_;unfold xS;repeat' first|((first|refine du (aBU _) ?_|refine ad ?_);simp only[go_sem])|refine bx ?_|(refine bD ?_ ?_<;>intro h<;>try exact bB h)|fail
 all_goals exact bC (.of (bH _ (by simp only[hR,nm]at *;(repeat' split)<;>omega)))
def HP(s:aM)(k:Nat):bu:=.cells 1 (((s.take k).map fun b=>I.int .i32 ((b.toNat:Int)+1114112))++List.replicate (s.length-k) (I.int .i32 0))
theorem Sv(s:aM)(hs:s.length<=1073741824)(H:ab):aY Tryz.prog 224 [.str s] H (.sl false ((hJ s).map jT)):=by
 refine bh Tryz.func224 ?_;have dK:=Sz s hs;unfold hJ;cases al:rI s with
 |some l=>
  rw[al]at dK;simp only[Ed]at dK;repeat' first|(refine ad ?_;simp only[go_sem])|refine af ?_|fail
  exact zk (.sl _ _ fun e he=>by obtain⟨x,_,rfl⟩:=bP.1 he;exact .int _ _) (.refl _)
 |none=>
  rw[al]at dK;simp only[Ed]at dK;repeat' first|(refine ad ?_;simp only[go_sem])|refine af ?_|fail
  refine b5 (ι:=Nat) (fun k=>[(0,.str s),(3,.osl 1 H.length 1 0 k s.length),(17,.int .i64 s.length),(18,.int .i64 k)]) (fun k=>H++[HP s k]) (fun k=>k<=s.length) (fun k=>s.length-k) 0 (bG _) ?_ (by simp[HP,Lt]) ?_
  ·simp[go_sem]
  intro k hk;by_cases ak:k<s.length
  ·have aH:decide ((k:Int)<(s.length:Int))=true:=b1;have cG:s.getD k 0=s[k]:=by simp[eP,ak]
   have aa:=s[k].toNat_lt;have ca:IntKind.i32.wrap ((s[k].toNat:Nat):Int)=((s[k].toNat:Nat):Int):=by simp[IntKind.wrap,IntKind.bits,IntKind.signed];omega
   have bT:IntKind.i32.wrap (1114111+((s[k].toNat:Nat):Int))=1114111+((s[k].toNat:Nat):Int):=by simp[IntKind.wrap,IntKind.bits,IntKind.signed];omega
   have dL:IntKind.i32.wrap (1114111+((s[k].toNat:Nat):Int)+1)=((s[k].toNat:Nat):Int)+1114112:=by simp[IntKind.wrap,IntKind.bits,IntKind.signed];omega
   have gH:IntKind.i64.wrap ((k:Int)+1)=((k+1:Nat):Int):=b9 (by omega) (by omega)
   have aP:(k=s.length)=False:=uy (by omega)
   obtain⟨m,hm⟩:∃m,s.length-k=m+1:=⟨s.length-k-1,by omega⟩
   have rp:s.length-(k+1)=m:=by omega
   have nI:=Kl ((s.take k).map fun b=>I.int .i32 ((b.toNat:Int)+1114112)) m (.int .i32 0) (.int .i32 ((s[k].toNat:Int)+1114112))
   rw[cP,e8,uu hk]at nI;have aS:(∀e,e=I.int .i32 ((s[k].toNat:Int)+1114112)->e.cells.length=1)=True:=bJ fun e he=>by rw[he];rfl
   unfold HP;rw[hm];repeat' first|(refine ad ?_;simp only[go_sem,aH,cG,ca,bT,dL,gH,aP,aS,eE,nI])|refine af ?_|fail
   exact⟨k+1,ak,by omega,⟨rfl,rfl⟩,by rw[rp,eB ak,n0,cr];rfl⟩
  ·have g3:k=s.length:=by omega
   subst g3;have aH:decide ((s.length:Int)<(s.length:Int))=false:=by simp
   unfold HP;repeat' first|(refine ad ?_;simp only[go_sem,aH])|refine af ?_|fail
   rw[eQ];exact p3 (es:=(s.map fun b=>((b.toNat:Int)+1114112)).map jT) (rest:=List.replicate (s.length-s.length) (I.int .i32 0)) (bk _) (by simp only[go_sem];rfl) (by rw[Nat.sub_self,List.replicate_zero];congr 1;rw[rW,List.flatMap_map];exact List.map_eq_flatMap ..) (by simp) (fun e he=>by obtain⟨c,_,rfl⟩:=bP.1 he;rfl) (fun e he=>by obtain⟨c,_,rfl⟩:=bP.1 he;exact .int _ _) rfl
theorem aEP(aV bm:Bool)(l m:List Int)(H:ab):aY Tryz.prog 223 [.sl aV (l.map jT),.sl bm (m.map jT)] H (.int .i64 (ig l m)):=by
 refine nz fun bl _=>?_
 have hl:=lI bl;rw[cP]at hl;refine bh Tryz.func223 ?_;obtain⟨X,ez⟩:∃X,ig l m=X:=⟨_,rfl⟩;rw[ez];repeat' first|(refine ad ?_;simp only[go_sem])|refine af ?_|fail
 refine b5 (ι:=Nat) (fun k=>[(0,.sl aV (l.map jT)),(1,.sl bm (m.map jT)),(9,.sl aV (l.map jT)),(10,.int .i64 l.length),(11,.int .i64 k)]) (fun _=>H) (fun k=>k<=l.length∧k<=m.length∧ig (l.drop k) (m.drop k)=X) (fun k=>l.length-k) 0 ⟨bG _,bG _,by simpa using ez⟩ ?_ rfl ?_
 ·simp[go_sem]
 rintro k ⟨h1,h2,h3⟩;by_cases ak:k<l.length
 ·have aH:decide ((k:Int)<(l.length:Int))=true:=b1;have ae:=dg jT ak;have hw:IntKind.i64.wrap ((k:Int)+1)=((k+1:Nat):Int):=by rw[cB];rfl
  rw[eo ak]at h3;by_cases hm:k<m.length
  ·have ec:decide ((m.length:Int)<=(k:Int))=false:=cg;have aS:=dg jT hm;have al:=aGr l[k] m[k];rw[eo hm,ig]at h3;by_cases aP:xS l[k] m[k]=0
   ·have a2:decide (xS l[k] m[k]=0)=true:=cF aP;have:¬l[k]<m[k]∧¬m[k]<l[k]:=by unfold xS at aP;(repeat' split at aP)<;>omega
    rw[az this.1,az this.2]at h3;repeat' first|(refine ad ?_;simp only[go_sem,aH,ec,ae,aS,a2,hw,jT])|refine af ?_|fail
    exact⟨k+1,⟨ak,hm,h3⟩,by omega,rfl⟩
   ·have a2:decide (xS l[k] m[k]=0)=false:=b8 aP;have:xS l[k] m[k]=X:=by rw[<-h3];unfold xS at aP ⊢;(repeat' split)<;>first|rfl|omega
    repeat' first|(refine ad ?_;simp only[go_sem,aH,ec,ae,aS,a2,jT])|refine af ?_|fail
    exact bC (.of (by rw[this]))
  ·have ec:decide ((m.length:Int)<=(k:Int))=true:=b1;rw[show m.drop k=[]from Ho (by omega),ig]at h3
   repeat' first|(refine ad ?_;simp only[go_sem,aH,ec,ae,jT])|refine af ?_|fail
   exact bC (.of (by rw[<-h3]))
 ·have aH:decide ((k:Int)<(l.length:Int))=false:=cg;rw[show l.drop k=[]from Ho (by omega)]at h3
  by_cases hm:l.length<m.length
  ·have ec:decide ((l.length:Int)<(m.length:Int))=true:=b1;rw[eo (show k<m.length by omega),ig]at h3
   repeat' first|(refine ad ?_;simp only[go_sem,aH,ec])|refine af ?_|fail
   exact bC (.of (by rw[<-h3]))
  ·have ec:decide ((l.length:Int)<(m.length:Int))=false:=cg;rw[show m.drop k=[]from Ho (by omega),ig]at h3
   repeat' first|(refine ad ?_;simp only[go_sem,aH,ec])|refine af ?_|fail
   exact bC (.of (by rw[<-h3]))
theorem Sw(a b:aM)(aD:a.length<=1073741824)(aa:b.length<=1073741824)(H:ab):aY Tryz.prog 203 [.str a,.str b] H (.bool (kZ a b)):=by
 refine bh Tryz.func203 ?_;have h1:=Sv a aD;have h2:=Sv b aa;have h3:=aEP false false (hJ a) (hJ b);repeat' first|(refine ad ?_;simp only[go_sem])|refine af ?_|fail
 exact bC (.refl _)
theorem aAi(a b:aM)(aD:a.length<=1073741824)(aa:b.length<=1073741824)(H:ab):aY Tryz.prog 202 [.str a,.str b] H (.int .i64 (Ex a b)):=by
 refine bh Tryz.func202 ?_;have h1:=Sw a b aD aa;have h2:=Sw b a aa aD;unfold Ex;repeat' first|(refine ad ?_;simp only[go_sem])|refine bx ?_|(refine bD ?_ ?_<;>intro h<;>try exact bB h)|fail
 all_goals exact bC (.of (by simp_all))
theorem aGs:qX Tryz.prog (.func (.func 202) [] []) (fun a b=>Ex a.1 b.1):=fun a b H=>.inl ⟨(aA),aAi a.1 b.1 a.2 b.2 H⟩
end
end Go.Proofs.YthafnbmdmfoobaaGreatDoor
