/- The texts 25 of 53 beneath the rows of this seat (joined by program): the abstract machine, and what the functions answer. No condition. -/
import Derived.Test.YtolbeecicikoaaaGreatDoorWorkAM
import Derived.Test.YtolbeecicikoaaaGreatDoorWorkAN
import Derived.Test.YtolbeecicikoaaaGreatDoorWorkAS
set_option linter.unusedSimpArgs false
set_option linter.unusedVariables false
set_option linter.unusedSectionVars false
set_option maxRecDepth 100000
set_option maxHeartbeats 16000000
namespace Go.Proofs.YtolbeecicikoaaaGreatDoor
def rsp(out:List Txt)(seg:Txt):List UInt8→Option (List Txt)
 |[]=>if dO seg=true∧out.length≠16 then some (out++[seg])else none
 |c::rest=>if c=47 then(if dO seg=true∧out.length≠16 then rsp (out++[seg]) [] rest else none)else rsp out (seg++[c]) rest
def vX(seg:Txt):List Txt→List Txt
 |[]=>[seg]
 |x::t=>(seg++x)::t
theorem aRq(rest:List UInt8):∀(out:List Txt) (seg:Txt),out.length≤16→rsp out seg rest=if(vX seg (cA 47 rest)).all dO=true∧out.length+(cA 47 rest).length≤16 then some (out++vX seg (cA 47 rest))else none:=by
 induction rest with
 |nil=>
  intro out seg h
  simp only[rsp,cA,vX,zAg,List.all_cons,List.all_nil,zBE,zAm,zAE]
  by_cases h1:dO seg=true∧out.length≠16
  ·rw[zAc h1,zAc ⟨h1.1,by omega⟩]
  ·rw[zAb h1,zAb (fun q=>h1 ⟨q.1,by omega⟩)]
 |cons c rest ih=>
  intro out seg h
  obtain⟨y,t,hs⟩:∃y t,cA 47 rest=y::t:=by
   cases hs:cA 47 rest with
   |nil=>exact absurd hs (mT 47 rest)
   |cons y t=>exact⟨y,t,rfl⟩
  rw[rsp,cA,hs]
  simp only
  by_cases hc:c=47
  ·rw[zAc hc,zAc hc]
   by_cases h1:dO seg=true∧out.length≠16
   ·rw[zAc h1,ih _ _ (by simp;omega),hs]
    simp only[vX,zAG,zAg,List.all_cons,h1.1,zAB,zAe,zAm,zAE,zAu,zA1]
    congr 1
    apply propext
    constructor<;>rintro⟨a,b⟩<;>exact⟨a,by omega⟩
   ·rw[zAb h1,zAb]
    simp only[vX,zAg,List.all_cons,zAl,zAm]
    rintro⟨⟨a, -⟩,b⟩
    exact h1 ⟨a,by omega⟩
  ·rw[zAb hc,zAb hc,ih _ _ h,hs]
   have e1:vX (seg++[c]) (y::t)=vX seg ((c::y)::t):=by simp[vX]
   rw[e1]
   rfl
theorem aH7(l:List Txt)(h:l≠[]):vX [] l=l:=by
 cases l with
 |nil=>exact absurd rfl h
 |cons x t=>rfl
theorem aNK(l:Txt):rsp [] [] l=if aAQ (cA 47 l)=true then some (cA 47 l)else none:=by
 rw[aRq l [] [] (zAn _),aH7 _ (mT 47 l),aAQ]
 simp only[zAE,zBo,zAG,zAl,zAr]
 congr 1
 apply propext
 constructor<;>rintro⟨a,b⟩<;>exact⟨by omega,by first|exact a|omega⟩
def aFu(a b:Nd):Bool:=iI b.moved.c b.moved.r a.moved.c a.moved.r||(decide (a.moved=b.moved)&&decide (b.id<a.id))
def mB(dir:Int)(s:Txt)(b:Option Nd)(n:Nd):Option Nd:=if(zN dir n&&decide (n.name=s)&&(match b with|none=>true|some o=>aFu n o))=true then some n else b
theorem sW(s:Txt)(n:Nd)(m:List (Txt×Nd))(u:Txt):bT s (gL u n m)=if u=s then some n else bT s m:=by
 induction m with
 |nil=>simp only[gL,bT]
 |cons p m ih=>
  obtain⟨k,x⟩:=p
  rw[gL]
  by_cases h:k=u
  ·rw[zAc h,bT,bT]
   subst h
   split
   ·rfl
   ·rfl
  ·rw[zAb h,bT,bT,ih]
   by_cases h2:k=s
   ·rw[zAc h2,zAc h2]
    split
    ·rename_i h3;exact absurd (h2.trans h3.symm) h
    ·rfl
   ·rw[zAb h2,zAb h2]
theorem aKV{a b:Nd}(h:b.id<a.id):aFu a b= !iI a.moved.c a.moved.r b.moved.c b.moved.r:=by
 unfold aFu iI
 rw[zAd h,zBE,zA8]
 obtain⟨_,_,_,⟨c1,r1⟩,_,_⟩:=a
 obtain⟨_,_,_,⟨c2,r2⟩,_,_⟩:=b
 simp only[zBS,zAl,zAr,zBc,zBw,zBk,zAC,Stm.mk.injEq]
 omega
theorem aH8{dir:Int}{s:Txt}{m:List (Txt×Nd)}{n:Nd}(h:∀o,bT s m=some o→o.id<n.id):bT s (lV dir m n)=mB dir s (bT s m) n:=by
 unfold lV mB
 cases hi:zN dir n with
 |false=>simp
 |true=>
  rw[zAc rfl,zAB]
  unfold rL
  by_cases hs:n.name=s
  ·subst hs
   rw[zAd rfl,zAB]
   cases hl:bT n.name m with
   |none=>simp only[sW];simp
   |some o=>
    simp only[aKV (h o hl)]
    cases hb:iI n.moved.c n.moved.r o.moved.c o.moved.r with
    |true=>simp[hl]
    |false=>simp[sW]
  ·rw[eT hs,zBO]
   simp only[zAw,zA3]
   split
   ·rw[sW,zAb hs]
   ·split
    ·rfl
    ·rw[sW,zAb hs]
theorem aH9{dir:Int}{s:Txt}{b:Option Nd}{n o:Nd}(h:mB dir s b n=some o):o=n∨b=some o:=by
 unfold mB at h
 cases b with
 |none=>
  cases hq:(zN dir n&&decide (n.name=s))<;>simp only[hq]at h<;>simp at h
  exact .inl h.symm
 |some o'=>
  cases hq:(zN dir n&&decide (n.name=s))<;>cases hb:aFu n o'<;>simp only[hq,hb]at h<;>simp at h
  ·exact .inr (by rw[h])
  ·exact .inr (by rw[h])
  ·exact .inr (by rw[h])
  ·exact .inl h.symm
theorem aIa(dir:Int)(s:Txt):∀(k:List Nd) (m:List (Txt×Nd)),(∀o,bT s m=some o→∀n∈k,o.id<n.id)→k.Pairwise (fun a b=>a.id<b.id)→bT s (k.foldl (lV dir) m)=k.foldl (mB dir s) (bT s m):=by
 intro k
 induction k with
 |nil=>intro m _ _;rfl
 |cons n k ih=>
  intro m h hp
  rw[zBj]at hp
  have h1:=aH8 (dir:=dir) (s:=s) (m:=m) (n:=n) (fun o ho=>h o ho n (by simp))
  rw[zAZ,zAZ,ih _ (fun o ho x hx=>?_) hp.2,h1]
  rw[h1]at ho
  rcases aH9 ho with rfl|ho
  ·exact hp.1 x hx
  ·exact h o ho x (by simp[hx])
theorem aFv(l:List Nd)(dir:Int)(s:Txt):childN l dir s=if chk l=true then l.foldl (mB dir s) none else none:=by
 unfold childN
 cases hc:chk l with
 |false=>rfl
 |true=>
  rw[zAc rfl,zAc rfl,cG]
  exact aIa dir s l [] (fun o ho=>by cases ho) ((oG l).1 hc).2
theorem aPm(n:Nd)(dir:Int)(H:AHeap):bD Tryz.prog 125 [ndA n,.int .i64 dir] H (.bool (zN dir n)):=by
 refine fO Tryz.func125 ?_
 have h:=uV n.moved.c n.moved.r
 unfold zN
 cases hk:zM n.moved.c n.moved.r with
 |false=>
  rw[hk]at h
  repeat' first|(refine gS ?_;simp only[go_sem,ndA])|refine gA ?_|(refine gD (fun h=>?_) (fun h=>?_)<;>try exact aA h)|fail
  exact dY (.refl _)
 |true=>
  rw[hk]at h
  repeat' first|(refine gS ?_;simp only[go_sem,ndA])|refine gA ?_|(refine gD (fun h=>?_) (fun h=>?_)<;>try exact aA h)|fail
  exact dY (.refl _)
theorem aRr(a b:Nd)(H:AHeap):bD Tryz.prog 126 [ndA a,ndA b] H (.bool (aFu a b)):=by
 refine fO Tryz.func126 ?_
 have h:=aCq b.moved.c b.moved.r a.moved.c a.moved.r
 have he:=aAv a.moved b.moved
 unfold aFu
 cases hk:iI b.moved.c b.moved.r a.moved.c a.moved.r with
 |true=>
  rw[hk]at h
  repeat' first|(refine gS ?_;simp only[go_sem,ndA])|refine gA ?_|(refine gD (fun h=>?_) (fun h=>?_)<;>try exact aA h)|fail
  exact dY (.refl _)
 |false=>
  rw[hk]at h
  cases hm:decide (a.moved=b.moved)with
  |false=>
   rw[hm]at he
   repeat' first|(refine gS ?_;simp only[go_sem,ndA,he])|refine gA ?_|(refine gD (fun h=>?_) (fun h=>?_)<;>try exact aA h)|fail
   exact dY (.refl _)
  |true=>
   rw[hm]at he
   repeat' first|(refine gS ?_;simp only[go_sem,ndA,he])|refine gA ?_|(refine gD (fun h=>?_) (fun h=>?_)<;>try exact aA h)|fail
   exact dY (.refl _)
theorem aKW(l:List Txt):(l.map AV.str).flatMap AV.cells=l.map AV.str:=by
 rw[zCz];induction l with|nil=>rfl|cons x l ih=>rw[zAK,zAA,ih];rfl
theorem vY(b:Bool)(l:List Nd)(dir:Int)(s:Txt)(hl:l.length≤1073741824)(H:AHeap):bD Tryz.prog 64 [.sl b (l.map ndA),.int .i64 dir,.str s] H (jK (childN l dir s)):=by
 refine fO Tryz.func64 ?_
 have hck:=pY b l
 rw[aFv]
 cases hc:chk l with
 |false=>
  rw[hc]at hck
  rw[zAb (by simp)]
  repeat' first|(refine gS ?_;simp only[go_sem])|refine gA ?_|(refine gD (fun h=>?_) (fun h=>?_)<;>try exact aA h)|fail
  refine aH (ι:=Unit) (fun _=>[(0,.sl b (l.map ndA)),(8,.bool false),(9,.int .i64 (-1)),(10,.int .i64 0)]) (fun _=>H) (fun _=>True) (fun _=>0) () trivial ?_ rfl ?_
  ·simp[go_sem]
  ·rintro _ _
   by_cases h0:0<l.length
   ·have hli:((0:Int)<((l.length:Nat):Int))=True:=zAI (by omega)
    repeat' first|(refine gS ?_;simp only[go_sem,hli])|refine gA ?_|(refine gD (fun h=>?_) (fun h=>?_)<;>try exact aA h)|fail
    exact bL (.refl _)
   ·have hli:((0:Int)<((l.length:Nat):Int))=False:=zDa (by omega)
    repeat' first|(refine gS ?_;simp only[go_sem,hli])|refine gA ?_|(refine gD (fun h=>?_) (fun h=>?_)<;>try exact aA h)|fail
    exact bL (.refl _)
 |true=>
  rw[hc]at hck
  rw[zAc rfl]
  repeat' first|(refine gS ?_;simp only[go_sem])|refine gA ?_|(refine gD (fun h=>?_) (fun h=>?_)<;>try exact aA h)|fail
  refine aH (ι:=Nat×Int) (fun x=>[(0,.sl b (l.map ndA)),(1,.int .i64 dir),(2,.str s),(8,.bool true),(9,.int .i64 x.2),(10,.int .i64 x.1)]) (fun _=>H)
   (fun x=>x.1≤l.length∧((x.2= -1∧(l.take x.1).foldl (mB dir s) none=none)∨∃j,∃h:j<l.length,x.2=(j:Int)∧(l.take x.1).foldl (mB dir s) none=some l[j])) (fun x=>l.length-x.1) (0, -1) ⟨zAn _,.inl ⟨rfl,rfl⟩⟩ ?_ rfl ?_
  ·simp[go_sem]
  ·rintro⟨k,bi⟩ ⟨hk,hb⟩
   simp only at hk hb ⊢
   by_cases hlt:k<l.length
   ·have hli:((k:Int)<((l.length:Nat):Int))=True:=zAI (by omega)
    have hp:=aJ ndA hlt
    have hin:=aPm l[k] dir
    have hw:IntKind.i64.wrap ((k:Int)+1)=((k+1:Nat):Int):=by rw[wI];rfl
    have hst:(l.take (k+1)).foldl (mB dir s) none=mB dir s ((l.take k).foldl (mB dir s) none) l[k]:=by rw[zAa hlt,zBL];rfl
    cases hi:zN dir l[k]with
    |false=>
     rw[hi]at hin
     simp only[ndA]at hin
     repeat' first|(refine gS ?_;simp only[go_sem,hli,hp,ndA])|refine gA ?_|(refine gD (fun h=>?_) (fun h=>?_)<;>try exact aA h)|fail
     exact⟨(k+1,bi),⟨hlt,by simp only[hst,mB,hi];exact hb⟩,by simp only;omega,⟨rfl,zAp _ hw⟩⟩
    |true=>
     rw[hi]at hin
     simp only[ndA]at hin
     by_cases hs:l[k].name=s
     ·have hz:decide (l[k].name=s)=true:=zAd hs
      rcases hb with⟨rfl,hb⟩|⟨j,hj,rfl,hb⟩
      ·repeat' first|(refine gS ?_;simp only[go_sem,hli,hp,ndA,hz])|refine gA ?_|(refine gD (fun h=>?_) (fun h=>?_)<;>try exact aA h)|fail
       exact⟨(k+1,(k:Int)),⟨hlt,.inr ⟨k,hlt,rfl,by simp only[hst,hb,mB,hi,hz];rfl⟩⟩,by simp only;omega,⟨rfl,zAp _ hw⟩⟩
      ·have hj0:((j:Int)<0)=False:=zDa (by omega)
       have hjl:((j:Int)<((l.length:Nat):Int))=True:=zAI (by omega)
       have hq:=aJ ndA hj
       have hbe:=aRr l[k] l[j]
       cases hbb:aFu l[k] l[j]with
       |true=>
        rw[hbb]at hbe
        simp only[ndA]at hbe
        repeat' first|(refine gS ?_;simp only[go_sem,hli,hp,ndA,hz,hj0,hjl,hq])|refine gA ?_|(refine gD (fun h=>?_) (fun h=>?_)<;>try exact aA h)|fail
        exact⟨(k+1,(k:Int)),⟨hlt,.inr ⟨k,hlt,rfl,by simp only[hst,hb,mB,hi,hz,hbb];rfl⟩⟩,by simp only;omega,⟨rfl,zAp _ hw⟩⟩
       |false=>
        rw[hbb]at hbe
        simp only[ndA]at hbe
        repeat' first|(refine gS ?_;simp only[go_sem,hli,hp,ndA,hz,hj0,hjl,hq])|refine gA ?_|(refine gD (fun h=>?_) (fun h=>?_)<;>try exact aA h)|fail
        exact⟨(k+1,(j:Int)),⟨hlt,.inr ⟨j,hj,rfl,by simp only[hst,hb,mB,hi,hz,hbb];rfl⟩⟩,by simp only;omega,⟨rfl,zAp _ hw⟩⟩
     ·have hz:decide (l[k].name=s)=false:=eT hs
      repeat' first|(refine gS ?_;simp only[go_sem,hli,hp,ndA,hz])|refine gA ?_|(refine gD (fun h=>?_) (fun h=>?_)<;>try exact aA h)|fail
      exact⟨(k+1,bi),⟨hlt,by simp only[hst,mB,hi,hz];exact hb⟩,by simp only;omega,⟨rfl,zAp _ hw⟩⟩
   ·have hke:k=l.length:=by omega
    subst hke
    rw[zAq]at hb
    have hli:((l.length:Int)<((l.length:Nat):Int))=False:=zDa (by omega)
    rcases hb with⟨rfl,hb⟩|⟨j,hj,rfl,hb⟩
    ·rw[hb]
     repeat' first|(refine gS ?_;simp only[go_sem,hli])|refine gA ?_|(refine gD (fun h=>?_) (fun h=>?_)<;>try exact aA h)|fail
     exact bL (.refl _)
    ·rw[hb]
     have hj0:((j:Int)<0)=False:=zDa (by omega)
     have hjl:((j:Int)<((l.length:Nat):Int))=True:=zAI (by omega)
     have hq:=aJ ndA hj
     repeat' first|(refine gS ?_;simp only[go_sem,hli,hj0,hjl,hq,ndA])|refine gA ?_|(refine gD (fun h=>?_) (fun h=>?_)<;>try exact aA h)|fail
     exact bL (.refl _)
theorem aEa(b b':Bool)(l:List Nd)(names:List Txt)(hl:l.length≤1073741824)(hn:names.length≤1073741824)(H:AHeap):bD Tryz.prog 123 [.sl b (l.map ndA),.sl b' (names.map AV.str)] H (jS (fQ l names)):=by
 refine fO Tryz.func123 ?_
 unfold jS
 repeat' first|(refine gS ?_;simp only[go_sem])|refine gA ?_|(refine gD (fun h=>?_) (fun h=>?_)<;>try exact aA h)|fail
 refine aH (ι:=Nat×Int) (fun x=>[(0,.sl b (l.map ndA)),(1,.sl b' (names.map AV.str)),(6,.int .i64 x.2),(7,.int .i64 x.1)]) (fun _=>H)
  (fun x=>x.1≤names.length∧fQ l names=kC l x.2 (names.drop x.1)) (fun x=>names.length-x.1) (0,0) ⟨zAn _,rfl⟩ ?_ rfl ?_
 ·simp[go_sem]
 ·rintro⟨k,at_⟩ ⟨hk,he⟩
  simp only at hk he ⊢
  by_cases hlt:k<names.length
  ·have hli:((k:Int)<((names.length:Nat):Int))=True:=zAI (by omega)
   have hp:=aJ AV.str hlt
   have hw:IntKind.i64.wrap ((k:Int)+1)=((k+1:Nat):Int):=by rw[wI];rfl
   rw[zAk hlt,aAM]at he
   have hd:=tR at_
   cases hdi:dirI at_ with
   |false=>
    rw[hdi]at hd
    rw[hdi,zAb (by simp)]at he
    rw[he]
    repeat' first|(refine gS ?_;simp only[go_sem,hli])|refine gA ?_|(refine gD (fun h=>?_) (fun h=>?_)<;>try exact aA h)|fail
    exact bL (.refl _)
   |true=>
    rw[hdi]at hd
    rw[hdi,zAc rfl]at he
    have hch:=vY b l at_ names[k] hl
    cases hc:childN l at_ names[k]with
    |none=>
     rw[hc]at hch he
     simp only[jK,zB6,zBV,zBy]at hch he
     rw[he]
     repeat' first|(refine gS ?_;simp only[go_sem,hli,hp])|refine gA ?_|(refine gD (fun h=>?_) (fun h=>?_)<;>try exact aA h)|fail
     exact bL (.refl _)
    |some n=>
     rw[hc]at hch he
     simp only[jK,zBR,zBs,zBf]at hch he
     repeat' first|(refine gS ?_;simp only[go_sem,hli,hp])|refine gA ?_|(refine gD (fun h=>?_) (fun h=>?_)<;>try exact aA h)|fail
     exact⟨(k+1,n.id),⟨hlt,he⟩,by simp only;omega,⟨rfl,zAp _ hw⟩⟩
  ·have hke:k=names.length:=by omega
   subst hke
   rw[zA7]at he
   rw[he]
   have hli:((names.length:Int)<((names.length:Nat):Int))=False:=zDa (by omega)
   repeat' first|(refine gS ?_;simp only[go_sem,hli])|refine gA ?_|(refine gD (fun h=>?_) (fun h=>?_)<;>try exact aA h)|fail
   exact bL (.refl _)
def xY(p:Txt):AV:=match bV p with
 |none=>.tup [.sl true [],.int .i64 10]
 |some l=>.tup [.sl false (l.map AV.str),.int .i64 0]
theorem vZ(p:Txt)(hs:p.length≤1048576)(H:AHeap):bD Tryz.prog 72 [.str p] H (xY p):=by
 refine fO Tryz.func72 ?_
 unfold xY bV
 cases p with
 |nil=>
  rw[zAb (by simp)]
  repeat' first|(refine gS ?_;simp only[go_sem])|refine gA ?_|(refine gD (fun h=>?_) (fun h=>?_)<;>try exact aA h)|fail
  exact bL (.refl _)
 |cons c l=>
  rw[zAm]at hs
  by_cases hc:c=47
  ·subst hc
   cases l with
   |nil=>
    rw[zAc rfl]
    trace "ONE"
    repeat' first|(refine gS ?_;simp only[go_sem,Int.reduceEq])|refine gA ?_|(refine gD (fun h=>?_) (fun h=>?_)<;>try exact aA h)|fail
    exact bL (.tup _ _ rfl (aD (.sl _ _) (aD (.refl _) bJ)))
   |cons d l=>
    rw[zAb (by simp)]
    simp only[zAU]
    have htop:=aNK (d::l)
    have hz0:decide ((((d::l).length+1:Nat):Int)=0)=false:=dF
    have hz1:decide ((((d::l).length+1:Nat):Int)=1)=false:=eT (by simp;omega)
    generalize d::l=r at *
    repeat' first|(refine gS ?_;simp only[go_sem,Int.reduceEq,hz0,hz1,UInt8.reduceToNat])|refine gA ?_|(refine gD (fun h=>?_) (fun h=>?_)<;>try exact aA h)|fail
    rw[←htop]
    refine gI 4 1 rfl ?_
    refine aH (ι:=Nat×Nat×List Txt) (fun x=>[(0,.str (47::r)),(4,.osl 1 H.length (x.2.2.length+1) 0 x.2.2.length x.2.2.length),(5,.int .i64 x.2.1),(6,.int .i64 x.1)]) (fun x=>H++[.cells (x.2.2.length+1) (x.2.2.map AV.str)])
     (fun x=>x.2.2.length≤16∧1≤x.2.1∧((x.1≤r.length+1∧x.2.1≤x.1∧rsp [] [] r=rsp x.2.2 ((r.drop (x.2.1-1)).take (x.1-x.2.1)) (r.drop (x.1-1)))∨(x.1=r.length+2∧rsp [] [] r=some x.2.2))) (fun x=>r.length+2-x.1)
     (1,1,[]) ⟨by simp,by simp,.inl ⟨by simp,by simp,by simp⟩⟩ ?_ rfl ?_
    ·simp[go_sem]
    ·rintro⟨i,fr,out⟩ ⟨ho,hf,hI⟩
     simp only at ho hf hI ⊢
     rcases hI with⟨hi,hfi,he⟩|⟨hi,he⟩
     ·obtain⟨j,rfl⟩:∃j,i=j+1:=⟨i-1,by omega⟩
      obtain⟨f,rfl⟩:∃f,fr=f+1:=⟨fr-1,by omega⟩
      simp only[Nat.add_sub_cancel,Nat.reduceSubDiff]at he
      have hli:(((j+1:Nat):Int)≤((r.length+1:Nat):Int))=True:=zAI (by omega)
      have hw:IntKind.i64.wrap (((j+1:Nat):Int)+1)=((j+2:Nat):Int):=by rw[wI];rfl
      by_cases hlt:j<r.length
      ·have hlj:(((j+1:Nat):Int)<((r.length+1:Nat):Int))=True:=zAI (by omega)
       have hgi:r.getD j 0=r[j]:=by rw[zAs,zAo hlt];rfl
       have hdr:r.drop j=r[j]::r.drop (j+1):=zAk hlt
       by_cases h47:r[j]=47
       ·have hz:decide (((r.getD j 0).toNat:Int)=47)=true:=by rw[hgi,h47];rfl
        have hseg:List.drop f (List.take j r)=List.take (j-f) (List.drop f r):=List.drop_take
        have hsl:(List.take (j-f) (List.drop f r)).length≤1073741824:=by rw[zAy,zAH];omega
        have hck:=aCP (List.take (j-f) (List.drop f r)) hsl
        generalize List.take (j-f) (List.drop f r)=seg at *
        cases hnk:dO seg with
        |false=>
         rw[hnk]at hck
         rw[hdr,rsp,zAc h47,zAb (fun q=>by rw[hnk]at q;cases q.1)]at he
         rw[he]
         repeat' first|(refine gS ?_;simp only[go_sem,hli,hlj,hz,hseg,hw])|refine gA ?_|(refine gD (fun h=>?_) (fun h=>?_)<;>try exact aA h)|fail
         exact dY (.refl _)
        |true=>
         rw[hnk]at hck
         by_cases h16:out.length=16
         ·have hz16:decide ((out.length:Int)=16)=true:=dT
          rw[hdr,rsp,zAc h47,zAb (fun q=>q.2 h16)]at he
          rw[he]
          repeat' first|(refine gS ?_;simp only[go_sem,hli,hlj,hz,hseg,hw,hz16])|refine gA ?_|(refine gD (fun h=>?_) (fun h=>?_)<;>try exact aA h)|fail
          exact dY (.refl _)
         ·have hz16:decide ((out.length:Int)=16)=false:=dF
          rw[hdr,rsp,zAc h47,zAc ⟨hnk,h16⟩]at he
          repeat' first|(refine gS ?_;simp only[go_sem,hli,hlj,hz,hseg,hw,hz16])|refine gA ?_|(refine gD (fun h=>?_) (fun h=>?_)<;>try exact aA h)|fail
          refine⟨⟨by omega,fun e he=>by rw[he];rfl,by omega⟩,?_⟩
          repeat' first|(refine gS ?_;simp only[go_sem,hw])|refine gA ?_|(refine gD (fun h=>?_) (fun h=>?_)<;>try exact aA h)|fail
          exact⟨(j+2,j+2,out++[seg]),⟨by simp only[zAe,zAX];omega,by simp only;omega,.inl ⟨by simp only;omega,zAh _,by simp only[Nat.sub_self,List.take_zero];exact he⟩⟩,by simp only;omega,⟨by simp only[zAe,zAX],rfl,rfl⟩,by simp only[zBa,zAe,zAX];rfl⟩
       ·have hz:decide (((r.getD j 0).toNat:Int)=47)=false:=eT (fun h=>h47 (by rw[hgi]at h;apply UInt8.toNat_inj.1;simp;omega))
        repeat' first|(refine gS ?_;simp only[go_sem,hli,hlj,hz])|refine gA ?_|(refine gD (fun h=>?_) (fun h=>?_)<;>try exact aA h)|fail
        refine⟨(j+2,f+1,out),⟨ho,hf,.inl ⟨by simp only;omega,by simp only;omega,?_⟩⟩,by simp only;omega,⟨rfl,rfl,zAp _ hw⟩,rfl⟩
        rw[he,hdr,rsp,zAb h47]
        simp only[Nat.add_sub_cancel,Nat.reduceSubDiff]
        congr 1
        rw[show j+1-f=(j-f)+1 by omega,List.take_add_one,zCk,show f+(j-f)=j by omega,zAo hlt]
        rfl
      ·have hje:j=r.length:=by omega
       have hlj:(((j+1:Nat):Int)<((r.length+1:Nat):Int))=False:=zDa (by omega)
       have hdr:r.drop j=[]:=by rw[hje,zA7]
       have hseg:List.drop f (List.take j r)=List.take (j-f) (List.drop f r):=List.drop_take
       have hsl:(List.take (j-f) (List.drop f r)).length≤1073741824:=by rw[zAy,zAH];omega
       have hck:=aCP (List.take (j-f) (List.drop f r)) hsl
       generalize List.take (j-f) (List.drop f r)=seg at *
       cases hnk:dO seg with
       |false=>
        rw[hnk]at hck
        rw[hdr,rsp,zAb (fun q=>by rw[hnk]at q;cases q.1)]at he
        rw[he]
        repeat' first|(refine gS ?_;simp only[go_sem,hli,hlj,hseg,hw])|refine gA ?_|(refine gD (fun h=>?_) (fun h=>?_)<;>try exact aA h)|fail
        exact dY (.refl _)
       |true=>
        rw[hnk]at hck
        by_cases h16:out.length=16
        ·have hz16:decide ((out.length:Int)=16)=true:=dT
         rw[hdr,rsp,zAb (fun q=>q.2 h16)]at he
         rw[he]
         repeat' first|(refine gS ?_;simp only[go_sem,hli,hlj,hseg,hw,hz16])|refine gA ?_|(refine gD (fun h=>?_) (fun h=>?_)<;>try exact aA h)|fail
         exact dY (.refl _)
        ·have hz16:decide ((out.length:Int)=16)=false:=dF
         rw[hdr,rsp,zAc ⟨hnk,h16⟩]at he
         repeat' first|(refine gS ?_;simp only[go_sem,hli,hlj,hseg,hw,hz16])|refine gA ?_|(refine gD (fun h=>?_) (fun h=>?_)<;>try exact aA h)|fail
         refine⟨⟨by omega,fun e he=>by rw[he];rfl,by omega⟩,?_⟩
         repeat' first|(refine gS ?_;simp only[go_sem,hw])|refine gA ?_|(refine gD (fun h=>?_) (fun h=>?_)<;>try exact aA h)|fail
         exact⟨(j+2,j+2,out++[seg]),⟨by simp only[zAe,zAX];omega,by simp only;omega,.inr ⟨by simp only;omega,he⟩⟩,by simp only;omega,⟨by simp only[zAe,zAX],rfl,rfl⟩,by simp only[zBa,zAe,zAX];rfl⟩
     ·subst hi
      have hli:(((r.length+2:Nat):Int)≤((r.length+1:Nat):Int))=False:=zDa (by omega)
      rw[he]
      repeat' first|(refine gS ?_;simp only[go_sem,hli])|refine gA ?_|(refine gD (fun h=>?_) (fun h=>?_)<;>try exact aA h)|fail
      refine⟨_,_,rfl,?_,rfl⟩
      refine .tup _ _ rfl fun i x y hx hy=>?_
      match i,hx,hy with
      |0,hx,hy=>
       cases hx;cases hy
       exact iC (es:=out.map AV.str) (rest:=[]) (zAh _) (by simp only[go_sem];rfl) (by rw[zAg,aKW]) (zAj ..) (fun e he=>by obtain⟨x,_,rfl⟩:=zAi.1 he;rfl) (fun e he=>by obtain⟨x,_,rfl⟩:=zAi.1 he;exact(by simp only[go_sem]))
      |1,hx,hy=>cases hx;cases hy;exact .cl _ (.int _ _)
      |i+2,hx,_=>simp at hx
  ·rw[zAb (fun h=>hc (by cases h;rfl))]
   simp only[zAb hc]
   have hcn:decide ((c.toNat:Int)=47)=false:=eT (fun h=>hc (by apply UInt8.toNat_inj.1;simp;omega))
   have hz0:decide ((((l.length+1:Nat)):Int)=0)=false:=dF
   repeat' first|(refine gS ?_;simp only[go_sem,Int.reduceEq,hcn,hz0])|refine gA ?_|(refine gD (fun h=>?_) (fun h=>?_)<;>try exact aA h)|fail
   exact bL (.refl _)
end Go.Proofs.YtolbeecicikoaaaGreatDoor
