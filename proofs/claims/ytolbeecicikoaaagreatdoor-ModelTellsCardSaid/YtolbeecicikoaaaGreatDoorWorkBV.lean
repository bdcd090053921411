/- The texts 48 of 53 beneath the rows of this seat (joined by program): the abstract machine, and what the functions answer. No condition. -/
import Derived.Test.YtolbeecicikoaaaGreatDoorWorkBE
import Derived.Test.YtolbeecicikoaaaGreatDoorWorkBT
set_option linter.unusedSimpArgs false
set_option linter.unusedVariables false
set_option linter.unusedSectionVars false
set_option maxRecDepth 100000
set_option maxHeartbeats 16000000
namespace Go.Proofs.YtolbeecicikoaaaGreatDoor
def uH(g:Lg)(acc:List Opn)(o:Opn):List Opn:=if(!fA g.entries o.at_&& !(acc.any fun f=>decide (f.at_=o.at_)))=true then acc++[o]else acc
theorem sB(g:Lg):∀(l acc:List Opn),freshN g acc l=l.foldl (uH g) acc:=by
 intro l
 induction l with
 |nil=>intro acc;rfl
 |cons o l ih=>intro acc;rw[freshN,ih,zAZ];rfl
theorem aEr(g:Lg)(l:List Opn)(o:Opn):freshN g [] (l++[o])=uH g (freshN g [] l) o:=by
 rw[sB,sB,zBL];rfl
def zP(g:Lg)(l:List Opn)(o:Opn):Bool:=fA g.entries o.at_||l.any fun x=>decide (x.at_=o.at_)
theorem aOi(g:Lg)(l:List Opn)(o:Opn):freshN g [] (l++[o])=if zP g l o=true then freshN g [] l else freshN g [] l++[o]:=by
 rw[aEr,uH]
 have e:(!fA g.entries o.at_&& !((freshN g [] l).any fun f=>decide (f.at_=o.at_)))= !zP g l o:=by
  unfold zP
  cases hh:fA g.entries o.at_ with
  |true=>rfl
  |false=>
   rw[zBb,zAB,zBX]
   congr 1
   rw[zA8,zBU,zBU]
   constructor
   ·rintro⟨f,hf,he⟩
    exact⟨f,((pG g l [] f hf).resolve_left (by simp)),he⟩
   ·rintro⟨x,hx,he⟩
    rcases(aHU g l []).2 x hx with h|⟨f,hf,he2⟩
    ·rw[zA6 he]at h;rw[h]at hh;cases hh
    ·exact⟨f,hf,zAd (by rw[he2,zA6 he])⟩
 rw[e]
 cases zP g l o<;>rfl
theorem aEs(g:Lg)(l:List Opn):(freshN g [] l).length≤l.length:=by
 have:∀(l acc:List Opn),(l.foldl (uH g) acc).length≤acc.length+l.length:=by
  intro l
  induction l with
  |nil=>intro acc;exact zAh _
  |cons o l ih=>
   intro acc
   have h1:=ih (uH g acc o)
   have h2:(uH g acc o).length≤acc.length+1:=by unfold uH;split<;>simp
   grind
 rw[sB]
 have:=this l []
 simpa using this
theorem aOj(s t:Stm):decide (s=t)=(decide (s.c=t.c)&&decide (s.r=t.r)):=by cases s;cases t;simp
theorem aLy{b:Txt}{l:List Opn}(h:readO b=some l):l.length≤b.length:=by
 have key:∀(n:Nat) (b:Txt) (l:List Opn),lN n b=some l→l.length≤n:=by
  intro n
  induction n with
  |zero=>
   grind [lN]
  |succ n ih=>
   intro b l h
   unfold lN at h
   split at h
   ·cases h;simp
   ·simp only[zBm]at h
    obtain⟨⟨o,r⟩, -,h2⟩:=h
    simp only[zAR]at h2
    obtain⟨t,h3,rfl⟩:=h2
    have:=ih r t h3
    rw[zAm];omega
 exact key _ _ _ h
theorem aLz(l f:List Opn)(hs:∀o∈f,o∈l)(ho:∀o∈l,opOk o=true)(n:Int)(hn:0≤n):l.foldl (fun n o=>bY n o.at_) (f.foldl (fun n o=>bY n o.at_) n)=l.foldl (fun n o=>bY n o.at_) n:=by
 have a1:=lA f n
 have a2:=lA l (f.foldl (fun n o=>bY n o.at_) n)
 have a3:=lA l n
 have b1:=aA2 f n
 have b2:=aA2 l (f.foldl (fun n o=>bY n o.at_) n)
 have b3:=aA2 l n
 generalize l.foldl (fun n o=>bY n o.at_) (f.foldl (fun n o=>bY n o.at_) n)=x at *
 generalize f.foldl (fun n o=>bY n o.at_) n=y at *
 grind
def kM:List Pl:=[.pure 0,.pure 0,.free,.free,.pure 0,.pure 0,.pure 0,.free,.pure 0,.pure 0,.eff [false,false,false,false,false,false,false]]
attribute [go_sem] kM
theorem aFM(f1 f2 b:Bool)(g:Lg)(l:List Opn)(hl:l.length≤1048576)(H:AHeap):
  bD Tryz.prog 74 [qT f1 f2 g,.sl b (l.map opA)] H (.sl false ((freshN g [] l).map opA)):=by
 refine fO Tryz.func74 ?_
 simp only[qT]
 repeat' first|(refine gS ?_;simp only[go_sem])|refine gA ?_|(refine gD (fun h=>?_) (fun h=>?_)<;>try exact aA h)|fail
 refine gI 5 7 rfl ?_
 refine aH (ι:=Nat×AHeap) (fun x=>[(1,.sl b (l.map opA)),(2,.ref H.length 0 0),(5,.osl 7 (H.length+1) ((freshN g [] (l.take x.1)).length+1) 0 (freshN g [] (l.take x.1)).length (freshN g [] (l.take x.1)).length),(6,.int .i64 x.1)])
  (fun x=>H++(.cells 0 (qT f1 f2 g).cells::.cells ((freshN g [] (l.take x.1)).length+1) (flA opA (freshN g [] (l.take x.1)))::x.2)) (fun x=>x.1≤l.length) (fun x=>l.length-x.1) (0,[]) (zAn _) ?_ (by rw[zAu];rfl) ?_
 ·simp[go_sem,freshN]
 rintro⟨i,J⟩ hi
 simp only at hi ⊢
 by_cases hlt:i<l.length
 ·have hp:=aJ opA hlt
  have hli:decide ((i:Int)<(l.length:Int))=true:=dT
  have htk:l.take (i+1)=l.take i++[l[i]]:=zAa hlt
  have hR:=aOi g (l.take i) l[i]
  rw[←htk]at hR
  have hfl:=aEs g (l.take i)
  rw[zAy]at hfl
  have hha:=aJU f1 f2 g l[i].at_
  obtain⟨D,hD⟩:∃D,freshN g [] (l.take i)=D:=⟨_,rfl⟩
  rw[hD]at hR hfl ⊢
  obtain⟨o,ho⟩:∃o,o=l[i]:=⟨_,rfl⟩
  rw[←ho]at hp hR hha
  obtain⟨G,hG⟩:∃G,H++(.cells 0 (qT f1 f2 g).cells::.cells (D.length+1) (flA opA D)::J)=G:=⟨_,rfl⟩
  rw[hG]
  have g0:hget G H.length=.cells 0 (qT f1 f2 g).cells:=by rw[←hG];simp only[go_sem]
  have g1:=aR g0 trivial
  have g2:hget G (H.length+1)=.cells (D.length+1) (flA opA D):=by rw[←hG];simp only[go_sem]
  have g3:=aR g2 trivial
  have g4:=eE g2 trivial
  have gs:∀X,aB G (H.length+1) X=H++(.cells 0 (qT f1 f2 g).cells::X::J):=fun X=>by rw[←hG];simp only[go_sem]
  simp only[qT,opA,stA]at hp hha g0 g1
  repeat' first|(refine gS ?_;simp only[go_sem,hp,hli,g0,g1,g2,g3])|refine gA ?_|(refine gD (fun h=>?_) (fun h=>?_)<;>try exact aA h)|fail
  have hik:i≤l.length:=hi
  refine dB (ι:=Unit) (fun _=>[(1,.sl b (l.map opA)),(2,.ref H.length 0 0),(5,.osl 7 (H.length+1) (D.length+1) 0 D.length D.length),(6,.int .i64 i),(7,.bool (zP g (l.take i) o))]) (fun _=>G) (fun _=>True) ?_ ?_
  ·refine aH (ι:=Nat) (fun k=>[(1,.sl b (l.map opA)),(2,.ref H.length 0 0),(5,.osl 7 (H.length+1) (D.length+1) 0 D.length D.length),(6,.int .i64 i),(7,.bool (zP g (l.take k) o)),(8,.int .i64 k)]) (fun _=>G) (fun k=>k≤i) (fun k=>i-k) 0 (zAn _) ?_ rfl ?_
   ·simp[go_sem,zP]
   intro k hk
   by_cases hki:k<i
   ·have hkl:k<l.length:=by omega
    have hp2:=aJ opA hkl
    have htk2:l.take (k+1)=l.take k++[l[k]]:=zAa hkl
    have hli2:decide ((k:Int)<(i:Int))=true:=dT
    have hh2:zP g (l.take (k+1)) o=(zP g (l.take k) o||decide (l[k].at_=o.at_)):=by
     unfold zP;rw[htk2,List.any_append,List.any_cons,List.any_nil,Bool.or_false,Bool.or_assoc]
    obtain⟨x,hx⟩:∃x,x=l[k]:=⟨_,rfl⟩
    rw[←hx]at hp2 hh2
    have hxa:decide (x.at_=o.at_)=(decide (x.at_.c=o.at_.c)&&decide (x.at_.r=o.at_.r)):=by
     exact aOj x.at_ o.at_
    have hk0:((0:Int)≤(k:Int))=True:=zAI (by omega)
    have hk1:((k:Int)<(l.length:Int))=True:=zAI (by omega)
    have hk2:((0:Int)≤(i:Int))=True:=zAI (by omega)
    have hk3:((i:Int)<(l.length:Int))=True:=zAI (by omega)
    simp only[opA,stA]at hp2
    clear hR hD htk ho htk2 hx
    cases hb:zP g (l.take k) o with
    |true=>
     rw[hb,zCm]at hh2
     repeat' first|(refine gS ?_;simp only[go_sem,hp,hp2,hli2,hk0,hk1,hk2,hk3])|refine gA ?_|(refine gD (fun h=>?_) (fun h=>?_)<;>try exact aA h)|fail
     exact⟨k+1,hki,by omega,by rw[hh2],zAp _ (aK hkl (by omega))⟩
    |false=>
     rw[hb,zBX,hxa]at hh2
     repeat' first|(refine gS ?_;simp only[go_sem,hp,hp2,hli2,hk0,hk1,hk2,hk3])|refine gA ?_|(refine gD (fun h=>?_) (fun h=>?_)<;>try exact aA h)|fail
     exact⟨k+1,hki,by omega,by rw[hh2],zAp _ (aK hkl (by omega))⟩
   ·have hke:k=i:=by omega
    subst hke
    have hli2:decide ((k:Int)<(k:Int))=false:=by simp
    repeat' first|(refine gS ?_;simp only[go_sem,hli2])|refine gA ?_|(refine gD (fun h=>?_) (fun h=>?_)<;>try exact aA h)|fail
    exact⟨(),trivial⟩
  rintro _ _
  have hflD:=bQ (enc:=opA) (s:=7) (fun _=>rfl) D
  have hq1:(∀e,e=opA o→e.cells.length=7)=True:=zAI (fun e he=>by rw[he];rfl)
  simp only[opA]at hq1
  cases hb:zP g (l.take i) o with
  |true=>
   rw[hb,zAc rfl]at hR
   repeat' first|(refine gS ?_;simp only[go_sem,hp,hli])|refine gA ?_|(refine gD (fun h=>?_) (fun h=>?_)<;>try exact aA h)|fail
   exact⟨(i+1,J),hlt,by simp only;omega,⟨by rw[hR],zAp _ (aK hlt (by omega))⟩,by simp only[hR];exact hG.symm⟩
  |false=>
   rw[hb,zAb (by simp)]at hR
   clear hD htk ho
   repeat' first|(refine gS ?_;simp only[go_sem,hp,hli,g2,g3,g4,hflD,hq1])|refine gA ?_|(refine gD (fun h=>?_) (fun h=>?_)<;>try exact aA h)|fail
   exact⟨(i+1,J),hlt,by simp only;omega,⟨by rw[hR];simp,zAp _ (aK hlt (by omega))⟩,by simp only[hR];rw[gs];simp[flA,opA,AV.cells]⟩
 ·have hie:i=l.length:=by omega
  have hli:decide ((i:Int)<(l.length:Int))=false:=dF
  rw[hie,zAq]
  repeat' first|(refine gS ?_;simp only[go_sem,hli])|refine gA ?_|(refine gD (fun h=>?_) (fun h=>?_)<;>try exact aA h)|fail
  exact⟨_,_,rfl,iC (es:=(freshN g [] l).map opA) (rest:=[]) (Nat.le_add_right _ _) (by simp only[go_sem];rfl) (zAg _).symm (zAj ..) (lO _) (fun e he=>by(obtain⟨x,_,rfl⟩:=zAi.1 he;simp only[go_sem])),rfl⟩
theorem aFN(f1 f2 f3 f4:Bool)(m:Mdl)(h:MI m)(c:Cal)(hd:c.data.length≤1048576)(H:AHeap):
  bD Tryz.prog 32 [bC f1 f2 f3 f4 m,.str c.data] H (opV m (lW c ⟨m,an0,[]⟩)):=by
 refine fO Tryz.func32 ?_
 have hrd:=aUu c.data (by omega)
 unfold aC1 at hrd
 unfold lW
 cases hr:readO c.data with
 |none=>
  rw[hr]at hrd
  simp only at hrd ⊢
  rw[eS (by decide)]
  simp only[bC,dN]
  repeat' first|((first|refine mx [11] kM ?_|refine gS ?_);simp only[go_sem])|refine gA ?_|(refine gD (fun h=>?_) (fun h=>?_)<;>try exact aA h)|fail
  exact dY (dX _ _ _ _ _ m [] 50)
 |some l=>
  rw[hr]at hrd
  simp only at hrd ⊢
  have hok:=vT hr
  have hll:l.length≤c.data.length:=aLy hr
  have hfr:=aFM f1 f2 false m.log l (by omega)
  have hfl:=aEs m.log l
  obtain⟨F,hF⟩:∃F,freshN m.log [] l=F:=⟨_,rfl⟩
  have hFm:∀o∈F,o∈l:=fun o ho=>(pG m.log l [] o (by rw[hF];exact ho)).resolve_left (by simp)
  rw[hF]at hfr hfl ⊢
  have hec:=h.cap
  have hwa:IntKind.i64.wrap ((m.log.entries.length:Int)+(F.length:Int))=(m.log.entries.length:Int)+(F.length:Int):=wI
  by_cases hcap:(200:Int)<(m.log.entries.length:Int)+(F.length:Int)
  ·rw[zAc hcap,eS (by decide)]
   have d2:decide ((200:Int)<(m.log.entries.length:Int)+(F.length:Int))=true:=zAd hcap
   simp only[bC,dN,qT]at hfr ⊢
   repeat' first|((first|refine mx [11] kM ?_|refine gS ?_);simp only[go_sem,hwa,d2])|refine gA ?_|(refine gD (fun h=>?_) (fun h=>?_)<;>try exact aA h)|fail
   exact dY (dX _ _ _ _ _ m [] 193)
  ·have d2:decide ((200:Int)<(m.log.entries.length:Int)+(F.length:Int))=false:=eT hcap
   have ha:=aGF F ⟨m,an0,[]⟩ (fun o ho=>hok o (hFm o ho)) (by simp only;omega)
   rw[zAb hcap,ha]
   simp only[zAU,opV,zAG]
   have hadd:=aEm f1 f2 f3 f4 false m h F (fun o ho=>hok o (hFm o ho)) (by omega)
   have hss:=aLz l F hFm hok m.seen h.seen
   obtain⟨A,hA⟩:∃A,aBr m F=A:=⟨_,rfl⟩
   have hAs:A.seen=F.foldl (fun n o=>bY n o.at_) m.seen:=by rw[←hA];rfl
   have hres:tellM m ⟨eQ m.log F,l.foldl (fun n o=>bY n o.at_) m.seen,m.rep,m.snaps,m.watches,m.next⟩={A with seen:=l.foldl (fun n o=>bY n o.at_) A.seen}:=by rw[hAs,hss,←hA];rfl
   rw[hA]at hadd
   rw[show({m with log:=eQ m.log F,seen:=l.foldl (fun n o=>bY n o.at_) m.seen}:Mdl)=⟨eQ m.log F,l.foldl (fun n o=>bY n o.at_) m.seen,m.rep,m.snaps,m.watches,m.next⟩from rfl,hres]
   clear hres hss hAs hA ha hF hFm
   simp only[bC,dN,qT]at hfr hadd ⊢
   repeat' first|((first|refine mx [11] kM ?_|refine gS ?_);simp only[go_sem,hwa,d2])|refine gA ?_|(refine gD (fun h=>?_) (fun h=>?_)<;>try exact aA h)|fail
   refine aH (ι:=Nat) (fun i=>[(2,.ref H.length 0 0),(4,.ref (H.length+1) 0 0),(7,.sl false (l.map opA)),(9,.sl false (F.map opA)),(10,.ref (H.length+2) 0 0),(11,.int .i64 i)])
    (fun i=>H++[.cells 0 (bC f1 f2 f3 f4 m).cells,.cells 0 (bC true true true true sL).cells,.cells 0 (bC false false false false {A with seen:=(l.take i).foldl (fun n o=>bY n o.at_) A.seen}).cells])
    (fun i=>i≤l.length) (fun i=>l.length-i) 0 (zAn _) ?_ rfl ?_
   ·simp[go_sem]
   intro i hi
   by_cases hlt:i<l.length
   ·have hp:=aJ opA hlt
    have hli:decide ((i:Int)<(l.length:Int))=true:=dT
    have htk:l.take (i+1)=l.take i++[l[i]]:=zAa hlt
    have hseen:=yE ((l.take i).foldl (fun n o=>bY n o.at_) A.seen) l[i].at_ true
    have e2:=aBg A.seen (l.take i) l[i]
    rw[←htk]at e2
    rw[←e2]at hseen
    obtain⟨o,hoe⟩:∃o,o=l[i]:=⟨_,rfl⟩
    rw[←hoe]at hp hseen
    simp only[opA]at hp
    repeat' first|((first|refine mx [11] kM ?_|refine gS ?_);simp only[go_sem,hp,hli,bC,dN])|refine gA ?_|(refine gD (fun h=>?_) (fun h=>?_)<;>try exact aA h)|fail
    exact⟨i+1,hlt,by omega,zAp _ (aK hlt (by omega)),rfl⟩
   ·have hie:i=l.length:=by omega
    have hli:decide ((i:Int)<(l.length:Int))=false:=dF
    rw[hie,zAq]
    repeat' first|(refine gS ?_;simp only[go_sem,hli,bC,dN])|refine gA ?_|(refine gD (fun h=>?_) (fun h=>?_)<;>try exact aA h)|fail
    exact dY (.refl _)
end Go.Proofs.YtolbeecicikoaaaGreatDoor
