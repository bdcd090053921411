/- What the functions of this seat answer (37 of 40). No condition. -/
import Derived.Test.YthafnbmdmfoobaaGreatDoorWorkBJ
set_option linter.unusedSimpArgs false
set_option linter.unusedVariables false
set_option maxRecDepth 100000
set_option maxHeartbeats 16000000
namespace Go.Proofs.YthafnbmdmfoobaaGreatDoor
section
structure q1 where
 start:Bool
 call:b3
 pick:Int
 full:Bool
deriving DecidableEq,Inhabited
def lP(a:q1):I:=.agg [.bool a.start,.int .i64 a.call.kind,.str a.call.path,.str a.call.to,.str a.call.data,.int .i64 a.call.n,.int .i64 a.pick,.bool a.full]
@[go_sem] theorem aRx(x:q1):bO (lP x)=True:=by simp only[lP,go_sem]
def vq(l:List q1):Bool:=l.all (fun a=> !pP a.call)&&decide ((l.length:Int)<=200)
def EP(x:bn)(a:q1):bn:=if a.start=true then(mc x a.call).1 else ow x a.pick a.full
theorem MG{l:List q1}(h:vq l=true):(∀a∈l,jh a.call)∧l.length<=200:=by
 unfold vq at h;simp only[dD,hR,gT,nk]at h;exact⟨fun c al=>L7 (h.1 c al),by omega⟩
end
section
open Go.ChangeShapes Go.WideShapes Go.ChangeAt Go.RowKit
theorem aG4:ke Tryz.prog 51=true:=by kernel_rfl
theorem aF6:lJ Tryz.prog 51=true:=by kernel_rfl
theorem aF7:ke Tryz.prog 22=false:=by kernel_rfl
theorem aEh:lJ Tryz.prog 22=true:=by kernel_rfl
theorem aCU{ys:List I}(h:gM Tryz.prog 51 ys):∃a:q1,ys=(lP a).cells:=by
 obtain⟨nV,K4,rfl,h1,aU⟩:=lQ (Gi Tryz.underlying51 aF6 h);obtain⟨oH,K5,rfl,h2,a3⟩:=lQ aU;obtain⟨mA,P7,rfl,h3,a1⟩:=lQ a3;obtain⟨Dy,P8,rfl,h4,a4⟩:=lQ a1;obtain rfl:=GU a4;obtain⟨s,rfl⟩:=SW Tryz.underlying4 h1;obtain⟨c,rfl⟩:=Lw h2;obtain⟨p,rfl,_⟩:=sO Tryz.underlying3 h3;obtain⟨f,rfl⟩:=SW Tryz.underlying4 h4;exact⟨⟨s,c,p,f⟩,rfl⟩
theorem aEi{ft:List (List I)}(h:∀z∈ft,gM Tryz.prog 51 z):∃l:List q1,ft.map (ik Tryz.prog 51)=l.map lP∧l.length=ft.length:=by
 induction ft with
 |nil=>exact⟨[],rfl,rfl⟩
 |cons z ft ay=>
  obtain⟨p,rfl⟩:=aCU (h z (by simp))
  obtain⟨l,h1,h2⟩:=ay fun z a2=>h z (by simp[a2])
  refine⟨p::l,?_,by simp[h2]⟩
  rw[dn,dn,h1,ik,aF aG4];rfl
theorem Md{x:I}(h:∃ys,x=ik Tryz.prog 22 ys∧gM Tryz.prog 22 ys∧(ke Tryz.prog 22=true∨ys.length=1)):∃l:List q1,x=.sl false (l.map lP)∧l.length<=maxLen:=by
 obtain⟨ys,rfl,h,_⟩:=h;obtain⟨ft,rfl,hl,a2⟩:=Gx Tryz.underlying22 aEh h;obtain⟨l,h1,h2⟩:=aEi a2;refine⟨l,?_,by rw[h2];exact hl⟩
 rw[ik,az (by rw[aF7];decide),h1];rfl
end
section
open Go.ChangeShapes Go.WideShapes Go.ChangeAt Go.RowKit
theorem aG5:ke Tryz.prog 66=true:=by kernel_rfl
theorem aF8:lJ Tryz.prog 66=true:=by kernel_rfl
theorem aF9:ke Tryz.prog 55=false:=by kernel_rfl
theorem aEj:lJ Tryz.prog 55=true:=by kernel_rfl
theorem aGa:lJ Tryz.prog 64=true:=by kernel_rfl
theorem aG6:ke Tryz.prog 122=true:=by kernel_rfl
theorem aGb:lJ Tryz.prog 122=true:=by kernel_rfl
theorem aEk:lJ Tryz.prog 62=true:=by kernel_rfl
theorem aCV:lJ Tryz.prog 61=true:=by kernel_rfl
theorem aCW{ys:List I}(h:gM Tryz.prog 122 ys):∃o:dS,ys=(ct o).cells:=by
 obtain⟨nV,K4,rfl,h1,aU⟩:=lQ (Gi Tryz.underlying122 aGb h);obtain⟨oH,K5,rfl,h2,a3⟩:=lQ aU;obtain rfl:=GU a3;obtain⟨a,rfl,_⟩:=sO Tryz.underlying3 h1;obtain⟨s,rfl,_⟩:=DA Tryz.underlying9 h2;exact⟨⟨a,s⟩,rfl⟩
theorem aCX{ft:List (List I)}(h:∀z∈ft,gM Tryz.prog 9 z):∃l:List aM,ft.map (ik Tryz.prog 9)=l.map I.str:=by
 induction ft with
 |nil=>exact⟨[],rfl⟩
 |cons z ft ay=>
  obtain⟨p,rfl,_⟩:=DA Tryz.underlying9 (h z (by simp))
  obtain⟨l,h1⟩:=ay fun z a2=>h z (by simp[a2])
  refine⟨p::l,?_⟩;rw[dn,dn,h1,ik,az (by rw[aFK];decide)];rfl
theorem Zt{ys:List I}(h:gM Tryz.prog 61 ys):∃l:List aM,ys=[.sl false (l.map I.str)]:=by
 obtain⟨ft,rfl,hl,a2⟩:=Gx Tryz.underlying61 aCV h;obtain⟨l,h1⟩:=aCX a2;exact⟨l,by rw[h1]⟩
theorem aEl{ft:List (List I)}(h:∀z∈ft,gM Tryz.prog 122 z):∃l:List dS,ft.map (ik Tryz.prog 122)=l.map ct:=by
 induction ft with
 |nil=>exact⟨[],rfl⟩
 |cons z ft ay=>
  obtain⟨p,rfl⟩:=aCW (h z (by simp))
  obtain⟨l,h1⟩:=ay fun z a2=>h z (by simp[a2])
  refine⟨p::l,?_⟩;rw[dn,dn,h1,ik,aF aG6];rfl
theorem aAx{ys:List I}(h:gM Tryz.prog 62 ys):∃l:List dS,ys=[.sl false (l.map ct)]:=by
 obtain⟨ft,rfl,hl,a2⟩:=Gx Tryz.underlying62 aEk h;obtain⟨l,h1⟩:=aEl a2;exact⟨l,by rw[h1]⟩
theorem aCY{ys:List I}(h:gM Tryz.prog 64 ys):∃a:hS,ys=[.int .i64 a.err,.str a.data,.sl false (a.names.map I.str),.int .i64 a.n,.sl false (a.events.map ct)]:=by
 obtain⟨nV,K4,rfl,h1,aU⟩:=lQ (Gi Tryz.underlying64 aGa h);obtain⟨oH,K5,rfl,h2,a3⟩:=lQ aU;obtain⟨mA,P7,rfl,h3,a1⟩:=lQ a3;obtain⟨Dy,P8,rfl,h4,a4⟩:=lQ a1;obtain⟨Dz,XR,rfl,cz,eh⟩:=lQ a4;obtain rfl:=GU eh;obtain⟨a,rfl,_⟩:=sO Tryz.underlying42 h1;obtain⟨s,rfl,_⟩:=DA Tryz.underlying9 h2;obtain⟨l,rfl⟩:=Zt h3;obtain⟨b,rfl,_⟩:=sO Tryz.underlying3 h4;obtain⟨e,rfl⟩:=aAx cz;exact⟨⟨a,s,l,b,e⟩,rfl⟩
theorem aCt{ys:List I}(h:gM Tryz.prog 66 ys):∃p:a9,ys=(dQ p).cells:=by
 obtain⟨nV,K4,rfl,h1,aU⟩:=lQ (Gi Tryz.underlying66 aF8 h);obtain⟨oH,K5,rfl,h2,a3⟩:=lQ aU;obtain⟨mA,P7,rfl,h3,a1⟩:=lQ a3;obtain⟨Dy,P8,rfl,h4,a4⟩:=lQ a1;obtain⟨Dz,XR,rfl,cz,eh⟩:=lQ a4;obtain⟨P0,aTf,rfl,eK,e6⟩:=lQ eh;obtain rfl:=GU e6;obtain⟨a,rfl,_⟩:=sO Tryz.underlying3 h1;obtain⟨b,rfl,_⟩:=sO Tryz.underlying3 h2;obtain⟨m,rfl,_⟩:=sO Tryz.underlying3 h3;obtain⟨e,rfl,_⟩:=sO Tryz.underlying3 h4;obtain⟨c,rfl⟩:=Lw cz;obtain⟨w,rfl⟩:=aCY eK;exact⟨⟨a,b,m,e,c,w⟩,rfl⟩
theorem aEm{ft:List (List I)}(h:∀z∈ft,gM Tryz.prog 66 z):∃l:List a9,ft.map (ik Tryz.prog 66)=l.map dQ∧l.length=ft.length:=by
 induction ft with
 |nil=>exact⟨[],rfl,rfl⟩
 |cons z ft ay=>
  obtain⟨p,rfl⟩:=aCt (h z (by simp))
  obtain⟨l,h1,h2⟩:=ay fun z a2=>h z (by simp[a2])
  refine⟨p::l,?_,by simp[h2]⟩
  rw[dn,dn,h1,ik,aF aG5];rfl
theorem R5{x:I}(h:∃ys,x=ik Tryz.prog 55 ys∧gM Tryz.prog 55 ys∧(ke Tryz.prog 55=true∨ys.length=1)):∃l:List a9,x=.sl false (l.map dQ)∧l.length<=maxLen:=by
 obtain⟨ys,rfl,h,_⟩:=h;obtain⟨ft,rfl,hl,a2⟩:=Gx Tryz.underlying55 aEj h;obtain⟨l,h1,h2⟩:=aEm a2;refine⟨l,?_,by rw[h2];exact hl⟩
 rw[ik,az (by rw[aF9];decide),h1];rfl
end
section
open Go.Srt
def An:List cR:=[.pure 0,.pure 0,.pure 0,.pure 0,.pure 0,.pure 0,.pure 0,.pure 0,.free,.pure 0,.eff [false,false,false,false,false,false,false,false,false]]
def Ao:List cR:=[.pure 0,.pure 0,.free,.pure 0,.pure 0,.free,.pure 0,.pure 0,.pure 0,.pure 0,.pure 0,.pure 0,.eff [false,true,false,false,false,false,false,false,false,false]]
def Ap:List cR:=[.pure 0,.pure 0,.free,.pure 0,.pure 0,.free,.pure 0,.pure 0,.pure 0,.pure 0,.pure 0,.pure 0,.pure 0,.pure 0,.eff [false,true,true,false,false,false,false,false,false,false,false,false]]
attribute [go_sem] An Ao Ap
theorem aEn(aV bm:Bool)(l m:List aM)(H:ab):aY Tryz.prog 63 [.sl aV (l.map qW),.sl bm (m.map qW)] H (.bool (decide (l=m))):=by
 refine nz fun bl _=>?_
 have hl:=lI bl;rw[cP]at hl;refine bh Tryz.func63 ?_;repeat' first|(refine ad ?_;simp only[go_sem])|refine bx ?_|(refine bD ?_ ?_<;>intro h<;>try exact bB h)|fail
 ·exact bC (.of (by rw[b8 (fun e=>by subst e;simp at h)]))
 ·have hlen:l.length=m.length:=by simp at h;omega
  refine b5 (ι:=Nat) (fun i=>[(0,.sl aV (l.map qW)),(1,.sl bm (m.map qW)),(12,.int .i64 l.length),(13,.int .i64 i)]) (fun _=>H) (fun i=>i<=l.length∧l.take i=m.take i) (fun i=>l.length-i) 0 ⟨bG _,rfl⟩ ?_ rfl ?_
  ·simp[go_sem]
  ·rintro i ⟨hi,he⟩;by_cases ak:i<l.length
   ·have ae:=dg qW ak;have aS:=dg qW (show i<m.length by omega)
    repeat' first|(refine ad ?_;simp only[go_sem,ae,aS,qW])|refine bx ?_|(refine bD ?_ ?_<;>intro h<;>try exact bB h)|fail
    ·skip
     have aP:l[i]≠m[i]:=by simpa using h
     exact bC (.of (by rw[b8 (fun e=>aP (by subst e;rfl))]))
    ·skip
     have heq:l[i]=m[i]:=by simpa using h
     exact⟨i+1,⟨ak,by rw[eB ak,eB (by omega),he,heq]⟩,by omega,by rw[cB];rfl⟩
   ·have cv:i=l.length:=by omega
    subst cv;repeat' first|(refine ad ?_;simp only[go_sem])|refine af ?_|fail
    exact bC (.of (by rw[cF (by rw[eQ,hlen,eQ]at he;exact he)]))
theorem aGc(aV bm:Bool)(l m:List dS)(H:ab):aY Tryz.prog 64 [.sl aV (l.map ct),.sl bm (m.map ct)] H (.bool (decide (l=m))):=by
 refine nz fun bl _=>?_
 have hl:=lI bl;rw[cP]at hl;refine bh Tryz.func64 ?_;repeat' first|(refine ad ?_;simp only[go_sem])|refine bx ?_|(refine bD ?_ ?_<;>intro h<;>try exact bB h)|fail
 ·exact bC (.of (by rw[b8 (fun e=>by subst e;simp at h)]))
 ·have hlen:l.length=m.length:=by simp at h;omega
  refine b5 (ι:=Nat) (fun i=>[(0,.sl aV (l.map ct)),(1,.sl bm (m.map ct)),(12,.int .i64 l.length),(13,.int .i64 i)]) (fun _=>H) (fun i=>i<=l.length∧l.take i=m.take i) (fun i=>l.length-i) 0 ⟨bG _,rfl⟩ ?_ rfl ?_
  ·simp[go_sem]
  ·rintro i ⟨hi,he⟩;by_cases ak:i<l.length
   ·have ae:=dg ct ak;have aS:=dg ct (show i<m.length by omega)
    repeat' first|(refine ad ?_;simp only[go_sem,ae,aS,ct])|refine bx ?_|(refine bD ?_ ?_<;>intro h<;>try exact bB h)|fail
    ·rw[Ia]at h;have aP:l[i]≠m[i]:=by simpa using h
     exact bC (.of (by rw[b8 (fun e=>aP (by subst e;rfl))]))
    ·rw[Ia]at h;have heq:l[i]=m[i]:=by simpa using h
     exact⟨i+1,⟨ak,by rw[eB ak,eB (by omega),he,heq]⟩,by omega,by rw[cB];rfl⟩
   ·have cv:i=l.length:=by omega
    subst cv;repeat' first|(refine ad ?_;simp only[go_sem])|refine af ?_|fail
    exact bC (.of (by rw[cF (by rw[eQ,hlen,eQ]at he;exact he)]))
theorem aEo(aV bm:Bool)(l m:List aM)(H:ab):aY Tryz.prog 63 [.sl aV (l.map I.str),.sl bm (m.map I.str)] H (.bool (decide (l=m))):=aEn aV bm l m H
theorem R6(f2 f3:Bool)(a:hS)(H:ab):aY Tryz.prog 62 [il f2 f3 a] H (.agg [.int .i64 a.err,.str a.data,.int .i64 a.n]):=by
 refine bh Tryz.func62 ?_;repeat' first|(refine ad ?_;simp only[go_sem,il])|refine af ?_|fail
 exact bo (.refl _)
theorem Te(f2 f3 a7 ch:Bool)(a b:hS)(H:ab):aY Tryz.prog 34 [il f2 f3 a,il a7 ch b] H (.bool (decide (a=b))):=by
 refine bh Tryz.func34 ?_;have cK:=R6 f2 f3 a;have dc:=R6 a7 ch b;have h1:=aEo f2 a7 a.names b.names;have h2:=aGc f3 ch a.events b.events;rw[<-Tz];simp only[il]at cK dc;generalize decide (a.names=b.names)=aQ at *;generalize decide (a.events=b.events)=aO at *;have aH5:=cK;have aH6:=dc;repeat' first|(refine ad ?_;simp only[go_sem,il])|refine af ?_|fail
 refine bo (.of (bH I.bool ?_));cases aQ<;>cases aO<;>simp[Bool.and_assoc]
theorem HM{α:Type}{enc:α->I}{s:Nat}(hs:∀x,(enc x).cells.length=s){D:List α}{k f:Nat}(h:k<D.length)(an:f<s):(aI enc D).getD (k * s+f) .top=(enc D[k]).cells.getD f .top:=by
 have e:D=D.take k++(D[k]::D.drop (k+1)):=by rw[<-eo h,jf]
 have hl:=dE hs (D.take k);rw[e8,uu (by omega)]at hl
 have au:aI enc D=aI enc (D.take k)++((enc D[k]).cells++aI enc (D.drop (k+1))):=by rw[<-pK,<-iu,<-e]
 have al:=hs D[k];rw[au];simp only[eP];rw[qf (by omega),hl,Nat.add_sub_cancel_left,iC (by omega)]
theorem aGd(f1 f2 f3 f4:Bool)(m:cb)(h:ey m)(H:ab):aY Tryz.prog 39 [dv f1 f2 f3 f4 m] H (dv false false false false m):=by
 refine bh Tryz.func39 ?_;have mh:=Rr f1 m.log.entries (by have:=h.cap;omega)
 have fz:=Qb f2 m.log.nodes (by have:=h.nodes.len;omega)
 have u4:=h.cj;have CK:=h.bN;repeat' first|((first|refine mx [1] An ?_|refine mx [6] Ao ?_|refine mx [12] Ap ?_|refine ad ?_);simp only[go_sem,dv,gf])|refine af ?_|fail
 refine c6 (Qc f3 m.cj (by omega) _) (aA) ?_
 rintro v H' ⟨rfl,rfl⟩;simp only[go_sem];obtain⟨qk,zL⟩:∃B:List I,B=(dv true true true true rH).cells:=⟨_,rfl⟩;have bE:[I.sl true [],I.sl true [],I.int .i64 0,I.int .i64 0,I.sl true [],I.sl true [],I.int .i64 0]=qk:=by rw[zL];rfl
 repeat' first|((first|refine mx [1] An ?_|refine mx [6] Ao ?_|refine mx [12] Ap ?_|refine ad ?_);simp only[go_sem,dv,gf,bE])|refine af ?_|fail
 obtain⟨G,aT⟩:∃G,H++[.cells 0 (gf (.sl false (m.log.entries.map de)) (.sl false (m.log.nodes.map aW)) (.osl 2 (H.length+2) 1 0 m.cj.length m.cj.length) (.sl f4 (m.bN.map bU)) m).cells,.cells 0 qk,.cells 1 (aI cU m.cj)]=G:=⟨_,rfl⟩;have cw:ao G H.length=.cells 0 (gf (.sl false (m.log.entries.map de)) (.sl false (m.log.nodes.map aW)) (.osl 2 (H.length+2) 1 0 m.cj.length m.cj.length) (.sl f4 (m.bN.map bU)) m).cells:=by rw[<-aT];simp only[go_sem]
 have a7:ao G (H.length+2)=.cells 1 (aI cU m.cj):=by rw[<-aT];simp only[go_sem]
 have Vg:G.length=H.length+3:=by rw[<-aT];simp
 simp only[gf,I.cells]at aT cw;rw[aT];refine jY (ι:=Unit) (fun _=>[(1,.ref H.length 0 0),(2,.ref (H.length+1) 0 0)]) (fun _=>G) (fun _=>True) ?_ ?_
 ·refine b5 (ι:=Nat) (fun i=>[(1,.ref H.length 0 0),(2,.ref (H.length+1) 0 0),(21,.int .i64 m.cj.length),(22,.int .i64 i)]) (fun _=>G) (fun i=>i<=m.cj.length) (fun i=>m.cj.length-i) 0 (bG _) ?_ rfl ?_
  ·simp[go_sem]
  intro i hi;by_cases ak:i<m.cj.length
  ·have aH:decide ((i:Int)<(m.cj.length:Int))=true:=b1;have eu:=dE (enc:=cU) (s:=2) (fun _=>rfl) m.cj
   have eD:=(h.snap _ (hv ak)).len;have fj:=om (enc:=cU) (s:=2) (fun _=>rfl) ak
   have o7:=sJ (enc:=cU) (s:=2) (fun _=>rfl) (f:=1) (X:=[.sl false (m.cj[i].nodes.map aW)]) ak (bk 2) m.cj[i] rfl
   rw[List.set_getElem_self]at o7;have tw:=Qb false m.cj[i].nodes (by omega)
   have kR:=HM (enc:=cU) (s:=2) (fun _=>rfl) ak (f:=1) (by decide)
   have OI:=kr a7 trivial;generalize m.cj[i]=x at *;simp only[cU,I.cells,DM,DG]at kR;repeat' first|((first|refine mx [1] An ?_|refine mx [6] Ao ?_|refine mx [12] Ap ?_|refine ad ?_);simp only[go_sem,cw,a7,aH,eu,kR,o7,OI])|refine af ?_|fail
   exact⟨i+1,ak,by omega,bH _ (dW ak (by omega))⟩
  ·have fx:i=m.cj.length:=by omega
   subst fx;have aH:decide ((m.cj.length:Int)<(m.cj.length:Int))=false:=by simp
   repeat' first|(refine ad ?_;simp only[go_sem,aH])|refine af ?_|fail
   exact⟨(),trivial⟩
 rintro- -
 repeat' first|(refine ad ?_;simp only[go_sem,cw])|refine af ?_|fail
 obtain⟨cZ,fh⟩:∃cZ,H++[.cells 0 (gf (.sl false (m.log.entries.map de)) (.sl false (m.log.nodes.map aW)) (.osl 2 (H.length+2) 1 0 m.cj.length m.cj.length) (.osl 4 (H.length+3) 1 0 m.bN.length m.bN.length) m).cells,.cells 0 qk,.cells 1 (aI cU m.cj),.cells 1 (aI bU m.bN)]=cZ:=⟨_,rfl⟩;have qB:ao cZ H.length=.cells 0 (gf (.sl false (m.log.entries.map de)) (.sl false (m.log.nodes.map aW)) (.osl 2 (H.length+2) 1 0 m.cj.length m.cj.length) (.osl 4 (H.length+3) 1 0 m.bN.length m.bN.length) m).cells:=by rw[<-fh];simp only[go_sem]
 have k2:ao cZ (H.length+2)=.cells 1 (aI cU m.cj):=by rw[<-fh];simp only[go_sem]
 have k3:ao cZ (H.length+3)=.cells 1 (aI bU m.bN):=by rw[<-fh];simp only[go_sem]
 have k1:ao cZ (H.length+1)=.cells 0 qk:=by rw[<-fh];simp only[go_sem]
 have eA:∀X,ai cZ (H.length+1) X=H++[.cells 0 (gf (.sl false (m.log.entries.map de)) (.sl false (m.log.nodes.map aW)) (.osl 2 (H.length+2) 1 0 m.cj.length m.cj.length) (.osl 4 (H.length+3) 1 0 m.bN.length m.bN.length) m).cells,X,.cells 1 (aI cU m.cj),.cells 1 (aI bU m.bN)]:=fun X=>by rw[<-fh];simp only[go_sem]
 rw[<-bE]at k1;have lL:=bz cw trivial;have aO:=jI cw trivial;have bF:∀X,ai G H.length X++[.cells 1 (aI bU m.bN)]=H++[X,.cells 0 qk,.cells 1 (aI cU m.cj),.cells 1 (aI bU m.bN)]:=fun X=>by rw[<-aT];simp only[go_sem]
 simp only[gf,I.cells]at fh qB eA;refine c6 (Gk f4 m.bN (by omega) _) (aA) ?_
 rintro v H' ⟨rfl,rfl⟩;simp only[go_sem,lL,aO,bF,Vg,fh,qB];repeat' first|((first|refine mx [1] An ?_|refine mx [6] Ao ?_|refine mx [12] Ap ?_|refine ad ?_);simp only[go_sem,lL,aO,bF,Vg,fh,qB])|refine af ?_|fail
 refine b5 (ι:=Nat) (fun i=>[(1,.ref H.length 0 0),(2,.ref (H.length+1) 0 0),(44,.int .i64 m.bN.length),(45,.int .i64 i)]) (fun _=>cZ) (fun i=>i<=m.bN.length) (fun i=>m.bN.length-i) 0 (bG _) ?_ rfl ?_
 ·simp[go_sem]
 intro i hi;by_cases ak:i<m.bN.length
 ·have aH:decide ((i:Int)<(m.bN.length:Int))=true:=b1;have eu:=dE (enc:=bU) (s:=4) (fun _=>rfl) m.bN
  have eD:=(h.watch _ (hv ak)).2.1;have o7:=sJ (enc:=bU) (s:=4) (fun _=>rfl) (f:=2) (X:=[.sl false (m.bN[i].bV.map ct)]) ak (pq 3) m.bN[i] rfl
  rw[List.set_getElem_self]at o7;have tw:=Qj false m.bN[i].bV (by omega)
  have kR:=HM (enc:=bU) (s:=4) (fun _=>rfl) ak (f:=2) (by decide)
  have OI:=kr k3 trivial;generalize m.bN[i]=x at *;simp only[bU,I.cells,DM,DG]at kR;repeat' first|((first|refine mx [1] An ?_|refine mx [6] Ao ?_|refine mx [12] Ap ?_|refine ad ?_);simp only[go_sem,qB,k3,aH,eu,kR,o7,OI])|refine af ?_|fail
  exact⟨i+1,ak,by omega,bH _ (dW ak (by omega))⟩
 ·have fx:i=m.bN.length:=by omega
  subst fx;have aH:decide ((m.bN.length:Int)<(m.bN.length:Int))=false:=by simp
  repeat' first|((first|refine mx [1] An ?_|refine mx [6] Ao ?_|refine mx [12] Ap ?_|refine ad ?_);simp only[go_sem,qB,k1,aH,eA])|refine af ?_|fail
  exact⟨_,dv false false false false m,rfl,.agg _ _ rfl (dV (fY.uR (.sl _ _) (by simp only[go_sem])) (dV (fY.uR (.sl _ _) (by simp only[go_sem])) (dV (.cl _ (.int _ _)) (dV (.cl _ (.int _ _)) (dV (tV (enc:=cU) (D:=m.cj) (by omega) (by simp only[go_sem]) rfl (fun _=>rfl) (fun x=>by simp only[go_sem])) (dV (tV (enc:=bU) (D:=m.bN) (by omega) (by simp only[go_sem]) rfl (fun _=>rfl) (fun x=>by simp only[go_sem])) (dV (.cl _ (.int _ _)) gY))))))),rfl⟩
def je(f g:Bool)(p:a9):I:=.agg [.int .i64 p.aR,.int .i64 p.dJ,.int .i64 p.mark,.int .i64 p.end_,.int .i64 p.call.kind,.str p.call.path,.str p.call.to,.str p.call.data,.int .i64 p.call.n,.int .i64 p.bp.err,.str p.bp.data,.sl f (p.bp.names.map I.str),.int .i64 p.bp.n,.sl g (p.bp.events.map ct)]
theorem RJ(l:List a9){k:Nat}(hk:k<l.length):BI (pf none (l.take k)) l[k]= !(decide ((0:Int)<(k:Int))&&decide (l[k].mark<=(l[k-1]'(by omega)).mark)):=by
 cases k with
 |zero=>rfl
 |succ k=>
  have e:pf none (l.take (k+1))=some l[k].mark:=by
   unfold pf;rw[eB (by omega),List.getLast?_append,List.getLast?_singleton]
   rfl
  rw[e];have aC:decide ((0:Int)<((k+1:Nat):Int))=true:=b1;rw[aC,hG];show decide (l[k].mark<l[k+1].mark)= !decide (l[k+1].mark<=l[k].mark);rw[<-decide_not];exact DO.2 (by omega)
theorem aAy(l:List a9){k:Nat}(hk:k<l.length):pf none (l.take (k+1))=some l[k].mark:=by
 unfold pf;rw[eB hk,List.getLast?_append,List.getLast?_singleton];rfl
theorem RK(f g f1 f2 f3 f4 b:Bool)(m:cb)(h:ey m)(l:List a9)(hl:l.length<=1000)(al:∀p∈l,jh p.call)(H:ab):aY Tryz.prog 15 [dv f1 f2 f3 f4 m,.sl b (l.map (je f g))] H (.bool (fP m none l)):=by
 refine bh Tryz.func15 ?_;repeat' first|(refine ad ?_;simp only[go_sem,dv,gf])|refine af ?_|fail
 refine Dq H.length (dv false false false false m).cells (v:=0) (cs:=(dv f1 f2 f3 f4 m).cells) (by simp only[go_sem];rfl) rfl (dh (.sl _ _) (dh (.sl _ _) (dh (.refl _) (dh (.refl _) (dh (.sl _ _) (dh (.sl _ _) (dh (.refl _) mF))))))) ?_
 simp only[go_sem];obtain⟨Ht,Vm⟩:∃B:List I,B=(il true true sj).cells:=⟨_,rfl⟩;obtain⟨R,e2⟩:∃R,R=fP m none l:=⟨_,rfl⟩;rw[<-e2];refine b5 (ι:=Nat×cb×ab) (fun s=>[(1,.sl b (l.map (je f g))),(2,.ref H.length 0 0),(5,.ref (H.length+1) 0 0),(12,.sl b (l.map (je f g))),(13,.int .i64 l.length),(14,.int .i64 s.1)])
  (fun s=>H++(.cells 0 (dv false false false false s.2.1).cells::.cells 0 Ht::s.2.2)) (fun s=>s.1<=l.length∧ey s.2.1∧R=fP s.2.1 (pf none (l.take s.1)) (l.drop s.1)) (fun s=>l.length-s.1) (0,m,[]) ⟨bG _,h,e2⟩ ?_ (by rw[Vm];rfl) ?_
 ·simp[go_sem]
 rintro⟨k,mk,M⟩ ⟨hk,gF,ax⟩;simp only at hk gF ax ⊢;obtain⟨G,aT⟩:∃G,H++(.cells 0 (dv false false false false mk).cells::.cells 0 Ht::M)=G:=⟨_,rfl⟩;rw[aT];have cw:ao G H.length=.cells 0 (dv false false false false mk).cells:=by rw[<-aT];simp only[go_sem]
 have aZ:ao G (H.length+1)=.cells 0 Ht:=by rw[<-aT];simp only[go_sem]
 have gs:∀X,ai G H.length X=H++(X::.cells 0 Ht::M):=fun X=>by rw[<-aT];simp only[go_sem]
 rw[Vm]at aZ;simp only[il,sj,c2,im,I.cells]at aZ;have a8:=cw;have aU:=bz cw trivial;have a3:=bz aZ trivial;have cH:=c8 cw trivial;have cO:=c8 aZ trivial;have a1:=fun X L=>bQ (bM aZ (show ¬H.length=H.length+1 by omega) X) trivial L;have a4:=fun X=>bM aZ (show ¬H.length=H.length+1 by omega) X;have bL:=aX G (H.length);have bq:=mq cH cO (show H.length<H.length+1 by omega) rfl
 by_cases ak:k<l.length
 ·have cG:=dg (je f g) ak;have sq:=dg (je f g) (show k-1<l.length by omega)
  have kz:=eo ak;have aKo:=RJ l ak;have u1:=aAy l ak;have fk:=al _ (hv ak);rw[kz,fP]at ax;rw[aKo,<-u1]at ax;generalize l[k-1]'(by omega)=q at *
  generalize l[k]=p at *;have j0:=Ik false false false false mk gF p.call fk;have wF:=xO gF p.call;have pk:decide (p.dJ<p.mark)= !decide (p.mark<=p.dJ):=by rw[<-decide_not];exact DO.2 (by omega)
  have qO:decide (p.mark<p.end_)= !decide (p.end_<=p.mark):=by rw[<-decide_not];exact DO.2 (by omega)
  unfold zs at ax;rw[pk,qO]at ax;clear pk qO;obtain⟨⟨k0,bZ,AE⟩,o8⟩:∃r,dz mk p.call=r:=⟨_,rfl⟩;rw[o8]at j0 ax wF;simp only at ax wF;have JI:=Te false false f g bZ p.bp;have Ae:=Te true true f g sj p.bp;obtain⟨z,a2⟩:∃z,decide (sj=p.bp)=z:=⟨_,rfl⟩;rw[a2]at ax Ae;simp only[wg,dv,gf,cJ,il]at j0;simp only[il,sj,c2,im]at JI Ae;simp only[je]at cG sq;have aH:decide ((k:Int)<(l.length:Int))=true:=b1;have hw:=dW ak (by omega)
  have ca:IntKind.i64.wrap ((k:Int)-1)=(k:Int)-1:=cB;have kU:((k:Int)-1).toNat=k-1:=by omega
  have gI:((0:Int)<(k:Int)->(0:Int)<=(k:Int)-1∧(k:Int)-1<(l.length:Int))=True:=bJ fun h=>⟨by omega,by omega⟩
  repeat' first|(refine ad ?_;simp only[go_sem,a8,aU,a3,a1,a4,bL,bq,aX,dv,gf,cG,sq,aH,ak,ca,kU,gI])|refine bx ?_|(refine bD ?_ ?_<;>intro h<;>try exact bB h)|fail
  ·refine xG aT (by simp only[go_sem]) (.of (bH I.bool ?_))
   rw[ax,h];rfl
  ·refine xG aT (by simp only[go_sem]) (.of (bH I.bool ?_))
   rw[ax];grind
  ·exact⟨(k+1,k0,M++_),⟨ak,wF,by rw[ax];grind⟩,by simp only;omega,bH _ hw,by rw[gs,cr,gi,gi]⟩
  ·rw[gs,cr];refine bo (.of (bH I.bool ?_));rw[ax];grind
 ·have g3:k=l.length:=by omega
  have aH:decide ((k:Int)<(l.length:Int))=false:=cg;rw[g3,l7]at ax;repeat' first|(refine ad ?_;simp only[go_sem,aH])|refine af ?_|fail
  rw[ax];exact yK aT (by simp only[go_sem]) (.refl _)
theorem sC(f1 f2 f3 f4 b:Bool)(m:cb)(h:ey m)(l:List a9)(hl:l.length<=1000)(al:∀p∈l,jh p.call)(H:ab):aY Tryz.prog 15 [dv f1 f2 f3 f4 m,.sl b (l.map dQ)] H (.bool (fP m none l)):=RK false false f1 f2 f3 f4 b m h l hl al H
theorem Hi(f1 f2 f3 f4 b:Bool)(m:cb)(h:ey m)(l:List a9)(hl:l.length<=1000)(al:∀p∈l,jh p.call)(H:ab):aY Tryz.prog 18 [dv f1 f2 f3 f4 m,.sl b (l.map dQ)] H (dv false false false false (jb m l)):=by
 refine bh Tryz.func18 ?_;repeat' first|(refine ad ?_;simp only[go_sem,dv,gf])|refine af ?_|fail
 refine Dq H.length (dv false false false false m).cells (v:=0) (cs:=(dv f1 f2 f3 f4 m).cells) (by simp only[go_sem];rfl) rfl (dh (.sl _ _) (dh (.sl _ _) (dh (.refl _) (dh (.refl _) (dh (.sl _ _) (dh (.sl _ _) (dh (.refl _) mF))))))) ?_
 simp only[go_sem];obtain⟨qk,zL⟩:∃B:List I,B=(dv true true true true rH).cells:=⟨_,rfl⟩;obtain⟨R,e2⟩:∃R,R=jb m l:=⟨_,rfl⟩;rw[<-e2];refine b5 (ι:=Nat×cb×ab) (fun s=>[(2,.ref H.length 0 0),(4,.ref (H.length+1) 0 0),(7,.sl b (l.map dQ)),(8,.int .i64 l.length),(9,.int .i64 s.1)])
  (fun s=>H++(.cells 0 (dv false false false false s.2.1).cells::.cells 0 qk::s.2.2)) (fun s=>s.1<=l.length∧ey s.2.1∧R=jb s.2.1 (l.drop s.1)) (fun s=>l.length-s.1) (0,m,[]) ⟨bG _,h,e2⟩ ?_ (by rw[zL];rfl) ?_
 ·simp[go_sem]
 rintro⟨k,mk,M⟩ ⟨hk,gF,ax⟩;simp only at hk gF ax ⊢;obtain⟨G,aT⟩:∃G,H++(.cells 0 (dv false false false false mk).cells::.cells 0 qk::M)=G:=⟨_,rfl⟩;rw[aT];have cw:ao G H.length=.cells 0 (dv false false false false mk).cells:=by rw[<-aT];simp only[go_sem]
 have aZ:ao G (H.length+1)=.cells 0 qk:=by rw[<-aT];simp only[go_sem]
 have gs:∀X,ai G H.length X=H++(X::.cells 0 qk::M):=fun X=>by rw[<-aT];simp only[go_sem]
 have a8:=cw;have aU:=bz cw trivial;have a3:=bz aZ trivial;have cH:=c8 cw trivial;have cO:=c8 aZ trivial;have a1:=fun X L=>bQ (bM aZ (show ¬H.length=H.length+1 by omega) X) trivial L;have a4:=fun X=>bM aZ (show ¬H.length=H.length+1 by omega) X;have bL:=aX G (H.length);have bq:=mq cH cO (show H.length<H.length+1 by omega) rfl
 by_cases ak:k<l.length
 ·have cG:=dg dQ ak;have kz:=eo ak;have fk:=al _ (hv ak);rw[kz]at ax;generalize l[k]=p at *;have j0:=Ik false false false false mk gF p.call fk;have wF:=xO gF p.call;have ib:R=jb (dz mk p.call).1 (l.drop (k+1)):=ax;obtain⟨⟨k0,bZ,AE⟩,o8⟩:∃r,dz mk p.call=r:=⟨_,rfl⟩;rw[o8]at j0 ib wF;simp only[wg,dv,gf,cJ,il]at j0;simp only[dQ]at cG;have aH:decide ((k:Int)<(l.length:Int))=true:=b1;have hw:=dW ak (by omega)
  repeat' first|(refine ad ?_;simp only[go_sem,a8,aU,a3,a1,a4,bL,bq,aX,dv,gf,cG,aH,ak])|refine af ?_|fail
  exact⟨(k+1,k0,M++_),⟨ak,wF,ib⟩,by simp only;omega,bH _ hw,by rw[gs,cr,gi,gi]⟩
 ·have g3:k=l.length:=by omega
  have aH:decide ((k:Int)<(l.length:Int))=false:=cg;rw[g3,l7]at ax;have ib:R=mk:=ax;have Wg:=aGd false false false false mk gF;rw[zL]at aZ aT;simp only[dv,gf,rH,im,I.cells]at Wg cw aZ aT;have tm:∀X,ai G (H.length+1) X=H++(.cells 0 [.sl false (mk.log.entries.map de),.sl false (mk.log.nodes.map aW),.int .i64 mk.seen,.int .i64 mk.rep,.sl false (mk.cj.map cU),.sl false (mk.bN.map bU),.int .i64 mk.next]::X::M):=fun X=>by rw[<-aT];simp only[go_sem]
  repeat' first|(refine ad ?_;simp only[go_sem,cw,aZ,tm,aH])|refine af ?_|fail
  rw[ib];exact bo (.refl _)
theorem aCu(f g:Bool)(a b:a9)(H:ab):aY Tryz.prog 35 [je f g a,je f g b] H (.bool (!decide (b.end_=0)&&decide (b.end_<a.dJ))):=by
 refine bh Tryz.func35 ?_;repeat' first|(refine ad ?_;simp only[go_sem,je])|refine af ?_|fail
 exact bo (.refl _)
end
end Go.Proofs.YthafnbmdmfoobaaGreatDoor
