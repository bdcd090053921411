/- The texts 40 of 53 beneath the rows of this seat (joined by program): the abstract machine, and what the functions answer. No condition. -/
import Derived.Test.YtolbeecicikoaaaGreatDoorWorkBL
set_option linter.unusedSimpArgs false
set_option linter.unusedVariables false
set_option linter.unusedSectionVars false
set_option maxRecDepth 100000
set_option maxHeartbeats 16000000
namespace Go.Proofs.YtolbeecicikoaaaGreatDoor
theorem aN2(y:List UInt8)(w:AV)(clock:Nat):∀(es:List (AV×AV×Nat)),keysIn .string es→keysIn .string (iX (.str y) w es clock)∧
  (∀x,(keyAt (.str x) (iX (.str y) w es clock)).map (·.2)=if x=y then some w else(keyAt (.str x) es).map (·.2)):=by
 intro es
 induction es with
 |nil=>
  intro _
  refine⟨fun p hp=>?_,fun x=>?_⟩
  ·simp only[iX,keyAt,zAG,zAx]at hp
   subst hp;rfl
  grind [iX,keyAt,zAG,zAx,mX]
 |cons q es ih=>
  obtain⟨k,v,b⟩:=q
  intro hk
  have hk0:aHc .string k=true:=hk (k,v,b) (by simp)
  have hk1:keysIn .string es:=fun p hp=>hk p (zAP _ hp)
  cases k<;>simp only[aHc,zAw]at hk0
  rename_i z
  by_cases hyz:y=z
  ·subst hyz
   have e:iX (.str y) w ((AV.str y,v,b)::es) clock=(.str y,w,b)::es:=by simp[iX,keyAt,mX]
   rw[e]
   refine⟨fun p hp=>?_,fun x=>?_⟩
   ·rcases zAv.1 hp with rfl|hp
    ·rfl
    ·exact hk1 p hp
   ·simp only[keyAt,mX]
    by_cases h:x=y<;>simp[h]
  ·have hne:mX (.str y) (.str z)=false:=by simp[mX,hyz]
   rw[Go.Proofs.YtolbeecicikoaaaGreatDoor.yS hne]
   obtain⟨i1,i2⟩:=ih hk1
   refine⟨fun p hp=>?_,fun x=>?_⟩
   ·rcases zAv.1 hp with rfl|hp
    ·rfl
    ·exact i1 p hp
   ·have:=i2 x
    simp only[keyAt,mX]
    by_cases h:x=z
    ·subst h
     have hxy:¬x=y:=fun e=>hyz e.symm
     simp[hxy]
    ·simp only[eT h,zCj,Option.map_map]
     by_cases hxy:x=y
     ·rw[zAc hxy]at this ⊢
      cases hkk:keyAt (.str x) (iX (.str y) w es clock)with
      |none=>rw[hkk]at this;cases this
      |some v=>rw[hkk]at this;simpa using this
     ·rw[zAb hxy]at this ⊢
      cases hkk:keyAt (.str x) (iX (.str y) w es clock)with
      |none=>rw[hkk]at this;cases hk2:keyAt (.str x) es with
       |none=>rfl
       |some v=>rw[hk2]at this;cases this
      |some v=>rw[hkk]at this;cases hk2:keyAt (.str x) es with
       |none=>rw[hk2]at this;cases this
       |some u=>rw[hk2]at this;simpa using this
structure ItM (l:List Itm) (es:List (AV×AV×Nat)):Prop where
 ki:keysIn .string es
 at_:∀p:Txt,(keyAt (.str p) es).map (·.2)=(lookI p l).map itA
 cl:∀n,∀p∈es,Cl n p.1∧Cl n p.2.1
theorem aVu:ItM [] []:=⟨fun p hp=>(by cases hp),fun x=>rfl,fun n p hp=>(by cases hp)⟩
theorem aRD(n:Nat)(x:Itm):Cl n (itA x):=.agg _ fun i y hy=>by
 have:=zAL hy
 simp only[zAv,zAS,zBY]at this
 rcases this with rfl|rfl|rfl
 ·exact .str _
 ·exact .int _ _
 ·exact .str _
theorem aVv{l:List Itm}{es:List (AV×AV×Nat)}(h:ItM l es)(x:Itm)(clock:Nat):ItM (l++[x]) (iX (.str x.path) (itA x) es clock):=by
 obtain⟨i1,i2⟩:=aN2 x.path (itA x) clock es h.ki
 refine⟨i1,fun p=>?_,fun n=>aTc (.str _) (aRD n x) (h.cl n) clock⟩
 rw[i2,h.at_]
 unfold lookI
 grind
theorem ItM.yes{l:List Itm}{es:List (AV×AV×Nat)}(h:ItM l es){p:Txt}{x:Itm}(hx:lookI p l=some x):∃j,keyAt (.str p) es=some (j,itA x):=by
 have:=h.at_ p
 simp_all
theorem ItM.no{l:List Itm}{es:List (AV×AV×Nat)}(h:ItM l es){p:Txt}(hx:lookI p l=none):keyAt (.str p) es=none:=by
 have:=h.at_ p
 rw[hx]at this
 exact Option.map_eq_none_iff.1 this
def evC(evs:List Evt):List AV:=(evs.map cY).flatMap AV.cells
theorem aN3(a:List Evt)(x:Evt):evC (a++[x])=evC a++[.int .i64 x.kind,.str x.path]:=by
 simp[evC,cY,AV.cells]
theorem aC6(a:List Evt):(evC a).length=a.length * 2:=by
 induction a with
 |nil=>rfl
 |cons x a ih=>
  have:evC (x::a)=[.int .i64 x.kind,.str x.path]++evC a:=by simp[evC,cY,AV.cells]
  grind
def evH(G:AHeap)(h:Nat)(evs:List Evt):AHeap:=aB (aB G (h+1) (.cells (evs.length+1) (evC evs))) h (.cells 0 [.osl 2 (h+1) (evs.length+1) 0 evs.length evs.length])
theorem aVw{G:AHeap}{h:Nat}(hh:h+1<G.length)(evs:List Evt)(L:AHeap):evH (G++L) h evs=evH G h evs++L:=by
 unfold evH
 rw[bE hh,bE (by rw[aC];omega)]
theorem aGT(G:AHeap)(h:Nat)(evs:List Evt):(evH G h evs).length=G.length:=by unfold evH;rw[aC,aC]
theorem aFD{G:AHeap}{h j:Nat}{B:ABlk}(evs:List Evt)(hj:hget G j=B)(h1:j≠h)(h2:j≠h+1):hget (evH G h evs) j=B:=by
 unfold evH
 exact aT (aT hj (by omega) _) (by omega) _
structure EB (h:Nat) (evs:List Evt) (G:AHeap):Prop where
 b0:hget G h=.cells 0 [.osl 2 (h+1) (evs.length+1) 0 evs.length evs.length]
 b1:hget G (h+1)=.cells (evs.length+1) (evC evs)
theorem EB.lt{h:Nat}{evs:List Evt}{G:AHeap}(k:EB h evs G):h+1<G.length:=aU k.b1 trivial
theorem EB.app{h:Nat}{evs:List Evt}{G:AHeap}(k:EB h evs G)(L:AHeap):EB h evs (G++L):=⟨aG k.b0 trivial L,aG k.b1 trivial L⟩
theorem EB.set{h:Nat}{evs:List Evt}{G:AHeap}(k:EB h evs G){i:Nat}(hi:h+1<i)(X:ABlk):EB h evs (aB G i X):=⟨aT k.b0 (by omega) X,aT k.b1 (by omega) X⟩
theorem EB.put{h:Nat}{G:AHeap}(hl:h+1<G.length)(es:List Evt):EB h es (evH G h es):=
 ⟨cJ (by rw[aC];omega) _,aT (cJ hl _) (by omega) _⟩
theorem aN4(k n:Nat)(evs:List Evt):ClB n (.cells k (evC evs)):=fun x hx=>by
 unfold evC at hx
 rw[zBG]at hx
 obtain⟨y,hy,hx⟩:=hx
 obtain⟨t, -,rfl⟩:=zAi.1 hy
 simp only[cY,AV.cells,zAv,zAS,zBY]at hx
 rcases hx with rfl|rfl
 ·exact .int _ _
 ·exact .str _
theorem aLk{G:AHeap}{h n:Nat}(evs:List Evt)(hn:h+1<n):∀(j:Nat) (b:ABlk),(evH G h evs)[j]?=some b→G[j]?=some b∨ClB n b:=fun j b hj=>by
 rcases pZ (n:=n) (b:=.cells 0 [.osl 2 (h+1) (evs.length+1) 0 evs.length evs.length]) (fun x hx=>by rw[zAx]at hx;subst hx;exact .osl _ _ _ _ _ _ (by omega)) j b hj with q|q
 ·exact pZ (aN4 _ _ evs) j b q
 ·exact .inr q
end Go.Proofs.YtolbeecicikoaaaGreatDoor
namespace Go.Proofs.YtolbeecicikoaaaGreatDoor
theorem aWj(kind:Int)(path:Txt)(evs:List Evt)(u:Nat)(hl:evs.length≤4294967296)(G:AHeap)(hB:EB u evs G):
  ACalls Tryz.prog 121 [.int .i64 kind,.str path,.ref u 0 0] G (fun v G'=>v=.tup []∧G'=evH G u (evs++[⟨kind,path⟩])):=by
 refine aQ Tryz.func121 ?_
 have b0:=hB.b0
 have b1:=hB.b1
 have hlt:=hB.lt
 have r0:∀c,hget (aB G (u+1) c) u=_:=fun c=>aT b0 (by omega) c
 have hcs:(evC evs).length=evs.length * 2:=aC6 _
 have hq1:(∀e,e=AV.agg [.int .i64 kind,.str path]→e.cells.length=2)=True:=zAI (fun e he=>by rw[he];rfl)
 have hq2:((evs.length+1) * 24≤140737488355328)=True:=zAI (by omega)
 have hsp:cH [AV.osl 2 (u+1) (evs.length+1) 0 evs.length evs.length] 0 [.osl 2 (u+1) (evs.length+2) 0 (evs.length+1) (evs.length+1)]=[.osl 2 (u+1) (evs.length+2) 0 (evs.length+1) (evs.length+1)]:=rfl
 have hput:aB (aB G (u+1) (.cells (evs.length+2) (evC evs++[.int .i64 kind,.str path]))) u (.cells 0 [.osl 2 (u+1) (evs.length+2) 0 (evs.length+1) (evs.length+1)])=evH G u (evs++[⟨kind,path⟩]):=by
  unfold evH
  rw[aN3,zAe]
  rfl
 repeat' first|(refine gS ?_;simp only[go_sem,b0,b1,r0,hcs,hq1,hq2,hsp])|refine gA ?_|(refine gD (fun h=>?_) (fun h=>?_)<;>try exact aA h)|fail
 rw[hput]
 exact⟨_,[],.tup [],(zAg _).symm,by rw[aGT];exact zAh _,by rw[aGT];exact aLk _ hlt,.cl _ (.tup _ fun _ _ hx=>by simp at hx),rfl,rfl⟩
theorem aN5(l:List Itm):∀e∈l.map itA,Pur e:=fun e he=>by obtain⟨x,_,rfl⟩:=zAi.1 he;exact(by simp only[go_sem])
theorem aRE(k:Nat)(b:Bool)(l:List Itm):Cl k (.sl b (l.map itA)):=(Pur.sl b _ (aN5 l)).cl k
theorem aVx(b:Bool)(l:List Itm)(H:AHeap):bD Tryz.prog 122 [.sl b (l.map itA)] H (.func (.func 161) [] [.cptr [.sl b (l.map itA)]]):=by
 refine fO Tryz.func122 ?_
 repeat' first|(refine gS ?_;simp only[go_sem])|refine gA ?_|(refine gD (fun h=>?_) (fun h=>?_)<;>try exact aA h)|fail
 refine⟨_,_,rfl,?_,rfl⟩
 refine .func _ _ _ _ _ rfl rfl cI (aS (zS (zAh _) (by simp only[go_sem]) ?_) cI)
 simp only[zAx,forall_eq];exact aRE _ _ _
theorem aUG(b:Bool)(l:List Itm)(y:Nat)(J:Nat→AHeap→Prop)(hY:∀i (h:i<l.length) G,J (i+1) G→AYield Tryz.prog y [.int .i64 i,itA l[i]] G (fun v G'=>v=.bool true∧J i G'))(hl:l.length≤4294967296)(H:AHeap)(h0:J l.length H):
  ACalls Tryz.prog 161 [.func (.yield y) [] [],.cptr [.sl b (l.map itA)]] H (fun _ G=>J 0 G):=by
 refine aW Tryz.func161 ?_
 have hw:IntKind.i64.wrap ((l.length:Int)-1)=(l.length:Int)-1:=wI
 repeat' first|(refine gS ?_;simp only[go_sem,hw])|refine gA ?_|(refine gD (fun h=>?_) (fun h=>?_)<;>try exact aA h)|fail
 refine aH (ι:=Int×AHeap) (fun s=>[(0,.func (.yield y) [] []),(1,.cptr [.sl b (l.map itA)]),(3,.int .i64 s.1)]) (fun s=>s.2) (fun s=>∃k:Nat,s.1=(k:Int)-1∧k≤l.length∧J k s.2) (fun s=>(s.1+1).toNat) ((l.length:Int)-1,H) ⟨l.length,rfl,zAh _,h0⟩ ?_ rfl ?_
 ·simp[go_sem]
 rintro⟨v,G⟩ ⟨k,hv,hk,hJ⟩
 simp only at hv hk hJ ⊢
 cases k with
 |zero=>
  have hv':v= -1:=by omega
  subst hv'
  repeat' first|(refine gS ?_;simp only[go_sem])|refine gA ?_|(refine gD (fun h=>?_) (fun h=>?_)<;>try exact aA h)|fail
  exact hJ
 |succ i=>
  have hv':v=(i:Int):=by omega
  subst hv'
  have hgd:(l.map itA).getD i .top=itA l[i]:=by simp[show i<l.length from hk]
  have hge:decide (0≤(i:Int))=true:=dT
  have hw2:IntKind.i64.wrap ((i:Int)-1)=(i:Int)-1:=wI
  have hy:=hY i hk G hJ
  repeat' first|(refine gS ?_;simp only[go_sem,hgd,hge,itA,hk])|refine gA ?_|(refine gD (fun h=>?_) (fun h=>?_)<;>try exact aA h)|fail
  refine rH hy ?_
  rintro v G' ⟨rfl,hJ'⟩
  simp only[go_sem]
  repeat' first|(refine gS ?_;simp only[go_sem,hw2])|refine gA ?_|(refine gD (fun h=>?_) (fun h=>?_)<;>try exact aA h)|fail
  exact⟨((i:Int)-1,G'),⟨i,rfl,by omega,hJ'⟩,by simp only;omega,rfl,rfl⟩
end Go.Proofs.YtolbeecicikoaaaGreatDoor
namespace Go.Proofs.YtolbeecicikoaaaGreatDoor
def lsA(ps:List (Bool×List Evt)):List AV:=ps.map fun p=>.sl p.1 (p.2.map cY)
def gZ(ps:List (Bool×List Evt))(i:Nat):List Evt:=(ps.take i).flatMap (·.2)
theorem yA{ps:List (Bool×List Evt)}{i:Nat}(h:i<ps.length):gZ ps (i+1)=gZ ps i++ps[i].2:=by
 unfold gZ;rw[zAa h,zA0,List.flatMap_singleton]
theorem aN6(ps:List (Bool×List Evt))(i:Nat):(gZ ps i).length≤(gZ ps ps.length).length:=by
 unfold gZ
 rw[zAq]
 conv=>rhs;rw[←zBl i ps,zA0,zAe]
 omega
def evZ:AV:=.agg [.int .i64 0,.str []]
theorem aLl(n:Nat):(List.flatMap AV.cells (List.replicate n evZ)).length=n * 2:=by
 induction n with
 |zero=>rfl
 |succ n ih=>rw[zBJ,zAK,zAe,ih];simp[evZ,AV.cells];omega
theorem aGU{ps:List (Bool×List Evt)}{i:Nat}(h:i<ps.length):(lsA ps).getD i .top=.sl ps[i].1 (ps[i].2.map cY):=by simp[lsA,h]
theorem aRF(l:List Evt):List.flatMap AV.cells (l.map cY)=evC l:=rfl
theorem aFE(a b:List Evt):evC (a++b)=evC a++evC b:=by simp[evC]
theorem aRG(l:List Evt):(evC l).all AV.one=true:=by
 rw[zAM]
 intro x hx
 unfold evC at hx
 rw[zBG]at hx
 obtain⟨y,hy,hx⟩:=hx
 obtain⟨t, -,rfl⟩:=zAi.1 hy
 simp only[cY,AV.cells,zAv,zAS,zBY]at hx
 rcases hx with rfl|rfl<;>rfl
theorem aCb(l:List Evt):(∀e∈l.map cY,e.cells.length=2)=True:=zAI fun e he=>by
 obtain⟨x,_,rfl⟩:=zAi.1 he;rfl
def zA:List Pl:=[.pure 0,.pure 0,.free,.free,.free,.pure 0,.free,.free,.pure 0,.free,.eff [false,false,false,false]]
def zB:List Pl:=[.pure 0,.pure 0,.free,.pure 0,.free,.pure 0,.pure 0,.pure 0,.free,.pure 0,.pure 0,.free,.free,.pure 0,.free,.pure 0,.eff [false,true,true,true,false,false,false,false,false,false],.free]
attribute [go_sem] zA zB
theorem aFF(f:Bool)(ps:List (Bool×List Evt))(hp:ps.length≤1073741824)(hl:(gZ ps ps.length).length≤4294967296)(H:AHeap):
  bD Tryz.prog 118 [.sl f (lsA ps)] H (.sl false ((gZ ps ps.length).map cY)):=by
 refine fO Tryz.func118 ?_
 have hle:=aN6 ps
 have hlen:(lsA ps).length=ps.length:=by simp[lsA]
 repeat' first|(refine gS ?_;simp only[go_sem,hlen])|refine gA ?_|(refine gD (fun h=>?_) (fun h=>?_)<;>try exact aA h)|fail
 refine dB (ι:=Unit) (fun _=>[(0,.sl f (lsA ps)),(3,.int .i64 (gZ ps ps.length).length)]) (fun _=>H) (fun _=>True) ?_ fun _ _=>?_
 ·refine aH (ι:=Nat) (fun i=>[(0,.sl f (lsA ps)),(3,.int .i64 (gZ ps i).length),(9,.sl f (lsA ps)),(10,.int .i64 ps.length),(11,.int .i64 i)]) (fun _=>H) (fun i=>i≤ps.length) (fun i=>ps.length-i) 0 (zAn _) ?_ rfl ?_
  ·simp[go_sem,gZ]
  intro i hi
  by_cases hin:i<ps.length
  ·have hgd:=aGU hin
   have h1:=hle (i+1)
   rw[yA hin,zAe]at h1
   have hw:IntKind.i64.wrap (((gZ ps i).length:Int)+(ps[i].2.length:Int))=((gZ ps (i+1)).length:Int):=by rw[wI,yA hin,zAe];omega
   repeat' first|(refine gS ?_;simp only[go_sem,hin,hgd,hlen,hw])|refine gA ?_|(refine gD (fun h=>?_) (fun h=>?_)<;>try exact aA h)|fail
   exact⟨i+1,hin,by omega,rfl,zAp _ (aK hin (by omega))⟩
  ·have hie:i=ps.length:=by omega
   subst hie
   repeat' first|(refine gS ?_;simp only[go_sem])|refine gA ?_|(refine gD (fun h=>?_) (fun h=>?_)<;>try exact aA h)|fail
   exact⟨(),trivial⟩
 obtain⟨n,hn⟩:∃n,n=(gZ ps ps.length).length:=⟨_,rfl⟩
 rw[←hn]
 rw[←hn]at hl hle
 have lz:=aLl n
 have hz:evZ=.agg [.int .i64 0,.str []]:=rfl
 repeat' first|(refine gS ?_;simp only[go_sem,hlen,←hz,lz])|refine gA ?_|(refine gD (fun h=>?_) (fun h=>?_)<;>try exact aA h)|fail
 obtain⟨Z,hZ⟩:∃Z,Z=List.flatMap AV.cells (List.replicate n evZ):=⟨_,rfl⟩
 rw[←hZ]at lz ⊢
 refine aH (ι:=Nat) (fun i=>[(3,.int .i64 (gZ ps i).length),(6,.osl 2 H.length 1 0 n n),(22,.sl f (lsA ps)),(23,.int .i64 ps.length),(24,.int .i64 i)]) (fun i=>H++[.cells 1 (evC (gZ ps i)++Z.drop ((gZ ps i).length * 2))]) (fun i=>i≤ps.length) (fun i=>ps.length-i) 0 (zAn _) ?_ ?_ ?_
 ·simp[go_sem,gZ]
 ·simp[gZ,evC]
 intro i hi
 by_cases hin:i<ps.length
 ·have hgd:=aGU hin
  have h1:=hle (i+1)
  have hs:=yA hin
  rw[hs,zAe]at h1
  have hw:IntKind.i64.wrap (((gZ ps i).length:Int)+(ps[i].2.length:Int))=((gZ ps (i+1)).length:Int):=by rw[wI,hs,zAe];omega
  have hlc:(evC (gZ ps i)).length=(gZ ps i).length * 2:=aC6 _
  have hlx:(evC ps[i].2).length=ps[i].2.length * 2:=aC6 _
  have hsp:cH (evC (gZ ps i)++Z.drop ((gZ ps i).length * 2)) ((gZ ps i).length * 2) (evC ps[i].2)=evC (gZ ps (i+1))++Z.drop ((gZ ps (i+1)).length * 2):=by
   rw[fG hlc,hlx,zCv,hs,aFE,zAe,zAu,zCC]
  repeat' first|(refine gS ?_;simp only[go_sem,hin,hgd,hlen,hw,aRF,hsp,hlc,hlx,aRG,aCb,zAH,lz])|refine gA ?_|(refine gD (fun h=>?_) (fun h=>?_)<;>try exact aA h)|fail
  exact⟨i+1,hin,by omega,⟨rfl,zAp _ (aK hin (by omega))⟩,rfl⟩
 ·have hie:i=ps.length:=by omega
  subst hie
  repeat' first|(refine gS ?_;simp only[go_sem,hin])|refine gA ?_|(refine gD (fun h=>?_) (fun h=>?_)<;>try exact aA h)|fail
  exact fN (cs:=evC (gZ ps ps.length)++Z.drop ((gZ ps ps.length).length * 2)) (es:=(gZ ps ps.length).map cY) (rest:=Z.drop ((gZ ps ps.length).length * 2)) (zAh _) (by simp only[go_sem]) rfl (by rw[zAj,hn]) (fun e he=>by obtain⟨x,_,rfl⟩:=zAi.1 he;rfl) (fun e he=>by obtain⟨x,_,rfl⟩:=zAi.1 he;exact(by simp only[go_sem])) rfl
theorem aLm(f o:Bool)(e:List Evt)(he:e.length≤1073741824)(u:Nat)(H:AHeap)(hu:hget H u=.cells 0 [.sl f (e.map cY),.bool o]):bD Tryz.prog 119 [.ref u 0 0] H (.int .i64 ((8-e.length:Nat):Int)):=by
 refine fO Tryz.func119 ?_
 have hw:max (IntKind.i64.wrap (8-(e.length:Int))) 0=((8-e.length:Nat):Int):=by rw[wI];omega
 repeat' first|(refine gS ?_;simp only[go_sem,hu,hw])|refine gA ?_|(refine gD (fun h=>?_) (fun h=>?_)<;>try exact aA h)|fail
 exact bL (.refl _)
theorem aFG(f f1:Bool)(a:List Evt)(ha:a.length≤1073741824)(H:AHeap):bD Tryz.prog 118 [.sl f [.sl f1 (a.map cY)]] H (.sl false (a.map cY)):=by
 have h1:=aFF f [(f1,a)] (by simp) (by simp[gZ];omega) H
 simpa[lsA,gZ]using h1
theorem aRH(f f1 f2:Bool)(a b:List Evt)(ha:a.length≤1073741824)(hb:b.length≤1073741824)(H:AHeap):bD Tryz.prog 118 [.sl f [.sl f1 (a.map cY),.sl f2 (b.map cY)]] H (.sl false ((a++b).map cY)):=by
 have h1:=aFF f [(f1,a),(f2,b)] (by simp) (by simp[gZ];omega) H
 simpa[lsA,gZ]using h1
theorem aRI(f f1 f2 f3:Bool)(a b c:List Evt)(ha:a.length≤1073741824)(hb:b.length≤1073741824)(hc:c.length≤1073741824)(H:AHeap):bD Tryz.prog 118 [.sl f [.sl f1 (a.map cY),.sl f2 (b.map cY),.sl f3 (c.map cY)]] H (.sl false ((a++b++c).map cY)):=by
 have h1:=aFF f [(f1,a),(f2,b),(f3,c)] (by simp) (by simp[gZ];omega) H
 simpa[lsA,gZ]using h1
theorem aRJ(f f2 o:Bool)(e l:List Evt)(he:e.length≤1073741824)(hl:l.length≤1073741824)(H:AHeap):bD Tryz.prog 59 [.agg [.sl f (e.map cY),.bool o],.sl f2 (l.map cY)] H (.agg [.sl false ((lM e o l).1.map cY),.bool (lM e o l).2]):=by
 refine fO Tryz.func59 ?_
 cases o with
 |true=>
  have h1:=aFG true f e he
  unfold lM
  repeat' first|(refine gS ?_;simp only[go_sem])|refine gA ?_|(refine gD (fun h=>?_) (fun h=>?_)<;>try exact aA h)|fail
  exact dY (.refl _)
 |false=>
  have hp:lM e false l=if 8-e.length<l.length then(e++l.take (8-e.length)++[⟨9,[]⟩],true)else(e++l,false):=rfl
  have h3:=aRI true f true true e (l.take (8-e.length)) [⟨9,[]⟩] he (by rw[zAy];omega) (by simp)
  have h2:=aRH true f f2 e l he hl
  have ht:List.take (8-e.length) (List.map cY l)=List.map cY (l.take (8-e.length)):=zBN.symm
  by_cases hs:8-e.length<l.length
  ·rw[hp,zAc hs]
   have h5:8-e.length≤l.length:=by omega
   repeat' first|(refine gS ?_;simp only[go_sem])|refine gA ?_|(refine gD (fun h=>?_) (fun h=>?_)<;>try exact aA h)|fail
   refine oD (aLm f false e he H.length _ (by simp only[go_sem])) (cO) ?_
   rintro v H' ⟨rfl,rfl⟩
   simp only[go_sem]
   repeat' first|((first|refine mx [7] zA ?_|refine gS ?_);simp only[go_sem,hs,h5,ht])|refine gA ?_|(refine gD (fun h=>?_) (fun h=>?_)<;>try exact aA h)|fail
   exact dY (.refl _)
  ·rw[hp,zAb hs]
   repeat' first|(refine gS ?_;simp only[go_sem])|refine gA ?_|(refine gD (fun h=>?_) (fun h=>?_)<;>try exact aA h)|fail
   refine oD (aLm f false e he H.length _ (by simp only[go_sem])) (cO) ?_
   rintro v H' ⟨rfl,rfl⟩
   simp only[go_sem]
   repeat' first|(refine gS ?_;simp only[go_sem,hs])|refine gA ?_|(refine gD (fun h=>?_) (fun h=>?_)<;>try exact aA h)|fail
   exact dY (.refl _)
theorem aN7(f o:Bool)(e:List Evt)(n:Int)(he:e.length≤1073741824)(H:AHeap):bD Tryz.prog 112 [.agg [.sl f (e.map cY),.bool o],.int .i64 n] H (.tup [.agg [.sl false ((e.drop (min n.toNat e.length)).map cY),.bool o],.sl false ((e.take (min n.toNat e.length)).map cY)]):=by
 refine fO Tryz.func112 ?_
 obtain⟨k,hk⟩:∃k,k=min n.toNat e.length:=⟨_,rfl⟩
 have hk2:min (max n 0) (e.length:Int)=(k:Int):=by omega
 have hke:k≤e.length:=by omega
 have h1:=aFG true f (e.drop k) (by rw[zAH];omega)
 have h2:=aFG true true (e.take k) (by rw[zAy];omega)
 have t1:List.take k (List.map cY e)=List.map cY (e.take k):=zBN.symm
 have t2:List.drop k (List.map cY e)=List.map cY (e.drop k):=zCh.symm
 rw[←hk]
 repeat' first|((first|refine mx [2] zB ?_|refine gS ?_);simp only[go_sem,hk2,hke,t1,t2,aCb])|refine gA ?_|(refine gD (fun h=>?_) (fun h=>?_)<;>try exact aA h)|fail
 exact dY (.refl _)
end Go.Proofs.YtolbeecicikoaaaGreatDoor
