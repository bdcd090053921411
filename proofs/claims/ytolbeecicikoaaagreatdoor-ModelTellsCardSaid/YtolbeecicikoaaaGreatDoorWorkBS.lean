/- The texts 45 of 53 beneath the rows of this seat (joined by program): the abstract machine, and what the functions answer. No condition. -/
import Derived.Test.YtolbeecicikoaaaGreatDoorWorkBO
import Derived.Test.YtolbeecicikoaaaGreatDoorWorkBQ
set_option linter.unusedSimpArgs false
set_option linter.unusedVariables false
set_option linter.unusedSectionVars false
set_option maxRecDepth 100000
set_option maxHeartbeats 16000000
namespace Go.Proofs.YtolbeecicikoaaaGreatDoor
theorem aFK{α:Type}{p:α→Bool}{A B:List α}{x:α}(hA:A.filter (fun x=> !p x)=A)(hx:p x=true):(A++x::B).find? p=some x:=by
 rw[List.find?_append]
 have:A.find? p=none:=by
  rw[zBF]
  intro a ha
  rw[←hA]at ha
  have:=(zBi.1 ha).2
  simpa using this
 rw[this]
 simp[hx]
theorem aEo{n:Int}{A B:List Wch}{w:Wch}(hA:A.filter (fun x=> !decide (x.n=n))=A)(hx:w.n=n):emptyW n (A++w::B)=A++{w with evs:=[]}::B:=by
 induction A with
 |nil=>simp[emptyW,hx]
 |cons a A ih=>
  have hne:a.n≠n:=by
   have ha:a∈(a::A).filter (fun x=> !decide (x.n=n)):=by rw[hA];simp
   simpa using(zBi.1 ha).2
  rw[zA1,emptyW,zAb hne,ih]
  ·rfl
  ·rw[zBA,zAc (by simp[hne])]at hA
   exact(zCp hA).2
theorem aLu{α:Type}{p:α→Bool}{l:List α}(h:gX p l= -1):l.find? p=none:=by
 rw[zBF]
 intro x hx
 rw[←nP h]at hx
 have:=(zBi.1 hx).2
 simpa using this
def rZ:List Pl:=[.pure 0,.pure 0,.pure 0,.pure 0,.pure 0,.pure 0,.eff [false,true,true,true,true,true],.pure 0,.pure 0,.pure 0,.eff [false,true,true,false,false,false,false,false]]
def sA:List Pl:=[.free,.pure 0,.free,.pure 0,.pure 0,.pure 0,.free,.pure 0,.pure 0,.pure 0,.pure 0,.pure 0,.pure 0,.free,.free,.free,.pure 0,.pure 0,.eff [false,true,false,false,false,false,false,false,false,false,false,true],.pure 0,.pure 0,.pure 0,.eff [false,true,true,false,false]]
def zG:List Pl:=[.free,.free,.pure 0,.pure 0,.pure 0,.free,.free,.pure 0,.pure 0,.pure 0,.pure 0,.pure 0,.free,.pure 0,.pure 0,.pure 0,.pure 0,.pure 0,.pure 0,.pure 0,.eff [false,true,false,false,false,false,false,false,false,false,false,false,false,false,false]]
attribute [go_sem] rZ sA zG
theorem aOe{i j:Nat}{c:Cal}{d:Dsk}{G:AHeap}(hb:KB i j c d G)(hs:DS d.m):vW Tryz.prog 55 i j c (qP c d) G:=by
 refine aF Tryz.func55 ?_
 have r0:=hb.b1;have r1:=aR hb.b1 trivial;have r2:=aR hb.b2 trivial;have hne:=hb.ne;have hl1:=hb.lt1;have hl2:=hb.lt2;have r3:=hb.r3;have r4:=hb.r4;have hnl:=aC G i;simp only[dkC]at r0 r1;have qs:=lP hl1 hl2 hne rfl
 have hA1:∀H,hget H G.length=.cells 0 [.ref i 0 0]→hget H i=.cells 0 (dkC j c d)→bD Tryz.prog 110 [.sl false (d.m.watches.map cD),.func (.func 111) [] [.ref G.length 0 0]] H (.int .i64 (gX (fun s=>decide (s.n=c.n)) d.m.watches)):=
  fun H h1 h2=>yV false d.m.watches (.func 111) [] [.ref G.length 0 0] (fun s=>decide (s.n=c.n)) H (fun s=>.mk (first:=[]) (fun L=>aOa G.length (aG h1 trivial L) (aG h2 trivial L) s) (cO))
 simp only[dkC]at hA1
 have k1:¬i=G.length:=by omega
 unfold qP
 have hgw:=hs.watches
 by_cases h1:gX (fun s:Wch=>decide (s.n=c.n)) d.m.watches= -1
 ·rw[h1]at hA1
  rw[aLu h1]
  repeat' first|((first|refine aY (hA1 _ (by simp only[go_sem,r0,r1,r2,r3,r4,hnl,qs,aC,Int.reduceLT]) (by simp only[go_sem,r0,r1,r2,r3,r4,hnl,qs,aC,Int.reduceLT])) (cO) ?_|refine aZ (hA1 _ (by simp only[go_sem,r0,r1,r2,r3,r4,hnl,qs,aC,Int.reduceLT]) (by simp only[go_sem,r0,r1,r2,r3,r4,hnl,qs,aC,Int.reduceLT])) (cO) ?_|refine bA (fun _=>hA1 _ (by simp only[go_sem,r0,r1,r2,r3,r4,hnl,qs,aC,Int.reduceLT]) (by simp only[go_sem,r0,r1,r2,r3,r4,hnl,qs,aC,Int.reduceLT])) (cO) ?_|refine gS ?_);simp only[go_sem,r0,r1,r2,r3,r4,hnl,qs,aC,Int.reduceLT])|refine gA ?_|(refine gD (fun h=>?_) (fun h=>?_)<;>try exact aA h)|fail
  exact aC8 hb rfl _
 obtain⟨A,w,B,e1,e2,e3,e4⟩:=tX h1
 rw[e2]at hA1
 have hw:w.n=c.n:=by simpa using e3
 have hws:d.m.watches.find? (fun s=>decide (s.n=c.n))=some w:=by rw[e1];exact aFK e4 e3
 rw[hws]
 simp only
 have hem:emptyW c.n d.m.watches=A++{w with evs:=[]}::B:=by rw[e1];exact aEo e4 hw
 rw[hem]
 have hle:w.evs.length≤1000000:=hs.evs w (by rw[e1];simp)
 have hlen:d.m.watches.length=A.length+(B.length+1):=by rw[e1];simp
 have d1:decide (((A.length:Nat):Int)<0)=false:=dF
 repeat' first|((first|refine aY (hA1 _ (by simp only[go_sem,r0,r1,r2,r3,r4,hnl,qs,aC,d1]) (by simp only[go_sem,r0,r1,r2,r3,r4,hnl,qs,aC,d1])) (cO) ?_|refine aZ (hA1 _ (by simp only[go_sem,r0,r1,r2,r3,r4,hnl,qs,aC,d1]) (by simp only[go_sem,r0,r1,r2,r3,r4,hnl,qs,aC,d1])) (cO) ?_|refine bA (fun _=>hA1 _ (by simp only[go_sem,r0,r1,r2,r3,r4,hnl,qs,aC,d1]) (by simp only[go_sem,r0,r1,r2,r3,r4,hnl,qs,aC,d1])) (cO) ?_|refine mx [4] rZ ?_|refine mx [6] sA ?_|refine gS ?_);simp only[go_sem,r0,r1,r2,r3,r4,hnl,qs,aC,d1])|refine gA ?_|(refine gD (fun h=>?_) (fun h=>?_)<;>try exact aA h)|fail
 refine lI (sN false d.m.watches (by omega) _) (cO) ?_
 simp only[go_sem,r0,r1,r2,r3,r4,hnl,qs,aC]
 have hlA:=bQ (enc:=cD) (s:=4) (fun _=>rfl) A
 have hfl:flA cD d.m.watches=flA cD A++(.int .i64 w.n::.int .i64 w.dir::.sl false (w.evs.map cY)::.bool w.over::flA cD B):=by rw[e1,fC,fD];rfl
 have hdr:List.drop (A.length * 4+2) (flA cD d.m.watches)=.sl false (w.evs.map cY)::.bool w.over::flA cD B:=by
  rw[hfl,←hlA,List.drop_append]
  simp
 have hp1:List.take 2 (List.drop (A.length * 4+2) (flA cD d.m.watches))=[.sl false (w.evs.map cY),.bool w.over]:=by rw[hdr];rfl
 have hp2:(flA cD d.m.watches).getD (A.length * 4+2) .top=.sl false (w.evs.map cY):=by
  rw[zAs,←List.head?_drop,hdr];rfl
 have hfn:(flA cD d.m.watches).length=(A.length+(B.length+1)) * 4:=by rw[bQ (s:=4) (fun _=>rfl),hlen]
 have hwt:=aN7 false w.over w.evs (w.evs.length:Int) (by omega)
 simp only[zB7,Nat.min_self,zA7,zAq,zBx]at hwt
 have hsp:cH (flA cD d.m.watches) (A.length * 4+2) [.sl false [],.bool w.over]=flA cD (A++{w with evs:=[]}::B):=by
  have e:=fG (A:=flA cD A++[.int .i64 w.n,.int .i64 w.dir]) (B:=.sl false (w.evs.map cY)::.bool w.over::flA cD B) (off:=A.length * 4+2) (X:=[.sl false [],.bool w.over]) (by simp[hlA])
  rw[hfl]
  rw[show flA cD A++[AV.int .i64 w.n,.int .i64 w.dir]++(.sl false (w.evs.map cY)::.bool w.over::flA cD B)=flA cD A++(.int .i64 w.n::.int .i64 w.dir::.sl false (w.evs.map cY)::.bool w.over::flA cD B) by simp]at e
  rw[e,fC,fD]
  simp[cD,AV.cells]
 repeat' first|((first|refine mx [4] rZ ?_|refine mx [6] sA ?_|refine gS ?_);simp only[go_sem,r0,r1,r2,r3,r4,hnl,qs,aC,hlen,hp1,hp2,hfn,hsp])|refine gA ?_|(refine gD (fun h=>?_) (fun h=>?_)<;>try exact aA h)|fail
 refine wF hb rfl rfl rfl ?_
 unfold dkC
 repeat' first|exact cI|refine aS ?_ ?_|exact .cl _ (.int _ _)|exact .cl _ (.str _)|exact .cl _ (xS _ _ _)|exact .cl _ (xR _ _ _)|exact .cl _ (xT _ _ _)|exact .cl _ (xU _ _ _)|exact .cl _ (xV _ _ _)|exact .cl _ (xW _ _ _)|exact .cl _ (.osl _ _ _ _ _ _ hl2)
 exact qJ (by omega) (by first|(simp only[go_sem,r0,r1,r2,r3,r4,hnl,qs,aC];done)|(simp only[go_sem,r0,r1,r2,r3,r4,hnl,qs,aC];rfl)) (by simp) (fun _=>rfl) (fun x=>by simp only[go_sem])
theorem aIo(a b:List Itm):(mA a b).length≤a.length+b.length+b.length:=by
 unfold mA
 simp only[zAe,zAj,zA9]
 have h1:=zAQ (pA b) a
 have h2:=zAQ (pA a) b
 have h3:=zAQ (rN a) b
 have h4:=zAQ (pA b) a.reverse
 rw[zA9]at h4
 omega
theorem aBh{l:List Nd}(h:Wfr l){dir:Int}(hd:dirI dir=true):(cB l dir).length≤l.length:=by
 unfold cB
 split
 ·rename_i hc;exact aGu hc h _ _ _ hd
 ·exact zAn _
theorem aOf{i j:Nat}{c:Cal}{d d':Dsk}{G L:AHeap}{cs:List AV}(h:KB i j c d G)(ho:d'.ops=d.ops)(hl:cs.length=18)
  (hf:∀(m:Nat) (x y:AV),cs[m]?=some x→(dkC j c d')[m]?=some y→Frz G.length (aB G i (.cells 0 cs)++L) x y):
  ∃A L' H1 y,aB G i (.cells 0 cs)++L=A++L'∧A.length=G.length∧H1.length=G.length∧aET G.length (aB G i (.cells 0 cs)++L) A H1 G∧Frz G.length (aB G i (.cells 0 cs)++L) (.tup []) y∧(y=.tup []∧H1=oS G i j c d'):=by
 obtain⟨A,L',H1,y,e1,e2,e3,e4, -, -,e6⟩:=wF (e:=0) h rfl ho hl hf
 exact⟨A,L',H1,_,e1,e2,e3,e4,.cl _ (.tup _ fun _ _ hx=>by simp at hx),rfl,e6⟩
structure TSd (was:List Nd) (d:Dsk):Prop where
 wf1:Wfr was
 wf2:Wfr d.m.log.nodes
 sm1:SmN was
 sm2:SmN d.m.log.nodes
 len:was.length≤1000000
 dir:∀w∈d.m.watches,dirI w.dir=true
theorem aOg{i j:Nat}{c:Cal}{d:Dsk}{G:AHeap}(hb:KB i j c d G)(hs:DS d.m)(f:Bool)(was:List Nd)(ht:TSd was d):
  ACalls Tryz.prog 22 [.ref i 0 0,.sl f (was.map ndA)] G (fun v H'=>v=.tup []∧H'=oS G i j c (vM was d)):=by
 refine aF Tryz.func22 ?_
 have r0:=hb.b1;have r1:=aR hb.b1 trivial;have r2:=aR hb.b2 trivial;have hne:=hb.ne;have hl1:=hb.lt1;have hl2:=hb.lt2;have r3:=hb.r3;have r4:=hb.r4;have hnl:=aC G i;simp only[dkC]at r0 r1;have qs:=lP hl1 hl2 hne rfl
 have hgw:=hs.watches
 have hn2:=hs.nodes
 repeat' first|(refine gS ?_;simp only[go_sem,r0,r1,r2,r3,r4,hnl,qs,aC])|refine gA ?_|(refine gD (fun h=>?_) (fun h=>?_)<;>try exact aA h)|fail
 refine aV (sN false d.m.watches (by omega) _) (cO) ?_
 rintro v H' ⟨rfl,rfl⟩
 simp only[go_sem,r0,r1,r2,r3,r4,hnl,qs,aC]
 repeat' first|(refine gS ?_;simp only[go_sem,r0,r1,r2,r3,r4,hnl,qs,aC])|refine gA ?_|(refine gD (fun h=>?_) (fun h=>?_)<;>try exact aA h)|fail
 obtain⟨T,hT⟩:∃T,T=pC was d.m.log.nodes:=⟨_,rfl⟩
 obtain⟨W,hW⟩:∃W:Nat→List Wch,W=fun k=>(d.m.watches.take k).map T++d.m.watches.drop k:=⟨_,rfl⟩
 have hWl:∀k,(W k).length=d.m.watches.length:=fun k=>by rw[hW];simp only[zAe,zAj,zAy,zAH];omega
 obtain⟨n,hn⟩:∃n,n=d.m.watches.length:=⟨_,rfl⟩
 rw[←hn]at hWl hgw ⊢
 obtain⟨X,hX⟩:∃X:List AV,X=[.sl false (d.m.log.entries.map dM),.sl false (d.m.log.nodes.map ndA),.int .i64 d.m.seen,.int .i64 d.m.rep,.sl false (d.m.snaps.map dP),.osl 4 G.length 1 0 n n,.int .i64 d.m.next,
  .int .i64 d.a.err,.str d.a.data,.sl false (d.a.names.map AV.str),.int .i64 d.a.n,.sl false (d.a.events.map cY),
  .int .i64 c.kind,.str c.path,.str c.to,.str c.data,.int .i64 c.n,.osl 7 j (d.ops.length+1) 0 d.ops.length d.ops.length]:=⟨_,rfl⟩
 refine aH (ι:=Nat) (fun k=>[(0,.ref i 0 0),(1,.sl f (was.map ndA)),(21,.int .i64 n),(22,.int .i64 k)]) (fun k=>aB G i (.cells 0 X)++[.cells 1 (flA cD (W k))]) (fun k=>k≤n) (fun k=>n-k) 0 (zAn _) ?_ ?_ ?_
 ·simp[go_sem]
 ·rw[hX,hW];simp
 intro k hk
 by_cases hlt:k<n
 ·have hWk:W k=(d.m.watches.take k).map T++d.m.watches[k]::d.m.watches.drop (k+1):=by rw[hW];simp only;rw[zAk (by omega)]
  have hWs:W (k+1)=(d.m.watches.take k).map T++T d.m.watches[k]::d.m.watches.drop (k+1):=by rw[hW];simp only;rw[zAa (by omega),zBa,zAu];rfl
  obtain⟨w,hw⟩:∃w,w=d.m.watches[k]:=⟨_,rfl⟩
  rw[←hw]at hWk hWs
  have hwm:w∈d.m.watches:=by rw[hw];exact zAF _
  obtain⟨A,hA⟩:∃A,A=(d.m.watches.take k).map T:=⟨_,rfl⟩
  have hAl:A.length=k:=by rw[hA,zAj,zAy];omega
  rw[←hA]at hWk hWs
  have hlA:=bQ (enc:=cD) (s:=4) (fun _=>rfl) A
  rw[hAl]at hlA
  have hfl:flA cD (W k)=flA cD A++(.int .i64 w.n::.int .i64 w.dir::.sl false (w.evs.map cY)::.bool w.over::flA cD (d.m.watches.drop (k+1))):=by rw[hWk,fC,fD];rfl
  have hfn:(flA cD (W k)).length=n * 4:=by rw[bQ (s:=4) (fun _=>rfl),hWl]
  have hdr:∀q,List.drop (k * 4+q) (flA cD (W k))=List.drop q (.int .i64 w.n::.int .i64 w.dir::.sl false (w.evs.map cY)::.bool w.over::flA cD (d.m.watches.drop (k+1))):=fun q=>by
   rw[hfl,←hlA,List.drop_append]
   simp
  have hp1:List.take 2 (List.drop (k * 4+2) (flA cD (W k)))=[.sl false (w.evs.map cY),.bool w.over]:=by rw[hdr];rfl
  have hp2:(flA cD (W k)).getD (k * 4+1) .top=.int .i64 w.dir:=by
   rw[zAs,←List.head?_drop,hdr];rfl
  have hdi:=ht.dir w hwm
  have hdf:=aRK f false was d.m.log.nodes w.dir ht.wf1 ht.wf2 hdi (by have:=ht.len;omega) (by omega) ht.sm1 ht.sm2
  obtain⟨D,hD⟩:∃D,D=mA (cB was w.dir) (cB d.m.log.nodes w.dir):=⟨_,rfl⟩
  rw[←hD]at hdf
  have hDl:D.length≤1073741824:=by
   have h1:=aIo (cB was w.dir) (cB d.m.log.nodes w.dir)
   have h2:=aBh ht.wf1 hdi
   have h3:=aBh ht.wf2 hdi
   have:=ht.len
   rw[hD];omega
  have hle:=hs.evs w hwm
  have hpt:=aRJ false false w.over w.evs D (by omega) hDl
  have hTw:T w={w with evs:=(lM w.evs w.over D).1,over:=(lM w.evs w.over D).2}:=by rw[hT,hD];rfl
  have hsp:cH (flA cD (W k)) (k * 4+2) [.sl false ((lM w.evs w.over D).1.map cY),.bool (lM w.evs w.over D).2]=flA cD (W (k+1)):=by
   have e:=fG (A:=flA cD A++[.int .i64 w.n,.int .i64 w.dir]) (B:=.sl false (w.evs.map cY)::.bool w.over::flA cD (d.m.watches.drop (k+1))) (off:=k * 4+2) (X:=[.sl false ((lM w.evs w.over D).1.map cY),.bool (lM w.evs w.over D).2]) (by simp[hlA])
   rw[hfl]
   rw[show flA cD A++[AV.int .i64 w.n,.int .i64 w.dir]++(.sl false (w.evs.map cY)::.bool w.over::flA cD (d.m.watches.drop (k+1)))=flA cD A++(.int .i64 w.n::.int .i64 w.dir::.sl false (w.evs.map cY)::.bool w.over::flA cD (d.m.watches.drop (k+1))) by simp]at e
   rw[e,hWs,fC,fD,hTw]
   simp[cD,AV.cells]
  have hli:decide ((k:Int)<(n:Int))=true:=dT
  repeat' first|((first|refine mx [5] zG ?_|refine gS ?_);simp only[go_sem,r0,r1,r2,r3,r4,hnl,qs,aC,hX,hli,hp1,hp2,hfn,hsp])|refine gA ?_|(refine gD (fun h=>?_) (fun h=>?_)<;>try exact aA h)|fail
  exact⟨k+1,hlt,by omega,zAp _ (aK hlt (by omega)),rfl⟩
 ·have hke:k=n:=by omega
  have hli:decide ((k:Int)<(n:Int))=false:=dF
  repeat' first|(refine gS ?_;simp only[go_sem,r0,r1,r2,r3,r4,hnl,qs,aC,hli])|refine gA ?_|(refine gD (fun h=>?_) (fun h=>?_)<;>try exact aA h)|fail
  have hWn:W k=(vM was d).m.watches:=by
   rw[hW,hke,hn]
   simp only[zAq,zA7,zAg]
   rw[hT];rfl
  rw[hWn]
  subst hX
  refine aOf hb rfl rfl ?_
  unfold dkC
  repeat' first|exact cI|refine aS ?_ ?_|exact .cl _ (.int _ _)|exact .cl _ (.str _)|exact .cl _ (xS _ _ _)|exact .cl _ (xR _ _ _)|exact .cl _ (xT _ _ _)|exact .cl _ (xU _ _ _)|exact .cl _ (xV _ _ _)|exact .cl _ (xW _ _ _)|exact .cl _ (.osl _ _ _ _ _ _ hl2)
  exact qJ (zAh _) (by first|(simp only[go_sem,r0,r1,r2,r3,r4,hnl,qs,aC];done)|(simp only[go_sem,r0,r1,r2,r3,r4,hnl,qs,aC];rfl)) (by rw[←hWn,hWl]) (fun _=>rfl) (fun x=>by simp only[go_sem])
end Go.Proofs.YtolbeecicikoaaaGreatDoor
