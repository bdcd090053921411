/- The texts 45 of 51 beneath the rows of this seat (joined by program): the abstract machine, and what the functions answer. No condition. -/
import Derived.Test.YthhdnjiodklmmaaGreatDoorWorkBQ
import Derived.Test.YthhdnjiodklmmaaGreatDoorWorkBR
set_option linter.unusedSimpArgs false
set_option linter.unusedVariables false
set_option linter.unusedSectionVars false
/- What is done at the desk of a call that polls, and what all who watch are told. No condition but what is known of a replica. -/
namespace Go.Gw
open Go Go.Aw Go.Proofs.YthhdnjiodklmmaaGreatDoor
theorem aFq{α:Type}{p:α→Bool}{A B:List α}{x:α}(hA:A.filter (fun x=> !p x)=A)(hx:p x=true):(A++x::B).find? p=some x:=by
 rw[List.find?_append]
 have:A.find? p=none:=by
  rw[List.find?_eq_none]
  intro a ha
  rw[←hA]at ha
  have:=(List.mem_filter.1 ha).2
  simpa using this
 rw[this]
 simp[hx]
theorem aDM{n:Int}{A B:List Wch}{w:Wch}(hA:A.filter (fun x=> !decide (x.n=n))=A)(hx:w.n=n):emptyW n (A++w::B)=A++{w with evs:=[]}::B:=by
 induction A with
 |nil=>simp[emptyW,hx]
 |cons a A ih=>
  have hne:a.n≠n:=by
   have ha:a∈(a::A).filter (fun x=> !decide (x.n=n)):=by rw[hA];simp
   simpa using(List.mem_filter.1 ha).2
  rw[List.cons_append,emptyW,if_neg hne,ih]
  ·rfl
  ·rw[List.filter_cons,if_pos (by simp[hne])]at hA
   exact(List.cons.inj hA).2
theorem aKv{α:Type}{p:α→Bool}{l:List α}(h:iT p l= -1):l.find? p=none:=by
 rw[List.find?_eq_none]
 intro x hx
 rw[←mL h]at hx
 have:=(List.mem_filter.1 hx).2
 simpa using this
end Go.Gw
namespace Go.Proofs.YthhdnjiodklmmaaGreatDoor
open Go Go.Aw Go.Gw
set_option linter.unusedSimpArgs false
set_option linter.unusedVariables false
set_option maxRecDepth 20000
set_option maxHeartbeats 4000000
def qU:List Pl:=[.pure 0,.pure 0,.pure 0,.pure 0,.pure 0,.pure 0,.eff [false,true,true,true,true,true],.pure 0,.pure 0,.pure 0,.eff [false,true,true,false,false,false,false,false]]
def qV:List Pl:=[.free,.pure 0,.free,.pure 0,.pure 0,.pure 0,.free,.pure 0,.pure 0,.pure 0,.pure 0,.pure 0,.pure 0,.free,.free,.free,.pure 0,.pure 0,.eff [false,true,false,false,false,false,false,false,false,false,false,true],.pure 0,.pure 0,.pure 0,.eff [false,true,true,false,false]]
def yC:List Pl:=[.free,.free,.pure 0,.pure 0,.pure 0,.free,.free,.pure 0,.pure 0,.pure 0,.pure 0,.pure 0,.free,.pure 0,.pure 0,.pure 0,.pure 0,.pure 0,.pure 0,.pure 0,.eff [false,true,false,false,false,false,false,false,false,false,false,false,false,false,false]]
attribute [go_sem] qU qV yC
theorem aM4{i j:Nat}{c:Cal}{d:Dsk}{G:AHeap}(hb:KB i j c d G)(hs:DS d.m):vH Tryz.prog 76 i j c (uU c d) G:=by
 refine mF Tryz.func76 rfl (Nat.le_of_ble_eq_true rfl) ?_
 have r0:=hb.b1;have r1:=aT hb.b1 trivial;have r2:=aT hb.b2 trivial;have hne:=hb.ne;have hl1:=hb.lt1;have hl2:=hb.lt2;have r3:=hb.r3;have r4:=hb.r4;have hnl:=aC G i;simp only[dkC]at r0 r1;have qs:=lE hl1 hl2 hne rfl
 have hA1:∀H,hget H G.length=.cells 0 [.ref i 0 0]→hget H i=.cells 0 (dkC j c d)→cJ Tryz.prog 136 [.sl false (d.m.watches.map dL),.func (.func 137) [] [.ref G.length 0 0]] H (.int .i64 (iT (fun s=>decide (s.n=c.n)) d.m.watches)):=
  fun H h1 h2=>xU false d.m.watches (.func 137) [] [.ref G.length 0 0] (fun s=>decide (s.n=c.n)) H (fun s=>.mk (first:=[]) (fun L=>aM2 G.length (aH h1 trivial L) (aH h2 trivial L) s) aEg)
 simp only[dkC]at hA1
 have k1:¬i=G.length:=by omega
 unfold uU
 have hgw:=hs.watches
 by_cases h1:iT (fun s:Wch=>decide (s.n=c.n)) d.m.watches= -1
 ·rw[h1]at hA1
  rw[aKv h1]
  repeat' first|((first|refine aV (hA1 _ (by simp only[go_sem,r0,r1,r2,r3,r4,hnl,qs,aC,Int.reduceLT]) (by simp only[go_sem,r0,r1,r2,r3,r4,hnl,qs,aC,Int.reduceLT])) cY ?_|refine aW (hA1 _ (by simp only[go_sem,r0,r1,r2,r3,r4,hnl,qs,aC,Int.reduceLT]) (by simp only[go_sem,r0,r1,r2,r3,r4,hnl,qs,aC,Int.reduceLT])) cY ?_|refine aX (fun _=>hA1 _ (by simp only[go_sem,r0,r1,r2,r3,r4,hnl,qs,aC,Int.reduceLT]) (by simp only[go_sem,r0,r1,r2,r3,r4,hnl,qs,aC,Int.reduceLT])) cY ?_|refine gS ?_);simp only[go_sem,r0,r1,r2,r3,r4,hnl,qs,aC,Int.reduceLT])|refine gA ?_|(refine gD (fun h=>?_) (fun h=>?_)<;>try exact aA h)|fail
  exact aCR hb rfl _
 obtain⟨A,w,B,e1,e2,e3,e4⟩:=tN h1
 rw[e2]at hA1
 have hw:w.n=c.n:=by simpa using e3
 have hws:d.m.watches.find? (fun s=>decide (s.n=c.n))=some w:=by rw[e1];exact aFq e4 e3
 rw[hws]
 simp only
 have hem:emptyW c.n d.m.watches=A++{w with evs:=[]}::B:=by rw[e1];exact aDM e4 hw
 rw[hem]
 have hle:w.evs.length≤1000000:=hs.evs w (by rw[e1];simp)
 have hlen:d.m.watches.length=A.length+(B.length+1):=by rw[e1];simp
 have d1:decide (((A.length:Nat):Int)<0)=false:=decide_eq_false (by omega)
 repeat' first|((first|refine aV (hA1 _ (by simp only[go_sem,r0,r1,r2,r3,r4,hnl,qs,aC,d1]) (by simp only[go_sem,r0,r1,r2,r3,r4,hnl,qs,aC,d1])) cY ?_|refine aW (hA1 _ (by simp only[go_sem,r0,r1,r2,r3,r4,hnl,qs,aC,d1]) (by simp only[go_sem,r0,r1,r2,r3,r4,hnl,qs,aC,d1])) cY ?_|refine aX (fun _=>hA1 _ (by simp only[go_sem,r0,r1,r2,r3,r4,hnl,qs,aC,d1]) (by simp only[go_sem,r0,r1,r2,r3,r4,hnl,qs,aC,d1])) cY ?_|refine mx [4] qU ?_|refine mx [6] qV ?_|refine gS ?_);simp only[go_sem,r0,r1,r2,r3,r4,hnl,qs,aC,d1])|refine gA ?_|(refine gD (fun h=>?_) (fun h=>?_)<;>try exact aA h)|fail
 refine lC (rO false d.m.watches (by omega) _) rH ?_
 simp only[go_sem,r0,r1,r2,r3,r4,hnl,qs,aC]
 have hlA:=eR (enc:=dL) (s:=4) (fun _=>rfl) A
 have hfl:flA dL d.m.watches=flA dL A++(.int .i64 w.n::.int .i64 w.dir::.sl false (w.evs.map gF)::.bool w.over::flA dL B):=by rw[e1,fN,gW];rfl
 have hdr:List.drop (A.length * 4+2) (flA dL d.m.watches)=.sl false (w.evs.map gF)::.bool w.over::flA dL B:=by
  rw[hfl,←hlA,List.drop_append]
  simp
 have hp1:List.take 2 (List.drop (A.length * 4+2) (flA dL d.m.watches))=[.sl false (w.evs.map gF),.bool w.over]:=by rw[hdr];rfl
 have hp2:(flA dL d.m.watches).getD (A.length * 4+2) .top=.sl false (w.evs.map gF):=by
  rw[List.getD_eq_getElem?_getD,←List.head?_drop,hdr];rfl
 have hfn:(flA dL d.m.watches).length=(A.length+(B.length+1)) * 4:=by rw[eR (s:=4) (fun _=>rfl),hlen]
 have hwt:=aMX false w.over w.evs (w.evs.length:Int) (by omega)
 simp only[Int.toNat_natCast,Nat.min_self,List.drop_length,List.take_length,List.map_nil]at hwt
 have hsp:cR (flA dL d.m.watches) (A.length * 4+2) [.sl false [],.bool w.over]=flA dL (A++{w with evs:=[]}::B):=by
  have e:=fD (A:=flA dL A++[.int .i64 w.n,.int .i64 w.dir]) (B:=.sl false (w.evs.map gF)::.bool w.over::flA dL B) (off:=A.length * 4+2) (X:=[.sl false [],.bool w.over]) (by simp[hlA])
  rw[hfl]
  rw[show flA dL A++[AV.int .i64 w.n,.int .i64 w.dir]++(.sl false (w.evs.map gF)::.bool w.over::flA dL B)=flA dL A++(.int .i64 w.n::.int .i64 w.dir::.sl false (w.evs.map gF)::.bool w.over::flA dL B) by simp]at e
  rw[e,fN,gW]
  simp[dL,AV.cells]
 repeat' first|((first|refine aV (hwt _) kN ?_|refine aW (hwt _) kN ?_|refine aX (fun _=>hwt _) kN ?_|refine mx [4] qU ?_|refine mx [6] qV ?_|refine gS ?_);simp only[go_sem,r0,r1,r2,r3,r4,hnl,qs,aC,hlen,hp1,hp2,hfn,hsp])|((with_reducible refine And.intro ?_ ?_);focus (exact aK (hwt _) kN))|((with_reducible refine And.intro (And.intro ?_ ?_) ?_);focus (exact aK (hwt _) kN))|(exact aK (hwt _) kN)|refine gA ?_|(refine gD (fun h=>?_) (fun h=>?_)<;>try exact aA h)|fail
 refine vK hb rfl rfl rfl ?_
 unfold dkC
 repeat' first|exact gQ|refine dW ?_ ?_|exact .cl _ (.int _ _)|exact .cl _ (.str _)|exact .cl _ (wT _ _ _)|exact .cl _ (wS _ _ _)|exact .cl _ (wU _ _ _)|exact .cl _ (wV _ _ _)|exact .cl _ (wW _ _ _)|exact .cl _ (wX _ _ _)|exact .cl _ (.osl _ _ _ _ _ _ hl2)
 exact pJ (by omega) (by first|(simp only[go_sem,r0,r1,r2,r3,r4,hnl,qs,aC];done)|(simp only[go_sem,r0,r1,r2,r3,r4,hnl,qs,aC];rfl)) (by simp) (fun _=>rfl) (fun x=>by simp only[go_sem])
theorem aB6(a b:List Itm):(oF a b).length≤a.length+b.length+b.length:=by
 unfold oF
 simp only[List.length_append,List.length_map,List.length_reverse]
 have h1:=List.length_filter_le (aAH b) a
 have h2:=List.length_filter_le (aAH a) b
 have h3:=List.length_filter_le (aCz a) b
 have h4:=List.length_filter_le (aAH b) a.reverse
 rw[List.length_reverse]at h4
 omega
theorem mQ{l:List Nd}(h:Wfr l){dir:Int}(hd:dirI dir=true):(dD l dir).length≤l.length:=by
 unfold dD
 split
 ·rename_i hc;exact aMg hc h _ _ _ hd
 ·exact Nat.zero_le _
theorem aM5{i j:Nat}{c:Cal}{d d':Dsk}{G L:AHeap}{cs:List AV}(h:KB i j c d G)(ho:d'.ops=d.ops)(hl:cs.length=18)
  (hf:∀(m:Nat) (x y:AV),cs[m]?=some x→(dkC j c d')[m]?=some y→Frz G.length (aD G i (.cells 0 cs)++L) x y):
  ∃A L' H1 y,aD G i (.cells 0 cs)++L=A++L'∧A.length=G.length∧H1.length=G.length∧aGZ G.length (aD G i (.cells 0 cs)++L) A H1 G∧Frz G.length (aD G i (.cells 0 cs)++L) (.tup []) y∧(y=.tup []∧H1=nS G i j c d'):=by
 obtain⟨A,L',H1,y,e1,e2,e3,e4, -, -,e6⟩:=vK (e:=0) h rfl ho hl hf
 exact⟨A,L',H1,_,e1,e2,e3,e4,.cl _ (.tup _ fun _ _ hx=>by simp at hx),rfl,e6⟩
structure TS (was:List Nd) (d:Dsk):Prop where
 wf1:Wfr was
 wf2:Wfr d.m.log.nodes
 sm1:SmN was
 sm2:SmN d.m.log.nodes
 len:was.length≤1000000
 dir:∀w∈d.m.watches,dirI w.dir=true
theorem aM6{i j:Nat}{c:Cal}{d:Dsk}{G:AHeap}(hb:KB i j c d G)(hs:DS d.m)(f:Bool)(was:List Nd)(ht:TS was d):
  ACalls Tryz.prog 33 [.ref i 0 0,.sl f (was.map ndA)] G (fun v H'=>v=.tup []∧H'=nS G i j c (uW was d)):=by
 refine mF Tryz.func33 rfl (Nat.le_of_ble_eq_true rfl) ?_
 have r0:=hb.b1;have r1:=aT hb.b1 trivial;have r2:=aT hb.b2 trivial;have hne:=hb.ne;have hl1:=hb.lt1;have hl2:=hb.lt2;have r3:=hb.r3;have r4:=hb.r4;have hnl:=aC G i;simp only[dkC]at r0 r1;have qs:=lE hl1 hl2 hne rfl
 have hgw:=hs.watches
 have hn2:=hs.nodes
 repeat' first|(refine gS ?_;simp only[go_sem,r0,r1,r2,r3,r4,hnl,qs,aC])|refine gA ?_|(refine gD (fun h=>?_) (fun h=>?_)<;>try exact aA h)|fail
 refine bE (rO false d.m.watches (by omega) _) rH ?_
 rintro v H' ⟨rfl,rfl⟩
 simp only[go_sem,r0,r1,r2,r3,r4,hnl,qs,aC]
 repeat' first|(refine gS ?_;simp only[go_sem,r0,r1,r2,r3,r4,hnl,qs,aC])|refine gA ?_|(refine gD (fun h=>?_) (fun h=>?_)<;>try exact aA h)|fail
 obtain⟨T,hT⟩:∃T,T=uV was d.m.log.nodes:=⟨_,rfl⟩
 obtain⟨W,hW⟩:∃W:Nat→List Wch,W=fun k=>(d.m.watches.take k).map T++d.m.watches.drop k:=⟨_,rfl⟩
 have hWl:∀k,(W k).length=d.m.watches.length:=fun k=>by rw[hW];simp only[List.length_append,List.length_map,List.length_take,List.length_drop];omega
 obtain⟨n,hn⟩:∃n,n=d.m.watches.length:=⟨_,rfl⟩
 rw[←hn]at hWl hgw ⊢
 obtain⟨X,hX⟩:∃X:List AV,X=[.sl false (d.m.log.entries.map fX),.sl false (d.m.log.nodes.map ndA),.int .i64 d.m.seen,.int .i64 d.m.rep,.sl false (d.m.snaps.map hU),.osl 4 G.length 1 0 n n,.int .i64 d.m.next,
  .int .i64 d.a.err,.str d.a.data,.sl false (d.a.names.map AV.str),.int .i64 d.a.n,.sl false (d.a.events.map gF),
  .int .i64 c.kind,.str c.path,.str c.to,.str c.data,.int .i64 c.n,.osl 7 j (d.ops.length+1) 0 d.ops.length d.ops.length]:=⟨_,rfl⟩
 refine aP (ι:=Nat) (fun k=>[(0,.ref i 0 0),(1,.sl f (was.map ndA)),(21,.int .i64 n),(22,.int .i64 k)]) (fun k=>aD G i (.cells 0 X)++[.cells 1 (flA dL (W k))]) (fun k=>k≤n) (fun k=>n-k) 0 (Nat.zero_le _) ?_ ?_ ?_
 ·simp[go_sem]
 ·rw[hX,hW];simp
 intro k hk
 by_cases hlt:k<n
 ·have hWk:W k=(d.m.watches.take k).map T++d.m.watches[k]::d.m.watches.drop (k+1):=by rw[hW];simp only;rw[List.drop_eq_getElem_cons (by omega)]
  have hWs:W (k+1)=(d.m.watches.take k).map T++T d.m.watches[k]::d.m.watches.drop (k+1):=by rw[hW];simp only;rw[List.take_succ_eq_append_getElem (by omega),List.map_append,List.append_assoc];rfl
  obtain⟨w,hw⟩:∃w,w=d.m.watches[k]:=⟨_,rfl⟩
  rw[←hw]at hWk hWs
  have hwm:w∈d.m.watches:=by rw[hw];exact List.getElem_mem _
  obtain⟨A,hA⟩:∃A,A=(d.m.watches.take k).map T:=⟨_,rfl⟩
  have hAl:A.length=k:=by rw[hA,List.length_map,List.length_take];omega
  rw[←hA]at hWk hWs
  have hlA:=eR (enc:=dL) (s:=4) (fun _=>rfl) A
  rw[hAl]at hlA
  have hfl:flA dL (W k)=flA dL A++(.int .i64 w.n::.int .i64 w.dir::.sl false (w.evs.map gF)::.bool w.over::flA dL (d.m.watches.drop (k+1))):=by rw[hWk,fN,gW];rfl
  have hfn:(flA dL (W k)).length=n * 4:=by rw[eR (s:=4) (fun _=>rfl),hWl]
  have hdr:∀q,List.drop (k * 4+q) (flA dL (W k))=List.drop q (.int .i64 w.n::.int .i64 w.dir::.sl false (w.evs.map gF)::.bool w.over::flA dL (d.m.watches.drop (k+1))):=fun q=>by
   rw[hfl,←hlA,List.drop_append]
   simp
  have hp1:List.take 2 (List.drop (k * 4+2) (flA dL (W k)))=[.sl false (w.evs.map gF),.bool w.over]:=by rw[hdr];rfl
  have hp2:(flA dL (W k)).getD (k * 4+1) .top=.int .i64 w.dir:=by
   rw[List.getD_eq_getElem?_getD,←List.head?_drop,hdr];rfl
  have hdi:=ht.dir w hwm
  have hdf:=aKs f false was d.m.log.nodes w.dir ht.wf1 ht.wf2 hdi (by have:=ht.len;omega) (by omega) ht.sm1 ht.sm2
  obtain⟨D,hD⟩:∃D,D=oF (dD was w.dir) (dD d.m.log.nodes w.dir):=⟨_,rfl⟩
  rw[←hD]at hdf
  have hDl:D.length≤1073741824:=by
   have h1:=aB6 (dD was w.dir) (dD d.m.log.nodes w.dir)
   have h2:=mQ ht.wf1 hdi
   have h3:=mQ ht.wf2 hdi
   have:=ht.len
   rw[hD];omega
  have hle:=hs.evs w hwm
  have hpt:=aKr false false w.over w.evs D (by omega) hDl
  have hTw:T w={w with evs:=(kC w.evs w.over D).1,over:=(kC w.evs w.over D).2}:=by rw[hT,hD];rfl
  have hsp:cR (flA dL (W k)) (k * 4+2) [.sl false ((kC w.evs w.over D).1.map gF),.bool (kC w.evs w.over D).2]=flA dL (W (k+1)):=by
   have e:=fD (A:=flA dL A++[.int .i64 w.n,.int .i64 w.dir]) (B:=.sl false (w.evs.map gF)::.bool w.over::flA dL (d.m.watches.drop (k+1))) (off:=k * 4+2) (X:=[.sl false ((kC w.evs w.over D).1.map gF),.bool (kC w.evs w.over D).2]) (by simp[hlA])
   rw[hfl]
   rw[show flA dL A++[AV.int .i64 w.n,.int .i64 w.dir]++(.sl false (w.evs.map gF)::.bool w.over::flA dL (d.m.watches.drop (k+1)))=flA dL A++(.int .i64 w.n::.int .i64 w.dir::.sl false (w.evs.map gF)::.bool w.over::flA dL (d.m.watches.drop (k+1))) by simp]at e
   rw[e,hWs,fN,gW,hTw]
   simp[dL,AV.cells]
  have hli:decide ((k:Int)<(n:Int))=true:=decide_eq_true (by omega)
  repeat' first|((first|refine aV (hdf _) fI ?_|refine aW (hdf _) fI ?_|refine aX (fun _=>hdf _) fI ?_|refine aV (hpt _) fH ?_|refine aW (hpt _) fH ?_|refine aX (fun _=>hpt _) fH ?_|refine mx [5] yC ?_|refine gS ?_);simp only[go_sem,r0,r1,r2,r3,r4,hnl,qs,aC,hX,hli,hp1,hp2,hfn,hsp])|((with_reducible refine And.intro ?_ ?_);focus (exact aK (hdf _) fI))|((with_reducible refine And.intro (And.intro ?_ ?_) ?_);focus (exact aK (hdf _) fI))|(exact aK (hdf _) fI)|((with_reducible refine And.intro ?_ ?_);focus (exact aK (hpt _) fH))|((with_reducible refine And.intro (And.intro ?_ ?_) ?_);focus (exact aK (hpt _) fH))|(exact aK (hpt _) fH)|refine gA ?_|(refine gD (fun h=>?_) (fun h=>?_)<;>try exact aA h)|fail
  exact⟨k+1,hlt,by omega,congrArg _ (bD hlt (by omega)),rfl⟩
 ·have hke:k=n:=by omega
  have hli:decide ((k:Int)<(n:Int))=false:=decide_eq_false (by omega)
  repeat' first|(refine gS ?_;simp only[go_sem,r0,r1,r2,r3,r4,hnl,qs,aC,hli])|refine gA ?_|(refine gD (fun h=>?_) (fun h=>?_)<;>try exact aA h)|fail
  have hWn:W k=(uW was d).m.watches:=by
   rw[hW,hke,hn]
   simp only[List.take_length,List.drop_length,List.append_nil]
   rw[hT];rfl
  rw[hWn]
  subst hX
  refine aM5 hb rfl rfl ?_
  unfold dkC
  repeat' first|exact gQ|refine dW ?_ ?_|exact .cl _ (.int _ _)|exact .cl _ (.str _)|exact .cl _ (wT _ _ _)|exact .cl _ (wS _ _ _)|exact .cl _ (wU _ _ _)|exact .cl _ (wV _ _ _)|exact .cl _ (wW _ _ _)|exact .cl _ (wX _ _ _)|exact .cl _ (.osl _ _ _ _ _ _ hl2)
  exact pJ (Nat.le_refl _) (by first|(simp only[go_sem,r0,r1,r2,r3,r4,hnl,qs,aC];done)|(simp only[go_sem,r0,r1,r2,r3,r4,hnl,qs,aC];rfl)) (by rw[←hWn,hWl]) (fun _=>rfl) (fun x=>by simp only[go_sem])
end Go.Proofs.YthhdnjiodklmmaaGreatDoor
