/- The texts 7 of 8 beneath the rows of this seat (joined by program): the abstract machine, and what the functions answer. No condition. -/
import Derived.Test.YthhdnjiodklmmaaGreatDoorWorkF
set_option linter.unusedSimpArgs false
set_option linter.unusedVariables false
set_option linter.unusedSectionVars false
/- watch.lay, Put, Take: events that wait. No condition but how many. -/
namespace Go.Gw
open Go Go.Aw Go.Proofs.YthhdnjiodklmmaaGreatDoor
def lsA(ps:List (Bool×List Evt)):List AV:=ps.map fun p=>.sl p.1 (p.2.map kE)
def eW(ps:List (Bool×List Evt))(i:Nat):List Evt:=(ps.take i).flatMap (·.2)
theorem sG{ps:List (Bool×List Evt)}{i:Nat}(h:i<ps.length):eW ps (i+1)=eW ps i++ps[i].2:=by
 unfold eW;rw[List.take_succ_eq_append_getElem h,List.flatMap_append,List.flatMap_singleton]
theorem aKw(ps:List (Bool×List Evt))(i:Nat):(eW ps i).length≤(eW ps ps.length).length:=by
 unfold eW
 rw[List.take_length]
 conv=>rhs;rw[←List.take_append_drop i ps,List.flatMap_append,List.length_append]
 omega
def evZ:AV:=.agg [.int .i64 0,.str []]
theorem aG6(n:Nat):(List.flatMap AV.cells (List.replicate n evZ)).length=n * 2:=by
 induction n with
 |zero=>rfl
 |succ n ih=>rw[List.replicate_succ,List.flatMap_cons,List.length_append,ih];simp[evZ,AV.cells];omega
theorem aDA{ps:List (Bool×List Evt)}{i:Nat}(h:i<ps.length):(lsA ps).getD i .top=.sl ps[i].1 (ps[i].2.map kE):=by simp[lsA,h]
theorem aRt(l:List Evt):List.flatMap AV.cells (l.map kE)=evC l:=rfl
theorem aCO(a b:List Evt):evC (a++b)=evC a++evC b:=by simp[evC]
theorem aRu(l:List Evt):(evC l).all AV.one=true:=by
 rw[List.all_eq_true]
 intro x hx
 unfold evC at hx
 rw[List.mem_flatMap]at hx
 obtain⟨y,hy,hx⟩:=hx
 obtain⟨t, -,rfl⟩:=List.mem_map.1 hy
 simp only[kE,AV.cells,List.mem_cons,List.not_mem_nil,or_false]at hx
 rcases hx with rfl|rfl<;>rfl
theorem yU(l:List Evt):(∀e∈l.map kE,e.cells.length=2)=True:=eq_true fun e he=>by
 obtain⟨x,_,rfl⟩:=List.mem_map.1 he;rfl
end Go.Gw
namespace Go.Proofs.YthhdnjiodklmmaaGreatDoor
open Go Go.Aw Go.Gw
set_option linter.unusedSimpArgs false
set_option linter.unusedVariables false
set_option maxRecDepth 20000
set_option maxHeartbeats 4000000
def tD:List Pl:=[.pure 0,.pure 0,.free,.free,.free,.pure 0,.free,.free,.pure 0,.free,.eff [false,false,false,false]]
def tE:List Pl:=[.pure 0,.pure 0,.free,.pure 0,.free,.pure 0,.pure 0,.pure 0,.free,.pure 0,.pure 0,.free,.free,.pure 0,.free,.pure 0,.eff [false,true,true,true,false,false,false,false,false,false],.free]
attribute [go_sem] tD tE
theorem aCP(f:Bool)(ps:List (Bool×List Evt))(hp:ps.length≤1073741824)(hl:(eW ps ps.length).length≤4294967296)(H:AHeap):
  cN Tryz.prog 37 [.sl f (lsA ps)] H (.sl false ((eW ps ps.length).map kE)):=by
 refine aQ Tryz.func37 rfl (Nat.le_of_ble_eq_true rfl) ?_
 have hle:=aKw ps
 have hlen:(lsA ps).length=ps.length:=by simp[lsA]
 repeat' first|(refine gS ?_;simp only[go_sem,hlen])|refine gA ?_|(refine gD (fun h=>?_) (fun h=>?_)<;>try exact aB h)|fail
 refine hQ (ι:=Unit) (fun _=>[(0,.sl f (lsA ps)),(3,.int .i64 (eW ps ps.length).length)]) (fun _=>H) (fun _=>True) ?_ fun _ _=>?_
 ·refine aR (ι:=Nat) (fun i=>[(0,.sl f (lsA ps)),(3,.int .i64 (eW ps i).length),(9,.sl f (lsA ps)),(10,.int .i64 ps.length),(11,.int .i64 i)]) (fun _=>H) (fun i=>i≤ps.length) (fun i=>ps.length-i) 0 (Nat.zero_le _) ?_ rfl ?_
  ·simp[go_sem,eW]
  intro i hi
  by_cases hin:i<ps.length
  ·have hgd:=aDA hin
   have h1:=hle (i+1)
   rw[sG hin,List.length_append]at h1
   have hw:IntKind.i64.wrap (((eW ps i).length:Int)+(ps[i].2.length:Int))=((eW ps (i+1)).length:Int):=by rw[wrap_i64 (by omega) (by omega),sG hin,List.length_append];omega
   repeat' first|(refine gS ?_;simp only[go_sem,hin,hgd,hlen,hw])|refine gA ?_|(refine gD (fun h=>?_) (fun h=>?_)<;>try exact aB h)|fail
   exact⟨i+1,hin,by omega,rfl,congrArg _ (bI hin (by omega))⟩
  ·have hie:i=ps.length:=by omega
   subst hie
   repeat' first|(refine gS ?_;simp only[go_sem])|refine gA ?_|(refine gD (fun h=>?_) (fun h=>?_)<;>try exact aB h)|fail
   exact⟨(),trivial⟩
 obtain⟨n,hn⟩:∃n,n=(eW ps ps.length).length:=⟨_,rfl⟩
 rw[←hn]
 rw[←hn]at hl hle
 have lz:=aG6 n
 have hz:evZ=.agg [.int .i64 0,.str []]:=rfl
 repeat' first|(refine gS ?_;simp only[go_sem,hlen,←hz,lz])|refine gA ?_|(refine gD (fun h=>?_) (fun h=>?_)<;>try exact aB h)|fail
 obtain⟨Z,hZ⟩:∃Z,Z=List.flatMap AV.cells (List.replicate n evZ):=⟨_,rfl⟩
 rw[←hZ]at lz ⊢
 refine aR (ι:=Nat) (fun i=>[(3,.int .i64 (eW ps i).length),(6,.osl 2 H.length 1 0 n n),(22,.sl f (lsA ps)),(23,.int .i64 ps.length),(24,.int .i64 i)]) (fun i=>H++[.cells 1 (evC (eW ps i)++Z.drop ((eW ps i).length * 2))]) (fun i=>i≤ps.length) (fun i=>ps.length-i) 0 (Nat.zero_le _) ?_ ?_ ?_
 ·simp[go_sem,eW]
 ·simp[eW,evC]
 intro i hi
 by_cases hin:i<ps.length
 ·have hgd:=aDA hin
  have h1:=hle (i+1)
  have hs:=sG hin
  rw[hs,List.length_append]at h1
  have hw:IntKind.i64.wrap (((eW ps i).length:Int)+(ps[i].2.length:Int))=((eW ps (i+1)).length:Int):=by rw[wrap_i64 (by omega) (by omega),hs,List.length_append];omega
  have hlc:(evC (eW ps i)).length=(eW ps i).length * 2:=aDz _
  have hlx:(evC ps[i].2).length=ps[i].2.length * 2:=aDz _
  have hsp:cT (evC (eW ps i)++Z.drop ((eW ps i).length * 2)) ((eW ps i).length * 2) (evC ps[i].2)=evC (eW ps (i+1))++Z.drop ((eW ps (i+1)).length * 2):=by
   rw[gL hlc,hlx,List.drop_drop,hs,aCO,List.length_append,List.append_assoc,Nat.add_mul]
  repeat' first|(refine gS ?_;simp only[go_sem,hin,hgd,hlen,hw,aRt,hsp,hlc,hlx,aRu,yU,List.length_drop,lz])|refine gA ?_|(refine gD (fun h=>?_) (fun h=>?_)<;>try exact aB h)|fail
  exact⟨i+1,hin,by omega,⟨rfl,congrArg _ (bI hin (by omega))⟩,rfl⟩
 ·have hie:i=ps.length:=by omega
  subst hie
  repeat' first|(refine gS ?_;simp only[go_sem,hin])|refine gA ?_|(refine gD (fun h=>?_) (fun h=>?_)<;>try exact aB h)|fail
  exact iU (cs:=evC (eW ps ps.length)++Z.drop ((eW ps ps.length).length * 2)) (es:=(eW ps ps.length).map kE) (rest:=Z.drop ((eW ps ps.length).length * 2)) (Nat.le_refl _) (by simp only[go_sem]) rfl (by rw[List.length_map,hn]) (fun e he=>by obtain⟨x,_,rfl⟩:=List.mem_map.1 he;rfl) (fun e he=>by obtain⟨x,_,rfl⟩:=List.mem_map.1 he;exact(by simp only[go_sem])) rfl
theorem aG7(f o:Bool)(e:List Evt)(he:e.length≤1073741824)(u:Nat)(H:AHeap)(hu:hget H u=.cells 0 [.sl f (e.map kE),.bool o]):cN Tryz.prog 38 [.ref u 0 0] H (.int .i64 ((8-e.length:Nat):Int)):=by
 refine aQ Tryz.func38 rfl (Nat.le_of_ble_eq_true rfl) ?_
 have hw:max (IntKind.i64.wrap (8-(e.length:Int))) 0=((8-e.length:Nat):Int):=by rw[wrap_i64 (by omega) (by omega)];omega
 repeat' first|(refine gS ?_;simp only[go_sem,hu,hw])|refine gA ?_|(refine gD (fun h=>?_) (fun h=>?_)<;>try exact aB h)|fail
 exact aT (by simp only[go_sem]) (.refl _)
theorem aCQ(f f1:Bool)(a:List Evt)(ha:a.length≤1073741824)(H:AHeap):cN Tryz.prog 37 [.sl f [.sl f1 (a.map kE)]] H (.sl false (a.map kE)):=by
 have h1:=aCP f [(f1,a)] (by simp) (by simp[eW];omega) H
 simpa[lsA,eW]using h1
theorem aRv(f f1 f2:Bool)(a b:List Evt)(ha:a.length≤1073741824)(hb:b.length≤1073741824)(H:AHeap):cN Tryz.prog 37 [.sl f [.sl f1 (a.map kE),.sl f2 (b.map kE)]] H (.sl false ((a++b).map kE)):=by
 have h1:=aCP f [(f1,a),(f2,b)] (by simp) (by simp[eW];omega) H
 simpa[lsA,eW]using h1
theorem aRw(f f1 f2 f3:Bool)(a b c:List Evt)(ha:a.length≤1073741824)(hb:b.length≤1073741824)(hc:c.length≤1073741824)(H:AHeap):cN Tryz.prog 37 [.sl f [.sl f1 (a.map kE),.sl f2 (b.map kE),.sl f3 (c.map kE)]] H (.sl false ((a++b++c).map kE)):=by
 have h1:=aCP f [(f1,a),(f2,b),(f3,c)] (by simp) (by simp[eW];omega) H
 simpa[lsA,eW]using h1
theorem aRx(f f2 o:Bool)(e l:List Evt)(he:e.length≤1073741824)(hl:l.length≤1073741824)(H:AHeap):cN Tryz.prog 18 [.agg [.sl f (e.map kE),.bool o],.sl f2 (l.map kE)] H (.agg [.sl false ((lY e o l).1.map kE),.bool (lY e o l).2]):=by
 refine aQ Tryz.func18 rfl (Nat.le_of_ble_eq_true rfl) ?_
 cases o with
 |true=>
  have h1:=aCQ true f e he
  unfold lY
  have ct0:=ct h1 lC;repeat' first|((first|refine gK ?_|refine gS ?_);simp only[go_sem])|refine gA ?_|(refine gD (fun h=>?_) (fun h=>?_)<;>try exact aB h)|fail
  exact done (by simp only[go_sem]) (.refl _)
 |false=>
  have hp:lY e false l=if 8-e.length<l.length then(e++l.take (8-e.length)++[⟨9,[]⟩],true)else(e++l,false):=rfl
  have h3:=aRw true f true true e (l.take (8-e.length)) [⟨9,[]⟩] he (by rw[List.length_take];omega) (by simp)
  have h2:=aRv true f f2 e l he hl
  have ht:List.take (8-e.length) (List.map kE l)=List.map kE (l.take (8-e.length)):=List.map_take.symm
  by_cases hs:8-e.length<l.length
  ·rw[hp,if_pos hs]
   have h5:8-e.length≤l.length:=by omega
   repeat' first|(refine gS ?_;simp only[go_sem])|refine gA ?_|(refine gD (fun h=>?_) (fun h=>?_)<;>try exact aB h)|fail
   refine kH (aG7 f false e he H.length _ (by simp only[go_sem])) xX ?_
   rintro v H' ⟨rfl,rfl⟩
   simp only[go_sem]
   have ct0:=ct h3 lC;repeat' first|((first|refine gK ?_|refine mx [7] tD ?_|refine gS ?_);simp only[go_sem,hs,h5,ht])|refine gA ?_|(refine gD (fun h=>?_) (fun h=>?_)<;>try exact aB h)|fail
   exact done (by simp only[go_sem]) (.refl _)
  ·rw[hp,if_neg hs]
   repeat' first|(refine gS ?_;simp only[go_sem])|refine gA ?_|(refine gD (fun h=>?_) (fun h=>?_)<;>try exact aB h)|fail
   refine kH (aG7 f false e he H.length _ (by simp only[go_sem])) xX ?_
   rintro v H' ⟨rfl,rfl⟩
   simp only[go_sem]
   have ct0:=ct h2 lC;repeat' first|((first|refine gK ?_|refine gS ?_);simp only[go_sem,hs])|refine gA ?_|(refine gD (fun h=>?_) (fun h=>?_)<;>try exact aB h)|fail
   exact done (by simp only[go_sem]) (.refl _)
theorem bDN(f o:Bool)(e:List Evt)(n:Int)(he:e.length≤1073741824)(H:AHeap):cN Tryz.prog 138 [.agg [.sl f (e.map kE),.bool o],.int .i64 n] H (.tup [.agg [.sl false ((e.drop (min n.toNat e.length)).map kE),.bool o],.sl false ((e.take (min n.toNat e.length)).map kE)]):=by
 refine aQ Tryz.func138 rfl (Nat.le_of_ble_eq_true rfl) ?_
 obtain⟨k,hk⟩:∃k,k=min n.toNat e.length:=⟨_,rfl⟩
 have hk2:min (max n 0) (e.length:Int)=(k:Int):=by omega
 have hke:k≤e.length:=by omega
 have h1:=aCQ true f (e.drop k) (by rw[List.length_drop];omega)
 have h2:=aCQ true true (e.take k) (by rw[List.length_take];omega)
 have t1:List.take k (List.map kE e)=List.map kE (e.take k):=List.map_take.symm
 have t2:List.drop k (List.map kE e)=List.map kE (e.drop k):=List.map_drop.symm
 rw[←hk]
 have ct0:=ct h1 lC;have ct1:=ct h2 lC;repeat' first|((first|refine gK ?_|refine mx [2] tE ?_|refine gS ?_);simp only[go_sem,hk2,hke,t1,t2,yU])|refine gA ?_|(refine gD (fun h=>?_) (fun h=>?_)<;>try exact aB h)|fail
 exact done (by simp only[go_sem]) (.refl _)
end Go.Proofs.YthhdnjiodklmmaaGreatDoor
/- What is done at the desk of calls that begin, drop and poll handles. No condition but what is known of a replica. -/
namespace Go.Gw
open Go Go.Aw Go.Proofs.YthhdnjiodklmmaaGreatDoor
theorem aAm{α:Type}{enc:α→AV}{s n i v k lc:Nat}{H:AHeap}{D:List α}(hn:n≤i)(hh:hget H i=.cells v (flA enc D))(hk:D.length=k)(hs:∀x,(enc x).cells.length=s)(hp:∀x,Pur (enc x)):Frz n H (.osl s i v 0 k lc) (.sl false (D.map enc)):=
 zF (es:=D.map enc) (rest:=[]) hn hh (List.append_nil _).symm (by rw[List.length_map,hk]) (fun e he=>by(obtain⟨x, -,rfl⟩:=List.mem_map.1 he;exact hs x)) (fun e he=>by(obtain⟨x, -,rfl⟩:=List.mem_map.1 he;exact hp x))
theorem aKx{α:Type}{enc:α→AV}{s n i v k lc:Nat}{H:AHeap}{D:List α}{cs:List AV}(hn:n≤i)(hh:hget H i=.cells v cs)(hk:D.length=k)(hl:cs.length=D.length * s)(hs:∀x,(enc x).cells.length=s)
  (h:∀(m:Nat) (x y:AV),cs[m]?=some x→(flA enc D)[m]?=some y→Frz n H x y):Frz n H (.osl s i v 0 k lc) (.sl false (D.map enc)):=
 .osl s i v 0 k lc cs _ hn hh (by rw[List.length_map,hk]) (by rw[hl,hk];omega) (fun e he=>by(obtain⟨x, -,rfl⟩:=List.mem_map.1 he;exact hs x))fun q j e x y he hy hx=>
  h (q * s+j) x y (by rwa[Nat.zero_add]at hx) (qC (fun e he=>by(obtain⟨x, -,rfl⟩:=List.mem_map.1 he;exact hs x)) he hy)
theorem aG8{n:Nat}{H:AHeap}{A B C:List AV}(hA:∀x∈A,Pur x)(h:∀(m:Nat) (x y:AV),B[m]?=some x→C[m]?=some y→Frz n H x y):∀(m:Nat) (x y:AV),(A++B)[m]?=some x→(A++C)[m]?=some y→Frz n H x y:=fun m x y hx hy=>by
 by_cases hm:m<A.length
 ·rw[List.getElem?_append_left hm]at hx hy
  rw[hx]at hy
  cases hy
  exact .cl _ ((hA x (List.mem_of_getElem? hx)).cl _)
 ·rw[List.getElem?_append_right (by omega)]at hx hy
  exact h _ x y hx hy
theorem aAn{i j:Nat}{c:Cal}{d d':Dsk}{G L:AHeap}{cs:List AV}(h:KB i j c d G){e:Int}{v:AV}(hv:v=.int .i64 e)(ho:d'.ops=d.ops)(hl:cs.length=18)
  (hf:∀(m:Nat) (x y:AV),cs[m]?=some x→(dkC j c d')[m]?=some y→Frz G.length (aD G i (.cells 0 cs)++L) x y):
  ∃A L' H1 y,aD G i (.cells 0 cs)++L=A++L'∧A.length=G.length∧H1.length=G.length∧aGx G.length (aD G i (.cells 0 cs)++L) A H1 G∧Frz G.length (aD G i (.cells 0 cs)++L) v y∧(y=.int .i64 e∧H1=pS G i j c d'):=by
 subst hv
 refine⟨_,L,_,_,rfl,aI _ _ _,zY _ _ _ _ _,fun k a b ha hk=>?_,.cl _ (.int _ _),rfl,rfl⟩
 rw[←h.one ho]at hk
 by_cases e:i=k
 ·subst e
  rw[aD,List.getElem?_set_self h.lt1]at ha hk
  cases ha;cases hk
  exact .inr ⟨0,cs,_,rfl,rfl,hl,hf⟩
 ·rw[aD,List.getElem?_set_ne e]at ha hk
  rw[ha]at hk
  cases hk
  exact .inl ⟨rfl,.inl ha⟩
theorem aDB{i j:Nat}{c:Cal}{d:Dsk}{G:AHeap}(h:KB i j c d G){e:Int}{v:AV}(hv:v=.int .i64 e)(L:AHeap):
  ∃A L' H1 y,G++L=A++L'∧A.length=G.length∧H1.length=G.length∧aGx G.length (G++L) A H1 G∧Frz G.length (G++L) v y∧(y=.int .i64 e∧H1=pS G i j c d):=by
 subst hv
 exact⟨G,L,G,_,rfl,rfl,rfl,fun k a b ha hb=>by(rw[ha]at hb;cases hb;exact .inl ⟨rfl,.inl ha⟩),.cl _ (.int _ _),rfl,h.own.symm⟩
theorem qW{i j:Nat}{c:Cal}{d:Dsk}{G:AHeap}(h:KB i j c d G){e:Int}{v:AV}(hv:v=.int .i64 e):
  ∃A L' H1 y,G=A++L'∧A.length=G.length∧H1.length=G.length∧aGx G.length G A H1 G∧Frz G.length G v y∧(y=.int .i64 e∧H1=pS G i j c d):=by
 have:=aDB h hv []
 rwa[List.append_nil]at this
end Go.Gw
namespace Go.Proofs.YthhdnjiodklmmaaGreatDoor
open Go Go.Aw Go.Gw
set_option linter.unusedSimpArgs false
set_option linter.unusedVariables false
set_option maxRecDepth 20000
set_option maxHeartbeats 4000000
def tF:List Pl:=[.free,.pure 0,.pure 0,.pure 0,.pure 0,.free,.pure 0,.pure 0,.pure 0,.pure 0,.pure 0,.pure 0,.free,.eff [true,true,true,true,true,true,true,true,true,true],.eff [false,false,false,false,false,false,false,false,false,false]]
def tG:List Pl:=[.free,.free,.pure 0,.pure 0,.pure 0,.pure 0,.eff [false,true,true,true],.pure 1,.free,.eff [true,true,true,true],.pure 0,.pure 0,.pure 0,.eff [false,true,true,false,false,false,false]]
def tH:List Pl:=[.free,.free,.pure 0,.pure 0,.pure 0,.pure 0,.eff [false,true,true,true],.free,.pure 1,.pure 1,.pure 1,.pure 1,.free,.free,.free,.eff [true,true,true,true,true,true,true],.pure 0,.pure 0,.pure 0,.eff [false,true,true,false,false,false,false,false,false,false]]
def kR:List Pl:=[.pure 0,.pure 0,.pure 0,.pure 0,.pure 0,.pure 0,.eff [false,true,true,true,true,true],.free,.eff [true,true,true,true,true],.pure 0,.pure 0,.pure 0,.eff [false,true,true,false,false,false,false,false]]
attribute [go_sem] tF tG tH kR
theorem bDO{i j:Nat}{c:Cal}{d:Dsk}{G:AHeap}(hb:KB i j c d G):aJ5 Tryz.prog 77 i j c (0,d) G:=by
 refine bQ Tryz.func77 rfl (Nat.le_of_ble_eq_true rfl) ?_
 repeat' first|(refine gS ?_;simp only[go_sem])|refine gA ?_|(refine gD (fun h=>?_) (fun h=>?_)<;>try exact aB h)|fail
 exact aJ4 hb rfl hb.own.symm
theorem bDP{i j:Nat}{c:Cal}{d:Dsk}{G:AHeap}(hb:KB i j c d G)(hs:DS d.m):aJ5 Tryz.prog 73 i j c (yK d) G:=by
 refine pO Tryz.func73 rfl (Nat.le_of_ble_eq_true rfl) ?_
 have r0:=hb.b1;have r1:=aZ hb.b1 trivial;have r2:=aZ hb.b2 trivial;have hne:=hb.ne;have hl1:=hb.lt1;have hl2:=hb.lt2;have r3:=hb.r3;have r4:=hb.r4;have hnl:=aI G i;simp only[dkC]at r0 r1;have qs:=yN hl1 hl2 hne rfl
 unfold yK
 by_cases h8:(8:Int)≤(d.m.snaps.length:Int)
 ·have d8:decide ((8:Int)≤(d.m.snaps.length:Int))=true:=decide_eq_true h8
  rw[if_pos h8]
  repeat' first|(refine gS ?_;simp only[go_sem,r0,r1,r2,r3,r4,hnl,qs,aI,d8])|refine gA ?_|(refine gD (fun h=>?_) (fun h=>?_)<;>try exact aB h)|fail
  exact qW hb rfl
 have d8:decide ((8:Int)≤(d.m.snaps.length:Int))=false:=decide_eq_false h8
 rw[if_neg h8]
 have hcn:=aCB false d.m.log.nodes (by have:=hs.nodes;omega)
 repeat' first|((first|refine aV (hcn _) gG ?_|refine aW (hcn _) gG ?_|refine aX (fun _=>hcn _) gG ?_|refine mx [4] tF ?_|refine mx [5] tG ?_|refine gS ?_);simp only[go_sem,r0,r1,r2,r3,r4,hnl,qs,aI,d8])|((with_reducible refine And.intro ?_ ?_);focus (exact aO (hcn _) gG))|((with_reducible refine And.intro (And.intro ?_ ?_) ?_);focus (exact aO (hcn _) gG))|(exact aO (hcn _) gG)|refine gA ?_|(refine gD (fun h=>?_) (fun h=>?_)<;>try exact aB h)|fail
 refine lI (yL false d.m.snaps (by have:=hs.snaps;omega) _) uY ?_
 have hfl:=gB (enc:=gX) (s:=2) (fun _=>rfl) d.m.snaps
 have hq1:(∀e,e=AV.agg [.int .i64 d.m.next,.sl false (d.m.log.nodes.map ndA)]→e.cells.length=2)=True:=eq_true (fun e he=>by rw[he];rfl)
 have hl8:((d.m.snaps.length+1) * 32≤140737488355328)=True:=eq_true (by have:=hs.snaps;omega)
 simp only[go_sem,r0,r1,r2,r3,r4,hnl,qs,aI,hfl,hq1,hl8]
 repeat' first|(refine gS ?_;simp only[go_sem,r0,r1,r2,r3,r4,hnl,qs,aI,hfl,hq1,hl8])|refine gA ?_|(refine gD (fun h=>?_) (fun h=>?_)<;>try exact aB h)|fail
 refine aAn hb rfl rfl rfl ?_
 unfold dkC
 repeat' first|exact iV|refine iY ?_ ?_|exact .cl _ (.int _ _)|exact .cl _ (.str _)|exact .cl _ (aAa _ _ _)|exact .cl _ (zZ _ _ _)|exact .cl _ (aAb _ _ _)|exact .cl _ (aAc _ _ _)|exact .cl _ (aAd _ _ _)|exact .cl _ (aAe _ _ _)|exact .cl _ (.osl _ _ _ _ _ _ hl2)
 exact aAm (by omega) (by rw[iW];simp only[go_sem,r0,r1,r2,r3,r4,hnl,qs,aI];rfl) (by simp) (fun _=>rfl) (fun x=>by simp only[go_sem])
theorem bCp{i j:Nat}{c:Cal}{d:Dsk}{G:AHeap}(hb:KB i j c d G)(hs:DS d.m)(hc:CS c):aJ5 Tryz.prog 75 i j c (sB c d) G:=by
 refine pO Tryz.func75 rfl (Nat.le_of_ble_eq_true rfl) ?_
 have r0:=hb.b1;have r1:=aZ hb.b1 trivial;have r2:=aZ hb.b2 trivial;have hne:=hb.ne;have hl1:=hb.lt1;have hl2:=hb.lt2;have r3:=hb.r3;have r4:=hb.r4;have hnl:=aI G i;simp only[dkC]at r0 r1;have qs:=yN hl1 hl2 hne rfl
 unfold sB
 have hat:=bEy false d.m.log.nodes c.path (by have:=hs.nodes;omega) hc.path
 obtain⟨⟨id,e⟩,ha⟩:∃x,atN d.m.log.nodes c.path=x:=⟨_,rfl⟩
 rw[ha]at hat ⊢
 simp only[aA9]at hat
 by_cases he:e=0
 ·subst he
  simp only[if_true]
  have hdd:=yC id
  cases hdi:dirI id with
  |false=>
   rw[hdi]at hdd
   rw[if_neg (by simp)]
   have ct0:=ct hat lQ;have ct1:=ct hdd eG;repeat' first|((first|refine gK ?_|refine gS ?_);simp only[go_sem,r0,r1,r2,r3,r4,hnl,qs,aI])|refine gA ?_|(refine gD (fun h=>?_) (fun h=>?_)<;>try exact aB h)|fail
   exact qW hb rfl
  |true=>
   rw[hdi]at hdd
   rw[if_pos rfl]
   by_cases h8:(8:Int)≤(d.m.watches.length:Int)
   ·have d8:decide ((8:Int)≤(d.m.watches.length:Int))=true:=decide_eq_true h8
    rw[if_pos h8]
    have ct0:=ct hat lQ;have ct1:=ct hdd eG;repeat' first|((first|refine gK ?_|refine gS ?_);simp only[go_sem,r0,r1,r2,r3,r4,hnl,qs,aI,d8])|refine gA ?_|(refine gD (fun h=>?_) (fun h=>?_)<;>try exact aB h)|fail
    exact qW hb rfl
   have d8:decide ((8:Int)≤(d.m.watches.length:Int))=false:=decide_eq_false h8
   rw[if_neg h8]
   have ct0:=ct hat lQ;have ct1:=ct hdd eG;repeat' first|((first|refine gK ?_|refine mx [9] tH ?_|refine gS ?_);simp only[go_sem,r0,r1,r2,r3,r4,hnl,qs,aI,d8])|refine gA ?_|(refine gD (fun h=>?_) (fun h=>?_)<;>try exact aB h)|fail
   refine lI (yM false d.m.watches (by have:=hs.watches;omega) _) xY ?_
   have hfl:=gB (enc:=fT) (s:=4) (fun _=>rfl) d.m.watches
   have hq1:(∀e,e=AV.agg [.int .i64 d.m.next,.int .i64 id,.sl true [],.bool false]→e.cells.length=4)=True:=eq_true (fun e he=>by rw[he];rfl)
   have hl8:((d.m.watches.length+1) * 48≤140737488355328)=True:=eq_true (by have:=hs.watches;omega)
   simp only[go_sem,r0,r1,r2,r3,r4,hnl,qs,aI,hfl,hq1,hl8]
   repeat' first|(refine gS ?_;simp only[go_sem,r0,r1,r2,r3,r4,hnl,qs,aI,hfl,hq1,hl8])|refine gA ?_|(refine gD (fun h=>?_) (fun h=>?_)<;>try exact aB h)|fail
   refine aAn hb rfl rfl rfl ?_
   unfold dkC
   repeat' first|exact iV|refine iY ?_ ?_|exact .cl _ (.int _ _)|exact .cl _ (.str _)|exact .cl _ (aAa _ _ _)|exact .cl _ (zZ _ _ _)|exact .cl _ (aAb _ _ _)|exact .cl _ (aAc _ _ _)|exact .cl _ (aAd _ _ _)|exact .cl _ (aAe _ _ _)|exact .cl _ (.osl _ _ _ _ _ _ hl2)
   refine aKx (Nat.le_refl _) (by simp only[go_sem,r0,r1,r2,r3,r4,hnl,qs,aI];rfl) (by simp) (by simp only[List.length_append,hfl,List.length_cons,List.length_nil];omega) (fun _=>rfl) ?_
   rw[iW]
   refine aG8 (mB (fun x=>by simp only[go_sem]) _) ?_
   repeat' first|exact iV|refine iY ?_ ?_|exact .cl _ (.int _ _)|exact .cl _ (.bool _)|exact .slw _ _ ((Pur.sl true [] (fun _ h=>by cases h)).cl _)
 ·have hd:decide (e=0)=false:=decide_eq_false he
  simp only[if_neg he]
  have ct0:=ct hat lQ;repeat' first|((first|refine gK ?_|refine gS ?_);simp only[go_sem,r0,r1,r2,r3,r4,hnl,qs,aI,hd])|refine gA ?_|(refine gD (fun h=>?_) (fun h=>?_)<;>try exact aB h)|fail
  exact qW hb rfl
theorem aDC{i:Nat}{n:Int}{x0 x1 x2 x3 x4 x5 x6 x7 x8 x9 x10 x11 x12 x13 x14 x15 x17:AV}{G:AHeap}(k:Nat)(hk:hget G k=.cells 0 [.ref i 0 0])(hi:hget G i=.cells 0 [x0,x1,x2,x3,x4,x5,x6,x7,x8,x9,x10,x11,x12,x13,x14,x15,.int .i64 n,x17])(s:Snp):cN Tryz.prog 130 [gX s,.ref k 0 0] G (.bool (decide (s.n=n))):=by
 refine aQ Tryz.func130 rfl (Nat.le_of_ble_eq_true rfl) ?_
 have hk1:=aZ hk trivial
 have hi1:=aZ hi trivial
 repeat' first|(refine gS ?_;simp only[go_sem,gX,hk,hk1,hi,hi1])|refine gA ?_|(refine gD (fun h=>?_) (fun h=>?_)<;>try exact aB h)|fail
 exact done (by simp only[go_sem]) (.refl _)
theorem aDD{i:Nat}{n:Int}{x0 x1 x2 x3 x4 x5 x6 x7 x8 x9 x10 x11 x12 x13 x14 x15 x17:AV}{G:AHeap}(k:Nat)(hk:hget G k=.cells 0 [.ref i 0 0])(hi:hget G i=.cells 0 [x0,x1,x2,x3,x4,x5,x6,x7,x8,x9,x10,x11,x12,x13,x14,x15,.int .i64 n,x17])(s:Wch):cN Tryz.prog 131 [fT s,.ref k 0 0] G (.bool (decide (s.n=n))):=by
 refine aQ Tryz.func131 rfl (Nat.le_of_ble_eq_true rfl) ?_
 have hk1:=aZ hk trivial
 have hi1:=aZ hi trivial
 repeat' first|(refine gS ?_;simp only[go_sem,fT,hk,hk1,hi,hi1])|refine gA ?_|(refine gD (fun h=>?_) (fun h=>?_)<;>try exact aB h)|fail
 exact done (by simp only[go_sem]) (.refl _)
theorem bDQ{i:Nat}{n:Int}{x0 x1 x2 x3 x4 x5 x6 x7 x8 x9 x10 x11 x12 x13 x14 x15 x17:AV}{G:AHeap}(k:Nat)(hk:hget G k=.cells 0 [.ref i 0 0])(hi:hget G i=.cells 0 [x0,x1,x2,x3,x4,x5,x6,x7,x8,x9,x10,x11,x12,x13,x14,x15,.int .i64 n,x17])(s:Wch):cN Tryz.prog 137 [fT s,.ref k 0 0] G (.bool (decide (s.n=n))):=by
 refine aQ Tryz.func137 rfl (Nat.le_of_ble_eq_true rfl) ?_
 have hk1:=aZ hk trivial
 have hi1:=aZ hi trivial
 repeat' first|(refine gS ?_;simp only[go_sem,fT,hk,hk1,hi,hi1])|refine gA ?_|(refine gD (fun h=>?_) (fun h=>?_)<;>try exact aB h)|fail
 exact done (by simp only[go_sem]) (.refl _)
theorem bDR{i j:Nat}{c:Cal}{d:Dsk}{G:AHeap}(hb:KB i j c d G)(hs:DS d.m):aJ5 Tryz.prog 74 i j c (wA c d) G:=by
 refine pO Tryz.func74 rfl (Nat.le_of_ble_eq_true rfl) ?_
 have r0:=hb.b1;have r1:=aZ hb.b1 trivial;have r2:=aZ hb.b2 trivial;have hne:=hb.ne;have hl1:=hb.lt1;have hl2:=hb.lt2;have r3:=hb.r3;have r4:=hb.r4;have hnl:=aI G i;simp only[dkC]at r0 r1;have qs:=yN hl1 hl2 hne rfl
 have hA1:∀H,hget H G.length=.cells 0 [.ref i 0 0]→hget H i=.cells 0 (dkC j c d)→cN Tryz.prog 132 [.sl false (d.m.snaps.map gX),.func (.func 130) [] [.ref G.length 0 0]] H (.bool (d.m.snaps.any fun s=>decide (s.n=c.n))):=
  fun H h1 h2=>aJY false d.m.snaps (.func 130) [] [.ref G.length 0 0] (fun s=>decide (s.n=c.n)) H (fun s=>.mk (first:=[]) (fun L=>aDC G.length (aK h1 trivial L) (aK h2 trivial L) s) uZ)
 have hB1:∀H,hget H G.length=.cells 0 [.ref i 0 0]→hget H i=.cells 0 (dkC j c d)→cN Tryz.prog 133 [.sl false (d.m.watches.map fT),.func (.func 131) [] [.ref G.length 0 0]] H (.bool (d.m.watches.any fun s=>decide (s.n=c.n))):=
  fun H h1 h2=>aJZ false d.m.watches (.func 131) [] [.ref G.length 0 0] (fun s=>decide (s.n=c.n)) H (fun s=>.mk (first:=[]) (fun L=>aDD G.length (aK h1 trivial L) (aK h2 trivial L) s) vA)
 simp only[dkC]at hA1 hB1
 unfold wA
 have hgl:=hs.snaps
 have hgw:=hs.watches
 by_cases hno:(!(d.m.snaps.any fun s=>decide (s.n=c.n))&& !(d.m.watches.any fun w=>decide (w.n=c.n)))=true
 ·rw[if_pos hno]
  simp only[Bool.and_eq_true,Bool.not_eq_true']at hno
  rw[hno.1]at hA1
  rw[hno.2]at hB1
  repeat' first|((first|refine aV (hA1 _ (by simp only[go_sem,r0,r1,r2,r3,r4,hnl,qs,aI]) (by simp only[go_sem,r0,r1,r2,r3,r4,hnl,qs,aI])) iK ?_|refine aW (hA1 _ (by simp only[go_sem,r0,r1,r2,r3,r4,hnl,qs,aI]) (by simp only[go_sem,r0,r1,r2,r3,r4,hnl,qs,aI])) iK ?_|refine aX (fun _=>hA1 _ (by simp only[go_sem,r0,r1,r2,r3,r4,hnl,qs,aI]) (by simp only[go_sem,r0,r1,r2,r3,r4,hnl,qs,aI])) iK ?_|refine aV (hB1 _ (by simp only[go_sem,r0,r1,r2,r3,r4,hnl,qs,aI]) (by simp only[go_sem,r0,r1,r2,r3,r4,hnl,qs,aI])) iL ?_|refine aW (hB1 _ (by simp only[go_sem,r0,r1,r2,r3,r4,hnl,qs,aI]) (by simp only[go_sem,r0,r1,r2,r3,r4,hnl,qs,aI])) iL ?_|refine aX (fun _=>hB1 _ (by simp only[go_sem,r0,r1,r2,r3,r4,hnl,qs,aI]) (by simp only[go_sem,r0,r1,r2,r3,r4,hnl,qs,aI])) iL ?_|refine mx [5,6] kR ?_|refine gS ?_);simp only[go_sem,r0,r1,r2,r3,r4,hnl,qs,aI])|refine gA ?_|(refine gD (fun h=>?_) (fun h=>?_)<;>try exact aB h)|fail
  exact aDB hb rfl _
 rw[if_neg hno]
 obtain⟨A,hA⟩:∃A,d.m.snaps.any (fun s=>decide (s.n=c.n))=A:=⟨_,rfl⟩
 obtain⟨B,hB⟩:∃B,d.m.watches.any (fun s=>decide (s.n=c.n))=B:=⟨_,rfl⟩
 rw[hA,hB]at hno
 rw[hA]at hA1
 rw[hB]at hB1
 have fin:∀n:Nat,n=n:=fun _=>rfl
 have k1:¬i=G.length:=by omega
 cases A<;>cases B
 ·exact absurd rfl hno
 all_goals
  repeat' first|((first|refine aV (hA1 _ (by simp only[go_sem,r0,r1,r2,r3,r4,hnl,qs,aI]) (by simp only[go_sem,r0,r1,r2,r3,r4,hnl,qs,aI])) iK ?_|refine aW (hA1 _ (by simp only[go_sem,r0,r1,r2,r3,r4,hnl,qs,aI]) (by simp only[go_sem,r0,r1,r2,r3,r4,hnl,qs,aI])) iK ?_|refine aX (fun _=>hA1 _ (by simp only[go_sem,r0,r1,r2,r3,r4,hnl,qs,aI]) (by simp only[go_sem,r0,r1,r2,r3,r4,hnl,qs,aI])) iK ?_|refine aV (hB1 _ (by simp only[go_sem,r0,r1,r2,r3,r4,hnl,qs,aI]) (by simp only[go_sem,r0,r1,r2,r3,r4,hnl,qs,aI])) iL ?_|refine aW (hB1 _ (by simp only[go_sem,r0,r1,r2,r3,r4,hnl,qs,aI]) (by simp only[go_sem,r0,r1,r2,r3,r4,hnl,qs,aI])) iL ?_|refine aX (fun _=>hB1 _ (by simp only[go_sem,r0,r1,r2,r3,r4,hnl,qs,aI]) (by simp only[go_sem,r0,r1,r2,r3,r4,hnl,qs,aI])) iL ?_|refine mx [5,6] kR ?_|refine gS ?_);simp only[go_sem,r0,r1,r2,r3,r4,hnl,qs,aI])|refine gA ?_|(refine gD (fun h=>?_) (fun h=>?_)<;>try exact aB h)|fail
  refine lI (yL false d.m.snaps (by omega) _) uY ?_
  simp only[go_sem,r0,r1,r2,r3,r4,hnl,qs,aI]
  repeat' first|(refine gS ?_;simp only[go_sem,r0,r1,r2,r3,r4,hnl,qs,aI])|refine gA ?_|(refine gD (fun h=>?_) (fun h=>?_)<;>try exact aB h)|fail
  refine lI ((aJ2 d.m.snaps (fun s=>decide (s.n=c.n)) (G.length+1) 1 d.m.snaps.length d.m.snaps.length rfl (Nat.le_refl _) (by omega) (fun G'=>hget G' G.length=.cells 0 [.ref i 0 0]∧hget G' i=.cells 0 (dkC j c d)) (fun G' b h=>⟨bH h.1 (by omega) b,bH h.2 (by omega) b⟩) (fun G' L h=>⟨aK h.1 trivial L,aK h.2 trivial L⟩) _
   (fn:=.func 130) (fs:=[]) (cs:=[.ref G.length 0 0]) (by first|(simp only[go_sem,r0,r1,r2,r3,r4,hnl,qs,aI];done)|(simp only[go_sem,r0,r1,r2,r3,r4,hnl,qs,aI];rfl)) (fun s G' hg=>Or.inl ⟨uZ,aDC G.length hg.1 hg.2 s⟩) ⟨(by first|(simp only[go_sem,r0,r1,r2,r3,r4,hnl,qs,aI];done)|(simp only[go_sem,r0,r1,r2,r3,r4,hnl,qs,aI];rfl)),(by first|(simp only[go_sem,r0,r1,r2,r3,r4,hnl,qs,aI];done)|(simp only[go_sem,r0,r1,r2,r3,r4,hnl,qs,aI];rfl))⟩).trunc (by simp)) aBV ?_
  simp only[go_sem,r0,r1,r2,r3,r4,hnl,qs,aI]
  repeat' first|((first|refine mx [5,6] kR ?_|refine gS ?_);simp only[go_sem,r0,r1,r2,r3,r4,hnl,qs,aI])|refine gA ?_|(refine gD (fun h=>?_) (fun h=>?_)<;>try exact aB h)|fail
  refine lI (yM false d.m.watches (by omega) _) xY ?_
  simp only[go_sem,r0,r1,r2,r3,r4,hnl,qs,aI]
  repeat' first|(refine gS ?_;simp only[go_sem,r0,r1,r2,r3,r4,hnl,qs,aI])|refine gA ?_|(refine gD (fun h=>?_) (fun h=>?_)<;>try exact aB h)|fail
  refine lI ((aJ3 d.m.watches (fun s=>decide (s.n=c.n)) (G.length+2) 1 d.m.watches.length d.m.watches.length rfl (Nat.le_refl _) (by omega) (fun G'=>hget G' G.length=.cells 0 [.ref i 0 0]∧hget G' i=.cells 0 [.sl false (d.m.log.entries.map fR),.sl false (d.m.log.nodes.map ndA),.int .i64 d.m.seen,.int .i64 d.m.rep,.osl 2 (G.length+1) 1 0 (d.m.snaps.filter (fun s=> !decide (s.n=c.n))).length d.m.snaps.length,.sl false (d.m.watches.map fT),.int .i64 d.m.next,
  .int .i64 d.a.err,.str d.a.data,.sl false (d.a.names.map AV.str),.int .i64 d.a.n,.sl false (d.a.events.map kE),
  .int .i64 c.kind,.str c.path,.str c.to,.str c.data,.int .i64 c.n,.osl 7 j (d.ops.length+1) 0 d.ops.length d.ops.length]) (fun G' b h=>⟨bH h.1 (by omega) b,bH h.2 (by omega) b⟩) (fun G' L h=>⟨aK h.1 trivial L,aK h.2 trivial L⟩) _
   (fn:=.func 131) (fs:=[]) (cs:=[.ref G.length 0 0]) (by first|(simp only[go_sem,r0,r1,r2,r3,r4,hnl,qs,aI];done)|(simp only[go_sem,r0,r1,r2,r3,r4,hnl,qs,aI];rfl)) (fun s G' hg=>Or.inl ⟨vA,aDD G.length hg.1 hg.2 s⟩) ⟨(by first|(simp only[go_sem,r0,r1,r2,r3,r4,hnl,qs,aI];done)|(simp only[go_sem,r0,r1,r2,r3,r4,hnl,qs,aI];rfl)),(by first|(simp only[go_sem,r0,r1,r2,r3,r4,hnl,qs,aI];done)|(simp only[go_sem,r0,r1,r2,r3,r4,hnl,qs,aI];rfl))⟩).trunc (by simp[aI])) aBW ?_
   simp only[go_sem,r0,r1,r2,r3,r4,hnl,qs,aI]
   repeat' first|(refine gS ?_;simp only[go_sem,r0,r1,r2,r3,r4,hnl,qs,aI])|refine gA ?_|(refine gD (fun h=>?_) (fun h=>?_)<;>try exact aB h)|fail
   refine aAn hb rfl rfl rfl ?_
   unfold dkC
   repeat' first|exact iV|refine iY ?_ ?_|exact .cl _ (.int _ _)|exact .cl _ (.str _)|exact .cl _ (aAa _ _ _)|exact .cl _ (zZ _ _ _)|exact .cl _ (aAb _ _ _)|exact .cl _ (aAc _ _ _)|exact .cl _ (aAd _ _ _)|exact .cl _ (aAe _ _ _)|exact .cl _ (.osl _ _ _ _ _ _ hl2)
   ·exact aAm (by omega) (by first|(simp only[go_sem,r0,r1,r2,r3,r4,hnl,qs,aI];done)|(simp only[go_sem,r0,r1,r2,r3,r4,hnl,qs,aI];rfl)) rfl (fun _=>rfl) (fun x=>by simp only[go_sem])
   ·exact aAm (by omega) (by first|(simp only[go_sem,r0,r1,r2,r3,r4,hnl,qs,aI];done)|(simp only[go_sem,r0,r1,r2,r3,r4,hnl,qs,aI];rfl)) rfl (fun _=>rfl) (fun x=>by simp only[go_sem])
end Go.Proofs.YthhdnjiodklmmaaGreatDoor
/- diff.Of's closure, and slices.Backward of items. No condition but how many. -/
namespace Go.Proofs.YthhdnjiodklmmaaGreatDoor
open Go Go.Aw Go.Gw
set_option linter.unusedSimpArgs false
set_option linter.unusedVariables false
set_option maxRecDepth 20000
set_option maxHeartbeats 4000000
theorem bED(kind:Int)(path:Txt)(evs:List Evt)(u:Nat)(hl:evs.length≤4294967296)(G:AHeap)(hB:EB u evs G):
  ACalls Tryz.prog 39 [.int .i64 kind,.str path,.ref u 0 0] G (fun v G'=>v=.tup []∧G'=evH G u (evs++[⟨kind,path⟩])):=by
 refine gR Tryz.func39 rfl (Nat.le_of_ble_eq_true rfl) ?_
 have b0:=hB.b0
 have b1:=hB.b1
 have hlt:=hB.lt
 have r0:∀c,hget (aD G (u+1) c) u=_:=fun c=>bH b0 (by omega) c
 have hcs:(evC evs).length=evs.length * 2:=aDz _
 have hq1:(∀e,e=AV.agg [.int .i64 kind,.str path]→e.cells.length=2)=True:=eq_true (fun e he=>by rw[he];rfl)
 have hq2:((evs.length+1) * 24≤140737488355328)=True:=eq_true (by omega)
 have hsp:cT [AV.osl 2 (u+1) (evs.length+1) 0 evs.length evs.length] 0 [.osl 2 (u+1) (evs.length+2) 0 (evs.length+1) (evs.length+1)]=[.osl 2 (u+1) (evs.length+2) 0 (evs.length+1) (evs.length+1)]:=rfl
 have hput:aD (aD G (u+1) (.cells (evs.length+2) (evC evs++[.int .i64 kind,.str path]))) u (.cells 0 [.osl 2 (u+1) (evs.length+2) 0 (evs.length+1) (evs.length+1)])=evH G u (evs++[⟨kind,path⟩]):=by
  unfold evH
  rw[bDK,List.length_append]
  rfl
 repeat' first|(refine gS ?_;simp only[go_sem,b0,b1,r0,hcs,hq1,hq2,hsp])|refine gA ?_|(refine gD (fun h=>?_) (fun h=>?_)<;>try exact aB h)|fail
 rw[hput]
 exact⟨_,[],.tup [],(List.append_nil _).symm,by rw[aKv];exact Nat.le_refl _,by rw[aKv];exact bCo _ hlt,.cl _ (.tup _ fun _ _ hx=>by simp at hx),rfl,rfl⟩
theorem aKy(l:List Itm):∀e∈l.map itA,Pur e:=fun e he=>by obtain⟨x,_,rfl⟩:=List.mem_map.1 he;exact(by simp only[go_sem])
theorem aRy(k:Nat)(b:Bool)(l:List Itm):Cl k (.sl b (l.map itA)):=(Pur.sl b _ (aKy l)).cl k
theorem bDS(b:Bool)(l:List Itm)(H:AHeap):cN Tryz.prog 40 [.sl b (l.map itA)] H (.func (.func 81) [] [.cptr [.sl b (l.map itA)]]):=by
 refine aQ Tryz.func40 rfl (Nat.le_of_ble_eq_true rfl) ?_
 repeat' first|(refine gS ?_;simp only[go_sem])|refine gA ?_|(refine gD (fun h=>?_) (fun h=>?_)<;>try exact aB h)|fail
 refine⟨_,_,rfl,?_,rfl⟩
 refine .func _ _ _ _ _ rfl rfl iV (iY (tS (Nat.le_refl _) (by simp only[go_sem]) ?_) iV)
 simp only[List.mem_singleton,forall_eq];exact aRy _ _ _
theorem bCq(b:Bool)(l:List Itm)(y:Nat)(J:Nat→AHeap→Prop)(hY:∀i (h:i<l.length) G,J (i+1) G→AYield Tryz.prog y [.int .i64 i,itA l[i]] G (fun v G'=>v=.bool true∧J i G'))(hl:l.length≤4294967296)(H:AHeap)(h0:J l.length H):
  ACalls Tryz.prog 81 [.func (.yield y) [] [],.cptr [.sl b (l.map itA)]] H (fun _ G=>J 0 G):=by
 refine dI Tryz.func81 rfl (Nat.le_of_ble_eq_true rfl) ?_
 have hw:IntKind.i64.wrap ((l.length:Int)-1)=(l.length:Int)-1:=wrap_i64 (by omega) (by omega)
 repeat' first|(refine gS ?_;simp only[go_sem,hw])|refine gA ?_|(refine gD (fun h=>?_) (fun h=>?_)<;>try exact aB h)|fail
 refine aR (ι:=Int×AHeap) (fun s=>[(0,.func (.yield y) [] []),(1,.cptr [.sl b (l.map itA)]),(3,.int .i64 s.1)]) (fun s=>s.2) (fun s=>∃k:Nat,s.1=(k:Int)-1∧k≤l.length∧J k s.2) (fun s=>(s.1+1).toNat) ((l.length:Int)-1,H) ⟨l.length,rfl,Nat.le_refl _,h0⟩ ?_ rfl ?_
 ·simp[go_sem]
 rintro⟨v,G⟩ ⟨k,hv,hk,hJ⟩
 simp only at hv hk hJ ⊢
 cases k with
 |zero=>
  have hv':v= -1:=by omega
  subst hv'
  repeat' first|(refine gS ?_;simp only[go_sem])|refine gA ?_|(refine gD (fun h=>?_) (fun h=>?_)<;>try exact aB h)|fail
  exact hJ
 |succ i=>
  have hv':v=(i:Int):=by omega
  subst hv'
  have hgd:(l.map itA).getD i .top=itA l[i]:=by simp[show i<l.length from hk]
  have hge:decide (0≤(i:Int))=true:=decide_eq_true (by omega)
  have hw2:IntKind.i64.wrap ((i:Int)-1)=(i:Int)-1:=wrap_i64 (by omega) (by omega)
  have hy:=hY i hk G hJ
  repeat' first|(refine gS ?_;simp only[go_sem,hgd,hge,itA,hk])|refine gA ?_|(refine gD (fun h=>?_) (fun h=>?_)<;>try exact aB h)|fail
  refine mW hy ?_
  rintro v G' ⟨rfl,hJ'⟩
  simp only[go_sem]
  repeat' first|(refine gS ?_;simp only[go_sem,hw2])|refine gA ?_|(refine gD (fun h=>?_) (fun h=>?_)<;>try exact aB h)|fail
  exact⟨((i:Int)-1,G'),⟨i,rfl,by omega,hJ'⟩,by simp only;omega,rfl,rfl⟩
end Go.Proofs.YthhdnjiodklmmaaGreatDoor
/- diff.Of: what has changed between two views. No condition but how many and how long. -/
namespace Go.Gw
open Go Go.Aw Go.Proofs.YthhdnjiodklmmaaGreatDoor
structure DB (F:FuncId) (H:AHeap) (evs:List Evt) (l:List Itm) (G:AHeap):Prop where
 e:EB H.length evs G
 c:hget G (H.length+2)=.cells 0 [.func (.func F) [] [.ref H.length 0 0]]
 mc:hget G (H.length+4)=.cells 0 [.map (H.length+3)]
 pre:∃M,G=H++M
 m:∃es cl,hget G (H.length+3)=.map es cl∧ItM l es
theorem DB.app{F:FuncId}{H:AHeap}{evs:List Evt}{l:List Itm}{G:AHeap}(k:DB F H evs l G)(L:AHeap):DB F H evs l (G++L):=
 ⟨k.e.app L,aK k.c trivial L,aK k.mc trivial L,let⟨M,e⟩:=k.pre;⟨M++L,by rw[e,List.append_assoc]⟩,let⟨es,cl,e1,e2⟩:=k.m;⟨es,cl,aK e1 trivial L,e2⟩⟩
theorem DB.set{F:FuncId}{H:AHeap}{evs:List Evt}{l:List Itm}{G:AHeap}(k:DB F H evs l G){i:Nat}(hi:H.length+4<i)(X:ABlk):DB F H evs l (aD G i X):=
 ⟨k.e.set (by omega) X,bH k.c (by omega) X,bH k.mc (by omega) X,eE k.pre (by omega) X,let⟨es,cl,e1,e2⟩:=k.m;⟨es,cl,bH e1 (by omega) X,e2⟩⟩
theorem DB.setm{F:FuncId}{H:AHeap}{evs:List Evt}{l l':List Itm}{G:AHeap}(k:DB F H evs l G){es:List (AV×AV×Nat)}(he:ItM l' es)(cl:Nat):DB F H evs l' (aD G (H.length+3) (.map es cl)):=
 ⟨k.e.set (by omega) _,bH k.c (by omega) _,bH k.mc (by omega) _,eE k.pre (by omega) _,⟨es,cl,dD (by have:=bP k.mc trivial;omega) _,he⟩⟩
theorem DB.ev{F:FuncId}{H:AHeap}{evs:List Evt}{l:List Itm}{G:AHeap}(k:DB F H evs l G)(es:List Evt):DB F H es l (evH G H.length es):=
 ⟨EB.put k.e.lt es,aG5 es k.c (by omega) (by omega),aG5 es k.mc (by omega) (by omega),by unfold evH;exact eE (eE k.pre (by omega) _) (Nat.le_refl _) _,let⟨xs,cl,e1,e2⟩:=k.m;⟨xs,cl,aG5 es e1 (by omega) (by omega),e2⟩⟩
theorem aKz{l:List Itm}{i:Nat}(h:i<l.length):(l.map itA).getD i .top=itA l[i]:=by simp[h]
end Go.Gw
namespace Go.Proofs.YthhdnjiodklmmaaGreatDoor
open Go Go.Aw Go.Gw
set_option linter.unusedSimpArgs false
set_option linter.unusedVariables false
set_option maxRecDepth 20000
set_option maxHeartbeats 4000000
theorem aRz(b1 b2:Bool)(l1 l2:List Nd)(dir:Int)(hw1:Wfr l1)(hw2:Wfr l2)(hd:dirI dir=true)(hl1:l1.length≤1073741824)(hl2:l2.length≤1073741824)(hn1:SmN l1)(hn2:SmN l2)(H:AHeap):
  cN Tryz.prog 19 [.sl b1 (l1.map ndA),.sl b2 (l2.map ndA),.int .i64 dir] H (.sl false ((nY (dJ l1 dir) (dJ l2 dir)).map kE)):=by
 refine aQ Tryz.func19 rfl (Nat.le_of_ble_eq_true rfl) ?_
 have i1:=aDy b1 l1 dir hw1 hd hl1 hn1
 have i2:=aDy b2 l2 dir hw2 hd hl2 hn2
 obtain⟨was,hwas⟩:∃x,x=dJ l1 dir:=⟨_,rfl⟩
 obtain⟨is,his⟩:∃x,x=dJ l2 dir:=⟨_,rfl⟩
 have hlen:∀(l:List Nd),Wfr l→l.length≤1073741824→(dJ l dir).length≤1073741824:=fun l hw hl=>by
  unfold dJ
  split
  ·rename_i hc
   exact Nat.le_trans (bDB hc hw (bB4 l dir) dir [] hd) hl
  ·exact Nat.zero_le _
 have hlw:was.length≤1073741824:=by rw[hwas];exact hlen l1 hw1 hl1
 have hli:is.length≤1073741824:=by rw[his];exact hlen l2 hw2 hl2
 rw[←hwas]at i1 ⊢
 rw[←his]at i2 ⊢
 clear hwas his
 refine zR (ι:=Unit) (fun _=>[(0,.sl b1 (l1.map ndA)),(1,.sl b2 (l2.map ndA)),(2,.int .i64 dir)]) (fun _=>H) (fun _=>True) ?_ fun _ _=>?_
 ·repeat' first|(refine gS ?_;simp only[go_sem])|refine gA ?_|(refine gD (fun h=>?_) (fun h=>?_)<;>try exact aB h)|fail
  exact⟨(),trivial⟩
 refine zR (ι:=Unit) (fun _=>[(7,.sl false (was.map itA)),(8,.sl false (is.map itA))]) (fun _=>H) (fun _=>True) ?_ fun _ _=>?_
 ·have ct0:=ct i1 rR;have ct1:=ct i2 rR;repeat' first|((first|refine gK ?_|refine gS ?_);simp only[go_sem])|refine gA ?_|(refine gD (fun h=>?_) (fun h=>?_)<;>try exact aB h)|fail
  exact⟨(),trivial⟩
 refine zR (ι:=Unit) (fun _=>[(7,.sl false (was.map itA)),(8,.sl false (is.map itA)),(9,.ref H.length 0 0)]) (fun _=>H++[.cells 0 [.sl true []]]) (fun _=>True) ?_ fun _ _=>?_
 ·repeat' first|(refine gS ?_;simp only[go_sem])|refine gA ?_|(refine gD (fun h=>?_) (fun h=>?_)<;>try exact aB h)|fail
  exact⟨(),trivial⟩
 refine aA5 H.length 0 2 (by first|(simp only[go_sem];done)|(simp only[go_sem];rfl)) rfl ?_
 simp only[go_sem]
 repeat' first|(refine gS ?_;simp only[go_sem])|refine gA ?_|(refine gD (fun h=>?_) (fun h=>?_)<;>try exact aB h)|fail
 -- what is there now, by its path
 refine hQ (ι:=AHeap) (fun _=>[(7,.sl false (was.map itA)),(8,.sl false (is.map itA)),(9,.ref H.length 0 0),(10,.ref (H.length+2) 0 0),(11,.ref (H.length+4) 0 0)]) (fun G=>G) (fun G=>DB 39 H [] is G) ?_ fun G1 hD1=>?_
 ·refine aR (ι:=Nat×AHeap) (fun s=>[(7,.sl false (was.map itA)),(8,.sl false (is.map itA)),(9,.ref H.length 0 0),(10,.ref (H.length+2) 0 0),(11,.ref (H.length+4) 0 0),(36,.sl false (is.map itA)),(37,.int .i64 is.length),(38,.int .i64 s.1)]) (fun s=>s.2) (fun s=>s.1≤is.length∧DB 39 H [] (is.take s.1) s.2) (fun s=>is.length-s.1) (0,_) ⟨Nat.zero_le _,?_⟩ ?_ rfl ?_
  ·exact⟨⟨by first|(simp only[go_sem];done)|(simp only[go_sem];rfl),by first|(simp only[go_sem];done)|(simp only[go_sem];rfl)⟩,by simp only[go_sem],by simp only[go_sem],⟨_,rfl⟩,⟨[],0,by simp only[go_sem],itm_nil⟩⟩
  ·simp[go_sem]
  rintro⟨i,G⟩ ⟨hi,hD⟩
  simp only at hi hD ⊢
  by_cases hin:i<is.length
  ·obtain⟨es,cl,e1,he⟩:=hD.m
   have r3:=aZ e1 trivial
   have r4:=aZ hD.mc trivial
   have w3:=eZ e1 trivial
   have k1:keysIn .string es=True:=eq_true he.ki
   have hgd:=aKz hin
   have he2:=itm_put he is[i] cl
   rw[←List.take_succ_eq_append_getElem hin]at he2
   repeat' first|(refine gS ?_;simp only[go_sem,hin,hgd,itA,k1,r3,r4,w3])|refine gA ?_|(refine gD (fun h=>?_) (fun h=>?_)<;>try exact aB h)|fail
   exact⟨(i+1,_),⟨hin,(hD.setm he2 _).app _⟩,by simp only;omega,congrArg _ (bI hin (by omega)),rfl⟩
  ·have hie:i=is.length:=by omega
   rw[hie,List.take_length]at hD
   repeat' first|(refine gS ?_;simp only[go_sem,hin])|refine gA ?_|(refine gD (fun h=>?_) (fun h=>?_)<;>try exact aB h)|fail
   exact⟨G,hD,rfl⟩
 repeat' first|((first|refine cK (ct (bDS _ _) aXs) ?_|refine cP (ct (bDS _ _) aXs) ?_|refine cM (ct (bDS _ _) aXs) ?_|refine gS ?_);simp only[go_sem])|refine gA ?_|(refine gD (fun h=>?_) (fun h=>?_)<;>try exact aB h)|fail
 let E:Nat→List Evt:=fun k=>((was.drop k).reverse.filter (aDi is)).map fun t=>⟨1,t.path⟩
 have hEl:∀k,(E k).length≤was.length:=fun k=>by
  have h1:=List.length_filter_le (aDi is) (was.drop k).reverse
  simp only[E,List.length_map,List.length_reverse,List.length_drop]at h1 ⊢
  omega
 have hEs:∀i (h:i<was.length),E i=E (i+1)++if aDi is was[i]=true then[⟨1,was[i].path⟩]else[]:=fun i h=>by
  simp only[E]
  rw[List.drop_eq_getElem_cons h,List.reverse_cons,List.filter_append,List.map_append]
  congr 1
  by_cases hg:aDi is was[i]=true
  ·simp[hg]
  ·simp[hg]
 have hEe:E was.length=[]:=by simp[E]
 have hpl:H.length+4<G1.length:=bP hD1.mc trivial
 refine hQ (ι:=AHeap) (fun _=>[(7,.sl false (was.map itA)),(8,.sl false (is.map itA)),(9,.ref H.length 0 0),(10,.ref (H.length+2) 0 0),(11,.ref (H.length+4) 0 0)]) (fun G=>G) (fun G=>DB 39 H (E 0) is G) ?_ fun G2 hD2=>?_
 ·refine aF4 [(7,.sl false (was.map itA)),(8,.sl false (is.map itA)),(9,.ref H.length 0 0),(10,.ref (H.length+2) 0 0),(11,.ref (H.length+4) 0 0),(48,.func (.func 81) [] [.cptr [.sl false (was.map itA)]])] (by simp[go_sem]) ?_
  refine qH rfl aXY fun y LB hLB=>?_
  have hLv:LB.live:=by rw[hLB];trivial
  refine(bCq false was y (fun k G=>DB 39 H (E k) is G∧hget G G1.length=LB) (fun i h G hJ=>?_) (by omega) _ ⟨by rw[hEe];exact hD1.app _,iF G1 _⟩).mono fun _ H' h=>?_
  ·obtain⟨hD,hLg⟩:=hJ
   refine yB hLg hLB rfl rfl rfl rfl fun BB fin hBB hlB hf1 hf2=>?_
   have f3:=aZ hLg hLv
   have g3:=eZ hLg hLv
   simp only[vK]
   refine lB rfl ?_
   simp only[go_sem,f3,g3,itA]
   have hown:∀X,aD (aD G G1.length X) G1.length LB=G:=fun X=>by rw[dR,hP hLg hLv]
   obtain⟨G3,hG3⟩:∃G3,aD G G1.length BB=G3:=⟨_,rfl⟩
   have hl3:=bP hLg hLv
   have hlen:G.length=G3.length:=by rw[←hG3];simp[aD]
   have hD3:DB 39 H (E (i+1)) is G3:=by rw[←hG3];exact hD.set hpl BB
   have a3:hget G3 G1.length=BB:=by rw[←hG3];exact dD hl3 BB
   rw[hG3,hlen]
   clear hLB hBB hf2
   obtain⟨es,cl,e1,he⟩:=hD3.m
   have p3:=aZ a3 hlB
   have r3:=aZ e1 trivial
   have r4:=aZ hD3.mc trivial
   have rc:=aZ hD3.c trivial
   have k1:keysIn .string es=True:=eq_true he.ki
   have hsz:=hEl (i+1)
   have hyes:aDi is was[i]=true→∀Y,lS G1.length BB fin G3 (fun v G'=>v=.bool true∧DB 39 H (E i) is G'∧hget G' G1.length=LB) true none (evH (G3++Y) H.length (E (i+1)++[⟨1,was[i].path⟩])):=fun hg Y=>by
    rw[evH_app hD3.e.lt]
    refine⟨aK (aG5 _ a3 (by omega) (by omega)) hlB _,_,Y,rfl,aKv _ _ _,bCo _ (by omega),rfl,?_,?_⟩
    ·rw[hEs i h,if_pos hg,hf1]
     exact(hD3.ev _).set hpl _
    ·rw[hf1]
     exact dD (by rw[aKv,←hlen];exact hl3) _
   have hno:aDi is was[i]=false→∀Y,lS G1.length BB fin G3 (fun v G'=>v=.bool true∧DB 39 H (E i) is G'∧hget G' G1.length=LB) true none (G3++Y):=fun hg Y=>by
    refine⟨p3 _,G3,Y,rfl,rfl,fun _ _ h=>.inl h,rfl,?_,?_⟩
    ·rw[hEs i h,if_neg (by rw[hg];simp),List.append_nil,hf1]
     exact hD3.set hpl _
    ·rw[hf1]
     exact dD (by rw[←hlen];exact hl3) _
   cases hk:lookI was[i].path is with
   |none=>
    have hkn:=he.no hk
    have hg:aDi is was[i]=true:=by unfold aDi;rw[hk]
    repeat' first|(refine gS ?_;simp only[go_sem,hkn,k1,r3,r4,rc,p3])|refine gA ?_|(refine gD (fun h=>?_) (fun h=>?_)<;>try exact aB h)|fail
    refine kH (bED 1 was[i].path (E (i+1)) H.length (by omega) _ (hD3.e.app _)) aXr ?_
    rintro v H' ⟨rfl,rfl⟩
    simp only[go_sem]
    repeat' first|(refine gS ?_;simp only[go_sem])|refine gA ?_|(refine gD (fun h=>?_) (fun h=>?_)<;>try exact aB h)|fail
    exact hyes hg _
   |some x=>
    obtain⟨j,hkn⟩:=he.yes hk
    by_cases hx:x.id=was[i].id
    ·have hg:aDi is was[i]=false:=by unfold aDi;rw[hk];simp[hx]
     repeat' first|(refine gS ?_;simp only[go_sem,hkn,k1,r3,r4,rc,p3,itA,hx])|refine gA ?_|(refine gD (fun h=>?_) (fun h=>?_)<;>try exact aB h)|fail
     exact hno hg _
    ·have hg:aDi is was[i]=true:=by unfold aDi;rw[hk];simp[hx]
     repeat' first|(refine gS ?_;simp only[go_sem,hkn,k1,r3,r4,rc,p3,itA,hx])|refine gA ?_|(refine gD (fun h=>?_) (fun h=>?_)<;>try exact aB h)|fail
     refine kH (bED 1 was[i].path (E (i+1)) H.length (by omega) _ (hD3.e.app _)) aXr ?_
     rintro v H' ⟨rfl,rfl⟩
     simp only[go_sem]
     repeat' first|(refine gS ?_;simp only[go_sem])|refine gA ?_|(refine gD (fun h=>?_) (fun h=>?_)<;>try exact aB h)|fail
     exact hyes hg _
  ·refine .inl ⟨.ready,by simp,h.2.trans hLB,fun X=>?_⟩
   exact⟨_,h.1.set (by omega) X,by simp[go_sem],rfl⟩
 obtain⟨m1,m2,m3,m4⟩:=hD2.m
 have m5:=hD2.mc
 repeat' first|(refine gS ?_;simp only[go_sem,m3,m5])|refine gA ?_|(refine gD (fun h=>?_) (fun h=>?_)<;>try exact aB h)|fail
 have hD2':DB 39 H (E 0) [] (aD G2 (H.length+3) (.map [] m2)):=hD2.setm itm_nil m2
 generalize aD G2 (H.length+3) (.map [] m2)=G2' at *
 clear hD2 m3 m5 m4
 -- what was there, by its path
 refine hQ (ι:=AHeap) (fun _=>[(7,.sl false (was.map itA)),(8,.sl false (is.map itA)),(9,.ref H.length 0 0),(10,.ref (H.length+2) 0 0),(11,.ref (H.length+4) 0 0)]) (fun G=>G) (fun G=>DB 39 H (E 0) was G) ?_ fun G4 hD4=>?_
 ·refine aR (ι:=Nat×AHeap) (fun s=>[(7,.sl false (was.map itA)),(8,.sl false (is.map itA)),(9,.ref H.length 0 0),(10,.ref (H.length+2) 0 0),(11,.ref (H.length+4) 0 0),(72,.sl false (was.map itA)),(73,.int .i64 was.length),(74,.int .i64 s.1)]) (fun s=>s.2) (fun s=>s.1≤was.length∧DB 39 H (E 0) (was.take s.1) s.2) (fun s=>was.length-s.1) (0,_) ⟨Nat.zero_le _,hD2'⟩ ?_ rfl ?_
  ·simp[go_sem]
  rintro⟨i,G⟩ ⟨hi,hD⟩
  simp only at hi hD ⊢
  by_cases hin:i<was.length
  ·obtain⟨es,cl,e1,he⟩:=hD.m
   have r3:=aZ e1 trivial
   have r4:=aZ hD.mc trivial
   have w3:=eZ e1 trivial
   have k1:keysIn .string es=True:=eq_true he.ki
   have hgd:=aKz hin
   have he2:=itm_put he was[i] cl
   rw[←List.take_succ_eq_append_getElem hin]at he2
   repeat' first|(refine gS ?_;simp only[go_sem,hin,hgd,itA,k1,r3,r4,w3])|refine gA ?_|(refine gD (fun h=>?_) (fun h=>?_)<;>try exact aB h)|fail
   exact⟨(i+1,_),⟨hin,(hD.setm he2 _).app _⟩,by simp only;omega,congrArg _ (bI hin (by omega)),rfl⟩
  ·have hie:i=was.length:=by omega
   rw[hie,List.take_length]at hD
   repeat' first|(refine gS ?_;simp only[go_sem,hin])|refine gA ?_|(refine gD (fun h=>?_) (fun h=>?_)<;>try exact aB h)|fail
   exact⟨G,hD,rfl⟩
 repeat' first|(refine gS ?_;simp only[go_sem])|refine gA ?_|(refine gD (fun h=>?_) (fun h=>?_)<;>try exact aB h)|fail
 -- what came
 let E2:Nat→List Evt:=fun k=>E 0++((is.take k).filter (aDi was)).map fun t=>⟨2,t.path⟩
 have hE2l:∀k,(E2 k).length≤was.length+is.length:=fun k=>by
  have h1:=List.length_filter_le (aDi was) (is.take k)
  have h2:=hEl 0
  simp only[E2,List.length_append,List.length_map,List.length_take]at h1 ⊢
  omega
 have hE2s:∀i (h:i<is.length),E2 (i+1)=E2 i++if aDi was is[i]=true then[⟨2,is[i].path⟩]else[]:=fun i h=>by
  simp only[E2]
  rw[List.take_succ_eq_append_getElem h,List.filter_append,List.map_append,List.append_assoc]
  congr 2
  by_cases hg:aDi was is[i]=true
  ·simp[hg]
  ·simp[hg]
 have hE20:E2 0=E 0:=by simp[E2]
 refine hQ (ι:=AHeap) (fun _=>[(7,.sl false (was.map itA)),(8,.sl false (is.map itA)),(9,.ref H.length 0 0),(10,.ref (H.length+2) 0 0),(11,.ref (H.length+4) 0 0)]) (fun G=>G) (fun G=>DB 39 H (E2 is.length) was G) ?_ fun G5 hD5=>?_
 ·refine aR (ι:=Nat×AHeap) (fun s=>[(7,.sl false (was.map itA)),(8,.sl false (is.map itA)),(9,.ref H.length 0 0),(10,.ref (H.length+2) 0 0),(11,.ref (H.length+4) 0 0),(83,.sl false (is.map itA)),(84,.int .i64 is.length),(85,.int .i64 s.1)]) (fun s=>s.2) (fun s=>s.1≤is.length∧DB 39 H (E2 s.1) was s.2) (fun s=>is.length-s.1) (0,_) ⟨Nat.zero_le _,by rw[hE20];exact hD4⟩ ?_ rfl ?_
  ·simp[go_sem]
  rintro⟨i,G⟩ ⟨hi,hD⟩
  simp only at hi hD ⊢
  by_cases hin:i<is.length
  ·obtain⟨es,cl,e1,he⟩:=hD.m
   have r3:=aZ e1 trivial
   have r4:=aZ hD.mc trivial
   have rc:=aZ hD.c trivial
   have k1:keysIn .string es=True:=eq_true he.ki
   have hgd:=aKz hin
   have hsz:=hE2l i
   have hstp:=hE2s i hin
   have hms:is.length-(i+1)<is.length-i:=by omega
   cases hk:lookI is[i].path was with
   |none=>
    have hkn:=he.no hk
    have hg:aDi was is[i]=true:=by unfold aDi;rw[hk]
    rw[if_pos hg]at hstp
    repeat' first|(refine gS ?_;simp only[go_sem,hin,hgd,hkn,k1,r3,r4,rc,itA])|refine gA ?_|(refine gD (fun h=>?_) (fun h=>?_)<;>try exact aB h)|fail
    refine kH (bED 2 is[i].path (E2 i) H.length (by omega) _ (hD.e.app _)) aXr ?_
    rintro v H' ⟨rfl,rfl⟩
    simp only[go_sem]
    repeat' first|(refine gS ?_;simp only[go_sem])|refine gA ?_|(refine gD (fun h=>?_) (fun h=>?_)<;>try exact aB h)|fail
    exact⟨(i+1,_),⟨hin,by rw[hstp];exact(hD.app _).ev _⟩,hms,congrArg _ (bI hin (by omega)),rfl⟩
   |some x=>
    obtain⟨j,hkn⟩:=he.yes hk
    by_cases hx:x.id=is[i].id
    ·have hg:aDi was is[i]=false:=by unfold aDi;rw[hk];simp[hx]
     rw[if_neg (by rw[hg];simp),List.append_nil]at hstp
     repeat' first|(refine gS ?_;simp only[go_sem,hin,hgd,hkn,k1,r3,r4,rc,itA,hx])|refine gA ?_|(refine gD (fun h=>?_) (fun h=>?_)<;>try exact aB h)|fail
     exact⟨(i+1,_),⟨hin,by rw[hstp];exact hD.app _⟩,hms,congrArg _ (bI hin (by omega)),rfl⟩
    ·have hg:aDi was is[i]=true:=by unfold aDi;rw[hk];simp[hx]
     rw[if_pos hg]at hstp
     repeat' first|(refine gS ?_;simp only[go_sem,hin,hgd,hkn,k1,r3,r4,rc,itA,hx])|refine gA ?_|(refine gD (fun h=>?_) (fun h=>?_)<;>try exact aB h)|fail
     refine kH (bED 2 is[i].path (E2 i) H.length (by omega) _ (hD.e.app _)) aXr ?_
     rintro v H' ⟨rfl,rfl⟩
     simp only[go_sem]
     repeat' first|(refine gS ?_;simp only[go_sem])|refine gA ?_|(refine gD (fun h=>?_) (fun h=>?_)<;>try exact aB h)|fail
     exact⟨(i+1,_),⟨hin,by rw[hstp];exact(hD.app _).ev _⟩,hms,congrArg _ (bI hin (by omega)),rfl⟩
  ·have hie:i=is.length:=by omega
   rw[hie]at hD
   repeat' first|(refine gS ?_;simp only[go_sem,hin])|refine gA ?_|(refine gD (fun h=>?_) (fun h=>?_)<;>try exact aB h)|fail
   exact⟨G,hD,rfl⟩
 repeat' first|(refine gS ?_;simp only[go_sem])|refine gA ?_|(refine gD (fun h=>?_) (fun h=>?_)<;>try exact aB h)|fail
 -- what was written
 let E3:Nat→List Evt:=fun k=>E2 is.length++((is.take k).filter (aCy was)).map fun t=>⟨3,t.path⟩
 have hE3l:∀k,(E3 k).length≤was.length+2 * is.length:=fun k=>by
  have h1:=List.length_filter_le (aCy was) (is.take k)
  have h2:=hE2l is.length
  have h3:(E3 k).length=(E2 is.length).length+((is.take k).filter (aCy was)).length:=by simp only[E3,List.length_append,List.length_map]
  rw[List.length_take]at h1
  omega
 have hE3s:∀i (h:i<is.length),E3 (i+1)=E3 i++if aCy was is[i]=true then[⟨3,is[i].path⟩]else[]:=fun i h=>by
  show E2 is.length++(((is.take (i+1)).filter (aCy was)).map fun t=>(⟨3,t.path⟩:Evt))=(E2 is.length++((is.take i).filter (aCy was)).map fun t=>(⟨3,t.path⟩:Evt))++_
  generalize E2 is.length=z
  rw[List.take_succ_eq_append_getElem h,List.filter_append,List.map_append,←List.append_assoc]
  congr 1
  by_cases hg:aCy was is[i]=true
  ·simp[hg]
  ·simp[hg]
 have hE30:E3 0=E2 is.length:=by simp[E3]
 refine hQ (ι:=AHeap) (fun _=>[(7,.sl false (was.map itA)),(8,.sl false (is.map itA)),(9,.ref H.length 0 0),(10,.ref (H.length+2) 0 0),(11,.ref (H.length+4) 0 0)]) (fun G=>G) (fun G=>DB 39 H (E3 is.length) was G) ?_ fun G6 hD6=>?_
 ·refine aR (ι:=Nat×AHeap) (fun s=>[(7,.sl false (was.map itA)),(8,.sl false (is.map itA)),(9,.ref H.length 0 0),(10,.ref (H.length+2) 0 0),(11,.ref (H.length+4) 0 0),(110,.sl false (is.map itA)),(111,.int .i64 is.length),(112,.int .i64 s.1)]) (fun s=>s.2) (fun s=>s.1≤is.length∧DB 39 H (E3 s.1) was s.2) (fun s=>is.length-s.1) (0,_) ⟨Nat.zero_le _,by rw[hE30];exact hD5⟩ ?_ rfl ?_
  ·simp[go_sem]
  rintro⟨i,G⟩ ⟨hi,hD⟩
  simp only at hi hD ⊢
  by_cases hin:i<is.length
  ·obtain⟨es,cl,e1,he⟩:=hD.m
   have r3:=aZ e1 trivial
   have r4:=aZ hD.mc trivial
   have rc:=aZ hD.c trivial
   have k1:keysIn .string es=True:=eq_true he.ki
   have hgd:=aKz hin
   have hsz:=hE3l i
   have hstp:=hE3s i hin
   have hms:is.length-(i+1)<is.length-i:=by omega
   cases hk:lookI is[i].path was with
   |none=>
    have hkn:=he.no hk
    have hg:aCy was is[i]=false:=by unfold aCy;rw[hk]
    rw[if_neg (by rw[hg];simp),List.append_nil]at hstp
    repeat' first|(refine gS ?_;simp only[go_sem,hin,hgd,hkn,k1,r3,r4,rc,itA])|refine gA ?_|(refine gD (fun h=>?_) (fun h=>?_)<;>try exact aB h)|fail
    exact⟨(i+1,_),⟨hin,by rw[hstp];exact hD.app _⟩,hms,congrArg _ (bI hin (by omega)),rfl⟩
   |some x=>
    obtain⟨j,hkn⟩:=he.yes hk
    by_cases hx:x.id=is[i].id
    ·by_cases hy:x.data=is[i].data
     ·have hg:aCy was is[i]=false:=by unfold aCy;rw[hk];simp[hx,hy]
      rw[if_neg (by rw[hg];simp),List.append_nil]at hstp
      repeat' first|(refine gS ?_;simp only[go_sem,hin,hgd,hkn,k1,r3,r4,rc,itA,hx,hy])|refine gA ?_|(refine gD (fun h=>?_) (fun h=>?_)<;>try exact aB h)|fail
      exact⟨(i+1,_),⟨hin,by rw[hstp];exact hD.app _⟩,hms,congrArg _ (bI hin (by omega)),rfl⟩
     ·have hg:aCy was is[i]=true:=by unfold aCy;rw[hk];simp[hx,hy]
      rw[if_pos hg]at hstp
      repeat' first|(refine gS ?_;simp only[go_sem,hin,hgd,hkn,k1,r3,r4,rc,itA,hx,hy])|refine gA ?_|(refine gD (fun h=>?_) (fun h=>?_)<;>try exact aB h)|fail
      refine kH (bED 3 is[i].path (E3 i) H.length (by omega) _ (hD.e.app _)) aXr ?_
      rintro v H' ⟨rfl,rfl⟩
      simp only[go_sem]
      repeat' first|(refine gS ?_;simp only[go_sem])|refine gA ?_|(refine gD (fun h=>?_) (fun h=>?_)<;>try exact aB h)|fail
      exact⟨(i+1,_),⟨hin,by rw[hstp];exact(hD.app _).ev _⟩,hms,congrArg _ (bI hin (by omega)),rfl⟩
    ·have hg:aCy was is[i]=false:=by unfold aCy;rw[hk];simp[hx]
     rw[if_neg (by rw[hg];simp),List.append_nil]at hstp
     repeat' first|(refine gS ?_;simp only[go_sem,hin,hgd,hkn,k1,r3,r4,rc,itA,hx])|refine gA ?_|(refine gD (fun h=>?_) (fun h=>?_)<;>try exact aB h)|fail
     exact⟨(i+1,_),⟨hin,by rw[hstp];exact hD.app _⟩,hms,congrArg _ (bI hin (by omega)),rfl⟩
  ·have hie:i=is.length:=by omega
   rw[hie]at hD
   repeat' first|(refine gS ?_;simp only[go_sem,hin])|refine gA ?_|(refine gD (fun h=>?_) (fun h=>?_)<;>try exact aB h)|fail
   exact⟨G,hD,rfl⟩
 have b0:=hD6.e.b0
 have b1:=hD6.e.b1
 repeat' first|(refine gS ?_;simp only[go_sem,b0])|refine gA ?_|(refine gD (fun h=>?_) (fun h=>?_)<;>try exact aB h)|fail
 obtain⟨L,hL⟩:=hD6.pre
 have hfin:E3 is.length=nY was is:=by
  simp only[E3,E2,E,List.take_length,List.drop_zero]
  rfl
 rw[hL]at b1 ⊢
 rw[hfin]at b1 ⊢
 exact iU (cs:=evC (nY was is)) (es:=(nY was is).map kE) (rest:=[]) (by omega) b1 (by rw[List.append_nil];rfl) (by simp) (fun e he=>by obtain⟨x,_,rfl⟩:=List.mem_map.1 he;rfl) (fun e he=>by obtain⟨x,_,rfl⟩:=List.mem_map.1 he;exact(by simp only[go_sem])) rfl
end Go.Proofs.YthhdnjiodklmmaaGreatDoor
/- What is done at the desk of a call that polls, and what all who watch are told. No condition but what is known of a replica. -/
namespace Go.Gw
open Go Go.Aw Go.Proofs.YthhdnjiodklmmaaGreatDoor
theorem find_split{α:Type}{p:α→Bool}{A B:List α}{x:α}(hA:A.filter (fun x=> !p x)=A)(hx:p x=true):(A++x::B).find? p=some x:=by
 rw[List.find?_append]
 have:A.find? p=none:=by
  rw[List.find?_eq_none]
  intro a ha
  rw[←hA]at ha
  have:=(List.mem_filter.1 ha).2
  simpa using this
 rw[this]
 simp[hx]
theorem empty_split{n:Int}{A B:List Wch}{w:Wch}(hA:A.filter (fun x=> !decide (x.n=n))=A)(hx:w.n=n):emptyW n (A++w::B)=A++{w with evs:=[]}::B:=by
 induction A with
 |nil=>simp[emptyW,hx]
 |cons a A ih=>
  have hne:a.n≠n:=by
   have ha:a∈(a::A).filter (fun x=> !decide (x.n=n)):=by rw[hA];simp
   simpa using(List.mem_filter.1 ha).2
  rw[List.cons_append,emptyW,if_neg hne,ih]
  ·rfl
  ·rw[List.filter_cons,if_pos (by simp[hne])]at hA
   exact(List.cons.inj hA).2
theorem idx_none{α:Type}{p:α→Bool}{l:List α}(h:gJ p l= -1):l.find? p=none:=by
 rw[List.find?_eq_none]
 intro x hx
 rw[←mC h]at hx
 have:=(List.mem_filter.1 hx).2
 simpa using this
end Go.Gw
namespace Go.Proofs.YthhdnjiodklmmaaGreatDoor
open Go Go.Aw Go.Gw
set_option linter.unusedSimpArgs false
set_option linter.unusedVariables false
set_option maxRecDepth 20000
set_option maxHeartbeats 4000000
def plGwDesk4_0:List Pl:=[.pure 0,.pure 0,.pure 0,.pure 0,.pure 0,.pure 0,.eff [false,true,true,true,true,true],.pure 0,.pure 0,.pure 0,.eff [false,true,true,false,false,false,false,false]]
def plGwDesk4_1:List Pl:=[.free,.pure 0,.free,.pure 0,.pure 0,.pure 0,.free,.pure 0,.pure 0,.pure 0,.pure 0,.pure 0,.pure 0,.free,.free,.free,.pure 0,.pure 0,.eff [false,true,false,false,false,false,false,false,false,false,false,true],.pure 0,.pure 0,.pure 0,.eff [false,true,true,false,false]]
def plGwDesk4_2:List Pl:=[.free,.free,.pure 0,.pure 0,.pure 0,.free,.free,.pure 0,.pure 0,.pure 0,.pure 0,.pure 0,.free,.pure 0,.pure 0,.pure 0,.pure 0,.pure 0,.pure 0,.pure 0,.eff [false,true,false,false,false,false,false,false,false,false,false,false,false,false,false]]
attribute [go_sem] plGwDesk4_0 plGwDesk4_1 plGwDesk4_2
theorem dpoll_c{i j:Nat}{c:Cal}{d:Dsk}{G:AHeap}(hb:KB i j c d G)(hs:DS d.m):aJ5 Tryz.prog 76 i j c (aA4 c d) G:=by
 refine pO Tryz.func76 rfl (Nat.le_of_ble_eq_true rfl) ?_
 have r0:=hb.b1;have r1:=aZ hb.b1 trivial;have r2:=aZ hb.b2 trivial;have hne:=hb.ne;have hl1:=hb.lt1;have hl2:=hb.lt2;have r3:=hb.r3;have r4:=hb.r4;have hnl:=aI G i;simp only[dkC]at r0 r1;have qs:=yN hl1 hl2 hne rfl
 have hA1:∀H,hget H G.length=.cells 0 [.ref i 0 0]→hget H i=.cells 0 (dkC j c d)→cN Tryz.prog 136 [.sl false (d.m.watches.map fT),.func (.func 137) [] [.ref G.length 0 0]] H (.int .i64 (gJ (fun s=>decide (s.n=c.n)) d.m.watches)):=
  fun H h1 h2=>aA8 false d.m.watches (.func 137) [] [.ref G.length 0 0] (fun s=>decide (s.n=c.n)) H (fun s=>.mk (first:=[]) (fun L=>bDQ G.length (aK h1 trivial L) (aK h2 trivial L) s) aPW)
 simp only[dkC]at hA1
 have k1:¬i=G.length:=by omega
 unfold aA4
 have hgw:=hs.watches
 by_cases h1:gJ (fun s:Wch=>decide (s.n=c.n)) d.m.watches= -1
 ·rw[h1]at hA1
  rw[idx_none h1]
  repeat' first|((first|refine aV (hA1 _ (by simp only[go_sem,r0,r1,r2,r3,r4,hnl,qs,aI,Int.reduceLT]) (by simp only[go_sem,r0,r1,r2,r3,r4,hnl,qs,aI,Int.reduceLT])) eO ?_|refine aW (hA1 _ (by simp only[go_sem,r0,r1,r2,r3,r4,hnl,qs,aI,Int.reduceLT]) (by simp only[go_sem,r0,r1,r2,r3,r4,hnl,qs,aI,Int.reduceLT])) eO ?_|refine aX (fun _=>hA1 _ (by simp only[go_sem,r0,r1,r2,r3,r4,hnl,qs,aI,Int.reduceLT]) (by simp only[go_sem,r0,r1,r2,r3,r4,hnl,qs,aI,Int.reduceLT])) eO ?_|refine gS ?_);simp only[go_sem,r0,r1,r2,r3,r4,hnl,qs,aI,Int.reduceLT])|refine gA ?_|(refine gD (fun h=>?_) (fun h=>?_)<;>try exact aB h)|fail
  exact aDB hb rfl _
 obtain⟨A,w,B,e1,e2,e3,e4⟩:=wE h1
 rw[e2]at hA1
 have hw:w.n=c.n:=by simpa using e3
 have hws:d.m.watches.find? (fun s=>decide (s.n=c.n))=some w:=by rw[e1];exact find_split e4 e3
 rw[hws]
 simp only
 have hem:emptyW c.n d.m.watches=A++{w with evs:=[]}::B:=by rw[e1];exact empty_split e4 hw
 rw[hem]
 have hle:w.evs.length≤1000000:=hs.evs w (by rw[e1];simp)
 have hlen:d.m.watches.length=A.length+(B.length+1):=by rw[e1];simp
 have d1:decide (((A.length:Nat):Int)<0)=false:=decide_eq_false (by omega)
 repeat' first|((first|refine aV (hA1 _ (by simp only[go_sem,r0,r1,r2,r3,r4,hnl,qs,aI,d1]) (by simp only[go_sem,r0,r1,r2,r3,r4,hnl,qs,aI,d1])) eO ?_|refine aW (hA1 _ (by simp only[go_sem,r0,r1,r2,r3,r4,hnl,qs,aI,d1]) (by simp only[go_sem,r0,r1,r2,r3,r4,hnl,qs,aI,d1])) eO ?_|refine aX (fun _=>hA1 _ (by simp only[go_sem,r0,r1,r2,r3,r4,hnl,qs,aI,d1]) (by simp only[go_sem,r0,r1,r2,r3,r4,hnl,qs,aI,d1])) eO ?_|refine mx [4] plGwDesk4_0 ?_|refine mx [6] plGwDesk4_1 ?_|refine gS ?_);simp only[go_sem,r0,r1,r2,r3,r4,hnl,qs,aI,d1])|refine gA ?_|(refine gD (fun h=>?_) (fun h=>?_)<;>try exact aB h)|fail
 refine lI (yM false d.m.watches (by omega) _) xY ?_
 simp only[go_sem,r0,r1,r2,r3,r4,hnl,qs,aI]
 have hlA:=gB (enc:=fT) (s:=4) (fun _=>rfl) A
 have hfl:flA fT d.m.watches=flA fT A++(.int .i64 w.n::.int .i64 w.dir::.sl false (w.evs.map kE)::.bool w.over::flA fT B):=by rw[e1,iW,mZ];rfl
 have hdr:List.drop (A.length * 4+2) (flA fT d.m.watches)=.sl false (w.evs.map kE)::.bool w.over::flA fT B:=by
  rw[hfl,←hlA,List.drop_append]
  simp
 have hp1:List.take 2 (List.drop (A.length * 4+2) (flA fT d.m.watches))=[.sl false (w.evs.map kE),.bool w.over]:=by rw[hdr];rfl
 have hp2:(flA fT d.m.watches).getD (A.length * 4+2) .top=.sl false (w.evs.map kE):=by
  rw[List.getD_eq_getElem?_getD,←List.head?_drop,hdr];rfl
 have hfn:(flA fT d.m.watches).length=(A.length+(B.length+1)) * 4:=by rw[gB (s:=4) (fun _=>rfl),hlen]
 have hwt:=bDN false w.over w.evs (w.evs.length:Int) (by omega)
 simp only[Int.toNat_natCast,Nat.min_self,List.drop_length,List.take_length,List.map_nil]at hwt
 have hsp:cT (flA fT d.m.watches) (A.length * 4+2) [.sl false [],.bool w.over]=flA fT (A++{w with evs:=[]}::B):=by
  have e:=gL (A:=flA fT A++[.int .i64 w.n,.int .i64 w.dir]) (B:=.sl false (w.evs.map kE)::.bool w.over::flA fT B) (off:=A.length * 4+2) (X:=[.sl false [],.bool w.over]) (by simp[hlA])
  rw[hfl]
  rw[show flA fT A++[AV.int .i64 w.n,.int .i64 w.dir]++(.sl false (w.evs.map kE)::.bool w.over::flA fT B)=flA fT A++(.int .i64 w.n::.int .i64 w.dir::.sl false (w.evs.map kE)::.bool w.over::flA fT B)by simp]at e
  rw[e,iW,mZ]
  simp[fT,AV.cells]
 repeat' first|((first|refine aV (hwt _) aPX ?_|refine aW (hwt _) aPX ?_|refine aX (fun _=>hwt _) aPX ?_|refine mx [4] plGwDesk4_0 ?_|refine mx [6] plGwDesk4_1 ?_|refine gS ?_);simp only[go_sem,r0,r1,r2,r3,r4,hnl,qs,aI,hlen,hp1,hp2,hfn,hsp])|((with_reducible refine And.intro ?_ ?_);focus (exact aO (hwt _) aPX))|((with_reducible refine And.intro (And.intro ?_ ?_) ?_);focus (exact aO (hwt _) aPX))|(exact aO (hwt _) aPX)|refine gA ?_|(refine gD (fun h=>?_) (fun h=>?_)<;>try exact aB h)|fail
 refine aAn hb rfl rfl rfl ?_
 unfold dkC
 repeat' first|exact iV|refine iY ?_ ?_|exact .cl _ (.int _ _)|exact .cl _ (.str _)|exact .cl _ (aAa _ _ _)|exact .cl _ (zZ _ _ _)|exact .cl _ (aAb _ _ _)|exact .cl _ (aAc _ _ _)|exact .cl _ (aAd _ _ _)|exact .cl _ (aAe _ _ _)|exact .cl _ (.osl _ _ _ _ _ _ hl2)
 exact aAm (by omega) (by first|(simp only[go_sem,r0,r1,r2,r3,r4,hnl,qs,aI];done)|(simp only[go_sem,r0,r1,r2,r3,r4,hnl,qs,aI];rfl)) (by simp) (fun _=>rfl) (fun x=>by simp only[go_sem])
theorem aYr(a b:List Itm):(nY a b).length≤a.length+b.length+b.length:=by
 unfold nY
 simp only[List.length_append,List.length_map,List.length_reverse]
 have h1:=List.length_filter_le (aDi b) a
 have h2:=List.length_filter_le (aDi a) b
 have h3:=List.length_filter_le (aCy a) b
 have h4:=List.length_filter_le (aDi b) a.reverse
 rw[List.length_reverse]at h4
 omega
theorem wO{l:List Nd}(h:Wfr l){dir:Int}(hd:dirI dir=true):(dJ l dir).length≤l.length:=by
 unfold dJ
 split
 ·rename_i hc;exact bDB hc h _ _ _ hd
 ·exact Nat.zero_le _
theorem dk_endT{i j:Nat}{c:Cal}{d d':Dsk}{G L:AHeap}{cs:List AV}(h:KB i j c d G)(ho:d'.ops=d.ops)(hl:cs.length=18)
  (hf:∀(m:Nat) (x y:AV),cs[m]?=some x→(dkC j c d')[m]?=some y→Frz G.length (aD G i (.cells 0 cs)++L) x y):
  ∃A L' H1 y,aD G i (.cells 0 cs)++L=A++L'∧A.length=G.length∧H1.length=G.length∧aGx G.length (aD G i (.cells 0 cs)++L) A H1 G∧Frz G.length (aD G i (.cells 0 cs)++L) (.tup []) y∧(y=.tup []∧H1=pS G i j c d'):=by
 obtain⟨A,L',H1,y,e1,e2,e3,e4, -, -,e6⟩:=aAn (e:=0) h rfl ho hl hf
 exact⟨A,L',H1,_,e1,e2,e3,e4,.cl _ (.tup _ fun _ _ hx=>by simp at hx),rfl,e6⟩
structure TS (was:List Nd) (d:Dsk):Prop where
 wf1:Wfr was
 wf2:Wfr d.m.log.nodes
 sm1:SmN was
 sm2:SmN d.m.log.nodes
 len:was.length≤1000000
 dir:∀w∈d.m.watches,dirI w.dir=true
theorem dtell_c{i j:Nat}{c:Cal}{d:Dsk}{G:AHeap}(hb:KB i j c d G)(hs:DS d.m)(f:Bool)(was:List Nd)(ht:TS was d):
  ACalls Tryz.prog 33 [.ref i 0 0,.sl f (was.map ndA)] G (fun v H'=>v=.tup []∧H'=pS G i j c (aMe was d)):=by
 refine pO Tryz.func33 rfl (Nat.le_of_ble_eq_true rfl) ?_
 have r0:=hb.b1;have r1:=aZ hb.b1 trivial;have r2:=aZ hb.b2 trivial;have hne:=hb.ne;have hl1:=hb.lt1;have hl2:=hb.lt2;have r3:=hb.r3;have r4:=hb.r4;have hnl:=aI G i;simp only[dkC]at r0 r1;have qs:=yN hl1 hl2 hne rfl
 have hgw:=hs.watches
 have hn2:=hs.nodes
 repeat' first|(refine gS ?_;simp only[go_sem,r0,r1,r2,r3,r4,hnl,qs,aI])|refine gA ?_|(refine gD (fun h=>?_) (fun h=>?_)<;>try exact aB h)|fail
 refine bJ (yM false d.m.watches (by omega) _) xY ?_
 rintro v H' ⟨rfl,rfl⟩
 simp only[go_sem,r0,r1,r2,r3,r4,hnl,qs,aI]
 repeat' first|(refine gS ?_;simp only[go_sem,r0,r1,r2,r3,r4,hnl,qs,aI])|refine gA ?_|(refine gD (fun h=>?_) (fun h=>?_)<;>try exact aB h)|fail
 obtain⟨T,hT⟩:∃T,T=wB was d.m.log.nodes:=⟨_,rfl⟩
 obtain⟨W,hW⟩:∃W:Nat→List Wch,W=fun k=>(d.m.watches.take k).map T++d.m.watches.drop k:=⟨_,rfl⟩
 have hWl:∀k,(W k).length=d.m.watches.length:=fun k=>by rw[hW];simp only[List.length_append,List.length_map,List.length_take,List.length_drop];omega
 obtain⟨n,hn⟩:∃n,n=d.m.watches.length:=⟨_,rfl⟩
 rw[←hn]at hWl hgw ⊢
 obtain⟨X,hX⟩:∃X:List AV,X=[.sl false (d.m.log.entries.map fR),.sl false (d.m.log.nodes.map ndA),.int .i64 d.m.seen,.int .i64 d.m.rep,.sl false (d.m.snaps.map gX),.osl 4 G.length 1 0 n n,.int .i64 d.m.next,
  .int .i64 d.a.err,.str d.a.data,.sl false (d.a.names.map AV.str),.int .i64 d.a.n,.sl false (d.a.events.map kE),
  .int .i64 c.kind,.str c.path,.str c.to,.str c.data,.int .i64 c.n,.osl 7 j (d.ops.length+1) 0 d.ops.length d.ops.length]:=⟨_,rfl⟩
 refine aR (ι:=Nat) (fun k=>[(0,.ref i 0 0),(1,.sl f (was.map ndA)),(21,.int .i64 n),(22,.int .i64 k)]) (fun k=>aD G i (.cells 0 X)++[.cells 1 (flA fT (W k))]) (fun k=>k≤n) (fun k=>n-k) 0 (Nat.zero_le _) ?_ ?_ ?_
 ·simp[go_sem]
 ·rw[hX,hW];simp
 intro k hk
 by_cases hlt:k<n
 ·have hWk:W k=(d.m.watches.take k).map T++d.m.watches[k]::d.m.watches.drop (k+1):=by rw[hW];simp only;rw[List.drop_eq_getElem_cons (by omega)]
  have hWs:W (k+1)=(d.m.watches.take k).map T++T d.m.watches[k]::d.m.watches.drop (k+1):=by rw[hW];simp only;rw[List.take_succ_eq_append_getElem (by omega),List.map_append,List.append_assoc];rfl
  obtain⟨w,hw⟩:∃w,w=d.m.watches[k]:=⟨_,rfl⟩
  rw[←hw]at hWk hWs
  have hwm:w∈d.m.watches:=by rw[hw];exact List.getElem_mem _
  obtain⟨A,hA⟩:∃A,A=(d.m.watches.take k).map T:=⟨_,rfl⟩
  have hAl:A.length=k:=by rw[hA,List.length_map,List.length_take];omega
  rw[←hA]at hWk hWs
  have hlA:=gB (enc:=fT) (s:=4) (fun _=>rfl) A
  rw[hAl]at hlA
  have hfl:flA fT (W k)=flA fT A++(.int .i64 w.n::.int .i64 w.dir::.sl false (w.evs.map kE)::.bool w.over::flA fT (d.m.watches.drop (k+1))):=by rw[hWk,iW,mZ];rfl
  have hfn:(flA fT (W k)).length=n * 4:=by rw[gB (s:=4) (fun _=>rfl),hWl]
  have hdr:∀q,List.drop (k * 4+q) (flA fT (W k))=List.drop q (.int .i64 w.n::.int .i64 w.dir::.sl false (w.evs.map kE)::.bool w.over::flA fT (d.m.watches.drop (k+1))):=fun q=>by
   rw[hfl,←hlA,List.drop_append]
   simp
  have hp1:List.take 2 (List.drop (k * 4+2) (flA fT (W k)))=[.sl false (w.evs.map kE),.bool w.over]:=by rw[hdr];rfl
  have hp2:(flA fT (W k)).getD (k * 4+1) .top=.int .i64 w.dir:=by
   rw[List.getD_eq_getElem?_getD,←List.head?_drop,hdr];rfl
  have hdi:=ht.dir w hwm
  have hdf:=aRz f false was d.m.log.nodes w.dir ht.wf1 ht.wf2 hdi (by have:=ht.len;omega) (by omega) ht.sm1 ht.sm2
  obtain⟨D,hD⟩:∃D,D=nY (dJ was w.dir) (dJ d.m.log.nodes w.dir):=⟨_,rfl⟩
  rw[←hD]at hdf
  have hDl:D.length≤1073741824:=by
   have h1:=aYr (dJ was w.dir) (dJ d.m.log.nodes w.dir)
   have h2:=wO ht.wf1 hdi
   have h3:=wO ht.wf2 hdi
   have:=ht.len
   rw[hD];omega
  have hle:=hs.evs w hwm
  have hpt:=aRx false false w.over w.evs D (by omega) hDl
  have hTw:T w={w with evs:=(lY w.evs w.over D).1,over:=(lY w.evs w.over D).2}:=by rw[hT,hD];rfl
  have hsp:cT (flA fT (W k)) (k * 4+2) [.sl false ((lY w.evs w.over D).1.map kE),.bool (lY w.evs w.over D).2]=flA fT (W (k+1)):=by
   have e:=gL (A:=flA fT A++[.int .i64 w.n,.int .i64 w.dir]) (B:=.sl false (w.evs.map kE)::.bool w.over::flA fT (d.m.watches.drop (k+1))) (off:=k * 4+2) (X:=[.sl false ((lY w.evs w.over D).1.map kE),.bool (lY w.evs w.over D).2]) (by simp[hlA])
   rw[hfl]
   rw[show flA fT A++[AV.int .i64 w.n,.int .i64 w.dir]++(.sl false (w.evs.map kE)::.bool w.over::flA fT (d.m.watches.drop (k+1)))=flA fT A++(.int .i64 w.n::.int .i64 w.dir::.sl false (w.evs.map kE)::.bool w.over::flA fT (d.m.watches.drop (k+1)))by simp]at e
   rw[e,hWs,iW,mZ,hTw]
   simp[fT,AV.cells]
  have hli:decide ((k:Int)<(n:Int))=true:=decide_eq_true (by omega)
  repeat' first|((first|refine aV (hdf _) jM ?_|refine aW (hdf _) jM ?_|refine aX (fun _=>hdf _) jM ?_|refine aV (hpt _) jL ?_|refine aW (hpt _) jL ?_|refine aX (fun _=>hpt _) jL ?_|refine mx [5] plGwDesk4_2 ?_|refine gS ?_);simp only[go_sem,r0,r1,r2,r3,r4,hnl,qs,aI,hX,hli,hp1,hp2,hfn,hsp])|((with_reducible refine And.intro ?_ ?_);focus (exact aO (hdf _) jM))|((with_reducible refine And.intro (And.intro ?_ ?_) ?_);focus (exact aO (hdf _) jM))|(exact aO (hdf _) jM)|((with_reducible refine And.intro ?_ ?_);focus (exact aO (hpt _) jL))|((with_reducible refine And.intro (And.intro ?_ ?_) ?_);focus (exact aO (hpt _) jL))|(exact aO (hpt _) jL)|refine gA ?_|(refine gD (fun h=>?_) (fun h=>?_)<;>try exact aB h)|fail
  exact⟨k+1,hlt,by omega,congrArg _ (bI hlt (by omega)),rfl⟩
 ·have hke:k=n:=by omega
  have hli:decide ((k:Int)<(n:Int))=false:=decide_eq_false (by omega)
  repeat' first|(refine gS ?_;simp only[go_sem,r0,r1,r2,r3,r4,hnl,qs,aI,hli])|refine gA ?_|(refine gD (fun h=>?_) (fun h=>?_)<;>try exact aB h)|fail
  have hWn:W k=(aMe was d).m.watches:=by
   rw[hW,hke,hn]
   simp only[List.take_length,List.drop_length,List.append_nil]
   rw[hT];rfl
  rw[hWn]
  subst hX
  refine dk_endT hb rfl rfl ?_
  unfold dkC
  repeat' first|exact iV|refine iY ?_ ?_|exact .cl _ (.int _ _)|exact .cl _ (.str _)|exact .cl _ (aAa _ _ _)|exact .cl _ (zZ _ _ _)|exact .cl _ (aAb _ _ _)|exact .cl _ (aAc _ _ _)|exact .cl _ (aAd _ _ _)|exact .cl _ (aAe _ _ _)|exact .cl _ (.osl _ _ _ _ _ _ hl2)
  exact aAm (Nat.le_refl _) (by first|(simp only[go_sem,r0,r1,r2,r3,r4,hnl,qs,aI];done)|(simp only[go_sem,r0,r1,r2,r3,r4,hnl,qs,aI];rfl)) (by rw[←hWn,hWl]) (fun _=>rfl) (fun x=>by simp only[go_sem])
end Go.Proofs.YthhdnjiodklmmaaGreatDoor
/- vlq.Take and TakeText: what they answer. No condition but the length of the bytes. -/
namespace Go.Gw
open Go Go.Aw Go.Proofs.YthhdnjiodklmmaaGreatDoor
theorem bits_or{n:Int}{d:Nat}(h0:0≤n)(h1:n≤72057594037927935)(hd:d<128):dZ .or .i64 (n * 128) (d:Int)=n * 128+d:=by
 obtain⟨m,rfl⟩:∃m:Nat,n=m:=⟨n.toNat,by omega⟩
 have e1:BitVec.ofInt 64 ((m:Int) * 128)=BitVec.ofNat 64 (m * 128):=by rw[show((m:Int) * 128)=((m * 128:Nat):Int)by omega];exact BitVec.ofInt_natCast ..
 have e2:BitVec.ofInt 64 (d:Int)=BitVec.ofNat 64 d:=BitVec.ofInt_natCast ..
 show IntKind.i64.wrap ((BitVec.ofInt 64 ((m:Int) * 128)|||BitVec.ofInt 64 (d:Int)).toNat:Int)=_
 rw[e1,e2,BitVec.toNat_or,BitVec.toNat_ofNat,BitVec.toNat_ofNat,Nat.mod_eq_of_lt (by omega),Nat.mod_eq_of_lt (by omega)]
 have e3:=Nat.shiftLeft_add_eq_or_of_lt (b:=d) (i:=7) (by omega) m
 rw[Nat.shiftLeft_eq]at e3
 rw[show m * 128=m * 2 ^ 7 by omega,←e3,wrap_i64 (by omega) (by omega)]
 omega
theorem bits_and{d:Nat}(h1:128≤d)(hd:d<256):dZ .and .i64 (d:Int) 127=((d-128:Nat):Int):=by
 have e2:BitVec.ofInt 64 (d:Int)=BitVec.ofNat 64 d:=BitVec.ofInt_natCast ..
 have e1:BitVec.ofInt 64 (127:Int)=BitVec.ofNat 64 127:=rfl
 show IntKind.i64.wrap ((BitVec.ofInt 64 (d:Int)&&&BitVec.ofInt 64 (127:Int)).toNat:Int)=_
 rw[e1,e2,BitVec.toNat_and,BitVec.toNat_ofNat,BitVec.toNat_ofNat,Nat.mod_eq_of_lt (by omega),Nat.mod_eq_of_lt (by omega)]
 have e3:=Nat.and_two_pow_sub_one_eq_mod d 7
 rw[show 127=2 ^ 7-1 by omega,e3,wrap_i64 (by omega) (by omega)]
 omega
theorem takeG_len:∀(b:Txt) (n:Int) (f:Bool) (m:Int) (r:Txt),aL9 n f b=some (m,r)→r.length<b.length:=by
 intro b
 induction b with
 |nil=>intro n f m r h;cases h
 |cons x b ih=>
  intro n f m r h
  rw[aL9]at h
  split at h
  ·cases h
  ·split at h
   ·cases h;simp
   ·have:=ih _ _ _ _ h;rw[List.length_cons];omega
theorem takeV_len{b:Txt}{m:Int}{r:Txt}(h:yJ b=some (m,r)):r.length<b.length:=takeG_len _ _ _ _ _ h
theorem takeG_pos:∀(b:Txt) (n:Int) (f:Bool) (m:Int) (r:Txt),0≤n→aL9 n f b=some (m,r)→0≤m∧m≤9223372036854775807:=by
 intro b
 induction b with
 |nil=>intro n f m r _ h;cases h
 |cons x b ih=>
  intro n f m r h0 h
  have hx:=x.toNat_lt
  rw[aL9]at h
  split at h
  ·cases h
  ·rename_i hc
   simp only[Bool.or_eq_true,decide_eq_true_eq,not_or]at hc
   split at h
   ·cases h;omega
   ·exact ih _ _ _ _ (by omega) h
def takeA(b:Txt):AV:=match yJ b with
 |none=>.tup [.int .i64 0,.str [],.int .i64 40]
 |some (n,r)=>.tup [.int .i64 n,.str r,.int .i64 0]
def textA(b:Txt):AV:=match aMa b with
 |none=>.tup [.str [],.str [],.int .i64 40]
 |some (t,r)=>.tup [.str t,.str r,.int .i64 0]
end Go.Gw
namespace Go.Proofs.YthhdnjiodklmmaaGreatDoor
open Go Go.Aw Go.Gw
set_option linter.unusedSimpArgs false
set_option linter.unusedVariables false
set_option maxRecDepth 20000
set_option maxHeartbeats 4000000
theorem vtake_c(b:Txt)(hb:b.length≤1073741824)(H:AHeap):cN Tryz.prog 234 [.str b] H (takeA b):=by
 refine aQ Tryz.func234 rfl (Nat.le_of_ble_eq_true rfl) ?_
 repeat' first|(refine gS ?_;simp only[go_sem])|refine gA ?_|(refine gD (fun h=>?_) (fun h=>?_)<;>try exact aB h)|fail
 refine hQ (ι:=Int×Nat) (fun s=>[(0,.str b),(2,.int .i64 0),(3,.str []),(4,.int .i64 0),(5,.int .i64 s.1),(6,.int .i64 s.2)]) (fun _=>H) (fun s=>s.2≤b.length∧(s.2=0∧yJ b=none∨0<s.2∧yJ b=some (s.1,b.drop s.2))) ?_ fun⟨n,k⟩ hk=>?_
 ·refine aR (ι:=Nat×Int) (fun s=>[(0,.str b),(2,.int .i64 0),(3,.str []),(4,.int .i64 0),(5,.int .i64 s.2),(6,.int .i64 0),(10,.int .i64 b.length),(11,.int .i64 s.1)]) (fun _=>H)
   (fun s=>s.1≤b.length∧0≤s.2∧yJ b=aL9 s.2 (decide (s.1=0)) (b.drop s.1)) (fun s=>b.length-s.1) (0,0) ⟨Nat.zero_le _,Int.le_refl _,rfl⟩ ?_ rfl ?_
  ·simp[go_sem]
  rintro⟨i,n⟩ ⟨hi,hn,ht⟩
  simp only at hi hn ht ⊢
  by_cases hin:i<b.length
  ·have hdr:=List.drop_eq_getElem_cons hin
   rw[hdr,aL9]at ht
   have hx:=b[i].toNat_lt
   have hgd:b.getD i 0=b[i]:=by simp[hin]
   obtain⟨x,hxe⟩:∃x,x=b[i].toNat:=⟨_,rfl⟩
   rw[←hxe]at ht hx
   have hli:decide ((i:Int)<(b.length:Int))=true:=decide_eq_true (by omega)
   have hwx:IntKind.i64.wrap ((b[i].toNat:Nat):Int)=(x:Int):=by rw[←hxe];exact wrap_i64 (by omega) (by omega)
   have hii:IntKind.i64.wrap ((i:Int)+1)=((i+1:Nat):Int):=bI hin (by omega)
   obtain⟨D1,hD1⟩:∃D,decide (i=0)=D:=⟨_,rfl⟩
   obtain⟨D2,hD2⟩:∃D,decide ((x:Int)=128)=D:=⟨_,rfl⟩
   obtain⟨D3,hD3⟩:∃D,decide (72057594037927935<n)=D:=⟨_,rfl⟩
   have hd1:decide ((i:Int)=0)=D1:=by rw[←hD1];exact decide_eq_decide.2 (by omega)
   rw[hD1,hD2,hD3]at ht
   have stop:yJ b=none→∃y:Int×Nat,(y.2≤b.length∧(y.2=0∧yJ b=none∨0<y.2∧yJ b=some (y.1,b.drop y.2)))∧AV.int .i64 n=AV.int .i64 y.1∧AV.int .i64 0=AV.int .i64 y.2:=fun h=>⟨(n,0),⟨Nat.zero_le _,.inl ⟨rfl,h⟩⟩,rfl,rfl⟩
   cases D3 with
   |true=>
    have hs:yJ b=none:=by rw[ht];cases D1<;>cases D2<;>rfl
    cases D1<;>cases D2
    all_goals
     repeat' first|(refine gS ?_;simp only[go_sem,hgd,hin,hli,hwx,hd1,hD2,hD3])|refine gA ?_|(refine gD (fun h=>?_) (fun h=>?_)<;>try exact aB h)|fail
     exact stop hs
   |false=>
    have hn7:n≤72057594037927935:=by have:=of_decide_eq_false hD3;omega
    have hsh:IntKind.i64.wrap (n * 2 ^ min 7 64)=n * 128:=by rw[show(2:Int) ^ min 7 64=128 by decide,wrap_i64 (by omega) (by omega)]
    by_cases hst:D1=true∧D2=true
    ·obtain⟨rfl,rfl⟩:=hst
     repeat' first|(refine gS ?_;simp only[go_sem,hgd,hin,hli,hwx,hd1,hD2,hD3])|refine gA ?_|(refine gD (fun h=>?_) (fun h=>?_)<;>try exact aB h)|fail
     exact stop ht
    ·have ht2:yJ b=if(x:Int)<128 then some (n * 128+x,List.drop (i+1) b)else aL9 (n * 128+(x-128)) false (List.drop (i+1) b):=by
      rw[ht];cases D1<;>cases D2<;>first|rfl|exact absurd ⟨rfl,rfl⟩ hst
     by_cases h128:(x:Int)<128
     ·have hD4:decide ((x:Int)<128)=true:=decide_eq_true h128
      have hor:=bits_or hn hn7 (d:=x) (by omega)
      rw[if_pos h128]at ht2
      have fin:∃y:Int×Nat,(y.2≤b.length∧(y.2=0∧yJ b=none∨0<y.2∧yJ b=some (y.1,b.drop y.2)))∧AV.int .i64 (n * 128+x)=AV.int .i64 y.1∧AV.int .i64 ((i+1:Nat):Int)=AV.int .i64 y.2:=⟨(n * 128+x,i+1),⟨hin,.inr ⟨Nat.succ_pos _,ht2⟩⟩,rfl,rfl⟩
      cases D1<;>cases D2
      all_goals first
       |exact absurd ⟨rfl,rfl⟩ hst
       |((repeat' first|(refine gS ?_;simp only[go_sem,hgd,hin,hli,hwx,hd1,hD2,hD3,hD4,hsh,hor,hii])|refine gA ?_|(refine gD (fun h=>?_) (fun h=>?_)<;>try exact aB h)|fail);exact fin)
     ·have hD4:decide ((x:Int)<128)=false:=decide_eq_false h128
      rw[if_neg h128]at ht2
      have han:=bits_and (d:=x) (by omega) (by omega)
      have hor:=bits_or hn hn7 (d:=x-128) (by omega)
      have fin:∃y:Nat×Int,(y.1≤b.length∧0≤y.2∧yJ b=aL9 y.2 (decide (y.1=0)) (b.drop y.1))∧b.length-y.1<b.length-i∧AV.int .i64 (n * 128+((x-128:Nat):Int))=AV.int .i64 y.2∧AV.int .i64 ((i+1:Nat):Int)=AV.int .i64 y.1:=by
       refine⟨(i+1,n * 128+((x-128:Nat):Int)),⟨hin,by simp only;omega,?_⟩,by simp only;omega,rfl,rfl⟩
       rw[ht2]
       simp only[Nat.succ_ne_zero,decide_false]
       rw[show((x-128:Nat):Int)=(x:Int)-128 by omega]
      cases D1<;>cases D2
      all_goals first
       |exact absurd ⟨rfl,rfl⟩ hst
       |((repeat' first|(refine gS ?_;simp only[go_sem,hgd,hin,hli,hwx,hd1,hD2,hD3,hD4,hsh,han,hor,hii])|refine gA ?_|(refine gD (fun h=>?_) (fun h=>?_)<;>try exact aB h)|fail);exact fin)
  ·have hie:i=b.length:=by omega
   subst hie
   rw[List.drop_length,aL9]at ht
   repeat' first|(refine gS ?_;simp only[go_sem,hin])|refine gA ?_|(refine gD (fun h=>?_) (fun h=>?_)<;>try exact aB h)|fail
   exact⟨(n,0),⟨Nat.zero_le _,.inl ⟨rfl,ht⟩⟩,⟨rfl,rfl⟩⟩
 simp only at hk ⊢
 obtain⟨hkl,⟨rfl,ht⟩|⟨h0,ht⟩⟩:=hk
 ·unfold takeA
  rw[ht]
  repeat' first|(refine gS ?_;simp only[go_sem])|refine gA ?_|(refine gD (fun h=>?_) (fun h=>?_)<;>try exact aB h)|fail
  exact aT (by simp only[go_sem]) (.refl _)
 ·unfold takeA
  rw[ht]
  have hd:decide ((k:Int)=0)=false:=decide_eq_false (by omega)
  have hkb:(k≤b.length)=True:=eq_true hkl
  repeat' first|(refine gS ?_;simp only[go_sem,hd,hkb])|refine gA ?_|(refine gD (fun h=>?_) (fun h=>?_)<;>try exact aB h)|fail
  exact aT (by simp only[go_sem]) (.refl _)
theorem vtext_c(b:Txt)(hb:b.length≤1073741824)(H:AHeap):cN Tryz.prog 206 [.str b] H (textA b):=by
 refine aQ Tryz.func206 rfl (Nat.le_of_ble_eq_true rfl) ?_
 have ht:=vtake_c b hb
 unfold takeA at ht
 unfold textA aMa
 cases hv:yJ b with
 |none=>
  simp only[hv]at ht
  have ct0:=ct ht aQE;repeat' first|((first|refine gK ?_|refine gS ?_);simp only[go_sem])|refine gA ?_|(refine gD (fun h=>?_) (fun h=>?_)<;>try exact aB h)|fail
  exact aT (by simp only[go_sem]) (.refl _)
 |some p=>
  obtain⟨n,r⟩:=p
  simp only[hv]at ht
  have hn:=takeG_pos _ _ _ _ _ (Int.le_refl 0) hv
  by_cases hlt:(r.length:Int)<n
  ·have hd:decide ((r.length:Int)<n)=true:=decide_eq_true hlt
   simp only[if_pos hlt]
   have ct0:=ct ht aQE;repeat' first|((first|refine gK ?_|refine gS ?_);simp only[go_sem,hd])|refine gA ?_|(refine gD (fun h=>?_) (fun h=>?_)<;>try exact aB h)|fail
   exact aT (by simp only[go_sem]) (.refl _)
  ·have hd:decide ((r.length:Int)<n)=false:=decide_eq_false hlt
   simp only[if_neg hlt]
   obtain⟨k,rfl⟩:∃k:Nat,n=k:=⟨n.toNat,by omega⟩
   have hkr:(k≤r.length)=True:=eq_true (by omega)
   have ct0:=ct ht aQE;repeat' first|((first|refine gK ?_|refine gS ?_);simp only[go_sem,hd,hkr])|refine gA ?_|(refine gD (fun h=>?_) (fun h=>?_)<;>try exact aB h)|fail
   exact aT (by simp only[go_sem]) (.refl _)
end Go.Proofs.YthhdnjiodklmmaaGreatDoor
/- op.take, Take and Read: what they answer. No condition but the length of the bytes. -/
namespace Go.Gw
open Go Go.Aw Go.Proofs.YthhdnjiodklmmaaGreatDoor
def take4(b:Txt):Option ((Int×Int×Int×Int)×Txt):=
 (yJ b).bind fun(c,b1)=>(yJ b1).bind fun(r,b2)=>(yJ b2).bind fun(k,b3)=>(yJ b3).bind fun(nd,b4)=>some ((c,r,k,nd),b4)
def takeOA(b:Txt):AV:=match bB5 b with
 |none=>.tup [opA op0,.str [],.int .i64 50]
 |some (o,r)=>.tup [opA o,.str r,.int .i64 0]
def readOA(b:Txt):AV:=match readO b with
 |none=>.tup [.sl true [],.int .i64 50]
 |some l=>.tup [.sl false (l.map opA),.int .i64 0]
theorem takeT_len{b t r:Txt}(h:aMa b=some (t,r)):t.length≤b.length∧r.length<b.length:=by
 unfold aMa at h
 cases hv:yJ b with
 |none=>rw[hv]at h;cases h
 |some p=>
  obtain⟨n,s⟩:=p
  rw[hv]at h
  simp only at h
  have:=takeV_len hv
  split at h
  ·cases h
  ·cases h
   rw[List.length_take,List.length_drop]
   omega
theorem takeO_eq(b:Txt):bB5 b=(take4 b).bind fun((c,r,k,nd),b4)=>
  if k=1 then(yJ b4).bind fun(p,b5)=>(aMa b5).bind fun(t,b6)=>if opOk ⟨⟨c,r⟩,k,nd,p,t,[]⟩=true then some (⟨⟨c,r⟩,k,nd,p,t,[]⟩,b6)else none
  else(aMa b4).bind fun(t,b6)=>if opOk ⟨⟨c,r⟩,k,nd,0,[],t⟩=true then some (⟨⟨c,r⟩,k,nd,0,[],t⟩,b6)else none:=by
 unfold bB5 take4
 cases yJ b with
 |none=>rfl
 |some x=>
  simp only[Option.bind_some]
  cases yJ x.2 with
  |none=>rfl
  |some y=>
   simp only[Option.bind_some]
   cases yJ y.2 with
   |none=>rfl
   |some z=>
    simp only[Option.bind_some]
    cases yJ z.2<;>rfl
theorem takeO_len{b r:Txt}{o:Opn}(h:bB5 b=some (o,r)):r.length<b.length:=by
 unfold bB5 at h
 simp only[Option.bind_eq_some_iff]at h
 obtain⟨⟨c,b1⟩,h1,⟨rr,b2⟩,h2,⟨k,b3⟩,h3,⟨nd,b4⟩,h4,h⟩:=h
 have l1:=takeV_len h1
 have l2:=takeV_len h2
 have l3:=takeV_len h3
 have l4:=takeV_len h4
 simp only at h l2 l3 l4
 split at h
 ·simp only[Option.bind_eq_some_iff]at h
  obtain⟨⟨p,b5⟩,h5,⟨t,b6⟩,h6,h⟩:=h
  have l5:=takeV_len h5
  have l6:=(takeT_len h6).2
  simp only at h l6
  split at h
  ·cases h;omega
  ·cases h
 ·simp only[Option.bind_eq_some_iff]at h
  obtain⟨⟨t,b6⟩,h6,h⟩:=h
  have l6:=(takeT_len h6).2
  simp only at h
  split at h
  ·cases h;omega
  ·cases h
theorem readF_fuel:∀(n k:Nat) (b:Txt),b.length≤n→b.length≤k→aMb k b=aMb b.length b:=by
 intro n
 induction n with
 |zero=>intro k b h _;rw[List.eq_nil_of_length_eq_zero (by omega:b.length=0)];cases k<;>rfl
 |succ n ih=>
  intro k b h hk
  cases b with
  |nil=>cases k<;>rfl
  |cons x b=>
   rw[List.length_cons]at h hk
   obtain⟨k,rfl⟩:∃m,k=m+1:=⟨k-1,by omega⟩
   rw[List.length_cons,aMb,aMb,if_neg (by simp),if_neg (by simp)]
   cases ht:bB5 (x::b)with
   |none=>rfl
   |some p=>
    obtain⟨o,r⟩:=p
    have:=takeO_len ht
    rw[List.length_cons]at this
    simp only[Option.bind_some]
    rw[ih k r (by omega) (by omega),ih b.length r (by omega) (by omega)]
theorem readO_step{b:Txt}(h:b≠[]):readO b=(bB5 b).bind fun(o,r)=>(readO r).map (o::·):=by
 cases b with
 |nil=>exact absurd rfl h
 |cons x b=>
  unfold readO
  rw[List.length_cons,aMb,if_neg (by simp)]
  cases ht:bB5 (x::b)with
  |none=>rfl
  |some p=>
   obtain⟨o,r⟩:=p
   have:=takeO_len ht
   rw[List.length_cons]at this
   simp only[Option.bind_some]
   rw[readF_fuel _ b.length r (Nat.le_refl _) (by omega)]
theorem frz_fl0{α:Type}{enc:α→AV}{s n i v k lc:Nat}{H:AHeap}{D:List α}(hn:n≤i)(hh:hget H i=.cells v (flA enc D))(hk:D.length=k)(hs:∀x,(enc x).cells.length=s)(hp:∀x,Pur (enc x)):Frz n H (.osl s i v 0 k lc) (.sl false (D.map enc)):=
 zF (es:=D.map enc) (rest:=[]) hn hh (List.append_nil _).symm (by rw[List.length_map,hk]) (fun e he=>by(obtain⟨x, -,rfl⟩:=List.mem_map.1 he;exact hs x)) (fun e he=>by(obtain⟨x, -,rfl⟩:=List.mem_map.1 he;exact hp x))
end Go.Gw
namespace Go.Proofs.YthhdnjiodklmmaaGreatDoor
open Go Go.Aw Go.Gw
set_option linter.unusedSimpArgs false
set_option linter.unusedVariables false
set_option maxRecDepth 20000
set_option maxHeartbeats 4000000
theorem otake1_c(b:Txt)(hb:b.length≤1073741824)(f:Bool)(i:Nat)(c0 c1 c2 c3 c5 c6:AV)(x:Int)(H:AHeap)(hh:hget H i=.cells 0 [c0,c1,c2,c3,.int .i64 x,c5,c6]):
  ACalls Tryz.prog 205 [.str b,.sl f [.ref i 0 4]] H (fun r H'=>(yJ b=none∧r=.tup [.str [],.bool false]∧H'=H)∨∃p rest,yJ b=some (p,rest)∧r=.tup [.str rest,.bool true]∧H'=aD H i (.cells 0 [c0,c1,c2,c3,.int .i64 p,c5,c6])):=by
 refine dI Tryz.func205 rfl (Nat.le_of_ble_eq_true rfl) ?_
 have hlt:=bP hh trivial
 have s1:=fun b=>dD hlt b
 have s2:=dR H i
 have w1:IntKind.i64.wrap (0+1)=1:=rfl
 have ht:=vtake_c b hb
 unfold takeA at ht
 repeat' first|(refine gS ?_;simp only[go_sem])|refine gA ?_|(refine gD (fun h=>?_) (fun h=>?_)<;>try exact aB h)|fail
 refine aD7 2 ?_
 unfold tT
 cases h1:yJ b with
 |none=>
  simp only[h1]at ht
  have ct0:=ct ht aQE;repeat' first|((first|refine gK ?_|refine gS ?_);simp only[go_sem,hh])|refine gA ?_|(refine gD (fun h=>?_) (fun h=>?_)<;>try exact aB h)|fail
  first|trivial|exact .inl trivial|exact .inl ⟨rfl,rfl,rfl⟩
 |some p=>
  obtain⟨p,rest⟩:=p
  simp only[h1]at ht
  have ct0:=ct ht aQE;repeat' first|((first|refine gK ?_|refine gS ?_);simp only[go_sem,hh,s1,s2,w1])|refine gA ?_|(refine gD (fun h=>?_) (fun h=>?_)<;>try exact aB h)|fail
  exact .inr ⟨p,rest,rfl,rfl,rfl⟩
theorem otake4_c(b:Txt)(hb:b.length≤1073741824)(f:Bool)(i:Nat)(c4 c5 c6:AV)(x0 x1 x2 x3:Int)(H:AHeap)(hh:hget H i=.cells 0 [.int .i64 x0,.int .i64 x1,.int .i64 x2,.int .i64 x3,c4,c5,c6]):
  ACalls Tryz.prog 205 [.str b,.sl f [.ref i 0 0,.ref i 0 1,.ref i 0 2,.ref i 0 3]] H (fun r H'=>(take4 b=none∧r=.tup [.str [],.bool false]∧∃X,H'=aD H i X)∨∃n0 n1 n2 n3 rest,take4 b=some ((n0,n1,n2,n3),rest)∧rest.length≤b.length∧r=.tup [.str rest,.bool true]∧H'=aD H i (.cells 0 [.int .i64 n0,.int .i64 n1,.int .i64 n2,.int .i64 n3,c4,c5,c6])):=by
 refine dI Tryz.func205 rfl (Nat.le_of_ble_eq_true rfl) ?_
 have hlt:=bP hh trivial
 have s1:=fun b=>dD hlt b
 have s2:=dR H i
 have w1:IntKind.i64.wrap (0+1)=1:=rfl
 have w2:IntKind.i64.wrap (1+1)=2:=rfl
 have w3:IntKind.i64.wrap (2+1)=3:=rfl
 have w4:IntKind.i64.wrap (3+1)=4:=rfl
 have own:=(hP hh trivial).symm
 have hv:∀b:Txt,b.length≤1073741824→∀H,cN Tryz.prog 234 [.str b] H (takeA b):=fun b h=>vtake_c b h
 unfold takeA at hv
 unfold take4
 have ht:=hv b hb
 repeat' first|(refine gS ?_;simp only[go_sem])|refine gA ?_|(refine gD (fun h=>?_) (fun h=>?_)<;>try exact aB h)|fail
 refine aD7 5 ?_
 unfold tT
 cases h1:yJ b with
 |none=>
  simp only[h1]at ht
  have ct0:=ct ht aQE;repeat' first|((first|refine gK ?_|refine gS ?_);simp only[go_sem,hh])|refine gA ?_|(refine gD (fun h=>?_) (fun h=>?_)<;>try exact aB h)|fail
  first|exact .inl ⟨rfl,_,own⟩|exact .inl ⟨rfl,rfl,_,own⟩|exact .inl ⟨_,own⟩|exact⟨_,own⟩|fail "Q"
 |some p=>
  obtain⟨n0,b1⟩:=p
  simp only[h1]at ht
  have l1:=takeV_len h1
  have ht1:=hv b1 (by omega)
  have ct0:=ct ht aQE;repeat' first|((first|refine gK ?_|refine gS ?_);simp only[go_sem,hh,s1,s2,w1])|refine gA ?_|(refine gD (fun h=>?_) (fun h=>?_)<;>try exact aB h)|fail
  cases h2:yJ b1 with
  |none=>
   simp only[h2]at ht1
   have ct0:=ct ht1 aQE;repeat' first|((first|refine gK ?_|refine gS ?_);simp only[go_sem,s1,s2])|refine gA ?_|(refine gD (fun h=>?_) (fun h=>?_)<;>try exact aB h)|fail
   first|exact .inl ⟨by simp[h2],rfl,_,rfl⟩|exact .inl ⟨by simp[h2],_,rfl⟩|exact .inl ⟨_,rfl⟩|fail "R"
  |some p=>
   obtain⟨n1,b2⟩:=p
   simp only[h2]at ht1
   have l2:=takeV_len h2
   have ht2:=hv b2 (by omega)
   have ct0:=ct ht1 aQE;repeat' first|((first|refine gK ?_|refine gS ?_);simp only[go_sem,s1,s2,w2])|refine gA ?_|(refine gD (fun h=>?_) (fun h=>?_)<;>try exact aB h)|fail
   cases h3:yJ b2 with
   |none=>
    simp only[h3]at ht2
    have ct0:=ct ht2 aQE;repeat' first|((first|refine gK ?_|refine gS ?_);simp only[go_sem,s1,s2])|refine gA ?_|(refine gD (fun h=>?_) (fun h=>?_)<;>try exact aB h)|fail
    first|exact .inl ⟨by simp[h2,h3],rfl,_,rfl⟩|exact .inl ⟨by simp[h2,h3],_,rfl⟩|exact .inl ⟨_,rfl⟩|fail "R"
   |some p=>
    obtain⟨n2,b3⟩:=p
    simp only[h3]at ht2
    have l3:=takeV_len h3
    have ht3:=hv b3 (by omega)
    have ct0:=ct ht2 aQE;repeat' first|((first|refine gK ?_|refine gS ?_);simp only[go_sem,s1,s2,w3])|refine gA ?_|(refine gD (fun h=>?_) (fun h=>?_)<;>try exact aB h)|fail
    cases h4:yJ b3 with
    |none=>
     simp only[h4]at ht3
     have ct0:=ct ht3 aQE;repeat' first|((first|refine gK ?_|refine gS ?_);simp only[go_sem,s1,s2])|refine gA ?_|(refine gD (fun h=>?_) (fun h=>?_)<;>try exact aB h)|fail
     first|exact .inl ⟨by simp[h2,h3,h4],rfl,_,rfl⟩|exact .inl ⟨by simp[h2,h3,h4],_,rfl⟩|exact .inl ⟨_,rfl⟩|fail "R"
    |some p=>
     obtain⟨n3,b4⟩:=p
     simp only[h4]at ht3
     have l4:=takeV_len h4
     have ct0:=ct ht3 aQE;repeat' first|((first|refine gK ?_|refine gS ?_);simp only[go_sem,s1,s2,w4])|refine gA ?_|(refine gD (fun h=>?_) (fun h=>?_)<;>try exact aB h)|fail
     exact .inr ⟨n0,n1,n2,n3,b4,by simp[h2,h3,h4],by omega,rfl,rfl⟩
theorem optake_c(b:Txt)(hb:b.length≤1073741824)(H:AHeap):cN Tryz.prog 177 [.str b] H (takeOA b):=by
 refine aQ Tryz.func177 rfl (Nat.le_of_ble_eq_true rfl) ?_
 unfold takeOA
 rw[takeO_eq]
 repeat' first|(refine gS ?_;simp only[go_sem])|refine gA ?_|(refine gD (fun h=>?_) (fun h=>?_)<;>try exact aB h)|fail
 refine bJ (otake4_c b hb true (H.length+1) (.int .i64 0) (.str []) (.str []) 0 0 0 0 _ (by simp only[go_sem])) aQt ?_
 rintro v H' (⟨h4,rfl,X,rfl⟩|⟨c,r,k,nd,b4,h4,hl4,rfl,rfl⟩)
 ·rw[h4]
  simp only[go_sem]
  repeat' first|(refine gS ?_;simp only[go_sem])|refine gA ?_|(refine gD (fun h=>?_) (fun h=>?_)<;>try exact aB h)|fail
  exact done (by simp only[go_sem]) (.refl _)
 rw[h4]
 simp only[go_sem,Option.bind_some]
 have hkd:=aF7 ⟨⟨c,r⟩,k,nd,0,[],[]⟩
 simp only[opA]at hkd
 by_cases hk:k=1
 ·subst hk
  simp only[if_true]at hkd ⊢
  have ct0:=ct hkd oN;repeat' first|((first|refine gK ?_|refine gS ?_);simp only[go_sem])|refine gA ?_|(refine gD (fun h=>?_) (fun h=>?_)<;>try exact aB h)|fail
  refine bJ (otake1_c b4 (by omega) true (H.length+1) (.int .i64 c) (.int .i64 r) (.int .i64 1) (.int .i64 nd) (.str []) (.str []) 0 _ (by simp only[go_sem])) aQt ?_
  rintro v H' (⟨h5,rfl,rfl⟩|⟨q,b5,h5,rfl,rfl⟩)
  ·rw[h5]
   simp only[go_sem]
   repeat' first|(refine gS ?_;simp only[go_sem])|refine gA ?_|(refine gD (fun h=>?_) (fun h=>?_)<;>try exact aB h)|fail
   exact done (by simp only[go_sem]) (.refl _)
  have hl5:=takeV_len h5
  rw[h5]
  simp only[go_sem,Option.bind_some]
  repeat' first|(refine gS ?_;simp only[go_sem])|refine gA ?_|(refine gD (fun h=>?_) (fun h=>?_)<;>try exact aB h)|fail
  have htx:=vtext_c b5 (by omega)
  unfold textA at htx
  cases hx:aMa b5 with
  |none=>
   simp only[hx]at htx
   have ct0:=ct htx aQu;repeat' first|((first|refine gK ?_|refine gS ?_);simp only[go_sem])|refine gA ?_|(refine gD (fun h=>?_) (fun h=>?_)<;>try exact aB h)|fail
   exact done (by simp only[go_sem]) (.refl _)
  |some p=>
   obtain⟨t,b6⟩:=p
   simp only[hx]at htx
   have hl6:=takeT_len hx
   have hok:=aGa ⟨⟨c,r⟩,1,nd,q,t,[]⟩ ⟨by simp only[List.length_nil];omega,by simp only[List.length_nil];omega⟩
   simp only[opA,Option.bind_some]at hok ⊢
   cases ho:opOk ⟨⟨c,r⟩,1,nd,q,t,[]⟩with
   |true=>
    rw[ho]at hok
    have ct0:=ct htx aQu;have ct1:=ct hok eF;repeat' first|((first|refine gK ?_|refine gS ?_);simp only[go_sem])|refine gA ?_|(refine gD (fun h=>?_) (fun h=>?_)<;>try exact aB h)|fail
    exact done (by simp only[go_sem]) (.refl _)
   |false=>
    rw[ho]at hok
    have ct0:=ct htx aQu;have ct1:=ct hok eF;repeat' first|((first|refine gK ?_|refine gS ?_);simp only[go_sem])|refine gA ?_|(refine gD (fun h=>?_) (fun h=>?_)<;>try exact aB h)|fail
    exact done (by simp only[go_sem]) (.refl _)
 ·simp only[if_neg hk]at hkd ⊢
  by_cases hk2:k=2
  ·subst hk2
   simp only[if_true]at hkd
   have ct0:=ct hkd oN;repeat' first|((first|refine gK ?_|refine gS ?_);simp only[go_sem])|refine gA ?_|(refine gD (fun h=>?_) (fun h=>?_)<;>try exact aB h)|fail
   have htx:=vtext_c b4 (by omega)
   unfold textA at htx
   cases hx:aMa b4 with
   |none=>
    simp only[hx]at htx
    have ct0:=ct htx aQu;repeat' first|((first|refine gK ?_|refine gS ?_);simp only[go_sem])|refine gA ?_|(refine gD (fun h=>?_) (fun h=>?_)<;>try exact aB h)|fail
    exact done (by simp only[go_sem]) (.refl _)
   |some p=>
    obtain⟨t,b6⟩:=p
    simp only[hx]at htx
    have hl6:=takeT_len hx
    have hok:=aGa ⟨⟨c,r⟩,2,nd,0,[],t⟩ ⟨by simp only[List.length_nil];omega,by simp only[List.length_nil];omega⟩
    simp only[opA,Option.bind_some]at hok ⊢
    cases ho:opOk ⟨⟨c,r⟩,2,nd,0,[],t⟩with
    |true=>
     rw[ho]at hok
     have ct0:=ct htx aQu;have ct1:=ct hok eF;repeat' first|((first|refine gK ?_|refine gS ?_);simp only[go_sem])|refine gA ?_|(refine gD (fun h=>?_) (fun h=>?_)<;>try exact aB h)|fail
     exact done (by simp only[go_sem]) (.refl _)
    |false=>
     rw[ho]at hok
     have ct0:=ct htx aQu;have ct1:=ct hok eF;repeat' first|((first|refine gK ?_|refine gS ?_);simp only[go_sem])|refine gA ?_|(refine gD (fun h=>?_) (fun h=>?_)<;>try exact aB h)|fail
     exact done (by simp only[go_sem]) (.refl _)
  ·simp only[if_neg hk2]at hkd
   have ct0:=ct hkd oN;repeat' first|((first|refine gK ?_|refine gS ?_);simp only[go_sem])|refine gA ?_|(refine gD (fun h=>?_) (fun h=>?_)<;>try exact aB h)|fail
   have htx:=vtext_c b4 (by omega)
   unfold textA at htx
   cases hx:aMa b4 with
   |none=>
    simp only[hx]at htx
    have ct0:=ct htx aQu;repeat' first|((first|refine gK ?_|refine gS ?_);simp only[go_sem])|refine gA ?_|(refine gD (fun h=>?_) (fun h=>?_)<;>try exact aB h)|fail
    exact done (by simp only[go_sem]) (.refl _)
   |some p=>
    obtain⟨t,b6⟩:=p
    simp only[hx]at htx
    have hl6:=takeT_len hx
    have hok:=aGa ⟨⟨c,r⟩,k,nd,0,[],t⟩ ⟨by simp only[List.length_nil];omega,by simp only[List.length_nil];omega⟩
    simp only[opA,Option.bind_some]at hok ⊢
    cases ho:opOk ⟨⟨c,r⟩,k,nd,0,[],t⟩with
    |true=>
     rw[ho]at hok
     have ct0:=ct htx aQu;have ct1:=ct hok eF;repeat' first|((first|refine gK ?_|refine gS ?_);simp only[go_sem])|refine gA ?_|(refine gD (fun h=>?_) (fun h=>?_)<;>try exact aB h)|fail
     exact done (by simp only[go_sem]) (.refl _)
    |false=>
     rw[ho]at hok
     have ct0:=ct htx aQu;have ct1:=ct hok eF;repeat' first|((first|refine gK ?_|refine gS ?_);simp only[go_sem])|refine gA ?_|(refine gD (fun h=>?_) (fun h=>?_)<;>try exact aB h)|fail
     exact done (by simp only[go_sem]) (.refl _)
theorem opread_c(b:Txt)(hb:b.length≤1073741824)(H:AHeap):cN Tryz.prog 139 [.str b] H (readOA b):=by
 refine aQ Tryz.func139 rfl (Nat.le_of_ble_eq_true rfl) ?_
 repeat' first|(refine gS ?_;simp only[go_sem])|refine gA ?_|fail
 refine qE 4 7 rfl ?_
 refine aR (ι:=List Opn×Txt×AHeap) (fun s=>[(0,.str s.2.1),(4,.osl 7 H.length (s.1.length+1) 0 s.1.length s.1.length)]) (fun s=>H++(.cells (s.1.length+1) (flA opA s.1)::s.2.2)) (fun s=>s.1.length+s.2.1.length≤b.length∧readO b=(readO s.2.1).map (s.1++·)) (fun s=>s.2.1.length) ([],b,[]) ⟨by simp,by simp⟩ ?_ rfl ?_
 ·simp[go_sem]
 rintro⟨acc,r,M⟩ ⟨hl,hr⟩
 simp only at hl hr ⊢
 unfold readOA
 obtain⟨G,hG⟩:∃G,H++(.cells (acc.length+1) (flA opA acc)::M)=G:=⟨_,rfl⟩
 rw[hG]
 have g0:hget G H.length=.cells (acc.length+1) (flA opA acc):=by rw[←hG];simp only[go_sem]
 have g1:=aZ g0 trivial
 have g2:=eZ g0 trivial
 have gs:∀X,aD G H.length X=H++(X::M):=fun X=>by rw[←hG];simp only[go_sem]
 by_cases hn:r=[]
 ·have hd:decide (r=[])=true:=decide_eq_true hn
  subst hn
  have hra:readO b=some acc:=by rw[hr];simp[readO,aMb]
  rw[hra]
  repeat' first|(refine gS ?_;simp only[go_sem,hd])|refine gA ?_|(refine gD (fun h=>?_) (fun h=>?_)<;>try exact aB h)|fail
  exact⟨_,.tup [.sl false (acc.map opA),.int .i64 0],hG.symm,.tup _ _ rfl (iY (frz_fl0 (Nat.le_refl _) g0 rfl (fun _=>rfl) (fun x=>by simp only[go_sem])) (iY (.cl _ (.int _ _)) iV)),rfl⟩
 have hd:decide (r=[])=false:=decide_eq_false hn
 have hot:=optake_c r (by omega)
 unfold takeOA at hot
 rw[readO_step hn]at hr
 cases ht:bB5 r with
 |none=>
  simp only[ht,opA]at hot
  rw[ht]at hr
  rw[show readO b=none from hr]
  have ct0:=ct hot aQh;repeat' first|((first|refine gK ?_|refine gS ?_);simp only[go_sem,hd])|refine gA ?_|(refine gD (fun h=>?_) (fun h=>?_)<;>try exact aB h)|fail
  exact aLf hG (by simp only[go_sem]) (.refl _)
 |some p=>
  obtain⟨o,r2⟩:=p
  have hl2:=takeO_len ht
  simp only[ht,opA]at hot
  have hrn:0<r.length:=List.length_pos_iff.2 hn
  have hq1:(∀e,e=AV.agg [.int .i64 o.at_.c,.int .i64 o.at_.r,.int .i64 o.kind,.int .i64 o.node,.int .i64 o.parent,.str o.name,.str o.data]→e.cells.length=7)=True:=eq_true (fun e he=>by rw[he];rfl)
  have hl8:((acc.length+1) * 72≤140737488355328)=True:=eq_true (by omega)
  have hfl:=gB (enc:=opA) (s:=7) (fun _=>rfl) acc
  have ct0:=ct hot aQh;repeat' first|((first|refine gK ?_|refine gS ?_);simp only[go_sem,hd,hq1,hl8,hfl,g0,g1,g2])|refine gA ?_|(refine gD (fun h=>?_) (fun h=>?_)<;>try exact aB h)|fail
  refine⟨(acc++[o],r2,M++[.cells 0 (opA o).cells]),⟨by simp only[List.length_append,List.length_cons,List.length_nil];omega,?_⟩,hl2,?_⟩
  ·simp only
   rw[hr,ht]
   simp only[Option.bind_some,Option.map_map]
   congr 1
   funext l
   simp
  ·simp only[gs,List.length_append,List.length_cons,List.length_nil,iW,mZ,aJW,List.append_nil,opA,AV.cells,List.append_assoc,List.cons_append]
   refine⟨⟨?_,?_⟩,?_⟩<;>first|trivial|rfl
end Go.Proofs.YthhdnjiodklmmaaGreatDoor
/- What is done at the desk of operations of others. No condition but what is known of a replica. -/
namespace Go.Gw
open Go Go.Aw Go.Proofs.YthhdnjiodklmmaaGreatDoor
structure AddS (d0 d:Dsk) (k:Nat):Prop where
 ds:DS d.m
 ents:d.m.log.entries.length≤200
 nodes:d.m.log.nodes.length≤400+401 * k
 ops:d.ops.length≤d0.ops.length+k
set_option maxRecDepth 20000 in
theorem addS_next{d0 d:Dsk}{k:Nat}(h:AddS d0 d k)(hk:k<200){o:Opn}(ho:OpS o):AddS d0 (nT d o).2 (k+1):=by
 obtain⟨l1,l2,l3⟩:=aGC d.m.log o
 have l4:=l3 h.ents
 have h1:=h.nodes
 have h2:=h.ops
 have h3:=h.ents
 unfold nT
 split
 ·refine⟨⟨by simp only;omega,by simp only;omega,fun e he=>aGD d.m.log o OpS h.ds.ops ho e he,h.ds.snaps,h.ds.watches,h.ds.snap,h.ds.evs⟩,by simp only;omega,by simp only;omega,by simp only[List.length_append,List.length_cons,List.length_nil];omega⟩
 ·exact⟨h.ds,h3,by simp only;omega,by simp only;omega⟩
theorem readO_len{b:Txt}{l:List Opn}(h:readO b=some l):l.length≤b.length:=by
 have key:∀(n:Nat) (b:Txt) (l:List Opn),aMb n b=some l→l.length≤n:=by
  intro n
  induction n with
  |zero=>
   intro b l h
   unfold aMb at h
   split at h
   ·cases h;simp
   ·cases h
  |succ n ih=>
   intro b l h
   unfold aMb at h
   split at h
   ·cases h;simp
   ·simp only[Option.bind_eq_some_iff]at h
    obtain⟨⟨o,r⟩, -,h2⟩:=h
    simp only[Option.map_eq_some_iff]at h2
    obtain⟨t,h3,rfl⟩:=h2
    have:=ih r t h3
    rw[List.length_cons];omega
 exact key _ _ _ h
end Go.Gw
namespace Go.Proofs.YthhdnjiodklmmaaGreatDoor
open Go Go.Aw Go.Gw
set_option linter.unusedSimpArgs false
set_option linter.unusedVariables false
set_option maxRecDepth 20000
set_option maxHeartbeats 4000000
theorem merge1_c(f:Opn)(k:Nat)(o:Opn)(G:AHeap)(hk:hget G k=.cells 0 (opA o).cells):cN Tryz.prog 140 [opA f,.ref k 0 0] G (.bool (decide (f.at_=o.at_))):=by
 refine aQ Tryz.func140 rfl (Nat.le_of_ble_eq_true rfl) ?_
 have hk1:=aZ hk trivial
 simp only[opA,AV.cells]at hk hk1
 repeat' first|(refine gS ?_;simp only[go_sem,opA,hk,hk1])|refine gA ?_|(refine gD (fun h=>?_) (fun h=>?_)<;>try exact aB h)|fail
 exact done (by simp only[go_sem]) (.of (by rw[aNv]))
theorem hasOp_c(l:List Opn)(o:Opn)(i v lc n k:Nat)(hn:n=l.length)(hlc:n≤lc)(hl:n≤1073741824)(H:AHeap)(hh:hget H i=.cells v (flA opA l))(hk:hget H k=.cells 0 (opA o).cells):
  cN Tryz.prog 142 [.osl 7 i v 0 n lc,.func (.func 140) [] [.ref k 0 0]] H (.bool (l.any fun f=>decide (f.at_=o.at_))):=by
 refine aQ Tryz.func142 rfl (Nat.le_of_ble_eq_true rfl) ?_
 have hx:=bDt l (fun f=>decide (f.at_=o.at_)) i v lc n hn hlc hl (fn:=.func 140) (fs:=[]) (cs:=[.ref k 0 0]) H hh (fun x=>Or.inl ⟨aPZ,merge1_c x k o H hk⟩)
 repeat' first|((first|refine aV (hx) aQi ?_|refine aW (hx) aQi ?_|refine aX (fun _=>hx) aQi ?_|refine gS ?_);simp only[go_sem])|refine gA ?_|(refine gD (fun h=>?_) (fun h=>?_)<;>try exact aB h)|fail
 exact aT (by simp only[go_sem]) (.of (by rw[mX]))
theorem dmerge_c{i j:Nat}{c:Cal}{d:Dsk}{G:AHeap}(hb:KB i j c d G)(hs:DS d.m)(hc:CS c)(hl:d.ops.length≤1000)(hN:d.m.log.entries.length≤200∧d.m.log.nodes.length≤400):aJ5 Tryz.prog 78 i j c (aGw c d) G:=by
 refine bQ Tryz.func78 rfl (Nat.le_of_ble_eq_true rfl) ?_
 have r0:=hb.b1;have r1:=aZ hb.b1 trivial;have r2:=aZ hb.b2 trivial;have hne:=hb.ne;have hl1:=hb.lt1;have hl2:=hb.lt2;have r3:=hb.r3;have r4:=hb.r4;have hnl:=aI G i;simp only[dkC]at r0 r1;have qs:=yN hl1 hl2 hne rfl
 unfold aGw
 have hrd:=opread_c c.data (by have:=hc.data;omega)
 unfold readOA at hrd
 cases hr:readO c.data with
 |none=>
  simp only[hr]at hrd
  have ct0:=ct hrd aPY;repeat' first|((first|refine gK ?_|refine gS ?_);simp only[go_sem,r0,r1,r2,r3,r4,hnl,qs,aI])|refine gA ?_|(refine gD (fun h=>?_) (fun h=>?_)<;>try exact aB h)|fail
  exact aJ4 hb rfl hb.own.symm
 |some l=>
  simp only[hr]at hrd ⊢
  obtain⟨z,hz⟩:∃z,z=(if(200:Int)<(d.m.log.entries.length:Int)+((freshN d.m.log [] l).length:Int)then(193,d)else
   if(nZ d (freshN d.m.log [] l)).1=0 then
    (0,{(nZ d (freshN d.m.log [] l)).2 with a:={(nZ d (freshN d.m.log [] l)).2.a with n:=(freshN d.m.log [] l).length},m:={(nZ d (freshN d.m.log [] l)).2.m with seen:=l.foldl (fun n o=>aA3 n o.at_) d.m.seen}})
   else nZ d (freshN d.m.log [] l)):=⟨_,rfl⟩
  rw[←hz]
  have hlb:l.length≤1048576:=Nat.le_trans (readO_len hr) hc.data
  have hlo:∀o∈l,OpS o:=fun o ho=>aGX (bCf hr o ho)
  have ct0:=ct hrd aPY;repeat' first|((first|refine gK ?_|refine gS ?_);simp only[go_sem,r0,r1,r2,r3,r4,hnl,qs,aI])|refine gA ?_|(refine gD (fun h=>?_) (fun h=>?_)<;>try exact aB h)|fail
  refine qE 6 7 rfl ?_
  obtain⟨fr,hfr⟩:∃fr,fr=freshN d.m.log [] l:=⟨_,rfl⟩
  obtain⟨sn,hsn⟩:∃sn,sn=l.foldl (fun n o=>aA3 n o.at_) d.m.seen:=⟨_,rfl⟩
  rw[←hfr,←hsn]at hz
  refine hQ (ι:=AHeap) (fun M=>[(0,.ref i 0 0),(5,.int .i64 sn),(6,.osl 7 G.length (fr.length+1) 0 fr.length fr.length)]) (fun M=>G++(.cells (fr.length+1) (flA opA fr)::M)) (fun _=>fr.length≤l.length) ?_ fun M hfl=>?_
  ·refine aR (ι:=Nat×Int×List Opn×AHeap) (fun s=>[(0,.ref i 0 0),(5,.int .i64 s.2.1),(6,.osl 7 G.length (s.2.2.1.length+1) 0 s.2.2.1.length s.2.2.1.length),(29,.sl false (l.map opA)),(30,.int .i64 l.length),(31,.int .i64 s.1)])
    (fun s=>G++(.cells (s.2.2.1.length+1) (flA opA s.2.2.1)::s.2.2.2)) (fun s=>s.1≤l.length∧s.2.2.1.length≤s.1∧fr=freshN d.m.log s.2.2.1 (l.drop s.1)∧sn=(l.drop s.1).foldl (fun n o=>aA3 n o.at_) s.2.1) (fun s=>l.length-s.1) (0,d.m.seen,[],[]) ⟨Nat.zero_le _,Nat.le_refl _,hfr,hsn⟩ ?_ rfl ?_
   ·simp[go_sem]
   rintro⟨k,s,acc,M⟩ ⟨hk,hak,hf1,hf2⟩
   simp only at hk hak hf1 hf2 ⊢
   obtain⟨G2,hG⟩:∃G2,G++(.cells (acc.length+1) (flA opA acc)::M)=G2:=⟨_,rfl⟩
   rw[hG]
   have g0:hget G2 G.length=.cells (acc.length+1) (flA opA acc):=by rw[←hG];simp only[go_sem]
   have g1:=aZ g0 trivial
   have g2:=eZ g0 trivial
   have gs:∀X,aD G2 G.length X=G++(X::M):=fun X=>by rw[←hG];simp only[go_sem]
   have hb2:KB i j c d G2:=hG▸hb.app _
   have p0:=hb2.b1
   have p1:=aZ hb2.b1 trivial
   simp only[dkC]at p0 p1
   by_cases hlt:k<l.length
   ·have hdr:=List.drop_eq_getElem_cons hlt
    rw[hdr,freshN]at hf1
    rw[hdr,List.foldl_cons]at hf2
    have hgd:=bF opA hlt
    obtain⟨o,ho⟩:∃o,o=l[k]:=⟨_,rfl⟩
    rw[←ho]at hf1 hf2 hgd
    simp only[opA]at hgd
    have hli:decide ((k:Int)<(l.length:Int))=true:=decide_eq_true (by omega)
    have hse:=bDr s o.at_ true
    have hha:=bBY false false d.m.log o.at_
    simp only[lgF,stA]at hha
    have hw:=bI hlt (by omega)
    have hfl:=gB (enc:=opA) (s:=7) (fun _=>rfl) acc
    have hop:=hasOp_c acc o G.length (acc.length+1) acc.length acc.length G2.length rfl (Nat.le_refl _) (by omega) (G2++[.cells 0 [.int .i64 o.at_.c,.int .i64 o.at_.r,.int .i64 o.kind,.int .i64 o.node,.int .i64 o.parent,.str o.name,.str o.data]]) (g1 _) (iF _ _)
    have hq1:(∀e,e=AV.agg [.int .i64 o.at_.c,.int .i64 o.at_.r,.int .i64 o.kind,.int .i64 o.node,.int .i64 o.parent,.str o.name,.str o.data]→e.cells.length=7)=True:=eq_true (fun e he=>by rw[he];rfl)
    have hl8:((acc.length+1) * 72≤140737488355328)=True:=eq_true (by omega)
    cases hA:lH d.m.log.entries o.at_ with
    |true=>
     rw[hA]at hha hf1
     have ct0:=ct hse aXE;have ct1:=ct hha oP;repeat' first|((first|refine gK ?_|refine gS ?_);simp only[go_sem,p0,p1,g0,g1,g2,hgd,hli,hlt])|refine gA ?_|(refine gD (fun h=>?_) (fun h=>?_)<;>try exact aB h)|fail
     exact⟨(k+1,aA3 s o.at_,acc,M++[.cells 0 (opA o).cells]),⟨hlt,by simp only;omega,by simpa using hf1,hf2⟩,by simp only;omega,⟨rfl,rfl,congrArg _ hw⟩,by show G2++[.cells 0 (opA o).cells]=_;rw[←hG];simp⟩
    |false=>
     rw[hA]at hha hf1
     cases hB:acc.any (fun f=>decide (f.at_=o.at_))with
     |true=>
      rw[hB]at hop hf1
      have ct0:=ct hse aXE;have ct1:=ct hha oP;repeat' first|((first|refine gK ?_|refine aV (hop) aP0 ?_|refine aW (hop) aP0 ?_|refine aX (fun _=>hop) aP0 ?_|refine gS ?_);simp only[go_sem,p0,p1,g0,g1,g2,hgd,hli,hlt])|refine gA ?_|(refine gD (fun h=>?_) (fun h=>?_)<;>try exact aB h)|fail
      exact⟨(k+1,aA3 s o.at_,acc,M++[.cells 0 (opA o).cells]),⟨hlt,by simp only;omega,by simpa using hf1,hf2⟩,by simp only;omega,⟨rfl,rfl,congrArg _ hw⟩,by show G2++[.cells 0 (opA o).cells]=_;rw[←hG];simp⟩
     |false=>
      rw[hB]at hop hf1
      have ct0:=ct hse aXE;have ct1:=ct hha oP;repeat' first|((first|refine gK ?_|refine aV (hop) aP0 ?_|refine aW (hop) aP0 ?_|refine aX (fun _=>hop) aP0 ?_|refine gS ?_);simp only[go_sem,p0,p1,g0,g1,g2,hgd,hli,hlt,hq1,hl8,hfl])|refine gA ?_|(refine gD (fun h=>?_) (fun h=>?_)<;>try exact aB h)|fail
      refine⟨(k+1,aA3 s o.at_,acc++[o],M++[.cells 0 (opA o).cells]),⟨hlt,by simp only[List.length_append,List.length_cons,List.length_nil];omega,by simpa using hf1,hf2⟩,by simp only;omega,⟨rfl,?_,congrArg _ hw⟩,?_⟩
      ·simp
      ·rw[gs]
       simp[iW,mZ,aJW,opA,AV.cells]
   ·have hke:k=l.length:=by omega
    have hli:decide ((k:Int)<(l.length:Int))=false:=decide_eq_false (by omega)
    repeat' first|(refine gS ?_;simp only[go_sem,hli])|refine gA ?_|(refine gD (fun h=>?_) (fun h=>?_)<;>try exact aB h)|fail
    have hfe:acc=fr:=by rw[hf1,hke,List.drop_length];rfl
    have hse:s=sn:=by rw[hf2,hke,List.drop_length];rfl
    rw[←hfe,←hse]
    exact⟨M,by omega,⟨rfl,rfl⟩,hG.symm⟩
  refine xQ [6] (fr.map opA) (v:=fr.length+1) (lc:=fr.length) (i:=G.length) (s:=7) (cs:=flA opA fr) (by intro t ht;simp only[List.mem_singleton]at ht;subst ht;rw[List.length_map];simp only[go_sem]) (by simp only[go_sem]) (by omega) rfl (fun e he=>by(obtain⟨x, -,rfl⟩:=List.mem_map.1 he;rfl)) ?_
  simp only[go_sem,List.map_cons,List.map_nil]
  obtain⟨M1,hM1⟩:∃M1:AHeap,M1=.gone::M:=⟨_,rfl⟩
  rw[←hM1]
  have hE:=hN.1
  have hwA:IntKind.i64.wrap ((d.m.log.entries.length:Int)+(fr.length:Int))=(d.m.log.entries.length:Int)+(fr.length:Int):=wrap_i64 (by omega) (by omega)
  by_cases h200:(200:Int)<(d.m.log.entries.length:Int)+(fr.length:Int)
  ·have h2:decide ((200:Int)<(d.m.log.entries.length:Int)+(fr.length:Int))=true:=decide_eq_true h200
   rw[if_pos h200]at hz
   subst hz
   repeat' first|(refine gS ?_;simp only[go_sem,r0,r1,r2,r3,r4,hnl,qs,aI,hwA,h2])|refine gA ?_|(refine gD (fun h=>?_) (fun h=>?_)<;>try exact aB h)|fail
   exact sC hb rfl hb.own.symm
  have h2:decide ((200:Int)<(d.m.log.entries.length:Int)+(fr.length:Int))=false:=decide_eq_false h200
  rw[if_neg h200]at hz
  have hfo:∀o∈fr,OpS o:=fun o ho=>by
   rw[hfr]at ho
   rcases aYl _ _ _ o ho with h|h
   ·cases h
   ·exact hlo o h
  repeat' first|(refine gS ?_;simp only[go_sem,r0,r1,r2,r3,r4,hnl,qs,aI,hwA,h2])|refine gA ?_|(refine gD (fun h=>?_) (fun h=>?_)<;>try exact aB h)|fail
  refine hQ (ι:=Dsk×AHeap) (fun _=>[(0,.ref i 0 0),(5,.int .i64 sn),(6,.sl false (fr.map opA))]) (fun s=>pS G i j c s.1++s.2) (fun s=>nZ d fr=(0,s.1)) ?_ fun⟨dk,M2⟩ hdk=>?_
  ·refine aR (ι:=Nat×Dsk×AHeap) (fun s=>[(0,.ref i 0 0),(5,.int .i64 sn),(6,.sl false (fr.map opA)),(72,.sl false (fr.map opA)),(73,.int .i64 fr.length),(74,.int .i64 s.1)]) (fun s=>pS G i j c s.2.1++s.2.2)
    (fun s=>s.1≤fr.length∧nZ d fr=nZ s.2.1 (fr.drop s.1)∧AddS d s.2.1 s.1) (fun s=>fr.length-s.1) (0,d,M1) ⟨Nat.zero_le _,rfl,⟨hs,hN.1,by have:=hN.2;simp only;omega,Nat.le_refl _⟩⟩ ?_ (by rw[hb.own]) ?_
   ·simp[go_sem]
   rintro⟨k,dk,M2⟩ ⟨hk,hak,hdk⟩
   simp only at hk hak hdk ⊢
   obtain⟨G3,hG3⟩:∃G3,pS G i j c dk++M2=G3:=⟨_,rfl⟩
   have hb3:KB i j c dk G3:=hG3▸(hb.put dk).app M2
   have htw:∀d2,pS G3 i j c d2=pS G i j c d2++M2:=fun d2=>by rw[←hG3,(hb.put dk).happ,hb.twice]
   rw[hG3]
   by_cases hlt:k<fr.length
   ·have hdr:=List.drop_eq_getElem_cons hlt
    rw[hdr,nZ]at hak
    have hgd:=bF opA hlt
    have hom:=hfo _ (List.getElem_mem hlt)
    obtain⟨o,ho⟩:∃o,o=fr[k]:=⟨_,rfl⟩
    rw[←ho]at hak hgd hom
    simp only[opA]at hgd
    have hli:decide ((k:Int)<(fr.length:Int))=true:=decide_eq_true (by omega)
    have hw:=bI hlt (by omega)
    have hops:=hdk.ops
    repeat' first|(refine gS ?_;simp only[go_sem,hgd,hli,hlt])|refine gA ?_|(refine gD (fun h=>?_) (fun h=>?_)<;>try exact aB h)|fail
    refine bJ (aRf (hb3.app _) hdk.ds (o:=o) hom (by omega)) aBX ?_
    rintro v H' ⟨rfl,rfl⟩
    rw[hb3.happ,htw]
    have hnx:=addS_next hdk (by omega) hom
    obtain⟨⟨x,d1⟩,hr2⟩:∃r,nT dk o=r:=⟨_,rfl⟩
    rw[hr2]at hak hnx ⊢
    simp only[go_sem]at hak hnx ⊢
    by_cases hx:x=0
    ·subst hx
     rw[if_pos rfl]at hak
     repeat' first|(refine gS ?_;simp only[go_sem])|refine gA ?_|(refine gD (fun h=>?_) (fun h=>?_)<;>try exact aB h)|fail
     exact⟨(k+1,d1,M2++[.cells 0 (opA o).cells]),⟨hlt,hak,hnx⟩,by simp only;omega,congrArg _ hw,by simp[opA,AV.cells]⟩
    ·have hd:decide (x=0)=false:=decide_eq_false hx
     rw[if_neg hx]at hak
     rw[hak,if_neg hx]at hz
     subst hz
     repeat' first|(refine gS ?_;simp only[go_sem,hd])|refine gA ?_|(refine gD (fun h=>?_) (fun h=>?_)<;>try exact aB h)|fail
     exact sC hb rfl rfl
   ·have hke:k=fr.length:=by omega
    have hli:decide ((k:Int)<(fr.length:Int))=false:=decide_eq_false (by omega)
    repeat' first|(refine gS ?_;simp only[go_sem,hli])|refine gA ?_|(refine gD (fun h=>?_) (fun h=>?_)<;>try exact aB h)|fail
    rw[hke,List.drop_length,nZ]at hak
    exact⟨(dk,M2),hak,hG3.symm⟩
  simp only at hdk
  rw[hdk]at hz
  simp only[if_true]at hz
  have hnl0:=zY G i j c dk
  obtain⟨G1,hG1⟩:∃G1,pS G i j c dk=G1:=⟨_,rfl⟩
  have hb1:KB i j c dk G1:=hG1▸hb.put dk
  have hGl:G1.length=G.length:=by rw[←hG1,zY]
  have htw:∀d2,pS G1 i j c d2=pS G i j c d2:=fun d2=>by rw[←hG1,hb.twice]
  simp only
  rw[hG1]
  have r0:=hb1.b1;have r1:=aZ hb1.b1 trivial;have r2:=aZ hb1.b2 trivial;have hne:=hb1.ne;have hl1:=hb1.lt1;have hl2:=hb1.lt2;have r3:=hb1.r3;have r4:=hb1.r4;have hnl:=hGl;simp only[dkC]at r0 r1;have qs:=yN hl1 hl2 hne hGl
  subst hz
  repeat' first|(refine gS ?_;simp only[go_sem,r0,r1,r2,r3,r4,hnl,qs,aI])|refine gA ?_|(refine gD (fun h=>?_) (fun h=>?_)<;>try exact aB h)|fail
  refine sC hb rfl ?_
  rw[←htw]
  exact hb1.one (d':={dk with a:={dk.a with n:=fr.length},m:={dk.m with seen:=sn}}) rfl
end Go.Proofs.YthhdnjiodklmmaaGreatDoor
/- What the document's packages hold texts, events and answers against each other by; short calls. No condition. -/
namespace Go.Gw
def longCal(c:Cal):Bool:=decide (1000<(c.path.length:Int))||decide (1000<(c.to.length:Int))||decide (5000<(c.data.length:Int))
def mE(l:List Cal)(n:Int):Bool:=l.all (fun x=> !longCal x)&&decide ((l.length:Int)≤n)
theorem ev_eq(a b:Evt):(decide (a.kind=b.kind)&&decide (a.path=b.path))=decide (a=b):=by
 obtain⟨_,_⟩:=a
 obtain⟨_,_⟩:=b
 rw[Bool.eq_iff_iff];simp
end Go.Gw
namespace Go.Proofs.YthhdnjiodklmmaaGreatDoor
open Go Go.Aw Go.Gw
set_option linter.unusedSimpArgs false
set_option maxRecDepth 20000
set_option maxHeartbeats 4000000
theorem bDT(b1 b2:Bool)(l m:List Evt)(H:AHeap):cN Tryz.prog 20 [.sl b1 (l.map kE),.sl b2 (m.map kE)] H (.bool (decide (l=m))):=by
 refine iT fun hok _=>?_
 have hl:=mS hok
 rw[List.length_map]at hl
 refine aQ Tryz.func20 rfl (Nat.le_of_ble_eq_true rfl) ?_
 repeat' first|(refine gS ?_;simp only[go_sem])|refine gA ?_|(refine gD (fun h=>?_) (fun h=>?_)<;>try exact aB h)|fail
 ·exact aT (by simp only[go_sem]) (.of (by rw[decide_eq_false (fun e=>by subst e;simp at h)]))
 ·have hlen:l.length=m.length:=by simp at h;omega
  refine aR (ι:=Nat) (fun i=>[(0,.sl b1 (l.map kE)),(1,.sl b2 (m.map kE)),(5,.int .i64 i)]) (fun _=>H) (fun i=>i≤l.length∧l.take i=m.take i) (fun i=>l.length-i) 0 ⟨Nat.zero_le _,rfl⟩ ?_ rfl ?_
  ·simp[go_sem]
  ·rintro i ⟨hi,he⟩
   by_cases hlt:i<l.length
   ·have hp:=bF kE hlt
    have hq:=bF kE (show i<m.length by omega)
    repeat' first|(refine gS ?_;simp only[go_sem,hp,hq,kE])|refine gA ?_|(refine gD (fun h=>?_) (fun h=>?_)<;>try exact aB h)|fail
    ·rw[ev_eq]at h
     have hne:l[i]≠m[i]:=by simpa using h
     exact aT (by simp only[go_sem]) (.of (by rw[decide_eq_false (fun e=>hne (by subst e;rfl))]))
    ·rw[ev_eq]at h
     have heq:l[i]=m[i]:=by simpa using h
     exact⟨i+1,⟨hlt,by rw[List.take_succ_eq_append_getElem hlt,List.take_succ_eq_append_getElem (by omega),he,heq]⟩,by omega,by rw[wrap_i64 (by omega) (by omega)];rfl⟩
   ·have hi':i=l.length:=by omega
    subst hi'
    repeat' first|(refine gS ?_;simp only[go_sem])|refine gA ?_|(refine gD (fun h=>?_) (fun h=>?_)<;>try exact aB h)|fail
    exact aT (by simp only[go_sem]) (.of (by rw[decide_eq_true (by rw[List.take_length,hlen,List.take_length]at he;exact he)]))
theorem same1_s(b1 b2:Bool)(l m:List Txt)(H:AHeap):cN Tryz.prog 36 [.sl b1 (l.map bEY),.sl b2 (m.map bEY)] H (.bool (decide (l=m))):=by
 refine iT fun hok _=>?_
 have hl:=mS hok
 rw[List.length_map]at hl
 refine aQ Tryz.func36 rfl (Nat.le_of_ble_eq_true rfl) ?_
 repeat' first|(refine gS ?_;simp only[go_sem])|refine gA ?_|(refine gD (fun h=>?_) (fun h=>?_)<;>try exact aB h)|fail
 ·exact aT (by simp only[go_sem]) (.of (by rw[decide_eq_false (fun e=>by subst e;simp at h)]))
 ·have hlen:l.length=m.length:=by simp at h;omega
  refine aR (ι:=Nat) (fun i=>[(0,.sl b1 (l.map bEY)),(1,.sl b2 (m.map bEY)),(5,.int .i64 i)]) (fun _=>H) (fun i=>i≤l.length∧l.take i=m.take i) (fun i=>l.length-i) 0 ⟨Nat.zero_le _,rfl⟩ ?_ rfl ?_
  ·simp[go_sem]
  ·rintro i ⟨hi,he⟩
   by_cases hlt:i<l.length
   ·have hp:=bF bEY hlt
    have hq:=bF bEY (show i<m.length by omega)
    repeat' first|(refine gS ?_;simp only[go_sem,hp,hq,bEY])|refine gA ?_|(refine gD (fun h=>?_) (fun h=>?_)<;>try exact aB h)|fail
    ·skip
     have hne:l[i]≠m[i]:=by simpa using h
     exact aT (by simp only[go_sem]) (.of (by rw[decide_eq_false (fun e=>hne (by subst e;rfl))]))
    ·skip
     have heq:l[i]=m[i]:=by simpa using h
     exact⟨i+1,⟨hlt,by rw[List.take_succ_eq_append_getElem hlt,List.take_succ_eq_append_getElem (by omega),he,heq]⟩,by omega,by rw[wrap_i64 (by omega) (by omega)];rfl⟩
   ·have hi':i=l.length:=by omega
    subst hi'
    repeat' first|(refine gS ?_;simp only[go_sem])|refine gA ?_|(refine gD (fun h=>?_) (fun h=>?_)<;>try exact aB h)|fail
    exact aT (by simp only[go_sem]) (.of (by rw[decide_eq_true (by rw[List.take_length,hlen,List.take_length]at he;exact he)]))
theorem jI(b1:Bool)(l:List Cal)(n:Int)(H:AHeap):cN Tryz.prog 13 [.sl b1 (l.map gY),.int .i64 n] H (.bool (mE l n)):=by
 refine iT fun hok _=>?_
 have hl:=mS hok
 rw[List.length_map]at hl
 refine aQ Tryz.func13 rfl (Nat.le_of_ble_eq_true rfl) ?_
 repeat' first|(refine gS ?_;simp only[go_sem])|refine gA ?_|(refine gD (fun h=>?_) (fun h=>?_)<;>try exact aB h)|fail
 refine aR (ι:=Nat) (fun i=>[(0,.sl b1 (l.map gY)),(1,.int .i64 n),(5,.int .i64 i)]) (fun _=>H) (fun i=>i≤l.length∧∀x∈l.take i,longCal x=false) (fun i=>l.length-i) 0 ⟨Nat.zero_le _,by simp⟩ ?_ rfl ?_
 ·simp[go_sem]
 ·rintro i ⟨hi,he⟩
  by_cases hlt:i<l.length
  ·have hp:=bF gY hlt
   repeat' first|(refine gS ?_;simp only[go_sem,hp,gY])|refine gA ?_|(refine gD (fun h=>?_) (fun h=>?_)<;>try exact aB h)|fail
   ·exact aT (by simp only[go_sem]) (.of (by
     have:mE l n=false:=by
      unfold mE
      rw[Bool.and_eq_false_iff]
      left
      rw[Bool.eq_false_iff]
      intro q
      have q2:=List.all_eq_true.1 q l[i] (List.getElem_mem _)
      have h':longCal l[i]=true:=h
      rw[h']at q2;cases q2
     rw[this]))
   ·refine⟨i+1,⟨hlt,fun x hx=>?_⟩,by omega,by rw[wrap_i64 (by omega) (by omega)];rfl⟩
    rw[List.take_succ_eq_append_getElem hlt,List.mem_append]at hx
    rcases hx with hx|hx
    ·exact he x hx
    ·simp at hx;subst hx;exact h
  ·have hi':i=l.length:=by omega
   subst hi'
   repeat' first|(refine gS ?_;simp only[go_sem])|refine gA ?_|(refine gD (fun h=>?_) (fun h=>?_)<;>try exact aB h)|fail
   refine aT (by simp only[go_sem]) (.of ?_)
   rw[List.take_length]at he
   have:l.all (fun x=> !longCal x)=true:=List.all_eq_true.2 fun x hx=>by rw[he x hx];rfl
   rw[mE,this,Bool.true_and]
theorem same1_c(b1 b2:Bool)(l m:List Txt)(H:AHeap):cN Tryz.prog 36 [.sl b1 (l.map AV.str),.sl b2 (m.map AV.str)] H (.bool (decide (l=m))):=same1_s b1 b2 l m H
def iC(f2 f3:Bool)(a:Ans):AV:=.agg [.int .i64 a.err,.str a.data,.sl f2 (a.names.map AV.str),.int .i64 a.n,.sl f3 (a.events.map kE)]
@[go_sem] theorem pu_anA(f2 f3:Bool)(x:Ans):Pur (iC f2 f3 x)=True:=by simp only[iC,go_sem]
theorem ans_eq(a b:Ans):(decide (a.names=b.names)&&decide (a.events=b.events)&&decide (a.err=b.err)&&decide (a.data=b.data)&&decide (a.n=b.n))=decide (a=b):=by
 obtain⟨_,_,_,_,_⟩:=a
 obtain⟨_,_,_,_,_⟩:=b
 rw[Bool.eq_iff_iff];simp;constructor<;>(intro h;simp_all)
theorem bDU(f2 f3 g2 g3:Bool)(a b:Ans)(H:AHeap):cN Tryz.prog 17 [iC f2 f3 a,iC g2 g3 b] H (.bool (decide (a=b))):=by
 refine aQ Tryz.func17 rfl (Nat.le_of_ble_eq_true rfl) ?_
 have h1:=same1_c f2 g2 a.names b.names
 have h2:=bDT f3 g3 a.events b.events
 rw[←ans_eq]
 have ct0:=ct h1 aXq;have ct1:=ct h2 aD1;repeat' first|((first|refine gK ?_|refine gS ?_);simp only[go_sem,iC])|refine gA ?_|(refine gD (fun h=>?_) (fun h=>?_)<;>try exact aB h)|fail
 refine done (by simp only[go_sem]) (.of (congrArg AV.bool ?_))
 generalize decide (a.names=b.names)=p1
 generalize decide (a.events=b.events)=p2
 cases p1<;>cases p2<;>simp[Bool.and_assoc]
end Go.Proofs.YthhdnjiodklmmaaGreatDoor
/- model.New and Do: what they answer. No condition but what is known of a replica. -/
namespace Go.Aw
open Go
theorem kI_nil(d:TypeDesc):keysIn d []=True:=eq_true fun _ h=>by cases h
theorem kI_cons(d:TypeDesc)(p:AV×AV×Nat)(es:List (AV×AV×Nat)):keysIn d (p::es)=(aYy d p.1=true∧keysIn d es):=propext List.forall_mem_cons
theorem kE_int(k l:IntKind)(a b:Int):sU (.int k a) (.int l b)=decide (a=b):=rfl
end Go.Aw
namespace Go.Gw
open Go Go.Aw Go.Proofs.YthhdnjiodklmmaaGreatDoor
def wayE:List (AV×AV×Nat):=[(.int .i64 1,.func (.func 67) [] [],0),(.int .i64 2,.func (.func 67) [] [],1),(.int .i64 3,.func (.func 68) [] [],2),(.int .i64 4,.func (.func 69) [] [],3),(.int .i64 5,.func (.func 70) [] [],4),(.int .i64 6,.func (.func 71) [] [],5),(.int .i64 7,.func (.func 72) [] [],6),(.int .i64 8,.func (.func 73) [] [],7),(.int .i64 9,.func (.func 74) [] [],8),(.int .i64 10,.func (.func 75) [] [],9),(.int .i64 11,.func (.func 76) [] [],10),(.int .i64 12,.func (.func 77) [] [],11),(.int .i64 13,.func (.func 78) [] [],12)]
def wayId(k:Int):FuncId:=if k=1∨k=2 then 67 else if k=3 then 68 else if k=4 then 69 else if k=5 then 70 else if k=6 then 71
 else if k=7 then 72 else if k=8 then 73 else if k=9 then 74 else if k=10 then 75 else if k=11 then 76 else if k=12 then 77 else 78
theorem wayE_cl(n:Nat):ClB n (.map wayE 13):=fun p hp=>by
 simp only[wayE,List.mem_cons,List.not_mem_nil,or_false]at hp
 rcases hp with rfl|rfl|rfl|rfl|rfl|rfl|rfl|rfl|rfl|rfl|rfl|rfl|rfl
 all_goals exact⟨.int _ _,.func _ _ _ (fun _ _ h=>by simp at h) (fun _ _ h=>by simp at h)⟩
theorem mi_DS{m:Mdl}(h:MI m):DS m where
 nodes:=by have:=h.nodes.len;omega
 ents:=by have:=h.cap;omega
 ops:=fun e he=>aGX (h.good.ok e.op (List.mem_map.2 ⟨e,he,rfl⟩))
 snaps:=by have:=h.snaps;omega
 watches:=by have:=h.watches;omega
 snap:=fun s hs=>by have:=(h.snap s hs).len;omega
 evs:=fun w hw=>by have:=(h.watch w hw).2.1;omega
theorem aMj{q:Int}{l:List Nd}(h:NsI q l):SmN l:=fun n hn=>by have:=(h.nd n hn).name;omega
theorem mi_TS{m:Mdl}(h:MI m){d:Dsk}(hd:MI d.m):TS m.log.nodes d where
 wf1:=h.nodes.frs.wf
 wf2:=hd.nodes.frs.wf
 sm1:=aMj h.nodes
 sm2:=aMj hd.nodes
 len:=by have:=h.nodes.len;omega
 dir:=fun w hw=>(hd.watch w hw).1
def doV(r:Mdl×Ans×List Opn):AV:=.tup [cO false false false false r.1,iC false false r.2.1,.sl false (r.2.2.map opA)]
theorem sim_md(f1 f2 f3 f4:Bool)(m:Mdl):Sim (cO f1 f2 f3 f4 m) (cO false false false false m):=
 .agg _ _ rfl (rJ (.sl _ _) (rJ (.sl _ _) (rJ (.refl _) (rJ (.refl _) (rJ (.sl _ _) (rJ (.sl _ _) (rJ (.refl _) aAG)))))))
theorem sim_an(f1 f2:Bool)(a:Ans):Sim (iC f1 f2 a) (iC false false a):=
 .agg _ _ rfl (rJ (.refl _) (rJ (.refl _) (rJ (.sl _ _) (rJ (.refl _) (rJ (.sl _ _) aAG)))))
theorem sim_do(f1 f2 f3 f4 g1 g2 h1:Bool)(m:Mdl)(a:Ans)(o:List Opn):Sim (.tup [cO f1 f2 f3 f4 m,iC g1 g2 a,.sl h1 (o.map opA)]) (doV (m,a,o)):=
 .tup _ _ rfl (rJ (sim_md _ _ _ _ _) (rJ (sim_an _ _ _) (rJ (.sl _ _) aAG)))
theorem an_cl(n:Nat)(f g:Bool)(a:Ans):Cl n (iC f g a):=(Pur.agg _ fun x hx=>by
 simp only[List.mem_cons,List.not_mem_nil,or_false]at hx
 rcases hx with rfl|rfl|rfl|rfl|rfl
 ·exact .int _ _
 ·exact .str _
 ·exact .sl _ _ fun x hx=>by(obtain⟨y, -,rfl⟩:=List.mem_map.1 hx;exact .str _)
 ·exact .int _ _
 ·exact .sl _ _ fun x hx=>by(obtain⟨y, -,rfl⟩:=List.mem_map.1 hx;simp only[kE,go_sem])).cl n
theorem do_frz{n i v k lc:Nat}{H:AHeap}(m:Mdl)(a:Ans)(o:List Opn)(hn:n≤i)(hh:hget H i=.cells v (flA opA o))(hk:o.length=k):Frz n H (.tup [cO false false false false m,iC false false a,.osl 7 i v 0 k lc]) (doV (m,a,o)):=
 .tup _ _ rfl (iY (.cl _ ((Pur.cl (by simp only[go_sem])) n)) (iY (.cl _ (an_cl n false false a)) (iY (aAm hn hh hk (fun _=>rfl) (fun x=>by simp only[go_sem])) iV)))
end Go.Gw
namespace Go.Proofs.YthhdnjiodklmmaaGreatDoor
open Go Go.Aw Go.Gw
set_option linter.unusedSimpArgs false
set_option linter.unusedVariables false
set_option maxRecDepth 20000
set_option maxHeartbeats 4000000
def plGwDo_0:List Pl:=[.eff [],.pure 1,.pure 1,.pure 0,.free,.free,.free,.free,.free]
def plGwDo_1:List Pl:=[.free,.pure 0,.pure 0,.pure 0,.free,.pure 0,.pure 0,.pure 0,.free,.pure 0,.pure 0,.pure 0,.eff [true,true,true,true,true,true,false,false,false],.eff [true,true,true,false,false,false],.free]
attribute [go_sem] plGwDo_0 plGwDo_1
theorem nD(r:Int)(H:AHeap):cN Tryz.prog 12 [.int .i64 r] H (.tup [cO false false false false (wC r).1,.int .i64 (wC r).2]):=by
 refine aQ Tryz.func12 rfl (Nat.le_of_ble_eq_true rfl) ?_
 unfold wC
 by_cases h1:r<0
 ·have d1:decide (r<0)=true:=decide_eq_true h1
  rw[if_neg (by omega)]
  repeat' first|(refine gS ?_;simp only[go_sem,d1])|refine gA ?_|(refine gD (fun h=>?_) (fun h=>?_)<;>try exact aB h)|fail
  exact done (by simp only[go_sem]) (.tup _ _ rfl (rJ (.agg _ _ rfl (rJ (.sl _ _) (rJ (.sl _ _) (rJ (.refl _) (rJ (.refl _) (rJ (.sl _ _) (rJ (.sl _ _) (rJ (.refl _) aAG)))))))) (rJ (.refl _) aAG)))
 have d1:decide (r<0)=false:=decide_eq_false h1
 by_cases h2:63<r
 ·have d2:decide (63<r)=true:=decide_eq_true h2
  rw[if_neg (by omega)]
  repeat' first|(refine gS ?_;simp only[go_sem,d1,d2])|refine gA ?_|(refine gD (fun h=>?_) (fun h=>?_)<;>try exact aB h)|fail
  exact done (by simp only[go_sem]) (.tup _ _ rfl (rJ (.agg _ _ rfl (rJ (.sl _ _) (rJ (.sl _ _) (rJ (.refl _) (rJ (.refl _) (rJ (.sl _ _) (rJ (.sl _ _) (rJ (.refl _) aAG)))))))) (rJ (.refl _) aAG)))
 have d2:decide (63<r)=false:=decide_eq_false h2
 rw[if_pos (by omega)]
 repeat' first|(refine gS ?_;simp only[go_sem,d1,d2])|refine gA ?_|(refine gD (fun h=>?_) (fun h=>?_)<;>try exact aB h)|fail
 exact done (by simp only[go_sem]) (.tup _ _ rfl (rJ (.agg _ _ rfl (rJ (.sl _ _) (rJ (.sl _ _) (rJ (.refl _) (rJ (.refl _) (rJ (.sl _ _) (rJ (.sl _ _) (rJ (.refl _) aAG)))))))) (rJ (.refl _) aAG)))
theorem ways_c(H:AHeap):ACalls Tryz.prog 32 [] H (fun v H'=>v=.map H.length∧H'=H++[.map wayE 13]):=by
 refine gR Tryz.func32 rfl (Nat.le_of_ble_eq_true rfl) ?_
 repeat' first|(refine gS ?_;simp only[go_sem,rC,kY,keyAt,kE_int,kI_nil,kI_cons,aYy,cond_false,Option.map_none,decide_false,Int.reduceEq,List.nil_append])|refine gA ?_|(refine gD (fun h=>?_) (fun h=>?_)<;>try exact aB h)|fail
 exact⟨_,[],_,(List.append_nil _).symm,by simp,aAL fun b hb=>by(rw[List.mem_singleton]at hb;subst hb;exact wayE_cl _),.cl _ (.map _ (by simp)),rfl,rfl⟩
theorem wayK{c:Cal}(hk:chkC c=true):(∃n,keyAt (.int .i64 c.kind) wayE=some (n,.func (.func (wayId c.kind)) [] []))∧aA Tryz.prog (wayId c.kind)=true:=by
 rcases bCg hk with e|e|e|e|e|e|e|e|e|e|e|e|e<;>rw[e]
 ·exact⟨⟨_,rfl⟩,aXL⟩
 ·exact⟨⟨_,rfl⟩,aXL⟩
 ·exact⟨⟨_,rfl⟩,aXM⟩
 ·exact⟨⟨_,rfl⟩,aXN⟩
 ·exact⟨⟨_,rfl⟩,aXO⟩
 ·exact⟨⟨_,rfl⟩,aXP⟩
 ·exact⟨⟨_,rfl⟩,aXQ⟩
 ·exact⟨⟨_,rfl⟩,aXR⟩
 ·exact⟨⟨_,rfl⟩,aXS⟩
 ·exact⟨⟨_,rfl⟩,aXT⟩
 ·exact⟨⟨_,rfl⟩,aXU⟩
 ·exact⟨⟨_,rfl⟩,aXV⟩
 ·exact⟨⟨_,rfl⟩,aXW⟩
theorem way_c19{m:Mdl}(h:MI m){c:Cal}(hc:CS c)(hk:chkC c=true){i j:Nat}{G:AHeap}(hb:KB i j c ⟨m,an0,[]⟩ G):aJ5 Tryz.prog (wayId c.kind) i j c (fQ c ⟨m,an0,[]⟩) G:=by
 have hs:DS (Dsk.m ⟨m,an0,[]⟩):=mi_DS h
 have hl:(Dsk.ops ⟨m,an0,[]⟩).length≤1000000:=Nat.zero_le _
 have hsm:∀l,gN m c.n=some l→SmN l:=fun l hl=>by
  unfold gN at hl
  split at hl
  ·cases hl;exact aMj h.nodes
  ·obtain⟨s,hf,rfl⟩:=Option.map_eq_some_iff.1 hl
   exact aMj (h.snap s (List.mem_of_find?_eq_some hf))
 rcases bCg hk with e|e|e|e|e|e|e|e|e|e|e|e|e
 all_goals(unfold fQ;rw[e])
 ·exact dborn_c hb hs hc hl
 ·exact dborn_c hb hs hc hl
 ·exact dwrite_c hb hs hc hl
 ·exact dread_c hb hs hc hsm
 ·exact dmove_c hb hs hc hl
 ·exact dremove_c hb hs hc hl
 ·exact dls_c hb hs hc hsm
 ·exact bDP hb hs
 ·exact bDR hb hs
 ·exact bCp hb hs hc
 ·exact dpoll_c hb hs
 ·exact bDO hb
 ·exact dmerge_c hb hs hc (Nat.zero_le _) ⟨h.cap,by have:=h.nodes.len;simp only;omega⟩
theorem iA(f1 f2 f3 f4:Bool)(m:Mdl)(h:MI m)(c:Cal)(hc:CS c)(H:AHeap):cN Tryz.prog 14 [cO f1 f2 f3 f4 m,gY c] H (doV (doM m c)):=by
 refine aQ Tryz.func14 rfl (Nat.le_of_ble_eq_true rfl) ?_
 have hck:=bB6 c hc.path hc.to
 simp only[gY]at hck
 unfold doM
 cases hk:chkC c with
 |false=>
  rw[hk]at hck
  rw[if_pos rfl]
  have ct0:=ct hck aXl;repeat' first|((first|refine gK ?_|refine gS ?_);simp only[go_sem,cO,jB,gY])|refine gA ?_|(refine gD (fun h=>?_) (fun h=>?_)<;>try exact aB h)|fail
  exact done (by simp only[go_sem]) (sim_do f1 f2 f3 f4 true true true m (errA 180) [])
 |true=>
  rw[hk]at hck
  rw[if_neg (by simp)]
  have ct0:=ct hck aXl;repeat' first|((first|refine gK ?_|refine gS ?_);simp only[go_sem,cO,jB,gY])|refine gA ?_|fail
  refine qB rfl (fun h=>by cases h) (fun _=>?_)
  refine aHL ?_
  simp only[go_sem]
  have hm:=h
  obtain⟨X2,hX2⟩:∃X:List AV,X=[.sl f1 (m.log.entries.map fR),.sl f2 (m.log.nodes.map ndA),.int .i64 m.seen,.int .i64 m.rep,.sl f3 (m.snaps.map gX),.sl f4 (m.watches.map fT),.int .i64 m.next]:=⟨_,rfl⟩
  obtain⟨X4,hX4⟩:∃X:List AV,X=[.sl true [],.sl true [],.int .i64 0,.int .i64 0,.sl true [],.sl true [],.int .i64 0]:=⟨_,rfl⟩
  obtain⟨X5,hX5⟩:∃X:List AV,X=[.int .i64 0,.str [],.sl true [],.int .i64 0,.sl true []]:=⟨_,rfl⟩
  obtain⟨D0,hD0⟩:∃D:List AV,D=[.sl f1 (m.log.entries.map fR),.sl f2 (m.log.nodes.map ndA),.int .i64 m.seen,.int .i64 m.rep,.sl f3 (m.snaps.map gX),.sl f4 (m.watches.map fT),.int .i64 m.next,.int .i64 0,.str [],.sl true [],.int .i64 0,.sl true [],.int .i64 c.kind,.str c.path,.str c.to,.str c.data,.int .i64 c.n,.sl true []]:=⟨_,rfl⟩
  refine zR (ι:=Unit) (fun _=>[(2,.ref H.length 0 0),(3,.ref (H.length+1) 0 0),(4,.ref (H.length+2) 0 0),(5,.ref (H.length+3) 0 0),(6,.sl true []),(7,.ref (H.length+4) 0 0)])
   (fun _=>H++[.cells 0 X2,.cells 0 [.int .i64 c.kind,.str c.path,.str c.to,.str c.data,.int .i64 c.n],.cells 0 X4,.cells 0 X5,.cells 0 D0]) (fun _=>True) ?_ fun _ _=>?_
  ·rw[hX2,hX4,hX5,hD0]
   repeat' first|(refine gS ?_;simp only[go_sem])|refine gA ?_|(refine gD (fun h=>?_) (fun h=>?_)<;>try exact aB h)|fail
   exact⟨(),trivial⟩
  refine aA5 (H.length+4) 17 7 (cs:=D0) (v:=0) (by simp only[go_sem]) (by rw[hD0];rfl) ?_
  refine aIu (H.length+4) (dkC (H.length+5) c ⟨m,an0,[]⟩) (v:=0) (cs:=D0.set 17 (.osl 7 (H.length+5) 1 0 0 0)) (by simp only[go_sem]) (by rw[hD0];rfl) ?_ ?_
  ·rw[hD0]
   unfold dkC
   repeat' first|exact aAG|refine rJ ?_ ?_|exact .refl _|exact .sl _ _
  simp only[go_sem]
  obtain⟨⟨kn,hka⟩,hcok⟩:=wayK hk
  have hkI:keysIn (.int .i64) wayE=True:=eq_true (by intro p hp;simp only[wayE,List.mem_cons,List.not_mem_nil,or_false]at hp;rcases hp with rfl|rfl|rfl|rfl|rfl|rfl|rfl|rfl|rfl|rfl|rfl|rfl|rfl<;>rfl)
  obtain⟨fid,hfid⟩:∃fid,wayId c.kind=fid:=⟨_,rfl⟩
  rw[hfid]at hka hcok
  obtain⟨C3,hC3⟩:∃C:List AV,C=[.int .i64 c.kind,.str c.path,.str c.to,.str c.data,.int .i64 c.n]:=⟨_,rfl⟩
  have hw:∀{i j:Nat} {G:AHeap},KB i j c ⟨m,an0,[]⟩ G→aJ5 Tryz.prog fid i j c (fQ c ⟨m,an0,[]⟩) G:=fun hb=>hfid▸way_c19 hm hc hk hb
  obtain⟨⟨e,d1⟩,hr⟩:∃r,fQ c ⟨m,an0,[]⟩=r:=⟨_,rfl⟩
  rw[hr]at hw ⊢
  refine zR (ι:=Unit) (fun _=>[(2,.ref H.length 0 0),(3,.ref (H.length+1) 0 0),(4,.ref (H.length+2) 0 0),(5,.ref (H.length+3) 0 0),(6,.sl true []),(7,.ref (H.length+4) 0 0),(8,.func (.func fid) [] []),(9,.bool true)])
   (fun _=>H++[.cells 0 X2,.cells 0 C3,.cells 0 X4,.cells 0 X5,.cells 0 (dkC (H.length+5) c ⟨m,an0,[]⟩),.cells 1 [],.map wayE 13]) (fun _=>True) ?_ fun _ _=>?_
  ·repeat' first|((first|refine mx [4] plGwDo_0 ?_|refine mx [12] plGwDo_1 ?_|refine gS ?_);simp only[go_sem])|refine gA ?_|(refine gD (fun h=>?_) (fun h=>?_)<;>try exact aB h)|fail
   refine lI (ways_c _) aXm ?_
   simp only[go_sem,hka,hkI]
   repeat' first|(refine gS ?_;simp only[go_sem,hka,hkI])|refine gA ?_|(refine gD (fun h=>?_) (fun h=>?_)<;>try exact aB h)|fail
   first|exact⟨(),trivial,⟨rfl,rfl,rfl,rfl,rfl,rfl,rfl,rfl⟩,by rw[hC3]⟩|(refine⟨(),?_⟩;rw[hC3];done)|(refine⟨(),?_⟩;rw[hC3];rfl)|fail "Z"
  repeat' first|(refine gS ?_;simp only[go_sem])|refine gA ?_|(refine gD (fun h=>?_) (fun h=>?_)<;>try exact aB h)|fail
  refine bJ (hw (i:=H.length+4) (j:=H.length+5) ⟨by omega,by simp only[go_sem],by simp only[go_sem];rfl⟩) hcok ?_
  rintro v H' ⟨rfl,rfl⟩
  unfold pS
  simp only[go_sem]
  by_cases he:e=0
  ·subst he
   rw[if_pos rfl]
   have hmi:MI d1.m:=by
    have:=way_mi hm hk (by rw[hr])
    rwa[hr]at this
   have hlen:(if d1.ops=[]then(d1.m,d1.a,[])else((aMe m.log.nodes d1).m,d1.a,d1.ops))=if d1.ops=[]then(d1.m,d1.a,([]:List Opn))else((aMe m.log.nodes d1).m,d1.a,d1.ops):=rfl
   by_cases ho:d1.ops=[]
   ·have hol:d1.ops.length=0:=by rw[ho];rfl
    rw[if_pos ho]
    repeat' first|((first|refine mx [4] plGwDo_0 ?_|refine mx [12] plGwDo_1 ?_|refine gS ?_);simp only[go_sem,hX2,hX4,hX5,dkC,hol,Int.reduceLT])|refine gA ?_|(refine gD (fun h=>?_) (fun h=>?_)<;>try exact aB h)|fail
    exact⟨_,doV (d1.m,d1.a,[]),rfl,do_frz d1.m d1.a [] (by omega) (by simp only[go_sem];rw[ho]) rfl,rfl⟩
   ·have hol:decide ((0:Int)<(d1.ops.length:Int))=true:=decide_eq_true (by have:=List.length_pos_iff.2 ho;omega)
    rw[if_neg ho]
    repeat' first|((first|refine mx [4] plGwDo_0 ?_|refine mx [12] plGwDo_1 ?_|refine gS ?_);simp only[go_sem,hX2,hX4,hX5,dkC,hol])|refine gA ?_|(refine gD (fun h=>?_) (fun h=>?_)<;>try exact aB h)|fail
    refine bJ (dtell_c (i:=H.length+4) (j:=H.length+5) (c:=c) (d:=d1) ⟨by omega,by simp only[go_sem,dkC],by simp only[go_sem]⟩ (mi_DS hmi) f2 m.log.nodes (mi_TS hm hmi)) aXn ?_
    rintro v H' ⟨rfl,rfl⟩
    unfold pS
    simp only[go_sem,dkC]
    repeat' first|((first|refine mx [4] plGwDo_0 ?_|refine mx [12] plGwDo_1 ?_|refine gS ?_);simp only[go_sem,hX2,hX4,hX5,dkC])|refine gA ?_|(refine gD (fun h=>?_) (fun h=>?_)<;>try exact aB h)|fail
    exact⟨_,doV ((aMe m.log.nodes d1).m,d1.a,d1.ops),rfl,do_frz (aMe m.log.nodes d1).m d1.a d1.ops (by omega) (by simp only[go_sem];rfl) rfl,rfl⟩
  ·have hd:decide (e=0)=false:=decide_eq_false he
   rw[if_neg he]
   repeat' first|(refine gS ?_;simp only[go_sem,hd,hX2,hX4,hX5])|refine gA ?_|(refine gD (fun h=>?_) (fun h=>?_)<;>try exact aB h)|fail
   exact done (by simp only[go_sem]) (sim_do f1 f2 f3 f4 true true true m (errA e) [])
end Go.Proofs.YthhdnjiodklmmaaGreatDoor
/- What the functions of the logs answer: All, Of, Ops. No condition. -/
namespace Go.Proofs.YthhdnjiodklmmaaGreatDoor
open Go Go.Aw Go.Gw
set_option linter.unusedSimpArgs false
set_option maxRecDepth 20000
set_option maxHeartbeats 1000000
theorem mall_c(b1 b2 b3:Bool)(g:Lg)(l:List Opn)(hf:Fit g l.length)(hl:∀o∈l,OpS o)(H:AHeap):cN Tryz.prog 53 [lgF b1 b2 g,.sl b3 (l.map opA)] H (aQ4 (lV g l) (vP g l)):=by
 refine aQ Tryz.func53 rfl (Nat.le_of_ble_eq_true rfl) ?_
 have hsm:=aJO b1 b2 g (by have:=hf.len;omega) (by have:=hf.nodes;omega)
 have hlen:l.length≤1000000:=by have:=hf.nodes;omega
 simp only[lgF,lgA,aQ4]at hsm ⊢
 have ct0:=ct hsm lO;repeat' first|((first|refine gK ?_|refine gS ?_);simp only[go_sem])|refine gA ?_|(refine gD (fun h=>?_) (fun h=>?_)<;>try exact aB h)|fail
 refine aR (ι:=Nat×AHeap) (fun x=>[(4,.ref (H.length+1) 0 0),(6,.ref (H.length+2) 0 0),(7,.int .i64 (vP g (l.take x.1))),(13,.sl b3 (l.map opA)),(14,.int .i64 l.length),(15,.int .i64 x.1)])
  (fun x=>x.2) (fun x=>x.1≤l.length∧hget x.2 (H.length+1)=.cells 0 [.sl true [],.sl true []]∧hget x.2 (H.length+2)=.cells 0 [.sl false ((lV g (l.take x.1)).entries.map fR),.sl false ((lV g (l.take x.1)).nodes.map ndA)]∧∃M,x.2=H++M)
  (fun x=>l.length-x.1) (0,_) ⟨Nat.zero_le _,by simp only[go_sem],by simp only[go_sem];rfl,⟨_,rfl⟩⟩ ?_ rfl ?_
 ·simp[go_sem,vP]
 ·rintro⟨i,X⟩ ⟨hi,r1,r2,rP⟩
  simp only at hi r1 r2 rP ⊢
  have hX1:H.length+1<X.length:=bP r1 trivial
  have hX2:H.length+2<X.length:=bP r2 trivial
  have r2':=fun M=>aK r2 trivial M
  have qs:=fun M b=>cG hX2 M b
  by_cases hlt:i<l.length
  ·have hp:=bF opA hlt
   have hli:decide ((i:Int)<(l.length:Int))=true:=decide_eq_true (by omega)
   have htk:l.take (i+1)=l.take i++[l[i]]:=List.take_succ_eq_append_getElem hlt
   have hops:∀o∈l.take i,OpS o:=fun o ho=>hl o (List.mem_of_mem_take ho)
   have hfi:Fit (lV g (l.take i)) 1:=Fit.all (k:=1) (hf.less (by rw[List.length_take];omega)) hops
   have hadd:=aQ5 false false (lV g (l.take i)) l[i] (hl _ (List.getElem_mem hlt)) hfi.ops (by have:=hfi.nodes;omega) (by have:=hfi.len;omega)
   have hG:lV g (l.take (i+1))=fB (lV g (l.take i)) l[i]:=by rw[htk,bB7];rfl
   have hN:vP g (l.take (i+1))=vP g (l.take i)+(if xE (lV g (l.take i)) l[i]=0 then 0 else 1):=by rw[htk,bB8];simp[vP]
   have hnle:=bDs g (l.take i)
   rw[List.length_take]at hnle
   have hw:IntKind.i64.wrap (vP g (l.take i)+1)=vP g (l.take i)+1:=wrap_i64 (by omega) (by omega)
   simp only[lgF,lgA,opA,aQ4]at hadd
   have ct0:=ct hadd dE;repeat' first|((first|refine gK ?_|refine gS ?_);simp only[go_sem,hp,opA,hli,r2',qs,hw])|refine gA ?_|(refine gD (fun h=>?_) (fun h=>?_)<;>try exact aB h)|fail
   ·have he:¬xE (lV g (l.take i)) l[i]=0:=by simpa using h
    rw[if_neg he]at hN
    exact⟨(i+1,_),⟨hlt,aK ((bW (by omega) _).trans r1) trivial _,by simp only;rw[hG];exact aK (b:=.cells 0 [.sl false ((fB (lV g (l.take i)) l[i]).entries.map fR),.sl false ((fB (lV g (l.take i)) l[i]).nodes.map ndA)]) (fI hX2 _) trivial _,tX (eE rP (by omega) _) _⟩,by simp only;omega,⟨by simp only;rw[hN],congrArg _ (bI hlt (by omega))⟩,rfl⟩
   ·have he:xE (lV g (l.take i)) l[i]=0:=by simpa using h
    rw[if_pos he]at hN
    exact⟨(i+1,_),⟨hlt,aK ((bW (by omega) _).trans r1) trivial _,by simp only;rw[hG];exact aK (b:=.cells 0 [.sl false ((fB (lV g (l.take i)) l[i]).entries.map fR),.sl false ((fB (lV g (l.take i)) l[i]).nodes.map ndA)]) (fI hX2 _) trivial _,tX (eE rP (by omega) _) _⟩,by simp only;omega,⟨by simp only;rw[hN,Int.add_zero],congrArg _ (bI hlt (by omega))⟩,rfl⟩
  ·have hie:i=l.length:=by omega
   subst hie
   have hli:decide ((l.length:Int)<(l.length:Int))=false:=by simp
   have sS:∀b,hget (aD X (H.length+1) b) (H.length+1)=b:=fun b=>fI hX1 b
   rw[List.take_length]at r2 ⊢
   repeat' first|(refine gS ?_;simp only[go_sem,r1,r2,hli,sS])|refine gA ?_|(refine gD (fun h=>?_) (fun h=>?_)<;>try exact aB h)|fail
   obtain⟨M2,hM2⟩:=eE rP (i:=H.length+1) (by omega) (.cells 0 [.sl false ((lV g l).entries.map fR),.sl false ((lV g l).nodes.map ndA)])
   exact⟨M2,_,hM2,.cl _ (Pur.cl (by simp only[go_sem]) _),rfl⟩
theorem aBo(l:List Opn):∀e∈l.map opA,e.cells.length=7:=fun e he=>by
 obtain⟨x,_,rfl⟩:=List.mem_map.1 he;rfl
theorem pur_op(l:List Opn):∀e∈l.map opA,Pur e:=fun e he=>by
 obtain⟨x,_,rfl⟩:=List.mem_map.1 he;exact(by simp only[go_sem])
def opZ:AV:=.agg [.int .i64 0,.int .i64 0,.int .i64 0,.int .i64 0,.int .i64 0,.str [],.str []]
theorem flat_opZ(n:Nat):(List.flatMap AV.cells (List.replicate n opZ)).length=n * 7:=by
 induction n with
 |zero=>rfl
 |succ n ih=>rw[List.replicate_succ,List.flatMap_cons,List.length_append,ih];simp[opZ,AV.cells];omega
theorem aBp(l:List Opn):(List.flatMap AV.cells (l.map opA)).length=l.length * 7:=(qD (aBo l)).trans (by rw[List.length_map])
theorem aRA(b1 b2:Bool)(g:Lg)(hn:g.entries.length≤1000000)(H:AHeap):cN Tryz.prog 29 [lgF b1 b2 g] H (.sl false ((opsG g).map opA)):=by
 refine aQ Tryz.func29 rfl (Nat.le_of_ble_eq_true rfl) ?_
 simp only[lgF]
 have hz:opZ=.agg [.int .i64 0,.int .i64 0,.int .i64 0,.int .i64 0,.int .i64 0,.str [],.str []]:=rfl
 repeat' first|(refine gS ?_;simp only[go_sem,←hz])|refine gA ?_|(refine gD (fun h=>?_) (fun h=>?_)<;>try exact aB h)|fail
 refine aR (ι:=Nat×AHeap) (fun x=>[(3,.osl 7 (H.length+1) 1 0 x.1 g.entries.length),(11,.sl b1 (g.entries.map fR)),(12,.int .i64 g.entries.length),(13,.int .i64 x.1)])
  (fun x=>x.2) (fun x=>x.1≤g.entries.length∧hget x.2 (H.length+1)=.cells 1 (List.flatMap AV.cells (((opsG g).take x.1).map opA)++List.flatMap AV.cells (List.replicate (g.entries.length-x.1) opZ))∧∃M,x.2=H++M)
  (fun x=>g.entries.length-x.1) (0,_) ⟨Nat.zero_le _,by simp only[go_sem];simp,⟨_,rfl⟩⟩ ?_ rfl ?_
 ·simp[go_sem]
 ·rintro⟨i,X⟩ ⟨hi,r1,rP⟩
  simp only at hi r1 rP ⊢
  have hX1:H.length+1<X.length:=bP r1 trivial
  have r1':=fun M=>aK r1 trivial M
  have qs:=fun M b=>cG hX1 M b
  by_cases hlt:i<g.entries.length
  ·have hp:=bF fR hlt
   have hli:decide ((i:Int)<(g.entries.length:Int))=true:=decide_eq_true (by omega)
   have hne:¬i=g.entries.length:=by omega
   have hlo:(opsG g).length=g.entries.length:=List.length_map ..
   have hlt2:i<(opsG g).length:=by omega
   have htk:(opsG g).take (i+1)=(opsG g).take i++[g.entries[i].op]:=by
    rw[List.take_succ_eq_append_getElem hlt2];congr 2;exact List.getElem_map _
   have hfl:(List.flatMap AV.cells (((opsG g).take i).map opA)).length=i * 7:=by rw[aBp,List.length_take];congr 1;omega
   obtain⟨m,hm⟩:∃m,g.entries.length-i=m+1:=⟨g.entries.length-i-1,by omega⟩
   have hm2:g.entries.length-(i+1)=m:=by omega
   have hsp:cT (List.flatMap AV.cells (((opsG g).take i).map opA)++List.flatMap AV.cells (List.replicate (g.entries.length-i) opZ)) (i * 7) (lX g.entries[i].op)=List.flatMap AV.cells (((opsG g).take (i+1)).map opA)++List.flatMap AV.cells (List.replicate (g.entries.length-(i+1)) opZ):=by
    rw[gL hfl,hm,hm2,htk,List.map_append,List.flatMap_append,List.replicate_succ,List.flatMap_cons,List.append_assoc]
    rfl
   simp only[lX]at hsp
   have hlz:=flat_opZ (g.entries.length-i)
   repeat' first|(refine gS ?_;simp only[go_sem,hp,fR,hli,hne,r1',qs,hfl,hlz,hsp])|refine gA ?_|(refine gD (fun h=>?_) (fun h=>?_)<;>try exact aB h)|fail
   refine⟨⟨by omega,by omega,fun e he=>by rw[he];rfl⟩,?_⟩
   repeat' first|(refine gS ?_;simp only[go_sem])|refine gA ?_|(refine gD (fun h=>?_) (fun h=>?_)<;>try exact aB h)|fail
   refine⟨(i+1,_),⟨hlt,aK (b:=.cells 1 (List.flatMap AV.cells (((opsG g).take (i+1)).map opA)++List.flatMap AV.cells (List.replicate (g.entries.length-(i+1)) opZ))) (fI hX1 _) trivial _,tX (eE rP (by omega) _) _⟩,by simp only;omega,⟨rfl,congrArg _ (bI hlt (by omega))⟩,rfl⟩
  ·have hie:i=g.entries.length:=by omega
   subst hie
   have hli:decide ((g.entries.length:Int)<(g.entries.length:Int))=false:=by simp
   repeat' first|(refine gS ?_;simp only[go_sem,r1,hli])|refine gA ?_|(refine gD (fun h=>?_) (fun h=>?_)<;>try exact aB h)|fail
   obtain⟨M,hM⟩:=rP
   subst hM
   have hlo:(opsG g).length=g.entries.length:=List.length_map ..
   exact iU (es:=(opsG g).map opA) (rest:=[]) (by omega) r1 (by rw[List.take_of_length_le (by omega)];simp) (by rw[List.length_map];exact hlo) (aBo _) (pur_op _) rfl
end Go.Proofs.YthhdnjiodklmmaaGreatDoor
/- model.All and Replay: what they answer. No condition but what is known of a replica. -/
namespace Go.Gw
open Go Go.Aw Go.Proofs.YthhdnjiodklmmaaGreatDoor
abbrev anF:Ans→AV:=iC false false
theorem anF_pur(x:Ans):Pur (anF x):=.agg _ fun y hy=>by
 simp only[List.mem_cons,List.not_mem_nil,or_false]at hy
 rcases hy with rfl|rfl|rfl|rfl|rfl
 ·exact .int _ _
 ·exact .str _
 ·exact .sl _ _ fun x hx=>by(obtain⟨y, -,rfl⟩:=List.mem_map.1 hx;exact .str _)
 ·exact .int _ _
 ·exact .sl _ _ fun x hx=>by(obtain⟨y, -,rfl⟩:=List.mem_map.1 hx;simp only[kE,go_sem])
theorem allM_step(m:Mdl)(c:Cal)(l:List Cal):aCz m (c::l)=((aCz (doM m c).1 l).1,(doM m c).2.1::(aCz (doM m c).1 l).2):=rfl
end Go.Gw
namespace Go.Proofs.YthhdnjiodklmmaaGreatDoor
open Go Go.Aw Go.Gw
set_option linter.unusedSimpArgs false
set_option linter.unusedVariables false
set_option maxRecDepth 20000
set_option maxHeartbeats 4000000
theorem wP(f1 f2 f3 f4 b:Bool)(m:Mdl)(h:MI m)(l:List Cal)(hl:l.length≤1000)(hc:∀c∈l,CS c)(H:AHeap):
  cN Tryz.prog 16 [cO f1 f2 f3 f4 m,.sl b (l.map gY)] H (.tup [cO false false false false (aCz m l).1,.sl false ((aCz m l).2.map (iC false false))]):=by
 refine aQ Tryz.func16 rfl (Nat.le_of_ble_eq_true rfl) ?_
 have hl8:(l.length * 80≤140737488355328)=True:=eq_true (by omega)
 repeat' first|(refine gS ?_;simp only[go_sem,cO,jB,hl8])|refine gA ?_|(refine gD (fun h=>?_) (fun h=>?_)<;>try exact aB h)|fail
 refine aIu H.length (cO false false false false m).cells (v:=0) (cs:=(cO f1 f2 f3 f4 m).cells) (by simp only[go_sem];rfl) rfl (rJ (.sl _ _) (rJ (.sl _ _) (rJ (.refl _) (rJ (.refl _) (rJ (.sl _ _) (rJ (.sl _ _) (rJ (.refl _) aAG))))))) ?_
 simp only[go_sem]
 obtain⟨Z,hZ⟩:∃Z,Z=List.flatMap AV.cells (List.replicate l.length (AV.agg [.int .i64 0,.str [],.sl true [],.int .i64 0,.sl true []])):=⟨_,rfl⟩
 have hZl:Z.length=l.length * 5:=by
  rw[hZ]
  induction l.length with
  |zero=>rfl
  |succ n ih=>rw[List.replicate_succ,List.flatMap_cons,List.length_append,ih];simp[AV.cells];omega
 rw[←hZ]
 obtain⟨B4,hB4⟩:∃B:List AV,B=[.sl true [],.sl true [],.int .i64 0,.int .i64 0,.sl true [],.sl true [],.int .i64 0]:=⟨_,rfl⟩
 rw[←hB4]
 obtain⟨R,hR⟩:∃R,R=aCz m l:=⟨_,rfl⟩
 rw[←hR]
 refine aR (ι:=Nat×Mdl×List Ans×AHeap) (fun s=>[(2,.ref H.length 0 0),(4,.ref (H.length+1) 0 0),(6,.osl 5 (H.length+2) 1 0 s.1 l.length),(13,.sl b (l.map gY)),(14,.int .i64 l.length),(15,.int .i64 s.1)])
  (fun s=>H++(.cells 0 (cO false false false false s.2.1).cells::.cells 0 B4::.cells 1 (flA anF s.2.2.1++Z.drop (s.1 * 5))::s.2.2.2))
  (fun s=>s.1≤l.length∧s.2.2.1.length=s.1∧MI s.2.1∧R=((aCz s.2.1 (l.drop s.1)).1,s.2.2.1++(aCz s.2.1 (l.drop s.1)).2)) (fun s=>l.length-s.1) (0,m,[],[]) ⟨Nat.zero_le _,rfl,h,by simp[hR]⟩ ?_ ?_ ?_
 ·simp[go_sem]
 ·simp[aJW]
 rintro⟨k,mk,an,M⟩ ⟨hk,hal,hmi,hr⟩
 simp only at hk hal hmi hr ⊢
 obtain⟨G,hG⟩:∃G,H++(.cells 0 (cO false false false false mk).cells::.cells 0 B4::.cells 1 (flA anF an++Z.drop (k * 5))::M)=G:=⟨_,rfl⟩
 rw[hG]
 have g0:hget G H.length=.cells 0 (cO false false false false mk).cells:=by rw[←hG];simp only[go_sem]
 have g2:hget G (H.length+2)=.cells 1 (flA anF an++Z.drop (k * 5)):=by rw[←hG];simp only[go_sem]
 have gs:∀X Y,aD (aD G (H.length+2) Y) H.length X=H++(X::.cells 0 B4::Y::M):=fun X Y=>by rw[←hG];simp only[go_sem]
 have g1:∀L,aD (G++L) (H.length+1)=aD (G++L) (H.length+1):=fun L=>rfl
 have r0:=g0;have r1:=aZ g0 trivial;have r2:=aZ g2 trivial;have hl1:=bP g0 trivial;have hl2:=bP g2 trivial;have r3:=fun X L=>aK (bH g2 (show ¬H.length=H.length+2 by omega) X) trivial L;have r4:=fun X=>bH g2 (show ¬H.length=H.length+2 by omega) X;have hnl:=aI G (H.length);have qs:=yN hl1 hl2 (show H.length<H.length+2 by omega) rfl
 have hfl:=gB (enc:=anF) (s:=5) (fun _=>rfl) an
 rw[hal]at hfl
 by_cases hlt:k<l.length
 ·have hgd:=bF gY hlt
  have hdr:=List.drop_eq_getElem_cons hlt
  rw[hdr,allM_step]at hr
  have hcs:=hc _ (List.getElem_mem hlt)
  obtain⟨c,hcc⟩:∃c,c=l[k]:=⟨_,rfl⟩
  rw[←hcc]at hgd hr hcs
  have hdo:=iA false false false false mk hmi c hcs
  have hmi2:=nB hmi c
  obtain⟨⟨m2,a2,o2⟩,hr2⟩:∃r,doM mk c=r:=⟨_,rfl⟩
  rw[hr2]at hdo hr hmi2
  simp only[doV,cO,jB,gY,iC]at hdo
  simp only[gY]at hgd
  have hli:decide ((k:Int)<(l.length:Int))=true:=decide_eq_true (by omega)
  have hw:=bI hlt (by omega)
  have hkn:(k=l.length)=False:=eq_false (by omega)
  have hsp:cT (flA anF an++Z.drop (k * 5)) (k * 5) (anF a2).cells=flA anF (an++[a2])++Z.drop ((k+1) * 5):=by
   rw[gL hfl,iW,mZ,aJW,List.drop_drop,List.append_nil,List.append_assoc]
   congr 3
   show k * 5+5=_
   omega
  simp only[iC,AV.cells]at hsp
  have hzl:(flA anF an++Z.drop (k * 5)).length=l.length * 5:=by rw[List.length_append,List.length_drop,hfl,hZl];omega
  have hq1:(∀e,e=AV.agg [.int .i64 a2.err,.str a2.data,.sl false (a2.names.map AV.str),.int .i64 a2.n,.sl false (a2.events.map kE)]→e.cells.length=5)=True:=eq_true (fun e he=>by rw[he];rfl)
  have ct0:=ct hdo aJ;repeat' first|((first|refine gK ?_|refine gS ?_);simp only[go_sem,r0,r1,r2,r3,r4,hnl,qs,aI,cO,jB,hgd,hli,hlt,hkn,hsp,hzl,hq1])|refine gA ?_|(refine gD (fun h=>?_) (fun h=>?_)<;>try exact aB h)|fail
  refine⟨(k+1,m2,an++[a2],M++[.cells 0 (gY c).cells,.cells 0 (anF a2).cells]),⟨hlt,by simp[hal],hmi2,by rw[hr];simp⟩,by simp only;omega,⟨rfl,congrArg _ hw⟩,?_⟩
  rw[gs]
  simp[iC,gY,AV.cells]
 ·have hke:k=l.length:=by omega
  have hli:decide ((k:Int)<(l.length:Int))=false:=decide_eq_false (by omega)
  rw[hke,List.drop_length]at hr
  simp only[aCz,List.append_nil]at hr
  have hZ0:Z.drop (k * 5)=[]:=by rw[hke,←hZl,List.drop_length]
  rw[hZ0,List.append_nil]at hG
  rw[←hG]
  repeat' first|(refine gS ?_;simp only[go_sem,cO,jB,hli,hB4])|refine gA ?_|(refine gD (fun h=>?_) (fun h=>?_)<;>try exact aB h)|fail
  rw[hr]
  exact⟨_,.tup [cO false false false false mk,.sl false (an.map anF)],rfl,.tup _ _ rfl (iY (.cl _ ((Pur.cl (x:=cO false false false false mk) (by simp only[go_sem])) _)) (iY (aAm (enc:=anF) (D:=an) (by omega) (by simp only[go_sem]) hal (fun _=>rfl) anF_pur) iV)),rfl⟩
theorem yV(f1 f2 f3 f4 b:Bool)(m:Mdl)(ops:List Opn)(hf:Fit m.log ops.length)(hl:ops.length≤100000)(ho:∀o∈ops,OpS o)(H:AHeap):
  cN Tryz.prog 26 [cO f1 f2 f3 f4 m,.sl b (ops.map opA)] H (cO false false false false (jH m ops)):=by
 refine aQ Tryz.func26 rfl (Nat.le_of_ble_eq_true rfl) ?_
 have hm:=mall_c f1 f2 b m.log ops hf ho
 simp only[lgF,aQ4,lgA]at hm
 have ct0:=ct hm aXD;repeat' first|((first|refine gK ?_|refine gS ?_);simp only[go_sem,cO,jB])|refine gA ?_|(refine gD (fun h=>?_) (fun h=>?_)<;>try exact aB h)|fail
 refine aIu H.length (.sl false ((lV m.log ops).entries.map fR)::.sl false ((lV m.log ops).nodes.map ndA)::.int .i64 m.seen::.int .i64 m.rep::.sl false (m.snaps.map gX)::.sl false (m.watches.map fT)::[.int .i64 m.next]) (v:=0)
  (cs:=.sl false ((lV m.log ops).entries.map fR)::.sl false ((lV m.log ops).nodes.map ndA)::.int .i64 m.seen::.int .i64 m.rep::.sl f3 (m.snaps.map gX)::.sl f4 (m.watches.map fT)::[.int .i64 m.next]) (by simp only[go_sem]) rfl (rJ (.refl _) (rJ (.refl _) (rJ (.refl _) (rJ (.refl _) (rJ (.sl _ _) (rJ (.sl _ _) (rJ (.refl _) aAG))))))) ?_
 simp only[go_sem]
 obtain⟨B4,hB4⟩:∃B:List AV,B=[.sl true [],.sl true [],.int .i64 0,.int .i64 0,.sl true [],.sl true [],.int .i64 0]:=⟨_,rfl⟩
 rw[←hB4]
 obtain⟨g,hg⟩:∃g,g=lV m.log ops:=⟨_,rfl⟩
 rw[←hg]
 obtain⟨R,hR⟩:∃R,R=jH m ops:=⟨_,rfl⟩
 rw[←hR]
 obtain⟨ss,hss⟩:∃ss,ss=ops.foldl (fun n o=>if opOk o=true then aA3 n o.at_ else n) m.seen:=⟨_,rfl⟩
 have hR2:R={m with log:=g,seen:=ss}:=by rw[hR,hg,hss];rfl
 refine aR (ι:=Nat×Int×AHeap) (fun s=>[(2,.ref H.length 0 0),(4,.ref (H.length+1) 0 0),(15,.sl b (ops.map opA)),(16,.int .i64 ops.length),(17,.int .i64 s.1)])
  (fun s=>H++(.cells 0 (cO false false false false {m with log:=g,seen:=s.2.1}).cells::.cells 0 B4::s.2.2))
  (fun s=>s.1≤ops.length∧ss=(ops.drop s.1).foldl (fun n o=>if opOk o=true then aA3 n o.at_ else n) s.2.1) (fun s=>ops.length-s.1) (0,m.seen,[]) ⟨Nat.zero_le _,by simp[hss]⟩ ?_ ?_ ?_
 ·simp[go_sem]
 ·simp[cO,jB,AV.cells]
 rintro⟨k,s,M⟩ ⟨hk,hs⟩
 simp only at hk hs ⊢
 obtain⟨G,hG⟩:∃G,H++(.cells 0 (cO false false false false {m with log:=g,seen:=s}).cells::.cells 0 B4::M)=G:=⟨_,rfl⟩
 by_cases hlt:k<ops.length
 ·rw[hG]
  have g0:hget G H.length=.cells 0 (cO false false false false {m with log:=g,seen:=s}).cells:=by rw[←hG];simp only[go_sem]
  have g1:=aZ g0 trivial
  have g2:=eZ g0 trivial
  have gs:∀X,aD G H.length X=H++(X::.cells 0 B4::M):=fun X=>by rw[←hG];simp only[go_sem]
  have hgd:=bF opA hlt
  have hdr:=List.drop_eq_getElem_cons hlt
  rw[hdr,List.foldl_cons]at hs
  have hos:=ho _ (List.getElem_mem hlt)
  obtain⟨o,hoo⟩:∃o,o=ops[k]:=⟨_,rfl⟩
  rw[←hoo]at hgd hs hos
  have hok:=aGa o hos
  have hse:=bDr s o.at_ true
  simp only[opA]at hgd hok
  have hli:decide ((k:Int)<(ops.length:Int))=true:=decide_eq_true (by omega)
  have hw:=bI hlt (by omega)
  cases hO:opOk o with
  |true=>
   rw[hO]at hok
   rw[hO,if_pos rfl]at hs
   have ct0:=ct hok eF;have ct1:=ct hse aXE;repeat' first|((first|refine gK ?_|refine gS ?_);simp only[go_sem,g0,g1,g2,cO,jB,hgd,hli,hlt])|refine gA ?_|(refine gD (fun h=>?_) (fun h=>?_)<;>try exact aB h)|fail
   exact⟨(k+1,aA3 s o.at_,M++[.cells 0 (opA o).cells]),⟨hlt,hs⟩,by simp only;omega,congrArg _ hw,by rw[gs];simp[opA,AV.cells]⟩
  |false=>
   rw[hO]at hok
   rw[hO,if_neg (by simp)]at hs
   have ct0:=ct hok eF;have ct1:=ct hse aXE;repeat' first|((first|refine gK ?_|refine gS ?_);simp only[go_sem,g0,g1,g2,cO,jB,hgd,hli,hlt])|refine gA ?_|(refine gD (fun h=>?_) (fun h=>?_)<;>try exact aB h)|fail
   exact⟨(k+1,s,M++[.cells 0 (opA o).cells]),⟨hlt,hs⟩,by simp only;omega,congrArg _ hw,by rw[←hG];simp[opA,cO,jB,AV.cells]⟩
 ·have hke:k=ops.length:=by omega
  have hli:decide ((k:Int)<(ops.length:Int))=false:=decide_eq_false (by omega)
  rw[hke,List.drop_length]at hs
  repeat' first|(refine gS ?_;simp only[go_sem,cO,jB,hli,hB4])|refine gA ?_|(refine gD (fun h=>?_) (fun h=>?_)<;>try exact aB h)|fail
  rw[hR2]
  exact done (by simp only[go_sem]) (.of (by rw[hs];rfl))
end Go.Proofs.YthhdnjiodklmmaaGreatDoor
/- Two replicas held against each other by the document's package. No condition. -/
namespace Go.Proofs.YthhdnjiodklmmaaGreatDoor
open Go Go.Aw Go.Gw
set_option linter.unusedSimpArgs false
set_option linter.unusedVariables false
set_option maxRecDepth 20000
set_option maxHeartbeats 4000000
theorem same10_c(f g o p:Bool)(e k:List Evt)(H:AHeap):cN Tryz.prog 80 [.agg [.sl f (e.map kE),.bool o],.agg [.sl g (k.map kE),.bool p]] H (.bool (decide (e=k)&&decide (o=p))):=by
 refine aQ Tryz.func80 rfl (Nat.le_of_ble_eq_true rfl) ?_
 have h1:=bDT f g e k
 cases hd:decide (e=k)with
 |true=>
  rw[hd]at h1
  have ct0:=ct h1 aD1;repeat' first|((first|refine gK ?_|refine gS ?_);simp only[go_sem])|refine gA ?_|(refine gD (fun h=>?_) (fun h=>?_)<;>try exact aB h)|fail
  exact done (by simp only[go_sem]) (.refl _)
 |false=>
  rw[hd]at h1
  have ct0:=ct h1 aD1;repeat' first|((first|refine gK ?_|refine gS ?_);simp only[go_sem])|refine gA ?_|(refine gD (fun h=>?_) (fun h=>?_)<;>try exact aB h)|fail
  exact done (by simp only[go_sem]) (.refl _)
theorem snaps19_c(b1 b2:Bool)(l m:List Snp)(H:AHeap):cN Tryz.prog 34 [.sl b1 (l.map gX),.sl b2 (m.map gX)] H (.bool (decide (l=m))):=by
 refine iT fun hok _=>?_
 have hl:=mS hok
 rw[List.length_map]at hl
 refine aQ Tryz.func34 rfl (Nat.le_of_ble_eq_true rfl) ?_
 repeat' first|(refine gS ?_;simp only[go_sem])|refine gA ?_|(refine gD (fun h=>?_) (fun h=>?_)<;>try exact aB h)|fail
 ·exact aT (by simp only[go_sem]) (.of (by rw[decide_eq_false (fun e=>by subst e;simp at h)]))
 ·have hlen:l.length=m.length:=by simp at h;omega
  refine aR (ι:=Nat) (fun i=>[(0,.sl b1 (l.map gX)),(1,.sl b2 (m.map gX)),(5,.int .i64 i)]) (fun _=>H) (fun i=>i≤l.length∧l.take i=m.take i) (fun i=>l.length-i) 0 ⟨Nat.zero_le _,rfl⟩ ?_ rfl ?_
  ·simp[go_sem]
  ·rintro i ⟨hi,he⟩
   by_cases hlt:i<l.length
   ·have hp:=bF gX hlt
    have hq:=bF gX (show i<m.length by omega)
    obtain⟨x,hx⟩:∃x,x=l[i]:=⟨_,rfl⟩
    obtain⟨y,hy⟩:∃y,y=m[i]'(by omega):=⟨_,rfl⟩
    rw[←hx]at hp
    rw[←hy]at hq
    have hlt2:i<m.length:=by omega
    have hno:x≠y→decide (l=m)=false:=fun hne=>decide_eq_false fun e=>hne (by subst e;rw[hx,hy])
    have hyes:x=y→∃z:Nat,(z≤l.length∧l.take z=m.take z)∧l.length-z<l.length-i∧AV.int .i64 (IntKind.i64.wrap ((i:Int)+1))=AV.int .i64 z:=fun heq=>⟨i+1,⟨hlt,by rw[List.take_succ_eq_append_getElem hlt,List.take_succ_eq_append_getElem (by omega),he,←hx,←hy,heq]⟩,by omega,by rw[wrap_i64 (by omega) (by omega)];rfl⟩
    have h6:=zJ false false x.nodes y.nodes
    by_cases e1:x.nodes=y.nodes
    ·rw[decide_eq_true e1]at h6
     by_cases e2:x.n=y.n
     ·have d2:decide (x.n=y.n)=true:=decide_eq_true e2
      have ct0:=ct h6 rS;repeat' first|((first|refine gK ?_|refine gS ?_);simp only[go_sem,hp,hq,gX,hlt,hlt2,d2])|refine gA ?_|(refine gD (fun h=>?_) (fun h=>?_)<;>try exact aB h)|fail
      exact hyes (by cases x;cases y;simp_all)
     ·have d2:decide (x.n=y.n)=false:=decide_eq_false e2
      have ct0:=ct h6 rS;repeat' first|((first|refine gK ?_|refine gS ?_);simp only[go_sem,hp,hq,gX,hlt,hlt2,d2])|refine gA ?_|(refine gD (fun h=>?_) (fun h=>?_)<;>try exact aB h)|fail
      exact aT (by simp only[go_sem]) (.of (by rw[hno fun e=>e2 (by rw[e])]))
    ·rw[decide_eq_false e1]at h6
     have ct0:=ct h6 rS;repeat' first|((first|refine gK ?_|refine gS ?_);simp only[go_sem,hp,hq,gX,hlt,hlt2])|refine gA ?_|(refine gD (fun h=>?_) (fun h=>?_)<;>try exact aB h)|fail
     exact aT (by simp only[go_sem]) (.of (by rw[hno fun e=>e1 (by rw[e])]))
   ·have hi':i=l.length:=by omega
    subst hi'
    repeat' first|(refine gS ?_;simp only[go_sem])|refine gA ?_|(refine gD (fun h=>?_) (fun h=>?_)<;>try exact aB h)|fail
    exact aT (by simp only[go_sem]) (.of (by rw[decide_eq_true (by rw[List.take_length,hlen,List.take_length]at he;exact he)]))
theorem watches19_c(b1 b2:Bool)(l m:List Wch)(H:AHeap):cN Tryz.prog 35 [.sl b1 (l.map fT),.sl b2 (m.map fT)] H (.bool (decide (l=m))):=by
 refine iT fun hok _=>?_
 have hl:=mS hok
 rw[List.length_map]at hl
 refine aQ Tryz.func35 rfl (Nat.le_of_ble_eq_true rfl) ?_
 repeat' first|(refine gS ?_;simp only[go_sem])|refine gA ?_|(refine gD (fun h=>?_) (fun h=>?_)<;>try exact aB h)|fail
 ·exact aT (by simp only[go_sem]) (.of (by rw[decide_eq_false (fun e=>by subst e;simp at h)]))
 ·have hlen:l.length=m.length:=by simp at h;omega
  refine aR (ι:=Nat) (fun i=>[(0,.sl b1 (l.map fT)),(1,.sl b2 (m.map fT)),(5,.int .i64 i)]) (fun _=>H) (fun i=>i≤l.length∧l.take i=m.take i) (fun i=>l.length-i) 0 ⟨Nat.zero_le _,rfl⟩ ?_ rfl ?_
  ·simp[go_sem]
  ·rintro i ⟨hi,he⟩
   by_cases hlt:i<l.length
   ·have hp:=bF fT hlt
    have hq:=bF fT (show i<m.length by omega)
    obtain⟨x,hx⟩:∃x,x=l[i]:=⟨_,rfl⟩
    obtain⟨y,hy⟩:∃y,y=m[i]'(by omega):=⟨_,rfl⟩
    rw[←hx]at hp
    rw[←hy]at hq
    have hlt2:i<m.length:=by omega
    have hno:x≠y→decide (l=m)=false:=fun hne=>decide_eq_false fun e=>hne (by subst e;rw[hx,hy])
    have hyes:x=y→∃z:Nat,(z≤l.length∧l.take z=m.take z)∧l.length-z<l.length-i∧AV.int .i64 (IntKind.i64.wrap ((i:Int)+1))=AV.int .i64 z:=fun heq=>⟨i+1,⟨hlt,by rw[List.take_succ_eq_append_getElem hlt,List.take_succ_eq_append_getElem (by omega),he,←hx,←hy,heq]⟩,by omega,by rw[wrap_i64 (by omega) (by omega)];rfl⟩
    have h6:=same10_c false false x.over y.over x.evs y.evs
    by_cases e1:x.evs=y.evs∧x.over=y.over
    ·rw[decide_eq_true e1.1,decide_eq_true e1.2]at h6
     by_cases e2:x.n=y.n
     ·have d2:decide (x.n=y.n)=true:=decide_eq_true e2
      by_cases e3:x.dir=y.dir
      ·have d3:decide (x.dir=y.dir)=true:=decide_eq_true e3
       have ct0:=ct h6 aXX;repeat' first|((first|refine gK ?_|refine gS ?_);simp only[go_sem,hp,hq,fT,hlt,hlt2,d2,d3,Bool.and_self])|refine gA ?_|(refine gD (fun h=>?_) (fun h=>?_)<;>try exact aB h)|fail
       exact hyes (by cases x;cases y;simp_all)
      ·have d3:decide (x.dir=y.dir)=false:=decide_eq_false e3
       have ct0:=ct h6 aXX;repeat' first|((first|refine gK ?_|refine gS ?_);simp only[go_sem,hp,hq,fT,hlt,hlt2,d2,d3,Bool.and_self])|refine gA ?_|(refine gD (fun h=>?_) (fun h=>?_)<;>try exact aB h)|fail
       exact aT (by simp only[go_sem]) (.of (by rw[hno fun e=>e3 (by rw[e])]))
     ·have d2:decide (x.n=y.n)=false:=decide_eq_false e2
      have ct0:=ct h6 aXX;repeat' first|((first|refine gK ?_|refine gS ?_);simp only[go_sem,hp,hq,fT,hlt,hlt2,d2,Bool.and_self])|refine gA ?_|(refine gD (fun h=>?_) (fun h=>?_)<;>try exact aB h)|fail
      exact aT (by simp only[go_sem]) (.of (by rw[hno fun e=>e2 (by rw[e])]))
    ·have hf:(decide (x.evs=y.evs)&&decide (x.over=y.over))=false:=by
      rw[Bool.eq_false_iff];intro h;simp only[Bool.and_eq_true,decide_eq_true_eq]at h;exact e1 h
     rw[hf]at h6
     have ct0:=ct h6 aXX;repeat' first|((first|refine gK ?_|refine gS ?_);simp only[go_sem,hp,hq,fT,hlt,hlt2])|refine gA ?_|(refine gD (fun h=>?_) (fun h=>?_)<;>try exact aB h)|fail
     exact aT (by simp only[go_sem]) (.of (by rw[hno fun e=>e1 (by rw[e];exact⟨rfl,rfl⟩)]))
   ·have hi':i=l.length:=by omega
    subst hi'
    repeat' first|(refine gS ?_;simp only[go_sem])|refine gA ?_|(refine gD (fun h=>?_) (fun h=>?_)<;>try exact aB h)|fail
    exact aT (by simp only[go_sem]) (.of (by rw[decide_eq_true (by rw[List.take_length,hlen,List.take_length]at he;exact he)]))
theorem bCr(f1 f2 f3 f4 g1 g2 g3 g4:Bool)(m n:Mdl)(H:AHeap):cN Tryz.prog 15 [cO f1 f2 f3 f4 m,cO g1 g2 g3 g4 n] H (.bool (decide (m=n))):=by
 refine aQ Tryz.func15 rfl (Nat.le_of_ble_eq_true rfl) ?_
 have h1:=aDe f1 f2 g1 g2 m.log n.log
 have h2:=snaps19_c f3 g3 m.snaps n.snaps
 have h3:=watches19_c f4 g4 m.watches n.watches
 simp only[lgF]at h1
 have hall:decide (m=n)=(decide (m.log=n.log)&&decide (m.snaps=n.snaps)&&decide (m.watches=n.watches)&&decide (m.seen=n.seen)&&decide (m.rep=n.rep)&&decide (m.next=n.next)):=by
  cases m;cases n
  rw[Bool.eq_iff_iff];simp;constructor<;>(intro h;simp_all)
 rw[hall]
 generalize decide (m.log=n.log)=p1 at *
 generalize decide (m.snaps=n.snaps)=p2 at *
 generalize decide (m.watches=n.watches)=p3 at *
 have ct0:=ct h1 xW;have ct1:=ct h2 aXo;have ct2:=ct h3 aXp;repeat' first|((first|refine gK ?_|refine gS ?_);simp only[go_sem,cO,jB])|refine gA ?_|(refine gD (fun h=>?_) (fun h=>?_)<;>try exact aB h)|fail
 exact done (by simp only[go_sem]) (.refl _)
end Go.Proofs.YthhdnjiodklmmaaGreatDoor
/- gunwalelaw19.awake is true. No condition. -/
namespace Go.Gw
open Go Go.Aw Go.Proofs.YthhdnjiodklmmaaGreatDoor
def awC:List Cal:=[⟨2,[47,97],[],[],0⟩,⟨10,[47],[],[],0⟩,⟨1,[47,97,47,102],[],[],0⟩,⟨8,[],[],[],0⟩,⟨3,[47,97,47,102],[],[120],0⟩,⟨5,[47,97],[47,97,47,98],[],0⟩,⟨4,[47,97,47,102],[],[],0⟩,⟨4,[47,97,47,102],[],[],2⟩,⟨6,[47,97],[],[],0⟩,⟨11,[],[],[],1⟩,⟨7,[47,97],[],[],2⟩,⟨7,[47,97],[],[],0⟩,⟨9,[],[],[],2⟩,⟨14,[],[],[],0⟩]
def awD:Mdl:={md0 with rep:=1,next:=1}
def awE:List Ans:=[⟨0,[],[],0,[]⟩,⟨0,[],[],1,[]⟩,⟨0,[],[],0,[]⟩,⟨0,[],[],2,[]⟩,⟨0,[],[],0,[]⟩,⟨192,[],[],0,[]⟩,⟨0,[120],[],0,[]⟩,⟨0,[],[],0,[]⟩,⟨0,[],[],0,[]⟩,⟨0,[],[],0,[⟨2,[47,97,47,102]⟩,⟨3,[47,97,47,102]⟩,⟨1,[47,97,47,102]⟩,⟨1,[47,97]⟩]⟩,⟨0,[],[[102]],0,[]⟩,⟨80,[],[],0,[]⟩,⟨0,[],[],0,[]⟩,⟨180,[],[],0,[]⟩]
set_option maxRecDepth 100000 in
theorem awA_eq:(aCz awD awC).2=awE:=by decide+kernel
set_option maxRecDepth 100000 in
theorem awB_eq:(aCz awD awC).1.seen=4∧(aCz awD awC).1.log.entries.length=4:=by decide+kernel
theorem awCS:∀c∈awC,CS c:=by
 intro c hc
 have h:(awC.all fun c=>decide (c.path.length≤1048576)&&decide (c.to.length≤1048576)&&decide (c.data.length≤1048576))=true:=by decide+kernel
 have:=List.all_eq_true.1 h c hc
 simp only[Bool.and_eq_true,decide_eq_true_eq]at this
 exact⟨this.1.1,this.1.2,this.2⟩
theorem long_CS{c:Cal}(h:longCal c=false):CS c:=by
 unfold longCal at h
 simp only[Bool.or_eq_false_iff,decide_eq_false_iff_not]at h
 exact⟨by omega,by omega,by omega⟩
theorem mF{l:List Cal}{n:Int}(h:mE l n=true):(∀c∈l,CS c)∧(l.length:Int)≤n:=by
 unfold mE at h
 simp only[Bool.and_eq_true,decide_eq_true_eq,List.all_eq_true,Bool.not_eq_true']at h
 exact⟨fun c hc=>long_CS (h.1 c hc),h.2⟩
end Go.Gw
namespace Go.Proofs.YthhdnjiodklmmaaGreatDoor
open Go Go.Aw Go.Gw
set_option linter.unusedSimpArgs false
set_option linter.unusedVariables false
set_option maxRecDepth 20000
set_option maxHeartbeats 4000000
theorem bS(H:AHeap):cN Tryz.prog 11 [] H (.bool true):=by
 refine aQ Tryz.func11 rfl (Nat.le_of_ble_eq_true rfl) ?_
 have h1:=nD 1
 have h2:=nD 64
 rw[show wC 1=(awD,0)from rfl]at h1
 rw[show wC 64=(md0,20)from rfl]at h2
 have hA:=wP false false false false true awD (nA (r:=1) rfl) awC (by decide) awCS
 obtain⟨m2,hm2⟩:∃m2,(aCz awD awC).1=m2:=⟨_,rfl⟩
 have hB:=awB_eq
 rw[hm2]at hB
 obtain⟨hs,he⟩:=hB
 rw[hm2,awA_eq]at hA
 simp only[awC,awE,List.map_cons,List.map_nil,gY,iC,kE,cO,jB,awD,md0]at hA h1 h2
 have ct0:=ct h1 bD;have ct1:=ct h2 bD;have ct2:=ct hA iI;repeat' first|((first|refine gK ?_|refine gS ?_);simp only[go_sem,cO,jB,hs,he])|refine gA ?_|(refine gD (fun h=>?_) (fun h=>?_)<;>try exact aB h)|fail
 exact done (by simp only[go_sem]) (.of (congrArg AV.bool (by decide)))
end Go.Proofs.YthhdnjiodklmmaaGreatDoor
/- The abstract machine: a region in whatever order, in which two allocs stand side by side. No condition. -/
namespace Go.Aw
open Go
set_option linter.unusedVariables false
set_option linter.unusedSimpArgs false
variable {P:Program}
theorem aalloc_slot{c:Ctx}{H:AHeap}{t:TypeId}{i:Nat}(hst:St c H)(hh:hget H i=.cells 1 [])(hs:(aU P t).known=true):Runs P (Instr.alloc t true (.tuple #[])) c (.ref i 2 0) (aD H i (.cells 2 (aU P t).cells)):=by
 obtain⟨z,h1,h2⟩:=sT (P:=P) hs c
 obtain⟨q1,q2⟩:=h2.cells hs
 have hv:=hst.ver_eq hh
 have hsome:=cZ hh trivial
 have hi:i<c.n:=by rw[hst.n];exact bP hh trivial
 have hx:=hst.bump_ext hsome trivial (by omega) (c.w.alloc (.cells z.cells t)) c.w.heap.size (by simp) (.inl (Nat.le_refl _)) (fun b hlt _=>kS hlt) rfl rfl rfl
 obtain⟨-,hs'⟩:=hst.bump (B':=.cells 2 (aU P t).cells) hsome trivial (by omega) (c.w.alloc (.cells z.cells t)) c.w.heap.size (by simp) (by simp) (.inl (Nat.le_refl _)) (fun b hlt _=>kS hlt) rfl rfl rfl
  (.cells _ _ z.cells t (0,0) (by simp[Ctx.bump,hv]) (by simp[Ctx.bump]) (by simp only[Ctx.bump,if_true];exact jP _ _) (by omega) (.inr (Nat.le_refl _))fun j y u p q=>(q2 j y u p q).mono hx)
 refine⟨c.bump i _ _,.pointer (some ⟨c.w.heap.size,0,none⟩),?_,hs',hx,.ref _ _ _ _ hi (by simp[Ctx.bump,hv]) rfl (fun _=>by simp[Ctx.bump])⟩
 simp[Instr.alloc,Sem.run_bind,h1,Instr.box,newVar,newRow,Ctx.bump]
theorem slot_yv{N:Nat}{ops:Array Oper}{dst:Option Tmp}{t ty:TypeId}{pos:String}{after:Array Edge}{α:AF}{H:AHeap}{i:Nat}(hh:hget H i=.cells 1 [])(hs:(aU P t).known=true):
  yv P N ops ⟨dst,.alloc t,ty,pos,after,none⟩ α (.ref i 2 0) H (aD H i (.cells 2 (aU P t).cells)):=
 YG.of_does rfl (bT fun c a hst _=>by
  obtain⟨c',v,h1,h2,h3,h4⟩:=aalloc_slot (P:=P) hst hh hs
  exact⟨c',v,by simp only[execOp,Sem.run_bind,h1];rfl,h2,h3,h4⟩)
theorem aw_room{N:Nat}{code:Code}{Q:bL}{α:AF}{H:AHeap}(h:aw P N code Q α (H++[.cells 1 []])):aw P N code Q α H:=by
 intro r c a hr hst ha
 have hv:=Ext.void c
 exact wpIn_mono (h r c.void a hr hst.void ⟨ha.size,ha.defers.mono hv,fun u=>(ha.rep u).mono hv⟩)fun _ _ _ ⟨c',α',H',e1,e2,e3,e4,e5⟩=>⟨c',α',H',e1,e2,hv.trans e3,e4,e5⟩
def restOk:List Oper→List Pl→Bool
 |[],[]=>true
 |o::os,.free::ps=>mU o.op&&restOk os ps
 |_::os,.eff []::ps=>restOk os ps
 |_,_=>false
def preOk(ops:Array Oper)(effs:List Nat):List Oper→List Pl→Nat→Bool
 |[],[],_=>true
 |o::os,.free::ps,k=>mU o.op&&preOk ops effs os ps (k+1)
 |_::os,.pure w::ps,k=>(w==3)&&jQ ops (k::effs)&&preOk ops effs os ps (k+1)
 |_,_,_=>false
def lst:Nat→Nat→Array Bool→Array Bool
 |0,_,l=>l
 |j+1,k,l=>lst j (k+1) (l.setIfInBounds k true)
section
variable {N:Nat} {ops:Array Oper} {eff:Nat→Bool} {K:AF→AHeap→Prop}
theorem aM_rest:∀(os:List Oper) (pl:List Pl) (k:Nat) (α:AF) (H:AHeap) (hist':List AHeap) (sp:gW) (hist:uV) (tp:gW),restOk os pl=true→(∀i,k≤i→(eff i=true↔i∈iH pl k))→
  (∀p∈tp,(∀h,p.2 h)∨∀i∈iH pl k,Bef ops p.1 i)→cC P ops.toList pl os k α H hist' sp K→aM P N ops eff K os k α H hist tp
 |[],[],_,_,_,_,_,_,_,_,_,_,h=>h
 |o::os,.free::pl,k,α,H,hist',sp,hist,tp,hp,he,hpo,h=>by
  rw[restOk,Bool.and_eq_true]at hp
  obtain⟨v,h1,h2⟩:=h
  have hne:eff k=false:=by
   rw[←Bool.not_eq_true,he k (Nat.le_refl _)]
   intro hm
   have:=jR pl (k+1) k hm
   omega
  refine⟨v,H,⟨h1.yv,fun q=>Bool.noConfusion (hne.symm.trans q),fun _=>⟨rfl,fun e _ _=>(sX hp.1 h1).yv⟩⟩,?_⟩
  simp only[hne,Bool.false_eq_true,if_false]
  refine aM_rest os pl (k+1) _ H hist' sp _ _ hp.2 (fun i hi=>he i (by omega)) ?_ h2
  intro p hpp
  cases hpp with
  |head=>exact .inl fun h=>(sX hp.1 h1).yv
  |tail _ hpp=>exact hpo p hpp
 |o::os,.eff []::pl,k,α,H,hist',sp,hist,tp,hp,he,hpo,h=>by
  obtain⟨v,H1,h1,h2,h3⟩:=h
  have hee:eff k=true:=by rw[he k (Nat.le_refl _)];exact .head _
  refine⟨v,H1,⟨aIw h1,fun _ p hpp hb=>?_,fun q=>Bool.noConfusion (hee.symm.trans q)⟩,?_⟩
  ·rcases hpo p hpp with q|q
   ·exact q _
   ·exact absurd (q k (.head _)) hb
  ·simp only[hee,if_true]
   refine aM_rest os pl (k+1) _ _ _ _ _ _ hp (fun i hi=>?_) (fun p hpp=>?_) h3
   ·rw[he i (by omega)]
    constructor
    ·intro hm
     cases hm with
     |head=>omega
     |tail _ hm=>exact hm
    ·exact .tail _
   ·rcases hpo p hpp with q|q
    ·exact .inl q
    ·exact .inr fun i hi=>q i (.tail _ hi)
theorem anyM_lex2(hK:∀α β H,Alike α β→K α H→K β H)(k0:Nat)(hEE:∀i j,k0≤i→eff i=true→eff j=true→j≠i→∀listed,Closed ops listed→i∈Region.ready .any ops listed→j∈Region.ready .any ops listed→False):
  ∀(l:List Oper) (k:Nat) (listed:Array Bool) (α:AF) (H:AHeap) (hist:uV) (past:gW),k0≤k→(∀j,l[j]?=ops[k+j]?)→Closed ops listed→
  Region.lexFrom .any ops l.length k listed=true→aM P N ops eff K l k α H hist past→aAH P N ops eff K l.length listed α H hist past
 |[],_,_,_,_,_,_,_,_,_,hB,h=>⟨by simpa[Region.lexFrom]using hB,h⟩
 |o::l,k,listed,α,H,hist,past,hk0,hl,hc,hB,h=>by
  have h0:ops[k]?=some o:=by simpa using(hl 0).symm
  simp only[List.length_cons,Region.lexFrom,Bool.and_eq_true]at hB
  obtain⟨⟨hr,hf⟩,hB'⟩:=hB
  obtain⟨v,H1,hy,hk⟩:=h
  have hr':k∈Region.ready .any ops listed:=by simpa using hr
  exact aBP hK h0 (fun he j hj hne=>hEE k j hk0 he hj hne) l.length listed α H H1 hist past hc (Region.free_spec h0 hf) hr' hy
   (anyM_lex2 hK k0 hEE l (k+1) _ _ _ _ _ (by omega) (fun j=>by have:=hl (j+1);simpa[Nat.add_assoc,Nat.add_comm 1 j]using this) (hc.set hr') hB' hk)
def PreP(ops:Array Oper)(effs:List Nat)(A B C:AHeap)(tp:gW):Prop:=∀p∈tp,(∀h,p.2 h)∨(p.2 A∧p.2 B∧p.2 C∧∀i∈effs,Bef ops p.1 i)
theorem anyM_pre(hK:∀α β H,Alike α β→K α H→K β H)(effs:List Nat)(A B C:AHeap)(m n:Nat)(kont:AF→AHeap→Prop):
  ∀(os:List Oper) (pl:List Pl) (k:Nat) (listed:Array Bool) (α:AF) (H:AHeap) (sp tp:gW),k+os.length=n→(∀i,i<n→eff i=false)→(∀j,j<os.length→os[j]?=ops[k+j]?)→Closed ops listed→
  preOk ops effs os pl k=true→Region.lexFrom .any ops (os.length+m) k listed=true→PreP ops effs A B C tp→
  (∀(αp:AF) (tp':gW) (listed':Array Bool),listed'=lst os.length k listed→Closed ops listed'→Region.lexFrom .any ops m n listed'=true→PreP ops effs A B C tp'→kont αp H→aAH P N ops eff K m listed' αp H [] tp')→
  cC P ops.toList pl os k α H [A,B,C] sp kont→aAH P N ops eff K (os.length+m) listed α H [] tp
 |[],[],k,listed,α,H,sp,tp,hn,_,_,hc,_,hB,hpp,hk,h=>by
  simp only[List.length_nil,Nat.zero_add,Nat.add_zero]at hB hn ⊢
  subst hn
  exact hk α tp listed rfl hc hB hpp h
 |o::os,.free::pl,k,listed,α,H,sp,tp,hn,he,hl,hc,hp,hB,hpp,hk,h=>by
  rw[preOk,Bool.and_eq_true]at hp
  obtain⟨v,h1,h2⟩:=h
  have hke:eff k=false:=he k (by simp at hn;omega)
  have h0:ops[k]?=some o:=by simpa using(hl 0 (by simp)).symm
  simp only[List.length_cons,Nat.succ_add,Region.lexFrom,Bool.and_eq_true]at hB ⊢
  obtain⟨⟨hr,hf⟩,hB'⟩:=hB
  have hr':k∈Region.ready .any ops listed:=by simpa using hr
  refine aBP hK h0 (fun q=>Bool.noConfusion (hke.symm.trans q)) (os.length+m) listed α H H [] tp hc (Region.free_spec h0 hf) hr'
   ⟨h1.yv,fun q=>Bool.noConfusion (hke.symm.trans q),fun _=>⟨rfl,fun e he _=>by cases he⟩⟩ ?_
  simp only[hke,Bool.false_eq_true,if_false]
  refine anyM_pre hK effs A B C m n kont os pl (k+1) _ _ H sp _ (by simp at hn;omega) he (fun j hj=>by have:=hl (j+1) (by simp;omega);simpa[Nat.add_assoc,Nat.add_comm 1 j]using this) (hc.set hr') hp.2 hB' ?_ hk h2
  intro p hpm
  cases hpm with
  |head=>exact .inl fun h=>(sX hp.1 h1).yv
  |tail _ hpm=>exact hpp p hpm
 |o::os,.pure w::pl,k,listed,α,H,sp,tp,hn,he,hl,hc,hp,hB,hpp,hk,h=>by
  simp only[preOk,Bool.and_eq_true,beq_iff_eq]at hp
  obtain⟨⟨rfl,hch⟩,hp⟩:=hp
  obtain⟨v,h1,h2,h3⟩:=h
  have hke:eff k=false:=he k (by simp at hn;omega)
  have h0:ops[k]?=some o:=by simpa using(hl 0 (by simp)).symm
  simp only[List.length_cons,Nat.succ_add,Region.lexFrom,Bool.and_eq_true]at hB ⊢
  obtain⟨⟨hr,hf⟩,hB'⟩:=hB
  have hr':k∈Region.ready .any ops listed:=by simpa using hr
  refine aBP hK h0 (fun q=>Bool.noConfusion (hke.symm.trans q)) (os.length+m) listed α H H [] tp hc (Region.free_spec h0 hf) hr'
   ⟨h1.yv,fun q=>Bool.noConfusion (hke.symm.trans q),fun _=>⟨rfl,fun e he _=>by cases he⟩⟩ ?_
  simp only[hke,Bool.false_eq_true,if_false]
  refine anyM_pre hK effs A B C m n kont os pl (k+1) _ _ H _ _ (by simp at hn;omega) he (fun j hj=>by have:=hl (j+1) (by simp;omega);simpa[Nat.add_assoc,Nat.add_comm 1 j]using this) (hc.set hr') hp hB' ?_ hk h3
  intro p hpm
  cases hpm with
  |head=>
   obtain⟨a1,a2,a3, -⟩:=h2
   exact .inr ⟨a1.yv,a2.yv,a3.yv,fun i hi=>(rL hch i hi).1⟩
  |tail _ hpm=>exact hpp p hpm
end
def pairO(ops:Array Oper)(n:Nat)(t1 t2:TypeId)(d1 d2:Tmp):Bool:=
 match ops[n]?,ops[n+1]? with
 |some ⟨some a,.alloc s,_,_,_,none⟩,some ⟨some b,.alloc u,_,_,_,none⟩=>(a==d1)&&(b==d2)&&(s==t1)&&(u==t2)&& !(a==b)
 |_,_=>false
def pairR(ops:Array Oper)(n:Nat)(l:Array Bool):Bool:=
 (Region.ready .any ops l==[n,n+1])&&(Region.ready .any ops (l.setIfInBounds n true)==[n+1])&&(Region.ready .any ops (l.setIfInBounds (n+1) true)==[n])
def pairOk(ops:Array Oper)(planA planB:List Pl)(n:Nat)(t1 t2:TypeId)(d1 d2:Tmp):Bool:=
 pairO ops n t1 t2 d1 d2&&pairR ops n (lst n 0 (Array.replicate ops.size false))&&Nat.ble (n+2) ops.size&&
  preOk ops (iH planB (n+2)) (ops.toList.take n) planA 0&&restOk (ops.toList.drop (n+2)) planB&&jQ ops (n::iH planB (n+2))&&jQ ops ((n+1)::iH planB (n+2))
def pairK(P:Program)(all:List Oper)(planB:List Pl)(rest:List Oper)(n:Nat)(d1 d2:Tmp)(v1 v2:AV)(G:AHeap)(kont:AF→AHeap→Prop):AF→AHeap→Prop:=
 fun α _=>cC P all planB rest (n+2) ((d2,v2)::(d1,v1)::α) G [] [] kont
@[go_sem] theorem pairK_eq(all:List Oper)(planB:List Pl)(rest:List Oper)(n:Nat)(d1 d2:Tmp)(v1 v2:AV)(G:AHeap)(kont:AF→AHeap→Prop)(α:AF)(H:AHeap):
  pairK P all planB rest n d1 d2 v1 v2 G kont α H=cC P all planB rest (n+2) ((d2,v2)::(d1,v1)::α) G [] [] kont:=rfl
@[go_sem] theorem takeO_s(o:Oper)(os:List Oper)(n:Nat):List.take (n+1) (o::os)=o::List.take n os:=rfl
@[go_sem] theorem takeO_z(os:List Oper):List.take 0 os=[]:=rfl
@[go_sem] theorem dropO_s(o:Oper)(os:List Oper)(n:Nat):List.drop (n+1) (o::os)=List.drop n os:=rfl
@[go_sem] theorem dropO_z(os:List Oper):List.drop 0 os=os:=rfl
theorem cF{N id:Nat}{ops:Array Oper}{Q:bL}{α:AF}{H:AHeap}(planA planB:List Pl)(n:Nat)(t1 t2:TypeId)(d1 d2:Tmp)(hm:P.follows .mixedOrders=true)(hd:oI N ops=true)(hB:Region.lexB .any ops=true)
  (hp:pairOk ops planA planB n t1 t2 d1 d2=true) (hz1:(aU P t1).known=true) (hz2:(aU P t2).known=true)
  (h:cC P ops.toList planA (ops.toList.take n) 0 α (H++[.cells 1 [],.cells 1 []])
   [H++[.cells 2 (aU P t1).cells,.cells 1 []],H++[.cells 1 [],.cells 2 (aU P t2).cells],H++[.cells 2 (aU P t1).cells,.cells 2 (aU P t2).cells]] []
   (pairK P ops.toList planB (ops.toList.drop (n+2)) n d1 d2 (.ref H.length 2 0) (.ref (H.length+1) 2 0) (H++[.cells 2 (aU P t1).cells,.cells 2 (aU P t2).cells]) (fun α' H'=>Q .normal α' H'))):aw P N (.region id ops true) Q α H:=by
 refine aw_room (aw_room ?_)
 rw[List.append_assoc,List.singleton_append]
 intro r c a _ hs ha
 simp only[Region.lexB,Bool.and_eq_true]at hB
 simp only[pairOk,Bool.and_eq_true,Nat.ble_eq]at hp
 obtain⟨⟨⟨⟨⟨⟨hO,hR⟩,hn⟩,hA⟩,hT⟩,hc1⟩,hc2⟩:=hp
 obtain⟨G1,hG1⟩:∃G,H++[.cells 2 (aU P t1).cells,.cells 1 []]=G:=⟨_,rfl⟩
 obtain⟨G2,hG2⟩:∃G,H++[.cells 1 [],.cells 2 (aU P t2).cells]=G:=⟨_,rfl⟩
 obtain⟨G3,hG3⟩:∃G,H++[.cells 2 (aU P t1).cells,.cells 2 (aU P t2).cells]=G:=⟨_,rfl⟩
 obtain⟨G0,hG0⟩:∃G,H++[.cells 1 [],.cells 1 []]=G:=⟨_,rfl⟩
 rw[hG0]at hs
 rw[hG0,hG1,hG2,hG3]at h
 have u1:hget G0 H.length=.cells 1 []:=by rw[←hG0];simp[hget]
 have u2:hget G0 (H.length+1)=.cells 1 []:=by rw[←hG0];simp[hget]
 have u3:hget G1 (H.length+1)=.cells 1 []:=by rw[←hG1];simp[hget]
 have u4:hget G2 H.length=.cells 1 []:=by rw[←hG2];simp[hget]
 have s1:aD G0 H.length (.cells 2 (aU P t1).cells)=G1:=by rw[←hG0,←hG1];simp[aD]
 have s2:aD G0 (H.length+1) (.cells 2 (aU P t2).cells)=G2:=by rw[←hG0,←hG2];simp[aD]
 have s3:aD G1 (H.length+1) (.cells 2 (aU P t2).cells)=G3:=by rw[←hG1,←hG3];simp[aD]
 have s4:aD G2 H.length (.cells 2 (aU P t1).cells)=G3:=by rw[←hG2,←hG3];simp[aD]
 refine wpIn_region_any hm ?_
 obtain⟨effs,hef⟩:∃effs,effs=iH planB (n+2):=⟨_,rfl⟩
 have hefm:∀i∈effs,n+2≤i:=fun i hi=>jR planB (n+2) i (hef▸hi)
 obtain⟨eff,hfe⟩:∃eff:Nat→Bool,eff=fun i=>(i==n)||(i==n+1)||effs.contains i:=⟨_,rfl⟩
 have eN:eff n=true:=by rw[hfe];simp
 have eN1:eff (n+1)=true:=by rw[hfe];simp
 have eI:∀i,n+2≤i→(eff i=true↔i∈iH planB (n+2)):=fun i hi=>by
  rw[hfe,←hef]
  have a1:(i==n)=false:=by simp;omega
  have a2:(i==n+1)=false:=by simp;omega
  simp only[a1,a2,Bool.false_or,List.contains_iff_mem]
 have eL:∀i,i<n→eff i=false:=fun i hi=>by
  rw[hfe]
  have a1:(i==n)=false:=by simp;omega
  have a2:(i==n+1)=false:=by simp;omega
  have a3:effs.contains i=false:=by
   rw[←Bool.not_eq_true,List.contains_iff_mem]
   intro hm
   have:=hefm i hm
   omega
  simp only[a1,a2,a3,Bool.or_false]
 let K:AF→AHeap→Prop:=fun α' H'=>∃β,Alike α' β∧Q .normal β H'
 have hK:∀α β H,Alike α β→K α H→K β H:=fun α β H hab ⟨γ,hg,hq⟩=>⟨γ,fun t=>(hab t).symm.trans (hg t),hq⟩
 have hEE:∀i j,n+2≤i→eff i=true→eff j=true→j≠i→∀listed,Closed ops listed→i∈Region.ready .any ops listed→j∈Region.ready .any ops listed→False:=by
  intro i j hi hei hej hne listed hc h1 h2
  have him:i∈iH planB (n+2):=(eI i hi).1 hei
  rcases Nat.lt_or_ge j n with hj|hj
  ·rw[eL j hj]at hej;cases hej
  ·rcases Nat.lt_or_ge j (n+2)with hj2|hj2
   ·have hjj:j=n∨j=n+1:=by omega
    rcases hjj with e|e
    ·subst e;exact zG hc h2 h1 (rL hc1 i him).1
    ·subst e;exact zG hc h2 h1 (rL hc2 i him).1
   ·rcases aAJ (aBQ hc1) i j him ((eI j hj2).1 hej) hne with q|q
    ·exact zG hc h1 h2 q
    ·exact zG hc h2 h1 q
 obtain⟨z1,q1,f1,z2,q2,f2,ho1,ho2,hab⟩:∃(z1:TypeId) (q1:String) (f1:Array Edge) (z2:TypeId) (q2:String) (f2:Array Edge) (_:ops[n]?=some ⟨some d1,.alloc t1,z1,q1,f1,none⟩) (_:ops[n+1]?=some ⟨some d2,.alloc t2,z2,q2,f2,none⟩),d1≠d2:=by
  unfold pairO at hO
  split at hO
  ·rename_i a s z1 q1 f1 b u z2 q2 f2 e1 e2
   simp only[Bool.and_eq_true,beq_iff_eq,Bool.not_eq_true',beq_eq_false_iff_ne]at hO
   obtain⟨⟨⟨⟨rfl,rfl⟩,rfl⟩,rfl⟩,hne⟩:=hO
   exact⟨z1,q1,f1,z2,q2,f2,e1,e2,hne⟩
  ·cases hO
 have hc0:Closed ops (Array.replicate ops.size false):=by
  intro q o hq
  rw[Array.getD_eq_getD_getElem?]at hq
  by_cases hlt:q<ops.size<;>simp[Array.getElem?_replicate,hlt]at hq
 obtain⟨rest,hrs⟩:∃rest,rest=ops.toList.drop (n+2):=⟨_,rfl⟩
 have hrl:rest.length=ops.size-(n+2):=by rw[hrs,List.length_drop,Array.length_toList]
 have hlen:(ops.toList.take n).length=n:=by rw[List.length_take,Array.length_toList];omega
 rw[←hrs]at h hT
 have key:∀(αp:AF) (tp':gW) (L:Array Bool),L=lst (ops.toList.take n).length 0 (Array.replicate ops.size false)→Closed ops L→Region.lexFrom .any ops (rest.length+2) n L=true→PreP ops effs G1 G2 G3 tp'→
   pairK P ops.toList planB rest n d1 d2 (.ref H.length 2 0) (.ref (H.length+1) 2 0) G3 (fun α' H'=>Q .normal α' H') αp G0→aAH P N ops eff K (rest.length+2) L αp G0 [] tp':=by
  intro αp tp' L hL hcl hlx hpp hk
  rw[hlen]at hL
  simp only[Region.lexFrom,Bool.and_eq_true]at hlx
  obtain⟨⟨hr1, -⟩,⟨hr2, -⟩,hlx⟩:=hlx
  rw[←hL]at hR
  simp only[pairR,Bool.and_eq_true,beq_iff_eq]at hR
  obtain⟨⟨R0,R1⟩,R2⟩:=hR
  have hcl2:=(hcl.set (j:=n) (by rw[R0];exact .head _)).set (j:=n+1) (by rw[R1];exact .head _)
  have hfin:∀hist,aAH P N ops eff K rest.length ((L.setIfInBounds n true).setIfInBounds (n+1) true) (bU (some d2) (.ref (H.length+1) 2 0) (bU (some d1) (.ref H.length 2 0) αp)) G3 hist tp':=fun hist=>
   anyM_lex2 hK (n+2) hEE rest (n+2) _ _ G3 hist tp' (Nat.le_refl _) (fun j=>by rw[hrs,List.getElem?_drop,Array.getElem?_toList]) hcl2 hlx
    (aM_rest rest planB (n+2) _ G3 [] [] hist tp' hT eI (fun p hp=>(hpp p hp).imp (fun q=>q)fun q=>by rw[←hef];exact q.2.2.2)
     (aBR (k':=K) (fun α' H' hq=>⟨α',fun _=>rfl,hq⟩) _ _ _ _ _ _ _ hk))
  have ya:∀α,yv P N ops ⟨some d1,.alloc t1,z1,q1,f1,none⟩ α (.ref H.length 2 0) G0 G1:=fun α=>by rw[←s1];exact slot_yv u1 hz1
  have yb:∀α,yv P N ops ⟨some d2,.alloc t2,z2,q2,f2,none⟩ α (.ref (H.length+1) 2 0) G0 G2:=fun α=>by rw[←s2];exact slot_yv u2 hz2
  have yc:∀α,yv P N ops ⟨some d2,.alloc t2,z2,q2,f2,none⟩ α (.ref (H.length+1) 2 0) G1 G3:=fun α=>by rw[←s3];exact slot_yv u3 hz2
  have yd:∀α,yv P N ops ⟨some d1,.alloc t1,z1,q1,f1,none⟩ α (.ref H.length 2 0) G2 G3:=fun α=>by rw[←s4];exact slot_yv u4 hz1
  have pa:∀p∈tp',p.2 G1:=fun p hp=>(hpp p hp).elim (fun q=>q _)fun q=>q.1
  have pb:∀p∈tp',p.2 G2:=fun p hp=>(hpp p hp).elim (fun q=>q _)fun q=>q.2.1
  have pc:∀p∈tp',p.2 G3:=fun p hp=>(hpp p hp).elim (fun q=>q _)fun q=>q.2.2.1
  refine⟨fun h0=>(by rw[R0]at h0;cases h0),fun i hi=>?_⟩
  rw[R0]at hi
  cases hi with
  |head=>
   unfold qM
   simp only[ho1,eN,if_true]
   refine⟨_,G1,ya _,fun p hp _=>pa p hp,⟨fun h0=>(by rw[R1]at h0;cases h0),fun j hj=>?_⟩⟩
   rw[R1]at hj
   cases hj with
   |head=>
    unfold qM
    simp only[ho2,eN1,if_true]
    exact⟨_,G3,yc _,fun p hp _=>pc p hp,hfin _⟩
   |tail _ hj=>cases hj
  |tail _ hi=>
   cases hi with
   |head=>
    unfold qM
    simp only[ho2,eN1,if_true]
    refine⟨_,G2,yb _,fun p hp _=>pb p hp,⟨fun h0=>(by rw[R2]at h0;cases h0),fun j hj=>?_⟩⟩
    rw[R2]at hj
    cases hj with
    |head=>
     unfold qM
     simp only[ho1,eN,if_true]
     refine⟨_,G3,yd _,fun p hp _=>pc p hp,?_⟩
     rw[Array.setIfInBounds_comm _ _ (by omega)]
     exact jK hK _ _ _ _ _ _ _ _ (gZ fun d hd he=>by cases hd;cases he;exact hab rfl) (.refl _) (hfin _)
    |tail _ hj=>cases hj
   |tail _ hi=>cases hi
 have hsz:(ops.toList.take n).length+(rest.length+2)=ops.size:=by rw[hlen,hrl];omega
 have h3:=anyM_pre (N:=N) (ops:=ops) (eff:=eff) hK effs G1 G2 G3 (rest.length+2) n _ (ops.toList.take n) planA 0 (Array.replicate ops.size false) α G0 [] [] (by rw[hlen];omega) eL
  (fun j hj=>by rw[hlen]at hj;rw[List.getElem?_take_of_lt hj,Array.getElem?_toList,Nat.zero_add]) hc0 (by rw[hef];exact hA) (by rw[hsz];exact hB.2) (fun p hp=>by cases hp) key h
 have h4:=kW (r:=r) (P:=P) (Q:=aAy N c Q) hd c (fun α' H' c' a' ⟨β,hab,hq⟩ hs' hx' ha'=>⟨c',β,H',rfl,hs',hx',ha'.weaken fun t=>.inr (hab t).symm,hq⟩)
  _ (Array.replicate ops.size false) α G0 _ _ c.draw a hs.draw (Ext.draw c) (ha.mono (Ext.draw c)) h3
 rw[hsz]at h4
 exact h4
end Go.Aw
