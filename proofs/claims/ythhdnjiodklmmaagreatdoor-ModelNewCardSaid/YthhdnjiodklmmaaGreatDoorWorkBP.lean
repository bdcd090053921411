/- The texts 42 of 51 beneath the rows of this seat (joined by program): the abstract machine, and what the functions answer. No condition. -/
import Derived.Test.YthhdnjiodklmmaaGreatDoorWorkBO
set_option linter.unusedSimpArgs false
set_option linter.unusedVariables false
set_option linter.unusedSectionVars false
/- watch.lay, Put, Take: events that wait. No condition but how many. -/
namespace Go.Gw
open Go Go.Aw Go.Proofs.YthhdnjiodklmmaaGreatDoor
def lsA(ps:List (Bool×List Evt)):List AV:=ps.map fun p=>.sl p.1 (p.2.map gF)
def gX(ps:List (Bool×List Evt))(i:Nat):List Evt:=(ps.take i).flatMap (·.2)
theorem wZ{ps:List (Bool×List Evt)}{i:Nat}(h:i<ps.length):gX ps (i+1)=gX ps i++ps[i].2:=by
 unfold gX;rw[List.take_succ_eq_append_getElem h,List.flatMap_append,List.flatMap_singleton]
theorem aMW(ps:List (Bool×List Evt))(i:Nat):(gX ps i).length≤(gX ps ps.length).length:=by
 unfold gX
 rw[List.take_length]
 conv=>rhs;rw[←List.take_append_drop i ps,List.flatMap_append,List.length_append]
 omega
def evZ:AV:=.agg [.int .i64 0,.str []]
theorem aKp(n:Nat):(List.flatMap AV.cells (List.replicate n evZ)).length=n * 2:=by
 induction n with
 |zero=>rfl
 |succ n ih=>rw[List.replicate_succ,List.flatMap_cons,List.length_append,ih];simp[evZ,AV.cells];omega
theorem aGi{ps:List (Bool×List Evt)}{i:Nat}(h:i<ps.length):(lsA ps).getD i .top=.sl ps[i].1 (ps[i].2.map gF):=by simp[lsA,h]
theorem aQ2(l:List Evt):List.flatMap AV.cells (l.map gF)=evC l:=rfl
theorem aFn(a b:List Evt):evC (a++b)=evC a++evC b:=by simp[evC]
theorem aQ3(l:List Evt):(evC l).all AV.one=true:=by
 rw[List.all_eq_true]
 intro x hx
 unfold evC at hx
 rw[List.mem_flatMap]at hx
 obtain⟨y,hy,hx⟩:=hx
 obtain⟨t, -,rfl⟩:=List.mem_map.1 hy
 simp only[gF,AV.cells,List.mem_cons,List.not_mem_nil,or_false]at hx
 rcases hx with rfl|rfl<;>rfl
theorem aB5(l:List Evt):(∀e∈l.map gF,e.cells.length=2)=True:=eq_true fun e he=>by
 obtain⟨x,_,rfl⟩:=List.mem_map.1 he;rfl
end Go.Gw
namespace Go.Proofs.YthhdnjiodklmmaaGreatDoor
open Go Go.Aw Go.Gw
set_option linter.unusedSimpArgs false
set_option linter.unusedVariables false
set_option maxRecDepth 20000
set_option maxHeartbeats 4000000
def xX:List Pl:=[.pure 0,.pure 0,.free,.free,.free,.pure 0,.free,.free,.pure 0,.free,.eff [false,false,false,false]]
def xY:List Pl:=[.pure 0,.pure 0,.free,.pure 0,.free,.pure 0,.pure 0,.pure 0,.free,.pure 0,.pure 0,.free,.free,.pure 0,.free,.pure 0,.eff [false,true,true,true,false,false,false,false,false,false],.free]
attribute [go_sem] xX xY
theorem aFo(f:Bool)(ps:List (Bool×List Evt))(hp:ps.length≤1073741824)(hl:(gX ps ps.length).length≤4294967296)(H:AHeap):
  cJ Tryz.prog 37 [.sl f (lsA ps)] H (.sl false ((gX ps ps.length).map gF)):=by
 refine aL Tryz.func37 rfl (Nat.le_of_ble_eq_true rfl) ?_
 have hle:=aMW ps
 have hlen:(lsA ps).length=ps.length:=by simp[lsA]
 repeat' first|(refine gS ?_;simp only[go_sem,hlen])|refine gA ?_|(refine gD (fun h=>?_) (fun h=>?_)<;>try exact aA h)|fail
 refine iC (ι:=Unit) (fun _=>[(0,.sl f (lsA ps)),(3,.int .i64 (gX ps ps.length).length)]) (fun _=>H) (fun _=>True) ?_ fun _ _=>?_
 ·refine aP (ι:=Nat) (fun i=>[(0,.sl f (lsA ps)),(3,.int .i64 (gX ps i).length),(9,.sl f (lsA ps)),(10,.int .i64 ps.length),(11,.int .i64 i)]) (fun _=>H) (fun i=>i≤ps.length) (fun i=>ps.length-i) 0 (Nat.zero_le _) ?_ rfl ?_
  ·simp[go_sem,gX]
  intro i hi
  by_cases hin:i<ps.length
  ·have hgd:=aGi hin
   have h1:=hle (i+1)
   rw[wZ hin,List.length_append]at h1
   have hw:IntKind.i64.wrap (((gX ps i).length:Int)+(ps[i].2.length:Int))=((gX ps (i+1)).length:Int):=by rw[wrap_i64 (by omega) (by omega),wZ hin,List.length_append];omega
   repeat' first|(refine gS ?_;simp only[go_sem,hin,hgd,hlen,hw])|refine gA ?_|(refine gD (fun h=>?_) (fun h=>?_)<;>try exact aA h)|fail
   exact⟨i+1,hin,by omega,rfl,congrArg _ (bD hin (by omega))⟩
  ·have hie:i=ps.length:=by omega
   subst hie
   repeat' first|(refine gS ?_;simp only[go_sem])|refine gA ?_|(refine gD (fun h=>?_) (fun h=>?_)<;>try exact aA h)|fail
   exact⟨(),trivial⟩
 obtain⟨n,hn⟩:∃n,n=(gX ps ps.length).length:=⟨_,rfl⟩
 rw[←hn]
 rw[←hn]at hl hle
 have lz:=aKp n
 have hz:evZ=.agg [.int .i64 0,.str []]:=rfl
 repeat' first|(refine gS ?_;simp only[go_sem,hlen,←hz,lz])|refine gA ?_|(refine gD (fun h=>?_) (fun h=>?_)<;>try exact aA h)|fail
 obtain⟨Z,hZ⟩:∃Z,Z=List.flatMap AV.cells (List.replicate n evZ):=⟨_,rfl⟩
 rw[←hZ]at lz ⊢
 refine aP (ι:=Nat) (fun i=>[(3,.int .i64 (gX ps i).length),(6,.osl 2 H.length 1 0 n n),(22,.sl f (lsA ps)),(23,.int .i64 ps.length),(24,.int .i64 i)]) (fun i=>H++[.cells 1 (evC (gX ps i)++Z.drop ((gX ps i).length * 2))]) (fun i=>i≤ps.length) (fun i=>ps.length-i) 0 (Nat.zero_le _) ?_ ?_ ?_
 ·simp[go_sem,gX]
 ·simp[gX,evC]
 intro i hi
 by_cases hin:i<ps.length
 ·have hgd:=aGi hin
  have h1:=hle (i+1)
  have hs:=wZ hin
  rw[hs,List.length_append]at h1
  have hw:IntKind.i64.wrap (((gX ps i).length:Int)+(ps[i].2.length:Int))=((gX ps (i+1)).length:Int):=by rw[wrap_i64 (by omega) (by omega),hs,List.length_append];omega
  have hlc:(evC (gX ps i)).length=(gX ps i).length * 2:=aCQ _
  have hlx:(evC ps[i].2).length=ps[i].2.length * 2:=aCQ _
  have hsp:cR (evC (gX ps i)++Z.drop ((gX ps i).length * 2)) ((gX ps i).length * 2) (evC ps[i].2)=evC (gX ps (i+1))++Z.drop ((gX ps (i+1)).length * 2):=by
   rw[fD hlc,hlx,List.drop_drop,hs,aFn,List.length_append,List.append_assoc,Nat.add_mul]
  repeat' first|(refine gS ?_;simp only[go_sem,hin,hgd,hlen,hw,aQ2,hsp,hlc,hlx,aQ3,aB5,List.length_drop,lz])|refine gA ?_|(refine gD (fun h=>?_) (fun h=>?_)<;>try exact aA h)|fail
  exact⟨i+1,hin,by omega,⟨rfl,congrArg _ (bD hin (by omega))⟩,rfl⟩
 ·have hie:i=ps.length:=by omega
  subst hie
  repeat' first|(refine gS ?_;simp only[go_sem,hin])|refine gA ?_|(refine gD (fun h=>?_) (fun h=>?_)<;>try exact aA h)|fail
  exact jS (cs:=evC (gX ps ps.length)++Z.drop ((gX ps ps.length).length * 2)) (es:=(gX ps ps.length).map gF) (rest:=Z.drop ((gX ps ps.length).length * 2)) (Nat.le_refl _) (by simp only[go_sem]) rfl (by rw[List.length_map,hn]) (fun e he=>by obtain⟨x,_,rfl⟩:=List.mem_map.1 he;rfl) (fun e he=>by obtain⟨x,_,rfl⟩:=List.mem_map.1 he;exact(by simp only[go_sem])) rfl
theorem aKq(f o:Bool)(e:List Evt)(he:e.length≤1073741824)(u:Nat)(H:AHeap)(hu:hget H u=.cells 0 [.sl f (e.map gF),.bool o]):cJ Tryz.prog 38 [.ref u 0 0] H (.int .i64 ((8-e.length:Nat):Int)):=by
 refine aL Tryz.func38 rfl (Nat.le_of_ble_eq_true rfl) ?_
 have hw:max (IntKind.i64.wrap (8-(e.length:Int))) 0=((8-e.length:Nat):Int):=by rw[wrap_i64 (by omega) (by omega)];omega
 repeat' first|(refine gS ?_;simp only[go_sem,hu,hw])|refine gA ?_|(refine gD (fun h=>?_) (fun h=>?_)<;>try exact aA h)|fail
 exact aY (by simp only[go_sem]) (.refl _)
theorem aFp(f f1:Bool)(a:List Evt)(ha:a.length≤1073741824)(H:AHeap):cJ Tryz.prog 37 [.sl f [.sl f1 (a.map gF)]] H (.sl false (a.map gF)):=by
 have h1:=aFo f [(f1,a)] (by simp) (by simp[gX];omega) H
 simpa[lsA,gX]using h1
theorem aQ4(f f1 f2:Bool)(a b:List Evt)(ha:a.length≤1073741824)(hb:b.length≤1073741824)(H:AHeap):cJ Tryz.prog 37 [.sl f [.sl f1 (a.map gF),.sl f2 (b.map gF)]] H (.sl false ((a++b).map gF)):=by
 have h1:=aFo f [(f1,a),(f2,b)] (by simp) (by simp[gX];omega) H
 simpa[lsA,gX]using h1
theorem aQ5(f f1 f2 f3:Bool)(a b c:List Evt)(ha:a.length≤1073741824)(hb:b.length≤1073741824)(hc:c.length≤1073741824)(H:AHeap):cJ Tryz.prog 37 [.sl f [.sl f1 (a.map gF),.sl f2 (b.map gF),.sl f3 (c.map gF)]] H (.sl false ((a++b++c).map gF)):=by
 have h1:=aFo f [(f1,a),(f2,b),(f3,c)] (by simp) (by simp[gX];omega) H
 simpa[lsA,gX]using h1
theorem aKr(f f2 o:Bool)(e l:List Evt)(he:e.length≤1073741824)(hl:l.length≤1073741824)(H:AHeap):cJ Tryz.prog 18 [.agg [.sl f (e.map gF),.bool o],.sl f2 (l.map gF)] H (.agg [.sl false ((kC e o l).1.map gF),.bool (kC e o l).2]):=by
 refine aL Tryz.func18 rfl (Nat.le_of_ble_eq_true rfl) ?_
 cases o with
 |true=>
  have h1:=aFp true f e he
  unfold kC
  have ct0:=ct h1 nV;repeat' first|((first|refine gK ?_|refine gS ?_);simp only[go_sem])|refine gA ?_|(refine gD (fun h=>?_) (fun h=>?_)<;>try exact aA h)|fail
  exact done (by simp only[go_sem]) (.refl _)
 |false=>
  have hp:kC e false l=if 8-e.length<l.length then(e++l.take (8-e.length)++[⟨9,[]⟩],true)else(e++l,false):=rfl
  have h3:=aQ5 true f true true e (l.take (8-e.length)) [⟨9,[]⟩] he (by rw[List.length_take];omega) (by simp)
  have h2:=aQ4 true f f2 e l he hl
  have ht:List.take (8-e.length) (List.map gF l)=List.map gF (l.take (8-e.length)):=List.map_take.symm
  by_cases hs:8-e.length<l.length
  ·rw[hp,if_pos hs]
   have h5:8-e.length≤l.length:=by omega
   repeat' first|(refine gS ?_;simp only[go_sem])|refine gA ?_|(refine gD (fun h=>?_) (fun h=>?_)<;>try exact aA h)|fail
   refine mX (aKq f false e he H.length _ (by simp only[go_sem])) aBz ?_
   rintro v H' ⟨rfl,rfl⟩
   simp only[go_sem]
   have ct0:=ct h3 nV;repeat' first|((first|refine gK ?_|refine mx [7] xX ?_|refine gS ?_);simp only[go_sem,hs,h5,ht])|refine gA ?_|(refine gD (fun h=>?_) (fun h=>?_)<;>try exact aA h)|fail
   exact done (by simp only[go_sem]) (.refl _)
  ·rw[hp,if_neg hs]
   repeat' first|(refine gS ?_;simp only[go_sem])|refine gA ?_|(refine gD (fun h=>?_) (fun h=>?_)<;>try exact aA h)|fail
   refine mX (aKq f false e he H.length _ (by simp only[go_sem])) aBz ?_
   rintro v H' ⟨rfl,rfl⟩
   simp only[go_sem]
   have ct0:=ct h2 nV;repeat' first|((first|refine gK ?_|refine gS ?_);simp only[go_sem,hs])|refine gA ?_|(refine gD (fun h=>?_) (fun h=>?_)<;>try exact aA h)|fail
   exact done (by simp only[go_sem]) (.refl _)
theorem aMX(f o:Bool)(e:List Evt)(n:Int)(he:e.length≤1073741824)(H:AHeap):cJ Tryz.prog 138 [.agg [.sl f (e.map gF),.bool o],.int .i64 n] H (.tup [.agg [.sl false ((e.drop (min n.toNat e.length)).map gF),.bool o],.sl false ((e.take (min n.toNat e.length)).map gF)]):=by
 refine aL Tryz.func138 rfl (Nat.le_of_ble_eq_true rfl) ?_
 obtain⟨k,hk⟩:∃k,k=min n.toNat e.length:=⟨_,rfl⟩
 have hk2:min (max n 0) (e.length:Int)=(k:Int):=by omega
 have hke:k≤e.length:=by omega
 have h1:=aFp true f (e.drop k) (by rw[List.length_drop];omega)
 have h2:=aFp true true (e.take k) (by rw[List.length_take];omega)
 have t1:List.take k (List.map gF e)=List.map gF (e.take k):=List.map_take.symm
 have t2:List.drop k (List.map gF e)=List.map gF (e.drop k):=List.map_drop.symm
 rw[←hk]
 have ct0:=ct h1 nV;have ct1:=ct h2 nV;repeat' first|((first|refine gK ?_|refine mx [2] xY ?_|refine gS ?_);simp only[go_sem,hk2,hke,t1,t2,aB5])|refine gA ?_|(refine gD (fun h=>?_) (fun h=>?_)<;>try exact aA h)|fail
 exact done (by simp only[go_sem]) (.refl _)
end Go.Proofs.YthhdnjiodklmmaaGreatDoor
