/- The texts 41 of 51 beneath the rows of this seat (joined by program): the abstract machine, and what the functions answer. No condition. -/
import Derived.Test.YthhdnjiodklmmaaGreatDoorWorkBN
set_option linter.unusedSimpArgs false
set_option linter.unusedVariables false
set_option linter.unusedSectionVars false
/- diff.Of: maps from paths to items, ars blocks; the list of events. In plain Lean. No condition. -/
namespace Go.Aw
open Go
theorem aMS(y:List UInt8)(w:AV)(clock:Nat):∀(es:List (AV×AV×Nat)),keysIn .string es→keysIn .string (dR (.str y) w es clock)∧
  (∀x,(keyAt (.str x) (dR (.str y) w es clock)).map (·.2)=if x=y then some w else(keyAt (.str x) es).map (·.2)):=by
 intro es
 induction es with
 |nil=>
  intro _
  refine⟨fun p hp=>?_,fun x=>?_⟩
  ·simp only[dR,keyAt,List.nil_append,List.mem_singleton]at hp
   subst hp;rfl
  ·simp only[dR,keyAt,List.nil_append,iG]
   by_cases h:x=y<;>simp[h]
 |cons q es ih=>
  obtain⟨k,v,b⟩:=q
  intro hk
  have hk0:aA8 .string k=true:=hk (k,v,b) (by simp)
  have hk1:keysIn .string es:=fun p hp=>hk p (List.mem_cons_of_mem _ hp)
  cases k<;>simp only[aA8,Bool.false_eq_true]at hk0
  rename_i z
  by_cases hyz:y=z
  ·subst hyz
   have e:dR (.str y) w ((AV.str y,v,b)::es) clock=(.str y,w,b)::es:=by simp[dR,keyAt,iG]
   rw[e]
   refine⟨fun p hp=>?_,fun x=>?_⟩
   ·rcases List.mem_cons.1 hp with rfl|hp
    ·rfl
    ·exact hk1 p hp
   ·simp only[keyAt,iG]
    by_cases h:x=y<;>simp[h]
  ·have hne:iG (.str y) (.str z)=false:=by simp[iG,hyz]
   rw[Go.Gw.qC hne]
   obtain⟨i1,i2⟩:=ih hk1
   refine⟨fun p hp=>?_,fun x=>?_⟩
   ·rcases List.mem_cons.1 hp with rfl|hp
    ·rfl
    ·exact i1 p hp
   ·have:=i2 x
    simp only[keyAt,iG]
    by_cases h:x=z
    ·subst h
     have hxy:¬x=y:=fun e=>hyz e.symm
     simp[hxy]
    ·simp only[decide_eq_false h,cond_false,Option.map_map]
     by_cases hxy:x=y
     ·rw[if_pos hxy]at this ⊢
      cases hkk:keyAt (.str x) (dR (.str y) w es clock)with
      |none=>rw[hkk]at this;cases this
      |some v=>rw[hkk]at this;simpa using this
     ·rw[if_neg hxy]at this ⊢
      cases hkk:keyAt (.str x) (dR (.str y) w es clock)with
      |none=>rw[hkk]at this;cases hk2:keyAt (.str x) es with
       |none=>rfl
       |some v=>rw[hk2]at this;cases this
      |some v=>rw[hkk]at this;cases hk2:keyAt (.str x) es with
       |none=>rw[hk2]at this;cases this
       |some u=>rw[hk2]at this;simpa using this
end Go.Aw
namespace Go.Gw
open Go Go.Aw Go.Proofs.YthhdnjiodklmmaaGreatDoor
structure ItM (l:List Itm) (es:List (AV×AV×Nat)):Prop where
 ki:keysIn .string es
 at_:∀p:Txt,(keyAt (.str p) es).map (·.2)=(lookI p l).map itA
 cl:∀n,∀p∈es,Cl n p.1∧Cl n p.2.1
theorem aVn:ItM [] []:=⟨fun p hp=>(by cases hp),fun x=>rfl,fun n p hp=>(by cases hp)⟩
theorem aQ0(n:Nat)(x:Itm):Cl n (itA x):=.agg _ fun i y hy=>by
 have:=List.mem_of_getElem? hy
 simp only[List.mem_cons,List.not_mem_nil,or_false]at this
 rcases this with rfl|rfl|rfl
 ·exact .str _
 ·exact .int _ _
 ·exact .str _
theorem aVo{l:List Itm}{es:List (AV×AV×Nat)}(h:ItM l es)(x:Itm)(clock:Nat):ItM (l++[x]) (dR (.str x.path) (itA x) es clock):=by
 obtain⟨i1,i2⟩:=aMS x.path (itA x) clock es h.ki
 refine⟨i1,fun p=>?_,fun n=>aB3 (.str _) (aQ0 n x) (h.cl n) clock⟩
 rw[i2,h.at_]
 unfold lookI
 rw[List.reverse_append,List.reverse_cons,List.reverse_nil,List.nil_append,List.singleton_append,List.find?_cons]
 by_cases e:p=x.path
 ·subst e;simp
 ·have e':¬x.path=p:=fun q=>e q.symm
  simp[e,e']
theorem ItM.yes{l:List Itm}{es:List (AV×AV×Nat)}(h:ItM l es){p:Txt}{x:Itm}(hx:lookI p l=some x):∃j,keyAt (.str p) es=some (j,itA x):=by
 have:=h.at_ p
 rw[hx]at this
 obtain⟨⟨j,w⟩,e1,e2⟩:=Option.map_eq_some_iff.1 this
 exact⟨j,by rw[e1];simp only at e2;rw[e2]⟩
theorem ItM.no{l:List Itm}{es:List (AV×AV×Nat)}(h:ItM l es){p:Txt}(hx:lookI p l=none):keyAt (.str p) es=none:=by
 have:=h.at_ p
 rw[hx]at this
 exact Option.map_eq_none_iff.1 this
def evC(evs:List Evt):List AV:=(evs.map gF).flatMap AV.cells
theorem aMT(a:List Evt)(x:Evt):evC (a++[x])=evC a++[.int .i64 x.kind,.str x.path]:=by
 simp[evC,gF,AV.cells]
theorem aCQ(a:List Evt):(evC a).length=a.length * 2:=by
 induction a with
 |nil=>rfl
 |cons x a ih=>
  have:evC (x::a)=[.int .i64 x.kind,.str x.path]++evC a:=by simp[evC,gF,AV.cells]
  rw[this,List.length_append,ih,List.length_cons]
  simp only[List.length_cons,List.length_nil]
  omega
def evH(G:AHeap)(h:Nat)(evs:List Evt):AHeap:=aD (aD G (h+1) (.cells (evs.length+1) (evC evs))) h (.cells 0 [.osl 2 (h+1) (evs.length+1) 0 evs.length evs.length])
theorem aVp{G:AHeap}{h:Nat}(hh:h+1<G.length)(evs:List Evt)(L:AHeap):evH (G++L) h evs=evH G h evs++L:=by
 unfold evH
 rw[bS hh,bS (by rw[aC];omega)]
theorem aGh(G:AHeap)(h:Nat)(evs:List Evt):(evH G h evs).length=G.length:=by unfold evH;rw[aC,aC]
theorem aFm{G:AHeap}{h j:Nat}{B:ABlk}(evs:List Evt)(hj:hget G j=B)(h1:j≠h)(h2:j≠h+1):hget (evH G h evs) j=B:=by
 unfold evH
 exact bB (bB hj (by omega) _) (by omega) _
structure EB (h:Nat) (evs:List Evt) (G:AHeap):Prop where
 b0:hget G h=.cells 0 [.osl 2 (h+1) (evs.length+1) 0 evs.length evs.length]
 b1:hget G (h+1)=.cells (evs.length+1) (evC evs)
theorem EB.lt{h:Nat}{evs:List Evt}{G:AHeap}(k:EB h evs G):h+1<G.length:=bI k.b1 trivial
theorem EB.app{h:Nat}{evs:List Evt}{G:AHeap}(k:EB h evs G)(L:AHeap):EB h evs (G++L):=⟨aH k.b0 trivial L,aH k.b1 trivial L⟩
theorem EB.set{h:Nat}{evs:List Evt}{G:AHeap}(k:EB h evs G){i:Nat}(hi:h+1<i)(X:ABlk):EB h evs (aD G i X):=⟨bB k.b0 (by omega) X,bB k.b1 (by omega) X⟩
theorem EB.put{h:Nat}{G:AHeap}(hl:h+1<G.length)(es:List Evt):EB h es (evH G h es):=
 ⟨cV (by rw[aC];omega) _,bB (cV hl _) (by omega) _⟩
theorem aMU(k n:Nat)(evs:List Evt):ClB n (.cells k (evC evs)):=fun x hx=>by
 unfold evC at hx
 rw[List.mem_flatMap]at hx
 obtain⟨y,hy,hx⟩:=hx
 obtain⟨t, -,rfl⟩:=List.mem_map.1 hy
 simp only[gF,AV.cells,List.mem_cons,List.not_mem_nil,or_false]at hx
 rcases hx with rfl|rfl
 ·exact .int _ _
 ·exact .str _
theorem aKo{G:AHeap}{h n:Nat}(evs:List Evt)(hn:h+1<n):∀(j:Nat) (b:ABlk),(evH G h evs)[j]?=some b→G[j]?=some b∨ClB n b:=fun j b hj=>by
 rcases pD (n:=n) (b:=.cells 0 [.osl 2 (h+1) (evs.length+1) 0 evs.length evs.length]) (fun x hx=>by rw[List.mem_singleton]at hx;subst hx;exact .osl _ _ _ _ _ _ (by omega)) j b hj with q|q
 ·exact pD (aMU _ _ evs) j b q
 ·exact .inr q
end Go.Gw
/- diff.Of's closure, and slices.Backward of items. No condition but how many. -/
namespace Go.Proofs.YthhdnjiodklmmaaGreatDoor
open Go Go.Aw Go.Gw
set_option linter.unusedSimpArgs false
set_option linter.unusedVariables false
set_option maxRecDepth 20000
set_option maxHeartbeats 4000000
theorem aWa(kind:Int)(path:Txt)(evs:List Evt)(u:Nat)(hl:evs.length≤4294967296)(G:AHeap)(hB:EB u evs G):
  ACalls Tryz.prog 39 [.int .i64 kind,.str path,.ref u 0 0] G (fun v G'=>v=.tup []∧G'=evH G u (evs++[⟨kind,path⟩])):=by
 refine fW Tryz.func39 rfl (Nat.le_of_ble_eq_true rfl) ?_
 have b0:=hB.b0
 have b1:=hB.b1
 have hlt:=hB.lt
 have r0:∀c,hget (aD G (u+1) c) u=_:=fun c=>bB b0 (by omega) c
 have hcs:(evC evs).length=evs.length * 2:=aCQ _
 have hq1:(∀e,e=AV.agg [.int .i64 kind,.str path]→e.cells.length=2)=True:=eq_true (fun e he=>by rw[he];rfl)
 have hq2:((evs.length+1) * 24≤140737488355328)=True:=eq_true (by omega)
 have hsp:cR [AV.osl 2 (u+1) (evs.length+1) 0 evs.length evs.length] 0 [.osl 2 (u+1) (evs.length+2) 0 (evs.length+1) (evs.length+1)]=[.osl 2 (u+1) (evs.length+2) 0 (evs.length+1) (evs.length+1)]:=rfl
 have hput:aD (aD G (u+1) (.cells (evs.length+2) (evC evs++[.int .i64 kind,.str path]))) u (.cells 0 [.osl 2 (u+1) (evs.length+2) 0 (evs.length+1) (evs.length+1)])=evH G u (evs++[⟨kind,path⟩]):=by
  unfold evH
  rw[aMT,List.length_append]
  rfl
 repeat' first|(refine gS ?_;simp only[go_sem,b0,b1,r0,hcs,hq1,hq2,hsp])|refine gA ?_|(refine gD (fun h=>?_) (fun h=>?_)<;>try exact aA h)|fail
 rw[hput]
 exact⟨_,[],.tup [],(List.append_nil _).symm,by rw[aGh];exact Nat.le_refl _,by rw[aGh];exact aKo _ hlt,.cl _ (.tup _ fun _ _ hx=>by simp at hx),rfl,rfl⟩
theorem aMV(l:List Itm):∀e∈l.map itA,Pur e:=fun e he=>by obtain⟨x,_,rfl⟩:=List.mem_map.1 he;exact(by simp only[go_sem])
theorem aQ1(k:Nat)(b:Bool)(l:List Itm):Cl k (.sl b (l.map itA)):=(Pur.sl b _ (aMV l)).cl k
theorem aVq(b:Bool)(l:List Itm)(H:AHeap):cJ Tryz.prog 40 [.sl b (l.map itA)] H (.func (.func 81) [] [.cptr [.sl b (l.map itA)]]):=by
 refine aL Tryz.func40 rfl (Nat.le_of_ble_eq_true rfl) ?_
 repeat' first|(refine gS ?_;simp only[go_sem])|refine gA ?_|(refine gD (fun h=>?_) (fun h=>?_)<;>try exact aA h)|fail
 refine⟨_,_,rfl,?_,rfl⟩
 refine .func _ _ _ _ _ rfl rfl gQ (dW (yN (Nat.le_refl _) (by simp only[go_sem]) ?_) gQ)
 simp only[List.mem_singleton,forall_eq];exact aQ1 _ _ _
theorem aUD(b:Bool)(l:List Itm)(y:Nat)(J:Nat→AHeap→Prop)(hY:∀i (h:i<l.length) G,J (i+1) G→AYield Tryz.prog y [.int .i64 i,itA l[i]] G (fun v G'=>v=.bool true∧J i G'))(hl:l.length≤4294967296)(H:AHeap)(h0:J l.length H):
  ACalls Tryz.prog 81 [.func (.yield y) [] [],.cptr [.sl b (l.map itA)]] H (fun _ G=>J 0 G):=by
 refine dH Tryz.func81 rfl (Nat.le_of_ble_eq_true rfl) ?_
 have hw:IntKind.i64.wrap ((l.length:Int)-1)=(l.length:Int)-1:=wrap_i64 (by omega) (by omega)
 repeat' first|(refine gS ?_;simp only[go_sem,hw])|refine gA ?_|(refine gD (fun h=>?_) (fun h=>?_)<;>try exact aA h)|fail
 refine aP (ι:=Int×AHeap) (fun s=>[(0,.func (.yield y) [] []),(1,.cptr [.sl b (l.map itA)]),(3,.int .i64 s.1)]) (fun s=>s.2) (fun s=>∃k:Nat,s.1=(k:Int)-1∧k≤l.length∧J k s.2) (fun s=>(s.1+1).toNat) ((l.length:Int)-1,H) ⟨l.length,rfl,Nat.le_refl _,h0⟩ ?_ rfl ?_
 ·simp[go_sem]
 rintro⟨v,G⟩ ⟨k,hv,hk,hJ⟩
 simp only at hv hk hJ ⊢
 cases k with
 |zero=>
  have hv':v= -1:=by omega
  subst hv'
  repeat' first|(refine gS ?_;simp only[go_sem])|refine gA ?_|(refine gD (fun h=>?_) (fun h=>?_)<;>try exact aA h)|fail
  exact hJ
 |succ i=>
  have hv':v=(i:Int):=by omega
  subst hv'
  have hgd:(l.map itA).getD i .top=itA l[i]:=by simp[show i<l.length from hk]
  have hge:decide (0≤(i:Int))=true:=decide_eq_true (by omega)
  have hw2:IntKind.i64.wrap ((i:Int)-1)=(i:Int)-1:=wrap_i64 (by omega) (by omega)
  have hy:=hY i hk G hJ
  repeat' first|(refine gS ?_;simp only[go_sem,hgd,hge,itA,hk])|refine gA ?_|(refine gD (fun h=>?_) (fun h=>?_)<;>try exact aA h)|fail
  refine pY hy ?_
  rintro v G' ⟨rfl,hJ'⟩
  simp only[go_sem]
  repeat' first|(refine gS ?_;simp only[go_sem,hw2])|refine gA ?_|(refine gD (fun h=>?_) (fun h=>?_)<;>try exact aA h)|fail
  exact⟨((i:Int)-1,G'),⟨i,rfl,by omega,hJ'⟩,by simp only;omega,rfl,rfl⟩
end Go.Proofs.YthhdnjiodklmmaaGreatDoor
