/- The texts 18 of 51 beneath the rows of this seat (joined by program): the abstract machine, and what the functions answer. No condition. -/
import Derived.Test.YthhdnjiodklmmaaGreatDoorWorkAH
import Derived.Test.YthhdnjiodklmmaaGreatDoorWorkAI
import Derived.Test.YthhdnjiodklmmaaGreatDoorWorkAQ
set_option linter.unusedSimpArgs false
set_option linter.unusedVariables false
set_option linter.unusedSectionVars false
/- Sorting that keeps the order of what is alike: lists, with no program in sight. No condition. -/
namespace Go.Srt
section
variable {α:Type} (lt:α→α→Bool)
structure SWO:Prop where
 irr:∀a,lt a a=false
 ntr:∀a b c,lt a b=false→lt b c=false→lt a c=false
 asy:∀a b,lt a b=true→lt b a=false
def eqv(k x:α):Bool:= !lt k x&& !lt x k
theorem aJr{k x:α}:eqv lt k x=true↔lt k x=false∧lt x k=false:=by simp[eqv]
def Sd(l:List α):Prop:=l.Pairwise (fun a b=>lt b a=false)
def Fs(xs ys:List α):Prop:=ys.length=xs.length∧∀k,ys.filter (eqv lt k)=xs.filter (eqv lt k)
variable {lt}
theorem Fs.refl(xs:List α):Fs lt xs xs:=⟨rfl,fun _=>rfl⟩
theorem Fs.trans{a b c:List α}(h:Fs lt a b)(k:Fs lt b c):Fs lt a c:=⟨k.1.trans h.1,fun x=>(k.2 x).trans (h.2 x)⟩
theorem Fs.app{a b c d:List α}(h:Fs lt a b)(k:Fs lt c d):Fs lt (a++c) (b++d):=
 ⟨by rw[List.length_append,List.length_append,h.1,k.1],fun x=>by rw[List.filter_append,List.filter_append,h.2,k.2]⟩
theorem Fs.mem{a b:List α}(hw:SWO lt)(h:Fs lt a b)(x:α):x∈b↔x∈a:=by
 have e:eqv lt x x=true:=aJr lt|>.2 ⟨hw.irr x,hw.irr x⟩
 have:=h.2 x
 have m1:x∈b.filter (eqv lt x)↔x∈b:=by rw[List.mem_filter];simp[e]
 have m2:x∈a.filter (eqv lt x)↔x∈a:=by rw[List.mem_filter];simp[e]
 rw[←m1,←m2,this]
theorem Fs.swap(hw:SWO lt){A B:List α}(h:∀a∈A,∀b∈B,lt b a=true):Fs lt (A++B) (B++A):=by
 refine⟨by rw[List.length_append,List.length_append,Nat.add_comm],fun k=>?_⟩
 rw[List.filter_append,List.filter_append]
 by_cases hA:A.filter (eqv lt k)=[]
 ·rw[hA,List.append_nil,List.nil_append]
 ·obtain⟨a,ha⟩:=List.exists_mem_of_ne_nil _ hA
  rw[List.mem_filter]at ha
  have hB:B.filter (eqv lt k)=[]:=by
   rw[List.filter_eq_nil_iff]
   intro b hb e
   have e1:=(aJr lt).1 e
   have e2:=(aJr lt).1 ha.2
   have:=hw.ntr b k a e1.2 e2.1
   rw[h a ha.1 b hb]at this;cases this
  rw[hB,List.append_nil,List.nil_append]
theorem Sd.app{a b:List α}(ha:Sd lt a)(hb:Sd lt b)(h:∀x∈a,∀y∈b,lt y x=false):Sd lt (a++b):=List.pairwise_append.2 ⟨ha,hb,h⟩
theorem Sd.left{a b:List α}(h:Sd lt (a++b)):Sd lt a:=(List.pairwise_append.1 h).1
theorem Sd.right{a b:List α}(h:Sd lt (a++b)):Sd lt b:=(List.pairwise_append.1 h).2.1
theorem Sd.nil:Sd lt ([]:List α):=List.Pairwise.nil
theorem Sd.one(x:α):Sd lt [x]:=List.pairwise_singleton _ _
theorem Sd.get{l:List α}(h:Sd lt l){i j:Nat}(hij:i<j)(hj:j<l.length):lt l[j] (l[i]'(by omega))=false:=List.pairwise_iff_getElem.1 h i j (by omega) hj hij
end
end Go.Srt
/- Sorting of operations in memory: elements, ranges, insertion. No condition. -/
namespace Go.Gw
set_option linter.unusedSimpArgs false
open Go Go.Aw Go.Proofs.YthhdnjiodklmmaaGreatDoor
def fl(D:List Opn):List AV:=(D.map opA).flatMap AV.cells
end Go.Gw
namespace Go.Aw
set_option linter.unusedSimpArgs false
open Go Go.Gw Go.Proofs.YthhdnjiodklmmaaGreatDoor
theorem iL(H:AHeap)(i:Nat)(b b':ABlk):aD (aD H i b) i b'=aD H i b':=by simp[aD]
theorem kA{H:AHeap}{i:Nat}{b:ABlk}(h:hget H i=b)(hb:b.live)(b':ABlk):hget (aD H i b') i=b':=dY (bI h hb) b'
theorem nE{H:AHeap}{i:Nat}{b:ABlk}(h:hget H i=b)(hb:b.live):aD H i b=H:=aGt (dQ h hb)
where
 pur_opm (l:List Opn):∀e∈l.map opA,Pur e:=fun e he=>by
  obtain⟨x,_,rfl⟩:=List.mem_map.1 he;exact(by simp only[go_sem])
theorem pD{H:AHeap}{i n:Nat}{b:ABlk}(hb:ClB n b):∀(j:Nat) (c:ABlk),(aD H i b)[j]?=some c→H[j]?=some c∨ClB n c:=by
 intro j c hj
 by_cases e:i=j
 ·subst e
  unfold aD at hj
  by_cases hl:i<H.length
  ·rw[List.getElem?_set_self hl]at hj;cases hj;exact .inr hb
  ·rw[List.getElem?_eq_none (by rw[List.length_set];omega)]at hj;cases hj
 ·unfold aD at hj
  rw[List.getElem?_set_ne e]at hj;exact .inl hj
theorem jD{H:AHeap}{i:Nat}{b:ABlk}(hb:ClB H.length b)(R:AV→AHeap→Prop)(hR:R (.tup []) (aD H i b)):
  ∃H1 L y,aD H i b=H1++L∧H1.length=H.length∧(∀(j:Nat) (c:ABlk),H1[j]?=some c→H[j]?=some c∨ClB H.length c)∧Frz H.length (aD H i b) (.tup []) y∧R y H1:=by
 exact⟨aD H i b,[],.tup [],(List.append_nil _).symm,cT H i b,pD hb,.cl _ (Pur.cl (.tup _ (fun _ h=>by cases h)) _),hR⟩
theorem aJ{n:Nat}{m:Int}(h:(n:Int)=m)(hn:n≤9223372036854775807):IntKind.i64.wrap m=(n:Int):=by subst h;exact wrap_i64 (by omega) (by omega)
theorem aCo{P:Program}{N:Nat}{x y:Code}{Q:bP}{α:AF}{H:AHeap}{ι:Type}(F:ι→AF)(Hp:ι→AHeap)(pre:ι→Prop)(h1:aw P N x (aEQ F Hp pre Q) α H)(h2:∀i,pre i→aw P N y Q (F i) (Hp i)):aw P N x (zE P N y Q) α H:=by
 refine yK h1 fun e α' H' h=>?_
 cases e with
 |normal=>
  obtain⟨i,hp,hs,rfl⟩:=h
  exact qZ (h2 i hp) (kI hs)
 |_=>exact h
end Go.Aw
namespace Go.Proofs.YthhdnjiodklmmaaGreatDoor
open Go Go.Aw Go.Gw Go.Srt
set_option linter.unusedSimpArgs false
set_option maxRecDepth 20000
set_option maxHeartbeats 2000000
set_option maxHeartbeats 4000000
end Go.Proofs.YthhdnjiodklmmaaGreatDoor
/- strings.Split at a separator of one byte. No condition but the length of what comes in. -/
namespace Go.Gw
open Go Go.Aw Go.Proofs.YthhdnjiodklmmaaGreatDoor
def dN(b:UInt8):List UInt8→List (List UInt8)
 |[]=>[[]]
 |c::l=>match dN b l with
  |[]=>[[]]
  |h::t=>if c=b then[]::h::t else(c::h)::t
theorem wO(b:UInt8)(l:List UInt8):dN b l≠[]:=by
 cases l with
 |nil=>simp[dN]
 |cons c l=>rw[dN];split;simp;split<;>simp
theorem aAB{b:UInt8}{l:List UInt8}(h:Lib.indexByte l b<0):dN b l=[l]∧Lib.countByte l b=0:=by
 induction l with
 |nil=>exact⟨rfl,rfl⟩
 |cons c l ih=>
  rw[Lib.indexByte]at h
  split at h
  ·omega
  ·rename_i h1
   have h2:Lib.indexByte l b<0:=by
    have:=Lib.indexByte_ge l b
    split at h
    ·rename_i h3;have:Lib.indexByte l b= -1:=by simpa using h3
     omega
    ·omega
   obtain⟨e1,e2⟩:=ih h2
   have h3:¬c=b:=by simpa using h1
   refine⟨by rw[dN,e1];simp[h3],?_⟩
   unfold Lib.countByte at e2 ⊢
   rw[List.count_cons,e2];simp[h3]
theorem aAC{b:UInt8}{l:List UInt8}{k:Nat}(h:Lib.indexByte l b=k):k<l.length∧dN b l=l.take k::dN b (l.drop (k+1))∧Lib.countByte l b=Lib.countByte (l.drop (k+1)) b+1:=by
 induction l generalizing k with
 |nil=>rw[Lib.indexByte]at h;omega
 |cons c l ih=>
  rw[Lib.indexByte]at h
  split at h
  ·rename_i h1
   have h1:c=b:=by simpa using h1
   have hk:k=0:=by omega
   subst hk
   subst h1
   refine⟨by simp,?_,?_⟩
   ·rw[dN]
    cases hs:dN c l with
    |nil=>exact absurd hs (wO c l)
    |cons x t=>simp[hs]
   ·unfold Lib.countByte;simp
  ·rename_i h1
   have h3:¬c=b:=by simpa using h1
   split at h
   ·omega
   ·obtain⟨j,rfl⟩:∃j,k=j+1:=⟨k-1,by
     rename_i h4
     have:=Lib.indexByte_ge l b
     have h5:¬Lib.indexByte l b= -1:=by simpa using h4
     omega⟩
    obtain⟨a1,a2,a3⟩:=ih (k:=j) (by omega)
    refine⟨by simpa using a1,?_,?_⟩
    ·rw[dN,a2];simp[h3]
    ·unfold Lib.countByte at a3 ⊢
     rw[List.count_cons,a3];simp[h3]
theorem aES{b:UInt8}{l:List UInt8}(h:Lib.countByte l b=0):dN b l=[l]:=by
 rcases Int.lt_or_le (Lib.indexByte l b) 0 with h1|h1
 ·exact(aAB h1).1
 ·have:=(aAC (b:=b) (l:=l) (k:=(Lib.indexByte l b).toNat) (by omega)).2.2
  omega
theorem aHe{b:UInt8}{l:List UInt8}(h:0<Lib.countByte l b):∃k:Nat,Lib.indexByte l b=k:=by
 rcases Int.lt_or_le (Lib.indexByte l b) 0 with h1|h1
 ·have:=(aAB h1).2;omega
 ·exact⟨(Lib.indexByte l b).toNat,by omega⟩
theorem aAD(A B:List AV)(y x:AV){n:Nat}(h:A.length=n):cR (A++y::B) (n * 1) [x]=A++x::B:=by
 subst h
 rw[Nat.mul_one]
 simp[cR]
end Go.Gw
namespace Go.Proofs.YthhdnjiodklmmaaGreatDoor
open Go Go.Aw Go.Gw
set_option linter.unusedSimpArgs false
set_option maxRecDepth 20000
set_option maxHeartbeats 2000000
theorem aJs(s:List UInt8)(b:UInt8)(hs:s.length≤1048576)(H:AHeap):cJ Tryz.prog 203 [.str s,.str [b],.int .i64 0,.int .i64 (-1)] H (.sl false ((dN b s).map AV.str)):=by
 refine aL Tryz.func203 rfl (Nat.le_of_ble_eq_true rfl) ?_
 have hcle:Lib.countByte s b≤s.length:=List.count_le_length
 have hcnt:=aIY s b
 generalize hm:Lib.countByte s b=m at *
 have w1:IntKind.i64.wrap ((m:Int)+1)=((m+1:Nat):Int):=by rw[wrap_i64 (by omega) (by omega)];rfl
 have w2:IntKind.i64.wrap ((s.length:Int)+1)=((s.length+1:Nat):Int):=by rw[wrap_i64 (by omega) (by omega)];rfl
 have w3:min ((m+1:Nat):Int) ((s.length+1:Nat):Int)=((m+1:Nat):Int):=by omega
 have w4:IntKind.i64.wrap (((m+1:Nat):Int)-1)=(m:Int):=by rw[wrap_i64 (by omega) (by omega)];omega
 have w5:(((m+1:Nat):Int)).toNat=m+1:=Int.toNat_natCast _
 have e0:List.flatMap AV.cells (List.replicate (m+1) (AV.str []))=List.replicate (m+1) (AV.str []):=by
  rw[List.flatMap_replicate];simp[AV.cells]
 have hc1:∀l:List (List UInt8),(l.map AV.str).flatMap AV.cells=l.map AV.str:=fun l=>by
  rw[List.flatMap_map];induction l with|nil=>rfl|cons x l ih=>rw[List.flatMap_cons,List.map_cons,ih];rfl
 have ct0:=ct hcnt aEA;repeat' first|((first|refine gK ?_|refine gS ?_);simp only[go_sem,w1,w2,w3,w4,w5,e0])|refine gA ?_|(refine gD (fun h=>?_) (fun h=>?_)<;>try exact aA h)|fail
 refine aP (ι:=Nat×List (List UInt8)×List UInt8) (fun x=>[(0,.str x.2.2),(1,.str [b]),(2,.int .i64 0),(3,.int .i64 m),(9,.osl 1 H.length 1 0 (m+1) (m+1)),(10,.int .i64 x.1)])
  (fun x=>H++[.cells 1 (x.2.1.map AV.str++List.replicate (m+1-x.1) (.str []))])
  (fun x=>x.1≤m∧x.2.1.length=x.1∧dN b s=x.2.1++dN b x.2.2∧Lib.countByte x.2.2 b+x.1=m∧x.2.2.length≤s.length) (fun x=>m-x.1) (0,[],s) ⟨Nat.zero_le _,rfl,rfl,hm,Nat.le_refl _⟩ ?_ (by simp) ?_
 ·simp[go_sem]
 ·rintro⟨i,pre,r⟩ ⟨hi,hl,hsp,hct,hrl⟩
  simp only at hi hl hsp hct hrl ⊢
  by_cases hlt:i<m
  ·obtain⟨k,hk⟩:=aHe (b:=b) (l:=r) (by omega)
   obtain⟨k1,k2,k3⟩:=aAC hk
   have hix:=aIZ r b
   rw[hk]at hix
   have hli:decide ((i:Int)<(m:Int))=true:=decide_eq_true (by omega)
   have hkn:decide ((k:Int)<0)=false:=decide_eq_false (by omega)
   have x1:IntKind.i64.wrap ((k:Int)+0)=(k:Int):=by rw[wrap_i64 (by omega) (by omega)];omega
   have x2:IntKind.i64.wrap ((k:Int)+1)=((k+1:Nat):Int):=by rw[wrap_i64 (by omega) (by omega)];rfl
   have ct0:=ct hix aEB;repeat' first|((first|refine gK ?_|refine gS ?_);simp only[go_sem,hli,hkn,x1,x2])|refine gA ?_|(refine gD (fun h=>?_) (fun h=>?_)<;>try exact aA h)|fail
   have x3:(IntKind.i64.wrap ((k:Int)+((1:Nat):Int))).toNat=k+1:=by rw[wrap_i64 (by omega) (by omega)];omega
   refine⟨(i+1,pre++[r.take k],r.drop (k+1)),⟨hlt,by simp[hl],by rw[hsp,k2];simp,by simp only;omega,by simp only[List.length_drop];omega⟩,by simp only;omega,⟨by rw[x3],congrArg _ (bD hlt (by omega))⟩,?_⟩
   have e1:m+1-i=(m-i)+1:=by omega
   have e2:m+1-(i+1)=m-i:=by omega
   simp only[e1,e2,List.replicate_succ]
   rw[aAD _ _ _ _ (by rw[List.length_map];exact hl)]
   simp
  ·have hie:i=m:=by omega
   subst hie
   have hli:decide ((i:Int)<(i:Int))=false:=by simp
   repeat' first|(refine gS ?_;simp only[go_sem,hli])|refine gA ?_|(refine gD (fun h=>?_) (fun h=>?_)<;>try exact aA h)|fail
   have e1:i+1-i=1:=by omega
   have e3:(IntKind.i64.wrap ((i:Int)+1)).toNat=i+1:=by rw[wrap_i64 (by omega) (by omega)];omega
   have e4:dN b s=pre++[r]:=by rw[hsp,aES (b:=b) (l:=r) (by omega)]
   simp only[e1,e3,List.replicate_succ,List.replicate_zero]
   rw[aAD _ _ _ _ (by rw[List.length_map];exact hl)]
   have e5:pre.map AV.str++[AV.str r]=(dN b s).map AV.str:=by rw[e4];simp
   rw[e5]
   exact jS (cs:=(dN b s).map AV.str) (es:=(dN b s).map AV.str) (rest:=[]) (by omega) (by simp only[go_sem]) (by rw[hc1,List.append_nil]) (by rw[List.length_map,e4];simp[hl]) (fun e he=>by obtain⟨x,_,rfl⟩:=List.mem_map.1 he;rfl) (fun e he=>by obtain⟨x,_,rfl⟩:=List.mem_map.1 he;exact(by simp only[go_sem])) rfl
end Go.Proofs.YthhdnjiodklmmaaGreatDoor
/- More of what is done and taken back, in plain Lean. No condition. -/
namespace Go.Gw
open Go Go.Aw Go.Proofs.YthhdnjiodklmmaaGreatDoor
theorem aET{l:List Nd}{o:Opn}(h:bW l o=true):kY l o=l∧uK l o=aPg:=by rw[kY,uK,if_pos h,if_pos h];exact⟨rfl,rfl⟩
theorem aJt{l:List Nd}{o:Opn}(h:chk l=false):bW l o=true:=by simp[bW,h]
theorem aCp(l:List Nd)(o:Opn):chk (kY l o)=chk l:=by
 cases hc:chk l with
 |true=>exact aEN o hc
 |false=>rw[(aET (o:=o) (aJt hc)).1,hc]
theorem aCq{l:List Nd}(hs:chk l=true)(n:Nd)(id:Int):oL (wL l n) id=if id=n.id then some n else oL l id:=by
 obtain⟨A,B,hA,hB,eA,eB,h⟩:=aAx hs n.id
 rw[aEM n eA eB]
 by_cases hid:id=n.id
 ·rw[if_pos hid];exact uN (fun x hx=>by rw[hid];exact hA x hx) hid.symm
 ·rw[if_neg hid]
  have key:∀m:Nd,m.id=n.id→oL (A++m::B) id=oL (A++B) id:=by
   intro m hm
   unfold oL
   rw[List.find?_append,List.find?_append,List.find?_cons,decide_eq_false (by rw[hm];exact fun e=>hid e.symm)]
  rcases h with⟨h,_⟩|⟨m,hm,h,_⟩
  ·conv=>rhs;rw[h]
   exact key n rfl
  ·conv=>rhs;rw[h]
   rw[key m hm];exact key n rfl
theorem pE{l:List Nd}{o:Opn}(hk:o.kind=1):cG l o=⟨(eQ l o).id,o.parent,o.name,o.at_,((oL l o.node).getD nd0).data,((oL l o.node).getD nd0).wrote⟩:=by
 unfold cG eQ
 rw[if_pos hk]
 cases oL l o.node<;>rfl
theorem nN{l:List Nd}{o:Opn}(hk:o.kind=2):cG l o=⟨(eQ l o).id,if(oL l o.node).isSome=true then((oL l o.node).getD nd0).parent else-1,((oL l o.node).getD nd0).name,((oL l o.node).getD nd0).moved,o.data,o.at_⟩:=by
 unfold cG eQ
 rw[if_neg (by omega)]
 cases oL l o.node<;>rfl
theorem aL8{l:List Nd}(o:Opn)(id:Int)(hs:chk l=true)(hr:bW l o=false):findI (kY l o) id=if id=o.node then some (cG l o)else findI l id:=by
 rw[findI,findI,aCp,if_pos hs,if_pos hs,jZ hr,aCq hs,jJ]
end Go.Gw
/- What is above what, in plain Lean: of the nodes that operations make none is above itself. No condition. -/
namespace Go.Gw
open Go Go.Aw Go.Proofs.YthhdnjiodklmmaaGreatDoor
def par(l:List Nd)(id:Int):Option Int:=match oL l id with|none=>none|some n=>if n.parent= -1 then none else some n.parent
theorem dB(l:List Nd)(k:Nat)(id:Int):fF l (k+1) id=match par l id with|none=>[]|some p=>p::fF l k p:=by
 rw[fF,par]
 cases oL l id with
 |none=>rfl
 |some n=>simp only;by_cases h:n.parent= -1<;>simp[h]
theorem aDr(l:List Nd)(k j:Nat)(id:Int):fF l k id=(fF l (k+j) id).take k:=by
 induction k generalizing id with
 |zero=>rfl
 |succ k ih=>
  rw[Nat.succ_add,dB,dB]
  cases par l id with
  |none=>rfl
  |some p=>simp only[List.take_succ_cons];rw[←ih p]
def Wfr(l:List Nd):Prop:=∃r:Int→Nat,∀x p,par l x=some p→r p<r x
def aDs(l:List Nd):Nat→Int→List Int
 |0,_=>[]
 |k+1,id=>match par l id with|none=>[]|some p=>id::aDs l k p
theorem aJu(l:List Nd)(k:Nat)(id:Int):(aDs l k id).length=(fF l k id).length:=by
 induction k generalizing id with
 |zero=>rfl
 |succ k ih=>
  rw[dB,aDs]
  cases par l id with
  |none=>rfl
  |some p=>simp only[List.length_cons,ih]
theorem aJv(l:List Nd)(k:Nat)(id:Int):∀x∈aDs l k id,x∈l.map Nd.id:=by
 induction k generalizing id with
 |zero=>intro x hx;cases hx
 |succ k ih=>
  intro x hx
  rw[aDs]at hx
  cases hp:par l id with
  |none=>rw[hp]at hx;cases hx
  |some p=>
   rw[hp]at hx
   rcases List.mem_cons.1 hx with rfl|hx
   ·unfold par at hp
    cases hf:oL l x with
    |none=>rw[hf]at hp;cases hp
    |some n=>
     have h1:=List.mem_of_find?_eq_some hf
     have h2:=List.find?_some hf
     exact List.mem_map.2 ⟨n,h1,by simpa using h2⟩
   ·exact ih p x hx
theorem aHf{l:List Nd}{r:Int→Nat}(hr:∀x p,par l x=some p→r p<r x)(k:Nat)(id:Int):(∀x∈aDs l k id,r x≤r id)∧(aDs l k id).Nodup:=by
 induction k generalizing id with
 |zero=>exact⟨fun x hx=>(by cases hx),List.nodup_nil⟩
 |succ k ih=>
  rw[aDs]
  cases hp:par l id with
  |none=>exact⟨fun x hx=>(by cases hx),List.nodup_nil⟩
  |some p=>
   obtain⟨h1,h2⟩:=ih p
   have h3:=hr id p hp
   refine⟨fun x hx=>?_,List.nodup_cons.2 ⟨fun hx=>?_,h2⟩⟩
   ·rcases List.mem_cons.1 hx with rfl|hx
    ·exact Nat.le_refl _
    ·have:=h1 x hx;omega
   ·have:=h1 id hx;omega
theorem aEU{l:List Nd}{r:Int→Nat}(hr:∀x p,par l x=some p→r p<r x)(k:Nat)(id:Int):∀x∈fF l k id,r x<r id:=by
 induction k generalizing id with
 |zero=>intro x hx;cases hx
 |succ k ih=>
  intro x hx
  rw[dB]at hx
  cases hp:par l id with
  |none=>rw[hp]at hx;cases hx
  |some p=>
   rw[hp]at hx
   have h3:=hr id p hp
   rcases List.mem_cons.1 hx with rfl|hx
   ·exact h3
   ·have:=ih p x hx;omega
theorem aQr{xs ys:List Int}(hn:xs.Nodup)(hs:∀x∈xs,x∈ys):xs.length≤ys.length:=by
 induction xs generalizing ys with
 |nil=>exact Nat.zero_le _
 |cons x xs ih=>
  have hx:=hs x (by simp)
  have h:=ih (ys:=ys.erase x) (List.nodup_cons.1 hn).2 (fun z hz=>by
   have hne:z≠x:=fun e=>(List.nodup_cons.1 hn).1 (e▸hz)
   exact(List.mem_erase_of_ne hne).2 (hs z (by simp[hz])))
  have h1:=List.length_erase_of_mem hx
  have h2:=List.length_pos_of_mem hx
  rw[List.length_cons];omega
theorem aBO{l:List Nd}(h:Wfr l)(k:Nat)(id:Int):(fF l k id).length≤l.length:=by
 obtain⟨r,hr⟩:=h
 have:=aQr (aHf hr k id).2 (aJv l k id)
 rwa[aJu,List.length_map]at this
theorem mI{l:List Nd}(h:Wfr l){k:Nat}(hk:l.length≤k)(id:Int):fF l k id=dX l id:=by
 obtain⟨j,rfl⟩:∃j,k=l.length+j:=⟨k-l.length,by omega⟩
 rw[dX,aDr l l.length j id,List.take_of_length_le (aBO h _ _)]
theorem aEV(l:List Nd)(k:Nat)(id:Int):∀y∈id::fF l k id,∀p,par l y=some p→p∈fF l (k+1) id:=by
 induction k generalizing id with
 |zero=>
  intro y hy p hp
  simp only[fF,List.mem_cons,List.not_mem_nil,or_false]at hy
  subst hy
  rw[dB,hp];simp
 |succ k ih=>
  intro y hy p hp
  rcases List.mem_cons.1 hy with rfl|hy
  ·rw[dB,hp];simp
  ·rw[dB]at hy
   rw[dB]
   cases hq:par l id with
   |none=>rw[hq]at hy;cases hy
   |some q=>
    rw[hq]at hy
    exact List.mem_cons_of_mem _ (ih q y hy p hp)
theorem aCr{l:List Nd}(h:Wfr l)(id:Int):∀y∈id::dX l id,∀p,par l y=some p→p∈dX l id:=by
 intro y hy p hp
 have:=aEV l l.length id y hy p hp
 rwa[mI h (Nat.le_succ _)]at this
theorem aHg{l:List Nd}{C:Int→Prop}(hc:∀y,C y→∀p,par l y=some p→C p)(k:Nat)(id:Int)(hi:C id):∀x∈fF l k id,C x:=by
 induction k generalizing id with
 |zero=>intro x hx;cases hx
 |succ k ih=>
  intro x hx
  rw[dB]at hx
  cases hp:par l id with
  |none=>rw[hp]at hx;cases hx
  |some p=>
   rw[hp]at hx
   have h3:=hc id hi p hp
   rcases List.mem_cons.1 hx with rfl|hx
   ·exact h3
   ·exact ih p h3 x hx
theorem aS3{l:List Nd}(h:Wfr l)(id:Int):id∉dX l id:=by
 obtain⟨r,hr⟩:=h
 intro hx
 have:=aEU hr _ _ _ hx
 omega
theorem aHh{l:List Nd}{o:Opn}(hs:chk l=true)(hr:bW l o=false)(hk:o.kind=2)(x:Int):par (kY l o) x=par l x:=by
 rw[par,par,jZ hr,aCq hs,jJ]
 by_cases hx:x=o.node
 ·rw[if_pos hx,nN hk,hx]
  simp only
  cases oL l o.node with
  |none=>rfl
  |some n=>rfl
 ·rw[if_neg hx]
theorem aJw{l:List Nd}{o:Opn}(hs:chk l=true)(hr:bW l o=false)(hk:o.kind=1)(hp:o.parent≠ -1)(x:Int):par (kY l o) x=if x=o.node then some o.parent else par l x:=by
 rw[par,jZ hr,aCq hs,jJ]
 by_cases hx:x=o.node
 ·rw[if_pos hx,if_pos hx,pE hk]
  simp only
  rw[if_neg hp]
 ·rw[if_neg hx,if_neg hx,par]
theorem aCs{o:Opn}(h:opOk o=true):o.kind=1∨o.kind=2:=by
 unfold opOk at h
 simp only[Bool.and_eq_true,Bool.or_eq_true,decide_eq_true_eq]at h
 exact h.1.1.1
theorem aFV{n:Int}(h:dirI n=true):n≠ -1:=by
 intro e;subst e;revert h;decide
theorem aJx{o:Opn}(h:opOk o=true)(hk:o.kind=1):dirI o.parent=true:=by
 unfold opOk at h
 rw[if_pos hk]at h
 simp only[Bool.and_eq_true]at h
 have h2:=h.2
 unfold rZ at h2
 simp only[Bool.and_eq_true]at h2
 exact h2.1.1.1.2
theorem aNX{l:List Nd}{o:Opn}(h:bW l o=false):chk l=true∧opOk o=true∧(o.kind=1→qB l o=false):=by
 unfold bW at h
 simp only[Bool.or_eq_false_iff,Bool.and_eq_false_iff,Bool.not_eq_false',decide_eq_false_iff_not]at h
 exact⟨h.1.1,h.1.2,fun hk=>h.2.resolve_left (fun q=>q hk)⟩
theorem aL9{l:List Nd}{o:Opn}(h:qB l o=false):o.node∉o.parent::dX l o.parent:=by
 unfold qB at h
 simp only[Bool.or_eq_false_iff,decide_eq_false_iff_not,List.any_eq_false,decide_eq_true_eq]at h
 intro hx
 rcases List.mem_cons.1 hx with e|hx
 ·exact h.1 e.symm
 ·exact h.2 _ hx rfl
theorem aUh{l:List Nd}(o:Opn)(hs:chk l=true)(h:Wfr l):Wfr (kY l o):=by
 cases hr:bW l o with
 |true=>rw[(aET hr).1];exact h
 |false=>
  obtain⟨-,hok,hlo⟩:=aNX hr
  rcases aCs hok with hk|hk
  ·have hno:=aL9 (hlo hk)
   have hpar:=aJw hs hr hk (aFV (aJx hok hk))
   obtain⟨r,hr'⟩:=id h
   have hdesc:∀x p,x≠o.node→par l x=some p→(o.node∈x::dX l x↔o.node∈p::dX l p):=by
    intro x p hx hp
    have hcl:=aCr h x
    have hpx:p∈dX l x:=hcl x (by simp) p hp
    constructor
    ·intro hm
     rcases List.mem_cons.1 hm with e|hm
     ·exact absurd e.symm hx
     ·have hm2:o.node∈fF l (l.length+1) x:=by rw[mI h (Nat.le_succ _)];exact hm
      rw[dB,hp]at hm2
      exact hm2
    ·intro hm
     refine List.mem_cons_of_mem _ ?_
     rcases List.mem_cons.1 hm with e|hm
     ·rw[e];exact hpx
     ·exact aHg (C:=fun y=>y∈dX l x) (fun y hy q hq=>hcl y (List.mem_cons_of_mem _ hy) q hq) _ p hpx _ hm
   refine⟨fun x=>if o.node∈x::dX l x then r x+r o.parent+1 else r x,fun x p hxp=>?_⟩
   rw[hpar]at hxp
   simp only
   by_cases hx:x=o.node
   ·rw[if_pos hx]at hxp
    cases hxp
    rw[if_neg hno,if_pos (by rw[hx];simp)];omega
   ·rw[if_neg hx]at hxp
    have h1:=hdesc x p hx hxp
    have h2:=hr' x p hxp
    by_cases hd:o.node∈x::dX l x
    ·rw[if_pos hd,if_pos (h1.1 hd)];omega
    ·rw[if_neg hd,if_neg (fun q=>hd (h1.2 q))];exact h2
  ·obtain⟨r,hr'⟩:=h
   exact⟨r,fun x p hp=>hr' x p (by rw[aHh hs hr hk]at hp;exact hp)⟩
structure Frs (l:List Nd):Prop where
 chk:chk l=true
 wf:Wfr l
 dir:∀n∈l,n.parent= -1∨dirI n.parent=true
theorem aFW:Frs []:=⟨rfl,⟨fun _=>0,fun x p h=>by cases h⟩,fun n h=>by cases h⟩
theorem aCt{l:List Nd}{n x:Nd}(h:x∈wL l n):x=n∨x∈l:=by
 rw[wL,nZ,List.append_assoc,List.mem_append]at h
 rcases h with h|h
 ·exact .inr (List.mem_of_mem_take h)
 ·rcases List.mem_append.1 h with h|h
  ·rw[List.mem_singleton]at h;exact .inl h
  ·exact .inr (List.mem_of_mem_drop h)
theorem aQs{l:List Nd}(o:Opn)(h:Frs l):Frs (kY l o):=by
 refine⟨aEN o h.chk,aUh o h.chk h.wf,?_⟩
 cases hr:bW l o with
 |true=>rw[(aET hr).1];exact h.dir
 |false=>
  obtain⟨-,hok, -⟩:=aNX hr
  intro n hn
  rw[jZ hr]at hn
  rcases aCt hn with rfl|hn
  ·rcases aCs hok with hk|hk
   ·rw[pE hk];exact .inr (aJx hok hk)
   ·rw[nN hk]
    simp only
    cases hf:oL l o.node with
    |none=>exact .inl rfl
    |some m=>exact h.dir m (List.mem_of_find?_eq_some hf)
  ·exact h.dir n hn
theorem aBP(s:List Opn){l:List Nd}(h:Frs l):Frs (s.foldl kY l):=by
 induction s generalizing l with
 |nil=>exact h
 |cons o s ih=>exact ih (aQs o h)
theorem aMa{l:List Nd}(hs:chk l=true){n:Nd}(hn:n∈l):oL l n.id=some n:=by
 have hp:=((oY l).1 hs).2
 cases h:oL l n.id with
 |none=>
  have:=List.find?_eq_none.1 h n hn
  simp at this
 |some m=>
  have h1:=List.mem_of_find?_eq_some h
  have h2:m.id=n.id:=by have:=List.find?_some h;simpa using this
  obtain⟨i,hi,rfl⟩:=List.getElem_of_mem h1
  obtain⟨j,hj,rfl⟩:=List.getElem_of_mem hn
  rcases Nat.lt_trichotomy i j with q|q|q
  ·have:=List.pairwise_iff_getElem.1 hp i j hi hj q;omega
  ·subst q;rfl
  ·have:=List.pairwise_iff_getElem.1 hp j i hj hi q;omega
end Go.Gw
/- What the functions of the logs answer: All, Of, Ops. No condition. -/
namespace Go.Proofs.YthhdnjiodklmmaaGreatDoor
open Go Go.Aw Go.Gw
set_option linter.unusedSimpArgs false
set_option maxRecDepth 20000
set_option maxHeartbeats 1000000
theorem aQt(b1 b2 b3:Bool)(g:Lg)(l:List Opn)(hf:Fit g l.length)(hl:∀o∈l,OpS o)(H:AHeap):cJ Tryz.prog 53 [zW b1 b2 g,.sl b3 (l.map opA)] H (aER (dO g l) (pA g l)):=by
 refine aL Tryz.func53 rfl (Nat.le_of_ble_eq_true rfl) ?_
 have hsm:=aFQ b1 b2 g (by have:=hf.len;omega) (by have:=hf.nodes;omega)
 have hlen:l.length≤1000000:=by have:=hf.nodes;omega
 simp only[zW,lgA,aER]at hsm ⊢
 have ct0:=ct hsm lX;repeat' first|((first|refine gK ?_|refine gS ?_);simp only[go_sem])|refine gA ?_|(refine gD (fun h=>?_) (fun h=>?_)<;>try exact aA h)|fail
 refine aP (ι:=Nat×AHeap) (fun x=>[(4,.ref (H.length+1) 0 0),(6,.ref (H.length+2) 0 0),(7,.int .i64 (pA g (l.take x.1))),(13,.sl b3 (l.map opA)),(14,.int .i64 l.length),(15,.int .i64 x.1)])
  (fun x=>x.2) (fun x=>x.1≤l.length∧hget x.2 (H.length+1)=.cells 0 [.sl true [],.sl true []]∧hget x.2 (H.length+2)=.cells 0 [.sl false ((dO g (l.take x.1)).entries.map fX),.sl false ((dO g (l.take x.1)).nodes.map ndA)]∧∃M,x.2=H++M)
  (fun x=>l.length-x.1) (0,_) ⟨Nat.zero_le _,by simp only[go_sem],by simp only[go_sem];rfl,⟨_,rfl⟩⟩ ?_ rfl ?_
 ·simp[go_sem,pA]
 ·rintro⟨i,X⟩ ⟨hi,r1,r2,rP⟩
  simp only at hi r1 r2 rP ⊢
  have hX1:H.length+1<X.length:=bI r1 trivial
  have hX2:H.length+2<X.length:=bI r2 trivial
  have r2':=fun M=>aH r2 trivial M
  have qs:=fun M b=>bS hX2 M b
  by_cases hlt:i<l.length
  ·have hp:=bA opA hlt
   have hli:decide ((i:Int)<(l.length:Int))=true:=decide_eq_true (by omega)
   have htk:l.take (i+1)=l.take i++[l[i]]:=List.take_succ_eq_append_getElem hlt
   have hops:∀o∈l.take i,OpS o:=fun o ho=>hl o (List.mem_of_mem_take ho)
   have hfi:Fit (dO g (l.take i)) 1:=Fit.all (k:=1) (hf.less (by rw[List.length_take];omega)) hops
   have hadd:=aJq false false (dO g (l.take i)) l[i] (hl _ (List.getElem_mem hlt)) hfi.ops (by have:=hfi.nodes;omega) (by have:=hfi.len;omega)
   have hG:dO g (l.take (i+1))=eK (dO g (l.take i)) l[i]:=by rw[htk,aI9];rfl
   have hN:pA g (l.take (i+1))=pA g (l.take i)+(if qD (dO g (l.take i)) l[i]=0 then 0 else 1):=by rw[htk,aJa];simp[pA]
   have hnle:=aLV g (l.take i)
   rw[List.length_take]at hnle
   have hw:IntKind.i64.wrap (pA g (l.take i)+1)=pA g (l.take i)+1:=wrap_i64 (by omega) (by omega)
   simp only[zW,lgA,opA,aER]at hadd
   have ct0:=ct hadd dT;repeat' first|((first|refine gK ?_|refine gS ?_);simp only[go_sem,hp,opA,hli,r2',qs,hw])|refine gA ?_|(refine gD (fun h=>?_) (fun h=>?_)<;>try exact aA h)|fail
   ·have he:¬qD (dO g (l.take i)) l[i]=0:=by simpa using h
    rw[if_neg he]at hN
    exact⟨(i+1,_),⟨hlt,aH ((bX (by omega) _).trans r1) trivial _,by simp only;rw[hG];exact aH (b:=.cells 0 [.sl false ((eK (dO g (l.take i)) l[i]).entries.map fX),.sl false ((eK (dO g (l.take i)) l[i]).nodes.map ndA)]) (dY hX2 _) trivial _,pC (eD rP (by omega) _) _⟩,by simp only;omega,⟨by simp only;rw[hN],congrArg _ (bD hlt (by omega))⟩,rfl⟩
   ·have he:qD (dO g (l.take i)) l[i]=0:=by simpa using h
    rw[if_pos he]at hN
    exact⟨(i+1,_),⟨hlt,aH ((bX (by omega) _).trans r1) trivial _,by simp only;rw[hG];exact aH (b:=.cells 0 [.sl false ((eK (dO g (l.take i)) l[i]).entries.map fX),.sl false ((eK (dO g (l.take i)) l[i]).nodes.map ndA)]) (dY hX2 _) trivial _,pC (eD rP (by omega) _) _⟩,by simp only;omega,⟨by simp only;rw[hN,Int.add_zero],congrArg _ (bD hlt (by omega))⟩,rfl⟩
  ·have hie:i=l.length:=by omega
   subst hie
   have hli:decide ((l.length:Int)<(l.length:Int))=false:=by simp
   have sS:∀b,hget (aD X (H.length+1) b) (H.length+1)=b:=fun b=>dY hX1 b
   rw[List.take_length]at r2 ⊢
   repeat' first|(refine gS ?_;simp only[go_sem,r1,r2,hli,sS])|refine gA ?_|(refine gD (fun h=>?_) (fun h=>?_)<;>try exact aA h)|fail
   obtain⟨M2,hM2⟩:=eD rP (i:=H.length+1) (by omega) (.cells 0 [.sl false ((dO g l).entries.map fX),.sl false ((dO g l).nodes.map ndA)])
   exact⟨M2,_,hM2,.cl _ (Pur.cl (by simp only[go_sem]) _),rfl⟩
theorem qI(l:List Opn):∀e∈l.map opA,e.cells.length=7:=fun e he=>by
 obtain⟨x,_,rfl⟩:=List.mem_map.1 he;rfl
theorem aQu(l:List Opn):∀e∈l.map opA,Pur e:=fun e he=>by
 obtain⟨x,_,rfl⟩:=List.mem_map.1 he;exact(by simp only[go_sem])
def opZ:AV:=.agg [.int .i64 0,.int .i64 0,.int .i64 0,.int .i64 0,.int .i64 0,.str [],.str []]
theorem aJy(n:Nat):(List.flatMap AV.cells (List.replicate n opZ)).length=n * 7:=by
 induction n with
 |zero=>rfl
 |succ n ih=>rw[List.replicate_succ,List.flatMap_cons,List.length_append,ih];simp[opZ,AV.cells];omega
theorem qJ(l:List Opn):(List.flatMap AV.cells (l.map opA)).length=l.length * 7:=(pV (qI l)).trans (by rw[List.length_map])
theorem aJz(b1 b2:Bool)(g:Lg)(hn:g.entries.length≤1000000)(H:AHeap):cJ Tryz.prog 29 [zW b1 b2 g] H (.sl false ((opsG g).map opA)):=by
 refine aL Tryz.func29 rfl (Nat.le_of_ble_eq_true rfl) ?_
 simp only[zW]
 have hz:opZ=.agg [.int .i64 0,.int .i64 0,.int .i64 0,.int .i64 0,.int .i64 0,.str [],.str []]:=rfl
 repeat' first|(refine gS ?_;simp only[go_sem,←hz])|refine gA ?_|(refine gD (fun h=>?_) (fun h=>?_)<;>try exact aA h)|fail
 refine aP (ι:=Nat×AHeap) (fun x=>[(3,.osl 7 (H.length+1) 1 0 x.1 g.entries.length),(11,.sl b1 (g.entries.map fX)),(12,.int .i64 g.entries.length),(13,.int .i64 x.1)])
  (fun x=>x.2) (fun x=>x.1≤g.entries.length∧hget x.2 (H.length+1)=.cells 1 (List.flatMap AV.cells (((opsG g).take x.1).map opA)++List.flatMap AV.cells (List.replicate (g.entries.length-x.1) opZ))∧∃M,x.2=H++M)
  (fun x=>g.entries.length-x.1) (0,_) ⟨Nat.zero_le _,by simp only[go_sem];simp,⟨_,rfl⟩⟩ ?_ rfl ?_
 ·simp[go_sem]
 ·rintro⟨i,X⟩ ⟨hi,r1,rP⟩
  simp only at hi r1 rP ⊢
  have hX1:H.length+1<X.length:=bI r1 trivial
  have r1':=fun M=>aH r1 trivial M
  have qs:=fun M b=>bS hX1 M b
  by_cases hlt:i<g.entries.length
  ·have hp:=bA fX hlt
   have hli:decide ((i:Int)<(g.entries.length:Int))=true:=decide_eq_true (by omega)
   have hne:¬i=g.entries.length:=by omega
   have hlo:(opsG g).length=g.entries.length:=List.length_map ..
   have hlt2:i<(opsG g).length:=by omega
   have htk:(opsG g).take (i+1)=(opsG g).take i++[g.entries[i].op]:=by
    rw[List.take_succ_eq_append_getElem hlt2];congr 2;exact List.getElem_map _
   have hfl:(List.flatMap AV.cells (((opsG g).take i).map opA)).length=i * 7:=by rw[qJ,List.length_take];congr 1;omega
   obtain⟨m,hm⟩:∃m,g.entries.length-i=m+1:=⟨g.entries.length-i-1,by omega⟩
   have hm2:g.entries.length-(i+1)=m:=by omega
   have hsp:cR (List.flatMap AV.cells (((opsG g).take i).map opA)++List.flatMap AV.cells (List.replicate (g.entries.length-i) opZ)) (i * 7) (lO g.entries[i].op)=List.flatMap AV.cells (((opsG g).take (i+1)).map opA)++List.flatMap AV.cells (List.replicate (g.entries.length-(i+1)) opZ):=by
    rw[fD hfl,hm,hm2,htk,List.map_append,List.flatMap_append,List.replicate_succ,List.flatMap_cons,List.append_assoc]
    rfl
   simp only[lO]at hsp
   have hlz:=aJy (g.entries.length-i)
   repeat' first|(refine gS ?_;simp only[go_sem,hp,fX,hli,hne,r1',qs,hfl,hlz,hsp])|refine gA ?_|(refine gD (fun h=>?_) (fun h=>?_)<;>try exact aA h)|fail
   refine⟨⟨by omega,by omega,fun e he=>by rw[he];rfl⟩,?_⟩
   repeat' first|(refine gS ?_;simp only[go_sem])|refine gA ?_|(refine gD (fun h=>?_) (fun h=>?_)<;>try exact aA h)|fail
   refine⟨(i+1,_),⟨hlt,aH (b:=.cells 1 (List.flatMap AV.cells (((opsG g).take (i+1)).map opA)++List.flatMap AV.cells (List.replicate (g.entries.length-(i+1)) opZ))) (dY hX1 _) trivial _,pC (eD rP (by omega) _) _⟩,by simp only;omega,⟨rfl,congrArg _ (bD hlt (by omega))⟩,rfl⟩
  ·have hie:i=g.entries.length:=by omega
   subst hie
   have hli:decide ((g.entries.length:Int)<(g.entries.length:Int))=false:=by simp
   repeat' first|(refine gS ?_;simp only[go_sem,r1,hli])|refine gA ?_|(refine gD (fun h=>?_) (fun h=>?_)<;>try exact aA h)|fail
   obtain⟨M,hM⟩:=rP
   subst hM
   have hlo:(opsG g).length=g.entries.length:=List.length_map ..
   exact jS (es:=(opsG g).map opA) (rest:=[]) (by omega) r1 (by rw[List.take_of_length_le (by omega)];simp) (by rw[List.length_map];exact hlo) (qI _) (aQu _) rfl
end Go.Proofs.YthhdnjiodklmmaaGreatDoor
