/- The texts 2 of 8 beneath the rows of this seat (joined by program): the abstract machine, and what the functions answer. No condition. -/
import Derived.Test.YthhdnjiodklmmaaGreatDoorWorkA
import Derived.Still
import Derived.Attr
import Derived.Scope
set_option linter.unusedSimpArgs false
set_option linter.unusedVariables false
set_option linter.unusedSectionVars false
/- The abstract machine: one operation, a region, a call. No condition. -/
namespace Go.Aw
open Go
set_option linter.unusedSimpArgs false
variable {P:Program}
def aun(op:UnOp)(x:AV):BR:=
 match op,x with
 |.not,.bool b=>⟨.bool (!b),True⟩
 |.neg,.int k n=>⟨.int k (k.wrap (0-n)),True⟩
 |_,_=>tP
theorem aDN{c:Ctx}{op:UnOp}{x:AV}{vx:Value}(hx:Rep c x vx)(hs:(aun op x).s)(w:World):∃v,(Op.unary op vx).run P w=.ok v w∧Rep c (aun op x).v v:=by
 unfold aun at *
 split at hs
 ·rw[hx.bool_inv];exact⟨_,by simp[Op.unary],.bool _⟩
 ·rw[hx.int_inv];exact⟨_,by simp[Op.unary,Op.intArith],.int _ _ (fD _ _)⟩
 ·exact hs.elim
def isK:Operand→Bool
 |.const _=>true
 |_=>false
def kT:AV→Bool
 |.nilIface=>true
 |_=>false
def zC(P:Program)(t:TypeId):Bool:=
 match P.underlying t with
 |some (.interface _)=>true
 |_=>false
def aBB(P:Program)(k:Bool)(op:BinOp)(t:TypeId)(x y:AV):BR:=
 match op,x,y with
 |.eql,.nilIface,.nilIface=>⟨.bool true,k=true∧zC P t=true⟩
 |.neq,.nilIface,.nilIface=>⟨.bool false,k=true∧zC P t=true⟩
 |.eql,.iface _ _,.nilIface=>⟨.bool false,zC P t=true⟩
 |.neq,.iface _ _,.nilIface=>⟨.bool true,zC P t=true⟩
 |.eql,.nilIface,.iface _ _=>⟨.bool false,zC P t=true⟩
 |.neq,.nilIface,.iface _ _=>⟨.bool true,zC P t=true⟩
 |_,_,_=>tP
def uM(P:Program)(k:Bool)(op:BinOp)(t:TypeId)(x y:AV):BR:=
 bif kT x||kT y then aBB P k op t x y else dF P op t x y
theorem rF{t:TypeId}(h:zC P t=true):∃ms,P.underlying t=some (.interface ms):=by
 unfold zC at h
 split at h
 ·rename_i ms hu;exact⟨ms,hu⟩
 ·cases h
theorem aFg(d:Nat){t:TypeId}{ms:Array (String×TypeId)}(hu:P.underlying t=some (.interface ms))(w:World):
  (Op.equalIn (d+1) t .nilIface .nilIface).run P w=.ok true w∧(∀u v,(Op.equalIn (d+1) t .nilIface (.iface u v)).run P w=.ok false w)∧∀u v,(Op.equalIn (d+1) t (.iface u v) .nilIface).run P w=.ok false w:=
 ⟨by simp[Op.equalIn,run_underlying hu],fun _ _=>by simp[Op.equalIn,run_underlying hu],fun _ _=>by simp[Op.equalIn,run_underlying hu]⟩
theorem gO{t:TypeId}{ms:Array (String×TypeId)}(hu:P.underlying t=some (.interface ms))(w:World):
  (Op.equal t .nilIface .nilIface).run P w=.ok true w∧(∀u v,(Op.equal t .nilIface (.iface u v)).run P w=.ok false w)∧∀u v,(Op.equal t (.iface u v) .nilIface).run P w=.ok false w:=aFg 9999 hu w
theorem gP(op:BinOp)(t:TypeId)(X Y:Operand)(w:World):(∀u v,(eqGuard op t X Y .nilIface (.iface u v)).run P w=.ok () w)∧(∀u v,(eqGuard op t X Y (.iface u v) .nilIface).run P w=.ok () w)∧((isK X||isK Y)=true→(eqGuard op t X Y .nilIface .nilIface).run P w=.ok () w):=by
 refine⟨fun u v=>?_,fun u v=>?_,fun h=>?_⟩
 ·cases op<;>rfl
 ·cases op<;>rfl
 ·cases X<;>cases Y<;>first|(cases h;done)|(cases op<;>rfl)
theorem aAt{c:Ctx}{op:BinOp}{t:TypeId}{x y:AV}{vx vy:Value}{X Y:Operand}(hx:Rep c x vx)(hy:Rep c y vy)(hs:(uM P (isK X||isK Y) op t x y).s)(w:World):
  ∃v,(do eqGuard op t X Y vx vy;binOp op t vx vy:Sem Value).run P w=.ok v w∧Rep c (uM P (isK X||isK Y) op t x y).v v:=by
 unfold uM at *
 cases hn:kT x||kT y with
 |false=>rw[hn,cond_false]at hs;rw[cond_false];exact aBy hx hy hs w
 |true=>
  rw[hn,cond_true]at hs
  rw[cond_true]
  unfold aBB at *
  split at hs
  ·obtain⟨hc,hi⟩:=hs
   obtain⟨ms,hu⟩:=rF hi
   cases hx;cases hy
   exact⟨.bool true,by simp only[Sem.run_bind,(gP .eql t X Y w).2.2 hc,Result.andThen_ok,binOp,(gO hu w).1,Sem.run_pure],.bool _⟩
  ·obtain⟨hc,hi⟩:=hs
   obtain⟨ms,hu⟩:=rF hi
   cases hx;cases hy
   exact⟨.bool false,by simp only[Sem.run_bind,(gP .neq t X Y w).2.2 hc,Result.andThen_ok,binOp,(gO hu w).1,Sem.run_pure,Bool.not_true],.bool _⟩
  ·obtain⟨ms,hu⟩:=rF hs
   cases hx;cases hy
   exact⟨.bool false,by simp only[Sem.run_bind,(gP .eql t X Y w).2.1,Result.andThen_ok,binOp,(gO hu w).2.2,Sem.run_pure],.bool _⟩
  ·obtain⟨ms,hu⟩:=rF hs
   cases hx;cases hy
   exact⟨.bool true,by simp only[Sem.run_bind,(gP .neq t X Y w).2.1,Result.andThen_ok,binOp,(gO hu w).2.2,Sem.run_pure,Bool.not_false],.bool _⟩
  ·obtain⟨ms,hu⟩:=rF hs
   cases hx;cases hy
   exact⟨.bool false,by simp only[Sem.run_bind,(gP .eql t X Y w).1,Result.andThen_ok,binOp,(gO hu w).2.1,Sem.run_pure],.bool _⟩
  ·obtain⟨ms,hu⟩:=rF hs
   cases hx;cases hy
   exact⟨.bool true,by simp only[Sem.run_bind,(gP .neq t X Y w).1,Result.andThen_ok,binOp,(gO hu w).2.1,Sem.run_pure,Bool.not_false],.bool _⟩
  ·exact hs.elim
def aAu(P:Program)(src dst:TypeId)(x:AV):BR:=
 match P.underlying dst,x with
 |some (.int k),.int _ n=>⟨.int k (k.wrap n),(P.underlying src).isSome=true⟩
 |some .string,.str s=>⟨.str s,(P.underlying src).isSome=true⟩
 |_,_=>tP
theorem aAv{c:Ctx}{src dst:TypeId}{x:AV}{vx:Value}(hx:Rep c x vx)(hs:(aAu P src dst x).s)(w:World):∃v,(convert src dst vx).run P w=.ok v w∧Rep c (aAu P src dst x).v v:=by
 unfold aAu at *
 split at hs
 ·rename_i k k' n hu
  obtain⟨d,hd⟩:=Option.isSome_iff_exists.1 hs
  rw[hx.int_inv]
  refine⟨_,?_,.int _ _ (fD _ _)⟩
  simp only[convert,Sem.run_bind,run_underlying hd,run_underlying hu,Result.andThen_ok]
  rfl
 ·rename_i s hu
  obtain⟨d,hd⟩:=Option.isSome_iff_exists.1 hs
  rw[hx.str_inv]
  refine⟨_,?_,.str _ hx.str_R⟩
  simp only[convert,Sem.run_bind,run_underlying hd,run_underlying hu,Result.andThen_ok]
  cases d<;>rfl
 ·exact hs.elim
def mM(x:AV)(i:Nat):BR:=
 match x with
 |.tup vs=>⟨vs.getD i .top,i<vs.length⟩
 |_=>tP
theorem uN{c:Ctx}{x:AV}{i:Nat}{vx:Value}(hx:Rep c x vx)(hs:(mM x i).s)(w:World):∃v,(Instr.extract vx i).run P w=.ok v w∧Rep c (mM x i).v v:=by
 unfold mM at *
 split at hs
 ·rename_i vs
  obtain⟨us,rfl,h1,h2⟩:=hx.tup_inv
  have hg:vs[i]?=some vs[i]:=List.getElem?_eq_getElem hs
  have hu:us[i]?=some (us[i]'(by omega)):=Array.getElem?_eq_getElem (by omega)
  rw[aHS _ _ _ _ hg]
  exact⟨_,by simp[Instr.extract,hu],h2 _ _ _ hg hu⟩
 ·exact hs.elim
def aC(P:Program)(t:TypeId):Bool:=
 match P.underlying t with
 |some (.interface _)=>false
 |some _=>true
 |none=>false
theorem uO{t:TypeId}(h:aC P t=true)(v:Value)(w:World):(Instr.makeInterface t v).run P w=.ok (.iface t v) w:=by
 unfold aC at h
 cases hu:P.underlying t with
 |none=>rw[hu]at h;cases h
 |some d=>
  rw[hu]at h
  simp only[Instr.makeInterface,Sem.run_bind,run_underlying hu,Result.andThen_ok]
  cases d<;>first|rfl|cases h
def pW(P:Program)(x:AV)(t:TypeId)(ok:Bool):BR:=
 match x with
 |.iface u v=>bif u==t then⟨bif ok then .tup [v,.bool true]else v,aC P t=true⟩else bif ok then⟨.tup [aU P t,.bool false],aC P t=true∧(aU P t).known=true⟩else tP
 |.nilIface=>bif ok then⟨.tup [aU P t,.bool false],aC P t=true∧(aU P t).known=true⟩else tP
 |_=>tP
theorem wY{c:Ctx}{x:AV}{t xt:TypeId}{ok:Bool}{vx:Value}(hx:Rep c x vx)(hs:(pW P x t ok).s)(w:World):∃v,(Instr.typeAssert vx xt t ok).run P w=.ok v w∧Rep c (pW P x t ok).v v:=by
 have hu:∀(hc:aC P t=true),∃d,P.underlying t=some d∧∀ms,d≠.interface ms:=by
  intro hc
  unfold aC at hc
  cases hu:P.underlying t with
  |none=>rw[hu]at hc;cases hc
  |some d=>exact⟨d,rfl,fun ms e=>by rw[hu,e]at hc;cases hc⟩
 unfold pW at *
 split at hs
 ·rename_i u v
  cases hx with
  |iface _ _ v' hv=>
   cases hut:u==t with
   |true=>
    simp only[hut,cond_true]at hs ⊢
    obtain⟨d,hd,hdi⟩:=hu hs
    have he:u=t:=by simpa using hut
    subst he
    cases ok with
    |true=>exact⟨.tuple #[v',.bool true],by cases d<;>first|exact absurd rfl (hdi _)|simp[Instr.typeAssert,run_underlying hd],aAs hv (.bool _)⟩
    |false=>exact⟨v',by cases d<;>first|exact absurd rfl (hdi _)|simp[Instr.typeAssert,run_underlying hd],hv⟩
   |false=>
    simp only[hut,cond_false]at hs ⊢
    have he:¬u=t:=by simpa using hut
    cases ok with
    |true=>
     simp only[cond_true]at hs ⊢
     obtain⟨hc,hk⟩:=hs
     obtain⟨d,hd,hdi⟩:=hu hc
     obtain⟨z,hz1,hz2⟩:=sT (P:=P) hk c
     exact⟨.tuple #[z,.bool false],by cases d<;>first|exact absurd rfl (hdi _)|simp[Instr.typeAssert,run_underlying hd,he,hz1],aAs hz2 (.bool _)⟩
    |false=>exact hs.elim
 ·cases hx
  cases ok with
  |true=>
   simp only[cond_true]at hs ⊢
   obtain⟨hc,hk⟩:=hs
   obtain⟨d,hd,hdi⟩:=hu hc
   obtain⟨z,hz1,hz2⟩:=sT (P:=P) hk c
   exact⟨.tuple #[z,.bool false],by cases d<;>first|exact absurd rfl (hdi _)|simp[Instr.typeAssert,run_underlying hd,hz1],aAs hz2 (.bool _)⟩
  |false=>exact hs.elim
 ·exact hs.elim
def aDP(x y:AV):BR:=
 match x,y with
 |.int k a,.int k' b=>⟨.int k (max a b),k=k'⟩
 |_,_=>tP
def aDQ(x y:AV):BR:=
 match x,y with
 |.int k a,.int k' b=>⟨.int k (min a b),k=k'⟩
 |_,_=>tP
def iX(P:Program)(t:TypeId)(n:Nat)(ps:List (Nat×AV)):BR:=
 match P.underlying t with
 |some (.slice e)=>⟨.sl true (ps.map (·.2)),aS P e=true∧ps.map (·.1)=List.range n∧(ps.all fun p=>p.2.known&&(p.2.cells.length==P.cellsOf e))=true∧n * P.cellsOf e≤16777216∧P.cellsOf e≠0⟩
 |_=>tP
theorem aAw{s:Nat}:∀(vs:List (Nat×Value)) (i0:Nat) (us:Array Value),vs.map (·.1)=List.range' i0 vs.length→(∀p∈vs,p.2.cells.size=s)→(i0+vs.length) * s≤us.size→
  ∃ws,Instr.fill (fun i=>some (i * s,s)) us vs=some ws∧ws.size=us.size∧(∀idx,idx<i0 * s→ws[idx]?=us[idx]?)∧∀(k j:Nat) (p:Nat×Value),vs[k]?=some p→j<s→ws[(i0+k) * s+j]?=p.2.cells[j]?
 |[],i0,us,_,_,_=>⟨us,rfl,rfl,fun _ _=>rfl,by simp⟩
 |(i,v)::vs,i0,us,hm,hs,hle=>by
  simp only[List.map_cons,List.length_cons,List.range'_succ,List.cons.injEq]at hm
  obtain⟨rfl,hm⟩:=hm
  have hv:v.cells.size=s:=hs (i,v) (by simp)
  simp only[List.length_cons]at hle
  have hle2:(i+1) * s≤us.size:=Nat.le_trans (Nat.mul_le_mul_right s (by omega)) hle
  have e1:(i+1) * s=i * s+s:=by rw[Nat.add_mul];omega
  obtain⟨ws,g1,g2,g3,g4⟩:=aAw vs (i+1) (bCv us (i * s) v.cells.toList) hm (fun p hp=>hs p (by simp[hp])) (by rw[zA,show i+1+vs.length=i+(vs.length+1)by omega];exact hle)
  refine⟨ws,?_,by rw[g2,zA],fun idx hidx=>?_,fun k j p hk hj=>?_⟩
  ·unfold Instr.fill
   have hcond:¬((decide (v.cells.size≠s)||decide (i * s+v.cells.size>us.size))=true):=by simp;omega
   simp only[hcond,if_false]
   rw[aHQ]
   exact g1
  ·rw[g3 idx (by omega),zB _ _ _ s (by simpa using hv) (by omega),if_neg (by omega)]
  ·cases k with
   |zero=>
    simp at hk
    subst hk
    rw[Nat.add_zero,g3 _ (by omega),zB _ _ _ s (by simpa using hv) (by omega),if_pos (by omega)]
    simp
   |succ k=>
    rw[show i+(k+1)=i+1+k by omega]
    exact g4 k j p (by simpa using hk) hj
theorem pX{c:Ctx}{H:AHeap}{t:TypeId}{n:Nat}{ps:List (Nat×AV)}{vs:Array (Nat×Value)}(hst:St c H)(hm:vs.toList.map (·.1)=ps.map (·.1))
  (hp:∀(k:Nat) (p:Nat×AV) (q:Nat×Value),ps[k]?=some p→vs[k]?=some q→Rep c p.2 q.2) (hs:(iX P t n ps).s):
  Runs P (Instr.buildSlice t n vs) c (iX P t n ps).v H:=by
 unfold iX at *
 cases hu:P.underlying t with
 |none=>simp[hu,tP]at hs
 |some d=>
  cases d<;>simp only[hu,tP]at hs
  case slice e=>
   simp only
   obtain⟨hok,hr,hall,hmax,hne⟩:=hs
   simp only[aS,Bool.and_eq_true,beq_iff_eq]at hok
   obtain⟨⟨h1,h2⟩,h3⟩:=hok
   obtain⟨d,hd⟩:=Option.isSome_iff_exists.1 h1
   obtain⟨z,hz1,hz2⟩:=sT (P:=P) h2 c
   have hzs:z.cells.size=P.cellsOf e:=by rw[(hz2.cells h2).1,h3]
   have hlen:vs.toList.length=ps.length:=by have:=congrArg List.length hm;simpa using this
   have hn:ps.length=n:=by have:=congrArg List.length hr;simpa using this
   have hpv:∀(k:Nat) (p:Nat×AV) (q:Nat×Value),ps[k]?=some p→vs[k]?=some q→q.2.cells.size=P.cellsOf e∧p.2.cells.length=P.cellsOf e∧∀(i:Nat) (y:AV) (u:Value),p.2.cells[i]?=some y→q.2.cells[i]?=some u→Rep c y u:=by
    intro k p q h1 h2
    have h4:=List.all_eq_true.1 hall p (List.mem_of_getElem? h1)
    simp only[Bool.and_eq_true,beq_iff_eq]at h4
    obtain⟨g1,g2⟩:=(hp k p q h1 h2).cells h4.1
    exact⟨by rw[g1,h4.2],h4.2,g2⟩
   have hvsz:∀q∈vs.toList,q.2.cells.size=P.cellsOf e:=by
    intro q hq
    obtain⟨k,hk,hk2⟩:=List.getElem_of_mem hq
    simp only[Array.length_toList]at hk
    exact(hpv k _ q (List.getElem?_eq_getElem (by rw[←hlen];simpa using hk)) (by rw[←hk2];simp[hk])).1
   let za:Array Value:=if n * P.cellsOf e=0 then #[]else z.cells
   obtain⟨ws,g1,g2, -,g4⟩:=aAw (s:=P.cellsOf e) vs.toList 0 ((Array.range (n * P.cellsOf e)).map fun k=>za[k % za.size]!) (by rw[hm,hr,hlen,hn,List.range_eq_range']) hvsz (by simp[hlen,hn])
   have hrun:(Instr.buildSlice t n vs).run P c.w=.ok (.slice (some ⟨c.w.heap.size,0,none⟩) n n) (c.w.alloc (.cells ws e)):=by
    have hmx:¬(n * P.cellsOf e>16777216):=by omega
    simp only[Instr.buildSlice,Sem.run_bind,run_underlying hu,Result.andThen_ok,mL hd]
    rw[if_neg hmx]
    by_cases h0:n * P.cellsOf e=0
    ·have hza:za= #[]:=if_pos h0
     rw[hza]at g1
     rw[if_pos h0]
     simp only[Sem.run_bind,Sem.run_pure,Result.andThen_ok]
     rw[g1]
     rfl
    ·have hza:za=z.cells:=if_neg h0
     rw[hza]at g1
     rw[if_neg h0]
     simp only[Sem.run_bind,hz1,Sem.run_pure,Result.andThen_ok]
     rw[g1]
     rfl
   refine⟨c.fix (.cells ws e),_,hrun,hst.fix _,Ext.fix hst _,?_⟩
   refine .sl _ _ _ _ _ (P.cellsOf e) (fun k j=>((vs[k]?).bind fun q=>q.2.cells[j]?).getD undef) (by simp[hn]) (Nat.le_refl _) (fun _=>rfl) (fun _=>⟨_,rfl,rfl,.inr rfl,fun k j hk hj=>?_⟩) (fun x hx=>?_) (fun k x j y hk hj=>?_) (by have:=Nat.le_mul_of_pos_right n (Nat.pos_of_ne_zero hne);omega)
   ·simp only[List.length_map]at hk
    have hkv:vs[k]?=some (vs[k]'(by rw[←hlen]at hk;simpa using hk)):=Array.getElem?_eq_getElem _
    have h5:=g4 k j _ (by rw[Array.getElem?_toList];exact hkv) hj
    have hb:(c.fix (.cells ws e)).w.heap[c.w.heap.size]?=some (.cells ws e):=jP _ _
    rw[rB,jO hb,Nat.zero_add]
    rw[Nat.zero_add]at h5
    rw[h5,hkv]
    have hsz:=hvsz (vs[k]'(by rw[←hlen]at hk;simpa using hk)) (by simp)
    simp[show j<(vs[k]'(by rw[←hlen]at hk;simpa using hk)).2.cells.size by omega]
   ·obtain⟨p,hp1,rfl⟩:=List.mem_map.1 hx
    have h4:=List.all_eq_true.1 hall p hp1
    simp only[Bool.and_eq_true,beq_iff_eq]at h4
    exact h4.2
   ·simp only[List.getElem?_map,Option.map_eq_some_iff]at hk
    obtain⟨p,hp1,rfl⟩:=hk
    have hlt:=(List.getElem?_eq_some_iff.1 hp1).1
    have hkv:vs[k]?=some (vs[k]'(by rw[←hlen]at hlt;simpa using hlt)):=Array.getElem?_eq_getElem _
    obtain⟨q1,q2,q3⟩:=hpv k p _ hp1 hkv
    have hj2:=(List.getElem?_eq_some_iff.1 hj).1
    rw[hkv]
    refine Rep.mono (Ext.fix hst _) (q3 j y _ hj ?_)
    simp[show j<(vs[k]'(by rw[←hlen]at hlt;simpa using hlt)).2.cells.size by omega]
def kZ(P:Program)(b:Builtin)(ts:List TypeId)(xs:List AV)(H:AHeap):Res:=
 match b,ts,xs with
 |.len,[t],[x]=>⟨(aYt P t x H).v,H,(aYt P t x H).s⟩
 |.append,[t,u],[s,x]=>aFe P t u s x H
 |.copy,[t,_],[d,x]=>aYw P t d x H
 |.clear,[t],[x]=>aHY P t x H
 |.delete,[t,_],[x,k]=>aHX P t x k H
 |.cap,[t],[x]=>⟨(aYz P t x).v,H,(aYz P t x).s⟩
 |.max,_,[x,y]=>⟨(aDP x y).v,H,(aDP x y).s⟩
 |.min,_,[x,y]=>⟨(aDQ x y).v,H,(aDQ x y).s⟩
 |_,_,_=>⟨.top,H,False⟩
theorem aBC{c:Ctx}{x y:AV}{ts:Array TypeId}{ty:TypeId}{vx vy:Value}(hx:Rep c x vx)(hy:Rep c y vy)(hs:(aDP x y).s)(w:World):∃v,(Builtin.max_ ts ty #[vx,vy]).run P w=.ok v w∧Rep c (aDP x y).v v:=by
 unfold aDP at *
 split at hs
 ·rename_i k a k' b
  subst hs
  rw[hx.int_inv,hy.int_inv]
  refine⟨.int k (max a b),?_,.int _ _ (by have h1:=hx.int_R;have h2:=hy.int_R;unfold inR at *;omega)⟩
  simp only[Builtin.max_,List.foldlM_cons,List.foldlM_nil,Builtin.max2,Sem.run_bind,Sem.run_pure,Result.andThen_ok]
  congr 2
  split<;>omega
 ·exact hs.elim
theorem aBD{c:Ctx}{x y:AV}{ts:Array TypeId}{ty:TypeId}{vx vy:Value}(hx:Rep c x vx)(hy:Rep c y vy)(hs:(aDQ x y).s)(w:World):∃v,(Builtin.min_ ts ty #[vx,vy]).run P w=.ok v w∧Rep c (aDQ x y).v v:=by
 unfold aDQ at *
 split at hs
 ·rename_i k a k' b
  subst hs
  rw[hx.int_inv,hy.int_inv]
  refine⟨.int k (min a b),?_,.int _ _ (by have h1:=hx.int_R;have h2:=hy.int_R;unfold inR at *;omega)⟩
  simp only[Builtin.min_,List.foldlM_cons,List.foldlM_nil,Builtin.min2,Sem.run_bind,Sem.run_pure,Result.andThen_ok]
  congr 2
  split<;>omega
 ·exact hs.elim
def RepA(c:Ctx)(xs:List AV)(vs:Array Value):Prop:=vs.size=xs.length∧∀(i:Nat) (x:AV) (v:Value),xs[i]?=some x→vs[i]?=some v→Rep c x v
theorem RepA.one{c:Ctx}{x:AV}{vs:Array Value}(h:RepA c [x] vs):∃u,vs= #[u]∧Rep c x u:=by
 obtain⟨h1,h2⟩:=h
 obtain⟨l⟩:=vs
 match l,h1 with
 |[u],_=>exact⟨u,rfl,h2 0 _ _ rfl rfl⟩
theorem RepA.two{c:Ctx}{x y:AV}{vs:Array Value}(h:RepA c [x,y] vs):∃u v,vs= #[u,v]∧Rep c x u∧Rep c y v:=by
 obtain⟨h1,h2⟩:=h
 obtain⟨l⟩:=vs
 match l,h1 with
 |[u,v],_=>exact⟨u,v,rfl,h2 0 _ _ rfl rfl,h2 1 _ _ rfl rfl⟩
theorem uP{c:Ctx}{H:AHeap}{b:Builtin}{ts:Array TypeId}{ty:TypeId}{cs:Array Bool}{xs:List AV}{vs:Array Value}(hst:St c H)(hx:RepA c xs vs)(hs:(kZ P b ts.toList xs H).s):
  ∃c' v,(builtin b ts ty cs vs).run P c.w=.ok (.value v) c'.w∧St c' (kZ P b ts.toList xs H).H∧Ext c c'∧Rep c' (kZ P b ts.toList xs H).v v:=by
 obtain⟨tl⟩:=ts
 simp only[List.toList_toArray]at hs ⊢
 unfold kZ at *
 split at hs
 ·obtain⟨u,rfl,hu⟩:=hx.one
  obtain⟨v,h1,h2⟩:=aMq (P:=P) (ty:=ty) hst hu hs
  exact⟨c,v,by simp only[builtin,Sem.run_bind];rw[h1];rfl,hst,Ext.refl c,h2⟩
 ·obtain⟨u,u',rfl,hu,hu'⟩:=hx.two
  obtain⟨c',v,h1,h2,h3,h4⟩:=aFf (P:=P) (ty:=ty) hst hu hu' hs
  exact⟨c',v,by simp only[builtin,Sem.run_bind];rw[h1];rfl,h2,h3,h4⟩
 ·obtain⟨u,u',rfl,hu,hu'⟩:=hx.two
  obtain⟨c',v,h1,h2,h3,h4⟩:=aKK (P:=P) (ty:=ty) hst hu hu' hs
  exact⟨c',v,by simp only[builtin,Sem.run_bind];rw[h1];rfl,h2,h3,h4⟩
 ·obtain⟨u,rfl,hu⟩:=hx.one
  obtain⟨c',v,h1,h2,h3,h4⟩:=aHk (P:=P) (ty:=ty) hst hu hs
  exact⟨c',v,by simp only[builtin,Sem.run_bind];rw[h1];rfl,h2,h3,h4⟩
 ·obtain⟨u,u',rfl,hu,hu'⟩:=hx.two
  obtain⟨c',v,h1,h2,h3,h4⟩:=aHj (P:=P) (ty:=ty) hst hu hu' hs
  exact⟨c',v,by simp only[builtin,Sem.run_bind];rw[h1];rfl,h2,h3,h4⟩
 ·obtain⟨u,rfl,hu⟩:=hx.one
  obtain⟨v,h1,h2⟩:=aMv (P:=P) (ty:=ty) (c:=c) hu hs
  exact⟨c,v,by simp only[builtin,Sem.run_bind];rw[h1];rfl,hst,Ext.refl c,h2⟩
 ·obtain⟨u,u',rfl,hu,hu'⟩:=hx.two
  obtain⟨v,h1,h2⟩:=aBC (P:=P) (ts:=⟨tl⟩) (ty:=ty) hu hu' hs c.w
  exact⟨c,v,by simp only[builtin,Sem.run_bind];rw[h1];rfl,hst,Ext.refl c,h2⟩
 ·obtain⟨u,u',rfl,hu,hu'⟩:=hx.two
  obtain⟨v,h1,h2⟩:=aBD (P:=P) (ts:=⟨tl⟩) (ty:=ty) hu hu' hs c.w
  exact⟨c,v,by simp only[builtin,Sem.run_bind];rw[h1];rfl,hst,Ext.refl c,h2⟩
 ·exact hs.elim
end Go.Aw
/- The abstract machine: every operation, a region, a call, a function. No condition. -/
namespace Go.Aw
open Go
set_option linter.unusedSimpArgs false
variable {P:Program}
theorem uQ{o:Oper}(h:∀c,o.op≠.defer c):Sm o:=fun r ρ=>Oper.semAt_eq r ρ o h
theorem bT{o:Oper}{ρ:Operand→AV}{H H':AHeap}{x:AV}
  (h:∀(c:Ctx) (a:Act),St c H→(∀x∈o.op.operands.toList,Rep c (ρ x) (a.eval x))→∃c' v,(execOp a.eval o).run P c.w=.ok (.value v) c'.w∧St c' H'∧Ext c c'∧Rep c' x v) (hd:Sm o:=by intro r _;cases r<;>rfl):
  Does P o ρ H (fun x' H''=>x'=x∧H''=H'):=by
 intro r c a next Q hs hρ hk
 obtain⟨c',v,h1,h2,h3,h4⟩:=h c a hs hρ
 refine owp hd ?_
 rw[h1]
 exact hk c' x v H' h2 h3 h4 ⟨rfl,rfl⟩
theorem rG{o:Oper}{ρ:Operand→AV}{H H':AHeap}
  (h:∀(c:Ctx) (a:Act),St c H→(∀x∈o.op.operands.toList,Rep c (ρ x) (a.eval x))→∃c',(execOp a.eval o).run P c.w=.ok .skip c'.w∧St c' H'∧Ext c c') (hd:Sm o:=by intro r _;cases r<;>rfl):
  Does P o ρ H (fun x' H''=>x'=.top∧H''=H'):=by
 intro r c a next Q hs hρ hk
 obtain⟨c',h1,h2,h3⟩:=h c a hs hρ
 refine owp hd ?_
 rw[h1]
 exact hk c' .top undef H' h2 h3 (.top _) ⟨rfl,rfl⟩
def pY(r:BR)(H:AHeap):Res:=⟨r.v,H,r.s⟩
theorem Rep.cptr_inv{c:Ctx}{cs:List AV}{v:Value}(h:Rep c (.cptr cs) v):∃a,v=.pointer (some a):=by
 cases h with|cptr _ a=>exact⟨a,rfl⟩
def aFh(x:AV)(H:AHeap):Res:=
 match x with
 |.ref i v off=>⟨.ref i v off,H,tQ H (.ref i v off)⟩
 |.cptr cs=>⟨.cptr cs,H,True⟩
 |_=>⟨.top,H,False⟩
def bB(P:Program)(t:TypeId):Bool:=
 match P.underlying t with
 |some d=>aYs P d
 |none=>false
def aP(P:Program)(op:Op)(ρ:Operand→AV)(H:AHeap):Res:=
 match op with
 |.move x=>⟨ρ x,H,True⟩
 |.assign x=>⟨ρ x,H,True⟩
 |.alloc t=>aMn P t H
 |.box _ x=>bDW (ρ x) H
 |.build t ps=>⟨(aE9 P t (ps.toList.map fun p=>(p.1,ρ p.2))).v,H,bB P t=true∧(aE9 P t (ps.toList.map fun p=>(p.1,ρ p.2))).s⟩
 |.buildSlice t n ps=>pY (iX P t n (ps.toList.map fun p=>(p.1,ρ p.2))) H
 |.load t x=>pY (sQ P t (ρ x) H) H
 |.store t a x=>aBz P t (ρ a) (ρ x) H
 |.nilCheck x=>aFh (ρ x) H
 |.binOp op t x y _=>pY (uM P (isK x||isK y) op t (ρ x) (ρ y)) H
 |.unOp op _ x=>pY (aun op (ρ x)) H
 |.convert s d x=>pY (aAu P s d (ρ x)) H
 |.makeInterface t x=>⟨.iface t (ρ x),H,aC P t=true⟩
 |.makeFunc fn f cs=>⟨.func fn (f.toList.map ρ) (cs.toList.map ρ),H,True⟩
 |.slice t x lo hi mx=>pY (aMr P t (ρ x) (lo.map ρ) (hi.map ρ) (mx.map ρ) H) H
 |.fieldAddr t x f=>⟨(uK P t f (ρ x)).v,H,tQ H (ρ x)∧(uK P t f (ρ x)).s⟩
 |.field t x f=>pY (aMo P t f (ρ x)) H
 |.indexAddr t x i=>⟨(uL P t (ρ x) (ρ i)).v,H,tQ H (ρ x)∧(uL P t (ρ x) (ρ i)).s⟩
 |.index t x i=>pY (aMp P t (ρ x) (ρ i)) H
 |.typeAssert x _ t ok=>pY (pW P (ρ x) t ok) H
 |.extract x i=>pY (mM (ρ x) i) H
 |.makeSlice t l k=>aBA P t (ρ l) (ρ k) H
 |.range t x=>aHZ P t (ρ x) H
 |.makeMap _ none=>aFc H
 |.lookup t x k ok=>pY (aHW P t (ρ x) (ρ k) ok H) H
 |.entry x=>pY (aMw (ρ x) H) H
 |.mapUpdate t x k v=>iD P t (ρ x) (ρ k) (ρ v) H
 |.insert t x k v=>iD P t (ρ x) (ρ k) (ρ v) H
 |.next it b=>aYx (ρ it) b H
 |.call ⟨.builtin b,xs,ts⟩=>kZ P b ts.toList (xs.toList.map ρ) H
 |_=>⟨.top,H,False⟩
theorem nG{c:Ctx}{ρ:Operand→AV}{e:Operand→Value}{xs:Array Operand}(h:∀x∈xs.toList,Rep c (ρ x) (e x)):RepA c (xs.toList.map ρ) (xs.map e):=by
 refine⟨by simp,fun i x v h1 h2=>?_⟩
 simp only[List.getElem?_map,Option.map_eq_some_iff]at h1
 obtain⟨y,h1,rfl⟩:=h1
 rw[Array.getElem?_map]at h2
 rw[Array.getElem?_toList]at h1
 rw[h1]at h2
 cases h2
 exact h y (by rw[Array.mem_toList_iff];exact Array.mem_of_getElem? h1)
theorem mO{c:Ctx}{ρ:Operand→AV}{e:Operand→Value}{o:Option Operand}(h:∀x,o=some x→Rep c (ρ x) (e x)):
  (∀y,o.map ρ=some y→∃u,o.map e=some u∧Rep c y u)∧(o.map ρ=none→o.map e=none):=by
 cases o with
 |none=>exact⟨by simp,by simp⟩
 |some x=>exact⟨fun y hy=>by simp at hy;subst hy;exact⟨_,rfl,h x rfl⟩,by simp⟩
set_option maxHeartbeats 1600000 in
theorem dX{o:Oper}{ρ:Operand→AV}{H:AHeap}(hs:(aP P o.op ρ H).s):
  Does P o ρ H (fun x' H'=>x'=(aP P o.op ρ H).v∧H'=(aP P o.op ρ H).H):=by
 obtain⟨dst,op,ty,pos,after,guard⟩:=o
 cases op<;>simp only[aP,pY]at hs ⊢
 case move x=>exact bT fun c a hst hρ=>⟨c,_,rfl,hst,Ext.refl c,hρ x (by simp[Op.operands])⟩
 case assign x=>exact bT fun c a hst hρ=>⟨c,_,rfl,hst,Ext.refl c,hρ x (by simp[Op.operands])⟩
 case alloc t=>
  refine bT fun c a hst hρ=>?_
  obtain⟨c',v,h1,h2,h3,h4⟩:=aHP (P:=P) hst hs
  exact⟨c',v,by simp only[execOp,Sem.run_bind,h1];rfl,h2,h3,h4⟩
 case box t x=>
  refine bT fun c a hst hρ=>?_
  obtain⟨c',v,h1,h2,h3,h4⟩:=aMm (P:=P) (t:=t) hst (hρ x (by simp[Op.operands])) hs
  exact⟨c',v,by simp only[execOp,Sem.run_bind,h1];rfl,h2,h3,h4⟩
 case build t ps=>
  obtain⟨hf,hs⟩:=hs
  refine bT fun c a hst hρ=>?_
  have hmem:∀p∈ps.toList,Rep c (ρ p.2) (a.eval p.2):=fun p hp=>hρ p.2 (by simp only[Op.operands,List.mem_map];exact⟨p,hp,rfl⟩)
  obtain⟨v,h1,h2⟩:=aHR (P:=P) (vs:=ps.map fun(i,x)=>(i,a.eval x)) (by simp[List.map_map,Function.comp_def]) (fun k p q h1 h2=>by
   simp only[List.getElem?_map,Option.map_eq_some_iff]at h1
   obtain⟨r,h1,rfl⟩:=h1
   rw[Array.getElem?_map]at h2
   rw[Array.getElem?_toList]at h1
   rw[h1]at h2
   cases h2
   exact hmem r (by rw[Array.mem_toList_iff];exact Array.mem_of_getElem? h1)) hs (fun d hd=>by unfold bB at hf;rw[hd]at hf;exact hf) c.w
  exact⟨c,v,by simp only[execOp,Sem.run_bind,h1];rfl,hst,Ext.refl c,h2⟩
 case buildSlice t n ps=>
  refine bT fun c a hst hρ=>?_
  have hmem:∀p∈ps.toList,Rep c (ρ p.2) (a.eval p.2):=fun p hp=>hρ p.2 (by simp only[Op.operands,List.mem_map];exact⟨p,hp,rfl⟩)
  obtain⟨c',v,h1,h2,h3,h4⟩:=pX (P:=P) (vs:=ps.map fun(i,x)=>(i,a.eval x)) hst (by simp[List.map_map,Function.comp_def]) (fun k p q h1 h2=>by
   simp only[List.getElem?_map,Option.map_eq_some_iff]at h1
   obtain⟨r,h1,rfl⟩:=h1
   rw[Array.getElem?_map]at h2
   rw[Array.getElem?_toList]at h1
   rw[h1]at h2
   cases h2
   exact hmem r (by rw[Array.mem_toList_iff];exact Array.mem_of_getElem? h1)) hs
  exact⟨c',v,by simp only[execOp,Sem.run_bind,h1];rfl,h2,h3,h4⟩
 case load t x=>
  refine bT fun c a hst hρ=>?_
  obtain⟨v,h1,h2⟩:=sR (P:=P) hst (hρ x (by simp[Op.operands])) hs
  exact⟨c,v,by simp only[execOp,Sem.run_bind,h1];rfl,hst,Ext.refl c,h2⟩
 case store t x y=>
  have hv:(aBz P t (ρ x) (ρ y) H).v=.top:=by unfold aBz;split<;>(try split)<;>rfl
  rw[hv]
  refine rG fun c a hst hρ=>?_
  obtain⟨w',h1,h2,h3⟩:=aHO (P:=P) hst (hρ x (by simp[Op.operands])) (hρ y (by simp[Op.operands])) hs
  exact⟨_,by simp only[execOp,Sem.run_bind,h1];rfl,h3,h2⟩
 case nilCheck x=>
  refine bT fun c a hst hρ=>?_
  have hx:=hρ x (by simp[Op.operands])
  have e:(aFh (ρ x) H).v=ρ x∧(aFh (ρ x) H).H=H∧∃a',a.eval x=.pointer (some a'):=by
   unfold aFh at hs ⊢
   split at hs
   ·rename_i i v off hh
    rw[hh]at hx
    obtain⟨b,hb, -⟩:=aAr hx (aKI (off:=off) hst hs) 0
    exact⟨hh.symm,rfl,b,hb⟩
   ·rename_i cs hh
    rw[hh]at hx
    obtain⟨a',ha'⟩:=hx.cptr_inv
    exact⟨hh.symm,rfl,a',ha'⟩
   ·exact hs.elim
  obtain⟨e1,e2,a',e3⟩:=e
  rw[e1,e2]
  refine⟨c,.pointer (some a'),?_,hst,Ext.refl c,by rw[←e3];exact hx⟩
  simp only[execOp]
  rw[e3]
  rfl
 case binOp op t x y ty'=>
  refine bT fun c a hst hρ=>?_
  obtain⟨v,h1,h2⟩:=aAt (P:=P) (X:=x) (Y:=y) (hρ x (by simp[Op.operands])) (hρ y (by simp[Op.operands])) hs c.w
  exact⟨c,v,by simp only[execOp];rw[Sem.run_bind,h1];rfl,hst,Ext.refl c,h2⟩
 case unOp op t x=>
  refine bT fun c a hst hρ=>?_
  obtain⟨v,h1,h2⟩:=aDN (P:=P) (hρ x (by simp[Op.operands])) hs c.w
  exact⟨c,v,by simp only[execOp,Sem.run_bind,h1];rfl,hst,Ext.refl c,h2⟩
 case convert s d x=>
  refine bT fun c a hst hρ=>?_
  obtain⟨v,h1,h2⟩:=aAv (P:=P) (hρ x (by simp[Op.operands])) hs c.w
  exact⟨c,v,by simp only[execOp,Sem.run_bind,h1];rfl,hst,Ext.refl c,h2⟩
 case makeInterface t x=>
  exact bT fun c a hst hρ=>⟨c,_,by simp only[execOp,Sem.run_bind,uO hs];rfl,hst,Ext.refl c,.iface _ _ _ (hρ x (by simp[Op.operands]))⟩
 case makeFunc fn f cs=>
  refine bT fun c a hst hρ=>⟨c,.func fn (f.map a.eval) (cs.map a.eval),by simp only[execOp,Instr.makeFunc,Sem.run_bind,Sem.run_pure];rfl,hst,Ext.refl c,?_⟩
  obtain⟨p1,p2⟩:=nG (c:=c) (ρ:=ρ) (e:=a.eval) (xs:=f) (fun x hx=>hρ x (by simp only[Op.operands,Array.toList_append,List.mem_append];exact .inl hx))
  obtain⟨q1,q2⟩:=nG (c:=c) (ρ:=ρ) (e:=a.eval) (xs:=cs) (fun x hx=>hρ x (by simp only[Op.operands,Array.toList_append,List.mem_append];exact .inr hx))
  exact .func _ _ _ _ _ p1 q1 p2 q2
 case slice t x lo hi mx=>
  refine bT fun c a hst hρ=>?_
  obtain⟨l1,l2⟩:=mO (c:=c) (ρ:=ρ) (e:=a.eval) (o:=lo) (fun y hy=>hρ y (by subst hy;simp[Op.operands]))
  obtain⟨h1,h2⟩:=mO (c:=c) (ρ:=ρ) (e:=a.eval) (o:=hi) (fun y hy=>hρ y (by subst hy;simp[Op.operands]))
  obtain⟨m1,m2⟩:=mO (c:=c) (ρ:=ρ) (e:=a.eval) (o:=mx) (fun y hy=>hρ y (by subst hy;simp[Op.operands]))
  obtain⟨v,g1,g2⟩:=aHV (P:=P) hst (hρ x (by simp[Op.operands])) l1 l2 h1 h2 m1 m2 hs c.w
  exact⟨c,v,by simp only[execOp,Sem.run_bind,g1];rfl,hst,Ext.refl c,g2⟩
 case fieldAddr t x f=>
  refine bT fun c a hst hρ=>?_
  obtain⟨v,h1,h2⟩:=aDJ (P:=P) hst (hρ x (by simp[Op.operands])) hs.1 hs.2 c.w
  exact⟨c,v,by simp only[execOp,Sem.run_bind,h1];rfl,hst,Ext.refl c,h2⟩
 case field t x f=>
  refine bT fun c a hst hρ=>?_
  obtain⟨v,h1,h2⟩:=aHT (P:=P) (hρ x (by simp[Op.operands])) hs c.w
  exact⟨c,v,by simp only[execOp,Sem.run_bind,h1];rfl,hst,Ext.refl c,h2⟩
 case indexAddr t x i=>
  refine bT fun c a hst hρ=>?_
  obtain⟨v,h1,h2⟩:=aDK (P:=P) hst (hρ x (by simp[Op.operands])) (hρ i (by simp[Op.operands])) hs.1 hs.2 c.w
  exact⟨c,v,by simp only[execOp,Sem.run_bind,h1];rfl,hst,Ext.refl c,h2⟩
 case index t x i=>
  refine bT fun c a hst hρ=>?_
  obtain⟨v,h1,h2⟩:=aHU (P:=P) (hρ x (by simp[Op.operands])) (hρ i (by simp[Op.operands])) hs c.w
  exact⟨c,v,by simp only[execOp,Sem.run_bind,h1];rfl,hst,Ext.refl c,h2⟩
 case typeAssert x xt t ok=>
  refine bT fun c a hst hρ=>?_
  obtain⟨v,h1,h2⟩:=wY (P:=P) (xt:=xt) (hρ x (by simp[Op.operands])) hs c.w
  exact⟨c,v,by simp only[execOp,Sem.run_bind,h1];rfl,hst,Ext.refl c,h2⟩
 case extract x i=>
  refine bT fun c a hst hρ=>?_
  obtain⟨v,h1,h2⟩:=uN (P:=P) (hρ x (by simp[Op.operands])) hs c.w
  exact⟨c,v,by simp only[execOp,Sem.run_bind,h1];rfl,hst,Ext.refl c,h2⟩
 case makeSlice t l k=>
  refine bT fun c a hst hρ=>?_
  obtain⟨c',v,h1,h2,h3,h4⟩:=aDL (P:=P) hst (hρ l (by simp[Op.operands])) (hρ k (by simp[Op.operands])) hs
  exact⟨c',v,by simp only[execOp,Sem.run_bind,h1];rfl,h2,h3,h4⟩
 case range t x=>
  refine bT fun c a hst hρ=>?_
  obtain⟨c',v,h1,h2,h3,h4⟩:=aHl (P:=P) hst (hρ x (by simp[Op.operands])) hs
  exact⟨c',v,by simp only[execOp,Sem.run_bind,h1];rfl,h2,h3,h4⟩
 case next it b=>
  refine bT fun c a hst hρ=>?_
  obtain⟨c',v,h1,h2,h3,h4⟩:=aKL (P:=P) (ty:=ty) hst (hρ it (by simp[Op.operands])) hs
  exact⟨c',v,by simp only[execOp,Sem.run_bind,h1];rfl,h2,h3,h4⟩
 case makeMap t r=>
  cases r with
  |some x=>exact hs.elim
  |none=>
   refine bT fun c a hst hρ=>?_
   obtain⟨c',v,h1,h2,h3,h4⟩:=aFd (P:=P) (t:=t) hst
   exact⟨c',v,by simp only[execOp,Option.map_none,Sem.run_bind,h1];rfl,h2,h3,h4⟩
 case lookup t x k ok=>
  refine bT fun c a hst hρ=>?_
  obtain⟨v,h1,h2⟩:=aHi (P:=P) hst (hρ x (by simp[Op.operands])) (hρ k (by simp[Op.operands])) hs
  exact⟨c,v,by simp only[execOp,Sem.run_bind,h1];rfl,hst,Ext.refl c,h2⟩
 case entry x=>
  refine bT fun c a hst hρ=>?_
  obtain⟨v,h1,h2⟩:=aH1 (P:=P) hst (hρ x (by simp[Op.operands])) hs
  exact⟨c,v,by simp only[execOp,Sem.run_bind,h1];rfl,hst,Ext.refl c,h2⟩
 case mapUpdate t x k v=>
  have hv:(iD P t (ρ x) (ρ k) (ρ v) H).v=.top:=by unfold iD;split<;>rfl
  rw[hv]
  refine rG fun c a hst hρ=>?_
  obtain⟨c',h1,h2,h3⟩:=rD (P:=P) hst (hρ x (by simp[Op.operands])) (hρ k (by simp[Op.operands])) (hρ v (by simp[Op.operands])) hs
  exact⟨c',by simp only[execOp,Sem.run_bind,h1];rfl,h2,h3⟩
 case insert t x k v=>
  have hv:(iD P t (ρ x) (ρ k) (ρ v) H).v=.top:=by unfold iD;split<;>rfl
  rw[hv]
  refine rG fun c a hst hρ=>?_
  obtain⟨c',h1,h2,h3⟩:=rD (P:=P) hst (hρ x (by simp[Op.operands])) (hρ k (by simp[Op.operands])) (hρ v (by simp[Op.operands])) hs
  exact⟨c',by simp only[execOp,Sem.run_bind,h1];rfl,h2,h3⟩
 case call cl=>
  obtain⟨callee,xs,ts⟩:=cl
  cases callee<;>simp only at hs ⊢
  case builtin b=>
   refine bT fun c a hst hρ=>?_
   obtain⟨c',v,h1,h2,h3,h4⟩:=uP (P:=P) (b:=b) (ts:=ts) (ty:=ty) (cs:=xs.map fun|.const _=>true|_=>false) (vs:=xs.map a.eval) hst (nG fun x hx=>hρ x (by simp only[Op.operands,Call.operands,Array.toList_append,List.mem_append];exact .inr hx)) hs
   exact⟨c',v,by simp only[execOp,resolve,Sem.run_bind,Sem.run_pure,Result.andThen_ok,invoke];exact h1,h2,h3,h4⟩
def aA(P:Program)(f:FuncId):Bool:=
 match P.funcs[f]? with
 |some fn=>fn.body.isSome&& !(fn.name== "runtime.NumGoroutine")
 |none=>false
theorem jC{f:FuncId}(h:aA P f=true)(args:Array Value)(w:World):(callFunc f args).run P w=.ok (.enter f args) w:=by
 unfold aA at h
 cases hf:P.funcs[f]? with
 |none=>rw[hf]at h;cases h
 |some fn=>
  rw[hf]at h
  simp only[Bool.and_eq_true,Bool.not_eq_true']at h
  obtain⟨h1,h2⟩:=h
  have h3:fn.body.isNone=false:=by cases hb:fn.body<;>simp_all
  simp only[callFunc,Sem.run_bind,run_program,Result.andThen_ok,hf,h2,h3,Bool.false_eq_true,if_false]
  rfl
def AExtern(P:Program)(f:FuncId)(args:List AV)(H:AHeap)(R:AV→AHeap→Prop):Prop:=
 ∀(c:Ctx) (vs:Array Value),St c H→RepAll c args vs→∃v x,(callFunc f vs).run P c.w=.ok (.value v) c.w∧Rep c x v∧R x H
theorem AExtern.mono{P:Program}{f:FuncId}{args:List AV}{H:AHeap}{R R':AV→AHeap→Prop}(h:AExtern P f args H R)(hr:∀x H',R x H'→R' x H'):AExtern P f args H R':=
 fun c vs hs ha=>by
  obtain⟨v,x,e1,e2,e3⟩:=h c vs hs ha
  exact⟨v,x,e1,e2,hr _ _ e3⟩
theorem aDR{o:Oper}{ρ:Operand→AV}{H:AHeap}{K:AV→AHeap→Prop}{it:Operand}(ho:o.op=.next it false)(h:aKM (ρ it) H K):Does P o ρ H K:=by
 intro r c a next Q hs hρ hk
 obtain⟨c',v,x',H',h1,h2,h3,h4,h5⟩:=aH0 (P:=P) (ty:=o.type) hs (hρ it (by rw[ho];simp[Op.operands])) h
 refine owp (uQ (by rw[ho];simp)) ?_
 have:(execOp a.eval o).run P c.w=.ok (.value v) c'.w:=by simp only[execOp,ho,Sem.run_bind,h1];rfl
 rw[this]
 exact hk c' x' v H' h2 h3 h4 h5
def AYield(P:Program)(l:Nat)(args:List AV)(H:AHeap)(R:AV→AHeap→Prop):Prop:=
 ∀(c:Ctx) (vs:Array Value),St c H→RepAll c args vs→∃fn tmps ars bd,(Instr.yield l vs).run P c.w=.ok (.round l fn tmps ars bd) c.w∧
  RoundIn Fence.wide 0 P l fn tmps ars bd c.w (fun e w'=>∃c' x v H',e=.returned v∧c'.w=w'∧St c' H'∧Ext c c'∧Rep c' x v∧R x H')
theorem AYield.mono{P:Program}{l:Nat}{args:List AV}{H:AHeap}{R R':AV→AHeap→Prop}(h:AYield P l args H R)(hr:∀x H',R x H'→R' x H'):AYield P l args H R':=
 fun c vs hs ha=>by
  obtain⟨fn,tmps,ars,bd,h1,h2⟩:=h c vs hs ha
  exact⟨fn,tmps,ars,bd,h1,h2.mono fun _ _ ⟨c',x,v,H',e1,e2,e3,e4,e5,e6⟩=>⟨c',x,v,H',e1,e2,e3,e4,e5,hr _ _ e6⟩⟩
def ACall(P:Program)(f:AV)(args:List AV)(H:AHeap)(R:AV→AHeap→Prop):Prop:=
 match f with
 |.func (.func fid)first cap=>(aA P fid=true∧ACalls P fid (first++args++cap) H R)∨AExtern P fid (first++args++cap) H R
 |.func (.yield l) [] []=>AYield P l args H R
 |_=>False
theorem ACall.mono{P:Program}{f:AV}{args:List AV}{H:AHeap}{R R':AV→AHeap→Prop}(h:ACall P f args H R)(hr:∀x H',R x H'→R' x H'):ACall P f args H R':=by
 unfold ACall at h ⊢
 split at h
 ·rcases h with⟨h1,h2⟩|h1
  ·exact .inl ⟨h1,h2.mono hr⟩
  ·exact .inr (h1.mono hr)
 ·exact h.mono hr
 ·exact h.elim
theorem fM{o:Oper}{ρ:Operand→AV}{H:AHeap}{R:AV→AHeap→Prop}{f:Operand}{xs:Array Operand}{ts:Array TypeId}(ho:o.op=.call ⟨.value f,xs,ts⟩)(h:ACall P (ρ f) (xs.toList.map ρ) H R):Does P o ρ H R:=by
 intro r c a next Q hs hρ hk
 unfold ACall at h
 split at h
 ·rename_i fid first cap hf
  have hrf:=hρ f (by rw[ho];simp[Op.operands,Call.operands])
  rw[hf]at hrf
  generalize hev:a.eval f=vf at hrf
  cases hrf with
  |func _ _ _ v1 v2 hl1 hl2 hr1 hr2=>
   obtain⟨hl3,hr3⟩:=nG (c:=c) (ρ:=ρ) (e:=a.eval) (xs:=xs) (fun x hx=>hρ x (by rw[ho];simp only[Op.operands,Call.operands,Array.toList_append,List.mem_append];exact .inr hx))
   have hrun:(execOp a.eval o).run P c.w=(callFunc fid (v1++xs.map a.eval++v2)).run P c.w:=by
    simp only[execOp,ho,resolve,hev,Deferred.ofValue,Sem.run_bind,Sem.run_pure,Result.andThen_ok,invoke]
   have hall:RepAll c (first++xs.toList.map ρ++cap) (v1++xs.map a.eval++v2):=by
    refine⟨by simp[hl1,hl2,hl3],fun i x v g1 g2=>?_⟩
    by_cases h1:i<first.length
    ·rw[List.append_assoc,List.getElem?_append_left h1]at g1
     rw[Array.append_assoc,Array.getElem?_append_left (by omega)]at g2
     exact hr1 _ _ _ g1 g2
    ·by_cases h2:i<first.length+(xs.toList.map ρ).length
     ·rw[List.append_assoc,List.getElem?_append_right (by omega),List.getElem?_append_left (by omega)]at g1
      rw[Array.append_assoc,Array.getElem?_append_right (by omega),Array.getElem?_append_left (by omega),hl1]at g2
      exact hr3 _ _ _ g1 g2
     ·rw[List.append_assoc,List.getElem?_append_right (by omega),List.getElem?_append_right (by omega)]at g1
      rw[Array.append_assoc,Array.getElem?_append_right (by omega),Array.getElem?_append_right (by omega),hl1,hl3]at g2
      exact hr2 _ _ _ g1 g2
   refine owp (uQ (by rw[ho];simp)) ?_
   rw[hrun]
   rcases h with⟨hok,h⟩|h
   ·rw[jC hok]
    refine⟨fun h=>(by cases h),callsIn_wide.2 ?_⟩
    refine(h c _ hs hall).mono fun e w' ⟨c',x,v,H',e1,e2,e3,e4,e5,e6⟩=>?_
    subst e1
    subst e2
    exact hk c' x v H' e3 e4 e5 e6
   ·obtain⟨v,x,e1,e2,e3⟩:=h c _ hs hall
    rw[e1]
    exact hk c x v H hs (Ext.refl c) e2 e3
 ·rename_i l hf
  have hrf:=hρ f (by rw[ho];simp[Op.operands,Call.operands])
  rw[hf]at hrf
  generalize hev:a.eval f=vf at hrf
  cases hrf with
  |func _ _ _ v1 v2 hl1 hl2 _ _=>
   obtain rfl:v1= #[]:=Array.eq_empty_of_size_eq_zero hl1
   obtain rfl:v2= #[]:=Array.eq_empty_of_size_eq_zero hl2
   have hall:RepAll c (xs.toList.map ρ) (xs.map a.eval):=nG (c:=c) (ρ:=ρ) (e:=a.eval) (xs:=xs) (fun x hx=>hρ x (by rw[ho];simp only[Op.operands,Call.operands,Array.toList_append,List.mem_append];exact .inr hx))
   obtain⟨fn,tmps,ars,bd,h1,h2⟩:=h c _ hs hall
   have hrun:(execOp a.eval o).run P c.w=.ok (.round l fn tmps ars bd) c.w:=by
    simp only[execOp,ho,resolve,hev,Deferred.ofValue,Sem.run_bind,Sem.run_pure,Result.andThen_ok,invoke]
    simpa using h1
   refine owp (uQ (by rw[ho];simp)) ?_
   rw[hrun]
   refine⟨fun h=>(by cases h),RoundIn.mono (F:=wf r) (n:=0) h2 fun e w' ⟨c',x,v,H',e1,e2,e3,e4,e5,e6⟩=>?_⟩
   subst e1
   subst e2
   exact hk c' x v H' e3 e4 e5 e6
 ·exact h.elim
def nH(P:Program)(t:TypeId)(m:String):Option FuncId:=
 match P.info? t with
 |some i=>match i.methods.find? (·.name==m)with
  |some mt=>bif mt.path.isEmpty then
    match mt.func,P.underlying t with
    |some (f,true),some (.pointer _)=>some f
    |some (_,false),some (.pointer _)=>none
    |some (f,false),some _=>some f
    |_,_=>none
   else none
  |none=>none
 |none=>none
def dG(P:Program)(m:String):AV→AV
 |.iface t v=>match nH P t m with
  |some f=>.func (.func f) [v] []
  |none=>.top
 |_=>.top
theorem aBE{t:TypeId}{m:String}{f:FuncId}(h:nH P t m=some f)(n:Nat)(v:Value)(w:World):(method (n+1) t v m).run P w=.ok (f,v) w:=by
 unfold nH at h
 cases hi:P.info? t with
 |none=>rw[hi]at h;cases h
 |some i=>
  rw[hi]at h
  simp only at h
  cases hm:i.methods.find? (·.name==m)with
  |none=>rw[hm]at h;cases h
  |some mt=>
   rw[hm]at h
   simp only at h
   cases hp:mt.path.isEmpty with
   |false=>rw[hp]at h;cases h
   |true=>
    rw[hp,cond_true]at h
    have hpl:mt.path.toList=[]:=by
     have:mt.path= #[]:=by simpa using hp
     rw[this]
    split at h
    ·rename_i f' e hf hu
     cases h
     simp only[method,typeInfo,Sem.run_bind,run_program,Result.andThen_ok,hi,Sem.run_pure,hm,hpl,follow,hf,receiverAt,run_underlying hu,Place.get]
    ·cases h
    ·rename_i f' d hne hf hu
     cases h
     have hd:∀e,d≠.pointer e:=fun e he=>by subst he;exact hne _ rfl
     simp only[method,typeInfo,Sem.run_bind,run_program,Result.andThen_ok,hi,Sem.run_pure,hm,hpl,follow,hf,receiverAt,run_underlying hu,Place.get]
     try(cases d<;>first|exact absurd rfl (hd _)|rfl)
    ·cases h
theorem gQ{o:Oper}{ρ:Operand→AV}{H:AHeap}{R:AV→AHeap→Prop}{r:Operand}{m:String}{xs:Array Operand}{ts:Array TypeId}(ho:o.op=.call ⟨.invoke r m,xs,ts⟩)(h:ACall P (dG P m (ρ r)) (xs.toList.map ρ) H R):Does P o ρ H R:=by
 intro rr c a next Q hs hρ hk
 unfold dG at h
 split at h
 ·rename_i t x hx
  cases hm:nH P t m with
  |none=>rw[hm]at h;exact h.elim
  |some fid=>
   rw[hm]at h
   have hrf:=hρ r (by rw[ho];simp[Op.operands,Call.operands])
   rw[hx]at hrf
   generalize hev:a.eval r=vf at hrf
   cases hrf with
   |iface _ _ v hv=>
    obtain⟨hl3,hr3⟩:=nG (c:=c) (ρ:=ρ) (e:=a.eval) (xs:=xs) (fun x hx=>hρ x (by rw[ho];simp only[Op.operands,Call.operands,Array.toList_append,List.mem_append];exact .inr hx))
    have hext:(#[Value.iface t v]++xs.map a.eval).extract 1 (#[Value.iface t v]++xs.map a.eval).size=xs.map a.eval:=by
     apply Array.ext'
     simp[List.take_of_length_le]
    have h0:(#[Value.iface t v]++xs.map a.eval)[0]?=some (.iface t v):=by rw[Array.getElem?_append_left (by simp)];rfl
    have hdep:0<Made.depth:=by decide
    obtain⟨n,hn⟩:∃n,P.types.size+Made.depth=n+1:=⟨P.types.size+Made.depth-1,by omega⟩
    have hrun:(execOp a.eval o).run P c.w=(callFunc fid (#[v]++xs.map a.eval)).run P c.w:=by
     simp only[execOp,ho,resolve,hev,Sem.run_bind,Sem.run_pure,Result.andThen_ok,invoke,h0,callMethod,run_program,hn,aBE hm,hext]
    have hall:RepAll c ([x]++xs.toList.map ρ++[]) (#[v]++xs.map a.eval):=by
     refine⟨by simp[hl3];omega,fun i y u g1 g2=>?_⟩
     rw[List.append_nil]at g1
     cases i with
     |zero=>
      rw[Array.getElem?_append_left (by simp)]at g2
      cases g1
      cases g2
      exact hv
     |succ i=>
      rw[List.cons_append,List.nil_append,List.getElem?_cons_succ]at g1
      rw[Array.getElem?_append_right (by simp)]at g2
      exact hr3 i y u g1 (by simpa using g2)
    refine owp (uQ (by rw[ho];simp)) ?_
    rw[hrun]
    rcases h with⟨hok,h⟩|h
    ·rw[jC hok]
     refine⟨fun h=>(by cases h),callsIn_wide.2 ?_⟩
     refine(h c _ hs hall).mono fun e w' ⟨c',x,v,H',e1,e2,e3,e4,e5,e6⟩=>?_
     subst e1
     subst e2
     exact hk c' x v H' e3 e4 e5 e6
    ·obtain⟨v,x,e1,e2,e3⟩:=h c _ hs hall
     rw[e1]
     exact hk c x v H hs (Ext.refl c) e2 e3
 ·exact h.elim
theorem Does.mono{o:Oper}{ρ:Operand→AV}{H:AHeap}{R R':AV→AHeap→Prop}(h:Does P o ρ H R)(hr:∀x H',R x H'→R' x H'):Does P o ρ H R':=
 fun r c a next Q hs hρ hk=>h r c a next Q hs hρ fun c' x v H' h1 h2 h3 h4=>hk c' x v H' h1 h2 h3 (hr _ _ h4)
def jD:Value→Bool
 |.slice none 0 0=>true
 |_=>false
def kU:Operand→Bool
 |.const v=>jD v
 |_=>false
def fU:BinOp→Bool
 |.eql=>true
 |_=>false
def lA(P:Program)(t:TypeId):Bool:=
 match P.underlying t with
 |some (.slice _)=>true
 |_=>false
def aFi(P:Program)(t:TypeId)(H:AHeap)(x:AV)(K:AV→Prop):Prop:=
 match x with
 |.sl _ es=>lA P t=true∧∀b:Bool,(es≠[]→b=false)→K (.bool b)
 |.osl s i v off len lc=>lA P t=true∧tQ H (.osl s i v off len lc)∧∀b:Bool,(len≠0→b=false)→K (.bool b)
 |_=>False
theorem aDS{y:Operand}(h:kU y=true):y=.const (.slice none 0 0):=by
 unfold kU at h
 split at h
 ·rename_i v
  unfold jD at h
  split at h
  ·rfl
  ·cases h
 ·cases h
theorem aDT{t e:TypeId}(hu:P.underlying t=some (.slice e))(x:Operand)(base:Option Addr)(len cap:Nat)(w:World):
  (do eqGuard .eql t x (.const (.slice none 0 0)) (.slice base len cap) (.slice none 0 0);binOp .eql t (.slice base len cap) (.slice none 0 0):Sem Value).run P w=.ok (.bool base.isNone) w:=by
 have key:∀d,(Op.equalIn (d+1) t (.slice base len cap) (.slice none 0 0)).run P w=.ok base.isNone w:=fun d=>by
  cases base<;>simp[Op.equalIn,run_underlying hu]
 have key2:(Op.equal t (.slice base len cap) (.slice none 0 0)).run P w=.ok base.isNone w:=key 9999
 have hg:(eqGuard .eql t x (.const (.slice none 0 0)) (.slice base len cap) (.slice none 0 0)).run P w=.ok () w:=rfl
 simp only[Sem.run_bind,hg,Result.andThen_ok,binOp,key2,Sem.run_pure]
theorem aFj{o:Oper}{ρ:Operand→AV}{H:AHeap}{K:AV→Prop}{op:BinOp}{t t':TypeId}{x y:Operand}(ho:o.op=.binOp op t x y t')(hn:(fU op&&kU y)=true)(h:aFi P t H (ρ x) K):
  Does P o ρ H (fun v H'=>K v∧H'=H):=by
 intro r c a next Q hs hρ hk
 rw[Bool.and_eq_true]at hn
 have hop:op=.eql:=by cases op<;>first|rfl|exact absurd hn.1 (by decide)
 subst hop
 obtain rfl:=aDS hn.2
 have hx:=hρ x (by rw[ho];simp[Op.operands])
 have hsl:∀{e base len cap},P.underlying t=some (.slice e)→a.eval x=.slice base len cap→(execOp a.eval o).run P c.w=.ok (.value (.bool base.isNone)) c.w:=fun{e base len cap} hu he=>by
  have:=aDT hu x base len cap c.w
  simp only[execOp,ho,he]
  rw[show a.eval (.const (.slice none 0 0))=.slice none 0 0 from rfl,Sem.run_bind,this]
  rfl
 unfold aFi at h
 split at h
 ·rename_i f es hh
  obtain⟨h1,h2⟩:=h
  rw[hh]at hx
  have hu:∃e,P.underlying t=some (.slice e):=by
   unfold lA at h1
   split at h1
   ·rename_i e hu;exact⟨e,hu⟩
   ·cases h1
  obtain⟨e,hu⟩:=hu
  obtain⟨base,len,cap,s,vs,he,g1,g2,g3,g4, -⟩:=hx.sl_inv
  refine owp (uQ (by rw[ho];simp)) ?_
  rw[hsl hu he]
  refine hk c (.bool base.isNone) _ H hs (Ext.refl c) (.bool _) ⟨h2 _ fun hne=>?_,rfl⟩
  obtain⟨a',ha', -⟩:=g4 hne
  rw[ha'];rfl
 ·rename_i s i v off len lc hh
  obtain⟨h1,h3,h2⟩:=h
  rw[hh]at hx
  have hu:∃e,P.underlying t=some (.slice e):=by
   unfold lA at h1
   split at h1
   ·rename_i e hu;exact⟨e,hu⟩
   ·cases h1
  obtain⟨e,hu⟩:=hu
  obtain⟨base,cap,he,g1,g2,g3,g4⟩:=hx.osl_inv (aKJ (s:=s) (off:=off) (len:=len) (lc:=lc) hs h3)
  refine owp (uQ (by rw[ho];simp)) ?_
  rw[hsl hu he]
  refine hk c (.bool base.isNone) _ H hs (Ext.refl c) (.bool _) ⟨h2 _ fun hne=>?_,rfl⟩
  cases hd:c.vd i with
  |true=>have:=(g3 hd).1;omega
  |false=>
   have h5:=(g4 hd).1.resolve_left (by omega)
   rw[h5];rfl
 ·exact h.elim
def oH:AV→Bool
 |.bool b=>b
 |_=>false
def isB:AV→Bool
 |.bool _=>true
 |_=>false
theorem aFk{x:AV}(h:isB x=true):x=.bool (oH x):=by
 cases x<;>first|rfl|cases h
def aY(v:AV)(want:Bool):Bool:=
 match v with
 |.bool b=>bif want then b else !b
 |.opt g x=>g&&(bif want then oH x else !oH x)
 |_=>false
def mI(v:AV):Prop:=
 match v with
 |.bool _=>True
 |.opt g x=>g=true→isB x=true
 |_=>False
def aFl:AV→AV
 |.opt _ v=>v
 |v=>v
def aH2(g:Bool):AV→Prop
 |.opt g' _=>g=true→g'=true
 |_=>True
def aDU(all:List Oper)(j:Nat):Option Tmp:=(all[j]?).bind (·.dst)
def aG(α:AF):Option Tmp→AV
 |some t=>look α t
 |none=>.top
def xL:AV→Option (Bool×Bool)
 |.bool b=>some (true,b)
 |.opt g x=>some (g,oH x)
 |_=>none
def aAx:AV→Prop
 |.bool _=>True
 |.opt g x=>g=true→isB x=true
 |_=>False
def eC(g:Bool)(c a b:AV):BR:=
 match xL c,xL a,xL b with
 |some (gc,cb),some (ga,x),some (gb,y)=>⟨.bool (bif cb then x else y),(g=true→gc=true)∧(g=true→cb=true→ga=true)∧(g=true→cb=false→gb=true)∧aAx c∧aAx a∧aAx b⟩
 |_,_,_=>tP
theorem rH{c:Ctx}{x:AV}{v:Value}{g b:Bool}(h:xL x=some (g,b))(ht:aAx x)(hx:Rep c x v)(hg:g=true):v=.bool b:=by
 unfold xL at h
 split at h
 ·simp only[Option.some.injEq,Prod.mk.injEq]at h;rw[h.2]at hx;exact hx.bool_inv
 ·simp only[Option.some.injEq,Prod.mk.injEq]at h
  have h3:=aFk (ht (h.1.trans hg))
  cases hx with
  |opt _ _ _ h1=>
   have h2:=h1 (h.1.trans hg)
   rw[h3]at h2
   rw[←h.2]
   exact h2.bool_inv
 ·cases h
theorem iE{o:Oper}{ρ:Operand→AV}{H:AHeap}{x y z:Operand}{g:Bool}(ho:o.op=.pick x y z)(hg:g=true)(hs:(eC g (ρ x) (ρ y) (ρ z)).s):
  Does P o ρ H (fun v H'=>v=(eC g (ρ x) (ρ y) (ρ z)).v∧H'=H):=by
 refine bT (hd:=uQ (by rw[ho];simp))fun c a hst hρ=>?_
 have hx:=hρ x (by rw[ho];simp[Op.operands])
 have hy:=hρ y (by rw[ho];simp[Op.operands])
 have hz:=hρ z (by rw[ho];simp[Op.operands])
 have hrun:∀cb:Bool,a.eval x=.bool cb→(execOp a.eval o).run P c.w=.ok (.value (if cb then a.eval y else a.eval z)) c.w:=by
  intro cb h
  simp only[execOp,ho,h,asBool,Sem.run_bind,Sem.run_pure,Result.andThen_ok]
 generalize hcx:ρ x=cx at hx hs ⊢
 generalize hcy:ρ y=cy at hy hs ⊢
 generalize hcz:ρ z=cz at hz hs ⊢
 unfold eC at *
 split at hs
 ·rename_i gc cb ga b1 gb b2 e1 e2 e3
  refine⟨c,_,hrun cb (rH e1 hs.2.2.2.1 hx (hs.1 hg)),hst,Ext.refl c,?_⟩
  cases cb
  ·rw[if_neg (by simp),rH e3 hs.2.2.2.2.2 hz (hs.2.2.1 hg rfl)];exact .bool _
  ·rw[if_pos rfl,rH e2 hs.2.2.2.2.1 hy (hs.2.1 hg rfl)];exact .bool _
 ·exact hs.elim
end Go.Aw
/- The abstract machine: regions, in the order of the text and in whatever order; functions. No condition. -/
namespace Go.Aw
open Go
set_option linter.unusedSimpArgs false
variable {P:Program}
def bV:List Oper→Nat→Option Tmp
 |[],_=>none
 |o::_,0=>o.dst
 |_::os,n+1=>bV os n
theorem aMx(l:List Oper)(j:Nat):bV l j=(l[j]?).bind (·.dst):=by
 induction l generalizing j with
 |nil=>rfl
 |cons o os ih=>cases j with
  |zero=>rfl
  |succ n=>simpa[bV]using ih n
def cV(g:Bool)(α:AF):List Operand→Prop
 |[]=>True
 |x::xs=>aH2 g (ev α x)∧cV g α xs
def dU(α:AF)(x:Operand):AV:=aFl (ev α x)
def jE(P:Program)(g:Bool)(f:AV)(xs:List AV)(H:AHeap)(K:AV→Prop):Prop:=
 ∃v,(g=true→ACall P f xs H (fun v' H'=>v'=v∧H'=H))∧K v
def jF(P:Program)(f:AV)(xs:List AV)(H:AHeap)(K:AV→AHeap→Prop):Prop:=ACall P f xs H K
def xM(P:Program)(g:Bool)(f:AV)(xs:List AV)(H:AHeap)(K:AV→AHeap→Prop):Prop:=
 jE P g f xs H (fun v=>K v H)∨(g=true∧jF P f xs H K)
def fE(P:Program)(all:List Oper):List Oper→AF→AHeap→(AF→AHeap→Prop)→Prop
 |[],α,H,k=>k α H
 |⟨dst,op,_,_,_,guard⟩::os,α,H,k=>
  match guard,op with
  |none,.pick x y z=>(eC true (ev α x) (ev α y) (ev α z)).s∧fE P all os (bU dst (eC true (ev α x) (ev α y) (ev α z)).v α) H k
  |none,.call ⟨.value f,xs,_⟩=>jF P (ev α f) (xs.toList.map (ev α)) H (fun v H'=>fE P all os (bU dst v α) H' k)
  |none,.call ⟨.invoke r m,xs,_⟩=>jF P (dG P m (ev α r)) (xs.toList.map (ev α)) H (fun v H'=>fE P all os (bU dst v α) H' k)
  |none,.next it false=>aKM (ev α it) H (fun v H'=>fE P all os (bU dst v α) H' k)
  |none,.binOp op t x y t'=>bif fU op&&kU y then aFi P t H (ev α x) (fun v=>fE P all os (bU dst v α) H k)
    else(aP P (.binOp op t x y t') (ev α) H).s∧fE P all os (bU dst (aP P (.binOp op t x y t') (ev α) H).v α) (aP P (.binOp op t x y t') (ev α) H).H k
  |none,op=>(aP P op (ev α) H).s∧fE P all os (bU dst (aP P op (ev α) H).v α) (aP P op (ev α) H).H k
  |some (j,want),.pick x y z=>
   mI (aG α (bV all j))∧((aY (aG α (bV all j)) want)=true→(eC (aY (aG α (bV all j)) want) (ev α x) (ev α y) (ev α z)).s)∧
    fE P all os (bU dst (.opt (aY (aG α (bV all j)) want) (eC (aY (aG α (bV all j)) want) (ev α x) (ev α y) (ev α z)).v) α) H k
  |some (j,want),.call ⟨.value f,xs,_⟩=>
   mI (aG α (bV all j))∧cV (aY (aG α (bV all j)) want) α (f::xs.toList)∧
    xM P (aY (aG α (bV all j)) want) (dU α f) (xs.toList.map (dU α)) H (fun v H=>fE P all os (bU dst (.opt (aY (aG α (bV all j)) want) v) α) H k)
  |some (j,want),.call ⟨.invoke r m,xs,_⟩=>
   mI (aG α (bV all j))∧cV (aY (aG α (bV all j)) want) α (r::xs.toList)∧
    xM P (aY (aG α (bV all j)) want) (dG P m (dU α r)) (xs.toList.map (dU α)) H (fun v H=>fE P all os (bU dst (.opt (aY (aG α (bV all j)) want) v) α) H k)
  |some (j,want),op=>
   mI (aG α (bV all j))∧cV (aY (aG α (bV all j)) want) α op.operands.toList∧((aY (aG α (bV all j)) want)=true→(aP P op (dU α) H).s∧(aP P op (dU α) H).H=H)∧
    fE P all os (bU dst (.opt (aY (aG α (bV all j)) want) (aP P op (dU α) H).v) α) H k
def dK(P:Program)(all:List Oper)(H:AHeap):List Oper→AF→(AF→Prop)→Prop
 |[],α,k=>k α
 |⟨dst,op,_,_,_,guard⟩::os,α,k=>
  match guard,op with
  |none,.pick x y z=>(eC true (ev α x) (ev α y) (ev α z)).s∧dK P all H os (bU dst (eC true (ev α x) (ev α y) (ev α z)).v α) k
  |none,.call ⟨.value f,xs,_⟩=>jE P true (ev α f) (xs.toList.map (ev α)) H (fun v=>dK P all H os (bU dst v α) k)
  |none,.call ⟨.invoke r m,xs,_⟩=>jE P true (dG P m (ev α r)) (xs.toList.map (ev α)) H (fun v=>dK P all H os (bU dst v α) k)
  |none,op=>(aP P op (ev α) H).s∧(aP P op (ev α) H).H=H∧dK P all H os (bU dst (aP P op (ev α) H).v α) k
  |some (j,want),.pick x y z=>
   mI (aG α (bV all j))∧((aY (aG α (bV all j)) want)=true→(eC (aY (aG α (bV all j)) want) (ev α x) (ev α y) (ev α z)).s)∧
    dK P all H os (bU dst (.opt (aY (aG α (bV all j)) want) (eC (aY (aG α (bV all j)) want) (ev α x) (ev α y) (ev α z)).v) α) k
  |some (j,want),.call ⟨.value f,xs,_⟩=>
   mI (aG α (bV all j))∧cV (aY (aG α (bV all j)) want) α (f::xs.toList)∧
    jE P (aY (aG α (bV all j)) want) (dU α f) (xs.toList.map (dU α)) H (fun v=>dK P all H os (bU dst (.opt (aY (aG α (bV all j)) want) v) α) k)
  |some (j,want),.call ⟨.invoke r m,xs,_⟩=>
   mI (aG α (bV all j))∧cV (aY (aG α (bV all j)) want) α (r::xs.toList)∧
    jE P (aY (aG α (bV all j)) want) (dG P m (dU α r)) (xs.toList.map (dU α)) H (fun v=>dK P all H os (bU dst (.opt (aY (aG α (bV all j)) want) v) α) k)
  |some (j,want),op=>
   mI (aG α (bV all j))∧cV (aY (aG α (bV all j)) want) α op.operands.toList∧((aY (aG α (bV all j)) want)=true→(aP P op (dU α) H).s∧(aP P op (dU α) H).H=H)∧
    dK P all H os (bU dst (.opt (aY (aG α (bV all j)) want) (aP P op (dU α) H).v) α) k
def YG(P:Program)(N:Nat)(ops:Array Oper)(H:AHeap)(o:Oper)(α:AF)(R:AV→AHeap→Prop):Prop:=
 ∀(r:Option Nat) (c:Ctx) (a:Act) (next:Act→World→Prop) (Q:Exit→Act→World→Prop),St c H→a.tmps.size=N→(∀t∈o.looksAt ops,Rep c (look α t) (a.tmps.getD t undef))→
  (∀c' x v H',St c' H'→Ext c c'→Rep c' x v→R x H'→next (a.put o.dst v) c'.w)→
  if Region.wanted o (yielded ops a.tmps)then o.wpIn (wf r) 0 P a c.w next Q else next (a.put o.dst undef) c.w
theorem eD{c:Ctx}{α:AF}{a:Act}{x:Operand}(h:∀t,x=.tmp t→Rep c (look α t) (a.tmps.getD t undef)):Rep c (ev α x) (a.eval x):=by
 cases x with
 |tmp t=>exact h t rfl
 |const v=>exact sM c v
 |global g=>exact .top _
 |func f=>exact .func _ [] [] _ _ rfl rfl (by simp) (by simp)
theorem bC{ops:Array Oper}{o:Oper}{t:Nat}(h:Operand.tmp t∈o.op.operands.toList):t∈o.looksAt ops:=by
 unfold Oper.looksAt
 exact List.mem_append.2 (.inl (List.mem_filterMap.2 ⟨_,h,rfl⟩))
theorem YG.of_does{N:Nat}{ops:Array Oper}{H:AHeap}{o:Oper}{α:AF}{R:AV→AHeap→Prop}(hg:o.guard=none)(h:Does P o (ev α) H R):YG P N ops H o α R:=by
 intro r c a next Q hs hsz hl hk
 have hw:Region.wanted o (yielded ops a.tmps)=true:=by unfold Region.wanted;rw[hg]
 rw[if_pos hw]
 exact h r c a next Q hs (fun x hx=>eD fun t ht=>hl t (bC (by subst ht;exact hx))) hk
theorem mP{c:Ctx}{ops:Array Oper}{o:Oper}{α:AF}{a:Act}{j:Nat}{want:Bool}(hg:o.guard=some (j,want))(hl:∀t∈o.looksAt ops,Rep c (look α t) (a.tmps.getD t undef))
  (hok:mI (aG α (bV ops.toList j))):Region.wanted o (yielded ops a.tmps)=aY (aG α (bV ops.toList j)) want:=by
 have hn:bV ops.toList j=(ops[j]?).bind (·.dst):=by rw[aMx,Array.getElem?_toList]
 rw[hn]at hok ⊢
 unfold Region.wanted
 rw[hg]
 simp only
 unfold yielded
 cases hd:(ops[j]?).bind (·.dst)with
 |none=>rw[hd]at hok;exact hok.elim
 |some t=>
  rw[hd]at hok
  simp only[aG]at hok ⊢
  have hr:=hl t (by
   unfold Oper.looksAt
   refine List.mem_append.2 (.inr ?_)
   rw[hg]
   simp only
   rw[hd]
   simp)
  have key:∀b:Bool,a.tmps.getD t undef=.bool b→a.tmps[t]?=some (.bool b):=by
   intro b hb
   rw[Array.getD_eq_getD_getElem?]at hb
   cases ht:a.tmps[t]? with
   |none=>rw[ht]at hb;simp[undef]at hb
   |some v=>rw[ht]at hb;simpa using hb
  generalize look α t=sv at hr hok ⊢
  unfold mI at hok
  split at hok
  ·rename_i b
   have h1:=key b hr.bool_inv
   simp only[Option.bind_some,h1,aY]
   cases b<;>cases want<;>rfl
  ·rename_i g x
   cases hr with
   |opt _ _ _ h1 h2=>
    cases g with
    |true=>
     have h4:=h1 rfl
     rw[aFk (hok rfl)]at h4
     have h3:=key (oH x) h4.bool_inv
     simp only[Option.bind_some,h3,aY]
     generalize oH x=b
     cases b<;>cases want<;>rfl
    |false=>
     have h3:=h2 rfl
     rw[Array.getD_eq_getD_getElem?]at h3
     simp only[Option.bind_some,aY,Bool.false_and]
     cases ht:a.tmps[t]? with
     |none=>simp
     |some v=>
      rw[ht]at h3
      simp at h3
      subst h3
      simp[undef]
  ·exact hok.elim
theorem cX{g:Bool}{α:AF}:∀{xs:List Operand},cV g α xs→∀x∈xs,aH2 g (ev α x)
 |[],_,_,hx=>by cases hx
 |y::ys,h,x,hx=>by
  cases hx with
  |head=>exact h.1
  |tail _ hm=>exact cX h.2 x hm
theorem dV{c:Ctx}{g:Bool}{x:AV}{v:Value}(h:Rep c x v)(ho:aH2 g x)(hg:g=true):Rep c (aFl x) v:=by
 cases x with
 |opt g' y=>
  cases h with
  |opt _ _ _ h1=>exact h1 (ho hg)
 |_=>exact h
theorem YG.of_guard{N:Nat}{ops:Array Oper}{H:AHeap}{o:Oper}{α:AF}{v:AV}{j:Nat}{want:Bool}(hg:o.guard=some (j,want))(hok:mI (aG α (bV ops.toList j)))
  (ρ:Operand→AV) (hρ:∀(c:Ctx) (a:Act),aY (aG α (bV ops.toList j)) want=true→(∀t∈o.looksAt ops,Rep c (look α t) (a.tmps.getD t undef))→∀x∈o.op.operands.toList,Rep c (ρ x) (a.eval x))
  (h:aY (aG α (bV ops.toList j)) want=true→Does P o ρ H (fun v' H'=>v'=v∧H'=H)):YG P N ops H o α (fun v' H'=>v'=.opt (aY (aG α (bV ops.toList j)) want) v∧H'=H):=by
 intro r c a next Q hs hsz hl hk
 rw[mP hg hl hok]
 cases hgv:aY (aG α (bV ops.toList j)) want with
 |true=>
  simp only[if_true]
  rw[hgv]at hk
  refine h hgv r c a next Q hs (hρ c a hgv hl)fun c' x v' H' h1 h2 h3 h4=>?_
  obtain⟨rfl,rfl⟩:=h4
  exact hk c' _ v' _ h1 h2 (.opt _ _ _ (fun _=>h3) (fun h=>by cases h)) ⟨rfl,rfl⟩
 |false=>
  simp only[Bool.false_eq_true,if_false]
  rw[hgv]at hk
  exact hk c _ undef H hs (Ext.refl c) (.opt _ _ _ (fun h=>by cases h) (fun _=>rfl)) ⟨rfl,rfl⟩
theorem YG.of_on{N:Nat}{ops:Array Oper}{H:AHeap}{o:Oper}{α:AF}{K:AV→AHeap→Prop}{j:Nat}{want:Bool}(hg:o.guard=some (j,want))(hok:mI (aG α (bV ops.toList j)))(hv:aY (aG α (bV ops.toList j)) want=true)
  (ρ:Operand→AV) (hρ:∀(c:Ctx) (a:Act),aY (aG α (bV ops.toList j)) want=true→(∀t∈o.looksAt ops,Rep c (look α t) (a.tmps.getD t undef))→∀x∈o.op.operands.toList,Rep c (ρ x) (a.eval x))
  (h:Does P o ρ H (fun v' H'=>K (.opt true v') H')):YG P N ops H o α K:=by
 intro r c a next Q hs hsz hl hk
 rw[mP hg hl hok,hv]
 simp only[if_true]
 exact h r c a next Q hs (hρ c a hv hl)fun c' x v' H' h1 h2 h3 h4=>hk c' _ v' H' h1 h2 (.opt _ _ _ (fun _=>h3) (fun h=>by cases h)) h4
theorem YG.mono{N:Nat}{ops:Array Oper}{H:AHeap}{o:Oper}{α:AF}{R R':AV→AHeap→Prop}(h:YG P N ops H o α R)(hr:∀x H',R x H'→R' x H'):YG P N ops H o α R':=
 fun r c a next Q h1 h2 h3 hk=>h r c a next Q h1 h2 h3 fun c' x v H' k1 k2 k3 k4=>hk c' x v H' k1 k2 k3 (hr _ _ k4)
theorem aDV{N:Nat}{ops:Array Oper}{o:Oper}{os:List Oper}{α:AF}{H:AHeap}{k:AF→AHeap→Prop}(h:fE P ops.toList (o::os) α H k):
  YG P N ops H o α (fun v H'=>fE P ops.toList os (bU o.dst v α) H' k):=by
 obtain⟨dst,op,ty,pos,after,guard⟩:=o
 have hpure:∀(op:Op) (hop:op.operands=op.operands) (ρ:Operand→AV),True:=fun _ _ _=>trivial
 unfold fE at h
 split at h
 ·rename_i x y z
  exact(YG.of_does rfl ((iE (o:=⟨dst,.pick x y z,ty,pos,after,none⟩) (ρ:=ev α) (H:=H) rfl rfl h.1))).mono fun v H' ⟨e1,e2⟩=>by subst e1;subst e2;exact h.2
 ·rename_i f xs ts
  exact YG.of_does rfl (fM rfl h)
 ·rename_i f m xs ts
  exact YG.of_does rfl (gQ rfl h)
 ·rename_i it
  exact YG.of_does rfl (aDR rfl h)
 ·rename_i op t x y t'
  cases hn:fU op&&kU y with
  |true=>
   rw[hn,cond_true]at h
   exact(YG.of_does rfl (aFj (o:=⟨dst,.binOp op t x y t',ty,pos,after,none⟩) rfl hn h)).mono fun v H' ⟨e1,e2⟩=>by subst e2;exact e1
  |false=>
   rw[hn,cond_false]at h
   exact(YG.of_does rfl (dX (o:=⟨dst,.binOp op t x y t',ty,pos,after,none⟩) h.1)).mono fun v H' ⟨e1,e2⟩=>by subst e1;subst e2;exact h.2
 ·rename_i op' _ _
  exact(YG.of_does rfl (dX (o:=⟨dst,op,ty,pos,after,none⟩) h.1)).mono fun v H' ⟨e1,e2⟩=>by subst e1;subst e2;exact h.2
 ·rename_i j want x y z
  obtain⟨h1,h2,h3⟩:=h
  exact(YG.of_guard (o:=⟨dst,.pick x y z,ty,pos,after,some (j,want)⟩) rfl h1 (ev α) (fun c a _ hl x hx=>eD fun t ht=>hl t (bC (by subst ht;exact hx)))
   (fun hg=>iE (g:=aY (aG α (bV ops.toList j)) want) rfl hg (h2 hg))).mono fun v H' ⟨e1,e2⟩=>by subst e1;subst e2;exact h3
 ·rename_i j want f xs ts
  obtain⟨h1,h2,⟨v,h3,h4⟩|⟨hv,h⟩⟩:=h
  rotate_left
  ·refine YG.of_on (o:=⟨dst,.call ⟨.value f,xs,ts⟩,ty,pos,after,some (j,want)⟩) rfl h1 hv (dU α) (fun c a hg hl x hx=>dV (eD fun t ht=>hl t (bC (by subst ht;exact hx))) (cX h2 x (by simpa[Op.operands,Call.operands]using hx)) hg) ?_
   rw[hv]at h
   exact fM rfl h
  refine(YG.of_guard (o:=⟨dst,.call ⟨.value f,xs,ts⟩,ty,pos,after,some (j,want)⟩) rfl h1 (dU α) (fun c a hg hl x hx=>dV (eD fun t ht=>hl t (bC (by subst ht;exact hx))) (cX h2 x (by simpa[Op.operands,Call.operands]using hx)) hg)
   (fun hg=>fM rfl (h3 hg))).mono fun v H' ⟨e1,e2⟩=>by subst e1;subst e2;exact h4
 ·rename_i j want f m xs ts
  obtain⟨h1,h2,⟨v,h3,h4⟩|⟨hv,h⟩⟩:=h
  rotate_left
  ·refine YG.of_on (o:=⟨dst,.call ⟨.invoke f m,xs,ts⟩,ty,pos,after,some (j,want)⟩) rfl h1 hv (dU α) (fun c a hg hl x hx=>dV (eD fun t ht=>hl t (bC (by subst ht;exact hx))) (cX h2 x (by simpa[Op.operands,Call.operands]using hx)) hg) ?_
   rw[hv]at h
   exact gQ rfl h
  refine(YG.of_guard (o:=⟨dst,.call ⟨.invoke f m,xs,ts⟩,ty,pos,after,some (j,want)⟩) rfl h1 (dU α) (fun c a hg hl x hx=>dV (eD fun t ht=>hl t (bC (by subst ht;exact hx))) (cX h2 x (by simpa[Op.operands,Call.operands]using hx)) hg)
   (fun hg=>gQ rfl (h3 hg))).mono fun v H' ⟨e1,e2⟩=>by subst e1;subst e2;exact h4
 ·obtain⟨h1,h2,h3,h4⟩:=h
  refine YG.mono (YG.of_guard (v:=(aP P op (dU α) H).v) rfl h1 (dU α) (fun c a hg hl x hx=>dV (eD fun t ht=>hl t (bC (by subst ht;exact hx))) (cX h2 x hx) hg)
   (fun hg=>(dX (h3 hg).1).mono fun v H' ⟨e1,e2⟩=>⟨e1,e2.trans (h3 hg).2⟩))fun v H' ⟨e1,e2⟩=>by subst e1;subst e2;exact h4
theorem aBF{N:Nat}{ops:Array Oper}{o:Oper}{os:List Oper}{α:AF}{H:AHeap}{k:AF→Prop}(h:dK P ops.toList H (o::os) α k):
  ∃v,YG P N ops H o α (fun v' H'=>v'=v∧H'=H)∧dK P ops.toList H os (bU o.dst v α) k:=by
 obtain⟨dst,op,ty,pos,after,guard⟩:=o
 unfold dK at h
 split at h
 ·rename_i x y z
  exact⟨_,YG.of_does rfl (iE (o:=⟨dst,.pick x y z,ty,pos,after,none⟩) (ρ:=ev α) (H:=H) rfl rfl h.1),h.2⟩
 ·rename_i f xs ts
  obtain⟨v,h1,h2⟩:=h
  exact⟨v,YG.of_does rfl (fM rfl (h1 rfl)),h2⟩
 ·rename_i f m xs ts
  obtain⟨v,h1,h2⟩:=h
  exact⟨v,YG.of_does rfl (gQ rfl (h1 rfl)),h2⟩
 ·exact⟨_,(YG.of_does rfl (dX h.1)).mono fun v H' ⟨e1,e2⟩=>⟨e1,e2.trans h.2.1⟩,h.2.2⟩
 ·rename_i j want x y z
  obtain⟨h1,h2,h3⟩:=h
  exact⟨_,YG.of_guard (o:=⟨dst,.pick x y z,ty,pos,after,some (j,want)⟩) rfl h1 (ev α) (fun c a _ hl x hx=>eD fun t ht=>hl t (bC (by subst ht;exact hx)))
   (fun hg=>iE (g:=aY (aG α (bV ops.toList j)) want) rfl hg (h2 hg)),h3⟩
 ·rename_i j want f xs ts
  obtain⟨h1,h2,v,h3,h4⟩:=h
  exact⟨_,YG.of_guard (o:=⟨dst,.call ⟨.value f,xs,ts⟩,ty,pos,after,some (j,want)⟩) rfl h1 (dU α) (fun c a hg hl x hx=>dV (eD fun t ht=>hl t (bC (by subst ht;exact hx))) (cX h2 x (by simpa[Op.operands,Call.operands]using hx)) hg)
   (fun hg=>fM rfl (h3 hg)),h4⟩
 ·rename_i j want f m xs ts
  obtain⟨h1,h2,v,h3,h4⟩:=h
  exact⟨_,YG.of_guard (o:=⟨dst,.call ⟨.invoke f m,xs,ts⟩,ty,pos,after,some (j,want)⟩) rfl h1 (dU α) (fun c a hg hl x hx=>dV (eD fun t ht=>hl t (bC (by subst ht;exact hx))) (cX h2 x (by simpa[Op.operands,Call.operands]using hx)) hg)
   (fun hg=>gQ rfl (h3 hg)),h4⟩
 ·obtain⟨h1,h2,h3,h4⟩:=h
  exact⟨_,YG.of_guard (v:=(aP P op (dU α) H).v) rfl h1 (dU α) (fun c a hg hl x hx=>dV (eD fun t ht=>hl t (bC (by subst ht;exact hx))) (cX h2 x hx) hg)
   (fun hg=>(dX (h3 hg).1).mono fun v H' ⟨e1,e2⟩=>⟨e1,e2.trans (h3 hg).2⟩),h4⟩
def oI(N:Nat)(ops:Array Oper):Bool:=ops.toList.all fun o=>xJ N o.dst
abbrev aAy(N:Nat)(c:Ctx)(Q:bL):Exit→Act→World→Prop:=fun e a' w'=>∃c' α' H',c'.w=w'∧St c' H'∧Ext c c'∧ARep c' N α' a'∧Q e α' H'
theorem nW{r:Option Nat}{N:Nat}{ops:Array Oper}{Q:bL}(hd:oI N ops=true)(c₀:Ctx):∀(os:List Oper) (k:Nat) (α:AF) (H:AHeap) (c:Ctx) (a:Act),(∀i,os[i]?=ops[k+i]?)→St c H→Ext c₀ c→ARep c N α a→
  fE P ops.toList os α H (fun α' H'=>Q .normal α' H')→wpOpsIn (wf r) 0 P ops (aAy N c₀ Q) (List.range' k os.length) a c.w
 |[],k,α,H,c,a,_,hs,hx,ha,h=>⟨c,α,H,rfl,hs,hx,ha,h⟩
 |o::os,k,α,H,c,a,hos,hs,hx,ha,h=>by
  have h0:ops[k]?=some o:=by simpa using(hos 0).symm
  have hdo:xJ N o.dst=true:=List.all_eq_true.1 hd o (by rw[Array.mem_toList_iff];exact Array.mem_of_getElem? h0)
  simp only[List.length_cons,List.range'_succ,wpOpsIn,h0]
  have hy:=aDV (N:=N) h r c a (wpOpsIn (wf r) 0 P ops (aAy N c₀ Q) (List.range' (k+1) os.length)) (aAy N c₀ Q) hs ha.size (fun t _=>ha.rep t)fun c' x v H' h1 h2 h3 h4=>
   nW hd c₀ os (k+1) _ H' c' _ (fun i=>by have:=hos (i+1);simpa[Nat.add_assoc,Nat.add_comm 1 i]using this) h1 (hx.trans h2) ((ha.mono h2).put hdo h3) h4
  by_cases hw:Region.wanted o (yielded ops a.tmps)=true
  ·rw[if_pos hw]at hy ⊢
   exact hy
  ·rw[if_neg hw]at hy ⊢
   exact⟨fun _ _=>trivial,hy⟩
theorem lB{N id:Nat}{ops:Array Oper}{Q:bL}{α:AF}{H:AHeap}(hd:oI N ops=true)(h:fE P ops.toList ops.toList α H (fun α' H'=>Q .normal α' H')):aw P N (.region id ops false) Q α H:=by
 intro r c a _ hs ha
 refine wpIn_region ?_
 have:=nW (P:=P) (r:=r) hd c ops.toList 0 α H c a (by simp) hs (Ext.refl c) ha h
 rw[List.range_eq_range']
 rw[Array.length_toList]at this
 exact this
section draw
variable {N:Nat} {ops:Array Oper} {H:AHeap}
def qA(P:Program)(N:Nat)(ops:Array Oper)(H:AHeap)(i:Nat)(K:AF→Prop)(α:AF):Prop:=
 match ops[i]? with
 |none=>K α
 |some o=>∃v,YG P N ops H o α (fun v' H'=>v'=v∧H'=H)∧K (bU o.dst v α)
def aBG(P:Program)(N:Nat)(ops:Array Oper)(H:AHeap)(K:AF→Prop):Nat→Array Bool→AF→Prop
 |0,listed,α=>Region.ready .any ops listed=[]∧K α
 |fuel+1,listed,α=>(Region.ready .any ops listed=[]→K α)∧∀i∈Region.ready .any ops listed,qA P N ops H i (aBG P N ops H K fuel (listed.setIfInBounds i true)) α
def Alike(α β:AF):Prop:=∀t,look α t=look β t
theorem Alike.put{α β:AF}(h:Alike α β)(d:Option Tmp)(v:AV):Alike (bU d v α) (bU d v β):=by
 cases d with
 |none=>exact h
 |some d=>intro t;simp only[bU,look];cases d==t<;>simp[h t]
theorem YG.alike{o:Oper}{α β:AF}{R:AV→AHeap→Prop}(hab:Alike α β)(h:YG P N ops H o α R):YG P N ops H o β R:=
 fun r c a next Q h1 h2 h3 hk=>h r c a next Q h1 h2 (fun t ht=>by rw[hab t];exact h3 t ht) hk
theorem oJ{K:AF→Prop}(hK:∀α β,Alike α β→K α→K β):∀(n:Nat) (listed:Array Bool) (α β:AF),Alike α β→aBG P N ops H K n listed α→aBG P N ops H K n listed β
 |0,_,_,_,hab,h=>⟨h.1,hK _ _ hab h.2⟩
 |n+1,listed,α,β,hab,h=>by
  refine⟨fun h0=>hK _ _ hab (h.1 h0),fun i hi=>?_⟩
  have:=h.2 i hi
  unfold qA at this ⊢
  split
  ·rename_i ho;simp only[ho]at this;exact oJ hK n _ _ _ hab this
  ·rename_i o ho
   simp only[ho]at this
   obtain⟨v,h1,h2⟩:=this
   exact⟨v,h1.alike hab,oJ hK n _ _ _ (hab.put _ _) h2⟩
theorem kV{r:Option Nat}{Q:Exit→Act→World→Prop}{K:AF→Prop}(hd:oI N ops=true)(c₀:Ctx)(hK:∀α c a,K α→St c H→Ext c₀ c→ARep c N α a→Q .normal a c.w):
  ∀(n:Nat) (listed:Array Bool) (α:AF) (c:Ctx) (a:Act),St c H→Ext c₀ c→ARep c N α a→aBG P N ops H K n listed α→wpAnyIn (wf r) 0 P .any ops Q n listed a c.w
 |0,_,_,_,_,hs,hx,ha,h=>⟨h.1,hK _ _ _ h.2 hs hx ha⟩
 |n+1,listed,α,c,a,hs,hx,ha,h=>by
  refine⟨fun h0=>hK _ _ _ (h.1 h0) hs hx ha,fun i hi=>?_⟩
  have h1:=h.2 i hi
  unfold qA at h1
  unfold wpOpIn
  split
  ·rename_i ho;simp only[ho]at h1;exact kV hd c₀ hK n _ _ _ _ hs hx ha h1
  ·rename_i o ho
   simp only[ho]at h1
   obtain⟨v,hy,hk⟩:=h1
   have hdo:xJ N o.dst=true:=List.all_eq_true.1 hd o (by rw[Array.mem_toList_iff];exact Array.mem_of_getElem? ho)
   have:=hy r c a (wpAnyIn (wf r) 0 P .any ops Q n (listed.setIfInBounds i true)) Q hs ha.size (fun t _=>ha.rep t)fun c' x v' H' g1 g2 g3 g4=>by
    obtain⟨e1,e2⟩:=g4
    rw[e2]at g1
    rw[e1]at g3
    exact kV hd c₀ hK n _ _ _ _ g1 (hx.trans g2) ((ha.mono g2).put hdo g3) hk
   by_cases hw:Region.wanted o (yielded ops a.tmps)=true
   ·rw[if_pos hw]at this ⊢;exact this
   ·rw[if_neg hw]at this ⊢;exact⟨fun _ _=>trivial,this⟩
theorem kF{α:AF}{d:Option Tmp}{v:AV}{t:Nat}(h:∀x,d=some x→x≠t):look (bU d v α) t=look α t:=by
 cases d with
 |none=>rfl
 |some d=>have hb:(d==t)=false:=by simpa using h d rfl
          simp[bU,look,hb]
theorem YG.put_apart{oi oj:Oper}{α:AF}{v u:AV}(h:YG P N ops H oi α (fun v' H'=>v'=v∧H'=H))(hap:∀d,oj.dst=some d→d∉oi.looksAt ops):YG P N ops H oi (bU oj.dst u α) (fun v' H'=>v'=v∧H'=H):=
 fun r c a next Q h1 h2 h3 hk=>h r c a next Q h1 h2 (fun t ht=>by
  have:=h3 t ht
  rwa[kF fun x hx e=>hap x hx (e▸ht)]at this) hk
theorem YG.unput_apart{oi oj:Oper}{α:AF}{v u:AV}(h:YG P N ops H oi (bU oj.dst u α) (fun v' H'=>v'=v∧H'=H))(hap:∀d,oj.dst=some d→d∉oi.looksAt ops):YG P N ops H oi α (fun v' H'=>v'=v∧H'=H):=
 fun r c a next Q h1 h2 h3 hk=>h r c a next Q h1 h2 (fun t ht=>by
  rw[kF fun x hx e=>hap x hx (e▸ht)]
  exact h3 t ht) hk
theorem gZ{α:AF}{x y:Option Tmp}{v u:AV}(h:∀d,x=some d→y≠some d):Alike (bU y u (bU x v α)) (bU x v (bU y u α)):=by
 intro t
 cases x with
 |none=>rfl
 |some d=>cases y with
  |none=>rfl
  |some e=>
   have hne:d≠e:=fun h'=>h d rfl (by rw[h'])
   simp only[bU,look]
   by_cases h1:d=t
   ·subst h1
    have hb:(e==d)=false:=by simpa using Ne.symm hne
    simp[hb]
   ·have hb:(d==t)=false:=by simpa using h1
    simp only[hb,cond_false]
theorem aBH{K:AF→Prop}(hK:∀α β,Alike α β→K α→K β){i:Nat}{oi:Oper}{v:AV}(hi:ops[i]?=some oi):
  ∀(fuel:Nat) (listed:Array Bool) (α:AF),
   (∀j oj,ops[j]?=some oj→j≠i→listed.getD j true=false→(∀e∈oj.after,Region.binds .any e=true→e.on≠i)→oi.apart ops oj=true)→
   i∈Region.ready .any ops listed→YG P N ops H oi α (fun v' H'=>v'=v∧H'=H)→
   aBG P N ops H K fuel (listed.setIfInBounds i true) (bU oi.dst v α)→aBG P N ops H K (fuel+1) listed α:=by
 have qi:∀(K:AF→Prop) (α:AF),YG P N ops H oi α (fun v' H'=>v'=v∧H'=H)→K (bU oi.dst v α)→qA P N ops H i K α:=by
  intro K α hy hk
  unfold qA
  simp only[hi]
  exact⟨v,hy,hk⟩
 intro fuel
 induction fuel with
 |zero=>
  intro listed α _ hr hy hh
  refine⟨fun h=>(by rw[h]at hr;cases hr),fun j hj=>?_⟩
  by_cases hji:j=i
  ·subst hji;exact qi _ _ hy hh
  ·have:=ready_mono hj hji
   rw[hh.1]at this
   cases this
 |succ fuel ih=>
  intro listed α hfree hr hy hh
  refine⟨fun h=>(by rw[h]at hr;cases hr),fun j hj=>?_⟩
  by_cases hji:j=i
  ·subst hji;exact qi _ _ hy hh
  ·have h1:=hh.2 j (ready_mono hj hji)
   obtain⟨hjun,oj,hoj,hall⟩:=mem_ready.1 hj
   have hnot:∀e∈oj.after,Region.binds .any e=true→e.on≠i:=fun e he hb heq=>by
    have h1:=hall e he hb
    have h0:=(mem_ready.1 hr).1
    rw[heq]at h1
    rcases Nat.lt_or_ge i listed.size with h'|h'
    ·simp[h']at h0 h1;rw[h0]at h1;cases h1
    ·simp[Array.getElem?_eq_none h']at h1
   obtain⟨p1,p2,p3⟩:=Oper.apart_spec (hfree j oj hoj hji hjun hnot)
   unfold qA at h1 ⊢
   simp only[hoj]at h1 ⊢
   obtain⟨u,hyj,hkj⟩:=h1
   refine⟨u,hyj.unput_apart p1,?_⟩
   have hfree':∀k ok,ops[k]?=some ok→k≠i→(listed.setIfInBounds j true).getD k true=false→
     (∀e∈ok.after,Region.binds .any e=true→e.on≠i)→oi.apart ops ok=true:=fun k ok hk hki hun hno=>by
    refine hfree k ok hk hki ?_ hno
    by_cases hjk:j=k
    ·subst hjk;exact hjun
    ·rw[getD_set_ne true hjk]at hun;exact hun
   refine ih (listed.setIfInBounds j true) _ hfree' (ready_mono hr (Ne.symm hji)) (hy.put_apart p3) ?_
   rw[Array.setIfInBounds_comm _ _ hji]
   exact oJ hK _ _ _ _ (gZ p2) hkj
theorem aAz{K:AF→Prop}(hK:∀α β,Alike α β→K α→K β):∀(l:List Oper) (k:Nat) (listed:Array Bool) (α:AF),(∀j,l[j]?=ops[k+j]?)→
  Region.lexFrom .any ops l.length k listed=true→dK P ops.toList H l α K→aBG P N ops H K l.length listed α
 |[],_,_,_,_,hB,h=>⟨by simpa[Region.lexFrom]using hB,h⟩
 |o::l,k,listed,α,hl,hB,h=>by
  have h0:ops[k]?=some o:=by simpa using(hl 0).symm
  simp only[List.length_cons,Region.lexFrom,Bool.and_eq_true]at hB
  obtain⟨⟨hr,hf⟩,hB'⟩:=hB
  obtain⟨v,hy,hk⟩:=aBF (N:=N) h
  exact aBH hK h0 l.length listed α (Region.free_spec h0 hf) (by simpa using hr) hy
   (aAz hK l (k+1) _ _ (fun j=>by have:=hl (j+1);simpa[Nat.add_assoc,Nat.add_comm 1 j]using this) hB' hk)
end draw
theorem eL{all:List Oper}{H:AHeap}{k k':AF→Prop}(hk:∀α,k α→k' α):∀(l:List Oper) (α:AF),dK P all H l α k→dK P all H l α k'
 |[],α,h=>hk α h
 |⟨dst,op,ty,pos,after,guard⟩::os,α,h=>by
  unfold dK at h ⊢
  split at h
  ·exact⟨h.1,eL hk os _ h.2⟩
  ·obtain⟨v,h1,h2⟩:=h
   exact⟨v,h1,eL hk os _ h2⟩
  ·obtain⟨v,h1,h2⟩:=h
   exact⟨v,h1,eL hk os _ h2⟩
  ·exact⟨h.1,h.2.1,eL hk os _ h.2.2⟩
  ·exact⟨h.1,h.2.1,eL hk os _ h.2.2⟩
  ·obtain⟨h1,h2,v,h3,h4⟩:=h
   exact⟨h1,h2,v,h3,eL hk os _ h4⟩
  ·obtain⟨h1,h2,v,h3,h4⟩:=h
   exact⟨h1,h2,v,h3,eL hk os _ h4⟩
  ·exact⟨h.1,h.2.1,h.2.2.1,eL hk os _ h.2.2.2⟩
theorem uR{N id:Nat}{ops:Array Oper}{Q:bL}{α:AF}{H:AHeap}(hm:P.follows .mixedOrders=true)(hd:oI N ops=true)(hB:Region.lexB .any ops=true)
  (h:dK P ops.toList H ops.toList α (fun α'=>Q .normal α' H)):aw P N (.region id ops true) Q α H:=by
 intro r c a _ hs ha
 simp only[Region.lexB,Bool.and_eq_true]at hB
 refine wpIn_region_any hm ?_
 have h1:dK P ops.toList H ops.toList α (fun α'=>∃β,Alike α' β∧Q .normal β H):=eL (fun α' hq=>⟨α',fun _=>rfl,hq⟩) _ _ h
 have h2:=aAz (P:=P) (N:=N) (ops:=ops) (H:=H) (K:=fun α'=>∃β,Alike α' β∧Q .normal β H) (fun α β hab ⟨γ,hg,hq⟩=>⟨γ,fun t=>(hab t).symm.trans (hg t),hq⟩)
  ops.toList 0 (Array.replicate ops.size false) α (by simp) (by simpa using hB.2) h1
 have h3:=kV (r:=r) (P:=P) (Q:=aAy N c Q) hd c (fun α' c' a' ⟨β,hab,hq⟩ hs' hx' ha'=>⟨c',β,H,rfl,hs',hx',ha'.weaken fun t=>.inr (hab t).symm,hq⟩)
  ops.toList.length (Array.replicate ops.size false) α c.draw a hs.draw (Ext.draw c) (ha.mono (Ext.draw c)) h2
 rw[Array.length_toList]at h3
 exact h3
end Go.Aw
/- The abstract machine: a function from its entry to its return; what is left behind is dropped, and what was made becomes fixed. No condition. -/
namespace Go.Aw
open Go
set_option linter.unusedSimpArgs false
variable {P:Program}
def fW:Nat→List AV→AF
 |_,[]=>[]
 |k,x::xs=>(k,x)::fW (k+1) xs
theorem zD(xs:List AV)(k t:Nat):look (fW k xs) t=if k≤t then xs.getD (t-k) .top else .top:=by
 induction xs generalizing k with
 |nil=>simp[fW,look]
 |cons x xs ih=>
  simp only[fW,look]
  by_cases h:k=t
  ·subst h;simp
  ·have hb:(k==t)=false:=by simpa using h
   rw[hb,cond_false,ih]
   by_cases h1:k≤t
   ·have h2:k+1≤t:=by omega
    have h3:t-k=(t-(k+1))+1:=by omega
    rw[if_pos h2,if_pos h1,h3,List.getD_cons_succ]
   ·rw[if_neg h1,if_neg (by omega)]
def uS(P:Program)(α:AF)(H:AHeap):ResultVar→BR
 |.tmp t=>⟨look α t,True⟩
 |.cell a t=>sQ P t (look α a) H
def lL(P:Program)(α:AF)(H:AHeap):List ResultVar→Prop
 |[]=>True
 |r::rs=>(uS P α H r).s∧lL P α H rs
def aBI:List AV→AV
 |[v]=>v
 |vs=>.tup vs
def aAA(P:Program)(rs:List ResultVar)(R:AV→AHeap→Prop):bL
 |.normal,α,H=>lL P α H rs∧R (aBI (rs.map fun r=>(uS P α H r).v)) H
 |.ret,α,H=>lL P α H rs∧R (aBI (rs.map fun r=>(uS P α H r).v)) H
 |_,_,_=>False
theorem aDW{c:Ctx}{H:AHeap}{t:TypeId}{x:AV}{vx:Value}(hst:St c H)(hx:Rep c x vx)(hs:(sQ P t x H).s):∃a,vx=.pointer (some a):=by
 unfold sQ at hs
 split at hs
 ·exact hx.cptr_inv
 ·rename_i i v off
  split at hs
  ·rename_i ver cs hh
   obtain⟨a,ha, -⟩:=aAr hx (by rw[hs.1];exact hst.ver_eq hh) 0
   exact⟨a,ha⟩
  ·exact hs.elim
 ·exact hs.elim
def aCZ(a:Act):ResultVar→Sem Value
 |.tmp t=>pure (a.tmps.getD t undef)
 |.cell b t=>do loadVar t (←asAddr (a.tmps.getD b undef))
theorem aDX{c:Ctx}{H:AHeap}{α:AF}{a:Act}(hs:St c H)(ha:∀t,Rep c (look α t) (a.tmps.getD t undef))(r:ResultVar)(h:(uS P α H r).s):∃v,(aCZ a r).run P c.w=.ok v c.w∧Rep c (uS P α H r).v v:=by
 cases r with
 |tmp t=>exact⟨_,rfl,ha t⟩
 |cell b t=>
  have hb:=ha b
  obtain⟨ad,had⟩:=aDW (P:=P) hs hb h
  obtain⟨v,g1,g2⟩:=sR (P:=P) hs hb h
  rw[had]at g1
  refine⟨v,?_,g2⟩
  simp only[aCZ,had,asAddr,Sem.run_bind,Sem.run_pure,Result.andThen_ok]
  simpa[Instr.loadAt,Instr.sureAddr]using g1
theorem uT{c:Ctx}{H:AHeap}{α:AF}{a:Act}(hs:St c H)(ha:∀t,Rep c (look α t) (a.tmps.getD t undef)):∀rs:List ResultVar,lL P α H rs→∃vs:List Value,(rs.mapM (aCZ a)).run P c.w=.ok vs c.w∧vs.length=rs.length∧
   ∀(i:Nat) (x:AV) (v:Value),(rs.map fun r=>(uS P α H r).v)[i]?=some x→vs[i]?=some v→Rep c x v
 |[],_=>⟨[],by simp,rfl,by simp⟩
 |r::rs,h=>by
  obtain⟨vs,h1,h2,h3⟩:=uT hs ha rs h.2
  obtain⟨v,g1,g2⟩:=aDX (P:=P) hs ha r h.1
  refine⟨v::vs,?_,by simp[h2],fun i x u hi hu=>?_⟩
  ·simp only[List.mapM_cons,Sem.run_bind,g1,Result.andThen_ok,h1,Sem.run_pure]
  ·cases i with
   |zero=>simp at hi hu;subst hi;subst hu;exact g2
   |succ i=>exact h3 i x u (by simpa using hi) (by simpa using hu)
theorem aAB{c:Ctx}{H:AHeap}{α:AF}{a:Act}{fn:Func}(hs:St c H)(ha:∀t,Rep c (look α t) (a.tmps.getD t undef))(h:lL P α H fn.results.toList):
  ∃v,(results fn a.tmps).run P c.w=.ok v c.w∧Rep c (aBI (fn.results.toList.map fun r=>(uS P α H r).v)) v:=by
 obtain⟨vs,h1,h2,h3⟩:=uT (P:=P) hs ha fn.results.toList h
 have hres:(results fn a.tmps).run P c.w=.ok (if hh:vs.toArray.size=1 then vs.toArray[0]else .tuple vs.toArray) c.w:=by
  have e:results fn a.tmps=(do
    let vs←fn.results.mapM (aCZ a)
    pure (if h:vs.size=1 then vs[0]else .tuple vs)):=by
   unfold results
   congr 1
  rw[e]
  simp only[Sem.run_bind,Array.mapM_eq_mapM_toList,Sem.run_map,h1]
  rfl
 refine⟨_,hres,?_⟩
 by_cases hl:vs.length=1
 ·match vs,hl,h2,h3 with
  |[v],_,h2,h3=>
   have hl1:fn.results.toList.length=1:=by simpa using h2.symm
   match hr:fn.results.toList,hl1 with
   |[r],_=>
    rw[hr]at h3
    exact h3 0 _ _ rfl rfl
 ·rw[dif_neg (by simpa using hl)]
  have:aBI (fn.results.toList.map fun r=>(uS P α H r).v)=.tup (fn.results.toList.map fun r=>(uS P α H r).v):=by
   unfold aBI
   split
   ·rename_i v hv
    have:=congrArg List.length hv
    simp at this
    simp at h2
    omega
   ·rfl
  rw[this]
  exact .tup _ _ (by simpa using h2) (fun i x v hi hv=>h3 i x v hi (by simpa using hv))
def Ctx.shut(c:Ctx)(D:Nat):Ctx:={c with w:=c.w.putObj D (.deferred none)}
theorem rI{c:Ctx}{D:Nat}(hD:c.w.heap[D]?=some (.deferred (some []))):Ext0 c (c.shut D)where
 n:=Nat.le_refl _
 st:=fun _ h=>h
 cell:=fun a _=>by
  by_cases h:a.block=D
  ·have hlt:=(Array.getElem?_eq_some_iff.1 hD).1
   simp only[World.cell?,Ctx.shut,h,hD,World.putObj_heap_same hlt]
  ·exact nV (World.putObj_heap_other h)
 ver:=fun _ _=>Nat.le_refl _
 blk:=fun i _ _=>⟨rfl,rfl,fun _=>by
  by_cases h:c.blk i=D
  ·have hlt:=(Array.getElem?_eq_some_iff.1 hD).1
   simp only[bsize,Ctx.shut,h,hD,World.putObj_heap_same hlt]
  ·simp only[bsize,Ctx.shut];rw[World.putObj_heap_other h]⟩
theorem St.shut{c:Ctx}{H:AHeap}{D:Nat}(hst:St c H)(hs:c.stable D)(hD:c.w.heap[D]?=some (.deferred (some []))):St (c.shut D) H where
 n:=hst.n
 lt:=fun i hi hd=>by have:=hst.lt i hi hd;simpa[Ctx.shut]using this
 inj:=hst.inj
 st:=fun k hk=>by obtain⟨h1,h2⟩:=hst.st k hk;exact⟨by simpa[Ctx.shut]using h1,h2⟩
 rep:=fun i b hi=>by
  have hin:i<c.n:=by rw[hst.n];exact(List.getElem?_eq_some_iff.1 hi).1
  have hb:=hst.rep i b hi
  refine hb.mono0 (rI hD) hin (fun _ _ h=>h) rfl fun hd=>World.putObj_heap_other ?_
  have hl:b.live:=by
   cases hb with
   |gone hd'=>rw[hd]at hd';cases hd'
   |_=>trivial
  exact(hst.st D hs).2 i b hi hl hd
theorem Ext.shut{c0 c:Ctx}{H0:AHeap}{D:Nat}(h0:St c0 H0)(hx:Ext c0 c)(hlt:c0.w.heap.size≤D)(hD:c.w.heap[D]?=some (.deferred (some []))):Ext c0 (c.shut D)where
 n:=hx.n
 size:=by have:=hx.size;simpa[Ctx.shut]using this
 st:=fun b hb=>⟨(hx.st b hb).1,(World.putObj_heap_other (fun e=>by have:=(h0.st b hb).1;omega)).trans (hx.st b hb).2⟩
 ver:=hx.ver
 blk:=fun i hi he=>by
  obtain⟨p1,p2,p3⟩:=hx.blk i hi he
  refine⟨p1,p2,fun hd=>?_⟩
  have:=((rI hD).blk i (Nat.lt_of_lt_of_le hi hx.n) rfl).2.2 (p2.trans hd)
  rw[p1]at this
  exact this.trans (p3 hd)
 os:=hx.os
 tape:=hx.tape
 output:=hx.output
 base:=hx.base
theorem pZ{F:Fence}{n:Nat}{fn:Func}{tmps:Array Value}{R:Ending→World→Prop}{c0:Ctx}{H0 H:AHeap}(h0:St c0 H0):∀(Ds:List Nat) (c:Ctx),St c H→Ext c0 c→Ds.Nodup→
  (∀D∈Ds,c0.w.heap.size≤D∧c.stable D∧c.w.heap[D]?=some (.deferred (some [])))→(∀c',St c' H→Ext c0 c'→Ext0 c c'→LeavesIn F n P fn tmps R [] .returning c'.w)→
  LeavesInM F n P fn tmps R (Ds.map fun D=>{target:=.collected D,args:= #[]}) .returning c.w
 |[],c,hst,hx,_,_,h=>h c hst hx ⟨Nat.le_refl _,fun _ h=>h,fun _ _=>rfl,fun _ _=>Nat.le_refl _,fun _ _ _=>⟨rfl,rfl,fun _=>rfl⟩⟩
 |D::Ds,c,hst,hx,hn,hD,h=>by
  obtain⟨hD1,hD2,hD3⟩:=hD D (by simp)
  refine⟨by simp,.inl ⟨D,_,rfl,run_takeDeferred hD3,?_⟩⟩
  have hn':=List.nodup_cons.1 hn
  refine pZ h0 Ds (c.shut D) (hst.shut hD2 hD3) (Ext.shut h0 hx hD1 hD3) hn'.2 (fun E hE=>?_)fun c' g1 g2 g3=>h c' g1 g2 ?_
  ·obtain⟨q1,q2,q3⟩:=hD E (by simp[hE])
   exact⟨q1,q2,(World.putObj_heap_other (fun e=>hn'.1 (by rw[←e];exact hE))).trans q3⟩
  ·have k:=rI hD3
   exact⟨g3.n,g3.st,fun a ha=>(g3.cell a ha).trans (k.cell a ha),g3.ver,fun i hi he=>by
    obtain⟨p1,p2,p3⟩:=g3.blk i hi he
    exact⟨p1,p2,fun hd=>(p3 hd).trans ((k.blk i hi rfl).2.2 hd)⟩⟩
def Ctx.rebase(c:Ctx)(b:Nat):Ctx:={c with base:=b}
theorem sV(c:Ctx)(b:Nat):Ext0 c (c.rebase b):=⟨Nat.le_refl _,fun _ h=>h,fun _ _=>rfl,fun _ _=>Nat.le_refl _,fun _ _ _=>⟨rfl,rfl,fun _=>rfl⟩⟩
theorem St.rebase{c:Ctx}{H:AHeap}(h:St c H)(b:Nat):St (c.rebase b) H:=
 ⟨h.n,h.lt,h.inj,h.st,fun i _ hi=>(h.rep i _ hi).mono0 (sV c b) (by rw[h.n];exact(List.getElem?_eq_some_iff.1 hi).1) (fun _ _ h=>h) rfl (fun _=>rfl)⟩
theorem Rep.rebase{c:Ctx}{x:AV}{v:Value}(h:Rep c x v)(b:Nat):Rep (c.rebase b) x v:=h.mono0 (sV c b)
theorem dI{f:FuncId}{fn:Func}{code:Code}{args:List AV}{H:AHeap}{R:AV→AHeap→Prop}(hf:P.funcs[f]?=some fn)(hb:fn.body=some code)(hn:args.length≤fn.ntmps)
  (h:aw P fn.ntmps code (aAA P fn.results.toList R) (fW 0 args) H):ACalls P f args H R:=by
 intro c vs hs ⟨hl,hr⟩
 refine callsIn_wide.1 (callsIn_of_wp_marks (F:=Fence.wide) (n:=0) hf hb trivial ?_)
 have ha:ARep (c.rebase c.w.heap.size) fn.ntmps (fW 0 args) {tmps:=vs++Array.replicate (fn.ntmps-vs.size) undef,defers:=[]}:=by
  refine⟨by simp;omega,⟨Nat.le_refl _,[],rfl,by simp,by simp⟩,fun t=>?_⟩
  rw[zD,if_pos (Nat.zero_le _),Nat.sub_zero]
  by_cases ht:t<args.length
  ·have hx:args[t]?=some args[t]:=List.getElem?_eq_getElem ht
   have hv:vs[t]?=some (vs[t]'(by omega)):=Array.getElem?_eq_getElem (by omega)
   rw[aHS _ _ _ _ hx]
   have:(vs++Array.replicate (fn.ntmps-vs.size) undef).getD t undef=vs[t]'(by omega):=by
    rw[Array.getD_eq_getD_getElem?,Array.getElem?_append_left (by omega),hv];rfl
   rw[this]
   exact(hr t _ _ hx hv).rebase _
  ·have:args.getD t .top=.top:=by rw[List.getD_eq_getElem?_getD,List.getElem?_eq_none (by omega)];rfl
   rw[this]
   exact .top _
 refine wpIn_mono (h none (c.rebase c.w.heap.size) _ (.inl rfl) (hs.rebase c.w.heap.size) ha)fun e a' w' ⟨c',α',H',e1,e2,e3,e4,e5⟩=>?_
 subst e1
 have key:∀{R':Prop},(lL P α' H' fn.results.toList∧R (aBI (fn.results.toList.map fun r=>(uS P α' H' r).v)) H')→
   LeavesInM Fence.wide 0 P fn a'.tmps (fun e w'=>∃c' x v H',e=.returned v∧c'.w=w'∧St c' H'∧Ext c c'∧Rep c' x v∧R x H') a'.defers .returning c'.w:=by
  intro _ ⟨q1,q2⟩
  obtain⟨hb0,Ds,hds,hnd,hD⟩:=e4.defers
  rw[hds]
  have hbase:c'.base=c.w.heap.size:=e3.base
  refine pZ (hs.rebase c.w.heap.size) Ds c' e2 e3 hnd (fun D h=>?_)fun c'' g1 g2 g3=>?_
  ·obtain⟨p1,p2,p3⟩:=hD D h
   exact⟨by rw[hbase]at p1;exact p1,p2,p3⟩
  ·have e4':∀t,Rep c'' (look α' t) (a'.tmps.getD t undef):=fun t=>(e4.rep t).mono0 g3
   obtain⟨v,r1,r2⟩:=aAB (P:=P) g1 e4' q1
   refine⟨v,r1,c''.rebase c.base,_,v,H',rfl,rfl,g1.rebase _,?_,r2.rebase _,q2⟩
   exact⟨g2.n,g2.size,g2.st,g2.ver,g2.blk,g2.os,g2.tape,g2.output,rfl⟩
 cases e<;>simp only[aAA]at e5
 case normal=>exact key (R':=True) e5
 case ret=>exact key (R':=True) e5
inductive Cl (n:Nat):AV→Prop
 |int (k m):Cl n (.int k m)
 |bool (b):Cl n (.bool b)
 |str (s):Cl n (.str s)
 |agg (cs:List AV) (h:∀(i:Nat) (x:AV),cs[i]?=some x→Cl n x):Cl n (.agg cs)
 |tup (cs:List AV) (h:∀(i:Nat) (x:AV),cs[i]?=some x→Cl n x):Cl n (.tup cs)
 |sl (full) (es:List AV) (h:∀(k:Nat) (e:AV) (j:Nat) (x:AV),es[k]?=some e→e.cells[j]?=some x→Cl n x):Cl n (.sl full es)
 |cptr (cs:List AV) (h:∀(i:Nat) (x:AV),cs[i]?=some x→Cl n x):Cl n (.cptr cs)
 |ref (i v off) (h:i<n):Cl n (.ref i v off)
 |osl (s i v off len lc) (h:i<n):Cl n (.osl s i v off len lc)
 |nilptr:Cl n .nilptr
 |map (i) (h:i<n):Cl n (.map i)
 |nilmap:Cl n .nilmap
 |iter (i) (h:i<n):Cl n (.iter i)
 |func (fn) (fs cs:List AV) (h1:∀(i:Nat) (x:AV),fs[i]?=some x→Cl n x) (h2:∀(i:Nat) (x:AV),cs[i]?=some x→Cl n x):Cl n (.func fn fs cs)
 |nilfunc:Cl n .nilfunc
 |iface (t x) (h:Cl n x):Cl n (.iface t x)
 |nilIface:Cl n .nilIface
 |opt (g x) (h:g=true→Cl n x):Cl n (.opt g x)
 |top:Cl n .top
theorem gE{α β:Type}{l:List α}{a:Array β}(h:a.size=l.length){i:Nat}{x:α}(hx:l[i]?=some x):∃v,a[i]?=some v:=by
 have:=(List.getElem?_eq_some_iff.1 hx).1
 exact⟨_,Array.getElem?_eq_getElem (by omega)⟩
theorem Rep.cl{c:Ctx}{x:AV}{v:Value}(h:Rep c x v):Cl c.n x:=by
 induction h with
 |int k n _=>exact .int k n
 |bool b=>exact .bool b
 |str s _=>exact .str s
 |agg cs vs hl _ ih=>exact .agg cs fun i x hx=>let⟨v,hv⟩:=gE hl hx;ih i x v hx hv
 |tup cs vs hl _ ih=>exact .tup cs fun i x hx=>let⟨v,hv⟩:=gE hl hx;ih i x v hx hv
 |sl full es base len cap s vs _ _ _ _ _ _ _ ih=>exact .sl full es ih
 |cptr cs a vs _ _ _ _ ih=>exact .cptr cs ih
 |ref i v off val hi=>exact .ref i v off hi
 |osl s i v off len lc val hi=>exact .osl s i v off len lc hi
 |nilptr=>exact .nilptr
 |map i val hi=>exact .map i hi
 |nilmap=>exact .nilmap
 |iter i val hi=>exact .iter i hi
 |func fn fs cs vf vc hf hc _ _ ih1 ih2=>exact .func fn fs cs (fun i x hx=>let⟨v,hv⟩:=gE hf hx;ih1 i x v hx hv) (fun i x hx=>let⟨v,hv⟩:=gE hc hx;ih2 i x v hx hv)
 |nilfunc=>exact .nilfunc
 |iface t x v _ ih=>exact .iface t x ih
 |nilIface=>exact .nilIface
 |opt g x v _ _ ih=>exact .opt g x ih
 |top v=>exact .top
def Ctx.drop(c:Ctx)(n:Nat):Ctx:=
 {w:=c.w,n:=n,blk:=c.blk,ver:=c.ver,vd:=c.vd,stable:=fun b=>c.stable b∨∃i,n≤i∧i<c.n∧c.vd i=false∧c.blk i=b,base:=c.base}
theorem Rep.drop{c:Ctx}{n:Nat}{x:AV}{v:Value}(h:Rep c x v)(hc:Cl n x):Rep (c.drop n) x v:=by
 induction h with
 |int k n hr=>exact .int k n hr
 |bool b=>exact .bool b
 |str s hr=>exact .str s hr
 |agg cs vs hl _ ih=>cases hc with|agg _ hh=>exact .agg cs vs hl fun i x v h1 h2=>ih i x v h1 h2 (hh i x h1)
 |tup cs vs hl _ ih=>cases hc with|tup _ hh=>exact .tup cs vs hl fun i x v h1 h2=>ih i x v h1 h2 (hh i x h1)
 |sl full es base len cap s vs h1 h2 h3 h4 h5 _ hmax ih=>
  cases hc with
  |sl _ _ hh=>exact .sl full es base len cap s vs h1 h2 h3 (fun hne=>let⟨a,e1,e2,e3,e4⟩:=h4 hne;⟨a,e1,e2,.inl e3,e4⟩) h5 (fun k e j x g1 g2=>ih k e j x g1 g2 (hh k e j x g1 g2)) hmax
 |cptr cs a vs h1 h2 h3 _ ih=>cases hc with|cptr _ hh=>exact .cptr cs a vs h1 (.inl h2) h3 fun j x g=>ih j x g (hh j x g)
 |ref i v off val hi hv ho h=>cases hc with|ref _ _ _ hh=>exact .ref i v off val hh hv ho h
 |osl s i v off len lc val hi hv ho hmax h1 h2=>cases hc with|osl _ _ _ _ _ _ hh=>exact .osl s i v off len lc val hh hv ho hmax h1 h2
 |nilptr=>exact .nilptr
 |map i val hi ho h=>cases hc with|map _ hh=>exact .map i val hh ho h
 |nilmap=>exact .nilmap
 |iter i val hi ho h=>cases hc with|iter _ hh=>exact .iter i val hh ho h
 |func fn fs cs vf vc hf hcc _ _ ih1 ih2=>cases hc with|func _ _ _ g1 g2=>exact .func fn fs cs vf vc hf hcc (fun i x v h1 h2=>ih1 i x v h1 h2 (g1 i x h1)) (fun i x v h1 h2=>ih2 i x v h1 h2 (g2 i x h1))
 |nilfunc=>exact .nilfunc
 |iface t x v _ ih=>cases hc with|iface _ _ hh=>exact .iface t x v (ih hh)
 |nilIface=>exact .nilIface
 |opt g x v _ h2 ih=>cases hc with|opt _ _ hh=>exact .opt g x v (fun hg=>ih hg (hh hg)) h2
 |top v=>exact .top v
theorem Ext.drop{c c':Ctx}(h:Ext c c'):Ext c (c'.drop c.n):=
 ⟨Nat.le_refl _,h.size,fun b hb=>⟨.inl (h.st b hb).1,(h.st b hb).2⟩,h.ver,h.blk,h.os,h.tape,h.output,h.base⟩
inductive Frz (n:Nat) (H:AHeap):AV→AV→Prop
 |cl (x:AV) (h:Cl n x):Frz n H x x
 |agg (cs ds:List AV) (hl:cs.length=ds.length) (h:∀(i:Nat) (x y:AV),cs[i]?=some x→ds[i]?=some y→Frz n H x y):Frz n H (.agg cs) (.agg ds)
 |tup (cs ds:List AV) (hl:cs.length=ds.length) (h:∀(i:Nat) (x y:AV),cs[i]?=some x→ds[i]?=some y→Frz n H x y):Frz n H (.tup cs) (.tup ds)
 |osl (s i v off len lc:Nat) (cs es:List AV) (hn:n≤i) (hh:hget H i=.cells v cs) (hl:es.length=len) (hle:off+len * s≤cs.length) (hs:∀e∈es,e.cells.length=s)
   (h:∀(k j:Nat) (e x y:AV),es[k]?=some e→e.cells[j]?=some y→cs[off+(k * s+j)]?=some x→Frz n H x y):Frz n H (.osl s i v off len lc) (.sl false es)
 |iface (t x y) (h:Frz n H x y):Frz n H (.iface t x) (.iface t y)
 |slw (full:Bool) (es:List AV) (h:Cl n (.sl full es)):Frz n H (.sl full es) (.sl false es)
 |ref (i v off:Nat) (cs ds:List AV) (hn:n≤i) (hh:hget H i=.cells v cs) (hle:off+ds.length≤cs.length) (h:∀(j:Nat) (x y:AV),cs[off+j]?=some x→ds[j]?=some y→Frz n H x y):Frz n H (.ref i v off) (.cptr ds)
 |func (fn:Fn) (fs cs fs' cs':List AV) (hf:fs.length=fs'.length) (hc:cs.length=cs'.length) (h1:∀(i:Nat) (x y:AV),fs[i]?=some x→fs'[i]?=some y→Frz n H x y) (h2:∀(i:Nat) (x y:AV),cs[i]?=some x→cs'[i]?=some y→Frz n H x y):Frz n H (.func fn fs cs) (.func fn fs' cs')
 |any (x:AV):Frz n H x .top
theorem Frz.sound{c:Ctx}{n:Nat}{H:AHeap}(hst:St c H){x y:AV}(h:Frz n H x y):∀{v:Value},Rep c x v→Rep (c.drop n) y v:=by
 induction h with
 |cl x h=>exact fun hr=>hr.drop h
 |agg cs ds hl _ ih=>
  intro v hr
  obtain⟨vs,rfl,h1,h2⟩:=hr.agg_inv
  refine .agg ds vs (by omega)fun i y v hy hv=>?_
  have hlt:=(List.getElem?_eq_some_iff.1 hy).1
  have hx:cs[i]?=some (cs[i]'(by omega)):=List.getElem?_eq_getElem (by omega)
  exact ih i _ y hx hy (h2 i _ v hx hv)
 |tup cs ds hl _ ih=>
  intro v hr
  obtain⟨vs,rfl,h1,h2⟩:=hr.tup_inv
  refine .tup ds vs (by omega)fun i y v hy hv=>?_
  have hlt:=(List.getElem?_eq_some_iff.1 hy).1
  have hx:cs[i]?=some (cs[i]'(by omega)):=List.getElem?_eq_getElem (by omega)
  exact ih i _ y hx hy (h2 i _ v hx hv)
 |osl s i v off len lc cs es hn hh hl hle hs _ ih=>
  intro val hr
  have hver:=hst.ver_eq hh
  obtain⟨base,cap,rfl,g1,g1',g2,g3⟩:=hr.osl_inv hver
  have hin:i<c.n:=by rw[hst.n];exact bP hh trivial
  cases hd:c.vd i with
  |true=>
   obtain⟨rfl,rfl⟩:=g2 hd
   have:es=[]:=List.eq_nil_of_length_eq_zero hl
   subst this
   exact .sl _ _ _ _ _ s (fun _ _=>undef) rfl (Nat.le_refl _) (fun h=>by cases h) (fun h=>absurd rfl h) (by simp) (by simp) (by omega)
  |false=>
   obtain⟨p1,m,p2,p3⟩:=g3 hd
   obtain⟨_,_,vs,e,fr,hb,hl',hf,hrr⟩:=hst.cells hh hd
   refine .sl _ _ _ _ _ s (fun k j=>vs.getD (off+(k * s+j)) undef) hl.symm (by omega) (fun h=>by cases h) (fun hne=>?_) hs (fun k x j y hk hj=>?_) (by have:=hr.osl_R;omega)
   ·have hlen:0<len:=by rw[←hl];exact List.length_pos_iff.2 hne
    have hbase:base=some ⟨c.blk i,off,none⟩:=p1.resolve_left (by omega)
    refine⟨_,hbase,rfl,.inr ⟨i,hn,hin,hd,rfl⟩,fun k j hk hj=>?_⟩
    have h5:k * s+j<len * s:=by
     have:(k+1) * s≤len * s:=Nat.mul_le_mul_right s (by omega)
     rw[Nat.add_mul]at this
     omega
    have hlt:off+(k * s+j)<vs.size:=by omega
    rw[rB]
    show(c.w.cell? _)=_
    rw[jO hb]
    simp[hlt]
   ·have hk':=(List.getElem?_eq_some_iff.1 hk).1
    have hj':=(List.getElem?_eq_some_iff.1 hj).1
    have hsz:=hs x (List.mem_of_getElem? hk)
    have h5:k * s+j<len * s:=by
     have:(k+1) * s≤len * s:=Nat.mul_le_mul_right s (by omega)
     rw[Nat.add_mul]at this
     omega
    have hc:cs[off+(k * s+j)]?=some (cs[off+(k * s+j)]'(by omega)):=List.getElem?_eq_getElem (by omega)
    refine ih k j x _ y hk hj hc (hrr _ _ _ hc ?_)
    simp[show off+(k * s+j)<vs.size by omega]
 |iface t x y _ ih=>
  intro v hr
  cases hr with
  |iface _ _ v' hv=>exact .iface t y v' (ih hv)
 |slw full es h=>
  intro v hr
  have hd:=hr.drop h
  cases hd with
  |sl _ _ base len cap s vs h1 h2 h3 h4 h5 h6 h7=>exact .sl false es base len cap s vs h1 h2 (fun h=>by cases h) h4 h5 h6 h7
 |ref i v off cs ds hn hh hle _ ih=>
  intro val hr
  have hver:=hst.ver_eq hh
  have hin:i<c.n:=by rw[hst.n];exact bP hh trivial
  cases hr with
  |ref _ _ _ _ _ _ _ hval=>
   obtain⟨hd,rfl⟩:=hval hver
   obtain⟨_,_,vs,e,fr,hb,hl',hf,hrr⟩:=hst.cells hh hd
   refine .cptr ds _ (fun j=>vs.getD (off+j) undef) rfl (.inr ⟨i,hn,hin,hd,rfl⟩) (fun j hj=>?_) (fun j y hj=>?_)
   ·have hlt:off+j<vs.size:=by omega
    rw[rB]
    show(c.w.cell? _)=_
    rw[jO hb]
    simp[hlt]
   ·have hj':=(List.getElem?_eq_some_iff.1 hj).1
    have hx:cs[off+j]?=some (cs[off+j]'(by omega)):=List.getElem?_eq_getElem (by omega)
    refine ih j _ y hx hj (hrr _ _ _ hx ?_)
    simp[show off+j<vs.size by omega]
 |func fn fs cs fs' cs' hf hc _ _ ih1 ih2=>
  intro v hr
  cases hr with
  |func _ _ _ vf vc g1 g2 r1 r2=>
   refine .func fn fs' cs' vf vc (by omega) (by omega) (fun i y u hy hu=>?_) (fun i y u hy hu=>?_)
   ·have hlt:=(List.getElem?_eq_some_iff.1 hy).1
    have hx:fs[i]?=some (fs[i]'(by omega)):=List.getElem?_eq_getElem (by omega)
    exact ih1 i _ y hx hy (r1 i _ u hx hu)
   ·have hlt:=(List.getElem?_eq_some_iff.1 hy).1
    have hx:cs[i]?=some (cs[i]'(by omega)):=List.getElem?_eq_getElem (by omega)
    exact ih2 i _ y hx hy (r2 i _ u hx hu)
 |any x=>exact fun _=>.top _
theorem St.drop{c c₀:Ctx}{H L:AHeap}(h0:St c₀ H)(_:Ext c₀ c)(hst:St c (H++L)):St (c.drop c₀.n) H where
 n:=h0.n
 lt:=fun i hi hd=>by
  have hi':i<c₀.n:=hi
  have:=h0.n
  exact hst.lt i (by rw[hst.n];simp;omega) hd
 inj:=fun i j b b' hi hj hb hb' di dj he=>by
  have h1:=(List.getElem?_eq_some_iff.1 hi).1
  have h2:=(List.getElem?_eq_some_iff.1 hj).1
  exact hst.inj i j b b' (by rw[List.getElem?_append_left h1];exact hi) (by rw[List.getElem?_append_left h2];exact hj) hb hb' di dj he
 st:=fun k hk=>by
  have hn0:=h0.n
  have hn:=hst.n
  rcases hk with hk|⟨i,h1,h2,h3,rfl⟩
  ·obtain⟨g1,g2⟩:=hst.st k hk
   refine⟨g1,fun i b hi hb hd=>?_⟩
   have h1:=(List.getElem?_eq_some_iff.1 hi).1
   exact g2 i b (by rw[List.getElem?_append_left h1];exact hi) hb hd
  ·refine⟨hst.lt i h2 h3,fun j b hj hb hd e=>?_⟩
   have hj':=(List.getElem?_eq_some_iff.1 hj).1
   have hi:(H++L)[i]?=some ((H++L)[i]'(by rw[←hn];exact h2)):=List.getElem?_eq_getElem _
   have hbi:=hst.rep i _ hi
   have hlive:((H++L)[i]'(by rw[←hn];exact h2)).live:=by
    generalize(H++L)[i]'(by rw[←hn];exact h2)=B at hbi
    cases hbi with
    |gone hd'=>rw[h3]at hd';cases hd'
    |_=>trivial
   have:=hst.inj j i b _ (by rw[List.getElem?_append_left hj'];exact hj) hi hb hlive hd h3 e
   omega
 rep:=fun i b hi=>by
  have hi':=(List.getElem?_eq_some_iff.1 hi).1
  have hn0:=h0.n
  have h1:=hst.rep i b (by rw[List.getElem?_append_left hi'];exact hi)
  have h2:=h0.rep i b hi
  cases h1 with
  |cells ver cs vs e fr hv hd hh hl hf hr=>
   refine .cells ver cs vs e fr hv hd hh hl hf fun j x v hx hv'=>(hr j x v hx hv').drop ?_
   cases h2 with
   |cells _ _ vs' e' fr' _ _ _ hl' _ hr'=>
    have hj:=(List.getElem?_eq_some_iff.1 hx).1
    exact(hr' j x _ hx (Array.getElem?_eq_getElem (by omega))).cl
   |void=>simp at hx
  |void ver hv hd=>exact .void ver hv hd
  |map es clock ents hv hd hh hl hr=>
   refine .map es clock ents hv hd hh hl fun j p e hp he=>?_
   obtain⟨g1,g2,g3⟩:=hr j p e hp he
   cases h2 with
   |map _ _ ents' _ _ _ hl' hr'=>
    have hj:=(List.getElem?_eq_some_iff.1 hp).1
    obtain⟨q1,q2, -⟩:=hr' j p _ hp (Array.getElem?_eq_getElem (by omega))
    exact⟨g1.drop q1.cl,g2.drop q2.cl,g3⟩
  |miter m since seen stepped hv hd hm hmv hmd hh=>
   cases h2 with
   |miter _ _ _ _ _ _ hm'=>exact .miter m since seen stepped hv hd hm' hmv hmd hh
  |siter s pos hv hd hh hsl=>exact .siter s pos hv hd hh hsl
  |loop l α N st pe ps ars bd fn D ts hv hd hl hh hN hr=>
   cases h2 with
   |loop _ _ _ _ _ _ _ _ _ _ _ _ _ _ _ _ hr'=>exact .loop l α N st pe ps ars bd fn D ts hv hd hl hh hN fun t=>(hr t).drop (hr' t).cl
  |gone hd=>exact .gone hd
theorem aFm{f:FuncId}{fn:Func}{code:Code}{args:List AV}{H:AHeap}{R:AV→Prop}(hf:P.funcs[f]?=some fn)(hb:fn.body=some code)(hn:args.length≤fn.ntmps)
  (h:aw P fn.ntmps code (aAA P fn.results.toList fun v H'=>∃L y,H'=H++L∧Frz H.length H' v y∧R y) (fW 0 args) H):ACalls P f args H (fun y H'=>R y∧H'=H):=by
 intro c vs hs ha
 refine(dI hf hb hn h c vs hs ha).mono fun e w' ⟨c',x,v,H',e1,e2,e3,e4,e5,L,y,e6,e7,e8⟩=>?_
 subst e6
 refine⟨c'.drop c.n,y,v,H,e1,e2,hs.drop e4 e3,e4.drop,?_,e8,rfl⟩
 have:=e7.sound e3 e5
 rwa[←hs.n]at this
end Go.Aw
/- The abstract machine's equations, for evaluation by simp only [go_sem]. No condition. -/
namespace Go.Aw
open Go
set_option linter.unusedSimpArgs false
variable {P:Program}
theorem qB{N:Nat}{x:Operand}{y z:Code}{Q:bL}{α:AF}{H:AHeap}{b:Bool}(hx:ev α x=.bool b)(h1:b=true→aw P N y Q α H)(h2:b=false→aw P N z Q α H):aw P N (.cond x y z) Q α H:=by
 intro r c a hr hs ha
 have:=aE6 ha x
 rw[hx]at this
 exact wpIn_cond_split this.bool_inv (fun hb=>h1 hb r c a (fl2 hr).1 hs ha) (fun hb=>h2 hb r c a (fl2 hr).2 hs ha)
@[go_sem] theorem aH3(N:Nat)(y:Code)(Q:bL)(α:AF)(H:AHeap):uG P N y Q .normal α H=aw P N y Q α H:=rfl
@[go_sem] theorem aRI(N:Nat)(y:Code)(Q:bL)(α:AF)(H:AHeap):uG P N y Q .ret α H=Q .ret α H:=rfl
@[go_sem] theorem aMy(N i:Nat)(y:Code)(Q:bL)(α:AF)(H:AHeap):uG P N y Q (.exit i) α H=Q (.exit i) α H:=rfl
@[go_sem] theorem aHm(i:Nat)(Q:bL)(α:AF)(H:AHeap):lK i Q .normal α H=Q .normal α H:=rfl
@[go_sem] theorem aMz(i:Nat)(Q:bL)(α:AF)(H:AHeap):lK i Q .ret α H=Q .ret α H:=rfl
@[go_sem] theorem aKN(i j:Nat)(Q:bL)(α:AF)(H:AHeap):lK i Q (.exit j) α H=if j=i then Q .normal α H else Q (.exit j) α H:=by
 simp only[lK];by_cases h:j=i<;>simp[h]
attribute [go_sem] aKG aAA lL uS aBI List.map_cons List.map_nil fW
@[go_sem] theorem xN(d:Nat)(v:AV)(α:AF)(t:Nat):look ((d,v)::α) t=if d=t then v else look α t:=by
 simp only[look]
 by_cases h:d=t
 ·simp[h]
 ·have hb:(d==t)=false:=by simpa using h
  simp[h,hb]
@[go_sem] theorem aYC(t:Nat):look [] t=.top:=rfl
attribute [go_sem] bU ev dU pT if_true if_false
@[go_sem] theorem aMA(n:Int)(h1: -9223372036854775808≤n)(h2:n≤9223372036854775807):dH (.int .i64 n)=.int .i64 n:=by
 have:wX .i64 n=true:=oF.2 (aCX.2 ⟨h1,h2⟩)
 simp[dH,this]
@[go_sem] theorem aRJ(n:Int)(h1:0≤n)(h2:n≤255):dH (.int .u8 n)=.int .u8 n:=by
 have:wX .u8 n=true:=oF.2 (aE3.2 ⟨h1,h2⟩)
 simp[dH,this]
@[go_sem] theorem aMB(n:Int)(h1: -2147483648≤n)(h2:n≤2147483647):dH (.int .i32 n)=.int .i32 n:=by
 have:wX .i32 n=true:=oF.2 (aHK.2 ⟨h1,h2⟩)
 simp[dH,this]
@[go_sem] theorem aMC(n:Int)(h1:0≤n)(h2:n≤18446744073709551615):dH (.int .u64 n)=.int .u64 n:=by
 have:wX .u64 n=true:=oF.2 ⟨h1,h2⟩
 simp[dH,this]
@[go_sem] theorem aMD(n:Int)(h1:0≤n)(h2:n≤4294967295):dH (.int .u32 n)=.int .u32 n:=by
 have:wX .u32 n=true:=oF.2 ⟨h1,h2⟩
 simp[dH,this]
@[go_sem] theorem aME(n:Int)(h1:0≤n)(h2:n≤65535):dH (.int .u16 n)=.int .u16 n:=by
 have:wX .u16 n=true:=oF.2 ⟨h1,h2⟩
 simp[dH,this]
@[go_sem] theorem aKO(b:Bool):dH (.bool b)=.bool b:=rfl
@[go_sem] theorem aHn:dH (.pointer none)=.nilptr:=rfl
@[go_sem] theorem aH4:dH (.slice none 0 0)=.sl true []:=rfl
@[go_sem] theorem aHo:dH (.map none)=.nilmap:=rfl
@[go_sem] theorem aFn:dH .nilFunc=.nilfunc:=rfl
@[go_sem] theorem aH5:dH .nilIface=.nilIface:=rfl
@[go_sem] theorem aMF(s:ByteArray)(h:s.data.toList.length≤9223372036854775807):dH (.string s)=.str s.data.toList:=by
 have:Nat.ble s.data.toList.length 9223372036854775807=true:=Nat.ble_eq_true_of_le h
 simp only[dH,this,cond_true]
@[go_sem] theorem aMG{α:Type}(l:List α):(l.toArray).toList=l:=rfl
def gV:Op→Bool
 |.pick _ _ _=>false
 |.call ⟨.builtin _,_,_⟩=>true
 |.call _=>false
 |.next _ b=>b
 |.binOp _ _ _ _ _=>false
 |_=>true
def fN:Op→Bool
 |.pick _ _ _=>false
 |.call ⟨.builtin _,_,_⟩=>true
 |.call _=>false
 |_=>true
theorem cR{b:Bool}(h:b=true):b=true:=h
def lM(op:Op):List Operand:=op.operands.toList
@[go_sem] theorem aRK(x:Operand):gV (.move x)=true:=cR rfl
@[go_sem] theorem aRL(x:Operand):fN (.move x)=true:=cR rfl
@[go_sem] theorem aYD(x:Operand):lM (.move x)=[x]:=rfl
@[go_sem] theorem aKP(x:Operand):gV (.assign x)=true:=cR rfl
@[go_sem] theorem aKQ(x:Operand):fN (.assign x)=true:=cR rfl
@[go_sem] theorem aMH(x:Operand):lM (.assign x)=[x]:=rfl
@[go_sem] theorem aMI(t:TypeId):gV (.alloc t)=true:=cR rfl
@[go_sem] theorem aMJ(t:TypeId):fN (.alloc t)=true:=cR rfl
@[go_sem] theorem aRM(t:TypeId):lM (.alloc t)=[]:=rfl
@[go_sem] theorem aYE(t:TypeId)(x:Operand):gV (.box t x)=true:=cR rfl
@[go_sem] theorem aYF(t:TypeId)(x:Operand):fN (.box t x)=true:=cR rfl
@[go_sem] theorem bCx(t:TypeId)(x:Operand):lM (.box t x)=[x]:=rfl
@[go_sem] theorem aMK(t:TypeId)(ps:Array (Nat×Operand)):gV (.build t ps)=true:=cR rfl
@[go_sem] theorem aML(t:TypeId)(ps:Array (Nat×Operand)):fN (.build t ps)=true:=cR rfl
@[go_sem] theorem aRN(t:TypeId)(ps:Array (Nat×Operand)):lM (.build t ps)=(ps.toList.map (·.2)):=rfl
@[go_sem] theorem aEM(t:TypeId)(n:Nat)(ps:Array (Nat×Operand)):gV (.buildSlice t n ps)=true:=cR rfl
@[go_sem] theorem aEN(t:TypeId)(n:Nat)(ps:Array (Nat×Operand)):fN (.buildSlice t n ps)=true:=cR rfl
@[go_sem] theorem aFo(t:TypeId)(n:Nat)(ps:Array (Nat×Operand)):lM (.buildSlice t n ps)=(ps.toList.map (·.2)):=rfl
@[go_sem] theorem aRO(t:TypeId)(x:Operand):gV (.load t x)=true:=cR rfl
@[go_sem] theorem aRP(t:TypeId)(x:Operand):fN (.load t x)=true:=cR rfl
@[go_sem] theorem aYG(t:TypeId)(x:Operand):lM (.load t x)=[x]:=rfl
@[go_sem] theorem aMM(t:TypeId)(x y:Operand):gV (.store t x y)=true:=cR rfl
@[go_sem] theorem aMN(t:TypeId)(x y:Operand):fN (.store t x y)=true:=cR rfl
@[go_sem] theorem aRQ(t:TypeId)(x y:Operand):lM (.store t x y)=[x,y]:=rfl
@[go_sem] theorem aHp(x:Operand):gV (.nilCheck x)=true:=cR rfl
@[go_sem] theorem aHq(x:Operand):fN (.nilCheck x)=true:=cR rfl
@[go_sem] theorem aH6(x:Operand):lM (.nilCheck x)=[x]:=rfl
@[go_sem] theorem aMO(op:BinOp)(t t':TypeId)(x y:Operand):fN (.binOp op t x y t')=true:=cR rfl
@[go_sem] theorem aRR(op:BinOp)(t t':TypeId)(x y:Operand):lM (.binOp op t x y t')=[x,y]:=rfl
@[go_sem] theorem aRS(op:UnOp)(t:TypeId)(x:Operand):gV (.unOp op t x)=true:=cR rfl
@[go_sem] theorem aRT(op:UnOp)(t:TypeId)(x:Operand):fN (.unOp op t x)=true:=cR rfl
@[go_sem] theorem aYH(op:UnOp)(t:TypeId)(x:Operand):lM (.unOp op t x)=[x]:=rfl
@[go_sem] theorem aH7(s d:TypeId)(x:Operand):gV (.convert s d x)=true:=cR rfl
@[go_sem] theorem aH8(s d:TypeId)(x:Operand):fN (.convert s d x)=true:=cR rfl
@[go_sem] theorem aKR(s d:TypeId)(x:Operand):lM (.convert s d x)=[x]:=rfl
@[go_sem] theorem aMP(t:TypeId)(x:Operand):gV (.makeInterface t x)=true:=cR rfl
@[go_sem] theorem aMQ(t:TypeId)(x:Operand):fN (.makeInterface t x)=true:=cR rfl
@[go_sem] theorem aRU(t:TypeId)(x:Operand):lM (.makeInterface t x)=[x]:=rfl
@[go_sem] theorem aHr(fn:Go.Fn)(f cs:Array Operand):gV (.makeFunc fn f cs)=true:=cR rfl
@[go_sem] theorem aHs(fn:Go.Fn)(f cs:Array Operand):fN (.makeFunc fn f cs)=true:=cR rfl
@[go_sem] theorem aH9(fn:Go.Fn)(f cs:Array Operand):lM (.makeFunc fn f cs)=(f++cs).toList:=rfl
@[go_sem] theorem aMR(t:TypeId)(x:Operand)(lo hi mx:Option Operand):gV (.slice t x lo hi mx)=true:=cR rfl
@[go_sem] theorem aMS(t:TypeId)(x:Operand)(lo hi mx:Option Operand):fN (.slice t x lo hi mx)=true:=cR rfl
@[go_sem] theorem aRV(t:TypeId)(x:Operand)(lo hi mx:Option Operand):lM (.slice t x lo hi mx)=(#[x]++lo.toArray++hi.toArray++mx.toArray).toList:=rfl
@[go_sem] theorem aFp(t:TypeId)(x:Operand)(f:Nat):gV (.fieldAddr t x f)=true:=cR rfl
@[go_sem] theorem aFq(t:TypeId)(x:Operand)(f:Nat):fN (.fieldAddr t x f)=true:=cR rfl
@[go_sem] theorem aHt(t:TypeId)(x:Operand)(f:Nat):lM (.fieldAddr t x f)=[x]:=rfl
@[go_sem] theorem aMT(t:TypeId)(x:Operand)(f:Nat):gV (.field t x f)=true:=cR rfl
@[go_sem] theorem aMU(t:TypeId)(x:Operand)(f:Nat):fN (.field t x f)=true:=cR rfl
@[go_sem] theorem aRW(t:TypeId)(x:Operand)(f:Nat):lM (.field t x f)=[x]:=rfl
@[go_sem] theorem aFr(t:TypeId)(x i:Operand):gV (.indexAddr t x i)=true:=cR rfl
@[go_sem] theorem aFs(t:TypeId)(x i:Operand):fN (.indexAddr t x i)=true:=cR rfl
@[go_sem] theorem aHu(t:TypeId)(x i:Operand):lM (.indexAddr t x i)=[x,i]:=rfl
@[go_sem] theorem aMV(t:TypeId)(x i:Operand):gV (.index t x i)=true:=cR rfl
@[go_sem] theorem aMW(t:TypeId)(x i:Operand):fN (.index t x i)=true:=cR rfl
@[go_sem] theorem aRX(t:TypeId)(x i:Operand):lM (.index t x i)=[x,i]:=rfl
@[go_sem] theorem aEO(x:Operand)(u t:TypeId)(b:Bool):gV (.typeAssert x u t b)=true:=cR rfl
@[go_sem] theorem aEP(x:Operand)(u t:TypeId)(b:Bool):fN (.typeAssert x u t b)=true:=cR rfl
@[go_sem] theorem aFt(x:Operand)(u t:TypeId)(b:Bool):lM (.typeAssert x u t b)=[x]:=rfl
@[go_sem] theorem aIa(x:Operand)(i:Nat):gV (.extract x i)=true:=cR rfl
@[go_sem] theorem aIb(x:Operand)(i:Nat):fN (.extract x i)=true:=cR rfl
@[go_sem] theorem aKS(x:Operand)(i:Nat):lM (.extract x i)=[x]:=rfl
@[go_sem] theorem aFu(t:TypeId)(x y:Operand):gV (.makeSlice t x y)=true:=cR rfl
@[go_sem] theorem aFv(t:TypeId)(x y:Operand):fN (.makeSlice t x y)=true:=cR rfl
@[go_sem] theorem aHv(t:TypeId)(x y:Operand):lM (.makeSlice t x y)=[x,y]:=rfl
@[go_sem] theorem aMX(t:TypeId)(x:Operand):gV (.range t x)=true:=cR rfl
@[go_sem] theorem aMY(t:TypeId)(x:Operand):fN (.range t x)=true:=cR rfl
@[go_sem] theorem aRY(t:TypeId)(x:Operand):lM (.range t x)=[x]:=rfl
@[go_sem] theorem aRZ(x:Operand):gV (.next x true)=true:=cR rfl
@[go_sem] theorem aR0(x:Operand):fN (.next x true)=true:=cR rfl
@[go_sem] theorem aYI(x:Operand):lM (.next x true)=[x]:=rfl
@[go_sem] theorem aIc(b:Builtin)(xs:Array Operand)(ts:Array TypeId):gV (.call ⟨.builtin b,xs,ts⟩)=true:=cR rfl
@[go_sem] theorem aId(b:Builtin)(xs:Array Operand)(ts:Array TypeId):fN (.call ⟨.builtin b,xs,ts⟩)=true:=cR rfl
@[go_sem] theorem aKT(b:Builtin)(xs:Array Operand)(ts:Array TypeId):lM (.call ⟨.builtin b,xs,ts⟩)=((#[]:Array Operand)++xs).toList:=rfl
@[go_sem] theorem aIe(t:TypeId):gV (.makeMap t none)=true:=cR rfl
@[go_sem] theorem aIf(t:TypeId):fN (.makeMap t none)=true:=cR rfl
@[go_sem] theorem aKU(t:TypeId):lM (.makeMap t none)=[]:=rfl
@[go_sem] theorem aKV(t:TypeId)(x y:Operand)(b:Bool):gV (.lookup t x y b)=true:=cR rfl
@[go_sem] theorem aKW(t:TypeId)(x y:Operand)(b:Bool):fN (.lookup t x y b)=true:=cR rfl
@[go_sem] theorem aMZ(t:TypeId)(x y:Operand)(b:Bool):lM (.lookup t x y b)=[x,y]:=rfl
@[go_sem] theorem aM0(x:Operand):gV (.entry x)=true:=cR rfl
@[go_sem] theorem aM1(x:Operand):fN (.entry x)=true:=cR rfl
@[go_sem] theorem aR1(x:Operand):lM (.entry x)=[x]:=rfl
@[go_sem] theorem aFw(t:TypeId)(x y z:Operand):gV (.mapUpdate t x y z)=true:=cR rfl
@[go_sem] theorem aFx(t:TypeId)(x y z:Operand):fN (.mapUpdate t x y z)=true:=cR rfl
@[go_sem] theorem aHw(t:TypeId)(x y z:Operand):lM (.mapUpdate t x y z)=[x,y,z]:=rfl
@[go_sem] theorem aKX(t:TypeId)(x y z:Operand):gV (.insert t x y z)=true:=cR rfl
@[go_sem] theorem aKY(t:TypeId)(x y z:Operand):fN (.insert t x y z)=true:=cR rfl
@[go_sem] theorem aM2(t:TypeId)(x y z:Operand):lM (.insert t x y z)=[x,y,z]:=rfl
attribute [go_sem] aP pY
@[go_sem] theorem aYJ(s:List UInt8):aYy .string (.str s)=true:=cR rfl
@[go_sem] theorem aYK(k:IntKind)(n:Int):aYy (.int k) (.int k n)=true:=by simp[aYy]
section
variable (all os:List Oper) (α:AF) (H:AHeap) (k:AF→AHeap→Prop) (kp:AF→Prop) (dst:Option Tmp) (ty:TypeId) (pos:String) (after:Array Edge)
def aC0(P:Program)(all os:List Oper)(dst:Option Tmp)(α:AF)(k:AF→AHeap→Prop):AV→AHeap→Prop:=fun v H'=>fE P all os (bU dst v α) H' k
def aFy(P:Program)(all os:List Oper)(dst:Option Tmp)(g:Bool)(α:AF)(k:AF→AHeap→Prop):AV→AHeap→Prop:=fun v H=>fE P all os (bU dst (.opt g v) α) H k
def aBJ(P:Program)(all:List Oper)(H:AHeap)(os:List Oper)(dst:Option Tmp)(α:AF)(kp:AF→Prop):AV→Prop:=fun v=>dK P all H os (bU dst v α) kp
def aBK(P:Program)(all:List Oper)(H:AHeap)(os:List Oper)(dst:Option Tmp)(g:Bool)(α:AF)(kp:AF→Prop):AV→Prop:=fun v=>dK P all H os (bU dst (.opt g v) α) kp
def aKZ(P:Program)(all os:List Oper)(dst:Option Tmp)(α:AF)(H:AHeap)(k:AF→AHeap→Prop):AV→Prop:=fun v=>fE P all os (bU dst v α) H k
@[go_sem] theorem aYL:fE P all [] α H k=k α H:=rfl
@[go_sem] theorem aR2:dK P all H [] α kp=kp α:=rfl
@[go_sem] theorem aR3(x y z:Operand):fE P all (⟨dst,.pick x y z,ty,pos,after,none⟩::os) α H k=
  ((eC true (ev α x) (ev α y) (ev α z)).s∧fE P all os (bU dst (eC true (ev α x) (ev α y) (ev α z)).v α) H k):=rfl
@[go_sem] theorem aM3(f:Operand)(xs:Array Operand)(ts:Array TypeId):fE P all (⟨dst,.call ⟨.value f,xs,ts⟩,ty,pos,after,none⟩::os) α H k=
  jF P (ev α f) (xs.toList.map (ev α)) H (aC0 P all os dst α k):=rfl
@[go_sem] theorem aK0(r:Operand)(m:String)(xs:Array Operand)(ts:Array TypeId):fE P all (⟨dst,.call ⟨.invoke r m,xs,ts⟩,ty,pos,after,none⟩::os) α H k=
  jF P (dG P m (ev α r)) (xs.toList.map (ev α)) H (aC0 P all os dst α k):=rfl
@[go_sem] theorem aIg(r:Operand)(m:String)(xs:Array Operand)(ts:Array TypeId)(j:Nat)(w:Bool):fE P all (⟨dst,.call ⟨.invoke r m,xs,ts⟩,ty,pos,after,some (j,w)⟩::os) α H k=
  (mI (aG α (bV all j))∧cV (aY (aG α (bV all j)) w) α (r::xs.toList)∧
    xM P (aY (aG α (bV all j)) w) (dG P m (dU α r)) (xs.toList.map (dU α)) H (aFy P all os dst (aY (aG α (bV all j)) w) α k)):=rfl
@[go_sem] theorem aIh(r:Operand)(m:String)(xs:Array Operand)(ts:Array TypeId):dK P all H (⟨dst,.call ⟨.invoke r m,xs,ts⟩,ty,pos,after,none⟩::os) α kp=
  jE P true (dG P m (ev α r)) (xs.toList.map (ev α)) H (aBJ P all H os dst α kp):=rfl
@[go_sem] theorem aHx(r:Operand)(m:String)(xs:Array Operand)(ts:Array TypeId)(j:Nat)(w:Bool):dK P all H (⟨dst,.call ⟨.invoke r m,xs,ts⟩,ty,pos,after,some (j,w)⟩::os) α kp=
  (mI (aG α (bV all j))∧cV (aY (aG α (bV all j)) w) α (r::xs.toList)∧
    jE P (aY (aG α (bV all j)) w) (dG P m (dU α r)) (xs.toList.map (dU α)) H (aBK P all H os dst (aY (aG α (bV all j)) w) α kp)):=rfl
@[go_sem] theorem aM4(x y z:Operand)(j:Nat)(w:Bool):fE P all (⟨dst,.pick x y z,ty,pos,after,some (j,w)⟩::os) α H k=
  (mI (aG α (bV all j))∧((aY (aG α (bV all j)) w)=true→(eC (aY (aG α (bV all j)) w) (ev α x) (ev α y) (ev α z)).s)∧
    fE P all os (bU dst (.opt (aY (aG α (bV all j)) w) (eC (aY (aG α (bV all j)) w) (ev α x) (ev α y) (ev α z)).v) α) H k):=rfl
@[go_sem] theorem aK1(f:Operand)(xs:Array Operand)(ts:Array TypeId)(j:Nat)(w:Bool):fE P all (⟨dst,.call ⟨.value f,xs,ts⟩,ty,pos,after,some (j,w)⟩::os) α H k=
  (mI (aG α (bV all j))∧cV (aY (aG α (bV all j)) w) α (f::xs.toList)∧
   xM P (aY (aG α (bV all j)) w) (dU α f) (xs.toList.map (dU α)) H (aFy P all os dst (aY (aG α (bV all j)) w) α k)):=rfl
@[go_sem] theorem aM5(x y z:Operand):dK P all H (⟨dst,.pick x y z,ty,pos,after,none⟩::os) α kp=
  ((eC true (ev α x) (ev α y) (ev α z)).s∧dK P all H os (bU dst (eC true (ev α x) (ev α y) (ev α z)).v α) kp):=rfl
@[go_sem] theorem aK2(f:Operand)(xs:Array Operand)(ts:Array TypeId):dK P all H (⟨dst,.call ⟨.value f,xs,ts⟩,ty,pos,after,none⟩::os) α kp=
  jE P true (ev α f) (xs.toList.map (ev α)) H (aBJ P all H os dst α kp):=rfl
@[go_sem] theorem aK3(x y z:Operand)(j:Nat)(w:Bool):dK P all H (⟨dst,.pick x y z,ty,pos,after,some (j,w)⟩::os) α kp=
  (mI (aG α (bV all j))∧((aY (aG α (bV all j)) w)=true→(eC (aY (aG α (bV all j)) w) (ev α x) (ev α y) (ev α z)).s)∧
    dK P all H os (bU dst (.opt (aY (aG α (bV all j)) w) (eC (aY (aG α (bV all j)) w) (ev α x) (ev α y) (ev α z)).v) α) kp):=rfl
@[go_sem] theorem aIi(f:Operand)(xs:Array Operand)(ts:Array TypeId)(j:Nat)(w:Bool):dK P all H (⟨dst,.call ⟨.value f,xs,ts⟩,ty,pos,after,some (j,w)⟩::os) α kp=
  (mI (aG α (bV all j))∧cV (aY (aG α (bV all j)) w) α (f::xs.toList)∧
   jE P (aY (aG α (bV all j)) w) (dU α f) (xs.toList.map (dU α)) H (aBK P all H os dst (aY (aG α (bV all j)) w) α kp)):=rfl
@[go_sem] theorem aR4(x:Operand):fE P all (⟨dst,.next x false,ty,pos,after,none⟩::os) α H k=aKM (ev α x) H (aC0 P all os dst α k):=rfl
@[go_sem] theorem aM6(op:BinOp)(t t':TypeId)(x y:Operand):fE P all (⟨dst,.binOp op t x y t',ty,pos,after,none⟩::os) α H k=
  bif fU op&&kU y then aFi P t H (ev α x) (aKZ P all os dst α H k)
  else((uM P (isK x||isK y) op t (ev α x) (ev α y)).s∧fE P all os (bU dst (uM P (isK x||isK y) op t (ev α x) (ev α y)).v α) H k):=rfl
@[go_sem] theorem aYM(op:Op)(h:gV op=true):fE P all (⟨dst,op,ty,pos,after,none⟩::os) α H k=
  ((aP P op (ev α) H).s∧fE P all os (bU dst (aP P op (ev α) H).v α) (aP P op (ev α) H).H k):=by
 cases op<;>first|rfl|(cases h;done)|skip
 ·rename_i x b;cases b<;>first|rfl|cases h
 ·rename_i c;obtain⟨ce,xs,ts⟩:=c;cases ce<;>first|rfl|cases h
@[go_sem] theorem aR5(op:Op)(j:Nat)(w:Bool)(h:fN op=true):fE P all (⟨dst,op,ty,pos,after,some (j,w)⟩::os) α H k=
  (mI (aG α (bV all j))∧cV (aY (aG α (bV all j)) w) α (lM op)∧(aY (aG α (bV all j)) w=true→(aP P op (dU α) H).s∧(aP P op (dU α) H).H=H)∧
   fE P all os (bU dst (.opt (aY (aG α (bV all j)) w) (aP P op (dU α) H).v) α) H k):=by
 cases op<;>first|rfl|(cases h;done)|skip
 rename_i c;obtain⟨ce,xs,ts⟩:=c;cases ce<;>first|rfl|cases h
@[go_sem] theorem aR6(op:Op)(h:fN op=true):dK P all H (⟨dst,op,ty,pos,after,none⟩::os) α kp=
  ((aP P op (ev α) H).s∧(aP P op (ev α) H).H=H∧dK P all H os (bU dst (aP P op (ev α) H).v α) kp):=by
 cases op<;>first|rfl|(cases h;done)|skip
 rename_i c;obtain⟨ce,xs,ts⟩:=c;cases ce<;>first|rfl|cases h
@[go_sem] theorem aM7(op:Op)(j:Nat)(w:Bool)(h:fN op=true):dK P all H (⟨dst,op,ty,pos,after,some (j,w)⟩::os) α kp=
  (mI (aG α (bV all j))∧cV (aY (aG α (bV all j)) w) α (lM op)∧(aY (aG α (bV all j)) w=true→(aP P op (dU α) H).s∧(aP P op (dU α) H).H=H)∧
   dK P all H os (bU dst (.opt (aY (aG α (bV all j)) w) (aP P op (dU α) H).v) α) kp):=by
 cases op<;>first|rfl|(cases h;done)|skip
 rename_i c;obtain⟨ce,xs,ts⟩:=c;cases ce<;>first|rfl|cases h
end
attribute [go_sem] true_and and_true implies_true and_self not_true_eq_false Bool.not_true Bool.not_false eq_self decide_true decide_false Bool.true_eq_false Bool.false_eq_true
 List.getD_cons_zero List.getD_cons_succ List.getD_nil List.set_cons_zero List.set_cons_succ List.length_cons List.length_nil List.length_append List.append_assoc List.cons_append List.nil_append List.append_nil
 List.drop_zero List.drop_succ_cons List.drop_nil List.take_zero List.take_succ_cons List.take_nil Option.map_some Option.map_none Nat.zero_add Nat.add_zero Nat.add_assoc
 List.size_toArray List.toList_toArray Int.toNat_natCast Array.toList_append Array.toList_empty
@[go_sem] theorem iF(h L:AHeap):hget (h++L) h.length=L.getD 0 .gone:=by
 simp only[hget,List.getD_eq_getElem?_getD];rw[List.getElem?_append_right (Nat.le_refl _)];simp
@[go_sem] theorem mQ(h L:AHeap)(k:Nat):hget (h++L) (h.length+k)=L.getD k .gone:=by
 simp only[hget,List.getD_eq_getElem?_getD];rw[List.getElem?_append_right (by omega)];simp
@[go_sem] theorem xO(h L:AHeap)(b:ABlk):aD (h++L) h.length b=h++L.set 0 b:=by
 simp[aD]
@[go_sem] theorem uU(h L:AHeap)(k:Nat)(b:ABlk):aD (h++L) (h.length+k) b=h++L.set k b:=by
 simp[aD]
section
variable (P) (t:TypeId) (k:IntKind) (a b:Int) (s u:List UInt8) (x y:Bool)
@[go_sem] theorem aYN:dF P .add t (.int k a) (.int k b)=⟨.int k (k.wrap (a+b)),True⟩:=by simp[dF,cS]
@[go_sem] theorem aYO:dF P .sub t (.int k a) (.int k b)=⟨.int k (k.wrap (a-b)),True⟩:=by simp[dF,cS]
@[go_sem] theorem aYP:dF P .mul t (.int k a) (.int k b)=⟨.int k (k.wrap (a * b)),True⟩:=by simp[dF,cS]
@[go_sem] theorem aYQ:dF P .quo t (.int k a) (.int k b)=⟨.int k (k.wrap (a.tdiv b)),b≠0⟩:=by simp[dF,cS]
@[go_sem] theorem aYR:dF P .rem t (.int k a) (.int k b)=⟨.int k (a.tmod b),b≠0⟩:=by simp[dF,cS]
@[go_sem] theorem aYS:dF P .and t (.int k a) (.int k b)=⟨.int k (dZ .and k a b),True⟩:=by simp[dF,cS]
@[go_sem] theorem bCy:dF P .or t (.int k a) (.int k b)=⟨.int k (dZ .or k a b),True⟩:=by simp[dF,cS]
@[go_sem] theorem aYT:dF P .xor t (.int k a) (.int k b)=⟨.int k (dZ .xor k a b),True⟩:=by simp[dF,cS]
@[go_sem] theorem aYU:dF P .eql t (.int k a) (.int k b)=⟨.bool (decide (a=b)),True⟩:=by simp[dF,cS]
@[go_sem] theorem aYV:dF P .neq t (.int k a) (.int k b)=⟨.bool (!decide (a=b)),True⟩:=by simp[dF,cS]
@[go_sem] theorem aYW:dF P .lss t (.int k a) (.int k b)=⟨.bool (decide (a<b)),True⟩:=by simp[dF,cS]
@[go_sem] theorem aYX:dF P .leq t (.int k a) (.int k b)=⟨.bool (decide (a≤b)),True⟩:=by simp[dF,cS]
@[go_sem] theorem aYY:dF P .gtr t (.int k a) (.int k b)=⟨.bool (decide (b<a)),True⟩:=by simp[dF,cS]
@[go_sem] theorem aYZ:dF P .geq t (.int k a) (.int k b)=⟨.bool (decide (b≤a)),True⟩:=by simp[dF,cS]
@[go_sem] theorem aY0(k':IntKind):dF P .shl t (.int k a) (.int k' b)=⟨.int k (k.wrap (a * 2 ^ (min b.toNat k.bits))),0≤b⟩:=by simp[dF,cS]
@[go_sem] theorem aY1(k':IntKind):dF P .shr t (.int k a) (.int k' b)=⟨.int k (a.fdiv (2 ^ (min b.toNat k.bits))),0≤b⟩:=by simp[dF,cS]
@[go_sem] theorem aR7:dF P .add t (.str s) (.str u)=⟨.str (s++u),s.length+u.length≤9223372036854775807⟩:=by simp[dF,pU]
@[go_sem] theorem aR8:dF P .eql t (.str s) (.str u)=⟨.bool (decide (s=u)),True⟩:=by simp[dF,pU]
@[go_sem] theorem aR9:dF P .neq t (.str s) (.str u)=⟨.bool (!decide (s=u)),True⟩:=by simp[dF,pU]
@[go_sem] theorem aSa:dF P .eql t (.bool x) (.bool y)=⟨.bool (x==y),P.underlying t=some .bool⟩:=by simp[dF]
@[go_sem] theorem aSb:dF P .neq t (.bool x) (.bool y)=⟨.bool (!(x==y)),P.underlying t=some .bool⟩:=by simp[dF]
@[go_sem] theorem aSc(xs ys:List AV):dF P .eql t (.agg xs) (.agg ys)=⟨.bool (aEq P 30 t (.agg xs) (.agg ys)).b,P.eqGuardType P.depth t=false∧(aEq P 30 t (.agg xs) (.agg ys)).s⟩:=by simp[dF]
@[go_sem] theorem aSd(xs ys:List AV):dF P .neq t (.agg xs) (.agg ys)=⟨.bool (!(aEq P 30 t (.agg xs) (.agg ys)).b),P.eqGuardType P.depth t=false∧(aEq P 30 t (.agg xs) (.agg ys)).s⟩:=by simp[dF]
end
@[go_sem] theorem aSe(cs:List AV):(AV.agg cs).cells=cs:=rfl
@[go_sem] theorem aSf(k:IntKind)(n:Int):AV.cells (.int k n)=[.int k n]:=rfl
@[go_sem] theorem aM8(b:Bool):AV.cells (.bool b)=[.bool b]:=rfl
@[go_sem] theorem aSg(s:List UInt8):AV.cells (.str s)=[.str s]:=rfl
@[go_sem] theorem aSh(cs:List AV):AV.cells (.tup cs)=[.tup cs]:=rfl
@[go_sem] theorem aY2(f:Bool)(es:List AV):AV.cells (.sl f es)=[.sl f es]:=rfl
@[go_sem] theorem aM9(cs:List AV):AV.cells (.cptr cs)=[.cptr cs]:=rfl
@[go_sem] theorem aSi(i v o:Nat):AV.cells (.ref i v o)=[.ref i v o]:=rfl
@[go_sem] theorem aSj(a b c d e f:Nat):AV.cells (.osl a b c d e f)=[.osl a b c d e f]:=rfl
@[go_sem] theorem aIj:AV.cells (.nilptr)=[.nilptr]:=rfl
@[go_sem] theorem aSk(i:Nat):AV.cells (.map i)=[.map i]:=rfl
@[go_sem] theorem aIk:AV.cells (.nilmap)=[.nilmap]:=rfl
@[go_sem] theorem aNa(i:Nat):AV.cells (.iter i)=[.iter i]:=rfl
@[go_sem] theorem aNb(f:Fn)(a b:List AV):AV.cells (.func f a b)=[.func f a b]:=rfl
@[go_sem] theorem aHy:AV.cells (.nilfunc)=[.nilfunc]:=rfl
@[go_sem] theorem aK4(t:TypeId)(x:AV):AV.cells (.iface t x)=[.iface t x]:=rfl
@[go_sem] theorem aFz:AV.cells (.nilIface)=[.nilIface]:=rfl
@[go_sem] theorem aSl(g:Bool)(x:AV):AV.cells (.opt g x)=[.opt g x]:=rfl
@[go_sem] theorem aSm:AV.cells (.top)=[.top]:=rfl
@[go_sem] theorem aSn{α:Type}:(none:Option α).toArray.toList=[]:=rfl
@[go_sem] theorem aSo{α:Type}(x:α):(some x).toArray.toList=[x]:=rfl
@[go_sem] theorem aSp:fU .eql=true:=rfl
@[go_sem] theorem aSq:fU .neq=false:=rfl
@[go_sem] theorem aSr:fU .add=false:=rfl
@[go_sem] theorem aSs:fU .sub=false:=rfl
@[go_sem] theorem aSt:fU .mul=false:=rfl
@[go_sem] theorem aSu:fU .quo=false:=rfl
@[go_sem] theorem aSv:fU .rem=false:=rfl
@[go_sem] theorem aSw:fU .and=false:=rfl
@[go_sem] theorem aY3:fU .or=false:=rfl
@[go_sem] theorem aSx:fU .xor=false:=rfl
@[go_sem] theorem aIl:fU .andNot=false:=rfl
@[go_sem] theorem aSy:fU .shl=false:=rfl
@[go_sem] theorem aSz:fU .shr=false:=rfl
@[go_sem] theorem aSA:fU .lss=false:=rfl
@[go_sem] theorem aSB:fU .leq=false:=rfl
@[go_sem] theorem aSC:fU .gtr=false:=rfl
@[go_sem] theorem aSD:fU .geq=false:=rfl
@[go_sem] theorem aNc(t:Nat):kU (.tmp t)=false:=rfl
@[go_sem] theorem aHz(t:Nat):kU (.global t)=false:=rfl
@[go_sem] theorem aK5(t:Nat):kU (.func t)=false:=rfl
@[go_sem] theorem aIm(v:Value):kU (.const v)=jD v:=rfl
@[go_sem] theorem aNd(k:IntKind)(n:Int):jD (.int k n)=false:=rfl
@[go_sem] theorem aK6(b:Bool):jD (.bool b)=false:=rfl
@[go_sem] theorem aNe(s:ByteArray):jD (.string s)=false:=rfl
@[go_sem] theorem aK7:jD .nilIface=false:=rfl
@[go_sem] theorem aK8:jD .nilFunc=false:=rfl
@[go_sem] theorem aNf(a:Option Addr):jD (.pointer a)=false:=rfl
@[go_sem] theorem aNg(a:Option Nat):jD (.map a)=false:=rfl
@[go_sem] theorem aNh(a:Array Value):jD (.agg a)=false:=rfl
@[go_sem] theorem aSE:jD (.slice none 0 0)=true:=rfl
attribute [go_sem] aFi
attribute [go_sem] aMw bEJ isK aBB uM aBA aYw bDY bDZ aYx dG aFc aHW bD1 bD0 iD bEF aHX bEG aHY bEH aHZ bEI tP aYz aFe bD2
section
variable {P:Program}
@[go_sem] theorem aIn(ts tx:TypeId)(f:Bool)(x:AV)(H:AHeap):pV P ts tx (.sl f []) x H=tR P ts tx (.sl f []) x H:=rfl
@[go_sem] theorem aIo(ts tx:TypeId)(s i v o l c:Nat)(x:AV)(H:AHeap):pV P ts tx (.osl s i v o l c) x H=tR P ts tx (.osl s i v o l c) x H:=rfl
@[go_sem] theorem aHA(ts tx:TypeId)(f:Bool)(e0:AV)(es:List AV)(x:AV)(H:AHeap):pV P ts tx (.sl f (e0::es)) x H=(if aFa x=0 then(match P.underlying ts with
   |some (.slice e)=>⟨.sl f (e0::es),H,aS P e=true∧aL P tx=true∧aYv x (P.cellsOf e) H⟩
   |_=>⟨.top,H,False⟩)else tR P ts tx (.sl f (e0::es)) x H):=rfl
end
section
@[go_sem] theorem aNi(k:IntKind)(n:Int):kT (.int k n)=false:=rfl
@[go_sem] theorem aK9(b:Bool):kT (.bool b)=false:=rfl
@[go_sem] theorem aNj(s:List UInt8):kT (.str s)=false:=rfl
@[go_sem] theorem aNk(s:List AV):kT (.agg s)=false:=rfl
@[go_sem] theorem aIp(t:TypeId)(x:AV):kT (.iface t x)=false:=rfl
@[go_sem] theorem aNl:kT .nilIface=true:=rfl
end
@[go_sem] theorem aNm(cs:List AV)(n:Nat):cT cs n []=cs:=by simp[cT]
@[go_sem] theorem aLa(c x:AV)(cs xs:List AV):cT (c::cs) 0 (x::xs)=x::cT cs 0 xs:=by simp[cT]
@[go_sem] theorem aLb(c:AV)(cs xs:List AV)(n:Nat):cT (c::cs) (n+1) xs=c::cT cs n xs:=by
 simp[cT,Nat.add_right_comm n 1]
attribute [go_sem] bDW AV.known AV.one sQ uJ aBz uK uL tQ aMr aMo aMp aYt tR aFa aYu aYv aAu mM pW aDP aDQ iX aE9 bEE bDX kZ aFh apart
 aun eC xL aAx oH isB aY mI false_implies aFl aH2 aDU aG cV bV aMn tP aEq uI List.all_cons List.all_nil Bool.and_true Bool.true_and Bool.and_false Bool.false_and Bool.or_false Bool.or_true Bool.false_or Bool.true_or Bool.not_not
 List.flatMap_cons List.flatMap_nil List.flatMap_nil ge_iff_le gt_iff_lt beq_self_eq_true BEq.rfl List.mem_cons List.not_mem_nil forall_eq_or_imp forall_const or_false false_or ne_eq reduceCtorEq
@[go_sem] theorem bCz(a b:Nat):Nat.ble a b=decide (a≤b):=by
 rw[Bool.eq_iff_iff];simp
attribute [go_sem] decide_true decide_false Bool.cond_true Bool.cond_false
@[go_sem] theorem bD3{α:Type}(a b:α):(bif true then a else b)=a:=rfl
@[go_sem] theorem bD4{α:Type}(a b:α):(bif false then a else b)=b:=rfl
@[go_sem] theorem aY4(b x:Bool):(bif b then x else false)=(b&&x):=by cases b<;>rfl
@[go_sem] theorem bCA(b x:Bool):(bif b then true else x)=(b||x):=by cases b<;>rfl
@[go_sem] theorem aY5(p:Prop):(p→p)=True:=by simp
@[go_sem] theorem aY6(a b:Bool):((a&&b)=true→a=true)=True:=by cases a<;>simp
@[go_sem] theorem aY7(a b:Bool):(a=true→b=true→(a&&b)=true)=True:=by cases a<;>simp
@[go_sem] theorem aY8(a b:Bool):(a=true→b=false→(a&& !b)=true)=True:=by cases a<;>simp
@[go_sem] theorem bCB(b:Bool):(b=false→(!b)=true)=True:=by simp
@[go_sem] theorem aY9(p:Prop):(True→p)=p:=by simp
@[go_sem] theorem aLc(p:Prop)[Decidable p]:(decide p=true)=p:=by simp
@[go_sem] theorem aLd(p:Prop)[Decidable p]:(decide p=false)=¬p:=by simp
@[go_sem] theorem aZa(b:Bool):((!b)=true)=(b=false):=by simp
@[go_sem] theorem aZb(b:Bool):((!b)=false)=(b=true):=by simp
@[go_sem] theorem aZc(a b:Bool):((a&&b)=true)=(a=true∧b=true):=by simp
@[go_sem] theorem bCC(a b:Bool):((a||b)=false)=(a=false∧b=false):=by simp
end Go.Aw
/- The abstract machine: calls by contract, and integers that do not wrap. No condition. -/
namespace Go.Aw
open Go
variable {P:Program}
theorem aV{f:FuncId}{args:List AV}{H:AHeap}{x:AV}{k:AV→AHeap→Prop}(h:cN P f args H x)(ok:aA P f=true)(hk:k x H):jF P (.func (.func f) [] []) args H k:=
 Or.inl ⟨ok,by
  simp only[List.nil_append,List.append_nil]
  exact h.mono fun y H' ⟨e1,e2⟩=>by subst e1;subst e2;exact hk⟩
theorem bJ{f:FuncId}{args:List AV}{H:AHeap}{R:AV→AHeap→Prop}{k:AV→AHeap→Prop}(h:ACalls P f args H R)(ok:aA P f=true)(hk:∀x H',R x H'→k x H'):jF P (.func (.func f) [] []) args H k:=
 Or.inl ⟨ok,by
  simp only[List.nil_append,List.append_nil]
  exact h.mono hk⟩
theorem aW{g:Bool}{f:FuncId}{args:List AV}{H:AHeap}{x:AV}{K:AV→Prop}(h:cN P f args H x)(ok:aA P f=true)(hk:K x):jE P g (.func (.func f) [] []) args H K:=
 ⟨x,fun _=>Or.inl ⟨ok,by
  simp only[List.nil_append,List.append_nil]
  exact h⟩,hk⟩
theorem aIq{l:Nat}{args:List AV}{H:AHeap}{K:AV→AHeap→Prop}(h:jF P (.func (.yield l) [] []) args H K):xM P true (.func (.yield l) [] []) args H K:=Or.inr ⟨rfl,h⟩
theorem aIr{g:Bool}{f:AV}{args:List AV}{H:AHeap}{K:AV→AHeap→Prop}(h:jE P g f args H (fun v=>K v H)):xM P g f args H K:=Or.inl h
theorem aQ{f:FuncId}{fn:Func}{code:Code}{args:List AV}{H:AHeap}{x:AV}(hf:P.funcs[f]?=some fn)(hb:fn.body=some code)(hn:args.length≤fn.ntmps)
  (h:aw P fn.ntmps code (aAA P fn.results.toList fun v H'=>∃L y,H'=H++L∧Frz H.length H' v y∧y=x) (fW 0 args) H):cN P f args H x:=
 aFm hf hb hn h
theorem wrap_i64{n:Int}(h1: -9223372036854775808≤n)(h2:n≤9223372036854775807):IntKind.i64.wrap n=n:=by
 simp only[IntKind.wrap,IntKind.signed,IntKind.bits,Bool.true_and]
 split
 ·rename_i h;have h:=of_decide_eq_true h;omega
 ·rename_i h;have h:¬n % 2 ^ 64≥2 ^ (64-1):=fun q=>h (decide_eq_true q);omega
def mR:Nat→AV→Bool
 |_,.int _ _|_,.bool _|_,.str _|_,.nilptr|_,.nilmap|_,.nilfunc|_,.nilIface|_,.top=>true
 |k+1,.agg cs=>cs.all (mR k)
 |k+1,.tup cs=>cs.all (mR k)
 |k+1,.iface _ x=>mR k x
 |_,_=>false
theorem aAC{n:Nat}:∀(k:Nat) {x:AV},mR k x=true→Cl n x:=by
 intro k
 induction k with
 |zero=>
  intro x h
  cases x<;>first|(simp[mR]at h;done)|constructor
 |succ k ih=>
  intro x h
  cases x<;>first
   |(simp[mR]at h;done)
   |(rename_i cs;exact .agg cs fun i y hy=>ih (List.all_eq_true.1 h y (List.mem_of_getElem? hy)))
   |(rename_i cs;exact .tup cs fun i y hy=>ih (List.all_eq_true.1 h y (List.mem_of_getElem? hy)))
   |(rename_i t y;exact .iface t y (ih h))
   |constructor
theorem oK{n k:Nat}{H L:AHeap}{v x:AV}(hk:mR k v=true)(he:v=x):∃L' y,H++L=H++L'∧Frz n (H++L) v y∧y=x:=
 ⟨L,v,rfl,.cl _ (aAC k hk),he⟩
theorem aAD{n k:Nat}{H:AHeap}{v x:AV}(hk:mR k v=true)(he:v=x):∃L' y,H=H++L'∧Frz n H v y∧y=x:=
 ⟨[],v,(List.append_nil H).symm,.cl _ (aAC k hk),he⟩
@[go_sem] def aAE:AF→AF→Prop
 |[],_=>True
 |(k,v)::β,α=>look α k=v∧aAE β α
theorem iG{α:AF}:∀{β:AF},aAE β α→∀t,look β t=.top∨look β t=look α t
 |[],_,t=>.inl rfl
 |(k,v)::β,h,t=>by
  rw[xN]
  by_cases e:k=t
  ·subst e;rw[if_pos rfl];exact .inr h.1.symm
  ·rw[if_neg e];exact iG h.2 t
def aC1{ι:Type}(F:ι→AF)(Hp:ι→AHeap)(pre:ι→Prop)(m:ι→Nat)(x:ι)(Q:bL):bL
 |.normal,α,H=>∃y,pre y∧m y<m x∧aAE (F y) α∧H=Hp y
 |e,α,H=>Q e α H
section
variable {ι:Type} (F:ι→AF) (Hp:ι→AHeap) (pre:ι→Prop) (m:ι→Nat) (x:ι) (Q:bL) (α:AF) (H:AHeap)
@[go_sem] theorem aIs:aC1 F Hp pre m x Q .normal α H=∃y,pre y∧m y<m x∧aAE (F y) α∧H=Hp y:=rfl
@[go_sem] theorem aNn(i:Nat):aC1 F Hp pre m x Q (.exit i) α H=Q (.exit i) α H:=rfl
@[go_sem] theorem aSF:aC1 F Hp pre m x Q .ret α H=Q .ret α H:=rfl
end
theorem aR{N:Nat}{body:Code}{Q:bL}{α:AF}{H:AHeap}{ι:Type}(F:ι→AF)(Hp:ι→AHeap)(pre:ι→Prop)(m:ι→Nat)(x₀:ι)(h0:pre x₀)
  (hF:aAE (F x₀) α) (hH:H=Hp x₀) (round:∀x,pre x→aw P N body (aC1 F Hp pre m x Q) (F x) (Hp x)):aw P N (.loop body) Q α H:=
 aHN F Hp pre m x₀ h0 (iG hF) hH fun x hx=>tO (round x hx)fun e α' H' h=>by
  cases e<;>first
   |exact h
   |(obtain⟨y,h1,h2,h3,h4⟩:=h;exact⟨y,h1,h2,iG h3,h4⟩)
end Go.Aw
/- The abstract machine: a slice that is not written any more becomes fixed. No condition. -/
namespace Go.Aw
open Go
variable {P:Program}
def Ctx.stop(c:Ctx)(i:Nat):Ctx:=
 {w:=c.w,n:=c.n,blk:=c.blk,ver:=fun j=>if j=i then c.ver i+1 else c.ver j,vd:=fun j=>if j=i then true else c.vd j,stable:=fun b=>c.stable b∨(c.vd i=false∧b=c.blk i),base:=c.base}
theorem Ext.stop(c:Ctx)(i:Nat):Ext c (c.stop i)where
 n:=Nat.le_refl _
 size:=Nat.le_refl _
 st:=fun _ h=>⟨.inl h,rfl⟩
 ver:=fun j _=>by
  simp only[Ctx.stop];split
  ·rename_i h;subst h;omega
  ·omega
 blk:=fun j _ he=>by
  simp only[Ctx.stop]at he ⊢
  by_cases h:j=i
  ·subst h;rw[if_pos rfl]at he;omega
  ·simp[h]
 os:=rfl
 tape:=rfl
 output:=rfl
 base:=rfl
theorem St.stop{c:Ctx}{H:AHeap}{i v:Nat}{cs:List AV}(h:St c H)(hh:hget H i=.cells v cs)(hv:v≠0):St (c.stop i) (aD H i .gone):=by
 have hi:H[i]?=some (.cells v cs):=cZ hh trivial
 have hlt:i<c.n:=by rw[h.n];exact bP hh trivial
 have hver:c.ver i=v:=h.ver_eq hh
 have hget:∀{j b},(aD H i .gone)[j]?=some b→b.live→j≠i∧H[j]?=some b:=by
  intro j b hj hb
  by_cases e:j=i
  ·subst e
   rw[aD,List.getElem?_set_self (by rw[←h.n];exact hlt)]at hj
   cases hj;exact hb.elim
  ·rw[aD,List.getElem?_set_ne (fun q=>e q.symm)]at hj
   exact⟨e,hj⟩
 constructor
 ·simp[aD,Ctx.stop,h.n]
 ·intro j hj hd
  simp only[Ctx.stop]at hd ⊢
  split at hd
  ·cases hd
  ·exact h.lt j hj hd
 ·intro j k b b' hj hk hb hb' dj dk he
  obtain⟨n1,g1⟩:=hget hj hb
  obtain⟨n2,g2⟩:=hget hk hb'
  simp only[Ctx.stop,if_neg n1,if_neg n2]at dj dk he
  exact h.inj j k b b' g1 g2 hb hb' dj dk he
 ·intro k hk
  rcases hk with hk|⟨hd,rfl⟩
  ·obtain⟨h1,h2⟩:=h.st k hk
   refine⟨h1,fun j b hj hb dj=>?_⟩
   obtain⟨n1,g1⟩:=hget hj hb
   simp only[Ctx.stop,if_neg n1]at dj
   exact h2 j b g1 hb dj
  ·refine⟨h.lt i hlt hd,fun j b hj hb dj e=>?_⟩
   obtain⟨n1,g1⟩:=hget hj hb
   simp only[Ctx.stop,if_neg n1]at dj
   exact n1 (h.inj j i b _ g1 hi hb trivial dj hd e)
 ·intro j b hj
  by_cases e:j=i
  ·subst e
   rw[aD,List.getElem?_set_self (by rw[←h.n];exact hlt)]at hj
   cases hj
   exact .gone (by simp[Ctx.stop])
  ·rw[aD,List.getElem?_set_ne (fun q=>e q.symm)]at hj
   have hx:=Ext.stop c i
   cases h.rep j b hj with
   |cells ver cs vs ty fr q1 q2 q3 q4 q5 q6=>exact .cells ver cs vs _ fr (by simpa[Ctx.stop,e]using q1) (by simpa[Ctx.stop,e]using q2) q3 q4 q5 fun k x u p q=>(q6 k x u p q).mono hx
   |void ver q1 q2=>exact .void ver (by simpa[Ctx.stop,e]using q1) (by simpa[Ctx.stop,e]using q2)
   |map es clock ents q1 q2 q3 q4 q5=>exact .map es clock ents (by simpa[Ctx.stop,e]using q1) (by simpa[Ctx.stop,e]using q2) q3 q4 fun k p u g1 g2=>let⟨r1,r2,r3⟩:=q5 k p u g1 g2;⟨r1.mono hx,r2.mono hx,r3⟩
   |miter m since seen stepped q1 q2 q3 q4 q5 q6=>
    have hm:m≠i:=fun r=>by subst r;omega
    exact .miter m since seen stepped (by simpa[Ctx.stop,e]using q1) (by simpa[Ctx.stop,e]using q2) q3 (by simpa[Ctx.stop,hm]using q4) (by simpa[Ctx.stop,hm]using q5) q6
   |siter s pos q1 q2 q3 q4=>exact .siter s pos (by simpa[Ctx.stop,e]using q1) (by simpa[Ctx.stop,e]using q2) q3 q4
   |loop l α N st pe ps ars bd fn D ts q1 q2 q3 q4 q5 q6=>exact .loop l α N st pe ps ars bd fn D ts (by simpa[Ctx.stop,e]using q1) (by simpa[Ctx.stop,e]using q2) q3 q4 q5 fun t=>(q6 t).mono hx
   |gone q1=>exact .gone (by simpa[Ctx.stop,e]using q1)
theorem qC{s:Nat}:∀{es:List AV},(∀e∈es,e.cells.length=s)→∀{k j:Nat} {e x:AV},es[k]?=some e→e.cells[j]?=some x→(es.flatMap AV.cells)[k * s+j]?=some x
 |[],_,k,j,e,x,hk,_=>by simp at hk
 |e0::es,hs,0,j,e,x,hk,hj=>by
  simp only[List.getElem?_cons_zero,Option.some.injEq]at hk
  subst hk
  have:=(List.getElem?_eq_some_iff.1 hj).1
  rw[Nat.zero_mul,Nat.zero_add,List.flatMap_cons,List.getElem?_append_left this]
  exact hj
 |e0::es,hs,k+1,j,e,x,hk,hj=>by
  rw[List.getElem?_cons_succ]at hk
  have h0:=hs e0 (by simp)
  rw[List.flatMap_cons,List.getElem?_append_right (by rw[h0,Nat.add_mul];omega),h0,show(k+1) * s+j-s=k * s+j by rw[Nat.add_mul];omega]
  exact qC (fun e he=>hs e (by simp[he])) hk hj
theorem qD{s:Nat}:∀{es:List AV},(∀e∈es,e.cells.length=s)→(es.flatMap AV.cells).length=es.length * s
 |[],_=>by simp
 |e0::es,hs=>by
  rw[List.flatMap_cons,List.length_append,hs e0 (by simp),qD (fun e he=>hs e (by simp[he])),List.length_cons,Nat.add_mul];omega
theorem aFA{c:Ctx}{H:AHeap}{i v s lc:Nat}{cs es:List AV}{val:Value}(h:St c H)(hh:hget H i=.cells v cs)(rest:List AV)(hcs:cs=es.flatMap AV.cells++rest)(hs:∀e∈es,e.cells.length=s)
  (hx:Rep c (.osl s i v 0 es.length lc) val):Rep (c.stop i) (.sl false es) val:=by
 have hver:=h.ver_eq hh
 obtain⟨base,cap,rfl,g1,g1',g2,g3⟩:=hx.osl_inv hver
 cases hd:c.vd i with
 |true=>
  obtain⟨q1,rfl⟩:=g2 hd
  have:es=[]:=List.eq_nil_of_length_eq_zero q1
  subst this
  exact .sl _ _ _ _ _ s (fun _ _=>undef) rfl (Nat.le_refl _) (fun h=>by cases h) (fun h=>absurd rfl h) (by simp) (by simp) (by simp)
 |false=>
  obtain⟨p1,m,p2,p3⟩:=g3 hd
  obtain⟨_,_,vs,e,fr,hb,hl',hf,hrr⟩:=h.cells hh hd
  have hfl:=qD hs
  refine .sl _ _ _ _ _ s (fun k j=>vs.getD (k * s+j) undef) rfl (by omega) (fun h=>by cases h) (fun hne=>?_) hs (fun k x j y hk hj=>?_) (by have:=hx.osl_R;omega)
  ·have hlen:0<es.length:=List.length_pos_iff.2 hne
   have hbase:base=some ⟨c.blk i,0,none⟩:=p1.resolve_left (by omega)
   refine⟨_,hbase,rfl,.inr ⟨hd,rfl⟩,fun k j hk hj=>?_⟩
   have h5:k * s+j<es.length * s:=by
    have:(k+1) * s≤es.length * s:=Nat.mul_le_mul_right s (by omega)
    rw[Nat.add_mul]at this
    omega
   have hlt:k * s+j<vs.size:=by rw[hcs,List.length_append]at hl';omega
   rw[rB]
   show(c.w.cell? _)=_
   rw[jO hb]
   simp[hlt]
  ·have hc0:=qC hs hk hj
   have hlt0:=(List.getElem?_eq_some_iff.1 hc0).1
   have hc:cs[k * s+j]?=some y:=by rw[hcs,List.getElem?_append_left hlt0];exact hc0
   have hlt:=(List.getElem?_eq_some_iff.1 hc).1
   exact(hrr _ _ _ hc (by simp[show k * s+j<vs.size by omega])).mono (Ext.stop c i)
theorem xP(y:AV)(α:AF)(t:Nat):∀ts:List Nat,look (ts.map (fun t=>(t,y))++α) t=if t∈ts then y else look α t
 |[]=>by simp
 |d::ts=>by
  rw[List.map_cons,List.cons_append,xN,xP y α t ts]
  by_cases e:d=t
  ·subst e;simp
  ·have:¬t=d:=fun q=>e q.symm
   simp[e,this]
theorem aBL{N:Nat}{code:Code}{Q:bL}{α:AF}{H:AHeap}{i v s lc:Nat}{cs:List AV}(ts:List Nat)(es rest:List AV)(hx:∀t∈ts,look α t=.osl s i v 0 es.length lc)(hh:hget H i=.cells v cs)(hv:v≠0)
  (hcs:cs=es.flatMap AV.cells++rest) (hs:∀e∈es,e.cells.length=s) (h:aw P N code Q (ts.map (fun t=>(t,.sl false es))++α) (aD H i .gone)):aw P N code Q α H:=by
 intro r c a hr hst ha
 have hx':=Ext.stop c i
 refine wpIn_mono (h r (c.stop i) a hr (hst.stop hh hv) ⟨ha.size,ha.defers.mono hx',fun t=>?_⟩)fun _ _ _ ⟨c',α',H',e1,e2,e3,e4,e5⟩=>⟨c',α',H',e1,e2,hx'.trans e3,e4,e5⟩
 rw[xP]
 by_cases ht:t∈ts
 ·rw[if_pos ht]
  have hr:=ha.rep t
  rw[hx t ht]at hr
  exact aFA hst hh rest hcs hs hr
 ·rw[if_neg ht]
  exact(ha.rep t).mono hx'
theorem xQ{N:Nat}{code:Code}{Q:bL}{α:AF}{H:AHeap}{i v s lc:Nat}{cs:List AV}(ts:List Nat)(es:List AV)(hx:∀t∈ts,look α t=.osl s i v 0 es.length lc)(hh:hget H i=.cells v cs)(hv:v≠0)
  (hcs:cs=es.flatMap AV.cells) (hs:∀e∈es,e.cells.length=s) (h:aw P N code Q (ts.map (fun t=>(t,.sl false es))++α) (aD H i .gone)):aw P N code Q α H:=
 aBL ts es [] hx hh hv (by rw[hcs,List.append_nil]) hs h
end Go.Aw
/- The abstract machine: what the representation tells (ranges of integers, lengths), scopes, calls of values. No condition. -/
namespace Go.Aw
open Go
set_option linter.unusedVariables false
variable {P:Program}
inductive Ok:AV→Prop
 |int (k:IntKind) (n:Int) (h:inR k n):Ok (.int k n)
 |bool (b:Bool):Ok (.bool b)
 |str (s:List UInt8) (h:s.length≤9223372036854775807):Ok (.str s)
 |agg (cs:List AV) (h:∀x∈cs,Ok x):Ok (.agg cs)
 |tup (cs:List AV) (h:∀x∈cs,Ok x):Ok (.tup cs)
 |sl (f:Bool) (es:List AV) (hl:es.length≤9223372036854775807) (h:∀e∈es,∀x∈e.cells,Ok x):Ok (.sl f es)
 |cptr (cs:List AV):Ok (.cptr cs)
 |ref (i v off:Nat):Ok (.ref i v off)
 |osl (s i v off len lc:Nat) (h:lc≤9223372036854775807):Ok (.osl s i v off len lc)
 |nilptr:Ok .nilptr
 |map (i:Nat):Ok (.map i)
 |nilmap:Ok .nilmap
 |iter (i:Nat):Ok (.iter i)
 |func (fn:Fn) (fs cs:List AV):Ok (.func fn fs cs)
 |nilfunc:Ok .nilfunc
 |iface (t:TypeId) (x:AV) (h:Ok x):Ok (.iface t x)
 |nilIface:Ok .nilIface
 |opt (g:Bool) (x:AV) (h:g=true→Ok x):Ok (.opt g x)
 |top:Ok .top
theorem kG{α:Type}{l:List α}{x:α}(h:x∈l):∃i:Nat,l[i]?=some x:=by
 obtain⟨i,hi,he⟩:=List.getElem_of_mem h
 exact⟨i,by rw[List.getElem?_eq_getElem hi,he]⟩
theorem Rep.ok{c:Ctx}{x:AV}{v:Value}(h:Rep c x v):Ok x:=by
 induction h with
 |int k n h=>exact .int k n h
 |bool b=>exact .bool b
 |str s h=>exact .str s h
 |agg cs vs hl _ ih=>exact .agg cs fun x hx=>let⟨i,hi⟩:=kG hx;let⟨v,hv⟩:=gE hl hi;ih i x v hi hv
 |tup cs vs hl _ ih=>exact .tup cs fun x hx=>let⟨i,hi⟩:=kG hx;let⟨v,hv⟩:=gE hl hi;ih i x v hi hv
 |sl full es base len cap s vs hlen _ _ _ _ _ hmax ih=>exact .sl full es (by omega)fun e he x hx=>let⟨k,hk⟩:=kG he;let⟨j,hj⟩:=kG hx;ih k e j x hk hj
 |cptr cs=>exact .cptr cs
 |ref i v off=>exact .ref i v off
 |osl s i v off len lc val _ _ _ h=>exact .osl s i v off len lc h
 |nilptr=>exact .nilptr
 |map i=>exact .map i
 |nilmap=>exact .nilmap
 |iter i=>exact .iter i
 |func fn fs cs=>exact .func fn fs cs
 |nilfunc=>exact .nilfunc
 |iface t x _ _ ih=>exact .iface t x ih
 |nilIface=>exact .nilIface
 |opt g x _ _ _ ih=>exact .opt g x ih
 |top=>exact .top
theorem aFB{k:IntKind}{n:Int}(h:Ok (.int k n)):inR k n:=by cases h;assumption
theorem aNo{n:Int}(h:Ok (.int .i64 n)): -9223372036854775808≤n∧n≤9223372036854775807:=aCX.1 (aFB h)
theorem aFC{n:Int}(h:Ok (.int .u8 n)):0≤n∧n≤255:=aE3.1 (aFB h)
theorem aNp{cs:List AV}(h:Ok (.agg cs)):∀x∈cs,Ok x:=by cases h;assumption
theorem mS{f:Bool}{es:List AV}(h:Ok (.sl f es)):es.length≤9223372036854775807:=by cases h;assumption
theorem RepAll.ok{c:Ctx}{xs:List AV}{vs:Array Value}(h:RepAll c xs vs):∀x∈xs,Ok x:=fun x hx=>
 let⟨i,hi⟩:=kG hx
 let⟨v,hv⟩:=gE h.1 hi
 (h.2 i x v hi hv).ok
theorem aDY{f:FuncId}{args:List AV}{H:AHeap}{R:AV→AHeap→Prop}(h:(∀x∈args,Ok x)→ACalls P f args H R):ACalls P f args H R:=
 fun c vs hs ha=>h ha.ok c vs hs ha
theorem aBM{f:FuncId}{args:List AV}{H:AHeap}{x:AV}(h:(∀x∈args,Ok x)→cN P f args H x):cN P f args H x:=aDY h
theorem aC2{f:FuncId}{a:AV}{H:AHeap}{x:AV}(h:Ok a→cN P f [a] H x):cN P f [a] H x:=aBM fun k=>h (k _ (by simp))
theorem iT{f:FuncId}{a b:AV}{H:AHeap}{x:AV}(h:Ok a→Ok b→cN P f [a,b] H x):cN P f [a,b] H x:=aBM fun k=>h (k _ (by simp)) (k _ (by simp))
theorem aC3{f:FuncId}{a b d:AV}{H:AHeap}{x:AV}(h:Ok a→Ok b→Ok d→cN P f [a,b,d] H x):cN P f [a,b,d] H x:=aBM fun k=>h (k _ (by simp)) (k _ (by simp)) (k _ (by simp))
def zE(Q:bL):bL
 |.goto _,_,_=>False
 |e,α,H=>Q e α H
section
variable (Q:bL) (α:AF) (H:AHeap)
@[go_sem] theorem aHB:zE Q .normal α H=Q .normal α H:=rfl
@[go_sem] theorem aNq:zE Q .ret α H=Q .ret α H:=rfl
@[go_sem] theorem aLe(i:Nat):zE Q (.exit i) α H=Q (.exit i) α H:=rfl
end
theorem aBN{F:Fence}{n:Nat}{c:Code}{Q:Exit→Act→World→Prop}{a:Act}{w:World}(h:c.wpIn F n P (Exit.noGoto Q) a w):(Code.scope c).wpIn F n P Q a w:=by
 intro b k cs hro hb hr
 have h0:(lone (b.atR a (.code (.scope c)::k)) cs w).fenced P F:=fenced_calm hb hr rfl
 have s0:step P (lone (b.atR a (.code (.scope c)::k)) cs w)=.next (lone (b.atR a (.code c::.inScope c::k)) cs w):=step_lone_go (by simp[stepG,stepG.exec,Frame.atR])
 obtain⟨e,a₁,w₁,hq,harr⟩:=h b (.inScope c::k) cs hro hb hr
 have s1:step P (lone (b.atR a₁ (.inScope c::k)) cs w₁)=.next (lone (b.atR a₁ k) cs w₁):=step_lone_go (by simp[stepG,stepG.exec,Frame.atR])
 cases e with
 |normal=>exact⟨.normal,a₁,w₁,hq,.head h0 s0 (StepsIn.trans harr (.one (fenced_calm hb hr rfl) s1))⟩
 |exit id=>exact⟨.exit id,a₁,w₁,hq,fun k' hk=>.head h0 s0 (harr.1 k' (by simp[exitTo,hk])),fun hr' hk=>let⟨k₁,h1,h2⟩:=harr.2 hr' (by simp[exitTo,hk]);⟨k₁,h1,.head h0 s0 h2⟩⟩
 |goto l=>exact hq.elim
 |ret=>exact⟨_,a₁,w₁,hq,.of_steps (.one h0 s0) harr⟩
 |panic ch=>exact⟨_,a₁,w₁,hq,.of_steps (.one h0 s0) harr⟩
 |outgrown=>exact⟨_,a₁,w₁,hq,.of_steps (.one h0 s0) harr⟩
theorem aFD{N:Nat}{x:Code}{Q:bL}{α:AF}{H:AHeap}(h:aw P N x (zE Q) α H):aw P N (.scope x) Q α H:=by
 intro r c a hr hs ha
 refine aBN (wpIn_mono (h r c a hr hs ha)fun e a' w' ⟨c',α',H',e1,e2,e3,e4,e5⟩=>?_)
 cases e with
 |goto l=>exact e5.elim
 |_=>exact⟨c',α',H',e1,e2,e3,e4,e5⟩
theorem dL{f:FuncId}{first args cap:List AV}{H:AHeap}{x:AV}{k:AV→AHeap→Prop}(h:cN P f (first++args++cap) H x)(ok:aA P f=true)(hk:k x H):jF P (.func (.func f)first cap) args H k:=
 Or.inl ⟨ok,h.mono fun y H' ⟨e1,e2⟩=>by subst e1;subst e2;exact hk⟩
theorem kH{f:FuncId}{first args cap:List AV}{H:AHeap}{R:AV→AHeap→Prop}{k:AV→AHeap→Prop}(h:ACalls P f (first++args++cap) H R)(ok:aA P f=true)(hk:∀x H',R x H'→k x H'):jF P (.func (.func f)first cap) args H k:=
 Or.inl ⟨ok,h.mono hk⟩
theorem dM{g:Bool}{f:FuncId}{first args cap:List AV}{H:AHeap}{x:AV}{K:AV→Prop}(h:g=true→cN P f (first++args++cap) H x)(ok:aA P f=true)(hk:K x):jE P g (.func (.func f)first cap) args H K:=
 ⟨x,fun hg=>Or.inl ⟨ok,h hg⟩,hk⟩
theorem aAF{f:AV}{args:List AV}{H:AHeap}{K:AV→Prop}(v:AV)(hk:K v):jE P false f args H K:=⟨v,(fun h=>by cases h),hk⟩
def FnV(P:Program)(f:AV)(args:List AV)(H:AHeap)(x:AV):Prop:=∀L,ACall P f args (H++L) (fun v H'=>v=x∧H'=H++L)
theorem FnV.mk{f:FuncId}{first args cap:List AV}{H:AHeap}{x:AV}(h:∀L,cN P f (first++args++cap) (H++L) x)(ok:aA P f=true):FnV P (.func (.func f)first cap) args H x:=
 fun L=>Or.inl ⟨ok,h L⟩
theorem aIt{f:AV}{args:List AV}{H L:AHeap}{x:AV}{k:AV→AHeap→Prop}(h:FnV P f args H x)(hk:k x (H++L)):jF P f args (H++L) k:=by
 exact(h L).mono fun y H' ⟨e1,e2⟩=>by subst e1;subst e2;exact hk
theorem mT{f:AV}{args:List AV}{H:AHeap}{x:AV}{k:AV→AHeap→Prop}(h:FnV P f args H x)(hk:k x H):jF P f args H k:=by
 have h1:=aIt (L:=[]) (k:=k) h (by rw[List.append_nil];exact hk)
 rwa[List.append_nil]at h1
theorem aK{H:AHeap}{i:Nat}{b:ABlk}(h:hget H i=b)(hb:b.live)(L:AHeap):hget (H++L) i=b:=by
 have hlt:=bP h hb
 have h1:=cZ h hb
 simp only[hget,List.getD_eq_getElem?_getD]
 rw[List.getElem?_append_left hlt,h1];rfl
theorem cG{H:AHeap}{i:Nat}(h:i<H.length)(L:AHeap)(b:ABlk):aD (H++L) i b=aD H i b++L:=by
 unfold aD
 rw[List.set_append_left _ _ h]
end Go.Aw
/- The abstract machine: the end of a function, what may be known less exactly, calls that change the heap. No condition. -/
namespace Go.Aw
open Go
set_option linter.unusedVariables false
variable {P:Program}
inductive Sim:AV→AV→Prop
 |refl (x:AV):Sim x x
 |sl (f:Bool) (es:List AV):Sim (.sl f es) (.sl false es)
 |agg (cs ds:List AV) (hl:cs.length=ds.length) (h:∀(i:Nat) (x y:AV),cs[i]?=some x→ds[i]?=some y→Sim x y):Sim (.agg cs) (.agg ds)
 |tup (cs ds:List AV) (hl:cs.length=ds.length) (h:∀(i:Nat) (x y:AV),cs[i]?=some x→ds[i]?=some y→Sim x y):Sim (.tup cs) (.tup ds)
 |iface (t:TypeId) (x y:AV) (h:Sim x y):Sim (.iface t x) (.iface t y)
 |top (x:AV):Sim x .top
theorem Sim.of{x y:AV}(h:x=y):Sim x y:=h▸.refl x
theorem aAG:∀(i:Nat) (x y:AV),([]:List AV)[i]?=some x→([]:List AV)[i]?=some y→Sim x y:=fun _ _ _ h=>by simp at h
theorem rJ{a b:AV}{cs ds:List AV}(h:Sim a b)(hs:∀(i:Nat) (x y:AV),cs[i]?=some x→ds[i]?=some y→Sim x y):∀(i:Nat) (x y:AV),(a::cs)[i]?=some x→(b::ds)[i]?=some y→Sim x y
 |0,x,y,hx,hy=>by simp at hx hy;subst hx;subst hy;exact h
 |i+1,x,y,hx,hy=>hs i x y (by simpa using hx) (by simpa using hy)
theorem Rep.sim{c:Ctx}{x y:AV}(h:Sim x y):∀{v:Value},Rep c x v→Rep c y v:=by
 induction h with
 |refl x=>exact fun h=>h
 |sl f es=>intro v hr;cases hr with|sl _ _ base len cap s vs h1 h2 h3 h4 h5 h6 h7=>exact .sl false es base len cap s vs h1 h2 (fun h=>by cases h) h4 h5 h6 h7
 |agg cs ds hl _ ih=>
  intro v hr
  cases hr with
  |agg _ vs h1 h2=>
   refine .agg ds vs (by omega)fun i y u hy hu=>?_
   have hlt:=(List.getElem?_eq_some_iff.1 hy).1
   have hx:cs[i]?=some (cs[i]'(by omega)):=List.getElem?_eq_getElem (by omega)
   exact ih i _ y hx hy (h2 i _ u hx hu)
 |tup cs ds hl _ ih=>
  intro v hr
  cases hr with
  |tup _ vs h1 h2=>
   refine .tup ds vs (by omega)fun i y u hy hu=>?_
   have hlt:=(List.getElem?_eq_some_iff.1 hy).1
   have hx:cs[i]?=some (cs[i]'(by omega)):=List.getElem?_eq_getElem (by omega)
   exact ih i _ y hx hy (h2 i _ u hx hu)
 |iface t x y _ ih=>
  intro v hr
  cases hr with
  |iface _ _ v' hv=>exact .iface t y v' (ih hv)
 |top x=>exact fun _=>.top _
theorem St.simCells{c:Ctx}{H:AHeap}(hst:St c H){i v:Nat}{cs ds:List AV}(hh:hget H i=.cells v cs)(hl:cs.length=ds.length)(hs:∀(i:Nat) (x y:AV),cs[i]?=some x→ds[i]?=some y→Sim x y):St c (aD H i (.cells v ds)):=by
 have hi:=cZ hh trivial
 have hlt:=bP hh trivial
 have hget:∀{j:Nat} {b:ABlk},(aD H i (.cells v ds))[j]?=some b→(j=i∧b=.cells v ds)∨(j≠i∧H[j]?=some b):=by
  intro j b hj
  by_cases e:j=i
  ·subst e
   rw[aD,List.getElem?_set_self hlt]at hj
   cases hj;exact .inl ⟨rfl,rfl⟩
  ·rw[aD,List.getElem?_set_ne (fun q=>e q.symm)]at hj
   exact .inr ⟨e,hj⟩
 have hget':∀{j:Nat} {b:ABlk},(aD H i (.cells v ds))[j]?=some b→b.live→∃b':ABlk,H[j]?=some b'∧b'.live:=by
  intro j b hj hb
  rcases hget hj with⟨rfl,rfl⟩|⟨_,h⟩
  ·exact⟨_,hi,trivial⟩
  ·exact⟨_,h,hb⟩
 refine⟨by simp[aD,hst.n],hst.lt,fun j k b b' hj hk hb hb' dj dk he=>?_,fun k hk=>?_,fun j b hj=>?_⟩
 ·obtain⟨b1,g1,g2⟩:=hget' hj hb
  obtain⟨b2,g3,g4⟩:=hget' hk hb'
  exact hst.inj j k b1 b2 g1 g3 g2 g4 dj dk he
 ·obtain⟨h1,h2⟩:=hst.st k hk
  refine⟨h1,fun j b hj hb dj=>?_⟩
  obtain⟨b1,g1,g2⟩:=hget' hj hb
  exact h2 j b1 g1 g2 dj
 ·rcases hget hj with⟨rfl,rfl⟩|⟨_,h⟩
  ·have hr:=hst.rep j _ hi
   cases hr with
   |cells _ _ vs e fr q1 q2 q3 q4 q5 q6=>
    refine .cells _ _ vs e fr q1 q2 q3 (by omega) q5 fun m y u hy hu=>?_
    have hlt2:=(List.getElem?_eq_some_iff.1 hy).1
    have hx:cs[m]?=some (cs[m]'(by omega)):=List.getElem?_eq_getElem (by omega)
    exact(q6 m _ u hx hu).sim (hs m _ y hx hy)
   |void _ q1 q2=>
    have:ds=[]:=List.eq_nil_of_length_eq_zero (by simpa using hl.symm)
    subst this
    exact .void _ q1 q2
  ·exact hst.rep j b h
theorem aIu{N:Nat}{code:Code}{Q:bL}{α:AF}{H:AHeap}(i:Nat){v:Nat}{cs:List AV}(ds:List AV)(hh:hget H i=.cells v cs)(hl:cs.length=ds.length)(hs:∀(i:Nat) (x y:AV),cs[i]?=some x→ds[i]?=some y→Sim x y)(h:aw P N code Q α (aD H i (.cells v ds))):aw P N code Q α H:=
 fun r c a hr hst ha=>h r c a hr (hst.simCells hh hl hs) ha
theorem qE{N:Nat}{code:Code}{Q:bL}{α:AF}{H:AHeap}(t s:Nat)(hx:look α t=.sl true [])(h:aw P N code Q ((t,.osl s H.length 1 0 0 0)::α) (H++[.cells 1 []])):aw P N code Q α H:=by
 intro r c a hr hst ha
 have hv:=Ext.void c
 refine wpIn_mono (h r c.void a hr hst.void ⟨ha.size,ha.defers.mono hv,fun u=>?_⟩)fun _ _ _ ⟨c',α',H',e1,e2,e3,e4,e5⟩=>⟨c',α',H',e1,e2,hv.trans e3,e4,e5⟩
 rw[look]
 by_cases e:t=u
 ·subst e
  rw[beq_self_eq_true,cond_true]
  have hr:=ha.rep t
  rw[hx]at hr
  generalize a.tmps.getD t undef=val at hr
  cases hr with
  |sl _ _ base len cap s' vs h1 h2 h3 h4 h5 h6 h7=>
   have hcap:=h3 rfl
   simp at h1
   subst h1
   subst hcap
   exact .osl _ _ _ _ _ _ _ (by simp[Ctx.void,hst.n]) (by simp[Ctx.void,hst.n]) rfl (by omega) (fun _ _=>⟨rfl,rfl,base,rfl⟩) (fun _ hd=>by simp[Ctx.void,hst.n]at hd)
 ·have hb:(t==u)=false:=by simpa using e
  rw[hb,cond_false]
  exact(ha.rep u).mono hv
inductive Pur:AV→Prop
 |int (k n):Pur (.int k n)
 |bool (b):Pur (.bool b)
 |str (s):Pur (.str s)
 |agg (cs:List AV) (h:∀x∈cs,Pur x):Pur (.agg cs)
 |tup (cs:List AV) (h:∀x∈cs,Pur x):Pur (.tup cs)
 |sl (f) (es:List AV) (h:∀x∈es,Pur x):Pur (.sl f es)
 |nilptr:Pur .nilptr
 |nilmap:Pur .nilmap
 |nilfunc:Pur .nilfunc
 |iface (t x) (h:Pur x):Pur (.iface t x)
 |nilIface:Pur .nilIface
 |top:Pur .top
theorem Pur.cells{x:AV}(h:Pur x):∀y∈x.cells,Pur y:=by
 cases h<;>first
  |(rename_i h;exact h)
  |(intro y hy;simp only[AV.cells,List.mem_singleton]at hy;subst hy;constructor;done)
  |(rename_i h;intro y hy;simp only[AV.cells,List.mem_singleton]at hy;subst hy;constructor;exact h)
theorem Pur.cl{x:AV}(h:Pur x)(n:Nat):Cl n x:=by
 induction h with
 |int k m=>exact .int k m
 |bool b=>exact .bool b
 |str s=>exact .str s
 |agg cs _ ih=>exact .agg cs fun i x hx=>ih x (List.mem_of_getElem? hx)
 |tup cs _ ih=>exact .tup cs fun i x hx=>ih x (List.mem_of_getElem? hx)
 |sl f es _ ih=>
  refine .sl f es fun k e j x hk hj=>?_
  have h1:=ih e (List.mem_of_getElem? hk)
  have key:∀e:AV,Cl n e→∀x∈e.cells,Cl n x:=by
   intro e he x hx
   cases e with
   |agg cs=>cases he with|agg _ hh=>obtain⟨i,hi⟩:=kG hx;exact hh i x hi
   |_=>simp only[AV.cells,List.mem_singleton]at hx;subst hx;exact he
  exact key e h1 x (List.mem_of_getElem? hj)
 |nilptr=>exact .nilptr
 |nilmap=>exact .nilmap
 |nilfunc=>exact .nilfunc
 |iface t x _ ih=>exact .iface t x ih
 |nilIface=>exact .nilIface
 |top=>exact .top
section
variable (k:IntKind) (n:Int) (b f:Bool) (s:List UInt8) (cs:List AV) (t:TypeId) (x:AV)
def aBO(l:List AV):Prop:=∀x∈l,Pur x
section
variable {α:Type}
@[go_sem] theorem bD5(k:IntKind)(n:Int):Pur (.int k n)=True:=eq_true (.int k n)
@[go_sem] theorem bCD(b:Bool):Pur (.bool b)=True:=eq_true (.bool b)
@[go_sem] theorem bD6(s:List UInt8):Pur (.str s)=True:=eq_true (.str s)
@[go_sem] theorem bCE:Pur .nilIface=True:=eq_true .nilIface
@[go_sem] theorem bCF:Pur .nilptr=True:=eq_true .nilptr
@[go_sem] theorem bCG:Pur .nilmap=True:=eq_true .nilmap
@[go_sem] theorem bCH:Pur .nilfunc=True:=eq_true .nilfunc
@[go_sem] theorem bD7(cs:List AV):Pur (.agg cs)=aBO cs:=propext ⟨fun h=>by cases h;assumption,.agg cs⟩
@[go_sem] theorem bD8(cs:List AV):Pur (.tup cs)=aBO cs:=propext ⟨fun h=>by cases h;assumption,.tup cs⟩
@[go_sem] theorem bEK(f:Bool)(cs:List AV):Pur (.sl f cs)=aBO cs:=propext ⟨fun h=>by cases h;assumption,.sl f cs⟩
@[go_sem] theorem aZd(t:TypeId)(x:AV):Pur (.iface t x)=Pur x:=propext ⟨fun h=>by cases h;assumption,.iface t x⟩
@[go_sem] theorem bCI:aBO []=True:=eq_true fun _ h=>by cases h
@[go_sem] theorem aZe(x:AV)(l:List AV):aBO (x::l)=(Pur x∧aBO l):=propext List.forall_mem_cons
@[go_sem] theorem bCJ(f:α→AV)(l:List α)(h:∀x,Pur (f x)):aBO (l.map f)=True:=eq_true fun x hx=>by obtain⟨y,_,rfl⟩:=List.mem_map.1 hx;exact h y
end
end
theorem Sim.frz{n:Nat}{H:AHeap}{x y:AV}(h:Sim x y):Pur x→Frz n H x y:=by
 induction h with
 |refl x=>exact fun hp=>.cl x (hp.cl n)
 |sl f es=>exact fun hp=>.slw f es (hp.cl n)
 |agg cs ds hl _ ih=>exact fun hp=>.agg cs ds hl fun i x y hx hy=>ih i x y hx hy (by cases hp with|agg _ h=>exact h x (List.mem_of_getElem? hx))
 |tup cs ds hl _ ih=>exact fun hp=>.tup cs ds hl fun i x y hx hy=>ih i x y hx hy (by cases hp with|tup _ h=>exact h x (List.mem_of_getElem? hx))
 |iface t x y _ ih=>exact fun hp=>.iface t x y (ih (by cases hp with|iface _ _ h=>exact h))
 |top x=>exact fun _=>.any x
theorem done{n:Nat}{H L:AHeap}{v x:AV}(hp:Pur v)(hs:Sim v x):∃L' y,H++L=H++L'∧Frz n (H++L) v y∧y=x:=⟨L,x,rfl,hs.frz hp,rfl⟩
theorem aT{n:Nat}{H:AHeap}{v x:AV}(hp:Pur v)(hs:Sim v x):∃L' y,H=H++L'∧Frz n H v y∧y=x:=⟨[],x,(List.append_nil H).symm,hs.frz hp,rfl⟩
theorem aLf{n:Nat}{H L G M:AHeap}{v x:AV}(hG:H++L=G)(hp:Pur v)(hs:Sim v x):∃L' y,G++M=H++L'∧Frz n (G++M) v y∧y=x:=⟨L++M,x,by rw[←hG,List.append_assoc],hs.frz hp,rfl⟩
theorem oL{n:Nat}{H L G:AHeap}{v x:AV}(hG:H++L=G)(hp:Pur v)(hs:Sim v x):∃L' y,G=H++L'∧Frz n G v y∧y=x:=⟨L,x,hG.symm,hs.frz hp,rfl⟩
theorem aZf{H L G M:AHeap}(hG:H++L=G):G++M=H++(L++M):=by rw[←hG,List.append_assoc]
theorem zF{n:Nat}{H:AHeap}{i v s k lc:Nat}{cs es rest:List AV}(hn:n≤i)(hh:hget H i=.cells v cs)(hcs:cs=es.flatMap AV.cells++rest)(hk:es.length=k)(hs:∀e∈es,e.cells.length=s)(hp:∀e∈es,Pur e):
  Frz n H (.osl s i v 0 k lc) (.sl false es):=by
 have hf:=qD hs
 refine .osl s i v 0 k lc cs es hn hh hk (by rw[hcs,List.length_append,hf,hk];omega) hs fun k j e x y he hy hx=>?_
 have h1:=qC hs he hy
 have hlt:=(List.getElem?_eq_some_iff.1 h1).1
 rw[Nat.zero_add,hcs,List.getElem?_append_left hlt,h1]at hx
 cases hx
 exact .cl _ ((Pur.cells (hp e (List.mem_of_getElem? he)) _ (List.mem_of_getElem? hy)).cl n)
theorem iU{H L:AHeap}{i v s k lc:Nat}{cs es rest:List AV}{x:AV}(hn:H.length≤i)(hh:hget (H++L) i=.cells v cs)(hcs:cs=es.flatMap AV.cells++rest)(hk:es.length=k)(hs:∀e∈es,e.cells.length=s)(hp:∀e∈es,Pur e)(hx:x=.sl false es):
  ∃L' y,H++L=H++L'∧Frz H.length (H++L) (.osl s i v 0 k lc) y∧y=x:=⟨L,x,rfl,by rw[hx];exact zF hn hh hcs hk hs hp,rfl⟩
def ClB(n:Nat):ABlk→Prop
 |.cells _ cs=>∀x∈cs,Cl n x
 |.map es _=>∀p∈es,Cl n p.1∧Cl n p.2.1
 |.miter m _ _ _=>m<n
 |.loop _ α _ _ _ _ _ _=>∀t,Cl n (look α t)
 |_=>True
theorem St.cl0{c:Ctx}{H:AHeap}(h:St c H){i:Nat}{b:ABlk}(hi:H[i]?=some b):ClB c.n b:=by
 cases h.rep i b hi with
 |cells ver cs vs e fr _ _ _ hl _ hr=>exact fun x hx=>let⟨j,hj⟩:=kG hx;(hr j x _ hj (Array.getElem?_eq_getElem (by have:=(List.getElem?_eq_some_iff.1 hj).1;omega))).cl
 |void=>exact fun x hx=>by simp at hx
 |map es clock ents _ _ _ hl hr=>exact fun p hp=>let⟨j,hj⟩:=kG hp;let⟨q1,q2,_⟩:=hr j p _ hj (Array.getElem?_eq_getElem (by have:=(List.getElem?_eq_some_iff.1 hj).1;omega));⟨q1.cl,q2.cl⟩
 |miter m _ _ _ _ _ hm=>exact hm
 |siter=>trivial
 |loop _ _ _ _ _ _ _ _ _ _ _ _ _ _ _ _ hr=>exact fun t=>(hr t).cl
 |gone=>trivial
theorem St.dropG{c:Ctx}{n:Nat}{H L:AHeap}(hn:n=H.length)(hst:St c (H++L))(hcl:∀(i:Nat) (b:ABlk),H[i]?=some b→ClB n b):St (c.drop n) H where
 n:=hn
 lt:=fun i hi hd=>by
  have hi':i<n:=hi
  exact hst.lt i (by rw[hst.n];simp;omega) hd
 inj:=fun i j b b' hi hj hb hb' di dj he=>by
  have h1:=(List.getElem?_eq_some_iff.1 hi).1
  have h2:=(List.getElem?_eq_some_iff.1 hj).1
  exact hst.inj i j b b' (by rw[List.getElem?_append_left h1];exact hi) (by rw[List.getElem?_append_left h2];exact hj) hb hb' di dj he
 st:=fun k hk=>by
  have hln:=hst.n
  rw[List.length_append]at hln
  rcases hk with hk|⟨i,h1,h2,h3,rfl⟩
  ·obtain⟨q1,q2⟩:=hst.st k hk
   exact⟨q1,fun j b hj hb hd=>q2 j b (by rw[List.getElem?_append_left (List.getElem?_eq_some_iff.1 hj).1];exact hj) hb hd⟩
  ·refine⟨hst.lt i h2 h3,fun j b hj hb hd e=>?_⟩
   have hj':=(List.getElem?_eq_some_iff.1 hj).1
   have hlt:i<(H++L).length:=by rw[List.length_append];omega
   have hi:(H++L)[i]?=some (H++L)[i]:=List.getElem?_eq_getElem hlt
   by_cases hlive:((H++L)[i]).live
   ·have:=hst.inj j i b _ (by rw[List.getElem?_append_left hj'];exact hj) hi hb hlive hd h3 e
    omega
   ·have hr:=hst.rep i _ hi
    generalize(H++L)[i]=bi at hr hlive
    cases hr with
    |gone hd'=>rw[h3]at hd';cases hd'
    |_=>exact hlive trivial
 rep:=fun i b hi=>by
  have hi':=(List.getElem?_eq_some_iff.1 hi).1
  have h1:=hst.rep i b (by rw[List.getElem?_append_left hi'];exact hi)
  have h2:=hcl i b hi
  cases h1 with
  |cells ver cs vs e fr hv hd hh hl hf hr=>exact .cells ver cs vs e fr hv hd hh hl hf fun j x v hx hv'=>(hr j x v hx hv').drop (h2 x (List.mem_of_getElem? hx))
  |void ver hv hd=>exact .void ver hv hd
  |map es clock ents hv hd hh hl hr=>exact .map es clock ents hv hd hh hl fun j p e hp he=>let⟨g1,g2,g3⟩:=hr j p e hp he;let⟨q1,q2⟩:=h2 p (List.mem_of_getElem? hp);⟨g1.drop q1,g2.drop q2,g3⟩
  |miter m since seen stepped hv hd hm hmv hmd hh=>exact .miter m since seen stepped hv hd h2 hmv hmd hh
  |siter s pos hv hd hh hsl=>exact .siter s pos hv hd hh hsl
  |loop l α N st pe ps ars bd fn D ts hv hd hl hh hN hr=>exact .loop l α N st pe ps ars bd fn D ts hv hd hl hh hN fun t=>(hr t).drop (h2 t)
  |gone hd=>exact .gone hd
theorem bQ{f:FuncId}{fn:Func}{code:Code}{args:List AV}{H:AHeap}{R:AV→AHeap→Prop}(hf:P.funcs[f]?=some fn)(hb:fn.body=some code)(hn:args.length≤fn.ntmps)
  (h:aw P fn.ntmps code (aAA P fn.results.toList fun v H'=>∃H1 L y,H'=H1++L∧H1.length=H.length∧(∀(i:Nat) (b:ABlk),H1[i]?=some b→H[i]?=some b∨ClB H.length b)∧Frz H.length H' v y∧R y H1) (fW 0 args) H):ACalls P f args H R:=by
 intro c vs hs ha
 refine(dI hf hb hn h c vs hs ha).mono fun e w' ⟨c',x,v,H',e1,e2,e3,e4,e5,H1,L,y,e6,e6',e6'',e7,e8⟩=>?_
 subst e6
 refine⟨c'.drop c.n,y,v,H1,e1,e2,St.dropG (by rw[hs.n,e6']) e3 (fun i b hi=>?_),e4.drop,?_,e8⟩
 ·rcases e6'' i b hi with h|h
  ·exact hs.cl0 h
  ·rw[hs.n];exact h
 ·have:=e7.sound e3 e5
  rwa[←hs.n]at this
theorem Cl.mono{n m:Nat}(h:n≤m){x:AV}(k:Cl n x):Cl m x:=by
 induction k with
 |int k n=>exact .int k n
 |bool b=>exact .bool b
 |str s=>exact .str s
 |agg cs _ ih=>exact .agg cs ih
 |tup cs _ ih=>exact .tup cs ih
 |sl f es _ ih=>exact .sl f es ih
 |cptr cs _ ih=>exact .cptr cs ih
 |ref i v off q=>exact .ref i v off (by omega)
 |osl s i v off len lc q=>exact .osl s i v off len lc (by omega)
 |nilptr=>exact .nilptr
 |map i q=>exact .map i (by omega)
 |nilmap=>exact .nilmap
 |iter i q=>exact .iter i (by omega)
 |func fn fs cs _ _ ih1 ih2=>exact .func fn fs cs ih1 ih2
 |nilfunc=>exact .nilfunc
 |iface t x _ ih=>exact .iface t x ih
 |nilIface=>exact .nilIface
 |opt g x _ ih=>exact .opt g x ih
 |top=>exact .top
theorem ClB.mono{n m:Nat}(h:n≤m){b:ABlk}(k:ClB n b):ClB m b:=by
 cases b with
 |cells v cs=>exact fun x hx=>(k x hx).mono h
 |map es cl=>exact fun p hp=>⟨(k p hp).1.mono h,(k p hp).2.mono h⟩
 |miter=>exact Nat.lt_of_lt_of_le k h
 |loop=>exact fun t=>(k t).mono h
 |siter=>trivial
 |gone=>trivial
theorem Ext.dropN{c c':Ctx}(h:Ext c c'){n:Nat}(hn:c.n≤n):Ext c (c'.drop n):=
 ⟨hn,h.size,fun b hb=>⟨.inl (h.st b hb).1,(h.st b hb).2⟩,h.ver,h.blk,h.os,h.tape,h.output,h.base⟩
theorem gR{f:FuncId}{fn:Func}{code:Code}{args:List AV}{H:AHeap}{R:AV→AHeap→Prop}(hf:P.funcs[f]?=some fn)(hb:fn.body=some code)(hn:args.length≤fn.ntmps)
  (h:aw P fn.ntmps code (aAA P fn.results.toList fun v H'=>∃H1 L y,H'=H1++L∧H.length≤H1.length∧(∀(i:Nat) (b:ABlk),H1[i]?=some b→H[i]?=some b∨ClB H1.length b)∧Frz H1.length H' v y∧R y H1) (fW 0 args) H):ACalls P f args H R:=by
 intro c vs hs ha
 refine(dI hf hb hn h c vs hs ha).mono fun e w' ⟨c',x,v,H',e1,e2,e3,e4,e5,H1,L,y,e6,e6',e6'',e7,e8⟩=>?_
 subst e6
 refine⟨c'.drop H1.length,y,v,H1,e1,e2,St.dropG rfl e3 (fun i b hi=>?_),e4.dropN (by rw[hs.n];exact e6'),e7.sound e3 e5,e8⟩
 rcases e6'' i b hi with h|h
 ·exact(hs.cl0 h).mono (by rw[hs.n];exact e6')
 ·exact h
end Go.Aw
