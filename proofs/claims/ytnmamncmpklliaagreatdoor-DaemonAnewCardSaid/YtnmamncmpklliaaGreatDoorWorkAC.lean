/- What the functions of this seat answer (3 of 53). No condition. -/
import Derived.Test.YtnmamncmpklliaaGreatDoorWorkAB
import Derived.Still
import Derived.Laws.BytesArg
import Derived.Lib.ConvBytes
set_option linter.unusedSimpArgs false
set_option linter.unusedVariables false
set_option linter.unusedSectionVars false
set_option maxRecDepth 100000
set_option maxHeartbeats 16000000
namespace Go.Proofs.YtnmamncmpklliaaGreatDoor
variable{c:Ctx}{op:BinOp}{b2 jb:Value}{ms:Array (String×TypeId)}{e:Operand->Value}{src dst ty:TypeId}{H H':ab}{n N j id:Nat}{vs:Array Value}{ts:Array TypeId}{xs:Array Operand}{o gS j4:Oper}{ρ:Operand->I}{a:Act}{f:FuncId}{args:List I}{R R' K:I->ab->Prop}{α β:a7}{ops:Array Oper}{want:Bool}{os:List Oper}{Q:cX}{u:I}{code:Code}{P:Program}
def Hs(op:UnOp)(x:I):hW:=
 match op,x with
 |.not,.bool b=>⟨.bool<|!b,True⟩
 |.neg,.int k n=>⟨.int k<|k.wrap (0-n),True⟩
 |_,_=>bad
theorem aEB{op:UnOp}{x:I}(J:aI c x b2)(hs:(Hs op x).s)(w:World):∃v,(Op.unary op b2).run P w=.ok v w/\aI c (Hs op x).v v:=by
 unfold Hs at *;split at hs
 ·rw[J.sT];exact⟨_,by simp[Op.unary],.bool _⟩
 ·rw[J.iF];exact⟨_,rfl,.int _ _<|vh _ _⟩
 ·exact hs.elim
def tg:Operand->Bool
 |.const _=>true
 |_=>false
def xE:I->Bool
 |.nilIface=>true
 |_=>false
def tP(P:Program)(t:TypeId):Bool:=
 match P.underlying t with
 |some (.interface _)=>true
 |_=>false
def O1(P:Program)(k:Bool)(op:BinOp)(t:TypeId)(x y:I):hW:=
 match op,x,y with
 |.eql,.nilIface,.nilIface=>⟨.bool true,k=true/\tP P t=true⟩
 |.neq,.nilIface,.nilIface=>⟨.bool false,k=true/\tP P t=true⟩
 |.eql,.iface _ _,.nilIface=>⟨.bool false,tP P t=true⟩
 |.neq,.iface _ _,.nilIface=>⟨.bool true,tP P t=true⟩
 |.eql,.nilIface,.iface _ _=>⟨.bool false,tP P t=true⟩
 |.neq,.nilIface,.iface _ _=>⟨.bool true,tP P t=true⟩
 |_,_,_=>bad
def BD(P:Program)(k:Bool)(op:BinOp)(t:TypeId)(x y:I):hW:=
 bif xE x||xE y then O1 P k op t x y else fo P op t x y
theorem F6{t:TypeId}(h:tP P t=true):∃ms,P.underlying t=some (.interface ms):=by
 unfold tP at h;split at h
 ·rename_i ms hu;exact⟨ms,hu⟩
 ·cases h
theorem aFI(d){t:TypeId}(hu:P.underlying t=some (.interface ms))(w):
  (Op.equalIn (d+1) t .nilIface .nilIface).run P w=.ok true w/\(∀u v,(Op.equalIn (d+1) t .nilIface (.iface u v)).run P w=.ok false w)/\∀u v,(Op.equalIn (d+1) t (.iface u v) .nilIface).run P w=.ok false w:=
 ⟨by simp[Op.equalIn,run_underlying hu],λ_ _=>by simp[Op.equalIn,run_underlying hu],λ_ _=>by simp[Op.equalIn,run_underlying hu]⟩
theorem Fl{t:TypeId}(hu:P.underlying t=some (.interface ms))(w):
  (Op.equal t .nilIface .nilIface).run P w=.ok true w/\(∀u v,(Op.equal t .nilIface (.iface u v)).run P w=.ok false w)/\∀u v,(Op.equal t (.iface u v) .nilIface).run P w=.ok false w:=aFI 9999 hu w
theorem Fm(op)(t)(X Y)(w):(∀u v,(eqGuard op t X Y .nilIface (.iface u v)).run P w=.ok () w)/\(∀u v,(eqGuard op t X Y (.iface u v) .nilIface).run P w=.ok () w)/\((tg X||tg Y)=true->(eqGuard op t X Y .nilIface .nilIface).run P w=.ok () w):=by
 refine⟨λu v=>?_,λu v=>?_,λh=>?_⟩
 ·cases op<;>rfl
 ·cases op<;>rfl
 ·cases X<;>cases Y<;>first|(cases h;done)|(cases op<;>rfl)
theorem aDv{t:TypeId}{x y:I}{X Y:Operand}(J:aI c x b2)(U:aI c y jb)(hs:(BD P (tg X||tg Y) op t x y).s)(w):
  ∃v,(do eqGuard op t X Y b2 jb;binOp op t b2 jb:Sem Value).run P w=.ok v w/\aI c (BD P (tg X||tg Y) op t x y).v v:=by
 unfold BD at *;cases af:xE x||xE y with
 |false=>rw[af,sI]at hs;rw[sI];exact aJ3 J U hs w
 |true=>
  rw[af,tG]at hs;rw[tG];unfold O1 at *;split at hs
  ·obtain⟨O,hi⟩:=hs;obtain⟨ms,hu⟩:=F6 hi;cases J;cases U;exact⟨.bool true,by simp only[Sem.run_bind,(Fm .eql t X Y w).2.2 O,Result.andThen_ok,binOp,(Fl hu w).1,Sem.run_pure],.bool _⟩
  ·obtain⟨O,hi⟩:=hs;obtain⟨ms,hu⟩:=F6 hi;cases J;cases U;exact⟨.bool false,by simp only[Sem.run_bind,(Fm .neq t X Y w).2.2 O,Result.andThen_ok,binOp,(Fl hu w).1,Sem.run_pure,Bool.not_true],.bool _⟩
  ·obtain⟨ms,hu⟩:=F6 hs;cases J;cases U;exact⟨.bool false,by simp only[Sem.run_bind,(Fm .eql t X Y w).2.1,Result.andThen_ok,binOp,(Fl hu w).2.2,Sem.run_pure],.bool _⟩
  ·obtain⟨ms,hu⟩:=F6 hs;cases J;cases U;exact⟨.bool true,by simp only[Sem.run_bind,(Fm .neq t X Y w).2.1,Result.andThen_ok,binOp,(Fl hu w).2.2,Sem.run_pure,Bool.not_false],.bool _⟩
  ·obtain⟨ms,hu⟩:=F6 hs;cases J;cases U;exact⟨.bool false,by simp only[Sem.run_bind,(Fm .eql t X Y w).1,Result.andThen_ok,binOp,(Fl hu w).2.1,Sem.run_pure],.bool _⟩
  ·obtain⟨ms,hu⟩:=F6 hs;cases J;cases U;exact⟨.bool true,by simp only[Sem.run_bind,(Fm .neq t X Y w).1,Result.andThen_ok,binOp,(Fl hu w).2.1,Sem.run_pure,Bool.not_false],.bool _⟩
  ·exact hs.elim
def uU:I->Int
 |.int _ n=>n
 |_=>0
def He:I->Bool
 |.int .u8 _=>true
 |_=>false
def zQ(P:Program)(t:TypeId):Bool:=match P.underlying t with
 |some (.slice e)=>(match P.underlying e with|some (.int .u8)=>true|_=>false)
 |_=>false
def DW(P:Program)(src dst:TypeId)(x:I):hW:=
 match P.underlying dst,x with
 |some (.int k),.int _ n=>⟨.int k<|k.wrap n,(P.underlying src).isSome=true⟩
 |some .string,.str s=>⟨.str s,(P.underlying src).isSome=true⟩
 |some .string,.sl _ es=>⟨.str<|es.map λe=>UInt8.ofNat (uU e).toNat,zQ P src=true/\es.all He=true⟩
 |_,_=>bad
theorem Xy{e:I}(h:He e=true):e=.int .u8 (uU e):=by
 unfold He at h;split at h
 ·rfl
 ·cases h
theorem Ui{x:I}(J:aI c x b2)(hs:(DW P src dst x).s):∃v,(convert src dst b2).run P c.w=.ok v c.w/\aI c (DW P src dst x).v v:=by
 unfold DW at *;split at hs
 ·rename_i k k' n hu;obtain⟨d,hd⟩:=hV.1 hs;rw[J.iF];refine⟨_,?_,.int _ _<|vh _ _⟩;simp only[convert,Sem.run_bind,run_underlying hd,run_underlying hu,Result.andThen_ok];rfl
 ·rename_i s hu;obtain⟨d,hd⟩:=hV.1 hs;rw[J.ng];refine⟨_,?_,.str _ J.zh⟩;simp only[convert,Sem.run_bind,run_underlying hd,run_underlying hu,Result.andThen_ok];cases d<;>rfl
 ·rename_i f es hu;obtain⟨h1,h2⟩:=hs;have jh:=J.M8;unfold zQ at h1;split at h1
  ·rename_i e he;split at h1
   ·rename_i aa;obtain⟨base,len,cap,s,vs,rfl,rfl, -, -,cC,ez,ky⟩:=J.qG;refine⟨.string ⟨(es.map λe=>UInt8.ofNat (uU e).toNat).toArray⟩,?_,.str _<|by simpa using jh⟩
    rw[run_convert_bytes_string c.w src dst e base _ cap he aa hu];cases base with
    |none=>
     have af:es=[]:=kr
     subst af;simp[Conv.bytesToString];rfl
    |some a=>
     have hl:(loadCells a es.length).run P c.w=.ok ((es.map uU).map (Value.int .u8)).toArray c.w:=by
      have:=run_loadCells_list (P:=P) c.w a ((es.map uU).map (Value.int .u8)) (λj v Z=>by
       rw[sG,mF,hC]at Z;obtain⟨x,U,rfl⟩:=Z;have O:=(cj.1 U).1;have z:=ds U;have T:=Xy<|gm.1 h2 x z;obtain⟨gM,aF, -, -,V⟩:=cC (by intro af;rw[af]at O;simp at O)
       cases aF;have rb:s=1:=by rw[<-ez x z,T];rfl
       subst rb;have au:=V j 0 O iV
       have az:=ky j x 0 x U<|by rw[T];rfl
       rw[T]at az;rw[me,rJ]at au;rw[au,az.iF];rfl)
      simpa using this
     rw[run_bytesToString c.w a es.length cap (es.map uU) hl,foldl_push_bytes];simp[ByteArray.empty,ByteArray.emptyWithCapacity];rfl
   ·cases h1
  ·cases h1
 ·exact hs.elim
def Jd(x:I)(i:Nat):hW:=
 match x with
 |.aQ vs=>⟨vs.getD i .top,i<vs.length⟩
 |_=>bad
theorem aCY{x:I}{i:Nat}(J:aI c x b2)(hs:(Jd x i).s)(w):∃v,(Instr.extract b2 i).run P w=.ok v w/\aI c (Jd x i).v v:=by
 unfold Jd at *;split at hs
 ·obtain⟨us,rfl,h1,h2⟩:=J.aCq;have U:=da hs;have hu:us[i]?=some (us[i]'(_)):=mc iV
  rw[Lh _ _ _ _ U];exact⟨_,by simp[Instr.extract,hu],h2 _ _ _ U hu⟩
 ·exact hs.elim
def yY(P:Program)(t:TypeId):Bool:=
 match P.underlying t with
 |some (.interface _)=>false
 |some _=>true
 |none=>false
theorem aCZ{t:TypeId}(h:yY P t=true)(v:Value)(w:World):(Instr.makeInterface t v).run P w=.ok (.iface t v) w:=by
 unfold yY at h;cases hu:P.underlying t with
 |none=>rw[hu]at h;cases h
 |some d=>
  rw[hu]at h;simp[Instr.makeInterface,run_underlying hu];cases d<;>first|rfl|cases h
def Jt(P:Program)(x:I)(t:TypeId)(ok:Bool):hW:=
 match x with
 |.iface u v=>bif u==t then⟨bif ok then .aQ [v,.bool true]else v,yY P t=true⟩else bif ok then⟨.aQ [eM P t,.bool false],yY P t=true/\(eM P t).known=true⟩else bad
 |.nilIface=>bif ok then⟨.aQ [eM P t,.bool false],yY P t=true/\(eM P t).known=true⟩else bad
 |_=>bad
theorem aC7{x:I}{t xt:TypeId}{ok:Bool}(J:aI c x b2)(hs:(Jt P x t ok).s)(w:World):∃v,(Instr.typeAssert b2 xt t ok).run P w=.ok v w/\aI c (Jt P x t ok).v v:=by
 have hu:∀(U:yY P t=true),∃d,P.underlying t=some d/\∀ms,d≠.interface ms:=by
  intro U;unfold yY at U;cases hu:P.underlying t with
  |none=>rw[hu]at U;cases U
  |some d=>exact⟨d,rfl,λms e=>by rw[hu,e]at U;cases U⟩
 unfold Jt at *;split at hs
 ·rename_i u v;cases J with
  |iface _ _ dM aG=>
   cases T:u==t with
   |true=>
    simp only[T,tG]at hs ⊢;obtain⟨d,hd,O⟩:=hu hs;have he:=by simpa using T
    subst he;cases ok with
    |true=>exact⟨.tuple #[dM,.bool true],by cases d<;>first|exact absurd rfl (O _)|simp[Instr.typeAssert,run_underlying hd],BK aG<|.bool _⟩
    |false=>exact⟨dM,by cases d<;>first|exact absurd rfl (O _)|simp[Instr.typeAssert,run_underlying hd],aG⟩
   |false=>
    simp only[T,sI]at hs ⊢;have he:=by simpa using T
    cases ok with
    |true=>
     simp only[tG]at hs ⊢;obtain⟨U,hk⟩:=hs;obtain⟨d,hd,O⟩:=hu U;obtain⟨z,V,Z⟩:=uG hk c;exact⟨.tuple #[z,.bool false],by cases d<;>first|exact absurd rfl (O _)|simp[Instr.typeAssert,run_underlying hd,he,V],BK Z<|.bool _⟩
    |false=>exact hs.elim
 ·cases J;cases ok with
  |true=>
   simp only[tG]at hs ⊢;obtain⟨U,hk⟩:=hs;obtain⟨d,hd,O⟩:=hu U;obtain⟨z,V,Z⟩:=uG hk c;exact⟨.tuple #[z,.bool false],by cases d<;>first|exact absurd rfl (O _)|simp[Instr.typeAssert,run_underlying hd,V],BK Z<|.bool _⟩
  |false=>exact hs.elim
 ·exact hs.elim
def D8(x y:I):hW:=
 match x,y with
 |.int k a,.int k' b=>⟨.int k<|max a b,k=k'⟩
 |_,_=>bad
def D9(x y:I):hW:=
 match x,y with
 |.int k a,.int k' b=>⟨.int k<|min a b,k=k'⟩
 |_,_=>bad
def IK(P:Program)(t:TypeId)(n:Nat)(ps:List (Nat×I)):hW:=
 match P.underlying t with
 |some (.slice e)=>⟨.sl true<|ps.map (·.2),o5 P e=true/\ps.map (·.1)=List.range n/\(ps.all λp=>p.2.known&&(p.2.cells.length==P.cellsOf e))=true/\n * P.cellsOf e<=16777216/\P.cellsOf e≠0⟩
 |_=>bad
theorem VO{s:Nat}:∀(vs:List (Nat×Value)) (i0:Nat) (us:Array Value),vs.map (·.1)=List.range' i0 vs.length->(∀p∈vs,p.2.cells.size=s)->(i0+vs.length) * s<=us.size->
  ∃ws,Instr.fill (λi=>some (i * s,s)) us vs=some ws/\ws.size=us.size/\(∀idx,idx<i0 * s->ws[idx]?=us[idx]?)/\∀(k j:Nat) (p:Nat×Value),vs[k]?=some p->j<s->ws[(i0+k) * s+j]?=p.2.cells[j]?
 |[],i0,us,_,_,_=>⟨us,rfl,rfl,λ_ _=>rfl,kk⟩
 |(i,v)::vs,i0,us,hm,hs,hle=>by
  simp only[dz,cg,List.range'_succ,List.cons.injEq]at hm;obtain⟨rfl,hm⟩:=hm;have J:v.cells.size=s:=hs (i,v) kk
  simp only[cg]at hle;have U:(i+1) * s<=us.size:=fr (wA s iV) hle
  have av:(i+1) * s=i * s+s:=kr
  obtain⟨ws,g1,g2,g3,g4⟩:=VO vs (i+1) (lp us (i * s) v.cells.toList) hm (λp ad=>hs p (by simp[ad]))<|by rw[zL,show i+1+vs.length=i+(vs.length+1) by omega];exact hle
  refine⟨ws,?_,by rw[g2,zL],λidx V=>?_,λk j p hk O=>?_⟩
  ·unfold Instr.fill;have T:¬((decide (v.cells.size≠s)||decide (i * s+v.cells.size>us.size))=true):=nX
   simp only[T];rw[Yi];exact g1
  ·rw[g3 idx iV,GY _ _ _ s (by simpa using J) iV,aj iV]
  ·cases k with
   |zero=>
    simp at hk;subst hk;rw[rJ,g3 _ iV,GY _ _ _ s (by simpa using J) iV,aA iV]
    simp
   |succ k=>
    rw[show i+(k+1)=i+1+k by omega]
    exact g4 k j p (by simpa using hk) O
theorem aRY{t:TypeId}{ps:List (Nat×I)}{vs:Array (Nat×Value)}(ai:bp c H)(hm:vs.toList.map (·.1)=ps.map (·.1))
  (ad:∀(k:Nat) (p) (q),ps[k]?=some p->vs[k]?=some q->aI c p.2 q.2) (hs:(IK P t n ps).s):
  mj P (Instr.buildSlice t n vs) c (IK P t n ps).v H:=by
 unfold IK at *;cases hu:P.underlying t with
 |none=>simp[hu,bad]at hs
 |some d=>
  cases d<;>simp only[hu,bad]at hs;case slice e=>
   simp only;obtain⟨bn,az,fA,r1,aN⟩:=hs;simp only[o5,cV,rK]at bn;obtain⟨⟨h1,h2⟩,h3⟩:=bn;obtain⟨d,hd⟩:=hV.1 h1;obtain⟨z,gu,gl⟩:=uG h2 c;have sa:z.cells.size=P.cellsOf e:=by rw[(gl.cells h2).1,h3]
   have hlen:vs.toList.length=ps.length:=by have:=bU List.length hm;simpa using this
   have af:=by have:=bU List.length az;simpa using this
   have E5:∀(k:Nat) (p) (q),ps[k]?=some p->vs[k]?=some q->q.2.cells.size=P.cellsOf e/\p.2.cells.length=P.cellsOf e/\∀(i:Nat) (y) (u),p.2.cells[i]?=some y->q.2.cells[i]?=some u->aI c y u:=by
    intro k p q h1 h2;have h4:=gm.1 fA p<|ds h1;simp only[cV,rK]at h4;obtain⟨g1,g2⟩:=(ad k p q h1 h2).cells h4.1;exact⟨by rw[g1,h4.2],h4.2,g2⟩
   have U:∀q∈vs.toList,q.2.cells.size=P.cellsOf e:=by
    intro q aJ;obtain⟨k,hk,ee⟩:=List.getElem_of_mem aJ;simp only[Array.length_toList]at hk;exact(E5 k _ q (da<|by rw[<-hlen];simpa using hk) (by rw[<-ee];simp[hk])).1
   let T:=if n * P.cellsOf e=0 then #[]else z.cells
   obtain⟨ws,g1,g2, -,g4⟩:=VO vs.toList 0 ((Array.range (n * P.cellsOf e)).map λk=>T[k % T.size]!) (by rw[hm,az,hlen,af,List.range_eq_range']) U<|by simp[hlen,af]
   have hr:(Instr.buildSlice t n vs).run P c.w=.ok (.slice (some ⟨c.w.heap.size,0,none⟩) n n) (c.w.alloc<|.cells ws e):=by
    have Ih:¬(n * P.cellsOf e>16777216):=iV
    simp only[Instr.buildSlice,Sem.run_bind,run_underlying hu,Result.andThen_ok,gT hd];rw[aj Ih];by_cases aw:n * P.cellsOf e=0
    ·have R4:T= #[]:=aA aw;rw[R4]at g1;rw[aA aw];simp only[Sem.run_bind,Sem.run_pure,Result.andThen_ok];rw[g1];rfl
    ·have R4:T=z.cells:=aj aw;rw[R4]at g1;rw[aj aw];simp only[Sem.run_bind,gu,Sem.run_pure,Result.andThen_ok];rw[g1];rfl
   refine⟨c.fix<|.cells ws e,_,hr,ai.fix _,Ext.fix ai _,?_⟩;refine .sl _ _ _ _ _ (P.cellsOf e) (λk j=>((vs[k]?).bind λq=>q.2.cells[j]?).getD undef) (by simp[af]) (bd _) (λ_=>rfl) (λ_=>⟨_,rfl,rfl,.inr rfl,λk j hk V=>?_⟩) (λx J=>?_) (λk x j y hk V=>?_) (by have:=Nat.le_mul_of_pos_right n<|Nat.pos_of_ne_zero aN;omega)
   ·simp only[cv]at hk;have O:vs[k]?=some (vs[k]'(by rw[<-hlen]at hk;simpa using hk)):=mc _
    have b4:=g4 k j _ (by rw[x1];exact O) V
    have aa:(c.fix (.cells ws e)).w.heap[c.w.heap.size]?=some (.cells ws e):=mo _ _;rw[p0,AY aa,j9];rw[j9]at b4;rw[b4,O];have hsz:=U (vs[k]'(by rw[<-hlen]at hk;simpa using hk)) kk
    simp[show j<(vs[k]'(by rw[<-hlen]at hk;simpa using hk)).2.cells.size by omega]
   ·obtain⟨p,Z,rfl⟩:=bJ.1 J;have h4:=gm.1 fA p Z;simp only[cV,rK]at h4;exact h4.2
   ·simp only[mF,hC]at hk;obtain⟨p,Z,rfl⟩:=hk;have ak:=(cj.1 Z).1;have O:vs[k]?=some (vs[k]'(by rw[<-hlen]at ak;simpa using ak)):=mc _
    obtain⟨aP,aR,bH⟩:=E5 k p _ Z O;have H7:=(cj.1 V).1;rw[O];refine aI.mono (Ext.fix ai _)<|bH j y _ V ?_;simp[show j<(vs[k]'(by rw[<-hlen]at ak;simpa using ak)).2.cells.size by omega]
def Fz(P:Program)(b:Builtin)(ts:List TypeId)(xs:List I)(H:ab):kc:=
 match b,ts,xs with
 |.len,[t],[x]=>⟨(Em P t x H).v,H,(Em P t x H).s⟩
 |.append,[t,u],[s,x]=>Ee P t u s x H
 |.copy,[t,_],[d,x]=>Ek P t d x H
 |.clear,[t],[x]=>Eg P t x H
 |.delete,[t,_],[x,k]=>Ei P t x k H
 |.cap,[t],[x]=>⟨(Eo P t x).v,H,(Eo P t x).s⟩
 |.max,_,[x,y]=>⟨(D8 x y).v,H,(D8 x y).s⟩
 |.min,_,[x,y]=>⟨(D9 x y).v,H,(D9 x y).s⟩
 |_,_,_=>⟨.top,H,False⟩
theorem aDz{x y:I}(J:aI c x b2)(U:aI c y jb)(hs:(D8 x y).s)(w):∃v,(Builtin.max_ ts ty #[b2,jb]).run P w=.ok v w/\aI c (D8 x y).v v:=by
 unfold D8 at *;split at hs
 ·rename_i k a k' b;subst hs;rw[J.iF,U.iF];refine⟨.int k<|max a b,?_,.int _ _ (by have h1:=J.CM;have h2:=U.CM;unfold l6 at *;omega)⟩
  simp only[Builtin.max_,List.foldlM_cons,List.foldlM_nil,Builtin.max2,Sem.run_bind,Sem.run_pure,Result.andThen_ok];congr 2;split<;>omega
 ·exact hs.elim
theorem aDA{x y:I}(J:aI c x b2)(U:aI c y jb)(hs:(D9 x y).s)(w):∃v,(Builtin.min_ ts ty #[b2,jb]).run P w=.ok v w/\aI c (D9 x y).v v:=by
 unfold D9 at *;split at hs
 ·rename_i k a k' b;subst hs;rw[J.iF,U.iF];refine⟨.int k<|min a b,?_,.int _ _ (by have h1:=J.CM;have h2:=U.CM;unfold l6 at *;omega)⟩
  simp only[Builtin.min_,List.foldlM_cons,List.foldlM_nil,Builtin.min2,Sem.run_bind,Sem.run_pure,Result.andThen_ok];congr 2;split<;>omega
 ·exact hs.elim
def Bu(c:Ctx)(xs:List I)(vs:Array Value):Prop:=vs.size=xs.length/\∀(i:Nat) (x:I) (v:Value),xs[i]?=some x->vs[i]?=some v->aI c x v
theorem Bu.one{x:I}(h:Bu c [x] vs):∃u,vs= #[u]/\aI c x u:=by
 obtain⟨h1,h2⟩:=h;obtain⟨l⟩:=vs
 match l,h1 with
 |[u],_=>exact⟨u,rfl,h2 0 _ _ rfl rfl⟩
theorem Bu.two{x y:I}(h:Bu c [x,y] vs):∃u v,vs= #[u,v]/\aI c x u/\aI c y v:=by
 obtain⟨h1,h2⟩:=h;obtain⟨l⟩:=vs
 match l,h1 with
 |[u,v],_=>exact⟨u,v,rfl,h2 0 _ _ rfl rfl,h2 1 _ _ rfl rfl⟩
theorem aC0{b:Builtin}{cs:Array Bool}{xs:List I}(U:bp c H)(J:Bu c xs vs)(hs:(Fz P b ts.toList xs H).s):
  ∃c' v,(builtin b ts ty cs vs).run P c.w=.ok (.value v) c'.w/\bp c' (Fz P b ts.toList xs H).H/\Ext c c'/\aI c' (Fz P b ts.toList xs H).v v:=by
 obtain⟨qI⟩:=ts;simp only at hs ⊢;unfold Fz at *;split at hs
 ·obtain⟨u,rfl,hu⟩:=J.one;obtain⟨v,h1,h2⟩:=aJ4 U hu hs;exact⟨c,v,by simp only[builtin,Sem.run_bind];rw[h1];rfl,U,Ext.refl c,h2⟩
 ·obtain⟨u,T,rfl,hu,O⟩:=J.two;obtain⟨c',v,h1,h2,h3,h4⟩:=aFH U hu O hs;exact⟨c',v,by simp[builtin,Sem.run_bind];rw[h1];rfl,h2,h3,h4⟩
 ·obtain⟨u,T,rfl,hu,O⟩:=J.two;obtain⟨c',v,h1,h2,h3,h4⟩:=aH1 U hu O hs;exact⟨c',v,by simp only[builtin,Sem.run_bind];rw[h1];rfl,h2,h3,h4⟩
 ·obtain⟨u,rfl,hu⟩:=J.one;obtain⟨c',v,h1,h2,h3,h4⟩:=aIa U hu hs;exact⟨c',v,by simp only[builtin,Sem.run_bind];rw[h1];rfl,h2,h3,h4⟩
 ·obtain⟨u,T,rfl,hu,O⟩:=J.two;obtain⟨c',v,h1,h2,h3,h4⟩:=aH9 U hu O hs;exact⟨c',v,by simp only[builtin,Sem.run_bind];rw[h1];rfl,h2,h3,h4⟩
 ·obtain⟨u,rfl,hu⟩:=J.one;obtain⟨v,h1,h2⟩:=aJ0 hu hs;exact⟨c,v,by simp only[builtin,Sem.run_bind];rw[h1];rfl,U,Ext.refl c,h2⟩
 ·obtain⟨u,T,rfl,hu,O⟩:=J.two;obtain⟨v,h1,h2⟩:=aDz hu O hs c.w;exact⟨c,v,by simp only[builtin,Sem.run_bind];rw[h1];rfl,U,Ext.refl c,h2⟩
 ·obtain⟨u,T,rfl,hu,O⟩:=J.two;obtain⟨v,h1,h2⟩:=aDA hu O hs c.w;exact⟨c,v,by simp only[builtin,Sem.run_bind];rw[h1];rfl,U,Ext.refl c,h2⟩
 ·exact hs.elim
def ch(t:List UInt8):List I:=t.map λb=>.int .u8 b.toNat
def Lf(cs:List I):List UInt8:=cs.map λe=>UInt8.ofNat (uU e).toNat
def Po(cs:List I):Bool:=cs.all He
theorem aJ1(t):t.map (λb=>I.int .u8 b.toNat)=ch t:=rfl
theorem q0(t):(ch t).length=t.length:=cv _
theorem aFt(t):Po (ch t)=true:=by unfold Po;rw[gm];intro x J;obtain⟨b,_,rfl⟩:=bJ.1 J;rfl
theorem aHQ(t:List UInt8):Lf (ch t)=t:=by
 unfold Lf ch;rw[sG];conv=>rhs;rw[<-List.map_id t]
 apply List.map_congr_left
 simp[uU]
theorem aHR(t):List.take (t.length * 1) (ch t)=ch t:=iw<|by rw[q0];omega
theorem zI(s t):ch (s++t)=ch s++ch t:=nQ
theorem Yx(t):(ch t).all I.one=true:=by rw[gm];intro x J;obtain⟨b,_,rfl⟩:=bJ.1 J;rfl
def y9(P:Program)(src dst:TypeId)(x:I)(H:ab):kc:=
 match x with
 |.osl s i v off len lc=>⟨.str<|Lf (e8 (.osl s i v off len lc) H),H,
   P.underlying dst=some .string/\zQ P src=true/\tr (.osl s i v off len lc) 1 H/\Po (e8 (.osl s i v off len lc) H)=true⟩
 |.str s=>bif zQ P dst then⟨.osl 1 H.length 1 0 s.length s.length,H++[.cells 1 (e8 (.str s) H)],(P.underlying src).isSome=true⟩else ofBRH (DW P src dst<|.str s) H
 |x=>ofBRH (DW P src dst x) H
where ofBRH (r:hW) (H:ab):kc:=⟨r.v,H,r.s⟩
theorem Xu{t:TypeId}(h:zQ P t=true):∃e,P.underlying t=some (.slice e)/\P.underlying e=some (.int .u8):=by
 unfold zQ at h;split at h
 ·rename_i e he;split at h
  ·rename_i J;exact⟨e,he,J⟩
  ·cases h
 ·cases h
theorem aC8(w)(e)(s):Lib.bytesWorld w e s=World.alloc {w with drawn:=w.drawn+1} (.cells (Lib.bytesCells w e s) e ((Lib.bytesCells w e s).size,(Lib.bytesCells w e s).size+1)):=by
 simp only[Lib.bytesWorld,World.freeze,World.alloc,World.drew,Nat.one_ne_zero,gz];congr 1;apply Array.ext'
 apply x3
 intro j;by_cases h:w.heap.size=j
 ·subst h;simp
 ·simp[h,List.getElem?_append];by_cases h2:j<w.heap.size
  ·simp[h2]
  ·rw[aj h2,aj h2,tA kr,tA kr]
theorem aDj{x:I}(U:bp c H)(J:aI c x b2)(hs:(y9 P src dst x H).s):
  mj P (convert src dst b2) c (y9 P src dst x H).v (y9 P src dst x H).H:=by
 unfold y9 at *;split at hs
 ·rename_i s i v off len lc;obtain⟨h1,h2,h3,h4⟩:=hs;obtain⟨e,he,T⟩:=Xu h2;obtain⟨aP,V,us,O,Z,ez⟩:=tj (P:=P) U J h3;obtain⟨rfl,hl, -⟩:=h3;obtain⟨base,cap,rfl,g1,g2, -⟩:=J.l8<|wQ U hl;have z:=J.FB;have pH:us=((e8 (.osl 1 i v off len lc) H).map λy=>Value.int .u8<|uU y).toArray:=by
   apply Array.ext
   ·simpa using Z
   ·intro k k1 k2;have k3:k<(e8 (.osl 1 i v off len lc) H).length:=iV
    have hu:=ez k _ _ (da k3)<|mc k1;rw[Xy (gm.1 h4 _<|ga k3)]at hu;rw[hu.iF];simp
  refine⟨c,.string ⟨((e8 (.osl 1 i v off len lc) H).map λy=>UInt8.ofNat (uU y).toNat).toArray⟩,?_,U,Ext.refl c,.str _ (by simp only[fa]at V;unfold Lf;simp;omega)⟩
  rw[run_convert_bytes_string c.w src dst e base _ cap he T h1];simp only[fa]at V O;cases base with
  |none=>
   have af:=by
    simp only[Builtin.firstCells]at O;cases O;exact iO<|by simpa using Z.symm
   rw[af];simp[Conv.bytesToString];rfl
  |some a=>
   have hl:(loadCells a len).run P c.w=.ok (((e8 (.osl 1 i v off len lc) H).map uU).map (Value.int .u8)).toArray c.w:=by
    rw[sG];simp only[Builtin.firstCells,me]at O;rw[O,pH];rfl
   rw[run_bytesToString c.w a len cap _ hl,foldl_push_bytes];simp[ByteArray.empty,ByteArray.emptyWithCapacity];rfl
 ·rename_i s;cases hu:zQ P dst with
  |false=>
   simp only[hu,sI,y9.ofBRH]at hs ⊢;obtain⟨v,h1,h2⟩:=Ui J hs;exact⟨c,v,h1,U,Ext.refl c,h2⟩
  |true=>
   simp only[hu,tG]at hs ⊢;obtain⟨e,he,T⟩:=Xu hu;obtain⟨d,hd⟩:=hV.1 hs;have z:=J.zh;have hsz:(⟨s.toArray⟩:ByteArray).size=s.length:=by simp[ByteArray.size]
   have mq:s.length<=grownCap c.w s.length 0 e:=by simp[grownCap,Question.cut]
   have q5:(Lib.bytesCells c.w e ⟨s.toArray⟩).size=grownCap c.w s.length 0 e:=by simp[Lib.bytesCells,hsz];omega
   rw[J.ng];have hr:=Lib.run_convert_string_bytes c.w src dst e ⟨s.toArray⟩ hd he T;rw[aC8,hsz]at hr;refine⟨_,_,hr,U.draw.push (.cells (Lib.bytesCells c.w e ⟨s.toArray⟩) e ((Lib.bytesCells c.w e ⟨s.toArray⟩).size,(Lib.bytesCells c.w e ⟨s.toArray⟩).size+1)) 1 ?_,(Ext.draw c).trans<|Ext.push U.draw _ 1,?_⟩
   ·refine .cells _ _ _ e _ (by simp[Ctx.push]) (by simp[Ctx.push]) (by simp only[Ctx.push,dG];exact mo _ _) (by rw[q5];simp[e8];omega) (.inl (bd _)) λj y u aq hu=>?_
    simp only[e8,mF,hC]at aq;obtain⟨b,fN,rfl⟩:=aq;have iC:=(cj.1 fN).1;have:(Lib.bytesCells c.w e ⟨s.toArray⟩)[j]?=some (.int .u8 b.toNat):=by
     simp only[Lib.bytesCells];rw[Bi (by simpa using iC)]
     simp[fN]
    rw[this]at hu;cases hu;exact .int _ _<|KO.2 ⟨iV,by have:=b.toNat_lt;omega⟩
   ·refine .osl _ _ _ _ _ _ _ (by simp[Ctx.push,Ctx.draw,U.n]) (by simp[Ctx.push,Ctx.draw,U.n]) rfl z (λ_ hd=>by simp[Ctx.push,Ctx.draw,U.n]at hd) λ_ _=>?_
    refine⟨_,grownCap c.w s.length 0 e,grownCap c.w s.length 0 e,rfl,bd _,mq,.inr (by simp[Ctx.push,Ctx.draw,U.n]),?_,iV⟩
    simp only[bsize,Ctx.push,Ctx.draw,U.n,dG];rw[mo];exact bU some q5
 ·simp only[y9.ofBRH]at hs ⊢;obtain⟨v,h1,h2⟩:=Ui J hs;exact⟨c,v,h1,U,Ext.refl c,h2⟩
theorem BE(h:∀c,o.op≠.defer c):GB o:=λr ρ=>Oper.semAt_eq r ρ o h
theorem jx{x:I}
  (h:∀(c) (a:Act),bp c H->(∀x∈o.op.operands.toList,aI c (ρ x)<|a.eval x)->∃c' v,(execOp a.eval o).run P c.w=.ok (.value v) c'.w/\bp c' H'/\Ext c c'/\aI c' x v) (hd:GB o:=by intro r _;cases r<;>rfl):
  pZ P o ρ H (λx' J=>x'=x/\J=H'):=by
 intro r c a next Q hs hρ hk
 obtain⟨c',v,h1,h2,h3,h4⟩:=h c a hs hρ;refine y8 hd ?_;rw[h1];exact hk c' x v H' h2 h3 h4 ⟨rfl,rfl⟩
theorem TH
  (h:∀(c) (a:Act),bp c H->(∀x∈o.op.operands.toList,aI c (ρ x)<|a.eval x)->∃c',(execOp a.eval o).run P c.w=.ok .skip c'.w/\bp c' H'/\Ext c c') (hd:GB o:=by intro r _;cases r<;>rfl):
  pZ P o ρ H (λx' J=>x'=.top/\J=H'):=by
 intro r c a next Q hs hρ hk
 obtain⟨c',h1,h2,h3⟩:=h c a hs hρ;refine y8 hd ?_;rw[h1];exact hk c' .top undef H' h2 h3 (.top _) ⟨rfl,rfl⟩
def tu(r:hW)(H:ab):kc:=⟨r.v,H,r.s⟩
theorem aI.Zs{cs:List I}{v:Value}(h:aI c (.cptr cs) v):∃a,v=.pointer (some a):=by
 cases h with|cptr _ a=>exact⟨a,rfl⟩
def Hb(x:I)(H:ab):kc:=
 match x with
 |.ref i v off=>⟨.ref i v off,H,nh H<|.ref i v off⟩
 |.cptr cs=>⟨.cptr cs,H,True⟩
 |_=>⟨.top,H,False⟩
def SJ(P:Program)(t:TypeId):Bool:=
 match P.underlying t with
 |some d=>Y3 P d
 |none=>false
def Xv(g:Nat):I:=
 match Zm.find? (·.1==g)with
 |some p=>.cptr<|p.2.map kI
 |none=>.top
def B8(x:Operand)(v:I):I:=
 match x with
 |.global g=>Xv g
 |_=>v
theorem aHS{x:Operand}{v:I}(O:bp c H)(h:aI c v (a.eval x)):aI c (B8 x v) (a.eval x):=by
 unfold B8;split
 ·unfold Xv;split
  ·rename_i p ad;have hm:=O.jX p<|sC ad;have T:=by simpa using List.find?_some ad
   subst T;refine .cptr _ ⟨p.1,0,none⟩ (λj=>p.2.getD j undef) rfl hm.1 (λj J=>?_) (λj y U=>?_)
   ·simp at J;rw[p0,j9,hm.2 j _<|da J];simp[J]
   ·simp at U;obtain⟨v,V,rfl⟩:=U;rw[et,V];exact PT c v
  ·exact .top _
 ·exact h
def cr(P:Program)(op:Op)(ρ:Operand->I)(H:ab):kc:=
 match op with
 |.move x=>⟨ρ x,H,True⟩
 |.assign x=>⟨ρ x,H,True⟩
 |.alloc t=>Ej P t H
 |.box _ x=>Er (ρ x) H
 |.build t ps=>⟨(Ed P t (ps.toList.map λp=>(p.1,ρ p.2))).v,H,SJ P t=true/\(Ed P t (ps.toList.map λp=>(p.1,ρ p.2))).s⟩
 |.buildSlice t n ps=>tu (IK P t n<|ps.toList.map λp=>(p.1,ρ p.2)) H
 |.load t x=>tu (zX P t (ρ x) H) H
 |.store t a x=>BL P t (ρ a) (ρ x) H
 |.nilCheck x=>Hb (ρ x) H
 |.binOp op t x y _=>tu (BD P (tg x||tg y) op t (ρ x)<|ρ y) H
 |.unOp op _ x=>tu (Hs op<|ρ x) H
 |.convert s d x=>y9 P s d (ρ x) H
 |.makeInterface t x=>⟨.iface t<|ρ x,H,yY P t=true⟩
 |.makeFunc fn f cs=>⟨.func fn (f.toList.map ρ)<|cs.toList.map ρ,H,True⟩
 |.slice t x lo hi mx=>tu (BW P t (ρ x) (lo.map ρ) (hi.map ρ) (mx.map ρ) H) H
 |.fieldAddr t x f=>⟨(DP P t f (ρ x)).v,H,nh H (ρ x)/\(DP P t f (ρ x)).s⟩
 |.field t x f=>tu (Hm P t f<|ρ x) H
 |.indexAddr t x i=>⟨(DQ P t (B8 x<|ρ x) (ρ i)).v,H,nh H (B8 x<|ρ x)/\(DQ P t (B8 x<|ρ x) (ρ i)).s⟩
 |.index t x i=>tu (Hn P t (ρ x)<|ρ i) H
 |.typeAssert x _ t ok=>tu (Jt P (ρ x) t ok) H
 |.extract x i=>tu (Jd (ρ x) i) H
 |.makeSlice t l k=>D2 P t (ρ l) (ρ k) H
 |.range t x=>Eh P t (ρ x) H
 |.makeMap _ none=>La H
 |.lookup t x k ok=>tu (Hk P t (ρ x) (ρ k) ok H) H
 |.entry x=>tu (Hl (ρ x) H) H
 |.mapUpdate t x k v=>xv P t (ρ x) (ρ k) (ρ v) H
 |.insert t x k v=>xv P t (ρ x) (ρ k) (ρ v) H
 |.next it b=>En (ρ it) b H
 |.call ⟨.builtin b,xs,ts⟩=>Fz P b ts.toList (xs.toList.map ρ) H
 |_=>⟨.top,H,False⟩
theorem FT(h:∀x∈xs.toList,aI c (ρ x)<|e x):Bu c (xs.toList.map ρ) (xs.map e):=by
 grind [Ctx,Operand,Value,Array,Bu]
theorem SK{o:Option Operand}(h:∀x,o=some x->aI c (ρ x) (e x)):
  (∀y,o.map ρ=some y->∃u,o.map e=some u/\aI c y u)/\(o.map ρ=none->o.map e=none):=by
 grind [Ctx,Operand,Value,Option]
theorem yw(hs:(cr P o.op ρ H).s):
  pZ P o ρ H (λx' H'=>x'=(cr P o.op ρ H).v/\H'=(cr P o.op ρ H).H):=by
 obtain⟨dst,op,ty,pos,after,guard⟩:=o;cases op<;>simp only[cr,tu]at hs ⊢;case move x=>exact jx λc a U hρ=>⟨c,_,rfl,U,Ext.refl c,hρ x<|by simp[Op.operands]⟩
 case assign x=>exact jx λc a U hρ=>⟨c,_,rfl,U,Ext.refl c,hρ x<|by simp[Op.operands]⟩
 case alloc t=>
  refine jx λc a U hρ=>?_
  obtain⟨c',v,h1,h2,h3,h4⟩:=aHW (P:=P) U hs;exact⟨c',v,by simp only[execOp,Sem.run_bind,h1];rfl,h2,h3,h4⟩
 case box t x=>
  refine jx λc a U hρ=>?_
  obtain⟨c',v,h1,h2,h3,h4⟩:=YK (P:=P) (t:=t) U (hρ x<|by simp[Op.operands]) hs
  exact⟨c',v,by simp only[execOp,Sem.run_bind,h1];rfl,h2,h3,h4⟩
 case build t ps=>
  obtain⟨I,hs⟩:=hs;refine jx λc a U hρ=>?_
  have z:∀p∈ps.toList,aI c (ρ p.2) (a.eval p.2):=λp ad=>hρ p.2<|by simp only[Op.operands,bJ];exact⟨p,ad,rfl⟩
  obtain⟨v,h1,h2⟩:=aHX (P:=P) (vs:=ps.map fun(i,x)=>(i,a.eval x)) (by simp[sG,Function.comp_def]) (λk p q h1 h2=>by
   simp only[mF,hC]at h1;obtain⟨r,h1,rfl⟩:=h1;rw[Array.getElem?_map]at h2;rw[x1]at h1;rw[h1]at h2;cases h2;exact z r<|by rw[Array.mem_toList_iff];exact F9 h1) hs (λd hd=>by unfold SJ at I;rw[hd]at I;exact I) c.w
  exact⟨c,v,by simp only[execOp,Sem.run_bind,h1];rfl,U,Ext.refl c,h2⟩
 case buildSlice t n ps=>
  refine jx λc a U hρ=>?_
  have z:∀p∈ps.toList,aI c (ρ p.2) (a.eval p.2):=λp ad=>hρ p.2<|by simp only[Op.operands,bJ];exact⟨p,ad,rfl⟩
  obtain⟨c',v,h1,h2,h3,h4⟩:=aRY (P:=P) (vs:=ps.map fun(i,x)=>(i,a.eval x)) U (by simp[sG,Function.comp_def]) (λk p q h1 h2=>by
   simp only[mF,hC]at h1;obtain⟨r,h1,rfl⟩:=h1;rw[Array.getElem?_map]at h2;rw[x1]at h1;rw[h1]at h2;cases h2;exact z r<|by rw[Array.mem_toList_iff];exact F9 h1) hs
  exact⟨c',v,by simp only[execOp,Sem.run_bind,h1];rfl,h2,h3,h4⟩
 case load t x=>
  refine jx λc a U hρ=>?_
  obtain⟨v,h1,h2⟩:=VN (P:=P) U (hρ x<|by simp[Op.operands]) hs
  exact⟨c,v,by simp only[execOp,Sem.run_bind,h1];rfl,U,Ext.refl c,h2⟩
 case store t x y=>
  have O:(BL P t (ρ x) (ρ y) H).v=.top:=by unfold BL;split<;>(try split)<;>rfl
  rw[O];refine TH λc a U hρ=>?_
  obtain⟨w',h1,h2,h3⟩:=aHV (P:=P) U (hρ x<|by simp[Op.operands]) (hρ y<|by simp[Op.operands]) hs
  exact⟨_,by simp only[execOp,Sem.run_bind,h1];rfl,h3,h2⟩
 case nilCheck x=>
  refine jx λc a U hρ=>?_
  have J:=hρ x<|by simp[Op.operands]
  have e:(Hb (ρ x) H).v=ρ x/\(Hb (ρ x) H).H=H/\∃T,a.eval x=.pointer (some T):=by
   unfold Hb at hs ⊢;split at hs
   ·rename_i i v off V;rw[V]at J;obtain⟨b,aa, -⟩:=KN J (Lr (off:=off) U hs) 0;exact⟨V.symm,rfl,b,aa⟩
   ·rename_i cs V;rw[V]at J;obtain⟨T,s5⟩:=J.Zs;exact⟨V.symm,rfl,T,s5⟩
   ·exact hs.elim
  obtain⟨av,al,T,aY⟩:=e;rw[av,al];refine⟨c,.pointer<|some T,?_,U,Ext.refl c,by rw[<-aY];exact J⟩
  simp only[execOp];rw[aY];rfl
 case binOp op t x y ty'=>
  refine jx λc a U hρ=>?_
  obtain⟨v,h1,h2⟩:=aDv (P:=P) (X:=x) (Y:=y) (hρ x<|by simp[Op.operands]) (hρ y<|by simp[Op.operands]) hs c.w
  exact⟨c,v,by simp only[execOp];rw[Sem.run_bind,h1];rfl,U,Ext.refl c,h2⟩
 case unOp op t x=>
  refine jx λc a U hρ=>?_
  obtain⟨v,h1,h2⟩:=aEB (P:=P) (hρ x<|by simp[Op.operands]) hs c.w
  exact⟨c,v,by simp only[execOp,Sem.run_bind,h1];rfl,U,Ext.refl c,h2⟩
 case convert s d x=>
  refine jx λc a U hρ=>?_
  obtain⟨c',v,h1,h2,h3,h4⟩:=aDj (P:=P) U (hρ x<|by simp[Op.operands]) hs
  exact⟨c',v,by simp only[execOp,Sem.run_bind,h1];rfl,h2,h3,h4⟩
 case makeInterface t x=>
  exact jx λc a U hρ=>⟨c,_,by simp only[execOp,Sem.run_bind,aCZ hs];rfl,U,Ext.refl c,.iface _ _ _<|hρ x (by simp[Op.operands])⟩
 case makeFunc fn f cs=>
  refine jx λc a U hρ=>⟨c,.func fn (f.map a.eval)<|cs.map a.eval,by simp only[execOp,Instr.makeFunc,Sem.run_bind,Sem.run_pure];rfl,U,Ext.refl c,?_⟩
  obtain⟨cq,cT⟩:=FT (c:=c) (ρ:=ρ) (e:=a.eval) (xs:=f) λx J=>hρ x (by simp only[Op.operands,F8,e4];exact .inl J)
  obtain⟨aP,aR⟩:=FT (c:=c) (ρ:=ρ) (e:=a.eval) (xs:=cs) λx J=>hρ x (by simp only[Op.operands,F8,e4];exact .inr J)
  exact .func _ _ _ _ _ cq aP cT aR
 case slice t x lo hi mx=>
  refine jx λc a U hρ=>?_
  obtain⟨ca,cy⟩:=SK (c:=c) (ρ:=ρ) (e:=a.eval) (o:=lo) λy Z=>hρ y (by subst Z;simp[Op.operands])
  obtain⟨h1,h2⟩:=SK (c:=c) (ρ:=ρ) (e:=a.eval) (o:=hi) λy Z=>hρ y (by subst Z;simp[Op.operands])
  obtain⟨m1,m2⟩:=SK (c:=c) (ρ:=ρ) (e:=a.eval) (o:=mx) λy Z=>hρ y (by subst Z;simp[Op.operands])
  obtain⟨v,g1,g2⟩:=aH0 (P:=P) U (hρ x<|by simp[Op.operands]) ca cy h1 h2 m1 m2 hs c.w
  exact⟨c,v,by simp only[execOp,Sem.run_bind,g1];rfl,U,Ext.refl c,g2⟩
 case fieldAddr t x f=>
  refine jx λc a U hρ=>?_
  obtain⟨v,h1,h2⟩:=aEy (P:=P) U (hρ x<|by simp[Op.operands]) hs.1 hs.2 c.w
  exact⟨c,v,by simp only[execOp,Sem.run_bind,h1];rfl,U,Ext.refl c,h2⟩
 case field t x f=>
  refine jx λc a U hρ=>?_
  obtain⟨v,h1,h2⟩:=aHY (P:=P) (hρ x<|by simp[Op.operands]) hs c.w
  exact⟨c,v,by simp only[execOp,Sem.run_bind,h1];rfl,U,Ext.refl c,h2⟩
 case indexAddr t x i=>
  refine jx λc a U hρ=>?_
  obtain⟨v,h1,h2⟩:=aEz (P:=P) U (aHS U<|hρ x (by simp[Op.operands])) (hρ i<|by simp[Op.operands]) hs.1 hs.2 c.w
  exact⟨c,v,by simp only[execOp,Sem.run_bind,h1];rfl,U,Ext.refl c,h2⟩
 case index t x i=>
  refine jx λc a U hρ=>?_
  obtain⟨v,h1,h2⟩:=aHZ (P:=P) (hρ x<|by simp[Op.operands]) (hρ i<|by simp[Op.operands]) hs c.w
  exact⟨c,v,by simp only[execOp,Sem.run_bind,h1];rfl,U,Ext.refl c,h2⟩
 case typeAssert x xt t ok=>
  refine jx λc a U hρ=>?_
  obtain⟨v,h1,h2⟩:=aC7 (P:=P) (xt:=xt) (hρ x<|by simp[Op.operands]) hs c.w
  exact⟨c,v,by simp only[execOp,Sem.run_bind,h1];rfl,U,Ext.refl c,h2⟩
 case extract x i=>
  refine jx λc a U hρ=>?_
  obtain⟨v,h1,h2⟩:=aCY (P:=P) (hρ x<|by simp[Op.operands]) hs c.w
  exact⟨c,v,by simp only[execOp,Sem.run_bind,h1];rfl,U,Ext.refl c,h2⟩
 case makeSlice t l k=>
  refine jx λc a U hρ=>?_
  obtain⟨c',v,h1,h2,h3,h4⟩:=aEA (P:=P) U (hρ l<|by simp[Op.operands]) (hρ k<|by simp[Op.operands]) hs
  exact⟨c',v,by simp only[execOp,Sem.run_bind,h1];rfl,h2,h3,h4⟩
 case range t x=>
  refine jx λc a U hρ=>?_
  obtain⟨c',v,h1,h2,h3,h4⟩:=aIb (P:=P) U (hρ x<|by simp[Op.operands]) hs
  exact⟨c',v,by simp only[execOp,Sem.run_bind,h1];rfl,h2,h3,h4⟩
 case next it b=>
  refine jx λc a U hρ=>?_
  obtain⟨c',v,h1,h2,h3,h4⟩:=aJz (P:=P) (ty:=ty) U (hρ it<|by simp[Op.operands]) hs
  exact⟨c',v,by simp only[execOp,Sem.run_bind,h1];rfl,h2,h3,h4⟩
 case makeMap t r=>
  cases r with
  |some x=>exact hs.elim
  |none=>
   refine jx λc a U hρ=>?_
   obtain⟨c',v,h1,h2,h3,h4⟩:=aFG (P:=P) (t:=t) U;exact⟨c',v,by simp only[execOp,Dm,Sem.run_bind,h1];rfl,h2,h3,h4⟩
 case lookup t x k ok=>
  refine jx λc a U hρ=>?_
  obtain⟨v,h1,h2⟩:=aH8 (P:=P) U (hρ x<|by simp[Op.operands]) (hρ k<|by simp[Op.operands]) hs
  exact⟨c,v,by simp only[execOp,Sem.run_bind,h1];rfl,U,Ext.refl c,h2⟩
 case entry x=>
  refine jx λc a U hρ=>?_
  obtain⟨v,h1,h2⟩:=aHP (P:=P) U (hρ x<|by simp[Op.operands]) hs
  exact⟨c,v,by simp only[execOp,Sem.run_bind,h1];rfl,U,Ext.refl c,h2⟩
 case mapUpdate t x k v=>
  have O:(xv P t (ρ x) (ρ k) (ρ v) H).v=.top:=by unfold xv;split<;>rfl
  rw[O];refine TH λc a U hρ=>?_
  obtain⟨c',h1,h2,h3⟩:=aCJ (P:=P) U (hρ x<|by simp[Op.operands]) (hρ k<|by simp[Op.operands]) (hρ v<|by simp[Op.operands]) hs
  exact⟨c',by simp only[execOp,Sem.run_bind,h1];rfl,h2,h3⟩
 case insert t x k v=>
  have O:(xv P t (ρ x) (ρ k) (ρ v) H).v=.top:=by unfold xv;split<;>rfl
  rw[O];refine TH λc a U hρ=>?_
  obtain⟨c',h1,h2,h3⟩:=aCJ (P:=P) U (hρ x<|by simp[Op.operands]) (hρ k<|by simp[Op.operands]) (hρ v<|by simp[Op.operands]) hs
  exact⟨c',by simp only[execOp,Sem.run_bind,h1];rfl,h2,h3⟩
 case call cl=>
  obtain⟨callee,xs,ts⟩:=cl;cases callee<;>simp only at hs ⊢;case builtin b=>
   refine jx λc a U hρ=>?_
   obtain⟨c',v,h1,h2,h3,h4⟩:=aC0 (P:=P) (b:=b) (ts:=ts) (ty:=ty) (cs:=xs.map fun|.const _=>true|_=>false) (vs:=xs.map a.eval) U (FT λx J=>hρ x<|by simp only[Op.operands,Call.operands,F8,e4];exact .inr J) hs
   exact⟨c',v,by simp only[execOp,resolve,Sem.run_bind,Sem.run_pure,Result.andThen_ok,invoke];exact h1,h2,h3,h4⟩
def kF(P:Program)(f:FuncId):Bool:=
 match P.funcs[f]? with
 |some fn=>fn.body.isSome&& !(fn.name== "runtime.NumGoroutine")
 |none=>false
theorem MA(h:kF P f=true)(args:Array Value)(w:World):(callFunc f args).run P w=.ok (.enter f args) w:=by
 unfold kF at h;cases J:P.funcs[f]? with
 |none=>rw[J]at h;cases h
 |some fn=>
  rw[J]at h;simp only[cV,sB]at h;obtain⟨h1,h2⟩:=h;have h3:fn.body.isNone=false:=oE
  simp only[callFunc,Sem.run_bind,run_program,Result.andThen_ok,J,h2,h3];rfl
def Dz(P:Program)(f:FuncId)(args:List I)(H:ab)(R:I->ab->Prop):Prop:=
 ∀(c:Ctx) (vs:Array Value),bp c H->sN c args vs->∃v x,(callFunc f vs).run P c.w=.ok (.value v) c.w/\aI c x v/\R x H
theorem Dz.mono{P:Program}(h:Dz P f args H R)(J:∀x H',R x H'->R' x H'):Dz P f args H R':=
 λc vs hs U=>by
  grind [Program,List,Dz]
theorem aEC{it:Operand}(J:o.op=.next it false)(h:Ls (ρ it) H K):pZ P o ρ H K:=by
 intro r c a next Q hs hρ hk
 obtain⟨c',v,x',H',h1,h2,h3,h4,U⟩:=aHO (P:=P) (ty:=o.type) hs (hρ it<|by rw[J];simp[Op.operands]) h
 refine y8 (BE kr) ?_
 have:(execOp a.eval o).run P c.w=.ok (.value v) c'.w:=by simp only[execOp,J,Sem.run_bind,h1];rfl
 rw[this];exact hk c' x' v H' h2 h3 h4 U
def sJ(P:Program)(l:Nat)(args:List I)(H:ab)(R:I->ab->Prop):Prop:=
 ∀(c:Ctx) (vs:Array Value),bp c H->sN c args vs->∃fn tmps ns dS,(Instr.yield l vs).run P c.w=.ok (.round l fn tmps ns dS) c.w/\
  RoundIn Fence.wide 0 P l fn tmps ns dS c.w (λe w'=>∃c' x v H',e=.returned v/\c'.w=w'/\bp c' H'/\Ext c c'/\aI c' x v/\R x H')
theorem sJ.mono{P:Program}{l:Nat}{args:List I}{H:ab}{R R':I->ab->Prop}(h:sJ P l args H R)(J:∀x H',R x H'->R' x H'):sJ P l args H R':=
 λc vs hs U=>by
  obtain⟨fn,tmps,O,dS,h1,h2⟩:=h c vs hs U;exact⟨fn,tmps,O,dS,h1,h2.mono λ_ _ ⟨c',x,v,H',av,al,T,V,Z,z⟩=>⟨c',x,v,H',av,al,T,V,Z,J _ _ z⟩⟩
def kb(P:Program)(f:I)(args:List I)(H:ab)(R:I->ab->Prop):Prop:=
 match f with
 |.func (.func sZ) first cap=>(kF P sZ=true/\dp P sZ (first++args++cap) H R)\/Dz P sZ (first++args++cap) H R
 |.func (.yield l) [] []=>sJ P l args H R
 |_=>False
theorem kb.mono{P:Program}{f:I}{args:List I}{H:ab}{R R':I->ab->Prop}(h:kb P f args H R)(J:∀x H',R x H'->R' x H'):kb P f args H R':=by
 unfold kb at h ⊢;split at h
 ·rcases h with⟨h1,h2⟩|h1
  ·exact .inl ⟨h1,h2.mono J⟩
  ·exact .inr<|h1.mono J
 ·exact h.mono J
 ·exact h.elim
theorem yB{f:Operand}(U:o.op=.call ⟨.value f,xs,ts⟩)(h:kb P (ρ f) (xs.toList.map ρ) H R):pZ P o ρ H R:=by
 intro r c a next Q hs hρ hk
 unfold kb at h;split at h
 ·rename_i sZ first cap I
  have O:=hρ f<|by grind [Op.operands,Call.operands]
  rw[I]at O;generalize z:a.eval f=so at O;cases O with
  |func _ _ _ v1 v2 T c8 E6 pF=>
   obtain⟨l4,RC⟩:=FT λx J=>hρ x (by rw[U];simp only[Op.operands,Call.operands,F8,e4];exact .inr J)
   have hr:(execOp a.eval o).run P c.w=(callFunc sZ (v1++xs.map a.eval++v2)).run P c.w:=by
    simp only[execOp,U,resolve,z,Deferred.ofValue,Sem.run_bind,Sem.run_pure,Result.andThen_ok,invoke]
   have Z:sN c (first++xs.toList.map ρ++cap) (v1++xs.map a.eval++v2):=by
    refine⟨by simp[T,c8,l4],λi x v g1 g2=>?_⟩
    by_cases h1:i<first.length
    ·rw[dr,iP h1]at g1;rw[Array.append_assoc,Bi iV]at g2
     exact E6 _ _ _ g1 g2
    ·by_cases h2:i<first.length+(xs.toList.map ρ).length
     ·rw[dr,pX iV,iP iV]at g1
      rw[Array.append_assoc,JY iV,Bi iV,T]at g2
      exact RC _ _ _ g1 g2
     ·rw[dr,pX iV,pX iV]at g1
      rw[Array.append_assoc,JY iV,JY iV,T,l4]at g2
      exact pF _ _ _ g1 g2
   refine y8 (BE<|by rw[U];simp) ?_
   rw[hr];rcases h with⟨bn,h⟩|h
   ·rw[MA bn];refine⟨λh=>(by cases h),callsIn_wide.2 ?_⟩
    refine(h c _ hs Z).mono λe w' ⟨c',x,v,H',av,al,V,bu,b9,gH⟩=>?_
    subst av;subst al;exact hk c' x v H' V bu b9 gH
   ·obtain⟨v,x,av,al,V⟩:=h c _ hs Z;rw[av];exact hk c x v H hs (Ext.refl c) al V
 ·rename_i l I;have O:=hρ f<|by rw[U];simp[Op.operands,Call.operands]
  rw[I]at O;generalize z:a.eval f=so at O;cases O with
  |func _ _ _ v1 v2 T c8 _ _=>
   obtain rfl:=tF T;obtain rfl:=tF c8;have Z:=FT λx J=>hρ x (by rw[U];simp only[Op.operands,Call.operands,F8,e4];exact .inr J)
   obtain⟨fn,tmps,ns,dS,h1,h2⟩:=h c _ hs Z;have hr:(execOp a.eval o).run P c.w=.ok (.round l fn tmps ns dS) c.w:=by
    simp only[execOp,U,resolve,z,Deferred.ofValue,Sem.run_bind,Sem.run_pure,Result.andThen_ok,invoke];simpa using h1
   refine y8 (BE<|by rw[U];simp) ?_
   rw[hr];refine⟨λh=>(by cases h),RoundIn.mono h2 λe w' ⟨c',x,v,H',av,al,V,bu,b9,gH⟩=>?_⟩
   subst av;subst al;exact hk c' x v H' V bu b9 gH
 ·exact h.elim
def vX(P:Program)(t:TypeId)(m:String):Option FuncId:=
 match P.info? t with
 |some i=>match i.methods.find? (·.name==m)with
  |some mt=>bif mt.path.isEmpty then
    match mt.func,P.underlying t with
    |some (f,true),some (.pointer _)=>some f
    |some (_,false),some (.pointer _)=>none
    |some (f,false),some _=>some f
    |_,_=>none
   else none
  |none=>none
 |none=>none
def sY(P:Program)(m:String):I->I
 |.iface t v=>match vX P t m with
  |some f=>.func (.func f) [v] []
  |none=>.top
 |_=>.top
theorem aDB{t:TypeId}{m:String}(h:vX P t m=some f)(n:Nat)(v:Value)(w:World):(method (n+1) t v m).run P w=.ok (f,v) w:=by
 unfold vX at h;cases hi:P.info? t with
 |none=>rw[hi]at h;cases h
 |some i=>
  rw[hi]at h;simp only at h;cases hm:i.methods.find? (·.name==m)with
  |none=>rw[hm]at h;cases h
  |some mt=>
   rw[hm]at h;simp only at h;cases ad:mt.path.isEmpty with
   |false=>rw[ad]at h;cases h
   |true=>
    rw[ad]at h;have O:mt.path.toList=[]:=oE
    split at h
    ·rename_i J e U hu;cases h;simp only[method,typeInfo,Sem.run_bind,run_program,Result.andThen_ok,hi,Sem.run_pure,hm,O,follow,U,receiverAt,run_underlying hu,Place.get]
    ·cases h
    ·rename_i J d T U hu;cases h;simp only[method,typeInfo,Sem.run_bind,run_program,Result.andThen_ok,hi,Sem.run_pure,hm,O,follow,U,receiverAt,run_underlying hu,Place.get]
    ·cases h
theorem Fo{r:Operand}{m:String}(U:o.op=.call ⟨.invoke r m,xs,ts⟩)(h:kb P (sY P m<|ρ r) (xs.toList.map ρ) H R):pZ P o ρ H R:=by
 intro I c a next Q hs hρ hk
 unfold sY at h;split at h
 ·rename_i t x J;cases hm:vX P t m with
  |none=>rw[hm]at h;exact h.elim
  |some z=>
   rw[hm]at h;have O:=hρ r<|by grind [Op.operands,Call.operands]
   rw[J]at O;generalize Ck:a.eval r=so at O;cases O with
   |iface _ _ v aG=>
    obtain⟨l4,RC⟩:=FT λx J=>hρ x (by rw[U];simp only[Op.operands,Call.operands,F8,e4];exact .inr J)
    have T:(#[Value.iface t v]++xs.map a.eval).extract 1 (#[Value.iface t v]++xs.map a.eval).size=xs.map a.eval:=by
     apply Array.ext'
     simp[iw]
    have aw:(#[Value.iface t v]++xs.map a.eval)[0]?=some (.iface t v):=by rw[Bi kk];rfl
    have aOr:0<Made.depth:=l9
    obtain⟨n,af⟩:∃n,P.types.size+Made.depth=n+1:=⟨P.types.size+Made.depth-1,iV⟩
    have hr:(execOp a.eval o).run P c.w=(callFunc z (#[v]++xs.map a.eval)).run P c.w:=by
     simp only[execOp,U,resolve,Ck,Sem.run_bind,Sem.run_pure,Result.andThen_ok,invoke,aw,callMethod,run_program,af,aDB hm,T]
    have Z:sN c ([x]++xs.toList.map ρ++[]) (#[v]++xs.map a.eval):=by
     refine⟨by simp[l4];omega,λi y u g1 g2=>?_⟩
     rw[cA]at g1;cases i with
     |zero=>
      rw[Bi kk]at g2
      cases g1;cases g2;exact aG
     |succ i=>
      rw[iN,ju,tD]at g1;rw[JY kk]at g2
      exact RC i y u g1<|by simpa using g2
    refine y8 (BE<|by rw[U];simp) ?_
    rw[hr];rcases h with⟨bn,h⟩|h
    ·rw[MA bn];refine⟨λh=>(by cases h),callsIn_wide.2 ?_⟩
     refine(h c _ hs Z).mono λe w' ⟨c',x,v,H',av,al,V,bu,b9,gH⟩=>?_
     subst av;subst al;exact hk c' x v H' V bu b9 gH
    ·obtain⟨v,x,av,al,V⟩:=h c _ hs Z;rw[av];exact hk c x v H hs (Ext.refl c) al V
 ·exact h.elim
theorem pZ.mono(h:pZ P o ρ H R)(J:∀x H',R x H'->R' x H'):pZ P o ρ H R':=
 λr c a next Q hs hρ hk=>h r c a next Q hs hρ λc' x v H' h1 h2 h3 h4=>hk c' x v H' h1 h2 h3<|J _ _ h4
def Db:Value->Bool
 |.slice none 0 0=>true
 |_=>false
def AZ:Operand->Bool
 |.const v=>Db v
 |_=>false
def nE:BinOp->Bool
 |.eql=>true
 |_=>false
def Hc(P:Program)(t:TypeId):Bool:=
 match P.underlying t with
 |some (.slice _)=>true
 |_=>false
def Hd(P:Program)(t:TypeId)(H:ab)(x:I)(K:I->Prop):Prop:=
 match x with
 |.sl _ es=>Hc P t=true/\∀b:Bool,(es≠[]->b=false)->K (.bool b)
 |.osl s i v off len lc=>Hc P t=true/\nh H (.osl s i v off len lc)/\∀b:Bool,(len≠0->b=false)->K (.bool b)
 |_=>False
theorem aE5{y:Operand}(h:AZ y=true):y=.const (.slice none 0 0):=by
 unfold AZ at h;split at h
 ·unfold Db at h;split at h
  ·rfl
  ·cases h
 ·cases h
theorem aE6{t e:TypeId}(hu:P.underlying t=some (.slice e))(x)(base)(len cap)(w):
  (do eqGuard .eql t x (.const<|.slice none 0 0) (.slice base len cap) (.slice none 0 0);binOp .eql t (.slice base len cap) (.slice none 0 0):Sem Value).run P w=.ok (.bool base.isNone) w:=by
 have key:∀d,(Op.equalIn (d+1) t (.slice base len cap) (.slice none 0 0)).run P w=.ok base.isNone w:=λd=>by
  cases base<;>simp[Op.equalIn,run_underlying hu]
 have J:(Op.equal t (.slice base len cap) (.slice none 0 0)).run P w=.ok base.isNone w:=key 9999;have U:(eqGuard .eql t x (.const<|.slice none 0 0) (.slice base len cap) (.slice none 0 0)).run P w=.ok () w:=rfl;simp[U,binOp,J,Sem.run_pure]
theorem aFu{K:I->Prop}{t t':TypeId}{x y:Operand}(U:o.op=.binOp op t x y t')(af:(nE op&&AZ y)=true)(h:Hd P t H (ρ x) K):
  pZ P o ρ H (λv H'=>K v/\H'=H):=by
 intro r c a next Q hs hρ hk
 rw[cV]at af;have Z:op=.eql:=by cases op<;>first|rfl|exact absurd af.1 l9
 subst Z;obtain rfl:=aE5 af.2;have J:=hρ x<|by rw[U];simp[Op.operands]
 have T:∀{e base len cap},P.underlying t=some (.slice e)->a.eval x=.slice base len cap->(execOp a.eval o).run P c.w=.ok (.value<|.bool base.isNone) c.w:=fun{e base len cap} hu he=>by
  have:=aE6 hu x base len cap c.w;simp only[execOp,U,he];rw[show a.eval (.const<|.slice none 0 0)=.slice none 0 0 from rfl,Sem.run_bind,this]
  rfl
 unfold Hd at h;split at h
 ·rename_i f es O;obtain⟨h1,h2⟩:=h;rw[O]at J;have hu:∃e,P.underlying t=some (.slice e):=by
   unfold Hc at h1;split at h1
   ·rename_i e hu;exact⟨e,hu⟩
   ·cases h1
  obtain⟨e,hu⟩:=hu;obtain⟨base,len,cap,s,vs,he,g1,g2,g3,g4, -⟩:=J.qG;refine y8 (BE<|by rw[U];simp) ?_
  rw[T hu he];refine hk c (.bool base.isNone) _ H hs (Ext.refl c) (.bool _) ⟨h2 _ λV=>?_,rfl⟩
  obtain⟨gM,z, -⟩:=g4 V;rw[z];rfl
 ·rename_i s i v off len lc O;obtain⟨h1,h3,h2⟩:=h;rw[O]at J;have hu:∃e,P.underlying t=some (.slice e):=by
   unfold Hc at h1;split at h1
   ·rename_i e hu;exact⟨e,hu⟩
   ·cases h1
  obtain⟨e,hu⟩:=hu;obtain⟨base,cap,he,g1,g2,g3,g4⟩:=J.l8<|wQ hs h3;refine y8 (BE<|by rw[U];simp) ?_
  rw[T hu he];refine hk c (.bool base.isNone) _ H hs (Ext.refl c) (.bool _) ⟨h2 _ λV=>?_,rfl⟩
  cases hd:c.cO i with
  |true=>have:=(g3 hd).1;omega
  |false=>
   rw[((g4 hd).1.resolve_left iV)];rfl
 ·exact h.elim
def Dc:I->Bool
 |.bool b=>b
 |_=>false
def MB:I->Bool
 |.bool _=>true
 |_=>false
theorem Xw{x:I}(h:MB x=true):x=.bool (Dc x):=by
 cases x<;>first|rfl|cases h
def cm(v:I)(want:Bool):Bool:=
 match v with
 |.bool b=>bif want then b else !b
 |.opt g x=>g&&(bif want then Dc x else !Dc x)
 |_=>false
def iL(v:I):Prop:=
 match v with
 |.bool _=>True
 |.opt g x=>g=true->MB x=true
 |_=>False
def Pn:I->I
 |.opt _ v=>v
 |v=>v
def Lg(g:Bool):I->Prop
 |.opt LQ _=>g=true->LQ=true
 |_=>True
def aE7(all:List Oper)(j:Nat):Option Tmp:=(all[j]?).bind (·.dst)
def bS(α:a7):Option Tmp->I
 |some t=>look α t
 |none=>.top
def DX:I->Option (Bool×Bool)
 |.bool b=>some (true,b)
 |.opt g x=>some (g,Dc x)
 |_=>none
def G1:I->Prop
 |.bool _=>True
 |.opt g x=>g=true->MB x=true
 |_=>False
def kJ(g:Bool)(c a b:I):hW:=
 match DX c,DX a,DX b with
 |some (gc,sV),some (ZH,x),some (w8,y)=>⟨.bool<|bif sV then x else y,(g=true->gc=true)/\(g=true->sV=true->ZH=true)/\(g=true->sV=false->w8=true)/\G1 c/\G1 a/\G1 b⟩
 |_,_,_=>bad
theorem TI{x:I}{v:Value}{g b:Bool}(h:DX x=some (g,b))(ah:G1 x)(J:aI c x v)(U:g=true):v=.bool b:=by
 unfold DX at h;split at h
 ·simp at h;rw[h.2]at J;exact J.sT
 ·simp at h;cases J with
  |opt _ _ _ h1=>
   have h2:=h1<|h.1.trans U;rw[(Xw (ah<|h.1.trans U))]at h2;rw[<-h.2];exact h2.sT
 ·cases h
theorem Fp{x y z:Operand}{g:Bool}(U:o.op=.pick x y z)(O:g=true)(hs:(kJ g (ρ x) (ρ y) (ρ z)).s):
  pZ P o ρ H (λv H'=>v=(kJ g (ρ x) (ρ y) (ρ z)).v/\H'=H):=by
 refine jx (hd:=BE<|by rw[U];simp) λc a T hρ=>?_
 have J:=hρ x<|by rw[U];simp[Op.operands]
 have V:=hρ y<|by rw[U];simp[Op.operands]
 have Z:=hρ z<|by rw[U];simp[Op.operands]
 have I:∀sV,a.eval x=.bool sV->(execOp a.eval o).run P c.w=.ok (.value<|if sV then a.eval y else a.eval z) c.w:=by
  grind [execOp,asBool,Sem.run_bind,Sem.run_pure,Result.andThen_ok]
 unfold kJ at *;split at hs
 ·rename_i gc sV ZH aO w8 bo av al aY;refine⟨c,_,I sV<|TI av hs.2.2.2.1 J (hs.1 O),T,Ext.refl c,?_⟩;cases sV
  ·rw[aj kk,TI aY hs.2.2.2.2.2 Z<|hs.2.2.1 O rfl];exact .bool _
  ·rw[aA rfl,TI al hs.2.2.2.2.1 V<|hs.2.1 O rfl];exact .bool _
 ·exact hs.elim
def bQ:List Oper->Nat->Option Tmp
 |[],_=>none
 |o::_,0=>o.dst
 |_::os,n+1=>bQ os n
theorem aJ2(l:List Oper)(j:Nat):bQ l j=(l[j]?).bind (·.dst):=by
 induction l generalizing j with
 |nil=>rfl
 |cons o os J=>cases j with
  |zero=>rfl
  |succ n=>simpa[bQ]using J n
def lu(g:Bool)(α:a7):List Operand->Prop
 |[]=>True
 |x::xs=>Lg g (bm α x)/\lu g α xs
def dB(α:a7)(x:Operand):I:=Pn<|bm α x
def tk(P:Program)(g:Bool)(f:I)(xs:List I)(H:ab)(K:I->Prop):Prop:=
 ∃v,(g=true->kb P f xs H (λdM H'=>dM=v/\H'=H))/\K v
def qA(P:Program)(f:I)(xs:List I)(H:ab)(K:I->ab->Prop):Prop:=kb P f xs H K
def DY(P:Program)(g:Bool)(f:I)(xs:List I)(H:ab)(K:I->ab->Prop):Prop:=
 tk P g f xs H (λv=>K v H)\/(g=true/\qA P f xs H K)
def hR(P:Program)(all:List Oper):List Oper->a7->ab->(a7->ab->Prop)->Prop
 |[],α,H,k=>k α H
 |⟨dst,op,_,_,_,guard⟩::os,α,H,k=>
  match guard,op with
  |none,.pick x y z=>(kJ true (bm α x) (bm α y) (bm α z)).s/\hR P all os (cJ dst (kJ true (bm α x) (bm α y)<|bm α z).v α) H k
  |none,.call ⟨.value f,xs,_⟩=>qA P (bm α f) (xs.toList.map (bm α)) H λv H'=>hR P all os (cJ dst v α) H' k
  |none,.call ⟨.invoke r m,xs,_⟩=>qA P (sY P m (bm α r)) (xs.toList.map (bm α)) H λv H'=>hR P all os (cJ dst v α) H' k
  |none,.next it false=>Ls (bm α it) H λv H'=>hR P all os (cJ dst v α) H' k
  |none,.binOp op t x y t'=>bif nE op&&AZ y then Hd P t H (bm α x) (λv=>hR P all os (cJ dst v α) H k)
    else(cr P (.binOp op t x y t') (bm α) H).s/\hR P all os (cJ dst (cr P (.binOp op t x y t') (bm α) H).v α) (cr P (.binOp op t x y t') (bm α) H).H k
  |none,op=>(cr P op (bm α) H).s/\hR P all os (cJ dst (cr P op (bm α) H).v α) (cr P op (bm α) H).H k
  |some (j,want),.pick x y z=>
   iL (bS α<|bQ all j)/\((cm (bS α<|bQ all j) want)=true->(kJ (cm (bS α<|bQ all j) want) (bm α x) (bm α y) (bm α z)).s)/\
    hR P all os (cJ dst (.opt (cm (bS α<|bQ all j) want) (kJ (cm (bS α (bQ all j)) want) (bm α x) (bm α y)<|bm α z).v) α) H k
  |some (j,want),.call ⟨.value f,xs,_⟩=>
   iL (bS α<|bQ all j)/\lu (cm (bS α<|bQ all j) want) α (f::xs.toList)/\
    DY P (cm (bS α<|bQ all j) want) (dB α f) (xs.toList.map<|dB α) H (λv H=>hR P all os (cJ dst (.opt (cm (bS α<|bQ all j) want) v) α) H k)
  |some (j,want),.call ⟨.invoke r m,xs,_⟩=>
   iL (bS α<|bQ all j)/\lu (cm (bS α<|bQ all j) want) α (r::xs.toList)/\
    DY P (cm (bS α<|bQ all j) want) (sY P m<|dB α r) (xs.toList.map<|dB α) H (λv H=>hR P all os (cJ dst (.opt (cm (bS α<|bQ all j) want) v) α) H k)
  |some (j,want),op=>
   iL (bS α<|bQ all j)/\lu (cm (bS α<|bQ all j) want) α op.operands.toList/\((cm (bS α<|bQ all j) want)=true->(cr P op (dB α) H).s/\(cr P op (dB α) H).H=H)/\
    hR P all os (cJ dst (.opt (cm (bS α<|bQ all j) want) (cr P op (dB α) H).v) α) H k
def jf(P:Program)(all:List Oper)(H:ab):List Oper->a7->(a7->Prop)->Prop
 |[],α,k=>k α
 |⟨dst,op,_,_,_,guard⟩::os,α,k=>
  match guard,op with
  |none,.pick x y z=>(kJ true (bm α x) (bm α y) (bm α z)).s/\jf P all H os (cJ dst (kJ true (bm α x) (bm α y)<|bm α z).v α) k
  |none,.call ⟨.value f,xs,_⟩=>tk P true (bm α f) (xs.toList.map (bm α)) H λv=>jf P all H os (cJ dst v α) k
  |none,.call ⟨.invoke r m,xs,_⟩=>tk P true (sY P m (bm α r)) (xs.toList.map (bm α)) H λv=>jf P all H os (cJ dst v α) k
  |none,op=>(cr P op (bm α) H).s/\(cr P op (bm α) H).H=H/\jf P all H os (cJ dst (cr P op (bm α) H).v α) k
  |some (j,want),.pick x y z=>
   iL (bS α<|bQ all j)/\((cm (bS α<|bQ all j) want)=true->(kJ (cm (bS α<|bQ all j) want) (bm α x) (bm α y) (bm α z)).s)/\
    jf P all H os (cJ dst (.opt (cm (bS α<|bQ all j) want) (kJ (cm (bS α (bQ all j)) want) (bm α x) (bm α y)<|bm α z).v) α) k
  |some (j,want),.call ⟨.value f,xs,_⟩=>
   iL (bS α<|bQ all j)/\lu (cm (bS α<|bQ all j) want) α (f::xs.toList)/\
    tk P (cm (bS α<|bQ all j) want) (dB α f) (xs.toList.map<|dB α) H (λv=>jf P all H os (cJ dst (.opt (cm (bS α<|bQ all j) want) v) α) k)
  |some (j,want),.call ⟨.invoke r m,xs,_⟩=>
   iL (bS α<|bQ all j)/\lu (cm (bS α<|bQ all j) want) α (r::xs.toList)/\
    tk P (cm (bS α<|bQ all j) want) (sY P m<|dB α r) (xs.toList.map<|dB α) H (λv=>jf P all H os (cJ dst (.opt (cm (bS α<|bQ all j) want) v) α) k)
  |some (j,want),op=>
   iL (bS α<|bQ all j)/\lu (cm (bS α<|bQ all j) want) α op.operands.toList/\((cm (bS α<|bQ all j) want)=true->(cr P op (dB α) H).s/\(cr P op (dB α) H).H=H)/\
    jf P all H os (cJ dst (.opt (cm (bS α<|bQ all j) want) (cr P op (dB α) H).v) α) k
def dQ(P:Program)(N:Nat)(ops:Array Oper)(H:ab)(o:Oper)(α:a7)(R:I->ab->Prop):Prop:=
 ∀(r:Option Nat) (c:Ctx) (a:Act) (next:Act->World->Prop) (Q:Exit->Act->World->Prop),bp c H->a.tmps.size=N->(∀t∈o.looksAt ops,aI c (look α t)<|a.tmps.getD t undef)->
  (∀c' x v H',bp c' H'->Ext c c'->aI c' x v->R x H'->next (a.put o.dst v) c'.w)->
  if Region.wanted o (yielded ops a.tmps)then o.wpIn (wf r) 0 P a c.w next Q else next (a.put o.dst undef) c.w
theorem qa{x:Operand}(h:∀t,x=.tmp t->aI c (look α t) (a.tmps.getD t undef)):aI c (bm α x) (a.eval x):=by
 cases x with
 |tmp t=>exact h t rfl
 |const v=>exact PM c v
 |global g=>exact .top _
 |func f=>exact .func _ [] [] _ _ rfl rfl kk kk
theorem p5{t:Nat}(h:Operand.tmp t∈o.op.operands.toList):t∈o.looksAt ops:=by
 unfold Oper.looksAt;grind
theorem dQ.ot(U:o.guard=none)(h:pZ P o (bm α) H R):dQ P N ops H o α R:=by
 intro r c a next Q hs hsz hl hk
 rw[aA (by unfold Region.wanted;rw[U])]
 exact h r c a next Q hs (λx J=>qa λt ah=>hl t<|p5 kr) hk
theorem SL(T:o.guard=some (j,want))(hl:∀t∈o.looksAt ops,aI c (look α t)<|a.tmps.getD t undef)
  (J:iL (bS α<|bQ ops.toList j)):Region.wanted o (yielded ops a.tmps)=cm (bS α<|bQ ops.toList j) want:=by
 have af:bQ ops.toList j=(ops[j]?).bind (·.dst):=by rw[aJ2,x1]
 rw[af]at J ⊢;unfold Region.wanted;rw[T];simp only;unfold yielded;cases hd:(ops[j]?).bind (·.dst)with
 |none=>rw[hd]at J;exact J.elim
 |some t=>
  rw[hd]at J;simp only[bS]at J ⊢;have O:=hl t (by
   unfold Oper.looksAt;rw[T];simp only;rw[hd];simp)
  have key:∀b,a.tmps.getD t undef=.bool b->a.tmps[t]?=some (.bool b):=by
   intro b U;rw[JZ]at U;cases ah:a.tmps[t]? with
   |none=>rw[ah]at U;simp[undef]at U
   |some v=>rw[ah]at U;simpa using U
  generalize look α t=V at O J ⊢;unfold iL at J;split at J
  ·rename_i b;have h1:=key b O.sT;simp only[fZ,h1,cm];cases b<;>cases want<;>rfl
  ·rename_i g x;cases O with
   |opt _ _ _ h1 h2=>
    cases g with
    |true=>
     have h4:=h1 rfl;rw[Xw (J rfl)]at h4;simp only[fZ,(key (Dc x) h4.sT),cm];generalize Dc x=b;cases b<;>cases want<;>rfl
    |false=>
     have h3:=h2 rfl;rw[JZ]at h3;simp only[fZ,cm,Bool.false_and];cases ah:a.tmps[t]? with
     |none=>simp
     |some v=>
      rw[ah]at h3;subst h3;simp[undef]
  ·exact J.elim
theorem sU{g:Bool}{α:a7}:∀{xs:List Operand},lu g α xs->∀x∈xs,Lg g (bm α x)
 |[],_,_,J=>kr
 |y::ys,h,x,J=>by
  cases J with
  |head=>exact h.1
  |tail _ hm=>exact sU h.2 x hm
theorem tZ{g:Bool}{x:I}{v:Value}(h:aI c x v)(J:Lg g x)(U:g=true):aI c (Pn x) v:=by
 cases x with
 |opt O y=>
  cases h with
  |opt _ _ _ h1=>exact h1<|J U
 |_=>exact h
theorem dQ.wc{v:I}(O:o.guard=some (j,want))(T:iL (bS α<|bQ ops.toList j))
  (ρ) (hρ:∀(c) (a:Act),cm (bS α<|bQ ops.toList j) want=true->(∀t∈o.looksAt ops,aI c (look α t)<|a.tmps.getD t undef)->∀x∈o.op.operands.toList,aI c (ρ x)<|a.eval x)
  (h:cm (bS α<|bQ ops.toList j) want=true->pZ P o ρ H (λJ H'=>J=v/\H'=H)):dQ P N ops H o α (λJ H'=>J=.opt (cm (bS α<|bQ ops.toList j) want) v/\H'=H):=by
 intro r c a next Q hs hsz hl hk
 rw[SL O hl T];cases U:cm (bS α<|bQ ops.toList j) want with
 |true=>
  refine h U r c a next Q hs (hρ c a U hl) λc' x J H' h1 h2 h3 h4=>?_
  obtain⟨rfl,rfl⟩:=h4;exact hk c' _ J _ h1 h2 (.opt _ _ _ (λ_=>h3) λh=>kr) ⟨rfl,rfl⟩
 |false=>
  exact hk c _ undef H hs (Ext.refl c) (.opt _ _ _ (λh=>kr) λ_=>rfl) ⟨rfl,rfl⟩
theorem dQ.aBK(O:o.guard=some (j,want))(T:iL (bS α<|bQ ops.toList j))(U:cm (bS α<|bQ ops.toList j) want=true)
  (ρ) (hρ:∀(c) (a:Act),cm (bS α<|bQ ops.toList j) want=true->(∀t∈o.looksAt ops,aI c (look α t)<|a.tmps.getD t undef)->∀x∈o.op.operands.toList,aI c (ρ x)<|a.eval x)
  (h:pZ P o ρ H (λJ H'=>K (.opt true J) H')):dQ P N ops H o α K:=by
 intro r c a next Q hs hsz hl hk
 rw[SL O hl T,U];exact h r c a next Q hs (hρ c a U hl) λc' x J H' h1 h2 h3 h4=>hk c' _ J H' h1 h2 (.opt _ _ _ (λ_=>h3) λh=>kr) h4
theorem dQ.mono(h:dQ P N ops H o α R)(J:∀x H',R x H'->R' x H'):dQ P N ops H o α R':=
 λr c a next Q h1 h2 h3 hk=>h r c a next Q h1 h2 h3 λc' x v H' k1 k2 k3 k4=>hk c' x v H' k1 k2 k3<|J _ _ k4
theorem aE8{k:a7->ab->Prop}(h:hR P ops.toList (o::os) α H k):
  dQ P N ops H o α (λv H'=>hR P ops.toList os (cJ o.dst v α) H' k):=by
 obtain⟨dst,op,ty,pos,after,guard⟩:=o;unfold hR at h;split at h
 ·rename_i x y z;exact(dQ.ot rfl ((Fp rfl rfl h.1))).mono λv H' ⟨av,al⟩=>by subst av;subst al;exact h.2
 ·rename_i f xs ts;exact dQ.ot rfl<|yB rfl h
 ·rename_i f m xs ts;exact dQ.ot rfl<|Fo rfl h
 ·rename_i it;exact dQ.ot rfl<|aEC rfl h
 ·rename_i op t x y t';cases af:nE op&&AZ y with
  |true=>
   rw[af,tG]at h;exact(dQ.ot rfl (aFu rfl af h)).mono λv H' ⟨av,al⟩=>by subst al;exact av
  |false=>
   rw[af,sI]at h;exact(dQ.ot rfl (yw h.1)).mono λv H' ⟨av,al⟩=>by subst av;subst al;exact h.2
 ·rename_i T _ _;exact(dQ.ot rfl (yw h.1)).mono λv H' ⟨av,al⟩=>by subst av;subst al;exact h.2
 ·rename_i j want x y z;obtain⟨h1,h2,h3⟩:=h;exact(dQ.wc rfl h1 (bm α) (λc a _ hl x J=>qa λt ah=>hl t<|p5 (by subst ah;exact J))
   (λU=>Fp rfl U<|h2 U)).mono λv H' ⟨av,al⟩=>by subst av;subst al;exact h3
 ·rename_i j want f xs ts;obtain⟨h1,h2,⟨v,h3,h4⟩|⟨O,h⟩⟩:=h
  rotate_left
  ·refine dQ.aBK rfl h1 O (dB α) (λc a U hl x J=>tZ (qa λt ah=>hl t<|p5 (by subst ah;exact J)) (sU h2 x<|by simpa[Op.operands,Call.operands]using J) U) ?_
   rw[O]at h;exact yB rfl h
  refine(dQ.wc rfl h1 (dB α) (λc a U hl x J=>tZ (qa λt ah=>hl t<|p5 (by subst ah;exact J)) (sU h2 x<|by simpa[Op.operands,Call.operands]using J) U)
   (λU=>yB rfl<|h3 U)).mono λv H' ⟨av,al⟩=>by subst av;subst al;exact h4
 ·rename_i j want f m xs ts;obtain⟨h1,h2,⟨v,h3,h4⟩|⟨O,h⟩⟩:=h
  rotate_left
  ·refine dQ.aBK rfl h1 O (dB α) (λc a U hl x J=>tZ (qa λt ah=>hl t<|p5 (by subst ah;exact J)) (sU h2 x<|by simpa[Op.operands,Call.operands]using J) U) ?_
   rw[O]at h;exact Fo rfl h
  refine(dQ.wc rfl h1 (dB α) (λc a U hl x J=>tZ (qa λt ah=>hl t<|p5 (by subst ah;exact J)) (sU h2 x<|by simpa[Op.operands,Call.operands]using J) U)
   (λU=>Fo rfl<|h3 U)).mono λv H' ⟨av,al⟩=>by subst av;subst al;exact h4
 ·obtain⟨h1,h2,h3,h4⟩:=h;refine dQ.mono (dQ.wc (v:=(cr P op (dB α) H).v) rfl h1 (dB α) (λc a U hl x J=>tZ (qa λt ah=>hl t<|p5 (by subst ah;exact J)) (sU h2 x J) U)
   (λU=>(yw (h3 U).1).mono λv H' ⟨av,al⟩=>⟨av,al.trans (h3 U).2⟩)) λv H' ⟨av,al⟩=>by subst av;subst al;exact h4
theorem aEd{k:a7->Prop}(h:jf P ops.toList H (o::os) α k):
  ∃v,dQ P N ops H o α (λO H'=>O=v/\H'=H)/\jf P ops.toList H os (cJ o.dst v α) k:=by
 obtain⟨dst,op,ty,pos,after,guard⟩:=o;unfold jf at h;split at h
 ·rename_i x y z;exact⟨_,dQ.ot rfl<|Fp rfl rfl h.1,h.2⟩
 ·rename_i f xs ts;obtain⟨v,h1,h2⟩:=h;exact⟨v,dQ.ot rfl<|yB rfl (h1 rfl),h2⟩
 ·rename_i f m xs ts;obtain⟨v,h1,h2⟩:=h;exact⟨v,dQ.ot rfl<|Fo rfl (h1 rfl),h2⟩
 ·exact⟨_,(dQ.ot rfl (yw h.1)).mono λv H' ⟨av,al⟩=>⟨av,al.trans h.2.1⟩,h.2.2⟩
 ·obtain⟨h1,h2,h3⟩:=h;exact⟨_,dQ.wc rfl h1 (bm α) (λc a _ hl x J=>qa λt ah=>hl t<|p5 (by subst ah;exact J))
   (λU=>Fp rfl U<|h2 U),h3⟩
 ·obtain⟨h1,h2,v,h3,h4⟩:=h;exact⟨_,dQ.wc rfl h1 (dB α) (λc a U hl x J=>tZ (qa λt ah=>hl t<|p5 (by subst ah;exact J)) (sU h2 x<|by simpa[Op.operands,Call.operands]using J) U)
   (λU=>yB rfl<|h3 U),h4⟩
 ·obtain⟨h1,h2,v,h3,h4⟩:=h;exact⟨_,dQ.wc rfl h1 (dB α) (λc a U hl x J=>tZ (qa λt ah=>hl t<|p5 (by subst ah;exact J)) (sU h2 x<|by simpa[Op.operands,Call.operands]using J) U)
   (λU=>Fo rfl<|h3 U),h4⟩
 ·obtain⟨h1,h2,h3,h4⟩:=h;exact⟨_,dQ.wc rfl h1 (dB α) (λc a U hl x J=>tZ (qa λt ah=>hl t<|p5 (by subst ah;exact J)) (sU h2 x J) U)
   (λU=>(yw (h3 U).1).mono λv H' ⟨av,al⟩=>⟨av,al.trans (h3 U).2⟩),h4⟩
def za(N:Nat)(ops:Array Oper):Bool:=ops.toList.all λo=>LC N o.dst
abbrev wS(N:Nat)(c:Ctx)(Q:cX):Exit->Act->World->Prop:=λe gM w'=>∃c' cG H',c'.w=w'/\bp c' H'/\Ext c c'/\kD c' N cG gM/\Q e cG H'
theorem aCv{r:Option Nat}{N:Nat}{ops:Array Oper}{Q:cX}(hd:za N ops=true)(U:Ctx):∀(os:List Oper) (k:Nat) (α:a7) (H:ab) (c:Ctx) (a:Act),(∀i,os[i]?=ops[k+i]?)->bp c H->Ext U c->kD c N α a->
  hR P ops.toList os α H (λZ H'=>Q .normal Z H')->wpOpsIn (wf r) 0 P ops (wS N U Q) (List.range' k os.length) a c.w
 |[],k,α,H,c,a,_,hs,J,O,h=>⟨c,α,H,rfl,hs,J,O,h⟩
 |o::os,k,α,H,c,a,V,hs,J,O,h=>by
  have aw:=by simpa using(V 0).symm
  simp[List.range'_succ,wpOpsIn,aw];have T:=aE8 h r c a (wpOpsIn (wf r) 0 P ops (wS N U Q)<|List.range' (k+1) os.length) (wS N U Q) hs O.size (λt _=>O.rep t) λc' x v H' h1 h2 h3 h4=>
   aCv hd U os (k+1) _ H' c' _ (λi=>by have:=V<|i+1;grind) h1 (J.trans h2) ((O.mono h2).put (gm.1 hd o kr) h3) h4
  by_cases hw:Region.wanted o (yielded ops a.tmps)=true
  ·rw[aA hw]at T ⊢;exact T
  ·rw[aj hw]at T ⊢;exact⟨λ_ _=>trivial,T⟩
theorem ud(hd:za N ops=true)(h:hR P ops.toList ops.toList α H (λJ H'=>Q .normal J H')):cI P N (.region id ops false) Q α H:=by
 intro r c a _ hs U;refine wpIn_region ?_;have:=aCv (r:=r) hd c ops.toList 0 α H c a kk hs (Ext.refl c) U h
 rw[List.range_eq_range'];grind
section draw
variable {N:Nat} {ops:Array Oper} {H:ab}
def FM(P:Program)(N:Nat)(ops:Array Oper)(H:ab)(i:Nat)(K:a7->Prop)(α:a7):Prop:=
 match ops[i]? with
 |none=>K α
 |some o=>∃v,dQ P N ops H o α (λdM H'=>dM=v/\H'=H)/\K (cJ o.dst v α)
def BQ(P:Program)(N:Nat)(ops:Array Oper)(H:ab)(K:a7->Prop):Nat->Array Bool->a7->Prop
 |0,listed,α=>Region.ready .any ops listed=[]/\K α
 |fuel+1,listed,α=>(Region.ready .any ops listed=[]->K α)/\∀i∈Region.ready .any ops listed,FM P N ops H i (BQ P N ops H K fuel<|listed.setIfInBounds i true) α
def Alike(α β:a7):Prop:=∀t,look α t=look β t
theorem Alike.put(h:Alike α β)(d)(v):Alike (cJ d v α) (cJ d v β):=by
 cases d with
 |none=>exact h
 |some d=>intro t;simp[cJ,look];cases d==t<;>simp[h t]
theorem dQ.alike(J:Alike α β)(h:dQ P N ops H o α R):dQ P N ops H o β R:=
 λr c a next Q h1 h2 h3 hk=>h r c a next Q h1 h2 (λt ah=>by rw[J t];exact h3 t ah) hk
theorem Tg{K:a7->Prop}(bP:∀α β,Alike α β->K α->K β):∀(n:Nat) (listed:Array Bool) (α β:a7),Alike α β->BQ P N ops H K n listed α->BQ P N ops H K n listed β
 |0,_,_,_,J,h=>⟨h.1,bP _ _ J h.2⟩
 |n+1,listed,α,β,J,h=>by
  refine⟨λaw=>bP _ _ J<|h.1 aw,λi hi=>?_⟩
  have:=h.2 i hi;unfold FM at this ⊢;split
  ·rename_i U;simp[U]at this;exact Tg bP n _ _ _ J this
  ·rename_i o U;simp[U]at this;obtain⟨v,h1,h2⟩:=this;exact⟨v,h1.alike J,Tg bP n _ _ _ (J.put _ _) h2⟩
theorem Sm{r:Option Nat}{Q:Exit->Act->World->Prop}{K:a7->Prop}(hd:za N ops=true)(O:Ctx)(bP:∀α c a,K α->bp c H->Ext O c->kD c N α a->Q .normal a c.w):
  ∀(n:Nat) (listed:Array Bool) (α:a7) (c:Ctx) (a:Act),bp c H->Ext O c->kD c N α a->BQ P N ops H K n listed α->wpAnyIn (wf r) 0 P .any ops Q n listed a c.w
 |0,_,_,_,_,hs,J,U,h=>⟨h.1,bP _ _ _ h.2 hs J U⟩
 |n+1,listed,α,c,a,hs,J,U,h=>by
  refine⟨λaw=>bP _ _ _ (h.1 aw) hs J U,λi hi=>?_⟩
  have h1:=h.2 i hi;unfold FM at h1;unfold wpOpIn;split
  ·rename_i T;simp[T]at h1;exact Sm hd O bP n _ _ _ _ hs J U h1
  ·rename_i o T;simp[T]at h1;obtain⟨v,V,hk⟩:=h1;have:=V r c a (wpAnyIn (wf r) 0 P .any ops Q n<|listed.setIfInBounds i true) Q hs U.size (λt _=>U.rep t) λc' x Z H' g1 g2 g3 g4=>by
    obtain⟨av,al⟩:=g4;rw[al]at g1;rw[av]at g3;exact Sm hd O bP n _ _ _ _ g1 (J.trans g2) ((U.mono g2).put (gm.1 hd o kr) g3) hk
   by_cases hw:Region.wanted o (yielded ops a.tmps)=true
   ·rw[aA hw]at this ⊢;exact this
   ·rw[aj hw]at this ⊢;exact⟨λ_ _=>trivial,this⟩
theorem MM{d:Option Tmp}{v:I}{t:Nat}(h:∀x,d=some x->x≠t):look (cJ d v α) t=look α t:=by
 cases d with
 |none=>rfl
 |some d=>have J:(d==t)=false:=kr
          simp[cJ,look,J]
theorem dQ.aRc{v:I}(h:dQ P N ops H gS α (λU H'=>U=v/\H'=H))(O:∀d,j4.dst=some d->d∉gS.looksAt ops):dQ P N ops H gS (cJ j4.dst u α) (λU H'=>U=v/\H'=H):=
 λr c a next Q h1 h2 h3 hk=>h r c a next Q h1 h2 (λt ah=>by
  have:=h3 t ah;rwa[MM λx J e=>O x J<|e▸ah]at this) hk
theorem dQ.aRW{v:I}(h:dQ P N ops H gS (cJ j4.dst u α) (λU H'=>U=v/\H'=H))(O:∀d,j4.dst=some d->d∉gS.looksAt ops):dQ P N ops H gS α (λU H'=>U=v/\H'=H):=
 λr c a next Q h1 h2 h3 hk=>h r c a next Q h1 h2 (λt ah=>by
  rw[MM λx J e=>O x J<|e▸ah]
  exact h3 t ah) hk
theorem HE{x y:Option Tmp}{v:I}(h:∀d,x=some d->y≠some d):Alike (cJ y u<|cJ x v α) (cJ x v<|cJ y u α):=by
 intro t;cases x with
 |none=>rfl
 |some d=>cases y with
  |none=>rfl
  |some e=>
   simp[cJ,look];grind
theorem aEe{K:a7->Prop}(bP:∀α β,Alike α β->K α->K β){i:Nat}{v:I}(hi:ops[i]?=some gS):
  ∀(fuel:Nat) (listed:Array Bool) (α:a7),
   (∀j j4,ops[j]?=some j4->j≠i->listed.getD j true=false->(∀e∈j4.after,Region.binds .any e=true->e.on≠i)->gS.apart ops j4=true)->
   i∈Region.ready .any ops listed->dQ P N ops H gS α (λz H'=>z=v/\H'=H)->
   BQ P N ops H K fuel (listed.setIfInBounds i true) (cJ gS.dst v α)->BQ P N ops H K (fuel+1) listed α:=by
 have U:∀(K) (α),dQ P N ops H gS α (λz H'=>z=v/\H'=H)->K (cJ gS.dst v α)->FM P N ops H i K α:=by
  grind [FM]
 intro fuel;induction fuel with
 |zero=>
  intro listed α _ O V T;refine⟨λh=>(by rw[h]at O;cases O),λj Z=>?_⟩
  by_cases J:j=i
  ·subst J;exact U _ _ V T
  ·have:=ready_mono Z J;rw[T.1]at this;cases this
 |succ fuel aB=>
  intro listed α HZ O V T;refine⟨λh=>kr,λj Z=>?_⟩
  by_cases J:j=i
  ·subst J;exact U _ _ V T
  ·have h1:=T.2 j<|ready_mono Z J;obtain⟨H8,j4,Ij,fA⟩:=mem_ready.1 Z;have s8:∀e∈j4.after,Region.binds .any e=true->e.on≠i:=λe he aa heq=>by
    have h1:=fA e he aa;have aw:=(mem_ready.1 O).1;rw[heq]at h1;rcases Bk i listed.size with c7|c7
    ·simp[c7]at aw h1;rw[aw]at h1;cases h1
    ·simp[JW c7]at h1
   obtain⟨cq,cT,dP⟩:=Oper.apart_spec<|HZ j j4 Ij J H8 s8;unfold FM at h1 ⊢;simp only[Ij]at h1 ⊢;obtain⟨u,Fi,lJ⟩:=h1;refine⟨u,Fi.aRW cq,?_⟩;have H0:∀k ok,ops[k]?=some ok->k≠i->(listed.setIfInBounds j true).getD k true=false->
     (∀e∈ok.after,Region.binds .any e=true->e.on≠i)->gS.apart ops ok=true:=λk ok hk H9 Iw cH=>by
    refine HZ k ok hk H9 ?_ cH;by_cases Cp:j=k
    ·subst Cp;exact H8
    ·rw[getD_set_ne true Cp]at Iw;exact Iw
   refine aB (listed.setIfInBounds j true) _ H0 (ready_mono O<|ka J) (V.aRc dP) ?_;rw[J0 _ _ J];exact Tg bP _ _ _ _ (HE cT) lJ
theorem VP{K:a7->Prop}(bP:∀α β,Alike α β->K α->K β):∀(l:List Oper) (k:Nat) (listed:Array Bool) (α:a7),(∀j,l[j]?=ops[k+j]?)->
  Region.lexFrom .any ops l.length k listed=true->jf P ops.toList H l α K->BQ P N ops H K l.length listed α
 |[],_,_,_,_,J,h=>⟨by simpa[Region.lexFrom]using J,h⟩
 |o::l,k,listed,α,hl,J,h=>by
  have aw:=by simpa using(hl 0).symm
  simp[Region.lexFrom]at J;obtain⟨⟨V,U⟩,O⟩:=J;obtain⟨v,T,hk⟩:=aEd h;exact aEe bP aw l.length listed α (Region.free_spec aw U) kr T
   (VP bP l (k+1) _ _ (λj=>by have:=hl<|j+1;grind) O hk)
end draw
theorem yy{all:List Oper}{H:ab}{k k':a7->Prop}(hk:∀α,k α->k' α):∀(l:List Oper) (α:a7),jf P all H l α k->jf P all H l α k'
 |[],α,h=>hk α h
 |⟨dst,op,ty,pos,after,guard⟩::os,α,h=>by
  unfold jf at h ⊢;split at h
  ·exact⟨h.1,yy hk os _ h.2⟩
  ·obtain⟨v,h1,h2⟩:=h;exact⟨v,h1,yy hk os _ h2⟩
  ·obtain⟨v,h1,h2⟩:=h;exact⟨v,h1,yy hk os _ h2⟩
  ·exact⟨h.1,h.2.1,yy hk os _ h.2.2⟩
  ·exact⟨h.1,h.2.1,yy hk os _ h.2.2⟩
  ·obtain⟨h1,h2,v,h3,h4⟩:=h;exact⟨h1,h2,v,h3,yy hk os _ h4⟩
  ·obtain⟨h1,h2,v,h3,h4⟩:=h;exact⟨h1,h2,v,h3,yy hk os _ h4⟩
  ·exact⟨h.1,h.2.1,h.2.2.1,yy hk os _ h.2.2.2⟩
theorem Sj(hm:P.follows .mixedOrders=true)(hd:za N ops=true)(O:Region.lexB .any ops=true)
  (h:jf P ops.toList H ops.toList α (λJ=>Q .normal J H)):cI P N (.region id ops true) Q α H:=by
 intro r c a _ hs T;simp[Region.lexB]at O;refine wpIn_region_any hm ?_;have h1:jf P ops.toList H ops.toList α (λJ=>∃β,Alike J β/\Q .normal β H):=yy (λJ aJ=>⟨J,λ_=>rfl,aJ⟩) _ _ h
 have h2:=VP (N:=N) (λα β U ⟨V,Z,aJ⟩=>⟨V,λt=>(U t).symm.trans<|Z t,aJ⟩)
  ops.toList 0 (Array.replicate ops.size false) α kk kr h1
 have h3:=Sm (r:=r) (Q:=wS N c Q) hd c (λJ c' gM ⟨β,U,aJ⟩ I z s5=>⟨c',β,H,rfl,I,z,s5.weaken λt=>.inr (U t).symm,aJ⟩)
  ops.toList.length (Array.replicate ops.size false) α c.draw a hs.draw (Ext.draw c) (T.mono<|Ext.draw c) h2
 exact h3
def qb:Nat->List I->a7
 |_,[]=>[]
 |k,x::xs=>(k,x)::qb (k+1) xs
theorem aDk(xs:List I)(k t:Nat):look (qb k xs) t=if k<=t then xs.getD (t-k) .top else .top:=by
 induction xs generalizing k<;>grind [qb,look]
def pO(P:Program)(α:a7)(H:ab):ResultVar->hW
 |.tmp t=>⟨look α t,True⟩
 |.cell a t=>zX P t (look α a) H
def uu(P:Program)(α:a7)(H:ab):List ResultVar->Prop
 |[]=>True
 |r::rs=>(pO P α H r).s/\uu P α H rs
def tQ:List I->I
 |[v]=>v
 |vs=>.aQ vs
def qJ(P:Program)(rs:List ResultVar)(R:I->ab->Prop):cX
 |.normal,α,H=>uu P α H rs/\R (tQ<|rs.map λr=>(pO P α H r).v) H
 |.ret,α,H=>uu P α H rs/\R (tQ<|rs.map λr=>(pO P α H r).v) H
 |_,_,_=>False
theorem aE9{t:TypeId}{x:I}(U:bp c H)(J:aI c x b2)(hs:(zX P t x H).s):∃a,b2=.pointer (some a):=by
 unfold zX at hs;split at hs
 ·exact J.Zs
 ·split at hs
  ·rename_i a1 cs O;obtain⟨a,T, -⟩:=KN J (by rw[hs.1];exact U.qN O) 0
   exact⟨a,T⟩
  ·exact hs.elim
 ·exact hs.elim
def K1(a:Act):ResultVar->Sem Value
 |.tmp t=>pure<|a.tmps.getD t undef
 |.cell b t=>do loadVar t (<-asAddr (a.tmps.getD b undef))
theorem aFa(hs:bp c H)(J:∀t,aI c (look α t)<|a.tmps.getD t undef)(r:ResultVar)(h:(pO P α H r).s):∃v,(K1 a r).run P c.w=.ok v c.w/\aI c (pO P α H r).v v:=by
 cases r with
 |tmp t=>exact⟨_,rfl,J t⟩
 |cell b t=>
  obtain⟨U,hq⟩:=aE9 hs (J b) h;grind [VN,K1,asAddr,Sem.run_bind,Sem.run_pure,Result.andThen_ok,Instr.loadAt,Instr.sureAddr,Ctx,Act,look,undef,ResultVar,pO]
theorem Ux{c:Ctx}{H:ab}{α:a7}{a:Act}(hs:bp c H)(J:∀t,aI c (look α t)<|a.tmps.getD t undef):∀rs:List ResultVar,uu P α H rs->∃vs:List Value,(rs.mapM (K1 a)).run P c.w=.ok vs c.w/\vs.length=rs.length/\
   ∀(i:Nat) (x:I) (v:Value),(rs.map λr=>(pO P α H r).v)[i]?=some x->vs[i]?=some v->aI c x v
 |[],_=>⟨[],rfl,rfl,kk⟩
 |r::rs,h=>by
  obtain⟨vs,h1,h2,h3⟩:=Ux hs J rs h.2;obtain⟨v,g1,g2⟩:=aFa hs J r h.1;refine⟨v::vs,?_,kr,λi x u hi hu=>?_⟩
  ·simp_all
  grind
theorem aDw{fn:Func}(hs:bp c H)(O:∀t,aI c (look α t)<|a.tmps.getD t undef)(h:uu P α H fn.results.toList):
  ∃v,(results fn a.tmps).run P c.w=.ok v c.w/\aI c (tQ<|fn.results.toList.map λr=>(pO P α H r).v) v:=by
 obtain⟨vs,h1,h2,h3⟩:=Ux hs O fn.results.toList h;have J:(results fn a.tmps).run P c.w=.ok (if Z:vs.toArray.size=1 then vs.toArray[0]else .tuple vs.toArray) c.w:=by
  have e:results fn a.tmps=(do
    let vs<-fn.results.mapM (K1 a)
    pure (if h:vs.size=1 then vs[0]else .tuple vs)):=rfl
  rw[e];simp only[Sem.run_bind,Array.mapM_eq_mapM_toList,Sem.run_map,h1];rfl
 refine⟨_,J,?_⟩;by_cases hl:vs.length=1
 ·match vs,hl,h2,h3 with
  |[v],_,h2,h3=>
   have T:fn.results.toList.length=1:=iV
   match V:fn.results.toList,T with
   |[r],_=>
    rw[V]at h3;exact h3 0 _ _ rfl rfl
 ·rw[dif_neg (by simpa using hl)]
  have:tQ (fn.results.toList.map λr=>(pO P α H r).v)=.aQ (fn.results.toList.map λr=>(pO P α H r).v):=by
   unfold tQ;split
   ·rename_i v U;have:=bU List.length U;simp at this;simp at h2;omega
   ·rfl
  rw[this];exact .aQ _ _ (by simpa using h2) λi x v hi U=>h3 i x v hi (by simpa using U)
def Ctx.shut(c:Ctx)(D:Nat):Ctx:={c with w:=c.w.putObj D (.deferred none)}
theorem Na{D:Nat}(J:c.w.heap[D]?=some (.deferred<|some [])):Bo c (c.shut D) where
 n:=bd _
 st:=λ_ h=>h
 cell:=λa _=>by
  by_cases h:a.block=D
  ·simp[World.cell?,Ctx.shut,h,J,World.putObj_heap_same<|(sF.1 J).1]
  ·exact aCu<|World.putObj_heap_other h
 a1:=λ_ _=>bd _
 bl:=λi _ _=>⟨rfl,rfl,λ_=>by
  by_cases h:c.bl i=D
  ·simp[bsize,Ctx.shut,h,J,World.putObj_heap_same<|(sF.1 J).1]
  ·grind [bsize,Ctx.shut,World.putObj_heap_other]⟩
theorem bp.shut{c:Ctx}{H:ab}{D:Nat}(J:bp c H)(hs:c.hh D)(U:c.w.heap[D]?=some (.deferred<|some [])):bp (c.shut D) H where
 jX:=J.jX.rn<|Na U
 n:=J.n
 lt:=λi hi hd=>by have:=J.lt i hi hd;simpa[Ctx.shut]using this
 inj:=J.inj
 st:=λk hk=>by obtain⟨h1,h2⟩:=J.st k hk;exact⟨by simpa[Ctx.shut]using h1,h2⟩
 rep:=λi b hi=>by
  have O:=J.rep i b hi;refine O.rn (Na U) (by rw[J.n];grind) (λ_ _ h=>h) rfl λhd=>World.putObj_heap_other ?_
  have hl:b.live:=by
   cases O with
   |gone T=>rw[hd]at T;cases T
   |_=>trivial
  exact(J.st D hs).2 i b hi hl hd
theorem Ext.shut{U c:Ctx}{V:ab}{D:Nat}(aw:bp U V)(J:Ext U c)(z:U.w.heap.size<=D)(Z:c.w.heap[D]?=some (.deferred<|some [])):Ext U (c.shut D) where
 n:=J.n
 size:=by have:=J.size;simpa[Ctx.shut]using this
 st:=λb O=>⟨(J.st b O).1,(World.putObj_heap_other (λe=>by have:=(aw.st b O).1;omega)).trans (J.st b O).2⟩
 a1:=J.a1
 bl:=λi hi he=>by
  obtain⟨I,T,dP⟩:=J.bl i hi he;refine⟨I,T,λhd=>?_⟩
  have:=((Na Z).bl i (tB hi J.n) rfl).2.2<|T.trans hd;grind
 os:=J.os
 tape:=J.tape
 output:=J.output
 base:=J.base
theorem aCB{F:Fence}{n:Nat}{fn:Func}{tmps:Array Value}{R:Ending->World->Prop}{O:Ctx}{eL H:ab}{u:FrameMode}(hu:u≠.run)(bk:List Deferred)(aw:bp O eL):∀(U:List Nat) (c:Ctx),bp c H->Ext O c->U.Nodup->
  (∀D∈U,O.w.heap.size<=D/\c.hh D/\c.w.heap[D]?=some (.deferred<|some []))->(∀c',bp c' H->Ext O c'->Bo c c'->(∀E,E∉U->c'.w.heap[E]?=c.w.heap[E]?)->LeavesInM F n P fn tmps R bk u c'.w)->
  LeavesInM F n P fn tmps R ((U.map λD=>{target:=.collected D,args:= #[]})++bk) u c.w
 |[],c,V,J,_,_,h=>h c V J ⟨bd _,λ_ h=>h,λ_ _=>rfl,λ_ _=>bd _,λ_ _ _=>⟨rfl,rfl,λ_=>rfl⟩⟩ λ_ _=>rfl
 |D::U,c,V,J,af,I,h=>by
  obtain⟨Cc,rY,T⟩:=I D kk
  refine⟨hu,.inl ⟨D,_,rfl,run_takeDeferred T,?_⟩⟩;have z:=u1.1 af;refine aCB hu bk aw U (c.shut D) (V.shut rY T) (Ext.shut aw J Cc T) z.2 (λE Z=>?_) λc' g1 g2 g3 g4=>h c' g1 g2 ?_ λE Z=>?_
  ·obtain⟨aP,aR,bH⟩:=I E kr
   exact⟨aP,aR,(World.putObj_heap_other (λe=>z.1 kr)).trans bH⟩
  ·have k:=Na T;exact⟨g3.n,g3.st,λa aF=>(g3.cell a aF).trans<|k.cell a aF,g3.a1,λi hi he=>by
    obtain⟨cq,cT,dP⟩:=g3.bl i hi he;exact⟨cq,cT,λhd=>(dP hd).trans<|(k.bl i hi rfl).2.2 hd⟩⟩
  ·exact(g4 E λq=>Z kr).trans<|World.putObj_heap_other λe=>Z (by simp[e])
def Ctx.nM(c:Ctx)(b:Nat×List Deferred):Ctx:={c with base:=b}
theorem Uj(c)(b):Bo c (c.nM b):=⟨bd _,λ_ h=>h,λ_ _=>rfl,λ_ _=>bd _,λ_ _ _=>⟨rfl,rfl,λ_=>rfl⟩⟩
theorem bp.nM(h:bp c H)(b):bp (c.nM b) H:=
 ⟨h.jX,h.n,h.lt,h.inj,h.st,λi _ hi=>(h.rep i _ hi).rn (Uj c b) (by rw[h.n];grind) (λ_ _ h=>h) rfl λ_=>rfl⟩
theorem aI.nM{x:I}{v:Value}(h:aI c x v)(b):aI (c.nM b) x v:=h.rn<|Uj c b
theorem ID{fn:Func}(ax:P.funcs[f]?=some fn)(aa:fn.body=some code)(af:args.length<=fn.ntmps)
  (h:cI P fn.ntmps code (qJ P fn.results.toList R) (qb 0 args) H):dp P f args H R:=by
 intro c vs hs ⟨hl,az⟩;refine callsIn_wide.1<|callsIn_of_wp_marks (n:=0) ax aa trivial ?_;have aF:kD (c.nM (c.w.heap.size,[])) fn.ntmps (qb 0 args) {tmps:=vs++Array.replicate (fn.ntmps-vs.size) undef,defers:=[]}:=by
  refine⟨nX,⟨bd _,[],rfl,kk,kk⟩,λt=>?_⟩
  rw[aDk,aA<|bW _,Nat.sub_zero];by_cases ah:t<args.length
  ·have J:=da ah;have T:vs[t]?=some (vs[t]'(by omega)):=mc iV
   rw[Lh _ _ _ _ J];have:(vs++Array.replicate (fn.ntmps-vs.size) undef).getD t undef=vs[t]'(by omega):=by
    rw[JZ,Bi iV,T];rfl
   rw[this];exact(az t _ _ J T).nM _
  ·have:args.getD t .top=.top:=by rw[et,tA iV];rfl
   rw[this];exact .top _
 refine wpIn_mono (h none (c.nM (c.w.heap.size,[])) _ (.inl rfl) (hs.nM (c.w.heap.size,[])) aF) λe V w' ⟨c',Z,H',av,al,I,z,U⟩=>?_
 subst av;have key:∀{R':Prop},(uu P Z H' fn.results.toList/\R (tQ<|fn.results.toList.map λr=>(pO P Z H' r).v) H')->
   LeavesInM Fence.wide 0 P fn V.tmps (λe w'=>∃c' x v H',e=.returned v/\c'.w=w'/\bp c' H'/\Ext c c'/\aI c' x v/\R x H') V.defers .returning c'.w:=by
  intro _ ⟨aP,aR⟩;obtain⟨l2,nS,HW,jn,cc⟩:=z.defers;have n7:=I.base;rw[HW,n7];refine aCB kk [] (hs.nM (c.w.heap.size,[])) nS c' al I jn (λD h=>?_) λw4 g1 g2 g3 _=>?_
  ·obtain⟨cq,cT,dP⟩:=cc D h;exact⟨by rw[n7]at cq;exact cq,cT,dP⟩
  ·have O:=λt=>(z.rep t).rn g3
   obtain⟨v,a6,a8⟩:=aDw g1 O aP;refine⟨v,a6,w4.nM c.base,_,v,H',rfl,rfl,g1.nM _,?_,a8.nM _,aR⟩;exact⟨g2.n,g2.size,g2.st,g2.a1,g2.bl,g2.os,g2.tape,g2.output,rfl⟩
 cases e<;>simp only[qJ]at U;case normal=>exact key (R':=True) U
 case ret=>exact key (R':=True) U
inductive cM (n:Nat):I->Prop
 |int (k m):cM n (.int k m)
 |bool (b):cM n (.bool b)
 |str (s):cM n (.str s)
 |agg (cs:List I) (h:∀(i:Nat) (x:I),cs[i]?=some x->cM n x):cM n (.agg cs)
 |aQ (cs:List I) (h:∀(i:Nat) (x:I),cs[i]?=some x->cM n x):cM n (.aQ cs)
 |sl (full) (es:List I) (h:∀(k:Nat) (e:I) (j:Nat) (x:I),es[k]?=some e->e.cells[j]?=some x->cM n x):cM n (.sl full es)
 |cptr (cs:List I) (h:∀(i:Nat) (x:I),cs[i]?=some x->cM n x):cM n (.cptr cs)
 |ref (i v off) (h:i<n):cM n (.ref i v off)
 |osl (s i v off len lc) (h:i<n):cM n (.osl s i v off len lc)
 |dO:cM n .dO
 |map (i) (h:i<n):cM n (.map i)
 |iu:cM n .iu
 |iter (i) (h:i<n):cM n (.iter i)
 |func (fn) (fs cs:List I) (h1:∀(i:Nat) (x:I),fs[i]?=some x->cM n x) (h2:∀(i:Nat) (x:I),cs[i]?=some x->cM n x):cM n (.func fn fs cs)
 |ea:cM n .ea
 |iface (t x) (h:cM n x):cM n (.iface t x)
 |nilIface:cM n .nilIface
 |opt (g x) (h:g=true->cM n x):cM n (.opt g x)
 |top:cM n .top
theorem CJ{α β:Type}{l:List α}{a:Array β}(h:a.size=l.length){i:Nat}{x:α}(J:l[i]?=some x):∃v,a[i]?=some v:=by
 have:=(cj.1 J).1;simp_all
theorem aI.cl{x:I}{v:Value}(h:aI c x v):cM c.n x:=by
 induction h with
 |int k n _=>exact .int k n
 |bool b=>exact .bool b
 |str s _=>exact .str s
 |agg cs vs hl _ U=>exact .agg cs λi x J=>let⟨v,O⟩:=CJ hl J;U i x v J O
 |aQ cs vs hl _ U=>exact .aQ cs λi x J=>let⟨v,O⟩:=CJ hl J;U i x v J O
 |sl full es base len cap s vs _ _ _ _ _ _ _ U=>exact .sl full es U
 |cptr cs a vs _ _ _ _ U=>exact .cptr cs U
 |ref i v off val hi=>exact .ref i v off hi
 |osl s i v off len lc val hi=>exact .osl s i v off len lc hi
 |dO=>exact .dO
 |map i val hi=>exact .map i hi
 |iu=>exact .iu
 |iter i val hi=>exact .iter i hi
 |func fn fs cs so wq T V _ _ Z z=>exact .func fn fs cs (λi x J=>let⟨v,O⟩:=CJ T J;Z i x v J O) (λi x J=>let⟨v,O⟩:=CJ V J;z i x v J O)
 |ea=>exact .ea
 |iface t x v _ U=>exact .iface t x U
 |nilIface=>exact .nilIface
 |opt g x v _ _ U=>exact .opt g x U
 |top v=>exact .top
def Ctx.drop(c:Ctx)(n:Nat):Ctx:=
 {w:=c.w,n:=n,bl:=c.bl,a1:=c.a1,cO:=c.cO,hh:=λb=>c.hh b\/∃i,n<=i/\i<c.n/\c.cO i=false/\c.bl i=b,base:=c.base}
theorem Laid.drop(h:Laid c)(n):Laid (c.drop n):=h.go (λ_ J=>.inl J) λ_ _=>rfl
theorem aI.drop{x:I}{v:Value}(h:aI c x v)(U:cM n x):aI (c.drop n) x v:=by
 induction h with
 |int k n V=>exact .int k n V
 |bool b=>exact .bool b
 |str s V=>exact .str s V
 |agg cs vs hl _ O=>cases U with|agg _ J=>exact .agg cs vs hl λi x v h1 h2=>O i x v h1 h2<|J i x h1
 |aQ cs vs hl _ O=>cases U with|aQ _ J=>exact .aQ cs vs hl λi x v h1 h2=>O i x v h1 h2<|J i x h1
 |sl full es base len cap s vs h1 h2 h3 h4 b4 _ Z O=>
  cases U with
  |sl _ _ J=>exact .sl full es base len cap s vs h1 h2 h3 (λaN=>let⟨a,av,al,aY,bu⟩:=h4 aN;⟨a,av,al,.inl aY,bu⟩) b4 (λk e j x g1 g2=>O k e j x g1 g2<|J k e j x g1 g2) Z
 |cptr cs a vs h1 h2 h3 _ O=>cases U with|cptr _ J=>exact .cptr cs a vs h1 (.inl h2) h3 λj x g=>O j x g<|J j x g
 |ref i v off val hi z T h=>cases U with|ref _ _ _ J=>exact .ref i v off val J z T h
 |osl s i v off len lc val hi z T Z h1 h2=>cases U with|osl _ _ _ _ _ _ J=>exact .osl s i v off len lc val J z T Z h1 h2
 |dO=>exact .dO
 |map i val hi T h=>cases U with|map _ J=>exact .map i val J T h
 |iu=>exact .iu
 |iter i val hi T h=>cases U with|iter _ J=>exact .iter i val J T h
 |func fn fs cs so wq ax kl _ _ vW uy=>cases U with|func _ _ _ g1 g2=>exact .func fn fs cs so wq ax kl (λi x v h1 h2=>vW i x v h1 h2 (g1 i x h1)) λi x v h1 h2=>uy i x v h1 h2 (g2 i x h1)
 |ea=>exact .ea
 |iface t x v _ O=>cases U with|iface _ _ J=>exact .iface t x v<|O J
 |nilIface=>exact .nilIface
 |opt g x v _ h2 O=>cases U with|opt _ _ J=>exact .opt g x v (λaL=>O aL<|J aL) h2
 |top v=>exact .top v
theorem Ext.drop{c':Ctx}(h:Ext c c'):Ext c (c'.drop c.n):=
 ⟨bd _,h.size,λb J=>⟨.inl (h.st b J).1,(h.st b J).2⟩,h.a1,h.bl,h.os,h.tape,h.output,h.base⟩
inductive cL (n:Nat) (H:ab):I->I->Prop
 |cl (x:I) (h:cM n x):cL n H x x
 |agg (cs bk:List I) (hl:cs.length=bk.length) (h:∀(i:Nat) (x y:I),cs[i]?=some x->bk[i]?=some y->cL n H x y):cL n H (.agg cs) (.agg bk)
 |aQ (cs bk:List I) (hl:cs.length=bk.length) (h:∀(i:Nat) (x y:I),cs[i]?=some x->bk[i]?=some y->cL n H x y):cL n H (.aQ cs) (.aQ bk)
 |osl (s i v off len lc:Nat) (cs es:List I) (af:n<=i) (an:ay H i=.cells v cs) (hl:es.length=len) (hle:off+len * s<=cs.length) (hs:∀e∈es,e.cells.length=s)
   (h:∀(k j:Nat) (e x y:I),es[k]?=some e->e.cells[j]?=some y->cs[off+(k * s+j)]?=some x->cL n H x y):cL n H (.osl s i v off len lc) (.sl false es)
 |iface (t x y) (h:cL n H x y):cL n H (.iface t x) (.iface t y)
 |Jn (full:Bool) (es:List I) (h:cM n (.sl full es)):cL n H (.sl full es) (.sl false es)
 |ref (i v off:Nat) (cs bk:List I) (af:n<=i) (an:ay H i=.cells v cs) (hle:off+bk.length<=cs.length) (h:∀(j:Nat) (x y:I),cs[off+j]?=some x->bk[j]?=some y->cL n H x y):cL n H (.ref i v off) (.cptr bk)
 |func (fn:Fn) (fs cs HC Hv:List I) (ax:fs.length=HC.length) (au:cs.length=Hv.length) (h1:∀(i:Nat) (x y:I),fs[i]?=some x->HC[i]?=some y->cL n H x y) (h2:∀(i:Nat) (x y:I),cs[i]?=some x->Hv[i]?=some y->cL n H x y):cL n H (.func fn fs cs) (.func fn HC Hv)
 |any (x:I):cL n H x .top
theorem cL.sound(z:bp c H){x y:I}(h:cL n H x y):∀{v:Value},aI c x v->aI (c.drop n) y v:=by
 induction h with
 |cl x h=>exact λU=>U.drop h
 |agg cs bk hl _ O=>
  intro v U;obtain⟨vs,rfl,h1,h2⟩:=U.tW;refine .agg bk vs iV λi y v T aG=>?_
  grind
 |aQ cs bk hl _ O=>
  intro v U;obtain⟨vs,rfl,h1,h2⟩:=U.aCq;refine .aQ bk vs iV λi y v T aG=>?_
  grind
 |osl s i v off len lc cs es af V hl hle hs _ O=>
  intro val U;have eR:=z.qN V;obtain⟨base,cap,rfl,g1,w7,g2,g3⟩:=U.l8 eR;have bL:i<c.n:=by rw[z.n];exact dk V trivial
  cases hd:c.cO i with
  |true=>
   obtain⟨rfl,rfl⟩:=g2 hd;have:=iO hl;subst this;exact .sl _ _ _ _ _ s (λ_ _=>undef) rfl (bd _) (λh=>by cases h) (λh=>absurd rfl h) kk kk iV
  |false=>
   obtain⟨cq,m,cT,dP⟩:=g3 hd;obtain⟨_,_,vs,e,bT,aa,pB,ax,Cv⟩:=z.cells V hd;refine .sl _ _ _ _ _ s (λk j=>vs.getD (off+(k * s+j)) undef) hl.symm iV (λh=>by cases h) (λaN=>?_) hs (λk x j y hk Z=>?_) (by have:=U.FB;omega)
   ·have hlen:0<len:=by rw[<-hl];exact pe.2 aN
    have n7:=cq.resolve_left iV
    refine⟨_,n7,rfl,.inr ⟨i,af,bL,hd,rfl⟩,λk j hk Z=>?_⟩
    have b4:=by
     have:(k+1) * s<=len * s:=wA s iV
     rw[pg]at this;omega
    have ak:off+(k * s+j)<vs.size:=iV
    rw[p0];show(c.w.cell? _)=_;rw[AY aa];simp[ak]
   ·have ff:=(cj.1 hk).1;have nz:=(cj.1 Z).1;have hsz:=hs x<|ds hk;have b4:=by
     have:(k+1) * s<=len * s:=wA s iV
     rw[pg]at this;omega
    have au:cs[off+(k * s+j)]?=some (cs[off+(k * s+j)]'(by omega)):=da iV
    refine O k j x _ y hk Z au<|Cv _ _ _ au ?_;simp[show off+(k * s+j)<vs.size by omega]
 |iface t x y _ O=>
  intro v U;cases U with
  |iface _ _ dM aG=>exact .iface t y dM<|O aG
 |Jn full es h=>
  intro v U;have hd:=U.drop h;cases hd with
  |sl _ _ base len cap s vs h1 h2 h3 h4 b4 db nv=>exact .sl false es base len cap s vs h1 h2 (λh=>by cases h) h4 b4 db nv
 |ref i v off cs bk af V hle _ O=>
  intro val U;have eR:=z.qN V;have bL:i<c.n:=by rw[z.n];exact dk V trivial
  cases U with
  |ref _ _ _ _ _ _ _ gk=>
   obtain⟨hd,rfl⟩:=gk eR;obtain⟨_,_,vs,e,bT,aa,pB,ax,Cv⟩:=z.cells V hd;refine .cptr bk _ (λj=>vs.getD (off+j) undef) rfl (.inr ⟨i,af,bL,hd,rfl⟩) (λj Z=>?_) (λj y Z=>?_)
   ·have ak:off+j<vs.size:=iV
    rw[p0];show(c.w.cell? _)=_;rw[AY aa];simp[ak]
   ·have nz:=(cj.1 Z).1;have J:cs[off+j]?=some (cs[off+j]'(by omega)):=da iV
    refine O j _ y J Z<|Cv _ _ _ J ?_;simp[show off+j<vs.size by omega]
 |func fn fs cs HC Hv ax au _ _ vW uy=>
  intro v U;cases U with
  |func _ _ _ so wq g1 g2 a6 a8=>
   refine .func fn HC Hv so wq iV iV (λi y u T hu=>?_) (λi y u T hu=>?_)
   ·have ak:=(cj.1 T).1;have J:fs[i]?=some (fs[i]'(by omega)):=da iV
    exact vW i _ y J T<|a6 i _ u J hu
   ·have ak:=(cj.1 T).1;have J:cs[i]?=some (cs[i]'(by omega)):=da iV
    exact uy i _ y J T<|a8 i _ u J hu
 |any x=>exact λ_=>.top _
theorem bp.drop{c nt:Ctx}{H L:ab}(aw:bp nt H)(_:Ext nt c)(T:bp c (H++L)):bp (c.drop nt.n) H where
 jX:=T.jX.drop _
 n:=aw.n
 lt:=λi hi hd=>by
  have cF:i<nt.n:=hi;have:=aw.n;exact T.lt i (by rw[T.n];simp;omega) hd
 inj:=λi j b cB hi V z ew fF eH he=>by
  have h2:=(cj.1 V).1;exact T.inj i j b cB kr kr z ew fF eH he
 st:=λk hk=>by
  have oX:=aw.n;have af:=T.n;rcases hk with hk|⟨i,h1,h2,h3,rfl⟩
  ·obtain⟨g1,g2⟩:=T.st k hk;refine⟨g1,λi b hi z hd=>?_⟩
   have h1:=(cj.1 hi).1;exact g2 i b (by rw[iP h1];exact hi) z hd
  ·refine⟨T.lt i h2 h3,λj b V z hd e=>?_⟩
   have nz:=(cj.1 V).1;have hi:(H++L)[i]?=some ((H++L)[i]'(by rw[<-af];exact h2)):=da _
   have aAi:=T.rep i _ hi;have yM:((H++L)[i]'(by rw[<-af];exact h2)).live:=by
    generalize(H++L)[i]'(by rw[<-af];exact h2)=B at aAi
    cases aAi with
    |gone gJ=>rw[h3]at gJ;cases gJ
    |_=>trivial
   have:=T.inj j i b _ (by rw[iP nz];exact V) hi z yM hd h3 e
   omega
 rep:=λi b hi=>by
  have cF:=(cj.1 hi).1;have oX:=aw.n;have h1:=T.rep i b<|by rw[iP cF];exact hi
  have h2:=aw.rep i b hi;cases h1 with
  |cells a1 cs vs e bT U hd O hl ax Z=>
   refine .cells a1 cs vs e bT U hd O hl ax λj x v J kO=>(Z j x v J kO).drop ?_
   cases h2 with
   |cells _ _ mD jz aXk _ _ _ pB _ I=>
    have V:=(cj.1 J).1;exact(I j x _ J (mc iV)).cl
   |void=>simp at J
  |void a1 U hd=>exact .void a1 U hd
  |pQ t a1 U hd=>exact .pQ t a1 U hd
  |c5 t a1 cs vs U hd O hl aT Z=>
   refine .c5 t a1 cs vs U hd O hl aT λj x v J kO=>(Z j x v J kO).drop ?_
   cases h2 with
   |c5 _ _ _ mD _ _ _ pB _ I=>
    have V:=(cj.1 J).1;exact(I j x _ J (mc iV)).cl
   |pQ=>simp at J
  |map es clock cZ U hd O hl Z=>
   refine .map es clock cZ U hd O hl λj p e ad he=>?_
   obtain⟨g1,g2,g3⟩:=Z j p e ad he;cases h2 with
   |map _ _ Ab _ _ _ pB I=>
    have V:=(cj.1 ad).1;obtain⟨aP,aR, -⟩:=I j p _ ad<|mc iV
    exact⟨g1.drop aP.cl,g2.drop aR.cl,g3⟩
  |iI m since seen kU U hd hm yR E0 O=>
   cases h2 with
   |iI _ _ _ _ _ _ AB=>exact .iI m since seen kU U hd AB yR E0 O
  |mB s pos U hd O h7=>exact .mB s pos U hd O h7
  |loop l α N st ic ps ns dS fn D ts U hd hl O eU Z=>
   cases h2 with
   |loop _ _ _ _ _ _ _ _ _ _ _ _ _ _ _ _ I=>exact .loop l α N st ic ps ns dS fn D ts U hd hl O eU λt=>(Z t).drop (I t).cl
  |gone hd=>exact .gone hd
theorem aFv{fn:Func}{R:I->Prop}(O:P.funcs[f]?=some fn)(T:fn.body=some code)(af:args.length<=fn.ntmps)
  (h:cI P fn.ntmps code (qJ P fn.results.toList λv H'=>∃L y,H'=H++L/\cL H.length H' v y/\R y) (qb 0 args) H):dp P f args H (λy H'=>R y/\H'=H):=by
 intro c vs hs V;refine(ID O T af h c vs hs V).mono λe w' ⟨c',x,v,H',av,al,J,U,Z,L,y,z,mN,p9⟩=>?_
 subst z;refine⟨c'.drop c.n,y,v,H,av,al,hs.drop U J,U.drop,?_,p9,rfl⟩;have:=mN.sound J Z;rwa[<-hs.n]at this
end Go.Proofs.YtnmamncmpklliaaGreatDoor
