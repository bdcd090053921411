/- What functions answer. No condition. -/
import Derived.Test.YtnmamncmpklliaaGreatDoorWorkA
import Derived.Still
import Derived.Laws.BytesArg
import Derived.Lib.ConvBytes
set_option linter.unusedSimpArgs false
set_option linter.unusedVariables false
set_option linter.unusedSectionVars false
set_option maxRecDepth 100000
set_option maxHeartbeats 16000000
namespace Go.Proofs.YtnmamncmpklliaaGreatDoor
variable{c:Ctx}{op:BinOp}{b4 jl:Value}{ms:Array (String×TypeId)}{e:Operand->Value}{src dst ty:TypeId}{H H':ab}{n N j id:Nat}{vs:Array Value}{ts:Array TypeId}{xs:Array Operand}{o gZ j5:Oper}{ρ:Operand->I}{a:Act}{f:FuncId}{args:List I}{R R' K:I->ab->Prop}{α β:a8}{ops:Array Oper}{want:Bool}{os:List Oper}{Q:c3}{u:I}{code:Code}{P:Program}
def Ix(op:UnOp)(x:I):h7:=
 match op,x with
 |.not,.bool b=>⟨.bool<|!b,True⟩
 |.neg,.int k n=>⟨.int k<|k.wrap (0-n),True⟩
 |_,_=>bad
theorem aFw{op:UnOp}{x:I}(J:aK c x b4)(hs:(Ix op x).s)(w:World):∃v,(Op.unary op b4).run P w=.ok v w/\aK c (Ix op x).v v:=by
 unfold Ix at *;split at hs
 ·rw[J.sT];exact⟨_,by simp[Op.unary],.bool _⟩
 ·rw[J.iD];exact⟨_,rfl,.int _ _<|vx _ _⟩
 ·exact hs.elim
def tm:Operand->Bool
 |.const _=>true
 |_=>false
def x1:I->Bool
 |.nilIface=>true
 |_=>false
def tX(P:Program)(t:TypeId):Bool:=
 match P.underlying t with
 |some (.interface _)=>true
 |_=>false
def PH(P:Program)(k:Bool)(op:BinOp)(t:TypeId)(x y:I):h7:=
 match op,x,y with
 |.eql,.nilIface,.nilIface=>⟨.bool true,k=true/\tX P t=true⟩
 |.neq,.nilIface,.nilIface=>⟨.bool false,k=true/\tX P t=true⟩
 |.eql,.iface _ _,.nilIface=>⟨.bool false,tX P t=true⟩
 |.neq,.iface _ _,.nilIface=>⟨.bool true,tX P t=true⟩
 |.eql,.nilIface,.iface _ _=>⟨.bool false,tX P t=true⟩
 |.neq,.nilIface,.iface _ _=>⟨.bool true,tX P t=true⟩
 |_,_,_=>bad
def B2(P:Program)(k:Bool)(op:BinOp)(t:TypeId)(x y:I):h7:=
 bif x1 x||x1 y then PH P k op t x y else fm P op t x y
theorem G6{t:TypeId}(h:tX P t=true):∃ms,P.underlying t=some (.interface ms):=by
 unfold tX at h;split at h
 ·rename_i ms hu;exact⟨ms,hu⟩
 ·cases h
theorem aGs(d){t:TypeId}(hu:P.underlying t=some (.interface ms))(w):
  (Op.equalIn (d+1) t .nilIface .nilIface).run P w=.ok true w/\(∀u v,(Op.equalIn (d+1) t .nilIface (.iface u v)).run P w=.ok false w)/\∀u v,(Op.equalIn (d+1) t (.iface u v) .nilIface).run P w=.ok false w:=
 ⟨by simp[Op.equalIn,run_underlying hu],λ_ _=>by simp[Op.equalIn,run_underlying hu],λ_ _=>by simp[Op.equalIn,run_underlying hu]⟩
theorem Gc{t:TypeId}(hu:P.underlying t=some (.interface ms))(w):
  (Op.equal t .nilIface .nilIface).run P w=.ok true w/\(∀u v,(Op.equal t .nilIface (.iface u v)).run P w=.ok false w)/\∀u v,(Op.equal t (.iface u v) .nilIface).run P w=.ok false w:=aGs 9999 hu w
theorem Gd(op)(t)(X Y)(w):(∀u v,(eqGuard op t X Y .nilIface (.iface u v)).run P w=.ok () w)/\(∀u v,(eqGuard op t X Y (.iface u v) .nilIface).run P w=.ok () w)/\((tm X||tm Y)=true->(eqGuard op t X Y .nilIface .nilIface).run P w=.ok () w):=by
 refine⟨λu v=>?_,λu v=>?_,λh=>?_⟩
 ·cases op<;>rfl
 ·cases op<;>rfl
 ·cases X<;>cases Y<;>first|(cases h;done)|(cases op<;>rfl)
theorem aEi{t:TypeId}{x y:I}{X Y:Operand}(J:aK c x b4)(U:aK c y jl)(hs:(B2 P (tm X||tm Y) op t x y).s)(w):
  ∃v,(do eqGuard op t X Y b4 jl;binOp op t b4 jl:Sem Value).run P w=.ok v w/\aK c (B2 P (tm X||tm Y) op t x y).v v:=by
 unfold B2 at *;cases af:x1 x||x1 y with
 |false=>rw[af,vn]at hs;rw[vn];exact aKm J U hs w
 |true=>
  rw[af,tM]at hs;rw[tM];unfold PH at *;split at hs
  ·obtain⟨O,hi⟩:=hs;obtain⟨ms,hu⟩:=G6 hi;cases J;cases U;exact⟨.bool true,by simp only[Sem.run_bind,(Gd .eql t X Y w).2.2 O,Result.andThen_ok,binOp,(Gc hu w).1,Sem.run_pure],.bool _⟩
  ·obtain⟨O,hi⟩:=hs;obtain⟨ms,hu⟩:=G6 hi;cases J;cases U;exact⟨.bool false,by simp only[Sem.run_bind,(Gd .neq t X Y w).2.2 O,Result.andThen_ok,binOp,(Gc hu w).1,Sem.run_pure,Bool.not_true],.bool _⟩
  ·obtain⟨ms,hu⟩:=G6 hs;cases J;cases U;exact⟨.bool false,by simp only[Sem.run_bind,(Gd .eql t X Y w).2.1,Result.andThen_ok,binOp,(Gc hu w).2.2,Sem.run_pure],.bool _⟩
  ·obtain⟨ms,hu⟩:=G6 hs;cases J;cases U;exact⟨.bool true,by simp only[Sem.run_bind,(Gd .neq t X Y w).2.1,Result.andThen_ok,binOp,(Gc hu w).2.2,Sem.run_pure,Bool.not_false],.bool _⟩
  ·obtain⟨ms,hu⟩:=G6 hs;cases J;cases U;exact⟨.bool false,by simp only[Sem.run_bind,(Gd .eql t X Y w).1,Result.andThen_ok,binOp,(Gc hu w).2.1,Sem.run_pure],.bool _⟩
  ·obtain⟨ms,hu⟩:=G6 hs;cases J;cases U;exact⟨.bool true,by simp only[Sem.run_bind,(Gd .neq t X Y w).1,Result.andThen_ok,binOp,(Gc hu w).2.1,Sem.run_pure,Bool.not_false],.bool _⟩
  ·exact hs.elim
def u9:I->Int
 |.int _ n=>n
 |_=>0
def Ib:I->Bool
 |.int .u8 _=>true
 |_=>false
def Ah(P:Program)(t:TypeId):Bool:=match P.underlying t with
 |some (.slice e)=>(match P.underlying e with|some (.int .u8)=>true|_=>false)
 |_=>false
def El(P:Program)(src dst:TypeId)(x:I):h7:=
 match P.underlying dst,x with
 |some (.int k),.int _ n=>⟨.int k<|k.wrap n,(P.underlying src).isSome=true⟩
 |some .string,.str s=>⟨.str s,(P.underlying src).isSome=true⟩
 |some .string,.sl _ es=>⟨.str<|es.map λe=>UInt8.ofNat (u9 e).toNat,Ah P src=true/\es.all Ib=true⟩
 |_,_=>bad
theorem Yg{e:I}(h:Ib e=true):e=.int .u8 (u9 e):=by
 unfold Ib at h;split at h
 ·rfl
 ·cases h
theorem UY{x:I}(J:aK c x b4)(hs:(El P src dst x).s):∃v,(convert src dst b4).run P c.w=.ok v c.w/\aK c (El P src dst x).v v:=by
 unfold El at *;split at hs
 ·rename_i k k' n hu;obtain⟨d,hd⟩:=h6.1 hs;rw[J.iD];refine⟨_,?_,.int _ _<|vx _ _⟩;simp only[convert,Sem.run_bind,run_underlying hd,run_underlying hu,Result.andThen_ok];rfl
 ·rename_i s hu;obtain⟨d,hd⟩:=h6.1 hs;rw[J.nh];refine⟨_,?_,.str _ J.zx⟩;simp only[convert,Sem.run_bind,run_underlying hd,run_underlying hu,Result.andThen_ok];cases d<;>rfl
 ·rename_i f es hu;obtain⟨h1,h2⟩:=hs;have eY:=J.NS;unfold Ah at h1;split at h1
  ·rename_i e he;split at h1
   ·rename_i aa;obtain⟨base,len,cap,s,vs,rfl,rfl, -, -,cD,ej,kr⟩:=J.qm;refine⟨.string ⟨(es.map λe=>UInt8.ofNat (u9 e).toNat).toArray⟩,?_,.str _<|oq eY⟩
    rw[run_convert_bytes_string c.w src dst e base _ cap he aa hu];cases base with
    |none=>have af:es=[]:=j9;subst af;simp[Conv.bytesToString];rfl
    |some a=>
     have hl:(loadCells a es.length).run P c.w=.ok ((es.map u9).map (Value.int .u8)).toArray c.w:=by
      have:=run_loadCells_list (P:=P) c.w a ((es.map u9).map (Value.int .u8)) (λj v V=>by
       rw[sH,nk,gA]at V;obtain⟨x,U,rfl⟩:=V;have O:=(cu.1 U).1;have Z:=dy U;have S:=Yg<|fu.1 h2 x Z;obtain⟨cQ,aG, -, -,T⟩:=cD (by intro af;rw[af]at O;simp at O)
       cases aG;have uF:s=1:=by rw[<-ej x Z,S];rfl
       subst uF;have z:=T j 0 O gf;have aw:=kr j x 0 x U<|by rw[S];rfl
       rw[S]at aw;rw[mi,wU]at z;rw[z,aw.iD];rfl)
      simpa using this
     rw[run_bytesToString c.w a es.length cap (es.map u9) hl,foldl_push_bytes];simp[ByteArray.empty,ByteArray.emptyWithCapacity];rfl
   ·cases h1
  ·cases h1
 ·exact hs.elim
def J8(x:I)(i:Nat):h7:=
 match x with
 |.aN vs=>⟨vs.getD i .top,i<vs.length⟩
 |_=>bad
theorem aCV{x:I}{i:Nat}(J:aK c x b4)(hs:(J8 x i).s)(w):∃v,(Instr.extract b4 i).run P w=.ok v w/\aK c (J8 x i).v v:=by
 unfold J8 at *;split at hs
 ·obtain⟨us,rfl,h1,h2⟩:=J.aDk;have U:=dn hs;have hu:us[i]?=some (us[i]'(_)):=lq gf;rw[H5 _ _ _ _ U];exact⟨_,by simp[Instr.extract,hu],h2 _ _ _ U hu⟩
 ·exact hs.elim
def zg(P:Program)(t:TypeId):Bool:=
 match P.underlying t with
 |some (.interface _)=>false
 |some _=>true
 |none=>false
theorem aDR{t:TypeId}(h:zg P t=true)(v:Value)(w:World):(Instr.makeInterface t v).run P w=.ok (.iface t v) w:=by
 unfold zg at h;cases hu:P.underlying t with
 |none=>rw[hu]at h;cases h
 |some d=>rw[hu]at h;simp[Instr.makeInterface,run_underlying hu];cases d<;>first|rfl|cases h
def Kl(P:Program)(x:I)(t:TypeId)(ok:Bool):h7:=
 match x with
 |.iface u v=>bif u==t then⟨bif ok then .aN [v,.bool true]else v,zg P t=true⟩else bif ok then⟨.aN [eU P t,.bool false],zg P t=true/\(eU P t).known=true⟩else bad
 |.nilIface=>bif ok then⟨.aN [eU P t,.bool false],zg P t=true/\(eU P t).known=true⟩else bad
 |_=>bad
theorem aDp{x:I}{t xt:TypeId}{ok:Bool}(J:aK c x b4)(hs:(Kl P x t ok).s)(w:World):∃v,(Instr.typeAssert b4 xt t ok).run P w=.ok v w/\aK c (Kl P x t ok).v v:=by
 have hu:∀(U:zg P t=true),∃d,P.underlying t=some d/\∀ms,d≠.interface ms:=by
  intro U;unfold zg at U;cases hu:P.underlying t with
  |none=>rw[hu]at U;cases U
  |some d=>exact⟨d,rfl,λms e=>by rw[hu,e]at U;cases U⟩
 unfold Kl at *;split at hs
 ·rename_i u v;cases J with
  |iface _ _ Z aF=>
   cases S:u==t with
   |true=>
    simp only[S,tM]at hs ⊢;obtain⟨d,hd,O⟩:=hu hs;have he:=oq S;subst he;cases ok with
    |true=>exact⟨.tuple #[Z,.bool true],by cases d<;>first|exact absurd rfl (O _)|simp[Instr.typeAssert,run_underlying hd],Ca aF<|.bool _⟩
    |false=>exact⟨Z,by cases d<;>first|exact absurd rfl (O _)|simp[Instr.typeAssert,run_underlying hd],aF⟩
   |false=>
    simp only[S,vn]at hs ⊢;have he:=oq S;cases ok with
    |true=>simp only[tM]at hs ⊢;obtain⟨U,hk⟩:=hs;obtain⟨d,hd,O⟩:=hu U;obtain⟨z,T,V⟩:=u3 hk c;exact⟨.tuple #[z,.bool false],by cases d<;>first|exact absurd rfl (O _)|simp[Instr.typeAssert,run_underlying hd,he,T],Ca V<|.bool _⟩
    |false=>exact hs.elim
 ·cases J;cases ok with
  |true=>simp only[tM]at hs ⊢;obtain⟨U,hk⟩:=hs;obtain⟨d,hd,O⟩:=hu U;obtain⟨z,T,V⟩:=u3 hk c;exact⟨.tuple #[z,.bool false],by cases d<;>first|exact absurd rfl (O _)|simp[Instr.typeAssert,run_underlying hd,T],Ca V<|.bool _⟩
  |false=>exact hs.elim
 ·exact hs.elim
def EB(x y:I):h7:=
 match x,y with
 |.int k a,.int k' b=>⟨.int k<|max a b,k=k'⟩
 |_,_=>bad
def EC(x y:I):h7:=
 match x,y with
 |.int k a,.int k' b=>⟨.int k<|min a b,k=k'⟩
 |_,_=>bad
def JG(P:Program)(t:TypeId)(n:Nat)(ps:List (Nat×I)):h7:=
 match P.underlying t with
 |some (.slice e)=>⟨.sl true<|ps.map (·.2),ow P e=true/\ps.map (·.1)=List.range n/\(ps.all λp=>p.2.known&&(p.2.cells.length==P.cellsOf e))=true/\n * P.cellsOf e<=16777216/\P.cellsOf e≠0⟩
 |_=>bad
theorem WC{s:Nat}:∀(vs:List (Nat×Value)) (i0:Nat) (us:Array Value),vs.map (·.1)=List.range' i0 vs.length->(∀p∈vs,p.2.cells.size=s)->(i0+vs.length) * s<=us.size->
  ∃ws,Instr.fill (λi=>some (i * s,s)) us vs=some ws/\ws.size=us.size/\(∀idx,idx<i0 * s->ws[idx]?=us[idx]?)/\∀(k j:Nat) (p:Nat×Value),vs[k]?=some p->j<s->ws[(i0+k) * s+j]?=p.2.cells[j]?
 |[],i0,us,_,_,_=>⟨us,rfl,rfl,λ_ _=>rfl,hW⟩
 |(i,v)::vs,i0,us,hm,hs,hle=>by
  simp only[dO,cd,BH,List.cons.injEq]at hm;obtain⟨rfl,hm⟩:=hm;have J:v.cells.size=s:=hs (i,v) hW;simp only[cd]at hle;have U:(i+1) * s<=us.size:=e1 (wT s gf) hle;have ax:(i+1) * s=i * s+s:=j9;obtain⟨ws,g1,g2,g3,g4⟩:=WC vs (i+1) (lv us (i * s) v.cells.toList) hm (λp ad=>hs p (by simp[ad]))<|by rw[Ab,show i+1+vs.length=i+(vs.length+1) by omega];exact hle
  refine⟨ws,?_,by rw[g2,Ab],λidx T=>?_,λk j p hk O=>?_⟩
  ·unfold Instr.fill;have S:¬((decide (v.cells.size≠s)||decide (i * s+v.cells.size>us.size))=true):=nc
   simp only[S];rw[YY];exact g1
  ·rw[g3 idx gf,HT _ _ _ s (oq J) gf,ar gf]
  ·cases k with
   |zero=>simp at hk;subst hk;rw[wU,g3 _ gf,HT _ _ _ s (oq J) gf,aC gf];simp
   |succ k=>
    rw[show i+(k+1)=i+1+k by omega]
    exact g4 k j p (oq hk) O
theorem aSI{t:TypeId}{ps:List (Nat×I)}{vs:Array (Nat×Value)}(aj:bm c H)(hm:vs.toList.map (·.1)=ps.map (·.1))
  (ad:∀(k:Nat) (p) (q),ps[k]?=some p->vs[k]?=some q->aK c p.2 q.2) (hs:(JG P t n ps).s):
  mq P (Instr.buildSlice t n vs) c (JG P t n ps).v H:=by
 unfold JG at *;cases hu:P.underlying t with
 |none=>simp[hu,bad]at hs
 |some d=>
  cases d<;>simp only[hu,bad]at hs;case slice e=>
   simp only;obtain⟨bq,aw,fV,r0,aT⟩:=hs;simp only[ow,dp,rD]at bq;obtain⟨⟨h1,h2⟩,h3⟩:=bq;obtain⟨d,hd⟩:=h6.1 h1;obtain⟨z,fO,gl⟩:=u3 h2 c;have r7:z.cells.size=P.cellsOf e:=by rw[(gl.cells h2).1,h3]
   have hlen:vs.toList.length=ps.length:=by have:=b7 List.length hm;simpa using this
   have af:=by have:=b7 List.length aw;simpa using this
   have FP:∀(k:Nat) (p) (q),ps[k]?=some p->vs[k]?=some q->q.2.cells.size=P.cellsOf e/\p.2.cells.length=P.cellsOf e/\∀(i:Nat) (y) (u),p.2.cells[i]?=some y->q.2.cells[i]?=some u->aK c y u:=by intro k p q h1 h2;have h4:=fu.1 fV p<|dy h1;simp only[dp,rD]at h4;obtain⟨g1,g2⟩:=(ad k p q h1 h2).cells h4.1;exact⟨by rw[g1,h4.2],h4.2,g2⟩
   have U:∀q∈vs.toList,q.2.cells.size=P.cellsOf e:=by intro q aM;obtain⟨k,hk,ew⟩:=wZ aM;simp only[Array.length_toList]at hk;exact(FP k _ q (dn<|by rw[<-hlen];simpa using hk) (by rw[<-ew];simp[hk])).1
   let S:=if n * P.cellsOf e=0 then #[]else z.cells
   obtain⟨ws,g1,g2, -,g4⟩:=WC vs.toList 0 ((Array.range (n * P.cellsOf e)).map λk=>S[k % S.size]!) (by rw[hm,aw,hlen,af,KQ]) U<|by simp[hlen,af]
   have gX:(Instr.buildSlice t n vs).run P c.w=.ok (.slice (some ⟨c.w.heap.size,0,none⟩) n n) (c.w.alloc<|.cells ws e):=by
    have v7:¬(n * P.cellsOf e>16777216):=gf;simp only[Instr.buildSlice,Sem.run_bind,run_underlying hu,Result.andThen_ok,gT hd];rw[ar v7];by_cases ay:n * P.cellsOf e=0
    ·have SR:S= #[]:=aC ay;rw[SR]at g1;rw[aC ay];simp only[Sem.run_bind,Sem.run_pure,Result.andThen_ok];rw[g1];rfl
    ·have SR:S=z.cells:=ar ay;rw[SR]at g1;rw[ar ay];simp only[Sem.run_bind,fO,Sem.run_pure,Result.andThen_ok];rw[g1];rfl
   refine⟨c.fix<|.cells ws e,_,gX,aj.fix _,Ext.fix aj _,?_⟩;refine .sl _ _ _ _ _ (P.cellsOf e) (λk j=>((vs[k]?).bind λq=>q.2.cells[j]?).getD undef) (by simp[af]) (bh _) (λ_=>rfl) (λ_=>⟨_,rfl,rfl,.inr rfl,λk j hk T=>?_⟩) (λx J=>?_) (λk x j y hk T=>?_) (oC<|Nat.le_mul_of_pos_right n<|Nat.pos_of_ne_zero aT)
   ·simp only[dq]at hk;have O:vs[k]?=some (vs[k]'(by rw[<-hlen]at hk;simpa using hk)):=lq _
    have b6:=g4 k j _ (by rw[vm];exact O) T
    have aa:(c.fix (.cells ws e)).w.heap[c.w.heap.size]?=some (.cells ws e):=mv _ _;rw[pL,Bz aa,lr];rw[lr]at b6;rw[b6,O];have hsz:=U (vs[k]'(by rw[<-hlen]at hk;simpa using hk)) hW
    simp[show j<(vs[k]'(by rw[<-hlen]at hk;simpa using hk)).2.cells.size by omega]
   ·obtain⟨p,V,rfl⟩:=bP.1 J;have h4:=fu.1 fV p V;simp only[dp,rD]at h4;exact h4.2
   ·simp only[nk,gA]at hk;obtain⟨p,V,rfl⟩:=hk;have Z:=(cu.1 V).1;have O:vs[k]?=some (vs[k]'(by rw[<-hlen]at Z;simpa using Z)):=lq _
    obtain⟨aL,aR,bC⟩:=FP k p _ V O;have Jb:=(cu.1 T).1;rw[O];refine aK.mono (Ext.fix aj _)<|bC j y _ T ?_;simp[show j<(vs[k]'(by rw[<-hlen]at Z;simpa using Z)).2.cells.size by omega]
def GA(P:Program)(b:Builtin)(ts:List TypeId)(xs:List I)(H:ab):kc:=
 match b,ts,xs with
 |.len,[t],[x]=>⟨(E3 P t x H).v,H,(E3 P t x H).s⟩
 |.append,[t,u],[s,x]=>EH P t u s x H
 |.copy,[t,_],[d,x]=>ES P t d x H
 |.clear,[t],[x]=>EN P t x H
 |.delete,[t,_],[x,k]=>EM P t x k H
 |.cap,[t],[x]=>⟨(E5 P t x).v,H,(E5 P t x).s⟩
 |.max,_,[x,y]=>⟨(EB x y).v,H,(EB x y).s⟩
 |.min,_,[x,y]=>⟨(EC x y).v,H,(EC x y).s⟩
 |_,_,_=>⟨.top,H,False⟩
theorem aEx{x y:I}(J:aK c x b4)(U:aK c y jl)(hs:(EB x y).s)(w):∃v,(Builtin.max_ ts ty #[b4,jl]).run P w=.ok v w/\aK c (EB x y).v v:=by
 unfold EB at *;split at hs
 ·rename_i k a k' b;subst hs;rw[J.iD,U.iD];refine⟨.int k<|max a b,?_,.int _ _ (by have h1:=J.Dd;have h2:=U.Dd;unfold l6 at *;omega)⟩
  simp only[Builtin.max_,List.foldlM_cons,List.foldlM_nil,Builtin.max2,Sem.run_bind,Sem.run_pure,Result.andThen_ok];congr 2;split<;>omega
 ·exact hs.elim
theorem aEo{x y:I}(J:aK c x b4)(U:aK c y jl)(hs:(EC x y).s)(w):∃v,(Builtin.min_ ts ty #[b4,jl]).run P w=.ok v w/\aK c (EC x y).v v:=by
 unfold EC at *;split at hs
 ·rename_i k a k' b;subst hs;rw[J.iD,U.iD];refine⟨.int k<|min a b,?_,.int _ _ (by have h1:=J.Dd;have h2:=U.Dd;unfold l6 at *;omega)⟩
  simp only[Builtin.min_,List.foldlM_cons,List.foldlM_nil,Builtin.min2,Sem.run_bind,Sem.run_pure,Result.andThen_ok];congr 2;split<;>omega
 ·exact hs.elim
def BS(c:Ctx)(xs:List I)(vs:Array Value):Prop:=vs.size=xs.length/\∀(i:Nat) (x:I) (v:Value),xs[i]?=some x->vs[i]?=some v->aK c x v
theorem BS.one{x:I}(h:BS c [x] vs):∃u,vs= #[u]/\aK c x u:=by
 obtain⟨h1,h2⟩:=h;obtain⟨l⟩:=vs
 match l,h1 with
 |[u],_=>exact⟨u,rfl,h2 0 _ _ rfl rfl⟩
theorem BS.two{x y:I}(h:BS c [x,y] vs):∃u v,vs= #[u,v]/\aK c x u/\aK c y v:=by
 obtain⟨h1,h2⟩:=h;obtain⟨l⟩:=vs
 match l,h1 with
 |[u,v],_=>exact⟨u,v,rfl,h2 0 _ _ rfl rfl,h2 1 _ _ rfl rfl⟩
theorem aDS{b:Builtin}{cs:Array Bool}{xs:List I}(U:bm c H)(J:BS c xs vs)(hs:(GA P b ts.toList xs H).s):
  ∃c' v,(builtin b ts ty cs vs).run P c.w=.ok (.value v) c'.w/\bm c' (GA P b ts.toList xs H).H/\Ext c c'/\aK c' (GA P b ts.toList xs H).v v:=by
 obtain⟨T⟩:=ts;simp only at hs ⊢;unfold GA at *;split at hs
 ·obtain⟨u,rfl,hu⟩:=J.one;obtain⟨v,h1,h2⟩:=aKn U hu hs;exact⟨c,v,by simp only[builtin,Sem.run_bind];rw[h1];rfl,U,Ext.refl c,h2⟩
 ·obtain⟨u,S,rfl,hu,O⟩:=J.two;obtain⟨c',v,h1,h2,h3,h4⟩:=aGr U hu O hs;exact⟨c',v,by simp[builtin,Sem.run_bind];rw[h1];rfl,h2,h3,h4⟩
 ·obtain⟨u,S,rfl,hu,O⟩:=J.two;obtain⟨c',v,h1,h2,h3,h4⟩:=aIP U hu O hs;exact⟨c',v,by simp only[builtin,Sem.run_bind];rw[h1];rfl,h2,h3,h4⟩
 ·obtain⟨u,rfl,hu⟩:=J.one;obtain⟨c',v,h1,h2,h3,h4⟩:=aH1 U hu hs;exact⟨c',v,by simp only[builtin,Sem.run_bind];rw[h1];rfl,h2,h3,h4⟩
 ·obtain⟨u,S,rfl,hu,O⟩:=J.two;obtain⟨c',v,h1,h2,h3,h4⟩:=aIi U hu O hs;exact⟨c',v,by simp only[builtin,Sem.run_bind];rw[h1];rfl,h2,h3,h4⟩
 ·obtain⟨u,rfl,hu⟩:=J.one;obtain⟨v,h1,h2⟩:=aKo hu hs;exact⟨c,v,by simp only[builtin,Sem.run_bind];rw[h1];rfl,U,Ext.refl c,h2⟩
 ·obtain⟨u,S,rfl,hu,O⟩:=J.two;obtain⟨v,h1,h2⟩:=aEx hu O hs c.w;exact⟨c,v,by simp only[builtin,Sem.run_bind];rw[h1];rfl,U,Ext.refl c,h2⟩
 ·obtain⟨u,S,rfl,hu,O⟩:=J.two;obtain⟨v,h1,h2⟩:=aEo hu O hs c.w;exact⟨c,v,by simp only[builtin,Sem.run_bind];rw[h1];rfl,U,Ext.refl c,h2⟩
 ·exact hs.elim
def ck(t:List UInt8):List I:=t.map λb=>.int .u8 b.toNat
def LV(cs:List I):List UInt8:=cs.map λe=>UInt8.ofNat (u9 e).toNat
def P9(cs:List I):Bool:=cs.all Ib
theorem aKk(t):t.map (λb=>I.int .u8 b.toNat)=ck t:=rfl
theorem qO(t):(ck t).length=t.length:=dq _
theorem aGt(t):P9 (ck t)=true:=by unfold P9;rw[fu];intro x J;obtain⟨b,_,rfl⟩:=bP.1 J;rfl
theorem aIG(t:List UInt8):LV (ck t)=t:=by
 unfold LV ck;rw[sH];conv=>rhs;rw[<-List.map_id t]
 apply List.map_congr_left
 simp[u9]
theorem aIH(t):List.take (t.length * 1) (ck t)=ck t:=qy<|by rw[qO];omega
theorem wE(s t):ck (s++t)=ck s++ck t:=qz
theorem Y5(t):(ck t).all I.one=true:=by rw[fu];intro x J;obtain⟨b,_,rfl⟩:=bP.1 J;rfl
def zp(P:Program)(src dst:TypeId)(x:I)(H:ab):kc:=
 match x with
 |.osl s i v off len lc=>⟨.str<|LV (fj (.osl s i v off len lc) H),H,
   P.underlying dst=some .string/\Ah P src=true/\sS (.osl s i v off len lc) 1 H/\P9 (fj (.osl s i v off len lc) H)=true⟩
 |.str s=>bif Ah P dst then⟨.osl 1 H.length 1 0 s.length s.length,H++[.cells 1 (fj (.str s) H)],(P.underlying src).isSome=true⟩else ofBRH (El P src dst<|.str s) H
 |x=>ofBRH (El P src dst x) H
where ofBRH (r:h7) (H:ab):kc:=⟨r.v,H,r.s⟩
theorem Yh{t:TypeId}(h:Ah P t=true):∃e,P.underlying t=some (.slice e)/\P.underlying e=some (.int .u8):=by
 unfold Ah at h;split at h
 ·rename_i e he;split at h
  ·rename_i J;exact⟨e,he,J⟩
  ·cases h
 ·cases h
theorem aDV(w)(e)(s):Lib.bytesWorld w e s=World.alloc {w with drawn:=w.drawn+1} (.cells (Lib.bytesCells w e s) e ((Lib.bytesCells w e s).size,(Lib.bytesCells w e s).size+1)):=by
 simp only[Lib.bytesWorld,World.freeze,World.alloc,World.drew,Nat.one_ne_zero,gB];congr 1;apply Array.ext';apply List.ext_getElem?
 intro j;by_cases h:w.heap.size=j
 ·subst h;simp
 ·simp[h,List.getElem?_append];by_cases h2:j<w.heap.size
  ·simp[h2]
  ·rw[ar h2,ar h2,wW j9,wW j9]
theorem aD6{x:I}(U:bm c H)(J:aK c x b4)(hs:(zp P src dst x H).s):
  mq P (convert src dst b4) c (zp P src dst x H).v (zp P src dst x H).H:=by
 unfold zp at *;split at hs
 ·rename_i s i v off len lc;obtain⟨h1,h2,h3,h4⟩:=hs;obtain⟨e,he,S⟩:=Yh h2;obtain⟨aL,T,us,O,V,ej⟩:=sP (P:=P) U J h3;obtain⟨rfl,hl, -⟩:=h3;obtain⟨base,cap,rfl,g1,g2, -⟩:=J.l9<|xh U hl;have Z:=J.Gz;have pv:us=((fj (.osl 1 i v off len lc) H).map λy=>Value.int .u8<|u9 y).toArray:=by
   apply Array.ext
   ·simpa using V
   ·intro k k1 k2;have k3:k<(fj (.osl 1 i v off len lc) H).length:=gf;have hu:=ej k _ _ (dn k3)<|lq k1;rw[Yg (fu.1 h4 _<|fQ k3)]at hu;rw[hu.iD];simp
  refine⟨c,.string ⟨((fj (.osl 1 i v off len lc) H).map λy=>UInt8.ofNat (u9 y).toNat).toArray⟩,?_,U,Ext.refl c,.str _ (by simp only[fg]at T;unfold LV;simp;omega)⟩
  rw[run_convert_bytes_string c.w src dst e base _ cap he S h1];simp only[fg]at T O;cases base with
  |none=>
   have af:=by simp only[Builtin.firstCells]at O;cases O;exact iL<|oq V.symm
   rw[af];simp[Conv.bytesToString];rfl
  |some a=>
   have hl:(loadCells a len).run P c.w=.ok (((fj (.osl 1 i v off len lc) H).map u9).map (Value.int .u8)).toArray c.w:=by rw[sH];simp only[Builtin.firstCells,mi]at O;rw[O,pv];rfl
   rw[run_bytesToString c.w a len cap _ hl,foldl_push_bytes];simp[ByteArray.empty,ByteArray.emptyWithCapacity];rfl
 ·rename_i s;cases hu:Ah P dst with
  |false=>simp only[hu,vn,zp.ofBRH]at hs ⊢;obtain⟨v,h1,h2⟩:=UY J hs;exact⟨c,v,h1,U,Ext.refl c,h2⟩
  |true=>
   simp only[hu,tM]at hs ⊢;obtain⟨e,he,S⟩:=Yh hu;obtain⟨d,hd⟩:=h6.1 hs;have Z:=J.zx;have hsz:(⟨s.toArray⟩:ByteArray).size=s.length:=by simp[ByteArray.size]
   have my:s.length<=grownCap c.w s.length 0 e:=by simp[grownCap,Question.cut]
   have z:(Lib.bytesCells c.w e ⟨s.toArray⟩).size=grownCap c.w s.length 0 e:=by simp[Lib.bytesCells,hsz];omega
   rw[J.nh];have gX:=Lib.run_convert_string_bytes c.w src dst e ⟨s.toArray⟩ hd he S;rw[aDV,hsz]at gX;refine⟨_,_,gX,U.draw.push (.cells (Lib.bytesCells c.w e ⟨s.toArray⟩) e ((Lib.bytesCells c.w e ⟨s.toArray⟩).size,(Lib.bytesCells c.w e ⟨s.toArray⟩).size+1)) 1 ?_,(Ext.draw c).trans<|Ext.push U.draw _ 1,?_⟩
   ·refine .cells _ _ _ e _ (by simp[Ctx.push]) (by simp[Ctx.push]) (by simp only[Ctx.push,dW];exact mv _ _) (by rw[z];simp[fj];omega) (.inl (bh _)) λj y u au hu=>?_
    simp only[fj,nk,gA]at au;obtain⟨b,e9,rfl⟩:=au;have pe:=(cu.1 e9).1;have:(Lib.bytesCells c.w e ⟨s.toArray⟩)[j]?=some (.int .u8 b.toNat):=by simp only[Lib.bytesCells];rw[wQ (oq pe)];simp[e9]
    rw[this]at hu;cases hu;exact .int _ _<|LN.2 ⟨gf,oC b.toNat_lt⟩
   ·refine .osl _ _ _ _ _ _ _ (by simp[Ctx.push,Ctx.draw,U.n]) (by simp[Ctx.push,Ctx.draw,U.n]) rfl Z (λ_ hd=>by simp[Ctx.push,Ctx.draw,U.n]at hd) λ_ _=>?_
    refine⟨_,grownCap c.w s.length 0 e,grownCap c.w s.length 0 e,rfl,bh _,my,.inr (by simp[Ctx.push,Ctx.draw,U.n]),?_,gf⟩
    simp only[bsize,Ctx.push,Ctx.draw,U.n,dW];rw[mv];exact b7 some z
 ·simp only[zp.ofBRH]at hs ⊢;obtain⟨v,h1,h2⟩:=UY J hs;exact⟨c,v,h1,U,Ext.refl c,h2⟩
theorem zA(h:∀c,o.op≠.defer c):Hy o:=λr ρ=>Oper.semAt_eq r ρ o h
theorem jH{x:I}
  (h:∀(c) (a:Act),bm c H->(∀x∈o.op.operands.toList,aK c (ρ x)<|a.eval x)->∃c' v,(execOp a.eval o).run P c.w=.ok (.value v) c'.w/\bm c' H'/\Ext c c'/\aK c' x v) (hd:Hy o:=by intro r _;cases r<;>rfl):
  pI P o ρ H (λx' J=>x'=x/\J=H'):=by
 intro r c a next Q hs hρ hk
 obtain⟨c',v,h1,h2,h3,h4⟩:=h c a hs hρ;refine wA hd ?_;rw[h1];exact hk c' x v H' h2 h3 h4 ⟨rfl,rfl⟩
theorem Uh
  (h:∀(c) (a:Act),bm c H->(∀x∈o.op.operands.toList,aK c (ρ x)<|a.eval x)->∃c',(execOp a.eval o).run P c.w=.ok .skip c'.w/\bm c' H'/\Ext c c') (hd:Hy o:=by intro r _;cases r<;>rfl):
  pI P o ρ H (λx' J=>x'=.top/\J=H'):=by
 intro r c a next Q hs hρ hk
 obtain⟨c',h1,h2,h3⟩:=h c a hs hρ;refine wA hd ?_;rw[h1];exact hk c' .top undef H' h2 h3 (.top _) ⟨rfl,rfl⟩
def su(r:h7)(H:ab):kc:=⟨r.v,H,r.s⟩
theorem aK.aAh{cs:List I}{v:Value}(h:aK c (.cptr cs) v):∃a,v=.pointer (some a):=by cases h with|cptr _ a=>exact⟨a,rfl⟩
def Ic(x:I)(H:ab):kc:=
 match x with
 |.ref i v off=>⟨.ref i v off,H,mQ H<|.ref i v off⟩
 |.cptr cs=>⟨.cptr cs,H,True⟩
 |_=>⟨.top,H,False⟩
def Tv(P:Program)(t:TypeId):Bool:=
 match P.underlying t with
 |some d=>ZA P d
 |none=>false
def Yi(g:Nat):I:=
 match aAb.find? (·.1==g)with
 |some p=>.cptr<|p.2.map kE
 |none=>.top
def Cw(x:Operand)(v:I):I:=
 match x with
 |.global g=>Yi g
 |_=>v
theorem aII{x:Operand}{v:I}(O:bm c H)(h:aK c v (a.eval x)):aK c (Cw x v) (a.eval x):=by
 unfold Cw;split
 ·unfold Yi;split
  ·rename_i p ad;have hm:=O.j0 p<|sD ad;have S:=by simpa using List.find?_some ad
   subst S;refine .cptr _ ⟨p.1,0,none⟩ (λj=>p.2.getD j undef) rfl hm.1 (λj J=>?_) (λj y U=>?_)
   ·simp at J;rw[pL,lr,hm.2 j _<|dn J];simp[J]
   ·simp at U;obtain⟨v,T,rfl⟩:=U;rw[gg,T];exact Qu c v
  ·exact .top _
 ·exact h
def cr(P:Program)(op:Op)(ρ:Operand->I)(H:ab):kc:=
 match op with
 |.move x=>⟨ρ x,H,True⟩
 |.assign x=>⟨ρ x,H,True⟩
 |.alloc t=>ER P t H
 |.box _ x=>E7 (ρ x) H
 |.build t ps=>⟨(EG P t (ps.toList.map λp=>(p.1,ρ p.2))).v,H,Tv P t=true/\(EG P t (ps.toList.map λp=>(p.1,ρ p.2))).s⟩
 |.buildSlice t n ps=>su (JG P t n<|ps.toList.map λp=>(p.1,ρ p.2)) H
 |.load t x=>su (An P t (ρ x) H) H
 |.store t a x=>yE P t (ρ a) (ρ x) H
 |.nilCheck x=>Ic (ρ x) H
 |.binOp op t x y _=>su (B2 P (tm x||tm y) op t (ρ x)<|ρ y) H
 |.unOp op _ x=>su (Ix op<|ρ x) H
 |.convert s d x=>zp P s d (ρ x) H
 |.makeInterface t x=>⟨.iface t<|ρ x,H,zg P t=true⟩
 |.makeFunc fn f cs=>⟨.func fn (f.toList.map ρ)<|cs.toList.map ρ,H,True⟩
 |.slice t x lo hi mx=>su (Ci P t (ρ x) (lo.map ρ) (hi.map ρ) (mx.map ρ) H) H
 |.fieldAddr t x f=>⟨(Ei P t f (ρ x)).v,H,mQ H (ρ x)/\(Ei P t f (ρ x)).s⟩
 |.field t x f=>su (Ip P t f<|ρ x) H
 |.indexAddr t x i=>⟨(Ej P t (Cw x<|ρ x) (ρ i)).v,H,mQ H (Cw x<|ρ x)/\(Ej P t (Cw x<|ρ x) (ρ i)).s⟩
 |.index t x i=>su (Iq P t (ρ x)<|ρ i) H
 |.typeAssert x _ t ok=>su (Kl P (ρ x) t ok) H
 |.extract x i=>su (J8 (ρ x) i) H
 |.makeSlice t l k=>Ey P t (ρ l) (ρ k) H
 |.range t x=>EO P t (ρ x) H
 |.makeMap _ none=>LO H
 |.lookup t x k ok=>su (Im P t (ρ x) (ρ k) ok H) H
 |.entry x=>su (Io (ρ x) H) H
 |.mapUpdate t x k v=>xP P t (ρ x) (ρ k) (ρ v) H
 |.insert t x k v=>xP P t (ρ x) (ρ k) (ρ v) H
 |.next it b=>E4 (ρ it) b H
 |.call ⟨.builtin b,xs,ts⟩=>GA P b ts.toList (xs.toList.map ρ) H
 |_=>⟨.top,H,False⟩
theorem Bd(h:∀x∈xs.toList,aK c (ρ x)<|e x):BS c (xs.toList.map ρ) (xs.map e):=by grind [Ctx,Operand,Value,Array,BS]
theorem Tw{o:Option Operand}(h:∀x,o=some x->aK c (ρ x) (e x)):
  (∀y,o.map ρ=some y->∃u,o.map e=some u/\aK c y u)/\(o.map ρ=none->o.map e=none):=by
 grind [Ctx,Operand,Value,Option]
theorem yP(hs:(cr P o.op ρ H).s):
  pI P o ρ H (λx' H'=>x'=(cr P o.op ρ H).v/\H'=(cr P o.op ρ H).H):=by
 obtain⟨dst,op,ty,pos,after,guard⟩:=o;cases op<;>simp only[cr,su]at hs ⊢;case move x=>exact jH λc a U hρ=>⟨c,_,rfl,U,Ext.refl c,hρ x<|by simp[Op.operands]⟩
 case assign x=>exact jH λc a U hρ=>⟨c,_,rfl,U,Ext.refl c,hρ x<|by simp[Op.operands]⟩
 case alloc t=>refine jH λc a U hρ=>?_;obtain⟨c',v,h1,h2,h3,h4⟩:=VJ (P:=P) U hs;exact⟨c',v,by simp only[execOp,Sem.run_bind,h1];rfl,h2,h3,h4⟩
 case box t x=>
  refine jH λc a U hρ=>?_;obtain⟨c',v,h1,h2,h3,h4⟩:=Zg (P:=P) (t:=t) U (hρ x<|by simp[Op.operands]) hs
  exact⟨c',v,by simp only[execOp,Sem.run_bind,h1];rfl,h2,h3,h4⟩
 case build t ps=>
  obtain⟨Z,hs⟩:=hs;refine jH λc a U hρ=>?_;have I:∀p∈ps.toList,aK c (ρ p.2) (a.eval p.2):=λp ad=>hρ p.2<|by simp only[Op.operands,bP];exact⟨p,ad,rfl⟩
  obtain⟨v,h1,h2⟩:=aIL (P:=P) (vs:=ps.map fun(i,x)=>(i,a.eval x)) (by simp[sH,Function.comp_def]) (λk p q h1 h2=>by simp only[nk,gA]at h1;obtain⟨r,h1,rfl⟩:=h1;rw[Array.getElem?_map]at h2;rw[vm]at h1;rw[h1]at h2;cases h2;exact I r<|by rw[KS];exact BE h1) hs (λd hd=>by unfold Tv at Z;rw[hd]at Z;exact Z) c.w
  exact⟨c,v,by simp only[execOp,Sem.run_bind,h1];rfl,U,Ext.refl c,h2⟩
 case buildSlice t n ps=>
  refine jH λc a U hρ=>?_;have I:∀p∈ps.toList,aK c (ρ p.2) (a.eval p.2):=λp ad=>hρ p.2<|by simp only[Op.operands,bP];exact⟨p,ad,rfl⟩
  obtain⟨c',v,h1,h2,h3,h4⟩:=aSI (P:=P) (vs:=ps.map fun(i,x)=>(i,a.eval x)) U (by simp[sH,Function.comp_def]) (λk p q h1 h2=>by simp only[nk,gA]at h1;obtain⟨r,h1,rfl⟩:=h1;rw[Array.getElem?_map]at h2;rw[vm]at h1;rw[h1]at h2;cases h2;exact I r<|by rw[KS];exact BE h1) hs
  exact⟨c',v,by simp only[execOp,Sem.run_bind,h1];rfl,h2,h3,h4⟩
 case load t x=>
  refine jH λc a U hρ=>?_;obtain⟨v,h1,h2⟩:=Wn (P:=P) U (hρ x<|by simp[Op.operands]) hs
  exact⟨c,v,by simp only[execOp,Sem.run_bind,h1];rfl,U,Ext.refl c,h2⟩
 case store t x y=>
  have O:(yE P t (ρ x) (ρ y) H).v=.top:=by unfold yE;split<;>(try split)<;>rfl
  rw[O];refine Uh λc a U hρ=>?_;obtain⟨w',h1,h2,h3⟩:=VI (P:=P) U (hρ x<|by simp[Op.operands]) (hρ y<|by simp[Op.operands]) hs
  exact⟨_,by simp only[execOp,Sem.run_bind,h1];rfl,h3,h2⟩
 case nilCheck x=>
  refine jH λc a U hρ=>?_;have J:=hρ x<|by simp[Op.operands]
  have e:(Ic (ρ x) H).v=ρ x/\(Ic (ρ x) H).H=H/\∃S,a.eval x=.pointer (some S):=by
   unfold Ic at hs ⊢;split at hs
   ·rename_i i v off T;rw[T]at J;obtain⟨b,z, -⟩:=Ln J (L3 (off:=off) U hs) 0;exact⟨T.symm,rfl,b,z⟩
   ·rename_i cs T;rw[T]at J;obtain⟨S,s5⟩:=J.aAh;exact⟨T.symm,rfl,S,s5⟩
   ·exact hs.elim
  obtain⟨ax,aq,S,aU⟩:=e;rw[ax,aq];refine⟨c,.pointer<|some S,?_,U,Ext.refl c,by rw[<-aU];exact J⟩
  simp only[execOp];rw[aU];rfl
 case binOp op t x y ty'=>
  refine jH λc a U hρ=>?_;obtain⟨v,h1,h2⟩:=aEi (P:=P) (X:=x) (Y:=y) (hρ x<|by simp[Op.operands]) (hρ y<|by simp[Op.operands]) hs c.w
  exact⟨c,v,by simp only[execOp];rw[Sem.run_bind,h1];rfl,U,Ext.refl c,h2⟩
 case unOp op t x=>
  refine jH λc a U hρ=>?_;obtain⟨v,h1,h2⟩:=aFw (P:=P) (hρ x<|by simp[Op.operands]) hs c.w
  exact⟨c,v,by simp only[execOp,Sem.run_bind,h1];rfl,U,Ext.refl c,h2⟩
 case convert s d x=>
  refine jH λc a U hρ=>?_;obtain⟨c',v,h1,h2,h3,h4⟩:=aD6 (P:=P) U (hρ x<|by simp[Op.operands]) hs
  exact⟨c',v,by simp only[execOp,Sem.run_bind,h1];rfl,h2,h3,h4⟩
 case makeInterface t x=>exact jH λc a U hρ=>⟨c,_,by simp only[execOp,Sem.run_bind,aDR hs];rfl,U,Ext.refl c,.iface _ _ _<|hρ x (by simp[Op.operands])⟩
 case makeFunc fn f cs=>
  refine jH λc a U hρ=>⟨c,.func fn (f.map a.eval)<|cs.map a.eval,by simp only[execOp,Instr.makeFunc,Sem.run_bind,Sem.run_pure];rfl,U,Ext.refl c,?_⟩
  obtain⟨cw,cL⟩:=Bd (c:=c) (ρ:=ρ) (e:=a.eval) (xs:=f) λx J=>hρ x (by simp only[Op.operands,DR,fH];exact .inl J)
  obtain⟨aL,aR⟩:=Bd (c:=c) (ρ:=ρ) (e:=a.eval) (xs:=cs) λx J=>hρ x (by simp only[Op.operands,DR,fH];exact .inr J)
  exact .func _ _ _ _ _ cw aL cL aR
 case slice t x lo hi mx=>
  refine jH λc a U hρ=>?_;obtain⟨cm,cT⟩:=Tw (c:=c) (ρ:=ρ) (e:=a.eval) (o:=lo) λy V=>hρ y (by subst V;simp[Op.operands])
  obtain⟨h1,h2⟩:=Tw (c:=c) (ρ:=ρ) (e:=a.eval) (o:=hi) λy V=>hρ y (by subst V;simp[Op.operands])
  obtain⟨m1,m2⟩:=Tw (c:=c) (ρ:=ρ) (e:=a.eval) (o:=mx) λy V=>hρ y (by subst V;simp[Op.operands])
  obtain⟨v,g1,g2⟩:=aIO (P:=P) U (hρ x<|by simp[Op.operands]) cm cT h1 h2 m1 m2 hs c.w
  exact⟨c,v,by simp only[execOp,Sem.run_bind,g1];rfl,U,Ext.refl c,g2⟩
 case fieldAddr t x f=>
  refine jH λc a U hρ=>?_;obtain⟨v,h1,h2⟩:=aFt (P:=P) U (hρ x<|by simp[Op.operands]) hs.1 hs.2 c.w
  exact⟨c,v,by simp only[execOp,Sem.run_bind,h1];rfl,U,Ext.refl c,h2⟩
 case field t x f=>
  refine jH λc a U hρ=>?_;obtain⟨v,h1,h2⟩:=aIM (P:=P) (hρ x<|by simp[Op.operands]) hs c.w
  exact⟨c,v,by simp only[execOp,Sem.run_bind,h1];rfl,U,Ext.refl c,h2⟩
 case indexAddr t x i=>
  refine jH λc a U hρ=>?_;obtain⟨v,h1,h2⟩:=aFu (P:=P) U (aII U<|hρ x (by simp[Op.operands])) (hρ i<|by simp[Op.operands]) hs.1 hs.2 c.w
  exact⟨c,v,by simp only[execOp,Sem.run_bind,h1];rfl,U,Ext.refl c,h2⟩
 case index t x i=>
  refine jH λc a U hρ=>?_;obtain⟨v,h1,h2⟩:=aIN (P:=P) (hρ x<|by simp[Op.operands]) (hρ i<|by simp[Op.operands]) hs c.w
  exact⟨c,v,by simp only[execOp,Sem.run_bind,h1];rfl,U,Ext.refl c,h2⟩
 case typeAssert x xt t ok=>
  refine jH λc a U hρ=>?_;obtain⟨v,h1,h2⟩:=aDp (P:=P) (xt:=xt) (hρ x<|by simp[Op.operands]) hs c.w
  exact⟨c,v,by simp only[execOp,Sem.run_bind,h1];rfl,U,Ext.refl c,h2⟩
 case extract x i=>
  refine jH λc a U hρ=>?_;obtain⟨v,h1,h2⟩:=aCV (P:=P) (hρ x<|by simp[Op.operands]) hs c.w
  exact⟨c,v,by simp only[execOp,Sem.run_bind,h1];rfl,U,Ext.refl c,h2⟩
 case makeSlice t l k=>
  refine jH λc a U hρ=>?_;obtain⟨c',v,h1,h2,h3,h4⟩:=aFv (P:=P) U (hρ l<|by simp[Op.operands]) (hρ k<|by simp[Op.operands]) hs
  exact⟨c',v,by simp only[execOp,Sem.run_bind,h1];rfl,h2,h3,h4⟩
 case range t x=>
  refine jH λc a U hρ=>?_;obtain⟨c',v,h1,h2,h3,h4⟩:=aH2 (P:=P) U (hρ x<|by simp[Op.operands]) hs
  exact⟨c',v,by simp only[execOp,Sem.run_bind,h1];rfl,h2,h3,h4⟩
 case next it b=>
  refine jH λc a U hρ=>?_;obtain⟨c',v,h1,h2,h3,h4⟩:=aJW (P:=P) (ty:=ty) U (hρ it<|by simp[Op.operands]) hs
  exact⟨c',v,by simp only[execOp,Sem.run_bind,h1];rfl,h2,h3,h4⟩
 case makeMap t r=>
  cases r with
  |some x=>exact hs.elim
  |none=>refine jH λc a U hρ=>?_;obtain⟨c',v,h1,h2,h3,h4⟩:=aGq (P:=P) (t:=t) U;exact⟨c',v,by simp only[execOp,DV,Sem.run_bind,h1];rfl,h2,h3,h4⟩
 case lookup t x k ok=>
  refine jH λc a U hρ=>?_;obtain⟨v,h1,h2⟩:=aIh (P:=P) U (hρ x<|by simp[Op.operands]) (hρ k<|by simp[Op.operands]) hs
  exact⟨c,v,by simp only[execOp,Sem.run_bind,h1];rfl,U,Ext.refl c,h2⟩
 case entry x=>
  refine jH λc a U hρ=>?_;obtain⟨v,h1,h2⟩:=aIF (P:=P) U (hρ x<|by simp[Op.operands]) hs
  exact⟨c,v,by simp only[execOp,Sem.run_bind,h1];rfl,U,Ext.refl c,h2⟩
 case mapUpdate t x k v=>
  have O:(xP P t (ρ x) (ρ k) (ρ v) H).v=.top:=by unfold xP;split<;>rfl
  rw[O];refine Uh λc a U hρ=>?_;obtain⟨c',h1,h2,h3⟩:=aDB (P:=P) U (hρ x<|by simp[Op.operands]) (hρ k<|by simp[Op.operands]) (hρ v<|by simp[Op.operands]) hs
  exact⟨c',by simp only[execOp,Sem.run_bind,h1];rfl,h2,h3⟩
 case insert t x k v=>
  have O:(xP P t (ρ x) (ρ k) (ρ v) H).v=.top:=by unfold xP;split<;>rfl
  rw[O];refine Uh λc a U hρ=>?_;obtain⟨c',h1,h2,h3⟩:=aDB (P:=P) U (hρ x<|by simp[Op.operands]) (hρ k<|by simp[Op.operands]) (hρ v<|by simp[Op.operands]) hs
  exact⟨c',by simp only[execOp,Sem.run_bind,h1];rfl,h2,h3⟩
 case call cl=>
  obtain⟨callee,xs,ts⟩:=cl;cases callee<;>simp only at hs ⊢;case builtin b=>
   refine jH λc a U hρ=>?_;obtain⟨c',v,h1,h2,h3,h4⟩:=aDS (P:=P) (b:=b) (ts:=ts) (ty:=ty) (cs:=xs.map fun|.const _=>true|_=>false) (vs:=xs.map a.eval) U (Bd λx J=>hρ x<|by simp only[Op.operands,Call.operands,DR,fH];exact .inr J) hs
   exact⟨c',v,by simp only[execOp,resolve,Sem.run_bind,Sem.run_pure,Result.andThen_ok,invoke];exact h1,h2,h3,h4⟩
def jr(P:Program)(f:FuncId):Bool:=
 match P.funcs[f]? with
 |some fn=>fn.body.isSome&& !(fn.name== "runtime.NumGoroutine")
 |none=>false
theorem Fp(h:jr P f=true)(args:Array Value)(w:World):(callFunc f args).run P w=.ok (.enter f args) w:=by
 unfold jr at h;cases J:P.funcs[f]? with
 |none=>rw[J]at h;cases h
 |some fn=>rw[J]at h;simp only[dp,yt]at h;obtain⟨h1,h2⟩:=h;have h3:fn.body.isNone=false:=nP;simp only[callFunc,Sem.run_bind,run_program,Result.andThen_ok,J,h2,h3];rfl
def D0(P:Program)(f:FuncId)(args:List I)(H:ab)(R:I->ab->Prop):Prop:=
 ∀(c:Ctx) (vs:Array Value),bm c H->qG c args vs->∃v x,(callFunc f vs).run P c.w=.ok (.value v) c.w/\aK c x v/\R x H
theorem D0.mono{P:Program}(h:D0 P f args H R)(J:∀x H',R x H'->R' x H'):D0 P f args H R':=
 λc vs hs U=>by grind [Program,List,D0]
theorem aFx{it:Operand}(J:o.op=.next it false)(h:L1 (ρ it) H K):pI P o ρ H K:=by
 intro r c a next Q hs hρ hk
 obtain⟨c',v,x',H',h1,h2,h3,h4,U⟩:=aIE (P:=P) (ty:=o.type) hs (hρ it<|by rw[J];simp[Op.operands]) h
 refine wA (zA j9) ?_;have:(execOp a.eval o).run P c.w=.ok (.value v) c'.w:=by simp only[execOp,J,Sem.run_bind,h1];rfl
 rw[this];exact hk c' x' v H' h2 h3 h4 U
def sJ(P:Program)(l:Nat)(args:List I)(H:ab)(R:I->ab->Prop):Prop:=
 ∀(c:Ctx) (vs:Array Value),bm c H->qG c args vs->∃fn tmps nr ec,(Instr.yield l vs).run P c.w=.ok (.round l fn tmps nr ec) c.w/\
  RoundIn Fence.wide 0 P l fn tmps nr ec c.w (λe w'=>∃c' x v H',e=.returned v/\c'.w=w'/\bm c' H'/\Ext c c'/\aK c' x v/\R x H')
theorem sJ.mono{P:Program}{l:Nat}{args:List I}{H:ab}{R R':I->ab->Prop}(h:sJ P l args H R)(J:∀x H',R x H'->R' x H'):sJ P l args H R':=
 λc vs hs U=>by obtain⟨fn,tmps,O,ec,h1,h2⟩:=h c vs hs U;exact⟨fn,tmps,O,ec,h1,h2.mono λ_ _ ⟨c',x,v,H',ax,S,aU,bf,T,V⟩=>⟨c',x,v,H',ax,S,aU,bf,T,J _ _ V⟩⟩
def kb(P:Program)(f:I)(args:List I)(H:ab)(R:I->ab->Prop):Prop:=
 match f with
 |.func (.func oG) first cap=>(jr P oG=true/\cV P oG (first++args++cap) H R)\/D0 P oG (first++args++cap) H R
 |.func (.yield l) [] []=>sJ P l args H R
 |_=>False
theorem kb.mono{P:Program}{f:I}{args:List I}{H:ab}{R R':I->ab->Prop}(h:kb P f args H R)(J:∀x H',R x H'->R' x H'):kb P f args H R':=by
 unfold kb at h ⊢;split at h
 ·rcases h with⟨h1,h2⟩|h1
  ·exact .inl ⟨h1,h2.mono J⟩
  ·exact .inr<|h1.mono J
 ·exact h.mono J
 ·exact h.elim
theorem zf{f:Operand}(U:o.op=.call ⟨.value f,xs,ts⟩)(h:kb P (ρ f) (xs.toList.map ρ) H R):pI P o ρ H R:=by
 intro r c a next Q hs hρ hk
 unfold kb at h;split at h
 ·rename_i oG first cap Z
  have O:=hρ f<|by grind [Op.operands,Call.operands]
  rw[Z]at O;generalize I:a.eval f=rv at O;cases O with
  |func _ _ _ v1 v2 S z AZ nZ=>
   obtain⟨jN,Jo⟩:=Bd λx J=>hρ x (by rw[U];simp only[Op.operands,Call.operands,DR,fH];exact .inr J)
   have gX:(execOp a.eval o).run P c.w=(callFunc oG (v1++xs.map a.eval++v2)).run P c.w:=by simp only[execOp,U,resolve,I,Deferred.ofValue,Sem.run_bind,Sem.run_pure,Result.andThen_ok,invoke]
   have V:qG c (first++xs.toList.map ρ++cap) (v1++xs.map a.eval++v2):=by
    refine⟨by simp[S,z,jN],λi x v g1 g2=>?_⟩
    by_cases h1:i<first.length
    ·rw[c6,jc h1]at g1;rw[G8,wQ gf]at g2;exact AZ _ _ _ g1 g2
    ·by_cases h2:i<first.length+(xs.toList.map ρ).length
     ·rw[c6,pH gf,jc gf]at g1;rw[G8,BD gf,wQ gf,S]at g2;exact Jo _ _ _ g1 g2
     ·rw[c6,pH gf,pH gf]at g1;rw[G8,BD gf,BD gf,S,jN]at g2;exact nZ _ _ _ g1 g2
   refine wA (zA<|by rw[U];simp) ?_
   rw[gX];rcases h with⟨bq,h⟩|h
   ·rw[Fp bq];refine⟨λh=>(p2 h),callsIn_wide.2 ?_⟩;refine(h c _ hs V).mono λe w' ⟨c',x,v,H',ax,T,aU,bf,b8,hv⟩=>?_;subst ax;subst T;exact hk c' x v H' aU bf b8 hv
   ·obtain⟨v,x,ax,T,aU⟩:=h c _ hs V;rw[ax];exact hk c x v H hs (Ext.refl c) T aU
 ·rename_i l Z;have O:=hρ f<|by rw[U];simp[Op.operands,Call.operands]
  rw[Z]at O;generalize I:a.eval f=rv at O;cases O with
  |func _ _ _ v1 v2 S z _ _=>
   obtain rfl:=tJ S;obtain rfl:=tJ z;have V:=Bd λx J=>hρ x (by rw[U];simp only[Op.operands,Call.operands,DR,fH];exact .inr J)
   obtain⟨fn,tmps,nr,ec,h1,h2⟩:=h c _ hs V;have gX:(execOp a.eval o).run P c.w=.ok (.round l fn tmps nr ec) c.w:=by simp only[execOp,U,resolve,I,Deferred.ofValue,Sem.run_bind,Sem.run_pure,Result.andThen_ok,invoke];simpa using h1
   refine wA (zA<|by rw[U];simp) ?_
   rw[gX];refine⟨λh=>(p2 h),RoundIn.mono h2 λe w' ⟨c',x,v,H',ax,T,aU,bf,b8,hv⟩=>?_⟩;subst ax;subst T;exact hk c' x v H' aU bf b8 hv
 ·exact h.elim
def wj(P:Program)(t:TypeId)(m:String):Option FuncId:=
 match P.info? t with
 |some i=>match i.methods.find? (·.name==m)with
  |some mt=>bif mt.path.isEmpty then
    match mt.func,P.underlying t with
    |some (f,true),some (.pointer _)=>some f
    |some (_,false),some (.pointer _)=>none
    |some (f,false),some _=>some f
    |_,_=>none
   else none
  |none=>none
 |none=>none
def sZ(P:Program)(m:String):I->I
 |.iface t v=>match wj P t m with
  |some f=>.func (.func f) [v] []
  |none=>.top
 |_=>.top
theorem aEp{t:TypeId}{m:String}(h:wj P t m=some f)(n:Nat)(v:Value)(w:World):(method (n+1) t v m).run P w=.ok (f,v) w:=by
 unfold wj at h;cases hi:P.info? t with
 |none=>rw[hi]at h;cases h
 |some i=>
  rw[hi]at h;simp only at h;cases hm:i.methods.find? (·.name==m)with
  |none=>rw[hm]at h;cases h
  |some mt=>
   rw[hm]at h;simp only at h;cases ad:mt.path.isEmpty with
   |false=>rw[ad]at h;cases h
   |true=>
    rw[ad]at h;have O:mt.path.toList=[]:=nP;split at h
    ·rename_i J e U hu;cases h;simp only[method,typeInfo,Sem.run_bind,run_program,Result.andThen_ok,hi,Sem.run_pure,hm,O,follow,U,receiverAt,run_underlying hu,Place.get]
    ·cases h
    ·rename_i J d S U hu;cases h;simp only[method,typeInfo,Sem.run_bind,run_program,Result.andThen_ok,hi,Sem.run_pure,hm,O,follow,U,receiverAt,run_underlying hu,Place.get]
    ·cases h
theorem Ge{r:Operand}{m:String}(U:o.op=.call ⟨.invoke r m,xs,ts⟩)(h:kb P (sZ P m<|ρ r) (xs.toList.map ρ) H R):pI P o ρ H R:=by
 intro Z c a next Q hs hρ hk
 unfold sZ at h;split at h
 ·rename_i t x J;cases hm:wj P t m with
  |none=>rw[hm]at h;exact h.elim
  |some I=>
   rw[hm]at h;have O:=hρ r<|by grind [Op.operands,Call.operands]
   rw[J]at O;generalize z:a.eval r=rv at O;cases O with
   |iface _ _ v aF=>
    obtain⟨jN,Jo⟩:=Bd λx J=>hρ x (by rw[U];simp only[Op.operands,Call.operands,DR,fH];exact .inr J)
    have S:(#[Value.iface t v]++xs.map a.eval).extract 1 (#[Value.iface t v]++xs.map a.eval).size=xs.map a.eval:=by
     apply Array.ext'
     simp[qy]
    have ay:(#[Value.iface t v]++xs.map a.eval)[0]?=some (.iface t v):=by rw[wQ hW];rfl
    have aPc:0<Made.depth:=ko;obtain⟨n,af⟩:∃n,P.types.size+Made.depth=n+1:=⟨P.types.size+Made.depth-1,gf⟩;have gX:(execOp a.eval o).run P c.w=(callFunc I (#[v]++xs.map a.eval)).run P c.w:=by simp only[execOp,U,resolve,z,Sem.run_bind,Sem.run_pure,Result.andThen_ok,invoke,ay,callMethod,run_program,af,aEp hm,S]
    have V:qG c ([x]++xs.toList.map ρ++[]) (#[v]++xs.map a.eval):=by
     refine⟨by simp[jN];omega,λi y u g1 g2=>?_⟩
     rw[cE]at g1;cases i with
     |zero=>rw[wQ hW]at g2;cases g1;cases g2;exact aF
     |succ i=>rw[mf,jb,vi]at g1;rw[BD hW]at g2;exact Jo i y u g1<|oq g2
    refine wA (zA<|by rw[U];simp) ?_
    rw[gX];rcases h with⟨bq,h⟩|h
    ·rw[Fp bq];refine⟨λh=>(p2 h),callsIn_wide.2 ?_⟩;refine(h c _ hs V).mono λe w' ⟨c',x,v,H',ax,T,aU,bf,b8,hv⟩=>?_;subst ax;subst T;exact hk c' x v H' aU bf b8 hv
    ·obtain⟨v,x,ax,T,aU⟩:=h c _ hs V;rw[ax];exact hk c x v H hs (Ext.refl c) T aU
 ·exact h.elim
theorem pI.mono(h:pI P o ρ H R)(J:∀x H',R x H'->R' x H'):pI P o ρ H R':=
 λr c a next Q hs hρ hk=>h r c a next Q hs hρ λc' x v H' h1 h2 h3 h4=>hk c' x v H' h1 h2 h3<|J _ _ h4
def DH:Value->Bool
 |.slice none 0 0=>true
 |_=>false
def Bm:Operand->Bool
 |.const v=>DH v
 |_=>false
def ny:BinOp->Bool
 |.eql=>true
 |_=>false
def Ie(P:Program)(t:TypeId):Bool:=
 match P.underlying t with
 |some (.slice _)=>true
 |_=>false
def Ig(P:Program)(t:TypeId)(H:ab)(x:I)(K:I->Prop):Prop:=
 match x with
 |.sl _ es=>Ie P t=true/\∀b:Bool,(es≠[]->b=false)->K (.bool b)
 |.osl s i v off len lc=>Ie P t=true/\mQ H (.osl s i v off len lc)/\∀b:Bool,(len≠0->b=false)->K (.bool b)
 |_=>False
theorem aFy{y:Operand}(h:Bm y=true):y=.const (.slice none 0 0):=by
 unfold Bm at h;split at h
 ·unfold DH at h;split at h
  ·rfl
  ·cases h
 ·cases h
theorem aFz{t e:TypeId}(hu:P.underlying t=some (.slice e))(x)(base)(len cap)(w):
  (do eqGuard .eql t x (.const<|.slice none 0 0) (.slice base len cap) (.slice none 0 0);binOp .eql t (.slice base len cap) (.slice none 0 0):Sem Value).run P w=.ok (.bool base.isNone) w:=by
 have key:∀d,(Op.equalIn (d+1) t (.slice base len cap) (.slice none 0 0)).run P w=.ok base.isNone w:=λd=>by cases base<;>simp[Op.equalIn,run_underlying hu]
 have J:(Op.equal t (.slice base len cap) (.slice none 0 0)).run P w=.ok base.isNone w:=key 9999;have U:(eqGuard .eql t x (.const<|.slice none 0 0) (.slice base len cap) (.slice none 0 0)).run P w=.ok () w:=rfl;simp[U,binOp,J,Sem.run_pure]
theorem aGu{K:I->Prop}{t t':TypeId}{x y:Operand}(U:o.op=.binOp op t x y t')(af:(ny op&&Bm y)=true)(h:Ig P t H (ρ x) K):
  pI P o ρ H (λv H'=>K v/\H'=H):=by
 intro r c a next Q hs hρ hk
 rw[dp]at af;have V:op=.eql:=by cases op<;>first|rfl|exact absurd af.1 ko
 subst V;obtain rfl:=aFy af.2;have J:=hρ x<|by rw[U];simp[Op.operands]
 have S:∀{e base len cap},P.underlying t=some (.slice e)->a.eval x=.slice base len cap->(execOp a.eval o).run P c.w=.ok (.value<|.bool base.isNone) c.w:=fun{e base len cap} hu he=>by
  have:=aFz hu x base len cap c.w;simp only[execOp,U,he];rw[show a.eval (.const<|.slice none 0 0)=.slice none 0 0 from rfl,Sem.run_bind,this]
  rfl
 unfold Ig at h;split at h
 ·rename_i f es O;obtain⟨h1,h2⟩:=h;rw[O]at J;have hu:∃e,P.underlying t=some (.slice e):=by
   unfold Ie at h1;split at h1
   ·rename_i e hu;exact⟨e,hu⟩
   ·cases h1
  obtain⟨e,hu⟩:=hu;obtain⟨base,len,cap,s,vs,he,g1,g2,g3,g4, -⟩:=J.qm;refine wA (zA<|by rw[U];simp) ?_
  rw[S hu he];refine hk c (.bool base.isNone) _ H hs (Ext.refl c) (.bool _) ⟨h2 _ λT=>?_,rfl⟩;obtain⟨z,Z, -⟩:=g4 T;rw[Z];rfl
 ·rename_i s i v off len lc O;obtain⟨h1,h3,h2⟩:=h;rw[O]at J;have hu:∃e,P.underlying t=some (.slice e):=by
   unfold Ie at h1;split at h1
   ·rename_i e hu;exact⟨e,hu⟩
   ·cases h1
  obtain⟨e,hu⟩:=hu;obtain⟨base,cap,he,g1,g2,g3,g4⟩:=J.l9<|xh hs h3;refine wA (zA<|by rw[U];simp) ?_
  rw[S hu he];refine hk c (.bool base.isNone) _ H hs (Ext.refl c) (.bool _) ⟨h2 _ λT=>?_,rfl⟩;cases hd:c.c0 i with
  |true=>have:=(g3 hd).1;omega
  |false=>rw[((g4 hd).1.resolve_left gf)];rfl
 ·exact h.elim
def DI:I->Bool
 |.bool b=>b
 |_=>false
def Nj:I->Bool
 |.bool _=>true
 |_=>false
theorem Yj{x:I}(h:Nj x=true):x=.bool (DI x):=by cases x<;>first|rfl|cases h
def cv(v:I)(want:Bool):Bool:=
 match v with
 |.bool b=>bif want then b else !b
 |.opt g x=>g&&(bif want then DI x else !DI x)
 |_=>false
def ja(v:I):Prop:=
 match v with
 |.bool _=>True
 |.opt g x=>g=true->Nj x=true
 |_=>False
def P7:I->I
 |.opt _ v=>v
 |v=>v
def LW(g:Bool):I->Prop
 |.opt Mx _=>g=true->Mx=true
 |_=>True
def aF2(all:List Oper)(j:Nat):Option Tmp:=(all[j]?).bind (·.dst)
def bV(α:a8):Option Tmp->I
 |some t=>look α t
 |none=>.top
def Em:I->Option (Bool×Bool)
 |.bool b=>some (true,b)
 |.opt g x=>some (g,DI x)
 |_=>none
def HX:I->Prop
 |.bool _=>True
 |.opt g x=>g=true->Nj x=true
 |_=>False
def kF(g:Bool)(c a b:I):h7:=
 match Em c,Em a,Em b with
 |some (gc,rR),some (aAA,x),some (xv,y)=>⟨.bool<|bif rR then x else y,(g=true->gc=true)/\(g=true->rR=true->aAA=true)/\(g=true->rR=false->xv=true)/\HX c/\HX a/\HX b⟩
 |_,_,_=>bad
theorem Ui{x:I}{v:Value}{g b:Bool}(h:Em x=some (g,b))(ag:HX x)(J:aK c x v)(U:g=true):v=.bool b:=by
 unfold Em at h;split at h
 ·simp at h;rw[h.2]at J;exact J.sT
 ·simp at h;cases J with
  |opt _ _ _ h1=>have h2:=h1<|h.1.trans U;rw[(Yj (ag<|h.1.trans U))]at h2;rw[<-h.2];exact h2.sT
 ·cases h
theorem Gf{x y z:Operand}{g:Bool}(U:o.op=.pick x y z)(O:g=true)(hs:(kF g (ρ x) (ρ y) (ρ z)).s):
  pI P o ρ H (λv H'=>v=(kF g (ρ x) (ρ y) (ρ z)).v/\H'=H):=by
 refine jH (hd:=zA<|by rw[U];simp) λc a S hρ=>?_
 have J:=hρ x<|by rw[U];simp[Op.operands]
 have T:=hρ y<|by rw[U];simp[Op.operands]
 have V:=hρ z<|by rw[U];simp[Op.operands]
 have Z:∀rR,a.eval x=.bool rR->(execOp a.eval o).run P c.w=.ok (.value<|if rR then a.eval y else a.eval z) c.w:=by grind [execOp,asBool,Sem.run_bind,Sem.run_pure,Result.andThen_ok]
 unfold kF at *;split at hs
 ·rename_i gc rR I aW xv bA ax aq aU;refine⟨c,_,Z rR<|Ui ax hs.2.2.2.1 J (hs.1 O),S,Ext.refl c,?_⟩;cases rR
  ·rw[ar hW,Ui aU hs.2.2.2.2.2 V<|hs.2.2.1 O rfl];exact .bool _
  ·rw[aC rfl,Ui aq hs.2.2.2.2.1 T<|hs.2.1 O rfl];exact .bool _
 ·exact hs.elim
def bQ:List Oper->Nat->Option Tmp
 |[],_=>none
 |o::_,0=>o.dst
 |_::os,n+1=>bQ os n
theorem aKl(l:List Oper)(j:Nat):bQ l j=(l[j]?).bind (·.dst):=by
 induction l generalizing j with
 |nil=>rfl
 |cons o os J=>cases j with
  |zero=>rfl
  |succ n=>simpa[bQ]using J n
def ly(g:Bool)(α:a8):List Operand->Prop
 |[]=>True
 |x::xs=>LW g (bn α x)/\ly g α xs
def dF(α:a8)(x:Operand):I:=P7<|bn α x
def tu(P:Program)(g:Bool)(f:I)(xs:List I)(H:ab)(K:I->Prop):Prop:=
 ∃v,(g=true->kb P f xs H (λdG H'=>dG=v/\H'=H))/\K v
def oR(P:Program)(f:I)(xs:List I)(H:ab)(K:I->ab->Prop):Prop:=kb P f xs H K
def En(P:Program)(g:Bool)(f:I)(xs:List I)(H:ab)(K:I->ab->Prop):Prop:=
 tu P g f xs H (λv=>K v H)\/(g=true/\oR P f xs H K)
def gE(P:Program)(all:List Oper):List Oper->a8->ab->(a8->ab->Prop)->Prop
 |[],α,H,k=>k α H
 |⟨dst,op,_,_,_,guard⟩::os,α,H,k=>
  match guard,op with
  |none,.pick x y z=>(kF true (bn α x) (bn α y) (bn α z)).s/\gE P all os (cP dst (kF true (bn α x) (bn α y)<|bn α z).v α) H k
  |none,.call ⟨.value f,xs,_⟩=>oR P (bn α f) (xs.toList.map (bn α)) H λv H'=>gE P all os (cP dst v α) H' k
  |none,.call ⟨.invoke r m,xs,_⟩=>oR P (sZ P m (bn α r)) (xs.toList.map (bn α)) H λv H'=>gE P all os (cP dst v α) H' k
  |none,.next it false=>L1 (bn α it) H λv H'=>gE P all os (cP dst v α) H' k
  |none,.binOp op t x y t'=>bif ny op&&Bm y then Ig P t H (bn α x) (λv=>gE P all os (cP dst v α) H k)
    else(cr P (.binOp op t x y t') (bn α) H).s/\gE P all os (cP dst (cr P (.binOp op t x y t') (bn α) H).v α) (cr P (.binOp op t x y t') (bn α) H).H k
  |none,op=>(cr P op (bn α) H).s/\gE P all os (cP dst (cr P op (bn α) H).v α) (cr P op (bn α) H).H k
  |some (j,want),.pick x y z=>
   ja (bV α<|bQ all j)/\((cv (bV α<|bQ all j) want)=true->(kF (cv (bV α<|bQ all j) want) (bn α x) (bn α y) (bn α z)).s)/\
    gE P all os (cP dst (.opt (cv (bV α<|bQ all j) want) (kF (cv (bV α (bQ all j)) want) (bn α x) (bn α y)<|bn α z).v) α) H k
  |some (j,want),.call ⟨.value f,xs,_⟩=>
   ja (bV α<|bQ all j)/\ly (cv (bV α<|bQ all j) want) α (f::xs.toList)/\
    En P (cv (bV α<|bQ all j) want) (dF α f) (xs.toList.map<|dF α) H (λv H=>gE P all os (cP dst (.opt (cv (bV α<|bQ all j) want) v) α) H k)
  |some (j,want),.call ⟨.invoke r m,xs,_⟩=>
   ja (bV α<|bQ all j)/\ly (cv (bV α<|bQ all j) want) α (r::xs.toList)/\
    En P (cv (bV α<|bQ all j) want) (sZ P m<|dF α r) (xs.toList.map<|dF α) H (λv H=>gE P all os (cP dst (.opt (cv (bV α<|bQ all j) want) v) α) H k)
  |some (j,want),op=>
   ja (bV α<|bQ all j)/\ly (cv (bV α<|bQ all j) want) α op.operands.toList/\((cv (bV α<|bQ all j) want)=true->(cr P op (dF α) H).s/\(cr P op (dF α) H).H=H)/\
    gE P all os (cP dst (.opt (cv (bV α<|bQ all j) want) (cr P op (dF α) H).v) α) H k
def ib(P:Program)(all:List Oper)(H:ab):List Oper->a8->(a8->Prop)->Prop
 |[],α,k=>k α
 |⟨dst,op,_,_,_,guard⟩::os,α,k=>
  match guard,op with
  |none,.pick x y z=>(kF true (bn α x) (bn α y) (bn α z)).s/\ib P all H os (cP dst (kF true (bn α x) (bn α y)<|bn α z).v α) k
  |none,.call ⟨.value f,xs,_⟩=>tu P true (bn α f) (xs.toList.map (bn α)) H λv=>ib P all H os (cP dst v α) k
  |none,.call ⟨.invoke r m,xs,_⟩=>tu P true (sZ P m (bn α r)) (xs.toList.map (bn α)) H λv=>ib P all H os (cP dst v α) k
  |none,op=>(cr P op (bn α) H).s/\(cr P op (bn α) H).H=H/\ib P all H os (cP dst (cr P op (bn α) H).v α) k
  |some (j,want),.pick x y z=>
   ja (bV α<|bQ all j)/\((cv (bV α<|bQ all j) want)=true->(kF (cv (bV α<|bQ all j) want) (bn α x) (bn α y) (bn α z)).s)/\
    ib P all H os (cP dst (.opt (cv (bV α<|bQ all j) want) (kF (cv (bV α (bQ all j)) want) (bn α x) (bn α y)<|bn α z).v) α) k
  |some (j,want),.call ⟨.value f,xs,_⟩=>
   ja (bV α<|bQ all j)/\ly (cv (bV α<|bQ all j) want) α (f::xs.toList)/\
    tu P (cv (bV α<|bQ all j) want) (dF α f) (xs.toList.map<|dF α) H (λv=>ib P all H os (cP dst (.opt (cv (bV α<|bQ all j) want) v) α) k)
  |some (j,want),.call ⟨.invoke r m,xs,_⟩=>
   ja (bV α<|bQ all j)/\ly (cv (bV α<|bQ all j) want) α (r::xs.toList)/\
    tu P (cv (bV α<|bQ all j) want) (sZ P m<|dF α r) (xs.toList.map<|dF α) H (λv=>ib P all H os (cP dst (.opt (cv (bV α<|bQ all j) want) v) α) k)
  |some (j,want),op=>
   ja (bV α<|bQ all j)/\ly (cv (bV α<|bQ all j) want) α op.operands.toList/\((cv (bV α<|bQ all j) want)=true->(cr P op (dF α) H).s/\(cr P op (dF α) H).H=H)/\
    ib P all H os (cP dst (.opt (cv (bV α<|bQ all j) want) (cr P op (dF α) H).v) α) k
def ea(P:Program)(N:Nat)(ops:Array Oper)(H:ab)(o:Oper)(α:a8)(R:I->ab->Prop):Prop:=
 ∀(r:Option Nat) (c:Ctx) (a:Act) (next:Act->World->Prop) (Q:Exit->Act->World->Prop),bm c H->a.tmps.size=N->(∀t∈o.looksAt ops,aK c (look α t)<|a.tmps.getD t undef)->
  (∀c' x v H',bm c' H'->Ext c c'->aK c' x v->R x H'->next (a.put o.dst v) c'.w)->
  if Region.wanted o (yielded ops a.tmps)then o.wpIn (wf r) 0 P a c.w next Q else next (a.put o.dst undef) c.w
theorem pR{x:Operand}(h:∀t,x=.tmp t->aK c (look α t) (a.tmps.getD t undef)):aK c (bn α x) (a.eval x):=by
 cases x with
 |tmp t=>exact h t rfl
 |const v=>exact Qt c v
 |global g=>exact .top _
 |func f=>exact .func _ [] [] _ _ rfl rfl hW hW
theorem pP{t:Nat}(h:Operand.tmp t∈o.op.operands.toList):t∈o.looksAt ops:=by unfold Oper.looksAt;grind
theorem ea.oa(U:o.guard=none)(h:pI P o (bn α) H R):ea P N ops H o α R:=by
 intro r c a next Q hs hsz hl hk
 rw[aC (by unfold Region.wanted;rw[U])]
 exact h r c a next Q hs (λx J=>pR λt ag=>hl t<|pP j9) hk
theorem Tx(S:o.guard=some (j,want))(hl:∀t∈o.looksAt ops,aK c (look α t)<|a.tmps.getD t undef)
  (J:ja (bV α<|bQ ops.toList j)):Region.wanted o (yielded ops a.tmps)=cv (bV α<|bQ ops.toList j) want:=by
 have af:bQ ops.toList j=(ops[j]?).bind (·.dst):=by rw[aKl,vm]
 rw[af]at J ⊢;unfold Region.wanted;rw[S];simp only;unfold yielded;cases hd:(ops[j]?).bind (·.dst)with
 |none=>rw[hd]at J;exact J.elim
 |some t=>
  rw[hd]at J;simp only[bV]at J ⊢;have O:=hl t (by
   unfold Oper.looksAt;rw[S];simp only;rw[hd];simp)
  have key:∀b,a.tmps.getD t undef=.bool b->a.tmps[t]?=some (.bool b):=by
   intro b U;rw[He]at U;cases ag:a.tmps[t]? with
   |none=>rw[ag]at U;simp[undef]at U
   |some v=>rw[ag]at U;simpa using U
  generalize look α t=T at O J ⊢;unfold ja at J;split at J
  ·rename_i b;have h1:=key b O.sT;simp only[e6,h1,cv];cases b<;>cases want<;>rfl
  ·rename_i g x;cases O with
   |opt _ _ _ h1 h2=>
    cases g with
    |true=>have h4:=h1 rfl;rw[Yj (J rfl)]at h4;simp only[e6,(key (DI x) h4.sT),cv];generalize DI x=b;cases b<;>cases want<;>rfl
    |false=>
     have h3:=h2 rfl;rw[He]at h3;simp only[e6,cv,Bool.false_and];cases ag:a.tmps[t]? with
     |none=>simp
     |some v=>rw[ag]at h3;subst h3;simp[undef]
  ·exact J.elim
theorem sV{g:Bool}{α:a8}:∀{xs:List Operand},ly g α xs->∀x∈xs,LW g (bn α x)
 |[],_,_,J=>j9
 |y::ys,h,x,J=>by
  cases J with
  |head=>exact h.1
  |tail _ hm=>exact sV h.2 x hm
theorem uo{g:Bool}{x:I}{v:Value}(h:aK c x v)(J:LW g x)(U:g=true):aK c (P7 x) v:=by
 cases x with
 |opt O y=>
  cases h with
  |opt _ _ _ h1=>exact h1<|J U
 |_=>exact h
theorem ea.wz{v:I}(O:o.guard=some (j,want))(S:ja (bV α<|bQ ops.toList j))
  (ρ) (hρ:∀(c) (a:Act),cv (bV α<|bQ ops.toList j) want=true->(∀t∈o.looksAt ops,aK c (look α t)<|a.tmps.getD t undef)->∀x∈o.op.operands.toList,aK c (ρ x)<|a.eval x)
  (h:cv (bV α<|bQ ops.toList j) want=true->pI P o ρ H (λJ H'=>J=v/\H'=H)):ea P N ops H o α (λJ H'=>J=.opt (cv (bV α<|bQ ops.toList j) want) v/\H'=H):=by
 intro r c a next Q hs hsz hl hk
 rw[Tx O hl S];cases U:cv (bV α<|bQ ops.toList j) want with
 |true=>
  refine h U r c a next Q hs (hρ c a U hl) λc' x J H' h1 h2 h3 h4=>?_
  obtain⟨rfl,rfl⟩:=h4;exact hk c' _ J _ h1 h2 (.opt _ _ _ (λ_=>h3) λh=>j9) ⟨rfl,rfl⟩
 |false=>exact hk c _ undef H hs (Ext.refl c) (.opt _ _ _ (λh=>j9) λ_=>rfl) ⟨rfl,rfl⟩
theorem ea.aCC(O:o.guard=some (j,want))(S:ja (bV α<|bQ ops.toList j))(U:cv (bV α<|bQ ops.toList j) want=true)
  (ρ) (hρ:∀(c) (a:Act),cv (bV α<|bQ ops.toList j) want=true->(∀t∈o.looksAt ops,aK c (look α t)<|a.tmps.getD t undef)->∀x∈o.op.operands.toList,aK c (ρ x)<|a.eval x)
  (h:pI P o ρ H (λJ H'=>K (.opt true J) H')):ea P N ops H o α K:=by
 intro r c a next Q hs hsz hl hk
 rw[Tx O hl S,U];exact h r c a next Q hs (hρ c a U hl) λc' x J H' h1 h2 h3 h4=>hk c' _ J H' h1 h2 (.opt _ _ _ (λ_=>h3) λh=>j9) h4
theorem ea.mono(h:ea P N ops H o α R)(J:∀x H',R x H'->R' x H'):ea P N ops H o α R':=
 λr c a next Q h1 h2 h3 hk=>h r c a next Q h1 h2 h3 λc' x v H' k1 k2 k3 k4=>hk c' x v H' k1 k2 k3<|J _ _ k4
theorem Vu{k:a8->ab->Prop}(h:gE P ops.toList (o::os) α H k):
  ea P N ops H o α (λv H'=>gE P ops.toList os (cP o.dst v α) H' k):=by
 obtain⟨dst,op,ty,pos,after,guard⟩:=o;unfold gE at h;split at h
 ·rename_i x y z;exact(ea.oa rfl ((Gf rfl rfl h.1))).mono λv H' ⟨ax,O⟩=>by subst ax;subst O;exact h.2
 ·rename_i f xs ts;exact ea.oa rfl<|zf rfl h
 ·rename_i f m xs ts;exact ea.oa rfl<|Ge rfl h
 ·rename_i it;exact ea.oa rfl<|aFx rfl h
 ·rename_i op t x y t';cases af:ny op&&Bm y with
  |true=>rw[af,tM]at h;exact(ea.oa rfl (aGu rfl af h)).mono λv H' ⟨ax,O⟩=>by subst O;exact ax
  |false=>rw[af,vn]at h;exact(ea.oa rfl (yP h.1)).mono λv H' ⟨ax,O⟩=>by subst ax;subst O;exact h.2
 ·rename_i T _ _;exact(ea.oa rfl (yP h.1)).mono λv H' ⟨ax,O⟩=>by subst ax;subst O;exact h.2
 ·rename_i j want x y z;obtain⟨h1,h2,h3⟩:=h;exact(ea.wz rfl h1 (bn α) (λc a _ hl x J=>pR λt ag=>hl t<|pP (by subst ag;exact J))
   (λU=>Gf rfl U<|h2 U)).mono λv H' ⟨ax,O⟩=>by subst ax;subst O;exact h3
 ·rename_i j want f xs ts;obtain⟨h1,h2,⟨v,h3,h4⟩|⟨S,h⟩⟩:=h
  rotate_left
  ·refine ea.aCC rfl h1 S (dF α) (λc a U hl x J=>uo (pR λt ag=>hl t<|pP (by subst ag;exact J)) (sV h2 x<|by simpa[Op.operands,Call.operands]using J) U) ?_
   rw[S]at h;exact zf rfl h
  refine(ea.wz rfl h1 (dF α) (λc a U hl x J=>uo (pR λt ag=>hl t<|pP (by subst ag;exact J)) (sV h2 x<|by simpa[Op.operands,Call.operands]using J) U)
   (λU=>zf rfl<|h3 U)).mono λv H' ⟨ax,O⟩=>by subst ax;subst O;exact h4
 ·rename_i j want f m xs ts;obtain⟨h1,h2,⟨v,h3,h4⟩|⟨S,h⟩⟩:=h
  rotate_left
  ·refine ea.aCC rfl h1 S (dF α) (λc a U hl x J=>uo (pR λt ag=>hl t<|pP (by subst ag;exact J)) (sV h2 x<|by simpa[Op.operands,Call.operands]using J) U) ?_
   rw[S]at h;exact Ge rfl h
  refine(ea.wz rfl h1 (dF α) (λc a U hl x J=>uo (pR λt ag=>hl t<|pP (by subst ag;exact J)) (sV h2 x<|by simpa[Op.operands,Call.operands]using J) U)
   (λU=>Ge rfl<|h3 U)).mono λv H' ⟨ax,O⟩=>by subst ax;subst O;exact h4
 ·obtain⟨h1,h2,h3,h4⟩:=h;refine ea.mono (ea.wz (v:=(cr P op (dF α) H).v) rfl h1 (dF α) (λc a U hl x J=>uo (pR λt ag=>hl t<|pP (by subst ag;exact J)) (sV h2 x J) U)
   (λU=>(yP (h3 U).1).mono λv H' ⟨ax,O⟩=>⟨ax,O.trans (h3 U).2⟩)) λv H' ⟨ax,O⟩=>by subst ax;subst O;exact h4
theorem aEq{k:a8->Prop}(h:ib P ops.toList H (o::os) α k):
  ∃v,ea P N ops H o α (λS H'=>S=v/\H'=H)/\ib P ops.toList H os (cP o.dst v α) k:=by
 obtain⟨dst,op,ty,pos,after,guard⟩:=o;unfold ib at h;split at h
 ·rename_i x y z;exact⟨_,ea.oa rfl<|Gf rfl rfl h.1,h.2⟩
 ·rename_i f xs ts;obtain⟨v,h1,h2⟩:=h;exact⟨v,ea.oa rfl<|zf rfl (h1 rfl),h2⟩
 ·rename_i f m xs ts;obtain⟨v,h1,h2⟩:=h;exact⟨v,ea.oa rfl<|Ge rfl (h1 rfl),h2⟩
 ·exact⟨_,(ea.oa rfl (yP h.1)).mono λv H' ⟨ax,O⟩=>⟨ax,O.trans h.2.1⟩,h.2.2⟩
 ·obtain⟨h1,h2,h3⟩:=h;exact⟨_,ea.wz rfl h1 (bn α) (λc a _ hl x J=>pR λt ag=>hl t<|pP (by subst ag;exact J))
   (λU=>Gf rfl U<|h2 U),h3⟩
 ·obtain⟨h1,h2,v,h3,h4⟩:=h;exact⟨_,ea.wz rfl h1 (dF α) (λc a U hl x J=>uo (pR λt ag=>hl t<|pP (by subst ag;exact J)) (sV h2 x<|by simpa[Op.operands,Call.operands]using J) U)
   (λU=>zf rfl<|h3 U),h4⟩
 ·obtain⟨h1,h2,v,h3,h4⟩:=h;exact⟨_,ea.wz rfl h1 (dF α) (λc a U hl x J=>uo (pR λt ag=>hl t<|pP (by subst ag;exact J)) (sV h2 x<|by simpa[Op.operands,Call.operands]using J) U)
   (λU=>Ge rfl<|h3 U),h4⟩
 ·obtain⟨h1,h2,h3,h4⟩:=h;exact⟨_,ea.wz rfl h1 (dF α) (λc a U hl x J=>uo (pR λt ag=>hl t<|pP (by subst ag;exact J)) (sV h2 x J) U)
   (λU=>(yP (h3 U).1).mono λv H' ⟨ax,O⟩=>⟨ax,O.trans (h3 U).2⟩),h4⟩
def tn(N:Nat)(ops:Array Oper):Bool:=ops.toList.all λo=>It N o.dst
abbrev vq(N:Nat)(c:Ctx)(Q:c3):Exit->Act->World->Prop:=λe cQ w'=>∃c' ct H',c'.w=w'/\bm c' H'/\Ext c c'/\iM c' N ct cQ/\Q e ct H'
theorem aDq{r:Option Nat}{N:Nat}{ops:Array Oper}{Q:c3}(hd:tn N ops=true)(U:Ctx):∀(os:List Oper) (k:Nat) (α:a8) (H:ab) (c:Ctx) (a:Act),(∀i,os[i]?=ops[k+i]?)->bm c H->Ext U c->iM c N α a->
  gE P ops.toList os α H (λV H'=>Q .normal V H')->wpOpsIn (wf r) 0 P ops (vq N U Q) (List.range' k os.length) a c.w
 |[],k,α,H,c,a,_,hs,J,O,h=>⟨c,α,H,rfl,hs,J,O,h⟩
 |o::os,k,α,H,c,a,T,hs,J,O,h=>by
  have ay:=by simpa using(T 0).symm
  simp[BH,wpOpsIn,ay];have S:=Vu h r c a (wpOpsIn (wf r) 0 P ops (vq N U Q)<|List.range' (k+1) os.length) (vq N U Q) hs O.size (λt _=>O.rep t) λc' x v H' h1 h2 h3 h4=>aDq hd U os (k+1) _ H' c' _ (λi=>by have:=T<|i+1;grind) h1 (J.trans h2) ((O.mono h2).put (fu.1 hd o j9) h3) h4
  by_cases hw:Region.wanted o (yielded ops a.tmps)=true
  ·rw[aC hw]at S ⊢;exact S
  ·rw[ar hw]at S ⊢;exact⟨λ_ _=>trivial,S⟩
theorem uu(hd:tn N ops=true)(h:gE P ops.toList ops.toList α H (λJ H'=>Q .normal J H')):cF P N (.region id ops false) Q α H:=by intro r c a _ hs U;refine wpIn_region ?_;have:=aDq (r:=r) hd c ops.toList 0 α H c a hW hs (Ext.refl c) U h;rw[KQ];grind
section draw
variable {N:Nat} {ops:Array Oper} {H:ab}
def GM(P:Program)(N:Nat)(ops:Array Oper)(H:ab)(i:Nat)(K:a8->Prop)(α:a8):Prop:=
 match ops[i]? with
 |none=>K α
 |some o=>∃v,ea P N ops H o α (λdG H'=>dG=v/\H'=H)/\K (cP o.dst v α)
def Cc(P:Program)(N:Nat)(ops:Array Oper)(H:ab)(K:a8->Prop):Nat->Array Bool->a8->Prop
 |0,listed,α=>Region.ready .any ops listed=[]/\K α
 |fuel+1,listed,α=>(Region.ready .any ops listed=[]->K α)/\∀i∈Region.ready .any ops listed,GM P N ops H i (Cc P N ops H K fuel<|listed.setIfInBounds i true) α
def Alike(α β:a8):Prop:=∀t,look α t=look β t
theorem Alike.put(h:Alike α β)(d)(v):Alike (cP d v α) (cP d v β):=by
 cases d with
 |none=>exact h
 |some d=>intro t;simp[cP,look];cases d==t<;>simp[h t]
theorem ea.alike(J:Alike α β)(h:ea P N ops H o α R):ea P N ops H o β R:=
 λr c a next Q h1 h2 h3 hk=>h r c a next Q h1 h2 (λt ag=>by rw[J t];exact h3 t ag) hk
theorem TS{K:a8->Prop}(bL:∀α β,Alike α β->K α->K β):∀(n:Nat) (listed:Array Bool) (α β:a8),Alike α β->Cc P N ops H K n listed α->Cc P N ops H K n listed β
 |0,_,_,_,J,h=>⟨h.1,bL _ _ J h.2⟩
 |n+1,listed,α,β,J,h=>by
  refine⟨λay=>bL _ _ J<|h.1 ay,λi hi=>?_⟩
  have:=h.2 i hi;unfold GM at this ⊢;split
  ·rename_i U;simp[U]at this;exact TS bL n _ _ _ J this
  ·rename_i o U;simp[U]at this;obtain⟨v,h1,h2⟩:=this;exact⟨v,h1.alike J,TS bL n _ _ _ (J.put _ _) h2⟩
theorem S9{r:Option Nat}{Q:Exit->Act->World->Prop}{K:a8->Prop}(hd:tn N ops=true)(O:Ctx)(bL:∀α c a,K α->bm c H->Ext O c->iM c N α a->Q .normal a c.w):
  ∀(n:Nat) (listed:Array Bool) (α:a8) (c:Ctx) (a:Act),bm c H->Ext O c->iM c N α a->Cc P N ops H K n listed α->wpAnyIn (wf r) 0 P .any ops Q n listed a c.w
 |0,_,_,_,_,hs,J,U,h=>⟨h.1,bL _ _ _ h.2 hs J U⟩
 |n+1,listed,α,c,a,hs,J,U,h=>by
  refine⟨λay=>bL _ _ _ (h.1 ay) hs J U,λi hi=>?_⟩;have h1:=h.2 i hi;unfold GM at h1;unfold wpOpIn;split
  ·rename_i S;simp[S]at h1;exact S9 hd O bL n _ _ _ _ hs J U h1
  ·rename_i o S;simp[S]at h1;obtain⟨v,T,hk⟩:=h1;have:=T r c a (wpAnyIn (wf r) 0 P .any ops Q n<|listed.setIfInBounds i true) Q hs U.size (λt _=>U.rep t) λc' x Z H' g1 g2 g3 g4=>by
    obtain⟨ax,V⟩:=g4;rw[V]at g1;rw[ax]at g3;exact S9 hd O bL n _ _ _ _ g1 (J.trans g2) ((U.mono g2).put (fu.1 hd o j9) g3) hk
   by_cases hw:Region.wanted o (yielded ops a.tmps)=true
   ·rw[aC hw]at this ⊢;exact this
   ·rw[ar hw]at this ⊢;exact⟨λ_ _=>trivial,this⟩
theorem Nu{d:Option Tmp}{v:I}{t:Nat}(h:∀x,d=some x->x≠t):look (cP d v α) t=look α t:=by
 cases d with
 |none=>rfl
 |some d=>have J:(d==t)=false:=j9
          simp[cP,look,J]
theorem ea.aRS{v:I}(h:ea P N ops H gZ α (λU H'=>U=v/\H'=H))(O:∀d,j5.dst=some d->d∉gZ.looksAt ops):ea P N ops H gZ (cP j5.dst u α) (λU H'=>U=v/\H'=H):=
 λr c a next Q h1 h2 h3 hk=>h r c a next Q h1 h2 (λt ag=>by have:=h3 t ag;rwa[Nu λx J e=>O x J<|e▸ag]at this) hk
theorem ea.aSF{v:I}(h:ea P N ops H gZ (cP j5.dst u α) (λU H'=>U=v/\H'=H))(O:∀d,j5.dst=some d->d∉gZ.looksAt ops):ea P N ops H gZ α (λU H'=>U=v/\H'=H):=
 λr c a next Q h1 h2 h3 hk=>h r c a next Q h1 h2 (λt ag=>by
  rw[Nu λx J e=>O x J<|e▸ag]
  exact h3 t ag) hk
theorem IJ{x y:Option Tmp}{v:I}(h:∀d,x=some d->y≠some d):Alike (cP y u<|cP x v α) (cP x v<|cP y u α):=by
 intro t;cases x with
 |none=>rfl
 |some d=>cases y with
  |none=>rfl
  |some e=>simp[cP,look];grind
theorem aEr{K:a8->Prop}(bL:∀α β,Alike α β->K α->K β){i:Nat}{v:I}(hi:ops[i]?=some gZ):
  ∀(fuel:Nat) (listed:Array Bool) (α:a8),
   (∀j j5,ops[j]?=some j5->j≠i->listed.getD j true=false->(∀e∈j5.after,Region.binds .any e=true->e.on≠i)->gZ.apart ops j5=true)->
   i∈Region.ready .any ops listed->ea P N ops H gZ α (λZ H'=>Z=v/\H'=H)->
   Cc P N ops H K fuel (listed.setIfInBounds i true) (cP gZ.dst v α)->Cc P N ops H K (fuel+1) listed α:=by
 have U:∀(K) (α),ea P N ops H gZ α (λZ H'=>Z=v/\H'=H)->K (cP gZ.dst v α)->GM P N ops H i K α:=by grind [GM]
 intro fuel;induction fuel with
 |zero=>
  intro listed α _ O T S;refine⟨λh=>(by rw[h]at O;cases O),λj V=>?_⟩
  by_cases J:j=i
  ·subst J;exact U _ _ T S
  ·have:=ready_mono V J;rw[S.1]at this;cases this
 |succ fuel aB=>
  intro listed α I4 O T S;refine⟨λh=>j9,λj V=>?_⟩;by_cases J:j=i
  ·subst J;exact U _ _ T S
  ·have h1:=S.2 j<|ready_mono V J;obtain⟨Jc,j5,Jj,fV⟩:=mem_ready.1 V;have tc:∀e∈j5.after,Region.binds .any e=true->e.on≠i:=λe he aa heq=>by
    have h1:=fV e he aa;have ay:=(mem_ready.1 O).1;rw[heq]at h1;rcases BJ i listed.size with z|z
    ·simp[z]at ay h1;rw[ay]at h1;cases h1
    ·simp[KN z]at h1
   obtain⟨cw,cL,dx⟩:=Oper.apart_spec<|I4 j j5 Jj J Jc tc;unfold GM at h1 ⊢;simp only[Jj]at h1 ⊢;obtain⟨u,F6,lJ⟩:=h1;refine⟨u,F6.aSF cw,?_⟩;have I5:∀k ok,ops[k]?=some ok->k≠i->(listed.setIfInBounds j true).getD k true=false->
     (∀e∈ok.after,Region.binds .any e=true->e.on≠i)->gZ.apart ops ok=true:=λk ok hk Jd Jr c9=>by
    refine I4 k ok hk Jd ?_ c9;by_cases CL:j=k
    ·subst CL;exact Jc
    ·rw[getD_set_ne true CL]at Jr;exact Jr
   refine aB (listed.setIfInBounds j true) _ I5 (ready_mono O<|ka J) (T.aRS dx) ?_;rw[KP _ _ J];exact TS bL _ _ _ _ (IJ cL) lJ
theorem WD{K:a8->Prop}(bL:∀α β,Alike α β->K α->K β):∀(l:List Oper) (k:Nat) (listed:Array Bool) (α:a8),(∀j,l[j]?=ops[k+j]?)->
  Region.lexFrom .any ops l.length k listed=true->ib P ops.toList H l α K->Cc P N ops H K l.length listed α
 |[],_,_,_,_,J,h=>⟨by simpa[Region.lexFrom]using J,h⟩
 |o::l,k,listed,α,hl,J,h=>by
  have ay:=by simpa using(hl 0).symm
  simp[Region.lexFrom]at J;obtain⟨⟨T,U⟩,O⟩:=J;obtain⟨v,S,hk⟩:=aEq h;exact aEr bL ay l.length listed α (Region.free_spec ay U) j9 S
   (WD bL l (k+1) _ _ (λj=>by have:=hl<|j+1;grind) O hk)
end draw
theorem yR{all:List Oper}{H:ab}{k k':a8->Prop}(hk:∀α,k α->k' α):∀(l:List Oper) (α:a8),ib P all H l α k->ib P all H l α k'
 |[],α,h=>hk α h
 |⟨dst,op,ty,pos,after,guard⟩::os,α,h=>by
  unfold ib at h ⊢;split at h
  ·exact⟨h.1,yR hk os _ h.2⟩
  ·obtain⟨v,h1,h2⟩:=h;exact⟨v,h1,yR hk os _ h2⟩
  ·obtain⟨v,h1,h2⟩:=h;exact⟨v,h1,yR hk os _ h2⟩
  ·exact⟨h.1,h.2.1,yR hk os _ h.2.2⟩
  ·exact⟨h.1,h.2.1,yR hk os _ h.2.2⟩
  ·obtain⟨h1,h2,v,h3,h4⟩:=h;exact⟨h1,h2,v,h3,yR hk os _ h4⟩
  ·obtain⟨h1,h2,v,h3,h4⟩:=h;exact⟨h1,h2,v,h3,yR hk os _ h4⟩
  ·exact⟨h.1,h.2.1,h.2.2.1,yR hk os _ h.2.2.2⟩
theorem S6(hm:P.follows .mixedOrders=true)(hd:tn N ops=true)(O:Region.lexB .any ops=true)
  (h:ib P ops.toList H ops.toList α (λJ=>Q .normal J H)):cF P N (.region id ops true) Q α H:=by
 intro r c a _ hs S;simp[Region.lexB]at O;refine wpIn_region_any hm ?_;have h1:ib P ops.toList H ops.toList α (λJ=>∃β,Alike J β/\Q .normal β H):=yR (λJ aM=>⟨J,λ_=>rfl,aM⟩) _ _ h;have h2:=WD (N:=N) (λα β U ⟨T,V,aM⟩=>⟨T,λt=>(U t).symm.trans<|V t,aM⟩)
  ops.toList 0 (Array.replicate ops.size false) α hW j9 h1
 have h3:=S9 (r:=r) (Q:=vq N c Q) hd c (λJ c' cQ ⟨β,U,aM⟩ Z I z=>⟨c',β,H,rfl,Z,I,z.weaken λt=>.inr (U t).symm,aM⟩)
  ops.toList.length (Array.replicate ops.size false) α c.draw a hs.draw (Ext.draw c) (S.mono<|Ext.draw c) h2
 exact h3
def mV:Nat->List I->a8
 |_,[]=>[]
 |k,x::xs=>(k,x)::mV (k+1) xs
theorem aDx(xs:List I)(k t:Nat):look (mV k xs) t=if k<=t then xs.getD (t-k) .top else .top:=by induction xs generalizing k<;>grind [mV,look]
def oX(P:Program)(α:a8)(H:ab):ResultVar->h7
 |.tmp t=>⟨look α t,True⟩
 |.cell a t=>An P t (look α a) H
def tj(P:Program)(α:a8)(H:ab):List ResultVar->Prop
 |[]=>True
 |r::rs=>(oX P α H r).s/\tj P α H rs
def tE:List I->I
 |[v]=>v
 |vs=>.aN vs
def qp(P:Program)(rs:List ResultVar)(R:I->ab->Prop):c3
 |.normal,α,H=>tj P α H rs/\R (tE<|rs.map λr=>(oX P α H r).v) H
 |.ret,α,H=>tj P α H rs/\R (tE<|rs.map λr=>(oX P α H r).v) H
 |_,_,_=>False
theorem aF3{t:TypeId}{x:I}(U:bm c H)(J:aK c x b4)(hs:(An P t x H).s):∃a,b4=.pointer (some a):=by
 unfold An at hs;split at hs
 ·exact J.aAh
 ·split at hs
  ·rename_i ba cs O;obtain⟨a,S, -⟩:=Ln J (by rw[hs.1];exact U.qw O) 0
   exact⟨a,S⟩
  ·exact hs.elim
 ·exact hs.elim
def LF(a:Act):ResultVar->Sem Value
 |.tmp t=>pure<|a.tmps.getD t undef
 |.cell b t=>do loadVar t (<-asAddr (a.tmps.getD b undef))
theorem aF4(hs:bm c H)(J:∀t,aK c (look α t)<|a.tmps.getD t undef)(r:ResultVar)(h:(oX P α H r).s):∃v,(LF a r).run P c.w=.ok v c.w/\aK c (oX P α H r).v v:=by
 cases r with
 |tmp t=>exact⟨_,rfl,J t⟩
 |cell b t=>obtain⟨U,iR⟩:=aF3 hs (J b) h;grind [Wn,LF,asAddr,Sem.run_bind,Sem.run_pure,Result.andThen_ok,Instr.loadAt,Instr.sureAddr,Ctx,Act,look,undef,ResultVar,oX]
theorem Vg{c:Ctx}{H:ab}{α:a8}{a:Act}(hs:bm c H)(J:∀t,aK c (look α t)<|a.tmps.getD t undef):∀rs:List ResultVar,tj P α H rs->∃vs:List Value,(rs.mapM (LF a)).run P c.w=.ok vs c.w/\vs.length=rs.length/\
   ∀(i:Nat) (x:I) (v:Value),(rs.map λr=>(oX P α H r).v)[i]?=some x->vs[i]?=some v->aK c x v
 |[],_=>⟨[],rfl,rfl,hW⟩
 |r::rs,h=>by
  obtain⟨vs,h1,h2,h3⟩:=Vg hs J rs h.2;obtain⟨v,g1,g2⟩:=aF4 hs J r h.1;refine⟨v::vs,?_,j9,λi x u hi hu=>?_⟩
  ·simp_all
  grind
theorem Ty{fn:Func}(hs:bm c H)(U:∀t,aK c (look α t)<|a.tmps.getD t undef)(h:tj P α H fn.results.toList):
  ∃v,(results fn a.tmps).run P c.w=.ok v c.w/\aK c (tE<|fn.results.toList.map λr=>(oX P α H r).v) v:=by
 obtain⟨vs,h1,h2,h3⟩:=Vg hs U fn.results.toList h;have O:(results fn a.tmps).run P c.w=.ok (if V:vs.toArray.size=1 then vs.toArray[0]else .tuple vs.toArray) c.w:=by
  have e:results fn a.tmps=(do
    let vs<-fn.results.mapM (LF a)
    pure (if h:vs.size=1 then vs[0]else .tuple vs)):=rfl
  rw[e];simp only[Sem.run_bind,Array.mapM_eq_mapM_toList,Sem.run_map,h1];rfl
 refine⟨_,O,?_⟩;by_cases hl:vs.length=1
 ·match vs,hl,h2,h3 with
  |[v],_,h2,h3=>
   have S:fn.results.toList.length=1:=gf
   match T:fn.results.toList,S with
   |[r],_=>rw[T]at h3;exact h3 0 _ _ rfl rfl
 ·rw[dif_neg (oq hl)];have:tE (fn.results.toList.map λr=>(oX P α H r).v)=.aN (fn.results.toList.map λr=>(oX P α H r).v):=by
   unfold tE;split
   ·rename_i v J;have:=b7 List.length J;simp at this;simp at h2;omega
   ·rfl
  rw[this];exact .aN _ _ (oq h2) λi x v hi J=>h3 i x v hi (oq J)
def Ctx.shut(c:Ctx)(D:Nat):Ctx:={c with w:=c.w.putObj D (.deferred none)}
theorem JX{D:Nat}(J:c.w.heap[D]?=some (.deferred<|some [])):zQ c (c.shut D) where
 n:=bh _
 st:=λ_ h=>h
 cell:=λa _=>by
  by_cases h:a.block=D
  ·simp[World.cell?,Ctx.shut,h,J,World.putObj_heap_same<|(qA.1 J).1]
  ·exact aDo<|World.putObj_heap_other h
 ba:=λ_ _=>bh _
 bo:=λi _ _=>⟨rfl,rfl,λ_=>by
  by_cases h:c.bo i=D
  ·simp[bsize,Ctx.shut,h,J,World.putObj_heap_same<|(qA.1 J).1]
  ·grind [bsize,Ctx.shut,World.putObj_heap_other]⟩
theorem bm.shut{c:Ctx}{H:ab}{D:Nat}(J:bm c H)(hs:c.hb D)(U:c.w.heap[D]?=some (.deferred<|some [])):bm (c.shut D) H where
 j0:=J.j0.n9<|JX U
 n:=J.n
 lt:=λi hi hd=>by have:=J.lt i hi hd;simpa[Ctx.shut]using this
 inj:=J.inj
 st:=λk hk=>by obtain⟨h1,h2⟩:=J.st k hk;exact⟨by simpa[Ctx.shut]using h1,h2⟩
 rep:=λi b hi=>by
  have O:=J.rep i b hi;refine O.n9 (JX U) (by rw[J.n];grind) (λ_ _ h=>h) rfl λhd=>World.putObj_heap_other ?_
  have hl:b.live:=by
   cases O with
   |gone S=>rw[hd]at S;cases S
   |_=>trivial
  exact(J.st D hs).2 i b hi hl hd
theorem Ext.shut{U c:Ctx}{T:ab}{D:Nat}(ay:bm U T)(J:Ext U c)(I:U.w.heap.size<=D)(V:c.w.heap[D]?=some (.deferred<|some [])):Ext U (c.shut D) where
 n:=J.n
 size:=by have:=J.size;simpa[Ctx.shut]using this
 st:=λb O=>⟨(J.st b O).1,(World.putObj_heap_other (λe=>oC<|(ay.st b O).1)).trans (J.st b O).2⟩
 ba:=J.ba
 bo:=λi hi he=>by obtain⟨Z,S,z⟩:=J.bo i hi he;refine⟨Z,S,λhd=>?_⟩;have:=((JX V).bo i (tI hi J.n) rfl).2.2<|S.trans hd;grind
 os:=J.os
 tape:=J.tape
 output:=J.output
 base:=J.base
theorem Jz{F:Fence}{n:Nat}{fn:Func}{tmps:Array Value}{R:Ending->World->Prop}{O:Ctx}{eD H:ab}{u:FrameMode}(hu:u≠.run)(br:List Deferred)(ay:bm O eD):∀(U:List Nat) (c:Ctx),bm c H->Ext O c->U.Nodup->
  (∀D∈U,O.w.heap.size<=D/\c.hb D/\c.w.heap[D]?=some (.deferred<|some []))->(∀c',bm c' H->Ext O c'->zQ c c'->(∀E,E∉U->c'.w.heap[E]?=c.w.heap[E]?)->LeavesInM F n P fn tmps R br u c'.w)->
  LeavesInM F n P fn tmps R ((U.map λD=>{target:=.collected D,args:= #[]})++br) u c.w
 |[],c,T,J,_,_,h=>h c T J ⟨bh _,λ_ h=>h,λ_ _=>rfl,λ_ _=>bh _,λ_ _ _=>⟨rfl,rfl,λ_=>rfl⟩⟩ λ_ _=>rfl
 |D::U,c,T,J,af,Z,h=>by
  obtain⟨yV,pU,S⟩:=Z D hW;refine⟨hu,.inl ⟨D,_,rfl,run_takeDeferred S,?_⟩⟩;have I:=tK.1 af;refine Jz hu br ay U (c.shut D) (T.shut pU S) (Ext.shut ay J yV S) I.2 (λE V=>?_) λc' g1 g2 g3 g4=>h c' g1 g2 ?_ λE V=>?_
  ·obtain⟨aL,aR,bC⟩:=Z E j9;exact⟨aL,aR,(World.putObj_heap_other (λe=>I.1 j9)).trans bC⟩
  ·have k:=JX S;exact⟨g3.n,g3.st,λa z=>(g3.cell a z).trans<|k.cell a z,g3.ba,λi hi he=>by obtain⟨cw,cL,dx⟩:=g3.bo i hi he;exact⟨cw,cL,λhd=>(dx hd).trans<|(k.bo i hi rfl).2.2 hd⟩⟩
  ·exact(g4 E λq=>V j9).trans<|World.putObj_heap_other λe=>V (by simp[e])
def Ctx.fG(c:Ctx)(b:Nat×List Deferred):Ctx:={c with base:=b}
theorem UZ(c)(b):zQ c (c.fG b):=⟨bh _,λ_ h=>h,λ_ _=>rfl,λ_ _=>bh _,λ_ _ _=>⟨rfl,rfl,λ_=>rfl⟩⟩
theorem bm.fG(h:bm c H)(b):bm (c.fG b) H:=
 ⟨h.j0,h.n,h.lt,h.inj,h.st,λi _ hi=>(h.rep i _ hi).n9 (UZ c b) (by rw[h.n];grind) (λ_ _ h=>h) rfl λ_=>rfl⟩
theorem aK.fG{x:I}{v:Value}(h:aK c x v)(b):aK (c.fG b) x v:=h.n9<|UZ c b
theorem F9{fn:Func}(z:P.funcs[f]?=some fn)(aa:fn.body=some code)(af:args.length<=fn.ntmps)
  (h:cF P fn.ntmps code (qp P fn.results.toList R) (mV 0 args) H):cV P f args H R:=by
 intro c vs hs ⟨hl,aw⟩;refine callsIn_wide.1<|callsIn_of_wp_marks (n:=0) z aa trivial ?_;have aG:iM (c.fG (c.w.heap.size,[])) fn.ntmps (mV 0 args) {tmps:=vs++Array.replicate (fn.ntmps-vs.size) undef,defers:=[]}:=by
  refine⟨nc,⟨bh _,[],rfl,hW,hW⟩,λt=>?_⟩;rw[aDx,aC<|cb _,Nat.sub_zero];by_cases ag:t<args.length
  ·have J:=dn ag;have S:vs[t]?=some (vs[t]'(by omega)):=lq gf
   rw[H5 _ _ _ _ J];have:(vs++Array.replicate (fn.ntmps-vs.size) undef).getD t undef=vs[t]'(by omega):=by rw[He,wQ gf,S];rfl
   rw[this];exact(aw t _ _ J S).fG _
  ·have:args.getD t .top=.top:=by rw[gg,wW gf];rfl
   rw[this];exact .top _
 refine wpIn_mono (h none (c.fG (c.w.heap.size,[])) _ (.inl rfl) (hs.fG (c.w.heap.size,[])) aG) λe T w' ⟨c',V,H',ax,aq,aU,bf,U⟩=>?_;subst ax;have key:∀{R':Prop},(tj P V H' fn.results.toList/\R (tE<|fn.results.toList.map λr=>(oX P V H' r).v) H')->
   LeavesInM Fence.wide 0 P fn T.tmps (λe w'=>∃c' x v H',e=.returned v/\c'.w=w'/\bm c' H'/\Ext c c'/\aK c' x v/\R x H') T.defers .returning c'.w:=by
  intro _ ⟨aL,aR⟩;obtain⟨kI,iN,AQ,iB,bR⟩:=bf.defers;have Z:=aU.base;rw[AQ,Z];refine Jz hW [] (hs.fG (c.w.heap.size,[])) iN c' aq aU iB (λD h=>?_) λo7 g1 g2 g3 _=>?_
  ·obtain⟨I,cL,dx⟩:=bR D h;exact⟨by rw[Z]at I;exact I,cL,dx⟩
  ·have O:=λt=>(bf.rep t).n9 g3;obtain⟨v,aS,aY⟩:=Ty g1 O aL;refine⟨v,aS,o7.fG c.base,_,v,H',rfl,rfl,g1.fG _,?_,aY.fG _,aR⟩;exact⟨g2.n,g2.size,g2.st,g2.ba,g2.bo,g2.os,g2.tape,g2.output,rfl⟩
 cases e<;>simp only[qp]at U;case normal=>exact key (R':=True) U
 case ret=>exact key (R':=True) U
inductive cN (n:Nat):I->Prop
 |int (k m):cN n (.int k m)
 |bool (b):cN n (.bool b)
 |str (s):cN n (.str s)
 |agg (cs:List I) (h:∀(i:Nat) (x:I),cs[i]?=some x->cN n x):cN n (.agg cs)
 |aN (cs:List I) (h:∀(i:Nat) (x:I),cs[i]?=some x->cN n x):cN n (.aN cs)
 |sl (full) (es:List I) (h:∀(k:Nat) (e:I) (j:Nat) (x:I),es[k]?=some e->e.cells[j]?=some x->cN n x):cN n (.sl full es)
 |cptr (cs:List I) (h:∀(i:Nat) (x:I),cs[i]?=some x->cN n x):cN n (.cptr cs)
 |ref (i v off) (h:i<n):cN n (.ref i v off)
 |osl (s i v off len lc) (h:i<n):cN n (.osl s i v off len lc)
 |dX:cN n .dX
 |map (i) (h:i<n):cN n (.map i)
 |iI:cN n .iI
 |iter (i) (h:i<n):cN n (.iter i)
 |func (fn) (fs cs:List I) (h1:∀(i:Nat) (x:I),fs[i]?=some x->cN n x) (h2:∀(i:Nat) (x:I),cs[i]?=some x->cN n x):cN n (.func fn fs cs)
 |ef:cN n .ef
 |iface (t x) (h:cN n x):cN n (.iface t x)
 |nilIface:cN n .nilIface
 |opt (g x) (h:g=true->cN n x):cN n (.opt g x)
 |top:cN n .top
theorem De{α β:Type}{l:List α}{a:Array β}(h:a.size=l.length){i:Nat}{x:α}(J:l[i]?=some x):∃v,a[i]?=some v:=by have:=(cu.1 J).1;simp_all
theorem aK.cl{x:I}{v:Value}(h:aK c x v):cN c.n x:=by
 induction h with
 |int k n _=>exact .int k n
 |bool b=>exact .bool b
 |str s _=>exact .str s
 |agg cs vs hl _ U=>exact .agg cs λi x J=>let⟨v,O⟩:=De hl J;U i x v J O
 |aN cs vs hl _ U=>exact .aN cs λi x J=>let⟨v,O⟩:=De hl J;U i x v J O
 |sl full es base len cap s vs _ _ _ _ _ _ _ U=>exact .sl full es U
 |cptr cs a vs _ _ _ _ U=>exact .cptr cs U
 |ref i v off val hi=>exact .ref i v off hi
 |osl s i v off len lc val hi=>exact .osl s i v off len lc hi
 |dX=>exact .dX
 |map i val hi=>exact .map i hi
 |iI=>exact .iI
 |iter i val hi=>exact .iter i hi
 |func fn fs cs z wM S T _ _ V Z=>exact .func fn fs cs (λi x J=>let⟨v,O⟩:=De S J;V i x v J O) (λi x J=>let⟨v,O⟩:=De T J;Z i x v J O)
 |ef=>exact .ef
 |iface t x v _ U=>exact .iface t x U
 |nilIface=>exact .nilIface
 |opt g x v _ _ U=>exact .opt g x U
 |top v=>exact .top
def Ctx.drop(c:Ctx)(n:Nat):Ctx:=
 {w:=c.w,n:=n,bo:=c.bo,ba:=c.ba,c0:=c.c0,hb:=λb=>c.hb b\/∃i,n<=i/\i<c.n/\c.c0 i=false/\c.bo i=b,base:=c.base}
theorem Laid.drop(h:Laid c)(n):Laid (c.drop n):=h.go (λ_ J=>.inl J) λ_ _=>rfl
theorem aK.drop{x:I}{v:Value}(h:aK c x v)(U:cN n x):aK (c.drop n) x v:=by
 induction h with
 |int k n T=>exact .int k n T
 |bool b=>exact .bool b
 |str s T=>exact .str s T
 |agg cs vs hl _ O=>cases U with|agg _ J=>exact .agg cs vs hl λi x v h1 h2=>O i x v h1 h2<|J i x h1
 |aN cs vs hl _ O=>cases U with|aN _ J=>exact .aN cs vs hl λi x v h1 h2=>O i x v h1 h2<|J i x h1
 |sl full es base len cap s vs h1 h2 h3 h4 b6 _ V O=>
  cases U with
  |sl _ _ J=>exact .sl full es base len cap s vs h1 h2 h3 (λaT=>let⟨a,ax,aq,aU,bf⟩:=h4 aT;⟨a,ax,aq,.inl aU,bf⟩) b6 (λk e j x g1 g2=>O k e j x g1 g2<|J k e j x g1 g2) V
 |cptr cs a vs h1 h2 h3 _ O=>cases U with|cptr _ J=>exact .cptr cs a vs h1 (.inl h2) h3 λj x g=>O j x g<|J j x g
 |ref i v off val hi Z S h=>cases U with|ref _ _ _ J=>exact .ref i v off val J Z S h
 |osl s i v off len lc val hi Z S V h1 h2=>cases U with|osl _ _ _ _ _ _ J=>exact .osl s i v off len lc val J Z S V h1 h2
 |dX=>exact .dX
 |map i val hi S h=>cases U with|map _ J=>exact .map i val J S h
 |iI=>exact .iI
 |iter i val hi S h=>cases U with|iter _ J=>exact .iter i val J S h
 |func fn fs cs rv wM aA kj _ _ wi uK=>cases U with|func _ _ _ g1 g2=>exact .func fn fs cs rv wM aA kj (λi x v h1 h2=>wi i x v h1 h2 (g1 i x h1)) λi x v h1 h2=>uK i x v h1 h2 (g2 i x h1)
 |ef=>exact .ef
 |iface t x v _ O=>cases U with|iface _ _ J=>exact .iface t x v<|O J
 |nilIface=>exact .nilIface
 |opt g x v _ h2 O=>cases U with|opt _ _ J=>exact .opt g x v (λz=>O z<|J z) h2
 |top v=>exact .top v
theorem Ext.drop{c':Ctx}(h:Ext c c'):Ext c (c'.drop c.n):=
 ⟨bh _,h.size,λb J=>⟨.inl (h.st b J).1,(h.st b J).2⟩,h.ba,h.bo,h.os,h.tape,h.output,h.base⟩
inductive cJ (n:Nat) (H:ab):I->I->Prop
 |cl (x:I) (h:cN n x):cJ n H x x
 |agg (cs br:List I) (hl:cs.length=br.length) (h:∀(i:Nat) (x y:I),cs[i]?=some x->br[i]?=some y->cJ n H x y):cJ n H (.agg cs) (.agg br)
 |aN (cs br:List I) (hl:cs.length=br.length) (h:∀(i:Nat) (x y:I),cs[i]?=some x->br[i]?=some y->cJ n H x y):cJ n H (.aN cs) (.aN br)
 |osl (s i v off len lc:Nat) (cs es:List I) (af:n<=i) (ak:az H i=.cells v cs) (hl:es.length=len) (hle:off+len * s<=cs.length) (hs:∀e∈es,e.cells.length=s)
   (h:∀(k j:Nat) (e x y:I),es[k]?=some e->e.cells[j]?=some y->cs[off+(k * s+j)]?=some x->cJ n H x y):cJ n H (.osl s i v off len lc) (.sl false es)
 |iface (t x y) (h:cJ n H x y):cJ n H (.iface t x) (.iface t y)
 |Kc (full:Bool) (es:List I) (h:cN n (.sl full es)):cJ n H (.sl full es) (.sl false es)
 |ref (i v off:Nat) (cs br:List I) (af:n<=i) (ak:az H i=.cells v cs) (hle:off+br.length<=cs.length) (h:∀(j:Nat) (x y:I),cs[off+j]?=some x->br[j]?=some y->cJ n H x y):cJ n H (.ref i v off) (.cptr br)
 |func (fn:Fn) (fs cs IG oD:List I) (aA:fs.length=IG.length) (ao:cs.length=oD.length) (h1:∀(i:Nat) (x y:I),fs[i]?=some x->IG[i]?=some y->cJ n H x y) (h2:∀(i:Nat) (x y:I),cs[i]?=some x->oD[i]?=some y->cJ n H x y):cJ n H (.func fn fs cs) (.func fn IG oD)
 |any (x:I):cJ n H x .top
theorem cJ.sound(Z:bm c H){x y:I}(h:cJ n H x y):∀{v:Value},aK c x v->aK (c.drop n) y v:=by
 induction h with
 |cl x h=>exact λU=>U.drop h
 |agg cs br hl _ O=>intro v U;obtain⟨vs,rfl,h1,h2⟩:=U.uh;refine .agg br vs gf λi y v S aF=>?_;grind
 |aN cs br hl _ O=>intro v U;obtain⟨vs,rfl,h1,h2⟩:=U.aDk;refine .aN br vs gf λi y v S aF=>?_;grind
 |osl s i v off len lc cs es af T hl hle hs _ O=>
  intro val U;have e0:=Z.qw T;obtain⟨base,cap,rfl,g1,IH,g2,g3⟩:=U.l9 e0;have bK:i<c.n:=by rw[Z.n];exact cZ T trivial
  cases hd:c.c0 i with
  |true=>obtain⟨rfl,rfl⟩:=g2 hd;have:=iL hl;subst this;exact .sl _ _ _ _ _ s (λ_ _=>undef) rfl (bh _) (λh=>p2 h) (λh=>absurd rfl h) hW hW gf
  |false=>
   obtain⟨cw,m,cL,dx⟩:=g3 hd;obtain⟨_,_,vs,e,bH,aa,pg,aA,CX⟩:=Z.cells T hd;refine .sl _ _ _ _ _ s (λk j=>vs.getD (off+(k * s+j)) undef) hl.symm gf (λh=>p2 h) (λaT=>?_) hs (λk x j y hk V=>?_) (oC U.Gz)
   ·have hlen:0<len:=by rw[<-hl];exact nH.2 aT
    have jL:=cw.resolve_left gf;refine⟨_,jL,rfl,.inr ⟨i,af,bK,hd,rfl⟩,λk j hk V=>?_⟩;have b6:=by have:(k+1) * s<=len * s:=wT s gf;rw[o2]at this;omega
    have z:off+(k * s+j)<vs.size:=gf;rw[pL];show(c.w.cell? _)=_;rw[Bz aa];simp[z]
   ·have eO:=(cu.1 hk).1;have nu:=(cu.1 V).1;have hsz:=hs x<|dy hk;have b6:=by
     have:(k+1) * s<=len * s:=wT s gf;rw[o2]at this;omega
    have ao:cs[off+(k * s+j)]?=some (cs[off+(k * s+j)]'(by omega)):=dn gf
    refine O k j x _ y hk V ao<|CX _ _ _ ao ?_;simp[show off+(k * s+j)<vs.size by omega]
 |iface t x y _ O=>
  intro v U;cases U with
  |iface _ _ dG aF=>exact .iface t y dG<|O aF
 |Kc full es h=>
  intro v U;have hd:=U.drop h;cases hd with
  |sl _ _ base len cap s vs h1 h2 h3 h4 b6 dP lE=>exact .sl false es base len cap s vs h1 h2 (λh=>p2 h) h4 b6 dP lE
 |ref i v off cs br af T hle _ O=>
  intro val U;have e0:=Z.qw T;have bK:i<c.n:=by rw[Z.n];exact cZ T trivial
  cases U with
  |ref _ _ _ _ _ _ _ hY=>
   obtain⟨hd,rfl⟩:=hY e0;obtain⟨_,_,vs,e,bH,aa,pg,aA,CX⟩:=Z.cells T hd;refine .cptr br _ (λj=>vs.getD (off+j) undef) rfl (.inr ⟨i,af,bK,hd,rfl⟩) (λj V=>?_) (λj y V=>?_)
   ·have z:off+j<vs.size:=gf;rw[pL];show(c.w.cell? _)=_;rw[Bz aa];simp[z]
   ·have nu:=(cu.1 V).1;have J:cs[off+j]?=some (cs[off+j]'(by omega)):=dn gf
    refine O j _ y J V<|CX _ _ _ J ?_;simp[show off+j<vs.size by omega]
 |func fn fs cs IG oD aA ao _ _ wi uK=>
  intro v U;cases U with
  |func _ _ _ rv wM g1 g2 aS aY=>
   refine .func fn IG oD rv wM gf gf (λi y u S hu=>?_) (λi y u S hu=>?_)
   ·have z:=(cu.1 S).1;have J:fs[i]?=some (fs[i]'(by omega)):=dn gf
    exact wi i _ y J S<|aS i _ u J hu
   ·have z:=(cu.1 S).1;have J:cs[i]?=some (cs[i]'(by omega)):=dn gf
    exact uK i _ y J S<|aY i _ u J hu
 |any x=>exact λ_=>.top _
theorem bm.drop{c fT:Ctx}{H L:ab}(ay:bm fT H)(_:Ext fT c)(S:bm c (H++L)):bm (c.drop fT.n) H where
 j0:=S.j0.drop _
 n:=ay.n
 lt:=λi hi hd=>by have dB:i<fT.n:=hi;have:=ay.n;exact S.lt i (by rw[S.n];simp;omega) hd
 inj:=λi j b cR hi T I eC sY fB he=>by have h2:=(cu.1 T).1;exact S.inj i j b cR j9 j9 I eC sY fB he
 st:=λk hk=>by
  have oL:=ay.n;have af:=S.n;rcases hk with hk|⟨i,h1,h2,h3,rfl⟩
  ·obtain⟨g1,g2⟩:=S.st k hk;refine⟨g1,λi b hi I hd=>?_⟩;have h1:=(cu.1 hi).1;exact g2 i b (by rw[jc h1];exact hi) I hd
  ·refine⟨S.lt i h2 h3,λj b T I hd e=>?_⟩;have nu:=(cu.1 T).1;have hi:(H++L)[i]?=some ((H++L)[i]'(by rw[<-af];exact h2)):=dn _
   have z:=S.rep i _ hi;have y5:((H++L)[i]'(by rw[<-af];exact h2)).live:=by
    generalize(H++L)[i]'(by rw[<-af];exact h2)=B at z
    cases z with
    |gone gN=>rw[h3]at gN;cases gN
    |_=>trivial
   have:=S.inj j i b _ (by rw[jc nu];exact T) hi I y5 hd h3 e
   omega
 rep:=λi b hi=>by
  have dB:=(cu.1 hi).1;have oL:=ay.n;have h1:=S.rep i b<|by rw[jc dB];exact hi
  have h2:=ay.rep i b hi;cases h1 with
  |cells ba cs vs e bH U hd O hl aA V=>
   refine .cells ba cs vs e bH U hd O hl aA λj x v J kM=>(V j x v J kM).drop ?_;cases h2 with
   |cells _ _ mL lZ aX1 _ _ _ pg _ Z=>have T:=(cu.1 J).1;exact(Z j x _ J (lq gf)).cl
   |void=>simp at J
  |void ba U hd=>exact .void ba U hd
  |pE t ba U hd=>exact .pE t ba U hd
  |dc t ba cs vs U hd O hl a1 V=>
   refine .dc t ba cs vs U hd O hl a1 λj x v J kM=>(V j x v J kM).drop ?_;cases h2 with
   |dc _ _ _ mL _ _ _ pg _ Z=>have T:=(cu.1 J).1;exact(Z j x _ J (lq gf)).cl
   |pE=>simp at J
  |map es clock c8 U hd O hl V=>
   refine .map es clock c8 U hd O hl λj p e ad he=>?_;obtain⟨g1,g2,g3⟩:=V j p e ad he;cases h2 with
   |map _ _ Ay _ _ _ pg Z=>
    have T:=(cu.1 ad).1;obtain⟨aL,aR, -⟩:=Z j p _ ad<|lq gf
    exact⟨g1.drop aL.cl,g2.drop aR.cl,g3⟩
  |iY m since seen kS U hd hm y9 FK O=>
   cases h2 with
   |iY _ _ _ _ _ _ FJ=>exact .iY m since seen kS U hd FJ y9 FK O
  |mI s pos U hd O ij=>exact .mI s pos U hd O ij
  |loop l α N st iq ps nr ec fn D ts U hd hl O eu V=>
   cases h2 with
   |loop _ _ _ _ _ _ _ _ _ _ _ _ _ _ _ _ Z=>exact .loop l α N st iq ps nr ec fn D ts U hd hl O eu λt=>(V t).drop (Z t).cl
  |gone hd=>exact .gone hd
theorem aGp{fn:Func}{R:I->Prop}(J:P.funcs[f]?=some fn)(U:fn.body=some code)(af:args.length<=fn.ntmps)
  (h:cF P fn.ntmps code (qp P fn.results.toList λv H'=>∃L y,H'=H++L/\cJ H.length H' v y/\R y) (mV 0 args) H):cV P f args H (λy H'=>R y/\H'=H):=by
 intro c vs hs O;refine(F9 J U af h c vs hs O).mono λe w' ⟨c',x,v,H',ax,S,aU,bf,T,L,y,V,Z,z⟩=>?_;subst V;refine⟨c'.drop c.n,y,v,H,ax,S,hs.drop bf aU,bf.drop,?_,z,rfl⟩;have:=Z.sound aU T;rwa[<-hs.n]at this
end Go.Proofs.YtnmamncmpklliaaGreatDoor
