/- The texts 28 of 51 beneath the rows of this seat (joined by program): the abstract machine, and what the functions answer. No condition. -/
import Derived.Test.YthhdnjiodklmmaaGreatDoorWorkAI
import Derived.Test.YthhdnjiodklmmaaGreatDoorWorkAR
import Derived.Test.YthhdnjiodklmmaaGreatDoorWorkAU
import Derived.Test.YthhdnjiodklmmaaGreatDoorWorkAW
set_option linter.unusedSimpArgs false
set_option linter.unusedVariables false
set_option linter.unusedSectionVars false
/- A replica behind a call, in plain Lean. No condition. -/
namespace Go.Gw
open Go Go.Aw Go.Proofs.YthhdnjiodklmmaaGreatDoor
def errA(e:Int):Ans:={an0 with err:=e}
def doM(m:Mdl)(c:Cal):Mdl×Ans×List Opn:=
 if chkC c=false then(m,errA 180,[])else
 if(dV c ⟨m,an0,[]⟩).1=0 then
  (if(dV c ⟨m,an0,[]⟩).2.ops=[]then((dV c ⟨m,an0,[]⟩).2.m,(dV c ⟨m,an0,[]⟩).2.a,[])
  else((uW m.log.nodes (dV c ⟨m,an0,[]⟩).2).m,(dV c ⟨m,an0,[]⟩).2.a,(dV c ⟨m,an0,[]⟩).2.ops))
 else(m,errA (dV c ⟨m,an0,[]⟩).1,[])
def nP:Mdl→List Cal→Mdl×List Ans
 |m,[]=>(m,[])
 |m,c::l=>((nP (doM m c).1 l).1,(doM m c).2.1::(nP (doM m c).1 l).2)
def oI(r:Int):Mdl×Int:=if 0≤r∧r≤63 then({md0 with rep:=r,next:=1},0)else(md0,20)
def fO(m:Mdl)(l:List Opn):Mdl:={m with log:=dO m.log l,seen:=l.foldl (fun n o=>if opOk o=true then eV n o.at_ else n) m.seen}
end Go.Gw
/- What holds of a replica, call by call, in plain Lean. No condition. -/
namespace Go.Gw
open Go Go.Aw Go.Proofs.YthhdnjiodklmmaaGreatDoor
theorem aMu(l:List Int):(l.flatMap Lib.encodeRune).length≤4 * l.length:=by
 induction l with
 |nil=>simp
 |cons x l ih=>
  have:=(Lib.encodeRuneZ_length x).2
  have e:(Lib.encodeRune x).length=(Lib.encodeRuneZ x).length:=by simp[Lib.encodeRune]
  rw[List.flatMap_cons,List.length_append,List.length_cons]
  omega
theorem tO{s:Txt}(h:iV s=true):s.length≤80:=by
 unfold iV at h
 cases hs:mZ s with
 |none=>rw[hs]at h;simp at h
 |some l=>
  rw[hs]at h
  have e:=(lD hs).1
  have:=aMu l
  rw[←e]at this
  have hl:l.length≤20:=by
   simp only at h
   have hA:(decide ((l.length:Int)<1)||decide (20<(l.length:Int))||decide (s=[46])||decide (s=[46,46]))=false:=by
    cases hA:(decide ((l.length:Int)<1)||decide (20<(l.length:Int))||decide (s=[46])||decide (s=[46,46]))with
    |false=>rfl
    |true=>rw[hA]at h;cases h
   simp only[Bool.or_eq_false_iff,decide_eq_false_iff_not]at hA
   omega
  omega
theorem wQ{o:Opn}(h:opOk o=true):o.name.length≤80∧o.data.length≤64:=by
 unfold opOk at h
 simp only[Bool.and_eq_true]at h
 obtain⟨⟨⟨h1,h2⟩,h3⟩,h4⟩:=h
 split at h4
 ·unfold rZ at h4
  simp only[Bool.and_eq_true,decide_eq_true_eq]at h4
  exact⟨tO h4.1.2,by rw[h4.2];simp⟩
 ·unfold xO at h4
  simp only[Bool.and_eq_true,decide_eq_true_eq]at h4
  refine⟨by rw[h4.2];simp,?_⟩
  have:=h4.1.1.2
  omega
theorem aAO{o:Opn}(h:opOk o=true):OpS o:=⟨by have:=(wQ h).1;omega,by have:=(wQ h).2;omega⟩
theorem aE3(l:List Opn)(es:List Ent)(n:List Nd):(eJ l es n).2=l.foldl kY n:=by
 induction l generalizing es n with
 |nil=>rfl
 |cons o l ih=>rw[eJ,ih];rfl
theorem mM{g:Lg}(h:Good g):g.nodes=(opsG g).foldl kY []:=by
 have e:=h.log
 have:(logOf (opsG g)).nodes=(opsG g).foldl kY []:=aE3 _ _ _
 rw[←e]at this
 exact this
structure NdI (q:Int) (n:Nd):Prop where
 name:n.name.length≤80
 data:n.data.length≤64
 id:oA n.id≤q
 par:oA n.parent≤q
theorem aDz{a b n:Int}(h:mE a b n=false)(ha:0≤a):oA n≤a:=by
 unfold mE at h
 cases ho:fV n with
 |false=>unfold oA;rw[ho];simpa using ha
 |true=>
  rw[ho,Bool.true_and]at h
  have:¬xN a b (oA n) (oB n)=true:=by rw[h];simp
  rw[uG]at this
  omega
theorem aUl:oA (-1)=0:=by decide
theorem aV6:oA 2=0:=by decide
theorem aUm:oA 0=0:=by decide
theorem tP{o:Opn}(h:opOk o=true):1≤o.at_.c∧o.at_.c≤1048576∧0≤o.at_.r∧o.at_.r≤63∧oA o.node≤o.at_.c∧oA o.parent≤o.at_.c∧fV o.node=true∧(o.kind=1∨o.kind=2):=by
 have hk:=aCs h
 unfold opOk at h
 simp only[Bool.and_eq_true,Bool.not_eq_true']at h
 obtain⟨⟨⟨h1,h2⟩,h3⟩,h4⟩:=h
 rw[pZ]at h2
 refine⟨h2.1,h2.2.1,h2.2.2.1,h2.2.2.2,aDz h3 (by omega),?_,?_,hk⟩
 ·split at h4
  ·unfold rZ at h4
   simp only[Bool.and_eq_true,Bool.not_eq_true']at h4
   exact aDz h4.1.1.2 (by omega)
  ·unfold xO at h4
   simp only[Bool.and_eq_true,decide_eq_true_eq]at h4
   rw[h4.1.2,aUm];omega
 ·split at h4
  ·unfold rZ at h4
   simp only[Bool.and_eq_true]at h4
   exact h4.1.1.1.1
  ·unfold xO at h4
   simp only[Bool.and_eq_true]at h4
   exact h4.1.1.1.1
theorem aE4{l:List Nd}{x:Int}{n:Nd}(h:oL l x=some n):n∈l∧n.id=x:=by
 unfold oL at h
 exact⟨List.mem_of_find?_eq_some h,by simpa using List.find?_some h⟩
theorem aQG{q:Int}{l:List Nd}{o:Opn}(h:∀n∈l,NdI q n)(ho:opOk o=true)(hq:o.at_.c≤q):∀n∈kY l o,NdI q n:=by
 cases hr:bW l o with
 |true=>intro n hn;rw[kY,if_pos hr]at hn;exact h n hn
 |false=>
  rw[jZ hr]
  obtain⟨p1, -, -, -,p5,p6, -,hk⟩:=tP ho
  obtain⟨s1,s2⟩:=wQ ho
  have hw:NdI q (eQ l o):=by
   unfold eQ
   split
   ·rename_i n hf;exact h n (aE4 hf).1
   ·exact⟨by simp[nd0],by simp[nd0],by simp only;omega,by rw[aUl];omega⟩
  intro n hn
  rcases aCt hn with rfl|hn
  ·unfold cG
   have hid:(eQ l o).id=o.node:=by
    have:=jJ l o
    unfold cG at this
    split at this<;>exact this
   split
   ·exact⟨s1,hw.data,hw.id,by simp only;omega⟩
   ·exact⟨hw.name,s2,hw.id,hw.par⟩
  ·exact h n hn
theorem aBT{q:Int}(s:List Opn){l:List Nd}(h:∀n∈l,NdI q n)(hs:∀o∈s,opOk o=true∧o.at_.c≤q):∀n∈s.foldl kY l,NdI q n:=by
 induction s generalizing l with
 |nil=>exact h
 |cons o s ih=>exact ih (aQG h (hs o (by simp)).1 (hs o (by simp)).2) fun o ho=>hs o (List.mem_cons_of_mem _ ho)
theorem aAP(l:List Opn)(n:List Nd):(l.foldl kY n).length≤n.length+l.length:=by
 induction l generalizing n with
 |nil=>exact Nat.le_refl _
 |cons o l ih=>have:=ih (kY n o);have:=aCj n o;simp only[List.foldl_cons,List.length_cons];omega
structure NsI (q:Int) (l:List Nd):Prop where
 frs:Frs l
 len:l.length≤200
 nd:∀n∈l,NdI q n
theorem NsI.up{q r:Int}{l:List Nd}(h:NsI q l)(hq:q≤r):NsI r l:=⟨h.frs,h.len,fun n hn=>⟨(h.nd n hn).name,(h.nd n hn).data,Int.le_trans (h.nd n hn).id hq,Int.le_trans (h.nd n hn).par hq⟩⟩
structure MI (m:Mdl):Prop where
 good:Good m.log
 cap:m.log.entries.length≤200
 cnt:∀o∈opsG m.log,o.at_.c≤m.seen
 seen:0≤m.seen
 rep:0≤m.rep∧m.rep≤63
 snaps:m.snaps.length≤8
 snap:∀s∈m.snaps,NsI m.seen s.nodes
 watches:m.watches.length≤8
 watch:∀w∈m.watches,dirI w.dir=true∧w.evs.length≤9∧(w.over=false→w.evs.length≤8)
theorem MI.ops_len{m:Mdl}(h:MI m):(opsG m.log).length≤200:=by rw[opsG,List.length_map];exact h.cap
theorem MI.nodes{m:Mdl}(h:MI m):NsI m.seen m.log.nodes:=by
 rw[mM h.good]
 refine⟨aBP _ aFW,?_,aBT _ (fun n hn=>by cases hn) fun o ho=>⟨h.good.ok o ho,h.cnt o ho⟩⟩
 have:=aAP (opsG m.log) []
 have:=h.ops_len
 simp only[List.length_nil]at *
 omega
theorem nQ{r:Int}{m:Mdl}(h:oI r=(m,0)):MI m:=by
 unfold oI at h
 split at h
 ·rename_i hr
  cases h
  exact⟨aJh,by simp[md0],by simp[opsG,md0],Int.le_refl _,hr,by simp[md0],by simp[md0],by simp[md0],by simp[md0]⟩
 ·cases h
theorem aJN(l:List Nd):∀(names:List Txt) (x d:Int),jW l x names=(d,0)→(names=[]∧d=x)∨∃n∈l,n.id=d:=by
 intro names
 induction names with
 |nil=>intro x d h;cases h;exact .inl ⟨rfl,rfl⟩
 |cons s names ih=>
  intro x d h
  rw[jW]at h
  split at h
  ·cases hc:childN l x s with
   |none=>rw[hc]at h;cases h
   |some n=>
    rw[hc]at h
    rcases ih n.id d h with⟨-,rfl⟩|h
    ·exact .inr ⟨n,(aG5 hc).2.1,rfl⟩
    ·exact .inr h
  ·cases h
theorem aDA{l:List Nd}{names:List Txt}{d:Int}(h:jX l names=(d,0)):(names=[]∧d=0)∨∃n∈l,n.id=d:=aJN l names 0 d h
theorem aE5{l:List Nd}{p:Txt}{d:Int}(h:atN l p=(d,0)):∃ns,dJ p=some ns∧((ns=[]∧d=0)∨∃n∈l,n.id=d):=by
 unfold atN at h
 cases hn:dJ p with
 |none=>rw[hn]at h;cases h
 |some ns=>rw[hn]at h;exact⟨ns,rfl,aDA h⟩
theorem aMv{q:Int}{l:List Nd}{ns:List Txt}{d:Int}(hl:NsI q l)(hq:0≤q)(h:jX l ns=(d,0)):oA d≤q:=by
 rcases aDA h with⟨-,rfl⟩|⟨n,hn,rfl⟩
 ·rw[aUm];exact hq
 ·exact(hl.nd n hn).id
theorem vA{p:Txt}{l:List Txt}(h:dJ p=some l):∀s∈l,iV s=true:=by
 unfold dJ at h
 split at h
 ·cases h;intro s hs;cases hs
 ·split at h
  ·cases h
  ·split at h
   ·split at h
    ·rename_i hf
     cases h
     simp only[aCu,Bool.and_eq_true,List.all_eq_true]at hf
     exact hf.2
    ·cases h
   ·cases h
theorem aE6{q:Int}{l:List Nd}{p:Txt}{d:Int}{s:Txt}(hl:NsI q l)(hq:0≤q)(h:abvN l p=(d,s,0)):dirI d=true∧oA d≤q∧iV s=true:=by
 unfold abvN at h
 split at h
 ·cases h
 ·cases h
 ·rename_i x xs hn
  split at h
  ·rename_i h0
   split at h
   ·rename_i hd
    cases h
    refine⟨hd,aMv hl hq (show jX l (x::xs).dropLast=((jX l (x::xs).dropLast).1,0) by rw[←h0]),?_⟩
    exact vA hn _ (List.getLast_mem _)
   ·cases h
  ·rename_i h0;exact absurd (congrArg (fun z=>z.2.2) h) h0
end Go.Gw
/- A call leaves a replica of which all is known ars such a one; what is made may be. In plain Lean. No condition. -/
namespace Go.Gw
open Go Go.Aw Go.Proofs.YthhdnjiodklmmaaGreatDoor
theorem aF3{m:Mdl}{s:Stm}(h:nextD m=(s,0)):nO m.seen m.rep=true∧m.log.entries.length<200∧s=⟨m.seen+1,m.rep⟩:=by
 unfold nextD at h
 split at h
 ·cases h
 ·rename_i h1
  split at h
  ·cases h
  ·rename_i h2
   cases h
   exact⟨by simpa using h1,by omega,rfl⟩
def putM(m:Mdl)(o:Opn):Mdl:={m with log:=eK m.log o,seen:=m.seen+1}
theorem aCF{d:Dsk}(h:MI d.m){o:Opn}(hn:(nextD d.m).2=0)(ho:opOk {o with at_:=⟨d.m.seen+1,d.m.rep⟩}=true):
  tL d o=(0,{d with m:=putM d.m {o with at_:=⟨d.m.seen+1,d.m.rep⟩},ops:=d.ops++[{o with at_:=⟨d.m.seen+1,d.m.rep⟩}]}):=by
 obtain⟨s,hs⟩:∃s,nextD d.m=(s,0):=⟨_,by rw[←hn]⟩
 obtain⟨h1,h2,rfl⟩:=aF3 hs
 have ha:qD d.m.log {o with at_:=⟨d.m.seen+1,d.m.rep⟩}=0:=by
  unfold qD
  rw[if_neg (by rw[ho];simp)]
  split
  ·rfl
  ·rw[if_neg (by omega)]
 unfold tL
 simp only[hs,if_true]
 unfold mU
 rw[ha]
 rfl
theorem aCG{d:Dsk}{o:Opn}(hn:(nextD d.m).2≠0):tL d o=((nextD d.m).2,d):=by
 unfold tL
 rw[if_neg hn]
theorem lP{m:Mdl}(hn:(nextD m).2=0):(nextD m).1=⟨m.seen+1,m.rep⟩∧0≤m.seen∧m.seen<1048576∧0≤m.rep∧m.rep≤63∧m.log.entries.length<200:=by
 obtain⟨s,hs⟩:∃s,nextD m=(s,0):=⟨_,by rw[←hn]⟩
 obtain⟨h1,h2,rfl⟩:=aF3 hs
 rw[qL]at h1
 exact⟨by rw[hs],h1.1,h1.2.1,h1.2.2.1,h1.2.2.2,h2⟩
theorem aN0{a b:Int}{d:Bool}(h1:1≤a)(h2:a≤1048576)(h3:0≤b)(h4:b≤63):fV (idI a b d)=true∧oA (idI a b d)=a∧oB (idI a b d)=b∧oC (idI a b d)=d:=by
 have hk:okI a b=true:=by rw[pZ];exact⟨h1,h2,h3,h4⟩
 have e:idI a b d=128 * a+2 * b+(if d then 1 else 0):=by rw[idI,if_pos hk]
 have ho:fV (idI a b d)=true:=by rw[e,aCf];cases d<;>simp<;>omega
 refine⟨ho,?_,?_,?_⟩
 ·rw[oA,if_pos ho,e];cases d<;>simp<;>omega
 ·rw[oB,if_pos ho,e];cases d<;>simp<;>omega
 ·rw[oC,ho,e];cases d<;>simp<;>omega
theorem vB{a b n:Int}(h:oA n<a):mE a b n=false:=by
 unfold mE
 cases fV n with
 |false=>rfl
 |true=>
  rw[Bool.true_and,Bool.eq_false_iff,Ne,uG]
  omega
theorem aJO{a b n:Int}(h1:oA n=a)(h2:oB n=b):mE a b n=false:=by
 unfold mE
 rw[h1,h2]
 cases fV n with
 |false=>rfl
 |true=>
  rw[Bool.true_and,Bool.eq_false_iff,Ne,uG]
  omega
theorem aCH{a b n p:Int}{s:Txt}(h1:1≤a)(h2:a≤1048576)(h3:0≤b)(h4:b≤63)(hn:fV n=true)(hl:mE a b n=false)(hp:dirI p=true)(hpl:oA p<a)(hs:iV s=true):opOk ⟨⟨a,b⟩,1,n,p,s,[]⟩=true:=by
 unfold opOk
 have hk:okI a b=true:=by rw[pZ];exact⟨h1,h2,h3,h4⟩
 simp only[hk,hl]
 unfold rZ
 simp[hn,hp,hs,vB hpl]
theorem aJP{a b n:Int}{t:Txt}(h1:1≤a)(h2:a≤1048576)(h3:0≤b)(h4:b≤63)(hn:fV n=true)(hc:oC n=true)(hl:mE a b n=false)(ht:t.length≤64):opOk ⟨⟨a,b⟩,2,n,0,[],t⟩=true:=by
 unfold opOk
 have hk:okI a b=true:=by rw[pZ];exact⟨h1,h2,h3,h4⟩
 simp only[hk,hl]
 unfold xO
 simp only[hn,hc]
 simp
 omega
theorem aMw{g:Lg}(hg:Good g)(o:Opn):∀x∈opsG (eK g o),x=o∨x∈opsG g:=by
 intro x hx
 rcases(mH hg o).2 with⟨e, -, -⟩|⟨e, -, -⟩
 ·rw[e]at hx;exact .inr hx
 ·rw[e]at hx;exact nD.1 hx
theorem aQH{m:Mdl}(h:MI m){o:Opn}(ho:o.at_.c≤m.seen+1)(hlt:m.log.entries.length<200):MI (putM m o) where
 good:=(mH h.good o).1
 cap:=by have:=(qE m.log o).1;unfold putM;simp only;omega
 cnt:=fun x hx=>by
  rcases aMw h.good o x hx with rfl|hx
  ·exact ho
  ·exact Int.le_trans (h.cnt x hx) (by show m.seen≤m.seen+1;omega)
 seen:=by have:=h.seen;show 0≤m.seen+1;omega
 rep:=h.rep
 snaps:=h.snaps
 snap:=fun s hs=>(h.snap s hs).up (by show m.seen≤m.seen+1;omega)
 watches:=h.watches
 watch:=h.watch
theorem aJQ(e:List Evt)(b:Bool)(l:List Evt)(he:e.length≤9∧(b=false→e.length≤8)):(kC e b l).1.length≤9∧((kC e b l).2=false→(kC e b l).1.length≤8):=by
 unfold kC
 cases b with
 |true=>exact⟨he.1,fun h=>by cases h⟩
 |false=>
  have:=he.2 rfl
  rw[if_neg (by simp)]
  split
  ·refine⟨?_,fun h=>by cases h⟩
   simp only[List.length_append,List.length_take,List.length_cons,List.length_nil];omega
  ·rename_i h
   simp only[List.length_append]
   exact⟨by omega,fun _=>by omega⟩
theorem aMx{d:Dsk}(h:MI d.m)(was:List Nd):MI (uW was d).m where
 good:=h.good
 cap:=h.cap
 cnt:=h.cnt
 seen:=h.seen
 rep:=h.rep
 snaps:=h.snaps
 snap:=h.snap
 watches:=by show(d.m.watches.map _).length≤8;rw[List.length_map];exact h.watches
 watch:=fun w hw=>by
  obtain⟨v,hv,rfl⟩:=List.mem_map.1 hw
  obtain⟨h1,h2⟩:=h.watch v hv
  exact⟨h1,aJQ _ _ _ h2⟩
theorem pH{m:Mdl}(h:MI m){s:List Snp}{w:List Wch}{n:Int}(h1:s.length≤8)(h2:∀x∈s,NsI m.seen x.nodes)(h3:w.length≤8)(h4:∀x∈w,dirI x.dir=true∧x.evs.length≤9∧(x.over=false→x.evs.length≤8)):
  MI {m with snaps:=s,watches:=w,next:=n}:=
 ⟨h.good,h.cap,h.cnt,h.seen,h.rep,h1,h2,h3,h4⟩
theorem aE7(n:Int)(l:List Wch):(emptyW n l).length=l.length∧∀w∈emptyW n l,∃v∈l,w.dir=v.dir∧w.n=v.n∧w.over=v.over∧(w.evs=v.evs∨w.evs=[]):=by
 induction l with
 |nil=>exact⟨rfl,fun w hw=>by cases hw⟩
 |cons x l ih=>
  unfold emptyW
  split
  ·refine⟨rfl,fun w hw=>?_⟩
   rcases List.mem_cons.1 hw with rfl|hw
   ·exact⟨x,by simp,rfl,rfl,rfl,.inr rfl⟩
   ·exact⟨w,List.mem_cons_of_mem _ hw,rfl,rfl,rfl,.inl rfl⟩
  ·refine⟨by simp[ih.1],fun w hw=>?_⟩
   rcases List.mem_cons.1 hw with rfl|hw
   ·exact⟨w,by simp,rfl,rfl,rfl,.inl rfl⟩
   ·obtain⟨v,hv,q⟩:=ih.2 w hw
    exact⟨v,List.mem_cons_of_mem _ hv,q⟩
end Go.Gw
/- What each call does, in plain Lean. No condition. -/
namespace Go.Gw
open Go Go.Aw Go.Proofs.YthhdnjiodklmmaaGreatDoor
theorem aQI{n:Int}(h:fV n=true)(hd:dirI n=false):oC n=true:=by
 unfold dirI at hd
 simp only[h,Bool.true_and,Bool.or_eq_false_iff,Bool.not_eq_false']at hd
 exact hd.2
theorem aE8{l:List Nd}(h:Frs l){n:Nd}(hn:n∈l):fV n.id=true:=((oY l).1 h.chk).1 n hn
def bornO(m:Mdl)(c:Cal)(dir:Int)(s:Txt):Opn:=⟨⟨m.seen+1,m.rep⟩,1,idI (m.seen+1) m.rep (decide (c.kind=1)),dir,s,[]⟩
def donePut(d:Dsk)(o:Opn):Int×Dsk:=(0,{d with m:=putM d.m o,ops:=d.ops++[o]})
theorem tQ{c:Cal}{d:Dsk}(h:MI d.m):(∃e,e≠0∧qP c d=(e,d))∨
  ∃dir s,c.path≠[47]∧abvN d.m.log.nodes c.path=(dir,s,0)∧childN d.m.log.nodes dir s=none∧(nextD d.m).2=0∧opOk (bornO d.m c dir s)=true∧qP c d=donePut d (bornO d.m c dir s):=by
 unfold qP
 by_cases h1:c.path=[47]
 ·rw[if_pos h1];exact .inl ⟨194,by decide,rfl⟩
 rw[if_neg h1]
 obtain⟨⟨dir,s,e⟩,ha⟩:∃x,abvN d.m.log.nodes c.path=x:=⟨_,rfl⟩
 rw[ha]
 simp only
 by_cases h2:e=0
 ·subst h2
  rw[if_pos rfl]
  obtain⟨a1,a2,a3⟩:=aE6 h.nodes h.seen ha
  cases hc:childN d.m.log.nodes dir s with
  |some n=>exact .inl ⟨190,by decide,if_pos rfl⟩
  |none=>
   rw[if_neg (by simp)]
   by_cases h3:(nextD d.m).2=0
   ·rw[if_pos h3]
    obtain⟨n1,n2,n3,n4,n5,n6⟩:=lP h3
    rw[n1]
    obtain⟨i1,i2,i3,i4⟩:=aN0 (d:=decide (c.kind=1)) (show 1≤d.m.seen+1 by omega) (show d.m.seen+1≤1048576 by omega) n4 n5
    have hok:opOk (bornO d.m c dir s)=true:=aCH (by omega) (by omega) n4 n5 i1 (aJO i2 i3) a1 (by omega) a3
    exact .inr ⟨dir,s,h1,rfl,hc,h3,hok,aCF h h3 hok⟩
   ·rw[if_neg h3];exact .inl ⟨_,h3,rfl⟩
 ·rw[if_neg h2];exact .inl ⟨e,h2,rfl⟩
def writeO(m:Mdl)(c:Cal)(id:Int):Opn:=⟨⟨m.seen+1,m.rep⟩,2,id,0,[],c.data⟩
theorem qS{c:Cal}{d:Dsk}(h:MI d.m)(hd:c.data.length≤64):(∃e,e≠0∧qQ c d=(e,d))∨
  ∃id,atN d.m.log.nodes c.path=(id,0)∧dirI id=false∧(nextD d.m).2=0∧opOk (writeO d.m c id)=true∧qQ c d=donePut d (writeO d.m c id):=by
 unfold qQ
 obtain⟨⟨id,e⟩,ha⟩:∃x,atN d.m.log.nodes c.path=x:=⟨_,rfl⟩
 rw[ha]
 simp only
 by_cases h2:e=0
 ·subst h2
  rw[if_pos rfl]
  cases hdi:dirI id with
  |true=>rw[if_pos rfl];exact .inl ⟨82,by decide,rfl⟩
  |false=>
   rw[if_neg (by simp)]
   by_cases h3:(nextD d.m).2=0
   ·obtain⟨n1,n2,n3,n4,n5,n6⟩:=lP h3
    obtain⟨ns, -,⟨-,rfl⟩|⟨n,hn,rfl⟩⟩:=aE5 ha
    ·cases hdi
    ·have ho:=aE8 h.nodes.frs hn
     have hok:opOk (writeO d.m c n.id)=true:=aJP (by omega) (by omega) n4 n5 ho (aQI ho hdi) (vB (by have:=(h.nodes.nd n hn).id;omega)) hd
     exact .inr ⟨n.id,rfl,hdi,h3,hok,aCF h h3 hok⟩
   ·exact .inl ⟨_,h3,aCG h3⟩
 ·rw[if_neg h2];exact .inl ⟨e,h2,rfl⟩
def aBU(m:Mdl)(id dir:Int)(s:Txt):Opn:=⟨⟨m.seen+1,m.rep⟩,1,id,dir,s,[]⟩
theorem aN1{m:Mdl}(h:MI m){p:Txt}{id:Int}(hp:p≠[47])(ha:atN m.log.nodes p=(id,0)):fV id=true∧oA id≤m.seen∧∃n∈m.log.nodes,n.id=id:=by
 obtain⟨ns,hn,⟨hni, -⟩|⟨n,hn,rfl⟩⟩:=aE5 ha
 ·subst hni
  unfold dJ at hn
  rw[if_neg hp]at hn
  split at hn
  ·cases hn
  ·split at hn
   ·split at hn
    ·exact absurd (Option.some.inj hn) (wO _ _)
    ·cases hn
   ·cases hn
 ·exact⟨aE8 h.nodes.frs hn,(h.nodes.nd n hn).id,n,hn,rfl⟩
theorem aAQ{c:Cal}{d:Dsk}(h:MI d.m):(∃e,e≠0∧aAJ c d=(e,d))∨
  ∃id dir s,c.path≠[47]∧c.to≠[47]∧atN d.m.log.nodes c.path=(id,0)∧abvN d.m.log.nodes c.to=(dir,s,0)∧childN d.m.log.nodes dir s=none∧dir≠id∧(nM d.m.log.nodes dir).contains id=false∧(nextD d.m).2=0∧
   opOk (aBU d.m id dir s)=true∧aAJ c d=donePut d (aBU d.m id dir s):=by
 unfold aAJ
 by_cases h1:c.path=[47]∨c.to=[47]
 ·rw[if_pos h1];exact .inl ⟨194,by decide,rfl⟩
 rw[if_neg h1]
 obtain⟨⟨id,e⟩,ha⟩:∃x,atN d.m.log.nodes c.path=x:=⟨_,rfl⟩
 rw[ha]
 simp only
 by_cases h2:e=0
 ·subst h2
  rw[if_pos rfl]
  obtain⟨⟨dir,s,f⟩,hb⟩:∃x,abvN d.m.log.nodes c.to=x:=⟨_,rfl⟩
  rw[hb]
  simp only
  by_cases h3:f=0
  ·subst h3
   rw[if_pos rfl]
   obtain⟨a1,a2,a3⟩:=aE6 h.nodes h.seen hb
   cases hc:childN d.m.log.nodes dir s with
   |some n=>exact .inl ⟨190,by decide,if_pos rfl⟩
   |none=>
    rw[if_neg (by simp)]
    by_cases h4:dir=id∨(nM d.m.log.nodes dir).contains id=true
    ·rw[if_pos h4];exact .inl ⟨192,by decide,rfl⟩
    rw[if_neg h4]
    by_cases h5:(nextD d.m).2=0
    ·obtain⟨n1,n2,n3,n4,n5,n6⟩:=lP h5
     obtain⟨o1,o2, -⟩:=aN1 h (fun e=>h1 (.inl e)) ha
     have hok:opOk (aBU d.m id dir s)=true:=aCH (by omega) (by omega) n4 n5 o1 (vB (by omega)) a1 (by omega) a3
     exact .inr ⟨id,dir,s,fun e=>h1 (.inl e),fun e=>h1 (.inr e),rfl,rfl,hc,fun e=>h4 (.inl e),by simpa using fun e=>h4 (.inr e),h5,hok,aCF h h5 hok⟩
    ·exact .inl ⟨_,h5,aCG h5⟩
  ·rw[if_neg h3];exact .inl ⟨f,h3,rfl⟩
 ·rw[if_neg h2];exact .inl ⟨e,h2,rfl⟩
theorem vC{c:Cal}{d:Dsk}(h:MI d.m):(∃e,e≠0∧pF c d=(e,d))∨
  ∃id s,c.path≠[47]∧atN d.m.log.nodes c.path=(id,0)∧(∃x xs,dJ c.path=some (x::xs)∧s=(x::xs).getLast (by simp))∧(nextD d.m).2=0∧opOk (aBU d.m id 2 s)=true∧pF c d=donePut d (aBU d.m id 2 s):=by
 unfold pF
 by_cases h1:c.path=[47]
 ·rw[if_pos h1];exact .inl ⟨194,by decide,rfl⟩
 rw[if_neg h1]
 obtain⟨⟨id,e⟩,ha⟩:∃x,atN d.m.log.nodes c.path=x:=⟨_,rfl⟩
 rw[ha]
 simp only
 by_cases h2:e=0
 ·subst h2
  rw[if_pos rfl]
  split
  ·rename_i x xs hn
   by_cases h5:(nextD d.m).2=0
   ·obtain⟨n1,n2,n3,n4,n5,n6⟩:=lP h5
    obtain⟨o1,o2, -⟩:=aN1 h h1 ha
    have hok:opOk (aBU d.m id 2 ((x::xs).getLast (by simp)))=true:=aCH (by omega) (by omega) n4 n5 o1 (vB (by omega)) (by decide) (by rw[aV6];omega) (vA hn _ (List.getLast_mem _))
    exact .inr ⟨id,_,h1,rfl,⟨x,xs,hn,rfl⟩,h5,hok,aCF h h5 hok⟩
   ·exact .inl ⟨_,h5,aCG h5⟩
  ·exact .inl ⟨194,by decide,rfl⟩
 ·rw[if_neg h2];exact .inl ⟨e,h2,rfl⟩
theorem aJR{b r:Txt}{o:Opn}(h:pM b=some (o,r)):opOk o=true:=by
 unfold pM at h
 simp only[Option.bind_eq_some_iff]at h
 obtain⟨⟨c,b1⟩, -,⟨rr,b2⟩, -,⟨k,b3⟩, -,⟨nd,b4⟩, -,h⟩:=h
 simp only at h
 split at h
 ·simp only[Option.bind_eq_some_iff]at h
  obtain⟨⟨p,b5⟩, -,⟨t,b6⟩, -,h⟩:=h
  simp only at h
  split at h
  ·rename_i ho;cases h;exact ho
  ·cases h
 ·simp only[Option.bind_eq_some_iff]at h
  obtain⟨⟨t,b6⟩, -,h⟩:=h
  simp only at h
  split at h
  ·rename_i ho;cases h;exact ho
  ·cases h
theorem aJS:∀(k:Nat) (b:Txt) (l:List Opn),nF k b=some l→∀o∈l,opOk o=true:=by
 intro k
 induction k with
 |zero=>
  intro b l h
  unfold nF at h
  split at h
  ·cases h;intro o ho;cases ho
  ·cases h
 |succ k ih=>
  intro b l h
  unfold nF at h
  split at h
  ·cases h;intro o ho;cases ho
  ·simp only[Option.bind_eq_some_iff]at h
   obtain⟨⟨o,r⟩,h1,h2⟩:=h
   simp only[Option.map_eq_some_iff]at h2
   obtain⟨t,h3,rfl⟩:=h2
   intro x hx
   rcases List.mem_cons.1 hx with rfl|hx
   ·exact aJR h1
   ·exact ih r t h3 x hx
theorem qT{b:Txt}{l:List Opn}(h:readO b=some l):∀o∈l,opOk o=true:=aJS _ _ _ h
theorem oJ(g:Lg):∀(l acc:List Opn),∀x∈freshN g acc l,x∈acc∨x∈l:=by
 intro l
 induction l with
 |nil=>intro acc x hx;exact .inl hx
 |cons o l ih=>
  intro acc x hx
  rw[freshN]at hx
  rcases ih _ x hx with h|h
  ·split at h
   ·rcases List.mem_append.1 h with h|h
    ·exact .inl h
    ·rw[List.mem_singleton]at h;subst h;exact .inr (by simp)
   ·exact .inl h
  ·exact .inr (List.mem_cons_of_mem _ h)
theorem aMy:∀(l:List Opn) (d:Dsk),(∀o∈l,opOk o=true)→d.m.log.entries.length+l.length≤200→iN d l=(0,{d with m:={d.m with log:=dO d.m.log l},ops:=d.ops++l}):=by
 intro l
 induction l with
 |nil=>intro d _ _;simp[iN,dO]
 |cons o l ih=>
  intro d ho hc
  rw[List.length_cons]at hc
  have ha:qD d.m.log o=0:=by
   unfold qD
   rw[if_neg (by rw[ho o (by simp)];simp)]
   split
   ·rfl
   ·rw[if_neg (by omega)]
  have hk:mU d o=(0,{d with m:={d.m with log:=eK d.m.log o},ops:=d.ops++[o]}):=by unfold mU;rw[if_pos ha]
  have hl:=(qE d.m.log o).1
  rw[iN,hk]
  simp only[if_true]
  rw[ih _ (fun x hx=>ho x (List.mem_cons_of_mem _ hx)) (by simp only;omega)]
  simp[dO]
theorem kW(l:List Opn):∀(n:Int),n≤l.foldl (fun n o=>eV n o.at_) n∧∀o∈l,opOk o=true→o.at_.c≤l.foldl (fun n o=>eV n o.at_) n:=by
 induction l with
 |nil=>exact fun n=>⟨Int.le_refl _,fun o ho=>by cases ho⟩
 |cons x l ih=>
  intro n
  obtain⟨i1,i2⟩:=ih (eV n x.at_)
  have h1:n≤eV n x.at_:=by unfold eV;split<;>omega
  refine⟨Int.le_trans h1 i1,fun o ho hok=>?_⟩
  rcases List.mem_cons.1 ho with rfl|ho
  ·refine Int.le_trans ?_ i1
   obtain⟨p1,p2,p3,p4, -⟩:=tP hok
   unfold eV
   rw[if_pos (by rw[pZ];exact⟨p1,p2,p3,p4⟩)]
   omega
  ·exact i2 o ho hok
theorem aMz(l:List Opn):∀g:Lg,(dO g l).entries.length≤g.entries.length+l.length:=by
 induction l with
 |nil=>exact fun g=>Nat.le_refl _
 |cons o l ih=>intro g;have:=ih (eK g o);have:=(qE g o).1;rw[dO,List.length_cons];omega
def mergeM(m:Mdl)(l:List Opn):Mdl:={m with log:=dO m.log (freshN m.log [] l),seen:=l.foldl (fun n o=>eV n o.at_) m.seen}
theorem xV{c:Cal}{d:Dsk}:(∃e,e≠0∧tM c d=(e,d))∨
  ∃l,readO c.data=some l∧d.m.log.entries.length+(freshN d.m.log [] l).length≤200∧
   tM c d=(0,{m:=mergeM d.m l,a:={d.a with n:=((freshN d.m.log [] l).length:Int)},ops:=d.ops++freshN d.m.log [] l}):=by
 unfold tM
 cases hr:readO c.data with
 |none=>exact .inl ⟨50,by decide,rfl⟩
 |some l=>
  simp only
  by_cases h1:(200:Int)<(d.m.log.entries.length:Int)+((freshN d.m.log [] l).length:Int)
  ·rw[if_pos h1];exact .inl ⟨193,by decide,rfl⟩
  rw[if_neg h1]
  have hok:∀o∈freshN d.m.log [] l,opOk o=true:=fun o ho=>by
   rcases oJ _ _ _ o ho with h|h
   ·cases h
   ·exact qT hr o h
  rw[aMy _ d hok (by omega)]
  exact .inr ⟨l,rfl,by omega,rfl⟩
theorem aJT{m:Mdl}(h:MI m){l:List Opn}(ho:∀o∈l,opOk o=true)(hc:m.log.entries.length+(freshN m.log [] l).length≤200):MI (mergeM m l) where
 good:=qG h.good _
 cap:=by have:=aMz (freshN m.log [] l) m.log;unfold mergeM;simp only;omega
 cnt:=fun x hx=>by
  rcases(aL3 h.good _).1 x hx with hx|⟨hx,hok⟩
  ·exact Int.le_trans (h.cnt x hx) (kW l m.seen).1
  ·rcases oJ _ _ _ x hx with hx|hx
   ·cases hx
   ·exact(kW l m.seen).2 x hx hok
 seen:=Int.le_trans h.seen (kW l m.seen).1
 rep:=h.rep
 snaps:=h.snaps
 snap:=fun s hs=>(h.snap s hs).up (kW l m.seen).1
 watches:=h.watches
 watch:=h.watch
theorem aAR{c:Cal}(h:chkC c=true)(hk:c.kind=3):c.data.length≤64:=by
 unfold chkC at h
 rw[hk]at h
 have hp:iA 3=some 5:=rfl
 rw[hp]at h
 simp only[Bool.and_eq_true]at h
 have h':=h.2.2.1
 rw[kE,if_neg (by decide),if_neg (by decide),decide_eq_true_eq]at h'
 omega
theorem aJU{m:Mdl}{c:Cal}(h:MI m)(hc:chkC c=true)(h0:(dV c ⟨m,an0,[]⟩).1=0):MI (dV c ⟨m,an0,[]⟩).2.m:=by
 have put:∀{o:Opn} {r:Int×Dsk},r=donePut ⟨m,an0,[]⟩ o→o.at_.c≤m.seen+1→(nextD m).2=0→MI r.2.m:=fun e h1 h2=>by
  subst e;exact aQH h h1 (lP h2).2.2.2.2.2
 have err:∀{e:Int} {r:Int×Dsk},e≠0→r=(e,⟨m,an0,[]⟩)→r.1=0→MI r.2.m:=fun h1 e h2=>by subst e;exact absurd h2 h1
 unfold dV at h0 ⊢
 by_cases k1:c.kind=1∨c.kind=2
 ·rw[if_pos k1]at h0 ⊢
  rcases tQ (c:=c) (d:=⟨m,an0,[]⟩) h with⟨e,he,e1⟩|⟨dir,s, -, -, -,hn, -,e1⟩
  ·exact err he e1 h0
  ·exact put e1 (Int.le_refl _) hn
 rw[if_neg k1]at h0 ⊢
 by_cases k3:c.kind=3
 ·rw[if_pos k3]at h0 ⊢
  rcases qS (c:=c) (d:=⟨m,an0,[]⟩) h (aAR hc k3)with⟨e,he,e1⟩|⟨id, -, -,hn, -,e1⟩
  ·exact err he e1 h0
  ·exact put e1 (Int.le_refl _) hn
 rw[if_neg k3]at h0 ⊢
 by_cases k4:c.kind=4
 ·rw[if_pos k4]at h0 ⊢
  unfold nG
  split
  ·exact h
  ·split
   ·split<;>exact h
   ·exact h
 rw[if_neg k4]at h0 ⊢
 by_cases k5:c.kind=5
 ·rw[if_pos k5]at h0 ⊢
  rcases aAQ (c:=c) (d:=⟨m,an0,[]⟩) h with⟨e,he,e1⟩|⟨id,dir,s, -, -, -, -, -, -, -,hn, -,e1⟩
  ·exact err he e1 h0
  ·exact put e1 (Int.le_refl _) hn
 rw[if_neg k5]at h0 ⊢
 by_cases k6:c.kind=6
 ·rw[if_pos k6]at h0 ⊢
  rcases vC (c:=c) (d:=⟨m,an0,[]⟩) h with⟨e,he,e1⟩|⟨id,s, -, -, -,hn, -,e1⟩
  ·exact err he e1 h0
  ·exact put e1 (Int.le_refl _) hn
 rw[if_neg k6]at h0 ⊢
 by_cases k7:c.kind=7
 ·rw[if_pos k7]at h0 ⊢
  unfold lsD
  split
  ·exact h
  ·split
   ·split<;>exact h
   ·exact h
 rw[if_neg k7]at h0 ⊢
 by_cases k8:c.kind=8
 ·rw[if_pos k8]at h0 ⊢
  unfold xT
  split
  ·exact h
  ·rename_i hl
   refine pH h ?_ (fun x hx=>?_) h.watches h.watch
   ·rw[List.length_append];simp only[List.length_cons,List.length_nil]at hl ⊢;omega
   ·rcases List.mem_append.1 hx with hx|hx
    ·exact h.snap x hx
    ·rw[List.mem_singleton]at hx;subst hx;exact h.nodes
 rw[if_neg k8]at h0 ⊢
 by_cases k9:c.kind=9
 ·rw[if_pos k9]at h0 ⊢
  unfold uT
  split
  ·exact h
  ·exact pH (n:=m.next) h (Nat.le_trans (List.length_filter_le ..) h.snaps) (fun x hx=>h.snap x (List.mem_filter.1 hx).1) (Nat.le_trans (List.length_filter_le ..) h.watches) (fun x hx=>h.watch x (List.mem_filter.1 hx).1)
 rw[if_neg k9]at h0 ⊢
 by_cases k10:c.kind=10
 ·rw[if_pos k10]at h0 ⊢
  unfold qR
  split
  ·split
   ·rename_i hdi
    split
    ·exact h
    ·rename_i hl
     refine pH h h.snaps h.snap ?_ (fun x hx=>?_)
     ·rw[List.length_append];simp only[List.length_cons,List.length_nil]at hl ⊢;omega
     ·rcases List.mem_append.1 hx with hx|hx
      ·exact h.watch x hx
      ·rw[List.mem_singleton]at hx;subst hx;exact⟨hdi,by simp,by simp⟩
   ·exact h
  ·exact h
 rw[if_neg k10]at h0 ⊢
 by_cases k11:c.kind=11
 ·rw[if_pos k11]at h0 ⊢
  unfold uU
  split
  ·exact h
  ·obtain⟨e1,e2⟩:=aE7 c.n m.watches
   refine pH (n:=m.next) h h.snaps h.snap (by rw[e1];exact h.watches) fun x hx=>?_
   obtain⟨v,hv,q1, -,q3,q2⟩:=e2 x hx
   obtain⟨w1,w2,w3⟩:=h.watch v hv
   rw[q1,q3]
   rcases q2 with q|q<;>rw[q]
   ·exact⟨w1,w2,w3⟩
   ·exact⟨w1,by simp,by simp⟩
 rw[if_neg k11]at h0 ⊢
 by_cases k12:c.kind=12
 ·rw[if_pos k12]at h0 ⊢;exact h
 rw[if_neg k12]at h0 ⊢
 rcases xV (c:=c) (d:=⟨m,an0,[]⟩)with⟨e,he,e1⟩|⟨l,hr,hcap,e1⟩
 ·exact err he e1 h0
 ·rw[e1];exact aJT h (qT hr) hcap
theorem nH{m:Mdl}(h:MI m)(c:Cal):MI (doM m c).1:=by
 unfold doM
 split
 ·exact h
 ·rename_i hc
  split
  ·rename_i h0
   have:=aJU h (by simpa using hc) h0
   split
   ·exact this
   ·exact aMx this _
  ·exact h
theorem aCI(l:List Cal):∀{m:Mdl},MI m→MI (nP m l).1:=by
 induction l with
 |nil=>exact fun h=>h
 |cons c l ih=>exact fun h=>ih (nH h c)
end Go.Gw
/- What each call leaves, and which operations it adds, in plain Lean. No condition. -/
namespace Go.Gw
open Go Go.Aw Go.Proofs.YthhdnjiodklmmaaGreatDoor
def tellM(m m':Mdl):Mdl:={m' with watches:=m'.watches.map (uV m.log.nodes m'.log.nodes)}
theorem vD{c:Cal}(h:chkC c=true):c.kind=1∨c.kind=2∨c.kind=3∨c.kind=4∨c.kind=5∨c.kind=6∨c.kind=7∨c.kind=8∨c.kind=9∨c.kind=10∨c.kind=11∨c.kind=12∨c.kind=13:=by
 unfold chkC at h
 cases hp:iA c.kind with
 |none=>rw[hp]at h;cases h
 |some p=>
  unfold iA at hp
  by_cases h1:c.kind=1∨c.kind=2∨c.kind=6∨c.kind=10
  ·omega
  rw[if_neg h1]at hp
  by_cases h2:c.kind=3
  ·omega
  rw[if_neg h2]at hp
  by_cases h3:c.kind=4∨c.kind=7
  ·omega
  rw[if_neg h3]at hp
  by_cases h4:c.kind=5
  ·omega
  rw[if_neg h4]at hp
  by_cases h5:c.kind=9∨c.kind=11
  ·omega
  rw[if_neg h5]at hp
  by_cases h6:c.kind=13
  ·omega
  rw[if_neg h6]at hp
  by_cases h7:c.kind=8∨c.kind=12
  ·omega
  rw[if_neg h7]at hp
  cases hp
inductive WyS (m:Mdl) (c:Cal):Int×Dsk→Prop
 |err (e:Int) (d:Dsk) (he:e≠0):WyS m c (e,d)
 |put (o:Opn) (hk:c.kind=1∨c.kind=2∨c.kind=3∨c.kind=5∨c.kind=6) (hn:(nextD m).2=0) (ho:opOk o=true) (ha:o.at_=⟨m.seen+1,m.rep⟩):WyS m c (donePut ⟨m,an0,[]⟩ o)
 |keep (m':Mdl) (a:Ans) (ha:a.err=0) (h1:m'.log=m.log) (h2:m'.seen=m.seen) (h3:m'.rep=m.rep) (h4:(c.kind=4∨c.kind=7∨c.kind=12)→m'=m):WyS m c (0,⟨m',a,[]⟩)
 |merge (l:List Opn) (hk:c.kind=13) (hr:readO c.data=some l) (hc:m.log.entries.length+(freshN m.log [] l).length≤200):
   WyS m c (0,⟨mergeM m l,{an0 with n:=((freshN m.log [] l).length:Int)},freshN m.log [] l⟩)
theorem aBV{m:Mdl}{c:Cal}(h:MI m)(hc:chkC c=true):WyS m c (dV c ⟨m,an0,[]⟩):=by
 have hk:=vD hc
 unfold dV
 by_cases k1:c.kind=1∨c.kind=2
 ·rw[if_pos k1]
  rcases tQ (c:=c) (d:=⟨m,an0,[]⟩) h with⟨e,he,e1⟩|⟨dir,s, -, -, -,hn,ho,e1⟩
  ·rw[e1];exact .err _ _ he
  ·rw[e1];exact .put _ (by omega) hn ho rfl
 rw[if_neg k1]
 by_cases k3:c.kind=3
 ·rw[if_pos k3]
  rcases qS (c:=c) (d:=⟨m,an0,[]⟩) h (aAR hc k3)with⟨e,he,e1⟩|⟨id, -, -,hn,ho,e1⟩
  ·rw[e1];exact .err _ _ he
  ·rw[e1];exact .put _ (by omega) hn ho rfl
 rw[if_neg k3]
 by_cases k4:c.kind=4
 ·rw[if_pos k4]
  unfold nG
  split
  ·exact .err _ _ (by decide)
  ·split
   ·split
    ·exact .err _ _ (by decide)
    ·exact .keep _ _ rfl rfl rfl rfl fun _=>rfl
   ·rename_i h;exact .err _ _ h
 rw[if_neg k4]
 by_cases k5:c.kind=5
 ·rw[if_pos k5]
  rcases aAQ (c:=c) (d:=⟨m,an0,[]⟩) h with⟨e,he,e1⟩|⟨id,dir,s, -, -, -, -, -, -, -,hn,ho,e1⟩
  ·rw[e1];exact .err _ _ he
  ·rw[e1];exact .put _ (by omega) hn ho rfl
 rw[if_neg k5]
 by_cases k6:c.kind=6
 ·rw[if_pos k6]
  rcases vC (c:=c) (d:=⟨m,an0,[]⟩) h with⟨e,he,e1⟩|⟨id,s, -, -, -,hn,ho,e1⟩
  ·rw[e1];exact .err _ _ he
  ·rw[e1];exact .put _ (by omega) hn ho rfl
 rw[if_neg k6]
 by_cases k7:c.kind=7
 ·rw[if_pos k7]
  unfold lsD
  split
  ·exact .err _ _ (by decide)
  ·split
   ·split
    ·exact .keep _ _ rfl rfl rfl rfl fun _=>rfl
    ·exact .err _ _ (by decide)
   ·rename_i h;exact .err _ _ h
 rw[if_neg k7]
 by_cases k8:c.kind=8
 ·rw[if_pos k8]
  unfold xT
  split
  ·exact .err _ _ (by decide)
  ·exact .keep _ _ rfl rfl rfl rfl fun h=>by omega
 rw[if_neg k8]
 by_cases k9:c.kind=9
 ·rw[if_pos k9]
  unfold uT
  split
  ·exact .err _ _ (by decide)
  ·exact .keep _ _ rfl rfl rfl rfl fun h=>by omega
 rw[if_neg k9]
 by_cases k10:c.kind=10
 ·rw[if_pos k10]
  unfold qR
  split
  ·split
   ·split
    ·exact .err _ _ (by decide)
    ·exact .keep _ _ rfl rfl rfl rfl fun h=>by omega
   ·exact .err _ _ (by decide)
  ·rename_i h;exact .err _ _ h
 rw[if_neg k10]
 by_cases k11:c.kind=11
 ·rw[if_pos k11]
  unfold uU
  split
  ·exact .err _ _ (by decide)
  ·exact .keep _ _ rfl rfl rfl rfl fun h=>by omega
 rw[if_neg k11]
 by_cases k12:c.kind=12
 ·rw[if_pos k12];exact .keep _ _ rfl rfl rfl rfl fun _=>rfl
 rw[if_neg k12]
 rcases xV (c:=c) (d:=⟨m,an0,[]⟩)with⟨e,he,e1⟩|⟨l,hr,hcap,e1⟩
 ·rw[e1];exact .err _ _ he
 ·rw[e1];exact .merge l (by omega) hr hcap
inductive DoS (m:Mdl) (c:Cal):Mdl×Ans×List Opn→Prop
 |err (e:Int) (he:e≠0):DoS m c (m,errA e,[])
 |put (o:Opn) (hk:c.kind=1∨c.kind=2∨c.kind=3∨c.kind=5∨c.kind=6) (hn:(nextD m).2=0) (ho:opOk o=true) (ha:o.at_=⟨m.seen+1,m.rep⟩):DoS m c (tellM m (putM m o),an0,[o])
 |keep (m':Mdl) (a:Ans) (ha:a.err=0) (h1:m'.log=m.log) (h2:m'.seen=m.seen) (h3:m'.rep=m.rep) (h4:(c.kind=4∨c.kind=7∨c.kind=12)→m'=m):DoS m c (m',a,[])
 |merge (l:List Opn) (hk:c.kind=13) (hr:readO c.data=some l) (hc:m.log.entries.length+(freshN m.log [] l).length≤200):
   DoS m c (if freshN m.log [] l=[]then mergeM m l else tellM m (mergeM m l),{an0 with n:=((freshN m.log [] l).length:Int)},freshN m.log [] l)
theorem vE{m:Mdl}(h:MI m)(c:Cal):DoS m c (doM m c):=by
 unfold doM
 split
 ·exact .err 180 (by decide)
 ·rename_i hc
  have hs:=aBV h (by simpa using hc)
  generalize dV c ⟨m,an0,[]⟩=r at hs ⊢
  cases hs with
  |err e d he=>rw[if_neg he];exact .err e he
  |put o hk hn ho ha=>exact .put o hk hn ho ha
  |keep m' a ha h1 h2 h3 h4=>exact .keep m' a ha h1 h2 h3 h4
  |merge l hk hr hc=>
   have hm:=DoS.merge (m:=m) (c:=c) l hk hr hc
   rw[if_pos rfl]
   split
   ·rename_i e
    simp only at e
    rw[if_pos e]at hm
    rw[e]at hm ⊢
    exact hm
   ·rename_i e
    rw[if_neg e]at hm
    exact hm
theorem aJV(g:Lg)(a:Stm):jY g.entries a=true↔∃x∈opsG g,x.at_=a:=by
 unfold jY opsG
 rw[List.any_eq_true]
 constructor
 ·rintro⟨e,he,h⟩;exact⟨e.op,List.mem_map.2 ⟨e,he,rfl⟩,by simpa using h⟩
 ·rintro⟨x,hx,h⟩
  obtain⟨e,he,rfl⟩:=List.mem_map.1 hx
  exact⟨e,he,by simpa using h⟩
theorem aQJ{g:Lg}{a:Stm}:jY g.entries a=false↔∀x∈opsG g,x.at_≠a:=by
 rw[←Bool.not_eq_true,aJV]
 constructor
 ·intro h x hx e;exact h ⟨x,hx,e⟩
 ·rintro h ⟨x,hx,e⟩;exact h x hx e
theorem iP(g:Lg):(opsG g).length=g.entries.length:=by rw[opsG,List.length_map]
theorem yY{g:Lg}(h:Good g){o:Opn}(ho:opOk o=true)(hn:∀x∈opsG g,x.at_≠o.at_)(hl:g.entries.length<200):opsG (eK g o)=yI o (opsG g):=by
 rcases(mH h o).2 with⟨-, -,e|⟨x,hx,e⟩|e⟩|⟨e, -, -⟩
 ·rw[ho]at e;cases e
 ·exact absurd e (hn x hx)
 ·rw[iP]at e;omega
 ·exact e
theorem rR(l:List Opn):∀{g:Lg},Good g→(∀o∈l,opOk o=true)→l.Pairwise (fun a b=>a.at_≠b.at_)→(∀o∈l,∀x∈opsG g,x.at_≠o.at_)→g.entries.length+l.length≤200→
  (∀x,x∈opsG (dO g l)↔x∈opsG g∨x∈l)∧(dO g l).entries.length=g.entries.length+l.length:=by
 induction l with
 |nil=>intro g _ _ _ _ _;exact⟨fun x=>by simp[dO],rfl⟩
 |cons o l ih=>
  intro g hg ho hp hn hl
  rw[List.length_cons]at hl
  rw[List.pairwise_cons]at hp
  have e:=yY hg (ho o (by simp)) (hn o (by simp)) (by omega)
  have el:(eK g o).entries.length=g.entries.length+1:=by rw[←iP,e,yT,iP]
  obtain⟨i1,i2⟩:=ih (mH hg o).1 (fun x hx=>ho x (List.mem_cons_of_mem _ hx)) hp.2 (fun x hx y hy=>by
   rw[e]at hy
   rcases nD.1 hy with rfl|hy
   ·exact hp.1 x hx
   ·exact hn x (List.mem_cons_of_mem _ hx) y hy) (by omega)
  refine⟨fun x=>?_,by rw[dO,i2,el,List.length_cons];omega⟩
  rw[dO,i1,e,nD,List.mem_cons]
  constructor
  ·rintro((h|h)|h)
   ·exact .inr (.inl h)
   ·exact .inl h
   ·exact .inr (.inr h)
  ·rintro(h|h|h)
   ·exact .inl (.inr h)
   ·exact .inl (.inl h)
   ·exact .inr h
theorem aDB(g:Lg):∀(l acc:List Opn),acc.Pairwise (fun a b=>a.at_≠b.at_)→(∀o∈acc,∀x∈opsG g,x.at_≠o.at_)→(freshN g acc l).Pairwise (fun a b=>a.at_≠b.at_)∧(∀o∈freshN g acc l,∀x∈opsG g,x.at_≠o.at_):=by
 intro l
 induction l with
 |nil=>exact fun acc h1 h2=>⟨h1,h2⟩
 |cons o l ih=>
  intro acc h1 h2
  rw[freshN]
  split
  ·rename_i hc
   simp only[Bool.and_eq_true,Bool.not_eq_true']at hc
   have hn:=aQJ.1 hc.1
   refine ih _ (List.pairwise_append.2 ⟨h1,List.pairwise_singleton _ _,fun a ha b hb=>?_⟩) fun x hx=>?_
   ·rw[List.mem_singleton]at hb;subst hb
    have:=(List.any_eq_false.1 hc.2) a ha
    simpa using this
   ·rcases List.mem_append.1 hx with hx|hx
    ·exact h2 x hx
    ·rw[List.mem_singleton]at hx;subst hx;exact hn
  ·exact ih _ h1 h2
theorem aHp(g:Lg):∀(l acc:List Opn),(∀o∈acc,o∈freshN g acc l)∧∀o∈l,jY g.entries o.at_=true∨∃f∈freshN g acc l,f.at_=o.at_:=by
 intro l
 induction l with
 |nil=>exact fun acc=>⟨fun o h=>h,fun o h=>by cases h⟩
 |cons o l ih=>
  intro acc
  rw[freshN]
  split
  ·obtain⟨i1,i2⟩:=ih (acc++[o])
   refine⟨fun x hx=>i1 x (List.mem_append_left _ hx),fun x hx=>?_⟩
   rcases List.mem_cons.1 hx with rfl|hx
   ·exact .inr ⟨x,i1 x (by simp),rfl⟩
   ·exact i2 x hx
  ·rename_i hc
   obtain⟨i1,i2⟩:=ih acc
   refine⟨i1,fun x hx=>?_⟩
   rcases List.mem_cons.1 hx with rfl|hx
   ·cases hh:jY g.entries x.at_ with
    |true=>exact .inl rfl
    |false=>
     rw[hh]at hc
     simp only[Bool.not_false,Bool.true_and,Bool.not_eq_true',Bool.not_eq_false']at hc
     have hc':(acc.any fun f=>decide (f.at_=x.at_))=true:=by simpa using hc
     obtain⟨f,hf,e⟩:=List.any_eq_true.1 hc'
     exact .inr ⟨f,i1 f hf,by simpa using e⟩
   ·exact i2 x hx
theorem vF(l:List Opn):∀n:Int,l.foldl (fun n o=>eV n o.at_) n=n∨∃o∈l,o.at_.c=l.foldl (fun n o=>eV n o.at_) n:=by
 induction l with
 |nil=>exact fun n=>.inl rfl
 |cons o l ih=>
  intro n
  rw[List.foldl_cons]
  rcases ih (eV n o.at_)with e|⟨x,hx,e⟩
  ·rw[e]
   unfold eV
   split
   ·rcases Int.le_total n o.at_.c with h|h
    ·exact .inr ⟨o,by simp,by omega⟩
    ·exact .inl (by omega)
   ·exact .inl rfl
  ·exact .inr ⟨x,List.mem_cons_of_mem _ hx,e⟩
structure OI (m:Mdl) (ops:List Opn):Prop where
 mem:∀x,x∈opsG m.log↔x∈ops
 len:m.log.entries.length=ops.length
 ap:ops.Pairwise (fun a b=>a.at_≠b.at_)
 top:m.seen=0∨∃o∈ops,o.at_.c=m.seen
theorem aE9{r:Int}{m:Mdl}(h:oI r=(m,0)):OI m []:=by
 unfold oI at h
 split at h
 ·cases h;exact⟨fun x=>by simp[opsG,md0],rfl,.nil,.inl rfl⟩
 ·cases h
theorem aF4{m m':Mdl}{ops:List Opn}(h:OI m' ops):OI (tellM m m') ops:=⟨h.mem,h.len,h.ap,h.top⟩
theorem aQK{m:Mdl}{ops:List Opn}(h:MI m)(hi:OI m ops){o:Opn}(hn:(nextD m).2=0)(ho:opOk o=true)(ha:o.at_=⟨m.seen+1,m.rep⟩):OI (putM m o) (ops++[o]):=by
 have hl:=(lP hn).2.2.2.2.2
 have hno:∀x∈opsG m.log,x.at_≠o.at_:=fun x hx e=>by have:=h.cnt x hx;rw[e,ha]at this;simp only at this;omega
 have e:=yY h.good ho hno hl
 refine⟨fun x=>?_,?_,List.pairwise_append.2 ⟨hi.ap,List.pairwise_singleton _ _,fun a ha' b hb=>?_⟩,.inr ⟨o,by simp,by rw[ha];rfl⟩⟩
 ·show x∈opsG (eK m.log o)↔_
  rw[e,nD,hi.mem,List.mem_append,List.mem_singleton,Or.comm]
 ·show(eK m.log o).entries.length=_
  rw[←iP,e,yT,iP,hi.len,List.length_append];rfl
 ·rw[List.mem_singleton]at hb;subst hb
  exact hno a ((hi.mem a).2 ha')
theorem aJW{m:Mdl}{ops l:List Opn}(h:MI m)(hi:OI m ops)(ho:∀o∈l,opOk o=true)(hc:m.log.entries.length+(freshN m.log [] l).length≤200):OI (mergeM m l) (ops++freshN m.log [] l):=by
 obtain⟨f1,f2⟩:=aDB m.log l [] .nil (fun o ho=>by cases ho)
 have hfo:∀o∈freshN m.log [] l,opOk o=true:=fun o hx=>by
  rcases oJ _ _ _ o hx with h|h
  ·cases h
  ·exact ho o h
 obtain⟨a1,a2⟩:=rR (freshN m.log [] l) h.good hfo f1 f2 hc
 refine⟨fun x=>?_,?_,List.pairwise_append.2 ⟨hi.ap,f1,fun a ha b hb=>f2 b hb a ((hi.mem a).2 ha)⟩,?_⟩
 ·show x∈opsG (dO m.log (freshN m.log [] l))↔_
  rw[a1,hi.mem,List.mem_append]
 ·show(dO m.log (freshN m.log [] l)).entries.length=_
  rw[a2,hi.len,List.length_append]
 ·show l.foldl (fun n o=>eV n o.at_) m.seen=0∨∃o∈ops++freshN m.log [] l,o.at_.c=l.foldl (fun n o=>eV n o.at_) m.seen
  rcases vF l m.seen with e|⟨o,hol,e⟩
  ·rw[e]
   rcases hi.top with e0|⟨o,ho2,e0⟩
   ·exact .inl e0
   ·exact .inr ⟨o,List.mem_append_left _ ho2,e0⟩
  ·refine .inr ?_
   rcases(aHp m.log l []).2 o hol with hh|⟨f,hf,ef⟩
   ·obtain⟨x,hx,ex⟩:=(aJV _ _).1 hh
    exact⟨x,List.mem_append_left _ ((hi.mem x).1 hx),by rw[ex];exact e⟩
   ·exact⟨f,List.mem_append_right _ hf,by rw[ef];exact e⟩
theorem aN2{m:Mdl}{ops:List Opn}(h:MI m)(hi:OI m ops)(c:Cal):OI (doM m c).1 (ops++(doM m c).2.2):=by
 have hs:=vE h c
 generalize doM m c=r at hs ⊢
 cases hs with
 |err e he=>simpa using hi
 |put o hk hn ho ha=>exact aF4 (aQK h hi hn ho ha)
 |keep m' a ha h1 h2 h3 h4=>simp only[List.append_nil];exact⟨by rw[h1];exact hi.mem,by rw[h1];exact hi.len,hi.ap,by rw[h2];exact hi.top⟩
 |merge l hk hr hc=>
  have:=aJW h hi (qT hr) hc
  simp only
  split
  ·exact this
  ·exact aF4 this
theorem OI.ok{m:Mdl}{ops:List Opn}(h:MI m)(hi:OI m ops):∀o∈ops,opOk o=true:=fun o ho=>h.good.ok o ((hi.mem o).2 ho)
theorem OI.le{m:Mdl}{ops:List Opn}(h:MI m)(hi:OI m ops):∀o∈ops,o.at_.c≤m.seen:=fun o ho=>h.cnt o ((hi.mem o).2 ho)
theorem aCJ(l:List Opn)(h:∀o∈l,opOk o=true):∀n:Int,l.foldl (fun n o=>if opOk o=true then eV n o.at_ else n) n=l.foldl (fun n o=>eV n o.at_) n:=by
 induction l with
 |nil=>exact fun n=>rfl
 |cons o l ih=>
  intro n
  rw[List.foldl_cons,List.foldl_cons,if_pos (h o (by simp))]
  exact ih (fun x hx=>h x (List.mem_cons_of_mem _ hx)) _
theorem aMA{a b:Int}{l:List Opn}(ha:0≤a)(h1:∀o∈l,o.at_.c≤a)(h2:a=0∨∃o∈l,o.at_.c=a)(hb:0≤b)(h3:∀o∈l,o.at_.c≤b)(h4:b=0∨∃o∈l,o.at_.c=b):a=b:=by
 rcases h2 with e|⟨x,hx,e⟩<;>rcases h4 with f|⟨y,hy,f⟩
 ·omega
 ·have:=h1 y hy;omega
 ·have:=h3 x hx;omega
 ·have:=h1 y hy;have:=h3 x hx;omega
theorem aHq{m n:Mdl}{ops t:List Opn}(h:MI m)(hi:OI m ops)(hn:MI n)(hl:n.log=⟨[],[]⟩)(hs:n.seen=0)(hp:t.Perm ops):(fO n t).log=m.log∧(fO n t).seen=m.seen:=by
 have hok:∀o∈t,opOk o=true:=fun o ho=>hi.ok h o (hp.mem_iff.1 ho)
 have hap:t.Pairwise (fun a b=>a.at_≠b.at_):=(hp.pairwise_iff (fun{a b:Opn} (h:a.at_≠b.at_) (e:b.at_=a.at_)=>h e.symm)).2 hi.ap
 have hcap:=h.cap
 have hlen:=hi.len
 have htl:=hp.length_eq
 obtain⟨a1,a2⟩:=rR t hn.good hok hap (by rw[hl];intro o _ x hx;simp[opsG]at hx) (by rw[hl];simp only[List.length_nil];omega)
 refine⟨aDl (qG hn.good t) h.good fun x=>?_,?_⟩
 ·show x∈opsG (dO n.log t)↔_
  rw[a1,hl,hi.mem]
  simp[opsG,hp.mem_iff]
 ·show t.foldl (fun n o=>if opOk o=true then eV n o.at_ else n) n.seen=m.seen
  rw[aCJ t hok,hs]
  obtain⟨s1,s2⟩:=kW t 0
  refine aMA (l:=ops) s1 (fun o ho=>s2 o (hp.mem_iff.2 ho) (hi.ok h o ho)) ?_ h.seen (hi.le h) hi.top
  rcases vF t 0 with e|⟨o,ho,e⟩
  ·exact .inl e
  ·exact .inr ⟨o,hp.mem_iff.1 ho,e⟩
theorem aMB{m n:Mdl}{a b:List Opn}(h:MI m)(hi:OI m a)(k:MI n)(ki:OI n b)(hd:∀x∈a,∀y∈b,x.at_≠y.at_)(hc:a.length+b.length≤200):
  (fO m (opsG n.log)).log=(fO n (opsG m.log)).log∧(fO m (opsG n.log)).seen=(fO n (opsG m.log)).seen:=by
 have ap:∀{m:Mdl},MI m→(opsG m.log).Pairwise (fun a b=>a.at_≠b.at_):=fun{m} h=>h.good.srt.imp fun hl e=>by
  rw[e]at hl;rw[oE]at hl;cases hl
 have ha:=hi.len
 have hb:=ki.len
 obtain⟨a1, -⟩:=rR (opsG n.log) h.good k.good.ok (ap k) (fun o ho x hx=>hd x ((hi.mem x).1 hx) o ((ki.mem o).1 ho)) (by rw[iP];omega)
 obtain⟨b1, -⟩:=rR (opsG m.log) k.good h.good.ok (ap h) (fun o ho x hx e=>hd o ((hi.mem o).1 ho) x ((ki.mem x).1 hx) e.symm) (by rw[iP];omega)
 refine⟨aDl (qG h.good _) (qG k.good _) fun x=>?_,?_⟩
 ·show x∈opsG (dO m.log _)↔x∈opsG (dO n.log _)
  rw[a1,b1,Or.comm]
 ·show(opsG n.log).foldl (fun n o=>if opOk o=true then eV n o.at_ else n) m.seen=(opsG m.log).foldl (fun n o=>if opOk o=true then eV n o.at_ else n) n.seen
  rw[aCJ _ k.good.ok,aCJ _ h.good.ok]
  obtain⟨s1,s2⟩:=kW (opsG n.log) m.seen
  obtain⟨t1,t2⟩:=kW (opsG m.log) n.seen
  have h0:=h.seen
  have k0:=k.seen
  have up:∀{m:Mdl} {a:List Opn} {s:Int},MI m→OI m a→0≤s→(∀x∈opsG m.log,opOk x=true→x.at_.c≤s)→m.seen≤s:=fun{m a s} h hi h0 hs=>by
   rcases hi.top with e|⟨o,ho,e⟩
   ·omega
   ·rw[←e];exact hs o ((hi.mem o).2 ho) (hi.ok h o ho)
  have q1:=up k ki (by omega) s2
  have q2:=up h hi (by omega) t2
  rcases vF (opsG n.log) m.seen with e|⟨o,ho,e⟩<;>rcases vF (opsG m.log) n.seen with f|⟨p,hp,f⟩
  ·omega
  ·have:=h.cnt p hp;omega
  ·have:=k.cnt o ho;omega
  ·have:=h.cnt p hp;have:=k.cnt o ho;omega
end Go.Gw
/- What is made is new, and what is written is read, in plain Lean. No condition. -/
namespace Go.Gw
open Go Go.Aw Go.Proofs.YthhdnjiodklmmaaGreatDoor
theorem aJX{l:List Opn}{o:Opn}(h:∀x∈l,fY o.at_ x.at_=false):yI o l=l++[o]:=by
 have h1:kD o l=l:=by
  have:=aBe (fun x=> !fY o.at_ x.at_) l [] (fun x hx=>by rw[h x hx];rfl) (fun x hx=>by cases hx)
  rwa[List.append_nil]at this
 have h2:qF o l=[]:=by
  have e:=congrArg List.length (lN o l)
  rw[h1,List.length_append]at e
  exact List.eq_nil_of_length_eq_zero (by omega)
 rw[yI,h1,h2]
theorem rS{m:Mdl}(h:MI m){o:Opn}(hn:(nextD m).2=0)(ho:opOk o=true)(ha:o.at_=⟨m.seen+1,m.rep⟩):(putM m o).log.nodes=kY m.log.nodes o:=by
 have hl:=(lP hn).2.2.2.2.2
 have hno:∀x∈opsG m.log,x.at_≠o.at_:=fun x hx e=>by have:=h.cnt x hx;rw[e,ha]at this;simp only at this;omega
 have e:=yY h.good ho hno hl
 have hlast:∀x∈opsG m.log,fY o.at_ x.at_=false:=fun x hx=>by
  have:=h.cnt x hx
  rw[aFP,ha]
  simp only
  omega
 show(eK m.log o).nodes=_
 rw[mM (mH h.good o).1,e,aJX hlast,List.foldl_append,←mM h.good]
 rfl
theorem aHr(l:List Nd):∀(k:Nat) (id x:Int),x∈fF l k id→∃n∈l,n.parent=x:=by
 intro k
 induction k with
 |zero=>intro id x h;simp[fF]at h
 |succ k ih=>
  intro id x h
  rw[fF]at h
  cases hf:oL l id with
  |none=>rw[hf]at h;simp at h
  |some n=>
   rw[hf]at h
   simp only at h
   split at h
   ·simp at h
   ·rcases List.mem_cons.1 h with rfl|h
    ·exact⟨n,(aE4 hf).1,rfl⟩
    ·exact ih _ _ h
theorem aUn{q x y:Int}(hx:fV x=true)(h:oA x≤q)(hy:fV y=true)(h2:q<oA y):x<y:=by
 unfold oA at h h2
 rw[if_pos hx]at h
 rw[if_pos hy]at h2
 omega
theorem aFa{m:Mdl}(h:MI m){o:Opn}(hk:o.kind=1)(ho:opOk o=true)(hid:fV o.node=true)(hA:oA o.node=m.seen+1)(hp:oA o.parent≤m.seen):
  kY m.log.nodes o=m.log.nodes++[⟨o.node,o.parent,o.name,o.at_,[],yH⟩]:=by
 have hN:=h.nodes
 obtain⟨l,hl⟩:∃l,l=m.log.nodes:=⟨_,rfl⟩
 rw[←hl]at hN ⊢
 have hlt:∀n∈l,n.id<o.node:=fun n hn=>aUn (aE8 hN.frs hn) (hN.nd n hn).id hid (by omega)
 have hfn:oL l o.node=none:=by
  unfold oL
  rw[List.find?_eq_none]
  intro n hn;have:=hlt n hn;simp;omega
 have hr:bW l o=false:=by
  unfold bW
  rw[hN.frs.chk,ho,hk]
  simp only[Bool.not_true,Bool.false_or,decide_true,Bool.true_and]
  unfold qB
  rw[Bool.or_eq_false_iff]
  refine⟨by simp only[decide_eq_false_iff_not];intro e;rw[e]at hp;omega,?_⟩
  rw[List.any_eq_false]
  intro x hx
  simp only[decide_eq_true_eq]
  rintro rfl
  obtain⟨n,hn,e⟩:=aHr l _ _ _ hx
  have:=(hN.nd n hn).par
  rw[e]at this
  omega
 rw[jZ hr]
 have hnn:cG l o=⟨o.node,o.parent,o.name,o.at_,[],yH⟩:=by
  rw[pE hk,hfn]
  unfold eQ
  rw[hfn]
  rfl
 rw[hnn]
 have hpos:pos l o.node=l.length:=by
  have:=aLW (A:=l) (B:=[]) (id:=o.node) hlt (fun _ hx=>by cases hx)
  rwa[List.append_nil]at this
 have hup:upto l o.node=l.length:=by
  unfold upto had
  rw[hfn,hpos];rfl
 exact aEM _ (A:=l) (B:=[]) (by show l=l.take (pos l o.node);rw[hpos,List.take_length]) (by show[]=l.drop (upto l o.node);rw[hup,List.drop_length])
theorem aJY(s:Txt)(n:Nd)(m:List (Txt×Nd)):dI s (hS s n m)=some n:=by
 induction m with
 |nil=>simp[hS,dI]
 |cons p m ih=>
  obtain⟨k,x⟩:=p
  unfold hS
  by_cases h:k=s
  ·rw[if_pos h];simp[dI]
  ·rw[if_neg h,dI,if_neg h,ih]
theorem aF5{s t:Txt}(h:s≠t)(n:Nd)(m:List (Txt×Nd)):dI t (hS s n m)=dI t m:=by
 induction m with
 |nil=>simp[hS,dI,h]
 |cons p m ih=>
  obtain⟨k,x⟩:=p
  unfold hS
  by_cases hk:k=s
  ·rw[if_pos hk,dI,dI,if_neg h,if_neg (by rw[hk];exact h)]
  ·rw[if_neg hk,dI,dI,ih]
theorem aBW(l:List Nd)(n:Nd)(dir:Int):dE (l++[n]) dir=mS dir (dE l dir) n:=by simp[dE,List.foldl_append]
theorem aHs{l:List Nd}{n:Nd}{dir:Int}(hc:chk (l++[n])=true)(hcl:chk l=true)(hp:n.parent=dir)(hm:okI n.moved.c n.moved.r=true)(h:childN l dir n.name=none):childN (l++[n]) dir n.name=some n:=by
 unfold childN at h ⊢
 rw[if_pos hc,aBW]
 rw[if_pos hcl]at h
 unfold mS inD
 rw[if_pos (by simp[hp,hm])]
 unfold uM
 rw[h]
 exact aJY _ _ _
theorem aHt{l:List Nd}{n:Nd}{dir:Int}{s:Txt}(hc:chk (l++[n])=true)(hcl:chk l=true)(h:¬(n.parent=dir∧n.name=s)):childN (l++[n]) dir s=childN l dir s:=by
 unfold childN
 rw[if_pos hc,if_pos hcl,aBW]
 unfold mS
 split
 ·rename_i hi
  have hp:n.parent=dir:=by simp[inD]at hi;exact hi.1
  have hne:n.name≠s:=fun e=>h ⟨hp,e⟩
  unfold uM
  split
  ·exact aF5 hne _ _
  ·split
   ·rfl
   ·exact aF5 hne _ _
 ·rfl
theorem aJZ(l:List Nd)(b:List Txt):∀(a:List Txt) (x:Int),jW l x (a++b)=if(jW l x a).2=0 then jW l (jW l x a).1 b else jW l x a:=by
 intro a
 induction a with
 |nil=>intro x;rw[List.nil_append,jW,if_pos rfl]
 |cons s a ih=>
  intro x
  rw[List.cons_append,jW,jW]
  split
  ·cases childN l x s with
   |none=>simp
   |some n=>exact ih n.id
  ·simp
theorem aBX{l l':List Nd}(hs:∀(x:Int) (t:Txt) (n:Nd),childN l x t=some n→∃n',childN l' x t=some n'∧n'.id=n.id):∀(names:List Txt) (x d:Int),jW l x names=(d,0)→jW l' x names=(d,0):=by
 intro names
 induction names with
 |nil=>intro x d h;exact h
 |cons s names ih=>
  intro x d h
  rw[jW]at h ⊢
  split at h
  ·rename_i hd
   rw[if_pos hd]
   cases hc:childN l x s with
   |none=>rw[hc]at h;cases h
   |some n=>
    rw[hc]at h
    obtain⟨n',e1,e2⟩:=hs x s n hc
    rw[e1]
    simp only
    rw[e2]
    exact ih _ _ h
  ·cases h
theorem aBY{l:List Nd}{p:Txt}{dir:Int}{s:Txt}(h:abvN l p=(dir,s,0)):∃ns,dJ p=some (ns++[s])∧jX l ns=(dir,0)∧dirI dir=true:=by
 unfold abvN at h
 split at h
 ·cases h
 ·cases h
 ·rename_i x xs hn
  split at h
  ·rename_i h0
   split at h
   ·rename_i hd
    cases h
    exact⟨(x::xs).dropLast,by rw[hn,List.dropLast_concat_getLast],by rw[←h0],hd⟩
   ·cases h
  ·rename_i h0;exact absurd (congrArg (fun z=>z.2.2) h) h0
theorem aQL{l:List Nd}{p:Txt}{ns:List Txt}{s:Txt}{dir:Int}(hn:dJ p=some (ns++[s]))(hf:jX l ns=(dir,0))(hd:dirI dir=true):abvN l p=(dir,s,0):=by
 unfold abvN
 split
 ·rename_i h;rw[hn]at h;cases h
 ·rename_i h;rw[hn]at h;simp at h
 ·rename_i x xs h
  rw[hn]at h
  have h:=Option.some.inj h
  have e1:(x::xs).dropLast=ns:=by rw[←h,List.dropLast_concat]
  have e2:(x::xs).getLast (by simp)=s:=by simp only[←h,List.getLast_concat]
  rw[e1,e2,hf]
  simp[hd]
def bornN(m:Mdl)(c:Cal)(dir:Int)(s:Txt):Nd:=⟨idI (m.seen+1) m.rep (decide (c.kind=1)),dir,s,⟨m.seen+1,m.rep⟩,[],yH⟩
structure Made (m:Mdl) (c:Cal) (dir:Int) (s:Txt):Prop where
 does:doM m c=(tellM m (putM m (bornO m c dir s)),an0,[bornO m c dir s])
 chk:chkC c=true
 root:c.path≠[47]
 abv:abvN m.log.nodes c.path=(dir,s,0)
 none_:childN m.log.nodes dir s=none
 nodes:(putM m (bornO m c dir s)).log.nodes=m.log.nodes++[bornN m c dir s]
 new:∀n∈m.log.nodes,n.id≠idI (m.seen+1) m.rep (decide (c.kind=1))∧n.parent≠idI (m.seen+1) m.rep (decide (c.kind=1))
 ne:dir≠idI (m.seen+1) m.rep (decide (c.kind=1))
 chks:Go.Gw.chk (m.log.nodes++[bornN m c dir s])=true
 dir_:dirI (idI (m.seen+1) m.rep (decide (c.kind=1)))= !decide (c.kind=1)
 child:childN (m.log.nodes++[bornN m c dir s]) dir s=some (bornN m c dir s)
theorem yZ{m:Mdl}{c:Cal}(h0:(doM m c).2.1.err=0):chkC c=true∧(dV c ⟨m,an0,[]⟩).1=0:=by
 unfold doM at h0
 split at h0
 ·cases h0
 ·rename_i hc
  split at h0
  ·rename_i hw;exact⟨by simpa using hc,hw⟩
  ·rename_i hw;exact absurd h0 hw
theorem aUo{m:Mdl}(h:MI m){c:Cal}(hk:c.kind=1∨c.kind=2)(h0:(doM m c).2.1.err=0):∃dir s,Made m c dir s:=by
 obtain⟨hc,hw⟩:=yZ h0
 have hwd:dV c ⟨m,an0,[]⟩=qP c ⟨m,an0,[]⟩:=by unfold dV;rw[if_pos hk]
 rw[hwd]at hw
 rcases tQ (c:=c) (d:=⟨m,an0,[]⟩) h with⟨e,he,e1⟩|⟨dir,s,e1,e2,e3,e4,e5,e6⟩
 ·rw[e1]at hw;exact absurd hw he
 simp only at e2 e3 e4 e5 e6
 obtain⟨n1,n2,n3,n4,n5,n6⟩:=lP e4
 obtain⟨i1,i2,i3,i4⟩:=aN0 (d:=decide (c.kind=1)) (show 1≤m.seen+1 by omega) (show m.seen+1≤1048576 by omega) n4 n5
 obtain⟨a1,a2,a3⟩:=aE6 h.nodes h.seen e2
 have hnodes:(putM m (bornO m c dir s)).log.nodes=m.log.nodes++[bornN m c dir s]:=by
  rw[rS h e4 e5 rfl,aFa h rfl e5 i1 i2 a2]
  rfl
 have hchk:chk (m.log.nodes++[bornN m c dir s])=true:=by
  rw[←hnodes,rS h e4 e5 rfl,aCp,h.nodes.frs.chk]
 refine⟨dir,s,?_,hc,e1,e2,e3,hnodes,fun n hn=>?_,fun e=>?_,hchk,?_,?_⟩
 ·unfold doM
  rw[if_neg (by rw[hc];simp),hwd,e6]
  rfl
 ·have q:=h.nodes.nd n hn
  have q1:=q.id
  have q2:=q.par
  exact⟨fun e=>by rw[e,i2]at q1;omega,fun e=>by rw[e,i2]at q2;omega⟩
 ·rw[e,i2]at a2;omega
 ·unfold dirI
  rw[i1,i4]
  have:128≤idI (m.seen+1) m.rep (decide (c.kind=1)):=(aCf.1 i1).1
  rw[decide_eq_false (by omega),decide_eq_false (by omega)]
  rfl
 ·exact aHs (n:=bornN m c dir s) hchk h.nodes.frs.chk rfl (by rw[pZ];exact⟨by simp only[bornN];omega,by simp only[bornN];omega,n4,n5⟩) e3
theorem Made.find{m:Mdl}{c:Cal}{dir:Int}{s:Txt}(h:MI m)(k:Made m c dir s):∃ns,dJ c.path=some (ns++[s])∧jX (m.log.nodes++[bornN m c dir s]) ns=(dir,0)∧dirI dir=true∧
  jX (m.log.nodes++[bornN m c dir s]) (ns++[s])=(idI (m.seen+1) m.rep (decide (c.kind=1)),0):=by
 obtain⟨ns,hn,hf,hd⟩:=aBY k.abv
 have hf':jX (m.log.nodes++[bornN m c dir s]) ns=(dir,0):=by
  refine aBX (fun x t n hx=>⟨n,?_,rfl⟩) ns 0 dir hf
  rw[aHt k.chks h.nodes.frs.chk,hx]
  rintro⟨rfl,rfl⟩
  have:=k.none_
  rw[show childN m.log.nodes dir s=some n from hx]at this
  cases this
 refine⟨ns,hn,hf',hd,?_⟩
 unfold jX at hf' ⊢
 rw[aJZ,hf']
 simp only[if_true]
 rw[jW,if_pos hd,k.child]
 rfl
theorem aHu{l:List Nd}{dir:Int}(h:∀n∈l,n.parent≠dir):dE l dir=[]:=by
 unfold dE
 have key:∀(l:List Nd),(∀n∈l,n.parent≠dir)→l.foldl (mS dir) []=[]:=by
  intro l
  induction l with
  |nil=>intro _;rfl
  |cons n l ih=>
   intro h
   rw[List.foldl_cons]
   have:mS dir [] n=[]:=by unfold mS inD;rw[if_neg (by simp[h n (by simp)])]
   rw[this]
   exact ih fun x hx=>h x (List.mem_cons_of_mem _ hx)
 exact key l h
theorem aJ0{l:List Nd}{p:Txt}{ns:List Txt}(hn:dJ p=some ns):atN l p=jX l ns:=by unfold atN;rw[hn]
theorem aDC{c:Cal}(hk:c.kind=1∨c.kind=2∨c.kind=3)(h:chkC c=true):jP c.path=true∧c.to=[]:=by
 unfold chkC at h
 rcases hk with e|e|e<;>rw[e]at h
 ·have hp:iA 1=some 1:=rfl
  rw[hp]at h
  simp only[Bool.and_eq_true]at h
  exact⟨by have:=h.1;rw[kE,if_neg (by decide)]at this;exact this,by have:=h.2.1;rw[kE,if_pos (by decide)]at this;simpa using this⟩
 ·have hp:iA 2=some 1:=rfl
  rw[hp]at h
  simp only[Bool.and_eq_true]at h
  exact⟨by have:=h.1;rw[kE,if_neg (by decide)]at this;exact this,by have:=h.2.1;rw[kE,if_pos (by decide)]at this;simpa using this⟩
 ·have hp:iA 3=some 5:=rfl
  rw[hp]at h
  simp only[Bool.and_eq_true]at h
  exact⟨by have:=h.1;rw[kE,if_neg (by decide)]at this;exact this,by have:=h.2.1;rw[kE,if_pos (by decide)]at this;simpa using this⟩
def aG(k:Int)(p:Txt)(n:Int):Cal:=⟨k,p,[],[],n⟩
theorem aF6{k:Int}{p:Txt}{n:Int}(hk:k=4∨k=7)(hp:jP p=true)(hn:0≤n):chkC (aG k p n)=true:=by
 unfold chkC aG
 rcases hk with rfl|rfl
 ·have hq:iA 4=some 9:=rfl
  simp only[hq]
  unfold kE
  rw[if_neg (show ¬cX .and .i64 9 1=0 by decide),if_pos (show cX .and .i64 9 2=0 by decide),if_pos (show cX .and .i64 9 4=0 by decide),if_neg (show ¬cX .and .i64 9 8=0 by decide)]
  simp[hp,hn]
 ·have hq:iA 7=some 9:=rfl
  simp only[hq]
  unfold kE
  rw[if_neg (show ¬cX .and .i64 9 1=0 by decide),if_pos (show cX .and .i64 9 2=0 by decide),if_pos (show cX .and .i64 9 4=0 by decide),if_neg (show ¬cX .and .i64 9 8=0 by decide)]
  simp[hp,hn]
def aBh(g:Nd→Nd)(m:List (Txt×Nd)):List (Txt×Nd):=m.map fun p=>(p.1,g p.2)
section
variable {g:Nd→Nd} (hn:∀n,(g n).name=n.name) (hp:∀n,(g n).parent=n.parent) (hm:∀n,(g n).moved=n.moved)
theorem aDD(s:Txt)(m:List (Txt×Nd)):dI s (aBh g m)=(dI s m).map g:=by
 induction m with
 |nil=>rfl
 |cons p m ih=>
  obtain⟨k,x⟩:=p
  show dI s ((k,g x)::aBh g m)=_
  rw[dI,dI]
  split
  ·rfl
  ·exact ih
theorem aF7(s:Txt)(n:Nd)(m:List (Txt×Nd)):hS s (g n) (aBh g m)=aBh g (hS s n m):=by
 induction m with
 |nil=>rfl
 |cons p m ih=>
  obtain⟨k,x⟩:=p
  show hS s (g n) ((k,g x)::aBh g m)=_
  rw[hS,hS]
  split
  ·rfl
  ·rw[ih];rfl
include hn hm in
theorem aJ1(n:Nd)(m:List (Txt×Nd)):uM (aBh g m) (g n)=aBh g (uM m n):=by
 unfold uM
 rw[hn,aDD]
 cases dI n.name m with
 |none=>exact aF7 _ _ _
 |some o=>
  simp only[Option.map_some]
  rw[hm,hm]
  split
  ·rfl
  ·exact aF7 _ _ _
include hn hp hm in
theorem aJ2(dir:Int)(l:List Nd):dE (l.map g) dir=aBh g (dE l dir):=by
 have key:∀(l:List Nd) (m:List (Txt×Nd)),(l.map g).foldl (mS dir) (aBh g m)=aBh g (l.foldl (mS dir) m):=by
  intro l
  induction l with
  |nil=>exact fun m=>rfl
  |cons n l ih=>
   intro m
   rw[List.map_cons,List.foldl_cons,List.foldl_cons,←ih]
   congr 1
   unfold mS inD
   rw[hp,hm]
   split
   ·exact aJ1 hn hm n m
   ·rfl
 exact key l []
include hn hp hm in
theorem aHv(l:List Nd)(hc:chk (l.map g)=chk l)(dir:Int)(s:Txt):childN (l.map g) dir s=(childN l dir s).map g:=by
 unfold childN
 rw[hc,aJ2 hn hp hm,aDD]
 split<;>rfl
end
def iB(o:Opn)(n:Nd):Nd:=if n.id=o.node then{n with data:=o.data,wrote:=o.at_}else n
theorem aDE{l:List Nd}(hf:Frs l){o:Opn}(hk:o.kind=2)(ho:opOk o=true)(hh:∃n∈l,n.id=o.node):kY l o=l.map (iB o)∧bW l o=false:=by
 have hr:bW l o=false:=by
  unfold bW
  rw[hf.chk,ho,hk]
  rfl
 refine⟨?_,hr⟩
 rw[jZ hr]
 obtain⟨A,B,hA,hB,eA,eB,⟨e,hno⟩|⟨n,hn,e, -⟩⟩:=aAx hf.chk o.node
 ·obtain⟨n,hm,hn⟩:=hh
  rw[e]at hm
  rcases List.mem_append.1 hm with hm|hm
  ·have:=hA n hm;omega
  ·have:=hB n hm;omega
 ·have hfn:oL l o.node=some n:=by rw[e];exact uN hA hn
  have hnew:cG l o=iB o n:=by
   unfold cG eQ iB
   rw[hfn,hk,if_pos hn]
   rfl
  have hid:(iB o n).id=o.node:=by unfold iB;rw[if_pos hn];exact hn
  rw[hnew,e,aFO (n:=iB o n) (by rw[hid];exact hA) (by rw[hid];exact hn),List.map_append,List.map_cons]
  have k1:A.map (iB o)=A:=by
   conv=>rhs;rw[←List.map_id A]
   refine List.map_congr_left fun x hx=>?_
   have:=hA x hx
   unfold iB;rw[if_neg (by omega)];rfl
  have k2:B.map (iB o)=B:=by
   conv=>rhs;rw[←List.map_id B]
   refine List.map_congr_left fun x hx=>?_
   have:=hB x hx
   unfold iB;rw[if_neg (by omega)];rfl
  rw[k1,k2]
theorem rT(o:Opn)(n:Nd):(iB o n).id=n.id∧(iB o n).name=n.name∧(iB o n).parent=n.parent∧(iB o n).moved=n.moved:=by
 unfold iB;split<;>exact⟨rfl,rfl,rfl,rfl⟩
structure Written (m:Mdl) (c:Cal) (id:Int):Prop where
 does:doM m c=(tellM m (putM m (writeO m c id)),an0,[writeO m c id])
 chk:chkC c=true
 file:dirI id=false
 at_:atN (putM m (writeO m c id)).log.nodes c.path=(id,0)
 data:((findI (putM m (writeO m c id)).log.nodes id).getD nd0).data=c.data
theorem aMC{m:Mdl}(h:MI m){c:Cal}(hk:c.kind=3)(h0:(doM m c).2.1.err=0):∃id,Written m c id:=by
 obtain⟨hc,hw⟩:=yZ h0
 have hwd:dV c ⟨m,an0,[]⟩=qQ c ⟨m,an0,[]⟩:=by unfold dV;rw[if_neg (by omega),if_pos hk]
 rw[hwd]at hw
 rcases qS (c:=c) (d:=⟨m,an0,[]⟩) h (aAR hc hk)with⟨e,he,e1⟩|⟨id,e1,e2,e3,e4,e5⟩
 ·rw[e1]at hw;exact absurd hw he
 simp only at e1 e3 e4 e5
 obtain⟨ns,hns,hat⟩:=aE5 e1
 have hin:∃n∈m.log.nodes,n.id=id:=by
  rcases hat with⟨-,e⟩|hat
  ·rw[e]at e2;cases e2
  ·exact hat
 obtain⟨w1,w2⟩:=aDE (o:=writeO m c id) h.nodes.frs rfl e4 hin
 have hnodes:(putM m (writeO m c id)).log.nodes=m.log.nodes.map (iB (writeO m c id)):=by rw[rS h e3 e4 rfl,w1]
 have hchk:chk (m.log.nodes.map (iB (writeO m c id)))=chk m.log.nodes:=by rw[←w1,aCp]
 refine⟨id,?_,hc,e2,?_,?_⟩
 ·unfold doM
  rw[if_neg (by rw[hc];simp),hwd,e5]
  rfl
 ·rw[hnodes,aJ0 hns]
  rw[aJ0 hns]at e1
  refine aBX (fun x t n hx=>⟨iB (writeO m c id) n,?_,(rT _ _).1⟩) ns 0 id e1
  rw[aHv (fun n=>(rT _ n).2.1) (fun n=>(rT _ n).2.2.1) (fun n=>(rT _ n).2.2.2) _ hchk,hx]
  rfl
 ·rw[rS h e3 e4 rfl,aL8 _ _ h.nodes.frs.chk w2,if_pos (show id=(writeO m c id).node from rfl),Option.getD_some,nN rfl]
  rfl
theorem aJ3{w:Mdl}{p:Txt}{id:Int}(hp:jP p=true)(ha:atN w.log.nodes p=(id,0))(hd:dirI id=false):doM w (aG 4 p 0)=(w,{an0 with data:=((findI w.log.nodes id).getD nd0).data},[]):=by
 unfold doM
 rw[if_neg (by rw[aF6 (.inl rfl) hp (Int.le_refl _)];simp)]
 have hw:dV (aG 4 p 0) ⟨w,an0,[]⟩=nG (aG 4 p 0) ⟨w,an0,[]⟩:=by unfold dV;rfl
 have hr:nG (aG 4 p 0) ⟨w,an0,[]⟩=(0,⟨w,{an0 with data:=((findI w.log.nodes id).getD nd0).data},[]⟩):=by
  unfold nG
  simp only[eG,aG,if_true]
  simp[ha,hd]
 rw[hw,hr]
 rfl
theorem aJ4{w:Mdl}{p:Txt}{id:Int}(hp:jP p=true)(ha:atN w.log.nodes p=(id,0))(hd:dirI id=true):doM w (aG 7 p 0)=(w,{an0 with names:=xS w.log.nodes id},[]):=by
 unfold doM
 rw[if_neg (by rw[aF6 (.inr rfl) hp (Int.le_refl _)];simp)]
 have hw:dV (aG 7 p 0) ⟨w,an0,[]⟩=lsD (aG 7 p 0) ⟨w,an0,[]⟩:=by unfold dV;rfl
 have hr:lsD (aG 7 p 0) ⟨w,an0,[]⟩=(0,⟨w,{an0 with names:=xS w.log.nodes id},[]⟩):=by
  unfold lsD
  simp only[eG,aG,if_true]
  simp[ha,hd]
 rw[hw,hr]
 rfl
theorem aJ5{p:Txt}(hp:jP p=true):chkC (aG 1 p 0)=true:=by
 unfold chkC aG
 have hq:iA 1=some 1:=rfl
 simp only[hq]
 unfold kE
 rw[if_neg (show ¬cX .and .i64 1 1=0 by decide),if_pos (show cX .and .i64 1 2=0 by decide),if_pos (show cX .and .i64 1 4=0 by decide),if_pos (show cX .and .i64 1 8=0 by decide)]
 simp[hp]
theorem aHw{w:Mdl}{p:Txt}{dir:Int}{s:Txt}{n:Nd}(hp:jP p=true)(hr:p≠[47])(ha:abvN w.log.nodes p=(dir,s,0))(hc:childN w.log.nodes dir s=some n):doM w (aG 1 p 0)=(w,errA 190,[]):=by
 unfold doM
 rw[if_neg (by rw[aJ5 hp];simp)]
 have hw:dV (aG 1 p 0) ⟨w,an0,[]⟩=qP (aG 1 p 0) ⟨w,an0,[]⟩:=by unfold dV;rfl
 have hb:qP (aG 1 p 0) ⟨w,an0,[]⟩=(190,⟨w,an0,[]⟩):=by
  unfold qP
  rw[if_neg (by exact hr)]
  simp only[aG]
  simp[ha,hc]
 rw[hw,hb]
 rfl
theorem aDF{m:Mdl}(h:MI m){c:Cal}(hk:c.kind=3)(h0:(doM m c).2.1.err=0):(doM (doM m c).1 (aG 4 c.path 0)).2.1={an0 with data:=c.data}:=by
 obtain⟨id,w⟩:=aMC h hk h0
 rw[w.does]
 have:=aJ3 (w:=tellM m (putM m (writeO m c id))) (aDC (.inr (.inr hk)) w.chk).1 w.at_ w.file
 rw[this]
 simp only
 rw[show(tellM m (putM m (writeO m c id))).log=(putM m (writeO m c id)).log from rfl,w.data]
theorem aFb{m:Mdl}(h:MI m){c:Cal}(hk:c.kind=2)(h0:(doM m c).2.1.err=0):(doM (doM m c).1 (aG 7 c.path 0)).2.1=an0∧(doM (doM m c).1 (aG 1 c.path 0)).2.1=errA 190:=by
 obtain⟨dir,s,k⟩:=aUo h (.inr hk) h0
 obtain⟨ns,hn,hf,hd,hfi⟩:=k.find h
 have hp:=(aDC (.inr (.inl hk)) k.chk).1
 have hno:decide (c.kind=1)=false:=decide_eq_false (by omega)
 rw[k.does]
 simp only
 have hlog:(tellM m (putM m (bornO m c dir s))).log.nodes=m.log.nodes++[bornN m c dir s]:=k.nodes
 constructor
 ·rw[aJ4 hp (id:=idI (m.seen+1) m.rep (decide (c.kind=1))) (by rw[hlog,aJ0 hn];exact hfi) (by rw[k.dir_,hno];rfl)]
  simp only
  rw[hlog]
  have:xS (m.log.nodes++[bornN m c dir s]) (idI (m.seen+1) m.rep (decide (c.kind=1)))=[]:=by
   unfold xS
   rw[if_pos k.chks,aHu]
   ·simp[pL]
   ·intro n hn'
    rcases List.mem_append.1 hn' with hn'|hn'
    ·exact(k.new n hn').2
    ·rw[List.mem_singleton]at hn';subst hn';exact k.ne
  rw[this]
  rfl
 ·rw[aHw hp k.root (by rw[hlog];exact aQL hn hf hd) (by rw[hlog];exact k.child)]
end Go.Gw
/- What handles keep: snapshots and watches, call by call, in plain Lean. No condition. -/
namespace Go.Gw
open Go Go.Aw Go.Proofs.YthhdnjiodklmmaaGreatDoor
theorem aQM{r:Int}(h:r≠47):(47:UInt8)∉Lib.encodeRune r:=by
 unfold Lib.encodeRune
 intro hm
 obtain⟨x,hx,he⟩:=List.mem_map.1 hm
 have hx2:0≤x∧x<256∧x≠47:=by
  unfold Lib.encodeRuneZ at hx
  split at hx
  ·simp only[List.mem_cons,List.not_mem_nil,or_false]at hx;omega
  ·split at hx
   ·simp only[List.mem_cons,List.not_mem_nil,or_false]at hx;omega
   ·split at hx
    ·simp only[List.mem_cons,List.not_mem_nil,or_false]at hx;omega
    ·split at hx
     ·simp only[List.mem_cons,List.not_mem_nil,or_false]at hx;omega
     ·simp only[List.mem_cons,List.not_mem_nil,or_false]at hx;omega
 have h1:=congrArg UInt8.toNat he
 have h2:(x.toNat.toUInt8).toNat=x.toNat:=by
  rw[Nat.toUInt8_eq,UInt8.toNat_ofNat'];omega
 rw[h2]at h1
 simp at h1
 omega
theorem aHx{s:Txt}(h:iV s=true):(47:UInt8)∉s:=by
 unfold iV at h
 cases hs:mZ s with
 |none=>rw[hs]at h;cases h
 |some l=>
  rw[hs]at h
  simp only at h
  have hb:l.any uI=false:=by
   cases hc:(decide ((l.length:Int)<1)||decide (20<(l.length:Int))||decide (s=[46])||decide (s=[46,46]))with
   |true=>rw[hc]at h;cases h
   |false=>rw[hc]at h;simpa using h
  rw[(lD hs).1]
  intro hm
  obtain⟨r,hr,hx⟩:=List.mem_flatMap.1 hm
  refine aQM (fun e=>?_) hx
  have:=List.any_eq_false.1 hb r hr
  rw[e]at this
  exact this rfl
def NoS(l:List Nd):Prop:=∀n∈l,(47:UInt8)∉n.name
theorem aQN{l:List Nd}{o:Opn}(h:NoS l)(ho:opOk o=true):NoS (kY l o):=by
 cases hr:bW l o with
 |true=>intro n hn;rw[kY,if_pos hr]at hn;exact h n hn
 |false=>
  rw[jZ hr]
  have hw:(47:UInt8)∉(eQ l o).name:=by
   unfold eQ
   split
   ·rename_i n hf;exact h n (aE4 hf).1
   ·simp[nd0]
  intro n hn
  rcases aCt hn with rfl|hn
  ·unfold cG
   split
   ·rename_i hk
    refine aHx ?_
    unfold opOk at ho
    simp only[Bool.and_eq_true]at ho
    have h4:=ho.2
    rw[if_pos (by simpa using hk)]at h4
    unfold rZ at h4
    simp only[Bool.and_eq_true]at h4
    simp_all
   ·exact hw
  ·exact h n hn
theorem aHy(s:List Opn){l:List Nd}(h:NoS l)(hs:∀o∈s,opOk o=true):NoS (s.foldl kY l):=by
 induction s generalizing l with
 |nil=>exact h
 |cons o s ih=>exact ih (aQN h (hs o (by simp))) fun o ho=>hs o (List.mem_cons_of_mem _ ho)
theorem MI.nos{m:Mdl}(h:MI m):NoS m.log.nodes:=by
 rw[mM h.good]
 exact aHy _ (fun n hn=>by cases hn) h.good.ok
theorem aQO{s t r r':Txt}(hs:(47:UInt8)∉s)(ht:(47:UInt8)∉t)(h1:r=[]∨∃q,r=47::q)(h2:r'=[]∨∃q,r'=47::q)(h:s++r=t++r'):s=t:=by
 induction s generalizing t with
 |nil=>
  cases t with
  |nil=>rfl
  |cons c t=>
   rcases h1 with rfl|⟨q,rfl⟩
   ·simp at h
   ·simp only[List.nil_append,List.cons_append,List.cons.injEq]at h
    exact absurd (by rw[←h.1];exact .head _) ht
 |cons c s ih=>
  cases t with
  |nil=>
   rcases h2 with rfl|⟨q,rfl⟩
   ·simp at h
   ·simp only[List.nil_append,List.cons_append,List.cons.injEq]at h
    exact absurd (by rw[h.1];exact .head _) hs
  |cons d t=>
   simp only[List.cons_append,List.cons.injEq]at h
   rw[h.1,ih (fun hm=>hs (.tail _ hm)) (fun hm=>ht (.tail _ hm)) h.2]
theorem aHz{l:List Nd}{dir:Int}{s:Txt}(h:s∈(dE l dir).map (·.1)):∃n∈l,n.name=s:=by
 obtain⟨p,hp,rfl⟩:=List.mem_map.1 h
 have hn:=(oG l dir).2 p hp
 have key:∀(l':List Nd) (m:List (Txt×Nd)),(∀q∈m,q.2∈l)→(∀n∈l',n∈l)→∀q∈l'.foldl (mS dir) m,q.2∈l:=by
  intro l'
  induction l' with
  |nil=>intro m h _;exact h
  |cons n l' ih=>
   intro m h hl
   rw[List.foldl_cons]
   refine ih _ (fun q hq=>?_) fun x hx=>hl x (List.mem_cons_of_mem _ hx)
   unfold mS at hq
   split at hq
   ·unfold uM at hq
    have aD:∀(s:Txt) (m:List (Txt×Nd)),(∀q∈m,q.2∈l)→∀q∈hS s n m,q.2∈l:=by
     intro s m
     induction m with
     |nil=>intro _ q hq;rw[hS,List.mem_singleton]at hq;subst hq;exact hl n (by simp)
     |cons p m ihm=>
      intro h q hq
      rw[hS]at hq
      split at hq
      ·cases hq with
       |head=>exact hl n (by simp)
       |tail _ hq=>exact h q (.tail _ hq)
      ·cases hq with
       |head=>exact h _ (.head _)
       |tail _ hq=>exact ihm (fun q hq=>h q (.tail _ hq)) q hq
    repeat' split at hq
    all_goals first|exact aD _ _ h q hq|exact h q hq
   ·exact h q hq
 exact⟨p.2,key l [] (fun q hq=>by cases hq) (fun n hn=>hn) p hp,hn⟩
def Bel(path s:Txt)(x:Itm):Prop:=∃r,x.path=path++(47::(s++r))∧(r=[]∨∃q,r=47::q)
def zA(l:List Nd)(out:List Int)(k:Nat)(dir:Int)(path:Txt)(s:Txt):List Itm:=match dI s (dE l dir)with
 |some n=>⟨path++(47::s),n.id,n.data⟩::(if dirI n.id=true then kV l out k n.id (path++(47::s))else[])
 |none=>[]
theorem aDG{l:List Nd}(hs:NoS l)(out:List Int):∀(k:Nat) (dir:Int) (path:Txt),(kV l out k dir path).Pairwise (fun x y=>x.path≠y.path)∧∀x∈kV l out k dir path,∃s,Bel path s x:=by
 intro k
 induction k with
 |zero=>intro dir path;exact⟨.nil,fun x hx=>by cases hx⟩
 |succ k ih=>
  intro dir path
  have hpc:∀s,(∀x∈zA l out k dir path s,Bel path s x)∧(zA l out k dir path s).Pairwise (fun x y=>x.path≠y.path):=by
   intro s
   unfold zA
   split
   ·rename_i n hn
    have hdeep:∀x∈(if dirI n.id=true then kV l out k n.id (path++(47::s))else[]),∃t q,x.path=path++(47::(s++(47::(t++q)))):=by
     intro x hx
     split at hx
     ·obtain⟨t,q,e, -⟩:=(ih n.id (path++(47::s))).2 x hx
      exact⟨t,q,by rw[e];simp⟩
     ·cases hx
    refine⟨fun x hx=>?_,?_⟩
    ·cases hx with
     |head=>exact⟨[],by simp,.inl rfl⟩
     |tail _ hx=>
      obtain⟨t,q,e⟩:=hdeep x hx
      exact⟨47::(t++q),e,.inr ⟨_,rfl⟩⟩
    ·refine List.pairwise_cons.2 ⟨fun x hx e=>?_,?_⟩
     ·obtain⟨t,q,e'⟩:=hdeep x hx
      rw[e']at e
      have:=congrArg List.length e
      simp at this
     ·split
      ·exact(ih _ _).1
      ·exact .nil
   ·exact⟨fun x hx=>(by cases hx),.nil⟩
  have hst:kV l out (k+1) dir path=(pL (((dE l dir).filter fun p=> !out.contains p.2.id).map (·.1))).flatMap (zA l out k dir path):=rfl
  have hno:∀s∈pL (((dE l dir).filter fun p=> !out.contains p.2.id).map (·.1)),(47:UInt8)∉s:=by
   intro s hm
   have hm':=(mK _).mem_iff.1 hm
   obtain⟨p,hp,rfl⟩:=List.mem_map.1 hm'
   obtain⟨n,hn,e⟩:=aHz (l:=l) (dir:=dir) (List.mem_map_of_mem (List.mem_filter.1 hp).1)
   rw[←e];exact hs n hn
  rw[hst]
  refine⟨List.pairwise_flatMap.2 ⟨fun s _=>(hpc s).2,?_⟩,fun x hx=>?_⟩
  ·have hnd:(pL (((dE l dir).filter fun p=> !out.contains p.2.id).map (·.1))).Nodup:=(mK _).nodup_iff.2 (aAK (oG l dir).1 _)
   refine List.Pairwise.imp_of_mem (fun{s t} hs ht hne x hx y hy e=>?_) hnd
   obtain⟨r,e1,h1⟩:=(hpc s).1 x hx
   obtain⟨r',e2,h2⟩:=(hpc t).1 y hy
   rw[e1,e2]at e
   have:=List.append_cancel_left e
   simp only[List.cons.injEq,true_and]at this
   exact hne (aQO (hno s hs) (hno t ht) h1 h2 this)
  ·obtain⟨s,hs',hx⟩:=List.mem_flatMap.1 hx
   exact⟨s,(hpc s).1 x hx⟩
theorem aBZ{l:List Itm}(h:l.Pairwise fun x y=>x.path≠y.path){t:Itm}(ht:t∈l):lookI t.path l=some t:=by
 unfold lookI
 have key:∀{l:List Itm},l.Pairwise (fun x y=>x.path≠y.path)→t∈l→l.find? (fun x=>decide (x.path=t.path))=some t:=by
  intro l
  induction l with
  |nil=>intro _ h;cases h
  |cons x l ih=>
   intro hp ht
   rw[List.pairwise_cons]at hp
   rw[List.find?_cons]
   cases ht with
   |head=>simp
   |tail _ ht=>
    rw[decide_eq_false (hp.1 t ht)]
    exact ih hp.2 ht
 exact key (List.pairwise_reverse.2 (h.imp fun h e=>h e.symm)) (List.mem_reverse.2 ht)
theorem aHA{l:List Itm}(h:l.Pairwise fun x y=>x.path≠y.path):oF l l=[]:=by
 have h1:∀t∈l,aAH l t=false:=fun t ht=>by unfold aAH;rw[aBZ h ht];simp
 have h2:∀t∈l,aCz l t=false:=fun t ht=>by unfold aCz;rw[aBZ h ht];simp
 unfold oF
 rw[List.filter_eq_nil_iff.2 (fun t ht=>by rw[h1 t (List.mem_reverse.1 ht)];simp),List.filter_eq_nil_iff.2 (fun t ht=>by rw[h1 t ht];simp),List.filter_eq_nil_iff.2 (fun t ht=>by rw[h2 t ht];simp)]
 rfl
theorem aFc{l:List Nd}(h:NoS l)(dir:Int):oF (dD l dir) (dD l dir)=[]:=by
 refine aHA ?_
 unfold dD
 split
 ·exact(aDG h _ _ _ _).1
 ·exact .nil
theorem aMD(e:List Evt)(over:Bool):kC e over []=(e,over):=by
 unfold kC
 cases over with
 |true=>rfl
 |false=>simp
theorem aHB{l:List Nd}(h:NoS l)(w:Wch):uV l l w=w:=by
 unfold uV
 rw[aFc h,aMD]
def aAS(m:Mdl)(c:Cal):Mdl:=if(doM m c).2.1.err=0 then(dV c ⟨m,an0,[]⟩).2.m else m
theorem aME{m:Mdl}{c:Cal}(h:MI m)(hc:chkC c=true)(hw:(dV c ⟨m,an0,[]⟩).1=0):(dV c ⟨m,an0,[]⟩).2.a.err=0∧((dV c ⟨m,an0,[]⟩).2.ops=[]→(dV c ⟨m,an0,[]⟩).2.m.log=m.log):=by
 have hs:=aBV h hc
 generalize dV c ⟨m,an0,[]⟩=r at hs hw ⊢
 cases hs with
 |err e d he=>exact absurd hw he
 |put o hk hn ho ha=>exact⟨rfl,fun h=>by cases h⟩
 |keep m' a ha h1 h2 h3 h4=>exact⟨ha,fun _=>h1⟩
 |merge l hk hr hc'=>
  refine⟨rfl,fun h0=>?_⟩
  simp only at h0
  show(mergeM m l).log=m.log
  unfold mergeM
  simp only[h0]
  rfl
theorem aFd{m:Mdl}(h:MI m)(c:Cal):(doM m c).1.log=(aAS m c).log∧(doM m c).1.snaps=(aAS m c).snaps∧(doM m c).1.next=(aAS m c).next∧(doM m c).1.watches=(aAS m c).watches.map (uV m.log.nodes (doM m c).1.log.nodes):=by
 have hself:∀m':Mdl,m'.log=m.log→m'.watches=m'.watches.map (uV m.log.nodes m'.log.nodes):=fun m' e=>by
  rw[e,List.map_congr_left (g:=id) fun w _=>aHB h.nos w,List.map_id]
 unfold aAS
 cases hc:chkC c with
 |false=>
  have hd:doM m c=(m,errA 180,[]):=by unfold doM;rw[if_pos hc]
  rw[hd]
  rw[if_neg (show ¬(errA 180).err=0 by decide)]
  exact⟨rfl,rfl,rfl,hself m rfl⟩
 |true=>
  by_cases hw:(dV c ⟨m,an0,[]⟩).1=0
  ·obtain⟨ha,hl⟩:=aME h hc hw
   by_cases ho:(dV c ⟨m,an0,[]⟩).2.ops=[]
   ·have hd:doM m c=((dV c ⟨m,an0,[]⟩).2.m,(dV c ⟨m,an0,[]⟩).2.a,[]):=by unfold doM;rw[if_neg (by rw[hc];simp),if_pos hw,if_pos ho]
    rw[hd]
    simp only
    rw[if_pos ha]
    exact⟨rfl,rfl,rfl,hself _ (hl ho)⟩
   ·have hd:doM m c=((uW m.log.nodes (dV c ⟨m,an0,[]⟩).2).m,(dV c ⟨m,an0,[]⟩).2.a,(dV c ⟨m,an0,[]⟩).2.ops):=by unfold doM;rw[if_neg (by rw[hc];simp),if_pos hw,if_neg ho]
    rw[hd]
    simp only
    rw[if_pos ha]
    exact⟨rfl,rfl,rfl,rfl⟩
  ·have hd:doM m c=(m,errA (dV c ⟨m,an0,[]⟩).1,[]):=by unfold doM;rw[if_neg (by rw[hc];simp),if_neg hw]
   rw[hd]
   simp only
   rw[if_neg (show ¬(errA (dV c ⟨m,an0,[]⟩).1).err=0 from hw)]
   exact⟨rfl,rfl,rfl,hself m rfl⟩
inductive HaS (m:Mdl) (c:Cal) (w:Mdl):Prop
 |same (h1:w.snaps=m.snaps) (h2:w.watches=m.watches) (h3:w.next=m.next)
 |snap (hk:c.kind=8) (h1:w.snaps=m.snaps++[⟨m.next,m.log.nodes⟩]) (h2:w.watches=m.watches) (h3:w.next=IntKind.i64.wrap (m.next+1))
 |drop (hk:c.kind=9) (h1:w.snaps=m.snaps.filter fun s=> !decide (s.n=c.n)) (h2:w.watches=m.watches.filter fun s=> !decide (s.n=c.n)) (h3:w.next=m.next)
 |watch (hk:c.kind=10) (dir:Int) (h1:w.snaps=m.snaps) (h2:w.watches=m.watches++[⟨m.next,dir,[],false⟩]) (h3:w.next=IntKind.i64.wrap (m.next+1))
 |poll (hk:c.kind=11) (h1:w.snaps=m.snaps) (h2:w.watches=emptyW c.n m.watches) (h3:w.next=m.next)
theorem rU(d:Dsk)(o:Opn):(mU d o).2.m.snaps=d.m.snaps∧(mU d o).2.m.watches=d.m.watches∧(mU d o).2.m.next=d.m.next:=by
 unfold mU
 split<;>exact⟨rfl,rfl,rfl⟩
theorem rV(d:Dsk)(o:Opn):(tL d o).2.m.snaps=d.m.snaps∧(tL d o).2.m.watches=d.m.watches∧(tL d o).2.m.next=d.m.next:=by
 unfold tL
 split
 ·split
  ·exact rU _ _
  ·exact rU _ _
 ·exact⟨rfl,rfl,rfl⟩
theorem aAT:∀(l:List Opn) (d:Dsk),(iN d l).2.m.snaps=d.m.snaps∧(iN d l).2.m.watches=d.m.watches∧(iN d l).2.m.next=d.m.next
 |[],d=>⟨rfl,rfl,rfl⟩
 |o::l,d=>by
  rw[iN]
  split
  ·obtain⟨a1,a2,a3⟩:=aAT l (mU d o).2
   obtain⟨b1,b2,b3⟩:=rU d o
   exact⟨a1.trans b1,a2.trans b2,a3.trans b3⟩
  ·exact rU _ _
theorem wR(m:Mdl)(c:Cal):HaS m c (aAS m c):=by
 unfold aAS
 split
 ·rename_i h0
  obtain⟨hc,hw⟩:=yZ h0
  have hk:=vD hc
  have hsame:∀{d:Dsk},d.m.snaps=m.snaps∧d.m.watches=m.watches∧d.m.next=m.next→HaS m c d.m:=fun h=>.same h.1 h.2.1 h.2.2
  unfold dV
  by_cases k1:c.kind=1∨c.kind=2
  ·rw[if_pos k1]
   refine hsame ?_
   unfold qP
   repeat' split
   all_goals first|exact⟨rfl,rfl,rfl⟩|exact rV _ _
  rw[if_neg k1]
  by_cases k3:c.kind=3
  ·rw[if_pos k3]
   refine hsame ?_
   unfold qQ
   repeat' split
   all_goals first|exact⟨rfl,rfl,rfl⟩|exact rV _ _
  rw[if_neg k3]
  by_cases k4:c.kind=4
  ·rw[if_pos k4]
   refine hsame ?_
   unfold nG
   repeat' split
   all_goals exact⟨rfl,rfl,rfl⟩
  rw[if_neg k4]
  by_cases k5:c.kind=5
  ·rw[if_pos k5]
   refine hsame ?_
   unfold aAJ
   repeat' split
   all_goals first|exact⟨rfl,rfl,rfl⟩|exact rV _ _
  rw[if_neg k5]
  by_cases k6:c.kind=6
  ·rw[if_pos k6]
   refine hsame ?_
   unfold pF
   repeat' split
   all_goals first|exact⟨rfl,rfl,rfl⟩|exact rV _ _
  rw[if_neg k6]
  by_cases k7:c.kind=7
  ·rw[if_pos k7]
   refine hsame ?_
   unfold lsD
   repeat' split
   all_goals exact⟨rfl,rfl,rfl⟩
  rw[if_neg k7]
  by_cases k8:c.kind=8
  ·rw[if_pos k8]
   unfold xT
   split
   ·exact .same rfl rfl rfl
   ·exact .snap k8 rfl rfl rfl
  rw[if_neg k8]
  by_cases k9:c.kind=9
  ·rw[if_pos k9]
   unfold uT
   split
   ·exact .same rfl rfl rfl
   ·exact .drop k9 rfl rfl rfl
  rw[if_neg k9]
  by_cases k10:c.kind=10
  ·rw[if_pos k10]
   unfold qR
   repeat' split
   all_goals first|exact .same rfl rfl rfl|exact .watch k10 _ rfl rfl rfl
  rw[if_neg k10]
  by_cases k11:c.kind=11
  ·rw[if_pos k11]
   unfold uU
   split
   ·exact .same rfl rfl rfl
   ·exact .poll k11 rfl rfl rfl
  rw[if_neg k11]
  by_cases k12:c.kind=12
  ·rw[if_pos k12]
   exact .same rfl rfl rfl
  rw[if_neg k12]
  refine hsame ?_
  unfold tM
  repeat' split
  all_goals first|exact⟨rfl,rfl,rfl⟩|exact aAT _ _
 ·exact .same rfl rfl rfl
structure HI (q:Int) (m:Mdl):Prop where
 lo:1≤m.next
 hi:m.next≤q
 snap:∀s∈m.snaps,s.n<m.next
 watch:∀w∈m.watches,w.n<m.next
theorem aF8(n:Int):∀(l:List Wch),∀w∈emptyW n l,∃v∈l,v.n=w.n
 |[],w,h=>by cases h
 |v::l,w,h=>by
  rw[emptyW]at h
  split at h
  ·cases h with
   |head=>exact⟨v,.head _,rfl⟩
   |tail _ h=>exact⟨w,.tail _ h,rfl⟩
  ·cases h with
   |head=>exact⟨_,.head _,rfl⟩
   |tail _ h=>obtain⟨u,hu,e⟩:=aF8 n l w h;exact⟨u,.tail _ hu,e⟩
theorem aUp{q:Int}{m:Mdl}(h:MI m)(k:HI q m)(hq:q≤1000000)(c:Cal):HI (q+1) (doM m c).1:=by
 obtain⟨-,e2,e3,e4⟩:=aFd h c
 have lo:=k.lo
 have hi:=k.hi
 have hw:IntKind.i64.wrap (m.next+1)=m.next+1:=wrap_i64 (by omega) (by omega)
 have ht:∀w∈(doM m c).1.watches,∃v∈(aAS m c).watches,v.n=w.n:=fun w hm=>by
  rw[e4]at hm
  obtain⟨v,hv,rfl⟩:=List.mem_map.1 hm
  exact⟨v,hv,rfl⟩
 have fin:∀(n:Int),(aAS m c).next=n→1≤n→n≤q+1→(∀s∈(aAS m c).snaps,s.n<n)→(∀w∈(aAS m c).watches,w.n<n)→HI (q+1) (doM m c).1:=fun n hn a b hs hw=>
  ⟨by rw[e3,hn];exact a,by rw[e3,hn];exact b,fun s hm=>by rw[e3,hn];rw[e2]at hm;exact hs s hm,fun w hm=>by rw[e3,hn];obtain⟨v,hv,e⟩:=ht w hm;rw[←e];exact hw v hv⟩
 cases wR m c with
 |same h1 h2 h3=>exact fin _ h3 lo (by omega) (fun s hs=>k.snap s (h1▸hs)) (fun w hw=>k.watch w (h2▸hw))
 |snap hk h1 h2 h3=>
  rw[hw]at h3
  refine fin _ h3 (by omega) (by omega) (fun s hs=>?_) (fun w hw=>by have:=k.watch w (h2▸hw);omega)
  rw[h1,List.mem_append,List.mem_singleton]at hs
  rcases hs with hs|rfl
  ·have:=k.snap s hs;omega
  ·simp only;omega
 |drop hk h1 h2 h3=>exact fin _ h3 lo (by omega) (fun s hs=>k.snap s (List.mem_filter.1 (h1▸hs)).1) (fun w hw=>k.watch w (List.mem_filter.1 (h2▸hw)).1)
 |watch hk dir h1 h2 h3=>
  rw[hw]at h3
  refine fin _ h3 (by omega) (by omega) (fun s hs=>by have:=k.snap s (h1▸hs);omega) (fun w hw=>?_)
  rw[h2,List.mem_append,List.mem_singleton]at hw
  rcases hw with hw|rfl
  ·have:=k.watch w hw;omega
  ·simp only;omega
 |poll hk h1 h2 h3=>exact fin _ h3 lo (by omega) (fun s hs=>k.snap s (h1▸hs)) (fun w hw=>by rw[h2]at hw;obtain⟨v,hv,e⟩:=aF8 _ _ w hw;rw[←e];exact k.watch v hv)
theorem aFe:∀(l:List Cal) {q:Int} {m:Mdl},MI m→HI q m→q+l.length≤1000000→HI (q+l.length) (nP m l).1
 |[],q,m,h,k,_=>by
  show HI (q+((0:Nat):Int)) m
  simpa using k
 |c::l,q,m,h,k,hq=>by
  simp only[List.length_cons]at hq ⊢
  have:=aFe l (nH h c) (aUp h k (by omega) c) (by omega)
  rw[show q+((l.length+1:Nat):Int)=q+1+(l.length:Int) by omega]
  exact this
def KeepS(h:Int)(l:List Nd)(m:Mdl):Prop:=m.snaps.find? (fun s=>decide (s.n=h))=some ⟨h,l⟩
theorem aUq{m:Mdl}(hm:MI m){h:Int}{l:List Nd}(k:KeepS h l m){c:Cal}(hn:¬(c.kind=9∧c.n=h)):KeepS h l (doM m c).1:=by
 unfold KeepS at *
 rw[(aFd hm c).2.1]
 cases wR m c with
 |same h1 h2 h3=>rw[h1];exact k
 |snap hk h1 h2 h3=>rw[h1,List.find?_append,k];rfl
 |drop hk h1 h2 h3=>
  rw[h1,List.find?_filter,←k]
  congr 1
  funext s
  by_cases e:s.n=h
  ·have:¬s.n=c.n:=fun e'=>hn ⟨hk,by rw[←e',e]⟩
   simp[e,show ¬h=c.n from fun e'=>this (e.trans e')]
  ·simp[e]
 |watch hk dir h1 h2 h3=>rw[h1];exact k
 |poll hk h1 h2 h3=>rw[h1];exact k
def KeepW(h dir:Int)(q:List Evt×Bool)(m:Mdl):Prop:=m.watches.find? (fun s=>decide (s.n=h))=some ⟨h,dir,q.1,q.2⟩
theorem aAU{n h:Int}(hne:n≠h):∀(l:List Wch),(emptyW n l).find? (fun s=>decide (s.n=h))=l.find? (fun s=>decide (s.n=h))
 |[]=>rfl
 |w::l=>by
  rw[emptyW]
  split
  ·rename_i e
   rw[List.find?_cons,List.find?_cons]
   simp[show ¬w.n=h from fun e'=>hne (e.symm.trans e')]
  ·rw[List.find?_cons,List.find?_cons,aAU hne l]
theorem xW{h dir:Int}{e:List Evt}{o:Bool}:∀{l:List Wch},l.find? (fun s=>decide (s.n=h))=some ⟨h,dir,e,o⟩→(emptyW h l).find? (fun s=>decide (s.n=h))=some ⟨h,dir,[],o⟩
 |[],k=>by cases k
 |w::l,k=>by
  rw[emptyW]
  split
  ·rename_i e1
   rw[List.find?_cons]at k ⊢
   simp only[e1,decide_true]at k ⊢
   cases k
   rfl
  ·rename_i e1
   rw[List.find?_cons]at k ⊢
   simp only[e1,decide_false]at k ⊢
   exact xW k
theorem aHC{h dir:Int}{q:List Evt×Bool}{l:List Wch}(a b:List Nd)(k:l.find? (fun s=>decide (s.n=h))=some ⟨h,dir,q.1,q.2⟩):(l.map (uV a b)).find? (fun s=>decide (s.n=h))=some ⟨h,dir,(kC q.1 q.2 (oF (dD a dir) (dD b dir))).1,(kC q.1 q.2 (oF (dD a dir) (dD b dir))).2⟩:=by
 rw[List.find?_map]
 have:((fun s:Wch=>decide (s.n=h))∘uV a b)=fun s=>decide (s.n=h):=rfl
 rw[this,k]
 rfl
theorem aUr{m:Mdl}(hm:MI m){h dir:Int}{q:List Evt×Bool}(k:KeepW h dir q m){c:Cal}(hn:¬((c.kind=9∨c.kind=11)∧c.n=h)):
  KeepW h dir (kC q.1 q.2 (oF (dD m.log.nodes dir) (dD (doM m c).1.log.nodes dir))) (doM m c).1:=by
 unfold KeepW at *
 rw[(aFd hm c).2.2.2]
 refine aHC _ _ ?_
 cases wR m c with
 |same h1 h2 h3=>rw[h2];exact k
 |snap hk h1 h2 h3=>rw[h2];exact k
 |drop hk h1 h2 h3=>
  rw[h2,List.find?_filter,←k]
  congr 1
  funext s
  by_cases e:s.n=h
  ·have:¬s.n=c.n:=fun e'=>hn ⟨.inl hk,by rw[←e',e]⟩
   simp[e,show ¬h=c.n from fun e'=>this (e.trans e')]
  ·simp[e]
 |watch hk d h1 h2 h3=>rw[h2,List.find?_append,k];rfl
 |poll hk h1 h2 h3=>rw[h2,aAU (fun e=>hn ⟨.inr hk,e⟩)];exact k
theorem aDH{k:Int}{p:Txt}{n:Int}(hk:k=4∨k=7)(hn:0≤n):chkC (aG k p n)=jP p:=by
 unfold chkC aG
 rcases hk with rfl|rfl
 ·have hq:iA 4=some 9:=rfl
  simp only[hq]
  unfold kE
  rw[if_neg (show ¬cX .and .i64 9 1=0 by decide),if_pos (show cX .and .i64 9 2=0 by decide),if_pos (show cX .and .i64 9 4=0 by decide),if_neg (show ¬cX .and .i64 9 8=0 by decide)]
  simp[hn]
 ·have hq:iA 7=some 9:=rfl
  simp only[hq]
  unfold kE
  rw[if_neg (show ¬cX .and .i64 9 1=0 by decide),if_pos (show cX .and .i64 9 2=0 by decide),if_pos (show cX .and .i64 9 4=0 by decide),if_neg (show ¬cX .and .i64 9 8=0 by decide)]
  simp[hn]
theorem aDI{k:Int}{n:Int}(hk:k=9∨k=11)(hn:0≤n):chkC (aG k [] n)=true:=by
 unfold chkC aG
 rcases hk with rfl|rfl
 ·have hq:iA 9=some 8:=rfl
  simp only[hq]
  unfold kE
  rw[if_pos (show cX .and .i64 8 1=0 by decide),if_pos (show cX .and .i64 8 2=0 by decide),if_pos (show cX .and .i64 8 4=0 by decide),if_neg (show ¬cX .and .i64 8 8=0 by decide)]
  simp[hn]
 ·have hq:iA 11=some 8:=rfl
  simp only[hq]
  unfold kE
  rw[if_pos (show cX .and .i64 8 1=0 by decide),if_pos (show cX .and .i64 8 2=0 by decide),if_pos (show cX .and .i64 8 4=0 by decide),if_neg (show ¬cX .and .i64 8 8=0 by decide)]
  simp[hn]
def aQP(k:Int)(l:List Nd)(p:Txt):Ans:=
 if jP p=false then errA 180 else
 if(atN l p).2=0 then(if dirI (atN l p).1=true then(if k=4 then errA 82 else{an0 with names:=xS l (atN l p).1})else(if k=4 then{an0 with data:=((findI l (atN l p).1).getD nd0).data}else errA 81))
 else errA (atN l p).2
theorem aJ6{m:Mdl}{k:Int}{p:Txt}{n:Int}{l:List Nd}(hk:k=4∨k=7)(hn:0≤n)(hl:eG m n=some l):doM m (aG k p n)=(m,aQP k l p,[]):=by
 unfold doM aQP
 rw[aDH hk hn]
 cases hp:jP p with
 |false=>rw[if_pos rfl,if_pos rfl]
 |true=>
  have e0:¬(true=false):=by simp
  rw[if_neg e0,if_neg e0]
  rcases hk with rfl|rfl
  ·have hw:dV (aG 4 p n) ⟨m,an0,[]⟩=nG (aG 4 p n) ⟨m,an0,[]⟩:=by unfold dV;rfl
   have hr:nG (aG 4 p n) ⟨m,an0,[]⟩=if(atN l p).2=0 then(if dirI (atN l p).1=true then(82,⟨m,an0,[]⟩)else(0,⟨m,{an0 with data:=((findI l (atN l p).1).getD nd0).data},[]⟩))else((atN l p).2,⟨m,an0,[]⟩):=by
    unfold nG
    rw[show eG (Dsk.mk m an0 []).m (aG 4 p n).n=some l from hl]
    rfl
   rw[hw,hr]
   by_cases h1:(atN l p).2=0
   ·by_cases h2:dirI (atN l p).1=true<;>simp[h1,h2,errA,an0]
   ·simp[h1]
  ·have hw:dV (aG 7 p n) ⟨m,an0,[]⟩=lsD (aG 7 p n) ⟨m,an0,[]⟩:=by unfold dV;rfl
   have hr:lsD (aG 7 p n) ⟨m,an0,[]⟩=if(atN l p).2=0 then(if dirI (atN l p).1=true then(0,⟨m,{an0 with names:=xS l (atN l p).1},[]⟩)else(81,⟨m,an0,[]⟩))else((atN l p).2,⟨m,an0,[]⟩):=by
    unfold lsD
    rw[show eG (Dsk.mk m an0 []).m (aG 7 p n).n=some l from hl]
    rfl
   rw[hw,hr]
   by_cases h1:(atN l p).2=0
   ·by_cases h2:dirI (atN l p).1=true<;>simp[h1,h2,errA,an0]
   ·simp[h1]
theorem aJ7{m:Mdl}{k:Int}{p:Txt}{n:Int}(hk:k=4∨k=7)(hn:0≤n)(hl:eG m n=none):(doM m (aG k p n)).2.1.err=191∨(doM m (aG k p n)).2.1.err=180:=by
 unfold doM
 rw[aDH hk hn]
 cases hp:jP p with
 |false=>rw[if_pos rfl];exact .inr rfl
 |true=>
  rw[if_neg (by simp)]
  left
  rcases hk with rfl|rfl
  ·have hw:dV (aG 4 p n) ⟨m,an0,[]⟩=(191,⟨m,an0,[]⟩):=by
    show nG (aG 4 p n) ⟨m,an0,[]⟩=_
    unfold nG
    rw[show eG (Dsk.mk m an0 []).m (aG 4 p n).n=none from hl]
   rw[hw];rfl
  ·have hw:dV (aG 7 p n) ⟨m,an0,[]⟩=(191,⟨m,an0,[]⟩):=by
    show lsD (aG 7 p n) ⟨m,an0,[]⟩=_
    unfold lsD
    rw[show eG (Dsk.mk m an0 []).m (aG 7 p n).n=none from hl]
   rw[hw];rfl
theorem aMF{m:Mdl}(h:MI m):(doM m (aG 8 [] 0)=(m,errA 193,[])∧m.snaps.length=8)∨doM m (aG 8 [] 0)=({m with snaps:=m.snaps++[⟨m.next,m.log.nodes⟩],next:=IntKind.i64.wrap (m.next+1)},{an0 with n:=m.next},[]):=by
 have hc:chkC (aG 8 [] 0)=true:=rfl
 have hw:dV (aG 8 [] 0) ⟨m,an0,[]⟩=xT ⟨m,an0,[]⟩:=rfl
 unfold doM
 rw[if_neg (by rw[hc];simp),hw]
 unfold xT
 simp only
 by_cases h8:(8:Int)≤(m.snaps.length:Int)
 ·rw[if_pos h8]
  exact .inl ⟨rfl,by have:=h.snaps;omega⟩
 ·rw[if_neg h8]
  exact .inr rfl
theorem aHD{q:Int}{m:Mdl}(k:HI q m)(n:Int):KeepS m.next m.log.nodes {m with snaps:=m.snaps++[⟨m.next,m.log.nodes⟩],next:=n}:=by
 unfold KeepS
 rw[List.find?_append]
 have:m.snaps.find? (fun s=>decide (s.n=m.next))=none:=List.find?_eq_none.2 fun s hs=>by have:=k.snap s hs;simp;omega
 rw[this]
 simp
theorem KeepS.nodes{m:Mdl}{h:Int}{l:List Nd}(k:KeepS h l m)(hh:1≤h):eG m h=some l:=by
 unfold eG
 rw[if_neg (by omega),k]
 rfl
theorem aMG{m:Mdl}{h:Int}{l:List Nd}(k:KeepS h l m)(hh:1≤h):∃z,doM m (aG 9 [] h)=(z,an0,[])∧eG z h=none:=by
 have hc:=aDI (k:=9) (n:=h) (.inl rfl) (by omega)
 have hw:dV (aG 9 [] h) ⟨m,an0,[]⟩=uT (aG 9 [] h) ⟨m,an0,[]⟩:=rfl
 have ha:m.snaps.any (fun s=>decide (s.n=h))=true:=by
  rw[List.any_eq_true]
  exact⟨_,List.mem_of_find?_eq_some k,by simp⟩
 have hp:uT (aG 9 [] h) ⟨m,an0,[]⟩=(0,⟨{m with snaps:=m.snaps.filter fun s=> !decide (s.n=h),watches:=m.watches.filter fun s=> !decide (s.n=h)},an0,[]⟩):=by
  unfold uT
  rw[show(aG 9 [] h).n=h from rfl]
  simp only
  rw[if_neg (by rw[ha];simp)]
 unfold doM
 rw[if_neg (by rw[hc];simp),hw,hp]
 refine⟨_,rfl,?_⟩
 unfold eG
 rw[if_neg (by omega),List.find?_eq_none.2 fun s hs=>?_]
 ·rfl
 ·have:=(List.mem_filter.1 hs).2
  simpa using this
theorem aJ8{m:Mdl}(h:MI m)(p:Txt)(h0:(doM m (aG 10 p 0)).2.1.err=0):∃dir,dirI dir=true∧doM m (aG 10 p 0)=({m with watches:=m.watches++[⟨m.next,dir,[],false⟩],next:=IntKind.i64.wrap (m.next+1)},{an0 with n:=m.next},[]):=by
 obtain⟨hc,hw0⟩:=yZ h0
 have hw:dV (aG 10 p 0) ⟨m,an0,[]⟩=qR (aG 10 p 0) ⟨m,an0,[]⟩:=rfl
 unfold doM
 rw[hw]at hw0 ⊢
 rw[if_neg (by rw[hc];simp)]
 unfold qR at hw0 ⊢
 simp only at hw0 ⊢
 by_cases h1:(atN m.log.nodes (aG 10 p 0).path).2=0
 ·rw[if_pos h1]at hw0 ⊢
  by_cases h2:dirI (atN m.log.nodes (aG 10 p 0).path).1=true
  ·rw[if_pos h2]at hw0 ⊢
   by_cases h3:(8:Int)≤(m.watches.length:Int)
   ·rw[if_pos h3]at hw0;cases hw0
   ·rw[if_neg h3]
    exact⟨_,h2,rfl⟩
  ·rw[if_neg h2]at hw0;cases hw0
 ·rw[if_neg h1]at hw0;exact absurd hw0 h1
theorem aFf{q:Int}{m:Mdl}(k:HI q m)(dir n:Int):KeepW m.next dir ([],false) {m with watches:=m.watches++[⟨m.next,dir,[],false⟩],next:=n}:=by
 unfold KeepW
 rw[List.find?_append]
 have:m.watches.find? (fun s=>decide (s.n=m.next))=none:=List.find?_eq_none.2 fun s hs=>by have:=k.watch s hs;simp;omega
 rw[this]
 simp
theorem aF9{m:Mdl}{h dir:Int}{q:List Evt×Bool}(k:KeepW h dir q m)(hh:0≤h):doM m (aG 11 [] h)=({m with watches:=emptyW h m.watches},{an0 with events:=q.1},[]):=by
 have hc:=aDI (k:=11) (n:=h) (.inr rfl) hh
 have hw:dV (aG 11 [] h) ⟨m,an0,[]⟩=uU (aG 11 [] h) ⟨m,an0,[]⟩:=rfl
 have hp:uU (aG 11 [] h) ⟨m,an0,[]⟩=(0,⟨{m with watches:=emptyW h m.watches},{an0 with events:=q.1},[]⟩):=by
  unfold uU
  rw[show(aG 11 [] h).n=h from rfl]
  simp only
  rw[show m.watches.find? (fun w=>decide (w.n=h))=_ from k]
 unfold doM
 rw[if_neg (by rw[hc];simp),hw,hp]
 rfl
theorem aHE{m:Mdl}{h dir:Int}{q:List Evt×Bool}(k:KeepW h dir q m):KeepW h dir ([],q.2) {m with watches:=emptyW h m.watches}:=xW k
theorem KeepW.len{m:Mdl}{h dir:Int}{q:List Evt×Bool}(k:KeepW h dir q m)(hm:MI m):q.1.length≤9∧(q.2=false→q.1.length≤8):=(hm.watch _ (List.mem_of_find?_eq_some k)).2
end Go.Gw
/- A list turned; replicas that do not merge: in plain Lean. No condition. -/
namespace Go.Gw
open Go Go.Aw Go.Proofs.YthhdnjiodklmmaaGreatDoor
def pP(ops:List Opn)(f j:Nat):List Opn:=(List.range j).map fun i=>ops.getD ((i+f) % ops.length) ⟨yH,0,0,0,[],[]⟩
theorem mO(ops:List Opn)(f j:Nat):(pP ops f j).length=j:=by simp[pP]
theorem aHF(ops:List Opn)(f j:Nat):pP ops f (j+1)=pP ops f j++[ops.getD ((j+f) % ops.length) ⟨yH,0,0,0,[],[]⟩]:=by
 simp[pP,List.range_succ]
theorem aB0(ops:List Opn)(f:Nat):(pP ops f ops.length).Perm ops:=by
 by_cases h0:ops.length=0
 ·rw[h0]
  have:ops=[]:=List.eq_nil_of_length_eq_zero h0
  subst this
  exact .refl _
 have hr:=Nat.mod_lt f (Nat.pos_of_ne_zero h0)
 have he:pP ops f ops.length=ops.drop (f % ops.length)++ops.take (f % ops.length):=by
  refine List.ext_getElem (by rw[mO,List.length_append,List.length_drop,List.length_take];omega) fun i h1 h2=>?_
  rw[mO]at h1
  have hm:(i+f) % ops.length=(i+f % ops.length) % ops.length:=(Nat.add_mod_mod ..).symm
  generalize f % ops.length=r at hr hm h2 ⊢
  have hL:(pP ops f ops.length)[i]'(by rw[mO];exact h1)=ops.getD ((i+f) % ops.length) ⟨yH,0,0,0,[],[]⟩:=by simp[pP]
  rw[hL,hm]
  by_cases hc:i+r<ops.length
  ·rw[Nat.mod_eq_of_lt hc,List.getD_eq_getElem?_getD,List.getElem?_eq_getElem hc,Option.getD_some,List.getElem_append_left (by rw[List.length_drop];omega),List.getElem_drop]
   congr 1;omega
  ·have hm2:(i+r) % ops.length=i+r-ops.length:=by rw[Nat.mod_eq_sub_mod (by omega),Nat.mod_eq_of_lt (by omega)]
   rw[hm2,List.getD_eq_getElem?_getD,List.getElem?_eq_getElem (show i+r-ops.length<ops.length by omega),Option.getD_some,List.getElem_append_right (by rw[List.length_drop];omega),List.getElem_take]
   congr 1
   rw[List.length_drop];omega
 rw[he]
 have:=List.perm_append_comm (l₁:=ops.drop (f % ops.length)) (l₂:=ops.take (f % ops.length))
 rwa[List.take_append_drop]at this
theorem aQQ{m:Mdl}(h:MI m){c:Cal}(hk:c.kind≠13):(doM m c).1.rep=m.rep∧(doM m c).2.2.length≤1∧∀o∈(doM m c).2.2,o.at_.r=m.rep:=by
 have hs:=vE h c
 generalize doM m c=r at hs ⊢
 cases hs with
 |err e he=>exact⟨rfl,Nat.zero_le _,fun o ho=>by cases ho⟩
 |put o hk hn ho ha=>exact⟨rfl,Nat.le_refl _,fun x hx=>by rw[List.mem_singleton]at hx;subst hx;rw[ha]⟩
 |keep m' a ha h1 h2 h3 h4=>exact⟨h3,Nat.zero_le _,fun o ho=>by cases ho⟩
 |merge l hk' hr hc=>exact absurd hk' hk
structure Own (m:Mdl) (r:Int) (n:Nat) (ops:List Opn):Prop where
 mi:MI m
 oi:OI m ops
 rep:m.rep=r
 len:ops.length≤n
 all:∀o∈ops,o.at_.r=r
theorem aJ9{m:Mdl}{r:Int}{n:Nat}{ops:List Opn}(h:Own m r n ops){c:Cal}(hk:c.kind≠13):∃ops',Own (doM m c).1 r (n+1) ops':=by
 obtain⟨h1,h2,h3⟩:=aQQ h.mi hk
 refine⟨ops++(doM m c).2.2,nH h.mi c,aN2 h.mi h.oi c,h1.trans h.rep,by rw[List.length_append];have:=h.len;omega,fun o ho=>?_⟩
 rcases List.mem_append.1 ho with ho|ho
 ·exact h.all o ho
 ·rw[h3 o ho,h.rep]
theorem aKa{m n:Mdl}{a b:Nat}{p q:List Opn}(h:Own m 1 a p)(k:Own n 2 b q)(hab:a+b≤200):
  (fO m (opsG n.log)).log=(fO n (opsG m.log)).log∧(fO m (opsG n.log)).seen=(fO n (opsG m.log)).seen:=by
 have h1:=h.len
 have h2:=k.len
 refine aMB h.mi h.oi k.mi k.oi (fun x hx y hy e=>?_) (by omega)
 have e1:=h.all x hx
 have e2:=k.all y hy
 rw[e,e2]at e1
 cases e1
theorem aKb{g:Lg}(hg:Good g)(hl:g.entries.length≤200):NsI 1048576 g.nodes:=by
 have h2:(opsG g).length≤200:=by rw[opsG,List.length_map];exact hl
 rw[mM hg]
 refine⟨aBP _ aFW,?_,aBT _ (fun n hn=>by cases hn) fun o ho=>⟨hg.ok o ho,(tP (hg.ok o ho)).2.1⟩⟩
 have:=aAP (opsG g) []
 simp only[List.length_nil]at *
 omega
theorem aMH{m n:Mdl}{r t:Int}{a b:Nat}{p q:List Opn}(h:Own m r a p)(k:Own n t b q)(hne:r≠t)(hab:a+b≤200):(fO m (opsG n.log)).log.entries.length≤200:=by
 have ap:(opsG n.log).Pairwise (fun a b=>a.at_≠b.at_):=k.mi.good.srt.imp fun hl e=>by
  rw[e]at hl;rw[oE]at hl;cases hl
 have h1:=h.len
 have h2:=k.len
 have h3:=h.oi.len
 have h4:=k.oi.len
 obtain⟨-,a2⟩:=rR (opsG n.log) h.mi.good k.mi.good.ok ap (fun o ho x hx e=>by
  have e1:=h.all x ((h.oi.mem x).1 hx)
  have e2:=k.all o ((k.oi.mem o).1 ho)
  rw[e,e2]at e1
  exact hne e1.symm) (by rw[iP];omega)
 show(dO m.log (opsG n.log)).entries.length≤200
 rw[a2,iP];omega
end Go.Gw
