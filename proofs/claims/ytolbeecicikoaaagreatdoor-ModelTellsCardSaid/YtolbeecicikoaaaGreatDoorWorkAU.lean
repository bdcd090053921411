/- The texts 21 of 53 beneath the rows of this seat (joined by program): the abstract machine, and what the functions answer. No condition. -/
import Derived.Test.YtolbeecicikoaaaGreatDoorWorkAI
import Derived.Test.YtolbeecicikoaaaGreatDoorWorkAN
import Derived.Test.YtolbeecicikoaaaGreatDoorWorkAO
set_option linter.unusedSimpArgs false
set_option linter.unusedVariables false
set_option linter.unusedSectionVars false
set_option maxRecDepth 100000
set_option maxHeartbeats 16000000
namespace Go.Proofs.YtolbeecicikoaaaGreatDoor
def gR(e:Int):Ans:={an0 with err:=e}
def doM(m:Mdl)(c:Cal):Mdl×Ans×List Opn:=
 if chkC c=false then(m,gR 180,[])else
 if(dH c ⟨m,an0,[]⟩).1=0 then
  (if(dH c ⟨m,an0,[]⟩).2.ops=[]then((dH c ⟨m,an0,[]⟩).2.m,(dH c ⟨m,an0,[]⟩).2.a,[])
  else((vM m.log.nodes (dH c ⟨m,an0,[]⟩).2).m,(dH c ⟨m,an0,[]⟩).2.a,(dH c ⟨m,an0,[]⟩).2.ops))
 else(m,gR (dH c ⟨m,an0,[]⟩).1,[])
def uA:Mdl→List Cal→Mdl×List Ans
 |m,[]=>(m,[])
 |m,c::l=>((uA (doM m c).1 l).1,(doM m c).2.1::(uA (doM m c).1 l).2)
def xL(r:Int):Mdl×Int:=if 0≤r∧r≤63 then({sL with rep:=r,next:=1},0)else(sL,20)
def jF(m:Mdl)(l:List Opn):Mdl:={m with log:=eQ m.log l,seen:=l.foldl (fun n o=>if opOk o=true then bY n o.at_ else n) m.seen}
end Go.Proofs.YtolbeecicikoaaaGreatDoor
namespace Go.Proofs.YtolbeecicikoaaaGreatDoor
theorem aNA(l:List Int):(l.flatMap Lib.encodeRune).length≤4 * l.length:=by
 induction l with
 |nil=>simp
 |cons x l ih=>
  have:=(Lib.encodeRuneZ_length x).2
  have e:(Lib.encodeRune x).length=(Lib.encodeRuneZ x).length:=by simp[Lib.encodeRune]
  grind
theorem uB{s:Txt}(h:dO s=true):s.length≤80:=by
 unfold dO at h
 cases hs:kB s with
 |none=>rw[hs]at h;simp at h
 |some l=>
  rw[hs]at h
  have e:=(lL hs).1
  have:=aNA l
  grind
theorem xM{o:Opn}(h:opOk o=true):o.name.length≤80∧o.data.length≤64:=by
 unfold opOk at h
 simp only[zAl]at h
 obtain⟨⟨⟨h1,h2⟩,h3⟩,h4⟩:=h
 split at h4
 ·unfold rJ at h4
  simp only[zAl,zAr]at h4
  exact⟨uB h4.1.2,by rw[h4.2];simp⟩
 ·unfold uY at h4
  grind
theorem aCS{o:Opn}(h:opOk o=true):OpS o:=⟨by have:=(xM h).1;omega,by have:=(xM h).2;omega⟩
theorem aFj(l:List Opn)(es:List Ent)(n:List Nd):(cN l es n).2=l.foldl jQ n:=by
 induction l generalizing es n with
 |nil=>rfl
 |cons o l ih=>rw[cN,ih];rfl
theorem kZ{g:Lg}(h:Good g):g.nodes=(opsG g).foldl jQ []:=by
 have e:=h.log
 have:(logOf (opsG g)).nodes=(opsG g).foldl jQ []:=aFj _ _ _
 rw[←e]at this
 exact this
structure NdI (q:Int) (n:Nd):Prop where
 name:n.name.length≤80
 data:n.data.length≤64
 id:oA n.id≤q
 par:oA n.parent≤q
theorem aDZ{a b n:Int}(h:lU a b n=false)(ha:0≤a):oA n≤a:=by
 unfold lU at h
 cases ho:dQ n with
 |false=>unfold oA;rw[ho];simpa using ha
 |true=>
  rw[ho,zAB]at h
  have:¬iI a b (oA n) (oB n)=true:=by rw[h];simp
  rw[uW]at this
  omega
theorem aUk:oA (-1)=0:=by decide
theorem aUl:oA 2=0:=by decide
theorem aUm:oA 0=0:=by decide
theorem uC{o:Opn}(h:opOk o=true):1≤o.at_.c∧o.at_.c≤1048576∧0≤o.at_.r∧o.at_.r≤63∧oA o.node≤o.at_.c∧oA o.parent≤o.at_.c∧dQ o.node=true∧(o.kind=1∨o.kind=2):=by
 have hk:=aCH h
 unfold opOk at h
 simp only[zAl,zBc]at h
 obtain⟨⟨⟨h1,h2⟩,h3⟩,h4⟩:=h
 rw[oU]at h2
 refine⟨h2.1,h2.2.1,h2.2.2.1,h2.2.2.2,aDZ h3 (by omega),?_,?_,hk⟩
 ·split at h4
  ·unfold rJ at h4
   simp only[zAl,zBc]at h4
   exact aDZ h4.1.1.2 (by omega)
  ·grind [uY,aUm]
 ·split at h4
  ·unfold rJ at h4
   simp only[zAl]at h4
   exact h4.1.1.1.1
  ·unfold uY at h4
   simp only[zAl]at h4
   exact h4.1.1.1.1
theorem aFk{l:List Nd}{x:Int}{n:Nd}(h:lZ l x=some n):n∈l∧n.id=x:=by
 unfold lZ at h
 exact⟨zA5 h,by simpa using zCG h⟩
theorem aRi{q:Int}{l:List Nd}{o:Opn}(h:∀n∈l,NdI q n)(ho:opOk o=true)(hq:o.at_.c≤q):∀n∈jQ l o,NdI q n:=by
 cases hr:bB l o with
 |true=>grind [jQ]
 |false=>
  rw[kD hr]
  obtain⟨p1, -, -, -,p5,p6, -,hk⟩:=uC ho
  obtain⟨s1,s2⟩:=xM ho
  have hw:NdI q (dI l o):=by
   unfold dI
   split
   ·rename_i n hf;exact h n (aFk hf).1
   ·grind [nd0,aUk,Int,List,Opn,NdI,opOk,jQ]
  intro n hn
  rcases aCI hn with rfl|hn
  ·unfold bM
   have hid:(dI l o).id=o.node:=by
    have:=gN l o
    unfold bM at this
    split at this<;>exact this
   split
   ·exact⟨s1,hw.data,hw.id,by simp only;omega⟩
   ·exact⟨hw.name,s2,hw.id,hw.par⟩
  ·exact h n hn
theorem aBW{q:Int}(s:List Opn){l:List Nd}(h:∀n∈l,NdI q n)(hs:∀o∈s,opOk o=true∧o.at_.c≤q):∀n∈s.foldl jQ l,NdI q n:=by
 induction s generalizing l with
 |nil=>exact h
 |cons o s ih=>exact ih (aRi h (hs o (by simp)).1 (hs o (by simp)).2) fun o ho=>hs o (zAP _ ho)
theorem aAZ(l:List Opn)(n:List Nd):(l.foldl jQ n).length≤n.length+l.length:=by
 induction l generalizing n with
 |nil=>exact zAh _
 |cons o l ih=>have:=ih (jQ n o);have:=aCu n o;grind
structure NsI (q:Int) (l:List Nd):Prop where
 frs:Frs l
 len:l.length≤200
 nd:∀n∈l,NdI q n
theorem NsI.up{q r:Int}{l:List Nd}(h:NsI q l)(hq:q≤r):NsI r l:=⟨h.frs,h.len,fun n hn=>⟨(h.nd n hn).name,(h.nd n hn).data,zCE (h.nd n hn).id hq,zCE (h.nd n hn).par hq⟩⟩
structure MI (m:Mdl):Prop where
 good:Good m.log
 cap:m.log.entries.length≤200
 cnt:∀o∈opsG m.log,o.at_.c≤m.seen
 seen:0≤m.seen
 rep:0≤m.rep∧m.rep≤63
 snaps:m.snaps.length≤8
 snap:∀s∈m.snaps,NsI m.seen s.nodes
 watches:m.watches.length≤8
 watch:∀w∈m.watches,dirI w.dir=true∧w.evs.length≤9∧(w.over=false→w.evs.length≤8)
theorem MI.ops_len{m:Mdl}(h:MI m):(opsG m.log).length≤200:=by rw[opsG,zAj];exact h.cap
theorem MI.nodes{m:Mdl}(h:MI m):NsI m.seen m.log.nodes:=by
 rw[kZ h.good]
 refine⟨aBT _ aGt,?_,aBW _ (fun n hn=>by cases hn) fun o ho=>⟨h.good.ok o ho,h.cnt o ho⟩⟩
 have:=aAZ (opsG m.log) []
 have:=h.ops_len
 grind
theorem aKw{r:Int}{m:Mdl}(h:xL r=(m,0)):MI m:=by
 unfold xL at h
 split at h
 ·rename_i hr
  cases h
  exact⟨aJS,by simp[sL],by simp[opsG,sL],zCP _,hr,by simp[sL],by simp[sL],by simp[sL],by simp[sL]⟩
 ·cases h
theorem aKx(l:List Nd):∀(names:List Txt) (x d:Int),kC l x names=(d,0)→(names=[]∧d=x)∨∃n∈l,n.id=d:=by
 intro names
 induction names with
 |nil=>grind [List,Int,kC]
 |cons s names ih=>
  intro x d h
  rw[kC]at h
  split at h
  ·cases hc:childN l x s with
   |none=>rw[hc]at h;cases h
   |some n=>
    rw[hc]at h
    rcases ih n.id d h with⟨-,rfl⟩|h
    ·exact .inr ⟨n,(aHA hc).2.1,rfl⟩
    ·exact .inr h
  ·cases h
theorem aD0{l:List Nd}{names:List Txt}{d:Int}(h:fQ l names=(d,0)):(names=[]∧d=0)∨∃n∈l,n.id=d:=aKx l names 0 d h
theorem aCT{l:List Nd}{p:Txt}{d:Int}(h:atN l p=(d,0)):∃ns,bV p=some ns∧((ns=[]∧d=0)∨∃n∈l,n.id=d):=by
 grind [atN,bV,aD0]
theorem aNB{q:Int}{l:List Nd}{ns:List Txt}{d:Int}(hl:NsI q l)(hq:0≤q)(h:fQ l ns=(d,0)):oA d≤q:=by
 rcases aD0 h with⟨-,rfl⟩|⟨n,hn,rfl⟩
 ·rw[aUm];exact hq
 ·exact(hl.nd n hn).id
theorem rV{p:Txt}{l:List Txt}(h:bV p=some l):∀s∈l,dO s=true:=by
 unfold bV at h
 grind [bV,aAQ,zAM]
theorem aA0{q:Int}{l:List Nd}{p:Txt}{d:Int}{s:Txt}(hl:NsI q l)(hq:0≤q)(h:abvN l p=(d,s,0)):dirI d=true∧oA d≤q∧dO s=true:=by
 unfold abvN at h
 split at h
 ·cases h
 ·cases h
 ·rename_i x xs hn
  split at h
  ·rename_i h0
   split at h
   ·rename_i hd
    cases h
    refine⟨hd,aNB hl hq (show fQ l (x::xs).dropLast=((fQ l (x::xs).dropLast).1,0) by rw[←h0]),?_⟩
    exact rV hn _ (List.getLast_mem _)
   ·cases h
  grind
end Go.Proofs.YtolbeecicikoaaaGreatDoor
namespace Go.Proofs.YtolbeecicikoaaaGreatDoor
theorem aGE{m:Mdl}{s:Stm}(h:nextD m=(s,0)):kX m.seen m.rep=true∧m.log.entries.length<200∧s=⟨m.seen+1,m.rep⟩:=by
 unfold nextD at h
 split at h
 ·cases h
 ·rename_i h1
  split at h
  ·cases h
  ·rename_i h2
   cases h
   exact⟨by simpa using h1,by omega,rfl⟩
def putM(m:Mdl)(o:Opn):Mdl:={m with log:=dU m.log o,seen:=m.seen+1}
theorem aA1{d:Dsk}(h:MI d.m){o:Opn}(hn:(nextD d.m).2=0)(ho:opOk {o with at_:=⟨d.m.seen+1,d.m.rep⟩}=true):
  qV d o=(0,{d with m:=putM d.m {o with at_:=⟨d.m.seen+1,d.m.rep⟩},ops:=d.ops++[{o with at_:=⟨d.m.seen+1,d.m.rep⟩}]}):=by
 obtain⟨s,hs⟩:∃s,nextD d.m=(s,0):=⟨_,by rw[←hn]⟩
 obtain⟨h1,h2,rfl⟩:=aGE hs
 have ha:oQ d.m.log {o with at_:=⟨d.m.seen+1,d.m.rep⟩}=0:=by
  unfold oQ
  rw[zAb (by rw[ho];simp)]
  split
  ·rfl
  ·rw[zAb (by omega)]
 unfold qV
 simp only[hs,zAU]
 unfold nW
 rw[ha]
 rfl
theorem zX{d:Dsk}{o:Opn}(hn:(nextD d.m).2≠0):qV d o=((nextD d.m).2,d):=by
 unfold qV
 rw[zAb hn]
theorem iW{m:Mdl}(hn:(nextD m).2=0):(nextD m).1=⟨m.seen+1,m.rep⟩∧0≤m.seen∧m.seen<1048576∧0≤m.rep∧m.rep≤63∧m.log.entries.length<200:=by
 obtain⟨s,hs⟩:∃s,nextD m=(s,0):=⟨_,by rw[←hn]⟩
 obtain⟨h1,h2,rfl⟩:=aGE hs
 rw[nK]at h1
 exact⟨by rw[hs],h1.1,h1.2.1,h1.2.2.1,h1.2.2.2,h2⟩
theorem aKy{a b:Int}{d:Bool}(h1:1≤a)(h2:a≤1048576)(h3:0≤b)(h4:b≤63):dQ (idI a b d)=true∧oA (idI a b d)=a∧oB (idI a b d)=b∧oC (idI a b d)=d:=by
 have hk:zM a b=true:=by rw[oU];exact⟨h1,h2,h3,h4⟩
 have e:idI a b d=128 * a+2 * b+(if d then 1 else 0):=by rw[idI,zAc hk]
 have ho:dQ (idI a b d)=true:=by rw[e,tQ];cases d<;>simp<;>omega
 refine⟨ho,?_,?_,?_⟩
 ·rw[oA,zAc ho,e];cases d<;>simp<;>omega
 ·rw[oB,zAc ho,e];cases d<;>simp<;>omega
 ·rw[oC,ho,e];cases d<;>simp<;>omega
theorem nR{a b n:Int}(h:oA n<a):lU a b n=false:=by
 unfold lU
 cases dQ n with
 |false=>rfl
 |true=>
  rw[zAB,zB8,Ne,uW]
  omega
theorem aD1{a b n:Int}(h1:oA n=a)(h2:oB n=b):lU a b n=false:=by
 unfold lU
 rw[h1,h2]
 cases dQ n with
 |false=>rfl
 |true=>
  rw[zAB,zB8,Ne,uW]
  omega
theorem sQ{a b n p:Int}{s:Txt}(h1:1≤a)(h2:a≤1048576)(h3:0≤b)(h4:b≤63)(hn:dQ n=true)(hl:lU a b n=false)(hp:dirI p=true)(hpl:oA p<a)(hs:dO s=true):opOk ⟨⟨a,b⟩,1,n,p,s,[]⟩=true:=by
 unfold opOk
 have hk:zM a b=true:=by rw[oU];exact⟨h1,h2,h3,h4⟩
 simp only[hk,hl]
 unfold rJ
 simp[hn,hp,hs,nR hpl]
theorem aD2{a b n:Int}{t:Txt}(h1:1≤a)(h2:a≤1048576)(h3:0≤b)(h4:b≤63)(hn:dQ n=true)(hc:oC n=true)(hl:lU a b n=false)(ht:t.length≤64):opOk ⟨⟨a,b⟩,2,n,0,[],t⟩=true:=by
 unfold opOk
 have hk:zM a b=true:=by rw[oU];exact⟨h1,h2,h3,h4⟩
 simp only[hk,hl]
 unfold uY
 simp only[hn,hc]
 simp
 omega
theorem aNC{g:Lg}(hg:Good g)(o:Opn):∀x∈opsG (dU g o),x=o∨x∈opsG g:=by
 intro x hx
 rcases(oY hg o).2 with⟨e, -, -⟩|⟨e, -, -⟩
 ·rw[e]at hx;exact .inr hx
 ·rw[e]at hx;exact vE.1 hx
theorem aRj{m:Mdl}(h:MI m){o:Opn}(ho:o.at_.c≤m.seen+1)(hlt:m.log.entries.length<200):MI (putM m o) where
 good:=(oY h.good o).1
 cap:=by have:=(oX m.log o).1;unfold putM;simp only;omega
 cnt:=fun x hx=>by
  rcases aNC h.good o x hx with rfl|hx
  ·exact ho
  ·exact zCE (h.cnt x hx) (by show m.seen≤m.seen+1;omega)
 seen:=by have:=h.seen;show 0≤m.seen+1;omega
 rep:=h.rep
 snaps:=h.snaps
 snap:=fun s hs=>(h.snap s hs).up (by show m.seen≤m.seen+1;omega)
 watches:=h.watches
 watch:=h.watch
theorem aKz(e:List Evt)(b:Bool)(l:List Evt)(he:e.length≤9∧(b=false→e.length≤8)):(lM e b l).1.length≤9∧((lM e b l).2=false→(lM e b l).1.length≤8):=by
 unfold lM
 cases b with
 |true=>exact⟨he.1,fun h=>by cases h⟩
 |false=>
  have:=he.2 rfl
  rw[zAb (by simp)]
  split
  ·refine⟨?_,fun h=>by cases h⟩
   simp only[zAe,zAy,zAm,zAE];omega
  ·rename_i h
   simp only[zAe]
   exact⟨by omega,fun _=>by omega⟩
theorem aND{d:Dsk}(h:MI d.m)(was:List Nd):MI (vM was d).m where
 good:=h.good
 cap:=h.cap
 cnt:=h.cnt
 seen:=h.seen
 rep:=h.rep
 snaps:=h.snaps
 snap:=h.snap
 watches:=by show(d.m.watches.map _).length≤8;rw[zAj];exact h.watches
 watch:=fun w hw=>by
  obtain⟨v,hv,rfl⟩:=zAi.1 hw
  obtain⟨h1,h2⟩:=h.watch v hv
  exact⟨h1,aKz _ _ _ h2⟩
theorem qC{m:Mdl}(h:MI m){s:List Snp}{w:List Wch}{n:Int}(h1:s.length≤8)(h2:∀x∈s,NsI m.seen x.nodes)(h3:w.length≤8)(h4:∀x∈w,dirI x.dir=true∧x.evs.length≤9∧(x.over=false→x.evs.length≤8)):
  MI {m with snaps:=s,watches:=w,next:=n}:=
 ⟨h.good,h.cap,h.cnt,h.seen,h.rep,h1,h2,h3,h4⟩
theorem aFl(n:Int)(l:List Wch):(emptyW n l).length=l.length∧∀w∈emptyW n l,∃v∈l,w.dir=v.dir∧w.n=v.n∧w.over=v.over∧(w.evs=v.evs∨w.evs=[]):=by
 induction l with
 |nil=>exact⟨rfl,fun w hw=>by cases hw⟩
 |cons x l ih=>
  unfold emptyW
  split
  ·refine⟨rfl,fun w hw=>?_⟩
   rcases zAv.1 hw with rfl|hw
   ·exact⟨x,by simp,rfl,rfl,rfl,.inr rfl⟩
   ·exact⟨w,zAP _ hw,rfl,rfl,rfl,.inl rfl⟩
  ·refine⟨by simp[ih.1],fun w hw=>?_⟩
   rcases zAv.1 hw with rfl|hw
   ·exact⟨w,by simp,rfl,rfl,rfl,.inl rfl⟩
   ·obtain⟨v,hv,q⟩:=ih.2 w hw
    exact⟨v,zAP _ hv,q⟩
end Go.Proofs.YtolbeecicikoaaaGreatDoor
namespace Go.Proofs.YtolbeecicikoaaaGreatDoor
theorem aKA{n:Int}(h:dQ n=true)(hd:dirI n=false):oC n=true:=by
 unfold dirI at hd
 simp only[h,zAB,zBw,Bool.not_eq_false']at hd
 exact hd.2
theorem aCU{l:List Nd}(h:Frs l){n:Nd}(hn:n∈l):dQ n.id=true:=((oG l).1 h.chk).1 n hn
def bornO(m:Mdl)(c:Cal)(dir:Int)(s:Txt):Opn:=⟨⟨m.seen+1,m.rep⟩,1,idI (m.seen+1) m.rep (decide (c.kind=1)),dir,s,[]⟩
def donePut(d:Dsk)(o:Opn):Int×Dsk:=(0,{d with m:=putM d.m o,ops:=d.ops++[o]})
theorem qD{c:Cal}{d:Dsk}(h:MI d.m):(∃e,e≠0∧qO c d=(e,d))∨
  ∃dir s,c.path≠[47]∧abvN d.m.log.nodes c.path=(dir,s,0)∧childN d.m.log.nodes dir s=none∧(nextD d.m).2=0∧opOk (bornO d.m c dir s)=true∧qO c d=donePut d (bornO d.m c dir s):=by
 unfold qO
 by_cases h1:c.path=[47]
 ·simp_all
 rw[zAb h1]
 obtain⟨⟨dir,s,e⟩,ha⟩:∃x,abvN d.m.log.nodes c.path=x:=⟨_,rfl⟩
 rw[ha]
 simp only
 by_cases h2:e=0
 ·subst h2
  rw[zAc rfl]
  obtain⟨a1,a2,a3⟩:=aA0 h.nodes h.seen ha
  cases hc:childN d.m.log.nodes dir s with
  |some n=>exact .inl ⟨190,by decide,zAc rfl⟩
  |none=>
   rw[zAb (by simp)]
   by_cases h3:(nextD d.m).2=0
   ·rw[zAc h3]
    obtain⟨n1,n2,n3,n4,n5,n6⟩:=iW h3
    rw[n1]
    obtain⟨i1,i2,i3,i4⟩:=aKy (d:=decide (c.kind=1)) (show 1≤d.m.seen+1 by omega) (show d.m.seen+1≤1048576 by omega) n4 n5
    have hok:opOk (bornO d.m c dir s)=true:=sQ (by omega) (by omega) n4 n5 i1 (aD1 i2 i3) a1 (by omega) a3
    exact .inr ⟨dir,s,h1,rfl,hc,h3,hok,aA1 h h3 hok⟩
   ·rw[zAb h3];exact .inl ⟨_,h3,rfl⟩
 ·rw[zAb h2];exact .inl ⟨e,h2,rfl⟩
def writeO(m:Mdl)(c:Cal)(id:Int):Opn:=⟨⟨m.seen+1,m.rep⟩,2,id,0,[],c.data⟩
theorem oI{c:Cal}{d:Dsk}(h:MI d.m)(hd:c.data.length≤64):(∃e,e≠0∧nL c d=(e,d))∨
  ∃id,atN d.m.log.nodes c.path=(id,0)∧dirI id=false∧(nextD d.m).2=0∧opOk (writeO d.m c id)=true∧nL c d=donePut d (writeO d.m c id):=by
 unfold nL
 obtain⟨⟨id,e⟩,ha⟩:∃x,atN d.m.log.nodes c.path=x:=⟨_,rfl⟩
 rw[ha]
 simp only
 by_cases h2:e=0
 ·subst h2
  rw[zAc rfl]
  cases hdi:dirI id with
  |true=>grind
  |false=>
   rw[zAb (by simp)]
   by_cases h3:(nextD d.m).2=0
   ·obtain⟨n1,n2,n3,n4,n5,n6⟩:=iW h3
    obtain⟨ns, -,⟨-,rfl⟩|⟨n,hn,rfl⟩⟩:=aCT ha
    ·cases hdi
    ·have ho:=aCU h.nodes.frs hn
     have hok:opOk (writeO d.m c n.id)=true:=aD2 (by omega) (by omega) n4 n5 ho (aKA ho hdi) (nR (by have:=(h.nodes.nd n hn).id;omega)) hd
     exact .inr ⟨n.id,rfl,hdi,h3,hok,aA1 h h3 hok⟩
   ·exact .inl ⟨_,h3,zX h3⟩
 ·rw[zAb h2];exact .inl ⟨e,h2,rfl⟩
def oJ(m:Mdl)(id dir:Int)(s:Txt):Opn:=⟨⟨m.seen+1,m.rep⟩,1,id,dir,s,[]⟩
theorem aD3{m:Mdl}(h:MI m){p:Txt}{id:Int}(hp:p≠[47])(ha:atN m.log.nodes p=(id,0)):dQ id=true∧oA id≤m.seen∧∃n∈m.log.nodes,n.id=id:=by
 obtain⟨ns,hn,⟨hni, -⟩|⟨n,hn,rfl⟩⟩:=aCT ha
 ·subst hni
  unfold bV at hn
  rw[zAb hp]at hn
  split at hn
  ·cases hn
  ·split at hn
   ·split at hn
    ·exact absurd (Option.some.inj hn) (mT _ _)
    ·cases hn
   ·cases hn
 ·exact⟨aCU h.nodes.frs hn,(h.nodes.nd n hn).id,n,hn,rfl⟩
theorem uD{c:Cal}{d:Dsk}(h:MI d.m):(∃e,e≠0∧tH c d=(e,d))∨
  ∃id dir s,c.path≠[47]∧c.to≠[47]∧atN d.m.log.nodes c.path=(id,0)∧abvN d.m.log.nodes c.to=(dir,s,0)∧childN d.m.log.nodes dir s=none∧dir≠id∧(eO d.m.log.nodes dir).contains id=false∧(nextD d.m).2=0∧
   opOk (oJ d.m id dir s)=true∧tH c d=donePut d (oJ d.m id dir s):=by
 unfold tH
 by_cases h1:c.path=[47]∨c.to=[47]
 ·simp_all
 rw[zAb h1]
 obtain⟨⟨id,e⟩,ha⟩:∃x,atN d.m.log.nodes c.path=x:=⟨_,rfl⟩
 rw[ha]
 simp only
 by_cases h2:e=0
 ·subst h2
  rw[zAc rfl]
  obtain⟨⟨dir,s,f⟩,hb⟩:∃x,abvN d.m.log.nodes c.to=x:=⟨_,rfl⟩
  rw[hb]
  simp only
  by_cases h3:f=0
  ·subst h3
   rw[zAc rfl]
   obtain⟨a1,a2,a3⟩:=aA0 h.nodes h.seen hb
   cases hc:childN d.m.log.nodes dir s with
   |some n=>exact .inl ⟨190,by decide,zAc rfl⟩
   |none=>
    rw[zAb (by simp)]
    by_cases h4:dir=id∨(eO d.m.log.nodes dir).contains id=true
    ·rw[zAc h4];exact .inl ⟨192,by decide,rfl⟩
    rw[zAb h4]
    by_cases h5:(nextD d.m).2=0
    ·obtain⟨n1,n2,n3,n4,n5,n6⟩:=iW h5
     obtain⟨o1,o2, -⟩:=aD3 h (fun e=>h1 (.inl e)) ha
     have hok:opOk (oJ d.m id dir s)=true:=sQ (by omega) (by omega) n4 n5 o1 (nR (by omega)) a1 (by omega) a3
     exact .inr ⟨id,dir,s,fun e=>h1 (.inl e),fun e=>h1 (.inr e),rfl,rfl,hc,fun e=>h4 (.inl e),by simpa using fun e=>h4 (.inr e),h5,hok,aA1 h h5 hok⟩
    ·exact .inl ⟨_,h5,zX h5⟩
  ·rw[zAb h3];exact .inl ⟨f,h3,rfl⟩
 ·rw[zAb h2];exact .inl ⟨e,h2,rfl⟩
theorem qE{c:Cal}{d:Dsk}(h:MI d.m):(∃e,e≠0∧lE c d=(e,d))∨
  ∃id s,c.path≠[47]∧atN d.m.log.nodes c.path=(id,0)∧(∃x xs,bV c.path=some (x::xs)∧s=(x::xs).getLast (by simp))∧(nextD d.m).2=0∧opOk (oJ d.m id 2 s)=true∧lE c d=donePut d (oJ d.m id 2 s):=by
 unfold lE
 by_cases h1:c.path=[47]
 ·simp_all
 rw[zAb h1]
 obtain⟨⟨id,e⟩,ha⟩:∃x,atN d.m.log.nodes c.path=x:=⟨_,rfl⟩
 rw[ha]
 simp only
 by_cases h2:e=0
 ·subst h2
  rw[zAc rfl]
  split
  ·rename_i x xs hn
   by_cases h5:(nextD d.m).2=0
   ·obtain⟨n1,n2,n3,n4,n5,n6⟩:=iW h5
    obtain⟨o1,o2, -⟩:=aD3 h h1 ha
    have hok:opOk (oJ d.m id 2 ((x::xs).getLast (by simp)))=true:=sQ (by omega) (by omega) n4 n5 o1 (nR (by omega)) (by decide) (by rw[aUl];omega) (rV hn _ (List.getLast_mem _))
    exact .inr ⟨id,_,h1,rfl,⟨x,xs,hn,rfl⟩,h5,hok,aA1 h h5 hok⟩
   ·exact .inl ⟨_,h5,zX h5⟩
  ·exact .inl ⟨194,by decide,rfl⟩
 ·rw[zAb h2];exact .inl ⟨e,h2,rfl⟩
theorem aKB{b r:Txt}{o:Opn}(h:qN b=some (o,r)):opOk o=true:=by
 grind [qN,zBm]
theorem aKC:∀(k:Nat) (b:Txt) (l:List Opn),lN k b=some l→∀o∈l,opOk o=true:=by
 intro k
 induction k with
 |zero=>
  grind [lN]
 |succ k ih=>
  intro b l h
  unfold lN at h
  split at h
  ·cases h;intro o ho;cases ho
  ·simp only[zBm]at h
   obtain⟨⟨o,r⟩,h1,h2⟩:=h
   simp only[zAR]at h2
   obtain⟨t,h3,rfl⟩:=h2
   intro x hx
   rcases zAv.1 hx with rfl|hx
   ·exact aKB h1
   ·exact ih r t h3 x hx
theorem vT{b:Txt}{l:List Opn}(h:readO b=some l):∀o∈l,opOk o=true:=aKC _ _ _ h
theorem pG(g:Lg):∀(l acc:List Opn),∀x∈freshN g acc l,x∈acc∨x∈l:=by
 intro l
 induction l<;>grind [freshN]
theorem aGF:∀(l:List Opn) (d:Dsk),(∀o∈l,opOk o=true)→d.m.log.entries.length+l.length≤200→iK d l=(0,{d with m:={d.m with log:=eQ d.m.log l},ops:=d.ops++l}):=by
 intro l
 induction l with
 |nil=>intro d _ _;simp[iK,eQ]
 |cons o l ih=>
  intro d ho hc
  rw[zAm]at hc
  have ha:oQ d.m.log o=0:=by
   unfold oQ
   grind
  have hk:nW d o=(0,{d with m:={d.m with log:=dU d.m.log o},ops:=d.ops++[o]}):=by unfold nW;rw[zAc ha]
  have hl:=(oX d.m.log o).1
  rw[iK,hk]
  simp only[zAU]
  rw[ih _ (fun x hx=>ho x (zAP _ hx)) (by simp only;omega)]
  simp[eQ]
theorem lA(l:List Opn):∀(n:Int),n≤l.foldl (fun n o=>bY n o.at_) n∧∀o∈l,opOk o=true→o.at_.c≤l.foldl (fun n o=>bY n o.at_) n:=by
 induction l with
 |nil=>grind
 |cons x l ih=>
  intro n
  obtain⟨i1,i2⟩:=ih (bY n x.at_)
  have h1:n≤bY n x.at_:=by unfold bY;split<;>omega
  refine⟨zCE h1 i1,fun o ho hok=>?_⟩
  rcases zAv.1 ho with rfl|ho
  ·refine zCE ?_ i1
   obtain⟨p1,p2,p3,p4, -⟩:=uC hok
   unfold bY
   rw[zAc (by rw[oU];exact⟨p1,p2,p3,p4⟩)]
   omega
  ·exact i2 o ho hok
theorem aCV(l:List Opn):∀g:Lg,(eQ g l).entries.length≤g.entries.length+l.length:=by
 induction l with
 |nil=>exact fun g=>zAh _
 |cons o l ih=>intro g;have:=ih (dU g o);have:=(oX g o).1;rw[eQ,zAm];omega
def mergeM(m:Mdl)(l:List Opn):Mdl:={m with log:=eQ m.log (freshN m.log [] l),seen:=l.foldl (fun n o=>bY n o.at_) m.seen}
theorem rW{c:Cal}{d:Dsk}:(∃e,e≠0∧lW c d=(e,d))∨
  ∃l,readO c.data=some l∧d.m.log.entries.length+(freshN d.m.log [] l).length≤200∧
   lW c d=(0,{m:=mergeM d.m l,a:={d.a with n:=((freshN d.m.log [] l).length:Int)},ops:=d.ops++freshN d.m.log [] l}):=by
 unfold lW
 cases hr:readO c.data with
 |none=>exact .inl ⟨50,by decide,rfl⟩
 |some l=>
  simp only
  by_cases h1:(200:Int)<(d.m.log.entries.length:Int)+((freshN d.m.log [] l).length:Int)
  ·grind
  rw[zAb h1]
  have hok:∀o∈freshN d.m.log [] l,opOk o=true:=fun o ho=>by
   rcases pG _ _ _ o ho with h|h
   ·cases h
   ·exact vT hr o h
  rw[aGF _ d hok (by omega)]
  exact .inr ⟨l,rfl,by omega,rfl⟩
theorem aKD{m:Mdl}(h:MI m){l:List Opn}(ho:∀o∈l,opOk o=true)(hc:m.log.entries.length+(freshN m.log [] l).length≤200):MI (mergeM m l) where
 good:=vF h.good _
 cap:=by have:=aCV (freshN m.log [] l) m.log;unfold mergeM;simp only;omega
 cnt:=fun x hx=>by
  rcases(aM5 h.good _).1 x hx with hx|⟨hx,hok⟩
  ·exact zCE (h.cnt x hx) (lA l m.seen).1
  ·rcases pG _ _ _ x hx with hx|hx
   ·cases hx
   ·exact(lA l m.seen).2 x hx hok
 seen:=zCE h.seen (lA l m.seen).1
 rep:=h.rep
 snaps:=h.snaps
 snap:=fun s hs=>(h.snap s hs).up (lA l m.seen).1
 watches:=h.watches
 watch:=h.watch
theorem vU{c:Cal}(h:chkC c=true)(hk:c.kind=3):c.data.length≤64:=by
 unfold chkC at h
 rw[hk]at h
 have hp:rS 3=some 5:=rfl
 rw[hp]at h
 simp only[zAl]at h
 have h':=h.2.2.1
 rw[fH,zAb (by decide),zAb (by decide),zAr]at h'
 omega
theorem aKE{m:Mdl}{c:Cal}(h:MI m)(hc:chkC c=true)(h0:(dH c ⟨m,an0,[]⟩).1=0):MI (dH c ⟨m,an0,[]⟩).2.m:=by
 have put:∀{o:Opn} {r:Int×Dsk},r=donePut ⟨m,an0,[]⟩ o→o.at_.c≤m.seen+1→(nextD m).2=0→MI r.2.m:=fun e h1 h2=>by
  subst e;exact aRj h h1 (iW h2).2.2.2.2.2
 have err:∀{e:Int} {r:Int×Dsk},e≠0→r=(e,⟨m,an0,[]⟩)→r.1=0→MI r.2.m:=fun h1 e h2=>by subst e;exact absurd h2 h1
 unfold dH at h0 ⊢
 by_cases k1:c.kind=1∨c.kind=2
 ·rw[zAc k1]at h0 ⊢
  rcases qD (c:=c) (d:=⟨m,an0,[]⟩) h with⟨e,he,e1⟩|⟨dir,s, -, -, -,hn, -,e1⟩
  ·exact err he e1 h0
  ·exact put e1 (zCP _) hn
 rw[zAb k1]at h0 ⊢
 by_cases k3:c.kind=3
 ·rw[zAc k3]at h0 ⊢
  rcases oI (c:=c) (d:=⟨m,an0,[]⟩) h (vU hc k3)with⟨e,he,e1⟩|⟨id, -, -,hn, -,e1⟩
  ·exact err he e1 h0
  ·exact put e1 (zCP _) hn
 rw[zAb k3]at h0 ⊢
 by_cases k4:c.kind=4
 ·grind [nM]
 rw[zAb k4]at h0 ⊢
 by_cases k5:c.kind=5
 ·rw[zAc k5]at h0 ⊢
  rcases uD (c:=c) (d:=⟨m,an0,[]⟩) h with⟨e,he,e1⟩|⟨id,dir,s, -, -, -, -, -, -, -,hn, -,e1⟩
  ·exact err he e1 h0
  ·exact put e1 (zCP _) hn
 rw[zAb k5]at h0 ⊢
 by_cases k6:c.kind=6
 ·rw[zAc k6]at h0 ⊢
  rcases qE (c:=c) (d:=⟨m,an0,[]⟩) h with⟨e,he,e1⟩|⟨id,s, -, -, -,hn, -,e1⟩
  ·exact err he e1 h0
  ·exact put e1 (zCP _) hn
 rw[zAb k6]at h0 ⊢
 by_cases k7:c.kind=7
 ·rw[zAc k7]at h0 ⊢
  unfold lsD
  split
  ·exact h
  ·split
   ·split<;>exact h
   ·exact h
 rw[zAb k7]at h0 ⊢
 by_cases k8:c.kind=8
 ·rw[zAc k8]at h0 ⊢
  unfold rO
  split
  ·exact h
  ·rename_i hl
   refine qC h ?_ (fun x hx=>?_) h.watches h.watch
   ·rw[zAe];simp only[zAm,zAE]at hl ⊢;omega
   ·rcases zAD.1 hx with hx|hx
    ·exact h.snap x hx
    ·rw[zAx]at hx;subst hx;exact h.nodes
 rw[zAb k8]at h0 ⊢
 by_cases k9:c.kind=9
 ·rw[zAc k9]at h0 ⊢
  unfold kI
  split
  ·exact h
  ·exact qC (n:=m.next) h (zA2 (zAQ ..) h.snaps) (fun x hx=>h.snap x (zBi.1 hx).1) (zA2 (zAQ ..) h.watches) (fun x hx=>h.watch x (zBi.1 hx).1)
 rw[zAb k9]at h0 ⊢
 by_cases k10:c.kind=10
 ·rw[zAc k10]at h0 ⊢
  unfold nN
  split
  ·split
   ·rename_i hdi
    split
    ·exact h
    ·rename_i hl
     refine qC h h.snaps h.snap ?_ (fun x hx=>?_)
     ·rw[zAe];simp only[zAm,zAE]at hl ⊢;omega
     ·rcases zAD.1 hx with hx|hx
      ·exact h.watch x hx
      ·rw[zAx]at hx;subst hx;exact⟨hdi,by simp,by simp⟩
   ·exact h
  ·exact h
 rw[zAb k10]at h0 ⊢
 by_cases k11:c.kind=11
 ·rw[zAc k11]at h0 ⊢
  unfold qP
  split
  ·exact h
  ·obtain⟨e1,e2⟩:=aFl c.n m.watches
   refine qC (n:=m.next) h h.snaps h.snap (by rw[e1];exact h.watches) fun x hx=>?_
   obtain⟨v,hv,q1, -,q3,q2⟩:=e2 x hx
   obtain⟨w1,w2,w3⟩:=h.watch v hv
   rw[q1,q3]
   rcases q2 with q|q<;>rw[q]
   ·exact⟨w1,w2,w3⟩
   ·exact⟨w1,by simp,by simp⟩
 rw[zAb k11]at h0 ⊢
 by_cases k12:c.kind=12
 ·rw[zAc k12]at h0 ⊢;exact h
 rw[zAb k12]at h0 ⊢
 rcases rW (c:=c) (d:=⟨m,an0,[]⟩)with⟨e,he,e1⟩|⟨l,hr,hcap,e1⟩
 ·exact err he e1 h0
 ·rw[e1];exact aKD h (vT hr) hcap
theorem aPj{m:Mdl}(h:MI m)(c:Cal):MI (doM m c).1:=by
 unfold doM
 split
 ·exact h
 ·rename_i hc
  split
  ·rename_i h0
   have:=aKE h (by simpa using hc) h0
   split
   ·exact this
   ·exact aND this _
  ·exact h
end Go.Proofs.YtolbeecicikoaaaGreatDoor
namespace Go.Proofs.YtolbeecicikoaaaGreatDoor
def tellM(m m':Mdl):Mdl:={m' with watches:=m'.watches.map (pC m.log.nodes m'.log.nodes)}
theorem rX{c:Cal}(h:chkC c=true):c.kind=1∨c.kind=2∨c.kind=3∨c.kind=4∨c.kind=5∨c.kind=6∨c.kind=7∨c.kind=8∨c.kind=9∨c.kind=10∨c.kind=11∨c.kind=12∨c.kind=13:=by
 grind [chkC,rS]
inductive WyS (m:Mdl) (c:Cal):Int×Dsk→Prop
 |err (e:Int) (d:Dsk) (he:e≠0):WyS m c (e,d)
 |put (o:Opn) (hk:c.kind=1∨c.kind=2∨c.kind=3∨c.kind=5∨c.kind=6) (hn:(nextD m).2=0) (ho:opOk o=true) (ha:o.at_=⟨m.seen+1,m.rep⟩):WyS m c (donePut ⟨m,an0,[]⟩ o)
 |keep (m':Mdl) (a:Ans) (ha:a.err=0) (h1:m'.log=m.log) (h2:m'.seen=m.seen) (h3:m'.rep=m.rep) (h4:(c.kind=4∨c.kind=7∨c.kind=12)→m'=m):WyS m c (0,⟨m',a,[]⟩)
 |merge (l:List Opn) (hk:c.kind=13) (hr:readO c.data=some l) (hc:m.log.entries.length+(freshN m.log [] l).length≤200):
   WyS m c (0,⟨mergeM m l,{an0 with n:=((freshN m.log [] l).length:Int)},freshN m.log [] l⟩)
theorem aBX{m:Mdl}{c:Cal}(h:MI m)(hc:chkC c=true):WyS m c (dH c ⟨m,an0,[]⟩):=by
 have hk:=rX hc
 unfold dH
 by_cases k1:c.kind=1∨c.kind=2
 ·rw[zAc k1]
  rcases qD (c:=c) (d:=⟨m,an0,[]⟩) h with⟨e,he,e1⟩|⟨dir,s, -, -, -,hn,ho,e1⟩
  ·rw[e1];exact .err _ _ he
  ·rw[e1];exact .put _ (by omega) hn ho rfl
 rw[zAb k1]
 by_cases k3:c.kind=3
 ·rw[zAc k3]
  rcases oI (c:=c) (d:=⟨m,an0,[]⟩) h (vU hc k3)with⟨e,he,e1⟩|⟨id, -, -,hn,ho,e1⟩
  ·rw[e1];exact .err _ _ he
  ·rw[e1];exact .put _ (by omega) hn ho rfl
 rw[zAb k3]
 by_cases k4:c.kind=4
 ·rw[zAc k4]
  unfold nM
  split
  ·exact .err _ _ (by decide)
  ·split
   ·split
    ·exact .err _ _ (by decide)
    ·exact .keep _ _ rfl rfl rfl rfl fun _=>rfl
   ·rename_i h;exact .err _ _ h
 rw[zAb k4]
 by_cases k5:c.kind=5
 ·rw[zAc k5]
  rcases uD (c:=c) (d:=⟨m,an0,[]⟩) h with⟨e,he,e1⟩|⟨id,dir,s, -, -, -, -, -, -, -,hn,ho,e1⟩
  ·rw[e1];exact .err _ _ he
  ·rw[e1];exact .put _ (by omega) hn ho rfl
 rw[zAb k5]
 by_cases k6:c.kind=6
 ·rw[zAc k6]
  rcases qE (c:=c) (d:=⟨m,an0,[]⟩) h with⟨e,he,e1⟩|⟨id,s, -, -, -,hn,ho,e1⟩
  ·rw[e1];exact .err _ _ he
  ·rw[e1];exact .put _ (by omega) hn ho rfl
 rw[zAb k6]
 by_cases k7:c.kind=7
 ·rw[zAc k7]
  unfold lsD
  split
  ·exact .err _ _ (by decide)
  ·split
   ·split
    ·exact .keep _ _ rfl rfl rfl rfl fun _=>rfl
    ·exact .err _ _ (by decide)
   ·rename_i h;exact .err _ _ h
 rw[zAb k7]
 by_cases k8:c.kind=8
 ·rw[zAc k8]
  unfold rO
  split
  ·exact .err _ _ (by decide)
  ·exact .keep _ _ rfl rfl rfl rfl fun h=>by omega
 rw[zAb k8]
 by_cases k9:c.kind=9
 ·rw[zAc k9]
  unfold kI
  split
  ·exact .err _ _ (by decide)
  ·exact .keep _ _ rfl rfl rfl rfl fun h=>by omega
 rw[zAb k9]
 by_cases k10:c.kind=10
 ·rw[zAc k10]
  unfold nN
  split
  ·split
   ·split
    ·exact .err _ _ (by decide)
    ·exact .keep _ _ rfl rfl rfl rfl fun h=>by omega
   ·exact .err _ _ (by decide)
  ·rename_i h;exact .err _ _ h
 rw[zAb k10]
 by_cases k11:c.kind=11
 ·rw[zAc k11]
  unfold qP
  split
  ·exact .err _ _ (by decide)
  ·exact .keep _ _ rfl rfl rfl rfl fun h=>by omega
 rw[zAb k11]
 by_cases k12:c.kind=12
 ·rw[zAc k12];exact .keep _ _ rfl rfl rfl rfl fun _=>rfl
 rw[zAb k12]
 rcases rW (c:=c) (d:=⟨m,an0,[]⟩)with⟨e,he,e1⟩|⟨l,hr,hcap,e1⟩
 ·rw[e1];exact .err _ _ he
 ·rw[e1];exact .merge l (by omega) hr hcap
theorem aKF(g:Lg):(opsG g).length=g.entries.length:=by rw[opsG,zAj]
theorem aNE{g:Lg}(h:Good g){o:Opn}(ho:opOk o=true)(hn:∀x∈opsG g,x.at_≠o.at_)(hl:g.entries.length<200):opsG (dU g o)=tU o (opsG g):=by
 rcases(oY h o).2 with⟨-, -,e|⟨x,hx,e⟩|e⟩|⟨e, -, -⟩
 ·rw[ho]at e;cases e
 ·exact absurd e (hn x hx)
 ·rw[aKF]at e;omega
 ·exact e
theorem aHU(g:Lg):∀(l acc:List Opn),(∀o∈acc,o∈freshN g acc l)∧∀o∈l,fA g.entries o.at_=true∨∃f∈freshN g acc l,f.at_=o.at_:=by
 intro l
 induction l with
 |nil=>grind [List,Opn,freshN,fA]
 |cons o l ih=>
  intro acc
  rw[freshN]
  split
  ·obtain⟨i1,i2⟩:=ih (acc++[o])
   grind
  ·rename_i hc
   obtain⟨i1,i2⟩:=ih acc
   refine⟨i1,fun x hx=>?_⟩
   rcases zAv.1 hx with rfl|hx
   ·cases hh:fA g.entries x.at_ with
    |true=>exact .inl rfl
    |false=>
     rw[hh]at hc
     simp only[zBb,zAB,zBc,Bool.not_eq_false']at hc
     have hc':(acc.any fun f=>decide (f.at_=x.at_))=true:=by simpa using hc
     obtain⟨f,hf,e⟩:=zBU.1 hc'
     exact .inr ⟨f,i1 f hf,by simpa using e⟩
   ·exact i2 x hx
theorem aA2(l:List Opn):∀n:Int,l.foldl (fun n o=>bY n o.at_) n=n∨∃o∈l,o.at_.c=l.foldl (fun n o=>bY n o.at_) n:=by
 induction l with
 |nil=>exact fun n=>.inl rfl
 |cons o l ih=>
  intro n
  rw[zAZ]
  rcases ih (bY n o.at_)with e|⟨x,hx,e⟩
  ·rw[e]
   unfold bY
   split
   ·rcases Int.le_total n o.at_.c with h|h
    ·exact .inr ⟨o,by simp,by omega⟩
    ·exact .inl (by omega)
   ·exact .inl rfl
  grind
structure OI (m:Mdl) (ops:List Opn):Prop where
 mem:∀x,x∈opsG m.log↔x∈ops
 len:m.log.entries.length=ops.length
 ap:ops.Pairwise (fun a b=>a.at_≠b.at_)
 top:m.seen=0∨∃o∈ops,o.at_.c=m.seen
theorem OI.ok{m:Mdl}{ops:List Opn}(h:MI m)(hi:OI m ops):∀o∈ops,opOk o=true:=fun o ho=>h.good.ok o ((hi.mem o).2 ho)
end Go.Proofs.YtolbeecicikoaaaGreatDoor
namespace Go.Proofs.YtolbeecicikoaaaGreatDoor
theorem aKG{l:List Opn}{o:Opn}(h:∀x∈l,dD o.at_ x.at_=false):tU o l=l++[o]:=by
 have h1:dV o l=l:=by
  have:=tF (fun x=> !dD o.at_ x.at_) l [] (fun x hx=>by rw[h x hx];rfl) (fun x hx=>by cases hx)
  rwa[zAg]at this
 have h2:nV o l=[]:=by
  have e:=zAp List.length (kE o l)
  simp_all
 rw[tU,h1,h2]
theorem sR{m:Mdl}(h:MI m){o:Opn}(hn:(nextD m).2=0)(ho:opOk o=true)(ha:o.at_=⟨m.seen+1,m.rep⟩):(putM m o).log.nodes=jQ m.log.nodes o:=by
 have hl:=(iW hn).2.2.2.2.2
 have hno:∀x∈opsG m.log,x.at_≠o.at_:=fun x hx e=>by have:=h.cnt x hx;grind
 have e:=aNE h.good ho hno hl
 have hlast:∀x∈opsG m.log,dD o.at_ x.at_=false:=fun x hx=>by
  have:=h.cnt x hx
  rw[aCv,ha]
  simp only
  omega
 show(dU m.log o).nodes=_
 rw[kZ (oY h.good o).1,e,aKG hlast,zBL,←kZ h.good]
 rfl
theorem aHV(l:List Nd):∀(k:Nat) (id x:Int),x∈cL l k id→∃n∈l,n.parent=x:=by
 intro k
 induction k with
 |zero=>intro id x h;simp[cL]at h
 |succ k ih=>
  intro id x h
  rw[cL]at h
  cases hf:lZ l id with
  |none=>rw[hf]at h;simp at h
  |some n=>
   rw[hf]at h
   simp only at h
   split at h
   ·simp at h
   ·rcases zAv.1 h with rfl|h
    ·exact⟨n,(aFk hf).1,rfl⟩
    ·exact ih _ _ h
theorem aUn{q x y:Int}(hx:dQ x=true)(h:oA x≤q)(hy:dQ y=true)(h2:q<oA y):x<y:=by
 unfold oA at h h2
 rw[zAc hx]at h
 rw[zAc hy]at h2
 omega
theorem aFm{m:Mdl}(h:MI m){o:Opn}(hk:o.kind=1)(ho:opOk o=true)(hid:dQ o.node=true)(hA:oA o.node=m.seen+1)(hp:oA o.parent≤m.seen):
  jQ m.log.nodes o=m.log.nodes++[⟨o.node,o.parent,o.name,o.at_,[],lT⟩]:=by
 have hN:=h.nodes
 obtain⟨l,hl⟩:∃l,l=m.log.nodes:=⟨_,rfl⟩
 rw[←hl]at hN ⊢
 have hlt:∀n∈l,n.id<o.node:=fun n hn=>aUn (aCU hN.frs hn) (hN.nd n hn).id hid (by omega)
 have hfn:lZ l o.node=none:=by
  unfold lZ
  grind
 have hr:bB l o=false:=by
  unfold bB
  rw[hN.frs.chk,ho,hk]
  simp only[zBz,zBX,zCe,zAB]
  unfold nG
  rw[zBw]
  refine⟨by simp only[zAC];intro e;rw[e]at hp;omega,?_⟩
  rw[zBK]
  intro x hx
  simp only[zAr]
  rintro rfl
  obtain⟨n,hn,e⟩:=aHV l _ _ _ hx
  have:=(hN.nd n hn).par
  rw[e]at this
  omega
 rw[kD hr]
 have hnn:bM l o=⟨o.node,o.parent,o.name,o.at_,[],lT⟩:=by
  rw[qB hk,hfn]
  unfold dI
  rw[hfn]
  rfl
 rw[hnn]
 have hpos:pos l o.node=l.length:=by
  have:=aM0 (A:=l) (B:=[]) (id:=o.node) hlt (fun _ hx=>by cases hx)
  rwa[zAg]at this
 have hup:upto l o.node=l.length:=by
  unfold upto had
  rw[hfn,hpos];rfl
 exact aEY _ (A:=l) (B:=[]) (by show l=l.take (pos l o.node);rw[hpos,zAq]) (by show[]=l.drop (upto l o.node);rw[hup,zA7])
theorem aKH(s:Txt)(n:Nd)(m:List (Txt×Nd)):bT s (gL s n m)=some n:=by
 induction m<;>grind [gL,bT]
theorem aGG{s t:Txt}(h:s≠t)(n:Nd)(m:List (Txt×Nd)):bT t (gL s n m)=bT t m:=by
 induction m with
 |nil=>simp[gL,bT,h]
 |cons p m ih=>
  obtain⟨k,x⟩:=p
  unfold gL
  by_cases hk:k=s
  ·rw[zAc hk,bT,bT,zAb h,zAb (by rw[hk];exact h)]
  ·rw[zAb hk,bT,bT,ih]
theorem aBY(l:List Nd)(n:Nd)(dir:Int):cG (l++[n]) dir=lV dir (cG l dir) n:=by simp[cG,zBL]
theorem aHW{l:List Nd}{n:Nd}{dir:Int}(hc:chk (l++[n])=true)(hcl:chk l=true)(hp:n.parent=dir)(hm:zM n.moved.c n.moved.r=true)(h:childN l dir n.name=none):childN (l++[n]) dir n.name=some n:=by
 unfold childN at h ⊢
 rw[zAc hc,aBY]
 rw[zAc hcl]at h
 unfold lV zN
 rw[zAc (by simp[hp,hm])]
 unfold rL
 rw[h]
 exact aKH _ _ _
theorem aHX{l:List Nd}{n:Nd}{dir:Int}{s:Txt}(hc:chk (l++[n])=true)(hcl:chk l=true)(h:¬(n.parent=dir∧n.name=s)):childN (l++[n]) dir s=childN l dir s:=by
 unfold childN
 rw[zAc hc,zAc hcl,aBY]
 unfold lV
 split
 ·rename_i hi
  have hp:n.parent=dir:=by simp[zN]at hi;exact hi.1
  have hne:n.name≠s:=fun e=>h ⟨hp,e⟩
  unfold rL
  split
  ·exact aGG hne _ _
  ·split
   ·rfl
   ·exact aGG hne _ _
 ·rfl
theorem aKI(l:List Nd)(b:List Txt):∀(a:List Txt) (x:Int),kC l x (a++b)=if(kC l x a).2=0 then kC l (kC l x a).1 b else kC l x a:=by
 intro a
 induction a<;>grind [zAG,kC,zA1,childN]
theorem aBZ{l l':List Nd}(hs:∀(x:Int) (t:Txt) (n:Nd),childN l x t=some n→∃n',childN l' x t=some n'∧n'.id=n.id):∀(names:List Txt) (x d:Int),kC l x names=(d,0)→kC l' x names=(d,0):=by
 intro names
 induction names<;>grind [kC,childN]
theorem aB0{l:List Nd}{p:Txt}{dir:Int}{s:Txt}(h:abvN l p=(dir,s,0)):∃ns,bV p=some (ns++[s])∧fQ l ns=(dir,0)∧dirI dir=true:=by
 unfold abvN at h
 split at h
 ·cases h
 ·cases h
 ·rename_i x xs hn
  split at h
  ·rename_i h0
   split at h
   ·rename_i hd
    cases h
    exact⟨(x::xs).dropLast,by rw[hn,List.dropLast_concat_getLast],by rw[←h0],hd⟩
   ·cases h
  grind
def bornN(m:Mdl)(c:Cal)(dir:Int)(s:Txt):Nd:=⟨idI (m.seen+1) m.rep (decide (c.kind=1)),dir,s,⟨m.seen+1,m.rep⟩,[],lT⟩
structure Made (m:Mdl) (c:Cal) (dir:Int) (s:Txt):Prop where
 does:doM m c=(tellM m (putM m (bornO m c dir s)),an0,[bornO m c dir s])
 chk:chkC c=true
 root:c.path≠[47]
 abv:abvN m.log.nodes c.path=(dir,s,0)
 none_:childN m.log.nodes dir s=none
 nodes:(putM m (bornO m c dir s)).log.nodes=m.log.nodes++[bornN m c dir s]
 new:∀n∈m.log.nodes,n.id≠idI (m.seen+1) m.rep (decide (c.kind=1))∧n.parent≠idI (m.seen+1) m.rep (decide (c.kind=1))
 ne:dir≠idI (m.seen+1) m.rep (decide (c.kind=1))
 chks:Go.Proofs.YtolbeecicikoaaaGreatDoor.chk (m.log.nodes++[bornN m c dir s])=true
 dir_:dirI (idI (m.seen+1) m.rep (decide (c.kind=1)))= !decide (c.kind=1)
 child:childN (m.log.nodes++[bornN m c dir s]) dir s=some (bornN m c dir s)
theorem aCW{m:Mdl}{c:Cal}(h0:(doM m c).2.1.err=0):chkC c=true∧(dH c ⟨m,an0,[]⟩).1=0:=by
 unfold doM at h0
 split at h0
 ·cases h0
 ·rename_i hc
  split at h0
  ·grind
  ·rename_i hw;exact absurd h0 hw
theorem aXb{m:Mdl}(h:MI m){c:Cal}(hk:c.kind=1∨c.kind=2)(h0:(doM m c).2.1.err=0):∃dir s,Made m c dir s:=by
 obtain⟨hc,hw⟩:=aCW h0
 have hwd:dH c ⟨m,an0,[]⟩=qO c ⟨m,an0,[]⟩:=by unfold dH;rw[zAc hk]
 rw[hwd]at hw
 rcases qD (c:=c) (d:=⟨m,an0,[]⟩) h with⟨e,he,e1⟩|⟨dir,s,e1,e2,e3,e4,e5,e6⟩
 ·rw[e1]at hw;exact absurd hw he
 simp only at e2 e3 e4 e5 e6
 obtain⟨n1,n2,n3,n4,n5,n6⟩:=iW e4
 obtain⟨i1,i2,i3,i4⟩:=aKy (d:=decide (c.kind=1)) (show 1≤m.seen+1 by omega) (show m.seen+1≤1048576 by omega) n4 n5
 obtain⟨a1,a2,a3⟩:=aA0 h.nodes h.seen e2
 have hnodes:(putM m (bornO m c dir s)).log.nodes=m.log.nodes++[bornN m c dir s]:=by
  rw[sR h e4 e5 rfl,aFm h rfl e5 i1 i2 a2]
  rfl
 have hchk:chk (m.log.nodes++[bornN m c dir s])=true:=by
  rw[←hnodes,sR h e4 e5 rfl,aCE,h.nodes.frs.chk]
 refine⟨dir,s,?_,hc,e1,e2,e3,hnodes,fun n hn=>?_,fun e=>?_,hchk,?_,?_⟩
 ·unfold doM
  rw[zAb (by rw[hc];simp),hwd,e6]
  rfl
 ·have q:=h.nodes.nd n hn
  have q1:=q.id
  have q2:=q.par
  grind
 ·rw[e,i2]at a2;omega
 ·unfold dirI
  rw[i1,i4]
  have:128≤idI (m.seen+1) m.rep (decide (c.kind=1)):=(tQ.1 i1).1
  rw[dF,dF]
  rfl
 ·exact aHW (n:=bornN m c dir s) hchk h.nodes.frs.chk rfl (by rw[oU];exact⟨by simp only[bornN];omega,by simp only[bornN];omega,n4,n5⟩) e3
theorem Made.find{m:Mdl}{c:Cal}{dir:Int}{s:Txt}(h:MI m)(k:Made m c dir s):∃ns,bV c.path=some (ns++[s])∧fQ (m.log.nodes++[bornN m c dir s]) ns=(dir,0)∧dirI dir=true∧
  fQ (m.log.nodes++[bornN m c dir s]) (ns++[s])=(idI (m.seen+1) m.rep (decide (c.kind=1)),0):=by
 obtain⟨ns,hn,hf,hd⟩:=aB0 k.abv
 have hf':fQ (m.log.nodes++[bornN m c dir s]) ns=(dir,0):=by
  refine aBZ (fun x t n hx=>⟨n,?_,rfl⟩) ns 0 dir hf
  rw[aHX k.chks h.nodes.frs.chk,hx]
  rintro⟨rfl,rfl⟩
  have:=k.none_
  rw[show childN m.log.nodes dir s=some n from hx]at this
  cases this
 refine⟨ns,hn,hf',hd,?_⟩
 unfold fQ at hf' ⊢
 rw[aKI,hf']
 simp only[zAU]
 rw[kC,zAc hd,k.child]
 rfl
theorem aPk{l:List Nd}{p:Txt}{ns:List Txt}(hn:bV p=some ns):atN l p=fQ l ns:=by unfold atN;rw[hn]
def aBp(g:Nd→Nd)(m:List (Txt×Nd)):List (Txt×Nd):=m.map fun p=>(p.1,g p.2)
section
variable {g:Nd→Nd} (hn:∀n,(g n).name=n.name) (hp:∀n,(g n).parent=n.parent) (hm:∀n,(g n).moved=n.moved)
theorem aD4(s:Txt)(m:List (Txt×Nd)):bT s (aBp g m)=(bT s m).map g:=by
 induction m with
 |nil=>rfl
 |cons p m ih=>
  obtain⟨k,x⟩:=p
  show bT s ((k,g x)::aBp g m)=_
  rw[bT,bT]
  split
  ·rfl
  ·exact ih
theorem aGH(s:Txt)(n:Nd)(m:List (Txt×Nd)):gL s (g n) (aBp g m)=aBp g (gL s n m):=by
 induction m with
 |nil=>rfl
 |cons p m ih=>
  obtain⟨k,x⟩:=p
  show gL s (g n) ((k,g x)::aBp g m)=_
  rw[gL,gL]
  split
  ·rfl
  ·rw[ih];rfl
include hn hm in
theorem aKJ(n:Nd)(m:List (Txt×Nd)):rL (aBp g m) (g n)=aBp g (rL m n):=by
 unfold rL
 rw[hn,aD4]
 cases bT n.name m with
 |none=>exact aGH _ _ _
 |some o=>
  simp only[zBR]
  rw[hm,hm]
  split
  ·rfl
  ·exact aGH _ _ _
include hn hp hm in
theorem aKK(dir:Int)(l:List Nd):cG (l.map g) dir=aBp g (cG l dir):=by
 have key:∀(l:List Nd) (m:List (Txt×Nd)),(l.map g).foldl (lV dir) (aBp g m)=aBp g (l.foldl (lV dir) m):=by
  intro l
  induction l with
  |nil=>exact fun m=>rfl
  |cons n l ih=>
   intro m
   rw[zAA,zAZ,zAZ,←ih]
   congr 1
   unfold lV zN
   rw[hp,hm]
   split
   ·exact aKJ hn hm n m
   ·rfl
 exact key l []
include hn hp hm in
theorem aHY(l:List Nd)(hc:chk (l.map g)=chk l)(dir:Int)(s:Txt):childN (l.map g) dir s=(childN l dir s).map g:=by
 unfold childN
 rw[hc,aKK hn hp hm,aD4]
 split<;>rfl
end
def iB(o:Opn)(n:Nd):Nd:=if n.id=o.node then{n with data:=o.data,wrote:=o.at_}else n
theorem aD5{l:List Nd}(hf:Frs l){o:Opn}(hk:o.kind=2)(ho:opOk o=true)(hh:∃n∈l,n.id=o.node):jQ l o=l.map (iB o)∧bB l o=false:=by
 have hr:bB l o=false:=by
  unfold bB
  rw[hf.chk,ho,hk]
  rfl
 refine⟨?_,hr⟩
 rw[kD hr]
 obtain⟨A,B,hA,hB,eA,eB,⟨e,hno⟩|⟨n,hn,e, -⟩⟩:=vC hf.chk o.node
 ·grind
 ·have hfn:lZ l o.node=some n:=by rw[e];exact vB hA hn
  have hnew:bM l o=iB o n:=by
   unfold bM dI iB
   rw[hfn,hk,zAc hn]
   rfl
  have hid:(iB o n).id=o.node:=by unfold iB;rw[zAc hn];exact hn
  rw[hnew,e,aGk (n:=iB o n) (by rw[hid];exact hA) (by rw[hid];exact hn),zBa,zAA]
  have k1:A.map (iB o)=A:=by
   conv=>rhs;rw[←List.map_id A]
   refine zBM fun x hx=>?_
   have:=hA x hx
   unfold iB;rw[zAb (by omega)];rfl
  have k2:B.map (iB o)=B:=by
   conv=>rhs;rw[←List.map_id B]
   refine zBM fun x hx=>?_
   have:=hB x hx
   unfold iB;rw[zAb (by omega)];rfl
  rw[k1,k2]
theorem sT(o:Opn)(n:Nd):(iB o n).id=n.id∧(iB o n).name=n.name∧(iB o n).parent=n.parent∧(iB o n).moved=n.moved:=by
 unfold iB;split<;>exact⟨rfl,rfl,rfl,rfl⟩
structure Written (m:Mdl) (c:Cal) (id:Int):Prop where
 does:doM m c=(tellM m (putM m (writeO m c id)),an0,[writeO m c id])
 chk:chkC c=true
 file:dirI id=false
 at_:atN (putM m (writeO m c id)).log.nodes c.path=(id,0)
 data:((findI (putM m (writeO m c id)).log.nodes id).getD nd0).data=c.data
theorem aVi{m:Mdl}(h:MI m){c:Cal}(hk:c.kind=3)(h0:(doM m c).2.1.err=0):∃id,Written m c id:=by
 obtain⟨hc,hw⟩:=aCW h0
 have hwd:dH c ⟨m,an0,[]⟩=nL c ⟨m,an0,[]⟩:=by unfold dH;rw[zAb (by omega),zAc hk]
 rw[hwd]at hw
 rcases oI (c:=c) (d:=⟨m,an0,[]⟩) h (vU hc hk)with⟨e,he,e1⟩|⟨id,e1,e2,e3,e4,e5⟩
 ·rw[e1]at hw;exact absurd hw he
 simp only at e1 e3 e4 e5
 obtain⟨ns,hns,hat⟩:=aCT e1
 have hin:∃n∈m.log.nodes,n.id=id:=by
  rcases hat with⟨-,e⟩|hat
  ·rw[e]at e2;cases e2
  ·exact hat
 obtain⟨w1,w2⟩:=aD5 (o:=writeO m c id) h.nodes.frs rfl e4 hin
 have hnodes:(putM m (writeO m c id)).log.nodes=m.log.nodes.map (iB (writeO m c id)):=by rw[sR h e3 e4 rfl,w1]
 have hchk:chk (m.log.nodes.map (iB (writeO m c id)))=chk m.log.nodes:=by rw[←w1,aCE]
 refine⟨id,?_,hc,e2,?_,?_⟩
 ·unfold doM
  rw[zAb (by rw[hc];simp),hwd,e5]
  rfl
 ·rw[hnodes,aPk hns]
  rw[aPk hns]at e1
  refine aBZ (fun x t n hx=>⟨iB (writeO m c id) n,?_,(sT _ _).1⟩) ns 0 id e1
  rw[aHY (fun n=>(sT _ n).2.1) (fun n=>(sT _ n).2.2.1) (fun n=>(sT _ n).2.2.2) _ hchk,hx]
  rfl
 ·rw[sR h e3 e4 rfl,aNf _ _ h.nodes.frs.chk w2,zAc (show id=(writeO m c id).node from rfl),zBs,oR rfl]
  rfl
end Go.Proofs.YtolbeecicikoaaaGreatDoor
namespace Go.Proofs.YtolbeecicikoaaaGreatDoor
theorem aRk{r:Int}(h:r≠47):(47:UInt8)∉Lib.encodeRune r:=by
 unfold Lib.encodeRune
 intro hm
 obtain⟨x,hx,he⟩:=zAi.1 hm
 have hx2:0≤x∧x<256∧x≠47:=by
  unfold Lib.encodeRuneZ at hx
  split at hx
  ·grind
  ·split at hx
   ·simp only[zAv,zAS,zBY]at hx;omega
   ·split at hx
    ·simp only[zAv,zAS,zBY]at hx;omega
    ·split at hx
     ·simp only[zAv,zAS,zBY]at hx;omega
     ·simp only[zAv,zAS,zBY]at hx;omega
 have h1:=zAp UInt8.toNat he
 have h2:(x.toNat.toUInt8).toNat=x.toNat:=by
  rw[Nat.toUInt8_eq,UInt8.toNat_ofNat'];omega
 rw[h2]at h1
 simp at h1
 omega
theorem aHZ{s:Txt}(h:dO s=true):(47:UInt8)∉s:=by
 unfold dO at h
 cases hs:kB s with
 |none=>rw[hs]at h;cases h
 |some l=>
  rw[hs]at h
  simp only at h
  have hb:l.any lC=false:=by
   grind
  rw[(lL hs).1]
  intro hm
  obtain⟨r,hr,hx⟩:=zBG.1 hm
  refine aRk (fun e=>?_) hx
  have:=zBK.1 hb r hr
  rw[e]at this
  exact this rfl
def NoS(l:List Nd):Prop:=∀n∈l,(47:UInt8)∉n.name
theorem aRl{l:List Nd}{o:Opn}(h:NoS l)(ho:opOk o=true):NoS (jQ l o):=by
 cases hr:bB l o with
 |true=>grind [jQ]
 |false=>
  rw[kD hr]
  have hw:(47:UInt8)∉(dI l o).name:=by
   unfold dI
   split
   ·rename_i n hf;exact h n (aFk hf).1
   ·simp[nd0]
  intro n hn
  rcases aCI hn with rfl|hn
  ·unfold bM
   split
   ·rename_i hk
    refine aHZ ?_
    unfold opOk at ho
    simp only[zAl]at ho
    have h4:=ho.2
    rw[zAc (by simpa using hk)]at h4
    unfold rJ at h4
    simp only[zAl]at h4
    simp_all
   ·exact hw
  ·exact h n hn
theorem aB1(s:List Opn){l:List Nd}(h:NoS l)(hs:∀o∈s,opOk o=true):NoS (s.foldl jQ l):=by
 induction s generalizing l with
 |nil=>exact h
 |cons o s ih=>exact ih (aRl h (hs o (by simp))) fun o ho=>hs o (zAP _ ho)
theorem MI.nos{m:Mdl}(h:MI m):NoS m.log.nodes:=by
 rw[kZ h.good]
 exact aB1 _ (fun n hn=>by cases hn) h.good.ok
theorem aRm{s t r r':Txt}(hs:(47:UInt8)∉s)(ht:(47:UInt8)∉t)(h1:r=[]∨∃q,r=47::q)(h2:r'=[]∨∃q,r'=47::q)(h:s++r=t++r'):s=t:=by
 induction s generalizing t with
 |nil=>
  cases t with
  |nil=>rfl
  |cons c t=>
   grind
 |cons c s ih=>
  cases t with
  |nil=>
   grind
  |cons d t=>
   grind
theorem aH0{l:List Nd}{dir:Int}{s:Txt}(h:s∈(cG l dir).map (·.1)):∃n∈l,n.name=s:=by
 obtain⟨p,hp,rfl⟩:=zAi.1 h
 have hn:=(jV l dir).2 p hp
 have key:∀(l':List Nd) (m:List (Txt×Nd)),(∀q∈m,q.2∈l)→(∀n∈l',n∈l)→∀q∈l'.foldl (lV dir) m,q.2∈l:=by
  intro l'
  induction l' with
  |nil=>intro m h _;exact h
  |cons n l' ih=>
   intro m h hl
   rw[zAZ]
   refine ih _ (fun q hq=>?_) fun x hx=>hl x (zAP _ hx)
   unfold lV at hq
   split at hq
   ·unfold rL at hq
    have aB:∀(s:Txt) (m:List (Txt×Nd)),(∀q∈m,q.2∈l)→∀q∈gL s n m,q.2∈l:=by
     intro s m
     induction m with
     |nil=>intro _ q hq;rw[gL,zAx]at hq;subst hq;exact hl n (by simp)
     |cons p m ihm=>
      intro h q hq
      rw[gL]at hq
      split at hq
      ·cases hq with
       |head=>exact hl n (by simp)
       |tail _ hq=>exact h q (.tail _ hq)
      ·cases hq with
       |head=>exact h _ (.head _)
       |tail _ hq=>exact ihm (fun q hq=>h q (.tail _ hq)) q hq
    repeat' split at hq
    all_goals first|exact aB _ _ h q hq|exact h q hq
   ·exact h q hq
 exact⟨p.2,key l [] (fun q hq=>by cases hq) (fun n hn=>hn) p hp,hn⟩
def Bel(path s:Txt)(x:Itm):Prop:=∃r,x.path=path++(47::(s++r))∧(r=[]∨∃q,r=47::q)
def zY(l:List Nd)(out:List Int)(k:Nat)(dir:Int)(path:Txt)(s:Txt):List Itm:=match bT s (cG l dir)with
 |some n=>⟨path++(47::s),n.id,n.data⟩::(if dirI n.id=true then dG l out k n.id (path++(47::s))else[])
 |none=>[]
theorem yY{l:List Nd}(hs:NoS l)(out:List Int):∀(k:Nat) (dir:Int) (path:Txt),(dG l out k dir path).Pairwise (fun x y=>x.path≠y.path)∧∀x∈dG l out k dir path,∃s,Bel path s x:=by
 intro k
 induction k with
 |zero=>intro dir path;exact⟨.nil,fun x hx=>by cases hx⟩
 |succ k ih=>
  intro dir path
  have hpc:∀s,(∀x∈zY l out k dir path s,Bel path s x)∧(zY l out k dir path s).Pairwise (fun x y=>x.path≠y.path):=by
   intro s
   unfold zY
   split
   ·rename_i n hn
    have hdeep:∀x∈(if dirI n.id=true then dG l out k n.id (path++(47::s))else[]),∃t q,x.path=path++(47::(s++(47::(t++q)))):=by
     intro x hx
     split at hx
     ·obtain⟨t,q,e, -⟩:=(ih n.id (path++(47::s))).2 x hx
      exact⟨t,q,by rw[e];simp⟩
     ·cases hx
    refine⟨fun x hx=>?_,?_⟩
    ·cases hx with
     |head=>exact⟨[],by simp,.inl rfl⟩
     |tail _ hx=>
      obtain⟨t,q,e⟩:=hdeep x hx
      exact⟨47::(t++q),e,.inr ⟨_,rfl⟩⟩
    ·refine zBj.2 ⟨fun x hx e=>?_,?_⟩
     ·obtain⟨t,q,e'⟩:=hdeep x hx
      rw[e']at e
      have:=zAp List.length e
      simp at this
     ·split
      ·exact(ih _ _).1
      ·exact .nil
   ·exact⟨fun x hx=>(by cases hx),.nil⟩
  have hst:dG l out (k+1) dir path=(oZ (((cG l dir).filter fun p=> !out.contains p.2.id).map (·.1))).flatMap (zY l out k dir path):=rfl
  have hno:∀s∈oZ (((cG l dir).filter fun p=> !out.contains p.2.id).map (·.1)),(47:UInt8)∉s:=by
   intro s hm
   have hm':=(iJ _).mem_iff.1 hm
   obtain⟨p,hp,rfl⟩:=zAi.1 hm'
   obtain⟨n,hn,e⟩:=aH0 (l:=l) (dir:=dir) (zCg (zBi.1 hp).1)
   rw[←e];exact hs n hn
  rw[hst]
  refine⟨List.pairwise_flatMap.2 ⟨fun s _=>(hpc s).2,?_⟩,fun x hx=>?_⟩
  ·have hnd:(oZ (((cG l dir).filter fun p=> !out.contains p.2.id).map (·.1))).Nodup:=(iJ _).nodup_iff.2 (aAS (jV l dir).1 _)
   refine List.Pairwise.imp_of_mem (fun{s t} hs ht hne x hx y hy e=>?_) hnd
   obtain⟨r,e1,h1⟩:=(hpc s).1 x hx
   obtain⟨r',e2,h2⟩:=(hpc t).1 y hy
   rw[e1,e2]at e
   have:=List.append_cancel_left e
   simp only[List.cons.injEq,true_and]at this
   exact hne (aRm (hno s hs) (hno t ht) h1 h2 this)
  ·obtain⟨s,hs',hx⟩:=zBG.1 hx
   exact⟨s,(hpc s).1 x hx⟩
theorem xN{l:List Itm}(h:l.Pairwise fun x y=>x.path≠y.path){t:Itm}(ht:t∈l):lookI t.path l=some t:=by
 unfold lookI
 have key:∀{l:List Itm},l.Pairwise (fun x y=>x.path≠y.path)→t∈l→l.find? (fun x=>decide (x.path=t.path))=some t:=by
  intro l
  induction l<;>grind [zBj]
 grind
theorem aH1{l:List Itm}(h:l.Pairwise fun x y=>x.path≠y.path):mA l l=[]:=by
 have h1:∀t∈l,pA l t=false:=fun t ht=>by unfold pA;rw[xN h ht];simp
 have h2:∀t∈l,rN l t=false:=fun t ht=>by unfold rN;rw[xN h ht];simp
 unfold mA
 simp_all
theorem aFn{l:List Nd}(h:NoS l)(dir:Int):mA (cB l dir) (cB l dir)=[]:=by
 refine aH1 ?_
 unfold cB
 split
 ·exact(yY h _ _ _ _).1
 ·exact .nil
theorem aNF(e:List Evt)(over:Bool):lM e over []=(e,over):=by
 unfold lM
 cases over with
 |true=>rfl
 |false=>simp
theorem aB2{l:List Nd}(h:NoS l)(w:Wch):pC l l w=w:=by
 unfold pC
 rw[aFn h,aNF]
def aD6(m:Mdl)(c:Cal):Mdl:=if(doM m c).2.1.err=0 then(dH c ⟨m,an0,[]⟩).2.m else m
theorem aNG{m:Mdl}{c:Cal}(h:MI m)(hc:chkC c=true)(hw:(dH c ⟨m,an0,[]⟩).1=0):(dH c ⟨m,an0,[]⟩).2.a.err=0∧((dH c ⟨m,an0,[]⟩).2.ops=[]→(dH c ⟨m,an0,[]⟩).2.m.log=m.log):=by
 have hs:=aBX h hc
 generalize dH c ⟨m,an0,[]⟩=r at hs hw ⊢
 cases hs with
 |err e d he=>exact absurd hw he
 |put o hk hn ho ha=>exact⟨rfl,fun h=>by cases h⟩
 |keep m' a ha h1 h2 h3 h4=>exact⟨ha,fun _=>h1⟩
 |merge l hk hr hc'=>
  refine⟨rfl,fun h0=>?_⟩
  simp only at h0
  show(mergeM m l).log=m.log
  unfold mergeM
  simp only[h0]
  rfl
theorem aRn{m:Mdl}(h:MI m)(c:Cal):(doM m c).1.log=(aD6 m c).log∧(doM m c).1.snaps=(aD6 m c).snaps∧(doM m c).1.next=(aD6 m c).next∧(doM m c).1.watches=(aD6 m c).watches.map (pC m.log.nodes (doM m c).1.log.nodes):=by
 have hself:∀m':Mdl,m'.log=m.log→m'.watches=m'.watches.map (pC m.log.nodes m'.log.nodes):=fun m' e=>by
  rw[e,zBM (g:=id) fun w _=>aB2 h.nos w,List.map_id]
 unfold aD6
 cases hc:chkC c with
 |false=>
  have hd:doM m c=(m,gR 180,[]):=by unfold doM;rw[zAc hc]
  rw[hd]
  rw[zAb (show ¬(gR 180).err=0 by decide)]
  exact⟨rfl,rfl,rfl,hself m rfl⟩
 |true=>
  by_cases hw:(dH c ⟨m,an0,[]⟩).1=0
  ·obtain⟨ha,hl⟩:=aNG h hc hw
   by_cases ho:(dH c ⟨m,an0,[]⟩).2.ops=[]
   ·have hd:doM m c=((dH c ⟨m,an0,[]⟩).2.m,(dH c ⟨m,an0,[]⟩).2.a,[]):=by unfold doM;rw[zAb (by rw[hc];simp),zAc hw,zAc ho]
    grind
   ·have hd:doM m c=((vM m.log.nodes (dH c ⟨m,an0,[]⟩).2).m,(dH c ⟨m,an0,[]⟩).2.a,(dH c ⟨m,an0,[]⟩).2.ops):=by unfold doM;rw[zAb (by rw[hc];simp),zAc hw,zAb ho]
    rw[hd]
    simp only
    rw[zAc ha]
    exact⟨rfl,rfl,rfl,rfl⟩
  ·have hd:doM m c=(m,gR (dH c ⟨m,an0,[]⟩).1,[]):=by unfold doM;rw[zAb (by rw[hc];simp),zAb hw]
   rw[hd]
   simp only
   rw[zAb (show ¬(gR (dH c ⟨m,an0,[]⟩).1).err=0 from hw)]
   exact⟨rfl,rfl,rfl,hself m rfl⟩
inductive HaS (m:Mdl) (c:Cal) (w:Mdl):Prop
 |same (h1:w.snaps=m.snaps) (h2:w.watches=m.watches) (h3:w.next=m.next)
 |snap (hk:c.kind=8) (h1:w.snaps=m.snaps++[⟨m.next,m.log.nodes⟩]) (h2:w.watches=m.watches) (h3:w.next=IntKind.i64.wrap (m.next+1))
 |drop (hk:c.kind=9) (h1:w.snaps=m.snaps.filter fun s=> !decide (s.n=c.n)) (h2:w.watches=m.watches.filter fun s=> !decide (s.n=c.n)) (h3:w.next=m.next)
 |watch (hk:c.kind=10) (dir:Int) (h1:w.snaps=m.snaps) (h2:w.watches=m.watches++[⟨m.next,dir,[],false⟩]) (h3:w.next=IntKind.i64.wrap (m.next+1))
 |poll (hk:c.kind=11) (h1:w.snaps=m.snaps) (h2:w.watches=emptyW c.n m.watches) (h3:w.next=m.next)
theorem xO(d:Dsk)(o:Opn):(nW d o).2.m.snaps=d.m.snaps∧(nW d o).2.m.watches=d.m.watches∧(nW d o).2.m.next=d.m.next:=by
 unfold nW
 split<;>exact⟨rfl,rfl,rfl⟩
theorem sU(d:Dsk)(o:Opn):(qV d o).2.m.snaps=d.m.snaps∧(qV d o).2.m.watches=d.m.watches∧(qV d o).2.m.next=d.m.next:=by
 grind [qV,xO]
theorem aA3:∀(l:List Opn) (d:Dsk),(iK d l).2.m.snaps=d.m.snaps∧(iK d l).2.m.watches=d.m.watches∧(iK d l).2.m.next=d.m.next
 |[],d=>⟨rfl,rfl,rfl⟩
 |o::l,d=>by
  rw[iK]
  split
  ·obtain⟨a1,a2,a3⟩:=aA3 l (nW d o).2
   obtain⟨b1,b2,b3⟩:=xO d o
   grind
  ·exact xO _ _
theorem aH2(m:Mdl)(c:Cal):HaS m c (aD6 m c):=by
 unfold aD6
 split
 ·rename_i h0
  obtain⟨hc,hw⟩:=aCW h0
  have hk:=rX hc
  have hsame:∀{d:Dsk},d.m.snaps=m.snaps∧d.m.watches=m.watches∧d.m.next=m.next→HaS m c d.m:=fun h=>.same h.1 h.2.1 h.2.2
  unfold dH
  by_cases k1:c.kind=1∨c.kind=2
  ·rw[zAc k1]
   refine hsame ?_
   unfold qO
   repeat' split
   all_goals first|exact⟨rfl,rfl,rfl⟩|exact sU _ _
  rw[zAb k1]
  by_cases k3:c.kind=3
  ·rw[zAc k3]
   refine hsame ?_
   unfold nL
   repeat' split
   all_goals first|exact⟨rfl,rfl,rfl⟩|exact sU _ _
  rw[zAb k3]
  by_cases k4:c.kind=4
  ·rw[zAc k4]
   refine hsame ?_
   unfold nM
   repeat' split
   all_goals exact⟨rfl,rfl,rfl⟩
  rw[zAb k4]
  by_cases k5:c.kind=5
  ·rw[zAc k5]
   refine hsame ?_
   unfold tH
   repeat' split
   all_goals first|exact⟨rfl,rfl,rfl⟩|exact sU _ _
  rw[zAb k5]
  by_cases k6:c.kind=6
  ·rw[zAc k6]
   refine hsame ?_
   unfold lE
   repeat' split
   all_goals first|exact⟨rfl,rfl,rfl⟩|exact sU _ _
  rw[zAb k6]
  by_cases k7:c.kind=7
  ·rw[zAc k7]
   refine hsame ?_
   unfold lsD
   repeat' split
   all_goals exact⟨rfl,rfl,rfl⟩
  rw[zAb k7]
  by_cases k8:c.kind=8
  ·rw[zAc k8]
   unfold rO
   split
   ·exact .same rfl rfl rfl
   ·exact .snap k8 rfl rfl rfl
  rw[zAb k8]
  by_cases k9:c.kind=9
  ·rw[zAc k9]
   unfold kI
   split
   ·exact .same rfl rfl rfl
   ·exact .drop k9 rfl rfl rfl
  rw[zAb k9]
  by_cases k10:c.kind=10
  ·rw[zAc k10]
   unfold nN
   repeat' split
   all_goals first|exact .same rfl rfl rfl|exact .watch k10 _ rfl rfl rfl
  rw[zAb k10]
  by_cases k11:c.kind=11
  ·rw[zAc k11]
   unfold qP
   split
   ·exact .same rfl rfl rfl
   ·exact .poll k11 rfl rfl rfl
  rw[zAb k11]
  by_cases k12:c.kind=12
  ·rw[zAc k12]
   exact .same rfl rfl rfl
  rw[zAb k12]
  refine hsame ?_
  unfold lW
  repeat' split
  all_goals first|exact⟨rfl,rfl,rfl⟩|exact aA3 _ _
 ·exact .same rfl rfl rfl
def KeepS(h:Int)(l:List Nd)(m:Mdl):Prop:=m.snaps.find? (fun s=>decide (s.n=h))=some ⟨h,l⟩
def KeepW(h dir:Int)(q:List Evt×Bool)(m:Mdl):Prop:=m.watches.find? (fun s=>decide (s.n=h))=some ⟨h,dir,q.1,q.2⟩
theorem KeepS.nodes{m:Mdl}{h:Int}{l:List Nd}(k:KeepS h l m)(hh:1≤h):fR m h=some l:=by
 unfold fR
 rw[zAb (by omega),k]
 rfl
theorem KeepW.len{m:Mdl}{h dir:Int}{q:List Evt×Bool}(k:KeepW h dir q m)(hm:MI m):q.1.length≤9∧(q.2=false→q.1.length≤8):=(hm.watch _ (zA5 k)).2
end Go.Proofs.YtolbeecicikoaaaGreatDoor
namespace Go.Proofs.YtolbeecicikoaaaGreatDoor
def zO(l:List Txt)(s:Txt):List Txt:=if(l.drop (l.takeWhile fun x=>kG x s).length).head?=some s then l else l.take (l.takeWhile fun x=>kG x s).length++s::l.drop (l.takeWhile fun x=>kG x s).length
def aD7(l:List Txt):Prop:=l.Pairwise fun x y=>kG x y=true
theorem aFo(p:Txt→Bool):∀(l:List Txt),∀x∈l.takeWhile p,p x=true
 |[],x,h=>by cases h
 |y::l,x,h=>by
  rw[zBq]at h
  split at h
  ·rename_i hy
   rcases zAv.1 h with rfl|h
   ·exact hy
   ·exact aFo p l x h
  ·cases h
theorem aA4(p:Txt→Bool)(l:List Txt):l.take (l.takeWhile p).length=l.takeWhile p∧l.drop (l.takeWhile p).length=l.dropWhile p:=by
 grind [List.takeWhile_append_dropWhile,zCw,List.drop_left]
theorem aNH(l:List Txt)(s:Txt):zO l s=if(l.dropWhile fun x=>kG x s).head?=some s then l else l.takeWhile (fun x=>kG x s)++s::l.dropWhile fun x=>kG x s:=by
 unfold zO
 rw[(aA4 _ l).1,(aA4 _ l).2]
theorem xP{l:List Txt}(s:Txt)(h:aD7 l):aD7 (zO l s)∧∀x,x∈zO l s↔x∈l∨x=s:=by
 rw[aNH]
 have hsp:=List.takeWhile_append_dropWhile (p:=fun x=>kG x s) (l:=l)
 have ht:∀x∈l.takeWhile (fun x=>kG x s),kG x s=true:=fun x hx=>aFo _ l x hx
 split
 ·rename_i hh
  refine⟨h,fun x=>⟨.inl,fun hx=>?_⟩⟩
  rcases hx with hx|rfl
  ·exact hx
  ·rw[←hsp]
   exact List.mem_append_right _ (List.mem_of_head? hh)
 ·rename_i hh
  have hd:∀x∈l.dropWhile (fun x=>kG x s),kG s x=true:=by
   cases he:l.dropWhile (fun x=>kG x s)with
   |nil=>intro x hx;cases hx
   |cons y r=>
    rw[he]at hh
    have hy:kG y s=false:=by
     have:=List.head?_dropWhile_not (fun x=>kG x s) l
     rw[he]at this
     simpa using this
    have hys:y≠s:=by rintro rfl;exact hh rfl
    have hsy:kG s y=true:=by
     cases hk:kG s y with
     |true=>rfl
     |false=>exact absurd (aBS hy hk) hys
    have hr:(y::r).Pairwise fun x y=>kG x y=true:=by
     rw[←he]
     exact zCo (List.dropWhile_sublist _) h
    intro x hx
    rcases zAv.1 hx with rfl|hx
    ·exact hsy
    ·exact kH.trans _ _ _ hsy ((zBj.1 hr).1 x hx)
  refine⟨?_,fun x=>?_⟩
  ·refine zBp.2 ⟨zCo (List.takeWhile_sublist _) h,zBj.2 ⟨hd,zCo (List.dropWhile_sublist _) h⟩,fun a ha b hb=>?_⟩
   rcases zAv.1 hb with rfl|hb
   ·exact ht a ha
   ·exact kH.trans _ _ _ (ht a ha) (hd b hb)
  ·conv=>rhs;rw[←hsp]
   simp only[zAD,zAv]
   grind
def uE(dir:Int)(out:List Txt)(n:Nd):List Txt:=if zN dir n=true then zO out n.name else out
def aKL(l:List Nd)(dir:Int):List Txt:=l.foldl (uE dir) []
theorem aH3(m:List (Txt×Nd))(n:Nd)(x:Txt):x∈(rL m n).map (·.1)↔x∈m.map (·.1)∨x=n.name:=by
 have hs:x∈(gL n.name n m).map (·.1)↔x∈m.map (·.1)∨x=n.name:=by
  rw[aBU]
  grind
 unfold rL
 split
 ·exact hs
 ·rename_i o ho
  split
  ·refine⟨.inl,fun h'=>h'.elim id fun e=>?_⟩
   rw[e]
   exact zAi.2 ⟨_,aDR ho,rfl⟩
  ·exact hs
theorem aFp(dir:Int):∀(l:List Nd) (out:List Txt) (m:List (Txt×Nd)),aD7 out→(∀x,x∈out↔x∈m.map (·.1))→
  aD7 (l.foldl (uE dir) out)∧∀x,x∈l.foldl (uE dir) out↔x∈(l.foldl (lV dir) m).map (·.1):=by
 intro l
 induction l with
 |nil=>intro out m h1 h2;exact⟨h1,h2⟩
 |cons n l ih=>
  intro out m h1 h2
  rw[zAZ,zAZ]
  cases hi:zN dir n with
  |false=>rw[uE,lV,hi,zAb (by simp),zAb (by simp)];exact ih _ _ h1 h2
  |true=>
   rw[uE,lV,hi,zAc rfl,zAc rfl]
   have hp:=xP n.name h1
   exact ih _ _ hp.1 fun x=>by rw[hp.2,aH3,h2]
theorem aFq{l:List Txt}(h:aD7 l):l.Nodup:=h.imp fun{a b} hab e=>by subst e;rw[kH.irrefl]at hab;cases hab
theorem aD8{l:List Txt}(h:aD7 l):l.Pairwise fun x y=>(!kG y x)=true:=h.imp fun{a b} hab=>by
 cases hk:kG b a with
 |false=>rfl
 |true=>have:=kH.trans _ _ _ hab hk;rw[kH.irrefl]at this;cases this
theorem aKM{l:List Nd}(hc:chk l=true)(dir:Int):aKL l dir=nJ l dir:=by
 obtain⟨h1,h2⟩:=aFp dir l [] [] .nil (by simp)
 rw[nJ,zAc hc]
 exact tW (aD8 h1) ((List.perm_ext_iff_of_nodup (aFq h1) (jV l dir).1).2 h2)
def nS(l:List Nd)(not:List Int):Nat→Int→Txt→List Itm
 |0,_,_=>[]
 |k+1,dir,path=>(nJ l dir).flatMap fun s=>match childN l dir s with
  |some n=>if not.contains n.id=true then[]else⟨path++(47::s),n.id,n.data⟩::(if dirI n.id=true then nS l not k n.id (path++(47::s))else[])
  |none=>[]
theorem aCX{α β:Type}(q:α→Bool)(f:α→List β)(l:List α):(l.filter q).flatMap f=l.flatMap fun x=>if q x=true then f x else[]:=by
 induction l<;>grind
theorem aB3{l:List Nd}(hc:chk l=true){out not:List Int}(ho:∀x,not.contains x=out.contains x):∀(k:Nat) (dir:Int) (path:Txt),nS l not k dir path=dG l out k dir path:=by
 intro k
 induction k with
 |zero=>intro dir path;rfl
 |succ k ih=>
  intro dir path
  have hnd:=(jV l dir).1
  have hf:oZ (((cG l dir).filter fun p=> !out.contains p.2.id).map (·.1))=(nJ l dir).filter fun s=>match bT s (cG l dir)with|some n=> !out.contains n.id|none=>false:=by
   rw[nJ,zAc hc]
   refine(tW (zCo List.filter_sublist (vL _)) ?_).symm
   refine((iJ _).filter _).trans ?_
   rw[List.filter_map]
   refine List.Perm.of_eq (zAp _ (List.filter_congr fun p hp=>?_))
   simp only[Function.comp]
   rw[aDQ hnd (n:=p.2) hp]
  rw[nS,dG,hf,aCX]
  congr 1
  funext s
  rw[childN,zAc hc]
  cases hl:bT s (cG l dir)with
  |none=>rfl
  |some n=>
   simp only[ho]
   cases out.contains n.id with
   |true=>rfl
   |false=>
    simp only[ih,zAw,zA3,zBb,zAU]
theorem aCY{l:List Nd}(hc:chk l=true)(h:Wfr l)(out:List Int):∀(k j:Nat) (dir:Int) (path:Txt),dirI dir=true→l.length≤k+dep l dir→l.length≤j+dep l dir→dG l out k dir path=dG l out j dir path:=by
 intro k
 have hno:∀{dir:Int},dirI dir=true→l.length≤dep l dir→∀(j:Nat) (path:Txt),dG l out j dir path=[]:=by
  intro dir hd hl j path
  cases j with
  |zero=>rfl
  |succ j=>
   rw[dG]
   have:cG l dir=[]:=by
    cases hs:cG l dir with
    |nil=>rfl
    |cons p m=>
     obtain⟨s,n⟩:=p
     have hp:=(rQ hc hd (s:=s) (n:=n) (by rw[hs];exact .head _)).1
     have h1:=sM h hp
     have h2:=aAU h n.id
     omega
   rw[this]
   simp[oZ]
 induction k with
 |zero=>grind
 |succ k ih=>
  intro j dir path hd hk hj
  cases j with
  |zero=>rw[hno hd (by omega),hno hd (by omega)]
  |succ j=>
   rw[dG,dG]
   congr 1
   funext s
   cases hl:bT s (cG l dir)with
   |none=>rfl
   |some n=>
    have hp:=(rQ hc hd (pD hl)).1
    have hdp:=sM h hp
    simp only
    by_cases hdn:dirI n.id=true
    ·rw[zAc hdn,zAc hdn,ih j n.id _ hdn (by omega) (by omega)]
    ·rw[zAb hdn,zAb hdn]
def xQ(l:List Nd)(dir:Int):List Itm:=if chk l=true then nS l (eO l dir++[dir]) l.length dir []else[]
theorem sV{l:List Nd}(h:Wfr l){dir:Int}(hd:dirI dir=true):xQ l dir=cB l dir:=by
 unfold xQ cB
 split
 ·rename_i hc
  rw[aB3 hc (out:=aNe l dir) (fun x=>by simp[aNe,Bool.or_comm]),aCY hc h _ l.length (l.length+1) dir [] hd (by omega) (by omega)]
 ·rfl
theorem yZ{α β:Type}(f g:α→List β)(h:∀a,(f a).Sublist (g a)):∀l:List α,(l.flatMap f).Sublist (l.flatMap g)
 |[]=>List.Sublist.slnil
 |a::l=>by rw[zAK,zAK];exact(h a).append (yZ f g h l)
theorem aFr(l:List Nd)(out:List Int):∀(k:Nat) (dir:Int) (path:Txt),(dG l out k dir path).Sublist (dG l out (k+1) dir path):=by
 intro k
 induction k with
 |zero=>intro dir path;exact List.nil_sublist _
 |succ k ih=>
  intro dir path
  rw[dG,dG]
  refine yZ _ _ (fun s=>?_) _
  grind
theorem aBq(l:List Nd)(out:List Int){k j:Nat}(h:k≤j)(dir:Int)(path:Txt):(dG l out k dir path).Sublist (dG l out j dir path):=by
 obtain⟨d,rfl⟩:=Nat.exists_eq_add_of_le h
 induction d with
 |zero=>exact List.Sublist.refl _
 |succ d ih=>exact(ih (by omega)).trans (aFr l out (k+d) dir path)
theorem qF{l:List Nd}(hc:chk l=true)(h:Wfr l)(not:List Int)(k:Nat){dir:Int}(path:Txt)(hd:dirI dir=true):(nS l not k dir path).length≤l.length:=by
 rw[aB3 hc (out:=not) (fun _=>rfl)]
 have h1:=aGu hc h not dir path hd
 unfold blw at h1
 by_cases hk:k≤l.length+1
 ·exact zA2 (aBq l not hk dir path).length_le h1
 ·rw[yU hc h not k (l.length+1) dir path hd (by omega) (by omega)]
  exact h1
def iZ(l:List Itm)(p:Txt):Option Itm:=l.find? fun x=>decide (x.path=p)
theorem aB4{l:List Itm}(h:l.Pairwise fun x y=>x.path≠y.path)(p:Txt):iZ l p=lookI p l:=by
 cases hf:iZ l p with
 |some t=>
  grind [zA5,zCG,xN,List,Itm,iZ,lookI]
 |none=>
  have h1:=zBF.1 hf
  symm
  exact zBF.2 fun x hx=>h1 x (zCx.1 hx)
end Go.Proofs.YtolbeecicikoaaaGreatDoor
namespace Go.Proofs.YtolbeecicikoaaaGreatDoor
def HU(m:Mdl)(q:Int):Prop:=(m.watches.Pairwise fun a b=>a.n≠b.n)∧(∀w∈m.watches,w.n<m.next)∧0≤m.next∧m.next≤q
theorem aRo{r:Int}{m:Mdl}(h:xL r=(m,0)):HU m 1:=by
 unfold xL at h
 split at h
 ·cases h
  exact⟨.nil,fun w hw=>by(cases hw),by simp,by simp⟩
 ·cases h
theorem aKN{m:Mdl}{q:Int}(f:Wch→Wch)(hf:∀w,(f w).n=w.n)(h:HU m q):HU {m with watches:=m.watches.map f} q:=by
 obtain⟨h1,h2,h3,h4⟩:=h
 refine⟨?_,fun w hw=>?_,h3,h4⟩
 ·exact List.pairwise_map.2 (h1.imp fun{a b} hab=>by rw[hf,hf];exact hab)
 ·obtain⟨x,hx,rfl⟩:=zAi.1 hw
  rw[hf];exact h2 x hx
theorem aA5{n:Int}:∀{l:List Wch},(l.Pairwise fun a b=>a.n≠b.n)→emptyW n l=l.map fun w=>if w.n=n then{w with evs:=[]}else w:=by
 intro l
 induction l with
 |nil=>intro _;rfl
 |cons w l ih=>
  intro h
  obtain⟨h1,h2⟩:=zBj.1 h
  rw[emptyW,zAA]
  split
  ·rename_i he
   congr 1
   have:∀x∈l,(if x.n=n then{x with evs:=[]}else x)=x:=fun x hx=>zAb fun hx'=>h1 x hx (by rw[he,hx'])
   rw[zBM this,List.map_id']
  ·rw[ih h2]
theorem aRp{m:Mdl}{q:Int}(h:HU m q)(hq:q<9223372036854775806)(c:Cal):HU (aD6 m c) (q+1):=by
 obtain⟨h1,h2,h3,h4⟩:=h
 have hw:IntKind.i64.wrap (m.next+1)=m.next+1:=wI
 rcases aH2 m c with⟨e1,e2,e3⟩|⟨_,e1,e2,e3⟩|⟨_,e1,e2,e3⟩|⟨_,dir,e1,e2,e3⟩|⟨_,e1,e2,e3⟩
 ·exact⟨by rw[e2];exact h1,by rw[e2,e3];exact h2,by rw[e3];exact h3,by rw[e3];omega⟩
 ·refine⟨by rw[e2];exact h1,fun w hw'=>?_,by rw[e3,hw];omega,by rw[e3,hw];omega⟩
  rw[e2]at hw'
  rw[e3,hw]
  have:=h2 w hw'
  omega
 ·refine⟨by rw[e2];exact h1.filter _,fun w hw'=>?_,by rw[e3];exact h3,by rw[e3];omega⟩
  rw[e2]at hw'
  rw[e3]
  exact h2 w (zBi.1 hw').1
 ·refine⟨?_,fun w hw'=>?_,by rw[e3,hw];omega,by rw[e3,hw];omega⟩
  ·rw[e2]
   refine zBp.2 ⟨h1,List.pairwise_singleton _ _,fun a ha b hb=>?_⟩
   rw[zAx]at hb
   subst hb
   have:=h2 a ha
   simp only;omega
  ·rw[e2,zAD,zAx]at hw'
   rw[e3,hw]
   rcases hw' with hw'|rfl
   ·have:=h2 w hw';omega
   ·simp only;omega
 ·have hm:=aKN (m:=m) (q:=q) (fun w=>if w.n=c.n then{w with evs:=[]}else w) (fun w=>by split<;>rfl) ⟨h1,h2,h3,h4⟩
  rw[←aA5 h1]at hm
  obtain⟨g1,g2,g3,g4⟩:=hm
  exact⟨by rw[e2];exact g1,by rw[e2,e3];exact g2,by rw[e3];exact h3,by rw[e3];omega⟩
theorem aUo{m:Mdl}{q:Int}(hm:MI m)(h:HU m q)(hq:q<9223372036854775806)(c:Cal):HU (doM m c).1 (q+1):=by
 obtain⟨-, -,e3,e4⟩:=aRn hm c
 obtain⟨g1,g2,g3,g4⟩:=aKN (pC m.log.nodes (doM m c).1.log.nodes) (fun w=>rfl) (aRp h hq c)
 exact⟨by rw[e4];exact g1,by rw[e3,e4];exact g2,by rw[e3];exact g3,by rw[e3];exact g4⟩
end Go.Proofs.YtolbeecicikoaaaGreatDoor
namespace Go.Proofs.YtolbeecicikoaaaGreatDoor
theorem aKO{g:Lg}(hg:Good g)(hl:g.entries.length≤200):NsI 1048576 g.nodes:=by
 have h2:(opsG g).length≤200:=by rw[opsG,zAj];exact hl
 rw[kZ hg]
 refine⟨aBT _ aGt,?_,aBW _ (fun n hn=>by cases hn) fun o ho=>⟨hg.ok o ho,(uC (hg.ok o ho)).2.1⟩⟩
 have:=aAZ (opsG g) []
 simp only[zAE]at *
 omega
end Go.Proofs.YtolbeecicikoaaaGreatDoor
