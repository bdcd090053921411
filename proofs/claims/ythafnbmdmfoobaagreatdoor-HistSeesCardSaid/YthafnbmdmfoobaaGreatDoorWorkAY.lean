/- What the functions of this seat answer (25 of 40). No condition. -/
import Derived.Test.YthafnbmdmfoobaaGreatDoorWorkAX
set_option linter.unusedSimpArgs false
set_option linter.unusedVariables false
set_option maxRecDepth 100000
set_option maxHeartbeats 16000000
namespace Go.Proofs.YthafnbmdmfoobaaGreatDoor
section
structure jh (c:b3):Prop where
 path:c.path.length<=1048576
 to:c.to.length<=1048576
 data:c.data.length<=1048576
theorem RE{l:List aB}{p:aM}{dir:Int}{s:aM}(h:jF l p=(dir,s,0)):s.length<=80:=by
 obtain⟨b7,ag, -, -⟩:=Qg h;exact PN (KV ag s (by simp))
theorem Sx{i j:Nat}{c:b3}{d:cS}{G:ab}(aa:gv i j c d G)(hs:np d.m)(al:jh c)(hl:d.ops.length<=1000000):qZ Tryz.prog 90 i j c (ze c d) G:=by
 refine eJ Tryz.func90 ?_;have a8:=aa.aV;have aU:=bz aa.aV trivial;have a3:=bz aa.bm trivial;have aP:=aa.ne;have cH:=aa.e3;have cO:=aa.fR;have a1:=aa.a1;have a4:=aa.a4;have bL:=aX G i;simp only[fv]at a8 aU;have bq:=mq cH cO aP rfl;unfold ze;by_cases h1:c.path=[47]
 ·have d1:decide (c.path=[47])=true:=cF h1;rw[aF h1];refine bW ?_;exact jG aa rfl aa.own.symm
 have d1:decide (c.path=[47])=false:=b8 h1;rw[az h1];have c3:=Ul false d.m.log.nodes c.path (by have:=hs.nodes;omega) al.path
 obtain⟨⟨dir,s,e⟩,aD⟩:∃x,jF d.m.log.nodes c.path=x:=⟨_,rfl⟩;rw[aD]at c3 ⊢;simp only[BQ]at c3;by_cases he:e=0
 ·subst he;simp only[dI];have iH:=HF false d.m.log.nodes dir s (by have:=hs.nodes;omega)
  cases tw:fp d.m.log.nodes dir s with
  |some n=>
   simp only[tw,xb,rY,oJ,xp]at iH;simp only[xp,dI];refine bW ?_;exact jG aa rfl aa.own.symm
  |none=>
   simp only[tw,xb,Bf,Be,A8]at iH;rw[az (by simp)]
   have mL:=fun L=>LK j c d i (by have:=hs.db;omega) (G++L) (aa.app L).aV
   have Ab:=LK j c d i (by have:=hs.db;omega) G aa.aV
   obtain⟨⟨st,f⟩,ag⟩:∃x,g8 d.m=x:=⟨_,rfl⟩;simp only[ag,xd]at mL Ab ⊢;by_cases an:f=0
   ·subst an;rw[aF rfl];have ia:=aHG st.c st.r (decide (c.kind=1));repeat' first|((first|refine ea (Ab) (aA) ?_|refine ep (Ab) (aA) ?_|refine er (fun _=>Ab) (aA) ?_|refine ad ?_);simp only[go_sem,a8,aU,a3,a1,a4,bL,bq,aX,d1])|refine af ?_|fail
    refine c6 (HI (aa.app _) hs (o:=⟨mV,1,nM st.c st.r (decide (c.kind=1)),dir,s,[]⟩) ⟨by have:=RE aD;simp only;omega,by simp⟩ hl) (aA) ?_
    rintro v H' ⟨rfl,rfl⟩;rw[aa.Cr];simp only[go_sem];refine aT ?_;exact sQ aa rfl rfl
   ·have hd:decide (f=0)=false:=b8 an;rw[az an];repeat' first|((first|refine ea (Ab) (aA) ?_|refine ep (Ab) (aA) ?_|refine er (fun _=>Ab) (aA) ?_|refine ad ?_);simp only[go_sem,a8,aU,a3,a1,a4,bL,bq,aX,d1,hd])|refine af ?_|fail
    exact sQ aa rfl aa.own.symm
 ·have hd:decide (e=0)=false:=b8 he;simp only[az he];refine bW ?_;exact jG aa rfl aa.own.symm
theorem aBW{i j:Nat}{c:b3}{d:cS}{G:ab}(aa:gv i j c d G)(hs:np d.m)(al:jh c)(hl:d.ops.length<=1000000):qZ Tryz.prog 91 i j c (A1 c d) G:=by
 refine eJ Tryz.func91 ?_;have a8:=aa.aV;have aU:=bz aa.aV trivial;have a3:=bz aa.bm trivial;have aP:=aa.ne;have cH:=aa.e3;have cO:=aa.fR;have a1:=aa.a1;have a4:=aa.a4;have bL:=aX G i;simp only[fv]at a8 aU;have bq:=mq cH cO aP rfl;unfold A1;have fj:=BR false d.m.log.nodes c.path (by have:=hs.nodes;omega) al.path
 obtain⟨⟨id,e⟩,aD⟩:∃x,fL d.m.log.nodes c.path=x:=⟨_,rfl⟩;rw[aD]at fj ⊢;simp only[sT]at fj;by_cases he:e=0
 ·subst he;simp only[dI];have jr:=sX id;cases fl:dy id with
  |true=>
   rw[fl]at jr;rw[aF rfl];refine bW ?_;exact jG aa rfl aa.own.symm
  |false=>
   rw[fl]at jr;rw[az (by simp)]
   refine bW ?_;refine c6 (HI aa hs (o:=⟨mV,2,id,0,[],c.data⟩) ⟨by simp,by have:=al.data;simp only;omega⟩ hl) (aA) ?_
   rintro v H' ⟨rfl,rfl⟩;simp only[go_sem];refine aT ?_;exact jG aa rfl rfl
 ·have hd:decide (e=0)=false:=b8 he;simp only[az he];refine bW ?_;exact jG aa rfl aa.own.symm
theorem Rs{m:cb}(hs:np m){n:Int}{l:List aB}(h:pa m n=some l):l.length<=1000000:=by
 unfold pa at h;split at h
 ·cases h;exact hs.nodes
 ·obtain⟨s,an,rfl⟩:=jC.1 h;exact hs.snap s (rV an)
theorem aER{i j:Nat}{c:b3}{d:cS}{G:ab}(aa:gv i j c d G)(hs:np d.m)(al:jh c)(m9:∀l,pa d.m c.n=some l->r6 l):qZ Tryz.prog 92 i j c (BB c d) G:=by
 refine eJ Tryz.func92 ?_;have a8:=aa.aV;have aU:=bz aa.aV trivial;have a3:=bz aa.bm trivial;have aP:=aa.ne;have cH:=aa.e3;have cO:=aa.fR;have a1:=aa.a1;have a4:=aa.a4;have bL:=aX G i;simp only[fv]at a8 aU;have bq:=mq cH cO aP rfl;unfold BB;have fz:=Sr d.m c.n i _ hs.cj G aa.aV;cases ag:pa d.m c.n with
 |none=>
  rw[ag]at fz;simp only[Eb]at fz;repeat' first|((first|refine ea (fz) (aA) ?_|refine ep (fz) (aA) ?_|refine er (fun _=>fz) (aA) ?_|refine ad ?_);simp only[go_sem,a8,aU,a3,a1,a4,bL,bq,aX])|refine af ?_|fail
  exact jG aa rfl aa.own.symm
 |some l=>
  rw[ag]at fz;simp only[Eb]at fz;have hl:l.length<=1000000:=Rs hs ag;have fj:=BR false l c.path (by omega) al.path
  simp only;obtain⟨⟨id,e⟩,aD⟩:∃x,fL l c.path=x:=⟨_,rfl⟩;rw[aD]at fj ⊢;simp only[sT]at fj;by_cases he:e=0
  ·subst he;simp only[dI];have jr:=sX id;cases fl:dy id with
   |true=>
    rw[fl]at jr;rw[aF rfl];repeat' first|((first|refine ea (fz) (aA) ?_|refine ep (fz) (aA) ?_|refine er (fun _=>fz) (aA) ?_|refine ad ?_);simp only[go_sem,a8,aU,a3,a1,a4,bL,bq,aX])|refine af ?_|fail
    exact jG aa rfl aa.own.symm
   |false=>
    rw[fl]at jr;rw[az (by simp)]
    have an:=aFB false l id;simp only[WX,aW]at an;repeat' first|((first|refine ea (fz) (aA) ?_|refine ep (fz) (aA) ?_|refine er (fun _=>fz) (aA) ?_|refine ad ?_);simp only[go_sem,a8,aU,a3,a1,a4,bL,bq,aX])|refine af ?_|fail
    exact sQ aa rfl (aa.one (d':={d with a:={d.a with data:=((xN l id).getD sS).data}}) rfl)
  ·have hd:decide (e=0)=false:=b8 he;simp only[az he];repeat' first|((first|refine ea (fz) (aA) ?_|refine ep (fz) (aA) ?_|refine er (fun _=>fz) (aA) ?_|refine ad ?_);simp only[go_sem,a8,aU,a3,a1,a4,bL,bq,aX,hd])|refine af ?_|fail
   exact jG aa rfl aa.own.symm
theorem aGV{i j:Nat}{c:b3}{d:cS}{G:ab}(aa:gv i j c d G)(hs:np d.m)(al:jh c)(m9:∀l,pa d.m c.n=some l->r6 l):qZ Tryz.prog 95 i j c (CY c d) G:=by
 refine eJ Tryz.func95 ?_;have a8:=aa.aV;have aU:=bz aa.aV trivial;have a3:=bz aa.bm trivial;have aP:=aa.ne;have cH:=aa.e3;have cO:=aa.fR;have a1:=aa.a1;have a4:=aa.a4;have bL:=aX G i;simp only[fv]at a8 aU;have bq:=mq cH cO aP rfl;unfold CY;have fz:=Sr d.m c.n i _ hs.cj G aa.aV;cases ag:pa d.m c.n with
 |none=>
  rw[ag]at fz;simp only[Eb]at fz;repeat' first|((first|refine ea (fz) (aA) ?_|refine ep (fz) (aA) ?_|refine er (fun _=>fz) (aA) ?_|refine ad ?_);simp only[go_sem,a8,aU,a3,a1,a4,bL,bq,aX])|refine af ?_|fail
  exact jG aa rfl aa.own.symm
 |some l=>
  rw[ag]at fz;simp only[Eb]at fz;have hl:l.length<=1000000:=Rs hs ag;have fj:=BR false l c.path (by omega) al.path
  simp only;obtain⟨⟨id,e⟩,aD⟩:∃x,fL l c.path=x:=⟨_,rfl⟩;rw[aD]at fj ⊢;simp only[sT]at fj;by_cases he:e=0
  ·subst he;simp only[dI];have jr:=sX id;cases fl:dy id with
   |true=>
    rw[fl]at jr;rw[aF rfl];have an:=aHv false l id (by omega) (m9 l ag)
    repeat' first|((first|refine ea (fz) (aA) ?_|refine ep (fz) (aA) ?_|refine er (fun _=>fz) (aA) ?_|refine ad ?_);simp only[go_sem,a8,aU,a3,a1,a4,bL,bq,aX])|refine af ?_|fail
    exact jG aa rfl (aa.one (d':={d with a:={d.a with names:=BM l id}}) rfl)
   |false=>
    rw[fl]at jr;rw[az (by simp)]
    repeat' first|((first|refine ea (fz) (aA) ?_|refine ep (fz) (aA) ?_|refine er (fun _=>fz) (aA) ?_|refine ad ?_);simp only[go_sem,a8,aU,a3,a1,a4,bL,bq,aX])|refine af ?_|fail
    exact jG aa rfl aa.own.symm
  ·have hd:decide (e=0)=false:=b8 he;simp only[az he];repeat' first|((first|refine ea (fz) (aA) ?_|refine ep (fz) (aA) ?_|refine er (fun _=>fz) (aA) ?_|refine ad ?_);simp only[go_sem,a8,aU,a3,a1,a4,bL,bq,aX,hd])|refine af ?_|fail
   exact jG aa rfl aa.own.symm
theorem aAl{i j:Nat}{c:b3}{d:cS}{G:ab}(aa:gv i j c d G)(hs:np d.m)(al:jh c)(hl:d.ops.length<=1000000):qZ Tryz.prog 94 i j c (AO c d) G:=by
 refine eJ Tryz.func94 ?_;have a8:=aa.aV;have aU:=bz aa.aV trivial;have a3:=bz aa.bm trivial;have aP:=aa.ne;have cH:=aa.e3;have cO:=aa.fR;have a1:=aa.a1;have a4:=aa.a4;have bL:=aX G i;simp only[fv]at a8 aU;have bq:=mq cH cO aP rfl;unfold AO;by_cases h1:c.path=[47]
 ·have d1:decide (c.path=[47])=true:=cF h1;rw[aF h1];refine bW ?_;exact jG aa rfl aa.own.symm
 have d1:decide (c.path=[47])=false:=b8 h1;rw[az h1];have fj:=BR false d.m.log.nodes c.path (by have:=hs.nodes;omega) al.path
 obtain⟨⟨id,e⟩,aD⟩:∃x,fL d.m.log.nodes c.path=x:=⟨_,rfl⟩;rw[aD]at fj ⊢;simp only[sT]at fj;by_cases he:e=0
 ·subst he;simp only[dI];have dK:=DQ c.path al.path;unfold kV at dK;cases ag:gl c.path with
  |none=>
   simp only[ag]at dK;refine bW ?_;exact jG aa rfl aa.own.symm
  |some b7=>
   simp only[ag,d1]at dK;cases b7 with
   |nil=>
    refine bW ?_;exact jG aa rfl aa.own.symm
   |cons x xs=>
    have hlen:=F5 ag;rw[cm]at hlen;have hw:IntKind.i64.wrap (((xs.length+1:Nat):Int)-1)=(xs.length:Int):=by rw[cB];omega
    have hd:decide (((xs.length+1:Nat):Int)=0)=false:=cg;have cG:(I.str x::xs.map I.str).getD xs.length .top=.str ((x::xs).getLast (by simp)):=by
     rw[<-dn (f:=I.str),dg I.str (by simp),List.getLast_eq_getElem];simp
    have ak:xs.length<xs.length+1:=nW _;have m9:((x::xs).getLast (by simp)).length<=80:=PN (KV ag _ (List.getLast_mem _))
    obtain⟨s,FL⟩:∃s,(x::xs).getLast (by simp)=s:=⟨_,rfl⟩
    rw[FL]at cG m9;simp only[FL];refine bW ?_;refine c6 (HI aa hs (o:=⟨mV,1,id,2,s,[]⟩) ⟨by simp only;omega,by simp⟩ hl) (aA) ?_
    rintro v H' ⟨rfl,rfl⟩;simp only[go_sem];refine aT ?_;exact jG aa rfl rfl
 ·have hd:decide (e=0)=false:=b8 he;simp only[az he];refine bW ?_;exact jG aa rfl aa.own.symm
theorem aES{i j:Nat}{c:b3}{d:cS}{G:ab}(aa:gv i j c d G)(hs:np d.m)(al:jh c)(hl:d.ops.length<=1000000):qZ Tryz.prog 93 i j c (zf c d) G:=by
 refine eJ Tryz.func93 ?_;have a8:=aa.aV;have aU:=bz aa.aV trivial;have a3:=bz aa.bm trivial;have aP:=aa.ne;have cH:=aa.e3;have cO:=aa.fR;have a1:=aa.a1;have a4:=aa.a4;have bL:=aX G i;simp only[fv]at a8 aU;have bq:=mq cH cO aP rfl;unfold zf;by_cases h1:c.path=[47]
 ·have d1:decide (c.path=[47])=true:=cF h1;rw[aF (.inl h1)];refine bW ?_;exact jG aa rfl aa.own.symm
 have d1:decide (c.path=[47])=false:=b8 h1;by_cases h2:c.to=[47]
 ·have d2:decide (c.to=[47])=true:=cF h2;rw[aF (.inr h2)];refine bW ?_;exact jG aa rfl aa.own.symm
 have d2:decide (c.to=[47])=false:=b8 h2;rw[az (by rintro(h|h)<;>contradiction)]
 have fj:=BR false d.m.log.nodes c.path (by have:=hs.nodes;omega) al.path
 obtain⟨⟨id,e⟩,aD⟩:∃x,fL d.m.log.nodes c.path=x:=⟨_,rfl⟩;rw[aD]at fj ⊢;simp only[sT]at fj;by_cases he:e=0
 ·subst he;simp only[dI];have c3:=Ul false d.m.log.nodes c.to (by have:=hs.nodes;omega) al.to
  obtain⟨⟨dir,s,f⟩,VI⟩:∃x,jF d.m.log.nodes c.to=x:=⟨_,rfl⟩;rw[VI]at c3 ⊢;simp only[BQ]at c3;by_cases an:f=0
  ·subst an;simp only[dI];have iH:=HF false d.m.log.nodes dir s (by have:=hs.nodes;omega)
   cases tw:fp d.m.log.nodes dir s with
   |some n=>
    simp only[tw,xb,rY,oJ,xp]at iH;simp only[xp,dI];refine bW ?_;exact jG aa rfl aa.own.symm
   |none=>
    simp only[tw,xb,Bf,Be,A8]at iH;rw[az (by simp)]
    by_cases fl:dir=id
    ·have EO:decide (dir=id)=true:=cF fl;rw[aF (.inl fl)];repeat' first|(refine ad ?_;simp only[go_sem,a8,aU,a3,a1,a4,bL,bq,aX,d1,d2,EO])|refine af ?_|fail
     exact jG aa rfl aa.own.symm
    have EO:decide (dir=id)=false:=b8 fl;have jO:=L5 false d.m.log.nodes dir (by have:=hs.nodes;omega)
    have Jg:=Gz false (nb d.m.log.nodes dir) id;have zU:((nb d.m.log.nodes dir).any fun x=>decide (x=id))=(nb d.m.log.nodes dir).contains id:=by rw[qh];simp
    cases bS:(nb d.m.log.nodes dir).contains id with
    |true=>
     rw[aF (.inr rfl)];simp only[zU,bS]at Jg;refine bW ?_;exact jG aa rfl aa.own.symm
    |false=>
     rw[az (by rintro(h|h)<;>contradiction)]
     simp only[zU,bS]at Jg;refine bW ?_;refine c6 (HI aa hs (o:=⟨mV,1,id,dir,s,[]⟩) ⟨by have:=RE VI;simp only;omega,by simp⟩ hl) (aA) ?_
     rintro v H' ⟨rfl,rfl⟩;simp only[go_sem];refine aT ?_;exact jG aa rfl rfl
  ·have hd:decide (f=0)=false:=b8 an;simp only[az an];refine bW ?_;exact jG aa rfl aa.own.symm
 ·have hd:decide (e=0)=false:=b8 he;simp only[az he];refine bW ?_;exact jG aa rfl aa.own.symm
end
section
def qz(fA:List eZ):List I:=(fA.map dY).flatMap I.cells
theorem aHw(a:List eZ)(x:eZ):qz (a++[x])=qz a++[.str x.path,.int .i64 x.id,.str x.data]:=by
 simp[qz,dY,I.cells]
theorem aHx(a:List eZ):(qz a).length=a.length * 3:=by
 induction a with
 |nil=>rfl
 |cons x a ay=>
  have:qz (x::a)=[.str x.path,.int .i64 x.id,.str x.data]++qz a:=by simp[qz,dY,I.cells]
  grind
def kX(G:ab)(h:Nat)(fA:List eZ):ab:=ai (ai G (h+5) (.cells (fA.length+1) (qz fA))) (h+3) (.cells 0 [.osl 3 (h+5) (fA.length+1) 0 fA.length fA.length])
theorem UE(G:ab)(h:Nat)(a b:List eZ):kX (kX G h a) h b=kX G h b:=by
 unfold kX;rw[tj (ai G (h+5) _) _ _ (show h+3≠h+5 by omega),iQ,iQ]
theorem Nj{G:ab}{h:Nat}(ah:h+5<G.length)(fA:List eZ)(L:ab):kX (G++L) h fA=kX G h fA++L:=by
 unfold kX;rw[gW ah,gW (by rw[aX];omega)]
theorem IA(G:ab)(h:Nat)(fA:List eZ):(kX G h fA).length=G.length:=by unfold kX;rw[aX,aX]
theorem HQ{G:ab}{h j:Nat}{B:bu}(fA:List eZ)(aw:ao G j=B)(h1:j≠h+3)(h2:j≠h+5):ao (kX G h fA) j=B:=by
 unfold kX;exact bM (bM aw (by omega) _) (by omega) _
structure q4 (F:FuncId) (b:Bool) (l:List aB) (ki:List (I×I×Nat)) (kI h:Nat) (fA:List eZ) (G:ab):Prop where
 eT:ao G h=.cells 0 [.sl b (l.map aW)]
 aV:ao G (h+1)=.map ki kI
 bm:ao G (h+2)=.cells 0 [.map (h+1)]
 iE:ao G (h+3)=.cells 0 [.osl 3 (h+5) (fA.length+1) 0 fA.length fA.length]
 ir:ao G (h+4)=.cells 0 [.func (.func F) [] [.ref h 0 0,.ref (h+2) 0 0,.ref (h+3) 0 0,.ref (h+4) 0 0]]
 oQ:ao G (h+5)=.cells (fA.length+1) (qz fA)
theorem q4.lt{F:FuncId}{b:Bool}{l:List aB}{ki:List (I×I×Nat)}{kI h:Nat}{fA:List eZ}{G:ab}(k:q4 F b l ki kI h fA G):h+5<G.length:=c8 k.oQ trivial
theorem q4.app{F:FuncId}{b:Bool}{l:List aB}{ki:List (I×I×Nat)}{kI h:Nat}{fA:List eZ}{G:ab}(k:q4 F b l ki kI h fA G)(L:ab):q4 F b l ki kI h fA (G++L):=
 ⟨bQ k.eT trivial L,bQ k.aV trivial L,bQ k.bm trivial L,bQ k.iE trivial L,bQ k.ir trivial L,bQ k.oQ trivial L⟩
theorem q4.put{F:FuncId}{b:Bool}{l:List aB}{ki:List (I×I×Nat)}{kI h:Nat}{fA:List eZ}{G:ab}(k:q4 F b l ki kI h fA G)(u7:List eZ):q4 F b l ki kI h u7 (kX G h u7):=
 ⟨HQ u7 k.eT (by omega) (by omega),HQ u7 k.aV (by omega) (by omega),HQ u7 k.bm (by omega) (by omega),dT (by rw[aX];exact c8 k.iE trivial) _,HQ u7 k.ir (by omega) (by omega),
  bM (dT k.lt _) (by omega) _⟩
theorem q4.own{F:FuncId}{b:Bool}{l:List aB}{ki:List (I×I×Nat)}{kI h:Nat}{fA:List eZ}{G:ab}(k:q4 F b l ki kI h fA G):kX G h fA=G:=by
 unfold kX;rw[kr k.oQ trivial,kr k.iE trivial]
theorem aGt(k n:Nat)(fA:List eZ):dp n (.cells k (qz fA)):=fun x J=>by
 unfold qz at J;rw[rZ]at J;obtain⟨y,aG,J⟩:=J;obtain⟨t, -,rfl⟩:=bP.1 aG;simp only[dY,I.cells,c7,jB,jD]at J;rcases J with rfl|rfl|rfl
 ·exact .str _
 ·exact .int _ _
 ·exact .str _
theorem aGW{G:ab}{h n:Nat}(fA:List eZ)(ag:h+5<n):∀(j:Nat) (b:bu),(kX G h fA)[j]?=some b->G[j]?=some b∨dp n b:=fun j b aw=>by
 rcases AN (n:=n) (b:=.cells 0 [.osl 3 (h+5) (fA.length+1) 0 fA.length fA.length]) (fun x J=>by rw[dA]at J;subst J;exact .osl _ _ _ _ _ _ (by omega)) j b aw with q|q
 ·exact AN (aGt _ _ fA) j b q
 ·exact .inr q
theorem aGX{b:Bool}{l:List aB}(al:cC l=true)(hw:kL l)(hl:l.length<=1073741824)(ag:r6 l){out:List Int}{ki:List (I×I×Nat)}(aN:Bo out ki)(kI u:Nat):
  ∀(k:Nat) (dir:Int) (path:aM) (fA:List eZ) (G:ab),dy dir=true->l.length<k+dep l dir->path.length<=dep l dir * 1073741825->fA.length+(pE l out dir path).length<=1073741824->
   q4 185 b l ki kI u fA G->
   c5 Tryz.prog 185 [.int .i64 dir,.str path,.ref u 0 0,.ref (u+2) 0 0,.ref (u+3) 0 0,.ref (u+4) 0 0] G (fun v dt=>v=.a0 []∧dt=kX G u (fA++pE l out dir path)):=by
 intro k;induction k with
 |zero=>intro dir path fA G _ hk;have:=zl hw dir;omega
 |succ k ay=>
 intro dir path fA G hd hk ae aS aa;refine pD Tryz.func185 ?_;have ak:=aa.lt;have n5:=aa.eT;repeat' first|(refine ad ?_;simp only[go_sem,n5])|refine af ?_|fail
 refine c6 (MY b l dir hl G) (aA) ?_;rintro v H' ⟨rfl,rfl⟩;simp only[go_sem];obtain⟨es,tC⟩:∃es,es=fO 0 (fu l dir):=⟨_,rfl⟩;obtain⟨cl,eM⟩:∃n,n=(fu l dir).length:=⟨_,rfl⟩;have bl:ma es cl:=by rw[tC,eM];exact Uy _
 have Wp:uE es:=by rw[tC];exact aGU (DT l dir).1
 rw[<-tC,<-eM];repeat' first|(refine ad ?_;simp only[go_sem])|refine af ?_|fail
 -- what is left out goes from the map
 refine jY (ι:=ab) (fun _=>[(1,.str path),(2,.ref u 0 0),(3,.ref (u+2) 0 0),(4,.ref (u+3) 0 0),(5,.ref (u+4) 0 0),(8,.map G.length)]) (fun L=>G++.map (es.filter fun q=> !mu out q) cl::L) (fun _=>True) ?_ fun lk _=>?_
 ·refine b5 (ι:=List (I×I×Nat)×ab) (fun s=>[(1,.str path),(2,.ref u 0 0),(3,.ref (u+2) 0 0),(4,.ref (u+3) 0 0),(5,.ref (u+4) 0 0),(8,.map G.length),(19,.iter (G.length+1))]) (fun s=>G++.map (mQ es (mu out) s.1) cl::.h0 G.length cl (s.1.map (·.2.2)) cl::s.2) (fun s=>r3 es s.1) (fun s=>es.length-s.1.length)
   ([],[]) ⟨fun p ae=>(by cases ae),(by simp)⟩ (by simp[go_sem]) (by rw[aKW];rfl) ?_
  rintro⟨ps,L⟩ aT;simp only at aT ⊢;have JC:ma (mQ es (mu out) ps) cl:=bl.filter _;have Wr:uE (mQ es (mu out) ps):=Wp.filter _;repeat' first|(refine ad ?_;simp only[go_sem])|refine af ?_|fail
  refine⟨G.length+1,G.length,cl,ps.map (·.2.2),cl,mQ es (mu out) ps,cl,rfl,by simp only[go_sem],by simp only[go_sem],fun p ae=>⟨JC.lt p ae,JC.lt p ae⟩,fun he=>?_,fun p ae=>?_⟩
  ·simp only[go_sem];repeat' first|(refine ad ?_;simp only[go_sem])|refine af ?_|fail
   rw[WU]at he;rw[aKV (aT.perm bl he)];exact⟨.h0 G.length cl (ps.map (·.2.2)) cl::L,rfl⟩
  ·have iU:p∈mQ es (mu out) ps:=(km.1 ae).1;have FE:=ae;rw[WU]at FE;obtain⟨fh,tK⟩:=aT.step FE;have ch:=JC.U6 iU (ps.map (·.2.2));have pW:=tK;rw[tC]at pW;obtain⟨⟨s,n⟩,hm,ar,au⟩:=aK9 pW;simp only at ar au;simp only[go_sem];obtain⟨cZ,ri⟩:∃cZ,G++.map (mQ es (mu out) ps) cl::.h0 G.length cl (ps.map (·.2.2)++[p.2.2]) cl::L=cZ:=⟨_,rfl⟩;have fG:ao cZ G.length=.map (mQ es (mu out) ps) cl:=by rw[<-ri];simp only[go_sem]
   have cc:ao cZ (G.length+1)=.h0 G.length cl (ps.map (·.2.2)++[p.2.2]) cl:=by rw[<-ri];simp only[go_sem]
   have cI:ao cZ (u+2)=.cells 0 [.map (u+1)]:=by rw[<-ri];exact(aa.app _).bm
   have gZ:ao cZ (u+1)=.map ki kI:=by rw[<-ri];exact(aa.app _).aV
   have d0:=jI fG trivial;have d2:=bz cI trivial;have d3:=bz gZ trivial;have d1:=bz fG trivial;have k1:iy .string (mQ es (mu out) ps)=True:=bJ Wr.p6;have k2:iy (.int .i64) ki=True:=bJ aN.p6;have aJf:=aH8 Wr JC iU ar;rw[ri];rw[ar]at ch;rw[au]at ch;rw[ar,au];have fj:=aN.at_ n.id;have Wd:mu out p=out.contains n.id:=by unfold mu;rw[au];rfl
   have qu:es.length-(ps++[p]).length<es.length-ps.length:=by
    have:=fh.len;simp only[bt,cm,ew]at this ⊢;omega
   by_cases m8:n.id∈out
   ·rw[aF m8]at fj;obtain⟨⟨j,w⟩,aw,bT⟩:=jC.1 fj;simp only at bT;subst bT;have na:mu out p=true:=by rw[Wd];simpa using m8
    have hle:=aKY (ps:=ps) bl tK na;rw[<-aJf]at hle;repeat' first|(refine ad ?_;simp only[go_sem,ch,fG,cc,cI,gZ,d0,d1,d2,d3,k1,k2,aw,aW])|refine af ?_|fail
    refine⟨(ps++[p],L++[.cells 0 (aW n).cells]),fh,qu,?_⟩;rw[hle,<-ri];simp[ai,aW,I.cells]
   ·rw[az m8]at fj;have aw:=Hq.1 fj;have ru:mu out p=false:=by rw[Wd];simpa using m8
    have hle:=aKX (ps:=ps) bl tK ru;repeat' first|(refine ad ?_;simp only[go_sem,ch,fG,cc,cI,gZ,d0,d1,d2,d3,k1,k2,aw,aW])|refine af ?_|fail
    refine⟨(ps++[p],L++[.cells 0 (aW n).cells]),fh,qu,?_⟩;rw[hle,<-ri];simp[ai,aW,I.cells]
 -- the names in order
 have aKb:ma (es.filter fun q=> !mu out q) cl:=bl.filter _
 have aJM:(es.filter fun q=> !mu out q).map (·.1)=(((fu l dir).filter fun p=> !out.contains p.2.id).map (·.1)).map I.str:=by rw[tC];exact aLa out 0 _
 have m9:zb (((fu l dir).filter fun p=> !out.contains p.2.id).map (·.1)):=fun s hs=>by
  obtain⟨p,ae,rfl⟩:=bP.1 hs;exact Pr ag dir _ (bP.2 ⟨p,(km.1 ae).1,rfl⟩)
 have eu:(es.filter fun q=> !mu out q).length<=1073741824:=by
  have h1:=nX (fun q=> !mu out q) es
  have h2:es.length=(fu l dir).length:=by rw[tC,UR]
  have h3:=Ix l dir;omega
 repeat' first|(refine ad ?_;simp only[go_sem])|refine af ?_|fail
 refine ea (Xm aKb G.length aJM m9 eu _ (by simp only[go_sem])) (aA) ?_
 simp only[go_sem];show _;obtain⟨b7,eD⟩:∃b7,b7=v7 l out dir:=⟨_,rfl⟩;have aJ9:pA (((fu l dir).filter fun p=> !out.contains p.2.id).map (·.1))=b7:=by rw[eD];rfl
 rw[aJ9];repeat' first|(refine ad ?_;simp only[go_sem])|refine af ?_|fail
 have bL:b7.length<=1073741824:=by
  have h1:b7.length=(((fu l dir).filter fun p=> !out.contains p.2.id).map (·.1)).length:=by rw[eD];exact(Gt _).length_eq
  have h2:=nX (fun p:aM×aB=> !out.contains p.2.id) (fu l dir)
  have h3:=Ix l dir;rw[cP]at h1;omega
 obtain⟨pL,N9⟩:∃pL,pL=es.filter fun q=> !mu out q:=⟨_,rfl⟩
 have Wq:uE pL:=by rw[N9];exact Wp.filter _
 have CI:=Tw al hw out hd path;rw[<-eD]at CI;rw[<-N9];refine b5 (ι:=Nat×ab) (fun s=>[(1,.str path),(2,.ref u 0 0),(3,.ref (u+2) 0 0),(4,.ref (u+3) 0 0),(5,.ref (u+4) 0 0),(8,.map G.length),(32,.sl false (b7.map I.str)),(33,.int .i64 b7.length),(34,.int .i64 s.1)])
  (fun s=>kX G u (fA++(b7.take s.1).flatMap (oO l out dir path))++.map pL cl::s.2) (fun s=>s.1<=b7.length) (fun s=>b7.length-s.1) (0,lk) (bG _) ?_ ?_ ?_
 ·simp[go_sem]
 ·rw[xr,DL,b2,aa.own]
 rintro⟨i,L⟩ hi;simp only at hi ⊢;obtain⟨j2,Fq⟩:∃x,x=fA++(b7.take i).flatMap (oO l out dir path):=⟨_,rfl⟩;rw[<-Fq];obtain⟨cZ,ri⟩:∃cZ,kX G u j2++.map pL cl::L=cZ:=⟨_,rfl⟩;have bK:q4 185 b l ki kI u j2 cZ:=by rw[<-ri];exact(aa.put j2).app _
 have fG:ao cZ G.length=.map pL cl:=by rw[<-ri];exact rB (IA G u j2)
 rw[ri];by_cases bS:i<b7.length
 ·have m8:b7[i]∈v7 l out dir:=by rw[<-eD];exact hv bS
  obtain⟨n,uY,OH,bX⟩:=Ux m8;have lZ:b7[i].length<=1073741824:=Pr ag dir _ (bP.2 ⟨(b7[i],n),OH,rfl⟩);obtain⟨q,aKi⟩:=aK4 (b:=0) OH;have wI:(I.str b7[i],aW n,q)∈pL:=by rw[N9,tC];exact km.2 ⟨aKi,by unfold mu;simpa[aW]using bX⟩
  obtain⟨j,aw, -⟩:=Wq.at_ wI rfl;simp only at aw;have k1:iy .string pL=True:=bJ Wq.p6;obtain⟨ym,aSG, -⟩:=BK al hd OH;have Fg:=vW hw ym;have iU:(path.length+1)+b7[i].length<=dep l n.id * 1073741825:=by omega
  have ry:(b7.take (i+1)).flatMap (oO l out dir path)=(b7.take i).flatMap (oO l out dir path)++oO l out dir path b7[i]:=by
   rw[eB bS,List.flatMap_append,List.flatMap_singleton]
  have yn:oO l out dir path b7[i]=⟨path++(47::b7[i]),n.id,n.data⟩::(if dy n.id=true then pE l out n.id (path++(47::b7[i]))else[]):=by unfold oO;rw[uY]
  have hsz:j2.length+(oO l out dir path b7[i]).length<=1073741824:=by
   have h1:((b7.take (i+1)).flatMap (oO l out dir path)).length<=(pE l out dir path).length:=by
    rw[CI];conv=>rhs;rw[<-jf (i+1) b7,List.flatMap_append,bt]
    omega
   rw[ry,bt]at h1;rw[Fq,bt];omega
  have iw:=zl hw n.id;have a1:=bz bK.iE trivial;have a4:=bz bK.ir trivial;have eh:=bz bK.oQ trivial;have fD:=jI bK.oQ trivial;have aKT:=bK.lt;have Xc:∀c L,ao (ai cZ (u+5) c++L) (u+3)=_:=fun c L=>bQ (bM bK.iE (by omega) c) trivial L
  have XJ:∀c c' L,ai (ai cZ (u+5) c++L) (u+3) c'=ai (ai cZ (u+5) c) (u+3) c'++L:=fun c c' L=>gW (by rw[aX];omega) L c'
  have Xd:∀c c' L,ao (ai (ai cZ (u+5) c) (u+3) c'++L) (u+4)=_:=fun c c' L=>bQ (bM (bM bK.ir (by omega) c) (by omega) c') trivial L
  have Xn:∀c c' L,ao (ai (ai cZ (u+5) c) (u+3) c'++L) cZ.length=L.getD 0 .gone:=fun c c' L=>rB (by rw[aX,aX])
  have fk:(qz j2).length=j2.length * 3:=aHx _;have iK:((j2.length+1) * 40<=140737488355328)=True:=bJ (by rw[yn]at hsz;simp only[cm]at hsz;omega)
  have dK:dw [I.osl 3 (u+5) (j2.length+1) 0 j2.length j2.length] 0 [.osl 3 (u+5) (j2.length+2) 0 (j2.length+1) (j2.length+1)]=[.osl 3 (u+5) (j2.length+2) 0 (j2.length+1) (j2.length+1)]:=rfl;have cG:(b7.map I.str).getD i .top=.str b7[i]:=by simp[bS]
  have jN:(∀e,e=I.agg [.str (path++47::b7[i]),.int .i64 n.id,.str n.data]->e.cells.length=3)=True:=bJ (fun e he=>by rw[he];rfl)
  obtain⟨x,J⟩:∃x:eZ,x=⟨path++(47::b7[i]),n.id,n.data⟩:=⟨_,rfl⟩;have o7:∀Y,ai (ai cZ (u+5) (.cells (j2.length+2) (qz j2++[.str (path++47::b7[i]),.int .i64 n.id,.str n.data]))) (u+3) (.cells 0 [.osl 3 (u+5) (j2.length+2) 0 (j2.length+1) (j2.length+1)])++Y=kX (cZ++Y) u (j2++[x]):=fun Y=>by
   rw[Nj bK.lt,J];unfold kX;rw[aHw,bt];rfl
  have tB:∀u7 Y,kX (cZ++Y) u u7=kX G u u7++.map pL cl::(L++Y):=fun u7 Y=>by
   rw[Nj bK.lt,<-ri,Nj (by rw[IA];exact ak),UE]
   simp
  rw[<-J]at yn;have qu:b7.length-(i+1)<b7.length-i:=by omega
  cases ky:dy n.id with
  |false=>
   repeat' first|((first|refine du (sX _) ?_|refine ad ?_);simp only[go_sem,fG,cG,aw,k1,aW,bS,fk,jN,iK,dK,a1,a4,eh,fD,Xc,XJ,Xd,Xn,ky])|refine af ?_|fail
   refine⟨(i+1,L++[.cells 0 (aW n).cells]),bS,qu,bH _ (dW bS (by omega)),?_⟩
   rw[o7,tB,ry,yn,ky,az (by simp),Fq,cr]
   rfl
  |true=>
   repeat' first|((first|refine du (sX _) ?_|refine ad ?_);simp only[go_sem,fG,cG,aw,k1,aW,bS,fk,jN,iK,dK,a1,a4,eh,fD,Xc,XJ,Xd,Xn,ky])|refine af ?_|fail
   rw[o7];have I5:=(bK.app [.cells 0 [.int .i64 n.id,.int .i64 n.parent,.str n.name,.int .i64 n.fB.c,.int .i64 n.fB.r,.str n.data,.int .i64 n.wrote.c,.int .i64 n.wrote.r]]).put (j2++[x]);rw[yn,ky,aF rfl,cm]at hsz;refine qy (ay n.id (path++47::b7[i]) (j2++[x]) _ ky (by omega) (by rw[bt,cm];omega) (by rw[bt,uv];omega) I5) (aA) ?_
   rintro v H' ⟨rfl,rfl⟩;rw[UE];simp only[go_sem];repeat' first|(refine ad ?_;simp only[go_sem])|refine af ?_|fail
   refine⟨(i+1,L++[.cells 0 (aW n).cells]),bS,qu,bH _ (dW bS (by omega)),?_⟩
   rw[tB,ry,yn,ky,aF rfl,Fq,cr];rfl
 ·have fx:i=b7.length:=by omega
  repeat' first|(refine ad ?_;simp only[go_sem,bS])|refine af ?_|fail
  refine⟨kX G u j2,.map pL cl::L,.a0 [],ri.symm,by rw[IA];exact bk _,by rw[IA];exact aGW j2 ak,.cl _ (.a0 _ fun _ _ J=>by simp at J),rfl,?_⟩
  rw[Fq,fx,eQ,CI]
theorem T2(b:Bool)(l:List aB)(dir:Int)(hw:kL l)(hd:dy dir=true)(hl:l.length<=1073741824)(ag:r6 l)(H:ab):aY Tryz.prog 151 [.sl b (l.map aW),.int .i64 dir] H (.sl false ((nN l dir).map dY)):=by
 refine bh Tryz.func151 ?_;unfold nN;cases hs:cC l with
 |false=>
  rw[az (by simp),im]
  repeat' first|((first|refine du (kY _ _) ?_|refine ad ?_);simp only[go_sem,hs])|refine af ?_|fail
  exact bo (.sl _ _)
 |true=>
  rw[aF rfl];have c3:=L5 b l dir hl;obtain⟨up,jO⟩:∃up,up=nb l dir:=⟨_,rfl⟩;rw[<-jO]at c3;have qB:iy (.int .i64) []=True:=bJ (fun p ae=>by cases ae)
  have JK:up.length<=1073741824:=by
   rw[jO,nb,aF hs];exact gU (Lz hw _ _) hl
  repeat' first|((first|refine du (kY _ _) ?_|refine ad ?_);simp only[go_sem,hs,qB])|refine af ?_|fail
  have dP:ao (H++[.cells 0 [.sl b (l.map aW)]]) H.length=.cells 0 [.sl b (l.map aW)]:=by simp only[go_sem]
  refine jY (ι:=List (I×I×Nat)×Nat) (fun _=>[(1,.int .i64 dir),(2,.ref H.length 0 0),(5,.ref (H.length+2) 0 0)]) (fun s=>H++[.cells 0 [.sl b (l.map aW)],.map s.1 s.2,.cells 0 [.map (H.length+1)]]) (fun s=>Bo (dir::up) s.1) ?_ fun⟨ki,kI⟩ aN=>?_
  ·refine b5 (ι:=Nat×List (I×I×Nat)×Nat) (fun s=>[(1,.int .i64 dir),(2,.ref H.length 0 0),(5,.ref (H.length+2) 0 0),(18,.sl false (up.map bj)),(19,.int .i64 up.length),(20,.int .i64 s.1)]) (fun s=>H++[.cells 0 [.sl b (l.map aW)],.map s.2.1 s.2.2,.cells 0 [.map (H.length+1)]])
    (fun s=>s.1<=up.length∧Bo (dir::up.take s.1) s.2.1) (fun s=>up.length-s.1) (0,hB (.int .i64 dir) (.bool true) [] 0,_) ⟨bG _,W4 aLh dir 0⟩ ?_ rfl ?_
   ·simp[go_sem]
   rintro⟨i,ki,kI⟩ ⟨hi,aN⟩;simp only at hi aN ⊢;by_cases bS:i<up.length
   ·have cG:(up.map bj).getD i .top=bj up[i]:=by simp[bS]
    have k1:iy (.int .i64) ki=True:=bJ aN.p6;have CG:=W4 aN up[i] kI;have ry:dir::up.take i++[up[i]]=dir::up.take (i+1):=by rw[eB bS];rfl
    rw[ry]at CG;repeat' first|(refine ad ?_;simp only[go_sem,bS,cG,bj,k1])|refine af ?_|fail
    refine⟨(i+1,_,_),⟨bS,CG⟩,by simp only;omega,bH _ (dW bS (by omega)),rfl⟩
   ·have fx:i=up.length:=by omega
    rw[fx,eQ]at aN;repeat' first|(refine ad ?_;simp only[go_sem,bS])|refine af ?_|fail
    exact⟨(ki,kI),aN,rfl⟩
  simp only;have Ad:dir::up=xV l dir:=by rw[jO];rfl
  rw[Ad]at aN;refine vr (ι:=Unit) (fun _=>[(1,.int .i64 dir),(2,.ref H.length 0 0),(5,.ref (H.length+2) 0 0),(8,.ref (H.length+3) 0 0)]) (fun _=>H++[.cells 0 [.sl b (l.map aW)],.map ki kI,.cells 0 [.map (H.length+1)],.cells 0 [.sl true []]]) (fun _=>True) ?_ fun _ _=>?_
  ·repeat' first|(refine ad ?_;simp only[go_sem])|refine af ?_|fail
   exact⟨(),trivial⟩
  refine vr (ι:=Unit) (fun _=>[(1,.int .i64 dir),(2,.ref H.length 0 0),(5,.ref (H.length+2) 0 0),(8,.ref (H.length+3) 0 0),(9,.ref (H.length+4) 0 0)]) (fun _=>H++[.cells 0 [.sl b (l.map aW)],.map ki kI,.cells 0 [.map (H.length+1)],.cells 0 [.sl true []],.cells 0 [.en]]) (fun _=>True) ?_ fun _ _=>?_
  ·repeat' first|(refine ad ?_;simp only[go_sem])|refine af ?_|fail
   exact⟨(),trivial⟩
  refine vr (ι:=Unit) (fun _=>[(1,.int .i64 dir),(2,.ref H.length 0 0),(5,.ref (H.length+2) 0 0),(8,.ref (H.length+3) 0 0),(9,.ref (H.length+4) 0 0)]) (fun _=>H++[.cells 0 [.sl b (l.map aW)],.map ki kI,.cells 0 [.map (H.length+1)],.cells 0 [.sl true []],.cells 0 [.func (.func 185) [] [.ref H.length 0 0,.ref (H.length+2) 0 0,.ref (H.length+3) 0 0,.ref (H.length+4) 0 0]]]) (fun _=>True) ?_ fun _ _=>?_
  ·repeat' first|(refine ad ?_;simp only[go_sem])|refine af ?_|fail
   exact⟨(),trivial⟩
  refine Dm (H.length+3) 0 3 (by simp only[go_sem];rfl) rfl ?_
  simp only[go_sem];have bK:q4 185 b l ki kI H.length [] (H++[.cells 0 [.sl b (l.map aW)],.map ki kI,.cells 0 [.map (H.length+1)],.cells 0 [.osl 3 (H.length+5) 1 0 0 0],.cells 0 [.func (.func 185) [] [.ref H.length 0 0,.ref (H.length+2) 0 0,.ref (H.length+3) 0 0,.ref (H.length+4) 0 0]],.cells 1 []]):=
   ⟨by simp only[go_sem],by simp only[go_sem],by simp only[go_sem],by first|(simp only[go_sem];done)|(simp only[go_sem];rfl),by simp only[go_sem],by first|(simp only[go_sem];done)|(simp only[go_sem];rfl)⟩
  have rl:=M8 hs hw (xV l dir) dir [] hd;have iw:=zl hw dir;repeat' first|(refine ad ?_;simp only[go_sem])|refine af ?_|fail
  refine qy (aGX hs hw hl ag aN kI H.length (l.length+1) dir [] [] _ hd (by omega) (bG _) (by rw[ew];omega) bK) (aA) ?_
  rintro v H' ⟨rfl,rfl⟩;rw[gK];have I4:=bK.put (pE l (xV l dir) dir []);have gZ:=I4.iE;have th:=I4.oQ;simp only[go_sem];repeat' first|(refine ad ?_;simp only[go_sem,gZ])|refine af ?_|fail
  obtain⟨L,hU⟩:=(show ∃L,kX (H++_) H.length (pE l (xV l dir) dir [])=H++L from mb (mb ⟨_,rfl⟩ (by omega) _) (by omega) _)
  rw[hU]at th ⊢;exact p3 (cs:=qz (pE l (xV l dir) dir [])) (es:=(pE l (xV l dir) dir []).map dY) (rest:=[]) (by omega) th (by rw[b2];rfl) (by simp) (fun e he=>by obtain⟨x,_,rfl⟩:=bP.1 he;rfl) (fun e he=>by obtain⟨x,_,rfl⟩:=bP.1 he;exact(by simp only[go_sem])) rfl
end
end Go.Proofs.YthafnbmdmfoobaaGreatDoor
