/- The texts 21 of 51 beneath the rows of this seat (joined by program): the abstract machine, and what the functions answer. No condition. -/
import Derived.Test.YthhdnjiodklmmaaGreatDoorWorkAE
import Derived.Test.YthhdnjiodklmmaaGreatDoorWorkAI
import Derived.Test.YthhdnjiodklmmaaGreatDoorWorkAR
import Derived.Test.YthhdnjiodklmmaaGreatDoorWorkAS
import Derived.Lib.MapLaws
import Derived.Sort.AssemblyPlain
set_option linter.unusedSimpArgs false
set_option linter.unusedVariables false
set_option linter.unusedSectionVars false
/- Calls, threads and turns, and what a call does next, in plain Lean. No condition. -/
namespace Go.Gw
open Go Go.Aw Go.Proofs.YthhdnjiodklmmaaGreatDoor
structure Cal where
 kind:Int
 path:Txt
 to:Txt
 data:Txt
 n:Int
deriving DecidableEq,Inhabited
structure Evt where
 kind:Int
 path:Txt
deriving DecidableEq,Inhabited
structure Ans where
 err:Int
 data:Txt
 names:List Txt
 n:Int
 events:List Evt
deriving DecidableEq,Inhabited
structure Thr where
 call:Cal
 has:List Int
 at_:Int
 done:Bool
 ended:Bool
 upto:Int
 begin_:Int
 mark:Int
 end_:Int
 ans:Ans
deriving DecidableEq,Inhabited
structure Trn where
 kind:Int
 lock:Int
deriving DecidableEq,Inhabited
def aEW(s:Txt):AV:=.str s
def gZ(c:Cal):AV:=.agg [.int .i64 c.kind,.str c.path,.str c.to,.str c.data,.int .i64 c.n]
def gF(e:Evt):AV:=.agg [.int .i64 e.kind,.str e.path]
def trA(t:Trn):AV:=.agg [.int .i64 t.kind,.int .i64 t.lock]
def thF(h n e:AV)(t:Thr):AV:=.agg [.int .i64 t.call.kind,.str t.call.path,.str t.call.to,.str t.call.data,.int .i64 t.call.n,h,.int .i64 t.at_,.bool t.done,.bool t.ended,.int .i64 t.upto,.int .i64 t.begin_,.int .i64 t.mark,.int .i64 t.end_,
 .int .i64 t.ans.err,.str t.ans.data,n,.int .i64 t.ans.n,e]
def thA(f1 f2 f3:Bool)(t:Thr):AV:=thF (.sl f1 (t.has.map inA)) (.sl f2 (t.ans.names.map AV.str)) (.sl f3 (t.ans.events.map gF)) t
@[go_sem] theorem aVV(x:Cal):Pur (gZ x)=True:=by simp only[gZ,go_sem]
@[go_sem] theorem aVW(x:Evt):Pur (gF x)=True:=by simp only[gF,go_sem]
@[go_sem] theorem aVX(x:Trn):Pur (trA x)=True:=by simp only[trA,go_sem]
@[go_sem] theorem aVY(f1 f2 f3:Bool)(x:Thr):Pur (thA f1 f2 f3 x)=True:=by simp only[thA,thF,go_sem]
def an0:Ans:=⟨0,[],[],0,[]⟩
theorem xR{p:Txt}{l:List Txt}(h:dJ p=some l):l.length≤16:=by
 unfold dJ at h
 split at h
 ·cases h;simp
 ·split at h
  ·cases h
  ·split at h
   ·split at h
    ·rename_i hf
     cases h
     simp only[aCu,Bool.and_eq_true,decide_eq_true_eq]at hf
     omega
    ·cases h
   ·cases h
end Go.Gw
/- What comes in with a row of the Plan laws: a call, numbers. No condition. -/
namespace Go.Proofs.YthhdnjiodklmmaaGreatDoor
set_option maxRecDepth 20000
open Go Go.Aw Go.Gw Go.ChangeShapes Go.WideShapes Go.ChangeAt Go.RowKit
theorem aUj:hQ Tryz.prog 44=true:=by kernel_rfl
theorem aQy:kindB Tryz.prog 44=true:=by kernel_rfl
theorem aJD{ys:List AV}(h:Sh Tryz.prog 44 ys):∃o:Cal,ys=(gZ o).cells:=by
 obtain⟨y1,ys1,rfl,h1,r1⟩:=pX (aGV Tryz.underlying44 aQy h)
 obtain⟨y2,ys2,rfl,h2,r2⟩:=pX r1
 obtain⟨y3,ys3,rfl,h3,r3⟩:=pX r2
 obtain⟨y4,ys4,rfl,h4,r4⟩:=pX r3
 obtain⟨y5,ys5,rfl,h5,r5⟩:=pX r4
 obtain rfl:=aLP r5
 obtain⟨a,rfl,_⟩:=aEF Tryz.underlying3 h1
 obtain⟨s,rfl,_⟩:=aCd Tryz.underlying9 h2
 obtain⟨u,rfl,_⟩:=aCd Tryz.underlying9 h3
 obtain⟨v,rfl,_⟩:=aCd Tryz.underlying9 h4
 obtain⟨b,rfl,_⟩:=aEF Tryz.underlying3 h5
 exact⟨⟨a,s,u,v,b⟩,rfl⟩
end Go.Proofs.YthhdnjiodklmmaaGreatDoor
/- What comes in with a row of the Model laws: calls, texts. No condition. -/
namespace Go.Proofs.YthhdnjiodklmmaaGreatDoor
set_option maxRecDepth 20000
open Go Go.Aw Go.Gw Go.ChangeShapes Go.WideShapes Go.ChangeAt Go.RowKit
theorem aQz:hQ Tryz.prog 22=false:=by kernel_rfl
theorem aMc:kindB Tryz.prog 22=true:=by kernel_rfl
theorem aQA:hQ Tryz.prog 9=false:=by kernel_rfl
theorem aMd{zs:List (List AV)}(h:∀z∈zs,Sh Tryz.prog 44 z):∃l:List Cal,zs.map (mkA Tryz.prog 44)=l.map gZ∧l.length=zs.length:=by
 induction zs with
 |nil=>exact⟨[],rfl,rfl⟩
 |cons z zs ih=>
  obtain⟨p,rfl⟩:=aJD (h z (by simp))
  obtain⟨l,h1,h2⟩:=ih fun z hz=>h z (by simp[hz])
  refine⟨p::l,?_,by simp[h2]⟩
  rw[List.map_cons,List.map_cons,h1,mkA,if_pos aUj];rfl
theorem iZ{x:AV}(h:∃ys,x=mkA Tryz.prog 22 ys∧Sh Tryz.prog 22 ys∧(hQ Tryz.prog 22=true∨ys.length=1)):∃l:List Cal,x=.sl false (l.map gZ)∧l.length≤maxLen:=by
 obtain⟨ys,rfl,h,_⟩:=h
 obtain⟨zs,rfl,hl,hz⟩:=aIL Tryz.underlying22 aMc h
 obtain⟨l,h1,h2⟩:=aMd hz
 refine⟨l,?_,by rw[h2];exact hl⟩
 rw[mkA,if_neg (by rw[aQz];decide),h1];rfl
theorem aAF{x:AV}(h:∃ys,x=mkA Tryz.prog 9 ys∧Sh Tryz.prog 9 ys∧(hQ Tryz.prog 9=true∨ys.length=1)):∃n,x=.str n:=by
 obtain⟨ys,rfl,h,_⟩:=h
 obtain⟨s,rfl,_⟩:=aCd Tryz.underlying9 h
 exact⟨s,by rw[mkA,if_neg (by rw[aQA];decide)];rfl⟩
end Go.Proofs.YthhdnjiodklmmaaGreatDoor
/- Names in order, what is seen below a directory, what has changed, events that wait: in plain Lean. No condition. -/
namespace Go.Gw
open Go Go.Aw Go.Proofs.YthhdnjiodklmmaaGreatDoor
def gU:List Int→List Int→Int
 |[],[]=>0
 |[],(_::_)=> -1
 |_::_,[]=>1
 |x::xs,y::ys=>if x<y then-1 else if y<x then 1 else gU xs ys
def cQ(s:Txt):List Int:=match mZ s with
 |some l=>l
 |none=>s.map fun b=>((b.toNat:Int)+1114112)
def yW(a b:Txt):Bool:=decide (gU (cQ a) (cQ b)<0)
theorem mJ(a b:List Int):gU a b= -1∨gU a b=0∨gU a b=1:=by
 induction a generalizing b with
 |nil=>cases b<;>simp[gU]
 |cons x a ih=>
  cases b with
  |nil=>simp[gU]
  |cons y b=>
   rw[gU]
   split
   ·simp
   ·split
    ·simp
    ·exact ih b
theorem aCw{a b:List Int}(h:gU a b=0):a=b:=by
 induction a generalizing b with
 |nil=>cases b with
  |nil=>rfl
  |cons y b=>simp[gU]at h
 |cons x a ih=>
  cases b with
  |nil=>simp[gU]at h
  |cons y b=>
   rw[gU]at h
   split at h
   ·cases h
   ·split at h
    ·cases h
    ·rw[ih h,show x=y by omega]
theorem aHj(a:List Int):gU a a=0:=by
 induction a with
 |nil=>rfl
 |cons x a ih=>rw[gU,if_neg (by omega),if_neg (by omega),ih]
theorem rM(a b:List Int):gU b a= -gU a b:=by
 induction a generalizing b with
 |nil=>cases b<;>simp[gU]
 |cons x a ih=>
  cases b with
  |nil=>simp[gU]
  |cons y b=>
   rw[gU,gU]
   by_cases h1:x<y
   ·rw[if_neg (by omega),if_pos h1,if_pos h1];rfl
   ·by_cases h2:y<x
    ·rw[if_pos h2,if_neg h1,if_pos h2]
    ·rw[if_neg h2,if_neg h1,if_neg h1,if_neg h2,ih]
theorem aAG{a b c:List Int}(h:gU a b= -1)(k:gU b c= -1):gU a c= -1:=by
 induction a generalizing b c with
 |nil=>
  cases b with
  |nil=>simp[gU]at h
  |cons y b=>
   cases c with
   |nil=>simp[gU]at k
   |cons z c=>rfl
 |cons x a ih=>
  cases b with
  |nil=>simp[gU]at h
  |cons y b=>
   cases c with
   |nil=>simp[gU]at k
   |cons z c=>
    rw[gU]at h k ⊢
    by_cases h1:x<y
    ·by_cases k1:y<z
     ·rw[if_pos (by omega)]
     ·rw[if_neg k1]at k
      by_cases k2:z<y
      ·rw[if_pos k2]at k;cases k
      ·rw[if_pos (by omega)]
    ·rw[if_neg h1]at h
     by_cases h2:y<x
     ·rw[if_pos h2]at h;cases h
     ·rw[if_neg h2]at h
      by_cases k1:y<z
      ·rw[if_pos (by omega)]
      ·rw[if_neg k1]at k
       by_cases k2:z<y
       ·rw[if_pos k2]at k;cases k
       ·rw[if_neg k2]at k
        rw[if_neg (by omega),if_neg (by omega)]
        exact ih h k
theorem tK(s:Txt)(pos:Nat):hC s pos=Lib.decodeL (s.drop pos):=(Lib.decodeL_drop ⟨s.toArray⟩ pos).symm
theorem aVZ{l:Txt}(h:aAu [239,191,189] l=true):Lib.decodeL l=(65533,3):=by
 unfold aAu at h
 simp only[Bool.and_eq_true,decide_eq_true_eq]at h
 obtain⟨h1,h2⟩:=h
 match l,h1,h2 with
 |a::b::c::r,h1,h2=>
  simp only[List.length_cons,List.length_nil,List.take_succ_cons,List.take_zero,List.cons.injEq,and_true]at h2
  obtain⟨rfl,rfl,rfl⟩:=h2
  rw[Lib.decodeL_N]
  simp only[List.getD_cons_zero,List.getD_cons_succ,List.length_cons]
  unfold Lib.decodeN
  rw[if_neg (by decide),if_neg (by rintro⟨h,_⟩;revert h;decide),if_pos ⟨by decide,⟨by omega,by decide⟩,⟨by omega,by decide⟩⟩]
  decide
theorem aCx(s:Txt):∀(k pos:Nat) (l:List Int),iK s k pos=some l→s.drop pos=l.flatMap Lib.encodeRune∧∀x∈l,x≤1114111:=by
 intro k
 induction k with
 |zero=>
  intro pos l h
  unfold iK at h
  split at h
  ·cases h
  ·cases h
   rw[List.drop_eq_nil_of_le (by omega)]
   exact⟨rfl,fun x hx=>by cases hx⟩
 |succ k ih=>
  intro pos l h
  unfold iK at h
  split at h
  ·rename_i hlt
   split at h
   ·rename_i hc
    cases hr:iK s k (pos+(hC s pos).2)with
    |none=>rw[hr]at h;cases h
    |some r=>
     rw[hr,Option.map_some]at h
     obtain⟨e1,e2⟩:=ih _ _ hr
     cases h
     have hne:s.drop pos≠[]:=by rw[Ne,List.drop_eq_nil_iff];omega
     have hv:¬((Lib.decodeL (s.drop pos)).1=65533∧(Lib.decodeL (s.drop pos)).2=1):=by
      rintro⟨q1,q2⟩
      rcases hc with hc|hc
      ·rw[tK,q1]at hc;simp at hc
      ·rw[aVZ hc]at q2;cases q2
     have hen:=Lib.encode_decode _ hne hv
     rw[←tK]at hen
     refine⟨?_,fun x hx=>?_⟩
     ·rw[List.flatMap_cons,hen,←e1,←List.drop_drop,List.take_append_drop]
     ·rcases List.mem_cons.1 hx with rfl|hx
      ·have:=Lib.decodeL_rune (s.drop pos)
       rw[←tK]at this
       omega
      ·exact e2 x hx
   ·cases h
  ·cases h
   rw[List.drop_eq_nil_of_le (by omega)]
   exact⟨rfl,fun x hx=>by cases hx⟩
theorem lD{s:Txt}{l:List Int}(h:mZ s=some l):s=l.flatMap Lib.encodeRune∧∀x∈l,x≤1114111:=aCx s _ 0 l h
theorem aEX{a b:Txt}(h:cQ a=cQ b):a=b:=by
 have big:∀{s:Txt} {l:List Int},mZ s=none→(∀x∈l,x≤1114111)→(s.map fun b=>((b.toNat:Int)+1114112))≠l:=by
  intro s l hs hl he
  cases s with
  |nil=>cases hs
  |cons c s=>
   have:=hl ((c.toNat:Int)+1114112) (by rw[←he];simp)
   omega
 unfold cQ at h
 cases ha:mZ a with
 |some l=>
  obtain⟨e1,e2⟩:=lD ha
  cases hb:mZ b with
  |some m=>
   rw[ha,hb]at h
   rw[e1,(lD hb).1]
   exact congrArg _ h
  |none=>
   rw[ha,hb]at h
   exact absurd h.symm (big hb e2)
 |none=>
  cases hb:mZ b with
  |some m=>
   rw[ha,hb]at h
   exact absurd h (big ha (lD hb).2)
  |none=>
   rw[ha,hb]at h
   simp only at h
   refine(List.map_inj_right fun x y hxy=>?_).1 h
   have:x.toNat=y.toNat:=by omega
   exact UInt8.toNat_inj.1 this
theorem rN:Sort.SWO yW where
 irrefl:=fun x=>by simp[yW,aHj]
 trans:=fun x y z h k=>by
  unfold yW at *
  rw[decide_eq_true_eq]at *
  have h1:=mJ (cQ x) (cQ y)
  have h2:=mJ (cQ y) (cQ z)
  rw[aAG (show gU (cQ x) (cQ y)= -1 by omega) (show gU (cQ y) (cQ z)= -1 by omega)]
  omega
 ntrans:=fun x y z h k=>by
  unfold yW at *
  rw[decide_eq_false_iff_not]at *
  intro q
  have h1:=mJ (cQ x) (cQ y)
  have h2:=mJ (cQ y) (cQ z)
  have h3:=mJ (cQ x) (cQ z)
  have a1:=rM (cQ x) (cQ y)
  have a2:=rM (cQ y) (cQ z)
  rcases h1 with h1|h1|h1
  ·omega
  ·rw[aCw h1]at q;omega
  ·rcases h2 with h2|h2|h2
   ·omega
   ·rw[←aCw h2]at q;omega
   ·have:=aAG (show gU (cQ z) (cQ y)= -1 by omega) (show gU (cQ y) (cQ x)= -1 by omega)
    have a3:=rM (cQ x) (cQ z)
    omega
theorem aHk{x y:Txt}(h:yW x y=false)(k:yW y x=false):x=y:=by
 unfold yW at *
 rw[decide_eq_false_iff_not]at *
 have:=rM (cQ x) (cQ y)
 exact aEX (aCw (by omega))
def pL(l:List Txt):List Txt:=l.mergeSort fun x y=> !yW y x
theorem aQB(a b c:Txt):(!yW b a)=true→(!yW c b)=true→(!yW c a)=true:=by
 simp only[Bool.not_eq_true']
 exact fun h k=>rN.ntrans c b a k h
theorem aMe(a b:Txt):((!yW b a)||(!yW a b))=true:=by
 cases h:yW b a with
 |false=>rfl
 |true=>
  cases k:yW a b with
  |false=>rfl
  |true=>have:=rN.trans _ _ _ h k;rw[rN.irrefl]at this;cases this
theorem mK(l:List Txt):(pL l).Perm l:=List.mergeSort_perm ..
theorem aCy(l:List Txt):(pL l).Pairwise fun x y=>(!yW y x)=true:=List.pairwise_mergeSort aQB aMe l
theorem aEY{a l:List Txt}(hs:a.Pairwise fun x y=>(!yW y x)=true)(hp:a.Perm l):a=pL l:=
 List.Perm.eq_of_pairwise (fun x y _ _ h k=>aHk (by simpa using k) (by simpa using h)) hs (aCy l) (hp.trans (mK l).symm)
structure Itm where
 path:Txt
 id:Int
 data:Txt
deriving DecidableEq,Inhabited
def itA(x:Itm):AV:=.agg [.str x.path,.int .i64 x.id,.str x.data]
@[go_sem] theorem aV0(x:Itm):Pur (itA x)=True:=by simp only[itA,go_sem]
def xS(l:List Nd)(dir:Int):List Txt:=if chk l=true then pL ((dE l dir).map (·.1))else[]
def aUk(l:List Nd)(dir:Int):List Int:=dir::nM l dir
def kV(l:List Nd)(out:List Int):Nat→Int→Txt→List Itm
 |0,_,_=>[]
 |k+1,dir,path=>(pL (((dE l dir).filter fun p=> !out.contains p.2.id).map (·.1))).flatMap fun s=>match dI s (dE l dir)with
  |some n=>⟨path++(47::s),n.id,n.data⟩::(if dirI n.id=true then kV l out k n.id (path++(47::s))else[])
  |none=>[]
def dD(l:List Nd)(dir:Int):List Itm:=if chk l=true then kV l (aUk l dir) (l.length+1) dir []else[]
def lookI(p:Txt)(l:List Itm):Option Itm:=l.reverse.find? fun x=>decide (x.path=p)
def aAH(is:List Itm)(t:Itm):Bool:=match lookI t.path is with|some n=> !decide (n.id=t.id)|none=>true
def aCz(was:List Itm)(t:Itm):Bool:=match lookI t.path was with|some o=>decide (o.id=t.id)&& !decide (o.data=t.data)|none=>false
def oF(was is:List Itm):List Evt:=
 ((was.reverse.filter (aAH is)).map fun t=>⟨1,t.path⟩)++((is.filter (aAH was)).map fun t=>⟨2,t.path⟩)++((is.filter (aCz was)).map fun t=>⟨3,t.path⟩)
def kC(e:List Evt)(over:Bool)(l:List Evt):List Evt×Bool:=
 if over=true then(e,true)else if 8-e.length<l.length then(e++l.take (8-e.length)++[⟨9,[]⟩],true)else(e++l,false)
end Go.Gw
/- A replica, call by call, in plain Lean. No condition. -/
namespace Go.Gw
open Go Go.Aw Go.Proofs.YthhdnjiodklmmaaGreatDoor
structure Snp where
 n:Int
 nodes:List Nd
deriving DecidableEq,Inhabited
structure Wch where
 n:Int
 dir:Int
 evs:List Evt
 over:Bool
deriving DecidableEq,Inhabited
structure Mdl where
 log:Lg
 seen:Int
 rep:Int
 snaps:List Snp
 watches:List Wch
 next:Int
deriving DecidableEq,Inhabited
def hU(s:Snp):AV:=.agg [.int .i64 s.n,.sl false (s.nodes.map ndA)]
def dL(w:Wch):AV:=.agg [.int .i64 w.n,.int .i64 w.dir,.sl false (w.evs.map gF),.bool w.over]
def iW(e n s w:AV)(m:Mdl):AV:=.agg [e,n,.int .i64 m.seen,.int .i64 m.rep,s,w,.int .i64 m.next]
def cC(f1 f2 f3 f4:Bool)(m:Mdl):AV:=iW (.sl f1 (m.log.entries.map fX)) (.sl f2 (m.log.nodes.map ndA)) (.sl f3 (m.snaps.map hU)) (.sl f4 (m.watches.map dL)) m
@[go_sem] theorem aV1(x:Snp):Pur (hU x)=True:=by simp only[hU,go_sem]
@[go_sem] theorem aV2(x:Wch):Pur (dL x)=True:=by simp only[dL,go_sem]
@[go_sem] theorem aV3(f1 f2 f3 f4:Bool)(x:Mdl):Pur (cC f1 f2 f3 f4 x)=True:=by simp only[cC,iW,go_sem]
def md0:Mdl:=⟨⟨[],[]⟩,0,0,[],[],0⟩
def idI(a b:Int)(d:Bool):Int:=if okI a b=true then 128 * a+2 * b+(if d then 1 else 0)else-1
def nO(a b:Int):Bool:=decide (0≤a)&&decide (a<1048576)&&decide (0≤b)&&decide (b≤63)
theorem qL{a b:Int}:nO a b=true↔0≤a∧a<1048576∧0≤b∧b≤63:=by
 simp[nO,and_assoc]
def eV(n:Int)(s:Stm):Int:=if okI s.c s.r=true then max n s.c else n
def qN(n:Int)(first:Bool):Txt→Option (Int×Txt)
 |[]=>none
 |x::r=>if(first&&decide ((x.toNat:Int)=128)||decide (72057594037927935<n))=true then none
  else if(x.toNat:Int)<128 then some (n * 128+x.toNat,r)else qN (n * 128+((x.toNat:Int)-128)) false r
def dP(b:Txt):Option (Int×Txt):=qN 0 true b
def qO(b:Txt):Option (Txt×Txt):=match dP b with
 |none=>none
 |some (n,r)=>if(r.length:Int)<n then none else some (r.take n.toNat,r.drop n.toNat)
def pM(b:Txt):Option (Opn×Txt):=
 (dP b).bind fun(c,b1)=>(dP b1).bind fun(r,b2)=>(dP b2).bind fun(k,b3)=>(dP b3).bind fun(nd,b4)=>
  if k=1 then(dP b4).bind fun(p,b5)=>(qO b5).bind fun(t,b6)=>if opOk ⟨⟨c,r⟩,k,nd,p,t,[]⟩=true then some (⟨⟨c,r⟩,k,nd,p,t,[]⟩,b6)else none
  else(qO b4).bind fun(t,b6)=>if opOk ⟨⟨c,r⟩,k,nd,0,[],t⟩=true then some (⟨⟨c,r⟩,k,nd,0,[],t⟩,b6)else none
def nF:Nat→Txt→Option (List Opn)
 |0,b=>if b=[]then some []else none
 |k+1,b=>if b=[]then some []else(pM b).bind fun(o,r)=>(nF k r).map (o::·)
def readO(b:Txt):Option (List Opn):=nF b.length b
structure Dsk where
 m:Mdl
 a:Ans
 ops:List Opn
deriving DecidableEq,Inhabited
def nextD(m:Mdl):Stm×Int:=if nO m.seen m.rep=false then(yH,20)else if(200:Int)≤(m.log.entries.length:Int)then(yH,193)else(⟨m.seen+1,m.rep⟩,0)
def mU(d:Dsk)(o:Opn):Int×Dsk:=if qD d.m.log o=0 then(0,{d with m:={d.m with log:=eK d.m.log o},ops:=d.ops++[o]})else(qD d.m.log o,d)
def tL(d:Dsk)(o:Opn):Int×Dsk:=
 if(nextD d.m).2=0 then
  (if(mU d {o with at_:=(nextD d.m).1}).1=0 then(0,{(mU d {o with at_:=(nextD d.m).1}).2 with m:={(mU d {o with at_:=(nextD d.m).1}).2.m with seen:=(nextD d.m).1.c}})
  else mU d {o with at_:=(nextD d.m).1})
 else((nextD d.m).2,d)
def eG(m:Mdl)(h:Int):Option (List Nd):=if h=0 then some m.log.nodes else(m.snaps.find? fun s=>decide (s.n=h)).map (·.nodes)
def atN(l:List Nd)(p:Txt):Int×Int:=match dJ p with
 |none=>(0,10)
 |some ns=>jX l ns
def abvN(l:List Nd)(p:Txt):Int×Txt×Int:=match dJ p with
 |none=>(0,[],10)
 |some []=>(0,[],194)
 |some (x::xs)=>if(jX l (x::xs).dropLast).2=0 then(if dirI (jX l (x::xs).dropLast).1=true then((jX l (x::xs).dropLast).1,(x::xs).getLast (by simp),0)else(0,[],81))else(0,[],(jX l (x::xs).dropLast).2)
def qP(c:Cal)(d:Dsk):Int×Dsk:=
 if c.path=[47]then(194,d)else
 if(abvN d.m.log.nodes c.path).2.2=0 then
  (if(childN d.m.log.nodes (abvN d.m.log.nodes c.path).1 (abvN d.m.log.nodes c.path).2.1).isSome=true then(190,d)else
   if(nextD d.m).2=0 then tL d ⟨yH,1,idI (nextD d.m).1.c (nextD d.m).1.r (decide (c.kind=1)),(abvN d.m.log.nodes c.path).1,(abvN d.m.log.nodes c.path).2.1,[]⟩else((nextD d.m).2,d))
 else((abvN d.m.log.nodes c.path).2.2,d)
def qQ(c:Cal)(d:Dsk):Int×Dsk:=
 if(atN d.m.log.nodes c.path).2=0 then(if dirI (atN d.m.log.nodes c.path).1=true then(82,d)else tL d ⟨yH,2,(atN d.m.log.nodes c.path).1,0,[],c.data⟩)
 else((atN d.m.log.nodes c.path).2,d)
def nG(c:Cal)(d:Dsk):Int×Dsk:=match eG d.m c.n with
 |none=>(191,d)
 |some l=>if(atN l c.path).2=0 then(if dirI (atN l c.path).1=true then(82,d)else(0,{d with a:={d.a with data:=((findI l (atN l c.path).1).getD nd0).data}}))else((atN l c.path).2,d)
def lsD(c:Cal)(d:Dsk):Int×Dsk:=match eG d.m c.n with
 |none=>(191,d)
 |some l=>if(atN l c.path).2=0 then(if dirI (atN l c.path).1=true then(0,{d with a:={d.a with names:=xS l (atN l c.path).1}})else(81,d))else((atN l c.path).2,d)
def aAJ(c:Cal)(d:Dsk):Int×Dsk:=
 if c.path=[47]∨c.to=[47]then(194,d)else
 if(atN d.m.log.nodes c.path).2=0 then
  (if(abvN d.m.log.nodes c.to).2.2=0 then
   (if(childN d.m.log.nodes (abvN d.m.log.nodes c.to).1 (abvN d.m.log.nodes c.to).2.1).isSome=true then(190,d)else
    if(abvN d.m.log.nodes c.to).1=(atN d.m.log.nodes c.path).1∨(nM d.m.log.nodes (abvN d.m.log.nodes c.to).1).contains (atN d.m.log.nodes c.path).1=true then(192,d)
    else tL d ⟨yH,1,(atN d.m.log.nodes c.path).1,(abvN d.m.log.nodes c.to).1,(abvN d.m.log.nodes c.to).2.1,[]⟩)
  else((abvN d.m.log.nodes c.to).2.2,d))
 else((atN d.m.log.nodes c.path).2,d)
def pF(c:Cal)(d:Dsk):Int×Dsk:=
 if c.path=[47]then(194,d)else
 if(atN d.m.log.nodes c.path).2=0 then
  (match dJ c.path with
  |some (x::xs)=>tL d ⟨yH,1,(atN d.m.log.nodes c.path).1,2,(x::xs).getLast (by simp),[]⟩
  |_=>(194,d))
 else((atN d.m.log.nodes c.path).2,d)
def xT(d:Dsk):Int×Dsk:=
 if(8:Int)≤(d.m.snaps.length:Int)then(193,d)else(0,{d with a:={d.a with n:=d.m.next},m:={d.m with snaps:=d.m.snaps++[⟨d.m.next,d.m.log.nodes⟩],next:=IntKind.i64.wrap (d.m.next+1)}})
def uT(c:Cal)(d:Dsk):Int×Dsk:=
 if(!(d.m.snaps.any fun s=>decide (s.n=c.n))&& !(d.m.watches.any fun w=>decide (w.n=c.n)))=true then(191,d)
 else(0,{d with m:={d.m with snaps:=d.m.snaps.filter (fun s=> !decide (s.n=c.n)),watches:=d.m.watches.filter (fun w=> !decide (w.n=c.n))}})
def qR(c:Cal)(d:Dsk):Int×Dsk:=
 if(atN d.m.log.nodes c.path).2=0 then
  (if dirI (atN d.m.log.nodes c.path).1=true then
   (if(8:Int)≤(d.m.watches.length:Int)then(193,d)else(0,{d with a:={d.a with n:=d.m.next},m:={d.m with watches:=d.m.watches++[⟨d.m.next,(atN d.m.log.nodes c.path).1,[],false⟩],next:=IntKind.i64.wrap (d.m.next+1)}}))
  else(81,d))
 else((atN d.m.log.nodes c.path).2,d)
def emptyW(n:Int):List Wch→List Wch
 |[]=>[]
 |w::l=>if w.n=n then{w with evs:=[]}::l else w::emptyW n l
def uU(c:Cal)(d:Dsk):Int×Dsk:=match d.m.watches.find? fun w=>decide (w.n=c.n)with
 |none=>(191,d)
 |some w=>(0,{d with a:={d.a with events:=w.evs},m:={d.m with watches:=emptyW c.n d.m.watches}})
def freshN(g:Lg):List Opn→List Opn→List Opn
 |acc,[]=>acc
 |acc,o::l=>freshN g (if(!jY g.entries o.at_&& !(acc.any fun f=>decide (f.at_=o.at_)))=true then acc++[o]else acc) l
def iN(d:Dsk):List Opn→Int×Dsk
 |[]=>(0,d)
 |o::l=>if(mU d o).1=0 then iN (mU d o).2 l else mU d o
def tM(c:Cal)(d:Dsk):Int×Dsk:=match readO c.data with
 |none=>(50,d)
 |some l=>
  if(200:Int)<(d.m.log.entries.length:Int)+((freshN d.m.log [] l).length:Int)then(193,d)else
  if(iN d (freshN d.m.log [] l)).1=0 then
   (0,{(iN d (freshN d.m.log [] l)).2 with a:={(iN d (freshN d.m.log [] l)).2.a with n:=(freshN d.m.log [] l).length},m:={(iN d (freshN d.m.log [] l)).2.m with seen:=l.foldl (fun n o=>eV n o.at_) d.m.seen}})
  else iN d (freshN d.m.log [] l)
def dV(c:Cal)(d:Dsk):Int×Dsk:=
 if c.kind=1∨c.kind=2 then qP c d else if c.kind=3 then qQ c d else if c.kind=4 then nG c d else if c.kind=5 then aAJ c d else if c.kind=6 then pF c d
 else if c.kind=7 then lsD c d else if c.kind=8 then xT d else if c.kind=9 then uT c d else if c.kind=10 then qR c d else if c.kind=11 then uU c d
 else if c.kind=12 then(0,d)else tM c d
def uV(was is:List Nd)(w:Wch):Wch:={w with evs:=(kC w.evs w.over (oF (dD was w.dir) (dD is w.dir))).1,over:=(kC w.evs w.over (oF (dD was w.dir) (dD is w.dir))).2}
def uW(was:List Nd)(d:Dsk):Dsk:={d with m:={d.m with watches:=d.m.watches.map (uV was d.m.log.nodes)}}
end Go.Gw
/- What is seen below a directory, of nodes that form a forest: how deep, how much; in plain Lean. No condition. -/
namespace Go.Gw
open Go Go.Aw Go.Proofs.YthhdnjiodklmmaaGreatDoor
theorem aEZ{s:Txt}{n:Nd}(hn:n.name=s){m:List (Txt×Nd)}(h:∀p∈m,p.2.name=p.1):∀p∈hS s n m,p.2.name=p.1:=by
 induction m with
 |nil=>
  intro p hp
  simp only[hS,List.mem_singleton]at hp
  subst hp;exact hn
 |cons q m ih=>
  intro p hp
  obtain⟨k,x⟩:=q
  unfold hS at hp
  split at hp
  ·rcases List.mem_cons.1 hp with rfl|hp
   ·exact hn
   ·exact h p (List.mem_cons_of_mem _ hp)
  ·rcases List.mem_cons.1 hp with rfl|hp
   ·exact h (k,x) (by simp)
   ·exact ih (fun p hp=>h p (List.mem_cons_of_mem _ hp)) p hp
theorem aHl(s:Txt)(n:Nd)(m:List (Txt×Nd)):((hS s n m).map (·.1))=if s∈m.map (·.1)then m.map (·.1)else m.map (·.1)++[s]:=by
 induction m with
 |nil=>rfl
 |cons q m ih=>
  obtain⟨k,x⟩:=q
  unfold hS
  by_cases h:k=s
  ·subst h;simp
  ·rw[if_neg h,List.map_cons,ih]
   have h':¬s=k:=fun e=>h e.symm
   by_cases hs:s∈m.map (·.1)
   ·rw[if_pos hs,if_pos (by rw[List.map_cons];exact List.mem_cons_of_mem _ hs)];rfl
   ·rw[if_neg hs,if_neg (by rw[List.map_cons,List.mem_cons];rintro(e|e);exact h' e;exact hs e)];rfl
theorem aE0{s:Txt}{n:Nd}{m:List (Txt×Nd)}(h:(m.map (·.1)).Nodup):((hS s n m).map (·.1)).Nodup:=by
 rw[aHl]
 split
 ·exact h
 ·rename_i hs
  rw[List.nodup_append]
  exact⟨h,by simp,fun a ha b hb e=>by rw[List.mem_singleton]at hb;subst hb;subst e;exact hs ha⟩
theorem aJE{m:List (Txt×Nd)}(n:Nd)(h:(m.map (·.1)).Nodup∧∀p∈m,p.2.name=p.1):((uM m n).map (·.1)).Nodup∧∀p∈uM m n,p.2.name=p.1:=by
 have hs:((hS n.name n m).map (·.1)).Nodup∧∀p∈hS n.name n m,p.2.name=p.1:=⟨aE0 h.1,aEZ rfl h.2⟩
 unfold uM
 split
 ·exact hs
 ·split
  ·exact h
  ·exact hs
theorem oG(l:List Nd)(dir:Int):((dE l dir).map (·.1)).Nodup∧∀p∈dE l dir,p.2.name=p.1:=by
 suffices h:∀(k:List Nd) (m:List (Txt×Nd)),((m.map (·.1)).Nodup∧∀p∈m,p.2.name=p.1)→((k.foldl (mS dir) m).map (·.1)).Nodup∧∀p∈k.foldl (mS dir) m,p.2.name=p.1 from
  h l [] ⟨List.nodup_nil,fun p hp=>by cases hp⟩
 intro k
 induction k with
 |nil=>exact fun m h=>h
 |cons x k ih=>
  intro m h
  refine ih _ ?_
  unfold mS
  split
  ·exact aJE x h
  ·exact h
theorem aJF{s:Txt}{n:Nd}{m:List (Txt×Nd)}(hn:(m.map (·.1)).Nodup)(h:(s,n)∈m):dI s m=some n:=by
 induction m with
 |nil=>cases h
 |cons q m ih=>
  obtain⟨k,x⟩:=q
  rw[List.map_cons,List.nodup_cons]at hn
  unfold dI
  by_cases hk:k=s
  ·subst hk
   rcases List.mem_cons.1 h with e|h
   ·cases e;rw[if_pos rfl]
   ·exact absurd (List.mem_map.2 ⟨(k,n),h,rfl⟩) hn.1
  ·rw[if_neg hk]
   rcases List.mem_cons.1 h with e|h
   ·cases e;exact absurd rfl hk
   ·exact ih hn.2 h
theorem aJG{s:Txt}{n:Nd}{m:List (Txt×Nd)}(h:dI s m=some n):(s,n)∈m:=by
 induction m with
 |nil=>cases h
 |cons q m ih=>
  obtain⟨k,x⟩:=q
  unfold dI at h
  split at h
  ·rename_i hk;cases h;subst hk;simp
  ·exact List.mem_cons_of_mem _ (ih h)
theorem aAK{m:List (Txt×Nd)}(hn:(m.map (·.1)).Nodup)(p:Txt×Nd→Bool):((m.filter p).map (·.1)).Nodup:=
 List.Nodup.sublist (List.Sublist.map _ List.filter_sublist) hn
def dep(l:List Nd)(x:Int):Nat:=(dX l x).length
theorem wP{l:List Nd}(h:Wfr l){x p:Int}(hp:par l x=some p):dX l x=p::dX l p:=by
 rw[←mI h (Nat.le_succ _) x,dB,hp];rfl
theorem yX{l:List Nd}(h:Wfr l){x p:Int}(hp:par l x=some p):dep l x=dep l p+1:=by
 rw[dep,wP h hp];rfl
theorem aCA{l:List Nd}(h:Wfr l)(x:Int):dep l x≤l.length:=aBO h _ _
theorem aJH{l:List Nd}(h:Wfr l):∀(j:Nat) {q w:Int},dep l q=j→w∈dX l q→dep l w<dep l q:=by
 intro j
 induction j with
 |zero=>intro q w hj hw;unfold dep at hj;rw[List.eq_nil_of_length_eq_zero hj]at hw;cases hw
 |succ j ihj=>
  intro q w hj hw
  cases hq:par l q with
  |none=>
   have:dX l q=[]:=by rw[←mI h (Nat.le_succ _) q,dB,hq]
   rw[this]at hw;cases hw
  |some r=>
   have hd:=yX h hq
   rw[wP h hq]at hw
   rcases List.mem_cons.1 hw with rfl|hw
   ·omega
   ·have:=ihj (by omega) hw;omega
theorem aU7{l:List Nd}(h:Wfr l):∀(k:Nat) {x y z:Int},dep l x=k→y∈dX l x→z∈dX l x→dep l y=dep l z→y=z:=by
 intro k
 induction k with
 |zero=>intro x y z hk hy;unfold dep at hk;rw[List.eq_nil_of_length_eq_zero hk]at hy;cases hy
 |succ k ih=>
  intro x y z hk hy hz he
  cases hp:par l x with
  |none=>
   have:dX l x=[]:=by rw[←mI h (Nat.le_succ _) x,dB,hp]
   rw[this]at hy;cases hy
  |some p=>
   have e:=wP h hp
   have hkp:dep l p=k:=by have:=yX h hp;omega
   have lt:∀{w:Int},w∈dX l p→dep l w<dep l p:=fun hw=>aJH h _ rfl hw
   rw[e]at hy hz
   rcases List.mem_cons.1 hy with rfl|hy<;>rcases List.mem_cons.1 hz with rfl|hz
   ·rfl
   ·have:=lt hz;omega
   ·have:=lt hy;omega
   ·exact ih hkp hy hz he
theorem aDv{l:List Nd}(hc:chk l=true){dir:Int}(hd:dirI dir=true){s:Txt}{n:Nd}(h:(s,n)∈dE l dir):par l n.id=some dir∧n∈l∧oL l n.id=some n:=by
 obtain⟨h1,h2⟩:=aBM l dir _ h
 have hf:=aMa hc h1
 simp only at h1 h2 hf
 unfold inD at h2
 rw[Bool.and_eq_true,decide_eq_true_eq]at h2
 refine⟨?_,h1,hf⟩
 rw[par,hf]
 simp only
 rw[if_neg (by rw[h2.1];exact aFV hd),h2.1]
theorem aBR{l:List Nd}{dir:Int}{s:Txt}{n:Nd}(h:dI s (dE l dir)=some n):(s,n)∈dE l dir:=aJG h
def aCB(l:List Nd)(out:List Int)(dir:Int):List Txt:=pL (((dE l dir).filter fun p=> !out.contains p.2.id).map (·.1))
theorem aDw{l:List Nd}(hc:chk l=true)(h:Wfr l)(out:List Int):∀(k j:Nat) (dir:Int) (path:Txt),dirI dir=true→l.length<k+dep l dir→l.length<j+dep l dir→kV l out k dir path=kV l out j dir path:=by
 intro k
 induction k with
 |zero=>intro j dir path _ hk;have:=aCA h dir;omega
 |succ k ih=>
  intro j dir path hd hk hj
  cases j with
  |zero=>have:=aCA h dir;omega
  |succ j=>
   rw[kV,kV]
   congr 1
   funext s
   cases hl:dI s (dE l dir)with
   |none=>rfl
   |some n=>
    have hp:=(aDv hc hd (aBR hl)).1
    have hdp:=yX h hp
    simp only
    by_cases hdn:dirI n.id=true
    ·rw[if_pos hdn,if_pos hdn,ih j n.id _ hdn (by omega) (by omega)]
    ·rw[if_neg hdn,if_neg hdn]
def blw(l:List Nd)(out:List Int)(dir:Int)(path:Txt):List Itm:=kV l out (l.length+1) dir path
def aJI(l:List Nd)(out:List Int)(dir:Int)(path:Txt)(s:Txt):List Itm:=match dI s (dE l dir)with
 |some n=>⟨path++(47::s),n.id,n.data⟩::(if dirI n.id=true then blw l out n.id (path++(47::s))else[])
 |none=>[]
theorem aJJ{l:List Nd}(hc:chk l=true)(h:Wfr l)(out:List Int){dir:Int}(hd:dirI dir=true)(path:Txt):blw l out dir path=(aCB l out dir).flatMap (aJI l out dir path):=by
 rw[blw,kV]
 unfold aCB
 congr 1
 funext s
 unfold aJI
 cases hl:dI s (dE l dir)with
 |none=>rfl
 |some n=>
  have hp:=(aDv hc hd (aBR hl)).1
  have hdp:=yX h hp
  simp only
  by_cases hdn:dirI n.id=true
  ·rw[if_pos hdn,if_pos hdn,blw,aDw hc h out l.length (l.length+1) n.id _ hdn (by omega) (by omega)]
  ·rw[if_neg hdn,if_neg hdn]
theorem aQC{l:List Nd}{out:List Int}{dir:Int}{s:Txt}(h:s∈aCB l out dir):∃n,dI s (dE l dir)=some n∧(s,n)∈dE l dir∧out.contains n.id=false:=by
 have h1:=(mK _).mem_iff.1 h
 obtain⟨p,hp,rfl⟩:=List.mem_map.1 h1
 obtain⟨h2,h3⟩:=List.mem_filter.1 hp
 exact⟨p.2,aJF (oG l dir).1 h2,h2,by simpa using h3⟩
theorem aMf(l:List Nd)(out:List Int)(dir:Int):(aCB l out dir).Nodup:=(mK _).nodup_iff.2 (aAK (oG l dir).1 _)
theorem aU8{l:List Nd}(hc:chk l=true)(h:Wfr l)(out:List Int):∀(k:Nat) (dir:Int) (path:Txt),dirI dir=true→l.length<k+dep l dir→
  ((blw l out dir path).map (·.id)).Nodup∧∀x∈(blw l out dir path).map (·.id),x∈l.map Nd.id∧dir∈dX l x:=by
 intro k
 induction k with
 |zero=>intro dir path _ hk;have:=aCA h dir;omega
 |succ k ih=>
  intro dir path hd hk
  rw[aJJ hc h out hd]
  -- the piece of one name
  have piece:∀s∈aCB l out dir,∃n,(s,n)∈dE l dir∧((aJI l out dir path s).map (·.id)).Nodup∧
    ∀x∈(aJI l out dir path s).map (·.id),x∈l.map Nd.id∧dir∈dX l x∧(x=n.id∨n.id∈dX l x):=by
   intro s hs
   obtain⟨n,hl,hm,_⟩:=aQC hs
   obtain⟨hp,hnl,_⟩:=aDv hc hd hm
   have hdp:=yX h hp
   have hin:n.id∈l.map Nd.id:=List.mem_map.2 ⟨n,hnl,rfl⟩
   have hab:dir∈dX l n.id:=by rw[wP h hp];simp
   refine⟨n,hm,?_⟩
   unfold aJI
   rw[hl]
   simp only
   by_cases hdn:dirI n.id=true
   ·rw[if_pos hdn]
    obtain⟨i1,i2⟩:=ih n.id (path++(47::s)) hdn (by omega)
    refine⟨?_,fun x hx=>?_⟩
    ·rw[List.map_cons,List.nodup_cons]
     refine⟨fun hx=>?_,i1⟩
     exact aS3 h _ (i2 _ hx).2
    ·rw[List.map_cons,List.mem_cons]at hx
     rcases hx with rfl|hx
     ·exact⟨hin,hab,.inl rfl⟩
     ·obtain⟨j1,j2⟩:=i2 x hx
      have:dir∈dX l x:=aCr h x n.id (List.mem_cons_of_mem _ j2) dir hp
      exact⟨j1,this,.inr j2⟩
   ·rw[if_neg hdn]
    exact⟨by simp,fun x hx=>by simp only[List.map_cons,List.map_nil,List.mem_singleton]at hx;subst hx;exact⟨hin,hab,.inl rfl⟩⟩
  have disj:∀s∈aCB l out dir,∀t∈aCB l out dir,s≠t→∀x∈(aJI l out dir path s).map (·.id),x∉(aJI l out dir path t).map (·.id):=by
   intro s hs t ht hne x hx hy
   obtain⟨n,hm, -,k1⟩:=piece s hs
   obtain⟨m,hm', -,k2⟩:=piece t ht
   obtain⟨-, -,q1⟩:=k1 x hx
   obtain⟨-, -,q2⟩:=k2 x hy
   obtain⟨p1,l1,f1⟩:=aDv hc hd hm
   obtain⟨p2,l2,f2⟩:=aDv hc hd hm'
   have d1:=yX h p1
   have d2:=yX h p2
   have hid:n.id≠m.id:=fun e=>by
    rw[e,f2]at f1
    cases f1
    have a:=(oG l dir).2 _ hm
    have b:=(oG l dir).2 _ hm'
    exact hne (a.symm.trans b)
   rcases q1 with rfl|q1<;>rcases q2 with e2|q2
   ·exact hid e2
   ·have:=aJH h _ rfl q2;omega
   ·subst e2;have:=aJH h _ rfl q1;omega
   ·exact hid (aU7 h _ rfl q1 q2 (by omega))
  refine⟨?_,fun x hx=>?_⟩
  ·rw[List.map_flatMap]
   rw[List.nodup_iff_pairwise_ne,List.pairwise_flatMap]
   refine⟨fun s hs=>?_,?_⟩
   ·obtain⟨_,_,k1,_⟩:=piece s hs;exact k1
   ·have hnd:=aMf l out dir
    rw[List.nodup_iff_pairwise_ne]at hnd
    exact(List.Pairwise.and_mem.1 hnd).imp fun{s t} ⟨hs,ht,hne⟩ x hx y hy e=>by subst e;exact disj s hs t ht hne x hx hy
  ·rw[List.map_flatMap,List.mem_flatMap]at hx
   obtain⟨s,hs,hx⟩:=hx
   obtain⟨_,_,_,k1⟩:=piece s hs
   exact⟨(k1 x hx).1,(k1 x hx).2.1⟩
theorem aMg{l:List Nd}(hc:chk l=true)(h:Wfr l)(out:List Int)(dir:Int)(path:Txt)(hd:dirI dir=true):(blw l out dir path).length≤l.length:=by
 obtain⟨h1,h2⟩:=aU8 hc h out (l.length+1) dir path hd (by omega)
 have:=aQr h1 (fun x hx=>(h2 x hx).1)
 simpa using this
end Go.Gw
