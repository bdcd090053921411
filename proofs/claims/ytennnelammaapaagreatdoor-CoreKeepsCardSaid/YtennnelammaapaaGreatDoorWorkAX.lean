/- What the functions of this seat answer (24 of 38). No condition. -/
import Derived.Test.YtennnelammaapaaGreatDoorWorkAV
import Derived.Test.YtennnelammaapaaGreatDoorWorkAW
set_option linter.unusedSimpArgs false
set_option linter.unusedVariables false
set_option maxRecDepth 100000
set_option maxHeartbeats 16000000
namespace Go.Proofs.YtennnelammaapaaGreatDoor
section
def cU(x:Cor)(i:Nat):List Int:=((x.ths.take i).zipIdx.filter (nN x)).map fun p=>(p.2:Int)
theorem aF6(x:Cor){i:Nat}(hi:i<x.ths.length):cU x (i+1)=cU x i++if nN x (x.ths[i],i)=true then[(i:Int)]else[]:=by
 unfold cU;rw[zAk hi,List.zipIdx_append,zAY,zA9,zAL,zCb (by omega)]
 congr 1;simp only[List.zipIdx_cons,List.zipIdx_nil,zA5,List.filter_nil,zBK];split<;>simp_all
theorem yK(x:Cor):cU x x.ths.length=(cW x).map fun n:Nat=>(n:Int):=by
 unfold cU cW;rw[zAD,zB1];rfl
theorem yL(x:Cor)(i:Nat):(cU x i).length≤i:=by
 unfold cU;rw[zAn];have h1:=zA2 (nN x) (x.ths.take i).zipIdx;rw[List.length_zipIdx,zAL]at h1;omega
theorem aF7(f1 f2 f3 f4 f5 f6 f7 f8 f9:Bool)(x:Cor)(hn:x.ths.length≤1000)(H:AHeap):bH Tryz.prog 13 [iN f1 f2 f3 f4 f5 f6 f7 f8 f9 x] H (.sl false (((cW x).map fun n:Nat=>(n:Int)).map bK)):=by
 refine fO Tryz.func13 ?_;have hgl:=aOT f7 x.g;repeat' first|(refine gS ?_;simp only[go_sem,iN,kE])|refine gA ?_|(refine gD ?_ ?_<;>intro h<;>try exact aA h)|fail
 obtain⟨X,hX⟩:∃X,(iN f1 f2 f3 f4 f5 f6 f7 f8 f9 x).cells=X:=⟨_,rfl⟩;have hX2:=hX;simp only[iN,kE,AV.cells]at hX2;rw[hX2];refine jR 3 1 rfl ?_;simp only[go_sem];refine aI (ι:=Nat×AHeap) (fun s=>[(1,.ref H.length 0 0),(3,.osl 1 (H.length+1) ((cU x s.1).length+1) 0 (cU x s.1).length (cU x s.1).length),(12,.sl f8 (x.ths.map thr)),(13,.int .i64 x.ths.length),(14,.int .i64 s.1)])
  (fun s=>H++(.cells 0 X::.cells ((cU x s.1).length+1) ((cU x s.1).map bK)::s.2)) (fun s=>s.1≤x.ths.length) (fun s=>x.ths.length-s.1) (0,[]) (zAo _) ?_ rfl ?_
 ·simp[go_sem,cU]
 rintro⟨i,M⟩ hi;simp only at hi ⊢;have hDl:=yL x i;obtain⟨G,hG⟩:∃G,H++(.cells 0 X::.cells ((cU x i).length+1) ((cU x i).map bK)::M)=G:=⟨_,rfl⟩;have g0:hget G H.length=.cells 0 (iN f1 f2 f3 f4 f5 f6 f7 f8 f9 x).cells:=by rw[←hG,hX];simp only[go_sem]
 have g2:hget G (H.length+1)=.cells ((cU x i).length+1) ((cU x i).map bK):=by rw[←hG];simp only[go_sem]
 simp only[iN,kE,AV.cells]at g0;by_cases hlt:i<x.ths.length
 ·rw[hG];have g1:=aG g0 trivial;have g3:=aG g2 trivial;have g4:=cC g2 trivial;have gs:∀Y,aB G (H.length+1) Y=H++(.cells 0 X::Y::M):=fun Y=>by rw[←hG];simp only[go_sem]
  have hp:=aN thr hlt;have hli:decide ((i:Int)<(x.ths.length:Int))=true:=dT;have hw':IntKind.i64.wrap ((i:Int)+1)=((i+1:Nat):Int):=aS hlt (by omega)
  have hsu:=aF6 x hlt;obtain⟨t,ht⟩:∃t,t=x.ths[i]:=⟨_,rfl⟩;rw[←ht]at hp hsu;simp only[thr]at hp;have hlw:=aEx f5 f6 x.t (i:Int);have hgw:=aEy f7 x.g (i:Int);simp only[mP,gpA,aIO,aLE]at hlw hgw hgl;have hno:nN x (t,i)=false→∃y:Nat×AHeap,y.1≤x.ths.length∧x.ths.length-y.1<x.ths.length-i∧(AV.osl 1 (H.length+1) ((cU x i).length+1) 0 (cU x i).length (cU x i).length=AV.osl 1 (H.length+1) ((cU x y.1).length+1) 0 (cU x y.1).length (cU x y.1).length∧AV.int .i64 (IntKind.i64.wrap ((i:Int)+1))=.int .i64 (y.1:Int))∧G++[.cells 0 (thr t).cells]=H++(.cells 0 X::.cells ((cU x y.1).length+1) ((cU x y.1).map bK)::y.2):=fun hb=>by
   rw[hb,zAe (by decide),zAd]at hsu
   exact⟨(i+1,M++[.cells 0 (thr t).cells]),hlt,by simp only;omega,⟨by simp only[hsu],zAx _ hw'⟩,by simp only[hsu];rw[←hG];simp⟩
  have hyes:nN x (t,i)=true→∃y:Nat×AHeap,y.1≤x.ths.length∧x.ths.length-y.1<x.ths.length-i∧(AV.osl 1 (H.length+1) ((cU x i).length+2) 0 ((cU x i).length+1) ((cU x i).length+1)=AV.osl 1 (H.length+1) ((cU x y.1).length+1) 0 (cU x y.1).length (cU x y.1).length∧AV.int .i64 (IntKind.i64.wrap ((i:Int)+1))=.int .i64 (y.1:Int))∧aB G (H.length+1) (.cells ((cU x i).length+2) ((cU x i).map bK++[.int .i64 i]))++[.cells 0 (thr t).cells]=H++(.cells 0 X::.cells ((cU x y.1).length+1) ((cU x y.1).map bK)::y.2):=fun hb=>by
   rw[hb,zAl rfl]at hsu;exact⟨(i+1,M++[.cells 0 (thr t).cells]),hlt,by simp only;omega,⟨by simp only[hsu,zAa,zAc,zAv],zAx _ hw'⟩,by simp only[hsu];rw[gs];simp[bK]⟩
  have hap:((cU x i).length * 1=(cU x i).length∧(∀(e:AV),e=AV.int IntKind.i64 ↑i→e.cells.length=1)∧((cU x i).length+1) * 8≤140737488355328):=⟨by omega,fun e he=>(by rw[he];rfl),by omega⟩
  simp only[thr,AV.cells]at hno hyes;cases he:t.ended with
  |true=>
   repeat' first|(refine gS ?_;simp only[go_sem,hp,hli,he])|refine gA ?_|(refine gD ?_ ?_<;>intro h<;>try exact aA h)|fail
   rw[he]at hno;exact hno (by unfold nN;simp[he])
  |false=>
   rw[he]at hno;cases hw:nM x.t.waits i with
   |some k=>
    rw[hw]at hlw;repeat' first|(refine gS ?_;simp only[go_sem,hp,hli,he,g0,g1,g2,g3])|refine gA ?_|(refine gD ?_ ?_<;>intro h<;>try exact aA h)|fail
    exact hno (by unfold nN;simp[hw])
   |none=>
    rw[hw]at hlw;cases hg:oT x.g i with
    |false=>
     rw[hg]at hgw;have hb:nN x (t,i)=true:=by unfold nN;simp[he,hw,hg]
     repeat' first|(refine gS ?_;simp only[go_sem,hp,hli,he,g0,g1,g2,g3,g4])|refine gA ?_|(refine gD ?_ ?_<;>intro h<;>try exact aA h)|fail
     rw[he]at hyes;exact hyes hb
    |true=>
     rw[hg]at hgw;repeat' first|(refine gS ?_;simp only[go_sem,hp,hli,he,g0,g1,g2,g3,g4])|refine gA ?_|(refine gD ?_ ?_<;>intro h<;>try exact aA h)|fail
     ·refine hno ?_;unfold nN;simp only[zB9,zA4,zA1]at h;have:¬zK x.g=some (i:Int):=fun e=>by rw[e]at h;simp at h
      simp[he,hw,hg,this]
     ·rw[he]at hyes;refine hyes ?_;unfold nN;simp only[zB6,Bool.not_eq_false',zAF]at h;have:zK x.g=some (i:Int):=by
       obtain⟨h1,h2⟩:=h;cases hl:zK x.g with
       |none=>rw[hl]at h1;cases h1
       |some k=>rw[hl]at h2;simp only[zBh]at h2;rw[h2]
      simp[he,hw,hg,this]
 ·have hie:i=x.ths.length:=by omega
  subst hie;have hli:decide ((x.ths.length:Int)<(x.ths.length:Int))=false:=by simp
  rw[hG];repeat' first|(refine gS ?_;simp only[go_sem,hli])|refine gA ?_|(refine gD ?_ ?_<;>intro h<;>try exact aA h)|fail
  refine⟨_,_,hG.symm,iT (es:=(cU x x.ths.length).map bK) (rest:=[]) (by omega) g2 (by rw[kQ,zAd]) (by rw[zAn]) (fun e he=>?_) (fun e he=>?_),by rw[yK]⟩
  ·obtain⟨n,_,rfl⟩:=zAm.1 he;rfl
  ·obtain⟨n,_,rfl⟩:=zAm.1 he;simp only[bK,go_sem]
def uA(x:Cor)(p:Int):AV:=match kY x p with
 |none=>.tup [.int .i64 0,.bool false,.bool false]
 |some n=>.tup [.int .i64 n,.bool (oT x.g n),.bool true]
theorem aOX{p:Int}{n:Nat}(hn:0<n)(h2:n≤1000):(IntKind.i64.wrap (p.tmod n+n)).tmod n=p % n:=by
 have h0:(0:Int)<n:=by omega
 have a1:=Int.tmod_lt_of_pos p h0;have a2: -(n:Int)<p.tmod n:=Int.lt_tmod_of_pos p h0;rw[wrap_i64 (n:=p.tmod n+n) (by omega) (by omega),zBN (by omega),Int.add_emod_right,Int.tmod_eq_emod]
 split
 ·simp
 ·rw[Int.sub_emod];simp
theorem aAy(f1 f2 f3 f4 f5 f6 f7 f8 f9:Bool)(x:Cor)(p:Int)(hn:x.ths.length≤1000)(H:AHeap):bH Tryz.prog 14 [iN f1 f2 f3 f4 f5 f6 f7 f8 f9 x,.int .i64 p] H (uA x p):=by
 refine fO Tryz.func14 ?_;have hab:=aF7 f1 f2 f3 f4 f5 f6 f7 f8 f9 x hn;unfold uA kY;by_cases h0:cW x=[]
 ·rw[zAl h0];rw[h0]at hab;simp only[iN,kE]at hab;repeat' first|(refine gS ?_;simp only[go_sem,iN,kE])|refine gA ?_|(refine gD ?_ ?_<;>intro h<;>try exact aA h)|fail
  exact dY (.refl _)
 ·rw[zAe h0];have hl:0<(cW x).length:=zBl.2 h0;have hl2:(cW x).length≤1000:=by
   have:=yL x x.ths.length;rw[yK,zAn]at this;omega
  have d0:decide (((cW x).length:Int)=0)=false:=dF;simp only[iN,kE]at hab;have h1:0≤p % ((cW x).length:Int):=Int.emod_nonneg _ (by omega)
  have h2:p % ((cW x).length:Int)<(cW x).length:=Int.emod_lt_of_pos _ (by omega)
  obtain⟨k,hk⟩:∃k:Nat,p % ((cW x).length:Int)=k:=⟨_,(Int.toNat_of_nonneg h1).symm⟩;have hkl:k<(cW x).length:=by omega
  have hw:=aOX (p:=p) hl hl2;rw[hk]at hw ⊢;have hp:((((cW x).map fun n:Nat=>(n:Int)).map bK).getD k AV.top)=.int .i64 ((cW x)[k]:Nat):=by
   rw[zAh,zAP,zAP,zAb hkl];rfl
  have hgd:(cW x).getD ((k:Int)).toNat 0=(cW x)[k]:=by rw[zAI,zAh,zAb hkl];rfl
  simp only[hgd];have hgw:=aEy f7 x.g ((cW x)[k]:Nat);simp only[gpA]at hgw;repeat' first|(refine gS ?_;simp only[go_sem,iN,kE,d0,zAn,hw,hp,hkl])|refine gA ?_|(refine gD ?_ ?_<;>intro h<;>try exact aA h)|fail
  exact dY (.refl _)
end
section
def aLH(a b:Txt):Int:=if ltN a b=true then-1 else if ltN b a=true then 1 else 0
theorem aWR(a b:Txt):decide (aLH a b<0)=ltN a b:=by
 unfold aLH;cases h:ltN a b with
 |true=>rfl
 |false=>
  rw[zAe (by simp)]
  split<;>rfl
theorem aLI(a:Int)(H:AHeap):bH Tryz.prog 241 [.int .i32 a] H (.bool false):=by
 refine fO Tryz.func241 ?_;have h0:decide (a=a)=true:=zAj rfl;repeat' first|(refine gS ?_;simp only[go_sem,h0])|refine gA ?_|(refine gD ?_ ?_<;>intro h<;>try exact aA h)|fail
 exact cL (.of (by simp))
def aEA(a b:Int):Int:=if a<b then-1 else if b<a then 1 else 0
theorem aSI(a b:Int)(H:AHeap):bH Tryz.prog 230 [.int .i32 a,.int .i32 b] H (.int .i64 (aEA a b)):=by
 refine fO Tryz.func230 ?_;unfold aEA;repeat' first|((first|refine gQ (aLI _) ?_|refine gS ?_);simp only[go_sem])|refine gA ?_|(refine gD ?_ ?_<;>intro h<;>try exact aA h)|fail
 all_goals exact cL (.of (zAx _ (by simp only[zAF,zA1]at *;(repeat' split)<;>omega)))
def aDi(s:Txt)(k:Nat):ABlk:=.cells 1 (((s.take k).map fun b=>AV.int .i32 ((b.toNat:Int)+1114112))++List.replicate (s.length-k) (AV.int .i32 0))
theorem aHl(s:Txt)(hs:s.length≤1073741824)(H:AHeap):bH Tryz.prog 220 [.str s] H (.sl false ((cE s).map wY)):=by
 refine fO Tryz.func220 ?_;have hsp:=aGN s hs;unfold cE;cases hc:oP s with
 |some l=>
  rw[hc]at hsp;simp only[aA2]at hsp;repeat' first|(refine gS ?_;simp only[go_sem])|refine gA ?_|(refine gD ?_ ?_<;>intro h<;>try exact aA h)|fail
  exact aB1 (.sl _ _ fun e he=>by obtain⟨x,_,rfl⟩:=zAm.1 he;exact .int _ _) (.refl _)
 |none=>
  rw[hc]at hsp;simp only[aA2]at hsp;repeat' first|(refine gS ?_;simp only[go_sem])|refine gA ?_|(refine gD ?_ ?_<;>intro h<;>try exact aA h)|fail
  refine aI (ι:=Nat) (fun k=>[(0,.str s),(3,.osl 1 H.length 1 0 k s.length),(17,.int .i64 s.length),(18,.int .i64 k)]) (fun k=>H++[aDi s k]) (fun k=>k≤s.length) (fun k=>s.length-k) 0 (zAo _) ?_ (by simp[aDi,aA3]) ?_
  ·simp[go_sem]
  intro k hk;by_cases hlt:k<s.length
  ·have hli:decide ((k:Int)<(s.length:Int))=true:=dT;have hgd:s.getD k 0=s[k]:=by simp[zAh,hlt]
   have hb:=s[k].toNat_lt;have hw1:IntKind.i32.wrap ((s[k].toNat:Nat):Int)=((s[k].toNat:Nat):Int):=by simp[IntKind.wrap,IntKind.bits,IntKind.signed];omega
   have hw2:IntKind.i32.wrap (1114111+((s[k].toNat:Nat):Int))=1114111+((s[k].toNat:Nat):Int):=by simp[IntKind.wrap,IntKind.bits,IntKind.signed];omega
   have hw3:IntKind.i32.wrap (1114111+((s[k].toNat:Nat):Int)+1)=((s[k].toNat:Nat):Int)+1114112:=by simp[IntKind.wrap,IntKind.bits,IntKind.signed];omega
   have hw4:IntKind.i64.wrap ((k:Int)+1)=((k+1:Nat):Int):=aJ (by omega) (by omega)
   have hne:(k=s.length)=False:=zDo (by omega)
   obtain⟨m,hm⟩:∃m,s.length-k=m+1:=⟨s.length-k-1,by omega⟩
   have hm2:s.length-(k+1)=m:=by omega
   have hsr:=pR ((s.take k).map fun b=>AV.int .i32 ((b.toNat:Int)+1114112)) m (.int .i32 0) (.int .i32 ((s[k].toNat:Int)+1114112))
   rw[zAn,zAL,zCb hk]at hsr;have hq:(∀e,e=AV.int .i32 ((s[k].toNat:Int)+1114112)→e.cells.length=1)=True:=zAC fun e he=>by rw[he];rfl
   unfold aDi;rw[hm];repeat' first|(refine gS ?_;simp only[go_sem,hli,hgd,hw1,hw2,hw3,hw4,hne,hq,zAB,hsr])|refine gA ?_|(refine gD ?_ ?_<;>intro h<;>try exact aA h)|fail
   exact⟨k+1,hlt,by omega,⟨rfl,rfl⟩,by rw[hm2,zAk hlt,zA9,zAr];rfl⟩
  ·have hke:k=s.length:=by omega
   subst hke;have hli:decide ((s.length:Int)<(s.length:Int))=false:=by simp
   unfold aDi;repeat' first|(refine gS ?_;simp only[go_sem,hli])|refine gA ?_|(refine gD ?_ ?_<;>intro h<;>try exact aA h)|fail
   rw[zAD];exact iU (es:=(s.map fun b=>((b.toNat:Int)+1114112)).map wY) (rest:=List.replicate (s.length-s.length) (AV.int .i32 0)) (zAf _) (by simp only[go_sem];rfl) (by rw[Nat.sub_self,List.replicate_zero];congr 1;rw[zB1,List.flatMap_map];exact List.map_eq_flatMap ..) (by simp) (fun e he=>by obtain⟨c,_,rfl⟩:=zAm.1 he;rfl) (fun e he=>by obtain⟨c,_,rfl⟩:=zAm.1 he;exact .int _ _) rfl
theorem aOY(b1 b2:Bool)(l m:List Int)(H:AHeap):bH Tryz.prog 219 [.sl b1 (l.map wY),.sl b2 (m.map wY)] H (.int .i64 (iK l m)):=by
 refine fP fun hok _=>?_
 have hl:=jQ hok;rw[zAn]at hl;refine fO Tryz.func219 ?_;obtain⟨X,hX⟩:∃X,iK l m=X:=⟨_,rfl⟩;rw[hX];repeat' first|(refine gS ?_;simp only[go_sem])|refine gA ?_|(refine gD ?_ ?_<;>intro h<;>try exact aA h)|fail
 refine aI (ι:=Nat) (fun k=>[(0,.sl b1 (l.map wY)),(1,.sl b2 (m.map wY)),(9,.sl b1 (l.map wY)),(10,.int .i64 l.length),(11,.int .i64 k)]) (fun _=>H) (fun k=>k≤l.length∧k≤m.length∧iK (l.drop k) (m.drop k)=X) (fun k=>l.length-k) 0 ⟨zAo _,zAo _,by simpa using hX⟩ ?_ rfl ?_
 ·simp[go_sem]
 rintro k ⟨h1,h2,h3⟩;by_cases hlt:k<l.length
 ·have hli:decide ((k:Int)<(l.length:Int))=true:=dT;have hp:=aN wY hlt;have hw:IntKind.i64.wrap ((k:Int)+1)=((k+1:Nat):Int):=by rw[wI];rfl
  rw[zAi hlt]at h3;by_cases hm:k<m.length
  ·have hli2:decide ((m.length:Int)≤(k:Int))=false:=dF;have hq:=aN wY hm;have hc:=aSI l[k] m[k];rw[zAi hm,iK]at h3;by_cases hne:aEA l[k] m[k]=0
   ·have hz:decide (aEA l[k] m[k]=0)=true:=zAj hne;have:¬l[k]<m[k]∧¬m[k]<l[k]:=by unfold aEA at hne;(repeat' split at hne)<;>omega
    rw[zAe this.1,zAe this.2]at h3;repeat' first|(refine gS ?_;simp only[go_sem,hli,hli2,hp,hq,hz,hw,wY])|refine gA ?_|(refine gD ?_ ?_<;>intro h<;>try exact aA h)|fail
    exact⟨k+1,⟨hlt,hm,h3⟩,by omega,rfl⟩
   ·have hz:decide (aEA l[k] m[k]=0)=false:=zAg hne;have:aEA l[k] m[k]=X:=by rw[←h3];unfold aEA at hne ⊢;(repeat' split)<;>first|rfl|omega
    repeat' first|(refine gS ?_;simp only[go_sem,hli,hli2,hp,hq,hz,wY])|refine gA ?_|(refine gD ?_ ?_<;>intro h<;>try exact aA h)|fail
    exact cL (.of (by rw[this]))
  ·have hli2:decide ((m.length:Int)≤(k:Int))=true:=dT;rw[show m.drop k=[]from zCh (by omega),iK]at h3
   repeat' first|(refine gS ?_;simp only[go_sem,hli,hli2,hp,wY])|refine gA ?_|(refine gD ?_ ?_<;>intro h<;>try exact aA h)|fail
   exact cL (.of (by rw[←h3]))
 ·have hli:decide ((k:Int)<(l.length:Int))=false:=dF;rw[show l.drop k=[]from zCh (by omega)]at h3
  by_cases hm:l.length<m.length
  ·have hli2:decide ((l.length:Int)<(m.length:Int))=true:=dT;rw[zAi (show k<m.length by omega),iK]at h3
   repeat' first|(refine gS ?_;simp only[go_sem,hli,hli2])|refine gA ?_|(refine gD ?_ ?_<;>intro h<;>try exact aA h)|fail
   exact cL (.of (by rw[←h3]))
  ·have hli2:decide ((l.length:Int)<(m.length:Int))=false:=dF;rw[show m.drop k=[]from zCh (by omega),iK]at h3
   repeat' first|(refine gS ?_;simp only[go_sem,hli,hli2])|refine gA ?_|(refine gD ?_ ?_<;>intro h<;>try exact aA h)|fail
   exact cL (.of (by rw[←h3]))
theorem aHm(a b:Txt)(ha:a.length≤1073741824)(hb:b.length≤1073741824)(H:AHeap):bH Tryz.prog 204 [.str a,.str b] H (.bool (ltN a b)):=by
 refine fO Tryz.func204 ?_;have h1:=aHl a ha;have h2:=aHl b hb;have h3:=aOY false false (cE a) (cE b);repeat' first|(refine gS ?_;simp only[go_sem])|refine gA ?_|(refine gD ?_ ?_<;>intro h<;>try exact aA h)|fail
 exact cL (.refl _)
theorem aIR(a b:Txt)(ha:a.length≤1073741824)(hb:b.length≤1073741824)(H:AHeap):bH Tryz.prog 203 [.str a,.str b] H (.int .i64 (aLH a b)):=by
 refine fO Tryz.func203 ?_;have h1:=aHm a b ha hb;have h2:=aHm b a hb ha;unfold aLH;repeat' first|(refine gS ?_;simp only[go_sem])|refine gA ?_|(refine gD ?_ ?_<;>intro h<;>try exact aA h)|fail
 all_goals exact cL (.of (by simp_all))
theorem aSJ:vX Tryz.prog (.func (.func 203) [] []) (fun a b=>aLH a.1 b.1):=fun a b H=>.inl ⟨(cO),aIR a.1 b.1 a.2 b.2 H⟩
end
section
structure MpOk (es:List (AV×AV×Nat)) (clock:Nat):Prop where
 nd:(es.map (·.2.2)).Nodup
 lt:∀p∈es,p.2.2<clock
theorem MpOk.find{es:List (AV×AV×Nat)}{clock:Nat}(h:MpOk es clock){p:AV×AV×Nat}(hp:p∈es):es.find? (fun q=>q.2.2==p.2.2)=some p:=by
 have hn:=h.nd;clear h;induction es<;>grind
theorem MpOk.ent{es:List (AV×AV×Nat)}{clock:Nat}(h:MpOk es clock){p:AV×AV×Nat}(hp:p∈es)(sb:List Nat):aUK clock (sb++[p.2.2]) (.map es clock)=⟨.tup [p.1,p.2.1],True⟩:=by
 simp only[aUK,List.getLast?_append,zCg,Option.some_or,h.find hp]
theorem MpOk.filter{es:List (AV×AV×Nat)}{clock:Nat}(h:MpOk es clock)(f:AV×AV×Nat→Bool):MpOk (es.filter f) clock:=
 ⟨List.Nodup.sublist (List.Sublist.map _ List.filter_sublist) h.nd,fun p hp=>h.lt p (zBb.1 hp).1⟩
structure Gone (es ps:List (AV×AV×Nat)):Prop where
 sub:∀p∈ps,p∈es
 nd:(ps.map (·.2.2)).Nodup
theorem Gone.step{es ps:List (AV×AV×Nat)}(h:Gone es ps){p:AV×AV×Nat}(hp:p∈aE1 es (ps.map (·.2.2))):Gone es (ps++[p])∧p∈es:=by
 obtain⟨h1,h2⟩:=zBb.1 hp;refine⟨⟨fun q hq=>?_,?_⟩,h1⟩
 ·grind [zAy,zAq,List,Nat,Gone,aE1]
 grind [zBb,zAy,zAq,List,Nat,Gone,aE1,zA9,List.nodup_append,zAw,zAZ,zA4]
theorem wK{α β:Type}(f:α→β){l:List α}(h:(l.map f).Nodup):l.Nodup:=by
 induction l<;>grind
theorem mA{α:Type}[DecidableEq α]{xs ys:List α}(hn:xs.Nodup)(hs:∀x∈xs,x∈ys):xs.length≤ys.length:=by
 induction xs generalizing ys with
 |nil=>exact zAo _
 |cons x xs ih=>
  rw[zB8]at hn;have hx:=hs x (by simp)
  have h2:∀z∈xs,z∈ys.erase x:=fun z hz=>(List.mem_erase_of_ne (by rintro rfl;exact hn.1 hz)).2 (hs z (zAR _ hz))
  have:=ih hn.2 h2;grind
theorem Gone.len{es ps:List (AV×AV×Nat)}(h:Gone es ps):ps.length≤es.length:=by
 have:=mA (ys:=es.map (·.2.2)) h.nd (fun x hx=>by grind [zAm,List,Nat,Gone])
 simpa using this
theorem Gone.perm{es ps:List (AV×AV×Nat)}{clock:Nat}(h:Gone es ps)(ho:MpOk es clock)(he:aE1 es (ps.map (·.2.2))=[]):ps.Perm es:=by
 refine(List.perm_ext_iff_of_nodup (wK _ h.nd) (wK _ ho.nd)).2 fun p=>⟨h.sub p,fun hp=>?_⟩
 have:p.2.2∈ps.map (·.2.2):=by
  have:=List.filter_eq_nil_iff.1 he p hp;simpa using this
 obtain⟨q,hq,e⟩:=zAm.1 this;have e1:=ho.find (h.sub q hq);have e2:=ho.find hp;rw[e]at e1;rw[e1]at e2;cases e2;exact hq
theorem aOZ{es:List (AV×AV×Nat)}{clock:Nat}(ho:MpOk es clock)(i y:Nat)(J:List AV→AHeap→Prop)(H:AHeap)(hM:∀ks G,J ks G→hget G i=.map es clock)(hA:∀ks G L,J ks G→J ks (G++L))(hI:∀ks G it X,J ks G→H.length≤it→J ks (aB G it X))
  (hY:∀ks p G it B,p∈es→ks.length<es.length→J ks G→H.length≤it→hget G it=B→B.live→AYield Tryz.prog y [p.1] G (fun v G'=>v=.bool true∧J (ks++[p.1]) G'∧hget G' it=B)) (h0:J [] H):
  ACalls Tryz.prog 218 [.func (.yield y) [] [],.cptr [.map i]] H (fun _ G=>∃ps:List (AV×AV×Nat),ps.Perm es∧J (ps.map (·.1)) G):=by
 refine aW Tryz.func218 ?_;have hm:=hM _ _ h0;repeat' first|(refine gS ?_;simp only[go_sem,hm])|refine gA ?_|(refine gD ?_ ?_<;>intro h<;>try exact aA h)|fail
 refine aI (ι:=List (AV×AV×Nat)×AHeap) (fun s=>[(0,.func (.yield y) [] []),(5,.iter H.length)]) (fun s=>s.2) (fun s=>Gone es s.1∧J (s.1.map (·.1)) s.2∧hget s.2 H.length=.miter i clock (s.1.map (·.2.2)) clock) (fun s=>es.length-s.1.length)
  ([],H++[.miter i clock [] clock]) ⟨⟨fun p hp=>(by cases hp),(by simp)⟩,hA _ _ _ h0,eZ H _⟩ ?_ rfl ?_
 ·simp[go_sem]
 rintro⟨ps,G⟩ ⟨hG,hJ,hit⟩;simp only at hG hJ hit ⊢;have hmG:=hM _ _ hJ;have hlt:=aV hit trivial;repeat' first|(refine gS ?_;simp only[go_sem])|refine gA ?_|(refine gD ?_ ?_<;>intro h<;>try exact aA h)|fail
 refine⟨H.length,i,clock,ps.map (·.2.2),clock,es,clock,rfl,hit,hmG,fun p hp=>⟨ho.lt p hp,ho.lt p hp⟩,fun he=>?_,fun p hp=>?_⟩
 ·simp only[go_sem];repeat' first|(refine gS ?_;simp only[go_sem])|refine gA ?_|(refine gD ?_ ?_<;>intro h<;>try exact aA h)|fail
  exact⟨ps,hG.perm ho he,hJ⟩
 ·obtain⟨hG2,hpe⟩:=hG.step hp;obtain⟨B,hB⟩:∃B,B=ABlk.miter i clock (ps.map (·.2.2)++[p.2.2]) clock:=⟨_,rfl⟩;rw[←hB];have hJ2:=hI _ _ H.length B hJ (zAf _);have g1:hget (aB G H.length B) H.length=.miter i clock (ps.map (·.2.2)++[p.2.2]) clock:=by rw[aX hlt,hB]
  have g2:=hM _ _ hJ2;have g3:=ho.ent hpe (ps.map (·.2.2));have hlk:=hG2.len;rw[zAa,List.length_singleton]at hlk;have hy:=hY _ p _ H.length B hpe (by rw[zAn];omega) hJ2 (zAf _) (aX hlt B) (by rw[hB];trivial)
  generalize aB G H.length B=G2 at *;simp only[go_sem];repeat' first|(refine gS ?_;simp only[go_sem,g1,g2,g3])|refine gA ?_|(refine gD ?_ ?_<;>intro h<;>try exact aA h)|fail
  refine rD hy ?_;rintro v G' ⟨rfl,hJ3,hit3⟩;simp only[go_sem];repeat' first|(refine gS ?_;simp only[go_sem])|refine gA ?_|(refine gD ?_ ?_<;>intro h<;>try exact aA h)|fail
  refine⟨(ps++[p],G'),⟨hG2,by simpa using hJ3,by simp only;rw[hit3,hB];simp⟩,?_,rfl⟩
  have:=hG2.len;simp only[zAa,zAc,zAv]at this ⊢;omega
theorem aXZ(i:Nat)(H:AHeap)(hi:i<H.length):bH Tryz.prog 202 [.map i] H (.func (.func 218) [] [.cptr [.map i]]):=by
 refine fO Tryz.func202 ?_;repeat' first|(refine gS ?_;simp only[go_sem])|refine gA ?_|(refine gD ?_ ?_<;>intro h<;>try exact aA h)|fail
 refine⟨_,_,rfl,?_,rfl⟩;refine .func _ _ _ _ _ rfl rfl bN (aT (aAk (zAf _) (by simp only[go_sem]) ?_) bN)
 simp only[zAq,forall_eq];exact .map _ hi
theorem aQG{H:AHeap}{A B:ABlk}{n:Nat}(hA:ClB n A)(hB:ClB n B):∀(j:Nat) (b:ABlk),(H++[A,B])[j]?=some b→H[j]?=some b∨ClB n b:=fun j b hj=>by
 grind
structure JA (H:AHeap) (es:List (AV×AV×Nat)) (clock i:Nat) (LB:ABlk) (ks:List AV) (G:AHeap):Prop where
 pre:∃M,G=H++M
 b0:hget G H.length=.cells 0 [.osl 1 (H.length+1) (ks.length+1) 0 ks.length ks.length]
 b1:hget G (H.length+1)=.cells (ks.length+1) ks
 b2:hget G (H.length+2)=LB
 m:hget G i=.map es clock
 tx:∀k∈ks,∃s:Txt,k=.str s
theorem aLJ{es:List (AV×AV×Nat)}{clock:Nat}(ho:MpOk es clock)(i:Nat)(hks:∀p∈es,∃s:Txt,p.1=.str s)(hl:es.length≤1073741824)(H:AHeap)(hm:hget H i=.map es clock):
  ACalls Tryz.prog 227 [.sl true [],.func (.func 218) [] [.cptr [.map i]]] H
   (fun r H'=>∃ps:List (AV×AV×Nat),ps.Perm es∧r=.osl 1 (H.length+1) (ps.length+1) 0 ps.length ps.length∧∃A,ClB (H.length+2) A∧H'=H++[A,.cells (ps.length+1) (ps.map (·.1))]):=by
 refine aQ Tryz.func227 ?_;have hil:=aV hm trivial;repeat' first|(refine gS ?_;simp only[go_sem])|refine gA ?_|(refine gD ?_ ?_<;>intro h<;>try exact aA h)|fail
 refine rF H.length 0 1 (by simp only[go_sem];rfl) rfl ?_
 simp only[go_sem];refine aJ4 [(2,.ref H.length 0 0),(6,.func (.func 218) [] [.cptr [.map i]])] (by simp[go_sem]) ?_
 refine vE rfl (cO) fun y LB hLB=>?_
 have hLv:LB.live:=by rw[hLB];trivial
 rw[zAr];have hlen2:(H++[ABlk.cells 0 [.osl 1 (H.length+1) 1 0 0 0],.cells 1 []]).length=H.length+2:=by simp
 rw[hlen2];refine(aOZ ho i y (JA H es clock i LB) _ (fun ks G h=>h.m) (fun ks G L h=>⟨let⟨M,e⟩:=h.pre;⟨M++L,by rw[e,zAr]⟩,aD h.b0 trivial L,aD h.b1 trivial L,aD h.b2 hLv L,aD h.m trivial L,h.tx⟩) (fun ks G it X h hit=>?_) (fun ks p G it B hp hkl h hit hB hBl=>?_) ?_).mono fun _ H' ⟨ps,hp,h⟩=>?_
 ·have hit':H.length+3≤it:=by simpa[zCd]using hit
  exact⟨eX h.pre (by omega) X,aH h.b0 (by omega) X,aH h.b1 (by omega) X,aH h.b2 (by omega) X,aH h.m (by omega) X,h.tx⟩
 ·have hit':H.length+3≤it:=by simpa[zCd]using hit
  obtain⟨s,hs⟩:=hks p hp;rw[hs];refine aCa h.b2 hLB rfl rfl rfl rfl fun BB fin hBB hlB hf1 hf2=>?_
  have f3:=aG h.b2 hLv;have g3:=cC h.b2 hLv;simp only[aAW];refine dR rfl ?_;simp only[go_sem];refine⟨h.b2,?_⟩;obtain⟨G1,hG1⟩:∃G1,aB G (H.length+2) BB=G1:=⟨_,rfl⟩;rw[hG1];have hl3:=aV h.b2 hLv;have hlen:G.length=G1.length:=by rw[←hG1];simp[aB]
  have a0:=aH h.b0 (i:=H.length+2) (by omega) BB
  have a1:=aH h.b1 (i:=H.length+2) (by omega) BB
  have a2:hget G1 (H.length+2)=BB:=by rw[←hG1];exact aX hl3 BB
  have a3:=aH h.m (i:=H.length+2) (by omega) BB
  have a4:=aH hB (i:=H.length+2) (by omega) BB
  rw[hG1]at a0 a1 a3 a4;have a5:∃M,G1=H++M:=by rw[←hG1];exact eX h.pre (by omega) BB
  have hq1:(∀e,e=AV.str s→e.cells.length=1)=True:=zAC (fun e he=>by rw[he];rfl)
  have hq2:((ks.length+1) * 16≤140737488355328)=True:=zAC (by omega)
  clear hLB hBB hf2;have a6:=fun Y=>aH a0 (i:=H.length+1) (by omega) Y
  have hcl:∀n,ClB n (.cells (ks.length+2) (ks++[AV.str s])):=fun n x hx=>by
   rcases zAy.1 hx with hx|hx
   ·obtain⟨t,rfl⟩:=h.tx x hx;exact .str _
   ·rw[zAq]at hx;subst hx;exact .str _
  have hl1:=aV a1 trivial;have hl0:=aV a0 trivial;have hsp:bG [AV.osl 1 (H.length+1) (ks.length+1) 0 ks.length ks.length] 0 [.osl 1 (H.length+1) (ks.length+2) 0 (ks.length+1) (ks.length+1)]=[.osl 1 (H.length+1) (ks.length+2) 0 (ks.length+1) (ks.length+1)]:=rfl;repeat' first|(refine gS ?_;simp only[go_sem,a0,a1,a2,a6,hq1,hq2,hsp,zAB])|refine gA ?_|(refine gD ?_ ?_<;>intro h<;>try exact aA h)|fail
  refine⟨aH (aH a2 (by omega) _) (by omega) _,_,[],(zAd _).symm,by rw[aC,aC],fun j b hj=>?_,rfl,?_,?_⟩
  ·rcases dW (n:=G1.length) (b:=.cells 0 [.osl 1 (H.length+1) (ks.length+2) 0 (ks.length+1) (ks.length+1)]) (fun x hx=>by rw[zAq]at hx;subst hx;exact .osl _ _ _ _ _ _ (by omega)) j b hj with q|q
   ·exact dW (hcl _) j b q
   ·exact .inr q
  ·have hkl2:(ks++[AV.str s]).length=ks.length+1:=by simp
   rw[hf1];have htx:∀k∈ks++[AV.str s],∃s:Txt,k=.str s:=fun k hk=>by
    rcases zAy.1 hk with hk|hk
    ·exact h.tx k hk
    ·rw[zAq]at hk;exact⟨s,hk⟩
   refine⟨eX (eX (eX a5 (by omega) _) (by omega) _) (by omega) _,?_,?_,?_,?_,htx⟩
   ·rw[hkl2];exact aH (aX (by rw[aC];exact hl0) _) (by omega) _
   ·rw[hkl2];exact aH (aH (aX hl1 _) (by omega) _) (by omega) _
   ·exact aX (by rw[aC,aC,←hlen];exact hl3) _
   ·exact aH (aH (aH a3 (by omega) _) (by omega) _) (by omega) _
  ·exact aH (aH (aH a4 (by omega) _) (by omega) _) (by omega) _
 ·exact⟨⟨_,rfl⟩,by simp only[go_sem],by simp only[go_sem],by simp only[go_sem],aD hm trivial _,fun k hk=>by cases hk⟩
 ·refine .inl ⟨.ready,by simp,h.b2.trans hLB,fun X=>?_⟩
  have e0:=aH h.b0 (i:=H.length+2) (by omega) X
  have e1:=aH h.b1 (i:=H.length+2) (by omega) X
  obtain⟨M,e2⟩:=eX (H:=H) h.pre (i:=H.length+2) (by omega) X
  obtain⟨G2,hG2⟩:∃G2,aB H' (H.length+2) X=G2:=⟨_,rfl⟩;rw[hG2]at e0 e1 e2 ⊢;simp only[go_sem];repeat' first|(refine gS ?_;simp only[go_sem,e0])|refine gA ?_|(refine gD ?_ ?_<;>intro h<;>try exact aA h)|fail
  rw[e2,eZ]at e0;rw[e2,qZ,zAn]at e1
  match M,e0,e1 with
  |A::B::L,e0,e1=>
   simp only[List.getD_cons_zero,List.getD_cons_succ]at e0 e1;subst e0;subst e1;have q1:ClB (H.length+2) (.cells 0 [.osl 1 (H.length+1) ((ps.map (·.1)).length+1) 0 (ps.map (·.1)).length (ps.map (·.1)).length]):=fun x hx=>by rw[zAq]at hx;subst hx;exact .osl _ _ _ _ _ _ (by omega)
   have q2:ClB (H.length+2) (.cells (ps.length+1) (ps.map (·.1))):=fun x hx=>by obtain⟨q,hq,rfl⟩:=zAm.1 hx;obtain⟨s,e⟩:=hks q (hp.mem_iff.1 hq);rw[e];exact .str _
   exact⟨H++[_,_],L,_,by rw[e2,zAr];rfl,by simp,by simpa using aQG q1 q2,.cl _ (.osl _ _ _ _ _ _ (by simp)),ps,hp,rfl,_,q1,rfl⟩
end
end Go.Proofs.YtennnelammaapaaGreatDoor
