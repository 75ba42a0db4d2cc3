/- Lemmas of the proof. -/
import Derived.Test.YthbcdhfiibpeaaaGreatTm43
import Derived.Test.YthbcdhfiibpeaaaGreatTm44
open List renaming length_map→lB
open Nat renaming reduceBEq→zA,reduceBNe→zB,reduceAdd→zC,reduceSub→zD,reduceMul→zE,reduceLeDiff→zF,reduceLT→zG,reduceEqDiff→zH
open Int renaming reduceToNat→zI,reduceLE→zJ,reduceLT→zK,reduceEq→zL
open Bool renaming not_eq_true'→zM,not_eq_false'→zN
set_option linter.unusedSimpArgs false
set_option linter.unusedVariables false
set_option maxRecDepth 20000
set_option maxHeartbeats 64000000
namespace Go.Proofs.YthbcdhfiibpeaaaGreat
open Go Go.Sx
def c7K (w:Val):Res:= .cells [.dat (.int .i64 w.kind), .dat (.int .i64 w.num), .dat (.str w.text), .dat (.sl 7 (w.kids.map a0g)), .dat (.sl 2 (w.keys.map a0k)), .dat (.sl 9 (w.ents.map a0l)), .dat (.sl 1 (w.labels.map Sx.encStr))]
attribute [go_sem] c7K
theorem b50 (l:List NodeD) (v:Val) (k:Int):(b5Z l v k).labels.length≤v.labels.length+1:=by
 unfold b5Z
 cases decide ((l.getD k.toNat (a0G 1)).kind=19)
 ·simp
 ·simp only[cond_true]
  refine Nat.le_trans (a2v _) ?_
  simp
theorem c1S (l:List NodeD) (r:Int) (g nx:Int→Src→Val×Src) (h:Nat) (hh:h≤1000) (hlen:l.length≤1000) (x:NodeD) (k:Nat) (hx:l[k]?= some x) (hk:x.kind=17) (hki:∀ k∈x.kids,0≤k∧k<(l.length:Int)) (hkn:1≤x.kids.length) (hk2:x.kids.length≤1000) (Hn:∀ k:Int,k∈x.kids→∀ s:Src,s.ok→PCB Tryz.prog 81 [Sp pin,Tt l r,I .i64 k,I .i64 ((h+1:Nat):Int)] [(pin,a1d s)] (Vt (nx k s).1) [(pin,a1d (nx k s).2)]) (hL:∀ k s,(nx k s).1.labels.length≤900000) (s:Src) (hs:s.ok):a0W l r (a1o l g nx x) h k s:=by
 have hx':=a0n a0c hx
 have hkl:k<l.length:=(List.getElem?_eq_some_iff.1 hx).1
 have hh0:decide (((h+1:Nat):Int)≤0)=false:=by rw[decide_eq_false_iff_not];omega
 have hk0:decide ((k:Int)<0)=false:=by rw[decide_eq_false_iff_not];omega
 have hk1:decide ((l.length:Int)≤(k:Int))=false:=by rw[decide_eq_false_iff_not];omega
 have hv:=a0p s (n:=(x.kids.length:Int)) (by omega)
 have hp:b0h x.kids s∈x.kids:=b3C hv
 have hs2:=a0j hs (x.kids.length:Int)
 have hg1:=a3I a0e x.kids 0 hv
 have hM:=a2f.mk 1000000 (Hn _ hp _ hs2)
 obtain⟨v0,hv0⟩:∃ v0,v0=(nx (b0h x.kids s) (a0f s x.kids.length)).1:=⟨_,rfl⟩
 obtain⟨s3,hs3⟩:∃ s3,s3=(nx (b0h x.kids s) (a0f s x.kids.length)).2:=⟨_,rfl⟩
 have hlb:=hL (b0h x.kids s) (a0f s x.kids.length)
 rw[← hv0] at hlb
 rw[← hv0,← hs3] at hM
 unfold a0W a1o
 simp only[hk,Int.reduceEq,decide_true,decide_false,cond_true,cond_false]
 rw[← hv0,← hs3]
 refine PCB.ob Tryz.func81 Tryz.ntmps81 Tryz.results81 ?_
 repeat'(first|(simp only[go_sem,zA,zB,zC,zD,zE,zF,zG,reduceCtorEq,zH,zI,zJ,zK,zL,pin,hh0,hk0,hk1,hk,lB,a0b,a0a v0];all_goals refine nf ?_)|(refine stp ?_;intro K hK)|(apply hK;clear hK K)|refine stn ?_|(with_reducible refine⟨by omega,a0c x,hx',?_⟩)|(refine⟨1000000,_,_,_,a0v 1000000 s hs (x.kids.length:Int) (by omega),rfl,?_⟩)|( refine⟨(by omega:_≤_),_,hg1,?_⟩)|(refine⟨1000000,_,_,_,hM,rfl,?_⟩)|(with_reducible refine AWP.genR (id:=39) [8,12,13] [1000000,1000000,10] mixed (by kernel_rfl) fun K hK=>?_;simp only[Bx.outs,Bx.drop,cond_true,cond_false,Nat.reduceBEq,go_sem])|fail)
 refine AWP.lenB 9 4 rfl rfl fun hlen1=>?_
 (try rw[lB] at hlen1)
 refine AWP.range (S:=Val) (x.kids) a0e (fun i y=>(12,I .i64 (i:Nat))::[]) (fun i y=>[(10,c7K y)]) [5,8,9,10] [5,8,9,1000000] (fun i y=>Is (x.kids.foldl (b5Z l) v0) ((x.kids.drop i).foldl (b5Z l) y)∧y.labels.length≤900000+i) (v0) (by simp only[go_sem,zA,zB,zC,zD,zE,zF,zG,reduceCtorEq,zH,zI,zJ,zK,zL,a0a v0];exact Gh.tt []) ?_ ?_ ?_
 ·exact⟨rfl,hlb⟩
 ·rintro i w y hlt hy hy' hbb ⟨hok,hwl⟩
  refine sts ?_
  have hik:i<x.kids.length:=(List.getElem?_eq_some_iff.1 hy).1
  have hym:=hki y (List.mem_of_getElem? hy)
  obtain⟨z,hz⟩:∃ z,z=l.getD y.toNat (a0G 1):=⟨_,rfl⟩
  have hzz:l[y.toNat]?= some z:=by
   have h1:y.toNat<l.length:=by omega
   rw[hz,List.getD_eq_getElem?_getD,List.getElem?_eq_getElem h1];rfl
  have hz':=a0n a0c hzz
  have hal:=b50 l w y
  unfold Is at hok
  rw[a8i hy,List.foldl_cons] at hok
  cases hc:decide (z.kind=19)
  ·have hA:b5Z l w y=w:=by unfold b5Z;rw[← hz,hc];rfl
   rw[hA] at hok
   repeat'(first|(simp only[go_sem,zA,zB,zC,zD,zE,zF,zG,reduceCtorEq,zH,zI,zJ,zK,zL,pin,lB,hbb,hk,hc,a0b];all_goals refine nf ?_)|(refine stp ?_;intro K hK)|(apply hK;clear hK K)|refine stn ?_|(with_reducible first|refine⟨(by omega:_≤_),a0e y,hy',?_⟩|refine⟨(by omega:_≤_),a0c z,hz',?_⟩)|(refine a0M ?_;intro K hK)|(clear hK K))
   all_goals(rw[a0d hlt hlen1])
   all_goals(refine⟨w,?_,Gh.tt []⟩)
   all_goals exact⟨hok,by omega⟩
  ·have hA:b5Z l w y={ w with labels:=a0N (w.labels++[z.text]) }:=by unfold b5Z;rw[← hz,hc];rfl
   have hS:=a6c (w.labels++[z.text]) (by simp;omega)
   have happ:w.labels.map Sx.encStr++[[C.str z.text]]=(w.labels++[z.text]).map Sx.encStr:=by rw[List.map_append];rfl
   repeat'(first|(simp only[go_sem,zA,zB,zC,zD,zE,zF,zG,reduceCtorEq,zH,zI,zJ,zK,zL,pin,lB,hbb,hk,hc,a0b,happ];all_goals refine nf ?_)|(refine stp ?_;intro K hK)|(apply hK;clear hK K)|refine stn ?_|(with_reducible first|refine⟨(by omega:_≤_),a0e y,hy',?_⟩|refine⟨(by omega:_≤_),a0c z,hz',?_⟩|refine⟨_,hS,?_⟩|(refine⟨(by first|omega|(simp only[List.length_append,lB,List.length_take,List.length_drop,List.length_cons,List.length_nil,List.length_replicate];omega):_≤_),?_⟩))|(with_reducible refine AWP.genR2 (id:=44) [2,14,15,17] [10] [1] 17 [] mixed (by kernel_rfl) fun K hK=>?_;simp only[Bx.outs,Bx.drop,cond_true,cond_false,Nat.reduceBEq,go_sem])|(refine a0M ?_;intro K hK)|refine stq ?_|(clear hK K))
   rw[hA] at hok hal
   all_goals(rw[a0d hlt hlen1])
   all_goals(refine⟨({ w with labels:=a0N (w.labels++[z.text]) }:Val),?_,Gh.tt []⟩)
   all_goals exact⟨hok,by omega⟩
 ·rintro w hbb ⟨hok,hwl⟩
  refine sts ?_
  unfold Is at hok
  rw[List.drop_length,List.foldl_nil] at hok
  repeat'(first|(simp only[go_sem,zA,zB,zC,zD,zE,zF,zG,reduceCtorEq,zH,zI,zJ,zK,zL,pin,lB,hbb,hk];all_goals refine nf ?_)|(refine stp ?_;intro K hK)|(apply hK;clear hK K)|refine stn ?_|(clear hK K))
  all_goals(rw[hok])
  all_goals(first|exact⟨rfl,fun x hx=>by simp only[List.mem_singleton] at hx;subst hx;simp[pin]⟩|exact⟨trivial,fun x hx=>by simp only[List.mem_singleton] at hx;subst hx;simp[pin]⟩|(intro x hx;simp only[List.mem_singleton] at hx;subst hx;simp[pin])|(refine⟨by simp only[Vt,a0a]<;>rfl,fun x hx=>by simp only[List.mem_singleton] at hx;subst hx;simp[pin]⟩)|fail)
end Go.Proofs.YthbcdhfiibpeaaaGreat

