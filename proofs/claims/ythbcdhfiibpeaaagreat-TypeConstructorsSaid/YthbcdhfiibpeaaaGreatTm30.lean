/- Lemmas of the proof. -/
import Derived.Test.YthbcdhfiibpeaaaGreatTm22
open Go.Proofs.Tryz renaming prog→zP
open List renaming length_append→lA,length_map→lB,length_cons→lC,length_nil→lD,mem_singleton→lN,length_take→lQ
open Go.Sx.AWP renaming gh→xD
open Nat renaming reduceBEq→zA,reduceBNe→zB,reduceAdd→zC,reduceSub→zD,reduceMul→zE,reduceLeDiff→zF,reduceLT→zG,reduceEqDiff→zH
open Int renaming reduceToNat→zI,reduceLE→zJ,reduceLT→zK,reduceEq→zL
open Bool renaming not_eq_true'→zM,not_eq_false'→zN
set_option linter.unusedSimpArgs false
set_option linter.unusedVariables false
set_option maxRecDepth 20000
set_option maxHeartbeats 64000000
namespace Go.Proofs.YthbcdhfiibpeaaaGreat
open Go Go.Sx
def b1k (ks:List KeyD) (vs:List Val):Val:=⟨8,0,[],vs,ks,[],[]⟩
def b6N (ks:List KeyD) (x:KeyD):Nat:=tw (fun y=>decide (a4s y x<0)) ks
def a6w:List (KeyD×Val)→List KeyD→List Val→Val×Int
  |[],ks,vs=>(b1k ks vs,0)
  |(x,v)::r,ks,vs=>bif decide (ks[b6N ks x]?= some x) then (a1Q,6) else a6w r (a1L (b6N ks x) x ks) (a1L (b6N ks x) v vs)
def a83 (ks:List KeyD) (l:List Val):Val×Int:=
  bif decide ((ks.length:Int)=(l.length:Int)) then (bif ks.all a0s then a6w (ks.zip l) [] [] else (a1Q,1)) else (a1Q,1)
abbrev c6P (ks:List KeyD) (vs:List Val):Res:= .cells [.dat (.int .i64 8), .dat (.int .i64 0), .dat (.str []), .dat (.sl 7 (vs.map a0g)), .dat (.sl 2 (ks.map a0k)), .dat (.sl 9 []), .dat (.sl 1 [])]
theorem c36 (s:List KeyD) (k:Nat) (x:KeyD):(List.map a0k (s.take k)++[a0k x])++List.map a0k (s.drop k)=(a1L k x s).map a0k:=by
  unfold a1L;simp
theorem c37 (s:List KeyD) (x:KeyD):(List.map a0k s++[a0k x])++List.map a0k (s.drop s.length)=(a1L s.length x s).map a0k:=by
  unfold a1L;simp
theorem b8K (s:List Val) (k:Nat) (x:Val):(List.map a0g (s.take k)++[a0g x])++List.map a0g (s.drop k)=(a1L k x s).map a0g:=by
  unfold a1L;simp
theorem b2l {α β:Type} {a:List α} {b:List β} {k:Nat} {x:α} {y:β} (hx:a[k]?= some x) (hy:b[k]?= some y):(a.zip b).drop k=(x,y)::(a.zip b).drop (k+1):=by
  obtain⟨h1,e1⟩:=List.getElem?_eq_some_iff.1 hx
  obtain⟨h2,e2⟩:=List.getElem?_eq_some_iff.1 hy
  have hlz:k<(a.zip b).length:=by simp;try omega
  rw[List.drop_eq_getElem_cons hlz,List.getElem_zip,e1,e2]
theorem b4F {α β:Type} {a:List α} {b:List β}:(a.zip b).drop a.length=[]:=by
  rw[List.drop_eq_nil_iff];simp;try omega
theorem b1l:Vt a1Q= .st [.int .i64 0, .int .i64 0, .str [], .sl 7 [], .sl 2 [], .sl 9 [], .sl 1 []]:=by rw[Vt,a4W]
theorem b2m (ks:List KeyD) (l:List Val) (hkl:ks.length≤1000000):PC zP 93 [.one (.dat (.sl 2 (ks.map a0k))), .one (.dat (.sl 7 (l.map a0g)))] (.tup [Vt (a83 ks l).1,I .i64 (a83 ks l).2]):=by
 refine PCB.ob Tryz.func93 Tryz.ntmps93 Tryz.results93 ?_
 unfold a83
 cases hl:decide ((ks.length:Int)=(l.length:Int))
 ·
  repeat'(first|(simp only[go_sem,zA,zB,zC,zD,zE,zF,zG,reduceCtorEq,zH,zI,zJ,zK,zL,lB,hl];all_goals refine nf ?_)|(refine stp ?_;intro K hK)|(apply hK;clear hK K)|refine stn ?_|(clear hK K))
  all_goals(first|exact fun _ h=>absurd h List.not_mem_nil|refine a0m ?_)
  all_goals(simp only[cond_false,b1l];try rfl)
 have hkl2:ks.length=l.length:=by have:=of_decide_eq_true hl;omega
 simp only[cond_true]
 repeat'(first|(simp only[go_sem,zA,zB,zC,zD,zE,zF,zG,reduceCtorEq,zH,zI,zJ,zK,zL,lB,hl];all_goals refine nf ?_)|(refine stp ?_;intro K hK)|(apply hK;clear hK K)|refine stn ?_|fail)
 refine AWP.len 0 rfl fun hlen0=>?_
 (try rw[lB] at hlen0)
 refine AWP.range (S:=Unit) (ks) a0k (fun k s=>(6,I .i64 (k:Nat))::[]) (fun k s=>[]) [0,1,4] [4] (fun k s=>ks.all a0s=(ks.drop k).all a0s) (()) (by refine sts ?_;exact Gh.tt []) ?_ ?_ ?_
 ·rfl
 ·intro k s x hlt hx hx' hb hok
  refine sts ?_
  rw[a37 hx] at hok
  cases hz:a0s x<;>simp only[hz,Bool.true_and,Bool.false_and] at hok
  ·
   repeat'(first|(simp only[go_sem,zA,zB,zC,zD,zE,zF,zG,reduceCtorEq,zH,zI,zJ,zK,zL,lB,hb,hz];all_goals refine nf ?_)|(refine stp ?_;intro K hK)|(apply hK;clear hK K)|refine stn ?_|(with_reducible first|refine⟨_,a3F x,?_⟩|refine⟨by omega,a0k x,hx',?_⟩)|refine stq ?_|(clear hK K))
   all_goals(refine a0m ?_;simp only[hok,cond_false,b1l];try rfl)
  ·
   repeat'(first|(simp only[go_sem,zA,zB,zC,zD,zE,zF,zG,reduceCtorEq,zH,zI,zJ,zK,zL,lB,hb,hz];all_goals refine nf ?_)|(refine stp ?_;intro K hK)|(apply hK;clear hK K)|refine stn ?_|(with_reducible first|refine⟨_,a3F x,?_⟩|refine⟨by omega,a0k x,hx',?_⟩)|refine stq ?_|(clear hK K))
   all_goals(rw[a0d hlt hlen0])
   all_goals(refine⟨(),?_,Gh.tt []⟩)
   all_goals exact hok
 intro s0 hb0 hok0
 refine sts ?_
 rw[a5F] at hok0
 simp only[hok0,cond_true]
 repeat'(first|(simp only[go_sem,zA,zB,zC,zD,zE,zF,zG,reduceCtorEq,zH,zI,zJ,zK,zL,lB,hb0];all_goals refine nf ?_)|(refine stp ?_;intro K hK)|(apply hK;clear hK K)|refine stn ?_|(clear hK K))
 refine xD (Gh.soft 7 rfl) ?_
 refine AWP.len 0 rfl fun hlen1=>?_
 (try rw[lB] at hlen1)
 refine AWP.range (S:=List KeyD×List Val) (ks) a0k (fun k s=>(8,I .i64 (k:Nat))::[]) (fun k s=>[(7,c6P s.1 s.2)]) [0,1,4,7] [4] (fun k s=>a6w (ks.zip l) [] []=a6w ((ks.zip l).drop k) s.1 s.2∧s.1.length≤k∧s.1.length=s.2.length) (([],[])) (by refine sts ?_;exact Gh.tt []) ?_ ?_ ?_
 ·exact⟨rfl,Nat.le_refl _,rfl⟩
 ·rintro k ⟨aks,vs⟩ x hlt hx hx' hb ⟨hok,hsl,hsv⟩
  simp only at hok hsl hsv
  obtain⟨v,hv,hv',_,_⟩:=a4M (enc:=a0g) (show k<l.length by omega)
  rw[b2l hx hv,a6w] at hok
  refine sts ?_
  repeat'(first|(simp only[go_sem,zA,zB,zC,zD,zE,zF,zG,reduceCtorEq,zH,zI,zJ,zK,zL,lB,hb];all_goals refine nf ?_)|(refine stp ?_;intro K hK)|(apply hK;clear hK K)|refine stn ?_|fail)
  refine AWP.loopF (X:=Nat) (fun j=>[(9,I .i64 j)]) (fun j=>[]) [0,1,4,7,8] [4,7] (fun j=>j≤aks.length∧b6N aks x=j+tw (fun y=>decide (a4s y x<0)) (aks.drop j)) (fun j=>aks.length-j) (0) (by refine sts ?_;exact Gh.tt []) ?_ ?_
  ·exact⟨Nat.zero_le _,by simp[b6N]⟩
  rintro j ⟨hj,hp⟩
  refine sts ?_
  by_cases hjl:j<aks.length
  ·obtain⟨y,hy,hy',hbj,_⟩:=a4M (enc:=a0k) hjl
   have hvl:j<vs.length:=by omega
   rw[a9T hy] at hp
   have hcc:=a7e y x
   cases hz:decide (a4s y x<0)<;>simp only[hz,cond_true,cond_false,Nat.add_zero] at hp
   ·have hdx:decide (aks[b6N aks x]?= some x)=decide (y=x):=by rw[hp,hy];simp
    rw[hdx,hp] at hok
    cases hyx:decide (y=x)<;>simp only[hyx,cond_true,cond_false] at hok
    ·
     repeat'(first|(simp only[go_sem,zA,zB,zC,zD,zE,zF,zG,reduceCtorEq,zH,zI,zJ,zK,zL,lB,hbj,hb,hz,hyx,c2w,c6q,Int.toNat_natCast,List.drop_zero,List.take_length,a3N,a4B,c36,b8K];all_goals refine nf ?_)|(refine stp ?_;intro K hK)|(apply hK;clear hK K)|refine stn ?_|(with_reducible first|(refine⟨_,_,_,b5A (vs.take j) (by simp only[lQ];omega),?_⟩)|refine⟨_,hcc,?_⟩|refine⟨by omega,a0k x,hx',?_⟩|refine⟨by omega,a0k y,hy',?_⟩|refine⟨by omega,a0g v,hv',?_⟩|(refine⟨(by first|omega|(simp only[lA,lB,lQ,List.length_drop,lC,lD,List.length_replicate];omega):_≤_),?_⟩))|(with_reducible refine AWP.genM (id:=17) [4,9] mixed (by kernel_rfl) fun K hK=>?_)|(with_reducible refine AWP.genR2 (id:=18) [6,11,13] [80,7] [8] 13 [80] mixed (by kernel_rfl) fun K hK=>?_;simp only[Bx.outs,Bx.drop,cond_true,cond_false,Nat.reduceBEq,go_sem])|(with_reducible refine AWP.genR2 (id:=19) [6,11,13] [85,7] [8] 13 [85] mixed (by kernel_rfl) fun K hK=>?_;simp only[Bx.outs,Bx.drop,cond_true,cond_false,Nat.reduceBEq,go_sem])|(refine a0M ?_;intro K hK)|refine stq ?_|(clear hK K))
     all_goals(rw[a0d hlt hlen1])
     all_goals(refine⟨(a1L j x aks,a1L j v vs),?_,?_⟩)
     all_goals(try first
      |(refine Gh.trans (Gh.freeze 97 rfl rfl (by simp only[go_sem,zA,zB,zC,zD,zE,zF,zG,reduceCtorEq,zH,zI,zJ,zK,zL,lB,lA]) (by simp only[go_sem,zA,zB,zC,zD,zE,zF,zG,reduceCtorEq,zH,zI,zJ,zK,zL,lB,lA])) ?_;simp only[go_sem,zA,zB,zC,zD,zE,zF,zG,reduceCtorEq,zH,zI,zJ,zK,zL,lB,lA];refine Gh.trans (Gh.freeze 110 rfl rfl (by simp only[go_sem,zA,zB,zC,zD,zE,zF,zG,reduceCtorEq,zH,zI,zJ,zK,zL,lB,lA]) (by simp only[go_sem,zA,zB,zC,zD,zE,zF,zG,reduceCtorEq,zH,zI,zJ,zK,zL,lB,lA])) ?_;simp only[go_sem,zA,zB,zC,zD,zE,zF,zG,reduceCtorEq,zH,zI,zJ,zK,zL,lB,lA];exact Gh.tt [])
      |(exact Gh.tt []))
     all_goals(refine⟨hok,by simp only[a13];omega,by simp only[a13];omega⟩)
    ·
     repeat'(first|(simp only[go_sem,zA,zB,zC,zD,zE,zF,zG,reduceCtorEq,zH,zI,zJ,zK,zL,lB,hbj,hb,hz,hyx,c2w,c6q];all_goals refine nf ?_)|(refine stp ?_;intro K hK)|(apply hK;clear hK K)|refine stn ?_|(with_reducible first|refine⟨_,hcc,?_⟩|refine⟨by omega,a0k x,hx',?_⟩|refine⟨by omega,a0k y,hy',?_⟩)|(refine a0M ?_;intro K hK)|(clear hK K))
     all_goals(refine a0m ?_;simp only[hok0,hok,cond_true,b1l];try rfl)
   ·
    repeat'(first|(simp only[go_sem,zA,zB,zC,zD,zE,zF,zG,reduceCtorEq,zH,zI,zJ,zK,zL,lB,hbj,hz];all_goals refine nf ?_)|(refine stp ?_;intro K hK)|(apply hK;clear hK K)|refine stn ?_|(with_reducible first|refine⟨_,hcc,?_⟩|refine⟨by omega,a0k x,hx',?_⟩|refine⟨by omega,a0k y,hy',?_⟩)|(refine a0M ?_;intro K hK)|(clear hK K))
    all_goals(rw[a0d hjl (by omega)])
    all_goals(refine⟨j+1,by omega,⟨by omega,by omega⟩,Gh.tt []⟩)
  ·have hjs:j=aks.length:=by omega
   subst hjs
   have hbj:decide ((aks.length:Int)<(aks.length:Int))=false:=by simp
   rw[b8q,Nat.add_zero] at hp
   have hdx:decide (aks[b6N aks x]?= some x)=false:=by rw[hp];simp
   rw[hdx,hp] at hok
   simp only[cond_false] at hok
   repeat'(first|(simp only[go_sem,zA,zB,zC,zD,zE,zF,zG,reduceCtorEq,zH,zI,zJ,zK,zL,lB,hbj,hb,Int.toNat_natCast,List.drop_zero,List.take_length,a3N,a4B,c37,b8K];all_goals refine nf ?_)|(refine stp ?_;intro K hK)|(apply hK;clear hK K)|refine stn ?_|(with_reducible first|(refine⟨_,_,_,b5A (vs.take aks.length) (by simp only[lQ];omega),?_⟩)|refine⟨by omega,a0k x,hx',?_⟩|refine⟨by omega,a0g v,hv',?_⟩|(refine⟨(by first|omega|(simp only[lA,lB,lQ,List.length_drop,lC,lD,List.length_replicate];omega):_≤_),?_⟩))|(with_reducible refine AWP.genM (id:=17) [4,9] mixed (by kernel_rfl) fun K hK=>?_)|(with_reducible refine AWP.genR2 (id:=18) [6,11,13] [80,7] [8] 13 [80] mixed (by kernel_rfl) fun K hK=>?_;simp only[Bx.outs,Bx.drop,cond_true,cond_false,Nat.reduceBEq,go_sem])|(with_reducible refine AWP.genR2 (id:=19) [6,11,13] [85,7] [8] 13 [85] mixed (by kernel_rfl) fun K hK=>?_;simp only[Bx.outs,Bx.drop,cond_true,cond_false,Nat.reduceBEq,go_sem])|(refine a0M ?_;intro K hK)|refine stq ?_|(clear hK K))
   all_goals(rw[a0d hlt hlen1])
   all_goals(refine⟨(a1L aks.length x aks,a1L aks.length v vs),?_,?_⟩)
   all_goals(try first
    |(refine Gh.trans (Gh.freeze 97 rfl rfl (by simp only[go_sem,zA,zB,zC,zD,zE,zF,zG,reduceCtorEq,zH,zI,zJ,zK,zL,lB,lA]) (by simp only[go_sem,zA,zB,zC,zD,zE,zF,zG,reduceCtorEq,zH,zI,zJ,zK,zL,lB,lA])) ?_;simp only[go_sem,zA,zB,zC,zD,zE,zF,zG,reduceCtorEq,zH,zI,zJ,zK,zL,lB,lA];refine Gh.trans (Gh.freeze 110 rfl rfl (by simp only[go_sem,zA,zB,zC,zD,zE,zF,zG,reduceCtorEq,zH,zI,zJ,zK,zL,lB,lA]) (by simp only[go_sem,zA,zB,zC,zD,zE,zF,zG,reduceCtorEq,zH,zI,zJ,zK,zL,lB,lA])) ?_;simp only[go_sem,zA,zB,zC,zD,zE,zF,zG,reduceCtorEq,zH,zI,zJ,zK,zL,lB,lA];exact Gh.tt [])
    |(exact Gh.tt []))
   all_goals(refine⟨hok,by simp only[a13];omega,by simp only[a13];omega⟩)
 ·rintro⟨aks,vs⟩ hb ⟨hok,_,_⟩
  simp only at hok
  rw[b4F,a6w] at hok
  refine sts ?_
  repeat'(first|(simp only[go_sem,zA,zB,zC,zD,zE,zF,zG,reduceCtorEq,zH,zI,zJ,zK,zL,lB,hb];all_goals refine nf ?_)|(refine stp ?_;intro K hK)|(apply hK;clear hK K)|refine stn ?_|(clear hK K))
  all_goals(refine a0m ?_;simp only[hok0,hok,cond_true,Vt,a0a (b1k aks vs)];try rfl)
def b3n (n:Int) (l:List Ent):Val:=⟨9,n,[],[],[],l,[]⟩
def fnV (n:Int) (l:List Ent):Val×Int:=
  bif decide (n<0)||decide (4<n) then (a1Q,1) else (bif l.all (fun e=>b5x e n) then (b3n n (a4Z l),0) else (a1Q,1))
theorem a7s (n:Int) (l:List Ent) (hll:l.length≤1000000):PC zP 95 [I .i64 n, .one (.dat (.sl 9 (l.map a0l)))] (.tup [Vt (fnV n l).1,I .i64 (fnV n l).2]):=by
 have hen:=b8v l hll
 refine PCB.ob Tryz.func95 Tryz.ntmps95 Tryz.results95 ?_
 unfold fnV
 cases hn:decide (n<0)
 ·cases hm:decide (4<n)
  ·simp only[Bool.or_false,cond_false]
   repeat'(first|(simp only[go_sem,zA,zB,zC,zD,zE,zF,zG,reduceCtorEq,zH,zI,zJ,zK,zL,hn,hm,lB];all_goals refine nf ?_)|(refine stp ?_;intro K hK)|(apply hK;clear hK K)|refine stn ?_|fail)
   refine AWP.len 1 rfl fun hlen0=>?_
   (try rw[lB] at hlen0)
   refine AWP.range (S:=Unit) (l) a0l (fun k s=>(6,I .i64 (k:Nat))::[]) (fun k s=>[]) [0,1,4] [4] (fun k s=>(l.all fun e=>b5x e n)=((l.drop k).all fun e=>b5x e n)) (()) (by refine sts ?_;exact Gh.tt []) ?_ ?_ ?_
   ·rfl
   ·intro k s x hlt hx hx' hb hok
    refine sts ?_
    rw[a37 hx] at hok
    rw[show b5x x n=(decide ((x.1.length:Int)=n)&&(!x.2.1||a6K x.2.2)) from rfl] at hok
    have heq:=b1d x.2.2 a1Q
    rw[a4W,a0a] at heq
    cases hl:decide ((x.1.length:Int)=n)<;>cases hf:x.2.1<;>cases hz:decide (valC x.2.2 a1Q=0)
    all_goals(simp only[a6K,hl,hf,hz,Bool.and_true,Bool.and_false,Bool.true_and,Bool.false_and,Bool.or_true,Bool.or_false,Bool.true_or,Bool.false_or,Bool.not_true,Bool.not_false] at hok)
    all_goals
     repeat'(first|(simp only[go_sem,zA,zB,zC,zD,zE,zF,zG,reduceCtorEq,zH,zI,zJ,zK,zL,a0H x,lB,hb,hz,hl,hf];all_goals refine nf ?_)|(refine stp ?_;intro K hK)|(apply hK;clear hK K)|refine stn ?_|(with_reducible first|refine⟨_,heq,?_⟩|refine⟨by omega,a0l x,hx',?_⟩)|refine stq ?_|(clear hK K))
    any_goals (first|exact fun _ h=>absurd h List.not_mem_nil|(refine a0m ?_;simp only[hok,cond_false,b1l];try rfl))
    all_goals(rw[a0d hlt hlen0])
    all_goals(refine⟨(),?_,Gh.tt []⟩)
    all_goals exact hok
   ·intro s hb hok
    refine sts ?_
    rw[a5F] at hok
    repeat'(first|(simp only[go_sem,zA,zB,zC,zD,zE,zF,zG,reduceCtorEq,zH,zI,zJ,zK,zL,lB,hb];all_goals refine nf ?_)|(refine stp ?_;intro K hK)|(apply hK;clear hK K)|refine stn ?_|(with_reducible refine⟨_,hen,?_⟩)|refine stq ?_|(clear hK K))
    all_goals(refine a0m ?_;simp only[hok,cond_true,Vt,a0a (b3n n (a4Z l))];try rfl)
  ·
   repeat'(first|(simp only[go_sem,zA,zB,zC,zD,zE,zF,zG,reduceCtorEq,zH,zI,zJ,zK,zL,hn,hm];all_goals refine nf ?_)|(refine stp ?_;intro K hK)|(apply hK;clear hK K)|refine stn ?_|(clear hK K))
   all_goals(first|exact fun _ h=>absurd h List.not_mem_nil|refine a0m ?_)
   all_goals(simp only[Bool.or_true,Bool.or_false,cond_true,b1l];try rfl)
 ·
  repeat'(first|(simp only[go_sem,zA,zB,zC,zD,zE,zF,zG,reduceCtorEq,zH,zI,zJ,zK,zL,hn];all_goals refine nf ?_)|(refine stp ?_;intro K hK)|(apply hK;clear hK K)|refine stn ?_|(clear hK K))
  all_goals(first|exact fun _ h=>absurd h List.not_mem_nil|refine a0m ?_)
  all_goals(simp only[Bool.true_or,cond_true,b1l];try rfl)
def a0Q {α:Type} (f:Src→α×Src):Nat→Src→List α×Src
  |0,s=>([],s)
  |n+1,s=>((f s).1::(a0Q f n (f s).2).1,(a0Q f n (f s).2).2)
theorem a4C {α:Type} (f:Src→α×Src) (n:Nat) (s:Src) (acc:List α):(acc++(a0Q f (n+1) s).1,(a0Q f (n+1) s).2)=((acc++[(f s).1])++(a0Q f n (f s).2).1,(a0Q f n (f s).2).2):=by
  simp[a0Q]
theorem a7t {α:Type} (f:Src→α×Src):∀ (n:Nat) (s:Src),(a0Q f n s).1.length=n
  |0,s=>rfl
  |n+1,s=>by simp[a0Q,a7t f n]
theorem a6f {α:Type} {f:Src→α×Src} (hf:∀ s:Src,s.ok→(f s).2.ok):∀ (n:Nat) (s:Src),s.ok→(a0Q f n s).2.ok
  |0,s,h=>h
  |n+1,s,h=>by unfold a0Q;exact a6f hf n _ (hf s h)
theorem a5J {α:Type} {f:Src→α×Src} {p:α→Prop} (hf:∀ s:Src,p (f s).1):∀ (n:Nat) (s:Src),∀ x∈(a0Q f n s).1,p x
 |0,s,x,h=>by simp[a0Q] at h
 |n+1,s,x,h=>by
  simp only[a0Q,List.mem_cons] at h
  rcases h with rfl|h
  ·exact hf s
  ·exact a5J hf n _ x h
def a4D (f:Src→Val×Src) (h:Nat):Prop:=∀ s:Src,s.ok→PCB zP 16 [Sp pin,I .i64 h] [(pin,a1d s)] (Vt (f s).1) [(pin,a1d (f s).2)]
theorem a4D.k {f:Src→Val×Src} {h:Nat} (H:a4D f h) (k:Nat) (s:Src) (hs:s.ok):a2f zP 16 [Sp k,I .i64 h] k (a1d s) (Vt (f s).1) (a1d (f s).2):=a2f.mk k (H s hs)
def a1E (f:Src→Val×Src) (n:Nat) (s:Src):Ent×Src:=
  bif decide (a0h (a0Q f n s).2 4=1) then (((a0Q f n s).1,true,a1Q),a0f (a0Q f n s).2 4)
  else (((a0Q f n s).1,false,(f (a0f (a0Q f n s).2 4)).1),(f (a0f (a0Q f n s).2 4)).2)
theorem b5G {f:Src→Val×Src} (hf:∀ s:Src,s.ok→(f s).2.ok) (n:Nat) {s:Src} (h:s.ok):(a1E f n s).2.ok:=by
  unfold a1E
  have h1:=a6f hf n s h
  cases decide (a0h (a0Q f n s).2 4=1)
  · exact hf _ (a0j h1 4)
  · exact a0j h1 4
abbrev c2H (n:Nat):Res:= .cells [.own 900 n, .dat (.bool false), .dat (.int .i64 0), .dat (.int .i64 0), .dat (.str []), .dat (.nil 7), .dat (.nil 2), .dat (.nil 9), .dat (.nil 1)]
theorem c38 {f:Src→Val×Src} {h:Nat} (H:a4D f h) (hf:∀ s:Src,s.ok→(f s).2.ok) (n:Nat) (hn:n≤1000) (s:Src) (hs:s.ok):
  PCB zP 94 [Sp pin,I .i64 n,I .i64 h] [(pin,a1d s)] (.st (a0l (a1E f n s).1)) [(pin,a1d (a1E f n s).2)]:=by
 refine PCB.ob Tryz.func94 Tryz.ntmps94 Tryz.results94 ?_
 repeat'(first|(simp only[go_sem,zA,zB,zC,zD,zE,zF,zG,reduceCtorEq,zH,zI,zJ,zK,zL,pin];all_goals refine nf ?_)|(refine stp ?_;intro K hK)|(apply hK;clear hK K)|refine stn ?_|fail)
 refine xD (Gh.nilcell 7 0 900 rfl rfl rfl (by simp only[go_sem,zA,zB,zC,zD,zE,zF,zG,reduceCtorEq,zH,zI,zJ,zK,zL]) (by simp only[go_sem,zA,zB,zC,zD,zE,zF,zG,reduceCtorEq,zH,zI,zJ,zK,zL])) ?_
 refine AWP.loopF (X:=Nat×Src×List Val) (fun x=>[(0,Sp 1000000),(1,I .i64 x.1)]) (fun x=>[(1000000,a1d x.2.1),(7,c2H x.2.2.length),(900, .row 7 (x.2.2.map a0g))]) [2,6,7] [6] (fun x=>x.1+x.2.2.length≤1000∧x.2.1.ok∧a0Q f n s=(x.2.2++(a0Q f x.1 x.2.1).1,(a0Q f x.1 x.2.1).2)) (fun x=>x.1) ((n,s,[])) (by refine sts ?_;exact Gh.tt []) ?_ ?_
 ·exact⟨by simp;exact hn,hs,by simp⟩
 rintro⟨m,t,acc⟩ ⟨hl,ht,hp⟩
 simp only at hl ht hp
 refine sts ?_
 cases m with
 |succ m=>
  rw[a4C] at hp
  have hw2:IntKind.i64.wrap (((m+1:Nat):Int)-1)=(m:Int):=a2a (by omega)
  repeat'(first|(simp only[go_sem,zA,zB,zC,zD,zE,zF,zG,reduceCtorEq,zH,zI,zJ,zK,zL,pin,lB,a7V,hw2,a3y];all_goals refine nf ?_)|(refine stp ?_;intro K hK)|(apply hK;clear hK K)|refine stn ?_|(with_reducible (refine⟨(by first|omega|(simp only[lA,lB,lQ,List.length_drop,lC,lD,List.length_replicate];omega):_≤_),?_⟩))|(refine⟨1000000,_,_,_,H.k 1000000 t ht,rfl,?_⟩)|(with_reducible refine AWP.genR2 (id:=4) [4,6,8] [1000000,7,900] [1] 8 [1000000,900] mixed (by kernel_rfl) fun K hK=>?_;simp only[Bx.outs,Bx.drop,cond_true,cond_false,Nat.reduceBEq,go_sem])|(clear hK K))
  all_goals(refine⟨(m,(f t).2,acc++[(f t).1]),by simp only;omega,⟨by simp;omega,hf t ht,hp⟩,Gh.tt [(900,18)]⟩)
 |zero=>
  rw[a0Q,List.append_nil] at hp
  have h0:decide ((0:Int)<((0:Nat):Int))=false:=by simp
  refine xD (Gh.fz 900) ?_
  simp only[go_sem,zA,zB,zC,zD,zE,zF,zG,reduceCtorEq,zH,zI,zJ,zK,zL,lB]
  repeat'(first|(simp only[go_sem,zA,zB,zC,zD,zE,zF,zG,reduceCtorEq,zH,zI,zJ,zK,zL,pin,h0];all_goals refine nf ?_)|(refine stp ?_;intro K hK)|(apply hK;clear hK K)|refine stn ?_|(refine AWP.cnd ?_ ?_<;>intro h<;>(try simp only[zM,zN] at h))|(refine⟨1000000,_,_,_,a0v 1000000 t ht 4 (by omega),rfl,?_⟩)|(refine⟨1000000,_,_,_,H.k 1000000 _ (a0j ht 4),rfl,?_⟩)|refine stq ?_|(clear hK K))
  all_goals(simp only[a1E,hp, *, cond_true,cond_false])
  all_goals(first|refine⟨by first|rfl|(simp only[a0H,a0a];done)|(simp only[a0H,a0a];rfl),fun x hx=>?_⟩|refine⟨trivial,fun x hx=>?_⟩)
  all_goals(simp only[lN] at hx;subst hx;simp[pin])
def lab (r:Val×Src):Val×Src:=({ r.1 with labels:=(a02 r.2).1 },(a02 r.2).2)
def a1W (f:Src→Val×Src):Nat→Src→(List KeyD×List Val)×Src
  |0,s=>(([],[]),s)
  |n+1,s=>(((a9s s).1::(a1W f n (f (a9s s).2).2).1.1,(f (a9s s).2).1::(a1W f n (f (a9s s).2).2).1.2),(a1W f n (f (a9s s).2).2).2)
theorem b6O (f:Src→Val×Src) (n:Nat) (s:Src) (a:List KeyD) (b:List Val):
  ((a++(a1W f (n+1) s).1.1,b++(a1W f (n+1) s).1.2),(a1W f (n+1) s).2)=(((a++[(a9s s).1])++(a1W f n (f (a9s s).2).2).1.1,(b++[(f (a9s s).2).1])++(a1W f n (f (a9s s).2).2).1.2),(a1W f n (f (a9s s).2).2).2):=by
 simp[a1W]
theorem b5H {f:Src→Val×Src} (hf:∀ s:Src,s.ok→(f s).2.ok):∀ (n:Nat) (s:Src),s.ok→(a1W f n s).2.ok
  |0,s,h=>h
  |n+1,s,h=>by unfold a1W;exact b5H hf n _ (hf _ (b73 h))
def a78 (f0:Src→Val×Src) (big:Bool) (s:Src):Val×Src:=
  bif big then (bif decide (a0h s 2=1) then (a0X (f0 (a0f s 2)).1 a0Z,(f0 (a0f s 2)).2) else (a0Z,a0f s 2)) else (a0Z,s)
def a2e (f1 f0:Src→Val×Src) (big:Bool) (k:Int) (s:Src):Val×Src:=
  bif decide (k=1) then (a2L (a0Q f1 (a0h s 4).toNat (a0f s 4)).1,(a0Q f1 (a0h s 4).toNat (a0f s 4)).2) else
  bif decide (k=2) then (a0X (f1 (lab (a78 f0 big s)).2).1 (lab (a78 f0 big s)).1,(f1 (lab (a78 f0 big s)).2).2) else
  bif decide (k=3) then
    (bif decide ((a83 (a1W f1 (a0h s 3).toNat (a0f s 3)).1.1 (a1W f1 (a0h s 3).toNat (a0f s 3)).1.2).2=0) then ((a83 (a1W f1 (a0h s 3).toNat (a0f s 3)).1.1 (a1W f1 (a0h s 3).toNat (a0f s 3)).1.2).1,(a1W f1 (a0h s 3).toNat (a0f s 3)).2)
     else a2S (a1W f1 (a0h s 3).toNat (a0f s 3)).2) else
  bif decide (k=4) then
    (bif decide ((fnV (a0h s 3) (a0Q (a1E f1 (a0h s 3).toNat) (a0h (a0f s 3) 3).toNat (a0f (a0f s 3) 3)).1).2=0) then ((fnV (a0h s 3) (a0Q (a1E f1 (a0h s 3).toNat) (a0h (a0f s 3) 3).toNat (a0f (a0f s 3) 3)).1).1,(a0Q (a1E f1 (a0h s 3).toNat) (a0h (a0f s 3) 3).toNat (a0f (a0f s 3) 3)).2)
     else a2S (a0Q (a1E f1 (a0h s 3).toNat) (a0h (a0f s 3) 3).toNat (a0f (a0f s 3) 3)).2) else
  a2S s
def a5k:Nat→Src→Val×Src
  |0=>a2S
  |1=>a2S
  |h+2=>fun s=>a2e (fun s=>lab (a5k (h+1) s)) (fun s=>lab (a5k h s)) (decide (0<h)) (a0h s 6) (a0f s 6)
def b3o (h:Nat) (s:Src):Val×Src:=lab (a5k h s)
theorem b5I {r:Val×Src} (h:r.2.ok):(lab r).2.ok:=a7l h
theorem c39 {f0:Src→Val×Src} (h0:∀ s:Src,s.ok→(f0 s).2.ok) (big:Bool) {s:Src} (h:s.ok):(a78 f0 big s).2.ok:=by
  unfold a78
  cases big<;>cases decide (a0h s 2=1)<;>first|exact h|exact a0j h 2|exact h0 _ (a0j h 2)
theorem b8L {f1 f0:Src→Val×Src} (h1:∀ s:Src,s.ok→(f1 s).2.ok) (h0:∀ s:Src,s.ok→(f0 s).2.ok) (big:Bool) (k:Int) {s:Src} (h:s.ok):(a2e f1 f0 big k s).2.ok:=by
 have n4:=a0j h 4
 have n3:=a0j h 3
 have n33:=a0j n3 3
 unfold a2e
 cases decide (k=1)<;>simp only[cond_true,cond_false]
 ·cases decide (k=2)<;>simp only[cond_true,cond_false]
  ·cases decide (k=3)<;>simp only[cond_true,cond_false]
   ·cases decide (k=4)<;>simp only[cond_true,cond_false]
    ·exact a3L h
    ·have hx:=a6f (f:=a1E f1 (a0h s 3).toNat) (fun t ht=>b5G h1 _ ht) (a0h (a0f s 3) 3).toNat _ n33
     generalize decide ((fnV _ _).2=0)=b
     cases b
     ·exact a3L hx
     ·exact hx
   ·have hx:=b5H h1 (a0h s 3).toNat _ n3
    generalize decide ((a83 _ _).2=0)=b
    cases b
    ·exact a3L hx
    ·exact hx
  ·exact h1 _ (b5I (c39 h0 big h))
 ·exact a6f h1 _ _ n4
theorem a6g:∀ (h:Nat) (s:Src),s.ok→(a5k h s).2.ok
  |0,s,hs=>a3L hs
  |1,s,hs=>a3L hs
  |h+2,s,hs=>b8L (fun s hs=>b5I (a6g (h+1) s hs)) (fun s hs=>b5I (a6g h s hs)) _ _ (a0j hs 6)
theorem b4G (h:Nat) (s:Src) (hs:s.ok):(b3o h s).2.ok:=b5I (a6g h s hs)
def c5A (f:Src→Val×Src) (h:Nat):Prop:=∀ s:Src,s.ok→PCB zP 55 [Sp pin,I .i64 h] [(pin,a1d s)] (Vt (f s).1) [(pin,a1d (f s).2)]
theorem c5A.k {f:Src→Val×Src} {h:Nat} (H:c5A f h) (k:Nat) (s:Src) (hs:s.ok):a2f zP 55 [Sp k,I .i64 h] k (a1d s) (Vt (f s).1) (a1d (f s).2):=a2f.mk k (H s hs)
theorem b8M {f:Src→Val×Src} {h:Nat} (H:c5A f h) (hf:∀ s:Src,s.ok→(f s).2.ok):a4D (fun s=>lab (f s)) h:=by
  intro s hs
  refine PCB.ob Tryz.func16 Tryz.ntmps16 Tryz.results16 ?_
  repeat'(first|(simp only[go_sem,zA,zB,zC,zD,zE,zF,zG,reduceCtorEq,zH,zI,zJ,zK,zL,pin,a0a];all_goals refine nf ?_)|(refine stp ?_;intro K hK)|(apply hK;clear hK K)|refine stn ?_|(refine⟨1000000,_,_,_,H.k 1000000 s hs,rfl,?_⟩)|(refine⟨1000000,_,_,_,a81 1000000 _ (hf s hs),rfl,?_⟩)|refine stq ?_|fail)
  all_goals(refine⟨?_,fun x hx=>?_⟩)
  any_goals (simp only[lN] at hx;subst hx;simp[pin,lab])
  all_goals(simp only[lab,Vt,a0a];try rfl)
theorem b1m (h:Nat) (hh:h≤1):c5A a2S h:=by
  intro s hs
  have hb:decide ((h:Int)≤1)=true:=by simp;omega
  refine PCB.ob Tryz.func55 Tryz.ntmps55 Tryz.results55 ?_
  repeat'(first|(simp only[go_sem,zA,zB,zC,zD,zE,zF,zG,reduceCtorEq,zH,zI,zJ,zK,zL,pin,hb];all_goals refine nf ?_)|(refine stp ?_;intro K hK)|(apply hK;clear hK K)|refine stn ?_|(refine⟨1000000,_,_,_,a9S 1000000 s hs,rfl,?_⟩)|refine stq ?_|(clear hK K))
  all_goals(first|exact fun x hx=>hx|(refine⟨rfl,fun x hx=>?_⟩;simp only[lN] at hx;subst hx;simp[pin])|(intro x hx;simp only[lN] at hx;subst hx;simp[pin]))
section
variable {f1 f0:Src→Val×Src} {h:Nat}
abbrev c6Q (f1 f0:Src→Val×Src) (h:Nat) (k:Int):Prop:=∀ s:Src,s.ok→a0h s 6=k→PCB zP 55 [Sp pin,I .i64 (h+2:Nat)] [(pin,a1d s)] (Vt (a2e f1 f0 (decide (0<h)) k (a0f s 6)).1) [(pin,a1d (a2e f1 f0 (decide (0<h)) k (a0f s 6)).2)]
theorem b8N (k:Int) (hk5:k=0∨k=5) (hh:h≤1000):c6Q f1 f0 h k:=by
 intro s hs hk
 have hb:decide (((h+2:Nat):Int)≤1)=false:=by simp;omega
 have hs1:=a0j hs 6
 rcases hk5 with rfl|rfl
 all_goals
  refine PCB.ob Tryz.func55 Tryz.ntmps55 Tryz.results55 ?_
  repeat'(first|(simp only[go_sem,zA,zB,zC,zD,zE,zF,zG,reduceCtorEq,zH,zI,zJ,zK,zL,pin,hb,hk];all_goals refine nf ?_)|(refine stp ?_;intro K hK)|(apply hK;clear hK K)|refine stn ?_|(refine⟨1000000,_,_,_,a0v 1000000 s hs 6 (by omega),rfl,?_⟩)|(refine⟨1000000,_,_,_,a9S 1000000 _ hs1,rfl,?_⟩)|refine stq ?_|fail)
 all_goals(first|exact fun x hx=>hx|(refine⟨rfl,fun x hx=>?_⟩;simp only[lN] at hx;subst hx;simp[pin,a2e])|(intro x hx;simp only[lN] at hx;subst hx;simp[pin,a2e]))
theorem c4a (H1:a4D f1 (h+1)) (hf1:∀ s:Src,s.ok→(f1 s).2.ok) (hh:h≤1000):c6Q f1 f0 h 1:=by
 intro s hs hk
 have hb:decide (((h+2:Nat):Int)≤1)=false:=by simp;omega
 have hs1:=a0j hs 6
 have hv:=a0p (a0f s 6) (n:=4) (by omega)
 have hnn:a0h (a0f s 6) 4=(((a0h (a0f s 6) 4).toNat:Nat):Int):=by omega
 have hw:IntKind.i64.wrap (((h+2:Nat):Int)-1)=((h+1:Nat):Int):=by rw[w64 (by omega)];omega
 rw[show a2e f1 f0 (decide (0<h)) 1 (a0f s 6)=(a2L (a0Q f1 (a0h (a0f s 6) 4).toNat (a0f (a0f s 6) 4)).1,(a0Q f1 (a0h (a0f s 6) 4).toNat (a0f (a0f s 6) 4)).2) from rfl]
 refine PCB.ob Tryz.func55 Tryz.ntmps55 Tryz.results55 ?_
 repeat'(first|(simp only[go_sem,zA,zB,zC,zD,zE,zF,zG,reduceCtorEq,zH,zI,zJ,zK,zL,pin,hb,hk];all_goals refine nf ?_)|(refine stp ?_;intro K hK)|(apply hK;clear hK K)|refine stn ?_|(refine⟨1000000,_,_,_,a0v 1000000 s hs 6 (by omega),rfl,?_⟩)|(refine⟨1000000,_,_,_,a0v 1000000 _ hs1 4 (by omega),rfl,?_⟩)|refine stq ?_|fail)
 refine xD (Gh.nilrow 5 900 rfl rfl rfl rfl) ?_
 rw[hnn]
 refine AWP.loopF (X:=Nat×Src×List Val) (fun x=>[(0,Sp 1000000),(5, .one (.own 900 x.2.2.length)),(6,I .i64 x.1)]) (fun x=>[(1000000,a1d x.2.1),(900, .row 7 (x.2.2.map a0g))]) [1,4] [4] (fun x=>x.1+x.2.2.length≤1000∧x.2.1.ok∧a0Q f1 (a0h (a0f s 6) 4).toNat (a0f (a0f s 6) 4)=(x.2.2++(a0Q f1 x.1 x.2.1).1,(a0Q f1 x.1 x.2.1).2)) (fun x=>x.1) (((a0h (a0f s 6) 4).toNat,a0f (a0f s 6) 4,[])) (by refine sts ?_;exact Gh.tt []) ?_ ?_
 ·exact⟨by simp;omega,a0j hs1 4,by simp⟩
 rintro⟨m,t,acc⟩ ⟨hl,ht,hp⟩
 simp only at hl ht hp
 refine sts ?_
 cases m with
 |succ m=>
  rw[a4C] at hp
  have hw2:IntKind.i64.wrap (((m+1:Nat):Int)-1)=(m:Int):=a2a (by omega)
  repeat'(first|(simp only[go_sem,zA,zB,zC,zD,zE,zF,zG,reduceCtorEq,zH,zI,zJ,zK,zL,pin,lB,a7V,hw,hw2,a3y];all_goals refine nf ?_)|(refine stp ?_;intro K hK)|(apply hK;clear hK K)|refine stn ?_|(with_reducible (refine⟨(by first|omega|(simp only[lA,lB,lQ,List.length_drop,lC,lD,List.length_replicate];omega):_≤_),?_⟩))|(refine⟨1000000,_,_,_,H1.k 1000000 t ht,rfl,?_⟩)|refine stq ?_|(clear hK K))
  all_goals(refine⟨(m,(f1 t).2,acc++[(f1 t).1]),by simp only;omega,⟨by simp;omega,hf1 t ht,hp⟩,Gh.tt [(900,38)]⟩)
 |zero=>
  rw[a0Q,List.append_nil] at hp
  have h0:decide ((0:Int)<((0:Nat):Int))=false:=by simp
  have hlen:acc.length≤100000000:=by omega
  repeat'(first|(simp only[go_sem,zA,zB,zC,zD,zE,zF,zG,reduceCtorEq,zH,zI,zJ,zK,zL,pin,h0,lB];all_goals refine nf ?_)|(refine stp ?_;intro K hK)|(apply hK;clear hK K)|refine stn ?_|(with_reducible refine⟨_,a73 acc hlen,?_⟩)|refine stq ?_|(clear hK K))
  all_goals(simp only[hp])
  all_goals(first|refine⟨rfl,fun x hx=>?_⟩|refine⟨trivial,fun x hx=>?_⟩|refine fun x hx=>?_)
  all_goals(simp only[lN] at hx;subst hx;simp[pin])
end
end Go.Proofs.YthbcdhfiibpeaaaGreat
namespace Go.Proofs.YthbcdhfiibpeaaaGreat
open Go Go.Sx
variable {f1 f0:Src→Val×Src} {h:Nat}
theorem a79:a0g a0Z=[.int .i64 5, .int .i64 0, .str [], .sl 7 [], .sl 2 [], .sl 9 [], .sl 1 []]:=by rw[a0a];rfl
theorem a84 (a b:Val):a0g (a0X a b)=[.int .i64 7, .int .i64 0, .str [], .sl 7 [a0g a,a0g b], .sl 2 [], .sl 9 [], .sl 1 []]:=by rw[a0a];rfl
theorem b8O (ls:List (List UInt8)):Vt { a0Z with labels:=ls }= .st [.int .i64 5, .int .i64 0, .str [], .sl 7 [], .sl 2 [], .sl 9 [], .sl 1 (ls.map Sx.encStr)]:=by rw[Vt,a0a];rfl
theorem c1h (a:Val) (ls:List (List UInt8)):Vt { a0X a a0Z with labels:=ls }= .st [.int .i64 7, .int .i64 0, .str [], .sl 7 [a0g a,[.int .i64 5, .int .i64 0, .str [], .sl 7 [], .sl 2 [], .sl 9 [], .sl 1 []]], .sl 2 [], .sl 9 [], .sl 1 (ls.map Sx.encStr)]:=by
  rw[Vt,a0a];simp only[a0X,List.map_cons,List.map_nil,a79]
theorem c4b (H1:a4D f1 (h+1)) (H0:a4D f0 h) (hf1:∀ s:Src,s.ok→(f1 s).2.ok) (hf0:∀ s:Src,s.ok→(f0 s).2.ok) (hh:h≤1000):c6Q f1 f0 h 2:=by
 intro s hs hk
 have hb:decide (((h+2:Nat):Int)≤1)=false:=by simp;omega
 have hs1:=a0j hs 6
 have hw:IntKind.i64.wrap (((h+2:Nat):Int)-1)=((h+1:Nat):Int):=by rw[w64 (by omega)];omega
 have hw0:IntKind.i64.wrap (((h+2:Nat):Int)-2)=((h:Nat):Int):=by rw[w64 (by omega)];omega
 have hbig:decide ((2:Int)<((h+2:Nat):Int))=decide (0<h):=by rw[← Bool.coe_iff_coe];simp only[decide_eq_true_eq];omega
 cases hB:decide (0<h) with
 |false=>
  rw[hB] at hbig
  rw[show a2e f1 f0 false 2 (a0f s 6)=(a0X (f1 (a02 (a0f s 6)).2).1 { a0Z with labels:=(a02 (a0f s 6)).1 },(f1 (a02 (a0f s 6)).2).2) from rfl]
  have hc:=a4A (f1 (a02 (a0f s 6)).2).1 { a0Z with labels:=(a02 (a0f s 6)).1 }
  rw[b8O] at hc
  refine PCB.ob Tryz.func55 Tryz.ntmps55 Tryz.results55 ?_
  repeat'(first|(simp only[go_sem,zA,zB,zC,zD,zE,zF,zG,reduceCtorEq,zH,zI,zJ,zK,zL,pin,hb,hk,hbig,a79,hw];all_goals refine nf ?_)|(refine stp ?_;intro K hK)|(apply hK;clear hK K)|refine stn ?_|(with_reducible first|refine⟨_,a28,?_⟩|refine⟨_,hc,?_⟩)|(refine⟨1000000,_,_,_,a0v 1000000 s hs 6 (by omega),rfl,?_⟩)|(refine⟨1000000,_,_,_,a81 1000000 _ hs1,rfl,?_⟩)|(refine⟨1000000,_,_,_,H1.k 1000000 _ (a7l hs1),rfl,?_⟩)|(with_reducible refine AWP.genR (id:=16) [3,6] [1000000,4] mixed (by kernel_rfl) fun K hK=>?_;simp only[Bx.outs,Bx.drop,cond_true,cond_false,Nat.reduceBEq,go_sem])|refine stq ?_|(clear hK K))
  all_goals(first|refine⟨rfl,fun x hx=>?_⟩|refine⟨trivial,fun x hx=>?_⟩|refine fun x hx=>?_)
  all_goals(simp only[lN] at hx;subst hx;simp[pin])
 |true=>
  rw[hB] at hbig
  have hs2:=a0j hs1 2
  cases hN:decide (a0h (a0f s 6) 2=1) with
  |false=>
   rw[show a2e f1 f0 true 2 (a0f s 6)=(a0X (f1 (a02 (a0f (a0f s 6) 2)).2).1 { a0Z with labels:=(a02 (a0f (a0f s 6) 2)).1 },(f1 (a02 (a0f (a0f s 6) 2)).2).2) from by unfold a2e a78 lab;rw[hN];rfl]
   have hc:=a4A (f1 (a02 (a0f (a0f s 6) 2)).2).1 { a0Z with labels:=(a02 (a0f (a0f s 6) 2)).1 }
   rw[b8O] at hc
   refine PCB.ob Tryz.func55 Tryz.ntmps55 Tryz.results55 ?_
   repeat'(first|(simp only[go_sem,zA,zB,zC,zD,zE,zF,zG,reduceCtorEq,zH,zI,zJ,zK,zL,pin,hb,hk,hbig,hN,a79,hw];all_goals refine nf ?_)|(refine stp ?_;intro K hK)|(apply hK;clear hK K)|refine stn ?_|(with_reducible first|refine⟨_,a28,?_⟩|refine⟨_,hc,?_⟩)|(refine⟨1000000,_,_,_,a0v 1000000 s hs 6 (by omega),rfl,?_⟩)|(refine⟨1000000,_,_,_,a0v 1000000 _ hs1 2 (by omega),rfl,?_⟩)|(refine⟨1000000,_,_,_,a81 1000000 _ hs2,rfl,?_⟩)|(refine⟨1000000,_,_,_,H1.k 1000000 _ (a7l hs2),rfl,?_⟩)|(with_reducible refine AWP.genR (id:=16) [3,6] [1000000,4] mixed (by kernel_rfl) fun K hK=>?_;simp only[Bx.outs,Bx.drop,cond_true,cond_false,Nat.reduceBEq,go_sem])|refine stq ?_|(clear hK K))
   all_goals(first|refine⟨rfl,fun x hx=>?_⟩|refine⟨trivial,fun x hx=>?_⟩|refine fun x hx=>?_)
   all_goals(simp only[lN] at hx;subst hx;simp[pin])
  |true=>
   have hs3:=hf0 _ hs2
   rw[show a2e f1 f0 true 2 (a0f s 6)=(a0X (f1 (a02 (f0 (a0f (a0f s 6) 2)).2).2).1 { a0X (f0 (a0f (a0f s 6) 2)).1 a0Z with labels:=(a02 (f0 (a0f (a0f s 6) 2)).2).1 },(f1 (a02 (f0 (a0f (a0f s 6) 2)).2).2).2) from by unfold a2e a78 lab;rw[hN];rfl]
   have hc:=a4A (f1 (a02 (f0 (a0f (a0f s 6) 2)).2).2).1 { a0X (f0 (a0f (a0f s 6) 2)).1 a0Z with labels:=(a02 (f0 (a0f (a0f s 6) 2)).2).1 }
   rw[c1h] at hc
   have hc0:=a4A (f0 (a0f (a0f s 6) 2)).1 a0Z
   rw[Vt,Vt,Vt,a79] at hc0
   refine PCB.ob Tryz.func55 Tryz.ntmps55 Tryz.results55 ?_
   repeat'(first|(simp only[go_sem,zA,zB,zC,zD,zE,zF,zG,reduceCtorEq,zH,zI,zJ,zK,zL,pin,hb,hk,hbig,hN,a79,a84 (f0 (a0f (a0f s 6) 2)).1 a0Z,hw,hw0];all_goals refine nf ?_)|(refine stp ?_;intro K hK)|(apply hK;clear hK K)|refine stn ?_|(with_reducible first|refine⟨_,a28,?_⟩|refine⟨_,hc,?_⟩|refine⟨_,hc0,?_⟩)|(refine⟨1000000,_,_,_,a0v 1000000 s hs 6 (by omega),rfl,?_⟩)|(refine⟨1000000,_,_,_,a0v 1000000 _ hs1 2 (by omega),rfl,?_⟩)|(refine⟨1000000,_,_,_,H0.k 1000000 _ hs2,rfl,?_⟩)|(refine⟨1000000,_,_,_,a81 1000000 _ hs3,rfl,?_⟩)|(refine⟨1000000,_,_,_,H1.k 1000000 _ (a7l hs3),rfl,?_⟩)|(with_reducible refine AWP.genR (id:=16) [3,6] [1000000,4] mixed (by kernel_rfl) fun K hK=>?_;simp only[Bx.outs,Bx.drop,cond_true,cond_false,Nat.reduceBEq,go_sem])|refine stq ?_|(clear hK K))
   all_goals(first|refine⟨rfl,fun x hx=>?_⟩|refine⟨trivial,fun x hx=>?_⟩|refine fun x hx=>?_)
   all_goals(simp only[lN] at hx;subst hx;simp[pin])
theorem c4c (H1:a4D f1 (h+1)) (hf1:∀ s:Src,s.ok→(f1 s).2.ok) (hh:h≤1000):c6Q f1 f0 h 3:=by
 intro s hs hk
 have hb:decide (((h+2:Nat):Int)≤1)=false:=by simp;omega
 have hs1:=a0j hs 6
 have hw:IntKind.i64.wrap (((h+2:Nat):Int)-1)=((h+1:Nat):Int):=by rw[w64 (by omega)];omega
 have hv:=a0p (a0f s 6) (n:=3) (by omega)
 obtain⟨n,hn⟩:=Int.eq_ofNat_of_zero_le hv.1
 rw[show a2e f1 f0 (decide (0<h)) 3 (a0f s 6)=(bif decide ((a83 (a1W f1 n (a0f (a0f s 6) 3)).1.1 (a1W f1 n (a0f (a0f s 6) 3)).1.2).2=0) then ((a83 (a1W f1 n (a0f (a0f s 6) 3)).1.1 (a1W f1 n (a0f (a0f s 6) 3)).1.2).1,(a1W f1 n (a0f (a0f s 6) 3)).2) else a2S (a1W f1 n (a0f (a0f s 6) 3)).2) from by unfold a2e;rw[hn];rfl]
 refine PCB.ob Tryz.func55 Tryz.ntmps55 Tryz.results55 ?_
 repeat'(first|(simp only[go_sem,zA,zB,zC,zD,zE,zF,zG,reduceCtorEq,zH,zI,zJ,zK,zL,pin,hb,hk,hn];all_goals refine nf ?_)|(refine stp ?_;intro K hK)|(apply hK;clear hK K)|refine stn ?_|(refine⟨1000000,_,_,_,a0v 1000000 s hs 6 (by omega),rfl,?_⟩)|(refine⟨1000000,_,_,_,a0v 1000000 _ hs1 3 (by omega),rfl,?_⟩)|refine stq ?_|fail)
 refine xD (Gh.nilrow 8 901 rfl rfl rfl rfl) ?_
 refine xD (Gh.nilrow 9 902 rfl rfl rfl rfl) ?_
 refine AWP.loopF (X:=Nat×Src×List KeyD×List Val) (fun x=>[(0,Sp 1000000),(8, .one (.own 901 x.2.2.1.length)),(9, .one (.own 902 x.2.2.2.length)),(10,I .i64 x.1)]) (fun x=>[(1000000,a1d x.2.1),(901, .row 2 (x.2.2.1.map a0k)),(902, .row 7 (x.2.2.2.map a0g))]) [1,4] [4] (fun x=>x.1+x.2.2.1.length≤1000∧x.2.2.1.length=x.2.2.2.length∧x.2.1.ok∧a1W f1 n (a0f (a0f s 6) 3)=((x.2.2.1++(a1W f1 x.1 x.2.1).1.1,x.2.2.2++(a1W f1 x.1 x.2.1).1.2),(a1W f1 x.1 x.2.1).2)) (fun x=>x.1) ((n,a0f (a0f s 6) 3,[],[])) (by refine sts ?_;exact Gh.tt []) ?_ ?_
 ·exact⟨by simp;omega,rfl,a0j hs1 3,by simp⟩
 rintro⟨m,t,ak,av⟩ ⟨hl,hkv,ht,hp⟩
 simp only at hl hkv ht hp
 refine sts ?_
 cases m with
 |succ m=>
  rw[b6O] at hp
  have hw2:IntKind.i64.wrap (((m+1:Nat):Int)-1)=(m:Int):=a2a (by omega)
  repeat'(first|(simp only[go_sem,zA,zB,zC,zD,zE,zF,zG,reduceCtorEq,zH,zI,zJ,zK,zL,pin,lB,a7V,hw,hw2,a3y,c0L];all_goals refine nf ?_)|(refine stp ?_;intro K hK)|(apply hK;clear hK K)|refine stn ?_|(with_reducible (refine⟨(by first|omega|(simp only[lA,lB,lQ,List.length_drop,lC,lD,List.length_replicate];omega):_≤_),?_⟩))|(refine⟨1000000,_,_,_,c7V 1000000 t ht,rfl,?_⟩)|(refine⟨1000000,_,_,_,H1.k 1000000 _ (b73 ht),rfl,?_⟩)|refine stq ?_|(clear hK K))
  all_goals(refine⟨(m,(f1 (a9s t).2).2,ak++[(a9s t).1],av++[(f1 (a9s t).2).1]),by simp only;omega,⟨by simp;omega,by simp;omega,hf1 _ (b73 ht),hp⟩,Gh.tt [(901,78),(902,85)]⟩)
 |zero=>
  rw[a1W,List.append_nil,List.append_nil] at hp
  have h0:decide ((0:Int)<((0:Nat):Int))=false:=by simp
  have hlen:ak.length≤1000000:=by omega
  cases hm:decide ((a83 ak av).2=0)
  all_goals
   repeat'(first|(simp only[go_sem,zA,zB,zC,zD,zE,zF,zG,reduceCtorEq,zH,zI,zJ,zK,zL,pin,h0,hm,lB];all_goals refine nf ?_)|(refine stp ?_;intro K hK)|(apply hK;clear hK K)|refine stn ?_|(with_reducible refine⟨_,b2m ak av hlen,?_⟩)|(refine⟨1000000,_,_,_,a9S 1000000 t ht,rfl,?_⟩)|refine stq ?_|(clear hK K))
  all_goals(simp only[hp,hm,cond_true,cond_false])
  all_goals(first|refine⟨rfl,fun x hx=>?_⟩|refine⟨trivial,fun x hx=>?_⟩|refine fun x hx=>?_)
  all_goals(simp only[lN] at hx;subst hx;simp[pin])
theorem c1i (l:List Ent) (x:Ent):l.map a0l++[a0l x]=(l++[x]).map a0l:=by simp
theorem c4d (H:a4D f1 h) (hf:∀ s:Src,s.ok→(f1 s).2.ok) (n:Nat) (hn:n≤1000) (k:Nat) (s:Src) (hs:s.ok):a2f zP 94 [Sp k,I .i64 n,I .i64 h] k (a1d s) (.st (a0l (a1E f1 n s).1)) (a1d (a1E f1 n s).2):=a2f.mk k (c38 H hf n hn s hs)
theorem c4e (H1:a4D f1 (h+1)) (hf1:∀ s:Src,s.ok→(f1 s).2.ok) (hh:h≤1000):c6Q f1 f0 h 4:=by
 intro s hs hk
 have hb:decide (((h+2:Nat):Int)≤1)=false:=by simp;omega
 have hs1:=a0j hs 6
 have hw:IntKind.i64.wrap (((h+2:Nat):Int)-1)=((h+1:Nat):Int):=by rw[w64 (by omega)];omega
 have hv:=a0p (a0f s 6) (n:=3) (by omega)
 have hv2:=a0p (a0f (a0f s 6) 3) (n:=3) (by omega)
 obtain⟨n,hn⟩:=Int.eq_ofNat_of_zero_le hv.1
 obtain⟨c,hc⟩:=Int.eq_ofNat_of_zero_le hv2.1
 rw[show a2e f1 f0 (decide (0<h)) 4 (a0f s 6)=(bif decide ((fnV n (a0Q (a1E f1 n) c (a0f (a0f (a0f s 6) 3) 3)).1).2=0) then ((fnV n (a0Q (a1E f1 n) c (a0f (a0f (a0f s 6) 3) 3)).1).1,(a0Q (a1E f1 n) c (a0f (a0f (a0f s 6) 3) 3)).2) else a2S (a0Q (a1E f1 n) c (a0f (a0f (a0f s 6) 3) 3)).2) from by unfold a2e;rw[hn,hc];rfl]
 have hn3:n≤1000:=by omega
 refine PCB.ob Tryz.func55 Tryz.ntmps55 Tryz.results55 ?_
 repeat'(first|(simp only[go_sem,zA,zB,zC,zD,zE,zF,zG,reduceCtorEq,zH,zI,zJ,zK,zL,pin,hb,hk,hn,hc];all_goals refine nf ?_)|(refine stp ?_;intro K hK)|(apply hK;clear hK K)|refine stn ?_|(refine⟨1000000,_,_,_,a0v 1000000 s hs 6 (by omega),rfl,?_⟩)|(refine⟨1000000,_,_,_,a0v 1000000 _ hs1 3 (by omega),rfl,?_⟩)|(refine⟨1000000,_,_,_,a0v 1000000 _ (a0j hs1 3) 3 (by omega),rfl,?_⟩)|refine stq ?_|fail)
 refine xD (Gh.nilrow 14 903 rfl rfl rfl rfl) ?_
 refine AWP.loopF (X:=Nat×Src×List Ent) (fun x=>[(0,Sp 1000000),(14, .one (.own 903 x.2.2.length)),(15,I .i64 x.1)]) (fun x=>[(1000000,a1d x.2.1),(903, .row 9 (x.2.2.map a0l))]) [1,4,13] [4] (fun x=>x.1+x.2.2.length≤1000∧x.2.1.ok∧a0Q (a1E f1 n) c (a0f (a0f (a0f s 6) 3) 3)=(x.2.2++(a0Q (a1E f1 n) x.1 x.2.1).1,(a0Q (a1E f1 n) x.1 x.2.1).2)) (fun x=>x.1) ((c,a0f (a0f (a0f s 6) 3) 3,[])) (by refine sts ?_;exact Gh.tt []) ?_ ?_
 ·exact⟨by simp;omega,a0j (a0j hs1 3) 3,by simp⟩
 rintro⟨m,t,acc⟩ ⟨hl,ht,hp⟩
 simp only at hl ht hp
 refine sts ?_
 cases m with
 |succ m=>
  rw[a4C] at hp
  have hw2:IntKind.i64.wrap (((m+1:Nat):Int)-1)=(m:Int):=a2a (by omega)
  repeat'(first|(simp only[go_sem,zA,zB,zC,zD,zE,zF,zG,reduceCtorEq,zH,zI,zJ,zK,zL,pin,lB,a7V,hw,hw2,c1i];all_goals refine nf ?_)|(refine stp ?_;intro K hK)|(apply hK;clear hK K)|refine stn ?_|(with_reducible (refine⟨(by first|omega|(simp only[lA,lB,lQ,List.length_drop,lC,lD,List.length_replicate];omega):_≤_),?_⟩))|(refine⟨1000000,_,_,_,c4d H1 hf1 n hn3 1000000 t ht,rfl,?_⟩)|refine stq ?_|(clear hK K))
  all_goals(refine⟨(m,(a1E f1 n t).2,acc++[(a1E f1 n t).1]),by simp only;omega,⟨by simp;omega,b5G hf1 n ht,hp⟩,Gh.tt [(903,112)]⟩)
 |zero=>
  rw[a0Q,List.append_nil] at hp
  have h0:decide ((0:Int)<((0:Nat):Int))=false:=by simp
  have hlen:acc.length≤1000000:=by omega
  cases hm:decide ((fnV n acc).2=0)
  all_goals
   repeat'(first|(simp only[go_sem,zA,zB,zC,zD,zE,zF,zG,reduceCtorEq,zH,zI,zJ,zK,zL,pin,h0,hm,lB];all_goals refine nf ?_)|(refine stp ?_;intro K hK)|(apply hK;clear hK K)|refine stn ?_|(with_reducible refine⟨_,a7s n acc hlen,?_⟩)|(refine⟨1000000,_,_,_,a9S 1000000 t ht,rfl,?_⟩)|refine stq ?_|(clear hK K))
  all_goals(simp only[hp,hm,cond_true,cond_false])
  all_goals(first|refine⟨rfl,fun x hx=>?_⟩|refine⟨trivial,fun x hx=>?_⟩|refine fun x hx=>?_)
  all_goals(simp only[lN] at hx;subst hx;simp[pin])
theorem c4f (H1:a4D f1 (h+1)) (H0:a4D f0 h) (hf1:∀ s:Src,s.ok→(f1 s).2.ok) (hf0:∀ s:Src,s.ok→(f0 s).2.ok) (hh:h≤1000):c5A (fun s=>a2e f1 f0 (decide (0<h)) (a0h s 6) (a0f s 6)) (h+2):=by
  intro s hs
  have hv:=a0p s (n:=6) (by omega)
  have hk:a0h s 6=0∨a0h s 6=1∨a0h s 6=2∨a0h s 6=3∨a0h s 6=4∨a0h s 6=5:=by omega
  simp only
  rcases hk with hk|hk|hk|hk|hk|hk<;>rw[hk]
  · exact b8N 0 (.inl rfl) hh s hs hk
  · exact c4a H1 hf1 hh s hs hk
  · exact c4b H1 H0 hf1 hf0 hh s hs hk
  · exact c4c H1 hf1 hh s hs hk
  · exact c4e H1 hf1 hh s hs hk
  · exact b8N 5 (.inr rfl) hh s hs hk
theorem b4H:∀ h:Nat,h≤1000→c5A (a5k h) h
  |0,_=>b1m 0 (by omega)
  |1,_=>b1m 1 (by omega)
  |h+2,hh=>c4f (b8M (b4H (h+1) (by omega)) (a6g (h+1))) (b8M (b4H h (by omega)) (a6g h)) (fun s hs=>b4G (h+1) s hs) (fun s hs=>b4G h s hs) (by omega)
theorem a2b (h:Nat) (hh:h≤1000):a4D (b3o h) h:=b8M (b4H h hh) (a6g h)
end Go.Proofs.YthbcdhfiibpeaaaGreat

