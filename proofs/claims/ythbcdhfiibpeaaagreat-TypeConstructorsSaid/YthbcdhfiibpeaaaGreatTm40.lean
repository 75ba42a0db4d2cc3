/- Lemmas of the proof. -/
import Derived.Test.YthbcdhfiibpeaaaGreatTm38
open List renaming length_map→lB
open Nat renaming reduceBEq→zA,reduceBNe→zB,reduceAdd→zC,reduceSub→zD,reduceMul→zE,reduceLeDiff→zF,reduceLT→zG,reduceEqDiff→zH
open Int renaming reduceToNat→zI,reduceLE→zJ,reduceLT→zK,reduceEq→zL
open Bool renaming not_eq_true'→zM,not_eq_false'→zN
set_option linter.unusedSimpArgs false
set_option linter.unusedVariables false
set_option maxRecDepth 20000
set_option maxHeartbeats 64000000
namespace Go.Proofs.YthbcdhfiibpeaaaGreat
open Go Go.Sx
theorem b62 (l:List NodeD) (r:Int) (g:Val→Int→Bool) (v:Val) (k:Nat) (x:NodeD) (hx:l[k]?= some x) (hk:x.kind=16) (HB:∀ k∈x.kids,b3r l r g v k):PC Tryz.prog 52 [Vt v,Tt l r,I .i64 (k:Int)] (Bo (memN g x v)):=by
 have hx':=a0n a0c hx
 unfold memN
 simp only[hk,Int.reduceEq,decide_true,decide_false,cond_true,cond_false]
 refine PCB.ob Tryz.func52 Tryz.ntmps52 Tryz.results52 ?_
 repeat'(first|(simp only[go_sem,zA,zB,zC,zD,zE,zF,zG,reduceCtorEq,zH,zI,zJ,zK,zL,a0a v,lB,a0b,hk];all_goals refine nf ?_)|(refine stp ?_;intro K hK)|(apply hK;clear hK K)|refine stn ?_|(with_reducible refine⟨by omega,a0c x,hx',?_⟩)|fail)
 refine AWP.lenB 7 4 rfl rfl fun hlen0=>?_
 (try rw[lB] at hlen0)
 refine AWP.range (S:=Unit) (x.kids) a0e (fun k s=>(8,I .i64 (k:Nat))::[]) (fun k s=>[]) [3,4,7] [3,4,7] (fun i s=>x.kids.any (g v)=(x.kids.drop i).any (g v)) (()) (by simp only[go_sem,zA,zB,zC,zD,zE,zF,zG,reduceCtorEq,zH,zI,zJ,zK,zL,a0a v];exact Gh.tt []) ?_ ?_ ?_
 ·rfl
 ·intro i s y hlt hy hy' hb hok
  refine sts ?_
  have hM:=(HB y (List.mem_of_getElem? hy)).e
  have hd:x.kids.drop i=y::x.kids.drop (i+1):=by
   obtain⟨hk',e⟩:=List.getElem?_eq_some_iff.1 hy
   rw[List.drop_eq_getElem_cons hk',e]
  rw[hd,List.any_cons] at hok
  cases hz:g v y<;>simp only[hz,Bool.true_or,Bool.false_or] at hok
  ·
   repeat'(first|(simp only[go_sem,zA,zB,zC,zD,zE,zF,zG,reduceCtorEq,zH,zI,zJ,zK,zL,a0a v,lB,a0b,hk,hb,hz];all_goals refine nf ?_)|(refine stp ?_;intro K hK)|(apply hK;clear hK K)|refine stn ?_|(with_reducible first|refine⟨by omega,a0e y,hy',?_⟩|refine⟨_,hM,?_⟩)|(refine a0M ?_;intro K hK)|(clear hK K))
   all_goals(rw[a0d hlt hlen0])
   all_goals(refine⟨(),?_,Gh.tt []⟩)
   all_goals exact hok
  ·
   repeat'(first|(simp only[go_sem,zA,zB,zC,zD,zE,zF,zG,reduceCtorEq,zH,zI,zJ,zK,zL,a0a v,lB,a0b,hk,hb,hz];all_goals refine nf ?_)|(refine stp ?_;intro K hK)|(apply hK;clear hK K)|refine stn ?_|(with_reducible first|refine⟨by omega,a0e y,hy',?_⟩|refine⟨_,hM,?_⟩)|(refine a0M ?_;intro K hK)|(clear hK K))
   all_goals(first|exact fun _ h=>absurd h List.not_mem_nil|(refine a0m ?_;first|rfl|(rw[hok]<;>rfl)))
 ·intro s hb hok
  refine sts ?_
  rw[List.drop_length] at hok
  repeat'(first|(simp only[go_sem,zA,zB,zC,zD,zE,zF,zG,reduceCtorEq,zH,zI,zJ,zK,zL,a0a v,lB,a0b,hk,hb];all_goals refine nf ?_)|(refine stp ?_;intro K hK)|(apply hK;clear hK K)|refine stn ?_|(clear hK K))
  all_goals(first|exact fun _ h=>absurd h List.not_mem_nil|(refine a0m ?_;first|rfl|(rw[hok]<;>rfl)))
theorem b63 (l:List NodeD) (r:Int) (g:Val→Int→Bool) (v:Val) (k:Nat) (x:NodeD) (hx:l[k]?= some x) (hk:x.kind=17) (HB:∀ k∈x.kids,b3r l r g v k):PC Tryz.prog 52 [Vt v,Tt l r,I .i64 (k:Int)] (Bo (memN g x v)):=by
 have hx':=a0n a0c hx
 unfold memN
 simp only[hk,Int.reduceEq,decide_true,decide_false,cond_true,cond_false]
 refine PCB.ob Tryz.func52 Tryz.ntmps52 Tryz.results52 ?_
 repeat'(first|(simp only[go_sem,zA,zB,zC,zD,zE,zF,zG,reduceCtorEq,zH,zI,zJ,zK,zL,a0a v,lB,a0b,hk];all_goals refine nf ?_)|(refine stp ?_;intro K hK)|(apply hK;clear hK K)|refine stn ?_|(with_reducible refine⟨by omega,a0c x,hx',?_⟩)|fail)
 refine AWP.lenB 7 4 rfl rfl fun hlen1=>?_
 (try rw[lB] at hlen1)
 refine AWP.range (S:=Unit) (x.kids) a0e (fun k s=>(9,I .i64 (k:Nat))::[]) (fun k s=>[]) [3,4,7] [3,4,7] (fun i s=>x.kids.all (g v)=(x.kids.drop i).all (g v)) (()) (by simp only[go_sem,zA,zB,zC,zD,zE,zF,zG,reduceCtorEq,zH,zI,zJ,zK,zL,a0a v];exact Gh.tt []) ?_ ?_ ?_
 ·rfl
 ·intro i s y hlt hy hy' hb hok
  refine sts ?_
  have hM:=(HB y (List.mem_of_getElem? hy)).e
  have hd:x.kids.drop i=y::x.kids.drop (i+1):=by
   obtain⟨hk',e⟩:=List.getElem?_eq_some_iff.1 hy
   rw[List.drop_eq_getElem_cons hk',e]
  rw[hd,List.all_cons] at hok
  cases hz:g v y<;>simp only[hz,Bool.true_and,Bool.false_and] at hok
  ·
   repeat'(first|(simp only[go_sem,zA,zB,zC,zD,zE,zF,zG,reduceCtorEq,zH,zI,zJ,zK,zL,a0a v,lB,a0b,hk,hb,hz];all_goals refine nf ?_)|(refine stp ?_;intro K hK)|(apply hK;clear hK K)|refine stn ?_|(with_reducible first|refine⟨by omega,a0e y,hy',?_⟩|refine⟨_,hM,?_⟩)|(refine a0M ?_;intro K hK)|(clear hK K))
   all_goals(first|exact fun _ h=>absurd h List.not_mem_nil|(refine a0m ?_;first|rfl|(rw[hok]<;>rfl)))
  ·
   repeat'(first|(simp only[go_sem,zA,zB,zC,zD,zE,zF,zG,reduceCtorEq,zH,zI,zJ,zK,zL,a0a v,lB,a0b,hk,hb,hz];all_goals refine nf ?_)|(refine stp ?_;intro K hK)|(apply hK;clear hK K)|refine stn ?_|(with_reducible first|refine⟨by omega,a0e y,hy',?_⟩|refine⟨_,hM,?_⟩)|(refine a0M ?_;intro K hK)|(clear hK K))
   all_goals(rw[a0d hlt hlen1])
   all_goals(refine⟨(),?_,Gh.tt []⟩)
   all_goals exact hok
 ·intro s hb hok
  refine sts ?_
  rw[List.drop_length] at hok
  repeat'(first|(simp only[go_sem,zA,zB,zC,zD,zE,zF,zG,reduceCtorEq,zH,zI,zJ,zK,zL,a0a v,lB,a0b,hk,hb];all_goals refine nf ?_)|(refine stp ?_;intro K hK)|(apply hK;clear hK K)|refine stn ?_|(clear hK K))
  all_goals(first|exact fun _ h=>absurd h List.not_mem_nil|(refine a0m ?_;first|rfl|(rw[hok]<;>rfl)))
theorem b64 (l:List NodeD) (r:Int) (g:Val→Int→Bool) (v:Val) (k:Nat) (x:NodeD) (hx:l[k]?= some x) (hk:x.kind=18) (hne:x.kids≠[]) (HB:∀ k∈x.kids,b3r l r g v k):PC Tryz.prog 52 [Vt v,Tt l r,I .i64 (k:Int)] (Bo (memN g x v)):=by
 have hx':=a0n a0c hx
 unfold memN
 simp only[hk,Int.reduceEq,decide_true,decide_false,cond_true,cond_false]
 refine PCB.ob Tryz.func52 Tryz.ntmps52 Tryz.results52 ?_
 have hy':(x.kids.map a0e)[0]?= some (a0e (x.kids.getD 0 0)):=by
  cases hkk:x.kids with
  |nil=>exact absurd hkk hne
  |cons a t=>rfl
 have hM:=(HB (x.kids.getD 0 0) (a96 hne)).e
 have hpos:0<x.kids.length:=List.length_pos_iff.2 hne
 repeat'(first|(simp only[go_sem,zA,zB,zC,zD,zE,zF,zG,reduceCtorEq,zH,zI,zJ,zK,zL,a0a v,lB,a0b,hk];all_goals refine nf ?_)|(refine stp ?_;intro K hK)|(apply hK;clear hK K)|refine stn ?_|(with_reducible first|refine⟨by omega,a0c x,hx',?_⟩|refine⟨a0e (x.kids.getD 0 0),hy',?_⟩|refine⟨_,hM,?_⟩)|(refine a0M ?_;intro K hK)|(clear hK K))
 all_goals(first|exact fun _ h=>absurd h List.not_mem_nil|(refine a0m ?_;first|rfl))
theorem b65 (l:List NodeD) (r:Int) (g:Val→Int→Bool) (v:Val) (k:Nat) (x:NodeD) (hx:l[k]?= some x) (hk:x.kind=19):PC Tryz.prog 52 [Vt v,Tt l r,I .i64 (k:Int)] (Bo (memN g x v)):=by
 have hx':=a0n a0c hx
 unfold memN
 simp only[hk,Int.reduceEq,decide_true,decide_false,cond_true,cond_false]
 refine PCB.ob Tryz.func52 Tryz.ntmps52 Tryz.results52 ?_
 repeat'(first|(simp only[go_sem,zA,zB,zC,zD,zE,zF,zG,reduceCtorEq,zH,zI,zJ,zK,zL,a0a v,lB,a0b,hk];all_goals refine nf ?_)|(refine stp ?_;intro K hK)|(apply hK;clear hK K)|refine stn ?_|(with_reducible refine⟨by omega,a0c x,hx',?_⟩)|fail)
 refine AWP.lenB 3 6 rfl rfl fun hlen2=>?_
 (try rw[lB] at hlen2)
 refine AWP.range (S:=Unit) (v.labels) Sx.encStr (fun k s=>(10,I .i64 (k:Nat))::[]) (fun k s=>[]) [3,7] [3,7] (fun i s=>(v.labels.any fun s=>decide (s=x.text))=((v.labels.drop i).any fun s=>decide (s=x.text))) (()) (by simp only[go_sem,zA,zB,zC,zD,zE,zF,zG,reduceCtorEq,zH,zI,zJ,zK,zL,a0a v];exact Gh.tt []) ?_ ?_ ?_
 ·rfl
 ·intro i s y hlt hy hy' hb hok
  refine sts ?_
  have hd:v.labels.drop i=y::v.labels.drop (i+1):=by
   obtain⟨hk',e⟩:=List.getElem?_eq_some_iff.1 hy
   rw[List.drop_eq_getElem_cons hk',e]
  rw[hd,List.any_cons] at hok
  cases hz:decide (y=x.text)<;>simp only[hz,Bool.true_or,Bool.false_or] at hok
  ·
   repeat'(first|(simp only[go_sem,zA,zB,zC,zD,zE,zF,zG,reduceCtorEq,zH,zI,zJ,zK,zL,a0a v,lB,a0b,hk,hb,hz,Sx.encStr];all_goals refine nf ?_)|(refine stp ?_;intro K hK)|(apply hK;clear hK K)|refine stn ?_|(with_reducible refine⟨by omega,Sx.encStr y,hy',?_⟩)|(refine a0M ?_;intro K hK)|(clear hK K))
   all_goals(rw[a0d hlt hlen2])
   all_goals(refine⟨(),?_,Gh.tt []⟩)
   all_goals exact hok
  ·
   repeat'(first|(simp only[go_sem,zA,zB,zC,zD,zE,zF,zG,reduceCtorEq,zH,zI,zJ,zK,zL,a0a v,lB,a0b,hk,hb,hz,Sx.encStr];all_goals refine nf ?_)|(refine stp ?_;intro K hK)|(apply hK;clear hK K)|refine stn ?_|(with_reducible refine⟨by omega,Sx.encStr y,hy',?_⟩)|(refine a0M ?_;intro K hK)|(clear hK K))
   all_goals(first|exact fun _ h=>absurd h List.not_mem_nil|(refine a0m ?_;first|rfl|(rw[hok]<;>rfl)))
 ·intro s hb hok
  refine sts ?_
  rw[List.drop_length] at hok
  repeat'(first|(simp only[go_sem,zA,zB,zC,zD,zE,zF,zG,reduceCtorEq,zH,zI,zJ,zK,zL,a0a v,lB,a0b,hk,hb];all_goals refine nf ?_)|(refine stp ?_;intro K hK)|(apply hK;clear hK K)|refine stn ?_|(clear hK K))
  all_goals(first|exact fun _ h=>absurd h List.not_mem_nil|(refine a0m ?_;first|rfl|(rw[hok]<;>rfl)))
end Go.Proofs.YthbcdhfiibpeaaaGreat

