/- Lemmas of the proof. -/
import Derived.Test.YthbcdhfiibpeaaaGreatTm37
open Go.Proofs.Tryz renaming prog→zP
open List renaming length_map→lB
open Nat renaming reduceBEq→zA,reduceBNe→zB,reduceAdd→zC,reduceSub→zD,reduceMul→zE,reduceLeDiff→zF,reduceLT→zG,reduceEqDiff→zH
open Int renaming reduceToNat→zI,reduceLE→zJ,reduceLT→zK,reduceEq→zL
open Bool renaming not_eq_true'→zM,not_eq_false'→zN
set_option linter.unusedSimpArgs false
set_option linter.unusedVariables false
set_option maxRecDepth 20000
set_option maxHeartbeats 64000000
namespace Go.Proofs.YthbcdhfiibpeaaaGreat
open Go Go.Sx
theorem b87 {α:Type} (p:α→Bool) (l:List α):decide (a2p p 0 l<0)=!l.any p:=by
  have:=b25 p l 0
  cases h:l.any p with
  |true=>rw[h] at this;simp only[iff_true] at this;rw[decide_eq_false (by omega)];rfl
  |false=>rw[h] at this;simp only[Bool.false_eq_true,iff_false] at this;rw[decide_eq_true (by omega)];rfl
theorem b6T (l:List NodeD) (r:Int) (g:Val→Int→Bool) (x:NodeD) (v:Val) (hx13:x.kind=13) (hkl:v.keys.length=v.kids.length) (hkk:∀ k∈v.keys,k.kind=0∨k.kind=1)
  (H:∀ p∈v.kids,∀ k∈edgeL x,b3r l r g p k):
  PC zP 90 [Vt v,Tt l r, .st [.int .i64 x.kind, .int .i64 x.lo, .int .i64 x.hi, .str x.text, .sl 1 (x.kids.map a0e), .sl 4 (x.fields.map a0i), .int .i64 x.r0, .int .i64 x.r1]] (Bo (b2q g x v)):=by
 refine PCB.ob Tryz.func90 Tryz.ntmps90 Tryz.results90 ?_
 repeat'(first|(simp only[go_sem,zA,zB,zC,zD,zE,zF,zG,reduceCtorEq,zH,zI,zJ,zK,zL,a0a v,lB];all_goals refine nf ?_)|(refine stp ?_;intro K hK)|(apply hK;clear hK K)|refine stn ?_|fail)
 refine AWP.lenB 5 5 rfl rfl fun hlen0=>?_
 (try rw[lB] at hlen0)
 refine AWP.range (S:=Unit) (x.fields) a0i (fun k s=>(7,I .i64 (k:Nat))::[]) (fun k s=>[]) [3,4,5] [3,4,5] (fun i s=>(x.fields.all fun f=>f.opt||v.keys.any fun k=>a3i k f.key)=((x.fields.drop i).all fun f=>f.opt||v.keys.any fun k=>a3i k f.key)) (()) (by simp only[go_sem,zA,zB,zC,zD,zE,zF,zG,reduceCtorEq,zH,zI,zJ,zK,zL,a0a v];exact Gh.tt []) ?_ ?_ ?_
 ·rfl
 ·intro i s f hlt hx hx' hb hok
  refine sts ?_
  rw[a37 hx] at hok
  have hky:=c1G v f.key
  have hfa:=b87 (fun k:KeyD=>a3i k f.key) v.keys
  cases ho:f.opt
  ·cases hz:(v.keys.any fun k=>a3i k f.key)<;>rw[hz] at hfa<;>simp only[ho,hz,Bool.or_true,Bool.or_false,Bool.false_or,Bool.true_and,Bool.false_and,Bool.not_true,Bool.not_false] at hok hfa
   ·
    repeat'(first|(simp only[go_sem,zA,zB,zC,zD,zE,zF,zG,reduceCtorEq,zH,zI,zJ,zK,zL,a0a v,lB,hb,ho,hfa,encField_lit];all_goals refine nf ?_)|(refine stp ?_;intro K hK)|(apply hK;clear hK K)|refine stn ?_|(with_reducible refine⟨by omega,a0i f,hx',?_⟩)|(refine⟨_,hky,?_⟩)|(refine a0M ?_;intro K hK)|(clear hK K))
    all_goals(first|exact fun _ h=>absurd h List.not_mem_nil|(refine a0m ?_;rw[b2q,hok];rfl))
   ·
    repeat'(first|(simp only[go_sem,zA,zB,zC,zD,zE,zF,zG,reduceCtorEq,zH,zI,zJ,zK,zL,a0a v,lB,hb,ho,hfa,encField_lit];all_goals refine nf ?_)|(refine stp ?_;intro K hK)|(apply hK;clear hK K)|refine stn ?_|(with_reducible refine⟨by omega,a0i f,hx',?_⟩)|(refine⟨_,hky,?_⟩)|(refine a0M ?_;intro K hK)|(clear hK K))
    all_goals(rw[a0d hlt hlen0])
    all_goals(refine⟨(),?_,Gh.tt []⟩)
    all_goals exact hok
  ·simp only[ho,Bool.true_or,Bool.true_and] at hok
   repeat'(first|(simp only[go_sem,zA,zB,zC,zD,zE,zF,zG,reduceCtorEq,zH,zI,zJ,zK,zL,a0a v,lB,hb,ho,encField_lit];all_goals refine nf ?_)|(refine stp ?_;intro K hK)|(apply hK;clear hK K)|refine stn ?_|(with_reducible refine⟨by omega,a0i f,hx',?_⟩)|(refine a0M ?_;intro K hK)|(clear hK K))
   all_goals(rw[a0d hlt hlen0])
   all_goals(refine⟨(),?_,Gh.tt []⟩)
   all_goals exact hok
 ·intro s0 hb0 hok0
  refine sts ?_
  rw[a5F] at hok0
  have hM:b2q g x v=(v.keys.zip v.kids).all fun p=>g p.2 (a8e x p.1):=by rw[b2q,hok0];rfl
  repeat'(first|(simp only[go_sem,zA,zB,zC,zD,zE,zF,zG,reduceCtorEq,zH,zI,zJ,zK,zL,a0a v,lB,hb0];all_goals refine nf ?_)|(refine stp ?_;intro K hK)|(apply hK;clear hK K)|refine stn ?_|(clear hK K))
  refine AWP.lenB 3 4 rfl rfl fun hlen1=>?_
  (try rw[lB] at hlen1)
  refine AWP.range (S:=Unit) (v.keys) a0k (fun k s=>(8,I .i64 (k:Nat))::[]) (fun k s=>[]) [3,4,5] [3,4,5] (fun i s=>b2q g x v=(((v.keys.zip v.kids).drop i).all fun p=>g p.2 (a8e x p.1))) (()) (by simp only[go_sem,zA,zB,zC,zD,zE,zF,zG,reduceCtorEq,zH,zI,zJ,zK,zL,a0a v];exact Gh.tt []) ?_ ?_ ?_
  ·exact hM
  ·intro i s k hlt hx hx' hb hok
   refine sts ?_
   have hik:i<v.keys.length:=(List.getElem?_eq_some_iff.1 hx).1
   obtain⟨p,hp⟩:∃ p,v.kids[i]?= some p:=⟨v.kids[i]'(by omega),List.getElem?_eq_getElem (by omega)⟩
   have hp':=a0n a0g hp
   rw[b2l hx hp,List.all_cons] at hok
   have hpm:=List.mem_of_getElem? hp
   have hF:=b6S x k
   have hMm:=(H p hpm (a8e x k) (a8f hx13 k)).f
   have hk01:=hkk k (List.mem_of_getElem? hx)
   cases hd:decide (0≤a2p (fun f:FieldD=>a3i f.key k) 0 x.fields) with
   |true=>
    obtain⟨j,f,h1,h2,_⟩:=a86 _ x.fields 0 (of_decide_eq_true hd)
    rw[Nat.zero_add] at h1
    rw[h1] at hF hd
    have h2':=a0n a0i h2
    have hto:=a87 h1 h2
    rw[hto] at hMm hok
    obtain⟨kd,tx⟩:=k
    simp only at hk01
    rcases hk01 with rfl|rfl
    all_goals(cases hz:g p f.node<;>simp only[hz,Bool.true_and,Bool.false_and] at hok)
    all_goals
     repeat'(first|(simp only[go_sem,zA,zB,zC,zD,zE,zF,zG,reduceCtorEq,zH,zI,zJ,zK,zL,a0a v,lB,hb,hd,hz,encField_lit,a0k];all_goals refine nf ?_)|(refine stp ?_;intro K hK)|(apply hK;clear hK K)|refine stn ?_|(with_reducible first|refine⟨by omega,a0k _,hx',?_⟩|refine⟨by omega,a0i f,h2',?_⟩|refine⟨by omega,a0g p,hp',?_⟩|refine⟨_,hMm,?_⟩)|(refine⟨_,hF,?_⟩)|(refine a0M ?_;intro K hK)|(clear hK K))
    any_goals (first|exact fun _ h=>absurd h List.not_mem_nil|(refine a0m ?_;rw[hok];done))
    all_goals(rw[a0d hlt hlen1])
    all_goals(refine⟨(),?_,Gh.tt []⟩)
    all_goals exact hok
   |false=>
    have hto:=a88 hd
    obtain⟨kd,tx⟩:=k
    simp only at hk01
    rcases hk01 with rfl|rfl
    ·rw[show a8e x ⟨0,tx⟩=x.r0 from hto] at hMm hok
     cases hz:g p x.r0<;>simp only[hz,Bool.true_and,Bool.false_and] at hok
     all_goals
      repeat'(first|(simp only[go_sem,zA,zB,zC,zD,zE,zF,zG,reduceCtorEq,zH,zI,zJ,zK,zL,a0a v,lB,hb,hd,hz,encField_lit,a0k];all_goals refine nf ?_)|(refine stp ?_;intro K hK)|(apply hK;clear hK K)|refine stn ?_|(with_reducible first|refine⟨by omega,a0k _,hx',?_⟩|refine⟨by omega,a0g p,hp',?_⟩|refine⟨_,hMm,?_⟩)|(refine⟨_,hF,?_⟩)|(refine a0M ?_;intro K hK)|(clear hK K))
     any_goals (first|exact fun _ h=>absurd h List.not_mem_nil|(refine a0m ?_;rw[hok];done))
     all_goals(rw[a0d hlt hlen1])
     all_goals(refine⟨(),?_,Gh.tt []⟩)
     all_goals exact hok
    ·rw[show a8e x ⟨1,tx⟩=x.r1 from hto] at hMm hok
     cases hz:g p x.r1<;>simp only[hz,Bool.true_and,Bool.false_and] at hok
     all_goals
      repeat'(first|(simp only[go_sem,zA,zB,zC,zD,zE,zF,zG,reduceCtorEq,zH,zI,zJ,zK,zL,a0a v,lB,hb,hd,hz,encField_lit,a0k];all_goals refine nf ?_)|(refine stp ?_;intro K hK)|(apply hK;clear hK K)|refine stn ?_|(with_reducible first|refine⟨by omega,a0k _,hx',?_⟩|refine⟨by omega,a0g p,hp',?_⟩|refine⟨_,hMm,?_⟩)|(refine⟨_,hF,?_⟩)|(refine a0M ?_;intro K hK)|(clear hK K))
     any_goals (first|exact fun _ h=>absurd h List.not_mem_nil|(refine a0m ?_;rw[hok];done))
     all_goals(rw[a0d hlt hlen1])
     all_goals(refine⟨(),?_,Gh.tt []⟩)
     all_goals exact hok
  ·intro s1 hb1 hok1
   refine sts ?_
   rw[b4F] at hok1
   repeat'(first|(simp only[go_sem,zA,zB,zC,zD,zE,zF,zG,reduceCtorEq,zH,zI,zJ,zK,zL,a0a v,lB,hb1];all_goals refine nf ?_)|(refine stp ?_;intro K hK)|(apply hK;clear hK K)|refine stn ?_|(clear hK K))
   all_goals(first|exact fun _ h=>absurd h List.not_mem_nil|(refine a0m ?_;first|(rw[hok1];done)|(rw[hok1];rfl)))
theorem b4R (l:List NodeD) (r:Int) (g:Val→Int→Bool) (x:NodeD) (v:Val) (hk1:1≤x.kids.length) (hk2:x.kids.length≤1000000)
  (H:∀ e∈v.ents,∀ p∈e.1,∀ k∈x.kids,b3r l r g p k) (HR:∀ e∈v.ents,e.2.1=false→∀ k∈x.kids,b3r l r g e.2.2 k):
  PC zP 91 [Vt v,Tt l r, .st [.int .i64 x.kind, .int .i64 x.lo, .int .i64 x.hi, .str x.text, .sl 1 (x.kids.map a0e), .sl 4 (x.fields.map a0i), .int .i64 x.r0, .int .i64 x.r1]] (Bo (b6R g x v)):=by
 obtain⟨a,ha⟩:∃ a:Nat,a=x.kids.length-1:=⟨_,rfl⟩
 have hwa:IntKind.i64.wrap ((x.kids.length:Int)-1)=(a:Int):=by rw[w64 (by omega)];omega
 have hae:(x.kids.length:Int)-1=(a:Int):=by omega
 have hy:x.kids[a]?= some (a4F x.kids):=by
  unfold a4F
  rw[← ha,List.getD_eq_getElem?_getD,List.getElem?_eq_getElem (by omega)];rfl
 have hy':=a0n a0e hy
 have hlm:=List.mem_of_getElem? hy
 unfold b6R
 rw[hae]
 refine PCB.ob Tryz.func91 Tryz.ntmps91 Tryz.results91 ?_
 cases hn:decide (v.num=(a:Int))
 ·
  repeat'(first|(simp only[go_sem,zA,zB,zC,zD,zE,zF,zG,reduceCtorEq,zH,zI,zJ,zK,zL,a0a v,lB,hwa,hn];all_goals refine nf ?_)|(refine stp ?_;intro K hK)|(apply hK;clear hK K)|refine stn ?_|(clear hK K))
  all_goals(first|exact lf|(refine a0m ?_;simp only[hn,zb,cond_true,cond_false,decide_true,decide_false]<;>rfl))
 repeat'(first|(simp only[go_sem,zA,zB,zC,zD,zE,zF,zG,reduceCtorEq,zH,zI,zJ,zK,zL,a0a v,lB,hwa,hn];all_goals refine nf ?_)|(refine stp ?_;intro K hK)|(apply hK;clear hK K)|refine stn ?_|fail)
 refine AWP.lenB 3 5 rfl rfl fun hlen0=>?_
 (try rw[lB] at hlen0)
 refine AWP.range (S:=Unit) (v.ents) a0l (fun k s=>(8,I .i64 (k:Nat))::[]) (fun k s=>[]) [3,4,5,7] [3,4,5] (fun i s=>v.ents.all (b4N g x.kids)=(v.ents.drop i).all (b4N g x.kids)) (()) (by simp only[go_sem,zA,zB,zC,zD,zE,zF,zG,reduceCtorEq,zH,zI,zJ,zK,zL,a0a v];exact Gh.tt []) ?_ ?_ ?_
 ·rfl
 ·intro i s e hlt hx hx' hb hok
  refine sts ?_
  rw[a37 hx] at hok
  have hem:=List.mem_of_getElem? hx
  have hM:=b3s l r g e.1 (x.kids.take a) fun p hp k hk=>H e hem p hp k (List.mem_of_mem_take hk)
  rw[← a3N] at hM
  have hR:=HR e hem
  have hE:b4N g x.kids e=(!a2K g e.1 (x.kids.take a)||(!e.2.1&&g e.2.2 (a4F x.kids))):=by rw[b4N,← ha]
  cases hz:a2K g e.1 (x.kids.take a)
  ·rw[hE,hz] at hok
   simp only[Bool.not_false,Bool.true_or,Bool.true_and] at hok
   repeat'(first|(simp only[go_sem,zA,zB,zC,zD,zE,zF,zG,reduceCtorEq,zH,zI,zJ,zK,zL,a0a v,a0H,lB,hb,hwa,hz];all_goals refine nf ?_)|(refine stp ?_;intro K hK)|(apply hK;clear hK K)|refine stn ?_|(with_reducible first|refine⟨by omega,a0l e,hx',?_⟩|refine⟨(by omega:_≤_),(by omega:_≤_),?_⟩|refine⟨_,hM,?_⟩)|(refine a0M ?_;intro K hK)|(clear hK K))
   all_goals(rw[a0d hlt hlen0])
   all_goals(refine⟨(),?_,Gh.tt []⟩)
   all_goals exact hok
  ·cases hf:e.2.1
   ·have hR2:=(hR hf _ hlm).e
    cases hg:g e.2.2 (a4F x.kids)
    all_goals(rw[hE,hz,hf,hg] at hok)
    all_goals(simp only[Bool.not_true,Bool.not_false,Bool.false_or,Bool.true_and,Bool.false_and] at hok)
    all_goals
     repeat'(first|(simp only[go_sem,zA,zB,zC,zD,zE,zF,zG,reduceCtorEq,zH,zI,zJ,zK,zL,a0a,a0H,lB,hb,hwa,hz,hf,hg];all_goals refine nf ?_)|(refine stp ?_;intro K hK)|(apply hK;clear hK K)|refine stn ?_|(with_reducible first|refine⟨by omega,a0l e,hx',?_⟩|refine⟨(by omega:_≤_),(by omega:_≤_),?_⟩|refine⟨by omega,a0e (a4F x.kids),hy',?_⟩|refine⟨_,hM,?_⟩|refine⟨_,hR2,?_⟩)|(refine a0M ?_;intro K hK)|(clear hK K))
    any_goals (first|exact fun _ h=>absurd h List.not_mem_nil|(refine a0m ?_;rw[hok];done))
    all_goals(rw[a0d hlt hlen0])
    all_goals(refine⟨(),?_,Gh.tt []⟩)
    all_goals exact hok
   ·rw[hE,hz,hf] at hok
    simp only[Bool.not_true,Bool.not_false,Bool.false_or,Bool.true_and,Bool.false_and] at hok
    repeat'(first|(simp only[go_sem,zA,zB,zC,zD,zE,zF,zG,reduceCtorEq,zH,zI,zJ,zK,zL,a0a v,a0H,lB,hb,hwa,hz,hf];all_goals refine nf ?_)|(refine stp ?_;intro K hK)|(apply hK;clear hK K)|refine stn ?_|(with_reducible first|refine⟨by omega,a0l e,hx',?_⟩|refine⟨(by omega:_≤_),(by omega:_≤_),?_⟩|refine⟨_,hM,?_⟩)|(refine a0M ?_;intro K hK)|(clear hK K))
    all_goals(first|exact fun _ h=>absurd h List.not_mem_nil|(refine a0m ?_;first|(rw[hok];done)|(rw[hok];rfl)))
 ·intro s1 hb1 hok1
  refine sts ?_
  rw[a5F] at hok1
  repeat'(first|(simp only[go_sem,zA,zB,zC,zD,zE,zF,zG,reduceCtorEq,zH,zI,zJ,zK,zL,a0a v,lB,hb1];all_goals refine nf ?_)|(refine stp ?_;intro K hK)|(apply hK;clear hK K)|refine stn ?_|(clear hK K))
  all_goals(first|exact fun _ h=>absurd h List.not_mem_nil|(refine a0m ?_;first|(rw[hok1];done)|(rw[hok1];rfl)))
theorem b6U (l:List NodeD) (r:Int) (g:Val→Int→Bool) (v:Val) (k:Nat) (x:NodeD) (hx:l[k]?= some x) (hk:x.kind=10) (hM0:PC zP 89 [.one (.dat (.sl 7 (v.kids.map a0g))), .st [.sl 8 (l.map a0c), .int .i64 r], .one (.dat (.sl 1 (x.kids.map a0e)))] (Bo (a2K g v.kids x.kids))):PC zP 52 [Vt v,Tt l r,I .i64 (k:Int)] (Bo (memN g x v)):=by
 have hx':=a0n a0c hx
 unfold memN
 simp only[hk,Int.reduceEq,decide_true,decide_false,cond_true,cond_false]
 refine PCB.ob Tryz.func52 Tryz.ntmps52 Tryz.results52 ?_
 cases hv:decide (v.kind=6)
 ·
  repeat'(first|(simp only[go_sem,zA,zB,zC,zD,zE,zF,zG,reduceCtorEq,zH,zI,zJ,zK,zL,a0a v,lB,a0b,hk,hv];all_goals refine nf ?_)|(refine stp ?_;intro K hK)|(apply hK;clear hK K)|refine stn ?_|(with_reducible refine⟨by omega,a0c x,hx',?_⟩)|(clear hK K))
  all_goals(first|exact fun _ h=>absurd h List.not_mem_nil|(refine a0m ?_;first|rfl|(simp only[hv]<;>rfl)))
 ·
  have hM:=(fun _:v.kind=6=>hM0) (of_decide_eq_true hv)
  repeat'(first|(simp only[go_sem,zA,zB,zC,zD,zE,zF,zG,reduceCtorEq,zH,zI,zJ,zK,zL,a0a v,lB,a0b,hk,hv];all_goals refine nf ?_)|(refine stp ?_;intro K hK)|(apply hK;clear hK K)|refine stn ?_|(with_reducible first|refine⟨by omega,a0c x,hx',?_⟩|refine⟨_,hM,?_⟩)|refine stq ?_|(clear hK K))
  all_goals(first|exact fun _ h=>absurd h List.not_mem_nil|(refine a0m ?_;first|rfl|(simp only[hv,Bool.true_and]<;>rfl)))
theorem b6V (l:List NodeD) (r:Int) (g:Val→Int→Bool) (v:Val) (k:Nat) (x:NodeD) (hx:l[k]?= some x) (hk:x.kind=12) (hM0:PC zP 89 [.one (.dat (.sl 7 (v.kids.map a0g))), .st [.sl 8 (l.map a0c), .int .i64 r], .one (.dat (.sl 1 (x.kids.map a0e)))] (Bo (a2K g v.kids x.kids))):PC zP 52 [Vt v,Tt l r,I .i64 (k:Int)] (Bo (memN g x v)):=by
 have hx':=a0n a0c hx
 unfold memN
 simp only[hk,Int.reduceEq,decide_true,decide_false,cond_true,cond_false]
 refine PCB.ob Tryz.func52 Tryz.ntmps52 Tryz.results52 ?_
 cases hv:decide (v.kind=7)
 ·
  repeat'(first|(simp only[go_sem,zA,zB,zC,zD,zE,zF,zG,reduceCtorEq,zH,zI,zJ,zK,zL,a0a v,lB,a0b,hk,hv];all_goals refine nf ?_)|(refine stp ?_;intro K hK)|(apply hK;clear hK K)|refine stn ?_|(with_reducible refine⟨by omega,a0c x,hx',?_⟩)|(clear hK K))
  all_goals(first|exact fun _ h=>absurd h List.not_mem_nil|(refine a0m ?_;first|rfl|(simp only[hv]<;>rfl)))
 ·
  have hM:=(fun _:v.kind=7=>hM0) (of_decide_eq_true hv)
  repeat'(first|(simp only[go_sem,zA,zB,zC,zD,zE,zF,zG,reduceCtorEq,zH,zI,zJ,zK,zL,a0a v,lB,a0b,hk,hv];all_goals refine nf ?_)|(refine stp ?_;intro K hK)|(apply hK;clear hK K)|refine stn ?_|(with_reducible first|refine⟨by omega,a0c x,hx',?_⟩|refine⟨_,hM,?_⟩)|refine stq ?_|(clear hK K))
  all_goals(first|exact fun _ h=>absurd h List.not_mem_nil|(refine a0m ?_;first|rfl|(simp only[hv,Bool.true_and]<;>rfl)))
theorem b6W (l:List NodeD) (r:Int) (g:Val→Int→Bool) (v:Val) (k:Nat) (x:NodeD) (hx:l[k]?= some x) (hk:x.kind=13) (hM0:v.kind=8→PC zP 90 [.st [.int .i64 v.kind, .int .i64 v.num, .str v.text, .sl 7 (v.kids.map a0g), .sl 2 (v.keys.map a0k), .sl 9 (v.ents.map a0l), .sl 1 (v.labels.map Sx.encStr)], .st [.sl 8 (l.map a0c), .int .i64 r], .st [.int .i64 x.kind, .int .i64 x.lo, .int .i64 x.hi, .str x.text, .sl 1 (x.kids.map a0e), .sl 4 (x.fields.map a0i), .int .i64 x.r0, .int .i64 x.r1]] (Bo (b2q g x v))):PC zP 52 [Vt v,Tt l r,I .i64 (k:Int)] (Bo (memN g x v)):=by
 have hx':=a0n a0c hx
 unfold memN
 simp only[hk,Int.reduceEq,decide_true,decide_false,cond_true,cond_false]
 refine PCB.ob Tryz.func52 Tryz.ntmps52 Tryz.results52 ?_
 rw[hk] at hM0
 cases hv:decide (v.kind=8)
 ·
  repeat'(first|(simp only[go_sem,zA,zB,zC,zD,zE,zF,zG,reduceCtorEq,zH,zI,zJ,zK,zL,a0a v,lB,a0b,hk,hv];all_goals refine nf ?_)|(refine stp ?_;intro K hK)|(apply hK;clear hK K)|refine stn ?_|(with_reducible refine⟨by omega,a0c x,hx',?_⟩)|(clear hK K))
  all_goals(first|exact fun _ h=>absurd h List.not_mem_nil|(refine a0m ?_;first|rfl|(simp only[hv]<;>rfl)))
 ·
  have hM:=hM0 (of_decide_eq_true hv)
  repeat'(first|(simp only[go_sem,zA,zB,zC,zD,zE,zF,zG,reduceCtorEq,zH,zI,zJ,zK,zL,a0a v,lB,a0b,hk,hv];all_goals refine nf ?_)|(refine stp ?_;intro K hK)|(apply hK;clear hK K)|refine stn ?_|(with_reducible first|refine⟨by omega,a0c x,hx',?_⟩|refine⟨_,hM,?_⟩)|refine stq ?_|(clear hK K))
  all_goals(first|exact fun _ h=>absurd h List.not_mem_nil|(refine a0m ?_;first|rfl|(simp only[hv,Bool.true_and]<;>rfl)))
theorem b6X (l:List NodeD) (r:Int) (g:Val→Int→Bool) (v:Val) (k:Nat) (x:NodeD) (hx:l[k]?= some x) (hk:x.kind=14) (hM0:v.kind=9→PC zP 91 [.st [.int .i64 v.kind, .int .i64 v.num, .str v.text, .sl 7 (v.kids.map a0g), .sl 2 (v.keys.map a0k), .sl 9 (v.ents.map a0l), .sl 1 (v.labels.map Sx.encStr)], .st [.sl 8 (l.map a0c), .int .i64 r], .st [.int .i64 x.kind, .int .i64 x.lo, .int .i64 x.hi, .str x.text, .sl 1 (x.kids.map a0e), .sl 4 (x.fields.map a0i), .int .i64 x.r0, .int .i64 x.r1]] (Bo (b6R g x v))):PC zP 52 [Vt v,Tt l r,I .i64 (k:Int)] (Bo (memN g x v)):=by
 have hx':=a0n a0c hx
 unfold memN
 simp only[hk,Int.reduceEq,decide_true,decide_false,cond_true,cond_false]
 refine PCB.ob Tryz.func52 Tryz.ntmps52 Tryz.results52 ?_
 rw[hk] at hM0
 cases hv:decide (v.kind=9)
 ·
  repeat'(first|(simp only[go_sem,zA,zB,zC,zD,zE,zF,zG,reduceCtorEq,zH,zI,zJ,zK,zL,a0a v,lB,a0b,hk,hv];all_goals refine nf ?_)|(refine stp ?_;intro K hK)|(apply hK;clear hK K)|refine stn ?_|(with_reducible refine⟨by omega,a0c x,hx',?_⟩)|(clear hK K))
  all_goals(first|exact fun _ h=>absurd h List.not_mem_nil|(refine a0m ?_;first|rfl|(simp only[hv]<;>rfl)))
 ·
  have hM:=hM0 (of_decide_eq_true hv)
  repeat'(first|(simp only[go_sem,zA,zB,zC,zD,zE,zF,zG,reduceCtorEq,zH,zI,zJ,zK,zL,a0a v,lB,a0b,hk,hv];all_goals refine nf ?_)|(refine stp ?_;intro K hK)|(apply hK;clear hK K)|refine stn ?_|(with_reducible first|refine⟨by omega,a0c x,hx',?_⟩|refine⟨_,hM,?_⟩)|refine stq ?_|(clear hK K))
  all_goals(first|exact fun _ h=>absurd h List.not_mem_nil|(refine a0m ?_;first|rfl|(simp only[hv,Bool.true_and]<;>rfl)))
end Go.Proofs.YthbcdhfiibpeaaaGreat

