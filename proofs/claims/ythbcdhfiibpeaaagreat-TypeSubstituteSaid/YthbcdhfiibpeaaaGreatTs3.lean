/- Lemmas of the proof. -/
import Derived.Test.YthbcdhfiibpeaaaGreatTs1
import Derived.Test.YthbcdhfiibpeaaaGreatTs2
open Go.Proofs.Tryz renaming prog→zP
open List renaming length_map→lB
open Nat renaming reduceBEq→zA,reduceBNe→zB,reduceAdd→zC,reduceSub→zD,reduceMul→zE,reduceLeDiff→zF,reduceLT→zG,reduceEqDiff→zH
open Int renaming reduceToNat→zI,reduceLE→zJ,reduceLT→zK,reduceEq→zL
open Bool renaming not_eq_true'→zM,not_eq_false'→zN
set_option linter.unusedSimpArgs false
set_option linter.unusedVariables false
set_option maxRecDepth 20000
set_option maxHeartbeats 64000000
namespace Go.Proofs.YthbcdhfiibpeaaaGreat
open Go Go.Sx
theorem b0P (l m n:List Int) (hl:∀ x∈l, -9223372036854775808≤x∧x≤9223372036854775807) (hm:∀ x∈m, -9223372036854775808≤x∧x≤9223372036854775807) (hn:∀ x∈n, -9223372036854775808≤x∧x≤9223372036854775807) (name:List UInt8):
  PC zP 7 [.one (.dat (.sl 1 (l.map a0e))), .one (.dat (.sl 1 (m.map a0e))), .one (.dat (.sl 1 (n.map a0e))),Go.Sx.S name] (Bo true):=by
 cases g1:decide ((80:Int)<(l.length:Int))
 case true=>
  refine PCB.ob Tryz.func7 Tryz.ntmps7 Tryz.results7 ?_
  repeat'(first|(simp only[go_sem,zA,zB,zC,zD,zE,zF,zG,reduceCtorEq,zH,zI,zJ,zK,zL,lB,g1];all_goals refine nf ?_)|(refine stp ?_;intro K hK)|(apply hK;clear hK K)|refine stn ?_|(with_reducible refine⟨_,a2n,?_⟩)|refine stq ?_|(clear hK K))
  all_goals(first|exact fun _ h=>absurd h List.not_mem_nil|(refine a0m ?_;rfl))
 cases g2:decide ((80:Int)<(m.length:Int))
 case true=>
  refine PCB.ob Tryz.func7 Tryz.ntmps7 Tryz.results7 ?_
  repeat'(first|(simp only[go_sem,zA,zB,zC,zD,zE,zF,zG,reduceCtorEq,zH,zI,zJ,zK,zL,lB,g1,g2];all_goals refine nf ?_)|(refine stp ?_;intro K hK)|(apply hK;clear hK K)|refine stn ?_|(with_reducible refine⟨_,a2n,?_⟩)|refine stq ?_|(clear hK K))
  all_goals(first|exact fun _ h=>absurd h List.not_mem_nil|(refine a0m ?_;rfl))
 cases g3:decide ((80:Int)<(n.length:Int))
 case true=>
  refine PCB.ob Tryz.func7 Tryz.ntmps7 Tryz.results7 ?_
  repeat'(first|(simp only[go_sem,zA,zB,zC,zD,zE,zF,zG,reduceCtorEq,zH,zI,zJ,zK,zL,lB,g1,g2,g3];all_goals refine nf ?_)|(refine stp ?_;intro K hK)|(apply hK;clear hK K)|refine stn ?_|(with_reducible refine⟨_,a2n,?_⟩)|refine stq ?_|(clear hK K))
  all_goals(first|exact fun _ h=>absurd h List.not_mem_nil|(refine a0m ?_;rfl))
 have sl:=b3L hl (of_decide_eq_false g1)
 have sm:=b3L hm (of_decide_eq_false g2)
 have sn:=b3L hn (of_decide_eq_false g3)
 have d1:=b41 l m sl sm
 have d2:=b41 n m sn sm
 have K:=c5v name (a9c l) (a9c n) (a7A l).2 (a7A n).2 (a9d l) (a9d n) (a8j l m) (a8j n m)
 have hvl:=c0c (a9c l) (a7A l).2
 have hvr:=b0N (a3o l) 0 (a9d l)
 obtain⟨v,hv⟩:∃ v,v=a4e l m:=⟨_,rfl⟩
 obtain⟨w,hw⟩:∃ w,w=a4e n m:=⟨_,rfl⟩
 rw[← hv] at d1 K
 rw[← hw] at d2 K
 obtain⟨S,hS⟩:∃ S,S=a3o l:=⟨_,rfl⟩
 obtain⟨T,hT⟩:∃ T,T=a3o n:=⟨_,rfl⟩
 rw[← hS] at d1 K hvl hvr
 rw[← hT] at d2 K
 clear hS hT hv hw
 generalize b0O (bsOf (T,0)) (S,0)=X at K
 generalize a1T 16 [(T,0)]=A at K
 generalize a1T 16 [a2z nmA]=B at K
 generalize b0O (bsOf (T,0)) (a2z name)=Cc at K
 generalize a1q w (T,0)=mu at K
 obtain⟨kx,ka,kb,kc,kwx,kma,kmu,kmb,kmc,kmx,kmt,ksame⟩:=K
 generalize a1q v X=mx at kmx ksame
 generalize a1q v (S,0)=mt at kmt ksame
 have hLA:=b6h w nmA
 have hLN:=b6h w name
 have hIV:=a0r name
 generalize (w.labels.any fun t=>decide (t=nmA))=la at hLA kmb
 generalize (w.labels.any fun t=>decide (t=name))=ln at hLN kmc
 generalize a0A name=iv at hIV kmc
 have vA:=a6i nmA
 have vB:=a6i nmB
 have vN:=a6i name
 have kx':PC zP 26 [.st [.sl 8 (S.map a0c), .int .i64 0], .one (.dat (.sl 3 [[.str [65], .sl 8 (T.map a0c), .int .i64 0],[.str [66], .sl 8 ((a2z nmA).1.map a0c), .int .i64 (a2z nmA).2],[.str [65], .sl 8 [a0c (a0G 1)], .int .i64 0]]))] (LT2 X):=kx
 have ka':PC zP 26 [LT2 (a2z nmA), .one (.dat (.sl 3 [[.str [65], .sl 8 (T.map a0c), .int .i64 0],[.str [66], .sl 8 ((a2z nmA).1.map a0c), .int .i64 (a2z nmA).2],[.str [65], .sl 8 [a0c (a0G 1)], .int .i64 0]]))] (LT2 A):=ka
 have kb':PC zP 26 [LT2 (a2z nmB), .one (.dat (.sl 3 [[.str [65], .sl 8 (T.map a0c), .int .i64 0],[.str [66], .sl 8 ((a2z nmA).1.map a0c), .int .i64 (a2z nmA).2],[.str [65], .sl 8 [a0c (a0G 1)], .int .i64 0]]))] (LT2 B):=kb
 have kc':PC zP 26 [LT2 (a2z name), .one (.dat (.sl 3 [[.str [65], .sl 8 (T.map a0c), .int .i64 0],[.str [66], .sl 8 ((a2z nmA).1.map a0c), .int .i64 (a2z nmA).2],[.str [65], .sl 8 [a0c (a0G 1)], .int .i64 0]]))] (LT2 Cc):=kc
 have vA':PC zP 24 [Go.Sx.S [65]] (LT2 (a2z nmA)):=vA
 have vB':PC zP 24 [Go.Sx.S [66]] (LT2 (a2z nmB)):=vB
 have vN':PC zP 24 [Go.Sx.S name] (LT2 (a2z name)):=vN
 have nn:PC zP 25 [] (.st [.sl 8 [a0c (a0G 1)], .int .i64 0]):=b5M
 have hLA':PC zP 27 [LV w,Go.Sx.S [65]] (Bo la):=hLA
 generalize a2z nmA=VA at kx' ka' kb' kc' vA'
 generalize a2z nmB=VB at kb' vB'
 generalize a2z name=VN at kc' vN'
 generalize a0c (a0G 1)=nd at kx' ka' kb' kc' nn
 clear kx ka kb kc vA vB vN hLA
 generalize hvs:varsT S 0=vs at hvl hvr ksame
 cases e1:decide (name=nmA)
 all_goals cases e2:decide (name=nmB)
 all_goals
  have e1':=e1
  have e2':=e2
  rw[show nmA=[65] from rfl] at e1'
  rw[show nmB=[66] from rfl] at e2'
  have ef:okS name=(!decide (name=nmA)&&!decide (name=nmB)):=rfl
  rw[e1,e2] at ef
  simp only[Bool.not_true,Bool.not_false,Bool.and_true,Bool.and_false,Bool.true_and,Bool.false_and] at ef
  rw[ef] at kmc
  clear e1 e2 ef
 ·have kmc':=kmc rfl
  refine PCB.ob Tryz.func7 Tryz.ntmps7 Tryz.results7 ?_
  repeat'(first|(simp only[go_sem,zA,zB,zC,zD,zE,zF,zG,reduceCtorEq,zH,zI,zJ,zK,zL,lB,g1,g2,g3,e1',e2',beq_self_eq_true,Bool.not_true,Bool.not_false,Bool.true_and,Bool.false_and];all_goals refine nf ?_)|(refine stp ?_;intro K hK)|(apply hK;clear hK K)|refine stn ?_|(refine⟨fun h=>?_,fun h=>?_⟩<;>(try simp only[zM,zN] at h)<;>try simp only[h])|(with_reducible first|refine⟨_,d1,?_⟩|refine⟨_,d2,?_⟩|refine⟨_,vA',?_⟩|refine⟨_,vB',?_⟩|refine⟨_,vN',?_⟩|refine⟨_,nn,?_⟩|refine⟨_,kx',?_⟩|refine⟨_,ka',?_⟩|refine⟨_,kb',?_⟩|refine⟨_,kc',?_⟩|refine⟨_,kwx,?_⟩|refine⟨_,kma,?_⟩|refine⟨_,kmu,?_⟩|refine⟨_,kmb,?_⟩|refine⟨_,kmc',?_⟩|refine⟨_,hLA',?_⟩|refine⟨_,hLN,?_⟩|refine⟨_,hIV,?_⟩|refine⟨_,hvr,?_⟩)|(refine a0M ?_;intro K hK)|refine stq ?_|fail)
  all_goals
   refine AWP.len 19 rfl fun hlen0=>?_
   (try rw[lB] at hlen0)
   refine AWP.range (S:=Bool) (vs) Sx.encStr (fun i s=>(21,I .i64 (i:Nat))::[(20,Bo s)]) (fun k s=>[]) [9,10,14,19] [9,10,14] (fun i s=>Is s ((vs.take i).all okS)) (true) (by refine sts ?_;exact Gh.tt []) ?_ ?_ ?_
   ·simp[Is]
   ·intro i s x hlt hx hx' hb hok
    refine sts ?_
    unfold Is at hok
    have hnext:=b34 (p:=okS) hx
    rw[← hok] at hnext
    have hox:okS x=(!decide (x=[65])&&!decide (x=[66])):=rfl
    rw[hox] at hnext
    cases s
    ·
     repeat'(first|(simp only[go_sem,zA,zB,zC,zD,zE,zF,zG,reduceCtorEq,zH,zI,zJ,zK,zL,lB,hb];all_goals refine nf ?_)|(refine stp ?_;intro K hK)|(apply hK;clear hK K)|refine stn ?_|(clear hK K))
     all_goals(rw[a0d hlt hlen0])
     all_goals(refine⟨false,?_,Gh.tt []⟩)
     all_goals(unfold Is;rw[hnext];rfl)
    ·cases c1:decide (x=[65])
     ·cases c2:decide (x=[66])
      ·
       repeat'(first|(simp only[go_sem,zA,zB,zC,zD,zE,zF,zG,reduceCtorEq,zH,zI,zJ,zK,zL,lB,hb,c1,c2,a0R,Bool.not_true,Bool.not_false];all_goals refine nf ?_)|(refine stp ?_;intro K hK)|(apply hK;clear hK K)|refine stn ?_|(with_reducible refine⟨(by omega:_≤_),Sx.encStr x,hx',?_⟩)|(clear hK K))
       all_goals(rw[a0d hlt hlen0])
       all_goals(refine⟨true,?_,Gh.tt []⟩)
       all_goals(unfold Is;rw[hnext,c1,c2];rfl)
      ·
       repeat'(first|(simp only[go_sem,zA,zB,zC,zD,zE,zF,zG,reduceCtorEq,zH,zI,zJ,zK,zL,lB,hb,c1,c2,a0R,Bool.not_true,Bool.not_false];all_goals refine nf ?_)|(refine stp ?_;intro K hK)|(apply hK;clear hK K)|refine stn ?_|(with_reducible refine⟨(by omega:_≤_),Sx.encStr x,hx',?_⟩)|(clear hK K))
       all_goals(rw[a0d hlt hlen0])
       all_goals(refine⟨false,?_,Gh.tt []⟩)
       all_goals(unfold Is;rw[hnext,c1,c2];rfl)
     ·
      repeat'(first|(simp only[go_sem,zA,zB,zC,zD,zE,zF,zG,reduceCtorEq,zH,zI,zJ,zK,zL,lB,hb,c1,a0R,Bool.not_true,Bool.not_false];all_goals refine nf ?_)|(refine stp ?_;intro K hK)|(apply hK;clear hK K)|refine stn ?_|(with_reducible refine⟨(by omega:_≤_),Sx.encStr x,hx',?_⟩)|(clear hK K))
      all_goals(rw[a0d hlt hlen0])
      all_goals(refine⟨false,?_,Gh.tt []⟩)
      all_goals(unfold Is;rw[hnext,c1];rfl)
   ·intro s hb hok
    refine sts ?_
    unfold Is at hok
    rw[List.take_length] at hok
    cases s
    ·
     repeat'(first|(simp only[go_sem,zA,zB,zC,zD,zE,zF,zG,reduceCtorEq,zH,zI,zJ,zK,zL,lB,hb,Bool.not_true,Bool.not_false];all_goals refine nf ?_)|(refine stp ?_;intro K hK)|(apply hK;clear hK K)|refine stn ?_|(with_reducible refine⟨_,a2n,?_⟩)|(refine a0M ?_;intro K hK)|(clear hK K))
     all_goals(first|exact fun _ h=>absurd h List.not_mem_nil|(refine a0m ?_;rfl))
    ·
     have hs:=ksame hok.symm
     rw[hs] at kmx
     repeat'(first|(simp only[go_sem,zA,zB,zC,zD,zE,zF,zG,reduceCtorEq,zH,zI,zJ,zK,zL,lB,hb,beq_self_eq_true,Bool.not_true,Bool.not_false];all_goals refine nf ?_)|(refine stp ?_;intro K hK)|(apply hK;clear hK K)|refine stn ?_|(with_reducible first|refine⟨_,kmx,?_⟩|refine⟨_,kmt,?_⟩|refine⟨_,a2n,?_⟩)|(refine a0M ?_;intro K hK)|(clear hK K))
     all_goals(first|exact fun _ h=>absurd h List.not_mem_nil|(refine a0m ?_;rfl))
 all_goals
  refine PCB.ob Tryz.func7 Tryz.ntmps7 Tryz.results7 ?_
  repeat'(first|(simp only[go_sem,zA,zB,zC,zD,zE,zF,zG,reduceCtorEq,zH,zI,zJ,zK,zL,lB,g1,g2,g3,e1',e2',beq_self_eq_true,Bool.not_true,Bool.not_false,Bool.true_and,Bool.false_and];all_goals refine nf ?_)|(refine stp ?_;intro K hK)|(apply hK;clear hK K)|refine stn ?_|(with_reducible first|refine⟨_,d1,?_⟩|refine⟨_,d2,?_⟩|refine⟨_,vA',?_⟩|refine⟨_,vB',?_⟩|refine⟨_,vN',?_⟩|refine⟨_,nn,?_⟩|refine⟨_,kx',?_⟩|refine⟨_,ka',?_⟩|refine⟨_,kb',?_⟩|refine⟨_,kc',?_⟩|refine⟨_,kwx,?_⟩|refine⟨_,kma,?_⟩|refine⟨_,kmu,?_⟩|refine⟨_,kmb,?_⟩|refine⟨_,hLA',?_⟩|refine⟨_,hvr,?_⟩)|(refine a0M ?_;intro K hK)|refine stq ?_|fail)
  all_goals
   refine AWP.len 19 rfl fun hlen0=>?_
   (try rw[lB] at hlen0)
   refine AWP.range (S:=Bool) (vs) Sx.encStr (fun i s=>(21,I .i64 (i:Nat))::[(20,Bo s)]) (fun k s=>[]) [9,10,14,19] [9,10,14] (fun i s=>Is s ((vs.take i).all okS)) (true) (by refine sts ?_;exact Gh.tt []) ?_ ?_ ?_
   ·simp[Is]
   ·intro i s x hlt hx hx' hb hok
    refine sts ?_
    unfold Is at hok
    have hnext:=b34 (p:=okS) hx
    rw[← hok] at hnext
    have hox:okS x=(!decide (x=[65])&&!decide (x=[66])):=rfl
    rw[hox] at hnext
    cases s
    ·
     repeat'(first|(simp only[go_sem,zA,zB,zC,zD,zE,zF,zG,reduceCtorEq,zH,zI,zJ,zK,zL,lB,hb];all_goals refine nf ?_)|(refine stp ?_;intro K hK)|(apply hK;clear hK K)|refine stn ?_|(clear hK K))
     all_goals(rw[a0d hlt hlen0])
     all_goals(refine⟨false,?_,Gh.tt []⟩)
     all_goals(unfold Is;rw[hnext];rfl)
    ·cases c1:decide (x=[65])
     ·cases c2:decide (x=[66])
      ·
       repeat'(first|(simp only[go_sem,zA,zB,zC,zD,zE,zF,zG,reduceCtorEq,zH,zI,zJ,zK,zL,lB,hb,c1,c2,a0R,Bool.not_true,Bool.not_false];all_goals refine nf ?_)|(refine stp ?_;intro K hK)|(apply hK;clear hK K)|refine stn ?_|(with_reducible refine⟨(by omega:_≤_),Sx.encStr x,hx',?_⟩)|(clear hK K))
       all_goals(rw[a0d hlt hlen0])
       all_goals(refine⟨true,?_,Gh.tt []⟩)
       all_goals(unfold Is;rw[hnext,c1,c2];rfl)
      ·
       repeat'(first|(simp only[go_sem,zA,zB,zC,zD,zE,zF,zG,reduceCtorEq,zH,zI,zJ,zK,zL,lB,hb,c1,c2,a0R,Bool.not_true,Bool.not_false];all_goals refine nf ?_)|(refine stp ?_;intro K hK)|(apply hK;clear hK K)|refine stn ?_|(with_reducible refine⟨(by omega:_≤_),Sx.encStr x,hx',?_⟩)|(clear hK K))
       all_goals(rw[a0d hlt hlen0])
       all_goals(refine⟨false,?_,Gh.tt []⟩)
       all_goals(unfold Is;rw[hnext,c1,c2];rfl)
     ·
      repeat'(first|(simp only[go_sem,zA,zB,zC,zD,zE,zF,zG,reduceCtorEq,zH,zI,zJ,zK,zL,lB,hb,c1,a0R,Bool.not_true,Bool.not_false];all_goals refine nf ?_)|(refine stp ?_;intro K hK)|(apply hK;clear hK K)|refine stn ?_|(with_reducible refine⟨(by omega:_≤_),Sx.encStr x,hx',?_⟩)|(clear hK K))
      all_goals(rw[a0d hlt hlen0])
      all_goals(refine⟨false,?_,Gh.tt []⟩)
      all_goals(unfold Is;rw[hnext,c1];rfl)
   ·intro s hb hok
    refine sts ?_
    unfold Is at hok
    rw[List.take_length] at hok
    cases s
    ·
     repeat'(first|(simp only[go_sem,zA,zB,zC,zD,zE,zF,zG,reduceCtorEq,zH,zI,zJ,zK,zL,lB,hb,Bool.not_true,Bool.not_false];all_goals refine nf ?_)|(refine stp ?_;intro K hK)|(apply hK;clear hK K)|refine stn ?_|(with_reducible refine⟨_,a2n,?_⟩)|(refine a0M ?_;intro K hK)|(clear hK K))
     all_goals(first|exact fun _ h=>absurd h List.not_mem_nil|(refine a0m ?_;rfl))
    ·
     have hs:=ksame hok.symm
     rw[hs] at kmx
     repeat'(first|(simp only[go_sem,zA,zB,zC,zD,zE,zF,zG,reduceCtorEq,zH,zI,zJ,zK,zL,lB,hb,beq_self_eq_true,Bool.not_true,Bool.not_false];all_goals refine nf ?_)|(refine stp ?_;intro K hK)|(apply hK;clear hK K)|refine stn ?_|(with_reducible first|refine⟨_,kmx,?_⟩|refine⟨_,kmt,?_⟩|refine⟨_,a2n,?_⟩)|(refine a0M ?_;intro K hK)|(clear hK K))
     all_goals(first|exact fun _ h=>absurd h List.not_mem_nil|(refine a0m ?_;rfl))
end Go.Proofs.YthbcdhfiibpeaaaGreat

