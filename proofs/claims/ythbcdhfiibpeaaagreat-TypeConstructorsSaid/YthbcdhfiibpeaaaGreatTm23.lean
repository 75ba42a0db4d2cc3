/- Lemmas of the proof. -/
import Derived.Test.YthbcdhfiibpeaaaGreatTm22
open List renaming length_map→lB
open Nat renaming reduceBEq→zA,reduceBNe→zB,reduceAdd→zC,reduceSub→zD,reduceMul→zE,reduceLeDiff→zF,reduceLT→zG,reduceEqDiff→zH
open Int renaming reduceToNat→zI,reduceLE→zJ,reduceLT→zK,reduceEq→zL
open Bool renaming not_eq_true'→zM,not_eq_false'→zN
set_option linter.unusedSimpArgs false
set_option linter.unusedVariables false
set_option maxRecDepth 20000
set_option maxHeartbeats 64000000
namespace Go.Proofs.YthbcdhfiibpeaaaGreat
open Go Go.Sx
theorem b2e (v:Val) (hk:v.kind=1∨v.kind=2∨v.kind=3):PC Tryz.prog 88 [.st (a0g v)] (Bo (a0P v)):=by
 rcases hk with hk|hk|hk
 iterate 3
  ·
   have hlab:a12 v.labels=goB Lib.compareBytes a0A none v.labels:=by rw[a38];rfl
   refine PCB.ob Tryz.func88 Tryz.ntmps88 Tryz.results88 ?_
   repeat'(first|(simp only[go_sem,zA,zB,zC,zD,zE,zF,zG,reduceCtorEq,zH,zI,zJ,zK,zL,a0a,hk];all_goals refine nf ?_)|(refine stp ?_;intro K hK)|(apply hK;clear hK K)|refine stn ?_|fail)
   refine AWP.lenB 1 6 rfl rfl fun hlen0=>?_
   (try rw[lB] at hlen0)
   refine AWP.range (S:=Unit) (v.labels) Sx.encStr (fun k s=>(3,I .i64 (k:Nat))::[]) (fun k s=>[]) [1] [1] (fun k s=>goB Lib.compareBytes a0A none v.labels=goB Lib.compareBytes a0A (a4z v.labels k) (v.labels.drop k)) (()) (by simp only[go_sem,zA,zB,zC,zD,zE,zF,zG,reduceCtorEq,zH,zI,zJ,zK,zL,a0a];exact Gh.tt []) ?_ ?_ ?_
   ·rfl
   ·intro k s x hlt hx hx' hb hok
    refine sts ?_
    rcases Nat.eq_zero_or_eq_succ_pred k with hk0|hk0
    ·rw[a4a hk0 hx] at hok
     have hp0:decide ((0:Int)<(k:Int))=false:=by rw[hk0];rfl
     cases hz:a0A x<;>simp only[hz,Bool.true_and,Bool.false_and] at hok
     ·
      repeat'(first|(simp only[go_sem,zA,zB,zC,zD,zE,zF,zG,reduceCtorEq,zH,zI,zJ,zK,zL,a0a,Sx.encStr,hk,lB,hb,hz,hp0];all_goals refine nf ?_)|(refine stp ?_;intro K hK)|(apply hK;clear hK K)|refine stn ?_|(with_reducible first|refine⟨_,a0r x,?_⟩|refine⟨by omega,Sx.encStr x,hx',?_⟩)|(refine a0M ?_;intro K hK)|(clear hK K))
      all_goals(first|exact lf|(refine a0m ?_;simp only[a0P,hlab,hok,zb,cond_true,cond_false,decide_true,decide_false]<;>rfl))
     ·
      repeat'(first|(simp only[go_sem,zA,zB,zC,zD,zE,zF,zG,reduceCtorEq,zH,zI,zJ,zK,zL,a0a,Sx.encStr,hk,lB,hb,hz,hp0];all_goals refine nf ?_)|(refine stp ?_;intro K hK)|(apply hK;clear hK K)|refine stn ?_|(with_reducible first|refine⟨_,a0r x,?_⟩|refine⟨by omega,Sx.encStr x,hx',?_⟩)|(refine a0M ?_;intro K hK)|(clear hK K))
      all_goals(rw[a0d hlt hlen0])
      all_goals(refine⟨(),?_,Gh.tt []⟩)
      all_goals exact hok
    ·obtain⟨j,rfl⟩:∃ j,k=j+1:=⟨_,hk0⟩
     obtain⟨y,hy,hy',_,_⟩:=a4M (enc:=Sx.encStr) (show j<v.labels.length by omega)
     rw[a4b hy hx] at hok
     have hw:IntKind.i64.wrap (((j+1:Nat):Int)-1)=(j:Int):=by rw[w64 (by omega)];omega
     have hp0:decide ((0:Int)<((j+1:Nat):Int))=true:=by simp only[decide_eq_true_eq];omega
     cases hz:a0A x<;>cases hc:decide (Lib.compareBytes y x<0)<;>simp only[hz,hc,Bool.true_and,Bool.false_and] at hok
     all_goals
      have hcg:decide (0≤Lib.compareBytes y x)=!decide (Lib.compareBytes y x<0):=by rw[← Bool.coe_iff_coe];simp
      rw[hc] at hcg
     all_goals(have hl:=a4Y y x;rw[hc] at hl)
     all_goals
      repeat'(first|(simp only[go_sem,zA,zB,zC,zD,zE,zF,zG,reduceCtorEq,zH,zI,zJ,zK,zL,a0a,Sx.encStr,hk,lB,hb,hz,hp0,hw,hcg,hl];all_goals refine nf ?_)|(refine stp ?_;intro K hK)|(apply hK;clear hK K)|refine stn ?_|(with_reducible first|refine⟨_,a0r x,?_⟩|refine⟨by omega,Sx.encStr x,hx',?_⟩|refine⟨by omega,Sx.encStr y,hy',?_⟩)|(refine a0M ?_;intro K hK)|(clear hK K))
     any_goals (first|exact fun _ h=>absurd h List.not_mem_nil|(refine a0m ?_;first|(simp only[a0P,hlab,hok,Bool.and_true,Bool.and_false,Bool.true_and,Bool.false_and,Bool.or_true,Bool.or_false,Bool.true_or,Bool.false_or,Bool.not_true,Bool.not_false,cond_true,cond_false,decide_true,decide_false];done)|(simp only[a0P,hlab,hok,Bool.and_true,Bool.and_false,Bool.true_and,Bool.false_and,Bool.or_true,Bool.or_false,Bool.true_or,Bool.false_or,Bool.not_true,Bool.not_false,cond_true,cond_false,decide_true,decide_false];rfl)))
     all_goals(rw[a0d hlt hlen0])
     all_goals(refine⟨(),?_,Gh.tt []⟩)
     all_goals exact hok
   intro s0 hb0 hok0
   refine sts ?_
   rw[a5G] at hok0
   rw[hok0] at hlab
   repeat'(first|(simp only[go_sem,zA,zB,zC,zD,zE,zF,zG,reduceCtorEq,zH,zI,zJ,zK,zL,a0a,hk,hb0,lB];all_goals refine nf ?_)|(refine stp ?_;intro K hK)|(apply hK;clear hK K)|refine stn ?_|(refine AWP.cnd ?_ ?_<;>intro h<;>(try simp only[zM,zN] at h))|(refine⟨fun h=>?_,fun h=>?_⟩<;>(try simp only[zM,zN] at h)<;>try simp only[h])|(with_reducible refine⟨_,b13 _,?_⟩)|refine stq ?_|(clear hK K))
   all_goals(first|exact lf|(refine a0m ?_;simp only[a0P,a0O,a3t,b0C,a3X,a3Y,a3Z,a30,a1K,hk,Int.reduceEq,Int.reduceLE,hlab, *, zb,cond_true,cond_false,decide_true,decide_false]<;>rfl))
theorem c6C (v:Val) (hk:v.kind=1):PC Tryz.prog 88 [.st (a0g v)] (Bo (a0P v)):=b2e v (.inl hk)
theorem c6D (v:Val) (hk:v.kind=2):PC Tryz.prog 88 [.st (a0g v)] (Bo (a0P v)):=b2e v (.inr (.inl hk))
theorem c6E (v:Val) (hk:v.kind=3):PC Tryz.prog 88 [.st (a0g v)] (Bo (a0P v)):=b2e v (.inr (.inr hk))
end Go.Proofs.YthbcdhfiibpeaaaGreat

