/- Lemmas of the proof. -/
import Derived.Test.YthbcdhfiibpeaaaGreatTm16
open Go.Proofs.Tryz renaming prog→zP
open List renaming length_map→lB,take_length→lK,mem_of_getElem?→ lP
open Go.Sx.AWP renaming range→xC,lenB→xE
open Nat renaming reduceBEq→zA,reduceBNe→zB,reduceAdd→zC,reduceSub→zD,reduceMul→zE,reduceLeDiff→zF,reduceLT→zG,reduceEqDiff→zH
open Int renaming reduceToNat→zI,reduceLE→zJ,reduceLT→zK,reduceEq→zL
open Bool renaming not_eq_true'→zM,not_eq_false'→zN
set_option linter.unusedSimpArgs false
set_option linter.unusedVariables false
set_option maxRecDepth 20000
set_option maxHeartbeats 64000000
namespace Go.Proofs.YthbcdhfiibpeaaaGreat
open Go Go.Sx
theorem c3M (l:List NodeD) (r:Int) (x:NodeD) (hk:x.kind=3):PC zP 49 [Tt l r,Nt x] (Bo (a0D l x)):=by
 refine PCB.ob Tryz.func49 Tryz.ntmps49 Tryz.results49 ?_
 repeat'(first|(simp only[go_sem,zA,zB,zC,zD,zE,zF,zG,reduceCtorEq,zH,zI,zJ,zK,zL,lB,hk,a0b];all_goals refine nf ?_)|(refine stp ?_;intro K hK)|(apply hK;clear hK K)|refine stn ?_|fail)
 refine xE 3 4 rfl rfl fun hlen0=>?_
 (try rw[lB] at hlen0)
 refine xC (S:=Unit) (x.kids) a0e (fun k s=>(5,I .i64 (k:Nat))::[]) (fun k s=>[]) [2,3] [2,3] (fun k s=>(x.kids.take k).all (inB l)=true) (()) (by refine sts ?_;exact Gh.tt []) ?_ ?_ ?_
 ·simp
 ·intro k s y hlt hy hy' hbb hok
  refine sts ?_
  have hat:=a0K (p:=inB l) hy
  rw[hok,Bool.true_and] at hat
  cases hi:inB l y
  ·
   repeat'(first|(simp only[go_sem,zA,zB,zC,zD,zE,zF,zG,reduceCtorEq,zH,zI,zJ,zK,zL,lB,hk,hbb,hi,a0e];all_goals refine nf ?_)|(refine stp ?_;intro K hK)|(apply hK;clear hK K)|refine stn ?_|(with_reducible first|refine⟨by omega,a0e y,hy',?_⟩|refine⟨_,a0y l r y,?_⟩)|(refine a0M ?_;intro K hK)|(clear hK K))
   all_goals(refine a0m ?_;rw[a0D,a1z (lP hy) hi];rfl)
  ·
   repeat'(first|(simp only[go_sem,zA,zB,zC,zD,zE,zF,zG,reduceCtorEq,zH,zI,zJ,zK,zL,lB,hk,hbb,hi,a0e];all_goals refine nf ?_)|(refine stp ?_;intro K hK)|(apply hK;clear hK K)|refine stn ?_|(with_reducible first|refine⟨by omega,a0e y,hy',?_⟩|refine⟨_,a0y l r y,?_⟩)|(refine a0M ?_;intro K hK)|(clear hK K))
   all_goals(rw[a0d hlt hlen0])
   all_goals(refine⟨(),?_,Gh.tt []⟩)
   all_goals(rw[hat,hi])
 ·intro s hbb hok
  refine sts ?_
  rw[lK] at hok
  have e:a0D l x=bif a1m x then false else bif a1v x then false else a1n l x:=by unfold a0D;rw[hok];rfl
  repeat'(first|(simp only[go_sem,zA,zB,zC,zD,zE,zF,zG,reduceCtorEq,zH,zI,zJ,zK,zL,lB,hk,hbb];all_goals refine nf ?_)|(refine stp ?_;intro K hK)|(apply hK;clear hK K)|refine stn ?_|(refine AWP.cnd ?_ ?_<;>intro h<;>(try simp only[zM,zN] at h))|(refine⟨fun h=>?_,fun h=>?_⟩<;>(try simp only[zM,zN] at h)<;>try simp only[h])|(clear hK K))
  all_goals(refine a0m ?_;rw[e];simp only[a1m,a1v,a1n, *, Int.reduceEq,decide_false,decide_true,Bool.not_true,Bool.not_false,Bool.or_true,Bool.true_or,Bool.or_false,Bool.false_or,Bool.and_true,Bool.true_and,Bool.and_false,Bool.false_and,cond_true,cond_false]<;>rfl)
theorem c3N (l:List NodeD) (r:Int) (x:NodeD) (hk:x.kind=4):PC zP 49 [Tt l r,Nt x] (Bo (a0D l x)):=by
 refine PCB.ob Tryz.func49 Tryz.ntmps49 Tryz.results49 ?_
 repeat'(first|(simp only[go_sem,zA,zB,zC,zD,zE,zF,zG,reduceCtorEq,zH,zI,zJ,zK,zL,lB,hk,a0b];all_goals refine nf ?_)|(refine stp ?_;intro K hK)|(apply hK;clear hK K)|refine stn ?_|fail)
 refine xE 3 4 rfl rfl fun hlen0=>?_
 (try rw[lB] at hlen0)
 refine xC (S:=Unit) (x.kids) a0e (fun k s=>(5,I .i64 (k:Nat))::[]) (fun k s=>[]) [2,3] [2,3] (fun k s=>(x.kids.take k).all (inB l)=true) (()) (by refine sts ?_;exact Gh.tt []) ?_ ?_ ?_
 ·simp
 ·intro k s y hlt hy hy' hbb hok
  refine sts ?_
  have hat:=a0K (p:=inB l) hy
  rw[hok,Bool.true_and] at hat
  cases hi:inB l y
  ·
   repeat'(first|(simp only[go_sem,zA,zB,zC,zD,zE,zF,zG,reduceCtorEq,zH,zI,zJ,zK,zL,lB,hk,hbb,hi,a0e];all_goals refine nf ?_)|(refine stp ?_;intro K hK)|(apply hK;clear hK K)|refine stn ?_|(with_reducible first|refine⟨by omega,a0e y,hy',?_⟩|refine⟨_,a0y l r y,?_⟩)|(refine a0M ?_;intro K hK)|(clear hK K))
   all_goals(refine a0m ?_;rw[a0D,a1z (lP hy) hi];rfl)
  ·
   repeat'(first|(simp only[go_sem,zA,zB,zC,zD,zE,zF,zG,reduceCtorEq,zH,zI,zJ,zK,zL,lB,hk,hbb,hi,a0e];all_goals refine nf ?_)|(refine stp ?_;intro K hK)|(apply hK;clear hK K)|refine stn ?_|(with_reducible first|refine⟨by omega,a0e y,hy',?_⟩|refine⟨_,a0y l r y,?_⟩)|(refine a0M ?_;intro K hK)|(clear hK K))
   all_goals(rw[a0d hlt hlen0])
   all_goals(refine⟨(),?_,Gh.tt []⟩)
   all_goals(rw[hat,hi])
 ·intro s hbb hok
  refine sts ?_
  rw[lK] at hok
  have e:a0D l x=bif a1m x then false else bif a1v x then false else a1n l x:=by unfold a0D;rw[hok];rfl
  repeat'(first|(simp only[go_sem,zA,zB,zC,zD,zE,zF,zG,reduceCtorEq,zH,zI,zJ,zK,zL,lB,hk,hbb];all_goals refine nf ?_)|(refine stp ?_;intro K hK)|(apply hK;clear hK K)|refine stn ?_|(refine AWP.cnd ?_ ?_<;>intro h<;>(try simp only[zM,zN] at h))|(refine⟨fun h=>?_,fun h=>?_⟩<;>(try simp only[zM,zN] at h)<;>try simp only[h])|(clear hK K))
  all_goals(refine a0m ?_;rw[e];simp only[a1m,a1v,a1n, *, Int.reduceEq,decide_false,decide_true,Bool.not_true,Bool.not_false,Bool.or_true,Bool.true_or,Bool.or_false,Bool.false_or,Bool.and_true,Bool.true_and,Bool.and_false,Bool.false_and,cond_true,cond_false]<;>rfl)
theorem c3O (l:List NodeD) (r:Int) (x:NodeD) (hk:x.kind=6):PC zP 49 [Tt l r,Nt x] (Bo (a0D l x)):=by
 refine PCB.ob Tryz.func49 Tryz.ntmps49 Tryz.results49 ?_
 repeat'(first|(simp only[go_sem,zA,zB,zC,zD,zE,zF,zG,reduceCtorEq,zH,zI,zJ,zK,zL,lB,hk,a0b];all_goals refine nf ?_)|(refine stp ?_;intro K hK)|(apply hK;clear hK K)|refine stn ?_|fail)
 refine xE 3 4 rfl rfl fun hlen0=>?_
 (try rw[lB] at hlen0)
 refine xC (S:=Unit) (x.kids) a0e (fun k s=>(5,I .i64 (k:Nat))::[]) (fun k s=>[]) [2,3] [2,3] (fun k s=>(x.kids.take k).all (inB l)=true) (()) (by refine sts ?_;exact Gh.tt []) ?_ ?_ ?_
 ·simp
 ·intro k s y hlt hy hy' hbb hok
  refine sts ?_
  have hat:=a0K (p:=inB l) hy
  rw[hok,Bool.true_and] at hat
  cases hi:inB l y
  ·
   repeat'(first|(simp only[go_sem,zA,zB,zC,zD,zE,zF,zG,reduceCtorEq,zH,zI,zJ,zK,zL,lB,hk,hbb,hi,a0e];all_goals refine nf ?_)|(refine stp ?_;intro K hK)|(apply hK;clear hK K)|refine stn ?_|(with_reducible first|refine⟨by omega,a0e y,hy',?_⟩|refine⟨_,a0y l r y,?_⟩)|(refine a0M ?_;intro K hK)|(clear hK K))
   all_goals(refine a0m ?_;rw[a0D,a1z (lP hy) hi];rfl)
  ·
   repeat'(first|(simp only[go_sem,zA,zB,zC,zD,zE,zF,zG,reduceCtorEq,zH,zI,zJ,zK,zL,lB,hk,hbb,hi,a0e];all_goals refine nf ?_)|(refine stp ?_;intro K hK)|(apply hK;clear hK K)|refine stn ?_|(with_reducible first|refine⟨by omega,a0e y,hy',?_⟩|refine⟨_,a0y l r y,?_⟩)|(refine a0M ?_;intro K hK)|(clear hK K))
   all_goals(rw[a0d hlt hlen0])
   all_goals(refine⟨(),?_,Gh.tt []⟩)
   all_goals(rw[hat,hi])
 ·intro s hbb hok
  refine sts ?_
  rw[lK] at hok
  have e:a0D l x=bif a1m x then false else bif a1v x then false else a1n l x:=by unfold a0D;rw[hok];rfl
  repeat'(first|(simp only[go_sem,zA,zB,zC,zD,zE,zF,zG,reduceCtorEq,zH,zI,zJ,zK,zL,lB,hk,hbb];all_goals refine nf ?_)|(refine stp ?_;intro K hK)|(apply hK;clear hK K)|refine stn ?_|(refine AWP.cnd ?_ ?_<;>intro h<;>(try simp only[zM,zN] at h))|(refine⟨fun h=>?_,fun h=>?_⟩<;>(try simp only[zM,zN] at h)<;>try simp only[h])|(with_reducible refine⟨_,b13 x.text,?_⟩)|refine stq ?_|(clear hK K))
  all_goals(refine a0m ?_;rw[e];simp only[a1m,a1v,a1n, *, Int.reduceEq,decide_false,decide_true,Bool.not_true,Bool.not_false,Bool.or_true,Bool.true_or,Bool.or_false,Bool.false_or,Bool.and_true,Bool.true_and,Bool.and_false,Bool.false_and,cond_true,cond_false]<;>rfl)
theorem c0S (l:List NodeD) (r:Int) (x:NodeD) (hk:x.kind=19):PC zP 49 [Tt l r,Nt x] (Bo (a0D l x)):=by
 refine PCB.ob Tryz.func49 Tryz.ntmps49 Tryz.results49 ?_
 repeat'(first|(simp only[go_sem,zA,zB,zC,zD,zE,zF,zG,reduceCtorEq,zH,zI,zJ,zK,zL,lB,hk,a0b];all_goals refine nf ?_)|(refine stp ?_;intro K hK)|(apply hK;clear hK K)|refine stn ?_|fail)
 refine xE 3 4 rfl rfl fun hlen0=>?_
 (try rw[lB] at hlen0)
 refine xC (S:=Unit) (x.kids) a0e (fun k s=>(5,I .i64 (k:Nat))::[]) (fun k s=>[]) [2,3] [2,3] (fun k s=>(x.kids.take k).all (inB l)=true) (()) (by refine sts ?_;exact Gh.tt []) ?_ ?_ ?_
 ·simp
 ·intro k s y hlt hy hy' hbb hok
  refine sts ?_
  have hat:=a0K (p:=inB l) hy
  rw[hok,Bool.true_and] at hat
  cases hi:inB l y
  ·
   repeat'(first|(simp only[go_sem,zA,zB,zC,zD,zE,zF,zG,reduceCtorEq,zH,zI,zJ,zK,zL,lB,hk,hbb,hi,a0e];all_goals refine nf ?_)|(refine stp ?_;intro K hK)|(apply hK;clear hK K)|refine stn ?_|(with_reducible first|refine⟨by omega,a0e y,hy',?_⟩|refine⟨_,a0y l r y,?_⟩)|(refine a0M ?_;intro K hK)|(clear hK K))
   all_goals(refine a0m ?_;rw[a0D,a1z (lP hy) hi];rfl)
  ·
   repeat'(first|(simp only[go_sem,zA,zB,zC,zD,zE,zF,zG,reduceCtorEq,zH,zI,zJ,zK,zL,lB,hk,hbb,hi,a0e];all_goals refine nf ?_)|(refine stp ?_;intro K hK)|(apply hK;clear hK K)|refine stn ?_|(with_reducible first|refine⟨by omega,a0e y,hy',?_⟩|refine⟨_,a0y l r y,?_⟩)|(refine a0M ?_;intro K hK)|(clear hK K))
   all_goals(rw[a0d hlt hlen0])
   all_goals(refine⟨(),?_,Gh.tt []⟩)
   all_goals(rw[hat,hi])
 ·intro s hbb hok
  refine sts ?_
  rw[lK] at hok
  have e:a0D l x=bif a1m x then false else bif a1v x then false else a1n l x:=by unfold a0D;rw[hok];rfl
  repeat'(first|(simp only[go_sem,zA,zB,zC,zD,zE,zF,zG,reduceCtorEq,zH,zI,zJ,zK,zL,lB,hk,hbb];all_goals refine nf ?_)|(refine stp ?_;intro K hK)|(apply hK;clear hK K)|refine stn ?_|(refine AWP.cnd ?_ ?_<;>intro h<;>(try simp only[zM,zN] at h))|(refine⟨fun h=>?_,fun h=>?_⟩<;>(try simp only[zM,zN] at h)<;>try simp only[h])|(with_reducible refine⟨_,a0r x.text,?_⟩)|refine stq ?_|(clear hK K))
  all_goals(refine a0m ?_;rw[e];simp only[a1m,a1v,a1n, *, Int.reduceEq,decide_false,decide_true,Bool.not_true,Bool.not_false,Bool.or_true,Bool.true_or,Bool.or_false,Bool.false_or,Bool.and_true,Bool.true_and,Bool.and_false,Bool.false_and,cond_true,cond_false]<;>rfl)
theorem c0T (l:List NodeD) (r:Int) (x:NodeD) (hk:x.kind=10):PC zP 49 [Tt l r,Nt x] (Bo (a0D l x)):=by
 refine PCB.ob Tryz.func49 Tryz.ntmps49 Tryz.results49 ?_
 repeat'(first|(simp only[go_sem,zA,zB,zC,zD,zE,zF,zG,reduceCtorEq,zH,zI,zJ,zK,zL,lB,hk,a0b];all_goals refine nf ?_)|(refine stp ?_;intro K hK)|(apply hK;clear hK K)|refine stn ?_|fail)
 refine xE 3 4 rfl rfl fun hlen0=>?_
 (try rw[lB] at hlen0)
 refine xC (S:=Unit) (x.kids) a0e (fun k s=>(5,I .i64 (k:Nat))::[]) (fun k s=>[]) [2,3] [2,3] (fun k s=>(x.kids.take k).all (inB l)=true) (()) (by refine sts ?_;exact Gh.tt []) ?_ ?_ ?_
 ·simp
 ·intro k s y hlt hy hy' hbb hok
  refine sts ?_
  have hat:=a0K (p:=inB l) hy
  rw[hok,Bool.true_and] at hat
  cases hi:inB l y
  ·
   repeat'(first|(simp only[go_sem,zA,zB,zC,zD,zE,zF,zG,reduceCtorEq,zH,zI,zJ,zK,zL,lB,hk,hbb,hi,a0e];all_goals refine nf ?_)|(refine stp ?_;intro K hK)|(apply hK;clear hK K)|refine stn ?_|(with_reducible first|refine⟨by omega,a0e y,hy',?_⟩|refine⟨_,a0y l r y,?_⟩)|(refine a0M ?_;intro K hK)|(clear hK K))
   all_goals(refine a0m ?_;rw[a0D,a1z (lP hy) hi];rfl)
  ·
   repeat'(first|(simp only[go_sem,zA,zB,zC,zD,zE,zF,zG,reduceCtorEq,zH,zI,zJ,zK,zL,lB,hk,hbb,hi,a0e];all_goals refine nf ?_)|(refine stp ?_;intro K hK)|(apply hK;clear hK K)|refine stn ?_|(with_reducible first|refine⟨by omega,a0e y,hy',?_⟩|refine⟨_,a0y l r y,?_⟩)|(refine a0M ?_;intro K hK)|(clear hK K))
   all_goals(rw[a0d hlt hlen0])
   all_goals(refine⟨(),?_,Gh.tt []⟩)
   all_goals(rw[hat,hi])
 ·intro s hbb hok
  refine sts ?_
  rw[lK] at hok
  have e:a0D l x=bif a1m x then false else bif a1v x then false else a1n l x:=by unfold a0D;rw[hok];rfl
  repeat'(first|(simp only[go_sem,zA,zB,zC,zD,zE,zF,zG,reduceCtorEq,zH,zI,zJ,zK,zL,lB,hk,hbb];all_goals refine nf ?_)|(refine stp ?_;intro K hK)|(apply hK;clear hK K)|refine stn ?_|(refine AWP.cnd ?_ ?_<;>intro h<;>(try simp only[zM,zN] at h))|(refine⟨fun h=>?_,fun h=>?_⟩<;>(try simp only[zM,zN] at h)<;>try simp only[h])|(clear hK K))
  all_goals(refine a0m ?_;rw[e];simp only[a1m,a1v,a1n, *, Int.reduceEq,decide_false,decide_true,Bool.not_true,Bool.not_false,Bool.or_true,Bool.true_or,Bool.or_false,Bool.false_or,Bool.and_true,Bool.true_and,Bool.and_false,Bool.false_and,cond_true,cond_false]<;>rfl)
theorem c0U (l:List NodeD) (r:Int) (x:NodeD) (hk:x.kind=12):PC zP 49 [Tt l r,Nt x] (Bo (a0D l x)):=by
 refine PCB.ob Tryz.func49 Tryz.ntmps49 Tryz.results49 ?_
 repeat'(first|(simp only[go_sem,zA,zB,zC,zD,zE,zF,zG,reduceCtorEq,zH,zI,zJ,zK,zL,lB,hk,a0b];all_goals refine nf ?_)|(refine stp ?_;intro K hK)|(apply hK;clear hK K)|refine stn ?_|fail)
 refine xE 3 4 rfl rfl fun hlen0=>?_
 (try rw[lB] at hlen0)
 refine xC (S:=Unit) (x.kids) a0e (fun k s=>(5,I .i64 (k:Nat))::[]) (fun k s=>[]) [2,3] [2,3] (fun k s=>(x.kids.take k).all (inB l)=true) (()) (by refine sts ?_;exact Gh.tt []) ?_ ?_ ?_
 ·simp
 ·intro k s y hlt hy hy' hbb hok
  refine sts ?_
  have hat:=a0K (p:=inB l) hy
  rw[hok,Bool.true_and] at hat
  cases hi:inB l y
  ·
   repeat'(first|(simp only[go_sem,zA,zB,zC,zD,zE,zF,zG,reduceCtorEq,zH,zI,zJ,zK,zL,lB,hk,hbb,hi,a0e];all_goals refine nf ?_)|(refine stp ?_;intro K hK)|(apply hK;clear hK K)|refine stn ?_|(with_reducible first|refine⟨by omega,a0e y,hy',?_⟩|refine⟨_,a0y l r y,?_⟩)|(refine a0M ?_;intro K hK)|(clear hK K))
   all_goals(refine a0m ?_;rw[a0D,a1z (lP hy) hi];rfl)
  ·
   repeat'(first|(simp only[go_sem,zA,zB,zC,zD,zE,zF,zG,reduceCtorEq,zH,zI,zJ,zK,zL,lB,hk,hbb,hi,a0e];all_goals refine nf ?_)|(refine stp ?_;intro K hK)|(apply hK;clear hK K)|refine stn ?_|(with_reducible first|refine⟨by omega,a0e y,hy',?_⟩|refine⟨_,a0y l r y,?_⟩)|(refine a0M ?_;intro K hK)|(clear hK K))
   all_goals(rw[a0d hlt hlen0])
   all_goals(refine⟨(),?_,Gh.tt []⟩)
   all_goals(rw[hat,hi])
 ·intro s hbb hok
  refine sts ?_
  rw[lK] at hok
  have e:a0D l x=bif a1m x then false else bif a1v x then false else a1n l x:=by unfold a0D;rw[hok];rfl
  repeat'(first|(simp only[go_sem,zA,zB,zC,zD,zE,zF,zG,reduceCtorEq,zH,zI,zJ,zK,zL,lB,hk,hbb];all_goals refine nf ?_)|(refine stp ?_;intro K hK)|(apply hK;clear hK K)|refine stn ?_|(refine AWP.cnd ?_ ?_<;>intro h<;>(try simp only[zM,zN] at h))|(refine⟨fun h=>?_,fun h=>?_⟩<;>(try simp only[zM,zN] at h)<;>try simp only[h])|(clear hK K))
  all_goals(refine a0m ?_;rw[e];simp only[a1m,a1v,a1n, *, Int.reduceEq,decide_false,decide_true,Bool.not_true,Bool.not_false,Bool.or_true,Bool.true_or,Bool.or_false,Bool.false_or,Bool.and_true,Bool.true_and,Bool.and_false,Bool.false_and,cond_true,cond_false]<;>rfl)
theorem c0V (l:List NodeD) (r:Int) (x:NodeD) (hk:x.kind=14):PC zP 49 [Tt l r,Nt x] (Bo (a0D l x)):=by
 refine PCB.ob Tryz.func49 Tryz.ntmps49 Tryz.results49 ?_
 repeat'(first|(simp only[go_sem,zA,zB,zC,zD,zE,zF,zG,reduceCtorEq,zH,zI,zJ,zK,zL,lB,hk,a0b];all_goals refine nf ?_)|(refine stp ?_;intro K hK)|(apply hK;clear hK K)|refine stn ?_|fail)
 refine xE 3 4 rfl rfl fun hlen0=>?_
 (try rw[lB] at hlen0)
 refine xC (S:=Unit) (x.kids) a0e (fun k s=>(5,I .i64 (k:Nat))::[]) (fun k s=>[]) [2,3] [2,3] (fun k s=>(x.kids.take k).all (inB l)=true) (()) (by refine sts ?_;exact Gh.tt []) ?_ ?_ ?_
 ·simp
 ·intro k s y hlt hy hy' hbb hok
  refine sts ?_
  have hat:=a0K (p:=inB l) hy
  rw[hok,Bool.true_and] at hat
  cases hi:inB l y
  ·
   repeat'(first|(simp only[go_sem,zA,zB,zC,zD,zE,zF,zG,reduceCtorEq,zH,zI,zJ,zK,zL,lB,hk,hbb,hi,a0e];all_goals refine nf ?_)|(refine stp ?_;intro K hK)|(apply hK;clear hK K)|refine stn ?_|(with_reducible first|refine⟨by omega,a0e y,hy',?_⟩|refine⟨_,a0y l r y,?_⟩)|(refine a0M ?_;intro K hK)|(clear hK K))
   all_goals(refine a0m ?_;rw[a0D,a1z (lP hy) hi];rfl)
  ·
   repeat'(first|(simp only[go_sem,zA,zB,zC,zD,zE,zF,zG,reduceCtorEq,zH,zI,zJ,zK,zL,lB,hk,hbb,hi,a0e];all_goals refine nf ?_)|(refine stp ?_;intro K hK)|(apply hK;clear hK K)|refine stn ?_|(with_reducible first|refine⟨by omega,a0e y,hy',?_⟩|refine⟨_,a0y l r y,?_⟩)|(refine a0M ?_;intro K hK)|(clear hK K))
   all_goals(rw[a0d hlt hlen0])
   all_goals(refine⟨(),?_,Gh.tt []⟩)
   all_goals(rw[hat,hi])
 ·intro s hbb hok
  refine sts ?_
  rw[lK] at hok
  have e:a0D l x=bif a1m x then false else bif a1v x then false else a1n l x:=by unfold a0D;rw[hok];rfl
  repeat'(first|(simp only[go_sem,zA,zB,zC,zD,zE,zF,zG,reduceCtorEq,zH,zI,zJ,zK,zL,lB,hk,hbb];all_goals refine nf ?_)|(refine stp ?_;intro K hK)|(apply hK;clear hK K)|refine stn ?_|(refine AWP.cnd ?_ ?_<;>intro h<;>(try simp only[zM,zN] at h))|(refine⟨fun h=>?_,fun h=>?_⟩<;>(try simp only[zM,zN] at h)<;>try simp only[h])|(clear hK K))
  all_goals(refine a0m ?_;rw[e];simp only[a1m,a1v,a1n, *, Int.reduceEq,decide_false,decide_true,Bool.not_true,Bool.not_false,Bool.or_true,Bool.true_or,Bool.or_false,Bool.false_or,Bool.and_true,Bool.true_and,Bool.and_false,Bool.false_and,cond_true,cond_false]<;>rfl)
theorem c0W (l:List NodeD) (r:Int) (x:NodeD) (hk:x.kind=16):PC zP 49 [Tt l r,Nt x] (Bo (a0D l x)):=by
 refine PCB.ob Tryz.func49 Tryz.ntmps49 Tryz.results49 ?_
 repeat'(first|(simp only[go_sem,zA,zB,zC,zD,zE,zF,zG,reduceCtorEq,zH,zI,zJ,zK,zL,lB,hk,a0b];all_goals refine nf ?_)|(refine stp ?_;intro K hK)|(apply hK;clear hK K)|refine stn ?_|fail)
 refine xE 3 4 rfl rfl fun hlen0=>?_
 (try rw[lB] at hlen0)
 refine xC (S:=Unit) (x.kids) a0e (fun k s=>(5,I .i64 (k:Nat))::[]) (fun k s=>[]) [2,3] [2,3] (fun k s=>(x.kids.take k).all (inB l)=true) (()) (by refine sts ?_;exact Gh.tt []) ?_ ?_ ?_
 ·simp
 ·intro k s y hlt hy hy' hbb hok
  refine sts ?_
  have hat:=a0K (p:=inB l) hy
  rw[hok,Bool.true_and] at hat
  cases hi:inB l y
  ·
   repeat'(first|(simp only[go_sem,zA,zB,zC,zD,zE,zF,zG,reduceCtorEq,zH,zI,zJ,zK,zL,lB,hk,hbb,hi,a0e];all_goals refine nf ?_)|(refine stp ?_;intro K hK)|(apply hK;clear hK K)|refine stn ?_|(with_reducible first|refine⟨by omega,a0e y,hy',?_⟩|refine⟨_,a0y l r y,?_⟩)|(refine a0M ?_;intro K hK)|(clear hK K))
   all_goals(refine a0m ?_;rw[a0D,a1z (lP hy) hi];rfl)
  ·
   repeat'(first|(simp only[go_sem,zA,zB,zC,zD,zE,zF,zG,reduceCtorEq,zH,zI,zJ,zK,zL,lB,hk,hbb,hi,a0e];all_goals refine nf ?_)|(refine stp ?_;intro K hK)|(apply hK;clear hK K)|refine stn ?_|(with_reducible first|refine⟨by omega,a0e y,hy',?_⟩|refine⟨_,a0y l r y,?_⟩)|(refine a0M ?_;intro K hK)|(clear hK K))
   all_goals(rw[a0d hlt hlen0])
   all_goals(refine⟨(),?_,Gh.tt []⟩)
   all_goals(rw[hat,hi])
 ·intro s hbb hok
  refine sts ?_
  rw[lK] at hok
  have e:a0D l x=bif a1m x then false else bif a1v x then false else a1n l x:=by unfold a0D;rw[hok];rfl
  repeat'(first|(simp only[go_sem,zA,zB,zC,zD,zE,zF,zG,reduceCtorEq,zH,zI,zJ,zK,zL,lB,hk,hbb];all_goals refine nf ?_)|(refine stp ?_;intro K hK)|(apply hK;clear hK K)|refine stn ?_|(refine AWP.cnd ?_ ?_<;>intro h<;>(try simp only[zM,zN] at h))|(refine⟨fun h=>?_,fun h=>?_⟩<;>(try simp only[zM,zN] at h)<;>try simp only[h])|(clear hK K))
  all_goals(refine a0m ?_;rw[e];simp only[a1m,a1v,a1n, *, Int.reduceEq,decide_false,decide_true,Bool.not_true,Bool.not_false,Bool.or_true,Bool.true_or,Bool.or_false,Bool.false_or,Bool.and_true,Bool.true_and,Bool.and_false,Bool.false_and,cond_true,cond_false]<;>rfl)
theorem c0X (l:List NodeD) (r:Int) (x:NodeD) (hk:x.kind=17):PC zP 49 [Tt l r,Nt x] (Bo (a0D l x)):=by
 refine PCB.ob Tryz.func49 Tryz.ntmps49 Tryz.results49 ?_
 repeat'(first|(simp only[go_sem,zA,zB,zC,zD,zE,zF,zG,reduceCtorEq,zH,zI,zJ,zK,zL,lB,hk,a0b];all_goals refine nf ?_)|(refine stp ?_;intro K hK)|(apply hK;clear hK K)|refine stn ?_|fail)
 refine xE 3 4 rfl rfl fun hlen0=>?_
 (try rw[lB] at hlen0)
 refine xC (S:=Unit) (x.kids) a0e (fun k s=>(5,I .i64 (k:Nat))::[]) (fun k s=>[]) [2,3] [2,3] (fun k s=>(x.kids.take k).all (inB l)=true) (()) (by refine sts ?_;exact Gh.tt []) ?_ ?_ ?_
 ·simp
 ·intro k s y hlt hy hy' hbb hok
  refine sts ?_
  have hat:=a0K (p:=inB l) hy
  rw[hok,Bool.true_and] at hat
  cases hi:inB l y
  ·
   repeat'(first|(simp only[go_sem,zA,zB,zC,zD,zE,zF,zG,reduceCtorEq,zH,zI,zJ,zK,zL,lB,hk,hbb,hi,a0e];all_goals refine nf ?_)|(refine stp ?_;intro K hK)|(apply hK;clear hK K)|refine stn ?_|(with_reducible first|refine⟨by omega,a0e y,hy',?_⟩|refine⟨_,a0y l r y,?_⟩)|(refine a0M ?_;intro K hK)|(clear hK K))
   all_goals(refine a0m ?_;rw[a0D,a1z (lP hy) hi];rfl)
  ·
   repeat'(first|(simp only[go_sem,zA,zB,zC,zD,zE,zF,zG,reduceCtorEq,zH,zI,zJ,zK,zL,lB,hk,hbb,hi,a0e];all_goals refine nf ?_)|(refine stp ?_;intro K hK)|(apply hK;clear hK K)|refine stn ?_|(with_reducible first|refine⟨by omega,a0e y,hy',?_⟩|refine⟨_,a0y l r y,?_⟩)|(refine a0M ?_;intro K hK)|(clear hK K))
   all_goals(rw[a0d hlt hlen0])
   all_goals(refine⟨(),?_,Gh.tt []⟩)
   all_goals(rw[hat,hi])
 ·intro s hbb hok
  refine sts ?_
  rw[lK] at hok
  have e:a0D l x=bif a1m x then false else bif a1v x then false else a1n l x:=by unfold a0D;rw[hok];rfl
  repeat'(first|(simp only[go_sem,zA,zB,zC,zD,zE,zF,zG,reduceCtorEq,zH,zI,zJ,zK,zL,lB,hk,hbb];all_goals refine nf ?_)|(refine stp ?_;intro K hK)|(apply hK;clear hK K)|refine stn ?_|(refine AWP.cnd ?_ ?_<;>intro h<;>(try simp only[zM,zN] at h))|(refine⟨fun h=>?_,fun h=>?_⟩<;>(try simp only[zM,zN] at h)<;>try simp only[h])|(clear hK K))
  all_goals(refine a0m ?_;rw[e];simp only[a1m,a1v,a1n, *, Int.reduceEq,decide_false,decide_true,Bool.not_true,Bool.not_false,Bool.or_true,Bool.true_or,Bool.or_false,Bool.false_or,Bool.and_true,Bool.true_and,Bool.and_false,Bool.false_and,cond_true,cond_false]<;>rfl)
theorem c0Y (l:List NodeD) (r:Int) (x:NodeD) (hk:x.kind=18):PC zP 49 [Tt l r,Nt x] (Bo (a0D l x)):=by
 refine PCB.ob Tryz.func49 Tryz.ntmps49 Tryz.results49 ?_
 repeat'(first|(simp only[go_sem,zA,zB,zC,zD,zE,zF,zG,reduceCtorEq,zH,zI,zJ,zK,zL,lB,hk,a0b];all_goals refine nf ?_)|(refine stp ?_;intro K hK)|(apply hK;clear hK K)|refine stn ?_|fail)
 refine xE 3 4 rfl rfl fun hlen0=>?_
 (try rw[lB] at hlen0)
 refine xC (S:=Unit) (x.kids) a0e (fun k s=>(5,I .i64 (k:Nat))::[]) (fun k s=>[]) [2,3] [2,3] (fun k s=>(x.kids.take k).all (inB l)=true) (()) (by refine sts ?_;exact Gh.tt []) ?_ ?_ ?_
 ·simp
 ·intro k s y hlt hy hy' hbb hok
  refine sts ?_
  have hat:=a0K (p:=inB l) hy
  rw[hok,Bool.true_and] at hat
  cases hi:inB l y
  ·
   repeat'(first|(simp only[go_sem,zA,zB,zC,zD,zE,zF,zG,reduceCtorEq,zH,zI,zJ,zK,zL,lB,hk,hbb,hi,a0e];all_goals refine nf ?_)|(refine stp ?_;intro K hK)|(apply hK;clear hK K)|refine stn ?_|(with_reducible first|refine⟨by omega,a0e y,hy',?_⟩|refine⟨_,a0y l r y,?_⟩)|(refine a0M ?_;intro K hK)|(clear hK K))
   all_goals(refine a0m ?_;rw[a0D,a1z (lP hy) hi];rfl)
  ·
   repeat'(first|(simp only[go_sem,zA,zB,zC,zD,zE,zF,zG,reduceCtorEq,zH,zI,zJ,zK,zL,lB,hk,hbb,hi,a0e];all_goals refine nf ?_)|(refine stp ?_;intro K hK)|(apply hK;clear hK K)|refine stn ?_|(with_reducible first|refine⟨by omega,a0e y,hy',?_⟩|refine⟨_,a0y l r y,?_⟩)|(refine a0M ?_;intro K hK)|(clear hK K))
   all_goals(rw[a0d hlt hlen0])
   all_goals(refine⟨(),?_,Gh.tt []⟩)
   all_goals(rw[hat,hi])
 ·intro s hbb hok
  refine sts ?_
  rw[lK] at hok
  have e:a0D l x=bif a1m x then false else bif a1v x then false else a1n l x:=by unfold a0D;rw[hok];rfl
  repeat'(first|(simp only[go_sem,zA,zB,zC,zD,zE,zF,zG,reduceCtorEq,zH,zI,zJ,zK,zL,lB,hk,hbb];all_goals refine nf ?_)|(refine stp ?_;intro K hK)|(apply hK;clear hK K)|refine stn ?_|(refine AWP.cnd ?_ ?_<;>intro h<;>(try simp only[zM,zN] at h))|(refine⟨fun h=>?_,fun h=>?_⟩<;>(try simp only[zM,zN] at h)<;>try simp only[h])|(clear hK K))
  all_goals(refine a0m ?_;rw[e];simp only[a1m,a1v,a1n, *, Int.reduceEq,decide_false,decide_true,Bool.not_true,Bool.not_false,Bool.or_true,Bool.true_or,Bool.or_false,Bool.false_or,Bool.and_true,Bool.true_and,Bool.and_false,Bool.false_and,cond_true,cond_false]<;>rfl)
end Go.Proofs.YthbcdhfiibpeaaaGreat

