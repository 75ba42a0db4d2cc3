/- Lemmas of the proof. -/
import Derived.Test.YthbcdhfiibpeaaaGreatTm14
import Derived.Test.YthbcdhfiibpeaaaGreatTm15
open List renaming length_map→lB
open Nat renaming reduceBEq→zA,reduceBNe→zB,reduceAdd→zC,reduceSub→zD,reduceMul→zE,reduceLeDiff→zF,reduceLT→zG,reduceEqDiff→zH
open Int renaming reduceToNat→zI,reduceLE→zJ,reduceLT→zK,reduceEq→zL
open Bool renaming not_eq_true'→zM,not_eq_false'→zN
set_option linter.unusedSimpArgs false
set_option linter.unusedVariables false
set_option maxRecDepth 20000
set_option maxHeartbeats 64000000
namespace Go.Proofs.YthbcdhfiibpeaaaGreat
open Go Go.Sx
def inB (l:List NodeD) (k:Int):Bool:=decide (0≤k)&&decide (k<(l.length:Int))
theorem b8f (l:List NodeD) (k:Int):inB l k=!a3W l k:=by
  unfold inB a3W
  rw[← Bool.coe_iff_coe]
  simp only[Bool.and_eq_true,decide_eq_true_eq,Bool.not_eq_true',Bool.or_eq_false_iff,decide_eq_false_iff_not]
  omega
theorem c3L (l:List NodeD) (r k:Int):PC Tryz.prog 48 [Tt l r,I .i64 k] (Bo (inB l k)):=by
  refine PCB.ob Tryz.func48 Tryz.ntmps48 Tryz.results48 ?_
  repeat'(first|(simp only[go_sem,zA,zB,zC,zD,zE,zF,zG,reduceCtorEq,zH,zI,zJ,zK,zL,lB];all_goals refine nf ?_)|(refine stp ?_;intro K hK)|(apply hK;clear hK K)|refine stn ?_|(refine⟨fun h=>?_,fun h=>?_⟩<;>(try simp only[zM,zN] at h)<;>try simp only[h])|fail)
  all_goals(refine a0m ?_;simp only[inB, *, Bool.true_and,Bool.false_and])
theorem b8g (x:NodeD):PC Tryz.prog 50 [Nt x] (Bo (a3x x.kind)):=by
  refine PCB.ob Tryz.func50 Tryz.ntmps50 Tryz.results50 ?_
  repeat'(first|(simp only[go_sem,zA,zB,zC,zD,zE,zF,zG,reduceCtorEq,zH,zI,zJ,zK,zL,a0b];all_goals refine nf ?_)|(refine stp ?_;intro K hK)|(apply hK;clear hK K)|refine stn ?_|(refine⟨fun h=>?_,fun h=>?_⟩<;>(try simp only[zM,zN] at h)<;>try simp only[h])|fail)
  all_goals(refine a0m ?_;simp only[a3x, *, Bool.or_true,Bool.true_or,Bool.or_false,Bool.false_or])
def a1m (x:NodeD):Bool:=(!decide (x.kind=3)&&(!decide (x.lo=0)||!decide (x.hi=0)))||(!(decide (x.kind=4)||(decide (x.kind=6)||decide (x.kind=19)))&&!decide (x.text=[]))
def a1v (x:NodeD):Bool:=!decide (x.kind=13)&&(decide (0<(x.fields.length:Int))||!(decide (x.r0=0)&&decide (x.r1=0)))
def b7s (l:List NodeD):Option KeyD→List FieldD→Bool
  |_,[]=>true
  |p,f::fs=>bif (!inB l f.node||!a0s f.key)||(match p with|some k=>decide (a67 k f.key≥0)|none=>false) then false else b7s l (some f.key) fs
def a1n (l:List NodeD) (x:NodeD):Bool:=
  bif decide (x.kind=3) then decide ((x.kids.length:Int)=0)&&decide (x.lo≤x.hi) else
  bif decide (x.kind=4) then decide ((x.kids.length:Int)=0)&&decide ((x.text.length:Int)≤64) else
  bif decide (x.kind=6) then decide ((x.kids.length:Int)=0)&&a2g x.text else
  bif decide (x.kind=19) then decide ((x.kids.length:Int)=0)&&a0A x.text else
  bif decide (x.kind=1)||(decide (x.kind=2)||(decide (x.kind=5)||(decide (x.kind=7)||(decide (x.kind=8)||(decide (x.kind=9)||(decide (x.kind=11)||decide (x.kind=15))))))) then decide ((x.kids.length:Int)=0) else
  bif decide (x.kind=10) then decide ((x.kids.length:Int)≤4) else
  bif decide (x.kind=12) then decide ((x.kids.length:Int)=2) else
  bif decide (x.kind=14) then decide (1≤(x.kids.length:Int))&&decide ((x.kids.length:Int)≤5) else
  bif decide (x.kind=16)||decide (x.kind=17) then decide (1≤(x.kids.length:Int)) else
  bif decide (x.kind=18) then decide ((x.kids.length:Int)=1) else
  bif decide (x.kind=13) then (bif b7s l none x.fields then (decide ((x.kids.length:Int)=0)&&inB l x.r0)&&inB l x.r1 else false) else false
def a0D (l:List NodeD) (x:NodeD):Bool:=bif x.kids.all (inB l) then (bif a1m x then false else bif a1v x then false else a1n l x) else false
theorem a0y (l:List NodeD) (r k:Int):PC Tryz.prog 48 [.st [.sl 8 (l.map a0c), .int .i64 r],I .i64 k] (Bo (inB l k)):=c3L l r k
theorem a2B (k:KeyD):PC Tryz.prog 86 [.st [.int .i64 k.kind, .str k.text]] (Bo (a0s k)):=a3F k
theorem a5i (a b:KeyD):PC Tryz.prog 87 [.st [.int .i64 a.kind, .str a.text], .st [.int .i64 b.kind, .str b.text]] (I .i64 (a67 a b)):=a68 a b
theorem c0R (l:List NodeD) (r:Int) (x:NodeD) (hk:x.kind=13):PC Tryz.prog 49 [Tt l r,Nt x] (Bo (a0D l x)):=by
 refine PCB.ob Tryz.func49 Tryz.ntmps49 Tryz.results49 ?_
 repeat'(first|(simp only[go_sem,zA,zB,zC,zD,zE,zF,zG,reduceCtorEq,zH,zI,zJ,zK,zL,lB,hk,a0b];all_goals refine nf ?_)|(refine stp ?_;intro K hK)|(apply hK;clear hK K)|refine stn ?_|fail)
 refine AWP.lenB 3 4 rfl rfl fun hlen0=>?_
 (try rw[lB] at hlen0)
 refine AWP.range (S:=Unit) (x.kids) a0e (fun k s=>(5,I .i64 (k:Nat))::[]) (fun k s=>[]) [2,3] [2,3] (fun k s=>(x.kids.take k).all (inB l)=true) (()) (by refine sts ?_;exact Gh.tt []) ?_ ?_ ?_
 ·simp
 ·intro k s y hlt hy hy' hbb hok
  refine sts ?_
  have hat:=a0K (p:=inB l) hy
  rw[hok,Bool.true_and] at hat
  cases hi:inB l y
  ·
   repeat'(first|(simp only[go_sem,zA,zB,zC,zD,zE,zF,zG,reduceCtorEq,zH,zI,zJ,zK,zL,lB,hk,hbb,hi,a0e];all_goals refine nf ?_)|(refine stp ?_;intro K hK)|(apply hK;clear hK K)|refine stn ?_|(with_reducible first|refine⟨by omega,a0e y,hy',?_⟩|refine⟨_,a0y l r y,?_⟩)|(refine a0M ?_;intro K hK)|(clear hK K))
   all_goals(refine a0m ?_;rw[a0D,a1z (List.mem_of_getElem? hy) hi];rfl)
  ·
   repeat'(first|(simp only[go_sem,zA,zB,zC,zD,zE,zF,zG,reduceCtorEq,zH,zI,zJ,zK,zL,lB,hk,hbb,hi,a0e];all_goals refine nf ?_)|(refine stp ?_;intro K hK)|(apply hK;clear hK K)|refine stn ?_|(with_reducible first|refine⟨by omega,a0e y,hy',?_⟩|refine⟨_,a0y l r y,?_⟩)|(refine a0M ?_;intro K hK)|(clear hK K))
   all_goals(rw[a0d hlt hlen0])
   all_goals(refine⟨(),?_,Gh.tt []⟩)
   all_goals(rw[hat,hi])
 ·intro s hbb hok
  refine sts ?_
  rw[List.take_length] at hok
  have e:a0D l x=bif a1m x then false else bif a1v x then false else a1n l x:=by unfold a0D;rw[hok];rfl
  cases ht:a1m x
  ·simp only[a1m,hk,Int.reduceEq,decide_false,decide_true,Bool.not_false,Bool.true_and,Bool.false_or,Bool.or_eq_false_iff,Bool.not_eq_false'] at ht
   obtain⟨⟨ht1,ht2⟩,ht3⟩:=ht
   have e2:a0D l x=a1n l x:=by rw[e];simp only[a1m,a1v,hk,ht1,ht2,ht3,Int.reduceEq,decide_false,decide_true,Bool.not_true,Bool.not_false,Bool.or_false,Bool.false_or,Bool.true_and,Bool.false_and,cond_false]
   have e3:a1n l x=bif b7s l none x.fields then (decide ((x.kids.length:Int)=0)&&inB l x.r0)&&inB l x.r1 else false:=by
    simp only[a1n,hk,Int.reduceEq,decide_false,decide_true,Bool.or_false,Bool.false_or,cond_true,cond_false]
   repeat'(first|(simp only[go_sem,zA,zB,zC,zD,zE,zF,zG,reduceCtorEq,zH,zI,zJ,zK,zL,lB,hk,hbb,ht1,ht2,ht3];all_goals refine nf ?_)|(refine stp ?_;intro K hK)|(apply hK;clear hK K)|refine stn ?_|(clear hK K))
   refine AWP.lenB 3 5 rfl rfl fun hlen1=>?_
   (try rw[lB] at hlen1)
   refine AWP.range (S:=Unit) (x.fields) a0i (fun k s=>(9,I .i64 (k:Nat))::[]) (fun k s=>[]) [2,3,8] [2,3] (fun k s=>Is (b7s l none x.fields) (b7s l (a8Q x.fields k) (x.fields.drop k))) (()) (by refine sts ?_;exact Gh.tt []) ?_ ?_ ?_
   ·rfl
   ·intro k s y hlt hy hy' hbb hok
    refine sts ?_
    have hd:x.fields.drop k=y::x.fields.drop (k+1):=by
     obtain⟨hk,e⟩:=List.getElem?_eq_some_iff.1 hy
     rw[List.drop_eq_getElem_cons hk,e]
    have hn:a8Q x.fields (k+1)=some y.key:=by simp only[a8Q,hy,Option.map_some]
    unfold Is at hok
    rw[hd] at hok
    by_cases hk0:k=0
    ·have hg:decide ((0:Int)<(k:Int))=false:=by simp[hk0]
     have hp0:a8Q x.fields k=none:=by rw[hk0];rfl
     rw[hp0] at hok
     have hv0:b7s l none x.fields=bif !inB l y.node||!a0s y.key then false else b7s l (some y.key) (x.fields.drop (k+1)):=by rw[hok];show (bif (!inB l y.node||!a0s y.key)||false then _ else _)=_;rw[Bool.or_false]
     cases hi:inB l y.node<;>rw[hi] at hv0
     ·
      repeat'(first|(simp only[go_sem,zA,zB,zC,zD,zE,zF,zG,reduceCtorEq,zH,zI,zJ,zK,zL,lB,hk,hbb,hi,hg,encField_lit];all_goals refine nf ?_)|(refine stp ?_;intro K hK)|(apply hK;clear hK K)|refine stn ?_|(with_reducible first|refine⟨by omega,a0i y,hy',?_⟩|refine⟨_,a0y l r y.node,?_⟩)|(refine a0M ?_;intro K hK)|(clear hK K))
      all_goals(refine a0m ?_;rw[e2,e3,hv0];rfl)
     ·cases hv:a0s y.key<;>rw[hv] at hv0
      ·
       repeat'(first|(simp only[go_sem,zA,zB,zC,zD,zE,zF,zG,reduceCtorEq,zH,zI,zJ,zK,zL,lB,hk,hbb,hi,hv,hg,encField_lit];all_goals refine nf ?_)|(refine stp ?_;intro K hK)|(apply hK;clear hK K)|refine stn ?_|(with_reducible first|refine⟨by omega,a0i y,hy',?_⟩|refine⟨_,a0y l r y.node,?_⟩|refine⟨_,a2B y.key,?_⟩)|(refine a0M ?_;intro K hK)|(clear hK K))
       all_goals(refine a0m ?_;rw[e2,e3,hv0];rfl)
      ·
       repeat'(first|(simp only[go_sem,zA,zB,zC,zD,zE,zF,zG,reduceCtorEq,zH,zI,zJ,zK,zL,lB,hk,hbb,hi,hv,hg,encField_lit];all_goals refine nf ?_)|(refine stp ?_;intro K hK)|(apply hK;clear hK K)|refine stn ?_|(with_reducible first|refine⟨by omega,a0i y,hy',?_⟩|refine⟨_,a0y l r y.node,?_⟩|refine⟨_,a2B y.key,?_⟩)|(refine a0M ?_;intro K hK)|(clear hK K))
       all_goals(rw[a0d hlt hlen1])
       all_goals(refine⟨(),?_,Gh.tt []⟩)
       all_goals(rw[hn];exact hv0)
    ·have hg:decide ((0:Int)<(k:Int))=true:=by simp;omega
     obtain⟨j,rfl⟩:∃ j,k=j+1:=⟨k-1,by omega⟩
     obtain⟨z,hz⟩:∃ z,x.fields[j]?= some z:=⟨x.fields[j],List.getElem?_eq_getElem (by omega)⟩
     have hz':=a0n a0i hz
     have hp:a8Q x.fields (j+1)=some z.key:=by simp only[a8Q,hz,Option.map_some]
     rw[hp,b7s] at hok
     have hw:IntKind.i64.wrap (((j+1:Nat):Int)-1)=(j:Int):=by rw[w64 (by omega)];omega
     obtain⟨k,hkk⟩:∃ k,k=j+1:=⟨_,rfl⟩
     simp only[← hkk] at*
     cases hi:inB l y.node<;>rw[hi] at hok
     ·
      repeat'(first|(simp only[go_sem,zA,zB,zC,zD,zE,zF,zG,reduceCtorEq,zH,zI,zJ,zK,zL,lB,hk,hbb,hi,hg,hw,encField_lit];all_goals refine nf ?_)|(refine stp ?_;intro K hK)|(apply hK;clear hK K)|refine stn ?_|(with_reducible first|refine⟨by omega,a0i y,hy',?_⟩|refine⟨_,a0y l r y.node,?_⟩)|(refine a0M ?_;intro K hK)|(clear hK K))
      all_goals(refine a0m ?_;rw[e2,e3,hok];rfl)
     ·cases hv:a0s y.key<;>rw[hv] at hok
      ·
       repeat'(first|(simp only[go_sem,zA,zB,zC,zD,zE,zF,zG,reduceCtorEq,zH,zI,zJ,zK,zL,lB,hk,hbb,hi,hv,hg,hw,encField_lit];all_goals refine nf ?_)|(refine stp ?_;intro K hK)|(apply hK;clear hK K)|refine stn ?_|(with_reducible first|refine⟨by omega,a0i y,hy',?_⟩|refine⟨_,a0y l r y.node,?_⟩|refine⟨_,a2B y.key,?_⟩)|(refine a0M ?_;intro K hK)|(clear hK K))
       all_goals(refine a0m ?_;rw[e2,e3,hok];rfl)
      ·cases hc:decide (a67 z.key y.key≥0)<;>rw[hc] at hok
       ·
        repeat'(first|(simp only[go_sem,zA,zB,zC,zD,zE,zF,zG,reduceCtorEq,zH,zI,zJ,zK,zL,lB,hk,hbb,hi,hv,hc,hw,hg,encField_lit];all_goals refine nf ?_)|(refine stp ?_;intro K hK)|(apply hK;clear hK K)|refine stn ?_|(with_reducible first|refine⟨by omega,a0i y,hy',?_⟩|refine⟨by omega,_,hz',?_⟩|refine⟨_,a0y l r y.node,?_⟩|refine⟨_,a2B y.key,?_⟩|refine⟨_,a5i z.key y.key,?_⟩)|(refine a0M ?_;intro K hK)|(clear hK K))
        all_goals(rw[a0d hlt hlen1])
        all_goals(refine⟨(),?_,Gh.tt []⟩)
        all_goals(rw[hn];exact hok)
       ·
        repeat'(first|(simp only[go_sem,zA,zB,zC,zD,zE,zF,zG,reduceCtorEq,zH,zI,zJ,zK,zL,lB,hk,hbb,hi,hv,hc,hw,hg,encField_lit];all_goals refine nf ?_)|(refine stp ?_;intro K hK)|(apply hK;clear hK K)|refine stn ?_|(with_reducible first|refine⟨by omega,a0i y,hy',?_⟩|refine⟨by omega,_,hz',?_⟩|refine⟨_,a0y l r y.node,?_⟩|refine⟨_,a2B y.key,?_⟩|refine⟨_,a5i z.key y.key,?_⟩)|(refine a0M ?_;intro K hK)|(clear hK K))
        all_goals(refine a0m ?_;rw[e2,e3,hok];rfl)
   ·intro s hbb hok
    refine sts ?_
    unfold Is at hok
    rw[List.drop_length,b7s] at hok
    rw[hok,cond_true] at e3
    repeat'(first|(simp only[go_sem,zA,zB,zC,zD,zE,zF,zG,reduceCtorEq,zH,zI,zJ,zK,zL,lB,hk,hbb];all_goals refine nf ?_)|(refine stp ?_;intro K hK)|(apply hK;clear hK K)|refine stn ?_|(refine⟨fun h=>?_,fun h=>?_⟩<;>(try simp only[zM,zN] at h)<;>try simp only[h])|(with_reducible first|refine⟨_,a0y l r x.r0,?_⟩|refine⟨_,a0y l r x.r1,?_⟩)|refine stq ?_|(clear hK K))
    all_goals(refine a0m ?_;rw[e2,e3];simp only[*, Bool.true_and,Bool.and_true,Bool.false_and,Bool.and_false])
  ·have e2:a0D l x=false:=by rw[e,ht];rfl
   simp only[a1m,hk,Int.reduceEq,decide_false,decide_true,Bool.not_false,Bool.true_and,Bool.false_or] at ht
   cases ht1:decide (x.lo=0)<;>rw[ht1] at ht
   ·
    repeat'(first|(simp only[go_sem,zA,zB,zC,zD,zE,zF,zG,reduceCtorEq,zH,zI,zJ,zK,zL,lB,hk,hbb,ht1];all_goals refine nf ?_)|(refine stp ?_;intro K hK)|(apply hK;clear hK K)|refine stn ?_|(clear hK K))
    all_goals(refine a0m ?_;rw[e2])
   ·cases ht2:decide (x.hi=0)<;>rw[ht2] at ht
    ·
     repeat'(first|(simp only[go_sem,zA,zB,zC,zD,zE,zF,zG,reduceCtorEq,zH,zI,zJ,zK,zL,lB,hk,hbb,ht1,ht2];all_goals refine nf ?_)|(refine stp ?_;intro K hK)|(apply hK;clear hK K)|refine stn ?_|(clear hK K))
     all_goals(refine a0m ?_;rw[e2])
    ·have ht3:decide (x.text=[])=false:=by simpa using ht
     repeat'(first|(simp only[go_sem,zA,zB,zC,zD,zE,zF,zG,reduceCtorEq,zH,zI,zJ,zK,zL,lB,hk,hbb,ht1,ht2,ht3];all_goals refine nf ?_)|(refine stp ?_;intro K hK)|(apply hK;clear hK K)|refine stn ?_|(clear hK K))
     all_goals(refine a0m ?_;rw[e2])
end Go.Proofs.YthbcdhfiibpeaaaGreat

