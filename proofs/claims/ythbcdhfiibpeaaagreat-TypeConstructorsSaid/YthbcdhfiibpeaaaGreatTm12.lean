/- Lemmas of the proof. -/
import Derived.Test.YthbcdhfiibpeaaaGreatTm10
open Go.Proofs.Tryz renaming prog→zP
open Nat renaming reduceBEq→zA,reduceBNe→zB,reduceAdd→zC,reduceSub→zD,reduceMul→zE,reduceLeDiff→zF,reduceLT→zG,reduceEqDiff→zH
open Int renaming reduceToNat→zI,reduceLE→zJ,reduceLT→zK,reduceEq→zL
open Bool renaming not_eq_true'→zM,not_eq_false'→zN
set_option linter.unusedSimpArgs false
set_option linter.unusedVariables false
set_option maxRecDepth 20000
set_option maxHeartbeats 64000000
namespace Go.Proofs.YthbcdhfiibpeaaaGreat
open Go Go.Sx
def c0P (b:UInt8):Bool:=decide ((65:Int)≤(b.toNat:Int))&&decide ((b.toNat:Int)≤90)
theorem a7W (b:UInt8):PC zP 69 [I .u8 b.toNat] (Bo (c0P b)):=by
  refine PCB.ob Tryz.func69 Tryz.ntmps69 Tryz.results69 ?_
  repeat'(first|(simp only[go_sem,zA,zB,zC,zD,zE,zF,zG,reduceCtorEq,zH,zI,zJ,zK,zL];all_goals refine nf ?_)|(refine stp ?_;intro K hK)|(apply hK;clear hK K)|refine stn ?_|(refine⟨fun h=>?_,fun h=>?_⟩<;>(try simp only[zM,zN] at h)<;>try simp only[h])|fail)
  all_goals(refine a0m ?_;simp only[c0P,h,Bool.true_and,Bool.false_and])
theorem b28 (b:UInt8):PC zP 109 [I .u8 b.toNat] (Bo (c0P b)):=by
  refine PCB.ob Tryz.func109 Tryz.ntmps109 Tryz.results109 ?_
  repeat'(first|(simp only[go_sem,zA,zB,zC,zD,zE,zF,zG,reduceCtorEq,zH,zI,zJ,zK,zL];all_goals refine nf ?_)|(refine stp ?_;intro K hK)|(apply hK;clear hK K)|refine stn ?_|(refine⟨fun h=>?_,fun h=>?_⟩<;>(try simp only[zM,zN] at h)<;>try simp only[h])|fail)
  all_goals(refine a0m ?_;simp only[c0P,h,Bool.true_and,Bool.false_and])
theorem a9v (b:UInt8):PC zP 111 [I .u8 b.toNat] (Bo (b74 b)):=by
  refine PCB.ob Tryz.func111 Tryz.ntmps111 Tryz.results111 ?_
  repeat'(first|(simp only[go_sem,zA,zB,zC,zD,zE,zF,zG,reduceCtorEq,zH,zI,zJ,zK,zL];all_goals refine nf ?_)|(refine stp ?_;intro K hK)|(apply hK;clear hK K)|refine stn ?_|(refine⟨fun h=>?_,fun h=>?_⟩<;>(try simp only[zM,zN] at h)<;>try simp only[h])|fail)
  all_goals(refine a0m ?_;simp only[b74,h,Bool.true_and,Bool.false_and])
theorem b29 (b:UInt8):PC zP 112 [I .u8 b.toNat] (Bo (c2t b)):=by
  refine PCB.ob Tryz.func112 Tryz.ntmps112 Tryz.results112 ?_
  repeat'(first|(simp only[go_sem,zA,zB,zC,zD,zE,zF,zG,reduceCtorEq,zH,zI,zJ,zK,zL];all_goals refine nf ?_)|(refine stp ?_;intro K hK)|(apply hK;clear hK K)|refine stn ?_|(refine⟨fun h=>?_,fun h=>?_⟩<;>(try simp only[zM,zN] at h)<;>try simp only[h])|fail)
  all_goals(refine a0m ?_;simp only[c2t,h,Bool.true_and,Bool.false_and])
theorem b6B (b:UInt8):PC zP 137 [I .u8 b.toNat] (Bo (b27 b)):=by
  refine PCB.ob Tryz.func137 Tryz.ntmps137 Tryz.results137 ?_
  repeat'(first|(simp only[go_sem,zA,zB,zC,zD,zE,zF,zG,reduceCtorEq,zH,zI,zJ,zK,zL];all_goals refine nf ?_)|(refine stp ?_;intro K hK)|(apply hK;clear hK K)|refine stn ?_|(refine⟨fun h=>?_,fun h=>?_⟩<;>(try simp only[zM,zN] at h)<;>try simp only[h])|(with_reducible first|refine⟨_,a9v _,?_⟩|refine⟨_,b29 _,?_⟩)|refine stq ?_|fail)
  all_goals(refine a0m ?_;simp only[b27, *, Bool.true_or,Bool.false_or])
def a8x (b:UInt8):Bool:=b74 b||(c0P b||(c2t b||decide ((b.toNat:Int)=95)))
theorem b8a (b:UInt8):PC zP 110 [I .u8 b.toNat] (Bo (a8x b)):=by
  refine PCB.ob Tryz.func110 Tryz.ntmps110 Tryz.results110 ?_
  repeat'(first|(simp only[go_sem,zA,zB,zC,zD,zE,zF,zG,reduceCtorEq,zH,zI,zJ,zK,zL];all_goals refine nf ?_)|(refine stp ?_;intro K hK)|(apply hK;clear hK K)|refine stn ?_|(refine⟨fun h=>?_,fun h=>?_⟩<;>(try simp only[zM,zN] at h)<;>try simp only[h])|(with_reducible first|refine⟨_,a9v _,?_⟩|refine⟨_,b29 _,?_⟩|refine⟨_,b28 _,?_⟩)|refine stq ?_|fail)
  all_goals(refine a0m ?_;simp only[a8x, *, Bool.true_or,Bool.false_or])
def a9w (p q:UInt8→Bool) (s:List UInt8):Bool:=!(decide ((s.length:Int)<1)||(decide ((16:Int)<(s.length:Int))||!p (s.headD 0)))&&(s.drop 1).all q
theorem b5o (s:List UInt8) (g h:FuncId) (p q:UInt8→Bool) (hg:∀ b:UInt8,PC zP g [I .u8 b.toNat] (Bo (p b))) (hh:∀ b:UInt8,PC zP h [I .u8 b.toNat] (Bo (q b))):
  PC zP 108 [S s, .one (.dat (.fn g)), .one (.dat (.fn h))] (Bo (a9w p q s)):=by
 refine PCB.ob Tryz.func108 Tryz.ntmps108 Tryz.results108 ?_
 cases hl1:decide ((s.length:Int)<1) with
 |true=>
  repeat'(first|(simp only[go_sem,zA,zB,zC,zD,zE,zF,zG,reduceCtorEq,zH,zI,zJ,zK,zL,hl1];all_goals refine nf ?_)|(refine stp ?_;intro K hK)|(apply hK;clear hK K)|refine stn ?_|(clear hK K))
  all_goals(first|exact fun _ h=>absurd h List.not_mem_nil|refine a0m ?_)
  all_goals simp only[a9w,hl1,Bool.true_or,Bool.not_true,Bool.false_and]
 |false=>
  have hpos:0<s.length:=by simp only[decide_eq_false_iff_not] at hl1;omega
  obtain⟨b,hb0⟩:∃ b,s[0]?= some b:=⟨s[0],by simp[hpos]⟩
  have hhd:s.headD 0=b:=by cases s<;>simp at hb0 hpos ⊢; exact hb0
  cases hlong:decide ((16:Int)<(s.length:Int)) with
  |true=>
   repeat'(first|(simp only[go_sem,zA,zB,zC,zD,zE,zF,zG,reduceCtorEq,zH,zI,zJ,zK,zL,hl1,hlong];all_goals refine nf ?_)|(refine stp ?_;intro K hK)|(apply hK;clear hK K)|refine stn ?_|(clear hK K))
   all_goals(first|exact fun _ h=>absurd h List.not_mem_nil|refine a0m ?_)
   all_goals simp only[a9w,hlong,Bool.true_or,Bool.or_true,Bool.not_true,Bool.false_and]
  |false=>
   have hlen:s.length≤9223372036854775807:=by simp only[decide_eq_false_iff_not] at hlong;omega
   cases hlow:p b with
   |false=>
    repeat'(first|(simp only[go_sem,zA,zB,zC,zD,zE,zF,zG,reduceCtorEq,zH,zI,zJ,zK,zL,hl1,hlong,hlow];all_goals refine nf ?_)|(refine stp ?_;intro K hK)|(apply hK;clear hK K)|refine stn ?_|(with_reducible first|refine⟨_,hg b,?_⟩|refine⟨b,hb0,?_⟩)|refine stq ?_|(clear hK K))
    all_goals(first|exact fun _ h=>absurd h List.not_mem_nil|refine a0m ?_)
    all_goals simp only[a9w,hl1,hlong,hhd,hlow,Bool.false_or,Bool.not_false,Bool.not_true,Bool.false_and]
   |true=>
    have hmod:a9w p q s=(s.drop 1).all q:=by simp only[a9w,hl1,hlong,hhd,hlow,Bool.not_true,Bool.false_or,Bool.not_false,Bool.true_and]
    repeat'(first|(simp only[go_sem,zA,zB,zC,zD,zE,zF,zG,reduceCtorEq,zH,zI,zJ,zK,zL,hl1,hlong,hlow];all_goals refine nf ?_)|(refine stp ?_;intro K hK)|(apply hK;clear hK K)|refine stn ?_|(with_reducible first|refine⟨_,hg b,?_⟩|refine⟨b,hb0,?_⟩)|refine stq ?_|fail)
    refine AWP.loopF (X:=Nat) (fun k=>[(7,I .i64 k)]) (fun k=>[]) [0,2] [] (fun k=>1≤k∧k≤s.length∧(s.drop 1).all q=(s.drop k).all q) (fun k=>s.length-k) (1) (by refine sts ?_;exact Gh.tt []) ?_ ?_
    ·exact⟨Nat.le_refl _,by omega,rfl⟩
    rintro k ⟨hk1,hk,hp⟩
    refine sts ?_
    by_cases hlt:k<s.length
    ·have hdrop:=List.drop_eq_getElem_cons hlt
     have hd:s[k]?= some s[k]:=List.getElem?_eq_getElem hlt
     have hbt:decide ((k:Int)<(s.length:Int))=true:=by simpa using hlt
     generalize s[k]=d at hd hdrop
     rw[hdrop,List.all_cons] at hp
     cases hq:q d
     all_goals simp only[hq,Bool.true_and,Bool.false_and] at hp
     repeat'(first|(simp only[go_sem,zA,zB,zC,zD,zE,zF,zG,reduceCtorEq,zH,zI,zJ,zK,zL,hbt,hq];all_goals refine nf ?_)|(refine stp ?_;intro K hK)|(apply hK;clear hK K)|refine stn ?_|(with_reducible first|refine⟨_,hh d,?_⟩|refine⟨by omega,d,hd,?_⟩)|refine stq ?_|(clear hK K))
     all_goals first
      |(refine a0m ?_;rw[hmod,hp])
      |(rw[a0d hlt hlen];refine⟨k+1,by omega,⟨by omega,by omega,hp⟩,Gh.tt []⟩)
    ·have hbt:decide ((k:Int)<(s.length:Int))=false:=by simpa using hlt
     rw[show s.drop k=[] from List.drop_eq_nil_of_le (by omega)] at hp
     repeat'(first|(simp only[go_sem,zA,zB,zC,zD,zE,zF,zG,reduceCtorEq,zH,zI,zJ,zK,zL,hbt];all_goals refine nf ?_)|(refine stp ?_;intro K hK)|(apply hK;clear hK K)|refine stn ?_|(clear hK K))
     all_goals(refine a0m ?_;rw[hmod,hp];rfl)
theorem a7d (s:List UInt8):PC zP 97 [S s] (Bo (a2g s)):=by
  have h:=b5o s 111 137 b74 b27 a9v b6B
  refine PCB.ob Tryz.func97 Tryz.ntmps97 Tryz.results97 ?_
  repeat'(first|(simp only[go_sem,zA,zB,zC,zD,zE,zF,zG,reduceCtorEq,zH,zI,zJ,zK,zL];all_goals refine nf ?_)|(refine stp ?_;intro K hK)|(apply hK;clear hK K)|refine stn ?_|(with_reducible refine⟨_,h,?_⟩)|refine stq ?_|fail)
  all_goals(first|exact fun _ h=>absurd h List.not_mem_nil|refine a0m ?_)
  all_goals rfl
def a0A (s:List UInt8):Bool:=a9w c0P a8x s
theorem a4u (s:List UInt8):PC zP 65 [S s] (Bo (a0A s)):=by
  have h:=b5o s 109 110 c0P a8x b28 b8a
  refine PCB.ob Tryz.func65 Tryz.ntmps65 Tryz.results65 ?_
  repeat'(first|(simp only[go_sem,zA,zB,zC,zD,zE,zF,zG,reduceCtorEq,zH,zI,zJ,zK,zL];all_goals refine nf ?_)|(refine stp ?_;intro K hK)|(apply hK;clear hK K)|refine stn ?_|(with_reducible refine⟨_,h,?_⟩)|refine stq ?_|fail)
  all_goals(first|exact fun _ h=>absurd h List.not_mem_nil|refine a0m ?_)
  all_goals rfl
theorem a9x (k:KeyD):PC zP 138 [.st (a0k k)] (Bo (a0s k)):=by
 refine PCB.ob Tryz.func138 Tryz.ntmps138 Tryz.results138 ?_
 cases h0:decide (k.kind=0)<;>cases h1:decide (k.kind=1)
 ·
  repeat'(first|(simp only[go_sem,zA,zB,zC,zD,zE,zF,zG,reduceCtorEq,zH,zI,zJ,zK,zL,a0k,h0,h1];all_goals refine nf ?_)|(refine stp ?_;intro K hK)|(apply hK;clear hK K)|refine stn ?_|fail)
  all_goals(refine a0m ?_;simp only[a0s,h0,h1,Bool.true_and,Bool.false_and,Bool.or_false,Bool.false_or])
 ·
  repeat'(first|(simp only[go_sem,zA,zB,zC,zD,zE,zF,zG,reduceCtorEq,zH,zI,zJ,zK,zL,a0k,h0,h1];all_goals refine nf ?_)|(refine stp ?_;intro K hK)|(apply hK;clear hK K)|refine stn ?_|(clear hK K))
  all_goals(refine a0m ?_;simp only[a0s,h0,h1,Bool.true_and,Bool.false_and,Bool.or_false,Bool.false_or])
 ·
  repeat'(first|(simp only[go_sem,zA,zB,zC,zD,zE,zF,zG,reduceCtorEq,zH,zI,zJ,zK,zL,a0k,h0,h1];all_goals refine nf ?_)|(refine stp ?_;intro K hK)|(apply hK;clear hK K)|refine stn ?_|(with_reducible refine⟨_,a7d _,?_⟩)|refine stq ?_|(clear hK K))
  all_goals(refine a0m ?_;simp only[a0s,h0,h1,Bool.true_and,Bool.false_and,Bool.or_false,Bool.false_or])
 ·exfalso
  simp only[decide_eq_true_eq] at h0 h1
  omega
theorem a0r (s:List UInt8):PC zP 28 [S s] (Bo (a0A s)):=by
 refine PCB.ob Tryz.func28 Tryz.ntmps28 Tryz.results28 ?_
 cases hl1:decide ((s.length:Int)<1) with
 |true=>
  repeat'(first|(simp only[go_sem,zA,zB,zC,zD,zE,zF,zG,reduceCtorEq,zH,zI,zJ,zK,zL,hl1];all_goals refine nf ?_)|(refine stp ?_;intro K hK)|(apply hK;clear hK K)|refine stn ?_|(clear hK K))
  all_goals(first|exact fun _ h=>absurd h List.not_mem_nil|refine a0m ?_)
  all_goals simp only[a0A,a9w,hl1,Bool.true_or,Bool.not_true,Bool.false_and]
 |false=>
  have hpos:0<s.length:=by simp only[decide_eq_false_iff_not] at hl1;omega
  obtain⟨b,hb0⟩:∃ b,s[0]?= some b:=⟨s[0],by simp[hpos]⟩
  have hhd:s.headD 0=b:=by cases s<;>simp at hb0 hpos ⊢; exact hb0
  cases hlong:decide ((16:Int)<(s.length:Int)) with
  |true=>
   repeat'(first|(simp only[go_sem,zA,zB,zC,zD,zE,zF,zG,reduceCtorEq,zH,zI,zJ,zK,zL,hl1,hlong];all_goals refine nf ?_)|(refine stp ?_;intro K hK)|(apply hK;clear hK K)|refine stn ?_|(clear hK K))
   all_goals(first|exact fun _ h=>absurd h List.not_mem_nil|refine a0m ?_)
   all_goals simp only[a0A,a9w,hlong,Bool.true_or,Bool.or_true,Bool.not_true,Bool.false_and]
  |false=>
   have hlen:s.length≤9223372036854775807:=by simp only[decide_eq_false_iff_not] at hlong;omega
   cases hlow:c0P b with
   |false=>
    repeat'(first|(simp only[go_sem,zA,zB,zC,zD,zE,zF,zG,reduceCtorEq,zH,zI,zJ,zK,zL,hl1,hlong,hlow];all_goals refine nf ?_)|(refine stp ?_;intro K hK)|(apply hK;clear hK K)|refine stn ?_|(with_reducible first|refine⟨_,a7W b,?_⟩|refine⟨b,hb0,?_⟩)|refine stq ?_|(clear hK K))
    all_goals(first|exact fun _ h=>absurd h List.not_mem_nil|refine a0m ?_)
    all_goals simp only[a0A,a9w,hl1,hlong,hhd,hlow,Bool.false_or,Bool.not_false,Bool.not_true,Bool.false_and]
   |true=>
    have hmod:a0A s=(s.drop 1).all a8x:=by simp only[a0A,a9w,hl1,hlong,hhd,hlow,Bool.not_true,Bool.false_or,Bool.not_false,Bool.true_and]
    repeat'(first|(simp only[go_sem,zA,zB,zC,zD,zE,zF,zG,reduceCtorEq,zH,zI,zJ,zK,zL,hl1,hlong,hlow];all_goals refine nf ?_)|(refine stp ?_;intro K hK)|(apply hK;clear hK K)|refine stn ?_|(with_reducible first|refine⟨_,a7W b,?_⟩|refine⟨b,hb0,?_⟩)|refine stq ?_|fail)
    refine AWP.loopF (X:=Nat) (fun k=>[(3,I .i64 k)]) (fun k=>[]) [0] [] (fun k=>1≤k∧k≤s.length∧(s.drop 1).all a8x=(s.drop k).all a8x) (fun k=>s.length-k) (1) (by refine sts ?_;exact Gh.tt []) ?_ ?_
    ·exact⟨Nat.le_refl _,by omega,rfl⟩
    rintro k ⟨hk1,hk,hp⟩
    refine sts ?_
    by_cases hlt:k<s.length
    ·have hdrop:=List.drop_eq_getElem_cons hlt
     have hd:s[k]?= some s[k]:=List.getElem?_eq_getElem hlt
     have hbt:decide ((k:Int)<(s.length:Int))=true:=by simpa using hlt
     generalize s[k]=d at hd hdrop
     rw[hdrop,List.all_cons] at hp
     cases ht1:b74 d<;>cases ht4:c0P d<;>cases ht2:c2t d<;>cases ht3:decide ((d.toNat:Int)=95)
     all_goals simp only[a8x,ht1,ht2,ht3,ht4,Bool.or_true,Bool.or_false,Bool.true_or,Bool.true_and,Bool.false_and] at hp
     repeat'(first|(simp only[go_sem,zA,zB,zC,zD,zE,zF,zG,reduceCtorEq,zH,zI,zJ,zK,zL,hbt,ht1,ht2,ht3,ht4];all_goals refine nf ?_)|(refine stp ?_;intro K hK)|(apply hK;clear hK K)|refine stn ?_|(with_reducible first|refine⟨_,b1Z d,?_⟩|refine⟨_,b75 d,?_⟩|refine⟨_,a7W d,?_⟩|refine⟨by omega,d,hd,?_⟩)|refine stq ?_|(clear hK K))
     all_goals first
      |(refine a0m ?_;rw[hmod,hp])
      |(rw[a0d hlt hlen];refine⟨k+1,by omega,⟨by omega,by omega,hp⟩,Gh.tt []⟩)
    ·have hbt:decide ((k:Int)<(s.length:Int))=false:=by simpa using hlt
     rw[show s.drop k=[] from List.drop_eq_nil_of_le (by omega)] at hp
     repeat'(first|(simp only[go_sem,zA,zB,zC,zD,zE,zF,zG,reduceCtorEq,zH,zI,zJ,zK,zL,hbt];all_goals refine nf ?_)|(refine stp ?_;intro K hK)|(apply hK;clear hK K)|refine stn ?_|(clear hK K))
     all_goals(refine a0m ?_;rw[hmod,hp];rfl)
structure Grd where
  kind:Int
  name:List UInt8
  num:Int
  text:List UInt8
  key:KeyD
  kids:List Grd
mutual
def b0F:Grd→List C
  |⟨kind,name,num,text,key,kids⟩=>[.int .i64 kind, .str name, .int .i64 num, .str text, .int .i64 key.kind, .str key.text, .sl 7 (b8b kids)]
def b8b:List Grd→List (List C)
  |[]=>[]
  |g::l=>b0F g::b8b l
end
theorem b5p:∀ l:List Grd,b8b l=l.map b0F
  |[]=>by simp only[b8b,List.map_nil]
  |g::l=>by simp only[b8b,List.map_cons,b5p l]
theorem a7X (g:Grd):b0F g=[.int .i64 g.kind, .str g.name, .int .i64 g.num, .str g.text, .int .i64 g.key.kind, .str g.key.text, .sl 7 (g.kids.map b0F)]:=by cases g;simp only[b0F,b5p]
theorem a8X (x:Grd):b0F x=[.int .i64 x.kind, .str x.name, .int .i64 x.num, .str x.text, .int .i64 x.key.kind, .str x.key.text, .sl 7 (x.kids.map b0F)]:=a7X x
@[go_sem] theorem c7x (x:Grd):a1k 7 (b0F x)=some (b0F x,[]):=by rw[a7X];rfl
@[go_sem low] theorem c6t (x:Grd) (k:Nat):a1k k (b0F x)=a1k k [.int .i64 x.kind, .str x.name, .int .i64 x.num, .str x.text, .int .i64 x.key.kind, .str x.key.text, .sl 7 (x.kids.map b0F)]:=by rw[a8X]
@[go_sem] theorem c6u (x:Grd):a1k 7 ((b0F x).map Cell.dat)=some ((b0F x).map Cell.dat,[]):=by rw[a7X];rfl
@[go_sem low] theorem c5w (x:Grd) (k:Nat):a1k k ((b0F x).map Cell.dat)=a1k k (([.int .i64 x.kind, .str x.name, .int .i64 x.num, .str x.text, .int .i64 x.key.kind, .str x.key.text, .sl 7 (x.kids.map b0F)]:List C).map Cell.dat):=by rw[a8X]
@[go_sem] theorem c6v (x:Grd):(b0F x).map C.soft=b0F x:=by rw[a7X];rfl
@[go_sem] theorem c7y (x:Grd):a1C 7 (b0F x)=true:=by rw[a7X];rfl
@[go_sem high] theorem c5x (x:Grd) (n:Nat) (K:T→Prop):a4v false n (b0F x) K=K (.one (.dat (.int .i64 x.kind))):=by rw[a8X];rfl
@[go_sem high] theorem c5y (x:Grd) (n:Nat) (K:T→Prop):a5n false n ((b0F x).map Cell.dat) K=K (.one (.dat (.int .i64 x.kind))):=by rw[a8X];rfl
@[go_sem] theorem c6w (x:Grd):a1C 7 ((b0F x).map Cell.dat)=true:=by rw[a7X];rfl
mutual
def c3H:Grd→Nat
  |⟨_,_,_,_,_,kids⟩=>1+b8c kids
def b8c:List Grd→Nat
  |[]=>0
  |g::l=>c3H g+b8c l
end
theorem c3I (g:Grd):c3H g=1+b8c g.kids:=by cases g;simp only[c3H]
theorem b3a:∀ {l:List Grd} {g:Grd},g∈l→c3H g≤b8c l
 |x::l,g,h=>by
  simp only[b8c]
  rcases List.mem_cons.1 h with rfl|h
  ·omega
  ·have:=b3a h;omega
abbrev GSm (g:Grd):Prop:=c3H g≤100000000
theorem c3J {g k:Grd} (h:k∈g.kids):c3H k<c3H g:=by have:=c3I g;have:=b3a h;omega
theorem GSm.kid {g:Grd} (h:GSm g):∀ k∈g.kids,GSm k:=fun k hk=>by have:=c3J hk;unfold GSm at *; omega
end Go.Proofs.YthbcdhfiibpeaaaGreat


