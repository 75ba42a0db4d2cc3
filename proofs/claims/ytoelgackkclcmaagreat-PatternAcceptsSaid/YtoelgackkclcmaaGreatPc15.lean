/- Lemmas. -/
import Derived.Test.YtoelgackkclcmaaGreatPc7
open Go.Proofs.Tryz renaming prog→zP
open List renaming length_map→lB
open Bool renaming not_eq_true'→zM,not_eq_false'→zN
set_option linter.unusedSimpArgs false
set_option linter.unusedVariables false
set_option maxRecDepth 20000
set_option maxHeartbeats 64000000
namespace Go.Proofs.YtoelgackkclcmaaGreat
open Go Go.Sx
def a56 (k:Int):Bool:=decide (k=1)||(decide (k=4)||decide (k=9))
def a2m (k:Int):Bool:=decide (k=2)||decide (k=3)
def a2n (k:Int):Bool:=decide (k=6)||(decide (k=7)||decide (k=8))
def a2o (k:Int):Bool:=decide (k=8)
def a2p (k:Int):Bool:=decide (k=9)
def a09 (k:Int):Bool:=decide (1≤k)&&decide (k≤9)
theorem c5Y (k:Int):k=1∨k=2∨k=3∨k=4∨k=5∨k=6∨k=7∨k=8∨k=9∨(decide (k=1)=false∧decide (k=2)=false∧decide (k=3)=false∧decide (k=4)=false∧decide (k=5)=false∧decide (k=6)=false∧decide (k=7)=false∧decide (k=8)=false∧decide (k=9)=false∧a09 k=false):=by
  unfold a09;simp only[zah,Bool.and_eq_false_iff];omega
theorem a6M (k:Int):PC zP 225 [I .i64 k] (.tup [.st [.bool (a56 k), .bool (a2m k), .bool (a2n k), .bool (a2o k), .bool (a2p k)],Bo (a09 k)]):=by
 refine PCB.ob Tryz.func225 Tryz.ntmps225 Tryz.results225 ?_
 rcases c5Y k with rfl|rfl|rfl|rfl|rfl|rfl|rfl|rfl|rfl|⟨h1,h2,h3,h4,h5,h6,h7,h8,h9,hk⟩
 iterate 9
  ·
   repeat'(first|simp only[go_sem]<;>refine nf ?_|refine stp ?_;intro K hK|apply hK;clear hK K|refine stn ?_|clear hK K)
   all_goals exact lf
 ·
  repeat'(first|simp only[go_sem,h1,h2,h3,h4,h5,h6,h7,h8,h9]<;>refine nf ?_|refine stp ?_;intro K hK|apply hK;clear hK K|refine stn ?_|fail)
  all_goals(first|exact lf|(refine a0m ?_;simp only[a56,a2m,a2n,a2o,a2p,h1,h2,h3,h4,h5,h6,h7,h8,h9,hk,zb,zaa,zab,zac,zad]<;>rfl))
def a85 (v:Val):Int:=(v.kids[1]?.getD a2f).kind
def a0L (v:Val):Bool:=(!a56 v.kind&&!decide (v.num=0))||((!a2m v.kind&&!decide (v.text=[]))||((!a2n v.kind&&decide ((0:Int)<v.kids.length))||((!a2o v.kind&&decide ((0:Int)<v.keys.length))||(!a2p v.kind&&decide ((0:Int)<v.ents.length)))))
def a2R (v:Val):Bool:=
  bif decide (v.kind=2) then decide ((v.text.length:Int)≤64) else
  bif decide (v.kind=3) then a2G v.text else
  bif decide (v.kind=4) then decide (0≤v.num) else
  bif decide (v.kind=6) then decide ((v.kids.length:Int)≤4) else
  bif decide (v.kind=7) then decide ((v.kids.length:Int)=2)&&(decide (a85 v=5)||decide (a85 v=7)) else
  bif decide (v.kind=8) then c5E v else
  bif decide (v.kind=9) then c8O v else true
def a0K (v:Val):Bool:=a09 v.kind&&(a40 v.labels&&(!a0L v&&a2R v))
theorem b8u (v:Val):PC zP 227 [.st [.int .i64 v.kind, .int .i64 v.num, .str v.text, .sl 7 (v.kids.map a0c), .sl 2 (v.keys.map a0i), .sl 9 (v.ents.map a0n), .sl 1 (v.labels.map Sx.encStr)]] (Bo (c5E v)):=by
  rw[← a0a];exact b9s v
theorem b0E (v:Val):PC zP 228 [.st [.int .i64 v.kind, .int .i64 v.num, .str v.text, .sl 7 (v.kids.map a0c), .sl 2 (v.keys.map a0i), .sl 9 (v.ents.map a0n), .sl 1 (v.labels.map Sx.encStr)]] (Bo (c8O v)):=by
  rw[← a0a];exact b1B v
theorem b5L (v:Val) (hk:v.kind=1):PC zP 182 [.st (a0c v)] (Bo (a0K v)):=by
  refine PCB.ob Tryz.func182 Tryz.ntmps182 Tryz.results182 ?_
  repeat'(first|simp only[go_sem,a0a,hk,a56,a2m,a2n,a2o,a2p,a09,lB]<;>refine nf ?_|refine stp ?_;intro K hK|apply hK;clear hK K|refine stn ?_|(refine AWP.cnd ?_ ?_<;>intro h<;>(try simp only[zM,zN] at h))|(refine⟨fun h=>?_,fun h=>?_⟩<;>(try simp only[zM,zN] at h)<;>try simp only[h])|(with_reducible first|refine⟨_,a6M 1,?_⟩|refine⟨_,a1w _,?_⟩)|refine stq ?_|clear hK K)
  all_goals(first|exact lf|(refine a0m ?_;simp only[a0K,a0L,a2R,a56,a2m,a2n,a2o,a2p,a09,hk,Int.reduceEq,Int.reduceLE, *, zb,zaa,zab,zac,zad]<;>rfl))
theorem b5M (v:Val) (hk:v.kind=2):PC zP 182 [.st (a0c v)] (Bo (a0K v)):=by
  refine PCB.ob Tryz.func182 Tryz.ntmps182 Tryz.results182 ?_
  repeat'(first|simp only[go_sem,a0a,hk,a56,a2m,a2n,a2o,a2p,a09,lB]<;>refine nf ?_|refine stp ?_;intro K hK|apply hK;clear hK K|refine stn ?_|(refine AWP.cnd ?_ ?_<;>intro h<;>(try simp only[zM,zN] at h))|(refine⟨fun h=>?_,fun h=>?_⟩<;>(try simp only[zM,zN] at h)<;>try simp only[h])|(with_reducible first|refine⟨_,a6M 2,?_⟩|refine⟨_,a1w _,?_⟩)|refine stq ?_|clear hK K)
  all_goals(first|exact lf|(refine a0m ?_;simp only[a0K,a0L,a2R,a56,a2m,a2n,a2o,a2p,a09,hk,Int.reduceEq,Int.reduceLE, *, zb,zaa,zab,zac,zad]<;>rfl))
theorem b5N (v:Val) (hk:v.kind=3):PC zP 182 [.st (a0c v)] (Bo (a0K v)):=by
  refine PCB.ob Tryz.func182 Tryz.ntmps182 Tryz.results182 ?_
  repeat'(first|simp only[go_sem,a0a,hk,a56,a2m,a2n,a2o,a2p,a09,lB]<;>refine nf ?_|refine stp ?_;intro K hK|apply hK;clear hK K|refine stn ?_|(refine AWP.cnd ?_ ?_<;>intro h<;>(try simp only[zM,zN] at h))|(refine⟨fun h=>?_,fun h=>?_⟩<;>(try simp only[zM,zN] at h)<;>try simp only[h])|(with_reducible first|refine⟨_,a6M 3,?_⟩|refine⟨_,a1w _,?_⟩|refine⟨_,a4x _,?_⟩)|refine stq ?_|clear hK K)
  all_goals(first|exact lf|(refine a0m ?_;simp only[a0K,a0L,a2R,a56,a2m,a2n,a2o,a2p,a09,hk,Int.reduceEq,Int.reduceLE, *, zb,zaa,zab,zac,zad]<;>rfl))
theorem b5O (v:Val) (hk:v.kind=4):PC zP 182 [.st (a0c v)] (Bo (a0K v)):=by
  refine PCB.ob Tryz.func182 Tryz.ntmps182 Tryz.results182 ?_
  repeat'(first|simp only[go_sem,a0a,hk,a56,a2m,a2n,a2o,a2p,a09,lB]<;>refine nf ?_|refine stp ?_;intro K hK|apply hK;clear hK K|refine stn ?_|(refine AWP.cnd ?_ ?_<;>intro h<;>(try simp only[zM,zN] at h))|(refine⟨fun h=>?_,fun h=>?_⟩<;>(try simp only[zM,zN] at h)<;>try simp only[h])|(with_reducible first|refine⟨_,a6M 4,?_⟩|refine⟨_,a1w _,?_⟩)|refine stq ?_|clear hK K)
  all_goals(first|exact lf|(refine a0m ?_;simp only[a0K,a0L,a2R,a56,a2m,a2n,a2o,a2p,a09,hk,Int.reduceEq,Int.reduceLE, *, zb,zaa,zab,zac,zad]<;>rfl))
theorem b5P (v:Val) (hk:v.kind=5):PC zP 182 [.st (a0c v)] (Bo (a0K v)):=by
  refine PCB.ob Tryz.func182 Tryz.ntmps182 Tryz.results182 ?_
  repeat'(first|simp only[go_sem,a0a,hk,a56,a2m,a2n,a2o,a2p,a09,lB]<;>refine nf ?_|refine stp ?_;intro K hK|apply hK;clear hK K|refine stn ?_|(refine AWP.cnd ?_ ?_<;>intro h<;>(try simp only[zM,zN] at h))|(refine⟨fun h=>?_,fun h=>?_⟩<;>(try simp only[zM,zN] at h)<;>try simp only[h])|(with_reducible first|refine⟨_,a6M 5,?_⟩|refine⟨_,a1w _,?_⟩)|refine stq ?_|clear hK K)
  all_goals(first|exact lf|(refine a0m ?_;simp only[a0K,a0L,a2R,a56,a2m,a2n,a2o,a2p,a09,hk,Int.reduceEq,Int.reduceLE, *, zb,zaa,zab,zac,zad]<;>rfl))
theorem b5Q (v:Val) (hk:v.kind=6):PC zP 182 [.st (a0c v)] (Bo (a0K v)):=by
  refine PCB.ob Tryz.func182 Tryz.ntmps182 Tryz.results182 ?_
  repeat'(first|simp only[go_sem,a0a,hk,a56,a2m,a2n,a2o,a2p,a09,lB]<;>refine nf ?_|refine stp ?_;intro K hK|apply hK;clear hK K|refine stn ?_|(refine AWP.cnd ?_ ?_<;>intro h<;>(try simp only[zM,zN] at h))|(refine⟨fun h=>?_,fun h=>?_⟩<;>(try simp only[zM,zN] at h)<;>try simp only[h])|(with_reducible first|refine⟨_,a6M 6,?_⟩|refine⟨_,a1w _,?_⟩)|refine stq ?_|clear hK K)
  all_goals(first|exact lf|(refine a0m ?_;simp only[a0K,a0L,a2R,a56,a2m,a2n,a2o,a2p,a09,hk,Int.reduceEq,Int.reduceLE, *, zb,zaa,zab,zac,zad]<;>rfl))
theorem b5R (v:Val) (hk:v.kind=7):PC zP 182 [.st (a0c v)] (Bo (a0K v)):=by
 cases h2:decide ((v.kids.length:Int)=2) with
 |true=>
  have hl:v.kids.length=2:=by have:=of_decide_eq_true h2;omega
  obtain⟨y,hy,q,_,_⟩:=a1A (enc:=a0c) (show 1<v.kids.length by omega)
  have u:a85 v=y.kind:=by unfold a85;rw[hy];rfl
  cases h5:decide (y.kind=5)<;>cases h7:decide (y.kind=7)
  all_goals
   refine PCB.ob Tryz.func182 Tryz.ntmps182 Tryz.results182 ?_
   repeat'(first|simp only[go_sem,a0a,hk,h2,h5,h7,a56,a2m,a2n,a2o,a2p,a09,lB]<;>refine nf ?_|refine stp ?_;intro K hK|apply hK;clear hK K|refine stn ?_|(refine AWP.cnd ?_ ?_<;>intro h<;>(try simp only[zM,zN] at h))|(refine⟨fun h=>?_,fun h=>?_⟩<;>(try simp only[zM,zN] at h)<;>try simp only[h])|(with_reducible first|refine⟨_,a6M 7,?_⟩|refine⟨_,a1w _,?_⟩|refine⟨a0c y,q,?_⟩)|refine stq ?_|clear hK K)
   all_goals(first|exact lf|(refine a0m ?_;simp only[a0K,a0L,a2R,a56,a2m,a2n,a2o,a2p,a09,hk,Int.reduceEq,Int.reduceLE, *, u,zb,zaa,zab,zac,zad]<;>rfl))
 |false=>
  refine PCB.ob Tryz.func182 Tryz.ntmps182 Tryz.results182 ?_
  repeat'(first|simp only[go_sem,a0a,hk,h2,a56,a2m,a2n,a2o,a2p,a09,lB]<;>refine nf ?_|refine stp ?_;intro K hK|apply hK;clear hK K|refine stn ?_|(refine AWP.cnd ?_ ?_<;>intro h<;>(try simp only[zM,zN] at h))|(refine⟨fun h=>?_,fun h=>?_⟩<;>(try simp only[zM,zN] at h)<;>try simp only[h])|(with_reducible first|refine⟨_,a6M 7,?_⟩|refine⟨_,a1w _,?_⟩)|refine stq ?_|clear hK K)
  all_goals(first|exact lf|(refine a0m ?_;simp only[a0K,a0L,a2R,a56,a2m,a2n,a2o,a2p,a09,hk,Int.reduceEq,Int.reduceLE, *, zb,zaa,zab,zac,zad]<;>rfl))
theorem b5S (v:Val) (hk:v.kind=8):PC zP 182 [.st (a0c v)] (Bo (a0K v)):=by
  have q:=b8u v
  rw[hk] at q
  refine PCB.ob Tryz.func182 Tryz.ntmps182 Tryz.results182 ?_
  repeat'(first|simp only[go_sem,a0a,hk,a56,a2m,a2n,a2o,a2p,a09,lB]<;>refine nf ?_|refine stp ?_;intro K hK|apply hK;clear hK K|refine stn ?_|(refine AWP.cnd ?_ ?_<;>intro h<;>(try simp only[zM,zN] at h))|(refine⟨fun h=>?_,fun h=>?_⟩<;>(try simp only[zM,zN] at h)<;>try simp only[h])|(with_reducible first|refine⟨_,a6M 8,?_⟩|refine⟨_,a1w _,?_⟩|refine⟨_,q,?_⟩)|refine stq ?_|clear hK K)
  all_goals(first|exact lf|(refine a0m ?_;simp only[a0K,a0L,a2R,a56,a2m,a2n,a2o,a2p,a09,hk,Int.reduceEq,Int.reduceLE, *, zb,zaa,zab,zac,zad]<;>rfl))
theorem b5T (v:Val) (hk:v.kind=9):PC zP 182 [.st (a0c v)] (Bo (a0K v)):=by
  have q:=b0E v
  rw[hk] at q
  refine PCB.ob Tryz.func182 Tryz.ntmps182 Tryz.results182 ?_
  repeat'(first|simp only[go_sem,a0a,hk,a56,a2m,a2n,a2o,a2p,a09,lB]<;>refine nf ?_|refine stp ?_;intro K hK|apply hK;clear hK K|refine stn ?_|(refine AWP.cnd ?_ ?_<;>intro h<;>(try simp only[zM,zN] at h))|(refine⟨fun h=>?_,fun h=>?_⟩<;>(try simp only[zM,zN] at h)<;>try simp only[h])|(with_reducible first|refine⟨_,a6M 9,?_⟩|refine⟨_,a1w _,?_⟩|refine⟨_,q,?_⟩)|refine stq ?_|clear hK K)
  all_goals(first|exact lf|(refine a0m ?_;simp only[a0K,a0L,a2R,a56,a2m,a2n,a2o,a2p,a09,hk,Int.reduceEq,Int.reduceLE, *, zb,zaa,zab,zac,zad]<;>rfl))
theorem b5U (v:Val):PC zP 182 [.st (a0c v)] (Bo (a0K v)):=by
 rcases c5Y v.kind with h|h|h|h|h|h|h|h|h|⟨h1,h2,h3,h4,h5,h6,h7,h8,h9,hk⟩
 ·exact b5L v h
 ·exact b5M v h
 ·exact b5N v h
 ·exact b5O v h
 ·exact b5P v h
 ·exact b5Q v h
 ·exact b5R v h
 ·exact b5S v h
 ·exact b5T v h
 ·
  refine PCB.ob Tryz.func182 Tryz.ntmps182 Tryz.results182 ?_
  repeat'(first|simp only[go_sem,a0a,hk]<;>refine nf ?_|refine stp ?_;intro K hK|apply hK;clear hK K|refine stn ?_|(with_reducible refine⟨_,a6M _,?_⟩)|refine stq ?_|clear hK K)
  all_goals(first|exact lf|(refine a0m ?_;simp only[a0K,hk,zb,zaa,zab,zac,zad]<;>rfl))
end Go.Proofs.YtoelgackkclcmaaGreat

