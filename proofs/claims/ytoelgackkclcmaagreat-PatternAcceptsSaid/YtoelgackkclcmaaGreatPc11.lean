/- Lemmas. -/
import Derived.Test.YtoelgackkclcmaaGreatPc9
open Go.Proofs.Tryz renaming prog→zP
open List renaming length_map→lB,take_length→lK,mem_of_getElem?→lP
open Go.Sx.AWP renaming range→xC,lenB→xE
open Bool renaming not_eq_true'→zM,not_eq_false'→zN
set_option linter.unusedSimpArgs false
set_option linter.unusedVariables false
set_option maxRecDepth 20000
set_option maxHeartbeats 64000000
namespace Go.Proofs.YtoelgackkclcmaaGreat
open Go Go.Sx
structure kindZ (k:Int):Prop where
  g1:decide (k=1)=false
  g2:decide (k=2)=false
  g3:decide (k=3)=false
  g4:decide (k=4)=false
  g5:decide (k=5)=false
  g6:decide (k=6)=false
  g7:decide (k=7)=false
  g8:decide (k=8)=false
  g9:decide (k=9)=false
  g10:decide (k=10)=false
  g11:decide (k=11)=false
  g12:decide (k=12)=false
  g13:decide (k=13)=false
  g14:decide (k=14)=false
  g15:decide (k=15)=false
  g16:decide (k=16)=false
  g17:decide (k=17)=false
  g18:decide (k=18)=false
  g19:decide (k=19)=false
theorem c4H (k:Int):k=1∨k=2∨k=3∨k=4∨k=5∨k=6∨k=7∨k=8∨k=9∨k=10∨k=11∨k=12∨k=13∨k=14∨k=15∨k=16∨k=17∨k=18∨k=19∨kindZ k:=by
 by_cases h:1≤k∧k≤19
 ·omega
 ·have e:∀ i:Int,1≤i→i≤19→decide (k=i)=false:=fun i h1 h2=>by rw[zah];omega
  exact .inr (.inr (.inr (.inr (.inr (.inr (.inr (.inr (.inr (.inr (.inr (.inr (.inr (.inr (.inr (.inr (.inr (.inr (.inr ⟨e _ (by decide) (by decide),e _ (by decide) (by decide),e _ (by decide) (by decide),e _ (by decide) (by decide),e _ (by decide) (by decide),e _ (by decide) (by decide),e _ (by decide) (by decide),e _ (by decide) (by decide),e _ (by decide) (by decide),e _ (by decide) (by decide),e _ (by decide) (by decide),e _ (by decide) (by decide),e _ (by decide) (by decide),e _ (by decide) (by decide),e _ (by decide) (by decide),e _ (by decide) (by decide),e _ (by decide) (by decide),e _ (by decide) (by decide),e _ (by decide) (by decide)⟩))))))))))))))))))
theorem c5O (l:List NodeD) (r:Int) (x:NodeD) (hk:x.kind=1):PC zP 156 [Tt l r,Nt x] (Bo (a0F l x)):=by
 refine PCB.ob Tryz.func156 Tryz.ntmps156 Tryz.results156 ?_
 repeat'(first|simp only[go_sem,lB,hk,a0d]<;>refine nf ?_|refine stp ?_;intro K hK|apply hK;clear hK K|refine stn ?_|fail)
 refine xE 3 4 rfl rfl fun q=>?_
 (try rw[lB] at q)
 refine xC (S:=Unit) (x.kids) a0h (fun k s=>(5,I .i64 (k:Nat))::[]) (fun k s=>[]) [2,3] [2,3] (fun k s=>(x.kids.take k).all (inB l)=true) (()) (by refine sts ?_;exact Gh.tt []) ?_ ?_ ?_
 ·simp
 ·intro k s y ae hy ab aa u
  refine sts ?_
  have ad:=a0R (p:=inB l) hy
  rw[u,zae] at ad
  cases hi:inB l y
  ·
   repeat'(first|simp only[go_sem,lB,hk,aa,hi,a0h]<;>refine nf ?_|refine stp ?_;intro K hK|apply hK;clear hK K|refine stn ?_|(with_reducible first|refine⟨by omega,a0h y,ab,?_⟩|refine⟨_,a0C l r y,?_⟩)|(refine a0J ?_;intro K hK)|clear hK K)
   all_goals(refine a0m ?_;rw[a0F,a14 (lP hy) hi];rfl)
  ·
   repeat'(first|simp only[go_sem,lB,hk,aa,hi,a0h]<;>refine nf ?_|refine stp ?_;intro K hK|apply hK;clear hK K|refine stn ?_|(with_reducible first|refine⟨by omega,a0h y,ab,?_⟩|refine⟨_,a0C l r y,?_⟩)|(refine a0J ?_;intro K hK)|clear hK K)
   all_goals(rw[a0b ae q])
   all_goals(refine⟨(),?_,Gh.tt []⟩)
   all_goals(rw[ad,hi])
 ·intro s aa u
  refine sts ?_
  rw[lK] at u
  have e:a0F l x=bif a1R x then false else bif a12 x then false else a1S l x:=by unfold a0F;rw[u];rfl
  repeat'(first|simp only[go_sem,lB,hk,aa]<;>refine nf ?_|refine stp ?_;intro K hK|apply hK;clear hK K|refine stn ?_|(refine AWP.cnd ?_ ?_<;>intro h<;>(try simp only[zM,zN] at h))|(refine⟨fun h=>?_,fun h=>?_⟩<;>(try simp only[zM,zN] at h)<;>try simp only[h])|clear hK K)
  all_goals(refine a0m ?_;rw[e];simp only[a1R,a12,a1S, *, Int.reduceEq,zad,zac,zat,zar,zap,zam,zaj,zaq,zaw,zae,zay,zai,zaa,zab]<;>rfl)
theorem c5P (l:List NodeD) (r:Int) (x:NodeD) (hk:x.kind=2):PC zP 156 [Tt l r,Nt x] (Bo (a0F l x)):=by
 refine PCB.ob Tryz.func156 Tryz.ntmps156 Tryz.results156 ?_
 repeat'(first|simp only[go_sem,lB,hk,a0d]<;>refine nf ?_|refine stp ?_;intro K hK|apply hK;clear hK K|refine stn ?_|fail)
 refine xE 3 4 rfl rfl fun q=>?_
 (try rw[lB] at q)
 refine xC (S:=Unit) (x.kids) a0h (fun k s=>(5,I .i64 (k:Nat))::[]) (fun k s=>[]) [2,3] [2,3] (fun k s=>(x.kids.take k).all (inB l)=true) (()) (by refine sts ?_;exact Gh.tt []) ?_ ?_ ?_
 ·simp
 ·intro k s y ae hy ab aa u
  refine sts ?_
  have ad:=a0R (p:=inB l) hy
  rw[u,zae] at ad
  cases hi:inB l y
  ·
   repeat'(first|simp only[go_sem,lB,hk,aa,hi,a0h]<;>refine nf ?_|refine stp ?_;intro K hK|apply hK;clear hK K|refine stn ?_|(with_reducible first|refine⟨by omega,a0h y,ab,?_⟩|refine⟨_,a0C l r y,?_⟩)|(refine a0J ?_;intro K hK)|clear hK K)
   all_goals(refine a0m ?_;rw[a0F,a14 (lP hy) hi];rfl)
  ·
   repeat'(first|simp only[go_sem,lB,hk,aa,hi,a0h]<;>refine nf ?_|refine stp ?_;intro K hK|apply hK;clear hK K|refine stn ?_|(with_reducible first|refine⟨by omega,a0h y,ab,?_⟩|refine⟨_,a0C l r y,?_⟩)|(refine a0J ?_;intro K hK)|clear hK K)
   all_goals(rw[a0b ae q])
   all_goals(refine⟨(),?_,Gh.tt []⟩)
   all_goals(rw[ad,hi])
 ·intro s aa u
  refine sts ?_
  rw[lK] at u
  have e:a0F l x=bif a1R x then false else bif a12 x then false else a1S l x:=by unfold a0F;rw[u];rfl
  repeat'(first|simp only[go_sem,lB,hk,aa]<;>refine nf ?_|refine stp ?_;intro K hK|apply hK;clear hK K|refine stn ?_|(refine AWP.cnd ?_ ?_<;>intro h<;>(try simp only[zM,zN] at h))|(refine⟨fun h=>?_,fun h=>?_⟩<;>(try simp only[zM,zN] at h)<;>try simp only[h])|clear hK K)
  all_goals(refine a0m ?_;rw[e];simp only[a1R,a12,a1S, *, Int.reduceEq,zad,zac,zat,zar,zap,zam,zaj,zaq,zaw,zae,zay,zai,zaa,zab]<;>rfl)
theorem c5Q (l:List NodeD) (r:Int) (x:NodeD) (hk:x.kind=5):PC zP 156 [Tt l r,Nt x] (Bo (a0F l x)):=by
 refine PCB.ob Tryz.func156 Tryz.ntmps156 Tryz.results156 ?_
 repeat'(first|simp only[go_sem,lB,hk,a0d]<;>refine nf ?_|refine stp ?_;intro K hK|apply hK;clear hK K|refine stn ?_|fail)
 refine xE 3 4 rfl rfl fun q=>?_
 (try rw[lB] at q)
 refine xC (S:=Unit) (x.kids) a0h (fun k s=>(5,I .i64 (k:Nat))::[]) (fun k s=>[]) [2,3] [2,3] (fun k s=>(x.kids.take k).all (inB l)=true) (()) (by refine sts ?_;exact Gh.tt []) ?_ ?_ ?_
 ·simp
 ·intro k s y ae hy ab aa u
  refine sts ?_
  have ad:=a0R (p:=inB l) hy
  rw[u,zae] at ad
  cases hi:inB l y
  ·
   repeat'(first|simp only[go_sem,lB,hk,aa,hi,a0h]<;>refine nf ?_|refine stp ?_;intro K hK|apply hK;clear hK K|refine stn ?_|(with_reducible first|refine⟨by omega,a0h y,ab,?_⟩|refine⟨_,a0C l r y,?_⟩)|(refine a0J ?_;intro K hK)|clear hK K)
   all_goals(refine a0m ?_;rw[a0F,a14 (lP hy) hi];rfl)
  ·
   repeat'(first|simp only[go_sem,lB,hk,aa,hi,a0h]<;>refine nf ?_|refine stp ?_;intro K hK|apply hK;clear hK K|refine stn ?_|(with_reducible first|refine⟨by omega,a0h y,ab,?_⟩|refine⟨_,a0C l r y,?_⟩)|(refine a0J ?_;intro K hK)|clear hK K)
   all_goals(rw[a0b ae q])
   all_goals(refine⟨(),?_,Gh.tt []⟩)
   all_goals(rw[ad,hi])
 ·intro s aa u
  refine sts ?_
  rw[lK] at u
  have e:a0F l x=bif a1R x then false else bif a12 x then false else a1S l x:=by unfold a0F;rw[u];rfl
  repeat'(first|simp only[go_sem,lB,hk,aa]<;>refine nf ?_|refine stp ?_;intro K hK|apply hK;clear hK K|refine stn ?_|(refine AWP.cnd ?_ ?_<;>intro h<;>(try simp only[zM,zN] at h))|(refine⟨fun h=>?_,fun h=>?_⟩<;>(try simp only[zM,zN] at h)<;>try simp only[h])|clear hK K)
  all_goals(refine a0m ?_;rw[e];simp only[a1R,a12,a1S, *, Int.reduceEq,zad,zac,zat,zar,zap,zam,zaj,zaq,zaw,zae,zay,zai,zaa,zab]<;>rfl)
theorem c5R (l:List NodeD) (r:Int) (x:NodeD) (hk:x.kind=7):PC zP 156 [Tt l r,Nt x] (Bo (a0F l x)):=by
 refine PCB.ob Tryz.func156 Tryz.ntmps156 Tryz.results156 ?_
 repeat'(first|simp only[go_sem,lB,hk,a0d]<;>refine nf ?_|refine stp ?_;intro K hK|apply hK;clear hK K|refine stn ?_|fail)
 refine xE 3 4 rfl rfl fun q=>?_
 (try rw[lB] at q)
 refine xC (S:=Unit) (x.kids) a0h (fun k s=>(5,I .i64 (k:Nat))::[]) (fun k s=>[]) [2,3] [2,3] (fun k s=>(x.kids.take k).all (inB l)=true) (()) (by refine sts ?_;exact Gh.tt []) ?_ ?_ ?_
 ·simp
 ·intro k s y ae hy ab aa u
  refine sts ?_
  have ad:=a0R (p:=inB l) hy
  rw[u,zae] at ad
  cases hi:inB l y
  ·
   repeat'(first|simp only[go_sem,lB,hk,aa,hi,a0h]<;>refine nf ?_|refine stp ?_;intro K hK|apply hK;clear hK K|refine stn ?_|(with_reducible first|refine⟨by omega,a0h y,ab,?_⟩|refine⟨_,a0C l r y,?_⟩)|(refine a0J ?_;intro K hK)|clear hK K)
   all_goals(refine a0m ?_;rw[a0F,a14 (lP hy) hi];rfl)
  ·
   repeat'(first|simp only[go_sem,lB,hk,aa,hi,a0h]<;>refine nf ?_|refine stp ?_;intro K hK|apply hK;clear hK K|refine stn ?_|(with_reducible first|refine⟨by omega,a0h y,ab,?_⟩|refine⟨_,a0C l r y,?_⟩)|(refine a0J ?_;intro K hK)|clear hK K)
   all_goals(rw[a0b ae q])
   all_goals(refine⟨(),?_,Gh.tt []⟩)
   all_goals(rw[ad,hi])
 ·intro s aa u
  refine sts ?_
  rw[lK] at u
  have e:a0F l x=bif a1R x then false else bif a12 x then false else a1S l x:=by unfold a0F;rw[u];rfl
  repeat'(first|simp only[go_sem,lB,hk,aa]<;>refine nf ?_|refine stp ?_;intro K hK|apply hK;clear hK K|refine stn ?_|(refine AWP.cnd ?_ ?_<;>intro h<;>(try simp only[zM,zN] at h))|(refine⟨fun h=>?_,fun h=>?_⟩<;>(try simp only[zM,zN] at h)<;>try simp only[h])|clear hK K)
  all_goals(refine a0m ?_;rw[e];simp only[a1R,a12,a1S, *, Int.reduceEq,zad,zac,zat,zar,zap,zam,zaj,zaq,zaw,zae,zay,zai,zaa,zab]<;>rfl)
theorem c5S (l:List NodeD) (r:Int) (x:NodeD) (hk:x.kind=8):PC zP 156 [Tt l r,Nt x] (Bo (a0F l x)):=by
 refine PCB.ob Tryz.func156 Tryz.ntmps156 Tryz.results156 ?_
 repeat'(first|simp only[go_sem,lB,hk,a0d]<;>refine nf ?_|refine stp ?_;intro K hK|apply hK;clear hK K|refine stn ?_|fail)
 refine xE 3 4 rfl rfl fun q=>?_
 (try rw[lB] at q)
 refine xC (S:=Unit) (x.kids) a0h (fun k s=>(5,I .i64 (k:Nat))::[]) (fun k s=>[]) [2,3] [2,3] (fun k s=>(x.kids.take k).all (inB l)=true) (()) (by refine sts ?_;exact Gh.tt []) ?_ ?_ ?_
 ·simp
 ·intro k s y ae hy ab aa u
  refine sts ?_
  have ad:=a0R (p:=inB l) hy
  rw[u,zae] at ad
  cases hi:inB l y
  ·
   repeat'(first|simp only[go_sem,lB,hk,aa,hi,a0h]<;>refine nf ?_|refine stp ?_;intro K hK|apply hK;clear hK K|refine stn ?_|(with_reducible first|refine⟨by omega,a0h y,ab,?_⟩|refine⟨_,a0C l r y,?_⟩)|(refine a0J ?_;intro K hK)|clear hK K)
   all_goals(refine a0m ?_;rw[a0F,a14 (lP hy) hi];rfl)
  ·
   repeat'(first|simp only[go_sem,lB,hk,aa,hi,a0h]<;>refine nf ?_|refine stp ?_;intro K hK|apply hK;clear hK K|refine stn ?_|(with_reducible first|refine⟨by omega,a0h y,ab,?_⟩|refine⟨_,a0C l r y,?_⟩)|(refine a0J ?_;intro K hK)|clear hK K)
   all_goals(rw[a0b ae q])
   all_goals(refine⟨(),?_,Gh.tt []⟩)
   all_goals(rw[ad,hi])
 ·intro s aa u
  refine sts ?_
  rw[lK] at u
  have e:a0F l x=bif a1R x then false else bif a12 x then false else a1S l x:=by unfold a0F;rw[u];rfl
  repeat'(first|simp only[go_sem,lB,hk,aa]<;>refine nf ?_|refine stp ?_;intro K hK|apply hK;clear hK K|refine stn ?_|(refine AWP.cnd ?_ ?_<;>intro h<;>(try simp only[zM,zN] at h))|(refine⟨fun h=>?_,fun h=>?_⟩<;>(try simp only[zM,zN] at h)<;>try simp only[h])|clear hK K)
  all_goals(refine a0m ?_;rw[e];simp only[a1R,a12,a1S, *, Int.reduceEq,zad,zac,zat,zar,zap,zam,zaj,zaq,zaw,zae,zay,zai,zaa,zab]<;>rfl)
theorem c5T (l:List NodeD) (r:Int) (x:NodeD) (hk:x.kind=9):PC zP 156 [Tt l r,Nt x] (Bo (a0F l x)):=by
 refine PCB.ob Tryz.func156 Tryz.ntmps156 Tryz.results156 ?_
 repeat'(first|simp only[go_sem,lB,hk,a0d]<;>refine nf ?_|refine stp ?_;intro K hK|apply hK;clear hK K|refine stn ?_|fail)
 refine xE 3 4 rfl rfl fun q=>?_
 (try rw[lB] at q)
 refine xC (S:=Unit) (x.kids) a0h (fun k s=>(5,I .i64 (k:Nat))::[]) (fun k s=>[]) [2,3] [2,3] (fun k s=>(x.kids.take k).all (inB l)=true) (()) (by refine sts ?_;exact Gh.tt []) ?_ ?_ ?_
 ·simp
 ·intro k s y ae hy ab aa u
  refine sts ?_
  have ad:=a0R (p:=inB l) hy
  rw[u,zae] at ad
  cases hi:inB l y
  ·
   repeat'(first|simp only[go_sem,lB,hk,aa,hi,a0h]<;>refine nf ?_|refine stp ?_;intro K hK|apply hK;clear hK K|refine stn ?_|(with_reducible first|refine⟨by omega,a0h y,ab,?_⟩|refine⟨_,a0C l r y,?_⟩)|(refine a0J ?_;intro K hK)|clear hK K)
   all_goals(refine a0m ?_;rw[a0F,a14 (lP hy) hi];rfl)
  ·
   repeat'(first|simp only[go_sem,lB,hk,aa,hi,a0h]<;>refine nf ?_|refine stp ?_;intro K hK|apply hK;clear hK K|refine stn ?_|(with_reducible first|refine⟨by omega,a0h y,ab,?_⟩|refine⟨_,a0C l r y,?_⟩)|(refine a0J ?_;intro K hK)|clear hK K)
   all_goals(rw[a0b ae q])
   all_goals(refine⟨(),?_,Gh.tt []⟩)
   all_goals(rw[ad,hi])
 ·intro s aa u
  refine sts ?_
  rw[lK] at u
  have e:a0F l x=bif a1R x then false else bif a12 x then false else a1S l x:=by unfold a0F;rw[u];rfl
  repeat'(first|simp only[go_sem,lB,hk,aa]<;>refine nf ?_|refine stp ?_;intro K hK|apply hK;clear hK K|refine stn ?_|(refine AWP.cnd ?_ ?_<;>intro h<;>(try simp only[zM,zN] at h))|(refine⟨fun h=>?_,fun h=>?_⟩<;>(try simp only[zM,zN] at h)<;>try simp only[h])|clear hK K)
  all_goals(refine a0m ?_;rw[e];simp only[a1R,a12,a1S, *, Int.reduceEq,zad,zac,zat,zar,zap,zam,zaj,zaq,zaw,zae,zay,zai,zaa,zab]<;>rfl)
theorem c2D (l:List NodeD) (r:Int) (x:NodeD) (hk:x.kind=11):PC zP 156 [Tt l r,Nt x] (Bo (a0F l x)):=by
 refine PCB.ob Tryz.func156 Tryz.ntmps156 Tryz.results156 ?_
 repeat'(first|simp only[go_sem,lB,hk,a0d]<;>refine nf ?_|refine stp ?_;intro K hK|apply hK;clear hK K|refine stn ?_|fail)
 refine xE 3 4 rfl rfl fun q=>?_
 (try rw[lB] at q)
 refine xC (S:=Unit) (x.kids) a0h (fun k s=>(5,I .i64 (k:Nat))::[]) (fun k s=>[]) [2,3] [2,3] (fun k s=>(x.kids.take k).all (inB l)=true) (()) (by refine sts ?_;exact Gh.tt []) ?_ ?_ ?_
 ·simp
 ·intro k s y ae hy ab aa u
  refine sts ?_
  have ad:=a0R (p:=inB l) hy
  rw[u,zae] at ad
  cases hi:inB l y
  ·
   repeat'(first|simp only[go_sem,lB,hk,aa,hi,a0h]<;>refine nf ?_|refine stp ?_;intro K hK|apply hK;clear hK K|refine stn ?_|(with_reducible first|refine⟨by omega,a0h y,ab,?_⟩|refine⟨_,a0C l r y,?_⟩)|(refine a0J ?_;intro K hK)|clear hK K)
   all_goals(refine a0m ?_;rw[a0F,a14 (lP hy) hi];rfl)
  ·
   repeat'(first|simp only[go_sem,lB,hk,aa,hi,a0h]<;>refine nf ?_|refine stp ?_;intro K hK|apply hK;clear hK K|refine stn ?_|(with_reducible first|refine⟨by omega,a0h y,ab,?_⟩|refine⟨_,a0C l r y,?_⟩)|(refine a0J ?_;intro K hK)|clear hK K)
   all_goals(rw[a0b ae q])
   all_goals(refine⟨(),?_,Gh.tt []⟩)
   all_goals(rw[ad,hi])
 ·intro s aa u
  refine sts ?_
  rw[lK] at u
  have e:a0F l x=bif a1R x then false else bif a12 x then false else a1S l x:=by unfold a0F;rw[u];rfl
  repeat'(first|simp only[go_sem,lB,hk,aa]<;>refine nf ?_|refine stp ?_;intro K hK|apply hK;clear hK K|refine stn ?_|(refine AWP.cnd ?_ ?_<;>intro h<;>(try simp only[zM,zN] at h))|(refine⟨fun h=>?_,fun h=>?_⟩<;>(try simp only[zM,zN] at h)<;>try simp only[h])|clear hK K)
  all_goals(refine a0m ?_;rw[e];simp only[a1R,a12,a1S, *, Int.reduceEq,zad,zac,zat,zar,zap,zam,zaj,zaq,zaw,zae,zay,zai,zaa,zab]<;>rfl)
theorem c2E (l:List NodeD) (r:Int) (x:NodeD) (hk:x.kind=15):PC zP 156 [Tt l r,Nt x] (Bo (a0F l x)):=by
 refine PCB.ob Tryz.func156 Tryz.ntmps156 Tryz.results156 ?_
 repeat'(first|simp only[go_sem,lB,hk,a0d]<;>refine nf ?_|refine stp ?_;intro K hK|apply hK;clear hK K|refine stn ?_|fail)
 refine xE 3 4 rfl rfl fun q=>?_
 (try rw[lB] at q)
 refine xC (S:=Unit) (x.kids) a0h (fun k s=>(5,I .i64 (k:Nat))::[]) (fun k s=>[]) [2,3] [2,3] (fun k s=>(x.kids.take k).all (inB l)=true) (()) (by refine sts ?_;exact Gh.tt []) ?_ ?_ ?_
 ·simp
 ·intro k s y ae hy ab aa u
  refine sts ?_
  have ad:=a0R (p:=inB l) hy
  rw[u,zae] at ad
  cases hi:inB l y
  ·
   repeat'(first|simp only[go_sem,lB,hk,aa,hi,a0h]<;>refine nf ?_|refine stp ?_;intro K hK|apply hK;clear hK K|refine stn ?_|(with_reducible first|refine⟨by omega,a0h y,ab,?_⟩|refine⟨_,a0C l r y,?_⟩)|(refine a0J ?_;intro K hK)|clear hK K)
   all_goals(refine a0m ?_;rw[a0F,a14 (lP hy) hi];rfl)
  ·
   repeat'(first|simp only[go_sem,lB,hk,aa,hi,a0h]<;>refine nf ?_|refine stp ?_;intro K hK|apply hK;clear hK K|refine stn ?_|(with_reducible first|refine⟨by omega,a0h y,ab,?_⟩|refine⟨_,a0C l r y,?_⟩)|(refine a0J ?_;intro K hK)|clear hK K)
   all_goals(rw[a0b ae q])
   all_goals(refine⟨(),?_,Gh.tt []⟩)
   all_goals(rw[ad,hi])
 ·intro s aa u
  refine sts ?_
  rw[lK] at u
  have e:a0F l x=bif a1R x then false else bif a12 x then false else a1S l x:=by unfold a0F;rw[u];rfl
  repeat'(first|simp only[go_sem,lB,hk,aa]<;>refine nf ?_|refine stp ?_;intro K hK|apply hK;clear hK K|refine stn ?_|(refine AWP.cnd ?_ ?_<;>intro h<;>(try simp only[zM,zN] at h))|(refine⟨fun h=>?_,fun h=>?_⟩<;>(try simp only[zM,zN] at h)<;>try simp only[h])|clear hK K)
  all_goals(refine a0m ?_;rw[e];simp only[a1R,a12,a1S, *, Int.reduceEq,zad,zac,zat,zar,zap,zam,zaj,zaq,zaw,zae,zay,zai,zaa,zab]<;>rfl)
theorem c5U (l:List NodeD) (r:Int) (x:NodeD) (g:kindZ x.kind):PC zP 156 [Tt l r,Nt x] (Bo (a0F l x)):=by
 obtain⟨g1,g2,g3,g4,g5,g6,g7,g8,g9,g10,g11,g12,g13,g14,g15,g16,g17,g18,g19⟩:=g
 refine PCB.ob Tryz.func156 Tryz.ntmps156 Tryz.results156 ?_
 repeat'(first|simp only[go_sem,lB,g1,g2,g3,g4,g5,g6,g7,g8,g9,g10,g11,g12,g13,g14,g15,g16,g17,g18,g19,a0d]<;>refine nf ?_|refine stp ?_;intro K hK|apply hK;clear hK K|refine stn ?_|fail)
 refine xE 3 4 rfl rfl fun q=>?_
 (try rw[lB] at q)
 refine xC (S:=Unit) (x.kids) a0h (fun k s=>(5,I .i64 (k:Nat))::[]) (fun k s=>[]) [2,3] [2,3] (fun k s=>(x.kids.take k).all (inB l)=true) (()) (by refine sts ?_;exact Gh.tt []) ?_ ?_ ?_
 ·simp
 ·intro k s y ae hy ab aa u
  refine sts ?_
  have ad:=a0R (p:=inB l) hy
  rw[u,zae] at ad
  cases hi:inB l y
  ·
   repeat'(first|simp only[go_sem,lB,g1,g2,g3,g4,g5,g6,g7,g8,g9,g10,g11,g12,g13,g14,g15,g16,g17,g18,g19,aa,hi,a0h]<;>refine nf ?_|refine stp ?_;intro K hK|apply hK;clear hK K|refine stn ?_|(with_reducible first|refine⟨by omega,a0h y,ab,?_⟩|refine⟨_,a0C l r y,?_⟩)|(refine a0J ?_;intro K hK)|clear hK K)
   all_goals(refine a0m ?_;rw[a0F,a14 (lP hy) hi];rfl)
  ·
   repeat'(first|simp only[go_sem,lB,g1,g2,g3,g4,g5,g6,g7,g8,g9,g10,g11,g12,g13,g14,g15,g16,g17,g18,g19,aa,hi,a0h]<;>refine nf ?_|refine stp ?_;intro K hK|apply hK;clear hK K|refine stn ?_|(with_reducible first|refine⟨by omega,a0h y,ab,?_⟩|refine⟨_,a0C l r y,?_⟩)|(refine a0J ?_;intro K hK)|clear hK K)
   all_goals(rw[a0b ae q])
   all_goals(refine⟨(),?_,Gh.tt []⟩)
   all_goals(rw[ad,hi])
 ·intro s aa u
  refine sts ?_
  rw[lK] at u
  have e:a0F l x=bif a1R x then false else bif a12 x then false else a1S l x:=by unfold a0F;rw[u];rfl
  repeat'(first|simp only[go_sem,lB,g1,g2,g3,g4,g5,g6,g7,g8,g9,g10,g11,g12,g13,g14,g15,g16,g17,g18,g19,aa]<;>refine nf ?_|refine stp ?_;intro K hK|apply hK;clear hK K|refine stn ?_|(refine AWP.cnd ?_ ?_<;>intro h<;>(try simp only[zM,zN] at h))|(refine⟨fun h=>?_,fun h=>?_⟩<;>(try simp only[zM,zN] at h)<;>try simp only[h])|clear hK K)
  all_goals(refine a0m ?_;rw[e];simp only[a1R,a12,a1S, *, Int.reduceEq,zad,zac,zat,zar,zap,zam,zaj,zaq,zaw,zae,zay,zai,zaa,zab]<;>rfl)
end Go.Proofs.YtoelgackkclcmaaGreat

