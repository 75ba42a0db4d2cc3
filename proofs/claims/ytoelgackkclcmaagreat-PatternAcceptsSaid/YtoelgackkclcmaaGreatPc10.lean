/- Lemmas. -/
import Derived.Test.YtoelgackkclcmaaGreatPc9
open Go.Proofs.Tryz renaming prog→zP
open List renaming length_map→lB,take_length→lK,mem_of_getElem?→lP
open Go.Sx.AWP renaming range→xC,lenB→xE
open Bool renaming not_eq_true'→zM,not_eq_false'→zN
set_option linter.unusedSimpArgs false
set_option linter.unusedVariables false
set_option maxRecDepth 20000
set_option maxHeartbeats 64000000
namespace Go.Proofs.YtoelgackkclcmaaGreat
open Go Go.Sx
theorem c5L (l:List NodeD) (r:Int) (x:NodeD) (hk:x.kind=3):PC zP 156 [Tt l r,Nt x] (Bo (a0F l x)):=by
 refine PCB.ob Tryz.func156 Tryz.ntmps156 Tryz.results156 ?_
 repeat'(first|simp only[go_sem,lB,hk,a0d]<;>refine nf ?_|refine stp ?_;intro K hK|apply hK;clear hK K|refine stn ?_|fail)
 refine xE 3 4 rfl rfl fun q=>?_
 (try rw[lB] at q)
 refine xC (S:=Unit) (x.kids) a0h (fun k s=>(5,I .i64 (k:Nat))::[]) (fun k s=>[]) [2,3] [2,3] (fun k s=>(x.kids.take k).all (inB l)=true) (()) (by refine sts ?_;exact Gh.tt []) ?_ ?_ ?_
 ·simp
 ·intro k s y ae hy ab aa u
  refine sts ?_
  have ad:=a0R (p:=inB l) hy
  rw[u,zae] at ad
  cases hi:inB l y
  ·
   repeat'(first|simp only[go_sem,lB,hk,aa,hi,a0h]<;>refine nf ?_|refine stp ?_;intro K hK|apply hK;clear hK K|refine stn ?_|(with_reducible first|refine⟨by omega,a0h y,ab,?_⟩|refine⟨_,a0C l r y,?_⟩)|(refine a0J ?_;intro K hK)|clear hK K)
   all_goals(refine a0m ?_;rw[a0F,a14 (lP hy) hi];rfl)
  ·
   repeat'(first|simp only[go_sem,lB,hk,aa,hi,a0h]<;>refine nf ?_|refine stp ?_;intro K hK|apply hK;clear hK K|refine stn ?_|(with_reducible first|refine⟨by omega,a0h y,ab,?_⟩|refine⟨_,a0C l r y,?_⟩)|(refine a0J ?_;intro K hK)|clear hK K)
   all_goals(rw[a0b ae q])
   all_goals(refine⟨(),?_,Gh.tt []⟩)
   all_goals(rw[ad,hi])
 ·intro s aa u
  refine sts ?_
  rw[lK] at u
  have e:a0F l x=bif a1R x then false else bif a12 x then false else a1S l x:=by unfold a0F;rw[u];rfl
  repeat'(first|simp only[go_sem,lB,hk,aa]<;>refine nf ?_|refine stp ?_;intro K hK|apply hK;clear hK K|refine stn ?_|(refine AWP.cnd ?_ ?_<;>intro h<;>(try simp only[zM,zN] at h))|(refine⟨fun h=>?_,fun h=>?_⟩<;>(try simp only[zM,zN] at h)<;>try simp only[h])|clear hK K)
  all_goals(refine a0m ?_;rw[e];simp only[a1R,a12,a1S, *, Int.reduceEq,zad,zac,zat,zar,zap,zam,zaj,zaq,zaw,zae,zay,zai,zaa,zab]<;>rfl)
theorem c5M (l:List NodeD) (r:Int) (x:NodeD) (hk:x.kind=4):PC zP 156 [Tt l r,Nt x] (Bo (a0F l x)):=by
 refine PCB.ob Tryz.func156 Tryz.ntmps156 Tryz.results156 ?_
 repeat'(first|simp only[go_sem,lB,hk,a0d]<;>refine nf ?_|refine stp ?_;intro K hK|apply hK;clear hK K|refine stn ?_|fail)
 refine xE 3 4 rfl rfl fun q=>?_
 (try rw[lB] at q)
 refine xC (S:=Unit) (x.kids) a0h (fun k s=>(5,I .i64 (k:Nat))::[]) (fun k s=>[]) [2,3] [2,3] (fun k s=>(x.kids.take k).all (inB l)=true) (()) (by refine sts ?_;exact Gh.tt []) ?_ ?_ ?_
 ·simp
 ·intro k s y ae hy ab aa u
  refine sts ?_
  have ad:=a0R (p:=inB l) hy
  rw[u,zae] at ad
  cases hi:inB l y
  ·
   repeat'(first|simp only[go_sem,lB,hk,aa,hi,a0h]<;>refine nf ?_|refine stp ?_;intro K hK|apply hK;clear hK K|refine stn ?_|(with_reducible first|refine⟨by omega,a0h y,ab,?_⟩|refine⟨_,a0C l r y,?_⟩)|(refine a0J ?_;intro K hK)|clear hK K)
   all_goals(refine a0m ?_;rw[a0F,a14 (lP hy) hi];rfl)
  ·
   repeat'(first|simp only[go_sem,lB,hk,aa,hi,a0h]<;>refine nf ?_|refine stp ?_;intro K hK|apply hK;clear hK K|refine stn ?_|(with_reducible first|refine⟨by omega,a0h y,ab,?_⟩|refine⟨_,a0C l r y,?_⟩)|(refine a0J ?_;intro K hK)|clear hK K)
   all_goals(rw[a0b ae q])
   all_goals(refine⟨(),?_,Gh.tt []⟩)
   all_goals(rw[ad,hi])
 ·intro s aa u
  refine sts ?_
  rw[lK] at u
  have e:a0F l x=bif a1R x then false else bif a12 x then false else a1S l x:=by unfold a0F;rw[u];rfl
  repeat'(first|simp only[go_sem,lB,hk,aa]<;>refine nf ?_|refine stp ?_;intro K hK|apply hK;clear hK K|refine stn ?_|(refine AWP.cnd ?_ ?_<;>intro h<;>(try simp only[zM,zN] at h))|(refine⟨fun h=>?_,fun h=>?_⟩<;>(try simp only[zM,zN] at h)<;>try simp only[h])|clear hK K)
  all_goals(refine a0m ?_;rw[e];simp only[a1R,a12,a1S, *, Int.reduceEq,zad,zac,zat,zar,zap,zam,zaj,zaq,zaw,zae,zay,zai,zaa,zab]<;>rfl)
theorem c5N (l:List NodeD) (r:Int) (x:NodeD) (hk:x.kind=6):PC zP 156 [Tt l r,Nt x] (Bo (a0F l x)):=by
 refine PCB.ob Tryz.func156 Tryz.ntmps156 Tryz.results156 ?_
 repeat'(first|simp only[go_sem,lB,hk,a0d]<;>refine nf ?_|refine stp ?_;intro K hK|apply hK;clear hK K|refine stn ?_|fail)
 refine xE 3 4 rfl rfl fun q=>?_
 (try rw[lB] at q)
 refine xC (S:=Unit) (x.kids) a0h (fun k s=>(5,I .i64 (k:Nat))::[]) (fun k s=>[]) [2,3] [2,3] (fun k s=>(x.kids.take k).all (inB l)=true) (()) (by refine sts ?_;exact Gh.tt []) ?_ ?_ ?_
 ·simp
 ·intro k s y ae hy ab aa u
  refine sts ?_
  have ad:=a0R (p:=inB l) hy
  rw[u,zae] at ad
  cases hi:inB l y
  ·
   repeat'(first|simp only[go_sem,lB,hk,aa,hi,a0h]<;>refine nf ?_|refine stp ?_;intro K hK|apply hK;clear hK K|refine stn ?_|(with_reducible first|refine⟨by omega,a0h y,ab,?_⟩|refine⟨_,a0C l r y,?_⟩)|(refine a0J ?_;intro K hK)|clear hK K)
   all_goals(refine a0m ?_;rw[a0F,a14 (lP hy) hi];rfl)
  ·
   repeat'(first|simp only[go_sem,lB,hk,aa,hi,a0h]<;>refine nf ?_|refine stp ?_;intro K hK|apply hK;clear hK K|refine stn ?_|(with_reducible first|refine⟨by omega,a0h y,ab,?_⟩|refine⟨_,a0C l r y,?_⟩)|(refine a0J ?_;intro K hK)|clear hK K)
   all_goals(rw[a0b ae q])
   all_goals(refine⟨(),?_,Gh.tt []⟩)
   all_goals(rw[ad,hi])
 ·intro s aa u
  refine sts ?_
  rw[lK] at u
  have e:a0F l x=bif a1R x then false else bif a12 x then false else a1S l x:=by unfold a0F;rw[u];rfl
  repeat'(first|simp only[go_sem,lB,hk,aa]<;>refine nf ?_|refine stp ?_;intro K hK|apply hK;clear hK K|refine stn ?_|(refine AWP.cnd ?_ ?_<;>intro h<;>(try simp only[zM,zN] at h))|(refine⟨fun h=>?_,fun h=>?_⟩<;>(try simp only[zM,zN] at h)<;>try simp only[h])|(with_reducible refine⟨_,b0l x.text,?_⟩)|refine stq ?_|clear hK K)
  all_goals(refine a0m ?_;rw[e];simp only[a1R,a12,a1S, *, Int.reduceEq,zad,zac,zat,zar,zap,zam,zaj,zaq,zaw,zae,zay,zai,zaa,zab]<;>rfl)
theorem c2w (l:List NodeD) (r:Int) (x:NodeD) (hk:x.kind=19):PC zP 156 [Tt l r,Nt x] (Bo (a0F l x)):=by
 refine PCB.ob Tryz.func156 Tryz.ntmps156 Tryz.results156 ?_
 repeat'(first|simp only[go_sem,lB,hk,a0d]<;>refine nf ?_|refine stp ?_;intro K hK|apply hK;clear hK K|refine stn ?_|fail)
 refine xE 3 4 rfl rfl fun q=>?_
 (try rw[lB] at q)
 refine xC (S:=Unit) (x.kids) a0h (fun k s=>(5,I .i64 (k:Nat))::[]) (fun k s=>[]) [2,3] [2,3] (fun k s=>(x.kids.take k).all (inB l)=true) (()) (by refine sts ?_;exact Gh.tt []) ?_ ?_ ?_
 ·simp
 ·intro k s y ae hy ab aa u
  refine sts ?_
  have ad:=a0R (p:=inB l) hy
  rw[u,zae] at ad
  cases hi:inB l y
  ·
   repeat'(first|simp only[go_sem,lB,hk,aa,hi,a0h]<;>refine nf ?_|refine stp ?_;intro K hK|apply hK;clear hK K|refine stn ?_|(with_reducible first|refine⟨by omega,a0h y,ab,?_⟩|refine⟨_,a0C l r y,?_⟩)|(refine a0J ?_;intro K hK)|clear hK K)
   all_goals(refine a0m ?_;rw[a0F,a14 (lP hy) hi];rfl)
  ·
   repeat'(first|simp only[go_sem,lB,hk,aa,hi,a0h]<;>refine nf ?_|refine stp ?_;intro K hK|apply hK;clear hK K|refine stn ?_|(with_reducible first|refine⟨by omega,a0h y,ab,?_⟩|refine⟨_,a0C l r y,?_⟩)|(refine a0J ?_;intro K hK)|clear hK K)
   all_goals(rw[a0b ae q])
   all_goals(refine⟨(),?_,Gh.tt []⟩)
   all_goals(rw[ad,hi])
 ·intro s aa u
  refine sts ?_
  rw[lK] at u
  have e:a0F l x=bif a1R x then false else bif a12 x then false else a1S l x:=by unfold a0F;rw[u];rfl
  repeat'(first|simp only[go_sem,lB,hk,aa]<;>refine nf ?_|refine stp ?_;intro K hK|apply hK;clear hK K|refine stn ?_|(refine AWP.cnd ?_ ?_<;>intro h<;>(try simp only[zM,zN] at h))|(refine⟨fun h=>?_,fun h=>?_⟩<;>(try simp only[zM,zN] at h)<;>try simp only[h])|(with_reducible refine⟨_,a0s x.text,?_⟩)|refine stq ?_|clear hK K)
  all_goals(refine a0m ?_;rw[e];simp only[a1R,a12,a1S, *, Int.reduceEq,zad,zac,zat,zar,zap,zam,zaj,zaq,zaw,zae,zay,zai,zaa,zab]<;>rfl)
theorem c2x (l:List NodeD) (r:Int) (x:NodeD) (hk:x.kind=10):PC zP 156 [Tt l r,Nt x] (Bo (a0F l x)):=by
 refine PCB.ob Tryz.func156 Tryz.ntmps156 Tryz.results156 ?_
 repeat'(first|simp only[go_sem,lB,hk,a0d]<;>refine nf ?_|refine stp ?_;intro K hK|apply hK;clear hK K|refine stn ?_|fail)
 refine xE 3 4 rfl rfl fun q=>?_
 (try rw[lB] at q)
 refine xC (S:=Unit) (x.kids) a0h (fun k s=>(5,I .i64 (k:Nat))::[]) (fun k s=>[]) [2,3] [2,3] (fun k s=>(x.kids.take k).all (inB l)=true) (()) (by refine sts ?_;exact Gh.tt []) ?_ ?_ ?_
 ·simp
 ·intro k s y ae hy ab aa u
  refine sts ?_
  have ad:=a0R (p:=inB l) hy
  rw[u,zae] at ad
  cases hi:inB l y
  ·
   repeat'(first|simp only[go_sem,lB,hk,aa,hi,a0h]<;>refine nf ?_|refine stp ?_;intro K hK|apply hK;clear hK K|refine stn ?_|(with_reducible first|refine⟨by omega,a0h y,ab,?_⟩|refine⟨_,a0C l r y,?_⟩)|(refine a0J ?_;intro K hK)|clear hK K)
   all_goals(refine a0m ?_;rw[a0F,a14 (lP hy) hi];rfl)
  ·
   repeat'(first|simp only[go_sem,lB,hk,aa,hi,a0h]<;>refine nf ?_|refine stp ?_;intro K hK|apply hK;clear hK K|refine stn ?_|(with_reducible first|refine⟨by omega,a0h y,ab,?_⟩|refine⟨_,a0C l r y,?_⟩)|(refine a0J ?_;intro K hK)|clear hK K)
   all_goals(rw[a0b ae q])
   all_goals(refine⟨(),?_,Gh.tt []⟩)
   all_goals(rw[ad,hi])
 ·intro s aa u
  refine sts ?_
  rw[lK] at u
  have e:a0F l x=bif a1R x then false else bif a12 x then false else a1S l x:=by unfold a0F;rw[u];rfl
  repeat'(first|simp only[go_sem,lB,hk,aa]<;>refine nf ?_|refine stp ?_;intro K hK|apply hK;clear hK K|refine stn ?_|(refine AWP.cnd ?_ ?_<;>intro h<;>(try simp only[zM,zN] at h))|(refine⟨fun h=>?_,fun h=>?_⟩<;>(try simp only[zM,zN] at h)<;>try simp only[h])|clear hK K)
  all_goals(refine a0m ?_;rw[e];simp only[a1R,a12,a1S, *, Int.reduceEq,zad,zac,zat,zar,zap,zam,zaj,zaq,zaw,zae,zay,zai,zaa,zab]<;>rfl)
theorem c2y (l:List NodeD) (r:Int) (x:NodeD) (hk:x.kind=12):PC zP 156 [Tt l r,Nt x] (Bo (a0F l x)):=by
 refine PCB.ob Tryz.func156 Tryz.ntmps156 Tryz.results156 ?_
 repeat'(first|simp only[go_sem,lB,hk,a0d]<;>refine nf ?_|refine stp ?_;intro K hK|apply hK;clear hK K|refine stn ?_|fail)
 refine xE 3 4 rfl rfl fun q=>?_
 (try rw[lB] at q)
 refine xC (S:=Unit) (x.kids) a0h (fun k s=>(5,I .i64 (k:Nat))::[]) (fun k s=>[]) [2,3] [2,3] (fun k s=>(x.kids.take k).all (inB l)=true) (()) (by refine sts ?_;exact Gh.tt []) ?_ ?_ ?_
 ·simp
 ·intro k s y ae hy ab aa u
  refine sts ?_
  have ad:=a0R (p:=inB l) hy
  rw[u,zae] at ad
  cases hi:inB l y
  ·
   repeat'(first|simp only[go_sem,lB,hk,aa,hi,a0h]<;>refine nf ?_|refine stp ?_;intro K hK|apply hK;clear hK K|refine stn ?_|(with_reducible first|refine⟨by omega,a0h y,ab,?_⟩|refine⟨_,a0C l r y,?_⟩)|(refine a0J ?_;intro K hK)|clear hK K)
   all_goals(refine a0m ?_;rw[a0F,a14 (lP hy) hi];rfl)
  ·
   repeat'(first|simp only[go_sem,lB,hk,aa,hi,a0h]<;>refine nf ?_|refine stp ?_;intro K hK|apply hK;clear hK K|refine stn ?_|(with_reducible first|refine⟨by omega,a0h y,ab,?_⟩|refine⟨_,a0C l r y,?_⟩)|(refine a0J ?_;intro K hK)|clear hK K)
   all_goals(rw[a0b ae q])
   all_goals(refine⟨(),?_,Gh.tt []⟩)
   all_goals(rw[ad,hi])
 ·intro s aa u
  refine sts ?_
  rw[lK] at u
  have e:a0F l x=bif a1R x then false else bif a12 x then false else a1S l x:=by unfold a0F;rw[u];rfl
  repeat'(first|simp only[go_sem,lB,hk,aa]<;>refine nf ?_|refine stp ?_;intro K hK|apply hK;clear hK K|refine stn ?_|(refine AWP.cnd ?_ ?_<;>intro h<;>(try simp only[zM,zN] at h))|(refine⟨fun h=>?_,fun h=>?_⟩<;>(try simp only[zM,zN] at h)<;>try simp only[h])|clear hK K)
  all_goals(refine a0m ?_;rw[e];simp only[a1R,a12,a1S, *, Int.reduceEq,zad,zac,zat,zar,zap,zam,zaj,zaq,zaw,zae,zay,zai,zaa,zab]<;>rfl)
theorem c2z (l:List NodeD) (r:Int) (x:NodeD) (hk:x.kind=14):PC zP 156 [Tt l r,Nt x] (Bo (a0F l x)):=by
 refine PCB.ob Tryz.func156 Tryz.ntmps156 Tryz.results156 ?_
 repeat'(first|simp only[go_sem,lB,hk,a0d]<;>refine nf ?_|refine stp ?_;intro K hK|apply hK;clear hK K|refine stn ?_|fail)
 refine xE 3 4 rfl rfl fun q=>?_
 (try rw[lB] at q)
 refine xC (S:=Unit) (x.kids) a0h (fun k s=>(5,I .i64 (k:Nat))::[]) (fun k s=>[]) [2,3] [2,3] (fun k s=>(x.kids.take k).all (inB l)=true) (()) (by refine sts ?_;exact Gh.tt []) ?_ ?_ ?_
 ·simp
 ·intro k s y ae hy ab aa u
  refine sts ?_
  have ad:=a0R (p:=inB l) hy
  rw[u,zae] at ad
  cases hi:inB l y
  ·
   repeat'(first|simp only[go_sem,lB,hk,aa,hi,a0h]<;>refine nf ?_|refine stp ?_;intro K hK|apply hK;clear hK K|refine stn ?_|(with_reducible first|refine⟨by omega,a0h y,ab,?_⟩|refine⟨_,a0C l r y,?_⟩)|(refine a0J ?_;intro K hK)|clear hK K)
   all_goals(refine a0m ?_;rw[a0F,a14 (lP hy) hi];rfl)
  ·
   repeat'(first|simp only[go_sem,lB,hk,aa,hi,a0h]<;>refine nf ?_|refine stp ?_;intro K hK|apply hK;clear hK K|refine stn ?_|(with_reducible first|refine⟨by omega,a0h y,ab,?_⟩|refine⟨_,a0C l r y,?_⟩)|(refine a0J ?_;intro K hK)|clear hK K)
   all_goals(rw[a0b ae q])
   all_goals(refine⟨(),?_,Gh.tt []⟩)
   all_goals(rw[ad,hi])
 ·intro s aa u
  refine sts ?_
  rw[lK] at u
  have e:a0F l x=bif a1R x then false else bif a12 x then false else a1S l x:=by unfold a0F;rw[u];rfl
  repeat'(first|simp only[go_sem,lB,hk,aa]<;>refine nf ?_|refine stp ?_;intro K hK|apply hK;clear hK K|refine stn ?_|(refine AWP.cnd ?_ ?_<;>intro h<;>(try simp only[zM,zN] at h))|(refine⟨fun h=>?_,fun h=>?_⟩<;>(try simp only[zM,zN] at h)<;>try simp only[h])|clear hK K)
  all_goals(refine a0m ?_;rw[e];simp only[a1R,a12,a1S, *, Int.reduceEq,zad,zac,zat,zar,zap,zam,zaj,zaq,zaw,zae,zay,zai,zaa,zab]<;>rfl)
theorem c2A (l:List NodeD) (r:Int) (x:NodeD) (hk:x.kind=16):PC zP 156 [Tt l r,Nt x] (Bo (a0F l x)):=by
 refine PCB.ob Tryz.func156 Tryz.ntmps156 Tryz.results156 ?_
 repeat'(first|simp only[go_sem,lB,hk,a0d]<;>refine nf ?_|refine stp ?_;intro K hK|apply hK;clear hK K|refine stn ?_|fail)
 refine xE 3 4 rfl rfl fun q=>?_
 (try rw[lB] at q)
 refine xC (S:=Unit) (x.kids) a0h (fun k s=>(5,I .i64 (k:Nat))::[]) (fun k s=>[]) [2,3] [2,3] (fun k s=>(x.kids.take k).all (inB l)=true) (()) (by refine sts ?_;exact Gh.tt []) ?_ ?_ ?_
 ·simp
 ·intro k s y ae hy ab aa u
  refine sts ?_
  have ad:=a0R (p:=inB l) hy
  rw[u,zae] at ad
  cases hi:inB l y
  ·
   repeat'(first|simp only[go_sem,lB,hk,aa,hi,a0h]<;>refine nf ?_|refine stp ?_;intro K hK|apply hK;clear hK K|refine stn ?_|(with_reducible first|refine⟨by omega,a0h y,ab,?_⟩|refine⟨_,a0C l r y,?_⟩)|(refine a0J ?_;intro K hK)|clear hK K)
   all_goals(refine a0m ?_;rw[a0F,a14 (lP hy) hi];rfl)
  ·
   repeat'(first|simp only[go_sem,lB,hk,aa,hi,a0h]<;>refine nf ?_|refine stp ?_;intro K hK|apply hK;clear hK K|refine stn ?_|(with_reducible first|refine⟨by omega,a0h y,ab,?_⟩|refine⟨_,a0C l r y,?_⟩)|(refine a0J ?_;intro K hK)|clear hK K)
   all_goals(rw[a0b ae q])
   all_goals(refine⟨(),?_,Gh.tt []⟩)
   all_goals(rw[ad,hi])
 ·intro s aa u
  refine sts ?_
  rw[lK] at u
  have e:a0F l x=bif a1R x then false else bif a12 x then false else a1S l x:=by unfold a0F;rw[u];rfl
  repeat'(first|simp only[go_sem,lB,hk,aa]<;>refine nf ?_|refine stp ?_;intro K hK|apply hK;clear hK K|refine stn ?_|(refine AWP.cnd ?_ ?_<;>intro h<;>(try simp only[zM,zN] at h))|(refine⟨fun h=>?_,fun h=>?_⟩<;>(try simp only[zM,zN] at h)<;>try simp only[h])|clear hK K)
  all_goals(refine a0m ?_;rw[e];simp only[a1R,a12,a1S, *, Int.reduceEq,zad,zac,zat,zar,zap,zam,zaj,zaq,zaw,zae,zay,zai,zaa,zab]<;>rfl)
theorem c2B (l:List NodeD) (r:Int) (x:NodeD) (hk:x.kind=17):PC zP 156 [Tt l r,Nt x] (Bo (a0F l x)):=by
 refine PCB.ob Tryz.func156 Tryz.ntmps156 Tryz.results156 ?_
 repeat'(first|simp only[go_sem,lB,hk,a0d]<;>refine nf ?_|refine stp ?_;intro K hK|apply hK;clear hK K|refine stn ?_|fail)
 refine xE 3 4 rfl rfl fun q=>?_
 (try rw[lB] at q)
 refine xC (S:=Unit) (x.kids) a0h (fun k s=>(5,I .i64 (k:Nat))::[]) (fun k s=>[]) [2,3] [2,3] (fun k s=>(x.kids.take k).all (inB l)=true) (()) (by refine sts ?_;exact Gh.tt []) ?_ ?_ ?_
 ·simp
 ·intro k s y ae hy ab aa u
  refine sts ?_
  have ad:=a0R (p:=inB l) hy
  rw[u,zae] at ad
  cases hi:inB l y
  ·
   repeat'(first|simp only[go_sem,lB,hk,aa,hi,a0h]<;>refine nf ?_|refine stp ?_;intro K hK|apply hK;clear hK K|refine stn ?_|(with_reducible first|refine⟨by omega,a0h y,ab,?_⟩|refine⟨_,a0C l r y,?_⟩)|(refine a0J ?_;intro K hK)|clear hK K)
   all_goals(refine a0m ?_;rw[a0F,a14 (lP hy) hi];rfl)
  ·
   repeat'(first|simp only[go_sem,lB,hk,aa,hi,a0h]<;>refine nf ?_|refine stp ?_;intro K hK|apply hK;clear hK K|refine stn ?_|(with_reducible first|refine⟨by omega,a0h y,ab,?_⟩|refine⟨_,a0C l r y,?_⟩)|(refine a0J ?_;intro K hK)|clear hK K)
   all_goals(rw[a0b ae q])
   all_goals(refine⟨(),?_,Gh.tt []⟩)
   all_goals(rw[ad,hi])
 ·intro s aa u
  refine sts ?_
  rw[lK] at u
  have e:a0F l x=bif a1R x then false else bif a12 x then false else a1S l x:=by unfold a0F;rw[u];rfl
  repeat'(first|simp only[go_sem,lB,hk,aa]<;>refine nf ?_|refine stp ?_;intro K hK|apply hK;clear hK K|refine stn ?_|(refine AWP.cnd ?_ ?_<;>intro h<;>(try simp only[zM,zN] at h))|(refine⟨fun h=>?_,fun h=>?_⟩<;>(try simp only[zM,zN] at h)<;>try simp only[h])|clear hK K)
  all_goals(refine a0m ?_;rw[e];simp only[a1R,a12,a1S, *, Int.reduceEq,zad,zac,zat,zar,zap,zam,zaj,zaq,zaw,zae,zay,zai,zaa,zab]<;>rfl)
theorem c2C (l:List NodeD) (r:Int) (x:NodeD) (hk:x.kind=18):PC zP 156 [Tt l r,Nt x] (Bo (a0F l x)):=by
 refine PCB.ob Tryz.func156 Tryz.ntmps156 Tryz.results156 ?_
 repeat'(first|simp only[go_sem,lB,hk,a0d]<;>refine nf ?_|refine stp ?_;intro K hK|apply hK;clear hK K|refine stn ?_|fail)
 refine xE 3 4 rfl rfl fun q=>?_
 (try rw[lB] at q)
 refine xC (S:=Unit) (x.kids) a0h (fun k s=>(5,I .i64 (k:Nat))::[]) (fun k s=>[]) [2,3] [2,3] (fun k s=>(x.kids.take k).all (inB l)=true) (()) (by refine sts ?_;exact Gh.tt []) ?_ ?_ ?_
 ·simp
 ·intro k s y ae hy ab aa u
  refine sts ?_
  have ad:=a0R (p:=inB l) hy
  rw[u,zae] at ad
  cases hi:inB l y
  ·
   repeat'(first|simp only[go_sem,lB,hk,aa,hi,a0h]<;>refine nf ?_|refine stp ?_;intro K hK|apply hK;clear hK K|refine stn ?_|(with_reducible first|refine⟨by omega,a0h y,ab,?_⟩|refine⟨_,a0C l r y,?_⟩)|(refine a0J ?_;intro K hK)|clear hK K)
   all_goals(refine a0m ?_;rw[a0F,a14 (lP hy) hi];rfl)
  ·
   repeat'(first|simp only[go_sem,lB,hk,aa,hi,a0h]<;>refine nf ?_|refine stp ?_;intro K hK|apply hK;clear hK K|refine stn ?_|(with_reducible first|refine⟨by omega,a0h y,ab,?_⟩|refine⟨_,a0C l r y,?_⟩)|(refine a0J ?_;intro K hK)|clear hK K)
   all_goals(rw[a0b ae q])
   all_goals(refine⟨(),?_,Gh.tt []⟩)
   all_goals(rw[ad,hi])
 ·intro s aa u
  refine sts ?_
  rw[lK] at u
  have e:a0F l x=bif a1R x then false else bif a12 x then false else a1S l x:=by unfold a0F;rw[u];rfl
  repeat'(first|simp only[go_sem,lB,hk,aa]<;>refine nf ?_|refine stp ?_;intro K hK|apply hK;clear hK K|refine stn ?_|(refine AWP.cnd ?_ ?_<;>intro h<;>(try simp only[zM,zN] at h))|(refine⟨fun h=>?_,fun h=>?_⟩<;>(try simp only[zM,zN] at h)<;>try simp only[h])|clear hK K)
  all_goals(refine a0m ?_;rw[e];simp only[a1R,a12,a1S, *, Int.reduceEq,zad,zac,zat,zar,zap,zam,zaj,zaq,zaw,zae,zay,zai,zaa,zab]<;>rfl)
end Go.Proofs.YtoelgackkclcmaaGreat

