/- Lemmas. -/
import Derived.Test.YtoelgackkclcmaaGreatPc17
import Derived.Test.YtoelgackkclcmaaGreatPc34
open List renaming length_map→lB
set_option linter.unusedSimpArgs false
set_option linter.unusedVariables false
set_option maxRecDepth 20000
set_option maxHeartbeats 64000000
namespace Go.Proofs.YtoelgackkclcmaaGreat
open Go Go.Sx
def a1t (x y:KeyD):Bool:=decide (x.kind=y.kind)&&(decide (x.text=y.text)&&true)
@[go_sem] theorem d1n (x y:KeyD):a6N Tryz.prog 6 56 (a0i x) (a0i y)=some (a1t x y):=by kernel_rfl
theorem b8I (x y:KeyD):a1t x y=a1t y x:=by unfold a1t;rw[show decide (x.kind=y.kind)=decide (y.kind=x.kind) by simp[eq_comm],show decide (x.text=y.text)=decide (y.text=x.text) by simp[eq_comm]]
theorem b8J (l:List KeyD) (s:KeyD):PC Tryz.prog 184 [.one (.dat (.sl 2 (l.map a0i))), .st (a0i s)] (I .i64 (a1F (fun x=>a1t s x) 0 l)):=by
 refine PCB.ob Tryz.func184 Tryz.ntmps184 Tryz.results184 ?_
 repeat'(first|simp only[go_sem,lB]<;>refine nf ?_|refine stp ?_;intro K hK|apply hK;clear hK K|refine stn ?_|fail)
 refine AWP.len 0 rfl fun q=>?_
 (try rw[lB] at q)
 refine AWP.range (S:=Unit) (l) a0i (fun k s=>(8,I .i64 (k:Nat))::[]) (fun k s=>[]) [0,3,7] [3] (fun k u=>a1F (fun x=>a1t s x) 0 l=a1F (fun x=>a1t s x) k (l.drop k)) (()) (by refine sts ?_;exact Gh.tt []) ?_ ?_ ?_
 ·rfl
 ·intro k u x ae hx ad hb aa
  refine sts ?_
  rw[a5P _ l k x hx] at aa
  cases hz:a1t s x<;>simp only[hz,zaa,zab] at aa
  ·
   repeat'(first|simp only[go_sem,lB,hb,hz]<;>refine nf ?_|refine stp ?_;intro K hK|apply hK;clear hK K|refine stn ?_|(with_reducible refine⟨by omega,a0i x,ad,?_⟩)|(refine a0J ?_;intro K hK)|clear hK K)
   all_goals(rw[a0b ae q])
   all_goals(refine⟨(),?_,Gh.tt []⟩)
   all_goals exact aa
  ·
   repeat'(first|simp only[go_sem,lB,hb,hz]<;>refine nf ?_|refine stp ?_;intro K hK|apply hK;clear hK K|refine stn ?_|(with_reducible refine⟨by omega,a0i x,ad,?_⟩)|(refine a0J ?_;intro K hK)|clear hK K)
   all_goals(first|exact lf|(refine a0m ?_;simp only[aa,zb,zaa,zab,zac,zad]<;>rfl))
 intro s0 af ab
 refine sts ?_
 rw[zbw] at ab
 repeat'(first|simp only[go_sem,lB,af]<;>refine nf ?_|refine stp ?_;intro K hK|apply hK;clear hK K|refine stn ?_|clear hK K)
 all_goals(refine a0m ?_;rw[ab];rfl)
theorem c0D (l:List KeyD) (s:KeyD):PC Tryz.prog 96 [.one (.dat (.sl 2 (l.map a0i))), .st (a0i s)] (I .i64 (a1F (fun x=>a1t s x) 0 l)):=by
 refine PCB.ob Tryz.func96 Tryz.ntmps96 Tryz.results96 ?_
 repeat'(first|simp only[go_sem,lB]<;>refine nf ?_|refine stp ?_;intro K hK|apply hK;clear hK K|refine stn ?_|fail)
 refine AWP.len 0 rfl fun q=>?_
 (try rw[lB] at q)
 refine AWP.range (S:=Unit) (l) a0i (fun k s=>(5,I .i64 (k:Nat))::[]) (fun k s=>[]) [0,3] [3] (fun k u=>a1F (fun x=>a1t s x) 0 l=a1F (fun x=>a1t s x) k (l.drop k)) (()) (by refine sts ?_;exact Gh.tt []) ?_ ?_ ?_
 ·rfl
 ·intro k u x ae hx ad hb aa
  refine sts ?_
  rw[a5P _ l k x hx] at aa
  cases hz:a1t s x<;>simp only[hz,zaa,zab] at aa<;>rw[b8I] at hz
  ·
   repeat'(first|simp only[go_sem,lB,hb,hz]<;>refine nf ?_|refine stp ?_;intro K hK|apply hK;clear hK K|refine stn ?_|(with_reducible refine⟨by omega,a0i x,ad,?_⟩)|(refine a0J ?_;intro K hK)|clear hK K)
   all_goals(rw[a0b ae q])
   all_goals(refine⟨(),?_,Gh.tt []⟩)
   all_goals exact aa
  ·
   repeat'(first|simp only[go_sem,lB,hb,hz]<;>refine nf ?_|refine stp ?_;intro K hK|apply hK;clear hK K|refine stn ?_|(with_reducible refine⟨by omega,a0i x,ad,?_⟩)|(refine a0J ?_;intro K hK)|clear hK K)
   all_goals(first|exact lf|(refine a0m ?_;simp only[aa,zb,zaa,zab,zac,zad]<;>rfl))
 intro s0 af ab
 refine sts ?_
 rw[zbw] at ab
 repeat'(first|simp only[go_sem,lB,af]<;>refine nf ?_|refine stp ?_;intro K hK|apply hK;clear hK K|refine stn ?_|clear hK K)
 all_goals(refine a0m ?_;rw[ab];rfl)
theorem a9i {α:Type} (p:α→Bool):∀ (l:List α) (k:Nat),a1F p k l= -1∨ ∃ n:Nat,a1F p k l=n∧k≤n∧n<k+l.length
 |[],k=> .inl rfl
 |x::l,k=>by
  simp only[a1F]
  cases p x
  ·rcases a9i p l (k+1) with h|⟨n,h,h1,h2⟩
   ·exact .inl h
   ·exact .inr ⟨n,h,by omega,by simp only[List.length_cons];omega⟩
  ·exact .inr ⟨k,rfl,by omega,by simp only[List.length_cons];omega⟩
end Go.Proofs.YtoelgackkclcmaaGreat

