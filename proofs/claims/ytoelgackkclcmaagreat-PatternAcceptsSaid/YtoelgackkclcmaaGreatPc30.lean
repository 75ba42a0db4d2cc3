/- Lemmas. -/
import Derived.Test.YtoelgackkclcmaaGreatPc29
open List renaming length_map→lB
open Bool renaming not_eq_true'→zM,not_eq_false'→zN
set_option linter.unusedSimpArgs false
set_option linter.unusedVariables false
set_option maxRecDepth 20000
set_option maxHeartbeats 64000000
namespace Go.Proofs.YtoelgackkclcmaaGreat
open Go Go.Sx
set_option maxHeartbeats 64000000 in
theorem c7b (g:Pat) (ih:∀ k∈g.kids,PC Tryz.prog 155 [Pt k] (Bo (a04 k))) (hk:g.kind=5∨g.kind=6∨g.kind=7∨g.kind=8∨g.kind=10):PC Tryz.prog 155 [Pt g] (Bo (a04 g)):=by
 have ae:=a5f g
 have aa:decide ((0:Int)<(g.kids.length:Int))=!decide ((g.kids.length:Int)=0):=by rw[← zbj];simp only[zan,zbm,zah];omega
 rcases hk with hk|hk|hk|hk|hk
 iterate 5
  ·
   refine PCB.ob Tryz.func155 Tryz.ntmps155 Tryz.results155 ?_
   repeat'(first|(with_reducible refine AWP.join (id:=6) (fun b:Bool=>[(5,Bo b)]) (fun _=>[]) [1,3] [1] (fun b=>Is (vP g) b) ?_ ?_)|simp only[go_sem,a0f g,hk,Int.reduceEq,lB]<;>refine nf ?_|refine stp ?_;intro K hK|apply hK;clear hK K|refine stn ?_|(refine AWP.cnd ?_ ?_<;>intro h<;>(try simp only[zM,zN] at h))|(refine⟨fun h=>?_,fun h=>?_⟩<;>(try simp only[zM,zN] at h)<;>try simp only[h])|(with_reducible first|refine⟨_,a0s _,?_⟩|refine⟨_,b0l _,?_⟩)|refine stq ?_|clear hK K)
   any_goals (refine a0m ?_;rw[ae];simp only[vP,b6g,a4l,b3Z,a6w,a6e,a6x,hk,aa,Int.reduceEq,Int.reduceLE, *, zb,zcc,zaa,zab,zac,zad];done)
   any_goals (refine⟨_,?_,Gh.tt []⟩;unfold Is;simp only[vP,b6g,a4l,b3Z,a6w,a6e,a6x,hk,aa,Int.reduceEq,Int.reduceLE, *, zb,zcc,zaa,zab,zac,zad];done)
   intro b af
   try simp only[go_sem]
   repeat'(first|simp only[go_sem,a0f g,lB]<;>refine nf ?_|refine stp ?_;intro K hK|apply hK;clear hK K|refine stn ?_|fail)
   refine AWP.lenB 1 3 rfl rfl fun q=>?_
   (try rw[lB] at q)
   refine AWP.range (S:=Bool) (g.kids) a1d (fun k s=>(7,I .i64 (k:Nat))::[(5,Bo s)]) (fun k s=>[]) [1,3] [1] (fun k s=>Is s (b&&(g.kids.take k).all a04)) (b) (by simp only[go_sem,a0f];exact Gh.tt []) ?_ ?_ ?_
   ·simp[Is]
   ·intro k s x ab hx ag hb u
    refine sts ?_
    have ah:=ih x (zbc hx)
    have ad:=a6U (p:=a04) hx
    cases s
    ·
     repeat'(first|simp only[go_sem,a0f g,lB,hb]<;>refine nf ?_|refine stp ?_;intro K hK|apply hK;clear hK K|refine stn ?_|clear hK K)
     all_goals(rw[a0b ab q])
     all_goals(refine⟨false,?_,Gh.tt []⟩)
     all_goals(show false=_;rw[ad,← zce,← show false=_ from u];rfl)
    ·
     repeat'(first|simp only[go_sem,a0f g,lB,hb]<;>refine nf ?_|refine stp ?_;intro K hK|apply hK;clear hK K|refine stn ?_|(with_reducible first|refine⟨_,ah,?_⟩|refine⟨by omega,a1d x,ag,?_⟩)|refine stq ?_|clear hK K)
     all_goals(rw[a0b ab q])
     all_goals(refine⟨a04 x,?_,Gh.tt []⟩)
     all_goals(show a04 x=_;rw[ad,← zce,← show true=_ from u];rfl)
   ·intro s hb u
    refine sts ?_
    rw[Is,zbh] at u
    repeat'(first|simp only[go_sem,a0f g,lB,hb]<;>refine nf ?_|refine stp ?_;intro K hK|apply hK;clear hK K|refine stn ?_|clear hK K)
    all_goals(refine a0m ?_;rw[ae,show vP g=b from af,show s=_ from u])
end Go.Proofs.YtoelgackkclcmaaGreat

