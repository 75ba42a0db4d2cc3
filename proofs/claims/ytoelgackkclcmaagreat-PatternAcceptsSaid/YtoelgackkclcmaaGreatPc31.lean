/- Lemmas. -/
import Derived.Test.YtoelgackkclcmaaGreatPc29
open List renaming length_map→lB
open Bool renaming not_eq_true'→zM,not_eq_false'→zN
set_option linter.unusedSimpArgs false
set_option linter.unusedVariables false
set_option maxRecDepth 20000
set_option maxHeartbeats 64000000
namespace Go.Proofs.YtoelgackkclcmaaGreat
open Go Go.Sx
set_option maxHeartbeats 64000000 in
theorem c7c (g:Pat) (ih:∀ k∈g.kids,PC Tryz.prog 155 [Pt k] (Bo (a04 k))) (hk:g.kind=9):PC Tryz.prog 155 [Pt g] (Bo (a04 g)):=by
 have ai:=a5f g
 have ah:decide ((0:Int)<(g.kids.length:Int))=!decide ((g.kids.length:Int)=0):=by rw[← zbj];simp only[zan,zbm,zah];omega
 have ak:decide ((g.kids.length:Int)≤8)=!decide ((8:Int)<(g.kids.length:Int)):=by rw[← zbj];simp
 have am:decide ((g.kids.length:Int)=(g.keys.length:Int))=decide ((g.keys.length:Int)=(g.kids.length:Int)):=by rw[← zbj];simp only[zan];omega
 cases e1:decide ((g.keys.length:Int)=(g.kids.length:Int))<;>cases e2:decide ((8:Int)<(g.kids.length:Int))
 all_goals
  rw[e1] at am
  rw[e2] at ak
 case true.false=>
  have e3:decide ((8:Int)<(g.keys.length:Int))=false:=by simp only[zan,zah] at *; omega
  refine PCB.ob Tryz.func155 Tryz.ntmps155 Tryz.results155 ?_
  repeat'(first|(with_reducible refine AWP.join (id:=6) (fun b:Bool=>[(5,Bo b)]) (fun _=>[]) [1,3] [1] (fun b=>Is (vP g) b) ?_ ?_)|simp only[go_sem,a0f g,hk,am,ak,Int.reduceEq,lB]<;>refine nf ?_|refine stp ?_;intro K hK|apply hK;clear hK K|refine stn ?_|(refine⟨fun h=>?_,fun h=>?_⟩<;>(try simp only[zM,zN] at h)<;>try simp only[h])|clear hK K)
  any_goals (refine a0m ?_;rw[ai];simp only[vP,b6g,a4l,b3Z,a6w,a6e,a6x,b5x,hk,ah,Int.reduceEq,Int.reduceLE, *, zb,zcc,zaa,zab,zac,zad];done)
  ·
   refine AWP.lenB 1 4 rfl rfl fun u=>?_
   (try rw[lB] at u)
   refine AWP.range (S:=Bool) (g.keys) a0i (fun k s=>(6,I .i64 (k:Nat))::[(5,Bo s)]) (fun k s=>[]) [1,3] [1] (fun k s=>Is s (true&&goB a2O a0l none (g.keys.take k))) (true) (by simp only[go_sem,a0f];exact Gh.tt []) ?_ ?_ ?_
   ·simp[Is,goB]
   ·intro k s x ab hx ae hb q
    refine sts ?_
    cases s
    ·
     repeat'(first|simp only[go_sem,a0f g,lB,hb]<;>refine nf ?_|refine stp ?_;intro K hK|apply hK;clear hK K|refine stn ?_|(refine a0J ?_;intro K hK)|fail)
     all_goals(rw[a0b ab u])
     all_goals(refine⟨false,?_,Gh.tt []⟩)
     all_goals
      rcases zb9 k with aa|aa
      ·first|(show (_:Bool)=_;rfl)|(exfalso;revert q;simp[Is];done)|(unfold Is at q ⊢; rw[a5D aa hx];generalize goB a2O a0l none (g.keys.take k)=G at q ⊢; revert q;cases G<;>simp)
      ·obtain⟨j,rfl⟩:∃ j,k=j+1:=⟨_,aa⟩
       obtain⟨y,hy,_,_,_⟩:=a1A (enc:=a0i) (show j<g.keys.length by omega)
       first|(show (_:Bool)=_;rfl)|(exfalso;revert q;simp[Is];done)|(unfold Is at q ⊢; rw[a5E hy hx];generalize goB a2O a0l none (g.keys.take (j+1))=G at q ⊢; revert q;cases G<;>simp)
    ·
     rcases zb9 k with aa|aa
     ·have af:decide ((k:Int)=0)=true:=by rw[aa];rfl
      cases hz:a0l x
      all_goals
       repeat'(first|simp only[go_sem,a0f g,lB,hb,hz,af]<;>refine nf ?_|refine stp ?_;intro K hK|apply hK;clear hK K|refine stn ?_|(with_reducible first|refine⟨_,a2x x,?_⟩|refine⟨by omega,a0i x,ae,?_⟩)|(refine a0J ?_;intro K hK)|fail)
      ·
       all_goals(rw[a0b ab u])
       all_goals(refine⟨false,?_,Gh.tt []⟩)
       all_goals first|(show (_:Bool)=_;rfl)|(exfalso;revert q;simp[Is];done)|(unfold Is at q ⊢; rw[a5D aa hx];generalize goB a2O a0l none (g.keys.take k)=G at q ⊢; rw[hz];revert q;cases G<;>simp)
      ·
       all_goals(rw[a0b ab u])
       all_goals(refine⟨true,?_,Gh.tt []⟩)
       all_goals first|(show (_:Bool)=_;rfl)|(exfalso;revert q;simp[Is];done)|(unfold Is at q ⊢; rw[a5D aa hx];generalize goB a2O a0l none (g.keys.take k)=G at q ⊢; rw[hz];revert q;cases G<;>simp)
     ·obtain⟨j,rfl⟩:∃ j,k=j+1:=⟨_,aa⟩
      obtain⟨y,hy,an,_,_⟩:=a1A (enc:=a0i) (show j<g.keys.length by omega)
      have hw:IntKind.i64.wrap (((j+1:Nat):Int)-1)=(j:Int):=by rw[w64 (by omega)];omega
      have af:decide (((j+1:Nat):Int)=0)=false:=by simp only[zah];omega
      cases hz:a0l x<;>cases hc:decide (a2O y x<0)
      all_goals
       repeat'(first|simp only[go_sem,a0f g,lB,hb,hz,hc,af,hw]<;>refine nf ?_|refine stp ?_;intro K hK|apply hK;clear hK K|refine stn ?_|(with_reducible first|refine⟨_,a2x x,?_⟩|refine⟨_,a5T y x,?_⟩|refine⟨by omega,a0i x,ae,?_⟩|refine⟨by omega,a0i y,an,?_⟩)|(refine a0J ?_;intro K hK)|fail)
      iterate 3
       ·
        all_goals(rw[a0b ab u])
        all_goals(refine⟨false,?_,Gh.tt []⟩)
        all_goals first|(show (_:Bool)=_;rfl)|(exfalso;revert q;simp[Is];done)|(unfold Is at q ⊢; rw[a5E hy hx];generalize goB a2O a0l none (g.keys.take (j+1))=G at q ⊢; rw[hz,hc];revert q;cases G<;>simp)
      ·
       all_goals(rw[a0b ab u])
       all_goals(refine⟨true,?_,Gh.tt []⟩)
       all_goals first|(show (_:Bool)=_;rfl)|(exfalso;revert q;simp[Is];done)|(unfold Is at q ⊢; rw[a5E hy hx];generalize goB a2O a0l none (g.keys.take (j+1))=G at q ⊢; rw[hz,hc];revert q;cases G<;>simp)
   ·intro s hb q
    refine sts ?_
    rw[Is,zbh] at q
    repeat'(first|simp only[go_sem,a0f g,lB,hb]<;>refine nf ?_|refine stp ?_;intro K hK|apply hK;clear hK K|refine stn ?_|clear hK K)
    refine⟨_,?_,Gh.tt []⟩
    show vP g=s
    rw[show s=_ from q]
    simp only[vP,b6g,a4l,b3Z,a6w,a6e,a6x,b5x,hk,ah,Int.reduceEq,Int.reduceLE, *, zb,zcc,zaa,zab,zac,zad]
  ·
   intro b aj
   try simp only[go_sem]
   repeat'(first|simp only[go_sem,a0f g,lB]<;>refine nf ?_|refine stp ?_;intro K hK|apply hK;clear hK K|refine stn ?_|fail)
   refine AWP.lenB 1 3 rfl rfl fun ad=>?_
   (try rw[lB] at ad)
   refine AWP.range (S:=Bool) (g.kids) a1d (fun k s=>(7,I .i64 (k:Nat))::[(5,Bo s)]) (fun k s=>[]) [1,3] [1] (fun k s=>Is s (b&&(g.kids.take k).all a04)) (b) (by simp only[go_sem,a0f];exact Gh.tt []) ?_ ?_ ?_
   ·simp[Is]
   ·intro k s x ab hx ae hb q
    refine sts ?_
    have al:=ih x (zbc hx)
    have ag:=a6U (p:=a04) hx
    cases s
    ·
     repeat'(first|simp only[go_sem,a0f g,lB,hb]<;>refine nf ?_|refine stp ?_;intro K hK|apply hK;clear hK K|refine stn ?_|clear hK K)
     all_goals(rw[a0b ab ad])
     all_goals(refine⟨false,?_,Gh.tt []⟩)
     all_goals(show false=_;rw[ag,← zce,← show false=_ from q];rfl)
    ·
     repeat'(first|simp only[go_sem,a0f g,lB,hb]<;>refine nf ?_|refine stp ?_;intro K hK|apply hK;clear hK K|refine stn ?_|(with_reducible first|refine⟨_,al,?_⟩|refine⟨by omega,a1d x,ae,?_⟩)|refine stq ?_|clear hK K)
     all_goals(rw[a0b ab ad])
     all_goals(refine⟨a04 x,?_,Gh.tt []⟩)
     all_goals(show a04 x=_;rw[ag,← zce,← show true=_ from q];rfl)
   ·intro s hb q
    refine sts ?_
    rw[Is,zbh] at q
    repeat'(first|simp only[go_sem,a0f g,lB,hb]<;>refine nf ?_|refine stp ?_;intro K hK|apply hK;clear hK K|refine stn ?_|clear hK K)
    all_goals(refine a0m ?_;rw[ai,show vP g=b from aj,show s=_ from q])
 iterate 3
  ·
   first|have e3:decide ((8:Int)<(g.keys.length:Int))=true:=by(simp only[zan] at *; omega)|skip
   refine PCB.ob Tryz.func155 Tryz.ntmps155 Tryz.results155 ?_
   repeat'(first|(with_reducible refine AWP.join (id:=6) (fun b:Bool=>[(5,Bo b)]) (fun _=>[]) [1,3] [1] (fun b=>Is (vP g) b) ?_ ?_)|simp only[go_sem,a0f g,hk,am,ak,Int.reduceEq,lB]<;>refine nf ?_|refine stp ?_;intro K hK|apply hK;clear hK K|refine stn ?_|(refine⟨fun h=>?_,fun h=>?_⟩<;>(try simp only[zM,zN] at h)<;>try simp only[h])|clear hK K)
   any_goals (refine a0m ?_;rw[ai];simp only[vP,b6g,a4l,b3Z,a6w,a6e,a6x,b5x,hk,ah,Int.reduceEq,Int.reduceLE, *, zb,zcc,zaa,zab,zac,zad];done)
   ·
    refine AWP.lenB 1 4 rfl rfl fun u=>?_
    (try rw[lB] at u)
    refine AWP.range (S:=Bool) (g.keys) a0i (fun k s=>(6,I .i64 (k:Nat))::[(5,Bo s)]) (fun k s=>[]) [1,3] [1] (fun k s=>Is s (false&&goB a2O a0l none (g.keys.take k))) (false) (by simp only[go_sem,a0f];exact Gh.tt []) ?_ ?_ ?_
    ·simp[Is,goB]
    ·intro k s x ab hx ae hb q
     refine sts ?_
     cases s
     ·
      repeat'(first|simp only[go_sem,a0f g,lB,hb]<;>refine nf ?_|refine stp ?_;intro K hK|apply hK;clear hK K|refine stn ?_|(refine a0J ?_;intro K hK)|fail)
      all_goals(rw[a0b ab u])
      all_goals(refine⟨false,?_,Gh.tt []⟩)
      all_goals
       rcases zb9 k with aa|aa
       ·first|(show (_:Bool)=_;rfl)|(exfalso;revert q;simp[Is];done)|(unfold Is at q ⊢; rw[a5D aa hx];generalize goB a2O a0l none (g.keys.take k)=G at q ⊢; revert q;cases G<;>simp)
       ·obtain⟨j,rfl⟩:∃ j,k=j+1:=⟨_,aa⟩
        obtain⟨y,hy,_,_,_⟩:=a1A (enc:=a0i) (show j<g.keys.length by omega)
        first|(show (_:Bool)=_;rfl)|(exfalso;revert q;simp[Is];done)|(unfold Is at q ⊢; rw[a5E hy hx];generalize goB a2O a0l none (g.keys.take (j+1))=G at q ⊢; revert q;cases G<;>simp)
     ·
      rcases zb9 k with aa|aa
      ·have af:decide ((k:Int)=0)=true:=by rw[aa];rfl
       cases hz:a0l x
       all_goals
        repeat'(first|simp only[go_sem,a0f g,lB,hb,hz,af]<;>refine nf ?_|refine stp ?_;intro K hK|apply hK;clear hK K|refine stn ?_|(with_reducible first|refine⟨_,a2x x,?_⟩|refine⟨by omega,a0i x,ae,?_⟩)|(refine a0J ?_;intro K hK)|fail)
       ·
        all_goals(rw[a0b ab u])
        all_goals(refine⟨false,?_,Gh.tt []⟩)
        all_goals first|(show (_:Bool)=_;rfl)|(exfalso;revert q;simp[Is];done)|(unfold Is at q ⊢; rw[a5D aa hx];generalize goB a2O a0l none (g.keys.take k)=G at q ⊢; rw[hz];revert q;cases G<;>simp)
       ·
        all_goals(rw[a0b ab u])
        all_goals(refine⟨true,?_,Gh.tt []⟩)
        all_goals first|(show (_:Bool)=_;rfl)|(exfalso;revert q;simp[Is];done)|(unfold Is at q ⊢; rw[a5D aa hx];generalize goB a2O a0l none (g.keys.take k)=G at q ⊢; rw[hz];revert q;cases G<;>simp)
      ·obtain⟨j,rfl⟩:∃ j,k=j+1:=⟨_,aa⟩
       obtain⟨y,hy,an,_,_⟩:=a1A (enc:=a0i) (show j<g.keys.length by omega)
       have hw:IntKind.i64.wrap (((j+1:Nat):Int)-1)=(j:Int):=by rw[w64 (by omega)];omega
       have af:decide (((j+1:Nat):Int)=0)=false:=by simp only[zah];omega
       cases hz:a0l x<;>cases hc:decide (a2O y x<0)
       all_goals
        repeat'(first|simp only[go_sem,a0f g,lB,hb,hz,hc,af,hw]<;>refine nf ?_|refine stp ?_;intro K hK|apply hK;clear hK K|refine stn ?_|(with_reducible first|refine⟨_,a2x x,?_⟩|refine⟨_,a5T y x,?_⟩|refine⟨by omega,a0i x,ae,?_⟩|refine⟨by omega,a0i y,an,?_⟩)|(refine a0J ?_;intro K hK)|fail)
       iterate 3
        ·
         all_goals(rw[a0b ab u])
         all_goals(refine⟨false,?_,Gh.tt []⟩)
         all_goals first|(show (_:Bool)=_;rfl)|(exfalso;revert q;simp[Is];done)|(unfold Is at q ⊢; rw[a5E hy hx];generalize goB a2O a0l none (g.keys.take (j+1))=G at q ⊢; rw[hz,hc];revert q;cases G<;>simp)
       ·
        all_goals(rw[a0b ab u])
        all_goals(refine⟨true,?_,Gh.tt []⟩)
        all_goals first|(show (_:Bool)=_;rfl)|(exfalso;revert q;simp[Is];done)|(unfold Is at q ⊢; rw[a5E hy hx];generalize goB a2O a0l none (g.keys.take (j+1))=G at q ⊢; rw[hz,hc];revert q;cases G<;>simp)
    ·intro s hb q
     refine sts ?_
     rw[Is,zbh] at q
     repeat'(first|simp only[go_sem,a0f g,lB,hb]<;>refine nf ?_|refine stp ?_;intro K hK|apply hK;clear hK K|refine stn ?_|clear hK K)
     refine⟨_,?_,Gh.tt []⟩
     show vP g=s
     rw[show s=_ from q]
     simp only[vP,b6g,a4l,b3Z,a6w,a6e,a6x,b5x,hk,ah,Int.reduceEq,Int.reduceLE, *, zb,zcc,zaa,zab,zac,zad]
   ·
    intro b aj
    try simp only[go_sem]
    repeat'(first|simp only[go_sem,a0f g,lB]<;>refine nf ?_|refine stp ?_;intro K hK|apply hK;clear hK K|refine stn ?_|fail)
    refine AWP.lenB 1 3 rfl rfl fun ad=>?_
    (try rw[lB] at ad)
    refine AWP.range (S:=Bool) (g.kids) a1d (fun k s=>(7,I .i64 (k:Nat))::[(5,Bo s)]) (fun k s=>[]) [1,3] [1] (fun k s=>Is s (b&&(g.kids.take k).all a04)) (b) (by simp only[go_sem,a0f];exact Gh.tt []) ?_ ?_ ?_
    ·simp[Is]
    ·intro k s x ab hx ae hb q
     refine sts ?_
     have al:=ih x (zbc hx)
     have ag:=a6U (p:=a04) hx
     cases s
     ·
      repeat'(first|simp only[go_sem,a0f g,lB,hb]<;>refine nf ?_|refine stp ?_;intro K hK|apply hK;clear hK K|refine stn ?_|clear hK K)
      all_goals(rw[a0b ab ad])
      all_goals(refine⟨false,?_,Gh.tt []⟩)
      all_goals(show false=_;rw[ag,← zce,← show false=_ from q];rfl)
     ·
      repeat'(first|simp only[go_sem,a0f g,lB,hb]<;>refine nf ?_|refine stp ?_;intro K hK|apply hK;clear hK K|refine stn ?_|(with_reducible first|refine⟨_,al,?_⟩|refine⟨by omega,a1d x,ae,?_⟩)|refine stq ?_|clear hK K)
      all_goals(rw[a0b ab ad])
      all_goals(refine⟨a04 x,?_,Gh.tt []⟩)
      all_goals(show a04 x=_;rw[ag,← zce,← show true=_ from q];rfl)
    ·intro s hb q
     refine sts ?_
     rw[Is,zbh] at q
     repeat'(first|simp only[go_sem,a0f g,lB,hb]<;>refine nf ?_|refine stp ?_;intro K hK|apply hK;clear hK K|refine stn ?_|clear hK K)
     all_goals(refine a0m ?_;rw[ai,show vP g=b from aj,show s=_ from q])
end Go.Proofs.YtoelgackkclcmaaGreat

