/- Lemmas. -/
import Derived.Test.YtoelgackkclcmaaGreatPc16
open List renaming length_map→lB
open Bool renaming not_eq_true'→zM,not_eq_false'→zN
set_option linter.unusedSimpArgs false
set_option linter.unusedVariables false
set_option maxRecDepth 20000
set_option maxHeartbeats 64000000
namespace Go.Proofs.YtoelgackkclcmaaGreat
open Go Go.Sx
theorem b3b (v:Val) (hk:v.kind=4∨v.kind=5∨v.kind=6):PC Tryz.prog 87 [.st (a0c v)] (Bo (a0K v)):=by
 rcases hk with hk|hk|hk
 iterate 3
  ·
   have u:a40 v.labels=goB Lib.compareBytes a0X none v.labels:=by rw[a5a];rfl
   refine PCB.ob Tryz.func87 Tryz.ntmps87 Tryz.results87 ?_
   repeat'(first|simp only[go_sem,a0a,hk]<;>refine nf ?_|refine stp ?_;intro K hK|apply hK;clear hK K|refine stn ?_|fail)
   refine AWP.lenB 1 6 rfl rfl fun aa=>?_
   (try rw[lB] at aa)
   refine AWP.range (S:=Unit) (v.labels) Sx.encStr (fun k s=>(3,I .i64 (k:Nat))::[]) (fun k s=>[]) [1] [1] (fun k s=>goB Lib.compareBytes a0X none v.labels=goB Lib.compareBytes a0X (a49 v.labels k) (v.labels.drop k)) (()) (by simp only[go_sem,a0a];exact Gh.tt []) ?_ ?_ ?_
   ·rfl
   ·intro k s x ah hx af hb q
    refine sts ?_
    rcases zb9 k with ab|ab
    ·rw[a4r ab hx] at q
     have ad:decide ((0:Int)<(k:Int))=false:=by rw[ab];rfl
     cases hz:a0X x<;>simp only[hz,zae,zai] at q
     ·
      repeat'(first|simp only[go_sem,a0a,Sx.encStr,hk,lB,hb,hz,ad]<;>refine nf ?_|refine stp ?_;intro K hK|apply hK;clear hK K|refine stn ?_|(with_reducible first|refine⟨_,a0s x,?_⟩|refine⟨by omega,Sx.encStr x,af,?_⟩)|(refine a0J ?_;intro K hK)|clear hK K)
      all_goals(first|exact lf|(refine a0m ?_;simp only[a0K,u,q,zb,zaa,zab,zac,zad]<;>rfl))
     ·
      repeat'(first|simp only[go_sem,a0a,Sx.encStr,hk,lB,hb,hz,ad]<;>refine nf ?_|refine stp ?_;intro K hK|apply hK;clear hK K|refine stn ?_|(with_reducible first|refine⟨_,a0s x,?_⟩|refine⟨by omega,Sx.encStr x,af,?_⟩)|(refine a0J ?_;intro K hK)|clear hK K)
      all_goals(rw[a0b ah aa])
      all_goals(refine⟨(),?_,Gh.tt []⟩)
      all_goals exact q
    ·obtain⟨j,rfl⟩:∃ j,k=j+1:=⟨_,ab⟩
     obtain⟨y,hy,aj,_,_⟩:=a1A (enc:=Sx.encStr) (show j<v.labels.length by omega)
     rw[a4s hy hx] at q
     have hw:IntKind.i64.wrap (((j+1:Nat):Int)-1)=(j:Int):=by rw[w64 (by omega)];omega
     have ad:decide ((0:Int)<((j+1:Nat):Int))=true:=by simp only[zan];omega
     cases hz:a0X x<;>cases hc:decide (Lib.compareBytes y x<0)<;>simp only[hz,hc,zae,zai] at q
     all_goals
      have ag:decide (0≤Lib.compareBytes y x)=!decide (Lib.compareBytes y x<0):=by rw[← zbj];simp
      rw[hc] at ag
     all_goals(have hl:=a5b y x;rw[hc] at hl)
     all_goals
      repeat'(first|simp only[go_sem,a0a,Sx.encStr,hk,lB,hb,hz,ad,hw,ag,hl]<;>refine nf ?_|refine stp ?_;intro K hK|apply hK;clear hK K|refine stn ?_|(with_reducible first|refine⟨_,a0s x,?_⟩|refine⟨by omega,Sx.encStr x,af,?_⟩|refine⟨by omega,Sx.encStr y,aj,?_⟩)|(refine a0J ?_;intro K hK)|clear hK K)
     any_goals (first|exact fun _ h=>absurd h zaf|(refine a0m ?_;first|(simp only[a0K,u,q,zaw,zay,zae,zai,zap,zaj,zam,zaq,zat,zar,zaa,zab,zac,zad];done)|(simp only[a0K,u,q,zaw,zay,zae,zai,zap,zaj,zam,zaq,zat,zar,zaa,zab,zac,zad];rfl)))
     all_goals(rw[a0b ah aa])
     all_goals(refine⟨(),?_,Gh.tt []⟩)
     all_goals exact q
   intro s0 ai ae
   refine sts ?_
   rw[a58] at ae
   rw[ae] at u
   repeat'(first|simp only[go_sem,a0a,hk,ai,lB]<;>refine nf ?_|refine stp ?_;intro K hK|apply hK;clear hK K|refine stn ?_|(refine AWP.cnd ?_ ?_<;>intro h<;>(try simp only[zM,zN] at h))|(refine⟨fun h=>?_,fun h=>?_⟩<;>(try simp only[zM,zN] at h)<;>try simp only[h])|clear hK K)
   all_goals(first|exact lf|(refine a0m ?_;simp only[a0K,a0L,a2R,a56,a2m,a2n,a2o,a2p,a09,hk,Int.reduceEq,Int.reduceLE,u, *, zb,zaa,zab,zac,zad]<;>rfl))
theorem c9o (v:Val) (hk:v.kind=4):PC Tryz.prog 87 [.st (a0c v)] (Bo (a0K v)):=b3b v (.inl hk)
theorem c9p (v:Val) (hk:v.kind=5):PC Tryz.prog 87 [.st (a0c v)] (Bo (a0K v)):=b3b v (.inr (.inl hk))
theorem c9q (v:Val) (hk:v.kind=6):PC Tryz.prog 87 [.st (a0c v)] (Bo (a0K v)):=b3b v (.inr (.inr hk))
end Go.Proofs.YtoelgackkclcmaaGreat

