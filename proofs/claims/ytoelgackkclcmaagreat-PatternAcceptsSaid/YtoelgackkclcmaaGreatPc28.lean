/- Lemmas. -/
import Derived.Test.YtoelgackkclcmaaGreatPc12
import Derived.Test.YtoelgackkclcmaaGreatPc16
open List renaming length_map→lB
set_option linter.unusedSimpArgs false
set_option linter.unusedVariables false
set_option maxRecDepth 20000
set_option maxHeartbeats 64000000
namespace Go.Proofs.YtoelgackkclcmaaGreat
open Go Go.Sx
def b3Z (k:Int):Bool:=decide (k=3)
def a6w (k:Int):Bool:=decide (k=2)||(decide (k=4)||(decide (k=5)||decide (k=10)))
def a6e (k:Int):Bool:=decide (k=7)||(decide (k=8)||(decide (k=9)||decide (k=10)))
def a6x (k:Int):Bool:=decide (k=9)
theorem b7t (k:Int):k=1∨k=2∨k=3∨k=4∨k=5∨k=6∨k=7∨k=8∨k=9∨k=10∨(decide (k=1)=false∧decide (k=2)=false∧decide (k=3)=false∧decide (k=4)=false∧decide (k=5)=false∧decide (k=6)=false∧decide (k=7)=false∧decide (k=8)=false∧decide (k=9)=false∧decide (k=10)=false):=by
  simp only[zah];omega
theorem c64 (k:Int):PC Tryz.prog 188 [I .i64 k] (.tup [Bo (b3Z k),Bo (a6w k),Bo (a6e k),Bo (a6x k)]):=by
 rcases b7t k with hk|hk|hk|hk|hk|hk|hk|hk|hk|hk|⟨g1,g2,g3,g4,g5,g6,g7,g8,g9,g10⟩
 iterate 10
  ·
   refine PCB.ob Tryz.func188 Tryz.ntmps188 Tryz.results188 ?_
   repeat'(first|simp only[go_sem,hk,Int.reduceEq]<;>refine nf ?_|refine stp ?_;intro K hK|apply hK;clear hK K|refine stn ?_|fail)
   all_goals(first|exact lf|(refine a0m ?_;simp only[b3Z,a6w,a6e,a6x,hk,Int.reduceEq,zb,zaa,zab,zac,zad]<;>rfl))
 ·
  refine PCB.ob Tryz.func188 Tryz.ntmps188 Tryz.results188 ?_
  repeat'(first|simp only[go_sem,g1,g2,g3,g4,g5,g6,g7,g8,g9,g10]<;>refine nf ?_|refine stp ?_;intro K hK|apply hK;clear hK K|refine stn ?_|fail)
  all_goals(first|exact lf|(refine a0m ?_;simp only[b3Z,a6w,a6e,a6x,g1,g2,g3,g4,g5,g6,g7,g8,g9,g10,zb,zaa,zab,zac,zad]<;>rfl))
def b5x (g:Pat):Bool:=!(!decide ((g.keys.length:Int)=(g.kids.length:Int))||decide ((8:Int)<(g.keys.length:Int)))&&goB a2O a0l none g.keys
theorem b6f (g:Pat):PC Tryz.prog 191 [Pt g] (Bo (b5x g)):=by
 cases h1:decide ((g.keys.length:Int)=(g.kids.length:Int))
 ·
  refine PCB.ob Tryz.func191 Tryz.ntmps191 Tryz.results191 ?_
  repeat'(first|simp only[go_sem,a0f g,lB,h1]<;>refine nf ?_|refine stp ?_;intro K hK|apply hK;clear hK K|refine stn ?_|clear hK K)
  all_goals(first|exact lf|(refine a0m ?_;simp only[b5x,h1,zb,zaa,zab,zac,zad]<;>rfl))
 cases h2:decide ((8:Int)<(g.keys.length:Int))
 case true=>
  refine PCB.ob Tryz.func191 Tryz.ntmps191 Tryz.results191 ?_
  repeat'(first|simp only[go_sem,a0f g,lB,h1,h2]<;>refine nf ?_|refine stp ?_;intro K hK|apply hK;clear hK K|refine stn ?_|clear hK K)
  all_goals(first|exact lf|(refine a0m ?_;simp only[b5x,h1,h2,zb,zaa,zab,zac,zad]<;>rfl))
 have hm:b5x g=goB a2O a0l none g.keys:=by unfold b5x;rw[h1,h2];rfl
 refine PCB.ob Tryz.func191 Tryz.ntmps191 Tryz.results191 ?_
 repeat'(first|simp only[go_sem,a0f g,lB,h1,h2]<;>refine nf ?_|refine stp ?_;intro K hK|apply hK;clear hK K|refine stn ?_|fail)
 refine AWP.len 19 rfl fun u=>?_
 (try rw[lB] at u)
 refine AWP.range (S:=Unit) (g.keys) a0i (fun k s=>(21,I .i64 (k:Nat))::[]) (fun k s=>[]) [1,19,20] [1] (fun k s=>goB a2O a0l none g.keys=goB a2O a0l (a49 g.keys k) (g.keys.drop k)) (()) (by simp only[go_sem,a0f];exact Gh.tt []) ?_ ?_ ?_
 ·rfl
 ·intro k s x ag hx ae hb q
  refine sts ?_
  rcases zb9 k with aa|aa
  ·rw[a4r aa hx] at q
   have ab:decide ((0:Int)<(k:Int))=false:=by rw[aa];rfl
   cases hz:a0l x<;>simp only[hz,zae,zai] at q
   ·
    repeat'(first|simp only[go_sem,a0f g,lB,hb,hz,ab]<;>refine nf ?_|refine stp ?_;intro K hK|apply hK;clear hK K|refine stn ?_|(with_reducible first|refine⟨_,a2e x,?_⟩|refine⟨by omega,a0i x,ae,?_⟩)|(refine a0J ?_;intro K hK)|clear hK K)
    all_goals(first|exact lf|(refine a0m ?_;simp only[hm,q,zb,zaa,zab,zac,zad]<;>rfl))
   ·
    repeat'(first|simp only[go_sem,a0f g,lB,hb,hz,ab]<;>refine nf ?_|refine stp ?_;intro K hK|apply hK;clear hK K|refine stn ?_|(with_reducible first|refine⟨_,a2e x,?_⟩|refine⟨by omega,a0i x,ae,?_⟩)|(refine a0J ?_;intro K hK)|clear hK K)
    all_goals(rw[a0b ag u])
    all_goals(refine⟨(),?_,Gh.tt []⟩)
    all_goals exact q
  ·obtain⟨j,rfl⟩:∃ j,k=j+1:=⟨_,aa⟩
   obtain⟨y,hy,ai,_,_⟩:=a1A (enc:=a0i) (show j<g.keys.length by omega)
   rw[a4s hy hx] at q
   have hw:IntKind.i64.wrap (((j+1:Nat):Int)-1)=(j:Int):=by rw[w64 (by omega)];omega
   have ab:decide ((0:Int)<((j+1:Nat):Int))=true:=by simp only[zan];omega
   cases hz:a0l x<;>cases hc:decide (a2O y x<0)<;>simp only[hz,hc,zae,zai] at q
   all_goals
    have af:decide (0≤a2O y x)=!decide (a2O y x<0):=by rw[← zbj];simp
    rw[hc] at af
   all_goals
    repeat'(first|simp only[go_sem,a0f g,lB,hb,hz,ab,hw,af]<;>refine nf ?_|refine stp ?_;intro K hK|apply hK;clear hK K|refine stn ?_|(with_reducible first|refine⟨_,a2e x,?_⟩|refine⟨_,a1i y x,?_⟩|refine⟨by omega,a0i x,ae,?_⟩|refine⟨by omega,a0i y,ai,?_⟩)|(refine a0J ?_;intro K hK)|clear hK K)
   any_goals (first|exact fun _ h=>absurd h zaf|(refine a0m ?_;rw[hm,q];done)|(refine a0m ?_;rw[hm,q];rfl))
   all_goals(rw[a0b ag u])
   all_goals(refine⟨(),?_,Gh.tt []⟩)
   all_goals exact q
 intro s0 ah ad
 refine sts ?_
 rw[a58] at ad
 repeat'(first|simp only[go_sem,a0f g,lB,ah]<;>refine nf ?_|refine stp ?_;intro K hK|apply hK;clear hK K|refine stn ?_|clear hK K)
 all_goals(refine a0m ?_;rw[hm,ad])
end Go.Proofs.YtoelgackkclcmaaGreat

