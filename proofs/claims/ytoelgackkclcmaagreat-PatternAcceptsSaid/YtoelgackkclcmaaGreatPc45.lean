/- Lemmas. -/
import Derived.Test.YtoelgackkclcmaaGreatPc30
import Derived.Test.YtoelgackkclcmaaGreatPc31
import Derived.Test.YtoelgackkclcmaaGreatPc38
open Go.Proofs.Tryz renaming prog→zP
open List renaming length_map→lB
set_option linter.unusedSimpArgs false
set_option linter.unusedVariables false
set_option maxRecDepth 20000
set_option maxHeartbeats 64000000
namespace Go.Proofs.YtoelgackkclcmaaGreat
open Go Go.Sx
theorem a8N (g:Pat):PC zP 155 [Pt g] (Bo (a04 g)):=by
 have ih:∀ k∈g.kids,PC zP 155 [Pt k] (Bo (a04 k)):=fun k hk=>a8N k
 rcases b7t g.kind with hk|hk|hk|hk|hk|hk|hk|hk|hk|hk|⟨g1,g2,g3,g4,g5,g6,g7,g8,g9,g10⟩
 all_goals first
  |exact c65 g ih (by omega)
  |exact c7b g ih (by omega)
  |exact c7c g ih (by omega)
  |exact c66 g ih g1 g2 g3 g4 g5 g6 g7 g8 g9 g10
termination_by cntP g
decreasing_by all_goals exact a1C hk
def c2n (g:Pat):Bool:=decide (((a0M (a0Z g)).length:Int)<((a0Z g).length:Int))
def okP (g:Pat):Bool:=!decide ((40:Int)<(cntP g:Int))&&(a04 g&&!c2n g)
def a9s (g:Pat):Int:=bif decide ((40:Int)<(cntP g:Int)) then 2 else bif a04 g then (bif c2n g then 6 else 0) else 1
theorem b3E (g:Pat):decide (a9s g=0)=okP g:=by
  unfold a9s okP
  cases decide ((40:Int)<(cntP g:Int))<;>cases a04 g<;>cases c2n g<;>rfl
theorem a78 (g:Pat) (hg:PSm g):PC zP 35 [Pt g] (I .i64 (a9s g)):=by
 have h1:=b9M g hg
 have h2:=a9O g
 cases hz:decide ((40:Int)<(cntP g:Int))
 case true=>
  refine PCB.ob Tryz.func35 Tryz.ntmps35 Tryz.results35 ?_
  repeat'(first|simp only[go_sem,hz]<;>refine nf ?_|refine stp ?_;intro K hK|apply hK;clear hK K|refine stn ?_|(with_reducible refine⟨_,h1,?_⟩)|refine stq ?_|clear hK K)
  all_goals(first|exact lf|(refine a0m ?_;simp only[a9s,hz,zb,zaa,zab,zac,zad]<;>rfl))
 cases ht:a04 g<;>rw[ht] at h2
 case false=>
  refine PCB.ob Tryz.func35 Tryz.ntmps35 Tryz.results35 ?_
  repeat'(first|simp only[go_sem,hz]<;>refine nf ?_|refine stp ?_;intro K hK|apply hK;clear hK K|refine stn ?_|(with_reducible first|refine⟨_,h1,?_⟩|refine⟨_,h2,?_⟩)|refine stq ?_|clear hK K)
  all_goals(first|exact lf|(refine a0m ?_;simp only[a9s,hz,ht,zb,zaa,zab,zac,zad]<;>rfl))
 have h3:=b2u g hg
 have u:=a9g g hg
 have hl:(a0Z g).length≤100000000:=zbe (a1z _) hg
 have h4:a1k zP 80 [.one (.own 11 (a0Z g).length)] 11 (.row 1 ((a0Z g).map Sx.encStr)) (.tup []) (.row 1 (((a0Z g).mergeSort fun x y=>decide (x≤y)).map Sx.encStr)):=
  a1k.own1 11 (a8C Go.Proofs.Tryz.sortS (a0Z g) (by omega))
 have h5:a1k zP 81 [.one (.own 11 (a0Z g).length)] 11 (.row 1 (((a0Z g).mergeSort fun x y=>decide (x≤y)).map Sx.encStr)) (.one (.own 11 (a0M (a0Z g)).length)) (.row 1 ((a0M (a0Z g)).map Sx.encStr)):=by
  have h:=a6V Go.Proofs.Tryz.compS ((a0Z g).mergeSort fun x y=>decide (x≤y))
  rw[a5g,zda] at h
  exact a1k.own2 11 h
 cases hd:c2n g
 all_goals
  have q:=hd
  unfold c2n at q
  refine PCB.ob Tryz.func35 Tryz.ntmps35 Tryz.results35 ?_
  repeat'(first|simp only[go_sem,lB,hz,q]<;>refine nf ?_|refine stp ?_;intro K hK|apply hK;clear hK K|refine stn ?_|(with_reducible first|refine⟨_,h1,?_⟩|refine⟨_,h2,?_⟩|refine Or.inr (Or.inl ⟨_,_,h3,?_⟩)|refine⟨_,u,?_⟩)|(apply Or.inr;refine⟨11,_,_,_,h4,rfl,?_⟩;simp only[go_sem])|(apply Or.inr;refine⟨11,_,_,_,h5,rfl,?_⟩;simp only[go_sem])|(with_reducible refine AWP.genR (id:=7) [1] [11] mixed (by kernel_rfl) fun K hK=>?_;simp only[Bx.outs,Bx.drop,zaa,zab,Nat.reduceBEq,go_sem])|refine stq ?_|clear hK K)
  all_goals(first|exact lf|(refine a0m ?_;simp only[a9s,hz,ht,hd,zb,zaa,zab,zac,zad]<;>rfl))
theorem b1P (g:Pat) (hg:PSm g):PC zP 95 [Pt g] (I .i64 (a9s g)):=by
 have h1:=b16 g hg
 have h2:=a8N g
 cases hz:decide ((40:Int)<(cntP g:Int))
 case true=>
  refine PCB.ob Tryz.func95 Tryz.ntmps95 Tryz.results95 ?_
  repeat'(first|simp only[go_sem,hz]<;>refine nf ?_|refine stp ?_;intro K hK|apply hK;clear hK K|refine stn ?_|(with_reducible refine⟨_,h1,?_⟩)|refine stq ?_|clear hK K)
  all_goals(first|exact lf|(refine a0m ?_;simp only[a9s,hz,zb,zaa,zab,zac,zad]<;>rfl))
 cases ht:a04 g<;>rw[ht] at h2
 case false=>
  refine PCB.ob Tryz.func95 Tryz.ntmps95 Tryz.results95 ?_
  repeat'(first|simp only[go_sem,hz]<;>refine nf ?_|refine stp ?_;intro K hK|apply hK;clear hK K|refine stn ?_|(with_reducible first|refine⟨_,h1,?_⟩|refine⟨_,h2,?_⟩)|refine stq ?_|clear hK K)
  all_goals(first|exact lf|(refine a0m ?_;simp only[a9s,hz,ht,zb,zaa,zab,zac,zad]<;>rfl))
 have h3:=a6i g hg
 have u:=a1z g
 have h4:=a5c (a0Z g) (by simp only[zah] at hz;omega)
 cases hd:c2n g
 all_goals
  have q:=hd
  unfold c2n at q
  refine PCB.ob Tryz.func95 Tryz.ntmps95 Tryz.results95 ?_
  repeat'(first|simp only[go_sem,lB,hz,q]<;>refine nf ?_|refine stp ?_;intro K hK|apply hK;clear hK K|refine stn ?_|(with_reducible first|refine⟨_,h1,?_⟩|refine⟨_,h2,?_⟩|refine⟨_,h3,?_⟩|refine⟨_,h4,?_⟩)|refine stq ?_|clear hK K)
  all_goals(first|exact lf|(refine a0m ?_;simp only[a9s,hz,ht,hd,zb,zaa,zab,zac,zad]<;>rfl))
def c4a:Pat:=⟨1,0,[],[],[]⟩
theorem b7S:Pt c4a= .st [.int .i64 1, .int .i64 0, .str [], .sl 5 [], .sl 2 []]:=by rw[show Pt c4a=T.st (a1d c4a) from rfl,a0f];rfl
def a0w (g:Pat):Pat:=bif okP g then g else c4a
theorem b3F (g:Pat) (hg:PSm g):PC zP 49 [Pt g] (Pt (a0w g)):=by
 have h1:=a78 g hg
 have hc:=b3E g
 unfold a0w
 refine PCB.ob Tryz.func49 Tryz.ntmps49 Tryz.results49 ?_
 cases hz:okP g<;>rw[hz] at hc
 all_goals
  repeat'(first|simp only[go_sem,hc]<;>refine nf ?_|refine stp ?_;intro K hK|apply hK;clear hK K|refine stn ?_|(with_reducible refine⟨_,h1,?_⟩)|refine stq ?_|clear hK K)
 all_goals(first|exact fun _ h=>absurd h zaf|refine a0m ?_)
 all_goals(simp only[zaa,zab,b7S];try rfl)
theorem c1C (g:Pat) (hg:PSm g):PC zP 50 [Pt g] (Pt (a0w g)):=by
 have h1:=b1P g hg
 have hc:=b3E g
 unfold a0w
 refine PCB.ob Tryz.func50 Tryz.ntmps50 Tryz.results50 ?_
 cases hz:okP g<;>rw[hz] at hc
 all_goals
  repeat'(first|simp only[go_sem,hc]<;>refine nf ?_|refine stp ?_;intro K hK|apply hK;clear hK K|refine stn ?_|(with_reducible refine⟨_,h1,?_⟩)|refine stq ?_|clear hK K)
 all_goals(first|exact fun _ h=>absurd h zaf|refine a0m ?_)
 all_goals(simp only[zaa,zab,b7S];try rfl)
theorem c7F:okP c4a=true:=by
  have h1:cntP c4a=1:=by rw[a19];rfl
  have h2:a04 c4a=true:=by rw[a5f];rfl
  have h3:a0Z c4a=[]:=by rw[a7B];rfl
  unfold okP c2n;rw[h1,h2,h3];rfl
theorem a2b (g:Pat):okP (a0w g)=true:=by
  unfold a0w
  cases hz:okP g
  · exact c7F
  · exact hz
theorem a79 {g:Pat} (h:okP g=true):cntP g≤40:=by
  unfold okP at h;simp only[zag,zbm,zah] at h;omega
theorem a5j {g:Pat} (h:okP g=true):a04 g=true:=by
  unfold okP at h;simp only[zag] at h;exact h.2.1
theorem b6E {g:Pat} (h:okP g=true):(a0Z g).length≤(a0M (a0Z g)).length:=by
  unfold okP c2n at h;simp only[zag,zbm,zah] at h;omega
theorem a8O (g:Pat):PSm (a0w g):=by have:=a79 (a2b g);unfold PSm;omega
theorem b42 (l:List (List UInt8)) (h:l.length≤(Lib.compact l).length):Lib.compact l=l:=by
 unfold Lib.compact Lib.compactUpTo at*
 rw[lB] at h
 have hf:(List.range l.length).filter (Lib.keeps l.toArray)=List.range l.length:=
  List.Sublist.eq_of_length_le List.filter_sublist (by rw[zcv];exact h)
 rw[hf]
 apply List.ext_getElem
 ·simp
 ·intro i h1 h2
  simp[h2]
theorem a5k (l:List (List UInt8)) (h:l.length≤(a0M l).length):(l.mergeSort fun x y=>decide (x≤y))=a0M l:=by
  rw[← a5g] at h ⊢
  exact(b42 _ (by rw[zda];exact h)).symm
def namesP (g:Pat):List (List UInt8):=a0M (a0Z (a0w g))
theorem c4b (g:Pat) (hg:PSm g):PC zP 67 [Pt g] (SsP (namesP g)):=by
 have h1:=b3F g hg
 have hs:=a8O g
 have h2:=b2u (a0w g) hs
 have hl:(a0Z (a0w g)).length≤100000000:=zbe (a1z _) hs
 have h3:a1k zP 80 [.one (.own 6 (a0Z (a0w g)).length)] 6 (.row 1 ((a0Z (a0w g)).map Sx.encStr)) (.tup []) (.row 1 ((namesP g).map Sx.encStr)):=by
  have h:=a1k.own1 6 (a8C Go.Proofs.Tryz.sortS (a0Z (a0w g)) (by omega))
  rw[a5k _ (b6E (a2b g))] at h
  exact h
 have q:(a0Z (a0w g)).length=(namesP g).length:=by
  have h:=congrArg List.length (a5k _ (b6E (a2b g)))
  rwa[zda] at h
 rw[q] at h2 h3
 refine PCB.ob Tryz.func67 Tryz.ntmps67 Tryz.results67 ?_
 refine AWP.ghQ ?_
 repeat'(first|simp only[go_sem,lB]<;>refine nf ?_|refine stp ?_;intro K hK|apply hK;clear hK K|refine stn ?_|(with_reducible first|refine⟨_,h1,?_⟩|refine Or.inr (Or.inl ⟨_,_,h2,?_⟩))|(apply Or.inr;refine⟨6,_,_,_,h3,rfl,?_⟩;simp only[go_sem])|refine stq ?_|fail)
 refine⟨_,Gh.fz 6,?_⟩
 simp only[go_sem,lB]
 all_goals(first|exact fun _ h=>absurd h zaf|refine a0m ?_)
theorem b1Q (g:Pat) (hg:PSm g):PC zP 54 [Pt g] (SsP (namesP g)):=by
  have h1:=c1C g hg
  have hs:=a8O g
  have h2:=a6i (a0w g) hs
  have h3:=a5c (a0Z (a0w g)) (by have:=a1z (a0w g);have:=a79 (a2b g);omega)
  refine PCB.ob Tryz.func54 Tryz.ntmps54 Tryz.results54 ?_
  repeat'(first|simp only[go_sem]<;>refine nf ?_|refine stp ?_;intro K hK|apply hK;clear hK K|refine stn ?_|(with_reducible first|refine⟨_,h1,?_⟩|refine⟨_,h2,?_⟩|refine⟨_,h3,?_⟩)|refine stq ?_|fail)
  all_goals exact lf
end Go.Proofs.YtoelgackkclcmaaGreat

