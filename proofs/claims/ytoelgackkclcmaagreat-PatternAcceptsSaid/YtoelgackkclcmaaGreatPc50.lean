/- Lemmas. -/
import Derived.Test.YtoelgackkclcmaaGreatPc34
import Derived.Test.YtoelgackkclcmaaGreatPc49
open Go.Proofs.Tryz renaming prog→zP
open List renaming mem_singleton→lN
set_option linter.unusedSimpArgs false
set_option linter.unusedVariables false
set_option maxRecDepth 20000
set_option maxHeartbeats 64000000
namespace Go.Proofs.YtoelgackkclcmaaGreat
open Go Go.Sx
def a4g (g:Pat):Prop:=∀ s:Src,s.ok→PCB zP 12 [Sp pin,Pt g] [(pin,a00 s)] (Vt (a1h g s).1) [(pin,a00 (a1h g s).2)]
theorem a4g.k {g:Pat} (H:a4g g) (k:Nat) (s:Src) (hs:s.ok):a1k zP 12 [Sp k, .st (a1d g)] k (a00 s) (.st (a0c (a1h g s).1)) (a00 (a1h g s).2):=a1k.mk k (H s hs)
theorem c7Y (g:Pat) (hk:g.kind=3):a4g g:=by
 intro s hs
 have u:=a3v 2 s hs
 have kv:a1k zP 28 [Sp 1000000,I .i64 2] 1000000 (a00 s) (.st (a0c (a0D 2 s).1)) (a00 (a0D 2 s).2):=a1k.mk 1000000 (a0P 2 (by omega) s hs)
 rw[show a1h g s=(okV (a3j g.num),(a0D 2 s).2) from by rw[a2E,hk];rfl]
 have hc:PC zP 34 [I .i64 g.num] (.st (a0c (a3j g.num))):=a95 g.num
 generalize (a0D 2 s).1=v0 at*
 generalize (a0D 2 s).2=s1 at*
 have q:=a11 (a3j g.num)
 cases ht:a0t (a3j g.num)<;>rw[ht] at q<;>(unfold okV;rw[ht])
 all_goals
  refine PCB.ob Tryz.func12 Tryz.ntmps12 Tryz.results12 ?_
  repeat'(first|simp only[go_sem,pin,a0f g,hk,Int.reduceEq]<;>refine nf ?_|refine stp ?_;intro K hK|apply hK;clear hK K|refine stn ?_|(with_reducible first|refine⟨_,hc,?_⟩|refine⟨_,q,?_⟩|refine⟨_,a1r,?_⟩)|(refine⟨1000000,_,_,_,kv,rfl,?_⟩)|refine stq ?_|clear hK K)
 all_goals((try refine⟨by first|trivial|rfl,?_⟩);intro x hx;simp only[lN] at hx;subst hx;simp)
theorem c7Z (g:Pat) (hk:g.kind=4):a4g g:=by
 intro s hs
 have u:=a3v 2 s hs
 have kv:a1k zP 28 [Sp 1000000,I .i64 2] 1000000 (a00 s) (.st (a0c (a0D 2 s).1)) (a00 (a0D 2 s).2):=a1k.mk 1000000 (a0P 2 (by omega) s hs)
 rw[show a1h g s=(okV (a6p g.text),(a0D 2 s).2) from by rw[a2E,hk];rfl]
 have hc:PC zP 42 [S g.text] (.st (a0c (a6p g.text))):=a59 g.text
 generalize (a0D 2 s).1=v0 at*
 generalize (a0D 2 s).2=s1 at*
 have q:=a11 (a6p g.text)
 cases ht:a0t (a6p g.text)<;>rw[ht] at q<;>(unfold okV;rw[ht])
 all_goals
  refine PCB.ob Tryz.func12 Tryz.ntmps12 Tryz.results12 ?_
  repeat'(first|simp only[go_sem,pin,a0f g,hk,Int.reduceEq]<;>refine nf ?_|refine stp ?_;intro K hK|apply hK;clear hK K|refine stn ?_|(with_reducible first|refine⟨_,hc,?_⟩|refine⟨_,q,?_⟩|refine⟨_,a1r,?_⟩)|(refine⟨1000000,_,_,_,kv,rfl,?_⟩)|refine stq ?_|clear hK K)
 all_goals((try refine⟨by first|trivial|rfl,?_⟩);intro x hx;simp only[lN] at hx;subst hx;simp)
theorem c70 (g:Pat) (hk:g.kind=5):a4g g:=by
 intro s hs
 have u:=a3v 2 s hs
 have kv:a1k zP 28 [Sp 1000000,I .i64 2] 1000000 (a00 s) (.st (a0c (a0D 2 s).1)) (a00 (a0D 2 s).2):=a1k.mk 1000000 (a0P 2 (by omega) s hs)
 rw[show a1h g s=(okV (a4j g.text),(a0D 2 s).2) from by rw[a2E,hk];rfl]
 have hc:PC zP 43 [S g.text] (.st (a0c (a4j g.text))):=a7m g.text
 generalize (a0D 2 s).1=v0 at*
 generalize (a0D 2 s).2=s1 at*
 have q:=a11 (a4j g.text)
 cases ht:a0t (a4j g.text)<;>rw[ht] at q<;>(unfold okV;rw[ht])
 all_goals
  refine PCB.ob Tryz.func12 Tryz.ntmps12 Tryz.results12 ?_
  repeat'(first|simp only[go_sem,pin,a0f g,hk,Int.reduceEq]<;>refine nf ?_|refine stp ?_;intro K hK|apply hK;clear hK K|refine stn ?_|(with_reducible first|refine⟨_,hc,?_⟩|refine⟨_,q,?_⟩|refine⟨_,a1r,?_⟩)|(refine⟨1000000,_,_,_,kv,rfl,?_⟩)|refine stq ?_|clear hK K)
 all_goals((try refine⟨by first|trivial|rfl,?_⟩);intro x hx;simp only[lN] at hx;subst hx;simp)
theorem c71 (g:Pat) (hk:g.kind=6):a4g g:=by
 intro s hs
 have u:=a3v 2 s hs
 have kv:a1k zP 28 [Sp 1000000,I .i64 2] 1000000 (a00 s) (.st (a0c (a0D 2 s).1)) (a00 (a0D 2 s).2):=a1k.mk 1000000 (a0P 2 (by omega) s hs)
 rw[show a1h g s=(okV a0W,(a0D 2 s).2) from by rw[a2E,hk];rfl]
 have hc:PC zP 44 [] (.st (a0c a0W)):=a1r
 generalize (a0D 2 s).1=v0 at*
 generalize (a0D 2 s).2=s1 at*
 have q:=a11 a0W
 cases ht:a0t a0W<;>rw[ht] at q<;>(unfold okV;rw[ht])
 all_goals
  refine PCB.ob Tryz.func12 Tryz.ntmps12 Tryz.results12 ?_
  repeat'(first|simp only[go_sem,pin,a0f g,hk,Int.reduceEq]<;>refine nf ?_|refine stp ?_;intro K hK|apply hK;clear hK K|refine stn ?_|(with_reducible first|refine⟨_,hc,?_⟩|refine⟨_,q,?_⟩)|(refine⟨1000000,_,_,_,kv,rfl,?_⟩)|refine stq ?_|clear hK K)
 all_goals((try refine⟨by first|trivial|rfl,?_⟩);intro x hx;simp only[lN] at hx;subst hx;simp)
theorem b6O (g:Pat) (af:decide (g.kind=3)=false) (ah:decide (g.kind=4)=false) (ag:decide (g.kind=5)=false) (ad:decide (g.kind=6)=false) (u:decide (g.kind=7)=false) (ae:decide (g.kind=8)=false) (aa:decide (g.kind=9)=false) (q:decide (g.kind=10)=false):a4g g:=by
 intro s hs
 have ai:=a3v 2 s hs
 have kv:a1k zP 28 [Sp 1000000,I .i64 2] 1000000 (a00 s) (.st (a0c (a0D 2 s).1)) (a00 (a0D 2 s).2):=a1k.mk 1000000 (a0P 2 (by omega) s hs)
 rw[show a1h g s=(okV (a0D 2 s).1,(a0D 2 s).2) from by rw[a2E,af,ah,ag,ad,u,ae,aa,q];rfl]
 generalize (a0D 2 s).1=v0 at*
 generalize (a0D 2 s).2=s1 at*
 have ab:=a11 v0
 cases ht:a0t v0<;>rw[ht] at ab<;>(unfold okV;rw[ht])
 all_goals
  refine PCB.ob Tryz.func12 Tryz.ntmps12 Tryz.results12 ?_
  repeat'(first|simp only[go_sem,pin,a0f g,af,ah,ag,ad,u,ae,aa,q]<;>refine nf ?_|refine stp ?_;intro K hK|apply hK;clear hK K|refine stn ?_|(with_reducible first|refine⟨_,ab,?_⟩|refine⟨_,a1r,?_⟩)|(refine⟨1000000,_,_,_,kv,rfl,?_⟩)|refine stq ?_|clear hK K)
 all_goals((try refine⟨by first|trivial|rfl,?_⟩);intro x hx;simp only[lN] at hx;subst hx;simp)
theorem c4m (g:Pat) (hk:g.kind=10) (ih:∀ k∈g.kids,a4g k):a4g g:=by
 intro s hs
 have ab:=a3v 2 s hs
 have kv:a1k zP 28 [Sp 1000000,I .i64 2] 1000000 (a00 s) (.st (a0c (a0D 2 s).1)) (a00 (a0D 2 s).2):=a1k.mk 1000000 (a0P 2 (by omega) s hs)
 cases hl:decide ((g.kids.length:Int)=1)
 ·rw[show a1h g s=(okV (a0D 2 s).1,(a0D 2 s).2) from by
   rw[a2E,hk]
   show a6W g.kids (a0D 2 s)=_
   match hkk:g.kids,hl with
   |[],_=>rw[a6W]
   |[k],hl=>simp at hl
   |k::k2::r,_=>rw[a6W];rfl]
  generalize (a0D 2 s).1=v0 at*
  generalize (a0D 2 s).2=s1 at*
  have q:=a11 v0
  cases ht:a0t v0<;>rw[ht] at q<;>(unfold okV;rw[ht])
  all_goals
   refine PCB.ob Tryz.func12 Tryz.ntmps12 Tryz.results12 ?_
   repeat'(first|simp only[go_sem,pin,a0f g,hk,hl,Int.reduceEq,zcb]<;>refine nf ?_|refine stp ?_;intro K hK|apply hK;clear hK K|refine stn ?_|(with_reducible first|refine⟨_,q,?_⟩|refine⟨_,a1r,?_⟩)|(refine⟨1000000,_,_,_,kv,rfl,?_⟩)|refine stq ?_|clear hK K)
  all_goals((try refine⟨by first|trivial|rfl,?_⟩);intro x hx;simp only[lN] at hx;subst hx;simp)
 ·obtain⟨k0,u⟩:=List.length_eq_one_iff.1 (show g.kids.length=1 by simp only[zan] at hl;omega)
  have h0:=ih k0 (by rw[u];simp)
  have aa:(g.kids.map a1d)[0]?= some (a1d k0):=by rw[u];rfl
  rw[show a1h g s=(okV (a1h k0 (a0D 2 s).2).1,(a1h k0 (a0D 2 s).2).2) from by
   rw[a2E,hk,u]
   show a6W [k0] (a0D 2 s)=_
   rw[a6W];rfl]
  have ka:=h0.k 1000000 _ ab
  generalize (a0D 2 s).1=v0 at*
  generalize (a0D 2 s).2=s1 at*
  generalize (a1h k0 s1).1=w at*
  generalize (a1h k0 s1).2=s2 at*
  have q:=a11 w
  cases ht:a0t w<;>rw[ht] at q<;>(unfold okV;rw[ht])
  all_goals
   refine PCB.ob Tryz.func12 Tryz.ntmps12 Tryz.results12 ?_
   repeat'(first|simp only[go_sem,pin,a0f g,hk,hl,Int.reduceEq,zcb]<;>refine nf ?_|refine stp ?_;intro K hK|apply hK;clear hK K|refine stn ?_|(with_reducible first|refine⟨_,q,?_⟩|refine⟨_,a1r,?_⟩|refine⟨a1d k0,aa,?_⟩)|(refine⟨1000000,_,_,_,kv,rfl,?_⟩)|(refine⟨1000000,_,_,_,ka,rfl,?_⟩)|refine stq ?_|clear hK K)
  all_goals((try refine⟨by first|trivial|rfl,?_⟩);intro x hx;simp only[lN] at hx;subst hx;simp)
end Go.Proofs.YtoelgackkclcmaaGreat

