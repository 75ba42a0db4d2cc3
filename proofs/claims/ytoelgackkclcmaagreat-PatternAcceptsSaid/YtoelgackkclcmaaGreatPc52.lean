/- Lemmas. -/
import Derived.Test.YtoelgackkclcmaaGreatPc50
import Derived.Test.YtoelgackkclcmaaGreatPc47
open List renaming length_append→lA,length_map→lB
set_option linter.unusedSimpArgs false
set_option linter.unusedVariables false
set_option maxRecDepth 20000
set_option maxHeartbeats 64000000
namespace Go.Proofs.YtoelgackkclcmaaGreat
open Go Go.Sx
theorem b5l (l:List KeyD):l.map a0i++[[.int .i64 0, .str [111,116,104,101,114]]]=(l++[a8E]).map a0i:=by
  rw[zbn];rfl
theorem c73 (g:Pat) (hg:PSm g) (a2:g.keys.length≤1000) (hk:g.kind=9) (ih:∀ k∈g.kids,a4g k):a4g g:=by
 intro s hs
 have az:=a3v 2 s hs
 have kv:a1k Tryz.prog 28 [Sp 1000000,I .i64 2] 1000000 (a00 s) (.st (a0c (a0D 2 s).1)) (a00 (a0D 2 s).2):=a1k.mk 1000000 (a0P 2 (by omega) s hs)
 have a1:=a67 g.kids
 unfold PSm at hg
 have a6:=a19 g
 rw[show a1h g s=(okV (b9y g.keys (a0N g.kids (a0D 2 s).2).1 (a0N g.kids (a0D 2 s).2).2).1,(b9y g.keys (a0N g.kids (a0D 2 s).2).1 (a0N g.kids (a0D 2 s).2).2).2) from by rw[a2E,hk];rfl]
 generalize (a0D 2 s).1=v0 at*
 generalize (a0D 2 s).2=s1 at*
 refine PCB.ob Tryz.func12 Tryz.ntmps12 Tryz.results12 ?_
 repeat'(first|simp only[go_sem,pin,a0f g,hk,Int.reduceEq,lB]<;>refine nf ?_|refine stp ?_;intro K hK|apply hK;clear hK K|refine stn ?_|(refine⟨1000000,_,_,_,kv,rfl,?_⟩)|refine stq ?_|fail)
 refine AWP.gh (Gh.nilrow 6 900 rfl rfl rfl (by first|rfl|simp[Bx.fresh,a5v,Cell.freshs,Cell.fresh])) ?_
 refine AWP.lenB 3 3 rfl rfl fun u=>?_
 (try rw[lB] at u)
 refine AWP.range (S:=Src×List Val) (g.kids) a1d (fun k x=>(7,I .i64 (k:Nat))::[(6, .one (.own 900 x.2.length))]) (fun k x=>[(1000000,a00 x.1),(900, .row 7 (x.2.map a0c))]) [0,3,4,5] [3,4,5] (fun k x=>x.1.ok∧x.2.length=k∧a0N g.kids s1=(x.2++(a0N (g.kids.drop k) x.1).1,(a0N (g.kids.drop k) x.1).2)) ((s1,[])) (by simp only[go_sem,pin,a0f g];exact Gh.tt []) ?_ ?_ ?_
 ·exact⟨az,rfl,by simp⟩
 ·rintro k ⟨st,aw⟩ x am hx au hb ⟨al,ao,q⟩
  simp only at al ao q
  refine sts ?_
  have ka:=(ih x (zbc hx)).k 1000000 st al
  rw[a72 st hx] at q
  have an:=a8F x st al
  repeat'(first|simp only[go_sem,pin,a0f g,lB,hb,a4b]<;>refine nf ?_|refine stp ?_;intro K hK|apply hK;clear hK K|refine stn ?_|(with_reducible first|refine⟨by omega,a1d x,au,?_⟩|(refine⟨(by first|omega|(simp only[lA,lB,zbb,za1,List.length_cons,List.length_nil,za4];omega):_≤_),?_⟩))|(refine⟨1000000,_,_,_,ka,rfl,?_⟩)|refine stq ?_|clear hK K)
  all_goals(rw[a0b am u])
  all_goals(refine⟨((a1h x st).2,aw++[(a1h x st).1]),?_,Gh.tt [(900,65)]⟩)
  all_goals(refine⟨an,by simp[ao],?_⟩;rw[q];simp)
 ·rintro⟨s2,l⟩ hb ⟨aj,ax,q⟩
  simp only at aj ax q
  refine sts ?_
  rw[a9h] at q
  have aq:(a0N g.kids s1).1=l:=by rw[q];simp
  have ar:(a0N g.kids s1).2=s2:=by rw[q]
  have am:l.length≤100000000:=by omega
  have ai:a1k Tryz.prog 27 [.one (.own 900 l.length)] 900 (.row 7 (l.map a0c)) (.st (a0c (a1m l))) (.row 7 (l.map a0c)):=a1k.mk 900 (b6N l am)
  have kn:=a0u 1000000 s2 aj 2 (by omega)
  have av:=a0k aj 2
  have ap:a1k Tryz.prog 28 [Sp 1000000,I .i64 1] 1000000 (a00 (a0g s2 2)) (.st (a0c (a0D 1 (a0g s2 2)).1)) (a00 (a0D 1 (a0g s2 2)).2):=a1k.mk 1000000 (a0P 1 (by omega) _ av)
  cases ag:decide (a0j s2 2=1)
  ·have ad:=a8p g.keys l (by omega)
   have hw:(0:Int)=0:=rfl
   have ah:(0:Int)=0:=rfl
   have ak:b9y g.keys l s2=(bif decide ((a8d g.keys l).2=0) then (a8d g.keys l).1 else a1m l,(a0g s2 2)):=by unfold b9y;rw[ag];simp only[zaa,zab,hw,ah]
   have ab:=a11 (a1m l)
   have af:=a11 (a8d g.keys l).1
   cases hm:decide ((a8d g.keys l).2=0)<;>cases ae:a0t (a1m l)<;>cases aa:a0t (a8d g.keys l).1<;>rw[ae] at ab<;>rw[aa] at af
   all_goals
    repeat'(first|simp only[go_sem,pin,a0f g,hk,ag,hm,Int.reduceEq,lB,hb,b5l,a4b,lA]<;>refine nf ?_|refine stp ?_;intro K hK|apply hK;clear hK K|refine stn ?_|(with_reducible first|refine⟨_,ad,?_⟩|refine⟨_,ab,?_⟩|refine⟨_,af,?_⟩|refine⟨_,a1r,?_⟩|(refine⟨(by first|omega|(simp only[lA,lB,zbb,za1,List.length_cons,List.length_nil,za4];omega):_≤_),?_⟩))|(apply Or.inr;refine⟨900,_,_,_,ai,rfl,?_⟩;simp only[go_sem])|(refine⟨1000000,_,_,_,kn,rfl,?_⟩)|refine stq ?_|clear hK K)
   all_goals(rw[aq,ar,ak,hm])
   all_goals(simp only[okV,zaa,zab,ae,aa])
   all_goals((try refine⟨by first|trivial|rfl,?_⟩);intro x hx;simp only[za7] at hx;subst hx;simp)
  ·obtain⟨w,hw⟩:∃ w,(a0D 1 (a0g s2 2)).1=w:=⟨_,rfl⟩
   obtain⟨s4,ah⟩:∃ s4,(a0D 1 (a0g s2 2)).2=s4:=⟨_,rfl⟩
   rw[hw,ah] at ap
   have ad:=a8p (g.keys++[a8E]) (l++[w]) (by rw[lA];simp only[List.length_cons,List.length_nil];omega)
   have ak:b9y g.keys l s2=(bif decide ((a8d (g.keys++[a8E]) (l++[w])).2=0) then (a8d (g.keys++[a8E]) (l++[w])).1 else a1m l,s4):=by unfold b9y;rw[ag];simp only[zaa,zab,hw,ah]
   have ab:=a11 (a1m l)
   have af:=a11 (a8d (g.keys++[a8E]) (l++[w])).1
   cases hm:decide ((a8d (g.keys++[a8E]) (l++[w])).2=0)<;>cases ae:a0t (a1m l)<;>cases aa:a0t (a8d (g.keys++[a8E]) (l++[w])).1<;>rw[ae] at ab<;>rw[aa] at af
   all_goals
    repeat'(first|simp only[go_sem,pin,a0f g,hk,ag,hm,Int.reduceEq,lB,hb,b5l,a4b,lA]<;>refine nf ?_|refine stp ?_;intro K hK|apply hK;clear hK K|refine stn ?_|(with_reducible first|refine⟨_,ad,?_⟩|refine⟨_,ab,?_⟩|refine⟨_,af,?_⟩|refine⟨_,a1r,?_⟩|(refine⟨(by first|omega|(simp only[lA,lB,zbb,za1,List.length_cons,List.length_nil,za4];omega):_≤_),?_⟩))|(apply Or.inr;refine⟨900,_,_,_,ai,rfl,?_⟩;simp only[go_sem])|(refine⟨1000000,_,_,_,kn,rfl,?_⟩)|(refine⟨1000000,_,_,_,ap,rfl,?_⟩)|refine stq ?_|clear hK K)
   all_goals(rw[aq,ar,ak,hm])
   all_goals(simp only[okV,zaa,zab,ae,aa])
   all_goals((try refine⟨by first|trivial|rfl,?_⟩);intro x hx;simp only[za7] at hx;subst hx;simp)
end Go.Proofs.YtoelgackkclcmaaGreat

