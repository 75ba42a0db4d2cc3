/- Lemmas. -/
import Derived.Test.YtoelgackkclcmaaGreatPc50
import Derived.Test.YtoelgackkclcmaaGreatPc47
open List renaming length_map→lB
set_option linter.unusedSimpArgs false
set_option linter.unusedVariables false
set_option maxRecDepth 20000
set_option maxHeartbeats 64000000
namespace Go.Proofs.YtoelgackkclcmaaGreat
open Go Go.Sx
theorem c72 (g:Pat) (hg:PSm g) (hk:g.kind=8) (ih:∀ k∈g.kids,a4g k):a4g g:=by
 intro s hs
 have a1:=a3v 2 s hs
 have kv:a1k Tryz.prog 28 [Sp 1000000,I .i64 2] 1000000 (a00 s) (.st (a0c (a0D 2 s).1)) (a00 (a0D 2 s).2):=a1k.mk 1000000 (a0P 2 (by omega) s hs)
 have a2:=a67 g.kids
 unfold PSm at hg
 have a6:=a19 g
 rw[show a1h g s=(okV (c8C (a0N g.kids (a0D 2 s).2).1),(a0N g.kids (a0D 2 s).2).2) from by rw[a2E,hk];rfl]
 generalize (a0D 2 s).1=v0 at*
 generalize (a0D 2 s).2=s1 at*
 refine PCB.ob Tryz.func12 Tryz.ntmps12 Tryz.results12 ?_
 repeat'(first|simp only[go_sem,pin,a0f g,hk,Int.reduceEq,lB]<;>refine nf ?_|refine stp ?_;intro K hK|apply hK;clear hK K|refine stn ?_|(refine⟨1000000,_,_,_,kv,rfl,?_⟩)|refine stq ?_|fail)
 refine AWP.gh (Gh.nilrow 6 900 rfl rfl rfl (by first|rfl|simp[Bx.fresh,a5v,Cell.freshs,Cell.fresh])) ?_
 refine AWP.lenB 3 3 rfl rfl fun u=>?_
 (try rw[lB] at u)
 refine AWP.range (S:=Src×List Val) (g.kids) a1d (fun k x=>(7,I .i64 (k:Nat))::[(6, .one (.own 900 x.2.length))]) (fun k x=>[(1000000,a00 x.1),(900, .row 7 (x.2.map a0c))]) [0,3,4,5] [3,4,5] (fun k x=>x.1.ok∧x.2.length=k∧a0N g.kids s1=(x.2++(a0N (g.kids.drop k) x.1).1,(a0N (g.kids.drop k) x.1).2)) ((s1,[])) (by simp only[go_sem,pin,a0f g];exact Gh.tt []) ?_ ?_ ?_
 ·exact⟨a1,rfl,by simp⟩
 ·rintro k ⟨st,aw⟩ x af hx au hb ⟨ad,ah,q⟩
  simp only at ad ah q
  refine sts ?_
  have ka:=(ih x (zbc hx)).k 1000000 st ad
  rw[a72 st hx] at q
  have ag:=a8F x st ad
  repeat'(first|simp only[go_sem,pin,a0f g,lB,hb,a4b]<;>refine nf ?_|refine stp ?_;intro K hK|apply hK;clear hK K|refine stn ?_|(with_reducible first|refine⟨by omega,a1d x,au,?_⟩|(refine⟨(by first|omega|(simp only[zba,lB,zbb,za1,List.length_cons,List.length_nil,za4];omega):_≤_),?_⟩))|(refine⟨1000000,_,_,_,ka,rfl,?_⟩)|refine stq ?_|clear hK K)
  all_goals(rw[a0b af u])
  all_goals(refine⟨((a1h x st).2,aw++[(a1h x st).1]),?_,Gh.tt [(900,65)]⟩)
  all_goals(refine⟨ag,by simp[ah],?_⟩;rw[q];simp)
 ·rintro⟨s2,l⟩ hb ⟨ar,az,q⟩
  simp only at ar az q
  refine sts ?_
  rw[a9h] at q
  have ak:(a0N g.kids s1).1=l:=by rw[q];simp
  have an:(a0N g.kids s1).2=s2:=by rw[q]
  have af:l.length≤100000000:=by omega
  have aa:a1k Tryz.prog 27 [.one (.own 900 l.length)] 900 (.row 7 (l.map a0c)) (.st (a0c (a1m l))) (.row 7 (l.map a0c)):=a1k.mk 900 (b6N l af)
  cases h2:decide ((l.length:Int)=2)
  ·
   have ae:c8C l=a1m l:=by
    simp only[zah] at h2
    match l,h2 with
    |[],_=>rfl
    |[a],_=>rfl
    |[a,b],h=>simp at h
    |a::b::c::r,_=>rfl
   have aj:=a11 (a1m l)
   have ao:okV (c8C (a0N g.kids s1).1)=bif a0t (a1m l) then (a1m l) else a0W:=by rw[ak,ae];rfl
   cases ht:a0t (a1m l)<;>rw[ht] at aj
   all_goals
    repeat'(first|simp only[go_sem,pin,a0f g,hk,h2,Int.reduceEq,lB,hb]<;>refine nf ?_|refine stp ?_;intro K hK|apply hK;clear hK K|refine stn ?_|(with_reducible first|refine⟨_,aj,?_⟩|refine⟨_,a1r,?_⟩)|(apply Or.inr;refine⟨900,_,_,_,aa,rfl,?_⟩;simp only[go_sem])|refine stq ?_|clear hK K)
   all_goals(rw[ao,an,ht])
   all_goals((try refine⟨by first|trivial|rfl,?_⟩);intro x hx;simp only[za7] at hx;subst hx;simp)
  ·
   obtain⟨a,b,rfl⟩:∃ a b,l=[a,b]:=by
    simp only[zan] at h2
    match l,h2 with
    |[a,b],_=>exact⟨a,b,rfl⟩
    |[],h=>simp at h
    |[a],h=>simp at h
    |a::b::c::r,h=>simp at h;omega
   have ab:a1k Tryz.prog 27 [.one (.own 900 2)] 900 (.row 7 [a0c a,a0c b]) (.st (a0c (a1m [a,b]))) (.row 7 [a0c a,a0c b]):=aa
   have am:[a0c a,a0c b].set 1 (a0c a0W)=[a0c a,a0c a0W]:=rfl
   have av:PC Tryz.prog 45 [.st (a0c a), .st (a0c b)] (.st (a0c (a1x a b))):=a4M a b
   have ax:PC Tryz.prog 45 [.st (a0c a), .st (a0c a0W)] (.st (a0c (a1x a a0W))):=a4M a a0W
   have ae:c8C [a,b]=a1x a (bif decide (b.kind=5)||decide (b.kind=7) then b else a0W):=rfl
   have al:=a11 (a1x a b)
   have aq:=a11 (a1x a a0W)
   cases h5:decide (b.kind=5)<;>cases h7:decide (b.kind=7)<;>cases ap:a0t (a1x a b)<;>cases ai:a0t (a1x a a0W)<;>rw[ap] at al<;>rw[ai] at aq
   all_goals
    repeat'(first|simp only[go_sem,pin,a0f g,hk,h2,h5,h7,Int.reduceEq,lB,hb,am,zau,za6]<;>refine nf ?_|refine stp ?_;intro K hK|apply hK;clear hK K|refine stn ?_|(with_reducible first|refine⟨_,av,?_⟩|refine⟨_,ax,?_⟩|refine⟨_,al,?_⟩|refine⟨_,aq,?_⟩|refine⟨_,a1r,?_⟩)|(apply Or.inr;refine⟨900,_,_,_,ab,rfl,?_⟩;simp only[go_sem])|(with_reducible refine AWP.genR (id:=26) [7] [5] mixed (by kernel_rfl) fun K hK=>?_;simp only[Bx.outs,Bx.drop,zaa,zab,Nat.reduceBEq,go_sem])|refine stq ?_|clear hK K)
   all_goals(rw[ak,an,ae,h5,h7])
   all_goals(simp only[okV,zap,zaj,zam,zaq,zaa,zab,ap,ai])
   all_goals((try refine⟨by first|trivial|rfl,?_⟩);intro x hx;simp only[za7] at hx;subst hx;simp)
end Go.Proofs.YtoelgackkclcmaaGreat

