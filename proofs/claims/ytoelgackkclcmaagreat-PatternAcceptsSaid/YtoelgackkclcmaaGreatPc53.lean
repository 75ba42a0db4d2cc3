/- Lemmas. -/
import Derived.Test.YtoelgackkclcmaaGreatPc51
import Derived.Test.YtoelgackkclcmaaGreatPc52
open List renaming length_map→lB
set_option linter.unusedSimpArgs false
set_option linter.unusedVariables false
set_option maxRecDepth 20000
set_option maxHeartbeats 64000000

namespace Go.Proofs.YtoelgackkclcmaaGreat
open Go Go.Sx
theorem c74 (g:Pat) (hg:PSm g) (hk:g.kind=7) (ih:∀ k∈g.kids,a4g k):a4g g:=by
 intro s hs
 have ao:=a3v 2 s hs
 have kv:a1k Tryz.prog 28 [Sp 1000000,I .i64 2] 1000000 (a00 s) (.st (a0c (a0D 2 s).1)) (a00 (a0D 2 s).2):=a1k.mk 1000000 (a0P 2 (by omega) s hs)
 have ap:=a67 g.kids
 unfold PSm at hg
 have aq:=a19 g
 rw[show a1h g s=(okV (a1m (a0N g.kids (a0D 2 s).2).1),(a0N g.kids (a0D 2 s).2).2) from by rw[a2E,hk];rfl]
 generalize (a0D 2 s).1=v0 at*
 generalize (a0D 2 s).2=s1 at*
 refine PCB.ob Tryz.func12 Tryz.ntmps12 Tryz.results12 ?_
 repeat'(first|simp only[go_sem,pin,a0f g,hk,Int.reduceEq,lB]<;>refine nf ?_|refine stp ?_;intro K hK|apply hK;clear hK K|refine stn ?_|(refine⟨1000000,_,_,_,kv,rfl,?_⟩)|refine stq ?_|fail)
 refine AWP.gh (Gh.nilrow 6 900 rfl rfl rfl (by first|rfl|simp[Bx.fresh,a5v,Cell.freshs,Cell.fresh])) ?_
 refine AWP.lenB 3 3 rfl rfl fun u=>?_
 (try rw[lB] at u)
 refine AWP.range (S:=Src×List Val) (g.kids) a1d (fun k x=>(7,I .i64 (k:Nat))::[(6, .one (.own 900 x.2.length))]) (fun k x=>[(1000000,a00 x.1),(900, .row 7 (x.2.map a0c))]) [0,3,4,5] [3,4,5] (fun k x=>x.1.ok∧x.2.length=k∧a0N g.kids s1=(x.2++(a0N (g.kids.drop k) x.1).1,(a0N (g.kids.drop k) x.1).2)) ((s1,[])) (by simp only[go_sem,pin,a0f g];exact Gh.tt []) ?_ ?_ ?_
 ·exact⟨ao,rfl,by simp⟩
 ·rintro k ⟨st,ak⟩ x ab hx aj hb ⟨aa,ae,q⟩
  simp only at aa ae q
  refine sts ?_
  have ka:=(ih x (zbc hx)).k 1000000 st aa
  rw[a72 st hx] at q
  have ad:=a8F x st aa
  repeat'(first|simp only[go_sem,pin,a0f g,lB,hb,a4b]<;>refine nf ?_|refine stp ?_;intro K hK|apply hK;clear hK K|refine stn ?_|(with_reducible first|refine⟨by omega,a1d x,aj,?_⟩|(refine⟨(by first|omega|(simp only[zba,lB,zbb,za1,List.length_cons,List.length_nil,za4];omega):_≤_),?_⟩))|(refine⟨1000000,_,_,_,ka,rfl,?_⟩)|refine stq ?_|clear hK K)
  all_goals(rw[a0b ab u])
  all_goals(refine⟨((a1h x st).2,ak++[(a1h x st).1]),?_,Gh.tt [(900,65)]⟩)
  all_goals(refine⟨ad,by simp[ae],?_⟩;rw[q];simp)
 ·rintro⟨s2,l⟩ hb ⟨ai,an,q⟩
  simp only at ai an q
  refine sts ?_
  rw[a9h] at q
  have al:(a0N g.kids s1).1=l:=by rw[q];simp
  have am:(a0N g.kids s1).2=s2:=by rw[q]
  have ab:l.length≤100000000:=by omega
  have ah:a1k Tryz.prog 27 [.one (.own 900 l.length)] 900 (.row 7 (l.map a0c)) (.st (a0c (a1m l))) (.row 7 (l.map a0c)):=a1k.mk 900 (b6N l ab)
  have af:=a11 (a1m l)
  have ag:okV (a1m (a0N g.kids s1).1)=bif a0t (a1m l) then (a1m l) else a0W:=by rw[al];rfl
  cases ht:a0t (a1m l)<;>rw[ht] at af
  all_goals
   repeat'(first|simp only[go_sem,pin,a0f g,hk,Int.reduceEq,lB,hb]<;>refine nf ?_|refine stp ?_;intro K hK|apply hK;clear hK K|refine stn ?_|(with_reducible first|refine⟨_,af,?_⟩|refine⟨_,a1r,?_⟩)|(apply Or.inr;refine⟨900,_,_,_,ah,rfl,?_⟩;simp only[go_sem])|refine stq ?_|clear hK K)
  all_goals(rw[ag,am,ht])
  all_goals((try refine⟨by first|trivial|rfl,?_⟩);intro x hx;simp only[za7] at hx;subst hx;simp)
mutual
def kOk:Pat→Bool
  |⟨_,_,_,kids,keys⟩=>decide (keys.length≤1000)&&d0h kids
def d0h:List Pat→Bool
  |[]=>true
  |g::l=>kOk g&&d0h l
end
theorem b8a:∀ l:List Pat,d0h l=l.all kOk
  |[]=>by simp only[d0h,List.all_nil]
  |g::l=>by simp only[d0h,List.all_cons,b8a l]
theorem c15 (g:Pat):kOk g=(decide (g.keys.length≤1000)&&g.kids.all kOk):=by cases g;simp only[kOk,b8a]
theorem c16 (g:Pat) (hg:PSm g) (hk:kOk g=true):a4g g:=by
  rw[c15,zag,zan,za0] at hk
  have ih:∀ k∈g.kids,a4g k:=fun k hm=>c16 k (hg.kid k hm) (hk.2 k hm)
  rcases b7t g.kind with h|h|h|h|h|h|h|h|h|h|⟨g1,g2,g3,g4,g5,g6,g7,g8,g9,g10⟩
  · exact b6O g (by rw[h];rfl) (by rw[h];rfl) (by rw[h];rfl) (by rw[h];rfl) (by rw[h];rfl) (by rw[h];rfl) (by rw[h];rfl) (by rw[h];rfl)
  · exact b6O g (by rw[h];rfl) (by rw[h];rfl) (by rw[h];rfl) (by rw[h];rfl) (by rw[h];rfl) (by rw[h];rfl) (by rw[h];rfl) (by rw[h];rfl)
  · exact c7Y g h
  · exact c7Z g h
  · exact c70 g h
  · exact c71 g h
  · exact c74 g hg h ih
  · exact c72 g hg h ih
  · exact c73 g hg hk.1 h ih
  · exact c4m g h ih
  · exact b6O g g3 g4 g5 g6 g7 g8 g9 g10
termination_by cntP g
decreasing_by exact a1C hm
theorem c4n (k n:Int) (t:List UInt8):kOk (b3j k n t)=true:=by rw[c15];rfl
theorem b3O:∀ (d:Nat) (ns:List (List UInt8)) (s:Src),kOk (a1M d ns s).1=true
 |0,ns,s=>by
  unfold a1M b6k
  cases decide (a0j s 6=0)<;>cases decide (a0j s 6=1)<;>cases decide (a0j s 6=2)<;>cases decide (a0j s 6=3)<;>cases decide (a0j s 6=4)<;>exact c4n _ _ _
 |d+1,ns,s=>by
  have h1:=b3O d (ns.take (ns.length / 2)) s
  have h2:=b3O d (ns.drop (ns.length / 2)) (a1M d (ns.take (ns.length / 2)) s).2
  unfold a1M b4C
  generalize (a1M d (ns.take (ns.length / 2)) s).1=a at*
  generalize (a1M d (ns.take (ns.length / 2)) s).2=s2 at*
  generalize (a1M d (ns.drop (ns.length / 2)) s2).1=b at*
  generalize (a1M d (ns.drop (ns.length / 2)) s2).2=s3 at*
  cases decide (a0j s3 6=0)<;>cases decide (a0j s3 6=1)<;>cases decide (a0j s3 6=2)<;>cases decide (a0j s3 6=3)<;>cases decide (a0j s3 6=4)<;>simp only[zaa,zab]<;>first
   |exact h1
   |(rw[c15];simp[b3k,h1,h2])
end Go.Proofs.YtoelgackkclcmaaGreat

