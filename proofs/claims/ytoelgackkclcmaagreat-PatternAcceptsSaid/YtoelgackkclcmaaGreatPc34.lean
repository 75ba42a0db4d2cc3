/- Lemmas. -/
import Derived.Test.YtoelgackkclcmaaGreatPc18
import Derived.Test.YtoelgackkclcmaaGreatPc19
import Derived.Test.YtoelgackkclcmaaGreatPc20
import Derived.Test.YtoelgackkclcmaaGreatPc21
import Derived.WalkKit
import Derived.ProofKit
import Derived.Lib.SliceRun
import Derived.Test.YtoelgackkclcmaaGreatPc25
import Derived.Test.YtoelgackkclcmaaGreatPc32
import Derived.Test.YtoelgackkclcmaaGreatPc33
open Go.Proofs.Tryz renaming prog→zP
open List renaming length_append→lA,length_map→lB,length_cons→lC,length_nil→lD,mem_of_getElem?→lP,length_take→lQ
open Go.Sx.AWP renaming range→xC
open Bool renaming not_eq_true'→zM,not_eq_false'→zN
set_option linter.unusedSimpArgs false
set_option linter.unusedVariables false
set_option maxRecDepth 20000
set_option maxHeartbeats 64000000
namespace Go.Proofs.YtoelgackkclcmaaGreat
open Go Go.Sx
theorem c9A (v:Val):PC zP 87 [.st (a0c v)] (Bo (a0K v)):=by
  rcases c5Y v.kind with h|h|h|h|h|h|h|h|h|h
  · exact c87 v h
  · exact c88 v h
  · exact c89 v h
  · exact c9o v h
  · exact c9p v h
  · exact c9q v h
  · exact c9a v h
  · exact c84 v h
  · exact c9n v h
  · exact c9b v h
theorem a8D {v p:Val} (h:p∈v.kids):a2q p<a2q v:=a80 (zb7 _ h)
theorem b3m {v p:Val} {e:List Val×Bool×Val} (he:e∈v.ents) (h:p∈e.1):a2q p<a2q v:=by
  have h1:=a3E v;have h2:=a5U he;have h3:=a7J e;have h4:=a4I h;omega
theorem b3n {v:Val} {e:List Val×Bool×Val} (he:e∈v.ents):a2q e.2.2<a2q v:=by
  have h1:=a3E v;have h2:=a5U he;have h3:=a7J e;omega
theorem a11 (v:Val):PC zP 47 [.st (a0c v)] (Bo (a0t v)):=by
 have az:∀ p∈v.kids,PC zP 47 [.st (a0c p)] (Bo (a0t p)):=fun p hp=>a11 p
 have aw:∀ e∈v.ents,∀ p∈e.1,PC zP 47 [.st (a0c p)] (Bo (a0t p)):=fun e he p hp=>a11 p
 have av:∀ e∈v.ents,PC zP 47 [.st (a0c e.2.2)] (Bo (a0t e.2.2)):=fun e he=>a11 e.2.2
 have hn:=c9A v
 rw[a0a] at hn
 rw[a2v]
 refine PCB.ob Tryz.func47 Tryz.ntmps47 Tryz.results47 ?_
 cases hz:a0K v
 ·
  repeat'(first|simp only[go_sem,hz,a0a v]<;>refine nf ?_|refine stp ?_;intro K hK|apply hK;clear hK K|refine stn ?_|(with_reducible refine⟨_,hn,?_⟩)|refine stq ?_|clear hK K)
  all_goals(first|exact lf|(refine a0m ?_;simp only[hz,zb,zaa,zab,zac,zad]<;>rfl))
 repeat'(first|simp only[go_sem,hz,a0a v,lB]<;>refine nf ?_|refine stp ?_;intro K hK|apply hK;clear hK K|refine stn ?_|(with_reducible refine⟨_,hn,?_⟩)|refine stq ?_|fail)
 refine AWP.lenB 1 3 rfl rfl fun ad=>?_
 (try rw[lB] at ad)
 refine xC (S:=Unit) (v.kids) a0c (fun k s=>(3,I .i64 (k:Nat))::[]) (fun k s=>[]) [1] [1] (fun k s=>v.kids.all a0t=(v.kids.drop k).all a0t) (()) (by simp only[go_sem,a0a];exact Gh.tt []) ?_ ?_ ?_
 ·rfl
 ·intro k s x ai hx af hb q
  refine sts ?_
  have al:=az x (lP hx)
  rw[a3b hx] at q
  cases hy:a0t x<;>simp only[hy,zae,zai] at q
  ·
   repeat'(first|simp only[go_sem,a0a v,lB,hb,hy]<;>refine nf ?_|refine stp ?_;intro K hK|apply hK;clear hK K|refine stn ?_|(with_reducible first|refine⟨_,al,?_⟩|refine⟨by omega,a0c x,af,?_⟩)|refine stq ?_|clear hK K)
   all_goals(first|exact lf|(refine a0m ?_;simp only[q,hz,zb,zaa,zab,zac,zad]<;>rfl))
  ·
   repeat'(first|simp only[go_sem,a0a v,lB,hb,hy]<;>refine nf ?_|refine stp ?_;intro K hK|apply hK;clear hK K|refine stn ?_|(with_reducible first|refine⟨_,al,?_⟩|refine⟨by omega,a0c x,af,?_⟩)|refine stq ?_|clear hK K)
   all_goals(rw[a0b ai ad])
   all_goals(refine⟨(),?_,Gh.tt []⟩)
   all_goals exact q
 intro s0 au u
 refine sts ?_
 rw[a4m] at u
 repeat'(first|simp only[go_sem,a0a v,lB,au]<;>refine nf ?_|refine stp ?_;intro K hK|apply hK;clear hK K|refine stn ?_|clear hK K)
 refine AWP.lenB 1 5 rfl rfl fun ab=>?_
 (try rw[lB] at ab)
 refine xC (S:=Unit) (v.ents) a0n (fun k s=>(4,I .i64 (k:Nat))::[]) (fun k s=>[]) [1] [1] (fun k s=>v.ents.all b4d=(v.ents.drop k).all b4d) (()) (by simp only[go_sem,a0a];exact Gh.tt []) ?_ ?_ ?_
 ·rfl
 ·intro k s x ai hx af hb q
  refine sts ?_
  rw[a3b hx] at q
  have ak:=lP hx
  have aq:=aw x ak
  have ao:=av x ak
  rw[a0a] at ao
  repeat'(first|simp only[go_sem,a0a v,a0A,lB,hb]<;>refine nf ?_|refine stp ?_;intro K hK|apply hK;clear hK K|refine stn ?_|(with_reducible refine⟨by omega,a0n x,af,?_⟩)|fail)
  refine AWP.lenB 5 0 rfl rfl fun ae=>?_
  (try rw[lB] at ae)
  refine xC (S:=Unit) (x.1) a0c (fun k s=>(6,I .i64 (k:Nat))::[]) (fun k s=>[]) [1,4,5] [1,5] (fun k s=>x.1.all a0t=(x.1.drop k).all a0t) (()) (by simp only[go_sem,a0a,a0A];exact Gh.tt []) ?_ ?_ ?_
  ·rfl
  ·intro i s y am hy ap aj aa
   refine sts ?_
   have an:=aq y (lP hy)
   rw[a3b hy] at aa
   cases hc:a0t y<;>simp only[hc,zae,zai] at aa
   ·
    repeat'(first|simp only[go_sem,a0a v,a0A,lB,aj,hc]<;>refine nf ?_|refine stp ?_;intro K hK|apply hK;clear hK K|refine stn ?_|(with_reducible first|refine⟨_,an,?_⟩|refine⟨by omega,a0c y,ap,?_⟩)|refine stq ?_|clear hK K)
    all_goals(first|exact lf|(refine a0m ?_;simp only[q,hz,u,b4d,aa,zb,zaa,zab,zac,zad]<;>rfl))
   ·
    repeat'(first|simp only[go_sem,a0a v,a0A,lB,aj,hc]<;>refine nf ?_|refine stp ?_;intro K hK|apply hK;clear hK K|refine stn ?_|(with_reducible first|refine⟨_,an,?_⟩|refine⟨by omega,a0c y,ap,?_⟩)|refine stq ?_|clear hK K)
    all_goals(rw[a0b am ae])
    all_goals(refine⟨(),?_,Gh.tt []⟩)
    all_goals exact aa
  intro s2 ar ag
  refine sts ?_
  rw[a4m] at ag
  cases hf:x.2.1<;>cases hr:a0t x.2.2
  all_goals(simp only[b4d,ag,hf,hr,zae,zai,zam,zaq] at q)
  all_goals
   repeat'(first|simp only[go_sem,a0a,a0A,lB,ar,hf,hr]<;>refine nf ?_|refine stp ?_;intro K hK|apply hK;clear hK K|refine stn ?_|(with_reducible refine⟨_,ao,?_⟩)|refine stq ?_|clear hK K)
  any_goals (first|exact fun _ h=>absurd h zaf|(refine a0m ?_;simp only[q,u,hz,zay,zae,zaw];done))
  all_goals(rw[a0b ai ab])
  all_goals(refine⟨(),?_,Gh.tt []⟩)
  all_goals exact q
 intro s1 ax ah
 refine sts ?_
 rw[a4m] at ah
 repeat'(first|simp only[go_sem,a0a v,lB,ax]<;>refine nf ?_|refine stp ?_;intro K hK|apply hK;clear hK K|refine stn ?_|clear hK K)
 all_goals(first|exact lf|(refine a0m ?_;simp only[ah,u,hz,zb,zaa,zab,zac,zad]<;>rfl))
termination_by a2q v
decreasing_by
  · exact a8D hp
  · exact b3m he hp
  · exact b3n he
theorem b6m (a:Option Addr) (n cap:Nat) (hn:n≤cap) (w:World):Calls zP 132 #[.slice a n cap] w fun e w'=>e= .returned (.slice a n n)∧w'=w:=by
  go_enter Tryz.func132,Tryz.ntmps132
  go_wp2
  all_goals go_ret
  all_goals exact⟨rfl,rfl⟩
theorem c7d (rows:List (List C)):PC zP 132 [.one (.dat (.sl 1 rows))] (.one (.dat (.sl 1 rows))):=by
  refine⟨⟨_,Tryz.func132,by decide,rfl⟩,?_⟩
  intro M ν w vs hs hreps
  simp only[T.reps,T.rep,Cell.rep,C.rep] at hreps
  obtain⟨v,q,rfl,⟨a,cap,mid,rfl,h1,h2,h3,h4⟩,rfl⟩:=hreps
  refine Calls.mono (b6m a rows.length cap h1 w) ?_
  rintro e w' ⟨rfl,rfl⟩
  refine⟨_,M,rfl,Mem.ext.refl _ M,?_,hs⟩
  simp only[T.rep,Cell.rep,C.rep]
  exact⟨a,rows.length,mid,rfl,zax _,zbe h1 h2,h3,h4⟩
end Go.Proofs.YtoelgackkclcmaaGreat
namespace Go.Proofs.YtoelgackkclcmaaGreat
open Go Go.Sx
abbrev c9B (a:Int):Prop:= -9223372036854775808≤a∧a≤9223372036854775807
theorem c5k (x:Int):∃ k:Int,IntKind.i64.wrap x=x+k*18446744073709551616∧c9B (IntKind.i64.wrap x):=by
 have h:IntKind.i64.wrap x=Int.bmod x 18446744073709551616:=by
  unfold IntKind.wrap
  simp[IntKind.signed,IntKind.bits]
  rw[Int.bmod_def]
  split<;>split<;>omega
 rw[h]
 refine⟨-((x+9223372036854775808) / 18446744073709551616),?_,?_⟩
 ·rw[Int.bmod_def];split<;>omega
 ·rw[Int.bmod_def];split<;>(constructor<;>omega)
theorem c3x (x:Int) (a k:Int) (h:c9B a) (hx:x=a+k*18446744073709551616):IntKind.i64.wrap x=a:=by
  obtain⟨j,h1,h2⟩:=c5k x
  omega
theorem back (a b:Int) (ha:c9B a):IntKind.i64.wrap (IntKind.i64.wrap (a.tdiv b*b)+a.tmod b)=a:=by
  obtain⟨j,h1,h2⟩:=c5k (a.tdiv b*b)
  refine c3x _ a j ha ?_
  have:=Int.mul_tdiv_add_tmod a b
  rw[Int.mul_comm] at this
  omega
end Go.Proofs.YtoelgackkclcmaaGreat

namespace Go.Proofs.YtoelgackkclcmaaGreat
open Go Go.Sx
def Bare (d:Dat):Prop:=d.mod=[]∧d.version=0∧d.routine=0∧d.wrapped=false∧d.nodes=[]∧d.root=0∧d.inner=[]∧d.outer=[]
inductive Good:Dat→Prop
  |mk (d:Dat) (hn:c9B d.num) (h1:d.kids.length≤1000) (h2:d.keys.length≤1000) (hf:d.kind≠9→Bare d) (hk:∀ k∈d.kids,Good k):Good d
theorem Good.num {d:Dat} (h:Good d):c9B d.num:=by cases h;assumption
theorem Good.kids {d:Dat} (h:Good d):d.kids.length≤1000:=by cases h;assumption
theorem Good.keys {d:Dat} (h:Good d):d.keys.length≤1000:=by cases h;assumption
theorem Good.kid {d:Dat} (h:Good d):∀ k∈d.kids,Good k:=by cases h;assumption
structure GoodA (n:Nat) (a:PutA):Prop where
  k:a.keys.length≤n
  d:a.kids.length≤n
  g:∀ d∈a.kids,Good d
theorem GoodA.le {n m:Nat} {a:PutA} (h:GoodA n a) (hm:n≤m):GoodA m a:=⟨by have:=h.k;omega,by have:=h.d;omega,h.g⟩
end Go.Proofs.YtoelgackkclcmaaGreat
namespace Go.Proofs.YtoelgackkclcmaaGreat
open Go Go.Sx
theorem b4D (l:List KeyD) (hl:l.length≤100000000):PC zP 186 [.one (.dat (.sl 2 (l.map a0i)))] (.one (.dat (.sl 2 (l.map a0i)))):=by
 refine PCB.ob Tryz.func186 Tryz.ntmps186 Tryz.results186 ?_
 refine AWP.ghQ ?_
 repeat'(first|( refine AWP.nilR (e:=56) rfl (by decide) (by decide) rfl (fun q=>?_) ?_)|simp only[go_sem,lB]<;>refine nf ?_|refine stp ?_;intro K hK|apply hK;clear hK K|refine stn ?_|(with_reducible first|(refine Or.inr (show a01 _ 5 _ _ _ _ _ _ from ?_);unfold a01;with_reducible refine Or.inr ?_;simp only[a18,go_sem,lB])|(refine⟨(by first|omega|(simp only[lA,lB,lQ,za1,lC,lD,za4];omega):_≤_),?_⟩))|clear hK K)
 ·refine⟨_,Gh.refl _,?_⟩
  simp only[go_sem]
  refine a0m ?_
  rw[q]
 ·
  refine⟨_,Gh.fz 7,?_⟩
  simp only[go_sem,lB]
  all_goals(first|exact fun _ h=>absurd h zaf|refine a0m ?_)
  all_goals rfl
mutual
def b2w:Val→Bool
  |⟨kind,_,_,kids,_,_,labels⟩=>!(decide (kind=9)||decide ((0:Int)<(labels.length:Int)))&&b08 kids
def b08:List Val→Bool
  |[]=>true
  |v::l=>b2w v&&b08 l
end
theorem b09:∀ l:List Val,b08 l=l.all b2w
  |[]=>by simp only[b08,List.all_nil]
  |v::l=>by simp only[b08,List.all_cons,b09 l]
theorem c0z (v:Val):b2w v=(!(decide (v.kind=9)||decide ((0:Int)<(v.labels.length:Int)))&&v.kids.all b2w):=by cases v;simp only[b2w,b09]
theorem a2a (l:List (List UInt8)):(a0M l).length≤l.length:=by
 have h:∀ (l q:List (List UInt8)),(l.foldl b19 q).length≤q.length+l.length:=by
  intro l
  induction l with
  |nil=>intro q;simp
  |cons x l ih=>
   intro q
   have h1:=ih (b19 q x)
   have h2:=c2J q x
   simp only[List.foldl_cons,lC]
   omega
 have:=h l []
 simpa [a0M] using this
theorem b8H (s:Src):(a1u s).1.length≤2:=by
 unfold a1u
 cases decide (a0j s 3=1)<;>simp only[zaa,zab]
 ·simp
 ·cases decide (a0j (a0g (a0g s 3) 3) 2=1)<;>simp only[zaa,zab]
  ·have:=a2a [a5w (a0g s 3)];simp at this;omega
  ·have:=a2a [a5w (a0g s 3),a5w (a0g (a0g (a0g s 3) 3) 2)];simp at this;omega
def bnd:Nat→Nat
  |0=>1
  |1=>1
  |h+2=>8*(bnd (h+1)+2)+8*(bnd h+2)+20
def c9C (v:Val):Prop:=v.labels=[]∧(b2w v=true→a0t v=true)
theorem b4E {α:Type} {p:α→Prop} {l:List α} {d:α} (hl:∀ x∈l,p x) (hd:p d) (i:Nat):p (l.getD i d):=by
  rw[zbf]
  cases h:l[i]? with
  |none=>exact hd
  |some x=>exact hl x (lP h)
theorem b1a (v:Val) (hk:v.kids=[]) (he:v.ents=[]):a0t v=a0K v:=by
  rw[a2v,hk,he];simp
theorem b7z (k:Int) (s:Src):c9C (b5V k s).1:=by
 have hw:((b1q s).length:Int)≤64:=b4E (p:=fun w:List UInt8=>(w.length:Int)≤64) (by simp[wordL]) (by simp) _
 have ha:a2G (a8S s)=true∨a8S s=[]:=b4E (p:=fun w:List UInt8=>a2G w=true∨w=[]) (by simp only[atomL];intro x hx;simp only[zal,zaf,or_false] at hx;left;rcases hx with rfl|rfl|rfl|rfl<;>decide) (.inr rfl) _
 have aa:a8S s≠[]:=by
  have hv:=a0p s (n:=4) (by omega)
  have:(a0j s 4).toNat=0∨(a0j s 4).toNat=1∨(a0j s 4).toNat=2∨(a0j s 4).toNat=3:=by omega
  unfold a8S
  rcases this with h|h|h|h<;>rw[h]<;>simp[atomL]
 have q:a2G (a8S s)=true:=by rcases ha with h|h;exact h;exact absurd h aa
 have hp:0≤a0j s 3:=(a0p s (by omega)).1
 have u:a40 []=true:=rfl
 unfold b5V
 cases decide (k=0)<;>cases decide (k=1)<;>cases decide (k=2)<;>cases decide (k=3)<;>cases decide (k=4)<;>simp only[zaa,zab]<;>
  (refine⟨rfl,fun _=>?_⟩;rw[b1a _ rfl rfl];simp[a0K,a09,a0L,a2R,a56,a2m,a2n,a2o,a2p,a3j,a4j,a6p,b4e,a0W,a1m,u,hw,q,hp])
theorem c3y:a0t a0W=true:=by rw[b1a _ rfl rfl];rfl
theorem cloneStr_c (l:List (List UInt8)) (hl:l.length≤100000000):PC zP 131 [SsP l] (SsP l):=by
 refine PCB.ob Tryz.func131 Tryz.ntmps131 Tryz.results131 ?_
 refine AWP.ghQ ?_
 repeat'(first|( refine AWP.nilR (e:=9) rfl (by decide) (by decide) rfl (fun q=>?_) ?_)|simp only[go_sem,lB]<;>refine nf ?_|refine stp ?_;intro K hK|apply hK;clear hK K|refine stn ?_|(refine AWP.cnd ?_ ?_<;>intro h<;>(try simp only[zM,zN] at h))|(refine⟨fun h=>?_,fun h=>?_⟩<;>(try simp only[zM,zN] at h)<;>try simp only[h])|(with_reducible first|(refine Or.inr (show a01 _ 5 _ _ _ _ _ _ from ?_);unfold a01;with_reducible refine Or.inr ?_;simp only[a18,go_sem,lB])|(refine⟨(by first|omega|(simp only[lA,lB,lQ,za1,lC,lD,za4];omega):_≤_),?_⟩)|refine⟨by omega,by omega,?_⟩)|refine stq ?_|clear hK K)
 ·refine⟨_,Gh.refl _,?_⟩
  simp only[go_sem]
  refine a0m ?_
  show T.one (.dat (.sl 1 []))=T.one (.dat (.sl 1 (l.map Sx.encStr)))
  rw[q]
 ·
  refine⟨_,Gh.fz 7,?_⟩
  simp only[go_sem,lB]
  all_goals(first|exact fun _ h=>absurd h zaf|refine a0m ?_)
  all_goals rfl
theorem cloneStr_n (l:List (List UInt8)) (hl:l.length≤100000000):PCN zP 131 [SsP l] (.one (.own 0 l.length)) (.row 1 (l.map Sx.encStr)):=by
 refine PCN.of_body 7 Tryz.func131 rfl (by decide) Tryz.ntmps131 Tryz.results131 rfl rfl ?_
 refine AWP.ghQ ?_
 repeat'(first|( refine AWP.nilR (e:=9) rfl (by decide) (by decide) rfl (fun q=>?_) ?_)|simp only[go_sem,lB]<;>refine nf ?_|refine stp ?_;intro K hK|apply hK;clear hK K|refine stn ?_|(refine AWP.cnd ?_ ?_<;>intro h<;>(try simp only[zM,zN] at h))|(refine⟨fun h=>?_,fun h=>?_⟩<;>(try simp only[zM,zN] at h)<;>try simp only[h])|(with_reducible first|(refine Or.inr (show a01 _ 5 _ _ _ _ _ _ from ?_);unfold a01;with_reducible refine Or.inr ?_;simp only[a18,go_sem,lB])|refine⟨(by omega:_≤_),?_⟩)|refine stq ?_|clear hK K)
 ·refine GhQ.step (Gh.nilrow 2 7 rfl rfl rfl rfl) ?_
  refine⟨_,Gh.refl _,?_⟩
  have:l=[]:=by simpa using q
  subst this
  simp only[go_sem,za6,lD]
  first|exact⟨rfl,fun x hx=>hx⟩|exact fun x hx=>hx
 ·refine⟨_,Gh.refl _,?_⟩
  simp only[go_sem,lB]
  first|exact⟨rfl,fun x hx=>hx⟩|exact fun x hx=>hx
abbrev b2x (v:Val):Prop:=PC zP 130 [Vt v] (Vt v)
abbrev VsP (l:List Val):T:= .one (.dat (.sl 7 (l.map a0c)))
theorem a4b (l:List Val) (x:Val):l.map a0c++[a0c x]=(l++[x]).map a0c:=by simp
theorem c0A (l:List Ent) (x:Ent):l.map a0n++[[.sl 7 (x.1.map a0c), .bool x.2.1, .int .i64 x.2.2.kind, .int .i64 x.2.2.num, .str x.2.2.text, .sl 7 (x.2.2.kids.map a0c), .sl 2 (x.2.2.keys.map a0i), .sl 9 (x.2.2.ents.map a0n), .sl 1 (x.2.2.labels.map Sx.encStr)]]=(l++[x]).map a0n:=by
  rw[zbn,zau,za6,a0A x]
theorem b2y (l:List Val) (hl:l.length≤100000000) (h:∀ v∈l,b2x v):PC zP 185 [VsP l] (VsP l):=by
 refine PCB.ob Tryz.func185 Tryz.ntmps185 Tryz.results185 ?_
 refine AWP.ghQ ?_
 repeat'(first|simp only[go_sem,lB]<;>refine nf ?_|refine stp ?_;intro K hK|apply hK;clear hK K|refine stn ?_|fail)
 refine AWP.gh (Gh.nilrow 3 900 rfl rfl rfl rfl) ?_
 refine AWP.len 6 rfl fun u=>?_
 (try rw[lB] at u)
 refine xC (S:=List Val) (l) a0c (fun k s=>(8,I .i64 (k:Nat))::[(3, .one (.own 900 s.length))]) (fun k s=>[(900, .row 7 (s.map a0c))]) [6,7] [] (fun k s=>Is s (l.take k)) ([]) (by refine sts ?_;exact Gh.tt []) ?_ ?_ ?_
 ·simp[Is]
 ·intro k s x ad hx aa hb q
  refine sts ?_
  have ab:=h x (lP hx)
  have ae:s.length≤k:=by rw[show s=_ from q,lQ];omega
  repeat'(first|simp only[go_sem,lB,hb,a4b]<;>refine nf ?_|refine stp ?_;intro K hK|apply hK;clear hK K|refine stn ?_|(with_reducible first|refine⟨_,ab,?_⟩|refine⟨by omega,a0c x,aa,?_⟩|(refine⟨(by first|omega|(simp only[lA,lB,lQ,za1,lC,lD,za4];omega):_≤_),?_⟩))|refine stq ?_|clear hK K)
  all_goals(rw[a0b ad u])
  all_goals(refine⟨s++[x],?_,Gh.tt [(900,16)]⟩)
  all_goals(rw[Is,zb8,hx,← show s=_ from q];rfl)
 ·intro s hb q
  refine sts ?_
  rw[Is,zbh] at q
  repeat'(first|simp only[go_sem,lB,hb]<;>refine nf ?_|refine stp ?_;intro K hK|apply hK;clear hK K|refine stn ?_|clear hK K)
  refine⟨_,Gh.fz 900,?_⟩
  simp only[go_sem,lB]
  all_goals(first|exact fun _ h=>absurd h zaf|refine a0m ?_)
  all_goals(rw[show s=_ from q])
theorem b1O (l:List Ent) (hl:l.length≤100000000) (h:∀ e∈l,PC zP 185 [VsP e.1] (VsP e.1)∧b2x e.2.2):
  PC zP 187 [.one (.dat (.sl 9 (l.map a0n)))] (.one (.dat (.sl 9 (l.map a0n)))):=by
 refine PCB.ob Tryz.func187 Tryz.ntmps187 Tryz.results187 ?_
 refine AWP.ghQ ?_
 repeat'(first|simp only[go_sem,lB]<;>refine nf ?_|refine stp ?_;intro K hK|apply hK;clear hK K|refine stn ?_|fail)
 refine AWP.gh (Gh.nilrow 3 900 rfl rfl rfl rfl) ?_
 refine AWP.len 6 rfl fun u=>?_
 (try rw[lB] at u)
 refine xC (S:=List Ent) (l) a0n (fun k s=>(8,I .i64 (k:Nat))::[(3, .one (.own 900 s.length))]) (fun k s=>[(900, .row 9 (s.map a0n))]) [6,7] [] (fun k s=>Is s (l.take k)) ([]) (by refine sts ?_;exact Gh.tt []) ?_ ?_ ?_
 ·simp[Is]
 ·intro k s x ad hx ab hb q
  refine sts ?_
  obtain⟨ae,aa⟩:=h x (lP hx)
  rw[b2x,show Vt x.2.2=T.st (a0c x.2.2) from rfl,a0a x.2.2] at aa
  have af:s.length≤k:=by rw[show s=_ from q,lQ];omega
  repeat'(first|simp only[go_sem,lB,hb,a0A x,a0a x.2.2,c0A]<;>refine nf ?_|refine stp ?_;intro K hK|apply hK;clear hK K|refine stn ?_|(with_reducible first|refine⟨_,ae,?_⟩|refine⟨_,aa,?_⟩|refine⟨by omega,a0n x,ab,?_⟩|(refine⟨(by first|omega|(simp only[lA,lB,lQ,za1,lC,lD,za4];omega):_≤_),?_⟩))|(with_reducible refine AWP.segP (id:=5) 11 mixed (by kernel_rfl) fun K hK=>?_;simp only[List.take_succ_cons,List.take_zero,zb4,zb2])|clear hK K)
  all_goals(rw[a0b ad u])
  all_goals(refine⟨s++[x],?_,Gh.tt [(900,23)]⟩)
  all_goals(rw[Is,zb8,hx,← show s=_ from q];rfl)
 ·intro s hb q
  refine sts ?_
  rw[Is,zbh] at q
  repeat'(first|simp only[go_sem,lB,hb]<;>refine nf ?_|refine stp ?_;intro K hK|apply hK;clear hK K|refine stn ?_|clear hK K)
  refine⟨_,Gh.fz 900,?_⟩
  simp only[go_sem,lB]
  all_goals(first|exact fun _ h=>absurd h zaf|refine a0m ?_)
  all_goals(rw[show s=_ from q])
theorem c0B {v:Val} {e:Ent} (he:e∈v.ents):a20 e.1+a2q e.2.2<a2q v:=by
  have:=a3E v;have:=a5U he;have:=a7J e;omega
theorem b3o (v:Val) (hv:Sm v):b2x v:=by
 have hb:=a3E v
 have ab:a2q v≤100000000:=hv
 have u:∀ k∈v.kids,b2x k:=fun k hk=>b3o k (hv.kid k hk)
 have h1:=b2y v.kids hv.kids u
 have h2:=b4D v.keys hv.keys
 have h3:=cloneStr_c v.labels (by omega)
 have q:∀ e∈v.ents,PC zP 185 [VsP e.1] (VsP e.1)∧b2x e.2.2:=fun e he=>by
  have ha:=c0B he
  have aa:=a4H e.1
  refine⟨b2y e.1 (by omega) fun k hk=>?_,?_⟩
  ·have:=a4I hk
   exact b3o k (by unfold Sm;omega)
  ·exact b3o e.2.2 (by unfold Sm;omega)
 have h4:=b1O v.ents (by have:=b2Q v.ents;omega) q
 refine PCB.ob Tryz.func130 Tryz.ntmps130 Tryz.results130 ?_
 repeat'(first|simp only[go_sem,a0a v,lB]<;>refine nf ?_|refine stp ?_;intro K hK|apply hK;clear hK K|refine stn ?_|(with_reducible first|refine⟨_,h1,?_⟩|refine⟨_,h2,?_⟩|refine⟨_,h3,?_⟩|refine⟨_,h4,?_⟩)|refine stq ?_|fail)
 all_goals(first|exact fun _ h=>absurd h zaf|refine a0m ?_)
 all_goals(first|rfl|(rw[show Vt v=T.st (a0c v) from rfl,a0a v];done))
termination_by a2q v
decreasing_by
  · have:=a4I hk;omega
  · omega
  · omega
end Go.Proofs.YtoelgackkclcmaaGreat

namespace Go.Proofs.YtoelgackkclcmaaGreat
open Go Go.Sx
def c8C (l:List Val):Val:=match l with
  |[a,b]=>a1x a (bif decide (b.kind=5)||decide (b.kind=7) then b else a0W)
  |_=>a1m l
def a8E:KeyD:=⟨0,[111,116,104,101,114]⟩
def b9y (keys:List KeyD) (l:List Val) (s:Src):Val×Src:=
 bif decide (a0j s 2=1) then
  (bif decide ((a8d (keys++[a8E]) (l++[(a0D 1 (a0g s 2)).1])).2=0) then (a8d (keys++[a8E]) (l++[(a0D 1 (a0g s 2)).1])).1 else a1m l,(a0D 1 (a0g s 2)).2)
 else (bif decide ((a8d keys l).2=0) then (a8d keys l).1 else a1m l,a0g s 2)
def okV (v:Val):Val:=bif a0t v then v else a0W
mutual
def a1h:Pat→Src→Val×Src
 |⟨kind,num,text,kids,keys⟩,s=>
  bif decide (kind=3) then (okV (a3j num),(a0D 2 s).2) else
  bif decide (kind=4) then (okV (a6p text),(a0D 2 s).2) else
  bif decide (kind=5) then (okV (a4j text),(a0D 2 s).2) else
  bif decide (kind=6) then (okV a0W,(a0D 2 s).2) else
  bif decide (kind=10) then a6W kids (a0D 2 s) else
  bif decide (kind=7) then (okV (a1m (a0N kids (a0D 2 s).2).1),(a0N kids (a0D 2 s).2).2) else
  bif decide (kind=8) then (okV (c8C (a0N kids (a0D 2 s).2).1),(a0N kids (a0D 2 s).2).2) else
  bif decide (kind=9) then (okV (b9y keys (a0N kids (a0D 2 s).2).1 (a0N kids (a0D 2 s).2).2).1,(b9y keys (a0N kids (a0D 2 s).2).1 (a0N kids (a0D 2 s).2).2).2) else
  (okV (a0D 2 s).1,(a0D 2 s).2)
def a6W:List Pat→Val×Src→Val×Src
  |[],r=>(okV r.1,r.2)
  |g::l,r=>bif decide (l.length=0) then (okV (a1h g r.2).1,(a1h g r.2).2) else (okV r.1,r.2)
def a0N:List Pat→Src→List Val×Src
  |[],s=>([],s)
  |g::l,s=>((a1h g s).1::(a0N l (a1h g s).2).1,(a0N l (a1h g s).2).2)
end
theorem a2E (g:Pat) (s:Src):a1h g s=bif decide (g.kind=3) then (okV (a3j g.num),(a0D 2 s).2) else
  bif decide (g.kind=4) then (okV (a6p g.text),(a0D 2 s).2) else
  bif decide (g.kind=5) then (okV (a4j g.text),(a0D 2 s).2) else
  bif decide (g.kind=6) then (okV a0W,(a0D 2 s).2) else
  bif decide (g.kind=10) then a6W g.kids (a0D 2 s) else
  bif decide (g.kind=7) then (okV (a1m (a0N g.kids (a0D 2 s).2).1),(a0N g.kids (a0D 2 s).2).2) else
  bif decide (g.kind=8) then (okV (c8C (a0N g.kids (a0D 2 s).2).1),(a0N g.kids (a0D 2 s).2).2) else
  bif decide (g.kind=9) then (okV (b9y g.keys (a0N g.kids (a0D 2 s).2).1 (a0N g.kids (a0D 2 s).2).2).1,(b9y g.keys (a0N g.kids (a0D 2 s).2).1 (a0N g.kids (a0D 2 s).2).2).2) else
  (okV (a0D 2 s).1,(a0D 2 s).2):=by cases g;rw[a1h]
theorem a72 {l:List Pat} {k:Nat} {g:Pat} (s:Src) (hg:l[k]?= some g):a0N (l.drop k) s=((a1h g s).1::(a0N (l.drop (k+1)) (a1h g s).2).1,(a0N (l.drop (k+1)) (a1h g s).2).2):=by
  obtain⟨h1,h2⟩:=zak.1 hg
  rw[za8 h1,h2,a0N]
theorem a9h (l:List Pat) (s:Src):a0N (l.drop l.length) s=([],s):=by rw[zbw,a0N]
theorem c7e {keys:List KeyD} {l:List Val} {s:Src} (h:s.ok):(b9y keys l s).2.ok:=by
  have h1:=a0k h 2
  unfold b9y
  cases decide (a0j s 2=1)
  · exact h1
  · exact a3v 1 _ h1
mutual
theorem a8F:∀ (g:Pat) (s:Src),s.ok→(a1h g s).2.ok
 |⟨kind,num,text,kids,keys⟩,s,h=>by
  have h1:=a3v 2 s h
  have h2:=b4F kids _ h1
  have h3:=c0C kids (a0D 2 s) h1
  have h4:=c7e (keys:=keys) (l:=(a0N kids (a0D 2 s).2).1) h2
  rw[a1h]
  cases decide (kind=3)<;>simp only[zaa,zab]
  ·cases decide (kind=4)<;>simp only[zaa,zab]
   ·cases decide (kind=5)<;>simp only[zaa,zab]
    ·cases decide (kind=6)<;>simp only[zaa,zab]
     ·cases decide (kind=10)<;>simp only[zaa,zab]
      ·cases decide (kind=7)<;>simp only[zaa,zab]
       ·cases decide (kind=8)<;>simp only[zaa,zab]
        ·cases decide (kind=9)<;>simp only[zaa,zab]
         ·exact h1
         ·exact h4
        ·exact h2
       ·exact h2
      ·exact h3
     ·exact h1
    ·exact h1
   ·exact h1
  ·exact h1
theorem c0C:∀ (l:List Pat) (r:Val×Src),r.2.ok→(a6W l r).2.ok
 |[],r,h=>by rw[a6W];exact h
 |g::l,r,h=>by
  have h1:=a8F g r.2 h
  rw[a6W]
  cases decide (l.length=0)
  ·exact h
  ·exact h1
theorem b4F:∀ (l:List Pat) (s:Src),s.ok→(a0N l s).2.ok
 |[],s,h=>by rw[a0N];exact h
 |g::l,s,h=>by
  rw[a0N]
  exact b4F l _ (a8F g s h)
end
end Go.Proofs.YtoelgackkclcmaaGreat

