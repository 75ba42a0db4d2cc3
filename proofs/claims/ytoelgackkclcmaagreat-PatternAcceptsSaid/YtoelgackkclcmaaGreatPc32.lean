/- Lemmas. -/
import Derived.Test.YtoelgackkclcmaaGreatPc12
import Derived.Test.YtoelgackkclcmaaGreatPc16
open List renaming length_append→lA,length_map→lB,length_cons→lC,length_nil→lD,take_length→lK,flatMap_append→lM,take_add_one→lO,mem_of_getElem?→lP
open Go.Sx.AWP renaming range→xC,gh→xD
set_option linter.unusedSimpArgs false
set_option linter.unusedVariables false
set_option maxRecDepth 20000
set_option maxHeartbeats 64000000
namespace Go.Proofs.YtoelgackkclcmaaGreat
open Go Go.Sx
def b3i (k:Int):Bool:=decide (k=2)||decide (k=10)
theorem a7Z (k:Int):(decide (k=2)=true∧b3i k=true)∨(decide (k=2)=false∧decide (k=10)=true∧b3i k=true)∨(decide (k=2)=false∧decide (k=10)=false∧b3i k=false):=by
  unfold b3i;cases decide (k=2)<;>cases decide (k=10)<;>simp
theorem a7A (l m:List (List UInt8)):l.map Sx.encStr++m.map Sx.encStr=(l++m).map Sx.encStr:=by simp
mutual
def a0Z:Pat→List (List UInt8)
  |⟨kind,num,text,kids,keys⟩=>(bif b3i kind then [text] else [])++a9P kids
def a9P:List Pat→List (List UInt8)
  |[]=>[]
  |g::l=>a0Z g++a9P l
end
theorem a71:∀ l:List Pat,a9P l=l.flatMap a0Z
  |[]=>by simp only[a9P,List.flatMap_nil]
  |g::l=>by simp only[a9P,zck,a71 l]
theorem a7B (g:Pat):a0Z g=(bif b3i g.kind then [g.text] else [])++g.kids.flatMap a0Z:=by cases g;simp only[a0Z,a71]
mutual
theorem a1z:∀ g:Pat,(a0Z g).length≤cntP g
 |⟨kind,num,text,kids,keys⟩=>by
  have h:=a9f kids
  simp only[a0Z,cntP,lA]
  cases b3i kind<;>simp only[zaa,zab,lC,lD]<;>omega
theorem a9f:∀ l:List Pat,(a9P l).length≤a10 l
  |[]=>by simp[a9P]
  |g::l=>by have h1:=a1z g;have h2:=a9f l;simp only[a9P,a10,lA];omega
end
theorem a4E (l:List Pat):(l.flatMap a0Z).length≤a10 l:=by rw[← a71];exact a9f l
abbrev SsP (l:List (List UInt8)):T:= .one (.dat (.sl 1 (l.map Sx.encStr)))
theorem a9g (g:Pat) (hg:PSm g):PC Tryz.prog 79 [Pt g] (SsP (a0Z g)):=by
 have ih:∀ k∈g.kids,PC Tryz.prog 79 [Pt k] (SsP (a0Z k)):=fun k hk=>a9g k (hg.kid k hk)
 have aj:=a19 g
 unfold PSm at hg
 rw[a7B]
 rcases a7Z g.kind with⟨c1,ht⟩|⟨c1,c2,ht⟩|⟨c1,c2,ht⟩<;>rw[ht]
 iterate 2
  ·
   first|have c3:=c2|have c2:=c1
   refine PCB.ob Tryz.func79 Tryz.ntmps79 Tryz.results79 ?_
   refine AWP.ghQ ?_
   repeat'(first|simp only[go_sem,a0f g,c1,c2,zaa,lB]<;>refine nf ?_|refine stp ?_;intro K hK|apply hK;clear hK K|refine stn ?_|refine stq ?_|fail)
   refine xD (Gh.rename 18 900 rfl rfl rfl rfl) ?_
   simp only[go_sem]
   refine AWP.len 20 rfl fun u=>?_
   (try rw[lB] at u)
   refine xC (S:=List (List UInt8)) (g.kids) a1d (fun k s=>(22,I .i64 (k:Nat))::[(3, .one (.own 900 s.length))]) (fun k s=>[(900, .row 1 (s.map Sx.encStr))]) [20,21] [] (fun k s=>Is s ([g.text]++(g.kids.take k).flatMap a0Z)) ([g.text]) (by simp only[go_sem,a0f];exact Gh.tt []) ?_ ?_ ?_
   ·simp[Is]
   ·intro k s x ad hx aa hb q
    refine sts ?_
    have ab:=ih x (lP hx)
    have ae:=a1V hx
    have ai:=a21 g.kids (k+1)
    have af:=a4E (g.kids.take k)
    have ah:=a1z x
    have ag:s.length≤1+a10 (g.kids.take k):=by rw[show s=_ from q,lA];simp only[lC,lD];omega
    repeat'(first|simp only[go_sem,a0f g,lB,hb,a7A]<;>refine nf ?_|refine stp ?_;intro K hK|apply hK;clear hK K|refine stn ?_|(with_reducible first|refine⟨_,ab,?_⟩|refine⟨by omega,a1d x,aa,?_⟩|refine⟨(by omega:_≤_),?_⟩)|refine stq ?_|clear hK K)
    all_goals(rw[a0b ad u])
    all_goals(refine⟨s++a0Z x,?_,Gh.tt [(900,29)]⟩)
    all_goals(unfold Is at q ⊢; rw[lO,hx,lM,q];simp)
   ·intro s hb q
    refine sts ?_
    rw[Is,lK] at q
    repeat'(first|simp only[go_sem,a0f g,lB,hb]<;>refine nf ?_|refine stp ?_;intro K hK|apply hK;clear hK K|refine stn ?_|clear hK K)
    refine⟨_,Gh.fz 900,?_⟩
    simp only[go_sem,lB]
    all_goals(first|exact fun _ h=>absurd h zaf|refine a0m ?_)
    all_goals(rw[show s=_ from q];rfl)
 ·
  refine PCB.ob Tryz.func79 Tryz.ntmps79 Tryz.results79 ?_
  refine AWP.ghQ ?_
  repeat'(first|simp only[go_sem,a0f g,c1,c2,zaa,lB]<;>refine nf ?_|refine stp ?_;intro K hK|apply hK;clear hK K|refine stn ?_|fail)
  refine xD (Gh.nilrow 3 900 rfl rfl rfl rfl) ?_
  refine AWP.len 20 rfl fun u=>?_
  (try rw[lB] at u)
  refine xC (S:=List (List UInt8)) (g.kids) a1d (fun k s=>(22,I .i64 (k:Nat))::[(3, .one (.own 900 s.length))]) (fun k s=>[(900, .row 1 (s.map Sx.encStr))]) [20,21] [] (fun k s=>Is s ([]++(g.kids.take k).flatMap a0Z)) ([]) (by simp only[go_sem,a0f];exact Gh.tt []) ?_ ?_ ?_
  ·simp[Is]
  ·intro k s x ad hx aa hb q
   refine sts ?_
   have ab:=ih x (lP hx)
   have ae:=a1V hx
   have ai:=a21 g.kids (k+1)
   have af:=a4E (g.kids.take k)
   have ah:=a1z x
   have ag:s.length≤1+a10 (g.kids.take k):=by rw[show s=_ from q,lA];simp only[lC,lD];omega
   repeat'(first|simp only[go_sem,a0f g,lB,hb,a7A]<;>refine nf ?_|refine stp ?_;intro K hK|apply hK;clear hK K|refine stn ?_|(with_reducible first|refine⟨_,ab,?_⟩|refine⟨by omega,a1d x,aa,?_⟩|refine⟨(by omega:_≤_),?_⟩)|refine stq ?_|clear hK K)
   all_goals(rw[a0b ad u])
   all_goals(refine⟨s++a0Z x,?_,Gh.tt [(900,29)]⟩)
   all_goals(unfold Is at q ⊢; rw[lO,hx,lM,q];simp)
  ·intro s hb q
   refine sts ?_
   rw[Is,lK] at q
   repeat'(first|simp only[go_sem,a0f g,lB,hb]<;>refine nf ?_|refine stp ?_;intro K hK|apply hK;clear hK K|refine stn ?_|clear hK K)
   refine⟨_,Gh.fz 900,?_⟩
   simp only[go_sem,lB]
   all_goals(first|exact fun _ h=>absurd h zaf|refine a0m ?_)
   all_goals(rw[show s=_ from q];rfl)
termination_by cntP g
decreasing_by exact a1C hk
theorem b2u (g:Pat) (hg:PSm g):PCN Tryz.prog 79 [Pt g] (.one (.own 0 (a0Z g).length)) (.row 1 ((a0Z g).map Sx.encStr)):=by
 have ih:∀ k∈g.kids,PC Tryz.prog 79 [Pt k] (SsP (a0Z k)):=fun k hk=>a9g k (hg.kid k hk)
 have aj:=a19 g
 unfold PSm at hg
 rw[a7B]
 rcases a7Z g.kind with⟨c1,ht⟩|⟨c1,c2,ht⟩|⟨c1,c2,ht⟩<;>rw[ht]
 iterate 2
  ·
   first|have c3:=c2|have c2:=c1
   refine PCN.of_body 900 Tryz.func79 rfl (by decide) Tryz.ntmps79 Tryz.results79 rfl rfl ?_
   refine AWP.ghQ ?_
   repeat'(first|simp only[go_sem,a0f g,c1,c2,zaa,lB]<;>refine nf ?_|refine stp ?_;intro K hK|apply hK;clear hK K|refine stn ?_|refine stq ?_|fail)
   refine xD (Gh.rename 18 900 rfl rfl rfl rfl) ?_
   simp only[go_sem]
   refine AWP.len 20 rfl fun u=>?_
   (try rw[lB] at u)
   refine xC (S:=List (List UInt8)) (g.kids) a1d (fun k s=>(22,I .i64 (k:Nat))::[(3, .one (.own 900 s.length))]) (fun k s=>[(900, .row 1 (s.map Sx.encStr))]) [20,21] [] (fun k s=>Is s ([g.text]++(g.kids.take k).flatMap a0Z)) ([g.text]) (by simp only[go_sem,a0f];exact Gh.tt []) ?_ ?_ ?_
   ·simp[Is]
   ·intro k s x ad hx aa hb q
    refine sts ?_
    have ab:=ih x (lP hx)
    have ae:=a1V hx
    have ai:=a21 g.kids (k+1)
    have af:=a4E (g.kids.take k)
    have ah:=a1z x
    have ag:s.length≤1+a10 (g.kids.take k):=by rw[show s=_ from q,lA];simp only[lC,lD];omega
    repeat'(first|simp only[go_sem,a0f g,lB,hb,a7A]<;>refine nf ?_|refine stp ?_;intro K hK|apply hK;clear hK K|refine stn ?_|(with_reducible first|refine⟨_,ab,?_⟩|refine⟨by omega,a1d x,aa,?_⟩|refine⟨(by omega:_≤_),?_⟩)|refine stq ?_|clear hK K)
    all_goals(rw[a0b ad u])
    all_goals(refine⟨s++a0Z x,?_,Gh.tt [(900,29)]⟩)
    all_goals(unfold Is at q ⊢; rw[lO,hx,lM,q];simp)
   ·intro s hb q
    refine sts ?_
    rw[Is,lK] at q
    repeat'(first|simp only[go_sem,a0f g,lB,hb]<;>refine nf ?_|refine stp ?_;intro K hK|apply hK;clear hK K|refine stn ?_|clear hK K)
    refine⟨_,Gh.refl _,?_⟩
    simp only[go_sem,lB]
    subst q
    exact⟨rfl,fun x hx=>hx⟩
 ·
  refine PCN.of_body 900 Tryz.func79 rfl (by decide) Tryz.ntmps79 Tryz.results79 rfl rfl ?_
  refine AWP.ghQ ?_
  repeat'(first|simp only[go_sem,a0f g,c1,c2,zaa,lB]<;>refine nf ?_|refine stp ?_;intro K hK|apply hK;clear hK K|refine stn ?_|fail)
  refine xD (Gh.nilrow 3 900 rfl rfl rfl rfl) ?_
  refine AWP.len 20 rfl fun u=>?_
  (try rw[lB] at u)
  refine xC (S:=List (List UInt8)) (g.kids) a1d (fun k s=>(22,I .i64 (k:Nat))::[(3, .one (.own 900 s.length))]) (fun k s=>[(900, .row 1 (s.map Sx.encStr))]) [20,21] [] (fun k s=>Is s ([]++(g.kids.take k).flatMap a0Z)) ([]) (by simp only[go_sem,a0f];exact Gh.tt []) ?_ ?_ ?_
  ·simp[Is]
  ·intro k s x ad hx aa hb q
   refine sts ?_
   have ab:=ih x (lP hx)
   have ae:=a1V hx
   have ai:=a21 g.kids (k+1)
   have af:=a4E (g.kids.take k)
   have ah:=a1z x
   have ag:s.length≤1+a10 (g.kids.take k):=by rw[show s=_ from q,lA];simp only[lC,lD];omega
   repeat'(first|simp only[go_sem,a0f g,lB,hb,a7A]<;>refine nf ?_|refine stp ?_;intro K hK|apply hK;clear hK K|refine stn ?_|(with_reducible first|refine⟨_,ab,?_⟩|refine⟨by omega,a1d x,aa,?_⟩|refine⟨(by omega:_≤_),?_⟩)|refine stq ?_|clear hK K)
   all_goals(rw[a0b ad u])
   all_goals(refine⟨s++a0Z x,?_,Gh.tt [(900,29)]⟩)
   all_goals(unfold Is at q ⊢; rw[lO,hx,lM,q];simp)
  ·intro s hb q
   refine sts ?_
   rw[Is,lK] at q
   repeat'(first|simp only[go_sem,a0f g,lB,hb]<;>refine nf ?_|refine stp ?_;intro K hK|apply hK;clear hK K|refine stn ?_|clear hK K)
   refine⟨_,Gh.refl _,?_⟩
   simp only[go_sem,lB]
   subst q
   exact⟨rfl,fun x hx=>hx⟩
theorem a6i (g:Pat) (hg:PSm g):PC Tryz.prog 100 [Pt g] (SsP (a0Z g)):=by
 have ih:∀ k∈g.kids,PC Tryz.prog 100 [Pt k] (SsP (a0Z k)):=fun k hk=>a6i k (hg.kid k hk)
 have aj:=a19 g
 unfold PSm at hg
 rw[a7B]
 rcases a7Z g.kind with⟨c1,ht⟩|⟨c1,c2,ht⟩|⟨c1,c2,ht⟩<;>rw[ht]
 iterate 2
  ·
   first|have c3:=c2|have c2:=c1
   refine PCB.ob Tryz.func100 Tryz.ntmps100 Tryz.results100 ?_
   refine AWP.ghQ ?_
   repeat'(first|simp only[go_sem,a0f g,c1,c2,zaa,lB]<;>refine nf ?_|refine stp ?_;intro K hK|apply hK;clear hK K|refine stn ?_|refine stq ?_|fail)
   refine xD (Gh.rename 17 900 rfl rfl rfl rfl) ?_
   simp only[go_sem]
   refine AWP.lenB 1 3 rfl rfl fun u=>?_
   (try rw[lB] at u)
   refine xC (S:=List (List UInt8)) (g.kids) a1d (fun k s=>(4,I .i64 (k:Nat))::[(3, .one (.own 900 s.length))]) (fun k s=>[(900, .row 1 (s.map Sx.encStr))]) [1] [1] (fun k s=>Is s ([g.text]++(g.kids.take k).flatMap a0Z)) ([g.text]) (by simp only[go_sem,a0f];exact Gh.tt []) ?_ ?_ ?_
   ·simp[Is]
   ·intro k s x ad hx aa hb q
    refine sts ?_
    have ab:=ih x (lP hx)
    have ae:=a1V hx
    have ai:=a21 g.kids (k+1)
    have af:=a4E (g.kids.take k)
    have ah:=a1z x
    have ag:s.length≤1+a10 (g.kids.take k):=by rw[show s=_ from q,lA];simp only[lC,lD];omega
    repeat'(first|simp only[go_sem,a0f g,lB,hb,a7A]<;>refine nf ?_|refine stp ?_;intro K hK|apply hK;clear hK K|refine stn ?_|(with_reducible first|refine⟨_,ab,?_⟩|refine⟨by omega,a1d x,aa,?_⟩|refine⟨(by omega:_≤_),?_⟩)|refine stq ?_|clear hK K)
    all_goals(rw[a0b ad u])
    all_goals(refine⟨s++a0Z x,?_,Gh.tt [(900,32)]⟩)
    all_goals(unfold Is at q ⊢; rw[lO,hx,lM,q];simp)
   ·intro s hb q
    refine sts ?_
    rw[Is,lK] at q
    repeat'(first|simp only[go_sem,a0f g,lB,hb]<;>refine nf ?_|refine stp ?_;intro K hK|apply hK;clear hK K|refine stn ?_|clear hK K)
    refine⟨_,Gh.fz 900,?_⟩
    simp only[go_sem,lB]
    all_goals(first|exact fun _ h=>absurd h zaf|refine a0m ?_)
    all_goals(rw[show s=_ from q];rfl)
 ·
  refine PCB.ob Tryz.func100 Tryz.ntmps100 Tryz.results100 ?_
  refine AWP.ghQ ?_
  repeat'(first|simp only[go_sem,a0f g,c1,c2,zaa,lB]<;>refine nf ?_|refine stp ?_;intro K hK|apply hK;clear hK K|refine stn ?_|fail)
  refine xD (Gh.nilrow 3 900 rfl rfl rfl rfl) ?_
  refine AWP.lenB 1 3 rfl rfl fun u=>?_
  (try rw[lB] at u)
  refine xC (S:=List (List UInt8)) (g.kids) a1d (fun k s=>(4,I .i64 (k:Nat))::[(3, .one (.own 900 s.length))]) (fun k s=>[(900, .row 1 (s.map Sx.encStr))]) [1] [1] (fun k s=>Is s ([]++(g.kids.take k).flatMap a0Z)) ([]) (by simp only[go_sem,a0f];exact Gh.tt []) ?_ ?_ ?_
  ·simp[Is]
  ·intro k s x ad hx aa hb q
   refine sts ?_
   have ab:=ih x (lP hx)
   have ae:=a1V hx
   have ai:=a21 g.kids (k+1)
   have af:=a4E (g.kids.take k)
   have ah:=a1z x
   have ag:s.length≤1+a10 (g.kids.take k):=by rw[show s=_ from q,lA];simp only[lC,lD];omega
   repeat'(first|simp only[go_sem,a0f g,lB,hb,a7A]<;>refine nf ?_|refine stp ?_;intro K hK|apply hK;clear hK K|refine stn ?_|(with_reducible first|refine⟨_,ab,?_⟩|refine⟨by omega,a1d x,aa,?_⟩|refine⟨(by omega:_≤_),?_⟩)|refine stq ?_|clear hK K)
   all_goals(rw[a0b ad u])
   all_goals(refine⟨s++a0Z x,?_,Gh.tt [(900,32)]⟩)
   all_goals(unfold Is at q ⊢; rw[lO,hx,lM,q];simp)
  ·intro s hb q
   refine sts ?_
   rw[Is,lK] at q
   repeat'(first|simp only[go_sem,a0f g,lB,hb]<;>refine nf ?_|refine stp ?_;intro K hK|apply hK;clear hK K|refine stn ?_|clear hK K)
   refine⟨_,Gh.fz 900,?_⟩
   simp only[go_sem,lB]
   all_goals(first|exact fun _ h=>absurd h zaf|refine a0m ?_)
   all_goals(rw[show s=_ from q];rfl)
termination_by cntP g
decreasing_by exact a1C hk
end Go.Proofs.YtoelgackkclcmaaGreat

