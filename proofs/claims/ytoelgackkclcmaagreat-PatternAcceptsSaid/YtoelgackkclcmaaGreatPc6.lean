/- Lemmas. -/
import Derived.Test.YtoelgackkclcmaaGreatPc5
open List renaming length_map→lB
open Bool renaming not_eq_true'→zM,not_eq_false'→zN
set_option linter.unusedSimpArgs false
set_option linter.unusedVariables false
set_option maxRecDepth 20000
set_option maxHeartbeats 64000000
namespace Go.Gr
variable (bo:Nat→Bool) (ks:Nat→List Nat)
def Stp (k i:Nat):Prop:=bo i=true∧k∈ks i
def Fin (i:Nat):Prop:=Acc (Stp bo ks) i
theorem fin_of {i:Nat} (h:bo i=true→∀ k∈ks i,Fin bo ks k):Fin bo ks i:=Acc.intro i fun k hk=>h hk.1 k hk.2
theorem fin_no {i:Nat} (h:bo i=false):Fin bo ks i:=fin_of bo ks fun h'=>by rw[h] at h';cases h'
def lstW (g:List Int→Nat→Bool×List Int):List Int→List Nat→Bool×List Int
  |st,[]=>(true,st)
  |st,k::l=>bif (g st k).1 then lstW g (g st k).2 l else (false,(g st k).2)
def dfs:Nat→List Int→Nat→Bool×List Int
 |0,st,i=>(true,st)
 |f+1,st,i=>bif !decide (st.getD i 0=0)||!bo i then (!decide (st.getD i 0=1),st)
  else bif (lstW (dfs f) (st.set i 1) (ks i)).1 then (true,(lstW (dfs f) (st.set i 1) (ks i)).2.set i 2) else (false,(lstW (dfs f) (st.set i 1) (ks i)).2)
def allW (f:Nat):List Int→Nat→Nat→Bool×List Int
  |st,i,0=>(true,st)
  |st,i,m+1=>bif (dfs bo ks f st i).1 then allW f (dfs bo ks f st i).2 (i+1) m else (false,(dfs bo ks f st i).2)
def zer:List Int→Nat
  |[]=>0
  |x::l=>(bif decide (x=0) then 1 else 0)+zer l
theorem zer_set:∀ (st:List Int) (i:Nat) (v:Int),v≠0→i<st.length→st.getD i 0=0→zer (st.set i v)+1=zer st
 |[],i,v,hv,hi,h=>by simp at hi
 |x::st,0,v,hv,hi,h=>by
  have hx:x=0:=h
  simp only[List.set_cons_zero,zer,zc6 hv,zbo hx,zab,zaa];omega
 |x::st,i+1,v,hv,hi,h=>by
  have:=zer_set st i v hv (by simpa using hi) h
  simp only[List.set_cons_succ,zer];omega
theorem zer_set2:∀ (st:List Int) (i:Nat) (v:Int),v≠0→zer (st.set i v)≤zer st
 |[],i,v,hv=>by simp
 |x::st,0,v,hv=>by
  simp only[List.set_cons_zero,zer,zc6 hv,zab]
  cases decide (x=0)<;>simp only[zaa,zab]<;>omega
 |x::st,i+1,v,hv=>by
  have:=zer_set2 st i v hv
  simp only[List.set_cons_succ,zer];omega
theorem zer_le:∀ st:List Int,zer st≤st.length
 |[]=>zax _
 |x::st=>by
  have:=zer_le st
  simp only[zer,List.length_cons]
  cases decide (x=0)<;>simp only[zaa,zab]<;>omega
theorem b3R (st:List Int) (i j:Nat) (v:Int) (hi:i<st.length):(st.set i v).getD j 0=if j=i then v else st.getD j 0:=by
  rw[zbf,zbf,List.getElem?_set]
  by_cases h:i=j
  · subst h;simp[hi]
  · simp[h,Ne.symm h]
structure Kp (n:Nat) (st st':List Int):Prop where
  len:st'.length=n
  zer:zer st'≤zer st
  one:∀ j,st.getD j 0=1↔st'.getD j 0=1
  two:∀ j,st.getD j 0=2→st'.getD j 0=2
  fin:(∀ j,st.getD j 0=2→Fin bo ks j)→∀ j,st'.getD j 0=2→Fin bo ks j
theorem Kp.refl {n:Nat} {st:List Int} (h:st.length=n):Kp bo ks n st st:=⟨h,zax _,fun _=>Iff.rfl,fun _ h=>h,fun h=>h⟩
theorem Kp.trans {n:Nat} {a b c:List Int} (h:Kp bo ks n a b) (k:Kp bo ks n b c):Kp bo ks n a c:=
  ⟨k.len,zbe k.zer h.zer,fun j=>(h.one j).trans (k.one j),fun j x=>k.two j (h.two j x),fun f=>k.fin (h.fin f)⟩
theorem b3S (n:Nat) (hk:∀ i,i<n→∀ k∈ks i,k<n):∀ (f:Nat) (st:List Int) (i:Nat),st.length=n→i<n→zer st<f→(∀ j,st.getD j 0=2→Fin bo ks j)→(∀ j,j<n→st.getD j 0=0∨st.getD j 0=1∨st.getD j 0=2)→
  (dfs bo ks f st i).1=true→Kp bo ks n st (dfs bo ks f st i).2∧Fin bo ks i∧(∀ j,j<n→(dfs bo ks f st i).2.getD j 0=0∨(dfs bo ks f st i).2.getD j 0=1∨(dfs bo ks f st i).2.getD j 0=2)
 |0,st,i,hl,hi,hz,hf,hv,h=>by omega
 |f+1,st,i,hl,hi,hz,hf,hv,h=>by
  rw[dfs] at h ⊢
  cases hc:!decide (st.getD i 0=0)||!bo i with
  |true=>
   rw[hc,zaa] at h
   simp only[zbm,zah] at h
   rw[zaa]
   refine⟨Kp.refl bo ks hl,?_,hv⟩
   cases hb:bo i with
   |false=>exact fin_no bo ks hb
   |true=>
    rw[hb] at hc
    simp only[zat,zaj,zbm,zah] at hc
    exact hf i (by have:=hv i hi;omega)
  |false=>
   rw[hc,zab] at h
   rw[zab]
   rw[zbx] at hc
   simp only[zde,zan] at hc
   obtain⟨h0,hb⟩:=hc
   have ag:=zer_set st i 1 (by decide) (by omega) h0
   -- the list of the kids
   have key:∀ (l:List Nat) (st:List Int),(∀ k∈l,k<n)→st.length=n→zer st<f→(∀ j,st.getD j 0=2→Fin bo ks j)→(∀ j,j<n→st.getD j 0=0∨st.getD j 0=1∨st.getD j 0=2)→
     (lstW (dfs bo ks f) st l).1=true→Kp bo ks n st (lstW (dfs bo ks f) st l).2∧(∀ k∈l,Fin bo ks k)∧(∀ j,j<n→(lstW (dfs bo ks f) st l).2.getD j 0=0∨(lstW (dfs bo ks f) st l).2.getD j 0=1∨(lstW (dfs bo ks f) st l).2.getD j 0=2):=by
    intro l
    induction l with
    |nil=>intro st _ hl _ _ hv _;exact⟨Kp.refl bo ks hl,fun k hk=>(by cases hk),hv⟩
    |cons k l ih=>
     intro st ad hl hz hf hv h
     rw[lstW] at h ⊢
     cases hd:(dfs bo ks f st k).1 with
     |false=>rw[hd] at h;cases h
     |true=>
      rw[hd,zaa] at h
      rw[zaa]
      obtain⟨a1,a2,a3⟩:=b3S n hk f st k hl (ad k zbl) hz hf hv hd
      obtain⟨b1,b2,b3⟩:=ih _ (fun x hx=>ad x (zas _ hx)) a1.len (by have:=a1.zer;omega) (a1.fin hf) a3 h
      refine⟨a1.trans bo ks b1,fun x hx=>?_,b3⟩
      rcases zal.1 hx with rfl|hx
      ·exact a2
      ·exact b2 x hx
   have q:=fun j=>b3R st i j 1 (by omega)
   have aa:∀ j,(st.set i 1).getD j 0=2→Fin bo ks j:=fun j hj=>by
    rw[q] at hj
    by_cases e:j=i
    ·rw[zaz e] at hj;exact absurd hj (by decide)
    ·rw[za5 e] at hj;exact hf j hj
   have ae:∀ j,j<n→(st.set i 1).getD j 0=0∨(st.set i 1).getD j 0=1∨(st.set i 1).getD j 0=2:=fun j hj=>by
    rw[q]
    by_cases e:j=i
    ·rw[zaz e];exact .inr (.inl rfl)
    ·rw[za5 e];exact hv j hj
   cases hr:(lstW (dfs bo ks f) (st.set i 1) (ks i)).1 with
   |false=>rw[hr] at h;cases h
   |true=>
    rw[zaa]
    obtain⟨a1,a2,a3⟩:=key (ks i) (st.set i 1) (hk i hi) (by rw[zbp];exact hl) (by omega) aa ae hr
    generalize (lstW (dfs bo ks f) (st.set i 1) (ks i)).2=s2 at a1 a3 ⊢
    have ab:Fin bo ks i:=fin_of bo ks fun _=>a2
    have u:=fun j=>b3R s2 i j 2 (by rw[a1.len];exact hi)
    have af:s2.getD i 0=1:=(a1.one i).1 (by rw[q,zaz rfl])
    refine⟨⟨by rw[zbp];exact a1.len,?_,fun j=>?_,fun j hj=>?_,fun _ j hj=>?_⟩,ab,fun j hj=>?_⟩
    ·have:=zer_set2 s2 i 2 (by decide)
     have:=a1.zer
     simp only;omega
    ·simp only[u]
     by_cases e:j=i
     ·subst e;rw[zaz rfl,h0];constructor<;>intro x<;>exact absurd x (by decide)
     ·rw[za5 e,← a1.one j,q,za5 e]
    ·simp only[u]
     by_cases e:j=i
     ·rw[zaz e]
     ·rw[za5 e];exact a1.two j (by rw[q,za5 e];exact hj)
    ·simp only[u] at hj
     by_cases e:j=i
     ·subst e;exact ab
     ·rw[za5 e] at hj;exact a1.fin aa j hj
    ·simp only[u]
     by_cases e:j=i
     ·rw[zaz e];exact .inr (.inr rfl)
     ·rw[za5 e];exact a3 j hj
end Go.Gr
namespace Go.Proofs.YtoelgackkclcmaaGreat
open Go Go.Sx
def a4Z (k:Int):Bool:=decide (k=16)||(decide (k=17)||decide (k=18))
theorem b1v (k:Int):PC Tryz.prog 224 [I .i64 k] (Bo (a4Z k)):=by
  refine PCB.ob Tryz.func224 Tryz.ntmps224 Tryz.results224 ?_
  repeat'(first|simp only[go_sem]<;>refine nf ?_|refine stp ?_;intro K hK|apply hK;clear hK K|refine stn ?_|(refine⟨fun h=>?_,fun h=>?_⟩<;>(try simp only[zM,zN] at h)<;>try simp only[h])|fail)
  all_goals(first|exact lf|(refine a0m ?_;simp only[a4Z, *, zb,zaa,zab,zac,zad]<;>rfl))
abbrev Tt (l:List NodeD) (r:Int):T:= .st [.sl 8 (l.map a0e), .int .i64 r]
def tyB (l:List NodeD) (r:Int):List Cell:=[.dat (.sl 8 (l.map a0e)), .dat (.int .i64 r)]
attribute [go_sem] tyB
def bo (l:List NodeD) (i:Nat):Bool:=match l[i]? with
  |some x=>a4Z x.kind
  |none=>false
def ks (l:List NodeD) (i:Nat):List Nat:=match l[i]? with
  |some x=>x.kids.map Int.toNat
  |none=>[]
def InR (l:List NodeD):Prop:=∀ x∈l,∀ k∈x.kids,0≤k∧k<(l.length:Int)
theorem b3T (bo:Nat→Bool) (ks:Nat→List Nat):∀ (f:Nat) (st:List Int) (i:Nat),(Gr.dfs bo ks f st i).2.length=st.length
 |0,st,i=>rfl
 |f+1,st,i=>by
  have key:∀ (l:List Nat) (st:List Int),(Gr.lstW (Gr.dfs bo ks f) st l).2.length=st.length:=by
   intro l
   induction l with
   |nil=>intro st;rfl
   |cons k l ih=>
    intro st
    rw[Gr.lstW]
    cases (Gr.dfs bo ks f st k).1
    ·exact b3T bo ks f st k
    ·rw[zaa,ih,b3T]
  rw[Gr.dfs]
  cases !decide (st.getD i 0=0)||!bo i
  ·rw[zab]
   cases (Gr.lstW (Gr.dfs bo ks f) (st.set i 1) (ks i)).1
   ·rw[zab,key,zbp]
   ·rw[zaa,zbp,key,zbp]
  ·rfl
theorem b6T (bo:Nat→Bool) (ks:Nat→List Nat):∀ (f:Nat) (st:List Int) (i:Nat),Gr.zer (Gr.dfs bo ks f st i).2≤Gr.zer st
 |0,st,i=>zax _
 |f+1,st,i=>by
  have key:∀ (l:List Nat) (st:List Int),Gr.zer (Gr.lstW (Gr.dfs bo ks f) st l).2≤Gr.zer st:=by
   intro l
   induction l with
   |nil=>intro st;exact zax _
   |cons k l ih=>
    intro st
    rw[Gr.lstW]
    cases (Gr.dfs bo ks f st k).1
    ·exact b6T bo ks f st k
    ·rw[zaa];exact zbe (ih _) (b6T bo ks f st k)
  rw[Gr.dfs]
  cases !decide (st.getD i 0=0)||!bo i
  ·rw[zab]
   have h1:=Gr.zer_set2 st i 1 (by decide)
   cases (Gr.lstW (Gr.dfs bo ks f) (st.set i 1) (ks i)).1
   ·rw[zab];exact zbe (key _ _) h1
   ·rw[zaa]
    exact zbe (Gr.zer_set2 _ i 2 (by decide)) (zbe (key _ _) h1)
  ·exact zax _
theorem b0m (st:List Int) (i:Nat) (v:Int):(st.map a0h).set i [C.int .i64 v]=(st.set i v).map a0h:=by
  rw[zdw];rfl
theorem a0y {α:Type} {l:List α} {i:Nat} {x:α} (enc:α→List C) (h:l[i]?= some x):(l.map enc)[i]?= some (enc x):=by rw[zbv,h];rfl
def d1h (l:List NodeD) (r:Int) (st:List Int):Bx:=[(1000000, .row 1 (st.map a0h)),(1000001, .cells [.own 1000000 l.length]),(1000002, .cells (tyB l r)),(1000003, .cells [.clo 223 [.ptr 1000001 0, .ptr 1000002 0, .ptr 1000003 0]])]
attribute [go_sem] d1h
theorem b8f {l:List Int} {i:Nat} (h:i<l.length):l[i]?= some (l.getD i 0):=by
  rw[zbf,zav h];rfl
theorem d0v (l:List NodeD) (r:Int) (hr:InR l) (av:l.length≤1000000):∀ (f:Nat) (st:List Int) (i:Int),0≤i→i<(l.length:Int)→st.length=l.length→Gr.zer st<f→
  PCB Tryz.prog 223 [I .i64 i, .one (.ptr 1000001 0), .one (.ptr 1000002 0), .one (.ptr 1000003 0)] (d1h l r st) (Bo (Gr.dfs (bo l) (ks l) f st i.toNat).1) (d1h l r (Gr.dfs (bo l) (ks l) f st i.toNat).2):=by
 intro f
 induction f with
 |zero=>intro st i _ _ _ h;omega
 |succ f ih=>
  intro st i h0 hi ad hz
  have ao:i.toNat<l.length:=by omega
  have hx:l[i.toNat]?= some l[i.toNat]:=zav ao
  obtain⟨x,aq⟩:∃ x,x=l[i.toNat]:=⟨_,rfl⟩
  rw[← aq] at hx
  have af:=a0y a0e hx
  have hs:=b8f (l:=st) (i:=i.toNat) (by omega)
  obtain⟨v,hv⟩:∃ v,v=st.getD i.toNat 0:=⟨_,rfl⟩
  rw[← hv] at hs
  have ag:=a0y a0h hs
  have am:bo l i.toNat=a4Z x.kind:=by unfold bo;rw[hx]
  have an:ks l i.toNat=x.kids.map Int.toNat:=by unfold ks;rw[hx]
  cases q:decide (v=0) with
  |false=>
   have e:Gr.dfs (bo l) (ks l) (f+1) st i.toNat=(!decide (v=1),st):=by
    rw[Gr.dfs,← hv,q];rfl
   rw[e]
   refine PCB.ob Tryz.func223 Tryz.ntmps223 Tryz.results223 ?_
   repeat'(first|simp only[go_sem,lB,ad,q,a0h,a0d]<;>refine nf ?_|refine stp ?_;intro K hK|apply hK;clear hK K|refine stn ?_|(with_reducible first|refine⟨by omega,by omega,by omega,?_⟩|refine⟨_,ag,?_⟩)|clear hK K)
   all_goals exact fun _ h=>h
  |true=>
   cases hb:a4Z x.kind with
   |false=>
    have e:Gr.dfs (bo l) (ks l) (f+1) st i.toNat=(!decide (v=1),st):=by
     rw[Gr.dfs,← hv,q,am,hb];rfl
    rw[e]
    refine PCB.ob Tryz.func223 Tryz.ntmps223 Tryz.results223 ?_
    repeat'(first|simp only[go_sem,lB,ad,q,hb,a0h,a0d]<;>refine nf ?_|refine stp ?_;intro K hK|apply hK;clear hK K|refine stn ?_|(with_reducible first|refine⟨by omega,by omega,by omega,?_⟩|refine⟨_,ag,?_⟩|refine⟨by omega,_,af,?_⟩|refine⟨_,b1v _,?_⟩)|refine stq ?_|clear hK K)
    all_goals exact fun _ h=>h
   |true=>
    have e:Gr.dfs (bo l) (ks l) (f+1) st i.toNat=bif (Gr.lstW (Gr.dfs (bo l) (ks l) f) (st.set i.toNat 1) (x.kids.map Int.toNat)).1 then (true,(Gr.lstW (Gr.dfs (bo l) (ks l) f) (st.set i.toNat 1) (x.kids.map Int.toNat)).2.set i.toNat 2) else (false,(Gr.lstW (Gr.dfs (bo l) (ks l) f) (st.set i.toNat 1) (x.kids.map Int.toNat)).2):=by
     rw[Gr.dfs,← hv,q,am,hb,an];rfl
    have ap:x∈l:=zbc hx
    have aw:=Gr.zer_set st i.toNat 1 (by decide) (by omega) (by rw[← hv];simpa using q)
    rw[e]
    refine PCB.ob Tryz.func223 Tryz.ntmps223 Tryz.results223 ?_
    repeat'(first|simp only[go_sem,lB,ad,q,hb,a0h,a0d,b0m]<;>refine nf ?_|refine stp ?_;intro K hK|apply hK;clear hK K|refine stn ?_|(with_reducible first|refine⟨by omega,by omega,by omega,?_⟩|refine⟨_,ag,?_⟩|refine⟨by omega,_,af,?_⟩|refine⟨_,b1v _,?_⟩)|refine stq ?_|fail)
    refine AWP.len 36 rfl fun ab=>?_
    (try rw[lB] at ab)
    refine AWP.range (S:=List Int) (x.kids) a0h (fun k s=>(38,I .i64 (k:Nat))::[]) (fun k s=>[(1000000, .row 1 (s.map a0h))]) [0,1,3,36,37] [1000001,1000002,1000003] (fun k s=>Is (Gr.lstW (Gr.dfs (bo l) (ks l) f) (st.set i.toNat 1) (x.kids.map Int.toNat)) (Gr.lstW (Gr.dfs (bo l) (ks l) f) s ((x.kids.drop k).map Int.toNat))∧s.length=l.length∧Gr.zer s<f) (st.set i.toNat 1) (by simp only[go_sem,b0m];exact Gh.tt []) ?_ ?_ ?_
    ·exact⟨rfl,by rw[zbp];exact ad,by omega⟩
    ·rintro k s y ar hy al ae ⟨aa,u,ah⟩
     refine sts ?_
     have aj:=hr x ap y (zbc hy)
     have hd:x.kids.drop k=y::x.kids.drop (k+1):=by
      obtain⟨hk,e⟩:=zak.1 hy
      rw[za8 hk,e]
     have hI:=ih s y aj.1 aj.2 u ah
     have ai:=b3T (bo l) (ks l) f s y.toNat
     have au:=b6T (bo l) (ks l) f s y.toNat
     unfold Is at aa
     rw[aa,hd,zau,Gr.lstW]
     cases ak:(Gr.dfs (bo l) (ks l) f s y.toNat).1 with
     |false=>
      repeat'(first|simp only[go_sem,lB,u,ak,ae,a0h,Bx.puts]<;>refine nf ?_|refine stp ?_;intro K hK|apply hK;clear hK K|refine stn ?_|(with_reducible refine⟨by omega,a0h y,al,?_⟩)|( refine Or.inr ⟨_,_,_,hI,⟨rfl,rfl,rfl,rfl,trivial⟩,rfl,rfl,?_⟩)|clear hK K)
      all_goals exact fun _ h=>h
     |true=>
      repeat'(first|simp only[go_sem,lB,u,ak,ae,a0h,Bx.puts]<;>refine nf ?_|refine stp ?_;intro K hK|apply hK;clear hK K|refine stn ?_|(with_reducible refine⟨by omega,a0h y,al,?_⟩)|( refine Or.inr ⟨_,_,_,hI,⟨rfl,rfl,rfl,rfl,trivial⟩,rfl,rfl,?_⟩)|clear hK K)
      all_goals(rw[a0b ar ab])
      all_goals(refine⟨(Gr.dfs (bo l) (ks l) f s y.toNat).2,?_,Gh.tt []⟩)
      all_goals exact⟨rfl,by rw[ai,u],by omega⟩
    ·rintro s ae ⟨aa,u,ah⟩
     refine sts ?_
     unfold Is at aa
     repeat'(first|simp only[go_sem,lB,u,ae,a0h,b0m]<;>refine nf ?_|refine stp ?_;intro K hK|apply hK;clear hK K|refine stn ?_|(with_reducible first|refine⟨by omega,by omega,by omega,?_⟩|refine⟨_,a0y a0h (b8f (l:=s) (i:=i.toNat) (by omega)),?_⟩)|clear hK K)
     all_goals(rw[aa,zbw,za6,Gr.lstW];exact⟨rfl,fun _ h=>h⟩)
def rhoC (k:Nat):Nat:=bif k==1000000 then 9 else bif k==1000001 then 3 else bif k==1000002 then 1 else 4
theorem d0w (l:List NodeD) (r:Int) (hr:InR l) (q:l.length≤1000000) (f:Nat) (st:List Int) (i:Int) (h0:0≤i) (hi:i<(l.length:Int)) (hs:st.length=l.length) (hz:Gr.zer st<f):
  PCB Tryz.prog 223 [I .i64 i, .one (.ptr 3 0), .one (.ptr 1 0), .one (.ptr 4 0)] [(9, .row 1 (st.map a0h)),(3, .cells [.own 9 l.length]),(1, .cells (tyB l r)),(4, .cells [.clo 223 [.ptr 3 0, .ptr 1 0, .ptr 4 0]])] (Bo (Gr.dfs (bo l) (ks l) f st i.toNat).1)
   [(9, .row 1 ((Gr.dfs (bo l) (ks l) f st i.toNat).2.map a0h)),(3, .cells [.own 9 l.length]),(1, .cells (tyB l r)),(4, .cells [.clo 223 [.ptr 3 0, .ptr 1 0, .ptr 4 0]])]:=
 (d0v l r hr q f st i h0 hi hs hz).ren rhoC rfl rfl rfl rfl rfl rfl
def a8W (l:List NodeD):Bool:=(Gr.allW (bo l) (ks l) (l.length+1) (List.replicate l.length 0) 0 l.length).1
theorem c4r (n:Nat):List.replicate n [C.int .i64 0]=(List.replicate n (0:Int)).map a0h:=by rw[List.map_replicate];rfl
theorem d0x:mkT Tryz.prog 22=some (3, .i64):=by kernel_rfl
theorem a8X (l:List NodeD) (r:Int) (hr:InR l) (af:l.length≤1000000):PC Tryz.prog 178 [Tt l r] (Bo (a8W l)):=by
 refine PCB.ob Tryz.func178 Tryz.ntmps178 Tryz.results178 ?_
 repeat'(first|( refine AWP.cloR (id:=3) (by kernel_rfl) rfl rfl rfl (by with_unfolding_all rfl) ?_)|simp only[go_sem,lB,d0x,c4r,Int.toNat_natCast]<;>refine nf ?_|refine stp ?_;intro K hK|apply hK;clear hK K|refine stn ?_|(with_reducible refine⟨by omega,by omega,?_⟩)|fail)
 refine AWP.len 12 rfl fun aa=>?_
 (try rw[lB] at aa)
 refine AWP.range (S:=List Int) (l) a0e (fun k s=>(14,I .i64 (k:Nat))::[]) (fun k s=>[(9, .row 1 (s.map a0h))]) [4,13] [1,3,4] (fun k s=>Is (a8W l) (Gr.allW (bo l) (ks l) (l.length+1) s k (l.length-k)).1∧s.length=l.length) (List.replicate l.length 0) (by refine sts ?_;exact Gh.tt []) ?_ ?_ ?_
 ·exact⟨rfl,by simp⟩
 ·rintro k s y ag hy ah ab ⟨q,u⟩
  refine sts ?_
  have hI:=d0w l r hr af (l.length+1) s (k:Int) (by omega) (by omega) u (by have:=Gr.zer_le s;omega)
  have ad:=b3T (bo l) (ks l) (l.length+1) s (k:Int).toNat
  have hd:l.length-k=(l.length-(k+1))+1:=by omega
  unfold Is at q
  rw[hd,Gr.allW] at q
  rw[Int.toNat_natCast] at hI ad
  cases ae:(Gr.dfs (bo l) (ks l) (l.length+1) s k).1 with
  |false=>
   rw[ae] at q hI
   repeat'(first|simp only[go_sem,lB,u,ab,Bx.puts]<;>refine nf ?_|refine stp ?_;intro K hK|apply hK;clear hK K|refine stn ?_|( refine Or.inr ⟨_,_,_,hI,⟨rfl,rfl,rfl,rfl,trivial⟩,rfl,rfl,?_⟩)|clear hK K)
   all_goals(refine a0m ?_;rw[q];rfl)
  |true=>
   rw[ae] at q hI
   repeat'(first|simp only[go_sem,lB,u,ab,Bx.puts]<;>refine nf ?_|refine stp ?_;intro K hK|apply hK;clear hK K|refine stn ?_|( refine Or.inr ⟨_,_,_,hI,⟨rfl,rfl,rfl,rfl,trivial⟩,rfl,rfl,?_⟩)|clear hK K)
   all_goals(rw[a0b ag aa])
   all_goals(refine⟨(Gr.dfs (bo l) (ks l) (l.length+1) s k).2,?_,Gh.tt []⟩)
   all_goals exact⟨q,by rw[ad,u]⟩
 ·rintro s ab ⟨q,u⟩
  refine sts ?_
  unfold Is at q
  rw[zdh,Gr.allW] at q
  repeat'(first|simp only[go_sem,lB,u,ab]<;>refine nf ?_|refine stp ?_;intro K hK|apply hK;clear hK K|refine stn ?_|clear hK K)
  all_goals(refine a0m ?_;rw[q])
end Go.Proofs.YtoelgackkclcmaaGreat
namespace Go.Gr
variable (bo:Nat→Bool) (ks:Nat→List Nat)
inductive Pt:Nat→Nat→Prop
  |one {a b:Nat} (h:Stp bo ks b a):Pt a b
  |more {a b c:Nat} (h:Pt a b) (k:Stp bo ks c b):Pt a c
theorem Pt.head {a b:Nat} (h:Pt bo ks a b):∃ k,Stp bo ks k a∧(k=b∨Pt bo ks k b):=by
 induction h with
 |one h=>exact⟨_,h, .inl rfl⟩
 |more h k ih=>
  obtain⟨x,h1,h2⟩:=ih
  refine⟨x,h1, .inr ?_⟩
  rcases h2 with rfl|h2
  ·exact .one k
  ·exact .more h2 k
theorem c4s {i:Nat} (h:Fin bo ks i):¬ Pt bo ks i i:=by
 induction h with
 |intro i _ ih=>
  intro hp
  obtain⟨k,h1,h2⟩:=hp.head
  refine ih k h1 ?_
  rcases h2 with rfl|h2
  ·exact .one h1
  ·exact .more h2 h1
theorem b8g (n:Nat) (hk:∀ i,i<n→∀ k∈ks i,k<n) (hA:∀ j,j<n→Fin bo ks j):∀ (f:Nat) (st:List Int) (i:Nat),st.length=n→i<n→zer st<f→(∀ j,j<n→st.getD j 0=0∨st.getD j 0=1∨st.getD j 0=2)→
  (∀ o,st.getD o 0=1→Pt bo ks o i)→(dfs bo ks f st i).1=true
 |0,st,i,hl,hi,hz,hv,ho=>by omega
 |f+1,st,i,hl,hi,hz,hv,ho=>by
  have ad:∀ (st:List Int),st.length=n→∀ j,st.getD j 0=2→j<n:=fun st hl j hj=>by
   by_cases h:j<st.length
   ·omega
   ·rw[zbf,zcr (by omega)] at hj;exact absurd hj (by decide)
  rw[dfs]
  cases hc:!decide (st.getD i 0=0)||!bo i with
  |true=>
   rw[zaa]
   simp only[zbm,zah]
   intro h1
   exact c4s bo ks (hA i hi) (ho i h1)
  |false=>
   rw[zab]
   rw[zbx] at hc
   simp only[zde,zan] at hc
   obtain⟨h0,hb⟩:=hc
   have ae:=zer_set st i 1 (by decide) (by omega) h0
   have u:=fun j=>b3R st i j 1 (by omega)
   have key:∀ (l:List Nat) (st:List Int),(∀ k∈l,k∈ks i)→st.length=n→zer st<f→(∀ j,j<n→st.getD j 0=0∨st.getD j 0=1∨st.getD j 0=2)→(∀ o,st.getD o 0=1→o=i∨Pt bo ks o i)→
     (lstW (dfs bo ks f) st l).1=true:=by
    intro l
    induction l with
    |nil=>intro st _ _ _ _ _;rfl
    |cons k l ih=>
     intro st q hl hz hv ho
     have aa:Stp bo ks k i:=⟨hb,q k zbl⟩
     have ab:k<n:=hk i hi k (q k zbl)
     have hd:=b8g n hk hA f st k hl ab hz hv fun o h1=>by
      rcases ho o h1 with rfl|h2
      ·exact .one aa
      ·exact .more h2 aa
     rw[lstW,hd,zaa]
     obtain⟨a1,a2,a3⟩:=b3S bo ks n hk f st k hl ab hz (fun j hj=>hA j (ad st hl j hj)) hv hd
     exact ih _ (fun x hx=>q x (zas _ hx)) a1.len (by have:=a1.zer;omega) a3 fun o h1=>ho o ((a1.one o).2 h1)
   have:=key (ks i) (st.set i 1) (fun k h=>h) (by rw[zbp];exact hl) (by omega) (fun j hj=>by
    rw[u]
    by_cases e:j=i
    ·rw[zaz e];exact .inr (.inl rfl)
    ·rw[za5 e];exact hv j hj) fun o h1=>by
     rw[u] at h1
     by_cases e:o=i
     ·exact .inl e
     ·rw[za5 e] at h1;exact .inr (ho o h1)
   rw[this];rfl
theorem c2d (n f:Nat) (hk:∀ i,i<n→∀ k∈ks i,k<n) (hf:n<f):∀ (m i:Nat) (st:List Int),i+m=n→st.length=n→(∀ j,j<n→st.getD j 0=0∨st.getD j 0=1∨st.getD j 0=2)→(∀ j,st.getD j 0=2→Fin bo ks j)→
  (allW bo ks f st i m).1=true→∀ j,i≤j→j<n→Fin bo ks j
 |0,i,st,hi,hl,hv,hF,h=>fun j h1 h2=>by omega
 |m+1,i,st,hi,hl,hv,hF,h=>by
  rw[allW] at h
  cases hd:(dfs bo ks f st i).1 with
  |false=>rw[hd] at h;cases h
  |true=>
   rw[hd,zaa] at h
   obtain⟨a1,a2,a3⟩:=b3S bo ks n hk f st i hl (by omega) (by have:=zer_le st;omega) hF hv hd
   intro j h1 h2
   by_cases e:j=i
   ·subst e;exact a2
   ·exact c2d n f hk hf m (i+1) _ (by omega) a1.len a3 (a1.fin hF) h j (by omega) h2
theorem b8h (n f:Nat) (hk:∀ i,i<n→∀ k∈ks i,k<n) (hf:n<f) (hA:∀ j,j<n→Fin bo ks j):∀ (m i:Nat) (st:List Int),i+m=n→st.length=n→(∀ j,j<n→st.getD j 0=0∨st.getD j 0=1∨st.getD j 0=2)→(∀ j,st.getD j 0≠1)→
  (allW bo ks f st i m).1=true
 |0,i,st,hi,hl,hv,ho=>rfl
 |m+1,i,st,hi,hl,hv,ho=>by
  have hz:zer st<f:=by have:=zer_le st;omega
  have hd:=b8g bo ks n hk hA f st i hl (by omega) hz hv fun o h1=>absurd h1 (ho o)
  have hF:∀ j,st.getD j 0=2→Fin bo ks j:=fun j hj=>by
   by_cases h:j<st.length
   ·exact hA j (by omega)
   ·rw[zbf,zcr (by omega)] at hj;exact absurd hj (by decide)
  obtain⟨a1,a2,a3⟩:=b3S bo ks n hk f st i hl (by omega) hz hF hv hd
  rw[allW,hd,zaa]
  exact b8h n f hk hf hA m (i+1) _ (by omega) a1.len a3 fun j h1=>ho j ((a1.one j).2 h1)
theorem all_iff (n:Nat) (hk:∀ i,i<n→∀ k∈ks i,k<n):(allW bo ks (n+1) (List.replicate n 0) 0 n).1=true↔ ∀ j,j<n→Fin bo ks j:=by
 have hg:∀ j,(List.replicate n (0:Int)).getD j 0=0:=fun j=>by
  rw[zbf,List.getElem?_replicate];split<;>rfl
 constructor
 ·intro h j hj
  exact c2d bo ks n (n+1) hk (Nat.lt_succ_self n) n 0 _ (by omega) (by simp) (fun j _=> .inl (hg j)) (fun j h=>by rw[hg] at h;exact absurd h (by decide)) h j (zao _) hj
 ·intro hA
  exact b8h bo ks n (n+1) hk (Nat.lt_succ_self n) hA n 0 _ (by omega) (by simp) (fun j _=> .inl (hg j)) (fun j h=>by rw[hg] at h;exact absurd h (by decide))
def rdI (d:List Bool) (i:Nat):List Bool:=d.set i (d.getD i false||(!bo i||(ks i).all fun k=>d.getD k false))
def rdA (d:List Bool):Nat→List Bool
  |0=>d
  |i+1=>rdI bo ks (rdA d i) i
def rds (n:Nat):Nat→List Bool→List Bool
  |0,d=>d
  |r+1,d=>rdA bo ks (rds n r d) n
theorem c2e (d:List Bool) (i j:Nat) (v:Bool) (hi:i<d.length):(d.set i v).getD j false=if j=i then v else d.getD j false:=by
  rw[zbf,zbf,List.getElem?_set]
  by_cases h:i=j
  · subst h;simp[hi]
  · simp[h,Ne.symm h]
theorem c5C (n:Nat) (d:List Bool) (hl:d.length=n) (hF:∀ j,d.getD j false=true→Fin bo ks j):∀ i,i≤n→(rdA bo ks d i).length=n∧(∀ j,d.getD j false=true→(rdA bo ks d i).getD j false=true)∧(∀ j,(rdA bo ks d i).getD j false=true→Fin bo ks j)∧
  ∀ j,j<i→(bo j=true→∀ k∈ks j,d.getD k false=true)→(rdA bo ks d i).getD j false=true
 |0,_=>⟨hl,fun j h=>h,hF,fun j h=>by omega⟩
 |i+1,hi=>by
  obtain⟨h1,h2,h3,h4⟩:=c5C n d hl hF i (by omega)
  have hg:=fun j=>c2e (rdA bo ks d i) i j ((rdA bo ks d i).getD i false||(!bo i||(ks i).all fun k=>(rdA bo ks d i).getD k false)) (by omega)
  have hA:((!bo i||(ks i).all fun k=>(rdA bo ks d i).getD k false)=true)↔(bo i=true→∀ k∈ks i,(rdA bo ks d i).getD k false=true):=by
   cases bo i<;>simp
  refine⟨by show ((rdA bo ks d i).set i _).length=n;rw[zbp];exact h1,fun j hj=>?_,fun j hj=>?_,fun j hj u=>?_⟩
  ·show ((rdA bo ks d i).set i _).getD j false=true
   rw[hg]
   by_cases e:j=i
   ·subst e;rw[zaz rfl,h2 j hj];rfl
   ·rw[za5 e];exact h2 j hj
  ·have q:((rdA bo ks d i).set i ((rdA bo ks d i).getD i false||(!bo i||(ks i).all fun k=>(rdA bo ks d i).getD k false))).getD j false=true:=hj
   rw[hg] at q
   by_cases e:j=i
   ·subst e
    rw[zaz rfl,zb6] at q
    rcases q with q|q
    ·exact h3 j q
    ·exact fin_of bo ks fun hb k hk=>h3 k (hA.1 q hb k hk)
   ·rw[za5 e] at q;exact h3 j q
  ·show ((rdA bo ks d i).set i _).getD j false=true
   rw[hg]
   by_cases e:j=i
   ·subst e
    rw[zaz rfl,hA.2 fun hb k hk=>h2 k (u hb k hk),zap]
   ·rw[za5 e];exact h4 j (by omega) u
def b5A:List Bool→Nat
  |[]=>0
  |b::d=>(bif b then 1 else 0)+b5A d
theorem b6U:∀ d:List Bool,b5A d≤d.length
 |[]=>zax _
 |b::d=>by
  have:=b6U d
  simp only[b5A,List.length_cons]
  cases b<;>simp only[zaa,zab]<;>omega
theorem b5r:∀ d:List Bool,b5A d=d.length→∀ j,j<d.length→d.getD j false=true
 |[],h,j,hj=>by simp at hj
 |b::d,h,j,hj=>by
  have q:=b6U d
  simp only[b5A,List.length_cons] at h
  cases b with
  |false=>simp only[zab] at h;omega
  |true=>
   simp only[zaa] at h
   cases j with
   |zero=>rfl
   |succ j=>exact b5r d (by omega) j (by simpa using hj)
theorem b1w:∀ (d e:List Bool),d.length=e.length→(∀ j,d.getD j false=true→e.getD j false=true)→b5A d≤b5A e
 |[],[],_,_=>zax _
 |b::d,c::e,hl,h=>by
  have ih:=b1w d e (by simpa using hl) fun j hj=>h (j+1) hj
  have h0:=h 0
  simp only[b5A]
  cases b with
  |false=>simp only[zab];omega
  |true=>
   have:c=true:=h0 rfl
   subst this;simp only[zaa];omega
theorem c2f:∀ (d e:List Bool),d.length=e.length→(∀ j,d.getD j false=true→e.getD j false=true)→(∃ j,d.getD j false=false∧e.getD j false=true)→b5A d<b5A e
 |[],[],_,_,⟨j,_,h⟩=>by simp at h
 |b::d,c::e,hl,h,⟨j,h1,h2⟩=>by
  have q:d.length=e.length:=by simpa using hl
  have hm:=fun j hj=>h (j+1) hj
  cases j with
  |zero=>
   have e1:b=false:=h1
   have e2:c=true:=h2
   subst e1 e2
   have:=b1w d e q hm
   simp only[b5A,zaa,zab];omega
  |succ j=>
   have:=c2f d e q hm ⟨j,h1,h2⟩
   have h0:=h 0
   simp only[b5A]
   cases b with
   |false=>simp only[zab];omega
   |true=>
    have:c=true:=h0 rfl
    subst this;simp only[zaa];omega
theorem c4t (d:List Bool) {i:Nat} (h:Fin bo ks i):d.getD i false=false→∃ j,d.getD j false=false∧(bo j=true→∀ k∈ks j,d.getD k false=true)∧(j=i∨Pt bo ks i j):=by
 induction h with
 |intro i _ ih=>
  intro hi
  by_cases q:bo i=true→∀ k∈ks i,d.getD k false=true
  ·exact⟨i,hi,q, .inl rfl⟩
  ·obtain⟨hb,k,hk,hd⟩:bo i=true∧∃ k,k∈ks i∧d.getD k false=false:=by
    refine zdv fun hn=>q fun hb k hk=>?_
    cases hd:d.getD k false with
    |true=>rfl
    |false=>exact absurd ⟨hb,k,hk,hd⟩ hn
   obtain⟨j,h1,h2,h3⟩:=ih k ⟨hb,hk⟩ hd
   refine⟨j,h1,h2, .inr ?_⟩
   have hs:Stp bo ks k i:=⟨hb,hk⟩
   rcases h3 with rfl|h3
   ·exact .one hs
   ·clear h1 h2
    induction h3 with
    |one h=>exact .more (.one hs) h
    |more h k ih=>exact .more ih k
theorem d1i (n:Nat) (hk:∀ i,i<n→∀ k∈ks i,k<n) {a b:Nat} (h:Pt bo ks a b):a<n→b<n:=by
  induction h with
  |one h=>exact fun ha=>hk _ ha _ h.2
  |more h k ih=>exact fun ha=>hk _ (ih ha) _ k.2
theorem c5D (n:Nat) (hk:∀ i,i<n→∀ k∈ks i,k<n):∀ r,(rds bo ks n r (List.replicate n false)).length=n∧(∀ j,(rds bo ks n r (List.replicate n false)).getD j false=true→Fin bo ks j)∧
  ((∀ j,j<n→Fin bo ks j)→r≤n→r≤b5A (rds bo ks n r (List.replicate n false)))
 |0=>⟨by simp[rds],(fun j h=>by
  have:(List.replicate n false).getD j false=false:=by rw[zbf,List.getElem?_replicate];split<;>rfl
  change (List.replicate n false).getD j false=true at h
  rw[this] at h;exact absurd h (by decide)),fun _ _=>zao _⟩
 |r+1=>by
  obtain⟨h1,h2,h3⟩:=c5D n hk r
  generalize hd:rds bo ks n r (List.replicate n false)=d at h1 h2 h3
  obtain⟨a1,a2,a3,a4⟩:=c5C bo ks n d h1 h2 n (zax _)
  have e:rds bo ks n (r+1) (List.replicate n false)=rdA bo ks d n:=by rw[rds,hd]
  rw[e]
  refine⟨a1,a3,fun hA hr=>?_⟩
  have ih:=h3 hA (by omega)
  by_cases q:∀ j,j<n→d.getD j false=true
  ·have:b5A d=d.length:=by
    have all:∀ d:List Bool,(∀ j,j<d.length→d.getD j false=true)→b5A d=d.length:=by
     intro d
     induction d with
     |nil=>intro _;rfl
     |cons b d ih=>
      intro h
      have hb:b=true:=h 0 (by simp)
      have:=ih fun j hj=>h (j+1) (by simpa using hj)
      subst hb
      simp only[b5A,zaa,List.length_cons];omega
    exact all d (by rw[h1];exact q)
   have:=b1w d (rdA bo ks d n) (by rw[h1,a1]) a2
   omega
  ·obtain⟨i,hi,u⟩:∃ i,i<n∧d.getD i false=false:=by
    refine zdv fun hn=>q fun j hj=>?_
    cases ab:d.getD j false with
    |true=>rfl
    |false=>exact absurd ⟨j,hj,ab⟩ hn
   obtain⟨j,j1,j2,j3⟩:=c4t bo ks d (hA i hi) u
   have aa:j<n:=by
    rcases j3 with rfl|j3
    ·exact hi
    ·exact d1i bo ks n hk j3 hi
   have:=c2f d (rdA bo ks d n) (by rw[h1,a1]) a2 ⟨j,j1,a4 j aa j2⟩
   omega
theorem rds_iff (n:Nat) (hk:∀ i,i<n→∀ k∈ks i,k<n):(∀ j,j<n→(rds bo ks n n (List.replicate n false)).getD j false=true)↔ ∀ j,j<n→Fin bo ks j:=by
 obtain⟨h1,h2,h3⟩:=c5D bo ks n hk n
 constructor
 ·exact fun h j hj=>h2 j (h j hj)
 ·intro hA j hj
  have hc:=h3 hA (zax _)
  have q:=b6U (rds bo ks n n (List.replicate n false))
  exact b5r _ (by omega) j (by omega)
end Go.Gr
namespace Go.Gr
variable (es:Nat→List Nat)
inductive Rch:Nat→Nat→Prop
  |refl (i:Nat):Rch i i
  |step {i j k:Nat} (h:Rch i j) (hk:k∈es j):Rch i k
theorem Rch.trans {i j k:Nat} (h:Rch es i j) (h2:Rch es j k):Rch es i k:=by
  induction h2 with
  |refl=>exact h
  |step _ hk ih=>exact .step ih hk
def d1B (g:List Bool→Nat→List Bool):List Bool→List Nat→List Bool
  |st,[]=>st
  |st,k::l=>d1B g (g st k) l
def dfR:Nat→List Bool→Nat→List Bool
  |0,st,i=>st
  |f+1,st,i=>bif st.getD i false then st else d1B (dfR f) (st.set i true) (es i)
theorem marks {st:List Bool} {r:Nat} (h0:st.getD r false=true) (hc:∀ j,st.getD j false=true→∀ k∈es j,st.getD k false=true) (hr:∀ j,st.getD j false=true→Rch es r j) (j:Nat):st.getD j false=true↔Rch es r j:=by
  refine⟨hr j,fun h=>?_⟩
  induction h with
  |refl=>exact h0
  |step _ hk ih=>exact hc _ ih _ hk
end Go.Gr

