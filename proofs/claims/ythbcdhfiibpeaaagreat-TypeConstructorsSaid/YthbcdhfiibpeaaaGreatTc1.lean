/- Lemmas of the proof. -/
import Derived.Test.YthbcdhfiibpeaaaGreatTm49
open Go.Sx renaming seqVC_stepN→yA
open Go.Sx.AWP renaming seq→yS,seqR→yT,block→yU,cond→yV,skip→yW,ret→yX,exit→yY
open Nat renaming reduceBEq→zA,reduceBNe→zB,reduceAdd→zC,reduceSub→zD,reduceMul→zE,reduceLeDiff→zF,reduceLT→zG,reduceEqDiff→zH
open Int renaming reduceToNat→zI,reduceLE→zJ,reduceLT→zK,reduceEq→zL
open Bool renaming not_eq_true'→zM,not_eq_false'→zN
set_option linter.unusedSimpArgs false
set_option linter.unusedVariables false
set_option maxRecDepth 20000
set_option maxHeartbeats 64000000
namespace Go.Sx
variable {P:Program}
theorem b6i {n:Nat} {t:TypeId} {row:List C} (hu:P.underlying t=some .bool) (h:a6t P n t row):∃ b,row=[.bool b]:=by
  cases n with
  |zero=>exact h.elim
  |succ n=>simpa only[a6t,hu] using h
end Go.Sx
namespace Go.Proofs.YthbcdhfiibpeaaaGreat
open Go Go.Sx
@[go_sem] theorem sz73:szT Tryz.prog 73=some 2:=by kernel_rfl
@[go_sem] theorem ag73:a1w Tryz.prog 73=some true:=by kernel_rfl
@[go_sem] theorem kd73:kdT Tryz.prog 73=some (.other):=by kernel_rfl
@[go_sem] theorem c8t:a15 Tryz.prog 73 0=some (0,1,false):=by kernel_rfl
@[go_sem] theorem c8u:a1R Tryz.prog 73 0=some (0,1,4):=by kernel_rfl
@[go_sem] theorem c8v:a15 Tryz.prog 73 1=some (1,1,false):=by kernel_rfl
@[go_sem] theorem c8w:a1R Tryz.prog 73 1=some (1,1,30):=by kernel_rfl
@[go_sem] theorem fo73:a0T Tryz.prog 73=true:=by kernel_rfl
@[go_sem] theorem ze73:a01 Tryz.prog 73=some [.bool false, .nil 1]:=by kernel_rfl
@[go_sem] theorem sz74:szT Tryz.prog 74=some 2:=by kernel_rfl
@[go_sem] theorem ag74:a1w Tryz.prog 74=some true:=by kernel_rfl
@[go_sem] theorem kd74:kdT Tryz.prog 74=some (.other):=by kernel_rfl
@[go_sem] theorem c8x:a15 Tryz.prog 74 0=some (0,1,false):=by kernel_rfl
@[go_sem] theorem c8y:a1R Tryz.prog 74 0=some (0,1,4):=by kernel_rfl
@[go_sem] theorem c8z:a15 Tryz.prog 74 1=some (1,1,false):=by kernel_rfl
@[go_sem] theorem c8A:a1R Tryz.prog 74 1=some (1,1,30):=by kernel_rfl
@[go_sem] theorem fo74:a0T Tryz.prog 74=true:=by kernel_rfl
@[go_sem] theorem ze74:a01 Tryz.prog 74=some [.bool false, .nil 1]:=by kernel_rfl
@[go_sem] theorem sz160:szT Tryz.prog 160=some 2:=by kernel_rfl
@[go_sem] theorem ag160:a1w Tryz.prog 160=some true:=by kernel_rfl
@[go_sem] theorem kd160:kdT Tryz.prog 160=some (.other):=by kernel_rfl
@[go_sem] theorem c7M:a15 Tryz.prog 160 0=some (0,2,true):=by kernel_rfl
@[go_sem] theorem c7N:a1R Tryz.prog 160 0=some (0,2,74):=by kernel_rfl
@[go_sem] theorem fo160:a0T Tryz.prog 160=true:=by kernel_rfl
@[go_sem] theorem ze160:a01 Tryz.prog 160=some [.bool false, .nil 1]:=by kernel_rfl
@[go_sem] theorem sz161:szT Tryz.prog 161=some 2:=by kernel_rfl
@[go_sem] theorem ag161:a1w Tryz.prog 161=some true:=by kernel_rfl
@[go_sem] theorem kd161:kdT Tryz.prog 161=some (.other):=by kernel_rfl
@[go_sem] theorem c7O:a15 Tryz.prog 161 0=some (0,2,true):=by kernel_rfl
@[go_sem] theorem c7P:a1R Tryz.prog 161 0=some (0,2,74):=by kernel_rfl
@[go_sem] theorem fo161:a0T Tryz.prog 161=true:=by kernel_rfl
@[go_sem] theorem ze161:a01 Tryz.prog 161=some [.bool false, .nil 1]:=by kernel_rfl
end Go.Proofs.YthbcdhfiibpeaaaGreat
namespace Go.Sx
variable {P:Program} {n:Nat} {σ:AS} {Q:Exit→AS→Prop}
def bxT (mk:Nat→Option (Nat×Res)) (B0:Bx) (Bs:Nat→Bx) (m len:Nat) (X:Nat→Bool):Bx:=
  bif X m then Bs (((List.range (len-m)).filter fun j=>X (m+j)).length) else bxX mk B0 X m
structure MidT (κ:Kap) (M0:Mem) (n:Nat) (l:List Oper) (t:Nat→T) (mk:Nat→Option (Nat×Res)) (B0:Bx) (Bs:Nat→Bx) (m:Nat) (env0:Env) (listed:Array Bool) (a:Act) (w:World):Prop where
  size:listed.size=l.length
  closed:a1Z l listed
  st:∃ M ν,M0.ext κ M∧a.tmps.size=n∧a.defers=[]∧a1H M ν a.tmps (a1g l t (xs listed) env0 l.length)∧Sat κ M ν (bxT mk B0 Bs m l.length (xs listed)) w∧∀ k,pin≤k→ν k=κ.nu k
theorem a4R {p:Nat→Bool} {c:Nat}:∀ len,c≤len→(∀ j,j<c→p j=true)→(∀ j,c≤j→j<len→p j=false)→((List.range len).filter p).length=c
  |0,h,_,_=>by have:c=0:=by omega
               subst this;rfl
  |len+1,h,h1,h2=>by
   rw[List.range_succ,List.filter_append,List.length_append]
   by_cases hc:c≤len
   · rw[a4R len hc h1 (fun j a b=>h2 j a (by omega))]
     simp[h2 len hc (by omega)]
   · have:c=len+1:=by omega
     subst this
     rw[List.filter_eq_self.2 (fun x hx=>h1 x (by have:=List.mem_range.1 hx;omega))]
     simp[h1 len (by omega)]
theorem b39 {κ:Kap} {M0:Mem} {l:List Oper} {B0:Bx} {t:Nat→T} {mk:Nat→Option (Nat×Res)} {env0:Env} {Q':Exit→Act→World→Prop}
    (hback:b70 l) (hpairs:b1V l) (hap:c5p mk B0) (hro:a9g mk) {m:Nat} (hlen:∀ i p,mk i=some p→i<m) (hm:m<l.length) (Bs:Nat→Bx)
    (hdstm:∀ i o,m≤i→l[i]?= some o→o.dst=none∧o.guard=none) (htm:∀ i,m≤i→t i=a0F)
    (hmkd:∀ i j p,mk i=some p→m≤j→j<l.length→a7K l j i=true) (hchain:∀ i j,m≤i→i<j→j<l.length→a7K l j i=true)
    (hB0:∀ q,q≤l.length-m→∀ x∈B0,x∈Bs q) (hBs0:Bs 0=bxX mk B0 (fun _=>true) m)
    (hop:∀ i o,m≤i→l[i]?= some o→OpE P o (a1g l t (fun _=>true) env0 m) (Bs (i-m)) a0F (Bs (i-m+1)))
    (hs:∀ i o,i<m→l[i]?= some o→b1F P n l B0 o (a1g l t (fun _=>true) env0 i) (t i) (mk i))
    (hfr:∀ g k p,mk g=some p→g<k→k<l.length→(t k).fresh p.1=true∨a7K l k g=true)
    (hQ:∀ a w,St κ M0 n ⟨a1g l t (fun _=>true) env0 l.length,Bs (l.length-m)⟩ a w→Q' .normal a w):
    ∀ (fuel:Nat) (listed:Array Bool) (a:Act) (w:World),cnt l listed=fuel→MidT κ M0 n l t mk B0 Bs m env0 listed a w→
      wpAny P .any l.toArray Q' fuel listed a w:=by
  have envm:∀ X:Nat→Bool,∀ i,m≤i→i≤l.length→∀ k,(a1g l t X env0 i).lookup k=(a1g l t X env0 m).lookup k:=by
    intro X i
    induction i with
    |zero=>intro h _ k;have:m=0:=by omega
           subst this;rfl
    |succ i ih=>
     intro h hi k
     by_cases he:m=i+1
     · subst he;rfl
     · rw[← ih (by omega) (by omega) k]
       obtain⟨o,ho⟩:∃ o,l[i]?= some o:=⟨l[i]'(by omega),by rw[List.getElem?_eq_getElem]⟩
       have hd:=(hdstm i o (by omega) ho).1
       rw[a1g]
       cases X i
       · rfl
       · simp only[cond_true,ho,Option.bind_some,hd];rfl
  have done:∀ (listed:Array Bool) (a:Act) (w:World),MidT κ M0 n l t mk B0 Bs m env0 listed a w→(∀ i,i<l.length→listed.getD i false=true)→Q' .normal a w:=by
    intro listed a w hm' hall
    obtain⟨M,ν,h1,h2,h3,h4,h7,h8⟩:=hm'.st
    refine hQ a w ⟨M,ν,h1,h2,h3,?_,?_,h8⟩
    · intro d u hu
      refine h4 d u ?_
      rw[a00 l t (xs listed) (fun _=>true) env0 d l.length (fun j o hj _ _=>hall j hj)]
      exact hu
    · have e1:bxT mk B0 Bs m l.length (xs listed)=Bs (l.length-m):=by
        unfold bxT
        have:xs listed m=true:=hall m hm
        rw[this,cond_true,a4R (p:=fun j=>xs listed (m+j)) (c:=l.length-m) _ (Nat.le_refl _) (fun j hj=>hall (m+j) (by omega)) (fun j a b=>absurd b (by omega))]
      rw[e1] at h7
      exact h7
  intro fuel
  induction fuel with
  |zero=>
   intro listed a w hfuel hm'
   have hall:=a6n hfuel
   exact⟨a4I hm'.size hall,done listed a w hm' hall⟩
  |succ fuel ih=>
   intro listed a w hfuel hmid
   refine⟨fun hr=>done listed a w hmid (a2Y hback hmid.size hr),fun i hi=>?_⟩
   obtain⟨h0,oi,hoi,hall⟩:=mem_ready.1 hi
   have hil:i<l.length:=by have:=(Array.getElem?_eq_some_iff.1 hoi).1;simpa using this
   have hoi':l[i]?= some oi:=by simpa using hoi
   have hisz:i<listed.size:=by rw[hmid.size];exact hil
   have hxi:listed.getD i false=false:=by simp[hisz] at h0 ⊢; exact h0
   obtain⟨M,ν,h1,h2,h3,h4,h7,h8⟩:=hmid.st
   have hd:a4h n oi=true:=by
      by_cases hiL:i<m
      · exact(hs i oi hiL hoi').1
      · unfold a4h;rw[(hdstm i oi (by omega) hoi').1]
   have look:∀ d,d∈oi.looksAt l.toArray→(a1g l t (xs listed) env0 l.length).lookup d=(a1g l t (fun _=>true) env0 i).lookup d:=by
      intro d hdm
      rw[a1s l t (xs listed) env0 d i l.length (by omega) ?_,a00 l t (xs listed) (fun _=>true) env0 d i ?_]
      · intro j o hj ho hod
        rcases hpairs j i o oi hj ho hoi' with⟨e',he',hb',hon⟩|hap
        · exact hon▸hall e' he' hb'
        · exact absurd hdm ((Oper.apart_spec hap).1 d hod)
      · intro j o hj hjl ho hod
        by_cases hji:i=j
        · subst hji;exact hxi
        · cases hxj:xs listed j with
          |false=>rfl
          |true=>
           rcases hpairs i j oi o (by omega) hoi' ho with⟨e',he',hb',hon⟩|hap
           · have:=hmid.closed j o ho hxj e' he' hb'
             rw[hon,hxi] at this;cases this
           · exact absurd hdm ((Oper.apart_spec hap).2.2 d hod)
   have hclosed:a1Z l (listed.setIfInBounds i true):=by
      intro j oj hj hx e' he' hb'
      by_cases hji:i=j
      · subst hji
        rw[hoi'] at hj;cases hj
        exact getD_set_true (hall e' he' hb')
      · rw[getD_set_ne false hji] at hx
        exact getD_set_true (hmid.closed j oj hj hx e' he' hb')
   have hcount:cnt l (listed.setIfInBounds i true)=fuel:=by
      have:=a8l hmid.size hil hxi;omega
   have after:∀ (M':Mem) (ν':Nu) (v:Value) (w':World),M.ext κ M'→a1H M ν' a.tmps (a1g l t (xs listed) env0 l.length)→(t i).rep M' ν' v→Sat κ M' ν' (bxT mk B0 Bs m l.length (xs (listed.setIfInBounds i true))) w'→(∀ k,pin≤k→ν' k=κ.nu k)→
        MidT κ M0 n l t mk B0 Bs m env0 (listed.setIfInBounds i true) (a.put oi.dst v) w':=by
      intro M' ν' v w' hle h4 hr hsat hpin
      refine⟨by simpa using hmid.size,hclosed,M',ν',h1.trans hle,by rw[Act.put_size];exact h2,by rw[Act.put_defers'];exact h3,?_,hsat,hpin⟩
      have hput:=a1H.put (df:=a.defers) (h4.mono hle.1) (dst:=oi.dst) (v:=v) (t:=t i) (fun d he=>by rw[h2];exact a04 hd d he) hr
      intro k u hu
      refine hput k u ?_
      rw[a0V]
      by_cases hk:oi.dst=some k
      · rw[if_pos hk]
        have e1:=a1s l t (xs (listed.setIfInBounds i true)) env0 k (i+1) l.length (by omega) (fun j o hj hjl ho hod=>by
          cases hxj:xs (listed.setIfInBounds i true) j with
          |false=>rfl
          |true=>
           have hne:i≠j:=by omega
           have hxj':listed.getD j false=true:=by rw[← getD_set_ne false hne];exact hxj
           rcases hpairs i j oi o (by omega) hoi' ho with⟨e',he',hb',hon⟩|hap
           · have:=hmid.closed j o ho hxj' e' he' hb'
             rw[hon,hxi] at this;cases this
           · exact absurd hod ((Oper.apart_spec hap).2.1 k hk))
        rw[e1] at hu
        have hself:xs (listed.setIfInBounds i true) i=true:=by simp[xs,hisz]
        rw[a1g,hself] at hu
        simp only[cond_true,a0V,hoi',Option.bind_some,hk,if_true] at hu
        exact hu
      · rw[if_neg hk]
        have e2:=a00 l t (xs (listed.setIfInBounds i true)) (xs listed) env0 k l.length (fun j o hj ho hod=>by
          have hne:i≠j:=fun h=>by subst h;rw[hoi'] at ho;cases ho;exact hk hod
          exact getD_set_ne false hne)
        rw[← e2];exact hu
   have hon:a3g M ν a (a1g l t (fun _=>true) env0 i) oi:=by
      intro d u hdo hu
      refine h4 d u ?_
      rw[look d (a3E hdo)];exact hu
   have hgd:∀ g want d u,oi.guard=some (g,want)→(l[g]?).bind (·.dst)=some d→(a1g l t (fun _=>true) env0 i).lookup d=some u→u.rep M ν (a.tmps.getD d undef):=by
      intro g want d u hg hgd hu
      refine h4 d u ?_
      rw[look d (a19 hg hgd)];exact hu
   have hself:xs (listed.setIfInBounds i true) i=true:=by simp[xs,hisz]
   have hold:∀ j,i≠j→xs (listed.setIfInBounds i true) j=xs listed j:=fun j hj=>getD_set_ne false hj
   by_cases hiL:m≤i
   · -- a store
     obtain⟨c,rfl⟩:∃ c,i=m+c:=⟨i-m,by omega⟩
     obtain⟨hdst,hgd0⟩:=hdstm _ oi hiL hoi'
     have hprev:∀ j,j<c→listed.getD (m+j) false=true:=fun j hj=>a5V (hchain (m+j) (m+c) (by omega) (by omega) hil) hoi' hmid.closed (fun e' he' hb'=>hall e' he' hb')
     have hnext:∀ j,c≤j→j<l.length-m→listed.getD (m+j) false=false:=by
        intro j hj hjl
        by_cases he:j=c
        · subst he;exact hxi
        · cases hx:listed.getD (m+j) false with
          |false=>rfl
          |true=>
           have hq:m+j<l.length:=by omega
           have:=a5V (hchain (m+c) (m+j) (by omega) (by omega) hq) (List.getElem?_eq_getElem hq) hmid.closed (fun e' he' hb'=>hmid.closed _ l[m+j] (List.getElem?_eq_getElem hq) hx e' he' hb')
           rw[hxi] at this;cases this
     have hmk':∀ j p,mk j=some p→listed.getD j false=true:=fun j p hp=>a5V (hmkd j (m+c) p hp (by omega) hil) hoi' hmid.closed (fun e' he' hb'=>hall e' he' hb')
     have hsat0:Sat κ M ν (Bs c) w:=by
        have hcnt:=a4R (p:=fun j=>xs listed (m+j)) (c:=c) (l.length-m) (by omega) hprev hnext
        unfold bxT at h7
        cases hc:xs listed m with
        |true=>
         rw[hc,cond_true,hcnt] at h7
         exact h7
        |false=>
         have hc0:c=0:=by
            rcases Nat.eq_zero_or_pos c with h|h
            · exact h
            · have:=hprev 0 h;unfold xs at hc;rw[Nat.add_zero,hc] at this;cases this
         subst hc0
         rw[hc,cond_false] at h7
         rw[hBs0]
         refine h7.drop (fun x hx=>?_) (a4P hap (a5d h7.nodup) _)
         rcases a07.1 hx with h|⟨j,hj,_,hk⟩
         · exact a07.2 (.inl h)
         · exact a07.2 (.inr ⟨j,hj,hmk' j x hk,hk⟩)
     have hopi:=hop (m+c) oi hiL hoi'
     rw[show m+c-m=c by omega] at hopi
     have hon':a3g M ν a (a1g l t (fun _=>true) env0 m) oi:=by
        intro d u hdo hu
        refine hon d u hdo ?_
        rw[envm (fun _=>true) (m+c) (by omega) (by omega)];exact hu
     unfold wpOp
     rw[hoi]
     simp only[]
     rw[if_pos (by simp[Region.wanted,hgd0])]
     left
     refine Oper.wp_mono_Q (Oper.wp_mono ?_ (hopi κ M ν a w hon' hsat0))
     rintro a' w' ⟨v,M',rfl,hle,hr,hsat⟩
     refine ih _ _ _ hcount (after M' ν v w' hle h4 (by rw[htm _ hiL];exact hr) ?_ h8)
     have hcnt2:=a4R (p:=fun j=>xs (listed.setIfInBounds (m+c) true) (m+j)) (c:=c+1) (l.length-m) (by omega) (fun j hj=>by
          by_cases he:j=c
          · subst he;exact hself
          · rw[hold (m+j) (by omega)];exact hprev j (by omega)) (fun j a b=>by rw[hold (m+j) (by omega)];exact hnext j (by omega) b)
     unfold bxT
     have hXm:xs (listed.setIfInBounds (m+c) true) m=true:=by
        by_cases he:c=0
        · subst he;exact hself
        · rw[hold m (by omega)];exact hprev 0 (by omega)
     rw[hXm,cond_true,hcnt2]
     exact hsat
   have hiL':i<m:=by omega
   have hspec:=(hs i oi hiL' hoi').2
   have htl:∀ j,m≤j→xs (listed.setIfInBounds i true) j=xs listed j:=fun j hj=>hold j (by omega)
   have cntsame:((List.range (l.length-m)).filter fun j=>xs (listed.setIfInBounds i true) (m+j))=(List.range (l.length-m)).filter fun j=>xs listed (m+j):=by
      congr 1;funext j;exact htl (m+j) (by omega)
   have hsub0:∀ x∈B0,x∈bxT mk B0 Bs m l.length (xs listed):=by
      intro x hx
      unfold bxT
      cases xs listed m
      · exact a07.2 (.inl hx)
      · refine hB0 _ ?_ x hx
        exact Nat.le_trans (List.length_filter_le _ _) (by simp)
   have same:mk i=none→∀ {M':Mem} {ν':Nu} {w':World},Sat κ M' ν' (bxT mk B0 Bs m l.length (xs listed)) w'→Sat κ M' ν' (bxT mk B0 Bs m l.length (xs (listed.setIfInBounds i true))) w':=by
      intro hk M' ν' w' hsat
      unfold bxT at hsat ⊢
      rw[htl m (Nat.le_refl _),cntsame]
      cases hc:xs listed m with
      |true=>rw[hc] at hsat;exact hsat
      |false=>
       rw[hc] at hsat
       simp only[cond_false] at hsat ⊢
       refine hsat.drop (fun x hx=>?_) (a4P hap (a5d hsat.nodup) _)
       rcases a07.1 hx with h|⟨j,hj,hX,hkj⟩
       · exact a07.2 (.inl h)
       · have hne:i≠j:=fun e=>by subst e;rw[hk] at hkj;cases hkj
         exact a07.2 (.inr ⟨j,hj,by rw[← hold j hne];exact hX,hkj⟩)
   unfold wpOp
   rw[hoi]
   simp only[]
   rcases hspec with⟨hg,⟨hjn,hop'⟩|⟨k,r,hjn,hkp,hfk,hfB0,hop'⟩⟩|⟨hg,ht,hjn⟩
   · rw[if_pos (a1t hg hgd)]
     left
     refine Oper.wp_mono_Q (Oper.wp_mono ?_ (hop' κ M ν a w _ hsub0 hon h7))
     rintro a' w' ⟨v,M',rfl,hle,hr,hsat⟩
     exact ih _ _ _ hcount (after M' ν v w' hle h4 hr (same hjn hsat) h8)
   · -- a maker: no store is done yet
     have hc:xs listed m=false:=by
        cases hx:xs listed m with
        |false=>rfl
        |true=>
         have:=a5V (hmkd i m _ hjn (Nat.le_refl _) ‹m<l.length›) (List.getElem?_eq_getElem ‹m<l.length›) hmid.closed (fun e' he' hb'=>hmid.closed m l[m] (List.getElem?_eq_getElem ‹m<l.length›) hx e' he' hb')
         rw[hxi] at this;cases this
     have hbx1:bxT mk B0 Bs m l.length (xs listed)=bxX mk B0 (xs listed) m:=by unfold bxT;rw[hc];rfl
     have hbx2:bxT mk B0 Bs m l.length (xs (listed.setIfInBounds i true))=bxX mk B0 (xs (listed.setIfInBounds i true)) m:=by unfold bxT;rw[htl m (Nat.le_refl _),hc];rfl
     rw[hbx1] at h7
     rw[if_pos (a1t hg hgd)]
     left
     have nod:((bxX mk B0 (xs (listed.setIfInBounds i true)) m).map (·.1)).Nodup:=a4P hap (a5d h7.nodup) _
     have hfB:Bx.fresh k (bxX mk B0 (xs listed) m)=true:=by
        refine a5e fun x hx=>?_
        rcases a07.1 hx with h|⟨j,hj,hX,hkj⟩
        · exact Bx.fresh_spec (j:=x.1) (r:=x.2) hfB0 h
        · have hne:j≠i:=fun e=>by subst e;unfold xs at hX;rw[hxi] at hX;cases hX
          refine⟨hap.1 j i x _ hkj hjn hne,fun cs e=>?_⟩
          exact hro j x hkj k cs e
     refine Oper.wp_mono_Q (Oper.wp_mono ?_ (hop' _ (fun x hx=>a07.2 (.inl hx)) hfB κ M ν a w hon h7))
     rintro a' w' ⟨v,M',ν',rfl,hle,hν,hr,hsat⟩
     obtain⟨hf0,hft⟩:=a3G i hfk
     have hfresh:Env.fresh k (a1g l t (xs listed) env0 l.length)=true:=by
        refine a3S hf0 l.length (fun q hq hx hdq=>?_)
        rcases Nat.lt_trichotomy q i with h|h|h
        · exact hft q h hdq
        · subst h;unfold xs at hx;rw[hxi] at hx;cases hx
        · rcases hfr i q _ hjn h hq with h'|h'
          · exact h'
          · exfalso
            have:=a5V h' (List.getElem?_eq_getElem hq) hmid.closed (fun e' he' hb'=>hmid.closed q l[q] (List.getElem?_eq_getElem hq) hx e' he' hb')
            rw[hxi] at this;cases this
     refine ih _ _ _ hcount (after M' ν' v w' hle (h4.fresh hfresh hν) hr ?_ (fun q hq=>by rw[hν q (by omega)];exact h8 q hq))
     rw[hbx2]
     refine hsat.drop ?_ nod
     intro x hx
     rcases a07.1 hx with h|⟨j,hj,hX,hkj⟩
     · exact List.mem_cons_of_mem _ (a07.2 (.inl h))
     · by_cases hne:i=j
       · subst hne;rw[hjn] at hkj;cases hkj;exact List.mem_cons_self
       · exact List.mem_cons_of_mem _ (a07.2 (.inr ⟨j,hj,by rw[← hold j hne];exact hX,hkj⟩))
   · rw[a2Q hg hgd]
     simp only[Bool.false_eq_true,if_false]
     refine ih _ _ _ hcount (after M ν undef w (Mem.ext.refl κ M) h4 (by rw[ht];simp[a0F,T.rep,Cell.rep,C.rep]) (same hjn h7) h8)
theorem a9j (all:List Oper) (es:List Nat) (B0:Bx) (K:Env→Bx→Prop):∀ (l:List Oper) (i0:Nat) (gs:List (Nat×Nat)) (env:Env) (B:Bx),a1c n l=true→(∀ x∈B0,x∈B)→a3w P all es B0 i0 gs l env B K→
  ∃ (t:Nat→T) (mk:Nat→Option (Nat×Res)),(∀ i o,l[i]?= some o→b1F P n all B0 o (a1g l t (fun _=>true) env i) (t i) (mk i))∧(∀ i p,mk i=some p→i<l.length)∧a9g mk∧
   (∀ i p,mk i=some p→Bx.fresh p.1 B=true)∧(∀ i j p q,mk i=some p→mk j=some q→i≠j→p.1≠q.1)∧(∀ i,i<l.length→a03 all (i0+i) (t i) gs)∧
   (∀ g k p,mk g=some p→g<k→k<l.length→(t k).fresh p.1=true∨a7K all (i0+k) (i0+g)=true)∧K (a1g l t (fun _=>true) env l.length) (bxX mk B (fun _=>true) l.length)∧(∀ i p,mk i=some p→memN (i0+i) es=true)
 |[],i0,gs,env,B,_,hB,h=>⟨fun _=>a0F,fun _=>none,fun i o ho=>by simp at ho,fun _ _ h=>(by cases h),fun _ _ h=>(by cases h),fun _ _ h=>(by cases h),fun _ _ _ _ h=>(by cases h),fun i hi=>by simp at hi,fun _ _ _ h=>(by cases h),h,fun _ _ h=>(by cases h)⟩
 |o::os,i0,gs,env,B,hd,hB,h=>by
  simp only[a1c,List.all_cons,Bool.and_eq_true] at hd
  obtain⟨⟨hd1,hd2⟩,hd3⟩:=hd
  have step:∃ (t0:T) (B':Bx) (j0:Option (Nat×Res)) (gs':List (Nat×Nat)),b1F P n all B0 o env t0 j0∧(∀ x∈B,x∈B')∧B'=(match j0 with|some p=>p::B|none=>B)∧(∀ p,j0=some p→p.2.plain∧Bx.fresh p.1 B=true∧(i0,p.1)∈gs')∧a03 all i0 t0 gs∧
    (∀ p∈gs,p∈gs')∧(∀ p,j0=some p→memN i0 es=true)∧a3w P all es B0 (i0+1) gs' os (a14 env o.dst t0) B' K:=by
   rcases a2o h with⟨hg,hx⟩|⟨hg,hx⟩
   ·cases hm:memN i0 es with
    |true=>
     rw[hm] at hx
     simp only[cond_true] at hx
     obtain⟨t,r,hpl,hop,hfe,hfb,h2,h3⟩:=b1G hx
     refine⟨t,_,some (a1i o,r),_,⟨hd1, .inl ⟨hg, .inr ⟨_,_,rfl,Nat.le_of_ble_eq_true hd2,hfe,Bx.fresh_sub hfb hB,fun B' hs hf=>hop B' hfe hf⟩⟩⟩,fun x hx=>List.mem_cons_of_mem _ hx,rfl,fun p hp=>?_,h2,fun p hp=>List.mem_cons_of_mem _ hp,fun _ _=>rfl,h3⟩
     cases hp
     exact⟨hpl,hfb,List.mem_cons_self⟩
    |false=>
     rw[hm] at hx
     simp only[cond_false] at hx
     obtain⟨t,hop,h2,h3⟩:=a1F hx
     exact⟨t,B,none,gs,⟨hd1, .inl ⟨hg, .inl ⟨rfl,hop⟩⟩⟩,fun _ h=>h,rfl,fun p hp=>(by cases hp),h2,fun _ h=>h,fun p hp=>(by cases hp),h3⟩
   ·exact⟨a0F,B,none,gs,⟨hd1, .inr ⟨hg,rfl,rfl⟩⟩,fun _ h=>h,rfl,fun p hp=>(by cases hp),a4K gs,fun _ h=>h,fun p hp=>(by cases hp),hx⟩
  obtain⟨t0,B',j0,gs',hspec,hsubB,hBe,hj0,hfr0,hsub,hmem0,hk⟩:=step
  obtain⟨t,mk,hs,hlen,hro,hfb,hdis,hfr,hjj,hK,hmm⟩:=a9j all es B0 K os (i0+1) gs' _ B' hd3 (fun x hx=>hsubB x (hB x hx)) hk
  have hmk:∀ i p,(match i with|0=>j0|i+1=>mk i)=some p→(i=0∧j0=some p)∨ ∃ i',i=i'+1∧mk i'=some p:=by
   intro i p h
   cases i with
   |zero=>exact .inl ⟨rfl,h⟩
   |succ i=>exact .inr ⟨i,rfl,h⟩
  have ne0:∀ i p q,j0=some p→mk i=some q→q.1≠p.1:=by
   intro i p q h1 h2
   have h3:=hfb i q h2
   subst h1
   rw[hBe] at h3
   exact fun e=>(Bx.fresh_spec (j:=p.1) (r:=p.2) h3 List.mem_cons_self).1 e.symm
  refine⟨fun i=>match i with|0=>t0|i+1=>t i,fun i=>match i with|0=>j0|i+1=>mk i,?_,?_,?_,?_,?_,?_,?_,?_,?_⟩
  ·intro i o' ho
   cases i with
   |zero=>simp at ho;subst ho;exact hspec
   |succ i=>
    rw[a1B]
    exact hs i o' (by simpa using ho)
  ·intro i p h
   rcases hmk i p h with⟨rfl,_⟩|⟨i',rfl,h⟩
   ·simp
   ·have:=hlen i' p h;simp;omega
  ·intro i p h
   rcases hmk i p h with⟨rfl,h⟩|⟨i',rfl,h⟩
   ·exact(hj0 p h).1
   ·exact hro i' p h
  ·intro i p h
   rcases hmk i p h with⟨rfl,h⟩|⟨i',rfl,h⟩
   ·exact(hj0 p h).2.1
   ·exact Bx.fresh_sub (hfb i' p h) hsubB
  ·intro i j p q h1 h2 hij
   rcases hmk i p h1 with⟨rfl,h1⟩|⟨i',rfl,h1⟩<;>rcases hmk j q h2 with⟨rfl,h2⟩|⟨j',rfl,h2⟩
   ·exact absurd rfl hij
   ·exact fun e=>ne0 j' p q h1 h2 e.symm
   ·exact ne0 i' q p h2 h1
   ·exact hdis i' j' p q h1 h2 (by omega)
  ·intro i hi
   cases i with
   |zero=>exact hfr0
   |succ i=>
    have:=hfr i (by simpa using hi)
    rw[show i0+1+i=i0+(i+1) by omega] at this
    exact a5W.FreshOr_sub hsub this
  ·intro g k p hg hgk hk'
   cases k with
   |zero=>omega
   |succ k=>
    rcases hmk g p hg with⟨rfl,hg⟩|⟨g',rfl,hg⟩
    ·have:=a2y (hfr k (by simpa using hk')) (i0,p.1) (hj0 p hg).2.2
     rwa[show i0+1+k=i0+(k+1) by omega] at this
    ·have:=hjj g' k p hg (by omega) (by simpa using hk')
     rwa[show i0+1+k=i0+(k+1) by omega,show i0+1+g'=i0+(g'+1) by omega] at this
  ·rw[List.length_cons,a1B,b2F]
   rw[hBe] at hK
   exact hK
  ·intro i p h
   rcases hmk i p h with⟨rfl,h⟩|⟨i',rfl,h⟩
   ·exact hmem0 p h
   ·have:=hmm i' p h
    rwa[show i0+1+i'=i0+(i'+1) by omega] at this
def b5a (o:Oper):Bool:=match o.op with| .store _ _ _=>o.dst.isNone&&o.guard.isNone|_=>false
theorem b0Q (all:List Oper) (B0:Bx) (K:Env→Bx→Prop):∀ (l:List Oper) (env:Env) (B:Bx),(∀ x∈B0,x∈B)→l.all b5a=true→a3m P all B0 l env B K→
  ∃ Bs:Nat→Bx,Bs 0=B∧(∀ i o,l[i]?= some o→OpE P o env (Bs i) a0F (Bs (i+1)))∧(∀ q,q≤l.length→∀ x∈B0,x∈Bs q)∧K env (Bs l.length)
 |[],env,B,hfix,_,h=>⟨fun _=>B,rfl,fun i o ho=>by simp at ho,fun _ _ x hx=>hfix x hx,h⟩
 |o::os,env,B,hfix,ha,h=>by
  simp only[List.all_cons,Bool.and_eq_true] at ha
  obtain⟨ho,ha⟩:=ha
  unfold b5a at ho
  split at ho
  ·rename_i t x y hop
   simp only[Bool.and_eq_true,Option.isNone_iff_eq_none] at ho
   unfold a3m at h
   rcases a2o h with⟨_,h⟩|⟨hg,_⟩
   ·rw[hop] at h
    simp only[] at h
    split at h
    ·rename_i k hk
     obtain⟨hn,h⟩:=h
     obtain⟨B',h1,⟨k',r,hk',rfl⟩,h2⟩:=a4c hop (b1p h)
     rw[hk] at hk';cases hk'
     have hfix':∀ x∈B0,x∈Bx.put k r B:=fun x hx=>a3D (hfix x hx) (a6k hn hx)
     rw[ho.1] at h2
     obtain⟨Bs,e0,e1,e2,e3⟩:=b0Q all B0 K os env _ hfix' ha h2
     refine⟨fun i=>match i with|0=>B|i+1=>Bs i,rfl,?_,?_,e3⟩
     ·intro i o' ho'
      cases i with
      |zero=>simp at ho';subst ho';show OpE P _ env B a0F (Bs 0);rw[e0];exact h1
      |succ i=>exact e1 i o' (by simpa using ho')
     ·intro q hq x hx
      cases q with
      |zero=>exact hfix x hx
      |succ q=>exact e2 q (by simpa using hq) x hx
    ·exact h.elim
   ·exfalso
    unfold a0Y at hg
    rw[ho.2] at hg
    exact hg
  ·cases ho
def b7w (n:Nat) (l:List Oper) (es:List Nat) (m:Nat):Bool:=b6d n l&&(decide (m<l.length)&&((l.drop m).all b5a&&(List.range l.length).all fun j=>decide (j<m)||(es.all (fun e=>a7K l j e)&&(List.range j).all fun i=>decide (i<m)||a7K l j i)))
theorem b5b {i:Nat}:∀ {es:List Nat},memN i es=true→i∈es
 |[],h=>(by cases h)
 |k::ks,h=>by
  unfold memN at h
  simp only[Bool.or_eq_true,beq_iff_eq] at h
  rcases h with rfl|h
  ·exact List.mem_cons_self
  ·exact List.mem_cons_of_mem _ (b5b h)
theorem AWP.genMT {id:Nat} {l:List Oper} {env:Env} {B:Bx} (es:List Nat) (m:Nat) (hm:P.follows .mixedOrders=true) (hl:b7w n l es m=true)
    (h:∀ K:Env→Bx→Prop,(∀ e b,Q .normal ⟨e,b⟩→K e b)→a3w P l es B 0 [] (l.take m) env B fun env B'=>a3m P l B (l.drop m) env B' K):AWP P n (.region id l.toArray true) ⟨env,B⟩ Q:=by
  simp only[b7w,b6d,Bool.and_eq_true,decide_eq_true_eq] at hl
  obtain⟨⟨hlex,hds⟩,hlt,htail,hdep⟩:=hl
  have htl:(l.take m).length=m:=by simp;omega
  have hdl:(l.drop m).length=l.length-m:=by simp
  have hds':a1c n (l.take m)=true:=by
    unfold a1c at*
    rw[← List.take_append_drop m l,List.all_append,Bool.and_eq_true] at hds
    exact hds.1
  have hdropAt:∀ i o,m≤i→l[i]?= some o→(l.drop m)[i-m]?= some o:=by
    intro i o hi ho
    rw[List.getElem?_drop,show m+(i-m)=i by omega];exact ho
  have hdstm:∀ i o,m≤i→l[i]?= some o→o.dst=none∧o.guard=none:=by
    intro i o hi ho
    have:=List.all_eq_true.1 htail o (List.mem_of_getElem? (hdropAt i o hi ho))
    unfold b5a at this
    split at this
    · simpa using this
    · cases this
  have hdp:∀ j,m≤j→j<l.length→(∀ e∈es,a7K l j e=true)∧∀ i,m≤i→i<j→a7K l j i=true:=by
    intro j hj hjl
    have:=List.all_eq_true.1 hdep j (List.mem_range.2 hjl)
    simp only[Bool.or_eq_true,Bool.and_eq_true,decide_eq_true_eq] at this
    rcases this with h|⟨h1,h2⟩
    · omega
    · refine⟨fun e he=>List.all_eq_true.1 h1 e he,fun i hi hij=>?_⟩
      have:=List.all_eq_true.1 h2 i (List.mem_range.2 hij)
      simp only[Bool.or_eq_true,decide_eq_true_eq] at this
      rcases this with h|h
      · omega
      · exact h
  intro κ M0 a w hs
  obtain⟨hback,hpairs,_⟩:=a4p hlex
  obtain⟨t,mk,hsp,hlen,hro,hfb,hdis,_,hjj,hK,hmem⟩:=a9j l es B _ (l.take m) 0 [] env B hds' (fun x hx=>hx) (h (fun e b=>Q .normal ⟨e,b⟩) (fun _ _ k=>k))
  rw[htl] at hlen hjj hK
  obtain⟨Bs,hB0,hBop,hBsub,hQB⟩:=b0Q l B _ (l.drop m) _ _ (fun x hx=>a07.2 (.inl hx)) htail hK
  rw[hdl] at hBsub hQB
  have henv:∀ (t':Nat→T),(∀ i,i<m→t' i=t i)→∀ i,i≤m→a1g l t' (fun _=>true) env i=a1g (l.take m) t (fun _=>true) env i:=by
    intro t' ht i
    induction i with
    |zero=>intro _;rfl
    |succ i ih=>
     intro hi
     rw[a1g,a1g,ih (by omega),ht i (by omega),List.getElem?_take_of_lt (by omega)]
  refine wp_region_any hm ?_
  have hsz:l.toArray.size=l.length:=by simp
  rw[hsz]
  have hrep:∀ j,(Array.replicate l.length false).getD j false=false:=fun j=>a23 _ j
  have hxs:∀ j,xs (Array.replicate l.length false) j=false:=fun j=>a23 _ j
  let t':Nat→T:=fun i=>if i<m then t i else a0F
  have ht':∀ i,i<m→t' i=t i:=fun i hi=>by simp[t',hi]
  have htm:∀ i,m≤i→t' i=a0F:=fun i hi=>by simp[t',Nat.not_lt.2 hi]
  have hmkd:∀ i j p,mk i=some p→m≤j→j<l.length→a7K l j i=true:=by
    intro i j p hp hj hjl
    have:=hmem i p hp
    rw[Nat.zero_add] at this
    exact(hdp j hj hjl).1 i (b5b this)
  have hend:∀ i,m≤i→i≤l.length→a1g l t' (fun _=>true) env i=a1g (l.take m) t (fun _=>true) env m:=by
    intro i
    induction i with
    |zero=>intro hi _;have:m=0:=by omega
           subst this;rfl
    |succ i ih=>
     intro hi hil
     by_cases he:m=i+1
     · subst he;exact henv t' ht' _ (Nat.le_refl _)
     · rw[← ih (by omega) (by omega),a1g]
       obtain⟨o,ho⟩:∃ o,l[i]?= some o:=⟨l[i]'(by omega),by rw[List.getElem?_eq_getElem]⟩
       simp only[cond_true,ho,Option.bind_some,(hdstm i o (by omega) ho).1]
       rfl
  refine b39 (n:=n) (κ:=κ) (M0:=M0) (t:=t') (mk:=mk) (B0:=B) (env0:=env) (m:=m) hback hpairs ⟨hdis,fun i p hp x hx=>(Bx.fresh_spec (j:=x.1) (r:=x.2) (hfb i p hp) hx).1⟩ hro hlen hlt Bs hdstm htm hmkd (fun i j hi hij hj=>(hdp j (by omega) hj).2 i hi hij) hBsub hB0 ?_ ?_ ?_ (fun a w s=>?_) l.length _ a _ ?_ ?_
  · intro i o hi ho
    rw[henv t' ht' m (Nat.le_refl _)]
    exact hBop (i-m) o (hdropAt i o hi ho)
  · intro i o hi ho
    rw[henv t' ht' i (by omega),ht' i hi]
    exact hsp i o (by rw[List.getElem?_take_of_lt hi];exact ho)
  · intro g k p hg hgk hk
    by_cases hkm:k<m
    · rw[ht' k hkm]
      have:=hjj g k p hg hgk hkm;simpa using this
    · left
      rw[htm k (by omega)];rfl
  · rw[hend l.length (by omega) (Nat.le_refl _)] at s
    exact⟨_,s,hQB⟩
  · unfold cnt
    have hfil:(List.range l.length).filter (fun i=>!(Array.replicate l.length false).getD i false)=List.range l.length:=by
      rw[List.filter_eq_self]
      intro x _
      simp only[hrep x,Bool.not_false]
    rw[hfil,List.length_range]
  · have hst:=a5u (σ:=⟨env,B⟩) (l:=l) (t:=t') (b:=fun _=>B) (e:=fun _=>false) rfl hs
    obtain⟨M,ν,_,h1,h2,h3,h4,_,_,h7,h8⟩:=hst.st
    have hbx:∀ q,bxX mk B (xs (Array.replicate l.length false)) q=B:=by
      intro q
      induction q with
      |zero=>rfl
      |succ q ih=>unfold bxX;rw[hxs q];simp only[ih]
    exact⟨hst.size,hst.closed,M,ν,h1,h2,h3,h4,by unfold bxT;rw[hxs m,cond_false,hbx];exact h7,h8⟩
end Go.Sx
namespace Go.Proofs.YthbcdhfiibpeaaaGreat
open Go Go.Sx
theorem b4a {a b:Int}:a1y a b=0↔a=0∧b=0:=by
  unfold a1y
  by_cases h:a=0<;>simp[h]
def b7x:TyD:=([a0G 2],0)
def a5q (ts:List TyD):TyD:=bif decide ((ts.length:Int)=0) then b7x else a1T 17 ts
def b7r (t:TyD):TyD:=a1T 18 [t]
def b2N (s t:TyD):TyD:=a5q [s,b7r t]
def b7y (ts:List TyD):TyD:=bif decide ((4:Int)<(ts.length:Int)) then a7w else a1T 10 ts
def a9k (a b:TyD):TyD:=a1T 12 [a,b]
theorem c7Q:PC Tryz.prog 57 [] (Yp b7x):=by
  refine PCB.of_body Tryz.func57 rfl (by decide) Tryz.ntmps57 Tryz.results57 rfl rfl rfl ?_ rfl rfl
  repeat'(first|(simp only[go_sem,zA,zB,zC,zD,zE,zF,zG,reduceCtorEq,zH,zI,zJ,zK,zL];all_goals fail_if_success guard_target=ₛ False)|(with_reducible first|((first|refine yA rfl ?_|refine yS ?_|refine yT (by kernel_rfl) ?_);intro K hK)|(apply hK;clear hK K)|refine yU ?_|(refine yV (by with_unfolding_all rfl) ?_ ?_<;>intro h<;>(try simp only[zM,zN] at h)<;>try exact absurd h (by decide))|refine yW ?_|refine yX ?_|refine yY ?_|refine⟨_,b5B 2,?_⟩|refine Or.inl ?_)|(clear hK K))
  all_goals(refine a0m ?_;rfl)
theorem c7R:PC Tryz.prog 57 [] (.st [.sl 8 ([a0G 2].map a0c), .int .i64 0]):=c7Q
theorem c3l (ts:List TyD) {B:Nat} (hts:TyS B ts):PC Tryz.prog 19 [Tys ts] (Yp (a5q ts)):=by
 unfold a5q
 cases h:decide ((ts.length:Int)=0)
 all_goals
  refine PCB.of_body Tryz.func19 rfl (by decide) Tryz.ntmps19 Tryz.results19 rfl rfl rfl ?_ rfl rfl
  repeat'(first|(simp only[go_sem,zA,zB,zC,zD,zE,zF,zG,reduceCtorEq,zH,zI,zJ,zK,zL,List.length_map,h];all_goals fail_if_success guard_target=ₛ False)|(with_reducible first|((first|refine yA rfl ?_|refine yS ?_|refine yT (by kernel_rfl) ?_);intro K hK)|(apply hK;clear hK K)|refine yU ?_|(refine yV (by with_unfolding_all rfl) ?_ ?_<;>intro h<;>(try simp only[zM,zN] at h)<;>try exact absurd h (by decide))|refine yW ?_|refine yX ?_|refine yY ?_|refine⟨_,c7R,?_⟩|refine⟨_,b8W 17 ts hts,?_⟩|refine Or.inl ?_)|(clear hK K))
  all_goals(refine a0m ?_;rfl)
theorem c3m (ts:List TyD) {B:Nat} (hts:TyS B ts):PC Tryz.prog 36 [Tys ts] (Yp (b7y ts)):=by
 unfold b7y
 cases h:decide ((4:Int)<(ts.length:Int))
 all_goals
  refine PCB.of_body Tryz.func36 rfl (by decide) Tryz.ntmps36 Tryz.results36 rfl rfl rfl ?_ rfl rfl
  repeat'(first|(simp only[go_sem,zA,zB,zC,zD,zE,zF,zG,reduceCtorEq,zH,zI,zJ,zK,zL,List.length_map,h];all_goals fail_if_success guard_target=ₛ False)|(with_reducible first|((first|refine yA rfl ?_|refine yS ?_|refine yT (by kernel_rfl) ?_);intro K hK)|(apply hK;clear hK K)|refine yU ?_|(refine yV (by with_unfolding_all rfl) ?_ ?_<;>intro h<;>(try simp only[zM,zN] at h)<;>try exact absurd h (by decide))|refine yW ?_|refine yX ?_|refine yY ?_|refine⟨_,b5M,?_⟩|refine⟨_,b8W 10 ts hts,?_⟩|refine Or.inl ?_)|(clear hK K))
  all_goals(refine a0m ?_;rfl)
theorem c3n (k:Int) (a:TyD) {B:Nat} (hts:TyS B [a]):PC Tryz.prog 53 [I .i64 k, .one (.dat (.sl 2 [[.sl 8 (a.1.map a0c), .int .i64 a.2]]))] (.st [.sl 8 ((overV k [a]).map a0c), .int .i64 0]):=b8V k [a] hts
theorem c3o (k:Int) (a b:TyD) {B:Nat} (hts:TyS B [a,b]):PC Tryz.prog 53 [I .i64 k, .one (.dat (.sl 2 [[.sl 8 (a.1.map a0c), .int .i64 a.2],[.sl 8 (b.1.map a0c), .int .i64 b.2]]))] (.st [.sl 8 ((overV k [a,b]).map a0c), .int .i64 0]):=b8V k [a,b] hts
theorem c7S (a:TyD) {B:Nat} (hts:TyS B [a]):PC Tryz.prog 20 [Yp a] (Yp (b7r a)):=by
  refine PCB.of_body Tryz.func20 rfl (by decide) Tryz.ntmps20 Tryz.results20 rfl rfl rfl ?_ rfl rfl
  repeat'(first|(simp only[go_sem,zA,zB,zC,zD,zE,zF,zG,reduceCtorEq,zH,zI,zJ,zK,zL,a1N];all_goals fail_if_success guard_target=ₛ False)|(with_reducible first|((first|refine yA rfl ?_|refine yS ?_|refine yT (by kernel_rfl) ?_);intro K hK)|(apply hK;clear hK K)|refine yU ?_|(refine yV (by with_unfolding_all rfl) ?_ ?_<;>intro h<;>(try simp only[zM,zN] at h)<;>try exact absurd h (by decide))|refine yW ?_|refine yX ?_|refine yY ?_|refine⟨_,c3n 18 a hts,?_⟩|refine Or.inl ?_)|(clear hK K))
  all_goals(refine a0m ?_;rfl)
theorem c53 (a b:TyD) {B:Nat} (hts:TyS B [a,b]):PC Tryz.prog 37 [Yp a,Yp b] (Yp (a9k a b)):=by
  refine PCB.of_body Tryz.func37 rfl (by decide) Tryz.ntmps37 Tryz.results37 rfl rfl rfl ?_ rfl rfl
  repeat'(first|(simp only[go_sem,zA,zB,zC,zD,zE,zF,zG,reduceCtorEq,zH,zI,zJ,zK,zL,a1N];all_goals fail_if_success guard_target=ₛ False)|(with_reducible first|((first|refine yA rfl ?_|refine yS ?_|refine yT (by kernel_rfl) ?_);intro K hK)|(apply hK;clear hK K)|refine yU ?_|(refine yV (by with_unfolding_all rfl) ?_ ?_<;>intro h<;>(try simp only[zM,zN] at h)<;>try exact absurd h (by decide))|refine yW ?_|refine yX ?_|refine yY ?_|refine⟨_,c3o 12 a b hts,?_⟩|refine Or.inl ?_)|(clear hK K))
  all_goals(refine a0m ?_;rfl)
theorem c7T (a:TyD) {B:Nat} (hts:TyS B [a]):PC Tryz.prog 20 [.st [.sl 8 (a.1.map a0c), .int .i64 a.2]] (.st [.sl 8 ((b7r a).1.map a0c), .int .i64 (b7r a).2]):=c7S a hts
theorem c0j (a b:TyD) {B:Nat} (hts:TyS B [a,b]):PC Tryz.prog 19 [.one (.dat (.sl 2 [[.sl 8 (a.1.map a0c), .int .i64 a.2],[.sl 8 (b.1.map a0c), .int .i64 b.2]]))] (Yp (a5q [a,b])):=c3l [a,b] hts
theorem c54 (a b:TyD) {B B2:Nat} (hb:TyS B [b]) (hts:TyS B2 [a,b7r b]):PC Tryz.prog 21 [Yp a,Yp b] (Yp (b2N a b)):=by
  refine PCB.of_body Tryz.func21 rfl (by decide) Tryz.ntmps21 Tryz.results21 rfl rfl rfl ?_ rfl rfl
  repeat'(first|(simp only[go_sem,zA,zB,zC,zD,zE,zF,zG,reduceCtorEq,zH,zI,zJ,zK,zL,a1N];all_goals fail_if_success guard_target=ₛ False)|(with_reducible first|((first|refine yA rfl ?_|refine yS ?_|refine yT (by kernel_rfl) ?_|refine b0e rfl ?_|refine a8K rfl ?_|refine b0t rfl ?_);intro K hK)|(apply hK;clear hK K)|refine yU ?_|(refine yV (by with_unfolding_all rfl) ?_ ?_<;>intro h<;>(try simp only[zM,zN] at h)<;>try exact absurd h (by decide))|refine yW ?_|refine yX ?_|refine yY ?_|refine⟨_,c7T b hb,?_⟩|refine⟨_,c0j a (b7r b) hts,?_⟩|(refine AWP.segP (id:=1) 5 mixed (by kernel_rfl) fun K hK=>?_;simp only[List.take_succ_cons,List.take_zero,List.drop_succ_cons,List.drop_zero])|refine AWP.parR mixed (by kernel_rfl) fun K hK=>?_|refine⟨(by kernel_rfl:a7K _ _ _=true),?_⟩|refine Or.inl ?_)|(clear hK K))
  all_goals(refine a0m ?_;rfl)
end Go.Proofs.YthbcdhfiibpeaaaGreat
namespace Go.Proofs.YthbcdhfiibpeaaaGreat
open Go Go.Sx
theorem b7z {a b:KeyD}:a4s a b=0↔a=b:=by
  unfold a4s
  rw[b4a,a69,a4r]
  cases a;cases b;simp
end Go.Proofs.YthbcdhfiibpeaaaGreat
namespace Go.Proofs.YthbcdhfiibpeaaaGreat
open Go Go.Sx
theorem b2O {f:Src→Val×Src} {p:Val→Prop} (hf:∀ s:Src,p (f s).1):∀ (n:Nat) (s:Src),∀ x∈(a1W f n s).1.2,p x
 |0,s,x,h=>by simp[a1W] at h
 |n+1,s,x,h=>by
  simp only[a1W,List.mem_cons] at h
  rcases h with rfl|h
  ·exact hf _
  ·exact b2O hf n _ x h
theorem a6X (a b:Int):a3V b a= - a3V a b:=by
 unfold a3V
 rcases Int.lt_trichotomy a b with h|h|h
 ·have h1:¬ b<a:=by omega
  simp[h,h1]
 ·subst h;simp
 ·have h1:¬ a<b:=by omega
  simp[h,h1]
theorem a5r:∀ a b:List UInt8,Lib.compareBytes b a= - Lib.compareBytes a b
 |[],[]=>by simp[Lib.compareBytes]
 |[],_::_=>by simp[Lib.compareBytes]
 |_::_,[]=>by simp[Lib.compareBytes]
 |x::a,y::b=>by
  have ih:=a5r a b
  simp only[Lib.compareBytes]
  by_cases h1:x<y
  ·have h2:¬ y<x:=fun h=>absurd (UInt8.lt_trans h1 h) (UInt8.lt_irrefl x)
   simp[h1,h2]
  ·by_cases h2:y<x
   ·simp[h1,h2]
   ·simp[h1,h2,ih]
theorem b2P (a b:KeyD):a4s b a= - a4s a b:=by
  unfold a4s a1y
  rw[a6X a.kind b.kind,a5r a.text b.text]
  have:decide (-a3V a.kind b.kind=0)=decide (a3V a.kind b.kind=0):=by rw[← Bool.coe_iff_coe];simp
  rw[this]
  cases decide (a3V a.kind b.kind=0)<;>rfl
theorem a6Y {α:Type} (f:α→α→Int) (x:α) (l:List α):a8A f (x::l)=((match l with|[]=>true|y::_=>decide (f x y<0))&&a8A f l):=by
  cases l<;>rfl
theorem b1L {α:Type} (f:α→α→Int) (x:α):∀ l:List α,a8A f l=true→(∀ y,l[tw (fun y=>decide (f y x<0)) l]?= some y→f x y<0)→a8A f (a1L (tw (fun y=>decide (f y x<0)) l) x l)=true
 |[],_,_=>rfl
 |y::l,ha,hx=>by
  rw[a6Y] at ha
  simp only[Bool.and_eq_true] at ha
  unfold tw at hx ⊢
  cases hy:decide (f y x<0) with
  |false=>
   simp only[hy,cond_false,List.getElem?_cons_zero,Option.some.injEq,forall_eq'] at hx ⊢
   show a8A f (x::y::l)=true
   rw[a6Y,a6Y]
   simp only[hx,decide_true,Bool.true_and,Bool.and_eq_true]
   exact ha
  |true=>
   simp only[hy,cond_true] at hx ⊢
   rw[Nat.add_comm] at hx ⊢
   simp only[List.getElem?_cons_succ] at hx
   have ih:=b1L f x l ha.2 hx
   show a8A f (y::a1L (tw (fun y=>decide (f y x<0)) l) x l)=true
   rw[a6Y,ih,Bool.and_true]
   have hyx:f y x<0:=of_decide_eq_true hy
   cases l with
   |nil=>exact hy
   |cons z l=>
    unfold tw
    cases hz:decide (f z x<0) with
    |false=>exact hy
    |true=>
     simp only[cond_true]
     rw[Nat.add_comm]
     exact ha.1
theorem b4b {α:Type} (p:α→Bool):∀ l:List α,tw p (l.drop (tw p l))=0
 |[]=>rfl
 |z::l=>by
  have ih:=b4b p l
  cases hz:p z with
  |true=>
   rw[show tw p (z::l)=tw p l+1 from by show (bif p z then 1+tw p l else 0)=_;rw[hz,Nat.add_comm];rfl]
   exact ih
  |false=>
   rw[show tw p (z::l)=0 from by show (bif p z then 1+tw p l else 0)=_;rw[hz];rfl]
   show (bif p z then 1+tw p l else 0)=0
   rw[hz];rfl
theorem c0k (r:Val×Src):(lab r).1.kind=r.1.kind:=rfl
theorem a6Z {α:Type} (p:α→Bool) (k:Nat) (x:α) (l:List α):(a1L k x l).all p=(p x&&l.all p):=by
  have h:l.all p=((l.take k).all p&&(l.drop k).all p):=by rw[← List.all_append,List.take_append_drop]
  unfold a1L
  rw[h]
  simp only[List.all_append,List.all_cons,List.all_nil,Bool.and_true]
  cases (l.take k).all p<;>cases (l.drop k).all p<;>cases p x<;>rfl
theorem b5c:∀ (r:List (KeyD×Val)) (ks:List KeyD) (vs:List Val),ks.length=vs.length→a8A a4s ks=true→ks.all a0s=true→(r.map (·.1)).all a0s=true→
  (a6w r ks vs).2=0→∃ ks' vs',(a6w r ks vs).1=b1k ks' vs'∧ks'.length=vs'.length∧a8A a4s ks'=true∧ks'.all a0s=true∧∀ p:Val→Bool,vs'.all p=(vs.all p&&(r.map (·.2)).all p)
 |[],ks,vs,hl,ha,hv,_,_=>⟨ks,vs,by rw[a6w],hl,ha,hv,fun p=>by simp⟩
 |(x,v)::r,ks,vs,hl,ha,hv,hr,h0=>by
  rw[a6w] at h0 ⊢
  simp only[List.map_cons,List.all_cons,Bool.and_eq_true] at hr
  cases hd:decide (ks[b6N ks x]?= some x) with
  |true=>rw[hd] at h0;simp at h0
  |false=>
   rw[hd] at h0
   simp only[cond_false] at h0 ⊢
   have hne:=of_decide_eq_false hd
   have ha':a8A a4s (a1L (b6N ks x) x ks)=true:=by
    refine b1L a4s x ks ha ?_
    intro y hy
    have hyx:¬ a4s y x<0:=by
     intro hlt
     have h1:=a9T (p:=fun y=>decide (a4s y x<0)) (k:=tw (fun y=>decide (a4s y x<0)) ks) hy
     rw[decide_eq_true hlt] at h1
     have h2:=b4b (fun y=>decide (a4s y x<0))
     rw[h2] at h1
     simp only[cond_true] at h1
     omega
    have hz:a4s y x≠0:=by
     intro h
     have:=b7z.1 h
     subst this
     exact hne hy
    have:=b2P y x
    omega
   obtain⟨ks',vs',e,h1,h2,h3,h4⟩:=b5c r (a1L (b6N ks x) x ks) (a1L (b6N ks x) v vs) (by rw[a13,a13,hl]) ha' (by rw[a6Z,hr.1,hv];rfl) hr.2 h0
   refine⟨ks',vs',e,h1,h2,h3,fun p=>?_⟩
   rw[h4 p,a6Z]
   simp only[List.map_cons,List.all_cons]
   cases p v<;>cases vs.all p<;>rfl
end Go.Proofs.YthbcdhfiibpeaaaGreat
namespace Go.Sx
open Go.RowKit Go.ChangeShapes Go.WideShapes
variable {P:Program}
section
variable {H:Type} {enc:TypeId×Value→H} {w:World} {base:Nat} {spare:Nat→Bool} {held:Bool} {β:DataW H→Nat}
end
theorem b5d {n:Nat} {t:TypeId} {row:List C} {fs:Array Field} (hu:P.underlying t=some (.struct fs)) (h:a6t P n t row):
  ∃ (m:Nat) (parts:List (List C)),n=m+1∧row=parts.flatten∧parts.length=fs.size∧∀ (i:Nat) (f:Field) (p:List C),fs[i]?= some f→parts[i]?= some p→a6t P m f.type p:=by
 cases n with
 |zero=>exact h.elim
 |succ n=>
  simp only[a6t,hu] at h
  obtain⟨parts,h1,h2,h3⟩:=h
  exact⟨n,parts,rfl,h1,h2,h3⟩
theorem b6j {n:Nat} {t:TypeId} {row:List C} (hu:P.underlying t=some .string) (h:a6t P n t row):∃ s:List UInt8,row=[.str s]:=by
  obtain⟨m,e,_⟩:=b3P hu h
  exact⟨m,e⟩
theorem b7A {α:Type} {enc:α→List C} {n:Nat} {t e:TypeId} {row:List C} {sz:Nat} (hu:P.underlying t=some (.slice e)) (hsz:P.cellsOf e=sz) (f:∀ row,a6t P (n-1) e row→∃ a,row=enc a) (h:a6t P n t row):
  ∃ l:List α,row=[.sl sz (l.map enc)]:=by
 obtain⟨l,e1,_⟩:=b58 (p:=fun _=>True) hu hsz (fun row h=>by obtain⟨a,e⟩:=f row h;exact⟨a,e,trivial⟩) h
 exact⟨l,e1⟩
theorem c55 {n:Nat} {t:TypeId} {row:List C} (ha:a1w P t=some true):c0i P t row= .st row:=by simp only[c0i,ha];rfl
end Go.Sx
namespace Go.Proofs.YthbcdhfiibpeaaaGreat
open Go Go.Sx
theorem c3p {k:Int} {ts:List TyD} (hb:(overV k ts).length≤10000000) (v:Val):(ovS k ts).2.all (a4k (overV k ts) v)=ts.all (a1q v):=by
  have:=a5S (k:=k) hb v
  have e:∀ {α:Type} (f:α→Bool) (l:List α),l.all f=(l.map f).all id:=fun f l=>by rw[List.all_map];rfl
  rw[e,this,← e]
theorem b5e {t:TyD} (h:TSm t.1):TSm (a0x t.1 t.2):=a7n h _
theorem b2Q {k:Int} {ts:List TyD} {B:Nat} (h:TyS B ts):TSm (overV k ts):=by
 have hs:=b42 (k:=k) h
 have ha:=h.all
 have hb:=a2w (k:=k) h
 have hlen:ts.length≤900000∨ts=[]:=by
  rcases Nat.eq_zero_or_pos B with hB|hB
  ·right
   cases ts with
   |nil=>rfl
   |cons t ts=>have:=(h.one t List.mem_cons_self).2;omega
  ·left;exact Nat.le_trans (Nat.le_mul_of_pos_right _ hB) ha
 have key:∀ x∈overV k ts,x.kids.length≤1000000∧x.fields.length≤1000000:=by
  intro x hx
  obtain⟨j,hj⟩:=List.getElem?_of_mem hx
  have hjl:=(List.getElem?_eq_some_iff.1 hj).1
  rcases a6R k ts j hjl with rfl|⟨a,t,c,ht,rfl,hc⟩
  ·rw[a6m] at hj
   have e:=Option.some.inj hj
   subst e
   refine⟨?_,Nat.zero_le _⟩
   show (ovS k ts).2.length≤_
   rw[a6Q]
   rcases hlen with h'|h'
   ·omega
   ·rw[h'];simp
  ·have hE:=b1t (k:=k) ht hb
   rw[hE.at_ c hc,List.getElem?_eq_getElem hc] at hj
   have e:=Option.some.inj hj
   have hts:=b5e (h.one t (List.mem_of_getElem? ht)).1
   rw[← e]
   simp only[upN,List.length_map]
   exact⟨hts.kids _ (List.getElem_mem hc),hts.fields _ (List.getElem_mem hc)⟩
 exact⟨by omega,fun x hx=>(key x hx).1,fun x hx=>(key x hx).2⟩
theorem b7B:wfP b7x.1 0=0:=by decide
theorem c0l (v:Val):a1q v b7x=true:=by
  unfold b7x
  rw[a2X (show wfP [a0G 2] 0=0 from b7B)]
  obtain⟨R,hR⟩:=Wf.of (show wfP [a0G 2] 0=0 from b7B)
  rw[a2s hR (by decide)];rfl
theorem c0m {ts:List TyD} {B:Nat} (h:TyS B ts):wfP (a5q ts).1 (a5q ts).2=0:=by
  unfold a5q
  cases hc:decide ((ts.length:Int)=0) with
  |true=>exact b7B
  |false=>rw[decide_eq_false_iff_not] at hc;exact a3b (a9e (.inr rfl) (by omega)) (a2w h)
theorem b6k {ts:List TyD} {B:Nat} (h:TyS B ts) (v:Val):a1q v (a5q ts)=ts.all (a1q v):=by
 unfold a5q
 cases hc:decide ((ts.length:Int)=0) with
 |true=>
  have:ts=[]:=List.length_eq_zero_iff.1 (by have:=of_decide_eq_true hc;omega)
  rw[cond_true,c0l,this];rfl
 |false=>
  rw[decide_eq_false_iff_not] at hc
  have hk:=a9e (k:=17) (n:=ts.length) (.inr rfl) (by omega)
  rw[cond_false,a1T,a2X (a3b hk (a2w h)),a4H hk (a2w h),← c3p (k:=17) (a2w h)];rfl
theorem c0n {t:TyD} {B:Nat} (h:TyS B [t]) (v:Val):a1q v (b7r t)=!a1q v t:=by
 have hk:ovK 18 [t].length=true:=by show ovK 18 1=true;decide
 unfold b7r
 rw[a1T,a2X (a3b hk (a2w h)),a4H hk (a2w h)]
 have hm:=a5S (k:=18) (a2w h) v
 cases hks:(ovS 18 [t]).2 with
 |nil=>rw[hks] at hm;cases hm
 |cons e es=>
  rw[hks] at hm
  simp only[List.map_cons,List.map_nil,List.cons.injEq] at hm
  rw[← hm.1];rfl
theorem a9l {s t:TyD} {B:Nat} (hs:TSm s.1) (ht:TSm t.1) (hls:s.1.length<B) (hlt:t.1.length<B) (hB:B≤450000):TyS B [s,t]:=⟨fun u hu=>by
  simp only[List.mem_cons,List.not_mem_nil,or_false] at hu
  rcases hu with rfl|rfl
  · exact⟨hs,hls⟩
  · exact⟨ht,hlt⟩,by simp only[List.length_cons,List.length_nil];omega⟩
theorem c3q {s t:TyD} {B:Nat} (h:TyS B [s,b7r t]):wfP (b2N s t).1 (b2N s t).2=0:=c0m h
theorem b7C {s t:TyD} {B B2:Nat} (h1:TyS B [t]) (h:TyS B2 [s,b7r t]) (v:Val):a1q v (b2N s t)=(a1q v s&&!a1q v t):=by
  unfold b2N
  rw[b6k h,List.all_cons,List.all_cons,List.all_nil,c0n h1,Bool.and_true]
end Go.Proofs.YthbcdhfiibpeaaaGreat

