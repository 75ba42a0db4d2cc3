/- Lemmas of the proof. -/
import Derived.Test.YthbcdhfiibpeaaaGreatTm23
import Derived.Test.YthbcdhfiibpeaaaGreatTm24
import Derived.Test.YthbcdhfiibpeaaaGreatTm25
import Derived.Test.YthbcdhfiibpeaaaGreatTm26
import Derived.Test.YthbcdhfiibpeaaaGreatTm27
open List renaming length_map→lB
open Nat renaming reduceBEq→zA,reduceBNe→zB,reduceAdd→zC,reduceSub→zD,reduceMul→zE,reduceLeDiff→zF,reduceLT→zG,reduceEqDiff→zH
open Int renaming reduceToNat→zI,reduceLE→zJ,reduceLT→zK,reduceEq→zL
open Bool renaming not_eq_true'→zM,not_eq_false'→zN
set_option linter.unusedSimpArgs false
set_option linter.unusedVariables false
set_option maxRecDepth 20000
set_option maxHeartbeats 64000000
namespace Go.Proofs.YthbcdhfiibpeaaaGreat
open Go Go.Sx
theorem c6M (v:Val):PC Tryz.prog 88 [.st (a0g v)] (Bo (a0P v)):=by
  rcases c71 v.kind with h|h|h|h|h|h|h|h|h|h
  · exact c6C v h
  · exact c6D v h
  · exact c6E v h
  · exact c6J v h
  · exact c6K v h
  · exact c6L v h
  · exact c6F v h
  · exact c6H v h
  · exact c6I v h
  · exact c6G v h
theorem a3A {v p:Val} (h:p∈v.kids):a1V p<a1V v:=a9O (List.mem_append_left _ h)
theorem b2g {v p:Val} {e:List Val×Bool×Val} (he:e∈v.ents) (h:p∈e.1):a1V p<a1V v:=by
  have h1:=a4X v;have h2:=a71 he;have h3:=b2c e;have h4:=a6b h;omega
theorem b2h {v:Val} {e:List Val×Bool×Val} (he:e∈v.ents):a1V e.2.2<a1V v:=by
  have h1:=a4X v;have h2:=a71 he;have h3:=b2c e;omega
theorem a9U (v:Val):PC Tryz.prog 51 [.st (a0g v)] (Bo (a0C v)):=by
 have ihk:∀ p∈v.kids,PC Tryz.prog 51 [.st (a0g p)] (Bo (a0C p)):=fun p hp=>a9U p
 have iha:∀ e∈v.ents,∀ p∈e.1,PC Tryz.prog 51 [.st (a0g p)] (Bo (a0C p)):=fun e he p hp=>a9U p
 have ihr:∀ e∈v.ents,PC Tryz.prog 51 [.st (a0g e.2.2)] (Bo (a0C e.2.2)):=fun e he=>a9U e.2.2
 have hn:=c6M v
 rw[a0a] at hn
 rw[a1p]
 refine PCB.ob Tryz.func51 Tryz.ntmps51 Tryz.results51 ?_
 cases hz:a0P v
 ·
  repeat'(first|(simp only[go_sem,zA,zB,zC,zD,zE,zF,zG,reduceCtorEq,zH,zI,zJ,zK,zL,hz,a0a v];all_goals refine nf ?_)|(refine stp ?_;intro K hK)|(apply hK;clear hK K)|refine stn ?_|(with_reducible refine⟨_,hn,?_⟩)|refine stq ?_|(clear hK K))
  all_goals(first|exact lf|(refine a0m ?_;simp only[hz,zb,cond_true,cond_false,decide_true,decide_false]<;>rfl))
 repeat'(first|(simp only[go_sem,zA,zB,zC,zD,zE,zF,zG,reduceCtorEq,zH,zI,zJ,zK,zL,hz,a0a v,lB];all_goals refine nf ?_)|(refine stp ?_;intro K hK)|(apply hK;clear hK K)|refine stn ?_|(with_reducible refine⟨_,hn,?_⟩)|refine stq ?_|fail)
 refine AWP.lenB 1 3 rfl rfl fun hlen0=>?_
 (try rw[lB] at hlen0)
 refine AWP.range (S:=Unit) (v.kids) a0g (fun k s=>(3,I .i64 (k:Nat))::[]) (fun k s=>[]) [1] [1] (fun k s=>v.kids.all a0C=(v.kids.drop k).all a0C) (()) (by simp only[go_sem,zA,zB,zC,zD,zE,zF,zG,reduceCtorEq,zH,zI,zJ,zK,zL,a0a];exact Gh.tt []) ?_ ?_ ?_
 ·rfl
 ·intro k s x hlt hx hx' hb hok
  refine sts ?_
  have hix:=ihk x (List.mem_of_getElem? hx)
  rw[a37 hx] at hok
  cases hy:a0C x<;>simp only[hy,Bool.true_and,Bool.false_and] at hok
  ·
   repeat'(first|(simp only[go_sem,zA,zB,zC,zD,zE,zF,zG,reduceCtorEq,zH,zI,zJ,zK,zL,a0a v,lB,hb,hy];all_goals refine nf ?_)|(refine stp ?_;intro K hK)|(apply hK;clear hK K)|refine stn ?_|(with_reducible first|refine⟨_,hix,?_⟩|refine⟨by omega,a0g x,hx',?_⟩)|refine stq ?_|(clear hK K))
   all_goals(first|exact lf|(refine a0m ?_;simp only[hok,hz,zb,cond_true,cond_false,decide_true,decide_false]<;>rfl))
  ·
   repeat'(first|(simp only[go_sem,zA,zB,zC,zD,zE,zF,zG,reduceCtorEq,zH,zI,zJ,zK,zL,a0a v,lB,hb,hy];all_goals refine nf ?_)|(refine stp ?_;intro K hK)|(apply hK;clear hK K)|refine stn ?_|(with_reducible first|refine⟨_,hix,?_⟩|refine⟨by omega,a0g x,hx',?_⟩)|refine stq ?_|(clear hK K))
   all_goals(rw[a0d hlt hlen0])
   all_goals(refine⟨(),?_,Gh.tt []⟩)
   all_goals exact hok
 intro s0 hb0 hok0
 refine sts ?_
 rw[a5F] at hok0
 repeat'(first|(simp only[go_sem,zA,zB,zC,zD,zE,zF,zG,reduceCtorEq,zH,zI,zJ,zK,zL,a0a v,lB,hb0];all_goals refine nf ?_)|(refine stp ?_;intro K hK)|(apply hK;clear hK K)|refine stn ?_|(clear hK K))
 refine AWP.lenB 1 5 rfl rfl fun hlen1=>?_
 (try rw[lB] at hlen1)
 refine AWP.range (S:=Unit) (v.ents) a0l (fun k s=>(4,I .i64 (k:Nat))::[]) (fun k s=>[]) [1] [1] (fun k s=>v.ents.all a7k=(v.ents.drop k).all a7k) (()) (by simp only[go_sem,zA,zB,zC,zD,zE,zF,zG,reduceCtorEq,zH,zI,zJ,zK,zL,a0a];exact Gh.tt []) ?_ ?_ ?_
 ·rfl
 ·intro k s x hlt hx hx' hb hok
  refine sts ?_
  rw[a37 hx] at hok
  have hem:=List.mem_of_getElem? hx
  have hia:=iha x hem
  have hir:=ihr x hem
  rw[a0a] at hir
  repeat'(first|(simp only[go_sem,zA,zB,zC,zD,zE,zF,zG,reduceCtorEq,zH,zI,zJ,zK,zL,a0a v,a0H,lB,hb];all_goals refine nf ?_)|(refine stp ?_;intro K hK)|(apply hK;clear hK K)|refine stn ?_|(with_reducible refine⟨by omega,a0l x,hx',?_⟩)|fail)
  refine AWP.lenB 5 0 rfl rfl fun hlen2=>?_
  (try rw[lB] at hlen2)
  refine AWP.range (S:=Unit) (x.1) a0g (fun k s=>(6,I .i64 (k:Nat))::[]) (fun k s=>[]) [1,4,5] [1,5] (fun k s=>x.1.all a0C=(x.1.drop k).all a0C) (()) (by simp only[go_sem,zA,zB,zC,zD,zE,zF,zG,reduceCtorEq,zH,zI,zJ,zK,zL,a0a,a0H];exact Gh.tt []) ?_ ?_ ?_
  ·rfl
  ·intro i s y hlti hy hy' hbi hoki
   refine sts ?_
   have hiy:=hia y (List.mem_of_getElem? hy)
   rw[a37 hy] at hoki
   cases hc:a0C y<;>simp only[hc,Bool.true_and,Bool.false_and] at hoki
   ·
    repeat'(first|(simp only[go_sem,zA,zB,zC,zD,zE,zF,zG,reduceCtorEq,zH,zI,zJ,zK,zL,a0a v,a0H,lB,hbi,hc];all_goals refine nf ?_)|(refine stp ?_;intro K hK)|(apply hK;clear hK K)|refine stn ?_|(with_reducible first|refine⟨_,hiy,?_⟩|refine⟨by omega,a0g y,hy',?_⟩)|refine stq ?_|(clear hK K))
    all_goals(first|exact lf|(refine a0m ?_;simp only[hok,hz,hok0,a7k,hoki,zb,cond_true,cond_false,decide_true,decide_false]<;>rfl))
   ·
    repeat'(first|(simp only[go_sem,zA,zB,zC,zD,zE,zF,zG,reduceCtorEq,zH,zI,zJ,zK,zL,a0a v,a0H,lB,hbi,hc];all_goals refine nf ?_)|(refine stp ?_;intro K hK)|(apply hK;clear hK K)|refine stn ?_|(with_reducible first|refine⟨_,hiy,?_⟩|refine⟨by omega,a0g y,hy',?_⟩)|refine stq ?_|(clear hK K))
    all_goals(rw[a0d hlti hlen2])
    all_goals(refine⟨(),?_,Gh.tt []⟩)
    all_goals exact hoki
  intro s2 hb2 hok2
  refine sts ?_
  rw[a5F] at hok2
  cases hf:x.2.1<;>cases hr:a0C x.2.2
  all_goals(simp only[a7k,hok2,hf,hr,Bool.true_and,Bool.false_and,Bool.true_or,Bool.false_or] at hok)
  all_goals
   repeat'(first|(simp only[go_sem,zA,zB,zC,zD,zE,zF,zG,reduceCtorEq,zH,zI,zJ,zK,zL,a0a,a0H,lB,hb2,hf,hr];all_goals refine nf ?_)|(refine stp ?_;intro K hK)|(apply hK;clear hK K)|refine stn ?_|(with_reducible refine⟨_,hir,?_⟩)|refine stq ?_|(clear hK K))
  any_goals (first|exact fun _ h=>absurd h List.not_mem_nil|(refine a0m ?_;simp only[hok,hok0,hz,Bool.and_false,Bool.true_and,Bool.and_true];done))
  all_goals(rw[a0d hlt hlen1])
  all_goals(refine⟨(),?_,Gh.tt []⟩)
  all_goals exact hok
 intro s1 hb1 hok1
 refine sts ?_
 rw[a5F] at hok1
 repeat'(first|(simp only[go_sem,zA,zB,zC,zD,zE,zF,zG,reduceCtorEq,zH,zI,zJ,zK,zL,a0a v,lB,hb1];all_goals refine nf ?_)|(refine stp ?_;intro K hK)|(apply hK;clear hK K)|refine stn ?_|(clear hK K))
 all_goals(first|exact lf|(refine a0m ?_;simp only[hok1,hok0,hz,zb,cond_true,cond_false,decide_true,decide_false]<;>rfl))
termination_by a1V v
decreasing_by
  · exact a3A hp
  · exact b2g he hp
  · exact b2h he
def a3i (x y:KeyD):Bool:=decide (x.kind=y.kind)&&(decide (x.text=y.text)&&true)
@[go_sem] theorem c8D (x y:KeyD):a6v Tryz.prog 6 117 (a0k x) (a0k y)=some (a3i x y):=by kernel_rfl
end Go.Proofs.YthbcdhfiibpeaaaGreat

namespace Go.Proofs.YthbcdhfiibpeaaaGreat
open Go Go.Sx
theorem a82 {α:Type} {p:α→Bool} {l:List α} {k:Nat} {x:α} (hx:l[k]?= some x):(l.drop k).any p=(p x||(l.drop (k+1)).any p):=by
  obtain⟨h1,e1⟩:=List.getElem?_eq_some_iff.1 hx
  rw[List.drop_eq_getElem_cons h1,e1,List.any_cons]
end Go.Proofs.YthbcdhfiibpeaaaGreat
namespace Go.Proofs.YthbcdhfiibpeaaaGreat
open Go Go.Sx
theorem b8w (x y:List UInt8):Op.bytesLess x y=decide (x<y):=Go.Proofs.bytesLess_eq x y
theorem b1f:∀ a b:List (List UInt8),a.Pairwise (· < ·)→b.Pairwise (· < ·)→(∀ x,x∈a↔x∈b)→a=b
 |[],b,_,_,h=>by
  cases b with
  |nil=>rfl
  |cons y b=>have:=(h y).2 (by simp);simp at this
 |x::a,[],_,_,h=>by have:=(h x).1 (by simp);simp at this
 |x::a,y::b,ha,hb,h=>by
  rw[List.pairwise_cons] at ha hb
  have hxy:x=y:=by
   rcases List.mem_cons.1 ((h x).1 (by simp)) with e|h1
   ·exact e
   ·rcases List.mem_cons.1 ((h y).2 (by simp)) with e|h2
    ·exact e.symm
    ·exact absurd (hb.1 x h1) (List.lt_asymm (ha.1 y h2))
  subst hxy
  congr 1
  refine b1f a b ha.2 hb.2 fun z=>⟨fun hz=>?_,fun hz=>?_⟩
  ·rcases List.mem_cons.1 ((h z).1 (List.mem_cons_of_mem _ hz)) with e|hz'
   ·subst e;exact absurd (ha.1 z hz) (List.lt_irrefl z)
   ·exact hz'
  ·rcases List.mem_cons.1 ((h z).2 (List.mem_cons_of_mem _ hz)) with e|hz'
   ·subst e;exact absurd (hb.1 z hz) (List.lt_irrefl z)
   ·exact hz'
theorem c2F {α:Type} (p:α→Bool):∀ l:List α,∀ x∈l.take (tw p l),p x=true
 |[],x,h=>by simp[tw] at h
 |y::l,x,h=>by
  simp only[tw] at h
  cases hp:p y
  ·rw[hp] at h;simp at h
  ·rw[hp,cond_true,Nat.add_comm,List.take_succ_cons] at h
   rcases List.mem_cons.1 h with rfl|h
   ·exact hp
   ·exact c2F p l x h
theorem b8x {α:Type} (p:α→Bool):∀ (l:List α) (y:α),l[tw p l]?= some y→p y=false
 |[],y,h=>by simp at h
 |z::l,y,h=>by
  simp only[tw] at h
  cases hp:p z
  ·rw[hp] at h;simp at h;subst h;exact hp
  ·rw[hp,cond_true,Nat.add_comm,List.getElem?_cons_succ] at h
   exact b8x p l y h
theorem c35 (s:List (List UInt8)) (x z:List UInt8):z∈a8S s x↔z=x∨z∈s:=by
 unfold a8S
 cases h:decide (s[tw (fun y=>Op.bytesLess y x) s]?= some x)<;>simp only[cond_true,cond_false]
 ·unfold a1L
  have:z∈s↔z∈s.take (tw (fun y=>Op.bytesLess y x) s)∨z∈s.drop (tw (fun y=>Op.bytesLess y x) s):=by rw[← List.mem_append,List.take_append_drop]
  rw[List.mem_append,List.mem_append,this]
  simp only[List.mem_singleton]
  constructor
  ·rintro ((h|h)|h)
   ·exact .inr (.inl h)
   ·exact .inl h
   ·exact .inr (.inr h)
  ·rintro (h|h|h)
   ·exact .inl (.inr h)
   ·exact .inl (.inl h)
   ·exact .inr h
 ·have hm:x∈s:=List.mem_of_getElem? (of_decide_eq_true h)
  constructor
  ·exact .inr
  ·rintro (rfl|h)
   ·exact hm
   ·exact h
theorem b6J (s:List (List UInt8)) (x:List UInt8) (hs:s.Pairwise (· < ·)):(a8S s x).Pairwise (· < ·):=by
 unfold a8S
 cases h:decide (s[tw (fun y=>Op.bytesLess y x) s]?= some x)<;>simp only[cond_true,cond_false]
 ·have ht:=c2F (fun y=>Op.bytesLess y x) s
  have hn:=b8x (fun y=>Op.bytesLess y x) s
  generalize tw (fun y=>Op.bytesLess y x) s=k at*
  have hsp:(s.take k++s.drop k).Pairwise (· < ·):=by rw[List.take_append_drop];exact hs
  rw[List.pairwise_append] at hsp
  obtain⟨h1,h2,h3⟩:=hsp
  have hx1:∀ y∈s.take k,y<x:=fun y hy=>by have:=ht y hy;rw[b8w] at this;exact of_decide_eq_true this
  have hx2:∀ y∈s.drop k,x<y:=by
   cases hd:s.drop k with
   |nil=>intro y hy;cases hy
   |cons z t=>
    have hz:s[k]?= some z:=by
     have:=List.getElem?_drop (xs:=s) (i:=k) (j:=0)
     rw[hd] at this;simpa using this.symm
    have hzx:¬ z<x:=by have:=hn z hz;rw[b8w] at this;exact of_decide_eq_false this
    have hne:z≠x:=by intro e;subst e;rw[hz] at h;simp at h
    have hxz:x<z:=by
     rcases Classical.em (x<z) with hq|hq
     ·exact hq
     ·exact absurd (List.le_antisymm (List.not_lt.1 hq) (List.not_lt.1 hzx)) hne
    rw[hd,List.pairwise_cons] at h2
    intro y hy
    rcases List.mem_cons.1 hy with rfl|hy
    ·exact hxz
    ·exact List.lt_trans hxz (h2.1 y hy)
  unfold a1L
  rw[List.append_assoc,List.pairwise_append]
  refine⟨h1,?_,?_⟩
  ·rw[List.singleton_append,List.pairwise_cons]
   exact⟨hx2,h2⟩
  ·intro a ha b hb
   rw[List.singleton_append] at hb
   rcases List.mem_cons.1 hb with rfl|hb
   ·exact hx1 a ha
   ·exact h3 a ha b hb
 ·exact hs
theorem a8B (l:List (List UInt8)):(a0N l).Pairwise (· < ·)∧∀ z,z∈a0N l↔z∈l:=by
 have:∀ (l s:List (List UInt8)),s.Pairwise (· < ·)→(l.foldl a8S s).Pairwise (· < ·)∧∀ z,z∈l.foldl a8S s↔z∈s∨z∈l:=by
  intro l
  induction l with
  |nil=>intro s hs;exact⟨hs,fun z=>by simp⟩
  |cons x l ih=>
   intro s hs
   obtain⟨h1,h2⟩:=ih (a8S s x) (b6J s x hs)
   refine⟨h1,fun z=>?_⟩
   rw[List.foldl_cons,h2,c35]
   simp only[List.mem_cons]
   constructor
   ·rintro ((h|h)|h)
    ·exact .inr (.inl h)
    ·exact .inl h
    ·exact .inr (.inr h)
   ·rintro (h|h|h)
    ·exact .inl (.inr h)
    ·exact .inl (.inl h)
    ·exact .inr h
 obtain⟨h1,h2⟩:=this l [] List.Pairwise.nil
 exact⟨h1,fun z=>by unfold a0N;rw[h2];simp⟩
theorem b3g (d:Array (List UInt8)) (hd:∀ i j,i<j→j<d.size→d[i]!≤ d[j]!):∀ m,m≤d.size→
  (Lib.compactUpTo d m).Pairwise (· < ·)∧(∀ z,z∈Lib.compactUpTo d m↔ ∃ j,j<m∧d[j]! =z):=by
 intro m
 induction m with
 |zero=>intro _;exact⟨by simp[Lib.compactUpTo],fun z=>by simp[Lib.compactUpTo]⟩
 |succ m ih=>
  intro hm
  obtain⟨h1,h2⟩:=ih (by omega)
  rw[Lib.compactUpTo_succ]
  by_cases hk:Lib.keeps d m=true
  ·rw[if_pos hk]
   refine⟨?_,fun z=>?_⟩
   ·rw[List.pairwise_append]
    refine⟨h1,by simp,fun a ha b hb=>?_⟩
    simp only[List.mem_singleton] at hb
    subst hb
    obtain⟨j,hj,rfl⟩:=(h2 a).1 ha
    have hm0:m≠0:=by omega
    have hne:d[m]!≠ d[m-1]!:= by
     unfold Lib.keeps at hk
     rcases of_decide_eq_true hk with h|h
     ·exact absurd h hm0
     ·exact h
    have hle:d[m-1]!≤ d[m]!:= hd (m-1) m (by omega) (by omega)
    have hlt:d[m-1]!< d[m]!:= by
     rcases Classical.em (d[m-1]!< d[m]!) with hq|hq
     ·exact hq
     ·exact absurd (List.le_antisymm (List.not_lt.1 hq) hle) hne
    rcases Nat.lt_or_ge j (m-1) with hj2|hj2
    ·have h3:=hd j (m-1) hj2 (by omega)
     rcases Classical.em (d[j]!< d[m]!) with hq|hq
     ·exact hq
     ·exact absurd (List.le_trans (List.not_lt.1 hq) h3) (List.not_le.2 hlt)
    ·have:j=m-1:=by omega
     rw[this];exact hlt
   ·rw[List.mem_append,h2]
    simp only[List.mem_singleton]
    constructor
    ·rintro (⟨j,hj,rfl⟩|rfl)
     ·exact⟨j,by omega,rfl⟩
     ·exact⟨m,by omega,rfl⟩
    ·rintro⟨j,hj,rfl⟩
     rcases Nat.lt_or_ge j m with h|h
     ·exact .inl ⟨j,h,rfl⟩
     ·have:j=m:=by omega
      rw[this];exact .inr rfl
  ·rw[if_neg hk,List.append_nil]
   refine⟨h1,fun z=>?_⟩
   rw[h2]
   constructor
   ·rintro⟨j,hj,rfl⟩;exact⟨j,by omega,rfl⟩
   ·rintro⟨j,hj,rfl⟩
    rcases Nat.lt_or_ge j m with h|h
    ·exact⟨j,h,rfl⟩
    ·have e:j=m:=by omega
     subst e
     have hkn:¬ (j=0∨d[j]!≠ d[j-1]!):=fun hh=>hk (decide_eq_true hh)
     have h0:j≠0:=fun hh=>hkn (.inl hh)
     have he:d[j]! =d[j-1]!:= Classical.byContradiction fun hh=>hkn (.inr hh)
     exact⟨j-1,by omega,he.symm⟩
theorem a8C (l:List (List UInt8)):Lib.compact (l.mergeSort fun x y=>decide (x≤y))=a0N l:=by
 have hsort:=List.pairwise_mergeSort (le:=fun x y:List UInt8=>decide (x≤y)) (fun a b c h k=>by
   simp only[decide_eq_true_eq] at *; exact List.le_trans h k) (fun a b=>by
   simp only[Bool.or_eq_true,decide_eq_true_eq];exact List.le_total a b) l
 have hperm:=List.mergeSort_perm l (fun x y=>decide (x≤y))
 generalize l.mergeSort (fun x y=>decide (x≤y))=s at*
 have hd:∀ i j,i<j→j<s.toArray.size→s.toArray[i]!≤ s.toArray[j]!:= by
  intro i j hij hj
  have hj':j<s.length:=by simpa using hj
  have:=List.pairwise_iff_getElem.1 hsort i j (by omega) hj' hij
  rw[getElem!_pos _ i (by simp;omega),getElem!_pos _ j hj]
  simpa using this
 obtain⟨h1,h2⟩:=b3g s.toArray hd s.length (by simp)
 obtain⟨h3,h4⟩:=a8B l
 refine b1f _ _ h1 h3 fun z=>?_
 show z∈Lib.compactUpTo s.toArray s.length↔_
 rw[h2,h4,← hperm.mem_iff]
 constructor
 ·rintro⟨j,hj,rfl⟩
  rw[getElem!_pos _ j (by simpa using hj)]
  simp
 ·intro hz
  obtain⟨j,hj,rfl⟩:=List.mem_iff_getElem.1 hz
  exact⟨j,hj,by rw[getElem!_pos _ j (by simpa using hj)];simp⟩
end Go.Proofs.YthbcdhfiibpeaaaGreat

