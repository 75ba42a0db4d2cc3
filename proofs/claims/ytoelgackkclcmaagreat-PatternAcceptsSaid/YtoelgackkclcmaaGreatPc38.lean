/- Lemmas. -/
import Derived.Shelf.SortM.Plain
import Derived.Shelf.SortM.SortNone
import Derived.Shelf.SlicesG.CompactS
import Derived.Test.YtoelgackkclcmaaGreatProg
import Derived.Test.YtoelgackkclcmaaGreatPc37
import Init
import Derived.Shelf.SlSortCmp.NoneTotal
import Derived.Deep.RegionWith
import Derived.WalkKit
import Derived.ProofKit
import Derived.Lib.SliceRun
open Go.Proofs.Tryz renaming prog→zP
open List renaming length_map→lB,mem_singleton→lN
set_option linter.unusedSimpArgs false
set_option linter.unusedVariables false
set_option maxRecDepth 20000
set_option maxHeartbeats 64000000
namespace Go.Proofs
open Go.Shelf
def Tryz.sortS_ren:Go.Shelf.Ren:=⟨fun|6=>80|8=>137|9=>136|19=>202|20=>203|21=>193|22=>194|23=>195|24=>196|25=>197|26=>198|27=>199|28=>200|29=>201|36=>237|31=>238|32=>239|37=>240|38=>241|39=>242|41=>257|n=>n,fun|27=>33|29=>9|3=>3|32=>165|26=>33|0=>0|44=>210|46=>212|4=>4|36=>202|35=>201|41=>207|5=>5|9=>9|53=>234|57=>238|63=>255|64=>256|n=>n,fun|n=>n⟩
theorem Tryz.sortS:Go.Proofs.SlLaysM.n6 zP Tryz.sortS_ren:={
  mixed:=by kernel_rfl,
  f6:=⟨"slices.Sort[[]string,string]",by decide,Tryz.func80.trans (congrArg some (by kernel_rfl))⟩,
  f8:=Tryz.func137.trans (congrArg some (by kernel_rfl)),
  f9:=⟨"slices.pdqsortOrdered[string]",by decide,Tryz.func136.trans (congrArg some (by kernel_rfl))⟩,
  f19:=Tryz.func202.trans (congrArg some (by kernel_rfl)),
  f20:=Tryz.func203.trans (congrArg some (by kernel_rfl)),
  f21:=⟨"slices.insertionSortOrdered[string]",by decide,Tryz.func193.trans (congrArg some (by kernel_rfl))⟩,
  f22:=⟨"slices.heapSortOrdered[string]",by decide,Tryz.func194.trans (congrArg some (by kernel_rfl))⟩,
  f23:=⟨"slices.breakPatternsOrdered[string]",by decide,Tryz.func195.trans (congrArg some (by kernel_rfl))⟩,
  f24:=⟨"slices.choosePivotOrdered[string]",by decide,Tryz.func196.trans (congrArg some (by kernel_rfl))⟩,
  f25:=⟨"slices.reverseRangeOrdered[string]",by decide,Tryz.func197.trans (congrArg some (by kernel_rfl))⟩,
  f26:=⟨"slices.partialInsertionSortOrdered[string]",by decide,Tryz.func198.trans (congrArg some (by kernel_rfl))⟩,
  f27:=⟨"cmp.Less[string]",by decide,Tryz.func199.trans (congrArg some (by kernel_rfl))⟩,
  f28:=⟨"slices.partitionEqualOrdered[string]",by decide,Tryz.func200.trans (congrArg some (by kernel_rfl))⟩,
  f29:=⟨"slices.partitionOrdered[string]",by decide,Tryz.func201.trans (congrArg some (by kernel_rfl))⟩,
  f31:=Tryz.func238.trans (congrArg some (by kernel_rfl)),
  f32:=Tryz.func239.trans (congrArg some (by kernel_rfl)),
  f36:=⟨"slices.siftDownOrdered[string]",by decide,Tryz.func237.trans (congrArg some (by kernel_rfl))⟩,
  f37:=⟨"slices.medianAdjacentOrdered[string]",by decide,Tryz.func240.trans (congrArg some (by kernel_rfl))⟩,
  f38:=⟨"slices.medianOrdered[string]",by decide,Tryz.func241.trans (congrArg some (by kernel_rfl))⟩,
  f39:=⟨"cmp.isNaN[string]",by decide,Tryz.func242.trans (congrArg some (by kernel_rfl))⟩,
  f41:=⟨"slices.order2Ordered[string]",by decide,Tryz.func257.trans (congrArg some (by kernel_rfl))⟩,
  t0:=Tryz.underlying0,
  a0:=Tryz.isAgg0,
  z0:=Tryz.sizeOf0,
  v0:=Tryz.zeroValue0,
  t3:=Tryz.underlying3,
  a3:=Tryz.isAgg3,
  z3:=Tryz.sizeOf3,
  v3:=Tryz.zeroValue3,
  t4:=Tryz.underlying4,
  a4:=Tryz.isAgg4,
  z4:=Tryz.sizeOf4,
  v4:=Tryz.zeroValue4,
  t5:=Tryz.underlying5,
  a5:=Tryz.isAgg5,
  z5:=Tryz.sizeOf5,
  v5:=Tryz.zeroValue5,
  t9:=Tryz.underlying9,
  a9:=Tryz.isAgg9,
  z9:=Tryz.sizeOf9,
  v9:=Tryz.zeroValue9,
  t26:=Tryz.underlying33,
  a26:=Tryz.isAgg33,
  z26:=Tryz.sizeOf33,
  v26:=Tryz.zeroValue33,
  t27:=Tryz.underlying33,
  a27:=Tryz.isAgg33,
  z27:=Tryz.sizeOf33,
  v27:=Tryz.zeroValue33,
  t29:=Tryz.underlying9,
  a29:=Tryz.isAgg9,
  z29:=Tryz.sizeOf9,
  v29:=Tryz.zeroValue9,
  t32:=Tryz.underlying165,
  a32:=Tryz.isAgg165,
  z32:=Tryz.sizeOf165,
  v32:=Tryz.zeroValue165,
  t35:=Tryz.underlying201,
  a35:=Tryz.isAgg201,
  z35:=Tryz.sizeOf201,
  v35:=Tryz.zeroValue201,
  t36:=Tryz.underlying202,
  a36:=Tryz.isAgg202,
  z36:=Tryz.sizeOf202,
  v36:=Tryz.zeroValue202,
  t41:=Tryz.underlying207,
  a41:=Tryz.isAgg207,
  z41:=Tryz.sizeOf207,
  v41:=Tryz.zeroValue207,
  t44:=Tryz.underlying210,
  a44:=Tryz.isAgg210,
  z44:=Tryz.sizeOf210,
  v44:=Tryz.zeroValue210,
  t46:=Tryz.underlying212,
  a46:=Tryz.isAgg212,
  z46:=Tryz.sizeOf212,
  v46:=Tryz.zeroValue212,
  t53:=Tryz.underlying234,
  a53:=Tryz.isAgg234,
  z53:=Tryz.sizeOf234,
  v53:=Tryz.zeroValue234,
  t57:=Tryz.underlying238,
  a57:=Tryz.isAgg238,
  z57:=Tryz.sizeOf238,
  v57:=Tryz.zeroValue238,
  t63:=Tryz.underlying255,
  a63:=Tryz.isAgg255,
  z63:=Tryz.sizeOf255,
  v63:=Tryz.zeroValue255,
  t64:=Tryz.underlying256,
  a64:=Tryz.isAgg256,
  z64:=Tryz.sizeOf256,
  v64:=Tryz.zeroValue256 }
def Tryz.compS_ren:Go.Shelf.Ren:=⟨fun|44=>81|n=>n,fun|25=>33|26=>9|3=>3|4=>4|0=>0|n=>n,fun|n=>n⟩
theorem Tryz.compS:Go.Proofs.SlLaysN.n44 zP Tryz.compS_ren:={
  mixed:=by kernel_rfl,
  f44:=⟨"slices.Compact[[]string,string]",by decide,Tryz.func81.trans (congrArg some (by kernel_rfl))⟩,
  t0:=Tryz.underlying0,
  a0:=Tryz.isAgg0,
  z0:=Tryz.sizeOf0,
  v0:=Tryz.zeroValue0,
  t3:=Tryz.underlying3,
  a3:=Tryz.isAgg3,
  z3:=Tryz.sizeOf3,
  v3:=Tryz.zeroValue3,
  t4:=Tryz.underlying4,
  a4:=Tryz.isAgg4,
  z4:=Tryz.sizeOf4,
  v4:=Tryz.zeroValue4,
  t25:=Tryz.underlying33,
  a25:=Tryz.isAgg33,
  z25:=Tryz.sizeOf33,
  v25:=Tryz.zeroValue33,
  t26:=Tryz.underlying9,
  a26:=Tryz.isAgg9,
  z26:=Tryz.sizeOf9,
  v26:=Tryz.zeroValue9,
  i26:=by kernel_rfl }
end Go.Proofs

namespace Go.Proofs.YtoelgackkclcmaaGreat
open Go Go.Sx
theorem b3r (x y:List UInt8):Op.bytesLess x y=decide (x<y):=Go.Proofs.bytesLess_eq x y
theorem a9j:∀ a b:List (List UInt8),a.Pairwise (· < ·)→b.Pairwise (· < ·)→(∀ x,x∈a↔x∈b)→a=b
 |[],b,_,_,h=>by
  cases b with
  |nil=>rfl
  |cons y b=>have:=(h y).2 (by simp);simp at this
 |x::a,[],_,_,h=>by have:=(h x).1 (by simp);simp at this
 |x::a,y::b,ha,hb,h=>by
  rw[zcj] at ha hb
  have u:x=y:=by
   rcases zal.1 ((h x).1 (by simp)) with e|h1
   ·exact e
   ·rcases zal.1 ((h y).2 (by simp)) with e|h2
    ·exact e.symm
    ·exact absurd (hb.1 x h1) (List.lt_asymm (ha.1 y h2))
  subst u
  congr 1
  refine a9j a b ha.2 hb.2 fun z=>⟨fun hz=>?_,fun hz=>?_⟩
  ·rcases zal.1 ((h z).1 (zas _ hz)) with e|q
   ·subst e;exact absurd (ha.1 z hz) (zdx z)
   ·exact q
  ·rcases zal.1 ((h z).2 (zas _ hz)) with e|q
   ·subst e;exact absurd (hb.1 z hz) (zdx z)
   ·exact q
theorem c5m {α:Type} (p:α→Bool):∀ l:List α,∀ x∈l.take (tw p l),p x=true
 |[],x,h=>by simp[tw] at h
 |y::l,x,h=>by
  simp only[tw] at h
  cases hp:p y
  ·rw[hp] at h;simp at h
  ·rw[hp,zaa,zc5,List.take_succ_cons] at h
   rcases zal.1 h with rfl|h
   ·exact hp
   ·exact c5m p l x h
theorem c0I {α:Type} (p:α→Bool):∀ (l:List α) (y:α),l[tw p l]?= some y→p y=false
 |[],y,h=>by simp at h
 |z::l,y,h=>by
  simp only[tw] at h
  cases hp:p z
  ·rw[hp] at h;simp at h;subst h;exact hp
  ·rw[hp,zaa,zc5,List.getElem?_cons_succ] at h
   exact c0I p l y h
theorem c7i (s:List (List UInt8)) (x z:List UInt8):z∈b19 s x↔z=x∨z∈s:=by
 unfold b19
 cases h:decide (s[tw (fun y=>Op.bytesLess y x) s]?= some x)<;>simp only[zaa,zab]
 ·unfold a3e
  have:z∈s↔z∈s.take (tw (fun y=>Op.bytesLess y x) s)∨z∈s.drop (tw (fun y=>Op.bytesLess y x) s):=by rw[← zbd,zbt]
  rw[zbd,zbd,this]
  simp only[lN]
  constructor
  ·rintro ((h|h)|h)
   ·exact .inr (.inl h)
   ·exact .inl h
   ·exact .inr (.inr h)
  ·rintro (h|h|h)
   ·exact .inl (.inr h)
   ·exact .inl (.inl h)
   ·exact .inr h
 ·have hm:x∈s:=zbc (of_decide_eq_true h)
  constructor
  ·exact .inr
  ·rintro (rfl|h)
   ·exact hm
   ·exact h
theorem b8L (s:List (List UInt8)) (x:List UInt8) (hs:s.Pairwise (· < ·)):(b19 s x).Pairwise (· < ·):=by
 unfold b19
 cases h:decide (s[tw (fun y=>Op.bytesLess y x) s]?= some x)<;>simp only[zaa,zab]
 ·have ht:=c5m (fun y=>Op.bytesLess y x) s
  have hn:=c0I (fun y=>Op.bytesLess y x) s
  generalize tw (fun y=>Op.bytesLess y x) s=k at*
  have q:(s.take k++s.drop k).Pairwise (· < ·):=by rw[zbt];exact hs
  rw[zcl] at q
  obtain⟨h1,h2,h3⟩:=q
  have ad:∀ y∈s.take k,y<x:=fun y hy=>by have:=ht y hy;rw[b3r] at this;exact of_decide_eq_true this
  have aa:∀ y∈s.drop k,x<y:=by
   cases hd:s.drop k with
   |nil=>intro y hy;cases hy
   |cons z t=>
    have hz:s[k]?= some z:=by
     have:=zct (xs:=s) (i:=k) (j:=0)
     rw[hd] at this;simpa using this.symm
    have ae:¬ z<x:=by have:=hn z hz;rw[b3r] at this;exact of_decide_eq_false this
    have ab:z≠x:=by intro e;subst e;rw[hz] at h;simp at h
    have u:x<z:=by
     rcases Classical.em (x<z) with hq|hq
     ·exact hq
     ·exact absurd (List.le_antisymm (zdy.1 hq) (zdy.1 ae)) ab
    rw[hd,zcj] at h2
    intro y hy
    rcases zal.1 hy with rfl|hy
    ·exact u
    ·exact List.lt_trans u (h2.1 y hy)
  unfold a3e
  rw[zb1,zcl]
  refine⟨h1,?_,?_⟩
  ·rw[List.singleton_append,zcj]
   exact⟨aa,h2⟩
  ·intro a ha b hb
   rw[List.singleton_append] at hb
   rcases zal.1 hb with rfl|hb
   ·exact ad a ha
   ·exact h3 a ha b hb
 ·exact hs
theorem a2i (l:List (List UInt8)):(a0M l).Pairwise (· < ·)∧∀ z,z∈a0M l↔z∈l:=by
 have:∀ (l s:List (List UInt8)),s.Pairwise (· < ·)→(l.foldl b19 s).Pairwise (· < ·)∧∀ z,z∈l.foldl b19 s↔z∈s∨z∈l:=by
  intro l
  induction l with
  |nil=>intro s hs;exact⟨hs,fun z=>by simp⟩
  |cons x l ih=>
   intro s hs
   obtain⟨h1,h2⟩:=ih (b19 s x) (b8L s x hs)
   refine⟨h1,fun z=>?_⟩
   rw[List.foldl_cons,h2,c7i]
   simp only[zal]
   constructor
   ·rintro ((h|h)|h)
    ·exact .inr (.inl h)
    ·exact .inl h
    ·exact .inr (.inr h)
   ·rintro (h|h|h)
    ·exact .inl (.inr h)
    ·exact .inl (.inl h)
    ·exact .inr h
 obtain⟨h1,h2⟩:=this l [] List.Pairwise.nil
 exact⟨h1,fun z=>by unfold a0M;rw[h2];simp⟩
theorem b4G (d:Array (List UInt8)) (hd:∀ i j,i<j→j<d.size→d[i]!≤ d[j]!):∀ m,m≤d.size→
  (Lib.compactUpTo d m).Pairwise (· < ·)∧(∀ z,z∈Lib.compactUpTo d m↔ ∃ j,j<m∧d[j]! =z):=by
 intro m
 induction m with
 |zero=>intro _;exact⟨by simp[Lib.compactUpTo],fun z=>by simp[Lib.compactUpTo]⟩
 |succ m ih=>
  intro hm
  obtain⟨h1,h2⟩:=ih (by omega)
  rw[Lib.compactUpTo_succ]
  by_cases hk:Lib.keeps d m=true
  ·rw[zaz hk]
   refine⟨?_,fun z=>?_⟩
   ·rw[zcl]
    refine⟨h1,by simp,fun a ha b hb=>?_⟩
    simp only[lN] at hb
    subst hb
    obtain⟨j,hj,rfl⟩:=(h2 a).1 ha
    have ad:m≠0:=by omega
    have ae:d[m]!≠ d[m-1]!:= by
     unfold Lib.keeps at hk
     rcases of_decide_eq_true hk with h|h
     ·exact absurd h ad
     ·exact h
    have ab:d[m-1]!≤ d[m]!:= hd (m-1) m (by omega) (by omega)
    have aa:d[m-1]!< d[m]!:= by
     rcases Classical.em (d[m-1]!< d[m]!) with hq|hq
     ·exact hq
     ·exact absurd (List.le_antisymm (zdy.1 hq) ab) ae
    rcases zbz j (m-1) with u|u
    ·have h3:=hd j (m-1) u (by omega)
     rcases Classical.em (d[j]!< d[m]!) with hq|hq
     ·exact hq
     ·exact absurd (List.le_trans (zdy.1 hq) h3) (List.not_le.2 aa)
    ·have:j=m-1:=by omega
     rw[this];exact aa
   ·rw[zbd,h2]
    simp only[lN]
    constructor
    ·rintro (⟨j,hj,rfl⟩|rfl)
     ·exact⟨j,by omega,rfl⟩
     ·exact⟨m,by omega,rfl⟩
    ·rintro⟨j,hj,rfl⟩
     rcases zbz j m with h|h
     ·exact .inl ⟨j,h,rfl⟩
     ·have:j=m:=by omega
      rw[this];exact .inr rfl
  ·rw[za5 hk,zbq]
   refine⟨h1,fun z=>?_⟩
   rw[h2]
   constructor
   ·rintro⟨j,hj,rfl⟩;exact⟨j,by omega,rfl⟩
   ·rintro⟨j,hj,rfl⟩
    rcases zbz j m with h|h
    ·exact⟨j,h,rfl⟩
    ·have e:j=m:=by omega
     subst e
     have q:¬ (j=0∨d[j]!≠ d[j-1]!):=fun hh=>hk (zbo hh)
     have h0:j≠0:=fun hh=>q (.inl hh)
     have he:d[j]! =d[j-1]!:= zdv fun hh=>q (.inr hh)
     exact⟨j-1,by omega,he.symm⟩
theorem a5g (l:List (List UInt8)):Lib.compact (l.mergeSort fun x y=>decide (x≤y))=a0M l:=by
 have q:=List.pairwise_mergeSort (le:=fun x y:List UInt8=>decide (x≤y)) (fun a b c h k=>by
   simp only[zan] at *; exact List.le_trans h k) (fun a b=>by
   simp only[zb6,zan];exact List.le_total a b) l
 have u:=List.mergeSort_perm l (fun x y=>decide (x≤y))
 generalize l.mergeSort (fun x y=>decide (x≤y))=s at*
 have hd:∀ i j,i<j→j<s.toArray.size→s.toArray[i]!≤ s.toArray[j]!:= by
  intro i j aa hj
  have ab:j<s.length:=by simpa using hj
  have:=List.pairwise_iff_getElem.1 q i j (by omega) ab aa
  rw[getElem!_pos _ i (by simp;omega),getElem!_pos _ j hj]
  simpa using this
 obtain⟨h1,h2⟩:=b4G s.toArray hd s.length (by simp)
 obtain⟨h3,h4⟩:=a2i l
 refine a9j _ _ h1 h3 fun z=>?_
 show z∈Lib.compactUpTo s.toArray s.length↔_
 rw[h2,h4,← u.mem_iff]
 constructor
 ·rintro⟨j,hj,rfl⟩
  rw[getElem!_pos _ j (by simpa using hj)]
  simp
 ·intro hz
  obtain⟨j,hj,rfl⟩:=List.mem_iff_getElem.1 hz
  exact⟨j,hj,by rw[getElem!_pos _ j (by simpa using hj)];simp⟩
end Go.Proofs.YtoelgackkclcmaaGreat
namespace Go.Proofs.YtoelgackkclcmaaGreat
open Go Go.Sx
def b4H (k:Int):NodeD:=⟨k,0,0,[],[],[],0,0⟩
theorem b0e (x:NodeD):PC zP 119 [Nt x] (Tt [x] 0):=by
  refine PCB.ob Tryz.func119 Tryz.ntmps119 Tryz.results119 ?_
  repeat'(first|simp only[go_sem,a0d]<;>refine nf ?_|refine stp ?_;intro K hK|apply hK;clear hK K|refine stn ?_|refine stq ?_|fail)
  all_goals(refine a0m ?_;rfl)
theorem b7A (k:Int):PC zP 119 [.st [.int .i64 k, .int .i64 0, .int .i64 0, .str [], .sl 1 [], .sl 4 [], .int .i64 0, .int .i64 0]] (.st [.sl 8 ([b4H k].map a0e), .int .i64 0]):=b0e (b4H k)
theorem c5n:PC zP 120 [] (Tt [b4H 1] 0):=by
  refine PCB.ob Tryz.func120 Tryz.ntmps120 Tryz.results120 ?_
  repeat'(first|simp only[go_sem]<;>refine nf ?_|refine stp ?_;intro K hK|apply hK;clear hK K|refine stn ?_|(with_reducible refine⟨_,b7A 1,?_⟩)|refine stq ?_|fail)
  all_goals(refine a0m ?_;rfl)
def a03 (l:List NodeD) (r:Int):List NodeD:=bif decide (wfP l r=0) then l else [b4H 1]
def a2z (l:List NodeD) (r:Int):Int:=bif decide (wfP l r=0) then r else 0
theorem a9k:wfP [b4H 1] 0=0:=by decide
theorem c0J (l:List NodeD) (r:Int):wfP (a03 l r) (a2z l r)=0:=by
  unfold a03 a2z
  cases h:decide (wfP l r=0)
  · exact a9k
  · exact of_decide_eq_true h
theorem b4I {l:List NodeD} (hl:TSm l) (r:Int):TSm (a03 l r):=by
  unfold a03
  cases decide (wfP l r=0)
  · refine⟨by simp,fun x hx=>?_,fun x hx=>?_⟩<;>(simp only[zab,lN] at hx;subst hx;simp[b4H])
  · exact hl
theorem b2z {l:List NodeD} {r:Int} (h:wfP l r=0):0≤r∧r<(l.length:Int)∧l.all (a2P l)=true∧a8W l=true:=by
 unfold wfP at h
 cases h1:a8e l r<;>rw[h1] at h
 ·cases h2:l.all (a2P l)<;>rw[h2] at h
  ·simp at h
  ·cases h3:a8W l<;>rw[h3] at h
   ·simp at h
   ·simp only[a8e,zbx,zah] at h1
    exact⟨by omega,by omega,rfl,rfl⟩
 ·simp at h
theorem c3C (l:List NodeD) (r:Int) (hl:TSm l):PC zP 124 [Tt l r] (Tt (a03 l r) (a2z l r)):=by
 have hw:=a9V l r hl
 cases h:decide (wfP l r=0) with
 |false=>
  have e1:a03 l r=[b4H 1]:=by unfold a03;rw[h];rfl
  have e2:a2z l r=0:=by unfold a2z;rw[h];rfl
  rw[e1,e2]
  refine PCB.ob Tryz.func124 Tryz.ntmps124 Tryz.results124 ?_
  repeat'(first|simp only[go_sem,h]<;>refine nf ?_|refine stp ?_;intro K hK|apply hK;clear hK K|refine stn ?_|(with_reducible first|refine⟨_,hw,?_⟩|refine⟨_,c5n,?_⟩)|refine stq ?_|clear hK K)
  all_goals(first|exact fun _ h=>absurd h zaf|(refine a0m ?_;rfl)|fail)
 |true=>
  have e1:a03 l r=l:=by unfold a03;rw[h];rfl
  have e2:a2z l r=r:=by unfold a2z;rw[h];rfl
  rw[e1,e2]
  refine PCB.ob Tryz.func124 Tryz.ntmps124 Tryz.results124 ?_
  repeat'(first|simp only[go_sem,h]<;>refine nf ?_|refine stp ?_;intro K hK|apply hK;clear hK K|refine stn ?_|(with_reducible refine⟨_,hw,?_⟩)|refine stq ?_|fail)
  all_goals(first|exact fun _ h=>absurd h zaf|(refine a0m ?_;rfl)|fail)
def d1o:List NodeD→List Bool→List (List UInt8)
  |x::l,b::bs=>(bif b&&decide (x.kind=19) then [x.text] else [])++d1o l bs
  |_,_=>[]
def varW (l:List NodeD) (r:Int):List (List UInt8):=a0M (d1o l (c9D l r))
def d0Z (l:List NodeD) (r:Int):List (List UInt8):=varW (a03 l r) (a2z l r)
theorem b3s (l:List NodeD) (r:Int) (hl:TSm l):PC zP 97 [Tt l r] (I .i64 (wfP l r)):=by
  rw[← c7h];exact b3q l r hl
def limN (x:NodeD):Bool:=decide (8<(x.fields.length:Int))
def c0K {α:Type} (p:α→Bool):List α→Int→Int
  |[],_=> -1
  |x::l,i=>bif p x then i else c0K p l (i+1)
def valT (l:List NodeD) (r:Int):Int:=bif !decide (wfP l r=0) then wfP l r else bif (decide (60<(l.length:Int))||decide (8<((d0Z l r).length:Int)))||l.any limN then 2 else 0
theorem atR {P:Program} {n:Nat} {l:Array Oper} {b:Bool} {σ τ:AS} {Q:Exit→AS→Prop} (i:Nat) (g:Gh n σ τ) (h:AWP P n (.region i l b) τ Q):AWP P n (.region i l b) σ Q:=AWP.gh g h
theorem b4J (l:List FieldD) (hl:l.length≤100000000):PCN zP 181 [.one (.dat (.sl 4 (l.map a0o)))] (.one (.own 0 l.length)) (.row 4 (l.map a0o)):=by
 refine PCN.of_body 7 Tryz.func181 rfl (by decide) Tryz.ntmps181 Tryz.results181 rfl rfl ?_
 refine AWP.ghQ ?_
 repeat'(first|( refine AWP.nilR (e:=159) rfl (by decide) (by decide) rfl (fun q=>?_) ?_)|simp only[go_sem,lB]<;>refine nf ?_|refine stp ?_;intro K hK|apply hK;clear hK K|refine stn ?_|(with_reducible first|(refine Or.inr (show a01 _ 5 _ _ _ _ _ _ from ?_);unfold a01;with_reducible refine Or.inr ?_;simp only[a18,go_sem,lB])|refine⟨(by omega:_≤_),?_⟩)|clear hK K)
 ·refine GhQ.step (Gh.nilrow 2 7 rfl rfl rfl rfl) ?_
  refine⟨_,Gh.refl _,?_⟩
  have:l=[]:=by simpa using q
  subst this
  simp only[go_sem,za6,List.length_nil]
  first|exact⟨rfl,fun x hx=>hx⟩|exact fun x hx=>hx
 ·refine⟨_,Gh.refl _,?_⟩
  simp only[go_sem,lB]
  first|exact⟨rfl,fun x hx=>hx⟩|exact fun x hx=>hx
def upI (b k:Int):Int:=IntKind.i64.wrap (k+b)
def upF (b:Int) (f:FieldD):FieldD:=⟨f.key,upI b f.node,f.opt⟩
def upN (b:Int) (x:NodeD):NodeD:=
  ⟨x.kind,x.lo,x.hi,x.text,x.kids.map (upI b),x.fields.map (upF b),bif decide (x.kind=13) then upI b x.r0 else x.r0,bif decide (x.kind=13) then upI b x.r1 else x.r1⟩
def c0L {α:Type} (f:α→α) (l:List α) (k:Nat):List α:=(l.take k).map f++l.drop k
theorem b7B {α:Type} (f:α→α) (l:List α):c0L f l l.length=l.map f:=by simp[c0L]
theorem b7C {α:Type} (f:α→α) (l:List α) (k:Nat):(c0L f l k).length=l.length:=by simp[c0L];omega
theorem b7D {α:Type} (f:α→α) (l:List α) (k:Nat) (h:k<l.length):(c0L f l k)[k]?= some l[k]:=by
  unfold c0L
  rw[zb0 (by simp;omega),zct]
  simp only[lB,zbb]
  rw[zav (by omega)]
  congr 1
  congr 1
  omega
theorem b4K {α:Type} (f:α→α) (l:List α) (k:Nat) (h:k<l.length):(c0L f l k).set k (f l[k])=c0L f l (k+1):=by
  unfold c0L
  rw[List.set_append_right _ _ (by simp;omega),za8 h,zdb h]
  simp only[lB,zbb]
  rw[show k-min k l.length=0 by omega,List.set_cons_zero,zbn,zb1]
  rfl
theorem c3D (l:List FieldD) (i:Nat) (b:Int) (f:FieldD):(l.map a0o).set i [C.int .i64 f.key.kind,C.str f.key.text,C.int .i64 (IntKind.i64.wrap (f.node+b)),C.bool f.opt]=(l.set i (upF b f)).map a0o:=by rw[zdw];rfl
theorem c0M (x:NodeD) (b:Int) (hk:x.kids.length≤1000000) (hf:x.fields.length≤1000000):PC zP 126 [Nt x,I .i64 b] (Nt (upN b x)):=by
 have ag:=b2R x.kids (by omega)
 have ae:=b4J x.fields (by omega)
 refine PCB.ob Tryz.func126 Tryz.ntmps126 Tryz.results126 ?_
 repeat'(first|simp only[go_sem,a0d,lB]<;>refine nf ?_|refine stp ?_;intro K hK|apply hK;clear hK K|refine stn ?_|(with_reducible refine Or.inr (Or.inl ⟨_,_,ag,?_⟩))|fail)
 refine AWP.loopF (X:=Nat) (fun i=>[(14,I .i64 i)]) (fun i=>[(9, .row 1 ((c0L (upI b) x.kids i).map a0h))]) [1,2,4,13] [2,4] (fun i=>i≤x.kids.length) (fun i=>x.kids.length-i) (0) (by refine sts ?_;exact Gh.tt []) ?_ ?_
 ·exact zao _
 rintro i hi
 refine sts ?_
 by_cases ab:i=x.kids.length
 ·subst ab
  have q:decide ((x.kids.length:Int)<(x.kids.length:Int))=false:=by simp
  rw[b7B]
  refine AWP.gh (Gh.fz 9) ?_
  simp only[go_sem,lB]
  repeat'(first|simp only[go_sem,lB,q,a0d]<;>refine nf ?_|refine stp ?_;intro K hK|apply hK;clear hK K|refine stn ?_|(with_reducible refine Or.inr (Or.inl ⟨_,_,ae,?_⟩))|clear hK K)
  refine AWP.loopF (X:=Nat) (fun i=>[(33,I .i64 i)]) (fun i=>[(28, .row 4 ((c0L (upF b) x.fields i).map a0o))]) [1,2,4,32] [2,4] (fun i=>i≤x.fields.length) (fun i=>x.fields.length-i) (0) (by refine sts ?_;exact Gh.tt []) ?_ ?_
  ·exact zao _
  rintro i hi
  refine sts ?_
  by_cases ab:i=x.fields.length
  ·subst ab
   have q:decide ((x.fields.length:Int)<(x.fields.length:Int))=false:=by simp
   rw[b7B]
   refine AWP.gh (Gh.fz 28) ?_
   simp only[go_sem,lB]
   cases hc:decide (x.kind=13)
   all_goals
    repeat'(first|simp only[go_sem,lB,q,hc,a0d]<;>refine nf ?_|refine stp ?_;intro K hK|apply hK;clear hK K|refine stn ?_|clear hK K)
   all_goals(refine a0m ?_;simp only[Nt,upN,a0d,hc,zaa,zab]<;>rfl)
  ·have aa:i<x.fields.length:=by omega
   have q:decide ((i:Int)<(x.fields.length:Int))=true:=by rw[zan];omega
   have ad:IntKind.i64.wrap ((i:Int)+1)=((i+1:Nat):Int):=by rw[w64 (by omega)];rfl
   have af:=b7C (upF b) x.fields i
   have hg:=a0y a0o (b7D (upF b) x.fields i aa)
   have u:=b4K (upF b) x.fields i aa
   obtain⟨y,hy⟩:∃ y,y=x.fields[i]:=⟨_,rfl⟩
   rw[← hy] at hg u
   repeat'(first|simp only[go_sem,lB,q,ad,encField_lit,c3D]<;>refine nf ?_|refine stp ?_;intro K hK|apply hK;clear hK K|refine stn ?_|(with_reducible first|refine⟨a0o y,hg,?_⟩|refine⟨(by omega:_≤_),(by omega:_≤_),(by omega:_<_),?_⟩)|clear hK K)
   all_goals(refine⟨i+1,by omega,by omega,?_⟩)
   all_goals(rw[← u];exact Gh.tt [])
 ·have aa:i<x.kids.length:=by omega
  have q:decide ((i:Int)<(x.kids.length:Int))=true:=by rw[zan];omega
  have ad:IntKind.i64.wrap ((i:Int)+1)=((i+1:Nat):Int):=by rw[w64 (by omega)];rfl
  have af:=b7C (upI b) x.kids i
  have hg:=a0y a0h (b7D (upI b) x.kids i aa)
  have u:=b4K (upI b) x.kids i aa
  obtain⟨y,hy⟩:∃ y,y=x.kids[i]:=⟨_,rfl⟩
  rw[← hy] at hg u
  repeat'(first|simp only[go_sem,lB,q,ad,a0h,b0m]<;>refine nf ?_|refine stp ?_;intro K hK|apply hK;clear hK K|refine stn ?_|(with_reducible first|refine⟨a0h y,hg,?_⟩|refine⟨(by omega:_≤_),(by omega:_≤_),(by omega:_<_),?_⟩)|clear hK K)
  all_goals(refine⟨i+1,by omega,by omega,?_⟩)
  all_goals(rw[← u];exact Gh.tt [])
end Go.Proofs.YtoelgackkclcmaaGreat
namespace Go.Ivl
structure Rg where
  lo:Int
  hi:Int
  deriving DecidableEq
def Rg.has (r:Rg) (n:Int):Prop:=r.lo≤n∧n≤r.hi
def has (s:List Rg) (n:Int):Prop:=∃ r∈s,r.lo≤n∧n≤r.hi
def Nf (s:List Rg):Prop:=(∀ r∈s,r.lo≤r.hi)∧s.Pairwise fun x y=>x.hi+1<y.lo
def big:Int:=9223372036854775807
def In6 (r:Rg):Prop:=(-9223372036854775808≤r.lo∧r.lo≤9223372036854775807)∧(-9223372036854775808≤r.hi∧r.hi≤9223372036854775807)
theorem a3y {n:Int}:has [] n↔False:=by simp[has]
theorem a05 {x:Rg} {s:List Rg} {n:Int}:has (x::s) n↔(x.lo≤n∧n≤x.hi)∨has s n:=by simp[has]
theorem a5J {s t:List Rg} {n:Int}:has (s++t) n↔has s n∨has t n:=by
  simp only[has,zbd]
  constructor
  · rintro⟨r,h|h,k⟩;exact .inl ⟨r,h,k⟩;exact .inr ⟨r,h,k⟩
  · rintro (⟨r,h,k⟩|⟨r,h,k⟩);exact⟨r, .inl h,k⟩;exact⟨r, .inr h,k⟩
theorem c3E {s t:List Rg} (h:s.Perm t) {n:Int}:has s n↔has t n:=by
  simp only[has,h.mem_iff]
theorem Nf.tail {x:Rg} {s:List Rg} (h:Nf (x::s)):Nf s:=
  ⟨fun r hr=>h.1 r (zas _ hr),(zcj.1 h.2).2⟩
theorem Nf.head {x:Rg} {s:List Rg} (h:Nf (x::s)):x.lo≤x.hi:=h.1 x (by simp)
theorem Nf.after {x:Rg} {s:List Rg} (h:Nf (x::s)) {n:Int} (k:has s n):x.hi+1<n:=by
  obtain⟨r,hr,k⟩:=k
  have:=(zcj.1 h.2).1 r hr
  omega
theorem Nf.unique:∀ {s t:List Rg},Nf s→Nf t→(∀ n,has s n↔has t n)→s=t
 |[],[],_,_,_=>rfl
 |[],y::t,_,ht,h=>by
  have:=(h y.lo).2 (a05.2 (.inl ⟨zco _,ht.head⟩))
  simp[has] at this
 |x::s,[],hs,_,h=>by
  have:=(h x.lo).1 (a05.2 (.inl ⟨zco _,hs.head⟩))
  simp[has] at this
 |x::s,y::t,hs,ht,h=>by
  have hx:=hs.head
  have hy:=ht.head
  have h1:x.lo=y.lo:=by
   have a:=(h x.lo).1 (a05.2 (.inl ⟨zco _,hx⟩))
   have b:=(h y.lo).2 (a05.2 (.inl ⟨zco _,hy⟩))
   rw[a05] at a b
   have a':y.lo≤x.lo:=by
    rcases a with a|a
    ·exact a.1
    ·have:=ht.after a;omega
   have b':x.lo≤y.lo:=by
    rcases b with b|b
    ·exact b.1
    ·have:=hs.after b;omega
   omega
  have h2:x.hi=y.hi:=by
   by_cases u:x.hi<y.hi
   ·have a:=(h (x.hi+1)).2 (a05.2 (.inl ⟨by omega,by omega⟩))
    rw[a05] at a
    rcases a with a|a
    ·omega
    ·have:=hs.after a;omega
   ·by_cases aa:y.hi<x.hi
    ·have a:=(h (y.hi+1)).1 (a05.2 (.inl ⟨by omega,by omega⟩))
     rw[a05] at a
     rcases a with a|a
     ·omega
     ·have:=ht.after a;omega
    ·omega
  have q:x=y:=by cases x;cases y;simp_all
  subst q
  have:s=t:=Nf.unique hs.tail ht.tail fun n=>by
   have hn:=h n
   rw[a05,a05] at hn
   constructor
   ·intro k
    have:=hs.after k
    rcases hn.1 (.inr k) with c|c
    ·omega
    ·exact c
   ·intro k
    have:=ht.after k
    rcases hn.2 (.inr k) with c|c
    ·omega
    ·exact c
  rw[this]
def before (x r:Rg):Bool:=decide (x.hi<r.lo)&&decide (x.hi+1<r.lo)
def c8D (r x:Rg):Rg:=⟨min r.lo x.lo,max r.hi x.hi⟩
structure Acc where
  rest:List Rg
  r:Rg
  after:List Rg
def a2S (a:Acc) (x:Rg):Acc:=
  if before x a.r then { a with rest:=a.rest++[x] }
  else if before a.r x then { a with after:=a.after++[x] }
  else { a with r:=c8D a.r x }
def c7j (q:List Rg) (r:Rg):List Rg:=
  let a:=q.foldl a2S ⟨[],r,[]⟩
  a.rest++[a.r]++a.after
def a9Q (q:List Rg) (r:Rg):List Rg:=if r.lo>r.hi then q else c7j q r
def nf (l:List Rg):List Rg:=l.foldl a9Q []
theorem a9l {x r:Rg}:before x r=true↔x.hi+1<r.lo:=by
  simp only[before,zag,zan];omega
theorem b7E:∀ (l:List Rg) (a:Acc),Nf l→a.r.lo≤a.r.hi→(∀ x∈a.rest,x.hi+1<a.r.lo∧∀ y∈l,x.hi+1<y.lo)→(∀ x∈a.after,a.r.hi+1<x.lo∧∀ y∈l,x.hi+1<y.lo)→
  Nf a.rest→Nf a.after→
  (∀ n,has ((l.foldl a2S a).rest++[(l.foldl a2S a).r]++(l.foldl a2S a).after) n↔has (a.rest++[a.r]++a.after) n∨has l n)∧Nf ((l.foldl a2S a).rest++[(l.foldl a2S a).r]++(l.foldl a2S a).after)∧
   ((l.foldl a2S a).rest++[(l.foldl a2S a).r]++(l.foldl a2S a).after).length≤(a.rest++[a.r]++a.after).length+l.length
 |[],a,_,hr,h1,h2,h3,h4=>by
  refine⟨fun n=>by simp[a3y],⟨fun x hx=>?_,?_⟩,by simp⟩
  ·simp only[List.foldl_nil,zbd,lN] at hx
   rcases hx with (hx|hx)|hx
   ·exact h3.1 x hx
   ·subst hx;exact hr
   ·exact h4.1 x hx
  ·simp only[List.foldl_nil]
   refine zcl.2 ⟨zcl.2 ⟨h3.2,by simp,fun x hx y hy=>?_⟩,h4.2,fun x hx y hy=>?_⟩
   ·simp only[lN] at hy;subst hy;exact(h1 x hx).1
   ·rcases zbd.1 hx with hx|hx
    ·have:=(h1 x hx).1;have:=(h2 y hy).1;omega
    ·simp only[lN] at hx;subst hx;exact(h2 y hy).1
 |x::l,a,hl,hr,h1,h2,h3,h4=>by
  have ab:=hl.head
  have ad:=(zcj.1 hl.2).1
  simp only[List.foldl_cons]
  by_cases hb:before x a.r=true
  ·have ae:=a9l.1 hb
   have q:a2S a x={ a with rest:=a.rest++[x] }:=by simp[a2S,hb]
   rw[q]
   have u:a.after=[]:=by
    cases ha:a.after with
    |nil=>rfl
    |cons y ys=>
     have:=h2 y (by rw[ha];simp)
     have h5:=this.2 x (by simp)
     have h6:=h4.1 y (by rw[ha];simp)
     omega
   obtain⟨g1,g2,g3⟩:=b7E l { a with rest:=a.rest++[x] } hl.tail hr (fun y hy=>by
    simp only[zbd,lN] at hy
    rcases hy with hy|hy
    ·exact⟨(h1 y hy).1,fun z hz=>(h1 y hy).2 z (zas _ hz)⟩
    ·subst hy;exact⟨ae,ad⟩) (fun y hy=>⟨(h2 y hy).1,fun z hz=>(h2 y hy).2 z (zas _ hz)⟩)
    ⟨fun y hy=>by
     simp only[zbd,lN] at hy
     rcases hy with hy|hy
     ·exact h3.1 y hy
     ·subst hy;exact ab,zcl.2 ⟨h3.2,by simp,fun y hy z hz=>by
      simp only[lN] at hz;subst hz;exact(h1 y hy).2 z (by simp)⟩⟩ h4
   refine⟨fun n=>?_,g2,by simp at g3 ⊢; omega⟩
   rw[g1 n];simp only[a5J,a05,a3y,or_false]
   constructor
   ·rintro ((((h|h)|h)|h)|h)<;>simp_all
   ·rintro (((h|h)|h)|h|h)<;>simp_all
  ·by_cases hc:before a.r x=true
   ·have af:=a9l.1 hc
    have q:a2S a x={ a with after:=a.after++[x] }:=by simp[a2S,hb,hc]
    rw[q]
    obtain⟨g1,g2,g3⟩:=b7E l { a with after:=a.after++[x] } hl.tail hr (fun y hy=>⟨(h1 y hy).1,fun z hz=>(h1 y hy).2 z (zas _ hz)⟩)
     (fun y hy=>by
      simp only[zbd,lN] at hy
      rcases hy with hy|hy
      ·exact⟨(h2 y hy).1,fun z hz=>(h2 y hy).2 z (zas _ hz)⟩
      ·subst hy;exact⟨af,ad⟩) h3
     ⟨fun y hy=>by
      simp only[zbd,lN] at hy
      rcases hy with hy|hy
      ·exact h4.1 y hy
      ·subst hy;exact ab,zcl.2 ⟨h4.2,by simp,fun y hy z hz=>by
       simp only[lN] at hz;subst hz;exact(h2 y hy).2 z (by simp)⟩⟩
    refine⟨fun n=>?_,g2,by simp at g3 ⊢; omega⟩
    rw[g1 n];simp only[a5J,a05,a3y,or_false]
    constructor
    ·rintro (((h|h)|(h|h))|h)<;>simp_all
    ·rintro (((h|h)|h)|h|h)<;>simp_all
   ·have q:a2S a x={ a with r:=c8D a.r x }:=by simp[a2S,hb,hc]
    rw[q]
    rw[a9l] at hb hc
    have u:∀ y∈a.after,y.hi+1<x.lo:=fun y hy=>(h2 y hy).2 x (by simp)
    have aa:a.after=[]:=by
     cases ha:a.after with
     |nil=>rfl
     |cons y ys=>
      have h5:=u y (by rw[ha];simp)
      have h6:=h4.1 y (by rw[ha];simp)
      have h7:=(h2 y (by rw[ha];simp)).1
      omega
    obtain⟨g1,g2,g3⟩:=b7E l { a with r:=c8D a.r x } hl.tail (by simp only[c8D];omega) (fun y hy=>⟨by
      have p1:=(h1 y hy).1
      have p2:=(h1 y hy).2 x (by simp)
      simp only[c8D];omega,fun z hz=>(h1 y hy).2 z (zas _ hz)⟩)
     (fun y hy=>by rw[aa] at hy;cases hy) h3 h4
    refine⟨fun n=>?_,g2,by simp at g3 ⊢; omega⟩
    rw[g1 n];simp only[a5J,a05,a3y,or_false,c8D]
    have:(min a.r.lo x.lo≤n∧n≤max a.r.hi x.hi)↔((a.r.lo≤n∧n≤a.r.hi)∨(x.lo≤n∧n≤x.hi)):=by omega
    rw[this]
    constructor
    ·rintro (((h|h|h)|h)|h)<;>simp_all
    ·rintro (((h|h)|h)|h|h)<;>simp_all
theorem c7k {q:List Rg} {r:Rg} (h:Nf q) (hr:r.lo≤r.hi):(∀ n,has (c7j q r) n↔(r.lo≤n∧n≤r.hi)∨has q n)∧Nf (c7j q r)∧(c7j q r).length≤q.length+1:=by
 have:=b7E q ⟨[],r,[]⟩ h hr (by simp) (by simp) ⟨by simp,by simp⟩ ⟨by simp,by simp⟩
 refine⟨fun n=>?_,this.2.1,?_⟩
 ·have h1:=this.1 n
  simp only[List.nil_append,zbq,a05,a3y,or_false] at h1
  exact h1
 ·have:=this.2.2;simp at this;unfold c7j;simp;omega
theorem a6Y:∀ (l q:List Rg),Nf q→(∀ n,has (l.foldl a9Q q) n↔has q n∨has l n)∧Nf (l.foldl a9Q q)∧(l.foldl a9Q q).length≤q.length+l.length
 |[],q,h=>⟨fun n=>by simp[a3y],h,by simp⟩
 |r::l,q,h=>by
  simp only[List.foldl_cons]
  by_cases hr:r.lo>r.hi
  ·have u:a9Q q r=q:=by simp only[a9Q,zaz hr]
   rw[u]
   obtain⟨g1,g2,g3⟩:=a6Y l q h
   refine⟨fun n=>?_,g2,by simp;omega⟩
   rw[g1 n,a05]
   have:¬ (r.lo≤n∧n≤r.hi):=by omega
   simp[this]
  ·have u:a9Q q r=c7j q r:=by simp only[a9Q,za5 hr]
   rw[u]
   obtain⟨k1,k2,k3⟩:=c7k h (r:=r) (by omega)
   obtain⟨g1,g2,g3⟩:=a6Y l (c7j q r) k2
   refine⟨fun n=>?_,g2,by simp;omega⟩
   rw[g1 n,k1 n,a05]
   constructor
   ·rintro ((h|h)|h)<;>simp_all
   ·rintro (h|h|h)<;>simp_all
theorem nf_has (l:List Rg) (n:Int):has (nf l) n↔has l n:=by
  have:=(a6Y l [] ⟨by simp,by simp⟩).1 n
  unfold nf
  simpa [a3y] using this
theorem nf_Nf (l:List Rg):Nf (nf l):=(a6Y l [] ⟨by simp,by simp⟩).2.1
theorem nf_len (l:List Rg):(nf l).length≤l.length:=by unfold nf;simpa using (a6Y l [] ⟨by simp,by simp⟩).2.2
theorem d00 {s l:List Rg} (h:Nf s) (k:∀ n,has s n↔has l n):s=nf l:=Nf.unique h (nf_Nf l) fun n=>(k n).trans (nf_has l n).symm
theorem b8M {s:List Rg} (hs:∀ n,has s n→ -9223372036854775808≤n∧n≤9223372036854775807) (h:Nf s):∀ r∈s,In6 r:=fun r hr=>by
  have h0:=h.1 r hr
  exact⟨hs _ ⟨r,hr,zco _,h0⟩,hs _ ⟨r,hr,h0,zco _⟩⟩
theorem c0N {s:List Rg} (hs:∀ r∈s,In6 r) (n:Int) (h:has s n): -9223372036854775808≤n∧n≤9223372036854775807:=by
  obtain⟨r,hr,h⟩:=h
  have:=hs r hr
  unfold In6 at this
  omega
theorem c5o {l:List Rg} (h:∀ r∈l,In6 r):∀ r∈nf l,In6 r:=
  b8M (fun n k=>c0N h n ((nf_has l n).1 k)) (nf_Nf l)
def mergeStep (q:List Rg) (r:Rg):List Rg:=
  match q.getLast? with
  |none=>q++[r]
  |some k=>if k.hi=9223372036854775807∨r.lo≤k.hi+1 then q.dropLast++[⟨k.lo,max k.hi r.hi⟩] else q++[r]
theorem b7F:∀ (l q:List Rg),(∀ r∈l,r.lo≤r.hi∧r.hi≤9223372036854775807)→l.Pairwise (fun x y=>x.lo≤y.lo)→Nf q→(∀ k∈q,∀ r∈l,k.lo≤r.lo)→ 
  (∀ n,has (l.foldl mergeStep q) n↔has q n∨has l n)∧Nf (l.foldl mergeStep q)
 |[],q,_,_,h,_=>⟨fun n=>by simp[a3y],h⟩
 |r::l,q,hl,hp,h,hk=>by
  simp only[List.foldl_cons]
  have ag:=zcj.1 hp
  have hr:=hl r (by simp)
  have key:(∀ n,has (mergeStep q r) n↔(r.lo≤n∧n≤r.hi)∨has q n)∧Nf (mergeStep q r)∧∀ k∈mergeStep q r,∀ y∈l,k.lo≤y.lo:=by
   have ab:∀ (o:List Rg),Nf o→(∀ x∈o,x.hi+1<r.lo)→(∀ k∈o,∀ y∈l,k.lo≤y.lo)→(∀ n,has (o++[r]) n↔(r.lo≤n∧n≤r.hi)∨has o n)∧Nf (o++[r])∧∀ k∈o++[r],∀ y∈l,k.lo≤y.lo:=by
    intro o ho ai ah
    refine⟨fun n=>by simp[a5J,a05,a3y,or_comm],⟨fun x hx=>?_,zcl.2 ⟨ho.2,by simp,fun x hx y hy=>?_⟩⟩,fun k hk y hy=>?_⟩
    ·rcases zbd.1 hx with hx|hx
     ·exact ho.1 x hx
     ·simp only[lN] at hx;subst hx;exact hr.1
    ·simp only[lN] at hy;subst hy;exact ai x hx
    ·rcases zbd.1 hk with hk|hk
     ·exact ah k hk y hy
     ·simp only[lN] at hk;subst hk;exact ag.1 y hy
   unfold mergeStep
   cases hg:q.getLast? with
   |none=>
    have:q=[]:=by simpa using hg
    subst this
    exact ab [] h (by simp) (by simp)
   |some k=>
    have af:q≠[]:=by intro e;subst e;simp at hg
    have u:q=q.dropLast++[k]:=by
     have:=List.dropLast_concat_getLast af
     rw[List.getLast?_eq_some_getLast af] at hg
     simp only[Option.some.injEq] at hg
     rw[← hg];exact this.symm
    have ae:k∈q:=by rw[u];simp
    have aj:=hk k ae r (by simp)
    have ak:=h.1 k ae
    have ad:∀ x∈q.dropLast,x.hi+1<k.lo:=by
     have:=h.2
     rw[u] at this
     exact fun x hx=>(zcl.1 this).2.2 x hx k (by simp)
    have aa:Nf q.dropLast:=⟨fun x hx=>h.1 x (List.dropLast_subset _ hx),(h.2).sublist (List.dropLast_sublist _)⟩
    by_cases hc:k.hi=9223372036854775807∨r.lo≤k.hi+1
    ·simp only[hc,za9]
     refine⟨fun n=>?_,⟨fun x hx=>?_,zcl.2 ⟨aa.2,by simp,fun x hx y hy=>?_⟩⟩,fun x hx y hy=>?_⟩
     ·conv=>rhs;rw[u]
      simp only[a5J,a05,a3y,or_false]
      have:(k.lo≤n∧n≤max k.hi r.hi)↔((r.lo≤n∧n≤r.hi)∨(k.lo≤n∧n≤k.hi)):=by
       rcases hc with hc|hc<;>omega
      rw[this]
      constructor
      ·rintro (h|h|h)<;>simp[h]
      ·rintro (h|h|h)<;>simp[h]
     ·rcases zbd.1 hx with hx|hx
      ·exact aa.1 x hx
      ·simp only[lN] at hx;subst hx;simp only;omega
     ·simp only[lN] at hy;subst hy;exact ad x hx
     ·rcases zbd.1 hx with hx|hx
      ·exact hk x (List.dropLast_subset _ hx) y (zas _ hy)
      ·simp only[lN] at hx;subst hx;exact hk k ae y (zas _ hy)
    ·simp only[hc,za2]
     refine ab q h (fun x hx=>?_) (fun x hx y hy=>hk x hx y (zas _ hy))
     rw[u] at hx
     rcases zbd.1 hx with hx|hx
     ·have:=ad x hx;omega
     ·simp only[lN] at hx;subst hx;omega
  obtain⟨k1,k2,k3⟩:=key
  obtain⟨g1,g2⟩:=b7F l (mergeStep q r) (fun y hy=>hl y (zas _ hy)) ag.2 k2 k3
  refine⟨fun n=>?_,g2⟩
  rw[g1 n,k1 n,a05]
  constructor
  ·rintro ((h|h)|h)<;>simp_all
  ·rintro (h|h|h)<;>simp_all
theorem c3F {l s:List Rg} (hl:∀ r∈l,In6 r) (hs:s.Perm (l.filter fun r=>decide (r.lo≤r.hi))) (hp:s.Pairwise fun x y=>x.lo≤y.lo):s.foldl mergeStep []=nf l:=by
 have q:∀ r∈s,r.lo≤r.hi∧r.hi≤9223372036854775807:=fun r hr=>by
  have:=hs.mem_iff.1 hr
  simp only[zc3,zan] at this
  exact⟨this.2,(hl r this.1).2.2⟩
 obtain⟨g1,g2⟩:=b7F s [] q hp ⟨by simp,by simp⟩ (by simp)
 refine d00 g2 fun n=>?_
 rw[g1 n,c3E hs,a3y,false_or]
 simp only[has,zc3,zan]
 constructor
 ·rintro⟨r,⟨h1,_⟩,h2⟩;exact⟨r,h1,h2⟩
 ·rintro⟨r,h1,h2⟩;exact⟨r,⟨h1,by omega⟩,h2⟩
def a3V (q:Int):List Rg→List Rg
  |[]=>[⟨q,9223372036854775807⟩]
  |r::l=>(if r.lo>q then [⟨q,r.lo-1⟩] else [])++(if r.hi=9223372036854775807 then [] else a3V (r.hi+1) l)
def d1p (a:List Rg):List Rg:=a3V (-9223372036854775808) (nf a)
theorem b1c:∀ (l:List Rg) (f:Int),Nf l→(∀ r∈l,In6 r)→(∀ r∈l,f≤r.lo)→f≤9223372036854775807→ -9223372036854775808≤f→
  (∀ n,has (a3V f l) n↔(f≤n∧n≤9223372036854775807)∧¬ has l n)∧Nf (a3V f l)∧(a3V f l).length≤l.length+1
 |[],f,_,_,_,hf,_=>by
  refine⟨fun n=>by simp[a3V,a05,a3y],⟨by simp[a3V];exact hf,by simp[a3V]⟩,by simp[a3V]⟩
 |r::l,f,h,h6,hfl,hf,hf2=>by
  have hr:=h.head
  have ad:=h6 r (by simp)
  have af:=hfl r (by simp)
  unfold In6 at ad
  unfold a3V
  by_cases aa:r.hi=9223372036854775807
  ·have ab:∀ n,¬ has l n:=by
    intro n k
    have h1:=h.after k
    have:=c0N (fun r hr=>h6 r (zas _ hr)) n k
    omega
   rw[zaz aa]
   by_cases q:r.lo>f
   ·rw[zaz q]
    refine⟨fun n=>?_,⟨by simp;omega,by simp⟩,by simp⟩
    simp only[zbq,a05,a3y,or_false,ab n]
    omega
   ·rw[za5 q]
    refine⟨fun n=>?_,⟨by simp,by simp⟩,by simp⟩
    simp only[zbq,a05,a3y,ab n,or_false]
    constructor<;>intro h<;>first|omega|exact h.elim
  ·rw[za5 aa]
   have ae:=(zcj.1 h.2).1
   obtain⟨g1,g2,g3⟩:=b1c l (r.hi+1) h.tail (fun x hx=>h6 x (zas _ hx)) (fun x hx=>by have:=ae x hx;omega) (by omega) (by omega)
   have u:∀ n,has l n→r.hi+1<n:=fun n k=>h.after k
   by_cases q:r.lo>f
   ·rw[zaz q]
    refine⟨fun n=>?_,⟨fun x hx=>?_,?_⟩,by simp;omega⟩
    ·simp only[List.cons_append,List.nil_append,a05,g1 n]
     by_cases hn:has l n
     ·have:=u n hn
      simp only[hn,not_true_eq_false,and_false,or_false,or_true]
      constructor<;>intro h<;>first|omega|exact h.elim
     ·simp only[hn,not_false_eq_true,and_true,or_false]
      omega
    ·simp only[List.cons_append,List.nil_append,zal] at hx
     rcases hx with hx|hx
     ·subst hx;simp only;omega
     ·exact g2.1 x hx
    ·simp only[List.cons_append,List.nil_append,zcj]
     refine⟨fun x hx=>?_,g2.2⟩
     have ag:=(g1 x.lo).1 ⟨x,hx,zco _,g2.1 x hx⟩
     omega
   ·rw[za5 q]
    refine⟨fun n=>?_,g2,by simp;omega⟩
    simp only[List.nil_append,a05,g1 n]
    by_cases hn:has l n
    ·simp[hn]
    ·simp only[hn,not_false_eq_true,and_true,or_false]
     omega
theorem comp_len {a:List Rg} (h:∀ r∈a,In6 r):(d1p a).length≤a.length+1:=by
  have h1:=(b1c (nf a) _ (nf_Nf a) (c5o h) (fun r hr=>(c5o h r hr).1.1) (by omega) (by omega)).2.2
  have h2:=nf_len a
  unfold d1p
  omega
def meet (r q:Rg):Rg:=⟨max r.lo q.lo,min r.hi q.hi⟩
end Go.Ivl
namespace Go.Proofs
open Go.Shelf
def Tryz.sortIv_ren:Go.Shelf.Ren:=⟨fun|6=>209|15=>137|14=>244|28=>202|29=>203|20=>258|21=>259|22=>260|23=>261|24=>262|25=>263|26=>264|27=>265|46=>271|47=>238|48=>239|49=>272|50=>273|57=>280|n=>n,fun|22=>131|24=>130|25=>217|3=>3|39=>165|0=>0|53=>210|55=>212|4=>4|46=>202|45=>201|50=>207|5=>5|9=>9|66=>234|70=>238|76=>255|77=>256|n=>n,fun|n=>n⟩
theorem Tryz.sortIv:Go.Proofs.SlLaysF0.n6 zP Tryz.sortIv_ren:={
  mixed:=by kernel_rfl,
  f6:=⟨"slices.SortFunc[[]semtype/api.Range,semtype/api.Range]",by decide,Tryz.func209.trans (congrArg some (by kernel_rfl))⟩,
  f14:=⟨"slices.pdqsortCmpFunc[semtype/api.Range]",by decide,Tryz.func244.trans (congrArg some (by kernel_rfl))⟩,
  f15:=Tryz.func137.trans (congrArg some (by kernel_rfl)),
  f20:=⟨"slices.insertionSortCmpFunc[semtype/api.Range]",by decide,Tryz.func258.trans (congrArg some (by kernel_rfl))⟩,
  f21:=⟨"slices.heapSortCmpFunc[semtype/api.Range]",by decide,Tryz.func259.trans (congrArg some (by kernel_rfl))⟩,
  f22:=⟨"slices.breakPatternsCmpFunc[semtype/api.Range]",by decide,Tryz.func260.trans (congrArg some (by kernel_rfl))⟩,
  f23:=⟨"slices.choosePivotCmpFunc[semtype/api.Range]",by decide,Tryz.func261.trans (congrArg some (by kernel_rfl))⟩,
  f24:=⟨"slices.reverseRangeCmpFunc[semtype/api.Range]",by decide,Tryz.func262.trans (congrArg some (by kernel_rfl))⟩,
  f25:=⟨"slices.partialInsertionSortCmpFunc[semtype/api.Range]",by decide,Tryz.func263.trans (congrArg some (by kernel_rfl))⟩,
  f26:=⟨"slices.partitionEqualCmpFunc[semtype/api.Range]",by decide,Tryz.func264.trans (congrArg some (by kernel_rfl))⟩,
  f27:=⟨"slices.partitionCmpFunc[semtype/api.Range]",by decide,Tryz.func265.trans (congrArg some (by kernel_rfl))⟩,
  f28:=Tryz.func202.trans (congrArg some (by kernel_rfl)),
  f29:=Tryz.func203.trans (congrArg some (by kernel_rfl)),
  f46:=⟨"slices.siftDownCmpFunc[semtype/api.Range]",by decide,Tryz.func271.trans (congrArg some (by kernel_rfl))⟩,
  f47:=Tryz.func238.trans (congrArg some (by kernel_rfl)),
  f48:=Tryz.func239.trans (congrArg some (by kernel_rfl)),
  f49:=⟨"slices.medianAdjacentCmpFunc[semtype/api.Range]",by decide,Tryz.func272.trans (congrArg some (by kernel_rfl))⟩,
  f50:=⟨"slices.medianCmpFunc[semtype/api.Range]",by decide,Tryz.func273.trans (congrArg some (by kernel_rfl))⟩,
  f57:=⟨"slices.order2CmpFunc[semtype/api.Range]",by decide,Tryz.func280.trans (congrArg some (by kernel_rfl))⟩,
  t0:=Tryz.underlying0,
  a0:=Tryz.isAgg0,
  z0:=Tryz.sizeOf0,
  v0:=Tryz.zeroValue0,
  t3:=Tryz.underlying3,
  a3:=Tryz.isAgg3,
  z3:=Tryz.sizeOf3,
  v3:=Tryz.zeroValue3,
  t4:=Tryz.underlying4,
  a4:=Tryz.isAgg4,
  z4:=Tryz.sizeOf4,
  v4:=Tryz.zeroValue4,
  t5:=Tryz.underlying5,
  a5:=Tryz.isAgg5,
  z5:=Tryz.sizeOf5,
  v5:=Tryz.zeroValue5,
  t9:=Tryz.underlying9,
  a9:=Tryz.isAgg9,
  z9:=Tryz.sizeOf9,
  v9:=Tryz.zeroValue9,
  t22:=Tryz.underlying131,
  a22:=Tryz.isAgg131,
  z22:=Tryz.sizeOf131,
  v22:=Tryz.zeroValue131,
  t25:=Tryz.underlying217,
  a25:=Tryz.isAgg217,
  z25:=Tryz.sizeOf217,
  v25:=Tryz.zeroValue217,
  t39:=Tryz.underlying165,
  a39:=Tryz.isAgg165,
  z39:=Tryz.sizeOf165,
  v39:=Tryz.zeroValue165,
  t45:=Tryz.underlying201,
  a45:=Tryz.isAgg201,
  z45:=Tryz.sizeOf201,
  v45:=Tryz.zeroValue201,
  t46:=Tryz.underlying202,
  a46:=Tryz.isAgg202,
  z46:=Tryz.sizeOf202,
  v46:=Tryz.zeroValue202,
  t50:=Tryz.underlying207,
  a50:=Tryz.isAgg207,
  z50:=Tryz.sizeOf207,
  v50:=Tryz.zeroValue207,
  t53:=Tryz.underlying210,
  a53:=Tryz.isAgg210,
  z53:=Tryz.sizeOf210,
  v53:=Tryz.zeroValue210,
  t55:=Tryz.underlying212,
  a55:=Tryz.isAgg212,
  z55:=Tryz.sizeOf212,
  v55:=Tryz.zeroValue212,
  t66:=Tryz.underlying234,
  a66:=Tryz.isAgg234,
  z66:=Tryz.sizeOf234,
  v66:=Tryz.zeroValue234,
  t70:=Tryz.underlying238,
  a70:=Tryz.isAgg238,
  z70:=Tryz.sizeOf238,
  v70:=Tryz.zeroValue238,
  t76:=Tryz.underlying255,
  a76:=Tryz.isAgg255,
  z76:=Tryz.sizeOf255,
  v76:=Tryz.zeroValue255,
  t77:=Tryz.underlying256,
  a77:=Tryz.isAgg256,
  z77:=Tryz.sizeOf256,
  v77:=Tryz.zeroValue256 }
end Go.Proofs
namespace Go.Proofs.YtoelgackkclcmaaGreat
open Go Go.Shelf Go.RowKit Go.Lib Go.Sort
theorem c0O (a:Int) (W:World):Calls zP 245 #[.int .i64 a] W fun e w'=>e= .returned (.bool false)∧w'=W:=by
  go_enter Tryz.func245,Tryz.ntmps245
  go_wp2
  go_ret
  exact⟨rfl,rfl⟩
theorem b6o (a b:Int) (W:World):Calls zP 211 #[.int .i64 a, .int .i64 b] W fun e w'=>e= .returned (.int .i64 (a5Q a b))∧w'=W:=by
 have q:=fun a W'=>c0O a W'
 have hc:a5Q a b=if a<b then -1 else if b<a then 1 else 0:=by
  unfold a5Q
  by_cases h1:a<b
  ·simp[h1]
  ·by_cases h2:b<a<;>simp[h1,h2]
 rw[hc]
 go_enter Tryz.func211,Tryz.ntmps211
 go_wp2_with (go_at_call 245;refine(q _ _).mono ?_;rintro e w' ⟨rfl,rfl⟩)
 all_goals go_ret
 all_goals exact⟨rfl,rfl⟩
theorem c9E (x1 x2 y1 y2:Int) (W:World):Calls zP 210 #[.agg #[.int .i64 x1, .int .i64 x2], .agg #[.int .i64 y1, .int .i64 y2]] W fun e w'=>e= .returned (.int .i64 (a5Q x1 y1))∧∃ q aa,w'=grow (W.drewN q) aa:=by
  have u:=fun W'=>b6o x1 y1 W'
  generalize a5Q x1 y1=r at u ⊢
  go_enter Tryz.func210,Tryz.ntmps210
  go_wp2_with (go_at_call 211;refine(u _).mono ?_;rintro e w' ⟨rfl,rfl⟩)
  go_ret
  exact⟨rfl,0,_,by rw[alloc_eq_grow,alloc_eq_grow,grow_grow];rfl⟩
end Go.Proofs.YtoelgackkclcmaaGreat

namespace Go.Proofs.YtoelgackkclcmaaGreat
open Go Go.Sx
theorem b4L (v:Val) (hk:v.kids=[]) (he:v.ents=[]):a0t v=a0K v:=by
  rw[a2v,hk,he];simp
theorem b8N (a:Option Addr) (n cap:Nat) (hn:n≤cap) (w:World):Calls zP 132 #[.slice a n cap] w fun e w'=>e= .returned (.slice a n n)∧w'=w:=by
  go_enter Tryz.func132,Tryz.ntmps132
  go_wp2
  all_goals go_ret
  all_goals exact⟨rfl,rfl⟩
theorem c9F (rows:List (List C)):PC zP 132 [.one (.dat (.sl 1 rows))] (.one (.dat (.sl 1 rows))):=by
  refine⟨⟨_,Tryz.func132,by decide,rfl⟩,?_⟩
  intro M ν w vs hs hreps
  simp only[T.reps,T.rep,Cell.rep,C.rep] at hreps
  obtain⟨v,q,rfl,⟨a,cap,mid,rfl,h1,h2,h3,h4⟩,rfl⟩:=hreps
  refine Calls.mono (b8N a rows.length cap h1 w) ?_
  rintro e w' ⟨rfl,rfl⟩
  refine⟨_,M,rfl,Mem.ext.refl _ M,?_,hs⟩
  simp only[T.rep,Cell.rep,C.rep]
  exact⟨a,rows.length,mid,rfl,zax _,zbe h1 h2,h3,h4⟩
end Go.Proofs.YtoelgackkclcmaaGreat

