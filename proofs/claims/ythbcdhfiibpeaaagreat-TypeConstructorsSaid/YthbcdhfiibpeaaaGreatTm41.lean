/- Lemmas of the proof. -/
import Derived.Test.YthbcdhfiibpeaaaGreatTm39
import Derived.Test.YthbcdhfiibpeaaaGreatTm40
open Nat renaming reduceBEq→zA,reduceBNe→zB,reduceAdd→zC,reduceSub→zD,reduceMul→zE,reduceLeDiff→zF,reduceLT→zG,reduceEqDiff→zH
open Int renaming reduceToNat→zI,reduceLE→zJ,reduceLT→zK,reduceEq→zL
open Bool renaming not_eq_true'→zM,not_eq_false'→zN
set_option linter.unusedSimpArgs false
set_option linter.unusedVariables false
set_option maxRecDepth 20000
set_option maxHeartbeats 64000000
namespace Go.Proofs.YthbcdhfiibpeaaaGreat
open Go Go.Sx
theorem c4C {x:NodeD} (h:a0z x=true):1≤x.kind∧x.kind≤19:=by
 rcases Decidable.em (1≤x.kind∧x.kind≤19) with h1|h1
 ·exact h1
 ·exfalso
  have e:∀ i:Int,1≤i→i≤19→decide (x.kind=i)=false:=fun i h2 h3=>by rw[decide_eq_false_iff_not];omega
  unfold a0z at h
  simp only[e 1 (by omega) (by omega),e 2 (by omega) (by omega),e 3 (by omega) (by omega),e 4 (by omega) (by omega),e 5 (by omega) (by omega),e 6 (by omega) (by omega),e 7 (by omega) (by omega),e 8 (by omega) (by omega),e 9 (by omega) (by omega),e 10 (by omega) (by omega),e 11 (by omega) (by omega),e 12 (by omega) (by omega),e 13 (by omega) (by omega),e 14 (by omega) (by omega),e 15 (by omega) (by omega),e 16 (by omega) (by omega),e 17 (by omega) (by omega),e 18 (by omega) (by omega),e 19 (by omega) (by omega),Bool.or_false,cond_false] at h
  cases h
theorem b3A {v p:Val} (h:a0C v=true) (hp:p∈v.kids):a0C p=true:=by
  rw[a1p] at h
  simp only[Bool.and_eq_true] at h
  exact List.all_eq_true.1 h.2.1 p hp
theorem b3B {v:Val} {e:List Val×Bool×Val} (h:a0C v=true) (he:e∈v.ents):(∀ p∈e.1,a0C p=true)∧(e.2.1=false→a0C e.2.2=true):=by
  rw[a1p] at h
  simp only[Bool.and_eq_true] at h
  have:=List.all_eq_true.1 h.2.2 e he
  simp only[a7k,Bool.and_eq_true,Bool.or_eq_true] at this
  refine⟨fun p hp=>List.all_eq_true.1 this.1 p hp,fun hf=>?_⟩
  rcases this.2 with h2|h2
  · rw[hf] at h2;cases h2
  · exact h2
theorem b9l {v:Val} (h:a0C v=true) (hk:v.kind=8):v.keys.length=v.kids.length∧∀ k∈v.keys,k.kind=0∨k.kind=1:=by
  rw[a80,a0P,a3t,hk] at h
  simp only[Int.reduceEq,decide_true,decide_false,cond_true,cond_false,c7C,Bool.and_eq_true,decide_eq_true_eq] at h
  refine⟨by omega,fun k hk=>?_⟩
  have:=List.all_eq_true.1 h.1.2.2.2.2.2 k hk
  simp only[a0s,Bool.or_eq_true,Bool.and_eq_true,decide_eq_true_eq] at this
  rcases this with h2|h2
  · exact .inl h2.1
  · exact .inr h2.1
theorem b0g (l:List NodeD) (r:Int) (g:Val→Int→Bool) (v:Val) (hv:a0C v=true) (k:Nat) (x:NodeD) (hx:l[k]?= some x) (hval:a0z x=true) (hkids:x.kids.length≤1000000)
  (hne:a3x x.kind=true∨x.kind=14→x.kids≠[]) (HP:∀ p k',a1V p<a1V v→a0C p=true→k'∈edgeL x→b3r l r g p k') (HB:a3x x.kind=true→∀ k'∈x.kids,b3r l r g v k'):
  PC Tryz.prog 52 [Vt v,Tt l r,I .i64 (k:Int)] (Bo (memN g x v)):=by
 have hM:=b3s l r g v.kids x.kids fun p hp k' hk'=>HP p k' (a3A hp) (b3A hv hp) (a2m hk')
 have h19:=c4C hval
 have hc:x.kind=1∨x.kind=2∨x.kind=3∨x.kind=4∨x.kind=5∨x.kind=6∨x.kind=7∨x.kind=8∨x.kind=9∨x.kind=10∨x.kind=11∨x.kind=12∨x.kind=13∨x.kind=14∨x.kind=15∨x.kind=16∨x.kind=17∨x.kind=18∨x.kind=19:=by omega
 rcases hc with h|h|h|h|h|h|h|h|h|h|h|h|h|h|h|h|h|h|h
 ·exact b88 l r g v k x hx h
 ·exact b89 l r g v k x hx h
 ·exact b9a l r g v k x hx h
 ·exact b9b l r g v k x hx h
 ·exact b9d l r g v k x hx h
 ·exact b9c l r g v k x hx h
 ·exact b9e l r g v k x hx h
 ·exact b9f l r g v k x hx h
 ·exact b9g l r g v k x hx h
 ·exact b6U l r g v k x hx h hM
 ·exact b6Y l r g v k x hx h
 ·exact b6V l r g v k x hx h hM
 ·refine b6W l r g v k x hx h fun h8=>?_
  have hm:=b9l hv h8
  have:=b6T l r g x v h hm.1 hm.2 fun p hp k' hk'=>HP p k' (a3A hp) (b3A hv hp) hk'
  rw[Vt,a0a] at this
  exact this
 ·refine b6X l r g v k x hx h fun h9=>?_
  have hk1:1≤x.kids.length:=by have:=List.length_pos_iff.2 (hne (.inr h));omega
  have:=b4R l r g x v hk1 hkids (fun e he p hp k' hk'=>HP p k' (b2g he hp) ((b3B hv he).1 p hp) (a2m hk')) (fun e he hf k' hk'=>HP e.2.2 k' (b2h he) ((b3B hv he).2 hf) (a2m hk'))
  rw[Vt,a0a] at this
  exact this
 ·exact b6Z l r g v k x hx h
 ·exact b62 l r g v k x hx h (HB (by rw[h];rfl))
 ·exact b63 l r g v k x hx h (HB (by rw[h];rfl))
 ·exact b64 l r g v k x hx h (hne (.inl (by rw[h];rfl))) (HB (by rw[h];rfl))
 ·exact b65 l r g v k x hx h
theorem b66 {l:List NodeD} {R:Nat} (hl:Wf l R) (hsm:TSm l) (r:Int):∀ (b m:Nat) (v:Val) (k:Int),a1V v≤b→a0C v=true→0≤k∧k<(l.length:Int)→Hb l m k.toNat→b3r l r (a4k l) v k:=by
 intro b
 induction b with
 |zero=>intro m v k hb;have:=a9M v;omega
 |succ b ihb=>
  intro m
  induction m with
  |zero=>
   intro v k hb hv hk hh
   have hmem:=inN hk
   have hN:=hl.kind _ hmem
   simp only[a1A,Bool.and_eq_true] at hN
   unfold b3r
   rw[a2s hl hk,show k=((k.toNat:Nat):Int) by omega]
   refine b0g l r (a4k l) v hv k.toNat (a2F l k) (c61 hk) hN.2.1 (hsm.kids _ hmem) (hl.kids _ hmem) (fun p k' hp ht hk'=>?_) (fun hbo k' hk'=>?_)
   ·have he:=hl.edge _ hmem k' hk'
    exact ihb R p k' (by omega) ht he (hl.hb _ (by omega))
   ·have:=hh (by rw[c1E hk];exact hbo)
    rw[c1D hk,List.map_eq_nil_iff] at this
    rw[this] at hk';cases hk'
  |succ m ihm=>
   intro v k hb hv hk hh
   have hmem:=inN hk
   have hN:=hl.kind _ hmem
   simp only[a1A,Bool.and_eq_true] at hN
   unfold b3r
   rw[a2s hl hk,show k=((k.toNat:Nat):Int) by omega]
   refine b0g l r (a4k l) v hv k.toNat (a2F l k) (c61 hk) hN.2.1 (hsm.kids _ hmem) (hl.kids _ hmem) (fun p k' hp ht hk'=>?_) (fun hbo k' hk'=>?_)
   ·have he:=hl.edge _ hmem k' hk'
    exact ihb R p k' (by omega) ht he (hl.hb _ (by omega))
   ·have he:=hl.edge _ hmem k' (a2m hk')
    exact ihm v k' hb hv he (hh (by rw[c1E hk];exact hbo) k'.toNat (by rw[c1D hk];exact List.mem_map_of_mem hk'))
theorem b67 {l:List NodeD} {R:Nat} (hl:Wf l R) (hsm:TSm l) (r:Int) (v:Val) (hv:a0C v=true) (k:Int) (hk:0≤k∧k<(l.length:Int)):b3r l r (a4k l) v k:=
  b66 hl hsm r (a1V v) R v k (Nat.le_refl _) hv hk (hl.hb _ (by omega))
noncomputable def b0K (v:Val) (l:List NodeD) (r k:Int):Bool:=a0C v&&(decide (wfP l r=0)&&(inB l k&&a4k l v k))
theorem b68 (v:Val):PC Tryz.prog 51 [.st [.int .i64 v.kind, .int .i64 v.num, .str v.text, .sl 7 (v.kids.map a0g), .sl 2 (v.keys.map a0k), .sl 9 (v.ents.map a0l), .sl 1 (v.labels.map Sx.encStr)]] (Bo (a0C v)):=by
  rw[← a0a];exact a9U v
theorem b69 (v:Val) (l:List NodeD) (r k:Int) (hsm:TSm l):PC Tryz.prog 13 [Vt v,Tt l r,I .i64 k] (Bo (b0K v l r k)):=by
 have hV:=b68 v
 have hW:=a40 l r hsm
 have hI:=a0y l r k
 unfold b0K
 cases ht:a0C v
 ·
  refine PCB.ob Tryz.func13 Tryz.ntmps13 Tryz.results13 ?_
  repeat'(first|(simp only[go_sem,zA,zB,zC,zD,zE,zF,zG,reduceCtorEq,zH,zI,zJ,zK,zL,a0a v,ht];all_goals refine nf ?_)|(refine stp ?_;intro K hK)|(apply hK;clear hK K)|refine stn ?_|(with_reducible refine⟨_,hV,?_⟩)|refine stq ?_|fail)
  all_goals(first|exact fun _ h=>absurd h List.not_mem_nil|(refine a0m ?_;rfl))
 cases hw:decide (wfP l r=0)
 ·
  refine PCB.ob Tryz.func13 Tryz.ntmps13 Tryz.results13 ?_
  repeat'(first|(simp only[go_sem,zA,zB,zC,zD,zE,zF,zG,reduceCtorEq,zH,zI,zJ,zK,zL,a0a v,ht,hw];all_goals refine nf ?_)|(refine stp ?_;intro K hK)|(apply hK;clear hK K)|refine stn ?_|(with_reducible first|refine⟨_,hV,?_⟩|refine⟨_,hW,?_⟩)|refine stq ?_|fail)
  all_goals(first|exact fun _ h=>absurd h List.not_mem_nil|(refine a0m ?_;rfl))
 cases hi:inB l k
 ·
  refine PCB.ob Tryz.func13 Tryz.ntmps13 Tryz.results13 ?_
  repeat'(first|(simp only[go_sem,zA,zB,zC,zD,zE,zF,zG,reduceCtorEq,zH,zI,zJ,zK,zL,a0a v,ht,hw,hi];all_goals refine nf ?_)|(refine stp ?_;intro K hK)|(apply hK;clear hK K)|refine stn ?_|(with_reducible first|refine⟨_,hV,?_⟩|refine⟨_,hW,?_⟩|refine⟨_,hI,?_⟩)|refine stq ?_|fail)
  all_goals(first|exact fun _ h=>absurd h List.not_mem_nil|(refine a0m ?_;rfl))
 obtain⟨R,hR⟩:=Wf.of (of_decide_eq_true hw)
 have hM:=(b67 hR hsm r v ht k (by simpa [inB] using hi)).e
 refine PCB.ob Tryz.func13 Tryz.ntmps13 Tryz.results13 ?_
 repeat'(first|(simp only[go_sem,zA,zB,zC,zD,zE,zF,zG,reduceCtorEq,zH,zI,zJ,zK,zL,a0a v,ht,hw,hi];all_goals refine nf ?_)|(refine stp ?_;intro K hK)|(apply hK;clear hK K)|refine stn ?_|(with_reducible first|refine⟨_,hV,?_⟩|refine⟨_,hW,?_⟩|refine⟨_,hI,?_⟩|refine⟨_,hM,?_⟩)|refine stq ?_|fail)
 all_goals(first|exact fun _ h=>absurd h List.not_mem_nil|(refine a0m ?_;rfl))
theorem c1I (v:Val) (l:List NodeD) (r:Int) (hsm:TSm l):PC Tryz.prog 14 [Vt v,Tt l r] (Bo (b0K v l r r)):=by
  have hM:=b69 v l r r hsm
  rw[Vt,a0a] at hM
  refine PCB.ob Tryz.func14 Tryz.ntmps14 Tryz.results14 ?_
  repeat'(first|(simp only[go_sem,zA,zB,zC,zD,zE,zF,zG,reduceCtorEq,zH,zI,zJ,zK,zL,a0a v];all_goals refine nf ?_)|(refine stp ?_;intro K hK)|(apply hK;clear hK K)|refine stn ?_|(with_reducible refine⟨_,hM,?_⟩)|refine stq ?_|fail)
  all_goals(first|exact fun _ h=>absurd h List.not_mem_nil|(refine a0m ?_;rfl))
end Go.Proofs.YthbcdhfiibpeaaaGreat

