/- Lemmas. -/
import Derived.Test.YtoelgackkclcmaaGreatPc39
open Go.Proofs.Tryz renaming prog→zP
open List renaming length_map→lB
set_option linter.unusedSimpArgs false
set_option linter.unusedVariables false
set_option maxRecDepth 20000
set_option maxHeartbeats 64000000
namespace Go.Proofs.YtoelgackkclcmaaGreat
open Go Go.Sx
theorem b8X (l:List NodeD) (r:Int) (g:Val→Int→Bool) (v:Val) (k:Nat) (x:NodeD) (hx:l[k]?= some x) (hk:x.kind=10) (u:PC zP 158 [.one (.dat (.sl 7 (v.kids.map a0c))), .st [.sl 8 (l.map a0e), .int .i64 r], .one (.dat (.sl 1 (x.kids.map a0h)))] (Bo (a4S g v.kids x.kids))):PC zP 99 [Vt v,Tt l r,I .i64 (k:Int)] (Bo (memN g x v)):=by
 have q:=a0y a0e hx
 unfold memN
 simp only[hk,Int.reduceEq,zac,zad,zaa,zab]
 refine PCB.ob Tryz.func99 Tryz.ntmps99 Tryz.results99 ?_
 cases hv:decide (v.kind=6)
 ·
  repeat'(first|simp only[go_sem,a0a v,lB,a0d,hk,hv]<;>refine nf ?_|refine stp ?_;intro K hK|apply hK;clear hK K|refine stn ?_|(with_reducible refine⟨by omega,a0e x,q,?_⟩)|clear hK K)
  all_goals(first|exact fun _ h=>absurd h zaf|(refine a0m ?_;first|rfl|(simp only[hv]<;>rfl)))
 ·
  have hM:=(fun _:v.kind=6=>u) (of_decide_eq_true hv)
  repeat'(first|simp only[go_sem,a0a v,lB,a0d,hk,hv]<;>refine nf ?_|refine stp ?_;intro K hK|apply hK;clear hK K|refine stn ?_|(with_reducible first|refine⟨by omega,a0e x,q,?_⟩|refine⟨_,hM,?_⟩)|refine stq ?_|clear hK K)
  all_goals(first|exact fun _ h=>absurd h zaf|(refine a0m ?_;first|rfl|(simp only[hv,zae]<;>rfl)))
theorem b8Y (l:List NodeD) (r:Int) (g:Val→Int→Bool) (v:Val) (k:Nat) (x:NodeD) (hx:l[k]?= some x) (hk:x.kind=12) (u:PC zP 158 [.one (.dat (.sl 7 (v.kids.map a0c))), .st [.sl 8 (l.map a0e), .int .i64 r], .one (.dat (.sl 1 (x.kids.map a0h)))] (Bo (a4S g v.kids x.kids))):PC zP 99 [Vt v,Tt l r,I .i64 (k:Int)] (Bo (memN g x v)):=by
 have q:=a0y a0e hx
 unfold memN
 simp only[hk,Int.reduceEq,zac,zad,zaa,zab]
 refine PCB.ob Tryz.func99 Tryz.ntmps99 Tryz.results99 ?_
 cases hv:decide (v.kind=7)
 ·
  repeat'(first|simp only[go_sem,a0a v,lB,a0d,hk,hv]<;>refine nf ?_|refine stp ?_;intro K hK|apply hK;clear hK K|refine stn ?_|(with_reducible refine⟨by omega,a0e x,q,?_⟩)|clear hK K)
  all_goals(first|exact fun _ h=>absurd h zaf|(refine a0m ?_;first|rfl|(simp only[hv]<;>rfl)))
 ·
  have hM:=(fun _:v.kind=7=>u) (of_decide_eq_true hv)
  repeat'(first|simp only[go_sem,a0a v,lB,a0d,hk,hv]<;>refine nf ?_|refine stp ?_;intro K hK|apply hK;clear hK K|refine stn ?_|(with_reducible first|refine⟨by omega,a0e x,q,?_⟩|refine⟨_,hM,?_⟩)|refine stq ?_|clear hK K)
  all_goals(first|exact fun _ h=>absurd h zaf|(refine a0m ?_;first|rfl|(simp only[hv,zae]<;>rfl)))
theorem b8Z (l:List NodeD) (r:Int) (g:Val→Int→Bool) (v:Val) (k:Nat) (x:NodeD) (hx:l[k]?= some x) (hk:x.kind=13) (u:v.kind=8→PC zP 159 [.st [.int .i64 v.kind, .int .i64 v.num, .str v.text, .sl 7 (v.kids.map a0c), .sl 2 (v.keys.map a0i), .sl 9 (v.ents.map a0n), .sl 1 (v.labels.map Sx.encStr)], .st [.sl 8 (l.map a0e), .int .i64 r], .st [.int .i64 x.kind, .int .i64 x.lo, .int .i64 x.hi, .str x.text, .sl 1 (x.kids.map a0h), .sl 4 (x.fields.map a0o), .int .i64 x.r0, .int .i64 x.r1]] (Bo (a9Y g x v))):PC zP 99 [Vt v,Tt l r,I .i64 (k:Int)] (Bo (memN g x v)):=by
 have q:=a0y a0e hx
 unfold memN
 simp only[hk,Int.reduceEq,zac,zad,zaa,zab]
 refine PCB.ob Tryz.func99 Tryz.ntmps99 Tryz.results99 ?_
 rw[hk] at u
 cases hv:decide (v.kind=8)
 ·
  repeat'(first|simp only[go_sem,a0a v,lB,a0d,hk,hv]<;>refine nf ?_|refine stp ?_;intro K hK|apply hK;clear hK K|refine stn ?_|(with_reducible refine⟨by omega,a0e x,q,?_⟩)|clear hK K)
  all_goals(first|exact fun _ h=>absurd h zaf|(refine a0m ?_;first|rfl|(simp only[hv]<;>rfl)))
 ·
  have hM:=u (of_decide_eq_true hv)
  repeat'(first|simp only[go_sem,a0a v,lB,a0d,hk,hv]<;>refine nf ?_|refine stp ?_;intro K hK|apply hK;clear hK K|refine stn ?_|(with_reducible first|refine⟨by omega,a0e x,q,?_⟩|refine⟨_,hM,?_⟩)|refine stq ?_|clear hK K)
  all_goals(first|exact fun _ h=>absurd h zaf|(refine a0m ?_;first|rfl|(simp only[hv,zae]<;>rfl)))
theorem b80 (l:List NodeD) (r:Int) (g:Val→Int→Bool) (v:Val) (k:Nat) (x:NodeD) (hx:l[k]?= some x) (hk:x.kind=14) (u:v.kind=9→PC zP 160 [.st [.int .i64 v.kind, .int .i64 v.num, .str v.text, .sl 7 (v.kids.map a0c), .sl 2 (v.keys.map a0i), .sl 9 (v.ents.map a0n), .sl 1 (v.labels.map Sx.encStr)], .st [.sl 8 (l.map a0e), .int .i64 r], .st [.int .i64 x.kind, .int .i64 x.lo, .int .i64 x.hi, .str x.text, .sl 1 (x.kids.map a0h), .sl 4 (x.fields.map a0o), .int .i64 x.r0, .int .i64 x.r1]] (Bo (b8O g x v))):PC zP 99 [Vt v,Tt l r,I .i64 (k:Int)] (Bo (memN g x v)):=by
 have q:=a0y a0e hx
 unfold memN
 simp only[hk,Int.reduceEq,zac,zad,zaa,zab]
 refine PCB.ob Tryz.func99 Tryz.ntmps99 Tryz.results99 ?_
 rw[hk] at u
 cases hv:decide (v.kind=9)
 ·
  repeat'(first|simp only[go_sem,a0a v,lB,a0d,hk,hv]<;>refine nf ?_|refine stp ?_;intro K hK|apply hK;clear hK K|refine stn ?_|(with_reducible refine⟨by omega,a0e x,q,?_⟩)|clear hK K)
  all_goals(first|exact fun _ h=>absurd h zaf|(refine a0m ?_;first|rfl|(simp only[hv]<;>rfl)))
 ·
  have hM:=u (of_decide_eq_true hv)
  repeat'(first|simp only[go_sem,a0a v,lB,a0d,hk,hv]<;>refine nf ?_|refine stp ?_;intro K hK|apply hK;clear hK K|refine stn ?_|(with_reducible first|refine⟨by omega,a0e x,q,?_⟩|refine⟨_,hM,?_⟩)|refine stq ?_|clear hK K)
  all_goals(first|exact fun _ h=>absurd h zaf|(refine a0m ?_;first|rfl|(simp only[hv,zae]<;>rfl)))
theorem c7l {x:NodeD} (h:a0G x=true):1≤x.kind∧x.kind≤19:=by
 rcases Decidable.em (1≤x.kind∧x.kind≤19) with h1|h1
 ·exact h1
 ·exfalso
  have e:∀ i:Int,1≤i→i≤19→decide (x.kind=i)=false:=fun i h2 h3=>by rw[zah];omega
  unfold a0G at h
  simp only[e 1 (by omega) (by omega),e 2 (by omega) (by omega),e 3 (by omega) (by omega),e 4 (by omega) (by omega),e 5 (by omega) (by omega),e 6 (by omega) (by omega),e 7 (by omega) (by omega),e 8 (by omega) (by omega),e 9 (by omega) (by omega),e 10 (by omega) (by omega),e 11 (by omega) (by omega),e 12 (by omega) (by omega),e 13 (by omega) (by omega),e 14 (by omega) (by omega),e 15 (by omega) (by omega),e 16 (by omega) (by omega),e 17 (by omega) (by omega),e 18 (by omega) (by omega),e 19 (by omega) (by omega),zaj,zab] at h
  cases h
theorem a60 {v p:Val} (h:a0t v=true) (hp:p∈v.kids):a0t p=true:=by
  rw[a2v] at h
  simp only[zag] at h
  exact za0.1 h.2.1 p hp
theorem b4O {v:Val} {e:List Val×Bool×Val} (h:a0t v=true) (he:e∈v.ents):(∀ p∈e.1,a0t p=true)∧(e.2.1=false→a0t e.2.2=true):=by
  rw[a2v] at h
  simp only[zag] at h
  have:=za0.1 h.2.2 e he
  simp only[b4d,zag,zb6] at this
  refine⟨fun p hp=>za0.1 this.1 p hp,fun hf=>?_⟩
  rcases this.2 with h2|h2
  · rw[hf] at h2;cases h2
  · exact h2
theorem b4P {v:Val} (h:a0t v=true) (hk:v.kind=8):v.keys.length=v.kids.length∧∀ k∈v.keys,k.kind=0∨k.kind=1:=by
  rw[a7l,a0K,a2R,hk] at h
  simp only[Int.reduceEq,zac,zad,zaa,zab,c5E,zag,zan] at h
  refine⟨by omega,fun k hk=>?_⟩
  have:=za0.1 h.1.2.2.2.2.2 k hk
  simp only[a0l,zb6,zag,zan] at this
  rcases this with h2|h2
  · exact .inl h2.1
  · exact .inr h2.1
theorem b1g (l:List NodeD) (r:Int) (g:Val→Int→Bool) (v:Val) (hv:a0t v=true) (k:Nat) (x:NodeD) (hx:l[k]?= some x) (ab:a0G x=true) (u:x.kids.length≤1000000)
  (aa:a4Z x.kind=true∨x.kind=14→x.kids≠[]) (HP:∀ p k',a2q p<a2q v→a0t p=true→k'∈edgeL x→b4M l r g p k') (HB:a4Z x.kind=true→∀ k'∈x.kids,b4M l r g v k'):
  PC zP 99 [Vt v,Tt l r,I .i64 (k:Int)] (Bo (memN g x v)):=by
 have hM:=b4N l r g v.kids x.kids fun p hp k' q=>HP p k' (a8D hp) (a60 hv hp) (a24 q)
 have ae:=c7l ab
 have hc:x.kind=1∨x.kind=2∨x.kind=3∨x.kind=4∨x.kind=5∨x.kind=6∨x.kind=7∨x.kind=8∨x.kind=9∨x.kind=10∨x.kind=11∨x.kind=12∨x.kind=13∨x.kind=14∨x.kind=15∨x.kind=16∨x.kind=17∨x.kind=18∨x.kind=19:=by omega
 rcases hc with h|h|h|h|h|h|h|h|h|h|h|h|h|h|h|h|h|h|h
 ·exact c0Q l r g v k x hx h
 ·exact c0R l r g v k x hx h
 ·exact c0S l r g v k x hx h
 ·exact c0T l r g v k x hx h
 ·exact c0V l r g v k x hx h
 ·exact c0U l r g v k x hx h
 ·exact c0W l r g v k x hx h
 ·exact c0X l r g v k x hx h
 ·exact c0Y l r g v k x hx h
 ·exact b8X l r g v k x hx h hM
 ·exact b8R l r g v k x hx h
 ·exact b8Y l r g v k x hx h hM
 ·refine b8Z l r g v k x hx h fun h8=>?_
  have hm:=b4P hv h8
  have:=b8Q l r g x v h hm.1 hm.2 fun p hp k' q=>HP p k' (a8D hp) (a60 hv hp) q
  rw[Vt,a0a] at this
  exact this
 ·refine b80 l r g v k x hx h fun h9=>?_
  have ad:1≤x.kids.length:=by have:=zd0.2 (aa (.inr h));omega
  have:=b6t l r g x v ad u (fun e he p hp k' q=>HP p k' (b3m he hp) ((b4O hv he).1 p hp) (a24 q)) (fun e he hf k' q=>HP e.2.2 k' (b3n he) ((b4O hv he).2 hf) (a24 q))
  rw[Vt,a0a] at this
  exact this
 ·exact b8S l r g v k x hx h
 ·exact b8T l r g v k x hx h (HB (by rw[h];rfl))
 ·exact b8U l r g v k x hx h (HB (by rw[h];rfl))
 ·exact b8V l r g v k x hx h (aa (.inl (by rw[h];rfl))) (HB (by rw[h];rfl))
 ·exact b8W l r g v k x hx h
theorem b81 {l:List NodeD} {R:Nat} (hl:Wf l R) (ab:TSm l) (r:Int):∀ (b m:Nat) (v:Val) (k:Int),a2q v≤b→a0t v=true→0≤k∧k<(l.length:Int)→Hb l m k.toNat→b4M l r (a8I l) v k:=by
 intro b
 induction b with
 |zero=>intro m v k hb;have:=b1C v;omega
 |succ b ad=>
  intro m
  induction m with
  |zero=>
   intro v k hb hv hk hh
   have q:=inN hk
   have hN:=hl.kind _ q
   simp only[a2P,zag] at hN
   unfold b4M
   rw[a5q hl hk,show k=((k.toNat:Nat):Int) by omega]
   refine b1g l r (a8I l) v hv k.toNat (a3z l k) (d0O hk) hN.2.1 (ab.kids _ q) (hl.kids _ q) (fun p k' hp ht u=>?_) (fun aa k' u=>?_)
   ·have he:=hl.edge _ q k' u
    exact ad R p k' (by omega) ht he (hl.hb _ (by omega))
   ·have:=hh (by rw[c3H hk];exact aa)
    rw[c3G hk,List.map_eq_nil_iff] at this
    rw[this] at u;cases u
  |succ m ae=>
   intro v k hb hv hk hh
   have q:=inN hk
   have hN:=hl.kind _ q
   simp only[a2P,zag] at hN
   unfold b4M
   rw[a5q hl hk,show k=((k.toNat:Nat):Int) by omega]
   refine b1g l r (a8I l) v hv k.toNat (a3z l k) (d0O hk) hN.2.1 (ab.kids _ q) (hl.kids _ q) (fun p k' hp ht u=>?_) (fun aa k' u=>?_)
   ·have he:=hl.edge _ q k' u
    exact ad R p k' (by omega) ht he (hl.hb _ (by omega))
   ·have he:=hl.edge _ q k' (a24 u)
    exact ae v k' hb hv he (hh (by rw[c3H hk];exact aa) k'.toNat (by rw[c3G hk];exact zdc u))
theorem b82 {l:List NodeD} {R:Nat} (hl:Wf l R) (q:TSm l) (r:Int) (v:Val) (hv:a0t v=true) (k:Int) (hk:0≤k∧k<(l.length:Int)):b4M l r (a8I l) v k:=
  b81 hl q r (a2q v) R v k (zax _) hv hk (hl.hb _ (by omega))
noncomputable def a9n (v:Val) (l:List NodeD) (r k:Int):Bool:=a0t v&&(decide (wfP l r=0)&&(inB l k&&a8I l v k))
theorem b83 (v:Val):PC zP 47 [.st [.int .i64 v.kind, .int .i64 v.num, .str v.text, .sl 7 (v.kids.map a0c), .sl 2 (v.keys.map a0i), .sl 9 (v.ents.map a0n), .sl 1 (v.labels.map Sx.encStr)]] (Bo (a0t v)):=by
  rw[← a0a];exact a11 v
theorem b84 (v:Val) (l:List NodeD) (r k:Int) (q:TSm l):PC zP 53 [Vt v,Tt l r,I .i64 k] (Bo (a9n v l r k)):=by
 have hV:=b83 v
 have hW:=b3s l r q
 have hI:=a0C l r k
 unfold a9n
 cases ht:a0t v
 ·
  refine PCB.ob Tryz.func53 Tryz.ntmps53 Tryz.results53 ?_
  repeat'(first|simp only[go_sem,a0a v,ht]<;>refine nf ?_|refine stp ?_;intro K hK|apply hK;clear hK K|refine stn ?_|(with_reducible refine⟨_,hV,?_⟩)|refine stq ?_|fail)
  all_goals(first|exact fun _ h=>absurd h zaf|(refine a0m ?_;rfl))
 cases hw:decide (wfP l r=0)
 ·
  refine PCB.ob Tryz.func53 Tryz.ntmps53 Tryz.results53 ?_
  repeat'(first|simp only[go_sem,a0a v,ht,hw]<;>refine nf ?_|refine stp ?_;intro K hK|apply hK;clear hK K|refine stn ?_|(with_reducible first|refine⟨_,hV,?_⟩|refine⟨_,hW,?_⟩)|refine stq ?_|fail)
  all_goals(first|exact fun _ h=>absurd h zaf|(refine a0m ?_;rfl))
 cases hi:inB l k
 ·
  refine PCB.ob Tryz.func53 Tryz.ntmps53 Tryz.results53 ?_
  repeat'(first|simp only[go_sem,a0a v,ht,hw,hi]<;>refine nf ?_|refine stp ?_;intro K hK|apply hK;clear hK K|refine stn ?_|(with_reducible first|refine⟨_,hV,?_⟩|refine⟨_,hW,?_⟩|refine⟨_,hI,?_⟩)|refine stq ?_|fail)
  all_goals(first|exact fun _ h=>absurd h zaf|(refine a0m ?_;rfl))
 obtain⟨R,hR⟩:=Wf.of (of_decide_eq_true hw)
 have hM:=(b82 hR q r v ht k (by simpa [inB] using hi)).e
 refine PCB.ob Tryz.func53 Tryz.ntmps53 Tryz.results53 ?_
 repeat'(first|simp only[go_sem,a0a v,ht,hw,hi]<;>refine nf ?_|refine stp ?_;intro K hK|apply hK;clear hK K|refine stn ?_|(with_reducible first|refine⟨_,hV,?_⟩|refine⟨_,hW,?_⟩|refine⟨_,hI,?_⟩|refine⟨_,hM,?_⟩)|refine stq ?_|fail)
 all_goals(first|exact fun _ h=>absurd h zaf|(refine a0m ?_;rfl))
theorem b0f (v:Val) (l:List NodeD) (r:Int) (q:TSm l):PC zP 16 [Vt v,Tt l r] (Bo (a9n v l r r)):=by
  have hM:=b84 v l r r q
  rw[Vt,a0a] at hM
  refine PCB.ob Tryz.func16 Tryz.ntmps16 Tryz.results16 ?_
  repeat'(first|simp only[go_sem,a0a v]<;>refine nf ?_|refine stp ?_;intro K hK|apply hK;clear hK K|refine stn ?_|(with_reducible refine⟨_,hM,?_⟩)|refine stq ?_|fail)
  all_goals(first|exact fun _ h=>absurd h zaf|(refine a0m ?_;rfl))
end Go.Proofs.YtoelgackkclcmaaGreat

