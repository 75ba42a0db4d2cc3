/- Lemmas of the proof. -/
import Derived.Test.YthbcdhfiibpeaaaGreatTm48
import Derived.Test.YthbcdhfiibpeaaaGreatTm47
open Nat renaming reduceBEq→zA,reduceBNe→zB,reduceAdd→zC,reduceSub→zD,reduceMul→zE,reduceLeDiff→zF,reduceLT→zG,reduceEqDiff→zH
open Int renaming reduceToNat→zI,reduceLE→zJ,reduceLT→zK,reduceEq→zL
open Bool renaming not_eq_true'→zM,not_eq_false'→zN
set_option linter.unusedSimpArgs false
set_option linter.unusedVariables false
set_option maxRecDepth 20000
set_option maxHeartbeats 64000000
namespace Go.Proofs.YthbcdhfiibpeaaaGreat
open Go Go.Sx
abbrev LV (v:Val):T:= .st [.int .i64 v.kind, .int .i64 v.num, .str v.text, .sl 7 (v.kids.map a0g), .sl 2 (v.keys.map a0k), .sl 9 (v.ents.map a0l), .sl 1 (v.labels.map Sx.encStr)]
theorem b41 (l m:List Int) (hl:(b0n l).ok) (hm:(b0n m).ok):PC Tryz.prog 10 [.one (.dat (.sl 1 (l.map a0e))), .one (.dat (.sl 1 (m.map a0e)))] (.tup [.st [.sl 8 ((a3o l).map a0c), .int .i64 0], .st [.int .i64 (a4e l m).kind, .int .i64 (a4e l m).num, .str (a4e l m).text, .sl 7 ((a4e l m).kids.map a0g), .sl 2 ((a4e l m).keys.map a0k), .sl 9 ((a4e l m).ents.map a0l), .sl 1 ((a4e l m).labels.map Sx.encStr)]]):=by
  rw[← a0a];exact c4P l m hl hm
theorem b3L {l:List Int} (hl:∀ x∈l, -9223372036854775808≤x∧x≤9223372036854775807) (h:¬ ((80:Int)<(l.length:Int))):(b0n l).ok:=⟨hl,by simp only[b0n];omega⟩
noncomputable def a1q (v:Val) (t:TyD):Bool:=a4k (a0x t.1 t.2) v (a1M t.1 t.2)
abbrev ovB (k:Int) (ts:List TyD) (i:Nat):Nat:=(ovS k (ts.take i)).1.length
theorem c2N:∀ (ts:List TyD) (s:List NodeD×List Int),∃ (p:List NodeD) (q:List Int),ts.foldl a2N s=(s.1++p,s.2++q)
 |[],s=>⟨[],[],by simp⟩
 |t::ts,s=>by
  obtain⟨p,q,h⟩:=c2N ts (a2N s t)
  exact⟨emL s.1.length t.1 t.2++p,emR s.1.length t.1 t.2::q,by rw[List.foldl_cons,h];simp[a2N]⟩
theorem a6Q (k:Int) (ts:List TyD):(ovS k ts).2.length=ts.length:=by
 unfold ovS
 have key:∀ (ts:List TyD) (s:List NodeD×List Int),(ts.foldl a2N s).2.length=s.2.length+ts.length:=by
  intro ts
  induction ts with
  |nil=>intro s;simp
  |cons t ts ih=>intro s;rw[List.foldl_cons,ih];simp[a2N];omega
 rw[key];simp
theorem b2z {k:Int} {ts:List TyD} {i:Nat} {t:TyD} (h:ts[i]?= some t):∃ p,(ovS k ts).1=(ovS k (ts.take i)).1++emL (ovB k ts i) t.1 t.2++p∧(ovS k ts).2[i]?= some (emR (ovB k ts i) t.1 t.2):=by
 have hi:i<ts.length:=(List.getElem?_eq_some_iff.1 h).1
 have e:ts=ts.take (i+1)++ts.drop (i+1):=(List.take_append_drop _ _).symm
 obtain⟨p,q,hp⟩:=c2N (ts.drop (i+1)) (ovS k (ts.take (i+1)))
 have e2:ovS k ts=((ovS k (ts.take (i+1))).1++p,(ovS k (ts.take (i+1))).2++q):=by
  rw[← hp]
  conv=>lhs;rw[e]
  unfold ovS
  rw[List.foldl_append]
 rw[b2p h] at e2
 refine⟨p,by rw[e2];rfl,?_⟩
 rw[e2]
 have hl:(ovS k (ts.take i)).2.length=i:=by rw[a6Q,List.length_take];omega
 show ((ovS k (ts.take i)).2++[emR _ t.1 t.2]++q)[i]?= _
 rw[List.append_assoc,List.getElem?_append_right (by omega),hl,Nat.sub_self];rfl
theorem b9E (k:Int) (ts:List TyD):0<(ovS k ts).1.length:=(List.getElem?_eq_some_iff.1 (b5L k ts)).1
theorem a5R (k:Int) (ts:List TyD):(overV k ts).length=(ovS k ts).1.length:=by unfold overV;rw[List.length_set]
theorem b1t {k:Int} {ts:List TyD} {i:Nat} {t:TyD} (h:ts[i]?= some t) (hb:(overV k ts).length≤10000000):Emb (overV k ts) (a0x t.1 t.2) (ovB k ts i):=by
  obtain⟨p,h1,_⟩:=b2z (k:=k) h
  rw[a5R] at hb
  have hE:=Emb.mk_ (pre:=(ovS k (ts.take i)).1) (s:=a0x t.1 t.2) (post:=p) (by rw[← emL,← h1];exact hb)
  rw[← emL,← h1] at hE
  have hp:0<ovB k ts i:=b9E k (ts.take i)
  refine⟨fun j hj=>?_,by rw[a5R];exact hE.len,by rw[a5R];exact hE.big⟩
  rw[← hE.at_ j hj]
  unfold overV
  rw[List.getElem?_set_ne (by omega)]
theorem c1Z (k:Int) (ts:List TyD):∀ (i:Nat),i≤ts.length→∀ j,j<ovB k ts i→j=0∨ ∃ (a:Nat) (t:TyD) (c:Nat),ts[a]?= some t∧j=ovB k ts a+c∧c<(a0x t.1 t.2).length:=by
 intro i
 induction i with
 |zero=>
  intro _ j hj
  left
  have:ovB k ts 0=1:=by simp[ovB,ovS]
  omega
 |succ i ih=>
  intro hi j hj
  have ht:ts[i]?= some ts[i]:=List.getElem?_eq_getElem (by omega)
  rcases Nat.lt_or_ge j (ovB k ts i) with h|h
  ·exact ih (by omega) j h
  ·right
   refine⟨i,ts[i],j-ovB k ts i,ht,by omega,?_⟩
   unfold ovB at hj
   rw[b2p ht] at hj
   have:(a2N (ovS k (ts.take i)) ts[i]).1.length=ovB k ts i+(a0x ts[i].1 ts[i].2).length:=by simp[a2N,emL]
   omega
theorem a2H (t:TyD):wfP (a0x t.1 t.2) (a1M t.1 t.2)=0:=b3h _ _
theorem a5a (t:TyD):0≤a1M t.1 t.2∧a1M t.1 t.2<((a0x t.1 t.2).length:Int):=by
  have:=a6A (a2H t)
  exact⟨this.1,this.2.1⟩
def ovK (k:Int) (n:Nat):Bool:=a0z (a1b k (List.replicate n 0))&&(decide (k=10)||(decide (k=12)||(decide (k=14)||(decide (k=16)||(decide (k=17)||decide (k=18))))))
theorem b1u {k:Int} {ks:List Int} (h:ovK k ks.length=true):a0z (a1b k ks)=true∧a1J (a1b k ks)=true:=by
 unfold ovK at h
 rw[Bool.and_eq_true] at h
 have hl:(List.replicate ks.length (0:Int)).length=ks.length:=by simp
 have e:a0z (a1b k ks)=a0z (a1b k (List.replicate ks.length 0)):=by
  unfold a0z a1b
  simp only[hl]
 refine⟨by rw[e];exact h.1,?_⟩
 have hk:k=10∨k=12∨k=14∨k=16∨k=17∨k=18:=by
  have:=h.2
  simp only[Bool.or_eq_true,decide_eq_true_eq] at this
  omega
 exact a2U k hk ks
theorem a6R (k:Int) (ts:List TyD) (j:Nat) (hj:j<(overV k ts).length):j=0∨ ∃ (a:Nat) (t:TyD) (c:Nat),ts[a]?= some t∧j=ovB k ts a+c∧c<(a0x t.1 t.2).length:=by
  rw[a5R] at hj
  refine c1Z k ts ts.length (Nat.le_refl _) j ?_
  unfold ovB
  rw[List.take_length];exact hj
theorem a6m (k:Int) (ts:List TyD):(overV k ts)[0]?= some (a1b k (ovS k ts).2):=by
  unfold overV
  rw[List.getElem?_set_self (b9E k ts)]
theorem a3b {k:Int} {ts:List TyD} (hk:ovK k ts.length=true) (hb:(overV k ts).length≤10000000):wfP (overV k ts) 0=0:=by
 have h0:=a6m k ts
 have hpos:0<(overV k ts).length:=(List.getElem?_eq_some_iff.1 h0).1
 have hkid:∀ e∈(ovS k ts).2,∃ (a:Nat) (t:TyD),ts[a]?= some t∧e=upI (ovB k ts a) (a1M t.1 t.2):=by
  intro e he
  obtain⟨a,ha⟩:=List.getElem?_of_mem he
  have hal:a<ts.length:=by rw[← a6Q k ts];exact(List.getElem?_eq_some_iff.1 ha).1
  have ht:ts[a]?= some ts[a]:=List.getElem?_eq_getElem hal
  obtain⟨_,_,h2⟩:=b2z (k:=k) ht
  rw[ha] at h2
  exact⟨a,ts[a],ht,by have:=Option.some.inj h2;rw[this];rfl⟩
 have hfin:∀ j,0<j→j<(overV k ts).length→Gr.Fin (bo (overV k ts)) (ks (overV k ts)) j:=by
  intro j h1 h2
  rcases a6R k ts j h2 with h|⟨a,t,c,ht,rfl,hc⟩
  ·omega
  ·obtain⟨R,hR⟩:=Wf.of (a2H t)
   exact b9C (b1t ht hb) hR hc (b2y (a2H t) c hc)
 refine b9D (by omega) (by omega) (fun x hx=>?_) (fun j hj=>?_)
 ·obtain⟨j,hj⟩:=List.getElem?_of_mem hx
  have hjl:=(List.getElem?_eq_some_iff.1 hj).1
  rcases a6R k ts j hjl with rfl|⟨a,t,c,ht,rfl,hc⟩
  ·rw[h0] at hj
   have e:=Option.some.inj hj
   subst e
   have hv:=b1u (k:=k) (ks:=(ovS k ts).2) (by rw[a6Q];exact hk)
   simp only[a1A,Bool.and_eq_true]
   refine⟨hv.2,hv.1,?_⟩
   have hk13:decide (k=13)=false:=by
    unfold ovK at hk
    simp only[Bool.and_eq_true,Bool.or_eq_true,decide_eq_true_eq] at hk
    rw[decide_eq_false_iff_not];omega
   have he:edgeL (a1b k (ovS k ts).2)=(ovS k ts).2:=by unfold edgeL a1b;simp[hk13]
   rw[he,List.all_eq_true]
   intro e he
   obtain⟨a,t,ht,rfl⟩:=hkid e he
   have hE:=b1t (k:=k) ht hb
   have hs:=a5a t
   rw[hE.up hs]
   have:=hE.len
   simp only[a3W,Bool.not_eq_true',Bool.or_eq_false_iff,decide_eq_false_iff_not];omega
  ·have hE:=b1t (k:=k) ht hb
   obtain⟨R,hR⟩:=Wf.of (a2H t)
   rw[hE.at_ c hc,List.getElem?_eq_getElem hc] at hj
   have e:=Option.some.inj hj
   rw[← e]
   exact b2x hE (hR.kind _ (List.getElem_mem hc))
 ·rcases Nat.eq_zero_or_pos j with rfl|hj0
  ·refine Gr.fin_of _ _ fun hb' y hy=>?_
   unfold ks at hy
   rw[h0] at hy
   obtain⟨e,he,rfl⟩:=List.mem_map.1 hy
   obtain⟨a,t,ht,rfl⟩:=hkid e he
   have hE:=b1t (k:=k) ht hb
   have hs:=a5a t
   have hl:=hE.len
   have hp:0<ovB k ts a:=b9E k (ts.take a)
   rw[hE.up hs]
   exact hfin _ (by omega) (by omega)
  ·exact hfin j hj0 hj
theorem a5S {k:Int} {ts:List TyD} (hb:(overV k ts).length≤10000000) (v:Val):(ovS k ts).2.map (a4k (overV k ts) v)=ts.map (a1q v):=by
 apply List.ext_getElem?
 intro i
 rw[List.getElem?_map,List.getElem?_map]
 cases h:ts[i]? with
 |none=>
  have:ts.length≤i:=List.getElem?_eq_none_iff.1 h
  rw[List.getElem?_eq_none (by rw[a6Q];exact this)];rfl
 |some t=>
  obtain⟨_,_,h2⟩:=b2z (k:=k) h
  rw[h2]
  obtain⟨R,hR⟩:=Wf.of (a2H t)
  show some (a4k _ v (upI _ (a1M t.1 t.2)))=some (a1q v t)
  rw[b9A (b1t (k:=k) h hb) hR v _ (a5a t)];rfl
theorem a4H {k:Int} {ts:List TyD} (hk:ovK k ts.length=true) (hb:(overV k ts).length≤10000000) (v:Val):a4k (overV k ts) v 0=memN (a4k (overV k ts)) (a1b k (ovS k ts).2) v:=by
 obtain⟨R,hR⟩:=Wf.of (a3b hk hb)
 have hpos:0<(overV k ts).length:=(List.getElem?_eq_some_iff.1 (a6m k ts)).1
 rw[a2s hR (by omega)]
 have:a2F (overV k ts) 0=a1b k (ovS k ts).2:=by
  unfold a2F
  rw[Int.toNat_zero,List.getD_eq_getElem?_getD,a6m];rfl
 rw[this]
theorem c4Q {k:Int} {ts:List TyD} (hb:(overV k ts).length≤10000000) (v:Val):(ovS k ts).2.any (a4k (overV k ts) v)=ts.any (a1q v):=by
  have:=a5S (k:=k) hb v
  have e:∀ {α:Type} (f:α→Bool) (l:List α),l.any f=(l.map f).any id:=fun f l=>by rw[List.any_map];rfl
  rw[e,this,← e]
theorem a2X {l:List NodeD} {r:Int} (h:wfP l r=0) (v:Val):a1q v (l,r)=a4k l v r:=by
  unfold a1q a0x a1M;simp only[h];rfl
theorem b53 {l:List NodeD} {r:Int} (h:wfP l r=0) (v:Val):b0K v l r r=(a0C v&&a1q v (l,r)):=by
  have hw:=a6A h
  unfold b0K
  rw[a2X h,h]
  have:inB l r=true:=by simp only[inB,Bool.and_eq_true,decide_eq_true_eq];omega
  rw[this];rfl
theorem b42 {k:Int} {ts:List TyD} {B:Nat} (h:TyS B ts):(overV k ts).length≤1+ts.length*B:=by rw[a5R];exact(a8b k ts h.one).1
theorem a2w {k:Int} {ts:List TyD} {B:Nat} (h:TyS B ts):(overV k ts).length≤10000000:=by have:=b42 (k:=k) h;have:=h.all;omega
theorem b0p (v:Val):a1q v a7w=false:=by
  unfold a7w
  rw[a2X (show wfP [a0G 1] 0=0 from a74)]
  obtain⟨R,hR⟩:=Wf.of (show wfP [a0G 1] 0=0 from a74)
  rw[a2s hR (by decide)];rfl
theorem a9e {k:Int} {n:Nat} (hk:k=16∨k=17) (hn:1≤n):ovK k n=true:=by
  have hl:(List.replicate n (0:Int)).length=n:=by simp
  have:decide (1≤(n:Int))=true:=by rw[decide_eq_true_eq];omega
  rcases hk with rfl|rfl<;>simp[ovK,a0z,a1b,hn]
  all_goals omega
theorem b2A {ts:List TyD} {B:Nat} (h:TyS B ts):wfP (a1e ts).1 (a1e ts).2=0:=by
  unfold a1e
  cases hc:decide ((ts.length:Int)=0) with
  |true=>exact a74
  |false=>rw[decide_eq_false_iff_not] at hc;exact a3b (a9e (.inl rfl) (by omega)) (a2w h)
theorem a8k {ts:List TyD} {B:Nat} (h:TyS B ts) (v:Val):a1q v (a1e ts)=ts.any (a1q v):=by
 unfold a1e
 cases hc:decide ((ts.length:Int)=0) with
 |true=>
  have:ts=[]:=List.length_eq_zero_iff.1 (by have:=of_decide_eq_true hc;omega)
  rw[cond_true,b0p,this];rfl
 |false=>
  rw[decide_eq_false_iff_not] at hc
  have hk:=a9e (k:=16) (n:=ts.length) (.inl rfl) (by omega)
  rw[cond_false,a1T,a2X (a3b hk (a2w h)),a4H hk (a2w h),← c4Q (k:=16) (a2w h)];rfl
theorem b9F {t:TyD} {B:Nat} (h:TSm t.1) (hl:t.1.length<B) (hB:B≤900000):TyS B [t]:=⟨fun u hu=>by simp only[List.mem_singleton] at hu;subst hu;exact⟨h,hl⟩,by simpa using hB⟩
end Go.Proofs.YthbcdhfiibpeaaaGreat

