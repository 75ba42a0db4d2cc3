/- Lemmas of the proof. -/
import Derived.Test.YthbcdhfiibpeaaaGreatTc1
import Derived.Test.YthbcdhfiibpeaaaGreatTc2
open Go.Proofs.Tryz renaming prog→zP
open List renaming length_map→lB
open Nat renaming reduceBEq→zA,reduceBNe→zB,reduceAdd→zC,reduceSub→zD,reduceMul→zE,reduceLeDiff→zF,reduceLT→zG,reduceEqDiff→zH
open Int renaming reduceToNat→zI,reduceLE→zJ,reduceLT→zK,reduceEq→zL
open Bool renaming not_eq_true'→zM,not_eq_false'→zN
set_option linter.unusedSimpArgs false
set_option linter.unusedVariables false
set_option maxRecDepth 20000
set_option maxHeartbeats 64000000


namespace Go.Proofs.YthbcdhfiibpeaaaGreat
open Go Go.Sx
theorem a2P (a b:Int):a1y (-a) (-b)= - a1y a b:=by
  unfold a1y
  have:decide (-a=0)=decide (a=0):=by rw[← Bool.coe_iff_coe];simp
  rw[this]
  cases decide (a=0)<;>rfl
theorem a7L {α:Type} {f:α→α→Int}:∀ (a b:List α),(∀ x∈a,∀ y∈b,f y x= - f x y)→a1x f b a= - a1x f a b
 |[],[],_=>by simp[a1x]
 |[],_::_,_=>by simp[a1x]
 |_::_,[],_=>by simp[a1x]
 |x::a,y::b,h=>by
  have h1:=h x List.mem_cons_self y List.mem_cons_self
  have ih:=a7L a b fun u hu w hw=>h u (List.mem_cons_of_mem _ hu) w (List.mem_cons_of_mem _ hw)
  simp only[a1x]
  rw[h1,ih]
  have:decide (-f x y=0)=decide (f x y=0):=by rw[← Bool.coe_iff_coe];simp
  rw[this]
  cases decide (f x y=0)<;>rfl
theorem a60 (a b:Nat) (u v:Int) (h:v= -u):(bif decide (a3V (b:Int) (a:Int)=0) then v else a3V (b:Int) (a:Int))= - (bif decide (a3V (a:Int) (b:Int)=0) then u else a3V (a:Int) (b:Int)):=by
  rw[a6X (a:Int) (b:Int),h]
  have:decide (-a3V (a:Int) (b:Int)=0)=decide (a3V (a:Int) (b:Int)=0):=by rw[← Bool.coe_iff_coe];simp
  rw[this]
  cases decide (a3V (a:Int) (b:Int)=0)<;>rfl
mutual
theorem b2R:∀ a b:Val,valC b a= - valC a b
 |⟨kind,num,text,kids,keys,ents,labels⟩,⟨kind',num',text',kids',keys',ents',labels'⟩=>by
  simp only[valC]
  rw[← a2P,← a2P,← a2P,← a2P,← a2P,← a2P,a6X kind,a6X num,a5r text]
  congr 3
  congr 1
  ·unfold a1G
   exact a60 keys.length keys'.length _ _ (a7L keys keys' fun x _ y _=>b2P x y)
  ·congr 1
   ·exact a60 kids.length kids'.length _ _ (a7M kids kids')
   ·congr 1
    ·exact a60 ents.length ents'.length _ _ (b0R ents ents')
    ·unfold a1G
     exact a60 labels.length labels'.length _ _ (a7L labels labels' fun x _ y _=>a5r x y)
theorem a7M:∀ a b:List Val,a7c b a= - a7c a b
 |[],[]=>by simp[a7c]
 |[],_::_=>by simp[a7c]
 |_::_,[]=>by simp[a7c]
 |x::a,y::b=>by
  have h1:=b2R x y
  have ih:=a7M a b
  simp only[a7c]
  rw[h1,ih]
  have:decide (-valC x y=0)=decide (valC x y=0):=by rw[← Bool.coe_iff_coe];simp
  rw[this]
  cases decide (valC x y=0)<;>rfl
theorem b2S:∀ a b:List Val×Bool×Val,a4t b a= - a4t a b
 |(args,fails,result),(args',fails',result')=>by
  have h1:=a7M args args'
  have h2:=b2R result result'
  simp only[a4t]
  rw[← a2P]
  congr 1
  ·exact a60 args.length args'.length _ _ h1
  ·cases fails<;>cases fails'<;>simp[h2]
theorem b0R:∀ a b:List (List Val×Bool×Val),a7U b a= - a7U a b
 |[],[]=>by simp[a7U]
 |[],_::_=>by simp[a7U]
 |_::_,[]=>by simp[a7U]
 |x::a,y::b=>by
  have h1:=b2S x y
  have ih:=b0R a b
  simp only[a7U]
  rw[h1,ih]
  have:decide (-a4t x y=0)=decide (a4t x y=0):=by rw[← Bool.coe_iff_coe];simp
  rw[this]
  cases decide (a4t x y=0)<;>rfl
end
theorem c56 {α:Type} {p:α→Bool} {l:List α} {y:α} (hy:l[tw p l]?= some y):p y=false:=by
 have h1:=a9T (p:=p) (k:=tw p l) hy
 have h2:=b4b p l
 cases h:p y with
 |false=>rfl
 |true=>
  rw[h2,h] at h1
  simp only[cond_true] at h1
  omega
theorem c0o (s:List Ent) (x:Ent) (h:a8A a4t s=true):a8A a4t (b7t s x)=true:=by
 unfold b7t
 cases hc:b4C s (tw (fun y=>decide (a4t y x<0)) s) x with
 |true=>exact h
 |false=>
  refine b1L a4t x s h fun y hy=>?_
  have h1:=c56 hy
  simp only[decide_eq_false_iff_not] at h1
  unfold b4C at hc
  rw[hy] at hc
  have h2:=of_decide_eq_false hc
  have:=b2S y x
  omega
theorem c0p (p:Ent→Bool) (s:List Ent) (x:Ent) (h:s.all p=true) (hx:p x=true):(b7t s x).all p=true:=by
  unfold b7t
  cases b4C s (tw (fun y=>decide (a4t y x<0)) s) x with
  |true=>exact h
  |false=>rw[cond_false,a6Z,hx,h];rfl
theorem b0S (p:Ent→Bool) (l:List Ent) (hl:l.all p=true):a8A a4t (a4Z l)=true∧(a4Z l).all p=true:=by
 unfold a4Z
 have key:∀ (l s:List Ent),l.all p=true→a8A a4t s=true→s.all p=true→a8A a4t (l.foldl b7t s)=true∧(l.foldl b7t s).all p=true:=by
  intro l
  induction l with
  |nil=>intro s _ h1 h2;exact⟨h1,h2⟩
  |cons x l ih=>
   intro s h h1 h2
   rw[List.all_cons,Bool.and_eq_true] at h
   exact ih (b7t s x) h.2 (c0o s x h1) (c0p p s x h2 h.1)
 exact key l [] hl rfl rfl
theorem b2T (l:List (List UInt8)) (hl:l.all a0A=true):a12 (a0N l)=true:=by
 unfold a0N a12
 have key:∀ (l s:List (List UInt8)),l.all a0A=true→a8A Lib.compareBytes s=true→s.all a0A=true→(a8A Lib.compareBytes (l.foldl a8S s)&&(l.foldl a8S s).all a0A)=true:=by
  intro l
  induction l with
  |nil=>intro s _ h1 h2;rw[List.foldl_nil,h1,h2];rfl
  |cons x l ih=>
   intro s h h1 h2
   rw[List.all_cons,Bool.and_eq_true] at h
   have e:(fun y=>Op.bytesLess y x)=fun y=>decide (Lib.compareBytes y x<0):=by funext y;exact a4Y y x
   refine ih (a8S s x) h.2 ?_ ?_
   ·unfold a8S
    cases hc:decide (s[tw (fun y=>Op.bytesLess y x) s]?= some x) with
    |true=>exact h1
    |false=>
     rw[e] at hc ⊢
     refine b1L Lib.compareBytes x s h1 fun y hy=>?_
     have h3:=c56 hy
     simp only[decide_eq_false_iff_not] at h3
     have h4:Lib.compareBytes y x≠0:=fun h0=>by
      rw[a4r.1 h0] at hy
      exact(of_decide_eq_false hc) hy
     have:=a5r y x
     omega
   ·unfold a8S
    cases decide (s[tw (fun y=>Op.bytesLess y x) s]?= some x) with
    |true=>exact h2
    |false=>rw[cond_false,a6Z,h.1,h2];rfl
 exact key l [] hl rfl rfl
theorem b0T (s:Src):a0A (a3M s)=true:=by
  have hv:=a0p s (n:=3) (by omega)
  have:(a0h s 3).toNat=0∨(a0h s 3).toNat=1∨(a0h s 3).toNat=2:=by omega
  unfold a3M
  rcases this with h|h|h<;>rw[h]<;>decide
theorem b7D (s:Src):a12 (a02 s).1=true:=by
 unfold a02
 cases decide (a0h s 3=1)
 ·rfl
 ·cases decide (a0h (a0f (a0f s 3) 3) 2=1)
  ·exact b2T _ (by simp[b0T])
  ·exact b2T _ (by simp[b0T])
theorem b6l {v:Val} (h:a0C v=true) {ls:List (List UInt8)} (hl:a12 ls=true):a0C { v with labels:=ls }=true:=by
  obtain⟨kind,num,text,kids,keys,ents,labels⟩:=v
  rw[a1p] at h ⊢
  simp only[a0P,Bool.and_eq_true] at h ⊢
  exact⟨⟨h.1.1,hl,h.1.2.2⟩,h.2⟩
theorem a8V {r:Val×Src} (h:a0C r.1=true):a0C (lab r).1=true:=b6l h (b7D _)
theorem a4m (k:Int) (s:Src):a0C (a9R k s).1=true:=by
 refine(b2u k s).2 ?_
 unfold a9R
 cases decide (k=0)<;>cases decide (k=1)<;>cases decide (k=2)<;>cases decide (k=3)<;>cases decide (k=4)<;>simp only[cond_true,cond_false]<;>
  (rw[b3D];simp[a3h,a6L,a9Q,b1e,a0Z,a2L])
theorem c0q {l:List Val} (h:∀ v∈l,a0C v=true) (hl:l.length≤4):a0C (a2L l)=true:=by
  rw[a1p]
  have hlb:a12 []=true:=rfl
  have h4:(l.length:Int)≤4:=by omega
  have hn:a0P (a2L l)=true:=by simp[a0P,a1K,a0O,a3t,b0C,a3X,a3Y,a3Z,a30,a2L,hlb,h4]
  have ha:l.all a0C=true:=List.all_eq_true.2 h
  rw[hn]
  simp only[a2L,ha];rfl
theorem b7E {f0:Src→Val×Src} (hf:∀ s:Src,a0C (f0 s).1=true) (big:Bool) (s:Src):a0C (a78 f0 big s).1=true∧((a78 f0 big s).1.kind=5∨(a78 f0 big s).1.kind=7):=by
  unfold a78
  cases big<;>cases decide (a0h s 2=1)<;>simp only[cond_true,cond_false]
  · exact⟨a6l, .inl rfl⟩
  · exact⟨a6l, .inl rfl⟩
  · exact⟨a6l, .inl rfl⟩
  · exact⟨by rw[a5Q _ _ (.inl rfl),hf,a6l];rfl, .inr rfl⟩
theorem b7F {ks:List KeyD} {l:List Val} (hf:∀ v∈l,a0C v=true) (h0:(a83 ks l).2=0):a0C (a83 ks l).1=true:=by
 unfold a83 at*
 cases hl:decide ((ks.length:Int)=(l.length:Int))<;>rw[hl] at h0<;>simp only[cond_true,cond_false] at h0 ⊢
 ·simp at h0
 ·have hl2:ks.length=l.length:=by have:=of_decide_eq_true hl;omega
  cases hv:ks.all a0s<;>rw[hv] at h0<;>simp only[cond_true,cond_false] at h0 ⊢
  ·simp at h0
  ·have e1:(ks.zip l).map (·.1)=ks:=by rw[List.map_fst_zip];omega
   have e2:(ks.zip l).map (·.2)=l:=by rw[List.map_snd_zip];omega
   obtain⟨ks',vs',e,h1,h2,h3,h4⟩:=b5c (ks.zip l) [] [] rfl rfl rfl (by rw[e1,hv]) h0
   rw[e2] at h4
   have htr:=h4 a0C
   rw[e,a1p]
   have hlb:a12 []=true:=rfl
   have hall:l.all a0C=true:=List.all_eq_true.2 hf
   rw[hall] at htr
   have hn:a0P (b1k ks' vs')=true:=by simp[a0P,a1K,a0O,a3t,b0C,a3X,a3Y,a3Z,a30,b1k,hlb,c7C,h1,h2,h3]
   rw[hn]
   simp only[b1k,htr];rfl
theorem c0r {n:Int} {l:List Ent} (hf:∀ e∈l,a7k e=true) (h0:(fnV n l).2=0):a0C (fnV n l).1=true:=by
 unfold fnV at*
 cases hb:decide (n<0)||decide (4<n)<;>rw[hb] at h0<;>simp only[cond_true,cond_false] at h0 ⊢
 ·cases ha:(l.all fun e=>b5x e n)<;>rw[ha] at h0<;>simp only[cond_true,cond_false] at h0 ⊢
  ·simp at h0
  ·have h1:=b0S (fun e=>b5x e n) l ha
   have h2:=b0S a7k l (List.all_eq_true.2 hf)
   rw[Bool.or_eq_false_iff] at hb
   rw[a1p]
   have hlb:a12 []=true:=rfl
   have hn:a0P (b3n n (a4Z l))=true:=by simp[a0P,a1K,a0O,a3t,b0C,a3X,a3Y,a3Z,a30,b3n,hlb,c7D,h1.1,h1.2];exact hb
   rw[hn]
   simp only[b3n,h2.2];rfl
 ·simp at h0
theorem b6m {f:Src→Val×Src} (hf:∀ s:Src,a0C (f s).1=true) (n:Nat) (s:Src):a7k (a1E f n s).1=true:=by
  have h1:((a0Q f n s).1).all a0C=true:=List.all_eq_true.2 fun v hv=>a5J (p:=fun v=>a0C v=true) hf n s v hv
  unfold a1E
  cases decide (a0h (a0Q f n s).2 4=1)<;>simp only[cond_true,cond_false,a7k,h1,hf,Bool.or_true,Bool.true_or,Bool.and_self]
theorem b4c {f1 f0:Src→Val×Src} (h1:∀ s:Src,a0C (f1 s).1=true) (h0:∀ s:Src,a0C (f0 s).1=true) (big:Bool) (k:Int) (s:Src):a0C (a2e f1 f0 big k s).1=true:=by
 have v4:=a0p s (n:=4) (by omega)
 unfold a2e
 cases decide (k=1)<;>simp only[cond_true,cond_false]
 ·cases decide (k=2)<;>simp only[cond_true,cond_false]
  ·cases decide (k=3)<;>simp only[cond_true,cond_false]
   ·cases decide (k=4)<;>simp only[cond_true,cond_false]
    ·exact a4m _ _
    ·generalize hn:(a0h s 3).toNat=n
     have hq:∀ e∈(a0Q (a1E f1 n) (a0h (a0f s 3) 3).toNat (a0f (a0f s 3) 3)).1,a7k e=true:=fun e he=>a5J (p:=fun e=>a7k e=true) (b6m h1 n) _ _ e he
     generalize (a0Q (a1E f1 n) (a0h (a0f s 3) 3).toNat (a0f (a0f s 3) 3))=q at hq
     cases hb:decide ((fnV (a0h s 3) q.1).2=0)<;>simp only[cond_true,cond_false]
     ·exact a4m _ _
     ·exact c0r hq (of_decide_eq_true hb)
   ·generalize hn:(a0h s 3).toNat=n
    cases hb:decide ((a83 (a1W f1 n (a0f s 3)).1.1 (a1W f1 n (a0f s 3)).1.2).2=0)<;>simp only[cond_true,cond_false]
    ·exact a4m _ _
    ·exact b7F (fun v hv=>b2O (p:=fun v=>a0C v=true) h1 n _ v hv) (of_decide_eq_true hb)
  ·have ht:=b7E h0 big s
   rw[a5Q _ _ (by rw[c0k];exact ht.2),h1,a8V ht.1];rfl
 ·have hln:=a7t f1 (a0h s 4).toNat (a0f s 4)
  exact c0q (fun v hv=>a5J (p:=fun v=>a0C v=true) h1 _ _ v hv) (by rw[hln];omega)
theorem a6E:∀ (h:Nat) (s:Src),a0C (a5k h s).1=true
  |0,s=>a4m _ _
  |1,s=>a4m _ _
  |h+2,s=>b4c (fun s=>a8V (a6E (h+1) s)) (fun s=>a8V (a6E h s)) _ _ _
theorem b7G (h:Nat) (s:Src):a0C (b3o h s).1=true:=a8V (a6E h s)
theorem b7H (q:Val→Bool) (g:Val→Int→Bool):∀ (vs:List Val) (ks:List Int),vs.length=ks.length→(∀ v,∀ k∈ks,g v k=q v)→((vs.zip ks).all fun p=>g p.1 p.2)=vs.all q
 |[],[],_,_=>rfl
 |[],_::_,h,_=>by cases h
 |_::_,[],h,_=>by cases h
 |v::vs,k::ks,h,hq=>by
  rw[List.zip_cons_cons,List.all_cons,List.all_cons,hq v k List.mem_cons_self,b7H q g vs ks (by simpa using h) fun v k hk=>hq v k (List.mem_cons_of_mem _ hk)]
abbrev SsP (l:List (List UInt8)):T:= .one (.dat (.sl 1 (l.map Sx.encStr)))
theorem b6n (l:List (List UInt8)) (hl:l.length≤100000000):PCN zP 170 [SsP l] (.one (.own 0 l.length)) (.row 1 (l.map Sx.encStr)):=by
 refine PCN.of_body 7 Tryz.func170 rfl (by decide) Tryz.ntmps170 Tryz.results170 rfl rfl ?_
 refine AWP.ghQ ?_
 repeat'(first|( refine AWP.nilR (e:=9) rfl (by decide) (by decide) rfl (fun hnil=>?_) ?_)|(simp only[go_sem,zA,zB,zC,zD,zE,zF,zG,reduceCtorEq,zH,zI,zJ,zK,zL,lB];all_goals refine nf ?_)|(refine stp ?_;intro K hK)|(apply hK;clear hK K)|refine stn ?_|(refine AWP.cnd ?_ ?_<;>intro h<;>(try simp only[zM,zN] at h))|(refine⟨fun h=>?_,fun h=>?_⟩<;>(try simp only[zM,zN] at h)<;>try simp only[h])|(with_reducible first|(refine Or.inr (show a1u _ 5 _ _ _ _ _ _ from ?_);unfold a1u;with_reducible refine Or.inr ?_;simp only[a2D,go_sem,zA,zB,zC,zD,zE,zF,zG,reduceCtorEq,zH,zI,zJ,zK,zL,lB])|refine⟨(by omega:_≤_),?_⟩)|refine stq ?_|(clear hK K))
 ·refine GhQ.step (Gh.nilrow 2 7 rfl rfl rfl rfl) ?_
  refine⟨_,Gh.refl _,?_⟩
  have:l=[]:=by simpa using hnil
  subst this
  simp only[go_sem,zA,zB,zC,zD,zE,zF,zG,reduceCtorEq,zH,zI,zJ,zK,zL,List.map_nil,List.length_nil]
  first|exact⟨rfl,fun x hx=>hx⟩|exact fun x hx=>hx
 ·refine⟨_,Gh.refl _,?_⟩
  simp only[go_sem,zA,zB,zC,zD,zE,zF,zG,reduceCtorEq,zH,zI,zJ,zK,zL,lB]
  first|exact⟨rfl,fun x hx=>hx⟩|exact fun x hx=>hx
theorem b7I (c:Bool) (l:List (List UInt8)) (hl:l.length≤1000000):PC zP 146 [.st [.bool c, .sl 1 (l.map Sx.encStr)]] (.st [.bool c, .sl 1 ((a0N l).map Sx.encStr)]):=by
 have hcl:=b6n l (by omega)
 have h3:a2f zP 103 [.one (.own 6 l.length)] 6 (.row 1 (l.map Sx.encStr)) (.tup []) (.row 1 ((l.mergeSort fun x y=>decide (x≤y)).map Sx.encStr)):=
  a2f.own1 6 (b3X Go.Proofs.Tryz.sortS l (by omega))
 have h4:a2f zP 105 [.one (.own 6 l.length)] 6 (.row 1 ((l.mergeSort fun x y=>decide (x≤y)).map Sx.encStr)) (.one (.own 6 (a0N l).length)) (.row 1 ((a0N l).map Sx.encStr)):=by
  have h:=a8M Go.Proofs.Tryz.compS (l.mergeSort fun x y=>decide (x≤y))
  rw[a8C,List.length_mergeSort] at h
  exact a2f.own2 6 h
 have h5:=c2v ((a0N l).map Sx.encStr)
 refine PCB.ob Tryz.func146 Tryz.ntmps146 Tryz.results146 ?_
 repeat'(first|(simp only[go_sem,zA,zB,zC,zD,zE,zF,zG,reduceCtorEq,zH,zI,zJ,zK,zL,lB];all_goals refine nf ?_)|(refine stp ?_;intro K hK)|(apply hK;clear hK K)|refine stn ?_|(refine AWP.cnd ?_ ?_<;>intro h<;>(try simp only[zM,zN] at h))|(refine⟨fun h=>?_,fun h=>?_⟩<;>(try simp only[zM,zN] at h)<;>try simp only[h])|(with_reducible first|refine Or.inr (Or.inl ⟨_,_,hcl,?_⟩)|refine⟨_,h5,?_⟩)|(apply Or.inr;refine⟨6,_,_,_,h3,rfl,?_⟩;simp only[go_sem,zA,zB,zC,zD,zE,zF,zG,reduceCtorEq,zH,zI,zJ,zK,zL])|(apply Or.inr;refine⟨6,_,_,_,h4,rfl,?_⟩;simp only[go_sem,zA,zB,zC,zD,zE,zF,zG,reduceCtorEq,zH,zI,zJ,zK,zL])|(with_reducible refine AWP.genR (id:=3) [3,4,7] [6,2] mixed (by kernel_rfl) fun K hK=>?_;simp only[Bx.outs,Bx.drop,cond_true,cond_false,Nat.reduceBEq,go_sem])|(refine a0M ?_;intro K hK)|refine stq ?_|(clear hK K))
 all_goals(first|exact fun _ h=>absurd h List.not_mem_nil|(refine a0m ?_;rfl))
theorem c0s (l:List (List UInt8)) (hl:l.length≤1000000):PC zP 117 [.one (.dat (.sl 1 (l.map Sx.encStr)))] (.st [.bool false, .sl 1 ((a0N l).map Sx.encStr)]):=by
  have h:=b7I false l hl
  refine PCB.ob Tryz.func117 Tryz.ntmps117 Tryz.results117 ?_
  repeat'(first|(simp only[go_sem,zA,zB,zC,zD,zE,zF,zG,reduceCtorEq,zH,zI,zJ,zK,zL];all_goals refine nf ?_)|(refine stp ?_;intro K hK)|(apply hK;clear hK K)|refine stn ?_|(refine AWP.cnd ?_ ?_<;>intro h<;>(try simp only[zM,zN] at h))|(refine⟨fun h=>?_,fun h=>?_⟩<;>(try simp only[zM,zN] at h)<;>try simp only[h])|(with_reducible refine⟨_,h,?_⟩)|refine stq ?_|(clear hK K))
  all_goals(first|exact fun _ h=>absurd h List.not_mem_nil|(refine a0m ?_;rfl))
def nmT (one:Int) (s:List UInt8):TyD:=([a09 one s],0)
def a1j (one:Int) (l:List (List UInt8)):List TyD:=((a0N l).filter fun s=>a0z (a09 one s)).map (nmT one)
def a2A (one all:Int) (c:Bool) (l:List (List UInt8)):TyD:=bif c then b2N ([a0G all],0) (a1e (a1j one l)) else a1e (a1j one l)
theorem c57 (k:Int) (s:List UInt8):PC zP 66 [.st [.int .i64 k, .int .i64 0, .int .i64 0, .str s, .sl 1 [], .sl 4 [], .int .i64 0, .int .i64 0]] (.st [.sl 8 [a0c (a09 k s)], .int .i64 0]):=a7m (a09 k s)
theorem b7J (k:Int) (s:List UInt8):PC zP 59 [.st [.int .i64 k, .int .i64 0, .int .i64 0, .str s, .sl 1 [], .sl 4 [], .int .i64 0, .int .i64 0]] (Bo (a0z (a09 k s))):=a9y (a09 k s)
theorem c0t (l:List TyD) (k:Int) (s:List UInt8):l.map a1N++[[.sl 8 [a0c (a09 k s)], .int .i64 0]]=(l++[nmT k s]).map a1N:=by rw[List.map_append];rfl
theorem a5s (one:Int) (l:List (List UInt8)) (hl:l.length≤100000):TyS 2 (a1j one l):=by
 have h1:=a2v l
 have h2:=List.length_filter_le (fun s=>a0z (a09 one s)) (a0N l)
 refine⟨fun t ht=>?_,?_⟩
 ·obtain⟨s,_,rfl⟩:=List.mem_map.1 ht
  exact⟨a5l _ rfl rfl,by simp[nmT]⟩
 ·unfold a1j
  rw[lB];omega
theorem b7K (one all:Int) (c:Bool) (l:List (List UInt8)) (hl:l.length≤1000):PC zP 77 [.st [.bool c, .sl 1 (l.map Sx.encStr)],I .i64 one,I .i64 all] (Yp (a2A one all c l)):=by
 have hS:=a5s one l (by omega)
 have hU:PC zP 18 [Tys (a1j one l)] (Yp (a1e (a1j one l))):=b8X _ hS
 have hF:=c0s l (by omega)
 have h1:=a2v l
 have hA:PC zP 66 [.st [.int .i64 all, .int .i64 0, .int .i64 0, .str [], .sl 1 [], .sl 4 [], .int .i64 0, .int .i64 0]] (.st [.sl 8 [a0c (a0G all)], .int .i64 0]):=a7m (a0G all)
 have hUs:TSm (a1e (a1j one l)).1∧(a1e (a1j one l)).1.length≤10000:=by
  have h2:=List.length_filter_le (fun s=>a0z (a09 one s)) (a0N l)
  unfold a1e
  cases decide (((a1j one l).length:Int)=0)
  ·refine⟨b2Q hS,?_⟩
   have:=(a8b 16 (B:=2) (a1j one l) hS.one).1
   have h3:(a1j one l).length≤l.length:=by unfold a1j;rw[lB];omega
   show (overV 16 _).length≤_
   unfold overV
   rw[List.length_set];omega
  ·exact⟨a5l _ rfl rfl,by simp[a7w]⟩
 have hUl:=hUs.2
 have hN1:TyS 100000 [a1e (a1j one l)]:=⟨fun u hu=>by simp only[List.mem_singleton] at hu;subst hu;exact⟨hUs.1,by omega⟩,by simp⟩
 have hNs:=b2Q (k:=18) hN1
 have hNl:=(a8b 18 (B:=100000) [a1e (a1j one l)] hN1.one).1
 have hD1:TyS 200000 [([a0G all],0),b7r (a1e (a1j one l))]:=⟨fun u hu=>by
  simp only[List.mem_cons,List.not_mem_nil,or_false] at hu
  rcases hu with rfl|rfl
  ·exact⟨a5l _ rfl rfl,by simp⟩
  ·refine⟨hNs,?_⟩
   show (overV 18 _).length<_
   unfold overV
   rw[List.length_set]
   simp only[List.length_singleton] at hNl
   omega,by simp⟩
 have hD:PC zP 21 [.st [.sl 8 [a0c (a0G all)], .int .i64 0],Yp (a1e (a1j one l))] (Yp (b2N ([a0G all],0) (a1e (a1j one l)))):=c54 ([a0G all],0) (a1e (a1j one l)) hN1 hD1
 have hnl:a1j one l=((a0N l).filter fun s=>a0z (a09 one s)).map (nmT one):=rfl
 unfold a2A
 generalize b2N ([a0G all],0) (a1e (a1j one l))=D at hD ⊢
 generalize a1e (a1j one l)=U at hU hD ⊢
 obtain⟨Ul,Ur⟩:=U
 try simp only[a1N] at hU hD
 obtain⟨s,hs⟩:∃ s,s=a0N l:=⟨_,rfl⟩
 rw[← hs] at hF h1 hnl
 clear hUs hUl hN1 hNs hNl hD1
 cases c
 all_goals
  refine PCB.ob Tryz.func77 Tryz.ntmps77 Tryz.results77 ?_
  repeat'(first|(simp only[go_sem,zA,zB,zC,zD,zE,zF,zG,reduceCtorEq,zH,zI,zJ,zK,zL,lB];all_goals refine nf ?_)|(refine stp ?_;intro K hK)|(apply hK;clear hK K)|refine stn ?_|(refine AWP.cnd ?_ ?_<;>intro h<;>(try simp only[zM,zN] at h))|(refine⟨fun h=>?_,fun h=>?_⟩<;>(try simp only[zM,zN] at h)<;>try simp only[h])|(with_reducible refine⟨_,hF,?_⟩)|refine stq ?_|(clear hK K))
  refine AWP.gh (Gh.nilrow 7 901 rfl rfl rfl rfl) ?_
  refine AWP.len 14 rfl fun hlen0=>?_
  (try rw[lB] at hlen0)
  refine AWP.range (S:=List TyD) (s) Sx.encStr (fun k y=>(16,I .i64 (k:Nat))::[(7, .one (.own 901 y.length))]) (fun k y=>[(901, .row 2 (y.map a1N))]) [1,2,3,6,14,15] [3,6] (fun k y=>Is y (((s.take k).filter fun s=>a0z (a09 one s)).map (nmT one))) ([]) (by refine sts ?_;exact Gh.tt []) ?_ ?_ ?_
  ·rfl
  ·intro k y r hlt hr hr' hb hok
   refine sts ?_
   unfold Is at hok
   have hyl:y.length≤100000:=by rw[hok,lB];refine Nat.le_trans (List.length_filter_le _ _) ?_;rw[List.length_take];omega
   have htk:s.take (k+1)=s.take k++[r]:=by rw[List.take_succ_eq_append_getElem hlt,(List.getElem?_eq_some_iff.1 hr).2]
   cases hv:a0z (a09 one r)
   ·
    repeat'(first|(simp only[go_sem,zA,zB,zC,zD,zE,zF,zG,reduceCtorEq,zH,zI,zJ,zK,zL,lB,hb,hv,a0R];all_goals refine nf ?_)|(refine stp ?_;intro K hK)|(apply hK;clear hK K)|refine stn ?_|(refine AWP.cnd ?_ ?_<;>intro h<;>(try simp only[zM,zN] at h))|(refine⟨fun h=>?_,fun h=>?_⟩<;>(try simp only[zM,zN] at h)<;>try simp only[h])|(with_reducible first|refine⟨(by omega:_≤_),Sx.encStr r,hr',?_⟩|refine⟨Sx.encStr r,hr',?_⟩|refine⟨_,b7J one r,?_⟩)|refine stq ?_|(clear hK K))
    all_goals(rw[a0d hlt hlen0])
    all_goals(refine⟨y,?_,Gh.tt []⟩)
    all_goals(unfold Is;rw[hok,htk,List.filter_append];simp[hv])
   ·
    repeat'(first|(simp only[go_sem,zA,zB,zC,zD,zE,zF,zG,reduceCtorEq,zH,zI,zJ,zK,zL,lB,hb,hv,a0R,c0t];all_goals refine nf ?_)|(refine stp ?_;intro K hK)|(apply hK;clear hK K)|refine stn ?_|(refine AWP.cnd ?_ ?_<;>intro h<;>(try simp only[zM,zN] at h))|(refine⟨fun h=>?_,fun h=>?_⟩<;>(try simp only[zM,zN] at h)<;>try simp only[h])|(with_reducible first|refine⟨(by omega:_≤_),Sx.encStr r,hr',?_⟩|refine⟨Sx.encStr r,hr',?_⟩|refine⟨_,b7J one r,?_⟩|refine⟨_,c57 one r,?_⟩|(refine⟨(by first|omega|(simp only[List.length_append,lB,List.length_take,List.length_drop,List.length_cons,List.length_nil,List.length_replicate];omega):_≤_),?_⟩)|refine⟨by omega,by omega,?_⟩)|refine stq ?_|(clear hK K))
    all_goals(rw[a0d hlt hlen0])
    all_goals(refine⟨y++[nmT one r],?_,Gh.tt [(901,29)]⟩)
    all_goals(unfold Is;rw[hok,htk,List.filter_append];simp[hv])
  ·intro y hb hok
   refine sts ?_
   unfold Is at hok
   rw[List.take_length,← hnl] at hok
   subst hok
   refine AWP.gh (Gh.fz 901) ?_
   simp only[go_sem,zA,zB,zC,zD,zE,zF,zG,reduceCtorEq,zH,zI,zJ,zK,zL,lB]
   repeat'(first|(simp only[go_sem,zA,zB,zC,zD,zE,zF,zG,reduceCtorEq,zH,zI,zJ,zK,zL,lB,hb];all_goals refine nf ?_)|(refine stp ?_;intro K hK)|(apply hK;clear hK K)|refine stn ?_|(refine AWP.cnd ?_ ?_<;>intro h<;>(try simp only[zM,zN] at h))|(refine⟨fun h=>?_,fun h=>?_⟩<;>(try simp only[zM,zN] at h)<;>try simp only[h])|(with_reducible first|refine⟨_,hU,?_⟩|refine⟨_,hA,?_⟩|refine⟨_,hD,?_⟩)|refine stq ?_|(clear hK K))
   all_goals(first|exact fun _ h=>absurd h List.not_mem_nil|(refine a0m ?_;rfl))
theorem b7L {x:NodeD} (hp:a1J x=true) (hv:a0z x=true) (hk:x.kids=[]) (hf:x.fields=[]) (h13:decide (x.kind=13)=false) (hb:a3x x.kind=false):wfP [x] 0=0:=by
 refine b9D (by omega) (by simp) (fun y hy=>?_) (fun j hj=>?_)
 ·simp only[List.mem_singleton] at hy;subst hy
  have he:edgeL y=[]:=by unfold edgeL;rw[hk,hf,h13];rfl
  unfold a1A;rw[hp,hv,he];rfl
 ·have:j=0:=by simpa using hj
  subst this
  exact Gr.fin_no _ _ (by unfold bo;simpa using hb)
theorem a7N {x:NodeD} (hw:wfP [x] 0=0) (v:Val):a1q v ([x],0)=memN (a4k [x]) x v:=by
  rw[a2X hw]
  obtain⟨R,hR⟩:=Wf.of hw
  rw[a2s hR (by simp)];rfl
theorem b1N {k:Int} (hk:k=4∨k=6∨k=19) {s:List UInt8} (hv:a0z (a09 k s)=true):wfP (nmT k s).1 0=0:=by
  rcases hk with rfl|rfl|rfl<;>exact b7L rfl hv rfl rfl rfl rfl
theorem b7M {s:List UInt8} (hv:a0z (a09 4 s)=true) (v:Val):a1q v (nmT 4 s)=(decide (v.kind=2)&&decide (v.text=s)):=by
  unfold nmT;rw[a7N (b1N (.inl rfl) hv)];rfl
theorem b7N {s:List UInt8} (hv:a0z (a09 6 s)=true) (v:Val):a1q v (nmT 6 s)=(decide (v.kind=3)&&decide (v.text=s)):=by
  unfold nmT;rw[a7N (b1N (.inr (.inl rfl)) hv)];rfl
theorem b7O {k:Int} (hk:k=5∨k=7):wfP [a0G k] 0=0:=by
  rcases hk with rfl|rfl<;>exact b7L rfl rfl rfl rfl rfl rfl
theorem c0u (v:Val):a1q v ([a0G 5],0)=decide (v.kind=2):=by rw[a7N (b7O (.inl rfl))];rfl
theorem c0v (v:Val):a1q v ([a0G 7],0)=decide (v.kind=3):=by rw[a7N (b7O (.inr rfl))];rfl
theorem c3r (s:List UInt8) (v:Val):a1q v (a2z s)=(a0A s&&v.labels.any fun t=>decide (t=s)):=by
 unfold a2z
 cases h:a0A s
 ·rw[cond_false,b0p];rfl
 ·have hv:a0z (a09 19 s)=true:=h
  rw[cond_true,a7N (b1N (.inr (.inr rfl)) hv),Bool.true_and];rfl
theorem c58 (s:List UInt8):wfP (a2z s).1 (a2z s).2=0:=by
  unfold a2z
  cases h:a0A s
  · exact a74
  · exact b1N (k:=19) (.inr (.inr rfl)) (show a0z (a09 19 s)=true from h)
theorem c59 {a b:Int} (h:a≤b):wfP [b37 a b] 0=0:=b7L rfl (by show decide (a≤b)=true;exact decide_eq_true h) rfl rfl rfl rfl
theorem c3s {a b:Int} (h:a≤b) (v:Val):a1q v ([b37 a b],0)=(decide (v.kind=1)&&(decide (a≤v.num)&&decide (v.num≤b))):=by
  rw[a7N (c59 h)];rfl
def c0d (l:List Ivl.Rg) (n:Int):Bool:=l.any fun r=>decide (r.lo≤n)&&decide (n≤r.hi)
theorem c3t (f:Val→Int→Bool) (g:Val→Bool) (vs:List Val) (ks:List Int) (hk:ks.length=2) (h:∀ v,∀ k∈ks,f v k=g v):a2K f vs ks=(decide (vs.length=2)&&vs.all g):=by
 unfold a2K
 rw[hk]
 cases hl:decide (vs.length=2)
 ·rw[decide_eq_false_iff_not] at hl
  rw[decide_eq_false (by omega)];rfl
 ·rw[decide_eq_true_eq] at hl
  rw[decide_eq_true (by omega),Bool.true_and,Bool.true_and]
  exact b7H g f vs ks (by omega) h
theorem c3u {t:TyD} {B:Nat} (h:TyS B [t,t]) (v:Val):a1q v (b7y [t,t])=(decide (v.kind=6)&&(decide (v.kids.length=2)&&v.kids.all fun p=>a1q p t)):=by
  have e:b7y [t,t]=a1T 10 [t,t]:=rfl
  have hk:ovK 10 [t,t].length=true:=by show ovK 10 2=true;decide
  rw[e,a1T,a2X (a3b hk (a2w h)),a4H hk (a2w h)]
  show (decide (v.kind=6)&&a2K (a4k (overV 10 [t,t])) v.kids (ovS 10 [t,t]).2)=_
  rw[c3t _ (fun p=>a1q p t) _ _ (by rw[a6Q];rfl) fun p k hk'=>?_]
  have hm:=a5S (k:=10) (a2w h) p
  have h1:a4k (overV 10 [t,t]) p k∈[t,t].map (a1q p):=by rw[← hm];exact List.mem_map_of_mem hk'
  simpa using h1
theorem c6a {t:TyD} {B:Nat} (h:TyS B [t,t]):wfP (b7y [t,t]).1 (b7y [t,t]).2=0:=a3b (k:=10) (ts:=[t,t]) (by show ovK 10 2=true;decide) (a2w h)
theorem c3v {a b:TyD} {B:Nat} (h:TyS B [a,b]):wfP (a9k a b).1 (a9k a b).2=0:=a3b (k:=12) (ts:=[a,b]) (by show ovK 12 2=true;decide) (a2w h)
theorem c0w {a b:TyD} {B:Nat} (h:TyS B [a,b]) (v:Val):a1q v (a9k a b)=(decide (v.kind=7)&&(decide (v.kids.length=2)&&(a1q (v.kids.getD 0 a0Z) a&&a1q (v.kids.getD 1 a0Z) b))):=by
 have hk:ovK 12 [a,b].length=true:=by show ovK 12 2=true;decide
 unfold a9k
 rw[a1T,a2X (a3b hk (a2w h)),a4H hk (a2w h)]
 show (decide (v.kind=7)&&a2K (a4k (overV 12 [a,b])) v.kids (ovS 12 [a,b]).2)=_
 have hl:(ovS 12 [a,b]).2.length=2:=a6Q 12 [a,b]
 match hks:(ovS 12 [a,b]).2,hl with
 |[k1,k2],_=>
  have m1:∀ p,a4k (overV 12 [a,b]) p k1=a1q p a∧a4k (overV 12 [a,b]) p k2=a1q p b:=fun p=>by
   have hm:=a5S (k:=12) (a2w h) p
   rw[hks] at hm
   simpa using hm
  unfold a2K
  cases hv:decide (v.kids.length=2)
  ·rw[decide_eq_false_iff_not] at hv
   rw[decide_eq_false (show ¬ ((v.kids.length:Int)=(([k1,k2]:List Int).length:Int)) from fun h=>hv (by simp only[List.length_cons,List.length_nil] at h;omega))];rfl
  ·rw[decide_eq_true_eq] at hv
   obtain⟨p,q,hpq⟩:∃ p q,v.kids=[p,q]:=by
    match hvk:v.kids,hv with
    |[p,q],_=>exact⟨p,q,rfl⟩
   rw[hpq]
   simp[(m1 p).1,(m1 q).2]
end Go.Proofs.YthbcdhfiibpeaaaGreat

