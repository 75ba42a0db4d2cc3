/- Lemmas of the proof. -/
import Derived.Test.YthbcdhfiibpeaaaGreatTm32
open List renaming length_append→lA,length_map→lB,length_cons→lC,length_nil→lD,mem_singleton→lN,length_take→lQ
open Go.Sx.AWP renaming gh→xD
open Nat renaming reduceBEq→zA,reduceBNe→zB,reduceAdd→zC,reduceSub→zD,reduceMul→zE,reduceLeDiff→zF,reduceLT→zG,reduceEqDiff→zH
open Int renaming reduceToNat→zI,reduceLE→zJ,reduceLT→zK,reduceEq→zL
open Bool renaming not_eq_true'→zM,not_eq_false'→zN
set_option linter.unusedSimpArgs false
set_option linter.unusedVariables false
set_option maxRecDepth 20000
set_option maxHeartbeats 64000000
namespace Go.Proofs.YthbcdhfiibpeaaaGreat
open Go Go.Sx
def b0J (l:List NodeD) (r:Int) (g:Int→Src→Val×Src) (h:Int):Prop:=
  ∀ (k:Int) (s:Src),s.ok→0≤k→k<(l.length:Int)→PCB Tryz.prog 46 [Sp pin,Tt l r,I .i64 k,I .i64 h] [(pin,a1d s)] (Vt (g k s).1) [(pin,a1d (g k s).2)]
theorem b0J.k {l:List NodeD} {r:Int} {g:Int→Src→Val×Src} {h:Int} (H:b0J l r g h) (j:Nat) (k:Int) (s:Src) (hs:s.ok) (h0:0≤k) (h1:k<(l.length:Int)):
  a2f Tryz.prog 46 [Sp j, .st [.sl 8 (l.map a0c), .int .i64 r],I .i64 k,I .i64 h] j (a1d s) (Vt (g k s).1) (a1d (g k s).2):=a2f.mk j (H k s hs h0 h1)
def a4F (l:List Int):Int:=l.getD (l.length-1) 0
abbrev b4L:=Src×List KeyD×List Val
def c0e (g:Int→Src→Val×Src):List FieldD→b4L→b4L
 |[],x=>x
 |f::fs,x=>bif f.opt&&decide (a0h x.1 2=1) then c0e g fs (a0f x.1 2,x.2.1,x.2.2)
  else c0e g fs ((g f.node (bif f.opt then a0f x.1 2 else x.1)).2,x.2.1++[f.key],x.2.2++[(g f.node (bif f.opt then a0f x.1 2 else x.1)).1])
def b5Q:List UInt8:=[111,116,104,101,114]
def c7I (g:Int→Src→Val×Src) (a b:Int) (x:b4L):b4L:=
  bif decide (a0h x.1 2=1) then ((g (bif decide (a0h (a0f x.1 2) 2=0) then a else b) (a0f (a0f x.1 2) 2)).2,x.2.1++[⟨a0h (a0f x.1 2) 2,b5Q⟩],x.2.2++[(g (bif decide (a0h (a0f x.1 2) 2=0) then a else b) (a0f (a0f x.1 2) 2)).1])
  else (a0f x.1 2,x.2.1,x.2.2)
def a1U (g:Int→Src→Val×Src) (x:NodeD) (s:Src):b4L:=c7I g x.r0 x.r1 (c0e g x.fields (s,[],[]))
def a2c (g:Int→Src→Val×Src) (x:NodeD) (s:Src):Val×Src:=
  (bif decide ((a83 (a1U g x s).2.1 (a1U g x s).2.2).2=0) then (a83 (a1U g x s).2.1 (a1U g x s).2.2).1 else a0Z,(a1U g x s).1)
theorem b84 (l:List KeyD) (a:Int) (b:List UInt8):l.map a0k++[[C.int .i64 a,C.str b]]=(l++[(⟨a,b⟩:KeyD)]).map a0k:=by rw[List.map_append];rfl
theorem b3q (l:List KeyD) (f:FieldD):l.map a0k++[[C.int .i64 f.key.kind,C.str f.key.text]]=(l++[f.key]).map a0k:=by rw[List.map_append];rfl
theorem b85 (l:List NodeD) (r:Int) (g:Int→Src→Val×Src) (h:Nat) (H:b0J l r g (h:Int)) (hg:∀ k s,s.ok→(g k s).2.ok) (hh:h≤1000) (x:NodeD)
  (hf:∀ f∈x.fields,0≤f.node∧f.node<(l.length:Int)) (hfl:x.fields.length≤1000) (h0:0≤x.r0∧x.r0<(l.length:Int)) (h1:0≤x.r1∧x.r1<(l.length:Int)) (s:Src) (hs:s.ok):
  PCB Tryz.prog 125 [Sp pin,Tt l r,Nt x,I .i64 ((h+1:Nat):Int)] [(pin,a1d s)] (Vt (a2c g x s).1) [(pin,a1d (a2c g x s).2)]:=by
 have hw:IntKind.i64.wrap (((h+1:Nat):Int)-1)=(h:Int):=by rw[w64 (by omega)];omega
 refine PCB.ob Tryz.func125 Tryz.ntmps125 Tryz.results125 ?_
 repeat'(first|(simp only[go_sem,zA,zB,zC,zD,zE,zF,zG,reduceCtorEq,zH,zI,zJ,zK,zL,pin,a0b,lB];all_goals refine nf ?_)|(refine stp ?_;intro K hK)|(apply hK;clear hK K)|refine stn ?_|fail)
 refine xD (Gh.nilrow 9 900 rfl rfl rfl rfl) ?_
 refine xD (Gh.nilrow 10 901 rfl rfl rfl rfl) ?_
 refine AWP.lenB 6 5 rfl rfl fun hlen0=>?_
 (try rw[lB] at hlen0)
 refine AWP.range (S:=b4L) (x.fields) a0i (fun k s=>(11,I .i64 (k:Nat))::[(9, .one (.own 900 s.2.1.length)),(10, .one (.own 901 s.2.2.length))]) (fun k s=>[(1000000,a1d s.1),(900, .row 2 (s.2.1.map a0k)),(901, .row 7 (s.2.2.map a0g))]) [0,3,5,6,8] [5,6,8] (fun k y=>Is (c0e g x.fields (s,[],[])) (c0e g (x.fields.drop k) y)∧y.1.ok∧y.2.1.length≤k∧y.2.1.length=y.2.2.length) ((s,[],[])) (by refine sts ?_;exact Gh.tt []) ?_ ?_ ?_
 ·exact⟨rfl,hs,Nat.le_refl _,rfl⟩
 ·rintro k ⟨t,ak,av⟩ f hlt hf1 hf1' hbb ⟨hok,ht,hl,hkv⟩
  refine sts ?_
  simp only at hok ht hl hkv
  have hd:x.fields.drop k=f::x.fields.drop (k+1):=by
   obtain⟨hk,e⟩:=List.getElem?_eq_some_iff.1 hf1
   rw[List.drop_eq_getElem_cons hk,e]
  have hfm:=hf f (List.mem_of_getElem? hf1)
  unfold Is at hok
  rw[hd,c0e] at hok
  have ht2:=a0j ht 2
  cases ho:f.opt with
  |false=>
   rw[ho] at hok
   simp only[Bool.false_and,cond_false] at hok
   repeat'(first|(simp only[go_sem,zA,zB,zC,zD,zE,zF,zG,reduceCtorEq,zH,zI,zJ,zK,zL,pin,lB,hbb,ho,hw,encField_lit,b3q,a3y];all_goals refine nf ?_)|(refine stp ?_;intro K hK)|(apply hK;clear hK K)|refine stn ?_|(with_reducible first|refine⟨by omega,a0i f,hf1',?_⟩|(refine⟨(by first|omega|(simp only[lA,lB,lQ,List.length_drop,lC,lD,List.length_replicate];omega):_≤_),?_⟩))|(refine⟨1000000,_,_,_,H.k 1000000 f.node t ht hfm.1 hfm.2,rfl,?_⟩)|(with_reducible refine AWP.genR (id:=8) [11,13] [1000000,901] mixed (by kernel_rfl) fun K hK=>?_;simp only[Bx.outs,Bx.drop,cond_true,cond_false,Nat.reduceBEq,go_sem])|refine stq ?_|(clear hK K))
   all_goals(rw[a0d hlt hlen0])
   all_goals(refine⟨((g f.node t).2,ak++[f.key],av++[(g f.node t).1]),?_,Gh.tt [(900,41),(901,55)]⟩)
   all_goals exact⟨hok,hg _ _ ht,by simp;omega,by simp;omega⟩
  |true=>
   rw[ho] at hok
   simp only[Bool.true_and] at hok
   cases hc:decide (a0h t 2=1) with
   |true=>
    rw[hc] at hok
    simp only[cond_true] at hok
    repeat'(first|(simp only[go_sem,zA,zB,zC,zD,zE,zF,zG,reduceCtorEq,zH,zI,zJ,zK,zL,pin,lB,hbb,ho,hc,hw,encField_lit];all_goals refine nf ?_)|(refine stp ?_;intro K hK)|(apply hK;clear hK K)|refine stn ?_|(with_reducible refine⟨by omega,a0i f,hf1',?_⟩)|(refine⟨1000000,_,_,_,a0v 1000000 t ht 2 (by omega),rfl,?_⟩)|refine stq ?_|(clear hK K))
    all_goals(rw[a0d hlt hlen0])
    all_goals(refine⟨(a0f t 2,ak,av),?_,Gh.tt []⟩)
    all_goals exact⟨hok,ht2,Nat.le_succ_of_le hl,hkv⟩
   |false=>
    rw[hc] at hok
    simp only[cond_true,cond_false] at hok
    repeat'(first|(simp only[go_sem,zA,zB,zC,zD,zE,zF,zG,reduceCtorEq,zH,zI,zJ,zK,zL,pin,lB,hbb,ho,hc,hw,encField_lit,b3q,a3y];all_goals refine nf ?_)|(refine stp ?_;intro K hK)|(apply hK;clear hK K)|refine stn ?_|(with_reducible first|refine⟨by omega,a0i f,hf1',?_⟩|(refine⟨(by first|omega|(simp only[lA,lB,lQ,List.length_drop,lC,lD,List.length_replicate];omega):_≤_),?_⟩))|(refine⟨1000000,_,_,_,a0v 1000000 t ht 2 (by omega),rfl,?_⟩)|(refine⟨1000000,_,_,_,H.k 1000000 f.node _ ht2 hfm.1 hfm.2,rfl,?_⟩)|(with_reducible refine AWP.genR (id:=8) [11,13] [1000000,901] mixed (by kernel_rfl) fun K hK=>?_;simp only[Bx.outs,Bx.drop,cond_true,cond_false,Nat.reduceBEq,go_sem])|refine stq ?_|(clear hK K))
    all_goals(rw[a0d hlt hlen0])
    all_goals(refine⟨((g f.node (a0f t 2)).2,ak++[f.key],av++[(g f.node (a0f t 2)).1]),?_,Gh.tt [(900,41),(901,55)]⟩)
    all_goals exact⟨hok,hg _ _ ht2,by simp;omega,by simp;omega⟩
 ·rintro⟨t,ak,av⟩ hbb ⟨hok,ht,hl,hkv⟩
  refine sts ?_
  simp only at hok ht hl hkv
  unfold Is at hok
  rw[List.drop_length,c0e] at hok
  have ht2:=a0j ht 2
  have ht3:=a0j ht2 2
  have hv2:=a0p (a0f t 2) (n:=2) (by omega)
  cases hc:decide (a0h t 2=1) with
  |false=>
   have hM:a1U g x s=(a0f t 2,ak,av):=by unfold a1U;rw[hok,c7I,hc];rfl
   cases hm:decide ((a83 ak av).2=0)
   all_goals
    repeat'(first|(simp only[go_sem,zA,zB,zC,zD,zE,zF,zG,reduceCtorEq,zH,zI,zJ,zK,zL,pin,hbb,hc,hm,lB];all_goals refine nf ?_)|(refine stp ?_;intro K hK)|(apply hK;clear hK K)|refine stn ?_|(with_reducible first|refine⟨_,b2m ak av (by omega),?_⟩|refine⟨_,a28,?_⟩)|(refine⟨1000000,_,_,_,a0v 1000000 t ht 2 (by omega),rfl,?_⟩)|refine stq ?_|(clear hK K))
   all_goals(simp only[a2c,hM,hm,cond_true,cond_false])
   all_goals(first|exact⟨rfl,fun x hx=>by simp only[lN] at hx;subst hx;simp[pin]⟩|exact⟨trivial,fun x hx=>by simp only[lN] at hx;subst hx;simp[pin]⟩|(intro x hx;simp only[lN] at hx;subst hx;simp[pin])|fail)
  |true=>
   obtain⟨kk,hkk⟩:∃ kk,kk=a0h (a0f t 2) 2:=⟨_,rfl⟩
   obtain⟨to,hto⟩:∃ to,to=bif decide (kk=0) then x.r0 else x.r1:=⟨_,rfl⟩
   have hM:a1U g x s=((g to (a0f (a0f t 2) 2)).2,ak++[⟨kk,b5Q⟩],av++[(g to (a0f (a0f t 2) 2)).1]):=by unfold a1U;rw[hok,c7I,hc,hto,hkk];rfl
   have hti:0≤to∧to<(l.length:Int):=by rw[hto];cases decide (kk=0)<;>assumption
   have hk01:kk=0∨kk=1:=by omega
   have hN:=a0v 1000000 _ ht2 2 (by omega)
   rw[← hkk] at hN
   obtain⟨kl,hkl⟩:∃ kl,kl=ak++[(⟨kk,b5Q⟩:KeyD)]:=⟨_,rfl⟩
   have hkl2:kl.length≤1000000:=by rw[hkl];simp;omega
   obtain⟨vl,hvl⟩:∃ vl,vl=av++[(g to (a0f (a0f t 2) 2)).1]:=⟨_,rfl⟩
   have hMc:=b2m kl vl hkl2
   rw[← hkl,← hvl] at hM
   rcases hk01 with rfl|rfl
   all_goals
    (try(have e0:to=x.r0:=hto))
    (try(have e0:to=x.r1:=hto))
    cases hm:decide ((a83 kl vl).2=0)
    all_goals
     repeat'(first|(simp only[go_sem,zA,zB,zC,zD,zE,zF,zG,reduceCtorEq,zH,zI,zJ,zK,zL,pin,hbb,hc,hm,hw,← e0,← hkl,← hvl,b84,a3y,lB,(show [(111:UInt8),116,104,101,114]=b5Q from rfl)];all_goals refine nf ?_)|(refine stp ?_;intro K hK)|(apply hK;clear hK K)|refine stn ?_|(with_reducible first|refine⟨_,hMc,?_⟩|refine⟨_,a28,?_⟩|(refine⟨(by first|omega|(simp only[lA,lB,lQ,List.length_drop,lC,lD,List.length_replicate];omega):_≤_),?_⟩))|(refine⟨1000000,_,_,_,a0v 1000000 t ht 2 (by omega),rfl,?_⟩)|(refine⟨1000000,_,_,_,hN,rfl,?_⟩)|(refine⟨1000000,_,_,_,H.k 1000000 to _ ht3 hti.1 hti.2,rfl,?_⟩)|(with_reducible refine AWP.genR (id:=12) [10,12] [1000000,901] mixed (by kernel_rfl) fun K hK=>?_;simp only[Bx.outs,Bx.drop,cond_true,cond_false,Nat.reduceBEq,go_sem])|refine stq ?_|(clear hK K))
    all_goals(simp only[a2c,hM,hm,cond_true,cond_false])
   all_goals(first|exact⟨rfl,fun x hx=>by simp only[lN] at hx;subst hx;simp[pin]⟩|exact⟨trivial,fun x hx=>by simp only[lN] at hx;subst hx;simp[pin]⟩|(intro x hx;simp only[lN] at hx;subst hx;simp[pin])|fail)
def a2h (g:Int→Src→Val×Src):List Int→Src→List Val×Src
  |[],s=>([],s)
  |k::ks,s=>((g k s).1::(a2h g ks (g k s).2).1,(a2h g ks (g k s).2).2)
theorem a85 {g:Int→Src→Val×Src} (hg:∀ k s,s.ok→(g k s).2.ok):∀ (ks:List Int) (s:Src),s.ok→(a2h g ks s).2.ok
  |[],s,h=>h
  |k::ks,s,h=>a85 hg ks _ (hg k s h)
theorem a8d (g:Int→Src→Val×Src) (ks:List Int) (k:Int) (s:Src) (acc:List Val):(acc++(a2h g (k::ks) s).1,(a2h g (k::ks) s).2)=((acc++[(g k s).1])++(a2h g ks (g k s).2).1,(a2h g ks (g k s).2).2):=by
  simp[a2h]
def a94 (g:Int→Src→Val×Src) (ks:List Int) (s:Src):Ent×Src:=
  bif decide (a0h (a2h g (ks.take (ks.length-1)) s).2 6=1) then (((a2h g (ks.take (ks.length-1)) s).1,true,a1Q),a0f (a2h g (ks.take (ks.length-1)) s).2 6)
  else (((a2h g (ks.take (ks.length-1)) s).1,false,(g (a4F ks) (a0f (a2h g (ks.take (ks.length-1)) s).2 6)).1),(g (a4F ks) (a0f (a2h g (ks.take (ks.length-1)) s).2 6)).2)
theorem b4M {g:Int→Src→Val×Src} (hg:∀ k s,s.ok→(g k s).2.ok) (ks:List Int) {s:Src} (h:s.ok):(a94 g ks s).2.ok:=by
  unfold a94
  have h1:=a85 hg (ks.take (ks.length-1)) s h
  cases decide (a0h (a2h g (ks.take (ks.length-1)) s).2 6=1)
  · exact hg _ _ (a0j h1 6)
  · exact a0j h1 6
def a48 (g:Int→Src→Val×Src) (x:NodeD) (s:Src):List Ent×Src:=a0Q (a94 g x.kids) (a0h s 3).toNat (a0f s 3)
def a2l (g:Int→Src→Val×Src) (x:NodeD) (s:Src):Val×Src:=
  (bif decide ((fnV ((x.kids.length:Int)-1) (a48 g x s).1).2=0) then (fnV ((x.kids.length:Int)-1) (a48 g x s).1).1 else a0Z,(a48 g x s).2)
theorem c1B (l:List Ent) (a:List Val):l.map a0l++[[C.sl 7 (a.map a0g),C.bool true,C.int IntKind.i64 0,C.int IntKind.i64 0,C.str [],C.sl 7 [],C.sl 2 [],C.sl 9 [],C.sl 1 []]]=(l++[(a,true,a1Q)]).map a0l:=by
  rw[List.map_append,List.map_cons,List.map_nil,a0H];rfl
theorem c1C (l:List Ent) (a:List Val) (v:Val):l.map a0l++[C.sl 7 (a.map a0g)::C.bool false::a0g v]=(l++[(a,false,v)]).map a0l:=by
  rw[List.map_append,List.map_cons,List.map_nil,a0H,a0a]
theorem b86 (l:List NodeD) (r:Int) (g:Int→Src→Val×Src) (h:Nat) (H:b0J l r g (h:Int)) (hg:∀ k s,s.ok→(g k s).2.ok) (hh:h≤1000) (x:NodeD)
  (hk:∀ k∈x.kids,0≤k∧k<(l.length:Int)) (hk1:1≤x.kids.length) (hk2:x.kids.length≤1000) (s:Src) (hs:s.ok):
  PCB Tryz.prog 126 [Sp pin,Tt l r,Nt x,I .i64 ((h+1:Nat):Int)] [(pin,a1d s)] (Vt (a2l g x s).1) [(pin,a1d (a2l g x s).2)]:=by
 have hw:IntKind.i64.wrap (((h+1:Nat):Int)-1)=(h:Int):=by rw[w64 (by omega)];omega
 obtain⟨a,ha⟩:∃ a:Nat,a=x.kids.length-1:=⟨_,rfl⟩
 have hwa:IntKind.i64.wrap ((x.kids.length:Int)-1)=(a:Int):=by rw[w64 (by omega)];omega
 have h3:=a0p s (n:=3) (by omega)
 have hs1:=a0j hs 3
 obtain⟨m0,hm0⟩:∃ m:Nat,m=(a0h s 3).toNat:=⟨_,rfl⟩
 have hmm:a0h s 3=(m0:Int):=by omega
 refine PCB.ob Tryz.func126 Tryz.ntmps126 Tryz.results126 ?_
 repeat'(first|(simp only[go_sem,zA,zB,zC,zD,zE,zF,zG,reduceCtorEq,zH,zI,zJ,zK,zL,pin,a0b,lB,hwa,hmm];all_goals refine nf ?_)|(refine stp ?_;intro K hK)|(apply hK;clear hK K)|refine stn ?_|(refine⟨1000000,_,_,_,a0v 1000000 s hs 3 (by omega),rfl,?_⟩)|refine stq ?_|fail)
 refine xD (Gh.nilrow 9 901 rfl rfl rfl rfl) ?_
 refine AWP.loopF (X:=Nat×Src×List Ent) (fun x=>[(11,I .i64 x.1),(9, .one (.own 901 x.2.2.length))]) (fun x=>[(1000000,a1d x.2.1),(901, .row 9 (x.2.2.map a0l))]) [0,3,5,6,8,10] [5,6,8] (fun y=>y.1+y.2.2.length≤3∧y.2.1.ok∧a48 g x s=(y.2.2++(a0Q (a94 g x.kids) y.1 y.2.1).1,(a0Q (a94 g x.kids) y.1 y.2.1).2)) (fun x=>x.1) ((m0,a0f s 3,[])) (by refine sts ?_;exact Gh.tt []) ?_ ?_
 ·exact⟨by simp;omega,hs1,by unfold a48;rw[← hm0];simp⟩
 rintro⟨m,t,acc⟩ ⟨hl,ht,hp⟩
 simp only at hl ht hp
 refine sts ?_
 cases m with
 |succ m=>
  rw[a4C] at hp
  have hw2:IntKind.i64.wrap (((m+1:Nat):Int)-1)=(m:Int):=a2a (by omega)
  repeat'(first|(simp only[go_sem,zA,zB,zC,zD,zE,zF,zG,reduceCtorEq,zH,zI,zJ,zK,zL,pin,a7V];all_goals refine nf ?_)|(refine stp ?_;intro K hK)|(apply hK;clear hK K)|refine stn ?_|fail)
  refine xD (Gh.nilcell 12 0 900 rfl rfl rfl (by simp only[go_sem,zA,zB,zC,zD,zE,zF,zG,reduceCtorEq,zH,zI,zJ,zK,zL]) (by simp only[go_sem,zA,zB,zC,zD,zE,zF,zG,reduceCtorEq,zH,zI,zJ,zK,zL])) ?_
  refine AWP.loopF (X:=Nat×Src×List Val) (fun x=>[(13,I .i64 x.1)]) (fun x=>[(1000000,a1d x.2.1),(12,c2H x.2.2.length),(900, .row 7 (x.2.2.map a0g))]) [0,3,5,6,8,9,10,11,12] [5,6,8,901] (fun y=>y.1≤a∧y.2.2.length=y.1∧y.2.1.ok∧a2h g (x.kids.take a) t=(y.2.2++(a2h g ((x.kids.take a).drop y.1) y.2.1).1,(a2h g ((x.kids.take a).drop y.1) y.2.1).2)) (fun x=>a-x.1) ((0,t,[])) (by refine sts ?_;exact Gh.tt []) ?_ ?_
  ·exact⟨Nat.zero_le _,rfl,ht,rfl⟩
  rintro⟨i,u,args⟩ ⟨hi,hal,hu,hq⟩
  simp only at hi hal hu hq
  refine sts ?_
  by_cases h3:i=a
  ·subst h3
   have hlt:decide ((i:Int)<(i:Int))=false:=by simp
   rw[List.drop_eq_nil_of_le (by rw[lQ];omega),a2h,List.append_nil] at hq
   have hu6:=a0j hu 6
   have hy:x.kids[i]?= some (a4F x.kids):=by
    unfold a4F
    rw[← ha,List.getD_eq_getElem?_getD,List.getElem?_eq_getElem (by omega)];rfl
   have hy':(x.kids.map a0e)[i]?= some (a0e (a4F x.kids)):=a0n a0e hy
   have hki:=hk _ (List.mem_of_getElem? hy)
   have hne:a94 g x.kids t=bif decide (a0h u 6=1) then ((args,true,a1Q),a0f u 6) else ((args,false,(g (a4F x.kids) (a0f u 6)).1),(g (a4F x.kids) (a0f u 6)).2):=by
    unfold a94;rw[← ha,hq]
   cases hc:decide (a0h u 6=1) with
   |true=>
    rw[hc] at hne
    simp only[cond_true] at hne
    refine xD (Gh.fz 900) ?_
    simp only[go_sem,zA,zB,zC,zD,zE,zF,zG,reduceCtorEq,zH,zI,zJ,zK,zL,lB]
    repeat'(first|(simp only[go_sem,zA,zB,zC,zD,zE,zF,zG,reduceCtorEq,zH,zI,zJ,zK,zL,pin,hlt,hc,hw2,lB,c1B];all_goals refine nf ?_)|(refine stp ?_;intro K hK)|(apply hK;clear hK K)|refine stn ?_|(with_reducible (refine⟨(by first|omega|(simp only[lA,lB,lQ,List.length_drop,lC,lD,List.length_replicate];omega):_≤_),?_⟩))|(refine⟨1000000,_,_,_,a0v 1000000 u hu 6 (by omega),rfl,?_⟩)|refine stq ?_|(clear hK K))
    all_goals(refine⟨(m,(a94 g x.kids t).2,acc++[(a94 g x.kids t).1]),by simp only;omega,⟨by simp;omega,b4M hg _ ht,hp⟩,?_⟩)
    all_goals(rw[hne];exact Gh.tt [(901,64)])
   |false=>
    rw[hc] at hne
    simp only[cond_false] at hne
    refine xD (Gh.fz 900) ?_
    simp only[go_sem,zA,zB,zC,zD,zE,zF,zG,reduceCtorEq,zH,zI,zJ,zK,zL,lB]
    repeat'(first|(simp only[go_sem,zA,zB,zC,zD,zE,zF,zG,reduceCtorEq,zH,zI,zJ,zK,zL,pin,hlt,hc,hw,hw2,lB,a0b,c1C];all_goals refine nf ?_)|(refine stp ?_;intro K hK)|(apply hK;clear hK K)|refine stn ?_|(with_reducible first|refine⟨(by omega:_≤_),a0e (a4F x.kids),hy',?_⟩|(refine⟨(by first|omega|(simp only[lA,lB,lQ,List.length_drop,lC,lD,List.length_replicate];omega):_≤_),?_⟩))|(refine⟨1000000,_,_,_,a0v 1000000 u hu 6 (by omega),rfl,?_⟩)|(refine⟨1000000,_,_,_,H.k 1000000 (a4F x.kids) _ hu6 hki.1 hki.2,rfl,?_⟩)|(with_reducible refine AWP.genR (id:=13) [9,11] [1000000,12] mixed (by kernel_rfl) fun K hK=>?_;simp only[Bx.outs,Bx.drop,cond_true,cond_false,Nat.reduceBEq,go_sem])|refine stq ?_|(clear hK K))
    all_goals(refine⟨(m,(a94 g x.kids t).2,acc++[(a94 g x.kids t).1]),by simp only;omega,⟨by simp;omega,b4M hg _ ht,hp⟩,?_⟩)
    all_goals(rw[hne];exact Gh.tt [(901,64)])
  ·have hlt:decide ((i:Int)<(a:Int))=true:=by rw[decide_eq_true_eq];omega
   have hwi:IntKind.i64.wrap ((i:Int)+1)=((i+1:Nat):Int):=by rw[w64 (by omega)];rfl
   have hil:i<(x.kids.take a).length:=by rw[lQ];omega
   obtain⟨y,hyd⟩:∃ y,y=x.kids[i]'(by omega):=⟨_,rfl⟩
   have hd:(x.kids.take a).drop i=y::(x.kids.take a).drop (i+1):=by
    rw[List.drop_eq_getElem_cons hil,List.getElem_take,hyd]
   have hy:x.kids[i]?= some y:=by rw[List.getElem?_eq_getElem (by omega),hyd]
   have hy':(x.kids.map a0e)[i]?= some (a0e y):=a0n a0e hy
   have hki:=hk _ (List.mem_of_getElem? hy)
   rw[hd,a8d] at hq
   repeat'(first|(simp only[go_sem,zA,zB,zC,zD,zE,zF,zG,reduceCtorEq,zH,zI,zJ,zK,zL,pin,hlt,hw,hwi,lB,a0b,a3y];all_goals refine nf ?_)|(refine stp ?_;intro K hK)|(apply hK;clear hK K)|refine stn ?_|(with_reducible first|refine⟨(by omega:_≤_),a0e y,hy',?_⟩|(refine⟨(by first|omega|(simp only[lA,lB,lQ,List.length_drop,lC,lD,List.length_replicate];omega):_≤_),?_⟩))|(refine⟨1000000,_,_,_,H.k 1000000 y u hu hki.1 hki.2,rfl,?_⟩)|(with_reducible refine AWP.genR2 (id:=10) [11,13,15] [1000000,12,900] [1] 15 [1000000,900] mixed (by kernel_rfl) fun K hK=>?_;simp only[Bx.outs,Bx.drop,cond_true,cond_false,Nat.reduceBEq,go_sem])|(clear hK K))
   all_goals(refine⟨(i+1,(g y u).2,args++[(g y u).1]),by simp only;omega,⟨by simp only;omega,by simp[hal],hg _ _ hu,hq⟩,Gh.tt [(900,44)]⟩)
 |zero=>
  rw[a0Q,List.append_nil] at hp
  have h0:decide ((0:Int)<((0:Nat):Int))=false:=by simp
  have hfc:=a7s ((x.kids.length:Int)-1) acc (by omega)
  rw[show (x.kids.length:Int)-1=(a:Int) by omega] at hfc
  refine xD (Gh.fz 901) ?_
  simp only[go_sem,zA,zB,zC,zD,zE,zF,zG,reduceCtorEq,zH,zI,zJ,zK,zL,lB]
  have e:a2l g x s=(bif decide ((fnV (a:Int) acc).2=0) then (fnV (a:Int) acc).1 else a0Z,t):=by
   unfold a2l;rw[hp,show (x.kids.length:Int)-1=(a:Int) by omega]
  cases hm:decide ((fnV (a:Int) acc).2=0)
  all_goals
   repeat'(first|(simp only[go_sem,zA,zB,zC,zD,zE,zF,zG,reduceCtorEq,zH,zI,zJ,zK,zL,pin,h0,hm];all_goals refine nf ?_)|(refine stp ?_;intro K hK)|(apply hK;clear hK K)|refine stn ?_|(with_reducible first|refine⟨_,hfc,?_⟩|refine⟨_,a28,?_⟩)|refine stq ?_|(clear hK K))
  all_goals(simp only[e,hm,cond_true,cond_false])
  all_goals(first|exact⟨rfl,fun x hx=>by simp only[lN] at hx;subst hx;simp[pin]⟩|exact⟨trivial,fun x hx=>by simp only[lN] at hx;subst hx;simp[pin]⟩|(intro x hx;simp only[lN] at hx;subst hx;simp[pin])|fail)
end Go.Proofs.YthbcdhfiibpeaaaGreat

