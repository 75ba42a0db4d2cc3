/- Lemmas of the proof. -/
import Derived.Test.YthbcdhfiibpeaaaGreatTm21
import Derived.Test.YthbcdhfiibpeaaaGreatTm7
import Derived.Test.YthbcdhfiibpeaaaGreatTm28
open Go.Proofs.Tryz renaming prog→zP
open List renaming length_map→lB
open Nat renaming reduceBEq→zA,reduceBNe→zB,reduceAdd→zC,reduceSub→zD,reduceMul→zE,reduceLeDiff→zF,reduceLT→zG,reduceEqDiff→zH
open Int renaming reduceToNat→zI,reduceLE→zJ,reduceLT→zK,reduceEq→zL
open Bool renaming not_eq_true'→zM,not_eq_false'→zN
set_option linter.unusedSimpArgs false
set_option linter.unusedVariables false
set_option maxRecDepth 20000
set_option maxHeartbeats 64000000
namespace Go.Proofs.YthbcdhfiibpeaaaGreat
open Go Go.Sx
def b0G (k:Int):NodeD:=⟨k,0,0,[],[],[],0,0⟩
theorem a7m (x:NodeD):PC zP 66 [Nt x] (Tt [x] 0):=by
  refine PCB.ob Tryz.func66 Tryz.ntmps66 Tryz.results66 ?_
  repeat'(first|(simp only[go_sem,zA,zB,zC,zD,zE,zF,zG,reduceCtorEq,zH,zI,zJ,zK,zL,a0b];all_goals refine nf ?_)|(refine stp ?_;intro K hK)|(apply hK;clear hK K)|refine stn ?_|refine stq ?_|fail)
  all_goals(refine a0m ?_;rfl)
theorem b5B (k:Int):PC zP 66 [.st [.int .i64 k, .int .i64 0, .int .i64 0, .str [], .sl 1 [], .sl 4 [], .int .i64 0, .int .i64 0]] (.st [.sl 8 ([b0G k].map a0c), .int .i64 0]):=a7m (b0G k)
theorem c2G:PC zP 25 [] (Tt [b0G 1] 0):=by
  refine PCB.ob Tryz.func25 Tryz.ntmps25 Tryz.results25 ?_
  repeat'(first|(simp only[go_sem,zA,zB,zC,zD,zE,zF,zG,reduceCtorEq,zH,zI,zJ,zK,zL];all_goals refine nf ?_)|(refine stp ?_;intro K hK)|(apply hK;clear hK K)|refine stn ?_|(with_reducible refine⟨_,b5B 1,?_⟩)|refine stq ?_|fail)
  all_goals(refine a0m ?_;rfl)
def a0x (l:List NodeD) (r:Int):List NodeD:=bif decide (wfP l r=0) then l else [b0G 1]
def a1M (l:List NodeD) (r:Int):Int:=bif decide (wfP l r=0) then r else 0
theorem a74:wfP [b0G 1] 0=0:=by decide
theorem b3h (l:List NodeD) (r:Int):wfP (a0x l r) (a1M l r)=0:=by
  unfold a0x a1M
  cases h:decide (wfP l r=0)
  · exact a74
  · exact of_decide_eq_true h
theorem a7n {l:List NodeD} (hl:TSm l) (r:Int):TSm (a0x l r):=by
  unfold a0x
  cases decide (wfP l r=0)
  · refine⟨by simp,fun x hx=>?_,fun x hx=>?_⟩<;>(simp only[cond_false,List.mem_singleton] at hx;subst hx;simp[b0G])
  · exact hl
theorem a6A {l:List NodeD} {r:Int} (h:wfP l r=0):0≤r∧r<(l.length:Int)∧l.all (a1A l)=true∧a6y l=true:=by
 unfold wfP at h
 cases h1:a3W l r<;>rw[h1] at h
 ·cases h2:l.all (a1A l)<;>rw[h2] at h
  ·simp at h
  ·cases h3:a6y l<;>rw[h3] at h
   ·simp at h
   ·simp only[a3W,Bool.or_eq_false_iff,decide_eq_false_iff_not] at h1
    exact⟨by omega,by omega,rfl,rfl⟩
 ·simp at h
theorem b5C (l:List NodeD) (r:Int) (hl:TSm l):PC zP 83 [Tt l r] (Tt (a0x l r) (a1M l r)):=by
 have hw:=a8z l r hl
 cases h:decide (wfP l r=0) with
 |false=>
  have e1:a0x l r=[b0G 1]:=by unfold a0x;rw[h];rfl
  have e2:a1M l r=0:=by unfold a1M;rw[h];rfl
  rw[e1,e2]
  refine PCB.ob Tryz.func83 Tryz.ntmps83 Tryz.results83 ?_
  repeat'(first|(simp only[go_sem,zA,zB,zC,zD,zE,zF,zG,reduceCtorEq,zH,zI,zJ,zK,zL,h];all_goals refine nf ?_)|(refine stp ?_;intro K hK)|(apply hK;clear hK K)|refine stn ?_|(with_reducible first|refine⟨_,hw,?_⟩|refine⟨_,c2G,?_⟩)|refine stq ?_|(clear hK K))
  all_goals(first|exact fun _ h=>absurd h List.not_mem_nil|(refine a0m ?_;rfl)|fail)
 |true=>
  have e1:a0x l r=l:=by unfold a0x;rw[h];rfl
  have e2:a1M l r=r:=by unfold a1M;rw[h];rfl
  rw[e1,e2]
  refine PCB.ob Tryz.func83 Tryz.ntmps83 Tryz.results83 ?_
  repeat'(first|(simp only[go_sem,zA,zB,zC,zD,zE,zF,zG,reduceCtorEq,zH,zI,zJ,zK,zL,h];all_goals refine nf ?_)|(refine stp ?_;intro K hK)|(apply hK;clear hK K)|refine stn ?_|(with_reducible refine⟨_,hw,?_⟩)|refine stq ?_|fail)
  all_goals(first|exact fun _ h=>absurd h List.not_mem_nil|(refine a0m ?_;rfl)|fail)
def b0H:List NodeD→List Bool→List (List UInt8)
  |x::l,b::bs=>(bif b&&decide (x.kind=19) then [x.text] else [])++b0H l bs
  |_,_=>[]
theorem a9V:∀ {l:List NodeD} {bs:List Bool} {k:Nat} {x:NodeD} {b:Bool},l[k]?= some x→bs[k]?= some b→b0H (l.take (k+1)) (bs.take (k+1))=b0H (l.take k) (bs.take k)++bif b&&decide (x.kind=19) then [x.text] else []
 |[],_,k,x,b,h,_=>by simp at h
 |y::l,[],k,x,b,_,h=>by simp at h
 |y::l,c::bs,0,x,b,h1,h2=>by
  simp only[List.getElem?_cons_zero,Option.some.injEq] at h1 h2
  subst h1 h2
  simp[b0H]
 |y::l,c::bs,k+1,x,b,h1,h2=>by
  have ih:=a9V (l:=l) (bs:=bs) (k:=k) (by simpa using h1) (by simpa using h2)
  rw[List.take_succ_cons,List.take_succ_cons,List.take_succ_cons,List.take_succ_cons,b0H,ih,b0H,List.append_assoc]
theorem a6d:∀ (l:List NodeD) (bs:List Bool),(b0H l bs).length≤l.length
 |[],bs=>by cases bs<;>simp[b0H]
 |x::l,[]=>by simp[b0H]
 |x::l,b::bs=>by
  have:=a6d l bs
  rw[b0H,List.length_append,List.length_cons]
  cases b&&decide (x.kind=19)<;>simp<;>omega
def c5z (l:List NodeD) (r:Int):List (List UInt8):=a0N (b0H l (a1S l r))
def varsT (l:List NodeD) (r:Int):List (List UInt8):=c5z (a0x l r) (a1M l r)
theorem c6N (l:List (List UInt8)) (s:List UInt8):l.map Sx.encStr++[[C.str s]]=(l++[s]).map Sx.encStr:=by rw[List.map_append];rfl
theorem b4D (l:List NodeD) (r:Int) (hl:TSm l):PC zP 62 [Tt l r] (.one (.dat (.sl 1 ((varsT l r).map Sx.encStr)))):=by
 have hs:=b5C l r hl
 obtain⟨l1,hl1⟩:∃ l1,l1=a0x l r:=⟨_,rfl⟩
 obtain⟨r1,hr1⟩:∃ r1,r1=a1M l r:=⟨_,rfl⟩
 have hsm:=a7n hl r
 have hw:=b3h l r
 have hv:varsT l r=a0N (b0H l1 (a1S l1 r1)):=by unfold varsT c5z;rw[← hl1,← hr1]
 rw[← hl1,← hr1] at hs hw
 rw[← hl1] at hsm
 obtain⟨h0,hi,hn,_⟩:=a6A hw
 have hE:=b8n hn
 have hrc:=b8o l1 r1 hE hsm h0 hi
 have hrl:=a4y hE h0 hi
 have hll:=hsm.len
 have hvl:=a6d l1 (a1S l1 r1)
 obtain⟨vs,hvs⟩:∃ vs,vs=b0H l1 (a1S l1 r1):=⟨_,rfl⟩
 rw[← hvs] at hv hvl
 have h3:a2f zP 103 [.one (.own 900 vs.length)] 900 (.row 1 (vs.map Sx.encStr)) (.tup []) (.row 1 ((vs.mergeSort fun x y=>decide (x≤y)).map Sx.encStr)):=
  a2f.own1 900 (b3X Go.Proofs.Tryz.sortS vs (by omega))
 have h4:a2f zP 105 [.one (.own 900 vs.length)] 900 (.row 1 ((vs.mergeSort fun x y=>decide (x≤y)).map Sx.encStr)) (.one (.own 900 (varsT l r).length)) (.row 1 ((varsT l r).map Sx.encStr)):=by
  have h:=a8M Go.Proofs.Tryz.compS (vs.mergeSort fun x y=>decide (x≤y))
  rw[a8C,List.length_mergeSort,← hv] at h
  exact a2f.own2 900 h
 have h5:=c2v ((varsT l r).map Sx.encStr)
 refine PCB.ob Tryz.func62 Tryz.ntmps62 Tryz.results62 ?_
 repeat'(first|(simp only[go_sem,zA,zB,zC,zD,zE,zF,zG,reduceCtorEq,zH,zI,zJ,zK,zL,lB];all_goals refine nf ?_)|(refine stp ?_;intro K hK)|(apply hK;clear hK K)|refine stn ?_|(with_reducible first|refine⟨_,hs,?_⟩|refine⟨_,hrc,?_⟩)|refine stq ?_|fail)
 refine AWP.gh (Gh.nilrow 3 900 rfl rfl rfl rfl) ?_
 refine AWP.len 9 rfl fun hlen0=>?_
 (try rw[lB] at hlen0)
 refine AWP.range (S:=List (List UInt8)) (a1S l1 r1) a4w (fun k s=>(11,I .i64 (k:Nat))::[(3, .one (.own 900 s.length))]) (fun k s=>[(900, .row 1 (s.map Sx.encStr))]) [1,9,10] [1] (fun k s=>Is s (b0H (l1.take k) ((a1S l1 r1).take k))) ([]) (by refine sts ?_;exact Gh.tt []) ?_ ?_ ?_
 ·rfl
 ·intro k s b hlt hb hb' hbb hok
  refine sts ?_
  have hx:l1[k]?= some l1[k]:=List.getElem?_eq_getElem (by omega)
  obtain⟨x,hxe⟩:∃ x,x=l1[k]'(by omega):=⟨_,rfl⟩
  rw[← hxe] at hx
  have hx':=a0n a0c hx
  have htk:=a9V hx hb
  have hsl:s.length≤1000000:=by
   have:=a6d (l1.take k) ((a1S l1 r1).take k)
   rw[← show s=_ from hok] at this
   simp only[List.length_take] at this;omega
  rw[← show s=_ from hok] at htk
  cases b
  ·
   repeat'(first|(simp only[go_sem,zA,zB,zC,zD,zE,zF,zG,reduceCtorEq,zH,zI,zJ,zK,zL,lB,hbb,a4w,a0b];all_goals refine nf ?_)|(refine stp ?_;intro K hK)|(apply hK;clear hK K)|refine stn ?_|(with_reducible refine⟨by omega,a4w false,hb',?_⟩)|(clear hK K))
   all_goals(rw[a0d hlt hlen0])
   all_goals(refine⟨s,?_,Gh.tt []⟩)
   all_goals(rw[Is,htk,Bool.false_and,cond_false,List.append_nil])
  ·cases h19:decide (x.kind=19)<;>rw[h19] at htk
   ·
    repeat'(first|(simp only[go_sem,zA,zB,zC,zD,zE,zF,zG,reduceCtorEq,zH,zI,zJ,zK,zL,lB,hbb,h19,a4w,a0b];all_goals refine nf ?_)|(refine stp ?_;intro K hK)|(apply hK;clear hK K)|refine stn ?_|(with_reducible first|refine⟨by omega,a4w true,hb',?_⟩|refine⟨by omega,a0c x,hx',?_⟩)|(clear hK K))
    all_goals(rw[a0d hlt hlen0])
    all_goals(refine⟨s,?_,Gh.tt []⟩)
    all_goals(rw[Is,htk,Bool.and_false,cond_false,List.append_nil])
   ·
    repeat'(first|(simp only[go_sem,zA,zB,zC,zD,zE,zF,zG,reduceCtorEq,zH,zI,zJ,zK,zL,lB,hbb,h19,a4w,a0b,c6N];all_goals refine nf ?_)|(refine stp ?_;intro K hK)|(apply hK;clear hK K)|refine stn ?_|(with_reducible first|refine⟨by omega,a4w true,hb',?_⟩|refine⟨by omega,a0c x,hx',?_⟩|(refine⟨(by first|omega|(simp only[List.length_append,lB,List.length_take,List.length_drop,List.length_cons,List.length_nil,List.length_replicate];omega):_≤_),?_⟩))|refine stq ?_|(clear hK K))
    all_goals(rw[a0d hlt hlen0])
    all_goals(refine⟨s++[x.text],?_,Gh.tt [(900,34)]⟩)
    all_goals(rw[Is,htk];rfl)
 ·intro s hbb hok
  refine sts ?_
  have hse:s=vs:=by
   rw[hvs,show s=_ from hok,List.take_length,List.take_of_length_le (by omega)]
  subst hse
  repeat'(first|(simp only[go_sem,zA,zB,zC,zD,zE,zF,zG,reduceCtorEq,zH,zI,zJ,zK,zL,lB,hbb];all_goals refine nf ?_)|(refine stp ?_;intro K hK)|(apply hK;clear hK K)|refine stn ?_|(with_reducible refine⟨_,h5,?_⟩)|(apply Or.inr;refine⟨900,_,_,_,h3,rfl,?_⟩;simp only[go_sem,zA,zB,zC,zD,zE,zF,zG,reduceCtorEq,zH,zI,zJ,zK,zL])|(apply Or.inr;refine⟨900,_,_,_,h4,rfl,?_⟩;simp only[go_sem,zA,zB,zC,zD,zE,zF,zG,reduceCtorEq,zH,zI,zJ,zK,zL])|refine stq ?_|(clear hK K))
  all_goals exact lf
theorem atR {P:Program} {n:Nat} {l:Array Oper} {b:Bool} {σ τ:AS} {Q:Exit→AS→Prop} (i:Nat) (g:Gh n σ τ) (h:AWP P n (.region i l b) τ Q):AWP P n (.region i l b) σ Q:=AWP.gh g h
theorem b3i (l:List FieldD) (hl:l.length≤100000000):PCN zP 129 [.one (.dat (.sl 4 (l.map a0i)))] (.one (.own 0 l.length)) (.row 4 (l.map a0i)):=by
 refine PCN.of_body 7 Tryz.func129 rfl (by decide) Tryz.ntmps129 Tryz.results129 rfl rfl ?_
 refine AWP.ghQ ?_
 repeat'(first|( refine AWP.nilR (e:=119) rfl (by decide) (by decide) rfl (fun hnil=>?_) ?_)|(simp only[go_sem,zA,zB,zC,zD,zE,zF,zG,reduceCtorEq,zH,zI,zJ,zK,zL,lB];all_goals refine nf ?_)|(refine stp ?_;intro K hK)|(apply hK;clear hK K)|refine stn ?_|(with_reducible first|(refine Or.inr (show a1u _ 5 _ _ _ _ _ _ from ?_);unfold a1u;with_reducible refine Or.inr ?_;simp only[a2D,go_sem,zA,zB,zC,zD,zE,zF,zG,reduceCtorEq,zH,zI,zJ,zK,zL,lB])|refine⟨(by omega:_≤_),?_⟩)|(clear hK K))
 ·refine GhQ.step (Gh.nilrow 2 7 rfl rfl rfl rfl) ?_
  refine⟨_,Gh.refl _,?_⟩
  have:l=[]:=by simpa using hnil
  subst this
  simp only[go_sem,zA,zB,zC,zD,zE,zF,zG,reduceCtorEq,zH,zI,zJ,zK,zL,List.map_nil,List.length_nil]
  first|exact⟨rfl,fun x hx=>hx⟩|exact fun x hx=>hx
 ·refine⟨_,Gh.refl _,?_⟩
  simp only[go_sem,zA,zB,zC,zD,zE,zF,zG,reduceCtorEq,zH,zI,zJ,zK,zL,lB]
  first|exact⟨rfl,fun x hx=>hx⟩|exact fun x hx=>hx
def upI (b k:Int):Int:=IntKind.i64.wrap (k+b)
def upF (b:Int) (f:FieldD):FieldD:=⟨f.key,upI b f.node,f.opt⟩
def upN (b:Int) (x:NodeD):NodeD:=
  ⟨x.kind,x.lo,x.hi,x.text,x.kids.map (upI b),x.fields.map (upF b),bif decide (x.kind=13) then upI b x.r0 else x.r0,bif decide (x.kind=13) then upI b x.r1 else x.r1⟩
def b8y {α:Type} (f:α→α) (l:List α) (k:Nat):List α:=(l.take k).map f++l.drop k
theorem b5D {α:Type} (f:α→α) (l:List α):b8y f l l.length=l.map f:=by simp[b8y]
theorem b5E {α:Type} (f:α→α) (l:List α) (k:Nat):(b8y f l k).length=l.length:=by simp[b8y];omega
theorem b5F {α:Type} (f:α→α) (l:List α) (k:Nat) (h:k<l.length):(b8y f l k)[k]?= some l[k]:=by
  unfold b8y
  rw[List.getElem?_append_right (by simp;omega),List.getElem?_drop]
  simp only[lB,List.length_take]
  rw[List.getElem?_eq_getElem (by omega)]
  congr 1
  congr 1
  omega
theorem b3j {α:Type} (f:α→α) (l:List α) (k:Nat) (h:k<l.length):(b8y f l k).set k (f l[k])=b8y f l (k+1):=by
  unfold b8y
  rw[List.set_append_right _ _ (by simp;omega),List.drop_eq_getElem_cons h,List.take_succ_eq_append_getElem h]
  simp only[lB,List.length_take]
  rw[show k-min k l.length=0 by omega,List.set_cons_zero,List.map_append,List.append_assoc]
  rfl
theorem c1c (l:List FieldD) (i:Nat) (b:Int) (f:FieldD):(l.map a0i).set i [C.int .i64 f.key.kind,C.str f.key.text,C.int .i64 (IntKind.i64.wrap (f.node+b)),C.bool f.opt]=(l.set i (upF b f)).map a0i:=by rw[List.map_set];rfl
theorem b8z (x:NodeD) (b:Int) (hk:x.kids.length≤1000000) (hf:x.fields.length≤1000000):PC zP 84 [Nt x,I .i64 b] (Nt (upN b x)):=by
 have hcl:=b04 x.kids (by omega)
 have hcf:=b3i x.fields (by omega)
 refine PCB.ob Tryz.func84 Tryz.ntmps84 Tryz.results84 ?_
 repeat'(first|(simp only[go_sem,zA,zB,zC,zD,zE,zF,zG,reduceCtorEq,zH,zI,zJ,zK,zL,a0b,lB];all_goals refine nf ?_)|(refine stp ?_;intro K hK)|(apply hK;clear hK K)|refine stn ?_|(with_reducible refine Or.inr (Or.inl ⟨_,_,hcl,?_⟩))|fail)
 refine AWP.loopF (X:=Nat) (fun i=>[(14,I .i64 i)]) (fun i=>[(9, .row 1 ((b8y (upI b) x.kids i).map a0e))]) [1,2,4,13] [2,4] (fun i=>i≤x.kids.length) (fun i=>x.kids.length-i) (0) (by refine sts ?_;exact Gh.tt []) ?_ ?_
 ·exact Nat.zero_le _
 rintro i hi
 refine sts ?_
 by_cases hie:i=x.kids.length
 ·subst hie
  have hlt:decide ((x.kids.length:Int)<(x.kids.length:Int))=false:=by simp
  rw[b5D]
  refine AWP.gh (Gh.fz 9) ?_
  simp only[go_sem,zA,zB,zC,zD,zE,zF,zG,reduceCtorEq,zH,zI,zJ,zK,zL,lB]
  repeat'(first|(simp only[go_sem,zA,zB,zC,zD,zE,zF,zG,reduceCtorEq,zH,zI,zJ,zK,zL,lB,hlt,a0b];all_goals refine nf ?_)|(refine stp ?_;intro K hK)|(apply hK;clear hK K)|refine stn ?_|(with_reducible refine Or.inr (Or.inl ⟨_,_,hcf,?_⟩))|(clear hK K))
  refine AWP.loopF (X:=Nat) (fun i=>[(33,I .i64 i)]) (fun i=>[(28, .row 4 ((b8y (upF b) x.fields i).map a0i))]) [1,2,4,32] [2,4] (fun i=>i≤x.fields.length) (fun i=>x.fields.length-i) (0) (by refine sts ?_;exact Gh.tt []) ?_ ?_
  ·exact Nat.zero_le _
  rintro i hi
  refine sts ?_
  by_cases hie:i=x.fields.length
  ·subst hie
   have hlt:decide ((x.fields.length:Int)<(x.fields.length:Int))=false:=by simp
   rw[b5D]
   refine AWP.gh (Gh.fz 28) ?_
   simp only[go_sem,zA,zB,zC,zD,zE,zF,zG,reduceCtorEq,zH,zI,zJ,zK,zL,lB]
   cases hc:decide (x.kind=13)
   all_goals
    repeat'(first|(simp only[go_sem,zA,zB,zC,zD,zE,zF,zG,reduceCtorEq,zH,zI,zJ,zK,zL,lB,hlt,hc,a0b];all_goals refine nf ?_)|(refine stp ?_;intro K hK)|(apply hK;clear hK K)|refine stn ?_|(clear hK K))
   all_goals(refine a0m ?_;simp only[Nt,upN,a0b,hc,cond_true,cond_false]<;>rfl)
  ·have hil:i<x.fields.length:=by omega
   have hlt:decide ((i:Int)<(x.fields.length:Int))=true:=by rw[decide_eq_true_eq];omega
   have hwi:IntKind.i64.wrap ((i:Int)+1)=((i+1:Nat):Int):=by rw[w64 (by omega)];rfl
   have hul:=b5E (upF b) x.fields i
   have hg:=a0n a0i (b5F (upF b) x.fields i hil)
   have hst:=b3j (upF b) x.fields i hil
   obtain⟨y,hy⟩:∃ y,y=x.fields[i]:=⟨_,rfl⟩
   rw[← hy] at hg hst
   repeat'(first|(simp only[go_sem,zA,zB,zC,zD,zE,zF,zG,reduceCtorEq,zH,zI,zJ,zK,zL,lB,hlt,hwi,encField_lit,c1c];all_goals refine nf ?_)|(refine stp ?_;intro K hK)|(apply hK;clear hK K)|refine stn ?_|(with_reducible first|refine⟨a0i y,hg,?_⟩|refine⟨(by omega:_≤_),(by omega:_≤_),(by omega:_<_),?_⟩)|(clear hK K))
   all_goals(refine⟨i+1,by omega,by omega,?_⟩)
   all_goals(rw[← hst];exact Gh.tt [])
 ·have hil:i<x.kids.length:=by omega
  have hlt:decide ((i:Int)<(x.kids.length:Int))=true:=by rw[decide_eq_true_eq];omega
  have hwi:IntKind.i64.wrap ((i:Int)+1)=((i+1:Nat):Int):=by rw[w64 (by omega)];rfl
  have hul:=b5E (upI b) x.kids i
  have hg:=a0n a0e (b5F (upI b) x.kids i hil)
  have hst:=b3j (upI b) x.kids i hil
  obtain⟨y,hy⟩:∃ y,y=x.kids[i]:=⟨_,rfl⟩
  rw[← hy] at hg hst
  repeat'(first|(simp only[go_sem,zA,zB,zC,zD,zE,zF,zG,reduceCtorEq,zH,zI,zJ,zK,zL,lB,hlt,hwi,a0e,a8W];all_goals refine nf ?_)|(refine stp ?_;intro K hK)|(apply hK;clear hK K)|refine stn ?_|(with_reducible first|refine⟨a0e y,hg,?_⟩|refine⟨(by omega:_≤_),(by omega:_≤_),(by omega:_<_),?_⟩)|(clear hK K))
  all_goals(refine⟨i+1,by omega,by omega,?_⟩)
  all_goals(rw[← hst];exact Gh.tt [])
theorem a40 (l:List NodeD) (r:Int) (hl:TSm l):PC zP 12 [Tt l r] (I .i64 (wfP l r)):=by
  rw[← c30];exact b2b l r hl
theorem b6K (l:List NodeD) (r:Int) (hl:TSm l):PC zP 43 [Tt l r] (Bo (decide (((varsT l r).length:Int)=0))):=by
  have h:=b4D l r hl
  refine PCB.ob Tryz.func43 Tryz.ntmps43 Tryz.results43 ?_
  repeat'(first|(simp only[go_sem,zA,zB,zC,zD,zE,zF,zG,reduceCtorEq,zH,zI,zJ,zK,zL,lB];all_goals refine nf ?_)|(refine stp ?_;intro K hK)|(apply hK;clear hK K)|refine stn ?_|(with_reducible refine⟨_,h,?_⟩)|refine stq ?_|fail)
  all_goals exact lf
def limN (x:NodeD):Bool:=decide (8<(x.fields.length:Int))
def valT (l:List NodeD) (r:Int):Int:=bif !decide (wfP l r=0) then wfP l r else bif (decide (60<(l.length:Int))||decide (8<((varsT l r).length:Int)))||l.any limN then 2 else 0
end Go.Proofs.YthbcdhfiibpeaaaGreat

