/- Lemmas of the proof. -/
import Derived.Test.YthbcdhfiibpeaaaGreatTm13
open List renaming length_append→lA,length_map→lB
open Nat renaming reduceBEq→zA,reduceBNe→zB,reduceAdd→zC,reduceSub→zD,reduceMul→zE,reduceLeDiff→zF,reduceLT→zG,reduceEqDiff→zH
open Int renaming reduceToNat→zI,reduceLE→zJ,reduceLT→zK,reduceEq→zL
open Bool renaming not_eq_true'→zM,not_eq_false'→zN
set_option linter.unusedSimpArgs false
set_option linter.unusedVariables false
set_option maxRecDepth 20000
set_option maxHeartbeats 64000000
namespace Go.Proofs.YthbcdhfiibpeaaaGreat
open Go Go.Sx
def a0z (x:NodeD):Bool:=
  bif decide (x.kind=1)||(decide (x.kind=2)||(decide (x.kind=5)||(decide (x.kind=7)||(decide (x.kind=8)||(decide (x.kind=9)||(decide (x.kind=11)||decide (x.kind=15))))))) then true else
  bif decide (x.kind=3) then decide (x.lo≤x.hi) else
  bif decide (x.kind=4) then decide ((x.text.length:Int)≤64) else
  bif decide (x.kind=6) then a2g x.text else
  bif decide (x.kind=19) then a0A x.text else
  bif decide (x.kind=10) then decide ((x.kids.length:Int)≤4) else
  bif decide (x.kind=12) then decide ((x.kids.length:Int)=2) else
  bif decide (x.kind=13) then b03 none x.fields else
  bif decide (x.kind=14) then decide (1≤(x.kids.length:Int))&&decide ((x.kids.length:Int)≤5) else
  bif decide (x.kind=16)||decide (x.kind=17) then decide (1≤(x.kids.length:Int)) else
  bif decide (x.kind=18) then decide ((x.kids.length:Int)=1) else false
theorem a9y (x:NodeD):PC Tryz.prog 59 [Nt x] (Bo (a0z x)):=by
 have hf:=b17 x.fields
 have ha:=a7d x.text
 have hv:=a4u x.text
 refine PCB.ob Tryz.func59 Tryz.ntmps59 Tryz.results59 ?_
 repeat'(first|(simp only[go_sem,zA,zB,zC,zD,zE,zF,zG,reduceCtorEq,zH,zI,zJ,zK,zL,a0b,lB];all_goals refine nf ?_)|(refine stp ?_;intro K hK)|(apply hK;clear hK K)|refine stn ?_|(refine AWP.cnd ?_ ?_<;>intro h<;>(try simp only[zM,zN] at h))|(refine⟨fun h=>?_,fun h=>?_⟩<;>(try simp only[zM,zN] at h)<;>try simp only[h])|(with_reducible first|refine⟨_,hf,?_⟩|refine⟨_,ha,?_⟩|refine⟨_,hv,?_⟩)|refine stq ?_|(clear hK K))
 all_goals first
  |(exfalso;clear hf ha hv;simp_all;done)
  |(refine a0m ?_;simp only[a0z, *, Bool.or_true,Bool.true_or,Bool.or_false,Bool.false_or,Bool.and_true,Bool.true_and,Bool.and_false,Bool.false_and,cond_true,cond_false];done)
  |(refine a0m ?_;simp only[a0z, *, Bool.or_true,Bool.true_or,Bool.or_false,Bool.false_or,Bool.and_true,Bool.true_and,Bool.and_false,Bool.false_and,cond_true,cond_false];trace_state;rfl)
theorem b04 (l:List Int) (hl:l.length≤100000000):PCN Tryz.prog 99 [IsP l] (.one (.own 0 l.length)) (.row 1 (l.map a0e)):=by
 refine PCN.of_body 7 Tryz.func99 rfl (by decide) Tryz.ntmps99 Tryz.results99 rfl rfl ?_
 refine AWP.ghQ ?_
 repeat'(first|( refine AWP.nilR (e:=3) rfl (by decide) (by decide) rfl (fun hnil=>?_) ?_)|(simp only[go_sem,zA,zB,zC,zD,zE,zF,zG,reduceCtorEq,zH,zI,zJ,zK,zL,lB];all_goals refine nf ?_)|(refine stp ?_;intro K hK)|(apply hK;clear hK K)|refine stn ?_|(with_reducible first|(refine Or.inr (show a1u _ 5 _ _ _ _ _ _ from ?_);unfold a1u;with_reducible refine Or.inr ?_;simp only[a2D,go_sem,zA,zB,zC,zD,zE,zF,zG,reduceCtorEq,zH,zI,zJ,zK,zL,lB])|refine⟨(by omega:_≤_),?_⟩)|(clear hK K))
 ·refine GhQ.step (Gh.nilrow 2 7 rfl rfl rfl rfl) ?_
  refine⟨_,Gh.refl _,?_⟩
  have:l=[]:=by simpa using hnil
  subst this
  simp only[go_sem,zA,zB,zC,zD,zE,zF,zG,reduceCtorEq,zH,zI,zJ,zK,zL,List.map_nil,List.length_nil]
  first|exact⟨rfl,fun x hx=>hx⟩|exact fun x hx=>hx
 ·refine⟨_,Gh.refl _,?_⟩
  simp only[go_sem,zA,zB,zC,zD,zE,zF,zG,reduceCtorEq,zH,zI,zJ,zK,zL,lB]
  first|exact⟨rfl,fun x hx=>hx⟩|exact fun x hx=>hx
def edgeL (x:NodeD):List Int:=x.kids++x.fields.map (·.node)++bif decide (x.kind=13) then [x.r0,x.r1] else []
theorem b8d (l:List Int) (v:Int):l.map a0e++[[C.int .i64 v]]=(l++[v]).map a0e:=by rw[List.map_append];rfl
theorem c2y (l:List Int) (v w:Int):l.map a0e++[[C.int .i64 v],[C.int .i64 w]]=(l++[v,w]).map a0e:=by rw[List.map_append];rfl
theorem c3K (x:NodeD) (hk:x.kids.length≤1000000) (hf:x.fields.length≤1000000):PC Tryz.prog 60 [Nt x] (IsP (edgeL x)):=by
 have hcl:=b04 x.kids (by omega)
 refine PCB.ob Tryz.func60 Tryz.ntmps60 Tryz.results60 ?_
 refine AWP.ghQ ?_
 repeat'(first|(simp only[go_sem,zA,zB,zC,zD,zE,zF,zG,reduceCtorEq,zH,zI,zJ,zK,zL,a0b,lB];all_goals refine nf ?_)|(refine stp ?_;intro K hK)|(apply hK;clear hK K)|refine stn ?_|(with_reducible refine Or.inr (Or.inl ⟨_,_,hcl,?_⟩))|fail)
 refine AWP.len 10 rfl fun hlen0=>?_
 (try rw[lB] at hlen0)
 refine AWP.range (S:=List Int) (x.fields) a0i (fun k s=>(12,I .i64 (k:Nat))::[(3, .one (.own 8 s.length))]) (fun k s=>[(8, .row 1 (s.map a0e))]) [1,10,11] [1] (fun k s=>Is s (x.kids++(x.fields.take k).map (·.node))) (x.kids) (by refine sts ?_;exact Gh.tt []) ?_ ?_ ?_
 ·simp[Is]
 ·intro k s y hlt hy hy' hbb hok
  refine sts ?_
  have hsl:s.length≤2000000:=by rw[show s=_ from hok,lA,lB,List.length_take];omega
  repeat'(first|(simp only[go_sem,zA,zB,zC,zD,zE,zF,zG,reduceCtorEq,zH,zI,zJ,zK,zL,lB,lA,hbb,encField_lit,b8d];all_goals refine nf ?_)|(refine stp ?_;intro K hK)|(apply hK;clear hK K)|refine stn ?_|(with_reducible first|refine⟨by omega,a0i y,hy',?_⟩|refine⟨(by omega:_≤_),?_⟩)|refine stq ?_|(clear hK K))
  all_goals(rw[a0d hlt hlen0])
  all_goals(refine⟨s++[y.node],?_,Gh.tt [(8,20)]⟩)
  rw[Is,show s=_ from hok,List.take_succ_eq_append_getElem hlt]
  have:=(List.getElem?_eq_some_iff.1 hy).2
  simp[this]
 ·intro s hbb hok
  refine sts ?_
  rw[List.take_length] at hok
  have hsl:s.length≤2000000:=by rw[show s=_ from hok,lA,lB];omega
  cases hz:decide (x.kind=13)
  ·
   repeat'(first|(simp only[go_sem,zA,zB,zC,zD,zE,zF,zG,reduceCtorEq,zH,zI,zJ,zK,zL,lB,hbb,hz,a0b];all_goals refine nf ?_)|(refine stp ?_;intro K hK)|(apply hK;clear hK K)|refine stn ?_|(clear hK K))
   refine⟨_,Gh.fz 8,?_⟩
   simp only[go_sem,zA,zB,zC,zD,zE,zF,zG,reduceCtorEq,zH,zI,zJ,zK,zL,lB]
   all_goals(first|exact fun _ h=>absurd h List.not_mem_nil|refine a0m ?_)
   all_goals(rw[edgeL,hz,show s=_ from hok];simp)
  ·
   repeat'(first|(simp only[go_sem,zA,zB,zC,zD,zE,zF,zG,reduceCtorEq,zH,zI,zJ,zK,zL,lB,lA,hbb,hz,a0b,c2y];all_goals refine nf ?_)|(refine stp ?_;intro K hK)|(apply hK;clear hK K)|refine stn ?_|(with_reducible refine⟨(by omega:_≤_),?_⟩)|refine stq ?_|(clear hK K))
   refine⟨_,Gh.freeze 33 rfl rfl (by simp only[go_sem,zA,zB,zC,zD,zE,zF,zG,reduceCtorEq,zH,zI,zJ,zK,zL,lB,lA,List.length_cons,List.length_nil,Nat.zero_add,Nat.reduceAdd]) (by simp only[go_sem,zA,zB,zC,zD,zE,zF,zG,reduceCtorEq,zH,zI,zJ,zK,zL,lB,lA,List.length_cons,List.length_nil,Nat.zero_add,Nat.reduceAdd]),?_⟩
   simp only[go_sem,zA,zB,zC,zD,zE,zF,zG,reduceCtorEq,zH,zI,zJ,zK,zL,lB,lA,List.length_cons,List.length_nil,Nat.zero_add,Nat.reduceAdd]
   all_goals(first|exact fun _ h=>absurd h List.not_mem_nil|refine a0m ?_)
   all_goals(rw[edgeL,hz,show s=_ from hok];rfl)
def a3W (l:List NodeD) (k:Int):Bool:=decide (k<0)||decide ((l.length:Int)≤k)
def a1J (x:NodeD):Bool:=a5v (a33 x.kind) x
def a1A (l:List NodeD) (x:NodeD):Bool:=a1J x&&(a0z x&&(edgeL x).all fun e=>!a3W l e)
def wfP (l:List NodeD) (r:Int):Int:=bif a3W l r then 1 else bif l.all (a1A l) then (bif a6y l then 0 else 3) else 1
structure TSm (l:List NodeD):Prop where
  len:l.length≤1000000
  kids:∀ x∈l,x.kids.length≤1000000
  fields:∀ x∈l,x.fields.length≤1000000
theorem a6G (x:NodeD):PC Tryz.prog 58 [.st [.int .i64 x.kind, .int .i64 x.lo, .int .i64 x.hi, .str x.text, .sl 1 (x.kids.map a0e), .sl 4 (x.fields.map a0i), .int .i64 x.r0, .int .i64 x.r1]] (Bo (a1J x)):=b4s x
theorem a9z (x:NodeD):PC Tryz.prog 59 [.st [.int .i64 x.kind, .int .i64 x.lo, .int .i64 x.hi, .str x.text, .sl 1 (x.kids.map a0e), .sl 4 (x.fields.map a0i), .int .i64 x.r0, .int .i64 x.r1]] (Bo (a0z x)):=a9y x
theorem b8e (x:NodeD) (hk:x.kids.length≤1000000) (hf:x.fields.length≤1000000):PC Tryz.prog 60 [.st [.int .i64 x.kind, .int .i64 x.lo, .int .i64 x.hi, .str x.text, .sl 1 (x.kids.map a0e), .sl 4 (x.fields.map a0i), .int .i64 x.r0, .int .i64 x.r1]] (IsP (edgeL x)):=c3K x hk hf
theorem a0K {α:Type} {p:α→Bool} {l:List α} {k:Nat} {x:α} (h:l[k]?= some x):(l.take (k+1)).all p=((l.take k).all p&&p x):=by
  obtain⟨hk,e⟩:=List.getElem?_eq_some_iff.1 h
  rw[List.take_succ_eq_append_getElem hk,List.all_append,e]
  simp
theorem a1z {α:Type} {p:α→Bool} {l:List α} {x:α} (h:x∈l) (hp:p x=false):l.all p=false:=by
  cases hl:l.all p
  · rfl
  · have:=List.all_eq_true.1 hl x h;rw[hp] at this;cases this
theorem a8y {l:List NodeD} (h:l.all (a1A l)=true):InR l:=by
  intro x hx k hk
  have h1:=List.all_eq_true.1 h x hx
  simp only[a1A,Bool.and_eq_true] at h1
  have h2:=List.all_eq_true.1 h1.2.2 k (by unfold edgeL;simp[hk])
  simp only[a3W,Bool.not_eq_true',Bool.or_eq_false_iff,decide_eq_false_iff_not] at h2
  omega
theorem a8z (l:List NodeD) (r:Int) (hl:TSm l):PC Tryz.prog 22 [Tt l r] (I .i64 (wfP l r)):=by
 cases ho:a3W l r with
 |true=>
  have e:wfP l r=1:=by unfold wfP;rw[ho];rfl
  rw[e]
  cases h0:decide (r<0)
  ·have h1:decide ((l.length:Int)≤r)=true:=by unfold a3W at ho;rw[h0] at ho;exact ho
   refine PCB.ob Tryz.func22 Tryz.ntmps22 Tryz.results22 ?_
   repeat'(first|(simp only[go_sem,zA,zB,zC,zD,zE,zF,zG,reduceCtorEq,zH,zI,zJ,zK,zL,lB,h0,h1];all_goals refine nf ?_)|(refine stp ?_;intro K hK)|(apply hK;clear hK K)|refine stn ?_|(clear hK K))
   all_goals(first|exact fun _ h=>absurd h List.not_mem_nil|refine a0m ?_)
  ·
   refine PCB.ob Tryz.func22 Tryz.ntmps22 Tryz.results22 ?_
   repeat'(first|(simp only[go_sem,zA,zB,zC,zD,zE,zF,zG,reduceCtorEq,zH,zI,zJ,zK,zL,lB,h0];all_goals refine nf ?_)|(refine stp ?_;intro K hK)|(apply hK;clear hK K)|refine stn ?_|(clear hK K))
   all_goals(first|exact fun _ h=>absurd h List.not_mem_nil|refine a0m ?_)
 |false=>
  have h0:decide (r<0)=false:=by unfold a3W at ho;simp only[Bool.or_eq_false_iff] at ho;exact ho.1
  have h1:decide ((l.length:Int)≤r)=false:=by unfold a3W at ho;simp only[Bool.or_eq_false_iff] at ho;exact ho.2
  have e:wfP l r=bif l.all (a1A l) then (bif a6y l then 0 else 3) else 1:=by unfold wfP;rw[ho];rfl
  refine PCB.ob Tryz.func22 Tryz.ntmps22 Tryz.results22 ?_
  repeat'(first|(simp only[go_sem,zA,zB,zC,zD,zE,zF,zG,reduceCtorEq,zH,zI,zJ,zK,zL,lB,h0,h1];all_goals refine nf ?_)|(refine stp ?_;intro K hK)|(apply hK;clear hK K)|refine stn ?_|fail)
  refine AWP.len 19 rfl fun hlen0=>?_
  (try rw[lB] at hlen0)
  refine AWP.range (S:=Unit) (l) a0c (fun k s=>(21,I .i64 (k:Nat))::[]) (fun k s=>[]) [1,19,20] [1] (fun k s=>(l.take k).all (a1A l)=true) (()) (by refine sts ?_;exact Gh.tt []) ?_ ?_ ?_
  ·simp
  ·intro k s x hlt hx hx' hbb hok
   refine sts ?_
   have hxm:=List.mem_of_getElem? hx
   have hat:=a0K (p:=a1A l) hx
   rw[hok,Bool.true_and] at hat
   cases hp:a1J x with
   |false=>
    have hn:a1A l x=false:=by unfold a1A;rw[hp];rfl
    repeat'(first|(simp only[go_sem,zA,zB,zC,zD,zE,zF,zG,reduceCtorEq,zH,zI,zJ,zK,zL,lB,hbb,hp,a0b];all_goals refine nf ?_)|(refine stp ?_;intro K hK)|(apply hK;clear hK K)|refine stn ?_|(with_reducible first|refine⟨by omega,a0c x,hx',?_⟩|refine⟨_,a6G x,?_⟩)|refine stq ?_|(clear hK K))
    all_goals(refine a0m ?_;rw[e,a1z hxm hn];rfl)
   |true=>
    cases hv:a0z x with
    |false=>
     have hn:a1A l x=false:=by unfold a1A;rw[hp,hv];rfl
     repeat'(first|(simp only[go_sem,zA,zB,zC,zD,zE,zF,zG,reduceCtorEq,zH,zI,zJ,zK,zL,lB,hbb,hp,hv,a0b];all_goals refine nf ?_)|(refine stp ?_;intro K hK)|(apply hK;clear hK K)|refine stn ?_|(with_reducible first|refine⟨by omega,a0c x,hx',?_⟩|refine⟨_,a6G x,?_⟩|refine⟨_,a9z x,?_⟩)|refine stq ?_|(clear hK K))
     all_goals(refine a0m ?_;rw[e,a1z hxm hn];rfl)
    |true=>
     have hn:a1A l x=(edgeL x).all fun e=>!a3W l e:=by unfold a1A;rw[hp,hv];rfl
     repeat'(first|(simp only[go_sem,zA,zB,zC,zD,zE,zF,zG,reduceCtorEq,zH,zI,zJ,zK,zL,lB,hbb,hp,hv,a0b];all_goals refine nf ?_)|(refine stp ?_;intro K hK)|(apply hK;clear hK K)|refine stn ?_|(with_reducible first|refine⟨by omega,a0c x,hx',?_⟩|refine⟨_,a6G x,?_⟩|refine⟨_,a9z x,?_⟩|refine⟨_,b8e x (hl.kids x hxm) (hl.fields x hxm),?_⟩)|refine stq ?_|fail)
     refine AWP.len 34 rfl fun hlen1=>?_
     (try rw[lB] at hlen1)
     refine AWP.range (S:=Unit) (edgeL x) a0e (fun k s=>(36,I .i64 (k:Nat))::[]) (fun k s=>[]) [1,19,20,21,34,35] [1] (fun k s=>((edgeL x).take k).all (fun e=>!a3W l e)=true) (()) (by refine sts ?_;exact Gh.tt []) ?_ ?_ ?_
     ·simp
     ·intro k2 s2 y hlt hy hy' hbb2 hok2
      refine sts ?_
      have hym:=List.mem_of_getElem? hy
      have hat2:=a0K (p:=fun e=>!a3W l e) hy
      rw[hok2,Bool.true_and] at hat2
      cases g0:decide (y<0)
      ·cases g1:decide ((l.length:Int)≤y)
       ·have hy1:a3W l y=false:=by unfold a3W;rw[g0,g1];rfl
        repeat'(first|(simp only[go_sem,zA,zB,zC,zD,zE,zF,zG,reduceCtorEq,zH,zI,zJ,zK,zL,lB,hbb2,g0,g1,a0e];all_goals refine nf ?_)|(refine stp ?_;intro K hK)|(apply hK;clear hK K)|refine stn ?_|(with_reducible refine⟨by omega,a0e y,hy',?_⟩)|(clear hK K))
        all_goals(rw[a0d hlt hlen1])
        all_goals(refine⟨(),?_,Gh.tt []⟩)
        all_goals(rw[hat2,hy1];rfl)
       ·have hy1:a3W l y=true:=by unfold a3W;rw[g0,g1];rfl
        have hn2:a1A l x=false:=by rw[hn];exact a1z hym (by rw[hy1];rfl)
        repeat'(first|(simp only[go_sem,zA,zB,zC,zD,zE,zF,zG,reduceCtorEq,zH,zI,zJ,zK,zL,lB,hbb2,g0,g1,a0e];all_goals refine nf ?_)|(refine stp ?_;intro K hK)|(apply hK;clear hK K)|refine stn ?_|(with_reducible refine⟨by omega,a0e y,hy',?_⟩)|(clear hK K))
        all_goals(refine a0m ?_;rw[e,a1z hxm hn2];rfl)
      ·have hy1:a3W l y=true:=by unfold a3W;rw[g0];rfl
       have hn2:a1A l x=false:=by rw[hn];exact a1z hym (by rw[hy1];rfl)
       repeat'(first|(simp only[go_sem,zA,zB,zC,zD,zE,zF,zG,reduceCtorEq,zH,zI,zJ,zK,zL,lB,hbb2,g0,a0e];all_goals refine nf ?_)|(refine stp ?_;intro K hK)|(apply hK;clear hK K)|refine stn ?_|(with_reducible refine⟨by omega,a0e y,hy',?_⟩)|(clear hK K))
       all_goals(refine a0m ?_;rw[e,a1z hxm hn2];rfl)
     ·intro s2 hbb2 hok2
      refine sts ?_
      rw[List.take_length] at hok2
      rw[hn,hok2] at hat
      repeat'(first|(simp only[go_sem,zA,zB,zC,zD,zE,zF,zG,reduceCtorEq,zH,zI,zJ,zK,zL,lB,hbb2];all_goals refine nf ?_)|(refine stp ?_;intro K hK)|(apply hK;clear hK K)|refine stn ?_|(clear hK K))
      all_goals(rw[a0d hlt hlen0])
      all_goals(refine⟨(),?_,Gh.tt []⟩)
      all_goals exact hat
  ·intro s hbb hok
   refine sts ?_
   rw[List.take_length] at hok
   rw[hok,cond_true] at e
   cases hc:a6y l
   ·
    repeat'(first|(simp only[go_sem,zA,zB,zC,zD,zE,zF,zG,reduceCtorEq,zH,zI,zJ,zK,zL,lB,hbb,hc];all_goals refine nf ?_)|(refine stp ?_;intro K hK)|(apply hK;clear hK K)|refine stn ?_|(with_reducible refine⟨_,a7a l r (a8y hok) hl.len,?_⟩)|refine stq ?_|(clear hK K))
    all_goals(refine a0m ?_;rw[e,hc];rfl)
   ·
    repeat'(first|(simp only[go_sem,zA,zB,zC,zD,zE,zF,zG,reduceCtorEq,zH,zI,zJ,zK,zL,lB,hbb,hc];all_goals refine nf ?_)|(refine stp ?_;intro K hK)|(apply hK;clear hK K)|refine stn ?_|(with_reducible refine⟨_,a7a l r (a8y hok) hl.len,?_⟩)|refine stq ?_|(clear hK K))
    all_goals(refine a0m ?_;rw[e,hc];rfl)
end Go.Proofs.YthbcdhfiibpeaaaGreat

