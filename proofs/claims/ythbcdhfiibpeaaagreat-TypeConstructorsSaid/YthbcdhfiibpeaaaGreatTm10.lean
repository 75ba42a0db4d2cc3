/- Lemmas of the proof. -/
import Derived.Test.YthbcdhfiibpeaaaGreatTm8
import Derived.Test.YthbcdhfiibpeaaaGreatTm9
import Derived.Lib.Bytealg
import Derived.Lib.Walk
import Derived.WalkKit
import Derived.ProofKit
import Derived.Lib.SliceRun
open Go.Proofs.Tryz renaming prog→zP
open List renaming length_map→lB
open Nat renaming reduceBEq→zA,reduceBNe→zB,reduceAdd→zC,reduceSub→zD,reduceMul→zE,reduceLeDiff→zF,reduceLT→zG,reduceEqDiff→zH
open Int renaming reduceToNat→zI,reduceLE→zJ,reduceLT→zK,reduceEq→zL
open Bool renaming not_eq_true'→zM,not_eq_false'→zN
set_option linter.unusedSimpArgs false
set_option linter.unusedVariables false
set_option maxRecDepth 20000
set_option maxHeartbeats 64000000

namespace Go.Proofs.YthbcdhfiibpeaaaGreat
open Go Go.Sx
def a2p {α:Type} (p:α→Bool):Nat→List α→Int
  |_,[]=> -1
  |k,d::l=>bif p d then k else a2p p (k+1) l
theorem b02 {α:Type} (p:α→Bool) (l:List α) (k:Nat) (d:α) (h:l[k]?= some d):a2p p k (l.drop k)=bif p d then (k:Int) else a2p p (k+1) (l.drop (k+1)):=by
  have hlt:=(List.getElem?_eq_some_iff.1 h).1
  have hv:=(List.getElem?_eq_some_iff.1 h).2
  rw[List.drop_eq_getElem_cons hlt,hv]
  rfl
theorem b25 {α:Type} (p:α→Bool):∀ (l:List α) (k:Nat),(a2p p k l≥0)↔l.any p=true
 |[],k=>by simp[a2p]
 |d::l,k=>by
  have:=b25 p l (k+1)
  simp only[a2p,List.any_cons]
  cases p d<;>simp[this]
structure Src where
  l:List Int
  pos:Nat
def Src.ok (s:Src):Prop:=(∀ x∈s.l, -9223372036854775808≤x∧x≤9223372036854775807)∧s.l.length≤1000000
abbrev a1d (s:Src):Res:= .cells [.dat (.sl 1 (s.l.map a0e)), .dat (.int .i64 s.pos)]
abbrev Sp (k:Nat):T:= .one (.ptr k 0)
def a8w (s:Src) (n:Int):Bool:=decide (n<1)||decide ((s.l.length:Int)≤(s.pos:Int))
def a0h (s:Src) (n:Int):Int:=bif a8w s n then 0 else bif decide (((s.l[s.pos]?).getD 0).tmod n<0) then ((s.l[s.pos]?).getD 0).tmod n+n else ((s.l[s.pos]?).getD 0).tmod n
def a0f (s:Src) (n:Int):Src:=bif a8w s n then s else { s with pos:=s.pos+1 }
theorem a0j {s:Src} (h:s.ok) (n:Int):(a0f s n).ok:=by
  unfold a0f;cases a8w s n<;>exact h
theorem a0p (s:Src) {n:Int} (hn:1≤n):0≤a0h s n∧a0h s n<n:=by
 unfold a0h
 cases a8w s n with
 |true=>simp only[cond_true];omega
 |false=>
  simp only[cond_false]
  generalize (s.l[s.pos]?).getD 0=x
  have h1:(x.tmod n)<n:=Int.tmod_lt_of_pos x (by omega)
  have h2: -n<x.tmod n:=by
   have:=Int.lt_tmod_of_pos x (show 0<n by omega)
   omega
  cases hc:decide (x.tmod n<0) with
  |true=>simp only[decide_eq_true_eq] at hc;simp only[cond_true];omega
  |false=>simp only[decide_eq_false_iff_not] at hc;simp only[cond_false];omega
theorem c6d (s:Src) (hs:s.ok) (n:Int) (hn:1≤n∧n≤1000000):PCB zP 45 [Sp pin,I .i64 n] [(pin,a1d s)] (I .i64 (a0h s n)) [(pin,a1d (a0f s n))]:=by
 refine PCB.ob Tryz.func45 Tryz.ntmps45 Tryz.results45 ?_
 have h1:decide (n<1)=false:=by simp;omega
 by_cases hp:s.pos<s.l.length
 ·have h2:decide ((s.l.length:Int)≤(s.pos:Int))=false:=by simp;omega
  have hx:s.l[s.pos]?= some s.l[s.pos]:=by simp[hp]
  have hx':(s.l.map a0e)[s.pos]?= some (a0e s.l[s.pos]):=by simp[hp]
  have hn0:¬ n=0:=by omega
  have hw:IntKind.i64.wrap ((s.pos:Int)+1)=((s.pos+1:Nat):Int):=a0d hp (by have:=hs.2;omega)
  have hb1:=Int.tmod_lt_of_pos s.l[s.pos] (show 0<n by omega)
  have hb2:=Int.lt_tmod_of_pos s.l[s.pos] (show 0<n by omega)
  have hw2:IntKind.i64.wrap (s.l[s.pos].tmod n+n)=s.l[s.pos].tmod n+n:=by rw[w64 (by omega)]
  have he:a8w s n=false:=by unfold a8w;rw[h1,h2];rfl
  repeat'(first|(simp only[go_sem,zA,zB,zC,zD,zE,zF,zG,reduceCtorEq,zH,zI,zJ,zK,zL,pin,lB,h1,h2,hw,hw2];all_goals refine nf ?_)|(refine stp ?_;intro K hK)|(apply hK;clear hK K)|refine stn ?_|(refine AWP.cnd ?_ ?_<;>intro h<;>(try simp only[zM,zN] at h))|(with_reducible first|refine⟨by omega,a0e s.l[s.pos],hx',?_⟩|refine⟨by omega,?_⟩)|(refine a0M ?_;intro K hK)|fail)
  all_goals(simp only[decide_eq_true_eq,decide_eq_false_iff_not] at h)
  all_goals(refine⟨by simp only[a0h,he,cond_false,hx,Option.getD_some,h,decide_true,decide_false,cond_true],fun x hx=>by simpa only[a0f,he,cond_false] using hx⟩)
 ·have h2:decide ((s.l.length:Int)≤(s.pos:Int))=true:=by simp;omega
  have he:a8w s n=true:=by unfold a8w;rw[h1,h2];rfl
  repeat'(first|(simp only[go_sem,zA,zB,zC,zD,zE,zF,zG,reduceCtorEq,zH,zI,zJ,zK,zL,pin,lB,h1,h2];all_goals refine nf ?_)|(refine stp ?_;intro K hK)|(apply hK;clear hK K)|refine stn ?_|(refine a0M ?_;intro K hK)|(clear hK K))
  all_goals exact⟨by simp only[a0h,he,cond_true],fun x hx=>by simpa only[a0f,he,cond_true] using hx⟩
theorem a0v (k:Nat) (s:Src) (hs:s.ok) (n:Int) (hn:1≤n∧n≤1000000):a2f zP 45 [Sp k,I .i64 n] k (a1d s) (I .i64 (a0h s n)) (a1d (a0f s n)):=a2f.mk k (c6d s hs n hn)
theorem a3I {α:Type} (f:α→List C) (l:List α) (d:α) {v:Int} (hv:0≤v∧v<l.length):(l.map f)[v.toNat]?= some (f (l.getD v.toNat d)):=by
  have h:v.toNat<l.length:=by omega
  simp[List.getElem?_map,h]
def wordL:List (List UInt8):=[[],[115],[120,32,121],[97]]
def atomL:List (List UInt8):=[[97],[98],[111,107],[101,114,114,111,114]]
def c8B:List Int:=[0,1, -1,2,3, -2,7, -9223372036854775808,9223372036854775807,10]
def b0E (s:Src):List UInt8:=wordL.getD (a0h s 4).toNat []
def a7S (s:Src):List UInt8:=atomL.getD (a0h s 4).toNat []
def c6e (s:Src):Int:=c8B.getD (a0h s 10).toNat 0
theorem c6f (s:Src) (hs:s.ok):PCB zP 119 [Sp pin] [(pin,a1d s)] (S (b0E s)) [(pin,a1d (a0f s 4))]:=by
  refine PCB.ob Tryz.func119 Tryz.ntmps119 Tryz.results119 ?_
  have hv:=a0p s (n:=4) (by omega)
  repeat'(first|(simp only[go_sem,zA,zB,zC,zD,zE,zF,zG,reduceCtorEq,zH,zI,zJ,zK,zL,pin];all_goals refine nf ?_)|(refine stp ?_;intro K hK)|(apply hK;clear hK K)|refine stn ?_|(refine⟨1000000,_,_,_,a0v 1000000 s hs 4 (by omega),rfl,?_⟩)|( refine⟨hv.1,[.str (b0E s)],a3I (fun x=>[C.str x]) wordL [] hv,?_⟩)|refine stq ?_|fail)
  all_goals exact fun x hx=>hx
theorem b6x (s:Src) (hs:s.ok):PCB zP 118 [Sp pin] [(pin,a1d s)] (S (a7S s)) [(pin,a1d (a0f s 4))]:=by
  refine PCB.ob Tryz.func118 Tryz.ntmps118 Tryz.results118 ?_
  have hv:=a0p s (n:=4) (by omega)
  repeat'(first|(simp only[go_sem,zA,zB,zC,zD,zE,zF,zG,reduceCtorEq,zH,zI,zJ,zK,zL,pin];all_goals refine nf ?_)|(refine stp ?_;intro K hK)|(apply hK;clear hK K)|refine stn ?_|(refine⟨1000000,_,_,_,a0v 1000000 s hs 4 (by omega),rfl,?_⟩)|( refine⟨hv.1,[.str (a7S s)],a3I (fun x=>[C.str x]) atomL [] hv,?_⟩)|refine stq ?_|fail)
  all_goals exact fun x hx=>hx
theorem c0J (s:Src) (hs:s.ok):PCB zP 128 [Sp pin] [(pin,a1d s)] (I .i64 (c6e s)) [(pin,a1d (a0f s 10))]:=by
  refine PCB.ob Tryz.func128 Tryz.ntmps128 Tryz.results128 ?_
  have hv:=a0p s (n:=10) (by omega)
  repeat'(first|(simp only[go_sem,zA,zB,zC,zD,zE,zF,zG,reduceCtorEq,zH,zI,zJ,zK,zL,pin];all_goals refine nf ?_)|(refine stp ?_;intro K hK)|(apply hK;clear hK K)|refine stn ?_|(refine⟨1000000,_,_,_,a0v 1000000 s hs 10 (by omega),rfl,?_⟩)|( refine⟨hv.1,[.int .i64 (c6e s)],a3I (fun x=>[C.int .i64 x]) c8B 0 hv,?_⟩)|refine stq ?_|fail)
  all_goals exact fun x hx=>hx
theorem b26 (k:Nat) (s:Src) (hs:s.ok):a2f zP 119 [Sp k] k (a1d s) (S (b0E s)) (a1d (a0f s 4)):=a2f.mk k (c6f s hs)
theorem a4q (k:Nat) (s:Src) (hs:s.ok):a2f zP 118 [Sp k] k (a1d s) (S (a7S s)) (a1d (a0f s 4)):=a2f.mk k (b6x s hs)
theorem c0K (k:Nat) (s:Src) (hs:s.ok):a2f zP 128 [Sp k] k (a1d s) (I .i64 (c6e s)) (a1d (a0f s 10)):=a2f.mk k (c0J s hs)
def a9s (s:Src):KeyD×Src:=bif decide (a0h s 2=0) then (⟨0,a7S (a0f s 2)⟩,a0f (a0f s 2) 4) else (⟨1,b0E (a0f s 2)⟩,a0f (a0f s 2) 4)
theorem c7U (s:Src) (hs:s.ok):PCB zP 92 [Sp pin] [(pin,a1d s)] (.st (a0k (a9s s).1)) [(pin,a1d (a9s s).2)]:=by
  refine PCB.ob Tryz.func92 Tryz.ntmps92 Tryz.results92 ?_
  have hs2:=a0j hs 2
  repeat'(first|(simp only[go_sem,zA,zB,zC,zD,zE,zF,zG,reduceCtorEq,zH,zI,zJ,zK,zL,pin];all_goals refine nf ?_)|(refine stp ?_;intro K hK)|(apply hK;clear hK K)|refine stn ?_|(refine AWP.cnd ?_ ?_<;>intro h<;>(try simp only[zM,zN] at h))|(refine⟨1000000,_,_,_,a0v 1000000 s hs 2 (by omega),rfl,?_⟩)|(refine⟨1000000,_,_,_,a4q 1000000 _ hs2,rfl,?_⟩)|(refine⟨1000000,_,_,_,b26 1000000 _ hs2,rfl,?_⟩)|refine stq ?_|(clear hK K))
  all_goals(simp only[a9s,h,cond_true,cond_false];exact⟨rfl,fun x hx=>by simp only[List.mem_singleton] at hx;subst hx;simp⟩)
theorem c7V (k:Nat) (s:Src) (hs:s.ok):a2f zP 92 [Sp k] k (a1d s) (.st (a0k (a9s s).1)) (a1d (a9s s).2):=a2f.mk k (c7U s hs)
theorem b73 {s:Src} (h:s.ok):(a9s s).2.ok:=by unfold a9s;cases decide (a0h s 2=0)<;>exact a0j (a0j h 2) 4
def b74 (b:UInt8):Bool:=decide ((97:Int)≤(b.toNat:Int))&&decide ((b.toNat:Int)≤122)
def c2t (b:UInt8):Bool:=decide ((48:Int)≤(b.toNat:Int))&&decide ((b.toNat:Int)≤57)
theorem b1Z (b:UInt8):PC zP 70 [I .u8 b.toNat] (Bo (b74 b)):=by
  refine PCB.ob Tryz.func70 Tryz.ntmps70 Tryz.results70 ?_
  repeat'(first|(simp only[go_sem,zA,zB,zC,zD,zE,zF,zG,reduceCtorEq,zH,zI,zJ,zK,zL];all_goals refine nf ?_)|(refine stp ?_;intro K hK)|(apply hK;clear hK K)|refine stn ?_|(refine⟨fun h=>?_,fun h=>?_⟩<;>(try simp only[zM,zN] at h)<;>try simp only[h])|fail)
  all_goals(refine a0m ?_;simp only[b74,h,Bool.true_and,Bool.false_and])
theorem b75 (b:UInt8):PC zP 71 [I .u8 b.toNat] (Bo (c2t b)):=by
  refine PCB.ob Tryz.func71 Tryz.ntmps71 Tryz.results71 ?_
  repeat'(first|(simp only[go_sem,zA,zB,zC,zD,zE,zF,zG,reduceCtorEq,zH,zI,zJ,zK,zL];all_goals refine nf ?_)|(refine stp ?_;intro K hK)|(apply hK;clear hK K)|refine stn ?_|(refine⟨fun h=>?_,fun h=>?_⟩<;>(try simp only[zM,zN] at h)<;>try simp only[h])|fail)
  all_goals(refine a0m ?_;simp only[c2t,h,Bool.true_and,Bool.false_and])
def b27 (b:UInt8):Bool:=b74 b||(c2t b||decide ((b.toNat:Int)=95))
def a2g (s:List UInt8):Bool:=!(decide ((s.length:Int)<1)||(decide ((16:Int)<(s.length:Int))||!b74 (s.headD 0)))&&(s.drop 1).all b27
theorem b13 (s:List UInt8):PC zP 85 [S s] (Bo (a2g s)):=by
 refine PCB.ob Tryz.func85 Tryz.ntmps85 Tryz.results85 ?_
 cases hl1:decide ((s.length:Int)<1) with
 |true=>
  repeat'(first|(simp only[go_sem,zA,zB,zC,zD,zE,zF,zG,reduceCtorEq,zH,zI,zJ,zK,zL,hl1];all_goals refine nf ?_)|(refine stp ?_;intro K hK)|(apply hK;clear hK K)|refine stn ?_|(clear hK K))
  all_goals(first|exact fun _ h=>absurd h List.not_mem_nil|refine a0m ?_)
  all_goals simp only[a2g,hl1,Bool.true_or,Bool.not_true,Bool.false_and]
 |false=>
  have hpos:0<s.length:=by simp only[decide_eq_false_iff_not] at hl1;omega
  obtain⟨b,hb0⟩:∃ b,s[0]?= some b:=⟨s[0],by simp[hpos]⟩
  have hhd:s.headD 0=b:=by cases s<;>simp at hb0 hpos ⊢; exact hb0
  cases hlong:decide ((16:Int)<(s.length:Int)) with
  |true=>
   repeat'(first|(simp only[go_sem,zA,zB,zC,zD,zE,zF,zG,reduceCtorEq,zH,zI,zJ,zK,zL,hl1,hlong];all_goals refine nf ?_)|(refine stp ?_;intro K hK)|(apply hK;clear hK K)|refine stn ?_|(clear hK K))
   all_goals(first|exact fun _ h=>absurd h List.not_mem_nil|refine a0m ?_)
   all_goals simp only[a2g,hlong,Bool.true_or,Bool.or_true,Bool.not_true,Bool.false_and]
  |false=>
   have hlen:s.length≤9223372036854775807:=by simp only[decide_eq_false_iff_not] at hlong;omega
   cases hlow:b74 b with
   |false=>
    repeat'(first|(simp only[go_sem,zA,zB,zC,zD,zE,zF,zG,reduceCtorEq,zH,zI,zJ,zK,zL,hl1,hlong,hlow];all_goals refine nf ?_)|(refine stp ?_;intro K hK)|(apply hK;clear hK K)|refine stn ?_|(with_reducible first|refine⟨_,b1Z b,?_⟩|refine⟨b,hb0,?_⟩)|refine stq ?_|(clear hK K))
    all_goals(first|exact fun _ h=>absurd h List.not_mem_nil|refine a0m ?_)
    all_goals simp only[a2g,hl1,hlong,hhd,hlow,Bool.false_or,Bool.not_false,Bool.not_true,Bool.false_and]
   |true=>
    have hmod:a2g s=(s.drop 1).all b27:=by simp only[a2g,hl1,hlong,hhd,hlow,Bool.not_true,Bool.false_or,Bool.not_false,Bool.true_and]
    repeat'(first|(simp only[go_sem,zA,zB,zC,zD,zE,zF,zG,reduceCtorEq,zH,zI,zJ,zK,zL,hl1,hlong,hlow];all_goals refine nf ?_)|(refine stp ?_;intro K hK)|(apply hK;clear hK K)|refine stn ?_|(with_reducible first|refine⟨_,b1Z b,?_⟩|refine⟨b,hb0,?_⟩)|refine stq ?_|fail)
    refine AWP.loopS (X:=Nat) (fun k=>[(3,I .i64 k),(0,S s)]) (fun _=>[]) (fun k=>1≤k∧k≤s.length∧(s.drop 1).all b27=(s.drop k).all b27) (fun k=>s.length-k) 1 (Gh.tt []) ⟨Nat.le_refl _,by omega,rfl⟩ ?_
    rintro k ⟨hk1,hk,hp⟩
    by_cases hlt:k<s.length
    ·have hdrop:=List.drop_eq_getElem_cons hlt
     have hd:s[k]?= some s[k]:=List.getElem?_eq_getElem hlt
     have hbt:decide ((k:Int)<(s.length:Int))=true:=by simpa using hlt
     generalize s[k]=d at hd hdrop
     rw[hdrop,List.all_cons] at hp
     cases ht1:b74 d<;>cases ht2:c2t d<;>cases ht3:decide ((d.toNat:Int)=95)
     all_goals simp only[b27,ht1,ht2,ht3,Bool.or_true,Bool.or_false,Bool.true_or,Bool.true_and,Bool.false_and] at hp
     repeat'(first|(simp only[go_sem,zA,zB,zC,zD,zE,zF,zG,reduceCtorEq,zH,zI,zJ,zK,zL,hbt,ht1,ht2,ht3];all_goals refine nf ?_)|(refine stp ?_;intro K hK)|(apply hK;clear hK K)|refine stn ?_|(with_reducible first|refine⟨_,b1Z d,?_⟩|refine⟨_,b75 d,?_⟩|refine⟨by omega,d,hd,?_⟩)|refine stq ?_|(clear hK K))
     all_goals first
      |(refine a0m ?_;rw[hmod,hp])
      |(rw[a0d hlt hlen];refine⟨k+1,by omega,⟨by omega,by omega,hp⟩,Gh.tt []⟩)
    ·have hbt:decide ((k:Int)<(s.length:Int))=false:=by simpa using hlt
     rw[show s.drop k=[] from List.drop_eq_nil_of_le (by omega)] at hp
     repeat'(first|(simp only[go_sem,zA,zB,zC,zD,zE,zF,zG,reduceCtorEq,zH,zI,zJ,zK,zL,hbt];all_goals refine nf ?_)|(refine stp ?_;intro K hK)|(apply hK;clear hK K)|refine stn ?_|(clear hK K))
     all_goals(refine a0m ?_;rw[hmod,hp];rfl)
def a0s (k:KeyD):Bool:=(decide (k.kind=0)&&a2g k.text)||(decide (k.kind=1)&&decide ((k.text.length:Int)≤64))
theorem a3F (k:KeyD):PC zP 86 [.st (a0k k)] (Bo (a0s k)):=by
  refine PCB.ob Tryz.func86 Tryz.ntmps86 Tryz.results86 ?_
  repeat'(first|(simp only[go_sem,zA,zB,zC,zD,zE,zF,zG,reduceCtorEq,zH,zI,zJ,zK,zL];all_goals refine nf ?_)|(refine stp ?_;intro K hK)|(apply hK;clear hK K)|refine stn ?_|(refine⟨fun h=>?_,fun h=>?_⟩<;>(try simp only[zM,zN] at h)<;>try simp only[h])|(with_reducible refine⟨_,b13 _,?_⟩)|refine stq ?_|fail)
  all_goals(refine a0m ?_;simp only[a0s, *, Bool.true_and,Bool.false_and,Bool.true_or,Bool.false_or,Bool.or_false])
theorem b76 (a b:Int):PC zP 130 [I .i64 a,I .i64 b] (I .i64 (bif decide (a<b) then -1 else bif decide (b<a) then 1 else 0)):=by
  refine PCB.ob Tryz.func130 Tryz.ntmps130 Tryz.results130 ?_
  repeat'(first|(simp only[go_sem,zA,zB,zC,zD,zE,zF,zG,reduceCtorEq,zH,zI,zJ,zK,zL];all_goals refine nf ?_)|(refine stp ?_;intro K hK)|(apply hK;clear hK K)|refine stn ?_|(refine AWP.cnd ?_ ?_<;>intro h<;>(try simp only[zM,zN] at h))|(clear hK K))
  all_goals(refine a0m ?_;simp only[*, cond_true,cond_false])
def a7T (a b:List UInt8):Int:=bif Op.bytesLess a b then -1 else bif Op.bytesLess a b||decide (a=b) then 0 else 1
theorem c2u (a b:List UInt8):PC zP 131 [S a,S b] (I .i64 (a7T a b)):=by
 refine PCB.ob Tryz.func131 Tryz.ntmps131 Tryz.results131 ?_
 repeat'(first|(simp only[go_sem,zA,zB,zC,zD,zE,zF,zG,reduceCtorEq,zH,zI,zJ,zK,zL];all_goals refine nf ?_)|(refine stp ?_;intro K hK)|(apply hK;clear hK K)|refine stn ?_|(refine AWP.cnd ?_ ?_<;>intro h<;>(try simp only[zM,zN] at h))|(clear hK K))
 all_goals first
  |(refine a0m ?_;simp only[a7T,h,cond_true];done)
  |(rename_i h1;rw[h1,Bool.false_or] at h;refine a0m ?_;simp only[a7T,h1,h,Bool.false_or,cond_true,cond_false])
def a67 (a b:KeyD):Int:=bif !decide (a.kind=b.kind) then (bif decide (a.kind<b.kind) then -1 else bif decide (b.kind<a.kind) then 1 else 0) else a7T a.text b.text
theorem a68 (a b:KeyD):PC zP 87 [.st (a0k a), .st (a0k b)] (I .i64 (a67 a b)):=by
  refine PCB.ob Tryz.func87 Tryz.ntmps87 Tryz.results87 ?_
  repeat'(first|(simp only[go_sem,zA,zB,zC,zD,zE,zF,zG,reduceCtorEq,zH,zI,zJ,zK,zL];all_goals refine nf ?_)|(refine stp ?_;intro K hK)|(apply hK;clear hK K)|refine stn ?_|(refine AWP.cnd ?_ ?_<;>intro h<;>(try simp only[zM,zN] at h))|(with_reducible first|refine⟨_,b76 _ _,?_⟩|refine⟨_,c2u _ _,?_⟩)|refine stq ?_|(clear hK K))
  all_goals(refine a0m ?_;simp only[a67,h,Bool.not_true,Bool.not_false,cond_true,cond_false])
structure PutA where
  keys:List KeyD
  kids:List Dat
  placed:Bool
def c3C (k:KeyD) (d:Dat) (a:PutA) (x:KeyD×Dat):PutA:=
  let b:PutA:=bif decide (a67 k x.1≤0)&&!a.placed then ⟨a.keys++[k],a.kids++[d],true⟩ else a
  bif !decide (a67 k x.1=0) then ⟨b.keys++[x.1],b.kids++[x.2],b.placed⟩ else b
def c6g (k:KeyD) (d:Dat) (a:PutA):PutA:=bif !a.placed then ⟨a.keys++[k],a.kids++[d],true⟩ else a
def c6h (a:PutA):Dat:={ a20 with kind:=8,kids:=a.kids,keys:=a.keys }
def c6i (m:Dat) (k:KeyD):Bool:=!decide (m.kind=8)||(!a0s k||!decide ((m.keys.length:Int)=(m.kids.length:Int)))
def putR (m:Dat) (k:KeyD) (d:Dat):Dat×Bool:=bif c6i m k then (a20,false) else (c6h (c6g k d ((m.keys.zip m.kids).foldl (c3C k d) ⟨[],[],false⟩)),true)
theorem c0L (l:List KeyD) (x:KeyD):l.map a0k++[a0k x]=(l++[x]).map a0k:=by simp
def a3V (a b:Int):Int:=bif decide (a<b) then -1 else bif decide (b<a) then 1 else 0
theorem c3D (a:Int):PC zP 172 [I .i64 a] (Bo false):=by
  refine PCB.ob Tryz.func172 Tryz.ntmps172 Tryz.results172 ?_
  repeat'(first|(simp only[go_sem,zA,zB,zC,zD,zE,zF,zG,reduceCtorEq,zH,zI,zJ,zK,zL,decide_true];all_goals refine nf ?_)|(refine stp ?_;intro K hK)|(apply hK;clear hK K)|refine stn ?_|fail)
  all_goals(first|exact fun _ h=>absurd h List.not_mem_nil|refine a0m ?_)
  all_goals(simp)
theorem b77 (a:Int):PC zP 145 [I .i64 a] (Bo false):=by
  refine PCB.ob Tryz.func145 Tryz.ntmps145 Tryz.results145 ?_
  repeat'(first|(simp only[go_sem,zA,zB,zC,zD,zE,zF,zG,reduceCtorEq,zH,zI,zJ,zK,zL,decide_true];all_goals refine nf ?_)|(refine stp ?_;intro K hK)|(apply hK;clear hK K)|refine stn ?_|fail)
  all_goals(first|exact fun _ h=>absurd h List.not_mem_nil|refine a0m ?_)
  all_goals(simp)
theorem c0M (a b:Int):PC zP 149 [I .i64 a,I .i64 b] (I .i64 (a3V a b)):=by
  refine PCB.ob Tryz.func149 Tryz.ntmps149 Tryz.results149 ?_
  cases h1:decide (a<b)<;>cases h2:decide (b<a)
  repeat'(first|(simp only[go_sem,zA,zB,zC,zD,zE,zF,zG,reduceCtorEq,zH,zI,zJ,zK,zL,h1,h2,gt_iff_lt];all_goals refine nf ?_)|(refine stp ?_;intro K hK)|(apply hK;clear hK K)|refine stn ?_|(with_reducible refine⟨_,c3D _,?_⟩)|refine stq ?_|(clear hK K))
  all_goals(refine a0m ?_;simp only[a3V,h1,h2,cond_true,cond_false])
theorem b6y (a b:Int):PC zP 116 [I .i64 a,I .i64 b] (I .i64 (a3V a b)):=by
  refine PCB.ob Tryz.func116 Tryz.ntmps116 Tryz.results116 ?_
  cases h1:decide (a<b)<;>cases h2:decide (b<a)
  repeat'(first|(simp only[go_sem,zA,zB,zC,zD,zE,zF,zG,reduceCtorEq,zH,zI,zJ,zK,zL,h1,h2,gt_iff_lt];all_goals refine nf ?_)|(refine stp ?_;intro K hK)|(apply hK;clear hK K)|refine stn ?_|(with_reducible refine⟨_,b77 _,?_⟩)|refine stq ?_|(clear hK K))
  all_goals(refine a0m ?_;simp only[a3V,h1,h2,cond_true,cond_false])
def a1x {α:Type} (f:α→α→Int):List α→List α→Int
  |x::a,y::b=>bif decide (f x y=0) then a1x f a b else f x y
  |_,_=>0
theorem b6z {α:Type} (f:α→α→Int) (l:List α):a1x f [] l=0:=by cases l<;>rfl
def a1G {α:Type} (f:α→α→Int) (a b:List α):Int:=bif decide (a3V a.length b.length=0) then a1x f a b else a3V a.length b.length
theorem a69 {a b:Int}:a3V a b=0↔a=b:=by
  unfold a3V
  cases h1:decide (a<b)<;>cases h2:decide (b<a)<;>simp only[decide_eq_true_eq,decide_eq_false_iff_not] at h1 h2<;>simp<;>omega
def a3x (k:Int):Bool:=decide (k=16)||(decide (k=17)||decide (k=18))
theorem a9t (k:Int):PC zP 101 [I .i64 k] (Bo (a3x k)):=by
  refine PCB.ob Tryz.func101 Tryz.ntmps101 Tryz.results101 ?_
  repeat'(first|(simp only[go_sem,zA,zB,zC,zD,zE,zF,zG,reduceCtorEq,zH,zI,zJ,zK,zL];all_goals refine nf ?_)|(refine stp ?_;intro K hK)|(apply hK;clear hK K)|refine stn ?_|(refine⟨fun h=>?_,fun h=>?_⟩<;>(try simp only[zM,zN] at h)<;>try simp only[h])|fail)
  all_goals(first|exact lf|(refine a0m ?_;simp only[a3x, *, zb,cond_true,cond_false,decide_true,decide_false]<;>rfl))
abbrev Tt (l:List NodeD) (r:Int):T:= .st [.sl 8 (l.map a0c), .int .i64 r]
def tyB (l:List NodeD) (r:Int):List Cell:=[.dat (.sl 8 (l.map a0c)), .dat (.int .i64 r)]
attribute [go_sem] tyB
def bo (l:List NodeD) (i:Nat):Bool:=match l[i]? with
  |some x=>a3x x.kind
  |none=>false
def ks (l:List NodeD) (i:Nat):List Nat:=match l[i]? with
  |some x=>x.kids.map Int.toNat
  |none=>[]
def InR (l:List NodeD):Prop:=∀ x∈l,∀ k∈x.kids,0≤k∧k<(l.length:Int)
theorem b14 (bo:Nat→Bool) (ks:Nat→List Nat):∀ (f:Nat) (st:List Int) (i:Nat),(Gr.dfs bo ks f st i).2.length=st.length
 |0,st,i=>rfl
 |f+1,st,i=>by
  have key:∀ (l:List Nat) (st:List Int),(Gr.lstW (Gr.dfs bo ks f) st l).2.length=st.length:=by
   intro l
   induction l with
   |nil=>intro st;rfl
   |cons k l ih=>
    intro st
    rw[Gr.lstW]
    cases (Gr.dfs bo ks f st k).1
    ·exact b14 bo ks f st k
    ·rw[cond_true,ih,b14]
  rw[Gr.dfs]
  cases !decide (st.getD i 0=0)||!bo i
  ·rw[cond_false]
   cases (Gr.lstW (Gr.dfs bo ks f) (st.set i 1) (ks i)).1
   ·rw[cond_false,key,List.length_set]
   ·rw[cond_true,List.length_set,key,List.length_set]
  ·rfl
theorem b4p (bo:Nat→Bool) (ks:Nat→List Nat):∀ (f:Nat) (st:List Int) (i:Nat),Gr.zer (Gr.dfs bo ks f st i).2≤Gr.zer st
 |0,st,i=>Nat.le_refl _
 |f+1,st,i=>by
  have key:∀ (l:List Nat) (st:List Int),Gr.zer (Gr.lstW (Gr.dfs bo ks f) st l).2≤Gr.zer st:=by
   intro l
   induction l with
   |nil=>intro st;exact Nat.le_refl _
   |cons k l ih=>
    intro st
    rw[Gr.lstW]
    cases (Gr.dfs bo ks f st k).1
    ·exact b4p bo ks f st k
    ·rw[cond_true];exact Nat.le_trans (ih _) (b4p bo ks f st k)
  rw[Gr.dfs]
  cases !decide (st.getD i 0=0)||!bo i
  ·rw[cond_false]
   have h1:=Gr.zer_set2 st i 1 (by decide)
   cases (Gr.lstW (Gr.dfs bo ks f) (st.set i 1) (ks i)).1
   ·rw[cond_false];exact Nat.le_trans (key _ _) h1
   ·rw[cond_true]
    exact Nat.le_trans (Gr.zer_set2 _ i 2 (by decide)) (Nat.le_trans (key _ _) h1)
  ·exact Nat.le_refl _
theorem a8W (st:List Int) (i:Nat) (v:Int):(st.map a0e).set i [C.int .i64 v]=(st.set i v).map a0e:=by
  rw[List.map_set];rfl
theorem a0n {α:Type} {l:List α} {i:Nat} {x:α} (enc:α→List C) (h:l[i]?= some x):(l.map enc)[i]?= some (enc x):=by rw[List.getElem?_map,h];rfl
def c7W (l:List NodeD) (r:Int) (st:List Int):Bx:=[(1000000, .row 1 (st.map a0e)),(1000001, .cells [.own 1000000 l.length]),(1000002, .cells (tyB l r)),(1000003, .cells [.clo 100 [.ptr 1000001 0, .ptr 1000002 0, .ptr 1000003 0]])]
attribute [go_sem] c7W
theorem b5l {l:List Int} {i:Nat} (h:i<l.length):l[i]?= some (l.getD i 0):=by
  rw[List.getD_eq_getElem?_getD,List.getElem?_eq_getElem h];rfl
theorem c6j (l:List NodeD) (r:Int) (hr:InR l) (hll:l.length≤1000000):∀ (f:Nat) (st:List Int) (i:Int),0≤i→i<(l.length:Int)→st.length=l.length→Gr.zer st<f→
  PCB zP 100 [I .i64 i, .one (.ptr 1000001 0), .one (.ptr 1000002 0), .one (.ptr 1000003 0)] (c7W l r st) (Bo (Gr.dfs (bo l) (ks l) f st i.toNat).1) (c7W l r (Gr.dfs (bo l) (ks l) f st i.toNat).2):=by
 intro f
 induction f with
 |zero=>intro st i _ _ _ h;omega
 |succ f ih=>
  intro st i h0 hi hst hz
  have hin:i.toNat<l.length:=by omega
  have hx:l[i.toNat]?= some l[i.toNat]:=List.getElem?_eq_getElem hin
  obtain⟨x,hxe⟩:∃ x,x=l[i.toNat]:=⟨_,rfl⟩
  rw[← hxe] at hx
  have hxe2:=a0n a0c hx
  have hs:=b5l (l:=st) (i:=i.toNat) (by omega)
  obtain⟨v,hv⟩:∃ v,v=st.getD i.toNat 0:=⟨_,rfl⟩
  rw[← hv] at hs
  have hse:=a0n a0e hs
  have hbo:bo l i.toNat=a3x x.kind:=by unfold bo;rw[hx]
  have hks:ks l i.toNat=x.kids.map Int.toNat:=by unfold ks;rw[hx]
  cases hv0:decide (v=0) with
  |false=>
   have e:Gr.dfs (bo l) (ks l) (f+1) st i.toNat=(!decide (v=1),st):=by
    rw[Gr.dfs,← hv,hv0];rfl
   rw[e]
   refine PCB.ob Tryz.func100 Tryz.ntmps100 Tryz.results100 ?_
   repeat'(first|(simp only[go_sem,zA,zB,zC,zD,zE,zF,zG,reduceCtorEq,zH,zI,zJ,zK,zL,lB,hst,hv0,a0e,a0b];all_goals refine nf ?_)|(refine stp ?_;intro K hK)|(apply hK;clear hK K)|refine stn ?_|(with_reducible first|refine⟨by omega,by omega,by omega,?_⟩|refine⟨_,hse,?_⟩)|(clear hK K))
   all_goals exact fun _ h=>h
  |true=>
   cases hb:a3x x.kind with
   |false=>
    have e:Gr.dfs (bo l) (ks l) (f+1) st i.toNat=(!decide (v=1),st):=by
     rw[Gr.dfs,← hv,hv0,hbo,hb];rfl
    rw[e]
    refine PCB.ob Tryz.func100 Tryz.ntmps100 Tryz.results100 ?_
    repeat'(first|(simp only[go_sem,zA,zB,zC,zD,zE,zF,zG,reduceCtorEq,zH,zI,zJ,zK,zL,lB,hst,hv0,hb,a0e,a0b];all_goals refine nf ?_)|(refine stp ?_;intro K hK)|(apply hK;clear hK K)|refine stn ?_|(with_reducible first|refine⟨by omega,by omega,by omega,?_⟩|refine⟨_,hse,?_⟩|refine⟨by omega,_,hxe2,?_⟩|refine⟨_,a9t _,?_⟩)|refine stq ?_|(clear hK K))
    all_goals exact fun _ h=>h
   |true=>
    have e:Gr.dfs (bo l) (ks l) (f+1) st i.toNat=bif (Gr.lstW (Gr.dfs (bo l) (ks l) f) (st.set i.toNat 1) (x.kids.map Int.toNat)).1 then (true,(Gr.lstW (Gr.dfs (bo l) (ks l) f) (st.set i.toNat 1) (x.kids.map Int.toNat)).2.set i.toNat 2) else (false,(Gr.lstW (Gr.dfs (bo l) (ks l) f) (st.set i.toNat 1) (x.kids.map Int.toNat)).2):=by
     rw[Gr.dfs,← hv,hv0,hbo,hb,hks];rfl
    have hxm:x∈l:=List.mem_of_getElem? hx
    have hz1:=Gr.zer_set st i.toNat 1 (by decide) (by omega) (by rw[← hv];simpa using hv0)
    rw[e]
    refine PCB.ob Tryz.func100 Tryz.ntmps100 Tryz.results100 ?_
    repeat'(first|(simp only[go_sem,zA,zB,zC,zD,zE,zF,zG,reduceCtorEq,zH,zI,zJ,zK,zL,lB,hst,hv0,hb,a0e,a0b,a8W];all_goals refine nf ?_)|(refine stp ?_;intro K hK)|(apply hK;clear hK K)|refine stn ?_|(with_reducible first|refine⟨by omega,by omega,by omega,?_⟩|refine⟨_,hse,?_⟩|refine⟨by omega,_,hxe2,?_⟩|refine⟨_,a9t _,?_⟩)|refine stq ?_|fail)
    refine AWP.len 36 rfl fun hlen0=>?_
    (try rw[lB] at hlen0)
    refine AWP.range (S:=List Int) (x.kids) a0e (fun k s=>(38,I .i64 (k:Nat))::[]) (fun k s=>[(1000000, .row 1 (s.map a0e))]) [0,1,3,36,37] [1000001,1000002,1000003] (fun k s=>Is (Gr.lstW (Gr.dfs (bo l) (ks l) f) (st.set i.toNat 1) (x.kids.map Int.toNat)) (Gr.lstW (Gr.dfs (bo l) (ks l) f) s ((x.kids.drop k).map Int.toNat))∧s.length=l.length∧Gr.zer s<f) (st.set i.toNat 1) (by simp only[go_sem,zA,zB,zC,zD,zE,zF,zG,reduceCtorEq,zH,zI,zJ,zK,zL,a8W];exact Gh.tt []) ?_ ?_ ?_
    ·exact⟨rfl,by rw[List.length_set];exact hst,by omega⟩
    ·rintro k s y hlt hy hy' hbb ⟨hok,hsl,hzs⟩
     refine sts ?_
     have hym:=hr x hxm y (List.mem_of_getElem? hy)
     have hd:x.kids.drop k=y::x.kids.drop (k+1):=by
      obtain⟨hk,e⟩:=List.getElem?_eq_some_iff.1 hy
      rw[List.drop_eq_getElem_cons hk,e]
     have hI:=ih s y hym.1 hym.2 hsl hzs
     have hlen:=b14 (bo l) (ks l) f s y.toNat
     have hzer:=b4p (bo l) (ks l) f s y.toNat
     unfold Is at hok
     rw[hok,hd,List.map_cons,Gr.lstW]
     cases hd1:(Gr.dfs (bo l) (ks l) f s y.toNat).1 with
     |false=>
      repeat'(first|(simp only[go_sem,zA,zB,zC,zD,zE,zF,zG,reduceCtorEq,zH,zI,zJ,zK,zL,lB,hsl,hd1,hbb,a0e,Bx.puts];all_goals refine nf ?_)|(refine stp ?_;intro K hK)|(apply hK;clear hK K)|refine stn ?_|(with_reducible refine⟨by omega,a0e y,hy',?_⟩)|( refine Or.inr ⟨_,_,_,hI,⟨rfl,rfl,rfl,rfl,trivial⟩,rfl,rfl,?_⟩)|(clear hK K))
      all_goals exact fun _ h=>h
     |true=>
      repeat'(first|(simp only[go_sem,zA,zB,zC,zD,zE,zF,zG,reduceCtorEq,zH,zI,zJ,zK,zL,lB,hsl,hd1,hbb,a0e,Bx.puts];all_goals refine nf ?_)|(refine stp ?_;intro K hK)|(apply hK;clear hK K)|refine stn ?_|(with_reducible refine⟨by omega,a0e y,hy',?_⟩)|( refine Or.inr ⟨_,_,_,hI,⟨rfl,rfl,rfl,rfl,trivial⟩,rfl,rfl,?_⟩)|(clear hK K))
      all_goals(rw[a0d hlt hlen0])
      all_goals(refine⟨(Gr.dfs (bo l) (ks l) f s y.toNat).2,?_,Gh.tt []⟩)
      all_goals exact⟨rfl,by rw[hlen,hsl],by omega⟩
    ·rintro s hbb ⟨hok,hsl,hzs⟩
     refine sts ?_
     unfold Is at hok
     repeat'(first|(simp only[go_sem,zA,zB,zC,zD,zE,zF,zG,reduceCtorEq,zH,zI,zJ,zK,zL,lB,hsl,hbb,a0e,a8W];all_goals refine nf ?_)|(refine stp ?_;intro K hK)|(apply hK;clear hK K)|refine stn ?_|(with_reducible first|refine⟨by omega,by omega,by omega,?_⟩|refine⟨_,a0n a0e (b5l (l:=s) (i:=i.toNat) (by omega)),?_⟩)|(clear hK K))
     all_goals(rw[hok,List.drop_length,List.map_nil,Gr.lstW];exact⟨rfl,fun _ h=>h⟩)
def rhoC (k:Nat):Nat:=bif k==1000000 then 9 else bif k==1000001 then 3 else bif k==1000002 then 1 else 4
theorem c6k (l:List NodeD) (r:Int) (hr:InR l) (hll:l.length≤1000000) (f:Nat) (st:List Int) (i:Int) (h0:0≤i) (hi:i<(l.length:Int)) (hs:st.length=l.length) (hz:Gr.zer st<f):
  PCB zP 100 [I .i64 i, .one (.ptr 3 0), .one (.ptr 1 0), .one (.ptr 4 0)] [(9, .row 1 (st.map a0e)),(3, .cells [.own 9 l.length]),(1, .cells (tyB l r)),(4, .cells [.clo 100 [.ptr 3 0, .ptr 1 0, .ptr 4 0]])] (Bo (Gr.dfs (bo l) (ks l) f st i.toNat).1)
   [(9, .row 1 ((Gr.dfs (bo l) (ks l) f st i.toNat).2.map a0e)),(3, .cells [.own 9 l.length]),(1, .cells (tyB l r)),(4, .cells [.clo 100 [.ptr 3 0, .ptr 1 0, .ptr 4 0]])]:=
 (c6j l r hr hll f st i h0 hi hs hz).ren rhoC rfl rfl rfl rfl rfl rfl
def a6y (l:List NodeD):Bool:=(Gr.allW (bo l) (ks l) (l.length+1) (List.replicate l.length 0) 0 l.length).1
theorem c0N (n:Nat):List.replicate n [C.int .i64 0]=(List.replicate n (0:Int)).map a0e:=by rw[List.map_replicate];rfl
theorem c6l:mkT zP 22=some (3, .i64):=by kernel_rfl
theorem a7a (l:List NodeD) (r:Int) (hr:InR l) (hll:l.length≤1000000):PC zP 61 [Tt l r] (Bo (a6y l)):=by
 refine PCB.ob Tryz.func61 Tryz.ntmps61 Tryz.results61 ?_
 repeat'(first|( refine AWP.cloR (id:=3) (by kernel_rfl) rfl rfl rfl (by with_unfolding_all rfl) ?_)|(simp only[go_sem,zA,zB,zC,zD,zE,zF,zG,reduceCtorEq,zH,zI,zJ,zK,zL,lB,c6l,c0N,Int.toNat_natCast];all_goals refine nf ?_)|(refine stp ?_;intro K hK)|(apply hK;clear hK K)|refine stn ?_|(with_reducible refine⟨by omega,by omega,?_⟩)|fail)
 refine AWP.len 12 rfl fun hlen0=>?_
 (try rw[lB] at hlen0)
 refine AWP.range (S:=List Int) (l) a0c (fun k s=>(14,I .i64 (k:Nat))::[]) (fun k s=>[(9, .row 1 (s.map a0e))]) [4,13] [1,3,4] (fun k s=>Is (a6y l) (Gr.allW (bo l) (ks l) (l.length+1) s k (l.length-k)).1∧s.length=l.length) (List.replicate l.length 0) (by refine sts ?_;exact Gh.tt []) ?_ ?_ ?_
 ·exact⟨rfl,by simp⟩
 ·rintro k s y hlt hy hy' hbb ⟨hok,hsl⟩
  refine sts ?_
  have hI:=c6k l r hr hll (l.length+1) s (k:Int) (by omega) (by omega) hsl (by have:=Gr.zer_le s;omega)
  have hlen:=b14 (bo l) (ks l) (l.length+1) s (k:Int).toNat
  have hd:l.length-k=(l.length-(k+1))+1:=by omega
  unfold Is at hok
  rw[hd,Gr.allW] at hok
  rw[Int.toNat_natCast] at hI hlen
  cases hd1:(Gr.dfs (bo l) (ks l) (l.length+1) s k).1 with
  |false=>
   rw[hd1] at hok hI
   repeat'(first|(simp only[go_sem,zA,zB,zC,zD,zE,zF,zG,reduceCtorEq,zH,zI,zJ,zK,zL,lB,hsl,hbb,Bx.puts];all_goals refine nf ?_)|(refine stp ?_;intro K hK)|(apply hK;clear hK K)|refine stn ?_|( refine Or.inr ⟨_,_,_,hI,⟨rfl,rfl,rfl,rfl,trivial⟩,rfl,rfl,?_⟩)|(clear hK K))
   all_goals(refine a0m ?_;rw[hok];rfl)
  |true=>
   rw[hd1] at hok hI
   repeat'(first|(simp only[go_sem,zA,zB,zC,zD,zE,zF,zG,reduceCtorEq,zH,zI,zJ,zK,zL,lB,hsl,hbb,Bx.puts];all_goals refine nf ?_)|(refine stp ?_;intro K hK)|(apply hK;clear hK K)|refine stn ?_|( refine Or.inr ⟨_,_,_,hI,⟨rfl,rfl,rfl,rfl,trivial⟩,rfl,rfl,?_⟩)|(clear hK K))
   all_goals(rw[a0d hlt hlen0])
   all_goals(refine⟨(Gr.dfs (bo l) (ks l) (l.length+1) s k).2,?_,Gh.tt []⟩)
   all_goals exact⟨hok,by rw[hlen,hsl]⟩
 ·rintro s hbb ⟨hok,hsl⟩
  refine sts ?_
  unfold Is at hok
  rw[Nat.sub_self,Gr.allW] at hok
  repeat'(first|(simp only[go_sem,zA,zB,zC,zD,zE,zF,zG,reduceCtorEq,zH,zI,zJ,zK,zL,lB,hsl,hbb];all_goals refine nf ?_)|(refine stp ?_;intro K hK)|(apply hK;clear hK K)|refine stn ?_|(clear hK K))
  all_goals(refine a0m ?_;rw[hok])
theorem a9u (a b:ByteArray) (w:World):
  Calls zP 173 #[.string a, .string b] w fun e w'=>e= .returned (.int .i64 (Lib.compareBytes a.data.toList b.data.toList))∧w'=w:=by
 go_enter Tryz.func173,Tryz.ntmps173
 go_wp2
 rw[run_callFunc_extern Tryz.func183 (by kernel_rfl) (by kernel_rfl) (by kernel_rfl) (e:=Extern.BytealgCompare.compare) (by kernel_rfl),Lib.run_compareString]
 simp only[Result.andThen]
 rw[Oper.upon_value]
 go_wp2
 go_ret
 exact⟨rfl,rfl⟩
theorem b4q (a b:List UInt8):PC zP 173 [S a,S b] (I .i64 (Lib.compareBytes a b)):=by
  refine⟨⟨_,Tryz.func173,rfl,rfl⟩,fun M ν w vs hs hr=>?_⟩
  simp only[T.reps,T.rep,Cell.rep,C.rep] at hr
  obtain⟨v1,vs1,rfl,rfl,v2,vs2,rfl,rfl,rfl⟩:=hr
  refine Calls.mono (a9u ⟨a.toArray⟩ ⟨b.toArray⟩ w) ?_
  rintro e w' ⟨rfl,rfl⟩
  exact⟨_,M,rfl,Mem.ext.refl _ M,by simp only[T.rep,Cell.rep,C.rep],hs⟩
theorem a8P (a b:List UInt8):PC zP 150 [S a,S b] (I .i64 (Lib.compareBytes a b)):=by
  refine PCB.ob Tryz.func150 Tryz.ntmps150 Tryz.results150 ?_
  repeat'(first|(simp only[go_sem,zA,zB,zC,zD,zE,zF,zG,reduceCtorEq,zH,zI,zJ,zK,zL];all_goals refine nf ?_)|(refine stp ?_;intro K hK)|(apply hK;clear hK K)|refine stn ?_|(with_reducible refine⟨_,b4q _ _,?_⟩)|refine stq ?_|fail)
  all_goals(first|exact fun _ h=>absurd h List.not_mem_nil|refine a0m ?_)
  all_goals rfl
theorem a4r:∀ {a b:List UInt8},Lib.compareBytes a b=0↔a=b
 |[],[]=>by simp[Lib.compareBytes]
 |[],_::_=>by simp[Lib.compareBytes]
 |_::_,[]=>by simp[Lib.compareBytes]
 |x::a,y::b=>by
  unfold Lib.compareBytes
  by_cases h1:x<y
  ·simp only[h1,if_true]
   constructor
   ·intro h;cases h
   ·intro h;cases h;exact absurd h1 (by simp)
  ·by_cases h2:y<x
   ·simp only[h1,h2,if_true,if_false]
    constructor
    ·intro h;cases h
    ·intro h;cases h;exact absurd h2 (by simp)
   ·have hxy:x=y:=UInt8.le_antisymm (UInt8.not_lt.1 h2) (UInt8.not_lt.1 h1)
    subst hxy
    have ih:= @a4r a b
    simp only[h1,if_false,ih,List.cons.injEq,true_and]
def a1y (a b:Int):Int:=bif decide (a=0) then b else a
def a4s (a b:KeyD):Int:=a1y (a3V a.kind b.kind) (Lib.compareBytes a.text b.text)
theorem a7b (a b:KeyD):PC zP 139 [.st (a0k a), .st (a0k b)] (I .i64 (a4s a b)):=by
  refine PCB.ob Tryz.func139 Tryz.ntmps139 Tryz.results139 ?_
  cases hz0:decide (a3V a.kind b.kind=0)
  repeat'(first|(simp only[go_sem,zA,zB,zC,zD,zE,zF,zG,reduceCtorEq,zH,zI,zJ,zK,zL,a0k,hz0];all_goals refine nf ?_)|(refine stp ?_;intro K hK)|(apply hK;clear hK K)|refine stn ?_|(with_reducible first|refine⟨_,c0M _ _,?_⟩|refine⟨_,a8P _ _,?_⟩)|refine stq ?_|(clear hK K))
  all_goals(refine a0m ?_;simp only[a4s,a1y,hz0,cond_true,cond_false])
mutual
def valC:Val→Val→Int
 |⟨kind,num,text,kids,keys,ents,labels⟩,b=>a1y (a3V kind b.kind) (a1y (a3V num b.num) (a1y (Lib.compareBytes text b.text) (a1y (a1G a4s keys b.keys) (a1y (bif decide (a3V kids.length b.kids.length=0) then a7c kids b.kids else a3V kids.length b.kids.length)
  (a1y (bif decide (a3V ents.length b.ents.length=0) then a7U ents b.ents else a3V ents.length b.ents.length) (a1G Lib.compareBytes labels b.labels))))))
def a7c:List Val→List Val→Int
 |[],_=>0
 |x::a,l=>match l with
  |[]=>0
  |y::b=>bif decide (valC x y=0) then a7c a b else valC x y
def a4t:List Val×Bool×Val→List Val×Bool×Val→Int
  |(args,fails,result),e=>a1y (bif decide (a3V args.length e.1.length=0) then a7c args e.1 else a3V args.length e.1.length) (bif (fails==e.2.1) then valC result e.2.2 else (bif fails then -1 else 1))
def a7U:List (List Val×Bool×Val)→List (List Val×Bool×Val)→Int
 |[],_=>0
 |x::a,l=>match l with
  |[]=>0
  |y::b=>bif decide (a4t x y=0) then a7U a b else a4t x y
end
theorem b15:∀ a b:List Val,a7c a b=a1x valC a b
  |[],b=>by cases b<;>simp only[a7c,a7U,a1x]
  |x::a,[]=>by simp only[a7c,a1x]
  |x::a,y::b=>by simp only[a7c,a1x,b15 a b]
theorem b5m:∀ a b:List (List Val×Bool×Val),a7U a b=a1x a4t a b
  |[],b=>by cases b<;>simp only[a7c,a7U,a1x]
  |x::a,[]=>by simp only[a7U,a1x]
  |x::a,y::b=>by simp only[a7U,a1x,b5m a b]
theorem c3E (a b:Val):valC a b=a1y (a3V a.kind b.kind) (a1y (a3V a.num b.num) (a1y (Lib.compareBytes a.text b.text) (a1y (a1G a4s a.keys b.keys) (a1y (a1G valC a.kids b.kids) (a1y (a1G a4t a.ents b.ents) (a1G Lib.compareBytes a.labels b.labels)))))):=by
  cases a;simp only[valC,b15,b5m,a1G]
theorem b16 (a b:List Val×Bool×Val):a4t a b=a1y (a1G valC a.1 b.1) (bif (a.2.1==b.2.1) then valC a.2.2 b.2.2 else (bif a.2.1 then -1 else 1)):=by
  obtain⟨x,y,z⟩:=a;simp only[a4t,b15,a1G]
def c6m:List (List UInt8):=[[116,114,117,101],[102,97,108,115,101],[97],[111,107]]
def c7X:List (List UInt8):=[[109],[110]]
def c6n (s:Src):Dat:={ a20 with kind:=9,num:=a0h s 3,mod:=c7X.getD (a0h (a0f s 3) 2).toNat [],version:=1+a0h (a0f (a0f s 3) 2) 2,routine:=a0h (a0f (a0f (a0f s 3) 2) 2) 2 }
def b5n (k:Int) (s:Src):Dat×Src:=
  bif decide (k=1) then (c4S (c6m.getD (a0h s 4).toNat []),a0f s 4) else
  bif decide (k=2) then ({ a20 with kind:=2,text:=b0E s },a0f s 4) else
  bif decide (k=3) then ({ a20 with kind:=4,num:=a0h s 4 },a0f s 4) else
  bif decide (k=4) then ({ a20 with kind:=5 },s) else
  bif decide (k=5) then (c6n s,a0f (a0f (a0f (a0f s 3) 2) 2) 2) else
  bif decide (k=6) then (c2O (c6e s),a0f s 10) else
  (c2O (a0h s 5-1),a0f s 5)
def b78 (s:Src):Dat×Src:=b5n (bif decide (6<a0h s 12) then 0 else a0h s 12) (a0f s 12)
def c6o (n:Nat):NodeD:=⟨14,0,0,[],List.replicate n 1,[],0,0⟩
def c7Y:NodeD:=⟨2,0,0,[],[],[],0,0⟩
def c7Z (f:Dat):Dat:={ a20 with kind:=9,num:=f.num,kids:=[f],wrapped:=true,nodes:=[c6o (f.num+1).toNat,c7Y],inner:=[109],outer:=[110] }
def c3F (a b:Dat):Dat:={ a20 with kind:=7,kids:=[a,b] }
def c3G (f:Src→Dat×Src):Nat→Src→List Dat→List Dat×Src
  |0,s,acc=>(acc,s)
  |n+1,s,acc=>c3G f n (f s).2 (acc++[(f s).1])
def c6p (f:Src→Dat×Src):Nat→Src→Dat→Dat×Src
  |0,s,t=>(t,s)
  |n+1,s,t=>c6p f n (f s).2 (c3F (f s).1 t)
def c8C (f:Src→Dat×Src):Nat→Src→Dat→Dat×Src
  |0,s,m=>(m,s)
  |n+1,s,m=>c8C f n (f (a9s s).2).2 (putR m (a9s s).1 (f (a9s s).2).1).1
def c7w:Nat→Src→Dat×Src
 |0,s=>b78 s
 |d+1,s=>
  bif decide (a0h s 12≤6) then b5n (a0h s 12) (a0f s 12) else
  bif decide (a0h s 12=7) then (bif decide ((b78 (a0f s 12)).1.kind=9) then (c7Z (b78 (a0f s 12)).1,(b78 (a0f s 12)).2) else b78 (a0f s 12)) else
  bif decide (a0h s 12≤9) then
   ({ a20 with kind:=6,kids:=(c3G (c7w d) (a0h (a0f s 12) 4).toNat (a0f (a0f s 12) 4) []).1 },(c3G (c7w d) (a0h (a0f s 12) 4).toNat (a0f (a0f s 12) 4) []).2) else
  bif decide (a0h s 12=10) then c6p (c7w d) (1+a0h (a0f s 12) 2).toNat (a0f (a0f s 12) 2) { a20 with kind:=5 } else
  c8C (c7w d) (a0h (a0f s 12) 3).toNat (a0f (a0f s 12) 3) { a20 with kind:=8 }
theorem a7V {n:Nat}:decide ((0:Int)<((n+1:Nat):Int))=true:=by simp
theorem a2a {n:Nat} (hm:n≤1000000):IntKind.i64.wrap (((n+1:Nat):Int)-1)=(n:Int):=by rw[w64 (by omega)];omega
end Go.Proofs.YthbcdhfiibpeaaaGreat





namespace Go.Proofs.YthbcdhfiibpeaaaGreat
open Go Go.Sx
inductive Small:Dat→Prop
  |mk (d:Dat) (h1:d.kids.length≤1000000) (h2:d.keys.length≤1000000) (h:∀ k∈d.kids,Small k):Small d
theorem Small.kids {d:Dat} (h:Small d):d.kids.length≤1000000:=by cases h;assumption
theorem Small.keys {d:Dat} (h:Small d):d.keys.length≤1000000:=by cases h;assumption
theorem Small.kid {d:Dat} (h:Small d):∀ k∈d.kids,Small k:=by cases h;assumption
theorem a3y (l:List Val) (x:Val):l.map a0g++[a0g x]=(l++[x]).map a0g:=by simp
theorem b6A (a:Option Addr) (n cap:Nat) (hn:n≤cap) (w:World):Calls zP 104 #[.slice a n cap] w fun e w'=>e= .returned (.slice a n n)∧w'=w:=by
  go_enter Tryz.func104,Tryz.ntmps104
  go_wp2
  all_goals go_ret
  all_goals exact⟨rfl,rfl⟩
theorem c2v (rows:List (List C)):PC zP 104 [.one (.dat (.sl 1 rows))] (.one (.dat (.sl 1 rows))):=by
  refine⟨⟨_,Tryz.func104,by decide,rfl⟩,?_⟩
  intro M ν w vs hs hreps
  simp only[T.reps,T.rep,Cell.rep,C.rep] at hreps
  obtain⟨v,vs',rfl,⟨a,cap,mid,rfl,h1,h2,h3,h4⟩,rfl⟩:=hreps
  refine Calls.mono (b6A a rows.length cap h1 w) ?_
  rintro e w' ⟨rfl,rfl⟩
  refine⟨_,M,rfl,Mem.ext.refl _ M,?_,hs⟩
  simp only[T.rep,Cell.rep,C.rep]
  exact⟨a,rows.length,mid,rfl,Nat.le_refl _,Nat.le_trans h1 h2,h3,h4⟩
inductive NoNodes:Dat→Prop
  |mk (d:Dat) (h:d.nodes=[]) (hk:∀ k∈d.kids,NoNodes k):NoNodes d
theorem NoNodes.nodes {d:Dat} (h:NoNodes d):d.nodes=[]:=by cases h;assumption
theorem NoNodes.kid {d:Dat} (h:NoNodes d):∀ k∈d.kids,NoNodes k:=by cases h;assumption
theorem c2w (x y:KeyD):a6v zP 6 117 (a0k x) (a0k y)=some (decide (x.kind=y.kind)&&(decide (x.text=y.text)&&true)):=by kernel_rfl
theorem c6q (x y:KeyD):(decide (x.kind=y.kind)&&decide (x.text=y.text))=decide (x=y):=by
  obtain⟨a,b⟩:=x;obtain⟨c,d⟩:=y
  rw[← Bool.coe_iff_coe];simp
end Go.Proofs.YthbcdhfiibpeaaaGreat
namespace Go.Proofs.YthbcdhfiibpeaaaGreat
open Go Go.Sx
abbrev c6r (a:Int):Prop:= -9223372036854775808≤a∧a≤9223372036854775807
theorem c2x (x:Int):∃ k:Int,IntKind.i64.wrap x=x+k*18446744073709551616∧c6r (IntKind.i64.wrap x):=by
 have h:IntKind.i64.wrap x=Int.bmod x 18446744073709551616:=by
  unfold IntKind.wrap
  simp[IntKind.signed,IntKind.bits]
  rw[Int.bmod_def]
  split<;>split<;>omega
 rw[h]
 refine⟨-((x+9223372036854775808) / 18446744073709551616),?_,?_⟩
 ·rw[Int.bmod_def];split<;>omega
 ·rw[Int.bmod_def];split<;>(constructor<;>omega)
theorem c0O (x:Int) (a k:Int) (h:c6r a) (hx:x=a+k*18446744073709551616):IntKind.i64.wrap x=a:=by
  obtain⟨j,h1,h2⟩:=c2x x
  omega
theorem back (a b:Int) (ha:c6r a):IntKind.i64.wrap (IntKind.i64.wrap (a.tdiv b*b)+a.tmod b)=a:=by
  obtain⟨j,h1,h2⟩:=c2x (a.tdiv b*b)
  refine c0O _ a j ha ?_
  have:=Int.mul_tdiv_add_tmod a b
  rw[Int.mul_comm] at this
  omega
end Go.Proofs.YthbcdhfiibpeaaaGreat

namespace Go.Proofs.YthbcdhfiibpeaaaGreat
open Go Go.Sx
def Bare (d:Dat):Prop:=d.mod=[]∧d.version=0∧d.routine=0∧d.wrapped=false∧d.nodes=[]∧d.root=0∧d.inner=[]∧d.outer=[]
inductive Good:Dat→Prop
  |mk (d:Dat) (hn:c6r d.num) (h1:d.kids.length≤1000) (h2:d.keys.length≤1000) (hf:d.kind≠9→Bare d) (hk:∀ k∈d.kids,Good k):Good d
theorem Good.num {d:Dat} (h:Good d):c6r d.num:=by cases h;assumption
theorem Good.kids {d:Dat} (h:Good d):d.kids.length≤1000:=by cases h;assumption
theorem Good.keys {d:Dat} (h:Good d):d.keys.length≤1000:=by cases h;assumption
theorem Good.kid {d:Dat} (h:Good d):∀ k∈d.kids,Good k:=by cases h;assumption
structure GoodA (n:Nat) (a:PutA):Prop where
  k:a.keys.length≤n
  d:a.kids.length≤n
  g:∀ d∈a.kids,Good d
theorem GoodA.le {n m:Nat} {a:PutA} (h:GoodA n a) (hm:n≤m):GoodA m a:=⟨by have:=h.k;omega,by have:=h.d;omega,h.g⟩
end Go.Proofs.YthbcdhfiibpeaaaGreat

