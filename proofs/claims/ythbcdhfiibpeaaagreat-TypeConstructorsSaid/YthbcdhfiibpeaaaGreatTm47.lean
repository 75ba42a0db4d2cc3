/- Lemmas of the proof. -/
import Derived.Test.YthbcdhfiibpeaaaGreatTm35
import Derived.Test.YthbcdhfiibpeaaaGreatTm41
import Derived.Test.YthbcdhfiibpeaaaGreatTm46
open Go.Proofs.Tryz renaming prog→zP
open Nat renaming reduceBEq→zA,reduceBNe→zB,reduceAdd→zC,reduceSub→zD,reduceMul→zE,reduceLeDiff→zF,reduceLT→zG,reduceEqDiff→zH
open Int renaming reduceToNat→zI,reduceLE→zJ,reduceLT→zK,reduceEq→zL
open Bool renaming not_eq_true'→zM,not_eq_false'→zN
set_option linter.unusedSimpArgs false
set_option linter.unusedVariables false
set_option maxRecDepth 20000
set_option maxHeartbeats 64000000
namespace Go.Proofs.YthbcdhfiibpeaaaGreat
open Go Go.Sx
open Go.Ivl
def a5o:List Val→Val
  |[]=>a0Z
  |v::l=>a0X v (a5o l)
theorem b0m (l:List Val) (hl:l.length≤1000000):PC zP 32 [.one (.dat (.sl 7 (l.map a0g)))] (Vt (a5o l)):=by
 have hw0:IntKind.i64.wrap ((l.length:Int)-1)=(l.length:Int)-1:=by rw[w64 (by omega)]
 refine PCB.ob Tryz.func32 Tryz.ntmps32 Tryz.results32 ?_
 repeat'(first|(simp only[go_sem,zA,zB,zC,zD,zE,zF,zG,reduceCtorEq,zH,zI,zJ,zK,zL,List.length_map,hw0,a79];all_goals refine nf ?_)|(refine stp ?_;intro K hK)|(apply hK;clear hK K)|refine stn ?_|(with_reducible refine⟨_,a28,?_⟩)|refine stq ?_|fail)
 refine AWP.loopF (X:=Nat×Val) (fun y=>[(4,I .i64 ((y.1:Int)-1))]) (fun y=>[(3,c7K y.2)]) [0,2,3] [2] (fun y=>y.1≤l.length∧y.2=a5o (l.drop y.1)) (fun y=>y.1) ((l.length,a0Z)) (by refine sts ?_;exact Gh.tt []) ?_ ?_
 ·refine⟨Nat.le_refl _,?_⟩
  rw[List.drop_length];rfl
 rintro⟨i,w⟩ ⟨hi,hw⟩
 simp only at hi hw
 cases i with
 |zero=>
  have h0:decide ((0:Int)≤((0:Nat):Int)-1)=false:=by decide
  refine sts ?_
  repeat'(first|(simp only[go_sem,zA,zB,zC,zD,zE,zF,zG,reduceCtorEq,zH,zI,zJ,zK,zL,h0,a0a];all_goals refine nf ?_)|(refine stp ?_;intro K hK)|(apply hK;clear hK K)|refine stn ?_|(clear hK K))
  rw[List.drop_zero] at hw
  all_goals(refine a0m ?_;rw[← hw,Vt,a0a])
 |succ i=>
  have hsm:((i+1:Nat):Int)-1=(i:Int):=by omega
  have h0:decide ((0:Int)≤(i:Int))=true:=by rw[decide_eq_true_eq];omega
  have hwi:IntKind.i64.wrap ((i:Int)-1)=(i:Int)-1:=by rw[w64 (by omega)]
  have hil:i<l.length:=by omega
  obtain⟨x,hx⟩:∃ x,l[i]?= some x:=⟨l[i],List.getElem?_eq_getElem hil⟩
  have hx':=a0n a0g hx
  have hc:=a4A x w
  have hd:a5o (l.drop i)=a0X x w:=by
   rw[hw,List.drop_eq_getElem_cons hil,(List.getElem?_eq_some_iff.1 hx).2];rfl
  have hc2:PC zP 31 [.st (a0g x), .st [.int .i64 w.kind, .int .i64 w.num, .str w.text, .sl 7 (w.kids.map a0g), .sl 2 (w.keys.map a0k), .sl 9 (w.ents.map a0l), .sl 1 (w.labels.map Sx.encStr)]] (.st (a0g (a0X x w))):=by rw[← a0a w];exact hc
  rw[a0a (a0X x w)] at hc2
  simp only[hsm]
  refine sts ?_
  repeat'(first|(simp only[go_sem,zA,zB,zC,zD,zE,zF,zG,reduceCtorEq,zH,zI,zJ,zK,zL,h0,hwi,List.length_map];all_goals refine nf ?_)|(refine stp ?_;intro K hK)|(apply hK;clear hK K)|refine stn ?_|(with_reducible first|refine⟨(by omega:_≤_),a0g x,hx',?_⟩|refine⟨_,hc2,?_⟩)|(with_reducible refine AWP.segP (id:=5) 6 mixed (by kernel_rfl) fun K hK=>?_;simp only[List.take_succ_cons,List.take_zero,List.drop_succ_cons,List.drop_zero])|(clear hK K))
  all_goals(refine⟨(i,a0X x w),by simp only;omega,⟨by simp only;omega,by simp only;rw[hd]⟩,Gh.tt []⟩)
theorem c4O:PC zP 33 [.one (.dat (.sl 2 [[.int .i64 0, .int .i64 9]]))] (Yp (a5L [⟨0,9⟩])):=c2I [⟨0,9⟩] (fun r hr=>by simp only[List.mem_singleton] at hr;subst hr;unfold In6;decide) (by simp)
def awT:TyD:=([a1b 16 [1,2],a0G 9,a1b 12 [3,0],a1b 16 [4],b37 0 9],0)
theorem nf1:nf [⟨0,9⟩]=[⟨0,9⟩]:=by decide
theorem c66:a5L [⟨0,9⟩]=([a1b 16 [1],b37 0 9],0):=by
  unfold a5L
  rw[nf1]
  decide
theorem c67:a1O (a5L [⟨0,9⟩])=awT:=by
  rw[c66]
  decide
theorem b9t:wfP awT.1 0=0:=by decide
theorem b9u:TSm awT.1:=by
  refine⟨by decide,fun x hx=>?_,fun x hx=>?_⟩<;>(simp only[awT,List.mem_cons,List.not_mem_nil,or_false] at hx;rcases hx with rfl|rfl|rfl|rfl|rfl<;>simp[a1b,a0G,b37])
theorem b9v (n:Int):a4k awT.1 (a5o [a3h n]) 0=(decide (0≤n)&&decide (n≤9)):=by
  obtain⟨R,hR⟩:=Wf.of b9t
  have e0:∀ v,a4k awT.1 v 0=(a4k awT.1 v 1||(a4k awT.1 v 2||false)):=fun v=>by rw[a2s hR (by decide)];rfl
  have e1:∀ v:Val,a4k awT.1 v 1=decide (v.kind=5):=fun v=>by rw[a2s hR (by decide)];rfl
  have e2:∀ v:Val,a4k awT.1 v 2=(decide (v.kind=7)&&a2K (a4k awT.1) v.kids [3,0]):=fun v=>by rw[a2s hR (by decide)];rfl
  have e3:∀ v,a4k awT.1 v 3=(a4k awT.1 v 4||false):=fun v=>by rw[a2s hR (by decide)];rfl
  have e4:∀ v:Val,a4k awT.1 v 4=(decide (v.kind=1)&&(decide (0≤v.num)&&decide (v.num≤9))):=fun v=>by rw[a2s hR (by decide)];rfl
  simp[a5o,a0X,a0Z,a3h,a2K,e0,e1,e2,e3,e4]
theorem c1X (n:Int):a0C (a3h n)=true:=by rw[a6O _ rfl rfl];simp[a0P,a1K,a0O,a3t,b0C,a3X,a3Y,a3Z,a30,a3h,show a12 []=true from rfl]
theorem b1r (n:Int):a0C (a5o [a3h n])=true:=by
  rw[a5o,a5o,a5Q _ _ (.inl rfl),c1X,a6l];rfl
theorem a9b (v:Val) (l:List NodeD) (r:Int) (hsm:TSm l):PC zP 14 [.st [.int .i64 v.kind, .int .i64 v.num, .str v.text, .sl 7 (v.kids.map a0g), .sl 2 (v.keys.map a0k), .sl 9 (v.ents.map a0l), .sl 1 (v.labels.map Sx.encStr)], .st [.sl 8 (l.map a0c), .int .i64 r]] (Bo (b0K v l r r)):=by
  rw[← a0a];exact c1I v l r hsm
theorem a2n:PC zP 9 [] (Bo true):=by
 have c1:PC zP 33 [.one (.dat (.sl 2 [[.int .i64 0, .int .i64 9]]))] (Yp (a5L [⟨0,9⟩])):=c4O
 have c2:PC zP 38 [Yp (a5L [⟨0,9⟩])] (.st [.sl 8 (awT.1.map a0c), .int .i64 0]):=by
  have:=b5N (a5L [⟨0,9⟩]) (by rw[c66];exact⟨by simp,fun x hx=>by simp only[List.mem_cons,List.not_mem_nil,or_false] at hx;rcases hx with rfl|rfl<;>simp[a1b,b37],fun x hx=>by simp only[List.mem_cons,List.not_mem_nil,or_false] at hx;rcases hx with rfl|rfl<;>simp[a1b,b37]⟩)
  rw[c67] at this
  exact this
 have c3:PC zP 22 [.st [.sl 8 [[.int .i64 18, .int .i64 0, .int .i64 0, .str [], .sl 1 [[.int .i64 0]], .sl 4 [], .int .i64 0, .int .i64 0]], .int .i64 0]] (I .i64 3):=by
  have:=a8z [a1b 18 [0]] 0 ⟨by simp,fun x hx=>by simp only[List.mem_singleton] at hx;subst hx;simp[a1b],fun x hx=>by simp only[List.mem_singleton] at hx;subst hx;simp[a1b]⟩
  rw[show wfP [a1b 18 [0]] 0=3 by decide] at this
  exact this
 obtain⟨v,hv⟩:∃ v,v=a5o [a3h 3]:=⟨_,rfl⟩
 obtain⟨w,hw⟩:∃ w,w=a5o [a3h 10]:=⟨_,rfl⟩
 have c4:PC zP 32 [.one (.dat (.sl 7 [a0g (a3h 3)]))] (.st [.int .i64 v.kind, .int .i64 v.num, .str v.text, .sl 7 (v.kids.map a0g), .sl 2 (v.keys.map a0k), .sl 9 (v.ents.map a0l), .sl 1 (v.labels.map Sx.encStr)]):=by rw[← a0a,hv];exact b0m [a3h 3] (by simp)
 have c5:PC zP 32 [.one (.dat (.sl 7 [a0g (a3h 10)]))] (.st [.int .i64 w.kind, .int .i64 w.num, .str w.text, .sl 7 (w.kids.map a0g), .sl 2 (w.keys.map a0k), .sl 9 (w.ents.map a0l), .sl 1 (w.labels.map Sx.encStr)]):=by rw[← a0a,hw];exact b0m [a3h 10] (by simp)
 have c6:=a9b v awT.1 0 b9u
 have c7:=a9b w awT.1 0 b9u
 have m6:b0K v awT.1 0 0=true:=by
  unfold b0K
  rw[b9t,hv,b1r,b9v];decide
 have m7:b0K w awT.1 0 0=false:=by
  unfold b0K
  rw[b9t,hw,b1r,b9v];decide
 rw[m6] at c6
 rw[m7] at c7
 have c8:PC zP 43 [.st [.sl 8 (awT.1.map a0c), .int .i64 0]] (Bo true):=by
  have:=b6K awT.1 0 b9u
  rw[show varsT awT.1 0=[] by decide] at this
  exact this
 obtain⟨L,hL⟩:∃ L,L=awT.1.map a0c:=⟨_,rfl⟩
 rw[← hL] at c2 c6 c7 c8
 clear hv hw hL m6 m7
 refine PCB.ob Tryz.func9 Tryz.ntmps9 Tryz.results9 ?_
 repeat'(first|(simp only[go_sem,zA,zB,zC,zD,zE,zF,zG,reduceCtorEq,zH,zI,zJ,zK,zL];all_goals refine nf ?_)|(refine stp ?_;intro K hK)|(apply hK;clear hK K)|refine stn ?_|(with_reducible first|refine⟨_,c1,?_⟩|refine⟨_,c2,?_⟩|refine⟨_,c3,?_⟩|refine⟨_,c4,?_⟩|refine⟨_,c5,?_⟩|refine⟨_,c6,?_⟩|refine⟨_,c7,?_⟩|refine⟨_,c8,?_⟩|refine⟨_,b2d _,?_⟩)|refine stq ?_|fail)
 all_goals(first|exact fun _ h=>absurd h List.not_mem_nil|(refine a0m ?_;rfl))
end Go.Proofs.YthbcdhfiibpeaaaGreat
namespace Go.Proofs.YthbcdhfiibpeaaaGreat
open Go Go.Sx
def b0n (l:List Int):Src:=⟨l,0⟩
def a3o (l:List Int):List NodeD:=(b2n (1+a0h (b0n l) 7).toNat (a0f (b0n l) 7)).1
def a4e (l m:List Int):Val:=(b7b (a3o l) 4 0 (b0n m)).1
theorem b0o (l:List Int):1≤(1+a0h (b0n l) 7).toNat∧(1+a0h (b0n l) 7).toNat≤7:=by
  have:=a0p (b0n l) (n:=7) (by omega)
  omega
theorem b3I (l:List Int):(a3o l).length=(1+a0h (b0n l) 7).toNat:=a7y _ _
theorem b7e (l:List Int) (j:Nat) (x:NodeD) (h:(a3o l)[j]?= some x):GoodN (a3o l).length j x:=by
  have hn:=b0o l
  rw[b3I]
  exact a8c _ (by omega) _ j x h
theorem a9c (l:List Int):wfP (a3o l) 0=0:=by have hn:=b0o l;exact c1x _ (by omega) _
theorem a9d (l:List Int):TSm (a3o l):=by have hn:=b0o l;exact c1y _ (by omega) _
theorem a7A (l:List Int):1≤(a3o l).length∧(a3o l).length≤7:=by rw[b3I];exact b0o l
theorem a8j (l m:List Int):a0C (a4e l m)=true:=b9r _ _ _ _
theorem c4P (l m:List Int) (hl:(b0n l).ok) (hm:(b0n m).ok):PC zP 10 [.one (.dat (.sl 1 (l.map a0e))), .one (.dat (.sl 1 (m.map a0e)))] (.tup [Tt (a3o l) 0,Vt (a4e l m)]):=by
 have h7:=a0p (b0n l) (n:=7) (by omega)
 have hn:=b0o l
 obtain⟨n,hne⟩:∃ n,n=(1+a0h (b0n l) 7).toNat:=⟨_,rfl⟩
 have hw:IntKind.i64.wrap (1+a0h (b0n l) 7)=(n:Int):=by rw[w64 (by omega)];omega
 have hs1:=a0j hl 7
 have hT:=a2f.mk 11 (c4t _ hs1 n (by omega))
 have hle:=a7A l
 have hT2:a2f zP 44 [Sp 11,I .i64 n] 11 (a1d (a0f (b0n l) 7)) (.st [.sl 8 ((a3o l).map a0c), .int .i64 0]) (a1d (b2n n (a0f (b0n l) 7)).2):=by
  unfold a3o;rw[← hne];exact hT
 have hN:=(c2L (l:=a3o l) 0 (by omega) (b7e l) 4 (by omega)).k 19 0 (b0n m) hm (by omega) (by omega)
 have hN0:=a0v 11 (b0n l) hl 7 (by omega)
 refine PCB.ob Tryz.func10 Tryz.ntmps10 Tryz.results10 ?_
 repeat'(first|(simp only[go_sem,zA,zB,zC,zD,zE,zF,zG,reduceCtorEq,zH,zI,zJ,zK,zL,List.length_map,hw];all_goals refine nf ?_)|(refine stp ?_;intro K hK)|(apply hK;clear hK K)|refine stn ?_|(refine⟨11,_,_,_,hN0,rfl,?_⟩)|(refine⟨11,_,_,_,hT2,rfl,?_⟩)|(refine⟨19,_,_,_,hN,rfl,?_⟩)|(with_reducible refine AWP.genR (id:=4) [5,6,7] [19,4,5] mixed (by kernel_rfl) fun K hK=>?_;simp only[Bx.outs,Bx.drop,cond_true,cond_false,Nat.reduceBEq,go_sem])|refine stq ?_|fail)
 all_goals(refine a0m ?_;rfl)
end Go.Proofs.YthbcdhfiibpeaaaGreat



