/- Lemmas of the proof. -/
import Derived.Test.YthbcdhfiibpeaaaGreatTm29
import Derived.Test.YthbcdhfiibpeaaaGreatTm33
open Go.Proofs.Tryz renaming prog→zP
open List renaming length_map→lB,length_take→lQ
open Nat renaming reduceBEq→zA,reduceBNe→zB,reduceAdd→zC,reduceSub→zD,reduceMul→zE,reduceLeDiff→zF,reduceLT→zG,reduceEqDiff→zH
open Int renaming reduceToNat→zI,reduceLE→zJ,reduceLT→zK,reduceEq→zL
open Bool renaming not_eq_true'→zM,not_eq_false'→zN
set_option linter.unusedSimpArgs false
set_option linter.unusedVariables false
set_option maxRecDepth 20000
set_option maxHeartbeats 64000000
namespace Go.Proofs.YthbcdhfiibpeaaaGreat
open Go Go.Sx
theorem b8T (x:NodeD) (b:Int) (hk:x.kids.length≤1000000) (hf:x.fields.length≤1000000):PC zP 84 [.st [.int .i64 x.kind, .int .i64 x.lo, .int .i64 x.hi, .str x.text, .sl 1 (x.kids.map a0e), .sl 4 (x.fields.map a0i), .int .i64 x.r0, .int .i64 x.r1], .one (.dat (.int .i64 b))] (.st (a0c (upN b x))):=b8z x b hk hf
def emL (b:Nat) (l:List NodeD) (r:Int):List NodeD:=(a0x l r).map (upN b)
def emR (b:Nat) (l:List NodeD) (r:Int):Int:=upI b (a1M l r)
theorem c1u (l:List NodeD) (r:Int) (hl:TSm l):PC zP 83 [.st [.sl 8 (l.map a0c), .int .i64 r]] (.st [.sl 8 ((a0x l r).map a0c), .int .i64 (a1M l r)]):=b5C l r hl
theorem b6Q (l:List NodeD) (x:NodeD):l.map a0c++[[.int .i64 x.kind, .int .i64 x.lo, .int .i64 x.hi, .str x.text, .sl 1 (x.kids.map a0e), .sl 4 (x.fields.map a0i), .int .i64 x.r0, .int .i64 x.r1]]=(l++[x]).map a0c:=by rw[← a0b];simp
theorem b2o (ns l:List NodeD) (r:Int) (hl:TSm l) (hn:ns.length≤10000000):PCX zP 47 [.one (.own 900 ns.length),Tt l r] [(900, .row 8 (ns.map a0c))]
  (.tup [.one (.own 900 (ns++emL ns.length l r).length),I .i64 (emR ns.length l r)]) [(900, .row 8 ((ns++emL ns.length l r).map a0c))]:=by
 have hs:=a7n hl r
 have hsc:=c1u l r hl
 obtain⟨sl,hsl⟩:∃ sl,sl=a0x l r:=⟨_,rfl⟩
 have hsn:=hs.len
 have hsk:=hs.kids
 have hsf:=hs.fields
 have e1:emL ns.length l r=sl.map (upN ns.length):=by rw[emL,hsl]
 have e2:emR ns.length l r=upI ns.length (a1M l r):=rfl
 rw[← hsl] at hsc hsn hsk hsf
 rw[e1,e2]
 refine PCX.of_body Tryz.func47 rfl (by decide) Tryz.ntmps47 Tryz.results47 rfl rfl ?_
 refine AWP.ghQ ?_
 repeat'(first|(simp only[go_sem,zA,zB,zC,zD,zE,zF,zG,reduceCtorEq,zH,zI,zJ,zK,zL,lB];all_goals refine nf ?_)|(refine stp ?_;intro K hK)|(apply hK;clear hK K)|refine stn ?_|(with_reducible refine⟨_,hsc,?_⟩)|refine stq ?_|fail)
 refine AWP.len 14 rfl fun hlen0=>?_
 (try rw[lB] at hlen0)
 refine AWP.range (S:=List NodeD) (sl) a0c (fun k s=>(16,I .i64 (k:Nat))::[(0, .one (.own 900 s.length))]) (fun k s=>[(900, .row 8 (s.map a0c))]) [3,6,14,15] [3] (fun k s=>Is s (ns++(sl.take k).map (upN ns.length))) (ns) (by refine sts ?_;exact Gh.tt []) ?_ ?_ ?_
 ·simp[Is]
 ·intro k s y hlt hy hy' hb hok
  refine sts ?_
  have hym:=List.mem_of_getElem? hy
  have hsh:=b8T y ns.length (hsk y hym) (hsf y hym)
  have hslen:s.length≤11000000:=by rw[show s=_ from hok,List.length_append,lB,lQ];omega
  repeat'(first|(simp only[go_sem,zA,zB,zC,zD,zE,zF,zG,reduceCtorEq,zH,zI,zJ,zK,zL,lB,hb,a0b,b6Q];all_goals refine nf ?_)|(refine stp ?_;intro K hK)|(apply hK;clear hK K)|refine stn ?_|(with_reducible first|refine⟨(by omega:_≤_),a0c y,hy',?_⟩|refine⟨_,hsh,?_⟩|(refine⟨(by first|omega|(simp only[List.length_append,lB,lQ,List.length_drop,List.length_cons,List.length_nil,List.length_replicate];omega):_≤_),?_⟩))|refine stq ?_|(clear hK K))
  all_goals(rw[a0d hlt hlen0])
  all_goals(refine⟨s++[upN ns.length y],?_,Gh.tt [(900,25)]⟩)
  all_goals(unfold Is;rw[show s=_ from hok,List.take_succ_eq_append_getElem hlt,(List.getElem?_eq_some_iff.1 hy).2];simp)
 ·intro s hb hok
  refine sts ?_
  unfold Is at hok
  rw[List.take_length] at hok
  repeat'(first|(simp only[go_sem,zA,zB,zC,zD,zE,zF,zG,reduceCtorEq,zH,zI,zJ,zK,zL,lB,hb];all_goals refine nf ?_)|(refine stp ?_;intro K hK)|(apply hK;clear hK K)|refine stn ?_|(refine a0M ?_;intro K hK)|(clear hK K))
  refine⟨_,Gh.refl _,?_⟩
  simp only[go_sem,zA,zB,zC,zD,zE,zF,zG,reduceCtorEq,zH,zI,zJ,zK,zL,lB]
  subst hok
  exact⟨by first|trivial|rfl,fun x hx=>by
   rcases List.mem_cons.1 hx with rfl|hx
   ·exact List.mem_cons_self
   ·cases hx⟩
theorem c4u (b:Nat) (l:List NodeD) (r:Int):(emL b l r).length≤l.length+1:=by
  unfold emL a0x
  cases decide (wfP l r=0)<;>simp
abbrev TyD:=List NodeD×Int
def a1N (t:TyD):List C:=[.sl 8 (t.1.map a0c), .int .i64 t.2]
theorem b3p (x:TyD):a1N x=[.sl 8 (x.1.map a0c), .int .i64 x.2]:=rfl
@[go_sem] theorem c6S (x:TyD):a1k 2 (a1N x)=some (a1N x,[]):=by rfl
@[go_sem low] theorem c5B (x:TyD) (k:Nat):a1k k (a1N x)=a1k k [.sl 8 (x.1.map a0c), .int .i64 x.2]:=by rw[b3p]
@[go_sem] theorem c5C (x:TyD):a1k 2 ((a1N x).map Cell.dat)=some ((a1N x).map Cell.dat,[]):=by rfl
@[go_sem low] theorem c4v (x:TyD) (k:Nat):a1k k ((a1N x).map Cell.dat)=a1k k (([.sl 8 (x.1.map a0c), .int .i64 x.2]:List C).map Cell.dat):=by rw[b3p]
@[go_sem] theorem c5D (x:TyD):(a1N x).map C.soft=a1N x:=by rfl
@[go_sem] theorem c6T (x:TyD):a1C 2 (a1N x)=true:=by rfl
@[go_sem] theorem c5E (x:TyD):a1C 2 ((a1N x).map Cell.dat)=true:=by rfl
def a2N (s:List NodeD×List Int) (t:TyD):List NodeD×List Int:=(s.1++emL s.1.length t.1 t.2,s.2++[emR s.1.length t.1 t.2])
def ovS (k:Int) (ts:List TyD):List NodeD×List Int:=ts.foldl a2N ([a0G k],[])
def a1b (k:Int) (ks:List Int):NodeD:=⟨k,0,0,[],ks,[],0,0⟩
def overV (k:Int) (ts:List TyD):List NodeD:=(ovS k ts).1.set 0 (a1b k (ovS k ts).2)
structure TyS (B:Nat) (ts:List TyD):Prop where
  one:∀ t∈ts,TSm t.1∧t.1.length<B
  all:ts.length*B≤900000
theorem b2p {k:Int} {ts:List TyD} {i:Nat} {t:TyD} (h:ts[i]?= some t):ovS k (ts.take (i+1))=a2N (ovS k (ts.take i)) t:=a2T h
theorem a8b (k:Int) {B:Nat}:∀ (ts:List TyD),(∀ t∈ts,TSm t.1∧t.1.length<B)→(ovS k ts).1.length≤1+ts.length*B∧(ovS k ts).2.length=ts.length:=by
 intro ts
 unfold ovS
 have key:∀ (ts:List TyD) (s:List NodeD×List Int),(∀ t∈ts,TSm t.1∧t.1.length<B)→(ts.foldl a2N s).1.length≤s.1.length+ts.length*B∧(ts.foldl a2N s).2.length=s.2.length+ts.length:=by
  intro ts
  induction ts with
  |nil=>intro s _;simp
  |cons t ts ih=>
   intro s h
   have h1:=ih (a2N s t) fun u hu=>h u (List.mem_cons_of_mem _ hu)
   have h2:=(h t List.mem_cons_self).2
   have h3:=c4u s.1.length t.1 t.2
   have h4:(a2N s t).1.length=s.1.length+(emL s.1.length t.1 t.2).length:=by simp[a2N]
   have h5:(a2N s t).2.length=s.2.length+1:=by simp[a2N]
   rw[List.foldl_cons,List.length_cons,Nat.succ_mul]
   omega
 intro h
 have:=key ts ([a0G k],[]) h
 simpa using this
theorem b8U (l:List NodeD) (k:Int) (ks:List Int) (h:l[0]?= some (a0G k)):(l.map a0c).set 0 [C.int .i64 k,C.int .i64 0,C.int .i64 0,C.str [],C.sl 1 (ks.map a0e),C.sl 4 [],C.int .i64 0,C.int .i64 0]=(l.set 0 (a1b k ks)).map a0c:=by rw[List.map_set];rfl
theorem b5L (k:Int) (ts:List TyD):(ovS k ts).1[0]?= some (a0G k):=by
 unfold ovS
 have key:∀ (ts:List TyD) (s:List NodeD×List Int),s.1[0]?= some (a0G k)→(ts.foldl a2N s).1[0]?= some (a0G k):=by
  intro ts
  induction ts with
  |nil=>intro s h;exact h
  |cons t ts ih=>
   intro s h
   rw[List.foldl_cons]
   refine ih _ ?_
   have:0<s.1.length:=(List.getElem?_eq_some_iff.1 h).1
   show (s.1++_)[0]?= _
   rw[List.getElem?_append_left this,h]
 exact key ts _ rfl
theorem b8V (k:Int) (ts:List TyD) {B:Nat} (hts:TyS B ts):PC zP 53 [I .i64 k, .one (.dat (.sl 2 (ts.map a1N)))] (Tt (overV k ts) 0):=by
 have hall:=hts.all
 have htl:ts.length≤900000∨B=0:=by
  rcases Nat.eq_zero_or_pos B with h|h
  ·exact .inr h
  ·left;exact Nat.le_trans (Nat.le_mul_of_pos_right _ h) hall
 refine PCB.ob Tryz.func53 Tryz.ntmps53 Tryz.results53 ?_
 repeat'(first|(simp only[go_sem,zA,zB,zC,zD,zE,zF,zG,reduceCtorEq,zH,zI,zJ,zK,zL,lB];all_goals refine nf ?_)|(refine stp ?_;intro K hK)|(apply hK;clear hK K)|refine stn ?_|(with_reducible (refine Or.inr (show a1u _ 12 _ _ _ _ _ _ from ?_);unfold a1u;with_reducible refine Or.inr ?_;simp only[a2D,go_sem,zA,zB,zC,zD,zE,zF,zG,reduceCtorEq,zH,zI,zJ,zK,zL,lB]))|fail)
 refine AWP.gh (Gh.nilrow 6 901 rfl rfl rfl rfl) ?_
 refine AWP.len 13 rfl fun hlen0=>?_
 (try rw[lB] at hlen0)
 refine AWP.range (S:=List NodeD×List Int) (ts) a1N (fun i s=>(15,I .i64 (i:Nat))::[(5, .one (.own 12 s.1.length)),(6, .one (.own 901 s.2.length))]) (fun i s=>[(12, .row 8 (s.1.map a0c)),(901, .row 1 (s.2.map a0e))]) [4,13,14] [4] (fun i s=>Is s (ovS k (ts.take i))) (([a0G k],[])) (by refine sts ?_;exact Gh.tt []) ?_ ?_ ?_
 ·rfl
 ·intro i s t hlt ht ht' hb hok
  refine sts ?_
  unfold Is at hok
  have htm:=List.mem_of_getElem? ht
  have h1:=hts.one t htm
  have hil:i<ts.length:=(List.getElem?_eq_some_iff.1 ht).1
  have hlen:=a8b k (B:=B) (ts.take i) fun u hu=>hts.one u (List.mem_of_mem_take hu)
  have hmul:(ts.take i).length*B≤ts.length*B:=Nat.mul_le_mul_right _ (by rw[lQ];omega)
  rw[← hok] at hlen
  have hs2:s.2.length≤900000:=by rw[hlen.2,lQ];omega
  have hix:=(b2o s.1 t.1 t.2 h1.1 (by omega)).ren (fun _=>12) 1000 (args1:=[.one (.own 12 s.1.length), .st [.sl 8 (t.1.map a0c), .int .i64 t.2]]) (B1:=[(12, .row 8 (s.1.map a0c))])
   (r1:=(.tup [.one (.own 1900 (s.1++emL s.1.length t.1 t.2).length), .one (.dat (.int .i64 (emR s.1.length t.1 t.2)))])) (B1':=[(1900, .row 8 ((s.1++emL s.1.length t.1 t.2).map a0c))]) rfl rfl rfl rfl rfl
  repeat'(first|(simp only[go_sem,zA,zB,zC,zD,zE,zF,zG,reduceCtorEq,zH,zI,zJ,zK,zL,lB,hb,a1N,b8d];all_goals refine nf ?_)|(refine stp ?_;intro K hK)|(apply hK;clear hK K)|refine stn ?_|(with_reducible first|refine⟨(by omega:_≤_),a1N t,ht',?_⟩|(refine⟨(by first|omega|(simp only[List.length_append,lB,lQ,List.length_drop,List.length_cons,List.length_nil,List.length_replicate];omega):_≤_),?_⟩))|(refine Or.inr (Or.inr (a8H.mk hix (by repeat(first|exact trivial|refine And.intro rfl ?_)) (by rfl) (by first|rfl|(simp only[a6j,List.all_cons,List.all_nil,go_sem,zA,zB,zC,zD,zE,zF,zG,reduceCtorEq,zH,zI,zJ,zK,zL,lB,hb,a1N,b8d]<;>rfl)) (by rfl) (by rfl) ?_)))|refine stq ?_|(clear hK K))
  all_goals(rw[a0d hlt hlen0])
  all_goals(refine⟨a2N s t,?_,Gh.tt [(12,1900),(901,28)]⟩)
  all_goals(unfold Is;rw[b2p ht,hok])
 ·intro s hb hok
  refine sts ?_
  unfold Is at hok
  rw[List.take_length] at hok
  have hlen:=a8b k (B:=B) ts hts.one
  have hhd:=b5L k ts
  rw[← hok] at hhd hlen
  have hh':=a0n a0c hhd
  have hpos:0<s.1.length:=(List.getElem?_eq_some_iff.1 hhd).1
  refine AWP.gh (Gh.fz 901) ?_
  simp only[go_sem,zA,zB,zC,zD,zE,zF,zG,reduceCtorEq,zH,zI,zJ,zK,zL,lB]
  repeat'(first|(refine atR 11 (Gh.freeze 12 (by rfl) (by rfl) (by simp only[go_sem,zA,zB,zC,zD,zE,zF,zG,reduceCtorEq,zH,zI,zJ,zK,zL,lB,hb,a0b,lB,List.length_set]) (by simp only[go_sem,zA,zB,zC,zD,zE,zF,zG,reduceCtorEq,zH,zI,zJ,zK,zL,lB,hb,a0b,lB,List.length_set])) ?_;simp only[frE,frB,Bx.drop,go_sem,zA,zB,zC,zD,zE,zF,zG,reduceCtorEq,zH,zI,zJ,zK,zL,lB,hb,a0b])|(simp only[go_sem,zA,zB,zC,zD,zE,zF,zG,reduceCtorEq,zH,zI,zJ,zK,zL,lB,hb,a0b];all_goals refine nf ?_)|(refine stp ?_;intro K hK)|(apply hK;clear hK K)|refine stn ?_|(with_reducible first|refine⟨a0c (a0G k),hh',?_⟩|refine⟨(by omega:_≤_),(by omega:_<_),?_⟩)|(clear hK K))
  have e:=b8U s.1 k s.2 hhd
  refine⟨?_,fun x hx=>by cases hx⟩
  show T.st [C.sl 8 ((s.1.map a0c).set 0 [C.int .i64 k,C.int .i64 0,C.int .i64 0,C.str [],C.sl 1 (s.2.map a0e),C.sl 4 [],C.int .i64 0,C.int .i64 0]),C.int .i64 0]=_
  rw[e]
  unfold overV
  rw[← hok]
def a7w:TyD:=([a0G 1],0)
def a1T (k:Int) (ts:List TyD):TyD:=(overV k ts,0)
def a1e (ts:List TyD):TyD:=bif decide ((ts.length:Int)=0) then a7w else a1T 16 ts
def a2z (s:List UInt8):TyD:=bif a0A s then ([a09 19 s],0) else a7w
abbrev Yp (t:TyD):T:= .st (a1N t)
abbrev Tys (ts:List TyD):T:= .one (.dat (.sl 2 (ts.map a1N)))
theorem b5M:PC zP 25 [] (.st [.sl 8 ([a0G 1].map a0c), .int .i64 0]):=c2G
theorem b8W (k:Int) (ts:List TyD) {B:Nat} (hts:TyS B ts):PC zP 53 [I .i64 k,Tys ts] (.st [.sl 8 ((overV k ts).map a0c), .int .i64 0]):=b8V k ts hts
theorem b8X (ts:List TyD) {B:Nat} (hts:TyS B ts):PC zP 18 [Tys ts] (Yp (a1e ts)):=by
 unfold a1e
 cases h:decide ((ts.length:Int)=0)
 all_goals
  refine PCB.of_body Tryz.func18 rfl (by decide) Tryz.ntmps18 Tryz.results18 rfl rfl rfl ?_ rfl rfl
  repeat'(first|(simp only[go_sem,zA,zB,zC,zD,zE,zF,zG,reduceCtorEq,zH,zI,zJ,zK,zL,lB,h];all_goals fail_if_success guard_target=ₛ False)|(with_reducible first|((first|refine seqVC_stepN rfl ?_|refine AWP.seq ?_|refine AWP.seqR (by kernel_rfl) ?_);intro K hK)|(apply hK;clear hK K)|refine AWP.block ?_|(refine AWP.cond (by with_unfolding_all rfl) ?_ ?_<;>intro h<;>(try simp only[zM,zN] at h)<;>try exact absurd h (by decide))|refine AWP.skip ?_|refine AWP.ret ?_|refine AWP.exit ?_|refine⟨_,b5M,?_⟩|refine⟨_,b8W 16 ts hts,?_⟩|refine Or.inl ?_)|(clear hK K))
  all_goals(refine a0m ?_;rfl)
theorem a6i (s:List UInt8):PC zP 24 [S s] (Yp (a2z s)):=by
 have h1:PC zP 66 [.st [.int .i64 19, .int .i64 0, .int .i64 0, .str s, .sl 1 [], .sl 4 [], .int .i64 0, .int .i64 0]] (.st [.sl 8 ([a09 19 s].map a0c), .int .i64 0]):=a7m (a09 19 s)
 unfold a2z
 cases h:a0A s
 all_goals
  refine PCB.of_body Tryz.func24 rfl (by decide) Tryz.ntmps24 Tryz.results24 rfl rfl rfl ?_ rfl rfl
  repeat'(first|(simp only[go_sem,zA,zB,zC,zD,zE,zF,zG,reduceCtorEq,zH,zI,zJ,zK,zL,h];all_goals fail_if_success guard_target=ₛ False)|(with_reducible first|((first|refine seqVC_stepN rfl ?_|refine AWP.seq ?_|refine AWP.seqR (by kernel_rfl) ?_);intro K hK)|(apply hK;clear hK K)|refine AWP.block ?_|(refine AWP.cond (by with_unfolding_all rfl) ?_ ?_<;>intro h<;>(try simp only[zM,zN] at h)<;>try exact absurd h (by decide))|refine AWP.skip ?_|refine AWP.ret ?_|refine AWP.exit ?_|refine⟨_,a4u s,?_⟩|refine⟨_,b5M,?_⟩|refine⟨_,h1,?_⟩|refine Or.inl ?_)|(clear hK K))
  all_goals(refine a0m ?_;rfl)
def a1O (t:TyD):TyD:=(([a1b 16 [1,2],a0G 9,a0G 12]++emL 3 t.1 t.2).set 2 (a1b 12 [emR 3 t.1 t.2,0]),0)
theorem c1v (l:List NodeD) (ks:List Int) (h:l[2]?= some (a0G 12)):(l.map a0c).set 2 [C.int .i64 12,C.int .i64 0,C.int .i64 0,C.str [],C.sl 1 (ks.map a0e),C.sl 4 [],C.int .i64 0,C.int .i64 0]=(l.set 2 (a1b 12 ks)).map a0c:=by rw[List.map_set];rfl
theorem b5N (t:TyD) (ht:TSm t.1):PC zP 38 [Yp t] (Yp (a1O t)):=by
 have hix:=(b2o [a1b 16 [1,2],a0G 9,a0G 12] t.1 t.2 ht (by simp)).ren (fun _=>9) 1000 (args1:=[.one (.own 9 3), .st [.sl 8 (t.1.map a0c), .int .i64 t.2]]) (B1:=[(9, .row 8 ([a1b 16 [1,2],a0G 9,a0G 12].map a0c))])
  (r1:=(.tup [.one (.own 1900 ([a1b 16 [1,2],a0G 9,a0G 12]++emL 3 t.1 t.2).length), .one (.dat (.int .i64 (emR 3 t.1 t.2)))])) (B1':=[(1900, .row 8 (([a1b 16 [1,2],a0G 9,a0G 12]++emL 3 t.1 t.2).map a0c))]) rfl rfl rfl rfl rfl
 obtain⟨L,hL⟩:∃ L,L=[a1b 16 [1,2],a0G 9,a0G 12]++emL 3 t.1 t.2:=⟨_,rfl⟩
 have h2:L[2]?= some (a0G 12):=by rw[hL];rfl
 have h2':=a0n a0c h2
 have hpos:2<L.length:=(List.getElem?_eq_some_iff.1 h2).1
 have hl3:[a1b 16 [1,2],a0G 9,a0G 12].map a0c=[[.int .i64 16, .int .i64 0, .int .i64 0, .str [], .sl 1 [[.int .i64 1],[.int .i64 2]], .sl 4 [], .int .i64 0, .int .i64 0],[.int .i64 9, .int .i64 0, .int .i64 0, .str [], .sl 1 [], .sl 4 [], .int .i64 0, .int .i64 0],[.int .i64 12, .int .i64 0, .int .i64 0, .str [], .sl 1 [], .sl 4 [], .int .i64 0, .int .i64 0]]:=rfl
 rw[hl3,← hL] at hix
 refine PCB.of_body Tryz.func38 rfl (by decide) Tryz.ntmps38 Tryz.results38 rfl rfl rfl ?_ rfl rfl
 repeat'(first|(refine atR 4 (Gh.freeze 1900 (by rfl) (by rfl) (by simp only[go_sem,zA,zB,zC,zD,zE,zF,zG,reduceCtorEq,zH,zI,zJ,zK,zL,a1N,lB,a0b,lB,List.length_set]) (by simp only[go_sem,zA,zB,zC,zD,zE,zF,zG,reduceCtorEq,zH,zI,zJ,zK,zL,a1N,lB,a0b,lB,List.length_set])) ?_;simp only[frE,frB,Bx.drop,go_sem,zA,zB,zC,zD,zE,zF,zG,reduceCtorEq,zH,zI,zJ,zK,zL,a1N,lB,a0b])|(simp only[go_sem,zA,zB,zC,zD,zE,zF,zG,reduceCtorEq,zH,zI,zJ,zK,zL,a1N,lB,a0b];all_goals fail_if_success guard_target=ₛ False)|(with_reducible first|((first|refine seqVC_stepN rfl ?_|refine AWP.seq ?_|refine AWP.seqR (by kernel_rfl) ?_);intro K hK)|(apply hK;clear hK K)|refine AWP.block ?_|(refine AWP.cond (by with_unfolding_all rfl) ?_ ?_<;>intro h<;>(try simp only[zM,zN] at h)<;>try exact absurd h (by decide))|refine AWP.skip ?_|refine AWP.ret ?_|refine AWP.exit ?_|(refine Or.inr (show a1u _ 9 _ _ _ _ _ _ from ?_);unfold a1u;with_reducible refine Or.inr ?_;simp only[a2D,go_sem,zA,zB,zC,zD,zE,zF,zG,reduceCtorEq,zH,zI,zJ,zK,zL,a1N,lB,a0b])|refine⟨(by omega:_≤_),a0c (a0G 12),h2',?_⟩|refine⟨a0c (a0G 12),h2',?_⟩|refine⟨(by omega:_≤_),(by omega:_≤_),(by omega:_<_),?_⟩|refine⟨(by omega:_≤_),(by omega:_<_),?_⟩|refine⟨(by omega:_<_),?_⟩)|(refine Or.inr (Or.inr (a8H.mk hix (by repeat(first|exact trivial|refine And.intro rfl ?_)) (by rfl) (by first|rfl|(simp only[a6j,List.all_cons,List.all_nil,go_sem,zA,zB,zC,zD,zE,zF,zG,reduceCtorEq,zH,zI,zJ,zK,zL,a1N,lB,a0b]<;>rfl)) (by rfl) (by rfl) ?_)))|(with_reducible first|refine Or.inl ?_)|(clear hK K))
 have e:=c1v L [emR 3 t.1 t.2,0] h2
 refine⟨?_,fun x hx=>by cases hx⟩
 show T.st [C.sl 8 ((L.map a0c).set 2 [C.int .i64 12,C.int .i64 0,C.int .i64 0,C.str [],C.sl 1 [[C.int .i64 (emR 3 t.1 t.2)],[C.int .i64 0]],C.sl 4 [],C.int .i64 0,C.int .i64 0]),C.int .i64 0]=Yp (a1O t)
 have e':(L.map a0c).set 2 [C.int .i64 12,C.int .i64 0,C.int .i64 0,C.str [],C.sl 1 [[C.int .i64 (emR 3 t.1 t.2)],[C.int .i64 0]],C.sl 4 [],C.int .i64 0,C.int .i64 0]=(L.set 2 (a1b 12 [emR 3 t.1 t.2,0])).map a0c:=e
 rw[e']
 unfold a1O
 rw[← hL];rfl
structure GoodN (n i:Int) (x:NodeD):Prop where
  plain:a1J x=true
  kind:a0z x=true
  edge:∀ e∈edgeL x,0≤e∧e<n
  on:a3x x.kind=true→∀ k∈x.kids,i<k
  kid:x.kids.length≤10
  fld:x.fields.length≤3
theorem b8Y {a n:Int} (han:a<n) (m:Nat) (s:Src):∀ x∈(a0Q (b36 a n) m s).1,a≤x∧x<n:=by
  refine a5J (p:=fun x=>a≤x∧x<n) (fun s=>?_) m s
  have:=a0p s (n:=n-a) (by omega)
  show a≤a+_∧a+_<n
  omega
theorem b8Z (k:Int) (l:List Int) (hk:decide (k=13)=false):edgeL (a7v k l)=l:=by
  unfold edgeL a7v;simp[hk]
theorem a4E {n i a k:Int} (ha:0≤a) (han:a<n) (m:Nat) (s:Src) (hm:m≤10) (hk:decide (k=13)=false) (hp:∀ l:List Int,a1J (a7v k l)=true) (hv:∀ l:List Int,l.length=m→a0z (a7v k l)=true) (ho:a3x k=true→i<a):
  GoodN n i (a7v k (a0Q (b36 a n) m s).1) where
 plain:=hp _
 kind:=hv _ (a7t _ m s)
 edge:=by
  rw[b8Z k _ hk]
  intro e he
  have:=b8Y han m s e he
  omega
 on:=fun hb x hx=>by
  have:=b8Y han m s x hx
  have:=ho hb
  omega
 kid:=by show (a0Q (b36 a n) m s).1.length≤10;rw[a7t];exact hm
 fld:=Nat.zero_le _
theorem a2U:∀ k:Int,k=10∨k=12∨k=14∨k=16∨k=17∨k=18→∀ l:List Int,a1J (a7v k l)=true:=by
  intro k hk l
  rcases hk with rfl|rfl|rfl|rfl|rfl|rfl<;>simp[a1J,a5v,a33,a7v]
theorem a7x (n i k:Int) (hp:a1J (a0G k)=true) (hv:a0z (a0G k)=true) (h13:decide (k=13)=false):GoodN n i (a0G k) where
  plain:=hp
  kind:=hv
  edge:=by unfold edgeL a0G;simp only[h13];simp
  on:=fun _ x hx=>by simp[a0G] at hx
  kid:=Nat.zero_le _
  fld:=Nat.zero_le _
theorem a91 (n i k:Int) (t:List UInt8) (hp:a1J (a09 k t)=true) (hv:a0z (a09 k t)=true) (h13:decide (k=13)=false):GoodN n i (a09 k t) where
  plain:=hp
  kind:=hv
  edge:=by unfold edgeL a09;simp only[h13];simp
  on:=fun _ x hx=>by simp[a09] at hx
  kid:=Nat.zero_le _
  fld:=Nat.zero_le _
theorem a5K {α:Type} {l:List α} {d:α} {v:Int} (h:0≤v∧v<(l.length:Int)):l.getD v.toNat d∈l:=by
  have hv:v.toNat<l.length:=by omega
  rw[List.getD_eq_getElem?_getD,List.getElem?_eq_getElem hv]
  exact List.getElem_mem hv
theorem c1w:∀ a<5,∀ b<5,a≤b→b1n.getD a 0≤b1n.getD b 0:=by decide
theorem b80 (n:Int) (hn:1≤n) (s:Src):b03 none (a7u n a1l s).1=true∧(∀ f∈(a7u n a1l s).1,0≤f.node∧f.node<n)∧(a7u n a1l s).1.length≤3:=by
 have one:∀ (k:KeyD) (s:Src),(b4I n k s).1=[]∨ ∃ a b,(b4I n k s).1=[⟨k,a,b⟩]∧0≤a∧a<n:=by
  intro k s
  unfold b4I
  cases decide (a0h s 2=1)
  ·exact .inl rfl
  ·have:=a0p (a0f s 2) (n:=n) hn
   exact .inr ⟨_,_,rfl,this.1,this.2⟩
 unfold a1l
 simp only[a7u,List.append_nil]
 have v1:a0s ⟨0,[97]⟩=true:=by decide
 have v2:a0s ⟨0,[98]⟩=true:=by decide
 have v3:a0s ⟨1,[115]⟩=true:=by decide
 have c12:decide (a4s ⟨0,[97]⟩ ⟨0,[98]⟩≥0)=false:=by decide
 have c13:decide (a4s ⟨0,[97]⟩ ⟨1,[115]⟩≥0)=false:=by decide
 have c23:decide (a4s ⟨0,[98]⟩ ⟨1,[115]⟩≥0)=false:=by decide
 rcases one ⟨0,[97]⟩ s with e1|⟨a1,b1,e1,h1⟩<;>rcases one ⟨0,[98]⟩ (b4I n ⟨0,[97]⟩ s).2 with e2|⟨a2,b2,e2,h2⟩<;>rcases one ⟨1,[115]⟩ (b4I n ⟨0,[98]⟩ (b4I n ⟨0,[97]⟩ s).2).2 with e3|⟨a3,b3,e3,h3⟩<;>rw[e1,e2,e3]<;>
  (refine⟨by simp only[List.nil_append,List.cons_append,b03,v1,v2,v3,c12,c13,c23,Bool.not_true,Bool.or_false,cond_false],fun f hf=>?_,by simp⟩)<;>simp only[List.nil_append,List.cons_append,List.mem_cons,List.not_mem_nil,or_false] at hf
 all_goals(rcases hf with rfl|rfl|rfl<;>assumption)
theorem b81 (i n:Int) (s:Src) (hi:0≤i) (hin:i<n) (hn:n≤1000):GoodN n i (a8a i n s).1:=by
 unfold a8a
 have hv:=a0p s (n:=a0o i n) (a1a i n).1
 have hm:=a1a i n
 generalize a0f s (a0o i n)=t
 have hb:14≤a0h s (a0o i n)→i+1<n:=by
  intro h
  rcases Decidable.em (i=n-1) with h2|h2
  ·exfalso
   rw[show a0o i n=14 from by unfold a0o;rw[decide_eq_true h2];rfl] at hv h
   omega
  ·omega
 generalize a0h s (a0o i n)=k at*
 have hk:k=0∨k=1∨k=2∨k=3∨k=4∨k=5∨k=6∨k=7∨k=8∨k=9∨k=10∨k=11∨k=12∨k=13∨k=14∨k=15∨k=16∨k=17:=by omega
 have p10:=a2U 10 (by omega)
 have p12:=a2U 12 (by omega)
 have p14:=a2U 14 (by omega)
 have p16:=a2U 16 (by omega)
 have p17:=a2U 17 (by omega)
 have p18:=a2U 18 (by omega)
 rcases hk with rfl|rfl|rfl|rfl|rfl|rfl|rfl|rfl|rfl|rfl|rfl|rfl|rfl|rfl|rfl|rfl|rfl|rfl<;>simp only[a3B,Int.reduceEq,decide_true,decide_false,cond_true,cond_false,Bool.or_true,Bool.true_or,Bool.or_false,a3k]
 ·have h1:=a0p t (n:=5) (by omega)
  have h2:=a0p (a0f t 5) (n:=5-a0h t 5) (by omega)
  have hr:=c1w (a0h t 5).toNat (by omega) (a0h t 5+a0h (a0f t 5) (5-a0h t 5)).toNat (by omega) (by omega)
  refine⟨by simp[a1J,a5v,a33,b37],by simp only[a0z,b37,Int.reduceEq,decide_true,decide_false,Bool.or_false,cond_false,cond_true];exact decide_eq_true hr,by simp[edgeL,b37],fun _ x hx=>by simp[b37] at hx,Nat.zero_le _,Nat.zero_le _⟩
 ·have ha:∀ x∈atomL,a2g x=true:=by decide
  have hx:=ha _ (a5K (d:=[]) (a0p t (n:=4) (by omega)))
  exact a91 n i 6 _ (by simp[a1J,a5v,a33,a09]) (by simp only[a0z,a09,Int.reduceEq,decide_true,decide_false,Bool.or_false,cond_false,cond_true];exact hx) rfl
 ·exact a7x n i 7 rfl rfl rfl
 ·have ha:∀ x∈wordL,decide ((x.length:Int)≤64)=true:=by decide
  have hx:=ha _ (a5K (d:=[]) (a0p t (n:=4) (by omega)))
  exact a91 n i 4 _ (by simp[a1J,a5v,a33,a09]) (by simp only[a0z,a09,Int.reduceEq,decide_true,decide_false,Bool.or_false,cond_false,cond_true];exact hx) rfl
 ·have ha:∀ x∈plainL,a1J (a0G x)=true∧a0z (a0G x)=true∧decide (x=13)=false:=by decide
  have hx:=ha _ (a5K (d:=0) (a0p t (n:=4) (by omega)))
  exact a7x n i _ hx.1 hx.2.1 hx.2.2
 ·exact a7x n i 9 rfl rfl rfl
 ·have ha:∀ x∈anyL,a1J (a0G x)=true∧a0z (a0G x)=true∧decide (x=13)=false:=by decide
  have hx:=ha _ (a5K (d:=0) (a0p t (n:=2) (by omega)))
  exact a7x n i _ hx.1 hx.2.1 hx.2.2
 ·have ha:∀ x∈labL,a0A x=true:=by decide
  have hx:=ha _ (a5K (d:=[]) (a0p t (n:=3) (by omega)))
  exact a91 n i 19 _ (by simp[a1J,a5v,a33,a09]) (by simp only[a0z,a09,Int.reduceEq,decide_true,decide_false,Bool.or_false,cond_false,cond_true];exact hx) rfl
 iterate 2
  ·have h1:=a0p t (n:=3) (by omega)
   exact a4E (by omega) (by omega) _ _ (by omega) rfl p10 (fun l hl=>by simp only[a0z,a7v,Int.reduceEq,decide_true,decide_false,Bool.or_false,cond_false,cond_true];exact decide_eq_true (by omega)) (fun h=>by cases h)
 ·exact a4E (by omega) (by omega) _ _ (by omega) rfl p12 (fun l hl=>by simp only[a0z,a7v,Int.reduceEq,decide_true,decide_false,Bool.or_false,cond_false,cond_true];exact decide_eq_true (by omega)) (fun h=>by cases h)
 ·have h1:=a0p t (n:=n) (by omega)
  have h2:=a0p (a0f t n) (n:=n) (by omega)
  obtain⟨f1,f2,f3⟩:=b80 n (by omega) (a0f (a0f t n) n)
  refine⟨by simp[a1J,a5v,a33,a3a],by simp only[a0z,a3a,Int.reduceEq,decide_true,decide_false,Bool.or_false,cond_false,cond_true];exact f1,fun e he=>?_,fun h=>(by cases h),Nat.zero_le _,f3⟩
  simp only[edgeL,a3a,decide_true,cond_true,List.nil_append,List.mem_append,List.mem_map,List.mem_cons,List.not_mem_nil,or_false] at he
  rcases he with⟨f,hf,rfl⟩|rfl|rfl
  ·exact f2 f hf
  ·exact h1
  ·exact h2
 iterate 2
  ·have h1:=a0p t (n:=3) (by omega)
   exact a4E (by omega) (by omega) _ _ (by omega) rfl p14 (fun l hl=>by simp only[a0z,a7v,Int.reduceEq,decide_true,decide_false,Bool.or_false,cond_false,cond_true];exact Bool.and_eq_true_iff.mpr ⟨decide_eq_true (by omega),decide_eq_true (by omega)⟩) (fun h=>by cases h)
 ·have:=hb (by omega)
  exact a4E (by omega) (by omega) _ _ (by omega) rfl p18 (fun l hl=>by simp only[a0z,a7v,Int.reduceEq,decide_true,decide_false,Bool.or_false,cond_false,cond_true];exact decide_eq_true (by omega)) (fun _=>by omega)
 ·have:=hb (by omega)
  exact a4E (by omega) (by omega) _ _ (by omega) rfl p17 (fun l hl=>by simp only[a0z,a7v,Int.reduceEq,decide_true,decide_false,Bool.or_false,Bool.or_true,cond_false,cond_true];exact decide_eq_true (by omega)) (fun _=>by omega)
 iterate 2
  ·have:=hb (by omega)
   have h1:=a0p t (n:=2) (by omega)
   exact a4E (by omega) (by omega) _ _ (by omega) rfl p16 (fun l hl=>by simp only[a0z,a7v,Int.reduceEq,decide_true,decide_false,Bool.or_false,Bool.true_or,cond_false,cond_true];exact decide_eq_true (by omega)) (fun _=>by omega)
theorem b5O (n:Int):∀ (m i:Nat) (s:Src) (j:Nat) (x:NodeD),(b6P n m i s).1[j]?= some x→∃ t:Src,x=(a8a ((i+j:Nat):Int) n t).1
 |0,i,s,j,x,h=>by simp[b6P] at h
 |m+1,i,s,0,x,h=>by
  simp only[b6P,List.getElem?_cons_zero,Option.some.injEq] at h
  exact⟨s,h.symm⟩
 |m+1,i,s,j+1,x,h=>by
  simp only[b6P,List.getElem?_cons_succ] at h
  obtain⟨t,e⟩:=b5O n m (i+1) _ j x h
  exact⟨t,by rw[e];congr 2;omega⟩
theorem a7y (n:Nat) (s:Src):(b2n n s).1.length=n:=b5K _ _ _ _
theorem a8c (n:Nat) (hn:n≤1000) (s:Src) (j:Nat) (x:NodeD) (h:(b2n n s).1[j]?= some x):GoodN n j x:=by
 obtain⟨t,e⟩:=b5O n n 0 s j x h
 have hj:j<n:=by
  have:=(List.getElem?_eq_some_iff.1 h).1
  rwa[a7y] at this
 rw[e,Nat.zero_add]
 exact b81 j n t (by omega) (by omega) (by omega)
theorem c4w {l:List NodeD} {r:Int} (h0:0≤r) (hr:r<(l.length:Int)) (h:∀ (j:Nat) (x:NodeD),l[j]?= some x→GoodN l.length j x):wfP l r=0:=by
 have ho:a3W l r=false:=by simp only[a3W,Bool.or_eq_false_iff,decide_eq_false_iff_not];omega
 have ha:l.all (a1A l)=true:=by
  rw[List.all_eq_true]
  intro x hx
  obtain⟨j,hj⟩:=List.getElem?_of_mem hx
  have g:=h j x hj
  unfold a1A
  rw[g.plain,g.kind,Bool.true_and,Bool.true_and,List.all_eq_true]
  intro e he
  have:=g.edge e he
  simp only[a3W,Bool.not_eq_true',Bool.or_eq_false_iff,decide_eq_false_iff_not];omega
 have hc:a6y l=true:=by
  refine(Gr.all_iff (bo l) (ks l) l.length (b6E (a8y ha))).2 ?_
  have key:∀ d j,l.length-j≤d→j<l.length→Gr.Fin (bo l) (ks l) j:=by
   intro d
   induction d with
   |zero=>intro j h1 h2;omega
   |succ d ih=>
    intro j h1 h2
    have hx:l[j]?= some l[j]:=List.getElem?_eq_getElem h2
    have g:=h j _ hx
    refine Gr.fin_of _ _ fun hb k hk=>?_
    have hkl:=b6E (a8y ha) j h2 k hk
    unfold bo at hb
    rw[hx] at hb
    unfold ks at hk
    rw[hx] at hk
    obtain⟨y,hy,rfl⟩:=List.mem_map.1 hk
    have:=g.on hb y hy
    exact ih _ (by omega) hkl
  exact fun j hj=>key _ j (Nat.le_refl _) hj
 unfold wfP
 rw[ho,ha,hc];rfl
theorem c1x (n:Nat) (hn:1≤n∧n≤1000) (s:Src):wfP (b2n n s).1 0=0:=by
  have hl:=a7y n s
  refine c4w (by omega) (by omega) fun j x hx=>?_
  rw[hl]
  exact a8c n hn.2 s j x hx
theorem c4x {l:List NodeD} (hl:l.length≤1000) (h:∀ (j:Nat) (x:NodeD),l[j]?= some x→GoodN l.length j x):TSm l:=by
 refine⟨by omega,fun x hx=>?_,fun x hx=>?_⟩
 all_goals
  obtain⟨j,hj⟩:=List.getElem?_of_mem hx
  have g:=h j x hj
  have h1:=g.kid
  have h2:=g.fld
  omega
theorem c1y (n:Nat) (hn:n≤1000) (s:Src):TSm (b2n n s).1:=by
  have hl:=a7y n s
  refine c4x (by omega) fun j x hx=>?_
  rw[hl]
  exact a8c n hn s j x hx
end Go.Proofs.YthbcdhfiibpeaaaGreat

