/- Lemmas. -/
import Derived.Test.YtoelgackkclcmaaGreatPc40
open Go.Proofs.Tryz renaming prog→zP
open List renaming length_append→lA,length_map→lB,length_cons→lC,length_nil→lD,length_take→lQ
open Go.Sx renaming seqVC_stepN→yA
open Go.Sx.AWP renaming seq→yS,seqR→yT,block→yU,cond→yV,skip→yW,ret→yX,exit→yY,gh→xD
open Bool renaming not_eq_true'→zM,not_eq_false'→zN
set_option linter.unusedSimpArgs false
set_option linter.unusedVariables false
set_option maxRecDepth 20000
set_option maxHeartbeats 64000000
namespace Go.Proofs.YtoelgackkclcmaaGreat
open Go Go.Sx
theorem c0Z (x:NodeD) (b:Int) (hk:x.kids.length≤1000000) (hf:x.fields.length≤1000000):PC zP 126 [.st [.int .i64 x.kind, .int .i64 x.lo, .int .i64 x.hi, .str x.text, .sl 1 (x.kids.map a0h), .sl 4 (x.fields.map a0o), .int .i64 x.r0, .int .i64 x.r1], .one (.dat (.int .i64 b))] (.st (a0e (upN b x))):=c0M x b hk hf
def emL (b:Nat) (l:List NodeD) (r:Int):List NodeD:=(a03 l r).map (upN b)
def emR (b:Nat) (l:List NodeD) (r:Int):Int:=upI b (a2z l r)
theorem c3L (l:List NodeD) (r:Int) (hl:TSm l):PC zP 124 [.st [.sl 8 (l.map a0e), .int .i64 r]] (.st [.sl 8 ((a03 l r).map a0e), .int .i64 (a2z l r)]):=c3C l r hl
theorem b85 (l:List NodeD) (x:NodeD):l.map a0e++[[.int .i64 x.kind, .int .i64 x.lo, .int .i64 x.hi, .str x.text, .sl 1 (x.kids.map a0h), .sl 4 (x.fields.map a0o), .int .i64 x.r0, .int .i64 x.r1]]=(l++[x]).map a0e:=by rw[← a0d];simp
theorem b6u (ns l:List NodeD) (r:Int) (hl:TSm l) (hn:ns.length≤10000000):PCX zP 123 [.one (.own 900 ns.length),Tt l r] [(900, .row 8 (ns.map a0e))]
  (.tup [.one (.own 900 (ns++emL ns.length l r).length),I .i64 (emR ns.length l r)]) [(900, .row 8 ((ns++emL ns.length l r).map a0e))]:=by
 have hs:=b4I hl r
 have af:=c3L l r hl
 obtain⟨sl,aa⟩:∃ sl,sl=a03 l r:=⟨_,rfl⟩
 have ak:=hs.len
 have ab:=hs.kids
 have ag:=hs.fields
 have e1:emL ns.length l r=sl.map (upN ns.length):=by rw[emL,aa]
 have e2:emR ns.length l r=upI ns.length (a2z l r):=rfl
 rw[← aa] at af ak ab ag
 rw[e1,e2]
 refine PCX.of_body Tryz.func123 rfl (by decide) Tryz.ntmps123 Tryz.results123 rfl rfl ?_
 refine AWP.ghQ ?_
 repeat'(first|simp only[go_sem,lB]<;>refine nf ?_|refine stp ?_;intro K hK|apply hK;clear hK K|refine stn ?_|(with_reducible refine⟨_,af,?_⟩)|refine stq ?_|fail)
 refine AWP.len 14 rfl fun u=>?_
 (try rw[lB] at u)
 refine AWP.range (S:=List NodeD) (sl) a0e (fun k s=>(16,I .i64 (k:Nat))::[(0, .one (.own 900 s.length))]) (fun k s=>[(900, .row 8 (s.map a0e))]) [3,6,14,15] [3] (fun k s=>Is s (ns++(sl.take k).map (upN ns.length))) (ns) (by refine sts ?_;exact Gh.tt []) ?_ ?_ ?_
 ·simp[Is]
 ·intro k s y ae hy ai hb q
  refine sts ?_
  have ad:=zbc hy
  have aj:=c0Z y ns.length (ab y ad) (ag y ad)
  have ah:s.length≤11000000:=by rw[show s=_ from q,lA,lB,lQ];omega
  repeat'(first|simp only[go_sem,lB,hb,a0d,b85]<;>refine nf ?_|refine stp ?_;intro K hK|apply hK;clear hK K|refine stn ?_|(with_reducible first|refine⟨(by omega:_≤_),a0e y,ai,?_⟩|refine⟨_,aj,?_⟩|(refine⟨(by first|omega|(simp only[lA,lB,lQ,za1,lC,lD,za4];omega):_≤_),?_⟩))|refine stq ?_|clear hK K)
  all_goals(rw[a0b ae u])
  all_goals(refine⟨s++[upN ns.length y],?_,Gh.tt [(900,25)]⟩)
  all_goals(unfold Is;rw[show s=_ from q,zdb ae,(zak.1 hy).2];simp)
 ·intro s hb q
  refine sts ?_
  unfold Is at q
  rw[zbh] at q
  repeat'(first|simp only[go_sem,lB,hb]<;>refine nf ?_|refine stp ?_;intro K hK|apply hK;clear hK K|refine stn ?_|(refine a0J ?_;intro K hK)|clear hK K)
  refine⟨_,Gh.refl _,?_⟩
  simp only[go_sem,lB]
  subst q
  exact⟨by first|trivial|rfl,fun x hx=>by
   rcases zal.1 hx with rfl|hx
   ·exact zbl
   ·cases hx⟩
theorem b4Q (l:List NodeD) (r:Int) (hl:TSm l):PCX zP 123 [.one (.dat (.nil 8)), .st [.sl 8 (l.map a0e), .int .i64 r]] []
  (.tup [.one (.own 900 (emL 0 l r).length), .one (.dat (.int .i64 (emR 0 l r)))]) [(900, .row 8 ((emL 0 l r).map a0e))]:=by
 have h:=b6u [] l r hl (by simp)
 refine h.nils (fun p hp=>?_) rfl fun M vs ν hr=>?_
 ·simp only[zal,zaf,or_false] at hp
  subst hp
  exact⟨_,rfl⟩
 ·simp only[T.reps,T.rep,Cell.rep,C.rep] at hr ⊢
  obtain⟨v1,t1,e1,r1,v2,t2,e2,r2,e3⟩:=hr
  exact⟨v1,t1,e1,by rw[r1];rfl,v2,t2,e2,r2,e3⟩
theorem c00 (b:Nat) (l:List NodeD) (r:Int):(emL b l r).length≤l.length+1:=by
  unfold emL a03
  cases decide (wfP l r=0)<;>simp
abbrev TyD:=List NodeD×Int
def a1Q (t:TyD):List C:=[.sl 8 (t.1.map a0e), .int .i64 t.2]
theorem a2Y (x:TyD):a1Q x=[.sl 8 (x.1.map a0e), .int .i64 x.2]:=rfl
@[go_sem] theorem c9H (x:TyD):a1H 2 (a1Q x)=some (a1Q x,[]):=by rfl
@[go_sem low] theorem c8E (x:TyD) (k:Nat):a1H k (a1Q x)=a1H k [.sl 8 (x.1.map a0e), .int .i64 x.2]:=by rw[a2Y]
@[go_sem] theorem c8F (x:TyD):a1H 2 ((a1Q x).map Cell.dat)=some ((a1Q x).map Cell.dat,[]):=by rfl
@[go_sem low] theorem c7m (x:TyD) (k:Nat):a1H k ((a1Q x).map Cell.dat)=a1H k (([.sl 8 (x.1.map a0e), .int .i64 x.2]:List C).map Cell.dat):=by rw[a2Y]
@[go_sem] theorem c8G (x:TyD):(a1Q x).map C.soft=a1Q x:=by rfl
@[go_sem] theorem c9I (x:TyD):a1Z 2 (a1Q x)=true:=by rfl
@[go_sem] theorem c8H (x:TyD):a1Z 2 ((a1Q x).map Cell.dat)=true:=by rfl
def a3m (s:List NodeD×List Int) (t:TyD):List NodeD×List Int:=(s.1++emL s.1.length t.1 t.2,s.2++[emR s.1.length t.1 t.2])
def ovS (k:Int) (ts:List TyD):List NodeD×List Int:=ts.foldl a3m ([a1c k],[])
def a6y (k:Int) (ks:List Int):NodeD:=⟨k,0,0,[],ks,[],0,0⟩
def overV (k:Int) (ts:List TyD):List NodeD:=(ovS k ts).1.set 0 (a6y k (ovS k ts).2)
structure TyS (B:Nat) (ts:List TyD):Prop where
  one:∀ t∈ts,TSm t.1∧t.1.length<B
  all:ts.length*B≤900000
theorem b0g {k:Int} {ts:List TyD} {i:Nat} {t:TyD} (h:ts[i]?= some t):ovS k (ts.take (i+1))=a3m (ovS k (ts.take i)) t:=a3L h
theorem a74 (k:Int) {B:Nat}:∀ (ts:List TyD),(∀ t∈ts,TSm t.1∧t.1.length<B)→(ovS k ts).1.length≤1+ts.length*B∧(ovS k ts).2.length=ts.length:=by
 intro ts
 unfold ovS
 have key:∀ (ts:List TyD) (s:List NodeD×List Int),(∀ t∈ts,TSm t.1∧t.1.length<B)→(ts.foldl a3m s).1.length≤s.1.length+ts.length*B∧(ts.foldl a3m s).2.length=s.2.length+ts.length:=by
  intro ts
  induction ts with
  |nil=>intro s _;simp
  |cons t ts ih=>
   intro s h
   have h1:=ih (a3m s t) fun u hu=>h u (zas _ hu)
   have h2:=(h t zbl).2
   have h3:=c00 s.1.length t.1 t.2
   have h4:(a3m s t).1.length=s.1.length+(emL s.1.length t.1 t.2).length:=by simp[a3m]
   have h5:(a3m s t).2.length=s.2.length+1:=by simp[a3m]
   rw[List.foldl_cons,lC,Nat.succ_mul]
   omega
 intro h
 have:=key ts ([a1c k],[]) h
 simpa using this
theorem c01 (l:List NodeD) (k:Int) (ks:List Int) (h:l[0]?= some (a1c k)):(l.map a0e).set 0 [C.int .i64 k,C.int .i64 0,C.int .i64 0,C.str [],C.sl 1 (ks.map a0h),C.sl 4 [],C.int .i64 0,C.int .i64 0]=(l.set 0 (a6y k ks)).map a0e:=by rw[zdw];rfl
theorem a7C (k:Int) (ts:List TyD):(ovS k ts).1[0]?= some (a1c k):=by
 unfold ovS
 have key:∀ (ts:List TyD) (s:List NodeD×List Int),s.1[0]?= some (a1c k)→(ts.foldl a3m s).1[0]?= some (a1c k):=by
  intro ts
  induction ts with
  |nil=>intro s h;exact h
  |cons t ts ih=>
   intro s h
   rw[List.foldl_cons]
   refine ih _ ?_
   have:0<s.1.length:=(zak.1 h).1
   show (s.1++_)[0]?= _
   rw[zcg this,h]
 exact key ts _ rfl
theorem c02 (k:Int) (ts:List TyD) {B:Nat} (ad:TyS B ts):PC zP 121 [I .i64 k, .one (.dat (.sl 2 (ts.map a1Q)))] (Tt (overV k ts) 0):=by
 have af:=ad.all
 have ap:ts.length≤900000∨B=0:=by
  rcases zc4 B with h|h
  ·exact .inr h
  ·left;exact zbe (zd6 _ h) af
 refine PCB.ob Tryz.func121 Tryz.ntmps121 Tryz.results121 ?_
 repeat'(first|simp only[go_sem,lB]<;>refine nf ?_|refine stp ?_;intro K hK|apply hK;clear hK K|refine stn ?_|(with_reducible (refine Or.inr (show a01 _ 12 _ _ _ _ _ _ from ?_);unfold a01;with_reducible refine Or.inr ?_;simp only[a18,go_sem,lB]))|fail)
 refine xD (Gh.nilrow 6 901 rfl rfl rfl rfl) ?_
 refine AWP.len 13 rfl fun ab=>?_
 (try rw[lB] at ab)
 refine AWP.range (S:=List NodeD×List Int) (ts) a1Q (fun i s=>(15,I .i64 (i:Nat))::[(5, .one (.own 12 s.1.length)),(6, .one (.own 901 s.2.length))]) (fun i s=>[(12, .row 8 (s.1.map a0e)),(901, .row 1 (s.2.map a0h))]) [4,13,14] [4] (fun i s=>Is s (ovS k (ts.take i))) (([a1c k],[])) (by refine sts ?_;exact Gh.tt []) ?_ ?_ ?_
 ·rfl
 ·intro i s t aj ht ak hb q
  refine sts ?_
  unfold Is at q
  have ag:=zbc ht
  have h1:=ad.one t ag
  have ao:i<ts.length:=(zak.1 ht).1
  have aa:=a74 k (B:=B) (ts.take i) fun u hu=>ad.one u (zcp hu)
  have am:(ts.take i).length*B≤ts.length*B:=zc7 _ (by rw[lQ];omega)
  rw[← q] at aa
  have an:s.2.length≤900000:=by rw[aa.2,lQ];omega
  have ai:=(b6u s.1 t.1 t.2 h1.1 (by omega)).ren (fun _=>12) 1000 (args1:=[.one (.own 12 s.1.length), .st [.sl 8 (t.1.map a0e), .int .i64 t.2]]) (B1:=[(12, .row 8 (s.1.map a0e))])
   (r1:=(.tup [.one (.own 1900 (s.1++emL s.1.length t.1 t.2).length), .one (.dat (.int .i64 (emR s.1.length t.1 t.2)))])) (B1':=[(1900, .row 8 ((s.1++emL s.1.length t.1 t.2).map a0e))]) rfl rfl rfl rfl rfl
  repeat'(first|simp only[go_sem,lB,hb,a1Q,c4A]<;>refine nf ?_|refine stp ?_;intro K hK|apply hK;clear hK K|refine stn ?_|(with_reducible first|refine⟨(by omega:_≤_),a1Q t,ak,?_⟩|(refine⟨(by first|omega|(simp only[lA,lB,lQ,za1,lC,lD,za4];omega):_≤_),?_⟩))|(refine Or.inr (Or.inr (a9K.mk ai (by repeat(first|exact trivial|refine And.intro rfl ?_)) (by rfl) (by first|rfl|(simp only[a7o,List.all_cons,List.all_nil,go_sem,lB,hb,a1Q,c4A]<;>rfl)) (by rfl) (by rfl) ?_)))|refine stq ?_|clear hK K)
  all_goals(rw[a0b aj ab])
  all_goals(refine⟨a3m s t,?_,Gh.tt [(12,1900),(901,28)]⟩)
  all_goals(unfold Is;rw[b0g ht,q])
 ·intro s hb q
  refine sts ?_
  unfold Is at q
  rw[zbh] at q
  have aa:=a74 k (B:=B) ts ad.one
  have ae:=a7C k ts
  rw[← q] at ae aa
  have ah:=a0y a0e ae
  have al:0<s.1.length:=(zak.1 ae).1
  refine xD (Gh.fz 901) ?_
  simp only[go_sem,lB]
  repeat'(first|(refine atR 11 (Gh.freeze 12 (by rfl) (by rfl) (by simp only[go_sem,lB,hb,a0d,lB,zbp]) (by simp only[go_sem,lB,hb,a0d,lB,zbp])) ?_;simp only[frE,frB,Bx.drop,go_sem,lB,hb,a0d])|simp only[go_sem,lB,hb,a0d]<;>refine nf ?_|refine stp ?_;intro K hK|apply hK;clear hK K|refine stn ?_|(with_reducible first|refine⟨a0e (a1c k),ah,?_⟩|refine⟨(by omega:_≤_),(by omega:_<_),?_⟩)|clear hK K)
  have e:=c01 s.1 k s.2 ae
  refine⟨?_,fun x hx=>by cases hx⟩
  show T.st [C.sl 8 ((s.1.map a0e).set 0 [C.int .i64 k,C.int .i64 0,C.int .i64 0,C.str [],C.sl 1 (s.2.map a0h),C.sl 4 [],C.int .i64 0,C.int .i64 0]),C.int .i64 0]=_
  rw[e]
  unfold overV
  rw[← q]
def a9o:TyD:=([a1c 2],0)
def a4o:TyD:=([a1c 1],0)
def a3A (k:Int) (ts:List TyD):TyD:=(overV k ts,0)
def a1o (ts:List TyD):TyD:=bif decide ((ts.length:Int)=0) then a4o else a3A 16 ts
def a5i (ts:List TyD):TyD:=bif decide ((ts.length:Int)=0) then a9o else a3A 17 ts
def b9z (t:TyD):TyD:=a3A 18 [t]
def b4R (s t:TyD):TyD:=a5i [s,b9z t]
def b9A (ts:List TyD):TyD:=bif decide ((4:Int)<(ts.length:Int)) then a4o else a3A 10 ts
def c9J (a b:TyD):TyD:=a3A 12 [a,b]
abbrev Yp (t:TyD):T:= .st (a1Q t)
abbrev Tys (ts:List TyD):T:= .one (.dat (.sl 2 (ts.map a1Q)))
theorem c03:PC zP 120 [] (.st [.sl 8 ([a1c 1].map a0e), .int .i64 0]):=c5n
theorem d02:PC zP 68 [] (Yp a9o):=by
  refine PCB.of_body Tryz.func68 rfl (by decide) Tryz.ntmps68 Tryz.results68 rfl rfl rfl ?_ rfl rfl
  repeat'(first|(simp only[go_sem];all_goals fail_if_success guard_target=ₛ False)|(with_reducible first|((first|refine yA rfl ?_|refine yS ?_|refine yT (by kernel_rfl) ?_);intro K hK)|apply hK;clear hK K|refine yU ?_|(refine yV (by with_unfolding_all rfl) ?_ ?_<;>intro h<;>(try simp only[zM,zN] at h)<;>try exact absurd h (by decide))|refine yW ?_|refine yX ?_|refine yY ?_|refine⟨_,b7A 2,?_⟩|refine Or.inl ?_)|clear hK K)
  all_goals(refine a0m ?_;rfl)
theorem c7n:PC zP 68 [] (.st [.sl 8 ([a1c 2].map a0e), .int .i64 0]):=d02
theorem c04 (k:Int) (ts:List TyD) {B:Nat} (q:TyS B ts):PC zP 121 [I .i64 k,Tys ts] (.st [.sl 8 ((overV k ts).map a0e), .int .i64 0]):=c02 k ts q
theorem c05 (ts:List TyD) {B:Nat} (q:TyS B ts):PC zP 69 [Tys ts] (Yp (a1o ts)):=by
 unfold a1o
 cases h:decide ((ts.length:Int)=0)
 all_goals
  refine PCB.of_body Tryz.func69 rfl (by decide) Tryz.ntmps69 Tryz.results69 rfl rfl rfl ?_ rfl rfl
  repeat'(first|(simp only[go_sem,lB,h];all_goals fail_if_success guard_target=ₛ False)|(with_reducible first|((first|refine yA rfl ?_|refine yS ?_|refine yT (by kernel_rfl) ?_);intro K hK)|apply hK;clear hK K|refine yU ?_|(refine yV (by with_unfolding_all rfl) ?_ ?_<;>intro h<;>(try simp only[zM,zN] at h)<;>try exact absurd h (by decide))|refine yW ?_|refine yX ?_|refine yY ?_|refine⟨_,c03,?_⟩|refine⟨_,c04 16 ts q,?_⟩|refine Or.inl ?_)|clear hK K)
  all_goals(refine a0m ?_;rfl)
theorem c7o (ts:List TyD) {B:Nat} (q:TyS B ts):PC zP 72 [Tys ts] (Yp (a5i ts)):=by
 unfold a5i
 cases h:decide ((ts.length:Int)=0)
 all_goals
  refine PCB.of_body Tryz.func72 rfl (by decide) Tryz.ntmps72 Tryz.results72 rfl rfl rfl ?_ rfl rfl
  repeat'(first|(simp only[go_sem,lB,h];all_goals fail_if_success guard_target=ₛ False)|(with_reducible first|((first|refine yA rfl ?_|refine yS ?_|refine yT (by kernel_rfl) ?_);intro K hK)|apply hK;clear hK K|refine yU ?_|(refine yV (by with_unfolding_all rfl) ?_ ?_<;>intro h<;>(try simp only[zM,zN] at h)<;>try exact absurd h (by decide))|refine yW ?_|refine yX ?_|refine yY ?_|refine⟨_,c7n,?_⟩|refine⟨_,c04 17 ts q,?_⟩|refine Or.inl ?_)|clear hK K)
  all_goals(refine a0m ?_;rfl)
theorem c7p (ts:List TyD) {B:Nat} (q:TyS B ts):PC zP 92 [Tys ts] (Yp (b9A ts)):=by
 unfold b9A
 cases h:decide ((4:Int)<(ts.length:Int))
 all_goals
  refine PCB.of_body Tryz.func92 rfl (by decide) Tryz.ntmps92 Tryz.results92 rfl rfl rfl ?_ rfl rfl
  repeat'(first|(simp only[go_sem,lB,h];all_goals fail_if_success guard_target=ₛ False)|(with_reducible first|((first|refine yA rfl ?_|refine yS ?_|refine yT (by kernel_rfl) ?_);intro K hK)|apply hK;clear hK K|refine yU ?_|(refine yV (by with_unfolding_all rfl) ?_ ?_<;>intro h<;>(try simp only[zM,zN] at h)<;>try exact absurd h (by decide))|refine yW ?_|refine yX ?_|refine yY ?_|refine⟨_,c03,?_⟩|refine⟨_,c04 10 ts q,?_⟩|refine Or.inl ?_)|clear hK K)
  all_goals(refine a0m ?_;rfl)
theorem c7q (k:Int) (a:TyD) {B:Nat} (q:TyS B [a]):PC zP 121 [I .i64 k, .one (.dat (.sl 2 [[.sl 8 (a.1.map a0e), .int .i64 a.2]]))] (.st [.sl 8 ((overV k [a]).map a0e), .int .i64 0]):=c02 k [a] q
theorem c7r (k:Int) (a b:TyD) {B:Nat} (q:TyS B [a,b]):PC zP 121 [I .i64 k, .one (.dat (.sl 2 [[.sl 8 (a.1.map a0e), .int .i64 a.2],[.sl 8 (b.1.map a0e), .int .i64 b.2]]))] (.st [.sl 8 ((overV k [a,b]).map a0e), .int .i64 0]):=c02 k [a,b] q
theorem d03 (a:TyD) {B:Nat} (q:TyS B [a]):PC zP 111 [Yp a] (Yp (b9z a)):=by
  refine PCB.of_body Tryz.func111 rfl (by decide) Tryz.ntmps111 Tryz.results111 rfl rfl rfl ?_ rfl rfl
  repeat'(first|(simp only[go_sem,a1Q];all_goals fail_if_success guard_target=ₛ False)|(with_reducible first|((first|refine yA rfl ?_|refine yS ?_|refine yT (by kernel_rfl) ?_);intro K hK)|apply hK;clear hK K|refine yU ?_|(refine yV (by with_unfolding_all rfl) ?_ ?_<;>intro h<;>(try simp only[zM,zN] at h)<;>try exact absurd h (by decide))|refine yW ?_|refine yX ?_|refine yY ?_|refine⟨_,c7q 18 a q,?_⟩|refine Or.inl ?_)|clear hK K)
  all_goals(refine a0m ?_;rfl)
theorem c9K (a b:TyD) {B:Nat} (q:TyS B [a,b]):PC zP 93 [Yp a,Yp b] (Yp (c9J a b)):=by
  refine PCB.of_body Tryz.func93 rfl (by decide) Tryz.ntmps93 Tryz.results93 rfl rfl rfl ?_ rfl rfl
  repeat'(first|(simp only[go_sem,a1Q];all_goals fail_if_success guard_target=ₛ False)|(with_reducible first|((first|refine yA rfl ?_|refine yS ?_|refine yT (by kernel_rfl) ?_);intro K hK)|apply hK;clear hK K|refine yU ?_|(refine yV (by with_unfolding_all rfl) ?_ ?_<;>intro h<;>(try simp only[zM,zN] at h)<;>try exact absurd h (by decide))|refine yW ?_|refine yX ?_|refine yY ?_|refine⟨_,c7r 12 a b q,?_⟩|refine Or.inl ?_)|clear hK K)
  all_goals(refine a0m ?_;rfl)
theorem d04 (a:TyD) {B:Nat} (q:TyS B [a]):PC zP 111 [.st [.sl 8 (a.1.map a0e), .int .i64 a.2]] (.st [.sl 8 ((b9z a).1.map a0e), .int .i64 (b9z a).2]):=d03 a q
theorem b7H (a b:TyD) {B:Nat} (q:TyS B [a,b]):PC zP 72 [.one (.dat (.sl 2 [[.sl 8 (a.1.map a0e), .int .i64 a.2],[.sl 8 (b.1.map a0e), .int .i64 b.2]]))] (Yp (a5i [a,b])):=c7o [a,b] q
theorem c9L (a b:TyD) {B B2:Nat} (hb:TyS B [b]) (q:TyS B2 [a,b9z b]):PC zP 73 [Yp a,Yp b] (Yp (b4R a b)):=by
  refine PCB.of_body Tryz.func73 rfl (by decide) Tryz.ntmps73 Tryz.results73 rfl rfl rfl ?_ rfl rfl
  repeat'(first|(simp only[go_sem,a1Q];all_goals fail_if_success guard_target=ₛ False)|(with_reducible first|((first|refine yA rfl ?_|refine yS ?_|refine yT (by kernel_rfl) ?_|refine b0O rfl ?_|refine a9M rfl ?_|refine b0T rfl ?_);intro K hK)|apply hK;clear hK K|refine yU ?_|(refine yV (by with_unfolding_all rfl) ?_ ?_<;>intro h<;>(try simp only[zM,zN] at h)<;>try exact absurd h (by decide))|refine yW ?_|refine yX ?_|refine yY ?_|refine⟨_,d04 b hb,?_⟩|refine⟨_,b7H a (b9z b) q,?_⟩|(refine AWP.segP (id:=1) 5 mixed (by kernel_rfl) fun K hK=>?_;simp only[List.take_succ_cons,List.take_zero,zb4,zb2])|refine AWP.parR mixed (by kernel_rfl) fun K hK=>?_|refine⟨(by kernel_rfl:a81 _ _ _=true),?_⟩|refine Or.inl ?_)|clear hK K)
  all_goals(refine a0m ?_;rfl)
def c06 (s t:TyD):List NodeD:=emL 0 s.1 s.2++emL (emL 0 s.1 s.2).length t.1 t.2
end Go.Proofs.YtoelgackkclcmaaGreat
namespace Go.Sx
open Go.Proofs.YtoelgackkclcmaaGreat
def a5r (x:List UInt8×TyD):List C:=[.str x.1, .sl 8 (x.2.1.map a0e), .int .i64 x.2.2]
theorem a4T (x:List UInt8×TyD):a5r x=[.str x.1, .sl 8 (x.2.1.map a0e), .int .i64 x.2.2]:=rfl
@[go_sem] theorem c9M (x:List UInt8×TyD):a1H 3 (a5r x)=some (a5r x,[]):=by rfl
@[go_sem low] theorem c8I (x:List UInt8×TyD) (k:Nat):a1H k (a5r x)=a1H k [.str x.1, .sl 8 (x.2.1.map a0e), .int .i64 x.2.2]:=by rw[a4T]
@[go_sem] theorem c8J (x:List UInt8×TyD):a1H 3 ((a5r x).map Cell.dat)=some ((a5r x).map Cell.dat,[]):=by rfl
@[go_sem] theorem c8K (x:List UInt8×TyD):(a5r x).map C.soft=a5r x:=by rfl
@[go_sem] theorem c9N (x:List UInt8×TyD):a1Z 3 (a5r x)=true:=by rfl
end Go.Sx
namespace Go.Proofs.YtoelgackkclcmaaGreat
open Go Go.Sx
abbrev BdD:=List UInt8×TyD
abbrev Bds (l:List BdD):T:= .one (.dat (.sl 3 (l.map a5r)))
end Go.Proofs.YtoelgackkclcmaaGreat
namespace Go.Proofs.YtoelgackkclcmaaGreat
open Go Go.Sx
structure GoodN (n i:Int) (x:NodeD):Prop where
  plain:a2Q x=true
  kind:a0G x=true
  edge:∀ e∈edgeL x,0≤e∧e<n
  on:a4Z x.kind=true→∀ k∈x.kids,i<k
  kid:x.kids.length≤10
  fld:x.fields.length≤3
theorem c07 {a n:Int} (q:a<n) (m:Nat) (s:Src):∀ x∈(a1a (b5w a n) m s).1,a≤x∧x<n:=by
  refine b4p (p:=fun x=>a≤x∧x<n) (fun s=>?_) m s
  have:=a0p s (n:=n-a) (by omega)
  show a≤a+_∧a+_<n
  omega
theorem c08 (k:Int) (l:List Int) (hk:decide (k=13)=false):edgeL (a8B k l)=l:=by
  unfold edgeL a8B;simp[hk]
theorem a5K {n i a k:Int} (ha:0≤a) (q:a<n) (m:Nat) (s:Src) (hm:m≤10) (hk:decide (k=13)=false) (hp:∀ l:List Int,a2Q (a8B k l)=true) (hv:∀ l:List Int,l.length=m→a0G (a8B k l)=true) (ho:a4Z k=true→i<a):
  GoodN n i (a8B k (a1a (b5w a n) m s).1) where
 plain:=hp _
 kind:=hv _ (b01 _ m s)
 edge:=by
  rw[c08 k _ hk]
  intro e he
  have:=c07 q m s e he
  omega
 on:=fun hb x hx=>by
  have:=c07 q m s x hx
  have:=ho hb
  omega
 kid:=by show (a1a (b5w a n) m s).1.length≤10;rw[b01];exact hm
 fld:=zao _
theorem a3Q:∀ k:Int,k=10∨k=12∨k=14∨k=16∨k=17∨k=18→∀ l:List Int,a2Q (a8B k l)=true:=by
  intro k hk l
  rcases hk with rfl|rfl|rfl|rfl|rfl|rfl<;>simp[a2Q,a7e,a5l,a8B]
theorem a8J (n i k:Int) (hp:a2Q (a1c k)=true) (hv:a0G (a1c k)=true) (q:decide (k=13)=false):GoodN n i (a1c k) where
  plain:=hp
  kind:=hv
  edge:=by unfold edgeL a1c;simp only[q];simp
  on:=fun _ x hx=>by simp[a1c] at hx
  kid:=zao _
  fld:=zao _
theorem b1h (n i k:Int) (t:List UInt8) (hp:a2Q (a2L k t)=true) (hv:a0G (a2L k t)=true) (q:decide (k=13)=false):GoodN n i (a2L k t) where
  plain:=hp
  kind:=hv
  edge:=by unfold edgeL a2L;simp only[q];simp
  on:=fun _ x hx=>by simp[a2L] at hx
  kid:=zao _
  fld:=zao _
theorem a61 {α:Type} {l:List α} {d:α} {v:Int} (h:0≤v∧v<(l.length:Int)):l.getD v.toNat d∈l:=by
  have hv:v.toNat<l.length:=by omega
  rw[zbf,zav hv]
  exact zcd hv
theorem c3M:∀ a<5,∀ b<5,a≤b→b2m.getD a 0≤b2m.getD b 0:=by decide
theorem c09 (n:Int) (hn:1≤n) (s:Src):b0n none (a8A n a1L s).1=true∧(∀ f∈(a8A n a1L s).1,0≤f.node∧f.node<n)∧(a8A n a1L s).1.length≤3:=by
 have one:∀ (k:KeyD) (s:Src),(b6b n k s).1=[]∨ ∃ a b,(b6b n k s).1=[⟨k,a,b⟩]∧0≤a∧a<n:=by
  intro k s
  unfold b6b
  cases decide (a0j s 2=1)
  ·exact .inl rfl
  ·have:=a0p (a0g s 2) (n:=n) hn
   exact .inr ⟨_,_,rfl,this.1,this.2⟩
 unfold a1L
 simp only[a8A,zbq]
 have v1:a0l ⟨0,[97]⟩=true:=by decide
 have v2:a0l ⟨0,[98]⟩=true:=by decide
 have v3:a0l ⟨1,[115]⟩=true:=by decide
 have u:decide (a2O ⟨0,[97]⟩ ⟨0,[98]⟩≥0)=false:=by decide
 have aa:decide (a2O ⟨0,[97]⟩ ⟨1,[115]⟩≥0)=false:=by decide
 have q:decide (a2O ⟨0,[98]⟩ ⟨1,[115]⟩≥0)=false:=by decide
 rcases one ⟨0,[97]⟩ s with e1|⟨a1,b1,e1,h1⟩<;>rcases one ⟨0,[98]⟩ (b6b n ⟨0,[97]⟩ s).2 with e2|⟨a2,b2,e2,h2⟩<;>rcases one ⟨1,[115]⟩ (b6b n ⟨0,[98]⟩ (b6b n ⟨0,[97]⟩ s).2).2 with e3|⟨a3,b3,e3,h3⟩<;>rw[e1,e2,e3]<;>
  (refine⟨by simp only[List.nil_append,List.cons_append,b0n,v1,v2,v3,u,aa,q,zat,zaj,zab],fun f hf=>?_,by simp⟩)<;>simp only[List.nil_append,List.cons_append,zal,zaf,or_false] at hf
 all_goals(rcases hf with rfl|rfl|rfl<;>assumption)
theorem c1a (i n:Int) (s:Src) (hi:0≤i) (af:i<n) (hn:n≤1000):GoodN n i (a9c i n s).1:=by
 unfold a9c
 have hv:=a0p s (n:=a0r i n) (a1y i n).1
 have hm:=a1y i n
 generalize a0g s (a0r i n)=t
 have hb:14≤a0j s (a0r i n)→i+1<n:=by
  intro h
  rcases Decidable.em (i=n-1) with h2|h2
  ·exfalso
   rw[show a0r i n=14 from by unfold a0r;rw[zbo h2];rfl] at hv h
   omega
  ·omega
 generalize a0j s (a0r i n)=k at*
 have hk:k=0∨k=1∨k=2∨k=3∨k=4∨k=5∨k=6∨k=7∨k=8∨k=9∨k=10∨k=11∨k=12∨k=13∨k=14∨k=15∨k=16∨k=17:=by omega
 have ad:=a3Q 10 (by omega)
 have aa:=a3Q 12 (by omega)
 have q:=a3Q 14 (by omega)
 have u:=a3Q 16 (by omega)
 have ab:=a3Q 17 (by omega)
 have ae:=a3Q 18 (by omega)
 rcases hk with rfl|rfl|rfl|rfl|rfl|rfl|rfl|rfl|rfl|rfl|rfl|rfl|rfl|rfl|rfl|rfl|rfl|rfl<;>simp only[a4v,Int.reduceEq,zac,zad,zaa,zab,zap,zam,zaj,a4a]
 ·have h1:=a0p t (n:=5) (by omega)
  have h2:=a0p (a0g t 5) (n:=5-a0j t 5) (by omega)
  have hr:=c3M (a0j t 5).toNat (by omega) (a0j t 5+a0j (a0g t 5) (5-a0j t 5)).toNat (by omega) (by omega)
  refine⟨by simp[a2Q,a7e,a5l,c0o],by simp only[a0G,c0o,Int.reduceEq,zac,zad,zaj,zab,zaa];exact zbo hr,by simp[edgeL,c0o],fun _ x hx=>by simp[c0o] at hx,zao _,zao _⟩
 ·have ha:∀ x∈atomL,a2G x=true:=by decide
  have hx:=ha _ (a61 (d:=[]) (a0p t (n:=4) (by omega)))
  exact b1h n i 6 _ (by simp[a2Q,a7e,a5l,a2L]) (by simp only[a0G,a2L,Int.reduceEq,zac,zad,zaj,zab,zaa];exact hx) rfl
 ·exact a8J n i 7 rfl rfl rfl
 ·have ha:∀ x∈wordL,decide ((x.length:Int)≤64)=true:=by decide
  have hx:=ha _ (a61 (d:=[]) (a0p t (n:=4) (by omega)))
  exact b1h n i 4 _ (by simp[a2Q,a7e,a5l,a2L]) (by simp only[a0G,a2L,Int.reduceEq,zac,zad,zaj,zab,zaa];exact hx) rfl
 ·have ha:∀ x∈plainL,a2Q (a1c x)=true∧a0G (a1c x)=true∧decide (x=13)=false:=by decide
  have hx:=ha _ (a61 (d:=0) (a0p t (n:=4) (by omega)))
  exact a8J n i _ hx.1 hx.2.1 hx.2.2
 ·exact a8J n i 9 rfl rfl rfl
 ·have ha:∀ x∈anyL,a2Q (a1c x)=true∧a0G (a1c x)=true∧decide (x=13)=false:=by decide
  have hx:=ha _ (a61 (d:=0) (a0p t (n:=2) (by omega)))
  exact a8J n i _ hx.1 hx.2.1 hx.2.2
 ·have ha:∀ x∈labL,a0X x=true:=by decide
  have hx:=ha _ (a61 (d:=[]) (a0p t (n:=3) (by omega)))
  exact b1h n i 19 _ (by simp[a2Q,a7e,a5l,a2L]) (by simp only[a0G,a2L,Int.reduceEq,zac,zad,zaj,zab,zaa];exact hx) rfl
 iterate 2
  ·have h1:=a0p t (n:=3) (by omega)
   exact a5K (by omega) (by omega) _ _ (by omega) rfl ad (fun l hl=>by simp only[a0G,a8B,Int.reduceEq,zac,zad,zaj,zab,zaa];exact zbo (by omega)) (fun h=>by cases h)
 ·exact a5K (by omega) (by omega) _ _ (by omega) rfl aa (fun l hl=>by simp only[a0G,a8B,Int.reduceEq,zac,zad,zaj,zab,zaa];exact zbo (by omega)) (fun h=>by cases h)
 ·have h1:=a0p t (n:=n) (by omega)
  have h2:=a0p (a0g t n) (n:=n) (by omega)
  obtain⟨f1,f2,f3⟩:=c09 n (by omega) (a0g (a0g t n) n)
  refine⟨by simp[a2Q,a7e,a5l,a3T],by simp only[a0G,a3T,Int.reduceEq,zac,zad,zaj,zab,zaa];exact f1,fun e he=>?_,fun h=>(by cases h),zao _,f3⟩
  simp only[edgeL,a3T,zac,zaa,List.nil_append,zbd,za3,zal,zaf,or_false] at he
  rcases he with⟨f,hf,rfl⟩|rfl|rfl
  ·exact f2 f hf
  ·exact h1
  ·exact h2
 iterate 2
  ·have h1:=a0p t (n:=3) (by omega)
   exact a5K (by omega) (by omega) _ _ (by omega) rfl q (fun l hl=>by simp only[a0G,a8B,Int.reduceEq,zac,zad,zaj,zab,zaa];exact Bool.and_eq_true_iff.mpr ⟨zbo (by omega),zbo (by omega)⟩) (fun h=>by cases h)
 ·have:=hb (by omega)
  exact a5K (by omega) (by omega) _ _ (by omega) rfl ae (fun l hl=>by simp only[a0G,a8B,Int.reduceEq,zac,zad,zaj,zab,zaa];exact zbo (by omega)) (fun _=>by omega)
 ·have:=hb (by omega)
  exact a5K (by omega) (by omega) _ _ (by omega) rfl ab (fun l hl=>by simp only[a0G,a8B,Int.reduceEq,zac,zad,zaj,zap,zab,zaa];exact zbo (by omega)) (fun _=>by omega)
 iterate 2
  ·have:=hb (by omega)
   have h1:=a0p t (n:=2) (by omega)
   exact a5K (by omega) (by omega) _ _ (by omega) rfl u (fun l hl=>by simp only[a0G,a8B,Int.reduceEq,zac,zad,zaj,zam,zab,zaa];exact zbo (by omega)) (fun _=>by omega)
theorem b7I (n:Int):∀ (m i:Nat) (s:Src) (j:Nat) (x:NodeD),(b8B n m i s).1[j]?= some x→∃ t:Src,x=(a9c ((i+j:Nat):Int) n t).1
 |0,i,s,j,x,h=>by simp[b8B] at h
 |m+1,i,s,0,x,h=>by
  simp only[b8B,List.getElem?_cons_zero,Option.some.injEq] at h
  exact⟨s,h.symm⟩
 |m+1,i,s,j+1,x,h=>by
  simp only[b8B,List.getElem?_cons_succ] at h
  obtain⟨t,e⟩:=b7I n m (i+1) _ j x h
  exact⟨t,by rw[e];congr 2;omega⟩
theorem b1i (n:Nat) (s:Src):(b4q n s).1.length=n:=b7r _ _ _ _
theorem b2B (n:Nat) (hn:n≤1000) (s:Src) (j:Nat) (x:NodeD) (h:(b4q n s).1[j]?= some x):GoodN n j x:=by
 obtain⟨t,e⟩:=b7I n n 0 s j x h
 have hj:j<n:=by
  have:=(zak.1 h).1
  rwa[b1i] at this
 rw[e,zbg]
 exact c1a j n t (by omega) (by omega) (by omega)
theorem c7s {l:List NodeD} (hl:l.length≤1000) (h:∀ (j:Nat) (x:NodeD),l[j]?= some x→GoodN l.length j x):TSm l:=by
 refine⟨by omega,fun x hx=>?_,fun x hx=>?_⟩
 all_goals
  obtain⟨j,hj⟩:=zb5 hx
  have g:=h j x hj
  have h1:=g.kid
  have h2:=g.fld
  omega
theorem c3N (n:Nat) (hn:n≤1000) (s:Src):TSm (b4q n s).1:=by
  have hl:=b1i n s
  refine c7s (by omega) fun j x hx=>?_
  rw[hl]
  exact b2B n hn s j x hx
theorem c5p {b:Nat} {k:Int} {n:Nat} (hk:0≤k∧k<(n:Int)) (hb:b+n≤100000000):upI b k=k+b:=by
  unfold upI;rw[w64 (by omega)]
theorem b2C (q:Val→Int→Bool) (f:Int→Int):∀ (vs:List Val) (ks:List Int),((vs.zip (ks.map f)).all fun p=>q p.1 p.2)=(vs.zip ks).all fun p=>q p.1 (f p.2)
  |[],ks=>by simp
  |v::vs,[]=>by simp
  |v::vs,k::ks=>by simp only[zau,List.zip_cons_cons,List.all_cons,b2C q f vs ks]
theorem b7J {g g':Val→Int→Bool} {b:Int} {vs:List Val} {ks:List Int} (h:∀ v,∀ k∈ks,g' v (upI b k)=g v k):a4S g' vs (ks.map (upI b))=a4S g vs ks:=by
  unfold a4S
  rw[lB,b2C]
  congr 1
  refine a2X fun p hp=>?_
  obtain⟨a,c⟩:=p
  exact h a c (zdz hp).2
theorem b4S {α β:Type} (f:α→β) (p:β→Bool):∀ (l:List α) (i:Nat),a1F p i (l.map f)=a1F (fun x=>p (f x)) i l
  |[],i=>rfl
  |x::l,i=>by rw[zau,a1F,a1F,b4S f p l (i+1)]
theorem c3O (x:NodeD) (b:Int) (k:KeyD) (hk:x.kind=13):a73 (upN b x) k=upI b (a73 x k):=by
 have hf:a1F (fun f:FieldD=>a1t f.key k) 0 (upN b x).fields=a1F (fun f:FieldD=>a1t f.key k) 0 x.fields:=b4S (upF b) _ _ _
 cases h:decide (0≤a1F (fun f:FieldD=>a1t f.key k) 0 x.fields) with
 |true=>
  obtain⟨i,f,h1,h2,_⟩:=a5h _ x.fields 0 (of_decide_eq_true h)
  rw[zbg] at h1
  rw[a8G h1 h2]
  have h3:(upN b x).fields[i]?= some (upF b f):=by show (x.fields.map (upF b))[i]?= _;rw[zbv,h2];rfl
  rw[a8G (by rw[hf,h1]) h3];rfl
 |false=>
  rw[a8H h,a8H (by rw[hf];exact h)]
  simp only[upN,hk,zac,zaa]
  cases decide (k.kind=0)<;>rfl
theorem c1b (f:Int→Int) {l:List Int} (h:l≠[]):a5C (l.map f)=f (a5C l):=by
  unfold a5C
  have h1:l.length-1<l.length:=by have:=zd0.2 h;omega
  rw[lB,zbf,zbf,zbv,zav h1];rfl
theorem c7t (x:NodeD) (b:Int):edgeL (upN b x)=(edgeL x).map (upI b):=by
  unfold edgeL upN
  simp only[zbn,zcq]
  cases decide (x.kind=13)<;>rfl
theorem c7u {g g':Val→Int→Bool} {x:NodeD} {v:Val} {b:Int} (h:∀ p,∀ k∈edgeL x,g' p (upI b k)=g p k) (hk:a4Z x.kind=true∨x.kind=14→x.kids≠[]):memN g' (upN b x) v=memN g x v:=by
 have q:∀ p,∀ k∈x.kids,g' p (upI b k)=g p k:=fun p k hk=>h p k (a24 hk)
 have ag:a4S g' v.kids (upN b x).kids=a4S g v.kids x.kids:=b7J q
 have e:(upN b x).kind=x.kind:=rfl
 have e1:(upN b x).lo=x.lo:=rfl
 have e2:(upN b x).hi=x.hi:=rfl
 have e3:(upN b x).text=x.text:=rfl
 unfold memN
 rw[e,e1,e2,e3,ag]
 by_cases aa:x.kind=13
 ·rw[aa]
  simp only[Int.reduceEq,zad,zab,zac,zaa]
  congr 1
  unfold a9Y
  congr 1
  ·show ((x.fields.map (upF b)).all _)=_
   rw[zcy];rfl
  ·refine a2X fun p hp=>?_
   rw[c3O x b p.1 aa]
   exact h p.2 _ (a9m aa p.1)
 by_cases ab:x.kind=14
 ·have u:=hk (.inr ab)
  rw[ab]
  simp only[Int.reduceEq,zad,zab,zac,zaa]
  congr 1
  unfold b8O
  have ek:(upN b x).kids=x.kids.map (upI b):=rfl
  rw[ek,lB]
  congr 1
  refine a2X fun e he=>?_
  unfold b6p
  rw[lB,← List.map_take,c1b _ u,b7J fun p k hk=>q p k (zcp hk),q e.2.2 _ (b7G u)]
 have ek:(upN b x).kids=x.kids.map (upI b):=rfl
 by_cases af:x.kind=16
 ·rw[af]
  simp only[Int.reduceEq,zad,zab,zac,zaa]
  rw[ek,zd1]
  exact a6Z fun k hk=>q v k hk
 by_cases ae:x.kind=17
 ·rw[ae]
  simp only[Int.reduceEq,zad,zab,zac,zaa]
  rw[ek,zcy]
  exact a2X fun k hk=>q v k hk
 by_cases ad:x.kind=18
 ·have u:=hk (.inl (by rw[ad];rfl))
  rw[ad]
  simp only[Int.reduceEq,zad,zab,zac,zaa]
  have:(x.kids.map (upI b)).getD 0 0=upI b (x.kids.getD 0 0):=by
   cases ah:x.kids with
   |nil=>exact absurd ah u
   |cons a t=>rfl
  rw[ek,this,q v _ (b1e u)]
 simp only[aa,ab,af,ae,ad,zad,zab]
structure Emb (L s:List NodeD) (b:Nat):Prop where
  at_:∀ j,j<s.length→L[b+j]?= (s[j]?).map (upN b)
  len:b+s.length≤L.length
  big:L.length≤10000000
theorem Emb.mk_ {pre s post:List NodeD} (h:(pre++s.map (upN pre.length)++post).length≤10000000):Emb (pre++s.map (upN pre.length)++post) s pre.length where
 at_:=fun j hj=>by
  rw[zb1,zb0 (by omega),zd4,zcg (by rw[lB];exact hj),zbv]
 len:=by simp
 big:=h
theorem Emb.up {L s:List NodeD} {b:Nat} (h:Emb L s b) {k:Int} (hk:0≤k∧k<(s.length:Int)):upI b k=k+b:=by
  have:=h.len;have:=h.big
  exact c5p (n:=s.length) hk (by omega)
theorem Emb.node {L s:List NodeD} {b:Nat} (h:Emb L s b) {k:Int} (hk:0≤k∧k<(s.length:Int)):a3z L (upI b k)=upN b (a3z s k):=by
  rw[h.up hk]
  unfold a3z
  have h1:(k+(b:Int)).toNat=b+k.toNat:=by omega
  have h2:=h.at_ k.toNat (by omega)
  rw[h1,zbf,h2,zbf,zav (by omega)];rfl
theorem c1c {L s:List NodeD} {b R:Nat} (h:Emb L s b) (hs:Wf s R):∀ (f:Nat) (v:Val) (k:Int),0≤k∧k<(s.length:Int)→b3t L f v (upI b k)=b3t s f v k
 |0,v,k,_=>rfl
 |f+1,v,k,hk=>by
  rw[b3t,b3t,h.node hk]
  have hm:=inN hk
  exact c7u (fun p k' q=>c1c h hs f p k' (hs.edge _ hm k' q)) (hs.kids _ hm)
theorem c1d {L s:List NodeD} {b R:Nat} (h:Emb L s b) (hs:Wf s R) (v:Val) (k:Int) (hk:0≤k∧k<(s.length:Int)):a8I L v (upI b k)=a8I s v k:=by
  have e2:∀ f,b3t L f v (upI b k)=b3t s f v k:=fun f=>c1c h hs f v k hk
  have e3:(∃ F,∀ f,F≤f→b3t L f v (upI b k)=true)↔(∃ F,∀ f,F≤f→b3t s f v k=true):=by simp only[e2]
  unfold a8I
  exact decide_eq_decide.2 e3
theorem c3P (x:NodeD) (b:Int):a2Q (upN b x)=a2Q x:=by
 unfold a2Q a7e a5l
 have e:(upN b x).kind=x.kind:=rfl
 rw[e]
 cases q:decide (x.kind=13)
 ·simp only[upN,q,zab,lB]
 ·have:x.kind=13:=of_decide_eq_true q
  simp only[upN,this,Int.reduceEq,zac,zad,zaj,zaa,zab,lB,zap,zam]
theorem c1e (b:Int):∀ (l:List FieldD) (p:Option KeyD),b0n p (l.map (upF b))=b0n p l
 |[],p=>rfl
 |f::l,p=>by
  have ih:=c1e b l
  cases p<;>simp only[zau,b0n,ih]<;>rfl
theorem c1f (x:NodeD) (b:Int):a0G (upN b x)=a0G x:=by
  unfold a0G
  simp only[upN,lB,c1e]
  rfl
theorem b3u {L s:List NodeD} {b:Nat} (h:Emb L s b) {x:NodeD} (hx:a2P s x=true):a2P L (upN b x)=true:=by
  have:=h.len
  simp only[a2P,zag] at hx ⊢
  refine⟨by rw[c3P];exact hx.1,by rw[c1f];exact hx.2.1,?_⟩
  rw[c7t,zcy,za0]
  intro e he
  have h2:=za0.1 hx.2.2 e he
  simp only[a8e,zbm,zbx,zah] at h2
  have h3:=h.up (k:=e) (by omega)
  simp only[Function.comp_def,a8e,zbm,zbx,zah,h3]
  omega
theorem c1g {L s:List NodeD} {b R:Nat} (h:Emb L s b) (hs:Wf s R) {j:Nat} (hj:j<s.length) (hf:Gr.Fin (bo s) (ks s) j):Gr.Fin (bo L) (ks L) (b+j):=by
 unfold Gr.Fin at hf
 induction hf with
 |intro j _ ih=>
  have hx:s[j]?= some s[j]:=zav hj
  have hL:L[b+j]?= some (upN b s[j]):=by rw[h.at_ j hj,hx];rfl
  refine Gr.fin_of _ _ fun hb k hk=>?_
  have u:bo s j=true:=by unfold bo at hb ⊢; rw[hL] at hb;rw[hx];exact hb
  unfold ks at hk
  rw[hL] at hk
  obtain⟨y,hy,rfl⟩:=za3.1 hk
  obtain⟨z,hz,rfl⟩:=za3.1 (show y∈s[j].kids.map (upI b) from hy)
  have q:=hs.edge _ (zcd hj) z (a24 hz)
  rw[h.up q,show (z+(b:Int)).toNat=b+z.toNat by omega]
  refine ih z.toNat ⟨u,?_⟩ (by omega)
  unfold ks;rw[hx]
  exact zdc hz
theorem c3Q {l:List NodeD} {r:Int} (h0:0≤r) (hr:r<(l.length:Int)) (hn:∀ x∈l,a2P l x=true) (hf:∀ j,j<l.length→Gr.Fin (bo l) (ks l) j):wfP l r=0:=by
  have ho:a8e l r=false:=by simp only[a8e,zbx,zah];omega
  have ha:l.all (a2P l)=true:=za0.2 hn
  have hc:a8W l=true:=(Gr.all_iff (bo l) (ks l) l.length (c3B (b2S ha))).2 hf
  unfold wfP
  rw[ho,ha,hc];rfl
theorem b6v {l:List NodeD} {r:Int} (h:wfP l r=0):∀ j,j<l.length→Gr.Fin (bo l) (ks l) j:=by
  obtain⟨_,_,ha,hc⟩:=b2z h
  exact(Gr.all_iff (bo l) (ks l) l.length (c3B (b2S ha))).1 hc
end Go.Proofs.YtoelgackkclcmaaGreat
namespace Go.Sx
open Go.Ivl
def a5s (x:Rg):List C:=[.int .i64 x.lo, .int .i64 x.hi]
theorem a8K (x:Rg):a5s x=[.int .i64 x.lo, .int .i64 x.hi]:=rfl
@[go_sem] theorem d0P (x:Rg):a1H 2 (a5s x)=some (a5s x,[]):=by rfl
@[go_sem low] theorem c9O (x:Rg) (k:Nat):a1H k (a5s x)=a1H k [.int .i64 x.lo, .int .i64 x.hi]:=by rw[a8K]
@[go_sem] theorem c9P (x:Rg):a1H 2 ((a5s x).map Cell.dat)=some ((a5s x).map Cell.dat,[]):=by rfl
@[go_sem low] theorem c8L (x:Rg) (k:Nat):a1H k ((a5s x).map Cell.dat)=a1H k (([.int .i64 x.lo, .int .i64 x.hi]:List C).map Cell.dat):=by rw[a8K]
@[go_sem] theorem c9Q (x:Rg):(a5s x).map C.soft=a5s x:=by rfl
@[go_sem] theorem d0Q (x:Rg):a1Z 2 (a5s x)=true:=by rfl
@[go_sem high] theorem c8M (x:Rg) (n:Nat) (K:T→Prop):a5p false n (a5s x) K=K (.one (.dat (.int .i64 x.lo))):=by rw[a8K];rfl
@[go_sem high] theorem c8N (x:Rg) (n:Nat) (K:T→Prop):a5Y false n ((a5s x).map Cell.dat) K=K (.one (.dat (.int .i64 x.lo))):=by rw[a8K];rfl
@[go_sem] theorem c9R (x:Rg):a1Z 2 ((a5s x).map Cell.dat)=true:=by rfl
end Go.Sx
namespace Go.Proofs.YtoelgackkclcmaaGreat
open Go Go.Sx
open Go.Ivl
abbrev Sl (l:List Rg):T:= .one (.dat (.sl 2 (l.map a5s)))
theorem c9S (x y:Rg):PC zP 210 [.st (a5s x), .st (a5s y)] (I .i64 (a5Q x.lo y.lo)):=by
  refine PCB.ob Tryz.func210 Tryz.ntmps210 Tryz.results210 ?_
  repeat'(first|simp only[go_sem]<;>refine nf ?_|refine stp ?_;intro K hK|apply hK;clear hK K|refine stn ?_|(with_reducible refine⟨_,a3R _ _,?_⟩)|refine stq ?_|fail)
  all_goals(first|exact fun _ h=>absurd h zaf|refine a0m ?_)
theorem b1j (l:List Rg) (x:Rg):l.map a5s++[a5s x]=(l++[x]).map a5s:=by simp
abbrev Ow (k:Nat) (l:List Rg):T:= .one (.own k l.length)
abbrev Rw (k:Nat) (l:List Rg):Nat×Res:=(k, .row 2 (l.map a5s))
theorem c1h (a b:Int):([.int .i64 a, .int .i64 b]:List C)=a5s ⟨a,b⟩:=rfl
def c3R (x y:Rg):Int:=a5Q x.lo y.lo
theorem d0R (x y:Rg):ltOf c3R x y=decide (x.lo<y.lo):=by
  unfold ltOf c3R a5Q
  by_cases h1:x.lo<y.lo
  · simp[h1]
  · by_cases h2:y.lo<x.lo<;>simp[h1,h2]
theorem d05:Go.Sort.SWO (ltOf c3R) where
  irrefl x:=by rw[d0R];simp
  trans x y z h1 h2:=by rw[d0R] at *; simp at *; omega
  ntrans x y z h1 h2:=by rw[d0R] at *; simp at *; omega
instance:Inhabited Rg:=⟨⟨0,0⟩⟩
theorem sorts (l:List Rg) (h:l.length<4611686018427387904):∃ s:List Rg,s.Perm l∧s.Pairwise (fun x y=>x.lo≤y.lo)∧
  PCB zP 209 [.one (.own pin l.length), .one (.dat (.fn 210))] [(pin, .row 2 (l.map a5s))] (.tup []) [(pin, .row 2 (s.map a5s))]:=by
 obtain⟨s,h1,h2,h3⟩:=b8s Tryz.sortIv (k:=2) Tryz.isAgg130 Tryz.sizeOf130 a5s (fun _=>rfl) (fun _=>rfl) (fun x v hv=>by simp[a5s,valC] at hv;rcases hv with rfl|rfl<;>rfl) c3R d05 210 (c9S ⟨0,0⟩ ⟨0,0⟩).1 (fun x y W=>c9E x.lo x.hi y.lo y.hi W) l h
 refine⟨s,h1,h2.imp fun {x y} q=>?_,h3⟩
 rw[d0R] at q
 simpa using q
theorem b7K (i:List Rg) (q x:Rg):((i++[q]).map a5s).set i.length (a5s x)=(i++[x]).map a5s:=by
  rw[zbn,List.set_append_right _ _ (by simp)];simp
theorem b1k {i:List Rg} {q d:Rg} (h:q.hi=9223372036854775807∨d.lo≤q.hi+1):mergeStep (i++[q]) d=i++[⟨q.lo,if d.hi>q.hi then d.hi else q.hi⟩]:=by
  unfold mergeStep
  rw[List.getLast?_concat]
  simp only[h,za9,List.dropLast_concat]
  congr 3
  split<;>omega
theorem b6w {i:List Rg} {q d:Rg} (h:q.hi≠9223372036854775807) (h2:¬ d.lo≤q.hi+1):mergeStep (i++[q]) d=i++[q]++[d]:=by
  unfold mergeStep
  rw[List.getLast?_concat]
  simp only[h,h2,or_self,za2]
theorem c1i {i:List Rg} {q d:Rg} (h:∀ r∈i++[q],In6 r) (hd:In6 d):∀ r∈i++[(⟨q.lo,if d.hi>q.hi then d.hi else q.hi⟩:Rg)],In6 r:=by
 intro r hr
 rcases zbd.1 hr with hr|hr
 ·exact h r (zb7 _ hr)
 ·simp only[za7] at hr
  have:=h q (by simp)
  unfold In6 at*
  rw[hr];refine⟨this.1,?_⟩
  simp only;split
  ·exact hd.2
  ·exact this.2
theorem b6x (l:List Rg) (hl:∀ r∈l,In6 r) (a6:l.length≤100000):PC zP 151 [Sl l] (Sl (nf l)):=by
 refine PCB.ob Tryz.func151 Tryz.ntmps151 Tryz.results151 ?_
 refine AWP.ghQ ?_
 have ap:l.length≤9223372036854775807:=by omega
 repeat'(first|simp only[go_sem,lB]<;>refine nf ?_|refine stp ?_;intro K hK|apply hK;clear hK K|refine stn ?_|fail)
 refine xD (Gh.nilrow 3 900 rfl rfl rfl rfl) ?_
 refine AWP.loopS (X:=Nat×List Rg) (fun x=>[(12,I .i64 x.1),(11,I .i64 l.length),(10,Sl l),(3,Ow 900 x.2)]) (fun x=>[Rw 900 x.2])
  (fun x=>x.1≤l.length∧(l.filter fun r=>decide (r.lo≤r.hi))=x.2++((l.drop x.1).filter fun r=>decide (r.lo≤r.hi))∧x.2.length≤x.1) (fun x=>l.length-x.1) (0,[]) (Gh.tt []) ⟨zao _,rfl,zax _⟩ ?_
 rintro⟨k,al⟩ ⟨hk,hp,ho⟩
 simp only at hk hp ho
 by_cases an:k<l.length
 ·obtain⟨d,hd,u,hb,aa⟩:=a1A (enc:=a5s) an
  rw[aa,zcn] at hp
  cases aj:decide (d.lo≤d.hi)
  ·
   repeat'(first|simp only[go_sem,lB,hb,aj]<;>refine nf ?_|refine stp ?_;intro K hK|apply hK;clear hK K|refine stn ?_|(with_reducible refine⟨by omega,a5s d,u,?_⟩)|clear hK K)
   rw[a0b an ap]
   refine⟨(k+1,al),by simp only;omega,⟨by simp only;omega,by simpa [aj] using hp,by simp only;omega⟩,Gh.tt []⟩
  ·
   repeat'(first|simp only[go_sem,lB,hb,aj,b1j]<;>refine nf ?_|refine stp ?_;intro K hK|apply hK;clear hK K|refine stn ?_|(with_reducible first|refine⟨by omega,a5s d,u,?_⟩|refine⟨by omega,?_⟩)|refine stq ?_|clear hK K)
   rw[a0b an ap]
   refine⟨(k+1,al++[d]),by simp only;omega,⟨by simp only;omega,by simpa [aj] using hp,by simp;omega⟩,Gh.tt [(900,24)]⟩
 ·obtain⟨hb,aa⟩:=c3p an
  rw[aa,List.filter_nil,zbq] at hp
  obtain⟨s,ab,a2,aq⟩:=sorts al (by omega)
  have ak:al.length=s.length:=ab.length_eq.symm
  repeat'(first|simp only[go_sem,lB,hb]<;>refine nf ?_|refine stp ?_;intro K hK|apply hK;clear hK K|refine stn ?_|(apply Or.inr;refine⟨900,_,_,_,a1k.sorts 900 aq,rfl,?_⟩;simp only[go_sem])|refine stq ?_|clear hK K)
  refine xD (Gh.keep [28,29,30,6]) ?_
  simp only[go_sem,ak]
  refine xD (Gh.freeze 900 rfl rfl (by simp only[go_sem,lB,ak]) (by simp only[go_sem,lB,ak])) ?_
  simp only[go_sem,lB,ak]
  refine xD (Gh.nilrow 6 901 rfl rfl rfl rfl) ?_
  have az:∀ r∈s,In6 r∧r.lo≤r.hi:=fun r hr=>by
   have:=ab.mem_iff.1 hr
   rw[← hp] at this
   simp only[zc3,zan] at this
   exact⟨hl r this.1,this.2⟩
  have ax:s.foldl mergeStep []=nf l:=c3F hl (by rw[hp];exact ab) a2
  refine AWP.loopS (X:=Nat×List Rg) (fun x=>[(30,I .i64 x.1),(29,I .i64 s.length),(28,Sl s),(6,Ow 901 x.2)]) (fun x=>[Rw 901 x.2])
   (fun x=>x.1≤s.length∧nf l=(s.drop x.1).foldl mergeStep x.2∧x.2.length≤x.1∧∀ r∈x.2,In6 r) (fun x=>s.length-x.1) (0,[]) (Gh.tt []) ⟨zao _,ax.symm,zax _,by simp⟩ ?_
  rintro⟨m,o⟩ ⟨hm,hq,af,ai⟩
  simp only at hm hq af ai
  by_cases ae:m<s.length
  ·obtain⟨d,hd,u,ad,ar⟩:=a1A (enc:=a5s) ae
   rw[ar,List.foldl_cons] at hq
   have am:=az d (zbc hd)
   rcases List.eq_nil_or_concat o with rfl|⟨i,q,rfl⟩
   ·have ag:decide ((0:Int)≤IntKind.i64.wrap (0-1))=false:=by decide
    repeat'(first|simp only[go_sem,lB,ad,ag,b1j]<;>refine nf ?_|refine stp ?_;intro K hK|apply hK;clear hK K|refine stn ?_|(with_reducible refine⟨by omega,a5s d,u,?_⟩)|(refine a0J ?_;intro K hK)|refine stq ?_|clear hK K)
    rw[a0b ae (by omega)]
    refine⟨(m+1,[d]),by simp only;omega,⟨by simp only;omega,hq,by simp,by simpa using am.1⟩,Gh.tt [(901,73)]⟩
   ·rw[List.concat_eq_append] at*
    have hw:IntKind.i64.wrap (((i++[q]).length:Int)-1)=(i.length:Int):=by rw[w64 (by simp at af ⊢; omega)];simp
    have ag:decide ((0:Int)≤(i.length:Int))=true:=by simp
    have au:((i++[q]).map a5s)[i.length]?= some (a5s q):=by simp
    have a1:=ai q (by simp)
    unfold In6 at a1
    cases ah:decide (q.hi=9223372036854775807)
    ·have aw:q.hi≠9223372036854775807:=by simpa using ah
     have av:IntKind.i64.wrap (q.hi+1)=q.hi+1:=by rw[w64 (by omega)]
     cases ao:decide (d.lo≤q.hi+1)
     ·
      repeat'(first|simp only[go_sem,lB,ad,ag,hw,b1j,ah,av,ao]<;>refine nf ?_|refine stp ?_;intro K hK|apply hK;clear hK K|refine stn ?_|(with_reducible first|refine⟨by omega,a5s d,u,?_⟩|refine⟨a5s q,au,?_⟩|refine⟨by omega,?_⟩|(refine⟨by simp only[lA,lC,lD];omega,?_⟩))|(refine a0J ?_;intro K hK)|refine stq ?_|clear hK K)
      rw[a0b ae (by omega)]
      refine⟨(m+1,i++[q]++[d]),by simp only;omega,⟨by simp only;omega,?_,by simp at af ⊢; omega,?_⟩,Gh.tt [(901,73)]⟩
      ·rw[hq,b6w aw (by simpa using ao)]
      ·intro r hr
       rcases zbd.1 hr with hr|hr
       ·exact ai r hr
       ·simp only[za7] at hr;rw[hr];exact am.1
     ·
      repeat'(first|simp only[go_sem,lB,ad,ag,hw,b1j,ah,av,ao]<;>refine nf ?_|refine stp ?_;intro K hK|apply hK;clear hK K|refine stn ?_|(with_reducible first|refine⟨by omega,a5s d,u,?_⟩|refine⟨a5s q,au,?_⟩|refine⟨by omega,?_⟩|(refine⟨by simp only[lA,lC,lD];omega,?_⟩))|(with_reducible refine AWP.segP (id:=15) 12 mixed (by kernel_rfl) fun K hK=>?_;simp only[List.take_succ_cons,List.take_zero,zb4,zb2])|(refine a0J ?_;intro K hK)|clear hK K)
      rw[a0b ae (by omega)]
      simp only[c1h,b7K]
      refine⟨(m+1,i++[⟨q.lo,if d.hi>q.hi then d.hi else q.hi⟩]),by simp only;omega,⟨by simp only;omega,?_,by simp at af ⊢; omega,?_⟩,Gh.to [] ⟨rfl,rfl,rfl,?_,trivial⟩ (by repeat(first|exact trivial|refine⟨rfl,?_⟩|refine⟨by(simp only[go_sem,lA,lB,lC,lD,zbg])<;>rfl,?_⟩)) rfl rfl rfl⟩
      ·rw[hq,b1k (.inr (by simpa using ao))]
      ·exact c1i ai am.1
      ·show some (T.one (Cell.own 901 (i++[q]).length))=some (T.one (Cell.own 901 (i++[_]).length));simp
    ·
     repeat'(first|simp only[go_sem,lB,ad,ag,hw,b1j,ah]<;>refine nf ?_|refine stp ?_;intro K hK|apply hK;clear hK K|refine stn ?_|(with_reducible first|refine⟨by omega,a5s d,u,?_⟩|refine⟨a5s q,au,?_⟩|refine⟨by omega,?_⟩|(refine⟨by simp only[lA,lC,lD];omega,?_⟩))|(with_reducible refine AWP.segP (id:=15) 12 mixed (by kernel_rfl) fun K hK=>?_;simp only[List.take_succ_cons,List.take_zero,zb4,zb2])|(refine a0J ?_;intro K hK)|clear hK K)
     rw[a0b ae (by omega)]
     simp only[c1h,b7K]
     refine⟨(m+1,i++[⟨q.lo,if d.hi>q.hi then d.hi else q.hi⟩]),by simp only;omega,⟨by simp only;omega,?_,by simp at af ⊢; omega,?_⟩,Gh.to [] ⟨rfl,rfl,rfl,?_,trivial⟩ (by repeat(first|exact trivial|refine⟨rfl,?_⟩|refine⟨by(simp only[go_sem,lA,lB,lC,lD,zbg])<;>rfl,?_⟩)) rfl rfl rfl⟩
     ·rw[hq,b1k (.inl (by simpa using ah))]
     ·exact c1i ai am.1
     ·show some (T.one (Cell.own 901 (i++[q]).length))=some (T.one (Cell.own 901 (i++[_]).length));simp
  ·obtain⟨ad,ar⟩:=c3p ae
   rw[ar,List.foldl_nil] at hq
   repeat'(first|simp only[go_sem,lB,ad]<;>refine nf ?_|refine stp ?_;intro K hK|apply hK;clear hK K|refine stn ?_|clear hK K)
   refine⟨_,Gh.fz 901,?_⟩
   simp only[go_sem,lB]
   all_goals(first|exact fun _ h=>absurd h zaf|refine a0m ?_)
   all_goals rw[hq]
end Go.Proofs.YtoelgackkclcmaaGreat
namespace Go.Proofs.YtoelgackkclcmaaGreat
open Go Go.Sx
open Go.Ivl
def rgT (r:Rg):TyD:=([c0o r.lo r.hi],0)
def a9Z (l:List Rg):TyD:=a1o ((nf l).map rgT)
theorem c9T (a b:Int):PC zP 119 [.st [.int .i64 3, .int .i64 a, .int .i64 b, .str [], .sl 1 [], .sl 4 [], .int .i64 0, .int .i64 0]] (.st [.sl 8 ([c0o a b].map a0e), .int .i64 0]):=b0e (c0o a b)
theorem c3S (l:List TyD) (r:Rg):l.map a1Q++[[.sl 8 [a0e (c0o r.lo r.hi)], .int .i64 0]]=(l++[rgT r]).map a1Q:=by rw[zbn];rfl
theorem a62 (x:NodeD) (hk:x.kids=[]) (hf:x.fields=[]):TSm [x]:=by
  refine⟨by simp,fun y hy=>?_,fun y hy=>?_⟩<;>(simp only[za7] at hy;subst hy;simp[hk,hf])
theorem c9U (l:List Rg) (hl:∀ r∈l,In6 r) (ae:l.length≤100000):PC zP 89 [Sl l] (Yp (a9Z l)):=by
 have hN:=b6x l hl ae
 have ad:=nf_len l
 have hS:TyS 2 ((nf l).map rgT):=⟨fun t ht=>by
  obtain⟨r,_,rfl⟩:=za3.1 ht
  exact⟨a62 _ rfl rfl,by simp[rgT]⟩,by rw[lB];omega⟩
 have hU:PC zP 69 [.one (.dat (.sl 2 (((nf l).map rgT).map a1Q)))] (Yp (a1o ((nf l).map rgT))):=c05 _ hS
 unfold a9Z
 obtain⟨s,hs⟩:∃ s,s=nf l:=⟨_,rfl⟩
 rw[← hs] at hN ad hU ⊢
 obtain⟨U,ab⟩:∃ U,U=a1o (s.map rgT):=⟨_,rfl⟩
 rw[← ab] at hU ⊢
 refine PCB.ob Tryz.func89 Tryz.ntmps89 Tryz.results89 ?_
 repeat'(first|simp only[go_sem,lB]<;>refine nf ?_|refine stp ?_;intro K hK|apply hK;clear hK K|refine stn ?_|(with_reducible refine⟨_,hN,?_⟩)|refine stq ?_|fail)
 refine xD (Gh.nilrow 3 901 rfl rfl rfl rfl) ?_
 refine AWP.len 7 rfl fun u=>?_
 (try rw[lB] at u)
 refine AWP.range (S:=List TyD) (s) a5s (fun k y=>(9,I .i64 (k:Nat))::[(3, .one (.own 901 y.length))]) (fun k y=>[(901, .row 2 (y.map a1Q))]) [2,7,8] [2] (fun k y=>Is y ((s.take k).map rgT)) ([]) (by refine sts ?_;exact Gh.tt []) ?_ ?_ ?_
 ·rfl
 ·intro k y r aa hr af hb q
  refine sts ?_
  unfold Is at q
  have ag:y.length≤100000:=by rw[q,lB,lQ];omega
  repeat'(first|simp only[go_sem,lB,hb,a8K,c3S]<;>refine nf ?_|refine stp ?_;intro K hK|apply hK;clear hK K|refine stn ?_|(with_reducible first|refine⟨(by omega:_≤_),a5s r,af,?_⟩|refine⟨_,c9T r.lo r.hi,?_⟩|(refine⟨(by first|omega|(simp only[lA,lB,lQ,za1,lC,lD,za4];omega):_≤_),?_⟩))|refine stq ?_|clear hK K)
  all_goals(rw[a0b aa u])
  all_goals(refine⟨y++[rgT r],?_,Gh.tt [(901,21)]⟩)
  all_goals(unfold Is;rw[q,zdb aa,(zak.1 hr).2];simp)
 ·intro y hb q
  refine sts ?_
  unfold Is at q
  rw[zbh] at q
  subst q
  refine xD (Gh.fz 901) ?_
  simp only[go_sem,lB]
  repeat'(first|simp only[go_sem,lB,hb,a1Q]<;>refine nf ?_|refine stp ?_;intro K hK|apply hK;clear hK K|refine stn ?_|(with_reducible refine⟨_,hU,?_⟩)|refine stq ?_|clear hK K)
  all_goals(refine a0m ?_;rfl)
end Go.Proofs.YtoelgackkclcmaaGreat

