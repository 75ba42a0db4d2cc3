/- Lemmas of the proof. -/
import Derived.Test.YthbcdhfiibpeaaaGreatTm11
import Derived.Test.YthbcdhfiibpeaaaGreatTm34
open List renaming length_append→lA,length_map→lB,length_cons→lC,length_nil→lD
open Go.Sx.AWP renaming gh→xD
open Nat renaming reduceBEq→zA,reduceBNe→zB,reduceAdd→zC,reduceSub→zD,reduceMul→zE,reduceLeDiff→zF,reduceLT→zG,reduceEqDiff→zH
open Int renaming reduceToNat→zI,reduceLE→zJ,reduceLT→zK,reduceEq→zL
open Bool renaming not_eq_true'→zM,not_eq_false'→zN
set_option linter.unusedSimpArgs false
set_option linter.unusedVariables false
set_option maxRecDepth 20000
set_option maxHeartbeats 64000000
namespace Go.Sx
open Go.Ivl
def a3q (x:Rg):List C:=[.int .i64 x.lo, .int .i64 x.hi]
theorem a4d (x:Rg):a3q x=[.int .i64 x.lo, .int .i64 x.hi]:=rfl
@[go_sem] theorem c7F (x:Rg):a1k 2 (a3q x)=some (a3q x,[]):=by rfl
@[go_sem low] theorem c6U (x:Rg) (k:Nat):a1k k (a3q x)=a1k k [.int .i64 x.lo, .int .i64 x.hi]:=by rw[a4d]
@[go_sem] theorem c6V (x:Rg):a1k 2 ((a3q x).map Cell.dat)=some ((a3q x).map Cell.dat,[]):=by rfl
@[go_sem low] theorem c5F (x:Rg) (k:Nat):a1k k ((a3q x).map Cell.dat)=a1k k (([.int .i64 x.lo, .int .i64 x.hi]:List C).map Cell.dat):=by rw[a4d]
@[go_sem] theorem c6W (x:Rg):(a3q x).map C.soft=a3q x:=by rfl
@[go_sem] theorem c7G (x:Rg):a1C 2 (a3q x)=true:=by rfl
@[go_sem high] theorem c5G (x:Rg) (n:Nat) (K:T→Prop):a4v false n (a3q x) K=K (.one (.dat (.int .i64 x.lo))):=by rw[a4d];rfl
@[go_sem high] theorem c5H (x:Rg) (n:Nat) (K:T→Prop):a5n false n ((a3q x).map Cell.dat) K=K (.one (.dat (.int .i64 x.lo))):=by rw[a4d];rfl
@[go_sem] theorem c6X (x:Rg):a1C 2 ((a3q x).map Cell.dat)=true:=by rfl
end Go.Sx
namespace Go.Proofs.YthbcdhfiibpeaaaGreat
open Go Go.Sx
open Go.Ivl
abbrev Sl (l:List Rg):T:= .one (.dat (.sl 2 (l.map a3q)))
theorem c6Y (x y:Rg):PC Tryz.prog 115 [.st (a3q x), .st (a3q y)] (I .i64 (a3V x.lo y.lo)):=by
  refine PCB.ob Tryz.func115 Tryz.ntmps115 Tryz.results115 ?_
  repeat'(first|(simp only[go_sem,zA,zB,zC,zD,zE,zF,zG,reduceCtorEq,zH,zI,zJ,zK,zL];all_goals refine nf ?_)|(refine stp ?_;intro K hK)|(apply hK;clear hK K)|refine stn ?_|(with_reducible refine⟨_,b6y _ _,?_⟩)|refine stq ?_|fail)
  all_goals(first|exact fun _ h=>absurd h List.not_mem_nil|refine a0m ?_)
theorem a92 (l:List Rg) (x:Rg):l.map a3q++[a3q x]=(l++[x]).map a3q:=by simp
abbrev Ow (k:Nat) (l:List Rg):T:= .one (.own k l.length)
abbrev Rw (k:Nat) (l:List Rg):Nat×Res:=(k, .row 2 (l.map a3q))
theorem b82 (a b:Int):([.int .i64 a, .int .i64 b]:List C)=a3q ⟨a,b⟩:=rfl
def c1z (x y:Rg):Int:=a3V x.lo y.lo
theorem c7H (x y:Rg):ltOf c1z x y=decide (x.lo<y.lo):=by
  unfold ltOf c1z a3V
  by_cases h1:x.lo<y.lo
  · simp[h1]
  · by_cases h2:y.lo<x.lo<;>simp[h1,h2]
theorem c75:Go.Sort.SWO (ltOf c1z) where
  irrefl x:=by rw[c7H];simp
  trans x y z h1 h2:=by rw[c7H] at *; simp at *; omega
  ntrans x y z h1 h2:=by rw[c7H] at *; simp at *; omega
instance:Inhabited Rg:=⟨⟨0,0⟩⟩
theorem sorts (l:List Rg) (h:l.length<4611686018427387904):∃ s:List Rg,s.Perm l∧s.Pairwise (fun x y=>x.lo≤y.lo)∧
  PCB Tryz.prog 114 [.one (.own pin l.length), .one (.dat (.fn 115))] [(pin, .row 2 (l.map a3q))] (.tup []) [(pin, .row 2 (s.map a3q))]:=by
 obtain⟨s,h1,h2,h3⟩:=b7p Tryz.sortIv (k:=2) Tryz.isAgg83 Tryz.sizeOf83 a3q (fun _=>rfl) (fun _=>rfl) (fun x v hv=>by simp[a3q,valC] at hv;rcases hv with rfl|rfl<;>rfl) c1z c75 115 (c6Y ⟨0,0⟩ ⟨0,0⟩).1 (fun x y W=>c6s x.lo x.hi y.lo y.hi W) l h
 refine⟨s,h1,h2.imp fun {x y} hxy=>?_,h3⟩
 rw[c7H] at hxy
 simpa using hxy
theorem b5P (i:List Rg) (q x:Rg):((i++[q]).map a3q).set i.length (a3q x)=(i++[x]).map a3q:=by
  rw[List.map_append,List.set_append_right _ _ (by simp)];simp
theorem a93 {i:List Rg} {q d:Rg} (h:q.hi=9223372036854775807∨d.lo≤q.hi+1):mergeStep (i++[q]) d=i++[⟨q.lo,if d.hi>q.hi then d.hi else q.hi⟩]:=by
  unfold mergeStep
  rw[List.getLast?_concat]
  simp only[h,if_true,List.dropLast_concat]
  congr 3
  split<;>omega
theorem b4J {i:List Rg} {q d:Rg} (h:q.hi≠9223372036854775807) (h2:¬ d.lo≤q.hi+1):mergeStep (i++[q]) d=i++[q]++[d]:=by
  unfold mergeStep
  rw[List.getLast?_concat]
  simp only[h,h2,or_self,if_false]
theorem b83 {i:List Rg} {q d:Rg} (h:∀ r∈i++[q],In6 r) (hd:In6 d):∀ r∈i++[(⟨q.lo,if d.hi>q.hi then d.hi else q.hi⟩:Rg)],In6 r:=by
 intro r hr
 rcases List.mem_append.1 hr with hr|hr
 ·exact h r (List.mem_append_left _ hr)
 ·simp only[List.mem_singleton] at hr
  have:=h q (by simp)
  unfold In6 at*
  rw[hr];refine⟨this.1,?_⟩
  simp only;split
  ·exact hd.2
  ·exact this.2
theorem b4K (l:List Rg) (hl:∀ r∈l,In6 r) (hsz:l.length≤100000):PC Tryz.prog 76 [Sl l] (Sl (nf l)):=by
 refine PCB.ob Tryz.func76 Tryz.ntmps76 Tryz.results76 ?_
 refine AWP.ghQ ?_
 have hlen:l.length≤9223372036854775807:=by omega
 repeat'(first|(simp only[go_sem,zA,zB,zC,zD,zE,zF,zG,reduceCtorEq,zH,zI,zJ,zK,zL,lB];all_goals refine nf ?_)|(refine stp ?_;intro K hK)|(apply hK;clear hK K)|refine stn ?_|fail)
 refine xD (Gh.nilrow 3 900 rfl rfl rfl rfl) ?_
 refine AWP.loopS (X:=Nat×List Rg) (fun x=>[(12,I .i64 x.1),(11,I .i64 l.length),(10,Sl l),(3,Ow 900 x.2)]) (fun x=>[Rw 900 x.2])
  (fun x=>x.1≤l.length∧(l.filter fun r=>decide (r.lo≤r.hi))=x.2++((l.drop x.1).filter fun r=>decide (r.lo≤r.hi))∧x.2.length≤x.1) (fun x=>l.length-x.1) (0,[]) (Gh.tt []) ⟨Nat.zero_le _,rfl,Nat.le_refl _⟩ ?_
 rintro⟨k,out⟩ ⟨hk,hp,ho⟩
 simp only at hk hp ho
 by_cases hlt:k<l.length
 ·obtain⟨d,hd,hd',hb,hdrop⟩:=a4M (enc:=a3q) hlt
  rw[hdrop,List.filter_cons] at hp
  cases hle:decide (d.lo≤d.hi)
  ·
   repeat'(first|(simp only[go_sem,zA,zB,zC,zD,zE,zF,zG,reduceCtorEq,zH,zI,zJ,zK,zL,lB,hb,hle];all_goals refine nf ?_)|(refine stp ?_;intro K hK)|(apply hK;clear hK K)|refine stn ?_|(with_reducible refine⟨by omega,a3q d,hd',?_⟩)|(clear hK K))
   rw[a0d hlt hlen]
   refine⟨(k+1,out),by simp only;omega,⟨by simp only;omega,by simpa [hle] using hp,by simp only;omega⟩,Gh.tt []⟩
  ·
   repeat'(first|(simp only[go_sem,zA,zB,zC,zD,zE,zF,zG,reduceCtorEq,zH,zI,zJ,zK,zL,lB,hb,hle,a92];all_goals refine nf ?_)|(refine stp ?_;intro K hK)|(apply hK;clear hK K)|refine stn ?_|(with_reducible first|refine⟨by omega,a3q d,hd',?_⟩|refine⟨by omega,?_⟩)|refine stq ?_|(clear hK K))
   rw[a0d hlt hlen]
   refine⟨(k+1,out++[d]),by simp only;omega,⟨by simp only;omega,by simpa [hle] using hp,by simp;omega⟩,Gh.tt [(900,24)]⟩
 ·obtain⟨hb,hdrop⟩:=c7g hlt
  rw[hdrop,List.filter_nil,List.append_nil] at hp
  obtain⟨s,hperm,hpw,hsort⟩:=sorts out (by omega)
  have hsl:out.length=s.length:=hperm.length_eq.symm
  repeat'(first|(simp only[go_sem,zA,zB,zC,zD,zE,zF,zG,reduceCtorEq,zH,zI,zJ,zK,zL,lB,hb];all_goals refine nf ?_)|(refine stp ?_;intro K hK)|(apply hK;clear hK K)|refine stn ?_|(apply Or.inr;refine⟨900,_,_,_,a2f.sorts 900 hsort,rfl,?_⟩;simp only[go_sem,zA,zB,zC,zD,zE,zF,zG,reduceCtorEq,zH,zI,zJ,zK,zL])|refine stq ?_|(clear hK K))
  refine xD (Gh.keep [28,29,30,6]) ?_
  simp only[go_sem,zA,zB,zC,zD,zE,zF,zG,reduceCtorEq,zH,zI,zJ,zK,zL,hsl]
  refine xD (Gh.freeze 900 rfl rfl (by simp only[go_sem,zA,zB,zC,zD,zE,zF,zG,reduceCtorEq,zH,zI,zJ,zK,zL,lB,hsl]) (by simp only[go_sem,zA,zB,zC,zD,zE,zF,zG,reduceCtorEq,zH,zI,zJ,zK,zL,lB,hsl])) ?_
  simp only[go_sem,zA,zB,zC,zD,zE,zF,zG,reduceCtorEq,zH,zI,zJ,zK,zL,lB,hsl]
  refine xD (Gh.nilrow 6 901 rfl rfl rfl rfl) ?_
  have hs6:∀ r∈s,In6 r∧r.lo≤r.hi:=fun r hr=>by
   have:=hperm.mem_iff.1 hr
   rw[← hp] at this
   simp only[List.mem_filter,decide_eq_true_eq] at this
   exact⟨hl r this.1,this.2⟩
  have hfin:s.foldl mergeStep []=nf l:=c2i hl (by rw[hp];exact hperm) hpw
  refine AWP.loopS (X:=Nat×List Rg) (fun x=>[(30,I .i64 x.1),(29,I .i64 s.length),(28,Sl s),(6,Ow 901 x.2)]) (fun x=>[Rw 901 x.2])
   (fun x=>x.1≤s.length∧nf l=(s.drop x.1).foldl mergeStep x.2∧x.2.length≤x.1∧∀ r∈x.2,In6 r) (fun x=>s.length-x.1) (0,[]) (Gh.tt []) ⟨Nat.zero_le _,hfin.symm,Nat.le_refl _,by simp⟩ ?_
  rintro⟨m,o⟩ ⟨hm,hq,hol,ho6⟩
  simp only at hm hq hol ho6
  by_cases hlm:m<s.length
  ·obtain⟨d,hd,hd',hb2,hdx⟩:=a4M (enc:=a3q) hlm
   rw[hdx,List.foldl_cons] at hq
   have hd6:=hs6 d (List.mem_of_getElem? hd)
   rcases List.eq_nil_or_concat o with rfl|⟨i,q,rfl⟩
   ·have hge:decide ((0:Int)≤IntKind.i64.wrap (0-1))=false:=by decide
    repeat'(first|(simp only[go_sem,zA,zB,zC,zD,zE,zF,zG,reduceCtorEq,zH,zI,zJ,zK,zL,lB,hb2,hge,a92];all_goals refine nf ?_)|(refine stp ?_;intro K hK)|(apply hK;clear hK K)|refine stn ?_|(with_reducible refine⟨by omega,a3q d,hd',?_⟩)|(refine a0M ?_;intro K hK)|refine stq ?_|(clear hK K))
    rw[a0d hlm (by omega)]
    refine⟨(m+1,[d]),by simp only;omega,⟨by simp only;omega,hq,by simp,by simpa using hd6.1⟩,Gh.tt [(901,73)]⟩
   ·rw[List.concat_eq_append] at*
    have hw:IntKind.i64.wrap (((i++[q]).length:Int)-1)=(i.length:Int):=by rw[w64 (by simp at hol ⊢; omega)];simp
    have hge:decide ((0:Int)≤(i.length:Int))=true:=by simp
    have hq':((i++[q]).map a3q)[i.length]?= some (a3q q):=by simp
    have hq6:=ho6 q (by simp)
    unfold In6 at hq6
    cases hmx:decide (q.hi=9223372036854775807)
    ·have hmx':q.hi≠9223372036854775807:=by simpa using hmx
     have hwr:IntKind.i64.wrap (q.hi+1)=q.hi+1:=by rw[w64 (by omega)]
     cases hlo:decide (d.lo≤q.hi+1)
     ·
      repeat'(first|(simp only[go_sem,zA,zB,zC,zD,zE,zF,zG,reduceCtorEq,zH,zI,zJ,zK,zL,lB,hb2,hge,hw,a92,hmx,hwr,hlo];all_goals refine nf ?_)|(refine stp ?_;intro K hK)|(apply hK;clear hK K)|refine stn ?_|(with_reducible first|refine⟨by omega,a3q d,hd',?_⟩|refine⟨a3q q,hq',?_⟩|refine⟨by omega,?_⟩|(refine⟨by simp only[lA,lC,lD];omega,?_⟩))|(refine a0M ?_;intro K hK)|refine stq ?_|(clear hK K))
      rw[a0d hlm (by omega)]
      refine⟨(m+1,i++[q]++[d]),by simp only;omega,⟨by simp only;omega,?_,by simp at hol ⊢; omega,?_⟩,Gh.tt [(901,73)]⟩
      ·rw[hq,b4J hmx' (by simpa using hlo)]
      ·intro r hr
       rcases List.mem_append.1 hr with hr|hr
       ·exact ho6 r hr
       ·simp only[List.mem_singleton] at hr;rw[hr];exact hd6.1
     ·
      repeat'(first|(simp only[go_sem,zA,zB,zC,zD,zE,zF,zG,reduceCtorEq,zH,zI,zJ,zK,zL,lB,hb2,hge,hw,a92,hmx,hwr,hlo];all_goals refine nf ?_)|(refine stp ?_;intro K hK)|(apply hK;clear hK K)|refine stn ?_|(with_reducible first|refine⟨by omega,a3q d,hd',?_⟩|refine⟨a3q q,hq',?_⟩|refine⟨by omega,?_⟩|(refine⟨by simp only[lA,lC,lD];omega,?_⟩))|(with_reducible refine AWP.segP (id:=15) 12 mixed (by kernel_rfl) fun K hK=>?_;simp only[List.take_succ_cons,List.take_zero,List.drop_succ_cons,List.drop_zero])|(refine a0M ?_;intro K hK)|(clear hK K))
      rw[a0d hlm (by omega)]
      simp only[b82,b5P]
      refine⟨(m+1,i++[⟨q.lo,if d.hi>q.hi then d.hi else q.hi⟩]),by simp only;omega,⟨by simp only;omega,?_,by simp at hol ⊢; omega,?_⟩,Gh.to [] ⟨rfl,rfl,rfl,?_,trivial⟩ (by repeat(first|exact trivial|refine⟨rfl,?_⟩|refine⟨by(simp only[go_sem,zA,zB,zC,zD,zE,zF,zG,reduceCtorEq,zH,zI,zJ,zK,zL,lA,lB,lC,lD,Nat.zero_add])<;>rfl,?_⟩)) rfl rfl rfl⟩
      ·rw[hq,a93 (.inr (by simpa using hlo))]
      ·exact b83 ho6 hd6.1
      ·show some (T.one (Cell.own 901 (i++[q]).length))=some (T.one (Cell.own 901 (i++[_]).length));simp
    ·
     repeat'(first|(simp only[go_sem,zA,zB,zC,zD,zE,zF,zG,reduceCtorEq,zH,zI,zJ,zK,zL,lB,hb2,hge,hw,a92,hmx];all_goals refine nf ?_)|(refine stp ?_;intro K hK)|(apply hK;clear hK K)|refine stn ?_|(with_reducible first|refine⟨by omega,a3q d,hd',?_⟩|refine⟨a3q q,hq',?_⟩|refine⟨by omega,?_⟩|(refine⟨by simp only[lA,lC,lD];omega,?_⟩))|(with_reducible refine AWP.segP (id:=15) 12 mixed (by kernel_rfl) fun K hK=>?_;simp only[List.take_succ_cons,List.take_zero,List.drop_succ_cons,List.drop_zero])|(refine a0M ?_;intro K hK)|(clear hK K))
     rw[a0d hlm (by omega)]
     simp only[b82,b5P]
     refine⟨(m+1,i++[⟨q.lo,if d.hi>q.hi then d.hi else q.hi⟩]),by simp only;omega,⟨by simp only;omega,?_,by simp at hol ⊢; omega,?_⟩,Gh.to [] ⟨rfl,rfl,rfl,?_,trivial⟩ (by repeat(first|exact trivial|refine⟨rfl,?_⟩|refine⟨by(simp only[go_sem,zA,zB,zC,zD,zE,zF,zG,reduceCtorEq,zH,zI,zJ,zK,zL,lA,lB,lC,lD,Nat.zero_add])<;>rfl,?_⟩)) rfl rfl rfl⟩
     ·rw[hq,a93 (.inl (by simpa using hmx))]
     ·exact b83 ho6 hd6.1
     ·show some (T.one (Cell.own 901 (i++[q]).length))=some (T.one (Cell.own 901 (i++[_]).length));simp
  ·obtain⟨hb2,hdx⟩:=c7g hlm
   rw[hdx,List.foldl_nil] at hq
   repeat'(first|(simp only[go_sem,zA,zB,zC,zD,zE,zF,zG,reduceCtorEq,zH,zI,zJ,zK,zL,lB,hb2];all_goals refine nf ?_)|(refine stp ?_;intro K hK)|(apply hK;clear hK K)|refine stn ?_|(clear hK K))
   refine⟨_,Gh.fz 901,?_⟩
   simp only[go_sem,zA,zB,zC,zD,zE,zF,zG,reduceCtorEq,zH,zI,zJ,zK,zL,lB]
   all_goals(first|exact fun _ h=>absurd h List.not_mem_nil|refine a0m ?_)
   all_goals rw[hq]
end Go.Proofs.YthbcdhfiibpeaaaGreat
namespace Go.Proofs.YthbcdhfiibpeaaaGreat
open Go Go.Sx
open Go.Ivl
def rgT (r:Rg):TyD:=([b37 r.lo r.hi],0)
def a5L (l:List Rg):TyD:=a1e ((nf l).map rgT)
theorem c6Z (a b:Int):PC Tryz.prog 66 [.st [.int .i64 3, .int .i64 a, .int .i64 b, .str [], .sl 1 [], .sl 4 [], .int .i64 0, .int .i64 0]] (.st [.sl 8 ([b37 a b].map a0c), .int .i64 0]):=a7m (b37 a b)
theorem c1A (l:List TyD) (r:Rg):l.map a1N++[[.sl 8 [a0c (b37 r.lo r.hi)], .int .i64 0]]=(l++[rgT r]).map a1N:=by rw[List.map_append];rfl
theorem a5l (x:NodeD) (hk:x.kids=[]) (hf:x.fields=[]):TSm [x]:=by
  refine⟨by simp,fun y hy=>?_,fun y hy=>?_⟩<;>(simp only[List.mem_singleton] at hy;subst hy;simp[hk,hf])
theorem c2I (l:List Rg) (hl:∀ r∈l,In6 r) (hsz:l.length≤100000):PC Tryz.prog 33 [Sl l] (Yp (a5L l)):=by
 have hN:=b4K l hl hsz
 have hnl:=nf_len l
 have hS:TyS 2 ((nf l).map rgT):=⟨fun t ht=>by
  obtain⟨r,_,rfl⟩:=List.mem_map.1 ht
  exact⟨a5l _ rfl rfl,by simp[rgT]⟩,by rw[lB];omega⟩
 have hU:PC Tryz.prog 18 [.one (.dat (.sl 2 (((nf l).map rgT).map a1N)))] (Yp (a1e ((nf l).map rgT))):=b8X _ hS
 unfold a5L
 obtain⟨s,hs⟩:∃ s,s=nf l:=⟨_,rfl⟩
 rw[← hs] at hN hnl hU ⊢
 obtain⟨U,hUe⟩:∃ U,U=a1e (s.map rgT):=⟨_,rfl⟩
 rw[← hUe] at hU ⊢
 refine PCB.ob Tryz.func33 Tryz.ntmps33 Tryz.results33 ?_
 repeat'(first|(simp only[go_sem,zA,zB,zC,zD,zE,zF,zG,reduceCtorEq,zH,zI,zJ,zK,zL,lB];all_goals refine nf ?_)|(refine stp ?_;intro K hK)|(apply hK;clear hK K)|refine stn ?_|(with_reducible refine⟨_,hN,?_⟩)|refine stq ?_|fail)
 refine xD (Gh.nilrow 3 901 rfl rfl rfl rfl) ?_
 refine AWP.len 7 rfl fun hlen0=>?_
 (try rw[lB] at hlen0)
 refine AWP.range (S:=List TyD) (s) a3q (fun k y=>(9,I .i64 (k:Nat))::[(3, .one (.own 901 y.length))]) (fun k y=>[(901, .row 2 (y.map a1N))]) [2,7,8] [2] (fun k y=>Is y ((s.take k).map rgT)) ([]) (by refine sts ?_;exact Gh.tt []) ?_ ?_ ?_
 ·rfl
 ·intro k y r hlt hr hr' hb hok
  refine sts ?_
  unfold Is at hok
  have hyl:y.length≤100000:=by rw[hok,lB,List.length_take];omega
  repeat'(first|(simp only[go_sem,zA,zB,zC,zD,zE,zF,zG,reduceCtorEq,zH,zI,zJ,zK,zL,lB,hb,a4d,c1A];all_goals refine nf ?_)|(refine stp ?_;intro K hK)|(apply hK;clear hK K)|refine stn ?_|(with_reducible first|refine⟨(by omega:_≤_),a3q r,hr',?_⟩|refine⟨_,c6Z r.lo r.hi,?_⟩|(refine⟨(by first|omega|(simp only[lA,lB,List.length_take,List.length_drop,lC,lD,List.length_replicate];omega):_≤_),?_⟩))|refine stq ?_|(clear hK K))
  all_goals(rw[a0d hlt hlen0])
  all_goals(refine⟨y++[rgT r],?_,Gh.tt [(901,21)]⟩)
  all_goals(unfold Is;rw[hok,List.take_succ_eq_append_getElem hlt,(List.getElem?_eq_some_iff.1 hr).2];simp)
 ·intro y hb hok
  refine sts ?_
  unfold Is at hok
  rw[List.take_length] at hok
  subst hok
  refine xD (Gh.fz 901) ?_
  simp only[go_sem,zA,zB,zC,zD,zE,zF,zG,reduceCtorEq,zH,zI,zJ,zK,zL,lB]
  repeat'(first|(simp only[go_sem,zA,zB,zC,zD,zE,zF,zG,reduceCtorEq,zH,zI,zJ,zK,zL,lB,hb,a1N];all_goals refine nf ?_)|(refine stp ?_;intro K hK)|(apply hK;clear hK K)|refine stn ?_|(with_reducible refine⟨_,hU,?_⟩)|refine stq ?_|(clear hK K))
  all_goals(refine a0m ?_;rfl)
end Go.Proofs.YthbcdhfiibpeaaaGreat

