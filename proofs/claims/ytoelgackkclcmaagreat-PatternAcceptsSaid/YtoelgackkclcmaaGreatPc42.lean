/- Lemmas. -/
import Derived.Test.YtoelgackkclcmaaGreatPc27
import Derived.Test.YtoelgackkclcmaaGreatPc38
open List renaming length_map→lB,mem_singleton→lN
set_option linter.unusedSimpArgs false
set_option linter.unusedVariables false
set_option maxRecDepth 20000
set_option maxHeartbeats 64000000
namespace Go.Proofs.YtoelgackkclcmaaGreat
open Go Go.Sx
abbrev c9V (n:Nat):Res:= .cells [.dat (.int .i64 0), .dat (.int .i64 0), .dat (.str []), .own 900 n, .dat (.nil 2), .dat (.nil 9), .dat (.nil 1)]
theorem a9p {α:Type} {l:List α} {i:Nat} {y:α} (hy:l[i]?= some y):l.drop i=y::l.drop (i+1):=by
  obtain⟨q,e⟩:=zak.1 hy
  rw[za8 q,e]
theorem c3T (l:List NodeD) (r:Int) (g nx:Int→Src→Val×Src) (h:Nat) (H:b1L l r g (h:Int)) (hg:∀ k s,s.ok→(g k s).2.ok) (hh:h≤1000) (al:l.length≤1000) (x:NodeD) (k:Nat) (hx:l[k]?= some x) (hk:x.kind=10) (af:∀ k∈x.kids,0≤k∧k<(l.length:Int)) (ao:x.kids.length≤1000) (s:Src) (hs:s.ok):a1b l r (a1Y l g nx x) h k s:=by
 have ae:=a0y a0e hx
 have an:k<l.length:=(zak.1 hx).1
 have ah:decide (((h+1:Nat):Int)≤0)=false:=by rw[zah];omega
 have ag:decide ((k:Int)<0)=false:=by rw[zah];omega
 have ak:decide ((l.length:Int)≤(k:Int))=false:=by rw[zah];omega
 unfold a1b a1Y
 simp only[hk,Int.reduceEq,zac,zad,zaa,zab]
 have hw:IntKind.i64.wrap (((h+1:Nat):Int)-1)=(h:Int):=by rw[w64 (by omega)];omega
 refine PCB.ob Tryz.func83 Tryz.ntmps83 Tryz.results83 ?_
 repeat'(first|simp only[go_sem,pin,ah,ag,ak,hk,lB,a0d]<;>refine nf ?_|refine stp ?_;intro K hK|apply hK;clear hK K|refine stn ?_|(with_reducible refine⟨by omega,a0e x,ae,?_⟩)|fail)
 refine AWP.gh (Gh.nilcell 10 3 900 rfl rfl rfl (by simp only[go_sem]) (by simp only[go_sem])) ?_
 refine AWP.lenB 9 4 rfl rfl fun u=>?_
 (try rw[lB] at u)
 refine AWP.range (S:=Src×List Val) (x.kids) a0h (fun i y=>(11,I .i64 (i:Nat))::[]) (fun i y=>[(1000000,a00 y.1),(10,c9V y.2.length),(900, .row 7 (y.2.map a0c))]) [0,3,5,8,9,10] [5,8,9] (fun i y=>Is (a3h g x.kids s) (y.2++(a3h g (x.kids.drop i) y.1).1,(a3h g (x.kids.drop i) y.1).2)∧y.1.ok∧y.2.length=i) ((s,[])) (by refine sts ?_;exact Gh.tt []) ?_ ?_ ?_
 ·exact⟨rfl,hs,rfl⟩
 ·rintro i ⟨t,ab⟩ y ai hy aj aa ⟨q,ht,hl⟩
  refine sts ?_
  simp only at q ht hl
  have am:i<x.kids.length:=(zak.1 hy).1
  have ad:=af y (zbc hy)
  unfold Is at q
  rw[a9p hy,a9d] at q
  repeat'(first|simp only[go_sem,pin,lB,aa,hk,hw,a0d,a4y]<;>refine nf ?_|refine stp ?_;intro K hK|apply hK;clear hK K|refine stn ?_|(with_reducible first|refine⟨(by omega:_≤_),a0h y,aj,?_⟩|(refine⟨(by first|omega|(simp only[zba,lB,zbb,za1,List.length_cons,List.length_nil,za4];omega):_≤_),?_⟩))|(refine⟨1000000,_,_,_,H.k 1000000 y t ht ad.1 ad.2,rfl,?_⟩)|(with_reducible refine AWP.genR2 (id:=25) [11,13,15] [1000000,10,900] [1] 15 [1000000,900] mixed (by kernel_rfl) fun K hK=>?_;simp only[Bx.outs,Bx.drop,zaa,zab,Nat.reduceBEq,go_sem])|clear hK K)
  all_goals(rw[a0b ai u])
  all_goals(refine⟨((g y t).2,ab++[(g y t).1]),?_,Gh.tt [(900,109)]⟩)
  all_goals exact⟨q,hg _ _ ht,by simp[hl]⟩
 ·rintro⟨t,ab⟩ aa ⟨q,ht,hl⟩
  refine sts ?_
  simp only at q ht hl
  unfold Is at q
  rw[zbw,a3h,zbq] at q
  refine AWP.gh (Gh.fz 900) ?_
  simp only[go_sem,lB]
  repeat'(first|simp only[go_sem,pin,lB,aa,hk]<;>refine nf ?_|refine stp ?_;intro K hK|apply hK;clear hK K|refine stn ?_|clear hK K)
  all_goals(rw[q])
  all_goals(first|exact⟨rfl,fun x hx=>by simp only[lN] at hx;subst hx;simp[pin]⟩|exact⟨trivial,fun x hx=>by simp only[lN] at hx;subst hx;simp[pin]⟩|(intro x hx;simp only[lN] at hx;subst hx;simp[pin])|(refine⟨by simp only[Vt,a0a]<;>rfl,fun x hx=>by simp only[lN] at hx;subst hx;simp[pin]⟩)|fail)
theorem c3U (l:List NodeD) (r:Int) (g nx:Int→Src→Val×Src) (h:Nat) (H:b1L l r g (h:Int)) (hg:∀ k s,s.ok→(g k s).2.ok) (hh:h≤1000) (an:l.length≤1000) (x:NodeD) (k:Nat) (hx:l[k]?= some x) (hk:x.kind=12) (ag:∀ k∈x.kids,0≤k∧k<(l.length:Int)) (aq:x.kids.length=2) (s:Src) (hs:s.ok):a1b l r (a1Y l g nx x) h k s:=by
 have af:=a0y a0e hx
 have ap:k<l.length:=(zak.1 hx).1
 have aj:decide (((h+1:Nat):Int)≤0)=false:=by rw[zah];omega
 have ai:decide ((k:Int)<0)=false:=by rw[zah];omega
 have am:decide ((l.length:Int)≤(k:Int))=false:=by rw[zah];omega
 unfold a1b a1Y
 simp only[hk,Int.reduceEq,zac,zad,zaa,zab]
 have hw:IntKind.i64.wrap (((h+1:Nat):Int)-1)=(h:Int):=by rw[w64 (by omega)];omega
 refine PCB.ob Tryz.func83 Tryz.ntmps83 Tryz.results83 ?_
 repeat'(first|simp only[go_sem,pin,aj,ai,am,hk,lB,a0d]<;>refine nf ?_|refine stp ?_;intro K hK|apply hK;clear hK K|refine stn ?_|(with_reducible refine⟨by omega,a0e x,af,?_⟩)|fail)
 refine AWP.gh (Gh.nilcell 10 3 900 rfl rfl rfl (by simp only[go_sem]) (by simp only[go_sem])) ?_
 refine AWP.lenB 9 4 rfl rfl fun aa=>?_
 (try rw[lB] at aa)
 refine AWP.range (S:=Src×List Val) (x.kids) a0h (fun i y=>(11,I .i64 (i:Nat))::[]) (fun i y=>[(1000000,a00 y.1),(10,c9V y.2.length),(900, .row 7 (y.2.map a0c))]) [0,3,5,8,9,10] [5,8,9] (fun i y=>Is (a3h g x.kids s) (y.2++(a3h g (x.kids.drop i) y.1).1,(a3h g (x.kids.drop i) y.1).2)∧y.1.ok∧y.2.length=i) ((s,[])) (by refine sts ?_;exact Gh.tt []) ?_ ?_ ?_
 ·exact⟨rfl,hs,rfl⟩
 ·rintro i ⟨t,ad⟩ y ak hy al u ⟨q,ht,hl⟩
  refine sts ?_
  simp only at q ht hl
  have ao:i<x.kids.length:=(zak.1 hy).1
  have ae:=ag y (zbc hy)
  unfold Is at q
  rw[a9p hy,a9d] at q
  repeat'(first|simp only[go_sem,pin,lB,u,hk,hw,a0d,a4y]<;>refine nf ?_|refine stp ?_;intro K hK|apply hK;clear hK K|refine stn ?_|(with_reducible first|refine⟨(by omega:_≤_),a0h y,al,?_⟩|(refine⟨(by first|omega|(simp only[zba,lB,zbb,za1,List.length_cons,List.length_nil,za4];omega):_≤_),?_⟩))|(refine⟨1000000,_,_,_,H.k 1000000 y t ht ae.1 ae.2,rfl,?_⟩)|(with_reducible refine AWP.genR2 (id:=25) [11,13,15] [1000000,10,900] [1] 15 [1000000,900] mixed (by kernel_rfl) fun K hK=>?_;simp only[Bx.outs,Bx.drop,zaa,zab,Nat.reduceBEq,go_sem])|clear hK K)
  all_goals(rw[a0b ak aa])
  all_goals(refine⟨((g y t).2,ad++[(g y t).1]),?_,Gh.tt [(900,109)]⟩)
  all_goals exact⟨q,hg _ _ ht,by simp[hl]⟩
 ·rintro⟨t,ad⟩ u ⟨q,ht,hl⟩
  refine sts ?_
  simp only at q ht hl
  unfold Is at q
  rw[zbw,a3h,zbq] at q
  match ad,hl with
  |[],hl=>simp at hl;omega
  |[_],hl=>simp at hl;omega
  |_::_::_::_,hl=>simp at hl;omega
  |[a,b],hl=>
  have ah:([a,b]:List Val).length=2:=rfl
  cases ab:decide (b.kind=7)
  all_goals
   repeat'(first|(refine atR 31 (Gh.freeze 900 (by rfl) (by rfl) (by simp only[go_sem,pin,lB,zau,za6,u,hk,ab,a0a b,lB,zbp,List.length_cons,List.length_nil,zbg,Nat.reduceAdd]) (by simp only[go_sem,pin,lB,zau,za6,u,hk,ab,a0a b,lB,zbp,List.length_cons,List.length_nil,zbg,Nat.reduceAdd])) ?_;simp only[frE,frB,Bx.drop,go_sem,pin,lB,zau,za6,u,hk,ab,a0a b])|simp only[go_sem,pin,lB,zau,za6,u,hk,ab,a0a b]<;>refine nf ?_|refine stp ?_;intro K hK|apply hK;clear hK K|refine stn ?_|(with_reducible refine⟨_,a1r,?_⟩)|(with_reducible refine AWP.segP (id:=30) 4 mixed (by kernel_rfl) fun K hK=>?_;simp only[List.take_succ_cons,List.take_zero,zb4,zb2])|clear hK K)
  all_goals(rw[q];simp only[b6e,ab,zaa,zab])
  all_goals(try refine⟨by first|(rw[Vt,b0a,a0a b];done)|(rw[Vt,b0a,a0a b];rfl)|(rw[Vt,b0a];rfl),fun x hx=>by simp only[lN] at hx;subst hx;simp[pin]⟩)
  all_goals(first|exact⟨rfl,fun x hx=>by simp only[lN] at hx;subst hx;simp[pin]⟩|exact⟨trivial,fun x hx=>by simp only[lN] at hx;subst hx;simp[pin]⟩|(intro x hx;simp only[lN] at hx;subst hx;simp[pin])|(refine⟨by simp only[Vt,a0a]<;>rfl,fun x hx=>by simp only[lN] at hx;subst hx;simp[pin]⟩)|fail)
end Go.Proofs.YtoelgackkclcmaaGreat

