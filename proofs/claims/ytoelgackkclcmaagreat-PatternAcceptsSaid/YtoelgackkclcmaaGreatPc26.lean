/- Lemmas. -/
import Derived.Test.YtoelgackkclcmaaGreatPc8
import Derived.Test.YtoelgackkclcmaaGreatPc25
open List renaming length_map→lB,mem_singleton→lN
open Go.Sx.AWP renaming gh→xD
set_option linter.unusedSimpArgs false
set_option linter.unusedVariables false
set_option maxRecDepth 20000
set_option maxHeartbeats 64000000
namespace Go.Proofs.YtoelgackkclcmaaGreat
open Go Go.Sx
def b5w (a n:Int) (s:Src):Int×Src:=(a+a0j s (n-a),a0g s (n-a))
theorem c0j (a n:Int) (s:Src) (h:s.ok):(b5w a n s).2.ok:=a0k h _
theorem c0k (s:Src) (hs:s.ok) (m:Nat) (hm:m≤1000) (a n:Int) (ha:0≤a) (ab:a<n) (hn:n≤1000):
  PCB Tryz.prog 138 [Sp pin,I .i64 m,I .i64 a,I .i64 n] [(pin,a00 s)] (IsP (a1a (b5w a n) m s).1) [(pin,a00 (a1a (b5w a n) m s).2)]:=by
 have hw:IntKind.i64.wrap (n-a)=n-a:=by rw[w64 (by omega)]
 refine PCB.ob Tryz.func138 Tryz.ntmps138 Tryz.results138 ?_
 refine AWP.ghQ ?_
 repeat'(first|simp only[go_sem,pin]<;>refine nf ?_|refine stp ?_;intro K hK|apply hK;clear hK K|refine stn ?_|fail)
 refine xD (Gh.nilrow 9 900 rfl rfl rfl rfl) ?_
 refine AWP.loopF (X:=Nat×Src×List Int) (fun x=>[(0,Sp 1000000),(1,I .i64 x.1),(9, .one (.own 900 x.2.2.length))]) (fun x=>[(1000000,a00 x.2.1),(900, .row 1 (x.2.2.map a0h))]) [2,3] [] (fun x=>x.1+x.2.2.length≤1000∧x.2.1.ok∧a1a (b5w a n) m s=(x.2.2++(a1a (b5w a n) x.1 x.2.1).1,(a1a (b5w a n) x.1 x.2.1).2)) (fun x=>x.1) ((m,s,[])) (by refine sts ?_;exact Gh.tt []) ?_ ?_
 ·exact⟨by simp;exact hm,hs,by simp⟩
 rintro⟨k,t,u⟩ ⟨hl,ht,hp⟩
 simp only at hl ht hp
 refine sts ?_
 cases k with
 |succ k=>
  rw[a5A] at hp
  have aa:IntKind.i64.wrap (((k+1:Nat):Int)-1)=(k:Int):=a2N (by omega)
  have hv:=a0p t (n:=n-a) (by omega)
  have q:IntKind.i64.wrap (a+a0j t (n-a))=(b5w a n t).1:=by rw[w64 (by omega)];rfl
  repeat'(first|simp only[go_sem,pin,lB,a9A,hw,aa,q,c4A]<;>refine nf ?_|refine stp ?_;intro K hK|apply hK;clear hK K|refine stn ?_|(with_reducible (refine⟨(by first|omega|(simp only[zba,lB,zbb,za1,List.length_cons,List.length_nil,za4];omega):_≤_),?_⟩))|(refine⟨1000000,_,_,_,a0u 1000000 t ht (n-a) (by omega),rfl,?_⟩)|refine stq ?_|clear hK K)
  all_goals(refine⟨(k,(b5w a n t).2,u++[(b5w a n t).1]),by simp only;omega,⟨by simp;omega,c0j a n t ht,hp⟩,Gh.tt [(900,23)]⟩)
 |zero=>
  rw[a1a,zbq] at hp
  have h0:decide ((0:Int)<((0:Nat):Int))=false:=by simp
  repeat'(first|simp only[go_sem,pin,h0]<;>refine nf ?_|refine stp ?_;intro K hK|apply hK;clear hK K|refine stn ?_|clear hK K)
  refine⟨_,Gh.fz 900,?_⟩
  simp only[go_sem,lB]
  all_goals(rw[hp];first|exact⟨rfl,fun x hx=>hx⟩|exact fun x hx=>hx)
theorem a3w (k:Nat) (s:Src) (hs:s.ok) (m:Nat) (hm:m≤1000) (a n:Int) (ha:0≤a) (q:a<n) (hn:n≤1000):a1k Tryz.prog 138 [Sp k,I .i64 m,I .i64 a,I .i64 n] k (a00 s) (IsP (a1a (b5w a n) m s).1) (a00 (a1a (b5w a n) m s).2):=
  a1k.mk k (c0k s hs m hm a n ha q hn)
def a1L:List KeyD:=[⟨0,[97]⟩,⟨0,[98]⟩,⟨1,[115]⟩]
def b6b (n:Int) (k:KeyD) (s:Src):List FieldD×Src:=
  bif decide (a0j s 2=1) then ([⟨k,a0j (a0g s 2) n,decide (a0j (a0g (a0g s 2) n) 2=1)⟩],a0g (a0g (a0g s 2) n) 2) else ([],a0g s 2)
def a8A (n:Int):List KeyD→Src→List FieldD×Src
  |[],s=>([],s)
  |k::l,s=>((b6b n k s).1++(a8A n l (b6b n k s).2).1,(a8A n l (b6b n k s).2).2)
def a3T (n:Int) (s:Src):NodeD×Src:=(⟨13,0,0,[],[],(a8A n a1L (a0g (a0g s n) n)).1,a0j s n,a0j (a0g s n) n⟩,(a8A n a1L (a0g (a0g s n) n)).2)
theorem c6H (n:Int) (k:KeyD) {s:Src} (h:s.ok):(b6b n k s).2.ok:=by
  unfold b6b;cases decide (a0j s 2=1)
  · exact a0k h 2
  · exact a0k (a0k (a0k h 2) n) 2
theorem b7q (n:Int):∀ (l:List KeyD) {s:Src},s.ok→(a8A n l s).2.ok
  |[],s,h=>h
  |k::l,s,h=>b7q n l (c6H n k h)
abbrev d0W (n:Int) (s:Src) (m:Nat):Res:= .cells [.dat (.int .i64 13), .dat (.int .i64 0), .dat (.int .i64 0), .dat (.str []), .dat (.nil 1), .own 900 m, .dat (.int .i64 (a0j s n)), .dat (.int .i64 (a0j (a0g s n) n))]
theorem c0l (l:List FieldD) (a:Int) (b:List UInt8) (c:Int) (d:Bool):l.map a0o++[[C.int .i64 a,C.str b,C.int .i64 c,C.bool d]]=(l++[(⟨⟨a,b⟩,c,d⟩:FieldD)]).map a0o:=by rw[zbn];rfl
theorem c0m (s:Src) (hs:s.ok) (n:Int) (hn:1≤n∧n≤1000):PCB Tryz.prog 139 [Sp pin,I .i64 n] [(pin,a00 s)] (Nt (a3T n s).1) [(pin,a00 (a3T n s).2)]:=by
 have h1:=a0k hs n
 refine PCB.ob Tryz.func139 Tryz.ntmps139 Tryz.results139 ?_
 repeat'(first|simp only[go_sem,pin]<;>refine nf ?_|refine stp ?_;intro K hK|apply hK;clear hK K|refine stn ?_|(refine⟨1000000,_,_,_,a0u 1000000 s hs n (by omega),rfl,?_⟩)|(refine⟨1000000,_,_,_,a0u 1000000 _ h1 n (by omega),rfl,?_⟩)|refine stq ?_|fail)
 refine xD (Gh.nilcell 5 5 900 rfl rfl rfl (by simp only[go_sem]) (by simp only[go_sem])) ?_
 refine AWP.loopF (X:=Nat×Src×List FieldD) (fun x=>[(7,I .i64 x.1)]) (fun x=>[(1000000,a00 x.2.1),(5,d0W n s x.2.2.length),(900, .row 4 (x.2.2.map a0o))]) [0,1,4,5,6] [4] (fun x=>x.1≤3∧x.2.2.length≤x.1∧x.2.1.ok∧a8A n a1L (a0g (a0g s n) n)=(x.2.2++(a8A n (a1L.drop x.1) x.2.1).1,(a8A n (a1L.drop x.1) x.2.1).2)) (fun x=>3-x.1) ((0,a0g (a0g s n) n,[])) (by refine sts ?_;exact Gh.tt []) ?_ ?_
 ·exact⟨zao _,zax _,a0k h1 n,by simp⟩
 rintro⟨i,t,u⟩ ⟨hi,hl,ht,hp⟩
 simp only at hi hl ht hp
 refine sts ?_
 by_cases h3:i=3
 ·subst h3
  rw[show a1L.drop 3=[] from rfl,a8A,zbq] at hp
  refine xD (Gh.fz 900) ?_
  simp only[go_sem,lB]
  repeat'(first|simp only[go_sem,pin]<;>refine nf ?_|refine stp ?_;intro K hK|apply hK;clear hK K|refine stn ?_|clear hK K)
  have hm:a3T n s=(⟨13,0,0,[],[],u,a0j s n,a0j (a0g s n) n⟩,t):=by unfold a3T;rw[hp]
  all_goals(rw[hm];first|exact⟨rfl,fun x hx=>by simp only[lN] at hx;subst hx;simp[pin]⟩|(intro x hx;simp only[lN] at hx;subst hx;simp[pin]))
 ·have ab:decide ((i:Int)<3)=true:=by rw[zan];omega
  have ae:a1L.length=3:=rfl
  obtain⟨k,hk⟩:∃ k,a1L[i]?= some k:=⟨a1L[i],zav (by omega)⟩
  have ad:=a0y a0i hk
  have hd:a1L.drop i=k::a1L.drop (i+1):=by
   obtain⟨hk,e⟩:=zak.1 hk
   rw[za8 hk,e]
  have hw:IntKind.i64.wrap ((i:Int)+1)=((i+1:Nat):Int):=by rw[w64 (by omega)];rfl
  have q:=a0k ht 2
  have aa:=a0k q n
  rw[hd,a8A,← zb1] at hp
  cases hc:decide (a0j t 2=1)
  ·have hf:b6b n k t=([],a0g t 2):=by unfold b6b;rw[hc];rfl
   rw[hf,zbq] at hp
   repeat'(first|simp only[go_sem,pin,ab,hw,hc]<;>refine nf ?_|refine stp ?_;intro K hK|apply hK;clear hK K|refine stn ?_|(refine⟨1000000,_,_,_,a0u 1000000 t ht 2 (by omega),rfl,?_⟩)|refine stq ?_|clear hK K)
   all_goals(refine⟨(i+1,a0g t 2,u),by simp only;omega,⟨by simp only;omega,by simp only;omega,q,hp⟩,Gh.tt []⟩)
  ·have hf:b6b n k t=([⟨k,a0j (a0g t 2) n,decide (a0j (a0g (a0g t 2) n) 2=1)⟩],a0g (a0g (a0g t 2) n) 2):=by unfold b6b;rw[hc];rfl
   rw[hf] at hp
   repeat'(first|simp only[go_sem,pin,ab,hw,hc,a0i,lB,c0l]<;>refine nf ?_|refine stp ?_;intro K hK|apply hK;clear hK K|refine stn ?_|(with_reducible (refine⟨(by first|omega|(simp only[zba,lB,zbb,za1,List.length_cons,List.length_nil,za4];omega):_≤_),?_⟩))|(refine⟨1000000,_,_,_,a0u 1000000 t ht 2 (by omega),rfl,?_⟩)|(refine⟨1000000,_,_,_,a0u 1000000 _ q n (by omega),rfl,?_⟩)|(refine⟨1000000,_,_,_,a0u 1000000 _ aa 2 (by omega),rfl,?_⟩)|( refine⟨a0i k,ad,?_⟩)|(with_reducible refine AWP.genR2 (id:=7) [8,10,14,16] [1000000,5,900] [1] 16 [1000000,900] mixed (by kernel_rfl) fun K hK=>?_;simp only[Bx.outs,Bx.drop,zaa,zab,Nat.reduceBEq,go_sem])|refine stq ?_|clear hK K)
   all_goals(refine⟨(i+1,a0g (a0g (a0g t 2) n) 2,u++[⟨k,a0j (a0g t 2) n,decide (a0j (a0g (a0g t 2) n) 2=1)⟩]),by simp only;omega,⟨by simp only;omega,by simp;omega,a0k aa 2,hp⟩,Gh.tt [(900,41)]⟩)
theorem c0n (k:Nat) (s:Src) (hs:s.ok) (n:Int) (hn:1≤n∧n≤1000):a1k Tryz.prog 139 [Sp k,I .i64 n] k (a00 s) (Nt (a3T n s).1) (a00 (a3T n s).2):=a1k.mk k (c0m s hs n hn)
def b2m:List Int:=[-9223372036854775808,0,1,2,9223372036854775807]
def plainL:List Int:=[5,8,11,15]
def anyL:List Int:=[2,1]
def a1c (k:Int):NodeD:=⟨k,0,0,[],[],[],0,0⟩
def a2L (k:Int) (t:List UInt8):NodeD:=⟨k,0,0,t,[],[],0,0⟩
def a8B (k:Int) (l:List Int):NodeD:=⟨k,0,0,[],l,[],0,0⟩
def c0o (a b:Int):NodeD:=⟨3,a,b,[],[],[],0,0⟩
def a4a (k:Int) (a n:Int) (m:Nat) (s:Src):NodeD×Src:=(a8B k (a1a (b5w a n) m s).1,(a1a (b5w a n) m s).2)
def a4v (i n k:Int) (s:Src):NodeD×Src:=
  bif decide (k=0) then (c0o (b2m.getD (a0j s 5).toNat 0) (b2m.getD (a0j s 5+a0j (a0g s 5) (5-a0j s 5)).toNat 0),a0g (a0g s 5) (5-a0j s 5)) else
  bif decide (k=1) then (a2L 6 (a8S s),a0g s 4) else
  bif decide (k=2) then (a1c 7,s) else
  bif decide (k=3) then (a2L 4 (b1q s),a0g s 4) else
  bif decide (k=4) then (a1c (plainL.getD (a0j s 4).toNat 0),a0g s 4) else
  bif decide (k=5) then (a1c 9,s) else
  bif decide (k=6) then (a1c (anyL.getD (a0j s 2).toNat 0),a0g s 2) else
  bif decide (k=7) then (a2L 19 (a5w s),a0g s 3) else
  bif decide (k=8)||decide (k=9) then a4a 10 0 n (a0j s 3).toNat (a0g s 3) else
  bif decide (k=10) then a4a 12 0 n 2 s else
  bif decide (k=11) then a3T n s else
  bif decide (k=12)||decide (k=13) then a4a 14 0 n (1+a0j s 3).toNat (a0g s 3) else
  bif decide (k=14) then a4a 18 (i+1) n 1 s else
  bif decide (k=15) then a4a 17 (i+1) n 2 s else a4a 16 (i+1) n (2+a0j s 2).toNat (a0g s 2)
def a0r (i n:Int):Int:=bif decide (i=n-1) then 14 else 18
def a9c (i n:Int) (s:Src):NodeD×Src:=a4v i n (a0j s (a0r i n)) (a0g s (a0r i n))
theorem a1y (i n:Int):1≤a0r i n∧a0r i n≤18:=by unfold a0r;cases decide (i=n-1)<;>decide
theorem a7y (k a n:Int) (m:Nat) {s:Src} (h:s.ok):(a4a k a n m s).2.ok:=a7w (c0j a n) m s h
theorem c24 (i n k:Int) {s:Src} (h:s.ok):(a4v i n k s).2.ok:=by
 unfold a4v
 cases decide (k=0)<;>cases decide (k=1)<;>cases decide (k=2)<;>cases decide (k=3)<;>cases decide (k=4)<;>cases decide (k=5)<;>cases decide (k=6)<;>cases decide (k=7)<;>first
  |exact a0k (a0k h 5) _
  |exact a0k h _
  |exact h
  |skip
 cases decide (k=8)||decide (k=9)
 ·cases decide (k=10)
  ·cases decide (k=11)
   ·cases decide (k=12)||decide (k=13)
    ·cases decide (k=14)
     ·cases decide (k=15)
      ·exact a7y 16 _ n _ (a0k h 2)
      ·exact a7y 17 _ n _ h
     ·exact a7y 18 _ n _ h
    ·exact a7y 14 _ n _ (a0k h 3)
   ·exact b7q n _ (a0k (a0k h n) n)
  ·exact a7y 12 _ n _ h
 ·exact a7y 10 _ n _ (a0k h 3)
theorem c25 (i n:Int) {s:Src} (h:s.ok):(a9c i n s).2.ok:=c24 i n _ (a0k h _)
def a6d (k:Int):Prop:=∀ (s:Src) (i n:Int),s.ok→0≤i→i<n→n≤1000→a0j s (a0r i n)=k→
  PCB Tryz.prog 82 [Sp pin,I .i64 i,I .i64 n] [(pin,a00 s)] (Nt (a4v i n k (a0g s (a0r i n))).1) [(pin,a00 (a4v i n k (a0g s (a0r i n))).2)]
theorem c6I:a6d 0:=by
 intro s i n hs al aj hn hk
 have ak:=a1y i n
 have ag:=w64 (n:=n-1) (by omega)
 obtain⟨s1,aa⟩:∃ s1,s1=a0g s (a0r i n):=⟨_,rfl⟩
 have ab:s1.ok:=by rw[aa];exact a0k hs _
 have hN:=a0u 1000000 s hs (a0r i n) (by omega)
 rw[hk,← aa] at hN
 rw[← aa]
 have h5:=a0p s1 (n:=5) (by omega)
 have af:=a0k ab 5
 have h6:=a0p (a0g s1 5) (n:=5-a0j s1 5) (by omega)
 have ae:=w64 (n:=5-a0j s1 5) (by omega)
 have ah:=w64 (n:=a0j s1 5+a0j (a0g s1 5) (5-a0j s1 5)) (by omega)
 have ai:=a4Y (fun x=>[C.int .i64 x]) b2m 0 (v:=a0j s1 5) ⟨h5.1,by show _<(5:Int);omega⟩
 have ad:=a4Y (fun x=>[C.int .i64 x]) b2m 0 (v:=a0j s1 5+a0j (a0g s1 5) (5-a0j s1 5)) ⟨by omega,by show _<(5:Int);omega⟩
 unfold a4v
 simp only[Int.reduceEq,zac,zad,zaa,zab,zap,zam,zaj,a4a]
 cases q:decide (i=n-1) with
 |false=>
  have u:a0r i n=18:=by unfold a0r;rw[q];rfl
  rw[u] at hN
  refine PCB.ob Tryz.func82 Tryz.ntmps82 Tryz.results82 ?_
  repeat'(first|simp only[go_sem,pin,ag,q,ae,ah]<;>refine nf ?_|refine stp ?_;intro K hK|apply hK;clear hK K|refine stn ?_|(refine⟨1000000,_,_,_,hN,rfl,?_⟩)|(refine⟨1000000,_,_,_,a0u 1000000 s1 ab 5 (by omega),rfl,?_⟩)|(refine⟨1000000,_,_,_,a0u 1000000 _ af (5-a0j s1 5) (by omega),rfl,?_⟩)|( refine⟨(by omega:_≤_),_,ai,?_⟩)|( refine⟨(by omega:_≤_),_,ad,?_⟩)|(with_reducible refine AWP.genR (id:=8) [9,14] [1000000,6] mixed (by kernel_rfl) fun K hK=>?_;simp only[Bx.outs,Bx.drop,zaa,zab,Nat.reduceBEq,go_sem])|refine stq ?_|clear hK K)
  all_goals(try simp only[*])
  all_goals first|exact⟨rfl,fun x hx=>by simp only[lN] at hx;subst hx;simp[pin]⟩|(intro x hx;simp only[lN] at hx;subst hx;simp[pin])|fail
 |true=>
  have u:a0r i n=14:=by unfold a0r;rw[q];rfl
  rw[u] at hN
  refine PCB.ob Tryz.func82 Tryz.ntmps82 Tryz.results82 ?_
  repeat'(first|simp only[go_sem,pin,ag,q,ae,ah]<;>refine nf ?_|refine stp ?_;intro K hK|apply hK;clear hK K|refine stn ?_|(refine⟨1000000,_,_,_,hN,rfl,?_⟩)|(refine⟨1000000,_,_,_,a0u 1000000 s1 ab 5 (by omega),rfl,?_⟩)|(refine⟨1000000,_,_,_,a0u 1000000 _ af (5-a0j s1 5) (by omega),rfl,?_⟩)|( refine⟨(by omega:_≤_),_,ai,?_⟩)|( refine⟨(by omega:_≤_),_,ad,?_⟩)|(with_reducible refine AWP.genR (id:=8) [9,14] [1000000,6] mixed (by kernel_rfl) fun K hK=>?_;simp only[Bx.outs,Bx.drop,zaa,zab,Nat.reduceBEq,go_sem])|refine stq ?_|clear hK K)
  all_goals(try simp only[*])
  all_goals first|exact⟨rfl,fun x hx=>by simp only[lN] at hx;subst hx;simp[pin]⟩|(intro x hx;simp only[lN] at hx;subst hx;simp[pin])|fail
theorem c6J:a6d 1:=by
 intro s i n hs ag ae hn hk
 have af:=a1y i n
 have ab:=w64 (n:=n-1) (by omega)
 obtain⟨s1,aa⟩:∃ s1,s1=a0g s (a0r i n):=⟨_,rfl⟩
 have ad:s1.ok:=by rw[aa];exact a0k hs _
 have hN:=a0u 1000000 s hs (a0r i n) (by omega)
 rw[hk,← aa] at hN
 rw[← aa]
 unfold a4v
 simp only[Int.reduceEq,zac,zad,zaa,zab,zap,zam,zaj,a4a]
 cases q:decide (i=n-1) with
 |false=>
  have u:a0r i n=18:=by unfold a0r;rw[q];rfl
  rw[u] at hN
  refine PCB.ob Tryz.func82 Tryz.ntmps82 Tryz.results82 ?_
  repeat'(first|simp only[go_sem,pin,ab,q]<;>refine nf ?_|refine stp ?_;intro K hK|apply hK;clear hK K|refine stn ?_|(refine⟨1000000,_,_,_,hN,rfl,?_⟩)|(refine⟨1000000,_,_,_,a4G 1000000 s1 ad,rfl,?_⟩)|refine stq ?_|clear hK K)
  all_goals(try simp only[*])
  all_goals first|exact⟨rfl,fun x hx=>by simp only[lN] at hx;subst hx;simp[pin]⟩|(intro x hx;simp only[lN] at hx;subst hx;simp[pin])|fail
 |true=>
  have u:a0r i n=14:=by unfold a0r;rw[q];rfl
  rw[u] at hN
  refine PCB.ob Tryz.func82 Tryz.ntmps82 Tryz.results82 ?_
  repeat'(first|simp only[go_sem,pin,ab,q]<;>refine nf ?_|refine stp ?_;intro K hK|apply hK;clear hK K|refine stn ?_|(refine⟨1000000,_,_,_,hN,rfl,?_⟩)|(refine⟨1000000,_,_,_,a4G 1000000 s1 ad,rfl,?_⟩)|refine stq ?_|clear hK K)
  all_goals(try simp only[*])
  all_goals first|exact⟨rfl,fun x hx=>by simp only[lN] at hx;subst hx;simp[pin]⟩|(intro x hx;simp only[lN] at hx;subst hx;simp[pin])|fail
theorem c6K:a6d 2:=by
 intro s i n hs af ad hn hk
 have ae:=a1y i n
 have ab:=w64 (n:=n-1) (by omega)
 obtain⟨s1,aa⟩:∃ s1,s1=a0g s (a0r i n):=⟨_,rfl⟩
 have ag:s1.ok:=by rw[aa];exact a0k hs _
 have hN:=a0u 1000000 s hs (a0r i n) (by omega)
 rw[hk,← aa] at hN
 rw[← aa]
 unfold a4v
 simp only[Int.reduceEq,zac,zad,zaa,zab,zap,zam,zaj,a4a]
 cases q:decide (i=n-1) with
 |false=>
  have u:a0r i n=18:=by unfold a0r;rw[q];rfl
  rw[u] at hN
  refine PCB.ob Tryz.func82 Tryz.ntmps82 Tryz.results82 ?_
  repeat'(first|simp only[go_sem,pin,ab,q]<;>refine nf ?_|refine stp ?_;intro K hK|apply hK;clear hK K|refine stn ?_|(refine⟨1000000,_,_,_,hN,rfl,?_⟩)|refine stq ?_|clear hK K)
  all_goals(try simp only[*])
  all_goals first|exact⟨rfl,fun x hx=>by simp only[lN] at hx;subst hx;simp[pin]⟩|(intro x hx;simp only[lN] at hx;subst hx;simp[pin])|fail
 |true=>
  have u:a0r i n=14:=by unfold a0r;rw[q];rfl
  rw[u] at hN
  refine PCB.ob Tryz.func82 Tryz.ntmps82 Tryz.results82 ?_
  repeat'(first|simp only[go_sem,pin,ab,q]<;>refine nf ?_|refine stp ?_;intro K hK|apply hK;clear hK K|refine stn ?_|(refine⟨1000000,_,_,_,hN,rfl,?_⟩)|refine stq ?_|clear hK K)
  all_goals(try simp only[*])
  all_goals first|exact⟨rfl,fun x hx=>by simp only[lN] at hx;subst hx;simp[pin]⟩|(intro x hx;simp only[lN] at hx;subst hx;simp[pin])|fail
theorem c6L:a6d 3:=by
 intro s i n hs ag ae hn hk
 have af:=a1y i n
 have ab:=w64 (n:=n-1) (by omega)
 obtain⟨s1,aa⟩:∃ s1,s1=a0g s (a0r i n):=⟨_,rfl⟩
 have ad:s1.ok:=by rw[aa];exact a0k hs _
 have hN:=a0u 1000000 s hs (a0r i n) (by omega)
 rw[hk,← aa] at hN
 rw[← aa]
 unfold a4v
 simp only[Int.reduceEq,zac,zad,zaa,zab,zap,zam,zaj,a4a]
 cases q:decide (i=n-1) with
 |false=>
  have u:a0r i n=18:=by unfold a0r;rw[q];rfl
  rw[u] at hN
  refine PCB.ob Tryz.func82 Tryz.ntmps82 Tryz.results82 ?_
  repeat'(first|simp only[go_sem,pin,ab,q]<;>refine nf ?_|refine stp ?_;intro K hK|apply hK;clear hK K|refine stn ?_|(refine⟨1000000,_,_,_,hN,rfl,?_⟩)|(refine⟨1000000,_,_,_,b2M 1000000 s1 ad,rfl,?_⟩)|refine stq ?_|clear hK K)
  all_goals(try simp only[*])
  all_goals first|exact⟨rfl,fun x hx=>by simp only[lN] at hx;subst hx;simp[pin]⟩|(intro x hx;simp only[lN] at hx;subst hx;simp[pin])|fail
 |true=>
  have u:a0r i n=14:=by unfold a0r;rw[q];rfl
  rw[u] at hN
  refine PCB.ob Tryz.func82 Tryz.ntmps82 Tryz.results82 ?_
  repeat'(first|simp only[go_sem,pin,ab,q]<;>refine nf ?_|refine stp ?_;intro K hK|apply hK;clear hK K|refine stn ?_|(refine⟨1000000,_,_,_,hN,rfl,?_⟩)|(refine⟨1000000,_,_,_,b2M 1000000 s1 ad,rfl,?_⟩)|refine stq ?_|clear hK K)
  all_goals(try simp only[*])
  all_goals first|exact⟨rfl,fun x hx=>by simp only[lN] at hx;subst hx;simp[pin]⟩|(intro x hx;simp only[lN] at hx;subst hx;simp[pin])|fail
theorem c6M:a6d 4:=by
 intro s i n hs ah af hn hk
 have ag:=a1y i n
 have ab:=w64 (n:=n-1) (by omega)
 obtain⟨s1,aa⟩:∃ s1,s1=a0g s (a0r i n):=⟨_,rfl⟩
 have ae:s1.ok:=by rw[aa];exact a0k hs _
 have hN:=a0u 1000000 s hs (a0r i n) (by omega)
 rw[hk,← aa] at hN
 rw[← aa]
 have h5:=a0p s1 (n:=4) (by omega)
 have ad:=a4Y (fun x=>[C.int .i64 x]) plainL 0 (v:=a0j s1 4) ⟨h5.1,by show _<(4:Int);omega⟩
 unfold a4v
 simp only[Int.reduceEq,zac,zad,zaa,zab,zap,zam,zaj,a4a]
 cases q:decide (i=n-1) with
 |false=>
  have u:a0r i n=18:=by unfold a0r;rw[q];rfl
  rw[u] at hN
  refine PCB.ob Tryz.func82 Tryz.ntmps82 Tryz.results82 ?_
  repeat'(first|simp only[go_sem,pin,ab,q]<;>refine nf ?_|refine stp ?_;intro K hK|apply hK;clear hK K|refine stn ?_|(refine⟨1000000,_,_,_,hN,rfl,?_⟩)|(refine⟨1000000,_,_,_,a0u 1000000 s1 ae 4 (by omega),rfl,?_⟩)|( refine⟨(by omega:_≤_),_,ad,?_⟩)|refine stq ?_|clear hK K)
  all_goals(try simp only[*])
  all_goals first|exact⟨rfl,fun x hx=>by simp only[lN] at hx;subst hx;simp[pin]⟩|(intro x hx;simp only[lN] at hx;subst hx;simp[pin])|fail
 |true=>
  have u:a0r i n=14:=by unfold a0r;rw[q];rfl
  rw[u] at hN
  refine PCB.ob Tryz.func82 Tryz.ntmps82 Tryz.results82 ?_
  repeat'(first|simp only[go_sem,pin,ab,q]<;>refine nf ?_|refine stp ?_;intro K hK|apply hK;clear hK K|refine stn ?_|(refine⟨1000000,_,_,_,hN,rfl,?_⟩)|(refine⟨1000000,_,_,_,a0u 1000000 s1 ae 4 (by omega),rfl,?_⟩)|( refine⟨(by omega:_≤_),_,ad,?_⟩)|refine stq ?_|clear hK K)
  all_goals(try simp only[*])
  all_goals first|exact⟨rfl,fun x hx=>by simp only[lN] at hx;subst hx;simp[pin]⟩|(intro x hx;simp only[lN] at hx;subst hx;simp[pin])|fail
theorem c6N:a6d 5:=by
 intro s i n hs af ad hn hk
 have ae:=a1y i n
 have ab:=w64 (n:=n-1) (by omega)
 obtain⟨s1,aa⟩:∃ s1,s1=a0g s (a0r i n):=⟨_,rfl⟩
 have ag:s1.ok:=by rw[aa];exact a0k hs _
 have hN:=a0u 1000000 s hs (a0r i n) (by omega)
 rw[hk,← aa] at hN
 rw[← aa]
 unfold a4v
 simp only[Int.reduceEq,zac,zad,zaa,zab,zap,zam,zaj,a4a]
 cases q:decide (i=n-1) with
 |false=>
  have u:a0r i n=18:=by unfold a0r;rw[q];rfl
  rw[u] at hN
  refine PCB.ob Tryz.func82 Tryz.ntmps82 Tryz.results82 ?_
  repeat'(first|simp only[go_sem,pin,ab,q]<;>refine nf ?_|refine stp ?_;intro K hK|apply hK;clear hK K|refine stn ?_|(refine⟨1000000,_,_,_,hN,rfl,?_⟩)|refine stq ?_|clear hK K)
  all_goals(try simp only[*])
  all_goals first|exact⟨rfl,fun x hx=>by simp only[lN] at hx;subst hx;simp[pin]⟩|(intro x hx;simp only[lN] at hx;subst hx;simp[pin])|fail
 |true=>
  have u:a0r i n=14:=by unfold a0r;rw[q];rfl
  rw[u] at hN
  refine PCB.ob Tryz.func82 Tryz.ntmps82 Tryz.results82 ?_
  repeat'(first|simp only[go_sem,pin,ab,q]<;>refine nf ?_|refine stp ?_;intro K hK|apply hK;clear hK K|refine stn ?_|(refine⟨1000000,_,_,_,hN,rfl,?_⟩)|refine stq ?_|clear hK K)
  all_goals(try simp only[*])
  all_goals first|exact⟨rfl,fun x hx=>by simp only[lN] at hx;subst hx;simp[pin]⟩|(intro x hx;simp only[lN] at hx;subst hx;simp[pin])|fail
theorem c6O:a6d 6:=by
 intro s i n hs ah af hn hk
 have ag:=a1y i n
 have ab:=w64 (n:=n-1) (by omega)
 obtain⟨s1,aa⟩:∃ s1,s1=a0g s (a0r i n):=⟨_,rfl⟩
 have ae:s1.ok:=by rw[aa];exact a0k hs _
 have hN:=a0u 1000000 s hs (a0r i n) (by omega)
 rw[hk,← aa] at hN
 rw[← aa]
 have h5:=a0p s1 (n:=2) (by omega)
 have ad:=a4Y (fun x=>[C.int .i64 x]) anyL 0 (v:=a0j s1 2) ⟨h5.1,by show _<(2:Int);omega⟩
 unfold a4v
 simp only[Int.reduceEq,zac,zad,zaa,zab,zap,zam,zaj,a4a]
 cases q:decide (i=n-1) with
 |false=>
  have u:a0r i n=18:=by unfold a0r;rw[q];rfl
  rw[u] at hN
  refine PCB.ob Tryz.func82 Tryz.ntmps82 Tryz.results82 ?_
  repeat'(first|simp only[go_sem,pin,ab,q]<;>refine nf ?_|refine stp ?_;intro K hK|apply hK;clear hK K|refine stn ?_|(refine⟨1000000,_,_,_,hN,rfl,?_⟩)|(refine⟨1000000,_,_,_,a0u 1000000 s1 ae 2 (by omega),rfl,?_⟩)|( refine⟨(by omega:_≤_),_,ad,?_⟩)|refine stq ?_|clear hK K)
  all_goals(try simp only[*])
  all_goals first|exact⟨rfl,fun x hx=>by simp only[lN] at hx;subst hx;simp[pin]⟩|(intro x hx;simp only[lN] at hx;subst hx;simp[pin])|fail
 |true=>
  have u:a0r i n=14:=by unfold a0r;rw[q];rfl
  rw[u] at hN
  refine PCB.ob Tryz.func82 Tryz.ntmps82 Tryz.results82 ?_
  repeat'(first|simp only[go_sem,pin,ab,q]<;>refine nf ?_|refine stp ?_;intro K hK|apply hK;clear hK K|refine stn ?_|(refine⟨1000000,_,_,_,hN,rfl,?_⟩)|(refine⟨1000000,_,_,_,a0u 1000000 s1 ae 2 (by omega),rfl,?_⟩)|( refine⟨(by omega:_≤_),_,ad,?_⟩)|refine stq ?_|clear hK K)
  all_goals(try simp only[*])
  all_goals first|exact⟨rfl,fun x hx=>by simp only[lN] at hx;subst hx;simp[pin]⟩|(intro x hx;simp only[lN] at hx;subst hx;simp[pin])|fail
theorem c6P:a6d 7:=by
 intro s i n hs ag ae hn hk
 have af:=a1y i n
 have ab:=w64 (n:=n-1) (by omega)
 obtain⟨s1,aa⟩:∃ s1,s1=a0g s (a0r i n):=⟨_,rfl⟩
 have ad:s1.ok:=by rw[aa];exact a0k hs _
 have hN:=a0u 1000000 s hs (a0r i n) (by omega)
 rw[hk,← aa] at hN
 rw[← aa]
 unfold a4v
 simp only[Int.reduceEq,zac,zad,zaa,zab,zap,zam,zaj,a4a]
 cases q:decide (i=n-1) with
 |false=>
  have u:a0r i n=18:=by unfold a0r;rw[q];rfl
  rw[u] at hN
  refine PCB.ob Tryz.func82 Tryz.ntmps82 Tryz.results82 ?_
  repeat'(first|simp only[go_sem,pin,ab,q]<;>refine nf ?_|refine stp ?_;intro K hK|apply hK;clear hK K|refine stn ?_|(refine⟨1000000,_,_,_,hN,rfl,?_⟩)|(refine⟨1000000,_,_,_,b5W 1000000 s1 ad,rfl,?_⟩)|refine stq ?_|clear hK K)
  all_goals(try simp only[*])
  all_goals first|exact⟨rfl,fun x hx=>by simp only[lN] at hx;subst hx;simp[pin]⟩|(intro x hx;simp only[lN] at hx;subst hx;simp[pin])|fail
 |true=>
  have u:a0r i n=14:=by unfold a0r;rw[q];rfl
  rw[u] at hN
  refine PCB.ob Tryz.func82 Tryz.ntmps82 Tryz.results82 ?_
  repeat'(first|simp only[go_sem,pin,ab,q]<;>refine nf ?_|refine stp ?_;intro K hK|apply hK;clear hK K|refine stn ?_|(refine⟨1000000,_,_,_,hN,rfl,?_⟩)|(refine⟨1000000,_,_,_,b5W 1000000 s1 ad,rfl,?_⟩)|refine stq ?_|clear hK K)
  all_goals(try simp only[*])
  all_goals first|exact⟨rfl,fun x hx=>by simp only[lN] at hx;subst hx;simp[pin]⟩|(intro x hx;simp only[lN] at hx;subst hx;simp[pin])|fail
theorem c6Q:a6d 8:=by
 intro s i n hs ai ag hn hk
 have ah:=a1y i n
 have ad:=w64 (n:=n-1) (by omega)
 obtain⟨s1,aa⟩:∃ s1,s1=a0g s (a0r i n):=⟨_,rfl⟩
 have ab:s1.ok:=by rw[aa];exact a0k hs _
 have hN:=a0u 1000000 s hs (a0r i n) (by omega)
 rw[hk,← aa] at hN
 rw[← aa]
 have h5:=a0p s1 (n:=3) (by omega)
 have af:=a0k ab 3
 obtain⟨m,hm⟩:∃ m:Nat,m=(a0j s1 3).toNat:=⟨_,rfl⟩
 have ae:a0j s1 3=(m:Int):=by omega
 have hI:=a3w 1000000 _ af m (by omega) 0 n (by omega) (by omega) hn
 unfold a4v
 simp only[Int.reduceEq,zac,zad,zaa,zab,zap,zam,zaj,a4a]
 cases q:decide (i=n-1) with
 |false=>
  have u:a0r i n=18:=by unfold a0r;rw[q];rfl
  rw[u] at hN
  refine PCB.ob Tryz.func82 Tryz.ntmps82 Tryz.results82 ?_
  repeat'(first|simp only[go_sem,pin,ad,q,ae]<;>refine nf ?_|refine stp ?_;intro K hK|apply hK;clear hK K|refine stn ?_|(refine⟨1000000,_,_,_,hN,rfl,?_⟩)|(refine⟨1000000,_,_,_,a0u 1000000 s1 ab 3 (by omega),rfl,?_⟩)|(refine⟨1000000,_,_,_,hI,rfl,?_⟩)|refine stq ?_|clear hK K)
  all_goals(try rw[← hm];try simp only[*])
  all_goals first|exact⟨rfl,fun x hx=>by simp only[lN] at hx;subst hx;simp[pin]⟩|(intro x hx;simp only[lN] at hx;subst hx;simp[pin])|fail
 |true=>
  have u:a0r i n=14:=by unfold a0r;rw[q];rfl
  rw[u] at hN
  refine PCB.ob Tryz.func82 Tryz.ntmps82 Tryz.results82 ?_
  repeat'(first|simp only[go_sem,pin,ad,q,ae]<;>refine nf ?_|refine stp ?_;intro K hK|apply hK;clear hK K|refine stn ?_|(refine⟨1000000,_,_,_,hN,rfl,?_⟩)|(refine⟨1000000,_,_,_,a0u 1000000 s1 ab 3 (by omega),rfl,?_⟩)|(refine⟨1000000,_,_,_,hI,rfl,?_⟩)|refine stq ?_|clear hK K)
  all_goals(try rw[← hm];try simp only[*])
  all_goals first|exact⟨rfl,fun x hx=>by simp only[lN] at hx;subst hx;simp[pin]⟩|(intro x hx;simp only[lN] at hx;subst hx;simp[pin])|fail
theorem c6R:a6d 9:=by
 intro s i n hs ai ag hn hk
 have ah:=a1y i n
 have ad:=w64 (n:=n-1) (by omega)
 obtain⟨s1,aa⟩:∃ s1,s1=a0g s (a0r i n):=⟨_,rfl⟩
 have ab:s1.ok:=by rw[aa];exact a0k hs _
 have hN:=a0u 1000000 s hs (a0r i n) (by omega)
 rw[hk,← aa] at hN
 rw[← aa]
 have h5:=a0p s1 (n:=3) (by omega)
 have af:=a0k ab 3
 obtain⟨m,hm⟩:∃ m:Nat,m=(a0j s1 3).toNat:=⟨_,rfl⟩
 have ae:a0j s1 3=(m:Int):=by omega
 have hI:=a3w 1000000 _ af m (by omega) 0 n (by omega) (by omega) hn
 unfold a4v
 simp only[Int.reduceEq,zac,zad,zaa,zab,zap,zam,zaj,a4a]
 cases q:decide (i=n-1) with
 |false=>
  have u:a0r i n=18:=by unfold a0r;rw[q];rfl
  rw[u] at hN
  refine PCB.ob Tryz.func82 Tryz.ntmps82 Tryz.results82 ?_
  repeat'(first|simp only[go_sem,pin,ad,q,ae]<;>refine nf ?_|refine stp ?_;intro K hK|apply hK;clear hK K|refine stn ?_|(refine⟨1000000,_,_,_,hN,rfl,?_⟩)|(refine⟨1000000,_,_,_,a0u 1000000 s1 ab 3 (by omega),rfl,?_⟩)|(refine⟨1000000,_,_,_,hI,rfl,?_⟩)|refine stq ?_|clear hK K)
  all_goals(try rw[← hm];try simp only[*])
  all_goals first|exact⟨rfl,fun x hx=>by simp only[lN] at hx;subst hx;simp[pin]⟩|(intro x hx;simp only[lN] at hx;subst hx;simp[pin])|fail
 |true=>
  have u:a0r i n=14:=by unfold a0r;rw[q];rfl
  rw[u] at hN
  refine PCB.ob Tryz.func82 Tryz.ntmps82 Tryz.results82 ?_
  repeat'(first|simp only[go_sem,pin,ad,q,ae]<;>refine nf ?_|refine stp ?_;intro K hK|apply hK;clear hK K|refine stn ?_|(refine⟨1000000,_,_,_,hN,rfl,?_⟩)|(refine⟨1000000,_,_,_,a0u 1000000 s1 ab 3 (by omega),rfl,?_⟩)|(refine⟨1000000,_,_,_,hI,rfl,?_⟩)|refine stq ?_|clear hK K)
  all_goals(try rw[← hm];try simp only[*])
  all_goals first|exact⟨rfl,fun x hx=>by simp only[lN] at hx;subst hx;simp[pin]⟩|(intro x hx;simp only[lN] at hx;subst hx;simp[pin])|fail
theorem c26:a6d 10:=by
 intro s i n hs ag ae hn hk
 have af:=a1y i n
 have ab:=w64 (n:=n-1) (by omega)
 obtain⟨s1,aa⟩:∃ s1,s1=a0g s (a0r i n):=⟨_,rfl⟩
 have ad:s1.ok:=by rw[aa];exact a0k hs _
 have hN:=a0u 1000000 s hs (a0r i n) (by omega)
 rw[hk,← aa] at hN
 rw[← aa]
 have hI:=a3w 1000000 s1 ad 2 (by omega) 0 n (by omega) (by omega) hn
 unfold a4v
 simp only[Int.reduceEq,zac,zad,zaa,zab,zap,zam,zaj,a4a]
 cases q:decide (i=n-1) with
 |false=>
  have u:a0r i n=18:=by unfold a0r;rw[q];rfl
  rw[u] at hN
  refine PCB.ob Tryz.func82 Tryz.ntmps82 Tryz.results82 ?_
  repeat'(first|simp only[go_sem,pin,ab,q]<;>refine nf ?_|refine stp ?_;intro K hK|apply hK;clear hK K|refine stn ?_|(refine⟨1000000,_,_,_,hN,rfl,?_⟩)|(refine⟨1000000,_,_,_,hI,rfl,?_⟩)|refine stq ?_|clear hK K)
  all_goals(try simp only[*])
  all_goals first|exact⟨rfl,fun x hx=>by simp only[lN] at hx;subst hx;simp[pin]⟩|(intro x hx;simp only[lN] at hx;subst hx;simp[pin])|fail
 |true=>
  have u:a0r i n=14:=by unfold a0r;rw[q];rfl
  rw[u] at hN
  refine PCB.ob Tryz.func82 Tryz.ntmps82 Tryz.results82 ?_
  repeat'(first|simp only[go_sem,pin,ab,q]<;>refine nf ?_|refine stp ?_;intro K hK|apply hK;clear hK K|refine stn ?_|(refine⟨1000000,_,_,_,hN,rfl,?_⟩)|(refine⟨1000000,_,_,_,hI,rfl,?_⟩)|refine stq ?_|clear hK K)
  all_goals(try simp only[*])
  all_goals first|exact⟨rfl,fun x hx=>by simp only[lN] at hx;subst hx;simp[pin]⟩|(intro x hx;simp only[lN] at hx;subst hx;simp[pin])|fail
theorem c27:a6d 11:=by
 intro s i n hs ag ae hn hk
 have af:=a1y i n
 have ab:=w64 (n:=n-1) (by omega)
 obtain⟨s1,aa⟩:∃ s1,s1=a0g s (a0r i n):=⟨_,rfl⟩
 have ad:s1.ok:=by rw[aa];exact a0k hs _
 have hN:=a0u 1000000 s hs (a0r i n) (by omega)
 rw[hk,← aa] at hN
 rw[← aa]
 have hM:=c0n 1000000 s1 ad n (by omega)
 unfold a4v
 simp only[Int.reduceEq,zac,zad,zaa,zab,zap,zam,zaj,a4a]
 cases q:decide (i=n-1) with
 |false=>
  have u:a0r i n=18:=by unfold a0r;rw[q];rfl
  rw[u] at hN
  refine PCB.ob Tryz.func82 Tryz.ntmps82 Tryz.results82 ?_
  repeat'(first|simp only[go_sem,pin,ab,q]<;>refine nf ?_|refine stp ?_;intro K hK|apply hK;clear hK K|refine stn ?_|(refine⟨1000000,_,_,_,hN,rfl,?_⟩)|(refine⟨1000000,_,_,_,hM,rfl,?_⟩)|refine stq ?_|clear hK K)
  all_goals(try simp only[*])
  all_goals first|exact⟨rfl,fun x hx=>by simp only[lN] at hx;subst hx;simp[pin]⟩|(intro x hx;simp only[lN] at hx;subst hx;simp[pin])|fail
 |true=>
  have u:a0r i n=14:=by unfold a0r;rw[q];rfl
  rw[u] at hN
  refine PCB.ob Tryz.func82 Tryz.ntmps82 Tryz.results82 ?_
  repeat'(first|simp only[go_sem,pin,ab,q]<;>refine nf ?_|refine stp ?_;intro K hK|apply hK;clear hK K|refine stn ?_|(refine⟨1000000,_,_,_,hN,rfl,?_⟩)|(refine⟨1000000,_,_,_,hM,rfl,?_⟩)|refine stq ?_|clear hK K)
  all_goals(try simp only[*])
  all_goals first|exact⟨rfl,fun x hx=>by simp only[lN] at hx;subst hx;simp[pin]⟩|(intro x hx;simp only[lN] at hx;subst hx;simp[pin])|fail
theorem c28:a6d 12:=by
 intro s i n hs ai ag hn hk
 have ah:=a1y i n
 have ad:=w64 (n:=n-1) (by omega)
 obtain⟨s1,aa⟩:∃ s1,s1=a0g s (a0r i n):=⟨_,rfl⟩
 have ab:s1.ok:=by rw[aa];exact a0k hs _
 have hN:=a0u 1000000 s hs (a0r i n) (by omega)
 rw[hk,← aa] at hN
 rw[← aa]
 have h5:=a0p s1 (n:=3) (by omega)
 have af:=a0k ab 3
 obtain⟨m,hm⟩:∃ m:Nat,m=(1+a0j s1 3).toNat:=⟨_,rfl⟩
 have ae:IntKind.i64.wrap (1+a0j s1 3)=(m:Int):=by rw[w64 (by omega)];omega
 have hI:=a3w 1000000 _ af m (by omega) 0 n (by omega) (by omega) hn
 unfold a4v
 simp only[Int.reduceEq,zac,zad,zaa,zab,zap,zam,zaj,a4a]
 cases q:decide (i=n-1) with
 |false=>
  have u:a0r i n=18:=by unfold a0r;rw[q];rfl
  rw[u] at hN
  refine PCB.ob Tryz.func82 Tryz.ntmps82 Tryz.results82 ?_
  repeat'(first|simp only[go_sem,pin,ad,q,ae]<;>refine nf ?_|refine stp ?_;intro K hK|apply hK;clear hK K|refine stn ?_|(refine⟨1000000,_,_,_,hN,rfl,?_⟩)|(refine⟨1000000,_,_,_,a0u 1000000 s1 ab 3 (by omega),rfl,?_⟩)|(refine⟨1000000,_,_,_,hI,rfl,?_⟩)|refine stq ?_|clear hK K)
  all_goals(try rw[← hm];try simp only[*])
  all_goals first|exact⟨rfl,fun x hx=>by simp only[lN] at hx;subst hx;simp[pin]⟩|(intro x hx;simp only[lN] at hx;subst hx;simp[pin])|fail
 |true=>
  have u:a0r i n=14:=by unfold a0r;rw[q];rfl
  rw[u] at hN
  refine PCB.ob Tryz.func82 Tryz.ntmps82 Tryz.results82 ?_
  repeat'(first|simp only[go_sem,pin,ad,q,ae]<;>refine nf ?_|refine stp ?_;intro K hK|apply hK;clear hK K|refine stn ?_|(refine⟨1000000,_,_,_,hN,rfl,?_⟩)|(refine⟨1000000,_,_,_,a0u 1000000 s1 ab 3 (by omega),rfl,?_⟩)|(refine⟨1000000,_,_,_,hI,rfl,?_⟩)|refine stq ?_|clear hK K)
  all_goals(try rw[← hm];try simp only[*])
  all_goals first|exact⟨rfl,fun x hx=>by simp only[lN] at hx;subst hx;simp[pin]⟩|(intro x hx;simp only[lN] at hx;subst hx;simp[pin])|fail
theorem c29:a6d 13:=by
 intro s i n hs ai ag hn hk
 have ah:=a1y i n
 have ad:=w64 (n:=n-1) (by omega)
 obtain⟨s1,aa⟩:∃ s1,s1=a0g s (a0r i n):=⟨_,rfl⟩
 have ab:s1.ok:=by rw[aa];exact a0k hs _
 have hN:=a0u 1000000 s hs (a0r i n) (by omega)
 rw[hk,← aa] at hN
 rw[← aa]
 have h5:=a0p s1 (n:=3) (by omega)
 have af:=a0k ab 3
 obtain⟨m,hm⟩:∃ m:Nat,m=(1+a0j s1 3).toNat:=⟨_,rfl⟩
 have ae:IntKind.i64.wrap (1+a0j s1 3)=(m:Int):=by rw[w64 (by omega)];omega
 have hI:=a3w 1000000 _ af m (by omega) 0 n (by omega) (by omega) hn
 unfold a4v
 simp only[Int.reduceEq,zac,zad,zaa,zab,zap,zam,zaj,a4a]
 cases q:decide (i=n-1) with
 |false=>
  have u:a0r i n=18:=by unfold a0r;rw[q];rfl
  rw[u] at hN
  refine PCB.ob Tryz.func82 Tryz.ntmps82 Tryz.results82 ?_
  repeat'(first|simp only[go_sem,pin,ad,q,ae]<;>refine nf ?_|refine stp ?_;intro K hK|apply hK;clear hK K|refine stn ?_|(refine⟨1000000,_,_,_,hN,rfl,?_⟩)|(refine⟨1000000,_,_,_,a0u 1000000 s1 ab 3 (by omega),rfl,?_⟩)|(refine⟨1000000,_,_,_,hI,rfl,?_⟩)|refine stq ?_|clear hK K)
  all_goals(try rw[← hm];try simp only[*])
  all_goals first|exact⟨rfl,fun x hx=>by simp only[lN] at hx;subst hx;simp[pin]⟩|(intro x hx;simp only[lN] at hx;subst hx;simp[pin])|fail
 |true=>
  have u:a0r i n=14:=by unfold a0r;rw[q];rfl
  rw[u] at hN
  refine PCB.ob Tryz.func82 Tryz.ntmps82 Tryz.results82 ?_
  repeat'(first|simp only[go_sem,pin,ad,q,ae]<;>refine nf ?_|refine stp ?_;intro K hK|apply hK;clear hK K|refine stn ?_|(refine⟨1000000,_,_,_,hN,rfl,?_⟩)|(refine⟨1000000,_,_,_,a0u 1000000 s1 ab 3 (by omega),rfl,?_⟩)|(refine⟨1000000,_,_,_,hI,rfl,?_⟩)|refine stq ?_|clear hK K)
  all_goals(try rw[← hm];try simp only[*])
  all_goals first|exact⟨rfl,fun x hx=>by simp only[lN] at hx;subst hx;simp[pin]⟩|(intro x hx;simp only[lN] at hx;subst hx;simp[pin])|fail
theorem c3a:a6d 14:=by
 intro s i n hs ah af hn hk
 have ag:=a1y i n
 have ad:=w64 (n:=n-1) (by omega)
 obtain⟨s1,aa⟩:∃ s1,s1=a0g s (a0r i n):=⟨_,rfl⟩
 have ae:s1.ok:=by rw[aa];exact a0k hs _
 have hN:=a0u 1000000 s hs (a0r i n) (by omega)
 rw[hk,← aa] at hN
 rw[← aa]
 have hi:i+1<n:=by
  rcases Decidable.em (i=n-1) with h|h
  ·exfalso;have:=a0p s (n:=a0r i n) (a1y i n).1;rw[show a0r i n=14 from by unfold a0r;rw[zbo h];rfl] at this hk;omega
  ·omega
 have ab:=w64 (n:=i+1) (by omega)
 have hI:=a3w 1000000 s1 ae 1 (by omega) (i+1) n (by omega) (by omega) hn
 unfold a4v
 simp only[Int.reduceEq,zac,zad,zaa,zab,zap,zam,zaj,a4a]
 cases q:decide (i=n-1) with
 |false=>
  have u:a0r i n=18:=by unfold a0r;rw[q];rfl
  rw[u] at hN
  refine PCB.ob Tryz.func82 Tryz.ntmps82 Tryz.results82 ?_
  repeat'(first|simp only[go_sem,pin,ad,q,ab]<;>refine nf ?_|refine stp ?_;intro K hK|apply hK;clear hK K|refine stn ?_|(refine⟨1000000,_,_,_,hN,rfl,?_⟩)|(refine⟨1000000,_,_,_,hI,rfl,?_⟩)|refine stq ?_|clear hK K)
  all_goals(try simp only[*])
  all_goals first|exact⟨rfl,fun x hx=>by simp only[lN] at hx;subst hx;simp[pin]⟩|(intro x hx;simp only[lN] at hx;subst hx;simp[pin])|fail
 |true=>
  have u:a0r i n=14:=by unfold a0r;rw[q];rfl
  rw[u] at hN
  refine PCB.ob Tryz.func82 Tryz.ntmps82 Tryz.results82 ?_
  repeat'(first|simp only[go_sem,pin,ad,q,ab]<;>refine nf ?_|refine stp ?_;intro K hK|apply hK;clear hK K|refine stn ?_|(refine⟨1000000,_,_,_,hN,rfl,?_⟩)|(refine⟨1000000,_,_,_,hI,rfl,?_⟩)|refine stq ?_|clear hK K)
  all_goals(try simp only[*])
  all_goals first|exact⟨rfl,fun x hx=>by simp only[lN] at hx;subst hx;simp[pin]⟩|(intro x hx;simp only[lN] at hx;subst hx;simp[pin])|fail
theorem c3b:a6d 15:=by
 intro s i n hs ah af hn hk
 have ag:=a1y i n
 have ad:=w64 (n:=n-1) (by omega)
 obtain⟨s1,aa⟩:∃ s1,s1=a0g s (a0r i n):=⟨_,rfl⟩
 have ae:s1.ok:=by rw[aa];exact a0k hs _
 have hN:=a0u 1000000 s hs (a0r i n) (by omega)
 rw[hk,← aa] at hN
 rw[← aa]
 have hi:i+1<n:=by
  rcases Decidable.em (i=n-1) with h|h
  ·exfalso;have:=a0p s (n:=a0r i n) (a1y i n).1;rw[show a0r i n=14 from by unfold a0r;rw[zbo h];rfl] at this hk;omega
  ·omega
 have ab:=w64 (n:=i+1) (by omega)
 have hI:=a3w 1000000 s1 ae 2 (by omega) (i+1) n (by omega) (by omega) hn
 unfold a4v
 simp only[Int.reduceEq,zac,zad,zaa,zab,zap,zam,zaj,a4a]
 cases q:decide (i=n-1) with
 |false=>
  have u:a0r i n=18:=by unfold a0r;rw[q];rfl
  rw[u] at hN
  refine PCB.ob Tryz.func82 Tryz.ntmps82 Tryz.results82 ?_
  repeat'(first|simp only[go_sem,pin,ad,q,ab]<;>refine nf ?_|refine stp ?_;intro K hK|apply hK;clear hK K|refine stn ?_|(refine⟨1000000,_,_,_,hN,rfl,?_⟩)|(refine⟨1000000,_,_,_,hI,rfl,?_⟩)|refine stq ?_|clear hK K)
  all_goals(try simp only[*])
  all_goals first|exact⟨rfl,fun x hx=>by simp only[lN] at hx;subst hx;simp[pin]⟩|(intro x hx;simp only[lN] at hx;subst hx;simp[pin])|fail
 |true=>
  have u:a0r i n=14:=by unfold a0r;rw[q];rfl
  rw[u] at hN
  refine PCB.ob Tryz.func82 Tryz.ntmps82 Tryz.results82 ?_
  repeat'(first|simp only[go_sem,pin,ad,q,ab]<;>refine nf ?_|refine stp ?_;intro K hK|apply hK;clear hK K|refine stn ?_|(refine⟨1000000,_,_,_,hN,rfl,?_⟩)|(refine⟨1000000,_,_,_,hI,rfl,?_⟩)|refine stq ?_|clear hK K)
  all_goals(try simp only[*])
  all_goals first|exact⟨rfl,fun x hx=>by simp only[lN] at hx;subst hx;simp[pin]⟩|(intro x hx;simp only[lN] at hx;subst hx;simp[pin])|fail
theorem c3c:a6d 16:=by
 intro s i n hs aj ah hn hk
 have ai:=a1y i n
 have ae:=w64 (n:=n-1) (by omega)
 obtain⟨s1,aa⟩:∃ s1,s1=a0g s (a0r i n):=⟨_,rfl⟩
 have ab:s1.ok:=by rw[aa];exact a0k hs _
 have hN:=a0u 1000000 s hs (a0r i n) (by omega)
 rw[hk,← aa] at hN
 rw[← aa]
 have hi:i+1<n:=by
  rcases Decidable.em (i=n-1) with h|h
  ·exfalso;have:=a0p s (n:=a0r i n) (a1y i n).1;rw[show a0r i n=14 from by unfold a0r;rw[zbo h];rfl] at this hk;omega
  ·omega
 have h5:=a0p s1 (n:=2) (by omega)
 have ag:=a0k ab 2
 obtain⟨m,hm⟩:∃ m:Nat,m=(2+a0j s1 2).toNat:=⟨_,rfl⟩
 have af:IntKind.i64.wrap (2+a0j s1 2)=(m:Int):=by rw[w64 (by omega)];omega
 have ad:=w64 (n:=i+1) (by omega)
 have hI:=a3w 1000000 _ ag m (by omega) (i+1) n (by omega) (by omega) hn
 unfold a4v
 simp only[Int.reduceEq,zac,zad,zaa,zab,zap,zam,zaj,a4a]
 cases q:decide (i=n-1) with
 |false=>
  have u:a0r i n=18:=by unfold a0r;rw[q];rfl
  rw[u] at hN
  refine PCB.ob Tryz.func82 Tryz.ntmps82 Tryz.results82 ?_
  repeat'(first|simp only[go_sem,pin,ae,q,af,ad]<;>refine nf ?_|refine stp ?_;intro K hK|apply hK;clear hK K|refine stn ?_|(refine⟨1000000,_,_,_,hN,rfl,?_⟩)|(refine⟨1000000,_,_,_,a0u 1000000 s1 ab 2 (by omega),rfl,?_⟩)|(refine⟨1000000,_,_,_,hI,rfl,?_⟩)|refine stq ?_|fail)
  all_goals(try rw[← hm];try simp only[*])
  all_goals first|exact⟨rfl,fun x hx=>by simp only[lN] at hx;subst hx;simp[pin]⟩|(intro x hx;simp only[lN] at hx;subst hx;simp[pin])|fail
 |true=>
  have u:a0r i n=14:=by unfold a0r;rw[q];rfl
  rw[u] at hN
  refine PCB.ob Tryz.func82 Tryz.ntmps82 Tryz.results82 ?_
  repeat'(first|simp only[go_sem,pin,ae,q,af,ad]<;>refine nf ?_|refine stp ?_;intro K hK|apply hK;clear hK K|refine stn ?_|(refine⟨1000000,_,_,_,hN,rfl,?_⟩)|(refine⟨1000000,_,_,_,a0u 1000000 s1 ab 2 (by omega),rfl,?_⟩)|(refine⟨1000000,_,_,_,hI,rfl,?_⟩)|refine stq ?_|fail)
  all_goals(try rw[← hm];try simp only[*])
  all_goals first|exact⟨rfl,fun x hx=>by simp only[lN] at hx;subst hx;simp[pin]⟩|(intro x hx;simp only[lN] at hx;subst hx;simp[pin])|fail
theorem c3d:a6d 17:=by
 intro s i n hs aj ah hn hk
 have ai:=a1y i n
 have ae:=w64 (n:=n-1) (by omega)
 obtain⟨s1,aa⟩:∃ s1,s1=a0g s (a0r i n):=⟨_,rfl⟩
 have ab:s1.ok:=by rw[aa];exact a0k hs _
 have hN:=a0u 1000000 s hs (a0r i n) (by omega)
 rw[hk,← aa] at hN
 rw[← aa]
 have hi:i+1<n:=by
  rcases Decidable.em (i=n-1) with h|h
  ·exfalso;have:=a0p s (n:=a0r i n) (a1y i n).1;rw[show a0r i n=14 from by unfold a0r;rw[zbo h];rfl] at this hk;omega
  ·omega
 have h5:=a0p s1 (n:=2) (by omega)
 have ag:=a0k ab 2
 obtain⟨m,hm⟩:∃ m:Nat,m=(2+a0j s1 2).toNat:=⟨_,rfl⟩
 have af:IntKind.i64.wrap (2+a0j s1 2)=(m:Int):=by rw[w64 (by omega)];omega
 have ad:=w64 (n:=i+1) (by omega)
 have hI:=a3w 1000000 _ ag m (by omega) (i+1) n (by omega) (by omega) hn
 unfold a4v
 simp only[Int.reduceEq,zac,zad,zaa,zab,zap,zam,zaj,a4a]
 cases q:decide (i=n-1) with
 |false=>
  have u:a0r i n=18:=by unfold a0r;rw[q];rfl
  rw[u] at hN
  refine PCB.ob Tryz.func82 Tryz.ntmps82 Tryz.results82 ?_
  repeat'(first|simp only[go_sem,pin,ae,q,af,ad]<;>refine nf ?_|refine stp ?_;intro K hK|apply hK;clear hK K|refine stn ?_|(refine⟨1000000,_,_,_,hN,rfl,?_⟩)|(refine⟨1000000,_,_,_,a0u 1000000 s1 ab 2 (by omega),rfl,?_⟩)|(refine⟨1000000,_,_,_,hI,rfl,?_⟩)|refine stq ?_|fail)
  all_goals(try rw[← hm];try simp only[*])
  all_goals first|exact⟨rfl,fun x hx=>by simp only[lN] at hx;subst hx;simp[pin]⟩|(intro x hx;simp only[lN] at hx;subst hx;simp[pin])|fail
 |true=>
  have u:a0r i n=14:=by unfold a0r;rw[q];rfl
  rw[u] at hN
  refine PCB.ob Tryz.func82 Tryz.ntmps82 Tryz.results82 ?_
  repeat'(first|simp only[go_sem,pin,ae,q,af,ad]<;>refine nf ?_|refine stp ?_;intro K hK|apply hK;clear hK K|refine stn ?_|(refine⟨1000000,_,_,_,hN,rfl,?_⟩)|(refine⟨1000000,_,_,_,a0u 1000000 s1 ab 2 (by omega),rfl,?_⟩)|(refine⟨1000000,_,_,_,hI,rfl,?_⟩)|refine stq ?_|fail)
  all_goals(try rw[← hm];try simp only[*])
  all_goals first|exact⟨rfl,fun x hx=>by simp only[lN] at hx;subst hx;simp[pin]⟩|(intro x hx;simp only[lN] at hx;subst hx;simp[pin])|fail
theorem c3e (k:Int) (h0:0≤k) (h1:k<18):a6d k:=by
  have hk:k=0∨k=1∨k=2∨k=3∨k=4∨k=5∨k=6∨k=7∨k=8∨k=9∨k=10∨k=11∨k=12∨k=13∨k=14∨k=15∨k=16∨k=17:=by omega
  rcases hk with rfl|rfl|rfl|rfl|rfl|rfl|rfl|rfl|rfl|rfl|rfl|rfl|rfl|rfl|rfl|rfl|rfl|rfl
  · exact c6I
  · exact c6J
  · exact c6K
  · exact c6L
  · exact c6M
  · exact c6N
  · exact c6O
  · exact c6P
  · exact c6Q
  · exact c6R
  · exact c26
  · exact c27
  · exact c28
  · exact c29
  · exact c3a
  · exact c3b
  · exact c3c
  · exact c3d
theorem c6S (s:Src) (hs:s.ok) (i n:Int) (q:0≤i) (u:i<n) (hn:n≤1000):PCB Tryz.prog 82 [Sp pin,I .i64 i,I .i64 n] [(pin,a00 s)] (Nt (a9c i n s).1) [(pin,a00 (a9c i n s).2)]:=by
  have hv:=a0p s (n:=a0r i n) (a1y i n).1
  have:=(a1y i n).2
  exact c3e _ hv.1 (by omega) s i n hs q u hn rfl
theorem c6T (k:Nat) (s:Src) (hs:s.ok) (i n:Int) (q:0≤i) (u:i<n) (hn:n≤1000):a1k Tryz.prog 82 [Sp k,I .i64 i,I .i64 n] k (a00 s) (Nt (a9c i n s).1) (a00 (a9c i n s).2):=a1k.mk k (c6S s hs i n q u hn)
def b8B (n:Int):Nat→Nat→Src→List NodeD×Src
  |0,i,s=>([],s)
  |m+1,i,s=>((a9c i n s).1::(b8B n m (i+1) (a9c i n s).2).1,(b8B n m (i+1) (a9c i n s).2).2)
def b4q (n:Nat) (s:Src):List NodeD×Src:=b8B n n 0 s
theorem b7r (n:Int):∀ (m i:Nat) (s:Src),(b8B n m i s).1.length=m
  |0,i,s=>rfl
  |m+1,i,s=>by simp[b8B,b7r n m]
theorem d0X (l:List NodeD) (x:NodeD):l.map a0e++[a0e x]=(l++[x]).map a0e:=by simp
abbrev c9s (m:Nat):Res:= .cells [.own 900 m, .dat (.int .i64 0)]
theorem c6U (s:Src) (hs:s.ok) (n:Nat) (hn:1≤n∧n≤1000):PCB Tryz.prog 40 [Sp pin,I .i64 n] [(pin,a00 s)] (Tt (b4q n s).1 0) [(pin,a00 (b4q n s).2)]:=by
 have aa:(if (1:Int)>(n:Int) then (1:Int) else (n:Int))=(n:Int):=za5 (by omega)
 refine PCB.ob Tryz.func40 Tryz.ntmps40 Tryz.results40 ?_
 repeat'(first|simp only[go_sem,pin,aa]<;>refine nf ?_|refine stp ?_;intro K hK|apply hK;clear hK K|refine stn ?_|fail)
 refine xD (Gh.nilcell 5 0 900 rfl rfl rfl (by simp only[go_sem]) (by simp only[go_sem])) ?_
 refine AWP.loopF (X:=Nat×Src×List NodeD) (fun x=>[(6,I .i64 x.1)]) (fun x=>[(1000000,a00 x.2.1),(5,c9s x.2.2.length),(900, .row 8 (x.2.2.map a0e))]) [0,1,4,5] [4] (fun x=>x.1≤n∧x.2.2.length=x.1∧x.2.1.ok∧b4q n s=(x.2.2++(b8B n (n-x.1) x.1 x.2.1).1,(b8B n (n-x.1) x.1 x.2.1).2)) (fun x=>n-x.1) ((0,s,[])) (by refine sts ?_;exact Gh.tt []) ?_ ?_
 ·exact⟨zao _,rfl,hs,rfl⟩
 rintro⟨i,t,u⟩ ⟨hi,hl,ht,hp⟩
 simp only at hi hl ht hp
 refine sts ?_
 by_cases h3:i=n
 ·subst h3
  rw[zdh,b8B,zbq] at hp
  have q:decide ((i:Int)<(i:Int))=false:=by simp
  refine xD (Gh.freeze 900 rfl rfl (by simp only[go_sem,lB,hl]) (by simp only[go_sem,lB,hl])) ?_
  simp only[go_sem,lB,hl]
  repeat'(first|simp only[go_sem,pin,q]<;>refine nf ?_|refine stp ?_;intro K hK|apply hK;clear hK K|refine stn ?_|clear hK K)
  all_goals(rw[hp];first|exact⟨rfl,fun x hx=>by simp only[lN] at hx;subst hx;simp[pin]⟩|(intro x hx;simp only[lN] at hx;subst hx;simp[pin]))
 ·have q:decide ((i:Int)<(n:Int))=true:=by rw[zan];omega
  have hw:IntKind.i64.wrap ((i:Int)+1)=((i+1:Nat):Int):=by rw[w64 (by omega)];rfl
  have hd:n-i=(n-(i+1))+1:=by omega
  rw[hd,b8B] at hp
  repeat'(first|simp only[go_sem,pin,q,hw,lB,d0X]<;>refine nf ?_|refine stp ?_;intro K hK|apply hK;clear hK K|refine stn ?_|(with_reducible (refine⟨(by first|omega|(simp only[zba,lB,zbb,za1,List.length_cons,List.length_nil,za4];omega):_≤_),?_⟩))|(refine⟨1000000,_,_,_,c6T 1000000 t ht i n (by omega) (by omega) (by omega),rfl,?_⟩)|(with_reducible refine AWP.genR2 (id:=6) [5,7,9] [1000000,5,900] [1] 9 [1000000,900] mixed (by kernel_rfl) fun K hK=>?_;simp only[Bx.outs,Bx.drop,zaa,zab,Nat.reduceBEq,go_sem])|clear hK K)
  all_goals(refine⟨(i+1,(a9c i n t).2,u++[(a9c i n t).1]),by simp only;omega,⟨by simp only;omega,by simp[hl],c25 i n ht,by rw[zb1];exact hp⟩,Gh.tt [(900,22)]⟩)
end Go.Proofs.YtoelgackkclcmaaGreat

