/- Lemmas. -/
import Derived.Test.YtoelgackkclcmaaGreatPc16
open List renaming length_map→lB,mem_singleton→lN
open Go.Sx.AWP renaming gh→xD
open Bool renaming not_eq_true'→zM,not_eq_false'→zN
set_option linter.unusedSimpArgs false
set_option linter.unusedVariables false
set_option maxRecDepth 20000
set_option maxHeartbeats 64000000
namespace Go.Proofs.YtoelgackkclcmaaGreat
open Go Go.Sx
def c5e (n:Int) (l:List Ent):Val:=⟨9,n,[],[],[],l,[]⟩
def fnV (n:Int) (l:List Ent):Val×Int:=
  bif decide (n<0)||decide (4<n) then (a2f,1) else (bif l.all (fun e=>b5B e n) then (c5e n (b20 l),0) else (a2f,1))
theorem a8z (n:Int) (l:List Ent) (ad:l.length≤1000000):PC Tryz.prog 117 [I .i64 n, .one (.dat (.sl 9 (l.map a0n)))] (.tup [Vt (fnV n l).1,I .i64 (fnV n l).2]):=by
 have ae:=b9U l ad
 refine PCB.ob Tryz.func117 Tryz.ntmps117 Tryz.results117 ?_
 unfold fnV
 cases hn:decide (n<0)
 ·cases hm:decide (4<n)
  ·simp only[zaj,zab]
   repeat'(first|simp only[go_sem,hn,hm,lB]<;>refine nf ?_|refine stp ?_;intro K hK|apply hK;clear hK K|refine stn ?_|fail)
   refine AWP.len 1 rfl fun u=>?_
   (try rw[lB] at u)
   refine AWP.range (S:=Unit) (l) a0n (fun k s=>(6,I .i64 (k:Nat))::[]) (fun k s=>[]) [0,1,4] [4] (fun k s=>(l.all fun e=>b5B e n)=((l.drop k).all fun e=>b5B e n)) (()) (by refine sts ?_;exact Gh.tt []) ?_ ?_ ?_
   ·rfl
   ·intro k s x af hx ab hb q
    refine sts ?_
    rw[a3b hx] at q
    rw[show b5B x n=(decide ((x.1.length:Int)=n)&&(!x.2.1||a7d x.2.2)) from rfl] at q
    have aa:=b17 x.2.2 a2f
    rw[a42,a0a] at aa
    cases hl:decide ((x.1.length:Int)=n)<;>cases hf:x.2.1<;>cases hz:decide (valC x.2.2 a2f=0)
    all_goals(simp only[a7d,hl,hf,hz,zaw,zay,zae,zai,zap,zaj,zam,zaq,zat,zar] at q)
    all_goals
     repeat'(first|simp only[go_sem,a0A x,lB,hb,hz,hl,hf]<;>refine nf ?_|refine stp ?_;intro K hK|apply hK;clear hK K|refine stn ?_|(with_reducible first|refine⟨_,aa,?_⟩|refine⟨by omega,a0n x,ab,?_⟩)|refine stq ?_|clear hK K)
    any_goals (first|exact fun _ h=>absurd h zaf|(refine a0m ?_;simp only[q,zab,b2a];try rfl))
    all_goals(rw[a0b af u])
    all_goals(refine⟨(),?_,Gh.tt []⟩)
    all_goals exact q
   ·intro s hb q
    refine sts ?_
    rw[a4m] at q
    repeat'(first|simp only[go_sem,lB,hb]<;>refine nf ?_|refine stp ?_;intro K hK|apply hK;clear hK K|refine stn ?_|(with_reducible refine⟨_,ae,?_⟩)|refine stq ?_|clear hK K)
    all_goals(refine a0m ?_;simp only[q,zaa,Vt,a0a (c5e n (b20 l))];try rfl)
  ·
   repeat'(first|simp only[go_sem,hn,hm]<;>refine nf ?_|refine stp ?_;intro K hK|apply hK;clear hK K|refine stn ?_|clear hK K)
   all_goals(first|exact fun _ h=>absurd h zaf|refine a0m ?_)
   all_goals(simp only[zap,zaj,zaa,b2a];try rfl)
 ·
  repeat'(first|simp only[go_sem,hn]<;>refine nf ?_|refine stp ?_;intro K hK|apply hK;clear hK K|refine stn ?_|clear hK K)
  all_goals(first|exact fun _ h=>absurd h zaf|refine a0m ?_)
  all_goals(simp only[zam,zaa,b2a];try rfl)
def a1a {α:Type} (f:Src→α×Src):Nat→Src→List α×Src
  |0,s=>([],s)
  |n+1,s=>((f s).1::(a1a f n (f s).2).1,(a1a f n (f s).2).2)
theorem a5A {α:Type} (f:Src→α×Src) (n:Nat) (s:Src) (q:List α):(q++(a1a f (n+1) s).1,(a1a f (n+1) s).2)=((q++[(f s).1])++(a1a f n (f s).2).1,(a1a f n (f s).2).2):=by
  simp[a1a]
theorem b01 {α:Type} (f:Src→α×Src):∀ (n:Nat) (s:Src),(a1a f n s).1.length=n
  |0,s=>rfl
  |n+1,s=>by simp[a1a,b01 f n]
theorem a7w {α:Type} {f:Src→α×Src} (hf:∀ s:Src,s.ok→(f s).2.ok):∀ (n:Nat) (s:Src),s.ok→(a1a f n s).2.ok
  |0,s,h=>h
  |n+1,s,h=>by unfold a1a;exact a7w hf n _ (hf s h)
theorem b4p {α:Type} {f:Src→α×Src} {p:α→Prop} (hf:∀ s:Src,p (f s).1):∀ (n:Nat) (s:Src),∀ x∈(a1a f n s).1,p x
 |0,s,x,h=>by simp[a1a] at h
 |n+1,s,x,h=>by
  simp only[a1a,zal] at h
  rcases h with rfl|h
  ·exact hf s
  ·exact b4p hf n _ x h
def a5B (f:Src→Val×Src) (h:Nat):Prop:=∀ s:Src,s.ok→PCB Tryz.prog 28 [Sp pin,I .i64 h] [(pin,a00 s)] (Vt (f s).1) [(pin,a00 (f s).2)]
theorem a5B.k {f:Src→Val×Src} {h:Nat} (H:a5B f h) (k:Nat) (s:Src) (hs:s.ok):a1k Tryz.prog 28 [Sp k,I .i64 h] k (a00 s) (Vt (f s).1) (a00 (f s).2):=a1k.mk k (H s hs)
def a2W (f:Src→Val×Src) (n:Nat) (s:Src):Ent×Src:=
  bif decide (a0j (a1a f n s).2 4=1) then (((a1a f n s).1,true,a2f),a0g (a1a f n s).2 4)
  else (((a1a f n s).1,false,(f (a0g (a1a f n s).2 4)).1),(f (a0g (a1a f n s).2 4)).2)
theorem b7n {f:Src→Val×Src} (hf:∀ s:Src,s.ok→(f s).2.ok) (n:Nat) {s:Src} (h:s.ok):(a2W f n s).2.ok:=by
  unfold a2W
  have h1:=a7w hf n s h
  cases decide (a0j (a1a f n s).2 4=1)
  · exact hf _ (a0k h1 4)
  · exact a0k h1 4
abbrev c5f (n:Nat):Res:= .cells [.own 900 n, .dat (.bool false), .dat (.int .i64 0), .dat (.int .i64 0), .dat (.str []), .dat (.nil 7), .dat (.nil 2), .dat (.nil 9), .dat (.nil 1)]
theorem c6z {f:Src→Val×Src} {h:Nat} (H:a5B f h) (hf:∀ s:Src,s.ok→(f s).2.ok) (n:Nat) (hn:n≤1000) (s:Src) (hs:s.ok):
  PCB Tryz.prog 116 [Sp pin,I .i64 n,I .i64 h] [(pin,a00 s)] (.st (a0n (a2W f n s).1)) [(pin,a00 (a2W f n s).2)]:=by
 refine PCB.ob Tryz.func116 Tryz.ntmps116 Tryz.results116 ?_
 repeat'(first|simp only[go_sem,pin]<;>refine nf ?_|refine stp ?_;intro K hK|apply hK;clear hK K|refine stn ?_|fail)
 refine xD (Gh.nilcell 7 0 900 rfl rfl rfl (by simp only[go_sem]) (by simp only[go_sem])) ?_
 refine AWP.loopF (X:=Nat×Src×List Val) (fun x=>[(0,Sp 1000000),(1,I .i64 x.1)]) (fun x=>[(1000000,a00 x.2.1),(7,c5f x.2.2.length),(900, .row 7 (x.2.2.map a0c))]) [2,6,7] [6] (fun x=>x.1+x.2.2.length≤1000∧x.2.1.ok∧a1a f n s=(x.2.2++(a1a f x.1 x.2.1).1,(a1a f x.1 x.2.1).2)) (fun x=>x.1) ((n,s,[])) (by refine sts ?_;exact Gh.tt []) ?_ ?_
 ·exact⟨by simp;exact hn,hs,by simp⟩
 rintro⟨m,t,q⟩ ⟨hl,ht,hp⟩
 simp only at hl ht hp
 refine sts ?_
 cases m with
 |succ m=>
  rw[a5A] at hp
  have u:IntKind.i64.wrap (((m+1:Nat):Int)-1)=(m:Int):=a2N (by omega)
  repeat'(first|simp only[go_sem,pin,lB,a9A,u,a4y]<;>refine nf ?_|refine stp ?_;intro K hK|apply hK;clear hK K|refine stn ?_|(with_reducible (refine⟨(by first|omega|(simp only[zba,lB,zbb,za1,List.length_cons,List.length_nil,za4];omega):_≤_),?_⟩))|(refine⟨1000000,_,_,_,H.k 1000000 t ht,rfl,?_⟩)|(with_reducible refine AWP.genR2 (id:=4) [4,6,8] [1000000,7,900] [1] 8 [1000000,900] mixed (by kernel_rfl) fun K hK=>?_;simp only[Bx.outs,Bx.drop,zaa,zab,Nat.reduceBEq,go_sem])|clear hK K)
  all_goals(refine⟨(m,(f t).2,q++[(f t).1]),by simp only;omega,⟨by simp;omega,hf t ht,hp⟩,Gh.tt [(900,18)]⟩)
 |zero=>
  rw[a1a,zbq] at hp
  have h0:decide ((0:Int)<((0:Nat):Int))=false:=by simp
  refine xD (Gh.fz 900) ?_
  simp only[go_sem,lB]
  repeat'(first|simp only[go_sem,pin,h0]<;>refine nf ?_|refine stp ?_;intro K hK|apply hK;clear hK K|refine stn ?_|(refine AWP.cnd ?_ ?_<;>intro h<;>(try simp only[zM,zN] at h))|(refine⟨1000000,_,_,_,a0u 1000000 t ht 4 (by omega),rfl,?_⟩)|(refine⟨1000000,_,_,_,H.k 1000000 _ (a0k ht 4),rfl,?_⟩)|refine stq ?_|clear hK K)
  all_goals(simp only[a2W,hp, *, zaa,zab])
  all_goals(first|refine⟨by first|rfl|(simp only[a0A,a0a];done)|(simp only[a0A,a0a];rfl),fun x hx=>?_⟩|refine⟨trivial,fun x hx=>?_⟩)
  all_goals(simp only[lN] at hx;subst hx;simp[pin])
def lab (r:Val×Src):Val×Src:=({ r.1 with labels:=(a1u r.2).1 },(a1u r.2).2)
def a3u (f:Src→Val×Src):Nat→Src→(List KeyD×List Val)×Src
  |0,s=>(([],[]),s)
  |n+1,s=>(((b1r s).1::(a3u f n (f (b1r s).2).2).1.1,(f (b1r s).2).1::(a3u f n (f (b1r s).2).2).1.2),(a3u f n (f (b1r s).2).2).2)
theorem b8A (f:Src→Val×Src) (n:Nat) (s:Src) (a:List KeyD) (b:List Val):
  ((a++(a3u f (n+1) s).1.1,b++(a3u f (n+1) s).1.2),(a3u f (n+1) s).2)=(((a++[(b1r s).1])++(a3u f n (f (b1r s).2).2).1.1,(b++[(f (b1r s).2).1])++(a3u f n (f (b1r s).2).2).1.2),(a3u f n (f (b1r s).2).2).2):=by
 simp[a3u]
theorem b7o {f:Src→Val×Src} (hf:∀ s:Src,s.ok→(f s).2.ok):∀ (n:Nat) (s:Src),s.ok→(a3u f n s).2.ok
  |0,s,h=>h
  |n+1,s,h=>by unfold a3u;exact b7o hf n _ (hf _ (c1W h))
def b59 (f0:Src→Val×Src) (big:Bool) (s:Src):Val×Src:=
  bif big then (bif decide (a0j s 2=1) then (a1x (f0 (a0g s 2)).1 a0W,(f0 (a0g s 2)).2) else (a0W,a0g s 2)) else (a0W,s)
def a3G (f1 f0:Src→Val×Src) (big:Bool) (k:Int) (s:Src):Val×Src:=
  bif decide (k=1) then (a1m (a1a f1 (a0j s 4).toNat (a0g s 4)).1,(a1a f1 (a0j s 4).toNat (a0g s 4)).2) else
  bif decide (k=2) then (a1x (f1 (lab (b59 f0 big s)).2).1 (lab (b59 f0 big s)).1,(f1 (lab (b59 f0 big s)).2).2) else
  bif decide (k=3) then
    (bif decide ((a8d (a3u f1 (a0j s 3).toNat (a0g s 3)).1.1 (a3u f1 (a0j s 3).toNat (a0g s 3)).1.2).2=0) then ((a8d (a3u f1 (a0j s 3).toNat (a0g s 3)).1.1 (a3u f1 (a0j s 3).toNat (a0g s 3)).1.2).1,(a3u f1 (a0j s 3).toNat (a0g s 3)).2)
     else a31 (a3u f1 (a0j s 3).toNat (a0g s 3)).2) else
  bif decide (k=4) then
    (bif decide ((fnV (a0j s 3) (a1a (a2W f1 (a0j s 3).toNat) (a0j (a0g s 3) 3).toNat (a0g (a0g s 3) 3)).1).2=0) then ((fnV (a0j s 3) (a1a (a2W f1 (a0j s 3).toNat) (a0j (a0g s 3) 3).toNat (a0g (a0g s 3) 3)).1).1,(a1a (a2W f1 (a0j s 3).toNat) (a0j (a0g s 3) 3).toNat (a0g (a0g s 3) 3)).2)
     else a31 (a1a (a2W f1 (a0j s 3).toNat) (a0j (a0g s 3) 3).toNat (a0g (a0g s 3) 3)).2) else
  a31 s
def b02:Nat→Src→Val×Src
  |0=>a31
  |1=>a31
  |h+2=>fun s=>a3G (fun s=>lab (b02 (h+1) s)) (fun s=>lab (b02 h s)) (decide (0<h)) (a0j s 6) (a0g s 6)
def a0D (h:Nat) (s:Src):Val×Src:=lab (b02 h s)
theorem b7p {r:Val×Src} (h:r.2.ok):(lab r).2.ok:=a8o h
theorem c6A {f0:Src→Val×Src} (h0:∀ s:Src,s.ok→(f0 s).2.ok) (big:Bool) {s:Src} (h:s.ok):(b59 f0 big s).2.ok:=by
  unfold b59
  cases big<;>cases decide (a0j s 2=1)<;>first|exact h|exact a0k h 2|exact h0 _ (a0k h 2)
theorem c0f {f1 f0:Src→Val×Src} (h1:∀ s:Src,s.ok→(f1 s).2.ok) (h0:∀ s:Src,s.ok→(f0 s).2.ok) (big:Bool) (k:Int) {s:Src} (h:s.ok):(a3G f1 f0 big k s).2.ok:=by
 have n4:=a0k h 4
 have n3:=a0k h 3
 have q:=a0k n3 3
 unfold a3G
 cases decide (k=1)<;>simp only[zaa,zab]
 ·cases decide (k=2)<;>simp only[zaa,zab]
  ·cases decide (k=3)<;>simp only[zaa,zab]
   ·cases decide (k=4)<;>simp only[zaa,zab]
    ·exact a4N h
    ·have hx:=a7w (f:=a2W f1 (a0j s 3).toNat) (fun t ht=>b7n h1 _ ht) (a0j (a0g s 3) 3).toNat _ q
     generalize decide ((fnV _ _).2=0)=b
     cases b
     ·exact a4N hx
     ·exact hx
   ·have hx:=b7o h1 (a0j s 3).toNat _ n3
    generalize decide ((a8d _ _).2=0)=b
    cases b
    ·exact a4N hx
    ·exact hx
  ·exact h1 _ (b7p (c6A h0 big h))
 ·exact a7w h1 _ _ n4
theorem a7x:∀ (h:Nat) (s:Src),s.ok→(b02 h s).2.ok
  |0,s,hs=>a4N hs
  |1,s,hs=>a4N hs
  |h+2,s,hs=>c0f (fun s hs=>b7p (a7x (h+1) s hs)) (fun s hs=>b7p (a7x h s hs)) _ _ (a0k hs 6)
theorem a3v (h:Nat) (s:Src) (hs:s.ok):(a0D h s).2.ok:=b7p (a7x h s hs)
def c8B (f:Src→Val×Src) (h:Nat):Prop:=∀ s:Src,s.ok→PCB Tryz.prog 65 [Sp pin,I .i64 h] [(pin,a00 s)] (Vt (f s).1) [(pin,a00 (f s).2)]
theorem c8B.k {f:Src→Val×Src} {h:Nat} (H:c8B f h) (k:Nat) (s:Src) (hs:s.ok):a1k Tryz.prog 65 [Sp k,I .i64 h] k (a00 s) (Vt (f s).1) (a00 (f s).2):=a1k.mk k (H s hs)
theorem c0g {f:Src→Val×Src} {h:Nat} (H:c8B f h) (hf:∀ s:Src,s.ok→(f s).2.ok):a5B (fun s=>lab (f s)) h:=by
  intro s hs
  refine PCB.ob Tryz.func28 Tryz.ntmps28 Tryz.results28 ?_
  repeat'(first|simp only[go_sem,pin,a0a]<;>refine nf ?_|refine stp ?_;intro K hK|apply hK;clear hK K|refine stn ?_|(refine⟨1000000,_,_,_,H.k 1000000 s hs,rfl,?_⟩)|(refine⟨1000000,_,_,_,a96 1000000 _ (hf s hs),rfl,?_⟩)|refine stq ?_|fail)
  all_goals(refine⟨?_,fun x hx=>?_⟩)
  any_goals (simp only[lN] at hx;subst hx;simp[pin,lab])
  all_goals(simp only[lab,Vt,a0a];try rfl)
theorem b2l (h:Nat) (hh:h≤1):c8B a31 h:=by
  intro s hs
  have hb:decide ((h:Int)≤1)=true:=by simp;omega
  refine PCB.ob Tryz.func65 Tryz.ntmps65 Tryz.results65 ?_
  repeat'(first|simp only[go_sem,pin,hb]<;>refine nf ?_|refine stp ?_;intro K hK|apply hK;clear hK K|refine stn ?_|(refine⟨1000000,_,_,_,b0G 1000000 s hs,rfl,?_⟩)|refine stq ?_|clear hK K)
  all_goals(first|exact fun x hx=>hx|(refine⟨rfl,fun x hx=>?_⟩;simp only[lN] at hx;subst hx;simp[pin])|(intro x hx;simp only[lN] at hx;subst hx;simp[pin]))
section
variable {f1 f0:Src→Val×Src} {h:Nat}
abbrev c9r (f1 f0:Src→Val×Src) (h:Nat) (k:Int):Prop:=∀ s:Src,s.ok→a0j s 6=k→PCB Tryz.prog 65 [Sp pin,I .i64 (h+2:Nat)] [(pin,a00 s)] (Vt (a3G f1 f0 (decide (0<h)) k (a0g s 6)).1) [(pin,a00 (a3G f1 f0 (decide (0<h)) k (a0g s 6)).2)]
theorem c0h (k:Int) (q:k=0∨k=5) (hh:h≤1000):c9r f1 f0 h k:=by
 intro s hs hk
 have hb:decide (((h+2:Nat):Int)≤1)=false:=by simp;omega
 have u:=a0k hs 6
 rcases q with rfl|rfl
 all_goals
  refine PCB.ob Tryz.func65 Tryz.ntmps65 Tryz.results65 ?_
  repeat'(first|simp only[go_sem,pin,hb,hk]<;>refine nf ?_|refine stp ?_;intro K hK|apply hK;clear hK K|refine stn ?_|(refine⟨1000000,_,_,_,a0u 1000000 s hs 6 (by omega),rfl,?_⟩)|(refine⟨1000000,_,_,_,b0G 1000000 _ u,rfl,?_⟩)|refine stq ?_|fail)
 all_goals(first|exact fun x hx=>hx|(refine⟨rfl,fun x hx=>?_⟩;simp only[lN] at hx;subst hx;simp[pin,a3G])|(intro x hx;simp only[lN] at hx;subst hx;simp[pin,a3G]))
theorem c6B (H1:a5B f1 (h+1)) (ab:∀ s:Src,s.ok→(f1 s).2.ok) (hh:h≤1000):c9r f1 f0 h 1:=by
 intro s hs hk
 have hb:decide (((h+2:Nat):Int)≤1)=false:=by simp;omega
 have aa:=a0k hs 6
 have hv:=a0p (a0g s 6) (n:=4) (by omega)
 have ad:a0j (a0g s 6) 4=(((a0j (a0g s 6) 4).toNat:Nat):Int):=by omega
 have hw:IntKind.i64.wrap (((h+2:Nat):Int)-1)=((h+1:Nat):Int):=by rw[w64 (by omega)];omega
 rw[show a3G f1 f0 (decide (0<h)) 1 (a0g s 6)=(a1m (a1a f1 (a0j (a0g s 6) 4).toNat (a0g (a0g s 6) 4)).1,(a1a f1 (a0j (a0g s 6) 4).toNat (a0g (a0g s 6) 4)).2) from rfl]
 refine PCB.ob Tryz.func65 Tryz.ntmps65 Tryz.results65 ?_
 repeat'(first|simp only[go_sem,pin,hb,hk]<;>refine nf ?_|refine stp ?_;intro K hK|apply hK;clear hK K|refine stn ?_|(refine⟨1000000,_,_,_,a0u 1000000 s hs 6 (by omega),rfl,?_⟩)|(refine⟨1000000,_,_,_,a0u 1000000 _ aa 4 (by omega),rfl,?_⟩)|refine stq ?_|fail)
 refine xD (Gh.nilrow 5 900 rfl rfl rfl rfl) ?_
 rw[ad]
 refine AWP.loopF (X:=Nat×Src×List Val) (fun x=>[(0,Sp 1000000),(5, .one (.own 900 x.2.2.length)),(6,I .i64 x.1)]) (fun x=>[(1000000,a00 x.2.1),(900, .row 7 (x.2.2.map a0c))]) [1,4] [4] (fun x=>x.1+x.2.2.length≤1000∧x.2.1.ok∧a1a f1 (a0j (a0g s 6) 4).toNat (a0g (a0g s 6) 4)=(x.2.2++(a1a f1 x.1 x.2.1).1,(a1a f1 x.1 x.2.1).2)) (fun x=>x.1) (((a0j (a0g s 6) 4).toNat,a0g (a0g s 6) 4,[])) (by refine sts ?_;exact Gh.tt []) ?_ ?_
 ·exact⟨by simp;omega,a0k aa 4,by simp⟩
 rintro⟨m,t,q⟩ ⟨hl,ht,hp⟩
 simp only at hl ht hp
 refine sts ?_
 cases m with
 |succ m=>
  rw[a5A] at hp
  have ae:IntKind.i64.wrap (((m+1:Nat):Int)-1)=(m:Int):=a2N (by omega)
  repeat'(first|simp only[go_sem,pin,lB,a9A,hw,ae,a4y]<;>refine nf ?_|refine stp ?_;intro K hK|apply hK;clear hK K|refine stn ?_|(with_reducible (refine⟨(by first|omega|(simp only[zba,lB,zbb,za1,List.length_cons,List.length_nil,za4];omega):_≤_),?_⟩))|(refine⟨1000000,_,_,_,H1.k 1000000 t ht,rfl,?_⟩)|refine stq ?_|clear hK K)
  all_goals(refine⟨(m,(f1 t).2,q++[(f1 t).1]),by simp only;omega,⟨by simp;omega,ab t ht,hp⟩,Gh.tt [(900,38)]⟩)
 |zero=>
  rw[a1a,zbq] at hp
  have h0:decide ((0:Int)<((0:Nat):Int))=false:=by simp
  have u:q.length≤100000000:=by omega
  repeat'(first|simp only[go_sem,pin,h0,lB]<;>refine nf ?_|refine stp ?_;intro K hK|apply hK;clear hK K|refine stn ?_|(with_reducible refine⟨_,b18 q u,?_⟩)|refine stq ?_|clear hK K)
  all_goals(simp only[hp])
  all_goals(first|refine⟨rfl,fun x hx=>?_⟩|refine⟨trivial,fun x hx=>?_⟩|refine fun x hx=>?_)
  all_goals(simp only[lN] at hx;subst hx;simp[pin])
end
end Go.Proofs.YtoelgackkclcmaaGreat
namespace Go.Proofs.YtoelgackkclcmaaGreat
open Go Go.Sx
variable {f1 f0:Src→Val×Src} {h:Nat}
theorem b03:a0c a0W=[.int .i64 5, .int .i64 0, .str [], .sl 7 [], .sl 2 [], .sl 9 [], .sl 1 []]:=by rw[a0a];rfl
theorem b0a (a b:Val):a0c (a1x a b)=[.int .i64 7, .int .i64 0, .str [], .sl 7 [a0c a,a0c b], .sl 2 [], .sl 9 [], .sl 1 []]:=by rw[a0a];rfl
theorem c0i (ls:List (List UInt8)):Vt { a0W with labels:=ls }= .st [.int .i64 5, .int .i64 0, .str [], .sl 7 [], .sl 2 [], .sl 9 [], .sl 1 (ls.map Sx.encStr)]:=by rw[Vt,a0a];rfl
theorem c22 (a:Val) (ls:List (List UInt8)):Vt { a1x a a0W with labels:=ls }= .st [.int .i64 7, .int .i64 0, .str [], .sl 7 [a0c a,[.int .i64 5, .int .i64 0, .str [], .sl 7 [], .sl 2 [], .sl 9 [], .sl 1 []]], .sl 2 [], .sl 9 [], .sl 1 (ls.map Sx.encStr)]:=by
  rw[Vt,a0a];simp only[a1x,zau,za6,b03]
theorem c6C (H1:a5B f1 (h+1)) (H0:a5B f0 h) (ag:∀ s:Src,s.ok→(f1 s).2.ok) (af:∀ s:Src,s.ok→(f0 s).2.ok) (hh:h≤1000):c9r f1 f0 h 2:=by
 intro s hs hk
 have hb:decide (((h+2:Nat):Int)≤1)=false:=by simp;omega
 have u:=a0k hs 6
 have hw:IntKind.i64.wrap (((h+2:Nat):Int)-1)=((h+1:Nat):Int):=by rw[w64 (by omega)];omega
 have ae:IntKind.i64.wrap (((h+2:Nat):Int)-2)=((h:Nat):Int):=by rw[w64 (by omega)];omega
 have q:decide ((2:Int)<((h+2:Nat):Int))=decide (0<h):=by rw[← zbj];simp only[zan];omega
 cases hB:decide (0<h) with
 |false=>
  rw[hB] at q
  rw[show a3G f1 f0 false 2 (a0g s 6)=(a1x (f1 (a1u (a0g s 6)).2).1 { a0W with labels:=(a1u (a0g s 6)).1 },(f1 (a1u (a0g s 6)).2).2) from rfl]
  have hc:=a4M (f1 (a1u (a0g s 6)).2).1 { a0W with labels:=(a1u (a0g s 6)).1 }
  rw[c0i] at hc
  refine PCB.ob Tryz.func65 Tryz.ntmps65 Tryz.results65 ?_
  repeat'(first|simp only[go_sem,pin,hb,hk,q,b03,hw]<;>refine nf ?_|refine stp ?_;intro K hK|apply hK;clear hK K|refine stn ?_|(with_reducible first|refine⟨_,a1r,?_⟩|refine⟨_,hc,?_⟩)|(refine⟨1000000,_,_,_,a0u 1000000 s hs 6 (by omega),rfl,?_⟩)|(refine⟨1000000,_,_,_,a96 1000000 _ u,rfl,?_⟩)|(refine⟨1000000,_,_,_,H1.k 1000000 _ (a8o u),rfl,?_⟩)|(with_reducible refine AWP.genR (id:=16) [3,6] [1000000,4] mixed (by kernel_rfl) fun K hK=>?_;simp only[Bx.outs,Bx.drop,zaa,zab,Nat.reduceBEq,go_sem])|refine stq ?_|clear hK K)
  all_goals(first|refine⟨rfl,fun x hx=>?_⟩|refine⟨trivial,fun x hx=>?_⟩|refine fun x hx=>?_)
  all_goals(simp only[lN] at hx;subst hx;simp[pin])
 |true=>
  rw[hB] at q
  have aa:=a0k u 2
  cases hN:decide (a0j (a0g s 6) 2=1) with
  |false=>
   rw[show a3G f1 f0 true 2 (a0g s 6)=(a1x (f1 (a1u (a0g (a0g s 6) 2)).2).1 { a0W with labels:=(a1u (a0g (a0g s 6) 2)).1 },(f1 (a1u (a0g (a0g s 6) 2)).2).2) from by unfold a3G b59 lab;rw[hN];rfl]
   have hc:=a4M (f1 (a1u (a0g (a0g s 6) 2)).2).1 { a0W with labels:=(a1u (a0g (a0g s 6) 2)).1 }
   rw[c0i] at hc
   refine PCB.ob Tryz.func65 Tryz.ntmps65 Tryz.results65 ?_
   repeat'(first|simp only[go_sem,pin,hb,hk,q,hN,b03,hw]<;>refine nf ?_|refine stp ?_;intro K hK|apply hK;clear hK K|refine stn ?_|(with_reducible first|refine⟨_,a1r,?_⟩|refine⟨_,hc,?_⟩)|(refine⟨1000000,_,_,_,a0u 1000000 s hs 6 (by omega),rfl,?_⟩)|(refine⟨1000000,_,_,_,a0u 1000000 _ u 2 (by omega),rfl,?_⟩)|(refine⟨1000000,_,_,_,a96 1000000 _ aa,rfl,?_⟩)|(refine⟨1000000,_,_,_,H1.k 1000000 _ (a8o aa),rfl,?_⟩)|(with_reducible refine AWP.genR (id:=16) [3,6] [1000000,4] mixed (by kernel_rfl) fun K hK=>?_;simp only[Bx.outs,Bx.drop,zaa,zab,Nat.reduceBEq,go_sem])|refine stq ?_|clear hK K)
   all_goals(first|refine⟨rfl,fun x hx=>?_⟩|refine⟨trivial,fun x hx=>?_⟩|refine fun x hx=>?_)
   all_goals(simp only[lN] at hx;subst hx;simp[pin])
  |true=>
   have ab:=af _ aa
   rw[show a3G f1 f0 true 2 (a0g s 6)=(a1x (f1 (a1u (f0 (a0g (a0g s 6) 2)).2).2).1 { a1x (f0 (a0g (a0g s 6) 2)).1 a0W with labels:=(a1u (f0 (a0g (a0g s 6) 2)).2).1 },(f1 (a1u (f0 (a0g (a0g s 6) 2)).2).2).2) from by unfold a3G b59 lab;rw[hN];rfl]
   have hc:=a4M (f1 (a1u (f0 (a0g (a0g s 6) 2)).2).2).1 { a1x (f0 (a0g (a0g s 6) 2)).1 a0W with labels:=(a1u (f0 (a0g (a0g s 6) 2)).2).1 }
   rw[c22] at hc
   have ad:=a4M (f0 (a0g (a0g s 6) 2)).1 a0W
   rw[Vt,Vt,Vt,b03] at ad
   refine PCB.ob Tryz.func65 Tryz.ntmps65 Tryz.results65 ?_
   repeat'(first|(simp only[go_sem,pin,hb,hk,q,hN,b03,b0a (f0 (a0g (a0g s 6) 2)).1 a0W,hw,ae];all_goals refine nf ?_)|refine stp ?_;intro K hK|apply hK;clear hK K|refine stn ?_|(with_reducible first|refine⟨_,a1r,?_⟩|refine⟨_,hc,?_⟩|refine⟨_,ad,?_⟩)|(refine⟨1000000,_,_,_,a0u 1000000 s hs 6 (by omega),rfl,?_⟩)|(refine⟨1000000,_,_,_,a0u 1000000 _ u 2 (by omega),rfl,?_⟩)|(refine⟨1000000,_,_,_,H0.k 1000000 _ aa,rfl,?_⟩)|(refine⟨1000000,_,_,_,a96 1000000 _ ab,rfl,?_⟩)|(refine⟨1000000,_,_,_,H1.k 1000000 _ (a8o ab),rfl,?_⟩)|(with_reducible refine AWP.genR (id:=16) [3,6] [1000000,4] mixed (by kernel_rfl) fun K hK=>?_;simp only[Bx.outs,Bx.drop,zaa,zab,Nat.reduceBEq,go_sem])|refine stq ?_|clear hK K)
   all_goals(first|refine⟨rfl,fun x hx=>?_⟩|refine⟨trivial,fun x hx=>?_⟩|refine fun x hx=>?_)
   all_goals(simp only[lN] at hx;subst hx;simp[pin])
theorem c6D (H1:a5B f1 (h+1)) (aa:∀ s:Src,s.ok→(f1 s).2.ok) (hh:h≤1000):c9r f1 f0 h 3:=by
 intro s hs hk
 have hb:decide (((h+2:Nat):Int)≤1)=false:=by simp;omega
 have u:=a0k hs 6
 have hw:IntKind.i64.wrap (((h+2:Nat):Int)-1)=((h+1:Nat):Int):=by rw[w64 (by omega)];omega
 have hv:=a0p (a0g s 6) (n:=3) (by omega)
 obtain⟨n,hn⟩:=zea hv.1
 rw[show a3G f1 f0 (decide (0<h)) 3 (a0g s 6)=(bif decide ((a8d (a3u f1 n (a0g (a0g s 6) 3)).1.1 (a3u f1 n (a0g (a0g s 6) 3)).1.2).2=0) then ((a8d (a3u f1 n (a0g (a0g s 6) 3)).1.1 (a3u f1 n (a0g (a0g s 6) 3)).1.2).1,(a3u f1 n (a0g (a0g s 6) 3)).2) else a31 (a3u f1 n (a0g (a0g s 6) 3)).2) from by unfold a3G;rw[hn];rfl]
 refine PCB.ob Tryz.func65 Tryz.ntmps65 Tryz.results65 ?_
 repeat'(first|simp only[go_sem,pin,hb,hk,hn]<;>refine nf ?_|refine stp ?_;intro K hK|apply hK;clear hK K|refine stn ?_|(refine⟨1000000,_,_,_,a0u 1000000 s hs 6 (by omega),rfl,?_⟩)|(refine⟨1000000,_,_,_,a0u 1000000 _ u 3 (by omega),rfl,?_⟩)|refine stq ?_|fail)
 refine xD (Gh.nilrow 8 901 rfl rfl rfl rfl) ?_
 refine xD (Gh.nilrow 9 902 rfl rfl rfl rfl) ?_
 refine AWP.loopF (X:=Nat×Src×List KeyD×List Val) (fun x=>[(0,Sp 1000000),(8, .one (.own 901 x.2.2.1.length)),(9, .one (.own 902 x.2.2.2.length)),(10,I .i64 x.1)]) (fun x=>[(1000000,a00 x.2.1),(901, .row 2 (x.2.2.1.map a0i)),(902, .row 7 (x.2.2.2.map a0c))]) [1,4] [4] (fun x=>x.1+x.2.2.1.length≤1000∧x.2.2.1.length=x.2.2.2.length∧x.2.1.ok∧a3u f1 n (a0g (a0g s 6) 3)=((x.2.2.1++(a3u f1 x.1 x.2.1).1.1,x.2.2.2++(a3u f1 x.1 x.2.1).1.2),(a3u f1 x.1 x.2.1).2)) (fun x=>x.1) ((n,a0g (a0g s 6) 3,[],[])) (by refine sts ?_;exact Gh.tt []) ?_ ?_
 ·exact⟨by simp;omega,rfl,a0k u 3,by simp⟩
 rintro⟨m,t,ak,av⟩ ⟨hl,ad,ht,hp⟩
 simp only at hl ad ht hp
 refine sts ?_
 cases m with
 |succ m=>
  rw[b8A] at hp
  have ab:IntKind.i64.wrap (((m+1:Nat):Int)-1)=(m:Int):=a2N (by omega)
  repeat'(first|simp only[go_sem,pin,lB,a9A,hw,ab,a4y,c4l]<;>refine nf ?_|refine stp ?_;intro K hK|apply hK;clear hK K|refine stn ?_|(with_reducible (refine⟨(by first|omega|(simp only[zba,lB,zbb,za1,List.length_cons,List.length_nil,za4];omega):_≤_),?_⟩))|(refine⟨1000000,_,_,_,d1b 1000000 t ht,rfl,?_⟩)|(refine⟨1000000,_,_,_,H1.k 1000000 _ (c1W ht),rfl,?_⟩)|refine stq ?_|clear hK K)
  all_goals(refine⟨(m,(f1 (b1r t).2).2,ak++[(b1r t).1],av++[(f1 (b1r t).2).1]),by simp only;omega,⟨by simp;omega,by simp;omega,aa _ (c1W ht),hp⟩,Gh.tt [(901,78),(902,85)]⟩)
 |zero=>
  rw[a3u,zbq,zbq] at hp
  have h0:decide ((0:Int)<((0:Nat):Int))=false:=by simp
  have q:ak.length≤1000000:=by omega
  cases hm:decide ((a8d ak av).2=0)
  all_goals
   repeat'(first|simp only[go_sem,pin,h0,hm,lB]<;>refine nf ?_|refine stp ?_;intro K hK|apply hK;clear hK K|refine stn ?_|(with_reducible refine⟨_,a8p ak av q,?_⟩)|(refine⟨1000000,_,_,_,b0G 1000000 t ht,rfl,?_⟩)|refine stq ?_|clear hK K)
  all_goals(simp only[hp,hm,zaa,zab])
  all_goals(first|refine⟨rfl,fun x hx=>?_⟩|refine⟨trivial,fun x hx=>?_⟩|refine fun x hx=>?_)
  all_goals(simp only[lN] at hx;subst hx;simp[pin])
theorem c23 (l:List Ent) (x:Ent):l.map a0n++[a0n x]=(l++[x]).map a0n:=by simp
theorem c6E (H:a5B f1 h) (hf:∀ s:Src,s.ok→(f1 s).2.ok) (n:Nat) (hn:n≤1000) (k:Nat) (s:Src) (hs:s.ok):a1k Tryz.prog 116 [Sp k,I .i64 n,I .i64 h] k (a00 s) (.st (a0n (a2W f1 n s).1)) (a00 (a2W f1 n s).2):=a1k.mk k (c6z H hf n hn s hs)
theorem c6F (H1:a5B f1 (h+1)) (aa:∀ s:Src,s.ok→(f1 s).2.ok) (hh:h≤1000):c9r f1 f0 h 4:=by
 intro s hs hk
 have hb:decide (((h+2:Nat):Int)≤1)=false:=by simp;omega
 have u:=a0k hs 6
 have hw:IntKind.i64.wrap (((h+2:Nat):Int)-1)=((h+1:Nat):Int):=by rw[w64 (by omega)];omega
 have hv:=a0p (a0g s 6) (n:=3) (by omega)
 have af:=a0p (a0g (a0g s 6) 3) (n:=3) (by omega)
 obtain⟨n,hn⟩:=zea hv.1
 obtain⟨c,hc⟩:=zea af.1
 rw[show a3G f1 f0 (decide (0<h)) 4 (a0g s 6)=(bif decide ((fnV n (a1a (a2W f1 n) c (a0g (a0g (a0g s 6) 3) 3)).1).2=0) then ((fnV n (a1a (a2W f1 n) c (a0g (a0g (a0g s 6) 3) 3)).1).1,(a1a (a2W f1 n) c (a0g (a0g (a0g s 6) 3) 3)).2) else a31 (a1a (a2W f1 n) c (a0g (a0g (a0g s 6) 3) 3)).2) from by unfold a3G;rw[hn,hc];rfl]
 have ad:n≤1000:=by omega
 refine PCB.ob Tryz.func65 Tryz.ntmps65 Tryz.results65 ?_
 repeat'(first|simp only[go_sem,pin,hb,hk,hn,hc]<;>refine nf ?_|refine stp ?_;intro K hK|apply hK;clear hK K|refine stn ?_|(refine⟨1000000,_,_,_,a0u 1000000 s hs 6 (by omega),rfl,?_⟩)|(refine⟨1000000,_,_,_,a0u 1000000 _ u 3 (by omega),rfl,?_⟩)|(refine⟨1000000,_,_,_,a0u 1000000 _ (a0k u 3) 3 (by omega),rfl,?_⟩)|refine stq ?_|fail)
 refine xD (Gh.nilrow 14 903 rfl rfl rfl rfl) ?_
 refine AWP.loopF (X:=Nat×Src×List Ent) (fun x=>[(0,Sp 1000000),(14, .one (.own 903 x.2.2.length)),(15,I .i64 x.1)]) (fun x=>[(1000000,a00 x.2.1),(903, .row 9 (x.2.2.map a0n))]) [1,4,13] [4] (fun x=>x.1+x.2.2.length≤1000∧x.2.1.ok∧a1a (a2W f1 n) c (a0g (a0g (a0g s 6) 3) 3)=(x.2.2++(a1a (a2W f1 n) x.1 x.2.1).1,(a1a (a2W f1 n) x.1 x.2.1).2)) (fun x=>x.1) ((c,a0g (a0g (a0g s 6) 3) 3,[])) (by refine sts ?_;exact Gh.tt []) ?_ ?_
 ·exact⟨by simp;omega,a0k (a0k u 3) 3,by simp⟩
 rintro⟨m,t,q⟩ ⟨hl,ht,hp⟩
 simp only at hl ht hp
 refine sts ?_
 cases m with
 |succ m=>
  rw[a5A] at hp
  have ae:IntKind.i64.wrap (((m+1:Nat):Int)-1)=(m:Int):=a2N (by omega)
  repeat'(first|simp only[go_sem,pin,lB,a9A,hw,ae,c23]<;>refine nf ?_|refine stp ?_;intro K hK|apply hK;clear hK K|refine stn ?_|(with_reducible (refine⟨(by first|omega|(simp only[zba,lB,zbb,za1,List.length_cons,List.length_nil,za4];omega):_≤_),?_⟩))|(refine⟨1000000,_,_,_,c6E H1 aa n ad 1000000 t ht,rfl,?_⟩)|refine stq ?_|clear hK K)
  all_goals(refine⟨(m,(a2W f1 n t).2,q++[(a2W f1 n t).1]),by simp only;omega,⟨by simp;omega,b7n aa n ht,hp⟩,Gh.tt [(903,112)]⟩)
 |zero=>
  rw[a1a,zbq] at hp
  have h0:decide ((0:Int)<((0:Nat):Int))=false:=by simp
  have ab:q.length≤1000000:=by omega
  cases hm:decide ((fnV n q).2=0)
  all_goals
   repeat'(first|simp only[go_sem,pin,h0,hm,lB]<;>refine nf ?_|refine stp ?_;intro K hK|apply hK;clear hK K|refine stn ?_|(with_reducible refine⟨_,a8z n q ab,?_⟩)|(refine⟨1000000,_,_,_,b0G 1000000 t ht,rfl,?_⟩)|refine stq ?_|clear hK K)
  all_goals(simp only[hp,hm,zaa,zab])
  all_goals(first|refine⟨rfl,fun x hx=>?_⟩|refine⟨trivial,fun x hx=>?_⟩|refine fun x hx=>?_)
  all_goals(simp only[lN] at hx;subst hx;simp[pin])
theorem c6G (H1:a5B f1 (h+1)) (H0:a5B f0 h) (q:∀ s:Src,s.ok→(f1 s).2.ok) (u:∀ s:Src,s.ok→(f0 s).2.ok) (hh:h≤1000):c8B (fun s=>a3G f1 f0 (decide (0<h)) (a0j s 6) (a0g s 6)) (h+2):=by
  intro s hs
  have hv:=a0p s (n:=6) (by omega)
  have hk:a0j s 6=0∨a0j s 6=1∨a0j s 6=2∨a0j s 6=3∨a0j s 6=4∨a0j s 6=5:=by omega
  simp only
  rcases hk with hk|hk|hk|hk|hk|hk<;>rw[hk]
  · exact c0h 0 (.inl rfl) hh s hs hk
  · exact c6B H1 q hh s hs hk
  · exact c6C H1 H0 q u hh s hs hk
  · exact c6D H1 q hh s hs hk
  · exact c6F H1 q hh s hs hk
  · exact c0h 5 (.inr rfl) hh s hs hk
theorem b6a:∀ h:Nat,h≤1000→c8B (b02 h) h
  |0,_=>b2l 0 (by omega)
  |1,_=>b2l 1 (by omega)
  |h+2,hh=>c6G (c0g (b6a (h+1) (by omega)) (a7x (h+1))) (c0g (b6a h (by omega)) (a7x h)) (fun s hs=>a3v (h+1) s hs) (fun s hs=>a3v h s hs) (by omega)
theorem a0P (h:Nat) (hh:h≤1000):a5B (a0D h) h:=c0g (b6a h hh) (a7x h)
end Go.Proofs.YtoelgackkclcmaaGreat

