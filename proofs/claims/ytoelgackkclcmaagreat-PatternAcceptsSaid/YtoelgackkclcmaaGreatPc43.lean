/- Lemmas. -/
import Derived.Test.YtoelgackkclcmaaGreatPc42
import Derived.Test.YtoelgackkclcmaaGreatPc41
open List renaming length_map→lB,mem_singleton→lN
set_option linter.unusedSimpArgs false
set_option linter.unusedVariables false
set_option maxRecDepth 20000
set_option maxHeartbeats 64000000
namespace Go.Proofs.YtoelgackkclcmaaGreat
open Go Go.Sx
def d1v (w:Val):Res:= .cells [.dat (.int .i64 w.kind), .dat (.int .i64 w.num), .dat (.str w.text), .dat (.sl 7 (w.kids.map a0c)), .dat (.sl 2 (w.keys.map a0i)), .dat (.sl 9 (w.ents.map a0n)), .dat (.sl 1 (w.labels.map Sx.encStr))]
attribute [go_sem] d1v
theorem b7L (l:List NodeD) (v:Val) (k:Int):(c0t l v k).labels.length≤v.labels.length+1:=by
 unfold c0t
 cases decide ((l.getD k.toNat (a1c 1)).kind=19)
 ·simp
 ·simp only[zaa]
  refine zbe (a2a _) ?_
  simp
theorem c3V (l:List NodeD) (r:Int) (g nx:Int→Src→Val×Src) (h:Nat) (hh:h≤1000) (av:l.length≤1000) (x:NodeD) (k:Nat) (hx:l[k]?= some x) (hk:x.kind=17) (al:∀ k∈x.kids,0≤k∧k<(l.length:Int)) (ax:1≤x.kids.length) (a2:x.kids.length≤1000) (Hn:∀ k:Int,k∈x.kids→∀ s:Src,s.ok→PCB Tryz.prog 83 [Sp pin,Tt l r,I .i64 k,I .i64 ((h+1:Nat):Int)] [(pin,a00 s)] (Vt (nx k s).1) [(pin,a00 (nx k s).2)]) (hL:∀ k s,(nx k s).1.labels.length≤900000) (s:Src) (hs:s.ok):a1b l r (a1Y l g nx x) h k s:=by
 have ak:=a0y a0e hx
 have az:k<l.length:=(zak.1 hx).1
 have ao:decide (((h+1:Nat):Int)≤0)=false:=by rw[zah];omega
 have an:decide ((k:Int)<0)=false:=by rw[zah];omega
 have au:decide ((l.length:Int)≤(k:Int))=false:=by rw[zah];omega
 have hv:=a0p s (n:=(x.kids.length:Int)) (by omega)
 have hp:b05 x.kids s∈x.kids:=b4s hv
 have aj:=a0k hs (x.kids.length:Int)
 have ar:=a4Y a0h x.kids 0 hv
 have hM:=a1k.mk 1000000 (Hn _ hp _ aj)
 obtain⟨v0,ab⟩:∃ v0,v0=(nx (b05 x.kids s) (a0g s x.kids.length)).1:=⟨_,rfl⟩
 obtain⟨s3,ae⟩:∃ s3,s3=(nx (b05 x.kids s) (a0g s x.kids.length)).2:=⟨_,rfl⟩
 have ad:=hL (b05 x.kids s) (a0g s x.kids.length)
 rw[← ab] at ad
 rw[← ab,← ae] at hM
 unfold a1b a1Y
 simp only[hk,Int.reduceEq,zac,zad,zaa,zab]
 rw[← ab,← ae]
 refine PCB.ob Tryz.func83 Tryz.ntmps83 Tryz.results83 ?_
 repeat'(first|simp only[go_sem,pin,ao,an,au,hk,lB,a0d,a0a v0]<;>refine nf ?_|refine stp ?_;intro K hK|apply hK;clear hK K|refine stn ?_|(with_reducible refine⟨by omega,a0e x,ak,?_⟩)|(refine⟨1000000,_,_,_,a0u 1000000 s hs (x.kids.length:Int) (by omega),rfl,?_⟩)|( refine⟨(by omega:_≤_),_,ar,?_⟩)|(refine⟨1000000,_,_,_,hM,rfl,?_⟩)|(with_reducible refine AWP.genR (id:=39) [8,12,13] [1000000,1000000,10] mixed (by kernel_rfl) fun K hK=>?_;simp only[Bx.outs,Bx.drop,zaa,zab,Nat.reduceBEq,go_sem])|fail)
 refine AWP.lenB 9 4 rfl rfl fun u=>?_
 (try rw[lB] at u)
 refine AWP.range (S:=Val) (x.kids) a0h (fun i y=>(12,I .i64 (i:Nat))::[]) (fun i y=>[(10,d1v y)]) [5,8,9,10] [5,8,9,1000000] (fun i y=>Is (x.kids.foldl (c0t l) v0) ((x.kids.drop i).foldl (c0t l) y)∧y.labels.length≤900000+i) (v0) (by simp only[go_sem,a0a v0];exact Gh.tt []) ?_ ?_ ?_
 ·exact⟨rfl,ad⟩
 ·rintro i w y ah hy ai aa ⟨q,aq⟩
  refine sts ?_
  have aw:i<x.kids.length:=(zak.1 hy).1
  have a1:=al y (zbc hy)
  obtain⟨z,hz⟩:∃ z,z=l.getD y.toNat (a1c 1):=⟨_,rfl⟩
  have ap:l[y.toNat]?= some z:=by
   have h1:y.toNat<l.length:=by omega
   rw[hz,zbf,zav h1];rfl
  have ag:=a0y a0e ap
  have am:=b7L l w y
  unfold Is at q
  rw[a9p hy,List.foldl_cons] at q
  cases hc:decide (z.kind=19)
  ·have hA:c0t l w y=w:=by unfold c0t;rw[← hz,hc];rfl
   rw[hA] at q
   repeat'(first|simp only[go_sem,pin,lB,aa,hk,hc,a0d]<;>refine nf ?_|refine stp ?_;intro K hK|apply hK;clear hK K|refine stn ?_|(with_reducible first|refine⟨(by omega:_≤_),a0h y,ai,?_⟩|refine⟨(by omega:_≤_),a0e z,ag,?_⟩)|(refine a0J ?_;intro K hK)|clear hK K)
   all_goals(rw[a0b ah u])
   all_goals(refine⟨w,?_,Gh.tt []⟩)
   all_goals exact⟨q,by omega⟩
  ·have hA:c0t l w y={ w with labels:=a0M (w.labels++[z.text]) }:=by unfold c0t;rw[← hz,hc];rfl
   have hS:=a5c (w.labels++[z.text]) (by simp;omega)
   have af:w.labels.map Sx.encStr++[[C.str z.text]]=(w.labels++[z.text]).map Sx.encStr:=by rw[zbn];rfl
   repeat'(first|simp only[go_sem,pin,lB,aa,hk,hc,a0d,af]<;>refine nf ?_|refine stp ?_;intro K hK|apply hK;clear hK K|refine stn ?_|(with_reducible first|refine⟨(by omega:_≤_),a0h y,ai,?_⟩|refine⟨(by omega:_≤_),a0e z,ag,?_⟩|refine⟨_,hS,?_⟩|(refine⟨(by first|omega|(simp only[zba,lB,zbb,za1,List.length_cons,List.length_nil,za4];omega):_≤_),?_⟩))|(with_reducible refine AWP.genR2 (id:=44) [2,14,15,17] [10] [1] 17 [] mixed (by kernel_rfl) fun K hK=>?_;simp only[Bx.outs,Bx.drop,zaa,zab,Nat.reduceBEq,go_sem])|(refine a0J ?_;intro K hK)|refine stq ?_|clear hK K)
   rw[hA] at q am
   all_goals(rw[a0b ah u])
   all_goals(refine⟨({ w with labels:=a0M (w.labels++[z.text]) }:Val),?_,Gh.tt []⟩)
   all_goals exact⟨q,by omega⟩
 ·rintro w aa ⟨q,aq⟩
  refine sts ?_
  unfold Is at q
  rw[zbw,List.foldl_nil] at q
  repeat'(first|simp only[go_sem,pin,lB,aa,hk]<;>refine nf ?_|refine stp ?_;intro K hK|apply hK;clear hK K|refine stn ?_|clear hK K)
  all_goals(rw[q])
  all_goals(first|exact⟨rfl,fun x hx=>by simp only[lN] at hx;subst hx;simp[pin]⟩|exact⟨trivial,fun x hx=>by simp only[lN] at hx;subst hx;simp[pin]⟩|(intro x hx;simp only[lN] at hx;subst hx;simp[pin])|(refine⟨by simp only[Vt,a0a]<;>rfl,fun x hx=>by simp only[lN] at hx;subst hx;simp[pin]⟩)|fail)
theorem c3W {x:NodeD} (h:a0G x=true):1≤x.kind∧x.kind≤19:=by
 rcases Decidable.em (1≤x.kind∧x.kind≤19) with h1|h1
 ·exact h1
 ·exfalso
  have e:∀ i:Int,1≤i→i≤19→decide (x.kind=i)=false:=fun i h2 h3=>by rw[zah];omega
  unfold a0G at h
  simp only[e 1 (by omega) (by omega),e 2 (by omega) (by omega),e 3 (by omega) (by omega),e 4 (by omega) (by omega),e 5 (by omega) (by omega),e 6 (by omega) (by omega),e 7 (by omega) (by omega),e 8 (by omega) (by omega),e 9 (by omega) (by omega),e 10 (by omega) (by omega),e 11 (by omega) (by omega),e 12 (by omega) (by omega),e 13 (by omega) (by omega),e 14 (by omega) (by omega),e 15 (by omega) (by omega),e 16 (by omega) (by omega),e 17 (by omega) (by omega),e 18 (by omega) (by omega),e 19 (by omega) (by omega),zaj,zab] at h
  cases h
def a9q (l:List NodeD) (g:Int→Src→Val×Src):Nat→Int→Src→Val×Src
  |0,_,s=>a31 s
  |f+1,k,s=>a1Y l g (a9q l g f) (l.getD k.toNat (a1c 1)) s
def b3v (p:Val×Src):Val×Src:=bif a0t p.1 then p else a31 p.2
def c1j (l:List NodeD):Nat→Int→Src→Val×Src
  |0,k,s=>b3v (a31 s)
  |h+1,k,s=>b3v (a9q l (c1j l h) l.length k s)
theorem b6y {g:Int→Src→Val×Src} (hg:∀ k s,s.ok→(g k s).2.ok):∀ (fs:List FieldD) (y:b6c),y.1.ok→(c2m g fs y).1.ok
 |[],y,h=>h
 |f::fs,y,h=>by
  rw[c2m]
  cases f.opt&&decide (a0j y.1 2=1)
  ·refine b6y hg fs _ ?_
   cases f.opt
   ·exact hg _ _ h
   ·exact hg _ _ (a0k h 2)
  ·exact b6y hg fs _ (a0k h 2)
theorem b86 {g:Int→Src→Val×Src} (hg:∀ k s,s.ok→(g k s).2.ok) (x:NodeD) {s:Src} (h:s.ok):(a3x g x s).2.ok:=by
  unfold a3x a23 d0N
  have h1:=b6y hg x.fields (s,[],[]) h
  cases decide (a0j (c2m g x.fields (s,[],[])).1 2=1)
  · exact a0k h1 2
  · exact hg _ _ (a0k (a0k h1 2) 2)
theorem b87 {g:Int→Src→Val×Src} (hg:∀ k s,s.ok→(g k s).2.ok) (x:NodeD) {s:Src} (h:s.ok):(a3U g x s).2.ok:=
  a7w (fun s hs=>b6d hg _ hs) _ _ (a0k h 3)
theorem c3X {l:List NodeD} {g nx:Int→Src→Val×Src} (hg:∀ k s,s.ok→(g k s).2.ok) (hn:∀ k s,s.ok→(nx k s).2.ok) (x:NodeD) {s:Src} (h:s.ok):(a1Y l g nx x s).2.ok:=by
  unfold a1Y
  cases decide (x.kind=3)<;>simp only[zaa,zab]<;>try exact a0k h _
  cases decide (x.kind=4)<;>simp only[zaa,zab]<;>try exact h
  cases decide (x.kind=5)<;>simp only[zaa,zab]<;>try exact a0k h _
  cases decide (x.kind=6)<;>simp only[zaa,zab]<;>try exact h
  cases decide (x.kind=7)<;>simp only[zaa,zab]<;>try exact a0k h _
  cases decide (x.kind=8)<;>simp only[zaa,zab]<;>try exact a0k h _
  cases decide (x.kind=9)<;>simp only[zaa,zab]<;>try exact h
  cases decide (x.kind=10)<;>simp only[zaa,zab]<;>try exact b0b hg _ _ h
  cases decide (x.kind=12)<;>simp only[zaa,zab]<;>try exact b0b hg _ _ h
  cases decide (x.kind=13)<;>simp only[zaa,zab]<;>try exact b86 hg x h
  cases decide (x.kind=14)<;>simp only[zaa,zab]<;>try exact b87 hg x h
  cases decide (x.kind=16)<;>simp only[zaa,zab]<;>try exact hn _ _ (a0k h _)
  cases decide (x.kind=17)<;>simp only[zaa,zab]<;>try exact hn _ _ (a0k h _)
  cases decide (x.kind=19)<;>simp only[zaa,zab]
  · exact a3v 2 s h
  · exact a4N h
theorem b3w {l:List NodeD} {g:Int→Src→Val×Src} (hg:∀ k s,s.ok→(g k s).2.ok):∀ (f:Nat) (k:Int) (s:Src),s.ok→(a9q l g f k s).2.ok
  |0,k,s,h=>a4N h
  |f+1,k,s,h=>c3X hg (b3w hg f) _ h
theorem c1k {p:Val×Src} (h:p.2.ok):(b3v p).2.ok:=by
  unfold b3v
  cases a0t p.1
  · exact a4N h
  · exact h
theorem b3x (l:List NodeD):∀ (h:Nat) (k:Int) (s:Src),s.ok→(c1j l h k s).2.ok
  |0,k,s,hs=>c1k (a4N hs)
  |h+1,k,s,hs=>c1k (b3w (b3x l h) _ _ _ hs)
theorem b4T:∀ (r:List (KeyD×Val)) (ks:List KeyD) (vs:List Val),(b21 r ks vs).1.labels=[]
 |[],ks,vs=>by rw[b21];rfl
 |(x,v)::r,ks,vs=>by
  rw[b21]
  cases decide (ks[c4L ks x]?= some x)
  ·exact b4T r _ _
  ·rfl
theorem c3Y (ks:List KeyD) (l:List Val):(a8d ks l).1.labels=[]:=by
 unfold a8d
 cases decide ((ks.length:Int)=(l.length:Int))
 ·rfl
 ·cases ks.all a0l
  ·rfl
  ·exact b4T _ _ _
theorem c7v (n:Int) (l:List Ent):(fnV n l).1.labels=[]:=by
  unfold fnV
  cases decide (n<0)||decide (4<n)
  · cases l.all (fun e=>b5B e n)<;>rfl
  · rfl
theorem c3Z (s:Src):(a31 s).1.labels=[]:=(b7z _ _).1
theorem b6z (g:Int→Src→Val×Src) (x:NodeD) (s:Src):(a3x g x s).1.labels=[]:=by
  unfold a3x
  cases decide ((a8d (a23 g x s).2.1 (a23 g x s).2.2).2=0)
  · rfl
  · exact c3Y _ _
theorem b6A (g:Int→Src→Val×Src) (x:NodeD) (s:Src):(a3U g x s).1.labels=[]:=by
  unfold a3U
  cases decide ((fnV ((x.kids.length:Int)-1) (a7z g x s).1).2=0)
  · rfl
  · exact c7v _ _
theorem b6B (l:List Val):(b6e l).labels=[]:=by
  match l with
  |[]=>rfl
  |[_]=>rfl
  |[_,_]=>rfl
  |_::_::_::_=>rfl
theorem b4U (l:List NodeD):∀ (ks:List Int) (v:Val),(ks.foldl (c0t l) v).labels.length≤v.labels.length+ks.length
 |[],v=>zax _
 |k::ks,v=>by
  have h1:=b4U l ks (c0t l v k)
  have h2:=b7L l v k
  rw[List.foldl_cons,List.length_cons]
  omega
theorem c1l {l:List NodeD} {g nx:Int→Src→Val×Src} {B K:Nat} (hB:2≤B) (hn:∀ k s,(nx k s).1.labels.length≤B) (x:NodeD) (hk:x.kids.length≤K) (s:Src):(a1Y l g nx x s).1.labels.length≤B+K:=by
 unfold a1Y
 have z:([]:List (List UInt8)).length≤B+K:=zao _
 cases decide (x.kind=3)<;>simp only[zaa,zab]<;>try exact z
 cases decide (x.kind=4)<;>simp only[zaa,zab]<;>try exact z
 cases decide (x.kind=5)<;>simp only[zaa,zab]<;>try exact z
 cases decide (x.kind=6)<;>simp only[zaa,zab]<;>try exact z
 cases decide (x.kind=7)<;>simp only[zaa,zab]<;>try exact z
 cases decide (x.kind=8)<;>simp only[zaa,zab]<;>try exact z
 cases decide (x.kind=9)<;>simp only[zaa,zab]<;>try exact z
 cases decide (x.kind=10)<;>simp only[zaa,zab]<;>try exact z
 cases decide (x.kind=12)<;>simp only[zaa,zab]
 ·cases decide (x.kind=13)<;>simp only[zaa,zab]
  ·cases decide (x.kind=14)<;>simp only[zaa,zab]
   ·cases decide (x.kind=16)<;>simp only[zaa,zab]
    ·cases decide (x.kind=17)<;>simp only[zaa,zab]
     ·cases decide (x.kind=19)<;>simp only[zaa,zab]
      ·have h1:(a0D 2 s).1.labels=(a1u (b02 2 s).2).1:=rfl
       have:=b8H (b02 2 s).2
       rw[h1];omega
      ·have:=a2a [x.text]
       simp only[List.length_singleton] at this
       omega
     ·have:=b4U l x.kids (nx (b05 x.kids s) (a0g s x.kids.length)).1
      have:=hn (b05 x.kids s) (a0g s x.kids.length)
      omega
    ·have:=hn (b05 x.kids s) (a0g s x.kids.length)
     omega
   ·rw[b6A];exact z
  ·rw[b6z];exact z
 ·rw[b6B];exact z
theorem b4V {l:List NodeD} {g:Int→Src→Val×Src} (hl:∀ x∈l,x.kids.length≤10):∀ (f:Nat) (k:Int) (s:Src),(a9q l g f k s).1.labels.length≤2+10*f
 |0,k,s=>by rw[a9q,c3Z];exact zao _
 |f+1,k,s=>by
  have hx:(l.getD k.toNat (a1c 1)).kids.length≤10:=by
   rw[zbf]
   cases h:l[k.toNat]? with
   |none=>simp[a1c]
   |some x=>exact hl x (zbc h)
  have:=c1l (l:=l) (g:=g) (B:=2+10*f) (K:=10) (by omega) (b4V (g:=g) hl f) _ hx s
  rw[a9q];omega
theorem c7w {l:List NodeD} (r:Int) (q:l.length≤1000) (hl:∀ (j:Nat) (x:NodeD),l[j]?= some x→GoodN l.length j x) {g:Int→Src→Val×Src} {h:Nat} (H:b1L l r g (h:Int)) (hg:∀ k s,s.ok→(g k s).2.ok) (hh:h≤1000):
  ∀ (f:Nat) (k:Nat),k<l.length→l.length≤k+f→f≤1000→∀ s:Src,s.ok→a1b l r (a9q l g f (k:Int)) h k s:=by
 have ad:∀ x∈l,x.kids.length≤10:=fun x hx=>by
  obtain⟨j,hj⟩:=zb5 hx
  exact(hl j x hj).kid
 intro f
 induction f with
 |zero=>intro k hk hf;omega
 |succ f ih=>
  intro k hk hf ah s hs
  have hx:l[k]?= some l[k]:=zav hk
  obtain⟨x,ab⟩:∃ x,x=l[k]:=⟨_,rfl⟩
  rw[← ab] at hx
  have hG:=hl k x hx
  have e:a9q l g (f+1) (k:Int)=a1Y l g (a9q l g f) x:=by
   funext s'
   rw[a9q,Int.toNat_natCast,zbf,hx];rfl
  rw[e]
  have u:∀ y∈x.kids,0≤y∧y<(l.length:Int):=fun y hy=>hG.edge y (zb7 _ (zb7 _ hy))
  have af:=hG.kid
  have ag:=hG.fld
  have hv:=hG.kind
  have Hn:a4Z x.kind=true→∀ y:Int,y∈x.kids→∀ s:Src,s.ok→PCB Tryz.prog 83 [Sp pin,Tt l r,I .i64 y,I .i64 ((h+1:Nat):Int)] [(pin,a00 s)] (Vt (a9q l g f y s).1) [(pin,a00 (a9q l g f y s).2)]:=by
   intro hb y hy s' ae
   have h1:=u y hy
   have h2:=hG.on hb y hy
   have:=ih y.toNat (by omega) (by omega) (by omega) s' ae
   unfold a1b at this
   rwa[show ((y.toNat:Nat):Int)=y by omega] at this
  have hL:∀ y s,(a9q l g f y s).1.labels.length≤900000:=fun y s=>by have:=b4V (g:=g) ad f y s;omega
  have ai:1≤x.kind∧x.kind≤19:=c3W hv
  have hc:x.kind=1∨x.kind=2∨x.kind=3∨x.kind=4∨x.kind=5∨x.kind=6∨x.kind=7∨x.kind=8∨x.kind=9∨x.kind=10∨x.kind=11∨x.kind=12∨x.kind=13∨x.kind=14∨x.kind=15∨x.kind=16∨x.kind=17∨x.kind=18∨x.kind=19:=by omega
  rcases hc with c|c|c|c|c|c|c|c|c|c|c|c|c|c|c|c|c|c|c
  ·exact c62 l r g _ h hh q x k hx c s hs
  ·exact c63 l r g _ h hh q x k hx c s hs
  ·exact c6V l r g _ h hh q x k hx c s hs
  ·exact c6W l r g _ h hh q x k hx c s hs
  ·exact c6X l r g _ h hh q x k hx c s hs
  ·exact c6Y l r g _ h hh q x k hx c s hs
  ·exact c6Z l r g _ h hh q x k hx c s hs
  ·exact c60 l r g _ h hh q x k hx c s hs
  ·exact c61 l r g _ h hh q x k hx c s hs
  ·exact c3T l r g _ h H hg hh q x k hx c u (by omega) s hs
  ·exact c3h l r g _ h hh q x k hx c s hs
  ·have h2:x.kids.length=2:=by
    unfold a0G at hv
    rw[c] at hv
    simp at hv
    omega
   exact c3U l r g _ h H hg hh q x k hx c u h2 s hs
  ·have hr:∀ y,y=x.r0∨y=x.r1→0≤y∧y<(l.length:Int):=fun y hy=>hG.edge y (by
    unfold edgeL;rw[c]
    rcases hy with rfl|rfl<;>simp)
   refine c3k l r g _ h H hg hh q x k hx c (fun fl aa=>hG.edge _ ?_) (by omega) (hr _ (.inl rfl)) (hr _ (.inr rfl)) s hs
   unfold edgeL
   exact zb7 _ (zc2 _ (zdc aa))
  ·have h1:1≤x.kids.length:=by
    unfold a0G at hv
    rw[c] at hv
    simp at hv
    omega
   exact c3l l r g _ h H hg hh q x k hx c u h1 (by omega) s hs
  ·exact c3i l r g _ h hh q x k hx c s hs
  ·have h1:1≤x.kids.length:=by
    unfold a0G at hv
    rw[c] at hv
    simp at hv
    omega
   exact c3m l r g _ h hh q x k hx c u h1 (by omega) (Hn (by rw[c];rfl)) s hs
  ·have h1:1≤x.kids.length:=by
    unfold a0G at hv
    rw[c] at hv
    simp at hv
    omega
   exact c3V l r g _ h hh q x k hx c u h1 (by omega) (Hn (by rw[c];rfl)) hL s hs
  ·exact c3j l r g _ h hh q x k hx c s hs
  ·exact c3n l r g _ h hh q x k hx c s hs
theorem b88 (s:Src):a0t (a31 s).1=true:=by
 refine(b7z (a0j s 6) (a0g s 6)).2 ?_
 unfold b5V
 cases decide (a0j s 6=0)<;>cases decide (a0j s 6=1)<;>cases decide (a0j s 6=2)<;>cases decide (a0j s 6=3)<;>cases decide (a0j s 6=4)<;>simp only[zaa,zab]<;>
  (rw[c0z];simp[a3j,a4j,a6p,b4e,a0W,a1m])
theorem c1m (p:Val×Src):a0t (b3v p).1=true:=by
  unfold b3v
  cases h:a0t p.1
  · exact b88 _
  · exact h
theorem c1n (l:List NodeD) (h:Nat) (k:Int) (s:Src):a0t (c1j l h k s).1=true:=by
  cases h<;>exact c1m _
theorem c5q {l:List NodeD} {r k:Int} {h:Nat} {s:Src} {p:Val×Src} (hp:p.2.ok) (H:PCB Tryz.prog 83 [Sp pin,Tt l r,I .i64 k,I .i64 (h:Int)] [(pin,a00 s)] (Vt p.1) [(pin,a00 p.2)]):
  PCB Tryz.prog 41 [Sp pin,Tt l r,I .i64 k,I .i64 (h:Int)] [(pin,a00 s)] (Vt (b3v p).1) [(pin,a00 (b3v p).2)]:=by
 have hV:=a11 p.1
 have hN:a1k Tryz.prog 83 [Sp 1000000, .st [.sl 8 (l.map a0e), .int .i64 r],I .i64 k,I .i64 (h:Int)] 1000000 (a00 s) (Vt p.1) (a00 p.2):=a1k.mk 1000000 H
 rw[Vt,a0a] at hN
 rw[a0a] at hV
 unfold b3v
 cases ht:a0t p.1
 all_goals
  refine PCB.ob Tryz.func41 Tryz.ntmps41 Tryz.results41 ?_
  repeat'(first|simp only[go_sem,pin,ht]<;>refine nf ?_|refine stp ?_;intro K hK|apply hK;clear hK K|refine stn ?_|(with_reducible refine⟨_,hV,?_⟩)|(refine⟨1000000,_,_,_,hN,rfl,?_⟩)|(refine⟨1000000,_,_,_,b0G 1000000 p.2 hp,rfl,?_⟩)|refine stq ?_|clear hK K)
 all_goals first|exact⟨rfl,fun x hx=>by simp only[lN] at hx;subst hx;simp[pin]⟩|exact⟨trivial,fun x hx=>by simp only[lN] at hx;subst hx;simp[pin]⟩|(intro x hx;simp only[lN] at hx;subst hx;simp[pin])|(refine⟨by simp only[Vt,a0a]<;>rfl,fun x hx=>by simp only[lN] at hx;subst hx;simp[pin]⟩)|fail
theorem c1o (l:List NodeD) (r k:Int) (s:Src) (hs:s.ok):PCB Tryz.prog 83 [Sp pin,Tt l r,I .i64 k,I .i64 ((0:Nat):Int)] [(pin,a00 s)] (Vt (a31 s).1) [(pin,a00 (a31 s).2)]:=by
  have h0:decide (((0:Nat):Int)≤0)=true:=rfl
  refine PCB.ob Tryz.func83 Tryz.ntmps83 Tryz.results83 ?_
  repeat'(first|simp only[go_sem,pin,h0]<;>refine nf ?_|refine stp ?_;intro K hK|apply hK;clear hK K|refine stn ?_|(refine⟨1000000,_,_,_,b0G 1000000 s hs,rfl,?_⟩)|refine stq ?_|clear hK K)
  all_goals first|exact fun x hx=>hx|exact⟨rfl,fun x hx=>by simp only[lN] at hx;subst hx;simp[pin]⟩|exact⟨trivial,fun x hx=>by simp only[lN] at hx;subst hx;simp[pin]⟩|(intro x hx;simp only[lN] at hx;subst hx;simp[pin])|(refine⟨by simp only[Vt,a0a]<;>rfl,fun x hx=>by simp only[lN] at hx;subst hx;simp[pin]⟩)|fail
theorem c5r {l:List NodeD} (r:Int) (q:l.length≤1000) (hl:∀ (j:Nat) (x:NodeD),l[j]?= some x→GoodN l.length j x):∀ h:Nat,h≤1000→b1L l r (c1j l h) (h:Int)
 |0,_=>fun k s hs _ _=>c5q (a4N hs) (c1o l r k s hs)
 |h+1,hh=>fun k s hs h0 h1=>by
  have:=c7w r q hl (c5r r q hl h (by omega)) (b3x l h) (by omega) l.length k.toNat (by omega) (by omega) (by omega) s hs
  unfold a1b at this
  rw[show ((k.toNat:Nat):Int)=k by omega] at this
  exact c5q (b3w (b3x l h) _ _ _ hs) this
end Go.Proofs.YtoelgackkclcmaaGreat


namespace Go.Proofs.YtoelgackkclcmaaGreat
open Go Go.Sx
def b1l (l:List Int):Src:=⟨l,0⟩
def a3I (l:List Int):List NodeD:=(b4q (1+a0j (b1l l) 7).toNat (a0g (b1l l) 7)).1
theorem b3y (l:List Int):1≤(1+a0j (b1l l) 7).toNat∧(1+a0j (b1l l) 7).toNat≤7:=by
  have:=a0p (b1l l) (n:=7) (by omega)
  omega
theorem b4W (l:List Int):(a3I l).length=(1+a0j (b1l l) 7).toNat:=b1i _ _
theorem b89 (l:List Int) (j:Nat) (x:NodeD) (h:(a3I l)[j]?= some x):GoodN (a3I l).length j x:=by
  have hn:=b3y l
  rw[b4W]
  exact b2B _ (by omega) _ j x h
theorem c30 (l:List Int):TSm (a3I l):=by have hn:=b3y l;exact c3N _ (by omega) _
theorem b7M (l:List Int):1≤(a3I l).length∧(a3I l).length≤7:=by rw[b4W];exact b3y l
end Go.Proofs.YtoelgackkclcmaaGreat


