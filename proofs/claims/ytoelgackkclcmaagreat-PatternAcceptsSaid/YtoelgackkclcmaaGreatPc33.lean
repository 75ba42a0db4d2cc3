/- Lemmas. -/
import Derived.Test.YtoelgackkclcmaaGreatPc12
import Derived.Test.YtoelgackkclcmaaGreatPc16
open List renaming length_map→lB
set_option linter.unusedSimpArgs false
set_option linter.unusedVariables false
set_option maxRecDepth 20000
set_option maxHeartbeats 64000000
namespace Go.Proofs.YtoelgackkclcmaaGreat
open Go Go.Sx
def b3j (k n:Int) (t:List UInt8):Pat:=⟨k,n,t,[],[]⟩
def b3k (k:Int) (t:List UInt8) (ks:List KeyD) (l:List Pat):Pat:=⟨k,0,t,l,ks⟩
theorem c0w (k n:Int) (t:List UInt8):Pt (b3j k n t)= .st [.int .i64 k, .int .i64 n, .str t, .sl 5 [], .sl 2 []]:=by rw[Pt,a0f];rfl
theorem c0x (k:Int) (t:List UInt8) (ks:List KeyD) (l:List Pat):Pt (b3k k t ks l)= .st [.int .i64 k, .int .i64 0, .str t, .sl 5 (l.map a1d), .sl 2 (ks.map a0i)]:=by rw[Pt,a0f];rfl
def b6k (nm:List UInt8) (s:Src):Pat×Src:=
  bif decide (a0j s 6=0) then (b3j 3 (c5z (a0g s 6)) [],a0g (a0g s 6) 10) else
  bif decide (a0j s 6=1) then (b3j 5 0 (a8S (a0g s 6)),a0g (a0g s 6) 4) else
  bif decide (a0j s 6=2) then (b3j 4 0 (b1q (a0g s 6)),a0g (a0g s 6) 4) else
  bif decide (a0j s 6=3) then (b3j 6 0 [],a0g s 6) else
  bif decide (a0j s 6=4) then (b3j 2 0 nm,a0g s 6) else (b3j 1 0 [],a0g s 6)
def b4C (nm:List UInt8) (a b:Pat) (s:Src):Pat×Src:=
  bif decide (a0j s 6=0) then (b3k 7 [] [] [a,b],a0g s 6) else
  bif decide (a0j s 6=1) then (b3k 8 [] [] [a,b],a0g s 6) else
  bif decide (a0j s 6=2) then (b3k 9 [] [⟨0,[97]⟩,⟨0,[98]⟩] [a,b],a0g s 6) else
  bif decide (a0j s 6=3) then (b3k 10 nm [] [a],a0g s 6) else
  bif decide (a0j s 6=4) then (b3k 7 [] [] [b],a0g s 6) else (a,a0g s 6)
def a1M:Nat→List (List UInt8)→Src→Pat×Src
 |0,ns,s=>b6k (ns.getD 0 []) s
 |d+1,ns,s=>
  b4C (ns.getD (ns.length-1) []) (a1M d (ns.take (ns.length / 2)) s).1 (a1M d (ns.drop (ns.length / 2)) (a1M d (ns.take (ns.length / 2)) s).2).1 (a1M d (ns.drop (ns.length / 2)) (a1M d (ns.take (ns.length / 2)) s).2).2
theorem c3u {s:Src} (h:s.ok) (nm:List UInt8):(b6k nm s).2.ok:=by
  have h2:=a0k h 6
  unfold b6k
  cases decide (a0j s 6=0)<;>cases decide (a0j s 6=1)<;>cases decide (a0j s 6=2)<;>cases decide (a0j s 6=3)<;>cases decide (a0j s 6=4)<;>first|exact a0k h2 _|exact h2
theorem c3v {s:Src} (h:s.ok) (nm:List UInt8) (a b:Pat):(b4C nm a b s).2.ok:=by
  have h2:=a0k h 6
  unfold b4C
  cases decide (a0j s 6=0)<;>cases decide (a0j s 6=1)<;>cases decide (a0j s 6=2)<;>cases decide (a0j s 6=3)<;>cases decide (a0j s 6=4)<;>exact h2
theorem b0d:∀ (d:Nat) (ns:List (List UInt8)) (s:Src),s.ok→(a1M d ns s).2.ok
  |0,ns,s,h=>c3u h _
  |d+1,ns,s,h=>c3v (b0d d _ _ (b0d d _ s h)) _ _ _
def b2v (d:Nat):Prop:=∀ (ns:List (List UInt8)) (s:Src),s.ok→ns.length=2 ^ (d+1)→PCB Tryz.prog 9 [Sp pin,I .i64 d, .one (.dat (.sl 1 (ns.map Sx.encStr)))] [(pin,a00 s)] (Pt (a1M d ns s).1) [(pin,a00 (a1M d ns s).2)]
theorem b2v.k {d:Nat} (H:b2v d) (k:Nat) (ns:List (List UInt8)) (s:Src) (hs:s.ok) (hn:ns.length=2 ^ (d+1)):a1k Tryz.prog 9 [Sp k,I .i64 d, .one (.dat (.sl 1 (ns.map Sx.encStr)))] k (a00 s) (Pt (a1M d ns s).1) (a00 (a1M d ns s).2):=a1k.mk k (H ns s hs hn)
theorem c9x:b2v 0:=by
 intro ns s hs u
 have a1:=a0p s (n:=6) (by omega)
 have q:=a0k hs 6
 have aa:(ns.map Sx.encStr)[0]?= some (Sx.encStr (ns.getD 0 [])):=by
  cases ns with
  |nil=>simp at u
  |cons x l=>rfl
 rcases (show a0j s 6=0∨a0j s 6=1∨a0j s 6=2∨a0j s 6=3∨a0j s 6=4∨a0j s 6=5 by omega) with hq|hq|hq|hq|hq|hq
 iterate 6
  ·
   refine PCB.ob Tryz.func9 Tryz.ntmps9 Tryz.results9 ?_
   repeat'(first|simp only[go_sem,pin,hq,Int.reduceEq,Int.natCast_zero,Sx.encStr,lB]<;>refine nf ?_|refine stp ?_;intro K hK|apply hK;clear hK K|refine stn ?_|(with_reducible refine⟨Sx.encStr (ns.getD 0 []),aa,?_⟩)|(refine⟨1000000,_,_,_,a0u 1000000 s hs _ (by omega),rfl,?_⟩)|(refine⟨1000000,_,_,_,b2M 1000000 _ q,rfl,?_⟩)|(refine⟨1000000,_,_,_,a4G 1000000 _ q,rfl,?_⟩)|(refine⟨1000000,_,_,_,b77 1000000 _ q,rfl,?_⟩)|refine stq ?_|clear hK K)
   all_goals(simp only[a1M,b6k,hq,zb,zaa,zab,zac,zad,Int.reduceEq,c0w])
   all_goals(refine⟨by first|trivial|rfl,fun x hx=>?_⟩;simp only[za7] at hx;subst hx;simp)
theorem c9y (d:Nat) (hd:d≤10) (H:b2v d):b2v (d+1):=by
 intro ns s hs ai
 have aj:1≤2 ^ d:=Nat.one_le_two_pow
 have ak:2 ^ (d+1)=2*2 ^ d:=by rw[Nat.pow_succ];omega
 have am:2 ^ (d+1+1)=2*2 ^ (d+1):=by rw[Nat.pow_succ];omega
 have al:2 ^ d≤2 ^ 10:=Nat.pow_le_pow_right (by omega) hd
 have ae:ns.length / 2=2 ^ (d+1):=by omega
 have ag:(ns.take (ns.length / 2)).length=2 ^ (d+1):=by rw[zbb];omega
 have ah:(ns.drop (ns.length / 2)).length=2 ^ (d+1):=by rw[za1];omega
 have hp:decide (((d+1:Nat):Int)≤0)=false:=by simp only[zah];omega
 have hm:IntKind.i64.wrap (((d+1:Nat):Int)-1)=(d:Int):=by rw[w64 (by omega)];omega
 have ab:IntKind.i64.wrap ((ns.length:Int).tdiv 2)=((ns.length / 2:Nat):Int):=by
  rw[show (ns.length:Int).tdiv 2=((ns.length / 2:Nat):Int) by rw[Int.tdiv_eq_ediv_of_nonneg (by omega)];omega,w64 (by omega)]
 have q:IntKind.i64.wrap ((ns.length:Int)-1)=((ns.length-1:Nat):Int):=by rw[w64 (by omega)];omega
 have af:(ns.map Sx.encStr)[ns.length-1]?= some (Sx.encStr (ns.getD (ns.length-1) [])):=by
  have:ns.length-1<ns.length:=by omega
  simp[zbv,this]
 have ka:=H.k 1000000 (ns.take (ns.length / 2)) s hs ag
 have u:=b0d d (ns.take (ns.length / 2)) s hs
 have kb:=H.k 1000000 (ns.drop (ns.length / 2)) _ u ah
 have aa:=b0d d (ns.drop (ns.length / 2)) _ u
 have ad:a1M (d+1) ns s=b4C (ns.getD (ns.length-1) []) (a1M d (ns.take (ns.length / 2)) s).1 (a1M d (ns.drop (ns.length / 2)) (a1M d (ns.take (ns.length / 2)) s).2).1 (a1M d (ns.drop (ns.length / 2)) (a1M d (ns.take (ns.length / 2)) s).2).2:=rfl
 rw[ad]
 generalize (a1M d (ns.take (ns.length / 2)) s).1=a at*
 generalize (a1M d (ns.take (ns.length / 2)) s).2=s2 at*
 generalize (a1M d (ns.drop (ns.length / 2)) s2).1=b at*
 generalize (a1M d (ns.drop (ns.length / 2)) s2).2=s3 at*
 have a1:=a0p s3 (n:=6) (by omega)
 rcases (show a0j s3 6=0∨a0j s3 6=1∨a0j s3 6=2∨a0j s3 6=3∨a0j s3 6=4∨a0j s3 6=5 by omega) with hq|hq|hq|hq|hq|hq
 iterate 6
  ·
   refine PCB.ob Tryz.func9 Tryz.ntmps9 Tryz.results9 ?_
   repeat'(first|simp only[go_sem,pin,hq,hp,hm,ab,q,Int.reduceEq,lB,Int.toNat_natCast,a33,a4O,zbh,Sx.encStr]<;>refine nf ?_|refine stp ?_;intro K hK|apply hK;clear hK K|refine stn ?_|(with_reducible first|refine⟨by omega,Sx.encStr (ns.getD (ns.length-1) []),af,?_⟩|refine⟨by omega,?_⟩)|(refine⟨1000000,_,_,_,ka,rfl,?_⟩)|(refine⟨1000000,_,_,_,kb,rfl,?_⟩)|(refine⟨1000000,_,_,_,a0u 1000000 s3 aa _ (by omega),rfl,?_⟩)|(with_reducible refine AWP.segP (id:=25) 9 mixed (by kernel_rfl) fun K hK=>?_;simp only[List.take_succ_cons,List.take_zero,zb4,zb2])|refine stq ?_|clear hK K)
   all_goals(simp only[b4C,hq,zb,zaa,zab,zac,zad,Int.reduceEq,c0x])
   all_goals(refine⟨by first|trivial|rfl,fun x hx=>?_⟩;simp only[za7] at hx;subst hx;simp)
theorem c5i:∀ d:Nat,d≤10→b2v d
  |0,_=>c9x
  |d+1,h=>c9y d (by omega) (c5i d (by omega))
def bP:Nat→Nat
  |0=>1
  |d+1=>1+2*bP d
theorem c0y (k:Int) (t:List UInt8) (ks:List KeyD) (l:List Pat):cntP (b3k k t ks l)=1+a10 l:=by rw[a19];rfl
theorem b3l:∀ (d:Nat) (ns:List (List UInt8)) (s:Src),cntP (a1M d ns s).1≤bP d
 |0,ns,s=>by
  unfold a1M b6k bP
  cases decide (a0j s 6=0)<;>cases decide (a0j s 6=1)<;>cases decide (a0j s 6=2)<;>cases decide (a0j s 6=3)<;>cases decide (a0j s 6=4)<;>(simp only[zaa,zab];rw[a19];exact zax 1)
 |d+1,ns,s=>by
  have h1:=b3l d (ns.take (ns.length / 2)) s
  have h2:=b3l d (ns.drop (ns.length / 2)) (a1M d (ns.take (ns.length / 2)) s).2
  unfold a1M b4C bP
  generalize (a1M d (ns.take (ns.length / 2)) s).1=a at*
  generalize (a1M d (ns.take (ns.length / 2)) s).2=s2 at*
  generalize (a1M d (ns.drop (ns.length / 2)) s2).1=b at*
  generalize (a1M d (ns.drop (ns.length / 2)) s2).2=s3 at*
  cases decide (a0j s3 6=0)<;>cases decide (a0j s3 6=1)<;>cases decide (a0j s3 6=2)<;>cases decide (a0j s3 6=3)<;>cases decide (a0j s3 6=4)<;>(simp only[zaa,zab,c0y,a10];omega)
def b6l (l:List Int):List C:=[.sl 1 (l.map a0h)]
theorem c3w (ll:List (List Int)):PC Tryz.prog 7 [.one (.dat (.sl 1 (ll.map b6l)))] (Bo (ll.all fun l=>!decide ((80:Int)<(l.length:Int)))):=by
 refine PCB.ob Tryz.func7 Tryz.ntmps7 Tryz.results7 ?_
 repeat'(first|simp only[go_sem,lB]<;>refine nf ?_|refine stp ?_;intro K hK|apply hK;clear hK K|refine stn ?_|fail)
 refine AWP.len 0 rfl fun u=>?_
 (try rw[lB] at u)
 refine AWP.range (S:=Unit) (ll) b6l (fun k s=>(3,I .i64 (k:Nat))::[]) (fun k s=>[]) [0] [] (fun k s=>(ll.all fun l=>!decide ((80:Int)<(l.length:Int)))=((ll.drop k).all fun l=>!decide ((80:Int)<(l.length:Int)))) (()) (by refine sts ?_;exact Gh.tt []) ?_ ?_ ?_
 ·rfl
 ·intro k s x ab hx aa hb q
  refine sts ?_
  rw[a3b hx] at q
  cases hz:decide ((80:Int)<(x.length:Int))<;>simp only[hz,zat,zar,zae,zai] at q
  ·
   repeat'(first|simp only[go_sem,b6l,lB,hb,hz]<;>refine nf ?_|refine stp ?_;intro K hK|apply hK;clear hK K|refine stn ?_|(with_reducible refine⟨by omega,b6l x,aa,?_⟩)|clear hK K)
   all_goals(rw[a0b ab u])
   all_goals(refine⟨(),?_,Gh.tt []⟩)
   all_goals exact q
  ·
   repeat'(first|simp only[go_sem,b6l,lB,hb,hz]<;>refine nf ?_|refine stp ?_;intro K hK|apply hK;clear hK K|refine stn ?_|(with_reducible refine⟨by omega,b6l x,aa,?_⟩)|clear hK K)
   all_goals(first|exact lf|(refine a0m ?_;simp only[q,zb,zaa,zab,zac,zad]<;>rfl))
 ·intro s hb q
  refine sts ?_
  rw[a4m] at q
  repeat'(first|simp only[go_sem,lB,hb]<;>refine nf ?_|refine stp ?_;intro K hK|apply hK;clear hK K|refine stn ?_|clear hK K)
  all_goals(first|exact lf|(refine a0m ?_;simp only[q,zb,zaa,zab,zac,zad]<;>rfl))
def c5j:List (List UInt8):=[[80],[81],[82],[83],[84],[85],[86],[87]]
theorem c9z:PC Tryz.prog 10 [] (.one (.dat (.sl 1 (c5j.map Sx.encStr)))):=by
  refine PCB.ob Tryz.func10 Tryz.ntmps10 Tryz.results10 ?_
  repeat'(first|simp only[go_sem]<;>refine nf ?_|refine stp ?_;intro K hK|apply hK;clear hK K|refine stn ?_|refine stq ?_|fail)
  all_goals exact lf
end Go.Proofs.YtoelgackkclcmaaGreat

