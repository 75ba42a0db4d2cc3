/- Lemmas. -/
import Derived.Test.YtoelgackkclcmaaGreatPc26
open Go.Proofs.Tryz renaming prog→zP
open List renaming length_append→lA,length_map→lB,length_cons→lC,length_nil→lD,mem_singleton→lN,length_take→lQ
open Go.Sx.AWP renaming genR→xA,gh→xD
set_option linter.unusedSimpArgs false
set_option linter.unusedVariables false
set_option maxRecDepth 20000
set_option maxHeartbeats 64000000
namespace Go.Proofs.YtoelgackkclcmaaGreat
open Go Go.Sx
def b1L (l:List NodeD) (r:Int) (g:Int→Src→Val×Src) (h:Int):Prop:=
  ∀ (k:Int) (s:Src),s.ok→0≤k→k<(l.length:Int)→PCB zP 41 [Sp pin,Tt l r,I .i64 k,I .i64 h] [(pin,a00 s)] (Vt (g k s).1) [(pin,a00 (g k s).2)]
theorem b1L.k {l:List NodeD} {r:Int} {g:Int→Src→Val×Src} {h:Int} (H:b1L l r g h) (j:Nat) (k:Int) (s:Src) (hs:s.ok) (h0:0≤k) (h1:k<(l.length:Int)):
  a1k zP 41 [Sp j, .st [.sl 8 (l.map a0e), .int .i64 r],I .i64 k,I .i64 h] j (a00 s) (Vt (g k s).1) (a00 (g k s).2):=a1k.mk j (H k s hs h0 h1)
def a5C (l:List Int):Int:=l.getD (l.length-1) 0
abbrev b6c:=Src×List KeyD×List Val
def c2m (g:Int→Src→Val×Src):List FieldD→b6c→b6c
 |[],x=>x
 |f::fs,x=>bif f.opt&&decide (a0j x.1 2=1) then c2m g fs (a0g x.1 2,x.2.1,x.2.2)
  else c2m g fs ((g f.node (bif f.opt then a0g x.1 2 else x.1)).2,x.2.1++[f.key],x.2.2++[(g f.node (bif f.opt then a0g x.1 2 else x.1)).1])
def b7s:List UInt8:=[111,116,104,101,114]
def d0N (g:Int→Src→Val×Src) (a b:Int) (x:b6c):b6c:=
  bif decide (a0j x.1 2=1) then ((g (bif decide (a0j (a0g x.1 2) 2=0) then a else b) (a0g (a0g x.1 2) 2)).2,x.2.1++[⟨a0j (a0g x.1 2) 2,b7s⟩],x.2.2++[(g (bif decide (a0j (a0g x.1 2) 2=0) then a else b) (a0g (a0g x.1 2) 2)).1])
  else (a0g x.1 2,x.2.1,x.2.2)
def a23 (g:Int→Src→Val×Src) (x:NodeD) (s:Src):b6c:=d0N g x.r0 x.r1 (c2m g x.fields (s,[],[]))
def a3x (g:Int→Src→Val×Src) (x:NodeD) (s:Src):Val×Src:=
  (bif decide ((a8d (a23 g x s).2.1 (a23 g x s).2.2).2=0) then (a8d (a23 g x s).2.1 (a23 g x s).2.2).1 else a0W,(a23 g x s).1)
theorem c0p (l:List KeyD) (a:Int) (b:List UInt8):l.map a0i++[[C.int .i64 a,C.str b]]=(l++[(⟨a,b⟩:KeyD)]).map a0i:=by rw[zbn];rfl
theorem b4r (l:List KeyD) (f:FieldD):l.map a0i++[[C.int .i64 f.key.kind,C.str f.key.text]]=(l++[f.key]).map a0i:=by rw[zbn];rfl
theorem c0q (l:List NodeD) (r:Int) (g:Int→Src→Val×Src) (h:Nat) (H:b1L l r g (h:Int)) (hg:∀ k s,s.ok→(g k s).2.ok) (hh:h≤1000) (x:NodeD)
  (hf:∀ f∈x.fields,0≤f.node∧f.node<(l.length:Int)) (au:x.fields.length≤1000) (h0:0≤x.r0∧x.r0<(l.length:Int)) (h1:0≤x.r1∧x.r1<(l.length:Int)) (s:Src) (hs:s.ok):
  PCB zP 141 [Sp pin,Tt l r,Nt x,I .i64 ((h+1:Nat):Int)] [(pin,a00 s)] (Vt (a3x g x s).1) [(pin,a00 (a3x g x s).2)]:=by
 have hw:IntKind.i64.wrap (((h+1:Nat):Int)-1)=(h:Int):=by rw[w64 (by omega)];omega
 refine PCB.ob Tryz.func141 Tryz.ntmps141 Tryz.results141 ?_
 repeat'(first|simp only[go_sem,pin,a0d,lB]<;>refine nf ?_|refine stp ?_;intro K hK|apply hK;clear hK K|refine stn ?_|fail)
 refine xD (Gh.nilrow 9 900 rfl rfl rfl rfl) ?_
 refine xD (Gh.nilrow 10 901 rfl rfl rfl rfl) ?_
 refine AWP.lenB 6 5 rfl rfl fun u=>?_
 (try rw[lB] at u)
 refine AWP.range (S:=b6c) (x.fields) a0o (fun k s=>(11,I .i64 (k:Nat))::[(9, .one (.own 900 s.2.1.length)),(10, .one (.own 901 s.2.2.length))]) (fun k s=>[(1000000,a00 s.1),(900, .row 2 (s.2.1.map a0i)),(901, .row 7 (s.2.2.map a0c))]) [0,3,5,6,8] [5,6,8] (fun k y=>Is (c2m g x.fields (s,[],[])) (c2m g (x.fields.drop k) y)∧y.1.ok∧y.2.1.length≤k∧y.2.1.length=y.2.2.length) ((s,[],[])) (by refine sts ?_;exact Gh.tt []) ?_ ?_ ?_
 ·exact⟨rfl,hs,zax _,rfl⟩
 ·rintro k ⟨t,ak,av⟩ f ai aj ad ab ⟨q,ht,hl,ag⟩
  refine sts ?_
  simp only at q ht hl ag
  have hd:x.fields.drop k=f::x.fields.drop (k+1):=by
   obtain⟨hk,e⟩:=zak.1 aj
   rw[za8 hk,e]
  have af:=hf f (zbc aj)
  unfold Is at q
  rw[hd,c2m] at q
  have aa:=a0k ht 2
  cases ho:f.opt with
  |false=>
   rw[ho] at q
   simp only[zai,zab] at q
   repeat'(first|simp only[go_sem,pin,lB,ab,ho,hw,encField_lit,b4r,a4y]<;>refine nf ?_|refine stp ?_;intro K hK|apply hK;clear hK K|refine stn ?_|(with_reducible first|refine⟨by omega,a0o f,ad,?_⟩|(refine⟨(by first|omega|(simp only[lA,lB,lQ,za1,lC,lD,za4];omega):_≤_),?_⟩))|(refine⟨1000000,_,_,_,H.k 1000000 f.node t ht af.1 af.2,rfl,?_⟩)|(with_reducible refine xA (id:=8) [11,13] [1000000,901] mixed (by kernel_rfl) fun K hK=>?_;simp only[Bx.outs,Bx.drop,zaa,zab,Nat.reduceBEq,go_sem])|refine stq ?_|clear hK K)
   all_goals(rw[a0b ai u])
   all_goals(refine⟨((g f.node t).2,ak++[f.key],av++[(g f.node t).1]),?_,Gh.tt [(900,41),(901,55)]⟩)
   all_goals exact⟨q,hg _ _ ht,by simp;omega,by simp;omega⟩
  |true=>
   rw[ho] at q
   simp only[zae] at q
   cases hc:decide (a0j t 2=1) with
   |true=>
    rw[hc] at q
    simp only[zaa] at q
    repeat'(first|simp only[go_sem,pin,lB,ab,ho,hc,hw,encField_lit]<;>refine nf ?_|refine stp ?_;intro K hK|apply hK;clear hK K|refine stn ?_|(with_reducible refine⟨by omega,a0o f,ad,?_⟩)|(refine⟨1000000,_,_,_,a0u 1000000 t ht 2 (by omega),rfl,?_⟩)|refine stq ?_|clear hK K)
    all_goals(rw[a0b ai u])
    all_goals(refine⟨(a0g t 2,ak,av),?_,Gh.tt []⟩)
    all_goals exact⟨q,aa,Nat.le_succ_of_le hl,ag⟩
   |false=>
    rw[hc] at q
    simp only[zaa,zab] at q
    repeat'(first|simp only[go_sem,pin,lB,ab,ho,hc,hw,encField_lit,b4r,a4y]<;>refine nf ?_|refine stp ?_;intro K hK|apply hK;clear hK K|refine stn ?_|(with_reducible first|refine⟨by omega,a0o f,ad,?_⟩|(refine⟨(by first|omega|(simp only[lA,lB,lQ,za1,lC,lD,za4];omega):_≤_),?_⟩))|(refine⟨1000000,_,_,_,a0u 1000000 t ht 2 (by omega),rfl,?_⟩)|(refine⟨1000000,_,_,_,H.k 1000000 f.node _ aa af.1 af.2,rfl,?_⟩)|(with_reducible refine xA (id:=8) [11,13] [1000000,901] mixed (by kernel_rfl) fun K hK=>?_;simp only[Bx.outs,Bx.drop,zaa,zab,Nat.reduceBEq,go_sem])|refine stq ?_|clear hK K)
    all_goals(rw[a0b ai u])
    all_goals(refine⟨((g f.node (a0g t 2)).2,ak++[f.key],av++[(g f.node (a0g t 2)).1]),?_,Gh.tt [(900,41),(901,55)]⟩)
    all_goals exact⟨q,hg _ _ aa,by simp;omega,by simp;omega⟩
 ·rintro⟨t,ak,av⟩ ab ⟨q,ht,hl,ag⟩
  refine sts ?_
  simp only at q ht hl ag
  unfold Is at q
  rw[zbw,c2m] at q
  have aa:=a0k ht 2
  have aq:=a0k aa 2
  have aw:=a0p (a0g t 2) (n:=2) (by omega)
  cases hc:decide (a0j t 2=1) with
  |false=>
   have hM:a23 g x s=(a0g t 2,ak,av):=by unfold a23;rw[q,d0N,hc];rfl
   cases hm:decide ((a8d ak av).2=0)
   all_goals
    repeat'(first|simp only[go_sem,pin,ab,hc,hm,lB]<;>refine nf ?_|refine stp ?_;intro K hK|apply hK;clear hK K|refine stn ?_|(with_reducible first|refine⟨_,a8p ak av (by omega),?_⟩|refine⟨_,a1r,?_⟩)|(refine⟨1000000,_,_,_,a0u 1000000 t ht 2 (by omega),rfl,?_⟩)|refine stq ?_|clear hK K)
   all_goals(simp only[a3x,hM,hm,zaa,zab])
   all_goals(first|exact⟨rfl,fun x hx=>by simp only[lN] at hx;subst hx;simp[pin]⟩|exact⟨trivial,fun x hx=>by simp only[lN] at hx;subst hx;simp[pin]⟩|(intro x hx;simp only[lN] at hx;subst hx;simp[pin])|fail)
  |true=>
   obtain⟨kk,an⟩:∃ kk,kk=a0j (a0g t 2) 2:=⟨_,rfl⟩
   obtain⟨to,ae⟩:∃ to,to=bif decide (kk=0) then x.r0 else x.r1:=⟨_,rfl⟩
   have hM:a23 g x s=((g to (a0g (a0g t 2) 2)).2,ak++[⟨kk,b7s⟩],av++[(g to (a0g (a0g t 2) 2)).1]):=by unfold a23;rw[q,d0N,hc,ae,an];rfl
   have am:0≤to∧to<(l.length:Int):=by rw[ae];cases decide (kk=0)<;>assumption
   have ap:kk=0∨kk=1:=by omega
   have hN:=a0u 1000000 _ aa 2 (by omega)
   rw[← an] at hN
   obtain⟨kl,ah⟩:∃ kl,kl=ak++[(⟨kk,b7s⟩:KeyD)]:=⟨_,rfl⟩
   have ao:kl.length≤1000000:=by rw[ah];simp;omega
   obtain⟨vl,al⟩:∃ vl,vl=av++[(g to (a0g (a0g t 2) 2)).1]:=⟨_,rfl⟩
   have ar:=a8p kl vl ao
   rw[← ah,← al] at hM
   rcases ap with rfl|rfl
   all_goals
    (try(have e0:to=x.r0:=ae))
    (try(have e0:to=x.r1:=ae))
    cases hm:decide ((a8d kl vl).2=0)
    all_goals
     repeat'(first|(simp only[go_sem,pin,ab,hc,hm,hw,← e0,← ah,← al,c0p,a4y,lB,(show [(111:UInt8),116,104,101,114]=b7s from rfl)];all_goals refine nf ?_)|refine stp ?_;intro K hK|apply hK;clear hK K|refine stn ?_|(with_reducible first|refine⟨_,ar,?_⟩|refine⟨_,a1r,?_⟩|(refine⟨(by first|omega|(simp only[lA,lB,lQ,za1,lC,lD,za4];omega):_≤_),?_⟩))|(refine⟨1000000,_,_,_,a0u 1000000 t ht 2 (by omega),rfl,?_⟩)|(refine⟨1000000,_,_,_,hN,rfl,?_⟩)|(refine⟨1000000,_,_,_,H.k 1000000 to _ aq am.1 am.2,rfl,?_⟩)|(with_reducible refine xA (id:=12) [10,12] [1000000,901] mixed (by kernel_rfl) fun K hK=>?_;simp only[Bx.outs,Bx.drop,zaa,zab,Nat.reduceBEq,go_sem])|refine stq ?_|clear hK K)
    all_goals(simp only[a3x,hM,hm,zaa,zab])
   all_goals(first|exact⟨rfl,fun x hx=>by simp only[lN] at hx;subst hx;simp[pin]⟩|exact⟨trivial,fun x hx=>by simp only[lN] at hx;subst hx;simp[pin]⟩|(intro x hx;simp only[lN] at hx;subst hx;simp[pin])|fail)
def a3h (g:Int→Src→Val×Src):List Int→Src→List Val×Src
  |[],s=>([],s)
  |k::ks,s=>((g k s).1::(a3h g ks (g k s).2).1,(a3h g ks (g k s).2).2)
theorem b0b {g:Int→Src→Val×Src} (hg:∀ k s,s.ok→(g k s).2.ok):∀ (ks:List Int) (s:Src),s.ok→(a3h g ks s).2.ok
  |[],s,h=>h
  |k::ks,s,h=>b0b hg ks _ (hg k s h)
theorem a9d (g:Int→Src→Val×Src) (ks:List Int) (k:Int) (s:Src) (q:List Val):(q++(a3h g (k::ks) s).1,(a3h g (k::ks) s).2)=((q++[(g k s).1])++(a3h g ks (g k s).2).1,(a3h g ks (g k s).2).2):=by
  simp[a3h]
def b04 (g:Int→Src→Val×Src) (ks:List Int) (s:Src):Ent×Src:=
  bif decide (a0j (a3h g (ks.take (ks.length-1)) s).2 6=1) then (((a3h g (ks.take (ks.length-1)) s).1,true,a2f),a0g (a3h g (ks.take (ks.length-1)) s).2 6)
  else (((a3h g (ks.take (ks.length-1)) s).1,false,(g (a5C ks) (a0g (a3h g (ks.take (ks.length-1)) s).2 6)).1),(g (a5C ks) (a0g (a3h g (ks.take (ks.length-1)) s).2 6)).2)
theorem b6d {g:Int→Src→Val×Src} (hg:∀ k s,s.ok→(g k s).2.ok) (ks:List Int) {s:Src} (h:s.ok):(b04 g ks s).2.ok:=by
  unfold b04
  have h1:=b0b hg (ks.take (ks.length-1)) s h
  cases decide (a0j (a3h g (ks.take (ks.length-1)) s).2 6=1)
  · exact hg _ _ (a0k h1 6)
  · exact a0k h1 6
def a7z (g:Int→Src→Val×Src) (x:NodeD) (s:Src):List Ent×Src:=a1a (b04 g x.kids) (a0j s 3).toNat (a0g s 3)
def a3U (g:Int→Src→Val×Src) (x:NodeD) (s:Src):Val×Src:=
  (bif decide ((fnV ((x.kids.length:Int)-1) (a7z g x s).1).2=0) then (fnV ((x.kids.length:Int)-1) (a7z g x s).1).1 else a0W,(a7z g x s).2)
theorem c3f (l:List Ent) (a:List Val):l.map a0n++[[C.sl 7 (a.map a0c),C.bool true,C.int IntKind.i64 0,C.int IntKind.i64 0,C.str [],C.sl 7 [],C.sl 2 [],C.sl 9 [],C.sl 1 []]]=(l++[(a,true,a2f)]).map a0n:=by
  rw[zbn,zau,za6,a0A];rfl
theorem c3g (l:List Ent) (a:List Val) (v:Val):l.map a0n++[C.sl 7 (a.map a0c)::C.bool false::a0c v]=(l++[(a,false,v)]).map a0n:=by
  rw[zbn,zau,za6,a0A,a0a]
theorem c0r (l:List NodeD) (r:Int) (g:Int→Src→Val×Src) (h:Nat) (H:b1L l r g (h:Int)) (hg:∀ k s,s.ok→(g k s).2.ok) (hh:h≤1000) (x:NodeD)
  (hk:∀ k∈x.kids,0≤k∧k<(l.length:Int)) (aq:1≤x.kids.length) (ar:x.kids.length≤1000) (s:Src) (hs:s.ok):
  PCB zP 142 [Sp pin,Tt l r,Nt x,I .i64 ((h+1:Nat):Int)] [(pin,a00 s)] (Vt (a3U g x s).1) [(pin,a00 (a3U g x s).2)]:=by
 have hw:IntKind.i64.wrap (((h+1:Nat):Int)-1)=(h:Int):=by rw[w64 (by omega)];omega
 obtain⟨a,ha⟩:∃ a:Nat,a=x.kids.length-1:=⟨_,rfl⟩
 have ao:IntKind.i64.wrap ((x.kids.length:Int)-1)=(a:Int):=by rw[w64 (by omega)];omega
 have h3:=a0p s (n:=3) (by omega)
 have ap:=a0k hs 3
 obtain⟨m0,aj⟩:∃ m:Nat,m=(a0j s 3).toNat:=⟨_,rfl⟩
 have al:a0j s 3=(m0:Int):=by omega
 refine PCB.ob Tryz.func142 Tryz.ntmps142 Tryz.results142 ?_
 repeat'(first|simp only[go_sem,pin,a0d,lB,ao,al]<;>refine nf ?_|refine stp ?_;intro K hK|apply hK;clear hK K|refine stn ?_|(refine⟨1000000,_,_,_,a0u 1000000 s hs 3 (by omega),rfl,?_⟩)|refine stq ?_|fail)
 refine xD (Gh.nilrow 9 901 rfl rfl rfl rfl) ?_
 refine AWP.loopF (X:=Nat×Src×List Ent) (fun x=>[(11,I .i64 x.1),(9, .one (.own 901 x.2.2.length))]) (fun x=>[(1000000,a00 x.2.1),(901, .row 9 (x.2.2.map a0n))]) [0,3,5,6,8,10] [5,6,8] (fun y=>y.1+y.2.2.length≤3∧y.2.1.ok∧a7z g x s=(y.2.2++(a1a (b04 g x.kids) y.1 y.2.1).1,(a1a (b04 g x.kids) y.1 y.2.1).2)) (fun x=>x.1) ((m0,a0g s 3,[])) (by refine sts ?_;exact Gh.tt []) ?_ ?_
 ·exact⟨by simp;omega,ap,by unfold a7z;rw[← aj];simp⟩
 rintro⟨m,t,aa⟩ ⟨hl,ht,hp⟩
 simp only at hl ht hp
 refine sts ?_
 cases m with
 |succ m=>
  rw[a5A] at hp
  have ah:IntKind.i64.wrap (((m+1:Nat):Int)-1)=(m:Int):=a2N (by omega)
  repeat'(first|simp only[go_sem,pin,a9A]<;>refine nf ?_|refine stp ?_;intro K hK|apply hK;clear hK K|refine stn ?_|fail)
  refine xD (Gh.nilcell 12 0 900 rfl rfl rfl (by simp only[go_sem]) (by simp only[go_sem])) ?_
  refine AWP.loopF (X:=Nat×Src×List Val) (fun x=>[(13,I .i64 x.1)]) (fun x=>[(1000000,a00 x.2.1),(12,c5f x.2.2.length),(900, .row 7 (x.2.2.map a0c))]) [0,3,5,6,8,9,10,11,12] [5,6,8,901] (fun y=>y.1≤a∧y.2.2.length=y.1∧y.2.1.ok∧a3h g (x.kids.take a) t=(y.2.2++(a3h g ((x.kids.take a).drop y.1) y.2.1).1,(a3h g ((x.kids.take a).drop y.1) y.2.1).2)) (fun x=>a-x.1) ((0,t,[])) (by refine sts ?_;exact Gh.tt []) ?_ ?_
  ·exact⟨zao _,rfl,ht,rfl⟩
  rintro⟨i,u,args⟩ ⟨hi,ag,hu,hq⟩
  simp only at hi ag hu hq
  refine sts ?_
  by_cases h3:i=a
  ·subst h3
   have ad:decide ((i:Int)<(i:Int))=false:=by simp
   rw[zci (by rw[lQ];omega),a3h,zbq] at hq
   have ak:=a0k hu 6
   have hy:x.kids[i]?= some (a5C x.kids):=by
    unfold a5C
    rw[← ha,zbf,zav (by omega)];rfl
   have ae:(x.kids.map a0h)[i]?= some (a0h (a5C x.kids)):=a0y a0h hy
   have ab:=hk _ (zbc hy)
   have q:b04 g x.kids t=bif decide (a0j u 6=1) then ((args,true,a2f),a0g u 6) else ((args,false,(g (a5C x.kids) (a0g u 6)).1),(g (a5C x.kids) (a0g u 6)).2):=by
    unfold b04;rw[← ha,hq]
   cases hc:decide (a0j u 6=1) with
   |true=>
    rw[hc] at q
    simp only[zaa] at q
    refine xD (Gh.fz 900) ?_
    simp only[go_sem,lB]
    repeat'(first|simp only[go_sem,pin,ad,hc,ah,lB,c3f]<;>refine nf ?_|refine stp ?_;intro K hK|apply hK;clear hK K|refine stn ?_|(with_reducible (refine⟨(by first|omega|(simp only[lA,lB,lQ,za1,lC,lD,za4];omega):_≤_),?_⟩))|(refine⟨1000000,_,_,_,a0u 1000000 u hu 6 (by omega),rfl,?_⟩)|refine stq ?_|clear hK K)
    all_goals(refine⟨(m,(b04 g x.kids t).2,aa++[(b04 g x.kids t).1]),by simp only;omega,⟨by simp;omega,b6d hg _ ht,hp⟩,?_⟩)
    all_goals(rw[q];exact Gh.tt [(901,64)])
   |false=>
    rw[hc] at q
    simp only[zab] at q
    refine xD (Gh.fz 900) ?_
    simp only[go_sem,lB]
    repeat'(first|simp only[go_sem,pin,ad,hc,hw,ah,lB,a0d,c3g]<;>refine nf ?_|refine stp ?_;intro K hK|apply hK;clear hK K|refine stn ?_|(with_reducible first|refine⟨(by omega:_≤_),a0h (a5C x.kids),ae,?_⟩|(refine⟨(by first|omega|(simp only[lA,lB,lQ,za1,lC,lD,za4];omega):_≤_),?_⟩))|(refine⟨1000000,_,_,_,a0u 1000000 u hu 6 (by omega),rfl,?_⟩)|(refine⟨1000000,_,_,_,H.k 1000000 (a5C x.kids) _ ak ab.1 ab.2,rfl,?_⟩)|(with_reducible refine xA (id:=13) [9,11] [1000000,12] mixed (by kernel_rfl) fun K hK=>?_;simp only[Bx.outs,Bx.drop,zaa,zab,Nat.reduceBEq,go_sem])|refine stq ?_|clear hK K)
    all_goals(refine⟨(m,(b04 g x.kids t).2,aa++[(b04 g x.kids t).1]),by simp only;omega,⟨by simp;omega,b6d hg _ ht,hp⟩,?_⟩)
    all_goals(rw[q];exact Gh.tt [(901,64)])
  ·have ad:decide ((i:Int)<(a:Int))=true:=by rw[zan];omega
   have an:IntKind.i64.wrap ((i:Int)+1)=((i+1:Nat):Int):=by rw[w64 (by omega)];rfl
   have am:i<(x.kids.take a).length:=by rw[lQ];omega
   obtain⟨y,ai⟩:∃ y,y=x.kids[i]'(by omega):=⟨_,rfl⟩
   have hd:(x.kids.take a).drop i=y::(x.kids.take a).drop (i+1):=by
    rw[za8 am,List.getElem_take,ai]
   have hy:x.kids[i]?= some y:=by rw[zav (by omega),ai]
   have ae:(x.kids.map a0h)[i]?= some (a0h y):=a0y a0h hy
   have ab:=hk _ (zbc hy)
   rw[hd,a9d] at hq
   repeat'(first|simp only[go_sem,pin,ad,hw,an,lB,a0d,a4y]<;>refine nf ?_|refine stp ?_;intro K hK|apply hK;clear hK K|refine stn ?_|(with_reducible first|refine⟨(by omega:_≤_),a0h y,ae,?_⟩|(refine⟨(by first|omega|(simp only[lA,lB,lQ,za1,lC,lD,za4];omega):_≤_),?_⟩))|(refine⟨1000000,_,_,_,H.k 1000000 y u hu ab.1 ab.2,rfl,?_⟩)|(with_reducible refine AWP.genR2 (id:=10) [11,13,15] [1000000,12,900] [1] 15 [1000000,900] mixed (by kernel_rfl) fun K hK=>?_;simp only[Bx.outs,Bx.drop,zaa,zab,Nat.reduceBEq,go_sem])|clear hK K)
   all_goals(refine⟨(i+1,(g y u).2,args++[(g y u).1]),by simp only;omega,⟨by simp only;omega,by simp[ag],hg _ _ hu,hq⟩,Gh.tt [(900,44)]⟩)
 |zero=>
  rw[a1a,zbq] at hp
  have h0:decide ((0:Int)<((0:Nat):Int))=false:=by simp
  have af:=a8z ((x.kids.length:Int)-1) aa (by omega)
  rw[show (x.kids.length:Int)-1=(a:Int) by omega] at af
  refine xD (Gh.fz 901) ?_
  simp only[go_sem,lB]
  have e:a3U g x s=(bif decide ((fnV (a:Int) aa).2=0) then (fnV (a:Int) aa).1 else a0W,t):=by
   unfold a3U;rw[hp,show (x.kids.length:Int)-1=(a:Int) by omega]
  cases hm:decide ((fnV (a:Int) aa).2=0)
  all_goals
   repeat'(first|simp only[go_sem,pin,h0,hm]<;>refine nf ?_|refine stp ?_;intro K hK|apply hK;clear hK K|refine stn ?_|(with_reducible first|refine⟨_,af,?_⟩|refine⟨_,a1r,?_⟩)|refine stq ?_|clear hK K)
  all_goals(simp only[e,hm,zaa,zab])
  all_goals(first|exact⟨rfl,fun x hx=>by simp only[lN] at hx;subst hx;simp[pin]⟩|exact⟨trivial,fun x hx=>by simp only[lN] at hx;subst hx;simp[pin]⟩|(intro x hx;simp only[lN] at hx;subst hx;simp[pin])|fail)
def midV (a b:Int):Int:=IntKind.i64.wrap (a+IntKind.i64.wrap (IntKind.i64.wrap (b.tdiv 2)-IntKind.i64.wrap (a.tdiv 2)))
def c0s (a b:Int):List Int:=[a,b,midV a b]
def b6e:List Val→Val
  |[a,b]=>a1x a (bif decide (b.kind=7) then b else a0W)
  |l=>⟨7,0,[],l,[],[],[]⟩
def c0t (l:List NodeD) (v:Val) (k:Int):Val:=bif decide ((l.getD k.toNat (a1c 1)).kind=19) then { v with labels:=a0M (v.labels++[(l.getD k.toNat (a1c 1)).text]) } else v
def b05 (ks:List Int) (s:Src):Int:=ks.getD (a0j s ks.length).toNat 0
def a1Y (l:List NodeD) (g nx:Int→Src→Val×Src) (x:NodeD) (s:Src):Val×Src:=
  bif decide (x.kind=3) then (a3j ((c0s x.lo x.hi).getD (a0j s 3).toNat 0),a0g s 3) else
  bif decide (x.kind=4) then (a6p x.text,s) else
  bif decide (x.kind=5) then (a6p (b1q s),a0g s 4) else
  bif decide (x.kind=6) then (a4j x.text,s) else
  bif decide (x.kind=7) then (a4j (a8S s),a0g s 4) else
  bif decide (x.kind=8) then (b4e (a0j s 2),a0g s 2) else
  bif decide (x.kind=9) then (a0W,s) else
  bif decide (x.kind=10) then (a1m (a3h g x.kids s).1,(a3h g x.kids s).2) else
  bif decide (x.kind=12) then (b6e (a3h g x.kids s).1,(a3h g x.kids s).2) else
  bif decide (x.kind=13) then a3x g x s else
  bif decide (x.kind=14) then a3U g x s else
  bif decide (x.kind=16) then nx (b05 x.kids s) (a0g s x.kids.length) else
  bif decide (x.kind=17) then (x.kids.foldl (c0t l) (nx (b05 x.kids s) (a0g s x.kids.length)).1,(nx (b05 x.kids s) (a0g s x.kids.length)).2) else
  bif decide (x.kind=19) then ({ (a31 s).1 with labels:=a0M [x.text] },(a31 s).2) else a0D 2 s
def a1b (l:List NodeD) (r:Int) (G:Src→Val×Src) (h k:Nat) (s:Src):Prop:=
  PCB zP 83 [Sp pin,Tt l r,I .i64 (k:Int),I .i64 ((h+1:Nat):Int)] [(pin,a00 s)] (Vt (G s).1) [(pin,a00 (G s).2)]
theorem b06 (v:Val) (ls:List (List UInt8)) (hl:ls.length≤1000000):PC zP 143 [Vt v, .one (.dat (.sl 1 (ls.map Sx.encStr)))] (Vt { v with labels:=a0M ls }):=by
  refine PCB.ob Tryz.func143 Tryz.ntmps143 Tryz.results143 ?_
  repeat'(first|simp only[go_sem,a0a,lB]<;>refine nf ?_|refine stp ?_;intro K hK|apply hK;clear hK K|refine stn ?_|(with_reducible refine⟨_,a5c ls hl,?_⟩)|refine stq ?_|fail)
  all_goals(refine a0m ?_;rw[Vt,a0a])
theorem c6V (l:List NodeD) (r:Int) (g nx:Int→Src→Val×Src) (h:Nat) (hh:h≤1000) (ae:l.length≤1000) (x:NodeD) (k:Nat) (hx:l[k]?= some x) (hk:x.kind=3) (s:Src) (hs:s.ok):a1b l r (a1Y l g nx x) h k s:=by
  have q:=a0y a0e hx
  have af:k<l.length:=(zak.1 hx).1
  have aa:decide (((h+1:Nat):Int)≤0)=false:=by rw[zah];omega
  have u:decide ((k:Int)<0)=false:=by rw[zah];omega
  have ad:decide ((l.length:Int)≤(k:Int))=false:=by rw[zah];omega
  have h3:=a0p s (n:=3) (by omega)
  have ab:=a4Y (fun x=>[C.int .i64 x]) (c0s x.lo x.hi) 0 (v:=a0j s 3) ⟨h3.1,by show _<(3:Int);omega⟩
  unfold a1b a1Y
  simp only[hk,Int.reduceEq,zac,zad,zaa,zab]
  refine PCB.ob Tryz.func83 Tryz.ntmps83 Tryz.results83 ?_
  repeat'(first|simp only[go_sem,pin,aa,u,ad,hk,lB,a0d]<;>refine nf ?_|refine stp ?_;intro K hK|apply hK;clear hK K|refine stn ?_|(with_reducible first|refine⟨by omega,a0e x,q,?_⟩|refine⟨_,a95 ((c0s x.lo x.hi).getD (a0j s 3).toNat 0),?_⟩)|(refine⟨1000000,_,_,_,a0u 1000000 s hs 3 (by omega),rfl,?_⟩)|( refine⟨by omega,?_⟩)|( refine⟨_,ab,?_⟩)|(with_reducible refine xA (id:=7) [16,20] [1000000,8] mixed (by kernel_rfl) fun K hK=>?_;simp only[Bx.outs,Bx.drop,zaa,zab,Nat.reduceBEq,go_sem])|clear hK K)
  all_goals first|exact⟨rfl,fun x hx=>by simp only[lN] at hx;subst hx;simp[pin]⟩|exact⟨trivial,fun x hx=>by simp only[lN] at hx;subst hx;simp[pin]⟩|(intro x hx;simp only[lN] at hx;subst hx;simp[pin])|(refine⟨by simp only[a0a]<;>rfl,fun x hx=>by simp only[lN] at hx;subst hx;simp[pin]⟩)|fail
theorem c6W (l:List NodeD) (r:Int) (g nx:Int→Src→Val×Src) (h:Nat) (hh:h≤1000) (ad:l.length≤1000) (x:NodeD) (k:Nat) (hx:l[k]?= some x) (hk:x.kind=4) (s:Src) (hs:s.ok):a1b l r (a1Y l g nx x) h k s:=by
  have q:=a0y a0e hx
  have ae:k<l.length:=(zak.1 hx).1
  have aa:decide (((h+1:Nat):Int)≤0)=false:=by rw[zah];omega
  have u:decide ((k:Int)<0)=false:=by rw[zah];omega
  have ab:decide ((l.length:Int)≤(k:Int))=false:=by rw[zah];omega
  unfold a1b a1Y
  simp only[hk,Int.reduceEq,zac,zad,zaa,zab]
  refine PCB.ob Tryz.func83 Tryz.ntmps83 Tryz.results83 ?_
  repeat'(first|simp only[go_sem,pin,aa,u,ab,hk,lB,a0d]<;>refine nf ?_|refine stp ?_;intro K hK|apply hK;clear hK K|refine stn ?_|(with_reducible first|refine⟨by omega,a0e x,q,?_⟩|refine⟨_,a59 x.text,?_⟩)|refine stq ?_|clear hK K)
  all_goals first|exact⟨rfl,fun x hx=>by simp only[lN] at hx;subst hx;simp[pin]⟩|exact⟨trivial,fun x hx=>by simp only[lN] at hx;subst hx;simp[pin]⟩|(intro x hx;simp only[lN] at hx;subst hx;simp[pin])|(refine⟨by simp only[a0a]<;>rfl,fun x hx=>by simp only[lN] at hx;subst hx;simp[pin]⟩)|fail
theorem c6X (l:List NodeD) (r:Int) (g nx:Int→Src→Val×Src) (h:Nat) (hh:h≤1000) (ad:l.length≤1000) (x:NodeD) (k:Nat) (hx:l[k]?= some x) (hk:x.kind=5) (s:Src) (hs:s.ok):a1b l r (a1Y l g nx x) h k s:=by
  have q:=a0y a0e hx
  have ae:k<l.length:=(zak.1 hx).1
  have aa:decide (((h+1:Nat):Int)≤0)=false:=by rw[zah];omega
  have u:decide ((k:Int)<0)=false:=by rw[zah];omega
  have ab:decide ((l.length:Int)≤(k:Int))=false:=by rw[zah];omega
  unfold a1b a1Y
  simp only[hk,Int.reduceEq,zac,zad,zaa,zab]
  refine PCB.ob Tryz.func83 Tryz.ntmps83 Tryz.results83 ?_
  repeat'(first|simp only[go_sem,pin,aa,u,ab,hk,lB,a0d]<;>refine nf ?_|refine stp ?_;intro K hK|apply hK;clear hK K|refine stn ?_|(with_reducible first|refine⟨by omega,a0e x,q,?_⟩|refine⟨_,a59 (b1q s),?_⟩)|(refine⟨1000000,_,_,_,b2M 1000000 s hs,rfl,?_⟩)|refine stq ?_|clear hK K)
  all_goals first|exact⟨rfl,fun x hx=>by simp only[lN] at hx;subst hx;simp[pin]⟩|exact⟨trivial,fun x hx=>by simp only[lN] at hx;subst hx;simp[pin]⟩|(intro x hx;simp only[lN] at hx;subst hx;simp[pin])|(refine⟨by simp only[a0a]<;>rfl,fun x hx=>by simp only[lN] at hx;subst hx;simp[pin]⟩)|fail
theorem c6Y (l:List NodeD) (r:Int) (g nx:Int→Src→Val×Src) (h:Nat) (hh:h≤1000) (ad:l.length≤1000) (x:NodeD) (k:Nat) (hx:l[k]?= some x) (hk:x.kind=6) (s:Src) (hs:s.ok):a1b l r (a1Y l g nx x) h k s:=by
  have q:=a0y a0e hx
  have ae:k<l.length:=(zak.1 hx).1
  have aa:decide (((h+1:Nat):Int)≤0)=false:=by rw[zah];omega
  have u:decide ((k:Int)<0)=false:=by rw[zah];omega
  have ab:decide ((l.length:Int)≤(k:Int))=false:=by rw[zah];omega
  unfold a1b a1Y
  simp only[hk,Int.reduceEq,zac,zad,zaa,zab]
  refine PCB.ob Tryz.func83 Tryz.ntmps83 Tryz.results83 ?_
  repeat'(first|simp only[go_sem,pin,aa,u,ab,hk,lB,a0d]<;>refine nf ?_|refine stp ?_;intro K hK|apply hK;clear hK K|refine stn ?_|(with_reducible first|refine⟨by omega,a0e x,q,?_⟩|refine⟨_,a7m x.text,?_⟩)|refine stq ?_|clear hK K)
  all_goals first|exact⟨rfl,fun x hx=>by simp only[lN] at hx;subst hx;simp[pin]⟩|exact⟨trivial,fun x hx=>by simp only[lN] at hx;subst hx;simp[pin]⟩|(intro x hx;simp only[lN] at hx;subst hx;simp[pin])|(refine⟨by simp only[a0a]<;>rfl,fun x hx=>by simp only[lN] at hx;subst hx;simp[pin]⟩)|fail
theorem c6Z (l:List NodeD) (r:Int) (g nx:Int→Src→Val×Src) (h:Nat) (hh:h≤1000) (ad:l.length≤1000) (x:NodeD) (k:Nat) (hx:l[k]?= some x) (hk:x.kind=7) (s:Src) (hs:s.ok):a1b l r (a1Y l g nx x) h k s:=by
  have q:=a0y a0e hx
  have ae:k<l.length:=(zak.1 hx).1
  have aa:decide (((h+1:Nat):Int)≤0)=false:=by rw[zah];omega
  have u:decide ((k:Int)<0)=false:=by rw[zah];omega
  have ab:decide ((l.length:Int)≤(k:Int))=false:=by rw[zah];omega
  unfold a1b a1Y
  simp only[hk,Int.reduceEq,zac,zad,zaa,zab]
  refine PCB.ob Tryz.func83 Tryz.ntmps83 Tryz.results83 ?_
  repeat'(first|simp only[go_sem,pin,aa,u,ab,hk,lB,a0d]<;>refine nf ?_|refine stp ?_;intro K hK|apply hK;clear hK K|refine stn ?_|(with_reducible first|refine⟨by omega,a0e x,q,?_⟩|refine⟨_,a7m (a8S s),?_⟩)|(refine⟨1000000,_,_,_,a4G 1000000 s hs,rfl,?_⟩)|refine stq ?_|clear hK K)
  all_goals first|exact⟨rfl,fun x hx=>by simp only[lN] at hx;subst hx;simp[pin]⟩|exact⟨trivial,fun x hx=>by simp only[lN] at hx;subst hx;simp[pin]⟩|(intro x hx;simp only[lN] at hx;subst hx;simp[pin])|(refine⟨by simp only[a0a]<;>rfl,fun x hx=>by simp only[lN] at hx;subst hx;simp[pin]⟩)|fail
theorem c60 (l:List NodeD) (r:Int) (g nx:Int→Src→Val×Src) (h:Nat) (hh:h≤1000) (ad:l.length≤1000) (x:NodeD) (k:Nat) (hx:l[k]?= some x) (hk:x.kind=8) (s:Src) (hs:s.ok):a1b l r (a1Y l g nx x) h k s:=by
  have q:=a0y a0e hx
  have ae:k<l.length:=(zak.1 hx).1
  have aa:decide (((h+1:Nat):Int)≤0)=false:=by rw[zah];omega
  have u:decide ((k:Int)<0)=false:=by rw[zah];omega
  have ab:decide ((l.length:Int)≤(k:Int))=false:=by rw[zah];omega
  unfold a1b a1Y
  simp only[hk,Int.reduceEq,zac,zad,zaa,zab]
  refine PCB.ob Tryz.func83 Tryz.ntmps83 Tryz.results83 ?_
  repeat'(first|simp only[go_sem,pin,aa,u,ab,hk,lB,a0d]<;>refine nf ?_|refine stp ?_;intro K hK|apply hK;clear hK K|refine stn ?_|(with_reducible first|refine⟨by omega,a0e x,q,?_⟩|refine⟨_,b7a (a0j s 2),?_⟩)|(refine⟨1000000,_,_,_,a0u 1000000 s hs 2 (by omega),rfl,?_⟩)|refine stq ?_|clear hK K)
  all_goals first|exact⟨rfl,fun x hx=>by simp only[lN] at hx;subst hx;simp[pin]⟩|exact⟨trivial,fun x hx=>by simp only[lN] at hx;subst hx;simp[pin]⟩|(intro x hx;simp only[lN] at hx;subst hx;simp[pin])|(refine⟨by simp only[a0a]<;>rfl,fun x hx=>by simp only[lN] at hx;subst hx;simp[pin]⟩)|fail
theorem c61 (l:List NodeD) (r:Int) (g nx:Int→Src→Val×Src) (h:Nat) (hh:h≤1000) (ad:l.length≤1000) (x:NodeD) (k:Nat) (hx:l[k]?= some x) (hk:x.kind=9) (s:Src) (hs:s.ok):a1b l r (a1Y l g nx x) h k s:=by
  have q:=a0y a0e hx
  have ae:k<l.length:=(zak.1 hx).1
  have aa:decide (((h+1:Nat):Int)≤0)=false:=by rw[zah];omega
  have u:decide ((k:Int)<0)=false:=by rw[zah];omega
  have ab:decide ((l.length:Int)≤(k:Int))=false:=by rw[zah];omega
  unfold a1b a1Y
  simp only[hk,Int.reduceEq,zac,zad,zaa,zab]
  refine PCB.ob Tryz.func83 Tryz.ntmps83 Tryz.results83 ?_
  repeat'(first|simp only[go_sem,pin,aa,u,ab,hk,lB,a0d]<;>refine nf ?_|refine stp ?_;intro K hK|apply hK;clear hK K|refine stn ?_|(with_reducible first|refine⟨by omega,a0e x,q,?_⟩|refine⟨_,a1r,?_⟩)|refine stq ?_|clear hK K)
  all_goals first|exact⟨rfl,fun x hx=>by simp only[lN] at hx;subst hx;simp[pin]⟩|exact⟨trivial,fun x hx=>by simp only[lN] at hx;subst hx;simp[pin]⟩|(intro x hx;simp only[lN] at hx;subst hx;simp[pin])|(refine⟨by simp only[a0a]<;>rfl,fun x hx=>by simp only[lN] at hx;subst hx;simp[pin]⟩)|fail
theorem c62 (l:List NodeD) (r:Int) (g nx:Int→Src→Val×Src) (h:Nat) (hh:h≤1000) (ad:l.length≤1000) (x:NodeD) (k:Nat) (hx:l[k]?= some x) (hk:x.kind=1) (s:Src) (hs:s.ok):a1b l r (a1Y l g nx x) h k s:=by
  have q:=a0y a0e hx
  have ae:k<l.length:=(zak.1 hx).1
  have aa:decide (((h+1:Nat):Int)≤0)=false:=by rw[zah];omega
  have u:decide ((k:Int)<0)=false:=by rw[zah];omega
  have ab:decide ((l.length:Int)≤(k:Int))=false:=by rw[zah];omega
  unfold a1b a1Y
  simp only[hk,Int.reduceEq,zac,zad,zaa,zab]
  refine PCB.ob Tryz.func83 Tryz.ntmps83 Tryz.results83 ?_
  repeat'(first|simp only[go_sem,pin,aa,u,ab,hk,lB,a0d]<;>refine nf ?_|refine stp ?_;intro K hK|apply hK;clear hK K|refine stn ?_|(with_reducible refine⟨by omega,a0e x,q,?_⟩)|(refine⟨1000000,_,_,_,(a0P 2 (by omega)).k 1000000 s hs,rfl,?_⟩)|refine stq ?_|fail)
  all_goals first|exact⟨rfl,fun x hx=>by simp only[lN] at hx;subst hx;simp[pin]⟩|exact⟨trivial,fun x hx=>by simp only[lN] at hx;subst hx;simp[pin]⟩|(intro x hx;simp only[lN] at hx;subst hx;simp[pin])|(refine⟨by simp only[a0a]<;>rfl,fun x hx=>by simp only[lN] at hx;subst hx;simp[pin]⟩)|fail
theorem c63 (l:List NodeD) (r:Int) (g nx:Int→Src→Val×Src) (h:Nat) (hh:h≤1000) (ad:l.length≤1000) (x:NodeD) (k:Nat) (hx:l[k]?= some x) (hk:x.kind=2) (s:Src) (hs:s.ok):a1b l r (a1Y l g nx x) h k s:=by
  have q:=a0y a0e hx
  have ae:k<l.length:=(zak.1 hx).1
  have aa:decide (((h+1:Nat):Int)≤0)=false:=by rw[zah];omega
  have u:decide ((k:Int)<0)=false:=by rw[zah];omega
  have ab:decide ((l.length:Int)≤(k:Int))=false:=by rw[zah];omega
  unfold a1b a1Y
  simp only[hk,Int.reduceEq,zac,zad,zaa,zab]
  refine PCB.ob Tryz.func83 Tryz.ntmps83 Tryz.results83 ?_
  repeat'(first|simp only[go_sem,pin,aa,u,ab,hk,lB,a0d]<;>refine nf ?_|refine stp ?_;intro K hK|apply hK;clear hK K|refine stn ?_|(with_reducible refine⟨by omega,a0e x,q,?_⟩)|(refine⟨1000000,_,_,_,(a0P 2 (by omega)).k 1000000 s hs,rfl,?_⟩)|refine stq ?_|fail)
  all_goals first|exact⟨rfl,fun x hx=>by simp only[lN] at hx;subst hx;simp[pin]⟩|exact⟨trivial,fun x hx=>by simp only[lN] at hx;subst hx;simp[pin]⟩|(intro x hx;simp only[lN] at hx;subst hx;simp[pin])|(refine⟨by simp only[a0a]<;>rfl,fun x hx=>by simp only[lN] at hx;subst hx;simp[pin]⟩)|fail
theorem c3h (l:List NodeD) (r:Int) (g nx:Int→Src→Val×Src) (h:Nat) (hh:h≤1000) (ad:l.length≤1000) (x:NodeD) (k:Nat) (hx:l[k]?= some x) (hk:x.kind=11) (s:Src) (hs:s.ok):a1b l r (a1Y l g nx x) h k s:=by
  have q:=a0y a0e hx
  have ae:k<l.length:=(zak.1 hx).1
  have aa:decide (((h+1:Nat):Int)≤0)=false:=by rw[zah];omega
  have u:decide ((k:Int)<0)=false:=by rw[zah];omega
  have ab:decide ((l.length:Int)≤(k:Int))=false:=by rw[zah];omega
  unfold a1b a1Y
  simp only[hk,Int.reduceEq,zac,zad,zaa,zab]
  refine PCB.ob Tryz.func83 Tryz.ntmps83 Tryz.results83 ?_
  repeat'(first|simp only[go_sem,pin,aa,u,ab,hk,lB,a0d]<;>refine nf ?_|refine stp ?_;intro K hK|apply hK;clear hK K|refine stn ?_|(with_reducible refine⟨by omega,a0e x,q,?_⟩)|(refine⟨1000000,_,_,_,(a0P 2 (by omega)).k 1000000 s hs,rfl,?_⟩)|refine stq ?_|fail)
  all_goals first|exact⟨rfl,fun x hx=>by simp only[lN] at hx;subst hx;simp[pin]⟩|exact⟨trivial,fun x hx=>by simp only[lN] at hx;subst hx;simp[pin]⟩|(intro x hx;simp only[lN] at hx;subst hx;simp[pin])|(refine⟨by simp only[a0a]<;>rfl,fun x hx=>by simp only[lN] at hx;subst hx;simp[pin]⟩)|fail
theorem c3i (l:List NodeD) (r:Int) (g nx:Int→Src→Val×Src) (h:Nat) (hh:h≤1000) (ad:l.length≤1000) (x:NodeD) (k:Nat) (hx:l[k]?= some x) (hk:x.kind=15) (s:Src) (hs:s.ok):a1b l r (a1Y l g nx x) h k s:=by
  have q:=a0y a0e hx
  have ae:k<l.length:=(zak.1 hx).1
  have aa:decide (((h+1:Nat):Int)≤0)=false:=by rw[zah];omega
  have u:decide ((k:Int)<0)=false:=by rw[zah];omega
  have ab:decide ((l.length:Int)≤(k:Int))=false:=by rw[zah];omega
  unfold a1b a1Y
  simp only[hk,Int.reduceEq,zac,zad,zaa,zab]
  refine PCB.ob Tryz.func83 Tryz.ntmps83 Tryz.results83 ?_
  repeat'(first|simp only[go_sem,pin,aa,u,ab,hk,lB,a0d]<;>refine nf ?_|refine stp ?_;intro K hK|apply hK;clear hK K|refine stn ?_|(with_reducible refine⟨by omega,a0e x,q,?_⟩)|(refine⟨1000000,_,_,_,(a0P 2 (by omega)).k 1000000 s hs,rfl,?_⟩)|refine stq ?_|fail)
  all_goals first|exact⟨rfl,fun x hx=>by simp only[lN] at hx;subst hx;simp[pin]⟩|exact⟨trivial,fun x hx=>by simp only[lN] at hx;subst hx;simp[pin]⟩|(intro x hx;simp only[lN] at hx;subst hx;simp[pin])|(refine⟨by simp only[a0a]<;>rfl,fun x hx=>by simp only[lN] at hx;subst hx;simp[pin]⟩)|fail
theorem c3j (l:List NodeD) (r:Int) (g nx:Int→Src→Val×Src) (h:Nat) (hh:h≤1000) (ad:l.length≤1000) (x:NodeD) (k:Nat) (hx:l[k]?= some x) (hk:x.kind=18) (s:Src) (hs:s.ok):a1b l r (a1Y l g nx x) h k s:=by
  have q:=a0y a0e hx
  have ae:k<l.length:=(zak.1 hx).1
  have aa:decide (((h+1:Nat):Int)≤0)=false:=by rw[zah];omega
  have u:decide ((k:Int)<0)=false:=by rw[zah];omega
  have ab:decide ((l.length:Int)≤(k:Int))=false:=by rw[zah];omega
  unfold a1b a1Y
  simp only[hk,Int.reduceEq,zac,zad,zaa,zab]
  refine PCB.ob Tryz.func83 Tryz.ntmps83 Tryz.results83 ?_
  repeat'(first|simp only[go_sem,pin,aa,u,ab,hk,lB,a0d]<;>refine nf ?_|refine stp ?_;intro K hK|apply hK;clear hK K|refine stn ?_|(with_reducible refine⟨by omega,a0e x,q,?_⟩)|(refine⟨1000000,_,_,_,(a0P 2 (by omega)).k 1000000 s hs,rfl,?_⟩)|refine stq ?_|fail)
  all_goals first|exact⟨rfl,fun x hx=>by simp only[lN] at hx;subst hx;simp[pin]⟩|exact⟨trivial,fun x hx=>by simp only[lN] at hx;subst hx;simp[pin]⟩|(intro x hx;simp only[lN] at hx;subst hx;simp[pin])|(refine⟨by simp only[a0a]<;>rfl,fun x hx=>by simp only[lN] at hx;subst hx;simp[pin]⟩)|fail
theorem c3k (l:List NodeD) (r:Int) (g nx:Int→Src→Val×Src) (h:Nat) (H:b1L l r g (h:Int)) (hg:∀ k s,s.ok→(g k s).2.ok) (hh:h≤1000) (ae:l.length≤1000) (x:NodeD) (k:Nat) (hx:l[k]?= some x) (hk:x.kind=13) (hf:∀ f∈x.fields,0≤f.node∧f.node<(l.length:Int)) (q:x.fields.length≤1000) (h0:0≤x.r0∧x.r0<(l.length:Int)) (h1:0≤x.r1∧x.r1<(l.length:Int)) (s:Src) (hs:s.ok):a1b l r (a1Y l g nx x) h k s:=by
  have u:=a0y a0e hx
  have af:k<l.length:=(zak.1 hx).1
  have ab:decide (((h+1:Nat):Int)≤0)=false:=by rw[zah];omega
  have aa:decide ((k:Int)<0)=false:=by rw[zah];omega
  have ad:decide ((l.length:Int)≤(k:Int))=false:=by rw[zah];omega
  have hM:a1k zP 141 [Sp 1000000, .st [.sl 8 (l.map a0e), .int .i64 r], .st [.int .i64 13, .int .i64 x.lo, .int .i64 x.hi, .str x.text, .sl 1 (x.kids.map a0h), .sl 4 (x.fields.map a0o), .int .i64 x.r0, .int .i64 x.r1],I .i64 ((h+1:Nat):Int)] 1000000 (a00 s) (Vt (a3x g x s).1) (a00 (a3x g x s).2):=by rw[← hk];exact a1k.mk 1000000 (c0q l r g h H hg hh x hf q h0 h1 s hs)
  unfold a1b a1Y
  simp only[hk,Int.reduceEq,zac,zad,zaa,zab]
  refine PCB.ob Tryz.func83 Tryz.ntmps83 Tryz.results83 ?_
  repeat'(first|simp only[go_sem,pin,ab,aa,ad,hk,lB,a0d]<;>refine nf ?_|refine stp ?_;intro K hK|apply hK;clear hK K|refine stn ?_|(with_reducible refine⟨by omega,a0e x,u,?_⟩)|(refine⟨1000000,_,_,_,hM,rfl,?_⟩)|refine stq ?_|clear hK K)
  all_goals first|exact⟨rfl,fun x hx=>by simp only[lN] at hx;subst hx;simp[pin]⟩|exact⟨trivial,fun x hx=>by simp only[lN] at hx;subst hx;simp[pin]⟩|(intro x hx;simp only[lN] at hx;subst hx;simp[pin])|(refine⟨by simp only[a0a]<;>rfl,fun x hx=>by simp only[lN] at hx;subst hx;simp[pin]⟩)|fail
theorem c3l (l:List NodeD) (r:Int) (g nx:Int→Src→Val×Src) (h:Nat) (H:b1L l r g (h:Int)) (hg:∀ k s,s.ok→(g k s).2.ok) (hh:h≤1000) (ag:l.length≤1000) (x:NodeD) (k:Nat) (hx:l[k]?= some x) (hk:x.kind=14) (aa:∀ k∈x.kids,0≤k∧k<(l.length:Int)) (ae:1≤x.kids.length) (af:x.kids.length≤1000) (s:Src) (hs:s.ok):a1b l r (a1Y l g nx x) h k s:=by
  have u:=a0y a0e hx
  have ah:k<l.length:=(zak.1 hx).1
  have ad:decide (((h+1:Nat):Int)≤0)=false:=by rw[zah];omega
  have ab:decide ((k:Int)<0)=false:=by rw[zah];omega
  have q:decide ((l.length:Int)≤(k:Int))=false:=by rw[zah];omega
  have hM:a1k zP 142 [Sp 1000000, .st [.sl 8 (l.map a0e), .int .i64 r], .st [.int .i64 14, .int .i64 x.lo, .int .i64 x.hi, .str x.text, .sl 1 (x.kids.map a0h), .sl 4 (x.fields.map a0o), .int .i64 x.r0, .int .i64 x.r1],I .i64 ((h+1:Nat):Int)] 1000000 (a00 s) (Vt (a3U g x s).1) (a00 (a3U g x s).2):=by rw[← hk];exact a1k.mk 1000000 (c0r l r g h H hg hh x aa ae af s hs)
  unfold a1b a1Y
  simp only[hk,Int.reduceEq,zac,zad,zaa,zab]
  refine PCB.ob Tryz.func83 Tryz.ntmps83 Tryz.results83 ?_
  repeat'(first|simp only[go_sem,pin,ad,ab,q,hk,lB,a0d]<;>refine nf ?_|refine stp ?_;intro K hK|apply hK;clear hK K|refine stn ?_|(with_reducible refine⟨by omega,a0e x,u,?_⟩)|(refine⟨1000000,_,_,_,hM,rfl,?_⟩)|refine stq ?_|clear hK K)
  all_goals first|exact⟨rfl,fun x hx=>by simp only[lN] at hx;subst hx;simp[pin]⟩|exact⟨trivial,fun x hx=>by simp only[lN] at hx;subst hx;simp[pin]⟩|(intro x hx;simp only[lN] at hx;subst hx;simp[pin])|(refine⟨by simp only[a0a]<;>rfl,fun x hx=>by simp only[lN] at hx;subst hx;simp[pin]⟩)|fail
theorem b4s {α:Type} {l:List α} {d:α} {v:Int} (h:0≤v∧v<(l.length:Int)):l.getD v.toNat d∈l:=by
  have hv:v.toNat<l.length:=by omega
  rw[zbf,zav hv]
  exact zcd hv
theorem c3m (l:List NodeD) (r:Int) (g nx:Int→Src→Val×Src) (h:Nat) (hh:h≤1000) (af:l.length≤1000) (x:NodeD) (k:Nat) (hx:l[k]?= some x) (hk:x.kind=16) (ag:∀ k∈x.kids,0≤k∧k<(l.length:Int)) (ah:1≤x.kids.length) (aj:x.kids.length≤1000) (Hn:∀ k:Int,k∈x.kids→∀ s:Src,s.ok→PCB zP 83 [Sp pin,Tt l r,I .i64 k,I .i64 ((h+1:Nat):Int)] [(pin,a00 s)] (Vt (nx k s).1) [(pin,a00 (nx k s).2)]) (s:Src) (hs:s.ok):a1b l r (a1Y l g nx x) h k s:=by
  have u:=a0y a0e hx
  have ai:k<l.length:=(zak.1 hx).1
  have ab:decide (((h+1:Nat):Int)≤0)=false:=by rw[zah];omega
  have aa:decide ((k:Int)<0)=false:=by rw[zah];omega
  have ae:decide ((l.length:Int)≤(k:Int))=false:=by rw[zah];omega
  have hv:=a0p s (n:=(x.kids.length:Int)) (by omega)
  have hp:b05 x.kids s∈x.kids:=b4s hv
  have q:=a0k hs (x.kids.length:Int)
  have ad:=a4Y a0h x.kids 0 hv
  have hM:=a1k.mk 1000000 (Hn _ hp _ q)
  unfold a1b a1Y
  simp only[hk,Int.reduceEq,zac,zad,zaa,zab]
  refine PCB.ob Tryz.func83 Tryz.ntmps83 Tryz.results83 ?_
  repeat'(first|simp only[go_sem,pin,ab,aa,ae,hk,lB,a0d]<;>refine nf ?_|refine stp ?_;intro K hK|apply hK;clear hK K|refine stn ?_|(with_reducible refine⟨by omega,a0e x,u,?_⟩)|(refine⟨1000000,_,_,_,a0u 1000000 s hs (x.kids.length:Int) (by omega),rfl,?_⟩)|( refine⟨(by omega:_≤_),_,ad,?_⟩)|(refine⟨1000000,_,_,_,hM,rfl,?_⟩)|(with_reducible refine xA (id:=37) [8,12,13] [1000000,1000000,8] mixed (by kernel_rfl) fun K hK=>?_;simp only[Bx.outs,Bx.drop,zaa,zab,Nat.reduceBEq,go_sem])|clear hK K)
  all_goals first|exact⟨rfl,fun x hx=>by simp only[lN] at hx;subst hx;simp[pin]⟩|exact⟨trivial,fun x hx=>by simp only[lN] at hx;subst hx;simp[pin]⟩|(intro x hx;simp only[lN] at hx;subst hx;simp[pin])|(refine⟨by simp only[a0a]<;>rfl,fun x hx=>by simp only[lN] at hx;subst hx;simp[pin]⟩)|fail
theorem c3n (l:List NodeD) (r:Int) (g nx:Int→Src→Val×Src) (h:Nat) (hh:h≤1000) (ad:l.length≤1000) (x:NodeD) (k:Nat) (hx:l[k]?= some x) (hk:x.kind=19) (s:Src) (hs:s.ok):a1b l r (a1Y l g nx x) h k s:=by
  have q:=a0y a0e hx
  have ae:k<l.length:=(zak.1 hx).1
  have aa:decide (((h+1:Nat):Int)≤0)=false:=by rw[zah];omega
  have u:decide ((k:Int)<0)=false:=by rw[zah];omega
  have ab:decide ((l.length:Int)≤(k:Int))=false:=by rw[zah];omega
  have af:=a4N hs
  have hW:PC zP 143 [.st (a0c (a31 s).1), .one (.dat (.sl 1 [[C.str x.text]]))] (Vt { (a31 s).1 with labels:=a0M [x.text] }):=b06 (a31 s).1 [x.text] (by simp)
  unfold a1b a1Y
  simp only[hk,Int.reduceEq,zac,zad,zaa,zab]
  refine PCB.ob Tryz.func83 Tryz.ntmps83 Tryz.results83 ?_
  repeat'(first|simp only[go_sem,pin,aa,u,ab,hk,lB,a0d]<;>refine nf ?_|refine stp ?_;intro K hK|apply hK;clear hK K|refine stn ?_|(with_reducible first|refine⟨by omega,a0e x,q,?_⟩|refine⟨_,hW,?_⟩)|(refine⟨1000000,_,_,_,b0G 1000000 s hs,rfl,?_⟩)|(with_reducible refine xA (id:=47) [1,6] [1000000,8] mixed (by kernel_rfl) fun K hK=>?_;simp only[Bx.outs,Bx.drop,zaa,zab,Nat.reduceBEq,go_sem])|clear hK K)
  all_goals first|exact⟨rfl,fun x hx=>by simp only[lN] at hx;subst hx;simp[pin]⟩|exact⟨trivial,fun x hx=>by simp only[lN] at hx;subst hx;simp[pin]⟩|(intro x hx;simp only[lN] at hx;subst hx;simp[pin])|(refine⟨by simp only[a0a]<;>rfl,fun x hx=>by simp only[lN] at hx;subst hx;simp[pin]⟩)|fail
end Go.Proofs.YtoelgackkclcmaaGreat

