/- Lemmas. -/
import Derived.Test.YtoelgackkclcmaaGreatPc8
open Go.Proofs.Tryz renaming prog→zP
open List renaming length_map→lB
open Bool renaming not_eq_true'→zM,not_eq_false'→zN
set_option linter.unusedSimpArgs false
set_option linter.unusedVariables false
set_option maxRecDepth 20000
set_option maxHeartbeats 64000000
namespace Go.Proofs.YtoelgackkclcmaaGreat
open Go Go.Sx
def a8e (l:List NodeD) (k:Int):Bool:=decide (k<0)||decide ((l.length:Int)≤k)
def a2Q (x:NodeD):Bool:=a7e (a5l x.kind) x
def a2P (l:List NodeD) (x:NodeD):Bool:=a2Q x&&(a0G x&&(edgeL x).all fun e=>!a8e l e)
def wfP (l:List NodeD) (r:Int):Int:=bif a8e l r then 1 else bif l.all (a2P l) then (bif a8W l then 0 else 3) else 1
structure TSm (l:List NodeD):Prop where
  len:l.length≤1000000
  kids:∀ x∈l,x.kids.length≤1000000
  fields:∀ x∈l,x.fields.length≤1000000
theorem a8c (x:NodeD):PC zP 175 [.st [.int .i64 x.kind, .int .i64 x.lo, .int .i64 x.hi, .str x.text, .sl 1 (x.kids.map a0h), .sl 4 (x.fields.map a0o), .int .i64 x.r0, .int .i64 x.r1]] (Bo (a2Q x)):=b6Y x
theorem b1F (x:NodeD):PC zP 176 [.st [.int .i64 x.kind, .int .i64 x.lo, .int .i64 x.hi, .str x.text, .sl 1 (x.kids.map a0h), .sl 4 (x.fields.map a0o), .int .i64 x.r0, .int .i64 x.r1]] (Bo (a0G x)):=b1E x
theorem c8d (x:NodeD) (hk:x.kids.length≤1000000) (hf:x.fields.length≤1000000):PC zP 177 [.st [.int .i64 x.kind, .int .i64 x.lo, .int .i64 x.hi, .str x.text, .sl 1 (x.kids.map a0h), .sl 4 (x.fields.map a0o), .int .i64 x.r0, .int .i64 x.r1]] (IsP (edgeL x)):=c8c x hk hf
theorem a0R {α:Type} {p:α→Bool} {l:List α} {k:Nat} {x:α} (h:l[k]?= some x):(l.take (k+1)).all p=((l.take k).all p&&p x):=by
  obtain⟨hk,e⟩:=zak.1 h
  rw[zdb hk,zcs,e]
  simp
theorem a14 {α:Type} {p:α→Bool} {l:List α} {x:α} (h:x∈l) (hp:p x=false):l.all p=false:=by
  cases hl:l.all p
  · rfl
  · have:=za0.1 hl x h;rw[hp] at this;cases this
theorem b2S {l:List NodeD} (h:l.all (a2P l)=true):InR l:=by
  intro x hx k hk
  have h1:=za0.1 h x hx
  simp only[a2P,zag] at h1
  have h2:=za0.1 h1.2.2 k (by unfold edgeL;simp[hk])
  simp only[a8e,zbm,zbx,zah] at h2
  omega
theorem a9V (l:List NodeD) (r:Int) (hl:TSm l):PC zP 122 [Tt l r] (I .i64 (wfP l r)):=by
 cases ho:a8e l r with
 |true=>
  have e:wfP l r=1:=by unfold wfP;rw[ho];rfl
  rw[e]
  cases h0:decide (r<0)
  ·have h1:decide ((l.length:Int)≤r)=true:=by unfold a8e at ho;rw[h0] at ho;exact ho
   refine PCB.ob Tryz.func122 Tryz.ntmps122 Tryz.results122 ?_
   repeat'(first|simp only[go_sem,lB,h0,h1]<;>refine nf ?_|refine stp ?_;intro K hK|apply hK;clear hK K|refine stn ?_|clear hK K)
   all_goals(first|exact fun _ h=>absurd h zaf|refine a0m ?_)
  ·
   refine PCB.ob Tryz.func122 Tryz.ntmps122 Tryz.results122 ?_
   repeat'(first|simp only[go_sem,lB,h0]<;>refine nf ?_|refine stp ?_;intro K hK|apply hK;clear hK K|refine stn ?_|clear hK K)
   all_goals(first|exact fun _ h=>absurd h zaf|refine a0m ?_)
 |false=>
  have h0:decide (r<0)=false:=by unfold a8e at ho;simp only[zbx] at ho;exact ho.1
  have h1:decide ((l.length:Int)≤r)=false:=by unfold a8e at ho;simp only[zbx] at ho;exact ho.2
  have e:wfP l r=bif l.all (a2P l) then (bif a8W l then 0 else 3) else 1:=by unfold wfP;rw[ho];rfl
  refine PCB.ob Tryz.func122 Tryz.ntmps122 Tryz.results122 ?_
  repeat'(first|simp only[go_sem,lB,h0,h1]<;>refine nf ?_|refine stp ?_;intro K hK|apply hK;clear hK K|refine stn ?_|fail)
  refine AWP.len 19 rfl fun af=>?_
  (try rw[lB] at af)
  refine AWP.range (S:=Unit) (l) a0e (fun k s=>(21,I .i64 (k:Nat))::[]) (fun k s=>[]) [1,19,20] [1] (fun k s=>(l.take k).all (a2P l)=true) (()) (by refine sts ?_;exact Gh.tt []) ?_ ?_ ?_
  ·simp
  ·intro k s x ak hx ai ad aa
   refine sts ?_
   have ab:=zbc hx
   have am:=a0R (p:=a2P l) hx
   rw[aa,zae] at am
   cases hp:a2Q x with
   |false=>
    have hn:a2P l x=false:=by unfold a2P;rw[hp];rfl
    repeat'(first|simp only[go_sem,lB,ad,hp,a0d]<;>refine nf ?_|refine stp ?_;intro K hK|apply hK;clear hK K|refine stn ?_|(with_reducible first|refine⟨by omega,a0e x,ai,?_⟩|refine⟨_,a8c x,?_⟩)|refine stq ?_|clear hK K)
    all_goals(refine a0m ?_;rw[e,a14 ab hn];rfl)
   |true=>
    cases hv:a0G x with
    |false=>
     have hn:a2P l x=false:=by unfold a2P;rw[hp,hv];rfl
     repeat'(first|simp only[go_sem,lB,ad,hp,hv,a0d]<;>refine nf ?_|refine stp ?_;intro K hK|apply hK;clear hK K|refine stn ?_|(with_reducible first|refine⟨by omega,a0e x,ai,?_⟩|refine⟨_,a8c x,?_⟩|refine⟨_,b1F x,?_⟩)|refine stq ?_|clear hK K)
     all_goals(refine a0m ?_;rw[e,a14 ab hn];rfl)
    |true=>
     have hn:a2P l x=(edgeL x).all fun e=>!a8e l e:=by unfold a2P;rw[hp,hv];rfl
     repeat'(first|simp only[go_sem,lB,ad,hp,hv,a0d]<;>refine nf ?_|refine stp ?_;intro K hK|apply hK;clear hK K|refine stn ?_|(with_reducible first|refine⟨by omega,a0e x,ai,?_⟩|refine⟨_,a8c x,?_⟩|refine⟨_,b1F x,?_⟩|refine⟨_,c8d x (hl.kids x ab) (hl.fields x ab),?_⟩)|refine stq ?_|fail)
     refine AWP.len 34 rfl fun ae=>?_
     (try rw[lB] at ae)
     refine AWP.range (S:=Unit) (edgeL x) a0h (fun k s=>(36,I .i64 (k:Nat))::[]) (fun k s=>[]) [1,19,20,21,34,35] [1] (fun k s=>((edgeL x).take k).all (fun e=>!a8e l e)=true) (()) (by refine sts ?_;exact Gh.tt []) ?_ ?_ ?_
     ·simp
     ·intro k2 s2 y ak hy al q u
      refine sts ?_
      have an:=zbc hy
      have ah:=a0R (p:=fun e=>!a8e l e) hy
      rw[u,zae] at ah
      cases g0:decide (y<0)
      ·cases g1:decide ((l.length:Int)≤y)
       ·have ag:a8e l y=false:=by unfold a8e;rw[g0,g1];rfl
        repeat'(first|simp only[go_sem,lB,q,g0,g1,a0h]<;>refine nf ?_|refine stp ?_;intro K hK|apply hK;clear hK K|refine stn ?_|(with_reducible refine⟨by omega,a0h y,al,?_⟩)|clear hK K)
        all_goals(rw[a0b ak ae])
        all_goals(refine⟨(),?_,Gh.tt []⟩)
        all_goals(rw[ah,ag];rfl)
       ·have ag:a8e l y=true:=by unfold a8e;rw[g0,g1];rfl
        have aj:a2P l x=false:=by rw[hn];exact a14 an (by rw[ag];rfl)
        repeat'(first|simp only[go_sem,lB,q,g0,g1,a0h]<;>refine nf ?_|refine stp ?_;intro K hK|apply hK;clear hK K|refine stn ?_|(with_reducible refine⟨by omega,a0h y,al,?_⟩)|clear hK K)
        all_goals(refine a0m ?_;rw[e,a14 ab aj];rfl)
      ·have ag:a8e l y=true:=by unfold a8e;rw[g0];rfl
       have aj:a2P l x=false:=by rw[hn];exact a14 an (by rw[ag];rfl)
       repeat'(first|simp only[go_sem,lB,q,g0,a0h]<;>refine nf ?_|refine stp ?_;intro K hK|apply hK;clear hK K|refine stn ?_|(with_reducible refine⟨by omega,a0h y,al,?_⟩)|clear hK K)
       all_goals(refine a0m ?_;rw[e,a14 ab aj];rfl)
     ·intro s2 q u
      refine sts ?_
      rw[zbh] at u
      rw[hn,u] at am
      repeat'(first|simp only[go_sem,lB,q]<;>refine nf ?_|refine stp ?_;intro K hK|apply hK;clear hK K|refine stn ?_|clear hK K)
      all_goals(rw[a0b ak af])
      all_goals(refine⟨(),?_,Gh.tt []⟩)
      all_goals exact am
  ·intro s ad aa
   refine sts ?_
   rw[zbh] at aa
   rw[aa,zaa] at e
   cases hc:a8W l
   ·
    repeat'(first|simp only[go_sem,lB,ad,hc]<;>refine nf ?_|refine stp ?_;intro K hK|apply hK;clear hK K|refine stn ?_|(with_reducible refine⟨_,a8X l r (b2S aa) hl.len,?_⟩)|refine stq ?_|clear hK K)
    all_goals(refine a0m ?_;rw[e,hc];rfl)
   ·
    repeat'(first|simp only[go_sem,lB,ad,hc]<;>refine nf ?_|refine stp ?_;intro K hK|apply hK;clear hK K|refine stn ?_|(with_reducible refine⟨_,a8X l r (b2S aa) hl.len,?_⟩)|refine stq ?_|clear hK K)
    all_goals(refine a0m ?_;rw[e,hc];rfl)
def inB (l:List NodeD) (k:Int):Bool:=decide (0≤k)&&decide (k<(l.length:Int))
theorem c2h (l:List NodeD) (k:Int):inB l k=!a8e l k:=by
  unfold inB a8e
  rw[← zbj]
  simp only[zag,zan,zbm,zbx,zah]
  omega
theorem c8e (l:List NodeD) (r k:Int):PC zP 98 [Tt l r,I .i64 k] (Bo (inB l k)):=by
  refine PCB.ob Tryz.func98 Tryz.ntmps98 Tryz.results98 ?_
  repeat'(first|simp only[go_sem,lB]<;>refine nf ?_|refine stp ?_;intro K hK|apply hK;clear hK K|refine stn ?_|(refine⟨fun h=>?_,fun h=>?_⟩<;>(try simp only[zM,zN] at h)<;>try simp only[h])|fail)
  all_goals(refine a0m ?_;simp only[inB, *, zae,zai])
theorem c2i (x:NodeD):PC zP 157 [Nt x] (Bo (a4Z x.kind)):=by
  refine PCB.ob Tryz.func157 Tryz.ntmps157 Tryz.results157 ?_
  repeat'(first|simp only[go_sem,a0d]<;>refine nf ?_|refine stp ?_;intro K hK|apply hK;clear hK K|refine stn ?_|(refine⟨fun h=>?_,fun h=>?_⟩<;>(try simp only[zM,zN] at h)<;>try simp only[h])|fail)
  all_goals(refine a0m ?_;simp only[a4Z, *, zap,zam,zaj,zaq])
def a1R (x:NodeD):Bool:=(!decide (x.kind=3)&&(!decide (x.lo=0)||!decide (x.hi=0)))||(!(decide (x.kind=4)||(decide (x.kind=6)||decide (x.kind=19)))&&!decide (x.text=[]))
def a12 (x:NodeD):Bool:=!decide (x.kind=13)&&(decide (0<(x.fields.length:Int))||!(decide (x.r0=0)&&decide (x.r1=0)))
def b9B (l:List NodeD):Option KeyD→List FieldD→Bool
  |_,[]=>true
  |p,f::fs=>bif (!inB l f.node||!a0l f.key)||(match p with|some k=>decide (a8T k f.key≥0)|none=>false) then false else b9B l (some f.key) fs
def a1S (l:List NodeD) (x:NodeD):Bool:=
  bif decide (x.kind=3) then decide ((x.kids.length:Int)=0)&&decide (x.lo≤x.hi) else
  bif decide (x.kind=4) then decide ((x.kids.length:Int)=0)&&decide ((x.text.length:Int)≤64) else
  bif decide (x.kind=6) then decide ((x.kids.length:Int)=0)&&a2G x.text else
  bif decide (x.kind=19) then decide ((x.kids.length:Int)=0)&&a0X x.text else
  bif decide (x.kind=1)||(decide (x.kind=2)||(decide (x.kind=5)||(decide (x.kind=7)||(decide (x.kind=8)||(decide (x.kind=9)||(decide (x.kind=11)||decide (x.kind=15))))))) then decide ((x.kids.length:Int)=0) else
  bif decide (x.kind=10) then decide ((x.kids.length:Int)≤4) else
  bif decide (x.kind=12) then decide ((x.kids.length:Int)=2) else
  bif decide (x.kind=14) then decide (1≤(x.kids.length:Int))&&decide ((x.kids.length:Int)≤5) else
  bif decide (x.kind=16)||decide (x.kind=17) then decide (1≤(x.kids.length:Int)) else
  bif decide (x.kind=18) then decide ((x.kids.length:Int)=1) else
  bif decide (x.kind=13) then (bif b9B l none x.fields then (decide ((x.kids.length:Int)=0)&&inB l x.r0)&&inB l x.r1 else false) else false
def a0F (l:List NodeD) (x:NodeD):Bool:=bif x.kids.all (inB l) then (bif a1R x then false else bif a12 x then false else a1S l x) else false
theorem a0C (l:List NodeD) (r k:Int):PC zP 98 [.st [.sl 8 (l.map a0e), .int .i64 r],I .i64 k] (Bo (inB l k)):=c8e l r k
theorem a3F (k:KeyD):PC zP 85 [.st [.int .i64 k.kind, .str k.text]] (Bo (a0l k)):=a2x k
theorem a6t (a b:KeyD):PC zP 86 [.st [.int .i64 a.kind, .str a.text], .st [.int .i64 b.kind, .str b.text]] (I .i64 (a8T a b)):=a8U a b
theorem c4B (l:List NodeD) (r:Int) (x:NodeD) (hk:x.kind=13):PC zP 156 [Tt l r,Nt x] (Bo (a0F l x)):=by
 refine PCB.ob Tryz.func156 Tryz.ntmps156 Tryz.results156 ?_
 repeat'(first|simp only[go_sem,lB,hk,a0d]<;>refine nf ?_|refine stp ?_;intro K hK|apply hK;clear hK K|refine stn ?_|fail)
 refine AWP.lenB 3 4 rfl rfl fun ag=>?_
 (try rw[lB] at ag)
 refine AWP.range (S:=Unit) (x.kids) a0h (fun k s=>(5,I .i64 (k:Nat))::[]) (fun k s=>[]) [2,3] [2,3] (fun k s=>(x.kids.take k).all (inB l)=true) (()) (by refine sts ?_;exact Gh.tt []) ?_ ?_ ?_
 ·simp
 ·intro k s y ai hy aa u q
  refine sts ?_
  have al:=a0R (p:=inB l) hy
  rw[q,zae] at al
  cases hi:inB l y
  ·
   repeat'(first|simp only[go_sem,lB,hk,u,hi,a0h]<;>refine nf ?_|refine stp ?_;intro K hK|apply hK;clear hK K|refine stn ?_|(with_reducible first|refine⟨by omega,a0h y,aa,?_⟩|refine⟨_,a0C l r y,?_⟩)|(refine a0J ?_;intro K hK)|clear hK K)
   all_goals(refine a0m ?_;rw[a0F,a14 (zbc hy) hi];rfl)
  ·
   repeat'(first|simp only[go_sem,lB,hk,u,hi,a0h]<;>refine nf ?_|refine stp ?_;intro K hK|apply hK;clear hK K|refine stn ?_|(with_reducible first|refine⟨by omega,a0h y,aa,?_⟩|refine⟨_,a0C l r y,?_⟩)|(refine a0J ?_;intro K hK)|clear hK K)
   all_goals(rw[a0b ai ag])
   all_goals(refine⟨(),?_,Gh.tt []⟩)
   all_goals(rw[al,hi])
 ·intro s u q
  refine sts ?_
  rw[zbh] at q
  have e:a0F l x=bif a1R x then false else bif a12 x then false else a1S l x:=by unfold a0F;rw[q];rfl
  cases ht:a1R x
  ·simp only[a1R,hk,Int.reduceEq,zad,zac,zar,zae,zaq,zbx,zde] at ht
   obtain⟨⟨ad,ae⟩,ah⟩:=ht
   have e2:a0F l x=a1S l x:=by rw[e];simp only[a1R,a12,hk,ad,ae,ah,Int.reduceEq,zad,zac,zat,zar,zaj,zaq,zae,zai,zab]
   have e3:a1S l x=bif b9B l none x.fields then (decide ((x.kids.length:Int)=0)&&inB l x.r0)&&inB l x.r1 else false:=by
    simp only[a1S,hk,Int.reduceEq,zad,zac,zaj,zaq,zaa,zab]
   repeat'(first|simp only[go_sem,lB,hk,u,ad,ae,ah]<;>refine nf ?_|refine stp ?_;intro K hK|apply hK;clear hK K|refine stn ?_|clear hK K)
   refine AWP.lenB 3 5 rfl rfl fun ab=>?_
   (try rw[lB] at ab)
   refine AWP.range (S:=Unit) (x.fields) a0o (fun k s=>(9,I .i64 (k:Nat))::[]) (fun k s=>[]) [2,3,8] [2,3] (fun k s=>Is (b9B l none x.fields) (b9B l (a91 x.fields k) (x.fields.drop k))) (()) (by refine sts ?_;exact Gh.tt []) ?_ ?_ ?_
   ·rfl
   ·intro k s y ai hy aa u q
    refine sts ?_
    have hd:x.fields.drop k=y::x.fields.drop (k+1):=by
     obtain⟨hk,e⟩:=zak.1 hy
     rw[za8 hk,e]
    have hn:a91 x.fields (k+1)=some y.key:=by simp only[a91,hy,Option.map_some]
    unfold Is at q
    rw[hd] at q
    by_cases aj:k=0
    ·have hg:decide ((0:Int)<(k:Int))=false:=by simp[aj]
     have am:a91 x.fields k=none:=by rw[aj];rfl
     rw[am] at q
     have af:b9B l none x.fields=bif !inB l y.node||!a0l y.key then false else b9B l (some y.key) (x.fields.drop (k+1)):=by rw[q];show (bif (!inB l y.node||!a0l y.key)||false then _ else _)=_;rw[zaj]
     cases hi:inB l y.node<;>rw[hi] at af
     ·
      repeat'(first|simp only[go_sem,lB,hk,u,hi,hg,encField_lit]<;>refine nf ?_|refine stp ?_;intro K hK|apply hK;clear hK K|refine stn ?_|(with_reducible first|refine⟨by omega,a0o y,aa,?_⟩|refine⟨_,a0C l r y.node,?_⟩)|(refine a0J ?_;intro K hK)|clear hK K)
      all_goals(refine a0m ?_;rw[e2,e3,af];rfl)
     ·cases hv:a0l y.key<;>rw[hv] at af
      ·
       repeat'(first|simp only[go_sem,lB,hk,u,hi,hv,hg,encField_lit]<;>refine nf ?_|refine stp ?_;intro K hK|apply hK;clear hK K|refine stn ?_|(with_reducible first|refine⟨by omega,a0o y,aa,?_⟩|refine⟨_,a0C l r y.node,?_⟩|refine⟨_,a3F y.key,?_⟩)|(refine a0J ?_;intro K hK)|clear hK K)
       all_goals(refine a0m ?_;rw[e2,e3,af];rfl)
      ·
       repeat'(first|simp only[go_sem,lB,hk,u,hi,hv,hg,encField_lit]<;>refine nf ?_|refine stp ?_;intro K hK|apply hK;clear hK K|refine stn ?_|(with_reducible first|refine⟨by omega,a0o y,aa,?_⟩|refine⟨_,a0C l r y.node,?_⟩|refine⟨_,a3F y.key,?_⟩)|(refine a0J ?_;intro K hK)|clear hK K)
       all_goals(rw[a0b ai ab])
       all_goals(refine⟨(),?_,Gh.tt []⟩)
       all_goals(rw[hn];exact af)
    ·have hg:decide ((0:Int)<(k:Int))=true:=by simp;omega
     obtain⟨j,rfl⟩:∃ j,k=j+1:=⟨k-1,by omega⟩
     obtain⟨z,hz⟩:∃ z,x.fields[j]?= some z:=⟨x.fields[j],zav (by omega)⟩
     have ak:=a0y a0o hz
     have hp:a91 x.fields (j+1)=some z.key:=by simp only[a91,hz,Option.map_some]
     rw[hp,b9B] at q
     have hw:IntKind.i64.wrap (((j+1:Nat):Int)-1)=(j:Int):=by rw[w64 (by omega)];omega
     obtain⟨k,an⟩:∃ k,k=j+1:=⟨_,rfl⟩
     simp only[← an] at*
     cases hi:inB l y.node<;>rw[hi] at q
     ·
      repeat'(first|simp only[go_sem,lB,hk,u,hi,hg,hw,encField_lit]<;>refine nf ?_|refine stp ?_;intro K hK|apply hK;clear hK K|refine stn ?_|(with_reducible first|refine⟨by omega,a0o y,aa,?_⟩|refine⟨_,a0C l r y.node,?_⟩)|(refine a0J ?_;intro K hK)|clear hK K)
      all_goals(refine a0m ?_;rw[e2,e3,q];rfl)
     ·cases hv:a0l y.key<;>rw[hv] at q
      ·
       repeat'(first|simp only[go_sem,lB,hk,u,hi,hv,hg,hw,encField_lit]<;>refine nf ?_|refine stp ?_;intro K hK|apply hK;clear hK K|refine stn ?_|(with_reducible first|refine⟨by omega,a0o y,aa,?_⟩|refine⟨_,a0C l r y.node,?_⟩|refine⟨_,a3F y.key,?_⟩)|(refine a0J ?_;intro K hK)|clear hK K)
       all_goals(refine a0m ?_;rw[e2,e3,q];rfl)
      ·cases hc:decide (a8T z.key y.key≥0)<;>rw[hc] at q
       ·
        repeat'(first|simp only[go_sem,lB,hk,u,hi,hv,hc,hw,hg,encField_lit]<;>refine nf ?_|refine stp ?_;intro K hK|apply hK;clear hK K|refine stn ?_|(with_reducible first|refine⟨by omega,a0o y,aa,?_⟩|refine⟨by omega,_,ak,?_⟩|refine⟨_,a0C l r y.node,?_⟩|refine⟨_,a3F y.key,?_⟩|refine⟨_,a6t z.key y.key,?_⟩)|(refine a0J ?_;intro K hK)|clear hK K)
        all_goals(rw[a0b ai ab])
        all_goals(refine⟨(),?_,Gh.tt []⟩)
        all_goals(rw[hn];exact q)
       ·
        repeat'(first|simp only[go_sem,lB,hk,u,hi,hv,hc,hw,hg,encField_lit]<;>refine nf ?_|refine stp ?_;intro K hK|apply hK;clear hK K|refine stn ?_|(with_reducible first|refine⟨by omega,a0o y,aa,?_⟩|refine⟨by omega,_,ak,?_⟩|refine⟨_,a0C l r y.node,?_⟩|refine⟨_,a3F y.key,?_⟩|refine⟨_,a6t z.key y.key,?_⟩)|(refine a0J ?_;intro K hK)|clear hK K)
        all_goals(refine a0m ?_;rw[e2,e3,q];rfl)
   ·intro s u q
    refine sts ?_
    unfold Is at q
    rw[zbw,b9B] at q
    rw[q,zaa] at e3
    repeat'(first|simp only[go_sem,lB,hk,u]<;>refine nf ?_|refine stp ?_;intro K hK|apply hK;clear hK K|refine stn ?_|(refine⟨fun h=>?_,fun h=>?_⟩<;>(try simp only[zM,zN] at h)<;>try simp only[h])|(with_reducible first|refine⟨_,a0C l r x.r0,?_⟩|refine⟨_,a0C l r x.r1,?_⟩)|refine stq ?_|clear hK K)
    all_goals(refine a0m ?_;rw[e2,e3];simp only[*, zae,zaw,zai,zay])
  ·have e2:a0F l x=false:=by rw[e,ht];rfl
   simp only[a1R,hk,Int.reduceEq,zad,zac,zar,zae,zaq] at ht
   cases ad:decide (x.lo=0)<;>rw[ad] at ht
   ·
    repeat'(first|simp only[go_sem,lB,hk,u,ad]<;>refine nf ?_|refine stp ?_;intro K hK|apply hK;clear hK K|refine stn ?_|clear hK K)
    all_goals(refine a0m ?_;rw[e2])
   ·cases ae:decide (x.hi=0)<;>rw[ae] at ht
    ·
     repeat'(first|simp only[go_sem,lB,hk,u,ad,ae]<;>refine nf ?_|refine stp ?_;intro K hK|apply hK;clear hK K|refine stn ?_|clear hK K)
     all_goals(refine a0m ?_;rw[e2])
    ·have ah:decide (x.text=[])=false:=by simpa using ht
     repeat'(first|simp only[go_sem,lB,hk,u,ad,ae,ah]<;>refine nf ?_|refine stp ?_;intro K hK|apply hK;clear hK K|refine stn ?_|clear hK K)
     all_goals(refine a0m ?_;rw[e2])
end Go.Proofs.YtoelgackkclcmaaGreat

