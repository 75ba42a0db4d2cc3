/- Lemmas. -/
import Derived.Test.YtoelgackkclcmaaGreatPc29
import Derived.Test.YtoelgackkclcmaaGreatPc35
open List renaming length_map→lB,mem_singleton→lN
open Go.Sx.AWP renaming genR→xA
open Bool renaming not_eq_true'→zM,not_eq_false'→zN
set_option linter.unusedSimpArgs false
set_option linter.unusedVariables false
set_option maxRecDepth 20000
set_option maxHeartbeats 64000000
namespace Go.Proofs.YtoelgackkclcmaaGreat
open Go Go.Sx
@[go_sem] theorem mp92:mpT Tryz.prog 114=some ([.int .i64 0, .int .i64 0, .str [], .nil 7, .nil 2, .nil 9, .nil 1],true):=by kernel_rfl
abbrev ME:=List (List UInt8×Val)
def b7T (m:ME):List (List UInt8×List C):=m.map fun p=>(p.1,a0c p.2)
def b1H (k:List UInt8) (v:Val):ME→ME
  |[]=>[(k,v)]
  |p::m=>bif decide (p.1=k) then (k,v)::m else p::b1H k v m
def b43 (k:List UInt8):ME→Option Val
  |[]=>none
  |p::m=>bif decide (p.1=k) then some p.2 else b43 k m
theorem b3G (k:List UInt8) (v:Val):∀ m:ME,b91 k (a0c v) (b7T m)=b7T (b1H k v m)
 |[]=>rfl
 |p::m=>by
  have ih:=b3G k v m
  unfold b7T at ih ⊢
  simp only[zau,b91,b1H]
  cases decide (p.1=k)
  ·simp only[zab,zau,ih]
  ·simp only[zaa,zau]
theorem b44 (k:List UInt8):∀ m:ME,a6u k (b7T m)=(b43 k m).map a0c
 |[]=>rfl
 |p::m=>by
  have ih:=b44 k m
  unfold b7T at ih ⊢
  simp only[zau,a6u,b43]
  cases decide (p.1=k)
  ·simp only[zab,ih]
  ·simp only[zaa,Option.map_some]
abbrev MR:=Bool×ME
def a3o (v:Val) (k:KeyD):Option Val:=
  bif decide (a1F (fun x=>a1t k x) 0 v.keys<0) then none else v.kids[(a1F (fun x=>a1t k x) 0 v.keys).toNat]?
mutual
def a0B:Pat→Val→ME→MR
 |⟨kind,num,text,kids,keys⟩,v,m=>
  bif decide (kind=1) then (true,m) else
  bif decide (kind=2) then (true,b1H text v m) else
  bif decide (kind=10) then c1D kids v (b1H text v m) else
  bif decide (kind=3) then (decide (v.kind=1)&&decide (v.num=num),m) else
  bif decide (kind=4) then (decide (v.kind=2)&&decide (v.text=text),m) else
  bif decide (kind=5) then (decide (v.kind=3)&&decide (v.text=text),m) else
  bif decide (kind=6) then (decide (v.kind=5),m) else
  bif decide (kind=7) then (bif decide (v.kind=6)&&decide (kids.length=v.kids.length) then a2j kids v.kids m else (false,m)) else
  bif decide (kind=8) then (bif decide (v.kind=7)&&decide (kids.length=v.kids.length) then a2j kids v.kids m else (false,m)) else
  bif decide (v.kind=8) then a13 keys kids v m else (false,m)
def c1D:List Pat→Val→ME→MR
  |[],_,m=>(false,m)
  |g::_,v,m=>a0B g v m
def a2j:List Pat→List Val→ME→MR
  |g::l,v::vs,m=>bif (a0B g v m).1 then a2j l vs (a0B g v m).2 else (false,(a0B g v m).2)
  |_,_,m=>(true,m)
def a13:List KeyD→List Pat→Val→ME→MR
 |k::ks,g::l,v,m=>match a3o v k with
  |some w=>bif (a0B g w m).1 then a13 ks l v (a0B g w m).2 else (false,(a0B g w m).2)
  |none=>(false,m)
 |_,_,_,m=>(true,m)
end
def b7U (g:Pat) (v:Val):Prop:=∀ m:ME,PCB Tryz.prog 75 [Pt g,Vt v, .one (.mp pin)] [(pin, .mp true (b7T m))] (Bo (a0B g v m).1) [(pin, .mp true (b7T (a0B g v m).2))]
theorem b6F {l:List Pat} {vs:List Val} {k:Nat} {g:Pat} {v:Val} {m:ME} (hg:l[k]?= some g) (hv:vs[k]?= some v):
  a2j (l.drop k) (vs.drop k) m=bif (a0B g v m).1 then a2j (l.drop (k+1)) (vs.drop (k+1)) (a0B g v m).2 else (false,(a0B g v m).2):=by
 obtain⟨h1,h2⟩:=zak.1 hg
 obtain⟨h3,h4⟩:=zak.1 hv
 rw[za8 h1,za8 h3,h2,h4,a2j]
theorem a9t (vs:List Val) (m:ME):a2j [] vs m=(true,m):=by cases vs<;>rfl
theorem b2G (l:List Pat) (vs:List Val) (m:ME) (hl:∀ g∈l,∀ v∈vs,b7U g v):
  PCB Tryz.prog 128 [.one (.dat (.sl 5 (l.map a1d))), .one (.dat (.sl 7 (vs.map a0c))), .one (.mp pin)] [(pin, .mp true (b7T m))]
   (Bo (bif decide (l.length=vs.length) then a2j l vs m else (false,m)).1) [(pin, .mp true (b7T (bif decide (l.length=vs.length) then a2j l vs m else (false,m)).2))]:=by
 by_cases ab:l.length=vs.length
 case neg=>
  have hd:decide ((l.length:Int)=(vs.length:Int))=false:=by simp only[zah];omega
  rw[zc6 ab]
  refine PCB.ob Tryz.func128 Tryz.ntmps128 Tryz.results128 ?_
  repeat'(first|simp only[go_sem,pin,lB,hd]<;>refine nf ?_|refine stp ?_;intro K hK|apply hK;clear hK K|refine stn ?_|clear hK K)
  all_goals((try refine⟨by first|trivial|rfl,?_⟩);intro q hq;simp only[lN] at hq;subst hq;simp)
 have hd:decide ((l.length:Int)=(vs.length:Int))=true:=by simp only[zan];omega
 rw[zbo ab,zaa]
 refine PCB.ob Tryz.func128 Tryz.ntmps128 Tryz.results128 ?_
 repeat'(first|simp only[go_sem,pin,lB,hd]<;>refine nf ?_|refine stp ?_;intro K hK|apply hK;clear hK K|refine stn ?_|fail)
 refine AWP.len 14 rfl fun aa=>?_
 (try rw[lB] at aa)
 refine AWP.range (S:=ME) (l) a1d (fun k s=>(16,I .i64 (k:Nat))::[]) (fun k s=>[(1000000, .mp true (b7T s))]) [1,2,14,15] [] (fun k s=>a2j l vs m=a2j (l.drop k) (vs.drop k) s) (m) (by simp only[go_sem,pin];exact Gh.tt []) ?_ ?_ ?_
 ·rfl
 ·intro k s x ag hx af hb u
  refine sts ?_
  obtain⟨v,hv,ae,_,_⟩:=a1A (enc:=a0c) (show k<vs.length by omega)
  have ad:=hl x (zbc hx) v (zbc hv) s
  rw[b6F hx hv] at u
  cases hz:(a0B x v s).1<;>rw[hz] at u ad<;>simp only[zaa,zab] at u
  ·
   repeat'(first|simp only[go_sem,pin,lB,hb,hz]<;>refine nf ?_|refine stp ?_;intro K hK|apply hK;clear hK K|refine stn ?_|(with_reducible first|refine⟨by omega,a1d x,af,?_⟩|refine⟨by omega,a0c v,ae,?_⟩)|(refine⟨1000000,_,_,_,a1k.mk 1000000 ad,rfl,?_⟩)|(with_reducible refine xA (id:=6) [6] [1000000] mixed (by kernel_rfl) fun K hK=>?_;simp only[Bx.outs,Bx.drop,zaa,zab,Nat.reduceBEq,go_sem])|clear hK K)
   all_goals(rw[u];(try refine⟨by first|trivial|rfl,?_⟩);intro q hq;simp only[lN] at hq;subst hq;simp)
  ·
   repeat'(first|simp only[go_sem,pin,lB,hb,hz]<;>refine nf ?_|refine stp ?_;intro K hK|apply hK;clear hK K|refine stn ?_|(with_reducible first|refine⟨by omega,a1d x,af,?_⟩|refine⟨by omega,a0c v,ae,?_⟩)|(refine⟨1000000,_,_,_,a1k.mk 1000000 ad,rfl,?_⟩)|(with_reducible refine xA (id:=6) [6] [1000000] mixed (by kernel_rfl) fun K hK=>?_;simp only[Bx.outs,Bx.drop,zaa,zab,Nat.reduceBEq,go_sem])|clear hK K)
   all_goals(rw[a0b ag aa])
   all_goals(refine⟨(a0B x v s).2,?_,Gh.tt []⟩)
   all_goals exact u
 ·intro s hb u
  refine sts ?_
  rw[zbw,a9t] at u
  repeat'(first|simp only[go_sem,pin,lB,hb]<;>refine nf ?_|refine stp ?_;intro K hK|apply hK;clear hK K|refine stn ?_|clear hK K)
  all_goals(rw[u];(try refine⟨by first|trivial|rfl,?_⟩);intro q hq;simp only[lN] at hq;subst hq;simp)
theorem b6G {ks:List KeyD} {l:List Pat} {i:Nat} {k:KeyD} {g:Pat} {v:Val} {m:ME} (hk:ks[i]?= some k) (hg:l[i]?= some g):
  a13 (ks.drop i) (l.drop i) v m=match a3o v k with
   |some w=>bif (a0B g w m).1 then a13 (ks.drop (i+1)) (l.drop (i+1)) v (a0B g w m).2 else (false,(a0B g w m).2)
   |none=>(false,m):=by
 obtain⟨h1,h2⟩:=zak.1 hk
 obtain⟨h3,h4⟩:=zak.1 hg
 rw[za8 h1,za8 h3,h2,h4,a13]
 all_goals(cases a3o v k<;>rfl)
theorem b9b (l:List Pat) (v:Val) (m:ME):a13 [] l v m=(true,m):=by cases l<;>rfl
theorem b9c (g:Pat) (v:Val) (m:ME) (al:g.keys.length≤g.kids.length) (am:v.keys.length=v.kids.length) (hl:∀ k∈g.kids,∀ w∈v.kids,b7U k w):
  PCB Tryz.prog 129 [Pt g,Vt v, .one (.mp pin)] [(pin, .mp true (b7T m))] (Bo (a13 g.keys g.kids v m).1) [(pin, .mp true (b7T (a13 g.keys g.kids v m).2))]:=by
 refine PCB.ob Tryz.func129 Tryz.ntmps129 Tryz.results129 ?_
 repeat'(first|simp only[go_sem,pin,a0f g,a0a v,lB]<;>refine nf ?_|refine stp ?_;intro K hK|apply hK;clear hK K|refine stn ?_|fail)
 refine AWP.len 11 rfl fun ab=>?_
 (try rw[lB] at ab)
 refine AWP.range (S:=ME) (g.keys) a0i (fun k s=>(13,I .i64 (k:Nat))::[]) (fun k s=>[(1000000, .mp true (b7T s))]) [2,3,4,11,12] [3,4] (fun k s=>a13 g.keys g.kids v m=a13 (g.keys.drop k) (g.kids.drop k) v s) (m) (by simp only[go_sem,pin,a0f g,a0a v];exact Gh.tt []) ?_ ?_ ?_
 ·rfl
 ·intro k s x ak hx ae hb u
  refine sts ?_
  obtain⟨gk,aj,ah,_,_⟩:=a1A (enc:=a1d) (show k<g.kids.length by omega)
  have ad:=b8J v.keys x
  rw[b6G hx aj] at u
  rcases a9i (fun y=>a1t x y) v.keys 0 with h|⟨n,h,_,h2⟩
  ·have af:a3o v x=none:=by unfold a3o;rw[h];rfl
   rw[af] at u
   rw[h] at ad
   repeat'(first|simp only[go_sem,pin,a0f g,a0a v,lB,hb,Int.reduceLT]<;>refine nf ?_|refine stp ?_;intro K hK|apply hK;clear hK K|refine stn ?_|(with_reducible first|refine⟨_,ad,?_⟩|refine⟨by omega,a0i x,ae,?_⟩)|(refine a0J ?_;intro K hK)|refine stq ?_|clear hK K)
   all_goals(rw[u];(try refine⟨by first|trivial|rfl,?_⟩);intro q hq;simp only[lN] at hq;subst hq;simp)
  ·obtain⟨w,hw,ai,_,_⟩:=a1A (enc:=a0c) (show n<v.kids.length by omega)
   have aa:decide ((n:Int)<0)=false:=by simp only[zah];omega
   have af:a3o v x=some w:=by unfold a3o;rw[h,aa,zab,Int.toNat_natCast,hw]
   have ag:=hl gk (zbc aj) w (zbc hw) s
   rw[af] at u
   rw[h] at ad
   simp only at u
   cases hz:(a0B gk w s).1<;>rw[hz] at u ag<;>simp only[zaa,zab] at u
   ·
    repeat'(first|simp only[go_sem,pin,a0f g,a0a v,lB,hb,hz,aa]<;>refine nf ?_|refine stp ?_;intro K hK|apply hK;clear hK K|refine stn ?_|(with_reducible first|refine⟨_,ad,?_⟩|refine⟨by omega,a0i x,ae,?_⟩|refine⟨by omega,a1d gk,ah,?_⟩|refine⟨by omega,a0c w,ai,?_⟩)|(refine⟨1000000,_,_,_,a1k.mk 1000000 ag,rfl,?_⟩)|(with_reducible refine xA (id:=5) [14] [1000000] mixed (by kernel_rfl) fun K hK=>?_;simp only[Bx.outs,Bx.drop,zaa,zab,Nat.reduceBEq,go_sem])|refine stq ?_|clear hK K)
    all_goals(rw[u];(try refine⟨by first|trivial|rfl,?_⟩);intro q hq;simp only[lN] at hq;subst hq;simp)
   ·
    repeat'(first|simp only[go_sem,pin,a0f g,a0a v,lB,hb,hz,aa]<;>refine nf ?_|refine stp ?_;intro K hK|apply hK;clear hK K|refine stn ?_|(with_reducible first|refine⟨_,ad,?_⟩|refine⟨by omega,a0i x,ae,?_⟩|refine⟨by omega,a1d gk,ah,?_⟩|refine⟨by omega,a0c w,ai,?_⟩)|(refine⟨1000000,_,_,_,a1k.mk 1000000 ag,rfl,?_⟩)|(with_reducible refine xA (id:=5) [14] [1000000] mixed (by kernel_rfl) fun K hK=>?_;simp only[Bx.outs,Bx.drop,zaa,zab,Nat.reduceBEq,go_sem])|refine stq ?_|clear hK K)
    all_goals(rw[a0b ak ab])
    all_goals(refine⟨(a0B gk w s).2,?_,Gh.tt []⟩)
    all_goals exact u
 ·intro s hb u
  refine sts ?_
  rw[zbw,b9b] at u
  repeat'(first|simp only[go_sem,pin,a0f g,a0a v,lB,hb]<;>refine nf ?_|refine stp ?_;intro K hK|apply hK;clear hK K|refine stn ?_|clear hK K)
  all_goals(rw[u];(try refine⟨by first|trivial|rfl,?_⟩);intro q hq;simp only[lN] at hq;subst hq;simp)
theorem a3C (g:Pat) (v:Val) (m:ME):a0B g v m=bif decide (g.kind=1) then (true,m) else
  bif decide (g.kind=2) then (true,b1H g.text v m) else
  bif decide (g.kind=10) then c1D g.kids v (b1H g.text v m) else
  bif decide (g.kind=3) then (decide (v.kind=1)&&decide (v.num=g.num),m) else
  bif decide (g.kind=4) then (decide (v.kind=2)&&decide (v.text=g.text),m) else
  bif decide (g.kind=5) then (decide (v.kind=3)&&decide (v.text=g.text),m) else
  bif decide (g.kind=6) then (decide (v.kind=5),m) else
  bif decide (g.kind=7) then (bif decide (v.kind=6)&&decide (g.kids.length=v.kids.length) then a2j g.kids v.kids m else (false,m)) else
  bif decide (g.kind=8) then (bif decide (v.kind=7)&&decide (g.kids.length=v.kids.length) then a2j g.kids v.kids m else (false,m)) else
  bif decide (v.kind=8) then a13 g.keys g.kids v m else (false,m):=by cases g;rw[a0B]
theorem a90 {g:Pat} (h:a04 g=true):vP g=true:=by rw[a5f,zag] at h;exact h.1
theorem a2c {g k:Pat} (h:a04 g=true) (hk:k∈g.kids):a04 k=true:=by
  rw[a5f,zag,za0] at h
  exact h.2 k hk
theorem a1N {v k:Val} (h:a0t v=true) (hk:k∈v.kids):a0t k=true:=by
  rw[a2v,zag,zag,za0] at h
  exact h.2.1 k hk
theorem b45 {v:Val} (h:a0t v=true) (hk:v.kind=8):v.keys.length=v.kids.length:=by
  rw[a2v,zag] at h
  have h1:=h.1
  unfold a0K at h1
  simp only[zag] at h1
  have h2:=h1.2.2.2
  unfold a2R at h2
  simp only[hk,Int.reduceEq,zac,zad,zaa,zab] at h2
  unfold c5E at h2
  simp only[zag,zan] at h2
  omega
theorem a9R {g:Pat} (h:vP g=true):g.kind=1∨g.kind=2∨g.kind=3∨g.kind=4∨g.kind=5∨g.kind=6∨g.kind=7∨g.kind=8∨(g.kind=9∧g.keys.length=g.kids.length)∨(g.kind=10∧∃ k,g.kids=[k]):=by
 have hb:a4l g=true:=by unfold vP at h;simp only[zag] at h;exact h.2
 by_cases h9:g.kind=9
 ·have hm:b5x g=true:=by
   unfold a4l at hb
   simp only[h9,Int.reduceEq,zac,zad,zaj,zaa,zab] at hb
   exact hb
  unfold b5x at hm
  simp only[zag,zbm,zbx,zde,zan] at hm
  exact .inr (.inr (.inr (.inr (.inr (.inr (.inr (.inr (.inl ⟨h9,by omega⟩))))))))
 by_cases q:g.kind=10
 ·have hm:decide ((g.kids.length:Int)=1)=true:=by
   unfold a4l at hb
   simp only[q,Int.reduceEq,zac,zad,zaj,zaa,zab,zag] at hb
   exact hb.1
  simp only[zan] at hm
  obtain⟨k,hk⟩:=List.length_eq_one_iff.1 (show g.kids.length=1 by omega)
  exact .inr (.inr (.inr (.inr (.inr (.inr (.inr (.inr (.inr ⟨q,k,hk⟩))))))))
 by_cases hx:g.kind=1∨g.kind=2∨g.kind=3∨g.kind=4∨g.kind=5∨g.kind=6∨g.kind=7∨g.kind=8
 ·rcases hx with h|h|h|h|h|h|h|h<;>simp[h]
 ·exfalso
  have e1:decide (g.kind=1)=false:=by simp only[zah];omega
  have e2:decide (g.kind=2)=false:=by simp only[zah];omega
  have e3:decide (g.kind=3)=false:=by simp only[zah];omega
  have e4:decide (g.kind=4)=false:=by simp only[zah];omega
  have e5:decide (g.kind=5)=false:=by simp only[zah];omega
  have e6:decide (g.kind=6)=false:=by simp only[zah];omega
  have e7:decide (g.kind=7)=false:=by simp only[zah];omega
  have e8:decide (g.kind=8)=false:=by simp only[zah];omega
  have e9:decide (g.kind=9)=false:=by simp only[zah];omega
  have u:decide (g.kind=10)=false:=by simp only[zah];omega
  unfold a4l at hb
  rw[e1,e2,e3,e4,e5,e6,e7,e8,e9,u] at hb
  cases hb
theorem c1E (g:Pat) (v:Val) (hg:a04 g=true) (hv:a0t v=true):b7U g v:=by
 have ih:∀ k∈g.kids,∀ w:Val,a0t w=true→b7U k w:=fun k hk w hw=>c1E k w (a2c hg hk) hw
 intro m
 rcases a9R (a90 hg) with hk|hk|hk|hk|hk|hk|hk|hk|⟨hk,ae⟩|⟨hk,k0,aa⟩
 ·
  refine PCB.ob Tryz.func75 Tryz.ntmps75 Tryz.results75 ?_
  repeat'(first|simp only[go_sem,pin,a0f g,a0a v,hk,Int.reduceEq,lB]<;>refine nf ?_|refine stp ?_;intro K hK|apply hK;clear hK K|refine stn ?_|clear hK K)
  all_goals(rw[a3C,hk];simp only[Int.reduceEq,zb,zac,zad,zaa,zab, *];(try refine⟨by first|trivial|rfl,?_⟩);intro q hq;simp only[lN] at hq;subst hq;simp)
 ·
  refine PCB.ob Tryz.func75 Tryz.ntmps75 Tryz.results75 ?_
  repeat'(first|simp only[go_sem,pin,a0f g,hk,Int.reduceEq,lB,b3G]<;>refine nf ?_|refine stp ?_;intro K hK|apply hK;clear hK K|refine stn ?_|clear hK K)
  all_goals(rw[a3C,hk];simp only[Int.reduceEq,zb,zac,zad,zaa,zab, *];(try refine⟨by first|trivial|rfl,?_⟩);intro q hq;simp only[lN] at hq;subst hq;simp)
 iterate 4
  ·
   refine PCB.ob Tryz.func75 Tryz.ntmps75 Tryz.results75 ?_
   repeat'(first|simp only[go_sem,pin,a0f g,a0a v,hk,Int.reduceEq,lB]<;>refine nf ?_|refine stp ?_;intro K hK|apply hK;clear hK K|refine stn ?_|(refine⟨fun h=>?_,fun h=>?_⟩<;>(try simp only[zM,zN] at h)<;>try simp only[h])|clear hK K)
   all_goals(rw[a3C,hk];simp only[Int.reduceEq,zb,zac,zad,zaa,zab, *];(try refine⟨by first|trivial|rfl,?_⟩);intro q hq;simp only[lN] at hq;subst hq;simp)
 ·have u:=b2G g.kids v.kids m (fun k hk w hw=>ih k hk w (a1N hv hw))
  rw[a3C,hk]
  cases hz:decide (v.kind=6)<;>simp only[Int.reduceEq,zb,zac,zad,zaa,zab,zae,zai]
  ·
   refine PCB.ob Tryz.func75 Tryz.ntmps75 Tryz.results75 ?_
   repeat'(first|simp only[go_sem,pin,a0f g,a0a v,hk,hz,Int.reduceEq,lB]<;>refine nf ?_|refine stp ?_;intro K hK|apply hK;clear hK K|refine stn ?_|clear hK K)
   all_goals((try refine⟨by first|trivial|rfl,?_⟩);intro q hq;simp only[lN] at hq;subst hq;simp)
  ·
   refine PCB.ob Tryz.func75 Tryz.ntmps75 Tryz.results75 ?_
   repeat'(first|simp only[go_sem,pin,a0f g,a0a v,hk,hz,Int.reduceEq,lB]<;>refine nf ?_|refine stp ?_;intro K hK|apply hK;clear hK K|refine stn ?_|(refine⟨1000000,_,_,_,a1k.mk 1000000 u,rfl,?_⟩)|refine stq ?_|clear hK K)
   all_goals((try refine⟨by first|trivial|rfl,?_⟩);intro q hq;simp only[lN] at hq;subst hq;simp)
 ·have u:=b2G g.kids v.kids m (fun k hk w hw=>ih k hk w (a1N hv hw))
  rw[a3C,hk]
  cases hz:decide (v.kind=7)<;>simp only[Int.reduceEq,zb,zac,zad,zaa,zab,zae,zai]
  ·
   refine PCB.ob Tryz.func75 Tryz.ntmps75 Tryz.results75 ?_
   repeat'(first|simp only[go_sem,pin,a0f g,a0a v,hk,hz,Int.reduceEq,lB]<;>refine nf ?_|refine stp ?_;intro K hK|apply hK;clear hK K|refine stn ?_|clear hK K)
   all_goals((try refine⟨by first|trivial|rfl,?_⟩);intro q hq;simp only[lN] at hq;subst hq;simp)
  ·
   refine PCB.ob Tryz.func75 Tryz.ntmps75 Tryz.results75 ?_
   repeat'(first|simp only[go_sem,pin,a0f g,a0a v,hk,hz,Int.reduceEq,lB]<;>refine nf ?_|refine stp ?_;intro K hK|apply hK;clear hK K|refine stn ?_|(refine⟨1000000,_,_,_,a1k.mk 1000000 u,rfl,?_⟩)|refine stq ?_|clear hK K)
   all_goals((try refine⟨by first|trivial|rfl,?_⟩);intro q hq;simp only[lN] at hq;subst hq;simp)
 ·rw[a3C,hk]
  cases hz:decide (v.kind=8)<;>simp only[Int.reduceEq,zb,zac,zad,zaa,zab]
  ·
   refine PCB.ob Tryz.func75 Tryz.ntmps75 Tryz.results75 ?_
   repeat'(first|simp only[go_sem,pin,a0f g,a0a v,hk,hz,Int.reduceEq,lB]<;>refine nf ?_|refine stp ?_;intro K hK|apply hK;clear hK K|refine stn ?_|fail)
   all_goals((try refine⟨by first|trivial|rfl,?_⟩);intro q hq;simp only[lN] at hq;subst hq;simp)
  ·have ab:=b9c g v m (by omega) (b45 hv (of_decide_eq_true hz)) (fun k hk w hw=>ih k hk w (a1N hv hw))
   rw[show Pt g=T.st (a1d g) from rfl,show Vt v=T.st (a0c v) from rfl,a0f g,a0a v,hk] at ab
   refine PCB.ob Tryz.func75 Tryz.ntmps75 Tryz.results75 ?_
   repeat'(first|simp only[go_sem,pin,a0f g,a0a v,hk,hz,Int.reduceEq,lB]<;>refine nf ?_|refine stp ?_;intro K hK|apply hK;clear hK K|refine stn ?_|(refine⟨1000000,_,_,_,a1k.mk 1000000 ab,rfl,?_⟩)|refine stq ?_|fail)
   all_goals((try refine⟨by first|trivial|rfl,?_⟩);intro q hq;simp only[lN] at hq;subst hq;simp)
 ·have h0:=ih k0 (by rw[aa];simp) v hv (b1H g.text v m)
  have ad:(g.kids.map a1d)[0]?= some (a1d k0):=by rw[aa];rfl
  rw[a3C,hk,aa]
  simp only[Int.reduceEq,zb,zac,zad,zaa,zab,c1D]
  refine PCB.ob Tryz.func75 Tryz.ntmps75 Tryz.results75 ?_
  repeat'(first|simp only[go_sem,pin,a0f g,hk,Int.reduceEq,lB,b3G]<;>refine nf ?_|refine stp ?_;intro K hK|apply hK;clear hK K|refine stn ?_|(with_reducible refine⟨a1d k0,ad,?_⟩)|(refine⟨1000000,_,_,_,a1k.mk 1000000 h0,rfl,?_⟩)|(with_reducible refine xA (id:=9) [6] [1000000] mixed (by kernel_rfl) fun K hK=>?_;simp only[Bx.outs,Bx.drop,zaa,zab,Nat.reduceBEq,go_sem])|clear hK K)
  all_goals((try refine⟨by first|trivial|rfl,?_⟩);intro q hq;simp only[lN] at hq;subst hq;simp)
termination_by cntP g
decreasing_by exact a1C hk
end Go.Proofs.YtoelgackkclcmaaGreat

