/- Lemmas. -/
import Derived.Test.YtoelgackkclcmaaGreatPc4
import Derived.Test.YtoelgackkclcmaaGreatPc3
import Derived.Lib.Bytealg
import Derived.Lib.Walk
open Go.Proofs.Tryz renaming prog→zP
open List renaming length_map→lB,mem_of_getElem?→lP
open Bool renaming not_eq_true'→zM,not_eq_false'→zN
set_option linter.unusedSimpArgs false
set_option linter.unusedVariables false
set_option maxRecDepth 20000
set_option maxHeartbeats 64000000

namespace Go.Proofs.YtoelgackkclcmaaGreat
open Go Go.Sx
def a1F {α:Type} (p:α→Bool):Nat→List α→Int
  |_,[]=> -1
  |k,d::l=>bif p d then k else a1F p (k+1) l
theorem a5P {α:Type} (p:α→Bool) (l:List α) (k:Nat) (d:α) (h:l[k]?= some d):a1F p k (l.drop k)=bif p d then (k:Int) else a1F p (k+1) (l.drop (k+1)):=by
  have q:=(zak.1 h).1
  have hv:=(zak.1 h).2
  rw[za8 q,hv]
  rfl
theorem a69 {α:Type} (p:α→Bool):∀ (l:List α) (k:Nat),(a1F p k l≥0)↔l.any p=true
 |[],k=>by simp[a1F]
 |d::l,k=>by
  have:=a69 p l (k+1)
  simp only[a1F,List.any_cons]
  cases p d<;>simp[this]
structure Src where
  l:List Int
  pos:Nat
def Src.ok (s:Src):Prop:=(∀ x∈s.l, -9223372036854775808≤x∧x≤9223372036854775807)∧s.l.length≤1000000
abbrev a00 (s:Src):Res:= .cells [.dat (.sl 1 (s.l.map a0h)), .dat (.int .i64 s.pos)]
abbrev Sp (k:Nat):T:= .one (.ptr k 0)
def a9S (s:Src) (n:Int):Bool:=decide (n<1)||decide ((s.l.length:Int)≤(s.pos:Int))
def a0j (s:Src) (n:Int):Int:=bif a9S s n then 0 else bif decide (((s.l[s.pos]?).getD 0).tmod n<0) then ((s.l[s.pos]?).getD 0).tmod n+n else ((s.l[s.pos]?).getD 0).tmod n
def a0g (s:Src) (n:Int):Src:=bif a9S s n then s else { s with pos:=s.pos+1 }
theorem a0k {s:Src} (h:s.ok) (n:Int):(a0g s n).ok:=by
  unfold a0g;cases a9S s n<;>exact h
theorem a0p (s:Src) {n:Int} (hn:1≤n):0≤a0j s n∧a0j s n<n:=by
 unfold a0j
 cases a9S s n with
 |true=>simp only[zaa];omega
 |false=>
  simp only[zab]
  generalize (s.l[s.pos]?).getD 0=x
  have h1:(x.tmod n)<n:=Int.tmod_lt_of_pos x (by omega)
  have h2: -n<x.tmod n:=by
   have:=Int.lt_tmod_of_pos x (show 0<n by omega)
   omega
  cases hc:decide (x.tmod n<0) with
  |true=>simp only[zan] at hc;simp only[zaa];omega
  |false=>simp only[zah] at hc;simp only[zab];omega
theorem c98 (s:Src) (hs:s.ok) (n:Int) (hn:1≤n∧n≤1000000):PCB zP 36 [Sp pin,I .i64 n] [(pin,a00 s)] (I .i64 (a0j s n)) [(pin,a00 (a0g s n))]:=by
 refine PCB.ob Tryz.func36 Tryz.ntmps36 Tryz.results36 ?_
 have h1:decide (n<1)=false:=by simp;omega
 by_cases hp:s.pos<s.l.length
 ·have h2:decide ((s.l.length:Int)≤(s.pos:Int))=false:=by simp;omega
  have hx:s.l[s.pos]?= some s.l[s.pos]:=by simp[hp]
  have q:(s.l.map a0h)[s.pos]?= some (a0h s.l[s.pos]):=by simp[hp]
  have ab:¬ n=0:=by omega
  have hw:IntKind.i64.wrap ((s.pos:Int)+1)=((s.pos+1:Nat):Int):=a0b hp (by have:=hs.2;omega)
  have ad:=Int.tmod_lt_of_pos s.l[s.pos] (show 0<n by omega)
  have aa:=Int.lt_tmod_of_pos s.l[s.pos] (show 0<n by omega)
  have u:IntKind.i64.wrap (s.l[s.pos].tmod n+n)=s.l[s.pos].tmod n+n:=by rw[w64 (by omega)]
  have he:a9S s n=false:=by unfold a9S;rw[h1,h2];rfl
  repeat'(first|simp only[go_sem,pin,lB,h1,h2,hw,u]<;>refine nf ?_|refine stp ?_;intro K hK|apply hK;clear hK K|refine stn ?_|(refine AWP.cnd ?_ ?_<;>intro h<;>(try simp only[zM,zN] at h))|(with_reducible first|refine⟨by omega,a0h s.l[s.pos],q,?_⟩|refine⟨by omega,?_⟩)|(refine a0J ?_;intro K hK)|fail)
  all_goals(simp only[zan,zah] at h)
  all_goals(refine⟨by simp only[a0j,he,zab,hx,Option.getD_some,h,zac,zad,zaa],fun x hx=>by simpa only[a0g,he,zab] using hx⟩)
 ·have h2:decide ((s.l.length:Int)≤(s.pos:Int))=true:=by simp;omega
  have he:a9S s n=true:=by unfold a9S;rw[h1,h2];rfl
  repeat'(first|simp only[go_sem,pin,lB,h1,h2]<;>refine nf ?_|refine stp ?_;intro K hK|apply hK;clear hK K|refine stn ?_|(refine a0J ?_;intro K hK)|clear hK K)
  all_goals exact⟨by simp only[a0j,he,zaa],fun x hx=>by simpa only[a0g,he,zaa] using hx⟩
theorem a0u (k:Nat) (s:Src) (hs:s.ok) (n:Int) (hn:1≤n∧n≤1000000):a1k zP 36 [Sp k,I .i64 n] k (a00 s) (I .i64 (a0j s n)) (a00 (a0g s n)):=a1k.mk k (c98 s hs n hn)
theorem a4Y {α:Type} (f:α→List C) (l:List α) (d:α) {v:Int} (hv:0≤v∧v<l.length):(l.map f)[v.toNat]?= some (f (l.getD v.toNat d)):=by
  have h:v.toNat<l.length:=by omega
  simp[zbv,h]
def wordL:List (List UInt8):=[[],[115],[120,32,121],[97]]
def atomL:List (List UInt8):=[[97],[98],[111,107],[101,114,114,111,114]]
def d09:List Int:=[0,1, -1,2,3, -2,7, -9223372036854775808,9223372036854775807,10]
def b1q (s:Src):List UInt8:=wordL.getD (a0j s 4).toNat []
def a8S (s:Src):List UInt8:=atomL.getD (a0j s 4).toNat []
def c5z (s:Src):Int:=d09.getD (a0j s 10).toNat 0
theorem c99 (s:Src) (hs:s.ok):PCB zP 39 [Sp pin] [(pin,a00 s)] (S (b1q s)) [(pin,a00 (a0g s 4))]:=by
  refine PCB.ob Tryz.func39 Tryz.ntmps39 Tryz.results39 ?_
  have hv:=a0p s (n:=4) (by omega)
  repeat'(first|simp only[go_sem,pin]<;>refine nf ?_|refine stp ?_;intro K hK|apply hK;clear hK K|refine stn ?_|(refine⟨1000000,_,_,_,a0u 1000000 s hs 4 (by omega),rfl,?_⟩)|( refine⟨hv.1,[.str (b1q s)],a4Y (fun x=>[C.str x]) wordL [] hv,?_⟩)|refine stq ?_|fail)
  all_goals exact fun x hx=>hx
theorem b9p (s:Src) (hs:s.ok):PCB zP 38 [Sp pin] [(pin,a00 s)] (S (a8S s)) [(pin,a00 (a0g s 4))]:=by
  refine PCB.ob Tryz.func38 Tryz.ntmps38 Tryz.results38 ?_
  have hv:=a0p s (n:=4) (by omega)
  repeat'(first|simp only[go_sem,pin]<;>refine nf ?_|refine stp ?_;intro K hK|apply hK;clear hK K|refine stn ?_|(refine⟨1000000,_,_,_,a0u 1000000 s hs 4 (by omega),rfl,?_⟩)|( refine⟨hv.1,[.str (a8S s)],a4Y (fun x=>[C.str x]) atomL [] hv,?_⟩)|refine stq ?_|fail)
  all_goals exact fun x hx=>hx
theorem c4j (s:Src) (hs:s.ok):PCB zP 37 [Sp pin] [(pin,a00 s)] (I .i64 (c5z s)) [(pin,a00 (a0g s 10))]:=by
  refine PCB.ob Tryz.func37 Tryz.ntmps37 Tryz.results37 ?_
  have hv:=a0p s (n:=10) (by omega)
  repeat'(first|simp only[go_sem,pin]<;>refine nf ?_|refine stp ?_;intro K hK|apply hK;clear hK K|refine stn ?_|(refine⟨1000000,_,_,_,a0u 1000000 s hs 10 (by omega),rfl,?_⟩)|( refine⟨hv.1,[.int .i64 (c5z s)],a4Y (fun x=>[C.int .i64 x]) d09 0 hv,?_⟩)|refine stq ?_|fail)
  all_goals exact fun x hx=>hx
theorem b2M (k:Nat) (s:Src) (hs:s.ok):a1k zP 39 [Sp k] k (a00 s) (S (b1q s)) (a00 (a0g s 4)):=a1k.mk k (c99 s hs)
theorem a4G (k:Nat) (s:Src) (hs:s.ok):a1k zP 38 [Sp k] k (a00 s) (S (a8S s)) (a00 (a0g s 4)):=a1k.mk k (b9p s hs)
theorem b77 (k:Nat) (s:Src) (hs:s.ok):a1k zP 37 [Sp k] k (a00 s) (I .i64 (c5z s)) (a00 (a0g s 10)):=a1k.mk k (c4j s hs)
def b1r (s:Src):KeyD×Src:=bif decide (a0j s 2=0) then (⟨0,a8S (a0g s 2)⟩,a0g (a0g s 2) 4) else (⟨1,b1q (a0g s 2)⟩,a0g (a0g s 2) 4)
theorem d1a (s:Src) (hs:s.ok):PCB zP 115 [Sp pin] [(pin,a00 s)] (.st (a0i (b1r s).1)) [(pin,a00 (b1r s).2)]:=by
  refine PCB.ob Tryz.func115 Tryz.ntmps115 Tryz.results115 ?_
  have q:=a0k hs 2
  repeat'(first|simp only[go_sem,pin]<;>refine nf ?_|refine stp ?_;intro K hK|apply hK;clear hK K|refine stn ?_|(refine AWP.cnd ?_ ?_<;>intro h<;>(try simp only[zM,zN] at h))|(refine⟨1000000,_,_,_,a0u 1000000 s hs 2 (by omega),rfl,?_⟩)|(refine⟨1000000,_,_,_,a4G 1000000 _ q,rfl,?_⟩)|(refine⟨1000000,_,_,_,b2M 1000000 _ q,rfl,?_⟩)|refine stq ?_|clear hK K)
  all_goals(simp only[b1r,h,zaa,zab];exact⟨rfl,fun x hx=>by simp only[za7] at hx;subst hx;simp⟩)
theorem d1b (k:Nat) (s:Src) (hs:s.ok):a1k zP 115 [Sp k] k (a00 s) (.st (a0i (b1r s).1)) (a00 (b1r s).2):=a1k.mk k (d1a s hs)
theorem c1W {s:Src} (h:s.ok):(b1r s).2.ok:=by unfold b1r;cases decide (a0j s 2=0)<;>exact a0k (a0k h 2) 4
def c1X (b:UInt8):Bool:=decide ((97:Int)≤(b.toNat:Int))&&decide ((b.toNat:Int)≤122)
def c5A (b:UInt8):Bool:=decide ((48:Int)≤(b.toNat:Int))&&decide ((b.toNat:Int)≤57)
theorem b3N (b:UInt8):PC zP 204 [I .u8 b.toNat] (Bo (c1X b)):=by
  refine PCB.ob Tryz.func204 Tryz.ntmps204 Tryz.results204 ?_
  repeat'(first|simp only[go_sem]<;>refine nf ?_|refine stp ?_;intro K hK|apply hK;clear hK K|refine stn ?_|(refine⟨fun h=>?_,fun h=>?_⟩<;>(try simp only[zM,zN] at h)<;>try simp only[h])|fail)
  all_goals(refine a0m ?_;simp only[c1X,h,zae,zai])
theorem c1Y (b:UInt8):PC zP 205 [I .u8 b.toNat] (Bo (c5A b)):=by
  refine PCB.ob Tryz.func205 Tryz.ntmps205 Tryz.results205 ?_
  repeat'(first|simp only[go_sem]<;>refine nf ?_|refine stp ?_;intro K hK|apply hK;clear hK K|refine stn ?_|(refine⟨fun h=>?_,fun h=>?_⟩<;>(try simp only[zM,zN] at h)<;>try simp only[h])|fail)
  all_goals(refine a0m ?_;simp only[c5A,h,zae,zai])
def b5h (b:UInt8):Bool:=c1X b||(c5A b||decide ((b.toNat:Int)=95))
def a2G (s:List UInt8):Bool:=!(decide ((s.length:Int)<1)||(decide ((16:Int)<(s.length:Int))||!c1X (s.headD 0)))&&(s.drop 1).all b5h
theorem b0l (s:List UInt8):PC zP 144 [S s] (Bo (a2G s)):=by
 refine PCB.ob Tryz.func144 Tryz.ntmps144 Tryz.results144 ?_
 cases u:decide ((s.length:Int)<1) with
 |true=>
  repeat'(first|simp only[go_sem,u]<;>refine nf ?_|refine stp ?_;intro K hK|apply hK;clear hK K|refine stn ?_|clear hK K)
  all_goals(first|exact fun _ h=>absurd h zaf|refine a0m ?_)
  all_goals simp only[a2G,u,zam,zat,zai]
 |false=>
  have af:0<s.length:=by simp only[zah] at u;omega
  obtain⟨b,ae⟩:∃ b,s[0]?= some b:=⟨s[0],by simp[af]⟩
  have ak:s.headD 0=b:=by cases s<;>simp at ae af ⊢; exact ae
  cases q:decide ((16:Int)<(s.length:Int)) with
  |true=>
   repeat'(first|simp only[go_sem,u,q]<;>refine nf ?_|refine stp ?_;intro K hK|apply hK;clear hK K|refine stn ?_|clear hK K)
   all_goals(first|exact fun _ h=>absurd h zaf|refine a0m ?_)
   all_goals simp only[a2G,q,zam,zap,zat,zai]
  |false=>
   have aj:s.length≤9223372036854775807:=by simp only[zah] at q;omega
   cases aa:c1X b with
   |false=>
    repeat'(first|simp only[go_sem,u,q,aa]<;>refine nf ?_|refine stp ?_;intro K hK|apply hK;clear hK K|refine stn ?_|(with_reducible first|refine⟨_,b3N b,?_⟩|refine⟨b,ae,?_⟩)|refine stq ?_|clear hK K)
    all_goals(first|exact fun _ h=>absurd h zaf|refine a0m ?_)
    all_goals simp only[a2G,u,q,ak,aa,zaq,zar,zat,zai]
   |true=>
    have ag:a2G s=(s.drop 1).all b5h:=by simp only[a2G,u,q,ak,aa,zat,zaq,zar,zae]
    repeat'(first|simp only[go_sem,u,q,aa]<;>refine nf ?_|refine stp ?_;intro K hK|apply hK;clear hK K|refine stn ?_|(with_reducible first|refine⟨_,b3N b,?_⟩|refine⟨b,ae,?_⟩)|refine stq ?_|fail)
    refine AWP.loopS (X:=Nat) (fun k=>[(3,I .i64 k),(0,S s)]) (fun _=>[]) (fun k=>1≤k∧k≤s.length∧(s.drop 1).all b5h=(s.drop k).all b5h) (fun k=>s.length-k) 1 (Gh.tt []) ⟨zax _,by omega,rfl⟩ ?_
    rintro k ⟨an,hk,hp⟩
    by_cases ad:k<s.length
    ·have ab:=za8 ad
     have hd:s[k]?= some s[k]:=zav ad
     have ah:decide ((k:Int)<(s.length:Int))=true:=by simpa using ad
     generalize s[k]=d at hd ab
     rw[ab,List.all_cons] at hp
     cases am:c1X d<;>cases ai:c5A d<;>cases al:decide ((d.toNat:Int)=95)
     all_goals simp only[b5h,am,ai,al,zap,zaj,zam,zae,zai] at hp
     repeat'(first|simp only[go_sem,ah,am,ai,al]<;>refine nf ?_|refine stp ?_;intro K hK|apply hK;clear hK K|refine stn ?_|(with_reducible first|refine⟨_,b3N d,?_⟩|refine⟨_,c1Y d,?_⟩|refine⟨by omega,d,hd,?_⟩)|refine stq ?_|clear hK K)
     all_goals first
      |(refine a0m ?_;rw[ag,hp])
      |(rw[a0b ad aj];refine⟨k+1,by omega,⟨by omega,by omega,hp⟩,Gh.tt []⟩)
    ·have ah:decide ((k:Int)<(s.length:Int))=false:=by simpa using ad
     rw[show s.drop k=[] from zci (by omega)] at hp
     repeat'(first|simp only[go_sem,ah]<;>refine nf ?_|refine stp ?_;intro K hK|apply hK;clear hK K|refine stn ?_|clear hK K)
     all_goals(refine a0m ?_;rw[ag,hp];rfl)
def a0l (k:KeyD):Bool:=(decide (k.kind=0)&&a2G k.text)||(decide (k.kind=1)&&decide ((k.text.length:Int)≤64))
theorem a2x (k:KeyD):PC zP 85 [.st (a0i k)] (Bo (a0l k)):=by
  refine PCB.ob Tryz.func85 Tryz.ntmps85 Tryz.results85 ?_
  repeat'(first|simp only[go_sem]<;>refine nf ?_|refine stp ?_;intro K hK|apply hK;clear hK K|refine stn ?_|(refine⟨fun h=>?_,fun h=>?_⟩<;>(try simp only[zM,zN] at h)<;>try simp only[h])|(with_reducible refine⟨_,b0l _,?_⟩)|refine stq ?_|fail)
  all_goals(refine a0m ?_;simp only[a0l, *, zae,zai,zam,zaq,zaj])
theorem c1Z (a b:Int):PC zP 145 [I .i64 a,I .i64 b] (I .i64 (bif decide (a<b) then -1 else bif decide (b<a) then 1 else 0)):=by
  refine PCB.ob Tryz.func145 Tryz.ntmps145 Tryz.results145 ?_
  repeat'(first|simp only[go_sem]<;>refine nf ?_|refine stp ?_;intro K hK|apply hK;clear hK K|refine stn ?_|(refine AWP.cnd ?_ ?_<;>intro h<;>(try simp only[zM,zN] at h))|clear hK K)
  all_goals(refine a0m ?_;simp only[*, zaa,zab])
def a9y (a b:List UInt8):Int:=bif Op.bytesLess a b then -1 else bif Op.bytesLess a b||decide (a=b) then 0 else 1
theorem c5B (a b:List UInt8):PC zP 146 [S a,S b] (I .i64 (a9y a b)):=by
 refine PCB.ob Tryz.func146 Tryz.ntmps146 Tryz.results146 ?_
 repeat'(first|simp only[go_sem]<;>refine nf ?_|refine stp ?_;intro K hK|apply hK;clear hK K|refine stn ?_|(refine AWP.cnd ?_ ?_<;>intro h<;>(try simp only[zM,zN] at h))|clear hK K)
 all_goals first
  |(refine a0m ?_;simp only[a9y,h,zaa];done)
  |(rename_i h1;rw[h1,zaq] at h;refine a0m ?_;simp only[a9y,h1,h,zaq,zaa,zab])
def a8T (a b:KeyD):Int:=bif !decide (a.kind=b.kind) then (bif decide (a.kind<b.kind) then -1 else bif decide (b.kind<a.kind) then 1 else 0) else a9y a.text b.text
theorem a8U (a b:KeyD):PC zP 86 [.st (a0i a), .st (a0i b)] (I .i64 (a8T a b)):=by
  refine PCB.ob Tryz.func86 Tryz.ntmps86 Tryz.results86 ?_
  repeat'(first|simp only[go_sem]<;>refine nf ?_|refine stp ?_;intro K hK|apply hK;clear hK K|refine stn ?_|(refine AWP.cnd ?_ ?_<;>intro h<;>(try simp only[zM,zN] at h))|(with_reducible first|refine⟨_,c1Z _ _,?_⟩|refine⟨_,c5B _ _,?_⟩)|refine stq ?_|clear hK K)
  all_goals(refine a0m ?_;simp only[a8T,h,zat,zar,zaa,zab])
def c4k (b:UInt8):Bool:=decide ((65:Int)≤(b.toNat:Int))&&decide ((b.toNat:Int)≤90)
theorem a9z (b:UInt8):PC zP 206 [I .u8 b.toNat] (Bo (c4k b)):=by
  refine PCB.ob Tryz.func206 Tryz.ntmps206 Tryz.results206 ?_
  repeat'(first|simp only[go_sem]<;>refine nf ?_|refine stp ?_;intro K hK|apply hK;clear hK K|refine stn ?_|(refine⟨fun h=>?_,fun h=>?_⟩<;>(try simp only[zM,zN] at h)<;>try simp only[h])|fail)
  all_goals(refine a0m ?_;simp only[c4k,h,zae,zai])
theorem b5i (b:UInt8):PC zP 231 [I .u8 b.toNat] (Bo (c4k b)):=by
  refine PCB.ob Tryz.func231 Tryz.ntmps231 Tryz.results231 ?_
  repeat'(first|simp only[go_sem]<;>refine nf ?_|refine stp ?_;intro K hK|apply hK;clear hK K|refine stn ?_|(refine⟨fun h=>?_,fun h=>?_⟩<;>(try simp only[zM,zN] at h)<;>try simp only[h])|fail)
  all_goals(refine a0m ?_;simp only[c4k,h,zae,zai])
theorem b1s (b:UInt8):PC zP 233 [I .u8 b.toNat] (Bo (c1X b)):=by
  refine PCB.ob Tryz.func233 Tryz.ntmps233 Tryz.results233 ?_
  repeat'(first|simp only[go_sem]<;>refine nf ?_|refine stp ?_;intro K hK|apply hK;clear hK K|refine stn ?_|(refine⟨fun h=>?_,fun h=>?_⟩<;>(try simp only[zM,zN] at h)<;>try simp only[h])|fail)
  all_goals(refine a0m ?_;simp only[c1X,h,zae,zai])
theorem b5j (b:UInt8):PC zP 234 [I .u8 b.toNat] (Bo (c5A b)):=by
  refine PCB.ob Tryz.func234 Tryz.ntmps234 Tryz.results234 ?_
  repeat'(first|simp only[go_sem]<;>refine nf ?_|refine stp ?_;intro K hK|apply hK;clear hK K|refine stn ?_|(refine⟨fun h=>?_,fun h=>?_⟩<;>(try simp only[zM,zN] at h)<;>try simp only[h])|fail)
  all_goals(refine a0m ?_;simp only[c5A,h,zae,zai])
theorem b9q (b:UInt8):PC zP 235 [I .u8 b.toNat] (Bo (b5h b)):=by
  refine PCB.ob Tryz.func235 Tryz.ntmps235 Tryz.results235 ?_
  repeat'(first|simp only[go_sem]<;>refine nf ?_|refine stp ?_;intro K hK|apply hK;clear hK K|refine stn ?_|(refine⟨fun h=>?_,fun h=>?_⟩<;>(try simp only[zM,zN] at h)<;>try simp only[h])|(with_reducible first|refine⟨_,b1s _,?_⟩|refine⟨_,b5j _,?_⟩)|refine stq ?_|fail)
  all_goals(refine a0m ?_;simp only[b5h, *, zam,zaq])
def a9T (b:UInt8):Bool:=c1X b||(c4k b||(c5A b||decide ((b.toNat:Int)=95)))
theorem c10 (b:UInt8):PC zP 232 [I .u8 b.toNat] (Bo (a9T b)):=by
  refine PCB.ob Tryz.func232 Tryz.ntmps232 Tryz.results232 ?_
  repeat'(first|simp only[go_sem]<;>refine nf ?_|refine stp ?_;intro K hK|apply hK;clear hK K|refine stn ?_|(refine⟨fun h=>?_,fun h=>?_⟩<;>(try simp only[zM,zN] at h)<;>try simp only[h])|(with_reducible first|refine⟨_,b1s _,?_⟩|refine⟨_,b5j _,?_⟩|refine⟨_,b5i _,?_⟩)|refine stq ?_|fail)
  all_goals(refine a0m ?_;simp only[a9T, *, zam,zaq])
def b1t (p q:UInt8→Bool) (s:List UInt8):Bool:=!(decide ((s.length:Int)<1)||(decide ((16:Int)<(s.length:Int))||!p (s.headD 0)))&&(s.drop 1).all q
theorem b78 (s:List UInt8) (g h:FuncId) (p q:UInt8→Bool) (hg:∀ b:UInt8,PC zP g [I .u8 b.toNat] (Bo (p b))) (hh:∀ b:UInt8,PC zP h [I .u8 b.toNat] (Bo (q b))):
  PC zP 230 [S s, .one (.dat (.fn g)), .one (.dat (.fn h))] (Bo (b1t p q s)):=by
 refine PCB.ob Tryz.func230 Tryz.ntmps230 Tryz.results230 ?_
 cases aa:decide ((s.length:Int)<1) with
 |true=>
  repeat'(first|simp only[go_sem,aa]<;>refine nf ?_|refine stp ?_;intro K hK|apply hK;clear hK K|refine stn ?_|clear hK K)
  all_goals(first|exact fun _ h=>absurd h zaf|refine a0m ?_)
  all_goals simp only[b1t,aa,zam,zat,zai]
 |false=>
  have ag:0<s.length:=by simp only[zah] at aa;omega
  obtain⟨b,af⟩:∃ b,s[0]?= some b:=⟨s[0],by simp[ag]⟩
  have ak:s.headD 0=b:=by cases s<;>simp at af ag ⊢; exact af
  cases u:decide ((16:Int)<(s.length:Int)) with
  |true=>
   repeat'(first|simp only[go_sem,aa,u]<;>refine nf ?_|refine stp ?_;intro K hK|apply hK;clear hK K|refine stn ?_|clear hK K)
   all_goals(first|exact fun _ h=>absurd h zaf|refine a0m ?_)
   all_goals simp only[b1t,u,zam,zap,zat,zai]
  |false=>
   have aj:s.length≤9223372036854775807:=by simp only[zah] at u;omega
   cases ab:p b with
   |false=>
    repeat'(first|simp only[go_sem,aa,u,ab]<;>refine nf ?_|refine stp ?_;intro K hK|apply hK;clear hK K|refine stn ?_|(with_reducible first|refine⟨_,hg b,?_⟩|refine⟨b,af,?_⟩)|refine stq ?_|clear hK K)
    all_goals(first|exact fun _ h=>absurd h zaf|refine a0m ?_)
    all_goals simp only[b1t,aa,u,ak,ab,zaq,zar,zat,zai]
   |true=>
    have ah:b1t p q s=(s.drop 1).all q:=by simp only[b1t,aa,u,ak,ab,zat,zaq,zar,zae]
    repeat'(first|simp only[go_sem,aa,u,ab]<;>refine nf ?_|refine stp ?_;intro K hK|apply hK;clear hK K|refine stn ?_|(with_reducible first|refine⟨_,hg b,?_⟩|refine⟨b,af,?_⟩)|refine stq ?_|fail)
    refine AWP.loopF (X:=Nat) (fun k=>[(7,I .i64 k)]) (fun k=>[]) [0,2] [] (fun k=>1≤k∧k≤s.length∧(s.drop 1).all q=(s.drop k).all q) (fun k=>s.length-k) (1) (by refine sts ?_;exact Gh.tt []) ?_ ?_
    ·exact⟨zax _,by omega,rfl⟩
    rintro k ⟨al,hk,hp⟩
    refine sts ?_
    by_cases ae:k<s.length
    ·have ad:=za8 ae
     have hd:s[k]?= some s[k]:=zav ae
     have ai:decide ((k:Int)<(s.length:Int))=true:=by simpa using ae
     generalize s[k]=d at hd ad
     rw[ad,List.all_cons] at hp
     cases hq:q d
     all_goals simp only[hq,zae,zai] at hp
     repeat'(first|simp only[go_sem,ai,hq]<;>refine nf ?_|refine stp ?_;intro K hK|apply hK;clear hK K|refine stn ?_|(with_reducible first|refine⟨_,hh d,?_⟩|refine⟨by omega,d,hd,?_⟩)|refine stq ?_|clear hK K)
     all_goals first
      |(refine a0m ?_;rw[ah,hp])
      |(rw[a0b ae aj];refine⟨k+1,by omega,⟨by omega,by omega,hp⟩,Gh.tt []⟩)
    ·have ai:decide ((k:Int)<(s.length:Int))=false:=by simpa using ae
     rw[show s.drop k=[] from zci (by omega)] at hp
     repeat'(first|simp only[go_sem,ai]<;>refine nf ?_|refine stp ?_;intro K hK|apply hK;clear hK K|refine stn ?_|clear hK K)
     all_goals(refine a0m ?_;rw[ah,hp];rfl)
theorem a4x (s:List UInt8):PC zP 190 [S s] (Bo (a2G s)):=by
  have h:=b78 s 233 235 c1X b5h b1s b9q
  refine PCB.ob Tryz.func190 Tryz.ntmps190 Tryz.results190 ?_
  repeat'(first|simp only[go_sem]<;>refine nf ?_|refine stp ?_;intro K hK|apply hK;clear hK K|refine stn ?_|(with_reducible refine⟨_,h,?_⟩)|refine stq ?_|fail)
  all_goals(first|exact fun _ h=>absurd h zaf|refine a0m ?_)
  all_goals rfl
def a0X (s:List UInt8):Bool:=b1t c4k a9T s
theorem a2M (s:List UInt8):PC zP 189 [S s] (Bo (a0X s)):=by
  have h:=b78 s 231 232 c4k a9T b5i c10
  refine PCB.ob Tryz.func189 Tryz.ntmps189 Tryz.results189 ?_
  repeat'(first|simp only[go_sem]<;>refine nf ?_|refine stp ?_;intro K hK|apply hK;clear hK K|refine stn ?_|(with_reducible refine⟨_,h,?_⟩)|refine stq ?_|fail)
  all_goals(first|exact fun _ h=>absurd h zaf|refine a0m ?_)
  all_goals rfl
theorem a2e (k:KeyD):PC zP 217 [.st (a0i k)] (Bo (a0l k)):=by
 refine PCB.ob Tryz.func217 Tryz.ntmps217 Tryz.results217 ?_
 cases h0:decide (k.kind=0)<;>cases h1:decide (k.kind=1)
 ·
  repeat'(first|simp only[go_sem,a0i,h0,h1]<;>refine nf ?_|refine stp ?_;intro K hK|apply hK;clear hK K|refine stn ?_|fail)
  all_goals(refine a0m ?_;simp only[a0l,h0,h1,zae,zai,zaj,zaq])
 ·
  repeat'(first|simp only[go_sem,a0i,h0,h1]<;>refine nf ?_|refine stp ?_;intro K hK|apply hK;clear hK K|refine stn ?_|clear hK K)
  all_goals(refine a0m ?_;simp only[a0l,h0,h1,zae,zai,zaj,zaq])
 ·
  repeat'(first|simp only[go_sem,a0i,h0,h1]<;>refine nf ?_|refine stp ?_;intro K hK|apply hK;clear hK K|refine stn ?_|(with_reducible refine⟨_,a4x _,?_⟩)|refine stq ?_|clear hK K)
  all_goals(refine a0m ?_;simp only[a0l,h0,h1,zae,zai,zaj,zaq])
 ·exfalso
  simp only[zan] at h0 h1
  omega
theorem a0s (s:List UInt8):PC zP 147 [S s] (Bo (a0X s)):=by
 refine PCB.ob Tryz.func147 Tryz.ntmps147 Tryz.results147 ?_
 cases u:decide ((s.length:Int)<1) with
 |true=>
  repeat'(first|simp only[go_sem,u]<;>refine nf ?_|refine stp ?_;intro K hK|apply hK;clear hK K|refine stn ?_|clear hK K)
  all_goals(first|exact fun _ h=>absurd h zaf|refine a0m ?_)
  all_goals simp only[a0X,b1t,u,zam,zat,zai]
 |false=>
  have af:0<s.length:=by simp only[zah] at u;omega
  obtain⟨b,ae⟩:∃ b,s[0]?= some b:=⟨s[0],by simp[af]⟩
  have ak:s.headD 0=b:=by cases s<;>simp at ae af ⊢; exact ae
  cases q:decide ((16:Int)<(s.length:Int)) with
  |true=>
   repeat'(first|simp only[go_sem,u,q]<;>refine nf ?_|refine stp ?_;intro K hK|apply hK;clear hK K|refine stn ?_|clear hK K)
   all_goals(first|exact fun _ h=>absurd h zaf|refine a0m ?_)
   all_goals simp only[a0X,b1t,q,zam,zap,zat,zai]
  |false=>
   have aj:s.length≤9223372036854775807:=by simp only[zah] at q;omega
   cases aa:c4k b with
   |false=>
    repeat'(first|simp only[go_sem,u,q,aa]<;>refine nf ?_|refine stp ?_;intro K hK|apply hK;clear hK K|refine stn ?_|(with_reducible first|refine⟨_,a9z b,?_⟩|refine⟨b,ae,?_⟩)|refine stq ?_|clear hK K)
    all_goals(first|exact fun _ h=>absurd h zaf|refine a0m ?_)
    all_goals simp only[a0X,b1t,u,q,ak,aa,zaq,zar,zat,zai]
   |true=>
    have ag:a0X s=(s.drop 1).all a9T:=by simp only[a0X,b1t,u,q,ak,aa,zat,zaq,zar,zae]
    repeat'(first|simp only[go_sem,u,q,aa]<;>refine nf ?_|refine stp ?_;intro K hK|apply hK;clear hK K|refine stn ?_|(with_reducible first|refine⟨_,a9z b,?_⟩|refine⟨b,ae,?_⟩)|refine stq ?_|fail)
    refine AWP.loopF (X:=Nat) (fun k=>[(3,I .i64 k)]) (fun k=>[]) [0] [] (fun k=>1≤k∧k≤s.length∧(s.drop 1).all a9T=(s.drop k).all a9T) (fun k=>s.length-k) (1) (by refine sts ?_;exact Gh.tt []) ?_ ?_
    ·exact⟨zax _,by omega,rfl⟩
    rintro k ⟨ao,hk,hp⟩
    refine sts ?_
    by_cases ad:k<s.length
    ·have ab:=za8 ad
     have hd:s[k]?= some s[k]:=zav ad
     have ah:decide ((k:Int)<(s.length:Int))=true:=by simpa using ad
     generalize s[k]=d at hd ab
     rw[ab,List.all_cons] at hp
     cases am:c1X d<;>cases an:c4k d<;>cases ai:c5A d<;>cases al:decide ((d.toNat:Int)=95)
     all_goals simp only[a9T,am,ai,al,an,zap,zaj,zam,zae,zai] at hp
     repeat'(first|simp only[go_sem,ah,am,ai,al,an]<;>refine nf ?_|refine stp ?_;intro K hK|apply hK;clear hK K|refine stn ?_|(with_reducible first|refine⟨_,b3N d,?_⟩|refine⟨_,c1Y d,?_⟩|refine⟨_,a9z d,?_⟩|refine⟨by omega,d,hd,?_⟩)|refine stq ?_|clear hK K)
     all_goals first
      |(refine a0m ?_;rw[ag,hp])
      |(rw[a0b ad aj];refine⟨k+1,by omega,⟨by omega,by omega,hp⟩,Gh.tt []⟩)
    ·have ah:decide ((k:Int)<(s.length:Int))=false:=by simpa using ad
     rw[show s.drop k=[] from zci (by omega)] at hp
     repeat'(first|simp only[go_sem,ah]<;>refine nf ?_|refine stp ?_;intro K hK|apply hK;clear hK K|refine stn ?_|clear hK K)
     all_goals(refine a0m ?_;rw[ag,hp];rfl)
structure PutA where
  keys:List KeyD
  kids:List Dat
  placed:Bool
def c7U (k:KeyD) (d:Dat) (a:PutA) (x:KeyD×Dat):PutA:=
  let b:PutA:=bif decide (a8T k x.1≤0)&&!a.placed then ⟨a.keys++[k],a.kids++[d],true⟩ else a
  bif !decide (a8T k x.1=0) then ⟨b.keys++[x.1],b.kids++[x.2],b.placed⟩ else b
def d0a (k:KeyD) (d:Dat) (a:PutA):PutA:=bif !a.placed then ⟨a.keys++[k],a.kids++[d],true⟩ else a
def d0b (a:PutA):Dat:={ a3P with kind:=8,kids:=a.kids,keys:=a.keys }
def d0c (m:Dat) (k:KeyD):Bool:=!decide (m.kind=8)||(!a0l k||!decide ((m.keys.length:Int)=(m.kids.length:Int)))
def putR (m:Dat) (k:KeyD) (d:Dat):Dat×Bool:=bif d0c m k then (a3P,false) else (d0b (d0a k d ((m.keys.zip m.kids).foldl (c7U k d) ⟨[],[],false⟩)),true)
theorem c4l (l:List KeyD) (x:KeyD):l.map a0i++[a0i x]=(l++[x]).map a0i:=by simp
def a5Q (a b:Int):Int:=bif decide (a<b) then -1 else bif decide (b<a) then 1 else 0
theorem c7V (a:Int):PC zP 270 [I .i64 a] (Bo false):=by
  refine PCB.ob Tryz.func270 Tryz.ntmps270 Tryz.results270 ?_
  repeat'(first|simp only[go_sem,zac]<;>refine nf ?_|refine stp ?_;intro K hK|apply hK;clear hK K|refine stn ?_|fail)
  all_goals(first|exact fun _ h=>absurd h zaf|refine a0m ?_)
  all_goals(simp)
theorem c11 (a:Int):PC zP 245 [I .i64 a] (Bo false):=by
  refine PCB.ob Tryz.func245 Tryz.ntmps245 Tryz.results245 ?_
  repeat'(first|simp only[go_sem,zac]<;>refine nf ?_|refine stp ?_;intro K hK|apply hK;clear hK K|refine stn ?_|fail)
  all_goals(first|exact fun _ h=>absurd h zaf|refine a0m ?_)
  all_goals(simp)
theorem a16 (a b:Int):PC zP 256 [I .i64 a,I .i64 b] (I .i64 (a5Q a b)):=by
  refine PCB.ob Tryz.func256 Tryz.ntmps256 Tryz.results256 ?_
  cases h1:decide (a<b)<;>cases h2:decide (b<a)
  repeat'(first|simp only[go_sem,h1,h2,gt_iff_lt]<;>refine nf ?_|refine stp ?_;intro K hK|apply hK;clear hK K|refine stn ?_|(with_reducible refine⟨_,c7V _,?_⟩)|refine stq ?_|clear hK K)
  all_goals(refine a0m ?_;simp only[a5Q,h1,h2,zaa,zab])
theorem a3R (a b:Int):PC zP 211 [I .i64 a,I .i64 b] (I .i64 (a5Q a b)):=by
  refine PCB.ob Tryz.func211 Tryz.ntmps211 Tryz.results211 ?_
  cases h1:decide (a<b)<;>cases h2:decide (b<a)
  repeat'(first|simp only[go_sem,h1,h2,gt_iff_lt]<;>refine nf ?_|refine stp ?_;intro K hK|apply hK;clear hK K|refine stn ?_|(with_reducible refine⟨_,c11 _,?_⟩)|refine stq ?_|clear hK K)
  all_goals(refine a0m ?_;simp only[a5Q,h1,h2,zaa,zab])
def a1D {α:Type} (f:α→α→Int):List α→List α→Int
  |x::a,y::b=>bif decide (f x y=0) then a1D f a b else f x y
  |_,_=>0
theorem a5R {α:Type} (f:α→α→Int) (l:List α):a1D f [] l=0:=by cases l<;>rfl
def a0Q {α:Type} (f:α→α→Int) (a b:List α):Int:=bif decide (a5Q a.length b.length=0) then a1D f a b else a5Q a.length b.length
theorem a4f {a b:Int}:a5Q a b=0↔a=b:=by
  unfold a5Q
  cases h1:decide (a<b)<;>cases h2:decide (b<a)<;>simp only[zan,zah] at h1 h2<;>simp<;>omega
theorem a8V (g:FuncId) (f:KeyD→KeyD→Int) (a b:List KeyD) (hg:∀ x∈a,∀ y∈b,PC zP g [T.st (a0i x),T.st (a0i y)] (I .i64 (f x y))):
  PC zP 276 [.one (.dat (.sl 2 (a.map a0i))), .one (.dat (.sl 2 (b.map a0i))), .one (.dat (.fn g))] (I .i64 (a0Q f a b)):=by
 refine PCB.ob Tryz.func276 Tryz.ntmps276 Tryz.results276 ?_
 refine AWP.len 0 rfl fun q=>?_
 rw[lB] at q
 cases h0:decide (a5Q a.length b.length=0) with
 |false=>
  repeat'(first|simp only[go_sem,lB,h0]<;>refine nf ?_|refine stp ?_;intro K hK|apply hK;clear hK K|refine stn ?_|(with_reducible refine⟨_,a16 _ _,?_⟩)|refine stq ?_|clear hK K)
  all_goals(refine a0m ?_;simp only[a0Q,h0,zab])
 |true=>
  have hl:a.length=b.length:=by
   have:=a4f.1 (of_decide_eq_true h0)
   omega
  repeat'(first|simp only[go_sem,lB,h0]<;>refine nf ?_|refine stp ?_;intro K hK|apply hK;clear hK K|refine stn ?_|(with_reducible refine⟨_,a16 _ _,?_⟩)|refine stq ?_|fail)
  refine AWP.loopS (X:=Nat×Unit) (fun x=>[(20,I .i64 x.1),(19,I .i64 a.length),(0, .one (.dat (.sl 2 (a.map a0i)))),(1, .one (.dat (.sl 2 (b.map a0i)))),(2, .one (.dat (.fn g)))]) (fun _=>[])
   (fun x=>x.1≤a.length∧a1D f a b=a1D f (a.drop x.1) (b.drop x.1)) (fun x=>a.length-x.1) (0,()) (Gh.tt []) ⟨zao _,rfl⟩ ?_
  rintro⟨k,u⟩ ⟨hk,hp⟩
  simp only at hk hp
  by_cases aa:k<a.length
  ·obtain⟨x,hx,ab,hb,ag⟩:=a1A (enc:=a0i) aa
   obtain⟨y,hy,ae,_,af⟩:=a1A (enc:=a0i) (show k<b.length by omega)
   rw[ag,af,a1D] at hp
   have ad:=hg x (lP hx) y (lP hy)
   cases hz:decide (f x y=0)
   ·
    repeat'(first|simp only[go_sem,lB,hb,hz]<;>refine nf ?_|refine stp ?_;intro K hK|apply hK;clear hK K|refine stn ?_|(with_reducible first|refine⟨_,ad,?_⟩|refine⟨by omega,a0i x,ab,?_⟩|refine⟨by omega,a0i y,ae,?_⟩)|(refine a0J ?_;intro K hK)|clear hK K)
    all_goals(refine a0m ?_;simp only[a0Q,h0,hp,hz,zaa,zab])
   ·
    repeat'(first|simp only[go_sem,lB,hb,hz]<;>refine nf ?_|refine stp ?_;intro K hK|apply hK;clear hK K|refine stn ?_|(with_reducible first|refine⟨_,ad,?_⟩|refine⟨by omega,a0i x,ab,?_⟩|refine⟨by omega,a0i y,ae,?_⟩)|(refine a0J ?_;intro K hK)|clear hK K)
    all_goals(rw[hz,zaa] at hp)
    all_goals(rw[a0b aa q])
    all_goals(refine⟨(k+1,()),by simp only;omega,⟨by simp only;omega,hp⟩,Gh.tt []⟩)
  ·have hb:decide ((k:Int)<(a.length:Int))=false:=by simpa using aa
   rw[zci (show a.length≤k by omega),a5R] at hp
   repeat'(first|simp only[go_sem,lB,hb]<;>refine nf ?_|refine stp ?_;intro K hK|apply hK;clear hK K|refine stn ?_|clear hK K)
   all_goals(refine a0m ?_;simp only[a0Q,h0,hp,zaa])
theorem c12 (g:FuncId) (f:Val→Val→Int) (a b:List Val) (hg:∀ x∈a,∀ y∈b,PC zP g [T.st (a0c x),T.st (a0c y)] (I .i64 (f x y))):
  PC zP 275 [.one (.dat (.sl 7 (a.map a0c))), .one (.dat (.sl 7 (b.map a0c))), .one (.dat (.fn g))] (I .i64 (a0Q f a b)):=by
 refine PCB.ob Tryz.func275 Tryz.ntmps275 Tryz.results275 ?_
 refine AWP.len 0 rfl fun q=>?_
 rw[lB] at q
 cases h0:decide (a5Q a.length b.length=0) with
 |false=>
  repeat'(first|simp only[go_sem,lB,h0]<;>refine nf ?_|refine stp ?_;intro K hK|apply hK;clear hK K|refine stn ?_|(with_reducible refine⟨_,a16 _ _,?_⟩)|refine stq ?_|clear hK K)
  all_goals(refine a0m ?_;simp only[a0Q,h0,zab])
 |true=>
  have hl:a.length=b.length:=by
   have:=a4f.1 (of_decide_eq_true h0)
   omega
  repeat'(first|simp only[go_sem,lB,h0]<;>refine nf ?_|refine stp ?_;intro K hK|apply hK;clear hK K|refine stn ?_|(with_reducible refine⟨_,a16 _ _,?_⟩)|refine stq ?_|fail)
  refine AWP.loopS (X:=Nat×Unit) (fun x=>[(20,I .i64 x.1),(19,I .i64 a.length),(0, .one (.dat (.sl 7 (a.map a0c)))),(1, .one (.dat (.sl 7 (b.map a0c)))),(2, .one (.dat (.fn g)))]) (fun _=>[])
   (fun x=>x.1≤a.length∧a1D f a b=a1D f (a.drop x.1) (b.drop x.1)) (fun x=>a.length-x.1) (0,()) (Gh.tt []) ⟨zao _,rfl⟩ ?_
  rintro⟨k,u⟩ ⟨hk,hp⟩
  simp only at hk hp
  by_cases aa:k<a.length
  ·obtain⟨x,hx,ab,hb,ag⟩:=a1A (enc:=a0c) aa
   obtain⟨y,hy,ae,_,af⟩:=a1A (enc:=a0c) (show k<b.length by omega)
   rw[ag,af,a1D] at hp
   have ad:=hg x (lP hx) y (lP hy)
   cases hz:decide (f x y=0)
   ·
    repeat'(first|simp only[go_sem,lB,hb,hz]<;>refine nf ?_|refine stp ?_;intro K hK|apply hK;clear hK K|refine stn ?_|(with_reducible first|refine⟨_,ad,?_⟩|refine⟨by omega,a0c x,ab,?_⟩|refine⟨by omega,a0c y,ae,?_⟩)|(refine a0J ?_;intro K hK)|clear hK K)
    all_goals(refine a0m ?_;simp only[a0Q,h0,hp,hz,zaa,zab])
   ·
    repeat'(first|simp only[go_sem,lB,hb,hz]<;>refine nf ?_|refine stp ?_;intro K hK|apply hK;clear hK K|refine stn ?_|(with_reducible first|refine⟨_,ad,?_⟩|refine⟨by omega,a0c x,ab,?_⟩|refine⟨by omega,a0c y,ae,?_⟩)|(refine a0J ?_;intro K hK)|clear hK K)
    all_goals(rw[hz,zaa] at hp)
    all_goals(rw[a0b aa q])
    all_goals(refine⟨(k+1,()),by simp only;omega,⟨by simp only;omega,hp⟩,Gh.tt []⟩)
  ·have hb:decide ((k:Int)<(a.length:Int))=false:=by simpa using aa
   rw[zci (show a.length≤k by omega),a5R] at hp
   repeat'(first|simp only[go_sem,lB,hb]<;>refine nf ?_|refine stp ?_;intro K hK|apply hK;clear hK K|refine stn ?_|clear hK K)
   all_goals(refine a0m ?_;simp only[a0Q,h0,hp,zaa])
theorem b5k (g:FuncId) (f:(List Val×Bool×Val)→(List Val×Bool×Val)→Int) (a b:List (List Val×Bool×Val)) (hg:∀ x∈a,∀ y∈b,PC zP g [T.st (a0n x),T.st (a0n y)] (I .i64 (f x y))):
  PC zP 277 [.one (.dat (.sl 9 (a.map a0n))), .one (.dat (.sl 9 (b.map a0n))), .one (.dat (.fn g))] (I .i64 (a0Q f a b)):=by
 refine PCB.ob Tryz.func277 Tryz.ntmps277 Tryz.results277 ?_
 refine AWP.len 0 rfl fun q=>?_
 rw[lB] at q
 cases h0:decide (a5Q a.length b.length=0) with
 |false=>
  repeat'(first|simp only[go_sem,lB,h0]<;>refine nf ?_|refine stp ?_;intro K hK|apply hK;clear hK K|refine stn ?_|(with_reducible refine⟨_,a16 _ _,?_⟩)|refine stq ?_|clear hK K)
  all_goals(refine a0m ?_;simp only[a0Q,h0,zab])
 |true=>
  have hl:a.length=b.length:=by
   have:=a4f.1 (of_decide_eq_true h0)
   omega
  repeat'(first|simp only[go_sem,lB,h0]<;>refine nf ?_|refine stp ?_;intro K hK|apply hK;clear hK K|refine stn ?_|(with_reducible refine⟨_,a16 _ _,?_⟩)|refine stq ?_|fail)
  refine AWP.loopS (X:=Nat×Unit) (fun x=>[(20,I .i64 x.1),(19,I .i64 a.length),(0, .one (.dat (.sl 9 (a.map a0n)))),(1, .one (.dat (.sl 9 (b.map a0n)))),(2, .one (.dat (.fn g)))]) (fun _=>[])
   (fun x=>x.1≤a.length∧a1D f a b=a1D f (a.drop x.1) (b.drop x.1)) (fun x=>a.length-x.1) (0,()) (Gh.tt []) ⟨zao _,rfl⟩ ?_
  rintro⟨k,u⟩ ⟨hk,hp⟩
  simp only at hk hp
  by_cases aa:k<a.length
  ·obtain⟨x,hx,ab,hb,ag⟩:=a1A (enc:=a0n) aa
   obtain⟨y,hy,ae,_,af⟩:=a1A (enc:=a0n) (show k<b.length by omega)
   rw[ag,af,a1D] at hp
   have ad:=hg x (lP hx) y (lP hy)
   cases hz:decide (f x y=0)
   ·
    repeat'(first|simp only[go_sem,lB,hb,hz]<;>refine nf ?_|refine stp ?_;intro K hK|apply hK;clear hK K|refine stn ?_|(with_reducible first|refine⟨_,ad,?_⟩|refine⟨by omega,a0n x,ab,?_⟩|refine⟨by omega,a0n y,ae,?_⟩)|(refine a0J ?_;intro K hK)|clear hK K)
    all_goals(refine a0m ?_;simp only[a0Q,h0,hp,hz,zaa,zab])
   ·
    repeat'(first|simp only[go_sem,lB,hb,hz]<;>refine nf ?_|refine stp ?_;intro K hK|apply hK;clear hK K|refine stn ?_|(with_reducible first|refine⟨_,ad,?_⟩|refine⟨by omega,a0n x,ab,?_⟩|refine⟨by omega,a0n y,ae,?_⟩)|(refine a0J ?_;intro K hK)|clear hK K)
    all_goals(rw[hz,zaa] at hp)
    all_goals(rw[a0b aa q])
    all_goals(refine⟨(k+1,()),by simp only;omega,⟨by simp only;omega,hp⟩,Gh.tt []⟩)
  ·have hb:decide ((k:Int)<(a.length:Int))=false:=by simpa using aa
   rw[zci (show a.length≤k by omega),a5R] at hp
   repeat'(first|simp only[go_sem,lB,hb]<;>refine nf ?_|refine stp ?_;intro K hK|apply hK;clear hK K|refine stn ?_|clear hK K)
   all_goals(refine a0m ?_;simp only[a0Q,h0,hp,zaa])
theorem c13 (g:FuncId) (f:(List UInt8)→(List UInt8)→Int) (a b:List (List UInt8)) (hg:∀ x∈a,∀ y∈b,PC zP g [S x,S y] (I .i64 (f x y))):
  PC zP 278 [.one (.dat (.sl 1 (a.map Sx.encStr))), .one (.dat (.sl 1 (b.map Sx.encStr))), .one (.dat (.fn g))] (I .i64 (a0Q f a b)):=by
 refine PCB.ob Tryz.func278 Tryz.ntmps278 Tryz.results278 ?_
 refine AWP.len 0 rfl fun q=>?_
 rw[lB] at q
 cases h0:decide (a5Q a.length b.length=0) with
 |false=>
  repeat'(first|simp only[go_sem,lB,h0]<;>refine nf ?_|refine stp ?_;intro K hK|apply hK;clear hK K|refine stn ?_|(with_reducible refine⟨_,a16 _ _,?_⟩)|refine stq ?_|clear hK K)
  all_goals(refine a0m ?_;simp only[a0Q,h0,zab])
 |true=>
  have hl:a.length=b.length:=by
   have:=a4f.1 (of_decide_eq_true h0)
   omega
  repeat'(first|simp only[go_sem,lB,h0]<;>refine nf ?_|refine stp ?_;intro K hK|apply hK;clear hK K|refine stn ?_|(with_reducible refine⟨_,a16 _ _,?_⟩)|refine stq ?_|fail)
  refine AWP.loopS (X:=Nat×Unit) (fun x=>[(20,I .i64 x.1),(19,I .i64 a.length),(0, .one (.dat (.sl 1 (a.map Sx.encStr)))),(1, .one (.dat (.sl 1 (b.map Sx.encStr)))),(2, .one (.dat (.fn g)))]) (fun _=>[])
   (fun x=>x.1≤a.length∧a1D f a b=a1D f (a.drop x.1) (b.drop x.1)) (fun x=>a.length-x.1) (0,()) (Gh.tt []) ⟨zao _,rfl⟩ ?_
  rintro⟨k,u⟩ ⟨hk,hp⟩
  simp only at hk hp
  by_cases aa:k<a.length
  ·obtain⟨x,hx,ab,hb,ag⟩:=a1A (enc:=Sx.encStr) aa
   obtain⟨y,hy,ae,_,af⟩:=a1A (enc:=Sx.encStr) (show k<b.length by omega)
   rw[ag,af,a1D] at hp
   have ad:=hg x (lP hx) y (lP hy)
   cases hz:decide (f x y=0)
   ·
    repeat'(first|simp only[go_sem,lB,hb,hz,Sx.encStr]<;>refine nf ?_|refine stp ?_;intro K hK|apply hK;clear hK K|refine stn ?_|(with_reducible first|refine⟨_,ad,?_⟩|refine⟨by omega,Sx.encStr x,ab,?_⟩|refine⟨by omega,Sx.encStr y,ae,?_⟩)|(refine a0J ?_;intro K hK)|clear hK K)
    all_goals(refine a0m ?_;simp only[a0Q,h0,hp,hz,zaa,zab])
   ·
    repeat'(first|simp only[go_sem,lB,hb,hz,Sx.encStr]<;>refine nf ?_|refine stp ?_;intro K hK|apply hK;clear hK K|refine stn ?_|(with_reducible first|refine⟨_,ad,?_⟩|refine⟨by omega,Sx.encStr x,ab,?_⟩|refine⟨by omega,Sx.encStr y,ae,?_⟩)|(refine a0J ?_;intro K hK)|clear hK K)
    all_goals(rw[hz,zaa] at hp)
    all_goals(rw[a0b aa q])
    all_goals(refine⟨(k+1,()),by simp only;omega,⟨by simp only;omega,hp⟩,Gh.tt []⟩)
  ·have hb:decide ((k:Int)<(a.length:Int))=false:=by simpa using aa
   rw[zci (show a.length≤k by omega),a5R] at hp
   repeat'(first|simp only[go_sem,lB,hb]<;>refine nf ?_|refine stp ?_;intro K hK|apply hK;clear hK K|refine stn ?_|clear hK K)
   all_goals(refine a0m ?_;simp only[a0Q,h0,hp,zaa])
def d0d:List (List UInt8):=[[116,114,117,101],[102,97,108,115,101],[97],[111,107]]
def d1c:List (List UInt8):=[[109],[110]]
def d0e (s:Src):Dat:={ a3P with kind:=9,num:=a0j s 3,mod:=d1c.getD (a0j (a0g s 3) 2).toNat [],version:=1+a0j (a0g (a0g s 3) 2) 2,routine:=a0j (a0g (a0g (a0g s 3) 2) 2) 2 }
def b79 (k:Int) (s:Src):Dat×Src:=
  bif decide (k=1) then (c57 (d0d.getD (a0j s 4).toNat []),a0g s 4) else
  bif decide (k=2) then ({ a3P with kind:=2,text:=b1q s },a0g s 4) else
  bif decide (k=3) then ({ a3P with kind:=4,num:=a0j s 4 },a0g s 4) else
  bif decide (k=4) then ({ a3P with kind:=5 },s) else
  bif decide (k=5) then (d0e s,a0g (a0g (a0g (a0g s 3) 2) 2) 2) else
  bif decide (k=6) then (c4N (c5z s),a0g s 10) else
  (c4N (a0j s 5-1),a0g s 5)
def c14 (s:Src):Dat×Src:=b79 (bif decide (6<a0j s 12) then 0 else a0j s 12) (a0g s 12)
def d0f (n:Nat):NodeD:=⟨14,0,0,[],List.replicate n 1,[],0,0⟩
def d1d:NodeD:=⟨2,0,0,[],[],[],0,0⟩
def d1e (f:Dat):Dat:={ a3P with kind:=9,num:=f.num,kids:=[f],wrapped:=true,nodes:=[d0f (f.num+1).toNat,d1d],inner:=[109],outer:=[110] }
def c7W (a b:Dat):Dat:={ a3P with kind:=7,kids:=[a,b] }
def c7X (f:Src→Dat×Src):Nat→Src→List Dat→List Dat×Src
  |0,s,acc=>(acc,s)
  |n+1,s,acc=>c7X f n (f s).2 (acc++[(f s).1])
def d0g (f:Src→Dat×Src):Nat→Src→Dat→Dat×Src
  |0,s,t=>(t,s)
  |n+1,s,t=>d0g f n (f s).2 (c7W (f s).1 t)
def d1A (f:Src→Dat×Src):Nat→Src→Dat→Dat×Src
  |0,s,m=>(m,s)
  |n+1,s,m=>d1A f n (f (b1r s).2).2 (putR m (b1r s).1 (f (b1r s).2).1).1
def d0T:Nat→Src→Dat×Src
 |0,s=>c14 s
 |d+1,s=>
  bif decide (a0j s 12≤6) then b79 (a0j s 12) (a0g s 12) else
  bif decide (a0j s 12=7) then (bif decide ((c14 (a0g s 12)).1.kind=9) then (d1e (c14 (a0g s 12)).1,(c14 (a0g s 12)).2) else c14 (a0g s 12)) else
  bif decide (a0j s 12≤9) then
   ({ a3P with kind:=6,kids:=(c7X (d0T d) (a0j (a0g s 12) 4).toNat (a0g (a0g s 12) 4) []).1 },(c7X (d0T d) (a0j (a0g s 12) 4).toNat (a0g (a0g s 12) 4) []).2) else
  bif decide (a0j s 12=10) then d0g (d0T d) (1+a0j (a0g s 12) 2).toNat (a0g (a0g s 12) 2) { a3P with kind:=5 } else
  d1A (d0T d) (a0j (a0g s 12) 3).toNat (a0g (a0g s 12) 3) { a3P with kind:=8 }
theorem a9A {n:Nat}:decide ((0:Int)<((n+1:Nat):Int))=true:=by simp
theorem a2N {n:Nat} (hm:n≤1000000):IntKind.i64.wrap (((n+1:Nat):Int)-1)=(n:Int):=by rw[w64 (by omega)];omega
end Go.Proofs.YtoelgackkclcmaaGreat





