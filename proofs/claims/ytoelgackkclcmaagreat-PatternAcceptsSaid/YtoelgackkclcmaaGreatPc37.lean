/- Lemmas. -/
import Derived.Test.YtoelgackkclcmaaGreatPc36
open List renaming length_map→lB,mem_of_getElem?→lP
open Go.Sx.AWP renaming range→xC
open Bool renaming not_eq_true'→zM,not_eq_false'→zN
set_option linter.unusedSimpArgs false
set_option linter.unusedVariables false
set_option maxRecDepth 20000
set_option maxHeartbeats 64000000
namespace Go.Proofs.YtoelgackkclcmaaGreat
open Go Go.Sx
def b5y (b:Bool):List C:=[.bool b]
theorem b1b (d:List Bool) (i:Nat) (v:Bool):(d.map b5y).set i [C.bool v]=(d.set i v).map b5y:=by rw[zdw];rfl
theorem c0E (n:Nat):List.replicate n [C.bool false]=(List.replicate n false).map b5y:=by rw[List.map_replicate];rfl
theorem b3p {l:List Bool} {i:Nat} (h:i<l.length):l[i]?= some (l.getD i false):=by
  rw[zbf,zav h];rfl
def rdsB (l:List NodeD):List Bool:=Gr.rds (bo l) (ks l) l.length l.length (List.replicate l.length false)
def wfR (l:List NodeD) (r:Int):Int:=bif inB l r then (bif l.all (a0F l) then (bif (rdsB l).all id then 0 else 3) else 1) else 1
theorem c0F (bo:Nat→Bool) (ks:Nat→List Nat) (d:List Bool):∀ i,(Gr.rdA bo ks d i).length=d.length
  |0=>rfl
  |i+1=>by rw[Gr.rdA,Gr.rdI,zbp,c0F bo ks d i]
theorem c0G (bo:Nat→Bool) (ks:Nat→List Nat) (n:Nat) (d:List Bool):∀ i,(Gr.rds bo ks n i d).length=d.length
  |0=>rfl
  |i+1=>by rw[Gr.rds,c0F,c0G bo ks n d i]
theorem c7g {l:List NodeD} (h:l.all (a0F l)=true):InR l:=by
 intro x hx k hk
 have h1:=za0.1 h x hx
 unfold a0F at h1
 cases ha:x.kids.all (inB l) with
 |false=>rw[ha] at h1;cases h1
 |true=>
  have h2:=za0.1 ha k hk
  simp only[inB,zag,zan] at h2
  exact h2
theorem c5l (l:List NodeD) (r:Int) (x:NodeD):PC Tryz.prog 156 [.st [.sl 8 (l.map a0e), .int .i64 r], .st [.int .i64 x.kind, .int .i64 x.lo, .int .i64 x.hi, .str x.text, .sl 1 (x.kids.map a0h), .sl 4 (x.fields.map a0o), .int .i64 x.r0, .int .i64 x.r1]] (Bo (a0F l x)):=c7f l r x
theorem a6X (x:NodeD):PC Tryz.prog 157 [.st [.int .i64 x.kind, .int .i64 x.lo, .int .i64 x.hi, .str x.text, .sl 1 (x.kids.map a0h), .sl 4 (x.fields.map a0o), .int .i64 x.r0, .int .i64 x.r1]] (Bo (a4Z x.kind)):=c2i x
theorem b3q (l:List NodeD) (r:Int) (hl:TSm l):PC Tryz.prog 97 [Tt l r] (I .i64 (wfR l r)):=by
 have hn:=hl.len
 cases hi:inB l r with
 |false=>
  have e:wfR l r=1:=by unfold wfR;rw[hi];rfl
  rw[e]
  refine PCB.ob Tryz.func97 Tryz.ntmps97 Tryz.results97 ?_
  repeat'(first|simp only[go_sem,lB,hi]<;>refine nf ?_|refine stp ?_;intro K hK|apply hK;clear hK K|refine stn ?_|(with_reducible refine⟨_,a0C l r r,?_⟩)|refine stq ?_|clear hK K)
  all_goals(first|exact fun _ h=>absurd h zaf|refine a0m ?_)
 |true=>
  have e:wfR l r=bif l.all (a0F l) then (bif (rdsB l).all id then 0 else 3) else 1:=by unfold wfR;rw[hi];rfl
  refine PCB.ob Tryz.func97 Tryz.ntmps97 Tryz.results97 ?_
  repeat'(first|simp only[go_sem,lB,hi]<;>refine nf ?_|refine stp ?_;intro K hK|apply hK;clear hK K|refine stn ?_|(with_reducible refine⟨_,a0C l r r,?_⟩)|refine stq ?_|fail)
  refine AWP.lenB 1 0 rfl rfl fun an=>?_
  (try rw[lB] at an)
  refine xC (S:=Unit) (l) a0e (fun k s=>(3,I .i64 (k:Nat))::[]) (fun k s=>[]) [1] [1] (fun k s=>(l.take k).all (a0F l)=true) (()) (by refine sts ?_;exact Gh.tt []) ?_ ?_ ?_
  ·simp
  ·intro k s x ab hx ah ai ak
   refine sts ?_
   have ap:=lP hx
   have ao:=a0R (p:=a0F l) hx
   rw[ak,zae] at ao
   cases hp:a0F l x with
   |false=>
    repeat'(first|simp only[go_sem,lB,ai,hp,a0d]<;>refine nf ?_|refine stp ?_;intro K hK|apply hK;clear hK K|refine stn ?_|(with_reducible first|refine⟨by omega,a0e x,ah,?_⟩|refine⟨_,c5l l r x,?_⟩)|(refine a0J ?_;intro K hK)|clear hK K)
    all_goals(refine a0m ?_;rw[e,a14 ap hp];rfl)
   |true=>
    repeat'(first|simp only[go_sem,lB,ai,hp,a0d]<;>refine nf ?_|refine stp ?_;intro K hK|apply hK;clear hK K|refine stn ?_|(with_reducible first|refine⟨by omega,a0e x,ah,?_⟩|refine⟨_,c5l l r x,?_⟩)|(refine a0J ?_;intro K hK)|clear hK K)
    all_goals(rw[a0b ab an])
    all_goals(refine⟨(),?_,Gh.tt []⟩)
    all_goals(rw[ao,hp])
  ·intro s ai ak
   refine sts ?_
   rw[zbh] at ak
   rw[ak,zaa] at e
   have a1:=c7g ak
   repeat'(first|( refine AWP.mkB (id:=8) 3 rfl rfl rfl (by kernel_rfl) (by kernel_rfl) fun K hK=>?_;simp only[List.take_succ_cons,List.take_zero,zb4,zb2])|simp only[go_sem,lB,ai,c0E,Int.toNat_natCast]<;>refine nf ?_|refine stp ?_;intro K hK|apply hK;clear hK K|refine stn ?_|(with_reducible refine⟨by omega,by omega,?_⟩)|clear hK K)
   refine AWP.lenB 1 0 rfl rfl fun al=>?_
   (try rw[lB] at al)
   refine xC (S:=List Bool) (l) a0e (fun k s=>(5,I .i64 (k:Nat))::[(4, .one (.own 33 l.length))]) (fun k s=>[(33, .row 1 (s.map b5y))]) [1] [1] (fun k s=>Is s (Gr.rds (bo l) (ks l) l.length k (List.replicate l.length false))∧s.length=l.length) (List.replicate l.length false) (by refine sts ?_;exact Gh.tt []) ?_ ?_ ?_
   ·exact⟨rfl,by simp⟩
   ·rintro k d x0 ab bd bc ai ⟨hd,aj⟩
    refine sts ?_
    have a2:Gr.rds (bo l) (ks l) l.length (k+1) (List.replicate l.length false)=Gr.rdA (bo l) (ks l) d l.length:=by
     rw[Gr.rds,show d=_ from hd]
    repeat'(first|simp only[go_sem,lB,ai]<;>refine nf ?_|refine stp ?_;intro K hK|apply hK;clear hK K|refine stn ?_|fail)
    refine AWP.lenB 1 0 rfl rfl fun ag=>?_
    (try rw[lB] at ag)
    refine xC (S:=List Bool) (l) a0e (fun k s=>(6,I .i64 (k:Nat))::[(4, .one (.own 33 l.length))]) (fun k s=>[(33, .row 1 (s.map b5y))]) [1,5] [1] (fun k s=>Is s (Gr.rdA (bo l) (ks l) d k)∧s.length=l.length) (d) (by refine sts ?_;exact Gh.tt []) ?_ ?_ ?_
    ·exact⟨rfl,aj⟩
    ·rintro i c x ab hx ah u ⟨hc,ae⟩
     refine sts ?_
     have ap:=lP hx
     have ba:bo l i=a4Z x.kind:=by unfold bo;rw[hx]
     have az:ks l i=x.kids.map Int.toNat:=by unfold ks;rw[hx]
     have a6:=b3p (l:=c) (i:=i) (by omega)
     have aq:=a0y b5y a6
     obtain⟨v,hv⟩:∃ v,v=c.getD i false:=⟨_,rfl⟩
     have aa:Gr.rdA (bo l) (ks l) d (i+1)=c.set i (v||(!a4Z x.kind||(x.kids.map Int.toNat).all fun k=>c.getD k false)):=by
      rw[Gr.rdA,Gr.rdI,← show c=_ from hc,ba,az,hv]
     rw[← hv] at aq
     cases hb:a4Z x.kind with
     |false=>
      rw[hb,zar,zam,zap] at aa
      repeat'(first|simp only[go_sem,lB,u]<;>refine nf ?_|refine stp ?_;intro K hK|apply hK;clear hK K|refine stn ?_|fail)
      (try rw[lB] at af)
      refine xC (S:=Unit) (([]:List Int)) a0h (fun k s=>(8,I .i64 (k:Nat))::[(4, .one (.own 33 l.length)),(7,Bo true)]) (fun k s=>[]) [1,5,6] [1,33] (fun k s=>True) (()) (by refine sts ?_;exact Gh.tt []) ?_ ?_ ?_
      ·trivial
      ·intro k2 s2 y2 au be bb ad q
       exact absurd au (Nat.not_lt_zero _)
      ·intro s2 ad q
       refine sts ?_
       repeat'(first|simp only[go_sem,lB,List.length_nil,hb,ae,b1b,b5y,a0d,Int.toNat_natCast]<;>refine nf ?_|refine stp ?_;intro K hK|apply hK;clear hK K|refine stn ?_|(refine⟨fun h=>?_,fun h=>?_⟩<;>(try simp only[zM,zN] at h)<;>try simp only[h])|(with_reducible first|refine⟨by omega,a0e x,ah,?_⟩|refine⟨(by omega:_≤_),(by omega:_≤_),(by omega:_<_),?_⟩|refine⟨_,aq,?_⟩|refine⟨_,a6X x,?_⟩)|refine stq ?_|clear hK K)
       all_goals(rw[a0b ab ag])
       all_goals(refine⟨(c.set i true),?_,Gh.tt []⟩)
       all_goals exact⟨aa.symm,by rw[zbp];exact ae⟩
     |true=>
      rw[hb,zat,zaq] at aa
      have af:x.kids.length≤9223372036854775807:=by have:=hl.kids x ap;omega
      repeat'(first|simp only[go_sem,lB,u]<;>refine nf ?_|refine stp ?_;intro K hK|apply hK;clear hK K|refine stn ?_|fail)
      (try rw[lB] at af)
      refine xC (S:=Bool) (x.kids) a0h (fun k s=>(8,I .i64 (k:Nat))::[(4, .one (.own 33 l.length)),(7,Bo s)]) (fun k s=>[]) [1,5,6] [1,33] (fun k s=>Is s ((x.kids.take k).all fun y=>c.getD y.toNat false)) (true) (by refine sts ?_;exact Gh.tt []) ?_ ?_ ?_
      ·rfl
      ·intro k2 s2 y ab hy a7 ad q
       refine sts ?_
       have bf:=a1 x ap y (lP hy)
       have a8:=a0y b5y (b3p (l:=c) (i:=y.toNat) (by omega))
       have ar:=a0R (p:=fun y:Int=>c.getD y.toNat false) hy
       cases s2
       ·
        repeat'(first|simp only[go_sem,lB,hb,ad,ae,b5y,a0h,a0d,Int.toNat_natCast]<;>refine nf ?_|refine stp ?_;intro K hK|apply hK;clear hK K|refine stn ?_|(with_reducible first|refine⟨by omega,a0e x,ah,?_⟩|refine⟨_,a6X x,?_⟩)|refine stq ?_|clear hK K)
        all_goals(rw[a0b ab af])
        all_goals(refine⟨false,?_,Gh.tt []⟩)
        all_goals(rw[Is,ar,← show false=_ from q];rfl)
       ·
        repeat'(first|simp only[go_sem,lB,hb,ad,ae,b5y,a0h,a0d,Int.toNat_natCast]<;>refine nf ?_|refine stp ?_;intro K hK|apply hK;clear hK K|refine stn ?_|(with_reducible first|refine⟨by omega,a0e x,ah,?_⟩|refine⟨(by omega:_≤_),(by omega:_≤_),(by omega:_<_),?_⟩|refine⟨_,a6X x,?_⟩|refine⟨by omega,a0h y,a7,?_⟩|refine⟨_,a8,?_⟩)|refine stq ?_|clear hK K)
        all_goals(rw[a0b ab af])
        all_goals(refine⟨(c.getD y.toNat false),?_,Gh.tt []⟩)
        all_goals(rw[Is,ar,← show true=_ from q];rfl)
      ·intro s2 ad q
       refine sts ?_
       rw[zbh] at q
       have aw:((x.kids.map Int.toNat).all fun k=>c.getD k false)=s2:=by
        rw[show s2=_ from q,zcy];rfl
       rw[aw] at aa
       cases v
       ·
        rw[zaq] at aa
        repeat'(first|simp only[go_sem,lB,hb,ad,ae,b1b,b5y,a0d,Int.toNat_natCast]<;>refine nf ?_|refine stp ?_;intro K hK|apply hK;clear hK K|refine stn ?_|(with_reducible first|refine⟨by omega,a0e x,ah,?_⟩|refine⟨(by omega:_≤_),(by omega:_≤_),(by omega:_<_),?_⟩|refine⟨_,aq,?_⟩|refine⟨_,a6X x,?_⟩)|refine stq ?_|clear hK K)
        all_goals(rw[a0b ab ag])
        all_goals(refine⟨(c.set i s2),?_,Gh.tt []⟩)
        all_goals exact⟨aa.symm,by rw[zbp];exact ae⟩
       ·
        rw[zam] at aa
        repeat'(first|simp only[go_sem,lB,hb,ad,ae,b1b,b5y,a0d,Int.toNat_natCast]<;>refine nf ?_|refine stp ?_;intro K hK|apply hK;clear hK K|refine stn ?_|(with_reducible first|refine⟨by omega,a0e x,ah,?_⟩|refine⟨(by omega:_≤_),(by omega:_≤_),(by omega:_<_),?_⟩|refine⟨_,aq,?_⟩|refine⟨_,a6X x,?_⟩)|refine stq ?_|clear hK K)
        all_goals(rw[a0b ab ag])
        all_goals(refine⟨(c.set i true),?_,Gh.tt []⟩)
        all_goals exact⟨aa.symm,by rw[zbp];exact ae⟩
    ·rintro c u ⟨hc,ae⟩
     refine sts ?_
     repeat'(first|simp only[go_sem,lB,u]<;>refine nf ?_|refine stp ?_;intro K hK|apply hK;clear hK K|refine stn ?_|clear hK K)
     all_goals(rw[a0b ab al])
     all_goals(refine⟨c,?_,Gh.tt []⟩)
     all_goals exact⟨by rw[Is,a2];exact hc,ae⟩
   ·rintro d ai ⟨hd,aj⟩
    refine sts ?_
    have ax:d=rdsB l:=hd
    repeat'(first|simp only[go_sem,lB,ai]<;>refine nf ?_|refine stp ?_;intro K hK|apply hK;clear hK K|refine stn ?_|clear hK K)
    have am:d.length≤9223372036854775807:=by omega
    (try rw[lB] at am)
    refine xC (S:=Unit) (d) b5y (fun k s=>(9,I .i64 (k:Nat))::[(4, .one (.own 33 l.length))]) (fun k s=>[]) [] [1,33] (fun k s=>(d.take k).all id=true) (()) (by refine sts ?_;exact Gh.tt []) ?_ ?_ ?_
    ·rfl
    ·intro k s2 v ab hv av u q
     refine sts ?_
     have ao:=a0R (p:=id) hv
     rw[q,zae] at ao
     rw[aj] at u
     cases v
     ·
      repeat'(first|simp only[go_sem,lB,aj,u,b5y]<;>refine nf ?_|refine stp ?_;intro K hK|apply hK;clear hK K|refine stn ?_|(with_reducible first|refine⟨(by omega:_≤_),(by omega:_≤_),(by omega:_<_),?_⟩|refine⟨_,av,?_⟩)|clear hK K)
      all_goals(refine a0m ?_;rw[e,← ax,a14 (lP hv) rfl];rfl)
     ·
      repeat'(first|simp only[go_sem,lB,aj,u,b5y]<;>refine nf ?_|refine stp ?_;intro K hK|apply hK;clear hK K|refine stn ?_|(with_reducible first|refine⟨(by omega:_≤_),(by omega:_≤_),(by omega:_<_),?_⟩|refine⟨_,av,?_⟩)|clear hK K)
      all_goals(rw[a0b ab am])
      all_goals(refine⟨(),?_,Gh.tt []⟩)
      all_goals(rw[ao];rfl)
    ·intro s2 u q
     refine sts ?_
     rw[zbh] at q
     rw[aj] at u
     repeat'(first|simp only[go_sem,lB,aj,u]<;>refine nf ?_|refine stp ?_;intro K hK|apply hK;clear hK K|refine stn ?_|clear hK K)
     all_goals(refine a0m ?_;rw[e,← ax,q];rfl)
theorem c3z (l:List NodeD) (x:NodeD):((edgeL x).all fun e=>!a8e l e)=((x.kids.all (inB l)&&x.fields.all fun f=>inB l f.node)&&bif decide (x.kind=13) then inB l x.r0&&inB l x.r1 else true):=by
  have h:(fun e=>!a8e l e)=inB l:=by funext e;rw[c2h]
  rw[h]
  unfold edgeL
  rw[zcs,zcs,zcy]
  cases decide (x.kind=13)<;>simp[Function.comp_def]
theorem b6n (l:List NodeD):∀ (fs:List FieldD) (p:Option KeyD),b9B l p fs=(b0n p fs&&fs.all fun f=>inB l f.node)
 |[],p=>rfl
 |f::fs,p=>by
  rw[List.all_cons]
  cases p with
  |none=>
   simp only[b9B,b0n,b6n l fs]
   cases inB l f.node<;>cases a0l f.key<;>cases b0n (some f.key) fs<;>simp
  |some k=>
   simp only[b9B,b0n,b6n l fs,b5t]
   cases inB l f.node<;>cases a0l f.key<;>cases decide (a2O k f.key≥0)<;>cases b0n (some f.key) fs<;>simp
theorem c0H (l:List NodeD) (x:NodeD):a0F l x=a2P l x:=by
 have hK:decide ((x.kids.length:Int)=0)=true→x.kids.all (inB l)=true:=by
  intro h
  have:x.kids=[]:=by simpa using h
  rw[this];rfl
 have hF:decide ((x.fields.length:Int)=0)=true→(x.fields.all fun f=>inB l f.node)=true:=by
  intro h
  have:x.fields=[]:=by simpa using h
  rw[this];rfl
 have hp:decide (0<(x.fields.length:Int))=!decide ((x.fields.length:Int)=0):=by
  rw[← zbj];simp only[zan,zbm,zah];omega
 unfold a0F a2P a2Q a7e
 rw[c3z]
 rcases c4H x.kind with hk|hk|hk|hk|hk|hk|hk|hk|hk|hk|hk|hk|hk|hk|hk|hk|hk|hk|hk|hk
 iterate 19
  ·simp only[a5l,a1R,a12,a0G,a1S,hk,hp,b6n,Int.reduceEq,zad,zac,zat,zar,zap,zam,zaj,zaq,zaw,zae,zay,zai,zaa,zab]
   generalize decide ((x.kids.length:Int)=0)=d at*
   generalize decide ((x.fields.length:Int)=0)=f at*
   generalize decide (x.lo=0)=a1
   generalize decide (x.hi=0)=a2
   generalize decide (x.text=[])=a3
   generalize decide (x.r0=0)=a4
   generalize decide (x.r1=0)=a5
   generalize x.kids.all (inB l)=K at*
   generalize (x.fields.all fun f=>inB l f.node)=F at*
   generalize decide (x.lo≤x.hi)=b1
   generalize decide ((x.text.length:Int)≤64)=b2
   generalize a2G x.text=b3
   generalize a0X x.text=b4
   generalize decide ((x.kids.length:Int)≤4)=b5
   generalize decide ((x.kids.length:Int)≤5)=b6
   generalize decide (1≤(x.kids.length:Int))=b7
   generalize decide ((x.kids.length:Int)=1)=b8
   generalize decide ((x.kids.length:Int)=2)=b9
   generalize b0n none x.fields=b10
   generalize inB l x.r0=b11
   generalize inB l x.r1=b12
   clear hp hk
   cases d<;>cases f<;>cases K<;>cases F<;>simp only[zbs,false_imp_iff,true_imp_iff,reduceCtorEq] at hK hF ⊢ <;>simp only[zat,zar,zap,zam,zaj,zaq,zaw,zae,zay,zai,zaa,zab]<;>cases a1<;>cases a2<;>cases a3<;>simp only[zat,zar,zap,zam,zaj,zaq,zaw,zae,zay,zai,zaa,zab]<;>cases a4<;>cases a5<;>simp
 ·have hv:a0G x=false:=by
   simp only[a0G,hk.g1,hk.g2,hk.g3,hk.g4,hk.g5,hk.g6,hk.g7,hk.g8,hk.g9,hk.g10,hk.g11,hk.g12,hk.g13,hk.g14,hk.g15,hk.g16,hk.g17,hk.g18,hk.g19,zaj,zab]
  have hr:a1S l x=false:=by
   simp only[a1S,hk.g1,hk.g2,hk.g3,hk.g4,hk.g5,hk.g6,hk.g7,hk.g8,hk.g9,hk.g10,hk.g11,hk.g12,hk.g13,hk.g14,hk.g15,hk.g16,hk.g17,hk.g18,hk.g19,zaj,zab]
  rw[hv,hr,zai,zay]
  cases x.kids.all (inB l)<;>cases a1R x<;>cases a12 x<;>rfl
theorem c3A (l:List NodeD):l.all (a0F l)=l.all (a2P l):=by
  have:a0F l=a2P l:=by funext x;exact c0H l x
  rw[this]
theorem c3B {l:List NodeD} (h:InR l):∀ i,i<l.length→∀ k∈ks l i,k<l.length:=by
  intro i hi k hk
  unfold ks at hk
  rw[zav hi] at hk
  obtain⟨y,hy,rfl⟩:=za3.1 hk
  have:=h _ (zcd hi) y hy
  omega
theorem b8K {l:List NodeD} (h:InR l):(rdsB l).all id=a8W l:=by
 have h1:=Gr.all_iff (bo l) (ks l) l.length (c3B h)
 have h2:=Gr.rds_iff (bo l) (ks l) l.length (c3B h)
 have q:(rdsB l).length=l.length:=by unfold rdsB;rw[c0G];simp
 rw[← zbj]
 refine Iff.trans ?_ h1.symm
 rw[← h2,za0]
 show (∀ b∈rdsB l,b=true)↔ ∀ j,j<l.length→(rdsB l).getD j false=true
 constructor
 ·intro h j hj
  exact h _ (lP (b3p (by omega)))
 ·intro h b hb
  obtain⟨j,hj,rfl⟩:=List.mem_iff_getElem.1 hb
  have:=h j (by omega)
  rw[zbf,zav hj] at this
  exact this
theorem c7h (l:List NodeD) (r:Int):wfR l r=wfP l r:=by
 unfold wfR wfP
 rw[c3A,c2h]
 cases a8e l r
 ·cases ha:l.all (a2P l)
  ·rfl
  ·rw[b8K (b2S ha)];rfl
 ·rfl
def es (l:List NodeD) (i:Nat):List Nat:=match l[i]? with
  |some x=>(edgeL x).map Int.toNat
  |none=>[]
def cloR (l:List NodeD) (r:Int) (st:List Bool):Bx:=[(1000000, .row 1 (st.map b5y)),(1000001, .cells [.own 1000000 l.length]),(1000002, .cells (tyB l r)),(1000003, .cells [.clo 179 [.ptr 1000001 0, .ptr 1000002 0, .ptr 1000003 0]])]
attribute [go_sem] cloR
def c9D (l:List NodeD) (r:Int):List Bool:=Gr.dfR (es l) (l.length+1) (List.replicate l.length false) r.toNat
end Go.Proofs.YtoelgackkclcmaaGreat


