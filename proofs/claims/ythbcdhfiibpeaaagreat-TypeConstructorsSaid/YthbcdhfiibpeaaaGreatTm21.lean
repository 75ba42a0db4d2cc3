/- Lemmas of the proof. -/
import Derived.Test.YthbcdhfiibpeaaaGreatTm19
import Derived.Test.YthbcdhfiibpeaaaGreatTm20
open List renaming length_map→lB,mem_of_getElem?→ lP
open Go.Sx.AWP renaming range→xC
open Nat renaming reduceBEq→zA,reduceBNe→zB,reduceAdd→zC,reduceSub→zD,reduceMul→zE,reduceLeDiff→zF,reduceLT→zG,reduceEqDiff→zH
open Int renaming reduceToNat→zI,reduceLE→zJ,reduceLT→zK,reduceEq→zL
open Bool renaming not_eq_true'→zM,not_eq_false'→zN
set_option linter.unusedSimpArgs false
set_option linter.unusedVariables false
set_option maxRecDepth 20000
set_option maxHeartbeats 64000000
namespace Go.Proofs.YthbcdhfiibpeaaaGreat
open Go Go.Sx
def a4w (b:Bool):List C:=[.bool b]
theorem a4x (d:List Bool) (i:Nat) (v:Bool):(d.map a4w).set i [C.bool v]=(d.set i v).map a4w:=by rw[List.map_set];rfl
theorem a7i (n:Nat):List.replicate n [C.bool false]=(List.replicate n false).map a4w:=by rw[List.map_replicate];rfl
theorem a7j {l:List Bool} {i:Nat} (h:i<l.length):l[i]?= some (l.getD i false):=by
  rw[List.getD_eq_getElem?_getD,List.getElem?_eq_getElem h];rfl
def rdsB (l:List NodeD):List Bool:=Gr.rds (bo l) (ks l) l.length l.length (List.replicate l.length false)
def wfR (l:List NodeD) (r:Int):Int:=bif inB l r then (bif l.all (a0D l) then (bif (rdsB l).all id then 0 else 3) else 1) else 1
theorem b8k (bo:Nat→Bool) (ks:Nat→List Nat) (d:List Bool):∀ i,(Gr.rdA bo ks d i).length=d.length
  |0=>rfl
  |i+1=>by rw[Gr.rdA,Gr.rdI,List.length_set,b8k bo ks d i]
theorem b8l (bo:Nat→Bool) (ks:Nat→List Nat) (n:Nat) (d:List Bool):∀ i,(Gr.rds bo ks n i d).length=d.length
  |0=>rfl
  |i+1=>by rw[Gr.rds,b8k,b8l bo ks n d i]
theorem c3Z {l:List NodeD} (h:l.all (a0D l)=true):InR l:=by
 intro x hx k hk
 have h1:=List.all_eq_true.1 h x hx
 unfold a0D at h1
 cases ha:x.kids.all (inB l) with
 |false=>rw[ha] at h1;cases h1
 |true=>
  have h2:=List.all_eq_true.1 ha k hk
  simp only[inB,Bool.and_eq_true,decide_eq_true_eq] at h2
  exact h2
theorem c2E (l:List NodeD) (r:Int) (x:NodeD):PC Tryz.prog 49 [.st [.sl 8 (l.map a0c), .int .i64 r], .st [.int .i64 x.kind, .int .i64 x.lo, .int .i64 x.hi, .str x.text, .sl 1 (x.kids.map a0e), .sl 4 (x.fields.map a0i), .int .i64 x.r0, .int .i64 x.r1]] (Bo (a0D l x)):=c3W l r x
theorem a5E (x:NodeD):PC Tryz.prog 50 [.st [.int .i64 x.kind, .int .i64 x.lo, .int .i64 x.hi, .str x.text, .sl 1 (x.kids.map a0e), .sl 4 (x.fields.map a0i), .int .i64 x.r0, .int .i64 x.r1]] (Bo (a3x x.kind)):=b8g x
theorem b2b (l:List NodeD) (r:Int) (hl:TSm l):PC Tryz.prog 12 [Tt l r] (I .i64 (wfR l r)):=by
 have hn:=hl.len
 cases hi:inB l r with
 |false=>
  have e:wfR l r=1:=by unfold wfR;rw[hi];rfl
  rw[e]
  refine PCB.ob Tryz.func12 Tryz.ntmps12 Tryz.results12 ?_
  repeat'(first|(simp only[go_sem,zA,zB,zC,zD,zE,zF,zG,reduceCtorEq,zH,zI,zJ,zK,zL,lB,hi];all_goals refine nf ?_)|(refine stp ?_;intro K hK)|(apply hK;clear hK K)|refine stn ?_|(with_reducible refine⟨_,a0y l r r,?_⟩)|refine stq ?_|(clear hK K))
  all_goals(first|exact fun _ h=>absurd h List.not_mem_nil|refine a0m ?_)
 |true=>
  have e:wfR l r=bif l.all (a0D l) then (bif (rdsB l).all id then 0 else 3) else 1:=by unfold wfR;rw[hi];rfl
  refine PCB.ob Tryz.func12 Tryz.ntmps12 Tryz.results12 ?_
  repeat'(first|(simp only[go_sem,zA,zB,zC,zD,zE,zF,zG,reduceCtorEq,zH,zI,zJ,zK,zL,lB,hi];all_goals refine nf ?_)|(refine stp ?_;intro K hK)|(apply hK;clear hK K)|refine stn ?_|(with_reducible refine⟨_,a0y l r r,?_⟩)|refine stq ?_|fail)
  refine AWP.lenB 1 0 rfl rfl fun hlen0=>?_
  (try rw[lB] at hlen0)
  refine xC (S:=Unit) (l) a0c (fun k s=>(3,I .i64 (k:Nat))::[]) (fun k s=>[]) [1] [1] (fun k s=>(l.take k).all (a0D l)=true) (()) (by refine sts ?_;exact Gh.tt []) ?_ ?_ ?_
  ·simp
  ·intro k s x hlt hx hx' hbb hok
   refine sts ?_
   have hxm:=lP hx
   have hat:=a0K (p:=a0D l) hx
   rw[hok,Bool.true_and] at hat
   cases hp:a0D l x with
   |false=>
    repeat'(first|(simp only[go_sem,zA,zB,zC,zD,zE,zF,zG,reduceCtorEq,zH,zI,zJ,zK,zL,lB,hbb,hp,a0b];all_goals refine nf ?_)|(refine stp ?_;intro K hK)|(apply hK;clear hK K)|refine stn ?_|(with_reducible first|refine⟨by omega,a0c x,hx',?_⟩|refine⟨_,c2E l r x,?_⟩)|(refine a0M ?_;intro K hK)|(clear hK K))
    all_goals(refine a0m ?_;rw[e,a1z hxm hp];rfl)
   |true=>
    repeat'(first|(simp only[go_sem,zA,zB,zC,zD,zE,zF,zG,reduceCtorEq,zH,zI,zJ,zK,zL,lB,hbb,hp,a0b];all_goals refine nf ?_)|(refine stp ?_;intro K hK)|(apply hK;clear hK K)|refine stn ?_|(with_reducible first|refine⟨by omega,a0c x,hx',?_⟩|refine⟨_,c2E l r x,?_⟩)|(refine a0M ?_;intro K hK)|(clear hK K))
    all_goals(rw[a0d hlt hlen0])
    all_goals(refine⟨(),?_,Gh.tt []⟩)
    all_goals(rw[hat,hp])
  ·intro s hbb hok
   refine sts ?_
   rw[List.take_length] at hok
   rw[hok,cond_true] at e
   have hin:=c3Z hok
   repeat'(first|( refine AWP.mkB (id:=8) 3 rfl rfl rfl (by kernel_rfl) (by kernel_rfl) fun K hK=>?_;simp only[List.take_succ_cons,List.take_zero,List.drop_succ_cons,List.drop_zero])|(simp only[go_sem,zA,zB,zC,zD,zE,zF,zG,reduceCtorEq,zH,zI,zJ,zK,zL,lB,hbb,a7i,Int.toNat_natCast];all_goals refine nf ?_)|(refine stp ?_;intro K hK)|(apply hK;clear hK K)|refine stn ?_|(with_reducible refine⟨by omega,by omega,?_⟩)|(clear hK K))
   refine AWP.lenB 1 0 rfl rfl fun hlen1=>?_
   (try rw[lB] at hlen1)
   refine xC (S:=List Bool) (l) a0c (fun k s=>(5,I .i64 (k:Nat))::[(4, .one (.own 33 l.length))]) (fun k s=>[(33, .row 1 (s.map a4w))]) [1] [1] (fun k s=>Is s (Gr.rds (bo l) (ks l) l.length k (List.replicate l.length false))∧s.length=l.length) (List.replicate l.length false) (by refine sts ?_;exact Gh.tt []) ?_ ?_ ?_
   ·exact⟨rfl,by simp⟩
   ·rintro k d x0 hlt hx0 hx0' hbb ⟨hd,hdl⟩
    refine sts ?_
    have hrn:Gr.rds (bo l) (ks l) l.length (k+1) (List.replicate l.length false)=Gr.rdA (bo l) (ks l) d l.length:=by
     rw[Gr.rds,show d=_ from hd]
    repeat'(first|(simp only[go_sem,zA,zB,zC,zD,zE,zF,zG,reduceCtorEq,zH,zI,zJ,zK,zL,lB,hbb];all_goals refine nf ?_)|(refine stp ?_;intro K hK)|(apply hK;clear hK K)|refine stn ?_|fail)
    refine AWP.lenB 1 0 rfl rfl fun hlen2=>?_
    (try rw[lB] at hlen2)
    refine xC (S:=List Bool) (l) a0c (fun k s=>(6,I .i64 (k:Nat))::[(4, .one (.own 33 l.length))]) (fun k s=>[(33, .row 1 (s.map a4w))]) [1,5] [1] (fun k s=>Is s (Gr.rdA (bo l) (ks l) d k)∧s.length=l.length) (d) (by refine sts ?_;exact Gh.tt []) ?_ ?_ ?_
    ·exact⟨rfl,hdl⟩
    ·rintro i c x hlt hx hx' hbb2 ⟨hc,hcl⟩
     refine sts ?_
     have hxm:=lP hx
     have hbo:bo l i=a3x x.kind:=by unfold bo;rw[hx]
     have hks:ks l i=x.kids.map Int.toNat:=by unfold ks;rw[hx]
     have hci:=a7j (l:=c) (i:=i) (by omega)
     have hce:=a0n a4w hci
     obtain⟨v,hv⟩:∃ v,v=c.getD i false:=⟨_,rfl⟩
     have hstep:Gr.rdA (bo l) (ks l) d (i+1)=c.set i (v||(!a3x x.kind||(x.kids.map Int.toNat).all fun k=>c.getD k false)):=by
      rw[Gr.rdA,Gr.rdI,← show c=_ from hc,hbo,hks,hv]
     rw[← hv] at hce
     cases hb:a3x x.kind with
     |false=>
      rw[hb,Bool.not_false,Bool.true_or,Bool.or_true] at hstep
      repeat'(first|(simp only[go_sem,zA,zB,zC,zD,zE,zF,zG,reduceCtorEq,zH,zI,zJ,zK,zL,lB,hbb2];all_goals refine nf ?_)|(refine stp ?_;intro K hK)|(apply hK;clear hK K)|refine stn ?_|fail)
      (try rw[lB] at hlen3)
      refine xC (S:=Unit) (([]:List Int)) a0e (fun k s=>(8,I .i64 (k:Nat))::[(4, .one (.own 33 l.length)),(7,Bo true)]) (fun k s=>[]) [1,5,6] [1,33] (fun k s=>True) (()) (by refine sts ?_;exact Gh.tt []) ?_ ?_ ?_
      ·trivial
      ·intro k2 s2 y2 hlt2 hy2 hy2' hbb3 hok2
       exact absurd hlt2 (Nat.not_lt_zero _)
      ·intro s2 hbb3 hok2
       refine sts ?_
       repeat'(first|(simp only[go_sem,zA,zB,zC,zD,zE,zF,zG,reduceCtorEq,zH,zI,zJ,zK,zL,lB,List.length_nil,hb,hcl,a4x,a4w,a0b,Int.toNat_natCast];all_goals refine nf ?_)|(refine stp ?_;intro K hK)|(apply hK;clear hK K)|refine stn ?_|(refine⟨fun h=>?_,fun h=>?_⟩<;>(try simp only[zM,zN] at h)<;>try simp only[h])|(with_reducible first|refine⟨by omega,a0c x,hx',?_⟩|refine⟨(by omega:_≤_),(by omega:_≤_),(by omega:_<_),?_⟩|refine⟨_,hce,?_⟩|refine⟨_,a5E x,?_⟩)|refine stq ?_|(clear hK K))
       all_goals(rw[a0d hlt hlen2])
       all_goals(refine⟨(c.set i true),?_,Gh.tt []⟩)
       all_goals exact⟨hstep.symm,by rw[List.length_set];exact hcl⟩
     |true=>
      rw[hb,Bool.not_true,Bool.false_or] at hstep
      have hlen3:x.kids.length≤9223372036854775807:=by have:=hl.kids x hxm;omega
      repeat'(first|(simp only[go_sem,zA,zB,zC,zD,zE,zF,zG,reduceCtorEq,zH,zI,zJ,zK,zL,lB,hbb2];all_goals refine nf ?_)|(refine stp ?_;intro K hK)|(apply hK;clear hK K)|refine stn ?_|fail)
      (try rw[lB] at hlen3)
      refine xC (S:=Bool) (x.kids) a0e (fun k s=>(8,I .i64 (k:Nat))::[(4, .one (.own 33 l.length)),(7,Bo s)]) (fun k s=>[]) [1,5,6] [1,33] (fun k s=>Is s ((x.kids.take k).all fun y=>c.getD y.toNat false)) (true) (by refine sts ?_;exact Gh.tt []) ?_ ?_ ?_
      ·rfl
      ·intro k2 s2 y hlt hy hy' hbb3 hok2
       refine sts ?_
       have hym:=hin x hxm y (lP hy)
       have hcy:=a0n a4w (a7j (l:=c) (i:=y.toNat) (by omega))
       have hat2:=a0K (p:=fun y:Int=>c.getD y.toNat false) hy
       cases s2
       ·
        repeat'(first|(simp only[go_sem,zA,zB,zC,zD,zE,zF,zG,reduceCtorEq,zH,zI,zJ,zK,zL,lB,hb,hbb3,hcl,a4w,a0e,a0b,Int.toNat_natCast];all_goals refine nf ?_)|(refine stp ?_;intro K hK)|(apply hK;clear hK K)|refine stn ?_|(with_reducible first|refine⟨by omega,a0c x,hx',?_⟩|refine⟨_,a5E x,?_⟩)|refine stq ?_|(clear hK K))
        all_goals(rw[a0d hlt hlen3])
        all_goals(refine⟨false,?_,Gh.tt []⟩)
        all_goals(rw[Is,hat2,← show false=_ from hok2];rfl)
       ·
        repeat'(first|(simp only[go_sem,zA,zB,zC,zD,zE,zF,zG,reduceCtorEq,zH,zI,zJ,zK,zL,lB,hb,hbb3,hcl,a4w,a0e,a0b,Int.toNat_natCast];all_goals refine nf ?_)|(refine stp ?_;intro K hK)|(apply hK;clear hK K)|refine stn ?_|(with_reducible first|refine⟨by omega,a0c x,hx',?_⟩|refine⟨(by omega:_≤_),(by omega:_≤_),(by omega:_<_),?_⟩|refine⟨_,a5E x,?_⟩|refine⟨by omega,a0e y,hy',?_⟩|refine⟨_,hcy,?_⟩)|refine stq ?_|(clear hK K))
        all_goals(rw[a0d hlt hlen3])
        all_goals(refine⟨(c.getD y.toNat false),?_,Gh.tt []⟩)
        all_goals(rw[Is,hat2,← show true=_ from hok2];rfl)
      ·intro s2 hbb3 hok2
       refine sts ?_
       rw[List.take_length] at hok2
       have hall:((x.kids.map Int.toNat).all fun k=>c.getD k false)=s2:=by
        rw[show s2=_ from hok2,List.all_map];rfl
       rw[hall] at hstep
       cases v
       ·
        rw[Bool.false_or] at hstep
        repeat'(first|(simp only[go_sem,zA,zB,zC,zD,zE,zF,zG,reduceCtorEq,zH,zI,zJ,zK,zL,lB,hb,hbb3,hcl,a4x,a4w,a0b,Int.toNat_natCast];all_goals refine nf ?_)|(refine stp ?_;intro K hK)|(apply hK;clear hK K)|refine stn ?_|(with_reducible first|refine⟨by omega,a0c x,hx',?_⟩|refine⟨(by omega:_≤_),(by omega:_≤_),(by omega:_<_),?_⟩|refine⟨_,hce,?_⟩|refine⟨_,a5E x,?_⟩)|refine stq ?_|(clear hK K))
        all_goals(rw[a0d hlt hlen2])
        all_goals(refine⟨(c.set i s2),?_,Gh.tt []⟩)
        all_goals exact⟨hstep.symm,by rw[List.length_set];exact hcl⟩
       ·
        rw[Bool.true_or] at hstep
        repeat'(first|(simp only[go_sem,zA,zB,zC,zD,zE,zF,zG,reduceCtorEq,zH,zI,zJ,zK,zL,lB,hb,hbb3,hcl,a4x,a4w,a0b,Int.toNat_natCast];all_goals refine nf ?_)|(refine stp ?_;intro K hK)|(apply hK;clear hK K)|refine stn ?_|(with_reducible first|refine⟨by omega,a0c x,hx',?_⟩|refine⟨(by omega:_≤_),(by omega:_≤_),(by omega:_<_),?_⟩|refine⟨_,hce,?_⟩|refine⟨_,a5E x,?_⟩)|refine stq ?_|(clear hK K))
        all_goals(rw[a0d hlt hlen2])
        all_goals(refine⟨(c.set i true),?_,Gh.tt []⟩)
        all_goals exact⟨hstep.symm,by rw[List.length_set];exact hcl⟩
    ·rintro c hbb2 ⟨hc,hcl⟩
     refine sts ?_
     repeat'(first|(simp only[go_sem,zA,zB,zC,zD,zE,zF,zG,reduceCtorEq,zH,zI,zJ,zK,zL,lB,hbb2];all_goals refine nf ?_)|(refine stp ?_;intro K hK)|(apply hK;clear hK K)|refine stn ?_|(clear hK K))
     all_goals(rw[a0d hlt hlen1])
     all_goals(refine⟨c,?_,Gh.tt []⟩)
     all_goals exact⟨by rw[Is,hrn];exact hc,hcl⟩
   ·rintro d hbb ⟨hd,hdl⟩
    refine sts ?_
    have hdd:d=rdsB l:=hd
    repeat'(first|(simp only[go_sem,zA,zB,zC,zD,zE,zF,zG,reduceCtorEq,zH,zI,zJ,zK,zL,lB,hbb];all_goals refine nf ?_)|(refine stp ?_;intro K hK)|(apply hK;clear hK K)|refine stn ?_|(clear hK K))
    have hlen4:d.length≤9223372036854775807:=by omega
    (try rw[lB] at hlen4)
    refine xC (S:=Unit) (d) a4w (fun k s=>(9,I .i64 (k:Nat))::[(4, .one (.own 33 l.length))]) (fun k s=>[]) [] [1,33] (fun k s=>(d.take k).all id=true) (()) (by refine sts ?_;exact Gh.tt []) ?_ ?_ ?_
    ·rfl
    ·intro k s2 v hlt hv hv' hbb2 hok2
     refine sts ?_
     have hat:=a0K (p:=id) hv
     rw[hok2,Bool.true_and] at hat
     rw[hdl] at hbb2
     cases v
     ·
      repeat'(first|(simp only[go_sem,zA,zB,zC,zD,zE,zF,zG,reduceCtorEq,zH,zI,zJ,zK,zL,lB,hdl,hbb2,a4w];all_goals refine nf ?_)|(refine stp ?_;intro K hK)|(apply hK;clear hK K)|refine stn ?_|(with_reducible first|refine⟨(by omega:_≤_),(by omega:_≤_),(by omega:_<_),?_⟩|refine⟨_,hv',?_⟩)|(clear hK K))
      all_goals(refine a0m ?_;rw[e,← hdd,a1z (lP hv) rfl];rfl)
     ·
      repeat'(first|(simp only[go_sem,zA,zB,zC,zD,zE,zF,zG,reduceCtorEq,zH,zI,zJ,zK,zL,lB,hdl,hbb2,a4w];all_goals refine nf ?_)|(refine stp ?_;intro K hK)|(apply hK;clear hK K)|refine stn ?_|(with_reducible first|refine⟨(by omega:_≤_),(by omega:_≤_),(by omega:_<_),?_⟩|refine⟨_,hv',?_⟩)|(clear hK K))
      all_goals(rw[a0d hlt hlen4])
      all_goals(refine⟨(),?_,Gh.tt []⟩)
      all_goals(rw[hat];rfl)
    ·intro s2 hbb2 hok2
     refine sts ?_
     rw[List.take_length] at hok2
     rw[hdl] at hbb2
     repeat'(first|(simp only[go_sem,zA,zB,zC,zD,zE,zF,zG,reduceCtorEq,zH,zI,zJ,zK,zL,lB,hdl,hbb2];all_goals refine nf ?_)|(refine stp ?_;intro K hK)|(apply hK;clear hK K)|refine stn ?_|(clear hK K))
     all_goals(refine a0m ?_;rw[e,← hdd,hok2];rfl)
theorem c04 (l:List NodeD) (x:NodeD):((edgeL x).all fun e=>!a3W l e)=((x.kids.all (inB l)&&x.fields.all fun f=>inB l f.node)&&bif decide (x.kind=13) then inB l x.r0&&inB l x.r1 else true):=by
  have h:(fun e=>!a3W l e)=inB l:=by funext e;rw[b8f]
  rw[h]
  unfold edgeL
  rw[List.all_append,List.all_append,List.all_map]
  cases decide (x.kind=13)<;>simp[Function.comp_def]
theorem b4A (l:List NodeD):∀ (fs:List FieldD) (p:Option KeyD),b7s l p fs=(b03 p fs&&fs.all fun f=>inB l f.node)
 |[],p=>rfl
 |f::fs,p=>by
  rw[List.all_cons]
  cases p with
  |none=>
   simp only[b7s,b03,b4A l fs]
   cases inB l f.node<;>cases a0s f.key<;>cases b03 (some f.key) fs<;>simp
  |some k=>
   simp only[b7s,b03,b4A l fs,b3b]
   cases inB l f.node<;>cases a0s f.key<;>cases decide (a4s k f.key≥0)<;>cases b03 (some f.key) fs<;>simp
theorem b8m (l:List NodeD) (x:NodeD):a0D l x=a1A l x:=by
 have hK:decide ((x.kids.length:Int)=0)=true→x.kids.all (inB l)=true:=by
  intro h
  have:x.kids=[]:=by simpa using h
  rw[this];rfl
 have hF:decide ((x.fields.length:Int)=0)=true→(x.fields.all fun f=>inB l f.node)=true:=by
  intro h
  have:x.fields=[]:=by simpa using h
  rw[this];rfl
 have hp:decide (0<(x.fields.length:Int))=!decide ((x.fields.length:Int)=0):=by
  rw[← Bool.coe_iff_coe];simp only[decide_eq_true_eq,Bool.not_eq_true',decide_eq_false_iff_not];omega
 unfold a0D a1A a1J a5v
 rw[c04]
 rcases c2z x.kind with hk|hk|hk|hk|hk|hk|hk|hk|hk|hk|hk|hk|hk|hk|hk|hk|hk|hk|hk|hk
 iterate 19
  ·simp only[a33,a1m,a1v,a0z,a1n,hk,hp,b4A,Int.reduceEq,decide_false,decide_true,Bool.not_true,Bool.not_false,Bool.or_true,Bool.true_or,Bool.or_false,Bool.false_or,Bool.and_true,Bool.true_and,Bool.and_false,Bool.false_and,cond_true,cond_false]
   generalize decide ((x.kids.length:Int)=0)=d at*
   generalize decide ((x.fields.length:Int)=0)=f at*
   generalize decide (x.lo=0)=a1
   generalize decide (x.hi=0)=a2
   generalize decide (x.text=[])=a3
   generalize decide (x.r0=0)=a4
   generalize decide (x.r1=0)=a5
   generalize x.kids.all (inB l)=K at*
   generalize (x.fields.all fun f=>inB l f.node)=F at*
   generalize decide (x.lo≤x.hi)=b1
   generalize decide ((x.text.length:Int)≤64)=b2
   generalize a2g x.text=b3
   generalize a0A x.text=b4
   generalize decide ((x.kids.length:Int)≤4)=b5
   generalize decide ((x.kids.length:Int)≤5)=b6
   generalize decide (1≤(x.kids.length:Int))=b7
   generalize decide ((x.kids.length:Int)=1)=b8
   generalize decide ((x.kids.length:Int)=2)=b9
   generalize b03 none x.fields=b10
   generalize inB l x.r0=b11
   generalize inB l x.r1=b12
   clear hp hk
   cases d<;>cases f<;>cases K<;>cases F<;>simp only[Bool.false_eq_true,false_imp_iff,true_imp_iff,reduceCtorEq] at hK hF ⊢ <;>simp only[Bool.not_true,Bool.not_false,Bool.or_true,Bool.true_or,Bool.or_false,Bool.false_or,Bool.and_true,Bool.true_and,Bool.and_false,Bool.false_and,cond_true,cond_false]<;>cases a1<;>cases a2<;>cases a3<;>simp only[Bool.not_true,Bool.not_false,Bool.or_true,Bool.true_or,Bool.or_false,Bool.false_or,Bool.and_true,Bool.true_and,Bool.and_false,Bool.false_and,cond_true,cond_false]<;>cases a4<;>cases a5<;>simp
 ·have hv:a0z x=false:=by
   simp only[a0z,hk.g1,hk.g2,hk.g3,hk.g4,hk.g5,hk.g6,hk.g7,hk.g8,hk.g9,hk.g10,hk.g11,hk.g12,hk.g13,hk.g14,hk.g15,hk.g16,hk.g17,hk.g18,hk.g19,Bool.or_false,cond_false]
  have hr:a1n l x=false:=by
   simp only[a1n,hk.g1,hk.g2,hk.g3,hk.g4,hk.g5,hk.g6,hk.g7,hk.g8,hk.g9,hk.g10,hk.g11,hk.g12,hk.g13,hk.g14,hk.g15,hk.g16,hk.g17,hk.g18,hk.g19,Bool.or_false,cond_false]
  rw[hv,hr,Bool.false_and,Bool.and_false]
  cases x.kids.all (inB l)<;>cases a1m x<;>cases a1v x<;>rfl
theorem c05 (l:List NodeD):l.all (a0D l)=l.all (a1A l):=by
  have:a0D l=a1A l:=by funext x;exact b8m l x
  rw[this]
theorem b6E {l:List NodeD} (h:InR l):∀ i,i<l.length→∀ k∈ks l i,k<l.length:=by
  intro i hi k hk
  unfold ks at hk
  rw[List.getElem?_eq_getElem hi] at hk
  obtain⟨y,hy,rfl⟩:=List.mem_map.1 hk
  have:=h _ (List.getElem_mem hi) y hy
  omega
theorem b6F {l:List NodeD} (h:InR l):(rdsB l).all id=a6y l:=by
 have h1:=Gr.all_iff (bo l) (ks l) l.length (b6E h)
 have h2:=Gr.rds_iff (bo l) (ks l) l.length (b6E h)
 have hlen:(rdsB l).length=l.length:=by unfold rdsB;rw[b8l];simp
 rw[← Bool.coe_iff_coe]
 refine Iff.trans ?_ h1.symm
 rw[← h2,List.all_eq_true]
 show (∀ b∈rdsB l,b=true)↔ ∀ j,j<l.length→(rdsB l).getD j false=true
 constructor
 ·intro h j hj
  exact h _ (lP (a7j (by omega)))
 ·intro h b hb
  obtain⟨j,hj,rfl⟩:=List.mem_iff_getElem.1 hb
  have:=h j (by omega)
  rw[List.getD_eq_getElem?_getD,List.getElem?_eq_getElem hj] at this
  exact this
theorem c30 (l:List NodeD) (r:Int):wfR l r=wfP l r:=by
 unfold wfR wfP
 rw[c05,b8f]
 cases a3W l r
 ·cases ha:l.all (a1A l)
  ·rfl
  ·rw[b6F (a8y ha)];rfl
 ·rfl
def es (l:List NodeD) (i:Nat):List Nat:=match l[i]? with
  |some x=>(edgeL x).map Int.toNat
  |none=>[]
def InE (l:List NodeD):Prop:=∀ x∈l,∀ k∈edgeL x,0≤k∧k<(l.length:Int)
theorem b8n {l:List NodeD} (h:l.all (a1A l)=true):InE l:=by
  intro x hx k hk
  have h1:=List.all_eq_true.1 h x hx
  simp only[a1A,Bool.and_eq_true] at h1
  have h2:=List.all_eq_true.1 h1.2.2 k hk
  simp only[a3W,Bool.not_eq_true',Bool.or_eq_false_iff,decide_eq_false_iff_not] at h2
  omega
theorem c06 {l:List NodeD} (h:InE l):∀ i,i<l.length→∀ k∈es l i,k<l.length:=by
  intro i hi k hk
  unfold es at hk
  rw[List.getElem?_eq_getElem hi] at hk
  obtain⟨y,hy,rfl⟩:=List.mem_map.1 hk
  have:=h _ (List.getElem_mem hi) y hy
  omega
def cloR (l:List NodeD) (r:Int) (st:List Bool):Bx:=[(1000000, .row 1 (st.map a4w)),(1000001, .cells [.own 1000000 l.length]),(1000002, .cells (tyB l r)),(1000003, .cells [.clo 140 [.ptr 1000001 0, .ptr 1000002 0, .ptr 1000003 0]])]
attribute [go_sem] cloR
theorem c31 (l:List NodeD) (r:Int) (hr:InE l) (hl:TSm l):∀ (f:Nat) (st:List Bool) (i:Int),0≤i→i<(l.length:Int)→st.length=l.length→Gr.zeB st<f→
  PCB Tryz.prog 140 [I .i64 i, .one (.ptr 1000001 0), .one (.ptr 1000002 0), .one (.ptr 1000003 0)] (cloR l r st) (.tup []) (cloR l r (Gr.dfR (es l) f st i.toNat)):=by
 have hll:=hl.len
 intro f
 induction f with
 |zero=>intro st i _ _ _ h;omega
 |succ f ih=>
  intro st i h0 hi hst hz
  have hin:i.toNat<l.length:=by omega
  have hx:l[i.toNat]?= some l[i.toNat]:=List.getElem?_eq_getElem hin
  obtain⟨x,hxe⟩:∃ x,x=l[i.toNat]:=⟨_,rfl⟩
  rw[← hxe] at hx
  have hxe2:=a0n a0c hx
  have hs:=a7j (l:=st) (i:=i.toNat) (by omega)
  obtain⟨v,hv⟩:∃ v,v=st.getD i.toNat false:=⟨_,rfl⟩
  rw[← hv] at hs
  have hse:=a0n a4w hs
  have hes:es l i.toNat=(edgeL x).map Int.toNat:=by unfold es;rw[hx]
  cases v with
  |true=>
   have e:Gr.dfR (es l) (f+1) st i.toNat=st:=by rw[Gr.dfR,← hv];rfl
   rw[e]
   refine PCB.ob Tryz.func140 Tryz.ntmps140 Tryz.results140 ?_
   repeat'(first|(simp only[go_sem,zA,zB,zC,zD,zE,zF,zG,reduceCtorEq,zH,zI,zJ,zK,zL,lB,hst,a4w];all_goals refine nf ?_)|(refine stp ?_;intro K hK)|(apply hK;clear hK K)|refine stn ?_|(with_reducible first|refine⟨(by omega:_≤_),(by omega:_≤_),(by omega:_<_),?_⟩|refine⟨_,hse,?_⟩)|(clear hK K))
   all_goals exact fun _ h=>h
  |false=>
   have e:Gr.dfR (es l) (f+1) st i.toNat=Gr.lstR (Gr.dfR (es l) f) (st.set i.toNat true) ((edgeL x).map Int.toNat):=by rw[Gr.dfR,← hv,hes];rfl
   have hxm:x∈l:=lP hx
   have hz1:=Gr.zeB_set st i.toNat (by omega) hv.symm
   rw[e]
   refine PCB.ob Tryz.func140 Tryz.ntmps140 Tryz.results140 ?_
   repeat'(first|(simp only[go_sem,zA,zB,zC,zD,zE,zF,zG,reduceCtorEq,zH,zI,zJ,zK,zL,lB,hst,a4w,a0b,a4x];all_goals refine nf ?_)|(refine stp ?_;intro K hK)|(apply hK;clear hK K)|refine stn ?_|(with_reducible first|refine⟨(by omega:_≤_),(by omega:_≤_),(by omega:_<_),?_⟩|refine⟨_,hse,?_⟩|refine⟨by omega,_,hxe2,?_⟩|refine⟨_,b8e x (hl.kids x hxm) (hl.fields x hxm),?_⟩)|refine stq ?_|fail)
   refine AWP.len 19 rfl fun hlen0=>?_
   (try rw[lB] at hlen0)
   refine xC (S:=List Bool) (edgeL x) a0e (fun k s=>(21,I .i64 (k:Nat))::[]) (fun k s=>[(1000000, .row 1 (s.map a4w))]) [3,19,20] [1000001,1000002,1000003] (fun k s=>Is (Gr.lstR (Gr.dfR (es l) f) (st.set i.toNat true) ((edgeL x).map Int.toNat)) (Gr.lstR (Gr.dfR (es l) f) s (((edgeL x).drop k).map Int.toNat))∧s.length=l.length∧Gr.zeB s<f) (st.set i.toNat true) (by simp only[go_sem,zA,zB,zC,zD,zE,zF,zG,reduceCtorEq,zH,zI,zJ,zK,zL,a4x];exact Gh.tt []) ?_ ?_ ?_
   ·exact⟨rfl,by rw[List.length_set];exact hst,by omega⟩
   ·rintro k s y hlt hy hy' hbb ⟨hok,hsl,hzs⟩
    refine sts ?_
    have hym:=hr x hxm y (lP hy)
    have hd:(edgeL x).drop k=y::(edgeL x).drop (k+1):=by
     obtain⟨hk,e⟩:=List.getElem?_eq_some_iff.1 hy
     rw[List.drop_eq_getElem_cons hk,e]
    have hI:=ih s y hym.1 hym.2 hsl hzs
    have hg:=Gr.dfR_ok (es l) l.length (c06 hr) f s y.toNat hsl (by omega) hzs
    have hlen:=hg.len
    have hzer:=Gr.zeB_mono s _ hlen.symm hg.sub
    unfold Is at hok
    rw[hd,List.map_cons,Gr.lstR] at hok
    repeat'(first|(simp only[go_sem,zA,zB,zC,zD,zE,zF,zG,reduceCtorEq,zH,zI,zJ,zK,zL,lB,hsl,hbb,a0e,Bx.puts];all_goals refine nf ?_)|(refine stp ?_;intro K hK)|(apply hK;clear hK K)|refine stn ?_|(with_reducible refine⟨by omega,a0e y,hy',?_⟩)|( refine Or.inr ⟨_,_,_,hI,⟨rfl,rfl,rfl,rfl,trivial⟩,rfl,rfl,?_⟩)|fail)
    all_goals(rw[a0d hlt hlen0])
    all_goals(refine⟨(Gr.dfR (es l) f s y.toNat),?_,Gh.tt []⟩)
    all_goals exact⟨hok,by rw[hlen,hsl],by omega⟩
   ·rintro s hbb ⟨hok,hsl,hzs⟩
    refine sts ?_
    unfold Is at hok
    rw[List.drop_length,List.map_nil,Gr.lstR] at hok
    repeat'(first|(simp only[go_sem,zA,zB,zC,zD,zE,zF,zG,reduceCtorEq,zH,zI,zJ,zK,zL,lB,hsl,hbb];all_goals refine nf ?_)|(refine stp ?_;intro K hK)|(apply hK;clear hK K)|refine stn ?_|(clear hK K))
    all_goals(rw[hok];exact fun _ h=>h)
def rhoR (k:Nat):Nat:=bif k==1000000 then 8 else bif k==1000001 then 3 else bif k==1000002 then 1 else 4
theorem c32 (l:List NodeD) (r:Int) (hr:InE l) (hl:TSm l) (f:Nat) (st:List Bool) (i:Int) (h0:0≤i) (hi:i<(l.length:Int)) (hs:st.length=l.length) (hz:Gr.zeB st<f):
  PCB Tryz.prog 140 [I .i64 i, .one (.ptr 3 0), .one (.ptr 1 0), .one (.ptr 4 0)] [(8, .row 1 (st.map a4w)),(3, .cells [.own 8 l.length]),(1, .cells (tyB l r)),(4, .cells [.clo 140 [.ptr 3 0, .ptr 1 0, .ptr 4 0]])] (.tup [])
   [(8, .row 1 ((Gr.dfR (es l) f st i.toNat).map a4w)),(3, .cells [.own 8 l.length]),(1, .cells (tyB l r)),(4, .cells [.clo 140 [.ptr 3 0, .ptr 1 0, .ptr 4 0]])]:=
 (c31 l r hr hl f st i h0 hi hs hz).ren rhoR rfl rfl rfl rfl rfl rfl
def a1S (l:List NodeD) (r:Int):List Bool:=Gr.dfR (es l) (l.length+1) (List.replicate l.length false) r.toNat
abbrev BsP (l:List Bool):T:= .one (.dat (.sl 1 (l.map a4w)))
theorem a4y {l:List NodeD} {r:Int} (hr:InE l) (h0:0≤r) (hi:r<(l.length:Int)):(a1S l r).length=l.length:=
  Gr.dfR_len (es l) l.length (c06 hr) r.toNat (by omega)
theorem b8o (l:List NodeD) (r:Int) (hr:InE l) (hl:TSm l) (h0:0≤r) (hi:r<(l.length:Int)):PC Tryz.prog 102 [Tt l r] (BsP (a1S l r)):=by
  have hll:=hl.len
  have hI:=c32 l r hr hl (l.length+1) (List.replicate l.length false) r h0 hi (by simp) (by have:=Gr.zeB_le (List.replicate l.length false);simp at this;omega)
  rw[show Gr.dfR (es l) (l.length+1) (List.replicate l.length false) r.toNat=a1S l r from rfl] at hI
  have hln:=a4y hr h0 hi
  refine PCB.ob Tryz.func102 Tryz.ntmps102 Tryz.results102 ?_
  refine AWP.ghQ ?_
  repeat'(first|( refine AWP.mkB (id:=1) 3 rfl rfl rfl (by kernel_rfl) (by kernel_rfl) fun K hK=>?_;simp only[List.take_succ_cons,List.take_zero,List.drop_succ_cons,List.drop_zero])|( refine AWP.cloR (id:=3) (by kernel_rfl) rfl rfl rfl (by with_unfolding_all rfl) ?_)|(simp only[go_sem,zA,zB,zC,zD,zE,zF,zG,reduceCtorEq,zH,zI,zJ,zK,zL,lB,a7i,Int.toNat_natCast,Bx.puts];all_goals refine nf ?_)|(refine stp ?_;intro K hK)|(apply hK;clear hK K)|refine stn ?_|(with_reducible refine⟨by omega,by omega,?_⟩)|( refine Or.inr ⟨_,_,_,hI,⟨rfl,rfl,rfl,rfl,trivial⟩,rfl,rfl,?_⟩)|fail)
  refine⟨_,Gh.freeze 8 rfl rfl (by simp only[go_sem,zA,zB,zC,zD,zE,zF,zG,reduceCtorEq,zH,zI,zJ,zK,zL,lB,hln]) (by simp only[go_sem,zA,zB,zC,zD,zE,zF,zG,reduceCtorEq,zH,zI,zJ,zK,zL,lB,hln]),?_⟩
  simp only[go_sem,zA,zB,zC,zD,zE,zF,zG,reduceCtorEq,zH,zI,zJ,zK,zL,lB,hln]
  all_goals(first|exact fun _ h=>absurd h List.not_mem_nil|refine a0m ?_)
end Go.Proofs.YthbcdhfiibpeaaaGreat


