/- Lemmas of the proof. -/
import Derived.Test.YthbcdhfiibpeaaaGreatTm12
open List renaming length_map→lB
open Nat renaming reduceBEq→zA,reduceBNe→zB,reduceAdd→zC,reduceSub→zD,reduceMul→zE,reduceLeDiff→zF,reduceLT→zG,reduceEqDiff→zH
open Int renaming reduceToNat→zI,reduceLE→zJ,reduceLT→zK,reduceEq→zL
open Bool renaming not_eq_true'→zM,not_eq_false'→zN
set_option linter.unusedSimpArgs false
set_option linter.unusedVariables false
set_option maxRecDepth 20000
set_option maxHeartbeats 64000000
namespace Go.Proofs.YthbcdhfiibpeaaaGreat
open Go Go.Sx
abbrev Nt (x:NodeD):T:= .st (a0c x)
abbrev IsP (l:List Int):T:= .one (.dat (.sl 1 (l.map a0e)))
abbrev FsP (l:List FieldD):T:= .one (.dat (.sl 4 (l.map a0i)))
@[go_sem] theorem eqsR (a b c d:Int):a6v Tryz.prog 6 58 [.int .i64 a, .int .i64 b] [.int .i64 c, .int .i64 d]=some (decide (a=c)&&decide (b=d)):=by kernel_rfl
@[go_sem] theorem eqgR:Go.Program.eqGuardType Tryz.prog (Go.Program.depth Tryz.prog) 58=false:=by kernel_rfl
def a5v (s:Bool×Bool×Bool×Bool) (x:NodeD):Bool:=(((s.1||(decide (x.lo=0)&&decide (x.hi=0)))&&(s.2.1||decide (x.text=[])))&&(s.2.2.1||decide ((x.kids.length:Int)=0)))&&(s.2.2.2||(decide ((x.fields.length:Int)=0)&&(decide (x.r0=0)&&decide (x.r1=0))))
def a33 (k:Int):Bool×Bool×Bool×Bool:=
  bif decide (k=3) then (true,false,false,false) else
  bif decide (k=4)||(decide (k=6)||decide (k=19)) then (false,true,false,false) else
  bif decide (k=10)||(decide (k=12)||(decide (k=14)||(decide (k=16)||(decide (k=17)||decide (k=18))))) then (false,false,true,false) else
  (false,false,false,decide (k=13))
theorem b4s (x:NodeD):PC Tryz.prog 58 [Nt x] (Bo (a5v (a33 x.kind) x)):=by
  refine PCB.ob Tryz.func58 Tryz.ntmps58 Tryz.results58 ?_
  repeat'(first|(with_reducible refine AWP.join (id:=2) (fun s:Bool×Bool×Bool×Bool=>[(3,Bo s.1),(4,Bo s.2.1),(5,Bo s.2.2.1),(6,Bo s.2.2.2)]) (fun _=>[]) [1] [1] (fun s=>Is (a33 x.kind) s) ?_ ?_)|(simp only[go_sem,zA,zB,zC,zD,zE,zF,zG,reduceCtorEq,zH,zI,zJ,zK,zL,a0b,lB];all_goals refine nf ?_)|(refine stp ?_;intro K hK)|(apply hK;clear hK K)|refine stn ?_|(refine AWP.cnd ?_ ?_<;>intro h<;>(try simp only[zM,zN] at h))|fail)
  all_goals(try(exfalso;simp_all;done))
  all_goals(try(refine⟨a33 x.kind,rfl,?_⟩;simp only[a33, *, Bool.or_true,Bool.true_or,Bool.or_false,Bool.false_or,cond_true,cond_false];exact Gh.tt []))
  intro s hs
  rw[show a33 x.kind=s from hs]
  obtain⟨a,b,c,d⟩:=s
  clear hs
  repeat'(first|(simp only[go_sem,zA,zB,zC,zD,zE,zF,zG,reduceCtorEq,zH,zI,zJ,zK,zL,a0b,lB];all_goals refine nf ?_)|(refine stp ?_;intro K hK)|(apply hK;clear hK K)|refine stn ?_|(refine⟨fun h=>?_,fun h=>?_⟩<;>(try simp only[zM,zN] at h)<;>try simp only[h])|fail)
  all_goals(refine a0m ?_;simp only[a5v, *, Bool.or_true,Bool.true_or,Bool.or_false,Bool.false_or,Bool.and_true,Bool.true_and,Bool.and_false,Bool.false_and])
def b03:Option KeyD→List FieldD→Bool
  |_,[]=>true
  |p,f::l=>bif !a0s f.key||(match p with|some k=>decide (a4s k f.key≥0)|none=>false) then false else b03 (some f.key) l
def a8Q (l:List FieldD):Nat→Option KeyD
  |0=>none
  |k+1=>(l[k]?).map (·.key)
theorem a10 (k:KeyD):PC Tryz.prog 138 [.st [.int .i64 k.kind, .str k.text]] (Bo (a0s k)):=a9x k
theorem a34 (a b:KeyD):PC Tryz.prog 139 [.st [.int .i64 a.kind, .str a.text], .st [.int .i64 b.kind, .str b.text]] (I .i64 (a4s a b)):=a7b a b
theorem encField_lit (f:FieldD):a0i f=[.int .i64 f.key.kind, .str f.key.text, .int .i64 f.node, .bool f.opt]:=rfl
theorem b17 (l:List FieldD):PC Tryz.prog 98 [FsP l] (Bo (b03 none l)):=by
 refine PCB.ob Tryz.func98 Tryz.ntmps98 Tryz.results98 ?_
 repeat'(first|(simp only[go_sem,zA,zB,zC,zD,zE,zF,zG,reduceCtorEq,zH,zI,zJ,zK,zL,lB];all_goals refine nf ?_)|(refine stp ?_;intro K hK)|(apply hK;clear hK K)|refine stn ?_|fail)
 refine AWP.len 0 rfl fun hlen0=>?_
 (try rw[lB] at hlen0)
 refine AWP.range (S:=Unit) (l) a0i (fun k s=>(7,I .i64 (k:Nat))::[]) (fun k s=>[]) [0,5,6] [] (fun k s=>Is (b03 none l) (b03 (a8Q l k) (l.drop k))) (()) (by refine sts ?_;exact Gh.tt []) ?_ ?_ ?_
 ·rfl
 ·intro k s y hlt hy hy' hbb hok
  refine sts ?_
  have hd:l.drop k=y::l.drop (k+1):=by
   obtain⟨hk,e⟩:=List.getElem?_eq_some_iff.1 hy
   rw[List.drop_eq_getElem_cons hk,e]
  have hn:a8Q l (k+1)=some y.key:=by simp only[a8Q,hy,Option.map_some]
  unfold Is at hok
  rw[hd] at hok
  by_cases hk0:k=0
  ·have hg:decide ((0:Int)<(k:Int))=false:=by simp[hk0]
   have hp0:a8Q l k=none:=by rw[hk0];rfl
   rw[hp0] at hok
   have hv0:b03 none l=bif !a0s y.key then false else b03 (some y.key) (l.drop (k+1)):=by rw[hok];show (bif !a0s y.key||false then _ else _)=_;rw[Bool.or_false]
   cases hv:a0s y.key<;>rw[hv] at hv0
   ·
    repeat'(first|(simp only[go_sem,zA,zB,zC,zD,zE,zF,zG,reduceCtorEq,zH,zI,zJ,zK,zL,lB,hbb,hv,hg,encField_lit];all_goals refine nf ?_)|(refine stp ?_;intro K hK)|(apply hK;clear hK K)|refine stn ?_|(with_reducible first|refine⟨by omega,a0i y,hy',?_⟩|refine⟨_,a10 y.key,?_⟩)|(refine a0M ?_;intro K hK)|(clear hK K))
    all_goals(refine a0m ?_;rw[hv0];rfl)
   ·
    repeat'(first|(simp only[go_sem,zA,zB,zC,zD,zE,zF,zG,reduceCtorEq,zH,zI,zJ,zK,zL,lB,hbb,hv,hg,encField_lit];all_goals refine nf ?_)|(refine stp ?_;intro K hK)|(apply hK;clear hK K)|refine stn ?_|(with_reducible first|refine⟨by omega,a0i y,hy',?_⟩|refine⟨_,a10 y.key,?_⟩)|(refine a0M ?_;intro K hK)|(clear hK K))
    all_goals(rw[a0d hlt hlen0])
    all_goals(refine⟨(),?_,Gh.tt []⟩)
    all_goals(rw[hn];exact hv0)
  ·have hg:decide ((0:Int)<(k:Int))=true:=by simp;omega
   obtain⟨j,rfl⟩:∃ j,k=j+1:=⟨k-1,by omega⟩
   obtain⟨z,hz⟩:∃ z,l[j]?= some z:=⟨l[j],List.getElem?_eq_getElem (by omega)⟩
   have hz':=a0n a0i hz
   have hp:a8Q l (j+1)=some z.key:=by simp only[a8Q,hz,Option.map_some]
   rw[hp,b03] at hok
   have hw:IntKind.i64.wrap (((j+1:Nat):Int)-1)=(j:Int):=by rw[w64 (by omega)];omega
   obtain⟨k,hkk⟩:∃ k,k=j+1:=⟨_,rfl⟩
   simp only[← hkk] at*
   cases hv:a0s y.key<;>rw[hv] at hok
   ·
    repeat'(first|(simp only[go_sem,zA,zB,zC,zD,zE,zF,zG,reduceCtorEq,zH,zI,zJ,zK,zL,lB,hbb,hv,hg,hw,encField_lit];all_goals refine nf ?_)|(refine stp ?_;intro K hK)|(apply hK;clear hK K)|refine stn ?_|(with_reducible first|refine⟨by omega,a0i y,hy',?_⟩|refine⟨_,a10 y.key,?_⟩)|(refine a0M ?_;intro K hK)|(clear hK K))
    all_goals(refine a0m ?_;rw[hok];rfl)
   ·cases hc:decide (a4s z.key y.key≥0)<;>rw[hc] at hok
    ·
     repeat'(first|(simp only[go_sem,zA,zB,zC,zD,zE,zF,zG,reduceCtorEq,zH,zI,zJ,zK,zL,lB,hbb,hv,hc,hw,hg,encField_lit];all_goals refine nf ?_)|(refine stp ?_;intro K hK)|(apply hK;clear hK K)|refine stn ?_|(with_reducible first|refine⟨by omega,a0i y,hy',?_⟩|refine⟨by omega,_,hz',?_⟩|refine⟨_,a10 y.key,?_⟩|refine⟨_,a34 z.key y.key,?_⟩)|(refine a0M ?_;intro K hK)|(clear hK K))
     all_goals(rw[a0d hlt hlen0])
     all_goals(refine⟨(),?_,Gh.tt []⟩)
     all_goals(rw[hn];exact hok)
    ·
     repeat'(first|(simp only[go_sem,zA,zB,zC,zD,zE,zF,zG,reduceCtorEq,zH,zI,zJ,zK,zL,lB,hbb,hv,hc,hw,hg,encField_lit];all_goals refine nf ?_)|(refine stp ?_;intro K hK)|(apply hK;clear hK K)|refine stn ?_|(with_reducible first|refine⟨by omega,a0i y,hy',?_⟩|refine⟨by omega,_,hz',?_⟩|refine⟨_,a10 y.key,?_⟩|refine⟨_,a34 z.key y.key,?_⟩)|(refine a0M ?_;intro K hK)|(clear hK K))
     all_goals(refine a0m ?_;rw[hok];rfl)
 ·intro s hbb hok
  refine sts ?_
  unfold Is at hok
  rw[List.drop_length,b03] at hok
  repeat'(first|(simp only[go_sem,zA,zB,zC,zD,zE,zF,zG,reduceCtorEq,zH,zI,zJ,zK,zL,lB,hbb];all_goals refine nf ?_)|(refine stp ?_;intro K hK)|(apply hK;clear hK K)|refine stn ?_|(clear hK K))
  all_goals(refine a0m ?_;rw[hok])
end Go.Proofs.YthbcdhfiibpeaaaGreat

