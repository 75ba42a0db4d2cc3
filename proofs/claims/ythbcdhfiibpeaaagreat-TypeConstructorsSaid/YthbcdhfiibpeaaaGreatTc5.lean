/- Lemmas of the proof. -/
import Derived.Test.YthbcdhfiibpeaaaGreatTc1
import Derived.Test.YthbcdhfiibpeaaaGreatTc4
open Go.Proofs.Tryz renaming prog→zP
open List renaming length_map→lB
open Nat renaming reduceBEq→zA,reduceBNe→zB,reduceAdd→zC,reduceSub→zD,reduceMul→zE,reduceLeDiff→zF,reduceLT→zG,reduceEqDiff→zH
open Int renaming reduceToNat→zI,reduceLE→zJ,reduceLT→zK,reduceEq→zL
open Bool renaming not_eq_true'→zM,not_eq_false'→zN
set_option linter.unusedSimpArgs false
set_option linter.unusedVariables false
set_option maxRecDepth 20000
set_option maxHeartbeats 64000000
namespace Go.Proofs.YthbcdhfiibpeaaaGreat
open Go Go.Sx
theorem b7Z (v w y z:Val):[[.int .i64 v.kind, .int .i64 v.num, .str v.text, .sl 7 (v.kids.map a0g), .sl 2 (v.keys.map a0k), .sl 9 (v.ents.map a0l), .sl 1 (v.labels.map Sx.encStr)],[.int .i64 w.kind, .int .i64 w.num, .str w.text, .sl 7 (w.kids.map a0g), .sl 2 (w.keys.map a0k), .sl 9 (w.ents.map a0l), .sl 1 (w.labels.map Sx.encStr)],[.int .i64 y.kind, .int .i64 y.num, .str y.text, .sl 7 (y.kids.map a0g), .sl 2 (y.keys.map a0k), .sl 9 (y.ents.map a0l), .sl 1 (y.labels.map Sx.encStr)],[.int .i64 z.kind, .int .i64 z.num, .str z.text, .sl 7 (z.kids.map a0g), .sl 2 (z.keys.map a0k), .sl 9 (z.ents.map a0l), .sl 1 (z.labels.map Sx.encStr)]]=[v,w,y,z].map a0g:=by
  simp only[List.map_cons,List.map_nil,a0a v,a0a w,a0a y,a0a z]
theorem a8O (s:List Ivl.Rg) (hs:∀ r∈s,Ivl.In6 r) (c:Bool) (nl:List (List UInt8)) (l m:List Int) (hl:∀ x∈l, -9223372036854775808≤x∧x≤9223372036854775807) (hm:∀ x∈m, -9223372036854775808≤x∧x≤9223372036854775807) (name:List UInt8):
  PC zP 8 [Sl s, .st [.bool c, .sl 1 (nl.map Sx.encStr)], .one (.dat (.sl 1 (l.map a0e))), .one (.dat (.sl 1 (m.map a0e))),Go.Sx.S name] (Bo true):=by
 cases g1:decide ((20:Int)<(s.length:Int))
 case true=>
  refine PCB.ob Tryz.func8 Tryz.ntmps8 Tryz.results8 ?_
  repeat'(first|(simp only[go_sem,zA,zB,zC,zD,zE,zF,zG,reduceCtorEq,zH,zI,zJ,zK,zL,lB,g1];all_goals refine nf ?_)|(refine stp ?_;intro K hK)|(apply hK;clear hK K)|refine stn ?_|(with_reducible refine⟨_,a2n,?_⟩)|refine stq ?_|(clear hK K))
  all_goals(first|exact fun _ h=>absurd h List.not_mem_nil|(refine a0m ?_;rfl))
 cases g2:decide ((20:Int)<(nl.length:Int))
 case true=>
  refine PCB.ob Tryz.func8 Tryz.ntmps8 Tryz.results8 ?_
  repeat'(first|(simp only[go_sem,zA,zB,zC,zD,zE,zF,zG,reduceCtorEq,zH,zI,zJ,zK,zL,lB,g1,g2];all_goals refine nf ?_)|(refine stp ?_;intro K hK)|(apply hK;clear hK K)|refine stn ?_|(with_reducible refine⟨_,a2n,?_⟩)|refine stq ?_|(clear hK K))
  all_goals(first|exact fun _ h=>absurd h List.not_mem_nil|(refine a0m ?_;rfl))
 cases g3:decide ((80:Int)<(l.length:Int))
 case true=>
  refine PCB.ob Tryz.func8 Tryz.ntmps8 Tryz.results8 ?_
  repeat'(first|(simp only[go_sem,zA,zB,zC,zD,zE,zF,zG,reduceCtorEq,zH,zI,zJ,zK,zL,lB,g1,g2,g3];all_goals refine nf ?_)|(refine stp ?_;intro K hK)|(apply hK;clear hK K)|refine stn ?_|(with_reducible refine⟨_,a2n,?_⟩)|refine stq ?_|(clear hK K))
  all_goals(first|exact fun _ h=>absurd h List.not_mem_nil|(refine a0m ?_;rfl))
 cases g4:decide ((80:Int)<(m.length:Int))
 case true=>
  refine PCB.ob Tryz.func8 Tryz.ntmps8 Tryz.results8 ?_
  repeat'(first|(simp only[go_sem,zA,zB,zC,zD,zE,zF,zG,reduceCtorEq,zH,zI,zJ,zK,zL,lB,g1,g2,g3,g4];all_goals refine nf ?_)|(refine stp ?_;intro K hK)|(apply hK;clear hK K)|refine stn ?_|(with_reducible refine⟨_,a2n,?_⟩)|refine stq ?_|(clear hK K))
  all_goals(first|exact fun _ h=>absurd h List.not_mem_nil|(refine a0m ?_;rfl))
 have l1:=of_decide_eq_false g1
 have l2:=of_decide_eq_false g2
 have sl:=b3L hl (of_decide_eq_false g3)
 have sm:=b3L hm (of_decide_eq_false g4)
 have d1:=b41 l m sl sm
 have tv:=a8j l m
 have pv:=b4l l m
 obtain⟨v,hv⟩:∃ v,v=a4e l m:=⟨_,rfl⟩
 rw[← hv] at d1 tv pv
 have ws:=a9c l
 have ls:=a7A l
 have ss:=a9d l
 obtain⟨S,hSe⟩:∃ S,S=a3o l:=⟨_,rfl⟩
 rw[← hSe] at d1 ws ls ss
 obtain⟨u,hu⟩:∃ u,u=b3o 3 (b0n m):=⟨_,rfl⟩
 have tu:a0C u.1=true:=by rw[hu];exact b7G 3 _
 have pu:a0E u.1≤10:=by rw[hu];exact Nat.le_trans (b0V 3 _) (by omega)
 have hQ:a2f zP 16 [Sp 55,I .i64 3] 55 (a1d (b0n m)) (LV u.1) (a1d u.2):=by
  have:=(a2b 3 (by omega)).k 55 (b0n m) sm
  rw[← hu,Vt,a0a] at this
  exact this
 obtain⟨w,q⟩:=u
 simp only at tu pu hQ
 have cT:=a73 [v,w] (by simp)
 have cL:=b0m [v] (by simp)
 have cC:=a4A w (a5o [v])
 have ty:=b7W tv tu
 have tz:=c0C tv tu
 have py:=b7X [v,w]
 have pz:=b7Y v w
 obtain⟨y,hy⟩:∃ y,y=a2L [v,w]:=⟨_,rfl⟩
 obtain⟨z,hz⟩:∃ z,z=a0X w (a5o [v]):=⟨_,rfl⟩
 obtain⟨o,ho⟩:∃ o,o=a5o [v]:=⟨_,rfl⟩
 rw[← ho] at cL cC hz tz pz
 rw[← hy] at cT ty py
 rw[← hz] at cC tz pz
 simp only[Vt,List.map_cons,List.map_nil,a0a] at cT cL cC
 clear hy hz ho hu hv hSe
 have KX:∀ x∈[v,w,y,z],ConsX s c nl S name (a5L s) (a2A 4 5 c nl) (a2A 6 7 c nl) (b7y [(S,0),(S,0)]) (a9k (S,0) (a1O (S,0))) (a1O (S,0)) (a2z name) x:=by
  have K1:=fun x hx hsp=>c0D (s:=s) (by omega) c (nl:=nl) (by omega) name ss ws ls.2 x hx hsp
  intro x hx
  simp only[List.mem_cons,List.not_mem_nil,or_false] at hx
  rcases hx with rfl|rfl|rfl|rfl
  ·exact K1 _ tv (by omega)
  ·exact K1 _ tu (by omega)
  ·exact K1 _ ty (by omega)
  ·exact K1 _ tz (by omega)
 have hso:(a0x S 0).length≤7:=by unfold a0x;rw[ws];exact ls.2
 have s2:TyS 10 [((S,0):TyD),(S,0)]:=a9l ss ss (by simp only;omega) (by simp only;omega) (by omega)
 have sls:=b7V (t:=(S,0)) ss (by simp only;omega)
 have hll:(a1O ((S,0):TyD)).1.length=3+(a0x S 0).length:=by rw[b2W];exact a7P _
 have sc:TyS 20 [((S,0):TyD),a1O (S,0)]:=a9l ss sls (by simp only;omega) (by omega) (by omega)
 have c1:PC zP 33 [Sl s] (LT (a5L s)):=c2I s hs (by omega)
 have c2:PC zP 34 [.st [.bool c, .sl 1 (nl.map Sx.encStr)]] (LT (a2A 4 5 c nl)):=b7Q c nl (by omega)
 have c3:PC zP 35 [.st [.bool c, .sl 1 (nl.map Sx.encStr)]] (LT (a2A 6 7 c nl)):=c3y c nl (by omega)
 have c4:PC zP 36 [.one (.dat (.sl 2 [[.sl 8 (S.map a0c), .int .i64 0],[.sl 8 (S.map a0c), .int .i64 0]]))] (LT (b7y [(S,0),(S,0)])):=c3m [(S,0),(S,0)] s2
 have c6:PC zP 38 [.st [.sl 8 (S.map a0c), .int .i64 0]] (LT (a1O (S,0))):=b5N (S,0) ss
 have c5:PC zP 37 [.st [.sl 8 (S.map a0c), .int .i64 0],LT (a1O (S,0))] (LT (a9k (S,0) (a1O (S,0)))):=c53 (S,0) (a1O (S,0)) sc
 have c7:PC zP 24 [Go.Sx.S name] (LT (a2z name)):=a6i name
 have hN:∀ t,PC zP 39 [.st [.bool c, .sl 1 (nl.map Sx.encStr)],Go.Sx.S t] (Bo (c2o c nl t)):=fun t=>b6q c nl t
 have hI:∀ n,PC zP 40 [Sl s,I .i64 n] (Bo (c0d s n)):=fun n=>c0A s n
 have hV:=a0r name
 generalize a5L s=X1 at c1 KX
 generalize a2A 4 5 c nl=X2 at c2 KX
 generalize a2A 6 7 c nl=X3 at c3 KX
 generalize b7y [(S,0),(S,0)]=X4 at c4 KX
 generalize a9k (S,0) (a1O (S,0))=X5 at c5 KX
 generalize hX6:a1O (S,0)=X6 at c5 c6 KX
 generalize a2z name=X7 at c7 KX
 have hfold:=b7Z v w y z
 obtain⟨L,hL⟩:∃ L,L=[v,w,y,z]:=⟨_,rfl⟩
 rw[← hL] at hfold KX
 clear hL sls sc s2 hll tv tu ty tz pv pu py pz
 refine PCB.ob Tryz.func8 Tryz.ntmps8 Tryz.results8 ?_
 repeat'(first|(simp only[go_sem,zA,zB,zC,zD,zE,zF,zG,reduceCtorEq,zH,zI,zJ,zK,zL,lB,g1,g2,g3,g4,hfold];all_goals refine nf ?_)|(refine stp ?_;intro K hK)|(apply hK;clear hK K)|refine stn ?_|(with_reducible first|refine⟨_,d1,?_⟩|refine⟨_,cT,?_⟩|refine⟨_,cL,?_⟩|refine⟨_,cC,?_⟩|refine⟨_,c1,?_⟩|refine⟨_,c2,?_⟩|refine⟨_,c3,?_⟩|refine⟨_,c4,?_⟩|refine⟨_,c5,?_⟩|refine⟨_,c6,?_⟩|refine⟨_,c7,?_⟩)|(refine⟨55,_,_,_,hQ,rfl,?_⟩)|(with_reducible refine AWP.genMT (id:=7) [6,7,8] 9 mixed (by kernel_rfl) fun K hK=>?_;simp only[List.take_succ_cons,List.take_zero,List.drop_succ_cons,List.drop_zero])|(with_reducible refine AWP.genMT (id:=8) [12,13,14,15] 16 mixed (by kernel_rfl) fun K hK=>?_;simp only[List.take_succ_cons,List.take_zero,List.drop_succ_cons,List.drop_zero])|(refine a0M ?_;intro K hK)|refine stq ?_|fail)
 refine AWP.len 15 rfl fun hlen0=>?_
 (try rw[lB] at hlen0)
 refine AWP.range (S:=Unit) (L) a0g (fun k s=>(23,I .i64 (k:Nat))::[]) (fun k s=>[]) [0,4,6,11,15,16,17,18,19,20,21,22] [6,11,16,17,18,19,20,21,22] (fun i _=>Is L L) (()) (by refine sts ?_;exact Gh.tt []) ?_ ?_ ?_
 ·rfl
 ·intro i _ x hlt hx hx' hb hok
  refine sts ?_
  obtain⟨m1,m2,m3,m4,m5,m6,m7,ml,mkid,mb⟩:=KX x (List.mem_of_getElem? hx)
  have hNx:=hN x.text
  have hIx:=hI x.num
  generalize (x.labels.any fun t=>decide (t=name))=lab at m7 mb
  generalize c2o c nl x.text=nm at m2 m3 hNx
  generalize c0d s x.num=ha at m1 hIx
  rw[hX6] at m5 m6 ml
  generalize a1q x X6=lm at m5 m6 ml
  have b1:(true==false)=false:=rfl
  have b2:(false==true)=false:=rfl
  have b3:(true==true)=true:=rfl
  have b4:(false==false)=true:=rfl
  have kc:x.kind=1∨x.kind=2∨x.kind=3∨x.kind=6∨x.kind=7∨(x.kind≠1∧x.kind≠2∧x.kind≠3∧x.kind≠6∧x.kind≠7):=by omega
  rcases kc with kc|kc|kc|kc|kc|⟨n1,n2,n3,n6,n7⟩
  ·
   have h1:decide (x.kind=1)=true:=decide_eq_true kc
   have h2:decide (x.kind=2)=false:=by rw[kc];rfl
   have h3:decide (x.kind=3)=false:=by rw[kc];rfl
   have h6:decide (x.kind=6)=false:=by rw[kc];rfl
   have h7:decide (x.kind=7)=false:=by rw[kc];rfl
   rw[h1,Bool.true_and] at m1
   rw[h2,Bool.false_and] at m2
   rw[h3,Bool.false_and] at m3
   rw[h6,Bool.false_and] at m4
   rw[h7,Bool.false_and] at m5
   repeat'(first|(simp only[go_sem,zA,zB,zC,zD,zE,zF,zG,reduceCtorEq,zH,zI,zJ,zK,zL,a0a,lB,hb,h1,h2,h3,h6,h7,Bool.true_and,Bool.false_and,beq_self_eq_true,Bool.not_true,Bool.not_false,b1,b2,b3,b4];all_goals refine nf ?_)|(refine stp ?_;intro K hK)|(apply hK;clear hK K)|refine stn ?_|(refine⟨fun h=>?_,fun h=>?_⟩<;>(try simp only[zM,zN] at h)<;>try simp only[h])|(with_reducible first|refine⟨(by omega:_≤_),a0g x,hx',?_⟩|refine⟨_,m1,?_⟩|refine⟨_,m2,?_⟩|refine⟨_,m3,?_⟩|refine⟨_,m4,?_⟩|refine⟨_,m5,?_⟩|refine⟨_,m6,?_⟩|refine⟨_,m7,?_⟩|refine⟨_,ml,?_⟩|refine⟨_,mb,?_⟩|refine⟨_,hNx,?_⟩|refine⟨_,hIx,?_⟩|refine⟨_,hV,?_⟩)|(refine a0M ?_;intro K hK)|refine stq ?_|(clear hK K))
   all_goals(rw[a0d hlt hlen0])
   all_goals(refine⟨(),?_,Gh.tt []⟩)
   all_goals rfl
  ·
   have h1:decide (x.kind=1)=false:=by rw[kc];rfl
   have h2:decide (x.kind=2)=true:=decide_eq_true kc
   have h3:decide (x.kind=3)=false:=by rw[kc];rfl
   have h6:decide (x.kind=6)=false:=by rw[kc];rfl
   have h7:decide (x.kind=7)=false:=by rw[kc];rfl
   rw[h1,Bool.false_and] at m1
   rw[h2,Bool.true_and] at m2
   rw[h3,Bool.false_and] at m3
   rw[h6,Bool.false_and] at m4
   rw[h7,Bool.false_and] at m5
   repeat'(first|(simp only[go_sem,zA,zB,zC,zD,zE,zF,zG,reduceCtorEq,zH,zI,zJ,zK,zL,a0a,lB,hb,h1,h2,h3,h6,h7,Bool.true_and,Bool.false_and,beq_self_eq_true,Bool.not_true,Bool.not_false,b1,b2,b3,b4];all_goals refine nf ?_)|(refine stp ?_;intro K hK)|(apply hK;clear hK K)|refine stn ?_|(refine⟨fun h=>?_,fun h=>?_⟩<;>(try simp only[zM,zN] at h)<;>try simp only[h])|(with_reducible first|refine⟨(by omega:_≤_),a0g x,hx',?_⟩|refine⟨_,m1,?_⟩|refine⟨_,m2,?_⟩|refine⟨_,m3,?_⟩|refine⟨_,m4,?_⟩|refine⟨_,m5,?_⟩|refine⟨_,m6,?_⟩|refine⟨_,m7,?_⟩|refine⟨_,ml,?_⟩|refine⟨_,mb,?_⟩|refine⟨_,hNx,?_⟩|refine⟨_,hV,?_⟩)|(refine a0M ?_;intro K hK)|refine stq ?_|(clear hK K))
   all_goals(rw[a0d hlt hlen0])
   all_goals(refine⟨(),?_,Gh.tt []⟩)
   all_goals rfl
  ·
   have h1:decide (x.kind=1)=false:=by rw[kc];rfl
   have h2:decide (x.kind=2)=false:=by rw[kc];rfl
   have h3:decide (x.kind=3)=true:=decide_eq_true kc
   have h6:decide (x.kind=6)=false:=by rw[kc];rfl
   have h7:decide (x.kind=7)=false:=by rw[kc];rfl
   rw[h1,Bool.false_and] at m1
   rw[h2,Bool.false_and] at m2
   rw[h3,Bool.true_and] at m3
   rw[h6,Bool.false_and] at m4
   rw[h7,Bool.false_and] at m5
   repeat'(first|(simp only[go_sem,zA,zB,zC,zD,zE,zF,zG,reduceCtorEq,zH,zI,zJ,zK,zL,a0a,lB,hb,h1,h2,h3,h6,h7,Bool.true_and,Bool.false_and,beq_self_eq_true,Bool.not_true,Bool.not_false,b1,b2,b3,b4];all_goals refine nf ?_)|(refine stp ?_;intro K hK)|(apply hK;clear hK K)|refine stn ?_|(refine⟨fun h=>?_,fun h=>?_⟩<;>(try simp only[zM,zN] at h)<;>try simp only[h])|(with_reducible first|refine⟨(by omega:_≤_),a0g x,hx',?_⟩|refine⟨_,m1,?_⟩|refine⟨_,m2,?_⟩|refine⟨_,m3,?_⟩|refine⟨_,m4,?_⟩|refine⟨_,m5,?_⟩|refine⟨_,m6,?_⟩|refine⟨_,m7,?_⟩|refine⟨_,ml,?_⟩|refine⟨_,mb,?_⟩|refine⟨_,hNx,?_⟩|refine⟨_,hV,?_⟩)|(refine a0M ?_;intro K hK)|refine stq ?_|(clear hK K))
   all_goals(rw[a0d hlt hlen0])
   all_goals(refine⟨(),?_,Gh.tt []⟩)
   all_goals rfl
  ·
   have h1:decide (x.kind=1)=false:=by rw[kc];rfl
   have h2:decide (x.kind=2)=false:=by rw[kc];rfl
   have h3:decide (x.kind=3)=false:=by rw[kc];rfl
   have h6:decide (x.kind=6)=true:=decide_eq_true kc
   have h7:decide (x.kind=7)=false:=by rw[kc];rfl
   rw[h1,Bool.false_and] at m1
   rw[h2,Bool.false_and] at m2
   rw[h3,Bool.false_and] at m3
   rw[h6,Bool.true_and] at m4
   rw[h7,Bool.false_and] at m5
   cases hl2:decide (x.kids.length=2)
   ·
    have hl3:decide ((x.kids.length:Int)=2)=false:=by rw[decide_eq_false_iff_not] at hl2 ⊢; omega
    rw[hl2,Bool.false_and] at m4
    repeat'(first|(simp only[go_sem,zA,zB,zC,zD,zE,zF,zG,reduceCtorEq,zH,zI,zJ,zK,zL,a0a,lB,hb,h1,h2,h3,h6,h7,Bool.true_and,Bool.false_and,beq_self_eq_true,Bool.not_true,Bool.not_false,b1,b2,b3,b4,hl3];all_goals refine nf ?_)|(refine stp ?_;intro K hK)|(apply hK;clear hK K)|refine stn ?_|(refine⟨fun h=>?_,fun h=>?_⟩<;>(try simp only[zM,zN] at h)<;>try simp only[h])|(with_reducible first|refine⟨(by omega:_≤_),a0g x,hx',?_⟩|refine⟨_,m1,?_⟩|refine⟨_,m2,?_⟩|refine⟨_,m3,?_⟩|refine⟨_,m4,?_⟩|refine⟨_,m5,?_⟩|refine⟨_,m6,?_⟩|refine⟨_,m7,?_⟩|refine⟨_,ml,?_⟩|refine⟨_,mb,?_⟩|refine⟨_,hNx,?_⟩|refine⟨_,hV,?_⟩)|(refine a0M ?_;intro K hK)|refine stq ?_|(clear hK K))
    all_goals(rw[a0d hlt hlen0])
    all_goals(refine⟨(),?_,Gh.tt []⟩)
    all_goals rfl
   ·
    have hl3:decide ((x.kids.length:Int)=2)=true:=by rw[decide_eq_true_eq] at hl2 ⊢; omega
    rw[hl2,Bool.true_and] at m4
    obtain⟨p,q,hpq⟩:∃ p q,x.kids=[p,q]:=by
     rw[decide_eq_true_eq] at hl2
     match hvk:x.kids,hl2 with
     |[p,q],_=>exact⟨p,q,rfl⟩
    have hp:(x.kids.map a0g)[0]?= some (a0g p):=by rw[hpq];rfl
    have hq:(x.kids.map a0g)[1]?= some (a0g q):=by rw[hpq];rfl
    have hlx:x.kids.length=2:=by rw[hpq];rfl
    have mp:=mkid p (by rw[hpq];simp)
    have mq:=mkid q (by rw[hpq];simp)
    rw[show (x.kids.all fun r=>a1q r (S,0))=(a1q p (S,0)&&a1q q (S,0)) from by rw[hpq];simp] at m4
    generalize a1q p (S,0)=pa at mp m4
    generalize a1q q (S,0)=qa at mq m4
    cases pa
    all_goals
     simp only[Bool.true_and,Bool.false_and] at m4
     repeat'(first|(simp only[go_sem,zA,zB,zC,zD,zE,zF,zG,reduceCtorEq,zH,zI,zJ,zK,zL,a0a,lB,hb,h1,h2,h3,h6,h7,Bool.true_and,Bool.false_and,beq_self_eq_true,Bool.not_true,Bool.not_false,b1,b2,b3,b4,hl3];all_goals refine nf ?_)|(refine stp ?_;intro K hK)|(apply hK;clear hK K)|refine stn ?_|(refine⟨fun h=>?_,fun h=>?_⟩<;>(try simp only[zM,zN] at h)<;>try simp only[h])|(with_reducible first|refine⟨(by omega:_≤_),a0g x,hx',?_⟩|refine⟨a0g p,hp,?_⟩|refine⟨a0g q,hq,?_⟩|refine⟨_,mp,?_⟩|refine⟨_,mq,?_⟩|refine⟨_,m1,?_⟩|refine⟨_,m2,?_⟩|refine⟨_,m3,?_⟩|refine⟨_,m4,?_⟩|refine⟨_,m5,?_⟩|refine⟨_,m6,?_⟩|refine⟨_,m7,?_⟩|refine⟨_,ml,?_⟩|refine⟨_,mb,?_⟩|refine⟨_,hNx,?_⟩|refine⟨_,hV,?_⟩)|(refine a0M ?_;intro K hK)|refine stq ?_|(clear hK K))
     all_goals(rw[a0d hlt hlen0])
     all_goals(refine⟨(),?_,Gh.tt []⟩)
     all_goals rfl
  ·
   have h1:decide (x.kind=1)=false:=by rw[kc];rfl
   have h2:decide (x.kind=2)=false:=by rw[kc];rfl
   have h3:decide (x.kind=3)=false:=by rw[kc];rfl
   have h6:decide (x.kind=6)=false:=by rw[kc];rfl
   have h7:decide (x.kind=7)=true:=decide_eq_true kc
   rw[h1,Bool.false_and] at m1
   rw[h2,Bool.false_and] at m2
   rw[h3,Bool.false_and] at m3
   rw[h6,Bool.false_and] at m4
   rw[h7,Bool.true_and] at m5
   repeat'(first|(simp only[go_sem,zA,zB,zC,zD,zE,zF,zG,reduceCtorEq,zH,zI,zJ,zK,zL,a0a,lB,hb,h1,h2,h3,h6,h7,Bool.true_and,Bool.false_and,beq_self_eq_true,Bool.not_true,Bool.not_false,b1,b2,b3,b4];all_goals refine nf ?_)|(refine stp ?_;intro K hK)|(apply hK;clear hK K)|refine stn ?_|(refine⟨fun h=>?_,fun h=>?_⟩<;>(try simp only[zM,zN] at h)<;>try simp only[h])|(with_reducible first|refine⟨(by omega:_≤_),a0g x,hx',?_⟩|refine⟨_,m1,?_⟩|refine⟨_,m2,?_⟩|refine⟨_,m3,?_⟩|refine⟨_,m4,?_⟩|refine⟨_,m5,?_⟩|refine⟨_,m6,?_⟩|refine⟨_,m7,?_⟩|refine⟨_,ml,?_⟩|refine⟨_,mb,?_⟩|refine⟨_,hNx,?_⟩|refine⟨_,hV,?_⟩)|(refine a0M ?_;intro K hK)|refine stq ?_|(clear hK K))
   all_goals(rw[a0d hlt hlen0])
   all_goals(refine⟨(),?_,Gh.tt []⟩)
   all_goals rfl
  ·
   have h1:decide (x.kind=1)=false:=decide_eq_false n1
   have h2:decide (x.kind=2)=false:=decide_eq_false n2
   have h3:decide (x.kind=3)=false:=decide_eq_false n3
   have h6:decide (x.kind=6)=false:=decide_eq_false n6
   have h7:decide (x.kind=7)=false:=decide_eq_false n7
   rw[h1,Bool.false_and] at m1
   rw[h2,Bool.false_and] at m2
   rw[h3,Bool.false_and] at m3
   rw[h6,Bool.false_and] at m4
   rw[h7,Bool.false_and] at m5
   repeat'(first|(simp only[go_sem,zA,zB,zC,zD,zE,zF,zG,reduceCtorEq,zH,zI,zJ,zK,zL,a0a,lB,hb,h1,h2,h3,h6,h7,Bool.true_and,Bool.false_and,beq_self_eq_true,Bool.not_true,Bool.not_false,b1,b2,b3,b4];all_goals refine nf ?_)|(refine stp ?_;intro K hK)|(apply hK;clear hK K)|refine stn ?_|(refine⟨fun h=>?_,fun h=>?_⟩<;>(try simp only[zM,zN] at h)<;>try simp only[h])|(with_reducible first|refine⟨(by omega:_≤_),a0g x,hx',?_⟩|refine⟨_,m1,?_⟩|refine⟨_,m2,?_⟩|refine⟨_,m3,?_⟩|refine⟨_,m4,?_⟩|refine⟨_,m5,?_⟩|refine⟨_,m6,?_⟩|refine⟨_,m7,?_⟩|refine⟨_,ml,?_⟩|refine⟨_,mb,?_⟩|refine⟨_,hNx,?_⟩|refine⟨_,hV,?_⟩)|(refine a0M ?_;intro K hK)|refine stq ?_|(clear hK K))
   all_goals(rw[a0d hlt hlen0])
   all_goals(refine⟨(),?_,Gh.tt []⟩)
   all_goals rfl
 ·intro _ hb hok
  refine sts ?_
  repeat'(first|(simp only[go_sem,zA,zB,zC,zD,zE,zF,zG,reduceCtorEq,zH,zI,zJ,zK,zL,lB,hb];all_goals refine nf ?_)|(refine stp ?_;intro K hK)|(apply hK;clear hK K)|refine stn ?_|(with_reducible refine⟨_,a2n,?_⟩)|refine stq ?_|(clear hK K))
  all_goals(first|exact fun _ h=>absurd h List.not_mem_nil|(refine a0m ?_;rfl))
end Go.Proofs.YthbcdhfiibpeaaaGreat

