/- Lemmas of the proof. -/
import Derived.Test.YthbcdhfiibpeaaaGreatTs1
open Go.Proofs.Tryz renaming prog→zP
open List renaming length_map→lB
open Nat renaming reduceBEq→zA,reduceBNe→zB,reduceAdd→zC,reduceSub→zD,reduceMul→zE,reduceLeDiff→zF,reduceLT→zG,reduceEqDiff→zH
open Int renaming reduceToNat→zI,reduceLE→zJ,reduceLT→zK,reduceEq→zL
open Bool renaming not_eq_true'→zM,not_eq_false'→zN
set_option linter.unusedSimpArgs false
set_option linter.unusedVariables false
set_option maxRecDepth 20000
set_option maxHeartbeats 64000000
namespace Go.Sx
open Go.Proofs.YthbcdhfiibpeaaaGreat
def a5Z (x:List UInt8×TyD):List C:=[.str x.1, .sl 8 (x.2.1.map a0c), .int .i64 x.2.2]
theorem a4Q (x:List UInt8×TyD):a5Z x=[.str x.1, .sl 8 (x.2.1.map a0c), .int .i64 x.2.2]:=rfl
@[go_sem] theorem c7n (x:List UInt8×TyD):a1k 3 (a5Z x)=some (a5Z x,[]):=by rfl
@[go_sem low] theorem c5Z (x:List UInt8×TyD) (k:Nat):a1k k (a5Z x)=a1k k [.str x.1, .sl 8 (x.2.1.map a0c), .int .i64 x.2.2]:=by rw[a4Q]
@[go_sem] theorem c50 (x:List UInt8×TyD):a1k 3 ((a5Z x).map Cell.dat)=some ((a5Z x).map Cell.dat,[]):=by rfl
@[go_sem] theorem c51 (x:List UInt8×TyD):(a5Z x).map C.soft=a5Z x:=by rfl
@[go_sem] theorem c7o (x:List UInt8×TyD):a1C 3 (a5Z x)=true:=by rfl
end Go.Sx
namespace Go.Proofs.YthbcdhfiibpeaaaGreat
open Go Go.Sx
abbrev BdD:=List UInt8×TyD
abbrev Bds (l:List BdD):T:= .one (.dat (.sl 3 (l.map a5Z)))
theorem c7p (b:BdD) (name:List UInt8):PCB zP 68 [.st (a5Z b), .one (.ptr pin 0)] [(pin, .cells [.dat (.str name)])] (Bo (decide (b.1=name))) [(pin, .cells [.dat (.str name)])]:=by
 cases h:decide (b.1=name)
 all_goals
  refine PCB.ob Tryz.func68 Tryz.ntmps68 Tryz.results68 ?_
  repeat'(first|(simp only[go_sem,zA,zB,zC,zD,zE,zF,zG,reduceCtorEq,zH,zI,zJ,zK,zL,pin,a4Q,h];all_goals refine nf ?_)|(refine stp ?_;intro K hK)|(apply hK;clear hK K)|refine stn ?_|fail)
  all_goals(first|exact fun _ h=>List.mem_cons_of_mem _ h|exact⟨rfl,fun _ h=>List.mem_cons_of_mem _ h⟩)
theorem b49 (l:List BdD) (name:List UInt8):PCB zP 67 [Bds l, .one (.clo 68 [.ptr pin 0])] [(pin, .cells [.dat (.str name)])] (I .i64 (b9W (fun b:BdD=>decide (b.1=name)) l 0)) [(pin, .cells [.dat (.str name)])]:=by
 obtain⟨p,hp⟩:∃ p:BdD→Bool,p=fun b:BdD=>decide (b.1=name):=⟨_,rfl⟩
 have hb:∀ b,PCB zP 68 [.st (a5Z b), .one (.ptr pin 0)] [(pin, .cells [.dat (.str name)])] (Bo (p b)) [(pin, .cells [.dat (.str name)])]:=fun b=>by rw[hp];exact c7p b name
 rw[← hp]
 clear hp
 refine PCB.ob Tryz.func67 Tryz.ntmps67 Tryz.results67 ?_
 repeat'(first|(simp only[go_sem,zA,zB,zC,zD,zE,zF,zG,reduceCtorEq,zH,zI,zJ,zK,zL,pin,lB];all_goals refine nf ?_)|(refine stp ?_;intro K hK)|(apply hK;clear hK K)|refine stn ?_|fail)
 refine AWP.len 6 rfl fun hlen0=>?_
 (try rw[lB] at hlen0)
 refine AWP.range (S:=Unit) (l) a5Z (fun k s=>(8,I .i64 (k:Nat))::[]) (fun k s=>[]) [0,1,7] [1000000] (fun k s=>Is (b9W p l 0) (b9W p (l.drop k) (k:Int))) (()) (by simp only[go_sem,zA,zB,zC,zD,zE,zF,zG,reduceCtorEq,zH,zI,zJ,zK,zL,pin];exact Gh.tt []) ?_ ?_ ?_
 ·rfl
 ·intro k s x hlt hx hx' hbb hok
  refine sts ?_
  have hd:l.drop k=x::l.drop (k+1):=by
   obtain⟨hk,e⟩:=List.getElem?_eq_some_iff.1 hx
   rw[List.drop_eq_getElem_cons hk,e]
  unfold Is at hok
  rw[hd,b9W] at hok
  have hI:=hb x
  cases hpx:p x<;>rw[hpx] at hok hI
  ·
   repeat'(first|(simp only[go_sem,zA,zB,zC,zD,zE,zF,zG,reduceCtorEq,zH,zI,zJ,zK,zL,pin,lB,hbb,a4Q];all_goals refine nf ?_)|(refine stp ?_;intro K hK)|(apply hK;clear hK K)|refine stn ?_|(with_reducible refine⟨by omega,a5Z x,hx',?_⟩)|( refine Or.inr ⟨_,_,_,hI,⟨rfl,trivial⟩,rfl,rfl,?_⟩)|(clear hK K))
   all_goals(rw[a0d hlt hlen0])
   all_goals(refine⟨(),?_,Gh.tt []⟩)
   all_goals exact hok
  ·
   repeat'(first|(simp only[go_sem,zA,zB,zC,zD,zE,zF,zG,reduceCtorEq,zH,zI,zJ,zK,zL,pin,lB,hbb,a4Q];all_goals refine nf ?_)|(refine stp ?_;intro K hK)|(apply hK;clear hK K)|refine stn ?_|(with_reducible refine⟨by omega,a5Z x,hx',?_⟩)|( refine Or.inr ⟨_,_,_,hI,⟨rfl,trivial⟩,rfl,rfl,?_⟩)|(clear hK K))
   all_goals(refine⟨?_,fun _ h=>h⟩;rw[hok];rfl)
 ·intro s hbb hok
  refine sts ?_
  unfold Is at hok
  rw[List.drop_length,b9W] at hok
  repeat'(first|(simp only[go_sem,zA,zB,zC,zD,zE,zF,zG,reduceCtorEq,zH,zI,zJ,zK,zL,pin,lB,hbb];all_goals refine nf ?_)|(refine stp ?_;intro K hK)|(apply hK;clear hK K)|refine stn ?_|(clear hK K))
  all_goals(refine⟨?_,fun _ h=>h⟩;rw[hok])
end Go.Proofs.YthbcdhfiibpeaaaGreat
namespace Go.Proofs.YthbcdhfiibpeaaaGreat
open Go Go.Sx
abbrev SubSt:=List NodeD×List (List UInt8×Int)
def a6V (k:List UInt8):List (List UInt8×Int)→Option Int
  |[]=>none
  |p::es=>bif decide (p.1=k) then some p.2 else a6V k es
def b2J (p:List UInt8×Int):List UInt8×List C:=(p.1,[.int .i64 p.2])
theorem a9h (k:List UInt8):∀ es:List (List UInt8×Int),a4G k (es.map b2J)=(a6V k es).map fun r=>[.int .i64 r]
 |[]=>rfl
 |p::es=>by
  rw[List.map_cons,a4G,a6V]
  show (bif decide (p.1=k) then _ else _)=_
  cases decide (p.1=k)
  ·exact a9h k es
  ·rfl
theorem b9X (k:List UInt8) (r:Int):∀ es:List (List UInt8×Int),a6V k es=none→b7u k [.int .i64 r] (es.map b2J)=(es++[(k,r)]).map b2J
 |[],_=>rfl
 |p::es,h=>by
  rw[a6V] at h
  rw[List.map_cons,b7u,List.cons_append,List.map_cons]
  show (bif decide (p.1=k) then _ else _)=_
  cases hd:decide (p.1=k) with
  |true=>rw[hd] at h;cases h
  |false=>
   rw[hd] at h
   rw[cond_false,b9X k r es h]
def a2J (bs:List BdD) (s:List UInt8):Option TyD:=(bs.find? fun b=>decide (b.1=s)).map (·.2)
def a6W (bs:List BdD) (st:SubSt) (i:Nat):SubSt:=
 bif decide ((st.1.getD i (a0G 1)).kind=19) then
  match a2J bs (st.1.getD i (a0G 1)).text with
  |none=>st
  |some u=>match a6V (st.1.getD i (a0G 1)).text st.2 with
   |some r=>(st.1.set i (a1b 16 [r]),st.2)
   |none=>((st.1++emL st.1.length u.1 u.2).set i (a1b 16 [emR st.1.length u.1 u.2]),st.2++[((st.1.getD i (a0G 1)).text,emR st.1.length u.1 u.2)])
 else st
def b38 (bs:List BdD) (t:TyD) (n:Nat):SubSt:=(List.range n).foldl (a6W bs) (emL 0 t.1 t.2,[])
def b0O (bs:List BdD) (t:TyD):TyD:=((b38 bs t (emL 0 t.1 t.2).length).1,emR 0 t.1 t.2)
theorem b0B (bs:List BdD) (t:TyD) (n:Nat):b38 bs t (n+1)=a6W bs (b38 bs t n) n:=by
  unfold b38;rw[List.range_succ,List.foldl_append];rfl
theorem b2K (p:BdD→Bool):∀ (l:List BdD) (i:Int),0≤i→(l.find? p=none→b9W p l i= -1)∧(∀ b,l.find? p=some b→∃ k:Nat,b9W p l i=i+k∧l[k]?= some b)
 |[],i,_=>⟨fun _=>rfl,fun b h=>by cases h⟩
 |x::l,i,hi=>by
  have ih:=b2K p l (i+1) (by omega)
  cases hp:p x with
  |true=>exact⟨fun h=>by simp[List.find?, hp] at h,fun b h=>⟨0,by rw[b9W,hp];simp,by simp[List.find?, hp] at h;simp[h]⟩⟩
  |false=>
   refine⟨fun h=>?_,fun b h=>?_⟩
   ·rw[b9W,hp,cond_false];exact ih.1 (by simpa [List.find?, hp] using h)
   ·obtain⟨k,h1,h2⟩:=ih.2 b (by simpa [List.find?, hp] using h)
    exact⟨k+1,by rw[b9W,hp,cond_false,h1];push_cast;omega,by simpa using h2⟩
theorem b31 {k:List UInt8}:∀ {es:List (List UInt8×Int)} {r:Int},a6V k es=some r→(k,r)∈es
 |[],r,h=>by cases h
 |p::es,r,h=>by
  rw[a6V] at h
  cases hd:decide (p.1=k) with
  |true=>
   rw[hd,cond_true] at h
   have e:=Option.some.inj h
   have e2:=of_decide_eq_true hd
   rw[← e,← e2]
   exact List.mem_cons_self
  |false=>rw[hd,cond_false] at h;exact List.mem_cons_of_mem _ (b31 h)
theorem b1K {k:List UInt8} {r:Int}:∀ {es:List (List UInt8×Int)},a6V k es=none→a6V k (es++[(k,r)])=some r
 |[],_=>by simp[a6V]
 |p::es,h=>by
  rw[a6V] at h
  rw[List.cons_append,a6V]
  cases hd:decide (p.1=k) with
  |true=>rw[hd] at h;cases h
  |false=>rw[hd,cond_false] at h;rw[cond_false];exact b1K h
structure Blk (bs:List BdD) (n:Nat) (L:List NodeD) (nm:List UInt8) (b:Nat) (u:TyD):Prop where
  bind:a2J bs nm=some u
  lo:n≤b
  at_:∀ j,j<(a0x u.1 u.2).length→L[b+j]?= ((a0x u.1 u.2)[j]?).map (upN b)
  len:b+(a0x u.1 u.2).length≤L.length
theorem Blk.mono {bs:List BdD} {n:Nat} {L L':List NodeD} {nm:List UInt8} {b:Nat} {u:TyD} (h:Blk bs n L nm b u) (hl:L.length≤L'.length) (he:∀ j,n≤j→j<L.length→L'[j]?= L[j]?):Blk bs n L' nm b u:=
  ⟨h.bind,h.lo,fun j hj=>by rw[he _ (by have:=h.lo;omega) (by have:=h.len;omega)];exact h.at_ j hj,by have:=h.len;omega⟩
theorem Blk.emb {bs:List BdD} {n:Nat} {L:List NodeD} {nm:List UInt8} {b:Nat} {u:TyD} (h:Blk bs n L nm b u) (hb:L.length≤10000000):Emb L (a0x u.1 u.2) b:=⟨h.at_,h.len,hb⟩
structure SubI (bs:List BdD) (S:List NodeD) (N i:Nat) (st:SubSt):Prop where
  len:S.length≤st.1.length
  size:st.1.length≤N
  rest:∀ (j:Nat) (x:NodeD),i≤j→S[j]?= some x→st.1[j]?= some (upN 0 x)
  old:∀ (j:Nat) (x:NodeD),S[j]?= some x→st.1[j]?= some (upN 0 x)∨ ∃ p∈st.2,st.1[j]?= some (a1b 16 [p.2])
  keep:∀ (j:Nat) (x:NodeD),S[j]?= some x→(x.kind=19→a2J bs x.text=none)→st.1[j]?= some (upN 0 x)
  new:∀ p∈st.2,∃ b u,Blk bs S.length st.1 p.1 b u∧p.2=emR b u.1 u.2
  cover:∀ j,S.length≤j→j<st.1.length→∃ nm b u c,Blk bs S.length st.1 nm b u∧j=b+c∧c<(a0x u.1 u.2).length
theorem b9Y (bs:List BdD) (S:List NodeD):SubI bs S S.length 0 (S.map (upN 0),[]):=by
  have hg:∀ j x,S[j]?= some x→(S.map (upN 0))[j]?= some (upN 0 x):=fun j x h=>by rw[List.getElem?_map,h];rfl
  refine⟨by simp,by simp,fun j x _ h=>hg j x h,fun j x h=> .inl (hg j x h),fun j x h _=>hg j x h,fun p hp=>(by cases hp),fun j h1 h2=>?_⟩
  simp only[lB] at h2;omega
theorem SubI.up {bs:List BdD} {S:List NodeD} {N i:Nat} {st:SubSt} (h:SubI bs S N i st) {N' i':Nat} (hN:N≤N') (hi:i≤i'):SubI bs S N' i' st:=
  ⟨h.len,Nat.le_trans h.size hN,fun j x hj hx=>h.rest j x (Nat.le_trans hi hj) hx,h.old,h.keep,h.new,h.cover⟩
theorem SubI.add {bs:List BdD} {S:List NodeD} {N i B:Nat} {st:SubSt} (h:SubI bs S N i st) {nm:List UInt8} {u:TyD} (hb:a2J bs nm=some u) (hB:(a0x u.1 u.2).length≤B):
  SubI bs S (N+B) i (st.1++emL st.1.length u.1 u.2,st.2++[(nm,emR st.1.length u.1 u.2)]):=by
 have hl:=h.len
 have hs:=h.size
 have hel:(emL st.1.length u.1 u.2).length=(a0x u.1 u.2).length:=by unfold emL;rw[lB]
 have hold:∀ j,j<st.1.length→(st.1++emL st.1.length u.1 u.2)[j]?= st.1[j]?:= fun j hj=>List.getElem?_append_left hj
 have hself:Blk bs S.length (st.1++emL st.1.length u.1 u.2) nm st.1.length u:=⟨hb,hl,fun j hj=>by
  rw[List.getElem?_append_right (by omega),Nat.add_sub_cancel_left];unfold emL;rw[List.getElem?_map],by rw[List.length_append,hel];exact Nat.le_refl _⟩
 have hin:∀ j x,S[j]?= some x→j<st.1.length:=fun j x hx=>by have:=(List.getElem?_eq_some_iff.1 hx).1;omega
 have hmono:∀ {nm' b u'},Blk bs S.length st.1 nm' b u'→Blk bs S.length (st.1++emL st.1.length u.1 u.2) nm' b u':=fun hB'=>hB'.mono (by simp) fun j _ hj=>hold j hj
 refine⟨?_,?_,?_,?_,?_,?_,?_⟩
 ·rw[List.length_append];omega
 ·rw[List.length_append,hel];omega
 ·intro j x hj hx
  rw[hold j (hin j x hx)];exact h.rest j x hj hx
 ·intro j x hx
  rw[hold j (hin j x hx)]
  rcases h.old j x hx with h'|⟨p,hp,h'⟩
  ·exact .inl h'
  ·exact .inr ⟨p,List.mem_append_left _ hp,h'⟩
 ·intro j x hx hk
  rw[hold j (hin j x hx)];exact h.keep j x hx hk
 ·intro p hp
  rcases List.mem_append.1 hp with hp|hp
  ·obtain⟨b,u',h1,h2⟩:=h.new p hp
   exact⟨b,u',hmono h1,h2⟩
  ·simp only[List.mem_singleton] at hp
   subst hp
   exact⟨st.1.length,u,hself,rfl⟩
 ·intro j h1 h2
  rcases Nat.lt_or_ge j st.1.length with hj|hj
  ·obtain⟨nm',b,u',c,hb',e,hc⟩:=h.cover j h1 hj
   exact⟨nm',b,u',c,hmono hb',e,hc⟩
  ·rw[List.length_append,hel] at h2
   exact⟨nm,st.1.length,u,j-st.1.length,hself,by omega,by omega⟩
theorem SubI.put {bs:List BdD} {S:List NodeD} {N i:Nat} {st:SubSt} (h:SubI bs S N i st) {x:NodeD} (hx:S[i]?= some x) (hk:x.kind=19) {u:TyD} (hb:a2J bs x.text=some u) {p:List UInt8×Int} (hp:p∈st.2):
  SubI bs S N (i+1) (st.1.set i (a1b 16 [p.2]),st.2):=by
 have hi:=(List.getElem?_eq_some_iff.1 hx).1
 have hl:=h.len
 have hne:∀ j,j≠i→(st.1.set i (a1b 16 [p.2]))[j]?= st.1[j]?:= fun j hj=>List.getElem?_set_ne (Ne.symm hj)
 have hmono:∀ {nm' b u'},Blk bs S.length st.1 nm' b u'→Blk bs S.length (st.1.set i (a1b 16 [p.2])) nm' b u':=fun hB'=>hB'.mono (by simp) fun j h1 _=>hne j (by omega)
 refine⟨?_,?_,?_,?_,?_,?_,?_⟩
 ·rw[List.length_set];exact hl
 ·rw[List.length_set];exact h.size
 ·intro j y hj hy
  rw[hne j (by omega)];exact h.rest j y (by omega) hy
 ·intro j y hy
  rcases Nat.decEq j i with hj|hj
  ·rw[hne j hj];exact h.old j y hy
  ·subst hj
   exact .inr ⟨p,hp,List.getElem?_set_self (by omega)⟩
 ·intro j y hy hky
  rcases Nat.decEq j i with hj|hj
  ·rw[hne j hj];exact h.keep j y hy hky
  ·subst hj
   rw[hx] at hy
   have e:=Option.some.inj hy
   subst e
   rw[hky hk] at hb;cases hb
 ·intro q hq
  obtain⟨b,u',h1,h2⟩:=h.new q hq
  exact⟨b,u',hmono h1,h2⟩
 ·intro j h1 h2
  rw[List.length_set] at h2
  obtain⟨nm',b,u',c,hb',e,hc⟩:=h.cover j h1 h2
  exact⟨nm',b,u',c,hmono hb',e,hc⟩
theorem b9Z {bs:List BdD} {S:List NodeD} {N i B:Nat} {st:SubSt} (hB:∀ b∈bs,(a0x b.2.1 b.2.2).length≤B) (h:SubI bs S N i st) (hi:i<S.length):SubI bs S (N+B) (i+1) (a6W bs st i):=by
 have hx:S[i]?= some S[i]:=List.getElem?_eq_getElem hi
 have hn:st.1.getD i (a0G 1)=upN 0 S[i]:=by rw[List.getD_eq_getElem?_getD,h.rest i _ (Nat.le_refl _) hx];rfl
 have ek:(upN 0 S[i]).kind=S[i].kind:=rfl
 have et:(upN 0 S[i]).text=S[i].text:=rfl
 unfold a6W
 rw[hn,ek,et]
 cases hk:decide (S[i].kind=19) with
 |false=>exact h.up (Nat.le_add_right _ _) (Nat.le_succ _)
 |true=>
  have hk':=of_decide_eq_true hk
  rw[cond_true]
  cases hb:a2J bs S[i].text with
  |none=>exact h.up (Nat.le_add_right _ _) (Nat.le_succ _)
  |some u=>
   have hu:(a0x u.1 u.2).length≤B:=by
    unfold a2J at hb
    obtain⟨b,h1,h2⟩:=Option.map_eq_some_iff.1 hb
    rw[← h2]
    exact hB b (List.mem_of_find?_eq_some h1)
   cases hl:a6V S[i].text st.2 with
   |some r=>exact(h.put hx hk' hb (p:=(S[i].text,r)) (b31 hl)).up (Nat.le_add_right _ _) (Nat.le_refl _)
   |none=>exact(h.add hb hu).put hx hk' hb (p:=(S[i].text,emR st.1.length u.1 u.2)) (List.mem_append_right _ List.mem_cons_self)
theorem b90 {bs:List BdD} {B:Nat} (hB:∀ b∈bs,(a0x b.2.1 b.2.2).length≤B) (t:TyD):∀ i,i≤(a0x t.1 t.2).length→SubI bs (a0x t.1 t.2) ((a0x t.1 t.2).length+i*B) i (b38 bs t i)
 |0,_=>by rw[Nat.zero_mul];exact b9Y bs _
 |i+1,hi=>by
  rw[b0B,Nat.succ_mul,← Nat.add_assoc]
  exact b9Z hB (b90 hB t i (by omega)) (by omega)
theorem up0 {n:Nat} {k:Int} (hn:n≤10000000) (hk:0≤k∧k<(n:Int)):upI 0 k=k:=by
  have:=c2M (b:=0) hk (by omega)
  simpa using this
theorem b91 {L s:List NodeD} (hl:s.length≤L.length) (hn:s.length≤10000000) {x:NodeD} (hx:a1A s x=true):a1A L (upN 0 x)=true:=by
  simp only[a1A,Bool.and_eq_true] at hx ⊢
  refine⟨by rw[b52];exact hx.1,by rw[b3K];exact hx.2.1,?_⟩
  rw[b9x,List.all_map,List.all_eq_true]
  intro e he
  have h2:=List.all_eq_true.1 hx.2.2 e he
  simp only[a3W,Bool.not_eq_true',Bool.or_eq_false_iff,decide_eq_false_iff_not] at h2
  have h3:=up0 (k:=e) hn (by omega)
  simp only[Function.comp_def,a3W,Bool.not_eq_true',Bool.or_eq_false_iff,decide_eq_false_iff_not,h3]
  omega
theorem b92 (e:Int):edgeL (a1b 16 [e])=[e]:=rfl
theorem c3k {bs:List BdD} {S:List NodeD} {N:Nat} {r:Int} {st:SubSt} (hS:wfP S r=0) (h:SubI bs S N S.length st) (hN:N≤10000000):wfP st.1 r=0:=by
 have hl:=h.len
 have hs:=h.size
 have hr:=a6A hS
 have hbig:st.1.length≤10000000:=Nat.le_trans hs hN
 have hSn:S.length≤10000000:=by omega
 obtain⟨R,hR⟩:=Wf.of hS
 have hroot:∀ p∈st.2,S.length≤p.2.toNat∧0≤p.2∧p.2<(st.1.length:Int):=by
  intro p hp
  obtain⟨b,u,hb,e⟩:=h.new p hp
  have hsi:=a5a u
  have hE:=hb.emb hbig
  have h1:=hE.up hsi
  have h2:=hb.lo
  have h3:=hb.len
  rw[show p.2=upI b (a1M u.1 u.2) from e,h1]
  omega
 have hnew:∀ j,S.length≤j→j<st.1.length→Gr.Fin (bo st.1) (ks st.1) j:=by
  intro j h1 h2
  obtain⟨nm,b,u,c,hb,rfl,hc⟩:=h.cover j h1 h2
  obtain⟨R2,hR2⟩:=Wf.of (a2H u)
  exact b9C (hb.emb hbig) hR2 hc (b2y (a2H u) c hc)
 have hold:∀ j,Gr.Fin (bo S) (ks S) j→j<S.length→Gr.Fin (bo st.1) (ks st.1) j:=by
  intro j hf
  unfold Gr.Fin at hf
  induction hf with
  |intro j _ ih=>
   intro hj
   have hx:S[j]?= some S[j]:=List.getElem?_eq_getElem hj
   refine Gr.fin_of _ _ fun hb k hk=>?_
   rcases h.old j _ hx with hL|⟨p,hp,hL⟩
   ·have hbs:bo S j=true:=by unfold bo at hb ⊢; rw[hL] at hb;rw[hx];exact hb
    unfold ks at hk
    rw[hL] at hk
    obtain⟨y,hy,rfl⟩:=List.mem_map.1 hk
    obtain⟨z,hz,rfl⟩:=List.mem_map.1 (show y∈S[j].kids.map (upI 0) from hy)
    have hzr:=hR.edge _ (List.getElem_mem hj) z (a2m hz)
    rw[up0 hSn hzr]
    refine ih z.toNat ⟨hbs,?_⟩ (by omega)
    unfold ks;rw[hx]
    exact List.mem_map_of_mem hz
   ·unfold ks at hk
    rw[hL] at hk
    obtain⟨y,hy,rfl⟩:=List.mem_map.1 hk
    have hy':y=p.2:=by simpa [a1b] using hy
    have:=hroot p hp
    rw[hy']
    exact hnew _ this.1 (by omega)
 refine b9D hr.1 (by omega) (fun x hx=>?_) (fun j hj=>?_)
 ·obtain⟨j,hj⟩:=List.getElem?_of_mem hx
  have hjl:=(List.getElem?_eq_some_iff.1 hj).1
  rcases Nat.lt_or_ge j S.length with hjs|hjs
  ·rcases h.old j _ (List.getElem?_eq_getElem hjs) with hL|⟨p,hp,hL⟩
   ·rw[hj] at hL
    rw[Option.some.inj hL]
    exact b91 hl hSn (hR.kind _ (List.getElem_mem hjs))
   ·rw[hj] at hL
    rw[Option.some.inj hL]
    have hv:=b1u (k:=16) (ks:=[p.2]) (by show ovK 16 1=true;decide)
    simp only[a1A,Bool.and_eq_true]
    refine⟨hv.2,hv.1,?_⟩
    have:=hroot p hp
    rw[b92,List.all_cons,List.all_nil,Bool.and_true]
    simp only[a3W,Bool.not_eq_true',Bool.or_eq_false_iff,decide_eq_false_iff_not];omega
  ·obtain⟨nm,b,u,c,hb,rfl,hc⟩:=h.cover j hjs hjl
   obtain⟨R2,hR2⟩:=Wf.of (a2H u)
   rw[hb.at_ c hc,List.getElem?_eq_getElem hc] at hj
   have e:=Option.some.inj hj
   rw[← e]
   exact b2x (hb.emb hbig) (hR2.kind _ (List.getElem_mem hc))
 ·rcases Nat.lt_or_ge j S.length with hjs|hjs
  ·exact hold j (b2y hS j hjs) hjs
  ·exact hnew j hjs hj
theorem c5r {bs:List BdD} {S:List NodeD} {N:Nat} {r:Int} {st:SubSt} (hS:wfP S r=0) (h:SubI bs S N S.length st) (hN:N≤10000000) (P:Nat→Prop)
  (hP:∀ j x,P j→S[j]?= some x→(x.kind=19→a2J bs x.text=none)∧∀ e∈edgeL x,P e.toNat) (hr:P r.toNat) (v:Val):a1q v (st.1,r)=a1q v (S,r):=by
 have hl:=h.len
 have hs:=h.size
 have hro:=a6A hS
 have hSn:S.length≤10000000:=by omega
 obtain⟨R,hR⟩:=Wf.of hS
 rw[a2X (c3k hS h hN),a2X hS]
 have hF:∀ (f:Nat) (v:Val) (k:Int),P k.toNat→0≤k∧k<(S.length:Int)→a8T st.1 f v k=a8T S f v k:=by
  intro f
  induction f with
  |zero=>intro v k _ _;rfl
  |succ f ih=>
   intro v k hp hk
   have hx:S[k.toNat]?= some (a2F S k):=c61 hk
   have hq:=hP _ _ hp hx
   have hn:a2F st.1 k=upN 0 (a2F S k):=by
    unfold a2F at hx ⊢
    rw[List.getD_eq_getElem?_getD,h.keep _ _ hx hq.1];rfl
   have hm:=inN hk
   rw[a8T,a8T,hn]
   refine b9y (fun p e he=>?_) (hR.kids _ hm)
   have her:=hR.edge _ hm e he
   rw[up0 hSn her]
   exact ih p e (hq.2 e he) her
 have e3:(∃ F,∀ f,F≤f→a8T st.1 f v r=true)↔(∃ F,∀ f,F≤f→a8T S f v r=true):=by simp only[hF _ v r hr ⟨hro.1,hro.2.1⟩]
 unfold a4k
 exact decide_eq_decide.2 e3
theorem c5s {x:NodeD} (hp:a1J x=true) (hv:a0z x=true) (hk:x.kids=[]) (hf:x.fields=[]) (h13:decide (x.kind=13)=false) (hb:a3x x.kind=false):wfP [x] 0=0:=by
 refine b9D (by omega) (by simp) (fun y hy=>?_) (fun j hj=>?_)
 ·simp only[List.mem_singleton] at hy;subst hy
  have he:edgeL y=[]:=by unfold edgeL;rw[hk,hf,h13];rfl
  unfold a1A;rw[hp,hv,he];rfl
 ·have:j=0:=by simpa using hj
  subst this
  exact Gr.fin_no _ _ (by unfold bo;simpa using hb)
theorem a4l (s:List UInt8):wfP (a2z s).1 (a2z s).2=0:=by
  unfold a2z
  cases h:a0A s
  · exact a74
  · exact c5s rfl (show a0z (a09 19 s)=true from h) rfl rfl rfl rfl
theorem b6e (s:List UInt8) (v:Val):a1q v (a2z s)=(a0A s&&v.labels.any fun t=>decide (t=s)):=by
 have hw:=a4l s
 unfold a2z at hw ⊢
 cases h:a0A s
 ·rw[cond_false,b0p];rfl
 ·rw[h,cond_true] at hw
  rw[cond_true,a2X hw,Bool.true_and]
  obtain⟨R,hR⟩:=Wf.of hw
  rw[a2s hR (by simp)];rfl
theorem a51 (s:List UInt8):TSm (a2z s).1:=by
  unfold a2z
  cases a0A s<;>exact a5l _ rfl rfl
theorem a3d (s:List UInt8):(a2z s).1.length=1:=by
  unfold a2z
  cases a0A s<;>rfl
theorem a9i {t:TyD} (h:wfP t.1 t.2=0):a0x t.1 t.2=t.1∧a1M t.1 t.2=t.2:=by
  unfold a0x a1M;rw[h];exact⟨rfl,rfl⟩
structure BdS (bs:List BdD):Prop where
  sm:∀ b∈bs,TSm b.2.1
  len:∀ b∈bs,(a0x b.2.1 b.2.2).length≤100
theorem b93 {bs:List BdD} (hb:BdS bs) {t:TyD} (hw:wfP t.1 t.2=0):SubI bs t.1 (t.1.length+t.1.length*100) t.1.length (b38 bs t (emL 0 t.1 t.2).length):=by
  have hs:=a9i hw
  have:=b90 hb.len t (a0x t.1 t.2).length (Nat.le_refl _)
  have hl:(emL 0 t.1 t.2).length=(a0x t.1 t.2).length:=by unfold emL;rw[lB]
  rw[hl]
  rwa[hs.1] at this ⊢
theorem b32 {bs:List BdD} {t:TyD} (hw:wfP t.1 t.2=0) (hl:t.1.length≤1000):(b0O bs t).2=t.2:=by
  have hs:=a9i hw
  have hr:=a6A hw
  show emR 0 t.1 t.2=t.2
  unfold emR
  rw[hs.2]
  exact up0 (n:=t.1.length) (by omega) ⟨hr.1,hr.2.1⟩
theorem b94 {bs:List BdD} (hb:BdS bs) {t:TyD} (hw:wfP t.1 t.2=0) (hl:t.1.length≤1000):wfP (b0O bs t).1 (b0O bs t).2=0:=by
  rw[b32 hw hl]
  exact c3k hw (b93 hb hw) (by omega)
theorem c5t {bs:List BdD} {nm:List UInt8} {u:TyD} (h:a2J bs nm=some u):∃ b∈bs,b.2=u:=by
  unfold a2J at h
  obtain⟨b,h1,h2⟩:=Option.map_eq_some_iff.1 h
  exact⟨b,List.mem_of_find?_eq_some h1,h2⟩
theorem b2L {bs:List BdD} (hb:BdS bs) {t:TyD} (hw:wfP t.1 t.2=0) (hl:t.1.length≤1000) (ht:TSm t.1):TSm (b0O bs t).1:=by
 have hI:=b93 hb hw
 have hsz:=hI.size
 have key:∀ x∈(b0O bs t).1,x.kids.length≤1000000∧x.fields.length≤1000000:=by
  intro x hx
  obtain⟨j,hj⟩:=List.getElem?_of_mem hx
  have hjl:=(List.getElem?_eq_some_iff.1 hj).1
  have hj':(b38 bs t (emL 0 t.1 t.2).length).1[j]?= some x:=hj
  rcases Nat.lt_or_ge j t.1.length with hjs|hjs
  ·rcases hI.old j _ (List.getElem?_eq_getElem hjs) with hL|⟨p,hp,hL⟩
   ·rw[hj'] at hL
    rw[Option.some.inj hL]
    simp only[upN,lB]
    exact⟨ht.kids _ (List.getElem_mem hjs),ht.fields _ (List.getElem_mem hjs)⟩
   ·rw[hj'] at hL
    rw[Option.some.inj hL]
    exact⟨by show (1:Nat)≤1000000;omega,Nat.zero_le _⟩
  ·obtain⟨nm,b,u,c,hB,rfl,hc⟩:=hI.cover j hjs hjl
   obtain⟨bb,hbb,rfl⟩:=c5t hB.bind
   rw[hB.at_ c hc,List.getElem?_eq_getElem hc] at hj'
   have e:=Option.some.inj hj'
   have hsm:=a7n (hb.sm bb hbb) bb.2.2
   rw[← e]
   simp only[upN,lB]
   exact⟨hsm.kids _ (List.getElem_mem hc),hsm.fields _ (List.getElem_mem hc)⟩
 exact⟨by have:(b0O bs t).1.length≤_:=hsz;omega,fun x hx=>(key x hx).1,fun x hx=>(key x hx).2⟩
theorem b33 {bs:List BdD} (hb:BdS bs) {t:TyD} (hw:wfP t.1 t.2=0) (hl:t.1.length≤1000) (P:Nat→Prop)
  (hP:∀ j x,P j→t.1[j]?= some x→(x.kind=19→a2J bs x.text=none)∧∀ e∈edgeL x,P e.toNat) (hr:P t.2.toNat) (v:Val):a1q v (b0O bs t)=a1q v t:=by
 have h:=c5r hw (b93 hb hw) (by omega) P hP hr v
 have e:b0O bs t=((b38 bs t (emL 0 t.1 t.2).length).1,t.2):=by
  have h0:emR 0 t.1 t.2=t.2:=b32 (bs:=bs) hw hl
  unfold b0O
  rw[h0]
 rw[e,h]
theorem b6f {bs:List BdD} {s:List UInt8} (hs:a0A s=true) {u:TyD} (hu:a2J bs s=some u):b0O bs (a2z s)=a1T 16 [u]:=by
 have hw:=a4l s
 have e:a2z s=([a09 19 s],0):=by unfold a2z;rw[hs];rfl
 rw[e] at hw ⊢
 have h1:=a9i hw
 have hem:emL 0 [a09 19 s] 0=[a09 19 s]:=by unfold emL;rw[h1.1];rfl
 have her:emR 0 [a09 19 s] 0=0:=by unfold emR;rw[h1.2];rfl
 unfold b0O
 simp only[hem,her]
 have hst:b38 bs ([a09 19 s],0) 1=(([a09 19 s]++emL 1 u.1 u.2).set 0 (a1b 16 [emR 1 u.1 u.2]),[(s,emR 1 u.1 u.2)]):=by
  rw[b0B]
  have h0:b38 bs ([a09 19 s],0) 0=([a09 19 s],[]):=by unfold b38;simp only[hem];rfl
  rw[h0]
  unfold a6W
  have hg:([a09 19 s]:List NodeD).getD 0 (a0G 1)=a09 19 s:=rfl
  simp only[hg]
  rw[show decide ((a09 19 s).kind=19)=true from rfl,cond_true,show (a09 19 s).text=s from rfl,hu]
  rfl
 rw[show [a09 19 s].length=1 from rfl,hst]
 rfl
def nmA:List UInt8:=[65]
def nmB:List UInt8:=[66]
def bsOf (u:TyD):List BdD:=[(nmA,u),(nmB,a2z nmA),(nmA,a7w)]
theorem c7q:a0A nmA=true:=by decide
theorem c8s:a0A nmB=true:=by decide
theorem c7r (u:TyD):a2J (bsOf u) nmA=some u:=by simp[a2J,bsOf]
theorem c7s (u:TyD):a2J (bsOf u) nmB=some (a2z nmA):=by
  have:¬ (nmA=nmB):=by decide
  simp[a2J,bsOf,this]
theorem b95 (u:TyD) {s:List UInt8} (h1:s≠nmA) (h2:s≠nmB):a2J (bsOf u) s=none:=by
  have h3:¬ (nmA=s):=fun h=>h1 h.symm
  have h4:¬ (nmB=s):=fun h=>h2 h.symm
  simp[a2J,bsOf,h3,h4]
theorem b96 {u:TyD} (hu:TSm u.1) (hl:u.1.length≤50):BdS (bsOf u):=by
 have hsl:∀ t:TyD,t.1.length≤50→(a0x t.1 t.2).length≤100:=by
  intro t ht
  unfold a0x
  cases decide (wfP t.1 t.2=0)
  ·show [b0G 1].length≤100;simp
  ·rw[cond_true];omega
 have h:∀ b∈bsOf u,TSm b.2.1∧b.2.1.length≤50:=by
  intro b hb
  simp only[bsOf,List.mem_cons,List.not_mem_nil,or_false] at hb
  rcases hb with rfl|rfl|rfl
  ·exact⟨hu,hl⟩
  ·exact⟨a51 _,by rw[a3d];omega⟩
  ·exact⟨a5l _ rfl rfl,by show (1:Nat)≤50;omega⟩
 exact⟨fun b hb=>(h b hb).1,fun b hb=>hsl _ (h b hb).2⟩
theorem b97 {u:TyD} (hu:TSm u.1) (hl:u.1.length≤50) (v:Val):a1q v (a1T 16 [u])=a1q v u∧wfP (a1T 16 [u]).1 (a1T 16 [u]).2=0:=by
  have hT:TyS 100 [u]:=b9F hu (by omega) (by omega)
  have h1:=a8k hT v
  have h2:=b2A hT
  rw[show a1e [u]=a1T 16 [u] from rfl] at h1 h2
  exact⟨by rw[h1];simp,h2⟩
theorem b6g:∀ {l:List NodeD} {bs:List Bool} {j:Nat} {x:NodeD},l[j]?= some x→bs[j]?= some true→x.kind=19→x.text∈b0H l bs
 |[],_,j,x,h,_,_=>by simp at h
 |y::l,[],j,x,_,h,_=>by simp at h
 |y::l,c::bs,0,x,h1,h2,hk=>by
  simp only[List.getElem?_cons_zero,Option.some.injEq] at h1 h2
  subst h1 h2
  simp[b0H,hk]
 |y::l,c::bs,j+1,x,h1,h2,hk=>by
  have ih:=b6g (l:=l) (bs:=bs) (j:=j) (by simpa using h1) (by simpa using h2) hk
  rw[b0H]
  exact List.mem_append_right _ ih
theorem b98 {u t:TyD} (hu:TSm u.1) (hl:u.1.length≤50) (hw:wfP t.1 t.2=0) (htl:t.1.length≤1000) (hv:∀ s∈varsT t.1 t.2,s≠nmA∧s≠nmB) (v:Val):a1q v (b0O (bsOf u) t)=a1q v t:=by
 have ho:=a6A hw
 have hE:InE t.1:=b8n ho.2.2.1
 have hin:=c06 hE
 have hrl:=a4y hE ho.1 ho.2.1
 rw[b2I hw] at hv
 unfold c5z at hv
 have hiff:∀ j,(a1S t.1 t.2).getD j false=true↔Gr.Rch (es t.1) t.2.toNat j:=fun j=>Gr.dfR_iff (es t.1) t.1.length hin t.2.toNat (by omega) j
 refine b33 (b96 hu hl) hw htl (fun j=>Gr.Rch (es t.1) t.2.toNat j) (fun j x hj hx=>⟨fun hk=>?_,fun e he=>?_⟩) (Gr.Rch.refl _) v
 ·have h1:=(hiff j).2 hj
  have hjl:=(List.getElem?_eq_some_iff.1 hx).1
  have h2:(a1S t.1 t.2)[j]?= some true:=by
   rw[List.getD_eq_getElem?_getD,List.getElem?_eq_getElem (by omega)] at h1
   rw[List.getElem?_eq_getElem (by omega)]
   simpa using h1
  have h3:=hv x.text ((a8B _).2 _ |>.2 (b6g hx h2 hk))
  exact b95 u h3.1 h3.2
 ·refine Gr.Rch.step hj ?_
  unfold es
  rw[hx]
  exact List.mem_map_of_mem he
theorem b99 {u:TyD} (hu:TSm u.1) (hl:u.1.length≤50) {s:List UInt8} (h1:s≠nmA) (h2:s≠nmB) (v:Val):a1q v (b0O (bsOf u) (a2z s))=(a0A s&&v.labels.any fun t=>decide (t=s)):=by
 rw[← b6e]
 refine b33 (b96 hu hl) (a4l s) (by rw[a3d];omega) (fun _=>True) (fun j x _ hx=>?_) trivial v
 have hmem:x∈(a2z s).1:=List.mem_of_getElem? hx
 unfold a2z at hmem
 cases hs:a0A s
 ·rw[hs,cond_false] at hmem
  have:x=a0G 1:=by simpa [a7w] using hmem
  subst this
  exact⟨fun hk=>absurd hk (by decide),fun _ _=>trivial⟩
 ·rw[hs,cond_true] at hmem
  have:x=a09 19 s:=by simpa using hmem
  subst this
  exact⟨fun _=>b95 u h1 h2,fun _ _=>trivial⟩
end Go.Proofs.YthbcdhfiibpeaaaGreat
namespace Go.Sx
variable {P:Program} {n:Nat} {Q:Exit→AS→Prop}
theorem a3H (all rest:List Oper) (K:AS→Prop) {X:Env→Bx→Prop} (hx:∀ e b,X e b→a1r P n all rest ⟨e,b⟩ K):∀ (l:List Oper) (env:Env) (B:Bx),a1c n l=true→a3O P all l env B X→a1r P n all (l++rest) ⟨env,B⟩ K
 |[],env,B,_,h=>hx _ _ h
 |o::os,env,B,hd,h=>by
  simp only[a1c,List.all_cons,Bool.and_eq_true] at hd
  obtain⟨⟨hd1,hd2⟩,hd3⟩:=hd
  refine a2d h (fun h=>?_) (fun h=>⟨hd1,by rw[a2O];exact a3H all rest K hx os _ B hd3 h⟩)
  rcases a5N h with (⟨t,h1,h2⟩|⟨t,B',h1,h2⟩|⟨t,B',h1,hf,h2⟩)|⟨js,t,B',h1,hj,hf,h2⟩
  ·exact .pure t h1 hd1 (by rw[a2O];exact a3H all rest K hx os _ B hd3 h2)
  ·exact .eff t B' h1 hd1 (by rw[a2O];exact a3H all rest K hx os _ B' hd3 h2)
  ·exact .gen (a1i o) t B' h1 (Nat.le_of_ble_eq_true hd2) hf hd1 (by rw[a2O];exact a3H all rest K hx os _ B' hd3 h2)
  ·exact .genx js t B' h1 hj hf hd1 (by rw[a2O];exact a3H all rest K hx os _ B' hd3 h2)
def c0a (P:Program) (all:List Oper) (env:Env) (B:Bx) (K:Env→Bx→Prop):List Oper→Prop
  |o::post=>o.guard=none∧∃ f captured cs,o.op= .makeFunc (.func f) #[] (List.toArray captured)∧cellsOf P env captured=some cs∧a3O P all post (a14 env o.dst (.one (.clo f cs))) B K
  |[]=>False
theorem AWP.cloS {id:Nat} {l:List Oper} {env:Env} {B:Bx} (k:Nat) (hd:a1c n l=true)
  (h:∀ K:Env→Bx→Prop,(∀ e b,Q .normal ⟨e,b⟩→K e b)→a3O P l (l.take k) env B fun e b=>c0a P l e b K (l.drop k)):AWP P n (.region id l.toArray false) ⟨env,B⟩ Q:=by
 refine AWP.region_seq fun K hK=>?_
 have hd':=hd
 unfold a1c at hd'
 rw[← List.take_append_drop k l,List.all_append,Bool.and_eq_true] at hd'
 have hs:a1r P n l (l.take k++l.drop k) ⟨env,B⟩ K:=by
  refine a3H l (l.drop k) K (X:=fun e b=>c0a P l e b (fun e b=>K ⟨e,b⟩) (l.drop k)) ?_ (l.take k) env B hd'.1 (h (fun e b=>K ⟨e,b⟩) fun e b q=>hK _ q)
  generalize l.drop k=dr at hd'
  intro e b hc
  match dr,hd'.2,hc with
  |o::post,hd2,⟨hg,f,captured,cs,ho,hcs,hp⟩=>
   simp only[List.all_cons,Bool.and_eq_true] at hd2
   unfold a1r a0Y
   rw[hg]
   exact .pure _ (OpP.clo ho hcs) hd2.1.1 (by rw[a2O];exact a1f l K post _ b hd2.2 hp)
 rwa[List.take_append_drop] at hs
end Go.Sx
namespace Go.Proofs.YthbcdhfiibpeaaaGreat
open Go Go.Sx
theorem c0b:mpT zP 100=some ([.int .i64 0],false):=by kernel_rfl
theorem b2M (l:List NodeD) (i:Nat) (r:Int):(l.map a0c).set i [C.int .i64 16,C.int .i64 0,C.int .i64 0,C.str [],C.sl 1 [[C.int .i64 r]],C.sl 4 [],C.int .i64 0,C.int .i64 0]=(l.set i (a1b 16 [r])).map a0c:=by rw[List.map_set];rfl
theorem a4g (t:TyD) (bs:List BdD) (ht:TSm t.1) (hl:(a0x t.1 t.2).length≤1000) (hb:BdS bs):PC zP 26 [Yp t,Bds bs] (Yp (b0O bs t)):=by
 have hN:=b9V t.1 t.2 ht
 have hSl:(emL 0 t.1 t.2).length=(a0x t.1 t.2).length:=by unfold emL;rw[lB]
 have hI:=b90 hb.len t
 have hs0:b38 bs t 0=(emL 0 t.1 t.2,[]):=rfl
 have hfin:b0O bs t=((b38 bs t (emL 0 t.1 t.2).length).1,emR 0 t.1 t.2):=rfl
 rw[hfin]
 rw[← hSl] at hl hI
 generalize emR 0 t.1 t.2=R at hN ⊢
 obtain⟨S,hS⟩:∃ S,S=emL 0 t.1 t.2:=⟨_,rfl⟩
 rw[← hS] at hN hl hs0 hI ⊢
 have hSS:S.length=(a0x t.1 t.2).length:=by rw[hS];exact hSl
 have hlen0:S.length≤9223372036854775807:=by omega
 refine PCB.ob Tryz.func26 Tryz.ntmps26 Tryz.results26 ?_
 repeat'(first|(simp only[go_sem,zA,zB,zC,zD,zE,zF,zG,reduceCtorEq,zH,zI,zJ,zK,zL,a1N,c0b,lB];all_goals refine nf ?_)|(refine stp ?_;intro K hK)|(apply hK;clear hK K)|refine stn ?_|(refine Or.inr (Or.inr (a8H.mk hN (by repeat(first|exact trivial|refine And.intro rfl ?_)) (by rfl) (by first|rfl|(simp only[a6j,List.all_cons,List.all_nil,go_sem,zA,zB,zC,zD,zE,zF,zG,reduceCtorEq,zH,zI,zJ,zK,zL,a1N,c0b,lB]<;>rfl)) (by rfl) (by rfl) ?_)))|fail)
 (try rw[lB] at hlen0)
 refine AWP.range (S:=SubSt×Nat) (S) a0c (fun i s=>(24,I .i64 (i:Nat))::[(5, .one (.own 900 s.2))]) (fun i s=>[(900, .row 8 (s.1.1.map a0c)),(22, .mp false (s.1.2.map b2J))]) [1,4,6,8,23] [2,4] (fun i s=>s.1=b38 bs t i∧s.2=s.1.1.length) (((S,[]),S.length)) (by refine sts ?_;exact Gh.tt []) ?_ ?_ ?_
 ·exact⟨hs0.symm,rfl⟩
 ·rintro i ⟨s,m⟩ y hlt hy hy' hbb ⟨hok,hm⟩
  refine sts ?_
  simp only at hok hm
  subst hm
  have hIi:=hI i (Nat.le_of_lt hlt)
  rw[← hok] at hIi
  have hil:=hIi.len
  have hisz:=hIi.size
  have hmul:i*100≤100000:=by omega
  obtain⟨x,hx⟩:∃ x,s.1[i]?= some x:=⟨_,List.getElem?_eq_getElem (by omega)⟩
  have hx':=a0n a0c hx
  have hxd:s.1.getD i (a0G 1)=x:=by rw[List.getD_eq_getElem?_getD,hx];rfl
  have hsucc:b38 bs t (i+1)=a6W bs s i:=by rw[b0B,← hok]
  unfold a6W at hsucc
  rw[hxd] at hsucc
  have hsl1:s.1.length≤101000:=by omega
  have hil2:i<s.1.length:=by omega
  clear hIi hisz
  cases hk:decide (x.kind=19) with
  |false=>
   rw[hk,cond_false] at hsucc
   repeat'(first|(simp only[go_sem,zA,zB,zC,zD,zE,zF,zG,reduceCtorEq,zH,zI,zJ,zK,zL,lB,hbb,hk,a0b];all_goals refine nf ?_)|(refine stp ?_;intro K hK)|(apply hK;clear hK K)|refine stn ?_|(with_reducible first|refine⟨a0c x,hx',?_⟩|refine⟨(by omega:_≤_),(by omega:_≤_),(by omega:_<_),?_⟩)|(clear hK K))
   all_goals(rw[a0d hlt hlen0])
   all_goals(refine⟨(s,s.1.length),?_,Gh.tt []⟩)
   all_goals exact⟨hsucc.symm,rfl⟩
  |true=>
   rw[hk,cond_true] at hsucc
   have hBI:=b49 bs x.text
   unfold a2J at hsucc
   cases hfd:bs.find? (fun b=>decide (b.1=x.text)) with
   |none=>
    rw[hfd] at hsucc
    rw[(b2K _ bs 0 (by omega)).1 hfd] at hBI
    repeat'(first|( refine AWP.cloS (id:=9) 1 (by kernel_rfl) fun K hK=>?_;simp only[List.take_succ_cons,List.take_zero,List.drop_succ_cons,List.drop_zero])|( unfold c0a;refine⟨rfl,_,_,_,rfl,by with_unfolding_all rfl,?_⟩)|(simp only[go_sem,zA,zB,zC,zD,zE,zF,zG,reduceCtorEq,zH,zI,zJ,zK,zL,lB,hbb,hk,a0b];all_goals refine nf ?_)|(refine stp ?_;intro K hK)|(apply hK;clear hK K)|refine stn ?_|(with_reducible first|refine⟨a0c x,hx',?_⟩|refine⟨(by omega:_≤_),(by omega:_≤_),(by omega:_<_),?_⟩)|(refine⟨10,_,_,_,a2f.mk 10 hBI,rfl,?_⟩)|refine stq ?_|(clear hK K))
    all_goals(rw[a0d hlt hlen0])
    all_goals(refine⟨(s,s.1.length),?_,Gh.tt []⟩)
    all_goals exact⟨hsucc.symm,rfl⟩
   |some b=>
    rw[hfd] at hsucc
    obtain⟨k,hk1,hbk⟩:=(b2K _ bs 0 (by omega)).2 b hfd
    rw[hk1,Int.zero_add] at hBI
    have hneg:decide ((k:Int)<0)=false:=by rw[decide_eq_false_iff_not];omega
    have hbk':=a0n a5Z hbk
    have hkl:=(List.getElem?_eq_some_iff.1 hbk).1
    have hbm:=List.mem_of_getElem? hbk
    obtain⟨bn,u⟩:=b
    cases hlk:a6V x.text s.2 with
    |some r=>
     have hA:a4G x.text (s.2.map b2J)=some [.int .i64 r]:=by rw[a9h,hlk];rfl
     simp only[Option.map_some,hlk] at hsucc
     repeat'(first|( refine AWP.cloS (id:=9) 1 (by kernel_rfl) fun K hK=>?_;simp only[List.take_succ_cons,List.take_zero,List.drop_succ_cons,List.drop_zero])|( unfold c0a;refine⟨rfl,_,_,_,rfl,by with_unfolding_all rfl,?_⟩)|(simp only[go_sem,zA,zB,zC,zD,zE,zF,zG,reduceCtorEq,zH,zI,zJ,zK,zL,lB,hbb,hk,a0b,c0b,hneg,hA,Option.getD_some,Option.isSome_some,b2M];all_goals refine nf ?_)|(refine stp ?_;intro K hK)|(apply hK;clear hK K)|refine stn ?_|(with_reducible first|refine⟨a0c x,hx',?_⟩|refine⟨(by omega:_≤_),(by omega:_≤_),(by omega:_<_),?_⟩)|(refine⟨10,_,_,_,a2f.mk 10 hBI,rfl,?_⟩)|refine stq ?_|(clear hK K))
     all_goals(rw[a0d hlt hlen0])
     all_goals(refine⟨((s.1.set i (a1b 16 [r]),s.2),s.1.length),?_,Gh.tt []⟩)
     all_goals exact⟨hsucc.symm,by simp⟩
    |none=>
     have hA:a4G x.text (s.2.map b2J)=none:=by rw[a9h,hlk];rfl
     simp only[Option.map_some,hlk] at hsucc
     have hix:=(b2o s.1 u.1 u.2 (hb.sm _ hbm) (by omega)).ren (fun _=>900) 1000 (args1:=[.one (.own 900 s.1.length), .st [.sl 8 (u.1.map a0c), .int .i64 u.2]]) (B1:=[(900, .row 8 (s.1.map a0c))])
      (r1:=(.tup [.one (.own 1900 (s.1++emL s.1.length u.1 u.2).length), .one (.dat (.int .i64 (emR s.1.length u.1 u.2)))])) (B1':=[(1900, .row 8 ((s.1++emL s.1.length u.1 u.2).map a0c))]) rfl rfl rfl rfl rfl
     generalize emR s.1.length u.1 u.2=r at hix hsucc
     have hx2:(s.1++emL s.1.length u.1 u.2)[i]?= some x:=by rw[List.getElem?_append_left hil2];exact hx
     have hll:i<(s.1++emL s.1.length u.1 u.2).length:=(List.getElem?_eq_some_iff.1 hx2).1
     generalize s.1++emL s.1.length u.1 u.2=L2 at hix hsucc hx2 hll
     have hx2':=a0n a0c hx2
     have hput:b7u x.text [.int .i64 r] (s.2.map b2J)=(s.2++[(x.text,r)]).map b2J:=b9X x.text r s.2 hlk
     have hA1:a4G x.text ((s.2++[(x.text,r)]).map b2J)=some [.int .i64 r]:=by rw[a9h,b1K hlk];rfl
     repeat'(first|( refine AWP.cloS (id:=9) 1 (by kernel_rfl) fun K hK=>?_;simp only[List.take_succ_cons,List.take_zero,List.drop_succ_cons,List.drop_zero])|( unfold c0a;refine⟨rfl,_,_,_,rfl,by with_unfolding_all rfl,?_⟩)|(simp only[go_sem,zA,zB,zC,zD,zE,zF,zG,reduceCtorEq,zH,zI,zJ,zK,zL,lB,hbb,hk,a0b,a4Q,c0b,hneg,hA,hput,hA1,Option.getD_some,Option.isSome_some,Option.getD_none,Option.isSome_none,b2M];all_goals refine nf ?_)|(refine stp ?_;intro K hK)|(apply hK;clear hK K)|refine stn ?_|(with_reducible first|refine⟨a0c x,hx',?_⟩|refine⟨a0c x,hx2',?_⟩|refine⟨(by omega:_≤_),a5Z (bn,u),hbk',?_⟩|refine⟨(by omega:_≤_),(by omega:_≤_),(by omega:_<_),?_⟩)|(refine⟨10,_,_,_,a2f.mk 10 hBI,rfl,?_⟩)|(refine Or.inr (Or.inr (a8H.mk hix (by repeat(first|exact trivial|refine And.intro rfl ?_)) (by rfl) (by first|rfl|(simp only[a6j,List.all_cons,List.all_nil,go_sem,zA,zB,zC,zD,zE,zF,zG,reduceCtorEq,zH,zI,zJ,zK,zL,lB,hbb,hk,a0b,a4Q,c0b,hneg,hA,hput,hA1,Option.getD_some,Option.isSome_some,Option.getD_none,Option.isSome_none,b2M]<;>rfl)) (by rfl) (by rfl) ?_)))|refine stq ?_|(clear hK K))
     all_goals(rw[a0d hlt hlen0])
     all_goals(refine⟨((L2.set i (a1b 16 [r]),s.2++[(x.text,r)]),L2.length),?_,Gh.tt [(900,1900)]⟩)
     all_goals exact⟨hsucc.symm,by simp⟩
 ·rintro⟨s,m⟩ hbb ⟨hok,hm⟩
  refine sts ?_
  simp only at hok hm
  subst hm
  repeat'(first|(refine atR 18 (Gh.freeze 900 (by rfl) (by rfl) (by simp only[go_sem,zA,zB,zC,zD,zE,zF,zG,reduceCtorEq,zH,zI,zJ,zK,zL,lB,hbb,lB]) (by simp only[go_sem,zA,zB,zC,zD,zE,zF,zG,reduceCtorEq,zH,zI,zJ,zK,zL,lB,hbb,lB])) ?_;simp only[frE,frB,Bx.drop,go_sem,zA,zB,zC,zD,zE,zF,zG,reduceCtorEq,zH,zI,zJ,zK,zL,lB,hbb])|(simp only[go_sem,zA,zB,zC,zD,zE,zF,zG,reduceCtorEq,zH,zI,zJ,zK,zL,lB,hbb];all_goals refine nf ?_)|(refine stp ?_;intro K hK)|(apply hK;clear hK K)|refine stn ?_|(clear hK K))
  all_goals(refine⟨?_,fun x hx=>by cases hx⟩)
  all_goals(show T.st [C.sl 8 (s.1.map a0c),C.int .i64 R]=T.st [C.sl 8 ((b38 bs t S.length).1.map a0c),C.int .i64 R];rw[← hok])
theorem c2n {α:Type} {p:α→Bool} {l:List α}:(l.drop l.length).any p=false:=by rw[List.drop_length];rfl
theorem b6h (v:Val) (s:List UInt8):PC zP 27 [LV v,S s] (Bo (v.labels.any fun t=>decide (t=s))):=by
 refine PCB.ob Tryz.func27 Tryz.ntmps27 Tryz.results27 ?_
 repeat'(first|(simp only[go_sem,zA,zB,zC,zD,zE,zF,zG,reduceCtorEq,zH,zI,zJ,zK,zL,lB];all_goals refine nf ?_)|(refine stp ?_;intro K hK)|(apply hK;clear hK K)|refine stn ?_|fail)
 refine AWP.lenB 2 6 rfl rfl fun hlen0=>?_
 (try rw[lB] at hlen0)
 refine AWP.range (S:=Unit) (v.labels) Sx.encStr (fun k s=>(5,I .i64 (k:Nat))::[]) (fun k s=>[]) [1,2] [2] (fun i y=>(v.labels.any fun t=>decide (t=s))=((v.labels.drop i).any fun t=>decide (t=s))) (()) (by refine sts ?_;exact Gh.tt []) ?_ ?_ ?_
 ·rfl
 ·intro i y t hlt ht ht' hb hok
  refine sts ?_
  rw[a82 ht] at hok
  cases hc:decide (t=s) with
  |true=>
   rw[hc,Bool.true_or] at hok
   repeat'(first|(simp only[go_sem,zA,zB,zC,zD,zE,zF,zG,reduceCtorEq,zH,zI,zJ,zK,zL,lB,hb,hc,a0R];all_goals refine nf ?_)|(refine stp ?_;intro K hK)|(apply hK;clear hK K)|refine stn ?_|(with_reducible refine⟨(by omega:_≤_),Sx.encStr t,ht',?_⟩)|(clear hK K))
   all_goals(first|exact fun _ h=>absurd h List.not_mem_nil|(refine a0m ?_;rw[hok]))
  |false=>
   rw[hc,Bool.false_or] at hok
   repeat'(first|(simp only[go_sem,zA,zB,zC,zD,zE,zF,zG,reduceCtorEq,zH,zI,zJ,zK,zL,lB,hb,hc,a0R];all_goals refine nf ?_)|(refine stp ?_;intro K hK)|(apply hK;clear hK K)|refine stn ?_|(with_reducible refine⟨(by omega:_≤_),Sx.encStr t,ht',?_⟩)|(clear hK K))
   all_goals(rw[a0d hlt hlen0])
   all_goals(refine⟨(),?_,Gh.tt []⟩)
   all_goals exact hok
 ·intro y hb hok
  refine sts ?_
  rw[c2n] at hok
  repeat'(first|(simp only[go_sem,zA,zB,zC,zD,zE,zF,zG,reduceCtorEq,zH,zI,zJ,zK,zL,lB,hb];all_goals refine nf ?_)|(refine stp ?_;intro K hK)|(apply hK;clear hK K)|refine stn ?_|(clear hK K))
  all_goals(first|exact fun _ h=>absurd h List.not_mem_nil|(refine a0m ?_;rw[hok]))
abbrev LT2 (t:TyD):T:= .st [.sl 8 (t.1.map a0c), .int .i64 t.2]
theorem c52 {t:TyD} (hw:wfP t.1 t.2=0) (hs:TSm t.1) {v:Val} (hv:a0C v=true):PC zP 14 [LV v,LT2 t] (Bo (a1q v t)):=by
  have h:=a9b v t.1 t.2 hs
  rw[b53 hw,hv,Bool.true_and] at h
  exact h
theorem wfK {t:TyD} (hw:wfP t.1 t.2=0) (hs:TSm t.1):PC zP 12 [LT2 t] (I .i64 0):=by
  have h:=a40 t.1 t.2 hs
  rw[hw] at h
  exact h
def okS (s:List UInt8):Bool:=!decide (s=nmA)&&!decide (s=nmB)
theorem c5u {l:List (List UInt8)} (h:l.all okS=true):∀ s∈l,s≠nmA∧s≠nmB:=by
  intro s hs
  have:=List.all_eq_true.1 h s hs
  simpa [okS] using this
theorem b34 {p:List UInt8→Bool} {l:List (List UInt8)} {i:Nat} {x:List UInt8} (hx:l[i]?= some x):(l.take (i+1)).all p=((l.take i).all p&&p x):=by
  rw[List.take_add_one,hx,List.all_append];simp
structure SubX (S T:List NodeD) (name:List UInt8) (v w:Val) (X A B Cc:TyD) (fr:Bool) (mu:Bool):Prop where
  x:PC zP 26 [LT2 (S,0),Bds (bsOf (T,0))] (LT2 X)
  a:PC zP 26 [LT2 (a2z nmA),Bds (bsOf (T,0))] (LT2 A)
  b:PC zP 26 [LT2 (a2z nmB),Bds (bsOf (T,0))] (LT2 B)
  c:PC zP 26 [LT2 (a2z name),Bds (bsOf (T,0))] (LT2 Cc)
  wx:PC zP 12 [LT2 X] (I .i64 0)
  ma:PC zP 14 [LV w,LT2 A] (Bo mu)
  mu_:PC zP 14 [LV w,LT2 (T,0)] (Bo mu)
  mb:PC zP 14 [LV w,LT2 B] (Bo (w.labels.any fun t=>decide (t=nmA)))
  mc:fr=true→PC zP 14 [LV w,LT2 Cc] (Bo (a0A name&&w.labels.any fun t=>decide (t=name)))
  mx:PC zP 14 [LV v,LT2 X] (Bo (a1q v X))
  mt:PC zP 14 [LV v,LT2 (S,0)] (Bo (a1q v (S,0)))
  same:(varsT S 0).all okS=true→a1q v X=a1q v (S,0)
theorem c5v {S T:List NodeD} (name:List UInt8) {v w:Val} (hS:wfP S 0=0) (hT:wfP T 0=0) (lS:S.length≤7) (lT:T.length≤7) (sS:TSm S) (sT:TSm T) (hv:a0C v=true) (hw:a0C w=true):
  SubX S T name v w (b0O (bsOf (T,0)) (S,0)) (a1T 16 [(T,0)]) (a1T 16 [a2z nmA]) (b0O (bsOf (T,0)) (a2z name)) (okS name) (a1q w (T,0)):=by
 have hb:BdS (bsOf (T,0)):=b96 (u:=(T,0)) sT (by show T.length≤50;omega)
 have hsl:∀ t:TyD,wfP t.1 t.2=0→t.1.length≤1000→(a0x t.1 t.2).length≤1000:=fun t ht h=>by rw[(a9i ht).1];exact h
 have hX:=b94 hb (t:=(S,0)) hS (by show S.length≤1000;omega)
 have hXs:=b2L hb (t:=(S,0)) hS (by show S.length≤1000;omega) sS
 have hC:=b94 hb (a4l name) (by rw[a3d];omega)
 have hCs:=b2L hb (a4l name) (by rw[a3d];omega) (a51 name)
 have oA:=fun v=>b97 (u:=(T,0)) sT (by show T.length≤50;omega) v
 have oB:=fun v=>b97 (a51 nmA) (by rw[a3d];omega) v
 have eA:b0O (bsOf (T,0)) (a2z nmA)=a1T 16 [(T,0)]:=b6f c7q (c7r (T,0))
 have eB:b0O (bsOf (T,0)) (a2z nmB)=a1T 16 [a2z nmA]:=b6f c8s (c7s (T,0))
 have sA:TSm (a1T 16 [(T,0)]).1:=by rw[← eA];exact b2L hb (a4l nmA) (by rw[a3d];omega) (a51 nmA)
 have sB:TSm (a1T 16 [a2z nmA]).1:=by rw[← eB];exact b2L hb (a4l nmB) (by rw[a3d];omega) (a51 nmB)
 refine⟨a4g (S,0) _ sS (hsl _ hS (by show S.length≤1000;omega)) hb,?_,?_,a4g (a2z name) _ (a51 name) (hsl _ (a4l name) (by rw[a3d];omega)) hb,wfK hX hXs,?_,c52 (t:=(T,0)) hT sT hw,?_,fun hf=>?_,c52 hX hXs hv,c52 (t:=(S,0)) hS sS hv,fun h=>?_⟩
 ·rw[← eA];exact a4g (a2z nmA) _ (a51 nmA) (hsl _ (a4l nmA) (by rw[a3d];omega)) hb
 ·rw[← eB];exact a4g (a2z nmB) _ (a51 nmB) (hsl _ (a4l nmB) (by rw[a3d];omega)) hb
 ·have:=c52 (oA w).2 sA hw
  rwa[(oA w).1] at this
 ·have:=c52 (oB w).2 sB hw
  rwa[(oB w).1,b6e,c7q,Bool.true_and] at this
 ·have:=c52 hC hCs hw
  simp only[okS,Bool.and_eq_true,Bool.not_eq_true',decide_eq_false_iff_not] at hf
  rwa[b99 (u:=(T,0)) sT (by show T.length≤50;omega) hf.1 hf.2] at this
 ·exact b98 (u:=(T,0)) sT (by show T.length≤50;omega) (t:=(S,0)) hS (by show S.length≤1000;omega) (c5u h) v
theorem c0c {S:List NodeD} (hS:wfP S 0=0) (lS:S.length≤7):(varsT S 0).length≤7:=by
  rw[b2I hS]
  unfold c5z
  exact Nat.le_trans (a2v _) (Nat.le_trans (a6d _ _) lS)
end Go.Proofs.YthbcdhfiibpeaaaGreat

