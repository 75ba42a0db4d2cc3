/- Lemmas of the proof. -/
import Derived.Test.YthbcdhfiibpeaaaGreatTm49
open List renaming length_append→lA,length_map→lB,length_cons→lC,length_nil→lD
open Nat renaming reduceBEq→zA,reduceBNe→zB,reduceAdd→zC,reduceSub→zD,reduceMul→zE,reduceLeDiff→zF,reduceLT→zG,reduceEqDiff→zH
open Int renaming reduceToNat→zI,reduceLE→zJ,reduceLT→zK,reduceEq→zL
open Bool renaming not_eq_true'→zM,not_eq_false'→zN
set_option linter.unusedSimpArgs false
set_option linter.unusedVariables false
set_option maxRecDepth 20000
set_option maxHeartbeats 64000000
namespace Go.Sx
variable {P:Program} {n:Nat} {σ:AS} {Q:Exit→AS→Prop}
theorem PCX.nils {f:FuncId} {args args1:List T} {B:Bx} {r:T} {B':Bx} (h:PCX P f args B r B') (hB:∀ p∈B,∃ sz,p.2= .row sz []) (hn:a6D (B.map (·.1))=true)
  (ha:∀ M vs ν,T.reps M ν args1 vs→T.reps M (fun _=>⟨none,0⟩) args vs):PCX P f args1 [] r B':=by
 refine⟨h.1,fun M ν w vs hs hreps=>?_⟩
 have hbb:∀ (ν2:Nu) b,a0t B (fun _=>⟨none,0⟩) b↔a0t [] ν2 b:=by
  intro ν2 b
  constructor
  ·rintro⟨k,q,hm,hb⟩;cases hb
  ·rintro⟨k,q,hm,hb⟩;cases hm
 have hs1:Sat ⟨w,a0t B (fun _=>⟨none,0⟩),fun _=>⟨none,0⟩⟩ M (fun _=>⟨none,0⟩) B w:=by
  refine⟨rfl,rfl,rfl,Nat.zero_le _,Nat.le_refl _,fun _ _ _=>rfl,hs.fro,?_,?_,?_,a2t hn⟩
  ·intro k q hm
   obtain⟨sz,e⟩:=hB _ hm
   simp only at e
   subst e
   exact⟨Nat.zero_le _,Nat.zero_le _, .inl ⟨rfl,rfl⟩⟩
  ·intro k q b hm hb;cases hb
  ·intro k q k' q' b hm hm' hb hb';cases hb
 refine Calls.mono (h.2 M _ w vs hs1 (ha M.f vs ν hreps)) ?_
 rintro e w' ⟨v,M',ν',rfl,hext,hr,hs'⟩
 exact⟨v,M',ν',rfl,⟨hext.1,fun b o e=>(hext.2 b o e).imp id fun h=>h.imp id (hbb ν b).1⟩,hr,
  ⟨hs'.os,hs'.tape,hs'.output,Nat.zero_le _,hs'.size,fun b hb hD=>hs'.unch b hb fun h=>hD ((hbb ν b).1 h),hs'.fro,hs'.res,fun k q b hm hb=>⟨(hs'.away k q b hm hb).1,(hs'.away k q b hm hb).2.imp id (hbb ν b).1⟩,hs'.inj,hs'.nodup⟩⟩
end Go.Sx
namespace Go.Proofs.YthbcdhfiibpeaaaGreat
open Go Go.Sx
@[go_sem] theorem sz62:szT Tryz.prog 62=some 3:=by kernel_rfl
@[go_sem] theorem ag62:a1w Tryz.prog 62=some true:=by kernel_rfl
@[go_sem] theorem kd62:kdT Tryz.prog 62=some (.other):=by kernel_rfl
@[go_sem] theorem d0o:a15 Tryz.prog 62 0=some (0,1,false):=by kernel_rfl
@[go_sem] theorem d0p:a1R Tryz.prog 62 0=some (0,1,9):=by kernel_rfl
@[go_sem] theorem d0q:a15 Tryz.prog 62 1=some (1,2,true):=by kernel_rfl
@[go_sem] theorem d0r:a1R Tryz.prog 62 1=some (1,2,26):=by kernel_rfl
@[go_sem] theorem fo62:a0T Tryz.prog 62=true:=by kernel_rfl
@[go_sem] theorem ze62:a01 Tryz.prog 62=some [.str [], .nil 8, .int .i64 0]:=by kernel_rfl
@[go_sem] theorem sz63:szT Tryz.prog 63=some 3:=by kernel_rfl
@[go_sem] theorem ag63:a1w Tryz.prog 63=some true:=by kernel_rfl
@[go_sem] theorem kd63:kdT Tryz.prog 63=some (.other):=by kernel_rfl
@[go_sem] theorem d0s:a15 Tryz.prog 63 0=some (0,1,false):=by kernel_rfl
@[go_sem] theorem d0t:a1R Tryz.prog 63 0=some (0,1,9):=by kernel_rfl
@[go_sem] theorem d0u:a15 Tryz.prog 63 1=some (1,2,true):=by kernel_rfl
@[go_sem] theorem d0v:a1R Tryz.prog 63 1=some (1,2,26):=by kernel_rfl
@[go_sem] theorem fo63:a0T Tryz.prog 63=true:=by kernel_rfl
@[go_sem] theorem ze63:a01 Tryz.prog 63=some [.str [], .nil 8, .int .i64 0]:=by kernel_rfl
@[go_sem] theorem sz66:szT Tryz.prog 66=some 1:=by kernel_rfl
@[go_sem] theorem ag66:a1w Tryz.prog 66=some false:=by kernel_rfl
@[go_sem] theorem kd66:kdT Tryz.prog 66=some (.other):=by kernel_rfl
@[go_sem] theorem el66:elT Tryz.prog 66=some (3,true):=by kernel_rfl
@[go_sem] theorem bs66:bsT Tryz.prog 66=some (63,3):=by kernel_rfl
@[go_sem] theorem by66:byT Tryz.prog 66=some 48:=by kernel_rfl
@[go_sem] theorem ni66:a2M Tryz.prog 66=true:=by kernel_rfl
@[go_sem] theorem ze66:a01 Tryz.prog 66=some [.nil 3]:=by kernel_rfl
@[go_sem] theorem sz100:szT Tryz.prog 100=some 1:=by kernel_rfl
@[go_sem] theorem ag100:a1w Tryz.prog 100=some false:=by kernel_rfl
@[go_sem] theorem kd100:kdT Tryz.prog 100=some (.other):=by kernel_rfl
@[go_sem] theorem sz102:szT Tryz.prog 102=some 1:=by kernel_rfl
@[go_sem] theorem ag102:a1w Tryz.prog 102=some false:=by kernel_rfl
@[go_sem] theorem kd102:kdT Tryz.prog 102=some (.other):=by kernel_rfl
@[go_sem] theorem ze102:a01 Tryz.prog 102=some [.fnil]:=by kernel_rfl
end Go.Proofs.YthbcdhfiibpeaaaGreat
namespace Go.Gr
variable (es:Nat→List Nat)
theorem a7J (n j:Nat):(List.replicate n false).getD j false=false:=by
  rw[List.getD_eq_getElem?_getD,List.getElem?_replicate];split<;>rfl
theorem dfR_iff (n:Nat) (hk:∀ i,i<n→∀ k∈es i,k<n) (r:Nat) (hr:r<n) (j:Nat):(dfR es (n+1) (List.replicate n false) r).getD j false=true↔Rch es r j:=by
 have a:=dfR_ok es n hk (n+1) (List.replicate n false) r (by simp) hr (by have:=zeB_le (List.replicate n false);simp at this;omega)
 exact c6A es (a.has r List.mem_cons_self) (fun j h=>a.cls j h (a7J n j)) (fun j h=>by
  obtain⟨x,hx,h2⟩:=a.rch j h (a7J n j)
  rw[List.mem_singleton.1 hx] at h2;exact h2) j
def wrk:Nat→List Bool→List Nat→List Bool
 |0,st,w=>st
 |f+1,st,w=>match w.getLast? with
  |none=>st
  |some k=>bif st.getD k false then wrk f st w.dropLast else wrk f (st.set k true) (w.dropLast++es k)
def wgt (n:Nat) (es:Nat→List Nat) (st:List Bool):Nat:=((List.range n).map fun i=>bif st.getD i false then 0 else (es i).length+1).sum
theorem b9T:∀ (l:List Nat) (f g:Nat→Nat) (k d:Nat),l.Nodup→k∈l→(∀ i∈l,i≠k→f i=g i)→f k+d=g k→(l.map f).sum+d=(l.map g).sum
 |[],f,g,k,d,hn,hk,h,hd=>by cases hk
 |a::l,f,g,k,d,hn,hk,h,hd=>by
  rw[List.nodup_cons] at hn
  simp only[List.map_cons,List.sum_cons]
  by_cases e:a=k
  ·subst e
   have:l.map f=l.map g:=List.map_congr_left fun i hi=>h i (List.mem_cons_of_mem _ hi) fun e=>hn.1 (e▸hi)
   rw[this];omega
  ·have:=b9T l f g k d hn.2 ((List.mem_cons.1 hk).resolve_left fun e2=>e e2.symm) (fun i hi=>h i (List.mem_cons_of_mem _ hi)) hd
   have:=h a List.mem_cons_self e
   omega
theorem wgt_set (n:Nat) (st:List Bool) (k:Nat) (hl:st.length=n) (hk:k<n) (h0:st.getD k false=false):wgt n es (st.set k true)+((es k).length+1)=wgt n es st:=by
  unfold wgt
  have hg:=fun j=>a7h st k j true (by omega)
  refine b9T (List.range n) _ _ k _ List.nodup_range (List.mem_range.2 hk) (fun i _ hne=>?_) ?_
  · simp only[hg,if_neg hne]
  · simp only[hg,if_pos,h0,cond_true,cond_false];omega
theorem b9U (n:Nat) (hk:∀ i,i<n→∀ k∈es i,k<n) (r:Nat):∀ (f:Nat) (st:List Bool) (w:List Nat),st.length=n→(∀ k∈w,k<n)→wgt n es st+w.length<f→
  (st.getD r false=true∨r∈w)→(∀ j,st.getD j false=true→∀ k∈es j,st.getD k false=true∨k∈w)→(∀ j,st.getD j false=true→Rch es r j)→(∀ k∈w,Rch es r k)→
  (wrk es f st w).length=n∧∀ j,(wrk es f st w).getD j false=true↔Rch es r j
 |0,st,w,hl,hw,hf,h1,h2,h3,h4=>by omega
 |f+1,st,w,hl,hw,hf,h1,h2,h3,h4=>by
  rw[wrk]
  cases hg:w.getLast? with
  |none=>
   have hw0:w=[]:=List.getLast?_eq_none_iff.1 hg
   subst hw0
   exact⟨hl,c6A es (h1.resolve_right (by simp)) (fun j hj k hk=>(h2 j hj k hk).resolve_right (by simp)) h3⟩
  |some k=>
   have he:w=w.dropLast++[k]:=(List.getLast?_eq_some_iff.1 hg).elim fun ys e=>by rw[e,List.dropLast_concat]
   have hkm:k∈w:=by rw[he];simp
   have hlen:w.length=w.dropLast.length+1:=by rw[List.length_dropLast];have:=List.length_pos_of_mem hkm;omega
   have hsub:∀ x∈w.dropLast,x∈w:=fun x hx=>by rw[he];exact List.mem_append_left _ hx
   have hin:∀ x,x∈w→x∈w.dropLast∨x=k:=fun x hx=>by
    rw[he] at hx
    rcases List.mem_append.1 hx with hx|hx
    ·exact .inl hx
    ·exact .inr (List.mem_singleton.1 hx)
   simp only[]
   cases hs:st.getD k false with
   |true=>
    rw[cond_true]
    refine b9U n hk r f st w.dropLast hl (fun x hx=>hw x (hsub x hx)) (by omega) ?_ (fun j hj x hx=>?_) h3 fun x hx=>h4 x (hsub x hx)
    ·rcases h1 with h1|h1
     ·exact .inl h1
     ·rcases hin r h1 with h|h
      ·exact .inr h
      ·rw[h];exact .inl hs
    ·rcases h2 j hj x hx with h|h
     ·exact .inl h
     ·rcases hin x h with h|h
      ·exact .inr h
      ·rw[h];exact .inl hs
   |false=>
    rw[cond_false]
    have hkn:=hw k hkm
    have hg:=fun j=>a7h st k j true (by omega)
    have hwg:=wgt_set es n st k hl hkn hs
    refine b9U n hk r f (st.set k true) (w.dropLast++es k) (by rw[List.length_set];exact hl) (fun x hx=>?_) (by rw[lA];omega) ?_ (fun j hj x hx=>?_) (fun j hj=>?_) fun x hx=>?_
    ·rcases List.mem_append.1 hx with hx|hx
     ·exact hw x (hsub x hx)
     ·exact hk k hkn x hx
    ·rw[hg]
     by_cases e:r=k
     ·exact .inl (if_pos e)
     ·rw[if_neg e]
      rcases h1 with h1|h1
      ·exact .inl h1
      ·exact .inr (List.mem_append_left _ ((hin r h1).resolve_right e))
    ·rw[hg] at hj ⊢
     by_cases e:j=k
     ·subst e;exact .inr (List.mem_append_right _ hx)
     ·rw[if_neg e] at hj
      by_cases ex:x=k
      ·exact .inl (if_pos ex)
      ·rw[if_neg ex]
       rcases h2 j hj x hx with h|h
       ·exact .inl h
       ·exact .inr (List.mem_append_left _ ((hin x h).resolve_right ex))
    ·rw[hg] at hj
     by_cases e:j=k
     ·subst e;exact h4 j hkm
     ·rw[if_neg e] at hj;exact h3 j hj
    ·rcases List.mem_append.1 hx with hx|hx
     ·exact h4 x (hsub x hx)
     ·exact .step (h4 k hkm) hx
theorem c5q (n:Nat) (hk:∀ i,i<n→∀ k∈es i,k<n) (r:Nat) (hr:r<n) (f:Nat) (hf:wgt n es (List.replicate n false)+1<f):
  (wrk es f (List.replicate n false) [r]).length=n∧∀ j,(wrk es f (List.replicate n false) [r]).getD j false=true↔Rch es r j:=
 b9U es n hk r f _ [r] (by simp) (fun x hx=>by rw[List.mem_singleton.1 hx];exact hr) (by simpa using hf) (.inr List.mem_cons_self) (fun j hj=>by rw[a7J] at hj;cases hj) (fun j hj=>by rw[a7J] at hj;cases hj) fun x hx=>by rw[List.mem_singleton.1 hx];exact .refl r
theorem same_marks (n:Nat) (hk:∀ i,i<n→∀ k∈es i,k<n) (r:Nat) (hr:r<n) (f:Nat) (hf:wgt n es (List.replicate n false)+1<f):dfR es (n+1) (List.replicate n false) r=wrk es f (List.replicate n false) [r]:=by
  obtain⟨h1,h2⟩:=c5q es n hk r hr f hf
  have h3:=dfR_len es n hk r hr
  apply List.ext_getElem (by rw[h1,h3])
  intro i hi hi2
  have e:=(dfR_iff es n hk r hr i).trans (h2 i).symm
  rw[List.getD_eq_getElem?_getD,List.getD_eq_getElem?_getD,List.getElem?_eq_getElem hi,List.getElem?_eq_getElem hi2,Option.getD_some,Option.getD_some] at e
  exact Bool.eq_iff_iff.2 e
end Go.Gr
namespace Go.Sx
variable {P:Program} {n:Nat} {Q:Exit→AS→Prop}
theorem Sat.shrink {κ:Kap} {M:Mem} {ν:Nu} {B:Bx} {w:World} {k:Nat} {r r':Res} (h:Sat κ M ν B w) (hk:(k,r)∈B) (hr:r'.ok M ν w k):Sat κ M ν (Bx.put k r' B) w where
 os:=h.os
 tape:=h.tape
 output:=h.output
 dr:=Nat.zero_le _
 size:=h.size
 unch:=h.unch
 fro:=h.fro
 res:=fun j q hm=>by
  rcases Bx.mem_put h.nodup hm with e|⟨hm,hj⟩
  ·cases e;exact hr
  ·exact h.res j q hm
 away:=fun j q d hm hd=>by
  rcases Bx.mem_put h.nodup hm with e|⟨hm,hj⟩
  ·cases e;exact h.away k r d hk hd
  ·exact h.away j q d hm hd
 inj:=fun j q j' q' d hm hm' hd hd'=>by
  have f:∀ i p,(i,p)∈Bx.put k r' B→∃ p',(i,p')∈B:=by
   intro i p hp
   rcases Bx.mem_put h.nodup hp with e|⟨hp,_⟩
   ·cases e;exact⟨r,hk⟩
   ·exact⟨p,hp⟩
  obtain⟨p,hp⟩:=f j q hm
  obtain⟨p',hp'⟩:=f j' q' hm'
  exact h.inj j p j' p' d hp hp' hd hd'
 nodup:=by rw[Bx.put_keys];exact h.nodup
theorem b48 {t:TypeId} {x y:Operand} {tx ti:TypeId} {env:Env} {B:Bx} {o:Oper} {K:T→Bx→Prop} (ho:o.op= .slice t x none (some y) none)
  (h:b9k P t (ev P env tx x) (ev P env ti y) B K):∃ u B',OpE P o env B u B'∧K u B':=by
 have hx:x∈o.op.operands:=by rw[ho];simp[Op.operands]
 have hy:y∈o.op.operands:=by rw[ho];simp[Op.operands]
 have hex:∀ (a:Act),execOp a.eval o=(do pure (.value (← Instr.sliceAt t (a.eval x) none (some (a.eval y)) none))):=by
  intro a;unfold execOp;rw[ho];rfl
 unfold b9k at h
 split at h
 ·rename_i k m kd j ex ey
  split at h
  ·rename_i e agg sz rows hel hb
   obtain⟨rfl,h0,hj,hm,hK⟩:=h
   obtain⟨ee,hu,hsz,_⟩:=a31 hel
   refine⟨_,_,?_,hK⟩
   intro κ M ν a w he hs
   have hxv:=a0w he hx ex
   simp only[T.rep,Cell.rep] at hxv
   have hyv:=a0J.1 (a0w he hy ey)
   have hmem:=a0I hb
   have hres:=hs.res k _ hmem
   have hcap:m≤(ν k).cap:=by
    simp only[Res.ok] at hres
    omega
   have hbd:=a7Z (P:=P) (isSlice:=true) (len:=m) (cap:=(ν k).cap) (lo:=none) (hi:=some (.int kd j)) w (.inl ⟨rfl,rfl⟩) (.inr ⟨kd,rfl⟩) (Int.le_refl _) h0 (by omega)
   have hrun:(execOp a.eval o).run P w= .ok (.value (.slice ((ν k).blk.map fun b=>⟨b,0,none⟩) j.toNat (ν k).cap)) w:=by
    refine a1h (hex a) ?_
    rw[hxv,hyv]
    simp only[Instr.sliceAt,Sem.run_bind,run_underlying hu,Result.andThen_ok,Instr.slice,hbd,a1I hsz,Sem.run_pure,Int.toNat_zero,Nat.zero_mul,Nat.sub_zero]
    congr 2
    cases (ν k).blk with
    |none=>simp
    |some b=>simp[a24]
   unfold Oper.wp
   rw[hrun]
   simp only[Oper.upon]
   refine⟨_,M,rfl,Mem.ext.refl κ M,?_,hs.shrink hmem ?_⟩
   ·simp only[T.rep,Cell.rep]
   ·simp only[Res.ok] at hres ⊢
    obtain⟨h1,h2,h3⟩:=hres
    refine⟨by simp;omega,h2,?_⟩
    rcases h3 with h3|⟨b,c,et,mid,post,e1,e2,e3,e4,e5⟩
    ·exact .inl h3
    ·rw[← List.take_append_drop j.toNat rows] at e4
     obtain⟨v1,v2,e6,e7,e8⟩:=a18 e4
     exact .inr ⟨b,c,et,v1,v2++post,e1,e2,by rw[e3,e6,List.append_assoc],e7,e5⟩
  ·exact h.elim
 ·exact h.elim
theorem AWP.ownS {id:Nat} {l:List Oper} {env:Env} {B:Bx} (i:Nat) {o:Oper} {t:TypeId} {x y:Operand} (hi:l[i]?= some o) (ho:o.op= .slice t x none (some y) none) (hg:o.guard=none) (hd:a1c n l=true)
  (h:∀ K:Env→Bx→Prop,(∀ e b,Q .normal ⟨e,b⟩→K e b)→a3O P l (l.take i) env B fun env1 B1=>b9k P t (ev P env1 0 x) (ev P env1 0 y) B1 fun u B2=>a3O P l (l.drop (i+1)) (a14 env1 o.dst u) B2 K):AWP P n (.region id l.toArray false) ⟨env,B⟩ Q:=by
 refine AWP.region_seq fun K hK=>?_
 have hsub:∀ l':List Oper,(∀ x∈l',x∈l)→a1c n l'=true:=fun l' hs=>List.all_eq_true.2 fun x hx=>List.all_eq_true.1 hd x (hs x hx)
 have hil:i<l.length:=(List.getElem?_eq_some_iff.1 hi).1
 have hoi:l[i]=o:=(List.getElem?_eq_some_iff.1 hi).2
 have e:l=l.take i++(o::l.drop (i+1)):=by
  conv=>lhs;rw[← List.take_append_drop i l]
  rw[List.drop_eq_getElem_cons hil,hoi]
 have hv:=h (fun e b=>K ⟨e,b⟩) (fun e b q=>hK _ q)
 have hs:a1r P n l (l.take i) ⟨env,B⟩ (fun τ=>a1r P n l (o::l.drop (i+1)) τ K):=by
  refine a3Q l ?_ _ _ (a1f l (fun τ=>b9k P t (ev P τ.env 0 x) (ev P τ.env 0 y) τ.B fun u B2=>a3O P l (l.drop (i+1)) (a14 τ.env o.dst u) B2 fun e b=>K ⟨e,b⟩) (l.take i) env B (hsub _ fun x hx=>List.mem_of_mem_take hx) hv)
  rintro⟨env1,B1⟩ hb
  obtain⟨u,B2,hop,hk⟩:=b48 (B:=B1) ho hb
  unfold a1r a0Y
  rw[hg]
  have ho1:a4h n o=true:=by
   have:=List.all_eq_true.1 hd o (List.mem_of_getElem? hi)
   simp only[Bool.and_eq_true] at this
   exact this.1
  exact .eff u B2 hop ho1 (by rw[a2O];exact a1f l K (l.drop (i+1)) _ B2 (hsub _ fun x hx=>List.mem_of_mem_drop hx) hk)
 have:=a3P l K (o::l.drop (i+1)) (l.take i) ⟨env,B⟩ hs
 rw[← e] at this
 exact this
end Go.Sx
namespace Go.Proofs.YthbcdhfiibpeaaaGreat
open Go Go.Sx
theorem c2k (x:NodeD) (hk:x.kids.length≤1000000) (hf:x.fields.length≤1000000):PC Tryz.prog 113 [Nt x] (IsP (edgeL x)):=by
 refine PCB.ob Tryz.func113 Tryz.ntmps113 Tryz.results113 ?_
 refine AWP.ghQ ?_
 repeat'(first|(simp only[go_sem,zA,zB,zC,zD,zE,zF,zG,reduceCtorEq,zH,zI,zJ,zK,zL,a0b,lB];all_goals refine nf ?_)|(refine stp ?_;intro K hK)|(apply hK;clear hK K)|refine stn ?_|(with_reducible (refine⟨(by first|omega|(simp only[lA,lB,List.length_take,List.length_drop,lC,lD,List.length_replicate];omega):_≤_),?_⟩))|fail)
 refine AWP.lenB 1 5 rfl rfl fun hlen0=>?_
 (try rw[lB] at hlen0)
 refine AWP.range (S:=List Int) (x.fields) a0i (fun k s=>(4,I .i64 (k:Nat))::[(3, .one (.own 7 s.length))]) (fun k s=>[(7, .row 1 (s.map a0e))]) [1] [1] (fun k s=>Is s (x.kids++(x.fields.take k).map (·.node))) (x.kids) (by refine sts ?_;exact Gh.tt []) ?_ ?_ ?_
 ·simp[Is]
 ·intro k s y hlt hy hy' hbb hok
  refine sts ?_
  have hsl:s.length≤2000000:=by rw[show s=_ from hok,lA,lB,List.length_take];omega
  repeat'(first|(simp only[go_sem,zA,zB,zC,zD,zE,zF,zG,reduceCtorEq,zH,zI,zJ,zK,zL,lB,lA,hbb,encField_lit,b8d];all_goals refine nf ?_)|(refine stp ?_;intro K hK)|(apply hK;clear hK K)|refine stn ?_|(with_reducible first|refine⟨by omega,a0i y,hy',?_⟩|refine⟨(by omega:_≤_),?_⟩)|refine stq ?_|(clear hK K))
  all_goals(rw[a0d hlt hlen0])
  all_goals(refine⟨s++[y.node],?_,Gh.tt [(7,23)]⟩)
  rw[Is,show s=_ from hok,List.take_succ_eq_append_getElem hlt]
  have:=(List.getElem?_eq_some_iff.1 hy).2
  simp[this]
 ·intro s hbb hok
  refine sts ?_
  rw[List.take_length] at hok
  have hsl:s.length≤2000000:=by rw[show s=_ from hok,lA,lB];omega
  cases hz:decide (x.kind=13)
  ·
   repeat'(first|(simp only[go_sem,zA,zB,zC,zD,zE,zF,zG,reduceCtorEq,zH,zI,zJ,zK,zL,lB,hbb,hz,a0b];all_goals refine nf ?_)|(refine stp ?_;intro K hK)|(apply hK;clear hK K)|refine stn ?_|(clear hK K))
   refine⟨_,Gh.fz 7,?_⟩
   simp only[go_sem,zA,zB,zC,zD,zE,zF,zG,reduceCtorEq,zH,zI,zJ,zK,zL,lB]
   all_goals(first|exact fun _ h=>absurd h List.not_mem_nil|refine a0m ?_)
   all_goals(rw[edgeL,hz,show s=_ from hok];simp)
  ·
   repeat'(first|(simp only[go_sem,zA,zB,zC,zD,zE,zF,zG,reduceCtorEq,zH,zI,zJ,zK,zL,lB,lA,hbb,hz,a0b,c2y];all_goals refine nf ?_)|(refine stp ?_;intro K hK)|(apply hK;clear hK K)|refine stn ?_|(with_reducible refine⟨(by omega:_≤_),?_⟩)|refine stq ?_|(clear hK K))
   refine⟨_,Gh.freeze 35 rfl rfl (by simp only[go_sem,zA,zB,zC,zD,zE,zF,zG,reduceCtorEq,zH,zI,zJ,zK,zL,lB,lA,lC,lD,Nat.zero_add,Nat.reduceAdd]) (by simp only[go_sem,zA,zB,zC,zD,zE,zF,zG,reduceCtorEq,zH,zI,zJ,zK,zL,lB,lA,lC,lD,Nat.zero_add,Nat.reduceAdd]),?_⟩
   simp only[go_sem,zA,zB,zC,zD,zE,zF,zG,reduceCtorEq,zH,zI,zJ,zK,zL,lB,lA,lC,lD,Nat.zero_add,Nat.reduceAdd]
   all_goals(first|exact fun _ h=>absurd h List.not_mem_nil|refine a0m ?_)
   all_goals(rw[edgeL,hz,show s=_ from hok];rfl)
theorem c2l (x:NodeD) (hk:x.kids.length≤1000000) (hf:x.fields.length≤1000000):PC Tryz.prog 113 [.st [.int .i64 x.kind, .int .i64 x.lo, .int .i64 x.hi, .str x.text, .sl 1 (x.kids.map a0e), .sl 4 (x.fields.map a0i), .int .i64 x.r0, .int .i64 x.r1]] (IsP (edgeL x)):=c2k x hk hf
theorem b30 {x:NodeD} (hk:x.kids.length≤1000000) (hf:x.fields.length≤1000000):(edgeL x).length≤2000002:=by
  unfold edgeL
  rw[lA,lA,lB]
  cases decide (x.kind=13)<;>simp<;>omega
theorem c7m {l:List NodeD} (hl:TSm l) (st:List Bool):Gr.wgt l.length (es l) st≤l.length*2000003:=by
 unfold Gr.wgt
 have key:∀ (is:List Nat),(∀ i∈is,i<l.length)→((is.map fun i=>bif st.getD i false then 0 else (es l i).length+1).sum)≤is.length*2000003:=by
  intro is
  induction is with
  |nil=>intro _;simp
  |cons i is ih=>
   intro h
   have h1:=ih fun j hj=>h j (List.mem_cons_of_mem _ hj)
   have hi:=h i List.mem_cons_self
   have h2:(es l i).length≤2000002:=by
    unfold es
    rw[List.getElem?_eq_getElem hi]
    simp only[lB]
    exact b30 (hl.kids _ (List.getElem_mem hi)) (hl.fields _ (List.getElem_mem hi))
   rw[List.map_cons,List.sum_cons,lC,Nat.add_mul]
   have h3:(bif st.getD i false then 0 else (es l i).length+1)≤2000003:=by cases st.getD i false<;>simp<;>omega
   omega
 have:=key (List.range l.length) fun i hi=>List.mem_range.1 hi
 rwa[List.length_range] at this
def c3j (l:List NodeD):Nat:=Gr.wgt l.length (es l) (List.replicate l.length false)+2
theorem b7q (l:List NodeD) (r:Int) (hr:InE l) (hl:TSm l) (h0:0≤r) (hi:r<(l.length:Int)):PC Tryz.prog 72 [Tt l r] (BsP (a1S l r)):=by
 have hll:=hl.len
 have hF:c3j l≤2000003000002:=by have:=c7m hl (List.replicate l.length false);unfold c3j;omega
 have hsame:a1S l r=Gr.wrk (es l) (c3j l) (List.replicate l.length false) [r.toNat]:=Gr.same_marks (es l) l.length (c06 hr) r.toNat (by omega) (c3j l) (by unfold c3j;omega)
 have hrl:=a4y hr h0 hi
 refine PCB.ob Tryz.func72 Tryz.ntmps72 Tryz.results72 ?_
 refine AWP.ghQ ?_
 repeat'(first|( refine AWP.mkB (id:=1) 3 rfl rfl rfl (by kernel_rfl) (by kernel_rfl) fun K hK=>?_;simp only[List.take_succ_cons,List.take_zero,List.drop_succ_cons,List.drop_zero])|(simp only[go_sem,zA,zB,zC,zD,zE,zF,zG,reduceCtorEq,zH,zI,zJ,zK,zL,lB,a7i,Int.toNat_natCast];all_goals refine nf ?_)|(refine stp ?_;intro K hK)|(apply hK;clear hK K)|refine stn ?_|(with_reducible first|refine⟨by omega,by omega,?_⟩|(refine Or.inr (show a1u _ 12 _ _ _ _ _ _ from ?_);unfold a1u;with_reducible refine Or.inr ?_;simp only[a2D,go_sem,zA,zB,zC,zD,zE,zF,zG,reduceCtorEq,zH,zI,zJ,zK,zL,lB,a7i,Int.toNat_natCast]))|fail)
 refine AWP.loopF (X:=Nat×List Bool×List Int) (fun x=>[(3, .one (.own 9 l.length)),(4, .one (.own 12 x.2.2.length))]) (fun x=>[(9, .row 1 (x.2.1.map a4w)),(12, .row 1 (x.2.2.map a0e))]) [1] [1] (fun x=>Is (a1S l r) (Gr.wrk (es l) x.1 x.2.1 (x.2.2.map Int.toNat))∧x.2.1.length=l.length∧(∀ k∈x.2.2,0≤k∧k<(l.length:Int))∧Gr.wgt l.length (es l) x.2.1+x.2.2.length<x.1∧x.1≤c3j l) (fun x=>x.1) ((c3j l,List.replicate l.length false,[r])) (by refine sts ?_;exact Gh.tt []) ?_ ?_
 ·refine⟨hsame,by simp,fun k hk=>?_,by simp[c3j],Nat.le_refl _⟩
  simp only[List.mem_singleton] at hk
  subst hk;exact⟨h0,hi⟩
 ·rintro⟨f,st,w⟩ ⟨hok,hsl,hw,hwf,hfF⟩
  refine sts ?_
  simp only at hok hsl hw hwf hfF
  obtain⟨f,rfl⟩:∃ f',f=f'+1:=⟨f-1,by omega⟩
  rcases List.eq_nil_or_concat w with rfl|⟨w',k,rfl⟩
  ·have hst:a1S l r=st:=hok
   repeat'(first|(simp only[go_sem,zA,zB,zC,zD,zE,zF,zG,reduceCtorEq,zH,zI,zJ,zK,zL,lB,lD,hsl];all_goals refine nf ?_)|(refine stp ?_;intro K hK)|(apply hK;clear hK K)|refine stn ?_|(clear hK K))
   refine⟨_,Gh.freeze 9 rfl rfl (by simp only[go_sem,zA,zB,zC,zD,zE,zF,zG,reduceCtorEq,zH,zI,zJ,zK,zL,lB,hsl]) (by simp only[go_sem,zA,zB,zC,zD,zE,zF,zG,reduceCtorEq,zH,zI,zJ,zK,zL,lB,hsl]),?_⟩
   simp only[go_sem,zA,zB,zC,zD,zE,zF,zG,reduceCtorEq,zH,zI,zJ,zK,zL,lB,hsl]
   all_goals(first|exact fun _ h=>absurd h List.not_mem_nil|refine a0m ?_)
   all_goals rw[hst]
  ·have hk:=hw k (by simp)
   have hlt:k.toNat<l.length:=by omega
   have hx:l[k.toNat]?= some l[k.toNat]:=List.getElem?_eq_getElem hlt
   obtain⟨x,hxe⟩:∃ x,x=l[k.toNat]:=⟨_,rfl⟩
   rw[← hxe] at hx
   have hxm:x∈l:=List.mem_of_getElem? hx
   have hxe2:=a0n a0c hx
   have hes:es l k.toNat=(edgeL x).map Int.toNat:=by unfold es;rw[hx]
   have hel:=b30 (hl.kids x hxm) (hl.fields x hxm)
   obtain⟨m,hm⟩:∃ m,m=w'.length:=⟨_,rfl⟩
   have hlen:(w'++[k]).length=m+1:=by simp[hm]
   have hlen2:(w'.concat k).length=m+1:=by simp[hm]
   simp only[List.concat_eq_append] at hok hw hwf ⊢
   rw[hlen] at hwf
   have hpos:decide ((0:Int)<((m+1:Nat):Int))=true:=by rw[decide_eq_true_eq];omega
   have hsub:IntKind.i64.wrap (((m+1:Nat):Int)-1)=(m:Int):=by rw[w64 (by omega)];omega
   have hget:((w'++[k]).map a0e)[m]?= some (a0e k):=a0n a0e (by rw[hm];simp)
   have htake:((w'++[k]).map a0e).take m=w'.map a0e:=by rw[List.map_append,hm,List.take_left' (by simp)]
   have hs:=a7j (l:=st) (i:=k.toNat) (by omega)
   obtain⟨v,hv⟩:∃ v,v=st.getD k.toNat false:=⟨_,rfl⟩
   rw[← hv] at hs
   have hse:=a0n a4w hs
   have hstep:Gr.wrk (es l) (f+1) st ((w'++[k]).map Int.toNat)=bif v then Gr.wrk (es l) f st (w'.map Int.toNat) else Gr.wrk (es l) f (st.set k.toNat true) (w'.map Int.toNat++(edgeL x).map Int.toNat):=by
    rw[Gr.wrk,List.map_append,List.map_cons,List.map_nil,List.getLast?_append,List.getLast?_singleton]
    simp only[Option.or_some,Option.some_or,List.dropLast_concat]
    rw[← hv,hes]
   have hok2:a1S l r=_:=hok.trans hstep
   obtain⟨m1,hm1⟩:∃ m1,m1=m+1:=⟨_,rfl⟩
   rw[← hm1] at hlen hlen2 hpos hsub
   cases v with
   |true=>
    repeat'(first|( refine AWP.ownS (id:=5) 4 rfl rfl rfl (by kernel_rfl) fun K hK=>?_;simp only[List.take_succ_cons,List.take_zero,List.drop_succ_cons,List.drop_zero])|(simp only[go_sem,zA,zB,zC,zD,zE,zF,zG,reduceCtorEq,zH,zI,zJ,zK,zL,lB,hsl,hlen,hlen2,hpos,hsub,htake,Int.toNat_natCast,a0e,a4w];all_goals refine nf ?_)|(refine stp ?_;intro K hK)|(apply hK;clear hK K)|refine stn ?_|(with_reducible first|refine⟨(by omega:_≤_),(by omega:_≤_),(by omega:_<_),?_⟩|refine⟨(by omega:_≤_),?_⟩|refine⟨_,hget,?_⟩|refine⟨_,hse,?_⟩)|(clear hK K))
    all_goals(subst hm)
    all_goals(refine⟨(f,st,w'),by show f<f+1;omega,⟨hok2,hsl,fun k h=>hw k (by simp[h]),by show Gr.wgt l.length (es l) st+w'.length<f;clear hsub;omega,by show f≤_;clear hsub;omega⟩,Gh.tt []⟩)
   |false=>
    have hz:Gr.wgt l.length (es l) (st.set k.toNat true)+((es l k.toNat).length+1)=Gr.wgt l.length (es l) st:=Gr.wgt_set (es l) l.length st k.toNat hsl hlt hv.symm
    rw[hes,lB] at hz
    rw[cond_false,← List.map_append] at hok2
    have happ:w'.map a0e++(edgeL x).map a0e=(w'++edgeL x).map a0e:=by rw[List.map_append]
    repeat'(first|( refine AWP.ownS (id:=5) 4 rfl rfl rfl (by kernel_rfl) fun K hK=>?_;simp only[List.take_succ_cons,List.take_zero,List.drop_succ_cons,List.drop_zero])|(simp only[go_sem,zA,zB,zC,zD,zE,zF,zG,reduceCtorEq,zH,zI,zJ,zK,zL,lB,hsl,hlen,hlen2,hpos,hsub,htake,Int.toNat_natCast,a0e,a4w,a0b,a4x,happ];all_goals refine nf ?_)|(refine stp ?_;intro K hK)|(apply hK;clear hK K)|refine stn ?_|(with_reducible first|refine⟨(by omega:_≤_),(by omega:_≤_),(by omega:_<_),?_⟩|refine⟨(by omega:_=_),(by omega:_≤_),?_⟩|refine⟨(by omega:_≤_),?_⟩|refine⟨_,hget,?_⟩|refine⟨_,hse,?_⟩|refine⟨_,hxe2,?_⟩|refine⟨_,c2l x (hl.kids x hxm) (hl.fields x hxm),?_⟩)|refine stq ?_|(clear hK K))
    all_goals(subst hm)
    all_goals(refine⟨(f,st.set k.toNat true,w'++edgeL x),by show f<f+1;omega,⟨hok2,by rw[List.length_set];exact hsl,fun k h=>?_,by show Gr.wgt l.length (es l) (st.set k.toNat true)+(w'++edgeL x).length<f;rw[lA];clear hsub;omega,by show f≤_;clear hsub;omega⟩,Gh.tt [(12,42)]⟩)
    all_goals(rcases List.mem_append.1 h with h|h)
    ·exact hw k (by simp[h])
    ·exact hr x hxm k h
theorem b9V (l:List NodeD) (r:Int) (hl:TSm l):PCX Tryz.prog 47 [.one (.dat (.nil 8)), .st [.sl 8 (l.map a0c), .int .i64 r]] []
  (.tup [.one (.own 900 (emL 0 l r).length), .one (.dat (.int .i64 (emR 0 l r)))]) [(900, .row 8 ((emL 0 l r).map a0c))]:=by
 have h:=b2o [] l r hl (by simp)
 refine h.nils (fun p hp=>?_) rfl fun M vs ν hr=>?_
 ·simp only[List.mem_cons,List.not_mem_nil,or_false] at hp
  subst hp
  exact⟨_,rfl⟩
 ·simp only[T.reps,T.rep,Cell.rep,C.rep] at hr ⊢
  obtain⟨v1,t1,e1,r1,v2,t2,e2,r2,e3⟩:=hr
  exact⟨v1,t1,e1,by rw[r1];rfl,v2,t2,e2,r2,e3⟩
theorem b2I {l:List NodeD} {r:Int} (h:wfP l r=0):varsT l r=c5z l r:=by
  unfold varsT a0x a1M;rw[decide_eq_true h];rfl
theorem c2m {l:List NodeD} {r:Int} (h:decide (wfP l r=0)=false):varsT l r=[]:=by
  unfold varsT a0x a1M;rw[h];show c5z [b0G 1] 0=[];decide
theorem b0N (l:List NodeD) (r:Int) (hl:TSm l):PC Tryz.prog 29 [Tt l r] (.one (.dat (.sl 1 ((varsT l r).map Sx.encStr)))):=by
 have hw:=a40 l r hl
 cases h:decide (wfP l r=0) with
 |false=>
  rw[c2m h]
  refine PCB.ob Tryz.func29 Tryz.ntmps29 Tryz.results29 ?_
  repeat'(first|(simp only[go_sem,zA,zB,zC,zD,zE,zF,zG,reduceCtorEq,zH,zI,zJ,zK,zL,h];all_goals refine nf ?_)|(refine stp ?_;intro K hK)|(apply hK;clear hK K)|refine stn ?_|(with_reducible refine⟨_,hw,?_⟩)|refine stq ?_|(clear hK K))
  all_goals(first|exact fun _ h=>absurd h List.not_mem_nil|(refine a0m ?_;rfl)|fail)
 |true=>
  have h1:=of_decide_eq_true h
  have hv:=b2I h1
  obtain⟨h0,hi,hn,_⟩:=a6A h1
  have hE:=b8n hn
  have hrc:=b7q l r hE hl h0 hi
  have hrl:=a4y hE h0 hi
  have hll:=hl.len
  have hvl:=a6d l (a1S l r)
  have hsc:=a6c (b0H l (a1S l r)) (by omega)
  rw[show a0N (b0H l (a1S l r))=varsT l r from hv.symm] at hsc
  refine PCB.ob Tryz.func29 Tryz.ntmps29 Tryz.results29 ?_
  repeat'(first|(simp only[go_sem,zA,zB,zC,zD,zE,zF,zG,reduceCtorEq,zH,zI,zJ,zK,zL,lB,h];all_goals refine nf ?_)|(refine stp ?_;intro K hK)|(apply hK;clear hK K)|refine stn ?_|(with_reducible first|refine⟨_,hw,?_⟩|refine⟨_,hrc,?_⟩)|refine stq ?_|fail)
  refine AWP.gh (Gh.nilrow 3 900 rfl rfl rfl rfl) ?_
  refine AWP.len 4 rfl fun hlen0=>?_
  (try rw[lB] at hlen0)
  refine AWP.range (S:=List (List UInt8)) (a1S l r) a4w (fun k s=>(5,I .i64 (k:Nat))::[(3, .one (.own 900 s.length))]) (fun k s=>[(900, .row 1 (s.map Sx.encStr))]) [1,4] [1] (fun k s=>Is s (b0H (l.take k) ((a1S l r).take k))) ([]) (by refine sts ?_;exact Gh.tt []) ?_ ?_ ?_
  ·rfl
  ·intro k s b hlt hb hb' hbb hok
   refine sts ?_
   have hx:l[k]?= some l[k]:=List.getElem?_eq_getElem (by omega)
   obtain⟨x,hxe⟩:∃ x,x=l[k]'(by omega):=⟨_,rfl⟩
   rw[← hxe] at hx
   have hx':=a0n a0c hx
   have htk:=a9V hx hb
   have hsl:s.length≤1000000:=by
    have:=a6d (l.take k) ((a1S l r).take k)
    rw[← show s=_ from hok] at this
    simp only[List.length_take] at this;omega
   rw[← show s=_ from hok] at htk
   cases b
   ·
    repeat'(first|(simp only[go_sem,zA,zB,zC,zD,zE,zF,zG,reduceCtorEq,zH,zI,zJ,zK,zL,lB,hbb,a4w,a0b];all_goals refine nf ?_)|(refine stp ?_;intro K hK)|(apply hK;clear hK K)|refine stn ?_|(with_reducible refine⟨by omega,a4w false,hb',?_⟩)|(clear hK K))
    all_goals(rw[a0d hlt hlen0])
    all_goals(refine⟨s,?_,Gh.tt []⟩)
    all_goals(rw[Is,htk,Bool.false_and,cond_false,List.append_nil])
   ·cases h19:decide (x.kind=19)<;>rw[h19] at htk
    ·
     repeat'(first|(simp only[go_sem,zA,zB,zC,zD,zE,zF,zG,reduceCtorEq,zH,zI,zJ,zK,zL,lB,hbb,h19,a4w,a0b];all_goals refine nf ?_)|(refine stp ?_;intro K hK)|(apply hK;clear hK K)|refine stn ?_|(with_reducible first|refine⟨by omega,a4w true,hb',?_⟩|refine⟨by omega,a0c x,hx',?_⟩)|(clear hK K))
     all_goals(rw[a0d hlt hlen0])
     all_goals(refine⟨s,?_,Gh.tt []⟩)
     all_goals(rw[Is,htk,Bool.and_false,cond_false,List.append_nil])
    ·
     repeat'(first|(simp only[go_sem,zA,zB,zC,zD,zE,zF,zG,reduceCtorEq,zH,zI,zJ,zK,zL,lB,hbb,h19,a4w,a0b,c6N];all_goals refine nf ?_)|(refine stp ?_;intro K hK)|(apply hK;clear hK K)|refine stn ?_|(with_reducible first|refine⟨by omega,a4w true,hb',?_⟩|refine⟨by omega,a0c x,hx',?_⟩|(refine⟨(by first|omega|(simp only[lA,lB,List.length_take,List.length_drop,lC,lD,List.length_replicate];omega):_≤_),?_⟩))|refine stq ?_|(clear hK K))
     all_goals(rw[a0d hlt hlen0])
     all_goals(refine⟨s++[x.text],?_,Gh.tt [(900,38)]⟩)
     all_goals(rw[Is,htk];rfl)
  ·intro s hbb hok
   refine sts ?_
   have hse:s=b0H l (a1S l r):=by
    rw[show s=_ from hok,List.take_length,List.take_of_length_le (by omega)]
   subst hse
   repeat'(first|(simp only[go_sem,zA,zB,zC,zD,zE,zF,zG,reduceCtorEq,zH,zI,zJ,zK,zL,lB,hbb];all_goals refine nf ?_)|(refine stp ?_;intro K hK)|(apply hK;clear hK K)|refine stn ?_|(with_reducible refine⟨_,hsc,?_⟩)|refine stq ?_|(clear hK K))
   all_goals exact lf
def b9W {α:Type} (p:α→Bool):List α→Int→Int
  |[],_=> -1
  |x::l,i=>bif p x then i else b9W p l (i+1)
end Go.Proofs.YthbcdhfiibpeaaaGreat
namespace Go.Proofs.YthbcdhfiibpeaaaGreat
open Go Go.Sx
theorem bound (a b:Int) (h0:b≠0):a.tmod b<(if b<0 then -b else b)∧ -(if b<0 then -b else b)<a.tmod b:=by
 have h:=Int.natAbs_tmod a b
 have:(a.tmod b).natAbs<b.natAbs:=by
  rw[h];exact Nat.mod_lt _ (by omega)
 split<;>omega
theorem Good.small {d:Dat} (h:Good d):Small d:=by
  induction h with
  |mk d hn h1 h2 hf hk ih=>exact .mk d (by omega) (by omega) ih
end Go.Proofs.YthbcdhfiibpeaaaGreat
namespace Go.Sx
open Go.RowKit Go.ChangeShapes Go.WideShapes
variable {P:Program}
structure Blk {H:Type} (β:DataW H→Nat):Prop where
  lit:∀ l,1≤β (.lit l)
  str:∀ l,l.length+1≤β (.lit (.string l))
  nil:1≤β .nil
  sl:∀ a b,(a.map β).sum+1≤β (.slice a b)
  agg:∀ a,(a.map β).sum≤β (.agg a)
section
variable {H:Type} {enc:TypeId×Value→H} {w:World} {base:Nat} {spare:Nat→Bool} {held:Bool} {β:DataW H→Nat}
end
end Go.Sx

