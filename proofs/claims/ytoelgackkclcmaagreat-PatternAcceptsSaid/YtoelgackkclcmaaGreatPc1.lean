/- Lemmas. -/
import Derived.WalkKit
import Derived.Orders
import Derived.Still
import Derived.Deep.LoopGhost
import Derived.Laws.MakeOwn
namespace Go
theorem zaa {α:Type _} {a b:α}:(bif true then a else b)=a:=rfl
theorem zab {α:Type _} {a b:α}:(bif false then a else b)=b:=rfl
theorem zac:type_of% @decide_true:=@decide_true
theorem zad:type_of% @decide_false:=@decide_false
theorem zae:type_of% @Bool.true_and:=@Bool.true_and
theorem zaf:type_of% @List.not_mem_nil:=@List.not_mem_nil
theorem zag:type_of% @Bool.and_eq_true:=@Bool.and_eq_true
theorem zah:type_of% @decide_eq_false_iff_not:=@decide_eq_false_iff_not
theorem zai:type_of% @Bool.false_and:=@Bool.false_and
theorem zaj:type_of% @Bool.or_false:=@Bool.or_false
theorem zak:type_of% @List.getElem?_eq_some_iff:=@List.getElem?_eq_some_iff
theorem zal:type_of% @List.mem_cons:=@List.mem_cons
theorem zam:type_of% @Bool.true_or:=@Bool.true_or
theorem zan:type_of% @decide_eq_true_eq:=@decide_eq_true_eq
theorem zao:type_of% @Nat.zero_le:=@Nat.zero_le
theorem zap:type_of% @Bool.or_true:=@Bool.or_true
theorem zaq:type_of% @Bool.false_or:=@Bool.false_or
theorem zar:type_of% @Bool.not_false:=@Bool.not_false
theorem zas:type_of% @List.mem_cons_of_mem:=@List.mem_cons_of_mem
theorem zat:type_of% @Bool.not_true:=@Bool.not_true
theorem zau:type_of% @List.map_cons:=@List.map_cons
theorem zav:type_of% @List.getElem?_eq_getElem:=@List.getElem?_eq_getElem
theorem zaw:type_of% @Bool.and_true:=@Bool.and_true
theorem zax:type_of% @Nat.le_refl:=@Nat.le_refl
theorem zay:type_of% @Bool.and_false:=@Bool.and_false
theorem zaz:type_of% @if_pos:=@if_pos
theorem za0:type_of% @List.all_eq_true:=@List.all_eq_true
theorem za1:type_of% @List.length_drop:=@List.length_drop
theorem za2:type_of% @if_false:=@if_false
theorem za3:type_of% @List.mem_map:=@List.mem_map
theorem za4:type_of% @List.length_replicate:=@List.length_replicate
theorem za5:type_of% @if_neg:=@if_neg
theorem za6:type_of% @List.map_nil:=@List.map_nil
theorem za7:type_of% @List.mem_singleton:=@List.mem_singleton
theorem za8:type_of% @List.drop_eq_getElem_cons:=@List.drop_eq_getElem_cons
theorem za9:type_of% @if_true:=@if_true
theorem zba:type_of% @List.length_append:=@List.length_append
theorem zbb:type_of% @List.length_take:=@List.length_take
theorem zbc:type_of% @List.mem_of_getElem?:=@List.mem_of_getElem?
theorem zbd:type_of% @List.mem_append:=@List.mem_append
theorem zbe:type_of% @Nat.le_trans:=@Nat.le_trans
theorem zbf:type_of% @List.getD_eq_getElem?_getD:=@List.getD_eq_getElem?_getD
theorem zbg:type_of% @Nat.zero_add:=@Nat.zero_add
theorem zbh:type_of% @List.take_length:=@List.take_length
theorem zbi:type_of% @Array.getElem?_eq_some_iff:=@Array.getElem?_eq_some_iff
theorem zbj:type_of% @Bool.coe_iff_coe:=@Bool.coe_iff_coe
theorem zbk:type_of% @List.length_eq_zero_iff:=@List.length_eq_zero_iff
theorem zbl:type_of% @List.mem_cons_self:=@List.mem_cons_self
theorem zbm:type_of% @Bool.not_eq_true':=@Bool.not_eq_true'
theorem zbn:type_of% @List.map_append:=@List.map_append
theorem zbo:type_of% @decide_eq_true:=@decide_eq_true
theorem zbp:type_of% @List.length_set:=@List.length_set
theorem zbq:type_of% @List.append_nil:=@List.append_nil
theorem zbr:type_of% @List.nodup_cons:=@List.nodup_cons
theorem zbs:type_of% @Bool.false_eq_true:=@Bool.false_eq_true
theorem zbt:type_of% @List.take_append_drop:=@List.take_append_drop
theorem zbu:type_of% @Nat.le_of_ble_eq_true:=@Nat.le_of_ble_eq_true
theorem zbv:type_of% @List.getElem?_map:=@List.getElem?_map
theorem zbw:type_of% @List.drop_length:=@List.drop_length
theorem zbx:type_of% @Bool.or_eq_false_iff:=@Bool.or_eq_false_iff
theorem zby:type_of% @Nat.add_mul:=@Nat.add_mul
theorem zbz:type_of% @Nat.lt_or_ge:=@Nat.lt_or_ge
theorem zb0:type_of% @List.getElem?_append_right:=@List.getElem?_append_right
theorem zb1:type_of% @List.append_assoc:=@List.append_assoc
theorem zb2:type_of% @List.drop_zero:=@List.drop_zero
theorem zb3:type_of% @Array.getElem?_toList:=@Array.getElem?_toList
theorem zb4:type_of% @List.drop_succ_cons:=@List.drop_succ_cons
theorem zb5:type_of% @List.getElem?_of_mem:=@List.getElem?_of_mem
theorem zb6:type_of% @Bool.or_eq_true:=@Bool.or_eq_true
theorem zb7:type_of% @List.mem_append_left:=@List.mem_append_left
theorem zb8:type_of% @List.take_add_one:=@List.take_add_one
theorem zb9:type_of% @Nat.eq_zero_or_eq_succ_pred:=@Nat.eq_zero_or_eq_succ_pred
theorem zca:type_of% @Option.bind_eq_some_iff:=@Option.bind_eq_some_iff
theorem zcb:type_of% @List.length_map:=@List.length_map
theorem zcc:type_of% @Bool.not_not:=@Bool.not_not
theorem zcd:type_of% @List.getElem_mem:=@List.getElem_mem
theorem zce:type_of% @Bool.and_assoc:=@Bool.and_assoc
theorem zcf:type_of% @Nat.one_mul:=@Nat.one_mul
theorem zcg:type_of% @List.getElem?_append_left:=@List.getElem?_append_left
theorem zch:type_of% @List.size_toArray:=@List.size_toArray
theorem zci:type_of% @List.drop_eq_nil_of_le:=@List.drop_eq_nil_of_le
theorem zcj:type_of% @List.pairwise_cons:=@List.pairwise_cons
theorem zck:type_of% @List.flatMap_cons:=@List.flatMap_cons
theorem zcl:type_of% @List.pairwise_append:=@List.pairwise_append
theorem zcm:type_of% @Option.map_eq_some_iff:=@Option.map_eq_some_iff
theorem zcn:type_of% @List.filter_cons:=@List.filter_cons
theorem zco:type_of% @Int.le_refl:=@Int.le_refl
theorem zcp:type_of% @List.mem_of_mem_take:=@List.mem_of_mem_take
theorem zcq:type_of% @List.map_map:=@List.map_map
theorem zcr:type_of% @List.getElem?_eq_none:=@List.getElem?_eq_none
theorem zcs:type_of% @List.all_append:=@List.all_append
theorem zct:type_of% @List.getElem?_drop:=@List.getElem?_drop
theorem zcu:type_of% @List.filter_eq_self:=@List.filter_eq_self
theorem zcv:type_of% @List.length_range:=@List.length_range
theorem zcw:type_of% @List.drop_drop:=@List.drop_drop
theorem zcx:type_of% @List.length_filter_le:=@List.length_filter_le
theorem zcy:type_of% @List.all_map:=@List.all_map
theorem zcz:type_of% @List.getElem?_zip_eq_some:=@List.getElem?_zip_eq_some
theorem zc0:type_of% @List.sizeOf_lt_of_mem:=@List.sizeOf_lt_of_mem
theorem zc1:type_of% @List.contains_iff_mem:=@List.contains_iff_mem
theorem zc2:type_of% @List.mem_append_right:=@List.mem_append_right
theorem zc3:type_of% @List.mem_filter:=@List.mem_filter
theorem zc4:type_of% @Nat.eq_zero_or_pos:=@Nat.eq_zero_or_pos
theorem zc5:type_of% @Nat.add_comm:=@Nat.add_comm
theorem zc6:type_of% @decide_eq_false:=@decide_eq_false
theorem zc7:type_of% @Nat.mul_le_mul_right:=@Nat.mul_le_mul_right
theorem zc8:type_of% @List.ext_getElem?:=@List.ext_getElem?
theorem zc9:type_of% @List.mem_range:=@List.mem_range
theorem zda:type_of% @List.length_mergeSort:=@List.length_mergeSort
theorem zdb:type_of% @List.take_succ_eq_append_getElem:=@List.take_succ_eq_append_getElem
theorem zdc:type_of% @List.mem_map_of_mem:=@List.mem_map_of_mem
theorem zdd:type_of% @List.any_eq_true:=@List.any_eq_true
theorem zde:type_of% @Bool.not_eq_false':=@Bool.not_eq_false'
theorem zdf:type_of% @Nat.lt_of_lt_of_le:=@Nat.lt_of_lt_of_le
theorem zdg:type_of% @Array.getElem?_eq_getElem:=@Array.getElem?_eq_getElem
theorem zdh:type_of% @Nat.sub_self:=@Nat.sub_self
theorem zdi:type_of% @List.getElem?_take:=@List.getElem?_take
theorem zdj:type_of% @Nat.lt_trichotomy:=@Nat.lt_trichotomy
theorem zdk:type_of% @Option.map_map:=@Option.map_map
theorem zdl:type_of% @Array.getElem?_setIfInBounds_ne:=@Array.getElem?_setIfInBounds_ne
theorem zdm:type_of% @Nat.le_of_not_lt:=@Nat.le_of_not_lt
theorem zdn:type_of% @Nat.min_eq_left:=@Nat.min_eq_left
theorem zdo:type_of% @List.mapM_cons:=@List.mapM_cons
theorem zdp:type_of% @Nat.mul_le_mul_left:=@Nat.mul_le_mul_left
theorem zdq:type_of% @Array.size_append:=@Array.size_append
theorem zdr:type_of% @Array.getElem?_modify:=@Array.getElem?_modify
theorem zds:type_of% @Bool.eq_iff_iff:=@Bool.eq_iff_iff
theorem zdt:type_of% @Nat.add_sub_cancel:=@Nat.add_sub_cancel
theorem zdu:type_of% @List.getElem?_take_of_lt:=@List.getElem?_take_of_lt
theorem zdv:type_of% @Classical.byContradiction:=@Classical.byContradiction
theorem zdw:type_of% @List.map_set:=@List.map_set
theorem zdx:type_of% @List.lt_irrefl:=@List.lt_irrefl
theorem zdy:type_of% @List.not_lt:=@List.not_lt
theorem zdz:type_of% @List.of_mem_zip:=@List.of_mem_zip
theorem zd0:type_of% @List.length_pos_iff:=@List.length_pos_iff
theorem zd1:type_of% @List.any_map:=@List.any_map
theorem zd2:type_of% @List.getElem?_set_ne:=@List.getElem?_set_ne
theorem zd3:type_of% @Array.getD_eq_getD_getElem?:=@Array.getD_eq_getD_getElem?
theorem zd4:type_of% @Nat.add_sub_cancel_left:=@Nat.add_sub_cancel_left
theorem zd5:type_of% @Option.isSome_iff_exists:=@Option.isSome_iff_exists
theorem zd6:type_of% @Nat.le_mul_of_pos_right:=@Nat.le_mul_of_pos_right
theorem zd7:type_of% @List.getElem?_toArray:=@List.getElem?_toArray
theorem zd8:type_of% @List.mem_of_mem_drop:=@List.mem_of_mem_drop
theorem zd9:type_of% @List.mapM_toArray:=@List.mapM_toArray
theorem zea:type_of% @Int.eq_ofNat_of_zero_le:=@Int.eq_ofNat_of_zero_le
theorem zeb:type_of% @List.filter_append:=@List.filter_append
theorem zec:type_of% @List.map_congr_left:=@List.map_congr_left
theorem zed:type_of% @List.length_zip:=@List.length_zip
theorem zee:type_of% @Int.mul_le_mul_of_nonneg_right:=@Int.mul_le_mul_of_nonneg_right
end Go
set_option linter.unusedSimpArgs false
set_option linter.unusedVariables false
namespace Go.Sx
abbrev Mem0:=Nat→Option Obj
def Mem0.le (M M':Mem0):Prop:=∀ b o,M b=some o→M' b=some o
theorem Mem0.le.refl (M:Mem0):M.le M:=fun _ _ h=>h
theorem Mem0.le.trans {M M' q:Mem0} (h:M.le M') (k:M'.le q):M.le q:=fun b o e=>k b o (h b o e)
inductive C where
  |int (k:IntKind) (n:Int)
  |bool (b:Bool)
  |str (l:List UInt8)
  |sl (sz:Nat) (rows:List (List C))
  |nil (sz:Nat)
  |fn (f:FuncId)
  |fnc (f:FuncId) (caps:List (List C))
  |fnil
  |err (b:Bool)
def gl:List (Nat×List C):=[]
def At (o:Option Obj) (off:Nat) (vs:List Value):Prop:=
  ∃ c et fz pre post,o=some (.cells c et fz)∧c.toList=pre++(vs++post)∧pre.length=off
mutual
def C.rep (M:Mem0):C→Value→Prop
  | .int k n,v=>v= .int k n
  | .bool b,v=>v= .bool b
  | .str l,v=>v= .string ⟨l.toArray⟩
  | .sl sz rows,v=>∃ a cap mid,v= .slice a rows.length cap∧rows.length≤cap∧cap≤maxLen∧a0q M sz rows mid∧(rows=[]∨ ∃ b off,a=some ⟨b,off,none⟩∧At (M b) off mid)
  | .nil _,v=>v= .slice none 0 0
  | .fn f,v=>v= .func (.func f) #[] #[]
  | .fnc f caps,v=>∃ vs:List Value,v= .func (.func f) #[] vs.toArray∧a4h M caps vs
  | .fnil,v=>v= .nilFunc
  | .err b,v=>bif b then ∃ te pe,v= .iface te pe else v= .nilIface
def a4h (M:Mem0):List (List C)→List Value→Prop
  |[],vs=>vs=[]
  |r::rs,vs=>∃ b off mid vs',vs= .pointer (some ⟨b,off,none⟩)::vs'∧At (M b) off mid∧a0x M r mid∧a4h M rs vs'
def a0q (M:Mem0) (sz:Nat):List (List C)→List Value→Prop
  |[],vs=>vs=[]
  |r::rs,vs=>∃ v1 v2,vs=v1++v2∧r.length=sz∧a0x M r v1∧a0q M sz rs v2
def a0x (M:Mem0):List C→List Value→Prop
  |[],vs=>vs=[]
  |c::cs,vs=>∃ v vs',vs=v::vs'∧C.rep M c v∧a0x M cs vs'
end
theorem At.mono {M M':Mem0} (h:M.le M') {b off:Nat} {vs:List Value} (k:At (M b) off vs):At (M' b) off vs:=by
  obtain⟨c,et,fz,pre,post,e,rest⟩:=k
  exact⟨c,et,fz,pre,post,h _ _ e,rest⟩
mutual
theorem C.rep_mono {M M':Mem0} (h:M.le M'):∀ (c:C) (v:Value),c.rep M v→c.rep M' v
 | .int k n,v,r=>by simpa only[C.rep] using r
 | .bool b,v,r=>by simpa only[C.rep] using r
 | .str l,v,r=>by simpa only[C.rep] using r
 | .fn f,v,r=>by simpa only[C.rep] using r
 | .fnil,v,r=>by simpa only[C.rep] using r
 | .err b,v,r=>by simpa only[C.rep] using r
 | .fnc f caps,v,r=>by
  simp only[C.rep] at r ⊢
  obtain⟨vs,e,h1⟩:=r
  exact⟨vs,e,a9C h caps vs h1⟩
 | .nil n,v,r=>by simpa only[C.rep] using r
 | .sl sz rows,v,r=>by
  simp only[C.rep] at r ⊢
  obtain⟨a,cap,mid,e,h1,h2,hr,ho⟩:=r
  refine⟨a,cap,mid,e,h1,h2,a3X h sz rows mid hr,?_⟩
  rcases ho with ho|⟨b,off,e2,k⟩
  ·exact .inl ho
  ·exact .inr ⟨b,off,e2,k.mono h⟩
theorem a9C {M M':Mem0} (h:M.le M'):∀ (rs:List (List C)) (vs:List Value),a4h M rs vs→a4h M' rs vs
 |[],vs,r=>by simpa only[a4h] using r
 |r::rs,vs,k=>by
  simp only[a4h] at k ⊢
  obtain⟨b,off,mid,vs',e,h1,h2,h3⟩:=k
  exact⟨b,off,mid,vs',e,h1.mono h,a2B h r mid h2,a9C h rs vs' h3⟩
theorem a3X {M M':Mem0} (h:M.le M') (sz:Nat):∀ (rs:List (List C)) (vs:List Value),a0q M sz rs vs→a0q M' sz rs vs
 |[],vs,r=>by simpa only[a0q] using r
 |r::rs,vs,k=>by
  simp only[a0q] at k ⊢
  obtain⟨v1,v2,e,hl,h1,h2⟩:=k
  exact⟨v1,v2,e,hl,a2B h r v1 h1,a3X h sz rs v2 h2⟩
theorem a2B {M M':Mem0} (h:M.le M'):∀ (cs:List C) (vs:List Value),a0x M cs vs→a0x M' cs vs
 |[],vs,r=>by simpa only[a0x] using r
 |c::cs,vs,k=>by
  simp only[a0x] at k ⊢
  obtain⟨v,vs',e,h1,h2⟩:=k
  exact⟨v,vs',e,C.rep_mono h c v h1,a2B h cs vs' h2⟩
end
theorem a0E {M:Mem0}:∀ {cs:List C} {vs:List Value},a0x M cs vs→vs.length=cs.length
 |[],vs,h=>by simp only[a0x] at h;simp[h]
 |c::cs,vs,h=>by
  simp only[a0x] at h
  obtain⟨v,q,e,_,h2⟩:=h
  subst e
  simp[a0E h2]
theorem a2I {M:Mem0}:∀ {cs ds:List C} {vs ws:List Value},a0x M cs vs→a0x M ds ws→a0x M (cs++ds) (vs++ws)
 |[],ds,vs,ws,h,k=>by simp only[a0x] at h;subst h;simpa using k
 |c::cs,ds,vs,ws,h,k=>by
  simp only[a0x] at h
  obtain⟨v,q,e,h1,h2⟩:=h
  subst e
  simp only[List.cons_append,a0x]
  exact⟨v,_,rfl,h1,a2I h2 k⟩
theorem a1l {M:Mem0}:∀ {cs ds:List C} {vs:List Value},a0x M (cs++ds) vs→∃ v1 v2,vs=v1++v2∧a0x M cs v1∧a0x M ds v2
 |[],ds,vs,h=>⟨[],vs,rfl,by simp only[a0x],h⟩
 |c::cs,ds,vs,h=>by
  simp only[List.cons_append,a0x] at h
  obtain⟨v,q,e,h1,h2⟩:=h
  obtain⟨v1,v2,e2,k1,k2⟩:=a1l h2
  subst e;subst e2
  refine⟨v::v1,v2,rfl,?_,k2⟩
  simp only[a0x]
  exact⟨v,v1,rfl,h1,k1⟩
theorem a0I {M:Mem0} {sz:Nat}:∀ {rs:List (List C)} {vs:List Value},a0q M sz rs vs→vs.length=rs.length*sz
 |[],vs,h=>by simp only[a0q] at h;simp[h]
 |r::rs,vs,h=>by
  simp only[a0q] at h
  obtain⟨v1,v2,e,hl,h1,h2⟩:=h
  subst e
  simp only[zba,a0E h1,a0I h2,hl,List.length_cons,zby,zcf]
  omega
theorem a3S {M:Mem0} {sz:Nat}:∀ {rs ss:List (List C)} {vs ws:List Value},a0q M sz rs vs→a0q M sz ss ws→a0q M sz (rs++ss) (vs++ws)
 |[],ss,vs,ws,h,k=>by simp only[a0q] at h;subst h;simpa using k
 |r::rs,ss,vs,ws,h,k=>by
  simp only[a0q] at h
  obtain⟨v1,v2,e,hl,h1,h2⟩:=h
  subst e
  simp only[List.cons_append,a0q]
  exact⟨v1,v2++ws,by simp,hl,h1,a3S h2 k⟩
theorem a3p {M:Mem0} {sz:Nat}:∀ {rs ss:List (List C)} {vs:List Value},a0q M sz (rs++ss) vs→∃ v1 v2,vs=v1++v2∧a0q M sz rs v1∧a0q M sz ss v2
 |[],ss,vs,h=>⟨[],vs,rfl,by simp only[a0q],h⟩
 |r::rs,ss,vs,h=>by
  simp only[List.cons_append,a0q] at h
  obtain⟨v1,v2,e,hl,h1,h2⟩:=h
  obtain⟨w1,w2,e2,k1,k2⟩:=a3p h2
  subst e;subst e2
  refine⟨v1++w1,w2,by simp,?_,k2⟩
  simp only[a0q]
  exact⟨v1,w1,rfl,hl,h1,k1⟩
inductive Cell where
  |dat (c:C)
  |ptr (k off:Nat)
  |own (k n:Nat)
  |rp (k sz i f:Nat)
  |arr (k n:Nat)
  |ref (r:List C)
  |clo (f:FuncId) (caps:List Cell)
  |mp (k:Nat)
structure Nm where
  blk:Option Nat
  cap:Nat
abbrev Nu:=Nat→Nm
mutual
def Cell.rep (M:Mem0) (ν:Nu):Cell→Value→Prop
  | .dat c,v=>c.rep M v
  | .ptr k off,v=>∃ b,(ν k).blk=some b∧v= .pointer (some ⟨b,off,none⟩)
  | .own k n,v=>v= .slice ((ν k).blk.map fun b=>⟨b,0,none⟩) n (ν k).cap
  | .rp k sz i f,v=>∃ b,(ν k).blk=some b∧v= .pointer (some ⟨b,i*sz+f,none⟩)
  | .arr k n,v=>∃ b,(ν k).blk=some b∧v= .slice (some ⟨b,0,none⟩) n n
  | .ref r,v=>∃ b off vs,v= .pointer (some ⟨b,off,none⟩)∧At (M b) off vs∧a0x M r vs
  | .clo f caps,v=>∃ vs:List Value,v= .func (.func f) #[] vs.toArray∧Cell.reps M ν caps vs
  | .mp k,v=>∃ b,(ν k).blk=some b∧v= .map (some b)
def Cell.reps (M:Mem0) (ν:Nu):List Cell→List Value→Prop
  |[],vs=>vs=[]
  |c::cs,vs=>∃ v vs',vs=v::vs'∧Cell.rep M ν c v∧Cell.reps M ν cs vs'
end
mutual
theorem Cell.rep_mono {M M':Mem0} {ν:Nu} (h:M.le M'):∀ (c:Cell) (v:Value),c.rep M ν v→c.rep M' ν v
 | .dat c,v,r=>by simp only[Cell.rep] at r ⊢; exact C.rep_mono h c v r
 | .ptr k off,v,r=>by simpa only[Cell.rep] using r
 | .own k n,v,r=>by simpa only[Cell.rep] using r
 | .rp k sz i f,v,r=>by simpa only[Cell.rep] using r
 | .arr k n,v,r=>by simpa only[Cell.rep] using r
 | .mp k,v,r=>by simpa only[Cell.rep] using r
 | .ref r',v,r=>by
  simp only[Cell.rep] at r ⊢
  obtain⟨b,off,vs,e,k1,k2⟩:=r
  exact⟨b,off,vs,e,k1.mono h,a2B h _ _ k2⟩
 | .clo f caps,v,r=>by
  simp only[Cell.rep] at r ⊢
  obtain⟨vs,e,k⟩:=r
  exact⟨vs,e,Cell.reps_mono h caps vs k⟩
theorem Cell.reps_mono {M M':Mem0} {ν:Nu} (h:M.le M'):∀ (cs:List Cell) (vs:List Value),Cell.reps M ν cs vs→Cell.reps M' ν cs vs
 |[],vs,r=>by simpa only[Cell.reps] using r
 |c::cs,vs,k=>by
  simp only[Cell.reps] at k ⊢
  obtain⟨v,vs',e,h1,h2⟩:=k
  exact⟨v,vs',e,Cell.rep_mono h c v h1,Cell.reps_mono h cs vs' h2⟩
end
theorem Cell.reps_length {M:Mem0} {ν:Nu}:∀ {cs:List Cell} {vs:List Value},Cell.reps M ν cs vs→vs.length=cs.length
 |[],vs,h=>by simp only[Cell.reps] at h;simp[h]
 |c::cs,vs,h=>by
  simp only[Cell.reps] at h
  obtain⟨v,q,e,_,h2⟩:=h
  subst e
  simp[Cell.reps_length h2]
theorem Cell.reps_append {M:Mem0} {ν:Nu}:∀ {cs ds:List Cell} {vs ws:List Value},Cell.reps M ν cs vs→Cell.reps M ν ds ws→Cell.reps M ν (cs++ds) (vs++ws)
 |[],ds,vs,ws,h,k=>by simp only[Cell.reps] at h;subst h;simpa using k
 |c::cs,ds,vs,ws,h,k=>by
  simp only[Cell.reps] at h
  obtain⟨v,q,e,h1,h2⟩:=h
  subst e
  simp only[List.cons_append,Cell.reps]
  exact⟨v,_,rfl,h1,Cell.reps_append h2 k⟩
theorem Cell.reps_split {M:Mem0} {ν:Nu}:∀ {cs ds:List Cell} {vs:List Value},Cell.reps M ν (cs++ds) vs→∃ v1 v2,vs=v1++v2∧Cell.reps M ν cs v1∧Cell.reps M ν ds v2
 |[],ds,vs,h=>⟨[],vs,rfl,by simp only[Cell.reps],h⟩
 |c::cs,ds,vs,h=>by
  simp only[List.cons_append,Cell.reps] at h
  obtain⟨v,q,e,h1,h2⟩:=h
  obtain⟨v1,v2,e2,k1,k2⟩:=Cell.reps_split h2
  subst e;subst e2
  refine⟨v::v1,v2,rfl,?_,k2⟩
  simp only[Cell.reps]
  exact⟨v,v1,rfl,h1,k1⟩
theorem Cell.reps_map_c {M:Mem0} {ν:Nu}:∀ {r:List C} {vs:List Value},Cell.reps M ν (r.map .dat) vs↔a0x M r vs
 |[],vs=>by simp only[za6,Cell.reps,a0x]
 |c::r,vs=>by
  simp only[zau,Cell.reps,a0x,Cell.rep]
  constructor
  ·rintro⟨v,q,e,h1,h2⟩;exact⟨v,q,e,h1,Cell.reps_map_c.1 h2⟩
  ·rintro⟨v,q,e,h1,h2⟩;exact⟨v,q,e,h1,Cell.reps_map_c.2 h2⟩
inductive T where
  |one (c:Cell)
  |st (r:List C)
  |agg (cs:List Cell)
  |tup (ts:List T)
  |un
mutual
def T.rep (M:Mem0) (ν:Nu):T→Value→Prop
  | .one c,v=>c.rep M ν v
  | .st r,v=>∃ a:Array Value,v= .agg a∧a0x M r a.toList
  | .agg cs,v=>∃ a:Array Value,v= .agg a∧Cell.reps M ν cs a.toList
  | .tup ts,v=>∃ vs:List Value,v= .tuple vs.toArray∧T.reps M ν ts vs
  | .un,v=>v=Go.undef
def T.reps (M:Mem0) (ν:Nu):List T→List Value→Prop
  |[],vs=>vs=[]
  |c::cs,vs=>∃ v vs',vs=v::vs'∧T.rep M ν c v∧T.reps M ν cs vs'
end
mutual
theorem T.rep_mono {M M':Mem0} {ν:Nu} (h:M.le M'):∀ (t:T) (v:Value),t.rep M ν v→t.rep M' ν v
  | .one c,v,r=>by simp only[T.rep] at r ⊢; exact Cell.rep_mono h c v r
  | .st r',v,r=>by simp only[T.rep] at r ⊢; obtain⟨a,e,k⟩:=r;exact⟨a,e,a2B h _ _ k⟩
  | .agg cs,v,r=>by simp only[T.rep] at r ⊢; obtain⟨a,e,k⟩:=r;exact⟨a,e,Cell.reps_mono h _ _ k⟩
  | .tup ts,v,r=>by simp only[T.rep] at r ⊢; obtain⟨a,e,k⟩:=r;exact⟨a,e,T.reps_mono h ts a k⟩
  | .un,v,r=>by simpa only[T.rep] using r
theorem T.reps_mono {M M':Mem0} {ν:Nu} (h:M.le M'):∀ (ts:List T) (vs:List Value),T.reps M ν ts vs→T.reps M' ν ts vs
 |[],vs,r=>by simpa only[T.reps] using r
 |c::cs,vs,k=>by
  simp only[T.reps] at k ⊢
  obtain⟨v,vs',e,h1,h2⟩:=k
  exact⟨v,vs',e,T.rep_mono h c v h1,T.reps_mono h cs vs' h2⟩
end
inductive Res where
  |cells (cs:List Cell)
  |row (sz:Nat) (rows:List (List C))
  |mp (ag:Bool) (es:List (List UInt8×List C))
def a3Y (M:Mem0) (ag:Bool) (r:List C) (v:Value):Prop:=bif ag then ∃ a:Array Value,v= .agg a∧a0x M r a.toList else a0x M r [v]
def a2C (M:Mem0) (ag:Bool):List (List UInt8×List C)→List MapEntry→Prop
  |[],es=>es=[]
  |p::ps,es=>∃ e q,es=e::q∧e.key= .string ⟨p.1.toArray⟩∧a3Y M ag p.2 e.val∧a2C M ag ps q
theorem b5C {M M':Mem0} (h:M.le M') {ag:Bool} {r:List C} {v:Value} (k:a3Y M ag r v):a3Y M' ag r v:=by
  unfold a3Y at*
  cases ag with
  |true=>obtain⟨a,e,k⟩:=k;exact⟨a,e,a2B h _ _ k⟩
  |false=>exact a2B h _ _ k
theorem a9D {M M':Mem0} (h:M.le M') {ag:Bool}:∀ (ps:List (List UInt8×List C)) (es:List MapEntry),a2C M ag ps es→a2C M' ag ps es
 |[],es,k=>k
 |p::ps,es,k=>by
  obtain⟨e,q,h1,h2,h3,h4⟩:=k
  exact⟨e,q,h1,h2,b5C h h3,a9D h ps q h4⟩
def Res.ok (M:Mem0) (ν:Nu) (w:World) (k:Nat):Res→Prop
 | .cells cs=>∃ b c et,(ν k).blk=some b∧w.heap[b]?= some (.cells c et (0,0))∧Cell.reps M ν cs c.toList
 | .row sz rows=>rows.length≤(ν k).cap∧(ν k).cap≤maxLen∧
   (((ν k).blk=none∧(ν k).cap=0)∨ ∃ b c et mid post,(ν k).blk=some b∧w.heap[b]?= some (.cells c et (0,0))∧c.toList=mid++post∧a0q M sz rows mid∧c.size=(ν k).cap*sz)
 | .mp ag es=>∃ b ents q,(ν k).blk=some b∧w.heap[b]?= some (.map ents q)∧a2C M ag es ents.toList
def glX (M:Mem0):Prop:=True
def a6A (M:Mem0):Prop:=(∀ g r,gl.lookup g=some r→∃ vs,At (M g) 0 vs∧a0x M r vs)∧glX M
theorem a6A.mono {M M':Mem0} (h:M.le M') (k:a6A M):a6A M':=⟨fun g r e=>by
  obtain⟨vs,h1,h2⟩:=k.1 g r e
  exact⟨vs,h1.mono h,a2B h _ _ h2⟩,trivial⟩
theorem a6A.none (M:Mem0):a6A M:=⟨fun g r e=>(by cases e),trivial⟩
structure Mem where
  f:Mem0
  glo:a6A f
instance:CoeFun Mem (fun _=>Nat→Option Obj):=⟨Mem.f⟩
instance:Coe Mem Mem0:=⟨Mem.f⟩
abbrev Mem.le (M M':Mem):Prop:=Mem0.le M.f M'.f
theorem Mem.le.refl (M:Mem):M.le M:=fun _ _ h=>h
theorem Mem.le.trans {M M' q:Mem} (h:M.le M') (k:M'.le q):M.le q:=fun b o e=>k b o (h b o e)
def Mem.up (M:Mem) (f:Mem0) (h:M.f.le f):Mem:=⟨f,M.glo.mono h⟩
def Mem.add (M:Mem) (b:Nat) (o:Obj):Mem:=M.up (fun k=>(M k).or (if k=b then some o else none)) fun k x e=>by show (M k).or _=_;rw[e];rfl
theorem Mem.add_at {M:Mem} {b:Nat} {o:Obj} (h:M b=none) (k:Nat):M.add b o k=if k=b then some o else M k:=by
  show (M k).or _=_
  by_cases hk:k=b
  · subst hk;rw[h];simp
  · simp[hk]
abbrev Bx:=List (Nat×Res)
abbrev Env:=List (Nat×T)
structure Kap where
  w:World
  D:Nat→Prop
  nu:Nu
def pin:Nat:=1000000
structure Sat (κ:Kap) (M:Mem) (ν:Nu) (B:Bx) (w:World):Prop where
  os:w.os=κ.w.os
  tape:w.tape=κ.w.tape
  output:w.output=κ.w.output
  dr:0≤w.drawn
  size:κ.w.heap.size≤w.heap.size
  unch:∀ b,b<κ.w.heap.size→¬ κ.D b→w.heap[b]?= κ.w.heap[b]?
  fro:∀ b o,M b=some o→w.heap[b]?= some o
  res:∀ k r,(k,r)∈B→r.ok M ν w k
  away:∀ k r b,(k,r)∈B→(ν k).blk=some b→M b=none∧(κ.w.heap.size≤b∨κ.D b)
  inj:∀ k r k' r' b,(k,r)∈B→(k',r')∈B→(ν k).blk=some b→(ν k').blk=some b→k=k'
  nodup:(B.map (·.1)).Nodup
def a2r (M:Mem) (ν:Nu) (tmps:Array Value) (env:Env):Prop:=
  ∀ d t,env.lookup d=some t→t.rep M ν (tmps.getD d undef)
def Mem.ext (κ:Kap) (M M':Mem):Prop:=M.le M'∧∀ b o,M' b=some o→M b=some o∨κ.w.heap.size≤b∨κ.D b
theorem Mem.ext.refl (κ:Kap) (M:Mem):M.ext κ M:=⟨Mem.le.refl M,fun _ _ h=> .inl h⟩
theorem Mem.ext.trans {κ:Kap} {M M' q:Mem} (h:M.ext κ M') (k:M'.ext κ q):M.ext κ q:=
  ⟨h.1.trans k.1,fun b o e=>(k.2 b o e).elim (fun e=>h.2 b o e) .inr⟩
structure AS where
  env:Env
  B:Bx
def St (κ:Kap) (M0:Mem) (n:Nat) (σ:AS) (a:Act) (w:World):Prop:=
  ∃ M ν,M0.ext κ M∧a.tmps.size=n∧a.defers=[]∧a2r M ν a.tmps σ.env∧Sat κ M ν σ.B w∧∀ k,pin≤k→ν k=κ.nu k
def AWP (P:Program) (n:Nat) (c:Code) (σ:AS) (Q:Exit→AS→Prop):Prop:=
  ∀ κ M0 a w,St κ M0 n σ a w→c.wp P (fun e a' w'=>∃ σ',St κ M0 n σ' a' w'∧Q e σ') a w
variable {P:Program} {n:Nat} {σ:AS} {Q:Exit→AS→Prop}
theorem AWP.mono {c:Code} {Q':Exit→AS→Prop} (h:AWP P n c σ Q) (hq:∀ e σ,Q e σ→Q' e σ):AWP P n c σ Q':=
  fun κ M0 a w hs=>wp_mono (h κ M0 a w hs) fun e a' w' ⟨σ',s,q⟩=>⟨σ',s,hq _ _ q⟩
def c4C (K:AS→Prop) (Q:Exit→AS→Prop):Exit→AS→Prop
  | .normal,σ=>K σ
  |e,σ=>Q e σ
theorem AWP.seq {x y:Code} (h:∀ K:AS→Prop,(∀ σ',AWP P n y σ' Q→K σ')→AWP P n x σ (c4C K Q)):AWP P n (.seq x y) σ Q:=by
  intro κ M0 a w hs
  have hx:=h (fun σ'=>AWP P n y σ' Q) (fun _ k=>k) κ M0 a w hs
  refine wp_seq (wp_mono hx ?_)
  rintro e a' w' ⟨σ',s,q⟩
  cases e with
  |normal=>exact q κ M0 a' w' s
  |exit id=>exact⟨σ',s,q⟩
  |goto l=>exact⟨σ',s,q⟩
  |ret=>exact⟨σ',s,q⟩
  |panic ch=>exact⟨σ',s,q⟩
  |outgrown=>exact⟨σ',s,q⟩
theorem AWP.skip (h:Q .normal σ):AWP P n .skip σ Q:=fun κ M0 a w hs=>wp_skip ⟨σ,hs,h⟩
theorem AWP.ret (h:Q .ret σ):AWP P n .ret σ Q:=fun κ M0 a w hs=>wp_ret ⟨σ,hs,h⟩
theorem AWP.exit {id:Nat} (h:Q (.exit id) σ):AWP P n (.exit id) σ Q:=fun κ M0 a w hs=>wp_exit ⟨σ,hs,h⟩
end Go.Sx
namespace Go.Sx
variable {P:Program} {n:Nat} {σ:AS} {Q:Exit→AS→Prop}
theorem a2r.nil {M:Mem} {ν:Nu} {tmps:Array Value}:a2r M ν tmps []:=fun d t h=>by simp at h
theorem a2r.mono {M M':Mem} {ν:Nu} {tmps:Array Value} {env:Env} (h:a2r M ν tmps env) (hm:M.le M'):a2r M' ν tmps env:=
  fun d t e=>T.rep_mono hm t _ (h d t e)
def AS.put (σ:AS) (dst:Option Tmp) (t:T):AS:=
  match dst with
  |some d=>{ σ with env:=(d,t)::σ.env }
  |none=>σ
def a15 (env:Env) (dst:Option Tmp) (t:T):Env:=
  match dst with
  |some d=>(d,t)::env
  |none=>env
theorem a2r.put {M:Mem} {ν:Nu} {tmps:Array Value} {env:Env} (h:a2r M ν tmps env) {dst:Option Tmp} {v:Value} {t:T} {df:List Deferred}
  (hd:∀ d,dst=some d→d<tmps.size) (hr:t.rep M ν v):a2r M ν ((⟨tmps,df⟩:Act).put dst v).tmps (a15 env dst t):=by
 cases dst with
 |none=>exact h
 |some d=>
  have aa:=hd d rfl
  intro k u hk
  simp only[a15,List.lookup_cons] at hk
  simp only[Act.put]
  by_cases q:k=d
  ·subst q
   simp at hk
   subst hk
   simpa [aa] using hr
  ·have:(k==d)=false:=by simpa using q
   rw[this] at hk
   have:=h k u hk
   simpa [zdl (Ne.symm q)] using this
theorem Act.put_size (a:Act) (dst:Option Tmp) (v:Value):(a.put dst v).tmps.size=a.tmps.size:=by
  cases dst<;>simp[Act.put]
theorem Act.put_defers' (a:Act) (dst:Option Tmp) (v:Value):(a.put dst v).defers=a.defers:=by
  cases dst<;>rfl
def ev0 (env:Env):Operand→Option T
  | .tmp d=>env.lookup d
  | .const (.bool b)=>some (.one (.dat (.bool b)))
  |_=>none
def condT (b:Bool) (X Y:Prop):Prop:=(b=true→X)∧(b=false→Y)
theorem AWP.cond {c:Operand} {x y:Code} {b:Bool} (hc:ev0 σ.env c=some (.one (.dat (.bool b)))) (ht:b=true→AWP P n x σ Q) (hf:b=false→AWP P n y σ Q):
  AWP P n (.cond c x y) σ Q:=by
 intro κ M0 a w hs
 obtain⟨M,ν,h1,h2,h3,h4,h5⟩:=id hs
 have he:a.eval c= .bool b:=by
  cases c with
  |tmp d=>
   have:=h4 d _ hc
   simp only[T.rep,Cell.rep,C.rep] at this
   exact this
  |const v=>cases v<;>simp[ev0] at hc;subst hc;rfl
  |global g=>simp[ev0] at hc
  |func f=>simp[ev0] at hc
 exact wp_cond_split he (fun e=>ht e κ M0 a w hs) (fun e=>hf e κ M0 a w hs)
def b5D (id:Nat) (Q:Exit→AS→Prop):Exit→AS→Prop
  | .exit id',σ=>if id'=id then Q .normal σ else Q (.exit id') σ
  |e,σ=>Q e σ
theorem AWP.block {id:Nat} {c:Code} (h:AWP P n c σ (b5D id Q)):AWP P n (.block id c) σ Q:=by
 intro κ M0 a w hs
 refine wp_block (wp_mono (h κ M0 a w hs) ?_)
 rintro e a' w' ⟨σ',s,q⟩
 cases e with
 |exit u=>
  simp only[b5D,Exit.inBlock] at q ⊢
  split<;>rename_i h<;>simp only[h,za9,za2] at q<;>exact⟨σ',s,q⟩
 |normal=>exact⟨σ',s,q⟩
 |goto l=>exact⟨σ',s,q⟩
 |ret=>exact⟨σ',s,q⟩
 |panic ch=>exact⟨σ',s,q⟩
 |outgrown=>exact⟨σ',s,q⟩
theorem AWP.loop {c:Code} (I:Nat→AS→Prop) (k₀:Nat) (h₀:I k₀ σ)
  (u:∀ (k:Nat) (σ:AS),I k σ→AWP P n c σ (c4C (fun σ'=>∃ k',k'<k∧I k' σ') Q)):AWP P n (.loop c) σ Q:=by
 intro κ M0 a w hs
 refine wp_loop_ghost (fun k a w=>∃ σ,St κ M0 n σ a w∧I k σ) k₀ ⟨σ,hs,h₀⟩ ?_
 rintro k a w ⟨σ,hs,hI⟩
 refine wp_mono (u k σ hI κ M0 a w hs) ?_
 rintro e a' w' ⟨σ',s,q⟩
 cases e with
 |normal=>obtain⟨k',hk,aa⟩:=q;exact⟨k',hk,σ',s,aa⟩
 |exit ab=>exact⟨σ',s,q⟩
 |goto l=>exact⟨σ',s,q⟩
 |ret=>exact⟨σ',s,q⟩
 |panic ch=>exact⟨σ',s,q⟩
 |outgrown=>exact⟨σ',s,q⟩
mutual
def Cell.ren (ρ:Nat→Nat):Cell→Cell
  | .dat c=> .dat c
  | .ptr k off=> .ptr (ρ k) off
  | .own k m=> .own (ρ k) m
  | .rp k sz i f=> .rp (ρ k) sz i f
  | .arr k n=> .arr (ρ k) n
  | .ref r=> .ref r
  | .mp k=> .mp (ρ k)
  | .clo f caps=> .clo f (Cell.rens ρ caps)
def Cell.rens (ρ:Nat→Nat):List Cell→List Cell
  |[]=>[]
  |c::cs=>Cell.ren ρ c::Cell.rens ρ cs
end
mutual
def T.ren (ρ:Nat→Nat):T→T
  | .one c=> .one (c.ren ρ)
  | .st r=> .st r
  | .agg cs=> .agg (Cell.rens ρ cs)
  | .tup ts=> .tup (T.rens ρ ts)
  | .un=> .un
def T.rens (ρ:Nat→Nat):List T→List T
  |[]=>[]
  |t::ts=>T.ren ρ t::T.rens ρ ts
end
def Res.ren (ρ:Nat→Nat):Res→Res
  | .cells cs=> .cells (Cell.rens ρ cs)
  | .row sz rows=> .row sz rows
  | .mp ag es=> .mp ag es
mutual
theorem Cell.rep_ren {M:Mem} {ν:Nu} {ρ:Nat→Nat}:∀ (c:Cell) (v:Value),(c.ren ρ).rep M ν v↔c.rep M (fun k=>ν (ρ k)) v
 | .dat c,v=>by simp only[Cell.ren,Cell.rep]
 | .ptr k off,v=>by simp only[Cell.ren,Cell.rep]
 | .own k m,v=>by simp only[Cell.ren,Cell.rep]
 | .rp k sz i f,v=>by simp only[Cell.ren,Cell.rep]
 | .arr k n,v=>by simp only[Cell.ren,Cell.rep]
 | .ref r,v=>by simp only[Cell.ren,Cell.rep]
 | .mp k,v=>by simp only[Cell.ren,Cell.rep]
 | .clo f caps,v=>by
  simp only[Cell.ren,Cell.rep]
  constructor
  ·rintro⟨vs,e,h⟩;exact⟨vs,e,(Cell.reps_ren caps vs).1 h⟩
  ·rintro⟨vs,e,h⟩;exact⟨vs,e,(Cell.reps_ren caps vs).2 h⟩
theorem Cell.reps_ren {M:Mem} {ν:Nu} {ρ:Nat→Nat}:∀ (cs:List Cell) (vs:List Value),Cell.reps M ν (Cell.rens ρ cs) vs↔Cell.reps M (fun k=>ν (ρ k)) cs vs
 |[],vs=>by simp only[Cell.rens,Cell.reps]
 |c::cs,vs=>by
  simp only[Cell.rens,Cell.reps]
  constructor
  ·rintro⟨v,vs',e,h1,h2⟩;exact⟨v,vs',e,(Cell.rep_ren c v).1 h1,(Cell.reps_ren cs vs').1 h2⟩
  ·rintro⟨v,vs',e,h1,h2⟩;exact⟨v,vs',e,(Cell.rep_ren c v).2 h1,(Cell.reps_ren cs vs').2 h2⟩
end
mutual
theorem T.rep_ren {M:Mem} {ν:Nu} {ρ:Nat→Nat}:∀ (t:T) (v:Value),(t.ren ρ).rep M ν v↔t.rep M (fun k=>ν (ρ k)) v
 | .one c,v=>by simp only[T.ren,T.rep];exact Cell.rep_ren c v
 | .st r,v=>by simp only[T.ren,T.rep]
 | .agg cs,v=>by
  simp only[T.ren,T.rep]
  constructor
  ·rintro⟨a,e,h⟩;exact⟨a,e,(Cell.reps_ren cs _).1 h⟩
  ·rintro⟨a,e,h⟩;exact⟨a,e,(Cell.reps_ren cs _).2 h⟩
 | .tup ts,v=>by
  simp only[T.ren,T.rep]
  constructor
  ·rintro⟨a,e,h⟩;exact⟨a,e,(T.reps_ren ts _).1 h⟩
  ·rintro⟨a,e,h⟩;exact⟨a,e,(T.reps_ren ts _).2 h⟩
 | .un,v=>by simp only[T.ren,T.rep]
theorem T.reps_ren {M:Mem} {ν:Nu} {ρ:Nat→Nat}:∀ (cs:List T) (vs:List Value),T.reps M ν (T.rens ρ cs) vs↔T.reps M (fun k=>ν (ρ k)) cs vs
 |[],vs=>by simp only[T.rens,T.reps]
 |c::cs,vs=>by
  simp only[T.rens,T.reps]
  constructor
  ·rintro⟨v,vs',e,h1,h2⟩;exact⟨v,vs',e,(T.rep_ren c v).1 h1,(T.reps_ren cs vs').1 h2⟩
  ·rintro⟨v,vs',e,h1,h2⟩;exact⟨v,vs',e,(T.rep_ren c v).2 h1,(T.reps_ren cs vs').2 h2⟩
end
structure Weak (ρ:Nat→Nat) (σ τ:AS):Prop where
  env:∀ p∈τ.env,σ.env.lookup p.1=some (p.2.ren ρ)
  box:∀ p∈τ.B,(ρ p.1,p.2.ren ρ)∈σ.B
  inj:(τ.B.map fun p=>ρ p.1).Nodup
  nodup:(τ.B.map (·.1)).Nodup
  pins:∀ k,pin≤k→ρ k=k
  low:∀ k,k<pin→ρ k<pin
theorem a7f {env:Env} {d:Nat} {t:T} (h:env.lookup d=some t):(d,t)∈env:=by
 induction env with
 |nil=>simp at h
 |cons p env ih=>
  obtain⟨e,u⟩:=p
  simp only[List.lookup_cons] at h
  by_cases he:d=e
  ·subst he;simp at h;subst h;simp
  ·have:(d==e)=false:=by simpa using he
   rw[this] at h
   exact zas _ (ih h)
theorem a8f {α:Type} {f:α→Nat}:∀ {l:List α},(l.map f).Nodup→∀ x∈l,∀ y∈l,f x=f y→x=y
 |[],_,x,hx,_,_,_=>by cases hx
 |a::l,h,x,hx,y,hy,e=>by
  simp only[zau,zbr,za3,not_exists,not_and] at h
  rcases zal.1 hx with rfl|u<;>rcases zal.1 hy with rfl|q
  ·rfl
  ·exact absurd e.symm (h.1 y q)
  ·exact absurd e (h.1 x u)
  ·exact a8f h.2 x u y q e
theorem Sat.weak {κ:Kap} {M:Mem} {ν:Nu} {w:World} {ρ:Nat→Nat} {σ τ:AS} (h:Sat κ M ν σ.B w) (hw:Weak ρ σ τ):Sat κ M (fun k=>ν (ρ k)) τ.B w where
 os:=h.os
 tape:=h.tape
 output:=h.output
 dr:=zao _
 size:=h.size
 unch:=h.unch
 fro:=h.fro
 res:=fun k r hm=>by
  have h1:=h.res _ _ (hw.box (k,r) hm)
  cases r with
  |cells cs=>
   simp only[Res.ren,Res.ok] at h1 ⊢
   obtain⟨b,c,et,e1,e2,e3⟩:=h1
   exact⟨b,c,et,e1,e2,(Cell.reps_ren cs _).1 e3⟩
  |row sz rows=>exact h1
  |mp ag es=>exact h1
 away:=fun k r b hm hb=>by
  exact h.away _ _ b (hw.box (k,r) hm) hb
 inj:=fun k r k' r' b hm q hb u=>by
  have e:=h.inj _ _ _ _ b (hw.box (k,r) hm) (hw.box (k',r') q) hb u
  have:=a8f (f:=fun p:Nat×Res=>ρ p.1) hw.inj (k,r) hm (k',r') q e
  exact congrArg Prod.fst this
 nodup:=hw.nodup
theorem St.weak {κ:Kap} {M0:Mem} {a:Act} {w:World} {ρ:Nat→Nat} {σ τ:AS} (h:St κ M0 n σ a w) (hw:Weak ρ σ τ):St κ M0 n τ a w:=by
  obtain⟨M,ν,h1,h2,h3,h4,h5,h6⟩:=h
  refine⟨M,fun k=>ν (ρ k),h1,h2,h3,?_,h5.weak hw,fun k hk=>by show ν (ρ k)=_;rw[hw.pins k hk];exact h6 k hk⟩
  intro d t e
  have:=h4 d _ (hw.env (d,t) (a7f e))
  exact(T.rep_ren t _).1 this
theorem AWP.weak {c:Code} (ρ:Nat→Nat) (τ:AS) (hw:Weak ρ σ τ) (h:AWP P n c τ Q):AWP P n c σ Q:=
  fun κ M0 a w hs=>h κ M0 a w (hs.weak hw)
mutual
def Cell.fresh (k:Nat):Cell→Bool
  | .dat _=>true
  | .ptr j _=>j != k
  | .own j _=>j != k
  | .rp j _ _ _=>j != k
  | .arr j _=>j != k
  | .ref _=>true
  | .mp j=>j != k
  | .clo _ caps=>Cell.freshs k caps
def Cell.freshs (k:Nat):List Cell→Bool
  |[]=>true
  |c::cs=>Cell.fresh k c&&Cell.freshs k cs
end
mutual
def T.fresh (k:Nat):T→Bool
  | .one c=>c.fresh k
  | .st _=>true
  | .agg cs=>Cell.freshs k cs
  | .tup ts=>T.freshs k ts
  | .un=>true
def T.freshs (k:Nat):List T→Bool
  |[]=>true
  |t::ts=>T.fresh k t&&T.freshs k ts
end
def Env.fresh (k:Nat):Env→Bool
  |[]=>true
  |p::env=>p.2.fresh k&&Env.fresh k env
def Bx.fresh (k:Nat):Bx→Bool
  |[]=>true
  |p::B=>p.1 != k&&(match p.2 with| .cells cs=>Cell.freshs k cs| .row _ _=>true| .mp _ _=>true)&&Bx.fresh k B
mutual
theorem Cell.rep_fresh {M:Mem} {ν ν':Nu} {k:Nat} (hν:∀ j,j≠k→ν' j=ν j):∀ (c:Cell) (v:Value),c.fresh k=true→c.rep M ν v→c.rep M ν' v
 | .dat c,v,_,h=>by simpa only[Cell.rep] using h
 | .ptr j off,v,hf,h=>by simp only[Cell.fresh,bne_iff_ne] at hf;simp only[Cell.rep] at h ⊢; rw[hν j hf];exact h
 | .own j m,v,hf,h=>by simp only[Cell.fresh,bne_iff_ne] at hf;simp only[Cell.rep] at h ⊢; rw[hν j hf];exact h
 | .rp j sz i f,v,hf,h=>by simp only[Cell.fresh,bne_iff_ne] at hf;simp only[Cell.rep] at h ⊢; rw[hν j hf];exact h
 | .arr j n,v,hf,h=>by simp only[Cell.fresh,bne_iff_ne] at hf;simp only[Cell.rep] at h ⊢; rw[hν j hf];exact h
 | .ref r,v,_,h=>by simpa only[Cell.rep] using h
 | .mp j,v,hf,h=>by simp only[Cell.fresh,bne_iff_ne] at hf;simp only[Cell.rep] at h ⊢; rw[hν j hf];exact h
 | .clo f caps,v,hf,h=>by
  simp only[Cell.fresh] at hf
  simp only[Cell.rep] at h ⊢
  obtain⟨vs,e,h⟩:=h
  exact⟨vs,e,Cell.reps_fresh hν caps vs hf h⟩
theorem Cell.reps_fresh {M:Mem} {ν ν':Nu} {k:Nat} (hν:∀ j,j≠k→ν' j=ν j):∀ (cs:List Cell) (vs:List Value),Cell.freshs k cs=true→Cell.reps M ν cs vs→Cell.reps M ν' cs vs
 |[],vs,_,h=>by simpa only[Cell.reps] using h
 |c::cs,vs,hf,h=>by
  simp only[Cell.freshs,zag] at hf
  simp only[Cell.reps] at h ⊢
  obtain⟨v,vs',e,h1,h2⟩:=h
  exact⟨v,vs',e,Cell.rep_fresh hν c v hf.1 h1,Cell.reps_fresh hν cs vs' hf.2 h2⟩
end
mutual
theorem T.rep_fresh {M:Mem} {ν ν':Nu} {k:Nat} (hν:∀ j,j≠k→ν' j=ν j):∀ (c:T) (v:Value),c.fresh k=true→c.rep M ν v→c.rep M ν' v
 | .one c,v,hf,h=>by simp only[T.rep] at h ⊢; exact Cell.rep_fresh hν c v (by simpa only[T.fresh] using hf) h
 | .st r,v,_,h=>by simpa only[T.rep] using h
 | .agg cs,v,hf,h=>by
  simp only[T.rep] at h ⊢
  obtain⟨a,e,h⟩:=h
  exact⟨a,e,Cell.reps_fresh hν cs _ (by simpa only[T.fresh] using hf) h⟩
 | .tup ts,v,hf,h=>by
  simp only[T.rep] at h ⊢
  obtain⟨a,e,h⟩:=h
  exact⟨a,e,T.reps_fresh hν ts _ (by simpa only[T.fresh] using hf) h⟩
 | .un,v,_,h=>by simpa only[T.rep] using h
theorem T.reps_fresh {M:Mem} {ν ν':Nu} {k:Nat} (hν:∀ j,j≠k→ν' j=ν j):∀ (cs:List T) (vs:List Value),T.freshs k cs=true→T.reps M ν cs vs→T.reps M ν' cs vs
 |[],vs,_,h=>by simpa only[T.reps] using h
 |c::cs,vs,hf,h=>by
  simp only[T.freshs,zag] at hf
  simp only[T.reps] at h ⊢
  obtain⟨v,vs',e,h1,h2⟩:=h
  exact⟨v,vs',e,T.rep_fresh hν c v hf.1 h1,T.reps_fresh hν cs vs' hf.2 h2⟩
end
theorem Env.fresh_spec {k:Nat}:∀ {env:Env} {d:Nat} {t:T},Env.fresh k env=true→(d,t)∈env→t.fresh k=true
 |p::env,d,t,h,hm=>by
  simp only[Env.fresh,zag] at h
  rcases zal.1 hm with rfl|hm
  ·exact h.1
  ·exact Env.fresh_spec h.2 hm
theorem a2r.fresh {M:Mem} {ν ν':Nu} {tmps:Array Value} {env:Env} {k:Nat} (h:a2r M ν tmps env) (hf:Env.fresh k env=true) (hν:∀ j,j≠k→ν' j=ν j):
  a2r M ν' tmps env:=fun d t e=>T.rep_fresh hν t _ (Env.fresh_spec hf (a7f e)) (h d t e)
def a3Z (M:Mem) (ν:Nu) (a:Act) (env:Env) (o:Oper):Prop:=
  ∀ d t,Operand.tmp d∈o.op.operands→env.lookup d=some t→t.rep M ν (a.tmps.getD d undef)
theorem a2r.on {M:Mem} {ν:Nu} {a:Act} {env:Env} (h:a2r M ν a.tmps env) (o:Oper):a3Z M ν a env o:=fun d t _ e=>h d t e
def OpP (P:Program) (o:Oper) (env:Env) (B:Bx) (t:T):Prop:=
 ∀ κ M ν a w B',(∀ x∈B,x∈B')→a3Z M ν a env o→Sat κ M ν B' w→
  o.wp P a w (fun a' w'=>∃ v M',a'=a.put o.dst v∧M.ext κ M'∧t.rep M' ν v∧Sat κ M' ν B' w') (fun _ _ _=>False)
def OpE (P:Program) (o:Oper) (env:Env) (B:Bx) (t:T) (B':Bx):Prop:=
 ∀ κ M ν a w,a3Z M ν a env o→Sat κ M ν B w→
  o.wp P a w (fun a' w'=>∃ v M',a'=a.put o.dst v∧M.ext κ M'∧t.rep M' ν v∧Sat κ M' ν B' w') (fun _ _ _=>False)
def OpG (P:Program) (o:Oper) (env:Env) (B:Bx) (k:Nat) (t:T) (B':Bx):Prop:=
 ∀ κ M ν a w,a3Z M ν a env o→Sat κ M ν B w→
  o.wp P a w (fun a' w'=>∃ v M' ν',a'=a.put o.dst v∧M.ext κ M'∧(∀ j,j≠k→ν' j=ν j)∧t.rep M' ν' v∧Sat κ M' ν' B' w') (fun _ _ _=>False)
def OpX (P:Program) (o:Oper) (env:Env) (B:Bx) (js:List Nat) (t:T) (B':Bx):Prop:=
 ∀ κ M ν a w,a3Z M ν a env o→Sat κ M ν B w→
  o.wp P a w (fun a' w'=>∃ v M' ν',a'=a.put o.dst v∧M.ext κ M'∧(∀ j,j∉js→ν' j=ν j)∧t.rep M' ν' v∧Sat κ M' ν' B' w') (fun _ _ _=>False)
def Env.freshL (js:List Nat) (env:Env):Bool:=js.all fun j=>Env.fresh j env
theorem a2r.freshL {M:Mem} {tmps:Array Value} {env:Env}:∀ {js:List Nat} {ν ν':Nu},a2r M ν tmps env→Env.freshL js env=true→(∀ j,j∉js→ν' j=ν j)→a2r M ν' tmps env
 |[],ν,ν',h,_,hν=>by
  have:ν'=ν:=funext fun j=>hν j (by simp)
  rw[this];exact h
 |k::js,ν,ν',h,hf,hν=>by
  simp only[Env.freshL,List.all_cons,zag] at hf
  refine a2r.freshL (js:=js) (ν:=fun i=>if i=k then ν' i else ν i) (h.fresh (k:=k) hf.1 fun j hj=>by simp[hj]) hf.2 fun j hj=>?_
  by_cases q:j=k
  ·simp[q]
  ·simp only[q,za2];exact hν j (by simp[q,hj])
theorem OpP.e {o:Oper} {env:Env} {B:Bx} {t:T} (h:OpP P o env B t):OpE P o env B t B:=
  fun κ M ν a w he hs=>h κ M ν a w B (fun _ h=>h) he hs
def a0H:T:= .un
def a5t (n:Nat) (o:Oper):Bool:=match o.dst with|some d=>decide (d<n)|none=>true
inductive StepO (P:Program) (n:Nat) (o:Oper) (σ:AS) (K:AS→Prop):Prop
  |pure (t:T) (h:OpP P o σ.env σ.B t) (hd:a5t n o=true) (k:K (σ.put o.dst t))
  |eff (t:T) (B':Bx) (h:OpE P o σ.env σ.B t B') (hd:a5t n o=true) (k:K (AS.put ⟨σ.env,B'⟩ o.dst t))
  |gen (j:Nat) (t:T) (B':Bx) (h:OpG P o σ.env σ.B j t B') (hj:j<pin) (hf:Env.fresh j σ.env=true) (hd:a5t n o=true) (k:K (AS.put ⟨σ.env,B'⟩ o.dst t))
  |genx (js:List Nat) (t:T) (B':Bx) (h:OpX P o σ.env σ.B js t B') (hj:∀ j∈js,j<pin) (hf:Env.freshL js σ.env=true) (hd:a5t n o=true) (k:K (AS.put ⟨σ.env,B'⟩ o.dst t))
def a08 (all:List Oper) (env:Env) (o:Oper) (X Y:Prop):Prop:=
 match o.guard with
 |none=>X
 |some (j,want)=>match ((all[j]?).bind (·.dst)).bind (fun d=>env.lookup d) with
  |some (.one (.dat (.bool b)))=>bif b==want then X else Y
  |some .un=>Y
  |_=>False
theorem b1R {all:List Oper} {tmps:Array Value} {j d:Nat} (hd:(all[j]?).bind (·.dst)=some d) (hr:tmps.getD d undef=undef):yielded all.toArray tmps j=none:=by
 unfold yielded
 have:(all.toArray[j]?).bind (·.dst)=some d:=by simpa using hd
 rw[this]
 by_cases q:d<tmps.size
 ·have:tmps[d]?= some undef:=by
   simp[q] at hr
   simp[q,hr]
  simp[this,undef]
 ·simp[zdm q]
def a1T (P:Program) (n:Nat) (all:List Oper):List Oper→AS→(AS→Prop)→Prop
  |[],σ,K=>K σ
  |o::os,σ,K=>a08 all σ.env o (StepO P n o σ fun σ'=>a1T P n all os σ' K) (a5t n o=true∧a1T P n all os (σ.put o.dst a0H) K)
theorem a6m {κ:Kap} {M0 M M':Mem} {ν:Nu} {a:Act} {w:World} {env:Env} {B:Bx} {dst:Option Tmp} {t:T} {v:Value}
  (h1:M0.ext κ M) (h2:a.tmps.size=n) (h3:a.defers=[]) (h4:a2r M' ν a.tmps env) (hm:M.ext κ M') (hd:∀ d,dst=some d→d<n) (hr:t.rep M' ν v) (hs:Sat κ M' ν B w) (hp:∀ k,pin≤k→ν k=κ.nu k):
  St κ M0 n (AS.put ⟨env,B⟩ dst t) (a.put dst v) w:=by
 refine⟨M',ν,h1.trans hm,by rw[Act.put_size];exact h2,by rw[Act.put_defers'];exact h3,?_,?_⟩
 ·have:=a2r.put (df:=a.defers) h4 (dst:=dst) (fun d e=>by rw[h2];exact hd d e) hr
  cases dst<;>exact this
 ·cases dst<;>exact⟨hs,hp⟩
theorem a1j {o:Oper} (h:a5t n o=true):∀ d,o.dst=some d→d<n:=by
  intro d e
  simpa [a5t,e] using h
theorem b1S {all:List Oper} {env:Env} {o:Oper} {X Y:Prop} {M:Mem} {ν:Nu} {tmps:Array Value} (he:a2r M ν tmps env) (h:a08 all env o X Y):
  (Region.wanted o (yielded all.toArray tmps)=true∧X)∨(Region.wanted o (yielded all.toArray tmps)=false∧Y):=by
 unfold a08 at h
 split at h
 ·rename_i hg
  exact .inl ⟨by simp[Region.wanted,hg],h⟩
 ·rename_i j q hg
  split at h
  ·rename_i b hb
   obtain⟨d,hd,hl⟩:=zca.1 hb
   have hr:=he d _ hl
   simp only[T.rep,Cell.rep,C.rep] at hr
   have hy:yielded all.toArray tmps j=some b:=by
    unfold yielded
    have:(all.toArray[j]?).bind (·.dst)=some d:=by simpa using hd
    rw[this]
    by_cases aa:d<tmps.size
    ·have:tmps[d]?= some (.bool b):=by
      simp[aa] at hr
      simp[aa,hr]
     simp[this]
    ·simp[zdm aa] at hr
     simp[undef] at hr
   by_cases u:b=q
   ·subst u
    simp only[beq_self_eq_true,zaa] at h
    exact .inl ⟨by simp[Region.wanted,hg,hy],h⟩
   ·have:(b==q)=false:=by simpa using u
    rw[this] at h
    exact .inr ⟨by simp[Region.wanted,hg,hy,u],h⟩
  ·rename_i hb
   obtain⟨d,hd,hl⟩:=zca.1 hb
   have hr:=he d _ hl
   simp only[T.rep] at hr
   exact .inr ⟨by simp[Region.wanted,hg,b1R hd hr],h⟩
  ·exact h.elim
theorem Oper.wp_mono_Q {o:Oper} {a:Act} {w:World} {K:Act→World→Prop} {Q':Exit→Act→World→Prop} (h:o.wp P a w K (fun _ _ _=>False)):o.wp P a w K Q':=by
 unfold Oper.wp at*
 generalize (execOp a.eval o).run P w=r at*
 cases r with
 |ok x w'=>
  cases x<;>simp only[Oper.upon] at h ⊢ <;>try exact h
  refine Calls.mono h fun e q he=>?_
  cases e with
  |returned v=>exact he
  |panicked c=>exact he.elim
  |outgrown=>obtain⟨_,_,hf⟩:=he;exact hf.elim
 |halt x w'=>cases x<;>simp only[Oper.upon] at h ⊢ <;>exact h.elim
theorem a5u {κ:Kap} {M0:Mem} {K:AS→Prop} {Q':Exit→Act→World→Prop} (all:List Oper) (hQ:∀ a w σ',St κ M0 n σ' a w→K σ'→Q' .normal a w):
  ∀ (l:List Oper) (σ:AS) (a:Act) (w:World),a1T P n all l σ K→St κ M0 n σ a w→wpList P all.toArray Q' l a w
 |[],σ,a,w,h,hs=>hQ a w σ hs h
 |o::os,σ,a,w,h,hs=>by
  obtain⟨M,ν,h1,h2,h3,h4,h5,h6⟩:=id hs
  unfold wpList
  rcases b1S h4 h with⟨hw,hx⟩|⟨hw,hd,hx⟩
  ·rw[zaz hw]
   left
   cases hx with
   |pure t aa hd k=>
    refine Oper.wp_mono_Q (Oper.wp_mono ?_ (aa κ M ν a w σ.B (fun _ h=>h) (h4.on o) h5))
    rintro a' w' ⟨v,M',rfl,q,hr,u⟩
    exact a5u all hQ os _ _ w' k (a6m h1 h2 h3 (h4.mono q.1) q (a1j hd) hr u h6)
   |eff t B' aa hd k=>
    refine Oper.wp_mono_Q (Oper.wp_mono ?_ (aa κ M ν a w (h4.on o) h5))
    rintro a' w' ⟨v,M',rfl,q,hr,u⟩
    exact a5u all hQ os _ _ w' k (a6m h1 h2 h3 (h4.mono q.1) q (a1j hd) hr u h6)
   |gen j t B' aa hj hf hd k=>
    refine Oper.wp_mono_Q (Oper.wp_mono ?_ (aa κ M ν a w (h4.on o) h5))
    rintro a' w' ⟨v,M',ν',rfl,q,hν,hr,u⟩
    exact a5u all hQ os _ _ w' k (a6m h1 h2 h3 ((h4.fresh hf hν).mono q.1) q (a1j hd) hr u (fun i hi=>by rw[hν i (by omega)];exact h6 i hi))
   |genx js t B' aa hj hf hd k=>
    refine Oper.wp_mono_Q (Oper.wp_mono ?_ (aa κ M ν a w (h4.on o) h5))
    rintro a' w' ⟨v,M',ν',rfl,q,hν,hr,u⟩
    exact a5u all hQ os _ _ w' k (a6m h1 h2 h3 ((h4.freshL hf hν).mono q.1) q (a1j hd) hr u (fun i hi=>by rw[hν i (fun hm=>by have:=hj i hm;omega)];exact h6 i hi))
  ·rw[hw]
   have:=a6m (t:=a0H) (v:=undef) (dst:=o.dst) h1 h2 h3 h4 (Mem.ext.refl κ M) (a1j hd) (by simp[a0H,T.rep,Cell.rep,C.rep]) h5 h6
   exact a5u all hQ os _ _ w hx this
theorem AWP.region_seq {id:Nat} {q:List Oper} (h:∀ K:AS→Prop,(∀ σ',Q .normal σ'→K σ')→a1T P n q q σ K):AWP P n (.region id q.toArray false) σ Q:=by
  intro κ M0 a w hs
  refine wp_region_lit ?_
  exact a5u q (fun a w σ' s k=>⟨σ',s,k⟩) q σ a w (h _ fun _ k=>k) hs
def a9E (o:Oper):Bool:=
  match o.op with
  | .call { callee:= .value _,args:=_,argTypes:=_ }=>true
  | .store .. =>true
  |_=>false
inductive ParO (P:Program) (n:Nat) (o:Oper) (fixB:Bx) (env:Env) (B:Bx) (K:T→Bx→Prop):Prop
  |pure (t:T) (h:OpP P o env fixB t) (hd:a5t n o=true) (k:K t B)
  |eff (t:T) (B':Bx) (he:a9E o=true) (hx:∀ x∈fixB,x∈B') (h:OpE P o env B t B') (hd:a5t n o=true) (k:K t B')
def a9F (P:Program) (n:Nat) (all:List Oper) (fixB:Bx):List Oper→Env→Bx→(Env→Bx→Prop)→Prop
 |[],env,B,K=>K env B
 |o::os,env,B,K=>a08 all env o (ParO P n o fixB env B fun t B'=>a9F P n all fixB os (a15 env o.dst t) B' K)
  (a5t n o=true∧a9F P n all fixB os (a15 env o.dst a0H) B K)
def c4D (P:Program) (n:Nat) (all:List Oper) (FS:Bx→Prop) (o:Oper) (env:Env) (b:Bx) (t:T) (b':Bx) (e:Bool):Prop:=
  a5t n o=true∧
  ((a08 all env o True False∧((e=false∧(∀ B0,FS B0→OpP P o env B0 t)∧b'=b)∨(e=true∧a9E o=true∧OpE P o env b t b')))∨
   (a08 all env o False True∧t=a0H∧b'=b∧e=false))
def b2T (P:Program) (n:Nat) (all:List Oper) (fixB:Bx) (o:Oper) (env:Env) (b:Bx) (t:T) (b':Bx) (e:Bool):Prop:=
  a5t n o=true∧
  ((a08 all env o True False∧((e=false∧OpP P o env fixB t∧b'=b)∨(e=true∧a9E o=true∧OpE P o env b t b')))∨
   (a08 all env o False True∧t=a0H∧b'=b∧e=false))
def a1G (l:List Oper) (t:Nat→T) (X:Nat→Bool) (env:Env):Nat→Env
  |0=>env
  |i+1=>bif X i then a15 (a1G l t X env i) ((l[i]?).bind (·.dst)) (t i) else a1G l t X env i
theorem a17 (o:Oper) (l:List Oper) (t:Nat→T) (env:Env):∀ i,
  a1G (o::l) t (fun _=>true) env (i+1)=a1G l (fun j=>t (j+1)) (fun _=>true) (a15 env o.dst (t 0)) i
 |0=>rfl
 |i+1=>by
  have ih:=a17 o l t env i
  rw[a1G,ih]
  simp[a1G]
theorem a3c {all:List Oper} {env:Env} {o:Oper} {X Y:Prop} (h:a08 all env o X Y):(a08 all env o True False∧X)∨(a08 all env o False True∧Y):=by
 unfold a08 at*
 cases hg:o.guard with
 |none=>rw[hg] at h;exact .inl ⟨trivial,h⟩
 |some p=>
  obtain⟨j,q⟩:=p
  rw[hg] at h
  simp only[] at h ⊢
  split at h
  ·rename_i b hb
   cases u:(b==q)<;>rw[u] at h
   ·exact .inr ⟨trivial,h⟩
   ·exact .inl ⟨trivial,h⟩
  ·exact .inr ⟨trivial,h⟩
  ·exact h.elim
theorem a3q (m j:Nat):(Array.replicate m false).getD j false=false:=by
  simp only[zd3,Array.getElem?_replicate]
  split<;>rfl
theorem b31 (all:List Oper) (fixB:Bx) (K:Env→Bx→Prop):∀ (l:List Oper) (env:Env) (B:Bx),(∀ x∈fixB,x∈B)→a9F P n all fixB l env B K→
  ∃ (t:Nat→T) (b:Nat→Bx) (e:Nat→Bool),b 0=B∧(∀ i o,l[i]?= some o→b2T P n all fixB o (a1G l t (fun _=>true) env i) (b i) (t i) (b (i+1)) (e i))∧
   (∀ i,i≤l.length→∀ x∈fixB,x∈b i)∧K (a1G l t (fun _=>true) env l.length) (b l.length)
 |[],env,B,hB,h=>⟨fun _=>a0H,fun _=>B,fun _=>false,rfl,fun i o ho=>by simp at ho,fun i _=>hB,h⟩
 |o::os,env,B,hB,h=>by
  have step:∃ (t0:T) (B':Bx) (e0:Bool),b2T P n all fixB o env B t0 B' e0∧(∀ x∈fixB,x∈B')∧a9F P n all fixB os (a15 env o.dst t0) B' K:=by
   rcases a3c h with⟨hg,hx⟩|⟨hg,hd,hx⟩
   ·cases hx with
    |pure t aa hd k=>exact⟨t,B,false,⟨hd, .inl ⟨hg, .inl ⟨rfl,aa,rfl⟩⟩⟩,hB,k⟩
    |eff t B' he q aa hd k=>exact⟨t,B',true,⟨hd, .inl ⟨hg, .inr ⟨rfl,he,aa⟩⟩⟩,q,k⟩
   ·exact⟨a0H,B,false,⟨hd, .inr ⟨hg,rfl,rfl,rfl⟩⟩,hB,hx⟩
  obtain⟨t0,B',e0,u,q,hk⟩:=step
  obtain⟨t,b,e,ab,hs,hf,hK⟩:=b31 all fixB K os _ B' q hk
  refine⟨fun i=>match i with|0=>t0|i+1=>t i,fun i=>match i with|0=>B|i+1=>b i,fun i=>match i with|0=>e0|i+1=>e i,rfl,?_,?_,?_⟩
  ·intro i o' ho
   cases i with
   |zero=>simp at ho;subst ho;rw[← ab] at u;exact u
   |succ i=>
    rw[a17]
    exact hs i o' (by simpa using ho)
  ·intro i hi
   cases i with
   |zero=>exact hB
   |succ i=>exact hf i (by simpa using hi)
  ·rw[List.length_cons,a17];exact hK
def xs (q:Array Bool) (i:Nat):Bool:=q.getD i false
theorem a06 (env:Env) (dst:Option Tmp) (t:T) (k:Nat):(a15 env dst t).lookup k=if dst=some k then some t else env.lookup k:=by
 cases dst with
 |none=>simp[a15]
 |some d=>
  simp only[a15,List.lookup_cons]
  by_cases h:k=d
  ·subst h;simp
  ·have:(k==d)=false:=by simpa using h
   rw[this]
   simp[Ne.symm h]
theorem a1W (l:List Oper) (t:Nat→T) (X:Nat→Bool) (env:Env) (d i:Nat):∀ m,i≤m→(∀ j o,i≤j→j<m→l[j]?= some o→o.dst=some d→X j=false)→
    (a1G l t X env m).lookup d=(a1G l t X env i).lookup d
  |0,h,_=>by have:i=0:=by omega
             subst this;rfl
  |m+1,h,hw=>by
   by_cases hi:i=m+1
   · subst hi;rfl
   · have ih:=a1W l t X env d i m (by omega) (fun j o h1 h2=>hw j o h1 (by omega))
     rw[a1G]
     cases hx:X m with
     |false=>simpa using ih
     |true=>
      simp only[zaa,a06]
      rw[za5,ih]
      intro e
      obtain⟨o,ho,hd⟩:=zca.1 e
      have:=hw m o (by omega) (by omega) ho hd
      rw[hx] at this;cases this
theorem a1f (l:List Oper) (t:Nat→T) (X Y:Nat→Bool) (env:Env) (d:Nat):∀ m,(∀ j o,j<m→l[j]?= some o→o.dst=some d→X j=Y j)→
  (a1G l t X env m).lookup d=(a1G l t Y env m).lookup d
 |0,_=>rfl
 |m+1,hw=>by
  have ih:=a1f l t X Y env d m (fun j o h=>hw j o (by omega))
  rw[a1G,a1G]
  by_cases e:(l[m]?).bind (·.dst)=some d
  ·obtain⟨o,ho,hd⟩:=zca.1 e
   rw[← hw m o (by omega) ho hd]
   cases hx:X m
   ·simpa using ih
   ·simp[a06,e]
  ·cases hx:X m<;>cases hy:Y m<;>simp[a06,e,ih]
def b2U (l:List Oper):Prop:=∀ i j oi oj,i<j→l[i]?= some oi→l[j]?= some oj→
  (∃ e∈oj.after,Region.binds .any e=true∧e.on=i)∨oi.apart l.toArray oj=true
def b9w (l:List Oper):Prop:=∀ j oj,l[j]?= some oj→∀ e∈oj.after,Region.binds .any e=true→e.on<j
theorem b6Z (u:Array Oper):∀ (fuel k:Nat) (q:Array Bool),q.size=u.size→fuel+k=u.size→(∀ j,j<u.size→(q.getD j false=true↔j<k))→Region.lexFrom .any u fuel k q=true→
  (∀ j oj,k≤j→u[j]?= some oj→∀ e∈oj.after,Region.binds .any e=true→e.on<j)∧
  (∀ i j oi oj,k≤i→i<j→u[i]?= some oi→u[j]?= some oj→(∃ e∈oj.after,Region.binds .any e=true∧e.on=i)∨oi.apart u oj=true)
 |0,k,q,_,hk,_,_=>by
  have:k=u.size:=by omega
  subst this
  refine⟨fun j oj h1 h2=>?_,fun i j oi oj h1 h2 h3 h4=>?_⟩
  ·have:=(zbi.1 h2).1;omega
  ·have:=(zbi.1 h3).1;omega
 |fuel+1,k,q,hsz,hk,hl,h=>by
  simp only[Region.lexFrom,zag] at h
  obtain⟨⟨hr,hf⟩,ai⟩:=h
  have ad:k<u.size:=by omega
  have ih:=b6Z u fuel (k+1) (q.setIfInBounds k true) (by simpa using hsz) (by omega) (fun j hj=>by
   by_cases aa:k=j
   ·subst aa;simp[hsz,ad]
   ·rw[getD_set_ne false aa,hl j hj];omega) ai
  have ab:=mem_ready.1 (zc1.1 hr)
  refine⟨fun j oj h1 h2 e he hb=>?_,fun i j oi oj h1 h2 h3 h4=>?_⟩
  ·by_cases aa:j=k
   ·subst aa
    obtain⟨_,o,ho,af⟩:=ab
    rw[h2] at ho
    cases ho
    have ht:=af e he hb
    by_cases ak:e.on<u.size
    ·exact(hl _ ak).1 ht
    ·exfalso;simp[Array.getElem?_eq_none (show q.size≤e.on by omega)] at ht
   ·exact ih.1 j oj (by omega) h2 e he hb
  ·by_cases ah:i=k
   ·subst ah
    by_cases ae:∃ e∈oj.after,Region.binds .any e=true∧e.on=i
    ·exact .inl ae
    ·refine .inr (Region.free_spec h3 hf j oj h4 (by omega) ?_ (fun e he hb al=>ae ⟨e,he,hb,al⟩))
     have aj:=(zbi.1 h4).1
     have h0:¬ q.getD j false=true:=fun hc=>by have:=(hl j aj).1 hc;omega
     have ag:j<q.size:=by omega
     simp[ag] at h0 ⊢
     exact h0
   ·exact ih.2 i j oi oj (by omega) h2 h3 h4
theorem a4J {l:List Oper} (h:Region.lexB .any l.toArray=true):b9w l∧b2U l∧Region.noSelect l.toArray=true:=by
  simp only[Region.lexB,zag] at h
  have:=b6Z l.toArray l.toArray.size 0 (Array.replicate l.toArray.size false) (by simp) (by simp) (fun j hj=>by rw[a3q];simp) h.2
  exact⟨fun j oj hj=>this.1 j oj (by omega) (by simpa using hj),fun i j oi oj q hi hj=>this.2 i j oi oj (by omega) q (by simpa using hi) (by simpa using hj),h.1⟩
def a2g (l:List Oper) (q:Array Bool):Prop:=∀ j oj,l[j]?= some oj→q.getD j false=true→∀ e∈oj.after,Region.binds .any e=true→q.getD e.on false=true
structure Mid (κ:Kap) (M0:Mem) (n:Nat) (l:List Oper) (t:Nat→T) (b:Nat→Bx) (e:Nat→Bool) (env0:Env) (listed:Array Bool) (a:Act) (w:World):Prop where
 size:listed.size=l.length
 closed:a2g l listed
 st:∃ M ν m,M0.ext κ M∧a.tmps.size=n∧a.defers=[]∧a2r M ν a.tmps (a1G l t (xs listed) env0 l.length)∧m≤l.length∧
  (∀ i,i<l.length→e i=true→(listed.getD i false=true↔i<m))∧Sat κ M ν (b m) w∧∀ k,pin≤k→ν k=κ.nu k
theorem a1X {all:List Oper} {env:Env} {o:Oper} {M:Mem} {ν:Nu} {a:Act} (h:a08 all env o True False)
  (he:∀ g q d t,o.guard=some (g,q)→(all[g]?).bind (·.dst)=some d→env.lookup d=some t→t.rep M ν (a.tmps.getD d undef)):Region.wanted o (yielded all.toArray a.tmps)=true:=by
 unfold a08 at h
 split at h
 ·rename_i hg;simp[Region.wanted,hg]
 ·rename_i j q hg
  split at h
  ·rename_i b hb
   obtain⟨d,hd,hl⟩:=zca.1 hb
   have hr:=he j q d _ hg hd hl
   simp only[T.rep,Cell.rep,C.rep] at hr
   have hy:yielded all.toArray a.tmps j=some b:=by
    unfold yielded
    have:(all.toArray[j]?).bind (·.dst)=some d:=by simpa using hd
    rw[this]
    by_cases u:d<a.tmps.size
    ·have:a.tmps[d]?= some (.bool b):=by
      simp[u] at hr
      simp[u,hr]
     simp[this]
    ·simp[zdm u] at hr
     simp[undef] at hr
   cases aa:(b==q)<;>rw[aa] at h
   ·exact h.elim
   ·have:b=q:=by simpa using aa
    simp[Region.wanted,hg,hy,this]
  ·exact h.elim
  ·exact h.elim
theorem a3J {all:List Oper} {env:Env} {o:Oper} {M:Mem} {ν:Nu} {a:Act} (h:a08 all env o False True)
  (he:∀ g q d t,o.guard=some (g,q)→(all[g]?).bind (·.dst)=some d→env.lookup d=some t→t.rep M ν (a.tmps.getD d undef)):Region.wanted o (yielded all.toArray a.tmps)=false:=by
 unfold a08 at h
 split at h
 ·exact h.elim
 ·rename_i j q hg
  split at h
  ·rename_i b hb
   obtain⟨d,hd,hl⟩:=zca.1 hb
   have hr:=he j q d _ hg hd hl
   simp only[T.rep,Cell.rep,C.rep] at hr
   have hy:yielded all.toArray a.tmps j=some b:=by
    unfold yielded
    have:(all.toArray[j]?).bind (·.dst)=some d:=by simpa using hd
    rw[this]
    by_cases u:d<a.tmps.size
    ·have:a.tmps[d]?= some (.bool b):=by
      simp[u] at hr
      simp[u,hr]
     simp[this]
    ·simp[zdm u] at hr
     simp[undef] at hr
   cases aa:(b==q)<;>rw[aa] at h
   ·simp[Region.wanted,hg,hy];simpa using aa
   ·exact h.elim
  ·rename_i hb
   obtain⟨d,hd,hl⟩:=zca.1 hb
   have hr:=he j q d _ hg hd hl
   simp only[T.rep] at hr
   simp[Region.wanted,hg,b1R hd hr]
  ·exact h.elim
theorem a6B {b:Nat→Bx} {e:Nat→Bool} {l:List Oper} (hb:∀ i,i<l.length→e i=false→b (i+1)=b i) (m:Nat):∀ i,m≤i→i≤l.length→(∀ j,m≤j→j<i→e j=false)→b i=b m
  |0,h,_,_=>by have:m=0:=by omega
               subst this;rfl
  |i+1,h,hl,hn=>by
   by_cases hm:m=i+1
   · subst hm;rfl
   · rw[hb i (by omega) (hn i (by omega) (by omega))]
     exact a6B hb m i (by omega) (by omega) (fun j h1 h2=>hn j h1 (by omega))
theorem a4A {q:Array Oper} {o:Oper} {d:Nat} (h:Operand.tmp d∈o.op.operands):d∈o.looksAt q:=
  zb7 _ (List.mem_filterMap.2 ⟨.tmp d,by simpa using h,rfl⟩)
theorem a2J {l:List Oper} {o:Oper} {g d:Nat} {q:Bool} (h:o.guard=some (g,q)) (hd:(l[g]?).bind (·.dst)=some d):d∈o.looksAt l.toArray:=by
  refine zc2 _ ?_
  have:((l.toArray[g]?).bind (·.dst))=some d:=by simpa using hd
  rw[h]
  simp only[this]
  simp
def c4E (l:List Oper) (e:Nat→Bool):Prop:=∀ q:Array Bool,a2g l q→∀ i j,i<j→j<l.length→e i=true→e j=true→q.getD j false=true→q.getD i false=true
theorem b8j {κ:Kap} {M0:Mem} {l:List Oper} {FS:Bx→Prop} {t:Nat→T} {b:Nat→Bx} {e:Nat→Bool} {env0:Env} {Q':Exit→Act→World→Prop}
  (bj:b9w l) (aj:b2U l) (be:c4E l e)
  (hs:∀ i o,l[i]?= some o→c4D P n l FS o (a1G l t (fun _=>true) env0 i) (b i) (t i) (b (i+1)) (e i)) (hf:∀ i,i≤l.length→FS (b i))
  (hQ:∀ a w,St κ M0 n ⟨a1G l t (fun _=>true) env0 l.length,b l.length⟩ a w→Q' .normal a w):
  ∀ (fuel:Nat) (q:Array Bool) (a:Act) (w:World),((List.range l.length).filter fun i=>!q.getD i false).length=fuel→Mid κ M0 n l t b e env0 q a w→
   wpAny P .any l.toArray Q' fuel q a w:=by
 have bq:∀ i,i<l.length→e i=false→b (i+1)=b i:=by
  intro i hi he
  rcases (hs i l[i] (by simp[hi])).2 with⟨_,⟨_,_,h⟩|⟨h,_⟩⟩|⟨_,_,h,_⟩
  ·exact h
  ·rw[he] at h;cases h
  ·exact h
 -- an operation that is not done, all before it done, is ready
 have bi:∀ (q:Array Bool),q.size=l.length→Region.ready .any l.toArray q=[]→∀ i,i<l.length→q.getD i false=true:=by
  intro q bm hr i
  induction i using Nat.strongRecOn with
  |_ i ih=>
   intro hi
   cases hc:q.getD i false with
   |true=>rfl
   |false=>
    exfalso
    have:i∈Region.ready .any l.toArray q:=by
     rw[mem_ready]
     refine⟨?_,l[i],by simp[hi],fun e' ae af=>?_⟩
     ·have:i<q.size:=by omega
      simp[this] at hc ⊢
      exact hc
     ·have:=bj i l[i] (by simp[hi]) e' ae af
      exact ih e'.on this (by omega)
    rw[hr] at this
    cases this
 have bb:∀ (q:Array Bool) (a:Act) (w:World),Mid κ M0 n l t b e env0 q a w→(∀ i,i<l.length→q.getD i false=true)→Q' .normal a w:=by
  intro q a w hm aa
  obtain⟨M,ν,m,h1,h2,h3,h4,h5,h6,h7,h8⟩:=hm.st
  refine hQ a w ⟨M,ν,h1,h2,h3,?_,?_⟩
  ·intro d u hu
   refine h4 d u ?_
   rw[a1f l t (xs q) (fun _=>true) env0 d l.length (fun j o hj _ _=>aa j hj)]
   exact hu
  ·have:b l.length=b m:=a6B bq m l.length h5 (zax _) (fun j bz a8=>by
    cases hj:e j with
    |false=>rfl
    |true=>have:=(h6 j a8 hj).1 (aa j a8);omega)
   simp only[this]
   exact⟨h7,h8⟩
 intro fuel
 induction fuel with
 |zero=>
  intro q a w ax hm
  have aa:∀ i,i<l.length→q.getD i false=true:=by
   intro i hi
   cases hc:q.getD i false with
   |true=>rfl
   |false=>
    exfalso
    have:i∈(List.range l.length).filter fun i=>!q.getD i false:=by
     rw[zc3];exact⟨by simpa using hi,by simp only[hc];rfl⟩
    rw[zbk.1 ax] at this
    cases this
  refine⟨?_,bb q a w hm aa⟩
  cases hr:Region.ready .any l.toArray q with
  |nil=>rfl
  |cons x b4=>
   exfalso
   have hx:x∈Region.ready .any l.toArray q:=by rw[hr];simp
   obtain⟨h0,o,ho,_⟩:=mem_ready.1 hx
   have bn:x<l.length:=by have:=(zbi.1 ho).1;simpa using this
   have:=aa x bn
   have bm:x<q.size:=by rw[hm.size];exact bn
   simp[bm] at h0 this
   rw[h0] at this;cases this
 |succ fuel ih=>
  intro q a w ax hm
  refine⟨fun hr=>bb q a w hm (bi q hm.size hr),fun i hi=>?_⟩
  obtain⟨h0,oi,bh,aa⟩:=mem_ready.1 hi
  have a2:i<l.length:=by have:=(zbi.1 bh).1;simpa using this
  have ab:l[i]?= some oi:=by simpa using bh
  have ak:i<q.size:=by rw[hm.size];exact a2
  have av:q.getD i false=false:=by simp[ak] at h0 ⊢; exact h0
  obtain⟨M,ν,m,h1,h2,h3,h4,h5,h6,h7,h8⟩:=hm.st
  obtain⟨hd,bf⟩:=hs i oi ab
  -- the operands stand as in the order of the text
  have ba:∀ d,d∈oi.looksAt l.toArray→(a1G l t (xs q) env0 l.length).lookup d=(a1G l t (fun _=>true) env0 i).lookup d:=by
   intro d bp
   rw[a1W l t (xs q) env0 d i l.length (by omega) ?_,a1f l t (xs q) (fun _=>true) env0 d i ?_]
   ·intro j o hj ho aq
    rcases aj j i o oi hj ho ab with⟨e',ae,af,an⟩|az
    ·exact an▸aa e' ae af
    ·exact absurd bp ((Oper.apart_spec az).1 d aq)
   ·intro j o hj bt ho aq
    by_cases ap:i=j
    ·subst ap;exact av
    ·cases bg:xs q j with
     |false=>rfl
     |true=>
      rcases aj i j oi o (by omega) ab ho with⟨e',ae,af,an⟩|az
      ·have:=hm.closed j o ho bg e' ae af
       rw[an,av] at this;cases this
      ·exact absurd bp ((Oper.apart_spec az).2.2 d aq)
  have al:a2g l (q.setIfInBounds i true):=by
   intro j oj hj hx e' ae af
   by_cases ap:i=j
   ·subst ap
    rw[ab] at hj;cases hj
    exact getD_set_true (aa e' ae af)
   ·rw[getD_set_ne false ap] at hx
    exact getD_set_true (hm.closed j oj hj hx e' ae af)
  have ai:((List.range l.length).filter fun j=>!(q.setIfInBounds i true).getD j false).length=fuel:=by
   have a7:∀ r:List Nat,r.Nodup→i∈r→(r.filter fun j=>!q.getD j false).length=(r.filter fun j=>!(q.setIfInBounds i true).getD j false).length+1:=by
    intro r
    induction r with
    |nil=>intro _ h;cases h
    |cons y r b0=>
     intro a6 ar
     simp only[zbr] at a6
     have ad:(q.setIfInBounds i true).getD i false=true:=by simp[ak]
     rcases zal.1 ar with rfl|ar
     ·have:(r.filter fun j=>!q.getD j false)=(r.filter fun j=>!(q.setIfInBounds i true).getD j false):=by
       apply List.filter_congr
       intro j hj
       have ag:i≠j:=fun h=>a6.1 (h▸hj)
       rw[getD_set_ne false ag]
      rw[zcn,zcn,av,ad,this]
      simp
     ·have ag:i≠y:=fun h=>a6.1 (h▸ar)
      have b2:=b0 a6.2 ar
      rw[zcn,zcn,getD_set_ne false ag]
      cases q.getD y false<;>simp only[zat,zar,za9,za2,zbs,List.length_cons]<;>omega
   have:=a7 (List.range l.length) List.nodup_range (by simpa using a2)
   omega
  -- after the operation
  have after:∀ (M':Mem) (v:Value) (w':World) (m':Nat),M.ext κ M'→(t i).rep M' ν v→m'≤l.length→
    (∀ j,j<l.length→e j=true→((q.setIfInBounds i true).getD j false=true↔j<m'))→Sat κ M' ν (b m') w'→
    Mid κ M0 n l t b e env0 (q.setIfInBounds i true) (a.put oi.dst v) w':=by
   intro M' v w' m' au hr bx bw ao
   refine⟨by simpa using hm.size,al,M',ν,m',h1.trans au,by rw[Act.put_size];exact h2,by rw[Act.put_defers'];exact h3,?_,bx,bw,ao,h8⟩
   have bl:=a2r.put (df:=a.defers) (h4.mono au.1) (dst:=oi.dst) (v:=v) (t:=t i) (fun d he=>by rw[h2];exact a1j hd d he) hr
   intro k u hu
   refine bl k u ?_
   rw[a06]
   by_cases hk:oi.dst=some k
   ·rw[zaz hk]
    -- nobody behind i that writes k is done
    have e1:=a1W l t (xs (q.setIfInBounds i true)) env0 k (i+1) l.length (by omega) (fun j o hj bt ho aq=>by
     cases bg:xs (q.setIfInBounds i true) j with
     |false=>rfl
     |true=>
      have ag:i≠j:=by omega
      have br:q.getD j false=true:=by rw[← getD_set_ne false ag];exact bg
      rcases aj i j oi o (by omega) ab ho with⟨e',ae,af,an⟩|az
      ·have:=hm.closed j o ho br e' ae af
       rw[an,av] at this;cases this
      ·exact absurd aq ((Oper.apart_spec az).2.1 k hk))
    rw[e1] at hu
    have ad:xs (q.setIfInBounds i true) i=true:=by simp[xs,ak]
    rw[a1G,ad] at hu
    simp only[zaa,a06,ab,Option.bind_some,hk,za9] at hu
    exact hu
   ·rw[za5 hk]
    have e2:=a1f l t (xs (q.setIfInBounds i true)) (xs q) env0 k l.length (fun j o hj ho aq=>by
     have ag:i≠j:=fun h=>by subst h;rw[ab] at ho;cases ho;exact hk aq
     exact getD_set_ne false ag)
    rw[← e2];exact hu
  have an:a3Z M ν a (a1G l t (fun _=>true) env0 i) oi:=by
   intro d u bu hu
   refine h4 d u ?_
   rw[ba d (a4A bu)];exact hu
  have a1:∀ g bd d u,oi.guard=some (g,bd)→(l[g]?).bind (·.dst)=some d→(a1G l t (fun _=>true) env0 i).lookup d=some u→u.rep M ν (a.tmps.getD d undef):=by
   intro g bd d u hg a1 hu
   refine h4 d u ?_
   rw[ba d (a2J hg a1)];exact hu
  have aw:e i=false→∀ j,j<l.length→e j=true→((q.setIfInBounds i true).getD j false=true↔j<m):=by
   intro ah j hj am
   have ag:i≠j:=fun h=>by subst h;rw[ah] at am;cases am
   rw[getD_set_ne false ag];exact h6 j hj am
  unfold wpOp
  rw[bh]
  simp only[]
  rcases bf with⟨hg,⟨ah,bk,b1⟩|⟨ah,b3,bk⟩⟩|⟨hg,ht,b1,ah⟩
  ·rw[zaz (a1X hg a1)]
   left
   refine Oper.wp_mono_Q (Oper.wp_mono ?_ (bk _ (hf m h5) κ M ν a w (b m) (fun _ hx=>hx) an h7))
   rintro a' w' ⟨v,M',rfl,au,hr,ao⟩
   exact ih _ _ _ ai (after M' v w' m au hr h5 (aw ah) ao)
  ·rw[zaz (a1X hg a1)]
   left
   -- m and i: no effect between them
   have bv:m≤i:=by
    rcases zbz i m with h|h
    ·have:=(h6 i a2 ah).2 h;rw[av] at this;cases this
    ·exact h
   have bc:∀ j,j<i→e j=true→q.getD j false=true:=by
    intro j hj am
    have ad:(q.setIfInBounds i true).getD i false=true:=by simp[ak]
    have:=be _ al j i hj a2 am ah ad
    rwa[getD_set_ne false (by omega)] at this
   have bs:b i=b m:=a6B bq m i bv (by omega) (fun j bz a8=>by
    cases hj:e j with
    |false=>rfl
    |true=>have:=(h6 j (by omega) hj).1 (bc j a8 hj);omega)
   refine Oper.wp_mono_Q (Oper.wp_mono ?_ (bk κ M ν a w an (by rw[bs];exact h7)))
   rintro a' w' ⟨v,M',rfl,au,hr,ao⟩
   refine ih _ _ _ ai (after M' v w' (i+1) au hr a2 (fun j hj am=>?_) ao)
   by_cases ap:i=j
   ·subst ap;simp[ak]
   ·rw[getD_set_ne false ap]
    constructor
    ·intro hx
     rcases zbz i j with h|h
     ·have:=be _ hm.closed i j h hj ah am hx
      rw[av] at this;cases this
     ·omega
    ·intro hx
     exact bc j (by omega) am
  ·rw[a3J hg a1]
   simp only[zbs,za2]
   refine ih _ _ _ ai (after M undef w m (Mem.ext.refl κ M) (by rw[ht];simp[a0H,T.rep,Cell.rep,C.rep]) h5 (aw ah) h7)
theorem OpP.mono_B {o:Oper} {env:Env} {B B0:Bx} {t:T} (h:OpP P o env B t) (hs:∀ x∈B,x∈B0):OpP P o env B0 t:=fun κ M ν a w B' hB=>h κ M ν a w B' fun x hx=>hB x (hs x hx)
theorem b2T.toF {all:List Oper} {fixB:Bx} {o:Oper} {env:Env} {b:Bx} {t:T} {b':Bx} {e:Bool} (h:b2T P n all fixB o env b t b' e):c4D P n all (fun B0=>∀ x∈fixB,x∈B0) o env b t b' e:=
  ⟨h.1,h.2.imp (fun h=>⟨h.1,h.2.imp (fun h=>⟨h.1,fun _ hs=>h.2.1.mono_B hs,h.2.2⟩) id⟩) id⟩
theorem b9C {κ:Kap} {M0:Mem} {l:List Oper} {fixB:Bx} {t:Nat→T} {b:Nat→Bx} {e:Nat→Bool} {env0:Env} {Q':Exit→Act→World→Prop}
  (aa:b9w l) (u:b2U l) (ab:c4E l e)
  (hs:∀ i o,l[i]?= some o→b2T P n l fixB o (a1G l t (fun _=>true) env0 i) (b i) (t i) (b (i+1)) (e i)) (hf:∀ i,i≤l.length→∀ x∈fixB,x∈b i)
  (hQ:∀ a w,St κ M0 n ⟨a1G l t (fun _=>true) env0 l.length,b l.length⟩ a w→Q' .normal a w):
  ∀ (fuel:Nat) (q:Array Bool) (a:Act) (w:World),((List.range l.length).filter fun i=>!q.getD i false).length=fuel→Mid κ M0 n l t b e env0 q a w→
   wpAny P .any l.toArray Q' fuel q a w:=b8j aa u ab (fun i o ho=>(hs i o ho).toF) hf hQ
theorem a6C {κ:Kap} {M0:Mem} {l:List Oper} {t:Nat→T} {b:Nat→Bx} {e:Nat→Bool} {a:Act} {w:World} (u:b 0=σ.B) (hs:St κ M0 n σ a w):
  Mid κ M0 n l t b e σ.env (Array.replicate l.length false) a { w with drawn:=w.drawn+1 }:=by
 obtain⟨M,ν,h1,h2,h3,h4,h5,h6⟩:=hs
 have hx:∀ j,xs (Array.replicate l.length false) j=false:=fun j=>a3q _ j
 have q:∀ m,a1G l t (xs (Array.replicate l.length false)) σ.env m=σ.env:=by
  intro m
  induction m with
  |zero=>rfl
  |succ m ih=>rw[a1G,hx];simpa using ih
 refine⟨by simp,fun j oj hj hc=>?_,M,ν,0,h1,h2,h3,?_,zao _,fun i hi he=>?_,?_⟩
 ·have:=hx j;unfold xs at this;rw[this] at hc;cases hc
 ·rw[q];exact h4
 ·have:=hx i;unfold xs at this;rw[this];simp
 ·rw[u]
  exact⟨⟨h5.os,h5.tape,h5.output,zao _,h5.size,h5.unch,h5.fro,fun k r hm=>by
   have:=h5.res k r hm
   cases r<;>exact this,h5.away,h5.inj,h5.nodup⟩,h6⟩
inductive ParP (P:Program) (n:Nat) (o:Oper) (B:Bx) (env:Env) (K:T→Prop):Prop
  |mk (t:T) (h:OpP P o env B t) (hd:a5t n o=true) (k:K t)
def a5W (P:Program) (n:Nat) (all:List Oper) (B:Bx):List Oper→Env→(Env→Prop)→Prop
 |[],env,K=>K env
 |o::os,env,K=>a08 all env o (ParP P n o B env fun t=>a5W P n all B os (a15 env o.dst t) K)
  (a5t n o=true∧a5W P n all B os (a15 env o.dst a0H) K)
theorem a5n (all:List Oper) (B:Bx) (K:Env→Prop):∀ (l:List Oper) (env:Env),a5W P n all B l env K→
  ∃ (t:Nat→T),(∀ i o,l[i]?= some o→b2T P n all B o (a1G l t (fun _=>true) env i) B (t i) B false)∧K (a1G l t (fun _=>true) env l.length)
 |[],env,h=>⟨fun _=>a0H,fun i o ho=>by simp at ho,h⟩
 |o::os,env,h=>by
  have step:∃ (t0:T),b2T P n all B o env B t0 B false∧a5W P n all B os (a15 env o.dst t0) K:=by
   rcases a3c h with⟨hg,hx⟩|⟨hg,hd,hx⟩
   ·cases hx with
    |mk t u hd k=>exact⟨t,⟨hd, .inl ⟨hg, .inl ⟨rfl,u,rfl⟩⟩⟩,k⟩
   ·exact⟨a0H,⟨hd, .inr ⟨hg,rfl,rfl,rfl⟩⟩,hx⟩
  obtain⟨t0,q,hk⟩:=step
  obtain⟨t,hs,hK⟩:=a5n all B K os _ hk
  refine⟨fun i=>match i with|0=>t0|i+1=>t i,?_,?_⟩
  ·intro i o' ho
   cases i with
   |zero=>simp at ho;subst ho;exact q
   |succ i=>
    rw[a17]
    exact hs i o' (by simpa using ho)
  ·rw[List.length_cons,a17];exact hK
theorem AWP.region_pure {id:Nat} {l:List Oper} (hm:P.follows .mixedOrders=true) (aa:Region.lexB .any l.toArray=true)
  (h:∀ K:AS→Prop,(∀ σ',Q .normal σ'→K σ')→a5W P n l σ.B l σ.env (fun env=>K ⟨env,σ.B⟩)):AWP P n (.region id l.toArray true) σ Q:=by
 intro κ M0 a w hs
 obtain⟨u,q,_⟩:=a4J aa
 obtain⟨t,ad,hK⟩:=a5n l σ.B _ l σ.env (h (fun σ'=>Q .normal σ') (fun _ k=>k))
 refine wp_region_any hm ?_
 have ae:l.toArray.size=l.length:=by simp
 rw[ae]
 refine b9C (b:=fun _=>σ.B) (e:=fun _=>false) u q (fun _ _ i j _ _ af=>by cases af) ad (fun _ _ x hx=>hx) (fun a w s=>⟨_,s,hK⟩) l.length _ a _ ?_ (a6C rfl hs)
 have:∀ j,(Array.replicate l.length false).getD j false=false:=fun j=>a3q _ j
 have ab:(List.range l.length).filter (fun i=>!(Array.replicate l.length false).getD i false)=List.range l.length:=by
  rw[zcu]
  intro x _
  simp only[this x,zar]
 rw[ab,zcv]
end Go.Sx
namespace Go.Sx
variable {P:Program}
abbrev I (k:IntKind) (n:Int):T:= .one (.dat (.int k n))
abbrev Bo (b:Bool):T:= .one (.dat (.bool b))
abbrev S (l:List UInt8):T:= .one (.dat (.str l))
def b60:TypeDesc→Bool
  | .struct _| .array _ _=>true
  |_=>false
def szT (P:Program) (t:TypeId):Option Nat:=(P.info? t).map (·.size)
def a1J (P:Program) (t:TypeId):Option Bool:=(P.underlying t).map b60
def a1U (P:Program) (s f:Nat):Option (Nat×Nat×Bool):=
 match P.underlying s with
 |some (.struct fs)=>match fs[f]? with
  |some fd=>match szT P fd.type,a1J P fd.type with
   |some (n+1),some b=>some (fd.offset,n+1,b)
   |_,_=>none
  |none=>none
 |_=>none
def elT (P:Program) (t:TypeId):Option (Nat×Bool):=
 match P.underlying t with
 |some (.slice e)=>match szT P e,a1J P e with
  |some n,some b=>some (n,b)
  |_,_=>none
 |_=>none
def arT (P:Program) (t:TypeId):Option (Nat×Nat×Bool):=
 match P.underlying t with
 |some (.array len e)=>match szT P e,a1J P e with
  |some n,some b=>some (len,n,b)
  |_,_=>none
 |_=>none
inductive Kd where
  |int (k:IntKind)|bool|str|other
  deriving DecidableEq
def kdT (P:Program) (t:TypeId):Option Kd:=
  match P.underlying t with
  |some (.int k)=>some (.int k)
  |some .bool=>some .bool
  |some .string=>some .str
  |some _=>some .other
  |none=>none
theorem a2y {t s:Nat} (h:szT P t=some s) (w:World):(sizeOf t).run P w= .ok s w:=by
 unfold szT at h
 cases hi:P.info? t with
 |none=>simp[hi] at h
 |some i=>
  simp only[hi,Option.map_some,Option.some.injEq] at h
  simp[sizeOf,typeInfo,hi,h]
theorem a7R {t:Nat} {b:Bool} (h:a1J P t=some b) (w:World):(isAgg t).run P w= .ok b w:=by
 unfold a1J at h
 cases hi:P.underlying t with
 |none=>simp[hi] at h
 |some d=>
  simp only[hi,Option.map_some,Option.some.injEq] at h
  subst h
  simp only[isAgg,Sem.run_bind,run_underlying hi,Result.andThen_ok]
  cases d<;>rfl
theorem b32 {s f off n:Nat} {b:Bool} (h:a1U P s f=some (off,n,b)):∃ fs fd,P.underlying s=some (.struct fs)∧fs[f]?= some fd∧fd.offset=off∧szT P fd.type=some n∧a1J P fd.type=some b∧n≠0:=by
 unfold a1U at h
 split at h
 ·rename_i fs hu
  split at h
  ·rename_i fd hf
   split at h
   ·rename_i n' b' h1 h2
    simp only[Option.some.injEq,Prod.mk.injEq] at h
    exact⟨fs,fd,hu,hf,h.1,by rw[h1];exact congrArg some h.2.1,by rw[h2,h.2.2],by omega⟩
   ·cases h
  ·cases h
 ·cases h
theorem a5X {t n:Nat} {b:Bool} (h:elT P t=some (n,b)):∃ e,P.underlying t=some (.slice e)∧szT P e=some n∧a1J P e=some b:=by
 unfold elT at h
 split at h
 ·rename_i e hu
  split at h
  ·rename_i n' b' h1 h2
   simp only[Option.some.injEq,Prod.mk.injEq] at h
   exact⟨e,hu,by rw[h1,h.1],by rw[h2,h.2]⟩
  ·cases h
 ·cases h
theorem b2V {t len n:Nat} {b:Bool} (h:arT P t=some (len,n,b)):∃ e,P.underlying t=some (.array len e)∧szT P e=some n∧a1J P e=some b:=by
 unfold arT at h
 split at h
 ·rename_i q e hu
  split at h
  ·rename_i n' b' h1 h2
   simp only[Option.some.injEq,Prod.mk.injEq] at h
   exact⟨e,by rw[hu,h.1],by rw[h1,h.2.1],by rw[h2,h.2.2]⟩
  ·cases h
 ·cases h
def b33 (P:Program) (ty:TypeId):Value→Option T
  | .int k n=>some (I k n)
  | .bool b=>some (Bo b)
  | .string s=>some (S s.data.toList)
  | .slice none 0 0=>match elT P ty with|some (n,_)=>some (.one (.dat (.nil n)))|none=>none
  | .nilIface=>some (.one (.dat (.err false)))
  |_=>none
def ev (P:Program) (env:Env) (ty:TypeId):Operand→Option T
 | .tmp d=>env.lookup d
 | .const v=>b33 P ty v
 | .func f=>some (.one (.dat (.fn f)))
 | .global g=>match gl.lookup g with
  |some r=>some (.one (.ref r))
  |none=>none
theorem b8k {M:Mem0} {ν:Nu} {ty:TypeId} {v:Value} {t:T} (h:b33 P ty v=some t):t.rep M ν v:=by
 unfold b33 at h
 split at h<;>try(cases h;done)
 ·cases h;simp only[T.rep,Cell.rep,C.rep]
 ·cases h;simp only[T.rep,Cell.rep,C.rep]
 ·rename_i s
  cases h;simp only[T.rep,Cell.rep,C.rep,Array.toArray_toList]
 ·split at h
  ·cases h
   simp only[T.rep,Cell.rep,C.rep]
  ·cases h
 ·cases h;simp only[T.rep,Cell.rep,C.rep,zab]
theorem a0z {M:Mem} {ν:Nu} {a:Act} {env:Env} {o:Oper} {ty:TypeId} {x:Operand} {t:T} (he:a3Z M ν a env o) (hx:x∈o.op.operands) (h:ev P env ty x=some t):
  t.rep M ν (a.eval x):=by
 cases x with
 |tmp d=>exact he d t hx h
 |const v=>exact b8k h
 |func f=>simp only[ev,Option.some.injEq] at h;subst h;simp only[T.rep,Cell.rep,C.rep,Act.eval]
 |global g=>
  simp only[ev] at h
  split at h
  ·rename_i r hr
   cases h
   obtain⟨vs,h1,h2⟩:=M.glo.1 g r hr
   simp only[T.rep,Cell.rep]
   exact⟨g,0,vs,rfl,h1,h2⟩
  ·cases h
theorem OpP.of_run {o:Oper} {env:Env} {B:Bx} {t:T}
  (h:∀ κ M ν a w B',(∀ x∈B,x∈B')→a3Z M ν a env o→Sat κ M ν B' w→
   ∃ v w' M',(execOp a.eval o).run P w= .ok (.value v) w'∧M.ext κ M'∧t.rep M' ν v∧Sat κ M' ν B' w'):OpP P o env B t:=by
 intro κ M ν a w B' hB he hs
 obtain⟨v,w',M',hr,q,ht,u⟩:=h κ M ν a w B' hB he hs
 unfold Oper.wp
 rw[hr]
 exact⟨v,M',rfl,q,ht,u⟩
theorem OpP.of_val {o:Oper} {env:Env} {B:Bx} {t:T}
  (h:∀ κ M ν a w B',(∀ x∈B,x∈B')→a3Z M ν a env o→Sat κ M ν B' w→∃ v,(execOp a.eval o).run P w= .ok (.value v) w∧t.rep M ν v):OpP P o env B t:=
 OpP.of_run fun κ M ν a w B' hB he hs=>let ⟨v,hr,ht⟩:=h κ M ν a w B' hB he hs;⟨v,w,M,hr,Mem.ext.refl κ M,ht,hs⟩
theorem a0S {M:Mem0} {ν:Nu} {k:IntKind} {n:Int} {v:Value}:(I k n).rep M ν v↔v= .int k n:=by simp only[T.rep,Cell.rep,C.rep]
theorem a1q {M:Mem0} {ν:Nu} {b:Bool} {v:Value}:(Bo b).rep M ν v↔v= .bool b:=by simp only[T.rep,Cell.rep,C.rep]
theorem a4i {M:Mem0} {ν:Nu} {l:List UInt8} {v:Value}:(S l).rep M ν v↔v= .string ⟨l.toArray⟩:=by simp only[T.rep,Cell.rep,C.rep]
def b34 (t:Option T) (K:T→Prop):Prop:=
  match t with
  |some t=>K t
  |none=>False
def c2p (c a b:Option T) (K:T→Prop):Prop:=
  match c with
  |some (.one (.dat (.bool c)))=>bif c then b34 a K else b34 b K
  |_=>False
theorem a82 {t:Option T} {K:T→Prop} (h:b34 t K):∃ u,t=some u∧K u:=by
  unfold b34 at h
  split at h
  · exact⟨_,rfl,h⟩
  · exact h.elim
def d0A (op:BinOp) (k k':IntKind) (a b:Int) (K:T→Prop):Prop:=
  match op with
  | .shl=>0≤b∧K (I k (k.wrap (a*2 ^ (min b.toNat k.bits))))
  | .shr=>0≤b∧K (I k (a.fdiv (2 ^ (min b.toNat k.bits))))
  | .add=>k=k'∧K (I k (k.wrap (a+b)))
  | .sub=>k=k'∧K (I k (k.wrap (a-b)))
  | .mul=>k=k'∧K (I k (k.wrap (a*b)))
  | .quo=>k=k'∧b≠0∧K (I k (k.wrap (a.tdiv b)))
  | .rem=>k=k'∧b≠0∧K (I k (a.tmod b))
  | .and=>k=k'∧K (I k (k.wrap (BitVec.ofInt k.bits a &&& BitVec.ofInt k.bits b).toNat))
  | .or=>k=k'∧K (I k (k.wrap (BitVec.ofInt k.bits a ||| BitVec.ofInt k.bits b).toNat))
  | .xor=>k=k'∧K (I k (k.wrap (BitVec.ofInt k.bits a ^^^ BitVec.ofInt k.bits b).toNat))
  | .andNot=>k=k'∧K (I k (k.wrap (BitVec.ofInt k.bits a &&& ~~~ BitVec.ofInt k.bits b).toNat))
  | .eql=>k=k'∧K (Bo (decide (a=b)))
  | .neq=>k=k'∧K (Bo (!decide (a=b)))
  | .lss=>k=k'∧K (Bo (decide (a<b)))
  | .leq=>k=k'∧K (Bo (decide (a≤b)))
  | .gtr=>k=k'∧K (Bo (decide (b<a)))
  | .geq=>k=k'∧K (Bo (decide (b≤a)))
def d0B (op:BinOp) (a b:List UInt8) (K:T→Prop):Prop:=
  match op with
  | .add=>a.length+b.length≤maxLen∧K (S (a++b))
  | .eql=>K (Bo (decide (a=b)))
  | .neq=>K (Bo (!decide (a=b)))
  | .lss=>K (Bo (Op.bytesLess a b))
  | .leq=>K (Bo (Op.bytesLess a b||decide (a=b)))
  | .gtr=>K (Bo (!(Op.bytesLess a b||decide (a=b))))
  | .geq=>K (Bo (!Op.bytesLess a b))
  |_=>False
theorem a8g (op:BinOp) (t:TypeId) (x y:Operand) {a b:Value} (w:World) (ha:a≠ .nilIface) (hb:∀ c,a≠ .agg c):(eqGuard op t x y a b).run P w= .ok () w:=by
  unfold eqGuard
  cases op<;>cases a<;>first|rfl|(exact absurd rfl ha)|(exact absurd rfl (hb _))
theorem c5G (a b:Int):(a==b)=decide (a=b):=rfl
theorem c5H (a b:Int):(a != b)=!decide (a=b):=rfl
theorem c2q {op:BinOp} {k k':IntKind} {a b:Int} {K:T→Prop} (ty:TypeId) (h:d0A op k k' a b K):
  ∃ (t:T) (v:Value),K t∧(∀ M ν,t.rep M ν v)∧∀ w,(binOp op ty (.int k a) (.int k' b)).run P w= .ok v w:=by
 cases op<;>simp only[d0A] at h
 case shl=>exact⟨_,_,h.2,fun M ν=>a0S.2 rfl,fun w=>by simp[binOp,Op.shift,Int.not_lt.2 h.1]⟩
 case shr=>exact⟨_,_,h.2,fun M ν=>a0S.2 rfl,fun w=>by simp[binOp,Op.shift,Int.not_lt.2 h.1]⟩
 case quo=>obtain⟨rfl,h0,h⟩:=h;exact⟨_,_,h,fun M ν=>a0S.2 rfl,fun w=>by simp[binOp,Op.intDiv,h0]⟩
 case rem=>obtain⟨rfl,h0,h⟩:=h;exact⟨_,_,h,fun M ν=>a0S.2 rfl,fun w=>by simp[binOp,Op.intDiv,h0]⟩
 case add=>obtain⟨rfl,h⟩:=h;exact⟨_,_,h,fun M ν=>a0S.2 rfl,fun w=>by simp[binOp,Op.intArith]⟩
 case sub=>obtain⟨rfl,h⟩:=h;exact⟨_,_,h,fun M ν=>a0S.2 rfl,fun w=>by simp[binOp,Op.intArith]⟩
 case mul=>obtain⟨rfl,h⟩:=h;exact⟨_,_,h,fun M ν=>a0S.2 rfl,fun w=>by simp[binOp,Op.intArith]⟩
 case and=>obtain⟨rfl,h⟩:=h;exact⟨_,_,h,fun M ν=>a0S.2 rfl,fun w=>by simp only[binOp,Op.intBits,ne_eq,not_true_eq_false,za2,Sem.run_pure]⟩
 case or=>obtain⟨rfl,h⟩:=h;exact⟨_,_,h,fun M ν=>a0S.2 rfl,fun w=>by simp only[binOp,Op.intBits,ne_eq,not_true_eq_false,za2,Sem.run_pure]⟩
 case xor=>obtain⟨rfl,h⟩:=h;exact⟨_,_,h,fun M ν=>a0S.2 rfl,fun w=>by simp only[binOp,Op.intBits,ne_eq,not_true_eq_false,za2,Sem.run_pure]⟩
 case andNot=>obtain⟨rfl,h⟩:=h;exact⟨_,_,h,fun M ν=>a0S.2 rfl,fun w=>by simp only[binOp,Op.intBits,ne_eq,not_true_eq_false,za2,Sem.run_pure]⟩
 case eql=>obtain⟨rfl,h⟩:=h;exact⟨_,_,h,fun M ν=>a1q.2 rfl,fun w=>by simp only[binOp,Op.intCmp,ne_eq,not_true_eq_false,za2,Sem.run_pure,c5G]⟩
 case neq=>obtain⟨rfl,h⟩:=h;exact⟨_,_,h,fun M ν=>a1q.2 rfl,fun w=>by simp only[binOp,Op.intCmp,ne_eq,not_true_eq_false,za2,Sem.run_pure,c5H]⟩
 case lss=>obtain⟨rfl,h⟩:=h;exact⟨_,_,h,fun M ν=>a1q.2 rfl,fun w=>by simp only[binOp,Op.intCmp,ne_eq,not_true_eq_false,za2,Sem.run_pure]⟩
 case leq=>obtain⟨rfl,h⟩:=h;exact⟨_,_,h,fun M ν=>a1q.2 rfl,fun w=>by simp only[binOp,Op.intCmp,ne_eq,not_true_eq_false,za2,Sem.run_pure]⟩
 case gtr=>obtain⟨rfl,h⟩:=h;exact⟨_,_,h,fun M ν=>a1q.2 rfl,fun w=>by simp only[binOp,Op.intCmp,ne_eq,not_true_eq_false,za2,Sem.run_pure]⟩
 case geq=>obtain⟨rfl,h⟩:=h;exact⟨_,_,h,fun M ν=>a1q.2 rfl,fun w=>by simp only[binOp,Op.intCmp,ne_eq,not_true_eq_false,za2,Sem.run_pure]⟩
theorem a83 (l:List UInt8):(ByteArray.mk l.toArray).size=l.length:=by simp[ByteArray.size]
theorem b9D (a b:List UInt8):(ByteArray.mk a.toArray)++(ByteArray.mk b.toArray)=ByteArray.mk (a++b).toArray:=by
  apply ByteArray.ext
  simp[ByteArray.data_append]
theorem a8h (a b:List UInt8):(a==b)=decide (a=b):=by
  by_cases h:a=b<;>simp[h]
theorem c2r {op:BinOp} {a b:List UInt8} {K:T→Prop} (ty:TypeId) (h:d0B op a b K):
  ∃ (t:T) (v:Value),K t∧(∀ M ν,t.rep M ν v)∧∀ w,(binOp op ty (.string ⟨a.toArray⟩) (.string ⟨b.toArray⟩)).run P w= .ok v w:=by
 cases op<;>simp only[d0B] at h<;>try exact h.elim
 case add=>
  refine⟨_,_,h.2,fun M ν=>a4i.2 rfl,fun w=>?_⟩
  have h1:=h.1
  unfold maxLen at h1
  have:¬ (((ByteArray.mk a.toArray).size+(ByteArray.mk b.toArray).size:Nat):Int)>IntKind.i64.max:=by
   rw[a83,a83]
   show ¬ _>(2 ^ 63-1:Int)
   omega
  simp only[binOp,Op.stringOp,this,za2,Sem.run_pure,b9D]
 case eql=>exact⟨_,_,h,fun M ν=>a1q.2 rfl,fun w=>by simp[binOp,Op.stringOp,a8h]⟩
 case neq=>exact⟨_,_,h,fun M ν=>a1q.2 rfl,fun w=>by simp[binOp,Op.stringOp,a8h]⟩
 case lss=>exact⟨_,_,h,fun M ν=>a1q.2 rfl,fun w=>by simp[binOp,Op.stringOp]⟩
 case leq=>exact⟨_,_,h,fun M ν=>a1q.2 rfl,fun w=>by simp[binOp,Op.stringOp,a8h]⟩
 case gtr=>exact⟨_,_,h,fun M ν=>a1q.2 rfl,fun w=>by simp only[binOp,Op.stringOp,a8h,ByteArray.toList_mk,Sem.run_pure]⟩
 case geq=>exact⟨_,_,h,fun M ν=>a1q.2 rfl,fun w=>by simp[binOp,Op.stringOp]⟩
def d0C (P:Program) (op:BinOp) (ty:TypeId) (x y:Option T) (K:T→Prop):Prop:=
 match x,y with
 |some (.one (.dat (.int k a))),some (.one (.dat (.int k' b)))=>d0A op k k' a b K
 |some (.one (.dat (.str a))),some (.one (.dat (.str b)))=>d0B op a b K
 |some (.one (.dat (.bool a))),some (.one (.dat (.bool b)))=>match op with
  | .eql=>kdT P ty=some .bool∧K (Bo (a==b))
  | .neq=>kdT P ty=some .bool∧K (Bo (!(a==b)))
  |_=>False
 |_,_=>False
theorem c2s {ty:TypeId} (h:kdT P ty=some .bool):P.underlying ty=some .bool:=by
  unfold kdT at h;split at h<;>first|assumption|cases h
theorem c5I {ty:TypeId} {k:IntKind} (h:kdT P ty=some (.int k)):P.underlying ty=some (.int k):=by
  unfold kdT at h;split at h<;>first|(cases h;done)|(simp only[Option.some.injEq,Kd.int.injEq] at h;subst h;assumption)
theorem a5o {ty:TypeId} (h:kdT P ty=some .str):P.underlying ty=some .string:=by
  unfold kdT at h;split at h<;>first|assumption|cases h
theorem a6n (d:Nat) {ty:TypeId} (hu:P.underlying ty=some .bool) (a b:Bool) (w:World):(Op.equalIn (d+1) ty (.bool a) (.bool b)).run P w= .ok (a==b) w:=by
  simp only[Op.equalIn,Sem.run_bind,run_underlying hu,Result.andThen_ok]
  rfl
theorem b0o (d:Nat) {ty:TypeId} (hu:P.underlying ty=some .string) (a b:List UInt8) (w:World):(Op.equalIn (d+1) ty (.string ⟨a.toArray⟩) (.string ⟨b.toArray⟩)).run P w= .ok (decide (a=b)) w:=by
  simp only[Op.equalIn,Sem.run_bind,run_underlying hu,Result.andThen_ok,Sem.run_pure,beq_toListBytes,ByteArray.toList_mk,a8h]
theorem b1I {ty:TypeId} (hu:P.underlying ty=some .bool) (a b:Bool) (w:World):(Op.equal ty (.bool a) (.bool b)).run P w= .ok (a==b) w:=a6n 9999 hu a b w
theorem b8l {op:BinOp} {ty:TypeId} {x y:Operand} {yt:TypeId} {env:Env} {B:Bx} {o:Oper} {K:T→Prop} (ho:o.op= .binOp op ty x y yt)
  (h:d0C P op ty (ev P env ty x) (ev P env yt y) K):∃ t,OpP P o env B t∧K t:=by
 have hx:x∈o.op.operands:=by rw[ho];simp[Op.operands]
 have hy:y∈o.op.operands:=by rw[ho];simp[Op.operands]
 have u:∀ (a:Act) (w:World),(execOp a.eval o).run P w=((eqGuard op ty x y (a.eval x) (a.eval y)).run P w).andThen fun _ w=>((binOp op ty (a.eval x) (a.eval y)).run P w).andThen fun v w=> .ok (.value v) w:=by
  intro a w
  unfold execOp
  rw[ho]
  simp only[Sem.run_bind,Sem.run_pure]
  cases (eqGuard op ty x y (a.eval x) (a.eval y)).run P w<;>rfl
 unfold d0C at h
 split at h
 ·rename_i k a k' b ex ey
  obtain⟨t,v,hk,q,hr⟩:=c2q (P:=P) ty h
  refine⟨t,OpP.of_val fun κ M ν ac w B' hB he hs=>⟨v,?_,q M ν⟩,hk⟩
  have e1:=a0S.1 (a0z he hx ex)
  have e2:=a0S.1 (a0z he hy ey)
  rw[u,a8g op ty x y w (by rw[e1];simp) (by intro c;rw[e1];simp),e1,e2]
  simp only[Result.andThen_ok,hr]
 ·rename_i a b ex ey
  obtain⟨t,v,hk,q,hr⟩:=c2r (P:=P) ty h
  refine⟨t,OpP.of_val fun κ M ν ac w B' hB he hs=>⟨v,?_,q M ν⟩,hk⟩
  have e1:=a4i.1 (a0z he hx ex)
  have e2:=a4i.1 (a0z he hy ey)
  rw[u,a8g op ty x y w (by rw[e1];simp) (by intro c;rw[e1];simp),e1,e2]
  simp only[Result.andThen_ok,hr]
 ·rename_i a b ex ey
  cases op<;>simp only[] at h<;>try exact h.elim
  all_goals
   refine⟨_,OpP.of_val fun κ M ν ac w B' hB he hs=>⟨_,?_,a1q.2 rfl⟩,h.2⟩
   have e1:=a1q.1 (a0z he hx ex)
   have e2:=a1q.1 (a0z he hy ey)
   rw[u,a8g _ ty x y w (by rw[e1];simp) (by intro c;rw[e1];simp),e1,e2]
   have hu:=c2s h.1
   simp only[Result.andThen_ok,binOp,Sem.run_bind,b1I hu,Sem.run_pure]
 ·exact h.elim
def vUn (op:UnOp) (x:Option T) (K:T→Prop):Prop:=
  match op,x with
  | .neg,some (.one (.dat (.int k a)))=>K (I k (k.wrap (0-a)))
  | .not,some (.one (.dat (.bool a)))=>K (Bo (!a))
  |_,_=>False
theorem vUn_sound {op:UnOp} {ty:TypeId} {x:Operand} {env:Env} {B:Bx} {o:Oper} {K:T→Prop} (ho:o.op= .unOp op ty x)
  (h:vUn op (ev P env ty x) K):∃ t,OpP P o env B t∧K t:=by
 have hx:x∈o.op.operands:=by rw[ho];simp[Op.operands]
 unfold vUn at h
 split at h
 ·rename_i k a ex
  refine⟨_,OpP.of_val fun κ M ν ac w B' hB he hs=>⟨_,?_,a0S.2 rfl⟩,h⟩
  have e1:=a0S.1 (a0z he hx ex)
  unfold execOp
  rw[ho]
  simp[e1,Op.unary,Op.intArith]
 ·rename_i a ex
  refine⟨_,OpP.of_val fun κ M ν ac w B' hB he hs=>⟨_,?_,a1q.2 rfl⟩,h⟩
  have e1:=a1q.1 (a0z he hx ex)
  unfold execOp
  rw[ho]
  simp[e1,Op.unary]
 ·exact h.elim
def a1H {α:Type}:Nat→List α→Option (List α×List α)
 |0,l=>some ([],l)
 |n+1,a::l=>match a1H n l with
  |some (x,y)=>some (a::x,y)
  |none=>none
 |_+1,[]=>none
theorem a02 {α:Type}:∀ {n:Nat} {l x y:List α},a1H n l=some (x,y)→l=x++y∧x.length=n
 |0,l,x,y,h=>by simp only[a1H,Option.some.injEq,Prod.mk.injEq] at h;obtain⟨rfl,rfl⟩:=h;exact⟨rfl,rfl⟩
 |n+1,[],x,y,h=>by simp[a1H] at h
 |n+1,a::l,x,y,h=>by
  simp only[a1H] at h
  split at h
  ·rename_i x' y' hc
   simp only[Option.some.injEq,Prod.mk.injEq] at h
   obtain⟨rfl,rfl⟩:=h
   obtain⟨e,hl⟩:=a02 hc
   exact⟨by rw[e];rfl,by simp[hl]⟩
  ·cases h
def a6D:List Cell→Option (List C)
 |[]=>some []
 | .dat c::cs=>match a6D cs with
  |some r=>some (c::r)
  |none=>none
 |_::_=>none
theorem a3K:∀ {cs:List Cell} {r:List C},a6D cs=some r→cs=r.map .dat
 |[],r,h=>by simp only[a6D,Option.some.injEq] at h;subst h;rfl
 |c::cs,r,h=>by
  cases c<;>simp only[a6D] at h<;>try(cases h;done)
  split at h
  ·rename_i r' hr
   simp only[Option.some.injEq] at h
   subst h
   rw[a3K hr];rfl
  ·cases h
def a9W (cs:List Cell):T:=
  match a6D cs with
  |some r=> .st r
  |none=> .agg cs
theorem a6E {M:Mem} {ν:Nu} {cs:List Cell} {a:Array Value} (h:Cell.reps M ν cs a.toList):(a9W cs).rep M ν (.agg a):=by
 unfold a9W
 split
 ·rename_i r hr
  rw[a3K hr] at h
  simp only[T.rep]
  exact⟨a,rfl,Cell.reps_map_c.1 h⟩
 ·simp only[T.rep]
  exact⟨a,rfl,h⟩
theorem At.sub {o:Option Obj} {off:Nat} {v1 v2 v3:List Value} (h:At o off (v1++(v2++v3))):At o (off+v1.length) v2:=by
  obtain⟨c,et,fz,pre,post,e,e2,e3⟩:=h
  exact⟨c,et,fz,pre++v1,v3++post,e,by rw[e2];simp,by simp[e3]⟩
theorem At.cell {w:World} {b off:Nat} {vs:List Value} (h:At (w.heap[b]?) off vs) {j:Nat} {v:Value} (hv:vs[j]?= some v):w.cell? ((⟨b,off,none⟩:Addr).add j)=some v:=by
 obtain⟨c,et,fz,pre,post,e,e2,e3⟩:=h
 have hc:c[off+j]?= some v:=by
  rw[← zb3,e2,← e3,zb0 (by omega),zcg (by
   have:=(zak.1 hv).1;omega)]
  simpa using hv
 unfold Addr.add
 split
 ·rename_i h0;subst h0;simpa [World.cell?, e] using hc
 ·simpa [World.cell?, e] using hc
theorem At.load {w:World} {b off:Nat} {vs:List Value} (h:At (w.heap[b]?) off vs):(loadCells ⟨b,off,none⟩ vs.length).run P w= .ok vs.toArray w:=
  run_loadCells_list w _ vs fun j v hv=>h.cell hv
theorem At.one {w:World} {b off:Nat} {v:Value} {vs:List Value} (h:At (w.heap[b]?) off (v::vs)):(Go.load ⟨b,off,none⟩).run P w= .ok v w:=by
  have:=h.cell (j:=0) (v:=v) (by simp)
  have:w.cell? ⟨b,off,none⟩=some v:=by simpa [Addr.add] using this
  simp[this]
theorem At.of_fro {κ:Kap} {M:Mem} {ν:Nu} {B:Bx} {w:World} (hs:Sat κ M ν B w) {b off:Nat} {vs:List Value} (h:At (M b) off vs):At (w.heap[b]?) off vs:=by
  obtain⟨c,et,fz,pre,post,e,e2,e3⟩:=h
  exact⟨c,et,fz,pre,post,hs.fro _ _ e,e2,e3⟩
theorem At.whole {o:Option Obj} {c:Array Value} {et:TypeId} {fz:Nat×Nat} (h:o=some (.cells c et fz)):At o 0 c.toList:=
  ⟨c,et,fz,[],[],h,by simp,rfl⟩
def a5Y (agg:Bool) (n:Nat) (cs:List Cell) (K:T→Prop):Prop:=
 bif agg then (match a1H n cs with
  |some (x,_)=>K (a9W x)
  |none=>False)
 else (match cs with
  |c::_=>K (.one c)
  |[]=>False)
def a5p (agg:Bool) (n:Nat) (r:List C) (K:T→Prop):Prop:=
 bif agg then (match a1H n r with
  |some (x,_)=>K (.st x)
  |none=>False)
 else (match r with
  |c::_=>K (.one (.dat c))
  |[]=>False)
def b5E (P:Program) (t:TypeId) (B:Bx) (x:Option T) (K:T→Prop):Prop:=
 match szT P t,a1J P t with
 |some n,some agg=>match x with
  |some (.one (.ref r))=>a5p agg n r K
  |some (.one (.ptr k off))=>match B.lookup k with
   |some (.cells cs)=>match a1H off cs with
    |some (_,y)=>a5Y agg n y K
    |none=>False
   |_=>False
  |some (.one (.rp k sz i f))=>match B.lookup k with
   |some (.row sz' rows)=>sz'=sz∧∃ r,rows[i]?= some r∧(match a1H f r with
    |some (_,y)=>a5p agg n y K
    |none=>False)
   |_=>False
  |_=>False
 |_,_=>False
theorem a6F {t n:Nat} {w:World} {b off:Nat} {vs:List Value} (ha:a1J P t=some true) (hn:szT P t=some n) (hl:vs.length=n) (h:At (w.heap[b]?) off vs):
  (loadVar t ⟨b,off,none⟩).run P w= .ok (.agg vs.toArray) w:=by
 subst hl
 simp only[loadVar,Sem.run_bind,a7R ha,Result.andThen_ok,za9,a2y hn,h.load,Sem.run_pure]
theorem a6G {t:Nat} {w:World} {b off:Nat} {v:Value} {vs:List Value} (ha:a1J P t=some false) (h:At (w.heap[b]?) off (v::vs)):
  (loadVar t ⟨b,off,none⟩).run P w= .ok v w:=by
 simp only[loadVar,Sem.run_bind,a7R ha,Result.andThen_ok,zbs,za2,h.one]
theorem b5F {agg:Bool} {n:Nat} {cs:List Cell} {K:T→Prop} (h:a5Y agg n cs K):
  ∃ t,K t∧∀ (ty:TypeId) (M:Mem) (ν:Nu) (w:World) (b off:Nat) (vs:List Value),a1J P ty=some agg→szT P ty=some n→Cell.reps M ν cs vs→At (w.heap[b]?) off vs→
   ∃ v,(loadVar ty ⟨b,off,none⟩).run P w= .ok v w∧t.rep M ν v:=by
 unfold a5Y at h
 cases agg with
 |true=>
  simp only[zaa] at h
  split at h
  ·rename_i x y hc
   obtain⟨e,hl⟩:=a02 hc
   refine⟨_,h,fun ty M ν w b off vs ha hn hr q=>?_⟩
   rw[e] at hr
   obtain⟨v1,v2,e2,h1,h2⟩:=Cell.reps_split hr
   subst e2
   have u:At (w.heap[b]?) off v1:=by
    have:=At.sub (v1:=[]) (v2:=v1) (v3:=v2) (by simpa using q)
    simpa using this
   exact⟨_,a6F ha hn (by rw[Cell.reps_length h1,hl]) u,a6E (by simpa using h1)⟩
  ·exact h.elim
 |false=>
  simp only[zab] at h
  split at h
  ·rename_i c ab
   refine⟨_,h,fun ty M ν w b off vs ha hn hr q=>?_⟩
   simp only[Cell.reps] at hr
   obtain⟨v,aa,e,h1,h2⟩:=hr
   subst e
   exact⟨v,a6G ha q,by simpa only[T.rep] using h1⟩
  ·exact h.elim
theorem b0p {agg:Bool} {n:Nat} {r:List C} {K:T→Prop} (h:a5p agg n r K):
  ∃ t,K t∧∀ (ty:TypeId) (M:Mem) (ν:Nu) (w:World) (b off:Nat) (vs:List Value),a1J P ty=some agg→szT P ty=some n→a0x M r vs→At (w.heap[b]?) off vs→
   ∃ v,(loadVar ty ⟨b,off,none⟩).run P w= .ok v w∧t.rep M ν v:=by
 unfold a5p at h
 cases agg with
 |true=>
  simp only[zaa] at h
  split at h
  ·rename_i x y hc
   obtain⟨e,hl⟩:=a02 hc
   refine⟨_,h,fun ty M ν w b off vs ha hn hr q=>?_⟩
   rw[e] at hr
   obtain⟨v1,v2,e2,h1,h2⟩:=a1l hr
   subst e2
   have u:At (w.heap[b]?) off v1:=by
    have:=At.sub (v1:=[]) (v2:=v1) (v3:=v2) (by simpa using q)
    simpa using this
   refine⟨_,a6F ha hn (by rw[a0E h1,hl]) u,?_⟩
   simp only[T.rep]
   exact⟨_,rfl,by simpa using h1⟩
  ·exact h.elim
 |false=>
  simp only[zab] at h
  split at h
  ·rename_i c ab
   refine⟨_,h,fun ty M ν w b off vs ha hn hr q=>?_⟩
   simp only[a0x] at hr
   obtain⟨v,aa,e,h1,h2⟩:=hr
   subst e
   exact⟨v,a6G ha q,by simpa only[T.rep,Cell.rep] using h1⟩
  ·exact h.elim
theorem a0O {B:Bx} {k:Nat} {r:Res} (h:B.lookup k=some r):(k,r)∈B:=by
 induction B with
 |nil=>simp at h
 |cons p B ih=>
  obtain⟨e,u⟩:=p
  simp only[List.lookup_cons] at h
  by_cases he:k=e
  ·subst he;simp at h;subst h;simp
  ·have:(k==e)=false:=by simpa using he
   rw[this] at h
   exact zas _ (ih h)
theorem b1T {M:Mem} {sz:Nat} {rows:List (List C)} {vs:List Value} {i:Nat} {r:List C} (h:a0q M sz rows vs) (hi:rows[i]?= some r):
  ∃ v1 v2 v3,vs=v1++(v2++v3)∧v1.length=i*sz∧a0x M r v2∧r.length=sz:=by
 have u:=(zak.1 hi).1
 have q:rows=rows.take i++(r::rows.drop (i+1)):=by
  have hr:rows[i]=r:=(zak.1 hi).2
  rw[← hr,← za8 u,zbt]
 rw[q] at h
 obtain⟨v1,aa,e,h1,h2⟩:=a3p h
 simp only[a0q] at h2
 obtain⟨v2,v3,e2,hl,h3,h4⟩:=h2
 refine⟨v1,v2,v3,by rw[e,e2],?_,h3,hl⟩
 rw[a0I h1,zbb,zdn (by omega)]
theorem b35 {t:TypeId} {x:T} {B:Bx} {K:T→Prop} (h:b5E P t B (some x) K):
  ∃ u,K u∧∀ κ M ν w B' v,(∀ x∈B,x∈B')→Sat κ M ν B' w→x.rep M ν v→∃ a r,v= .pointer (some a)∧(loadVar t a).run P w= .ok r w∧u.rep M ν r:=by
 unfold b5E at h
 split at h
 ·rename_i n agg hn ha
  split at h
  ·rename_i r ex
   simp only[Option.some.injEq] at ex;subst ex
   obtain⟨u,hk,hu⟩:=b0p (P:=P) h
   refine⟨u,hk,fun κ M ν w B' val hB hs hr=>?_⟩
   simp only[T.rep,Cell.rep] at hr
   obtain⟨b,off,vs,e,ai,ad⟩:=hr
   obtain⟨v,hl,aa⟩:=hu t M ν w b off vs ha hn ad (ai.of_fro hs)
   exact⟨_,v,e,hl,aa⟩
  ·rename_i k off ex
   simp only[Option.some.injEq] at ex;subst ex
   split at h
   ·rename_i cs hb
    split at h
    ·rename_i pre y hc
     obtain⟨ec,ae⟩:=a02 hc
     obtain⟨u,hk,hu⟩:=b5F (P:=P) h
     refine⟨u,hk,fun κ M ν w B' val hB hs hr=>?_⟩
     simp only[T.rep,Cell.rep] at hr
     obtain⟨b,aj,e⟩:=hr
     have q:=hs.res k _ (hB _ (a0O hb))
     simp only[Res.ok] at q
     obtain⟨b',c,et,af,ab,ah⟩:=q
     rw[aj] at af;cases af
     rw[ec] at ah
     obtain⟨v1,v2,e2,h1,h2⟩:=Cell.reps_split ah
     have ai:At (w.heap[b]?) off v2:=by
      have:=At.whole ab
      rw[e2] at this
      have:=At.sub (v1:=v1) (v2:=v2) (v3:=[]) (by simpa using this)
      simpa [Cell.reps_length h1,ae] using this
     obtain⟨v,hl,aa⟩:=hu t M ν w b off v2 ha hn h2 ai
     exact⟨_,v,e,hl,aa⟩
    ·exact h.elim
   ·exact h.elim
  ·rename_i k sz i f ex
   simp only[Option.some.injEq] at ex;subst ex
   split at h
   ·rename_i am rows hb
    obtain⟨rfl,r,hi,h⟩:=h
    split at h
    ·rename_i pre y hc
     obtain⟨ec,ae⟩:=a02 hc
     obtain⟨u,hk,hu⟩:=b0p (P:=P) h
     refine⟨u,hk,fun κ M ν w B' val hB hs hr=>?_⟩
     simp only[T.rep,Cell.rep] at hr
     obtain⟨b,aj,e⟩:=hr
     have q:=hs.res k _ (hB _ (a0O hb))
     simp only[Res.ok] at q
     obtain⟨_,_,q⟩:=q
     rcases q with⟨ag,_⟩|⟨b',c,et,mid,post,af,ab,ap,ak,_⟩
     ·rw[aj] at ag;cases ag
     ·rw[aj] at af;cases af
      obtain⟨v1,v2,v3,e3,al,ad,aq⟩:=b1T ak hi
      rw[ec] at ad
      obtain⟨x1,x2,e4,ao,an⟩:=a1l ad
      have ai:At (w.heap[b]?) (i*am+f) x2:=by
       have h0:=At.whole ab
       rw[ap,e3,e4] at h0
       have:=At.sub (v1:=v1++x1) (v2:=x2) (v3:=v3++post) (by simpa using h0)
       simpa [al,a0E ao,ae] using this
      obtain⟨v,hl,aa⟩:=hu t M ν w b _ x2 ha hn an ai
      exact⟨_,v,e,hl,aa⟩
    ·exact h.elim
   ·exact h.elim
  ·exact h.elim
 ·exact h.elim
theorem vLoad_sound {t:TypeId} {x:Operand} {ty:TypeId} {env:Env} {B:Bx} {o:Oper} {K:T→Prop} (ho:o.op= .load t x)
  (h:b5E P t B (ev P env ty x) K):∃ u,OpP P o env B u∧K u:=by
 have hx:x∈o.op.operands:=by rw[ho];simp[Op.operands]
 cases q:ev P env ty x with
 |none=>
  rw[q] at h
  unfold b5E at h
  split at h
  ·exact h.elim
  ·exact h.elim
 |some xt=>
  rw[q] at h
  obtain⟨u,hk,hu⟩:=b35 h
  refine⟨u,OpP.of_val fun κ M ν ac w B' hB he hs=>?_,hk⟩
  obtain⟨a,r,e,hl,hr⟩:=hu κ M ν w B' _ hB hs (a0z he hx q)
  refine⟨r,?_,hr⟩
  unfold execOp
  rw[ho]
  simp only[Sem.run_bind,Instr.loadAt,e,Instr.sureAddr,Sem.run_pure,Result.andThen_ok,hl]
def a7g (P:Program) (s f:Nat) (x:Option T) (K:T→Prop):Prop:=
 match a1U P s f with
 |some (off,_,_)=>match x with
  |some (.one (.ref r))=>match a1H off r with
   |some (_,y)=>K (.one (.ref y))
   |none=>False
  |some (.one (.ptr k o))=>K (.one (.ptr k (o+off)))
  |some (.one (.rp k sz i g))=>K (.one (.rp k sz i (g+off)))
  |_=>False
 |none=>False
theorem a4q (b off n:Nat):(⟨b,off,none⟩:Addr).add n=⟨b,off+n,none⟩:=by
  unfold Addr.add
  split
  · rename_i h;subst h;rfl
  · rfl
theorem vFieldAddr_sound {s f:Nat} {x:Operand} {ty:TypeId} {env:Env} {B:Bx} {o:Oper} {K:T→Prop} (ho:o.op= .fieldAddr s x f)
  (h:a7g P s f (ev P env ty x) K):∃ u,OpP P o env B u∧K u:=by
 have hx:x∈o.op.operands:=by rw[ho];simp[Op.operands]
 unfold a7g at h
 split at h
 ·rename_i off n agg hf
  obtain⟨fs,fd,hu,ag,ad,ae,_,hn⟩:=b32 hf
  have q:∀ (a:Act) (w:World) (b o':Nat),a.eval x= .pointer (some ⟨b,o',none⟩)→(execOp a.eval o).run P w= .ok (.value (.pointer (some ⟨b,o'+off,none⟩))) w:=by
   intro a w b o' e
   unfold execOp
   rw[ho]
   simp only[Sem.run_bind,Instr.fieldAt,e,Instr.sureAddr,Sem.run_pure,Result.andThen_ok,run_underlying hu,ag,fieldPlace,a2y ae,hn,za2,ad,a4q]
  split at h
  ·rename_i r ex
   split at h
   ·rename_i pre y hc
    obtain⟨ec,ab⟩:=a02 hc
    refine⟨_,OpP.of_val fun κ M ν ac w B' hB he hs=>?_,h⟩
    have hr:=a0z he hx ex
    simp only[T.rep,Cell.rep] at hr
    obtain⟨b,o',vs,e,af,aa⟩:=hr
    refine⟨_,q _ _ _ _ e,?_⟩
    rw[ec] at aa
    obtain⟨v1,v2,e2,h1,h2⟩:=a1l aa
    simp only[T.rep,Cell.rep]
    refine⟨b,o'+off,v2,rfl,?_,h2⟩
    have:=At.sub (v1:=v1) (v2:=v2) (v3:=[]) (by simpa [e2] using af)
    simpa [a0E h1,ab] using this
   ·exact h.elim
  ·rename_i k o' ex
   refine⟨_,OpP.of_val fun κ M ν ac w B' hB he hs=>?_,h⟩
   have hr:=a0z he hx ex
   simp only[T.rep,Cell.rep] at hr
   obtain⟨b,hb,e⟩:=hr
   refine⟨_,q _ _ _ _ e,?_⟩
   simp only[T.rep,Cell.rep]
   exact⟨b,hb,rfl⟩
  ·rename_i k sz i g ex
   refine⟨_,OpP.of_val fun κ M ν ac w B' hB he hs=>?_,h⟩
   have hr:=a0z he hx ex
   simp only[T.rep,Cell.rep] at hr
   obtain⟨b,hb,e⟩:=hr
   refine⟨_,q _ _ _ _ e,?_⟩
   simp only[T.rep,Cell.rep]
   exact⟨b,hb,by rw[Nat.add_assoc]⟩
  ·exact h.elim
 ·exact h.elim
def a7h (P:Program) (t:TypeId) (B:Bx) (x ix:Option T) (K:T→Prop):Prop:=
 match ix with
 |some (.one (.dat (.int _ i)))=>match x with
  |some (.one (.dat (.sl sz rows)))=>match elT P t with
   |some (n,_)=>n=sz∧0≤i∧∃ r,rows[i.toNat]?= some r∧K (.one (.ref r))
   |none=>False
  |some (.one (.own k m))=>match elT P t,B.lookup k with
   |some (n,_),some (.row sz rows)=>sz=n∧m≤rows.length∧0≤i∧i<m∧K (.one (.rp k n i.toNat 0))
   |_,_=>False
  |some (.one (.ptr k off))=>match arT P t with
   |some (len,n,_)=>0≤i∧i<len∧K (.one (.ptr k (off+i.toNat*n)))
   |none=>False
  |some (.one (.ref r))=>match arT P t with
   |some (len,n,_)=>0≤i∧i<len∧(match a1H (i.toNat*n) r with
    |some (_,y)=>K (.one (.ref y))
    |none=>False)
   |none=>False
  |some (.one (.arr k m))=>match elT P t with
   |some (n,_)=>0≤i∧i<m∧K (.one (.ptr k (i.toNat*n)))
   |none=>False
  |_=>False
 |_=>False
theorem vIndexAddr_sound {t:TypeId} {x ix:Operand} {tx ti:TypeId} {env:Env} {B:Bx} {o:Oper} {K:T→Prop} (ho:o.op= .indexAddr t x ix)
  (h:a7h P t B (ev P env tx x) (ev P env ti ix) K):∃ u,OpP P o env B u∧K u:=by
 have hx:x∈o.op.operands:=by rw[ho];simp[Op.operands]
 have hi:ix∈o.op.operands:=by rw[ho];simp[Op.operands]
 have ae:∀ (a:Act) (w:World),(execOp a.eval o).run P w=((Instr.indexAt t (a.eval x) (a.eval ix)).run P w).andThen fun v w=> .ok (.value v) w:=by
  intro a w
  unfold execOp
  rw[ho]
  simp only[Sem.run_bind,Sem.run_pure]
 unfold a7h at h
 split at h
 ·rename_i k0 i ei
  split at h
  ·rename_i sz rows ex
   split at h
   ·rename_i n agg ah
    obtain⟨rfl,h0,r,an,hk⟩:=h
    obtain⟨e,hu,aa,_⟩:=a5X ah
    refine⟨_,OpP.of_val fun κ M ν ac w B' hB he hs=>?_,hk⟩
    have hr:=a0z he hx ex
    have q:=a0S.1 (a0z he hi ei)
    simp only[T.rep,Cell.rep,C.rep] at hr
    obtain⟨a,cap,mid,ev,av,ar,af,aq⟩:=hr
    have ag:=(zak.1 an).1
    rcases aq with am|⟨b,off,ea,ak⟩
    ·subst am;simp at ag
    ·subst ea
     refine⟨.pointer (some ⟨b,off+i.toNat*n,none⟩),?_,?_⟩
     ·rw[ae,ev,q]
      have al:i<(rows.length:Int):=by omega
      simp only[Instr.indexAt,asIntOf,Sem.run_bind,Sem.run_pure,Result.andThen_ok,run_underlying hu,h0,al,and_self,za9,a2y aa,a4q]
     ·obtain⟨v1,v2,v3,e3,aw,ab,_⟩:=b1T af an
      simp only[T.rep,Cell.rep]
      refine⟨b,_,v2,rfl,?_,ab⟩
      have:=At.sub (v1:=v1) (v2:=v2) (v3:=v3) (by rw[← e3];exact ak)
      simpa [aw] using this
   ·exact h.elim
  ·rename_i k m ex
   split at h
   ·rename_i n agg sz rows ah hb
    obtain⟨rfl,hm,h0,ai,hk⟩:=h
    obtain⟨e,hu,aa,_⟩:=a5X ah
    refine⟨_,OpP.of_val fun κ M ν ac w B' hB he hs=>?_,hk⟩
    have hr:=a0z he hx ex
    have q:=a0S.1 (a0z he hi ei)
    simp only[T.rep,Cell.rep] at hr
    have ad:=hs.res k _ (hB _ (a0O hb))
    simp only[Res.ok] at ad
    obtain⟨av,ar,ad⟩:=ad
    rcases ad with⟨au,az⟩|⟨b',c,et,mid,post,ap,ax,a1,af,_⟩
    ·exfalso;omega
    ·refine⟨.pointer (some ⟨b',i.toNat*sz,none⟩),?_,?_⟩
     ·rw[ae,hr,q,ap]
      simp only[Instr.indexAt,asIntOf,Sem.run_bind,Sem.run_pure,Result.andThen_ok,run_underlying hu,h0,ai,and_self,za9,a2y aa,a4q,Option.map_some,zbg]
     ·simp only[T.rep,Cell.rep]
      exact⟨b',ap,by simp⟩
   ·exact h.elim
  ·rename_i k off ex
   split at h
   ·rename_i len n agg aj
    obtain⟨h0,ag,hk⟩:=h
    obtain⟨e,hu,aa,_⟩:=b2V aj
    refine⟨_,OpP.of_val fun κ M ν ac w B' hB he hs=>?_,hk⟩
    have hr:=a0z he hx ex
    have q:=a0S.1 (a0z he hi ei)
    simp only[T.rep,Cell.rep] at hr
    obtain⟨b,hb,ep⟩:=hr
    refine⟨.pointer (some ⟨b,off+i.toNat*n,none⟩),?_,?_⟩
    ·rw[ae,ep,q]
     simp only[Instr.indexAt,asIntOf,Sem.run_bind,Sem.run_pure,Result.andThen_ok,run_underlying hu,Instr.sureAddr,h0,ag,and_self,za9,a2y aa,a4q]
    ·simp only[T.rep,Cell.rep]
     exact⟨b,hb,rfl⟩
   ·exact h.elim
  ·rename_i r ex
   split at h
   ·rename_i len n agg aj
    obtain⟨h0,ag,hk⟩:=h
    obtain⟨e,hu,aa,_⟩:=b2V aj
    split at hk
    ·rename_i pre y hc
     obtain⟨ec,ao⟩:=a02 hc
     refine⟨_,OpP.of_val fun κ M ν ac w B' hB he hs=>?_,hk⟩
     have hr:=a0z he hx ex
     have q:=a0S.1 (a0z he hi ei)
     simp only[T.rep,Cell.rep] at hr
     obtain⟨b,o',vs,ep,ak,ab⟩:=hr
     refine⟨.pointer (some ⟨b,o'+i.toNat*n,none⟩),?_,?_⟩
     ·rw[ae,ep,q]
      simp only[Instr.indexAt,asIntOf,Sem.run_bind,Sem.run_pure,Result.andThen_ok,run_underlying hu,Instr.sureAddr,h0,ag,and_self,za9,a2y aa,a4q]
     ·rw[ec] at ab
      obtain⟨v1,v2,e2,h1,h2⟩:=a1l ab
      simp only[T.rep,Cell.rep]
      refine⟨b,_,v2,rfl,?_,h2⟩
      have:=At.sub (v1:=v1) (v2:=v2) (v3:=[]) (by simpa [e2] using ak)
      simpa [a0E h1,ao] using this
    ·exact hk.elim
   ·exact h.elim
  ·rename_i k m ex
   split at h
   ·rename_i n agg ah
    obtain⟨h0,ai,hk⟩:=h
    obtain⟨e,hu,aa,_⟩:=a5X ah
    refine⟨_,OpP.of_val fun κ M ν ac w B' hB he hs=>?_,hk⟩
    have hr:=a0z he hx ex
    have q:=a0S.1 (a0z he hi ei)
    simp only[T.rep,Cell.rep] at hr
    obtain⟨b,hb,ep⟩:=hr
    refine⟨.pointer (some ⟨b,i.toNat*n,none⟩),?_,?_⟩
    ·rw[ae,ep,q]
     simp only[Instr.indexAt,asIntOf,Sem.run_bind,Sem.run_pure,Result.andThen_ok,run_underlying hu,h0,ai,and_self,za9,a2y aa,a4q,zbg]
    ·simp only[T.rep,Cell.rep]
     exact⟨b,hb,rfl⟩
   ·exact h.elim
  ·exact h.elim
 ·exact h.elim
theorem a1B {o:Oper} {a:Act} {w w':World} {s:Sem Value} {v:Value} (ho:execOp a.eval o=(do pure (.value (← s)))) (h:s.run P w= .ok v w'):(execOp a.eval o).run P w= .ok (.value v) w':=by
  rw[ho]
  simp only[Sem.run_bind,Sem.run_pure,h,Result.andThen_ok]
def b61 (P:Program) (t:TypeId) (x ix:Option T) (K:T→Prop):Prop:=
 match x,ix with
 |some (.one (.dat (.str l))),some (.one (.dat (.int _ i)))=>kdT P t=some .str∧0≤i∧∃ b,l[i.toNat]?= some b∧K (I .u8 b.toNat)
 |some (.st r),some (.one (.dat (.int _ i)))=>match arT P t with
  |some (len,n,agg)=>0≤i∧i<len∧(match a1H (i.toNat*n) r with
   |some (_,y)=>a5p agg n y K
   |none=>False)
  |none=>False
 |_,_=>False
theorem b0q {vs:Array Value} {v1 v2 v3:List Value} {off n:Nat} (h:vs.toList=v1++(v2++v3)) (h1:v1.length=off) (h2:v2.length=n):vs.extract off (off+n)=v2.toArray:=by
  apply Array.ext'
  rw[Array.toList_extract,List.extract_eq_take_drop,h,← h1,List.drop_left,zd4,← h2,List.take_left]
theorem c4F {agg:Bool} {n:Nat} {r:List C} {K:T→Prop} (h:a5p agg n r K):
  ∃ t,K t∧∀ (ty:TypeId) (M:Mem) (ν:Nu) (w:World) (vs:Array Value) (off:Nat) (v1 v2:List Value),a1J P ty=some agg→szT P ty=some n→vs.toList=v1++v2→v1.length=off→a0x M r v2→
   ∃ v,(part ty vs off).run P w= .ok v w∧t.rep M ν v:=by
 unfold a5p at h
 cases agg with
 |true=>
  simp only[zaa] at h
  split at h
  ·rename_i x y hc
   obtain⟨e,hl⟩:=a02 hc
   refine⟨_,h,fun ty M ν w vs off v1 v2 ha hn u q hr=>?_⟩
   rw[e] at hr
   obtain⟨x1,x2,e2,h1,h2⟩:=a1l hr
   refine⟨.agg (vs.extract off (off+n)),by simp only[part,Sem.run_bind,a7R ha,Result.andThen_ok,za9,a2y hn,Sem.run_pure],?_⟩
   rw[b0q (v1:=v1) (v2:=x1) (v3:=x2) (by rw[u,e2]) q (by rw[a0E h1,hl])]
   simp only[T.rep]
   exact⟨_,rfl,by simpa using h1⟩
  ·exact h.elim
 |false=>
  simp only[zab] at h
  split at h
  ·rename_i c ab
   refine⟨_,h,fun ty M ν w vs off v1 v2 ha hn u q hr=>?_⟩
   simp only[a0x] at hr
   obtain⟨v,aa,e,h1,h2⟩:=hr
   have hv:vs[off]?= some v:=by
    rw[← zb3,u,zb0 (by omega),e,← q];simp
   refine⟨v,by simp only[part,Sem.run_bind,a7R ha,Result.andThen_ok,zbs,za2,hv,Sem.run_pure],?_⟩
   simp only[T.rep,Cell.rep];exact h1
  ·exact h.elim
theorem c8S {agg:Bool} {n:Nat} {r:List Cell} {K:T→Prop} (h:a5Y agg n r K):
  ∃ t,K t∧∀ (ty:TypeId) (M:Mem) (ν:Nu) (w:World) (vs:Array Value) (off:Nat) (v1 v2:List Value),a1J P ty=some agg→szT P ty=some n→vs.toList=v1++v2→v1.length=off→Cell.reps M ν r v2→
   ∃ v,(part ty vs off).run P w= .ok v w∧t.rep M ν v:=by
 unfold a5Y at h
 cases agg with
 |true=>
  simp only[zaa] at h
  split at h
  ·rename_i x y hc
   obtain⟨e,hl⟩:=a02 hc
   refine⟨_,h,fun ty M ν w vs off v1 v2 ha hn u q hr=>?_⟩
   rw[e] at hr
   obtain⟨x1,x2,e2,h1,h2⟩:=Cell.reps_split hr
   refine⟨.agg (vs.extract off (off+n)),by simp only[part,Sem.run_bind,a7R ha,Result.andThen_ok,za9,a2y hn,Sem.run_pure],?_⟩
   rw[b0q (v1:=v1) (v2:=x1) (v3:=x2) (by rw[u,e2]) q (by rw[Cell.reps_length h1,hl])]
   exact a6E (by simpa using h1)
  ·exact h.elim
 |false=>
  simp only[zab] at h
  split at h
  ·rename_i c ab
   refine⟨_,h,fun ty M ν w vs off v1 v2 ha hn u q hr=>?_⟩
   simp only[Cell.reps] at hr
   obtain⟨v,aa,e,h1,h2⟩:=hr
   have hv:vs[off]?= some v:=by
    rw[← zb3,u,zb0 (by omega),e,← q];simp
   refine⟨v,by simp only[part,Sem.run_bind,a7R ha,Result.andThen_ok,zbs,za2,hv,Sem.run_pure],?_⟩
   simp only[T.rep];exact h1
  ·exact h.elim
theorem vIndex_sound {t:TypeId} {x ix:Operand} {tx ti:TypeId} {env:Env} {B:Bx} {o:Oper} {K:T→Prop} (ho:o.op= .index t x ix)
  (h:b61 P t (ev P env tx x) (ev P env ti ix) K):∃ u,OpP P o env B u∧K u:=by
 have hx:x∈o.op.operands:=by rw[ho];simp[Op.operands]
 have hi:ix∈o.op.operands:=by rw[ho];simp[Op.operands]
 have af:∀ (a:Act),execOp a.eval o=(do pure (.value (← Instr.index t (a.eval x) (a.eval ix)))):=by
  intro a;unfold execOp;rw[ho]
 unfold b61 at h
 split at h
 ·rename_i l k0 i ex ei
  obtain⟨hk,h0,b,hb,hK⟩:=h
  refine⟨_,OpP.of_val fun κ M ν ac w B' hB he hs=>⟨_,a1B (af ac) ?_,a0S.2 rfl⟩,hK⟩
  have e1:=a4i.1 (a0z he hx ex)
  have e2:=a0S.1 (a0z he hi ei)
  rw[e1,e2]
  have ah:(ByteArray.mk l.toArray)[i.toNat]?= some b:=by
   have ab:=(zak.1 hb).1
   have ak:=(zak.1 hb).2
   have q:i.toNat<(ByteArray.mk l.toArray).size:=by rw[a83];exact ab
   rw[getElem?_pos (ByteArray.mk l.toArray) i.toNat q]
   congr 1
  simp only[Instr.index,asIntOf,Sem.run_bind,Sem.run_pure,Result.andThen_ok,run_underlying (a5o hk),h0,za9,ah]
 ·rename_i r k0 i ex ei
  split at h
  ·rename_i len n agg ai
   obtain⟨h0,ab,h⟩:=h
   obtain⟨e,hu,q,aj⟩:=b2V ai
   split at h
   ·rename_i pre y hc
    obtain⟨ec,ad⟩:=a02 hc
    obtain⟨u,hk,hp⟩:=c4F (P:=P) h
    refine⟨u,OpP.of_val fun κ M ν ac w B' hB he hs=>?_,hk⟩
    have hr:=a0z he hx ex
    have ag:=a0S.1 (a0z he hi ei)
    simp only[T.rep] at hr
    obtain⟨vs,ev,aa⟩:=hr
    rw[ec] at aa
    obtain⟨v1,v2,e2,h1,h2⟩:=a1l aa
    obtain⟨v,hv,ae⟩:=hp e M ν w vs (i.toNat*n) v1 v2 aj q e2 (by rw[a0E h1,ad]) h2
    refine⟨v,a1B (af ac) ?_,ae⟩
    rw[ev,ag]
    simp only[Instr.index,asIntOf,Sem.run_bind,Sem.run_pure,Result.andThen_ok,run_underlying hu,h0,ab,and_self,za9,a2y q,hv]
   ·exact h.elim
  ·exact h.elim
 ·exact h.elim
def b62 (P:Program) (s f:Nat) (x:Option T) (K:T→Prop):Prop:=
 match a1U P s f with
 |some (off,n,agg)=>match x with
  |some (.st r)=>match a1H off r with
   |some (_,y)=>a5p agg n y K
   |none=>False
  |some (.agg r)=>match a1H off r with
   |some (_,y)=>a5Y agg n y K
   |none=>False
  |_=>False
 |none=>False
theorem vField_sound {s f:Nat} {x:Operand} {ty:TypeId} {env:Env} {B:Bx} {o:Oper} {K:T→Prop} (ho:o.op= .field s x f)
  (h:b62 P s f (ev P env ty x) K):∃ u,OpP P o env B u∧K u:=by
 have hx:x∈o.op.operands:=by rw[ho];simp[Op.operands]
 have ae:∀ (a:Act),execOp a.eval o=(do pure (.value (← Instr.field s (a.eval x) f))):=by
  intro a;unfold execOp;rw[ho]
 unfold b62 at h
 split at h
 ·rename_i off n agg hf
  obtain⟨fs,fd,hu,ah,ad,af,ag,hn⟩:=b32 hf
  split at h
  ·rename_i r ex
   split at h
   ·rename_i pre y hc
    obtain⟨ec,aa⟩:=a02 hc
    obtain⟨u,hk,hp⟩:=c4F (P:=P) h
    refine⟨u,OpP.of_val fun κ M ν ac w B' hB he hs=>?_,hk⟩
    have hr:=a0z he hx ex
    simp only[T.rep] at hr
    obtain⟨vs,ev,q⟩:=hr
    rw[ec] at q
    obtain⟨v1,v2,e2,h1,h2⟩:=a1l q
    obtain⟨v,hv,ab⟩:=hp fd.type M ν w vs off v1 v2 ag af e2 (by rw[a0E h1,aa]) h2
    refine⟨v,a1B (ae ac) ?_,ab⟩
    rw[ev]
    simp only[Instr.field,asAgg,Sem.run_bind,Sem.run_pure,Result.andThen_ok,run_underlying hu,ah,ad,hv]
   ·exact h.elim
  ·rename_i r ex
   split at h
   ·rename_i pre y hc
    obtain⟨ec,aa⟩:=a02 hc
    obtain⟨u,hk,hp⟩:=c8S (P:=P) h
    refine⟨u,OpP.of_val fun κ M ν ac w B' hB he hs=>?_,hk⟩
    have hr:=a0z he hx ex
    simp only[T.rep] at hr
    obtain⟨vs,ev,q⟩:=hr
    rw[ec] at q
    obtain⟨v1,v2,e2,h1,h2⟩:=Cell.reps_split q
    obtain⟨v,hv,ab⟩:=hp fd.type M ν w vs off v1 v2 ag af e2 (by rw[Cell.reps_length h1,aa]) h2
    refine⟨v,a1B (ae ac) ?_,ab⟩
    rw[ev]
    simp only[Instr.field,asAgg,Sem.run_bind,Sem.run_pure,Result.andThen_ok,run_underlying hu,ah,ad,hv]
   ·exact h.elim
  ·exact h.elim
 ·exact h.elim
def a92 (x:Option T) (i:Nat) (K:T→Prop):Prop:=
 match x with
 |some (.tup ts)=>match ts[i]? with
  |some t=>K t
  |none=>False
 |_=>False
theorem T.reps_at {M:Mem} {ν:Nu}:∀ {ts:List T} {vs:List Value} {i:Nat} {t:T},T.reps M ν ts vs→ts[i]?= some t→∃ v,vs[i]?= some v∧t.rep M ν v
 |[],vs,i,t,h,hi=>by simp at hi
 |u::ts,vs,i,t,h,hi=>by
  simp only[T.reps] at h
  obtain⟨v,q,e,h1,h2⟩:=h
  subst e
  cases i with
  |zero=>simp at hi;subst hi;exact⟨v,by simp,h1⟩
  |succ i=>obtain⟨v',hv,hr⟩:=T.reps_at h2 (by simpa using hi);exact⟨v',by simpa using hv,hr⟩
theorem vExtract_sound {x:Operand} {i:Nat} {ty:TypeId} {env:Env} {B:Bx} {o:Oper} {K:T→Prop} (ho:o.op= .extract x i)
  (h:a92 (ev P env ty x) i K):∃ u,OpP P o env B u∧K u:=by
 have hx:x∈o.op.operands:=by rw[ho];simp[Op.operands]
 have ab:∀ (a:Act),execOp a.eval o=(do pure (.value (← Instr.extract (a.eval x) i))):=by
  intro a;unfold execOp;rw[ho]
 unfold a92 at h
 split at h
 ·rename_i ts ex
  split at h
  ·rename_i t ht
   refine⟨t,OpP.of_val fun κ M ν ac w B' hB he hs=>?_,h⟩
   have hr:=a0z he hx ex
   simp only[T.rep] at hr
   obtain⟨vs,ev,aa⟩:=hr
   obtain⟨v,hv,q⟩:=T.reps_at aa ht
   refine⟨v,a1B (ab ac) ?_,q⟩
   rw[ev]
   simp[Instr.extract,hv]
  ·exact h.elim
 ·exact h.elim
def bnd (d:Int) (x:Option (Option T)):Option Int:=
  match x with
  |none=>some d
  |some (some (.one (.dat (.int _ i))))=>some i
  |_=>none
def b63 (P:Program) (t:TypeId) (x:Option T) (lo hi:Option (Option T)) (K:T→Prop):Prop:=
 match x with
 |some (.one (.dat (.str l)))=>match bnd 0 lo,bnd l.length hi with
  |some i,some j=>kdT P t=some .str∧0≤i∧i≤j∧j≤l.length∧K (S ((l.take j.toNat).drop i.toNat))
  |_,_=>False
 |some (.one (.dat (.sl sz rows)))=>match elT P t,bnd 0 lo,bnd rows.length hi with
  |some (n,_),some i,some j=>n=sz∧0≤i∧i≤j∧j≤rows.length∧K (.one (.dat (.sl sz ((rows.take j.toNat).drop i.toNat))))
  |_,_,_=>False
 |_=>False
theorem c5J {M:Mem} {ν:Nu} {a:Act} {env:Env} {o:Oper} {lo:Option Operand} {ti:TypeId} {d i:Int} (he:a3Z M ν a env o) (q:∀ x,lo=some x→x∈o.op.operands)
  (h:bnd d (lo.map (ev P env ti))=some i):(lo=none∧i=d)∨ ∃ x k,lo=some x∧a.eval x= .int k i:=by
 cases lo with
 |none=>simp only[bnd,Option.map_none,Option.some.injEq] at h;exact .inl ⟨rfl,h.symm⟩
 |some x=>
  simp only[bnd,Option.map_some] at h
  split at h
  ·rename_i e;cases e
  ·rename_i k j e
   simp only[Option.some.injEq] at h e
   subst h
   exact .inr ⟨x,k,rfl,a0S.1 (a0z he (q x rfl) e)⟩
  ·cases h
theorem b1U {isSlice:Bool} {len cap:Nat} {lo hi:Option Value} {i j:Int} (w:World) (aa:(lo=none∧i=0)∨ ∃ k,lo=some (.int k i)) (u:(hi=none∧j=len)∨ ∃ k,hi=some (.int k j))
  (h0:0≤i) (q:i≤j) (hj:j≤cap):(Instr.sliceBounds isSlice len cap lo hi none).run P w= .ok (i.toNat,j.toNat,cap) w:=by
 have e:((j.toNat:Nat):Int)=j:=Int.toNat_of_nonneg (by omega)
 unfold Instr.sliceBounds
 rcases u with⟨rfl,rfl⟩|⟨k,rfl⟩<;>rcases aa with⟨rfl,rfl⟩|⟨k',rfl⟩
 ·simp
 ·simp only[Sem.run_bind,Sem.run_pure,Result.andThen_ok,Instr.sliceBound,asIntOf]
  simp[h0,q]
 ·simp only[Sem.run_bind,Sem.run_pure,Result.andThen_ok,Instr.sliceBound,asIntOf]
  simp[(by omega:0≤j),hj]
 ·simp only[Sem.run_bind,Sem.run_pure,Result.andThen_ok,Instr.sliceBound,asIntOf]
  simp[(by omega:0≤j),hj,h0,q,e]
theorem b1V (l:List UInt8) (i j:Nat):(ByteArray.mk l.toArray).extract i j=ByteArray.mk ((l.take j).drop i).toArray:=by
  apply ByteArray.ext
  simp[ByteArray.data_extract,List.extract_eq_take_drop,List.drop_take]
theorem vSlice_sound {t:TypeId} {x:Operand} {lo hi:Option Operand} {tx ti:TypeId} {env:Env} {B:Bx} {o:Oper} {K:T→Prop} (ho:o.op= .slice t x lo hi none)
  (h:b63 P t (ev P env tx x) (lo.map (ev P env ti)) (hi.map (ev P env ti)) K):∃ u,OpP P o env B u∧K u:=by
 have hx:x∈o.op.operands:=by rw[ho];simp[Op.operands]
 have ag:∀ y,lo=some y→y∈o.op.operands:=by intro y e;rw[ho,e];simp[Op.operands]
 have ai:∀ y,hi=some y→y∈o.op.operands:=by intro y e;rw[ho,e];cases lo<;>simp[Op.operands]
 have af:∀ (a:Act),execOp a.eval o=(do pure (.value (← Instr.sliceAt t (a.eval x) (lo.map a.eval) (hi.map a.eval) none))):=by
  intro a;unfold execOp;rw[ho];rfl
 have q:∀ {M:Mem} {ν:Nu} {a:Act} {d i:Int} {y:Option Operand},a3Z M ν a env o→(∀ z,y=some z→z∈o.op.operands)→bnd d (y.map (ev P env ti))=some i→(y.map a.eval=none∧i=d)∨ ∃ k,y.map a.eval=some (.int k i):=by
  intro M ν a d i y he hy hb
  rcases c5J he hy hb with⟨rfl,e⟩|⟨z,k,rfl,e⟩
  ·exact .inl ⟨rfl,e⟩
  ·exact .inr ⟨k,by simp[e]⟩
 unfold b63 at h
 split at h
 ·rename_i l ex
  split at h
  ·rename_i i j ei ej
   obtain⟨hk,h0,ae,hj,hK⟩:=h
   refine⟨_,OpP.of_val fun κ M ν ac w B' hB he hs=>⟨_,a1B (af ac) ?_,a4i.2 rfl⟩,hK⟩
   have e1:=a4i.1 (a0z he hx ex)
   have hu:=a5o hk
   rw[e1]
   have hb:=b1U (P:=P) (isSlice:=false) (len:=l.length) (cap:=l.length) w (q he ag ei) (q he ai ej) h0 ae hj
   simp only[Instr.sliceAt,Sem.run_bind,run_underlying hu,Result.andThen_ok,Instr.slice,Option.isSome_none,zbs,za2,a83,hb,Sem.run_pure,b1V]
  ·exact h.elim
 ·rename_i sz rows ex
  split at h
  ·rename_i n agg i j am ei ej
   obtain⟨rfl,h0,ae,hj,hK⟩:=h
   obtain⟨e,hu,al,_⟩:=a5X am
   refine⟨_,OpP.of_val fun κ M ν ac w B' hB he hs=>?_,hK⟩
   have hr:=a0z he hx ex
   simp only[T.rep,Cell.rep,C.rep] at hr
   obtain⟨a,cap,mid,ev,ap,ao,aa,aj⟩:=hr
   have hb:=b1U (P:=P) (isSlice:=true) (len:=rows.length) (cap:=cap) w (q he ag ei) (q he ai ej) h0 ae (by omega)
   refine⟨_,a1B (v:= .slice (if cap=i.toNat then a else a.map (·.add (i.toNat*n))) (j.toNat-i.toNat) (cap-i.toNat)) (af ac) ?_,?_⟩
   ·rw[ev]
    simp only[Instr.sliceAt,Sem.run_bind,run_underlying hu,Result.andThen_ok,Instr.slice,hb,a2y al,Sem.run_pure]
   ·have ad:((rows.take j.toNat).drop i.toNat).length=j.toNat-i.toNat:=by simp;omega
    have ab:rows=rows.take i.toNat++((rows.take j.toNat).drop i.toNat++rows.drop j.toNat):=by
     have e1:rows.take i.toNat=(rows.take j.toNat).take i.toNat:=by rw[List.take_take,zdn (by omega)]
     rw[e1,← zb1,zbt,zbt]
    rw[ab] at aa
    obtain⟨v1,aq,e1,h1,ak⟩:=a3p aa
    obtain⟨v2,v3,e2,h2,h3⟩:=a3p ak
    simp only[T.rep,Cell.rep,C.rep]
    refine⟨_,cap-i.toNat,v2,by rw[ad],by omega,by omega,h2,?_⟩
    by_cases ar:i.toNat<j.toNat
    ·right
     rcases aj with ah|⟨b,off,ea,an⟩
     ·exfalso;rw[ah] at hj;simp at hj;omega
     ·refine⟨b,off+i.toNat*n,?_,?_⟩
      ·rw[za5 (by omega),ea];simp[a4q]
      ·have:=At.sub (v1:=v1) (v2:=v2) (v3:=v3) (by rw[← e2,← e1];exact an)
       rw[a0I h1,zbb,zdn (by omega)] at this
       exact this
    ·left
     exact zbk.1 (by rw[ad];omega)
  ·exact h.elim
 ·exact h.elim
def d0D (x:Option T) (K:T→Prop):Prop:=
  match x with
  |some (.one (.ptr k o))=>K (.one (.ptr k o))
  |some (.one (.rp k sz i f))=>K (.one (.rp k sz i f))
  |some (.one (.ref r))=>K (.one (.ref r))
  |some (.one (.dat (.fn f)))=>K (.one (.dat (.fn f)))
  |some (.one (.dat (.fnc f caps)))=>K (.one (.dat (.fnc f caps)))
  |some (.one (.clo f caps))=>K (.one (.clo f caps))
  |_=>False
theorem vNil_sound {x:Operand} {ty:TypeId} {env:Env} {B:Bx} {o:Oper} {K:T→Prop} (ho:o.op= .nilCheck x)
  (h:d0D (ev P env ty x) K):∃ u,OpP P o env B u∧K u:=by
 have hx:x∈o.op.operands:=by rw[ho];simp[Op.operands]
 unfold d0D at h
 split at h<;>try exact h.elim
 all_goals
  rename_i ex
  refine⟨_,OpP.of_val fun κ M ν ac w B' hB he hs=>?_,h⟩
  have hr:=a0z he hx ex
  refine⟨ac.eval x,?_,hr⟩
  simp only[T.rep,Cell.rep,C.rep] at hr
 ·obtain⟨b,_,e⟩:=hr;unfold execOp;rw[ho];simp only[e];rfl
 ·obtain⟨b,_,e⟩:=hr;unfold execOp;rw[ho];simp only[e];rfl
 ·obtain⟨b,off,vs,e,_⟩:=hr;unfold execOp;rw[ho];simp only[e];rfl
 ·unfold execOp;rw[ho];simp only[hr];rfl
 ·obtain⟨vs,e,_⟩:=hr;unfold execOp;rw[ho];simp only[e];rfl
 ·obtain⟨vs,e,_⟩:=hr;unfold execOp;rw[ho];simp only[e];rfl
def b1W (P:Program) (env:Env):List Operand→Option (List (List C))
 |[]=>some []
 |x::xs=>match ev P env 0 x with
  |some (.one (.ref r))=>match b1W P env xs with
   |some rs=>some (r::rs)
   |none=>none
  |_=>none
theorem b1X {M:Mem} {ν:Nu} {a:Act} {env:Env} {o:Oper} (he:a3Z M ν a env o):∀ (xs:List Operand) (rs:List (List C)),(∀ x∈xs,x∈o.op.operands)→b1W P env xs=some rs→a4h M rs (xs.map a.eval)
 |[],rs,_,h=>by simp only[b1W,Option.some.injEq] at h;subst h;simp only[a4h,za6]
 |x::xs,rs,hx,h=>by
  simp only[b1W] at h
  split at h
  ·rename_i r ex
   split at h
   ·rename_i q u
    simp only[Option.some.injEq] at h
    subst h
    have hr:=a0z he (hx x (by simp)) ex
    simp only[T.rep,Cell.rep] at hr
    obtain⟨b,off,vs,e,h1,h2⟩:=hr
    simp only[a4h,zau]
    exact⟨b,off,vs,_,by rw[e],h1,h2,b1X he xs q (fun y hy=>hx y (by simp[hy])) u⟩
   ·cases h
  ·cases h
def a8i (P:Program) (fn:Fn) (first captured:List Operand) (env:Env) (K:T→Prop):Prop:=
  match fn,first,b1W P env captured with
  | .func f,[],some rs=>K (.one (.dat (.fnc f rs)))
  |_,_,_=>False
theorem vMakeFunc_sound {fn:Fn} {first captured:List Operand} {env:Env} {B:Bx} {o:Oper} {K:T→Prop} (ho:o.op= .makeFunc fn first.toArray captured.toArray)
  (h:a8i P fn first captured env K):∃ u,OpP P o env B u∧K u:=by
 unfold a8i at h
 split at h
 ·rename_i f rs er
  refine⟨_,OpP.of_val fun κ M ν ac w B' hB he hs=>?_,h⟩
  refine⟨.func (.func f) #[] (captured.map ac.eval).toArray,?_,?_⟩
  ·unfold execOp;rw[ho];simp[Instr.makeFunc]
  ·simp only[T.rep,Cell.rep,C.rep]
   exact⟨_,rfl,b1X he captured rs (fun x hx=>by rw[ho];simp[Op.operands,hx]) er⟩
 ·exact h.elim
def c8T (b:UInt8):List C:=[.int .u8 b.toNat]
def a4K:List (List C)→Option (List UInt8)
 |[]=>some []
 |[.int .u8 n]::rs=>match a4K rs with
  |some l=>bif decide (0≤n)&&decide (n<256) then some (UInt8.ofNat n.toNat::l) else none
  |none=>none
 |_=>none
@[go_sem] theorem b5G:∀ l:List UInt8,a4K (l.map c8T)=some l
 |[]=>rfl
 |b::l=>by
  have h:=UInt8.toNat_lt b
  rw[zau,c8T,a4K,b5G l]
  simp only
  rw[show (decide ((0:Int)≤(b.toNat:Int))&&decide ((b.toNat:Int)<256))=true by simp;omega]
  simp
theorem a7S {M:Mem0} {sz:Nat}:∀ {rows:List (List C)} {l:List UInt8} {vs:List Value},a4K rows=some l→a0q M sz rows vs→vs=l.map fun b=>Value.int .u8 b.toNat
 |[],l,vs,h,hr=>by
  simp only[a4K,Option.some.injEq] at h
  subst h
  simpa only[a0q,za6] using hr
 |r::rows,l,vs,h,hr=>by
  unfold a4K at h
  split at h
  ·simp_all
  ·rename_i n rs e
   cases e
   split at h
   ·rename_i l' hl
    cases hb:decide (0≤n)&&decide (n<256) with
    |false=>rw[hb] at h;cases h
    |true=>
     rw[hb] at h
     simp only[zaa,Option.some.injEq] at h
     subst h
     rw[zag,zan,zan] at hb
     simp only[a0q,a0x,C.rep] at hr
     obtain⟨v1,v2,e,_,⟨v,q,e1,e2,e3⟩,h2⟩:=hr
     subst e e1 e2 e3
     rw[a7S hl h2,zau]
     have:(((UInt8.ofNat n.toNat).toNat:Nat):Int)=n:=by
      rw[UInt8.toNat_ofNat_of_lt' (by show n.toNat<256;omega)];omega
     rw[this];rfl
   ·cases h
  ·cases h
theorem a7T:∀ {rows:List (List C)} {l:List UInt8},a4K rows=some l→rows.length=l.length
 |[],l,h=>by simp only[a4K,Option.some.injEq] at h;subst h;rfl
 |r::rows,l,h=>by
  unfold a4K at h
  split at h
  ·simp_all
  ·rename_i n rs e
   cases e
   split at h
   ·rename_i l' hl
    cases hb:decide (0≤n)&&decide (n<256) with
    |false=>rw[hb] at h;cases h
    |true=>
     rw[hb] at h
     simp only[zaa,Option.some.injEq] at h
     subst h
     rw[List.length_cons,List.length_cons,a7T hl]
   ·cases h
  ·cases h
theorem At.bytes {w:World} {b off:Nat} {l:List UInt8} (h:At (w.heap[b]?) off (l.map fun x=>Value.int .u8 x.toNat)):∀ j (hj:j<l.length),w.cell? ((⟨b,off,none⟩:Addr).add j)=some (.int .u8 (l[j].toNat:Int)):=
  fun j hj=>h.cell (by rw[zbv,zav hj];rfl)
def d0E (P:Program) (t:TypeId):Bool:=
 match P.underlying t with
 |some (.slice e)=>(match P.underlying e with
  |some (.int .u8)=>true
  |_=>false)
 |_=>false
theorem b36 {t:TypeId} (h:d0E P t=true):∃ e,P.underlying t=some (.slice e)∧P.underlying e=some (.int .u8):=by
 unfold d0E at h
 split at h
 ·rename_i e he
  split at h
  ·rename_i q;exact⟨e,he,q⟩
  ·cases h
 ·cases h
def c2t (P:Program) (q dst:TypeId) (B:Bx) (x:Option T) (K:T→Prop):Prop:=
 match kdT P q,kdT P dst,x with
 |some _,some (.int k),some (.one (.dat (.int _ n)))=>K (I k (k.wrap n))
 |some .str,some .str,some (.one (.dat (.str l)))=>K (S l)
 |some _,some .str,some (.one (.dat (.sl _ rows)))=>match a4K rows with
  |some l=>d0E P q=true∧K (S l)
  |none=>False
 |some _,some .str,some (.one (.own k m))=>match B.lookup k with
  |some (.row _ rows)=>match a4K rows with
   |some l=>d0E P q=true∧m=rows.length∧K (S l)
   |none=>False
  |_=>False
 |_,_,_=>False
theorem vConv_sound {aa dst:TypeId} {x:Operand} {ty:TypeId} {env:Env} {B:Bx} {o:Oper} {K:T→Prop} (ho:o.op= .convert aa dst x)
  (h:c2t P aa dst B (ev P env ty x) K):∃ u,OpP P o env B u∧K u:=by
 have hx:x∈o.op.operands:=by rw[ho];simp[Op.operands]
 have ag:∀ (a:Act),execOp a.eval o=(do pure (.value (← convert aa dst (a.eval x)))):=by
  intro a;unfold execOp;rw[ho]
 unfold c2t at h
 split at h
 ·rename_i ks k k0 n hs hd ex
  refine⟨_,OpP.of_val fun κ M ν ac w B' hB he ab=>⟨_,a1B (ag ac) ?_,a0S.2 rfl⟩,h⟩
  have e1:=a0S.1 (a0z he hx ex)
  have ae:∃ d,P.underlying aa=some d:=by
   unfold kdT at hs;split at hs<;>first|(exact⟨_,by assumption⟩)|cases hs
  obtain⟨d,ae⟩:=ae
  rw[e1]
  unfold convert
  simp only[Sem.run_bind,run_underlying ae,run_underlying (c5I hd),Result.andThen_ok]
  rfl
 ·rename_i l hs hd ex
  refine⟨_,OpP.of_val fun κ M ν ac w B' hB he ab=>⟨_,a1B (ag ac) ?_,a4i.2 rfl⟩,h⟩
  have e1:=a4i.1 (a0z he hx ex)
  rw[e1]
  unfold convert
  simp only[Sem.run_bind,run_underlying (a5o hs),run_underlying (a5o hd),Result.andThen_ok]
  rfl
 ·rename_i ao sz rows hs hd ex
  split at h
  ·rename_i l hl
   obtain⟨al,h⟩:=h
   obtain⟨e,hu,ad⟩:=b36 al
   refine⟨_,OpP.of_val fun κ M ν ac w B' hB he ab=>⟨_,a1B (ag ac) ?_,a4i.2 rfl⟩,h⟩
   have hr:=a0z he hx ex
   simp only[T.rep,Cell.rep,C.rep] at hr
   obtain⟨a,cap,mid,au,av,aw,an,ah⟩:=hr
   have q:=a7T hl
   have ar:=a7S hl an
   rw[au,q]
   cases a with
   |none=>
    have:l=[]:=by
     rcases ah with h0|⟨b,off,ea,_⟩
     ·rw[h0] at q;exact zbk.1 q.symm
     ·cases ea
    subst this
    exact run_convert_bytes_nil w aa e hu ad _ _ dst (a5o hd)
   |some a=>
    refine run_convert_bytes_back w aa dst e a cap l hu ad (a5o hd) ?_
    rcases ah with h0|⟨b,off,ea,ah⟩
    ·intro j hj
     rw[h0] at q
     rw[← q] at hj
     exact absurd hj (Nat.not_lt_zero _)
    ·cases ea
     have h2:=ah.of_fro ab
     rw[ar] at h2
     exact h2.bytes
  ·exact h.elim
 ·rename_i ao k m hs hd ex
  split at h
  ·rename_i sz rows hb
   split at h
   ·rename_i l hl
    obtain⟨al,hm,h⟩:=h
    obtain⟨e,hu,ad⟩:=b36 al
    refine⟨_,OpP.of_val fun κ M ν ac w B' hB he ab=>⟨_,a1B (ag ac) ?_,a4i.2 rfl⟩,h⟩
    have hr:=a0z he hx ex
    simp only[T.rep,Cell.rep] at hr
    have af:=ab.res k _ (hB _ (a0O hb))
    simp only[Res.ok] at af
    have q:=a7T hl
    rw[hr,hm,q]
    rcases af.2.2 with⟨ai,aj⟩|⟨b,c,et,mid,post,ap,am,aq,ak,_⟩
    ·have:l=[]:=by have:=af.1;rw[aj,q] at this;exact zbk.1 (by omega)
     subst this
     rw[ai]
     exact run_convert_bytes_nil w aa e hu ad _ _ dst (a5o hd)
    ·rw[ap]
     refine run_convert_bytes_back w aa dst e ⟨b,0,none⟩ _ l hu ad (a5o hd) ?_
     have h0:=At.whole am
     rw[aq,a7S hl ak] at h0
     have h1:At (w.heap[b]?) 0 (l.map fun x=>Value.int .u8 x.toNat):=by
      have:=At.sub (v1:=[]) (v2:=l.map fun x=>Value.int .u8 x.toNat) (v3:=post) (by simpa using h0)
      simpa using this
     exact h1.bytes
   ·exact h.elim
  ·exact h.elim
 ·exact h.elim
theorem a7i {h:Array Obj} {b:Nat} {o x:Obj} (e:h[b]?= some x):(h.push o)[b]?= some x:=by
  have q:=(zbi.1 e).1
  rw[Array.getElem?_push,za5 (by omega)];exact e
theorem b2W {h:Array Obj} {b:Nat} {o:Obj} (q:b<h.size):(h.push o)[b]?= h[b]?:= by
  rw[Array.getElem?_push,za5 (by omega)]
theorem push_new {h:Array Obj} {o:Obj}:(h.push o)[h.size]?= some o:=by simp
theorem Res.ok_mono {M M':Mem} {ν:Nu} {w w':World} {k:Nat} (hM:M.le M') (hh:∀ b x,w.heap[b]?= some x→(ν k).blk=some b→w'.heap[b]?= some x):∀ {r:Res},r.ok M ν w k→r.ok M' ν w' k
 | .cells cs,h=>by
  simp only[Res.ok] at h ⊢
  obtain⟨b,c,et,e1,e2,e3⟩:=h
  exact⟨b,c,et,e1,hh _ _ e2 e1,Cell.reps_mono hM _ _ e3⟩
 | .row sz rows,h=>by
  simp only[Res.ok] at h ⊢
  obtain⟨h1,h2,h3⟩:=h
  refine⟨h1,h2,?_⟩
  rcases h3 with h3|⟨b,c,et,mid,post,e1,e2,e3,e4,e5⟩
  ·exact .inl h3
  ·exact .inr ⟨b,c,et,mid,post,e1,hh _ _ e2 e1,e3,a3X hM _ _ _ e4,e5⟩
 | .mp ag es,h=>by
  simp only[Res.ok] at h ⊢
  obtain⟨b,ents,q,e1,e2,e3⟩:=h
  exact⟨b,ents,q,e1,hh _ _ e2 e1,a9D hM _ _ e3⟩
theorem Res.blk_lt {M:Mem} {ν:Nu} {w:World} {k b:Nat}:∀ {r:Res},r.ok M ν w k→(ν k).blk=some b→b<w.heap.size
 | .cells cs,h,e=>by
  simp only[Res.ok] at h
  obtain⟨b',c,et,e1,e2,e3⟩:=h
  rw[e1] at e;cases e
  exact(zbi.1 e2).1
 | .row sz rows,h,e=>by
  simp only[Res.ok] at h
  obtain⟨h1,h2,h3⟩:=h
  rcases h3 with⟨h3,_⟩|⟨b',c,et,mid,post,e1,e2,e3,e4,e5⟩
  ·rw[h3] at e;cases e
  ·rw[e1] at e;cases e
   exact(zbi.1 e2).1
 | .mp ag es,h,e=>by
  simp only[Res.ok] at h
  obtain⟨b',ents,q,e1,e2,e3⟩:=h
  rw[e1] at e;cases e
  exact(zbi.1 e2).1
theorem Sat.top {κ:Kap} {M:Mem} {ν:Nu} {B:Bx} {w:World} (h:Sat κ M ν B w):M w.heap.size=none:=by
  cases hM:M w.heap.size with
  |none=>rfl
  |some o=>have:=h.fro _ _ hM;simp at this
theorem Sat.freeze_new {κ:Kap} {M:Mem} {ν:Nu} {B:Bx} {w:World} (h:Sat κ M ν B w) (o:Obj) (ho:∃ c t,o= .cells c t):
  M.ext κ (M.add w.heap.size o)∧Sat κ (M.add w.heap.size o) ν B { w with heap:=w.heap.push o }:=by
 have q:=h.top
 have u:M.le (M.add w.heap.size o):=by
  intro b x e
  rw[Mem.add_at q]
  split
  ·rename_i hb;subst hb
   have:=h.fro _ _ e;simp at this
  ·exact e
 have aa:∀ b x,M.add w.heap.size o b=some x→M b=some x∨κ.w.heap.size≤b∨κ.D b:=by
  intro b x e
  rw[Mem.add_at q] at e
  split at e
  ·rename_i hb;subst hb;exact .inr (.inl h.size)
  ·exact .inl e
 refine⟨⟨u,aa⟩,h.os,h.tape,h.output,zao _,by simp;have:=h.size;omega,?_,?_,?_,?_,h.inj,h.nodup⟩
 ·intro b hb hD
  rw[← h.unch b hb hD]
  exact b2W (zdf hb h.size)
 ·intro b x e
  rw[Mem.add_at q] at e
  split at e
  ·rename_i hb;subst hb;cases e;exact push_new
  ·exact a7i (h.fro _ _ e)
 ·intro k r hm
  exact Res.ok_mono u (fun b x e _=>a7i e) (h.res k r hm)
 ·intro k r b hm hb
  obtain⟨h1,h2⟩:=h.away k r b hm hb
  refine⟨?_,h2⟩
  rw[Mem.add_at q]
  have:=Res.blk_lt (h.res k r hm) hb
  rw[za5 (by omega)];exact h1
def a3d:T→Option (List Cell)
  | .one c=>some [c]
  | .st r=>some (r.map .dat)
  | .agg cs=>some cs
  | .tup _=>none
  | .un=>none
def a1Z {α:Type}:Nat→List α→Bool
  |0,[]=>true
  |n+1,_::l=>a1Z n l
  |_,_=>false
theorem a2u {α:Type}:∀ {n:Nat} {l:List α},a1Z n l=true→l.length=n
  |0,[],_=>rfl
  |n+1,_::l,h=>by simp only[a1Z] at h;simp[a2u h]
  |0,_::_,h=>by simp[a1Z] at h
  |n+1,[],h=>by simp[a1Z] at h
theorem b5H {M:Mem0} {ν:Nu} {t:T} {cs:List Cell} {v:Value} (h:a3d t=some cs) (hr:t.rep M ν v) (h1:∀ c,t= .one c→∀ a,v≠ .agg a):Cell.reps M ν cs v.cells.toList:=by
 cases t with
 |one c=>
  simp only[a3d,Option.some.injEq] at h;subst h
  simp only[T.rep] at hr
  have:v.cells.toList=[v]:=by
   cases v<;>first|rfl|exact absurd rfl (h1 c rfl _)
  rw[this]
  simp only[Cell.reps]
  exact⟨v,[],rfl,hr,rfl⟩
 |st r=>
  simp only[a3d,Option.some.injEq] at h;subst h
  simp only[T.rep] at hr
  obtain⟨a,e,h⟩:=hr
  subst e
  exact Cell.reps_map_c.2 h
 |agg q=>
  simp only[a3d,Option.some.injEq] at h;subst h
  simp only[T.rep] at hr
  obtain⟨a,e,h⟩:=hr
  subst e
  exact h
 |tup ts=>cases h
 |un=>cases h
theorem C.rep_noagg {M:Mem0} {c:C} {v:Value} (h:c.rep M v) (a:Array Value):v≠ .agg a:=by
 cases c<;>simp only[C.rep] at h
 case sl=>obtain⟨_,_,_,e,_⟩:=h;subst e;simp
 case fnc=>obtain⟨_,e,_⟩:=h;subst e;simp
 case err b=>
  cases b
  ·rw[show v=_ from h];simp
  ·obtain⟨_,_,e⟩:=h;subst e;simp
 all_goals subst h;simp
theorem Cell.rep_noagg {M:Mem0} {ν:Nu} {c:Cell} {v:Value} (h:c.rep M ν v) (a:Array Value):v≠ .agg a:=by
  cases c<;>simp only[Cell.rep] at h
  case dat=>exact C.rep_noagg h a
  case ptr=>obtain⟨_,_,e⟩:=h;subst e;simp
  case own=>subst h;simp
  case rp=>obtain⟨_,_,e⟩:=h;subst e;simp
  case arr=>obtain⟨_,_,e⟩:=h;subst e;simp
  case mp=>obtain⟨_,_,e⟩:=h;subst e;simp
  case ref=>obtain⟨_,_,_,e,_⟩:=h;subst e;simp
  case clo=>obtain⟨_,e,_⟩:=h;subst e;simp
theorem a7j {M:Mem0} {ν:Nu} {t:T} {cs:List Cell} {v:Value} (h:a3d t=some cs) (hr:t.rep M ν v):Cell.reps M ν cs v.cells.toList:=
  b5H h hr fun c e a=>by subst e;simp only[T.rep] at hr;exact Cell.rep_noagg hr a
def a7M:List C→List Value→Bool
 |[],[]=>true
 |c::cs,v::vs=>(match c,v with
  | .int k n, .int k' n'=>decide (k=k'∧n=n')
  | .bool b, .bool b'=>b==b'
  | .str [], .string s=>s.data.size==0
  | .nil _, .slice none 0 0=>true
  | .fnil, .nilFunc=>true
  | .err false, .nilIface=>true
  |_,_=>false)&&a7M cs vs
 |_,_=>false
theorem a5Z {M:Mem0}:∀ {cs:List C} {vs:List Value},a7M cs vs=true→a0x M cs vs
 |[],[],_=>by simp only[a0x]
 |c::cs,v::vs,h=>by
  simp only[a7M,zag] at h
  simp only[a0x]
  refine⟨v,vs,rfl,?_,a5Z h.2⟩
  have h1:=h.1
  split at h1
  ·simp only[zan] at h1;obtain⟨rfl,rfl⟩:=h1;simp only[C.rep]
  ·simp only[beq_iff_eq] at h1;subst h1;simp only[C.rep]
  ·rename_i s
   simp only[beq_iff_eq] at h1
   simp only[C.rep]
   have:s=ByteArray.mk [].toArray:=by apply ByteArray.ext;exact Array.eq_empty_of_size_eq_zero h1
   rw[this]
  ·simp only[C.rep]
  ·simp only[C.rep]
  ·simp only[C.rep,zab]
  ·cases h1
 |[],_::_,h=>by simp[a7M] at h
 |_::_,[],h=>by simp[a7M] at h
def c5K (P:Program):Nat→TypeId→Option (List C)
 |0,_=>none
 |d+1,t=>
  match P.underlying t with
  |some (.int k)=>some [.int k 0]
  |some .bool=>some [.bool false]
  |some .string=>some [.str []]
  |some (.slice e)=>(szT P e).map fun n=>[.nil n]
  |some (.func ..)=>some [.fnil]
  |some (.interface _)=>some [.err false]
  |some (.struct fs)=>fs.toList.foldr (fun f q=>match c5K P d f.type,q with
   |some x,some y=>some (x++y)
   |_,_=>none) (some [])
  |some (.array n e)=>(c5K P d e).map fun x=>(List.replicate n x).flatten
  |_=>none
def a0Y (P:Program) (t:TypeId):Option (List C):=
  match c5K P 12 t,(P.info? t).bind (·.zero) with
  |some zs,some z=>bif a7M zs z.cells.toList then some zs else none
  |_,_=>none
theorem b1Y {t:TypeId} {zs:List C} (h:a0Y P t=some zs):∃ z,(∀ w,(zeroValue t).run P w= .ok z w)∧a7M zs z.cells.toList=true:=by
 unfold a0Y at h
 split at h
 ·rename_i q z h1 h2
  cases hm:a7M q z.cells.toList with
  |false=>rw[hm] at h;cases h
  |true=>
   rw[hm] at h
   simp only[zaa,Option.some.injEq] at h
   subst h
   obtain⟨i,hi,hz⟩:=zca.1 h2
   exact⟨z,fun w=>by simp[zeroValue,typeInfo,hi,hz],hm⟩
 ·cases h
def a1P (P:Program) (t i:Nat):Option (Nat×Nat×TypeId):=
 match P.underlying t with
 |some (.struct fs)=>match fs[i]? with
  |some fd=>(szT P fd.type).map fun n=>(fd.offset,n,fd.type)
  |none=>none
 |some (.array len e)=>(szT P e).map fun n=>(i*n,n,e)
 |_=>none
def a0T (P:Program) (t:TypeId):Bool:=
  match P.underlying t with
  |some (.struct fs)=>fs.toList.all fun f=>(szT P f.type).isSome
  |some (.array _ e)=>(szT P e).isSome
  |_=>false
def b0r (P:Program) (t:TypeId) (env:Env):List (Nat×Operand)→List Cell→Option (List Cell)
 |[],cs=>some cs
 |(i,x)::rest,cs=>match a1P P t i with
  |some (off,n,ty)=>match ev P env ty x with
   |some u=>match a3d u with
    |some part=>bif a1Z n part then (match a1H off cs with
     |some (pre,y)=>match a1H n y with
      |some (_,post)=>b0r P t env rest (pre++(part++post))
      |none=>none
     |none=>none) else none
    |none=>none
   |none=>none
  |none=>none
def b64 (P:Program) (t:TypeId) (env:Env) (parts:List (Nat×Operand)) (K:T→Prop):Prop:=
 match a0Y P t with
 |some zs=>match b0r P t env parts (zs.map .dat) with
  |some cs=>a0T P t=true∧K (a9W cs)
  |none=>False
 |none=>False
theorem c8U (part:List Value):∀ (pre mid post:List Value) (j:Nat),mid.length=part.length→
  (part.zipIdx j).foldl (fun (cs:Array Value) (p:Value×Nat)=>cs.setIfInBounds (pre.length-j+p.2) p.1) (pre++(mid++post)).toArray=(pre++(part++post)).toArray∨pre.length<j:=by
 induction part with
 |nil=>intro pre mid post j h;left;simp at h;subst h;simp
 |cons v part ih=>
  intro pre mid post j h
  by_cases hj:pre.length<j
  ·exact .inr hj
  ·left
   cases mid with
   |nil=>simp at h
   |cons m mid=>
    rw[List.zipIdx_cons,List.foldl_cons]
    have e1:((pre++(m::mid++post)).toArray).setIfInBounds (pre.length-j+j) v=((pre++[v])++(mid++post)).toArray:=by
     have:pre.length-j+j=pre.length:=by omega
     rw[this]
     apply Array.ext'
     simp
    rw[e1]
    have:=ih (pre++[v]) mid post (j+1) (by simpa using h)
    rcases this with this|this
    ·have e2:(pre++[v]).length-(j+1)=pre.length-j:=by simp
     rw[e2] at this
     rw[this];simp
    ·simp at this;omega
theorem b0s {place:Nat→Option (Nat×Nat)} {cells:Array Value} {i off n:Nat} {v:Value} {rest:List (Nat×Value)} {pre mid post:List Value}
  (hp:place i=some (off,n)) (hv:v.cells.size=n) (hc:cells.toList=pre++(mid++post)) (h1:pre.length=off) (h2:mid.length=n):
  Instr.fill place cells ((i,v)::rest)=Instr.fill place (pre++(v.cells.toList++post)).toArray rest:=by
 rw[Instr.fill]
 have q:cells.size=off+(n+post.length):=by
  rw[← Array.length_toList,hc];simp[h1,h2]
 simp only[hp]
 rw[za5 (by simp[hv];omega)]
 congr 1
 have:=c8U v.cells.toList pre mid post 0 (by simp[h2,hv])
 rcases this with this|this
 ·simp only[Nat.sub_zero] at this
  rw[← this,← hc,← h1]
  rw[← Array.foldl_toList]
  simp[Array.toList_zipIdx]
 ·omega
theorem a6H {t:TypeId} {env:Env} {M:Mem} {ν:Nu} {a:Act} {place:Nat→Option (Nat×Nat)} (ag:∀ i off n ty,a1P P t i=some (off,n,ty)→place i=some (off,n)):
  ∀ (parts:List (Nat×Operand)) (cs aa:List Cell) (cells:Array Value),(∀ p∈parts,∀ ty u,ev P env ty p.2=some u→u.rep M ν (a.eval p.2))→b0r P t env parts cs=some aa→Cell.reps M ν cs cells.toList→
   ∃ q,Instr.fill place cells (parts.map fun (i,x)=>(i,a.eval x))=some q∧Cell.reps M ν aa q.toList
 |[],cs,aa,cells,_,h,hr=>by
  simp only[b0r,Option.some.injEq] at h
  subst h
  exact⟨cells,rfl,hr⟩
 |(i,x)::rest,cs,aa,cells,he,h,hr=>by
  simp only[b0r] at h
  split at h
  ·rename_i off n ty hp
   split at h
   ·rename_i u hu
    split at h
    ·rename_i part ae
     cases hl:a1Z n part with
     |false=>rw[hl] at h;cases h
     |true=>
      rw[hl] at h
      simp only[zaa] at h
      split at h
      ·rename_i pre y ak
       split at h
       ·rename_i old post an
        obtain⟨e1,l1⟩:=a02 ak
        obtain⟨e2,l2⟩:=a02 an
        have ab:=a7j ae (he (i,x) (by simp) ty u hu)
        rw[e1] at hr
        obtain⟨w1,ap,ew,af,ad⟩:=Cell.reps_split hr
        rw[e2] at ad
        obtain⟨w2,w3,ai,am,aj⟩:=Cell.reps_split ad
        have al:(a.eval x).cells.size=n:=by rw[← Array.length_toList,Cell.reps_length ab];exact a2u hl
        have step:=b0s (place:=place) (cells:=cells) (i:=i) (off:=off) (n:=n) (v:=a.eval x) (rest:=rest.map fun (i,x)=>(i,a.eval x)) (pre:=w1) (mid:=w2) (post:=w3)
         (ag i off n ty hp) al (by rw[ew,ai]) (by rw[Cell.reps_length af,l1]) (by rw[Cell.reps_length am,l2])
        have ah:Cell.reps M ν (pre++(part++post)) (w1++((a.eval x).cells.toList++w3)):=Cell.reps_append af (Cell.reps_append ab aj)
        obtain⟨q,hf,ao⟩:=a6H ag rest _ aa (w1++((a.eval x).cells.toList++w3)).toArray (fun p hp=>he p (zas _ hp)) h (by simpa using ah)
        refine⟨q,?_,ao⟩
        rw[zau]
        rw[step];exact hf
       ·cases h
      ·cases h
    ·cases h
   ·cases h
  ·cases h
theorem b5I (fs:List Field) (h:∀ f∈fs,(szT P f.type).isSome=true) (w:World):(fs.mapM (m:=Sem) fun f=>do pure (f.offset,← sizeOf f.type)).run P w= .ok (fs.map fun f=>(f.offset,(szT P f.type).getD 0)) w:=by
 induction fs with
 |nil=>simp
 |cons f fs ih=>
  obtain⟨n,hn⟩:=zd5.1 (h f (by simp))
  simp only[zdo,Sem.run_bind,a2y hn,Result.andThen_ok,Sem.run_pure,ih fun g hg=>h g (zas _ hg)]
  simp[hn]
theorem vBuild_sound {t:TypeId} {parts:List (Nat×Operand)} {env:Env} {B:Bx} {o:Oper} {K:T→Prop} (ho:o.op= .build t parts.toArray)
  (h:b64 P t env parts K):∃ u,OpP P o env B u∧K u:=by
 have ai:∀ (a:Act),execOp a.eval o=(do pure (.value (← Instr.build t (parts.map fun (i,x)=>(i,a.eval x)).toArray))):=by
  intro a;unfold execOp;rw[ho];simp
 unfold b64 at h
 split at h
 ·rename_i zs hz
  split at h
  ·rename_i cs hp
   obtain⟨hf,hK⟩:=h
   obtain⟨z,ah,ak⟩:=b1Y hz
   refine⟨_,OpP.of_val fun κ M ν ac w B' hB he hs=>?_,hK⟩
   have ae:∀ p∈parts,∀ ty u,ev P env ty p.2=some u→u.rep M ν (ac.eval p.2):=by
    intro p hp ty u hu
    refine a0z he ?_ hu
    rw[ho]
    simp only[Op.operands]
    simp
    exact⟨p.1,by cases p;exact hp⟩
   have aj:Cell.reps M ν (zs.map .dat) z.cells.toList:=Cell.reps_map_c.2 (a5Z ak)
   unfold a0T at hf
   split at hf
   ·rename_i fs hu
    have af:∀ i off n ty,a1P P t i=some (off,n,ty)→((fs.toList.map fun f=>(f.offset,(szT P f.type).getD 0))[i]?)=some (off,n):=by
     intro i off n ty q
     unfold a1P at q
     rw[hu] at q
     simp only[] at q
     split at q
     ·rename_i fd am
      cases ag:szT P fd.type with
      |none=>simp[ag] at q
      |some m=>
       simp only[ag,Option.map_some,Option.some.injEq,Prod.mk.injEq] at q
       rw[zbv,zb3,am]
       simp[ag,q.1,q.2.1]
     ·cases q
    obtain⟨aa,ab,ad⟩:=a6H (place:=fun i=>((fs.toList.map fun f=>(f.offset,(szT P f.type).getD 0))[i]?)) af parts _ cs z.cells ae hp aj
    refine⟨.agg aa,a1B (ai ac) ?_,a6E ad⟩
    have hm:=b5I (P:=P) fs.toList (za0.1 hf) w
    unfold Instr.build
    simp only[Sem.run_bind,ah,Result.andThen_ok,run_underlying hu]
    have al:(fs.mapM (m:=Sem) fun f=>do pure (f.offset,← sizeOf f.type)).run P w= .ok (fs.toList.map fun f=>(f.offset,(szT P f.type).getD 0)).toArray w:=by
     rw[Array.mapM_eq_mapM_toList]
     simp only[Sem.run_map,hm,Result.andThen_ok]
    simp only[al,Result.andThen_ok]
    have:(fun (x:Nat)=>((fs.toList.map fun f=>(f.offset,(szT P f.type).getD 0)).toArray[x]?))=fun (i:Nat)=>((fs.toList.map fun f=>(f.offset,(szT P f.type).getD 0))[i]?):=by
     funext i;simp
    rw[this,ab]
    rfl
   ·rename_i len e hu
    obtain⟨n,hn⟩:=zd5.1 hf
    have af:∀ i off m ty,a1P P t i=some (off,m,ty)→(fun i=>some (i*n,n)) i=some (off,m):=by
     intro i off m ty q
     unfold a1P at q
     rw[hu] at q
     simp only[hn,Option.map_some,Option.some.injEq,Prod.mk.injEq] at q ⊢
     exact⟨q.1,q.2.1⟩
    obtain⟨aa,ab,ad⟩:=a6H af parts _ cs z.cells ae hp aj
    refine⟨.agg aa,a1B (ai ac) ?_,a6E ad⟩
    unfold Instr.build
    simp only[Sem.run_bind,ah,Result.andThen_ok,run_underlying hu,a2y hn,ab,Sem.run_pure]
   ·cases hf
  ·exact h.elim
 ·exact h.elim
def C.soft:C→C
  | .nil n=> .sl n []
  | .int k n=> .int k n
  | .bool b=> .bool b
  | .str l=> .str l
  | .sl n r=> .sl n r
  | .fn f=> .fn f
  | .fnc f caps=> .fnc f caps
  | .fnil=> .fnil
  | .err b=> .err b
def Cell.soft:Cell→Cell
  | .dat c=> .dat c.soft
  | .ptr k o=> .ptr k o
  | .own k m=> .own k m
  | .rp k sz i f=> .rp k sz i f
  | .arr k n=> .arr k n
  | .ref r=> .ref r
  | .clo f caps=> .clo f caps
  | .mp k=> .mp k
mutual
def T.soft:T→T
  | .one c=> .one c.soft
  | .st r=> .st (r.map C.soft)
  | .agg cs=> .agg (cs.map Cell.soft)
  | .tup ts=> .tup (T.softs ts)
  | .un=> .un
def T.softs:List T→List T
  |[]=>[]
  |t::ts=>t.soft::T.softs ts
end
theorem C.rep_soft {M:Mem} {c:C} {v:Value} (h:c.rep M v):c.soft.rep M v:=by
  cases c<;>simp only[C.soft]<;>try exact h
  simp only[C.rep] at h ⊢
  subst h
  exact⟨none,0,[],rfl,zax _,zao _,by simp only[a0q], .inl trivial⟩
theorem Cell.rep_soft {M:Mem} {ν:Nu} {c:Cell} {v:Value} (h:c.rep M ν v):c.soft.rep M ν v:=by
  cases c<;>simp only[Cell.soft]<;>try exact h
  simp only[Cell.rep] at h ⊢
  exact C.rep_soft h
theorem b0t {M:Mem}:∀ {r:List C} {vs:List Value},a0x M r vs→a0x M (r.map C.soft) vs
 |[],vs,h=>by simpa only[za6] using h
 |c::r,vs,h=>by
  simp only[a0x] at h
  simp only[zau,a0x]
  obtain⟨v,q,e,h1,h2⟩:=h
  exact⟨v,q,e,C.rep_soft h1,b0t h2⟩
theorem Cell.reps_soft {M:Mem} {ν:Nu}:∀ {r:List Cell} {vs:List Value},Cell.reps M ν r vs→Cell.reps M ν (r.map Cell.soft) vs
 |[],vs,h=>by simpa only[za6] using h
 |c::r,vs,h=>by
  simp only[Cell.reps] at h
  simp only[zau,Cell.reps]
  obtain⟨v,q,e,h1,h2⟩:=h
  exact⟨v,q,e,Cell.rep_soft h1,Cell.reps_soft h2⟩
mutual
theorem T.rep_soft {M:Mem} {ν:Nu}:∀ {t:T} {v:Value},t.rep M ν v→t.soft.rep M ν v
  | .one c,v,h=>by simp only[T.soft,T.rep] at h ⊢; exact Cell.rep_soft h
  | .st r,v,h=>by simp only[T.soft,T.rep] at h ⊢; obtain⟨a,e,h⟩:=h;exact⟨a,e,b0t h⟩
  | .agg cs,v,h=>by simp only[T.soft,T.rep] at h ⊢; obtain⟨a,e,h⟩:=h;exact⟨a,e,Cell.reps_soft h⟩
  | .tup ts,v,h=>by simp only[T.soft,T.rep] at h ⊢; obtain⟨a,e,h⟩:=h;exact⟨a,e,T.reps_soft h⟩
  | .un,v,h=>by simpa only[T.soft,T.rep] using h
theorem T.reps_soft {M:Mem} {ν:Nu}:∀ {ts:List T} {vs:List Value},T.reps M ν ts vs→T.reps M ν (T.softs ts) vs
 |[],vs,h=>by simpa only[T.softs] using h
 |t::ts,vs,h=>by
  simp only[T.reps] at h
  simp only[T.softs,T.reps]
  obtain⟨v,vs',e,h1,h2⟩:=h
  exact⟨v,vs',e,T.rep_soft h1,T.reps_soft h2⟩
end
def a8j (t:Option T):Option T:=
  match t with
  |some t=>some t.soft
  |none=>none
theorem a3r {M:Mem} {ν:Nu} {a:Act} {env:Env} {o:Oper} {ty:TypeId} {x:Operand} {t:T} (he:a3Z M ν a env o) (hx:x∈o.op.operands) (h:a8j (ev P env ty x)=some t):
  t.rep M ν (a.eval x):=by
 unfold a8j at h
 split at h
 ·rename_i u e
  simp only[Option.some.injEq] at h
  subst h
  exact T.rep_soft (a0z he hx e)
 ·cases h
def bsT (P:Program) (t:TypeId):Option (TypeId×Nat):=
 match P.underlying t with
 |some (.slice e)=>match szT P e,(P.info? e).bind (·.zero) with
  |some (n+1),some z=>bif z.cells.size==n+1 then some (e,n+1) else none
  |_,_=>none
 |_=>none
theorem a8k {t e n:Nat} (h:bsT P t=some (e,n)):P.underlying t=some (.slice e)∧szT P e=some n∧(∃ z:Value,(∀ w,(zeroValue e).run P w= .ok z w)∧z.cells.size=n)∧n≠0:=by
 unfold bsT at h
 split at h
 ·rename_i e' hu
  split at h
  ·rename_i m z h1 h2
   cases hz:(z.cells.size==m+1) with
   |false=>rw[hz] at h;cases h
   |true=>
    rw[hz] at h
    simp only[zaa,Option.some.injEq,Prod.mk.injEq] at h
    obtain⟨rfl,rfl⟩:=h
    obtain⟨i,hi,q⟩:=zca.1 h2
    exact⟨hu,h1,⟨z,fun w=>by simp[zeroValue,typeInfo,hi,q],by simpa using hz⟩,by omega⟩
  ·cases h
 ·cases h
def b5J (P:Program) (e n:Nat) (env:Env):Nat→List (Nat×Operand)→Option (List (List C))
 |_,[]=>some []
 |k,(i,x)::rest=>bif i==k then (match a8j (ev P env e x) with
  |some u=>match a3d u with
   |some cs=>match a6D cs with
    |some r=>bif a1Z n r then (match b5J P e n env (k+1) rest with
     |some rs=>some (r::rs)
     |none=>none) else none
    |none=>none
   |none=>none
  |none=>none) else none
def a4L (P:Program) (t:TypeId) (len:Nat) (env:Env) (parts:List (Nat×Operand)) (K:T→Prop):Prop:=
 match bsT P t with
 |some (e,n)=>match b5J P e n env 0 parts with
  |some rows=>a1Z len parts=true∧len*n≤16777216∧K (.one (.dat (.sl n rows)))
  |none=>False
 |none=>False
theorem a7U {e n:Nat} {env:Env} {M:Mem} {ν:Nu} {a:Act}:
  ∀ (parts:List (Nat×Operand)) (k:Nat) (rows:List (List C)) (pre post:List Value),(∀ p∈parts,∀ u,a8j (ev P env e p.2)=some u→u.rep M ν (a.eval p.2))→b5J P e n env k parts=some rows→
   pre.length=k*n→post.length=parts.length*n→
   ∃ vs,Instr.fill (fun i=>some (i*n,n)) (pre++post).toArray (parts.map fun (i,x)=>(i,a.eval x))=some (pre++vs).toArray∧a0q M n rows vs∧rows.length=parts.length
 |[],k,rows,pre,post,_,h,h1,h2=>by
  simp only[b5J,Option.some.injEq] at h
  subst h
  have:post=[]:=zbk.1 (by simpa using h2)
  subst this
  exact⟨[],rfl,by simp only[a0q],rfl⟩
 |(i,x)::rest,k,rows,pre,post,he,h,h1,h2=>by
  simp only[b5J] at h
  cases ab:(i==k) with
  |false=>rw[ab] at h;cases h
  |true=>
   rw[ab] at h
   simp only[zaa] at h
   have ai:i=k:=by simpa using ab
   subst ai
   split at h
   ·rename_i u hu
    split at h
    ·rename_i cs al
     split at h
     ·rename_i r hr
      cases hl:a1Z n r with
      |false=>rw[hl] at h;cases h
      |true=>
       rw[hl] at h
       simp only[zaa] at h
       split at h
       ·rename_i rs aj
        simp only[Option.some.injEq] at h
        subst h
        have aa:=a7j al (he (i,x) (by simp) u hu)
        rw[a3K hr] at aa
        have q:=Cell.reps_map_c.1 aa
        have ah:=a2u hl
        have af:(a.eval x).cells.size=n:=by rw[← Array.length_toList,a0E q];exact ah
        have ak:post.length=n+rest.length*n:=by rw[h2,List.length_cons,zby,zcf];omega
        have ad:post=post.take n++post.drop n:=(zbt n post).symm
        have step:=b0s (place:=fun i=>some (i*n,n)) (cells:=(pre++post).toArray) (i:=i) (off:=i*n) (n:=n) (v:=a.eval x) (rest:=rest.map fun (i,x)=>(i,a.eval x)) (pre:=pre) (mid:=post.take n) (post:=post.drop n)
         rfl af (by rw[← ad]) h1 (by rw[zbb];omega)
        obtain⟨vs,hf,ae,ag⟩:=a7U rest (i+1) rs (pre++(a.eval x).cells.toList) (post.drop n) (fun p hp=>he p (zas _ hp)) aj
         (by rw[zba,h1,Array.length_toList,af,zby,zcf]) (by rw[za1,ak];omega)
        refine⟨(a.eval x).cells.toList++vs,?_,?_,by simp[ag]⟩
        ·rw[zau,step,← zb1,hf,zb1]
        ·simp only[a0q]
         exact⟨_,vs,rfl,ah,q,ae⟩
       ·cases h
     ·cases h
    ·cases h
   ·cases h
theorem vBuildSlice_sound {t:TypeId} {len:Nat} {parts:List (Nat×Operand)} {env:Env} {B:Bx} {o:Oper} {K:T→Prop} (ho:o.op= .buildSlice t len parts.toArray)
  (h:a4L P t len env parts K):∃ u,OpP P o env B u∧K u:=by
 have ap:∀ (a:Act),execOp a.eval o=(do pure (.value (← Instr.buildSlice t len (parts.map fun (i,x)=>(i,a.eval x)).toArray))):=by
  intro a;unfold execOp;rw[ho];simp
 unfold a4L at h
 split at h
 ·rename_i e n ao
  obtain⟨hu,ak,⟨z,hz,au⟩,aq⟩:=a8k ao
  split at h
  ·rename_i rows hr
   obtain⟨ah,an,hK⟩:=h
   have ai:=a2u ah
   refine⟨_,OpP.of_run fun κ M ν ac w B' hB he hs=>?_,hK⟩
   have aj:∀ p∈parts,∀ u,a8j (ev P env e p.2)=some u→u.rep M ν (ac.eval p.2):=by
    intro p hp u hu
    refine a3r he ?_ hu
    rw[ho]
    simp only[Op.operands]
    simp
    exact⟨p.1,by cases p;exact hp⟩
   let zero:Array Value:=if len*n=0 then #[] else z.cells
   let q:List Value:=((Array.range (len*n)).map (zero[· % zero.size]!)).toList
   have ab:q.length=parts.length*n:=by simp[q,ai]
   obtain⟨vs,hf,ag,am⟩:=a7U (a:=ac) parts 0 rows [] q aj hr (by simp) ab
   obtain⟨ad,al⟩:=hs.freeze_new (.cells vs.toArray e) ⟨_,_,rfl⟩
   refine⟨.slice (some ⟨w.heap.size,0,none⟩) len len,_,_,a1B (ap ac) ?_,ad,?_,al⟩
   ·have ae:¬ len*n>2 ^ 24:=by omega
    have aa:Instr.fill (fun i=>some (i*n,n)) ((Array.range (len*n)).map (zero[· % zero.size]!)) (parts.map fun (i,x)=>(i,ac.eval x))=some vs.toArray:=by
     have e1:((Array.range (len*n)).map (zero[· % zero.size]!))=([]++q).toArray:=by simp only[q,List.nil_append,Array.toArray_toList]
     rw[e1,hf];simp
    unfold Instr.buildSlice
    by_cases h0:len*n=0
    ·have af:zero= #[]:=by simp only[zero,h0,za9]
     rw[af] at aa
     rw[h0] at aa ae
     simp only[Sem.run_bind,run_underlying hu,Result.andThen_ok,a2y ak,ae,za2,Sem.run_pure,h0,za9,aa,newRow,run_newObj]
    ·have af:zero=z.cells:=by simp only[zero,h0,za2]
     rw[af] at aa
     simp only[Sem.run_bind,run_underlying hu,Result.andThen_ok,a2y ak,ae,za2,Sem.run_pure,h0,hz,aa,newRow,run_newObj]
   ·have ar:parts.length=rows.length:=am.symm
    simp only[T.rep,Cell.rep,C.rep]
    refine⟨some ⟨w.heap.size,0,none⟩,len,vs,by rw[am,ai],by omega,?_,?_,?_⟩
    ·have:len≤len*n:=zd6 _ (Nat.pos_of_ne_zero aq)
     unfold maxLen;omega
    ·exact a3X ad.1 n rows vs ag
    ·right
     refine⟨w.heap.size,0,rfl,vs.toArray,e,(0,0),[],[],?_,by simp,rfl⟩
     rw[Mem.add_at hs.top,zaz rfl]
  ·exact h.elim
 ·exact h.elim
theorem a47 {o:Oper} {b:Builtin} {args:Array Operand} {ts:Array TypeId} (ho:o.op= .call { callee:= .builtin b,args:=args,argTypes:=ts }) (a:Act):
  execOp a.eval o=builtin b ts o.type (args.map fun| .const _=>true|_=>false) (args.map a.eval):=by
 unfold execOp
 rw[ho]
 rfl
def d0F (P:Program) (t:TypeId) (x:Option T) (K:T→Prop):Prop:=
 match x with
 |some (.one (.dat (.str l)))=>kdT P t=some .str∧K (I .i64 l.length)
 |some (.one (.dat (.sl _ rows)))=>match elT P t with
  |some _=>K (I .i64 rows.length)
  |none=>False
 |some (.one (.own _ m))=>match elT P t with
  |some _=>K (I .i64 m)
  |none=>False
 |some (.one (.arr _ m))=>match elT P t with
  |some _=>K (I .i64 m)
  |none=>False
 |_=>False
theorem vLen_sound {t:TypeId} {x:Operand} {ty:TypeId} {env:Env} {B:Bx} {o:Oper} {K:T→Prop} (ho:o.op= .call { callee:= .builtin .len,args:= #[x],argTypes:= #[t] })
  (h:d0F P t (a8j (ev P env ty x)) K):∃ u,OpP P o env B u∧K u:=by
 have hx:x∈o.op.operands:=by rw[ho];simp[Op.operands,Call.operands]
 have aa:∀ (a:Act),execOp a.eval o=(do pure (.value (← Builtin.len_ #[t] o.type #[a.eval x]))):=by
  intro a;rw[a47 ho];simp[builtin]
 unfold d0F at h
 split at h
 ·rename_i l ex
  refine⟨_,OpP.of_val fun κ M ν ac w B' hB he hs=>⟨_,a1B (aa ac) ?_,a0S.2 rfl⟩,h.2⟩
  have e1:=a4i.1 (a3r he hx ex)
  rw[e1]
  simp[Builtin.len_,run_underlying (a5o h.1),goInt,a83]
 ·rename_i n rows ex
  split at h
  ·rename_i p q
   obtain⟨e,hu,_⟩:=a5X (n:=p.1) (b:=p.2) q
   refine⟨_,OpP.of_val fun κ M ν ac w B' hB he hs=>⟨_,a1B (aa ac) ?_,a0S.2 rfl⟩,h⟩
   have hr:=a3r he hx ex
   simp only[T.rep,Cell.rep,C.rep] at hr
   obtain⟨a,cap,mid,ev,_⟩:=hr
   rw[ev]
   simp[Builtin.len_,run_underlying hu,goInt]
  ·exact h.elim
 ·rename_i k m ex
  split at h
  ·rename_i p q
   obtain⟨e,hu,_⟩:=a5X (n:=p.1) (b:=p.2) q
   refine⟨_,OpP.of_val fun κ M ν ac w B' hB he hs=>⟨_,a1B (aa ac) ?_,a0S.2 rfl⟩,h⟩
   have hr:=a3r he hx ex
   simp only[T.rep,Cell.rep] at hr
   rw[hr]
   simp[Builtin.len_,run_underlying hu,goInt]
  ·exact h.elim
 ·rename_i k m ex
  split at h
  ·rename_i p q
   obtain⟨e,hu,_⟩:=a5X (n:=p.1) (b:=p.2) q
   refine⟨_,OpP.of_val fun κ M ν ac w B' hB he hs=>⟨_,a1B (aa ac) ?_,a0S.2 rfl⟩,h⟩
   have hr:=a3r he hx ex
   simp only[T.rep,Cell.rep] at hr
   obtain⟨b,hb,ev⟩:=hr
   rw[ev]
   simp[Builtin.len_,run_underlying hu,goInt]
  ·exact h.elim
 ·exact h.elim
def b0u (isMax:Bool) (x y:Option T) (K:T→Prop):Prop:=
  match x,y with
  |some (.one (.dat (.int k a))),some (.one (.dat (.int k' b)))=>K (I k (bif isMax then (if b>a then b else a) else (if b<a then b else a)))
  |_,_=>False
theorem vMinMax_sound {isMax:Bool} {t1 t2:TypeId} {ts:Array TypeId} {x y:Operand} {env:Env} {B:Bx} {o:Oper} {K:T→Prop} (ho:o.op= .call { callee:= .builtin (if isMax then .max else .min),args:= #[x,y],argTypes:=ts })
  (h:b0u isMax (ev P env t1 x) (ev P env t2 y) K):∃ u,OpP P o env B u∧K u:=by
 have hx:x∈o.op.operands:=by rw[ho];simp[Op.operands,Call.operands]
 have hy:y∈o.op.operands:=by rw[ho];simp[Op.operands,Call.operands]
 unfold b0u at h
 split at h
 ·rename_i k a k' b ex ey
  refine⟨_,OpP.of_val fun κ M ν ac w B' hB he hs=>⟨_,?_,a0S.2 rfl⟩,h⟩
  have e1:=a0S.1 (a0z he hx ex)
  have e2:=a0S.1 (a0z he hy ey)
  rw[a47 ho]
  cases isMax
  ·simp[builtin,Builtin.min_,Builtin.min2,e1,e2]
  ·simp[builtin,Builtin.max_,Builtin.max2,e1,e2]
 ·exact h.elim
def Ent (P:Program) (f:FuncId):Prop:=∃ fn,P.funcs[f]?= some fn∧(fn.name== "runtime.NumGoroutine")=false∧fn.body.isNone=false
def a0v (B:Bx) (ν:Nu) (b:Nat):Prop:=∃ k r,(k,r)∈B∧(ν k).blk=some b
def PCB (P:Program) (f:FuncId) (args:List T) (B:Bx) (r:T) (B':Bx):Prop:=
 Ent P f∧∀ M ν w vs,Sat ⟨w,a0v B ν,ν⟩ M ν B w→T.reps M ν args vs→
  Calls P f vs.toArray w (fun e w'=>∃ v M',e= .returned v∧Mem.ext ⟨w,a0v B ν,ν⟩ M M'∧r.rep M' ν v∧Sat ⟨w,a0v B ν,ν⟩ M' ν B' w')
def PC (P:Program) (f:FuncId) (args:List T) (r:T):Prop:=PCB P f args [] r []
theorem Sat.nil {κ:Kap} {M:Mem} {ν:Nu} {B:Bx} {w:World} (h:Sat κ M ν B w) (D:Nat→Prop) (ν':Nu):Sat ⟨w,D,ν'⟩ M ν [] w:=
  ⟨rfl,rfl,rfl,zao _,zax _,fun _ _ _=>rfl,h.fro,fun _ _ h=>(by cases h),fun _ _ _ h=>(by cases h),fun _ _ _ _ _ h=>(by cases h),by simp⟩
theorem Sat.call {κ κ1:Kap} {M M':Mem} {ν ν1:Nu} {B B1 B1' B' ap:Bx} {w w':World} (h:Sat κ M ν B w) (ad:∀ x∈B1,x∈B) (h1:Sat κ1 M' ν1 ap w') (hκ:κ1.w=w) (af:∀ b,κ1.D b→a0v B1 ν b)
  (aj:∀ k r,(k,r)∈B1'→r.ok M' ν w' k) (q:Mem.ext κ1 M M')
  (al:∀ k r b,(k,r)∈B1'→(ν k).blk=some b→M' b=none) (hB:∀ x∈B',x∈B1'∨(x∈B∧x.1∉B1.map (·.1))) (hk:∀ x∈B',x.1∈B.map (·.1)) (ao:(B'.map (·.1)).Nodup):Sat κ M' ν B' w'∧Mem.ext κ M M':=by
 subst hκ
 have ar:κ1.w.heap.size≤w'.heap.size:=h1.size
 have ag:∀ k r b,(k,r)∈B→k∉B1.map (·.1)→(ν k).blk=some b→¬ a0v B1 ν b:=by
  rintro k r b hm hn hb ⟨k',r',ae,ak⟩
  have:=h.inj k r k' r' b hm (ad _ ae) hb ak
  subst this
  exact hn (za3.2 ⟨(k,r'),ae,rfl⟩)
 refine⟨⟨h1.os.trans h.os,h1.tape.trans h.tape,h1.output.trans h.output,zao _,zbe h.size ar,?_,h1.fro,?_,?_,?_,ao⟩,q.1,fun b o e=>(q.2 b o e).elim .inl fun hb=> .inr (hb.elim (fun hb=> .inl (zbe h.size hb)) fun hd=>by
  obtain⟨k,r,hm,ah⟩:=af b hd
  exact(h.away k r b (ad _ hm) ah).2)⟩
 ·intro b hb hD
  rw[← h.unch b hb hD]
  refine h1.unch b (zdf hb h.size) fun aq=>?_
  obtain⟨k,r,hm,ah⟩:=af b aq
  rcases (h.away k r b (ad _ hm) ah).2 with h2|h2
  ·omega
  ·exact hD h2
 ·intro k r hm
  rcases hB (k,r) hm with ab|⟨am,hn⟩
  ·exact aj k r ab
  ·refine Res.ok_mono q.1 (fun b x e hb=>?_) (h.res k r am)
   rw[← e]
   exact h1.unch b (zbi.1 e).1 (fun hd=>ag k r b am hn hb (af b hd))
 ·intro k r b hm hb
  obtain⟨⟨k0,r0⟩,u,aa⟩:=za3.1 (hk (k,r) hm)
  simp only at aa
  subst aa
  obtain⟨ha,hc⟩:=h.away k0 r0 b u hb
  refine⟨?_,hc⟩
  cases ai:M' b with
  |none=>rfl
  |some o=>
   rcases q.2 b o ai with h2|h2|h2
   ·rw[ha] at h2;cases h2
   ·have:=Res.blk_lt (h.res k0 r0 u) hb
    have au:κ1.w.heap.size≤b:=h2
    omega
   ·rcases hB (k0,r) hm with ab|⟨_,hn⟩
    ·rw[al k0 r b ab hb] at ai;cases ai
    ·exact absurd (af b h2) (ag k0 r0 b u hn hb)
 ·intro k r k' r' b hm ae hb ak
  obtain⟨⟨k0,r0⟩,u,aa⟩:=za3.1 (hk (k,r) hm)
  obtain⟨⟨k1,r1⟩,ab,an⟩:=za3.1 (hk (k',r') ae)
  simp only at aa an
  subst aa;subst an
  exact h.inj _ _ _ _ b u ab hb ak
def a2D (t:Option T):Option (FuncId×List T):=
  match t with
  |some (.one (.dat (.fn f)))=>some (f,[])
  |some (.one (.clo f caps))=>some (f,caps.map .one)
  |some (.one (.dat (.fnc f caps)))=>some (f,caps.map fun r=> .one (.ref r))
  |_=>none
def evs (P:Program) (env:Env):List Operand→List TypeId→Option (List T)
 |[],_=>some []
 |x::xs,ts=>match a8j (ev P env (ts.headD 0) x) with
  |some t=>match evs P env xs ts.tail with
   |some us=>some (t::us)
   |none=>none
  |none=>none
theorem b9E {M:Mem} {ν:Nu} {a:Act} {env:Env} {o:Oper} (he:a3Z M ν a env o):∀ (xs:List Operand) (ts:List TypeId) (us:List T),(∀ x∈xs,x∈o.op.operands)→evs P env xs ts=some us→T.reps M ν us (xs.map a.eval)
 |[],ts,us,_,h=>by simp only[evs,Option.some.injEq] at h;subst h;simp only[T.reps,za6]
 |x::xs,ts,us,hx,h=>by
  simp only[evs] at h
  split at h
  ·rename_i t ht
   split at h
   ·rename_i u q
    simp only[Option.some.injEq] at h
    subst h
    simp only[T.reps,zau]
    exact⟨_,_,rfl,a3r he (hx x (by simp)) ht,b9E he xs ts.tail u (fun y hy=>hx y (by simp[hy])) q⟩
   ·cases h
  ·cases h
theorem T.reps_append {M:Mem} {ν:Nu}:∀ {ts us:List T} {vs ws:List Value},T.reps M ν ts vs→T.reps M ν us ws→T.reps M ν (ts++us) (vs++ws)
 |[],us,vs,ws,h,k=>by simp only[T.reps] at h;subst h;simpa using k
 |t::ts,us,vs,ws,h,k=>by
  simp only[T.reps] at h
  obtain⟨v,q,e,h1,h2⟩:=h
  subst e
  simp only[List.cons_append,T.reps]
  exact⟨v,_,rfl,h1,T.reps_append h2 k⟩
theorem b0v {M:Mem} {ν:Nu}:∀ {cs:List Cell} {vs:List Value},Cell.reps M ν cs vs→T.reps M ν (cs.map .one) vs
 |[],vs,h=>by simp only[Cell.reps] at h;simp only[za6,T.reps];exact h
 |c::cs,vs,h=>by
  simp only[Cell.reps] at h
  simp only[zau,T.reps,T.rep]
  obtain⟨v,q,e,h1,h2⟩:=h
  exact⟨v,q,e,h1,b0v h2⟩
theorem b0w {M:Mem} {ν:Nu}:∀ {rs:List (List C)} {vs:List Value},a4h M rs vs→T.reps M ν (rs.map fun r=> .one (.ref r)) vs
 |[],vs,h=>by simp only[a4h] at h;simp only[za6,T.reps];exact h
 |r::rs,vs,h=>by
  simp only[a4h] at h
  simp only[zau,T.reps,T.rep,Cell.rep]
  obtain⟨b,off,mid,q,e,h1,h2,h3⟩:=h
  exact⟨_,q,e,⟨b,off,mid,rfl,h1,h2⟩,b0w h3⟩
theorem a6I {o:Oper} {f:Operand} {args:List Operand} {ts:Array TypeId} (ho:o.op= .call { callee:= .value f,args:=args.toArray,argTypes:=ts }) {a:Act} {M:Mem} {ν:Nu} {env:Env} (he:a3Z M ν a env o) {ty:TypeId}
  {g:FuncId} {u us:List T} (hf:a2D (ev P env ty f)=some (g,u)) (hu:evs P env args ts.toList=some us) (ah:Ent P g) (w:World):
  ∃ vs:List Value,(execOp a.eval o).run P w= .ok (.enter g vs.toArray) w∧T.reps M ν (us++u) vs:=by
 have af:f∈o.op.operands:=by rw[ho];simp[Op.operands,Call.operands]
 have ai:∀ x∈args,x∈o.op.operands:=by intro x hx;rw[ho];simp[Op.operands,Call.operands,hx]
 have q:=b9E he args ts.toList us ai hu
 obtain⟨fn,aj,ag,ad⟩:=ah
 have aa:∀ vs:Array Value,(callFunc g vs).run P w= .ok (.enter g vs) w:=by
  intro vs
  unfold callFunc
  simp only[Sem.run_bind,run_program,Result.andThen_ok,aj,ag,zbs,za2,ad]
  rfl
 unfold a2D at hf
 split at hf
 ·rename_i f' ef
  simp only[Option.some.injEq,Prod.mk.injEq] at hf
  obtain⟨rfl,rfl⟩:=hf
  have hr:=a0z he af ef
  simp only[T.rep,Cell.rep,C.rep] at hr
  refine⟨args.map a.eval,?_,by simpa using q⟩
  unfold execOp
  rw[ho]
  simp only[resolve,Sem.run_bind,hr,Deferred.ofValue,Sem.run_pure,Result.andThen_ok,invoke]
  simp[aa]
 ·rename_i f' ab ef
  simp only[Option.some.injEq,Prod.mk.injEq] at hf
  obtain⟨rfl,rfl⟩:=hf
  have hr:=a0z he af ef
  simp only[T.rep,Cell.rep] at hr
  obtain⟨cv,e,ae⟩:=hr
  refine⟨args.map a.eval++cv,?_,T.reps_append q (b0v ae)⟩
  unfold execOp
  rw[ho]
  simp only[resolve,Sem.run_bind,e,Deferred.ofValue,Sem.run_pure,Result.andThen_ok,invoke]
  simp[aa]
 ·rename_i f' ab ef
  simp only[Option.some.injEq,Prod.mk.injEq] at hf
  obtain⟨rfl,rfl⟩:=hf
  have hr:=a0z he af ef
  simp only[T.rep,Cell.rep,C.rep] at hr
  obtain⟨cv,e,ae⟩:=hr
  refine⟨args.map a.eval++cv,?_,T.reps_append q (b0w ae)⟩
  unfold execOp
  rw[ho]
  simp only[resolve,Sem.run_bind,e,Deferred.ofValue,Sem.run_pure,Result.andThen_ok,invoke]
  simp[aa]
 ·cases hf
def c4G (P:Program) (env:Env):List Operand→List TypeId→Option (List T)
 |[],_=>some []
 |x::xs,ts=>match ev P env (ts.headD 0) x with
  |some t=>match c4G P env xs ts.tail with
   |some us=>some (t::us)
   |none=>none
  |none=>none
theorem b65 {M:Mem} {ν:Nu} {a:Act} {env:Env} {o:Oper} (he:a3Z M ν a env o):∀ (xs:List Operand) (ts:List TypeId) (us:List T),(∀ x∈xs,x∈o.op.operands)→c4G P env xs ts=some us→T.reps M ν us (xs.map a.eval)
 |[],ts,us,_,h=>by simp only[c4G,Option.some.injEq] at h;subst h;simp only[T.reps,za6]
 |x::xs,ts,us,hx,h=>by
  simp only[c4G] at h
  split at h
  ·rename_i t ht
   split at h
   ·rename_i u q
    simp only[Option.some.injEq] at h
    subst h
    simp only[T.reps,zau]
    exact⟨_,_,rfl,a0z he (hx x (by simp)) ht,b65 he xs ts.tail u (fun y hy=>hx y (by simp[hy])) q⟩
   ·cases h
  ·cases h
theorem b8m {o:Oper} {f:Operand} {args:List Operand} {ts:Array TypeId} (ho:o.op= .call { callee:= .value f,args:=args.toArray,argTypes:=ts }) {a:Act} {M:Mem} {ν:Nu} {env:Env} (he:a3Z M ν a env o) {ty:TypeId}
  {g:FuncId} {u us:List T} (hf:a2D (ev P env ty f)=some (g,u)) (hu:c4G P env args ts.toList=some us) (ah:Ent P g) (w:World):
  ∃ vs:List Value,(execOp a.eval o).run P w= .ok (.enter g vs.toArray) w∧T.reps M ν (us++u) vs:=by
 have af:f∈o.op.operands:=by rw[ho];simp[Op.operands,Call.operands]
 have ai:∀ x∈args,x∈o.op.operands:=by intro x hx;rw[ho];simp[Op.operands,Call.operands,hx]
 have q:=b65 he args ts.toList us ai hu
 obtain⟨fn,aj,ag,ad⟩:=ah
 have aa:∀ vs:Array Value,(callFunc g vs).run P w= .ok (.enter g vs) w:=by
  intro vs
  unfold callFunc
  simp only[Sem.run_bind,run_program,Result.andThen_ok,aj,ag,zbs,za2,ad]
  rfl
 unfold a2D at hf
 split at hf
 ·rename_i f' ef
  simp only[Option.some.injEq,Prod.mk.injEq] at hf
  obtain⟨rfl,rfl⟩:=hf
  have hr:=a0z he af ef
  simp only[T.rep,Cell.rep,C.rep] at hr
  refine⟨args.map a.eval,?_,by simpa using q⟩
  unfold execOp
  rw[ho]
  simp only[resolve,Sem.run_bind,hr,Deferred.ofValue,Sem.run_pure,Result.andThen_ok,invoke]
  simp[aa]
 ·rename_i f' ab ef
  simp only[Option.some.injEq,Prod.mk.injEq] at hf
  obtain⟨rfl,rfl⟩:=hf
  have hr:=a0z he af ef
  simp only[T.rep,Cell.rep] at hr
  obtain⟨cv,e,ae⟩:=hr
  refine⟨args.map a.eval++cv,?_,T.reps_append q (b0v ae)⟩
  unfold execOp
  rw[ho]
  simp only[resolve,Sem.run_bind,e,Deferred.ofValue,Sem.run_pure,Result.andThen_ok,invoke]
  simp[aa]
 ·rename_i f' ab ef
  simp only[Option.some.injEq,Prod.mk.injEq] at hf
  obtain⟨rfl,rfl⟩:=hf
  have hr:=a0z he af ef
  simp only[T.rep,Cell.rep,C.rep] at hr
  obtain⟨cv,e,ae⟩:=hr
  refine⟨args.map a.eval++cv,?_,T.reps_append q (b0w ae)⟩
  unfold execOp
  rw[ho]
  simp only[resolve,Sem.run_bind,e,Deferred.ofValue,Sem.run_pure,Result.andThen_ok,invoke]
  simp[aa]
 ·cases hf
def b8n (P:Program) (ty:TypeId) (f:Operand) (args:List Operand) (ts:List TypeId) (env:Env) (K:T→Prop):Prop:=
  match a2D (ev P env ty f),evs P env args ts with
  |some (g,caps),some us=>∃ r,PC P g (us++caps) r∧K r
  |_,_=>False
theorem vCall_sound {ty:TypeId} {f:Operand} {args:List Operand} {ts:Array TypeId} {env:Env} {B:Bx} {o:Oper} {K:T→Prop} (ho:o.op= .call { callee:= .value f,args:=args.toArray,argTypes:=ts })
  (h:b8n P ty f args ts.toList env K):∃ u,OpP P o env B u∧K u:=by
 unfold b8n at h
 split at h
 ·rename_i g af us hf hu
  obtain⟨r,aa,hK⟩:=h
  refine⟨r,?_,hK⟩
  intro κ M ν a w B' hB he hs
  obtain⟨vs,ab,q⟩:=a6I ho he hf hu aa.1 w
  unfold Oper.wp
  rw[ab]
  simp only[Oper.upon]
  refine Calls.mono (aa.2 M ν w vs (hs.nil _ _) q) ?_
  rintro e w' ⟨v,M',rfl,ad,hr,ae⟩
  obtain⟨h1,h2⟩:=hs.call (B1:=[]) (B1':=[]) (B':=B') (fun x hx=>by cases hx) ae rfl (fun b h=>h) (fun _ _ h=>by cases h) ad (fun _ _ _ h=>by cases h) (fun x hx=> .inr ⟨hx,by simp⟩) (fun x hx=>za3.2 ⟨x,hx,rfl⟩) hs.nodup
  exact⟨v,M',rfl,h2,hr,h1⟩
 ·exact h.elim
def Bx.put (k:Nat) (r:Res):Bx→Bx
  |[]=>[]
  |p::B=>bif p.1==k then (k,r)::B else p::Bx.put k r B
def Bx.drop (k:Nat):Bx→Bx
  |[]=>[]
  |p::B=>bif p.1==k then B else p::Bx.drop k B
theorem Bx.put_keys (k:Nat) (r:Res):∀ B:Bx,(Bx.put k r B).map (·.1)=B.map (·.1)
  |[]=>rfl
  |p::B=>by
   unfold Bx.put
   cases h:(p.1==k) with
   |true=>have:p.1=k:=by simpa using h
          simp[this]
   |false=>simp[Bx.put_keys k r B]
theorem Bx.mem_put {k:Nat} {r:Res}:∀ {B:Bx} {x:Nat×Res},(B.map (·.1)).Nodup→x∈Bx.put k r B→x=(k,r)∨(x∈B∧x.1≠k)
 |[],x,_,h=>by cases h
 |p::B,x,hn,h=>by
  simp only[zau,zbr] at hn
  unfold Bx.put at h
  cases hp:(p.1==k) with
  |true=>
   have q:p.1=k:=by simpa using hp
   rw[hp] at h
   simp only[zaa] at h
   rcases zal.1 h with h|h
   ·exact .inl h
   ·refine .inr ⟨zas _ h,fun e=>hn.1 ?_⟩
    rw[q,← e];exact za3.2 ⟨x,h,rfl⟩
  |false=>
   have q:p.1≠k:=by simpa using hp
   rw[hp] at h
   simp only[zab] at h
   rcases zal.1 h with h|h
   ·subst h;exact .inr ⟨by simp,q⟩
   ·rcases Bx.mem_put hn.2 h with h|⟨h1,h2⟩
    ·exact .inl h
    ·exact .inr ⟨zas _ h1,h2⟩
theorem Bx.mem_drop {k:Nat}:∀ {B:Bx} {x:Nat×Res},(B.map (·.1)).Nodup→x∈Bx.drop k B→x∈B∧x.1≠k
 |[],x,_,h=>by cases h
 |p::B,x,hn,h=>by
  simp only[zau,zbr] at hn
  unfold Bx.drop at h
  cases hp:(p.1==k) with
  |true=>
   have q:p.1=k:=by simpa using hp
   rw[hp] at h
   simp only[zaa] at h
   refine⟨zas _ h,fun e=>hn.1 ?_⟩
   rw[q,← e];exact za3.2 ⟨x,h,rfl⟩
  |false=>
   have q:p.1≠k:=by simpa using hp
   rw[hp] at h
   simp only[zab] at h
   rcases zal.1 h with h|h
   ·subst h;exact⟨by simp,q⟩
   ·obtain⟨h1,h2⟩:=Bx.mem_drop hn.2 h
    exact⟨zas _ h1,h2⟩
theorem Bx.drop_nodup (k:Nat):∀ {B:Bx},(B.map (·.1)).Nodup→((Bx.drop k B).map (·.1)).Nodup
 |[],_=>by simp[Bx.drop]
 |p::B,hn=>by
  have q:=hn
  simp only[zau,zbr] at q
  unfold Bx.drop
  cases hp:(p.1==k) with
  |true=>exact q.2
  |false=>
   simp only[zab,zau,zbr]
   refine⟨fun h=>?_,Bx.drop_nodup k q.2⟩
   obtain⟨x,hx,e⟩:=za3.1 h
   exact q.1 (za3.2 ⟨x,(Bx.mem_drop q.2 hx).1,e⟩)
theorem Bx.fresh_spec {k:Nat}:∀ {B:Bx} {j:Nat} {r:Res},Bx.fresh k B=true→(j,r)∈B→j≠k∧∀ cs,r= .cells cs→Cell.freshs k cs=true
 |p::B,j,r,h,hm=>by
  simp only[Bx.fresh,zag,bne_iff_ne] at h
  rcases zal.1 hm with rfl|hm
  ·refine⟨h.1.1,fun cs e=>?_⟩
   subst e
   exact h.1.2
  ·exact Bx.fresh_spec h.2 hm
theorem Res.ok_fresh {M:Mem} {ν ν':Nu} {w:World} {j k:Nat} (hν:∀ i,i≠k→ν' i=ν i) (hj:j≠k):∀ {r:Res},(∀ cs,r= .cells cs→Cell.freshs k cs=true)→r.ok M ν w j→r.ok M ν' w j
 | .cells cs,hf,h=>by
  simp only[Res.ok] at h ⊢
  rw[hν j hj]
  obtain⟨b,c,et,e1,e2,e3⟩:=h
  exact⟨b,c,et,e1,e2,Cell.reps_fresh hν cs _ (hf cs rfl) e3⟩
 | .row sz rows,hf,h=>by
  simp only[Res.ok] at h ⊢
  rw[hν j hj];exact h
 | .mp ag es,hf,h=>by
  simp only[Res.ok] at h ⊢
  rw[hν j hj];exact h
def Nu.set (ν:Nu) (k:Nat) (m:Nm):Nu:=fun j=>if j=k then m else ν j
theorem Nu.set_other {ν:Nu} {k:Nat} {m:Nm}:∀ j,j≠k→ν.set k m j=ν j:=fun j h=>by simp[Nu.set,h]
theorem Nu.set_self {ν:Nu} {k:Nat} {m:Nm}:ν.set k m k=m:=by simp[Nu.set]
theorem Sat.new_box {κ:Kap} {M:Mem} {ν:Nu} {B:Bx} {w:World} {k:Nat} {c:Array Value} {et:TypeId} {cap:Nat} {r:Res} (h:Sat κ M ν B w) (hf:Bx.fresh k B=true)
  (hr:r.ok M (ν.set k ⟨some w.heap.size,cap⟩) { w with heap:=w.heap.push (.cells c et) } k):
  Sat κ M (ν.set k ⟨some w.heap.size,cap⟩) ((k,r)::B) { w with heap:=w.heap.push (.cells c et) } where
 os:=h.os
 tape:=h.tape
 output:=h.output
 dr:=zao _
 size:=by simp;have:=h.size;omega
 unch:=fun b hb hD=>by
  rw[← h.unch b hb hD]
  exact b2W (zdf hb h.size)
 fro:=fun b x e=>a7i (h.fro _ _ e)
 res:=fun j q hm=>by
  rcases zal.1 hm with e|hm
  ·cases e;exact hr
  ·obtain⟨hj,hc⟩:=Bx.fresh_spec hf hm
   exact Res.ok_fresh Nu.set_other hj hc (Res.ok_mono (Mem.le.refl M) (fun b x e _=>a7i e) (h.res j q hm))
 away:=fun j q b hm hb=>by
  rcases zal.1 hm with e|hm
  ·cases e
   rw[Nu.set_self] at hb
   simp only[Option.some.injEq] at hb
   subst hb
   refine⟨?_, .inl h.size⟩
   cases hM:M w.heap.size with
   |none=>rfl
   |some o=>have:=h.fro _ _ hM;simp at this
  ·obtain⟨hj,_⟩:=Bx.fresh_spec hf hm
   rw[Nu.set_other j hj] at hb
   exact h.away j q b hm hb
 inj:=fun j q j' q' b hm u hb aa=>by
  rcases zal.1 hm with e|hm<;>rcases zal.1 u with e'|u
  ·cases e;cases e';rfl
  ·cases e
   obtain⟨hj,_⟩:=Bx.fresh_spec hf u
   rw[Nu.set_self] at hb
   rw[Nu.set_other j' hj] at aa
   simp only[Option.some.injEq] at hb
   have:=Res.blk_lt (h.res j' q' u) aa
   omega
  ·cases e'
   obtain⟨hj,_⟩:=Bx.fresh_spec hf hm
   rw[Nu.set_self] at aa
   rw[Nu.set_other j hj] at hb
   simp only[Option.some.injEq] at aa
   have:=Res.blk_lt (h.res j q hm) hb
   omega
  ·obtain⟨hj,_⟩:=Bx.fresh_spec hf hm
   obtain⟨ab,_⟩:=Bx.fresh_spec hf u
   rw[Nu.set_other j hj] at hb
   rw[Nu.set_other j' ab] at aa
   exact h.inj j q j' q' b hm u hb aa
 nodup:=by
  simp only[zau,zbr]
  refine⟨fun hm=>?_,h.nodup⟩
  obtain⟨x,hx,e⟩:=za3.1 hm
  exact(Bx.fresh_spec (j:=x.1) (r:=x.2) hf hx).1 e
theorem c2u {env:Env} {k:Nat} {ty:TypeId} {x:Operand} {t:T} (hf:Env.fresh k env=true) (h:ev P env ty x=some t):t.fresh k=true:=by
 cases x with
 |tmp d=>exact Env.fresh_spec hf (a7f h)
 |const v=>
  simp only[ev,b33] at h
  split at h<;>try(cases h;done)
  ·cases h;rfl
  ·cases h;rfl
  ·cases h;rfl
  ·split at h
   ·cases h;rfl
   ·cases h
  ·cases h;rfl
 |func f=>simp only[ev,Option.some.injEq] at h;subst h;rfl
 |global g=>
  simp only[ev] at h
  split at h
  ·cases h;rfl
  ·cases h
theorem a5v (k:Nat):∀ r:List C,Cell.freshs k (r.map .dat)=true
  |[]=>rfl
  |c::r=>by simp only[zau,Cell.freshs,Cell.fresh,zae,a5v k r]
theorem b2X {k:Nat} {t:T} {cs:List Cell} (hf:t.fresh k=true) (h:a3d t=some cs):Cell.freshs k cs=true:=by
  cases t with
  |one c=>simp only[a3d,Option.some.injEq] at h;subst h;simp only[T.fresh] at hf;simp[Cell.freshs,hf]
  |st r=>simp only[a3d,Option.some.injEq] at h;subst h;exact a5v k r
  |agg q=>simp only[a3d,Option.some.injEq] at h;subst h;exact hf
  |tup ts=>cases h
  |un=>cases h
theorem OpG.of_run {o:Oper} {env:Env} {B B':Bx} {k:Nat} {t:T}
  (h:∀ κ M ν a w,a3Z M ν a env o→Sat κ M ν B w→
   ∃ v w' M' ν',(execOp a.eval o).run P w= .ok (.value v) w'∧M.ext κ M'∧(∀ j,j≠k→ν' j=ν j)∧t.rep M' ν' v∧Sat κ M' ν' B' w'):OpG P o env B k t B':=by
 intro κ M ν a w he hs
 obtain⟨v,w',M',ν',hr,q,hν,ht,u⟩:=h κ M ν a w he hs
 unfold Oper.wp
 rw[hr]
 exact⟨v,M',ν',rfl,q,hν,ht,u⟩
def a1s (o:Oper):Nat:=o.dst.getD 0
def b37 (P:Program) (k:Nat) (e:TypeId) (env:Env) (B:Bx) (K:T→Bx→Prop):Prop:=
  match a0Y P e with
  |some zs=>Env.fresh k env=true∧Bx.fresh k B=true∧K (.one (.ptr k 0)) ((k, .cells (zs.map .dat))::B)
  |none=>False
theorem a6J {e:TypeId} {env:Env} {B:Bx} {o:Oper} {K:T→Bx→Prop} (ho:o.op= .alloc e) (h:b37 P (a1s o) e env B K):
  ∃ t B',OpG P o env B (a1s o) t B'∧Env.fresh (a1s o) env=true∧K t B':=by
 unfold b37 at h
 split at h
 ·rename_i zs hz
  obtain⟨hf,aa,hK⟩:=h
  obtain⟨z,u,q⟩:=b1Y hz
  refine⟨_,_,OpG.of_run fun κ M ν a w he hs=>?_,hf,hK⟩
  refine⟨.pointer (some ⟨w.heap.size,0,none⟩),_,M,ν.set (a1s o) ⟨some w.heap.size,0⟩,a1B (s:=Instr.alloc e true (.tuple #[])) (by unfold execOp;rw[ho]) ?_,Mem.ext.refl κ M,Nu.set_other,?_,Sat.new_box (c:=z.cells) (et:=e) hs aa ?_⟩
  ·simp only[Instr.alloc,Sem.run_bind,u,Result.andThen_ok,newVar,newRow,run_newObj,Sem.run_pure]
  ·simp only[T.rep,Cell.rep]
   exact⟨w.heap.size,by rw[Nu.set_self],rfl⟩
  ·simp only[Res.ok]
   exact⟨w.heap.size,z.cells,e,by rw[Nu.set_self],push_new,Cell.reps_map_c.2 (a5Z q)⟩
 ·exact h.elim
def d0G (P:Program) (k:Nat) (e:TypeId) (x:Option T) (env:Env) (B:Bx) (K:T→Bx→Prop):Prop:=
 match x with
 |some t=>match a3d t with
  |some cs=>Env.fresh k env=true∧Bx.fresh k B=true∧K (.one (.ptr k 0)) ((k, .cells cs)::B)
  |none=>False
 |none=>False
theorem b1Z {e ty:TypeId} {x:Operand} {env:Env} {B:Bx} {o:Oper} {K:T→Bx→Prop} (ho:o.op= .box e x) (h:d0G P (a1s o) e (ev P env ty x) env B K):
  ∃ t B',OpG P o env B (a1s o) t B'∧Env.fresh (a1s o) env=true∧K t B':=by
 have hx:x∈o.op.operands:=by rw[ho];simp[Op.operands]
 unfold d0G at h
 split at h
 ·rename_i t ex
  split at h
  ·rename_i cs u
   obtain⟨hf,aa,hK⟩:=h
   refine⟨_,_,OpG.of_run fun κ M ν a w he hs=>?_,hf,hK⟩
   have q:=a7j u (a0z he hx ex)
   refine⟨.pointer (some ⟨w.heap.size,0,none⟩),_,M,ν.set (a1s o) ⟨some w.heap.size,0⟩,a1B (s:=Instr.box e (a.eval x)) (by unfold execOp;rw[ho]) ?_,Mem.ext.refl κ M,Nu.set_other,?_,Sat.new_box (c:=(a.eval x).cells) (et:=e) hs aa ?_⟩
   ·simp only[Instr.box,Sem.run_bind,newVar,newRow,run_newObj,Sem.run_pure,Result.andThen_ok]
   ·simp only[T.rep,Cell.rep]
    exact⟨w.heap.size,by rw[Nu.set_self],rfl⟩
   ·simp only[Res.ok]
    exact⟨w.heap.size,_,e,by rw[Nu.set_self],push_new,Cell.reps_fresh Nu.set_other cs _ (b2X (c2u hf ex) u) q⟩
  ·exact h.elim
 ·exact h.elim
def b13 (P:Program) (e n:Nat) (env:Env):Nat→List (Nat×Operand)→Option (List (List C))
 |_,[]=>some []
 |k,(i,x)::rest=>bif i==k then (match ev P env e x with
  |some u=>match a3d u with
   |some cs=>match a6D cs with
    |some r=>bif a1Z n r then (match b13 P e n env (k+1) rest with
     |some rs=>some (r::rs)
     |none=>none) else none
    |none=>none
   |none=>none
  |none=>none) else none
theorem a9G {e n:Nat} {env:Env} {M:Mem} {ν:Nu} {a:Act}:
  ∀ (parts:List (Nat×Operand)) (k:Nat) (rows:List (List C)) (pre post:List Value),(∀ p∈parts,∀ u,ev P env e p.2=some u→u.rep M ν (a.eval p.2))→b13 P e n env k parts=some rows→
   pre.length=k*n→post.length=parts.length*n→
   ∃ vs,Instr.fill (fun i=>some (i*n,n)) (pre++post).toArray (parts.map fun (i,x)=>(i,a.eval x))=some (pre++vs).toArray∧a0q M n rows vs∧rows.length=parts.length
 |[],k,rows,pre,post,_,h,h1,h2=>by
  simp only[b13,Option.some.injEq] at h
  subst h
  have:post=[]:=zbk.1 (by simpa using h2)
  subst this
  exact⟨[],rfl,by simp only[a0q],rfl⟩
 |(i,x)::rest,k,rows,pre,post,he,h,h1,h2=>by
  simp only[b13] at h
  cases ab:(i==k) with
  |false=>rw[ab] at h;cases h
  |true=>
   rw[ab] at h
   simp only[zaa] at h
   have ai:i=k:=by simpa using ab
   subst ai
   split at h
   ·rename_i u hu
    split at h
    ·rename_i cs al
     split at h
     ·rename_i r hr
      cases hl:a1Z n r with
      |false=>rw[hl] at h;cases h
      |true=>
       rw[hl] at h
       simp only[zaa] at h
       split at h
       ·rename_i rs aj
        simp only[Option.some.injEq] at h
        subst h
        have aa:=a7j al (he (i,x) (by simp) u hu)
        rw[a3K hr] at aa
        have q:=Cell.reps_map_c.1 aa
        have ah:=a2u hl
        have af:(a.eval x).cells.size=n:=by rw[← Array.length_toList,a0E q];exact ah
        have ak:post.length=n+rest.length*n:=by rw[h2,List.length_cons,zby,zcf];omega
        have ad:post=post.take n++post.drop n:=(zbt n post).symm
        have step:=b0s (place:=fun i=>some (i*n,n)) (cells:=(pre++post).toArray) (i:=i) (off:=i*n) (n:=n) (v:=a.eval x) (rest:=rest.map fun (i,x)=>(i,a.eval x)) (pre:=pre) (mid:=post.take n) (post:=post.drop n)
         rfl af (by rw[← ad]) h1 (by rw[zbb];omega)
        obtain⟨vs,hf,ae,ag⟩:=a9G rest (i+1) rs (pre++(a.eval x).cells.toList) (post.drop n) (fun p hp=>he p (zas _ hp)) aj
         (by rw[zba,h1,Array.length_toList,af,zby,zcf]) (by rw[za1,ak];omega)
        refine⟨(a.eval x).cells.toList++vs,?_,?_,by simp[ag]⟩
        ·rw[zau,step,← zb1,hf,zb1]
        ·simp only[a0q]
         exact⟨_,vs,rfl,ah,q,ae⟩
       ·cases h
     ·cases h
    ·cases h
   ·cases h
def b0x (P:Program) (k:Nat) (t:TypeId) (len:Nat) (env:Env) (parts:List (Nat×Operand)) (B:Bx) (K:T→Bx→Prop):Prop:=
 match bsT P t with
 |some (e,n)=>match b13 P e n env 0 parts with
  |some rows=>a1Z len parts=true∧len*n≤16777216∧Env.fresh k env=true∧Bx.fresh k B=true∧K (.one (.arr k len)) ((k, .cells (rows.flatten.map .dat))::B)
  |none=>False
 |none=>False
theorem a6o {M:Mem} {sz:Nat}:∀ {rows:List (List C)} {vs:List Value},a0q M sz rows vs→a0x M rows.flatten vs
 |[],vs,h=>by simp only[a0q] at h;simp only[List.flatten_nil,a0x];exact h
 |r::rows,vs,h=>by
  simp only[a0q] at h
  obtain⟨v1,v2,e,_,h1,h2⟩:=h
  rw[e,List.flatten_cons]
  exact a2I h1 (a6o h2)
theorem b0y {t:TypeId} {len:Nat} {parts:List (Nat×Operand)} {env:Env} {B:Bx} {o:Oper} {K:T→Bx→Prop} (ho:o.op= .buildSlice t len parts.toArray)
  (h:b0x P (a1s o) t len env parts B K):∃ t B',OpG P o env B (a1s o) t B'∧Env.fresh (a1s o) env=true∧K t B':=by
 have an:∀ (a:Act),execOp a.eval o=(do pure (.value (← Instr.buildSlice t len (parts.map fun (i,x)=>(i,a.eval x)).toArray))):=by
  intro a;unfold execOp;rw[ho];simp
 unfold b0x at h
 split at h
 ·rename_i e n al
  obtain⟨hu,ai,⟨z,hz,ap⟩,aq⟩:=a8k al
  split at h
  ·rename_i rows hr
   obtain⟨ag,aj,hf,ao,hK⟩:=h
   have am:=a2u ag
   refine⟨_,_,OpG.of_run fun κ M ν ac w he hs=>?_,hf,hK⟩
   have ah:∀ p∈parts,∀ u,ev P env e p.2=some u→u.rep M ν (ac.eval p.2):=by
    intro p hp u hu
    refine a0z he ?_ hu
    rw[ho]
    simp only[Op.operands]
    simp
    exact⟨p.1,by cases p;exact hp⟩
   let zero:Array Value:=if len*n=0 then #[] else z.cells
   let q:List Value:=((Array.range (len*n)).map (zero[· % zero.size]!)).toList
   have ab:q.length=parts.length*n:=by simp[q,am]
   obtain⟨vs,ak,af,ar⟩:=a9G (a:=ac) parts 0 rows [] q ah hr (by simp) ab
   refine⟨.slice (some ⟨w.heap.size,0,none⟩) len len,_,M,ν.set (a1s o) ⟨some w.heap.size,0⟩,a1B (an ac) ?_,Mem.ext.refl κ M,Nu.set_other,?_,hs.new_box (c:=vs.toArray) (et:=e) ao ?_⟩
   ·have ad:¬ len*n>2 ^ 24:=by omega
    have aa:Instr.fill (fun i=>some (i*n,n)) ((Array.range (len*n)).map (zero[· % zero.size]!)) (parts.map fun (i,x)=>(i,ac.eval x))=some vs.toArray:=by
     have e1:((Array.range (len*n)).map (zero[· % zero.size]!))=([]++q).toArray:=by simp only[q,List.nil_append,Array.toArray_toList]
     rw[e1,ak];simp
    unfold Instr.buildSlice
    by_cases h0:len*n=0
    ·have ae:zero= #[]:=by simp only[zero,h0,za9]
     rw[ae] at aa
     rw[h0] at aa ad
     simp only[Sem.run_bind,run_underlying hu,Result.andThen_ok,a2y ai,ad,za2,Sem.run_pure,h0,za9,aa,newRow,run_newObj]
    ·have ae:zero=z.cells:=by simp only[zero,h0,za2]
     rw[ae] at aa
     simp only[Sem.run_bind,run_underlying hu,Result.andThen_ok,a2y ai,ad,za2,Sem.run_pure,h0,hz,aa,newRow,run_newObj]
   ·simp only[T.rep,Cell.rep]
    exact⟨w.heap.size,by rw[Nu.set_self],rfl⟩
   ·simp only[Res.ok]
    exact⟨w.heap.size,vs.toArray,e,by rw[Nu.set_self],push_new,Cell.reps_map_c.2 (by simpa using a6o af)⟩
  ·exact h.elim
 ·exact h.elim
def a18 (P:Program) (k:Nat) (t:TypeId) (len:Nat) (env:Env) (parts:List (Nat×Operand)) (B:Bx) (K:T→Bx→Prop):Prop:=
 match bsT P t with
 |some (e,n)=>match b5J P e n env 0 parts with
  |some rows=>a1Z len parts=true∧len*n≤16777216∧Env.fresh k env=true∧Bx.fresh k B=true∧K (.one (.own k len)) ((k, .row n rows)::B)
  |none=>False
 |none=>False
theorem b0z {t:TypeId} {len:Nat} {parts:List (Nat×Operand)} {env:Env} {B:Bx} {o:Oper} {K:T→Bx→Prop} (ho:o.op= .buildSlice t len parts.toArray)
  (h:a18 P (a1s o) t len env parts B K):∃ t B',OpG P o env B (a1s o) t B'∧Env.fresh (a1s o) env=true∧K t B':=by
 have ap:∀ (a:Act),execOp a.eval o=(do pure (.value (← Instr.buildSlice t len (parts.map fun (i,x)=>(i,a.eval x)).toArray))):=by
  intro a;unfold execOp;rw[ho];simp
 unfold a18 at h
 split at h
 ·rename_i e n an
  obtain⟨hu,ak,⟨z,hz,av⟩,ar⟩:=a8k an
  split at h
  ·rename_i rows hr
   obtain⟨ah,al,hf,aq,hK⟩:=h
   have ai:=a2u ah
   refine⟨_,_,OpG.of_run fun κ M ν ac w he hs=>?_,hf,hK⟩
   have aj:∀ p∈parts,∀ u,a8j (ev P env e p.2)=some u→u.rep M ν (ac.eval p.2):=by
    intro p hp u hu
    refine a3r he ?_ hu
    rw[ho]
    simp only[Op.operands]
    simp
    exact⟨p.1,by cases p;exact hp⟩
   let zero:Array Value:=if len*n=0 then #[] else z.cells
   let q:List Value:=((Array.range (len*n)).map (zero[· % zero.size]!)).toList
   have ad:q.length=parts.length*n:=by simp[q,ai]
   obtain⟨vs,am,ab,au⟩:=a7U (a:=ac) parts 0 rows [] q aj hr (by simp) ad
   refine⟨.slice (some ⟨w.heap.size,0,none⟩) len len,_,M,ν.set (a1s o) ⟨some w.heap.size,len⟩,a1B (ap ac) ?_,Mem.ext.refl κ M,Nu.set_other,?_,hs.new_box (c:=vs.toArray) (et:=e) aq ?_⟩
   ·have ae:¬ len*n>2 ^ 24:=by omega
    have aa:Instr.fill (fun i=>some (i*n,n)) ((Array.range (len*n)).map (zero[· % zero.size]!)) (parts.map fun (i,x)=>(i,ac.eval x))=some vs.toArray:=by
     have e1:((Array.range (len*n)).map (zero[· % zero.size]!))=([]++q).toArray:=by simp only[q,List.nil_append,Array.toArray_toList]
     rw[e1,am];simp
    unfold Instr.buildSlice
    by_cases h0:len*n=0
    ·have af:zero= #[]:=by simp only[zero,h0,za9]
     rw[af] at aa
     rw[h0] at aa ae
     simp only[Sem.run_bind,run_underlying hu,Result.andThen_ok,a2y ak,ae,za2,Sem.run_pure,h0,za9,aa,newRow,run_newObj]
    ·have af:zero=z.cells:=by simp only[zero,h0,za2]
     rw[af] at aa
     simp only[Sem.run_bind,run_underlying hu,Result.andThen_ok,a2y ak,ae,za2,Sem.run_pure,h0,hz,aa,newRow,run_newObj]
   ·simp only[T.rep,Cell.rep]
    rw[Nu.set_self];rfl
   ·simp only[Res.ok,Nu.set_self]
    have ag:rows.length=len:=by rw[au,ai]
    refine⟨Nat.le_of_eq ag,?_, .inr ⟨w.heap.size,vs.toArray,e,vs,[],rfl,push_new,by simp,ab,?_⟩⟩
    ·show len≤maxLen
     have h1:len*1≤len*n:=zdp len (Nat.pos_of_ne_zero ar)
     unfold maxLen;omega
    ·have ao:=a0I ab
     simp only[zch]
     rw[ao,ag]
  ·exact h.elim
 ·exact h.elim
def a01 (P:Program) (k:Nat) (t:TypeId) (len:Nat) (env:Env) (parts:List (Nat×Operand)) (B:Bx) (K:T→Bx→Prop):Prop:=
  b0x P k t len env parts B K∨a18 P k t len env parts B K
theorem a6K {t:TypeId} {len:Nat} {parts:List (Nat×Operand)} {env:Env} {B:Bx} {o:Oper} {K:T→Bx→Prop} (ho:o.op= .buildSlice t len parts.toArray)
  (h:a01 P (a1s o) t len env parts B K):∃ t B',OpG P o env B (a1s o) t B'∧Env.fresh (a1s o) env=true∧K t B':=by
 rcases h with h|h
 ·exact b0y ho h
 ·exact b0z ho h
theorem C.rep_oneCell {M:Mem} {c:C} {v:Value} (h:c.rep M v):v.oneCell'=true:=by
 cases c<;>simp only[C.rep] at h
 case sl=>obtain⟨_,_,_,e,_⟩:=h;subst e;rfl
 case fnc=>obtain⟨_,e,_⟩:=h;subst e;rfl
 case err b=>
  cases b
  ·rw[show v=_ from h];rfl
  ·obtain⟨_,_,e⟩:=h;subst e;rfl
 all_goals subst h;rfl
theorem Cell.rep_oneCell {M:Mem} {ν:Nu} {c:Cell} {v:Value} (h:c.rep M ν v):v.oneCell'=true:=by
  cases c<;>simp only[Cell.rep] at h
  case dat c=>exact C.rep_oneCell h
  case ptr=>obtain⟨_,_,e⟩:=h;subst e;rfl
  case own=>subst h;rfl
  case rp=>obtain⟨_,_,e⟩:=h;subst e;rfl
  case arr=>obtain⟨_,_,e⟩:=h;subst e;rfl
  case ref=>obtain⟨_,_,_,e,_⟩:=h;subst e;rfl
  case clo=>obtain⟨_,e,_⟩:=h;subst e;rfl
  case mp=>obtain⟨_,_,e⟩:=h;subst e;rfl
theorem Cell.reps_oneCell {M:Mem} {ν:Nu}:∀ {cs:List Cell} {vs:List Value},Cell.reps M ν cs vs→∀ v∈vs,v.oneCell'=true
 |[],vs,h,v,hv=>by simp only[Cell.reps] at h;subst h;cases hv
 |c::cs,vs,h,v,hv=>by
  simp only[Cell.reps] at h
  obtain⟨u,q,e,h1,h2⟩:=h
  subst e
  rcases zal.1 hv with rfl|hv
  ·exact Cell.rep_oneCell h1
  ·exact Cell.reps_oneCell h2 v hv
theorem a51 (b off:Nat) (et:TypeId):∀ (vs:List Value) (i:Nat) (c:Array Value) (w:World) (pre mid post:List Value),w.heap[b]?= some (.cells c et (0,0))→c.toList=pre++(mid++post)→pre.length=off+i→mid.length=vs.length→(∀ v∈vs,v.oneCell'=true)→
  (storeCells ⟨b,off,none⟩ vs i).run P w= .ok () (w.setRow b (pre++(vs++post)).toArray)
 |[],i,c,w,pre,mid,post,hg,hc,h1,h2,_=>by
  have:mid=[]:=zbk.1 h2
  subst this
  have ad:(pre++([]++post)).toArray=c:=by rw[← hc]
  rw[ad]
  simp only[storeCells]
  show Result.ok () w=_
  congr 1
  have ae:b<w.heap.size:=(zbi.1 hg).1
  have hv:w.heap[b]= .cells c et (0,0):=(zbi.1 hg).2
  unfold World.setRow
  cases w with
  |mk heap tape drawn os output=>
   congr 1
   apply Array.ext
   ·simp
   ·intro k h1 h2
    simp only[Array.getElem_modify]
    split
    ·rename_i hk;subst hk;simp at hv;simp[hv]
    ·rfl
 |v::rest,i,c,w,pre,mid,post,hg,hc,h1,h2,hone=>by
  cases mid with
  |nil=>simp at h2
  |cons m mid=>
   have q:w.cell? ⟨b,off+i,none⟩=some m:=by
    have:c[off+i]?= some m:=by
     rw[← zb3,hc,← h1,zb0 (zax _)];simp
    simp[World.cell?, hg,this]
   have u:w.frozen? ⟨b,off+i,none⟩=false:=by simp[World.frozen?, hg]
   have aa:(store ((⟨b,off,none⟩:Addr).add i) v).run P w= .ok () (w.setRow b (c.setIfInBounds (off+i) v)):=by
    rw[a4q,run_store P w _ v _ (hone v (by simp)),q]
    simp[u,setCell_eq_setRow w b (off+i) c et (0,0) v hg]
   have ab:(c.setIfInBounds (off+i) v).toList=(pre++[v])++(mid++post):=by
    rw[Array.toList_setIfInBounds,hc,← h1];simp
   have ih:=a51 b off et rest (i+1) (c.setIfInBounds (off+i) v) (w.setRow b (c.setIfInBounds (off+i) v)) (pre++[v]) mid post (setRow_heap w b c _ et _ hg) ab (by simp[h1];omega) (by simpa using h2) (fun x hx=>hone x (by simp[hx]))
   simp only[storeCells,Sem.run_bind,aa,Result.andThen_ok,ih,setRow_setRow]
   simp
theorem Sat.write {κ:Kap} {M:Mem} {ν:Nu} {B:Bx} {w:World} {k b:Nat} {r r':Res} {c':Array Value} (h:Sat κ M ν B w) (hk:(k,r)∈B) (hb:(ν k).blk=some b)
  (hr:r'.ok M ν (w.setRow b c') k):Sat κ M ν (Bx.put k r' B) (w.setRow b c') where
 os:=h.os
 tape:=h.tape
 output:=h.output
 dr:=zao _
 size:=by simp;exact h.size
 unch:=fun d hd hD=>by
  rw[← h.unch d hd hD]
  refine setRow_other w b d c' (fun e=>?_)
  subst e
  rcases (h.away k r d hk hb).2 with h2|h2
  ·omega
  ·exact hD h2
 fro:=fun d x e=>by
  rw[setRow_other w b d c' (fun e2=>?_)]
  ·exact h.fro _ _ e
  ·subst e2;rw[(h.away k r d hk hb).1] at e;cases e
 res:=fun j q hm=>by
  rcases Bx.mem_put h.nodup hm with e|⟨hm,hj⟩
  ·cases e;exact hr
  ·refine Res.ok_mono (Mem.le.refl M) (fun d x e hd=>?_) (h.res j q hm)
   rw[setRow_other w b d c' (fun e2=>?_)]
   ·exact e
   ·subst e2;exact hj (h.inj j q k r d hm hk hd hb)
 away:=fun j q d hm hd=>by
  rcases Bx.mem_put h.nodup hm with e|⟨hm,hj⟩
  ·cases e;exact h.away k r d hk hd
  ·exact h.away j q d hm hd
 inj:=fun j q j' q' d hm aa hd u=>by
  have f:∀ i p,(i,p)∈Bx.put k r' B→∃ p',(i,p')∈B:=by
   intro i p hp
   rcases Bx.mem_put h.nodup hp with e|⟨hp,_⟩
   ·cases e;exact⟨r,hk⟩
   ·exact⟨p,hp⟩
  obtain⟨p,hp⟩:=f j q hm
  obtain⟨p',ab⟩:=f j' q' aa
  exact h.inj j p j' p' d hp ab hd u
 nodup:=by rw[Bx.put_keys];exact h.nodup
def a7N (P:Program) (t:TypeId) (x y:Option T) (B:Bx) (K:Bx→Prop):Prop:=
 match szT P t,y with
 |some n,some u=>match a3d u with
  |some part=>match x with
   |some (.one (.ptr k off))=>match B.lookup k with
    |some (.cells cs)=>match a1H off cs with
     |some (pre,z)=>match a1H n z with
      |some (_,post)=>a1Z n part=true∧K (Bx.put k (.cells (pre++(part++post))) B)
      |none=>False
     |none=>False
    |_=>False
   |some (.one (.rp k sz i f))=>match B.lookup k with
    |some (.row sz' rows)=>sz'=sz∧∃ r,rows[i]?= some r∧(match a1H f r with
     |some (pre,z)=>match a1H n z with
      |some (_,post)=>match a6D (part.map Cell.soft) with
       |some p=>a1Z n part=true∧K (Bx.put k (.row sz (rows.set i (pre++(p++post)))) B)
       |none=>False
      |none=>False
     |none=>False)
    |_=>False
   |_=>False
  |none=>False
 |_,_=>False
theorem OpE.of_skip {o:Oper} {env:Env} {B B':Bx}
  (h:∀ κ M ν a w,a3Z M ν a env o→Sat κ M ν B w→∃ w',(execOp a.eval o).run P w= .ok .skip w'∧Sat κ M ν B' w'):OpE P o env B a0H B':=by
 intro κ M ν a w he hs
 obtain⟨w',hr,q⟩:=h κ M ν a w he hs
 unfold Oper.wp
 rw[hr]
 exact⟨undef,M,rfl,Mem.ext.refl κ M,by simp[a0H,T.rep,Cell.rep,C.rep],q⟩
theorem b9F {n:Nat} {l:List Cell} (h:a1Z n l=true):(l.map Cell.soft).length=n:=by rw[zcb];exact a2u h
theorem a48 {t tx:TypeId} {x y:Operand} {env:Env} {B:Bx} {o:Oper} {K:Bx→Prop} (ho:o.op= .store t x y) (h:a7N P t (ev P env tx x) (ev P env t y) B K):
  ∃ B',OpE P o env B a0H B'∧K B':=by
 have hx:x∈o.op.operands:=by rw[ho];simp[Op.operands]
 have hy:y∈o.op.operands:=by rw[ho];simp[Op.operands]
 have bb:∀ (a:Act) (w w':World),(Instr.storeAt t (a.eval x) (a.eval y)).run P w= .ok () w'→(execOp a.eval o).run P w= .ok .skip w':=by
  intro a w w' h
  unfold execOp;rw[ho]
  simp only[Sem.run_bind,h,Result.andThen_ok,Sem.run_pure]
 unfold a7N at h
 split at h
 ·rename_i n u bc ey
  split at h
  ·rename_i part al
   split at h
   ·rename_i k off ex
    split at h
    ·rename_i cs hb
     split at h
     ·rename_i pre z az
      split at h
      ·rename_i old post aw
       obtain⟨hl,hK⟩:=h
       obtain⟨e1,l1⟩:=a02 az
       obtain⟨e2,l2⟩:=a02 aw
       refine⟨_,OpE.of_skip fun κ M ν a w he hs=>?_,hK⟩
       have q:=a7j al (a0z he hy ey)
       have hr:=a0z he hx ex
       simp only[T.rep,Cell.rep] at hr
       obtain⟨b,ad,ep⟩:=hr
       have ab:=hs.res k _ (a0O hb)
       simp only[Res.ok] at ab
       obtain⟨b',c,et,ak,aa,am⟩:=ab
       rw[ad] at ak;cases ak
       rw[e1,e2] at am
       obtain⟨w1,bl,ew,af,ah⟩:=Cell.reps_split am
       obtain⟨w2,w3,ap,aq,ax⟩:=Cell.reps_split ah
       have ae:(a.eval y).cells.size=n:=by rw[← Array.length_toList,Cell.reps_length q];exact a2u hl
       have a2:=a51 (P:=P) b off et (a.eval y).cells.toList 0 c w w1 w2 w3 aa (by rw[ew,ap]) (by rw[Cell.reps_length af,l1];rfl) (by rw[Cell.reps_length aq,l2,Array.length_toList,ae]) (Cell.reps_oneCell q)
       refine⟨w.setRow b (w1++((a.eval y).cells.toList++w3)).toArray,bb a w _ ?_,hs.write (a0O hb) ad ?_⟩
       ·rw[ep]
        simp only[Instr.storeAt,Instr.sureAddr,Sem.run_bind,Sem.run_pure,Result.andThen_ok,storeVar,a2y bc,ae,ne_eq,not_true_eq_false,za2,a2]
       ·simp only[Res.ok]
        refine⟨b,_,et,ad,setRow_heap w b c _ et _ aa,?_⟩
        simpa using Cell.reps_append af (Cell.reps_append q ax)
      ·exact h.elim
     ·exact h.elim
    ·exact h.elim
   ·rename_i k sz i f ex
    split at h
    ·rename_i a1 rows hb
     obtain⟨rfl,r,hi,h⟩:=h
     split at h
     ·rename_i pre z az
      split at h
      ·rename_i old post aw
       split at h
       ·rename_i p hp
        obtain⟨hl,hK⟩:=h
        obtain⟨e1,l1⟩:=a02 az
        obtain⟨e2,l2⟩:=a02 aw
        refine⟨_,OpE.of_skip fun κ M ν a w he hs=>?_,hK⟩
        have q:=a7j al (a0z he hy ey)
        have an:=Cell.reps_soft q
        rw[a3K hp] at an
        have a6:=Cell.reps_map_c.1 an
        have hr:=a0z he hx ex
        simp only[T.rep,Cell.rep] at hr
        obtain⟨b,ad,ep⟩:=hr
        have ab:=hs.res k _ (a0O hb)
        simp only[Res.ok] at ab
        obtain⟨av,a8,ab⟩:=ab
        rcases ab with⟨ai,_⟩|⟨b',c,et,mid,spare,ak,aa,bg,aj,bh⟩
        ·rw[ad] at ai;cases ai
        ·rw[ad] at ak;cases ak
         have bd:=(zak.1 hi).1
         have bj:rows[i]=r:=(zak.1 hi).2
         have ao:rows=rows.take i++(r::rows.drop (i+1)):=by
          rw[← bj,← za8 bd,zbt]
         rw[ao] at aj
         obtain⟨u1,bn,eu,ba,ar⟩:=a3p aj
         simp only[a0q] at ar
         obtain⟨u2,u3,bf,bk,au,bi⟩:=ar
         rw[e1,e2] at au
         obtain⟨w1,bl,ew,af,ah⟩:=a1l au
         obtain⟨w2,w3,ap,aq,ax⟩:=a1l ah
         have ae:(a.eval y).cells.size=n:=by rw[← Array.length_toList,Cell.reps_length q];exact a2u hl
         have be:u1.length=i*a1:=by rw[a0I ba,zbb,zdn (by omega)]
         have a2:=a51 (P:=P) b (i*a1+f) et (a.eval y).cells.toList 0 c w (u1++w1) w2 (w3++(u3++spare)) aa (by rw[bg,eu,bf,ew,ap];simp) (by rw[zba,be,a0E af,l1];rfl) (by rw[a0E aq,l2,Array.length_toList,ae]) (Cell.reps_oneCell q)
         have a7:p.length=n:=by rw[← zcb (f:=Cell.dat),← a3K hp];exact b9F hl
         have ag:rows.set i (pre++(p++post))=rows.take i++((pre++(p++post))::rows.drop (i+1)):=List.set_eq_take_append_cons_drop .. |>.trans (by rw[zaz bd])
         have bm:(pre++(p++post)).length=a1:=by
          rw[← bk,e1,e2]
          simp only[zba,a7,l2]
         refine⟨w.setRow b ((u1++w1)++((a.eval y).cells.toList++(w3++(u3++spare)))).toArray,bb a w _ ?_,hs.write (a0O hb) ad ?_⟩
         ·rw[ep]
          simp only[Instr.storeAt,Instr.sureAddr,Sem.run_bind,Sem.run_pure,Result.andThen_ok,storeVar,a2y bc,ae,ne_eq,not_true_eq_false,za2,a2]
         ·simp only[Res.ok]
          refine⟨by rw[zbp];exact av,a8, .inr ⟨b,_,et,u1++(w1++((a.eval y).cells.toList++w3)++u3),spare,ad,setRow_heap w b c _ et _ aa,by simp,?_,?_⟩⟩
          ·rw[ag]
           refine a3S ba ?_
           simp only[a0q]
           exact⟨_,u3,rfl,bm,a2I af (a2I a6 ax),bi⟩
          ·rw[← bh,← Array.length_toList (xs:=c),bg,eu,bf,ew,ap]
           simp only[zch,zba,Array.length_toList,ae,a0E aq,l2]
           omega
       ·exact h.elim
      ·exact h.elim
     ·exact h.elim
    ·exact h.elim
   ·exact h.elim
  ·exact h.elim
 ·exact h.elim
end Go.Sx
namespace Go.Sx
variable {P:Program} {n:Nat} {σ:AS} {Q:Exit→AS→Prop}
def mkT (P:Program) (t:TypeId):Option (TypeId×IntKind):=
 match P.underlying t with
 |some (.slice e)=>match P.info? e with
  |some i=>match i.zero with
   |some (.int k m)=>bif decide (m=0)&&(decide (i.size=1)&&decide (i.bytes≤8)) then some (e,k) else none
   |_=>none
  |none=>none
 |_=>none
theorem c2v {t:TypeId} {e:TypeId} {k:IntKind} (h:mkT P t=some (e,k)):P.underlying t=some (.slice e)∧∃ i,P.info? e=some i∧i.zero=some (.int k 0)∧i.size=1∧i.bytes≤8:=by
 unfold mkT at h
 split at h
 ·rename_i e' hu
  split at h
  ·rename_i i hi
   split at h
   ·rename_i k' m hz
    cases hc:decide (m=0)&&(decide (i.size=1)&&decide (i.bytes≤8)) with
    |false=>rw[hc] at h;cases h
    |true=>
     rw[hc] at h
     simp only[zaa,Option.some.injEq,Prod.mk.injEq] at h
     obtain⟨rfl,rfl⟩:=h
     simp only[zag,zan] at hc
     obtain⟨rfl,h1,h2⟩:=hc
     exact⟨hu,i,hi,hz,h1,h2⟩
   ·cases h
  ·cases h
 ·cases h
def b2Y (P:Program) (k:Nat) (t:TypeId) (x y:Option T) (env:Env) (B:Bx) (K:T→Bx→Prop):Prop:=
  match mkT P t,x,y with
  |some (_,ik),some (.one (.dat (.int _ m))),some (.one (.dat (.int _ n)))=>m=n∧0≤n∧n≤16777216∧Env.fresh k env=true∧Bx.fresh k B=true∧K (.one (.own k n.toNat)) ((k, .row 1 (List.replicate n.toNat [.int ik 0]))::B)
  |_,_,_=>False
theorem a9H {M:Mem0} {ik:IntKind}:∀ n:Nat,a0q M 1 (List.replicate n [C.int ik 0]) (List.replicate n (Value.int ik 0))
 |0=>by simp[a0q]
 |n+1=>by
  simp only[List.replicate_succ,a0q]
  exact⟨[.int ik 0],_,rfl,rfl,by simp only[a0x,C.rep];exact⟨_,_,rfl,rfl,rfl⟩,a9H n⟩
theorem b9G (ik:IntKind) (n:Nat):(madeCells (Value.int ik 0).cells n).toList=List.replicate n (Value.int ik 0):=by
  unfold madeCells
  have hc:(Value.int ik 0).cells= #[Value.int ik 0]:=rfl
  rw[hc,Array.toList_map]
  rw[List.eq_replicate_iff]
  refine⟨by simp,fun v hv=>?_⟩
  obtain⟨j,_,rfl⟩:=za3.1 hv
  simp[Nat.mod_one]
theorem a8l {t:TypeId} {x y:Operand} {tx ty:TypeId} {env:Env} {B:Bx} {o:Oper} {K:T→Bx→Prop} (ho:o.op= .makeSlice t x y)
  (h:b2Y P (a1s o) t (ev P env tx x) (ev P env ty y) env B K):∃ t B',OpG P o env B (a1s o) t B'∧Env.fresh (a1s o) env=true∧K t B':=by
 have hx:x∈o.op.operands:=by rw[ho];simp[Op.operands]
 have hy:y∈o.op.operands:=by rw[ho];simp[Op.operands]
 have u:∀ (a:Act),execOp a.eval o=(do pure (.value (← Instr.makeSlice t (a.eval x) (a.eval y)))):=by
  intro a;unfold execOp;rw[ho]
 unfold b2Y at h
 split at h
 ·rename_i e ik k1 m k2 nn hm ex ey
  obtain⟨rfl,h0,ad,hf,aa,hK⟩:=h
  obtain⟨hu,i,hi,hz,q,ab⟩:=c2v hm
  refine⟨_,_,OpG.of_run fun κ M ν ac w he hs=>?_,hf,hK⟩
  have e1:=a0S.1 (a0z he hx ex)
  have e2:=a0S.1 (a0z he hy ey)
  refine⟨.slice (some ⟨w.heap.size,0,none⟩) m.toNat m.toNat,_,M,ν.set (a1s o) ⟨some w.heap.size,m.toNat⟩,a1B (u ac) ?_,Mem.ext.refl κ M,Nu.set_other,?_,hs.new_box (c:=madeCells (Value.int ik 0).cells (m.toNat*i.size)) (et:=e) aa ?_⟩
  ·rw[e1,e2]
   have hb:(i.bytes:Int)*m≤281474976710656:=by
    have h1:(i.bytes:Int)*m≤8*m:=zee (by omega) h0
    omega
   exact run_makeSlice w t e i (.int ik 0) hu hi hz k1 k2 m m h0 (zco _) (by rw[q];omega) hb (by omega)
  ·simp only[T.rep,Cell.rep]
   rw[Nu.set_self];rfl
  ·simp only[Res.ok,Nu.set_self]
   rw[q,Nat.mul_one]
   refine⟨by simp,by unfold maxLen;omega, .inr ⟨w.heap.size,_,e,List.replicate m.toNat (Value.int ik 0),[],rfl,push_new,by simp[b9G],a9H _,by rw[size_madeCells]⟩⟩
 ·exact h.elim
end Go.Sx
namespace Go.Sx
variable {P:Program}
theorem b38 (need:Nat):∀ (r c:Nat),c≤need→Builtin.growBy need r c≤need+(need+768) / 4
 |0,c,h=>by unfold Builtin.growBy;omega
 |r+1,c,h=>by
  unfold Builtin.growBy
  split
  ·omega
  ·by_cases hc:c+(c+768) / 4≤need
   ·exact b38 need r _ hc
   ·have:∀ r,Builtin.growBy need r (c+(c+768) / 4)=c+(c+768) / 4:=by
     intro r
     cases r with
     |zero=>rfl
     |succ r=>unfold Builtin.growBy;rw[zaz (by omega)]
    rw[this];omega
theorem b8o {need cap:Nat} (h:cap<need):Builtin.nextslicecap need cap≤2*need+192:=by
 unfold Builtin.nextslicecap
 split
 ·omega
 ·split
  ·omega
  ·have:=b38 need 4 cap (by omega);omega
def byT (P:Program) (t:TypeId):Option Nat:=
  match P.underlying t with
  |some (.slice e)=>(P.info? e).map (·.bytes)
  |_=>none
theorem b66 {t e n:Nat} (h:byT P t=some n) (hu:P.underlying t=some (.slice e)):∃ i,P.info? e=some i∧i.bytes=n:=by
  unfold byT at h
  rw[hu] at h
  simp only[] at h
  cases hi:P.info? e with
  |none=>simp[hi] at h
  |some i=>exact⟨i,rfl,by simpa [hi] using h⟩
def b0A (n:Nat) (x:Option T):Option (List (List C)):=
  match x with
  |some (.one (.dat (.sl n' ys)))=>bif n'==n then some ys else none
  |some (.one (.dat (.str l)))=>bif n==1 then some (l.map fun b=>[.int .u8 b.toNat]) else none
  |_=>none
theorem a52 {w:World} {b off:Nat} {vs:List Value} {n m cap:Nat} (h:At (w.heap[b]?) off vs) (hl:vs.length=m*n) {k:Nat}:(Builtin.firstCells n m (.slice (some ⟨b,off,none⟩) k cap)).run P w= .ok vs.toArray w:=by
  unfold Builtin.firstCells
  rw[← hl]
  exact h.load
theorem a8m {M:Mem}:∀ l:List UInt8,a0q M 1 (l.map fun b=>[C.int .u8 b.toNat]) (l.map fun b=>Value.int .u8 b.toNat)
 |[]=>by simp only[za6,a0q]
 |b::l=>by
  simp only[zau,a0q]
  exact⟨[.int .u8 b.toNat],_,rfl,rfl,by simp only[a0x,C.rep];exact⟨_,[],rfl,rfl,rfl⟩,a8m l⟩
theorem b9H {M:Mem} {ν:Nu} {n:Nat} {x:T} {v:Value} {ys:List (List C)} (h:b0A n (some x)=some ys) (hr:x.rep M ν v):
  ∃ new:List Value,a0q M n ys new∧∀ w:World,(∀ b o,M b=some o→w.heap[b]?= some o)→(Builtin.lenOf v).run P w= .ok ys.length w∧(Builtin.firstCells n ys.length v).run P w= .ok new.toArray w:=by
 unfold b0A at h
 split at h
 ·rename_i n' af e
  cases hn:(n'==n) with
  |false=>rw[hn] at h;cases h
  |true=>
   have u:n'=n:=by simpa using hn
   subst u
   simp only[hn,zaa,Option.some.injEq] at h e
   subst h;subst e
   simp only[T.rep,Cell.rep,C.rep] at hr
   obtain⟨a,cap,mid,ev,ae,ag,q,ab⟩:=hr
   refine⟨mid,q,fun w hf=>⟨by rw[ev];rfl,?_⟩⟩
   rw[ev]
   rcases ab with aa|⟨b,off,ea,ad⟩
   ·subst aa
    simp only[a0q] at q
    subst q
    cases a with
    |none=>rfl
    |some a=>simp[Builtin.firstCells,loadCells,loadCellsFrom]
   ·rw[ea]
    refine a52 ?_ (a0I q)
    obtain⟨c,et,fz,pre,post,e,e2,e3⟩:=ad
    exact⟨c,et,fz,pre,post,hf _ _ e,e2,e3⟩
 ·rename_i l e
  cases hn:(n==1) with
  |false=>rw[hn] at h;cases h
  |true=>
   have u:n=1:=by simpa using hn
   subst u
   simp only[hn,zaa,Option.some.injEq] at h e
   subst h;subst e
   have ev:=a4i.1 hr
   refine⟨l.map fun b=> .int .u8 b.toNat,a8m l,fun w hf=>⟨?_,?_⟩⟩
   ·rw[ev];simp[Builtin.lenOf,a83]
   ·rw[ev]
    simp only[Builtin.firstCells,Sem.run_pure,zcb]
    congr 1
    have:(ByteArray.mk l.toArray).extract 0 l.length=ByteArray.mk l.toArray:=by
     rw[b1V];simp
    rw[this]
    simp
 ·cases h
def a2T (P:Program) (t:TypeId):Bool:=
  match kdT P t with
  |some .other=>true
  |some .str=>true
  |_=>false
theorem b8p {t:TypeId} (h:a2T P t=true) (w:World):∃ d,(underlying t).run P w= .ok d w∧(d matches .int _)=false:=by
 unfold a2T at h
 split at h
 ·rename_i hk
  unfold kdT at hk
  split at hk<;>try(cases hk;done)
  rename_i d _ _ _ hu
  refine⟨d,run_underlying hu w,?_⟩
  cases d<;>first|rfl|(rename_i q _ _;exact absurd rfl (q _))
 ·rename_i hk
  exact⟨_,run_underlying (a5o hk) w,rfl⟩
 ·cases h
theorem b1J (z:Array Value) (k:Nat):(Builtin.zeroCells z k).size=k*z.size:=by simp[Builtin.zeroCells]
theorem a7k {t1 t2 e n by_:Nat} {i:TypeInfo} (hu:P.underlying t1=some (.slice e)) (aj:szT P e=some n) (hi:P.info? e=some i) (az:i.bytes=by_) {z:Value} (hz:∀ w,(zeroValue e).run P w= .ok z w) (ap:z.cells.size=n)
    (aq:a2T P t2=true) {ty:TypeId} {base:Option Addr} {sLen sCap:Nat} {x:Value} {m:Nat} {new old:List Value} {w:World} (ab:(Builtin.lenOf x).run P w= .ok m w) (hm:sLen+m≤maxLen) (aw:(2*(sLen+m)+192)*by_≤281474976710656)
    (af:∀ d,(Builtin.firstCells n m x).run P { w with drawn:=d }= .ok new.toArray { w with drawn:=d }) (ae:∀ d,(Builtin.firstCells n sLen (.slice base sLen sCap)).run P { w with drawn:=d }= .ok old.toArray { w with drawn:=d }) (a1:0<by_):
    (sLen+m≤sCap→(match base with|some a=>(storeCells (a.add (sLen*n)) new).run P w|none=> .ok () w)= .ok () w→(Builtin.append_ #[t1,t2] ty #[.slice base sLen sCap,x]).run P w= .ok (.slice base (sLen+m) sCap) w)∧
    (∀ w',sLen+m≤sCap→(match base with|some a=>(storeCells (a.add (sLen*n)) new).run P w|none=> .ok () w)= .ok () w'→(Builtin.append_ #[t1,t2] ty #[.slice base sLen sCap,x]).run P w= .ok (.slice base (sLen+m) sCap) w')∧
    (¬ sLen+m≤sCap→∃ (cap:Nat) (d:Nat) (rest:Array Value),w.drawn≤d∧sLen+m≤cap∧cap≤maxLen∧rest.size=(cap-(sLen+m))*n∧
      (Builtin.append_ #[t1,t2] ty #[.slice base sLen sCap,x]).run P w= .ok (.slice (some ⟨w.heap.size,0,none⟩) (sLen+m) cap) { w with drawn:=d,heap:=w.heap.push (.cells ((old++new).toArray++rest) e) }):=by
  obtain⟨d2,ak,ad⟩:=b8p aq w
  have av:∀ w,(typeInfo e).run P w= .ok i w:=fun w=>by simp[typeInfo,hi]
  have ai:=af w.drawn
  have am:=ae w.drawn
  have u:∀ w',sLen+m≤sCap→(match base with|some a=>(storeCells (a.add (sLen*n)) new).run P w|none=> .ok () w)= .ok () w'→(Builtin.append_ #[t1,t2] ty #[.slice base sLen sCap,x]).run P w= .ok (.slice base (sLen+m) sCap) w':=by
    intro w' ah q
    have ao:(Builtin.firstCells n m x).run P w= .ok new.toArray w:=ai
    unfold Builtin.append_
    cases d2<;>first
      |(cases ad;done)
      |(simp only[zd7,List.getElem?_cons_zero,List.getElem?_cons_succ,Sem.run_bind,run_underlying hu,Result.andThen_ok,a2y aj,ak,Sem.run_pure,zbs,za2,ab,ah,za9,zar,ao]
        cases base with
        |none=>
         simp only[] at q
         cases q
         simp
        |some a=>
         simp only[] at q
         simp only[Sem.run_bind,q,Result.andThen_ok,Sem.run_pure])
  refine⟨fun ah q=>u w ah q,u,fun an=>?_⟩
  have ax:=b8o (need:=sLen+m) (cap:=sCap) (by omega)
  have au:¬ Builtin.nextslicecap (sLen+m) sCap*by_>2 ^ 48:=by
    have:=zc7 by_ ax
    omega
  have aa:(Question.appendCap (sLen+m) sCap e).forced=false:=rfl
  let cap:=(Question.appendCap (sLen+m) sCap e).cut (w.tape w.drawn (.appendCap (sLen+m) sCap e))
  have ag:sLen+m≤cap∧cap≤maxLen:=by
    show _≤_+_ % _∧_+_ % _≤_
    unfold maxLen at hm ⊢
    have:0<2 ^ 63-(sLen+m):=by omega
    have:=Nat.mod_lt (w.tape w.drawn (.appendCap (sLen+m) sCap e)) this
    omega
  refine⟨cap,w.drawn+1,Builtin.zeroCells z.cells (cap-(sLen+m)),Nat.le_succ _,ag.1,ag.2,by rw[b1J,ap],?_⟩
  unfold Builtin.append_
  have al:¬ Builtin.nextslicecap (sLen+m) sCap*i.bytes>2 ^ 48:=by rw[az];exact au
  have ar:¬ i.bytes=0:=by omega
  have h1:=ae (w.drawn+1)
  have h2:=af (w.drawn+1)
  cases d2<;>first
    |(cases ad;done)
    |(simp only[zd7,List.getElem?_cons_zero,List.getElem?_cons_succ,Sem.run_bind,run_underlying hu,Result.andThen_ok,a2y aj,ak,Sem.run_pure,zbs,za2,ab,an,zar,za9,av,al,ar,or_false,and_false,run_choose,aa,run_askRoom,h1,h2,hz,newRow,run_newObj]
      congr 4
      simp
      rfl)
def b9I (k:Nat):Bool:=decide (k<1000000)
theorem a30 {k:Nat} (h:b9I k=true):k<pin:=by simpa [b9I,pin] using h
def b0B (P:Program) (j:Nat) (t1 t2:TypeId) (s x:Option T) (env:Env) (B:Bx) (K:T→Bx→Prop):Prop:=
 match bsT P t1,byT P t1 with
 |some (_,n),some (by_+1)=>match b0A n x with
  |some ys=>a2T P t2=true∧Env.fresh j env=true∧Bx.fresh j B=true∧(match s with
   |some (.one (.dat (.nil _)))=>(2*ys.length+192)*(by_+1)≤281474976710656∧K (.one (.own j ys.length)) ((j, .row n ys)::B)
   |some (.one (.own k m))=>match B.lookup k with
    |some (.row n' rows)=>n'=n∧m=rows.length∧b9I k=true∧(2*(rows.length+ys.length)+192)*(by_+1)≤281474976710656∧K (.one (.own j (rows++ys).length)) ((j, .row n (rows++ys))::Bx.drop k B)
    |_=>False
   |_=>False)
  |none=>False
 |_,_=>False
theorem Sat.drop {κ:Kap} {M:Mem} {ν:Nu} {B B':Bx} {w:World} (h:Sat κ M ν B w) (hs:∀ x∈B',x∈B) (hn:(B'.map (·.1)).Nodup):Sat κ M ν B' w:=
  ⟨h.os,h.tape,h.output,zao _,h.size,h.unch,h.fro,fun k r hm=>h.res k r (hs _ hm),fun k r b hm=>h.away k r b (hs _ hm),fun k r k' r' b hm q=>h.inj k r k' r' b (hs _ hm) (hs _ q),hn⟩
theorem Sat.drawn {κ:Kap} {M:Mem} {ν:Nu} {B:Bx} {w:World} (h:Sat κ M ν B w) (d:Nat) (hd:w.drawn≤d):Sat κ M ν B { w with drawn:=d }:=
  ⟨h.os,h.tape,h.output,zao _,h.size,h.unch,h.fro,fun k r hm=>Res.ok_mono (Mem.le.refl M) (fun b x e _=>e) (h.res k r hm),h.away,h.inj,h.nodup⟩
theorem Bx.fresh_drop {j k:Nat} {B:Bx} (h:Bx.fresh j B=true):Bx.fresh j (Bx.drop k B)=true:=by
 induction B with
 |nil=>rfl
 |cons p B ih=>
  simp only[Bx.fresh,zag] at h
  unfold Bx.drop
  cases hp:(p.1==k) with
  |true=>exact h.2
  |false=>simp only[zab,Bx.fresh,zag];exact⟨h.1,ih h.2⟩
theorem Sat.rename {κ:Kap} {M:Mem} {ν:Nu} {B:Bx} {w:World} {j k:Nat} {sz:Nat} {rows:List (List C)} (h:Sat κ M ν B w) (hk:(k, .row sz rows)∈B) (hf:Bx.fresh j B=true) (ae:k<pin):
  Sat κ M (ν.set j (ν k)) ((j, .row sz rows)::Bx.drop k B) w where
 os:=h.os
 tape:=h.tape
 output:=h.output
 dr:=zao _
 size:=h.size
 unch:=h.unch
 fro:=h.fro
 res:=fun i q hm=>by
  rcases zal.1 hm with e|hm
  ·cases e
   have:=h.res k _ hk
   simp only[Res.ok] at this ⊢
   rw[Nu.set_self];exact this
  ·obtain⟨hm,_⟩:=Bx.mem_drop h.nodup hm
   obtain⟨hj,hc⟩:=Bx.fresh_spec hf hm
   exact Res.ok_fresh Nu.set_other hj hc (h.res i q hm)
 away:=fun i q b hm hb=>by
  rcases zal.1 hm with e|hm
  ·cases e;rw[Nu.set_self] at hb
   have h1:=h.away k _ b hk hb
   exact h1
  ·obtain⟨hm,_⟩:=Bx.mem_drop h.nodup hm
   obtain⟨hj,hc⟩:=Bx.fresh_spec hf hm
   rw[Nu.set_other i hj] at hb
   exact h.away i q b hm hb
 inj:=fun i q i' q' b hm u hb aa=>by
  rcases zal.1 hm with e|hm<;>rcases zal.1 u with e'|u
  ·cases e;cases e';rfl
  ·cases e
   obtain⟨u,ab⟩:=Bx.mem_drop h.nodup u
   obtain⟨hj,hc⟩:=Bx.fresh_spec hf u
   rw[Nu.set_self] at hb
   rw[Nu.set_other i' hj] at aa
   exact absurd (h.inj i' q' k _ b u hk aa hb) ab
  ·cases e'
   obtain⟨hm,ab⟩:=Bx.mem_drop h.nodup hm
   obtain⟨hj,hc⟩:=Bx.fresh_spec hf hm
   rw[Nu.set_self] at aa
   rw[Nu.set_other i hj] at hb
   exact absurd (h.inj i q k _ b hm hk hb aa) ab
  ·obtain⟨hm,_⟩:=Bx.mem_drop h.nodup hm
   obtain⟨u,_⟩:=Bx.mem_drop h.nodup u
   obtain⟨hj,_⟩:=Bx.fresh_spec hf hm
   obtain⟨ad,_⟩:=Bx.fresh_spec hf u
   rw[Nu.set_other i hj] at hb
   rw[Nu.set_other i' ad] at aa
   exact h.inj i q i' q' b hm u hb aa
 nodup:=by
  simp only[zau,zbr]
  refine⟨fun hm=>?_,Bx.drop_nodup k h.nodup⟩
  obtain⟨x,hx,e⟩:=za3.1 hm
  obtain⟨hx,_⟩:=Bx.mem_drop h.nodup hx
  exact(Bx.fresh_spec (j:=x.1) (r:=x.2) hf hx).1 e
theorem a54 {t1 t2 ty1 ty2:TypeId} {s x:Operand} {env:Env} {B:Bx} {o:Oper} {K:T→Bx→Prop} (ho:o.op= .call { callee:= .builtin .append,args:= #[s,x],argTypes:= #[t1,t2] })
  (h:b0B P (a1s o) t1 t2 (ev P env ty1 s) (a8j (ev P env ty2 x)) env B K):
  ∃ t B',OpG P o env B (a1s o) t B'∧Env.fresh (a1s o) env=true∧K t B':=by
 have hs:s∈o.op.operands:=by rw[ho];simp[Op.operands,Call.operands]
 have hx:x∈o.op.operands:=by rw[ho];simp[Op.operands,Call.operands]
 have am:∀ (a:Act),execOp a.eval o=(do pure (.value (← Builtin.append_ #[t1,t2] o.type #[a.eval s,a.eval x]))):=by
  intro a;rw[a47 ho];simp[builtin]
 unfold b0B at h
 split at h
 ·rename_i e n by_ bq bg
  obtain⟨hu,a8,⟨z,hz,bb⟩,bt⟩:=a8k bq
  obtain⟨i,hi,ba⟩:=b66 bg hu
  split at h
  ·rename_i ys ai
   obtain⟨a7,hf,ae,h⟩:=h
   cases aw:a8j (ev P env ty2 x) with
   |none=>rw[aw] at ai;cases ai
   |some xt=>
   rw[aw] at ai
   split at h
   ·rename_i n' es
    obtain⟨af,hK⟩:=h
    refine⟨_,_,OpG.of_run fun κ M ν a w he q=>?_,hf,hK⟩
    obtain⟨new,u,ad⟩:=b9H (P:=P) ai (a3r he hx aw)
    have ak:=a0z he hs es
    simp only[T.rep,Cell.rep,C.rep] at ak
    have a6:ys.length≤maxLen:=by
     have:1≤by_+1:=by omega
     have:=zdp (2*ys.length+192) this
     unfold maxLen;omega
    obtain⟨_,av,ah⟩:=a7k (t2:=t2) (ty:=o.type) hu a8 hi ba hz bb a7 (base:=none) (sLen:=0) (sCap:=0) (x:=a.eval x) (m:=ys.length) (new:=new) (old:=[]) (w:=w) (ad w q.fro).1 (by omega) (by simpa using af)
     (fun d=>(ad { w with drawn:=d } q.fro).2) (fun d=>rfl) (by omega)
    by_cases h0:0+ys.length≤0
    ·have au:ys=[]:=zbk.1 (by omega)
     subst au
     refine⟨_,w,M,ν.set (a1s o) ⟨none,0⟩,a1B (am a) (by rw[ak];exact av w (by simp) rfl),Mem.ext.refl κ M,Nu.set_other,?_,?_⟩
     ·simp only[T.rep,Cell.rep,Nu.set_self]
      rfl
     ·refine⟨q.os,q.tape,q.output,zao _,q.size,q.unch,q.fro,?_,?_,?_,?_⟩
      ·intro k r hm
       rcases zal.1 hm with e|hm
       ·cases e;simp only[Res.ok,Nu.set_self];exact⟨zax _,zao _, .inl (by simp)⟩
       ·obtain⟨hj,hc⟩:=Bx.fresh_spec ae hm
        exact Res.ok_fresh Nu.set_other hj hc (q.res k r hm)
      ·intro k r b hm hb
       rcases zal.1 hm with e|hm
       ·cases e;rw[Nu.set_self] at hb;cases hb
       ·obtain⟨hj,hc⟩:=Bx.fresh_spec ae hm
        rw[Nu.set_other k hj] at hb
        exact q.away k r b hm hb
      ·intro k r k' r' b hm ax hb a1
       rcases zal.1 hm with e|hm<;>rcases zal.1 ax with e'|ax
       ·cases e;cases e';rfl
       ·cases e;rw[Nu.set_self] at hb;cases hb
       ·cases e';rw[Nu.set_self] at a1;cases a1
       ·obtain⟨hj,_⟩:=Bx.fresh_spec ae hm
        obtain⟨bm,_⟩:=Bx.fresh_spec ae ax
        rw[Nu.set_other k hj] at hb
        rw[Nu.set_other k' bm] at a1
        exact q.inj k r k' r' b hm ax hb a1
      ·simp only[zau,zbr]
       refine⟨fun hm=>?_,q.nodup⟩
       obtain⟨x,hx,e⟩:=za3.1 hm
       exact(Bx.fresh_spec (j:=x.1) (r:=x.2) ae hx).1 e
    ·obtain⟨cap,d,rest,an,bf,ao,ar,hr⟩:=ah h0
     refine⟨_,_,M,ν.set (a1s o) ⟨some w.heap.size,cap⟩,a1B (am a) (by rw[ak];exact hr),Mem.ext.refl κ M,Nu.set_other,?_,?_⟩
     ·simp only[T.rep,Cell.rep,Nu.set_self,zbg]
      rfl
     ·refine Sat.new_box (w:={ w with drawn:=d }) (q.drawn d an) ae ?_
      simp only[Res.ok,Nu.set_self]
      refine⟨by omega,ao, .inr ⟨w.heap.size,_,e,new,rest.toList,rfl,push_new,by simp,u,?_⟩⟩
      have:=a0I u
      simp only[List.nil_append,zdq,zch,this,ar,zbg]
      rw[← zby]
      congr 1
      omega
   ·rename_i k m es
    split at h
    ·rename_i n' rows hb
     obtain⟨rfl,rfl,a2,af,hK⟩:=h
     refine⟨_,_,OpG.of_run fun κ M ν a w he q=>?_,hf,hK⟩
     obtain⟨new,u,ad⟩:=b9H (P:=P) ai (a3r he hx aw)
     have ak:=a0z he hs es
     simp only[T.rep,Cell.rep] at ak
     have a6:rows.length+ys.length≤maxLen:=by
      have:1≤by_+1:=by omega
      have:=zdp (2*(rows.length+ys.length)+192) this
      unfold maxLen;omega
     have aq:=a0O hb
     have al:=q.res k _ aq
     simp only[Res.ok] at al
     obtain⟨bi,bd,al⟩:=al
     have aa:(rows++ys).length=rows.length+ys.length:=zba
     rcases al with⟨ap,bh⟩|⟨b,c,et,mid,spare,az,aj,be,ab,bj⟩
     ·-- an empty row without a block
      have bn:rows=[]:=zbk.1 (by omega)
      subst bn
      have ag:a.eval s= .slice none 0 0:=by rw[ak,ap,bh];rfl
      obtain⟨_,av,ah⟩:=a7k (t2:=t2) (ty:=o.type) hu a8 hi ba hz bb a7 (base:=none) (sLen:=0) (sCap:=0) (x:=a.eval x) (m:=ys.length) (new:=new) (old:=[]) (w:=w) (ad w q.fro).1 (by simpa using a6) (by simpa using af)
       (fun d=>(ad { w with drawn:=d } q.fro).2) (fun d=>rfl) (by omega)
      by_cases h0:0+ys.length≤0
      ·have au:ys=[]:=zbk.1 (by omega)
       subst au
       refine⟨_,w,M,ν.set (a1s o) (ν k),a1B (am a) (by rw[ag];exact av w (by simp) rfl),Mem.ext.refl κ M,Nu.set_other,?_,by simpa using q.rename aq ae (a30 a2)⟩
       simp only[T.rep,Cell.rep,Nu.set_self,ap,bh]
       rfl
      ·obtain⟨cap,d,rest,an,bf,ao,ar,hr⟩:=ah h0
       refine⟨_,_,M,ν.set (a1s o) ⟨some w.heap.size,cap⟩,a1B (am a) (by rw[ag];exact hr),Mem.ext.refl κ M,Nu.set_other,?_,?_⟩
       ·simp only[T.rep,Cell.rep,Nu.set_self,zbg,List.nil_append]
        rfl
       ·refine Sat.new_box (w:={ w with drawn:=d }) ((q.drop (fun x hx=>(Bx.mem_drop q.nodup hx).1) (Bx.drop_nodup k q.nodup)).drawn d an) (Bx.fresh_drop ae) ?_
        simp only[Res.ok,Nu.set_self,List.nil_append]
        refine⟨by omega,ao, .inr ⟨w.heap.size,_,e,new,rest.toList,rfl,push_new,by simp,u,?_⟩⟩
        have:=a0I u
        simp only[List.nil_append,zdq,zch,this,ar,zbg]
        rw[← zby]
        congr 1
        omega
     ·have ag:a.eval s= .slice (some ⟨b,0,none⟩) rows.length (ν k).cap:=by rw[ak,az];rfl
      have bp:At (w.heap[b]?) 0 mid:=⟨c,et,(0,0),[],spare,aj,by simpa using be,rfl⟩
      obtain⟨_,av,ah⟩:=a7k (t2:=t2) (ty:=o.type) hu a8 hi ba hz bb a7 (base:=some ⟨b,0,none⟩) (sLen:=rows.length) (sCap:=(ν k).cap) (x:=a.eval x) (m:=ys.length) (new:=new) (old:=mid) (w:=w) (ad w q.fro).1 a6 af
       (fun d=>(ad { w with drawn:=d } q.fro).2) (fun d=>a52 (w:={ w with drawn:=d }) bp (a0I ab)) (by omega)
      by_cases h0:rows.length+ys.length≤(ν k).cap
      ·-- in place
       have bs:=a0I u
       have bk:=a0I ab
       have bu:mid.length+spare.length=(ν k).cap*n':=by rw[← bj,← Array.length_toList (xs:=c),be,zba]
       have br:new.length≤spare.length:=by
        have h3:(rows.length+ys.length)*n'≤(ν k).cap*n':=zc7 n' h0
        rw[zby] at h3
        omega
       have bl:=a51 (P:=P) b (rows.length*n') et new 0 c w mid (spare.take new.length) (spare.drop new.length) aj (by rw[zbt];exact be) (by rw[bk];rfl) (by rw[zbb];omega)
        (fun v hv=>by
         have:∀ {rs:List (List C)} {vs:List Value},a0q M n' rs vs→∀ v∈vs,v.oneCell'=true:=by
          intro rs
          induction rs with
          |nil=>intro vs h v hv;simp only[a0q] at h;subst h;cases hv
          |cons r rs ih=>
           intro vs h v hv
           simp only[a0q] at h
           obtain⟨v1,v2,e,_,h1,h2⟩:=h
           subst e
           rcases zbd.1 hv with hv|hv
           ·exact Cell.reps_oneCell (ν:=ν) (Cell.reps_map_c.2 h1) v hv
           ·exact ih h2 v hv
         exact this u v hv)
       have bc:=q.rename (j:=a1s o) aq ae (a30 a2)
       refine⟨_,_,M,ν.set (a1s o) (ν k),a1B (am a) (by rw[ag];exact av _ h0 (by simp only[a4q,zbg];exact bl)),Mem.ext.refl κ M,Nu.set_other,?_,?_⟩
       ·simp only[T.rep,Cell.rep,Nu.set_self,az,aa]
        rfl
       ·have hw:=bc.write (k:=a1s o) (b:=b) (r:= .row n' rows) (r':= .row n' (rows++ys)) (c':=(mid++(new++spare.drop new.length)).toArray) (zbl ..) (by rw[Nu.set_self];exact az) (by
         simp only[Res.ok,Nu.set_self]
         refine⟨by rw[aa];exact h0,bd, .inr ⟨b,_,et,mid++new,spare.drop new.length,az,setRow_heap w b c _ et _ aj,by simp,a3S ab u,?_⟩⟩
         simp only[zch,zba,za1]
         omega)
        simpa [Bx.put] using hw
      ·obtain⟨cap,d,rest,an,bf,ao,ar,hr⟩:=ah h0
       refine⟨_,_,M,ν.set (a1s o) ⟨some w.heap.size,cap⟩,a1B (am a) (by rw[ag];exact hr),Mem.ext.refl κ M,Nu.set_other,?_,?_⟩
       ·simp only[T.rep,Cell.rep,Nu.set_self,aa]
        rfl
       ·refine Sat.new_box (w:={ w with drawn:=d }) ((q.drop (fun x hx=>(Bx.mem_drop q.nodup hx).1) (Bx.drop_nodup k q.nodup)).drawn d an) (Bx.fresh_drop ae) ?_
        simp only[Res.ok,Nu.set_self]
        refine⟨by rw[aa];omega,ao, .inr ⟨w.heap.size,_,e,mid++new,rest.toList,rfl,push_new,by simp,a3S ab u,?_⟩⟩
        have h1:=a0I u
        have h2:=a0I ab
        simp only[zdq,zch,zba,h1,h2,ar]
        rw[← zby,← zby]
        congr 1
        omega
    ·exact h.elim
   ·exact h.elim
  ·exact h.elim
 ·exact h.elim
end Go.Sx

