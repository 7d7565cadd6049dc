/- Contracts. No conditions. -/
import Derived.RangeFuncNested
import Derived.RangeFuncBound
import Derived.RangeFuncCalls
import Derived.RangeFuncLeaves
import Derived.RangeFuncRecord
import Derived.WalkKit
import Derived.OwnWalkIn
import Derived.TacticsInMore
import Derived.OrdersIn
import Derived.Maps.AppendAt
import Derived.ChangeKeysEq
import Derived.Laws.CopyRow
import Derived.Laws.OwnMore
import Derived.Laws.RangeAny
import Derived.Laws.RangeString
import Derived.MapKept
import Derived.Lib.SliceRun
import Derived.Scope
import Derived.ProofKit
import Derived.OpenShut
import Derived.Carry
import Derived.OpenVars
import Derived.HandedShaped
import Derived.KernelRfl
import Derived.Lib.Walk
import Derived.Lib.AppendZerosOnto
import Derived.Deep.RegionLaw
import Derived.Deep.LoopGhost
import Derived.Maps.RangeRun
import Derived.Test.YtbgckikhhcbmpaaGreatChecked
set_option linter.all false
set_option maxHeartbeats 8000000
set_option maxRecDepth 100000
namespace Go.Proofs.YtbgckikhhcbmpaaGreat
open Go.RowKit
variable {parts:Array (Nat × Operand)} {fs:Array Field} {ents:Array MapEntry} {caps first:Array Operand} {ts:Array TypeId} {arr cs:Array Value} {op:BinOp} {ag fz ng stop:Bool} {fl:Field} {k:IntKind} {es:List MapEntry} {ks rd:List Nat} {ka:List Nat × Bool} {us vs:List Value} {m:MapEntry} {clock d f h i0 j len n off s sz:Nat} {B B' D M:Nat->Prop} {i x y:Operand} {row:Option Nat} {td:TypeDesc} {e t t':TypeId} {u v v':Value} {a b c w w':World}
def xaa:=@List.getElem?_eq_some_iff
def xab:=@Option.map_eq_some_iff
def xac:=@List.getElem?_eq_getElem
def xad:=@List.length_append
def xae:=@List.mem_of_getElem?
def xaf:=@List.length_map
def xag:=@Array.getD_eq_getD_getElem?
def xah:=@List.take_length
def xai:=@Array.getElem?_eq_getElem
def xaj:=@List.map_cons
def xak:=@List.append_assoc
def xal:=@List.getElem?_map
def xam:=@Int.toNat_natCast
def xan:=@List.length_take
def xao:=@Option.bind_eq_some_iff
def xap:=@Nat.le_refl
def xaq:=@List.take_append_drop
def xar:=@List.append_nil
def xas:=@List.take_of_length_le
def xat:=@List.flatMap_cons
def xau:=@Bool.and_eq_true
def xav:=@List.length_drop
def xaw:=@List.mem_flatMap
def xax:=@Bool.not_false
def xay:=@List.eq_nil_of_length_eq_zero
def xaz:=@List.length_cons
def xaA:=@List.mem_cons_self
def xaB:=@List.getElem?_append_right
def xaC:=@Bool.not_true
def xaD:=@Bool.false_eq_true
def xaE:=@List.drop_eq_getElem_cons
def xaF:=@List.map_nil
def xaG:=@List.mem_range
def xaH:=@List.mem_cons_of_mem
def xaI:=@List.mem_cons
def xaJ:=@Nat.lt_of_lt_of_le
def xaK:=@Option.some.injEq
def xaL:=@List.nil_append
def xaM:=@List.cons_append
def xaN:=@List.mem_map
def xaO:=@List.all_eq_true
def xaP:=@List.foldl_append
def xaQ:=@List.getElem?_take
def xaR:=@Array.getElem?_eq_some_iff
def xaS:=@List.mem_append
def xaT:=@List.getElem?_append_left
def xaU:=@List.length_range
def xaV:=@List.any_eq_true
def xaW:=@List.take_add_one
def xaX:=@List.mem_singleton
def xaY:=@List.getElem?_drop
def xaZ:=@Bool.true_and
def xa0:=@Nat.le_trans
def xa1:=@List.pairwise_iff_getElem
def xa2:=@List.filter_cons
def xa3:=@List.take_succ_cons
def xa4:=@Bool.false_and
def xa5:=@Option.some.inj
def xa6:=@List.map_append
def xa7:=@Option.getD_some
def xa8:=@List.flatMap_append
def xa9:=@List.getElem?_of_mem
def xba:=@Nat.mul_le_mul_right
def xbb:=@List.take_zero
def xbc:=@List.mem_append_right
def xbd:=@List.range_succ
def xbe:=@List.filter_append
def xbf:=@List.map_set
def xbg:=@Bool.or_eq_true
def xbh:=@Int.ediv_nonneg
def xbi:=@List.mem_append_left
def xbj:=@List.getElem?_cons_succ
def xbk:=@Nat.zero_le
def xbl:=@List.mem_iff_getElem?
def xbm:=@Int.toNat_of_nonneg
def xbn:=@List.foldl_cons
def xbo:=@Bool.or_eq_false_iff
def xbp:=@Int.tdiv_eq_ediv_of_nonneg
def xbq:=@Bool.not_eq_true
def xbr:=@Int.ediv_le_self
def xbs:=@List.mem_filter
def xbt:=@Nat.add_zero
def xbu:=@List.mem_of_mem_take
def xbv:=@Bool.not_eq_true'
def xbw:=@List.drop_zero
def xbx:=@Array.getElem?_modify
def xby:=@List.length_filter_le
def xbz:=@List.drop_succ_cons
def xbA:=@Nat.add_assoc
def xbB:=@List.length_nil
def xbC:=@Classical.byContradiction
def xbD:=@List.drop_eq_nil_of_le
def xbE:=@List.getElem?_set_self
def xbF:=@List.pairwise_cons
def xbG:=@Bool.eq_iff_iff
def xbH:=@List.flatMap_nil
def xbI:=@List.foldl_nil
def xbJ:=@List.getElem?_cons_zero
def xbK:=@List.map_take
def xbL:=@Bool.and_true
def xbM:=@List.drop_length
def xbN:=@Option.bind_some
def xbO:=@List.set_append_right
def xbP:=@List.drop_drop
def xbQ:=@List.length_set
def xbR:=@List.nodup_cons
def xbS:=@List.zip_cons_cons
def xbT:=@Array.toList_map
def xbU:=@Array.getElem?_append_left
def xbV:=@Int.tmod_eq_emod_of_nonneg
def xbW:=@Array.getElem?_eq_none
def xbX:=@List.drop_of_length_le
def xbY:=@Array.getElem?_setIfInBounds_ne
def xbZ:=@Array.length_toList
def xb0:=@Nat.add_mul
def xb1:=@Array.getElem?_setIfInBounds_self_of_lt
def xb2:=@List.eq_nil_iff_forall_not_mem
def xb3:=@List.length_replicate
def xb4:=@List.filterMap_cons
def xb5:=@Bool.false_or
def xb6:=@Bool.not_eq_false'
def xb7:=@Nat.le_of_eq
def xb8:=@Nat.zero_add
def xb9:=@List.getElem?_set_ne
def xca:=@List.pairwise_map
def xcb:=@Nat.min_eq_left
def xcc:=@List.length_eq_zero_iff
def xcd:=@List.mem_map_of_mem
def xce:=@Nat.add_sub_cancel_left
def xcf:=@Prod.mk.injEq
def xcg:=@List.getElem_mem
def xch:=@List.mapM_cons
def xci:=@Nat.add_sub_cancel
def xcj:=@Option.isSome_none
def xck:=@List.getElem?_eq_none
def xcl:=@List.getElem?_toArray
def xcm:=@Nat.sub_self
def xcn:=@Option.map_some
def xco:=@List.ext_getElem?
def xcp:=@List.getElem?_mapIdx
def xcq:=@List.pairwise_append
def xcr:=@Option.bind_eq_bind
def xcs:=@Bool.or_false
def xct:=@List.getElem_range
def xcu:=@Option.toList_some
inductive PV where
 | b (x:Bool)
 | i (k:IntKind) (n:Int)
 | s (x:ByteArray)
 | agg (cs:List PV)
 | tup (cs:List PV)
 | nilsl
 | sl (sz:Nat) (xs:List PV)
 | nilp
 | ip (v:PV) (off:Nat)
 | fn (f:Fn) (first caps:List PV)
 | nilf
 | mp (es:List (PV × PV))
 | rs (a:Option Addr) (n c:Nat)
 | any
instance:Inhabited PV:=⟨.any⟩
variable {tr:List (List PV)} {ps xs:List PV} {p p' r z:PV} {kv:PV × PV}
def PV.cells:PV->List PV
 | .agg cs=>cs
 | v=>[v]
def zkF (fs es:List (PV × PV)):Prop:=fs=es\/(fs.Perm es/\(∀ x ∈ es,∃ k,x.1=.s k)/\(es.map (·.1)).Nodup)
def Born (ents:Array MapEntry) (clock n:Nat):Prop:=ents.size=n/\clock=n/\∀ (i:Nat) (x:MapEntry),ents[i]?=some x->x.born=i
theorem Born.inj (h:Born ents clock n) (i j:Nat) (x y:MapEntry) (hx:ents[i]?=some x) (hy:ents[j]?=some y) (e:x.born=y.born):i=j:=by
 rw [h.2.2 i x hx,h.2.2 j y hy] at e;exact e
theorem Born.lt (h:Born ents clock n) (i:Nat) (x:MapEntry) (hx:ents[i]?=some x):x.born < clock:=by
 have:=(xaR.1 hx).1;rw [h.2.2 i x hx,h.2.1,<-h.1];exact this
theorem Born.nil:Born #[] 0 0:=⟨rfl,rfl,λi x h=>by simp at h⟩
theorem Born.push {c:Nat} (h:Born ents c n) (k v:Value):Born (ents.push { key:=k,val:=v,born:=c }) (c+1) (n+1):=by
 refine ⟨by simp [h.1],by rw [h.2.1],λi x hx=>?_⟩
 by_cases hi:i < ents.size
 ·rw [Array.getElem?_push_lt hi] at hx;exact h.2.2 i x (by rw [xai hi];exact hx)
 ·have hj:=(xaR.1 hx).1;simp at hj;have:i=ents.size:=by omega
  subst this;simp at hx;subst hx;show c=_;rw [h.2.1,h.1]
theorem Born.modify {c:Nat} (h:Born ents c n) (i:Nat) (f:MapEntry->MapEntry) (hf:∀ e,(f e).born=e.born):Born (ents.modify i f) c n:=by
 refine ⟨by simp [h.1],h.2.1,λj x hx=>?_⟩
 rw [xbx] at hx
 split at hx
 ·obtain ⟨y,hy,e⟩:=xab.1 hx;rw [<-e,hf];exact h.2.2 j y hy
 ·exact h.2.2 j x hx
inductive Rep (w:World) (B:Nat->Prop):Value->PV->Prop
 | b (x:Bool):Rep w B (.bool x) (.b x)
 | i {k:IntKind} {n:Int}:k.wrap n=n->Rep w B (.int k n) (.i k n)
 | s {x:ByteArray}:x.size<=maxLen->Rep w B (.string x) (.s x)
 | agg {cs:Array Value} {ps:List PV}:cs.size=ps.length->(∀ (j:Nat) (v:Value) (p:PV),cs[j]?=some v->ps[j]?=some p->Rep w B v p)->Rep w B (.agg cs) (.agg ps)
 | tup {cs:Array Value} {ps:List PV}:cs.size=ps.length->(∀ (j:Nat) (v:Value) (p:PV),cs[j]?=some v->ps[j]?=some p->Rep w B v p)->Rep w B (.tuple cs) (.tup ps)
 | nilsl:Rep w B (.slice none 0 0) .nilsl
 | sl0 {sz:Nat}:Rep w B (.slice none 0 0) (.sl sz [])
 | sle {a:Addr} {cap sz:Nat}:cap<=maxLen->Rep w B (.slice (some a) 0 cap) (.sl sz [])
 | sl {a:Addr} {len cap sz:Nat} {xs:List PV} (u:Nat->Nat->Value):B a.block->a.spot=none->xs.length=len->len<=cap->cap<=maxLen ->
   (∀ (i:Nat) (x:PV),xs[i]?=some x->x.cells.length=sz) ->
   (∀ (i:Nat) (x:PV) (j:Nat) (p:PV),xs[i]?=some x->x.cells[j]?=some p->w.cell? (a.add (i*sz+j))=some (u i j)) ->
   (∀ (i:Nat) (x:PV) (j:Nat) (p:PV),xs[i]?=some x->x.cells[j]?=some p->Rep w B (u i j) p)->Rep w B (.slice (some a) len cap) (.sl sz xs)
 | nilp:Rep w B (.pointer none) .nilp
 | ip {a:Addr} {v:PV} {off:Nat} (u:Nat->Value):B a.block->a.spot=none ->
   (∀ (j:Nat) (p:PV),v.cells[off+j]?=some p->w.cell? (a.add j)=some (u j)) ->
   (∀ (j:Nat) (p:PV),v.cells[off+j]?=some p->Rep w B (u j) p)->Rep w B (.pointer (some a)) (.ip v off)
 | fn {f:Fn} {fs cs:Array Value} {ps qs:List PV}:fs.size=ps.length->cs.size=qs.length ->
   (∀ (j:Nat) (v:Value) (p:PV),fs[j]?=some v->ps[j]?=some p->Rep w B v p)->(∀ (j:Nat) (v:Value) (p:PV),cs[j]?=some v->qs[j]?=some p->Rep w B v p)->Rep w B (.func f fs cs) (.fn f ps qs)
 | nilf:Rep w B .nilFunc .nilf
 | mp0:Rep w B (.map none) (.mp [])
 | mp {r:Nat} {ents:Array MapEntry} {clock:Nat} {es fs:List (PV × PV)}:B r->w.heap[r]?=some (.map ents clock)->zkF fs es->Born ents clock fs.length ->
   (∀ (j:Nat) (m:MapEntry) (kv:PV × PV),ents[j]?=some m->fs[j]?=some kv->Rep w B m.key kv.1)->(∀ (j:Nat) (m:MapEntry) (kv:PV × PV),ents[j]?=some m->fs[j]?=some kv->Rep w B m.val kv.2)->Rep w B (.map (some r)) (.mp es)
 | rs (a:Option Addr) (n c:Nat):Rep w B (.slice a n c) (.rs a n c)
 | any (v:Value):Rep w B v .any
theorem Addr.block_add (a:Addr) (n:Nat):(a.add n).block=a.block:=by unfold Addr.add;split<;>rfl
theorem Addr.spot_add (a:Addr) (n:Nat) (h:a.spot=none):(a.add n).spot=none:=by unfold Addr.add;split<;>simp [h]
theorem Addr.add_add (a:Addr) (i j:Nat):(a.add i).add j=a.add (i+j):=by
 unfold Addr.add
 by_cases hi:i=0<;>by_cases hj:j=0<;>simp [hi,hj,xbA]
theorem Addr.add_lit0 (b off n:Nat):(⟨b,off,none⟩:Addr).add n=⟨b,off+n,none⟩:=by
 unfold Addr.add;split<;>simp_all
theorem zfw {a:Addr} (h:w'.heap[a.block]?=w.heap[a.block]?):w'.cell? a=w.cell? a:=World.cell?_of_block h
theorem Rep.mono (hB:∀ b,B b->B' b) (hw:∀ b,B b->w'.heap[b]?=w.heap[b]?) (h:Rep w B v p):Rep w' B' v p:=by
 induction h with
 | b x=>exact .b x
 | i h=>exact .i h
 | s h=>exact .s h
 | agg h _ ih=>exact .agg h ih
 | tup h _ ih=>exact .tup h ih
 | nilsl=>exact .nilsl
 | sl0=>exact .sl0
 | sle h=>exact .sle h
 | sl u h1 h2 h3 h4 h5 h6 h7 _ ih=>
  exact .sl u (hB _ h1) h2 h3 h4 h5 h6 (λi x j p hx hp=>(zfw (by rw [Addr.block_add];exact hw _ h1)).trans (h7 i x j p hx hp)) ih
 | nilp=>exact .nilp
 | ip u h1 h2 h3 _ ih=>
  exact .ip u (hB _ h1) h2 (λj p hp=>(zfw (by rw [Addr.block_add];exact hw _ h1)).trans (h3 j p hp)) ih
 | fn h1 h2 _ _ ih1 ih2=>exact .fn h1 h2 ih1 ih2
 | nilf=>exact .nilf
 | mp0=>exact .mp0
 | mp h1 h2 h0 h3 _ _ ih1 ih2=>exact .mp (hB _ h1) ((hw _ h1).trans h2) h0 h3 ih1 ih2
 | rs a n c=>exact .rs a n c
 | any v=>exact .any v
def Reps (w:World) (B:Nat->Prop) (vs:List Value) (ps:List PV):Prop:=
 vs.length=ps.length/\∀ (j:Nat) (v:Value) (p:PV),vs[j]?=some v->ps[j]?=some p->Rep w B v p
theorem Reps.nil:Reps w B [] []:=⟨rfl,λ_ _ _ h _=>by simp at h⟩
theorem Reps.cons (h:Rep w B v p) (hs:Reps w B vs ps):Reps w B (v::vs) (p::ps):=
 ⟨by simp [hs.1],λj u q hu hq=>by
  cases j with
  | zero=>simp at hu hq;subst hu;subst hq;exact h
  | succ j=>simp at hu hq;exact hs.2 j u q hu hq⟩
theorem Reps.mono (hB:∀ b,B b->B' b) (hw:∀ b,B b->w'.heap[b]?=w.heap[b]?) (h:Reps w B vs ps):Reps w' B' vs ps:=
 ⟨h.1,λj v p hv hp=>(h.2 j v p hv hp).mono hB hw⟩
theorem Reps.append {qs:List PV} (h:Reps w B vs ps) (k:Reps w B us qs):Reps w B (vs++us) (ps++qs):=by
 refine ⟨by simp [h.1,k.1],λj v p hv hp=>?_⟩
 by_cases hj:j < vs.length
 ·rw [xaT hj] at hv;rw [xaT (by rw [<-h.1];exact hj)] at hp
  exact h.2 j v p hv hp
 ·rw [xaB (by omega)] at hv
  rw [xaB (by rw [<-h.1];omega)] at hp
  rw [<-h.1] at hp;exact k.2 _ v p hv hp
theorem Reps.get (h:Reps w B vs ps) (hp:ps[j]?=some p):∃ v,vs[j]?=some v/\Rep w B v p:=by
 have hj:j < vs.length:=by rw [h.1];exact (xaa.1 hp).1
 exact ⟨vs[j],xac hj,h.2 j _ p (xac hj) hp⟩
theorem Reps.nil_inv (h:Reps w B vs []):vs=[]:=xay (by simpa using h.1)
theorem Reps.cons_inv (h:Reps w B vs (p::ps)):∃ v us,vs=v::us/\Rep w B v p/\Reps w B us ps:=by
 match vs,h with
 | v::us,h=>
  exact ⟨v,us,rfl,h.2 0 v p rfl rfl,by simpa using h.1,λj u q hu hq=>h.2 (j+1) u q (by simpa using hu) (by simpa using hq)⟩
 | [],h=>exact absurd h.1 (by simp)
theorem Rep.cells (h:Rep w B v p) (hp:p≠.any):Reps w B v.cells.toList p.cells:=by
 cases h
 case any=>exact absurd rfl hp
 case agg h1 h2=>exact ⟨by simpa [Value.cells,PV.cells] using h1,λj v p hv hpp=>h2 j v p (by simpa [Value.cells] using hv) (by simpa [PV.cells] using hpp)⟩
 case mp h1 h2 h0 h3 h4 h5=>exact Reps.cons (.mp h1 h2 h0 h3 h4 h5) Reps.nil
 all_goals (refine Reps.cons ?_ Reps.nil;constructor<;>assumption)
structure KeepX (M:Nat->Prop) (w w':World):Prop where
 os:w'.os=w.os
 tape:w'.tape=w.tape
 output:w'.output=w.output
 size:w.heap.size<=w'.heap.size
 block:∀ k,k < w.heap.size->¬M k->w'.heap[k]?=w.heap[k]?
theorem KeepX.refl (M:Nat->Prop) (w:World):KeepX M w w:=⟨rfl,rfl,rfl,xap _,λ_ _ _=>rfl⟩
theorem KeepX.trans (h:KeepX M a b) (k:KeepX M b c):KeepX M a c:=
 ⟨k.os.trans h.os,k.tape.trans h.tape,k.output.trans h.output,xa0 h.size k.size,λi hi hm=>(k.block i (xaJ hi h.size) hm).trans (h.block i hi hm)⟩
theorem KeepX.mono {M':Nat->Prop} (h:KeepX M a b) (hM:∀ k,k < a.heap.size->M k->M' k):KeepX M' a b:=
 ⟨h.os,h.tape,h.output,h.size,λi hi hm=>h.block i hi (λe=>hm (hM i hi e))⟩
theorem KeepX.of_below (M:Nat->Prop) (h:Below w.heap.size w w'):KeepX M w w':=⟨h.os,h.tape,h.output,h.size,λk hk _=>h.block k hk⟩
theorem KeepX.below (h:KeepX (λ_=>False) w w'):Below w.heap.size w w':=⟨h.os,h.tape,h.output,h.size,λk hk=>h.block k hk (λe=>e)⟩
theorem KeepX.grown {M : Nat → Prop} {w0:World} (h : KeepX M w0 w) (hg : w.grownBy w' row) (hr : ∀ k, row = some k → w0.heap.size ≤ k ∨ M k) : KeepX M w0 w' :=
  ⟨hg.os.trans h.os, hg.tape.trans h.tape, hg.output.trans h.output, Nat.le_trans h.size hg.size, fun i hi hm =>
    (hg.block i (Nat.lt_of_lt_of_le hi h.size) (fun e => by rcases hr i e.symm with h1 | h1; · omega
                                                            · exact hm h1)).trans (h.block i hi hm)⟩
inductive LV where
 | p (v:PV)
 | g (c:Bool) (q:LV)
 | lp (k off:Nat)
 | row (k n:Nat)
 | ep (k n i off:Nat)
 | it (k:Nat)
 | lm (k:Nat)
 | fn (f:Fn) (first caps:List LV)
 | agg (cs:List LV)
 | tup (cs:List LV)
 | yield
 | any
instance:Inhabited LV:=⟨.any⟩
variable {q:LV} {qs rs:List LV} {g:Nat->LV}
inductive LObj where
 | box (cs:List LV) (fz:Bool)
 | row (e:TypeId) (sz:Nat) (xs:List PV) (fz:Bool)
 | sit (s:ByteArray) (pos:Nat)
 | mit (rem:List (PV × PV)) (cur:Option (PV × PV))
 | mp (es:List (PV × PV)) (fz:Bool)
 | hrow (e:TypeId) (sz:Nat) (xs:List PV) (a:Option Addr) (c:Nat)
instance:Inhabited LObj:=⟨.sit ByteArray.empty 0⟩
variable {o:LObj} {l l':Nat->Option LObj}
def LObj.frozen:LObj->Bool
 | .box _ f=>f
 | .row _ _ _ f=>f
 | .mp _ f=>f
 | _=>false
structure Ctx where
 B:Nat->Prop
 ρ:Nat->Nat
 cur:Nat->Value
 y:Nat
 n:Nat
 dep:Nat->Prop
 own:Nat->Prop
variable {C C':Ctx}
inductive LV.Sc (l:Nat->Option LObj):LV->Prop
 | p (v:PV):LV.Sc l (.p v)
 | g {c:Bool} {q:LV}:(c=true->LV.Sc l q)->LV.Sc l (.g c q)
 | lp {k off:Nat} {cs:List LV} {fz:Bool}:l k=some (.box cs fz)->LV.Sc l (.lp k off)
 | row {k n:Nat} {e:TypeId} {sz:Nat} {xs:List PV} {fz:Bool}:l k=some (.row e sz xs fz)->n<=xs.length->LV.Sc l (.row k n)
 | ep {k n i off:Nat} {e:TypeId} {sz:Nat} {xs:List PV} {fz:Bool}:l k=some (.row e sz xs fz)->n<=xs.length->LV.Sc l (.ep k n i off)
 | it {k:Nat} {s:ByteArray} {pos:Nat}:l k=some (.sit s pos)->LV.Sc l (.it k)
 | im {k:Nat} {rem:List (PV × PV)} {cur:Option (PV × PV)}:l k=some (.mit rem cur)->LV.Sc l (.it k)
 | lm {k:Nat} {es:List (PV × PV)} {fz:Bool}:l k=some (.mp es fz)->LV.Sc l (.lm k)
 | fn {f:Fn} {first caps:List LV}:(∀ (j:Nat) (q:LV),first[j]?=some q->LV.Sc l q)->(∀ (j:Nat) (q:LV),caps[j]?=some q->LV.Sc l q)->LV.Sc l (.fn f first caps)
 | agg {cs:List LV}:(∀ (j:Nat) (q:LV),cs[j]?=some q->LV.Sc l q)->LV.Sc l (.agg cs)
 | tup {cs:List LV}:(∀ (j:Nat) (q:LV),cs[j]?=some q->LV.Sc l q)->LV.Sc l (.tup cs)
 | yield:LV.Sc l .yield
 | any:LV.Sc l .any
def LObj.Sc (l:Nat->Option LObj):LObj->Prop
 | .box cs _=>∀ (j:Nat) (q:LV),cs[j]?=some q->LV.Sc l q
 | _=>True
inductive RepL (w:World) (C:Ctx) (l:Nat->Option LObj):Value->LV->Prop
 | p {v:Value} {x:PV}:Rep w C.B v x->RepL w C l v (.p x)
 | g {c:Bool} {v:Value} {q:LV}:(c=true->RepL w C l v q)->(c=false->v=undef)->RepL w C l v (.g c q)
 | lp {k off:Nat}:RepL w C l (.pointer (some ⟨C.ρ k,off,none⟩)) (.lp k off)
 | row {v:Value} {k n:Nat}:(∀ e sz xs fz,l k=some (.row e sz xs fz)->xs.length=n->v=C.cur k)->RepL w C l v (.row k n)
 | ep {v:Value} {k n i off:Nat}:(∀ e sz xs fz,l k=some (.row e sz xs fz)->xs.length=n->∃ b,(C.cur k).ownBlock=some b/\v=.pointer (some ⟨b,i*sz+off,none⟩))->RepL w C l v (.ep k n i off)
 | it {k:Nat}:RepL w C l (.pointer (some ⟨C.ρ k,0,none⟩)) (.it k)
 | lm {k:Nat}:RepL w C l (.map (some (C.ρ k))) (.lm k)
 | fn {f:Fn} {fs cs:Array Value} {ps qs:List LV}:fs.size=ps.length->cs.size=qs.length ->
   (∀ (j:Nat) (v:Value) (p:LV),fs[j]?=some v->ps[j]?=some p->RepL w C l v p)->(∀ (j:Nat) (v:Value) (p:LV),cs[j]?=some v->qs[j]?=some p->RepL w C l v p)->RepL w C l (.func f fs cs) (.fn f ps qs)
 | agg {cs:Array Value} {ps:List LV}:cs.size=ps.length->(∀ (j:Nat) (v:Value) (p:LV),cs[j]?=some v->ps[j]?=some p->RepL w C l v p)->RepL w C l (.agg cs) (.agg ps)
 | tup {cs:Array Value} {ps:List LV}:cs.size=ps.length->(∀ (j:Nat) (v:Value) (p:LV),cs[j]?=some v->ps[j]?=some p->RepL w C l v p)->RepL w C l (.tuple cs) (.tup ps)
 | yield:RepL w C l (.func (.yield C.y) #[] #[]) .yield
 | any (v:Value):RepL w C l v .any
def blk (C:Ctx) (k:Nat):LObj->Option Nat
 | .row ..=>(C.cur k).ownBlock
 | .hrow ..=>(C.cur k).ownBlock
 | _=>some (C.ρ k)
def MitOk (w:World) (B:Nat->Prop) (ob:Option Obj) (rem:List (PV × PV)) (cur:Option (PV × PV)):Prop:=
 (ob=some (.mapIter none 0 #[] 0)/\rem=[]/\cur=none)\/∃ (r:Nat) (seen:Array Nat) (ents:Array MapEntry) (clock:Nat),B r/\ob=some (.mapIter (some r) clock seen clock)/\w.heap[r]?=some (.map ents clock)/\Born ents clock ents.size /\
  (ents.toList.filter λe=>!seen.contains e.born).length=rem.length /\
  (∀ (j:Nat) (m:MapEntry) (kv:PV × PV),(ents.toList.filter λe=>!seen.contains e.born)[j]?=some m->rem[j]?=some kv->Rep w B m.key kv.1/\Rep w B m.val kv.2) /\
  ∀ kv,cur=some kv->∃ (m:MapEntry) (seen':Array Nat),seen=seen'.push m.born/\m ∈ ents.toList/\Rep w B m.key kv.1/\Rep w B m.val kv.2
theorem MitOk.keep {ob ob':Option Obj} {rem:List (PV × PV)} {cur:Option (PV × PV)} (hB:∀ b,B b->B' b) (hw:∀ b,B b->w'.heap[b]?=w.heap[b]?) (ho:ob'=ob) (h:MitOk w B ob rem cur):MitOk w' B' ob' rem cur:=by
 subst ho
 rcases h with h|⟨r,seen,ents,clock,h1,h2,h3,h4,h5,h6,h7⟩
 ·exact .inl h
 ·exact .inr ⟨r,seen,ents,clock,hB _ h1,h2,(hw _ h1).trans h3,h4,h5,λj m kv hm hkv=>⟨(h6 j m kv hm hkv).1.mono hB hw,(h6 j m kv hm hkv).2.mono hB hw⟩,λkv hk=>by
   obtain ⟨m,seen',a1,a2,a3,a4⟩:=h7 kv hk;exact ⟨m,seen',a1,a2,a3.mono hB hw,a4.mono hB hw⟩⟩
def ObjRel (w:World) (C:Ctx) (l:Nat->Option LObj) (k:Nat):LObj->Prop
 | .box cs _=>∃ arr ty,w.heap[C.ρ k]?=some (.cells arr ty (0,0))/\arr.size=cs.length/\∀ (j:Nat) (v:Value) (q:LV),arr[j]?=some v->cs[j]?=some q->RepL w C l v q
 | .row e sz xs _=>∃ us,w.ownsRow 0 e sz (C.cur k) xs.length us/\Reps w C.B us (xs.flatMap PV.cells)/\(∀ x ∈ xs,x.cells.length=sz)/\0 < sz
 | .sit s pos=>w.heap[C.ρ k]?=some (.stringIter s pos)
 | .mit rem cur=>MitOk w C.B (w.heap[C.ρ k]?) rem cur
 | .hrow e sz xs a c=>(∃ us,w.ownsRow 0 e sz (C.cur k) xs.length us/\Reps w C.B us (xs.flatMap PV.cells)/\(∀ x ∈ xs,x.cells.length=sz)/\0 < sz)/\C.cur k=.slice a xs.length c
 | .mp es fz=>∃ ents clock fs,w.heap[C.ρ k]?=some (.map ents clock)/\(fs=es\/fz=true/\zkF fs es)/\Born ents clock fs.length/\∀ (j:Nat) (m:MapEntry) (kv:PV × PV),ents[j]?=some m->fs[j]?=some kv->Rep w C.B m.key kv.1/\Rep w C.B m.val kv.2
def GB:Nat:=1000000
structure Kept (D:Nat->Prop) (w w':World):Prop where
 os:w'.os=w.os
 tape:w'.tape=w.tape
 output:w'.output=w.output
 size:w.heap.size<=w'.heap.size
 block:∀ k,D k->w'.heap[k]?=w.heap[k]?
theorem Kept.refl (D:Nat->Prop) (w:World):Kept D w w:=⟨rfl,rfl,rfl,xap _,λ_ _=>rfl⟩
theorem Kept.trans (h:Kept D a b) (k:Kept D b c):Kept D a c:=
 ⟨k.os.trans h.os,k.tape.trans h.tape,k.output.trans h.output,xa0 h.size k.size,λi hi=>(k.block i hi).trans (h.block i hi)⟩
theorem Kept.mono {D':Nat->Prop} (h:Kept D a b) (hD:∀ k,D' k->D k):Kept D' a b:=⟨h.os,h.tape,h.output,h.size,λi hi=>h.block i (hD i hi)⟩
theorem Kept.of_below (h:Below n a b) (hs:a.heap.size<=b.heap.size) (hD:∀ k,D k->k < n):Kept D a b:=⟨h.os,h.tape,h.output,hs,λi hi=>h.block i (hD i hi)⟩
theorem Kept.of_grown (h:a.grownBy b row) (hD:∀ k,D k->k < a.heap.size) (hr:∀ k,row=some k->¬D k):Kept D a b:=
 ⟨h.os,h.tape,h.output,h.size,λi hi=>h.block i (hD i hi) λe=>hr i e.symm hi⟩
structure Fx where
 w0:World
 B0:Nat->Prop
 B1:Nat->Prop
 M:Nat->Prop
 O0:Nat->Prop
 D0:Nat->Prop
 Bo:Nat->Prop
 no:Nat
 N:Nat
 y:Nat
 J:List (List PV)->(Nat->Prop)->(Nat->Prop)->World->Prop
 Jx:List (List PV)->(Nat->Prop)->World->Prop
 gv:Nat->Value
 K:List (Nat × Obj)
variable {X:Fx}
def Fx.Triv (X:Fx):Prop:=∀ t D o w,X.J t D o w/\X.Jx t D w
structure Fx.MOk (X:Fx):Prop where
 m1:∀ b,X.M b->X.B1 b
 m2:∀ b,X.M b->X.Bo b\/X.no<=b
def zbz (X:Fx) (a:Act) (t:Nat):Value:=if t < GB then a.tmps.getD t undef else X.gv t
theorem zbc {a:Act} {t:Nat} (h:t < GB):zbz X a t=a.tmps.getD t undef:=if_pos h
def zhd (X:Fx) (C:Ctx) (l:Nat->Option LObj) (r:Nat):Prop:=X.no<=r/\¬C.B r/\¬C.dep r/\(∀ k o,l k=some o->blk C k o≠some r)
def KOk (w:World) (X:Fx) (C:Ctx) (l:Nat->Option LObj):Prop:=∀ p ∈ X.K,w.heap[p.1]?=some p.2/\zhd X C l p.1
def MarksOk (w:World) (X:Fx) (C:Ctx) (l:Nat->Option LObj):List Deferred->Prop
 | []=>KOk w X C l
 | d::ds=>(∃ r,d.target=.collected r/\w.heap[r]?=some (.deferred (some []))/\X.w0.heap.size<=r/\zhd X C l r/\(∀ d' ∈ ds,d'.target≠.collected r)/\(∀ p ∈ X.K,p.1≠r))/\MarksOk w X C l ds
structure RelC (X:Fx) (C:Ctx) (g:Nat->LV) (l:Nat->Option LObj) (tr:List (List PV)) (stop:Bool) (a:Act) (w:World):Prop where
 kx:KeepX (λb=>X.M b\/X.O0 b) X.w0 w
 yy:C.y=X.y
 b0:∀ b,X.B0 b->C.B b
 blt:∀ b,C.B b->b < w.heap.size
 bold:∀ b,C.B b->b < X.w0.heap.size->X.B1 b
 borg:∀ b,C.B b->X.Bo b\/X.no<=b
 no0:X.no<=X.w0.heap.size
 tsz:a.tmps.size=X.N
 ngb:X.N<=GB
 env:∀ t,RepL w C l (zbz X a t) (g t)
 envs:∀ t,LV.Sc l (g t)
 obj:∀ k o,l k=some o->ObjRel w C l k o
 objs:∀ k o,l k=some o->LObj.Sc l o
 sep:∀ k o b,l k=some o->blk C k o=some b->(o.frozen=false->X.w0.heap.size<=b\/X.M b)/\b < w.heap.size/\(o.frozen=false->¬C.B b)/\(o.frozen=true->C.B b)
 dis:∀ k k' o o' b,k≠k'->l k=some o->l k'=some o'->blk C k o=some b->blk C k' o'=some b->False
 marks:MarksOk w X C l a.defers
 nle:C.n<=w.heap.size
 dn:∀ b,C.dep b->b < C.n
 nn:∀ k o b,l k=some o->blk C k o=some b->o.frozen=false->¬C.dep b
 ow:∀ b,C.own b->¬C.B b/\C.dep b
 oold:∀ b,C.own b->X.w0.heap.size<=b\/X.O0 b
 dold:∀ b,C.dep b->X.D0 b\/X.w0.heap.size<=b\/C.B b
 jj:X.Triv\/∃ (wy:World),(if stop=true then X.Jx tr C.dep wy else X.J tr C.dep C.own wy)/\Kept C.dep wy w
def upd {α:Type} (f:Nat->α) (k:Nat) (v:α):Nat->α:=λt=>if t=k then v else f t
theorem zk {α:Type} (f:Nat->α) (k:Nat) (v:α):upd f k v k=v:=by simp [upd]
theorem zA {α:Type} (f:Nat->α) {k t:Nat} (v:α) (h:t≠k):upd f k v t=f t:=by simp [upd,h]
theorem RepL.same {l l':Nat->Option LObj} (hB:∀ b,C.B b->C'.B b) (hy:C'.y=C.y) (hw:∀ b,C.B b->w'.heap[b]?=w.heap[b]?)
  (hρ:∀ k o,l k=some o->C'.ρ k=C.ρ k)
  (hr:∀ k e sz xs fz,l k=some (.row e sz xs fz)->∃ xs' fz',l' k=some (.row e sz xs' fz')/\(xs'.length=xs.length->C'.cur k=C.cur k)/\xs.length<=xs'.length)
  {v:Value} {q:LV} (hs:LV.Sc l q) (h:RepL w C l v q):RepL w' C' l' v q:=by
 induction h with
 | p h=>exact .p (h.mono hB hw)
 | g h h2 ih=>cases hs with|g hs'=>exact .g (λhc=>ih hc (hs' hc)) h2
 | @lp k off=>cases hs with|lp hk=>rw [<-hρ _ _ hk];exact .lp
 | @row v k n h=>
  cases hs with
  | row hk hn=>
   refine .row λe' sz' xs' fz' hk' hl=>?_
   obtain ⟨ys,gz,h1,h2,h3⟩:=hr _ _ _ _ _ hk;rw [h1] at hk';injection hk' with hk';injection hk' with e1 e2 e3 e4;subst e3;have hx:=h _ _ _ _ hk (by omega)
   rw [hx,h2 (by omega)]
 | @ep v k n i off h=>
  cases hs with
  | ep hk hn=>
   refine .ep λe' sz' xs' fz' hk' hl=>?_
   obtain ⟨ys,gz,h1,h2,h3⟩:=hr _ _ _ _ _ hk;rw [h1] at hk';injection hk' with hk';injection hk' with e1 e2 e3 e4;subst e3;subst e2;obtain ⟨b,hb,hv⟩:=h _ _ _ _ hk (by omega)
   exact ⟨b,by rw [h2 (by omega)];exact hb,hv⟩
 | @it k=>cases hs with
  | it hk=>rw [<-hρ _ _ hk];exact .it
  | im hk=>rw [<-hρ _ _ hk];exact .it
 | @lm k=>cases hs with|lm hk=>rw [<-hρ _ _ hk];exact .lm
 | fn h1 h2 _ _ ih1 ih2=>
  cases hs with
  | fn s1 s2=>exact .fn h1 h2 (λj v p hv hp=>ih1 j v p hv hp (s1 j p hp)) (λj v p hv hp=>ih2 j v p hv hp (s2 j p hp))
 | agg h1 _ ih=>cases hs with|agg s=>exact .agg h1 λj v p hv hp=>ih j v p hv hp (s j p hp)
 | tup h1 _ ih=>cases hs with|tup s=>exact .tup h1 λj v p hv hp=>ih j v p hv hp (s j p hp)
 | yield=>rw [<-hy];exact .yield
 | any v=>exact .any v
def LObj.Follows:LObj->LObj->Prop
 | .box _ _,.box _ _=>True
 | .row e sz xs _,.row e' sz' xs' _=>e'=e/\sz'=sz/\xs.length<=xs'.length
 | .sit _ _,.sit _ _=>True
 | .mit _ _,.mit _ _=>True
 | .mp _ _,.mp _ _=>True
 | .hrow e sz _ _ _,.hrow e' sz' _ _ _=>e'=e/\sz'=sz
 | _,_=>False
theorem LV.Sc.follows (h:∀ k o,l k=some o->∃ o',l' k=some o'/\o.Follows o') (hs:LV.Sc l q):LV.Sc l' q:=by
 induction hs with
 | p v=>exact .p v
 | g _ ih=>exact .g ih
 | lp hk=>obtain ⟨o',h1,h2⟩:=h _ _ hk;cases o'<;>simp [LObj.Follows] at h2;exact .lp h1
 | row hk hn=>
  obtain ⟨o',h1,h2⟩:=h _ _ hk;cases o'<;>simp [LObj.Follows] at h2
  exact .row h1 (by omega)
 | ep hk hn=>
  obtain ⟨o',h1,h2⟩:=h _ _ hk;cases o'<;>simp [LObj.Follows] at h2
  exact .ep h1 (by omega)
 | it hk=>obtain ⟨o',h1,h2⟩:=h _ _ hk;cases o'<;>simp [LObj.Follows] at h2;exact .it h1
 | im hk=>obtain ⟨o',h1,h2⟩:=h _ _ hk;cases o'<;>simp [LObj.Follows] at h2;exact .im h1
 | lm hk=>obtain ⟨o',h1,h2⟩:=h _ _ hk;cases o'<;>simp [LObj.Follows] at h2;exact .lm h1
 | fn _ _ ih1 ih2=>exact .fn ih1 ih2
 | agg _ ih=>exact .agg ih
 | tup _ ih=>exact .tup ih
 | yield=>exact .yield
 | any=>exact .any
theorem LObj.follows_refl (o:LObj):o.Follows o:=by cases o<;>simp [LObj.Follows]
theorem zdr (hd:l d=none):∀ k x,l k=some x->∃ x',upd l d (some o) k=some x'/\x.Follows x':=by
 intro k x hk;refine ⟨x,?_,x.follows_refl⟩;rw [zA _ _ (by rintro rfl;rw [hd] at hk;cases hk)];exact hk
theorem zd7 {o':LObj} (hd:l d=some o) (hf:o.Follows o'):∀ k x,l k=some x->∃ x',upd l d (some o') k=some x'/\x.Follows x':=by
 intro k x hk
 by_cases e:k=d
 ·subst e;rw [hd] at hk;injection hk with hk;subst hk;exact ⟨o',zk _ _ _,hf⟩
 ·exact ⟨x,by rw [zA _ _ e];exact hk,x.follows_refl⟩
theorem ObjRel.same {l l':Nat->Option LObj} {k:Nat} {o:LObj} (hB:∀ b,C.B b->C'.B b) (hy:C'.y=C.y) (hw:∀ b,C.B b->w'.heap[b]?=w.heap[b]?)
  (hρ:∀ k o,l k=some o->C'.ρ k=C.ρ k)
  (hr:∀ k e sz xs fz,l k=some (.row e sz xs fz)->∃ xs' fz',l' k=some (.row e sz xs' fz')/\(xs'.length=xs.length->C'.cur k=C.cur k)/\xs.length<=xs'.length)
  (hk:l k=some o) (hs:LObj.Sc l o) (hc:C'.cur k=C.cur k) (hb:∀ b,blk C k o=some b->w'.heap[b]?=w.heap[b]?) (h:ObjRel w C l k o):ObjRel w' C' l' k o:=by
 have hρk:=hρ k o hk;cases o with
 | box cs fz=>
  obtain ⟨arr,ty,h1,h2,h3⟩:=h;exact ⟨arr,ty,by rw [hρk,hb _ rfl];exact h1,h2,λj v q hv hq=>(h3 j v q hv hq).same hB hy hw hρ hr (hs j q hq)⟩
 | row e sz xs fz=>
  obtain ⟨us,⟨h1,h2⟩,h3,h4⟩:=h;refine ⟨us,⟨h1,?_⟩,h3.mono hB hw,h4⟩;rw [hc]
  rcases h2 with h2|⟨gb,cap,curr,e1,e2,e3,e4⟩
  ·exact .inl h2
  ·refine .inr ⟨gb,cap,curr,e1,e2,?_,e4⟩;rw [hb gb (by simp [blk,e1,Value.ownBlock])];exact e3
 | hrow e sz xs a c=>
  obtain ⟨⟨us,⟨h1,h2⟩,h3,h4⟩,h5⟩:=h;refine ⟨⟨us,⟨h1,?_⟩,h3.mono hB hw,h4⟩,hc.trans h5⟩;rw [hc]
  rcases h2 with h2|⟨gb,cap,curr,e1,e2,e3,e4⟩
  ·exact .inl h2
  ·refine .inr ⟨gb,cap,curr,e1,e2,?_,e4⟩;rw [hb gb (by simp [blk,e1,Value.ownBlock])];exact e3
 | sit s pos=>show w'.heap[C'.ρ k]?=_;rw [hρk,hb _ rfl];exact h
 | mit rem cur=>exact MitOk.keep hB hw (by rw [hρk,hb _ rfl]) h
 | mp es fz=>
  obtain ⟨ents,clock,fs,h1,h0,h2,h3⟩:=h;exact ⟨ents,clock,fs,by rw [hρk,hb _ rfl];exact h1,h0,h2,λj m kv hm hkv=>⟨(h3 j m kv hm hkv).1.mono hB hw,(h3 j m kv hm hkv).2.mono hB hw⟩⟩
theorem Mk.lt_of {r:Nat} {o:Obj} (h:w.heap[r]?=some o):r < w.heap.size:=(xaR.1 h).1
theorem MarksOk.same {ds:List Deferred} (hw:∀ r,r < w.heap.size->X.no<=r->¬C.B r->¬C.dep r->(∀ k o,l k=some o->blk C k o≠some r)->w'.heap[r]?=w.heap[r]?/\¬C'.B r/\¬C'.dep r/\(∀ k o,l' k=some o->blk C' k o≠some r))
  (h:MarksOk w X C l ds):MarksOk w' X C' l' ds:=by
 induction ds with
 | nil=>
  intro p hp;obtain ⟨h1,h2,h3,h4,h5⟩:=h p hp;obtain ⟨k1,k2,k3,k4⟩:=hw p.1 (Mk.lt_of h1) h2 h3 h4 h5;exact ⟨k1.trans h1,h2,k2,k3,k4⟩
 | cons d ds ih=>
  obtain ⟨⟨r,h1,h2,h0,⟨h3,h4,h5,h6⟩,h7,h8⟩,hr⟩:=h;obtain ⟨k1,k2,k3,k4⟩:=hw r (Mk.lt_of h2) h3 h4 h5 h6;exact ⟨⟨r,h1,k1.trans h2,h0,⟨h3,k2,k3,k4⟩,h7,h8⟩,ih hr⟩
def Mk (X:Fx) (ds:List Deferred) (b:Nat):Prop:=(∃ x ∈ ds,x.target=.collected b)\/∃ p ∈ X.K,p.1=b
theorem MarksOk.at:∀ {ds:List Deferred},MarksOk w X C l ds->∀ b,Mk X ds b->b < w.heap.size/\zhd X C l b
 | [],h,b,hb=>by
  rcases hb with ⟨x,hx,_⟩|⟨p,hp,rfl⟩
  ·cases hx
  ·exact ⟨Mk.lt_of (h p hp).1,(h p hp).2⟩
 | d::ds,h,b,hb=>by
  obtain ⟨⟨r,h1,h2,_,h3,h4⟩,hr⟩:=h
  rcases hb with ⟨x,hx,he⟩|hb
  ·rcases xaI.1 hx with rfl|hx
   ·rw [h1] at he;injection he with he;subst he;exact ⟨Mk.lt_of h2,h3⟩
   ·exact MarksOk.at hr b (.inl ⟨x,hx,he⟩)
  ·exact MarksOk.at hr b (.inr hb)
theorem MarksOk.lt {ds:List Deferred} (h:MarksOk w X C l ds):∀ b,Mk X ds b->b < w.heap.size:=λb hb=>(h.at b hb).1
theorem RelC.put {g : Nat → LV} {l : Nat → Option LObj} {a : Act} (h : RelC X C g l tr stop a w) {v : Value} {q : LV} (hd : d < X.N)
    (hv : RepL w C l v q) (hs : LV.Sc l q) : RelC X C (upd g d q) l tr stop (a.put (some d) v) w :=
  { h with
    tsz := by simpa [Act.put] using h.tsz
    env := fun t => by
      by_cases e : t = d
      · subst e
        rw [zk]
        have : zbz X (a.put (some t) v) t = v := by
          have := h.tsz
          rw [zbc (Nat.lt_of_lt_of_le hd h.ngb)]
          simp only [Act.put, Array.getD_eq_getD_getElem?]
          rw [Array.getElem?_setIfInBounds_self_of_lt (by omega)]
          rfl
        rw [this]; exact hv
      · rw [zA _ _ e]
        have : zbz X (a.put (some d) v) t = zbz X a t := by
          simp only [zbz, Act.put, Array.getD_eq_getD_getElem?]
          rw [Array.getElem?_setIfInBounds_ne (Ne.symm e)]
        rw [this]; exact h.env t
    envs := fun t => by
      by_cases e : t = d
      · subst e; rw [zk]; exact hs
      · rw [zA _ _ e]; exact h.envs t }
theorem RelC.forget {g g' : Nat → LV} {l : Nat → Option LObj} {a : Act} (h : RelC X C g l tr stop a w) (hg : ∀ t, g' t = g t ∨ g' t = .any) : RelC X C g' l tr stop a w :=
  { h with
    env := fun t => by rcases hg t with e | e <;> rw [e]; · exact h.env t
                       · exact .any _
    envs := fun t => by rcases hg t with e | e <;> rw [e]; · exact h.envs t
                        · exact .any }
theorem RelC.grow {g : Nat → LV} {l : Nat → Option LObj} {a : Act} (h : RelC X C g l tr stop a w) (hb : Below w.heap.size w w') (B' : Nat → Prop)
    (hB : ∀ b, C.B b → B' b) (hB2 : ∀ b, B' b → C.B b ∨ (w.heap.size ≤ b ∧ b < w'.heap.size)) : RelC X { C with B := B' } g l tr stop a w' := by
  have hsz := hb.size
  have hold : ∀ b, C.B b → w'.heap[b]? = w.heap[b]? := fun b hbb => hb.block b (h.blt b hbb)
  have hr : ∀ k e sz xs fz, l k = some (.row e sz xs fz) → ∃ xs' fz', l k = some (.row e sz xs' fz') ∧ (xs'.length = xs.length → C.cur k = C.cur k) ∧ xs.length ≤ xs'.length := fun k e sz xs fz hk => ⟨xs, fz, hk, fun _ => rfl, Nat.le_refl _⟩
  have hblk : ∀ k o, blk { C with B := B' } k o = blk C k o := fun k o => by cases o <;> rfl
  exact {
    kx := h.kx.trans (KeepX.of_below _ hb)
    yy := h.yy
    b0 := fun b hb0 => hB b (h.b0 b hb0)
    blt := fun b hbb => by rcases hB2 b hbb with e | e; · exact Nat.lt_of_lt_of_le (h.blt b e) hsz
                           · exact e.2
    bold := fun b hbb hlt => by rcases hB2 b hbb with e | e; · exact h.bold b e hlt
                                · have := h.kx.size; omega
    borg := fun b hbb => (hB2 b hbb).elim (h.borg b) fun e => .inr (by have := h.kx.size; have := h.no0; omega)
    no0 := h.no0
    tsz := h.tsz
    ngb := h.ngb
    env := fun t => (h.env t).same (C' := { C with B := B' }) hB rfl hold (fun _ _ _ => rfl) hr (h.envs t)
    envs := h.envs
    obj := fun k o hk => (h.obj k o hk).same (C' := { C with B := B' }) hB rfl hold (fun _ _ _ => rfl) hr hk (h.objs k o hk) rfl (fun b hbk => hb.block b (h.sep k o b hk hbk).2.1)
    objs := h.objs
    sep := fun k o b hk hbk => by
      rw [hblk] at hbk
      obtain ⟨h1, h2, h3, h4⟩ := h.sep k o b hk hbk
      refine ⟨h1, by omega, fun hf hbb => ?_, fun hf => hB b (h4 hf)⟩
      rcases hB2 b hbb with e | e
      · exact h3 hf e
      · omega
    dis := fun k k' o o' b hne hk hk' hb1 hb2 => h.dis k k' o o' b hne hk hk' (by rw [hblk] at hb1; exact hb1) (by rw [hblk] at hb2; exact hb2)
    marks := h.marks.same fun r hlt _ hnb hnd hno => ⟨hb.block r hlt, fun hbb => (hB2 r hbb).elim hnb (fun e => absurd hlt (by omega)), hnd, fun k o hk => by rw [hblk]; exact hno k o hk⟩
    nle := Nat.le_trans h.nle hsz
    dn := h.dn
    nn := fun k o b hk hbk hf => h.nn k o b hk (by rw [hblk] at hbk; exact hbk) hf
    ow := fun b hbo => ⟨fun hbb => (hB2 b hbb).elim (h.ow b hbo).1 fun e => by have := h.dn b (h.ow b hbo).2; have := h.nle; omega, (h.ow b hbo).2⟩
    oold := h.oold
    dold := fun b hd => (h.dold b hd).imp id (Or.imp id (hB b))
    jj := h.jj.imp id fun ⟨wy, h2, h3⟩ => ⟨wy, h2, h3.trans (Kept.of_below hb hsz fun k hk => Nat.lt_of_lt_of_le (h.dn k hk) h.nle)⟩ }
theorem RelC.lay {C C':Ctx} {a:Act} (h:RelC X C g l tr stop a w) {o:LObj} (hd:l d=none)
  (hB:C'.B=C.B) (hy:C'.y=C.y) (hn:C'.n=C.n) (hdp:C'.dep=C.dep) (how:C'.own=C.own) (hρ:∀ k,k≠d->C'.ρ k=C.ρ k) (hc:∀ k,k≠d->C'.cur k=C.cur k)
  (ho:ObjRel w C' (upd l d (some o)) d o) (hos:LObj.Sc (upd l d (some o)) o) (hof:o.frozen=false)
  (hbk:∀ b,blk C' d o=some b->X.w0.heap.size<=b/\b < w.heap.size/\¬C.B b/\(∀ k x,l k=some x->blk C k x≠some b)/\¬Mk X a.defers b/\C.n<=b) :
  RelC X C' g (upd l d (some o)) tr stop a w:=by
 have hne:∀ k x,l k=some x->k≠d:=λk x hk e=>by subst e;rw [hd] at hk;cases hk
 have hBe:∀ b,C.B b->C'.B b:=λb hb=>by rw [hB];exact hb
 have hr:∀ k e sz xs fz,l k=some (.row e sz xs fz)->∃ xs' fz',upd l d (some o) k=some (.row e sz xs' fz')/\(xs'.length=xs.length->C'.cur k=C.cur k)/\xs.length<=xs'.length:=
  λk e sz xs fz hk=>⟨xs,fz,by rw [zA _ _ (hne k _ hk)];exact hk,λ_=>hc k (hne k _ hk),xap _⟩
 have hρ':∀ k x,l k=some x->C'.ρ k=C.ρ k:=λk x hk=>hρ k (hne k x hk)
 have hblk:∀ k x,l k=some x->blk C' k x=blk C k x:=λk x hk=>by cases x<;>simp only [blk]<;>first|rw [hρ k (hne k _ hk)]|rw [hc k (hne k _ hk)]
 have hsc:∀ q,LV.Sc l q->LV.Sc (upd l d (some o)) q:=λq hq=>hq.follows (zdr hd)
 exact {
  kx:=h.kx
  yy:=hy.trans h.yy
  b0:=λb hb=>hBe b (h.b0 b hb)
  blt:=λb hb=>h.blt b (by rw [hB] at hb;exact hb)
  bold:=λb hb hlt=>h.bold b (by rw [hB] at hb;exact hb) hlt
  borg:=λb hb=>h.borg b (by rw [hB] at hb;exact hb)
  no0:=h.no0
  tsz:=h.tsz
  ngb:=h.ngb
  env:=λt=>(h.env t).same hBe hy (λ_ _=>rfl) hρ' hr (h.envs t)
  envs:=λt=>hsc _ (h.envs t)
  obj:=λk x hk=>by
   by_cases e:k=d
   ·subst e;rw [zk] at hk;injection hk with hk;subst hk;exact ho
   ·rw [zA _ _ e] at hk;exact (h.obj k x hk).same hBe hy (λ_ _=>rfl) hρ' hr hk (h.objs k x hk) (hc k e) (λ_ _=>rfl)
  objs:=λk x hk=>by
   by_cases e:k=d
   ·subst e;rw [zk] at hk;injection hk with hk;subst hk;exact hos
   ·rw [zA _ _ e] at hk;have:=h.objs k x hk;cases x<;>simp only [LObj.Sc] at this ⊢
    exact λj q hq=>hsc q (this j q hq)
  sep:=λk x b hk hb=>by
   by_cases e:k=d
   ·subst e;rw [zk] at hk;injection hk with hk;subst hk;obtain ⟨h1,h2,h3,_⟩:=hbk b hb;exact ⟨λ_=>.inl h1,h2,λ_=>by rw [hB];exact h3,λhf=>by rw [hof] at hf;cases hf⟩
   ·rw [zA _ _ e] at hk;rw [hblk k x hk] at hb;rw [hB];exact h.sep k x b hk hb
  dis:=λk k' x x' b hkk hk hk' hb hb'=>by
   by_cases e:k=d
   ·subst e;rw [zk] at hk;injection hk with hk;subst hk;rw [zA _ _ (Ne.symm hkk)] at hk';rw [hblk k' x' hk'] at hb';exact (hbk b hb).2.2.2.1 k' x' hk' hb'
   ·rw [zA _ _ e] at hk;rw [hblk k x hk] at hb
    by_cases e':k'=d
    ·subst e';rw [zk] at hk';injection hk' with hk';subst hk';exact (hbk b hb').2.2.2.1 k x hk hb
    ·rw [zA _ _ e'] at hk';rw [hblk k' x' hk'] at hb';exact h.dis k k' x x' b hkk hk hk' hb hb'
  marks:=by
   have hm:=h.marks;have hdef:∀ b,blk C' d o=some b->¬Mk X a.defers b:=λb hb=>(hbk b hb).2.2.2.2.1
   have ap:∀ r,(blk C' d o=some r->False)->zhd X C l r->zhd X C' (upd l d (some o)) r:=λr hno ⟨h3,h4,h5,h6⟩=>⟨h3,by rw [hB];exact h4,by rw [hdp];exact h5,λk y hk hb=>by
    by_cases e:k=d
    ·subst e;rw [zk] at hk;injection hk with hk;subst hk;exact hno hb
    ·rw [zA _ _ e] at hk;rw [hblk k y hk] at hb;exact h6 k y hk hb⟩
   revert hm hdef
   generalize a.defers=ds;intro hm hdef
   induction ds with
   | nil=>exact λp hp=>⟨(hm p hp).1,ap _ (λhb=>hdef _ hb (.inr ⟨p,hp,rfl⟩)) (hm p hp).2⟩
   | cons x ds ih=>
    obtain ⟨⟨r,h1,h2,h0,h3,h6⟩,hrest⟩:=hm;exact ⟨⟨r,h1,h2,h0,ap r (λhb=>hdef r hb (.inl ⟨x,xaA,h1⟩)) h3,h6⟩,ih hrest (λb hb hx=>hdef b hb (hx.imp (λ⟨y,hy,he⟩=>⟨y,xaH _ hy,he⟩) id))⟩
  nle:=by rw [hn];exact h.nle
  dn:=by rw [hn,hdp];exact h.dn
  nn:=λk x b hk hb hf=>by
   rw [hdp]
   by_cases e:k=d
   ·subst e;rw [zk] at hk;injection hk with hk;subst hk;have:=(hbk b hb).2.2.2.2.2;exact λhd=>by have:=h.dn b hd;omega
   ·rw [zA _ _ e] at hk;rw [hblk k x hk] at hb;exact h.nn k x b hk hb hf
  ow:=by rw [hdp,hB,how];exact h.ow
  oold:=by rw [how];exact h.oold
  dold:=by rw [hdp,hB];exact h.dold
  jj:=by rw [hdp,how];exact h.jj }
theorem RelC.modify {C C':Ctx} {a:Act} {w w':World} (h:RelC X C g l tr stop a w) {o o':LObj} (hd:l d=some o)
  (hf:o.Follows o') (hof:o.frozen=false) (hof':o'.frozen=false) (hB:C'.B=C.B) (hy:C'.y=C.y) (hn:C'.n=C.n) (hdp:C'.dep=C.dep) (how:C'.own=C.own) (hρ:C'.ρ=C.ρ) (hc:∀ k,k≠d->C'.cur k=C.cur k)
  (hcd:∀ e sz xs xs' f f',o=.row e sz xs f->o'=.row e sz xs' f'->xs'.length=xs.length->C'.cur d=C.cur d)
  (hw:w.grownBy w' (blk C d o)) (ho:ObjRel w' C' (upd l d (some o')) d o') (hos:LObj.Sc (upd l d (some o')) o')
  (hbk:∀ b,blk C' d o'=some b->blk C d o=some b\/(w.heap.size<=b/\b < w'.heap.size)) :
  RelC X C' g (upd l d (some o')) tr stop a w':=by
 have hsz:=hw.size;have hBe:∀ b,C.B b->C'.B b:=λb hb=>by rw [hB];exact hb
 have hblk:∀ k x,k≠d->blk C' k x=blk C k x:=λk x hk=>by cases x<;>simp only [blk]<;>first|rw [hρ]|rw [hc k hk]
 have hother:∀ b,b < w.heap.size->blk C d o≠some b->w'.heap[b]?=w.heap[b]?:=λb hb hne=>hw.block b hb (Ne.symm hne)
 have hrd:∀ b,C.B b->w'.heap[b]?=w.heap[b]?:=λb hb=>hother b (h.blt b hb) λe=>(h.sep d o b hd e).2.2.1 hof hb
 have hr:∀ k e sz xs fz,l k=some (.row e sz xs fz)->∃ xs' fz',upd l d (some o') k=some (.row e sz xs' fz')/\(xs'.length=xs.length->C'.cur k=C.cur k)/\xs.length<=xs'.length:=by
  intro k e sz xs fz hk
  by_cases ek:k=d
  ·subst ek;rw [hd] at hk;injection hk with hk;subst hk;cases o'<;>simp [LObj.Follows] at hf
   rename_i e' sz' xs' fz';obtain ⟨rfl,rfl,hlen⟩:=hf;exact ⟨xs',fz',zk _ _ _,λhl=>hcd _ _ _ _ _ _ rfl rfl hl,hlen⟩
  ·exact ⟨xs,fz,by rw [zA _ _ ek];exact hk,λ_=>hc k ek,xap _⟩
 have hρ':∀ k x,l k=some x->C'.ρ k=C.ρ k:=λk x _=>by rw [hρ]
 have hsc:∀ q,LV.Sc l q->LV.Sc (upd l d (some o')) q:=λq hq=>hq.follows (zd7 hd hf)
 exact {
  kx:=h.kx.grown hw λb hb=>((h.sep d o b hd hb).1 hof).imp id .inl
  yy:=hy.trans h.yy
  b0:=λb hb=>hBe b (h.b0 b hb)
  blt:=λb hb=>by rw [hB] at hb;exact xaJ (h.blt b hb) hsz
  bold:=λb hb hlt=>h.bold b (by rw [hB] at hb;exact hb) hlt
  borg:=λb hb=>h.borg b (by rw [hB] at hb;exact hb)
  no0:=h.no0
  tsz:=h.tsz
  ngb:=h.ngb
  env:=λt=>(h.env t).same hBe hy hrd hρ' hr (h.envs t)
  envs:=λt=>hsc _ (h.envs t)
  obj:=λk x hk=>by
   by_cases e:k=d
   ·subst e;rw [zk] at hk;injection hk with hk;subst hk;exact ho
   ·rw [zA _ _ e] at hk;exact (h.obj k x hk).same hBe hy hrd hρ' hr hk (h.objs k x hk) (hc k e) (λb hb=>hother b (h.sep k x b hk hb).2.1 (λe'=>h.dis k d x o b e hk hd hb e'))
  objs:=λk x hk=>by
   by_cases e:k=d
   ·subst e;rw [zk] at hk;injection hk with hk;subst hk;exact hos
   ·rw [zA _ _ e] at hk;have:=h.objs k x hk;cases x<;>simp only [LObj.Sc] at this ⊢
    exact λj q hq=>hsc q (this j q hq)
  sep:=λk x b hk hb=>by
   rw [hB]
   by_cases e:k=d
   ·subst e;rw [zk] at hk;injection hk with hk;subst hk
    rcases hbk b hb with e1|e1
    ·obtain ⟨h1,h2,h3,_⟩:=h.sep k o b hd e1;exact ⟨λ_=>h1 hof,by omega,λ_=>h3 hof,λhf=>by rw [hof'] at hf;cases hf⟩
    ·exact ⟨λ_=>.inl (by have:=h.kx.size;omega),e1.2,λ_ hbb=>by have:=h.blt b hbb;omega,λhf=>by rw [hof'] at hf;cases hf⟩
   ·rw [zA _ _ e] at hk;rw [hblk k x e] at hb;obtain ⟨h1,h2,h3,h4⟩:=h.sep k x b hk hb;exact ⟨h1,by omega,h3,h4⟩
  dis:=by
   have key:∀ k x b,k≠d->l k=some x->blk C k x=some b->blk C' d o'=some b->False:=λk x b hkd hk hb hb'=>by
    rcases hbk b hb' with e1|e1
    ·exact h.dis k d x o b hkd hk hd hb e1
    ·have:=(h.sep k x b hk hb).2.1;omega
   intro k k' x x' b hkk hk hk' hb hb'
   by_cases e:k=d
   ·subst e;rw [zk] at hk;injection hk with hk;subst hk;rw [zA _ _ (Ne.symm hkk)] at hk';rw [hblk k' x' (Ne.symm hkk)] at hb';exact key k' x' b (Ne.symm hkk) hk' hb' hb
   ·rw [zA _ _ e] at hk;rw [hblk k x e] at hb
    by_cases e':k'=d
    ·subst e';rw [zk] at hk';injection hk' with hk';subst hk';exact key k x b e hk hb hb'
    ·rw [zA _ _ e'] at hk';rw [hblk k' x' e'] at hb';exact h.dis k k' x x' b hkk hk hk' hb hb'
  marks:=h.marks.same λr hlt _ hnb hnd hno=>⟨hother r hlt (hno d o hd),by rw [hB];exact hnb,by rw [hdp];exact hnd,λk x hk hb=>by
   by_cases e:k=d
   ·subst e;rw [zk] at hk;injection hk with hk;subst hk
    rcases hbk r hb with e1|e1
    ·exact hno k o hd e1
    ·omega
   ·rw [zA _ _ e] at hk;rw [hblk k x e] at hb;exact hno k x hk hb⟩
  nle:=by rw [hn];exact xa0 h.nle hsz
  dn:=by rw [hn,hdp];exact h.dn
  nn:=λk x b hk hb hfz=>by
   rw [hdp]
   by_cases e:k=d
   ·subst e;rw [zk] at hk;injection hk with hk;subst hk
    rcases hbk b hb with e1|e1
    ·exact h.nn k o b hd e1 hof
    ·exact λhdd=>by have:=h.nle;have:=h.dn b hdd;omega
   ·rw [zA _ _ e] at hk;rw [hblk k x e] at hb;exact h.nn k x b hk hb hfz
  ow:=by rw [hdp,hB,how];exact h.ow
  oold:=by rw [how];exact h.oold
  dold:=by rw [hdp,hB];exact h.dold
  jj:=by
   rw [hdp,how];exact h.jj.imp id λ⟨wy,h2,h3⟩=>⟨wy,h2,h3.trans (Kept.of_grown hw (λk hk=>xaJ (h.dn k hk) h.nle) λb hb=>h.nn d o b hd hb hof)⟩ }
def LObj.freeze:LObj->LObj
 | .box cs _=>.box cs true
 | .row e sz xs _=>.row e sz xs true
 | .mp es _=>.mp es true
 | o=>o
theorem LObj.follows_freeze (o:LObj):o.Follows o.freeze:=by cases o<;>simp [LObj.Follows,LObj.freeze]
theorem zcO (C:Ctx) (k:Nat) (o:LObj):blk C k o.freeze=blk C k o:=by cases o<;>rfl
theorem RelC.freeze {a:Act} (h:RelC X C g l tr stop a w) (hd:l d=some o)
  (hff:o.freeze.frozen=true) (hM:X.MOk):RelC X { C with B:=λb=>C.B b\/blk C d o=some b } g (upd l d (some o.freeze)) tr stop a w:=by
 let C':Ctx:={ C with B:=λb=>C.B b\/blk C d o=some b }
 have hBe:∀ b,C.B b->C'.B b:=λb hb=>.inl hb
 have hblk:∀ k x,blk C' k x=blk C k x:=λk x=>by cases x<;>rfl
 have hr:∀ k e sz xs fz,l k=some (.row e sz xs fz)->∃ xs' fz',upd l d (some o.freeze) k=some (.row e sz xs' fz')/\(xs'.length=xs.length->C'.cur k=C.cur k)/\xs.length<=xs'.length:=by
  intro k e sz xs fz hk
  by_cases ek:k=d
  ·subst ek;rw [hd] at hk;injection hk with hk;subst hk;exact ⟨xs,true,zk _ _ _,λ_=>rfl,xap _⟩
  ·exact ⟨xs,fz,by rw [zA _ _ ek];exact hk,λ_=>rfl,xap _⟩
 have hsc:∀ q,LV.Sc l q->LV.Sc (upd l d (some o.freeze)) q:=λq hq=>hq.follows (zd7 hd o.follows_freeze)
 have hobj:∀ k x,l k=some x->ObjRel w C' (upd l d (some o.freeze)) k x:=λk x hk=>(h.obj k x hk).same hBe rfl (λ_ _=>rfl) (λ_ _ _=>rfl) hr hk (h.objs k x hk) rfl (λ_ _=>rfl)
 have hob:∀ x,LObj.Sc l x->LObj.Sc (upd l d (some o.freeze)) x:=λx hx=>by
  cases x<;>simp only [LObj.Sc] at hx ⊢
  exact λj q hq=>hsc q (hx j q hq)
 exact {
  kx:=h.kx
  yy:=h.yy
  b0:=λb hb=>hBe b (h.b0 b hb)
  blt:=λb hb=>hb.elim (h.blt b) (λe=>(h.sep d o b hd e).2.1)
  bold:=λb hb hlt=>hb.elim (λe=>h.bold b e hlt) λe=>by
   cases hf:o.frozen with
   | true=>exact h.bold b ((h.sep d o b hd e).2.2.2 hf) hlt
   | false=>exact ((h.sep d o b hd e).1 hf).elim (λh=>by omega) (hM.m1 b)
  borg:=λb hb=>hb.elim (h.borg b) λe=>by
   cases hf:o.frozen with
   | true=>exact h.borg b ((h.sep d o b hd e).2.2.2 hf)
   | false=>exact ((h.sep d o b hd e).1 hf).elim (λh2=>.inr (by have:=h.no0;omega)) (λh2=>hM.m2 b h2)
  no0:=h.no0
  tsz:=h.tsz
  ngb:=h.ngb
  env:=λt=>(h.env t).same hBe rfl (λ_ _=>rfl) (λ_ _ _=>rfl) hr (h.envs t)
  envs:=λt=>hsc _ (h.envs t)
  obj:=λk x hk=>by
   by_cases e:k=d
   ·subst e;rw [zk] at hk;injection hk with hk;subst hk;have:=hobj k o hd;cases o<;>first|exact this|(obtain ⟨e1,e2,e3,h1,h0,h2⟩:=this;exact ⟨e1,e2,e3,h1,h0.imp id λh=>⟨rfl,h.2⟩,h2⟩)
   ·rw [zA _ _ e] at hk;exact hobj k x hk
  objs:=λk x hk=>by
   by_cases e:k=d
   ·subst e;rw [zk] at hk;injection hk with hk;subst hk;have:=hob o (h.objs k o hd);cases o<;>exact this
   ·rw [zA _ _ e] at hk;exact hob x (h.objs k x hk)
  sep:=λk x b hk hb=>by
   rw [hblk] at hb
   by_cases e:k=d
   ·subst e;rw [zk] at hk;injection hk with hk;subst hk;rw [zcO] at hb;obtain ⟨h1,h2,h3,h4⟩:=h.sep k o b hd hb;exact ⟨λhf=>(by rw [hff] at hf;cases hf),h2,λhf=>(by rw [hff] at hf;cases hf),λ_=>.inr hb⟩
   ·rw [zA _ _ e] at hk;obtain ⟨h1,h2,h3,h4⟩:=h.sep k x b hk hb;exact ⟨h1,h2,λhf hbb=>hbb.elim (h3 hf) (λe'=>h.dis k d x o b e hk hd hb e'),λhf=>.inl (h4 hf)⟩
  dis:=λk k' x x' b hkk hk hk' hb hb'=>by
   rw [hblk] at hb hb';have un:∀ j y,upd l d (some o.freeze) j=some y->blk C j y=some b->∃ z,l j=some z/\blk C j z=some b:=λj y hj hjb=>by
    by_cases e:j=d
    ·subst e;rw [zk] at hj;injection hj with hj;subst hj;exact ⟨o,hd,by rw [zcO] at hjb;exact hjb⟩
    ·rw [zA _ _ e] at hj;exact ⟨y,hj,hjb⟩
   obtain ⟨z,hz,hzb⟩:=un k x hk hb;obtain ⟨z',hz',hzb'⟩:=un k' x' hk' hb';exact h.dis k k' z z' b hkk hz hz' hzb hzb'
  marks:=h.marks.same λr hlt _ hnb hnd hno=>⟨rfl,λhbb=>hbb.elim hnb (λe=>hno d o hd e),hnd,λk x hk hb=>by
   rw [hblk] at hb
   by_cases e:k=d
   ·subst e;rw [zk] at hk;injection hk with hk;subst hk;exact hno k o hd (by rw [zcO] at hb;exact hb)
   ·rw [zA _ _ e] at hk;exact hno k x hk hb⟩
  nle:=h.nle
  dn:=h.dn
  nn:=λk x b hk hb hf=>by
   rw [hblk] at hb
   by_cases e:k=d
   ·subst e;rw [zk] at hk;injection hk with hk;subst hk;rw [hff] at hf;cases hf
   ·rw [zA _ _ e] at hk;exact h.nn k x b hk hb hf
  ow:=λb hbo=>⟨λhbb=>hbb.elim (h.ow b hbo).1 λe=>by
   obtain ⟨g1,g2,g3,g4⟩:=h.sep d o b hd e;cases hf:o.frozen with
   | true=>exact (h.ow b hbo).1 (g4 hf)
   | false=>exact h.nn d o b hd e hf (h.ow b hbo).2,(h.ow b hbo).2⟩
  oold:=h.oold
  dold:=λb hd=>(h.dold b hd).imp id (Or.imp id .inl)
  jj:=h.jj }
theorem RelC.drop {l l':Nat->Option LObj} {a:Act} (h:RelC X C g l tr stop a w)
  (hl:∀ k o,l' k=some o->l k=some o) (hg:∀ t,LV.Sc l' (g t)) (ho:∀ k o,l' k=some o->LObj.Sc l' o):RelC X C g l' tr stop a w:=by
 have re:∀ v q,RepL w C l v q->RepL w C l' v q:=λv q hq=>by
  induction hq with
  | p h=>exact .p h
  | g h h2 ih=>exact .g ih h2
  | lp=>exact .lp
  | row h=>exact .row λe sz xs fz hk=>h e sz xs fz (hl _ _ hk)
  | ep h=>exact .ep λe sz xs fz hk=>h e sz xs fz (hl _ _ hk)
  | it=>exact .it
  | lm=>exact .lm
  | fn h1 h2 _ _ ih1 ih2=>exact .fn h1 h2 ih1 ih2
  | agg h1 _ ih=>exact .agg h1 ih
  | tup h1 _ ih=>exact .tup h1 ih
  | yield=>exact .yield
  | any v=>exact .any v
 exact { h with
  env:=λt=>re _ _ (h.env t)
  envs:=hg
  obj:=λk o hk=>by
   have:=h.obj k o (hl k o hk);cases o with
   | box cs fz=>obtain ⟨arr,ty,h1,h2,h3⟩:=this;exact ⟨arr,ty,h1,h2,λj v q hv hq=>re _ _ (h3 j v q hv hq)⟩
   | _=>exact this
  objs:=ho
  sep:=λk o b hk hb=>h.sep k o b (hl k o hk) hb
  dis:=λk k' o o' b hne hk hk' hb hb'=>h.dis k k' o o' b hne (hl k o hk) (hl k' o' hk') hb hb'
  marks:=h.marks.same λr _ _ hnb hnd hno=>⟨rfl,hnb,hnd,λk o hk hb=>hno k o (hl k o hk) hb⟩
  nn:=λk o b hk hb hf=>h.nn k o b (hl k o hk) hb hf }
def zb3 (P : Program) (f : FuncId) : Prop := ∃ fn c, P.funcs[f]? = some fn ∧ (fn.name == "runtime.NumGoroutine") = false ∧ fn.body = some c
def Pure (P:Program) (f:FuncId) (args:List PV) (r:PV):Prop:=
 zb3 P f/\∀ (w:World) (B:Nat->Prop) (vs:List Value),(∀ b,B b->b < w.heap.size)->Reps w B vs args ->
  Calls P f vs.toArray w λe w'=>∃ u,e=.returned u/\Below w.heap.size w w'/\Rep w' (λb=>B b\/(w.heap.size<=b/\b < w'.heap.size)) u r
inductive AOpd where
 | t (n:Nat)
 | c (v:PV)
variable {x' y':AOpd}
inductive AOp where
 | mv
 | pick
 | alloc (z:List PV)
 | box
 | build (z:List PV) (places:List (Nat × Nat))
 | bslice (e sz:Nat) (z:PV) (len:Nat) (idx:List Nat)
 | load (sz:Nat) (ag:Bool)
 | store (sz:Nat)
 | nilchk
 | bin (o:BinOp)
 | eq (neg:Bool) (ks:List Nat) (ag:Bool)
 | isnil (neg:Bool)
 | not
 | neg
 | cvt (k:IntKind)
 | cvs
 | mkfn (f:Fn) (n:Nat)
 | sliceS (lo hi:Bool)
 | sliceL (sz:Nat) (lo hi:Bool)
 | fadr (off:Nat)
 | fld (off sz:Nat) (ag:Bool)
 | idxA (n sz:Nat) (ag:Bool)
 | idxS
 | iadrS (sz:Nat)
 | iadrA (n sz:Nat)
 | len (str:Bool)
 | app (e sz bytes:Nat)
 | mx
 | mn
 | ext (j:Nat)
 | range
 | next
 | mit (k:Nat)
 | mkslice (e sz bytes:Nat) (z:PV)
 | copy (sz:Nat)
 | mkmap
 | bad
 | lkup (ks:List Nat) (ag:Bool) (z:PV) (ok:Bool)
 | mset (ks:List Nat) (ag:Bool)
 | ment (ks:List Nat) (ag:Bool) (z:PV)
 | mest
 | slA (n:Nat)
 | call (f:Nat)
 | callv
structure RO where
 dst:Option Nat
 op:AOp
 args:List AOpd
 guard:Option (Nat × Bool)
 after:List Nat
abbrev xo (d:Nat) (op:AOp) (args:List AOpd) (af:List Nat):RO:=⟨some d,op,args,none,af⟩
inductive AC where
 | skip
 | ops (draw:Bool) (l:List RO)
 | seq (a b:AC)
 | cond (c:AOpd) (a b:AC)
 | block (id:Nat) (a:AC)
 | loop (a:AC)
 | rfunc (f:AOpd) (params:List Nat) (assign body:AC)
 | exit (id:Nat)
 | ret
 | scope (a:AC)
 | label
def eqPV:PV->PV->Bool
 | .i _ a,.i _ b=>decide (a=b)
 | .s a,.s b=>decide (a=b)
 | .b a,.b b=>decide (a=b)
 | _,_=>false
def eqOk:Nat->PV->PV->Prop
 | 1,.i k _,.i k' _=>k=k'
 | 2,.s _,.s _=>True
 | 0,.b _,.b _=>True
 | _,_,_=>False
def eqCells:List PV->List PV->Bool
 | x::xs,y::ys=>eqPV x y && eqCells xs ys
 | _,_=>true
def eqCellsOk:List Nat->List PV->List PV->Prop
 | [],[],[]=>True
 | n::ns,x::xs,y::ys=>eqOk n x y/\eqCellsOk ns xs ys
 | _,_,_=>False
def PV.isAgg:PV->Bool
 | .agg _=>true
 | _=>false
def PV.isAny:PV->Bool
 | .any=>true
 | _=>false
def PV.one:PV->Bool
 | .agg _|.tup _|.any=>false
 | _=>true
def loadV (v:PV) (off sz:Nat) (ag:Bool):PV:=
 if off=0/\v.cells.length=sz then v else if ag then .agg ((v.cells.drop off).take sz) else (v.cells[off]?).getD .any
def loadOk (v:PV) (off sz:Nat) (ag:Bool):Prop:=
 if off=0/\v.cells.length=sz then v.isAgg=ag else off+sz<=v.cells.length/\(ag=false->sz=1)
def updL {α:Type} (cs:List α) (off:Nat):List α->List α
 | [v]=>cs.set off v
 | vs=>cs.take off++vs++cs.drop (off+vs.length)
def fillP (cs:List PV):List (Nat × Nat)->List PV->List PV
 | (off,_)::pl,v::vs=>fillP (updL cs off v.cells) pl vs
 | _,_=>cs
def fillOk (n:Nat):List (Nat × Nat)->List PV->Prop
 | [],[]=>True
 | (off,sz)::pl,v::vs=>v.cells.length=sz/\off+sz<=n/\v.isAny=false/\fillOk n pl vs
 | _,_=>False
def fillE (xs:List PV):List Nat->List PV->List PV
 | i::is,v::vs=>fillE (xs.set i v) is vs
 | _,_=>xs
def fillEOk (len sz:Nat):List Nat->List PV->Prop
 | [],[]=>True
 | i::is,v::vs=>v.cells.length=sz/\i < len/\v.isAny=false/\fillEOk len sz is vs
 | _,_=>False
def zCq (o:BinOp):PV->PV->Option (Prop × PV)
 | .i k x,.i k' y=>
  match o with
  | .shr=>some (0<=y,.i k (x.fdiv (2 ^ (min y.toNat k.bits))))
  | .shl=>some (0<=y,.i k (k.wrap (x*2 ^ (min y.toNat k.bits))))
  | .add=>some (k=k',.i k (k.wrap (x+y)))
  | .sub=>some (k=k',.i k (k.wrap (x - y)))
  | .mul=>some (k=k',.i k (k.wrap (x*y)))
  | .quo=>some (k=k'/\y≠0,.i k (k.wrap (x.tdiv y)))
  | .rem=>some (k=k'/\y≠0,.i k (x.tmod y))
  | .and=>some (k=k',.i k (bits .and k x y))
  | .or=>some (k=k',.i k (bits .or k x y))
  | .xor=>some (k=k',.i k (bits .xor k x y))
  | .andNot=>some (k=k',.i k (bits .andNot k x y))
  | .eql=>some (k=k',.b (decide (x=y)))
  | .neq=>some (k=k',.b (!decide (x=y)))
  | .lss=>some (k=k',.b (decide (x < y)))
  | .leq=>some (k=k',.b (decide (x<=y)))
  | .gtr=>some (k=k',.b (decide (y < x)))
  | .geq=>some (k=k',.b (decide (y<=x)))
 | .s x,.s y=>
  match o with
  | .add=>some (x.size+y.size<=maxLen,.s (x++y))
  | .eql=>some (True,.b (decide (x=y)))
  | .neq=>some (True,.b (!decide (x=y)))
  | .lss=>some (True,.b (Op.bytesLess x.toList y.toList))
  | .gtr=>some (True,.b (!(Op.bytesLess x.toList y.toList || decide (x=y))))
  | .leq=>some (True,.b (Op.bytesLess x.toList y.toList || decide (x=y)))
  | .geq=>some (True,.b (!Op.bytesLess x.toList y.toList))
  | _=>none
 | _,_=>none
def zfF:List LV->Option (List PV)
 | []=>some []
 | .p v::r=>(zfF r).map (v::·)
 | _::_=>none
def LV.cells:LV->List LV
 | .p v=>v.cells.map .p
 | .agg cs=>cs
 | x=>[x]
def packL (cs:List LV):LV:=
 match zfF cs with
 | some vs=>.p (.agg vs)
 | none=>.agg cs
def oneL (look:Nat->Option LObj):List LV->Prop
 | []=>True
 | .p v::r=>v.one=true/\oneL look r
 | .row k n::r=>(match look k with|some (.row _ _ xs _)=>n=xs.length|_=>False)/\oneL look r
 | .lp _ _::r|.it _::r|.lm _::r|.fn _ _ _::r|.yield::r=>oneL look r
 | _::_=>False
def LV.known (look:Nat->Option LObj):LV->Prop
 | .p v=>v.isAny=false
 | .row k n=>match look k with|some (.row _ _ xs _)=>n=xs.length|_=>False
 | .g _ _|.any|.ep _ _ _ _|.tup _=>False
 | _=>True
structure Eff where
 val:LV
 wr:Option (Nat × LObj)
 nw:Bool
 rd:List Nat
def Eff.ofV (v:LV):Eff:=⟨v,none,false,[]⟩
def Eff.ofP (v:PV):Eff:=⟨.p v,none,false,[]⟩
def oneAll (xs:List PV):Bool:=xs.all λx=>x.cells.all PV.one
def zba (look:Nat->Option LObj):LV->Option (Prop × List PV × Nat × List Nat)
 | .p .nilsl=>some (True,[],0,[])
 | .p (.sl sz xs)=>some (True,xs,sz,[])
 | .row k n=>match look k with
  | some (.row _ sz xs _)=>some (n=xs.length,xs,sz,[k])
  | _=>none
 | _=>none
def zgC (look:Nat->Option LObj):LV->Option (List (PV × PV) × List Nat)
 | .p (.mp es)=>some (es,[])
 | .lm k=>match look k with
  | some (.mp es _)=>some (es,[k])
  | _=>none
 | _=>none
def mget (key:PV):List (PV × PV)->Option PV
 | []=>none
 | (k,v)::r=>if eqCells key.cells k.cells then some v else mget key r
def mput (key v:PV):List (PV × PV)->List (PV × PV)
 | []=>[(key,v)]
 | (k,u)::r=>if eqCells key.cells k.cells then (key,v)::r else (k,u)::mput key v r
def zfa (key:PV):List (PV × PV)->Nat
 | []=>0
 | (k,_)::r=>if eqCells key.cells k.cells then 0 else zfa key r+1
def mat (i:Nat) (v:PV) (es:List (PV × PV)):List (PV × PV):=match es[i]? with
 | some e=>es.set i (e.1,v)
 | none=>es
def keyOk (ks:List Nat) (ag:Bool) (key k:PV):Prop:=k.isAgg=ag/\eqCellsOk ks key.cells k.cells
def keysOk (ks:List Nat) (ag:Bool) (key:PV):List (PV × PV)->Prop
 | []=>True
 | (k,_)::r=>keyOk ks ag key k/\keysOk ks ag key r
def nextV (s:ByteArray) (pos:Nat):PV:=if pos < s.size then .tup [.b true,.i .i64 pos,.i .i32 (Utf8.decode s pos).1] else .tup [.b false]
def nextP (s:ByteArray) (pos:Nat):Nat:=if pos < s.size then pos+(Utf8.decode s pos).2 else pos
def zff (cs:List LV):List (Nat × Nat)->List LV->List LV
 | (off,_)::pl,v::vs=>zff (cs.take off++v.cells++cs.drop (off+v.cells.length)) pl vs
 | _,_=>cs
def fillLOk (look:Nat->Option LObj) (n:Nat):List (Nat × Nat)->List LV->Prop
 | [],[]=>True
 | (off,sz)::pl,v::vs=>v.cells.length=sz/\off+sz<=n/\v.known look/\fillLOk look n pl vs
 | _,_=>False
def zb (d:Nat) (look:Nat->Option LObj):AOp->List LV->Option (Prop × Eff)
 | .alloc z,[]=>some (True,⟨.lp d 0,some (d,.box (z.map .p) false),true,[]⟩)
 | .box,[x]=>some (x.known look,⟨.lp d 0,some (d,.box x.cells false),true,[]⟩)
 | .build z pl,ins=>some (match zfF ins with
  | some vs=>(fillOk z.length pl vs,.ofP (.agg (fillP z pl vs)))
  | none=>(fillLOk look z.length pl ins,.ofV (.agg (zff (z.map .p) pl ins))))
 | .bslice e sz z len idx,ins=>(zfF ins).map λvs=>
   (fillEOk len sz idx vs,⟨.row d len,some (d,.row e sz (fillE (List.replicate len z) idx vs) false),true,[]⟩)
 | .load sz ag,[.p (.ip v off)]=>some (loadOk v off sz ag,.ofP (loadV v off sz ag))
 | .load sz ag,[.lp k off]=>match look k with
  | some (.box cs _)=>some (off+sz<=cs.length/\(ag=false->sz=1),⟨if ag then packL ((cs.drop off).take sz) else (cs[off]?).getD .any,none,false,[k]⟩)
  | _=>none
 | .load sz ag,[.ep k n i off]=>match look k with
  | some (.row _ _ xs _)=>some (n=xs.length/\i < xs.length/\loadOk ((xs[i]?).getD .any) off sz ag,⟨.p (loadV ((xs[i]?).getD .any) off sz ag),none,false,[k]⟩)
  | _=>none
 | .store sz,[.lp k off,x]=>match look k with
  | some (.box cs false)=>some (off+sz<=cs.length/\x.cells.length=sz/\oneL look x.cells,⟨.any,some (k,.box (updL cs off x.cells) false),false,[k]⟩)
  | _=>none
 | .store sz,[.ep k n i off,.p v]=>match look k with
  | some (.row e esz xs false)=>some (n=xs.length/\i < xs.length/\v.cells.length=sz/\off+sz<=esz/\oneL look (v.cells.map .p),
    ⟨.any,some (k,.row e esz (xs.set i (if off=0/\sz=esz then v else .agg (updL ((xs[i]?).getD .any).cells off v.cells))) false),false,[k]⟩)
  | _=>none
 | .nilchk,[.p (.ip v off)]=>some (True,.ofP (.ip v off))
 | .nilchk,[.p (.fn f a b)]=>some ((match f with|.method _=>False|_=>True),.ofP (.fn f a b))
 | .nilchk,[.lp k off]=>some (True,.ofV (.lp k off))
 | .nilchk,[.ep k n i off]=>match look k with
  | some (.row _ _ xs _)=>some (n=xs.length,.ofV (.ep k n i off))
  | _=>none
 | .nilchk,[.fn f a b]=>some ((match f with|.method _=>False|_=>True),.ofV (.fn f a b))
 | .bin o,[.p x,.p y]=>(zCq o x y).map λr=>(r.1,.ofP r.2)
 | .eq ng ks ag,[.p x,.p y]=>some (eqCellsOk ks x.cells y.cells/\x.isAgg=ag/\y.isAgg=ag,.ofP (.b (if ng then !eqCells x.cells y.cells else eqCells x.cells y.cells)))
 | .not,[.p (.b x)]=>some (True,.ofP (.b (!x)))
 | .neg,[.p (.i k x)]=>some (True,.ofP (.i k (k.wrap (0 - x))))
 | .cvt k,[.p (.i _ x)]=>some (True,.ofP (.i k (k.wrap x)))
 | .cvs,[.p (.s x)]=>some (True,.ofP (.s x))
 | .mkfn f n,ins=>match zfF (ins.take n),zfF (ins.drop n) with
  | some a,some b=>some (True,.ofP (.fn f a b))
  | _,_=>some (True,.ofV (.fn f (ins.take n) (ins.drop n)))
 | .sliceS false true,[.p (.s x),.p (.i _ h)]=>some (0<=h/\h<=x.size,.ofP (.s (x.extract 0 h.toNat)))
 | .sliceS true false,[.p (.s x),.p (.i _ l)]=>some (0<=l/\l<=x.size,.ofP (.s (x.extract l.toNat x.size)))
 | .sliceS true true,[.p (.s x),.p (.i _ l),.p (.i _ h)]=>some (0<=l/\l<=h/\h<=x.size,.ofP (.s (x.extract l.toNat h.toNat)))
 | .sliceL sz false true,[.p (.sl sz' xs),.p (.i _ h)]=>some (sz=sz'/\0<=h/\h<=xs.length,.ofP (.sl sz (xs.take h.toNat)))
 | .sliceL sz true false,[.p (.sl sz' xs),.p (.i _ l)]=>some (sz=sz'/\0<=l/\l<=xs.length,.ofP (.sl sz (xs.drop l.toNat)))
 | .sliceL sz true true,[.p (.sl sz' xs),.p (.i _ l),.p (.i _ h)]=>some (sz=sz'/\0<=l/\l<=h/\h<=xs.length,.ofP (.sl sz ((xs.take h.toNat).drop l.toNat)))
 | .fadr off,[.p (.ip v o)]=>some (True,.ofP (.ip v (o+off)))
 | .fadr off,[.lp k o]=>some (True,.ofV (.lp k (o+off)))
 | .fadr off,[.ep k n i o]=>match look k with
  | some (.row _ _ xs _)=>some (n=xs.length,.ofV (.ep k n i (o+off)))
  | _=>none
 | .fld off sz ag,[.p v]=>some (off+sz<=v.cells.length/\(ag=false->sz=1)/\v.isAgg=true,.ofP (if ag then .agg ((v.cells.drop off).take sz) else (v.cells[off]?).getD .any))
 | .idxA n sz ag,[.p v,.p (.i _ j)]=>some (0<=j/\j < n/\v.cells.length=n*sz/\(ag=false->sz=1)/\v.isAgg=true,.ofP (if ag then .agg ((v.cells.drop (j.toNat*sz)).take sz) else (v.cells[j.toNat*sz]?).getD .any))
 | .idxS,[.p (.s x),.p (.i _ j)]=>some (0<=j/\j < x.size,.ofP (.i .u8 ((x[j.toNat]?).getD 0).toNat))
 | .iadrS sz,[.p (.sl sz' xs),.p (.i _ j)]=>some (sz=sz'/\0<=j/\j < xs.length,.ofP (.ip ((xs[j.toNat]?).getD .any) 0))
 | .iadrS sz,[.row k n,.p (.i _ j)]=>match look k with
  | some (.row _ sz' xs _)=>some (sz=sz'/\n=xs.length/\0<=j/\j < xs.length,⟨.ep k n j.toNat 0,none,false,[k]⟩)
  | _=>none
 | .iadrA n sz,[.p (.ip v o),.p (.i _ j)]=>some (0<=j/\j < n,.ofP (.ip v (o+j.toNat*sz)))
 | .iadrA n sz,[.lp k o,.p (.i _ j)]=>some (0<=j/\j < n,.ofV (.lp k (o+j.toNat*sz)))
 | .len true,[.p (.s x)]=>some (True,.ofP (.i .i64 x.size))
 | .len false,[.p (.rs _ n _)]=>some ((n:Int)<=9223372036854775807,.ofP (.i .i64 n))
 | .len false,[x]=>(zba look x).map λr=>(r.1,⟨.p (.i .i64 r.2.1.length),none,false,r.2.2.2⟩)
 | .app e sz bytes,[.p .nilsl,y]=>(zba look y).map λr=>
   (r.1/\(r.2.1=[]\/r.2.2.1=sz)/\oneAll r.2.1=true/\r.2.1.length*bytes<=140737488355328,⟨.row d r.2.1.length,some (d,.row e sz r.2.1 false),true,r.2.2.2⟩)
 | .app e sz bytes,[.row k n,y]=>match look k with
  | some (.row e' sz' xs false)=>(zba look y).map λr=>
   (e=e'/\sz=sz'/\n=xs.length/\r.1/\(r.2.1=[]\/r.2.2.1=sz)/\oneAll r.2.1=true/\(xs.length+r.2.1.length)*bytes<=140737488355328,
    ⟨.row k (xs++r.2.1).length,some (k,.row e sz (xs++r.2.1) false),false,k::r.2.2.2⟩)
  | _=>none
 | .mx,[.p (.i k x),.p (.i k' y)]=>some (k=k',.ofP (.i k (max x y)))
 | .mn,[.p (.i k x),.p (.i k' y)]=>some (k=k',.ofP (.i k (min x y)))
 | .ext j,[.p (.tup vs)]=>some (j < vs.length,.ofP ((vs[j]?).getD .any))
 | .ext j,[.tup vs]=>some (j < vs.length,.ofV ((vs[j]?).getD .any))
 | .range,[.p (.s x)]=>some (True,⟨.it d,some (d,.sit x 0),true,[]⟩)
 | .next,[.it k]=>match look k with
  | some (.sit s pos)=>some (s.size<=maxLen,⟨.p (nextV s pos),some (k,.sit s (nextP s pos)),false,[k]⟩)
  | _=>none
 | .mkslice e sz bytes z,[.p (.i _ n),.p (.i _ c)]=>some (0<=n/\(n=c\/(n=0/\0<=c))/\c.toNat*bytes<=140737488355328,⟨.row d n.toNat,some (d,.row e sz (List.replicate n.toNat z) false),true,[]⟩)
 | .copy sz,[.row k n,y]=>match look k with
  | some (.row e sz' xs false)=>(zba look y).map λr=>
   (sz=sz'/\n=xs.length/\r.1/\(r.2.1=[]\/r.2.2.1=sz)/\oneAll r.2.1=true,
    ⟨.p (.i .i64 (min r.2.1.length xs.length:Nat)),some (k,.row e sz (r.2.1.take xs.length++xs.drop r.2.1.length) false),false,k::r.2.2.2⟩)
  | _=>none
 | .mkmap,[]=>some (True,⟨.lm d,some (d,.mp [] false),true,[]⟩)
 | .lkup ks ag z ok,[m,.p key]=>(zgC look m).map λr=>(keyOk ks ag key key/\keysOk ks ag key r.1,⟨.p (if ok then .tup [(mget key r.1).getD z,.b (mget key r.1).isSome] else (mget key r.1).getD z),none,false,r.2⟩)
 | .mset ks ag,[.lm k,.p key,.p v]=>match look k with
  | some (.mp es false)=>some (keyOk ks ag key key/\keysOk ks ag key es,⟨.any,some (k,.mp (mput key v es) false),false,[k]⟩)
  | _=>none
 | .ment ks ag z,[.lm k,.p key]=>match look k with
  | some (.mp es false)=>some (keyOk ks ag key key/\keysOk ks ag key es/\es.length<=1000000,⟨.p (.tup [(mget key es).getD z,.i .i64 (zfa key es)]),some (k,.mp (mput key ((mget key es).getD z) es) false),false,[k]⟩)
  | _=>none
 | .mest,[.lm k,.p (.i .i64 n),.p v]=>match look k with
  | some (.mp es false)=>some (0<=n/\n.toNat < es.length,⟨.any,some (k,.mp (mat n.toNat v es) false),false,[k]⟩)
  | _=>none
 | .slA n,[.p (.ip v off)]=>some (off=0/\v.cells.length=n/\v.cells.all PV.one=true,.ofP (.sl 1 v.cells))
 | _,_=>none
structure St where
 env:List (Nat × LV)
 obj:List (Nat × LObj)
 tr:List (List PV)
 stop:Bool
def zS (l:List (Nat × LV)) (t:Nat):LV:=
 match l with
 | []=>.any
 | (k,v)::r=>if t=k then v else zS r t
def zm (l:List (Nat × LObj)) (t:Nat):Option LObj:=
 match l with
 | []=>none
 | (k,v)::r=>if t=k then some v else zm r t
def zjU (l:List (Nat × LObj)) (t:Nat) (v:LObj):List (Nat × LObj):=
 match l with
 | []=>[(t,v)]
 | (k,u)::r=>if t=k then (k,v)::r else (k,u)::zjU r t v
def St.get (s:St) (t:Nat):LV:=zS s.env t
def St.look (s:St) (k:Nat):Option LObj:=zm s.obj k
def St.set (s:St) (d:Option Nat) (v:LV):St:=
 match d with
 | some d=>{ s with env:=(d,v)::s.env }
 | none=>s
def St.wr (s:St) (k:Nat) (o:LObj):St:={ s with obj:=zjU s.obj k o }
theorem zg9 (k:Nat) (v:LV) (r:List (Nat × LV)):zS ((k,v)::r)=upd (zS r) k v:=by
 funext t;simp only [zS,upd]
theorem zcF (l:List (Nat × LObj)) (k:Nat) (o:LObj):zm (zjU l k o)=upd (zm l) k (some o):=by
 funext t
 induction l with
 | nil=>simp [zm,zjU,upd]
 | cons x r ih=>
  obtain ⟨j,u⟩:=x
  by_cases h:k=j
  ·subst h;simp only [zjU,if_true,zm,upd];split<;>rfl
  ·simp only [zjU,if_neg h,zm,upd]
   by_cases ht:t=j
   ·subst ht;simp [Ne.symm h]
   ·simp only [if_neg ht];rw [ih];simp [upd]
def AOpd.ev (s:St):AOpd->LV
 | .t n=>s.get n
 | .c v=>.p v
def LV.un:LV->LV
 | .g _ q=>q.un
 | x=>x
def LV.cnd:LV->Bool
 | .g c q=>c && q.cnd
 | _=>true
def zL:List LV->Bool
 | []=>true
 | x::r=>x.cnd && zL r
def LV.under (c:Bool):LV->LV
 | .g c' q=>.g (c && c') q
 | q=>.g c q
def gOf (s:St):Option (Nat × Bool)->Option Bool
 | none=>some true
 | some (t,want)=>match s.get t with
  | .p (.b x)=>some (if want then x else !x)
  | .g c (.p (.b x))=>some (c && (if want then x else !x))
  | _=>none
def zlm (t x y:LV):Option (Prop × PV):=
 match t.un,x.un,y.un with
 | .p (.b t'),.p (.b x'),.p (.b y')=>some ((t'=true->x.cnd=true)/\(t'=false->y.cnd=true),.b (if t' then x' else y'))
 | _,_,_=>none
def zfh:Value->Option PV
 | .bool x=>some (.b x)
 | .int k n=>if k.wrap n=n then some (.i k n) else none
 | .string s=>if s.size<=maxLen then some (.s s) else none
 | .pointer none=>some .nilp
 | .slice none 0 0=>some .nilsl
 | .nilFunc=>some .nilf
 | .map none=>some (.mp [])
 | _=>none
def zkl:List Value->Option (List PV)
 | []=>some []
 | v::r=>match zfh v,zkl r with
  | some p,some ps=>some (p::ps)
  | _,_=>none
def zsv:Value->Option PV
 | .agg cs=>(zkl cs.toList).map .agg
 | v=>zfh v
theorem zkm (h:zfh v=some p) (w:World) (B:Nat->Prop):Rep w B v p:=by
 unfold zfh at h
 split at h<;>first|(injection h with h;subst h;constructor;done)|skip
 ·split at h
  ·injection h with h;subst h;exact .i ‹_›
  ·cases h
 ·split at h
  ·injection h with h;subst h;exact .s ‹_›
  ·cases h
 ·cases h
theorem zkk:∀ {vs:List Value} {ps:List PV} (_:zkl vs=some ps) (w:World) (B:Nat->Prop),Reps w B vs ps
 | [],ps,h,w,B=>by simp [zkl] at h;subst h;exact .nil
 | v::r,ps,h,w,B=>by
  simp only [zkl] at h
  split at h
  ·rename_i p qs h1 h2;injection h with h;subst h;exact .cons (zkm h1 w B) (zkk h2 w B)
  ·cases h
theorem zbf (h:zsv v=some p) (w:World) (B:Nat->Prop):Rep w B v p:=by
 unfold zsv at h
 split at h
 ·rename_i cs;obtain ⟨ps,h1,rfl⟩:=xab.1 h;have hr:=zkk h1 w B;exact .agg (by simpa using hr.1) λj v p hv hp=>hr.2 j v p (by simpa using hv) hp
 ·exact zkm h w B
def zcw:Operand->Option AOpd
 | .tmp t=>if t < GB then some (.t t) else none
 | .const v=>(zsv v).map .c
 | .func f=>some (.c (.fn (.func f) [] []))
 | .global _=>none
def zap:List Operand->Option (List AOpd)
 | []=>some []
 | x::r=>match zcw x,zap r with
  | some y,some ys=>some (y::ys)
  | _,_=>none
def zX (P:Program) (t:TypeId):Option Nat:=(P.info? t).map (·.size)
def bytesOf (P:Program) (t:TypeId):Option Nat:=(P.info? t).map (·.bytes)
def zC (P:Program) (t:TypeId):Option Bool:=(P.underlying t).map λd=>match d with|.struct _|.array _ _=>true|_=>false
def zB (P:Program) (t:TypeId):Option PV:=(P.info? t).bind λi=>i.zero.bind zsv
def zca (P:Program) (F:TypeId→Option (List Nat)):List Field→Nat→Option (List Nat)
 | [],_=>some []
 | f :: fs, k => if f.name ≠ "_" ∧ f.offset = k then match F f.type with
   | some ks=>(zca P F fs (k+ks.length)).map (ks++·)
   | none=>none
  else none
def flatK (P:Program):Nat->TypeId->Option (List Nat)
 | 0,_=>none
 | n+1,t=>(match P.underlying t with
  | some .bool=>some [0]
  | some (.int _)=>some [1]
  | some .string=>some [2]
  | some (.struct fs)=>if P.stoodInHeld t=false then zca P (flatK P n) fs.toList 0 else none
  | some (.array k e)=>(flatK P n e).map λks=>(List.replicate k ks).flatten
  | _=>none).bind λks=>if zX P t=some ks.length/\0 < ks.length then some ks else none
def zdg (P:Program) (t:TypeId):Bool:=match P.underlying t with|some .bool|some (.int _)|some .string=>true|_=>false
def zjl (P:Program) (t:TypeId):Option (List Nat × Bool):=
 match P.underlying t with
 | some (.array _ e)=>if zdg P e then (flatK P 2 t).map λks=>(ks,true) else none
 | some (.struct fs)=>if fs.toList.all (λf=>zdg P f.type) then (flatK P 2 t).map λks=>(ks,true) else none
 | _=>if zdg P t then (flatK P 1 t).map λks=>(ks,false) else none
def zH (P:Program) (t:TypeId) (idx:List Nat):Option (List (Nat × Nat)):=
 match P.underlying t with
 | some (.struct fs)=>(fs.toList.mapM λf=>(P.info? f.type).map λi=>(f.offset,i.size)).bind λplaces=>idx.mapM λi=>places.toArray[i]?
 | some (.array _ e)=>(P.info? e).bind λie=>idx.mapM λi=>some (i*ie.size,ie.size)
 | _=>none
def zao (P:Program) (o:Oper):Option (AOp × List AOpd):=
 match o.op with
 | .move x|.assign x=>(zcw x).map λx=>(.mv,[x])
 | .pick c a b=>(zap [c,a,b]).map λl=>(.pick,l)
 | .alloc t=>(zB P t).map λz=>(.alloc z.cells,[])
 | .box _ x=>(zcw x).map λx=>(.box,[x])
 | .build t parts=>match zB P t,zH P t (parts.toList.map (·.1)),zap (parts.toList.map (·.2)) with
  | some (.agg z),some pl,some l=>some (.build z pl,l)
  | _,_,_=>none
 | .buildSlice t len parts=>match P.underlying t with
  | some (.slice e)=>match zX P e,zB P e,zC P e,zap (parts.toList.map (·.2)) with
   | some sz,some z,some ag,some l=>if 0 < sz/\len*sz<=2 ^ 24/\z.cells.length=sz/\z.isAgg=ag then some (.bslice e sz z len (parts.toList.map (·.1)),l) else none
   | _,_,_,_=>none
  | _=>none
 | .load t x=>match zX P t,zC P t,zcw x with
  | some sz,some ag,some x=>some (.load sz ag,[x])
  | _,_,_=>none
 | .store t x y=>match zX P t,zap [x,y] with
  | some sz,some l=>some (.store sz,l)
  | _,_=>none
 | .nilCheck x=>(zcw x).map λx=>(.nilchk,[x])
 | .binOp op t x y _=>match zap [x,y] with
  | some l=>match P.underlying t with
   | some (.int _)|some .string=>some (.bin op,l)
   | some .bool=>if op=.eql then some (.eq false [0] false,l) else if op=.neq then some (.eq true [0] false,l) else none
   | some (.slice _)=>match zcw x,zcw y with
    | some x',some (.c .nilsl)=>if op=.eql then some (.isnil false,[x']) else if op=.neq then some (.isnil true,[x']) else none
    | _,_=>none
   | some (.struct _)|some (.array _ _)=>match flatK P 10 t with
    | some ks=>if P.eqGuardType P.depth t=false then (if op=.eql then some (.eq false ks true,l) else if op=.neq then some (.eq true ks true,l) else none) else none
    | none=>none
   | _=>none
  | none=>none
 | .unOp .not _ x=>(zcw x).map λx=>(.not,[x])
 | .unOp .neg _ x=>(zcw x).map λx=>(.neg,[x])
 | .convert s d x=>match P.underlying s,P.underlying d,zcw x with
  | some _,some (.int k),some x=>some (.cvt k,[x])
  | some .string,some .string,some x=>some (.cvs,[x])
  | _,_,_=>none
 | .makeFunc fn first caps=>(zap (first.toList++caps.toList)).map λl=>(.mkfn fn first.size,l)
 | .slice t x lo hi none=>match P.underlying t,zap ([x]++lo.toList++hi.toList) with
  | some .string,some l=>some (.sliceS lo.isSome hi.isSome,l)
  | some (.slice e),some l=>(zX P e).map λsz=>(.sliceL sz lo.isSome hi.isSome,l)
  | some (.array n e),some l=>if lo.isNone=true/\hi.isNone=true/\zX P e=some 1/\n<=1000 then some (.slA n,l) else some (.bad,[])
  | _,_=>none
 | .fieldAddr t x f=>match P.underlying t,zcw x with
  | some (.struct fs),some x=>(fs[f]?).bind λfl=>(zX P fl.type).bind λs=>if s=0 then none else some (.fadr fl.offset,[x])
  | _,_=>none
 | .field t x f=>match P.underlying t,zcw x with
  | some (.struct fs),some x=>(fs[f]?).bind λfl=>match zX P fl.type,zC P fl.type with
   | some s,some ag=>some (.fld fl.offset s ag,[x])
   | _,_=>none
  | _,_=>none
 | .index t x i=>match P.underlying t,zap [x,i] with
  | some (.array n e),some l=>match zX P e,zC P e with
   | some s,some ag=>some (.idxA n s ag,l)
   | _,_=>none
  | some .string,some l=>some (.idxS,l)
  | _,_=>none
 | .indexAddr t x i=>match P.underlying t,zap [x,i] with
  | some (.array n e),some l=>(zX P e).map λs=>(.iadrA n s,l)
  | some (.slice e),some l=>(zX P e).map λs=>(.iadrS s,l)
  | _,_=>none
 | .extract x j=>(zcw x).map λx=>(.ext j,[x])
 | .range t x=>match P.underlying t,zcw x with
  | some .string,some x=>some (.range,[x])
  | some (.map _ _),some x=>some (.mit 0,[x])
  | _,_=>none
 | .next x true=>(zcw x).map λx=>(.next,[x])
 | .next x false=>(zcw x).map λx=>(.mit 1,[x])
 | .entry x=>(zcw x).map λx=>(.mit 2,[x])
 | .makeSlice t x y=>match P.underlying t,zap [x,y] with
  | some (.slice e),some l=>match zX P e,bytesOf P e,zB P e,zC P e with
   | some sz,some by_,some z,some ag=>if 0 < sz/\z.cells.length=sz/\0 < by_/\z.isAgg=ag then some (.mkslice e sz by_ z,l) else none
   | _,_,_,_=>none
  | _,_=>none
 | .makeMap _ none=>some (.mkmap,[])
 | .lookup t x y ok=>match P.underlying t,zap [x,y] with
  | some (.map kt et),some l=>match zjl P kt,zB P et with
   | some ka,some z=>some (.lkup ka.1 ka.2 z ok,l)
   | _,_=>none
  | _,_=>none
 | .mapUpdate t x y z|.insert t x y z=>match P.underlying t,zap [x,y,z] with
  | some (.map kt _),some l=>(zjl P kt).map λka=>(.mset ka.1 ka.2,l)
  | _,_=>none
 | .mapEntry t x y=>match P.underlying t,zap [x,y] with
  | some (.map kt et),some l=>match zjl P kt,zB P et with
   | some ka,some z=>some (.ment ka.1 ka.2 z,l)
   | _,_=>none
  | _,_=>none
 | .entryStore _ x y z=>(zap [x,y,z]).map λl=>(.mest,l)
 | .call { callee:=.builtin .len,args:=⟨[x]⟩,argTypes:=⟨[t]⟩ }=>match P.underlying t,zcw x with
  | some .string,some x=>some (.len true,[x])
  | some (.slice _),some x=>some (.len false,[x])
  | _,_=>none
 | .call { callee:=.builtin .append,args:=⟨[x,y]⟩,argTypes:=⟨[t,t']⟩ }=>if t'=t then (match P.underlying t,zap [x,y] with
  | some (.slice e),some l=>match zX P e,bytesOf P e,zB P e with
   | some sz,some by_,some z=>if 0 < sz/\z.cells.length=sz/\0 < by_ then some (.app e sz by_,l) else none
   | _,_,_=>none
  | _,_=>none) else none
 | .call { callee:=.builtin .copy,args:=⟨[x,y]⟩,argTypes:=⟨[t,t']⟩ }=>match P.underlying t,P.underlying t',zap [x,y] with
  | some (.slice e),some (.slice _),some l=>(zX P e).map λsz=>(.copy sz,l)
  | _,_,_=>none
 | .call { callee:=.builtin .max,args:=⟨[x,y]⟩,.. }=>(zap [x,y]).map λl=>(.mx,l)
 | .call { callee:=.builtin .min,args:=⟨[x,y]⟩,.. }=>(zap [x,y]).map λl=>(.mn,l)
 | .call { callee:=.value (.func f),args,.. }=>(zap args.toList).map λl=>(.call f,l)
 | .call { callee:=.value (.tmp t),args,.. }=>(zap (.tmp t::args.toList)).map λl=>(.callv,l)
 | .defer _=>none
 | _=>some (.bad,[])
def zcN (P:Program) (N:Nat) (ops:Array Oper) (o:Oper):Option RO:=
 if o.dst.all (λd=>decide (d < N)) then
 match zao P o with
 | some (op,args)=>
  let af:=o.after.toList.filterMap λe=>if Region.binds .any e then some e.on else none
  match o.guard with
  | none=>some ⟨o.dst,op,args,none,af⟩
  | some (j,b)=>match (ops[j]?).bind (·.dst) with
   | some t=>if t < GB then some ⟨o.dst,op,args,some (t,b),af⟩ else none
   | none=>none
 | none=>none
 else none
def zbt (P:Program) (N:Nat) (ops:Array Oper):List Oper->Option (List RO)
 | []=>some []
 | o::r=>match zcN P N ops o,zbt P N ops r with
  | some x,some xs=>some (x::xs)
  | _,_=>none
def zI (P:Program) (N:Nat):Code->Option AC
 | .skip=>some .skip
 | .region _ ops draw=>(zbt P N ops ops.toList).map λl=>.ops draw l
 | .seq a b=>match zI P N a,zI P N b with
  | some x,some y=>some (.seq x y)
  | _,_=>none
 | .cond c a b=>match zcw c,zI P N a,zI P N b with
  | some c,some x,some y=>some (.cond c x y)
  | _,_,_=>none
 | .block id a=>(zI P N a).map λx=>.block id x
 | .loop a=>(zI P N a).map λx=>.loop x
 | .rangeFunc f ps asg body=>match zcw f,zI P N asg,zI P N body with
  | some f,some x,some y=>some (.rfunc f ps.toList x y)
  | _,_,_=>none
 | .exit id=>some (.exit id)
 | .ret=>some .ret
 | .scope a=>(zI P N a).map λx=>.scope x
 | .label _=>some .label
 | _=>none
section
variable {P:Program} {w:World}
theorem zek (h:zX P t=some sz):∃ i,P.info? t=some i/\i.size=sz:=by
 obtain ⟨i,h1,h2⟩:=xab.1 h;exact ⟨i,h1,h2⟩
theorem zQ (h:zX P t=some sz):(sizeOf t).run P w=.ok sz w:=by
 obtain ⟨i,h1,h2⟩:=zek h;simp [sizeOf,typeInfo,h1,h2]
theorem zdw (h:zC P t=some ag):(isAgg t).run P w=.ok ag w:=by
 obtain ⟨d,h1,h2⟩:=xab.1 h;subst h2;simp only [isAgg,Sem.run_bind,run_underlying h1,Result.andThen_ok];cases d<;>rfl
theorem zcD {a:Addr} (hsz:zX P t=some sz) (hag:zC P t=some ag) (us:List Value) (hl:us.length=sz)
  (hc:∀ j u,us[j]?=some u->w.cell? (a.add j)=some u) (h1:ag=false->sz=1) :
  (Instr.loadAt t (.pointer (some a))).run P w=.ok (if ag then .agg us.toArray else (us[0]?).getD undef) w:=by
 cases ag with
 | true=>
  have:=run_loadCells_list (P:=P) w a us hc;rw [hl] at this;simp [Instr.loadAt,Instr.sureAddr,loadVar,zdw hag,zQ hsz,this]
 | false=>
  have h1:=h1 rfl;have hu:us[0]?=some (us[0]'(by omega)):=xac (by omega)
  have:=hc 0 _ hu;have ha:a.add 0=a:=by simp [Addr.add]
  rw [ha] at this;simp [Instr.loadAt,Instr.sureAddr,loadVar,zdw hag,this,hu]
theorem zgl {sz g off:Nat} {ty:TypeId} (hsz:zX P t=some sz) (hg:w.heap[g]?=some (.cells arr ty (0,0))) (hv:v.cells.size=sz)
  (hfit:off+sz<=arr.size) (h1:∀ u ∈ v.cells.toList,u.oneCell'=true) :
  (Instr.storeAt t (.pointer (some ⟨g,off,none⟩)) v).run P w=.ok () (w.setRow g (arr.toList.take off++v.cells.toList++arr.toList.drop (off+sz)).toArray):=by
 have:=run_storeCells_at (P:=P) g off ty v.cells.toList 0 arr w hg (by simp;omega) h1
 simp only [xbt,xbZ,hv] at this;simp [Instr.storeAt,Instr.sureAddr,storeVar,zQ hsz,hv,this]
theorem zcz (w:World) (g:Nat) (c:Array Value) (row:Option Nat) (h:row=some g):w.grownBy (w.setRow g c) row:=
 ⟨rfl,rfl,rfl,by simp [World.setRow],λk _ hk=>setRow_other w g k c (λe=>hk (by rw [h,e]))⟩
theorem zcT {a:Addr} (ht:P.underlying t=some (.struct fs)) (hf:fs[f]?=some fl) (hs:zX P fl.type=some s) (h0:s≠0) :
  (Instr.fieldAt t (.pointer (some a)) f).run P w=.ok (.pointer (some (a.add fl.offset))) w:=by
 simp [Instr.fieldAt,run_underlying ht,hf,Instr.sureAddr,fieldPlace,zQ hs,h0]
theorem zep {a:Addr} {len cap:Nat} {k:IntKind} {i:Int} (ht:P.underlying t=some (.slice e)) (hs:zX P e=some s) (h0:0<=i) (h1:i < len) :
  (Instr.indexAt t (.slice (some a) len cap) (.int k i)).run P w=.ok (.pointer (some (a.add (i.toNat*s)))) w:=by
 simp [Instr.indexAt,run_underlying ht,asIntOf,h0,h1,zQ hs]
theorem zeq {a:Addr} {k:IntKind} {i:Int} (ht:P.underlying t=some (.array n e)) (hs:zX P e=some s) (h0:0<=i) (h1:i < n) :
  (Instr.indexAt t (.pointer (some a)) (.int k i)).run P w=.ok (.pointer (some (a.add (i.toNat*s)))) w:=by
 simp [Instr.indexAt,run_underlying ht,asIntOf,Instr.sureAddr,h0,h1,zQ hs]
theorem zeo (hsz:zX P t=some sz) (hag:zC P t=some ag) (h:ag=false->off < cs.size) :
  (part t cs off).run P w=.ok (if ag then .agg (cs.extract off (off+sz)) else (cs[off]?).getD undef) w:=by
 cases ag with
 | true=>simp [part,zdw hag,zQ hsz]
 | false=>
  have h:=h rfl;simp [part,zdw hag,xai h]
theorem zeJ (place:Nat→Option (Nat × Nat)):∀ (idx:List Nat) (pl:List (Nat × Nat)) (vs:List Value) (cells:Array Value),
  idx.mapM place=some pl→vs.length=idx.length→(∀ (j o s:Nat) (v:Value),pl[j]?=some (o,s)→vs[j]?=some v→v.cells.size=s∧o+s≤cells.size) →
  ∃ cs',Instr.fill place cells (idx.zip vs)=some cs'∧cs'.size=cells.size ∧
   cs'.toList=(pl.zip vs).foldl (fun c x=>c.take x.1.1++x.2.cells.toList++c.drop (x.1.1+x.2.cells.size)) cells.toList
 | [],pl,vs,cells,h,hl,_=>by
  simp at h;subst h
  exact ⟨cells,by simp [Instr.fill],rfl,by simp⟩
 | i::idx,pl,vs,cells,h,hl,hfit=>by
  simp only [xch,Option.pure_def,xcr,xao] at h
  obtain ⟨⟨o,s⟩,h1,pl',h2,h3⟩:=h
  injection h3 with h3;subst h3
  match vs,hl with
  | v::vs,hl=>
   obtain ⟨e1,e2⟩:=hfit 0 o s v rfl rfl
   have hfold:∀ (l:List Value) (cs:Array Value) (k:Nat),o+k+l.length≤cs.size →
     ((l.zipIdx k).foldl (fun cs (x:Value × Nat)=>cs.setIfInBounds (o+x.2) x.1) cs).toList=cs.toList.take (o+k)++l++cs.toList.drop (o+k+l.length):=by
    intro l
    induction l with
    | nil=>intro cs k _;simp
    | cons x l ih=>
     intro cs k hk
     simp only [List.zipIdx_cons,xbn]
     rw [ih _ _ (by simp at hk ⊢;omega)]
     simp only [Array.toList_setIfInBounds,xaz]
     apply xco
     intro j
     simp only [xak,List.getElem?_append,xan,xbQ,xbZ,xaQ,List.getElem?_set,xaY]
     simp only [xaz] at hk
     by_cases c1:j < o+k
     ·simp [c1,show j < min (o+(k+1)) cs.size by omega,show j < min (o+k) cs.size by omega,show ¬o+k=j by omega,show j < o+(k+1) by omega]
     ·by_cases c2:j=o+k
      ·subst c2
       simp [show o+k < min (o+(k+1)) cs.size by omega,show o+k < o+(k+1) by omega,show min (o+k) cs.size=o+k by omega,show o+k < cs.size by omega]
      ·by_cases c3:j < o+k+1+l.length
       ·simp [show min (o+(k+1)) cs.size=o+k+1 by omega,show min (o+k) cs.size=o+k by omega,show j - (o+k)=(j - (o+k+1))+1 by omega,show j - (o+k+1) < l.length by omega]
        rw [if_neg (by omega),if_neg c1]
       ·simp [show min (o+(k+1)) cs.size=o+k+1 by omega,show min (o+k) cs.size=o+k by omega,show j - (o+k)=(j - (o+k+1))+1 by omega,show ¬j - (o+k+1) < l.length by omega]
        rw [if_neg (by omega),if_neg c1,show o+(k+1)+l.length+(j - (o+k+1) - l.length)=o+k+(l.length+1)+(j - (o+k+1) - l.length) by omega,if_neg (by omega)]
   have hzip:(fun cs (x:Value × Nat)=>cs.setIfInBounds (o+x.2) x.1)=(fun (cs:Array Value) (x:Value × Nat)=>match x with|(c,j)=>cs.setIfInBounds (o+j) c):=by funext cs ⟨c,j⟩;rfl
   let cells1:=v.cells.zipIdx.foldl (fun cs (c,j)=>cs.setIfInBounds (o+j) c) cells
   have hc1:cells1.toList=cells.toList.take o++v.cells.toList++cells.toList.drop (o+v.cells.size):=by
    show (v.cells.zipIdx.foldl (fun (cs:Array Value) (x:Value × Nat)=>match x with|(c,j)=>cs.setIfInBounds (o+j) c) cells).toList=_
    rw [←Array.foldl_toList,Array.toList_zipIdx,←hzip]
    have:=hfold v.cells.toList cells 0 (by simp;omega)
    simpa using this
   have hs1:cells1.size=cells.size:=by
    rw [←xbZ,hc1];simp;omega
   obtain ⟨cs',f1,f2,f3⟩:=zeJ place idx pl' vs cells1 h2 (by simpa using hl) (fun j o' s' v' hp hv=>by
    rw [hs1];exact hfit (j+1) o' s' v' (by simpa using hp) (by simpa using hv))
   refine ⟨cs',?_,by rw [f2,hs1],?_⟩
   ·simp only [xbS,Instr.fill,h1]
    rw [if_neg (by simp;omega)]
    exact f1
   ·rw [f3,hc1];simp
end
def znC (P:Program) (o:Oper) (a:Act) (w:World) (v:Value) (w':World):Prop:=
 (execOp a.eval o).run P w=.ok (.value v) w'\/((execOp a.eval o).run P w=.ok .skip w'/\v=undef)
def wrL (look:Nat->Option LObj):Option (Nat × LObj)->Nat->Option LObj
 | none=>look
 | some (k,o)=>upd look k (some o)
def zt (X:Fx) (g:Nat->LV) (look:Nat->Option LObj) (tr:List (List PV)) (stop:Bool) (a:Act) (w:World) (P:Program) (o:Oper) (eff:Eff):Prop:=
 ∃ v w' C',znC P o a w v w'/\RelC X C' g (wrL look eff.wr) tr stop a w'/\RepL w' C' (wrL look eff.wr) v eff.val/\LV.Sc (wrL look eff.wr) eff.val
section
variable {X:Fx} {C:Ctx} {g:Nat->LV} {look:Nat->Option LObj} {tr:List (List PV)} {stop:Bool} {a:Act} {w:World} {P:Program} {o:Oper}
theorem zab (h:RelC X C g look tr stop a w) (hr:(execOp a.eval o).run P w=.ok (.value v) w) (hp:Rep w C.B v p):zt X g look tr stop a w P o (.ofP p):=
 ⟨v,w,C,.inl hr,h,.p hp,.p p⟩
theorem zbX (h:RelC X C g look tr stop a w) (hr:(execOp a.eval o).run P w=.ok (.value v) w) (hq:RepL w C look v q) (hs:LV.Sc look q):zt X g look tr stop a w P o ⟨q,none,false,rd⟩:=
 ⟨v,w,C,.inl hr,h,hq,hs⟩
theorem zp6 (h:Rep w B v p) (hp:p.one=true):v.oneCell'=true:=by
 cases h<;>first|rfl|(simp [PV.one] at hp)
theorem ze {x:PV} (h:RepL w C look v (.p x)):Rep w C.B v x:=by cases h;assumption
theorem zZ (h:Rep w B v p) (hp:p.isAny=false):Reps w B v.cells.toList p.cells:=h.cells (by rintro rfl;cases hp)
def RepsL (w:World) (C:Ctx) (look:Nat->Option LObj) (vs:List Value) (qs:List LV):Prop:=
 vs.length=qs.length/\∀ (j:Nat) (v:Value) (q:LV),vs[j]?=some v->qs[j]?=some q->RepL w C look v q/\LV.Sc look q
theorem RepsL.of_reps (h:Reps w C.B vs ps):RepsL w C look vs (ps.map .p):=
 ⟨by simpa using h.1,λj v q hv hq=>by
  simp only [xal,xab] at hq;obtain ⟨p,hp,rfl⟩:=hq;exact ⟨.p (h.2 j v p hv hp),.p p⟩⟩
theorem RepsL.single (h:RepL w C look v q) (hs:LV.Sc look q):RepsL w C look [v] [q]:=
 ⟨rfl,λj u x hu hx=>by
  cases j with
  | zero=>simp at hu hx;subst hu;subst hx;exact ⟨h,hs⟩
  | succ j=>simp at hu⟩
theorem zc1 (h:RepL w C look v q) (hs:LV.Sc look q) (hk:q.known look) (ho:∀ k ob,look k=some ob->ObjRel w C look k ob):RepsL w C look v.cells.toList q.cells:=by
 cases h with
 | p h=>exact .of_reps (zZ h hk)
 | g _ _=>exact hk.elim
 | lp=>exact .single .lp hs
 | @row v k n h'=>
  simp only [LV.known] at hk
  split at hk
  ·rename_i e sz xs fz hl;have hv:=h' e sz xs fz hl hk.symm;obtain ⟨us,how,_⟩:=ho k _ hl;have:v.cells=#[v]:=by
    rw [hv]
    rcases how.2 with ⟨e1,_⟩|⟨gb,cap,cur,e1,_⟩<;>rw [e1]<;>rfl
   rw [this];exact .single (.row h') hs
  ·exact hk.elim
 | ep _=>exact hk.elim
 | it=>exact .single .it hs
 | lm=>exact .single .lm hs
 | fn h1 h2 h3 h4=>exact .single (.fn h1 h2 h3 h4) hs
 | agg h1 h2=>cases hs with|agg s=>exact ⟨by simpa [Value.cells,LV.cells] using h1,λj v q hv hq=>⟨h2 j v q (by simpa [Value.cells] using hv) hq,s j q hq⟩⟩
 | tup _ _=>exact hk.elim
 | yield=>exact .single .yield hs
 | any=>exact hk.elim
theorem zmN (h:RepsL w C look vs qs) (h1:oneL look qs) (ho:∀ k ob,look k=some ob->ObjRel w C look k ob):∀ v ∈ vs,v.oneCell'=true:=by
 induction qs generalizing vs with
 | nil=>have:=xay (by simpa using h.1);subst this;intro v hv;cases hv
 | cons q qs ih=>
  match vs,h with
  | [],h=>intro v hv;cases hv
  | v::vs,h=>
   have h0:=(h.2 0 v q rfl rfl).1;have hr:RepsL w C look vs qs:=⟨by simpa using h.1,λj u x hu hx=>h.2 (j+1) u x (by simpa using hu) (by simpa using hx)⟩
   have key:v.oneCell'=true/\oneL look qs:=by
    cases h0 with
    | p hp=>exact ⟨zp6 hp h1.1,h1.2⟩
    | g _ _=>exact h1.elim
    | lp=>exact ⟨rfl,h1⟩
    | @row v k n h'=>
     simp only [oneL] at h1;obtain ⟨hk,h1⟩:=h1;refine ⟨?_,h1⟩
     split at hk
     ·rename_i e sz xs fz hl;have hv:=h' e sz xs fz hl hk.symm;obtain ⟨us,how,_⟩:=ho k _ hl;rw [hv]
      rcases how.2 with ⟨e1,_⟩|⟨gb,cap,cur,e1,_⟩<;>rw [e1]<;>rfl
     ·exact hk.elim
    | ep _=>exact h1.elim
    | it=>exact ⟨rfl,h1⟩
    | lm=>exact ⟨rfl,h1⟩
    | fn _ _ _ _=>exact ⟨rfl,h1⟩
    | agg _ _=>exact h1.elim
    | tup _ _=>exact h1.elim
    | yield=>exact ⟨rfl,h1⟩
    | any=>exact h1.elim
   intro u hu
   rcases xaI.1 hu with rfl|hu
   ·exact key.1
   ·exact ih hr key.2 u hu
theorem zq1 (h:RelC X C g look tr stop a w) (hd:look d=none) {cs:List LV} (ty:TypeId) (hc:RepsL w C look arr.toList cs) :
  RelC X { C with ρ:=upd C.ρ d w.heap.size } g (upd look d (some (.box cs false))) tr stop a (w.alloc (.cells arr ty)):=by
 have hb:Below w.heap.size w (w.alloc (.cells arr ty)):=(Below.refl _ _).alloc (xap _) _;have h1:=h.grow hb C.B (λ_ h=>h) (λb hb=>.inl hb)
 have hne:∀ k x,look k=some x->k≠d:=λk x hk e=>by subst e;rw [hd] at hk;cases hk
 refine h1.lay hd rfl rfl rfl rfl rfl (λk hk=>zA _ _ hk) (λ_ _=>rfl) ?_ ?_ rfl ?_
 ·refine ⟨arr,ty,?_,by simpa using hc.1,λj v q hv hq=>?_⟩
  ·show (w.alloc (.cells arr ty)).heap[upd C.ρ d w.heap.size d]?=_;rw [zk];exact heap_alloc_new w _
  ·obtain ⟨hr,hs⟩:=hc.2 j v q (by simpa using hv) hq
   exact RepL.same (C:=C) (C':={ C with ρ:=upd C.ρ d w.heap.size }) (λ_ h=>h) rfl (λb hbb=>Below.heap_alloc w _ b (h.blt b hbb)) (λk x hk=>zA _ _ (hne k x hk))
    (λk e sz xs fz hk=>⟨xs,fz,by rw [zA _ _ (hne k _ hk)];exact hk,λ_=>rfl,xap _⟩) hs hr
 ·exact λj q hq=>by
   have hj:j < arr.toList.length:=by rw [hc.1];exact (xaa.1 hq).1
   exact (hc.2 j _ q (xac hj) hq).2.follows (zdr hd)
 ·intro b hb2;simp only [blk,zk,xaK] at hb2;subst hb2;refine ⟨h.kx.size,by simp,λhbb=>absurd (h.blt _ hbb) (by omega),λk x hk hbk=>?_,λhx=>?_,h.nle⟩
  ·have h2:blk C k x=some w.heap.size:=by cases x<;>exact hbk
   have:=(h.sep k x _ hk h2).2.1;omega
  ·have:=h.marks.lt _ hx;omega
theorem zfb (h:RelC X C g look tr stop a w) (hd:look d=none) (hb:Below w.heap.size w w') {v:Value} {e:TypeId} {sz:Nat} {xs:List PV} {us:List Value}
  (how:w'.ownsRow 0 e sz v xs.length us) (hus:Reps w' C.B us (xs.flatMap PV.cells)) (hx:∀ x ∈ xs,x.cells.length=sz) (h0:0 < sz) (hblk:∀ b,v.ownBlock=some b->w.heap.size<=b) :
  RelC X { C with cur:=upd C.cur d v } g (upd look d (some (.row e sz xs false))) tr stop a w':=by
 have h1:=h.grow hb C.B (λ_ h=>h) (λb hb=>.inl hb)
 refine h1.lay hd rfl rfl rfl rfl rfl (λ_ _=>rfl) (λk hk=>zA _ _ hk) ?_ trivial rfl ?_
 ·exact ⟨us,by show w'.ownsRow 0 e sz (upd C.cur d v d) _ _;rw [zk];exact how,hus,hx,h0⟩
 ·intro b hb2;simp only [blk,zk] at hb2;have hge:=hblk b hb2;have hlt:=(how.lt b hb2).2;refine ⟨xa0 h.kx.size hge,hlt,λhbb=>absurd (h.blt _ hbb) (by omega),λk x hk hbk=>?_,λhx=>?_,xa0 h.nle hge⟩
  ·have h2:blk C k x=some b:=by cases x<;>exact hbk
   have:=(h.sep k x _ hk h2).2.1;omega
  ·have:=h.marks.lt _ hx;omega
theorem zer {look':Nat->Option LObj} (hc:C'.cur d=v):RepL w' C' look' v (.row d n):=.row λ_ _ _ _ _ _=>hc.symm
theorem zdN:∀ {qs:List LV} {ps:List PV},zfF qs=some ps->qs=ps.map .p
 | [],ps,h=>by simp [zfF] at h;subst h;rfl
 | .p v::r,ps,h=>by
  simp only [zfF,xab] at h;obtain ⟨qs,h1,rfl⟩:=h;rw [zdN h1];rfl
 | .g _ _::_,_,h|.lp _ _::_,_,h|.row _ _::_,_,h|.ep _ _ _ _::_,_,h|.it _::_,_,h|.lm _::_,_,h|.fn _ _ _::_,_,h|.agg _::_,_,h|.yield::_,_,h|.any::_,_,h=>by simp [zfF] at h
theorem zg8:∀ {xs:List Operand} {ys:List AOpd},zap xs=some ys->xs.length=ys.length
 | [],ys,h=>by simp [zap] at h;subst h;rfl
 | x::r,ys,h=>by
  simp only [zap] at h
  split at h
  ·rename_i y zs _ h2;injection h with h;subst h;simp [zg8 h2]
  ·cases h
theorem zky:∀ {xs:List Operand} {ys:List AOpd},zap xs=some ys->∀ (j:Nat) (x:Operand) (y:AOpd),xs[j]?=some x->ys[j]?=some y->zcw x=some y
 | [],ys,h,j,x,y,hx,_=>by simp at hx
 | z::r,ys,h,j,x,y,hx,hy=>by
  simp only [zap] at h
  split at h
  ·rename_i y' zs h1 h2;injection h with h;subst h;cases j with
   | zero=>simp at hx hy;subst hx;subst hy;exact h1
   | succ j=>exact zky h2 j x y (by simpa using hx) (by simpa using hy)
  ·cases h
def zaL (w:World) (C:Ctx) (look:Nat->Option LObj) (a:Act) (args:List AOpd) (E:AOpd->LV):Prop:=
 ∀ x y,zcw x=some y->y ∈ args->RepL w C look (a.eval x) (E y)/\LV.Sc look (E y)
theorem zbq {xs:List Operand} {args args':List AOpd} {E:AOpd->LV} (h:zap xs=some args) (hsub:∀ y ∈ args,y ∈ args') (hi:zaL w C look a args' E):RepsL w C look (xs.map a.eval) (args.map E):=
 ⟨by simp [zg8 h],λj v q hv hq=>by
  simp only [xal,xab] at hv hq;obtain ⟨x,hx,rfl⟩:=hv;obtain ⟨y,hy,rfl⟩:=hq;exact hi x y (zky h j x y hx hy) (hsub y (xae hy))⟩
theorem zgo (h:RepsL w C look vs (ps.map .p)):Reps w C.B vs ps:=
 ⟨by simpa using h.1,λj v p hv hp=>ze (h.2 j v (.p p) hv (by simp [hp])).1⟩
end
section
variable {X:Fx} {C:Ctx} {g:Nat->LV} {look:Nat->Option LObj} {tr:List (List PV)} {stop:Bool} {a:Act} {w:World} {P:Program} {o:Oper}
theorem zaw (h:zB P t=some z):∃ i v,P.info? t=some i/\i.zero=some v/\zsv v=some z:=by
 obtain ⟨i,h1,h2⟩:=xao.1 h;obtain ⟨v,h3,h4⟩:=xao.1 h2;exact ⟨i,v,h1,h3,h4⟩
theorem zrK (h:zfh v=some z):z.one=true:=by
 unfold zfh at h
 split at h<;>first|(injection h with h;subst h;rfl)|(split at h<;>first|(injection h with h;subst h;rfl)|cases h)|cases h
theorem zcM (h:zsv v=some z):z.isAny=false:=by
 unfold zsv at h
 split at h
 ·obtain ⟨ps,_,rfl⟩:=xab.1 h;rfl
 ·have:=zrK h;cases z<;>first|rfl|cases this
theorem zl7 (h:RelC X C g look tr stop a w) (ho:o.op=.alloc t) (hz:zB P t=some z) (hd:look d=none) :
  zt X g look tr stop a w P o ⟨.lp d 0,some (d,.box (z.cells.map .p) false),true,[]⟩:=by
 obtain ⟨i,v,h1,h2,h3⟩:=zaw hz;have hc:RepsL w C look v.cells.toList (z.cells.map .p):=.of_reps (zZ (zbf h3 w C.B) (zcM h3));refine ⟨.pointer (some ⟨w.heap.size,0,none⟩),w.alloc (.cells v.cells t),_,.inl ?_,zq1 h hd t hc,?_,?_⟩
 ·simp [execOp,ho,Instr.alloc,zeroValue,typeInfo,h1,h2,newVar,newRow]
 ·have:=RepL.lp (w:=w.alloc (.cells v.cells t)) (C:={ C with ρ:=upd C.ρ d w.heap.size }) (l:=upd look d (some (.box (z.cells.map .p) false))) (k:=d) (off:=0);simp only [zk] at this;exact this
 ·exact .lp (zk _ _ _)
theorem zr2 (h:RelC X C g look tr stop a w) (ho:o.op=.box t x) (hq:RepL w C look (a.eval x) q) (hs:LV.Sc look q) (hk:q.known look) (hd:look d=none) :
  zt X g look tr stop a w P o ⟨.lp d 0,some (d,.box q.cells false),true,[]⟩:=by
 have hc:=zc1 hq hs hk h.obj;refine ⟨.pointer (some ⟨w.heap.size,0,none⟩),w.alloc (.cells (a.eval x).cells t),_,.inl ?_,zq1 h hd t hc,?_,?_⟩
 ·simp [execOp,ho,Instr.box,newVar,newRow]
 ·have:=RepL.lp (w:=w.alloc (.cells (a.eval x).cells t)) (C:={ C with ρ:=upd C.ρ d w.heap.size }) (l:=upd look d (some (.box q.cells false))) (k:=d) (off:=0);simp only [zk] at this;exact this
 ·exact .lp (zk _ _ _)
theorem zge {α:Type} (cs:List α) (off:Nat) (vs:List α) (h:off+vs.length<=cs.length):updL cs off vs=cs.take off++vs++cs.drop (off+vs.length):=by
 unfold updL
 split
 ·rename_i v;simp only [List.length_singleton] at h ⊢;rw [List.set_eq_take_append_cons_drop,if_pos (by omega)]
  simp
 ·rfl
theorem zgd {α:Type} (cs:List α) (off:Nat) (vs:List α) (h:off+vs.length<=cs.length):(updL cs off vs).length=cs.length:=by
 rw [zge cs off vs h];simp;omega
theorem zcc (h:Reps w B vs ps) (n:Nat):Reps w B (vs.take n) (ps.take n):=
 ⟨by simp [h.1],λj v p hv hp=>by
  simp only [xaQ] at hv hp
  split at hv
  ·rename_i hj;rw [if_pos hj] at hp;exact h.2 j v p hv hp
  ·cases hv⟩
theorem zcd (h:Reps w B vs ps) (n:Nat):Reps w B (vs.drop n) (ps.drop n):=
 ⟨by simp [h.1],λj v p hv hp=>by simp only [xaY] at hv hp;exact h.2 _ v p hv hp⟩
theorem zkd:∀ (pl:List (Nat × Nat)) (vs:List Value) (ps:List PV) (cs:List Value) (zs:List PV),Reps w B vs ps->Reps w B cs zs->fillOk zs.length pl ps ->
  Reps w B ((pl.zip vs).foldl (λc x=>c.take x.1.1++x.2.cells.toList++c.drop (x.1.1+x.2.cells.size)) cs) (fillP zs pl ps)
 | [],vs,ps,cs,zs,_,hz,_=>by
  have:fillP zs [] ps=zs:=by cases ps<;>rfl
  rw [this];simpa using hz
 | (off,sz)::pl,vs,[],cs,zs,_,_,hok=>by simp [fillOk] at hok
 | (off,sz)::pl,vs,p::ps,cs,zs,hv,hz,hok=>by
  obtain ⟨v,us,rfl,h1,h2⟩:=hv.cons_inv;obtain ⟨e1,e2,e3,e4⟩:=hok;have hcv:=zZ h1 e3;have hl:v.cells.size=p.cells.length:=by simpa using hcv.1
  simp only [xbS,xbn,fillP];refine zkd pl us ps _ _ h2 ?_ (by rw [zgd _ _ _ (by omega)];exact e4)
  rw [zge _ _ _ (by omega)]
  refine ((zcc hz off).append hcv).append ?_;rw [hl];exact zcd hz _
theorem zhK:∀ {n:Nat} {pl:List (Nat × Nat)} {ps:List PV},fillOk n pl ps->∀ (j off sz:Nat) (p:PV),pl[j]?=some (off,sz)->ps[j]?=some p->p.cells.length=sz/\off+sz<=n/\p.isAny=false
 | _,[],_,_,j,off,sz,p,h1,_=>by simp at h1
 | _,_::_,[],h,_,_,_,_,_,_=>h.elim
 | n,(_,_)::pl,q::ps,h,j,off,sz,p,h1,h2=>by
  cases j with
  | zero=>simp at h1 h2;obtain ⟨rfl,rfl⟩:=h1;subst h2;exact ⟨h.1,h.2.1,h.2.2.1⟩
  | succ j=>exact zhK h.2.2.2 j off sz p (by simpa using h1) (by simpa using h2)
theorem zl3 (h:RelC X C g look tr stop a w) {z:List PV} {pl:List (Nat × Nat)} {ps:List PV} (ho:o.op=.build t parts) (hz:zB P t=some (.agg z))
  (hpl:zH P t (parts.toList.map (·.1))=some pl) (hr:Reps w C.B ((parts.toList.map (·.2)).map a.eval) ps) (hok:fillOk z.length pl ps) :
  zt X g look tr stop a w P o (.ofP (.agg (fillP z pl ps))):=by
 obtain ⟨i,zv,h1,h2,h3⟩:=zaw hz;have hzr:=zbf h3 w C.B;have hzc:Reps w C.B zv.cells.toList z:=zZ hzr rfl;have hzip:(parts.map λ(i,x)=>(i,a.eval x)).toList=(parts.toList.map (·.1)).zip ((parts.toList.map (·.2)).map a.eval):=by
  rw [xbT]
  induction parts.toList with
  | nil=>rfl
  | cons x l ih=>simp only [xaj,xbS,ih]
 have hfit:∀ (j o' s:Nat) (v:Value),pl[j]?=some (o',s)->((parts.toList.map (·.2)).map a.eval)[j]?=some v->v.cells.size=s/\o'+s<=zv.cells.size:=by
  intro j o' s v hp hv;have hj:j < ps.length:=by rw [<-hr.1];exact (xaa.1 hv).1
  obtain ⟨e1,e2,e3⟩:=zhK hok j o' s _ hp (xac hj);have hc:=zZ (hr.2 j v _ hv (xac hj)) e3;have l1:=hc.1;have l2:=hzc.1;simp at l1 l2
  omega
 have main:∀ place:Nat->Option (Nat × Nat),(parts.toList.map (·.1)).mapM place=some pl->∃ cs',Instr.fill place zv.cells ((parts.toList.map (·.1)).zip ((parts.toList.map (·.2)).map a.eval))=some cs'/\Rep w C.B (.agg cs') (.agg (fillP z pl ps)):=by
  intro place hp;obtain ⟨cs',f1,f2,f3⟩:=zeJ place _ pl ((parts.toList.map (·.2)).map a.eval) zv.cells hp (by simp) hfit
  have hfr:=zkd pl _ ps _ z hr hzc hok;rw [<-f3] at hfr;exact ⟨cs',f1,.agg (by simpa using hfr.1) λj v p hv hp=>hfr.2 j v p (by simpa using hv) hp⟩
 simp only [zH] at hpl
 split at hpl
 ·rename_i fs ht;obtain ⟨places,hp1,hp2⟩:=xao.1 hpl;obtain ⟨cs',f1,f2⟩:=main _ hp2;have hb:P.built t (parts.map λ(i,x)=>(i,a.eval x)).toList=some cs':=by
   simp only [Program.built,h1,ht,h2,hp1,hzip];exact f1
  refine zab h ?_ f2;simp only [execOp,ho,Sem.run_bind,run_build w t _ _ hb,Result.andThen_ok,Sem.run_pure]
 ·rename_i n e ht;obtain ⟨ie,hp1,hp2⟩:=xao.1 hpl;obtain ⟨cs',f1,f2⟩:=main _ hp2;have hb:P.built t (parts.map λ(i,x)=>(i,a.eval x)).toList=some cs':=by
   simp only [Program.built,h1,ht,h2,hp1,hzip];exact f1
  refine zab h ?_ f2;simp only [execOp,ho,Sem.run_bind,run_build w t _ _ hb,Result.andThen_ok,Sem.run_pure]
 ·cases hpl
theorem zdI:∀ {xs:List PV},(∀ x ∈ xs,x.cells.length=sz)->(xs.flatMap PV.cells).length=xs.length*sz
 | [],_=>by simp
 | x::xs,h=>by
  have h0:=h x (by simp)
  have ih:=zdI (xs:=xs) (λy hy=>h y (by simp [hy]))
  simp only [xat,xad,ih,h0,xaz,xb0]
  omega
theorem zc4:∀ {xs:List PV},(∀ x ∈ xs,x.cells.length=sz)->∀ (i:Nat) (x:PV) (j:Nat),xs[i]?=some x->j < sz->(xs.flatMap PV.cells)[i*sz+j]?=x.cells[j]?
 | [],_,i,x,j,h,_=>by simp at h
 | y::xs,h,i,x,j,hi,hj=>by
  have h0:=h y (by simp)
  cases i with
  | zero=>
   simp at hi;subst hi;simp only [xat,Nat.zero_mul,xb8];rw [xaT (by omega)]
  | succ i=>
   simp only [xat];rw [xaB (by rw [h0,xb0];omega)]
   have e:(i+1)*sz+j - y.cells.length=i*sz+j:=by rw [h0,xb0];omega
   rw [e];exact zc4 (λz hz=>h z (by simp [hz])) i x j (by simpa using hi) hj
theorem ziW:∀ {xs:List PV},(∀ x ∈ xs,x.cells.length=sz)->∀ (i:Nat) (v:PV),i < xs.length->v.cells.length=sz->((xs.set i v).flatMap PV.cells)=(xs.flatMap PV.cells).take (i*sz)++v.cells++(xs.flatMap PV.cells).drop (i*sz+sz)
 | [],_,i,v,h,_=>by simp at h
 | y::xs,h,i,v,hi,hv=>by
  have h0:=h y (by simp)
  cases i with
  | zero=>simp [<-h0]
  | succ i=>
   have ih:=ziW (xs:=xs) (λz hz=>h z (by simp [hz])) i v (by simpa using hi) hv
   have e1:(i+1)*sz=y.cells.length+i*sz:=by rw [h0,xb0];omega
   simp only [List.set_cons_succ,xat,ih,e1];rw [List.take_length_add_append,xbA,List.drop_length_add_append];simp
theorem zgS:∀ {len sz:Nat} {idx:List Nat} {ps:List PV},fillEOk len sz idx ps->idx.length=ps.length/\∀ (j i:Nat) (p:PV),idx[j]?=some i->ps[j]?=some p->p.cells.length=sz/\i < len/\p.isAny=false
 | _,_,[],[],_=>⟨rfl,λj i p h _=>by simp at h⟩
 | _,_,[],_::_,h=>h.elim
 | _,_,_::_,[],h=>h.elim
 | len,sz,i::idx,p::ps,h=>by
  obtain ⟨e1,e2,e3,e4⟩:=h;obtain ⟨l1,l2⟩:=zgS e4;refine ⟨by simp [l1],λj i' p' h1 h2=>?_⟩
  cases j with
  | zero=>simp at h1 h2;subst h1;subst h2;exact ⟨e1,e2,e3⟩
  | succ j=>exact l2 j i' p' (by simpa using h1) (by simpa using h2)
theorem zhL:∀ (idx:List Nat) (vs:List Value) (ps:List PV) (cs:List Value) (xs:List PV),Reps w B vs ps->Reps w B cs (xs.flatMap PV.cells)->(∀ x ∈ xs,x.cells.length=sz)->xs.length=len->fillEOk len sz idx ps ->
  Reps w B (((idx.map λi=>(i*sz,sz)).zip vs).foldl (λc x=>c.take x.1.1++x.2.cells.toList++c.drop (x.1.1+x.2.cells.size)) cs) ((fillE xs idx ps).flatMap PV.cells) /\
   (∀ x ∈ fillE xs idx ps,x.cells.length=sz)/\(fillE xs idx ps).length=len
 | [],vs,ps,cs,xs,_,hz,hx,hl,_=>by
  have:fillE xs [] ps=xs:=by cases ps<;>rfl
  rw [this];exact ⟨by simpa using hz,hx,hl⟩
 | i::idx,vs,[],cs,xs,_,_,_,_,hok=>by simp [fillEOk] at hok
 | i::idx,vs,p::ps,cs,xs,hv,hz,hx,hl,hok=>by
  obtain ⟨v,us,rfl,h1,h2⟩:=hv.cons_inv;obtain ⟨e1,e2,e3,e4⟩:=hok;have hcv:=zZ h1 e3;have hlv:v.cells.size=sz:=by have:=hcv.1;simp at this;omega
  simp only [xaj,xbS,xbn,fillE];refine zhL idx us ps _ _ h2 ?_ ?_ (by simpa using hl) e4
  ·rw [ziW hx i p (by omega) e1,hlv]
   exact ((zcc hz _).append hcv).append (zcd hz _)
  ·intro x hxx
   rcases List.mem_or_eq_of_mem_set hxx with hm|rfl
   ·exact hx x hm
   ·exact e1
theorem zfK {zc:List Value} (h:Reps w B zc z.cells):∀ n:Nat,Reps w B ((List.replicate n zc).flatten) ((List.replicate n z).flatMap PV.cells)
 | 0=>.nil
 | n+1=>by simp only [List.replicate_succ,List.flatten_cons,xat];exact h.append (zfK h n)
theorem zfG (zc:Array Value) (n:Nat):((Array.range (n*zc.size)).map (zc[· % zc.size]!)).toList=(List.replicate n zc.toList).flatten:=by
 induction n with
 | zero=>simp
 | succ n ih=>
  have e:(n+1)*zc.size=n*zc.size+zc.size:=by rw [xb0];omega
  simp only [xbT,Array.toList_range] at ih ⊢;rw [e,List.range_add,xa6,ih,List.replicate_succ',List.flatten_append]
  congr 1
  simp only [List.map_map,List.flatten_cons,List.flatten_nil,xar]
  apply xco
  intro j;simp only [xal]
  by_cases hj:j < zc.size
  ·simp [hj,Nat.mod_eq_of_lt hj]
  ·simp [hj]
theorem zku (h:RelC X C g look tr stop a w) {len sz d:Nat} {ps:List PV} (ho:o.op=.buildSlice t len parts) (ht:P.underlying t=some (.slice e)) (hs:zX P e=some sz) (hz:zB P e=some z)
  (h0:0 < sz) (hbig:len*sz<=2 ^ 24) (hzl:z.cells.length=sz) (hr:Reps w C.B ((parts.toList.map (·.2)).map a.eval) ps) (hok:fillEOk len sz (parts.toList.map (·.1)) ps) (hd:look d=none) :
  zt X g look tr stop a w P o ⟨.row d len,some (d,.row e sz (fillE (List.replicate len z) (parts.toList.map (·.1)) ps) false),true,[]⟩:=by
 obtain ⟨i,zv,h1,h2,h3⟩:=zaw hz;obtain ⟨i',h1',hsz⟩:=zek hs;rw [h1] at h1';injection h1' with h1';subst h1';have hzc:Reps w C.B zv.cells.toList z.cells:=zZ (zbf h3 w C.B) (zcM h3);have hzs:zv.cells.size=sz:=by have:=hzc.1;simp at this;omega
 have hzip:(parts.map λ(i,x)=>(i,a.eval x)).toList=(parts.toList.map (·.1)).zip ((parts.toList.map (·.2)).map a.eval):=by
  rw [xbT]
  induction parts.toList with
  | nil=>rfl
  | cons x l ih=>simp only [xaj,xbS,ih]
 have hmap:(parts.toList.map (·.1)).mapM (λi:Nat=>(some (i*sz,sz):Option (Nat × Nat)))=some ((parts.toList.map (·.1)).map λi=>(i*sz,sz)):=by
  generalize parts.toList.map (·.1)=l
  induction l with
  | nil=>rfl
  | cons x l ih=>simp [xch,ih]
 let base:=(Array.range (len*sz)).map (zv.cells[· % zv.cells.size]!)
 have hbase:base.toList=(List.replicate len zv.cells.toList).flatten:=by
  have:=zfG zv.cells len;rw [hzs] at this;show ((Array.range (len*sz)).map (zv.cells[· % zv.cells.size]!)).toList=_;rw [hzs];exact this
 have hbs:base.size=len*sz:=by simp [base]
 obtain ⟨l1,l2⟩:=zgS hok;obtain ⟨cs',f1,f2,f3⟩:=zeJ (λi=>some (i*sz,sz)) _ _ ((parts.toList.map (·.2)).map a.eval) base hmap (by simp) (λj o' s v hp hv=>by
  simp only [xal,xab] at hp;obtain ⟨k,hk,e1⟩:=hp;injection e1 with e1 e2;subst e1;subst e2;have hj:j < ps.length:=by rw [<-hr.1];exact (xaa.1 hv).1
  obtain ⟨p1,p2,p3⟩:=l2 j k _ (by simpa using hk) (xac hj)
  have hc:=zZ (hr.2 j v _ hv (xac hj)) p3;have l3:=hc.1;simp at l3;refine ⟨by omega,?_⟩
  rw [hbs];have:(k+1)*sz<=len*sz:=xba _ p2;rw [xb0] at this
  omega)
 have hrow0:Reps w C.B base.toList ((List.replicate len z).flatMap PV.cells):=by rw [hbase];exact zfK hzc len
 obtain ⟨r1,r2,r3⟩:=zhL (len:=len) (sz:=sz) _ _ ps base.toList (List.replicate len z) hr hrow0 (λx hx=>by rw [List.eq_of_mem_replicate hx];exact hzl) (by simp) hok
 rw [<-f3] at r1;have hb:Below w.heap.size w (w.alloc (.cells cs' e)):=(Below.refl _ _).alloc (xap _) _;refine ⟨.slice (some ⟨w.heap.size,0,none⟩) len len,w.alloc (.cells cs' e),_,.inl ?_,zfb h hd hb (v:=.slice (some ⟨w.heap.size,0,none⟩) len len) (us:=cs'.toList) ?_ ?_ r2 h0 ?_,zer (zk _ _ _),?_⟩
 ·have hf:Instr.fill (λj=>some (j*sz,sz)) base (parts.map λ(i,x)=>(i,a.eval x)).toList=some cs':=by rw [hzip];exact f1
  by_cases hl0:len*sz=0
  ·have hl:len=0:=by rcases Nat.mul_eq_zero.1 hl0 with e1|e1<;>omega
   subst hl;have hb0:base=#[]:=by apply Array.eq_empty_of_size_eq_zero;rw [hbs];simp
   rw [hb0] at hf;simp only [execOp,ho,Instr.buildSlice,Sem.run_bind,run_underlying ht,Result.andThen_ok,zQ hs,hl0,Nat.not_lt_zero,gt_iff_lt,if_false,if_true,Sem.run_pure];have hf':Instr.fill (λj=>some (j*sz,sz)) #[] (parts.toList.map λx=>(x.1,a.eval x.2))=some cs':=by
    rw [xbT] at hf;exact hf
   simp [newRow];rw [show Array.map (λ_:Nat=>(default:Value)) (Array.range 0)=#[] from by apply Array.eq_empty_of_size_eq_zero;simp,hf']
   simp
  ·simp only [execOp,ho,Instr.buildSlice,Sem.run_bind,run_underlying ht,Result.andThen_ok,zQ hs,show ¬len*sz > 2 ^ 24 by omega,hl0,if_false,Sem.run_pure]
   have hf':Instr.fill (λj=>some (j*sz,sz)) ((Array.range (len*sz)).map λx=>zv.cells[x % zv.cells.size]!) (parts.toList.map λx=>(x.1,a.eval x.2))=some cs':=by
    rw [xbT] at hf;exact hf
   simp [zeroValue,typeInfo,h1,h2,newRow];rw [hf'];simp
 ·rw [r3];refine ⟨by rw [f2.trans hbs |> λh => (by simpa using h : cs'.toList.length = len * sz)], .inr ⟨w.heap.size, len, cs', rfl, xbk _, heap_alloc_new w _, xap _, ?_, by rw [f2, hbs], ?_⟩⟩
  ·have:len<=len*sz:=Nat.le_mul_of_pos_right _ h0;unfold maxLen;omega
  ·rw [xas (by simp [f2,hbs])]
 ·exact r1.mono (λ_ h=>h) (λb hbb=>Below.heap_alloc w _ b (h.blt b hbb))
 ·intro b hb;simp [Value.ownBlock] at hb;omega
 ·exact .row (zk _ _ _) (by rw [r3];exact xap _)
end
section
variable {X:Fx} {C:Ctx} {g:Nat->LV} {look:Nat->Option LObj} {tr:List (List PV)} {stop:Bool} {a:Act} {w:World} {P:Program} {o:Oper}
theorem zmW {v:PV} (hr:Reps w B us ((v.cells.drop off).take sz)) (hlen:off+sz<=v.cells.length) (hok:loadOk v off sz ag) :
  Rep w B (if ag then .agg us.toArray else (us[0]?).getD undef) (loadV v off sz ag):=by
 have hagg:Rep w B (.agg us.toArray) (.agg ((v.cells.drop off).take sz)):=.agg (by simpa using hr.1) λj u p hu hp=>hr.2 j u p (by simpa using hu) hp
 unfold loadV;unfold loadOk at hok
 by_cases hc:off=0/\v.cells.length=sz
 ·rw [if_pos hc] at hok ⊢;obtain ⟨rfl,rfl⟩:=hc;simp only [xbw,xah] at hr hagg;cases ag with
  | true=>
   cases v with
   | agg cs=>exact hagg
   | _=>cases hok
  | false=>
   have hv:v.cells=[v]:=by cases v<;>first|rfl|cases hok
   rw [hv] at hr;obtain ⟨u,rest,rfl,h1,_⟩:=hr.cons_inv;simpa using h1
 ·rw [if_neg hc] at hok ⊢;cases ag with
  | true=>exact hagg
  | false=>
   have hs:=hok.2 rfl;subst hs;have hd:(v.cells.drop off).take 1=[v.cells[off]'(by omega)]:=by
    rw [xaE (by omega)];rfl
   rw [hd] at hr;obtain ⟨u,rest,rfl,h1,_⟩:=hr.cons_inv;simp [xac (show off < v.cells.length by omega)]
   exact h1
theorem zgE {v:PV} (h:loadOk v off sz ag):off+sz<=v.cells.length:=by
 unfold loadOk at h
 split at h
 ·rename_i hc;omega
 ·exact h.1
theorem zhE {v:PV} (h:loadOk v off sz ag):ag=false->sz=1:=by
 unfold loadOk at h
 split at h
 ·rename_i hc;intro hag;subst hag;have hv:v.cells=[v]:=by cases v<;>first|rfl|cases h
  rw [hv] at hc;simp at hc;omega
 ·exact h.2
theorem zds (ho:o.op=.load t x) (hr:(Instr.loadAt t (a.eval x)).run P w=.ok v w):(execOp a.eval o).run P w=.ok (.value v) w:=by
 simp [execOp,ho,hr]
theorem ziB (h:RelC X C g look tr stop a w) {v:PV} (ho:o.op=.load t x) (hs:zX P t=some sz) (hag:zC P t=some ag) (hx:Rep w C.B (a.eval x) (.ip v off)) (hok:loadOk v off sz ag) :
  zt X g look tr stop a w P o (.ofP (loadV v off sz ag)):=by
 have hl:=zgE hok;have h1:=zhE hok;generalize hv:a.eval x=xv at hx;cases hx with
 | ip u hb hsp hc hu=>
  rename_i ad;have hr:Reps w C.B ((List.range sz).map u) ((v.cells.drop off).take sz):=⟨by simp;omega,λj y p hy hp=>by
   simp only [xal,xab] at hy;obtain ⟨j',hj',rfl⟩:=hy;have hjj:j'=j/\j < sz:=by
    have:=xaa.1 hj';obtain ⟨h2,h3⟩:=this;simp at h2 h3;exact ⟨h3.symm,h2⟩
   obtain ⟨rfl,hj⟩:=hjj;rw [xaQ,if_pos hj,xaY] at hp;exact hu j' p hp⟩
  refine zab h (zds ho ?_) (zmW hr hl hok);rw [hv];refine zcD hs hag _ (by simp) (λj y hy=>?_) h1
  simp only [xal,xab] at hy;obtain ⟨j',hj',rfl⟩:=hy;have hjj:j'=j/\j < sz:=by
   have:=xaa.1 hj';obtain ⟨h2,h3⟩:=this;simp at h2 h3;exact ⟨h3.symm,h2⟩
  obtain ⟨rfl,hj⟩:=hjj;exact hc j' _ (xac (by omega))
theorem zdA (h:RepsL w C look vs qs) (n:Nat):RepsL w C look (vs.take n) (qs.take n):=
 ⟨by simp [h.1],λj v p hv hp=>by
  simp only [xaQ] at hv hp
  split at hv
  ·rename_i hj;rw [if_pos hj] at hp;exact h.2 j v p hv hp
  ·cases hv⟩
theorem zdB (h:RepsL w C look vs qs) (n:Nat):RepsL w C look (vs.drop n) (qs.drop n):=
 ⟨by simp [h.1],λj v p hv hp=>by simp only [xaY] at hv hp;exact h.2 _ v p hv hp⟩
theorem zdk {ps:List LV} (h:RepsL w C look vs ps) (k:RepsL w C look us qs):RepsL w C look (vs++us) (ps++qs):=by
 refine ⟨by simp [h.1,k.1],λj v p hv hp=>?_⟩
 by_cases hj:j < vs.length
 ·rw [xaT hj] at hv;rw [xaT (by rw [<-h.1];exact hj)] at hp
  exact h.2 j v p hv hp
 ·rw [xaB (by omega)] at hv
  rw [xaB (by rw [<-h.1];omega)] at hp
  rw [<-h.1] at hp;exact k.2 _ v p hv hp
theorem zg3 (h:RelC X C g look tr stop a w) {k:Nat} {cs:List LV} (hk:look k=some (.box cs fz)) :
  ∃ arr ty,w.heap[C.ρ k]?=some (.cells arr ty (0,0))/\RepsL w C look arr.toList cs:=by
 obtain ⟨arr,ty,h1,h2,h3⟩:=h.obj k _ hk;exact ⟨arr,ty,h1,by simpa using h2,λj v q hv hq=>⟨h3 j v q (by simpa using hv) hq,h.objs k _ hk j q hq⟩⟩
theorem zmM (h:RepsL w C look us qs):RepL w C look (.agg us.toArray) (packL qs)/\LV.Sc look (packL qs):=by
 unfold packL
 split
 ·rename_i vs hvs;have:=zdN hvs;subst this;have hr:=zgo h;exact ⟨.p (.agg (by simpa using hr.1) λj u p hu hp=>hr.2 j u p (by simpa using hu) hp),.p _⟩
 ·exact ⟨.agg (by simpa using h.1) λj v p hv hp=>(h.2 j v p (by simpa using hv) hp).1,.agg λj q hq=>by
   have hj:j < us.length:=by rw [h.1];exact (xaa.1 hq).1
   exact (h.2 j _ q (xac hj) hq).2⟩
theorem ziA (h:RelC X C g look tr stop a w) {k:Nat} {ag fz:Bool} {cs:List LV} {rd:List Nat} (ho:o.op=.load t x) (hs:zX P t=some sz) (hag:zC P t=some ag) (hx:RepL w C look (a.eval x) (.lp k off))
  (hk:look k=some (.box cs fz)) (hl:off+sz<=cs.length) (h1:ag=false->sz=1) :
  zt X g look tr stop a w P o ⟨if ag then packL ((cs.drop off).take sz) else (cs[off]?).getD .any,none,false,rd⟩:=by
 obtain ⟨arr,ty,hg,hr⟩:=zg3 h hk;have hlen:=hr.1;have hr2:=zdA (zdB hr off) sz;generalize hv:a.eval x=xv at hx;cases hx;have hrun:(Instr.loadAt t (a.eval x)).run P w=.ok (if ag then .agg ((arr.toList.drop off).take sz).toArray else (((arr.toList.drop off).take sz)[0]?).getD undef) w:=by
  rw [hv];refine zcD hs hag _ (by simp at hlen ⊢;omega) (λj y hy=>?_) h1
  rw [xaQ] at hy
  split at hy
  ·rw [xaY] at hy;rw [Addr.add_lit0];simp only [World.cell?,hg];simpa using hy
  ·cases hy
 cases ag with
 | true=>
  obtain ⟨p1,p2⟩:=zmM hr2;exact zbX h (zds ho hrun) p1 p2
 | false=>
  have hs1:=h1 rfl;subst hs1;have e1:((arr.toList.drop off).take 1)[0]?=arr.toList[off]?:=by simp
  have e2:arr.toList[off]?=some (arr.toList[off]'(by simp at hlen ⊢;omega)):=xac _
  have e3:cs[off]?=some (cs[off]'(by omega)):=xac _
  obtain ⟨p1,p2⟩:=hr.2 off _ _ e2 e3;refine zbX h (v:=arr.toList[off]'(by simp at hlen ⊢;omega)) (zds ho ?_) ?_ ?_
  ·rw [hrun,e1,e2];rfl
  ·simp only [e3,xa7];exact p1
  ·simp only [e3,xa7];exact p2
theorem zjD (h:RelC X C g look tr stop a w) {k:Nat} (hk:look k=some (.row e sz xs fz)) {b:Nat} (hb:(C.cur k).ownBlock=some b) :
  ∃ arr cap,w.heap[b]?=some (.cells arr e (0,0))/\C.cur k=.slice (some ⟨b,0,none⟩) xs.length cap/\arr.size=cap*sz/\xs.length<=cap/\cap<=maxLen/\Reps w C.B (arr.toList.take (xs.length*sz)) (xs.flatMap PV.cells)/\(∀ x ∈ xs,x.cells.length=sz)/\0 < sz:=by
 obtain ⟨us,⟨hl,how⟩,hus,hx,h0⟩:=h.obj k _ hk
 rcases how with ⟨e1,_⟩|⟨g',cap,cur,e1,_,e2,e3,e4,e5,e6⟩
 ·rw [e1] at hb;cases hb
 ·rw [e1] at hb;simp [Value.ownBlock] at hb;subst hb;exact ⟨cur,cap,e2,e1,e5,e3,e4,by rw [e6];exact hus,hx,h0⟩
theorem zkb (hx:∀ x ∈ xs,x.cells.length=sz) {i:Nat} {x:PV} (hi:xs[i]?=some x) (hn:off+n<=sz):((xs.flatMap PV.cells).drop (i*sz+off)).take n=(x.cells.drop off).take n:=by
 apply xco
 intro j;simp only [xaQ,xaY]
 split
 ·rw [xbA];exact zc4 hx i x (off+j) hi (by omega)
 ·rfl
theorem ziC (h:RelC X C g look tr stop a w) {k i:Nat} {ag fz:Bool} {e:TypeId} {esz:Nat} {xs:List PV} {rd:List Nat} (ho:o.op=.load t x) (hs:zX P t=some sz) (hag:zC P t=some ag) (hx:RepL w C look (a.eval x) (.ep k n i off))
  (hk:look k=some (.row e esz xs fz)) (hn:n=xs.length) (hi:i < xs.length) (hok:loadOk ((xs[i]?).getD .any) off sz ag) :
  zt X g look tr stop a w P o ⟨.p (loadV ((xs[i]?).getD .any) off sz ag),none,false,rd⟩:=by
 have hxi:xs[i]?=some xs[i]:=xac hi;rw [hxi] at hok ⊢;simp only [xa7] at hok ⊢;generalize hv:a.eval x=xv at hx;cases hx with
 | ep hq=>
  obtain ⟨b,hb,hxv⟩:=hq _ _ _ _ hk hn.symm;obtain ⟨arr,cap,hg,_,e5,_,_,hr,hxs,h0⟩:=zjD h hk hb;have hfit:=zgE hok;have hxl:xs[i].cells.length=esz:=hxs _ (xcg hi);have hbound:i*esz+off+sz<=xs.length*esz:=by
   have:(i+1)*esz<=xs.length*esz:=xba _ hi;rw [xb0] at this;omega
  have hr2:=zcc (zcd hr (i*esz+off)) sz;rw [zkb hxs hxi (by omega)] at hr2
  have hlen:=hr.1;rw [zdI hxs] at hlen;refine ⟨_,w,C,.inl (zds ho ?_),h,.p (zmW hr2 hfit hok),.p _⟩;rw [hv,hxv];refine zcD hs hag _ (by simp only [xan,xav,hlen];omega) (λj y hy=>?_) (zhE hok)
  rw [xaQ] at hy
  split at hy
  ·rename_i hj;rw [xaY,xaQ,if_pos (by omega)] at hy
   rw [Addr.add_lit0];simp only [World.cell?,hg];simpa using hy
  ·cases hy
theorem zhM (ho:o.op=.store t x y) (hr:(Instr.storeAt t (a.eval x) (a.eval y)).run P w=.ok () w'):(execOp a.eval o).run P w=.ok .skip w':=by
 simp [execOp,ho,hr]
theorem znE (h:RepsL w C look vs qs) (k:RepsL w C look us rs) (hl:off+us.length<=vs.length) :
  RepsL w C look (vs.take off++us++vs.drop (off+us.length)) (updL qs off rs):=by
 have e1:=h.1;have e2:=k.1;rw [zge _ _ _ (by omega),<-e2]
 exact zdk (zdk (zdA h off) k) (zdB h _)
theorem zkZ {look':Nat->Option LObj} (hB:∀ b,C.B b->C'.B b) (hy:C'.y=C.y) (hw:∀ b,C.B b->w'.heap[b]?=w.heap[b]?)
  (hρ:∀ k o,look k=some o->C'.ρ k=C.ρ k)
  (hr:∀ k e sz xs fz,look k=some (.row e sz xs fz)->∃ xs' fz',look' k=some (.row e sz xs' fz')/\(xs'.length=xs.length->C'.cur k=C.cur k)/\xs.length<=xs'.length)
  (hf:∀ k x,look k=some x->∃ x',look' k=some x'/\x.Follows x') {vs:List Value} {qs:List LV} (h:RepsL w C look vs qs):RepsL w' C' look' vs qs:=
 ⟨h.1,λj v q hv hq=>⟨(h.2 j v q hv hq).1.same hB hy hw hρ hr (h.2 j v q hv hq).2,(h.2 j v q hv hq).2.follows hf⟩⟩
theorem zhf (h:RelC X C g look tr stop a w) {k:Nat} {cs:List LV} {q:LV} {rd:List Nat} (ho:o.op=.store t x y) (hs:zX P t=some sz) (hx:RepL w C look (a.eval x) (.lp k off))
  (hk:look k=some (.box cs false)) (hq:RepsL w C look (a.eval y).cells.toList q.cells) (hl:off+sz<=cs.length) (hqs:q.cells.length=sz) (h1:oneL look q.cells) :
  zt X g look tr stop a w P o ⟨.any,some (k,.box (updL cs off q.cells) false),false,rd⟩:=by
 obtain ⟨arr,ty,hg,hr⟩:=zg3 h hk;have hlen:=hr.1;have hql:=hq.1;simp at hlen hql;have hone:=zmN hq h1 h.obj;generalize hv:a.eval x=xv at hx;cases hx;have hrun:=zgl (P:=P) (w:=w) (v:=a.eval y) hs hg (by omega) (show off+sz<=arr.size by omega) hone
 have hgr:=zcz w (C.ρ k) (arr.toList.take off++(a.eval y).cells.toList++arr.toList.drop (off+sz)).toArray (blk C k (.box cs false)) rfl;have hcell:=znE hr hq (off:=off) (by simp;omega)
 have hf:=zd7 (o':=.box (updL cs off q.cells) false) hk trivial;have hrow:∀ k' e sz xs fz,look k'=some (.row e sz xs fz)->∃ xs' fz',upd look k (some (.box (updL cs off q.cells) false)) k'=some (.row e sz xs' fz')/\(xs'.length=xs.length->C.cur k'=C.cur k')/\xs.length<=xs'.length:=λk' e sz xs fz hk'=>
  ⟨xs,fz,by rw [zA _ _ (by rintro rfl;rw [hk] at hk';cases hk')];exact hk',λ_=>rfl,xap _⟩
 have hrd:∀ b,C.B b->(w.setRow (C.ρ k) (arr.toList.take off++(a.eval y).cells.toList++arr.toList.drop (off+sz)).toArray).heap[b]?=w.heap[b]?:=λb hb=>
  hgr.block b (h.blt b hb) (λe=>(h.sep k _ b hk e.symm).2.2.1 rfl hb)
 have hcell':=zkZ (C':=C) (λ_ h=>h) rfl hrd (λ_ _ _=>rfl) hrow hf hcell
 refine ⟨undef,_,C,.inr ⟨zhM ho (by rw [hv];exact hrun),rfl⟩,?_,.any _,.any⟩
 refine h.modify hk trivial rfl rfl rfl rfl rfl rfl rfl rfl (λ_ _=>rfl) (λ_ _ _ _ _ _ e=>by cases e) hgr ?_ ?_ (λb hb=>.inl hb)
 ·refine ⟨_,ty,setRow_heap w _ arr _ ty _ hg,?_,λj v q' hv' hq'=>(hcell'.2 j v q' ?_ hq').1⟩
  ·simpa [<-(show (a.eval y).cells.size=sz by omega)] using hcell'.1
  ·have:(a.eval y).cells.toList.length=sz:=by simp;omega
   rw [this];simpa using hv'
 ·intro j q' hq';have hj:j < (arr.toList.take off++(a.eval y).cells.toList++arr.toList.drop (off+(a.eval y).cells.toList.length)).length:=by rw [hcell'.1];exact (xaa.1 hq').1
  exact (hcell'.2 j _ q' (xac hj) hq').2
theorem zhg (h:RelC X C g look tr stop a w) {k i:Nat} {e:TypeId} {esz:Nat} {xs:List PV} {v:PV} {rd:List Nat} (ho:o.op=.store t x y) (hs:zX P t=some sz) (hx:RepL w C look (a.eval x) (.ep k n i off))
  (hk:look k=some (.row e esz xs false)) (hn:n=xs.length) (hi:i < xs.length) (hy:Rep w C.B (a.eval y) v) (hvs:v.cells.length=sz) (hl:off+sz<=esz) (h1:oneL look (v.cells.map .p)) :
  zt X g look tr stop a w P o ⟨.any,some (k,.row e esz (xs.set i (if off=0/\sz=esz then v else .agg (updL ((xs[i]?).getD .any).cells off v.cells))) false),false,rd⟩:=by
 have hxi:xs[i]?=some xs[i]:=xac hi;rw [hxi];simp only [xa7];generalize hv:a.eval x=xv at hx;cases hx with
 | ep hq=>
  obtain ⟨b,hb,hxv⟩:=hq _ _ _ _ hk hn.symm;obtain ⟨arr,cap,hg,hcur,e5,e3,e4,hr,hxs,h0⟩:=zjD h hk hb;have hxl:xs[i].cells.length=esz:=hxs _ (xcg hi);have hany:v.isAny=false:=by
   cases v<;>first|rfl|(simp [PV.cells,oneL,PV.one] at h1)
  have hyc:=zZ hy hany;have hyl:(a.eval y).cells.size=sz:=by have:=hyc.1;simp at this;omega
  have hone:=zmN (RepsL.of_reps (C:=C) (look:=look) hyc) h1 h.obj;have hbound:i*esz+off+sz<=xs.length*esz:=by
   have:(i+1)*esz<=xs.length*esz:=xba _ hi;rw [xb0] at this;omega
  have hcap:xs.length*esz<=cap*esz:=xba _ e3;have hrun:=zgl (P:=P) (w:=w) (v:=a.eval y) (off:=i*esz+off) hs hg hyl (by omega) hone
  let nv:PV:=if off=0/\sz=esz then v else .agg (updL xs[i].cells off v.cells)
  have hnvc:nv.cells=updL xs[i].cells off v.cells:=by
   show PV.cells (if off=0/\sz=esz then v else .agg (updL xs[i].cells off v.cells))=_
   split
   ·rename_i hc;obtain ⟨rfl,rfl⟩:=hc;rw [zge _ _ _ (by omega)]
    simp [hvs,<-hxl]
   ·rfl
  have hnvl:nv.cells.length=esz:=by rw [hnvc,zgd _ _ _ (by omega),hxl]
  have hgr:=zcz w b (arr.toList.take (i*esz+off)++(a.eval y).cells.toList++arr.toList.drop (i*esz+off+sz)).toArray (blk C k (.row e esz xs false)) (by simp [blk,hb])
  have hflat:(xs.set i nv).flatMap PV.cells=(xs.flatMap PV.cells).take (i*esz+off)++v.cells++(xs.flatMap PV.cells).drop (i*esz+off+sz):=by
   rw [ziW hxs i nv hi hnvl,hnvc,zge _ _ _ (by omega)]
   have hF:xs.flatMap PV.cells=(xs.flatMap PV.cells).take (i*esz)++(xs[i].cells++(xs.flatMap PV.cells).drop (i*esz+esz)):=by
    have hel:xs[i].cells=((xs.flatMap PV.cells).drop (i*esz)).take esz:=by
     have:=zkb hxs (off:=0) (n:=esz) hxi (by omega)
     rw [xbt] at this;rw [this];simp [<-hxl]
    rw [hel,<-xbP,xaq,xaq]
   have hp1:((xs.flatMap PV.cells).take (i*esz)).length=i*esz:=by rw [xan,zdI hxs];omega
   rw [hvs];generalize (xs.flatMap PV.cells).take (i*esz)=p1 at hF hp1 ⊢;generalize (xs.flatMap PV.cells).drop (i*esz+esz)=p2 at hF ⊢;rw [hF,<-hp1,xbA,List.take_length_add_append,List.drop_length_add_append,List.take_append_of_le_length (by omega),List.drop_append_of_le_length (by omega)]
   simp only [xak]
  have hw':∀ c,C.B c->(w.setRow b (arr.toList.take (i*esz+off)++(a.eval y).cells.toList++arr.toList.drop (i*esz+off+sz)).toArray).heap[c]?=w.heap[c]?:=λc hc=>
   hgr.block c (h.blt c hc) (λe'=>(h.sep k _ c hk e'.symm).2.2.1 rfl hc)
  have hlen:=hr.1;rw [zdI hxs] at hlen;simp at hlen;refine ⟨undef,_,C,.inr ⟨zhM ho (by rw [hv,hxv];exact hrun),rfl⟩,?_,.any _,.any⟩
  refine h.modify hk ⟨rfl,rfl,by simp⟩ rfl rfl rfl rfl rfl rfl rfl rfl (λ_ _=>rfl) (λ_ _ _ _ _ _ _ _ _=>rfl) hgr ?_ trivial (λc hc=>.inl hc)
  refine ⟨arr.toList.take (i*esz+off)++(a.eval y).cells.toList++(arr.toList.take (xs.length*esz)).drop (i*esz+off+sz),⟨?_,.inr ⟨b,cap,_,?_,xbk _,setRow_heap w b arr _ e _ hg,?_,e4,?_,?_⟩⟩,?_,?_,h0⟩
  ·simp [hyl];omega
  ·simpa using hcur
  ·simpa using e3
  ·simp [hyl];omega
  ·simp only [xbQ];have l1:(List.take (i*esz+off) arr.toList++(a.eval y).cells.toList).length=i*esz+off+sz:=by simp;omega
   rw [List.toList_toArray,List.take_append,xas (by rw [l1];omega),l1,List.drop_take]
  ·have:=(zcc hr (i*esz+off)).append (hyc.append (zcd hr (i*esz+off+sz)));rw [List.take_take,xcb (by omega),<-xak,<-xak] at this
   show Reps _ C.B _ ((xs.set i nv).flatMap PV.cells);rw [hflat];exact this.mono (λ_ h=>h) hw'
  ·intro z hz
   rcases List.mem_or_eq_of_mem_set hz with hm|rfl
   ·exact hxs z hm
   ·exact hnvl
end
def IntKind.lo:IntKind->Int
 | .i8=>-128|.i16=>-32768|.i32=>-2147483648|.i64=>-9223372036854775808|_=>0
def IntKind.hi:IntKind->Int
 | .i8=>127|.i16=>32767|.i32=>2147483647|.i64=>9223372036854775807|.u8=>255|.u16=>65535|.u32=>4294967295|.u64=>18446744073709551615
theorem zbl (k:IntKind) (n:Int):k.wrap n=n↔IntKind.lo k<=n/\n<=IntKind.hi k:=by
 cases k<;>simp only [IntKind.wrap,IntKind.bits,IntKind.signed,IntKind.lo,IntKind.hi,xaZ,xa4,xaD,if_false,decide_eq_true_eq,ge_iff_le]<;>first|omega|(split<;>omega)
theorem zw3 (k:IntKind) (n:Int):IntKind.lo k<=k.wrap n/\k.wrap n<=IntKind.hi k:=by
 cases k<;>simp only [IntKind.wrap,IntKind.bits,IntKind.signed,IntKind.lo,IntKind.hi,xaZ,xa4,xaD,if_false,decide_eq_true_eq,ge_iff_le]<;>first|omega|(split<;>omega)
theorem zaM (k:IntKind) (n:Int):k.wrap (k.wrap n)=k.wrap n:=(zbl k _).2 (zw3 k n)
theorem lo_le (k:IntKind):IntKind.lo k<=0:=by cases k<;>decide
theorem hi_ge (k:IntKind):0<=IntKind.hi k:=by cases k<;>decide
theorem zfm {x y:Int} (hx:k.wrap x=x) (h:(0<=y/\y<=x)\/(x<=y/\y<=0)):k.wrap y=y:=by
 have:=(zbl k x).1 hx;have h1:=lo_le k;have h2:=hi_ge k;exact (zbl k y).2 (by omega)
theorem zju (x y:Int):(0<=x.tmod y/\x.tmod y<=x)\/(x<=x.tmod y/\x.tmod y<=0):=by
 have h0:=Int.natAbs_tmod x y;have h1:x.natAbs % y.natAbs<=x.natAbs:=Nat.mod_le _ _
 rcases Int.le_total 0 x with h|h
 ·have:=Int.tmod_nonneg (a:=x) y h
  omega
 ·have h2:=Int.tmod_nonneg (a:=-x) y (by omega)
  rw [Int.neg_tmod] at h2
  omega
theorem zke (x:Int) (m:Nat):(0<=x.fdiv (2 ^ m)/\x.fdiv (2 ^ m)<=x)\/(x<=x.fdiv (2 ^ m)/\x.fdiv (2 ^ m)<=0):=by
 have hp:(0:Int) < 2 ^ m:=Int.pow_pos (by decide)
 rw [Int.fdiv_eq_ediv_of_nonneg _ (Int.le_of_lt hp)];generalize (2:Int) ^ m=d at hp
 rcases Int.le_total 0 x with h|h
 ·exact .inl ⟨xbh h (Int.le_of_lt hp),xbr _ h⟩
 ·refine .inr ⟨?_,?_⟩
  ·have h3:x*d<=x:=by
    have h4:x*(d - 1)<=0:=Int.mul_nonpos_of_nonpos_of_nonneg h (by omega)
    rw [Int.mul_sub,Int.mul_one] at h4
    omega
   exact (Int.le_ediv_iff_mul_le hp).2 h3
  ·exact Int.le_of_lt_add_one (Int.ediv_lt_of_lt_mul hp (by omega))
theorem zcu (x y:ByteArray):(x.toList == y.toList)=decide (x=y):=by
 rw [ByteArray.toList_eq,ByteArray.toList_eq]
 by_cases h:x=y
 ·subst h;simp
 ·simp only [h,decide_false,beq_eq_false_iff_ne];intro e
  apply h
  cases x;cases y;simp at e;congr
section
variable {X:Fx} {C:Ctx} {g:Nat->LV} {look:Nat->Option LObj} {tr:List (List PV)} {stop:Bool} {a:Act} {w:World} {P:Program} {o:Oper}
theorem max64:IntKind.i64.max=9223372036854775807:=by decide
theorem zoX {t:TypeId} {x y:Value} {q:PV} {pre:Prop} (hx:Rep w B x p) (hy:Rep w B y q) (h:zCq op p q=some (pre,r)) (hpre:pre) :
  ∃ v,(binOp op t x y).run P w=.ok v w/\Rep w B v r:=by
 cases hx<;>cases hy<;>simp only [zCq] at h<;>try (cases h;done)
 case i.i k n hk k' n' hk'=>
  cases op<;>simp only [xaK,xcf] at h<;>obtain ⟨rfl,rfl⟩:=h
  case shl=>exact ⟨_,by simp only [binOp,Op.shift];rw [if_neg (by omega)];rfl,.i (zaM _ _)⟩
  case shr=>exact ⟨_,by simp only [binOp,Op.shift];rw [if_neg (by omega)];rfl,.i (zfm hk (zke _ _))⟩
  case quo=>obtain ⟨rfl,h0⟩:=hpre;exact ⟨_,by simp [binOp,Op.intDiv,h0],.i (zaM _ _)⟩
  case rem=>obtain ⟨rfl,h0⟩:=hpre;exact ⟨_,by simp [binOp,Op.intDiv,h0],.i (zfm hk (zju _ _))⟩
  all_goals subst hpre
  case add=>exact ⟨_,by simp [binOp,Op.intArith],.i (zaM _ _)⟩
  case sub=>exact ⟨_,by simp [binOp,Op.intArith],.i (zaM _ _)⟩
  case mul=>exact ⟨_,by simp [binOp,Op.intArith],.i (zaM _ _)⟩
  case and=>exact ⟨_,by simp [binOp,intBits_and],.i (zaM _ _)⟩
  case or=>exact ⟨_,by simp [binOp,intBits_or],.i (zaM _ _)⟩
  case xor=>exact ⟨_,by simp [binOp,intBits_xor],.i (zaM _ _)⟩
  case andNot=>exact ⟨_,by simp [binOp,intBits_andNot],.i (zaM _ _)⟩
  case eql=>exact ⟨.bool (decide (n=n')),by simp [binOp,Op.intCmp];exact xbG.2 (by simp),.b _⟩
  case neq=>exact ⟨.bool (!decide (n=n')),by simp [binOp,Op.intCmp];exact xbG.2 (by simp),.b _⟩
  case lss=>exact ⟨_,by simp [binOp,Op.intCmp],.b _⟩
  case leq=>exact ⟨_,by simp [binOp,Op.intCmp],.b _⟩
  case gtr=>exact ⟨_,by simp [binOp,Op.intCmp],.b _⟩
  case geq=>exact ⟨_,by simp [binOp,Op.intCmp],.b _⟩
 case s.s x hx y hy=>
  cases op<;>simp only [xaK,xcf] at h<;>try (cases h;done)
  all_goals obtain ⟨rfl,rfl⟩:=h
  case add=>
   refine ⟨.string (x++y),?_,.s (by rw [ByteArray.size_append];exact hpre)⟩
   have:¬((x.size+y.size:Nat):Int) > IntKind.i64.max:=by rw [max64];unfold maxLen at hpre;omega
   simp only [binOp,Op.stringOp,if_neg this,Sem.run_pure]
  case eql=>exact ⟨_,by simp only [binOp,Op.stringOp,Sem.run_pure,zcu],.b _⟩
  case neq=>exact ⟨_,by simp only [binOp,Op.stringOp,Sem.run_pure,zcu],.b _⟩
  case lss=>exact ⟨_,by simp only [binOp,Op.stringOp,Sem.run_pure],.b _⟩
  case leq=>exact ⟨_,by simp only [binOp,Op.stringOp,Sem.run_pure,zcu],.b _⟩
  case gtr=>exact ⟨_,by simp only [binOp,Op.stringOp,Sem.run_pure,zcu],.b _⟩
  case geq=>exact ⟨_,by simp only [binOp,Op.stringOp,Sem.run_pure],.b _⟩
theorem zc5 (hu:(match u with|.nilIface|.agg _=>false|_=>true)=true):(eqGuard op t x y u v).run P w=.ok () w:=by
 cases u<;>first|(simp at hu;done)|(simp only [eqGuard];split<;>rfl)
end
section
variable {w:World} {P:Program} {B:Nat->Prop}
theorem zdY:∀ {ks:List Nat} {xs ys:List PV} (us vs:List PV),eqCellsOk ks xs ys->eqCells (xs++us) (ys++vs)=(eqCells xs ys && eqCells us vs)
 | [],[],[],us,vs,_=>by simp [eqCells]
 | _::_,x::xs,y::ys,us,vs,h=>by simp only [xaM,eqCells,zdY us vs h.2,Bool.and_assoc]
 | [],[],_::_,_,_,h|[],_::_,[],_,_,h|[],_::_,_::_,_,_,h|_::_,[],[],_,_,h|_::_,[],_::_,_,_,h|_::_,_::_,[],_,_,h=>h.elim
theorem zak:∀ {ks:List Nat} {xs ys:List PV},eqCellsOk ks xs ys->xs.length=ks.length/\ys.length=ks.length
 | [],[],[],_=>⟨rfl,rfl⟩
 | _::_,x::xs,y::ys,h=>by simp [zak h.2]
 | [],[],_::_,h|[],_::_,[],h|[],_::_,_::_,h|_::_,[],[],h|_::_,[],_::_,h|_::_,_::_,[],h=>h.elim
theorem zb1:∀ {ks ls:List Nat} {xs ys:List PV},eqCellsOk (ks++ls) xs ys->eqCellsOk ks (xs.take ks.length) (ys.take ks.length)/\eqCellsOk ls (xs.drop ks.length) (ys.drop ks.length)
 | [],ls,xs,ys,h=>by simp [eqCellsOk];exact h
 | k::ks,ls,x::xs,y::ys,h=>by
  obtain ⟨h1,h2⟩:=zb1 (ks:=ks) h.2;simp only [xaz,xa3,xbz];exact ⟨⟨h.1,h1⟩,h2⟩
 | k::ks,ls,[],[],h|k::ks,ls,[],_::_,h|k::ks,ls,_::_,[],h=>h.elim
theorem zeL {ls:List Nat} {ys:List PV} (h:eqCellsOk (ks++ls) xs ys):eqCells xs ys=(eqCells (xs.take ks.length) (ys.take ks.length) && eqCells (xs.drop ks.length) (ys.drop ks.length)):=by
 have:=zdY (xs.drop ks.length) (ys.drop ks.length) (zb1 h).1
 rwa [xaq,xaq] at this
theorem zu1 {q:PV} (h:eqOk n p q):p.isAgg=false/\q.isAgg=false:=by
 unfold eqOk at h
 split at h<;>first|exact ⟨rfl,rfl⟩|exact h.elim
theorem zbV:∀ {ks:List Nat} {xs ys:List PV},eqCellsOk ks xs ys->(∀ x ∈ xs,x.isAgg=false)/\(∀ y ∈ ys,y.isAgg=false)
 | [],[],[],_=>⟨λ_ h=>(by cases h),λ_ h=>(by cases h)⟩
 | _::_,x::xs,y::ys,h=>by
  obtain ⟨h1,h2⟩:=zbV h.2;obtain ⟨e1,e2⟩:=zu1 h.1;refine ⟨λz hz=>?_,λz hz=>?_⟩
  ·rcases xaI.1 hz with rfl|hz
   ·exact e1
   ·exact h1 z hz
  ·rcases xaI.1 hz with rfl|hz
   ·exact e2
   ·exact h2 z hz
 | [],[],_::_,h|[],_::_,[],h|[],_::_,_::_,h|_::_,[],[],h|_::_,[],_::_,h|_::_,_::_,[],h=>h.elim
theorem zfV (hs:zX P t=some sz) (hag:zC P t=some ag) (h1:ag=false->sz=1) (hr:Reps w B cs.toList ps) (hfit:off+sz<=ps.length)
  (hsc:∀ x ∈ ps,x.isAgg=false) :
  ∃ v p,(part t cs off).run P w=.ok v w/\Rep w B v p/\p.cells=(ps.drop off).take sz/\p.isAgg=ag:=by
 have hl:=hr.1;simp at hl;have hrun:=zeo (P:=P) (w:=w) (cs:=cs) (off:=off) hs hag (λh=>by have:=h1 h;omega)
 cases ag with
 | true=>
  rw [if_pos rfl] at hrun;refine ⟨_,.agg ((ps.drop off).take sz),hrun,?_,rfl,rfl⟩;have h2:=zcc (zcd hr off) sz;refine .agg (by simp;omega) λj v p hv hp=>h2.2 j v p ?_ hp
  rw [Array.getElem?_extract] at hv
  split at hv
  ·rename_i hj;rw [xaQ,if_pos (by omega),xaY]
   simpa using hv
  ·cases hv
 | false=>
  have:=h1 rfl;subst this;have e1:ps[off]?=some ps[off]:=xac (by omega)
  have e2:cs[off]?=some cs[off]:=xai (by omega)
  refine ⟨cs[off],ps[off],by rw [hrun,e2];rfl,hr.2 off _ _ (by simpa using e2) e1,?_,hsc _ (xcg _)⟩
  have hns:=hsc _ (xcg (show off < ps.length by omega))
  rw [xaE (by omega),xa3,xbb]
  generalize ps[off]=p at hns;cases p<;>first|rfl|cases hns
def zsr (P:Program) (w:World) (B:Nat->Prop) (d:Nat) (t:TypeId) (ks:List Nat):Prop:=
 ∃ ag,0 < ks.length/\zX P t=some ks.length/\zC P t=some ag/\(ag=false->ks.length=1)/\∀ (x y:Value) (p q:PV),Rep w B x p->Rep w B y q->p.isAgg=ag->q.isAgg=ag ->
  eqCellsOk ks p.cells q.cells->(Op.equalIn d t x y).run P w=.ok (eqCells p.cells q.cells) w
theorem zfu (d:Nat) (F:TypeId→Option (List Nat)) (hF:∀ t ks,F t=some ks→zsr P w B d t ks) (cs ds:Array Value) (ps qs:List PV) (hp:Reps w B cs.toList ps) (hq:Reps w B ds.toList qs)
  (sc1:∀ x ∈ ps,x.isAgg=false) (sc2:∀ x ∈ qs,x.isAgg=false) :
  ∀ (fs:List Field) (k:Nat) (ks:List Nat),zca P F fs k=some ks→eqCellsOk ks (ps.drop k) (qs.drop k) →
   (Op.eqFields d cs ds fs).run P w=.ok (eqCells (ps.drop k) (qs.drop k)) w
 | [],k,ks,h,hok=>by
  simp [zca] at h;subst h
  obtain ⟨h1,h2⟩:=zak hok
  rw [xay h1,xay h2]
  simp [Op.eqFields,eqCells]
 | f::fs,k,ks,h,hok=>by
  simp only [zca] at h
  by_cases hc : f.name ≠ "_" ∧ f.offset = k
  ·rw [if_pos hc] at h
   split at h
   ·rename_i ks1 hk1
    obtain ⟨ks2,hk2,rfl⟩:=xab.1 h
    obtain ⟨ag,hpos,h1,h2,h3,h4⟩:=hF _ _ hk1
    obtain ⟨c1,c2⟩:=zb1 hok
    obtain ⟨l1,l2⟩:=zak hok
    simp at l1 l2
    obtain ⟨u,p,r1,r2,r3,r4⟩:=zfV (cs:=cs) (off:=f.offset) h1 h2 h3 hp (by omega) sc1
    obtain ⟨v,q,t1,t2,t3,t4⟩:=zfV (cs:=ds) (off:=f.offset) h1 h2 h3 hq (by omega) sc2
    have hrun:=h4 u v p q r2 t2 r4 t4 (by rw [r3,t3,hc.2];exact c1)
    rw [xbP,xbP] at c2
    have hrest:=zfu d F hF cs ds ps qs hp hq sc1 sc2 fs (k+ks1.length) ks2 hk2 c2
    rw [zeL hok,xbP,xbP]
    simp only [Op.eqFields,if_pos hc.1,Sem.run_bind,r1,t1,hrun,Result.andThen_ok]
    rw [r3,t3,hc.2]
    cases eqCells ((ps.drop k).take ks1.length) ((qs.drop k).take ks1.length) with
    | true=>simpa using hrest
    | false=>simp
   ·cases h
  ·rw [if_neg hc] at h;cases h
theorem zgI (d e:Nat) (ks:List Nat) (ag:Bool) (cs ds:Array Value) (ps qs:List PV) (h0:0 < ks.length) (hs:zX P e=some ks.length) (hag:zC P e=some ag) (h1:ag=false->ks.length=1) (hp:Reps w B cs.toList ps) (hq:Reps w B ds.toList qs)
  (sc1:∀ x ∈ ps,x.isAgg=false) (sc2:∀ x ∈ qs,x.isAgg=false)
  (he:∀ (x y:Value) (p q:PV),Rep w B x p->Rep w B y q->p.isAgg=ag->q.isAgg=ag->eqCellsOk ks p.cells q.cells->(Op.equalIn d e x y).run P w=.ok (eqCells p.cells q.cells) w) :
  ∀ (n k:Nat),eqCellsOk (List.replicate n ks).flatten (ps.drop (k*ks.length)) (qs.drop (k*ks.length)) ->
   (Op.eqItems d e ks.length cs ds (List.range' k n)).run P w=.ok (eqCells (ps.drop (k*ks.length)) (qs.drop (k*ks.length))) w
 | 0,k,hok=>by
  have hl:=zak hok;have z1:ps.drop (k*ks.length)=[]:=xay (by simpa using hl.1)
  have z2:qs.drop (k*ks.length)=[]:=xay (by simpa using hl.2)
  rw [z1,z2];simp [Op.eqItems,eqCells]
 | n+1,k,hok=>by
  simp only [List.replicate_succ,List.flatten_cons] at hok;obtain ⟨c1,c2⟩:=zb1 hok;obtain ⟨l1,l2⟩:=zak c1;simp only [xan,xav] at l1 l2;rw [zeL hok];rw [xbP,xbP] at c2 ⊢;have e1:k*ks.length+ks.length=(k+1)*ks.length:=by rw [xb0];omega
  rw [e1] at c2 ⊢;have ih:=zgI d e ks ag cs ds ps qs h0 hs hag h1 hp hq sc1 sc2 he n (k+1) c2;obtain ⟨u,p,r1,r2,r3,r4⟩:=zfV (cs:=cs) (off:=k*ks.length) hs hag h1 hp (by omega) sc1
  obtain ⟨v,q,t1,t2,t3,t4⟩:=zfV (cs:=ds) (off:=k*ks.length) hs hag h1 hq (by omega) sc2
  have hrun:=he u v p q r2 t2 r4 t4 (by rw [r3,t3];exact c1)
  simp only [List.range'_succ,Op.eqItems,Sem.run_bind,r1,t1,hrun,Result.andThen_ok];rw [r3,t3];cases eqCells ((ps.drop (k*ks.length)).take ks.length) ((qs.drop (k*ks.length)).take ks.length) with
  | true=>simpa using ih
  | false=>simp
theorem zbH:∀ (n:Nat) (t:TypeId) (ks:List Nat),flatK P n t=some ks->∀ d,n<=d->zsr P w B d t ks
 | 0,_,_,h,_,_=>by simp [flatK] at h
 | n+1,t,ks,h,d,hd=>by
  obtain ⟨d,rfl⟩:∃ d',d=d'+1:=⟨d - 1,by omega⟩
  simp only [flatK,xao] at h;obtain ⟨ks',h,hif⟩:=h;have hsz:(zX P t=some ks.length/\0 < ks.length)/\ks'=ks:=by
   by_cases hc:zX P t=some ks'.length/\0 < ks'.length
   ·rw [if_pos hc] at hif;injection hif with hif;subst hif;exact ⟨hc,rfl⟩
   ·rw [if_neg hc] at hif;cases hif
  obtain ⟨⟨hsz,hpos⟩,rfl⟩:=hsz
  split at h
  ·rename_i ht;injection h with h;subst h;refine ⟨false,hpos,hsz,by simp [zC,ht],λ_=>rfl,λx y p q hx hy ha hb hok=>?_⟩
   cases p<;>cases q<;>simp [PV.cells,eqCellsOk,eqOk,PV.isAgg] at hok ha hb
   cases hx;cases hy;simp [Op.equalIn,run_underlying ht,eqCells,eqPV,PV.cells];exact xbG.2 (by simp)
  ·rename_i ht;injection h with h;subst h;refine ⟨false,hpos,hsz,by simp [zC,ht],λ_=>rfl,λx y p q hx hy ha hb hok=>?_⟩
   cases p<;>cases q<;>simp [PV.cells,eqCellsOk,eqOk,PV.isAgg] at hok ha hb
   cases hx;cases hy;simp [Op.equalIn,run_underlying ht,eqCells,eqPV,PV.cells,hok];exact xbG.2 (by simp)
  ·rename_i ht;injection h with h;subst h;refine ⟨false,hpos,hsz,by simp [zC,ht],λ_=>rfl,λx y p q hx hy ha hb hok=>?_⟩
   cases p<;>cases q<;>simp [PV.cells,eqCellsOk,eqOk,PV.isAgg] at hok ha hb
   cases hx;cases hy;simp [Op.equalIn,run_underlying ht,eqCells,eqPV,PV.cells];rw [beq_toListBytes,zcu]
  ·rename_i fs ht
   by_cases hst:P.stoodInHeld t=false
   ·rw [if_pos hst] at h;refine ⟨true,hpos,hsz,by simp [zC,ht],λh=>(by cases h),λx y p q hx hy ha hb hok=>?_⟩
    cases p<;>simp [PV.isAgg] at ha
    cases q<;>simp [PV.isAgg] at hb
    rename_i ps qs;cases hx with
    | @agg cs _ hc1 hc2=>
     cases hy with
     | @agg ds _ hd1 hd2=>
      have hfo:P.fieldsOf t=fs:=by simp [Program.fieldsOf,ht]
      rw [run_equalIn_struct w d t cs ds (by rw [hfo];exact ht) hst,hfo]
      simp only [PV.cells] at hok ⊢;obtain ⟨sc1,sc2⟩:=zbV hok;have:=zfu d (flatK P n) (λt' ks' hk=>zbH n t' ks' hk d (by omega)) cs ds ps qs ⟨by simpa using hc1,λj v p hv hp=>hc2 j v p (by simpa using hv) hp⟩ ⟨by simpa using hd1,λj v p hv hp=>hd2 j v p (by simpa using hv) hp⟩
       sc1 sc2 fs.toList 0 ks' h (by simpa using hok)
      simpa using this
   ·rw [if_neg hst] at h;cases h
  ·rename_i k e ht;obtain ⟨ke,hke,rfl⟩:=xab.1 h;obtain ⟨ag,f1,f2,f3,f4,f5⟩:=zbH n e ke hke d (by omega)
   refine ⟨true,hpos,hsz,by simp [zC,ht],λh=>(by cases h),λx y p q hx hy ha hb hok=>?_⟩
   obtain ⟨ie,hie⟩:=zek f2;cases p<;>simp [PV.isAgg] at ha
   cases q<;>simp [PV.isAgg] at hb
   rename_i ps qs;cases hx with
   | @agg cs _ hc1 hc2=>
    cases hy with
    | @agg ds _ hd1 hd2=>
     have hce:P.cellsOf e=ke.length:=by simp [Program.cellsOf,hie.1,hie.2]
     rw [run_equalIn_array w d cs ds ht hie.1,hce,List.range_eq_range'];simp only [PV.cells] at hok ⊢;obtain ⟨sc1,sc2⟩:=zbV hok;have:=zgI d e ke ag cs ds ps qs f1 f2 f3 f4 ⟨by simpa using hc1,λj v p hv hp=>hc2 j v p (by simpa using hv) hp⟩ ⟨by simpa using hd1,λj v p hv hp=>hd2 j v p (by simpa using hv) hp⟩ sc1 sc2 f5 k 0 (by simpa using hok)
     simpa using this
  ·cases h
end
section
variable {X:Fx} {C:Ctx} {g:Nat->LV} {look:Nat->Option LObj} {tr:List (List PV)} {stop:Bool} {a:Act} {w:World} {P:Program} {o:Oper}
theorem zr3 (h:RelC X C g look tr stop a w) {q:PV} {pre:Prop} (ho:o.op=.binOp op t x y t') (hx:Rep w C.B (a.eval x) p) (hy:Rep w C.B (a.eval y) q) (hb:zCq op p q=some (pre,r)) (hpre:pre) :
  zt X g look tr stop a w P o (.ofP r):=by
 obtain ⟨v,h1,h2⟩:=zoX (P:=P) (t:=t) hx hy hb hpre;have hgd:(eqGuard op t x y (a.eval x) (a.eval y)).run P w=.ok () w:=by
  apply zc5
  revert hb
  generalize a.eval x=vx at hx;cases hx<;>first|(intro _;rfl)|(cases q<;>simp [zCq])
 refine zab h ?_ h2;simp [execOp,ho,hgd,h1]
theorem zrq (h:RelC X C g look tr stop a w) {p q:PV} (ho:o.op=.binOp op t x y t') (hop:op=if ng then .neq else .eql) (ht:P.underlying t=some .bool)
  (hx:Rep w C.B (a.eval x) p) (hy:Rep w C.B (a.eval y) q) (hok:eqCellsOk [0] p.cells q.cells) (ha:p.isAgg=false) (hb:q.isAgg=false) :
  zt X g look tr stop a w P o (.ofP (.b (if ng then !eqCells p.cells q.cells else eqCells p.cells q.cells))):=by
 have hpq:∃ u v,p=.b u/\q=.b v:=by
  cases p<;>first|(simp [PV.isAgg] at ha;done)|(simp only [PV.cells] at hok;cases q<;>first|(simp [PV.isAgg] at hb;done)|exact ⟨_,_,rfl,rfl⟩|exact hok.1.elim)
 obtain ⟨u,v,rfl,rfl⟩:=hpq;generalize hxv:a.eval x=xv at hx;generalize hyv:a.eval y=yv at hy;cases hx;cases hy;have hgd:(eqGuard op t x y (.bool u) (.bool v)).run P w=.ok () w:=zc5 rfl;have he:(u == v)=decide (u=v):=by cases u<;>cases v<;>rfl
 refine zab h (v:=.bool (if ng then !decide (u=v) else decide (u=v))) ?_ ?_
 ·subst hop;have hr:(Op.equalIn 10000 t (.bool u) (.bool v)).run P w=.ok (u == v) w:=run_equalIn_bool' w 9999 t u v ht;cases ng with
  | false=>
   simp only [xaD,if_false] at hgd ho ⊢;simp only [execOp,ho,hxv,hyv,Sem.run_bind,hgd,Result.andThen_ok,binOp,Op.equal,Op.maxDepth,hr,Sem.run_pure,he]
  | true=>
   simp only [if_true] at hgd ho ⊢;simp only [execOp,ho,hxv,hyv,Sem.run_bind,hgd,Result.andThen_ok,binOp,Op.equal,Op.maxDepth,hr,Sem.run_pure,he]
 ·simp only [PV.cells,eqCells,eqPV,xbL];exact .b _
theorem zu0 (h:RelC X C g look tr stop a w) {p q:PV} (ho:o.op=.binOp op t x y t') (hop:op=if ng then .neq else .eql) (hk:flatK P 10 t=some ks) (hgt:P.eqGuardType P.depth t=false) (hta:zC P t=some true)
  (hx:Rep w C.B (a.eval x) p) (hy:Rep w C.B (a.eval y) q) (hok:eqCellsOk ks p.cells q.cells) (ha:p.isAgg=true) (hb:q.isAgg=true) :
  zt X g look tr stop a w P o (.ofP (.b (if ng then !eqCells p.cells q.cells else eqCells p.cells q.cells))):=by
 obtain ⟨ag,h0,h1,h2,h3,h4⟩:=zbH (P:=P) (w:=w) (B:=C.B) 10 t ks hk 10000 (by omega)
 rw [hta] at h2;injection h2 with h2;subst h2;have hrun:=h4 _ _ p q hx hy ha hb hok;cases p<;>simp [PV.isAgg] at ha
 cases q<;>simp [PV.isAgg] at hb
 generalize hxv:a.eval x=xv at hx;generalize hyv:a.eval y=yv at hy;rw [hxv,hyv] at hrun;cases hx with
 | agg hc1 hc2=>
  cases hy with
  | agg hd1 hd2=>
   rename_i cs ds;have hgd:=run_eqGuard_agg w op t x y cs ds hgt (P:=P);subst hop;cases ng with
   | false=>
    refine zab h (v:=.bool (eqCells _ _)) ?_ (.b _);simp only [xaD,if_false] at hgd ho;simp only [execOp,ho,hxv,hyv,Sem.run_bind,hgd,Result.andThen_ok,run_eql_struct,hrun,Sem.run_pure]
   | true=>
    refine zab h (v:=.bool (!eqCells _ _)) ?_ (.b _);simp only [if_true] at hgd ho;simp only [execOp,ho,hxv,hyv,Sem.run_bind,hgd,Result.andThen_ok,run_neq_struct,hrun,Sem.run_pure]
theorem zyP (h:RelC X C g look tr stop a w) {f s off:Nat} {v:PV} (ho:o.op=.fieldAddr t x f) (ht:P.underlying t=some (.struct fs)) (hf:fs[f]?=some fl) (hs:zX P fl.type=some s) (h0:s≠0)
  (hx:Rep w C.B (a.eval x) (.ip v off)):zt X g look tr stop a w P o (.ofP (.ip v (off+fl.offset))):=by
 generalize hxv:a.eval x=xv at hx;cases hx with
 | ip u hb hsp hc hu=>
  rename_i ad;refine zab h (v:=.pointer (some (ad.add fl.offset))) ?_ (.ip (λj=>u (fl.offset+j)) (by rw [Addr.block_add];exact hb) (Addr.spot_add _ _ hsp) (λj p hp=>?_) (λj p hp=>hu _ p (by rw [<-hp,xbA])))
  ·simp [execOp,ho,hxv,zcT ht hf hs h0]
  ·rw [Addr.add_add];exact hc _ p (by rw [<-hp,xbA])
theorem zyO (h:RelC X C g look tr stop a w) {f s off k:Nat} (ho:o.op=.fieldAddr t x f) (ht:P.underlying t=some (.struct fs)) (hf:fs[f]?=some fl) (hs:zX P fl.type=some s) (h0:s≠0)
  (hx:RepL w C look (a.eval x) (.lp k off)) (hsc:LV.Sc look (.lp k off)):zt X g look tr stop a w P o (.ofV (.lp k (off+fl.offset))):=by
 generalize hxv:a.eval x=xv at hx;cases hx;refine zbX h (v:=.pointer (some ((⟨C.ρ k,off,none⟩:Addr).add fl.offset))) ?_ ?_ ?_
 ·simp [execOp,ho,hxv,zcT ht hf hs h0]
 ·rw [Addr.add_lit0];exact .lp
 ·cases hsc with|lp hk=>exact .lp hk
theorem zyQ (h:RelC X C g look tr stop a w) {f s off k n i:Nat} (ho:o.op=.fieldAddr t x f) (ht:P.underlying t=some (.struct fs)) (hf:fs[f]?=some fl) (hs:zX P fl.type=some s) (h0:s≠0)
  (hx:RepL w C look (a.eval x) (.ep k n i off)) (hsc:LV.Sc look (.ep k n i off)) (hv:∃ e sz xs fz,look k=some (.row e sz xs fz)/\n=xs.length):zt X g look tr stop a w P o (.ofV (.ep k n i (off+fl.offset))):=by
 obtain ⟨e,sz,xs,fz,hk,hn⟩:=hv;generalize hxv:a.eval x=xv at hx;cases hx with
 | ep hq=>
  obtain ⟨b,hb,hv⟩:=hq _ _ _ _ hk hn.symm;refine zbX h (v:=.pointer (some ((⟨b,i*sz+off,none⟩:Addr).add fl.offset))) ?_ ?_ ?_
  ·simp [execOp,ho,hxv,hv,zcT ht hf hs h0]
  ·rw [Addr.add_lit0];exact .ep λe' sz' xs' fz' hk' hl=>by
    rw [hk] at hk';injection hk' with hk';injection hk' with _ e2 _ _;subst e2;exact ⟨b,hb,by rw [xbA]⟩
  ·cases hsc with|ep h1 h2=>exact .ep h1 h2
theorem zuS (h:RelC X C g look tr stop a w) {xs:List PV} {k:IntKind} {j:Int} (ho:o.op=.indexAddr t x i) (ht:P.underlying t=some (.slice e)) (hs:zX P e=some s)
  (hx:Rep w C.B (a.eval x) (.sl s xs)) (hi:Rep w C.B (a.eval i) (.i k j)) (h0:0<=j) (h1:j < xs.length):zt X g look tr stop a w P o (.ofP (.ip ((xs[j.toNat]?).getD .any) 0)):=by
 generalize hxv:a.eval x=xv at hx;generalize hiv:a.eval i=iv at hi;cases hi;cases hx with
 | sl0=>simp at h1;omega
 | sle=>simp at h1;omega
 | @sl ad len cap _ _ u hb hsp hl hlc hcm hsz hc hu=>
  have hj:j.toNat < xs.length:=by omega
  have hx:=xac hj;refine zab h (v:=.pointer (some (ad.add (j.toNat*s)))) ?_ (.ip (u j.toNat) (by rw [Addr.block_add];exact hb) (Addr.spot_add _ _ hsp) (λm p hp=>?_) (λm p hp=>?_))
  ·simp [execOp,ho,hxv,hiv,zep ht hs h0 (show j < len by omega)]
  ·rw [hx] at hp;rw [Addr.add_add];exact hc _ _ _ _ hx (by simpa using hp)
  ·rw [hx] at hp;exact hu _ _ _ _ hx (by simpa using hp)
theorem zrc (h:RelC X C g look tr stop a w) {t e e':TypeId} {s q n:Nat} {xs:List PV} {fz:Bool} {k:IntKind} {j:Int} {rd:List Nat} (ho:o.op=.indexAddr t x i) (ht:P.underlying t=some (.slice e)) (hs:zX P e=some s)
  (hx:RepL w C look (a.eval x) (.row q n)) (hk:look q=some (.row e' s xs fz)) (hn:n=xs.length) (hi:Rep w C.B (a.eval i) (.i k j)) (h0:0<=j) (h1:j < xs.length) :
  zt X g look tr stop a w P o ⟨.ep q n j.toNat 0,none,false,rd⟩:=by
 generalize hxv:a.eval x=xv at hx;generalize hiv:a.eval i=iv at hi;cases hi;cases hx with
 | row hq=>
  have hv:=hq _ _ _ _ hk hn.symm;obtain ⟨us,how,_⟩:=h.obj q _ hk
  rcases how.2 with ⟨e1,e2⟩|⟨gb,cap,cur,e1,_⟩
  ·have:xs.length=0:=by simpa using e2
   omega
  ·refine zbX h (v:=.pointer (some ((⟨gb,0,none⟩:Addr).add (j.toNat*s)))) ?_ ?_ (.ep hk (by omega))
   ·simp [execOp,ho,hxv,hiv,hv,e1,zep ht hs h0 h1]
   ·rw [Addr.add_lit0];exact .ep λe'' sz' xs' fz' hk' hl=>by
     rw [hk] at hk';injection hk' with hk';injection hk' with _ e2 _ _;subst e2;exact ⟨gb,by rw [e1];rfl,by simp⟩
theorem zuU (h:RelC X C g look tr stop a w) {n s off:Nat} {v:PV} {k:IntKind} {j:Int} (ho:o.op=.indexAddr t x i) (ht:P.underlying t=some (.array n e)) (hs:zX P e=some s)
  (hx:Rep w C.B (a.eval x) (.ip v off)) (hi:Rep w C.B (a.eval i) (.i k j)) (h0:0<=j) (h1:j < n):zt X g look tr stop a w P o (.ofP (.ip v (off+j.toNat*s))):=by
 generalize hxv:a.eval x=xv at hx;generalize hiv:a.eval i=iv at hi;cases hi;cases hx with
 | ip u hb hsp hc hu=>
  rename_i ad;refine zab h (v:=.pointer (some (ad.add (j.toNat*s)))) ?_ (.ip (λm=>u (j.toNat*s+m)) (by rw [Addr.block_add];exact hb) (Addr.spot_add _ _ hsp) (λm p hp=>?_) (λm p hp=>hu _ p (by rw [<-hp,xbA])))
  ·simp [execOp,ho,hxv,hiv,zeq ht hs h0 h1]
  ·rw [Addr.add_add];exact hc _ p (by rw [<-hp,xbA])
theorem zuT (h:RelC X C g look tr stop a w) {n s off q:Nat} {k:IntKind} {j:Int} (ho:o.op=.indexAddr t x i) (ht:P.underlying t=some (.array n e)) (hs:zX P e=some s)
  (hx:RepL w C look (a.eval x) (.lp q off)) (hsc:LV.Sc look (.lp q off)) (hi:Rep w C.B (a.eval i) (.i k j)) (h0:0<=j) (h1:j < n):zt X g look tr stop a w P o (.ofV (.lp q (off+j.toNat*s))):=by
 generalize hxv:a.eval x=xv at hx;generalize hiv:a.eval i=iv at hi;cases hi;cases hx;refine zbX h (v:=.pointer (some ((⟨C.ρ q,off,none⟩:Addr).add (j.toNat*s)))) ?_ ?_ ?_
 ·simp [execOp,ho,hxv,hiv,zeq ht hs h0 h1]
 ·rw [Addr.add_lit0];exact .lp
 ·cases hsc with|lp hk=>exact .lp hk
theorem zpw (hr:Reps w B cs.toList ps) (hfit:off+sz<=ps.length) (h1:ag=false->sz=1) :
  Rep w B (if ag then .agg (cs.extract off (off+sz)) else (cs[off]?).getD undef) (if ag then .agg ((ps.drop off).take sz) else (ps[off]?).getD .any):=by
 have hl:=hr.1;simp at hl;cases ag with
 | true=>
  rw [if_pos rfl,if_pos rfl];have h2:=zcc (zcd hr off) sz;refine .agg (by simp;omega) λj v p hv hp=>h2.2 j v p ?_ hp
  rw [Array.getElem?_extract] at hv
  split at hv
  ·rename_i hj;rw [xaQ,if_pos (by omega),xaY]
   simpa using hv
  ·cases hv
 | false=>
  have:=h1 rfl;subst this;have e1:ps[off]?=some ps[off]:=xac (by omega)
  have e2:cs[off]?=some cs[off]:=xai (by omega)
  simp only [e1,e2,xa7,xaD,if_false];exact hr.2 off _ _ (by simpa using e2) e1
theorem zrl (h:RelC X C g look tr stop a w) {v:PV} (ho:o.op=.field t x f) (ht:P.underlying t=some (.struct fs)) (hf:fs[f]?=some fl) (hs:zX P fl.type=some s) (hag:zC P fl.type=some ag)
  (hx:Rep w C.B (a.eval x) v) (hfit:fl.offset+s<=v.cells.length) (h1:ag=false->s=1) (hv:v.isAgg=true) :
  zt X g look tr stop a w P o (.ofP (if ag then .agg ((v.cells.drop fl.offset).take s) else (v.cells[fl.offset]?).getD .any)):=by
 cases v<;>simp [PV.isAgg] at hv
 generalize hxv:a.eval x=xv at hx;cases hx with
 | @agg cs ps e1 e2=>
  simp only [PV.cells] at hfit ⊢;refine zab h ?_ (zpw (cs:=cs) ⟨by simpa using e1,λj v p hv hp=>e2 j v p (by simpa using hv) hp⟩ hfit h1)
  have hrun:=zeo (P:=P) (w:=w) (cs:=cs) (off:=fl.offset) hs hag (λh=>by have:=h1 h;omega)
  simp only [execOp,ho,hxv,Instr.field,Sem.run_bind,run_underlying ht,Result.andThen_ok,hf,asAgg,Sem.run_pure,hrun]
theorem zox (h:RelC X C g look tr stop a w) {v:PV} {k:IntKind} {j:Int} (ho:o.op=.index t x i) (ht:P.underlying t=some (.array n e)) (hs:zX P e=some s) (hag:zC P e=some ag)
  (hx:Rep w C.B (a.eval x) v) (hi:Rep w C.B (a.eval i) (.i k j)) (h0:0<=j) (hn:j < n) (hl:v.cells.length=n*s) (h1:ag=false->s=1) (hv:v.isAgg=true) :
  zt X g look tr stop a w P o (.ofP (if ag then .agg ((v.cells.drop (j.toNat*s)).take s) else (v.cells[j.toNat*s]?).getD .any)):=by
 cases v<;>simp [PV.isAgg] at hv
 rename_i qs;generalize hxv:a.eval x=xv at hx;generalize hiv:a.eval i=iv at hi;cases hi;cases hx with
 | @agg cs ps e1 e2=>
  simp only [PV.cells] at hl ⊢;have hfit:j.toNat*s+s<=qs.length:=by
   have:(j.toNat+1)*s<=n*s:=xba _ (by omega)
   rw [xb0] at this;omega
  refine zab h ?_ (zpw (cs:=cs) ⟨by simpa using e1,λj v p hv hp=>e2 j v p (by simpa using hv) hp⟩ hfit h1)
  have hrun:=zeo (P:=P) (w:=w) (cs:=cs) (off:=j.toNat*s) hs hag (λh=>by have:=h1 h;omega)
  simp only [execOp,ho,hxv,hiv,Instr.index,asIntOf,Sem.run_bind,run_underlying ht,Result.andThen_ok,Sem.run_pure,if_pos (And.intro h0 hn),zQ hs,hrun]
theorem zow (h:RelC X C g look tr stop a w) {s:ByteArray} {k:IntKind} {j:Int} (ho:o.op=.index t x i) (ht:P.underlying t=some .string)
  (hx:Rep w C.B (a.eval x) (.s s)) (hi:Rep w C.B (a.eval i) (.i k j)) (h0:0<=j) (hn:j < s.size) :
  zt X g look tr stop a w P o (.ofP (.i .u8 ((s[j.toNat]?).getD 0).toNat)):=by
 generalize hxv:a.eval x=xv at hx;generalize hiv:a.eval i=iv at hi;cases hi;cases hx;have hj:j.toNat < s.size:=by omega
 have e:s[j.toNat]?=some s[j.toNat]:=getElem?_pos s j.toNat hj;refine zab h (v:=.int .u8 s[j.toNat].toNat) ?_ ?_
 ·simp [execOp,ho,hxv,hiv,Instr.index,asIntOf,run_underlying ht,h0,e]
 ·rw [e];refine .i ((zbl _ _).2 ?_);have:=s[j.toNat].toNat_lt;simp only [IntKind.lo,IntKind.hi]
  omega
end
section
variable {X:Fx} {C:Ctx} {g:Nat->LV} {look:Nat->Option LObj} {tr:List (List PV)} {stop:Bool} {a:Act} {w:World} {P:Program} {o:Oper}
theorem zbQ {j:Int} (hv:Rep w B v (.i k j)) {y:Nat} {c:BoundsCode} (h0:0<=j) (h1:j<=y):(Instr.sliceBound v y c).run P w=.ok j.toNat w:=by
 cases hv;simp [Instr.sliceBound,asIntOf,h0,h1]
theorem zc6 (h:RelC X C g look tr stop a w) {pre:Prop} (hq:RepL w C look v q) (he:zba look q=some (pre,xs,sz,rd)) (hp:pre) :
  ∃ base cap,v=.slice base xs.length cap/\(xs≠[]->∃ ad us,base=some ad/\us.length=xs.length*sz/\(∀ j u,us[j]?=some u->w.cell? (ad.add j)=some u)/\Reps w C.B us (xs.flatMap PV.cells)/\(∀ x ∈ xs,x.cells.length=sz))/\xs.length<=maxLen:=by
 unfold zba at he
 split at he
 ·injection he with he;injection he with e1 he;injection he with e2 he;injection he with e3 he;subst e2;have:=ze hq;cases this;exact ⟨none,0,rfl,λh=>absurd rfl h,xbk _⟩
 ·rename_i sz0 xs0;injection he with he;injection he with e1 he;injection he with e2 he;injection he with e3 he;subst e2;subst e3;have:=ze hq;cases this with
  | sl0=>exact ⟨none,0,rfl,λh=>absurd rfl h,xbk _⟩
  | sle=>exact ⟨_,_,rfl,λh=>absurd rfl h,xbk _⟩
  | @sl ad len cap _ _ u hb hsp hl hlc hcm hsz hc hu=>
   subst hl;refine ⟨some ad,cap,rfl,λ_=>⟨ad,(List.range (xs0.length*sz0)).map λj=>u (j / sz0) (j % sz0),rfl,by simp,?_,?_,λx hx=>?_⟩,by omega⟩
   ·intro j v hv;simp only [xal,xab] at hv;obtain ⟨j',hj',rfl⟩:=hv;obtain ⟨h2,h3⟩:=xaa.1 hj';simp at h2 h3;subst h3;have hs0:0 < sz0:=by
     rcases Nat.eq_zero_or_pos sz0 with e|e
     ·subst e;simp at h2
     ·exact e
    have hd:j / sz0 < xs0.length:=(Nat.div_lt_iff_lt_mul hs0).2 h2;have hx:=xac hd;have hm:j % sz0 < (xs0[j / sz0]).cells.length:=by rw [hsz _ _ hx];exact Nat.mod_lt _ hs0
    have:=hc _ _ _ _ hx (xac hm)
    rwa [Nat.mul_comm,Nat.div_add_mod] at this
   ·have hall:∀ x ∈ xs0,x.cells.length=sz0:=λx hx=>by
     obtain ⟨i,hi⟩:=xbl.1 hx;exact hsz i x hi
    refine ⟨by simp [zdI hall],λj v p hv hp=>?_⟩
    simp only [xal,xab] at hv;obtain ⟨j',hj',rfl⟩:=hv;obtain ⟨h2,h3⟩:=xaa.1 hj';simp at h2 h3;subst h3;have hs0:0 < sz0:=by
     rcases Nat.eq_zero_or_pos sz0 with e|e
     ·subst e;simp at h2
     ·exact e
    have hd:j / sz0 < xs0.length:=(Nat.div_lt_iff_lt_mul hs0).2 h2;have hx:=xac hd;have hf:=zc4 hall (j / sz0) _ (j % sz0) hx (Nat.mod_lt _ hs0);rw [Nat.mul_comm,Nat.div_add_mod] at hf;rw [hf] at hp;exact hu _ _ _ _ hx hp
   ·obtain ⟨i,hi⟩:=xbl.1 hx;exact hsz i x hi
 ·rename_i k n
  split at he
  ·rename_i e sz' xs' fz hk;injection he with he;injection he with e1 he;injection he with e2 he;injection he with e3 he;subst e2;subst e3;subst e1;cases hq with
   | row hr=>
    have hv:=hr _ _ _ _ hk hp.symm;obtain ⟨us,how,hus,hx,h0⟩:=h.obj k _ hk
    rcases how.2 with ⟨f1,f2⟩|⟨gb,cap,cur,f1,f2,f3,f4,f5,f6,f7⟩
    ·have:xs'=[]:=xay (by simpa using f2)
     subst this;exact ⟨none,0,by rw [hv,f1];rfl,λh=>absurd rfl h,xbk _⟩
    ·exact ⟨_,cap,by rw [hv,f1],λ_=>⟨_,us,rfl,how.1,how.cells (g:=gb) (by rw [f1];rfl),hus,hx⟩,by omega⟩
  ·cases he
 ·cases he
theorem ze2 {s:ByteArray} {lo hi:Option Value} (ht:P.underlying t=some .string) {l:Nat} (hh:(match hi with|some v=>Instr.sliceBound v s.size .sliceAlen|none=>pure s.size).run P w=.ok h w) (hl:(match lo with|some v=>Instr.sliceBound v h .sliceB|none=>pure 0).run P w=.ok l w) :
  (Instr.sliceAt t (.string s) lo hi none).run P w=.ok (.string (s.extract l h)) w:=by
 cases lo<;>cases hi <;>
  simp only [Instr.sliceAt,Instr.slice,Sem.run_bind,run_underlying ht,Result.andThen_ok,xcj,xaD,if_false,Instr.sliceBounds,Sem.run_pure] at hh hl ⊢ <;>
  simp_all
theorem zpB (h:RelC X C g look tr stop a w) {lo hi:Operand} {s:ByteArray} {k k':IntKind} {l j:Int} (ho:o.op=.slice t x (some lo) (some hi) none) (ht:P.underlying t=some .string)
  (hx:Rep w C.B (a.eval x) (.s s)) (hl:Rep w C.B (a.eval lo) (.i k l)) (hh:Rep w C.B (a.eval hi) (.i k' j)) (h0:0<=l) (h1:l<=j) (h2:j<=s.size) :
  zt X g look tr stop a w P o (.ofP (.s (s.extract l.toNat j.toNat))):=by
 generalize hxv:a.eval x=xv at hx;have b1:=zbQ (P:=P) hh (y:=s.size) (c:=.sliceAlen) (by omega) h2
 have b2:=zbQ (P:=P) hl (y:=j.toNat) (c:=.sliceB) h0 (by omega)
 cases hx with|s hs=>
 refine zab h (v:=.string (s.extract l.toNat j.toNat)) ?_ (.s ?_)
 ·simp only [execOp,ho,hxv,Sem.run_bind,Option.map,ze2 (s:=s) ht (lo:=some (a.eval lo)) (hi:=some (a.eval hi)) b1 b2,Result.andThen_ok,Sem.run_pure]
 ·simp [ByteArray.size_extract];omega
theorem zs0 (h:RelC X C g look tr stop a w) {hi:Operand} {s:ByteArray} {k':IntKind} {j:Int} (ho:o.op=.slice t x none (some hi) none) (ht:P.underlying t=some .string)
  (hx:Rep w C.B (a.eval x) (.s s)) (hh:Rep w C.B (a.eval hi) (.i k' j)) (h1:0<=j) (h2:j<=s.size) :
  zt X g look tr stop a w P o (.ofP (.s (s.extract 0 j.toNat))):=by
 generalize hxv:a.eval x=xv at hx;have b1:=zbQ (P:=P) hh (y:=s.size) (c:=.sliceAlen) (by omega) h2
 cases hx with|s hs=>
 refine zab h (v:=.string (s.extract 0 j.toNat)) ?_ (.s ?_)
 ·simp only [execOp,ho,hxv,Sem.run_bind,Option.map,ze2 (s:=s) ht (lo:=none) (hi:=some (a.eval hi)) b1 rfl,Result.andThen_ok,Sem.run_pure]
 ·simp [ByteArray.size_extract];omega
theorem zsZ (h:RelC X C g look tr stop a w) {lo:Operand} {s:ByteArray} {k:IntKind} {l:Int} (ho:o.op=.slice t x (some lo) none none) (ht:P.underlying t=some .string)
  (hx:Rep w C.B (a.eval x) (.s s)) (hl:Rep w C.B (a.eval lo) (.i k l)) (h0:0<=l) (h1:l<=s.size) :
  zt X g look tr stop a w P o (.ofP (.s (s.extract l.toNat s.size))):=by
 generalize hxv:a.eval x=xv at hx;have b2:=zbQ (P:=P) hl (y:=s.size) (c:=.sliceB) h0 h1;cases hx with|s hs=>
 refine zab h (v:=.string (s.extract l.toNat s.size)) ?_ (.s ?_)
 ·simp only [execOp,ho,hxv,Sem.run_bind,Option.map,ze2 (s:=s) ht (lo:=some (a.eval lo)) (hi:=none) rfl b2,Result.andThen_ok,Sem.run_pure]
 ·simp [ByteArray.size_extract];omega
theorem ze4 {ad:Option Addr} {cap l:Nat} (hr:Rep w B (.slice ad len cap) (.sl sz xs)) (h1:l<=h) (h2:h<=xs.length) :
  Rep w B (.slice (if cap=l then ad else ad.map (·.add (l*sz))) (h - l) (cap - l)) (.sl sz ((xs.take h).drop l)):=by
 cases hr with
 | sl0=>
  simp at h2;subst h2;have:l=0:=by omega
  subst this;simpa using Rep.sl0
 | @sle a _ _ hc=>
  simp at h2;subst h2;have:l=0:=by omega
  subst this
  split
  ·exact .sle (by omega)
  ·exact .sle (by omega)
 | @sl a _ _ _ _ u hb hsp hl hlc hcm hsz hc hu=>
  by_cases e:cap=l
  ·rw [if_pos e];have:(xs.take h).drop l=[]:=by simp;omega
   rw [this];exact .sl u hb hsp (by simp;omega) (by omega) (by omega) (λi x hx=>by simp at hx) (λi x j p hx=>by simp at hx) (λi x j p hx=>by simp at hx)
  ·rw [if_neg e];have get:∀ i x,((xs.take h).drop l)[i]?=some x->xs[l+i]?=some x:=λi x hx=>by
    simp only [xaY,xaQ] at hx
    split at hx
    ·exact hx
    ·cases hx
   refine .sl (λi j=>u (l+i) j) (by rw [Addr.block_add];exact hb) (Addr.spot_add _ _ hsp) (by simp;omega) (by omega) (by omega) (λi x hx=>hsz _ x (get i x hx)) (λi x j p hx hp=>?_) (λi x j p hx hp=>hu _ x j p (get i x hx) hp)
   rw [Addr.add_add,<-xbA,<-xb0];exact hc _ x j p (get i x hx) hp
theorem ze3 {ad:Option Addr} {len cap sz:Nat} {lo hi:Option Value} (ht:P.underlying t=some (.slice e)) (hs:zX P e=some sz) {l h:Nat}
  (hh:(match hi with|some v=>Instr.sliceBound v cap .sliceAcap|none=>pure len).run P w=.ok h w) (hl:(match lo with|some v=>Instr.sliceBound v h .sliceB|none=>pure 0).run P w=.ok l w) :
  (Instr.sliceAt t (.slice ad len cap) lo hi none).run P w=.ok (.slice (if cap=l then ad else ad.map (·.add (l*sz))) (h - l) (cap - l)) w:=by
 cases lo<;>cases hi <;>
  simp only [Instr.sliceAt,Instr.slice,Sem.run_bind,run_underlying ht,Result.andThen_ok,xcj,xaD,if_false,if_true,Instr.sliceBounds,Sem.run_pure] at hh hl ⊢ <;>
  simp_all [zQ hs]
theorem zpD (hr:Rep w B v (.sl sz xs)):∃ ad cap,v=.slice ad xs.length cap/\xs.length<=cap:=by
 cases hr with
 | sl0=>exact ⟨none,0,rfl,xap _⟩
 | sle=>exact ⟨_,_,rfl,xbk _⟩
 | sl u hb hsp hl hlc=>subst hl;exact ⟨_,_,rfl,hlc⟩
theorem zpC (h:RelC X C g look tr stop a w) {lo hi:Operand} {xs:List PV} {k k':IntKind} {l j:Int} (ho:o.op=.slice t x (some lo) (some hi) none) (ht:P.underlying t=some (.slice e)) (hs:zX P e=some sz)
  (hx:Rep w C.B (a.eval x) (.sl sz xs)) (hl:Rep w C.B (a.eval lo) (.i k l)) (hh:Rep w C.B (a.eval hi) (.i k' j)) (h0:0<=l) (h1:l<=j) (h2:j<=xs.length) :
  zt X g look tr stop a w P o (.ofP (.sl sz ((xs.take j.toNat).drop l.toNat))):=by
 obtain ⟨ad,cap,hv,hc⟩:=zpD hx;have b1:=zbQ (P:=P) hh (y:=cap) (c:=.sliceAcap) (by omega) (by omega)
 have b2:=zbQ (P:=P) hl (y:=j.toNat) (c:=.sliceB) h0 (by omega)
 rw [hv] at hx;refine zab h ?_ (ze4 hx (l:=l.toNat) (h:=j.toNat) (by omega) (by omega))
 simp only [execOp,ho,hv,Sem.run_bind,Option.map,ze3 ht hs (lo:=some (a.eval lo)) (hi:=some (a.eval hi)) b1 b2,Result.andThen_ok,Sem.run_pure]
theorem zs2 (h:RelC X C g look tr stop a w) {hi:Operand} {xs:List PV} {k':IntKind} {j:Int} (ho:o.op=.slice t x none (some hi) none) (ht:P.underlying t=some (.slice e)) (hs:zX P e=some sz)
  (hx:Rep w C.B (a.eval x) (.sl sz xs)) (hh:Rep w C.B (a.eval hi) (.i k' j)) (h1:0<=j) (h2:j<=xs.length) :
  zt X g look tr stop a w P o (.ofP (.sl sz (xs.take j.toNat))):=by
 obtain ⟨ad,cap,hv,hc⟩:=zpD hx;have b1:=zbQ (P:=P) hh (y:=cap) (c:=.sliceAcap) (by omega) (by omega)
 rw [hv] at hx;have hr:=ze4 hx (l:=0) (h:=j.toNat) (by omega) (by omega)
 rw [xbw] at hr;refine zab h ?_ hr;simp only [execOp,ho,hv,Sem.run_bind,Option.map,ze3 ht hs (lo:=none) (hi:=some (a.eval hi)) b1 rfl,Result.andThen_ok,Sem.run_pure]
theorem zs1 (h:RelC X C g look tr stop a w) {lo:Operand} {xs:List PV} {k:IntKind} {l:Int} (ho:o.op=.slice t x (some lo) none none) (ht:P.underlying t=some (.slice e)) (hs:zX P e=some sz)
  (hx:Rep w C.B (a.eval x) (.sl sz xs)) (hl:Rep w C.B (a.eval lo) (.i k l)) (h0:0<=l) (h2:l<=xs.length) :
  zt X g look tr stop a w P o (.ofP (.sl sz (xs.drop l.toNat))):=by
 obtain ⟨ad,cap,hv,hc⟩:=zpD hx;have b2:=zbQ (P:=P) hl (y:=xs.length) (c:=.sliceB) h0 (by omega)
 rw [hv] at hx;have hr:=ze4 hx (l:=l.toNat) (h:=xs.length) (by omega) (by omega)
 rw [xah] at hr;refine zab h ?_ hr;simp only [execOp,ho,hv,Sem.run_bind,Option.map,ze3 ht hs (lo:=some (a.eval lo)) (hi:=none) rfl b2,Result.andThen_ok,Sem.run_pure]
theorem zqE (h:p.one=true):p.cells=[p]:=by cases p<;>first|rfl|(simp [PV.one] at h)
theorem zpE (h:RelC X C g look tr stop a w) {v:PV} (ho:o.op=.slice t x none none none) (ht:P.underlying t=some (.array n e)) (hs:zX P e=some 1) (hn:n<=1000) (hx:Rep w C.B (a.eval x) (.ip v 0)) (hl:v.cells.length=n) (hone:v.cells.all PV.one=true) :
  zt X g look tr stop a w P o (.ofP (.sl 1 v.cells)):=by
 generalize hxv:a.eval x=xv at hx;have hsize:(sizeOf e).run P w=.ok 1 w:=zQ hs;cases hx with
 | @ip ad _ _ u hb hsp hc hu=>
  have had:ad.add 0=ad:=by unfold Addr.add;rfl
  have hm:n<=maxLen:=by simp only [maxLen];omega
  have hcl:∀ (i:Nat) (y:PV),v.cells[i]?=some y->y.cells=[y]:=λi y hy=>zqE (by rw [xaO] at hone;exact hone y (xae hy))
  have hrep:Rep w C.B (.slice (some ad) n n) (.sl 1 v.cells):=by
   refine .sl (λi _=>u i) hb hsp hl (xap _) hm (λi y hy=>by rw [hcl i y hy];rfl) (λi y j p hy hp=>?_) (λi y j p hy hp=>?_)
   ·rw [hcl i y hy] at hp
    match j with
    | 0=>simp at hp;subst hp;rw [Nat.mul_one,xbt];exact hc i y (by rw [xb8];exact hy)
    | j+1=>simp at hp
   ·rw [hcl i y hy] at hp
    match j with
    | 0=>simp at hp;subst hp;exact hu i y (by rw [xb8];exact hy)
    | j+1=>simp at hp
  refine zab h (v:=.slice (some ad) n n) ?_ hrep
  by_cases h0:n=0
  ·simp [execOp,ho,hxv,Instr.sliceAt,run_underlying ht,Instr.sureAddr,Instr.sliceBounds,hsize,h0]
  ·simp [execOp,ho,hxv,Instr.sliceAt,run_underlying ht,Instr.sureAddr,Instr.sliceBounds,hsize,h0,had]
theorem zoi (h:RelC X C g look tr stop a w) {s:ByteArray} (ho:o.op=.call { callee:=.builtin .len,args:=⟨[x]⟩,argTypes:=⟨[t]⟩ }) (ht:P.underlying t=some .string)
  (hx:Rep w C.B (a.eval x) (.s s)):zt X g look tr stop a w P o (.ofP (.i .i64 s.size)):=by
 generalize hxv:a.eval x=xv at hx;cases hx with|s hs=>
 refine zab h (v:=.int .i64 s.size) ?_ (.i ((zbl _ _).2 ?_))
 ·simp [execOp,ho,resolve,invoke,builtin,Builtin.len_,hxv,run_underlying ht,goInt]
 ·simp only [IntKind.lo,IntKind.hi,maxLen] at hs ⊢;omega
theorem zoj (h:RelC X C g look tr stop a w) {q:LV} {pre:Prop} {xs:List PV} {sz:Nat} {rd:List Nat} (ho:o.op=.call { callee:=.builtin .len,args:=⟨[x]⟩,argTypes:=⟨[t]⟩ }) (ht:P.underlying t=some (.slice e))
  (hq:RepL w C look (a.eval x) q) (he:zba look q=some (pre,xs,sz,rd)) (hp:pre):zt X g look tr stop a w P o ⟨.p (.i .i64 xs.length),none,false,rd⟩:=by
 obtain ⟨base,cap,hv,_,hm⟩:=zc6 h hq he hp;refine zbX h (v:=.int .i64 xs.length) ?_ (.p (.i ((zbl _ _).2 ?_))) (.p _)
 ·simp [execOp,ho,resolve,invoke,builtin,Builtin.len_,hv,run_underlying ht,goInt]
 ·simp only [IntKind.lo,IntKind.hi,maxLen] at hm ⊢;omega
theorem zok (h:RelC X C g look tr stop a w) {a0:Option Addr} {n c0:Nat} (ho:o.op=.call { callee:=.builtin .len,args:=⟨[x]⟩,argTypes:=⟨[t]⟩ }) (ht:P.underlying t=some (.slice e))
  (hx:Rep w C.B (a.eval x) (.rs a0 n c0)) (hn:(n:Int)<=9223372036854775807):zt X g look tr stop a w P o (.ofP (.i .i64 n)):=by
 generalize hxv:a.eval x=xv at hx;cases hx;refine zab h (v:=.int .i64 n) ?_ (.i ((zbl _ _).2 ?_))
 ·simp [execOp,ho,resolve,invoke,builtin,Builtin.len_,hxv,run_underlying ht,goInt]
 ·simp only [IntKind.lo,IntKind.hi] at hn ⊢;omega
theorem zqQ (h:RelC X C g look tr stop a w) {k k':IntKind} {i j:Int} (ho:o.op=.call { callee:=.builtin .max,args:=⟨[x,y]⟩,argTypes:=ts })
  (hx:Rep w C.B (a.eval x) (.i k i)) (hy:Rep w C.B (a.eval y) (.i k' j)) (hk:k=k'):zt X g look tr stop a w P o (.ofP (.i k (max i j))):=by
 subst hk;generalize hxv:a.eval x=xv at hx;generalize hyv:a.eval y=yv at hy;cases hx with|i h1=>
 cases hy with|i h2=>
 have e:(if j > i then j else i)=max i j:=by split<;>omega
 refine zab h (v:=.int k (max i j)) ?_ (.i ?_)
 ·simp [execOp,ho,resolve,invoke,builtin,Builtin.max_,Builtin.max2,hxv,hyv,e]
 ·rw [<-e];split<;>assumption
theorem zqO (h:RelC X C g look tr stop a w) {k k':IntKind} {i j:Int} (ho:o.op=.call { callee:=.builtin .min,args:=⟨[x,y]⟩,argTypes:=ts })
  (hx:Rep w C.B (a.eval x) (.i k i)) (hy:Rep w C.B (a.eval y) (.i k' j)) (hk:k=k'):zt X g look tr stop a w P o (.ofP (.i k (min i j))):=by
 subst hk;generalize hxv:a.eval x=xv at hx;generalize hyv:a.eval y=yv at hy;cases hx with|i h1=>
 cases hy with|i h2=>
 have e:(if j < i then j else i)=min i j:=by split<;>omega
 refine zab h (v:=.int k (min i j)) ?_ (.i ?_)
 ·simp [execOp,ho,resolve,invoke,builtin,Builtin.min_,Builtin.min2,hxv,hyv,e]
 ·rw [<-e];split<;>assumption
theorem zrp (h:RelC X C g look tr stop a w) {vs:List PV} (ho:o.op=.extract x j) (hx:Rep w C.B (a.eval x) (.tup vs)) (hj:j < vs.length) :
  zt X g look tr stop a w P o (.ofP ((vs[j]?).getD .any)):=by
 generalize hxv:a.eval x=xv at hx;cases hx with|@tup cs ps h1 h2=>
 have hv:cs[j]?=some cs[j]:=xai (by omega)
 have hp:vs[j]?=some vs[j]:=xac hj;refine zab h (v:=cs[j]) ?_ (by rw [hp];exact h2 j _ _ hv hp)
 simp only [execOp,ho,hxv,Instr.extract,hv,Sem.run_bind,Sem.run_pure,Result.andThen_ok]
theorem zqH (h:RelC X C g look tr stop a w) {b:Bool} (ho:o.op=.unOp .not t x) (hx:Rep w C.B (a.eval x) (.b b)):zt X g look tr stop a w P o (.ofP (.b (!b))):=by
 generalize hxv:a.eval x=xv at hx;cases hx;exact zab h (v:=.bool (!b)) (by simp [execOp,ho,hxv,Op.unary]) (.b _)
theorem zqI (h:RelC X C g look tr stop a w) {n:Int} (ho:o.op=.unOp .neg t x) (hx:Rep w C.B (a.eval x) (.i k n)):zt X g look tr stop a w P o (.ofP (.i k (k.wrap (0 - n)))):=by
 generalize hxv:a.eval x=xv at hx;cases hx;exact zab h (v:=.int k (k.wrap (0 - n))) (by simp [execOp,ho,hxv,Op.unary,Op.intArith]) (.i (zaM _ _))
theorem zrI (h:RelC X C g look tr stop a w) {s d:TypeId} {du:TypeDesc} {k':IntKind} {n:Int} (ho:o.op=.convert s d x) (hs:P.underlying s=some du) (hd:P.underlying d=some (.int k)) (hx:Rep w C.B (a.eval x) (.i k' n)) :
  zt X g look tr stop a w P o (.ofP (.i k (k.wrap n))):=by
 generalize hxv:a.eval x=xv at hx;cases hx;exact zab h (v:=.int k (k.wrap n)) (by simp [execOp,ho,hxv,convert,run_underlying hs,run_underlying hd,Conv.intToInt]) (.i (zaM _ _))
theorem zrJ (h:RelC X C g look tr stop a w) {s d:TypeId} {t:ByteArray} (ho:o.op=.convert s d x) (hs:P.underlying s=some .string) (hd:P.underlying d=some .string) (hx:Rep w C.B (a.eval x) (.s t)) :
  zt X g look tr stop a w P o (.ofP (.s t)):=by
 generalize hxv:a.eval x=xv at hx;cases hx with|s h1=>
 exact zab h (v:=.string t) (by simp [execOp,ho,hxv,convert,run_underlying hs,run_underlying hd]) (.s h1)
theorem zmO (h:RelC X C g look tr stop a w) (ho:o.op=.nilCheck x) (hx:Rep w C.B (a.eval x) p) (hok:(∃ v off,p=.ip v off)\/∃ f y z,p=.fn f y z/\(match f with|.method _=>False|_=>True)) :
  zt X g look tr stop a w P o (.ofP p):=by
 generalize hxv:a.eval x=xv at hx;refine zab h ?_ (hx)
 rcases hok with ⟨v,off,rfl⟩|⟨f,y,z,rfl,hf⟩
 ·cases hx;simp [execOp,ho,hxv]
 ·cases hx;cases f<;>first|exact hf.elim|simp [execOp,ho,hxv]
theorem zmP (h:RelC X C g look tr stop a w) (ho:o.op=.nilCheck x) (hx:RepL w C look (a.eval x) q) (hs:LV.Sc look q) (hok:(∃ v off,q=.lp v off)\/∃ f y z,q=.fn f y z/\(match f with|.method _=>False|_=>True)) :
  zt X g look tr stop a w P o (.ofV q):=by
 generalize hxv:a.eval x=xv at hx;refine zbX h ?_ hx hs
 rcases hok with ⟨v,off,rfl⟩|⟨f,y,z,rfl,hf⟩
 ·cases hx;simp [execOp,ho,hxv]
 ·cases hx;cases f<;>first|exact hf.elim|simp [execOp,ho,hxv]
theorem zuv (h:RelC X C g look tr stop a w) {k i:Nat} (ho:o.op=.nilCheck x) (hx:RepL w C look (a.eval x) (.ep k n i off)) (hs:LV.Sc look (.ep k n i off)) (hv:∃ e sz xs fz,look k=some (.row e sz xs fz)/\n=xs.length) :
  zt X g look tr stop a w P o (.ofV (.ep k n i off)):=by
 obtain ⟨e,sz,xs,fz,hk,hn⟩:=hv;generalize hxv:a.eval x=xv at hx;refine zbX h ?_ hx hs;cases hx with
 | ep hq=>
  obtain ⟨b,hb,hv⟩:=hq _ _ _ _ hk hn.symm;simp [execOp,ho,hxv,hv]
theorem zhB (h:RelC X C g look tr stop a w) {f:Fn} (ho:o.op=.makeFunc f first caps) (hq:RepsL w C look (first.toList.map a.eval) qs) (hr:RepsL w C look (caps.toList.map a.eval) rs) {q:LV}
  (hqv:q=.fn f qs rs\/∃ ps us,qs=ps.map .p/\rs=us.map .p/\q=.p (.fn f ps us)):zt X g look tr stop a w P o (.ofV q):=by
 have hrun:(execOp a.eval o).run P w=.ok (.value (.func f (first.map a.eval) (caps.map a.eval))) w:=by simp [execOp,ho,Instr.makeFunc]
 have sc:∀ {vs:List Value} {ls:List LV},RepsL w C look vs ls->∀ (j:Nat) (q:LV),ls[j]?=some q->LV.Sc look q:=fun {vs ls} hl j q hj=>by
  have hlt:j < vs.length:=by rw [hl.1];exact (xaa.1 hj).1
  exact (hl.2 j _ q (xac hlt) hj).2
 have tl:∀ (arr:Array Operand) (j:Nat),(arr.map a.eval)[j]?=(arr.toList.map a.eval)[j]?:=λarr j=>by simp
 rcases hqv with rfl|⟨ps,us,rfl,rfl,rfl⟩
 ·refine zbX h hrun (.fn (by simpa using hq.1) (by simpa using hr.1) (λj v p hv hp=>(hq.2 j v p (by rw [tl] at hv;exact hv) hp).1) (λj v p hv hp=>(hr.2 j v p (by rw [tl] at hv;exact hv) hp).1)) (.fn (sc hq) (sc hr))
 ·have h1:=zgo hq;have h2:=zgo hr;refine zbX h hrun (.p (.fn (by simpa using h1.1) (by simpa using h2.1) (λj v p hv hp=>h1.2 j v p (by rw [tl] at hv;exact hv) hp) (λj v p hv hp=>h2.2 j v p (by rw [tl] at hv;exact hv) hp))) (.p _)
theorem zk3 (h:RelC X C g look tr stop a w) {s:ByteArray} (ho:o.op=.range t x) (ht:P.underlying t=some .string) (hx:Rep w C.B (a.eval x) (.s s)) (hd:look d=none) :
  zt X g look tr stop a w P o ⟨.it d,some (d,.sit s 0),true,[]⟩:=by
 generalize hxv:a.eval x=xv at hx;cases hx;have hb:Below w.heap.size w (w.alloc (.stringIter s 0)):=(Below.refl _ _).alloc (xap _) _;have h1:=h.grow hb C.B (λ_ h=>h) (λb hb=>.inl hb)
 refine ⟨.pointer (some ⟨w.heap.size,0,none⟩),w.alloc (.stringIter s 0),{ C with ρ:=upd C.ρ d w.heap.size },.inl ?_,?_,?_,?_⟩
 ·simp [execOp,ho,hxv,Instr.range,run_underlying ht]
 ·refine h1.lay (o:=.sit s 0) hd rfl rfl rfl rfl rfl (λk hk=>zA _ _ hk) (λ_ _=>rfl) ?_ trivial rfl ?_
  ·show (w.alloc (.stringIter s 0)).heap[upd C.ρ d w.heap.size d]?=_;rw [zk];exact heap_alloc_new w _
  ·intro b hb2;simp only [blk,zk,xaK] at hb2;subst hb2;refine ⟨h.kx.size,by simp,λhbb=>absurd (h.blt _ hbb) (by omega),λk x hk hbk=>?_,λhx=>?_,h.nle⟩
   ·have h2:blk C k x=some w.heap.size:=by cases x<;>exact hbk
    have:=(h.sep k x _ hk h2).2.1;omega
   ·have:=h.marks.lt _ hx;omega
 ·have:=RepL.it (w:=w.alloc (.stringIter s 0)) (C:={ C with ρ:=upd C.ρ d w.heap.size }) (l:=upd look d (some (.sit s 0))) (k:=d);simp only [zk] at this;exact this
 ·exact .it (zk _ _ _)
end
section
variable {X:Fx} {C:Ctx} {g:Nat->LV} {look:Nat->Option LObj} {tr:List (List PV)} {stop:Bool} {a:Act} {w:World} {P:Program} {o:Oper}
theorem zg7 {t ty e:TypeId} {i:TypeInfo} (ht:P.underlying t=some (.slice e)) (hi:P.info? e=some i) {ad b:Option Addr} {n cap c:Nat} (hn:n<=cap) :
  (Builtin.append_ #[t,t] ty #[.slice ad n cap,.slice b 0 c]).run P w=.ok (.slice ad n cap) w:=by
 cases ad<;>cases b<;>simp [Builtin.append_,run_underlying ht,sizeOf,typeInfo,hi,Builtin.lenOf,Builtin.firstCells,loadCells,loadCellsFrom,storeCells,hn]
theorem zdD (h:Reps w B us (xs.flatMap PV.cells)) (h1:oneAll xs=true):∀ u ∈ us,u.oneCell'=true:=by
 intro u hu;obtain ⟨j,hj⟩:=xbl.1 hu;have hlt:j < (xs.flatMap PV.cells).length:=by rw [<-h.1];exact (xaa.1 hj).1
 have hp:=xac hlt;refine zp6 (h.2 j _ _ hj hp) ?_;have hm:=xcg hlt;obtain ⟨x,hx,hxp⟩:=xaw.1 hm;simp only [oneAll,xaO] at h1;exact h1 x hx _ hxp
theorem zcv {b:Nat} (hs:zX P e=some sz) (hb:bytesOf P e=some b) (hz:zB P e=some z) :
  ∃ i zv,P.info? e=some i/\i.size=sz/\i.bytes=b/\i.zero=some zv/\zv.cells.size=z.cells.length:=by
 obtain ⟨i,zv,h1,h2,h3⟩:=zaw hz;have e1:i.size=sz:=by simpa [zX,h1] using hs
 have e2:i.bytes=b:=by simpa [bytesOf,h1] using hb
 have:=(zZ (zbf h3 default (λ_=>True)) (zcM h3)).1
 exact ⟨i,zv,h1,e1,e2,h2,by simpa using this⟩
theorem zmT {b:Nat} (h:n*b<=140737488355328) (hb:0 < b):n<=maxLen:=by
 have:n*1<=n*b:=Nat.mul_le_mul_left _ hb;simp only [maxLen];omega
theorem zuq {base:Nat} (h:w.ownsRow base e sz v n us):w.ownsRow 0 e sz v n us:=
 ⟨h.1,h.2.imp id λ⟨gb,cap,cur,h1,_,h3⟩=>⟨gb,cap,cur,h1,xbk _,h3⟩⟩
theorem zbM (h:w.grownBy w' none):Below w.heap.size w w':=⟨h.os,h.tape,h.output,h.size,λk hk=>h.block k hk (λe=>by cases e)⟩
theorem zeb (xs ys:List PV):(xs++ys).flatMap PV.cells=xs.flatMap PV.cells++ys.flatMap PV.cells:=xa8
theorem zo0 (h:RelC X C g look tr stop a w) {t e:TypeId} {x y:Operand} {sz by_ d:Nat} {z:PV} {q:LV} {pre:Prop} {ys:List PV} {s':Nat} {rd:List Nat}
  (ho:o.op=.call { callee:=.builtin .append,args:=⟨[x,y]⟩,argTypes:=⟨[t,t]⟩ }) (ht:P.underlying t=some (.slice e)) (hs:zX P e=some sz) (hb:bytesOf P e=some by_) (hz:zB P e=some z)
  (h0:0 < sz) (hzl:z.cells.length=sz) (hb0:0 < by_) (hx:Rep w C.B (a.eval x) .nilsl) (hy:RepL w C look (a.eval y) q) (he:zba look q=some (pre,ys,s',rd)) (hp:pre) (hsz:ys=[]\/s'=sz) (h1:oneAll ys=true)
  (hby:ys.length*by_<=140737488355328) (hd:look d=none) :
  zt X g look tr stop a w P o ⟨.row d ys.length,some (d,.row e sz ys false),true,rd⟩:=by
 obtain ⟨i,zv,i1,i2,i3,i4,i5⟩:=zcv hs hb hz;obtain ⟨base,cap,hv,hne,hm⟩:=zc6 h hy he hp;have hxv:a.eval x=.slice none 0 0:=by generalize a.eval x=xv at hx;cases hx;rfl
 have hop:∀ {v':Value} {w':World},(Builtin.append_ #[t,t] o.type #[.slice none 0 0,.slice base ys.length cap]).run P w=.ok v' w'->(execOp a.eval o).run P w=.ok (.value v') w':=fun {v' w'} hr=>by
  unfold execOp;simp only [ho,resolve,invoke,builtin,Sem.run_bind,Sem.run_pure,Result.andThen_ok,List.map_toArray,xaj,xaF,hxv,hv,hr]
 by_cases hys:ys=[]
 ·subst hys;have hr:=zg7 (P:=P) (w:=w) (ty:=o.type) (ad:=none) (b:=base) (n:=0) (cap:=0) (c:=cap) ht i1 (xap _);refine ⟨.slice none 0 0,w,_,.inl (hop hr),zfb h hd (Below.refl _ _) (xs:=[]) (us:=[]) (World.ownsRow_nil w 0 e sz) .nil (by simp) h0 (λb hb=>by simp [Value.ownBlock] at hb),zer (zk _ _ _),.row (zk _ _ _) (xap _)⟩
 ·obtain ⟨ad,us,rfl,hl,hc,hus,hall⟩:=hne hys;have hss:s'=sz:=hsz.resolve_left hys;subst hss;obtain ⟨v',w',hr,hown,hgr,_⟩:=run_append_own (P:=P) w w.heap.size t o.type e i zv s' by_ ht i1 i4 i2 i3 (by omega) h0 (.slice none 0 0) 0 [] (World.ownsRow_nil w _ e s') ad ys.length cap us hl hc (zdD hus h1)
   (by simpa using zmT hby hb0) (by simpa using hby) (xap _)
  simp only [xb8,xaL] at hown;have hbel:Below w.heap.size w w':=zbM hgr;refine ⟨v',w',_,.inl (hop hr),zfb h hd hbel (zuq hown) (hus.mono (λ_ h=>h) (λb hb=>hbel.block b (h.blt b hb))) hall h0 (λb hb=>(hown.lt b hb).1),zer (zk _ _ _),.row (zk _ _ _) (xap _)⟩
theorem zoZ (h:RelC X C g look tr stop a w) {t e e':TypeId} {x y:Operand} {sz sz' by_ k n:Nat} {z:PV} {q:LV} {pre:Prop} {xs ys:List PV} {s':Nat} {rd rd':List Nat}
  (ho:o.op=.call { callee:=.builtin .append,args:=⟨[x,y]⟩,argTypes:=⟨[t,t]⟩ }) (ht:P.underlying t=some (.slice e)) (hs:zX P e=some sz) (hb:bytesOf P e=some by_) (hz:zB P e=some z)
  (h0:0 < sz) (hzl:z.cells.length=sz) (hb0:0 < by_) (hx:RepL w C look (a.eval x) (.row k n)) (hk:look k=some (.row e' sz' xs false)) (hee:e=e') (hss':sz=sz') (hn:n=xs.length)
  (hy:RepL w C look (a.eval y) q) (he:zba look q=some (pre,ys,s',rd)) (hp:pre) (hsz:ys=[]\/s'=sz) (h1:oneAll ys=true)
  (hby:(xs.length+ys.length)*by_<=140737488355328) :
  zt X g look tr stop a w P o ⟨.row k (xs++ys).length,some (k,.row e sz (xs++ys) false),false,rd'⟩:=by
 subst hee hss';obtain ⟨i,zv,i1,i2,i3,i4,i5⟩:=zcv hs hb hz;obtain ⟨base,cap,hv,hne,hm⟩:=zc6 h hy he hp;obtain ⟨us,hown,hus,hall,_⟩:=h.obj k _ hk;have hxv:a.eval x=C.cur k:=by generalize a.eval x=xv at hx;cases hx with|row hr=>exact hr _ _ _ _ hk hn.symm
 have hcap:∃ ad cp,C.cur k=.slice ad xs.length cp/\xs.length<=cp:=by
  rcases hown.2 with ⟨e1,e2⟩|⟨gb,cp,cur,e1,_,_,e4,_⟩
  ·exact ⟨none,0,by rw [e1,e2],by omega⟩
  ·exact ⟨_,cp,e1,e4⟩
 have hop:∀ {v':Value} {w':World},(Builtin.append_ #[t,t] o.type #[C.cur k,.slice base ys.length cap]).run P w=.ok v' w'->(execOp a.eval o).run P w=.ok (.value v') w':=fun {v' w'} hr=>by
  unfold execOp;simp only [ho,resolve,invoke,builtin,Sem.run_bind,Sem.run_pure,Result.andThen_ok,List.map_toArray,xaj,xaF,hxv,hv,hr]
 have key:∀ (v':Value) (w':World) (us':List Value),(Builtin.append_ #[t,t] o.type #[C.cur k,.slice base ys.length cap]).run P w=.ok v' w'->w.grownBy w' (C.cur k).ownBlock->w'.ownsRow 0 e sz v' (xs++ys).length us' ->
   Reps w' C.B us' ((xs++ys).flatMap PV.cells)->(∀ x ∈ xs++ys,x.cells.length=sz)->(ys=[]->v'=C.cur k)->(∀ b,v'.ownBlock=some b->(C.cur k).ownBlock=some b\/w.heap.size<=b) ->
   zt X g look tr stop a w P o ⟨.row k (xs++ys).length,some (k,.row e sz (xs++ys) false),false,rd'⟩:=by
  intro v' w' us' hr hgr hown' hus' hall' hsame hblk;refine ⟨v',w',{ C with cur:=upd C.cur k v' },.inl (hop hr),?_,zer (zk _ _ _),.row (zk _ _ _) (xap _)⟩;refine h.modify (o:=.row e sz xs false) (o':=.row e sz (xs++ys) false) hk ⟨rfl,rfl,by simp⟩ rfl rfl rfl rfl rfl rfl rfl rfl (λj hj=>zA _ _ hj) ?_ hgr ?_ trivial ?_
  ·intro e1 s1 l1 l2 f1 f2 q1 q2 hl;injection q1 with _ _ q1;injection q2 with _ _ q2;subst q1;subst q2;have:ys=[]:=xay (by simp at hl;simpa using hl)
   exact (zk _ _ _).trans (hsame this)
  ·exact ⟨us',by show w'.ownsRow 0 e sz (upd C.cur k v' k) _ _;rw [zk];exact hown',hus',hall',h0⟩
  ·intro b hb2;simp only [blk,zk] at hb2
   rcases hblk b hb2 with e1|e1
   ·exact .inl e1
   ·exact .inr ⟨e1,(hown'.lt b hb2).2⟩
 by_cases hys:ys=[]
 ·subst hys;obtain ⟨ad,cp,hcv,hcc⟩:=hcap;have hr:=zg7 (P:=P) (w:=w) (ty:=o.type) (ad:=ad) (b:=base) (n:=xs.length) (cap:=cp) (c:=cap) ht i1 hcc;rw [<-hcv] at hr;exact key _ w us hr ⟨rfl,rfl,rfl,xap _,λ_ _ _=>rfl⟩ (by simpa using hown) (by simpa using hus) (by simpa using hall) (λ_=>rfl) (λb hb=>.inl hb)
 ·obtain ⟨ad,ws,rfl,hl,hc,hws,hall2⟩:=hne hys;have hss:s'=sz:=hsz.resolve_left hys;subst hss;have hm63:xs.length+ys.length<=maxLen:=zmT hby hb0;obtain ⟨v',w',hr,hown',hgr,_⟩:=run_append_own (P:=P) w 0 t o.type e i zv s' by_ ht i1 i4 i2 i3 (by omega) h0 (C.cur k) xs.length us hown ad ys.length cap ws hl hc (zdD hws h1) hm63 hby (xbk _)
  have hrd:∀ b,C.B b->w'.heap[b]?=w.heap[b]?:=λb hb=>hgr.block b (h.blt b hb) λe1=>(h.sep k _ b hk e1.symm).2.2.1 rfl hb
  refine key v' w' (us++ws) hr hgr (by rw [xad];exact hown') ?_ (λx hx=>(xaS.1 hx).elim (hall x) (hall2 x)) (λh=>absurd h hys) ?_
  ·rw [zeb];exact (hus.append hws).mono (λ_ h=>h) hrd
  ·-- where the row lies now
   have hy0:0 < ys.length:=List.length_pos_iff.2 hys;intro b hb2
   rcases hown.2 with ⟨e1,e2⟩|⟨gb,cp,cur,e1,e2,e3,e4,e5,e6,e7⟩
   ·have hr2:=run_append_nil (P:=P) w t o.type e i zv ht i1 i4 ad ys.length cap ws (by rw [i2];exact hl) hc hy0 (by simp only [maxLen] at hm63;omega) (by rw [i3];have:ys.length*by_<=(xs.length+ys.length)*by_:=xba _ (by omega);omega)
    rw [e1,hr2] at hr;injection hr with hr _;subst hr;simp [Value.ownBlock] at hb2;exact .inr (by omega)
   ·by_cases hroom:xs.length+ys.length<=cp
    ·have hr2:=run_append_room (P:=P) w t o.type e i ht i1 gb xs.length cp cur e3 ad ys.length cap ws (by rw [i2];exact hl) hc (zdD hws h1) hroom (by rw [i2,hl,e6,<-xb0];exact xba _ hroom)
     rw [e1,hr2] at hr;injection hr with hr _;subst hr;rw [e1];exact .inl hb2
    ·have hlt:cp < xs.length+ys.length:=by omega
     have hr2:=run_append_grow (P:=P) w t o.type e i zv ht i1 i4 ⟨gb,0,none⟩ xs.length cp us (by rw [i2];exact hown.1) (hown.cells (g:=gb) (by rw [e1];rfl)) ad ys.length cap ws (by rw [i2];exact hl) hc hlt (by simp only [maxLen] at hm63;omega)
      (by rw [i3];exact growslice_fits hlt hby)
     rw [e1,hr2] at hr;injection hr with hr _;subst hr;simp [Value.ownBlock] at hb2;exact .inr (by omega)
end
theorem znu {l:List AOpd} (h:zap [x]=some l):∃ x',l=[x']/\zcw x=some x':=by
 simp only [zap] at h
 split at h
 ·rename_i p q h1 h2;injection h2 with h2;subst h2;injection h with h;subst h;exact ⟨_,rfl,h1⟩
 ·cases h
theorem zhU {r:List Operand} {l:List AOpd} (h:zap (x::r)=some l):∃ x' l',l=x'::l'/\zcw x=some x'/\zap r=some l':=by
 simp only [zap] at h
 split at h
 ·rename_i p q h1 h2;injection h with h;subst h;exact ⟨_,_,rfl,h1,h2⟩
 ·cases h
theorem zbw {l:List AOpd} (h:zap [x,y]=some l):∃ x' y',l=[x',y']/\zcw x=some x'/\zcw y=some y':=by
 obtain ⟨x',l',rfl,h1,h2⟩:=zhU h;obtain ⟨y',rfl,h3⟩:=znu h2;exact ⟨x',y',rfl,h1,h3⟩
theorem zkz {z:Operand} {l:List AOpd} (h:zap [x,y,z]=some l):∃ x' y' z',l=[x',y',z']/\zcw x=some x'/\zcw y=some y'/\zcw z=some z':=by
 obtain ⟨x',l',rfl,h1,h2⟩:=zhU h;obtain ⟨y',z',rfl,h3,h4⟩:=zbw h2;exact ⟨x',y',z',rfl,h1,h3,h4⟩
section
variable {X:Fx} {C:Ctx} {g:Nat->LV} {look:Nat->Option LObj} {tr:List (List PV)} {stop:Bool} {a:Act} {w:World} {P:Program} {o:Oper} {ao:AOp} {args:List AOpd} {E:AOpd->LV} {d:Nat} {pre:Prop} {eff:Eff}
theorem zj9 (hi:zaL w C look a [x'] E) (h:zcw x=some x'):RepL w C look (a.eval x) (E x')/\LV.Sc look (E x'):=hi x x' h (by simp)
theorem zcJ (hi:zaL w C look a [x',y'] E) (h:zcw x=some x'):RepL w C look (a.eval x) (E x')/\LV.Sc look (E x'):=hi x x' h (by simp)
theorem zcI (hi:zaL w C look a [x',y'] E) (h:zcw x=some y'):RepL w C look (a.eval x) (E y')/\LV.Sc look (E y'):=hi x y' h (by simp)
theorem zvw (h:RelC X C g look tr stop a w) (ho:o.op=.alloc t) (hc:zao P o=some (ao,args)) (he:zb d look ao (args.map E)=some (pre,eff)) (hd:eff.nw=true->look d=none):zt X g look tr stop a w P o eff:=by
 simp only [zao,ho,xab] at hc;obtain ⟨z,hz,hc⟩:=hc;injection hc with hc1 hc2;subst hc1;subst hc2;simp only [zb,xaF] at he;injection he with he;injection he with he1 he2;subst he2;exact zl7 h ho hz (hd rfl)
theorem zCb (h:RelC X C g look tr stop a w) (ho:o.op=.box t x) (hc:zao P o=some (ao,args)) (hi:zaL w C look a args E) (he:zb d look ao (args.map E)=some (pre,eff)) (hp:pre) (hd:eff.nw=true->look d=none):zt X g look tr stop a w P o eff:=by
 simp only [zao,ho,xab] at hc;obtain ⟨x',hx,hc⟩:=hc;injection hc with hc1 hc2;subst hc1;subst hc2;obtain ⟨hr,hs⟩:=zj9 hi hx;simp only [zb,xaj,xaF] at he;injection he with he;injection he with he1 he2;subst he1;subst he2;exact zr2 h ho hr hs hp (hd rfl)
theorem zjI {ps:List LV} (h:RepsL w C look vs ps) (k:RepsL w C look us qs):RepsL w C look (vs++us) (ps++qs):=zdk h k
theorem zhh (h:RepsL w C look vs (q::qs)):∃ v us,vs=v::us/\RepL w C look v q/\LV.Sc look q/\RepsL w C look us qs:=by
 match vs,h with
 | v::us,h=>exact ⟨v,us,rfl,(h.2 0 v q rfl rfl).1,(h.2 0 v q rfl rfl).2,by simpa using h.1,λj u x hu hx=>h.2 (j+1) u x (by simpa using hu) (by simpa using hx)⟩
 | [],h=>exact absurd h.1 (by simp)
theorem zhJ (ho:∀ k ob,look k=some ob->ObjRel w C look k ob):∀ (pl:List (Nat × Nat)) (vs:List Value) (ps:List LV) (cs:List Value) (zs:List LV),RepsL w C look vs ps->RepsL w C look cs zs->fillLOk look zs.length pl ps ->
  RepsL w C look ((pl.zip vs).foldl (λc x=>c.take x.1.1++x.2.cells.toList++c.drop (x.1.1+x.2.cells.size)) cs) (zff zs pl ps)
 | [],vs,ps,cs,zs,_,hz,_=>by
  have:zff zs [] ps=zs:=by cases ps<;>rfl
  rw [this];simpa using hz
 | (off,sz)::pl,vs,[],cs,zs,_,_,hok=>by simp [fillLOk] at hok
 | (off,sz)::pl,vs,p::ps,cs,zs,hv,hz,hok=>by
  obtain ⟨v,us,rfl,h1,h1s,h2⟩:=zhh hv;obtain ⟨e1,e2,e3,e4⟩:=hok;have hcv:=zc1 h1 h1s e3 ho;have hl:v.cells.size=p.cells.length:=by simpa using hcv.1
  simp only [xbS,xbn,zff];refine zhJ ho pl us ps _ _ h2 ?_ ?_
  ·refine zjI (zjI (zdA hz off) hcv) ?_;rw [hl];exact zdB hz _
  ·have:(zs.take off++p.cells++zs.drop (off+p.cells.length)).length=zs.length:=by
    simp only [xad,xan,xav];omega
   rw [this];exact e4
theorem zgR:∀ {n:Nat} {pl:List (Nat × Nat)} {ps:List LV},fillLOk look n pl ps->∀ (j off sz:Nat) (p:LV),pl[j]?=some (off,sz)->ps[j]?=some p->p.cells.length=sz/\off+sz<=n/\p.known look
 | _,[],_,_,j,off,sz,p,h1,_=>by simp at h1
 | _,_::_,[],h,_,_,_,_,_,_=>h.elim
 | n,(_,_)::pl,q::ps,h,j,off,sz,p,h1,h2=>by
  cases j with
  | zero=>simp at h1 h2;obtain ⟨rfl,rfl⟩:=h1;subst h2;exact ⟨h.1,h.2.1,h.2.2.1⟩
  | succ j=>exact zgR h.2.2.2 j off sz p (by simpa using h1) (by simpa using h2)
theorem zkt (h:RelC X C g look tr stop a w) {o:Oper} {z:List PV} {pl:List (Nat × Nat)} {ps:List LV} (ho:o.op=.build t parts) (hz:zB P t=some (.agg z))
  (hpl:zH P t (parts.toList.map (·.1))=some pl) (hr:RepsL w C look ((parts.toList.map (·.2)).map a.eval) ps) (hok:fillLOk look z.length pl ps) :
  zt X g look tr stop a w P o ⟨.agg (zff (z.map .p) pl ps),none,false,[]⟩:=by
 obtain ⟨i,zv,h1,h2,h3⟩:=zaw hz;have hzr:=zbf h3 w C.B;have hzc:RepsL w C look zv.cells.toList (z.map .p):=.of_reps (zZ hzr rfl);have hzip:(parts.map λ(i,x)=>(i,a.eval x)).toList=(parts.toList.map (·.1)).zip ((parts.toList.map (·.2)).map a.eval):=by
  rw [xbT]
  induction parts.toList with
  | nil=>rfl
  | cons x l ih=>simp only [xaj,xbS,ih]
 have hfit:∀ (j o' s:Nat) (v:Value),pl[j]?=some (o',s)->((parts.toList.map (·.2)).map a.eval)[j]?=some v->v.cells.size=s/\o'+s<=zv.cells.size:=by
  intro j o' s v hp hv;have hj:j < ps.length:=by rw [<-hr.1];exact (xaa.1 hv).1
  obtain ⟨e1,e2,e3⟩:=zgR hok j o' s _ hp (xac hj);obtain ⟨r1,r2⟩:=hr.2 j v _ hv (xac hj);have hc:=zc1 r1 r2 e3 h.obj;have l1:=hc.1;have l2:=hzc.1;simp at l1 l2
  omega
 have main:∀ place:Nat->Option (Nat × Nat),(parts.toList.map (·.1)).mapM place=some pl->∃ cs',Instr.fill place zv.cells ((parts.toList.map (·.1)).zip ((parts.toList.map (·.2)).map a.eval))=some cs'/\RepL w C look (.agg cs') (.agg (zff (z.map .p) pl ps))/\LV.Sc look (.agg (zff (z.map .p) pl ps)):=by
  intro place hp;obtain ⟨cs',f1,f2,f3⟩:=zeJ place _ pl ((parts.toList.map (·.2)).map a.eval) zv.cells hp (by simp) hfit
  have hfr:=zhJ h.obj pl _ ps _ (z.map .p) hr hzc (by simpa using hok)
  rw [<-f3] at hfr;have hl:cs'.toList.length=(zff (z.map .p) pl ps).length:=hfr.1;refine ⟨cs',f1,.agg (by simpa using hl) λj v p hv hp=>(hfr.2 j v p (by simpa using hv) hp).1,.agg λj p hp=>?_⟩
  have hj:j < cs'.toList.length:=by rw [hl];exact (xaa.1 hp).1
  exact (hfr.2 j _ p (xac hj) hp).2
 simp only [zH] at hpl
 split at hpl
 ·rename_i fs ht;obtain ⟨places,hp1,hp2⟩:=xao.1 hpl;obtain ⟨cs',f1,f2,f3⟩:=main _ hp2;have hb:P.built t (parts.map λ(i,x)=>(i,a.eval x)).toList=some cs':=by
   simp only [Program.built,h1,ht,h2,hp1,hzip];exact f1
  refine zbX h ?_ f2 f3;simp only [execOp,ho,Sem.run_bind,run_build w t _ _ hb,Result.andThen_ok,Sem.run_pure]
 ·rename_i n e ht;obtain ⟨ie,hp1,hp2⟩:=xao.1 hpl;obtain ⟨cs',f1,f2,f3⟩:=main _ hp2;have hb:P.built t (parts.map λ(i,x)=>(i,a.eval x)).toList=some cs':=by
   simp only [Program.built,h1,ht,h2,hp1,hzip];exact f1
  refine zbX h ?_ f2 f3;simp only [execOp,ho,Sem.run_bind,run_build w t _ _ hb,Result.andThen_ok,Sem.run_pure]
 ·cases hpl
theorem zvv (h:RelC X C g look tr stop a w) (ho:o.op=.build t parts) (hc:zao P o=some (ao,args)) (hi:zaL w C look a args E) (he:zb d look ao (args.map E)=some (pre,eff)) (hp:pre):zt X g look tr stop a w P o eff:=by
 simp only [zao,ho] at hc
 split at hc
 ·rename_i z pl l hz hpl hl;injection hc with hc;injection hc with hc1 hc2;subst hc1;subst hc2;simp only [zb] at he;injection he with he;have hr:=zbq hl (λ_ h=>h) hi
  split at he
  ·rename_i vs hv;injection he with he1 he2;subst he1;subst he2;rw [zdN hv] at hr;exact zl3 h ho hz hpl (zgo hr) hp
  ·injection he with he1 he2;subst he1;subst he2;exact zkt h ho hz hpl hr hp
 ·cases hc
theorem zrO (h:RelC X C g look tr stop a w) (ho:o.op=.buildSlice t len parts) (hc:zao P o=some (ao,args)) (hi:zaL w C look a args E) (he:zb d look ao (args.map E)=some (pre,eff)) (hp:pre) (hd:eff.nw=true->look d=none):zt X g look tr stop a w P o eff:=by
 simp only [zao,ho] at hc
 split at hc
 ·rename_i e ht
  split at hc
  ·rename_i sz z ag l hs hz hag hl
   split at hc
   ·rename_i hcond;injection hc with hc;injection hc with hc1 hc2;subst hc1;subst hc2;simp only [zb,xab] at he;obtain ⟨vs,hv,he⟩:=he;injection he with he1 he2;subst he1;subst he2;have hr:=zbq hl (λ_ h=>h) hi
    rw [zdN hv] at hr;exact zku h ho ht hs hz hcond.1 hcond.2.1 hcond.2.2.1 (zgo hr) hp (hd rfl)
   ·cases hc
  ·cases hc
 ·cases hc
theorem zzt (h:RelC X C g look tr stop a w) (ho:o.op=.load t x) (hc:zao P o=some (ao,args)) (hi:zaL w C look a args E) (he:zb d look ao (args.map E)=some (pre,eff)) (hp:pre):zt X g look tr stop a w P o eff:=by
 simp only [zao,ho] at hc
 split at hc
 ·rename_i sz ag x' hs hag hx;injection hc with hc;injection hc with hc1 hc2;subst hc1;subst hc2;obtain ⟨hr,hsc⟩:=zj9 hi hx;simp only [xaj,xaF] at he;generalize E x'=q at he hr hsc;cases q with
  | p v=>
   cases v with
   | ip v off=>
    simp only [zb] at he;injection he with he;injection he with he1 he2;subst he1;subst he2;exact ziB h ho hs hag (ze hr) hp
   | _=>simp [zb] at he
  | lp k off=>
   simp only [zb] at he
   split at he
   ·rename_i cs fz hk;injection he with he;injection he with he1 he2;subst he1;subst he2;exact ziA h ho hs hag hr hk hp.1 hp.2
   ·cases he
  | ep k n i off=>
   simp only [zb] at he
   split at he
   ·rename_i e esz xs fz hk;injection he with he;injection he with he1 he2;subst he1;subst he2;exact ziC h ho hs hag hr hk hp.1 hp.2.1 hp.2.2
   ·cases he
  | _=>simp [zb] at he
 ·cases hc
theorem zqD (h:oneL look q.cells):q.known look:=by
 cases q with
 | p v=>cases v<;>first|rfl|(simp [LV.cells,PV.cells,oneL,PV.one] at h)
 | g _ _=>exact h.elim
 | row k n=>exact h.1
 | ep _ _ _ _=>exact h.elim
 | any=>exact h.elim
 | _=>trivial
theorem zvq (h:RelC X C g look tr stop a w) (ho:o.op=.store t x y) (hc:zao P o=some (ao,args)) (hi:zaL w C look a args E) (he:zb d look ao (args.map E)=some (pre,eff)) (hp:pre):zt X g look tr stop a w P o eff:=by
 simp only [zao,ho] at hc
 split at hc
 ·rename_i sz l hs hl;injection hc with hc;injection hc with hc1 hc2;subst hc1;subst hc2;obtain ⟨x',y',rfl,hx,hy⟩:=zbw hl;obtain ⟨hr,hsc⟩:=zcJ hi hx;obtain ⟨hry,hscy⟩:=zcI hi hy;simp only [xaj,xaF] at he;generalize E x'=q at he hr hsc;generalize E y'=r at he hry hscy;cases q with
  | lp k off=>
   simp only [zb] at he
   split at he
   ·rename_i cs hk;injection he with he;injection he with he1 he2;subst he1;subst he2;exact zhf h ho hs hr hk (zc1 hry hscy (zqD hp.2.2) h.obj) hp.1 hp.2.1 hp.2.2
   ·cases he
  | ep k n i off=>
   cases r with
   | p v=>
    simp only [zb] at he
    split at he
    ·rename_i e esz xs hk;injection he with he;injection he with he1 he2;subst he1;subst he2;exact zhg h ho hs hr hk hp.1 hp.2.1 (ze hry) hp.2.2.1 hp.2.2.2.1 hp.2.2.2.2
    ·cases he
   | _=>simp [zb] at he
  | _=>cases r<;>simp [zb] at he
 ·cases hc
theorem zrL (h:RelC X C g look tr stop a w) (ho:o.op=.nilCheck x) (hc:zao P o=some (ao,args)) (hi:zaL w C look a args E) (he:zb d look ao (args.map E)=some (pre,eff)) (hp:pre):zt X g look tr stop a w P o eff:=by
 simp only [zao,ho,xab] at hc;obtain ⟨x',hx,hc⟩:=hc;injection hc with hc1 hc2;subst hc1;subst hc2;obtain ⟨hr,hs⟩:=zj9 hi hx;simp only [xaj,xaF] at he;generalize E x'=q at he hr hs;cases q with
 | p v=>
  cases v with
  | ip v off=>
   simp only [zb] at he;injection he with he;injection he with he1 he2;subst he2;exact zmO h ho (ze hr) (.inl ⟨_,_,rfl⟩)
  | fn f y z=>
   simp only [zb] at he;injection he with he;injection he with he1 he2;subst he1;subst he2;exact zmO h ho (ze hr) (.inr ⟨_,_,_,rfl,hp⟩)
  | _=>simp [zb] at he
 | lp k off=>
  simp only [zb] at he;injection he with he;injection he with he1 he2;subst he2;exact zmP h ho hr hs (.inl ⟨_,_,rfl⟩)
 | ep k n i off=>
  simp only [zb] at he
  split at he
  ·rename_i e sz xs fz hk;injection he with he;injection he with he1 he2;subst he1;subst he2;exact zuv h ho hr hs ⟨_,_,_,_,hk,hp⟩
  ·cases he
 | fn f y z=>
  simp only [zb] at he;injection he with he;injection he with he1 he2;subst he1;subst he2;exact zmP h ho hr hs (.inr ⟨_,_,_,rfl,hp⟩)
 | _=>simp [zb] at he
end
section
variable {X:Fx} {C:Ctx} {g:Nat->LV} {look:Nat->Option LObj} {tr:List (List PV)} {stop:Bool} {a:Act} {w:World} {P:Program} {o:Oper} {ao:AOp} {args:List AOpd} {E:AOpd->LV} {d:Nat} {pre:Prop} {eff:Eff}
theorem znf {r:LV} (he:zb d look (.eq ng ks ag) [q,r]=some (pre,eff)):∃ x y,q=.p x/\r=.p y/\pre=(eqCellsOk ks x.cells y.cells/\x.isAgg=ag/\y.isAgg=ag)/\eff=.ofP (.b (if ng then !eqCells x.cells y.cells else eqCells x.cells y.cells)):=by
 cases q<;>cases r<;>simp only [zb] at he<;>first|(cases he;done)|skip
 injection he with he;injection he with he1 he2;exact ⟨_,_,rfl,rfl,he1.symm,he2.symm⟩
theorem zCc (h:RelC X C g look tr stop a w) (ho:o.op=.binOp op t x y t') (hc:zao P o=some (ao,args)) (hi:zaL w C look a args E) (he:zb d look ao (args.map E)=some (pre,eff)) (hp:pre):zt X g look tr stop a w P o eff:=by
 simp only [zao,ho] at hc
 split at hc
 ·rename_i l hl;obtain ⟨x',y',rfl,hx,hy⟩:=zbw hl;have hbin:some (AOp.bin op,[x',y'])=some (ao,args)->zt X g look tr stop a w P o eff:=λhc=>by
   injection hc with hc;injection hc with hc1 hc2;subst hc1;subst hc2;obtain ⟨hr,hs⟩:=zcJ hi hx;obtain ⟨hry,hsy⟩:=zcI hi hy;simp only [xaj,xaF] at he;generalize E x'=q at he hr hs;generalize E y'=r at he hry hsy;cases q<;>cases r<;>simp only [zb] at he<;>first|(cases he;done)|skip
   obtain ⟨z,hz,he⟩:=xab.1 he;injection he with he1 he2;subst he1;subst he2;exact zr3 h ho (ze hr) (ze hry) hz hp
  split at hc
  ·exact hbin hc
  ·exact hbin hc
  ·rename_i ht;have key:∀ ng,op=(if ng then .neq else .eql)->some (AOp.eq ng [0] false,[x',y'])=some (ao,args)->zt X g look tr stop a w P o eff:=λng hop hc=>by
    injection hc with hc;injection hc with hc1 hc2;subst hc1;subst hc2;obtain ⟨hr,hs⟩:=zcJ hi hx;obtain ⟨hry,hsy⟩:=zcI hi hy;simp only [xaj,xaF] at he;obtain ⟨p,q,e1,e2,rfl,rfl⟩:=znf he;rw [e1] at hr;rw [e2] at hry;exact zrq h ho hop ht (ze hr) (ze hry) hp.1 hp.2.1 hp.2.2
   split at hc
   ·exact key false (by simpa using ‹op=.eql›) hc
   ·split at hc
    ·exact key true (by simpa using ‹op=.neq›) hc
    ·cases hc
  ·split at hc
   ·split at hc
    ·injection hc with hc;injection hc with hc1 hc2;subst hc1;subst hc2;simp [zb] at he
    ·split at hc
     ·injection hc with hc;injection hc with hc1 hc2;subst hc1;subst hc2;simp [zb] at he
     ·cases hc
   ·cases hc
  all_goals first|(cases hc;done)|skip
  all_goals
   split at hc
   ·rename_i hu _ ks hk;have hta:zC P t=some true:=by simp [zC,hu]
    split at hc
    ·rename_i hgt;have key:∀ ng,op=(if ng then .neq else .eql)->some (AOp.eq ng ks true,[x',y'])=some (ao,args)->zt X g look tr stop a w P o eff:=λng hop hc=>by
      injection hc with hc;injection hc with hc1 hc2;subst hc1;subst hc2;obtain ⟨hr,hs⟩:=zcJ hi hx;obtain ⟨hry,hsy⟩:=zcI hi hy;simp only [xaj,xaF] at he;obtain ⟨p,q,e1,e2,rfl,rfl⟩:=znf he;rw [e1] at hr;rw [e2] at hry;exact zu0 h ho hop hk hgt hta (ze hr) (ze hry) hp.1 hp.2.1 hp.2.2
     split at hc
     ·exact key false (by simpa using ‹op=.eql›) hc
     ·split at hc
      ·exact key true (by simpa using ‹op=.neq›) hc
      ·cases hc
    ·cases hc
   ·cases hc
 ·cases hc
theorem zB7 (h:RelC X C g look tr stop a w) {op:UnOp} (ho:o.op=.unOp op t x) (hc:zao P o=some (ao,args)) (hi:zaL w C look a args E) (he:zb d look ao (args.map E)=some (pre,eff)) (hp:pre):zt X g look tr stop a w P o eff:=by
 cases op<;>simp only [zao,ho,xab] at hc<;>first|(cases hc;done)|(cases hc;simp [zb] at he;done)|skip
 all_goals
  obtain ⟨x',hx,hc⟩:=hc;injection hc with hc1 hc2;subst hc1;subst hc2;obtain ⟨hr,hs⟩:=zj9 hi hx;simp only [xaj,xaF] at he;generalize E x'=q at he hr hs;cases q<;>try (simp [zb] at he;done)
  rename_i v;cases v<;>try (simp [zb] at he;done)
  simp only [zb] at he;injection he with he;injection he with he1 he2;subst he2
  first|exact zqI h ho (ze hr)|exact zqH h ho (ze hr)
theorem zoQ (h:RelC X C g look tr stop a w) {s:TypeId} (ho:o.op=.convert s t x) (hc:zao P o=some (ao,args)) (hi:zaL w C look a args E) (he:zb d look ao (args.map E)=some (pre,eff)) (hp:pre):zt X g look tr stop a w P o eff:=by
 simp only [zao,ho] at hc
 split at hc
 ·rename_i x' hs ht hx;injection hc with hc;injection hc with hc1 hc2;subst hc1;subst hc2;obtain ⟨hr,hsc⟩:=zj9 hi hx;simp only [xaj,xaF] at he;generalize E x'=q at he hr hsc;cases q<;>try (simp [zb] at he;done)
  rename_i v;cases v<;>try (simp [zb] at he;done)
  simp only [zb] at he;injection he with he;injection he with he1 he2;subst he2;exact zrI h ho hs ht (ze hr)
 ·rename_i x' hs ht hx;injection hc with hc;injection hc with hc1 hc2;subst hc1;subst hc2;obtain ⟨hr,hsc⟩:=zj9 hi hx;simp only [xaj,xaF] at he;generalize E x'=q at he hr hsc;cases q<;>try (simp [zb] at he;done)
  rename_i v;cases v<;>try (simp [zb] at he;done)
  simp only [zb] at he;injection he with he;injection he with he1 he2;subst he2;exact zrJ h ho hs ht (ze hr)
 ·cases hc
theorem zlY (h:RelC X C g look tr stop a w) {f:Fn} (ho:o.op=.makeFunc f first caps) (hc:zao P o=some (ao,args)) (hi:zaL w C look a args E) (he:zb d look ao (args.map E)=some (pre,eff)):zt X g look tr stop a w P o eff:=by
 simp only [zao,ho,xab] at hc;obtain ⟨l,hl,hc⟩:=hc;injection hc with hc1 hc2;subst hc1;subst hc2;have hr:=zbq hl (λ_ h=>h) hi
 have hlen:l.length=first.size+caps.size:=by rw [<-zg8 hl];simp
 have tk:∀ {vs:List Value} {qs:List LV} (n:Nat),RepsL w C look vs qs->RepsL w C look (vs.take n) (qs.take n):=fun {vs qs} n hh=>
  ⟨by simp [hh.1],λj v q hv hq=>by
   simp only [xaQ] at hv hq
   split at hv
   ·rename_i hj;rw [if_pos hj] at hq;exact hh.2 j v q hv hq
   ·cases hv⟩
 have dr:∀ {vs:List Value} {qs:List LV} (n:Nat),RepsL w C look vs qs->RepsL w C look (vs.drop n) (qs.drop n):=fun {vs qs} n hh=>
  ⟨by simp [hh.1],λj v q hv hq=>by simp only [xaY] at hv hq;exact hh.2 _ v q hv hq⟩
 have e1:=tk first.size hr;have e2:=dr first.size hr;rw [xa6,List.take_left' (by simp)] at e1
 rw [xa6,List.drop_left' (by simp)] at e2
 simp only [zb] at he
 split at he
 ·rename_i ps us h1 h2;injection he with he;injection he with he1 he2;subst he2;exact zhB h ho e1 e2 (.inr ⟨ps,us,zdN h1,zdN h2,rfl⟩)
 ·injection he with he;injection he with he1 he2;subst he2;exact zhB h ho e1 e2 (.inl rfl)
theorem zvr (h:RelC X C g look tr stop a w) {lo hi' mx:Option Operand} (ho:o.op=.slice t x lo hi' mx) (hc:zao P o=some (ao,args)) (hi:zaL w C look a args E) (he:zb d look ao (args.map E)=some (pre,eff)) (hp:pre):zt X g look tr stop a w P o eff:=by
 cases mx with
 | some m=>simp [zao,ho] at hc;obtain ⟨rfl,rfl⟩:=hc;simp [zb] at he
 | none=>
  simp only [zao,ho] at hc
  split at hc
  ·rename_i l ht hl;injection hc with hc;injection hc with hc1 hc2;subst hc1;subst hc2;cases lo with
   | none=>
    cases hi' with
    | none=>obtain ⟨x',rfl,hx⟩:=znu hl;simp [zb] at he
    | some j=>
     obtain ⟨x',y',rfl,hx,hy⟩:=zbw hl;obtain ⟨hr,_⟩:=zcJ hi hx;obtain ⟨hry,_⟩:=zcI hi hy;simp only [xaj,xaF,Option.isSome] at he;generalize E x'=q at he hr;generalize E y'=r at he hry;cases q<;>try (simp [zb] at he;done)
     rename_i v;cases v<;>try (simp [zb] at he;done)
     cases r<;>try (simp [zb] at he;done)
     rename_i v;cases v<;>try (simp [zb] at he;done)
     simp only [zb] at he;injection he with he;injection he with he1 he2;subst he1;subst he2;exact zs0 h ho ht (ze hr) (ze hry) hp.1 hp.2
   | some i=>
    cases hi' with
    | none=>
     obtain ⟨x',y',rfl,hx,hy⟩:=zbw hl;obtain ⟨hr,_⟩:=zcJ hi hx;obtain ⟨hry,_⟩:=zcI hi hy;simp only [xaj,xaF,Option.isSome] at he;generalize E x'=q at he hr;generalize E y'=r at he hry;cases q<;>try (simp [zb] at he;done)
     rename_i v;cases v<;>try (simp [zb] at he;done)
     cases r<;>try (simp [zb] at he;done)
     rename_i v;cases v<;>try (simp [zb] at he;done)
     simp only [zb] at he;injection he with he;injection he with he1 he2;subst he1;subst he2;exact zsZ h ho ht (ze hr) (ze hry) hp.1 hp.2
    | some j=>
     obtain ⟨x',y',z',rfl,hx,hy,hz⟩:=zkz hl;have hr:=(hi _ _ hx (by simp)).1
     have hry:=(hi _ _ hy (by simp)).1
     have hrz:=(hi _ _ hz (by simp)).1
     simp only [xaj,xaF,Option.isSome] at he;generalize E x'=q at he hr;generalize E y'=r at he hry;generalize E z'=s at he hrz;cases q<;>try (simp [zb] at he;done)
     rename_i v;cases v<;>try (simp [zb] at he;done)
     cases r<;>try (simp [zb] at he;done)
     rename_i v;cases v<;>try (simp [zb] at he;done)
     cases s<;>try (simp [zb] at he;done)
     rename_i v;cases v<;>try (simp [zb] at he;done)
     simp only [zb] at he;injection he with he;injection he with he1 he2;subst he1;subst he2;exact zpB h ho ht (ze hr) (ze hry) (ze hrz) hp.1 hp.2.1 hp.2.2
  ·rename_i e l ht hl;simp only [xab] at hc;obtain ⟨sz,hsz,hc⟩:=hc;injection hc with hc1 hc2;subst hc1;subst hc2;cases lo with
   | none=>
    cases hi' with
    | none=>obtain ⟨x',rfl,hx⟩:=znu hl;simp [zb] at he
    | some j=>
     obtain ⟨x',y',rfl,hx,hy⟩:=zbw hl;obtain ⟨hr,_⟩:=zcJ hi hx;obtain ⟨hry,_⟩:=zcI hi hy;simp only [xaj,xaF,Option.isSome] at he;generalize E x'=q at he hr;generalize E y'=r at he hry;cases q<;>try (simp [zb] at he;done)
     rename_i v;cases v<;>try (simp [zb] at he;done)
     cases r<;>try (simp [zb] at he;done)
     rename_i v;cases v<;>try (simp [zb] at he;done)
     simp only [zb] at he;injection he with he;injection he with he1 he2;subst he1;subst he2;obtain ⟨rfl,hp⟩:=hp;exact zs2 h ho ht hsz (ze hr) (ze hry) hp.1 hp.2
   | some i=>
    cases hi' with
    | none=>
     obtain ⟨x',y',rfl,hx,hy⟩:=zbw hl;obtain ⟨hr,_⟩:=zcJ hi hx;obtain ⟨hry,_⟩:=zcI hi hy;simp only [xaj,xaF,Option.isSome] at he;generalize E x'=q at he hr;generalize E y'=r at he hry;cases q<;>try (simp [zb] at he;done)
     rename_i v;cases v<;>try (simp [zb] at he;done)
     cases r<;>try (simp [zb] at he;done)
     rename_i v;cases v<;>try (simp [zb] at he;done)
     simp only [zb] at he;injection he with he;injection he with he1 he2;subst he1;subst he2;obtain ⟨rfl,hp⟩:=hp;exact zs1 h ho ht hsz (ze hr) (ze hry) hp.1 hp.2
    | some j=>
     obtain ⟨x',y',z',rfl,hx,hy,hz⟩:=zkz hl;have hr:=(hi _ _ hx (by simp)).1
     have hry:=(hi _ _ hy (by simp)).1
     have hrz:=(hi _ _ hz (by simp)).1
     simp only [xaj,xaF,Option.isSome] at he;generalize E x'=q at he hr;generalize E y'=r at he hry;generalize E z'=s at he hrz;cases q<;>try (simp [zb] at he;done)
     rename_i v;cases v<;>try (simp [zb] at he;done)
     cases r<;>try (simp [zb] at he;done)
     rename_i v;cases v<;>try (simp [zb] at he;done)
     cases s<;>try (simp [zb] at he;done)
     rename_i v;cases v<;>try (simp [zb] at he;done)
     simp only [zb] at he;injection he with he;injection he with he1 he2;subst he1;subst he2;obtain ⟨rfl,hp⟩:=hp;exact zpC h ho ht hsz (ze hr) (ze hry) (ze hrz) hp.1 hp.2.1 hp.2.2
  ·rename_i n e l ht hl
   split at hc
   ·rename_i hcond;obtain ⟨c1,c2,c3,c4⟩:=hcond;injection hc with hc;injection hc with hc1 hc2;subst hc1;subst hc2;cases lo<;>cases hi'<;>try (simp at c1 c2;done)
    obtain ⟨x',rfl,hx⟩:=znu hl;obtain ⟨hr,_⟩:=zj9 hi hx;simp only [xaj,xaF] at he;generalize E x'=q at he hr;cases q<;>try (simp [zb] at he;done)
    rename_i v;cases v<;>try (simp [zb] at he;done)
    simp only [zb] at he;injection he with he;injection he with he1 he2;subst he1;subst he2;obtain ⟨rfl,hp1,hp2⟩:=hp;exact zpE h ho ht c3 c4 (ze hr) hp1 hp2
   ·injection hc with hc;injection hc with hc1 hc2;subst hc1;simp [zb] at he
  ·cases hc
end
section
variable {X:Fx} {C:Ctx} {g:Nat->LV} {look:Nat->Option LObj} {tr:List (List PV)} {stop:Bool} {a:Act} {w:World} {P:Program} {o:Oper} {ao:AOp} {args:List AOpd} {E:AOpd->LV} {d:Nat} {pre:Prop} {eff:Eff}
theorem zdf (h:zdg P t=true) (em:Bool) (n:Nat) (v:Value):(Instr.checkKey em (n+1) t v).run P w=.ok () w:=by
 unfold zdg at h
 split at h
 ·rename_i ht;simp [Instr.checkKey,run_underlying ht]
 ·rename_i ht;simp [Instr.checkKey,run_underlying ht]
 ·rename_i ht;simp [Instr.checkKey,run_underlying ht]
 ·cases h
theorem zgk (h:zdg P t=true) (hk:flatK P (n+1) t=some ks):zX P t=some 1/\ks.length=1/\zC P t=some false:=by
 unfold zdg at h;simp only [flatK,xao] at hk;obtain ⟨ks',h1,h2⟩:=hk
 split at h
 all_goals first|(cases h;done)|skip
 all_goals
  rename_i ht;simp only [ht] at h1;injection h1 with h1;subst h1
  split at h2
  ·rename_i hc;injection h2 with h2;subst h2;exact ⟨hc.1,rfl,by simp [zC,ht]⟩
  ·cases h2
theorem zg0 (h:zjl P t=some ka) (hx:Rep w B v p) (hk:keyOk ka.1 ka.2 p p) (em:Bool):(Instr.checkKey em 10000 t v).run P w=.ok () w:=by
 unfold zjl at h
 split at h
 ·rename_i n e ht
  split at h
  ·rename_i hs;obtain ⟨ks,hf,rfl⟩:=xab.1 h;obtain ⟨hag,hok⟩:=hk;simp only at hag hok;simp only [flatK,xao,ht] at hf;obtain ⟨ks',h1,h2⟩:=hf;obtain ⟨ks1,h3,rfl⟩:=xab.1 h1
   split at h2
   case isFalse=>cases h2
   injection h2 with h2;subst h2;have hs1:=zgk (n:=0) (ks:=ks1) hs (by simpa [flatK] using h3)
   have hlen:=(zak hok).1;simp only [List.length_flatten,List.map_replicate,hs1.2.1,List.sum_replicate_nat,Nat.mul_one] at hlen;cases p<;>simp [PV.isAgg] at hag
   cases hx with
   | @agg cs ps c1 c2=>
    simp only [PV.cells] at hlen;rw [show (10000:Nat)=9999+1 from rfl,Instr.checkKey]
    simp only [Sem.run_bind,run_underlying ht,Result.andThen_ok];simp only [Std.Legacy.Range.forIn_eq_forIn_range',Std.Legacy.Range.size,Nat.sub_zero,Nat.add_one_sub_one,Nat.div_one];have each:∀ j ∈ List.range' 0 n,j < cs.size:=λj hj=>by
     have:=List.mem_range'_1.1 hj
     omega
    generalize List.range' 0 n=is at each
    induction is with
    | nil=>simp
    | cons j is ih=>
     have hp:=zeo (P:=P) (w:=w) (t:=e) (cs:=cs) (off:=j*1) hs1.1 hs1.2.2 (λ_=>by have:=each j (by simp);omega)
     simp only [List.forIn_cons,Sem.run_bind,zQ hs1.1,Result.andThen_ok,hp,zdf hs,Sem.run_pure];exact ih (λy hy=>each y (by simp [hy]))
  ·cases h
 ·rename_i fs ht
  split at h
  ·rename_i hs;obtain ⟨ks,hf,rfl⟩:=xab.1 h;obtain ⟨hag,hok⟩:=hk;simp only at hag hok;have hf2:flatK P (1+1) t=some ks:=hf;rw [flatK,ht] at hf2;simp only [xao] at hf2;obtain ⟨ks',h1,h2⟩:=hf2
   split at h1
   case isFalse=>cases h1
   split at h2
   case isFalse=>cases h2
   rename_i hc;clear hc;injection h2 with h2;subst h2;have hlen:=(zak hok).1;cases p<;>simp [PV.isAgg] at hag
   cases hx with
   | @agg cs ps c1 c2=>
    simp only [PV.cells] at hlen;rw [show (10000:Nat)=9999+1 from rfl,Instr.checkKey]
    simp only [Sem.run_bind,run_underlying ht,Result.andThen_ok];rw [<-Array.forIn_toList];have hs':=xaO.1 hs;have hb:0+ks'.length<=cs.size:=by omega
    generalize fs.toList=l at h1 hs';clear hlen hok hs h ht;generalize (0:Nat)=k at h1 hb;clear hf
    induction l generalizing k ks' with
    | nil=>simp
    | cons f l ih=>
     rw [zca] at h1
     split at h1
     case isFalse=>cases h1
     rename_i hn
     split at h1
     case h_2=>cases h1
     rename_i ks1 h3;obtain ⟨ks2,h4,rfl⟩:=xab.1 h1;have hs1:=zgk (n:=0) (ks:=ks1) (hs' f (by simp)) h3
     rw [xad] at hb;have hp:=zeo (P:=P) (w:=w) (t:=f.type) (cs:=cs) (off:=f.offset) hs1.1 hs1.2.2 (λ_=>by omega)
     simp only [List.forIn_cons,Sem.run_bind,hn.1,ne_eq,not_false_eq_true,if_true,hp,Result.andThen_ok,zdf (hs' f (by simp)),Sem.run_pure]
     apply ih<;>first|exact h4|exact (λx hx=>hs' x (xaH _ hx))|omega
  ·cases h
 ·split at h
  ·exact zdf ‹_› em 9999 v
  ·cases h
theorem zq2 (h:zjl P t=some ka):zsr P w B 10000 t ka.1/\zC P t=some ka.2:=by
 unfold zjl at h
 split at h
 ·rename_i n e ht
  split at h
  ·obtain ⟨ks,hf,rfl⟩:=xab.1 h;exact ⟨zbH 2 t ks hf 10000 (by omega),by simp [zC,ht]⟩
  ·cases h
 ·rename_i fs ht
  split at h
  ·obtain ⟨ks,hf,rfl⟩:=xab.1 h;exact ⟨zbH 2 t ks hf 10000 (by omega),by simp [zC,ht]⟩
  ·cases h
 ·split at h
  ·rename_i hs;obtain ⟨ks,hf,rfl⟩:=xab.1 h;exact ⟨zbH 1 t ks hf 10000 (by omega),(zgk hs hf).2.2⟩
  ·cases h
theorem zkh (h:zjl P t=some ka) (hx:Rep w B v p) (hy:Rep w B v' p') (hk:keyOk ka.1 ka.2 p p) (hk':keyOk ka.1 ka.2 p p') :
  (Op.equal t v v').run P w=.ok (eqCells p.cells p'.cells) w:=by
 obtain ⟨⟨ag,_,_,h2,_,h4⟩,h5⟩:=zq2 (w:=w) (B:=B) h;rw [h5] at h2;injection h2 with h2;exact h4 _ _ p p' hx hy (by rw [<-h2];exact hk.1) (by rw [<-h2];exact hk'.1) hk'.2
def Found (p:PV) (es:List MapEntry) (ps:List (PV × PV)) (i0:Nat):Option (Nat × Value)->Prop
 | none=>mget p ps=none/\∀ v,mput p v ps=ps++[(p,v)]
 | some (i,u)=>∃ j m kv,i=i0+j/\es[j]?=some m/\ps[j]?=some kv/\u=m.val/\mget p ps=some kv.2/\eqCells p.cells kv.1.cells=true/\∀ v,mput p v ps=ps.set j (p,v)
theorem Found.step {ps:List (PV × PV)} {r:Option (Nat × Value)} (hne:eqCells p.cells kv.1.cells=false) (h:Found p es ps (i0+1) r):Found p (m::es) (kv::ps) i0 r:=by
 cases r with
 | none=>
  obtain ⟨h1,h2⟩:=h;exact ⟨by obtain ⟨k,u⟩:=kv;simp only [mget];simp only at hne;rw [hne];simpa using h1,λv=>by obtain ⟨k,u⟩:=kv;simp only [mput];simp only at hne;rw [hne];simp [h2 v]⟩
 | some iu=>
  obtain ⟨i,u⟩:=iu;obtain ⟨j,m',kv',h1,h2,h3,h4,h5,h6,h7⟩:=h;exact ⟨j+1,m',kv',by omega,by simpa using h2,by simpa using h3,h4,by obtain ⟨k,u'⟩:=kv;simp only [mget];simp only at hne;rw [hne];simpa using h5,h6,λv=>by obtain ⟨k,u'⟩:=kv;simp only [mput];simp only at hne;rw [hne];simp [h7 v]⟩
theorem Found.here {ps:List (PV × PV)} (he:eqCells p.cells kv.1.cells=true):Found p (m::es) (kv::ps) i0 (some (i0,m.val)):=by
 obtain ⟨k,u⟩:=kv;exact ⟨0,m,(k,u),rfl,rfl,rfl,rfl,by simp only at he;simp [mget,he],he,λv=>by simp only at he;simp [mput,he]⟩
theorem zhT (h:zjl P t=some ka) (hx:Rep w B v p) (hk:keyOk ka.1 ka.2 p p):∀ (es:List MapEntry) (ps:List (PV × PV)) (i0:Nat),es.length=ps.length ->
  (∀ (j:Nat) (m:MapEntry) (kv:PV × PV),es[j]?=some m->ps[j]?=some kv->Rep w B m.key kv.1)->keysOk ka.1 ka.2 p ps->∃ r,(Instr.findAsking t v es i0).run P w=.ok r w/\Found p es ps i0 r
 | [],[],i0,_,_,_=>⟨none,by simp [Instr.findAsking],rfl,λv=>rfl⟩
 | [],_::_,_,hl,_,_=>by simp at hl
 | _::_,[],_,hl,_,_=>by simp at hl
 | m::es,kv::ps,i0,hl,hr,hks=>by
  have he:=zkh h hx (hr 0 m kv rfl rfl) hk hks.1;cases hc:eqCells p.cells kv.1.cells with
  | true=>exact ⟨some (i0,m.val),by rw [hc] at he;simp [Instr.findAsking,he],Found.here hc⟩
  | false=>
   obtain ⟨r,h1,h2⟩:=zhT h hx hk es ps (i0+1) (by simpa using hl) (λj m' kv' hm hkv=>hr (j+1) m' kv' (by simpa using hm) (by simpa using hkv)) hks.2
   exact ⟨r,by rw [hc] at he;simp [Instr.findAsking,he,h1],h2.step hc⟩
theorem zBm {q:PV} (h:keyOk ks ag p q):p≠.any/\q≠.any:=by
 obtain ⟨_,h⟩:=h
 constructor<;>rintro rfl
 ·match ks,h with
  | k::ks,h=>
   cases hq:q.cells with
   | nil=>rw [hq] at h;exact h.elim
   | cons y ys=>
    rw [hq] at h;have h1:=h.1;unfold eqOk at h1
    split at h1<;>simp_all
  | [],h=>cases hq:q.cells<;>rw [hq] at h<;>exact h.elim
 ·match ks,h with
  | k::ks,h=>
   cases hq:p.cells with
   | nil=>rw [hq] at h;exact h.elim
   | cons y ys=>
    rw [hq] at h;have h1:=h.1;unfold eqOk at h1
    split at h1<;>simp_all
  | [],h=>cases hq:p.cells<;>rw [hq] at h<;>exact h.elim
theorem znK {b:Bool} {q:PV} (hv:Rep w B v p) (hu:Rep w B u q) (hp:p≠.any) (hq:q≠.any) (h:Instr.sameNow td v u=some b):b=eqCells p.cells q.cells:=by
 unfold Instr.sameNow at h
 split at h
 ·split at h
  ·injection h with h;subst h;cases hv with
   | any=>exact absurd rfl hp
   | i _=>cases hu with
    | any=>exact absurd rfl hq
    | i _=>simp [PV.cells,eqCells,eqPV];rw [xbG];simp
  ·cases h
 ·injection h with h;subst h;cases hv with
  | any=>exact absurd rfl hp
  | s _=>cases hu with
   | any=>exact absurd rfl hq
   | s _=>simp only [PV.cells,eqCells,eqPV,xbL];rw [beq_toListBytes,zcu]
 ·injection h with h;subst h;cases hv with
  | any=>exact absurd rfl hp
  | b _=>cases hu with
   | any=>exact absurd rfl hq
   | b _=>simp [PV.cells,eqCells,eqPV];rw [xbG];simp
 ·cases h
theorem zqG (ht:P.underlying t=some td) (h:zjl P t=some ka) (hx:Rep w B v p) (hk:keyOk ka.1 ka.2 p p):∀ (es:List MapEntry) (ps:List (PV × PV)) (i0:Nat),es.length=ps.length ->
  (∀ (j:Nat) (m:MapEntry) (kv:PV × PV),es[j]?=some m->ps[j]?=some kv->Rep w B m.key kv.1)->keysOk ka.1 ka.2 p ps->∀ r,Instr.findNow td v es i0=some r->Found p es ps i0 r
 | [],[],i0,_,_,_,r,hr=>by simp [Instr.findNow] at hr;subst hr;exact ⟨rfl,λv=>rfl⟩
 | [],_::_,_,hl,_,_,_,_=>by simp at hl
 | _::_,[],_,hl,_,_,_,_=>by simp at hl
 | m::es,kv::ps,i0,hl,hr,hks,r,hfr=>by
  have he:=zkh h hx (hr 0 m kv rfl rfl) hk hks.1;have hsame:∀ b,Instr.sameNow td v m.key=some b->b=eqCells p.cells kv.1.cells:=λb hb=>znK hx (hr 0 m kv rfl rfl) (zBm hks.1).1 (zBm hks.1).2 hb
  simp only [Instr.findNow] at hfr
  split at hfr
  ·rename_i hs;injection hfr with hfr;subst hfr;exact Found.here (hsame true hs).symm
  ·rename_i hs;exact (zqG ht h hx hk es ps (i0+1) (by simpa using hl) (λj m' kv' hm hkv=>hr (j+1) m' kv' (by simpa using hm) (by simpa using hkv)) hks.2 r hfr).step (hsame false hs).symm
  ·cases hfr
theorem ziZ (h:zjl P t=some ka) (hx:Rep w B v p) (hk:keyOk ka.1 ka.2 p p) (es:List MapEntry) (ps:List (PV × PV)) (hl:es.length=ps.length)
  (hr:∀ (j:Nat) (m:MapEntry) (kv:PV × PV),es[j]?=some m->ps[j]?=some kv->Rep w B m.key kv.1) (hks:keysOk ka.1 ka.2 p ps):∃ r,(Instr.findKey t v es).run P w=.ok r w/\Found p es ps 0 r:=by
 have htd:∃ td,P.underlying t=some td:=by
  unfold zjl at h
  split at h
  ·exact ⟨_,‹_›⟩
  ·exact ⟨_,‹_›⟩
  ·split at h
   ·rename_i hs;unfold zdg at hs
    split at hs
    ·exact ⟨_,‹_›⟩
    ·exact ⟨_,‹_›⟩
    ·exact ⟨_,‹_›⟩
    ·cases hs
   ·cases h
 obtain ⟨td,ht⟩:=htd;unfold Instr.findKey;cases hf:Instr.findNow td v es 0 with
 | some r=>exact ⟨r,by simp [run_underlying ht,hf],zqG ht h hx hk es ps 0 hl hr hks r hf⟩
 | none=>
  obtain ⟨r,h1,h2⟩:=zhT h hx hk es ps 0 hl hr hks;exact ⟨r,by simp [run_underlying ht,hf,h1],h2⟩
theorem znl {k:Nat} (hx:Rep w B v p) (hy:Rep w B v' p') (hok:eqOk k p p') (he:eqPV p p'=true):Instr.sameBits n v v'=true:=by
 cases hx<;>cases hy<;>first|(simp [eqPV] at he;done)|skip
 ·simp [eqPV] at he;simp [Instr.sameBits,he]
 ·simp [eqPV] at he;have:∀ (a b:IntKind) (n m:Int),eqOk k (.i a n) (.i b m)->a=b:=λa b n m h=>by
   unfold eqOk at h
   split at h<;>simp_all
  have:=this _ _ _ _ hok;simp [Instr.sameBits,he,this]
 ·simp only [eqPV,decide_eq_true_eq] at he;subst he;simp only [Instr.sameBits];rw [beq_toListBytes,zcu];simp
theorem znm:∀ {ks:List Nat} {us vs:List Value} {ps qs:List PV},Reps w B us ps->Reps w B vs qs->eqCellsOk ks ps qs->eqCells ps qs=true->(us.zip vs).all (λ(x,y)=>Instr.sameBits n x y)=true
 | [],us,vs,[],[],hu,hv,_,_=>by rw [hu.nil_inv];simp
 | k::ks,us,vs,p::ps,q::qs,hu,hv,hok,he=>by
  obtain ⟨u,us',rfl,h1,h2⟩:=hu.cons_inv;obtain ⟨v,vs',rfl,h3,h4⟩:=hv.cons_inv;simp only [eqCells,xau] at he;have ih:=znm h2 h4 hok.2 he.2;simp only [xbS,List.all_cons,xau];exact ⟨znl h1 h3 hok.1 he.1,ih⟩
 | [],_,_,[],_::_,_,_,h,_=>h.elim
 | [],_,_,_::_,_,_,_,h,_=>h.elim
 | _::_,_,_,[],_,_,_,h,_=>h.elim
 | _::_,_,_,_::_,[],_,_,h,_=>h.elim
theorem zjx (hx:Rep w B v p) (hy:Rep w B v' p') (hk:keyOk ka.1 ka.2 p p) (hk':keyOk ka.1 ka.2 p p') (he:eqCells p.cells p'.cells=true) :
  (Instr.keyThatStays v' v).run P w=.ok v w:=by
 have key:Instr.sameBits 10000 v' v=true:=by
  obtain ⟨h1,h2⟩:=hk;obtain ⟨h3,h4⟩:=hk';have hsym:∀ {ks:List Nat} {xs ys:List PV},eqCellsOk ks xs ys->eqCells xs ys=true->eqCellsOk ks ys xs/\eqCells ys xs=true:=by
   intro ks
   induction ks with
   | nil=>
    intro xs ys h he
    match xs,ys,h with
    | [],[],_=>exact ⟨trivial,rfl⟩
   | cons k ks ih=>
    intro xs ys h he
    match xs,ys,h with
    | x::xs,y::ys,h=>
     simp only [eqCells,xau] at he;obtain ⟨i1,i2⟩:=ih h.2 he.2;have hs:eqOk k y x/\eqPV y x=true:=by
      have h1:=h.1;have he1:=he.1;unfold eqOk at h1
      split at h1<;>simp_all [eqOk,eqPV]
     exact ⟨⟨hs.1,i1⟩,by simp [eqCells,hs.2,i2]⟩
  obtain ⟨s1,s2⟩:=hsym h4 he;cases hag:ka.2 with
  | true=>
   rw [hag] at h1 h3;cases p<;>simp [PV.isAgg] at h1
   cases p'<;>simp [PV.isAgg] at h3
   cases hx with
   | agg c1 c2=>
    cases hy with
    | @agg cs ps d1 d2=>
     simp only [PV.cells] at s1 s2;have hb:=znm (n:=9999) (us:=cs.toList) (vs:=_) ⟨by rw [xbZ];exact d1,λj v p hv hp=>d2 j v p (by simpa using hv) hp⟩ ⟨by rw [xbZ];exact c1,λj v p hv hp=>c2 j v p (by simpa using hv) hp⟩ s1 s2
     have hl:=zak s1;simp only [Instr.sameBits,xau,beq_iff_eq];exact ⟨by omega,hb⟩
  | false=>
   have hc:p.cells=[p]/\p'.cells=[p']:=by
    rw [hag] at h1 h3;cases p<;>simp [PV.isAgg] at h1<;>cases p'<;>simp [PV.isAgg] at h3<;>exact ⟨rfl,rfl⟩
   rw [hc.1,hc.2] at s1 s2
   match hks:ka.1,s1 with
   | [k],s1=>
    simp only [eqCells,xau] at s2;exact znl hy hx s1.1 s2.1
   | [],s1=>exact s1.elim
   | _::_::_,s1=>exact s1.2.elim
 simp [Instr.keyThatStays,key]
end
end Go.Proofs.YtbgckikhhcbmpaaGreat
