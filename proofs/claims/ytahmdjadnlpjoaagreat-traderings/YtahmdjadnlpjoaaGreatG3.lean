/- The statement TradeRings of chapter 8 (trade) holds of the given program: a ring as often as it has slots gives each slot the holder that it had; a swap is its own inverse, and the ring of its two slots; the ring in the opposite order undoes a ring; and who transfers a slot, and has it transferred back, holds it as before, without shares. No conditions. -/
import Derived.ProofKit
import Derived.OpenShut
import Derived.Carry
import Derived.OpenVars
import Derived.HandedShaped
import Derived.KernelRfl
import Derived.Laws.RangeAny
import Derived.Test.YtahmdjadnlpjoaaGreatRows
import Derived.Test.YtahmdjadnlpjoaaGreatG2
set_option linter.all false
set_option maxHeartbeats 8000000
namespace Go.Proofs.YtahmdjadnlpjoaaGreat
open Go.RowKit
set_option maxRecDepth 100000
set_option linter.unusedVariables false
set_option linter.unusedSimpArgs false
set_option maxHeartbeats 4000000
theorem ya1 {b:Bk} (h:zG b=0) {f:Slt→Slt} (hn:∀ s,(f s).req.name=s.req.name) (hv:∀ s ∈ b.slots,chkSlt (f s)=0):zG ⟨b.slots.map f,b.wait⟩=0:=by
 have hnm:(b.slots.map f).map (·.req.name)=b.slots.map (·.req.name):=by rw [List.map_map];congr 1;funext s;exact hn s
 have hT:∀ k,((b.slots.map f).take k).map (·.req.name)=(b.slots.take k).map (·.req.name):=fun k=>by rw [List.map_take,hnm,List.map_take]
 have e3:wshErr ⟨b.slots.map f,b.wait⟩=wshErr b:=by funext k w;simp only [wshErr,hnm]
 have e4:zg ((b.slots.map f).mapIdx (sltErr ⟨b.slots.map f,b.wait⟩))=0:=by
  refine yB fun k x hx=>?_
  rw [List.getElem?_map] at hx
  cases hs:b.slots[k]? with
  | none=>rw [hs] at hx;cases hx
  | some s=>
   rw [hs] at hx
   have ex:f s=x:=Option.some.inj hx
   subst ex
   have h2:=fE0 (yU h hs) (if 0≤atL s.req.name ((b.slots.take k).map (·.req.name)) then 9 else 0) (by simp)
   refine zq.2 ⟨hv s (List.mem_of_getElem? hs),zq.2 ⟨?_,rfl⟩⟩
   rw [hn];simp only [hT];exact h2
 have c1:=fE0 h (if 64 < (b.slots.length:Int) then 5 else 0) (by simp)
 have c3:=fE0 h (if 64 < (b.wait.length:Int) then 5 else 0) (by simp)
 have c4:=fE0 h (zg (b.wait.mapIdx (wshErr b))) (by simp)
 refine zq.2 ⟨?_,zq.2 ⟨e4,zq.2 ⟨c3,zq.2 ⟨?_,rfl⟩⟩⟩⟩
 ·simp only [List.length_map];exact c1
 ·rw [e3];exact c4
theorem yav {s:Slt} (h:chkSlt s=0) (hl:s.ls=[]) {c:ByteArray} (hc:zaH c=0):chkSlt ⟨s.req,c,s.ls,[]⟩=0:=by
 have c1:=fE0 h (chkQ s.req) (by simp)
 rw [hl]
 exact zq.2 ⟨c1,zq.2 ⟨hc,zq.2 ⟨by simp,zq.2 ⟨by simp [zg],zq.2 ⟨by simp,zq.2 ⟨by simp [zg],rfl⟩⟩⟩⟩⟩⟩
instance decMem (n:ByteArray) (N:List ByteArray):Decidable (n ∈ N):=decidable_of_iff _ (ya n N)
def NoD (L:List ByteArray):Prop:=∀ (i j:Nat) (x:ByteArray),L[i]?=some x→L[j]?=some x→i=j
theorem ybG {H:List ByteArray} {f:Nat→ByteArray→Int} (hf:∀ i x,f i x=0→¬0≤atL x (H.take i)) (h:zg (H.mapIdx f)=0):NoD H:=by
 have key:∀ i j x,i < j→H[i]?=some x→H[j]?=some x→False:=fun i j x hij hi hj=>by
  have h1:=hf j x (yaD h hj)
  refine h1 ((ya _ _).2 (List.mem_of_getElem? (i:=i) ?_))
  rw [List.getElem?_take_of_lt hij];exact hi
 intro i j x hi hj
 rcases Nat.lt_trichotomy i j with k|k|k
 ·exact (key i j x k hi hj).elim
 ·exact k
 ·exact (key j i x k hj hi).elim
theorem ya0 {H:List ByteArray} (h:NoD H) {i:Nat} {x:ByteArray} (hx:H[i]?=some x):¬0≤atL x (H.take i):=fun k=>by
 obtain ⟨j,hj⟩:=List.mem_iff_getElem?.1 ((ya _ _).1 k)
 have hlt:j < (H.take i).length:=(List.getElem?_eq_some_iff.1 hj).1
 rw [List.length_take] at hlt
 rw [List.getElem?_take_of_lt (by omega)] at hj
 have:=h j i x hj hx
 omega
theorem ybW {H:List ByteArray} (h:NoD H) {i:Nat} {x:ByteArray} (hx:H[i]?=some x):atL x H=i:=by
 have:=idxF_atL (fun y:ByteArray=>y) x H
 rw [List.map_id'] at this
 rw [←this]
 refine idxF_hit (fun y hy=>decide_eq_false fun e=>?_) hx (decide_eq_true rfl)
 have e':y=x:=e
 rw [e'] at hy
 exact ya0 h hx ((ya _ _).2 hy)
def idxN (N:List ByteArray) (n:ByteArray):Nat:=(atL n N).toNat
theorem ya3 {N:List ByteArray} (h:NoD N) {i:Nat} {x:ByteArray} (hx:N[i]?=some x):idxN N x=i:=by rw [idxN,ybW h hx];rfl
theorem ybF {N:List ByteArray} {i:Nat} {x:ByteArray} (hx:N[i]?=some x):nth N i=x:=by rw [nth,hx];rfl
def yS (N:List ByteArray) (g:ByteArray→ByteArray) (s:Slt):Slt:=if s.req.name ∈ N then ⟨s.req,g s.req.name,s.ls,[]⟩ else s
def yc (b:Bk) (N:List ByteArray) (g:ByteArray→ByteArray):Bk:=⟨b.slots.map (yS N g),b.wait⟩
theorem yC (N:List ByteArray) (g:ByteArray→ByteArray) (s:Slt):(yS N g s).req=s.req:=by rw [yS];split<;>rfl
theorem ya5 (N:List ByteArray) (g:ByteArray→ByteArray) (s:Slt):(yS N g s).ls=s.ls:=by rw [yS];split<;>rfl
theorem yF (b:Bk) (N:List ByteArray) (g:ByteArray→ByteArray):(yc b N g).slots.map (·.req.name)=b.slots.map (·.req.name):=by
 rw [yc,List.map_map];congr 1;funext s;exact congrArg (·.name) (yC N g s)
theorem yah {b:Bk} {N:List ByteArray} {g:ByteArray→ByteArray} {n:ByteArray} (hat:¬atL n (b.slots.map (·.req.name)) < 0):zA (yc b N g) n=zA b n∧zo (yc b N g) n=yS N g (zo b n):=by
 obtain ⟨h1,h2,h3⟩:=slot_found hat
 refine ⟨by rw [zA,yF,zA],?_⟩
 rw [zo,yF]
 have:(atL n (b.slots.map (·.req.name))).toNat=zA b n:=rfl
 rw [this,yc];simp only
 rw [List.getElem?_map,h1];rfl
theorem yN {b:Bk} {n:ByteArray} (hat:¬atL n (b.slots.map (·.req.name)) < 0):(zo b n).req.name=n:=by
 have h:=yaK hat
 rw [List.getElem?_map,(slot_found hat).1] at h
 exact Option.some.inj h
theorem y8 {b:Bk} (h:zG b=0) {N:List ByteArray} (hN:NoD N) (hk:∀ n ∈ N,¬atL n (b.slots.map (·.req.name)) < 0):∀ k,k≤N.length→passT b N k=b.slots.map fun s=>if s.req.name ∈ N.take k then trS s (nth (passH b N) ((idxN N s.req.name+N.length - 1) % N.length)) else s
 | 0,_=>by simp [passT]
 | k+1,hlt=>by
  rw [passT,y8 h hN hk k (by omega)]
  obtain ⟨x,hx⟩:=zn (i:=k) (l:=N) (by omega)
  have hnx:=ybF hx
  have hkx:=hk x (List.mem_of_getElem? hx)
  obtain ⟨f1,f2,f3⟩:=slot_found hkx
  rw [hnx]
  apply List.ext_getElem?
  intro j
  by_cases e:zA b x=j
  ·subst e
   rw [List.getElem?_set_self (by rw [List.length_map];exact f3),List.getElem?_map,f1]
   have hm:(zo b x).req.name ∈ N.take (k+1):=by rw [yN hkx,zan hx];simp
   simp only [Option.map_some]
   rw [if_pos hm,yN hkx,ya3 hN hx]
  ·rw [List.getElem?_set_ne e,List.getElem?_map,List.getElem?_map]
   cases hs:b.slots[j]? with
   | none=>rfl
   | some s=>
    have hne:s.req.name≠x:=fun q=>e (by rw [←q];exact (yan h hs).1)
    simp only [Option.map_some]
    by_cases q:s.req.name ∈ N.take k
    ·rw [if_pos q,if_pos (by rw [zan hx];exact List.mem_append_left _ q)]
    ·rw [if_neg q,if_neg fun q2=>by
      rw [zan hx] at q2
      rcases List.mem_append.1 q2 with q2|q2
      ·exact q q2
      ·exact hne (List.mem_singleton.1 q2)]
def yj (N:List ByteArray) (g:ByteArray→ByteArray) (n:ByteArray):ByteArray:=nth (N.map g) ((idxN N n+N.length - 1) % N.length)
theorem ya4 (N M:List ByteArray) (hm:∀ n,n ∈ M↔n ∈ N) (g g':ByteArray→ByteArray) (s:Slt):(if (yS N g s).req.name ∈ M then trS (yS N g s) (g' (yS N g s).req.name) else yS N g s)=yS N g' s:=by
 rw [yC]
 by_cases k:s.req.name ∈ N
 ·rw [if_pos ((hm _).2 k),trS,yC,ya5,yS,if_pos k]
 ·rw [if_neg fun q=>k ((hm _).1 q),yS,yS,if_neg k,if_neg k]
theorem yby (N:List ByteArray) (g:ByteArray→ByteArray) (s:Slt):(if s.req.name ∈ N then trS s (g s.req.name) else s)=yS N g s:=by rw [yS,trS]
structure ybB (b:Bk) (N:List ByteArray) (g:ByteArray→ByteArray):Prop where
 n:NoD N
 k:∀ n ∈ N,¬atL n (b.slots.map (·.req.name)) < 0
 l:∀ n ∈ N,(zo b n).ls=[]
 h:NoD (N.map g)
 e:∀ n ∈ N,zaH (g n)=0
theorem yaf {b:Bk} (h:zG b=0) {N:List ByteArray} {g:ByteArray→ByteArray} (hr:ybB b N g):zG (yc b N g)=0:=by
 refine ya1 h (f:=yS N g) (fun s=>congrArg (·.name) (yC N g s)) fun s hs=>?_
 rw [yS];split
 ·rename_i k
  obtain ⟨i,hi⟩:=List.mem_iff_getElem?.1 hs
  have hl:=hr.l _ k
  rw [(yan h hi).2.1] at hl
  exact yav (yaH h hs) hl (hr.e _ k)
 ·exact yaH h hs
theorem yR {b:Bk} {N M:List ByteArray} {g:ByteArray→ByteArray} (hk:∀ n ∈ M,¬atL n (b.slots.map (·.req.name)) < 0):∀ n ∈ M,¬atL n ((yc b N g).slots.map (·.req.name)) < 0:=fun n hn=>by rw [yF];exact hk n hn
theorem hld_H {b:Bk} {N M:List ByteArray} {g:ByteArray→ByteArray} (hm:∀ n,n ∈ M↔n ∈ N) (hk:∀ n ∈ N,¬atL n (b.slots.map (·.req.name)) < 0):passH (yc b N g) M=M.map g:=by
 rw [passH,List.map_map]
 refine List.map_congr_left fun n hn=>?_
 have hn':=(hm n).1 hn
 simp only [Function.comp]
 rw [(yah (hk n hn')).2,yS,yN (hk n hn'),if_pos hn']
theorem yaW {b:Bk} {N:List ByteArray} (hl:∀ n ∈ N,(zo b n).ls=[]):passLn b N=false:=by
 rw [passLn,List.any_eq_false]
 intro s hs
 obtain ⟨n,hn,rfl⟩:=List.mem_map.1 hs
 rw [hl n hn];simp
theorem ybT {b:Bk} {N:List ByteArray} (hl:∀ n ∈ N,(zo b n).ls=[]) (hH:NoD (passH b N)):passE b N=0:=by
 rw [passE]
 refine zq.2 ⟨by rw [yaW hl];rfl,zq.2 ⟨?_,rfl⟩⟩
 exact yB fun i x hx=>if_neg (ya0 hH hx)
theorem ybv {b:Bk} {N:List ByteArray} (h:passE b N=0):(∀ n ∈ N,(zo b n).ls=[])∧NoD (passH b N):=by
 have h1:=fE0 h (if passLn b N=true then 19 else 0) (by simp)
 have h2:=fE0 h (zg ((passH b N).mapIdx (dupE (passH b N)))) (by simp)
 refine ⟨fun n hn=>?_,ybG (fun i x hx q=>by rw [dupE,if_pos q] at hx;omega) h2⟩
 by_cases k:passLn b N=true
 ·rw [if_pos k] at h1;omega
 ·have k':passLn b N=false:=by simpa using k
  rw [passLn,List.any_eq_false] at k'
  have:=k' _ (List.mem_map.2 ⟨n,hn,rfl⟩)
  have h3:¬0 < ((zo b n).ls.length:Int):=fun q=>this (decide_eq_true q)
  exact List.eq_nil_of_length_eq_zero (by omega)
theorem hld_ls {b:Bk} {N M:List ByteArray} {g:ByteArray→ByteArray} (hm:∀ n,n ∈ M↔n ∈ N) (hk:∀ n ∈ N,¬atL n (b.slots.map (·.req.name)) < 0) (hl:∀ n ∈ N,(zo b n).ls=[]):∀ n ∈ M,(zo (yc b N g) n).ls=[]:=fun n hn=>by
 have hn':=(hm n).1 hn
 rw [(yah (hk n hn')).2,ya5];exact hl n hn'
theorem yY {b:Bk} (h:zG b=0) {N M:List ByteArray} {g:ByteArray→ByteArray} (hr:ybB b N g) (hM:NoD M) (hm:∀ n,n ∈ M↔n ∈ N) (hMg:NoD (M.map g)):passE (yc b N g) M=0∧passB (yc b N g) M=yc b N (yj M g):=by
 have hH:passH (yc b N g) M=M.map g:=hld_H hm hr.k
 have hE:passE (yc b N g) M=0:=ybT (hld_ls hm hr.k hr.l) (by rw [hH];exact hMg)
 refine ⟨hE,?_⟩
 rw [passB,if_pos hE,y8 (yaf h hr) hM (yR fun n hn=>hr.k n ((hm n).1 hn)) _ (Nat.le_refl _),List.take_length,hH]
 have e1:(yc b N g).slots=b.slots.map (yS N g):=rfl
 have e2:(yc b N g).wait=b.wait:=rfl
 rw [e1,e2,List.map_map,yc]
 congr 2
 funext s
 exact ya4 N M hm g (yj M g) s
theorem yaN {b:Bk} (h:zG b=0) {N:List ByteArray} (hN:NoD N) (hk:∀ n ∈ N,¬atL n (b.slots.map (·.req.name)) < 0) (hE:passE b N=0):passB b N=yc b N (yj N fun n=>(zo b n).holder):=by
 have hH:passH b N=N.map fun n=>(zo b n).holder:=by rw [passH,List.map_map];rfl
 rw [passB,if_pos hE,y8 h hN hk _ (Nat.le_refl _),List.take_length,hH,yc]
 congr 2
 all_goals (funext s;exact yby N (yj N fun n=>(zo b n).holder) s)
theorem y7 {i n:Nat} (h:i < n):(i+n - 1) % n=if i=0 then n - 1 else i - 1:=by
 split
 ·rename_i k;subst k
  rw [Nat.zero_add];exact Nat.mod_eq_of_lt (by omega)
 ·rename_i k
  rw [show i+n - 1=(i - 1)+n by omega,Nat.add_mod_right]
  exact Nat.mod_eq_of_lt (by omega)
theorem yu {N:List ByteArray} (hN:NoD N) {g:ByteArray→ByteArray} {i:Nat} {x:ByteArray} (hx:N[i]?=some x):∃ y,N[(i+N.length - 1) % N.length]?=some y∧yj N g x=g y:=by
 have hi:=(List.getElem?_eq_some_iff.1 hx).1
 obtain ⟨y,hy⟩:=zn (i:=(i+N.length - 1) % N.length) (l:=N) (Nat.mod_lt _ (by omega))
 refine ⟨y,hy,?_⟩
 rw [yj,ya3 hN hx]
 exact ybF (by rw [List.getElem?_map,hy];rfl)
theorem yaU {N:List ByteArray} (hN:NoD N) {g:ByteArray→ByteArray} (hg:NoD (N.map g)):NoD (N.map (yj N g)):=by
 intro i j x hi hj
 rw [List.getElem?_map] at hi hj
 cases hni:N[i]? with
 | none=>rw [hni] at hi;cases hi
 | some a=>
  cases hnj:N[j]? with
  | none=>rw [hnj] at hj;cases hj
  | some c=>
   rw [hni] at hi;rw [hnj] at hj
   have e1:yj N g a=x:=Option.some.inj hi
   have e2:yj N g c=x:=Option.some.inj hj
   obtain ⟨y,hy,h1⟩:=yu hN (g:=g) hni
   obtain ⟨z,hz,h2⟩:=yu hN (g:=g) hnj
   have li:=(List.getElem?_eq_some_iff.1 hni).1
   have lj:=(List.getElem?_eq_some_iff.1 hnj).1
   have:=hg _ _ x (by rw [List.getElem?_map,hy];simp only [Option.map_some];rw [←h1,e1]) (by rw [List.getElem?_map,hz];simp only [Option.map_some];rw [←h2,e2])
   rw [y7 li,y7 lj] at this
   split at this<;>split at this<;>omega
theorem ybP {N:List ByteArray} (hN:NoD N) {g:ByteArray→ByteArray} (hg:∀ n ∈ N,zaH (g n)=0):∀ n ∈ N,zaH (yj N g n)=0:=fun n hn=>by
 obtain ⟨i,hi⟩:=List.mem_iff_getElem?.1 hn
 obtain ⟨y,hy,h1⟩:=yu hN (g:=g) hi
 rw [h1];exact hg y (List.mem_of_getElem? hy)
theorem ybQ {b:Bk} {N:List ByteArray} {g:ByteArray→ByteArray} (hr:ybB b N g):ybB b N (yj N g):=⟨hr.n,hr.k,hr.l,yaU hr.n hr.h,ybP hr.n hr.e⟩
theorem ybj {b:Bk} (h:zG b=0) {N:List ByteArray} (hN:NoD N) (hk:∀ n ∈ N,¬atL n (b.slots.map (·.req.name)) < 0) (hE:passE b N=0):ybB b N fun n=>(zo b n).holder:=by
 obtain ⟨h1,h2⟩:=ybv hE
 refine ⟨hN,hk,h1,?_,fun n hn=>?_⟩
 ·rw [passH,List.map_map] at h2;exact h2
 ·exact fE0 (yaH h (List.mem_of_getElem? (slot_found (hk n hn)).1)) _ (by simp)
def gT (b:Bk) (N:List ByteArray):Nat→ByteArray→ByteArray
 | 0=>fun n=>(zo b n).holder
 | t+1=>yj N (gT b N t)
theorem rg_t {b:Bk} {N:List ByteArray} (hr:ybB b N (gT b N 0)):∀ t,ybB b N (gT b N t)
 | 0=>hr
 | t+1=>ybQ (rg_t hr t)
theorem ybY {b:Bk} {N:List ByteArray} (hN:NoD N):∀ t {i:Nat} {x:ByteArray},N[i]?=some x→∃ y,N[(i+t*(N.length - 1)) % N.length]?=some y∧gT b N t x=(zo b y).holder
 | 0,i,x,hx=>by
  have hi:=(List.getElem?_eq_some_iff.1 hx).1
  refine ⟨x,?_,rfl⟩
  rw [Nat.zero_mul,Nat.add_zero,Nat.mod_eq_of_lt hi];exact hx
 | t+1,i,x,hx=>by
  have hi:=(List.getElem?_eq_some_iff.1 hx).1
  obtain ⟨y,hy,h1⟩:=yu hN (g:=gT b N t) hx
  obtain ⟨z,hz,h2⟩:=ybY hN t hy
  refine ⟨z,?_,by rw [gT,h1,h2]⟩
  rw [Nat.mod_add_mod] at hz
  have e2:i+(t+1)*(N.length - 1)=i+N.length - 1+t*(N.length - 1):=by rw [Nat.add_mul,Nat.one_mul];omega
  rw [e2];exact hz
theorem gT_len {b:Bk} {N:List ByteArray} (hN:NoD N) {n:ByteArray} (hn:n ∈ N):gT b N N.length n=(zo b n).holder:=by
 obtain ⟨i,hi⟩:=List.mem_iff_getElem?.1 hn
 have hl:=(List.getElem?_eq_some_iff.1 hi).1
 obtain ⟨y,hy,h1⟩:=ybY (b:=b) hN N.length hi
 rw [Nat.add_mul_mod_self_left,Nat.mod_eq_of_lt hl,hi] at hy
 rw [h1,Option.some.inj hy]
theorem yg {b:Bk} {N:List ByteArray} (h:yi b N=0):y3 N=0∧NoD N∧(∀ n ∈ N,¬atL n (b.slots.map (·.req.name)) < 0)∧passE b N=0:=by
 have h1:y3 N=0:=fE0 h _ (by simp)
 have h2:zg (N.mapIdx (yr b N))=0:=fE0 h _ (by simp)
 have h3:passE b N=0:=fE0 h _ (by simp)
 refine ⟨h1,?_,yX (fE0 h2),h3⟩
 refine ybG (fun i x hx q=>?_) h2
 have:=fE0 hx (if 0≤atL x (N.take i) then 9 else 0) (by simp)
 rw [if_pos q] at this;omega
theorem yao {b:Bk} {N:List ByteArray} (h1:y3 N=0) (hN:NoD N) (hk:∀ n ∈ N,¬atL n (b.slots.map (·.req.name)) < 0) (hE:passE b N=0):yi b N=0∧yd b N=passB b N:=by
 have hC:yi b N=0:=by
  refine zq.2 ⟨h1,zq.2 ⟨yB fun i x hx=>?_,zq.2 ⟨hE,rfl⟩⟩⟩
  exact zq.2 ⟨if_neg (hk x (List.mem_of_getElem? hx)),zq.2 ⟨if_neg (ya0 hN hx),rfl⟩⟩
 exact ⟨hC,by rw [yd,if_pos hC]⟩
theorem yaT {b:Bk} (h:zG b=0) {N:List ByteArray} (hC:yi b N=0):ybB b N (gT b N 0)∧yd b N=yc b N (gT b N 1)∧∀ t,zG (yc b N (gT b N t))=0∧yi (yc b N (gT b N t)) N=0∧yd (yc b N (gT b N t)) N=yc b N (gT b N (t+1)):=by
 obtain ⟨h1,hN,hk,hE⟩:=yg hC
 have hr:ybB b N (gT b N 0):=ybj h hN hk hE
 refine ⟨hr,by rw [yd,if_pos hC,yaN h hN hk hE];rfl,fun t=>?_⟩
 have hrt:=rg_t hr t
 obtain ⟨p1,p2⟩:=yY h hrt hN (fun n=>Iff.rfl) hrt.h
 obtain ⟨r1,r2⟩:=yao h1 hN (yR hk) p1
 exact ⟨yaf h hrt,r1,by rw [r2,p2];rfl⟩
theorem y9 {L:List ByteArray} (h:NoD L):NoD L.reverse:=by
 intro i j x hi hj
 have li:=(List.getElem?_eq_some_iff.1 hi).1
 have lj:=(List.getElem?_eq_some_iff.1 hj).1
 rw [List.length_reverse] at li lj
 rw [List.getElem?_reverse li] at hi
 rw [List.getElem?_reverse lj] at hj
 have:=h _ _ x hi hj
 omega
theorem ybH {b:Bk} {N:List ByteArray} (hN:NoD N) {n:ByteArray} (hn:n ∈ N):yj N.reverse (gT b N 1) n=(zo b n).holder:=by
 obtain ⟨j,hj⟩:=List.mem_iff_getElem?.1 hn
 have lj:=(List.getElem?_eq_some_iff.1 hj).1
 have hjr:N.reverse[N.length - 1 - j]?=some n:=by
  rw [List.getElem?_reverse (by omega),show N.length - 1 - (N.length - 1 - j)=j by omega];exact hj
 obtain ⟨y,hy,h1⟩:=yu (y9 hN) (g:=gT b N 1) hjr
 rw [h1]
 rw [List.length_reverse,y7 (by omega)] at hy
 have hq:∃ q,q < N.length∧N[q]?=some y∧(q+(N.length - 1)) % N.length=j:=by
  by_cases k:N.length - 1 - j=0
  ·rw [if_pos k,List.getElem?_reverse (by omega)] at hy
   refine ⟨_,by omega,hy,?_⟩
   rw [show N.length - 1 - (N.length - 1)+(N.length - 1)=N.length - 1 by omega,Nat.mod_eq_of_lt (by omega)];omega
  ·rw [if_neg k,List.getElem?_reverse (by omega)] at hy
   refine ⟨_,by omega,hy,?_⟩
   rw [show N.length - 1 - (N.length - 1 - j - 1)+(N.length - 1)=j+N.length by omega,Nat.add_mod_right,Nat.mod_eq_of_lt lj]
 obtain ⟨q,_,hyq,hqj⟩:=hq
 obtain ⟨z,hz,h2⟩:=ybY (b:=b) hN 1 hyq
 rw [Nat.one_mul,hqj,hj] at hz
 rw [h2,Option.some.inj hz]
theorem yac {b:Bk} (h:zG b=0) {N:List ByteArray} (hC:yi b N=0):yi (yd b N) N.reverse=0∧yd (yd b N) N.reverse=yc b N (yj N.reverse (gT b N 1)):=by
 obtain ⟨h1,hN,hk,hE⟩:=yg hC
 obtain ⟨hr,e,_⟩:=yaT h hC
 have hr1:=rg_t hr 1
 have hm:∀ n,n ∈ N.reverse↔n ∈ N:=fun n=>List.mem_reverse
 have hMg:NoD (N.reverse.map (gT b N 1)):=by rw [List.map_reverse];exact y9 hr1.h
 obtain ⟨p1,p2⟩:=yY h hr1 (y9 hN) hm hMg
 have hF:y3 N.reverse=0:=by rw [y3,List.length_reverse];exact h1
 obtain ⟨r1,r2⟩:=yao hF (y9 hN) (yR fun n hn=>hk n ((hm n).1 hn)) p1
 rw [e]
 exact ⟨r1,by rw [r2,p2]⟩
theorem yM {b:Bk} {o t:ByteArray} (h:swpC b o t=0):(∀ n ∈ [o,t],¬atL n (b.slots.map (·.req.name)) < 0)∧o≠t∧passE b [o,t]=0:=by
 by_cases hF:swpF b o t=0
 ·rw [swpC,if_pos hF] at h
  have h1:=unk_0 (fE0 hF (unkE b o) (by simp))
  have h2:=unk_0 (fE0 hF (unkE b t) (by simp))
  have h3:=fE0 hF (if o=t then 9 else 0) (by simp)
  refine ⟨fun n hn=>?_,fun q=>by rw [if_pos q] at h3;omega,h⟩
  rcases List.mem_cons.1 hn with rfl|hn
  ·exact h1
  ·rw [List.mem_singleton.1 hn];exact h2
 ·rw [swpC,if_neg hF] at h;exact absurd h hF
theorem yaZ {o t:ByteArray} (h:o≠t):NoD [o,t]:=by
 intro i j x hi hj
 match i,j,hi,hj with
 | 0,0,_,_=>rfl
 | 0,1,hi,hj=>exact absurd ((Option.some.inj hi).trans (Option.some.inj hj).symm) h
 | 1,0,hi,hj=>exact absurd ((Option.some.inj hj).trans (Option.some.inj hi).symm) h
 | 1,1,_,_=>rfl
 | 0,j+2,_,hj=>simp at hj
 | 1,j+2,_,hj=>simp at hj
 | i+2,_,hi,_=>simp at hi
theorem yau {b:Bk} {o t:ByteArray} (h:swpC b o t=0):yi b [o,t]=0∧yd b [o,t]=swpB b o t:=by
 obtain ⟨h1,h2,h3⟩:=yM h
 obtain ⟨r1,r2⟩:=yao (N:=[o,t]) rfl (yaZ h2) h1 h3
 exact ⟨r1,by rw [r2,swpB,if_pos h]⟩
theorem ybe {b:Bk} (hb:zG b=0) {o t:ByteArray} (h:swpC b o t=0):zG (swpB b o t)=0∧swpC (swpB b o t) t o=0∧swpB (swpB b o t) t o=yc b [o,t] (yj [t,o] (gT b [o,t] 1)):=by
 obtain ⟨h1,h2,h3⟩:=yM h
 obtain ⟨c1,c2⟩:=yau h
 obtain ⟨hr,e,hv⟩:=yaT hb c1
 obtain ⟨b1,b2⟩:=yac hb c1
 have hrev:[o,t].reverse=[t,o]:=rfl
 rw [hrev] at b1 b2
 rw [c2] at b1 b2 e
 obtain ⟨_,_,k2,k3⟩:=yg b1
 have hF:swpF (swpB b o t) t o=0:=zq.2 ⟨if_neg (k2 t (by simp)),zq.2 ⟨if_neg (k2 o (by simp)),zq.2 ⟨if_neg fun q=>h2 q.symm,rfl⟩⟩⟩
 have hC:swpC (swpB b o t) t o=0:=by rw [swpC,if_pos hF];exact k3
 refine ⟨by rw [e];exact (hv 1).1,hC,?_⟩
 rw [swpB,if_pos hC,←b2,yd,if_pos b1]
theorem yaa {b:Bk} (h:zG b=0) {N:List ByteArray} {g:ByteArray→ByteArray} (hg:∀ n ∈ N,g n=(zo b n).holder) {i:Nat} {s:Slt} (hs:b.slots[i]?=some s):∃ y,(yc b N g).slots[i]?=some y∧y.req=s.req∧y.holder=s.holder:=by
 refine ⟨yS N g s,by rw [yc];simp only;rw [List.getElem?_map,hs];rfl,yC N g s,?_⟩
 rw [yS];split
 ·rename_i k
  simp only
  rw [hg _ k,(yan h hs).2.1]
 ·rfl
theorem y1 {b:Bk} {c n to:ByteArray} (h:trC b c n to=0):ownE b c n (zaH to)=0∧zaH to=0∧to≠(zo b n).holder∧(zo b n).ls=[]:=by
 have h1:ownE b c n (zaH to)=0:=fE0 h _ (by simp)
 have h2:trE (zo b n) to=0:=fE0 h _ (by simp)
 have h3:=fE0 h2 (if to=(zo b n).holder then 31 else 0) (by simp)
 have h4:=fE0 h2 (if 0 < ((zo b n).ls.length:Int) then 19 else 0) (by simp)
 refine ⟨h1,own_e h1,fun q=>by rw [if_pos q] at h3;omega,?_⟩
 by_cases k:0 < ((zo b n).ls.length:Int)
 ·rw [if_pos k] at h4;omega
 ·exact List.eq_nil_of_length_eq_zero (by omega)
theorem ybd {b:Bk} (h:zG b=0) {c n to:ByteArray} (hC:trC b c n to=0):zG (trB b c n to)=0:=by
 obtain ⟨h1,h2,_,h4⟩:=y1 hC
 rw [trB,if_pos hC]
 exact yba h h1 rfl (yav (yaY h h1) h4 h2)
theorem ybN {b:Bk} {c n to:ByteArray} (hC:trC b c n to=0):trC (trB b c n to) to n c=0∧trB (trB b c n to) to n c=chgB b n ⟨(zo b n).req,c,(zo b n).ls,[]⟩:=by
 obtain ⟨h1,h2,h3,h4⟩:=y1 hC
 obtain ⟨o1,o2,o3,o4⟩:=za8 h1
 have hB:trB b c n to=chgB b n (trS (zo b n) to):=by rw [trB,if_pos hC]
 obtain ⟨g1,g2,g3⟩:=yaF (s':=trS (zo b n) to) o1 rfl
 have hc:zaH c=0:=fE0 o4 _ (by simp)
 have hO:ownE (chgB b n (trS (zo b n) to)) to n (zaH c)=0:=by
  have hf:fndE (chgB b n (trS (zo b n) to)).slots n=0:=by rw [fndE,g1,if_neg o1]
  rw [ownE,g3]
  exact zq.2 ⟨h2,zq.2 ⟨hf,zq.2 ⟨hc,zq.2 ⟨if_pos rfl,rfl⟩⟩⟩⟩
 have hE:trE (trS (zo b n) to) c=0:=by
  refine zq.2 ⟨if_neg fun q=>h3 (show to=(zo b n).holder from (o3.trans q).symm),zq.2 ⟨?_,rfl⟩⟩
  refine if_neg fun q=>?_
  have e:(trS (zo b n) to).ls=(zo b n).ls:=rfl
  rw [e,h4] at q;simp at q
 have hC2:trC (trB b c n to) to n c=0:=by rw [hB,trC,chgC,g3];exact zq.2 ⟨hO,zq.2 ⟨hE,rfl⟩⟩
 refine ⟨hC2,?_⟩
 rw [trB,if_pos hC2,hB,g3,yb8 (s':=trS (zo b n) to) o1 rfl];rfl
theorem ybM {b:Bk} {c n to:ByteArray} (hC:trC b c n to=0) {i:Nat} {s:Slt} (hs:b.slots[i]?=some s):∃ y,(chgB b n ⟨(zo b n).req,c,(zo b n).ls,[]⟩).slots[i]?=some y∧y.req=s.req∧y.holder=s.holder:=by
 obtain ⟨h1,_,_,_⟩:=y1 hC
 obtain ⟨_,o2,o3,_⟩:=za8 h1
 rw [chgB];simp only
 by_cases k:zA b n=i
 ·subst k
  rw [o2] at hs
  have e:zo b n=s:=Option.some.inj hs
  exact ⟨⟨(zo b n).req,c,(zo b n).ls,[]⟩,List.getElem?_set_self (List.getElem?_eq_some_iff.1 o2).1,(show (zo b n).req=s.req from congrArg Slt.req e),(show c=s.holder from o3.symm.trans (congrArg Slt.holder e))⟩
 ·exact ⟨s,by rw [List.getElem?_set_ne k];exact hs,rfl,rfl⟩
set_option maxRecDepth 100000
set_option linter.unusedVariables false
set_option linter.unusedSimpArgs false
set_option maxHeartbeats 8000000
theorem yK (y b:Bk) (hyn:y.slots.length≤1000) (hl:y.slots.length=b.slots.length) (h:∀ (i:Nat) (s:Slt),b.slots[i]?=some s→∃ t:Slt,y.slots[i]?=some t∧t.req=s.req∧t.holder=s.holder):Pure Tryz.prog 75 [y.pv,b.pv] (.b true):=by
 refine zf (cF Tryz.func75 Tryz.f75.eq_1) (by simp) fun hw X hX=>?_
 have hl':((y.slots.length:Int)=b.slots.length)=True:=eq_true (by omega)
 have qe:=aI qR (aI @hl' (aI @zbb (aI @decide_true @Bool.not_true)));repeat' first|refine gC (fun hc=>?_) (fun hc=>?_)<;>try contradiction|refine gG ?_|show AK _;intro K H|refine H _ _ ?_;clear H K|refine gJ ?_;try exact trivial|omega
 refine zk (κ:=Nat) (fun i=>⟨[(3,.lp 3 0),(15,.p (.sl 16 (y.slots.map Slt.pv))),(16,.p (.i .i64 y.slots.length)),(17,.p (.i .i64 i))],[(3,.box [.p (.sl 16 (b.slots.map Slt.pv)),.p (.sl 14 (b.wait.map Wsh.pv))] false)],[],false⟩) (fun i=>i≤y.slots.length) (fun i=>y.slots.length - i) 0 ?_ ?_ ?_
 ·exact sS
 ·simp
 ·intro i hi
  repeat first|refine gG ?_|show AK _;intro K H|refine H _ _ ?_;clear H K|refine gJ ?_;try exact trivial|omega
  (refine gC (fun hc=>?_) (fun hc=>?_)<;>try contradiction)
  ·obtain ⟨s,hs⟩:=zn (i:=i) (l:=b.slots) (by omega)
   obtain ⟨t,ht,h1,h2⟩:=h i s hs
   obtain ⟨tq,th,tl,ts⟩:=t
   simp only at h1 h2
   subst h1 h2
   have qe:=aI qR (aI @hs (aI @ht (aI @zbb (aI @ya8 (aI @decide_true (aI @Bool.not_true @Bool.and_self))))));repeat' first|refine gC (fun hc=>?_) (fun hc=>?_)<;>try contradiction|refine gG ?_|show AK _;intro K H|refine H _ _ ?_;clear H K|refine gJ ?_;try exact trivial|omega
   all_goals exact ⟨i+1,by omega,by omega,by simp⟩
  ·have qe:=@qR;repeat' first|refine gC (fun hc=>?_) (fun hc=>?_)<;>try contradiction|refine gG ?_|show AK _;intro K H|refine H _ _ ?_;clear H K|refine gJ ?_;try exact trivial|omega
   all_goals exact .refl _
theorem yag {b:Bk} (hb:BkOk b) (N:List ByteArray) (g:ByteArray→ByteArray):BkOk (yc b N g):=by
 refine ⟨fun s hs=>?_,by simp only [yc,List.length_map];exact hb.n,hb.w⟩
 obtain ⟨s0,h0,rfl⟩:=List.mem_map.1 hs
 have h1:=hb.s s0 h0
 rw [yS];split
 ·exact ⟨h1.1,by simp⟩
 ·exact h1
theorem ybu (b:Bk) (x:Exc):Pure Tryz.prog 11 [b.pv,x.pv] (.b true):=by
 refine zf (cF Tryz.func11 Tryz.f11.eq_1) (by simp) fun hw X hX=>?_
 by_cases hb:ybh b=true
 ·by_cases hx:yk x=true
  ·have hC:=ybt b
   by_cases hkb:zG b=0
   ·have hn:=nar_n hx
    obtain ⟨hok,hl1,hl2⟩:=sh_ok hb
    rw [hkb] at hC
    have hA:=fun l:List ByteArray=>eq_true (allSt l)
    have h59:=ybq x (by omega)
    generalize nthW x.slots 0=p at h59
    generalize nthW x.slots 1=k at h59
    have hR:=yL b x.slots (fun _=>hok) (by omega)
    rw [bkTo_ok hkb yO] at hR
    have hS:=pure1060 b p k (fun _=>hok)
    rw [bkTo_ok hkb swpB_0] at hS
    have hT:=yaA b x.carrier x.slot x.to (fun _=>hok)
    rw [bkTo_ok hkb ybO] at hT
    have hrok:=rng_ok hok x.slots
    have hsok:=swp_ok hok p k
    have htok:=trB_ok hok x.carrier x.slot x.to
    have qe:=aI qR (aI @hb (aI @hx (aI @hA (aI @zaf (aI @zbb (aI @decide_true (aI @decide_false @Bool.not_true)))))));repeat' first|refine za (yx b) ?_|refine zN (fun _=>yw x) ?_|refine zN (fun _=>hC) ?_|refine za (yz b hok) ?_|refine zam (hR) ?_|refine gG ?_|show AK _;intro K H|refine H _ _ ?_;clear H K|refine gJ ?_;try exact trivial|omega
    (refine gC (fun hc=>?_) (fun hc=>?_)<;>try contradiction)
    have qe:=aI qR (aI @hb (aI @hx (aI @hA (aI @zaf (aI @zbb (aI @decide_true (aI @decide_false @Bool.not_true)))))));repeat' first|refine za (yx b) ?_|refine zN (fun _=>yw x) ?_|refine zN (fun _=>hC) ?_|refine za (yz b hok) ?_|refine zam (hR) ?_|refine gG ?_|show AK _;intro K H|refine H _ _ ?_;clear H K|refine gJ ?_;try exact trivial|omega
    refine y2 ⟨[(2,.lp 2 0),(3,.lp 3 0)],[(2,.box [.p (.sl 16 (b.slots.map Slt.pv)),.p (.sl 14 (b.wait.map Wsh.pv))] false),(3,.box [.p (.sl 1 (x.slots.map .s)),.p (.s x.carrier),.p (.s x.slot),.p (.s x.to),.p (.s x.lease.carrier),.p (.i .i64 x.lease.fro),.p (.i .i64 x.lease.to),.p (.i .i64 x.day)] false)],[],false⟩ ?_ ?_
    ·by_cases hr:yi b x.slots=0
     ·obtain ⟨rg,re,rt⟩:=yaT hkb hr
      obtain ⟨rb1,rb2⟩:=yac hkb hr
      obtain ⟨_,hN,hkn,_⟩:=yg hr
      have hlen2:2≤x.slots.length:=by
       have h1:=fE0 (yg hr).1 (if (x.slots.length:Int) < 2 then 16 else 0) (by simp)
       by_cases q:(x.slots.length:Int) < 2
       ·rw [if_pos q] at h1;omega
       ·omega
      have hr':=eq_true hr
      rw [re]
      have qe:=aI qR (aI @hr' @decide_true);repeat' first|refine gC (fun hc=>?_) (fun hc=>?_)<;>try contradiction|refine gG ?_|show AK _;intro K H|refine H _ _ ?_;clear H K|refine gJ ?_;try exact trivial|omega
      refine zk (κ:=Nat) (fun t=>⟨[(2,.lp 2 0),(3,.lp 3 0),(5,.lp 5 0),(7,.lp 7 0),(57,.p (.i .i64 ((x.slots.length:Int) - 1))),(58,.p (.i .i64 t))],[(2,.box [.p (.sl 16 (b.slots.map Slt.pv)),.p (.sl 14 (b.wait.map Wsh.pv))] false),(3,.box [.p (.sl 1 (x.slots.map .s)),.p (.s x.carrier),.p (.s x.slot),.p (.s x.to),.p (.s x.lease.carrier),.p (.i .i64 x.lease.fro),.p (.i .i64 x.lease.to),.p (.i .i64 x.day)] false),(5,.box [.p (.sl 16 ((yc b x.slots (gT b x.slots 1)).slots.map Slt.pv)),.p (.sl 14 ((yc b x.slots (gT b x.slots 1)).wait.map Wsh.pv))] false),(7,.box [.p (.sl 16 ((yc b x.slots (gT b x.slots (t+1))).slots.map Slt.pv)),.p (.sl 14 ((yc b x.slots (gT b x.slots (t+1))).wait.map Wsh.pv))] false)],[],false⟩) (fun t=>t≤x.slots.length - 1) (fun t=>x.slots.length - 1 - t) 0 ?_ ?_ ?_
      ·exact sS
      ·simp
      ·intro t ht
       repeat first|refine gG ?_|show AK _;intro K H|refine H _ _ ?_;clear H K|refine gJ ?_;try exact trivial|omega
       (refine gC (fun hc=>?_) (fun hc=>?_)<;>try contradiction)
       ·obtain ⟨v1,v2,v3⟩:=rt (t+1)
        have hP:=yL (yc b x.slots (gT b x.slots (t+1))) x.slots (fun _=>yag hok _ _) (by omega)
        rw [bkTo_ok v1 yO,v2,v3] at hP
        have qe:=aI qR (aI @hA (aI @zaf (aI @zbb (aI @decide_true @Bool.not_true))));repeat' first|refine gC (fun hc=>?_) (fun hc=>?_)<;>try contradiction|refine zam (hP) ?_|refine gG ?_|show AK _;intro K H|refine H _ _ ?_;clear H K|refine gJ ?_;try exact trivial|omega
        all_goals exact ⟨t+1,by omega,by omega,by simp⟩
       ·have et:t=x.slots.length - 1:=by omega
        subst et
        have e1:x.slots.length - 1+1=x.slots.length:=by omega
        rw [e1]
        have hZ:=yL (yc b x.slots (gT b x.slots 1)) x.slots.reverse (fun _=>yag hok _ _) (by simp;omega)
        rw [re] at rb1 rb2
        rw [bkTo_ok (rt 1).1 yO,rb1,rb2] at hZ
        have hH1:=yK (yc b x.slots (gT b x.slots x.slots.length)) b (yag hok _ _).n (by simp [yc]) (fun i s hs=>yaa hkb (fun n hn=>gT_len hN hn) hs)
        have hH2:=yK (yc b x.slots (yj x.slots.reverse (gT b x.slots 1))) b (yag hok _ _).n (by simp [yc]) (fun i s hs=>yaa hkb (fun n hn=>ybH hN hn) hs)
        have qe:=@qR;repeat' first|refine gC (fun hc=>?_) (fun hc=>?_)<;>try contradiction|refine gG ?_|show AK _;intro K H|refine H _ _ ?_;clear H K|refine gJ ?_;try exact trivial|omega
        refine yaS (κ:=Nat) (fun i=>⟨[(2,.lp 2 0),(3,.lp 3 0),(5,.lp 5 0),(7,.lp 7 0),(10,.p (.sl 1 ((x.slots.take i).reverse.map .s))),(74,.p (.sl 1 (x.slots.map .s))),(75,.p (.i .i64 x.slots.length)),(76,.p (.i .i64 i))],[(2,.box [.p (.sl 16 (b.slots.map Slt.pv)),.p (.sl 14 (b.wait.map Wsh.pv))] false),(3,.box [.p (.sl 1 (x.slots.map .s)),.p (.s x.carrier),.p (.s x.slot),.p (.s x.to),.p (.s x.lease.carrier),.p (.i .i64 x.lease.fro),.p (.i .i64 x.lease.to),.p (.i .i64 x.day)] false),(5,.box [.p (.sl 16 ((yc b x.slots (gT b x.slots 1)).slots.map Slt.pv)),.p (.sl 14 ((yc b x.slots (gT b x.slots 1)).wait.map Wsh.pv))] false),(7,.box [.p (.sl 16 ((yc b x.slots (gT b x.slots x.slots.length)).slots.map Slt.pv)),.p (.sl 14 ((yc b x.slots (gT b x.slots x.slots.length)).wait.map Wsh.pv))] false)],[],false⟩) (fun i=>i≤x.slots.length) (fun i=>x.slots.length - i) 0 ?_ ?_ ?_
        ·refine .x 10 (.sl 1 []) ?_
         exact .cov (sS)
        ·simp
        ·intro i hi
         repeat first|refine gG ?_|show AK _;intro K H|refine H _ _ ?_;clear H K|refine gJ ?_;try exact trivial|omega
         (refine gC (fun hc=>?_) (fun hc=>?_)<;>try contradiction)
         ·obtain ⟨n,hn⟩:=zn (i:=i) (l:=x.slots) (by omega)
          have hlt:=take_len hn
          have hlr:(x.slots.take i).reverse.length=i:=by rw [List.length_reverse,List.length_take];omega
          have qe:=aI qR (aI @hn (aI @hA (aI @lpN (aI @lpE @lpR))));repeat' first|refine gC (fun hc=>?_) (fun hc=>?_)<;>try contradiction|refine gG ?_|show AK _;intro K H|refine H _ _ ?_;clear H K|refine gJ ?_;try exact trivial|omega
          refine ⟨i+1,by omega,by dsimp only;omega,.x 10 (.sl 1 ((x.slots.take (i+1)).reverse.map .s)) ?_ (hw:=weakE (by rw [zan hn];simp))⟩
          exact .cov (sS)
         ·have ei:i=x.slots.length:=by omega
          subst ei
          rw [List.take_length]
          have qe:=aI qR (aI @zbb (aI @decide_true (aI @decide_false (aI @Bool.not_true (aI @lpN (aI @lpE @lpR))))));repeat' first|refine gC (fun hc=>?_) (fun hc=>?_)<;>try contradiction|refine za (hZ) ?_|refine zN (fun _=>hH1) ?_|refine zN (fun _=>hH2) ?_|refine gG ?_|show AK _;intro K H|refine H _ _ ?_;clear H K|refine gJ ?_;try exact trivial|omega
          exact .cov (sS)
     ·have hr':=eq_false hr
      have qe:=aI qR (aI @hr' @decide_false);repeat' first|refine gC (fun hc=>?_) (fun hc=>?_)<;>try contradiction|refine gG ?_|show AK _;intro K H|refine H _ _ ?_;clear H K|refine gJ ?_;try exact trivial|omega
      exact .cov (sS)
    ·have qe:=@qR;repeat' first|refine za (h59) ?_|refine za (yz b hok) ?_|refine za (hS) ?_|refine gG ?_|show AK _;intro K H|refine H _ _ ?_;clear H K|refine gJ ?_;try exact trivial|omega
     refine y2 ⟨[(2,.lp 2 0),(3,.lp 3 0)],[(2,.box [.p (.sl 16 (b.slots.map Slt.pv)),.p (.sl 14 (b.wait.map Wsh.pv))] false),(3,.box [.p (.sl 1 (x.slots.map .s)),.p (.s x.carrier),.p (.s x.slot),.p (.s x.to),.p (.s x.lease.carrier),.p (.i .i64 x.lease.fro),.p (.i .i64 x.lease.to),.p (.i .i64 x.day)] false)],[],false⟩ ?_ ?_
     ·by_cases hs:swpC b p k=0
      ·obtain ⟨v1,v2,v3⟩:=ybe hkb hs
       obtain ⟨c1,c2⟩:=yau hs
       obtain ⟨q1,q2,_⟩:=yM hs
       have hU:=pure1060 (swpB b p k) k p (fun _=>hsok)
       rw [bkTo_ok v1 swpB_0,v2,v3] at hU
       have hV:=yL b [p,k] (fun _=>hok) (by simp)
       rw [bkTo_ok hkb yO,c1,c2] at hV
       have hH:=yK (yc b [p,k] (yj [k,p] (gT b [p,k] 1))) b (yag hok _ _).n (by simp [yc]) (fun i s hs=>yaa hkb (fun n hn=>ybH (N:=[p,k]) (yaZ q2) hn) hs)
       have hs':=eq_true hs
       generalize swpB b p k=S at hU hV hsok
       have qe:=aI qR (aI @hs' (aI @zbb (aI @decide_true (aI @decide_false (aI @Bool.not_true (aI @List.map_cons.{0,0} (@List.map_nil.{0,0})))))));repeat' first|refine gC (fun hc=>?_) (fun hc=>?_)<;>try contradiction|refine za (hU) ?_|refine za (yz b hok) ?_|refine zam (hV) ?_|refine zN (fun _=>hH) ?_|refine zN (fun _=>ybr S hsok) ?_|refine zN (fun _=>ybs S) ?_|refine gG ?_|show AK _;intro K H|refine H _ _ ?_;clear H K|refine gJ ?_;try exact trivial|omega
       exact .cov (sS)
      ·have hs':=eq_false hs
       have qe:=aI qR (aI @hs' @decide_false);repeat' first|refine gC (fun hc=>?_) (fun hc=>?_)<;>try contradiction|refine gG ?_|show AK _;intro K H|refine H _ _ ?_;clear H K|refine gJ ?_;try exact trivial|omega
       exact .cov (sS)
     ·have qe:=@qR;repeat' first|refine za (yz b hok) ?_|refine za (hT) ?_|refine gG ?_|show AK _;intro K H|refine H _ _ ?_;clear H K|refine gJ ?_;try exact trivial|omega
      refine y2 ⟨[],[],[],false⟩ ?_ ?_
      ·by_cases ht:trC b x.carrier x.slot x.to=0
       ·obtain ⟨v2,v3⟩:=ybN ht
        have hU:=yaA (trB b x.carrier x.slot x.to) x.to x.slot x.carrier (fun _=>htok)
        rw [bkTo_ok (ybd hkb ht) ybO,v2,v3] at hU
        have hH:=yK (chgB b x.slot ⟨(zo b x.slot).req,x.carrier,(zo b x.slot).ls,[]⟩) b (by simp only [chgB,List.length_set];exact hok.n) (by simp [chgB]) (fun i s hs=>ybM ht hs)
        have ht':=eq_true ht
        generalize trB b x.carrier x.slot x.to=S at hU
        have qe:=aI qR (aI @ht' (aI @zbb (aI @decide_true (aI @decide_false @Bool.not_true))));repeat' first|refine gC (fun hc=>?_) (fun hc=>?_)<;>try contradiction|refine za (hU) ?_|refine zN (fun _=>hH) ?_|refine gG ?_|show AK _;intro K H|refine H _ _ ?_;clear H K|refine gJ ?_;try exact trivial|omega
        exact .cov (sS)
       ·have ht':=eq_false ht
        have qe:=aI qR (aI @ht' @decide_false);repeat' first|refine gC (fun hc=>?_) (fun hc=>?_)<;>try contradiction|refine gG ?_|show AK _;intro K H|refine H _ _ ?_;clear H K|refine gJ ?_;try exact trivial|omega
        exact .cov (sS)
      ·have qe:=@qR;repeat' first|refine gC (fun hc=>?_) (fun hc=>?_)<;>try contradiction|refine za (pure1017) ?_|refine gG ?_|show AK _;intro K H|refine H _ _ ?_;clear H K|refine gJ ?_;try exact trivial|omega
       all_goals exact .refl _
   ·have hkb':=eq_false hkb
    have qe:=aI qR (aI @hb (aI @hx (aI @hkb' (aI @decide_true (aI @decide_false (aI @Bool.not_true @Bool.not_false))))));repeat' first|refine gC (fun hc=>?_) (fun hc=>?_)<;>try contradiction|refine za (yx b) ?_|refine zN (fun _=>yw x) ?_|refine zN (fun _=>hC) ?_|refine za (pure1017) ?_|refine gG ?_|show AK _;intro K H|refine H _ _ ?_;clear H K|refine gJ ?_;try exact trivial|omega
    all_goals exact .refl _
  ·have hx':yk x=false:=by simpa using hx
   have qe:=aI qR (aI @hb (aI @hx' (aI @Bool.not_true @Bool.not_false)));repeat' first|refine gC (fun hc=>?_) (fun hc=>?_)<;>try contradiction|refine za (yx b) ?_|refine zN (fun _=>yw x) ?_|(show zj _ _ _ _ (⟨_,.call 22,_,_,_⟩::_) _ _;refine yf (q:=.i .i64 0) (by first|rfl|(simp (disch:=omega) only [qG,qe,Nat.reduceAdd,Nat.reduceMul,Nat.reduceEqDiff,Nat.reduceLeDiff,reduceIte,reduceCtorEq,Nat.reduceBEq,Nat.reduceLT]<;>rfl)) ?_;(try (refine zE ?_)))|refine za (pure1017) ?_|refine gG ?_|show AK _;intro K H|refine H _ _ ?_;clear H K|refine gJ ?_;try exact trivial|omega
   all_goals exact .refl _
 ·have hb':ybh b=false:=by simpa using hb
  have qe:=aI qR (aI @hb' @Bool.not_false);repeat' first|refine gC (fun hc=>?_) (fun hc=>?_)<;>try contradiction|refine za (yx b) ?_|refine zN (fun _=>yw x) ?_|(show zj _ _ _ _ (⟨_,.call 22,_,_,_⟩::_) _ _;refine yf (q:=.i .i64 0) (by first|rfl|(simp (disch:=omega) only [qG,qe,Nat.reduceAdd,Nat.reduceMul,Nat.reduceEqDiff,Nat.reduceLeDiff,reduceIte,reduceCtorEq,Nat.reduceBEq,Nat.reduceLT]<;>rfl)) ?_;(try (refine zE ?_)))|refine za (pure1017) ?_|refine gG ?_|show AK _;intro K H|refine H _ _ ?_;clear H K|refine gJ ?_;try exact trivial|omega
  all_goals exact .refl _
end Go.Proofs.YtahmdjadnlpjoaaGreat
namespace Go.Proofs.YtahmdjadnlpjoaaGreat
open Go.RowKit Go.ChangeShapes Go.WideShapes Go.ChangeAt
set_option maxRecDepth 100000
set_option linter.unusedVariables false
set_option linter.unusedSimpArgs false
set_option maxHeartbeats 4000000
theorem yaO (os:Os) (started:os.Started) (H:Type) (enc:TypeId × Value→H):ReturnsInHanded {} Tryz.checked os 11 .any (Rows.tradeRingsSpec.pre6 enc Tryz.prog Tryz.f11 Rows.tradeRingsRow.domain false) (Rows.tradeRingsSpec.post enc Tryz.prog Tryz.f11 false true false false):=by
 refine returnsInHanded_of_change_shaped (C:=Tryz.checked) own started (by kernel_rfl) Tryz.func11
  (ChangeSpec.witness6 (enc:=enc) (C:=Tryz.checked) false ⟨#[],#[.agg #[.slice none 0 0,.slice none 0 0],.agg #[.slice none 0 0,zs,zs,zs,zs,zi,zi,zi]],[]⟩ 8 (by kernel_rfl) (by kernel_rfl) (by kernel_rfl) (by kernel_rfl)) ?_
 intro W base args ds gs before hval hW _ hsz _ _
 refine yae (C:=Tryz.checked) (n:=6) (tb:=4) laid (by kernel_rfl) rfl (fun H ds hd=>?_) (by kernel_rfl) und4 (by kernel_rfl) (fun ps hps=>?_) W base args ds gs before hval hW hsz
 ·match ds,hd with
  | [_,_],_=>rfl
 ·match ps,hps with
  | [a0,a1],⟨h0,h1,_⟩=>
   obtain ⟨b,rfl⟩:=fit_bk h0
   obtain ⟨x,rfl⟩:=ybZ h1
   exact ybu b x
theorem yb7:(Rows.tradeRingsRow.inPlace == Tryz.prog.inPlace 11)=true:=by kernel_rfl
theorem yb6:(Rows.tradeRingsRow.unfollowed == Tryz.prog.unfollowed 11)=true:=by kernel_rfl
theorem yb5:(Rows.tradeRingsRow.recurses == Tryz.prog.recurses 11)=true:=by kernel_rfl
theorem yb4:(Rows.tradeRingsRow.named == Tryz.prog.varsNamed 11)=true:=by kernel_rfl
theorem yb3:Tryz.checked.prog.funcNamed Rows.tradeRingsRow.func=some 11:=by kernel_rfl
theorem yb2:joinedFacts Tryz.prog 11 Tryz.f11 Rows.tradeRingsSpec Rows.tradeRingsRow=true:=
 ya2 (by as_aux_lemma=>kernel_rfl) laid rowed (by as_aux_lemma=>kernel_rfl) yb7 yb6 yb5 yb4 (by as_aux_lemma=>kernel_rfl) (by as_aux_lemma=>kernel_rfl) (by as_aux_lemma=>kernel_rfl) (by as_aux_lemma=>kernel_rfl) (by as_aux_lemma=>kernel_rfl)
theorem yb1:Tryz.f11.isInstance Tryz.prog Rows.tradeRingsRow.origin Rows.tradeRingsRow.targs:=of_decide_eq_true (by kernel_rfl)
theorem yb0:Tryz.f11.isWrapper Tryz.prog Rows.tradeRingsRow.wrapper Rows.tradeRingsRow.mainSum:=by
 unfold Func.isWrapper;first|(rw [if_pos (by decide +kernel)];kernel_rfl)|(rw [if_neg (by decide +kernel)];exact ⟨rfl,rfl⟩)
theorem yaL:Rows.tradeRingsRow.holds Tryz.pinned (OpenSpec.ofChange Rows.tradeRingsSpec):=
 OpenClaim.holds_of_wide 11 Tryz.f11 rfl rfl rfl rfl rfl rfl rfl ⟨rfl,rfl,rfl,rfl,rfl⟩ rfl rfl rfl rfl rfl yb3 Tryz.func11 yb2 yb1 yb0
  (fun os started H enc _=>yaO os started H enc)
theorem rings_proved:Rows.TradeRingsSaid:=yaL
end Go.Proofs.YtahmdjadnlpjoaaGreat
