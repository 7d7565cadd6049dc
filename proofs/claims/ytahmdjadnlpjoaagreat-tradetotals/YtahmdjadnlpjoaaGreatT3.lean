/- Contracts of functions that the proof uses, shared by the claims of this seat; no statement of its own. Part 73. No conditions. -/
import Derived.ProofKit
import Derived.OpenShut
import Derived.Carry
import Derived.OpenVars
import Derived.HandedShaped
import Derived.KernelRfl
import Derived.Laws.RangeAny
import Derived.Test.YtahmdjadnlpjoaaGreatRows
import Derived.Test.YtahmdjadnlpjoaaGreatT2
set_option linter.all false
set_option maxHeartbeats 8000000
namespace Go.Proofs.YtahmdjadnlpjoaaGreat
open Go.RowKit
set_option maxRecDepth 100000
set_option linter.unusedVariables false
set_option linter.unusedSimpArgs false
set_option maxHeartbeats 4000000
theorem fE_of:∀ {l:List Int},(∀ x ∈ l,x=0)→zg l=0
 | [],_=>rfl
 | x::r,h=>zq.2 ⟨h x (by simp),fE_of fun y hy=>h y (by simp [hy])⟩
theorem yg {α:Type} {f:Nat→α→Int} {l:List α} (h:∀ i x,l[i]?=some x→f i x=0):zg (l.mapIdx f)=0:=fE_of fun y hy=>by
 obtain ⟨i,hi⟩:=List.mem_iff_getElem?.1 hy
 rw [List.getElem?_mapIdx] at hi
 cases hx:l[i]? with
 | none=>rw [hx] at hi;cases hi
 | some x=>
  rw [hx] at hi
  have e:f i x=y:=Option.some.inj hi
  rw [←e];exact h i x hx
theorem ybi {b:Bk} (h:zG b=0) {i:Nat} {s s':Slt} (hs:b.slots[i]?=some s) (hn:s'.req.name=s.req.name) (hv:chkSlt s'=0):zG ⟨b.slots.set i s',b.wait⟩=0:=by
 have hnm:(b.slots.set i s').map (·.req.name)=b.slots.map (·.req.name):=names_set _ _ _ _ hs hn
 have hT:∀ k,((b.slots.set i s').take k).map (·.req.name)=(b.slots.take k).map (·.req.name):=fun k=>by rw [List.map_take,hnm,List.map_take]
 have e3:wshErr ⟨b.slots.set i s',b.wait⟩=wshErr b:=by funext k w;simp only [wshErr,hnm]
 have e4:zg ((b.slots.set i s').mapIdx (sltErr ⟨b.slots.set i s',b.wait⟩))=0:=by
  refine yg fun k x hx=>?_
  by_cases hk:i=k
  ·subst hk
   have hlt:=(List.getElem?_eq_some_iff.1 hs).1
   rw [List.getElem?_set_self hlt] at hx
   have ex:s'=x:=Option.some.inj hx
   subst ex
   have h1:=yZ h hs
   have h2:=fE0 h1 (if 0≤atL s.req.name ((b.slots.take i).map (·.req.name)) then 9 else 0) (by simp)
   refine zq.2 ⟨hv,zq.2 ⟨?_,rfl⟩⟩
   rw [hn];simp only [hT];exact h2
  ·rw [List.getElem?_set_ne hk] at hx
   have h1:=yZ h hx
   rw [sltErr] at h1 ⊢
   simp only [hT];exact h1
 have c1:=fE0 h (if 64 < (b.slots.length:Int) then 5 else 0) (by simp)
 have c3:=fE0 h (if 64 < (b.wait.length:Int) then 5 else 0) (by simp)
 have c4:=fE0 h (zg (b.wait.mapIdx (wshErr b))) (by simp)
 refine zq.2 ⟨?_,zq.2 ⟨e4,zq.2 ⟨c3,zq.2 ⟨?_,rfl⟩⟩⟩⟩
 ·simp only [List.length_set];exact c1
 ·rw [e3];exact c4
theorem ybC {b:Bk} (h:zG b=0) {c n:ByteArray} {e:Int} (ho:ownE b c n e=0) {s':Slt} (hn:s'.req.name=(zo b n).req.name) (hv:chkSlt s'=0):zG (chgB b n s')=0:=ybi h (za8 ho).2.1 hn hv
theorem yam {s:Slt} (h:chkSlt s=0) {L:List Lea} (hl:L.length≤8) (h1:∀ x ∈ L,chkLea x=0∧leaOf s.raw x=0) (hp:L.Pairwise ybb):chkSlt ⟨s.req,s.holder,L,s.sh⟩=0:=by
 have c1:=fE0 h (chkQ s.req) (by simp)
 have c2:=fE0 h (zaH s.holder) (by simp)
 have c5:=fE0 h (if 4 < (s.sh.length:Int) then 5 else 0) (by simp)
 have c6:=fE0 h (zg (s.sh.mapIdx (shaErr s))) (by simp)
 refine zq.2 ⟨c1,zq.2 ⟨c2,zq.2 ⟨if_neg (show ¬(8:Int) < (L.length:Int) by omega),zq.2 ⟨?_,zq.2 ⟨c5,zq.2 ⟨c6,rfl⟩⟩⟩⟩⟩⟩
 refine yg fun i x hx=>?_
 obtain ⟨a1,a2⟩:=h1 x (List.mem_of_getElem? hx)
 refine zq.2 ⟨a1,zq.2 ⟨a2,zq.2 ⟨?_,rfl⟩⟩⟩
 refine if_neg fun k=>?_
 obtain ⟨k1,k2⟩:=k
 obtain ⟨j,rfl⟩:∃ j,i=j+1:=⟨i - 1,by omega⟩
 have hx':L[j+1]?=some x:=hx
 obtain ⟨hi,hxi⟩:=List.getElem?_eq_some_iff.1 hx'
 have hj:L[j+1 - 1]?=some L[j]:=by rw [Nat.add_sub_cancel];exact List.getElem?_eq_getElem (by omega)
 have k2':x.fro≤((L[j+1 - 1]?).getD x).to:=k2
 rw [hj] at k2'
 have hlt:=List.pairwise_iff_getElem.1 hp j (j+1) (by omega) hi (by omega)
 rw [hxi] at hlt
 simp only [ybb] at hlt
 have k3:x.fro≤(L[j]).to:=k2'
 omega
theorem ybs {s:Slt} (h:chkSlt s=0) (l:Lea):∃ A B,s.ls=A++B∧lnL s l=A++l::B∧(∀ y ∈ A,y.fro≤l.fro)∧∀ y ∈ B,l.fro < y.fro:=by
 have hp:s.ls.Pairwise (fun a b=>a.fro < b.fro):=(yaN h).imp fun {a b} k=>by simp only [ybb] at k;omega
 obtain ⟨A,B,e,hA,hB⟩:=yad (v:=l.fro) hp
 refine ⟨A,B,e,?_,fun y hy=>by have:=hA y hy;omega,hB⟩
 rw [←len_eq h,e,ycl (fun y hy=>decide_eq_false (hA y hy)) (fun y hy=>decide_eq_true (hB y hy))]
theorem yb7 {s:Slt} (h:chkSlt s=0) {l:Lea} (hl:chkLea l=0) (he:lnE s l=0):∃ A B,s.ls=A++B∧lnL s l=A++l::B∧(∀ y ∈ A,ybb y l)∧(∀ y ∈ B,ybb l y)∧leaOf s.raw l=0∧s.ls.length < 8:=by
 obtain ⟨A,B,e,e2,hA,hB⟩:=ybs h l
 have h1:=fE0 he (leaOf s.raw l) (by simp)
 have h2:=fE0 he (if meetL s l=true then 15 else 0) (by simp)
 have h3:=fE0 he (if 8≤(s.ls.length:Int) then 5 else 0) (by simp)
 have hm:∀ y ∈ s.ls,¬(y.fro≤l.to∧l.fro≤y.to):=fun y hy k=>by
  have:meetL s l=true:=by rw [meetL,List.any_eq_true];exact ⟨y,hy,by simp [meetB,k.1,k.2]⟩
  rw [if_pos this] at h2;omega
 have h8:s.ls.length < 8:=by
  by_cases k:8≤(s.ls.length:Int)
  ·rw [if_pos k] at h3;omega
  ·omega
 have hll:=yY hl
 refine ⟨A,B,e,e2,fun y hy=>?_,fun y hy=>?_,h1,h8⟩
 ·have hy':y ∈ s.ls:=by rw [e];exact List.mem_append_left _ hy
  have a1:=hA y hy
  have a2:=hm y hy'
  have a3:=yaO h hy'
  simp only [ybb];omega
 ·have hy':y ∈ s.ls:=by rw [e];exact List.mem_append_right _ hy
  have a1:=hB y hy
  have a2:=hm y hy'
  have a3:=yaO h hy'
  simp only [ybb];omega
theorem ybr {s:Slt} (h:chkSlt s=0) {l:Lea} (hl:chkLea l=0) (he:lnE s l=0):chkSlt (lnS s l)=0:=by
 obtain ⟨A,B,e,e2,hA,hB,h1,h8⟩:=yb7 h hl he
 have hle:∀ x ∈ s.ls,chkLea x=0∧leaOf s.raw x=0:=fun x hx=>by
  obtain ⟨i,hi⟩:=List.mem_iff_getElem?.1 hx
  have:=yae h hi
  exact ⟨fE0 this _ (by simp),fE0 this _ (by simp)⟩
 refine yam h (L:=lnL s l) (by rw [lnL_len];omega) (fun x hx=>?_) ?_
 ·rw [e2] at hx
  rcases List.mem_append.1 hx with hx|hx
  ·exact hle x (by rw [e];exact List.mem_append_left _ hx)
  ·rcases List.mem_cons.1 hx with rfl|hx
   ·exact ⟨hl,h1⟩
   ·exact hle x (by rw [e];exact List.mem_append_right _ hx)
 ·have hp:=yaN h
  rw [e] at hp
  obtain ⟨p1,p2,p3⟩:=List.pairwise_append.1 hp
  rw [e2]
  refine List.pairwise_append.2 ⟨p1,List.pairwise_cons.2 ⟨hB,p2⟩,fun x hx y hy=>?_⟩
  rcases List.mem_cons.1 hy with rfl|hy
  ·exact hA x hx
  ·exact p3 x hx y hy
theorem yb5 {b:Bk} {c n:ByteArray} {l:Lea} (h:lnC b c n l=0):ownE b c n (chkLea l)=0∧chkLea l=0∧lnE (zo b n) l=0:=by
 have h1:ownE b c n (chkLea l)=0:=fE0 h _ (by simp)
 exact ⟨h1,own_e h1,fE0 h _ (by simp)⟩
theorem yaf {b:Bk} (h:zG b=0) {i:Nat} {s:Slt} (hs:b.slots[i]?=some s):atL s.req.name (b.slots.map (·.req.name))=i:=by
 rw [←idxF_atL (fun x:Slt=>x.req.name)]
 refine idxF_hit (fun y hy=>decide_eq_false fun e=>?_) hs (decide_eq_true rfl)
 have h1:=fE0 (yZ h hs) (if 0≤atL s.req.name ((b.slots.take i).map (·.req.name)) then 9 else 0) (by simp)
 have:0≤atL s.req.name ((b.slots.take i).map (·.req.name)):=(ya _ _).2 (List.mem_map.2 ⟨y,hy,e⟩)
 rw [if_pos this] at h1;omega
theorem yaE {b:Bk} (h:zG b=0) {i:Nat} {s:Slt} (hs:b.slots[i]?=some s):zA b s.req.name=i∧zo b s.req.name=s∧¬atL s.req.name (b.slots.map (·.req.name)) < 0:=by
 have e:=yaf h hs
 have e1:zA b s.req.name=i:=by rw [zA,e];rfl
 refine ⟨e1,?_,by rw [e];omega⟩
 rw [zo,e,Int.toNat_natCast,hs];rfl
theorem yaQ {α:Type} {L:List α} {i:Nat} {x:α} (h:L[i]?=some x):L.set i x=L:=by
 apply List.ext_getElem?
 intro k
 by_cases e:i=k
 ·subst e
  rw [List.getElem?_set_self (List.getElem?_eq_some_iff.1 h).1,h]
 ·rw [List.getElem?_set_ne e]
set_option maxRecDepth 100000
set_option linter.unusedVariables false
set_option linter.unusedSimpArgs false
set_option maxHeartbeats 4000000
theorem ybq {b:Bk} (h:zG b=0) {f:Slt→Slt} (hn:∀ s,(f s).req.name=s.req.name) (hv:∀ s ∈ b.slots,chkSlt (f s)=0):zG ⟨b.slots.map f,b.wait⟩=0:=by
 have hnm:(b.slots.map f).map (·.req.name)=b.slots.map (·.req.name):=by rw [List.map_map];congr 1;funext s;exact hn s
 have hT:∀ k,((b.slots.map f).take k).map (·.req.name)=(b.slots.take k).map (·.req.name):=fun k=>by rw [List.map_take,hnm,List.map_take]
 have e3:wshErr ⟨b.slots.map f,b.wait⟩=wshErr b:=by funext k w;simp only [wshErr,hnm]
 have e4:zg ((b.slots.map f).mapIdx (sltErr ⟨b.slots.map f,b.wait⟩))=0:=by
  refine yg fun k x hx=>?_
  rw [List.getElem?_map] at hx
  cases hs:b.slots[k]? with
  | none=>rw [hs] at hx;cases hx
  | some s=>
   rw [hs] at hx
   have ex:f s=x:=Option.some.inj hx
   subst ex
   have h2:=fE0 (yZ h hs) (if 0≤atL s.req.name ((b.slots.take k).map (·.req.name)) then 9 else 0) (by simp)
   refine zq.2 ⟨hv s (List.mem_of_getElem? hs),zq.2 ⟨?_,rfl⟩⟩
   rw [hn];simp only [hT];exact h2
 have c1:=fE0 h (if 64 < (b.slots.length:Int) then 5 else 0) (by simp)
 have c3:=fE0 h (if 64 < (b.wait.length:Int) then 5 else 0) (by simp)
 have c4:=fE0 h (zg (b.wait.mapIdx (wshErr b))) (by simp)
 refine zq.2 ⟨?_,zq.2 ⟨e4,zq.2 ⟨c3,zq.2 ⟨?_,rfl⟩⟩⟩⟩
 ·simp only [List.length_map];exact c1
 ·rw [e3];exact c4
theorem yaP {s:Slt} (h:chkSlt s=0) (hl:s.ls=[]) {c:ByteArray} (hc:zaH c=0):chkSlt ⟨s.req,c,s.ls,[]⟩=0:=by
 have c1:=fE0 h (chkQ s.req) (by simp)
 rw [hl]
 exact zq.2 ⟨c1,zq.2 ⟨hc,zq.2 ⟨by simp,zq.2 ⟨by simp [zg],zq.2 ⟨by simp,zq.2 ⟨by simp [zg],rfl⟩⟩⟩⟩⟩⟩
instance decMem (n:ByteArray) (N:List ByteArray):Decidable (n ∈ N):=decidable_of_iff _ (ya n N)
def NoD (L:List ByteArray):Prop:=∀ (i j:Nat) (x:ByteArray),L[i]?=some x→L[j]?=some x→i=j
theorem ycj {H:List ByteArray} {f:Nat→ByteArray→Int} (hf:∀ i x,f i x=0→¬0≤atL x (H.take i)) (h:zg (H.mapIdx f)=0):NoD H:=by
 have key:∀ i j x,i < j→H[i]?=some x→H[j]?=some x→False:=fun i j x hij hi hj=>by
  have h1:=hf j x (yS h hj)
  refine h1 ((ya _ _).2 (List.mem_of_getElem? (i:=i) ?_))
  rw [List.getElem?_take_of_lt hij];exact hi
 intro i j x hi hj
 rcases Nat.lt_trichotomy i j with k|k|k
 ·exact (key i j x k hi hj).elim
 ·exact k
 ·exact (key j i x k hj hi).elim
theorem ybo {H:List ByteArray} (h:NoD H) {i:Nat} {x:ByteArray} (hx:H[i]?=some x):¬0≤atL x (H.take i):=fun k=>by
 obtain ⟨j,hj⟩:=List.mem_iff_getElem?.1 ((ya _ _).1 k)
 have hlt:j < (H.take i).length:=(List.getElem?_eq_some_iff.1 hj).1
 rw [List.length_take] at hlt
 rw [List.getElem?_take_of_lt (by omega)] at hj
 have:=h j i x hj hx
 omega
theorem ycz {H:List ByteArray} (h:NoD H) {i:Nat} {x:ByteArray} (hx:H[i]?=some x):atL x H=i:=by
 have:=idxF_atL (fun y:ByteArray=>y) x H
 rw [List.map_id'] at this
 rw [←this]
 refine idxF_hit (fun y hy=>decide_eq_false fun e=>?_) hx (decide_eq_true rfl)
 have e':y=x:=e
 rw [e'] at hy
 exact ybo h hx ((ya _ _).2 hy)
def idxN (N:List ByteArray) (n:ByteArray):Nat:=(atL n N).toNat
theorem ybu {N:List ByteArray} (h:NoD N) {i:Nat} {x:ByteArray} (hx:N[i]?=some x):idxN N x=i:=by rw [idxN,ycz h hx];rfl
theorem yci {N:List ByteArray} {i:Nat} {x:ByteArray} (hx:N[i]?=some x):nth N i=x:=by rw [nth,hx];rfl
def yL (N:List ByteArray) (g:ByteArray→ByteArray) (s:Slt):Slt:=if s.req.name ∈ N then ⟨s.req,g s.req.name,s.ls,[]⟩ else s
def yJ (b:Bk) (N:List ByteArray) (g:ByteArray→ByteArray):Bk:=⟨b.slots.map (yL N g),b.wait⟩
theorem yB (N:List ByteArray) (g:ByteArray→ByteArray) (s:Slt):(yL N g s).req=s.req:=by rw [yL];split<;>rfl
theorem ybw (N:List ByteArray) (g:ByteArray→ByteArray) (s:Slt):(yL N g s).ls=s.ls:=by rw [yL];split<;>rfl
theorem yI (b:Bk) (N:List ByteArray) (g:ByteArray→ByteArray):(yJ b N g).slots.map (·.req.name)=b.slots.map (·.req.name):=by
 rw [yJ,List.map_map];congr 1;funext s;exact congrArg (·.name) (yB N g s)
theorem yav {b:Bk} {N:List ByteArray} {g:ByteArray→ByteArray} {n:ByteArray} (hat:¬atL n (b.slots.map (·.req.name)) < 0):zA (yJ b N g) n=zA b n∧zo (yJ b N g) n=yL N g (zo b n):=by
 obtain ⟨h1,h2,h3⟩:=slot_found hat
 refine ⟨by rw [zA,yI,zA],?_⟩
 rw [zo,yI]
 have:(atL n (b.slots.map (·.req.name))).toNat=zA b n:=rfl
 rw [this,yJ];simp only
 rw [List.getElem?_map,h1];rfl
theorem yj {b:Bk} {n:ByteArray} (hat:¬atL n (b.slots.map (·.req.name)) < 0):(zo b n).req.name=n:=by
 have h:=ya4 hat
 rw [List.getElem?_map,(slot_found hat).1] at h
 exact Option.some.inj h
theorem yaj {b:Bk} (h:zG b=0) {N:List ByteArray} (hN:NoD N) (hk:∀ n ∈ N,¬atL n (b.slots.map (·.req.name)) < 0):∀ k,k≤N.length→passT b N k=b.slots.map fun s=>if s.req.name ∈ N.take k then trS s (nth (passH b N) ((idxN N s.req.name+N.length - 1) % N.length)) else s
 | 0,_=>by simp [passT]
 | k+1,hlt=>by
  rw [passT,yaj h hN hk k (by omega)]
  obtain ⟨x,hx⟩:=zn (i:=k) (l:=N) (by omega)
  have hnx:=yci hx
  have hkx:=hk x (List.mem_of_getElem? hx)
  obtain ⟨f1,f2,f3⟩:=slot_found hkx
  rw [hnx]
  apply List.ext_getElem?
  intro j
  by_cases e:zA b x=j
  ·subst e
   rw [List.getElem?_set_self (by rw [List.length_map];exact f3),List.getElem?_map,f1]
   have hm:(zo b x).req.name ∈ N.take (k+1):=by rw [yj hkx,zan hx];simp
   simp only [Option.map_some]
   rw [if_pos hm,yj hkx,ybu hN hx]
  ·rw [List.getElem?_set_ne e,List.getElem?_map,List.getElem?_map]
   cases hs:b.slots[j]? with
   | none=>rfl
   | some s=>
    have hne:s.req.name≠x:=fun q=>e (by rw [←q];exact (yaE h hs).1)
    simp only [Option.map_some]
    by_cases q:s.req.name ∈ N.take k
    ·rw [if_pos q,if_pos (by rw [zan hx];exact List.mem_append_left _ q)]
    ·rw [if_neg q,if_neg fun q2=>by
      rw [zan hx] at q2
      rcases List.mem_append.1 q2 with q2|q2
      ·exact q q2
      ·exact hne (List.mem_singleton.1 q2)]
def yG (N:List ByteArray) (g:ByteArray→ByteArray) (n:ByteArray):ByteArray:=nth (N.map g) ((idxN N n+N.length - 1) % N.length)
theorem ybv (N M:List ByteArray) (hm:∀ n,n ∈ M↔n ∈ N) (g g':ByteArray→ByteArray) (s:Slt):(if (yL N g s).req.name ∈ M then trS (yL N g s) (g' (yL N g s).req.name) else yL N g s)=yL N g' s:=by
 rw [yB]
 by_cases k:s.req.name ∈ N
 ·rw [if_pos ((hm _).2 k),trS,yB,ybw,yL,if_pos k]
 ·rw [if_neg fun q=>k ((hm _).1 q),yL,yL,if_neg k,if_neg k]
theorem ycb (N:List ByteArray) (g:ByteArray→ByteArray) (s:Slt):(if s.req.name ∈ N then trS s (g s.req.name) else s)=yL N g s:=by rw [yL,trS]
structure ycf (b:Bk) (N:List ByteArray) (g:ByteArray→ByteArray):Prop where
 n:NoD N
 k:∀ n ∈ N,¬atL n (b.slots.map (·.req.name)) < 0
 l:∀ n ∈ N,(zo b n).ls=[]
 h:NoD (N.map g)
 e:∀ n ∈ N,zaH (g n)=0
theorem yat {b:Bk} (h:zG b=0) {N:List ByteArray} {g:ByteArray→ByteArray} (hr:ycf b N g):zG (yJ b N g)=0:=by
 refine ybq h (f:=yL N g) (fun s=>congrArg (·.name) (yB N g s)) fun s hs=>?_
 rw [yL];split
 ·rename_i k
  obtain ⟨i,hi⟩:=List.mem_iff_getElem?.1 hs
  have hl:=hr.l _ k
  rw [(yaE h hi).2.1] at hl
  exact yaP (yaz h hs) hl (hr.e _ k)
 ·exact yaz h hs
theorem yau {b:Bk} {N M:List ByteArray} {g:ByteArray→ByteArray} (hk:∀ n ∈ M,¬atL n (b.slots.map (·.req.name)) < 0):∀ n ∈ M,¬atL n ((yJ b N g).slots.map (·.req.name)) < 0:=fun n hn=>by rw [yI];exact hk n hn
theorem hld_H {b:Bk} {N M:List ByteArray} {g:ByteArray→ByteArray} (hm:∀ n,n ∈ M↔n ∈ N) (hk:∀ n ∈ N,¬atL n (b.slots.map (·.req.name)) < 0):passH (yJ b N g) M=M.map g:=by
 rw [passH,List.map_map]
 refine List.map_congr_left fun n hn=>?_
 have hn':=(hm n).1 hn
 simp only [Function.comp]
 rw [(yav (hk n hn')).2,yL,yj (hk n hn'),if_pos hn']
theorem ybn {b:Bk} {N:List ByteArray} (hl:∀ n ∈ N,(zo b n).ls=[]):passLn b N=false:=by
 rw [passLn,List.any_eq_false]
 intro s hs
 obtain ⟨n,hn,rfl⟩:=List.mem_map.1 hs
 rw [hl n hn];simp
theorem ycv {b:Bk} {N:List ByteArray} (hl:∀ n ∈ N,(zo b n).ls=[]) (hH:NoD (passH b N)):passE b N=0:=by
 rw [passE]
 refine zq.2 ⟨by rw [ybn hl];rfl,zq.2 ⟨?_,rfl⟩⟩
 exact yg fun i x hx=>if_neg (ybo hH hx)
theorem yb2 {b:Bk} {N:List ByteArray} (h:passE b N=0):(∀ n ∈ N,(zo b n).ls=[])∧NoD (passH b N):=by
 have h1:=fE0 h (if passLn b N=true then 19 else 0) (by simp)
 have h2:=fE0 h (zg ((passH b N).mapIdx (dupE (passH b N)))) (by simp)
 refine ⟨fun n hn=>?_,ycj (fun i x hx q=>by rw [dupE,if_pos q] at hx;omega) h2⟩
 by_cases k:passLn b N=true
 ·rw [if_pos k] at h1;omega
 ·have k':passLn b N=false:=by simpa using k
  rw [passLn,List.any_eq_false] at k'
  have:=k' _ (List.mem_map.2 ⟨n,hn,rfl⟩)
  have h3:¬0 < ((zo b n).ls.length:Int):=fun q=>this (decide_eq_true q)
  exact List.eq_nil_of_length_eq_zero (by omega)
theorem hld_ls {b:Bk} {N M:List ByteArray} {g:ByteArray→ByteArray} (hm:∀ n,n ∈ M↔n ∈ N) (hk:∀ n ∈ N,¬atL n (b.slots.map (·.req.name)) < 0) (hl:∀ n ∈ N,(zo b n).ls=[]):∀ n ∈ M,(zo (yJ b N g) n).ls=[]:=fun n hn=>by
 have hn':=(hm n).1 hn
 rw [(yav (hk n hn')).2,ybw];exact hl n hn'
theorem ya9 {b:Bk} (h:zG b=0) {N M:List ByteArray} {g:ByteArray→ByteArray} (hr:ycf b N g) (hM:NoD M) (hm:∀ n,n ∈ M↔n ∈ N) (hMg:NoD (M.map g)):passE (yJ b N g) M=0∧passB (yJ b N g) M=yJ b N (yG M g):=by
 have hH:passH (yJ b N g) M=M.map g:=hld_H hm hr.k
 have hE:passE (yJ b N g) M=0:=ycv (hld_ls hm hr.k hr.l) (by rw [hH];exact hMg)
 refine ⟨hE,?_⟩
 rw [passB,if_pos hE,yaj (yat h hr) hM (yau fun n hn=>hr.k n ((hm n).1 hn)) _ (Nat.le_refl _),List.take_length,hH]
 have e1:(yJ b N g).slots=b.slots.map (yL N g):=rfl
 have e2:(yJ b N g).wait=b.wait:=rfl
 rw [e1,e2,List.map_map,yJ]
 congr 2
 funext s
 exact ybv N M hm g (yG M g) s
theorem ya8 {b:Bk} (h:zG b=0) {N:List ByteArray} (hN:NoD N) (hk:∀ n ∈ N,¬atL n (b.slots.map (·.req.name)) < 0) (hE:passE b N=0):passB b N=yJ b N (yG N fun n=>(zo b n).holder):=by
 have hH:passH b N=N.map fun n=>(zo b n).holder:=by rw [passH,List.map_map];rfl
 rw [passB,if_pos hE,yaj h hN hk _ (Nat.le_refl _),List.take_length,hH,yJ]
 congr 2
 all_goals (funext s;exact ycb N (yG N fun n=>(zo b n).holder) s)
theorem yR {i n:Nat} (h:i < n):(i+n - 1) % n=if i=0 then n - 1 else i - 1:=by
 split
 ·rename_i k;subst k
  rw [Nat.zero_add];exact Nat.mod_eq_of_lt (by omega)
 ·rename_i k
  rw [show i+n - 1=(i - 1)+n by omega,Nat.add_mod_right]
  exact Nat.mod_eq_of_lt (by omega)
theorem yw {N:List ByteArray} (hN:NoD N) {g:ByteArray→ByteArray} {i:Nat} {x:ByteArray} (hx:N[i]?=some x):∃ y,N[(i+N.length - 1) % N.length]?=some y∧yG N g x=g y:=by
 have hi:=(List.getElem?_eq_some_iff.1 hx).1
 obtain ⟨y,hy⟩:=zn (i:=(i+N.length - 1) % N.length) (l:=N) (Nat.mod_lt _ (by omega))
 refine ⟨y,hy,?_⟩
 rw [yG,ybu hN hx]
 exact yci (by rw [List.getElem?_map,hy];rfl)
theorem yan {N:List ByteArray} (hN:NoD N) {g:ByteArray→ByteArray} (hg:NoD (N.map g)):NoD (N.map (yG N g)):=by
 intro i j x hi hj
 rw [List.getElem?_map] at hi hj
 cases hni:N[i]? with
 | none=>rw [hni] at hi;cases hi
 | some a=>
  cases hnj:N[j]? with
  | none=>rw [hnj] at hj;cases hj
  | some c=>
   rw [hni] at hi;rw [hnj] at hj
   have e1:yG N g a=x:=Option.some.inj hi
   have e2:yG N g c=x:=Option.some.inj hj
   obtain ⟨y,hy,h1⟩:=yw hN (g:=g) hni
   obtain ⟨z,hz,h2⟩:=yw hN (g:=g) hnj
   have li:=(List.getElem?_eq_some_iff.1 hni).1
   have lj:=(List.getElem?_eq_some_iff.1 hnj).1
   have:=hg _ _ x (by rw [List.getElem?_map,hy];simp only [Option.map_some];rw [←h1,e1]) (by rw [List.getElem?_map,hz];simp only [Option.map_some];rw [←h2,e2])
   rw [yR li,yR lj] at this
   split at this<;>split at this<;>omega
theorem ycr {N:List ByteArray} (hN:NoD N) {g:ByteArray→ByteArray} (hg:∀ n ∈ N,zaH (g n)=0):∀ n ∈ N,zaH (yG N g n)=0:=fun n hn=>by
 obtain ⟨i,hi⟩:=List.mem_iff_getElem?.1 hn
 obtain ⟨y,hy,h1⟩:=yw hN (g:=g) hi
 rw [h1];exact hg y (List.mem_of_getElem? hy)
theorem ycs {b:Bk} {N:List ByteArray} {g:ByteArray→ByteArray} (hr:ycf b N g):ycf b N (yG N g):=⟨hr.n,hr.k,hr.l,yan hr.n hr.h,ycr hr.n hr.e⟩
theorem ybN {b:Bk} (h:zG b=0) {N:List ByteArray} (hN:NoD N) (hk:∀ n ∈ N,¬atL n (b.slots.map (·.req.name)) < 0) (hE:passE b N=0):ycf b N fun n=>(zo b n).holder:=by
 obtain ⟨h1,h2⟩:=yb2 hE
 refine ⟨hN,hk,h1,?_,fun n hn=>?_⟩
 ·rw [passH,List.map_map] at h2;exact h2
 ·exact fE0 (yaz h (List.mem_of_getElem? (slot_found (hk n hn)).1)) _ (by simp)
def gT (b:Bk) (N:List ByteArray):Nat→ByteArray→ByteArray
 | 0=>fun n=>(zo b n).holder
 | t+1=>yG N (gT b N t)
theorem rg_t {b:Bk} {N:List ByteArray} (hr:ycf b N (gT b N 0)):∀ t,ycf b N (gT b N t)
 | 0=>hr
 | t+1=>ycs (rg_t hr t)
theorem y8 {b:Bk} {N:List ByteArray} (h:yk b N=0):yaF N=0∧NoD N∧(∀ n ∈ N,¬atL n (b.slots.map (·.req.name)) < 0)∧passE b N=0:=by
 have h1:yaF N=0:=fE0 h _ (by simp)
 have h2:zg (N.mapIdx (yt b N))=0:=fE0 h _ (by simp)
 have h3:passE b N=0:=fE0 h _ (by simp)
 refine ⟨h1,?_,y9 (fE0 h2),h3⟩
 refine ycj (fun i x hx q=>?_) h2
 have:=fE0 hx (if 0≤atL x (N.take i) then 9 else 0) (by simp)
 rw [if_pos q] at this;omega
theorem ybk {b:Bk} {N:List ByteArray} (h1:yaF N=0) (hN:NoD N) (hk:∀ n ∈ N,¬atL n (b.slots.map (·.req.name)) < 0) (hE:passE b N=0):yk b N=0∧yh b N=passB b N:=by
 have hC:yk b N=0:=by
  refine zq.2 ⟨h1,zq.2 ⟨yg fun i x hx=>?_,zq.2 ⟨hE,rfl⟩⟩⟩
  exact zq.2 ⟨if_neg (hk x (List.mem_of_getElem? hx)),zq.2 ⟨if_neg (ybo hN hx),rfl⟩⟩
 exact ⟨hC,by rw [yh,if_pos hC]⟩
theorem ring_t {b:Bk} (h:zG b=0) {N:List ByteArray} (hC:yk b N=0):ycf b N (gT b N 0)∧yh b N=yJ b N (gT b N 1)∧∀ t,zG (yJ b N (gT b N t))=0∧yk (yJ b N (gT b N t)) N=0∧yh (yJ b N (gT b N t)) N=yJ b N (gT b N (t+1)):=by
 obtain ⟨h1,hN,hk,hE⟩:=y8 hC
 have hr:ycf b N (gT b N 0):=ybN h hN hk hE
 refine ⟨hr,by rw [yh,if_pos hC,ya8 h hN hk hE];rfl,fun t=>?_⟩
 have hrt:=rg_t hr t
 obtain ⟨p1,p2⟩:=ya9 h hrt hN (fun n=>Iff.rfl) hrt.h
 obtain ⟨r1,r2⟩:=ybk h1 hN (yau hk) p1
 exact ⟨yat h hrt,r1,by rw [r2,p2];rfl⟩
theorem ybd {b:Bk} {o t:ByteArray} (h:swpC b o t=0):(∀ n ∈ [o,t],¬atL n (b.slots.map (·.req.name)) < 0)∧o≠t∧passE b [o,t]=0:=by
 by_cases hF:swpF b o t=0
 ·rw [swpC,if_pos hF] at h
  have h1:=unk_0 (fE0 hF (unkE b o) (by simp))
  have h2:=unk_0 (fE0 hF (unkE b t) (by simp))
  have h3:=fE0 hF (if o=t then 9 else 0) (by simp)
  refine ⟨fun n hn=>?_,fun q=>by rw [if_pos q] at h3;omega,h⟩
  rcases List.mem_cons.1 hn with rfl|hn
  ·exact h1
  ·rw [List.mem_singleton.1 hn];exact h2
 ·rw [swpC,if_neg hF] at h;exact absurd h hF
theorem ycy {o t:ByteArray} (h:o≠t):NoD [o,t]:=by
 intro i j x hi hj
 match i,j,hi,hj with
 | 0,0,_,_=>rfl
 | 0,1,hi,hj=>exact absurd ((Option.some.inj hi).trans (Option.some.inj hj).symm) h
 | 1,0,hi,hj=>exact absurd ((Option.some.inj hj).trans (Option.some.inj hi).symm) h
 | 1,1,_,_=>rfl
 | 0,j+2,_,hj=>simp at hj
 | 1,j+2,_,hj=>simp at hj
 | i+2,_,hi,_=>simp at hi
theorem ybI {b:Bk} {o t:ByteArray} (h:swpC b o t=0):yk b [o,t]=0∧yh b [o,t]=swpB b o t:=by
 obtain ⟨h1,h2,h3⟩:=ybd h
 obtain ⟨r1,r2⟩:=ybk (N:=[o,t]) rfl (ycy h2) h1 h3
 exact ⟨r1,by rw [r2,swpB,if_pos h]⟩
theorem ybH {b:Bk} {c n to:ByteArray} (h:trC b c n to=0):ownE b c n (zaH to)=0∧zaH to=0∧to≠(zo b n).holder∧(zo b n).ls=[]:=by
 have h1:ownE b c n (zaH to)=0:=fE0 h _ (by simp)
 have h2:trE (zo b n) to=0:=fE0 h _ (by simp)
 have h3:=fE0 h2 (if to=(zo b n).holder then 31 else 0) (by simp)
 have h4:=fE0 h2 (if 0 < ((zo b n).ls.length:Int) then 19 else 0) (by simp)
 refine ⟨h1,own_e h1,fun q=>by rw [if_pos q] at h3;omega,?_⟩
 by_cases k:0 < ((zo b n).ls.length:Int)
 ·rw [if_pos k] at h4;omega
 ·exact List.eq_nil_of_length_eq_zero (by omega)
set_option maxRecDepth 100000
set_option linter.unusedVariables false
set_option linter.unusedSimpArgs false
set_option maxHeartbeats 4000000
theorem ycB {s:SlR} {x:Lea} (h1:chkLea x=0) (h2:leaOf s x=0) {t:Int} (ht:t≤x.to) (hf:x.fro≤t):chkLea ⟨x.carrier,x.fro,t⟩=0∧leaOf s ⟨x.carrier,x.fro,t⟩=0:=by
 have a1:=fE0 h1 (zaH x.carrier) (by simp)
 have a2:=fE0 h1 (rng x.fro 0 99999) (by simp)
 have a3:=fE0 h1 (rng x.to 0 99999) (by simp)
 have b1:=fE0 h2 (if x.fro < s.req.per.fro∨s.req.per.to < x.to then 30 else 0) (by simp)
 have b2:=fE0 h2 (if x.carrier=s.holder then 31 else 0) (by simp)
 have b1':¬(x.fro < s.req.per.fro∨s.req.per.to < x.to):=fun k=>by rw [if_pos k] at b1;omega
 refine ⟨zq.2 ⟨a1,zq.2 ⟨a2,zq.2 ⟨?_,zq.2 ⟨if_neg ?_,rfl⟩⟩⟩⟩,zq.2 ⟨if_neg ?_,zq.2 ⟨b2,rfl⟩⟩⟩
 ·rw [rng_0] at a2 a3 ⊢;dsimp only;omega
 ·dsimp only;omega
 ·dsimp only;omega
theorem ya6 {s:Slt} (h:chkSlt s=0) {d:Int} (he:recE s d=0):chkSlt (recS s d)=0:=by
 have h0:¬recI s d < 0:=fun k=>by rw [recE,if_pos k] at he;omega
 have c3:=fE0 h (if 8 < (s.ls.length:Int) then 5 else 0) (by simp)
 have h8:s.ls.length≤8:=by
  by_cases k:8 < (s.ls.length:Int)
  ·rw [if_pos k] at c3;omega
  ·omega
 have hle:∀ x ∈ s.ls,chkLea x=0∧leaOf s.raw x=0:=fun x hx=>by
  obtain ⟨i,hi⟩:=List.mem_iff_getElem?.1 hx
  have:=yae h hi
  exact ⟨fE0 this _ (by simp),fE0 this _ (by simp)⟩
 rcases yas (p:=fun l:Lea=>decide (l.fro≤d) && decide (d≤l.to)) (l:=s.ls) with ⟨k,_⟩|⟨k,x,hk,hx,hp,_⟩
 ·exact absurd k h0
 ·have hlt:=(List.getElem?_eq_some_iff.1 hx).1
  have htl:=take_len hx
  have e1:recL s d=s.ls.take k++(cutI (d - 1) x++s.ls.drop (k+1)):=by
   have ek:recI s d=(k:Nat):=hk
   rw [recL,ek,Int.toNat_natCast,zan hx,List.drop_append_of_le_length (by omega),List.drop_eq_nil_of_le (by omega),List.nil_append,cutL,List.flatMap_cons,List.flatMap_nil,List.append_nil]
  have e0:s.ls=s.ls.take k++x::s.ls.drop (k+1):=by
   conv=>lhs;rw [←List.take_append_drop k s.ls,List.drop_eq_getElem_cons hlt,(List.getElem?_eq_some_iff.1 hx).2]
  have hxp:x.fro≤d∧d≤x.to:=by simpa using hp
  obtain ⟨hxl,hxo⟩:=hle x (List.mem_of_getElem? hx)
  have hxx:=yY hxl
  have hz:∀ z ∈ cutI (d - 1) x,(chkLea z=0∧leaOf s.raw z=0)∧z.fro=x.fro∧z.fro≤z.to∧z.to≤x.to:=fun z hz=>by
   rw [cutI] at hz
   split at hz
   ·rename_i q
    rw [List.mem_singleton.1 hz]
    have q1:x.fro≤min x.to (d - 1):=by omega
    exact ⟨ycB hxl hxo (by omega) q1,rfl,q1,by simp only [cutE];omega⟩
   ·cases hz
  have hzl:(cutI (d - 1) x).length≤1:=by unfold cutI;split<;>simp
  have hzp:(cutI (d - 1) x).Pairwise ybb:=by unfold cutI;split<;>simp
  have hp0:=yaN h
  rw [e0] at hp0
  obtain ⟨p1,p2,p3⟩:=List.pairwise_append.1 hp0
  obtain ⟨p4,p5⟩:=List.pairwise_cons.1 p2
  refine yam h (L:=recL s d) ?_ (fun z hz'=>?_) ?_
  ·rw [e1];simp only [List.length_append,List.length_take,List.length_drop];omega
  ·rw [e1] at hz'
   rcases List.mem_append.1 hz' with q|q
   ·exact hle z (List.mem_of_mem_take q)
   ·rcases List.mem_append.1 q with q|q
    ·exact (hz z q).1
    ·exact hle z (List.mem_of_mem_drop q)
  ·rw [e1]
   refine List.pairwise_append.2 ⟨p1,List.pairwise_append.2 ⟨hzp,p5,fun a ha c hc=>?_⟩,fun a ha c hc=>?_⟩
   ·have:=p4 c hc
    obtain ⟨_,z1,z2,z3⟩:=hz a ha
    simp only [ybb] at this ⊢;omega
   ·rcases List.mem_append.1 hc with q|q
    ·have:=p3 a ha x (by simp)
     obtain ⟨_,z1,z2,z3⟩:=hz c q
     simp only [ybb] at this ⊢;omega
    ·exact p3 a ha c (by simp [q])
theorem ybh {s:Slt} (h:chkSlt s=0) {to:ByteArray} (hn:zaH to=0) (he:shE s to=0):chkSlt (shS s to)=0:=by
 have c1:=fE0 h (chkQ s.req) (by simp)
 have c2:=fE0 h (zaH s.holder) (by simp)
 have c3:=fE0 h (if 8 < (s.ls.length:Int) then 5 else 0) (by simp)
 have c4:=fE0 h (zg (s.ls.mapIdx (leaErr s))) (by simp)
 have c6:=fE0 h (zg (s.sh.mapIdx (shaErr s))) (by simp)
 have d1:=fE0 he (if to=s.holder then 31 else 0) (by simp)
 have d2:=fE0 he (if 0≤atL to s.sh then 9 else 0) (by simp)
 have d3:=fE0 he (if 4≤(s.sh.length:Int) then 5 else 0) (by simp)
 have h4:s.sh.length < 4:=by
  by_cases k:4≤(s.sh.length:Int)
  ·rw [if_pos k] at d3;omega
  ·omega
 refine zq.2 ⟨c1,zq.2 ⟨c2,zq.2 ⟨c3,zq.2 ⟨c4,zq.2 ⟨?_,zq.2 ⟨yg fun i x hx=>?_,rfl⟩⟩⟩⟩⟩⟩
 ·exact if_neg (by simp only [shS,List.length_append,List.length_singleton];omega)
 ·have hx':(s.sh++[to])[i]?=some x:=hx
  by_cases k:i < s.sh.length
  ·rw [List.getElem?_append_left k] at hx'
   have h6:=yS c6 hx'
   have e:(shS s to).sh.take i=s.sh.take i:=List.take_append_of_le_length (by omega)
   rw [shaErr] at h6 ⊢
   rw [e];exact h6
  ·have hlt:=(List.getElem?_eq_some_iff.1 hx').1
   rw [List.length_append,List.length_singleton] at hlt
   have ei:i=s.sh.length:=by omega
   subst ei
   rw [List.getElem?_append_right (Nat.le_refl _),Nat.sub_self] at hx'
   have ex:to=x:=Option.some.inj hx'
   subst ex
   have e:(shS s to).sh.take s.sh.length=s.sh:=List.take_left
   rw [shaErr,e]
   exact zq.2 ⟨hn,zq.2 ⟨d1,zq.2 ⟨d2,rfl⟩⟩⟩
theorem ybG {b:Bk} (h:zG b=0):BkOk b:=by
 have hl:=chkBk_len h
 refine ⟨fun s hs=>?_,by omega,by omega⟩
 have hv:=yaz h hs
 have c3:=fE0 hv (if 8 < (s.ls.length:Int) then 5 else 0) (by simp)
 have c5:=fE0 hv (if 4 < (s.sh.length:Int) then 5 else 0) (by simp)
 refine ⟨?_,?_⟩
 ·by_cases k:8 < (s.ls.length:Int)
  ·rw [if_pos k] at c3;omega
  ·omega
 ·by_cases k:4 < (s.sh.length:Int)
  ·rw [if_pos k] at c5;omega
  ·omega
structure yF (b y:Bk):Prop where
 r:y.slots.map (·.req)=b.slots.map (·.req)
 w:y.wait=b.wait
 v:zG y=0
theorem yb8 {b y:Bk} (h:zG b=0) (k:yF b y):mvE y=mvE b:=by rw [mvE,mvE,if_pos k.v,if_pos h,k.r]
theorem yV {b y:Bk} (k:yF b y):y.slots.length=b.slots.length:=by have:=congrArg List.length k.r;simpa using this
theorem yb9 {b y:Bk} (k:yF b y) {j:Nat} {s:Slt} (hs:b.slots[j]?=some s):∃ t,y.slots[j]?=some t∧t.req=s.req:=by
 have hl:=(List.getElem?_eq_some_iff.1 hs).1
 obtain ⟨t,ht⟩:=zn (i:=j) (l:=y.slots) (by rw [yV k];exact hl)
 have e:=congrArg (·[j]?) k.r
 simp only [List.getElem?_map,hs,ht,Option.map_some] at e
 exact ⟨t,ht,Option.some.inj e⟩
theorem yD {b:Bk} (h:zG b=0) {c n:ByteArray} {e:Int} (ho:ownE b c n e=0) {s':Slt} (hr:s'.req=(zo b n).req) (hv:chkSlt s'=0):yF b (chgB b n s'):=
 ⟨by rw [chgB];simp only;rw [List.map_set,hr];exact yaQ (by rw [List.getElem?_map,(za8 ho).2.1];rfl),rfl,ybC h ho (by rw [hr]) hv⟩
theorem yK {b:Bk} {c n:ByteArray} {e:Int} (ho:ownE b c n e=0) {s':Slt} (hh:s'.holder=(zo b n).holder):(chgB b n s').slots.map (·.holder)=b.slots.map (·.holder):=by
 rw [chgB];simp only;rw [List.map_set,hh];exact yaQ (by rw [List.getElem?_map,(za8 ho).2.1];rfl)
theorem yz {L:List ByteArray} (h:NoD L):L.Nodup:=by
 rw [List.Nodup,List.pairwise_iff_getElem]
 intro i j hi hj hij e
 have:=h i j L[i] (List.getElem?_eq_getElem hi) (by rw [List.getElem?_eq_getElem hj,e])
 omega
theorem yaH {b:Bk} (h:zG b=0):(b.slots.map (·.req.name)).Nodup:=yz fun i j x hi hj=>by
 rw [List.getElem?_map] at hi hj
 cases hs:b.slots[i]? with
 | none=>rw [hs] at hi;cases hi
 | some s=>
  cases ht:b.slots[j]? with
  | none=>rw [ht] at hj;cases hj
  | some t=>
   rw [hs] at hi;rw [ht] at hj
   have e1:s.req.name=x:=Option.some.inj hi
   have e2:t.req.name=x:=Option.some.inj hj
   have i1:=yaf h hs
   have i2:=yaf h ht
   rw [e1] at i1;rw [e2] at i2
   omega
theorem ya5 {N:List ByteArray} (hN:NoD N) {g:ByteArray→ByteArray} (hg:NoD (N.map g)):(N.map (yG N g)).Perm (N.map g):=by
 refine (List.perm_ext_iff_of_nodup (yz (yan hN hg)) (yz hg)).2 fun a=>⟨fun ha=>?_,fun ha=>?_⟩
 ·obtain ⟨x,hx,rfl⟩:=List.mem_map.1 ha
  obtain ⟨i,hi⟩:=List.mem_iff_getElem?.1 hx
  obtain ⟨y,hy,e⟩:=yw hN (g:=g) hi
  rw [e];exact List.mem_map.2 ⟨y,List.mem_of_getElem? hy,rfl⟩
 ·obtain ⟨x,hx,rfl⟩:=List.mem_map.1 ha
  obtain ⟨j,hj⟩:=List.mem_iff_getElem?.1 hx
  have lj:=(List.getElem?_eq_some_iff.1 hj).1
  have hi:∃ i,i < N.length∧(i+N.length - 1) % N.length=j:=by
   by_cases k:j+1 < N.length
   ·exact ⟨j+1,k,by rw [yR k,if_neg (by omega)];omega⟩
   ·exact ⟨0,by omega,by rw [yR (by omega),if_pos rfl];omega⟩
  obtain ⟨i,hi,e⟩:=hi
  obtain ⟨z,hz⟩:=zn (i:=i) (l:=N) hi
  obtain ⟨y,hy,e2⟩:=yw hN (g:=g) hz
  rw [e,hj] at hy
  exact List.mem_map.2 ⟨z,List.mem_of_getElem? hz,by rw [e2,←Option.some.inj hy]⟩
theorem yca {b:Bk} (h:zG b=0) {N:List ByteArray} (hN:NoD N) (hk:∀ n ∈ N,¬atL n (b.slots.map (·.req.name)) < 0) {G:ByteArray→ByteArray} (hG:(N.map G).Perm (N.map fun n=>(zo b n).holder)):((yJ b N G).slots.map (·.holder)).Perm (b.slots.map (·.holder)):=by
 have hA:((b.slots.filter fun s=>decide (s.req.name ∈ N)).map (·.req.name)).Perm N:=by
  refine (List.perm_ext_iff_of_nodup ?_ (yz hN)).2 fun a=>⟨fun ha=>?_,fun ha=>?_⟩
  ·exact List.Pairwise.sublist (List.Sublist.map _ List.filter_sublist) (yaH h)
  ·obtain ⟨s,hs,rfl⟩:=List.mem_map.1 ha
   exact of_decide_eq_true (List.mem_filter.1 hs).2
  ·refine List.mem_map.2 ⟨zo b a,List.mem_filter.2 ⟨List.mem_of_getElem? (slot_found (hk a ha)).1,decide_eq_true ?_⟩,yj (hk a ha)⟩
   rw [yj (hk a ha)];exact ha
 have hsp:=List.filter_append_perm (fun s:Slt=>decide (s.req.name ∈ N)) b.slots
 have e1:(b.slots.filter fun s=>decide (s.req.name ∈ N)).map (fun s=>(yL N G s).holder)=((b.slots.filter fun s=>decide (s.req.name ∈ N)).map (·.req.name)).map G:=by
  rw [List.map_map];refine List.map_congr_left fun s hs=>?_
  have k:=of_decide_eq_true (List.mem_filter.1 hs).2
  rw [yL,if_pos k];rfl
 have e2:(b.slots.filter fun s=>decide (s.req.name ∈ N)).map (·.holder)=((b.slots.filter fun s=>decide (s.req.name ∈ N)).map (·.req.name)).map fun n=>(zo b n).holder:=by
  rw [List.map_map];refine List.map_congr_left fun s hs=>?_
  obtain ⟨i,hi⟩:=List.mem_iff_getElem?.1 (List.mem_filter.1 hs).1
  show s.holder=(zo b s.req.name).holder
  rw [(yaE h hi).2.1]
 have e3:(b.slots.filter fun s=>!decide (s.req.name ∈ N)).map (fun s=>(yL N G s).holder)=(b.slots.filter fun s=>!decide (s.req.name ∈ N)).map (·.holder):=by
  refine List.map_congr_left fun s hs=>?_
  have k:s.req.name ∉ N:=by simpa using (List.mem_filter.1 hs).2
  rw [yL,if_neg k]
 have a1:=(hsp.map fun s=>(yL N G s).holder).symm
 have a2:=hsp.map (·.holder)
 rw [List.map_append,e1,e3] at a1
 rw [List.map_append,e2] at a2
 rw [yJ];simp only;rw [List.map_map]
 exact a1.trans ((((hA.map G).trans (hG.trans (hA.map _).symm)).append_right _).trans a2)
theorem yaa {b:Bk} (h:zG b=0) {N:List ByteArray} (hC:yk b N=0):yF b (yh b N)∧((yh b N).slots.map (·.holder)).Perm (b.slots.map (·.holder)):=by
 obtain ⟨_,hN,hk,_⟩:=y8 hC
 obtain ⟨hr,e,ht⟩:=ring_t h hC
 rw [e]
 refine ⟨⟨?_,rfl,(ht 1).1⟩,yca h hN hk (ya5 hN hr.h)⟩
 rw [yJ];simp only;rw [List.map_map]
 exact List.map_congr_left fun s _=>yB _ _ s
theorem ybe {b:Bk} (h:zG b=0) {o t:ByteArray} (hC:swpC b o t=0):yF b (swpB b o t)∧((swpB b o t).slots.map (·.holder)).Perm (b.slots.map (·.holder)):=by
 obtain ⟨c1,c2⟩:=ybI hC
 rw [←c2];exact yaa h c1
theorem yaM {b:Bk} (h:zG b=0) {c n to:ByteArray} (hC:trC b c n to=0):yF b (trB b c n to)∧∀ x ∈ (trB b c n to).slots.map (·.holder),x ∈ b.slots.map (·.holder)∨x=to:=by
 obtain ⟨h1,h2,_,h4⟩:=ybH hC
 rw [trB,if_pos hC]
 refine ⟨yD h h1 rfl (yaP (yx h h1) h4 h2),fun x hx=>?_⟩
 obtain ⟨s,hs,rfl⟩:=List.mem_map.1 hx
 rcases List.mem_or_eq_of_mem_set hs with k|rfl
 ·exact .inl (List.mem_map.2 ⟨s,k,rfl⟩)
 ·exact .inr rfl
theorem yb6 {b:Bk} (h:zG b=0) {c n:ByteArray} {l:Lea} (hC:lnC b c n l=0):yF b (lnB b c n l)∧(lnB b c n l).slots.map (·.holder)=b.slots.map (·.holder):=by
 obtain ⟨h1,h2,h3⟩:=yb5 hC
 rw [lnB,if_pos hC]
 exact ⟨yD h h1 rfl (ybr (yx h h1) h2 h3),yK h1 rfl⟩
theorem ybO {b:Bk} (h:zG b=0) {c n:ByteArray} {d:Int} (hC:reC b c n d=0):yF b (reB b c n d)∧(reB b c n d).slots.map (·.holder)=b.slots.map (·.holder):=by
 have h1:ownE b c n (rng d 0 99999)=0:=fE0 hC _ (by simp)
 have h2:recE (zo b n) d=0:=fE0 hC _ (by simp)
 rw [reB,if_pos hC]
 exact ⟨yD h h1 rfl (ya6 (yx h h1) h2),yK h1 rfl⟩
theorem ybJ {b:Bk} (h:zG b=0) {c n to:ByteArray} (hC:shC b c n to=0):yF b (shB b c n to)∧(shB b c n to).slots.map (·.holder)=b.slots.map (·.holder):=by
 have h1:ownE b c n (zaH to)=0:=fE0 hC _ (by simp)
 have h2:shE (zo b n) to=0:=fE0 hC _ (by simp)
 rw [shB,if_pos hC]
 exact ⟨yD h h1 rfl (ybh (yx h h1) (own_e h1) h2),yK h1 rfl⟩
set_option maxRecDepth 100000
set_option linter.unusedVariables false
set_option linter.unusedSimpArgs false
set_option maxHeartbeats 8000000
def ya1 (x:ByteArray) (L:List ByteArray):Nat:=(L.filter fun y=>decide (y=x)).length
theorem ycL (x:ByteArray) (L:List ByteArray):ya1 x L≤L.length:=List.length_filter_le _ _
theorem ybB {x y:ByteArray} {L:List ByteArray} {k:Nat} (h:L[k]?=some y):ya1 x (L.take (k+1))=ya1 x (L.take k)+if y=x then 1 else 0:=by
 rw [zan h,ya1,List.filter_append,List.length_append,←ya1,List.filter_cons,List.filter_nil]
 by_cases k:y=x
 ·rw [if_pos k,if_pos (decide_eq_true k)];rfl
 ·rw [if_neg k,if_neg (by simp [k])];rfl
theorem ybA {x:ByteArray} {A B:List ByteArray} (h:A.Perm B):ya1 x A=ya1 x B:=(h.filter _).length_eq
theorem yd (L:List ByteArray) (x:ByteArray):Pure Tryz.prog 80 [.sl 1 (L.map .s),.s x] (.i .i64 (ya1 x L)):=by
 refine zf (cF Tryz.func80 Tryz.f80.eq_1) (by simp) fun hw X hX=>?_
 simp only [wfs,PV.wf,List.length_map,maxLen] at hw
 repeat' first|refine gC (fun hc=>?_) (fun hc=>?_)<;>try contradiction|refine gG ?_|show AK _;intro K H|refine H _ _ ?_;clear H K|refine gJ ?_;try exact trivial|omega
 refine zk (κ:=Nat) (fun k=>⟨[(1,.p (.s x)),(5,.p (.i .i64 (ya1 x (L.take k)))),(8,.p (.sl 1 (L.map .s))),(9,.p (.i .i64 L.length)),(10,.p (.i .i64 k))],[],[],false⟩) (fun k=>k≤L.length) (fun k=>L.length - k) 0 ?_ ?_ ?_
 ·refine gJ ?_;simp [ya1]
 ·simp
 ·intro k hk
  have hl:=ycL x (L.take k)
  rw [List.length_take] at hl
  repeat first|refine gG ?_|show AK _;intro K H|refine H _ _ ?_;clear H K|refine gJ ?_;try exact trivial|omega
  (refine gC (fun hc=>?_) (fun hc=>?_)<;>try contradiction)
  ·obtain ⟨y,hy⟩:=zn (i:=k) (l:=L) (by omega)
   have hn:=ybB (x:=x) hy
   have qe:=aI qR @hy;repeat' first|refine gC (fun hc=>?_) (fun hc=>?_)<;>try contradiction|refine gG ?_|show AK _;intro K H|refine H _ _ ?_;clear H K|refine gJ ?_;try exact trivial|omega
   ·rw [if_pos hc] at hn
    exact ⟨k+1,by omega,by omega,⟨by rw [hn];simp,by simp⟩⟩
   ·rw [if_neg hc] at hn
    exact ⟨k+1,by omega,by omega,⟨by rw [hn];simp,by simp⟩⟩
  ·have ek:k=L.length:=by omega
   subst ek
   repeat' first|refine gC (fun hc=>?_) (fun hc=>?_)<;>try contradiction|refine gG ?_|show AK _;intro K H|refine H _ _ ?_;clear H K|refine gJ ?_;try exact trivial|omega
   rw [List.take_length]
   exact .refl _
end Go.Proofs.YtahmdjadnlpjoaaGreat
