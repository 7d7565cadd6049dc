/- Contracts of functions that the proof uses, shared by the claims of this seat; no statement of its own. Part 73. No conditions. -/
import Derived.ProofKit
import Derived.OpenShut
import Derived.Carry
import Derived.OpenVars
import Derived.HandedShaped
import Derived.KernelRfl
import Derived.Laws.RangeAny
import Derived.Test.YtahmdjadnlpjoaaGreatRows
import Derived.Test.YtahmdjadnlpjoaaGreatQ2
set_option linter.all false
set_option maxHeartbeats 8000000
namespace Go.Proofs.YtahmdjadnlpjoaaGreat
open Go.RowKit
set_option maxRecDepth 100000
set_option linter.unusedVariables false
set_option linter.unusedSimpArgs false
set_option maxHeartbeats 8000000
theorem yce {α:Type} {p:α→Bool} {l:List α} {k:Nat} {x:α} (h:l[k]?=some x):(l.take (k+1)).any p=((l.take k).any p || p x):=by
 rw [zan h,List.any_append];simp
section
variable {α:Type}
def inF (bf:α→α→Bool) (l:α) (q:Bool × List α) (x:α):Bool × List α:=if q.1=false∧bf l x=true then (true,q.2++[l]++[x]) else (q.1,q.2++[x])
def inK (bf:α→α→Bool) (l:α) (L:List α):Bool × List α:=L.foldl (inF bf l) (false,[])
def inR (bf:α→α→Bool) (l:α) (L:List α):List α:=if (inK bf l L).1=true then (inK bf l L).2 else (inK bf l L).2++[l]
end
set_option maxRecDepth 100000
set_option linter.unusedVariables false
set_option linter.unusedSimpArgs false
set_option maxHeartbeats 4000000
theorem ycj {α:Type} {R:α→α→Prop} (tr:∀ a b c,R a b→R b c→R a c):∀ {L:List α},(∀ i x y,L[i]?=some x→L[i+1]?=some y→R x y)→L.Pairwise R
 | [],_=>.nil
 | [x],_=>by simp
 | x::y::r,h=>by
  have ih:(y::r).Pairwise R:=ycj tr fun i a b h1 h2=>h (i+1) a b (by simpa using h1) (by simpa using h2)
  refine List.pairwise_cons.2 ⟨fun z hz=>?_,ih⟩
  have hxy:=h 0 x y rfl rfl
  rcases List.mem_cons.1 hz with rfl|hz
  ·exact hxy
  ·exact tr _ _ _ hxy (List.rel_of_pairwise_cons ih hz)
theorem ycn {α:Type} {bef:α→α→Bool} {x:α} {A B:List α} (hA:∀ y ∈ A,bef x y=false) (hB:∀ y ∈ B,bef x y=true):insMP bef (A++B) x=A++x::B:=by
 have hle:=yai bef x (A++B) (A++B).length
 have h1:zbB bef x (A++B) (A++B).length=A.length:=by
  generalize hn:zbB bef x (A++B) (A++B).length=n at hle
  rcases Nat.lt_trichotomy n A.length with h|h|h
  ·obtain ⟨y,hy,hb⟩:=yaj bef x (A++B) (A++B).length n (by omega) (by rw [List.length_append];omega)
   rw [List.getElem?_append_left h] at hy
   rw [hA y (List.mem_of_getElem? hy)] at hb;cases hb
  ·exact h
  ·obtain ⟨k,rfl⟩:∃ k,n=k+1:=⟨n - 1,by omega⟩
   rw [List.length_append] at hle
   obtain ⟨y,hy⟩:=zn (i:=k - A.length) (l:=B) (by omega)
   have hy':(A++B)[k]?=some y:=by rw [List.getElem?_append_right (by omega)];exact hy
   have:=yQ bef x (A++B) _ k y hn hy'
   rw [hB y (List.mem_of_getElem? hy)] at this;cases this
 rw [insMP,h1];simp
theorem ybq {α:Type} {c:α→α→Int}:∀ (L out:List α),(out++L).Pairwise (fun a b=>¬c b a < 0)→L.foldl (insMP (bfCP c)) out=out++L
 | [],out,_=>by simp
 | x::r,out,h=>by
  have hx:insMP (bfCP c) out x=out++[x]:=by
   have:=ycn (bef:=bfCP c) (x:=x) (A:=out) (B:=[]) (fun y hy=>decide_eq_false ((List.pairwise_append.1 h).2.2 y hy x (by simp))) (by simp)
   rwa [List.append_nil] at this
  rw [List.foldl_cons,hx,ybq r (out++[x]) (by rw [List.append_assoc];exact h),List.append_assoc];rfl
theorem yaZ {α:Type} (bf:α→α→Bool) (l:α):∀ (B:List α) (out:List α),B.foldl (inF bf l) (true,out)=(true,out++B)
 | [],out=>by simp
 | x::r,out=>by
  rw [List.foldl_cons,inF,if_neg (by simp),yaZ bf l r];simp
theorem ya0 {α:Type} (bf:α→α→Bool) (l:α):∀ (A:List α) (out:List α),(∀ y ∈ A,bf l y=false)→A.foldl (inF bf l) (false,out)=(false,out++A)
 | [],out,_=>by simp
 | x::r,out,h=>by
  rw [List.foldl_cons,inF,if_neg (fun k=>by have:=h x (by simp);rw [this] at k;cases k.2),ya0 bf l r _ (fun y hy=>h y (by simp [hy]))];simp
theorem yco {α:Type} {bf:α→α→Bool} {l:α} {A B:List α} (hA:∀ y ∈ A,bf l y=false) (hB:∀ y ∈ B,bf l y=true):inR bf l (A++B)=A++l::B:=by
 rw [inR,inK,List.foldl_append,ya0 bf l A [] hA,List.nil_append]
 cases B with
 | nil=>simp
 | cons x r=>
  have e:inF bf l (false,A) x=(true,A++[l]++[x]):=if_pos ⟨rfl,hB x (by simp)⟩
  rw [List.foldl_cons,e,yaZ];simp
set_option maxRecDepth 100000
set_option linter.unusedVariables false
set_option linter.unusedSimpArgs false
set_option maxHeartbeats 8000000
theorem yaz {l:List Lim} {m:List Mov} {r:Req} (hl:z3 l=0) (hm:zad m=0) (hr:chkReq r=0):fitR l m r=fitsB l m r:=by
 have:fitC l m r=0:=by
  unfold fitC
  refine zq.2 ⟨?_,zq.2 ⟨hr,rfl⟩⟩
  exact zq.2 ⟨hl,zq.2 ⟨hm,rfl⟩⟩
 rw [fitR,this];simp
theorem ybL {l:List Lim} {m:List Mov} (hl:z3 l=0) (hm:zad m=0):bothC l m=0:=zq.2 ⟨hl,zq.2 ⟨hm,rfl⟩⟩
theorem yaw {b:Bk} (h:zG b=0):movF b (-1)=mvS b.slots:=by
 have:=(yaE h).1
 rw [mvE,if_pos h] at this;exact this
theorem yar {b:Bk} (h:∀ s ∈ b.slots,chkReq s.req=0) (hn:b.slots.length≤64):movF b (-1)=mvS b.slots∧zad (mvS b.slots)=0∧(mvS b.slots).length≤401*b.slots.length:=by
 have:=ycm h (by omega) b.slots.length (Nat.le_refl _)
 rw [List.take_length] at this
 have e:(b.slots.map (·.req)).take b.slots.length=b.slots.map (·.req):=List.take_of_length_le (by simp)
 rw [e] at this
 rw [movF,ybr];exact this
set_option maxRecDepth 100000
set_option linter.unusedVariables false
set_option linter.unusedSimpArgs false
set_option maxHeartbeats 8000000
structure Tmg where
 req:Req
 carrier:ByteArray
 slot:ByteArray
 day:Int
 minute:Int
abbrev Tmg.pv (x:Tmg):PV:=.agg [.s x.req.name,.s x.req.carrier,.s x.req.kind,.s x.req.term,.s x.req.partner,.s x.req.link,.i .i64 x.req.per.fro,.i .i64 x.req.per.to,.i .i64 x.req.per.days,.i .i64 x.req.minute,.i .i64 x.req.seats,.i .i64 x.req.size,.i .i64 x.req.noise,.s x.carrier,.s x.slot,.i .i64 x.day,.i .i64 x.minute]
end Go.Proofs.YtahmdjadnlpjoaaGreat
namespace Go.Proofs.YtahmdjadnlpjoaaGreat
open Go.RowKit Go.ChangeShapes Go.WideShapes Go.ChangeAt
set_option maxRecDepth 100000
set_option linter.unusedVariables false
set_option linter.unusedSimpArgs false
set_option maxHeartbeats 4000000
def limT:List CP:=[.s,.s,.s,jT,jT,jT,jT,jT,jT,jT,jT]
theorem lim_of {l:List PV} (h:FitAll (Fit 5) limT l):∃ L:Lim,l=L.cells:=by
 match l,h with
 | [_,_,_,_,_,_,_,_,_,_,_],⟨⟨a,ha⟩,⟨b,hb⟩,⟨c,hc⟩,⟨d,hd⟩,⟨e,he⟩,⟨f,hf⟩,⟨g,hg⟩,⟨i,hi⟩,⟨j,hj⟩,⟨k,hk⟩,⟨m,hm⟩,_⟩=>
  subst ha hb hc hd he hf hg hi hj hk hm
  exact ⟨⟨a,b,c,d,e,f,g,⟨i,j,k⟩,m⟩,rfl⟩
theorem par22:ycD Tryz.prog 6 64=some (false,[.sl true limT]):=by kernel_rfl
theorem und22:Tryz.prog.underlying 64=some (.slice 118):=by kernel_rfl
theorem byt46:Tryz.prog.bytesOf 118=112:=by kernel_rfl
theorem yca {p:PV} (h:y3 Tryz.prog 6 64 p):∃ L:List Lim,p=.sl 11 (L.map Lim.pv)∧L.length*112≤140737488355328:=by
 obtain ⟨⟨ag,c,l,hp,rfl,hl⟩,hb⟩:=h
 rw [par22] at hp
 simp only [Option.some.injEq,Prod.mk.injEq] at hp
 obtain ⟨rfl,rfl⟩:=hp
 match l,hl with
 | [q],⟨⟨xs,hq,hx⟩,_⟩=>
  subst hq
  obtain ⟨L,rfl⟩:=yE (f:=Lim.pv) (xs:=xs) fun x h=>by
   obtain ⟨l,rfl,hf⟩:=hx x h
   obtain ⟨L,rfl⟩:=lim_of hf
   exact ⟨L,rfl⟩
  refine ⟨L,rfl,?_⟩
  have:=hb 118 _ _ und22 rfl
  rw [byt46,List.length_map] at this
  unfold reachBytes at this;omega
end Go.Proofs.YtahmdjadnlpjoaaGreat
namespace Go.Proofs.YtahmdjadnlpjoaaGreat
open Go.RowKit
set_option maxRecDepth 100000
set_option linter.unusedVariables false
set_option linter.unusedSimpArgs false
set_option maxHeartbeats 4000000
theorem fE_of:∀ {l:List Int},(∀ x ∈ l,x=0)→zg l=0
 | [],_=>rfl
 | x::r,h=>zq.2 ⟨h x (by simp),fE_of fun y hy=>h y (by simp [hy])⟩
theorem yag {α:Type} {f:Nat→α→Int} {l:List α} (h:∀ i x,l[i]?=some x→f i x=0):zg (l.mapIdx f)=0:=fE_of fun y hy=>by
 obtain ⟨i,hi⟩:=List.mem_iff_getElem?.1 hy
 rw [List.getElem?_mapIdx] at hi
 cases hx:l[i]? with
 | none=>rw [hx] at hi;cases hi
 | some x=>
  rw [hx] at hi
  have e:f i x=y:=Option.some.inj hi
  rw [←e];exact h i x hx
theorem yaK {b:Bk} (h:zG b=0) {i:Nat} {s:Slt} (hs:b.slots[i]?=some s):atL s.req.name (b.slots.map (·.req.name))=i:=by
 rw [←idxF_atL (fun x:Slt=>x.req.name)]
 refine idxF_hit (fun y hy=>decide_eq_false fun e=>?_) hs (decide_eq_true rfl)
 have h1:=fE0 (ybN h hs) (if 0≤atL s.req.name ((b.slots.take i).map (·.req.name)) then 9 else 0) (by simp)
 have:0≤atL s.req.name ((b.slots.take i).map (·.req.name)):=(ya _ _).2 (List.mem_map.2 ⟨y,hy,e⟩)
 rw [if_pos this] at h1;omega
set_option maxRecDepth 100000
set_option linter.unusedVariables false
set_option linter.unusedSimpArgs false
set_option maxHeartbeats 4000000
instance decMem (n:ByteArray) (N:List ByteArray):Decidable (n ∈ N):=decidable_of_iff _ (ya n N)
def NoD (L:List ByteArray):Prop:=∀ (i j:Nat) (x:ByteArray),L[i]?=some x→L[j]?=some x→i=j
structure RgOk (b:Bk) (N:List ByteArray) (g:ByteArray→ByteArray):Prop where
 n:NoD N
 k:∀ n ∈ N,¬atL n (b.slots.map (·.req.name)) < 0
 l:∀ n ∈ N,(zo b n).ls=[]
 h:NoD (N.map g)
 e:∀ n ∈ N,zaH (g n)=0
set_option maxRecDepth 100000
set_option linter.unusedVariables false
set_option linter.unusedSimpArgs false
set_option maxHeartbeats 4000000
theorem yaG {b:Bk} (h:zG b=0):BkOk b:=by
 have hl:=chkBk_len h
 refine ⟨fun s hs=>?_,by omega,by omega⟩
 have hv:=ybM h hs
 have c3:=fE0 hv (if 8 < (s.ls.length:Int) then 5 else 0) (by simp)
 have c5:=fE0 hv (if 4 < (s.sh.length:Int) then 5 else 0) (by simp)
 refine ⟨?_,?_⟩
 ·by_cases k:8 < (s.ls.length:Int)
  ·rw [if_pos k] at c3;omega
  ·omega
 ·by_cases k:4 < (s.sh.length:Int)
  ·rw [if_pos k] at c5;omega
  ·omega
structure Keeps (b y:Bk):Prop where
 r:y.slots.map (·.req)=b.slots.map (·.req)
 w:y.wait=b.wait
 v:zG y=0
theorem yae {L:List ByteArray} (h:NoD L):L.Nodup:=by
 rw [List.Nodup,List.pairwise_iff_getElem]
 intro i j hi hj hij e
 have:=h i j L[i] (List.getElem?_eq_getElem hi) (by rw [List.getElem?_eq_getElem hj,e])
 omega
theorem yav {b:Bk} (h:zG b=0):(b.slots.map (·.req.name)).Nodup:=yae fun i j x hi hj=>by
 rw [List.getElem?_map] at hi hj
 cases hs:b.slots[i]? with
 | none=>rw [hs] at hi;cases hi
 | some s=>
  cases ht:b.slots[j]? with
  | none=>rw [ht] at hj;cases hj
  | some t=>
   rw [hs] at hi;rw [ht] at hj
   have e1:s.req.name=x:=Option.some.inj hi
   have e2:t.req.name=x:=Option.some.inj hj
   have i1:=yaK h hs
   have i2:=yaK h ht
   rw [e1] at i1;rw [e2] at i2
   omega
set_option maxRecDepth 100000
set_option linter.unusedVariables false
set_option linter.unusedSimpArgs false
set_option maxHeartbeats 8000000
def ycu (b:Bk) (w:Wsh):Bk:=if waitE b w=0 then ⟨b.slots,inR ye w b.wait⟩ else bk0
theorem ybv (b:Bk) (w:Wsh) (hb:zG b=0→BkOk b) (hn:zG b=0→b.wait.length≤10):Pure Tryz.prog 32 [b.pv,w.pv] (.tup [(WaitB b w).pv,.i .i64 (WaitC b w)]):=by
 by_cases h:zG b=0
 ·exact pure1018 b w hb (hn h)
 ·have e1:(zG b=0)=False:=eq_false h
  have hC:WaitC b w=zG b:=if_neg h
  have hB:WaitB b w=bk0:=by rw [WaitB,hC,if_neg h]
  rw [hB,hC]
  refine zat (r:=.tup [.agg [.nilsl,.nilsl],.i .i64 (zG b)]) ?_ (zbw _)
  refine zf (cF Tryz.func32 Tryz.f32.eq_1) (by simp) fun hw X hX=>?_
  have qe:=aI qR (aI @qN @e1);repeat' first|refine gC (fun hc=>?_) (fun hc=>?_)<;>try contradiction|refine za (zX b) ?_|refine gG ?_|show AK _;intro K H|refine H _ _ ?_;clear H K|refine gJ ?_;try exact trivial|omega
  exact .refl _
set_option maxRecDepth 100000
set_option linter.unusedVariables false
set_option linter.unusedSimpArgs false
set_option maxHeartbeats 8000000
def ym (l:List Lim) (b:Bk) (k:Nat):List Slt:=b.slots++(srvK l b k).Q.map newS
set_option maxRecDepth 100000
set_option linter.unusedVariables false
set_option linter.unusedSimpArgs false
set_option maxHeartbeats 4000000
theorem ybk {b:Bk} (h:zG b=0) {k:Nat} {w:Wsh} (hw:b.wait[k]?=some w):w.req.name ∉ b.slots.map (·.req.name)∧w.req.name ∉ (b.wait.take k).map (·.req.name):=by
 have:=fE0 (y9 h hw) (if 0≤atL w.req.name (b.slots.map (·.req.name)++(b.wait.take k).map (·.req.name)) then 9 else 0) (by simp)
 have hn:¬0≤atL w.req.name (b.slots.map (·.req.name)++(b.wait.take k).map (·.req.name)):=fun q=>by rw [if_pos q] at this;omega
 exact ⟨fun q=>hn ((ya _ _).2 (List.mem_append_left _ q)),fun q=>hn ((ya _ _).2 (List.mem_append_right _ q))⟩
theorem ybj {b:Bk} (h:zG b=0) {k:Nat} {w:Wsh} (hw:b.wait[k]?=some w):chkQ w.req=0:=fE0 (fE0 (y9 h hw) (chkWsh w) (by simp)) _ (by simp)
theorem yaU (S:List Slt) (x:Slt):mvS (S++[x])=mergeM befM (mvS S) (movsL x.req):=by rw [mvS,List.foldl_append];rfl
theorem yaq {l:List Lim} {b:Bk} (h:zG b=0):∀ k,k≤b.wait.length→(∀ r ∈ (srvK l b k).Q,∃ j w,j < k∧b.wait[j]?=some w∧r=w.req)∧(srvK l b k).M=mvS (ym l b k)∧(ym l b k).length≤64:=by
 intro k
 induction k with
 | zero=>
  intro _
  have hn:=chkBk_len h
  refine ⟨fun r hr=>(by cases hr),?_,by simp only [ym,srvK,srv0,List.take_zero,List.foldl_nil,List.map_nil,List.append_nil];omega⟩
  have:=yaw h
  simp only [ym,srvK,srv0,List.take_zero,List.foldl_nil,List.map_nil,List.append_nil]
  exact this
 | succ k ih=>
  intro hk
  obtain ⟨i1,i2,i3⟩:=ih (by omega)
  obtain ⟨w,hw⟩:=zn (i:=k) (l:=b.wait) (by omega)
  have hv:∀ s ∈ ym l b k,chkReq s.req=0:=fun s hs=>by
   rcases List.mem_append.1 hs with hs|hs
   ·exact ybO h hs
   ·obtain ⟨r,hr,rfl⟩:=List.mem_map.1 hs
    obtain ⟨j,w',_,hj,rfl⟩:=i1 r hr
    exact yB (ybj h hj)
  have hnx:=srvK_next (l:=l) hw
  rw [srvN] at hnx
  by_cases hno:srvNo l b.slots.length (srvK l b k) w
  ·rw [if_pos hno] at hnx
   have e:ym l b (k+1)=ym l b k:=by rw [ym,ym,hnx]
   rw [e,hnx]
   exact ⟨fun r hr=>by obtain ⟨j,w',h1,h2⟩:=i1 r hr;exact ⟨j,w',by omega,h2⟩,i2,i3⟩
  ·rw [if_neg hno] at hnx
   have e:ym l b (k+1)=ym l b k++[newS w.req]:=by rw [ym,ym,hnx];simp
   have hr:=yB (ybj h hw)
   have hlt:(ym l b k).length < 64:=by
    have h1:¬64≤((b.slots.length+(srvK l b k).Q.length:Nat):Int):=fun q=>hno (.inl q)
    simp only [ym,List.length_append,List.length_map];omega
   obtain ⟨_,m2,m3⟩:=yar (b:=⟨ym l b k,[]⟩) hv i3
   obtain ⟨n1,n2⟩:=yaV hr
   simp only at m2 m3
   have hg:mgE (mvS (ym l b k)) (movsL w.req)=0:=zq.2 ⟨m2,zq.2 ⟨n1,zq.2 ⟨if_neg (by omega),rfl⟩⟩⟩
   rw [e,hnx]
   refine ⟨fun r hr'=>?_,?_,by rw [List.length_append,List.length_singleton];omega⟩
   ·rcases List.mem_append.1 hr' with hr'|hr'
    ·obtain ⟨j,w',h1,h2⟩:=i1 r hr';exact ⟨j,w',by omega,h2⟩
    ·exact ⟨k,w,by omega,hw,List.mem_singleton.1 hr'⟩
   ·simp only
    rw [yaU,i2,movR,if_pos hr,mgR,if_pos hg];rfl
theorem yci {l:List Lim} {b:Bk} (h:zG b=0):∀ k≤b.wait.length,(∀ s ∈ ym l b k,chkReq s.req=0)∧(ym l b k).length≤64:=fun k hk=>by
 obtain ⟨i1,_,i3⟩:=yaq (l:=l) h k hk
 refine ⟨fun s hs=>?_,i3⟩
 rcases List.mem_append.1 hs with hs|hs
 ·exact ybO h hs
 ·obtain ⟨r,hr,rfl⟩:=List.mem_map.1 hs
  obtain ⟨j,w',_,hj,rfl⟩:=i1 r hr
  exact yB (ybj h hj)
theorem yC (a b:Wsh):ye a b=decide (cmpW a b < 0):=by
 have key:ye a b=true↔cmpW a b < 0:=by
  rw [ye,cmpW]
  simp only [Bool.or_eq_true,Bool.and_eq_true,decide_eq_true_eq]
  rcases Int.lt_trichotomy a.rank b.rank with k|k|k
  ·have:cmpI a.rank b.rank=-1:=if_pos k
   rw [this,za2 (by omega)]
   exact ⟨fun _=>by omega,fun _=>.inl k⟩
  ·have:cmpI a.rank b.rank=0:=by rw [cmpI,if_neg (by omega),if_neg (by omega)]
   rw [za3 this,fE_one,cmpS_l]
   exact ⟨fun q=>by rcases q with q|q;(· omega);exact q.2,fun q=>.inr ⟨k,q⟩⟩
  ·have:cmpI a.rank b.rank=1:=by rw [cmpI,if_neg (by omega),if_pos k]
   rw [this,za2 (by omega)]
   exact ⟨fun q=>by rcases q with q|q<;>omega,fun q=>by omega⟩
 by_cases h:cmpW a b < 0
 ·rw [decide_eq_true h];exact key.2 h
 ·rw [decide_eq_false h]
  cases q:ye a b
  ·rfl
  ·exact absurd (key.1 q) h
theorem yX:∀ x y z:List UInt8,Op.bytesLess x y=true→Op.bytesLess y z=true→Op.bytesLess x z=true
 | _,[],_,h,_=>by simp [Op.bytesLess] at h
 | _,_::_,[],_,h=>by simp [Op.bytesLess] at h
 | [],_::_,_::_,_,_=>by simp [Op.bytesLess]
 | a::x,b::y,c::z,h,k=>by
  simp only [Op.bytesLess,Bool.or_eq_true,Bool.and_eq_true,decide_eq_true_eq,beq_iff_eq] at h k ⊢
  rcases h with h|⟨rfl,h⟩
  ·rcases k with k|⟨rfl,k⟩
   ·exact .inl (UInt8.lt_trans h k)
   ·exact .inl h
  ·rcases k with k|⟨rfl,k⟩
   ·exact .inl k
   ·exact .inr ⟨rfl,yX x y z h k⟩
theorem ybI (a b:Wsh):cmpW a b < 0↔a.rank < b.rank∨(a.rank=b.rank∧Op.bytesLess a.req.name.toList b.req.name.toList=true):=by
 have h:=yC a b
 rw [ye] at h
 constructor
 ·intro q
  rw [decide_eq_true q] at h
  simpa only [Bool.or_eq_true,Bool.and_eq_true,decide_eq_true_eq] using h
 ·intro q
  have h2:(decide (a.rank < b.rank) || (decide (a.rank=b.rank) && Op.bytesLess a.req.name.toList b.req.name.toList))=true:=by
   simpa only [Bool.or_eq_true,Bool.and_eq_true,decide_eq_true_eq] using q
  rw [h2] at h
  exact of_decide_eq_true h.symm
theorem yaB (a b c:Wsh) (h:cmpW a b < 0) (k:cmpW b c < 0):cmpW a c < 0:=by
 rw [ybI] at *
 rcases h with h|⟨h1,h2⟩
 ·rcases k with k|⟨k1,_⟩<;>exact .inl (by omega)
 ·rcases k with k|⟨k1,k2⟩
  ·exact .inl (by omega)
  ·exact .inr ⟨by omega,yX _ _ _ h2 k2⟩
theorem ycU {a b:Wsh} (h:cmpW a b < 0):¬cmpW b a < 0:=fun k=>by
 have:=yaB a b a h k
 rw [ybI,less_irr] at this
 rcases this with h|⟨_,h⟩
 ·omega
 ·cases h
theorem yb8 {x y:ByteArray} (h:x≠y) (k:¬Op.bytesLess x.toList y.toList=true):Op.bytesLess y.toList x.toList=true:=by
 by_cases q:Op.bytesLess y.toList x.toList=true
 ·exact q
 ·exact absurd (ba_tri (by simpa using k) (by simpa using q)) h
theorem ycc {a b:Wsh} (h:¬cmpW a b≤0):cmpW b a < 0:=by
 rw [cmpW] at h
 rw [ybI]
 rcases Int.lt_trichotomy a.rank b.rank with k|k|k
 ·have e:cmpI a.rank b.rank=-1:=if_pos k
  rw [e,za2 (by omega)] at h;omega
 ·have e:cmpI a.rank b.rank=0:=by rw [cmpI,if_neg (by omega),if_neg (by omega)]
  rw [za3 e,fE_one] at h
  refine .inr ⟨k.symm,?_⟩
  have hn:a.req.name≠b.req.name:=fun q=>h (by rw [(cmpS_0 _ _).2 q];omega)
  have hl:¬cmpS a.req.name b.req.name < 0:=fun q=>h (by omega)
  exact yb8 hn (fun q=>hl ((cmpS_l _ _).2 q))
 ·exact .inl k
theorem ybl {b:Bk} (h:zG b=0):b.wait.Pairwise (fun x y=>cmpW x y < 0):=by
 refine ycj yaB fun i x y hx hy=>?_
 have:=fE0 (y9 h hy) (if 0 < ((i+1:Nat):Int)∧cmpW y ((b.wait[i+1 - 1]?).getD y)≤0 then 11 else 0) (by simp)
 have e:(b.wait[i+1 - 1]?).getD y=x:=by rw [Nat.add_sub_cancel,hx];rfl
 rw [e] at this
 by_cases k:0 < ((i+1:Nat):Int)∧cmpW y x≤0
 ·rw [if_pos k] at this;omega
 ·exact ycc (fun q=>k ⟨by omega,q⟩)
theorem yaJ {α:Type} {R:α→α→Prop} {p:α→Bool} (hp:∀ x y,R x y→p x=true→p y=true):∀ {L:List α},L.Pairwise R→∃ A B,L=A++B∧(∀ y ∈ A,p y=false)∧∀ y ∈ B,p y=true
 | [],_=>⟨[],[],rfl,by simp,by simp⟩
 | x::r,h=>by
  by_cases k:p x=true
  ·exact ⟨[],x::r,rfl,by simp,fun y hy=>by
    rcases List.mem_cons.1 hy with rfl|hy
    ·exact k
    ·exact hp x y (List.rel_of_pairwise_cons h hy) k⟩
  ·obtain ⟨A,B,rfl,h1,h2⟩:=yaJ hp (List.pairwise_cons.1 h).2
   exact ⟨x::A,B,rfl,fun y hy=>by
    rcases List.mem_cons.1 hy with rfl|hy
    ·simpa using k
    ·exact h1 y hy,h2⟩
theorem yct {b:Bk} (h:zG b=0) (w:Wsh):ycu b w=waitB b w:=by
 rw [ycu,waitB]
 have hp:=ybl h
 have hb:bfCP cmpW w=ye w:=by funext x;rw [yC];rfl
 obtain ⟨A,B,e,hA,hB⟩:=yaJ (R:=fun x y=>cmpW x y < 0) (p:=ye w) (fun x y q k=>by
  rw [yC] at k ⊢
  exact decide_eq_true (yaB _ _ _ (of_decide_eq_true k) q)) hp
 have hs:zbM cmpW b.wait=b.wait:=by
  have:=ybq (c:=cmpW) b.wait [] (by rw [List.nil_append];exact hp.imp fun {a c} k=>ycU k)
  rwa [List.nil_append] at this
 have e2:zbM cmpW (b.wait++[w])=inR ye w b.wait:=by
  rw [zbM,List.foldl_append]
  rw [zbM] at hs
  rw [hs,e,yco hA hB]
  exact ycn (fun y hy=>by rw [hb];exact hA y hy) (fun y hy=>by rw [hb];exact hB y hy)
 rw [e2]
set_option maxRecDepth 100000
set_option linter.unusedVariables false
set_option linter.unusedSimpArgs false
set_option maxHeartbeats 4000000
theorem yr {L:List ByteArray}:L.Nodup↔∀ i x,L[i]?=some x→x ∉ L.take i:=by
 constructor
 ·intro h i x hx hm
  obtain ⟨j,hj⟩:=List.mem_iff_getElem?.1 hm
  have hlt:=(List.getElem?_eq_some_iff.1 hj).1
  rw [List.length_take] at hlt
  rw [List.getElem?_take_of_lt (by omega)] at hj
  obtain ⟨l1,e1⟩:=List.getElem?_eq_some_iff.1 hx
  obtain ⟨l2,e2⟩:=List.getElem?_eq_some_iff.1 hj
  exact List.pairwise_iff_getElem.1 h j i l2 l1 (by omega) (e2.trans e1.symm)
 ·intro h
  refine yae fun i j x hi hj=>?_
  rcases Nat.lt_trichotomy i j with k|k|k
  ·exact absurd (List.mem_of_getElem? (i:=i) (by rw [List.getElem?_take_of_lt k];exact hi)) (h j x hj)
  ·exact k
  ·exact absurd (List.mem_of_getElem? (i:=j) (by rw [List.getElem?_take_of_lt k];exact hj)) (h i x hi)
abbrev sNm (S:List Slt):List ByteArray:=S.map (·.req.name)
abbrev wNm (W:List Wsh):List ByteArray:=W.map (·.req.name)
structure Vbk (S:List Slt) (W:List Wsh):Prop where
 n:S.length≤64
 s:∀ s ∈ S,chkSlt s=0
 m:W.length≤64
 w:∀ w ∈ W,chkWsh w=0
 d:(sNm S++wNm W).Nodup
 o:W.Pairwise (fun x y=>cmpW x y < 0)
theorem ycT {a b:Wsh} (h:cmpW a b < 0):¬cmpW b a≤0:=fun k=>by
 have:=yaa.2 k
 rw [yC,decide_eq_true h] at this;cases this
theorem y1 {b:Bk}:zG b=0↔Vbk b.slots b.wait:=by
 constructor
 ·intro h
  have hl:=chkBk_len h
  refine ⟨by omega,fun s hs=>ybM h hs,by omega,fun w hw=>?_,yr.2 fun i x hx=>?_,ybl h⟩
  ·obtain ⟨i,hi⟩:=List.mem_iff_getElem?.1 hw
   exact fE0 (y9 h hi) (chkWsh w) (by simp)
  ·by_cases k:i < b.slots.length
   ·rw [List.getElem?_append_left (by rw [List.length_map];exact k)] at hx
    rw [List.take_append_of_le_length (by rw [List.length_map];omega)]
    exact yr.1 (yav h) i x hx
   ·have hlt:=(List.getElem?_eq_some_iff.1 hx).1
    rw [List.length_append,List.length_map,List.length_map] at hlt
    rw [List.getElem?_append_right (by rw [List.length_map];omega),List.length_map,List.getElem?_map] at hx
    obtain ⟨w,hw⟩:=zn (i:=i - b.slots.length) (l:=b.wait) (by omega)
    rw [hw] at hx
    have ex:w.req.name=x:=Option.some.inj hx
    obtain ⟨n1,n2⟩:=ybk h hw
    have et:(sNm b.slots++wNm b.wait).take i=sNm b.slots++(b.wait.take (i - b.slots.length)).map (·.req.name):=by
     rw [List.take_append,List.take_of_length_le (by rw [List.length_map];omega),List.length_map,List.map_take]
    rw [et,←ex]
    intro hm
    rcases List.mem_append.1 hm with hm|hm
    ·exact n1 hm
    ·exact n2 hm
 ·rintro ⟨h1,h2,h3,h4,h5,h6⟩
  obtain ⟨d1,d2,d3⟩:=List.nodup_append.1 h5
  refine zq.2 ⟨if_neg (by omega),zq.2 ⟨yag fun i s hs=>?_,zq.2 ⟨if_neg (by omega),zq.2 ⟨yag fun i w hw=>?_,rfl⟩⟩⟩⟩
  ·refine zq.2 ⟨h2 s (List.mem_of_getElem? hs),zq.2 ⟨if_neg fun k=>?_,rfl⟩⟩
   rw [List.map_take] at k
   exact yr.1 d1 i s.req.name (by rw [List.getElem?_map,hs];rfl) ((ya _ _).1 k)
  ·refine zq.2 ⟨h4 w (List.mem_of_getElem? hw),zq.2 ⟨if_neg fun k=>?_,zq.2 ⟨if_neg fun k=>?_,rfl⟩⟩⟩
   ·rcases List.mem_append.1 ((ya _ _).1 k) with k|k
    ·exact d3 _ k _ (List.mem_map.2 ⟨w,List.mem_of_getElem? hw,rfl⟩) rfl
    ·rw [List.map_take] at k
     exact yr.1 d2 i w.req.name (by rw [List.getElem?_map,hw];rfl) k
   ·obtain ⟨k1,k2⟩:=k
    obtain ⟨j,rfl⟩:∃ j,i=j+1:=⟨i - 1,by omega⟩
    obtain ⟨li,ei⟩:=List.getElem?_eq_some_iff.1 hw
    have hj:b.wait[j+1 - 1]?=some b.wait[j]:=by rw [Nat.add_sub_cancel];exact List.getElem?_eq_getElem (by omega)
    rw [hj] at k2
    have hlt:=List.pairwise_iff_getElem.1 h6 j (j+1) (by omega) li (by omega)
    rw [ei] at hlt
    exact ycT hlt k2
theorem ybg {q:Req} (h:chkQ q=0):chkRq q=0∧¬zY q.per=[]∧zaH q.carrier=0∧zaH q.name=0∧zau q.per=0∧rng q.minute 0 1439=0:=by
 have h1:chkRq q=0:=fE0 h _ (by simp)
 have h2:=fE0 h (if zY q.per=[] then 12 else 0) (by simp)
 exact ⟨h1,fun k=>by rw [if_pos k] at h2;omega,fE0 h1 (zaH q.carrier) (by simp),fE0 h1 (zaH q.name) (by simp),fE0 h1 (zau q.per) (by simp),fE0 h1 (rng q.minute 0 1439) (by simp)⟩
theorem yba {q:Req} (h:chkQ q=0):chkSlt (newS q)=0:=
 zq.2 ⟨h,zq.2 ⟨(ybg h).2.2.1,zq.2 ⟨by simp [newS],zq.2 ⟨by simp [newS,zg],zq.2 ⟨by simp [newS],zq.2 ⟨by simp [newS,zg],rfl⟩⟩⟩⟩⟩⟩
theorem ybR {l:List Lim} {b:Bk}:∀ k,k≤b.wait.length→(srvK l b k).K.Sublist (b.wait.take k)∧((srvK l b k).Q.map (·.name)++wNm (srvK l b k).K).Perm (wNm (b.wait.take k)):=by
 intro k
 induction k with
 | zero=>intro _;exact ⟨by simp [srvK,srv0],by simp [srvK,srv0]⟩
 | succ k ih=>
  intro hk
  obtain ⟨i1,i2⟩:=ih (by omega)
  obtain ⟨w,hw⟩:=zn (i:=k) (l:=b.wait) (by omega)
  have hnx:=srvK_next (l:=l) hw
  rw [srvN] at hnx
  rw [zan hw]
  by_cases hno:srvNo l b.slots.length (srvK l b k) w
  ·rw [if_pos hno] at hnx
   rw [hnx]
   refine ⟨i1.append (List.Sublist.refl _),?_⟩
   rw [wNm,wNm,List.map_append,List.map_append,←List.append_assoc]
   exact i2.append_right _
  ·rw [if_neg hno] at hnx
   rw [hnx]
   refine ⟨i1.trans (List.sublist_append_left _ _),?_⟩
   rw [wNm,wNm,List.map_append,List.map_append,List.append_assoc]
   refine (List.Perm.append_left _ List.perm_append_comm).trans ?_
   rw [←List.append_assoc]
   exact i2.append_right _
theorem ybn {l:List Lim} {b:Bk} (h:zG b=0):zG (srvB l b)=0:=by
 obtain ⟨v1,v2,v3,v4,v5,v6⟩:=y1.1 h
 obtain ⟨p1,p2⟩:=ybR (l:=l) (b:=b) b.wait.length (Nat.le_refl _)
 obtain ⟨i1,_,i3⟩:=yaq (l:=l) h b.wait.length (Nat.le_refl _)
 rw [List.take_length] at p1 p2
 refine y1.2 ⟨i3,fun s hs=>?_,by have:=p1.length_le;simp only [srvB];omega,fun w hw=>v4 w (p1.subset hw),?_,v6.sublist p1⟩
 ·rcases List.mem_append.1 hs with hs|hs
  ·exact v2 s hs
  ·obtain ⟨r,hr,rfl⟩:=List.mem_map.1 hs
   obtain ⟨j,w,_,hj,rfl⟩:=i1 r hr
   exact yba (ybj h hj)
 ·have e:sNm (srvB l b).slots++wNm (srvB l b).wait=sNm b.slots++((srvK l b b.wait.length).Q.map (·.name)++wNm (srvK l b b.wait.length).K):=by
   simp only [srvB,sNm,List.map_append,List.map_map,List.append_assoc]
   congr 2
  rw [e]
  exact ((p2.append_left _).nodup_iff).2 v5
set_option maxRecDepth 100000
set_option linter.unusedVariables false
set_option linter.unusedSimpArgs false
set_option maxHeartbeats 4000000
theorem yaY {ls:List Lim} (hl:z3 ls=0):∀ l ∈ ls,0≤l.len:=fun l hm=>by have:=chkLim_0 ((chkLims_0 hl).2 l hm);omega
theorem cnt_nn {l:Lim} (h:0≤l.len) (m:List Mov) (b:Int):0≤zbs l m b:=by rw [yc h];omega
theorem room_1 {ls:List Lim} {m:List Mov} {o:Mov} (hl:∀ l ∈ ls,zaS l=0):1≤roomL ls m o↔∀ l ∈ ls,∀ w ∈ yb l,inW l w o=true→zbs l m w < l.most:=by
 have h:=yn ls (arW ls m o) 999999999
 have e1:roomL ls m o=(arW ls m o).foldl (roomStep ls) 999999999:=rfl
 rw [←e1] at h
 constructor
 ·intro hc l hm b hb hw
  obtain ⟨i,hi⟩:=List.mem_iff_getElem?.1 hm
  have h2:=h.1.2 _ (ar_mem (m:=m) hi (hl l hm) hb hw)
  rw [show mostAt ls (⟨i,b,zbs l m b⟩:Win).lim=l.most by simp only [mostAt,Int.toNat_natCast,hi]] at h2
  simp only at h2
  omega
 ·intro h2
  rcases h.2 with h3|⟨w,hw,h3⟩
  ·omega
  ·obtain ⟨i,l,e2,hi,e3,e4,e5,e6,e,_,hb⟩:=arW_at hw
   have hm:=List.mem_of_getElem? hi
   have:=h2 l hm w.beg (ycg (hl l hm) hb) (by simp only [inW,e4,Bool.true_and,Bool.and_eq_true,decide_eq_true_eq];exact ⟨e5,e6⟩)
   rw [show mostAt ls w.lim=l.most by simp only [mostAt,e2,Int.toNat_natCast,hi],e3] at h3
   omega
theorem ycq {ls:List Lim} {m:List Mov} {r:Req} (hl:∀ l ∈ ls,zaS l=0):fitsB ls m r=true↔∀ o ∈ movsL r,∀ l ∈ ls,∀ w ∈ yb l,inW l w o=true→zbs l m w < l.most:=by
 rw [fitsB,List.all_eq_true]
 refine forall_congr' fun o=>forall_congr' fun _=>?_
 rw [←room_1 hl,Bool.not_eq_true',decide_eq_false_iff_not];omega
theorem ya8 (l:List Lim) (b:Bk):(srvB l b).slots=ym l b b.wait.length:=rfl
set_option maxRecDepth 100000
set_option linter.unusedVariables false
set_option linter.unusedSimpArgs false
set_option maxHeartbeats 8000000
theorem ycJ {l:List Lim} {m:List Mov} {o:Mov} (hb:bothC l m=0) (ho:chkMov o=0):fullR l m o=fullL l m o:=fullR_p (zq.2 ⟨hb,zq.2 ⟨ho,rfl⟩⟩)
set_option maxRecDepth 100000
set_option linter.unusedVariables false
set_option linter.unusedSimpArgs false
set_option maxHeartbeats 4000000
theorem ybQ {b:Bk} (h:zG b=0) {j:Nat} {w:Wsh} (hw:b.wait[j]?=some w):atL w.req.name (wNm b.wait)=j:=by
 refine atL_hit (fun x hx=>?_) (by rw [List.getElem?_map,hw];rfl)
 rw [wNm,←List.map_take] at hx
 exact fun k=>(ybk h hw).2 (k ▸ hx)
theorem yF {b:Bk} (h:zG b=0) (k:Nat):zG ⟨b.slots,b.wait.drop k⟩=0:=by
 obtain ⟨v1,v2,v3,v4,v5,v6⟩:=y1.1 h
 have hs:(b.wait.drop k).Sublist b.wait:=List.drop_sublist _ _
 exact y1.2 ⟨v1,v2,by have:=hs.length_le;simp only;omega,fun w hw=>v4 w (hs.subset hw),List.Pairwise.sublist ((List.Sublist.refl _).append (hs.map _)) v5,v6.sublist hs⟩
theorem ybm {b:Bk} (h:zG b=0) {i:Nat} {w:Wsh} (hw:b.wait[i]?=some w):waitE ⟨b.slots,b.wait.drop (i+1)⟩ w=0∧waitB ⟨b.slots,b.wait.drop (i+1)⟩ w=⟨b.slots,b.wait.drop i⟩:=by
 obtain ⟨v1,v2,v3,v4,v5,v6⟩:=y1.1 h
 obtain ⟨hl,e⟩:=List.getElem?_eq_some_iff.1 hw
 have ed:b.wait.drop i=w::b.wait.drop (i+1):=by rw [List.drop_eq_getElem_cons hl,e]
 have v5':=List.Pairwise.sublist ((List.Sublist.refl (sNm b.slots)).append ((List.drop_sublist i b.wait).map _)) v5
 rw [ed,List.map_cons] at v5'
 have hn:=(List.nodup_cons.1 (List.perm_middle.nodup_iff.1 v5')).1
 have hp:=v6.sublist (List.drop_sublist i b.wait)
 rw [ed] at hp
 have hT:tkE ⟨b.slots,b.wait.drop (i+1)⟩ w.req.name=0:=by
  rw [tkE]
  refine if_neg fun k=>hn ?_
  rw [takenB,Bool.or_eq_true,decide_eq_true_eq,decide_eq_true_eq,ya,ya] at k
  exact List.mem_append.2 k
 have hE:waitE ⟨b.slots,b.wait.drop (i+1)⟩ w=0:=by
  refine zq.2 ⟨v4 w (List.mem_of_getElem? hw),zq.2 ⟨hT,zq.2 ⟨if_neg ?_,rfl⟩⟩⟩
  simp only [List.length_drop];omega
 refine ⟨hE,?_⟩
 rw [←yct (yF h _) w,ycu,if_pos hE]
 have:=yco (bf:=ye) (l:=w) (A:=[]) (B:=b.wait.drop (i+1)) (by simp) (fun y hy=>by
  rw [yC];exact decide_eq_true ((List.pairwise_cons.1 hp).1 y hy))
 rw [List.nil_append,List.nil_append] at this
 simp only
 rw [this,ed]
theorem ya6 {x a:ByteArray} {L:List ByteArray} (h:a≠x) (hx:0≤atL x L):atL x (a::L)=atL x L+1:=by
 rw [atL,if_neg h,if_neg (by omega)]
theorem ycx {Q L:List ByteArray} (h:Q.Sublist L):L.Nodup→(Q.map fun x=>atL x L).Pairwise (· < ·):=by
 induction h with
 | slnil=>intro _;exact List.Pairwise.nil
 | @cons Q L a h ih=>
  intro hd
  obtain ⟨h1,h2⟩:=List.nodup_cons.1 hd
  have e:(Q.map fun x=>atL x (a::L))=Q.map fun x=>atL x L+1:=List.map_congr_left fun x hx=>ya6 (fun k=>h1 (k ▸ h.subset hx)) ((ya _ _).2 (h.subset hx))
  rw [e]
  have:=ih h2
  rw [List.pairwise_map] at this ⊢
  exact this.imp fun {p q} k=>by omega
 | @cons_cons Q L a h ih=>
  intro hd
  obtain ⟨h1,h2⟩:=List.nodup_cons.1 hd
  have e:(Q.map fun x=>atL x (a::L))=Q.map fun x=>atL x L+1:=List.map_congr_left fun x hx=>ya6 (fun k=>h1 (k ▸ h.subset hx)) ((ya _ _).2 (h.subset hx))
  rw [List.map_cons,e]
  have:=ih h2
  refine List.pairwise_cons.2 ⟨fun y hy=>?_,?_⟩
  ·obtain ⟨x,hx,rfl⟩:=List.mem_map.1 hy
   have:0≤atL x L:=(ya _ _).2 (h.subset hx)
   have e0:atL a (a::L)=0:=by rw [atL,if_pos rfl]
   omega
  ·rw [List.pairwise_map] at this ⊢
   exact this.imp fun {p q} k=>by omega
theorem ybo {l:List Lim} {b:Bk}:∀ k,k≤b.wait.length→(srvK l b k).Q.Sublist ((b.wait.take k).map (·.req)):=by
 intro k
 induction k with
 | zero=>intro _;simp [srvK,srv0]
 | succ k ih=>
  intro hk
  have i1:=ih (by omega)
  obtain ⟨w,hw⟩:=zn (i:=k) (l:=b.wait) (by omega)
  have hnx:=srvK_next (l:=l) hw
  rw [srvN] at hnx
  rw [zan hw,List.map_append]
  by_cases hno:srvNo l b.slots.length (srvK l b k) w
  ·rw [if_pos hno] at hnx
   rw [hnx];exact i1.trans (List.sublist_append_left _ _)
  ·rw [if_neg hno] at hnx
   rw [hnx];exact i1.append (List.Sublist.refl _)
theorem yaI (l:List Lim) (b:Bk):(srvW l b).Sublist (wNm b.wait):=by
 have:=(ybo (l:=l) (b:=b) b.wait.length (Nat.le_refl _)).map Req.name
 rwa [List.take_length,List.map_map] at this
theorem ybT {l:List Lim} {b:Bk} (h:zG b=0):((srvW l b).map fun x=>atL x (wNm b.wait)).Pairwise (· < ·):=
 ycx (yaI l b) (List.nodup_append.1 (y1.1 h).d).2.1
theorem srv_at {l:List Lim} {b:Bk} (h:zG b=0) {i:Nat} {q:Req} (hq:(srvK l b b.wait.length).Q[i]?=some q):∃ (j:Nat) (w:Wsh),atL q.name (wNm b.wait)=j∧b.wait[j]?=some w∧w.req=q:=by
 have hs:=ybo (l:=l) (b:=b) b.wait.length (Nat.le_refl _)
 obtain ⟨w,hw,e⟩:=List.mem_map.1 (hs.subset (List.mem_of_getElem? hq))
 rw [List.take_length] at hw
 obtain ⟨j,hj⟩:=List.mem_iff_getElem?.1 hw
 exact ⟨j,w,by rw [←e];exact ybQ h hj,hj,e⟩
theorem ybD {ls:List Lim} {m a:List Mov} {r:Req} (hl:z3 ls=0) (h:fitsB ls (mergeM befM m a) r=true):fitsB ls m r=true:=by
 refine (ycq (chkLims_0 hl).2).2 fun o ho l hm w hw hin=>?_
 have:=(ycq (chkLims_0 hl).2).1 h o ho l hm w hw hin
 rw [ybG (yaY hl l hm)] at this
 have:=cnt_nn (yaY hl l hm) a w
 omega
theorem yaH {l:List Lim} (hl:z3 l=0) {b:Bk} (hb:zG b=0):∀ k,k≤b.wait.length→∀ w ∈ (srvK l b k).K,chkReq w.req=0∧(64≤(ym l b k).length∨fitR l (mvS (ym l b k)) w.req=false):=by
 intro k
 induction k with
 | zero=>intro _ w hw;simp [srvK,srv0] at hw
 | succ k ih=>
  intro hk
  have ih:=ih (by omega)
  obtain ⟨w,hw⟩:=zn (i:=k) (l:=b.wait) (by omega)
  obtain ⟨i1,i2,i3⟩:=yaq (l:=l) hb k (by omega)
  obtain ⟨v1,_⟩:=yci (l:=l) hb k (by omega)
  obtain ⟨v2,v3⟩:=yci (l:=l) hb (k+1) hk
  have hq:=yB (ybj hb hw)
  have hnx:=srvK_next (l:=l) hw
  rw [srvN] at hnx
  by_cases hno:srvNo l b.slots.length (srvK l b k) w
  ·rw [if_pos hno] at hnx
   have e:ym l b (k+1)=ym l b k:=by rw [ym,ym,hnx]
   intro w' hw'
   rw [e]
   rw [hnx] at hw'
   rcases List.mem_append.1 hw' with q|q
   ·exact ih w' q
   ·rw [List.mem_singleton.1 q]
    refine ⟨hq,?_⟩
    rw [srvNo,i2] at hno
    rcases hno with q|q
    ·exact .inl (by simp only [ym,List.length_append,List.length_map];omega)
    ·exact .inr q
  ·rw [if_neg hno] at hnx
   have e:ym l b (k+1)=ym l b k++[newS w.req]:=by rw [ym,ym,hnx];simp
   intro w' hw'
   rw [hnx] at hw'
   obtain ⟨h1,h2⟩:=ih w' hw'
   refine ⟨h1,?_⟩
   rcases h2 with q|q
   ·exact .inl (by rw [e,List.length_append];omega)
   ·obtain ⟨_,m2,_⟩:=yar (b:=⟨ym l b k,[]⟩) v1 i3
    obtain ⟨_,m3,_⟩:=yar (b:=⟨ym l b (k+1),[]⟩) v2 v3
    rw [yaz hl m2 h1] at q
    rw [yaz hl m3 h1,e,yaU]
    refine .inr ?_
    cases hh:fitsB l (mergeM befM (mvS (ym l b k)) (movsL (newS w.req).req)) w'.req
    ·rfl
    ·rw [ybD hl hh] at q;cases q
theorem ybS {l:List Lim} (hl:z3 l=0) {b:Bk} (hb:zG b=0) (h64:(srvB l b).slots.length < 64):∀ w ∈ (srvB l b).wait,fitR l (mvS (srvB l b).slots) w.req=false:=fun w hw=>by
 rcases (yaH hl hb b.wait.length (Nat.le_refl _) w hw).2 with q|q
 ·exact absurd q (by rw [←ya8];omega)
 ·exact q
theorem ybp {l:List Lim} {s:Bk} (hs:zG s=0) (hf:∀ w ∈ s.wait,fitR l (mvS s.slots) w.req=false):srvB l s=s∧srvW l s=[]:=by
 have key:∀ k,k≤s.wait.length→srvK l s k=⟨[],s.wait.take k,mvF (rqW (s.slots.map (·.req)) (-1))⟩:=by
  intro k
  induction k with
  | zero=>intro _;simp [srvK,srv0]
  | succ k ih=>
   intro hk
   have ih:=ih (by omega)
   obtain ⟨w,hw⟩:=zn (i:=k) (l:=s.wait) (by omega)
   have hM:mvF (rqW (s.slots.map (·.req)) (-1))=mvS s.slots:=yaw hs
   rw [srvK_next hw,srvN,if_pos,ih,zan hw]
   rw [ih,srvNo]
   refine .inr ?_
   rw [hM];exact hf w (List.mem_of_getElem? hw)
 have h:=key s.wait.length (Nat.le_refl _)
 rw [List.take_length] at h
 exact ⟨by rw [srvB,h];simp,by rw [srvW,h];rfl⟩
theorem yac {f:Mov→List Win} {n:ByteArray}:∀ {L:List Mov},(∃ o ∈ L,f o≠[])→∃ o ∈ L,∃ x r,f o=x::r∧refM f n L=[⟨n,x.lim,x.beg⟩]
 | [],h=>by obtain ⟨o,ho,_⟩:=h;cases ho
 | y::L,h=>by
  cases hf:f y with
  | cons x r=>exact ⟨y,by simp,x,r,hf,by rw [refM,hf]⟩
  | nil=>
   obtain ⟨o,ho,hne⟩:=h
   have ho':o ∈ L:=by
    rcases List.mem_cons.1 ho with rfl|q
    ·exact absurd hf hne
    ·exact q
   obtain ⟨o2,h2,x,r,e1,e2⟩:=yac (L:=L) ⟨o,ho',hne⟩
   exact ⟨o2,by simp [h2],x,r,e1,by rw [refM,hf];exact e2⟩
theorem ycz {l:List Lim} (hl:z3 l=0) {b:Bk} (hb:zG b=0) {w:Wsh} (hw:chkReq w.req=0) (hf:fitR l (mvS b.slots) w.req=false) :
  ∃ (x:Win) (i:Nat) (lm:Lim),refW l b w=[⟨w.req.name,i,x.beg⟩]∧l[i]?=some lm∧x.beg ∈ yb lm∧lm.most≤zbs lm (mvS b.slots) x.beg∧(movsL w.req).any (inW lm x.beg)=true:=by
 have hm:=(yaE hb).2.1
 have hM:allM b=mvS b.slots:=yaw hb
 have hmr:movR w.req=movsL w.req:=by rw [movR,if_pos hw]
 have hfl:∀ o ∈ movsL w.req,fullR l (mvS b.slots) o=fullL l (mvS b.slots) o:=fun o ho=>by
  obtain ⟨d,hd,rfl⟩:=yaW ho
  exact ycJ (ybL hl hm) (yJ hw hd)
 rw [yaz hl hm hw] at hf
 have hex:∃ o ∈ movsL w.req,fullR l (mvS b.slots) o≠[]:=by
  apply Classical.byContradiction
  intro hn
  have:fitsB l (mvS b.slots) w.req=true:=by
   rw [fitsB,List.all_eq_true]
   intro o ho
   rw [Bool.not_eq_true',decide_eq_false_iff_not]
   intro hlt
   have h0:roomL l (mvS b.slots) o=0:=by have:=(ybV (ls:=l) (m:=mvS b.slots) (o:=o)).1;omega
   exact hn ⟨o,ho,by rw [hfl o ho];exact ybB.1 h0⟩
  rw [this] at hf;cases hf
 obtain ⟨o,ho,x,r,e1,e2⟩:=yac (n:=w.req.name) hex
 rw [hfl o ho] at e1
 have hx:x ∈ fullL l (mvS b.slots) o:=by rw [e1];simp
 obtain ⟨hx1,hx2⟩:=List.mem_filter.1 hx
 obtain ⟨i,lm,q1,q2,q3,q4,q5,q6,e,_,q7⟩:=arW_at hx1
 have hlm:=(chkLims_0 hl).2 lm (List.mem_of_getElem? q2)
 refine ⟨x,i,lm,?_,q2,ycg hlm q7,?_,?_⟩
 ·rw [refW,hM,hmr,e2,q1]
 ·simp only [decide_eq_true_eq,mostAt,q1,Int.toNat_natCast,q2,q3] at hx2
  exact hx2
 ·refine List.any_eq_true.2 ⟨o,ho,?_⟩
  simp only [inW,q4,Bool.true_and,Bool.and_eq_true,decide_eq_true_eq];exact ⟨q5,q6⟩
theorem ya1 {α β:Type} {f:α→List β} {P:α→β→Prop}:∀ {W:List α},(∀ w ∈ W,∃ r,f w=[r]∧P w r)→(W.flatMap f).length=W.length∧∀ (i:Nat) (w:α),W[i]?=some w→∃ r,(W.flatMap f)[i]?=some r∧P w r
 | [],_=>⟨rfl,fun i w h=>by simp at h⟩
 | x::W,h=>by
  obtain ⟨r,e,hp⟩:=h x (by simp)
  obtain ⟨h1,h2⟩:=ya1 (W:=W) fun w hw=>h w (by simp [hw])
  rw [List.flatMap_cons,e]
  refine ⟨by rw [List.length_append,h1,List.length_singleton,List.length_cons];omega,fun i w hw=>?_⟩
  cases i with
  | zero=>rw [List.getElem?_cons_zero] at hw;cases hw;exact ⟨r,rfl,hp⟩
  | succ i=>rw [List.getElem?_cons_succ] at hw;exact h2 i w hw
def yH (W N:List ByteArray):Nat→Int
 | 0=>-1
 | i+1=>match N[i]? with
  | some x=>atL x W
  | none=>-1
theorem yP {W N:List ByteArray} {i:Nat} {x:ByteArray} (h:N[i]?=some x):yH W N (i+1)=atL x W:=by rw [yH,h]
theorem yby {W N:List ByteArray} (hp:(N.map fun x=>atL x W).Pairwise (· < ·)) (hn:∀ x ∈ N,0≤atL x W):∀ {i:Nat} {x:ByteArray},N[i]?=some x→yH W N i < atL x W
 | 0,x,h=>by have:=hn x (List.mem_of_getElem? h);rw [yH];omega
 | i+1,x,h=>by
  obtain ⟨hl,e⟩:=List.getElem?_eq_some_iff.1 h
  rw [yP (List.getElem?_eq_getElem (show i < N.length by omega))]
  rw [List.pairwise_map] at hp
  have:=List.pairwise_iff_getElem.1 hp i (i+1) (by omega) hl (by omega)
  rw [e] at this;exact this
theorem cnt_is {l:Lim} {m:List Mov} {b:Int} (h:zaS l=0) (hm:zad m=0) (hb:b ∈ yb l):ybH l m b=0∧cntR l m b=zbs l m b:=by
 have h1:=yj h hb
 have hc:cntC l m b=0:=zq.2 ⟨h,zq.2 ⟨hm,zq.2 ⟨rng_0.2 (by omega),rfl⟩⟩⟩
 have hE:ybH l m b=0:=by rw [ybH,if_pos hc,if_pos (ych h hb)]
 exact ⟨hE,by rw [cntR,if_pos hE]⟩
set_option maxRecDepth 100000
set_option linter.unusedVariables false
set_option linter.unusedSimpArgs false
set_option maxHeartbeats 8000000
theorem sh_few {b:Bk} (h:ybi b=true) (hc:zG b=0):b.slots.length≤5∧b.wait.length≤5:=by
 have hl:=chkBk_len hc
 simp only [ybi,Bool.and_eq_true,Bool.not_eq_true',bigB,Bool.or_eq_false_iff,Bool.and_eq_false_iff,decide_eq_false_iff_not,Bool.not_eq_false',decide_eq_true_eq] at h
 obtain ⟨⟨h1,h2⟩,_⟩:=h
 exact ⟨by rcases h1 with h1|h1<;>omega,by rcases h2 with h2|h2<;>omega⟩
theorem ycv {b:Bk} {w:Wsh} (h:waitE b w≠0):waitB b w=bk0:=if_neg h
theorem ya7 {b:Bk} {w:Wsh} (h:zG b=0):WaitC b w=waitE b w:=if_pos h
theorem ycf {b:Bk} {w:Wsh} (h:zG b=0):WaitB b w=waitB b w:=by
 rw [WaitB,ya7 h];split
 ·rfl
 ·rename_i k;rw [ycv k]
set_option maxRecDepth 100000
set_option linter.unusedVariables false
set_option linter.unusedSimpArgs false
set_option maxHeartbeats 8000000
theorem yb0 (l:Lim) (b:Int) (r:Req) (h:chkReq r=0) (hl:zaS l=0) (h0:0≤b) (h1:b≤1000000000):Pure Tryz.prog 58 [l.pv,.i .i64 b,r.pv] (.b ((movsL r).any (inW l b))):=by
 refine zf (cF Tryz.func58 Tryz.f58.eq_1) (by simp) fun hw X hX=>?_
 have hl0:=chkLim_0 hl
 have hdl:=daysL_len r.per
 have hpr:=zaX (chkReq_0 h).1
 have hml:(movsL r).length=(zY r.per).length:=by simp [movsL]
 repeat' first|refine gC (fun hc=>?_) (fun hc=>?_)<;>try contradiction|refine za (pure21 r h) ?_|refine gG ?_|show AK _;intro K H|refine H _ _ ?_;clear H K|refine gJ ?_;try exact trivial|omega
 refine zk (κ:=Nat) (fun k=>⟨[(1,.p (.i .i64 b)),(3,.lp 3 0),(10,.p (.sl 7 ((movsL r).map Mov.pv))),(11,.p (.i .i64 (movsL r).length)),(12,.p (.i .i64 k))],[(3,.box (l.cells.map .p) false)],[],false⟩) (fun k=>k≤(movsL r).length∧((movsL r).take k).any (inW l b)=false) (fun k=>(movsL r).length - k) 0 ?_ ?_ ?_
 ·exact sS
 ·simp
 ·intro k hk
  repeat first|refine gG ?_|show AK _;intro K H|refine H _ _ ?_;clear H K|refine gJ ?_;try exact trivial|omega
  (refine gC (fun hc=>?_) (fun hc=>?_)<;>try contradiction)
  ·obtain ⟨y,hy⟩:=zn (i:=k) (l:=movsL r) (by omega)
   have hs:=yce (p:=inW l b) hy
   rw [hk.2,Bool.false_or] at hs
   have e9:inW l b y=((decide (b≤y.moment) && decide (y.moment < b+l.len)) && zac l y.kind y.term):=by rw [inW,Bool.and_comm]
   have e10:inW l b y=true→(movsL r).any (inW l b)=true:=fun q=>List.any_eq_true.2 ⟨y,List.mem_of_getElem? hy,q⟩
   cases q1:(decide (b≤y.moment) && decide (y.moment < b+l.len))
   ·rw [q1,Bool.false_and] at e9
    have q3:=yck l b y.moment h0 h1 hl0.1 hl0.2.1
    rw [q1] at q3
    have qe:=aI qR @hy;repeat' first|refine gC (fun hc=>?_) (fun hc=>?_)<;>try contradiction|refine za (q3) ?_|refine zN (fun _=>ybs l y) ?_|refine gG ?_|show AK _;intro K H|refine H _ _ ?_;clear H K|refine gJ ?_;try exact trivial|omega
    all_goals exact ⟨k+1,⟨by omega,by rw [hs,e9]⟩,by omega,by simp⟩
   ·have q3:=yck l b y.moment h0 h1 hl0.1 hl0.2.1
    rw [q1] at q3
    cases q2:zac l y.kind y.term
    ·have q4:=ybs l y
     rw [q2] at q4
     rw [q2,Bool.and_false] at e9
     have qe:=aI qR @hy;repeat' first|refine gC (fun hc=>?_) (fun hc=>?_)<;>try contradiction|refine za (q3) ?_|refine zN (fun _=>q4) ?_|refine gG ?_|show AK _;intro K H|refine H _ _ ?_;clear H K|refine gJ ?_;try exact trivial|omega
     all_goals exact ⟨k+1,⟨by omega,by rw [hs,e9]⟩,by omega,by simp⟩
    ·have q4:=ybs l y
     rw [q2] at q4
     rw [q1,q2,Bool.and_self] at e9
     rw [e10 e9]
     have qe:=aI qR @hy;repeat' first|refine gC (fun hc=>?_) (fun hc=>?_)<;>try contradiction|refine za (q3) ?_|refine zN (fun _=>q4) ?_|refine gG ?_|show AK _;intro K H|refine H _ _ ?_;clear H K|refine gJ ?_;try exact trivial|omega
     all_goals exact .refl _
  ·have ek:k=(movsL r).length:=by omega
   have h2:=hk.2
   rw [ek,List.take_length] at h2
   rw [h2]
   repeat' first|refine gC (fun hc=>?_) (fun hc=>?_)<;>try contradiction|refine gG ?_|show AK _;intro K H|refine H _ _ ?_;clear H K|refine gJ ?_;try exact trivial|omega
   all_goals exact .refl _
end Go.Proofs.YtahmdjadnlpjoaaGreat
