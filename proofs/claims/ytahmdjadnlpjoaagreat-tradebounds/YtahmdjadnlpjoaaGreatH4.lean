/- Contracts of functions that the proof uses, shared by the claims of this seat; no statement of its own. Part 74. No conditions. -/
import Derived.Test.YtahmdjadnlpjoaaGreatRows
import Derived.Test.YtahmdjadnlpjoaaGreatH3
set_option linter.all false
set_option maxHeartbeats 8000000
set_option maxRecDepth 100000
namespace Go.Proofs.YtahmdjadnlpjoaaGreat
open Go.RowKit
theorem yb2 {α:Type} {R:α->α->Prop} (tr:∀ a b c,R a b->R b c->R a c):∀ {L:List α},(∀ i x y,L[i]?=some x->L[i+1]?=some y->R x y)->L.Pairwise R
 | [],_=>.nil
 | [x],_=>by simp
 | x::y::r,h=>by
  have ih:(y::r).Pairwise R:=yb2 tr λi a b h1 h2=>h (i+1) a b (by simpa using h1) (by simpa using h2)
  refine List.pairwise_cons.2 ⟨λz hz=>?_,ih⟩
  have hxy:=h 0 x y rfl rfl
  rcases List.mem_cons.1 hz with rfl|hz
  .exact hxy
  .exact tr _ _ _ hxy (List.rel_of_pairwise_cons ih hz)
def ydK (a b:Lea):Prop:=a.fro<=a.to/\a.to < b.fro/\b.fro<=b.to
theorem ycp {l:Lea} (h:chkLea l=0):l.fro<=l.to:=by
 have:=fE0 h (if l.to < l.fro then 11 else 0) (by simp)
 by_cases k:l.to < l.fro
 .rw [if_pos k] at this;omega
 .omega
theorem ya5 {s:Slt} (h:chkSlt s=0) {i:Nat} {x:Lea} (hx:s.ls[i]?=some x):leaErr s i x=0:=yax (fE0 h (zg (s.ls.mapIdx (leaErr s))) (by simp)) hx
theorem yaK {s:Slt} (h:chkSlt s=0) {x:Lea} (hx:x ∈ s.ls):x.fro<=x.to:=by
 obtain ⟨i,hi⟩:=List.mem_iff_getElem?.1 hx
 exact ycp (fE0 (ya5 h hi) _ (by simp))
theorem slt_pw {s:Slt} (h:chkSlt s=0):s.ls.Pairwise ydK:=by
 refine yb2 (λa b c h1 h2=>?_) λi x y hx hy=>?_
 .simp only [ydK] at *;omega
 .have h1:=yaK h (List.mem_of_getElem? hx)
  have h2:=yaK h (List.mem_of_getElem? hy)
  have:=fE0 (ya5 h hy) (if 0 < ((i+1:Nat):Int)/\y.fro<=((s.ls[i+1 - 1]?).getD y).to then 15 else 0) (by simp)
  have e:(s.ls[i+1 - 1]?).getD y=x:=by rw [Nat.add_sub_cancel,hx];rfl
  rw [e] at this
  by_cases k:0 < ((i+1:Nat):Int)/\y.fro<=x.to
  .rw [if_pos k] at this;omega
  .exact ⟨h1,by omega,h2⟩
theorem y7 {b:Bk} (h:zG b=0) {c n:ByteArray} {e:Int} (ho:ownE b c n e=0):chkSlt (zo b n)=0:=ya2 h (List.mem_of_getElem? (za8 ho).2.1)
def ltI (d x:Int):List Int:=if x < d then [x] else []
def ltL (d:Int) (L:List Int):List Int:=L.flatMap (ltI d)
def bkI (d:Int) (l:Lea):List Lea:=if l.fro < d then [cutE (d - 1) l] else []
def bkL (d:Int) (L:List Lea):List Lea:=L.flatMap (bkI d)
def bkS (s:Slt) (d:Int):Slt:=⟨{ s.req with per:=bckP s.req.per d },s.holder,bkL d s.ls,s.sh⟩
def bkY (b:Bk) (n:ByteArray) (d:Int):Bk:=if ltL d (zY (zo b n).req.per)=[] then ⟨b.slots.take (zA b n)++b.slots.drop (zA b n+1),b.wait⟩ else chgB b n (bkS (zo b n) d)
theorem ydG (d:Int) (A B:List Int):ltL d (A++B)=ltL d A++ltL d B:=by simp [ltL]
theorem yac (p:Per) (d:Int) (hd:d<=p.to):ltL d (zY p)=zY (bckP p d):=by
 have key:∀ N:Nat,ltL d ((List.range N).flatMap λ(k:Nat)=>if inM p.days ((p.fro+k+5) % 7) then [p.fro+k] else [])=(List.range (min N (d - p.fro).toNat)).flatMap λ(k:Nat)=>if inM p.days ((p.fro+k+5) % 7) then [p.fro+k] else []:=by
  intro N
  induction N with
  | zero=>simp [ltL]
  | succ N ih=>
   rw [List.range_succ,List.flatMap_append,ydG,ih]
   simp only [List.flatMap_cons,List.flatMap_nil,List.append_nil]
   by_cases h:N < (d - p.fro).toNat
   .rw [Nat.min_eq_left (by omega),Nat.min_eq_left (by omega),List.range_succ,List.flatMap_append]
    simp only [List.flatMap_cons,List.flatMap_nil,List.append_nil]
    congr 1
    split
    .simp only [ltL,List.flatMap_cons,List.flatMap_nil,List.append_nil,ltI]
     rw [if_pos (by omega)]
    .rfl
   .rw [Nat.min_eq_right (by omega),Nat.min_eq_right (by omega)]
    have:ltL d (if inM p.days ((p.fro+(N:Int)+5) % 7) then [p.fro+(N:Int)] else [])=[]:=by
     split
     .simp only [ltL,List.flatMap_cons,List.flatMap_nil,List.append_nil,ltI]
      rw [if_neg (by omega)]
     .rfl
    rw [this,List.append_nil]
 unfold zY
 rw [key]
 simp only [bckP]
 congr 2
 omega
theorem ycs {d:Int}:∀ {L:List Lea},(∀ x ∈ L,x.fro<=x.to)->bkL d L=cutL (d - 1) L
 | [],_=>rfl
 | x::r,h=>by
  have h1:=h x (by simp)
  have ih:bkL d r=cutL (d - 1) r:=ycs λy hy=>h y (by simp [hy])
  have e:bkI d x=cutI (d - 1) x:=by
   rw [bkI,cutI]
   by_cases k:x.fro < d
   .rw [if_pos k,if_pos (by omega)]
   .rw [if_neg k,if_neg (by omega)]
  rw [bkL,cutL] at ih ⊢
  rw [List.flatMap_cons,List.flatMap_cons,e,ih]
theorem yd6 {p:Per} {d:Int} (hp:zau p=0) (hd:d<=p.to) (hf:p.fro < d):zau (bckP p d)=0:=by
 have h:=zaX hp
 unfold zau
 simp only [zq,rng_0,ite_eq0 (show (11:Int)≠0 by decide),ite_eq0 (show (4:Int)≠0 by decide),bckP]
 refine ⟨by omega,by omega,by omega,by omega,by omega,rfl⟩
theorem yaG {b:Bk} {n:ByteArray} {d:Int} (hp:zau (zo b n).req.per=0) (hd:d<=(zo b n).req.per.to):bckD b n d↔¬ltL d (zY (zo b n).req.per)=[]:=by
 rw [bckD,yac _ _ hd]
 constructor
 .rintro ⟨h1,h2⟩ h3
  rw [daysR,if_pos h1,h3] at h2;exact h2 rfl
 .intro h
  have hf:(zo b n).req.per.fro < d:=by
   apply Classical.byContradiction;intro k
   apply h
   have e:(d - 1 - (zo b n).req.per.fro+1).toNat=0:=by omega
   unfold zY;simp only [bckP];rw [e];rfl
  have h1:=yd6 hp hd hf
  refine ⟨h1,λk=>h ?_⟩
  rw [daysR,if_pos h1] at k
  exact List.eq_nil_of_length_eq_zero k
theorem yb1 {b:Bk} (h:zG b=0) (c n:ByteArray) (d:Int):(if bckC b c n d=0 then bkY b n d else bk0)=bckB b c n d:=by
 rw [bckB]
 split
 .rename_i k
  have ho:ownE b c n (rng d 0 99999)=0:=fE0 k _ (by simp)
  have he:bckE (zo b n) d=0:=fE0 k _ (by simp)
  have hto:¬(zo b n).req.per.to < d:=λq=>by rw [bckE,if_pos q] at he;omega
  obtain ⟨h1,h2,h3,h4⟩:=za8 ho
  have hp:=(chkReq_0 (ym h (List.mem_of_getElem? h2))).1
  have hD:=yaG (b:=b) (n:=n) (d:=d) hp (by omega)
  rw [bkY,bckY]
  by_cases hl:ltL d (zY (zo b n).req.per)=[]
  .rw [if_pos hl,if_neg (λq=>hD.1 q hl),bckO,chgB]
   simp only
   rw [List.take_set_of_le (Nat.le_refl _),List.drop_set_of_lt (Nat.lt_succ_self _)]
  .rw [if_neg hl,if_pos (hD.2 hl),bckO]
   have:bkS (zo b n) d=bckS (zo b n) d:=by rw [bkS,bckS,ycs (λx hx=>yaK (y7 h ho) hx)]
   rw [this]
 .rfl
theorem yay {l:List Lim} {m:List Mov} {r:Req} (hl:z3 l=0) (hm:zad m=0) (hr:chkReq r=0):fitR l m r=fitsB l m r:=by
 have:fitC l m r=0:=by
  unfold fitC
  refine zq.2 ⟨?_,zq.2 ⟨hr,rfl⟩⟩
  exact zq.2 ⟨hl,zq.2 ⟨hm,rfl⟩⟩
 rw [fitR,this];simp
theorem yd4 {l:List Lim} {m:List Mov} (hl:z3 l=0) (hm:zad m=0):bothC l m=0:=zq.2 ⟨hl,zq.2 ⟨hm,rfl⟩⟩
theorem yb9 {b:Bk} (h:zG b=0):movF b (-1)=mvS b.slots:=by
 have:=(yaE h).1
 rw [mvE,if_pos h] at this;exact this
theorem ybW {b:Bk} (h:∀ s ∈ b.slots,chkReq s.req=0) (hn:b.slots.length<=64):movF b (-1)=mvS b.slots/\zad (mvS b.slots)=0/\(mvS b.slots).length<=401*b.slots.length:=by
 have:=yb8 h (by omega) b.slots.length (Nat.le_refl _)
 rw [List.take_length] at this
 have e:(b.slots.map (·.req)).take b.slots.length=b.slots.map (·.req):=List.take_of_length_le (by simp)
 rw [e] at this
 rw [movF,yb0];exact this
theorem ydx (L:List Req) (i:Nat) (hi:i < L.length):rqW L (i:Int)=L.take i++L.drop (i+1):=by
 have key:∀ k,k<=L.length->rqK L (i:Int) k=if k<=i then L.take k else L.take i++(L.take k).drop (i+1):=by
  intro k
  induction k with
  | zero=>intro _;rw [if_pos (by omega)];rfl
  | succ k ih=>
   intro hk
   have h:=ih (by omega)
   have hx:L[k]?=some L[k]:=List.getElem?_eq_getElem (by omega)
   have hstep:rqK L (i:Int) (k+1)=rqK L (i:Int) k++(if (k:Int)=(i:Int) then [] else [L[k]]):=by
    rw [rqK,List.range_succ,List.flatMap_append,<-rqK,List.flatMap_cons,List.flatMap_nil,rqI,hx,List.append_nil]
   rw [hstep,h]
   rcases Nat.lt_trichotomy k i with h1|h1|h1
   .rw [if_pos (by omega),if_neg (by omega),if_pos (by omega),zan hx]
   .subst h1
    rw [if_pos (Nat.le_refl _),if_pos rfl,if_neg (by omega),List.append_nil,List.drop_eq_nil_of_le (by rw [List.length_take];omega),List.append_nil]
   .rw [if_neg (by omega),if_neg (by omega),if_neg (by omega),zan hx,List.drop_append_of_le_length (by rw [List.length_take];omega),List.append_assoc]
 rw [rqW,key _ (Nat.le_refl _),if_neg (by omega),List.take_length]
theorem yam {q:Req} {m:Int} (h:chkReq q=0) (hm:rng m 0 1439=0):chkReq (rtQ q m)=0:=by
 unfold chkReq at h ⊢
 simp only [zq] at h ⊢
 simp only [rtQ]
 simp only [h,hm,true_and,and_true]
def yaI (b:Bk) (i:Nat):List Slt:=b.slots.take i++b.slots.drop (i+1)
theorem yd3 {b:Bk} {i:Nat} {s:Slt} (h:s ∈ yaI b i):s ∈ b.slots:=by
 rcases List.mem_append.1 h with h|h
 .exact List.mem_of_mem_take h
 .exact List.mem_of_mem_drop h
theorem ybA {b:Bk} (h:zG b=0) {i:Nat} (hi:i < b.slots.length):movF b i=mvS (yaI b i)/\zad (mvS (yaI b i))=0/\(yaI b i).length<=64:=by
 have hn:=chkBk_len h
 have hl:(yaI b i).length<=64:=by rw [yaI,List.length_append,List.length_take,List.length_drop];omega
 have:=yb8 (L:=yaI b i) (λs hs=>ym h (yd3 hs)) (by omega) (yaI b i).length (Nat.le_refl _)
 rw [List.take_length] at this
 obtain ⟨e1,e2,_⟩:=this
 refine ⟨?_,e2,hl⟩
 rw [movF,ydx _ i (by rw [List.length_map];exact hi),<-e1]
 congr 1
 have e:((yaI b i).map (·.req)).take (yaI b i).length=(yaI b i).map (·.req):=List.take_of_length_le (by simp)
 rw [e,yaI,List.map_append,List.map_take,List.map_drop]
structure Tmg where
 req:Req
 carrier:ByteArray
 slot:ByteArray
 day:Int
 minute:Int
abbrev Tmg.pv (x:Tmg):PV:=.agg [.s x.req.name,.s x.req.carrier,.s x.req.kind,.s x.req.term,.s x.req.partner,.s x.req.link,.i .i64 x.req.per.fro,.i .i64 x.req.per.to,.i .i64 x.req.per.days,.i .i64 x.req.minute,.i .i64 x.req.seats,.i .i64 x.req.size,.i .i64 x.req.noise,.s x.carrier,.s x.slot,.i .i64 x.day,.i .i64 x.minute]
theorem ybG {l:List Lim} {b:Bk} {q:Req} (h:zg [z3 l,zG b]=0):HoldC l b q=holdC l b q:=if_pos h
theorem ydb {l:List Lim} {b:Bk} {q:Req} (h:zg [z3 l,zG b]=0):HoldB l b q=holdB l b q:=by
 rw [HoldB,ybG h];split
 .rfl
 .rename_i k;rw [holdB_0 k]
open Go.RowKit Go.ChangeShapes Go.WideShapes Go.ChangeAt
def limT:List CP:=[.s,.s,.s,jT,jT,jT,jT,jT,jT,jT,jT]
theorem lim_of {l:List PV} (h:FitAll (Fit 5) limT l):∃ L:Lim,l=L.cells:=by
 match l,h with
 | [_,_,_,_,_,_,_,_,_,_,_],⟨⟨a,ha⟩,⟨b,hb⟩,⟨c,hc⟩,⟨d,hd⟩,⟨e,he⟩,⟨f,hf⟩,⟨g,hg⟩,⟨i,hi⟩,⟨j,hj⟩,⟨k,hk⟩,⟨m,hm⟩,_⟩=>
  subst ha hb hc hd he hf hg hi hj hk hm
  exact ⟨⟨a,b,c,d,e,f,g,⟨i,j,k⟩,m⟩,rfl⟩
theorem par22:yde Tryz.prog 6 64=some (false,[.sl true limT]):=by kernel_rfl
theorem und22:Tryz.prog.underlying 64=some (.slice 118):=by kernel_rfl
theorem byt46:Tryz.prog.bytesOf 118=112:=by kernel_rfl
theorem yc3 {p:PV} (h:yag Tryz.prog 6 64 p):∃ L:List Lim,p=.sl 11 (L.map Lim.pv)/\L.length*112<=140737488355328:=by
 obtain ⟨⟨ag,c,l,hp,rfl,hl⟩,hb⟩:=h
 rw [par22] at hp
 simp only [Option.some.injEq,Prod.mk.injEq] at hp
 obtain ⟨rfl,rfl⟩:=hp
 match l,hl with
 | [q],⟨⟨xs,hq,hx⟩,_⟩=>
  subst hq
  obtain ⟨L,rfl⟩:=yO (f:=Lim.pv) (xs:=xs) λx h=>by
   obtain ⟨l,rfl,hf⟩:=hx x h
   obtain ⟨L,rfl⟩:=lim_of hf
   exact ⟨L,rfl⟩
  refine ⟨L,rfl,?_⟩
  have:=hb 118 _ _ und22 rfl
  rw [byt46,List.length_map] at this
  unfold reachBytes at this;omega
theorem parT:yde Tryz.prog 6 121=some (true,[.s,.s,.s,.s,.s,.s,jT,jT,jT,jT,jT,jT,jT,.s,.s,jT,jT]):=by kernel_rfl
theorem ydO {p:PV} (h:yag Tryz.prog 6 121 p):∃ x:Tmg,p=x.pv:=by
 obtain ⟨⟨ag,c,l,hp,rfl,hl⟩,hb⟩:=h
 rw [parT] at hp
 simp only [Option.some.injEq,Prod.mk.injEq] at hp
 obtain ⟨rfl,rfl⟩:=hp
 match l,hl with
 | [_,_,_,_,_,_,_,_,_,_,_,_,_,_,_,_,_],⟨⟨a,ha⟩,⟨b,hb⟩,⟨c,hc⟩,⟨d,hd⟩,⟨e,he⟩,⟨f,hf⟩,⟨g,hg⟩,⟨i,hi⟩,⟨j,hj⟩,⟨k,hk⟩,⟨m,hm⟩,⟨o,ho⟩,⟨q,hq⟩,⟨r,hr⟩,⟨s,hs⟩,⟨t,ht⟩,⟨u,hu⟩,_⟩=>
  subst ha hb hc hd he hf hg hi hj hk hm ho hq hr hs ht hu
  exact ⟨⟨⟨a,b,c,d,e,f,⟨g,i,j⟩,k,m,o,q⟩,r,s,t,u⟩,rfl⟩
open Go.RowKit
theorem fE_of:∀ {l:List Int},(∀ x ∈ l,x=0)->zg l=0
 | [],_=>rfl
 | x::r,h=>zq.2 ⟨h x (by simp),fE_of λy hy=>h y (by simp [hy])⟩
theorem yI {α:Type} {f:Nat->α->Int} {l:List α} (h:∀ i x,l[i]?=some x->f i x=0):zg (l.mapIdx f)=0:=fE_of λy hy=>by
 obtain ⟨i,hi⟩:=List.mem_iff_getElem?.1 hy
 rw [List.getElem?_mapIdx] at hi
 cases hx:l[i]? with
 | none=>rw [hx] at hi;cases hi
 | some x=>
  rw [hx] at hi
  have e:f i x=y:=Option.some.inj hi
  rw [<-e];exact h i x hx
theorem ybX {b:Bk} (h:zG b=0) {i:Nat} {s s':Slt} (hs:b.slots[i]?=some s) (hn:s'.req.name=s.req.name) (hv:chkSlt s'=0):zG ⟨b.slots.set i s',b.wait⟩=0:=by
 have hnm:(b.slots.set i s').map (·.req.name)=b.slots.map (·.req.name):=names_set _ _ _ _ hs hn
 have hT:∀ k,((b.slots.set i s').take k).map (·.req.name)=(b.slots.take k).map (·.req.name):=λk=>by rw [List.map_take,hnm,List.map_take]
 have e3:wshErr ⟨b.slots.set i s',b.wait⟩=wshErr b:=by funext k w;simp only [wshErr,hnm]
 have e4:zg ((b.slots.set i s').mapIdx (sltErr ⟨b.slots.set i s',b.wait⟩))=0:=by
  refine yI λk x hx=>?_
  by_cases hk:i=k
  .subst hk
   have hlt:=(List.getElem?_eq_some_iff.1 hs).1
   rw [List.getElem?_set_self hlt] at hx
   have ex:s'=x:=Option.some.inj hx
   subst ex
   have h1:=yaD h hs
   have h2:=fE0 h1 (if 0<=atL s.req.name ((b.slots.take i).map (·.req.name)) then 9 else 0) (by simp)
   refine zq.2 ⟨hv,zq.2 ⟨?_,rfl⟩⟩
   rw [hn];simp only [hT];exact h2
  .rw [List.getElem?_set_ne hk] at hx
   have h1:=yaD h hx
   rw [sltErr] at h1 ⊢
   simp only [hT];exact h1
 have c1:=fE0 h (if 64 < (b.slots.length:Int) then 5 else 0) (by simp)
 have c3:=fE0 h (if 64 < (b.wait.length:Int) then 5 else 0) (by simp)
 have c4:=fE0 h (zg (b.wait.mapIdx (wshErr b))) (by simp)
 refine zq.2 ⟨?_,zq.2 ⟨e4,zq.2 ⟨c3,zq.2 ⟨?_,rfl⟩⟩⟩⟩
 .simp only [List.length_set];exact c1
 .rw [e3];exact c4
theorem ya1 {b:Bk} (h:zG b=0) {c n:ByteArray} {e:Int} (ho:ownE b c n e=0) {s':Slt} (hn:s'.req.name=(zo b n).req.name) (hv:chkSlt s'=0):zG (chgB b n s')=0:=ybX h (za8 ho).2.1 hn hv
theorem ybU {s:Slt} (h:chkSlt s=0) {L:List Lea} (hl:L.length<=8) (h1:∀ x ∈ L,chkLea x=0/\leaOf s.raw x=0) (hp:L.Pairwise ydK):chkSlt ⟨s.req,s.holder,L,s.sh⟩=0:=by
 have c1:=fE0 h (chkQ s.req) (by simp)
 have c2:=fE0 h (zaH s.holder) (by simp)
 have c5:=fE0 h (if 4 < (s.sh.length:Int) then 5 else 0) (by simp)
 have c6:=fE0 h (zg (s.sh.mapIdx (shaErr s))) (by simp)
 refine zq.2 ⟨c1,zq.2 ⟨c2,zq.2 ⟨if_neg (show ¬(8:Int) < (L.length:Int) by omega),zq.2 ⟨?_,zq.2 ⟨c5,zq.2 ⟨c6,rfl⟩⟩⟩⟩⟩⟩
 refine yI λi x hx=>?_
 obtain ⟨a1,a2⟩:=h1 x (List.mem_of_getElem? hx)
 refine zq.2 ⟨a1,zq.2 ⟨a2,zq.2 ⟨?_,rfl⟩⟩⟩
 refine if_neg λk=>?_
 obtain ⟨k1,k2⟩:=k
 obtain ⟨j,rfl⟩:∃ j,i=j+1:=⟨i - 1,by omega⟩
 have hx':L[j+1]?=some x:=hx
 obtain ⟨hi,hxi⟩:=List.getElem?_eq_some_iff.1 hx'
 have hj:L[j+1 - 1]?=some L[j]:=by rw [Nat.add_sub_cancel];exact List.getElem?_eq_getElem (by omega)
 have k2':x.fro<=((L[j+1 - 1]?).getD x).to:=k2
 rw [hj] at k2'
 have hlt:=List.pairwise_iff_getElem.1 hp j (j+1) (by omega) hi (by omega)
 rw [hxi] at hlt
 simp only [ydK] at hlt
 have k3:x.fro<=(L[j]).to:=k2'
 omega
theorem yn {b:Bk} (h:zG b=0) {i:Nat} {s:Slt} (hs:b.slots[i]?=some s):atL s.req.name (b.slots.map (·.req.name))=i:=by
 rw [<-idxF_atL (λx:Slt=>x.req.name)]
 refine idxF_hit (λy hy=>decide_eq_false λe=>?_) hs (decide_eq_true rfl)
 have h1:=fE0 (yaD h hs) (if 0<=atL s.req.name ((b.slots.take i).map (·.req.name)) then 9 else 0) (by simp)
 have:0<=atL s.req.name ((b.slots.take i).map (·.req.name)):=(yc _ _).2 (List.mem_map.2 ⟨y,hy,e⟩)
 rw [if_pos this] at h1;omega
theorem ybV {b:Bk} (h:zG b=0) {i:Nat} {s:Slt} (hs:b.slots[i]?=some s):zA b s.req.name=i/\zo b s.req.name=s/\¬atL s.req.name (b.slots.map (·.req.name)) < 0:=by
 have e:=yn h hs
 have e1:zA b s.req.name=i:=by rw [zA,e];rfl
 refine ⟨e1,?_,by rw [e];omega⟩
 rw [zo,e,Int.toNat_natCast,hs];rfl
theorem ycA {α:Type} {L:List α} {i:Nat} {x:α} (h:L[i]?=some x):L.set i x=L:=by
 apply List.ext_getElem?
 intro k
 by_cases e:i=k
 .subst e
  rw [List.getElem?_set_self (List.getElem?_eq_some_iff.1 h).1,h]
 .rw [List.getElem?_set_ne e]
instance decMem (n:ByteArray) (N:List ByteArray):Decidable (n ∈ N):=decidable_of_iff _ (yc n N)
def NoD (L:List ByteArray):Prop:=∀ (i j:Nat) (x:ByteArray),L[i]?=some x->L[j]?=some x->i=j
theorem yaM {b:Bk} {n:ByteArray} (hat:¬atL n (b.slots.map (·.req.name)) < 0):(zo b n).req.name=n:=by
 have h:=ybH hat
 rw [List.getElem?_map,(slot_found hat).1] at h
 exact Option.some.inj h
structure RgOk (b:Bk) (N:List ByteArray) (g:ByteArray->ByteArray):Prop where
 n:NoD N
 k:∀ n ∈ N,¬atL n (b.slots.map (·.req.name)) < 0
 l:∀ n ∈ N,(zo b n).ls=[]
 h:NoD (N.map g)
 e:∀ n ∈ N,zaH (g n)=0
theorem ydJ {s:SlR} {x:Lea} (h1:chkLea x=0) (h2:leaOf s x=0) {t:Int} (ht:t<=x.to) (hf:x.fro<=t):chkLea ⟨x.carrier,x.fro,t⟩=0/\leaOf s ⟨x.carrier,x.fro,t⟩=0:=by
 have a1:=fE0 h1 (zaH x.carrier) (by simp)
 have a2:=fE0 h1 (rng x.fro 0 99999) (by simp)
 have a3:=fE0 h1 (rng x.to 0 99999) (by simp)
 have b1:=fE0 h2 (if x.fro < s.req.per.fro\/s.req.per.to < x.to then 30 else 0) (by simp)
 have b2:=fE0 h2 (if x.carrier=s.holder then 31 else 0) (by simp)
 have b1':¬(x.fro < s.req.per.fro\/s.req.per.to < x.to):=λk=>by rw [if_pos k] at b1;omega
 refine ⟨zq.2 ⟨a1,zq.2 ⟨a2,zq.2 ⟨?_,zq.2 ⟨if_neg ?_,rfl⟩⟩⟩⟩,zq.2 ⟨if_neg ?_,zq.2 ⟨b2,rfl⟩⟩⟩
 .rw [rng_0] at a2 a3 ⊢;dsimp only;omega
 .dsimp only;omega
 .dsimp only;omega
theorem ybj {b:Bk} (h:zG b=0):BkOk b:=by
 have hl:=chkBk_len h
 refine ⟨λs hs=>?_,by omega,by omega⟩
 have hv:=ya2 h hs
 have c3:=fE0 hv (if 8 < (s.ls.length:Int) then 5 else 0) (by simp)
 have c5:=fE0 hv (if 4 < (s.sh.length:Int) then 5 else 0) (by simp)
 refine ⟨?_,?_⟩
 .by_cases k:8 < (s.ls.length:Int)
  .rw [if_pos k] at c3;omega
  .omega
 .by_cases k:4 < (s.sh.length:Int)
  .rw [if_pos k] at c5;omega
  .omega
structure Keeps (b y:Bk):Prop where
 r:y.slots.map (·.req)=b.slots.map (·.req)
 w:y.wait=b.wait
 v:zG y=0
theorem yaP {L:List ByteArray} (h:NoD L):L.Nodup:=by
 rw [List.Nodup,List.pairwise_iff_getElem]
 intro i j hi hj hij e
 have:=h i j L[i] (List.getElem?_eq_getElem hi) (by rw [List.getElem?_eq_getElem hj,e])
 omega
theorem ya8 {b:Bk} (h:zG b=0):(b.slots.map (·.req.name)).Nodup:=yaP λi j x hi hj=>by
 rw [List.getElem?_map] at hi hj
 cases hs:b.slots[i]? with
 | none=>rw [hs] at hi;cases hi
 | some s=>
  cases ht:b.slots[j]? with
  | none=>rw [ht] at hj;cases hj
  | some t=>
   rw [hs] at hi;rw [ht] at hj
   have e1:s.req.name=x:=Option.some.inj hi
   have e2:t.req.name=x:=Option.some.inj hj
   have i1:=yn h hs
   have i2:=yn h ht
   rw [e1] at i1;rw [e2] at i2
   omega
def yB (l:List Lim) (b:Bk) (k:Nat):List Slt:=b.slots++(srvK l b k).Q.map newS
theorem ydm {b:Bk} (h:zG b=0) {k:Nat} {w:Wsh} (hw:b.wait[k]?=some w):w.req.name ∉ b.slots.map (·.req.name)/\w.req.name ∉ (b.wait.take k).map (·.req.name):=by
 have:=fE0 (yaC h hw) (if 0<=atL w.req.name (b.slots.map (·.req.name)++(b.wait.take k).map (·.req.name)) then 9 else 0) (by simp)
 have hn:¬0<=atL w.req.name (b.slots.map (·.req.name)++(b.wait.take k).map (·.req.name)):=λq=>by rw [if_pos q] at this;omega
 exact ⟨λq=>hn ((yc _ _).2 (List.mem_append_left _ q)),λq=>hn ((yc _ _).2 (List.mem_append_right _ q))⟩
theorem ybS {b:Bk} (h:zG b=0) {k:Nat} {w:Wsh} (hw:b.wait[k]?=some w):chkQ w.req=0:=fE0 (fE0 (yaC h hw) (chkWsh w) (by simp)) _ (by simp)
theorem yav (S:List Slt) (x:Slt):mvS (S++[x])=mergeM befM (mvS S) (movsL x.req):=by rw [mvS,List.foldl_append];rfl
theorem ya4 {l:List Lim} {b:Bk} (h:zG b=0):∀ k,k<=b.wait.length->(∀ r ∈ (srvK l b k).Q,∃ j w,j < k/\b.wait[j]?=some w/\r=w.req)/\(srvK l b k).M=mvS (yB l b k)/\(yB l b k).length<=64:=by
 intro k
 induction k with
 | zero=>
  intro _
  have hn:=chkBk_len h
  refine ⟨λr hr=>(by cases hr),?_,by simp only [yB,srvK,srv0,List.take_zero,List.foldl_nil,List.map_nil,List.append_nil];omega⟩
  have:=yb9 h
  simp only [yB,srvK,srv0,List.take_zero,List.foldl_nil,List.map_nil,List.append_nil]
  exact this
 | succ k ih=>
  intro hk
  obtain ⟨i1,i2,i3⟩:=ih (by omega)
  obtain ⟨w,hw⟩:=zn (i:=k) (l:=b.wait) (by omega)
  have hv:∀ s ∈ yB l b k,chkReq s.req=0:=λs hs=>by
   rcases List.mem_append.1 hs with hs|hs
   .exact ym h hs
   .obtain ⟨r,hr,rfl⟩:=List.mem_map.1 hs
    obtain ⟨j,w',_,hj,rfl⟩:=i1 r hr
    exact yw (ybS h hj)
  have hnx:=srvK_next (l:=l) hw
  rw [srvN] at hnx
  by_cases hno:srvNo l b.slots.length (srvK l b k) w
  .rw [if_pos hno] at hnx
   have e:yB l b (k+1)=yB l b k:=by rw [yB,yB,hnx]
   rw [e,hnx]
   exact ⟨λr hr=>by obtain ⟨j,w',h1,h2⟩:=i1 r hr;exact ⟨j,w',by omega,h2⟩,i2,i3⟩
  .rw [if_neg hno] at hnx
   have e:yB l b (k+1)=yB l b k++[newS w.req]:=by rw [yB,yB,hnx];simp
   have hr:=yw (ybS h hw)
   have hlt:(yB l b k).length < 64:=by
    have h1:¬64<=((b.slots.length+(srvK l b k).Q.length:Nat):Int):=λq=>hno (.inl q)
    simp only [yB,List.length_append,List.length_map];omega
   obtain ⟨_,m2,m3⟩:=ybW (b:=⟨yB l b k,[]⟩) hv i3
   obtain ⟨n1,n2⟩:=yaw hr
   simp only at m2 m3
   have hg:mgE (mvS (yB l b k)) (movsL w.req)=0:=zq.2 ⟨m2,zq.2 ⟨n1,zq.2 ⟨if_neg (by omega),rfl⟩⟩⟩
   rw [e,hnx]
   refine ⟨λr hr'=>?_,?_,by rw [List.length_append,List.length_singleton];omega⟩
   .rcases List.mem_append.1 hr' with hr'|hr'
    .obtain ⟨j,w',h1,h2⟩:=i1 r hr';exact ⟨j,w',by omega,h2⟩
    .exact ⟨k,w,by omega,hw,List.mem_singleton.1 hr'⟩
   .simp only
    rw [yav,i2,movR,if_pos hr,mgR,if_pos hg];rfl
theorem srv_ok {l:List Lim} {b:Bk} (h:zG b=0):∀ k≤b.wait.length,(∀ s ∈ yB l b k,chkReq s.req=0)/\(yB l b k).length<=64:=λk hk=>by
 obtain ⟨i1,_,i3⟩:=ya4 (l:=l) h k hk
 refine ⟨λs hs=>?_,i3⟩
 rcases List.mem_append.1 hs with hs|hs
 .exact ym h hs
 .obtain ⟨r,hr,rfl⟩:=List.mem_map.1 hs
  obtain ⟨j,w',_,hj,rfl⟩:=i1 r hr
  exact yw (ybS h hj)
theorem ybF (a b:Wsh):yA a b=decide (cmpW a b < 0):=by
 have key:yA a b=true↔cmpW a b < 0:=by
  rw [yA,cmpW]
  simp only [Bool.or_eq_true,Bool.and_eq_true,decide_eq_true_eq]
  rcases Int.lt_trichotomy a.rank b.rank with k|k|k
  .have:cmpI a.rank b.rank=-1:=if_pos k
   rw [this,za2 (by omega)]
   exact ⟨λ_=>by omega,λ_=>.inl k⟩
  .have:cmpI a.rank b.rank=0:=by rw [cmpI,if_neg (by omega),if_neg (by omega)]
   rw [za3 this,fE_one,cmpS_l]
   exact ⟨λq=>by rcases q with q|q;(· omega);exact q.2,λq=>.inr ⟨k,q⟩⟩
  .have:cmpI a.rank b.rank=1:=by rw [cmpI,if_neg (by omega),if_pos k]
   rw [this,za2 (by omega)]
   exact ⟨λq=>by rcases q with q|q<;>omega,λq=>by omega⟩
 by_cases h:cmpW a b < 0
 .rw [decide_eq_true h];exact key.2 h
 .rw [decide_eq_false h]
  cases q:yA a b
  .rfl
  .exact absurd (key.1 q) h
theorem yal:∀ x y z:List UInt8,Op.bytesLess x y=true->Op.bytesLess y z=true->Op.bytesLess x z=true
 | _,[],_,h,_=>by simp [Op.bytesLess] at h
 | _,_::_,[],_,h=>by simp [Op.bytesLess] at h
 | [],_::_,_::_,_,_=>by simp [Op.bytesLess]
 | a::x,b::y,c::z,h,k=>by
  simp only [Op.bytesLess,Bool.or_eq_true,Bool.and_eq_true,decide_eq_true_eq,beq_iff_eq] at h k ⊢
  rcases h with h|⟨rfl,h⟩
  .rcases k with k|⟨rfl,k⟩
   .exact .inl (UInt8.lt_trans h k)
   .exact .inl h
  .rcases k with k|⟨rfl,k⟩
   .exact .inl k
   .exact .inr ⟨rfl,yal x y z h k⟩
theorem ydj (a b:Wsh):cmpW a b < 0↔a.rank < b.rank\/(a.rank=b.rank/\Op.bytesLess a.req.name.toList b.req.name.toList=true):=by
 have h:=ybF a b
 rw [yA] at h
 constructor
 .intro q
  rw [decide_eq_true q] at h
  simpa only [Bool.or_eq_true,Bool.and_eq_true,decide_eq_true_eq] using h
 .intro q
  have h2:(decide (a.rank < b.rank) || (decide (a.rank=b.rank) && Op.bytesLess a.req.name.toList b.req.name.toList))=true:=by
   simpa only [Bool.or_eq_true,Bool.and_eq_true,decide_eq_true_eq] using q
  rw [h2] at h
  exact of_decide_eq_true h.symm
theorem yd0 (a b c:Wsh) (h:cmpW a b < 0) (k:cmpW b c < 0):cmpW a c < 0:=by
 rw [ydj] at *
 rcases h with h|⟨h1,h2⟩
 .rcases k with k|⟨k1,_⟩<;>exact .inl (by omega)
 .rcases k with k|⟨k1,k2⟩
  .exact .inl (by omega)
  .exact .inr ⟨by omega,yal _ _ _ h2 k2⟩
theorem ycY {x y:ByteArray} (h:x≠y) (k:¬Op.bytesLess x.toList y.toList=true):Op.bytesLess y.toList x.toList=true:=by
 by_cases q:Op.bytesLess y.toList x.toList=true
 .exact q
 .exact absurd (ba_tri (by simpa using k) (by simpa using q)) h
theorem yc8 {a b:Wsh} (h:¬cmpW a b<=0):cmpW b a < 0:=by
 rw [cmpW] at h
 rw [ydj]
 rcases Int.lt_trichotomy a.rank b.rank with k|k|k
 .have e:cmpI a.rank b.rank=-1:=if_pos k
  rw [e,za2 (by omega)] at h;omega
 .have e:cmpI a.rank b.rank=0:=by rw [cmpI,if_neg (by omega),if_neg (by omega)]
  rw [za3 e,fE_one] at h
  refine .inr ⟨k.symm,?_⟩
  have hn:a.req.name≠b.req.name:=λq=>h (by rw [(cmpS_0 _ _).2 q];omega)
  have hl:¬cmpS a.req.name b.req.name < 0:=λq=>h (by omega)
  exact ycY hn (λq=>hl ((cmpS_l _ _).2 q))
 .exact .inl k
theorem ydp {b:Bk} (h:zG b=0):b.wait.Pairwise (λx y=>cmpW x y < 0):=by
 refine yb2 yd0 λi x y hx hy=>?_
 have:=fE0 (yaC h hy) (if 0 < ((i+1:Nat):Int)/\cmpW y ((b.wait[i+1 - 1]?).getD y)<=0 then 11 else 0) (by simp)
 have e:(b.wait[i+1 - 1]?).getD y=x:=by rw [Nat.add_sub_cancel,hx];rfl
 rw [e] at this
 by_cases k:0 < ((i+1:Nat):Int)/\cmpW y x<=0
 .rw [if_pos k] at this;omega
 .exact yc8 (λq=>k ⟨by omega,q⟩)
theorem yt {L:List ByteArray}:L.Nodup↔∀ i x,L[i]?=some x->x ∉ L.take i:=by
 constructor
 .intro h i x hx hm
  obtain ⟨j,hj⟩:=List.mem_iff_getElem?.1 hm
  have hlt:=(List.getElem?_eq_some_iff.1 hj).1
  rw [List.length_take] at hlt
  rw [List.getElem?_take_of_lt (by omega)] at hj
  obtain ⟨l1,e1⟩:=List.getElem?_eq_some_iff.1 hx
  obtain ⟨l2,e2⟩:=List.getElem?_eq_some_iff.1 hj
  exact List.pairwise_iff_getElem.1 h j i l2 l1 (by omega) (e2.trans e1.symm)
 .intro h
  refine yaP λi j x hi hj=>?_
  rcases Nat.lt_trichotomy i j with k|k|k
  .exact absurd (List.mem_of_getElem? (i:=i) (by rw [List.getElem?_take_of_lt k];exact hi)) (h j x hj)
  .exact k
  .exact absurd (List.mem_of_getElem? (i:=j) (by rw [List.getElem?_take_of_lt k];exact hj)) (h i x hi)
abbrev sNm (S:List Slt):List ByteArray:=S.map (·.req.name)
abbrev wNm (W:List Wsh):List ByteArray:=W.map (·.req.name)
structure Vbk (S:List Slt) (W:List Wsh):Prop where
 n:S.length<=64
 s:∀ s ∈ S,chkSlt s=0
 m:W.length<=64
 w:∀ w ∈ W,chkWsh w=0
 d:(sNm S++wNm W).Nodup
 o:W.Pairwise (λx y=>cmpW x y < 0)
theorem yd1 {a b:Wsh} (h:cmpW a b < 0):¬cmpW b a<=0:=λk=>by
 have:=yaH.2 k
 rw [ybF,decide_eq_true h] at this;cases this
theorem yao {b:Bk}:zG b=0↔Vbk b.slots b.wait:=by
 constructor
 .intro h
  have hl:=chkBk_len h
  refine ⟨by omega,λs hs=>ya2 h hs,by omega,λw hw=>?_,yt.2 λi x hx=>?_,ydp h⟩
  .obtain ⟨i,hi⟩:=List.mem_iff_getElem?.1 hw
   exact fE0 (yaC h hi) (chkWsh w) (by simp)
  .by_cases k:i < b.slots.length
   .rw [List.getElem?_append_left (by rw [List.length_map];exact k)] at hx
    rw [List.take_append_of_le_length (by rw [List.length_map];omega)]
    exact yt.1 (ya8 h) i x hx
   .have hlt:=(List.getElem?_eq_some_iff.1 hx).1
    rw [List.length_append,List.length_map,List.length_map] at hlt
    rw [List.getElem?_append_right (by rw [List.length_map];omega),List.length_map,List.getElem?_map] at hx
    obtain ⟨w,hw⟩:=zn (i:=i - b.slots.length) (l:=b.wait) (by omega)
    rw [hw] at hx
    have ex:w.req.name=x:=Option.some.inj hx
    obtain ⟨n1,n2⟩:=ydm h hw
    have et:(sNm b.slots++wNm b.wait).take i=sNm b.slots++(b.wait.take (i - b.slots.length)).map (·.req.name):=by
     rw [List.take_append,List.take_of_length_le (by rw [List.length_map];omega),List.length_map,List.map_take]
    rw [et,<-ex]
    intro hm
    rcases List.mem_append.1 hm with hm|hm
    .exact n1 hm
    .exact n2 hm
 .rintro ⟨h1,h2,h3,h4,h5,h6⟩
  obtain ⟨d1,d2,d3⟩:=List.nodup_append.1 h5
  refine zq.2 ⟨if_neg (by omega),zq.2 ⟨yI λi s hs=>?_,zq.2 ⟨if_neg (by omega),zq.2 ⟨yI λi w hw=>?_,rfl⟩⟩⟩⟩
  .refine zq.2 ⟨h2 s (List.mem_of_getElem? hs),zq.2 ⟨if_neg λk=>?_,rfl⟩⟩
   rw [List.map_take] at k
   exact yt.1 d1 i s.req.name (by rw [List.getElem?_map,hs];rfl) ((yc _ _).1 k)
  .refine zq.2 ⟨h4 w (List.mem_of_getElem? hw),zq.2 ⟨if_neg λk=>?_,zq.2 ⟨if_neg λk=>?_,rfl⟩⟩⟩
   .rcases List.mem_append.1 ((yc _ _).1 k) with k|k
    .exact d3 _ k _ (List.mem_map.2 ⟨w,List.mem_of_getElem? hw,rfl⟩) rfl
    .rw [List.map_take] at k
     exact yt.1 d2 i w.req.name (by rw [List.getElem?_map,hw];rfl) k
   .obtain ⟨k1,k2⟩:=k
    obtain ⟨j,rfl⟩:∃ j,i=j+1:=⟨i - 1,by omega⟩
    obtain ⟨li,ei⟩:=List.getElem?_eq_some_iff.1 hw
    have hj:b.wait[j+1 - 1]?=some b.wait[j]:=by rw [Nat.add_sub_cancel];exact List.getElem?_eq_getElem (by omega)
    rw [hj] at k2
    have hlt:=List.pairwise_iff_getElem.1 h6 j (j+1) (by omega) li (by omega)
    rw [ei] at hlt
    exact yd1 hlt k2
theorem yx {q:Req} (h:chkQ q=0):chkRq q=0/\¬zY q.per=[]/\zaH q.carrier=0/\zaH q.name=0/\zau q.per=0/\rng q.minute 0 1439=0:=by
 have h1:chkRq q=0:=fE0 h _ (by simp)
 have h2:=fE0 h (if zY q.per=[] then 12 else 0) (by simp)
 exact ⟨h1,λk=>by rw [if_pos k] at h2;omega,fE0 h1 (zaH q.carrier) (by simp),fE0 h1 (zaH q.name) (by simp),fE0 h1 (zau q.per) (by simp),fE0 h1 (rng q.minute 0 1439) (by simp)⟩
theorem yak {q:Req} (h:chkQ q=0):chkSlt (newS q)=0:=
 zq.2 ⟨h,zq.2 ⟨(yx h).2.2.1,zq.2 ⟨by simp [newS],zq.2 ⟨by simp [newS,zg],zq.2 ⟨by simp [newS],zq.2 ⟨by simp [newS,zg],rfl⟩⟩⟩⟩⟩⟩
theorem tk_new {b:Bk} {n:ByteArray} (h:tkE b n=0):n ∉ sNm b.slots++wNm b.wait:=λk=>by
 have:takenB (b.slots.map (·.req.name)) (b.wait.map (·.req.name)) n=true:=by
  rw [takenB,Bool.or_eq_true,decide_eq_true_eq,decide_eq_true_eq,yc,yc]
  exact List.mem_append.1 k
 rw [tkE,if_pos this] at h;omega
theorem yQ {l:List Lim} {b:Bk} {q:Req} (h:holdC l b q=0):chkQ q=0/\q.name ∉ sNm b.slots++wNm b.wait/\b.slots.length < 64/\fitR l (movF b (-1)) q=true:=by
 by_cases hE:holdE b q=0
 .rw [holdC,if_pos hE] at h
  have h1:=fE0 hE (chkQ q) (by simp)
  have h2:=fE0 hE (tkE b q.name) (by simp)
  have h3:=fE0 hE (if 64<=(b.slots.length:Int) then 5 else 0) (by simp)
  refine ⟨h1,tk_new h2,?_,?_⟩
  .by_cases k:64<=(b.slots.length:Int)
   .rw [if_pos k] at h3;omega
   .omega
  .by_cases k:fitR l (movF b (-1)) q=true
   .exact k
   .rw [if_neg k] at h;omega
 .rw [holdC,if_neg hE] at h;exact absurd h hE
theorem yP {l:List Lim} {b:Bk} (hb:zG b=0) {q:Req} (h:holdC l b q=0):zG (holdB l b q)=0:=by
 obtain ⟨h1,h2,h3,_⟩:=yQ h
 obtain ⟨v1,v2,v3,v4,v5,v6⟩:=yao.1 hb
 rw [holdB,if_pos h]
 refine yao.2 ⟨by simp only [List.length_append,List.length_singleton];omega,λs hs=>?_,v3,v4,?_,v6⟩
 .rcases List.mem_append.1 hs with hs|hs
  .exact v2 s hs
  .rw [List.mem_singleton.1 hs];exact yak h1
 .have e:sNm (b.slots++[newS q])++wNm b.wait=sNm b.slots++q.name::wNm b.wait:=by simp [sNm,newS]
  simp only
  rw [e]
  exact (List.perm_middle.nodup_iff).2 (List.nodup_cons.2 ⟨h2,v5⟩)
theorem ybl {l:List Lim} {b:Bk} {c n:ByteArray} {m:Int} (h:rtC l b c n m=0):ownE b c n (rng m 0 1439)=0/\rng m 0 1439=0/\fitR l (movF b (zA b n)) (rtQ (zo b n).req m)=true:=by
 have h1:ownE b c n (rng m 0 1439)=0:=fE0 h _ (by simp)
 have h2:rtE l b n (zo b n) m=0:=fE0 h _ (by simp)
 have hat:=(za8 h1).1
 refine ⟨h1,own_e h1,?_⟩
 rw [rtE,(slot_found hat).2.1] at h2
 by_cases k:fitR l (movF b (zA b n)) (rtQ (zo b n).req m)=true
 .exact k
 .rw [if_neg k] at h2;omega
theorem ydv {q:Req} {m:Int} (h:chkQ q=0) (hm:rng m 0 1439=0):chkQ (rtQ q m)=0:=by
 obtain ⟨h1,h2,_⟩:=yx h
 refine zq.2 ⟨?_,zq.2 ⟨if_neg h2,rfl⟩⟩
 unfold chkRq at h1 ⊢
 simp only [zq] at h1 ⊢
 simp only [rtQ]
 simp only [h1,hm,true_and,and_true]
 exact h1.2.2.2.2.2.2.1
theorem ybZ {s:Slt} {m:Int} (h:chkSlt s=0) (hm:rng m 0 1439=0):chkSlt (rtS s m)=0:=by
 have c1:=fE0 h (chkQ s.req) (by simp)
 have c2:=fE0 h (zaH s.holder) (by simp)
 have c3:=fE0 h (if 8 < (s.ls.length:Int) then 5 else 0) (by simp)
 have c4:=fE0 h (zg (s.ls.mapIdx (leaErr s))) (by simp)
 have c5:=fE0 h (if 4 < (s.sh.length:Int) then 5 else 0) (by simp)
 have c6:=fE0 h (zg (s.sh.mapIdx (shaErr s))) (by simp)
 exact zq.2 ⟨ydv c1 hm,zq.2 ⟨c2,zq.2 ⟨c3,zq.2 ⟨c4,zq.2 ⟨c5,zq.2 ⟨c6,rfl⟩⟩⟩⟩⟩⟩
theorem ycE {l:List Lim} {b:Bk} (hb:zG b=0) {c n:ByteArray} {m:Int} (h:rtC l b c n m=0):zG (rtB l b c n m)=0:=by
 obtain ⟨h1,h2,_⟩:=ybl h
 rw [rtB,if_pos h]
 exact ya1 hb h1 rfl (ybZ (y7 hb h1) h2)
theorem yae {b:Bk} {c n:ByteArray} {d:Int} (h:bckC b c n d=0):ownE b c n (rng d 0 99999)=0/\rng d 0 99999=0/\d<=(zo b n).req.per.to:=by
 have h1:ownE b c n (rng d 0 99999)=0:=fE0 h _ (by simp)
 have h2:bckE (zo b n) d=0:=fE0 h _ (by simp)
 refine ⟨h1,own_e h1,?_⟩
 by_cases k:(zo b n).req.per.to < d
 .rw [bckE,if_pos k] at h2;omega
 .omega
theorem ycl {d:Int} {L:List Lea} {z:Lea} (h:z ∈ cutL d L) (hL:∀ x ∈ L,x.fro<=x.to):∃ x ∈ L,z=⟨x.carrier,x.fro,min x.to d⟩/\x.fro<=min x.to d:=by
 obtain ⟨x,hx,hz⟩:=List.mem_flatMap.1 h
 rw [cutI] at hz
 split at hz
 .rename_i q
  have:=hL x hx
  exact ⟨x,hx,List.mem_singleton.1 hz,by omega⟩
 .cases hz
theorem ydi {d:Int}:∀ {L:List Lea},(∀ x ∈ L,x.fro<=x.to)->L.Pairwise ydK->(cutL d L).Pairwise ydK
 | [],_,_=>List.Pairwise.nil
 | x::r,h,hp=>by
  obtain ⟨p1,p2⟩:=List.pairwise_cons.1 hp
  have ih:=ydi (d:=d) (λy hy=>h y (by simp [hy])) p2
  have e:cutL d (x::r)=cutI d x++cutL d r:=by simp [cutL]
  rw [e]
  refine List.pairwise_append.2 ⟨by unfold cutI;split<;>simp,ih,λa ha c hc=>?_⟩
  obtain ⟨y,hy,rfl,q⟩:=ycl hc (λy hy=>h y (by simp [hy]))
  have:=p1 y hy
  rw [cutI] at ha
  split at ha
  .rename_i q2
   have hx:=h x (by simp)
   rw [List.mem_singleton.1 ha]
   simp only [ydK,cutE] at this ⊢;omega
  .cases ha
theorem ybO {s:Slt} {d:Int} (h:chkSlt s=0) (hp:zau (bckP s.req.per d)=0) (hn:¬zY (bckP s.req.per d)=[]) (hd:d<=s.req.per.to):chkSlt (bckS s d)=0:=by
 have c1:=fE0 h (chkQ s.req) (by simp)
 have c2:=fE0 h (zaH s.holder) (by simp)
 have c3:=fE0 h (if 8 < (s.ls.length:Int) then 5 else 0) (by simp)
 have c5:=fE0 h (if 4 < (s.sh.length:Int) then 5 else 0) (by simp)
 have c6:=fE0 h (zg (s.sh.mapIdx (shaErr s))) (by simp)
 have h8:s.ls.length<=8:=by
  by_cases k:8 < (s.ls.length:Int)
  .rw [if_pos k] at c3;omega
  .omega
 have hq:chkQ { s.req with per:=bckP s.req.per d }=0:=by
  obtain ⟨h1,_⟩:=yx c1
  refine zq.2 ⟨?_,zq.2 ⟨if_neg hn,rfl⟩⟩
  unfold chkRq at h1 ⊢
  simp only [zq] at h1 ⊢
  simp only [h1,hp,true_and,and_true]
 have h0:chkSlt ⟨{ s.req with per:=bckP s.req.per d },s.holder,[],s.sh⟩=0:=
  zq.2 ⟨hq,zq.2 ⟨c2,zq.2 ⟨by simp,zq.2 ⟨by simp [zg],zq.2 ⟨c5,zq.2 ⟨c6,rfl⟩⟩⟩⟩⟩⟩
 have hle:∀ x ∈ s.ls,x.fro<=x.to:=λx hx=>yaK h hx
 refine ybU h0 (L:=cutL (d - 1) s.ls) (by have:=cutL_len (d - 1) s.ls;omega) (λz hz=>?_) (ydi hle (slt_pw h))
 obtain ⟨x,hx,rfl,q⟩:=ycl hz hle
 obtain ⟨i,hi⟩:=List.mem_iff_getElem?.1 hx
 have hE:=ya5 h hi
 obtain ⟨z1,z2⟩:=ydJ (t:=min x.to (d - 1)) (fE0 hE (chkLea x) (by simp)) (fE0 hE (leaOf s.raw x) (by simp)) (by omega) q
 refine ⟨z1,?_⟩
 have y1:=fE0 z2 (if x.fro < s.req.per.fro\/s.req.per.to < min x.to (d - 1) then 30 else 0) (by simp)
 have y2:=fE0 z2 (if x.carrier=s.holder then 31 else 0) (by simp)
 have y3:¬x.fro < s.req.per.fro:=λk=>by rw [if_pos (.inl k)] at y1;omega
 exact zq.2 ⟨if_neg (by dsimp only [bckP];omega),zq.2 ⟨y2,rfl⟩⟩
theorem ya3 {b:Bk} (hb:zG b=0) {c n:ByteArray} {d:Int} (h:bckC b c n d=0):zG (bckB b c n d)=0/\(bckB b c n d).slots.length<=b.slots.length:=by
 obtain ⟨h1,h2,h3⟩:=yae h
 have hv:=y7 hb h1
 have hp:=(chkReq_0 (ym hb (List.mem_of_getElem? (za8 h1).2.1))).1
 have hD:=yaG (b:=b) (n:=n) (d:=d) hp h3
 rw [<-yb1 hb,if_pos h,bkY]
 split
 .obtain ⟨v1,v2,v3,v4,v5,v6⟩:=yao.1 hb
  have hs:(b.slots.take (zA b n)++b.slots.drop (zA b n+1)).Sublist b.slots:=by
   conv=>rhs;rw [<-List.take_append_drop (zA b n) b.slots]
   exact (List.Sublist.refl _).append (List.drop_sublist_drop_left _ (Nat.le_succ _))
  refine ⟨yao.2 ⟨by have:=hs.length_le;simp only;omega,λs q=>v2 s (hs.subset q),v3,v4,?_,v6⟩,hs.length_le⟩
  exact List.Pairwise.sublist ((hs.map _).append (List.Sublist.refl _)) v5
 .rename_i k
  have hbk:bkS (zo b n) d=bckS (zo b n) d:=by rw [bkS,bckS,ycs (λx hx=>yaK hv hx)]
  rw [yac _ _ h3] at k
  obtain ⟨q1,q2⟩:=hD.2 (by rw [yac _ _ h3];exact k)
  rw [hbk]
  refine ⟨ya1 hb h1 rfl (ybO hv q1 k h3),by simp [chgB]⟩
theorem ycy {l:List Lim} {b:Bk}:∀ k,k<=b.wait.length->(srvK l b k).K.Sublist (b.wait.take k)/\((srvK l b k).Q.map (·.name)++wNm (srvK l b k).K).Perm (wNm (b.wait.take k)):=by
 intro k
 induction k with
 | zero=>intro _;exact ⟨by simp [srvK,srv0],by simp [srvK,srv0]⟩
 | succ k ih=>
  intro hk
  obtain ⟨i1,i2⟩:=ih (by omega)
  obtain ⟨w,hw⟩:=zn (i:=k) (l:=b.wait) (by omega)
  have hnx:=srvK_next (l:=l) hw
  rw [srvN] at hnx
  rw [zan hw]
  by_cases hno:srvNo l b.slots.length (srvK l b k) w
  .rw [if_pos hno] at hnx
   rw [hnx]
   refine ⟨i1.append (List.Sublist.refl _),?_⟩
   rw [wNm,wNm,List.map_append,List.map_append,<-List.append_assoc]
   exact i2.append_right _
  .rw [if_neg hno] at hnx
   rw [hnx]
   refine ⟨i1.trans (List.sublist_append_left _ _),?_⟩
   rw [wNm,wNm,List.map_append,List.map_append,List.append_assoc]
   refine (List.Perm.append_left _ List.perm_append_comm).trans ?_
   rw [<-List.append_assoc]
   exact i2.append_right _
theorem ybT {l:List Lim} {b:Bk} (h:zG b=0):zG (srvB l b)=0:=by
 obtain ⟨v1,v2,v3,v4,v5,v6⟩:=yao.1 h
 obtain ⟨p1,p2⟩:=ycy (l:=l) (b:=b) b.wait.length (Nat.le_refl _)
 obtain ⟨i1,_,i3⟩:=ya4 (l:=l) h b.wait.length (Nat.le_refl _)
 rw [List.take_length] at p1 p2
 refine yao.2 ⟨i3,λs hs=>?_,by have:=p1.length_le;simp only [srvB];omega,λw hw=>v4 w (p1.subset hw),?_,v6.sublist p1⟩
 .rcases List.mem_append.1 hs with hs|hs
  .exact v2 s hs
  .obtain ⟨r,hr,rfl⟩:=List.mem_map.1 hs
   obtain ⟨j,w,_,hj,rfl⟩:=i1 r hr
   exact yak (ybS h hj)
 .have e:sNm (srvB l b).slots++wNm (srvB l b).wait=sNm b.slots++((srvK l b b.wait.length).Q.map (·.name)++wNm (srvK l b b.wait.length).K):=by
   simp only [srvB,sNm,List.map_append,List.map_map,List.append_assoc]
   congr 2
  rw [e]
  exact ((p2.append_left _).nodup_iff).2 v5
