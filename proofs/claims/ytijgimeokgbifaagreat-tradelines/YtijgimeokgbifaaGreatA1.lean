/- Contracts of functions, for the claim. No conditions. -/
import Derived.Test.YtijgimeokgbifaaGreatRows
import Derived.Test.YtijgimeokgbifaaGreatA0
set_option linter.all false
set_option maxHeartbeats 8000000
set_option maxRecDepth 100000
namespace Go.Proofs.YtijgimeokgbifaaGreat
open Go.RowKit
theorem yI {α:Type} {f:Nat->α->Int} {l:List α} (h:zg (l.mapIdx f)=0) {i:Nat} {x:α} (hx:l[i]?=some x):f i x=0:=fE0 h _ (List.mem_of_getElem? (zH hx))
theorem yaj {b:Bk} (h:zF b=0) {i:Nat} {s:Slt} (hs:b.slots[i]?=some s):zeJ b i s=0:=
 yI (fE0 h (zg (b.slots.mapIdx (zeJ b))) (by simp)) hs
theorem yaH {b:Bk} (h:zF b=0) {i:Nat} {w:Wsh} (hs:b.wait[i]?=some w):zd5 b i w=0:=
 yI (fE0 h (zg (b.wait.mapIdx (zd5 b))) (by simp)) hs
theorem yai {b:Bk} (h:zF b=0) {s:Slt} (hs:s ∈ b.slots):zil s=0:=by
 obtain ⟨i,hi⟩:=List.mem_iff_getElem?.1 hs;exact fE0 (yaj h hi) _ (by simp)
theorem bk_q {b:Bk} (h:zF b=0) {s:Slt} (hs:s ∈ b.slots):zsa s.req=0:=fE0 (yai h hs) _ (by simp)
theorem ybF {b:Bk} (h:zF b=0) {s:Slt} (hs:s ∈ b.slots):zdC s.req=0:=yaG (bk_q h hs)
theorem ycl (L:List Req):rqW L (-1)=L:=by
 have key:∀ k,k<=L.length->rqK L (-1) k=L.take k:=by
  intro k
  induction k with
  | zero=>intro _;rfl
  | succ k ih=>
   intro hk;have h:=ih (by omega)
   rw [rqK] at h;have hx:L[k]?=some L[k]:=List.getElem?_eq_getElem (by omega)
   rw [rqK,List.range_succ,List.flatMap_append,h,zan hx,List.flatMap_cons,List.flatMap_nil,rqI,hx];simp only;rw [if_neg (by omega),List.append_nil]
 rw [rqW,key _ (Nat.le_refl _),List.take_length]
theorem ybv {r:Req} (h:zdC r=0):zad (zro r)=0/\(zro r).length<=401:=by
 have hp:=zaY (zeC h).1;have hl:(zro r).length<=401:=by
  have:=zcG r.per;simp only [zro,List.length_map];omega
 refine ⟨yas (by omega) (λx hx=>?_) ?_,hl⟩
 .obtain ⟨d,hd,rfl⟩:=ydD hx
  exact ya4 h hd
 .unfold zro
  refine (List.pairwise_map).2 ((ybd r.per).imp fun {a b} hab=>?_)
  simp only [zeh];omega
theorem yea {L:List Slt} (h:∀ s ∈ L,zdC s.req=0) (hn:L.length<=70):∀ k≤L.length,mvF ((L.map (·.req)).take k)=mvS (L.take k)/\zad (mvS (L.take k))=0/\(mvS (L.take k)).length<=401*k:=by
 intro k
 induction k with
 | zero=>intro _;exact ⟨rfl,rfl,Nat.zero_le _⟩
 | succ k ih=>
  intro hk;obtain ⟨e1,e2,e3⟩:=ih (by omega)
  have hx:L[k]?=some L[k]:=List.getElem?_eq_getElem (by omega)
  have hq:=h L[k] (List.getElem_mem _);obtain ⟨m1,m2⟩:=ybv hq;have hl:(mvS (L.take k)).length+(zro L[k].req).length<=30000:=by omega
  have hg:mgE (mvS (L.take k)) (zro L[k].req)=0:=zp.2 ⟨e2,zp.2 ⟨m1,zp.2 ⟨if_neg (by omega),rfl⟩⟩⟩
  obtain ⟨k1,k2⟩:=ydF (zaR e2).2.1 (zaR m1).2.1 hl;have hxr:(L.map (·.req))[k]?=some L[k].req:=by rw [List.getElem?_map,hx];rfl
  rw [zkC hxr,ydC hx,e1,zgR,if_pos hq,mgR,if_pos hg];exact ⟨rfl,k1,by rw [k2];omega⟩
theorem ye3 {b:Bk} (h:zF b=0):mvE b=mvS b.slots/\zad (mvS b.slots)=0/\(mvS b.slots).length<=401*b.slots.length:=by
 have hn:=zin h;have:=yea (λs hs=>ybF h hs) (by omega) b.slots.length (Nat.le_refl _)
 rw [List.take_length] at this;rw [mvE,if_pos h,ycl];have e:(b.slots.map (·.req)).take b.slots.length=b.slots.map (·.req):=List.take_of_length_le (by simp)
 rw [e] at this;exact this
theorem yef {n:ByteArray}:∀ {l:List ByteArray},¬atL n l < 0->l[(atL n l).toNat]?=some n
 | [],h=>absurd (show atL n [] < 0 by simp [atL]) h
 | x::r,h=>by
  simp only [atL] at h ⊢
  split
  .rename_i e;simp [e]
  .rename_i e
   rw [if_neg e] at h
   split
   .rename_i k;rw [if_pos k] at h;omega
   .rename_i k
    have h2:=yef (l:=r) k;have h3:(atL n r+1).toNat=(atL n r).toNat+1:=by omega
    rw [h3];simpa using h2
theorem ybK {b:Bk} {n:ByteArray} (h:¬atL n (b.slots.map (·.req.name)) < 0):(b.slots.map (·.req.name))[zx b n]?=some n:=yef h
theorem yc (n:ByteArray):∀ l:List ByteArray,0<=atL n l↔n ∈ l
 | []=>by simp [atL]
 | x::r=>by
  have ih:=yc n r;have:=zs8 n r;simp only [atL,List.mem_cons]
  by_cases h:x=n
  .rw [if_pos h];exact ⟨λ_=>.inl h.symm,λ_=>by omega⟩
  .rw [if_neg h]
   by_cases h2:atL n r < 0
   .rw [if_pos h2];exact ⟨λh3=>by omega,λh3=>h3.elim (λe=>absurd e.symm h) λe=>by have:=ih.2 e;omega⟩
   .rw [if_neg h2];exact ⟨λ_=>.inr (ih.1 (by omega)),λ_=>by omega⟩
theorem ydV {a b:Wsh}:ym a b=false↔zv4 b a<=0:=by
 rw [ym,zv4]
 rcases Int.lt_trichotomy a.rank b.rank with k|k|k
 .have e:zo0 b.rank a.rank=1:=by rw [zo0,if_neg (by omega),if_pos k]
  rw [e,za3 (by omega),decide_eq_true k,Bool.true_or]
  exact ⟨λh=>(by cases h),λh=>(by omega)⟩
 .have e:zo0 b.rank a.rank=0:=by rw [zo0,if_neg (by omega),if_neg (by omega)]
  have k1:¬a.rank < b.rank:=by omega
  rw [za4 e,zfk,decide_eq_false k1,decide_eq_true k,Bool.false_or,Bool.true_and]
  constructor
  .intro h
   by_cases q:a.req.name=b.req.name
   .rw [(zs2 _ _).2 q.symm];omega
   .have h2:Op.bytesLess b.req.name.toList a.req.name.toList=true:=by
     by_cases r:Op.bytesLess b.req.name.toList a.req.name.toList=true
     .exact r
     .exact absurd (zyv h (by simpa using r)) q
    have:=(zoZ _ _).2 h2;omega
  .intro h
   cases q:Op.bytesLess a.req.name.toList b.req.name.toList
   .rfl
   .exfalso
    rcases Int.lt_or_eq_of_le h with h|h
    .have h1:=(zoZ _ _).1 h
     rw [zjS _ _ q] at h1;cases h1
    .have h1:=(zs2 _ _).1 h
     rw [h1,zkH] at q;cases q
 .have e:zo0 b.rank a.rank=-1:=if_pos k
  have k1:¬a.rank < b.rank:=by omega
  have k2:¬a.rank=b.rank:=by omega
  rw [e,za3 (by omega),decide_eq_false k1,decide_eq_false k2,Bool.false_or,Bool.false_and]
  exact ⟨λ_=>by omega,λ_=>rfl⟩
open Go.RowKit Go.ChangeShapes Go.WideShapes Go.ChangeAt
theorem yaa {α:Type} {f:α->PV}:∀ {xs:List PV},(∀ x ∈ xs,∃ a,x=f a)->∃ L:List α,xs=L.map f
 | [],_=>⟨[],rfl⟩
 | x::r,h=>by
  obtain ⟨a,rfl⟩:=h x (by simp)
  obtain ⟨L,rfl⟩:=yaa (xs:=r) λy hy=>h y (by simp [hy])
  exact ⟨a::L,rfl⟩
theorem yep {n:Nat} {p:PV} (h:Fit (n+1) (.sl false [.s]) p):∃ L:List ByteArray,p=.sl 1 (L.map .s):=by
 obtain ⟨xs,rfl,hx⟩:=h;obtain ⟨L,rfl⟩:=yaa (f:=PV.s) (xs:=xs) λx h=>by
  obtain ⟨l,rfl,hf⟩:=hx x h
  match l,hf with
  | [_],⟨h1,_⟩=>
   cases n<;>(obtain ⟨a,rfl⟩:=h1;exact ⟨a,rfl⟩)
 exact ⟨L,rfl⟩
open Go.RowKit
section
variable {α:Type}
def inF (bf:α->α->Bool) (l:α) (q:Bool × List α) (x:α):Bool × List α:=if q.1=false/\bf l x=true then (true,q.2++[l]++[x]) else (q.1,q.2++[x])
def inK (bf:α->α->Bool) (l:α) (L:List α):Bool × List α:=L.foldl (inF bf l) (false,[])
def inR (bf:α->α->Bool) (l:α) (L:List α):List α:=if (inK bf l L).1=true then (inK bf l L).2 else (inK bf l L).2++[l]
end
def bfLe (l x:Lea):Bool:=decide (l.fro < x.fro)
theorem yco {α:Type} {R:α->α->Prop} (tr:∀ a b c,R a b->R b c->R a c):∀ {L:List α},(∀ i x y,L[i]?=some x->L[i+1]?=some y->R x y)->L.Pairwise R
 | [],_=>.nil
 | [x],_=>by simp
 | x::y::r,h=>by
  have ih:(y::r).Pairwise R:=yco tr λi a b h1 h2=>h (i+1) a b (by simpa using h1) (by simpa using h2)
  refine List.pairwise_cons.2 ⟨λz hz=>?_,ih⟩
  have hxy:=h 0 x y rfl rfl
  rcases List.mem_cons.1 hz with rfl|hz
  .exact hxy
  .exact tr _ _ _ hxy (List.rel_of_pairwise_cons ih hz)
def ya6 (a b:Lea):Prop:=a.fro<=a.to/\a.to < b.fro/\b.fro<=b.to
theorem yag {l:Lea} (h:zdD l=0):l.fro<=l.to:=by
 have:=fE0 h (if l.to < l.fro then 11 else 0) (by simp)
 by_cases k:l.to < l.fro
 .rw [if_pos k] at this;omega
 .omega
theorem y5 {s:Slt} (h:zil s=0) {i:Nat} {x:Lea} (hx:s.ls[i]?=some x):zcZ s i x=0:=yI (fE0 h (zg (s.ls.mapIdx (zcZ s))) (by simp)) hx
theorem y6 {s:Slt} (h:zil s=0) {x:Lea} (hx:x ∈ s.ls):x.fro<=x.to:=by
 obtain ⟨i,hi⟩:=List.mem_iff_getElem?.1 hx;exact yag (fE0 (y5 h hi) _ (by simp))
theorem yaN {s:Slt} (h:zil s=0):s.ls.Pairwise ya6:=by
 refine yco (λa b c h1 h2=>?_) λi x y hx hy=>?_
 .simp only [ya6] at *;omega
 .have h1:=y6 h (List.mem_of_getElem? hx)
  have h2:=y6 h (List.mem_of_getElem? hy);have:=fE0 (y5 h hy) (if 0 < ((i+1:Nat):Int)/\y.fro<=((s.ls[i+1 - 1]?).getD y).to then 15 else 0) (by simp)
  have e:(s.ls[i+1 - 1]?).getD y=x:=by rw [Nat.add_sub_cancel,hx];rfl
  rw [e] at this
  by_cases k:0 < ((i+1:Nat):Int)/\y.fro<=x.to
  .rw [if_pos k] at this;omega
  .exact ⟨h1,by omega,h2⟩
theorem yaY {α:Type} {p:α->Bool}:∀ {l:List α},(zcY p l < 0/\∀ x ∈ l,p x=false)\/∃ k x,zcY p l=(k:Nat)/\l[k]?=some x/\p x=true/\∀ y ∈ l.take k,p y=false
 | []=>.inl ⟨by simp [zcY],by simp⟩
 | x::r=>by
  by_cases h:p x=true
  .refine .inr ⟨0,x,?_,rfl,h,by simp⟩
   exact zdu (i:=0) (by simp) rfl h
  .have h':p x=false:=by simpa using h
   rcases yaY (p:=p) (l:=r) with ⟨h1,h2⟩|⟨k,y,h1,h2,h3,h4⟩
   .have ha:∀ y ∈ x::r,p y=false:=λy hy=>by
     rcases List.mem_cons.1 hy with rfl|hy
     .exact h'
     .exact h2 y hy
    exact .inl ⟨by rw [zdv ha];omega,ha⟩
   .refine .inr ⟨k+1,y,?_,by simpa using h2,h3,?_⟩
    .refine zdu (i:=k+1) (λz hz=>?_) (by simpa using h2) h3
     rw [List.take_succ_cons] at hz
     rcases List.mem_cons.1 hz with rfl|hz
     .exact h'
     .exact h4 z hz
    .intro z hz
     rw [List.take_succ_cons] at hz
     rcases List.mem_cons.1 hz with rfl|hz
     .exact h'
     .exact h4 z hz
theorem ycF {α:Type} {bef:α->α->Bool} {x:α} {A B:List α} (hA:∀ y ∈ A,bef x y=false) (hB:∀ y ∈ B,bef x y=true):zg4 bef (A++B) x=A++x::B:=by
 have hle:=yaW bef x (A++B) (A++B).length;have h1:zbA bef x (A++B) (A++B).length=A.length:=by
  generalize hn:zbA bef x (A++B) (A++B).length=n at hle
  rcases Nat.lt_trichotomy n A.length with h|h|h
  .obtain ⟨y,hy,hb⟩:=yaX bef x (A++B) (A++B).length n (by omega) (by rw [List.length_append];omega)
   rw [List.getElem?_append_left h] at hy;rw [hA y (List.mem_of_getElem? hy)] at hb;cases hb
  .exact h
  .obtain ⟨k,rfl⟩:∃ k,n=k+1:=⟨n - 1,by omega⟩
   rw [List.length_append] at hle;obtain ⟨y,hy⟩:=zm (i:=k - A.length) (l:=B) (by omega)
   have hy':(A++B)[k]?=some y:=by rw [List.getElem?_append_right (by omega)];exact hy
   have:=yac bef x (A++B) _ k y hn hy';rw [hB y (List.mem_of_getElem? hy)] at this;cases this
 rw [zg4,h1];simp
theorem ya8 {α:Type} {c:α->α->Int}:∀ (L out:List α),(out++L).Pairwise (λa b=>¬c b a < 0)->L.foldl (zg4 (zjT c)) out=out++L
 | [],out,_=>by simp
 | x::r,out,h=>by
  have hx:zg4 (zjT c) out x=out++[x]:=by
   have:=ycF (bef:=zjT c) (x:=x) (A:=out) (B:=[]) (λy hy=>decide_eq_false ((List.pairwise_append.1 h).2.2 y hy x (by simp))) (by simp)
   rwa [List.append_nil] at this
  rw [List.foldl_cons,hx,ya8 r (out++[x]) (by rw [List.append_assoc];exact h),List.append_assoc];rfl
theorem ybA {α:Type} (bf:α->α->Bool) (l:α):∀ (B:List α) (out:List α),B.foldl (inF bf l) (true,out)=(true,out++B)
 | [],out=>by simp
 | x::r,out=>by
  rw [List.foldl_cons,inF,if_neg (by simp),ybA bf l r];simp
theorem ybB {α:Type} (bf:α->α->Bool) (l:α):∀ (A:List α) (out:List α),(∀ y ∈ A,bf l y=false)->A.foldl (inF bf l) (false,out)=(false,out++A)
 | [],out,_=>by simp
 | x::r,out,h=>by
  rw [List.foldl_cons,inF,if_neg (λk=>by have:=h x (by simp);rw [this] at k;cases k.2),ybB bf l r _ (λy hy=>h y (by simp [hy]))];simp
theorem ybz {α:Type} {bf:α->α->Bool} {l:α} {A B:List α} (hA:∀ y ∈ A,bf l y=false) (hB:∀ y ∈ B,bf l y=true):inR bf l (A++B)=A++l::B:=by
 rw [inR,inK,List.foldl_append,ybB bf l A [] hA,List.nil_append];cases B with
 | nil=>simp
 | cons x r=>
  have e:inF bf l (false,A) x=(true,A++[l]++[x]):=if_pos ⟨rfl,hB x (by simp)⟩
  rw [List.foldl_cons,e,ybA];simp
theorem yaw {α:Type} {f:α->Int} {v:Int}:∀ {L:List α},L.Pairwise (λa b=>f a < f b)->∃ A B,L=A++B/\(∀ y ∈ A,¬v < f y)/\∀ y ∈ B,v < f y
 | [],_=>⟨[],[],rfl,by simp,by simp⟩
 | x::r,h=>by
  by_cases k:v < f x
  .exact ⟨[],x::r,rfl,by simp,λy hy=>by
    rcases List.mem_cons.1 hy with rfl|hy
    .exact k
    .have:=List.rel_of_pairwise_cons h hy;omega⟩
  .obtain ⟨A,B,rfl,h1,h2⟩:=yaw (v:=v) (List.pairwise_cons.1 h).2
   exact ⟨x::A,B,rfl,λy hy=>by
    rcases List.mem_cons.1 hy with rfl|hy
    .exact k
    .exact h1 y hy,h2⟩
theorem len_eq {s:Slt} (h:zil s=0) (l:Lea):inR bfLe l s.ls=lnL s l:=by
 have hp:s.ls.Pairwise (λa b=>a.fro < b.fro):=(yaN h).imp fun {a b} k=>by simp only [ya6] at k;omega
 obtain ⟨A,B,e,hA,hB⟩:=yaw (v:=l.fro) hp;have hc:∀ a b:Lea,zyd a b < 0↔a.fro < b.fro:=λa b=>by
  simp only [zyd,zo0];(repeat' split)<;>omega
 have hs:zbL zyd s.ls=s.ls:=by
  have:=ya8 (c:=zyd) s.ls [] (by rw [List.nil_append];exact hp.imp fun {a b} k=>by rw [hc];omega)
  rwa [List.nil_append] at this
 rw [lnL,zbL,List.foldl_append];rw [zbL] at hs;rw [hs,e,ybz (λy hy=>decide_eq_false (hA y hy)) (λy hy=>decide_eq_true (hB y hy))]
 exact (ycF (λy hy=>decide_eq_false (by rw [hc];exact hA y hy)) (λy hy=>decide_eq_true (by rw [hc];exact hB y hy))).symm
theorem yh {b:Bk} (h:zF b=0) {c n:ByteArray} {e:Int} (ho:zhm b c n e=0):zil (zn b n)=0:=yai h (List.mem_of_getElem? (za8 ho).2.1)
def ltI (d x:Int):List Int:=if x < d then [x] else []
def ltL (d:Int) (L:List Int):List Int:=L.flatMap (ltI d)
def bkI (d:Int) (l:Lea):List Lea:=if l.fro < d then [cutE (d - 1) l] else []
def bkL (d:Int) (L:List Lea):List Lea:=L.flatMap (bkI d)
def bkS (s:Slt) (d:Int):Slt:=⟨{ s.req with per:=zpq s.req.per d },s.holder,bkL d s.ls,s.sh⟩
def bkY (b:Bk) (n:ByteArray) (d:Int):Bk:=if ltL d (zW (zn b n).req.per)=[] then ⟨b.slots.take (zx b n)++b.slots.drop (zx b n+1),b.wait⟩ else zo1 b n (bkS (zn b n) d)
theorem yeJ (d:Int) (A B:List Int):ltL d (A++B)=ltL d A++ltL d B:=by simp [ltL]
theorem ybe (p:Per) (d:Int) (hd:d<=p.to):ltL d (zW p)=zW (zpq p d):=by
 have key:∀ N:Nat,ltL d ((List.range N).flatMap λ(k:Nat)=>if inM p.days ((p.fro+k+5) % 7) then [p.fro+k] else [])=(List.range (min N (d - p.fro).toNat)).flatMap λ(k:Nat)=>if inM p.days ((p.fro+k+5) % 7) then [p.fro+k] else []:=by
  intro N
  induction N with
  | zero=>simp [ltL]
  | succ N ih=>
   rw [List.range_succ,List.flatMap_append,yeJ,ih];simp only [List.flatMap_cons,List.flatMap_nil,List.append_nil]
   by_cases h:N < (d - p.fro).toNat
   .rw [Nat.min_eq_left (by omega),Nat.min_eq_left (by omega),List.range_succ,List.flatMap_append]
    simp only [List.flatMap_cons,List.flatMap_nil,List.append_nil]
    congr 1
    split
    .simp only [ltL,List.flatMap_cons,List.flatMap_nil,List.append_nil,ltI]
     rw [if_pos (by omega)]
    .rfl
   .rw [Nat.min_eq_right (by omega),Nat.min_eq_right (by omega)]
    have:ltL d (if inM p.days ((p.fro+(N:Int)+5) % 7) then [p.fro+(N:Int)] else [])=[]:=by
     split
     .simp only [ltL,List.flatMap_cons,List.flatMap_nil,List.append_nil,ltI]
      rw [if_neg (by omega)]
     .rfl
    rw [this,List.append_nil]
 unfold zW;rw [key];simp only [zpq]
 congr 2
 omega
theorem ycT {d:Int}:∀ {L:List Lea},(∀ x ∈ L,x.fro<=x.to)->bkL d L=zhh (d - 1) L
 | [],_=>rfl
 | x::r,h=>by
  have h1:=h x (by simp)
  have ih:bkL d r=zhh (d - 1) r:=ycT λy hy=>h y (by simp [hy])
  have e:bkI d x=zs1 (d - 1) x:=by
   rw [bkI,zs1]
   by_cases k:x.fro < d
   .rw [if_pos k,if_pos (by omega)]
   .rw [if_neg k,if_neg (by omega)]
  rw [bkL,zhh] at ih ⊢;rw [List.flatMap_cons,List.flatMap_cons,e,ih]
theorem ye5 {p:Per} {d:Int} (hp:zau p=0) (hd:d<=p.to) (hf:p.fro < d):zau (zpq p d)=0:=by
 have h:=zaY hp;unfold zau;simp only [zp,zdm,zg3 (show (11:Int)≠0 by decide),zg3 (show (4:Int)≠0 by decide),zpq]
 refine ⟨by omega,by omega,by omega,by omega,by omega,rfl⟩
theorem ybG {b:Bk} {n:ByteArray} {d:Int} (hp:zau (zn b n).req.per=0) (hd:d<=(zn b n).req.per.to):bckD b n d↔¬ltL d (zW (zn b n).req.per)=[]:=by
 rw [bckD,ybe _ _ hd]
 constructor
 .rintro ⟨h1,h2⟩ h3
  rw [zdg,if_pos h1,h3] at h2;exact h2 rfl
 .intro h
  have hf:(zn b n).req.per.fro < d:=by
   apply Classical.byContradiction;intro k
   apply h
   have e:(d - 1 - (zn b n).req.per.fro+1).toNat=0:=by omega
   unfold zW;simp only [zpq];rw [e];rfl
  have h1:=ye5 hp hd hf;refine ⟨h1,λk=>h ?_⟩
  rw [zdg,if_pos h1] at k;exact List.eq_nil_of_length_eq_zero k
theorem ref_bk {b:Bk} (h:zF b=0) (c n:ByteArray) (d:Int):(if zo8 b c n d=0 then bkY b n d else bk0)=zvN b c n d:=by
 rw [zvN]
 split
 .rename_i k
  have ho:zhm b c n (rng d 0 99999)=0:=fE0 k _ (by simp)
  have he:zsh (zn b n) d=0:=fE0 k _ (by simp)
  have hto:¬(zn b n).req.per.to < d:=λq=>by rw [zsh,if_pos q] at he;omega
  obtain ⟨h1,h2,h3,h4⟩:=za8 ho;have hp:=(zeC (ybF h (List.mem_of_getElem? h2))).1;have hD:=ybG (b:=b) (n:=n) (d:=d) hp (by omega)
  rw [bkY,zv5]
  by_cases hl:ltL d (zW (zn b n).req.per)=[]
  .rw [if_pos hl,if_neg (λq=>hD.1 q hl),zhj,zo1]
   simp only;rw [List.take_set_of_le (Nat.le_refl _),List.drop_set_of_lt (Nat.lt_succ_self _)]
  .rw [if_neg hl,if_pos (hD.2 hl),zhj]
   have:bkS (zn b n) d=zvM (zn b n) d:=by rw [bkS,zvM,ycT (λx hx=>y6 (yh h ho) hx)]
   rw [this]
 .rfl
theorem yeI {b:Bk} (h:zF b=0):movF b (-1)=mvS b.slots:=by
 have:=(ye3 h).1;rw [mvE,if_pos h] at this;exact this
theorem yer {b:Bk} (h:∀ s ∈ b.slots,zdC s.req=0) (hn:b.slots.length<=64):movF b (-1)=mvS b.slots/\zad (mvS b.slots)=0/\(mvS b.slots).length<=401*b.slots.length:=by
 have:=yea h (by omega) b.slots.length (Nat.le_refl _)
 rw [List.take_length] at this;have e:(b.slots.map (·.req)).take b.slots.length=b.slots.map (·.req):=List.take_of_length_le (by simp)
 rw [e] at this;rw [movF,ycl];exact this
structure Tmg where
 req:Req
 carrier:ByteArray
 slot:ByteArray
 day:Int
 minute:Int
abbrev Tmg.pv (x:Tmg):PV:=.agg [.s x.req.name,.s x.req.carrier,.s x.req.kind,.s x.req.term,.s x.req.partner,.s x.req.link,.i .i64 x.req.per.fro,.i .i64 x.req.per.to,.i .i64 x.req.per.days,.i .i64 x.req.minute,.i .i64 x.req.seats,.i .i64 x.req.size,.i .i64 x.req.noise,.s x.carrier,.s x.slot,.i .i64 x.day,.i .i64 x.minute]
open Go.RowKit Go.ChangeShapes Go.WideShapes Go.ChangeAt
def limT:List CP:=[.s,.s,.s,jT,jT,jT,jT,jT,jT,jT,jT]
theorem lim_of {l:List PV} (h:FitAll (Fit 5) limT l):∃ L:Lim,l=L.cells:=by
 match l,h with
 | [_,_,_,_,_,_,_,_,_,_,_],⟨⟨a,ha⟩,⟨b,hb⟩,⟨c,hc⟩,⟨d,hd⟩,⟨e,he⟩,⟨f,hf⟩,⟨g,hg⟩,⟨i,hi⟩,⟨j,hj⟩,⟨k,hk⟩,⟨m,hm⟩,_⟩=>
  subst ha hb hc hd he hf hg hi hj hk hm;exact ⟨⟨a,b,c,d,e,f,g,⟨i,j,k⟩,m⟩,rfl⟩
theorem par22:yd6 Tryz.prog 6 22=some (false,[.sl true limT]):=by kernel_rfl
theorem und22:Tryz.prog.underlying 22=some (.slice 109):=by kernel_rfl
theorem byt46:Tryz.prog.bytesOf 109=112:=by kernel_rfl
theorem ydL {p:PV} (h:yak Tryz.prog 6 22 p):∃ L:List Lim,p=.sl 11 (L.map Lim.pv)/\L.length*112<=140737488355328:=by
 obtain ⟨⟨ag,c,l,hp,rfl,hl⟩,hb⟩:=h;rw [par22] at hp;simp only [Option.some.injEq,Prod.mk.injEq] at hp;obtain ⟨rfl,rfl⟩:=hp
 match l,hl with
 | [q],⟨⟨xs,hq,hx⟩,_⟩=>
  subst hq;obtain ⟨L,rfl⟩:=yaa (f:=Lim.pv) (xs:=xs) λx h=>by
   obtain ⟨l,rfl,hf⟩:=hx x h;obtain ⟨L,rfl⟩:=lim_of hf;exact ⟨L,rfl⟩
  refine ⟨L,rfl,?_⟩;have:=hb 109 _ _ und22 rfl;rw [byt46,List.length_map] at this;unfold reachBytes at this;omega
open Go.RowKit
theorem fE_of:∀ {l:List Int},(∀ x ∈ l,x=0)->zg l=0
 | [],_=>rfl
 | x::r,h=>zp.2 ⟨h x (by simp),fE_of λy hy=>h y (by simp [hy])⟩
theorem yb {α:Type} {f:Nat->α->Int} {l:List α} (h:∀ i x,l[i]?=some x->f i x=0):zg (l.mapIdx f)=0:=fE_of λy hy=>by
 obtain ⟨i,hi⟩:=List.mem_iff_getElem?.1 hy;rw [List.getElem?_mapIdx] at hi;cases hx:l[i]? with
 | none=>rw [hx] at hi;cases hi
 | some x=>
  rw [hx] at hi;have e:f i x=y:=Option.some.inj hi;rw [<-e];exact h i x hx
theorem ycf {b:Bk} (h:zF b=0) {i:Nat} {s s':Slt} (hs:b.slots[i]?=some s) (hn:s'.req.name=s.req.name) (hv:zil s'=0):zF ⟨b.slots.set i s',b.wait⟩=0:=by
 have hnm:(b.slots.set i s').map (·.req.name)=b.slots.map (·.req.name):=zn0 _ _ _ _ hs hn;have hT:∀ k,((b.slots.set i s').take k).map (·.req.name)=(b.slots.take k).map (·.req.name):=λk=>by rw [List.map_take,hnm,List.map_take]
 have e3:zd5 ⟨b.slots.set i s',b.wait⟩=zd5 b:=by funext k w;simp only [zd5,hnm]
 have e4:zg ((b.slots.set i s').mapIdx (zeJ ⟨b.slots.set i s',b.wait⟩))=0:=by
  refine yb λk x hx=>?_
  by_cases hk:i=k
  .subst hk
   have hlt:=(List.getElem?_eq_some_iff.1 hs).1;rw [List.getElem?_set_self hlt] at hx;have ex:s'=x:=Option.some.inj hx;subst ex;have h1:=yaj h hs;have h2:=fE0 h1 (if 0<=atL s.req.name ((b.slots.take i).map (·.req.name)) then 9 else 0) (by simp)
   refine zp.2 ⟨hv,zp.2 ⟨?_,rfl⟩⟩;rw [hn];simp only [hT];exact h2
  .rw [List.getElem?_set_ne hk] at hx
   have h1:=yaj h hx;rw [zeJ] at h1 ⊢;simp only [hT];exact h1
 have c1:=fE0 h (if 64 < (b.slots.length:Int) then 5 else 0) (by simp)
 have c3:=fE0 h (if 64 < (b.wait.length:Int) then 5 else 0) (by simp)
 have c4:=fE0 h (zg (b.wait.mapIdx (zd5 b))) (by simp)
 refine zp.2 ⟨?_,zp.2 ⟨e4,zp.2 ⟨c3,zp.2 ⟨?_,rfl⟩⟩⟩⟩
 .simp only [List.length_set];exact c1
 .rw [e3];exact c4
theorem yah {b:Bk} (h:zF b=0) {c n:ByteArray} {e:Int} (ho:zhm b c n e=0) {s':Slt} (hn:s'.req.name=(zn b n).req.name) (hv:zil s'=0):zF (zo1 b n s')=0:=ycf h (za8 ho).2.1 hn hv
theorem y4 {s:Slt} (h:zil s=0) {L:List Lea} (hl:L.length<=8) (h1:∀ x ∈ L,zdD x=0/\zfI s.raw x=0) (hp:L.Pairwise ya6):zil ⟨s.req,s.holder,L,s.sh⟩=0:=by
 have c1:=fE0 h (zsa s.req) (by simp)
 have c2:=fE0 h (zaH s.holder) (by simp)
 have c5:=fE0 h (if 4 < (s.sh.length:Int) then 5 else 0) (by simp)
 have c6:=fE0 h (zg (s.sh.mapIdx (zhA s))) (by simp)
 refine zp.2 ⟨c1,zp.2 ⟨c2,zp.2 ⟨if_neg (show ¬(8:Int) < (L.length:Int) by omega),zp.2 ⟨?_,zp.2 ⟨c5,zp.2 ⟨c6,rfl⟩⟩⟩⟩⟩⟩
 refine yb λi x hx=>?_
 obtain ⟨a1,a2⟩:=h1 x (List.mem_of_getElem? hx);refine zp.2 ⟨a1,zp.2 ⟨a2,zp.2 ⟨?_,rfl⟩⟩⟩;refine if_neg λk=>?_
 obtain ⟨k1,k2⟩:=k;obtain ⟨j,rfl⟩:∃ j,i=j+1:=⟨i - 1,by omega⟩
 have hx':L[j+1]?=some x:=hx;obtain ⟨hi,hxi⟩:=List.getElem?_eq_some_iff.1 hx';have hj:L[j+1 - 1]?=some L[j]:=by rw [Nat.add_sub_cancel];exact List.getElem?_eq_getElem (by omega)
 have k2':x.fro<=((L[j+1 - 1]?).getD x).to:=k2;rw [hj] at k2';have hlt:=List.pairwise_iff_getElem.1 hp j (j+1) (by omega) hi (by omega)
 rw [hxi] at hlt;simp only [ya6] at hlt;have k3:x.fro<=(L[j]).to:=k2'
 omega
theorem ycB {s:Slt} (h:zil s=0) (l:Lea):∃ A B,s.ls=A++B/\lnL s l=A++l::B/\(∀ y ∈ A,y.fro<=l.fro)/\∀ y ∈ B,l.fro < y.fro:=by
 have hp:s.ls.Pairwise (λa b=>a.fro < b.fro):=(yaN h).imp fun {a b} k=>by simp only [ya6] at k;omega
 obtain ⟨A,B,e,hA,hB⟩:=yaw (v:=l.fro) hp;refine ⟨A,B,e,?_,λy hy=>by have:=hA y hy;omega,hB⟩
 rw [<-len_eq h,e,ybz (λy hy=>decide_eq_false (hA y hy)) (λy hy=>decide_eq_true (hB y hy))]
theorem ydH {s:Slt} (h:zil s=0) {l:Lea} (hl:zdD l=0) (he:lnE s l=0):∃ A B,s.ls=A++B/\lnL s l=A++l::B/\(∀ y ∈ A,ya6 y l)/\(∀ y ∈ B,ya6 l y)/\zfI s.raw l=0/\s.ls.length < 8:=by
 obtain ⟨A,B,e,e2,hA,hB⟩:=ycB h l;have h1:=fE0 he (zfI s.raw l) (by simp)
 have h2:=fE0 he (if meetL s l=true then 15 else 0) (by simp)
 have h3:=fE0 he (if 8<=(s.ls.length:Int) then 5 else 0) (by simp)
 have hm:∀ y ∈ s.ls,¬(y.fro<=l.to/\l.fro<=y.to):=λy hy k=>by
  have:meetL s l=true:=by rw [meetL,List.any_eq_true];exact ⟨y,hy,by simp [ze1,k.1,k.2]⟩
  rw [if_pos this] at h2;omega
 have h8:s.ls.length < 8:=by
  by_cases k:8<=(s.ls.length:Int)
  .rw [if_pos k] at h3;omega
  .omega
 have hll:=yag hl;refine ⟨A,B,e,e2,λy hy=>?_,λy hy=>?_,h1,h8⟩
 .have hy':y ∈ s.ls:=by rw [e];exact List.mem_append_left _ hy
  have a1:=hA y hy;have a2:=hm y hy';have a3:=y6 h hy';simp only [ya6];omega
 .have hy':y ∈ s.ls:=by rw [e];exact List.mem_append_right _ hy
  have a1:=hB y hy;have a2:=hm y hy';have a3:=y6 h hy';simp only [ya6];omega
theorem ycA {s:Slt} (h:zil s=0) {l:Lea} (hl:zdD l=0) (he:lnE s l=0):zil (lnS s l)=0:=by
 obtain ⟨A,B,e,e2,hA,hB,h1,h8⟩:=ydH h hl he;have hle:∀ x ∈ s.ls,zdD x=0/\zfI s.raw x=0:=λx hx=>by
  obtain ⟨i,hi⟩:=List.mem_iff_getElem?.1 hx;have:=y5 h hi;exact ⟨fE0 this _ (by simp),fE0 this _ (by simp)⟩
 refine y4 h (L:=lnL s l) (by rw [zn9];omega) (λx hx=>?_) ?_
 .rw [e2] at hx
  rcases List.mem_append.1 hx with hx|hx
  .exact hle x (by rw [e];exact List.mem_append_left _ hx)
  .rcases List.mem_cons.1 hx with rfl|hx
   .exact ⟨hl,h1⟩
   .exact hle x (by rw [e];exact List.mem_append_right _ hx)
 .have hp:=yaN h
  rw [e] at hp;obtain ⟨p1,p2,p3⟩:=List.pairwise_append.1 hp;rw [e2];refine List.pairwise_append.2 ⟨p1,List.pairwise_cons.2 ⟨hB,p2⟩,λx hx y hy=>?_⟩
  rcases List.mem_cons.1 hy with rfl|hy
  .exact hA x hx
  .exact p3 x hx y hy
theorem ydG {b:Bk} {c n:ByteArray} {l:Lea} (h:lnC b c n l=0):zhm b c n (zdD l)=0/\zdD l=0/\lnE (zn b n) l=0:=by
 have h1:zhm b c n (zdD l)=0:=fE0 h _ (by simp)
 exact ⟨h1,zuv h1,fE0 h _ (by simp)⟩
theorem yax {b:Bk} (h:zF b=0) {i:Nat} {s:Slt} (hs:b.slots[i]?=some s):atL s.req.name (b.slots.map (·.req.name))=i:=by
 rw [<-zg5 (λx:Slt=>x.req.name)]
 refine zdu (λy hy=>decide_eq_false λe=>?_) hs (decide_eq_true rfl)
 have h1:=fE0 (yaj h hs) (if 0<=atL s.req.name ((b.slots.take i).map (·.req.name)) then 9 else 0) (by simp)
 have:0<=atL s.req.name ((b.slots.take i).map (·.req.name)):=(yc _ _).2 (List.mem_map.2 ⟨y,hy,e⟩);rw [if_pos this] at h1;omega
theorem ya9 {b:Bk} (h:zF b=0) {i:Nat} {s:Slt} (hs:b.slots[i]?=some s):zx b s.req.name=i/\zn b s.req.name=s/\¬atL s.req.name (b.slots.map (·.req.name)) < 0:=by
 have e:=yax h hs;have e1:zx b s.req.name=i:=by rw [zx,e];rfl
 refine ⟨e1,?_,by rw [e];omega⟩
 rw [zn,e,Int.toNat_natCast,hs];rfl
theorem ybl {α:Type} {L:List α} {i:Nat} {x:α} (h:L[i]?=some x):L.set i x=L:=by
 apply List.ext_getElem?
 intro k
 by_cases e:i=k
 .subst e
  rw [List.getElem?_set_self (List.getElem?_eq_some_iff.1 h).1,h]
 .rw [List.getElem?_set_ne e]
theorem ycy {b:Bk} (h:zF b=0) {f:Slt->Slt} (hn:∀ s,(f s).req.name=s.req.name) (hv:∀ s ∈ b.slots,zil (f s)=0):zF ⟨b.slots.map f,b.wait⟩=0:=by
 have hnm:(b.slots.map f).map (·.req.name)=b.slots.map (·.req.name):=by rw [List.map_map];congr 1;funext s;exact hn s
 have hT:∀ k,((b.slots.map f).take k).map (·.req.name)=(b.slots.take k).map (·.req.name):=λk=>by rw [List.map_take,hnm,List.map_take]
 have e3:zd5 ⟨b.slots.map f,b.wait⟩=zd5 b:=by funext k w;simp only [zd5,hnm]
 have e4:zg ((b.slots.map f).mapIdx (zeJ ⟨b.slots.map f,b.wait⟩))=0:=by
  refine yb λk x hx=>?_
  rw [List.getElem?_map] at hx;cases hs:b.slots[k]? with
  | none=>rw [hs] at hx;cases hx
  | some s=>
   rw [hs] at hx;have ex:f s=x:=Option.some.inj hx;subst ex;have h2:=fE0 (yaj h hs) (if 0<=atL s.req.name ((b.slots.take k).map (·.req.name)) then 9 else 0) (by simp)
   refine zp.2 ⟨hv s (List.mem_of_getElem? hs),zp.2 ⟨?_,rfl⟩⟩;rw [hn];simp only [hT];exact h2
 have c1:=fE0 h (if 64 < (b.slots.length:Int) then 5 else 0) (by simp)
 have c3:=fE0 h (if 64 < (b.wait.length:Int) then 5 else 0) (by simp)
 have c4:=fE0 h (zg (b.wait.mapIdx (zd5 b))) (by simp)
 refine zp.2 ⟨?_,zp.2 ⟨e4,zp.2 ⟨c3,zp.2 ⟨?_,rfl⟩⟩⟩⟩
 .simp only [List.length_map];exact c1
 .rw [e3];exact c4
theorem ybj {s:Slt} (h:zil s=0) (hl:s.ls=[]) {c:ByteArray} (hc:zaH c=0):zil ⟨s.req,c,s.ls,[]⟩=0:=by
 have c1:=fE0 h (zsa s.req) (by simp)
 rw [hl];exact zp.2 ⟨c1,zp.2 ⟨hc,zp.2 ⟨by simp,zp.2 ⟨by simp [zg],zp.2 ⟨by simp,zp.2 ⟨by simp [zg],rfl⟩⟩⟩⟩⟩⟩
instance decMem (n:ByteArray) (N:List ByteArray):Decidable (n ∈ N):=decidable_of_iff _ (yc n N)
def NoD (L:List ByteArray):Prop:=∀ (i j:Nat) (x:ByteArray),L[i]?=some x->L[j]?=some x->i=j
theorem yd9 {H:List ByteArray} {f:Nat->ByteArray->Int} (hf:∀ i x,f i x=0->¬0<=atL x (H.take i)) (h:zg (H.mapIdx f)=0):NoD H:=by
 have key:∀ i j x,i < j->H[i]?=some x->H[j]?=some x->False:=λi j x hij hi hj=>by
  have h1:=hf j x (yI h hj);refine h1 ((yc _ _).2 (List.mem_of_getElem? (i:=i) ?_));rw [List.getElem?_take_of_lt hij];exact hi
 intro i j x hi hj
 rcases Nat.lt_trichotomy i j with k|k|k
 .exact (key i j x k hi hj).elim
 .exact k
 .exact (key j i x k hj hi).elim
theorem ycw {H:List ByteArray} (h:NoD H) {i:Nat} {x:ByteArray} (hx:H[i]?=some x):¬0<=atL x (H.take i):=λk=>by
 obtain ⟨j,hj⟩:=List.mem_iff_getElem?.1 ((yc _ _).1 k);have hlt:j < (H.take i).length:=(List.getElem?_eq_some_iff.1 hj).1;rw [List.length_take] at hlt;rw [List.getElem?_take_of_lt (by omega)] at hj
 have:=h j i x hj hx
 omega
theorem yeF {H:List ByteArray} (h:NoD H) {i:Nat} {x:ByteArray} (hx:H[i]?=some x):atL x H=i:=by
 have:=zg5 (λy:ByteArray=>y) x H
 rw [List.map_id'] at this;rw [<-this];refine zdu (λy hy=>decide_eq_false λe=>?_) hx (decide_eq_true rfl)
 have e':y=x:=e;rw [e'] at hy;exact ycw h hx ((yc _ _).2 hy)
def idxN (N:List ByteArray) (n:ByteArray):Nat:=(atL n N).toNat
theorem ycG {N:List ByteArray} (h:NoD N) {i:Nat} {x:ByteArray} (hx:N[i]?=some x):idxN N x=i:=by rw [idxN,yeF h hx];rfl
theorem yd8 {N:List ByteArray} {i:Nat} {x:ByteArray} (hx:N[i]?=some x):nth N i=x:=by rw [nth,hx];rfl
def yX (N:List ByteArray) (g:ByteArray->ByteArray) (s:Slt):Slt:=if s.req.name ∈ N then ⟨s.req,g s.req.name,s.ls,[]⟩ else s
def yR (b:Bk) (N:List ByteArray) (g:ByteArray->ByteArray):Bk:=⟨b.slots.map (yX N g),b.wait⟩
theorem yK (N:List ByteArray) (g:ByteArray->ByteArray) (s:Slt):(yX N g s).req=s.req:=by rw [yX];split<;>rfl
theorem ycI (N:List ByteArray) (g:ByteArray->ByteArray) (s:Slt):(yX N g s).ls=s.ls:=by rw [yX];split<;>rfl
theorem yQ (b:Bk) (N:List ByteArray) (g:ByteArray->ByteArray):(yR b N g).slots.map (·.req.name)=b.slots.map (·.req.name):=by
 rw [yR,List.map_map];congr 1;funext s;exact congrArg (·.name) (yK N g s)
theorem ya1 {b:Bk} {N:List ByteArray} {g:ByteArray->ByteArray} {n:ByteArray} (hat:¬atL n (b.slots.map (·.req.name)) < 0):zx (yR b N g) n=zx b n/\zn (yR b N g) n=yX N g (zn b n):=by
 obtain ⟨h1,h2,h3⟩:=zcJ hat;refine ⟨by rw [zx,yQ,zx],?_⟩
 rw [zn,yQ];have:(atL n (b.slots.map (·.req.name))).toNat=zx b n:=rfl;rw [this,yR];simp only;rw [List.getElem?_map,h1];rfl
theorem yt {b:Bk} {n:ByteArray} (hat:¬atL n (b.slots.map (·.req.name)) < 0):(zn b n).req.name=n:=by
 have h:=ybK hat;rw [List.getElem?_map,(zcJ hat).1] at h;exact Option.some.inj h
theorem yaB {b:Bk} (h:zF b=0) {N:List ByteArray} (hN:NoD N) (hk:∀ n ∈ N,¬atL n (b.slots.map (·.req.name)) < 0):∀ k,k<=N.length->zrb b N k=b.slots.map λs=>if s.req.name ∈ N.take k then trS s (nth (zeU b N) ((idxN N s.req.name+N.length - 1) % N.length)) else s
 | 0,_=>by simp [zrb]
 | k+1,hlt=>by
  rw [zrb,yaB h hN hk k (by omega)]
  obtain ⟨x,hx⟩:=zm (i:=k) (l:=N) (by omega)
  have hnx:=yd8 hx;have hkx:=hk x (List.mem_of_getElem? hx);obtain ⟨f1,f2,f3⟩:=zcJ hkx;rw [hnx]
  apply List.ext_getElem?
  intro j
  by_cases e:zx b x=j
  .subst e
   rw [List.getElem?_set_self (by rw [List.length_map];exact f3),List.getElem?_map,f1]
   have hm:(zn b x).req.name ∈ N.take (k+1):=by rw [yt hkx,zan hx];simp
   simp only [Option.map_some];rw [if_pos hm,yt hkx,ycG hN hx]
  .rw [List.getElem?_set_ne e,List.getElem?_map,List.getElem?_map]
   cases hs:b.slots[j]? with
   | none=>rfl
   | some s=>
    have hne:s.req.name≠x:=λq=>e (by rw [<-q];exact (ya9 h hs).1)
    simp only [Option.map_some]
    by_cases q:s.req.name ∈ N.take k
    .rw [if_pos q,if_pos (by rw [zan hx];exact List.mem_append_left _ q)]
    .rw [if_neg q,if_neg λq2=>by
      rw [zan hx] at q2
      rcases List.mem_append.1 q2 with q2|q2
      .exact q q2
      .exact hne (List.mem_singleton.1 q2)]
def yO (N:List ByteArray) (g:ByteArray->ByteArray) (n:ByteArray):ByteArray:=nth (N.map g) ((idxN N n+N.length - 1) % N.length)
theorem ycH (N M:List ByteArray) (hm:∀ n,n ∈ M↔n ∈ N) (g g':ByteArray->ByteArray) (s:Slt):(if (yX N g s).req.name ∈ M then trS (yX N g s) (g' (yX N g s).req.name) else yX N g s)=yX N g' s:=by
 rw [yK]
 by_cases k:s.req.name ∈ N
 .rw [if_pos ((hm _).2 k),trS,yK,ycI,yX,if_pos k]
 .rw [if_neg λq=>k ((hm _).1 q),yX,yX,if_neg k,if_neg k]
theorem ydK (N:List ByteArray) (g:ByteArray->ByteArray) (s:Slt):(if s.req.name ∈ N then trS s (g s.req.name) else s)=yX N g s:=by rw [yX,trS]
structure yd0 (b:Bk) (N:List ByteArray) (g:ByteArray->ByteArray):Prop where
 n:NoD N
 k:∀ n ∈ N,¬atL n (b.slots.map (·.req.name)) < 0
 l:∀ n ∈ N,(zn b n).ls=[]
 h:NoD (N.map g)
 e:∀ n ∈ N,zaH (g n)=0
theorem yaZ {b:Bk} (h:zF b=0) {N:List ByteArray} {g:ByteArray->ByteArray} (hr:yd0 b N g):zF (yR b N g)=0:=by
 refine ycy h (f:=yX N g) (λs=>congrArg (·.name) (yK N g s)) λs hs=>?_
 rw [yX];split
 .rename_i k
  obtain ⟨i,hi⟩:=List.mem_iff_getElem?.1 hs;have hl:=hr.l _ k;rw [(ya9 h hi).2.1] at hl;exact ybj (yai h hs) hl (hr.e _ k)
 .exact yai h hs
theorem ya0 {b:Bk} {N M:List ByteArray} {g:ByteArray->ByteArray} (hk:∀ n ∈ M,¬atL n (b.slots.map (·.req.name)) < 0):∀ n ∈ M,¬atL n ((yR b N g).slots.map (·.req.name)) < 0:=λn hn=>by rw [yQ];exact hk n hn
theorem hld_H {b:Bk} {N M:List ByteArray} {g:ByteArray->ByteArray} (hm:∀ n,n ∈ M↔n ∈ N) (hk:∀ n ∈ N,¬atL n (b.slots.map (·.req.name)) < 0):zeU (yR b N g) M=M.map g:=by
 rw [zeU,List.map_map];refine List.map_congr_left λn hn=>?_
 have hn':=(hm n).1 hn;simp only [Function.comp];rw [(ya1 (hk n hn')).2,yX,yt (hk n hn'),if_pos hn']
theorem ycu {b:Bk} {N:List ByteArray} (hl:∀ n ∈ N,(zn b n).ls=[]):zku b N=false:=by
 rw [zku,List.any_eq_false];intro s hs;obtain ⟨n,hn,rfl⟩:=List.mem_map.1 hs;rw [hl n hn];simp
theorem yeB {b:Bk} {N:List ByteArray} (hl:∀ n ∈ N,(zn b n).ls=[]) (hH:NoD (zeU b N)):zeg b N=0:=by
 rw [zeg];refine zp.2 ⟨by rw [ycu hl];rfl,zp.2 ⟨?_,rfl⟩⟩
 exact yb λi x hx=>if_neg (ycw hH hx)
theorem ydz {b:Bk} {N:List ByteArray} (h:zeg b N=0):(∀ n ∈ N,(zn b n).ls=[])/\NoD (zeU b N):=by
 have h1:=fE0 h (if zku b N=true then 19 else 0) (by simp)
 have h2:=fE0 h (zg ((zeU b N).mapIdx (zsY (zeU b N)))) (by simp)
 refine ⟨λn hn=>?_,yd9 (λi x hx q=>by rw [zsY,if_pos q] at hx;omega) h2⟩
 by_cases k:zku b N=true
 .rw [if_pos k] at h1;omega
 .have k':zku b N=false:=by simpa using k
  rw [zku,List.any_eq_false] at k';have:=k' _ (List.mem_map.2 ⟨n,hn,rfl⟩);have h3:¬0 < ((zn b n).ls.length:Int):=λq=>this (decide_eq_true q)
  exact List.eq_nil_of_length_eq_zero (by omega)
theorem hld_ls {b:Bk} {N M:List ByteArray} {g:ByteArray->ByteArray} (hm:∀ n,n ∈ M↔n ∈ N) (hk:∀ n ∈ N,¬atL n (b.slots.map (·.req.name)) < 0) (hl:∀ n ∈ N,(zn b n).ls=[]):∀ n ∈ M,(zn (yR b N g) n).ls=[]:=λn hn=>by
 have hn':=(hm n).1 hn;rw [(ya1 (hk n hn')).2,ycI];exact hl n hn'
theorem ybT {b:Bk} (h:zF b=0) {N M:List ByteArray} {g:ByteArray->ByteArray} (hr:yd0 b N g) (hM:NoD M) (hm:∀ n,n ∈ M↔n ∈ N) (hMg:NoD (M.map g)):zeg (yR b N g) M=0/\zlL (yR b N g) M=yR b N (yO M g):=by
 have hH:zeU (yR b N g) M=M.map g:=hld_H hm hr.k;have hE:zeg (yR b N g) M=0:=yeB (hld_ls hm hr.k hr.l) (by rw [hH];exact hMg)
 refine ⟨hE,?_⟩;rw [zlL,if_pos hE,yaB (yaZ h hr) hM (ya0 λn hn=>hr.k n ((hm n).1 hn)) _ (Nat.le_refl _),List.take_length,hH]
 have e1:(yR b N g).slots=b.slots.map (yX N g):=rfl;have e2:(yR b N g).wait=b.wait:=rfl;rw [e1,e2,List.map_map,yR]
 congr 2
 funext s
 exact ycH N M hm g (yO M g) s
theorem ybS {b:Bk} (h:zF b=0) {N:List ByteArray} (hN:NoD N) (hk:∀ n ∈ N,¬atL n (b.slots.map (·.req.name)) < 0) (hE:zeg b N=0):zlL b N=yR b N (yO N λn=>(zn b n).holder):=by
 have hH:zeU b N=N.map λn=>(zn b n).holder:=by rw [zeU,List.map_map];rfl
 rw [zlL,if_pos hE,yaB h hN hk _ (Nat.le_refl _),List.take_length,hH,yR]
 congr 2
 all_goals (funext s;exact ydK N (yO N λn=>(zn b n).holder) s)
theorem yZ {i n:Nat} (h:i < n):(i+n - 1) % n=if i=0 then n - 1 else i - 1:=by
 split
 .rename_i k;subst k
  rw [Nat.zero_add];exact Nat.mod_eq_of_lt (by omega)
 .rename_i k
  rw [show i+n - 1=(i - 1)+n by omega,Nat.add_mod_right]
  exact Nat.mod_eq_of_lt (by omega)
theorem yG {N:List ByteArray} (hN:NoD N) {g:ByteArray->ByteArray} {i:Nat} {x:ByteArray} (hx:N[i]?=some x):∃ y,N[(i+N.length - 1) % N.length]?=some y/\yO N g x=g y:=by
 have hi:=(List.getElem?_eq_some_iff.1 hx).1;obtain ⟨y,hy⟩:=zm (i:=(i+N.length - 1) % N.length) (l:=N) (Nat.mod_lt _ (by omega))
 refine ⟨y,hy,?_⟩;rw [yO,ycG hN hx];exact yd8 (by rw [List.getElem?_map,hy];rfl)
theorem yaP {N:List ByteArray} (hN:NoD N) {g:ByteArray->ByteArray} (hg:NoD (N.map g)):NoD (N.map (yO N g)):=by
 intro i j x hi hj;rw [List.getElem?_map] at hi hj;cases hni:N[i]? with
 | none=>rw [hni] at hi;cases hi
 | some a=>
  cases hnj:N[j]? with
  | none=>rw [hnj] at hj;cases hj
  | some c=>
   rw [hni] at hi;rw [hnj] at hj;have e1:yO N g a=x:=Option.some.inj hi;have e2:yO N g c=x:=Option.some.inj hj;obtain ⟨y,hy,h1⟩:=yG hN (g:=g) hni;obtain ⟨z,hz,h2⟩:=yG hN (g:=g) hnj;have li:=(List.getElem?_eq_some_iff.1 hni).1;have lj:=(List.getElem?_eq_some_iff.1 hnj).1;have:=hg _ _ x (by rw [List.getElem?_map,hy];simp only [Option.map_some];rw [<-h1,e1]) (by rw [List.getElem?_map,hz];simp only [Option.map_some];rw [<-h2,e2])
   rw [yZ li,yZ lj] at this
   split at this<;>split at this<;>omega
theorem yev {N:List ByteArray} (hN:NoD N) {g:ByteArray->ByteArray} (hg:∀ n ∈ N,zaH (g n)=0):∀ n ∈ N,zaH (yO N g n)=0:=λn hn=>by
 obtain ⟨i,hi⟩:=List.mem_iff_getElem?.1 hn;obtain ⟨y,hy,h1⟩:=yG hN (g:=g) hi;rw [h1];exact hg y (List.mem_of_getElem? hy)
theorem yew {b:Bk} {N:List ByteArray} {g:ByteArray->ByteArray} (hr:yd0 b N g):yd0 b N (yO N g):=⟨hr.n,hr.k,hr.l,yaP hr.n hr.h,yev hr.n hr.e⟩
theorem yc9 {b:Bk} (h:zF b=0) {N:List ByteArray} (hN:NoD N) (hk:∀ n ∈ N,¬atL n (b.slots.map (·.req.name)) < 0) (hE:zeg b N=0):yd0 b N λn=>(zn b n).holder:=by
 obtain ⟨h1,h2⟩:=ydz hE;refine ⟨hN,hk,h1,?_,λn hn=>?_⟩
 .rw [zeU,List.map_map] at h2;exact h2
 .exact fE0 (yai h (List.mem_of_getElem? (zcJ (hk n hn)).1)) _ (by simp)
def gT (b:Bk) (N:List ByteArray):Nat->ByteArray->ByteArray
 | 0=>λn=>(zn b n).holder
 | t+1=>yO N (gT b N t)
theorem rg_t {b:Bk} {N:List ByteArray} (hr:yd0 b N (gT b N 0)):∀ t,yd0 b N (gT b N t)
 | 0=>hr
 | t+1=>yew (rg_t hr t)
theorem yao {b:Bk} {N:List ByteArray} (h:yE b N=0):yba N=0/\NoD N/\(∀ n ∈ N,¬atL n (b.slots.map (·.req.name)) < 0)/\zeg b N=0:=by
 have h1:yba N=0:=fE0 h _ (by simp)
 have h2:zg (N.mapIdx (yD b N))=0:=fE0 h _ (by simp)
 have h3:zeg b N=0:=fE0 h _ (by simp)
 refine ⟨h1,?_,yap (fE0 h2),h3⟩;refine yd9 (λi x hx q=>?_) h2
 have:=fE0 hx (if 0<=atL x (N.take i) then 9 else 0) (by simp)
 rw [if_pos q] at this;omega
theorem ycn {b:Bk} {N:List ByteArray} (h1:yba N=0) (hN:NoD N) (hk:∀ n ∈ N,¬atL n (b.slots.map (·.req.name)) < 0) (hE:zeg b N=0):yE b N=0/\yu b N=zlL b N:=by
 have hC:yE b N=0:=by
  refine zp.2 ⟨h1,zp.2 ⟨yb λi x hx=>?_,zp.2 ⟨hE,rfl⟩⟩⟩
  exact zp.2 ⟨if_neg (hk x (List.mem_of_getElem? hx)),zp.2 ⟨if_neg (ycw hN hx),rfl⟩⟩
 exact ⟨hC,by rw [yu,if_pos hC]⟩
theorem ring_t {b:Bk} (h:zF b=0) {N:List ByteArray} (hC:yE b N=0):yd0 b N (gT b N 0)/\yu b N=yR b N (gT b N 1)/\∀ t,zF (yR b N (gT b N t))=0/\yE (yR b N (gT b N t)) N=0/\yu (yR b N (gT b N t)) N=yR b N (gT b N (t+1)):=by
 obtain ⟨h1,hN,hk,hE⟩:=yao hC;have hr:yd0 b N (gT b N 0):=yc9 h hN hk hE;refine ⟨hr,by rw [yu,if_pos hC,ybS h hN hk hE];rfl,λt=>?_⟩
 have hrt:=rg_t hr t;obtain ⟨p1,p2⟩:=ybT h hrt hN (λn=>Iff.rfl) hrt.h
 obtain ⟨r1,r2⟩:=ycn h1 hN (ya0 hk) p1;exact ⟨yaZ h hrt,r1,by rw [r2,p2];rfl⟩
theorem ycc {b:Bk} {o t:ByteArray} (h:zpI b o t=0):(∀ n ∈ [o,t],¬atL n (b.slots.map (·.req.name)) < 0)/\o≠t/\zeg b [o,t]=0:=by
 by_cases hF:zwc b o t=0
 .rw [zpI,if_pos hF] at h
  have h1:=zv8 (fE0 hF (unkE b o) (by simp))
  have h2:=zv8 (fE0 hF (unkE b t) (by simp))
  have h3:=fE0 hF (if o=t then 9 else 0) (by simp)
  refine ⟨λn hn=>?_,λq=>by rw [if_pos q] at h3;omega,h⟩
  rcases List.mem_cons.1 hn with rfl|hn
  .exact h1
  .rw [List.mem_singleton.1 hn];exact h2
 .rw [zpI,if_neg hF] at h;exact absurd h hF
theorem yeE {o t:ByteArray} (h:o≠t):NoD [o,t]:=by
 intro i j x hi hj
 match i,j,hi,hj with
 | 0,0,_,_=>rfl
 | 0,1,hi,hj=>exact absurd ((Option.some.inj hi).trans (Option.some.inj hj).symm) h
 | 1,0,hi,hj=>exact absurd ((Option.some.inj hj).trans (Option.some.inj hi).symm) h
 | 1,1,_,_=>rfl
 | 0,j+2,_,hj=>simp at hj
 | 1,j+2,_,hj=>simp at hj
 | i+2,_,hi,_=>simp at hi
theorem yc2 {b:Bk} {o t:ByteArray} (h:zpI b o t=0):yE b [o,t]=0/\yu b [o,t]=zpm b o t:=by
 obtain ⟨h1,h2,h3⟩:=ycc h;obtain ⟨r1,r2⟩:=ycn (N:=[o,t]) rfl (yeE h2) h1 h3;exact ⟨r1,by rw [r2,zpm,if_pos h]⟩
theorem yc1 {b:Bk} {c n to:ByteArray} (h:trC b c n to=0):zhm b c n (zaH to)=0/\zaH to=0/\to≠(zn b n).holder/\(zn b n).ls=[]:=by
 have h1:zhm b c n (zaH to)=0:=fE0 h _ (by simp)
 have h2:trE (zn b n) to=0:=fE0 h _ (by simp)
 have h3:=fE0 h2 (if to=(zn b n).holder then 31 else 0) (by simp)
 have h4:=fE0 h2 (if 0 < ((zn b n).ls.length:Int) then 19 else 0) (by simp)
 refine ⟨h1,zuv h1,λq=>by rw [if_pos q] at h3;omega,?_⟩
 by_cases k:0 < ((zn b n).ls.length:Int)
 .rw [if_pos k] at h4;omega
 .exact List.eq_nil_of_length_eq_zero (by omega)
theorem ycD {s:SlR} {x:Lea} (h1:zdD x=0) (h2:zfI s x=0) {t:Int} (ht:t<=x.to) (hf:x.fro<=t):zdD ⟨x.carrier,x.fro,t⟩=0/\zfI s ⟨x.carrier,x.fro,t⟩=0:=by
 have a1:=fE0 h1 (zaH x.carrier) (by simp)
 have a2:=fE0 h1 (rng x.fro 0 99999) (by simp)
 have a3:=fE0 h1 (rng x.to 0 99999) (by simp)
 have b1:=fE0 h2 (if x.fro < s.req.per.fro\/s.req.per.to < x.to then 30 else 0) (by simp)
 have b2:=fE0 h2 (if x.carrier=s.holder then 31 else 0) (by simp)
 have b1':¬(x.fro < s.req.per.fro\/s.req.per.to < x.to):=λk=>by rw [if_pos k] at b1;omega
 refine ⟨zp.2 ⟨a1,zp.2 ⟨a2,zp.2 ⟨?_,zp.2 ⟨if_neg ?_,rfl⟩⟩⟩⟩,zp.2 ⟨if_neg ?_,zp.2 ⟨b2,rfl⟩⟩⟩
 .rw [zdm] at a2 a3 ⊢;dsimp only;omega
 .dsimp only;omega
 .dsimp only;omega
theorem ybQ {s:Slt} (h:zil s=0) {d:Int} (he:zv1 s d=0):zil (zv0 s d)=0:=by
 have h0:¬ztM s d < 0:=λk=>by rw [zv1,if_pos k] at he;omega
 have c3:=fE0 h (if 8 < (s.ls.length:Int) then 5 else 0) (by simp)
 have h8:s.ls.length<=8:=by
  by_cases k:8 < (s.ls.length:Int)
  .rw [if_pos k] at c3;omega
  .omega
 have hle:∀ x ∈ s.ls,zdD x=0/\zfI s.raw x=0:=λx hx=>by
  obtain ⟨i,hi⟩:=List.mem_iff_getElem?.1 hx;have:=y5 h hi;exact ⟨fE0 this _ (by simp),fE0 this _ (by simp)⟩
 rcases yaY (p:=λl:Lea=>decide (l.fro<=d) && decide (d<=l.to)) (l:=s.ls) with ⟨k,_⟩|⟨k,x,hk,hx,hp,_⟩
 .exact absurd k h0
 .have hlt:=(List.getElem?_eq_some_iff.1 hx).1
  have htl:=zgr hx;have e1:recL s d=s.ls.take k++(zs1 (d - 1) x++s.ls.drop (k+1)):=by
   have ek:ztM s d=(k:Nat):=hk;rw [recL,ek,Int.toNat_natCast,zan hx,List.drop_append_of_le_length (by omega),List.drop_eq_nil_of_le (by omega),List.nil_append,zhh,List.flatMap_cons,List.flatMap_nil,List.append_nil]
  have e0:s.ls=s.ls.take k++x::s.ls.drop (k+1):=by
   conv=>lhs;rw [<-List.take_append_drop k s.ls,List.drop_eq_getElem_cons hlt,(List.getElem?_eq_some_iff.1 hx).2]
  have hxp:x.fro<=d/\d<=x.to:=by simpa using hp
  obtain ⟨hxl,hxo⟩:=hle x (List.mem_of_getElem? hx);have hxx:=yag hxl;have hz:∀ z ∈ zs1 (d - 1) x,(zdD z=0/\zfI s.raw z=0)/\z.fro=x.fro/\z.fro<=z.to/\z.to<=x.to:=λz hz=>by
   rw [zs1] at hz
   split at hz
   .rename_i q
    rw [List.mem_singleton.1 hz];have q1:x.fro<=min x.to (d - 1):=by omega
    exact ⟨ycD hxl hxo (by omega) q1,rfl,q1,by simp only [cutE];omega⟩
   .cases hz
  have hzl:(zs1 (d - 1) x).length<=1:=by unfold zs1;split<;>simp
  have hzp:(zs1 (d - 1) x).Pairwise ya6:=by unfold zs1;split<;>simp
  have hp0:=yaN h;rw [e0] at hp0;obtain ⟨p1,p2,p3⟩:=List.pairwise_append.1 hp0;obtain ⟨p4,p5⟩:=List.pairwise_cons.1 p2;refine y4 h (L:=recL s d) ?_ (λz hz'=>?_) ?_
  .rw [e1];simp only [List.length_append,List.length_take,List.length_drop];omega
  .rw [e1] at hz'
   rcases List.mem_append.1 hz' with q|q
   .exact hle z (List.mem_of_mem_take q)
   .rcases List.mem_append.1 q with q|q
    .exact (hz z q).1
    .exact hle z (List.mem_of_mem_drop q)
  .rw [e1]
   refine List.pairwise_append.2 ⟨p1,List.pairwise_append.2 ⟨hzp,p5,λa ha c hc=>?_⟩,λa ha c hc=>?_⟩
   .have:=p4 c hc
    obtain ⟨_,z1,z2,z3⟩:=hz a ha;simp only [ya6] at this ⊢;omega
   .rcases List.mem_append.1 hc with q|q
    .have:=p3 a ha x (by simp)
     obtain ⟨_,z1,z2,z3⟩:=hz c q;simp only [ya6] at this ⊢;omega
    .exact p3 a ha c (by simp [q])
theorem yce {s:Slt} (h:zil s=0) {to:ByteArray} (hn:zaH to=0) (he:shE s to=0):zil (shS s to)=0:=by
 have c1:=fE0 h (zsa s.req) (by simp)
 have c2:=fE0 h (zaH s.holder) (by simp)
 have c3:=fE0 h (if 8 < (s.ls.length:Int) then 5 else 0) (by simp)
 have c4:=fE0 h (zg (s.ls.mapIdx (zcZ s))) (by simp)
 have c6:=fE0 h (zg (s.sh.mapIdx (zhA s))) (by simp)
 have d1:=fE0 he (if to=s.holder then 31 else 0) (by simp)
 have d2:=fE0 he (if 0<=atL to s.sh then 9 else 0) (by simp)
 have d3:=fE0 he (if 4<=(s.sh.length:Int) then 5 else 0) (by simp)
 have h4:s.sh.length < 4:=by
  by_cases k:4<=(s.sh.length:Int)
  .rw [if_pos k] at d3;omega
  .omega
 refine zp.2 ⟨c1,zp.2 ⟨c2,zp.2 ⟨c3,zp.2 ⟨c4,zp.2 ⟨?_,zp.2 ⟨yb λi x hx=>?_,rfl⟩⟩⟩⟩⟩⟩
 .exact if_neg (by simp only [shS,List.length_append,List.length_singleton];omega)
 .have hx':(s.sh++[to])[i]?=some x:=hx
  by_cases k:i < s.sh.length
  .rw [List.getElem?_append_left k] at hx'
   have h6:=yI c6 hx';have e:(shS s to).sh.take i=s.sh.take i:=List.take_append_of_le_length (by omega)
   rw [zhA] at h6 ⊢;rw [e];exact h6
  .have hlt:=(List.getElem?_eq_some_iff.1 hx').1
   rw [List.length_append,List.length_singleton] at hlt;have ei:i=s.sh.length:=by omega
   subst ei;rw [List.getElem?_append_right (Nat.le_refl _),Nat.sub_self] at hx';have ex:to=x:=Option.some.inj hx';subst ex;have e:(shS s to).sh.take s.sh.length=s.sh:=List.take_left;rw [zhA,e];exact zp.2 ⟨hn,zp.2 ⟨d1,zp.2 ⟨d2,rfl⟩⟩⟩
theorem ybh {b:Bk} (h:zF b=0):zfz b:=by
 have hl:=zin h;refine ⟨λs hs=>?_,by omega,by omega⟩
 have hv:=yai h hs;have c3:=fE0 hv (if 8 < (s.ls.length:Int) then 5 else 0) (by simp)
 have c5:=fE0 hv (if 4 < (s.sh.length:Int) then 5 else 0) (by simp)
 refine ⟨?_,?_⟩
 .by_cases k:8 < (s.ls.length:Int)
  .rw [if_pos k] at c3;omega
  .omega
 .by_cases k:4 < (s.sh.length:Int)
  .rw [if_pos k] at c5;omega
  .omega
structure ybf (b y:Bk):Prop where
 r:y.slots.map (·.req)=b.slots.map (·.req)
 w:y.wait=b.wait
 v:zF y=0
theorem yL {b:Bk} (h:zF b=0) {c n:ByteArray} {e:Int} (ho:zhm b c n e=0) {s':Slt} (hr:s'.req=(zn b n).req) (hv:zil s'=0):ybf b (zo1 b n s'):=
 ⟨by rw [zo1];simp only;rw [List.map_set,hr];exact ybl (by rw [List.getElem?_map,(za8 ho).2.1];rfl),rfl,yah h ho (by rw [hr]) hv⟩
theorem yT {b:Bk} {c n:ByteArray} {e:Int} (ho:zhm b c n e=0) {s':Slt} (hh:s'.holder=(zn b n).holder):(zo1 b n s').slots.map (·.holder)=b.slots.map (·.holder):=by
 rw [zo1];simp only;rw [List.map_set,hh];exact ybl (by rw [List.getElem?_map,(za8 ho).2.1];rfl)
theorem yw {L:List ByteArray} (h:NoD L):L.Nodup:=by
 rw [List.Nodup,List.pairwise_iff_getElem];intro i j hi hj hij e;have:=h i j L[i] (List.getElem?_eq_getElem hi) (by rw [List.getElem?_eq_getElem hj,e])
 omega
theorem y8 {b:Bk} (h:zF b=0):(b.slots.map (·.req.name)).Nodup:=yw λi j x hi hj=>by
 rw [List.getElem?_map] at hi hj;cases hs:b.slots[i]? with
 | none=>rw [hs] at hi;cases hi
 | some s=>
  cases ht:b.slots[j]? with
  | none=>rw [ht] at hj;cases hj
  | some t=>
   rw [hs] at hi;rw [ht] at hj;have e1:s.req.name=x:=Option.some.inj hi;have e2:t.req.name=x:=Option.some.inj hj;have i1:=yax h hs;have i2:=yax h ht;rw [e1] at i1;rw [e2] at i2
   omega
theorem ybP {N:List ByteArray} (hN:NoD N) {g:ByteArray->ByteArray} (hg:NoD (N.map g)):(N.map (yO N g)).Perm (N.map g):=by
 refine (List.perm_ext_iff_of_nodup (yw (yaP hN hg)) (yw hg)).2 λa=>⟨λha=>?_,λha=>?_⟩
 .obtain ⟨x,hx,rfl⟩:=List.mem_map.1 ha
  obtain ⟨i,hi⟩:=List.mem_iff_getElem?.1 hx;obtain ⟨y,hy,e⟩:=yG hN (g:=g) hi;rw [e];exact List.mem_map.2 ⟨y,List.mem_of_getElem? hy,rfl⟩
 .obtain ⟨x,hx,rfl⟩:=List.mem_map.1 ha
  obtain ⟨j,hj⟩:=List.mem_iff_getElem?.1 hx;have lj:=(List.getElem?_eq_some_iff.1 hj).1;have hi:∃ i,i < N.length/\(i+N.length - 1) % N.length=j:=by
   by_cases k:j+1 < N.length
   .exact ⟨j+1,k,by rw [yZ k,if_neg (by omega)];omega⟩
   .exact ⟨0,by omega,by rw [yZ (by omega),if_pos rfl];omega⟩
  obtain ⟨i,hi,e⟩:=hi;obtain ⟨z,hz⟩:=zm (i:=i) (l:=N) hi;obtain ⟨y,hy,e2⟩:=yG hN (g:=g) hz;rw [e,hj] at hy;exact List.mem_map.2 ⟨z,List.mem_of_getElem? hz,by rw [e2,<-Option.some.inj hy]⟩
theorem ydJ {b:Bk} (h:zF b=0) {N:List ByteArray} (hN:NoD N) (hk:∀ n ∈ N,¬atL n (b.slots.map (·.req.name)) < 0) {G:ByteArray->ByteArray} (hG:(N.map G).Perm (N.map λn=>(zn b n).holder)):((yR b N G).slots.map (·.holder)).Perm (b.slots.map (·.holder)):=by
 have hA:((b.slots.filter λs=>decide (s.req.name ∈ N)).map (·.req.name)).Perm N:=by
  refine (List.perm_ext_iff_of_nodup ?_ (yw hN)).2 λa=>⟨λha=>?_,λha=>?_⟩
  .exact List.Pairwise.sublist (List.Sublist.map _ List.filter_sublist) (y8 h)
  .obtain ⟨s,hs,rfl⟩:=List.mem_map.1 ha
   exact of_decide_eq_true (List.mem_filter.1 hs).2
  .refine List.mem_map.2 ⟨zn b a,List.mem_filter.2 ⟨List.mem_of_getElem? (zcJ (hk a ha)).1,decide_eq_true ?_⟩,yt (hk a ha)⟩
   rw [yt (hk a ha)];exact ha
 have hsp:=List.filter_append_perm (λs:Slt=>decide (s.req.name ∈ N)) b.slots
 have e1:(b.slots.filter λs=>decide (s.req.name ∈ N)).map (λs=>(yX N G s).holder)=((b.slots.filter λs=>decide (s.req.name ∈ N)).map (·.req.name)).map G:=by
  rw [List.map_map];refine List.map_congr_left λs hs=>?_
  have k:=of_decide_eq_true (List.mem_filter.1 hs).2;rw [yX,if_pos k];rfl
 have e2:(b.slots.filter λs=>decide (s.req.name ∈ N)).map (·.holder)=((b.slots.filter λs=>decide (s.req.name ∈ N)).map (·.req.name)).map λn=>(zn b n).holder:=by
  rw [List.map_map];refine List.map_congr_left λs hs=>?_
  obtain ⟨i,hi⟩:=List.mem_iff_getElem?.1 (List.mem_filter.1 hs).1;show s.holder=(zn b s.req.name).holder;rw [(ya9 h hi).2.1]
 have e3:(b.slots.filter λs=>!decide (s.req.name ∈ N)).map (λs=>(yX N G s).holder)=(b.slots.filter λs=>!decide (s.req.name ∈ N)).map (·.holder):=by
  refine List.map_congr_left λs hs=>?_
  have k:s.req.name ∉ N:=by simpa using (List.mem_filter.1 hs).2
  rw [yX,if_neg k]
 have a1:=(hsp.map λs=>(yX N G s).holder).symm
 have a2:=hsp.map (·.holder);rw [List.map_append,e1,e3] at a1;rw [List.map_append,e2] at a2;rw [yR];simp only;rw [List.map_map];exact a1.trans ((((hA.map G).trans (hG.trans (hA.map _).symm)).append_right _).trans a2)
theorem yN {b:Bk} (h:zF b=0) {N:List ByteArray} (hC:yE b N=0):ybf b (yu b N)/\((yu b N).slots.map (·.holder)).Perm (b.slots.map (·.holder)):=by
 obtain ⟨_,hN,hk,_⟩:=yao hC;obtain ⟨hr,e,ht⟩:=ring_t h hC;rw [e];refine ⟨⟨?_,rfl,(ht 1).1⟩,ydJ h hN hk (ybP hN hr.h)⟩;rw [yR];simp only;rw [List.map_map];exact List.map_congr_left λs _=>yK _ _ s
theorem yaK {b:Bk} (h:zF b=0) {o t:ByteArray} (hC:zpI b o t=0):ybf b (zpm b o t)/\((zpm b o t).slots.map (·.holder)).Perm (b.slots.map (·.holder)):=by
 obtain ⟨c1,c2⟩:=yc2 hC;rw [<-c2];exact yN h c1
theorem ybi {b:Bk} (h:zF b=0) {c n to:ByteArray} (hC:trC b c n to=0):ybf b (trB b c n to)/\∀ x ∈ (trB b c n to).slots.map (·.holder),x ∈ b.slots.map (·.holder)\/x=to:=by
 obtain ⟨h1,h2,_,h4⟩:=yc1 hC;rw [trB,if_pos hC];refine ⟨yL h h1 rfl (ybj (yh h h1) h4 h2),λx hx=>?_⟩
 obtain ⟨s,hs,rfl⟩:=List.mem_map.1 hx
 rcases List.mem_or_eq_of_mem_set hs with k|rfl
 .exact .inl (List.mem_map.2 ⟨s,k,rfl⟩)
 .exact .inr rfl
theorem ybw {b:Bk} (h:zF b=0) {c n:ByteArray} {l:Lea} (hC:lnC b c n l=0):ybf b (lnB b c n l)/\(lnB b c n l).slots.map (·.holder)=b.slots.map (·.holder):=by
 obtain ⟨h1,h2,h3⟩:=ydG hC;rw [lnB,if_pos hC];exact ⟨yL h h1 rfl (ycA (yh h h1) h2 h3),yT h1 rfl⟩
theorem ybm {b:Bk} (h:zF b=0) {c n:ByteArray} {d:Int} (hC:reC b c n d=0):ybf b (reB b c n d)/\(reB b c n d).slots.map (·.holder)=b.slots.map (·.holder):=by
 have h1:zhm b c n (rng d 0 99999)=0:=fE0 hC _ (by simp)
 have h2:zv1 (zn b n) d=0:=fE0 hC _ (by simp)
 rw [reB,if_pos hC];exact ⟨yL h h1 rfl (ybQ (yh h h1) h2),yT h1 rfl⟩
theorem ybk {b:Bk} (h:zF b=0) {c n to:ByteArray} (hC:shC b c n to=0):ybf b (shB b c n to)/\(shB b c n to).slots.map (·.holder)=b.slots.map (·.holder):=by
 have h1:zhm b c n (zaH to)=0:=fE0 hC _ (by simp)
 have h2:shE (zn b n) to=0:=fE0 hC _ (by simp)
 rw [shB,if_pos hC];exact ⟨yL h h1 rfl (yce (yh h h1) (zuv h1) h2),yT h1 rfl⟩
def yem (b:Bk) (w:Wsh):Bk:=if zfD b w=0 then ⟨b.slots,inR ym w b.wait⟩ else bk0
def yaM (l:List Lim) (b:Bk) (k:Nat):List Slt:=b.slots++(zgu l b k).Q.map zgP
theorem yei {b:Bk} (h:zF b=0) {k:Nat} {w:Wsh} (hw:b.wait[k]?=some w):w.req.name ∉ b.slots.map (·.req.name)/\w.req.name ∉ (b.wait.take k).map (·.req.name):=by
 have:=fE0 (yaH h hw) (if 0<=atL w.req.name (b.slots.map (·.req.name)++(b.wait.take k).map (·.req.name)) then 9 else 0) (by simp)
 have hn:¬0<=atL w.req.name (b.slots.map (·.req.name)++(b.wait.take k).map (·.req.name)):=λq=>by rw [if_pos q] at this;omega
 exact ⟨λq=>hn ((yc _ _).2 (List.mem_append_left _ q)),λq=>hn ((yc _ _).2 (List.mem_append_right _ q))⟩
theorem yeh {b:Bk} (h:zF b=0) {k:Nat} {w:Wsh} (hw:b.wait[k]?=some w):zsa w.req=0:=fE0 (fE0 (yaH h hw) (zkX w) (by simp)) _ (by simp)
theorem ydB (S:List Slt) (x:Slt):mvS (S++[x])=zf5 zk2 (mvS S) (zro x.req):=by rw [mvS,List.foldl_append];rfl
theorem yeq {l:List Lim} {b:Bk} (h:zF b=0):∀ k,k<=b.wait.length->(∀ r ∈ (zgu l b k).Q,∃ j w,j < k/\b.wait[j]?=some w/\r=w.req)/\(zgu l b k).M=mvS (yaM l b k)/\(yaM l b k).length<=64:=by
 intro k
 induction k with
 | zero=>
  intro _;have hn:=zin h;refine ⟨λr hr=>(by cases hr),?_,by simp only [yaM,zgu,srv0,List.take_zero,List.foldl_nil,List.map_nil,List.append_nil];omega⟩
  have:=yeI h;simp only [yaM,zgu,srv0,List.take_zero,List.foldl_nil,List.map_nil,List.append_nil];exact this
 | succ k ih=>
  intro hk;obtain ⟨i1,i2,i3⟩:=ih (by omega)
  obtain ⟨w,hw⟩:=zm (i:=k) (l:=b.wait) (by omega)
  have hv:∀ s ∈ yaM l b k,zdC s.req=0:=λs hs=>by
   rcases List.mem_append.1 hs with hs|hs
   .exact ybF h hs
   .obtain ⟨r,hr,rfl⟩:=List.mem_map.1 hs
    obtain ⟨j,w',_,hj,rfl⟩:=i1 r hr;exact yaG (yeh h hj)
  have hnx:=zhz (l:=l) hw;rw [srvN] at hnx
  by_cases hno:ztk l b.slots.length (zgu l b k) w
  .rw [if_pos hno] at hnx
   have e:yaM l b (k+1)=yaM l b k:=by rw [yaM,yaM,hnx]
   rw [e,hnx];exact ⟨λr hr=>by obtain ⟨j,w',h1,h2⟩:=i1 r hr;exact ⟨j,w',by omega,h2⟩,i2,i3⟩
  .rw [if_neg hno] at hnx
   have e:yaM l b (k+1)=yaM l b k++[zgP w.req]:=by rw [yaM,yaM,hnx];simp
   have hr:=yaG (yeh h hw);have hlt:(yaM l b k).length < 64:=by
    have h1:¬64<=((b.slots.length+(zgu l b k).Q.length:Nat):Int):=λq=>hno (.inl q)
    simp only [yaM,List.length_append,List.length_map];omega
   obtain ⟨_,m2,m3⟩:=yer (b:=⟨yaM l b k,[]⟩) hv i3;obtain ⟨n1,n2⟩:=ybv hr;simp only at m2 m3;have hg:mgE (mvS (yaM l b k)) (zro w.req)=0:=zp.2 ⟨m2,zp.2 ⟨n1,zp.2 ⟨if_neg (by omega),rfl⟩⟩⟩
   rw [e,hnx];refine ⟨λr hr'=>?_,?_,by rw [List.length_append,List.length_singleton];omega⟩
   .rcases List.mem_append.1 hr' with hr'|hr'
    .obtain ⟨j,w',h1,h2⟩:=i1 r hr';exact ⟨j,w',by omega,h2⟩
    .exact ⟨k,w,by omega,hw,List.mem_singleton.1 hr'⟩
   .simp only
    rw [ydB,i2,zgR,if_pos hr,mgR,if_pos hg];rfl
theorem yq (a b:Wsh):ym a b=decide (zv4 a b < 0):=by
 have key:ym a b=true↔zv4 a b < 0:=by
  rw [ym,zv4];simp only [Bool.or_eq_true,Bool.and_eq_true,decide_eq_true_eq]
  rcases Int.lt_trichotomy a.rank b.rank with k|k|k
  .have:zo0 a.rank b.rank=-1:=if_pos k
   rw [this,za3 (by omega)]
   exact ⟨λ_=>by omega,λ_=>.inl k⟩
  .have:zo0 a.rank b.rank=0:=by rw [zo0,if_neg (by omega),if_neg (by omega)]
   rw [za4 this,zfk,zoZ];exact ⟨λq=>by rcases q with q|q;(· omega);exact q.2,λq=>.inr ⟨k,q⟩⟩
  .have:zo0 a.rank b.rank=1:=by rw [zo0,if_neg (by omega),if_pos k]
   rw [this,za3 (by omega)]
   exact ⟨λq=>by rcases q with q|q<;>omega,λq=>by omega⟩
 by_cases h:zv4 a b < 0
 .rw [decide_eq_true h];exact key.2 h
 .rw [decide_eq_false h]
  cases q:ym a b
  .rfl
  .exact absurd (key.1 q) h
theorem yar:∀ x y z:List UInt8,Op.bytesLess x y=true->Op.bytesLess y z=true->Op.bytesLess x z=true
 | _,[],_,h,_=>by simp [Op.bytesLess] at h
 | _,_::_,[],_,h=>by simp [Op.bytesLess] at h
 | [],_::_,_::_,_,_=>by simp [Op.bytesLess]
 | a::x,b::y,c::z,h,k=>by
  simp only [Op.bytesLess,Bool.or_eq_true,Bool.and_eq_true,decide_eq_true_eq,beq_iff_eq] at h k ⊢
  rcases h with h|⟨rfl,h⟩
  .rcases k with k|⟨rfl,k⟩
   .exact .inl (UInt8.lt_trans h k)
   .exact .inl h
  .rcases k with k|⟨rfl,k⟩
   .exact .inl k
   .exact .inr ⟨rfl,yar x y z h k⟩
theorem ybE (a b:Wsh):zv4 a b < 0↔a.rank < b.rank\/(a.rank=b.rank/\Op.bytesLess a.req.name.toList b.req.name.toList=true):=by
 have h:=yq a b;rw [ym] at h
 constructor
 .intro q
  rw [decide_eq_true q] at h;simpa only [Bool.or_eq_true,Bool.and_eq_true,decide_eq_true_eq] using h
 .intro q
  have h2:(decide (a.rank < b.rank) || (decide (a.rank=b.rank) && Op.bytesLess a.req.name.toList b.req.name.toList))=true:=by
   simpa only [Bool.or_eq_true,Bool.and_eq_true,decide_eq_true_eq] using q
  rw [h2] at h;exact of_decide_eq_true h.symm
theorem yaF (a b c:Wsh) (h:zv4 a b < 0) (k:zv4 b c < 0):zv4 a c < 0:=by
 rw [ybE] at *
 rcases h with h|⟨h1,h2⟩
 .rcases k with k|⟨k1,_⟩<;>exact .inl (by omega)
 .rcases k with k|⟨k1,k2⟩
  .exact .inl (by omega)
  .exact .inr ⟨by omega,yar _ _ _ h2 k2⟩
theorem yeZ {a b:Wsh} (h:zv4 a b < 0):¬zv4 b a < 0:=λk=>by
 have:=yaF a b a h k;rw [ybE,zkH] at this
 rcases this with h|⟨_,h⟩
 .omega
 .cases h
theorem ybx {x y:ByteArray} (h:x≠y) (k:¬Op.bytesLess x.toList y.toList=true):Op.bytesLess y.toList x.toList=true:=by
 by_cases q:Op.bytesLess y.toList x.toList=true
 .exact q
 .exact absurd (zyv (by simpa using k) (by simpa using q)) h
theorem ybD {a b:Wsh} (h:¬zv4 a b<=0):zv4 b a < 0:=by
 rw [zv4] at h;rw [ybE]
 rcases Int.lt_trichotomy a.rank b.rank with k|k|k
 .have e:zo0 a.rank b.rank=-1:=if_pos k
  rw [e,za3 (by omega)] at h;omega
 .have e:zo0 a.rank b.rank=0:=by rw [zo0,if_neg (by omega),if_neg (by omega)]
  rw [za4 e,zfk] at h;refine .inr ⟨k.symm,?_⟩;have hn:a.req.name≠b.req.name:=λq=>h (by rw [(zs2 _ _).2 q];omega)
  have hl:¬zmE a.req.name b.req.name < 0:=λq=>h (by omega)
  exact ybx hn (λq=>hl ((zoZ _ _).2 q))
 .exact .inl k
theorem ya7 {b:Bk} (h:zF b=0):b.wait.Pairwise (λx y=>zv4 x y < 0):=by
 refine yco yaF λi x y hx hy=>?_
 have:=fE0 (yaH h hy) (if 0 < ((i+1:Nat):Int)/\zv4 y ((b.wait[i+1 - 1]?).getD y)<=0 then 11 else 0) (by simp)
 have e:(b.wait[i+1 - 1]?).getD y=x:=by rw [Nat.add_sub_cancel,hx];rfl
 rw [e] at this
 by_cases k:0 < ((i+1:Nat):Int)/\zv4 y x<=0
 .rw [if_pos k] at this;omega
 .exact ybD (λq=>k ⟨by omega,q⟩)
theorem yav {α:Type} {R:α->α->Prop} {p:α->Bool} (hp:∀ x y,R x y->p x=true->p y=true):∀ {L:List α},L.Pairwise R->∃ A B,L=A++B/\(∀ y ∈ A,p y=false)/\∀ y ∈ B,p y=true
 | [],_=>⟨[],[],rfl,by simp,by simp⟩
 | x::r,h=>by
  by_cases k:p x=true
  .exact ⟨[],x::r,rfl,by simp,λy hy=>by
    rcases List.mem_cons.1 hy with rfl|hy
    .exact k
    .exact hp x y (List.rel_of_pairwise_cons h hy) k⟩
  .obtain ⟨A,B,rfl,h1,h2⟩:=yav hp (List.pairwise_cons.1 h).2
   exact ⟨x::A,B,rfl,λy hy=>by
    rcases List.mem_cons.1 hy with rfl|hy
    .simpa using k
    .exact h1 y hy,h2⟩
theorem yel {b:Bk} (h:zF b=0) (w:Wsh):yem b w=zlf b w:=by
 rw [yem,zlf];have hp:=ya7 h;have hb:zjT zv4 w=ym w:=by funext x;rw [yq];rfl
 obtain ⟨A,B,e,hA,hB⟩:=yav (R:=λx y=>zv4 x y < 0) (p:=ym w) (λx y q k=>by
  rw [yq] at k ⊢;exact decide_eq_true (yaF _ _ _ (of_decide_eq_true k) q)) hp
 have hs:zbL zv4 b.wait=b.wait:=by
  have:=ya8 (c:=zv4) b.wait [] (by rw [List.nil_append];exact hp.imp fun {a c} k=>yeZ k)
  rwa [List.nil_append] at this
 have e2:zbL zv4 (b.wait++[w])=inR ym w b.wait:=by
  rw [zbL,List.foldl_append];rw [zbL] at hs;rw [hs,e,ybz hA hB];exact ycF (λy hy=>by rw [hb];exact hA y hy) (λy hy=>by rw [hb];exact hB y hy)
 rw [e2]
theorem yA {L:List ByteArray}:L.Nodup↔∀ i x,L[i]?=some x->x ∉ L.take i:=by
 constructor
 .intro h i x hx hm
  obtain ⟨j,hj⟩:=List.mem_iff_getElem?.1 hm;have hlt:=(List.getElem?_eq_some_iff.1 hj).1;rw [List.length_take] at hlt;rw [List.getElem?_take_of_lt (by omega)] at hj
  obtain ⟨l1,e1⟩:=List.getElem?_eq_some_iff.1 hx;obtain ⟨l2,e2⟩:=List.getElem?_eq_some_iff.1 hj;exact List.pairwise_iff_getElem.1 h j i l2 l1 (by omega) (e2.trans e1.symm)
 .intro h
  refine yw λi j x hi hj=>?_
  rcases Nat.lt_trichotomy i j with k|k|k
  .exact absurd (List.mem_of_getElem? (i:=i) (by rw [List.getElem?_take_of_lt k];exact hi)) (h j x hj)
  .exact k
  .exact absurd (List.mem_of_getElem? (i:=j) (by rw [List.getElem?_take_of_lt k];exact hj)) (h i x hi)
abbrev sNm (S:List Slt):List ByteArray:=S.map (·.req.name)
abbrev wNm (W:List Wsh):List ByteArray:=W.map (·.req.name)
structure Vbk (S:List Slt) (W:List Wsh):Prop where
 n:S.length<=64
 s:∀ s ∈ S,zil s=0
 m:W.length<=64
 w:∀ w ∈ W,zkX w=0
 d:(sNm S++wNm W).Nodup
 o:W.Pairwise (λx y=>zv4 x y < 0)
theorem ycO {a b:Wsh} (h:zv4 a b < 0):¬zv4 b a<=0:=λk=>by
 have:=ydV.2 k;rw [yq,decide_eq_true h] at this;cases this
theorem yV {b:Bk}:zF b=0↔Vbk b.slots b.wait:=by
 constructor
 .intro h
  have hl:=zin h;refine ⟨by omega,λs hs=>yai h hs,by omega,λw hw=>?_,yA.2 λi x hx=>?_,ya7 h⟩
  .obtain ⟨i,hi⟩:=List.mem_iff_getElem?.1 hw
   exact fE0 (yaH h hi) (zkX w) (by simp)
  .by_cases k:i < b.slots.length
   .rw [List.getElem?_append_left (by rw [List.length_map];exact k)] at hx
    rw [List.take_append_of_le_length (by rw [List.length_map];omega)]
    exact yA.1 (y8 h) i x hx
   .have hlt:=(List.getElem?_eq_some_iff.1 hx).1
    rw [List.length_append,List.length_map,List.length_map] at hlt;rw [List.getElem?_append_right (by rw [List.length_map];omega),List.length_map,List.getElem?_map] at hx
    obtain ⟨w,hw⟩:=zm (i:=i - b.slots.length) (l:=b.wait) (by omega)
    rw [hw] at hx;have ex:w.req.name=x:=Option.some.inj hx;obtain ⟨n1,n2⟩:=yei h hw;have et:(sNm b.slots++wNm b.wait).take i=sNm b.slots++(b.wait.take (i - b.slots.length)).map (·.req.name):=by
     rw [List.take_append,List.take_of_length_le (by rw [List.length_map];omega),List.length_map,List.map_take]
    rw [et,<-ex];intro hm
    rcases List.mem_append.1 hm with hm|hm
    .exact n1 hm
    .exact n2 hm
 .rintro ⟨h1,h2,h3,h4,h5,h6⟩
  obtain ⟨d1,d2,d3⟩:=List.nodup_append.1 h5;refine zp.2 ⟨if_neg (by omega),zp.2 ⟨yb λi s hs=>?_,zp.2 ⟨if_neg (by omega),zp.2 ⟨yb λi w hw=>?_,rfl⟩⟩⟩⟩
  .refine zp.2 ⟨h2 s (List.mem_of_getElem? hs),zp.2 ⟨if_neg λk=>?_,rfl⟩⟩
   rw [List.map_take] at k;exact yA.1 d1 i s.req.name (by rw [List.getElem?_map,hs];rfl) ((yc _ _).1 k)
  .refine zp.2 ⟨h4 w (List.mem_of_getElem? hw),zp.2 ⟨if_neg λk=>?_,zp.2 ⟨if_neg λk=>?_,rfl⟩⟩⟩
   .rcases List.mem_append.1 ((yc _ _).1 k) with k|k
    .exact d3 _ k _ (List.mem_map.2 ⟨w,List.mem_of_getElem? hw,rfl⟩) rfl
    .rw [List.map_take] at k
     exact yA.1 d2 i w.req.name (by rw [List.getElem?_map,hw];rfl) k
   .obtain ⟨k1,k2⟩:=k
    obtain ⟨j,rfl⟩:∃ j,i=j+1:=⟨i - 1,by omega⟩
    obtain ⟨li,ei⟩:=List.getElem?_eq_some_iff.1 hw;have hj:b.wait[j+1 - 1]?=some b.wait[j]:=by rw [Nat.add_sub_cancel];exact List.getElem?_eq_getElem (by omega)
    rw [hj] at k2;have hlt:=List.pairwise_iff_getElem.1 h6 j (j+1) (by omega) li (by omega)
    rw [ei] at hlt;exact ycO hlt k2
theorem yS {q:Req} (h:zsa q=0):zvC q=0/\¬zW q.per=[]/\zaH q.carrier=0/\zaH q.name=0/\zau q.per=0/\rng q.minute 0 1439=0:=by
 have h1:zvC q=0:=fE0 h _ (by simp)
 have h2:=fE0 h (if zW q.per=[] then 12 else 0) (by simp)
 exact ⟨h1,λk=>by rw [if_pos k] at h2;omega,fE0 h1 (zaH q.carrier) (by simp),fE0 h1 (zaH q.name) (by simp),fE0 h1 (zau q.per) (by simp),fE0 h1 (rng q.minute 0 1439) (by simp)⟩
theorem yaq {q:Req} (h:zsa q=0):zil (zgP q)=0:=
 zp.2 ⟨h,zp.2 ⟨(yS h).2.2.1,zp.2 ⟨by simp [zgP],zp.2 ⟨by simp [zgP,zg],zp.2 ⟨by simp [zgP],zp.2 ⟨by simp [zgP,zg],rfl⟩⟩⟩⟩⟩⟩
theorem yd1 {b:Bk} {n:ByteArray} (h:tkE b n=0):n ∉ sNm b.slots++wNm b.wait:=λk=>by
 have:zhv (b.slots.map (·.req.name)) (b.wait.map (·.req.name)) n=true:=by
  rw [zhv,Bool.or_eq_true,decide_eq_true_eq,decide_eq_true_eq,yc,yc];exact List.mem_append.1 k
 rw [tkE,if_pos this] at h;omega
theorem ybZ {l:List Lim} {b:Bk} {q:Req} (h:zei l b q=0):zsa q=0/\q.name ∉ sNm b.slots++wNm b.wait/\b.slots.length < 64/\zjz l (movF b (-1)) q=true:=by
 by_cases hE:zos b q=0
 .rw [zei,if_pos hE] at h
  have h1:=fE0 hE (zsa q) (by simp)
  have h2:=fE0 hE (tkE b q.name) (by simp)
  have h3:=fE0 hE (if 64<=(b.slots.length:Int) then 5 else 0) (by simp)
  refine ⟨h1,yd1 h2,?_,?_⟩
  .by_cases k:64<=(b.slots.length:Int)
   .rw [if_pos k] at h3;omega
   .omega
  .by_cases k:zjz l (movF b (-1)) q=true
   .exact k
   .rw [if_neg k] at h;omega
 .rw [zei,if_neg hE] at h;exact absurd h hE
theorem ybY {l:List Lim} {b:Bk} (hb:zF b=0) {q:Req} (h:zei l b q=0):zF (zjv l b q)=0:=by
 obtain ⟨h1,h2,h3,_⟩:=ybZ h;obtain ⟨v1,v2,v3,v4,v5,v6⟩:=yV.1 hb;rw [zjv,if_pos h];refine yV.2 ⟨by simp only [List.length_append,List.length_singleton];omega,λs hs=>?_,v3,v4,?_,v6⟩
 .rcases List.mem_append.1 hs with hs|hs
  .exact v2 s hs
  .rw [List.mem_singleton.1 hs];exact yaq h1
 .have e:sNm (b.slots++[zgP q])++wNm b.wait=sNm b.slots++q.name::wNm b.wait:=by simp [sNm,zgP]
  simp only;rw [e];exact (List.perm_middle.nodup_iff).2 (List.nodup_cons.2 ⟨h2,v5⟩)
theorem yc7 {l:List Lim} {b:Bk} {c n:ByteArray} {m:Int} (h:rtC l b c n m=0):zhm b c n (rng m 0 1439)=0/\rng m 0 1439=0/\zjz l (movF b (zx b n)) (rtQ (zn b n).req m)=true:=by
 have h1:zhm b c n (rng m 0 1439)=0:=fE0 h _ (by simp)
 have h2:rtE l b n (zn b n) m=0:=fE0 h _ (by simp)
 have hat:=(za8 h1).1;refine ⟨h1,zuv h1,?_⟩;rw [rtE,(zcJ hat).2.1] at h2
 by_cases k:zjz l (movF b (zx b n)) (rtQ (zn b n).req m)=true
 .exact k
 .rw [if_neg k] at h2;omega
theorem yet {q:Req} {m:Int} (h:zsa q=0) (hm:rng m 0 1439=0):zsa (rtQ q m)=0:=by
 obtain ⟨h1,h2,_⟩:=yS h;refine zp.2 ⟨?_,zp.2 ⟨if_neg h2,rfl⟩⟩;unfold zvC at h1 ⊢;simp only [zp] at h1 ⊢;simp only [rtQ];simp only [h1,hm,true_and,and_true];exact h1.2.2.2.2.2.2.1
theorem yck {s:Slt} {m:Int} (h:zil s=0) (hm:rng m 0 1439=0):zil (rtS s m)=0:=by
 have c1:=fE0 h (zsa s.req) (by simp)
 have c2:=fE0 h (zaH s.holder) (by simp)
 have c3:=fE0 h (if 8 < (s.ls.length:Int) then 5 else 0) (by simp)
 have c4:=fE0 h (zg (s.ls.mapIdx (zcZ s))) (by simp)
 have c5:=fE0 h (if 4 < (s.sh.length:Int) then 5 else 0) (by simp)
 have c6:=fE0 h (zg (s.sh.mapIdx (zhA s))) (by simp)
 exact zp.2 ⟨yet c1 hm,zp.2 ⟨c2,zp.2 ⟨c3,zp.2 ⟨c4,zp.2 ⟨c5,zp.2 ⟨c6,rfl⟩⟩⟩⟩⟩⟩
theorem yc6 {l:List Lim} {b:Bk} (hb:zF b=0) {c n:ByteArray} {m:Int} (h:rtC l b c n m=0):zF (rtB l b c n m)=0:=by
 obtain ⟨h1,h2,_⟩:=yc7 h;rw [rtB,if_pos h];exact yah hb h1 rfl (yck (yh hb h1) h2)
theorem ycW {b:Bk} {c n:ByteArray} {d:Int} (h:zo8 b c n d=0):zhm b c n (rng d 0 99999)=0/\rng d 0 99999=0/\d<=(zn b n).req.per.to:=by
 have h1:zhm b c n (rng d 0 99999)=0:=fE0 h _ (by simp)
 have h2:zsh (zn b n) d=0:=fE0 h _ (by simp)
 refine ⟨h1,zuv h1,?_⟩
 by_cases k:(zn b n).req.per.to < d
 .rw [zsh,if_pos k] at h2;omega
 .omega
theorem ycN {d:Int} {L:List Lea} {z:Lea} (h:z ∈ zhh d L) (hL:∀ x ∈ L,x.fro<=x.to):∃ x ∈ L,z=⟨x.carrier,x.fro,min x.to d⟩/\x.fro<=min x.to d:=by
 obtain ⟨x,hx,hz⟩:=List.mem_flatMap.1 h;rw [zs1] at hz
 split at hz
 .rename_i q
  have:=hL x hx;exact ⟨x,hx,List.mem_singleton.1 hz,by omega⟩
 .cases hz
theorem yec {d:Int}:∀ {L:List Lea},(∀ x ∈ L,x.fro<=x.to)->L.Pairwise ya6->(zhh d L).Pairwise ya6
 | [],_,_=>List.Pairwise.nil
 | x::r,h,hp=>by
  obtain ⟨p1,p2⟩:=List.pairwise_cons.1 hp;have ih:=yec (d:=d) (λy hy=>h y (by simp [hy])) p2
  have e:zhh d (x::r)=zs1 d x++zhh d r:=by simp [zhh]
  rw [e];refine List.pairwise_append.2 ⟨by unfold zs1;split<;>simp,ih,λa ha c hc=>?_⟩
  obtain ⟨y,hy,rfl,q⟩:=ycN hc (λy hy=>h y (by simp [hy]))
  have:=p1 y hy;rw [zs1] at ha
  split at ha
  .rename_i q2
   have hx:=h x (by simp)
   rw [List.mem_singleton.1 ha];simp only [ya6,cutE] at this ⊢;omega
  .cases ha
theorem yb4 {s:Slt} {d:Int} (h:zil s=0) (hp:zau (zpq s.req.per d)=0) (hn:¬zW (zpq s.req.per d)=[]) (hd:d<=s.req.per.to):zil (zvM s d)=0:=by
 have c1:=fE0 h (zsa s.req) (by simp)
 have c2:=fE0 h (zaH s.holder) (by simp)
 have c3:=fE0 h (if 8 < (s.ls.length:Int) then 5 else 0) (by simp)
 have c5:=fE0 h (if 4 < (s.sh.length:Int) then 5 else 0) (by simp)
 have c6:=fE0 h (zg (s.sh.mapIdx (zhA s))) (by simp)
 have h8:s.ls.length<=8:=by
  by_cases k:8 < (s.ls.length:Int)
  .rw [if_pos k] at c3;omega
  .omega
 have hq:zsa { s.req with per:=zpq s.req.per d }=0:=by
  obtain ⟨h1,_⟩:=yS c1;refine zp.2 ⟨?_,zp.2 ⟨if_neg hn,rfl⟩⟩;unfold zvC at h1 ⊢;simp only [zp] at h1 ⊢;simp only [h1,hp,true_and,and_true]
 have h0:zil ⟨{ s.req with per:=zpq s.req.per d },s.holder,[],s.sh⟩=0:=
  zp.2 ⟨hq,zp.2 ⟨c2,zp.2 ⟨by simp,zp.2 ⟨by simp [zg],zp.2 ⟨c5,zp.2 ⟨c6,rfl⟩⟩⟩⟩⟩⟩
 have hle:∀ x ∈ s.ls,x.fro<=x.to:=λx hx=>y6 h hx
 refine y4 h0 (L:=zhh (d - 1) s.ls) (by have:=zkT (d - 1) s.ls;omega) (λz hz=>?_) (yec hle (yaN h))
 obtain ⟨x,hx,rfl,q⟩:=ycN hz hle;obtain ⟨i,hi⟩:=List.mem_iff_getElem?.1 hx;have hE:=y5 h hi;obtain ⟨z1,z2⟩:=ycD (t:=min x.to (d - 1)) (fE0 hE (zdD x) (by simp)) (fE0 hE (zfI s.raw x) (by simp)) (by omega) q
 refine ⟨z1,?_⟩;have y1:=fE0 z2 (if x.fro < s.req.per.fro\/s.req.per.to < min x.to (d - 1) then 30 else 0) (by simp)
 have y2:=fE0 z2 (if x.carrier=s.holder then 31 else 0) (by simp)
 have y3:¬x.fro < s.req.per.fro:=λk=>by rw [if_pos (.inl k)] at y1;omega
 exact zp.2 ⟨if_neg (by dsimp only [zpq];omega),zp.2 ⟨y2,rfl⟩⟩
theorem ycV {b:Bk} (hb:zF b=0) {c n:ByteArray} {d:Int} (h:zo8 b c n d=0):zF (zvN b c n d)=0/\(zvN b c n d).slots.length<=b.slots.length:=by
 obtain ⟨h1,h2,h3⟩:=ycW h;have hv:=yh hb h1;have hp:=(zeC (ybF hb (List.mem_of_getElem? (za8 h1).2.1))).1;have hD:=ybG (b:=b) (n:=n) (d:=d) hp h3;rw [<-ref_bk hb,if_pos h,bkY]
 split
 .obtain ⟨v1,v2,v3,v4,v5,v6⟩:=yV.1 hb
  have hs:(b.slots.take (zx b n)++b.slots.drop (zx b n+1)).Sublist b.slots:=by
   conv=>rhs;rw [<-List.take_append_drop (zx b n) b.slots]
   exact (List.Sublist.refl _).append (List.drop_sublist_drop_left _ (Nat.le_succ _))
  refine ⟨yV.2 ⟨by have:=hs.length_le;simp only;omega,λs q=>v2 s (hs.subset q),v3,v4,?_,v6⟩,hs.length_le⟩
  exact List.Pairwise.sublist ((hs.map _).append (List.Sublist.refl _)) v5
 .rename_i k
  have hbk:bkS (zn b n) d=zvM (zn b n) d:=by rw [bkS,zvM,ycT (λx hx=>y6 hv hx)]
  rw [ybe _ _ h3] at k;obtain ⟨q1,q2⟩:=hD.2 (by rw [ybe _ _ h3];exact k)
  rw [hbk];refine ⟨yah hb h1 rfl (yb4 hv q1 k h3),by simp [zo1]⟩
theorem yc3 {l:List Lim} {b:Bk}:∀ k,k<=b.wait.length->(zgu l b k).K.Sublist (b.wait.take k)/\((zgu l b k).Q.map (·.name)++wNm (zgu l b k).K).Perm (wNm (b.wait.take k)):=by
 intro k
 induction k with
 | zero=>intro _;exact ⟨by simp [zgu,srv0],by simp [zgu,srv0]⟩
 | succ k ih=>
  intro hk;obtain ⟨i1,i2⟩:=ih (by omega)
  obtain ⟨w,hw⟩:=zm (i:=k) (l:=b.wait) (by omega)
  have hnx:=zhz (l:=l) hw;rw [srvN] at hnx;rw [zan hw]
  by_cases hno:ztk l b.slots.length (zgu l b k) w
  .rw [if_pos hno] at hnx
   rw [hnx];refine ⟨i1.append (List.Sublist.refl _),?_⟩;rw [wNm,wNm,List.map_append,List.map_append,<-List.append_assoc];exact i2.append_right _
  .rw [if_neg hno] at hnx
   rw [hnx];refine ⟨i1.trans (List.sublist_append_left _ _),?_⟩;rw [wNm,wNm,List.map_append,List.map_append,List.append_assoc];refine (List.Perm.append_left _ List.perm_append_comm).trans ?_;rw [<-List.append_assoc];exact i2.append_right _
theorem ycd {l:List Lim} {b:Bk} (h:zF b=0):zF (srvB l b)=0:=by
 obtain ⟨v1,v2,v3,v4,v5,v6⟩:=yV.1 h;obtain ⟨p1,p2⟩:=yc3 (l:=l) (b:=b) b.wait.length (Nat.le_refl _);obtain ⟨i1,_,i3⟩:=yeq (l:=l) h b.wait.length (Nat.le_refl _);rw [List.take_length] at p1 p2;refine yV.2 ⟨i3,λs hs=>?_,by have:=p1.length_le;simp only [srvB];omega,λw hw=>v4 w (p1.subset hw),?_,v6.sublist p1⟩
 .rcases List.mem_append.1 hs with hs|hs
  .exact v2 s hs
  .obtain ⟨r,hr,rfl⟩:=List.mem_map.1 hs
   obtain ⟨j,w,_,hj,rfl⟩:=i1 r hr;exact yaq (yeh h hj)
 .have e:sNm (srvB l b).slots++wNm (srvB l b).wait=sNm b.slots++((zgu l b b.wait.length).Q.map (·.name)++wNm (zgu l b b.wait.length).K):=by
   simp only [srvB,sNm,List.map_append,List.map_map,List.append_assoc]
   congr 2
  rw [e];exact ((p2.append_left _).nodup_iff).2 v5
