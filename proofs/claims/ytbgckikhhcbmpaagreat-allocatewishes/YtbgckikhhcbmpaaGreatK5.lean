/- Contracts of functions, for the claim. No conditions. -/
import Derived.Test.YtbgckikhhcbmpaaGreatK4
set_option linter.all false
set_option maxHeartbeats 8000000
set_option maxRecDepth 100000
namespace Go.Proofs.YtbgckikhhcbmpaaGreat
open Go.RowKit
def zfn {l:Lim} (h:zr l=0) {b:Int} (hb:b ∈ zaq l):0<=b/\b<=143999999:=by
 have hp:=zaI (zaa h).2.2.2.2.2.2.2.1;obtain ⟨n,hn,hb⟩:=xaz.1 hb;have:=zaX h hb
 omega
abbrev fitC (ls:List Lim) (m:List Mov) (r:Req):Int:=zn [bothC ls m,zbY r]
def fitR (ls:List Lim) (m:List Mov) (r:Req):Bool:=decide (fitC ls m r=0) && fitsB ls m r
structure Srv where
 Q:List Req
 K:List Wsh
 M:List Mov
def zAc (l:List Lim) (n:Nat) (t:Srv) (w:Wsh):Prop:=64<=((n+t.Q.length:Nat):Int)\/fitR l t.M w.req=false
instance (l:List Lim) (n:Nat) (t:Srv) (w:Wsh):Decidable (zAc l n t w):=by unfold zAc;infer_instance
def bckP (p:Per) (d:Int):Per:=⟨p.fro,d - 1,p.days⟩
def bckD (b:Bk) (n:ByteArray) (d:Int):Prop:=zbx (bckP (zpA b n).req.per d)=0/\¬(zoM (bckP (zpA b n).req.per d)).length=0
instance (b:Bk) (n:ByteArray) (d:Int):Decidable (bckD b n d):=by unfold bckD;infer_instance
theorem zeF {α:Type} {p:α->Bool}:∀ {l:List α},(zdG p l < 0/\∀ x ∈ l,p x=false)\/∃ k x,zdG p l=(k:Nat)/\l[k]?=some x/\p x=true/\∀ y ∈ l.take k,p y=false
 | []=>.inl ⟨by simp [zdG],by simp⟩
 | x::r=>by
  by_cases h:p x=true
  ·refine .inr ⟨0,x,?_,rfl,h,by simp⟩
   exact zbe (i:=0) (by simp) rfl h
  ·have h':p x=false:=by simpa using h
   rcases zeF (p:=p) (l:=r) with ⟨h1,h2⟩|⟨k,y,h1,h2,h3,h4⟩
   ·have ha:∀ y ∈ x::r,p y=false:=λy hy=>by
     rcases xaF.1 hy with rfl|hy
     ·exact h'
     ·exact h2 y hy
    exact .inl ⟨by rw [zct ha];omega,ha⟩
   ·refine .inr ⟨k+1,y,?_,by simpa using h2,h3,?_⟩
    ·refine zbe (i:=k+1) (λz hz=>?_) (by simpa using h2) h3
     rw [xa2] at hz
     rcases xaF.1 hz with rfl|hz
     ·exact h'
     ·exact h4 z hz
    ·intro z hz;rw [xa2] at hz
     rcases xaF.1 hz with rfl|hz
     ·exact h'
     ·exact h4 z hz
instance decMem (n:ByteArray) (N:List ByteArray):Decidable (n ∈ N):=decidable_of_iff _ (zg5 n N)
def NoD (L:List ByteArray):Prop:=∀ (i j:Nat) (x:ByteArray),L[i]?=some x->L[j]?=some x->i=j
def zBk {H:List ByteArray} {f:Nat->ByteArray->Int} (hf:∀ i x,f i x=0->¬0<=atL x (H.take i)) (h:zn (H.mapIdx f)=0):NoD H:=by
 have key:∀ i j x,i < j->H[i]?=some x->H[j]?=some x->False:=λi j x hij hi hj=>by
  have h1:=hf j x (zfY h hj);refine h1 ((zg5 _ _).2 (xae (i:=i) ?_));rw [List.getElem?_take_of_lt hij];exact hi
 intro i j x hi hj
 rcases Nat.lt_trichotomy i j with k|k|k
 ·exact (key i j x k hi hj).elim
 ·exact k
 ·exact (key j i x k hj hi).elim
def zBl {H:List ByteArray} (h:NoD H) {i:Nat} {x:ByteArray} (hx:H[i]?=some x):¬0<=atL x (H.take i):=λk=>by
 obtain ⟨j,hj⟩:=xbu.1 ((zg5 _ _).1 k);have hlt:j < (H.take i).length:=(xaa.1 hj).1;rw [xao] at hlt;rw [List.getElem?_take_of_lt (by omega)] at hj
 have:=h j i x hj hx
 omega
def zyp {H:List ByteArray} (h:NoD H) {i:Nat} {x:ByteArray} (hx:H[i]?=some x):atL x H=i:=by
 have:=ziR (λy:ByteArray=>y) x H
 rw [List.map_id'] at this;rw [<-this];refine zbe (λy hy=>decide_eq_false λe=>?_) hx (decide_eq_true rfl)
 have e':y=x:=e;rw [e'] at hy;exact zBl h hx ((zg5 _ _).2 hy)
structure RgOk (b:Bk) (N:List ByteArray) (g:ByteArray->ByteArray):Prop where
 n:NoD N
 k:∀ n ∈ N,¬atL n (b.slots.map (·.req.name)) < 0
 l:∀ n ∈ N,(zpA b n).ls=[]
 h:NoD (N.map g)
 e:∀ n ∈ N,zfA (g n)=0
def zzo (p:Per):(zaK p).Pairwise (· < ·):=by
 unfold zaK;rw [List.pairwise_flatMap];refine ⟨λk _=>by split<;>simp,?_⟩
 refine List.pairwise_lt_range.imp fun {a b} hab x hx y hy=>?_
 split at hx<;>split at hy<;>simp at hx hy
 omega
def znD {l:Lim} (h:zr l=0):(zaq l).Pairwise (· < ·):=by
 have h0:=zaa h;rw [ze0 h,List.pairwise_flatMap];refine ⟨λd _=>?_,?_⟩
 ·unfold zno;rw [xb8];refine List.pairwise_lt_range.imp fun {a b} hab=>?_
  simp only [zzP];have:l.step*(l.from_+a)+l.step*1<=l.step*(l.from_+b):=by
   rw [<-Int.mul_add];exact Int.mul_le_mul_of_nonneg_left (by omega) (by omega)
  omega
 ·refine (List.Pairwise.and_mem.1 (zzo l.per)).imp fun {a b} hab x hx y hy=>?_
  have m1:=zaX h (show x ∈ zN l a by rw [zbK h,if_pos hab.1];exact hx)
  have m2:=zaX h (show y ∈ zN l b by rw [zbK h,if_pos hab.2.1];exact hy)
  omega
def zoY {l:Lim} (h:zr l=0) (d:Int):(zN l d).Pairwise (· < ·):=by
 have h0:=zaa h;rw [zbK h]
 split
 ·unfold zno;rw [xb8];refine List.pairwise_lt_range.imp fun {a b} hab=>?_
  simp only [zzP];have:l.step*(l.from_+a)+l.step*1<=l.step*(l.from_+b):=by
   rw [<-Int.mul_add];exact Int.mul_le_mul_of_nonneg_left (by omega) (by omega)
  omega
 ·exact .nil
def zr4 {l:Lim} (h:zr l=0) (d:Int):zr5 l d=zN l d:=by
 have h0:=zaa h;have hp:=zaI h0.2.2.2.2.2.2.2.1;unfold zr5
 by_cases hb:zho l d=true
 ·have hb2:=hb;simp only [zho,xbs,xbn,decide_eq_false_iff_not,xb5] at hb2;have e1:zn [zr l,rng d 0 99999]=0:=zi.2 ⟨h,zi.2 ⟨zdR.2 (by omega),rfl⟩⟩
  rw [zvI,if_pos e1,if_pos hb2.2,if_pos rfl]
 ·have:zN l d=[]:=by rw [zN,if_neg hb]
  rw [this];split<;>rfl
def zkJ (a b:Ky):Prop:=a.1 < b.1\/a.1=b.1/\a.2 < b.2
def ziI (a:Ky):¬zkJ a a:=by unfold zkJ;omega
def zly (a b c:Ky) (h:zkJ a b) (k:zkJ b c):zkJ a c:=by unfold zkJ at *;omega
def zeS {ls:List Lim} {i:Nat} {l:Lim} (hi:ls[i]?=some l) (h:zr l=0) (d:Int):zja ls (i,d)=zN l d:=by
 unfold zja;simp only [hi,zr4 h]
def zf0 {o:Mov} {i:Nat} {l:Lim} {L:List Int} {k:Ky}:k ∈ zfD o i l L↔k.1=i/\k.2 ∈ L/\k.2<=o.moment/\o.moment < k.2+l.len:=by
 unfold zfD;simp only [xaM,xbJ,xaB,decide_eq_true_eq]
 constructor
 ·rintro ⟨x,⟨h1,h2,h3⟩,rfl⟩;exact ⟨rfl,h1,h2,h3⟩
 ·rintro ⟨h0,h1,h2,h3⟩;exact ⟨k.2,⟨h1,h2,h3⟩,Prod.ext h0.symm rfl⟩
def zf6 {ls:List Lim} (hl:∀ l ∈ ls,zr l=0) {o:Mov} {i:Nat} {k:Ky}:k ∈ zsx ls o i↔k.1=i/\∃ l,ls[i]?=some l/\k.2 ∈ zaq l/\inW l k.2 o=true:=by
 unfold zsx;cases hi:ls[i]? with
 | none=>simp
 | some l=>
  have h:=hl l (xae hi);have h0:=zaa h;simp only [xaD]
  by_cases hc:zbI l o.kind o.term=true
  ·rw [if_pos hc,xaz]
   constructor
   ·rintro ⟨e,_,hk⟩;unfold zzR at hk;obtain ⟨h1,h2,h3,h4⟩:=zf0.1 hk;rw [zeS hi h] at h2;exact ⟨h1,l,rfl,zz5 h h2,by simp only [inW,hc,xbb,xaB,decide_eq_true_eq];exact ⟨h3,h4⟩⟩
   ·rintro ⟨h1,l',rfl,h2,h3⟩;simp only [inW,xaB,decide_eq_true_eq] at h3;have hd:=zz6 h h2;refine ⟨(k.2 / 1440 - o.moment / 1440+1).toNat,xaQ.2 (by omega),?_⟩
    unfold zzR;refine zf0.2 ⟨h1,?_,h3.2.1,h3.2.2⟩;rw [zeS hi h,show o.moment / 1440 - 1+((k.2 / 1440 - o.moment / 1440+1).toNat:Int)=k.2 / 1440 by omega];exact hd
  ·rw [if_neg hc]
   constructor
   ·intro x;cases x
   ·rintro ⟨_,l',rfl,_,h3⟩;simp only [inW,xaB] at h3;exact absurd h3.1 hc
def zg6 {ls:List Lim} (hl:∀ l ∈ ls,zr l=0) {o:Mov} {k:Ky}:k ∈ arA ls o↔∃ l,ls[k.1]?=some l/\k.2 ∈ zaq l/\inW l k.2 o=true:=by
 unfold arA;rw [xaz]
 constructor
 ·rintro ⟨i,_,h⟩;obtain ⟨h1,h2⟩:=(zf6 hl).1 h;rw [h1];exact h2
 ·rintro ⟨l,h1,h2⟩;exact ⟨k.1,xaQ.2 (xaa.1 h1).1,(zf6 hl).2 ⟨rfl,l,h1,h2⟩⟩
def zzS {ls:List Lim} (hl:∀ l ∈ ls,zr l=0) (o:Mov):(arA ls o).Pairwise zkJ:=by
 unfold arA;rw [List.pairwise_flatMap];refine ⟨λi _=>?_,List.pairwise_lt_range.imp fun {a b} hab x hx y hy=>.inl ?_⟩
 ·unfold zsx;cases hi:ls[i]? with
  | none=>exact .nil
  | some l=>
   have h:=hl l (xae hi);simp only []
   split
   ·rw [List.pairwise_flatMap];refine ⟨λe _=>?_,List.pairwise_lt_range.imp fun {a b} hab x hx y hy=>.inr ?_⟩
    ·unfold zzR zfD;rw [xb8,zeS hi h];exact ((zoY h _).filter _).imp λhh=>.inr ⟨rfl,hh⟩
    ·obtain ⟨x1,x2,_⟩:=zf0.1 hx;obtain ⟨y1,y2,_⟩:=zf0.1 hy;rw [zeS hi h] at x2 y2;have:=zaX h x2;have:=zaX h y2
     omega
   ·exact .nil
 ·rw [((zf6 hl).1 hx).1,((zf6 hl).1 hy).1];exact hab
def zkx {ls:List Lim} (hl:∀ l ∈ ls,zr l=0) (o:Mov):(arA ls o).Nodup:=by
 refine List.Pairwise.imp (R:=zkJ) ?_ (zzS hl o);intro a b h e;rw [<-e] at h;exact ziI a h
def zlB (ls:List Lim) (k:Ky):Prop:=∃ l,ls[k.1]?=some l/\k.2 ∈ zaq l
structure zhX (ls:List Lim) (b:Brd):Prop where
 g:GOk ls b.G
 n:(b.C.map (·.1)).Nodup
 w:∀ e ∈ b.C,zlB ls e.1
def znp (ls:List Lim):zhX ls ⟨[],[]⟩:=⟨λk L h=>by simp [ziL] at h,by simp,λe h=>by cases h⟩
theorem ziJ {β:Type} {k:Ky} {v:β}:∀ {E:List (Ky × β)} {e:Ky × β},e ∈ zjk k v E->e.1=k\/e ∈ E
 | [],e,h=>by simp [zjk] at h;exact .inl (by rw [h])
 | x::E,e,h=>by
  rw [zjk] at h
  split at h
  ·rcases xaF.1 h with rfl|h
   ·exact .inl rfl
   ·exact .inr (xaI _ h)
  ·rcases xaF.1 h with rfl|h
   ·exact .inr (by simp)
   ·rcases ziJ h with h|h
    ·exact .inl h
    ·exact .inr (xaI _ h)
theorem zhF {β:Type} {k:Ky} {v:β}:∀ {E:List (Ky × β)},(E.map (·.1)).Nodup->((zjk k v E).map (·.1)).Nodup
 | [],_=>by simp [zjk]
 | x::E,h=>by
  obtain ⟨h1,h2⟩:=xb0.1 h;rw [zjk]
  split
  ·rename_i e;subst e;exact h
  ·rename_i hne;refine xb0.2 ⟨λhm=>?_,zhF h2⟩
   obtain ⟨e,he,e1⟩:=xaM.1 hm
   rcases ziJ he with hk|hk
   ·exact hne (e1.symm.trans hk)
   ·exact h1 (xaM.2 ⟨e,hk,e1⟩)
theorem zl8 (t:Int) {P:Ky->Prop}:∀ (W:List Ky) (C:List (Ky × Int)),(C.map (·.1)).Nodup->(∀ e ∈ C,P e.1)->(∀ k ∈ W,P k)->((W.foldl (zf8 t) C).map (·.1)).Nodup/\∀ e ∈ W.foldl (zf8 t) C,P e.1
 | [],C,h1,h2,_=>⟨h1,h2⟩
 | k::W,C,h1,h2,h3=>by
  rw [xbm];refine zl8 t W _ (zhF h1) (λe he=>?_) λk hk=>h3 k (xaI _ hk)
  rcases ziJ he with h|h
  ·rw [h];exact h3 k (by simp)
  ·exact h2 e h
def zzU {ls:List Lim} (hl:∀ l ∈ ls,zr l=0) {b:Brd} (h:zhX ls b) (o:Mov) (t:Int):zhX ls (zpg ls b o t)/\∀ k,zbh (zpg ls b o t).C k=zbh b.C k+if k ∈ arA ls o then t else 0:=by
 obtain ⟨a1,a2⟩:=znr h.g o;have q:=zl8 t (P:=zlB ls) (arA ls o) b.C h.n h.w λk hk=>by
  obtain ⟨l,h1,h2,_⟩:=(zg6 hl).1 hk;exact ⟨l,h1,h2⟩
 refine ⟨⟨a2,?_,?_⟩,λk=>?_⟩
 ·unfold zpg;rw [a1];exact q.1
 ·unfold zpg;rw [a1];exact q.2
 ·unfold zpg;rw [a1];exact zi6 t k _ _ (zkx hl o)
def zy (ls:List Lim) (b:Brd) (own:List Mov) (t:Int):Brd:=own.foldl (λb o=>zpg ls b o t) b
def ovr (ls:List Lim) (b:Brd) (k:Ky):Bool:=decide (zdn ls k.1 < zbh b.C k)
def zvy (ls:List Lim) (st:List Ky × Brd) (o:Mov):List Ky × Brd:=(st.1++(arn ls st.2.G o).1.filter (ovr ls st.2),⟨st.2.C,(arn ls st.2.G o).2⟩)
def zzx (ls:List Lim) (b:Brd) (own:List Mov):List Ky × Brd:=own.foldl (zvy ls) ([],b)
def rfL (ls:List Lim) (b:Brd) (own:List Mov):List Ky:=(zzx ls (zy ls b own 1) own).1
def rfB (ls:List Lim) (b:Brd) (own:List Mov):Brd:=zy ls (zzx ls (zy ls b own 1) own).2 own (-1)
def zm6 (ls:List Lim) (own:List Mov) (k:Ky):Nat:=(own.filter λo=>decide (k ∈ arA ls o)).length
def zre (ls:List Lim) (o:Mov) (own:List Mov) (k:Ky):(zm6 ls (o::own) k:Int)=zm6 ls own k+if k ∈ arA ls o then 1 else 0:=by
 unfold zm6;rw [xa3]
 by_cases h:k ∈ arA ls o
 ·simp [h]
 ·simp [h]
theorem zcP {ls:List Lim} (hl:∀ l ∈ ls,zr l=0) (t:Int):∀ (own:List Mov) (b:Brd),zhX ls b->zhX ls (zy ls b own t)/\∀ k,zbh (zy ls b own t).C k=zbh b.C k+t*zm6 ls own k
 | [],b,h=>⟨h,λk=>by simp [zy,zm6]⟩
 | o::own,b,h=>by
  obtain ⟨h1,h2⟩:=zzU hl h o t;obtain ⟨h3,h4⟩:=zcP hl t own _ h1;refine ⟨h3,λk=>?_⟩
  rw [show zy ls b (o::own) t=zy ls (zpg ls b o t) own t from rfl,h4,h2,zre,Int.mul_add]
  split<;>omega
theorem zl0 {ls:List Lim}:∀ (own:List Mov) (st:List Ky × Brd),zhX ls st.2->zhX ls (own.foldl (zvy ls) st).2/\(own.foldl (zvy ls) st).2.C=st.2.C/\(own.foldl (zvy ls) st).1=st.1++own.flatMap λo=>(arA ls o).filter λk=>decide (zdn ls k.1 < zbh st.2.C k)
 | [],st,h=>⟨h,rfl,by simp⟩
 | o::own,st,h=>by
  obtain ⟨a1,a2⟩:=znr h.g o;obtain ⟨h1,h2,h3⟩:=zl0 own (zvy ls st o) ⟨a2,h.n,h.w⟩;refine ⟨h1,h2,?_⟩;rw [xbm,h3,xas,<-xaj]
  congr 1
  show st.1++_=_;rw [a1];rfl
def zwk {ls:List Lim} (hl:∀ l ∈ ls,zr l=0) {b:Brd} (h:zhX ls b) (own:List Mov):zhX ls (rfB ls b own)/\∀ k,zbh (rfB ls b own).C k=zbh b.C k:=by
 obtain ⟨h1,h2⟩:=zcP hl 1 own b h;obtain ⟨h3,h4,_⟩:=zl0 own ([],zy ls b own 1) h1;obtain ⟨h5,h6⟩:=zcP hl (-1) own _ h3;refine ⟨h5,λk=>?_⟩
 show zbh (zy ls (own.foldl (zvy ls) ([],zy ls b own 1)).2 own (-1)).C k=_;rw [h6 k,h4];show zbh (zy ls b own 1).C k+_=_;rw [h2 k];omega
def zxJ {ls:List Lim} (hl:∀ l ∈ ls,zr l=0) {b:Brd} (h:zhX ls b) (own:List Mov) (k:Ky):k ∈ rfL ls b own↔(∃ o ∈ own,k ∈ arA ls o)/\zdn ls k.1 < zbh b.C k+zm6 ls own k:=by
 obtain ⟨h1,h2⟩:=zcP hl 1 own b h;obtain ⟨_,_,h5⟩:=zl0 own ([],zy ls b own 1) h1;unfold rfL zzx;rw [h5,xaG];simp only [xaz,xbJ,decide_eq_true_eq,h2,Int.one_mul]
 constructor
 ·rintro ⟨o,h3,h4,h5⟩;exact ⟨⟨o,h3,h4⟩,h5⟩
 ·rintro ⟨⟨o,h3,h4⟩,h5⟩;exact ⟨o,h3,h4,h5⟩
def zeV (ls:List Lim) (b:Brd) (P:List Mov):Prop:=zhX ls b/\∀ (k:Ky) (l:Lim),ls[k.1]?=some l->k.2 ∈ zaq l->zbh b.C k=zbb l P k.2
def ziS {ls:List Lim} (hl:∀ l ∈ ls,zr l=0) {k:Ky} {l:Lim} (h1:ls[k.1]?=some l) (h2:k.2 ∈ zaq l) (own:List Mov):(zm6 ls own k:Int)=zbb l own k.2:=by
 have h0:=zaa (hl l (xae h1));rw [zbJ (by omega),zm6]
 congr 2
 refine List.filter_congr λo _=>?_
 by_cases h:inW l k.2 o=true
 ·rw [h];exact decide_eq_true ((zg6 hl).2 ⟨l,h1,h2,h⟩)
 ·rw [xbp] at h;rw [h];refine decide_eq_false λhm=>?_
  obtain ⟨l',e1,_,e2⟩:=(zg6 hl).1 hm;rw [h1] at e1;rw [<-xa0 e1,h] at e2;cases e2
def znq (ls:List Lim):zeV ls ⟨[],[]⟩ []:=⟨znp ls,λk l _ _=>by simp [zbh,ziL,zbb,cntW,ofL,ltN]⟩
def zsf {ls:List Lim} (hl:∀ l ∈ ls,zr l=0) {b:Brd} {P:List Mov} (h:zeV ls b P) (own:List Mov):zeV ls (zy ls b own 1) (P++own):=by
 obtain ⟨h1,h2⟩:=zcP hl 1 own b h.1;refine ⟨h1,λk l k1 k2=>?_⟩
 have h0:=zaa (hl l (xae k1));rw [h2,h.2 k l k1 k2,zrR (by omega),ziS hl k1 k2,Int.one_mul]
def zjF {ls:List Lim} (hl:∀ l ∈ ls,zr l=0) {b:Brd} {P:List Mov} (h:zeV ls b P) (own:List Mov):zeV ls (rfB ls b own) P:=by
 obtain ⟨h1,h2⟩:=zwk hl h.1 own;exact ⟨h1,λk l k1 k2=>by rw [h2,h.2 k l k1 k2]⟩
def zim {ls:List Lim} (hl:∀ l ∈ ls,zr l=0) {b:Brd} {P Q:List Mov} (h:zeV ls b P) (hp:P.Perm Q):zeV ls b Q:=⟨h.1,λk l k1 k2=>by
 have h0:=zaa (hl l (xae k1));rw [h.2 k l k1 k2,zng (by omega) hp]⟩
def xrB (ls:List Lim) (all own:List Mov) (l:Lim) (x:Int):Bool:=decide (l.most < zbb l all x) && decide (0 < zbb l own x)
def xrI (ls:List Lim) (all own:List Mov) (i:Nat):List Ky:=match ls[i]? with
 | some l=>((zaq l).filter (xrB ls all own l)).map λx=>(i,x)
 | none=>[]
def xrW (ls:List Lim) (all own:List Mov):List Ky:=(List.range ls.length).flatMap (xrI ls all own)
def zhZ {ls:List Lim} {all own:List Mov} {i:Nat} {k:Ky}:k ∈ xrI ls all own i↔k.1=i/\∃ l,ls[i]?=some l/\k.2 ∈ zaq l/\l.most < zbb l all k.2/\0 < zbb l own k.2:=by
 unfold xrI;cases hi:ls[i]? with
 | none=>simp
 | some l=>
  simp only [xaM,xbJ,xrB,xaB,decide_eq_true_eq,xaD]
  constructor
  ·rintro ⟨x,⟨h1,h2,h3⟩,rfl⟩;exact ⟨rfl,l,rfl,h1,h2,h3⟩
  ·rintro ⟨h0,l',rfl,h1,h2,h3⟩;exact ⟨k.2,⟨h1,h2,h3⟩,Prod.ext h0.symm rfl⟩
def zhY {ls:List Lim} {all own:List Mov} {k:Ky}:k ∈ xrW ls all own↔∃ l,ls[k.1]?=some l/\k.2 ∈ zaq l/\l.most < zbb l all k.2/\0 < zbb l own k.2:=by
 unfold xrW;rw [xaz]
 constructor
 ·rintro ⟨i,_,h⟩;obtain ⟨h1,h2⟩:=zhZ.1 h;rw [h1];exact h2
 ·rintro ⟨l,h1,h2⟩;exact ⟨k.1,xaQ.2 (xaa.1 h1).1,zhZ.2 ⟨rfl,l,h1,h2⟩⟩
def zph {ls:List Lim} (hl:∀ l ∈ ls,zr l=0) (all own:List Mov):(xrW ls all own).Pairwise zkJ:=by
 unfold xrW;rw [List.pairwise_flatMap];refine ⟨λi _=>?_,List.pairwise_lt_range.imp fun {a b} hab x hx y hy=>.inl ?_⟩
 ·unfold xrI;cases hi:ls[i]? with
  | none=>exact .nil
  | some l=>
   simp only [];rw [xb8];exact ((znD (hl l (xae hi))).filter _).imp λhh=>.inr ⟨rfl,hh⟩
 ·rw [(zhZ.1 hx).1,(zhZ.1 hy).1];exact hab
def rf_eq {ls:List Lim} (hl:∀ l ∈ ls,zr l=0) {b:Brd} {P all own:List Mov} (h:zeV ls b P) (hp:all.Perm (P++own)) {W:List Ky} (hs:W.Pairwise zkJ) (hm:∀ k,k ∈ W↔k ∈ rfL ls b own):W=xrW ls all own:=by
 refine zpx ziI zly hs (zph hl _ _) λk=>?_
 rw [hm,zxJ hl h.1,zhY];have key:∀ l,ls[k.1]?=some l->k.2 ∈ zaq l->zbh b.C k+(zm6 ls own k:Int)=zbb l all k.2/\zdn ls k.1=l.most/\(zm6 ls own k:Int)=zbb l own k.2:=λl k1 k2=>by
  have h0:=zaa (hl l (xae k1));refine ⟨?_,?_,ziS hl k1 k2 own⟩
  ·rw [h.2 k l k1 k2,ziS hl k1 k2,zng (by omega) hp,zrR (by omega)]
  ·simp only [zdn,xar,k1]
 constructor
 ·rintro ⟨⟨o,ho,hk⟩,hx⟩;obtain ⟨l,k1,k2,k3⟩:=(zg6 hl).1 hk;obtain ⟨e1,e2,e3⟩:=key l k1 k2;refine ⟨l,k1,k2,by omega,?_⟩
  have:0 < zm6 ls own k:=List.length_pos_of_mem (xbJ.2 ⟨ho,decide_eq_true hk⟩)
  omega
 ·rintro ⟨l,k1,k2,k3,k4⟩;obtain ⟨e1,e2,e3⟩:=key l k1 k2;have:0 < zm6 ls own k:=by omega
  obtain ⟨o,ho⟩:=List.exists_mem_of_length_pos this;obtain ⟨o1,o2⟩:=xbJ.1 ho;exact ⟨⟨o,o1,of_decide_eq_true o2⟩,by omega⟩
def zbu {α:Type} [DecidableEq α]:List α->List α
 | []=>[]
 | [a]=>[a]
 | a::b::r=>if a=b then zbu (b::r) else a::zbu (b::r)
theorem zeQ {α:Type} [DecidableEq α] {x:α}:∀ {L:List α},x ∈ zbu L↔x ∈ L
 | []=>Iff.rfl
 | [a]=>Iff.rfl
 | a::b::r=>by
  have ih:=zeQ (x:=x) (L:=b::r);rw [zbu]
  split
  ·rename_i e;rw [ih,e];simp
  ·rw [xaF,ih,xaF (a:=x) (b:=a)]
theorem zkr {α:Type} [DecidableEq α] {lt:α->α->Prop} (tr:∀ a b c,lt a b->lt b c->lt a c):∀ {L:List α},L.Pairwise (λa b=>a=b\/lt a b)->(zbu L).Pairwise lt
 | [],_=>.nil
 | [a],_=>by simp [zbu]
 | a::b::r,h=>by
  obtain ⟨h1,h2⟩:=xbz.1 h;have ih:=zkr tr h2;rw [zbu]
  split
  ·exact ih
  ·rename_i hne;refine xbz.2 ⟨λx hx=>?_,ih⟩
   have hab:lt a b:=(h1 b (by simp)).resolve_left hne
   rcases xaF.1 (zeQ.1 hx) with rfl|hx
   ·exact hab
   ·rcases (xbz.1 h2).1 x hx with rfl|hlt
    ·exact hab
    ·exact tr _ _ _ hab hlt
def zxI {ls:List Lim} (hl:∀ l ∈ ls,zr l=0) {b:Brd} {P all own:List Mov} (h:zeV ls b P) (hp:all.Perm (P++own)) {S:List Ky} (hs:S.Pairwise λa b=>a=b\/zkJ a b) (hm:S.Perm (rfL ls b own)):zbu S=xrW ls all own:=
 rf_eq hl h hp (zkr zly hs) λk=>by rw [zeQ,hm.mem_iff]
def exB (ls:List Lim) (b:Brd):Bool:=b.C.any λe=>decide (zdn ls e.1.1 < e.2)
def zR {L:List Wis} (h:zav L=0):L.length<=64/\(∀ (i:Nat) (w:Wis),L[i]?=some w->zcB L i w=0/\zjj L i w=0):=by
 unfold zav at h
 split at h
 ·cases h
 ·rename_i hn;obtain ⟨h1,h2⟩:=zi.1 h;obtain ⟨h2,_⟩:=zi.1 h2;exact ⟨by omega,λi w hi=>⟨zfY h1 hi,zfY h2 hi⟩⟩
def zz4 {L:List Wis} (h:zav L=0):NoD (zkG L):=by
 obtain ⟨hn,h⟩:=zR h;refine zBk (f:=λi x=>if 0<=atL x ((zkG L).take i) then 9 else 0) (λi x e k=>by rw [if_pos k] at e;cases e) ?_
 refine zhI λe he=>?_
 obtain ⟨i,hi⟩:=xbu.1 he;rw [xcm] at hi;unfold zkG at hi;rw [xal] at hi;cases hw:L[i]? with
 | none=>rw [hw] at hi;cases hi
 | some w=>
  rw [hw] at hi;have:=(h i w hw).1;unfold zcB at this;obtain ⟨_,this⟩:=zi.1 this;obtain ⟨this,_⟩:=zi.1 this;have hi:(if 0<=atL w.req.name ((zkG L).take i) then (9:Int) else 0)=e:=xa0 hi
  rw [<-hi];unfold zeH zkG at this;unfold zkG;rw [<-xbF];exact this
def zrj {L:List Wis} (h:zav L=0) {i:Nat} {w:Wis} (hw:L[i]?=some w):zeH w.req.name L=i:=zyp (zz4 h) (by unfold zkG;rw [xal,hw];rfl)
structure LnkTo (L:List Wis) (i k:Nat) (a b:Wis):Prop where
 at_a:L[i]?=some a
 at_b:L[k]?=some b
 ne:k≠i
 lab:zau L i=k
 lba:zau L k=i
 kind:b.req.kind≠a.req.kind
 per:b.req.per=a.req.per
def zcH {L:List Wis} (h:zav L=0) {i:Nat} {a:Wis} (ha:L[i]?=some a):zau L i=-1\/∃ k b,LnkTo L i k a b:=by
 have he:=((zR h).2 i a ha).2;unfold zjj at he
 by_cases hs:a.req.link=s0
 ·left;unfold zau zuE;rw [ha];simp only [if_pos hs]
 ·right
  rw [if_neg hs] at he;cases hk:L[(zeH a.req.link L).toNat]? with
  | none=>rw [hk] at he;cases he
  | some b=>
   rw [hk] at he;simp only at he
   split at he
   ·cases he
   ·rename_i h0
    split at he
    ·cases he
    ·rename_i hn;simp only [not_or,Decidable.not_not] at hn;obtain ⟨n1,n2,n3,n4,n5,n6⟩:=hn;have e1:zau L i=((zeH a.req.link L).toNat:Nat):=by
      unfold zau zuE;rw [ha];simp only [if_neg hs];omega
     refine ⟨(zeH a.req.link L).toNat,b,ha,hk,by omega,e1,?_,n3,?_⟩
     ·have hna:a.req.name≠s0:=by
       have:=((zR h).2 i a ha).1;unfold zcB zfI zbY at this;have hq:=(zi.1 (zi.1 (zi.1 this).1).1).1;intro e;rw [e] at hq
       revert hq
       decide
      unfold zau zuE;rw [hk];simp only;rw [n2,if_neg hna,zrj h ha]
     ·cases hb:b.req.per with|mk p q r=>cases hc:a.req.per with|mk p' q' r'=>
       rw [hb,hc] at n4 n5 n6;simp only at n4 n5 n6;rw [n4,n5,n6]
def zY (L:List Wis) (i:Nat):Nat:=if 0<=zau L i/\zau L i < i then (zau L i).toNat else i
def zgf {L:List Wis} {i:Nat} {u:Unt}:u ∈ za7 L i↔u=((i:Int),zau L i)/\(zau L i < 0\/(i:Int) < zau L i):=by
 unfold za7
 split
 ·rename_i h;simp [h]
 ·rename_i h;simp [h]
def zdd {L:List Wis} {u:Unt}:u ∈ zq L↔∃ i:Nat,i < L.length/\u=((i:Int),zau L i)/\(zau L i < 0\/(i:Int) < zau L i):=by
 unfold zq;simp only [xaz,xaQ,zgf]
def zjs (L:List Wis):(zq L).Pairwise λu v=>u.1 < v.1:=by
 unfold zq;rw [List.pairwise_flatMap];refine ⟨λi _=>by unfold za7;split<;>simp,List.pairwise_lt_range.imp fun {a b} hab x hx y hy=>?_⟩
 rw [(zgf.1 hx).1,(zgf.1 hy).1];show (a:Int) < b
 omega
def zj4 {L:List Wis} {i:Nat} (h:zau L i < 0\/(i:Int) < zau L i):zY L i=i:=by unfold zY;rw [if_neg (by omega)]
def zqW {L:List Wis} {i k:Nat} {a b:Wis} (h:LnkTo L i k a b) (hik:i < k):zY L k=i:=by
 unfold zY;rw [if_pos (by rw [h.lba];omega),h.lba];rfl
def cmpK (x y:Ky):Int:=zn [zi9 x.1 y.1,zi9 x.2 y.2]
def leK (x y:Ky):Bool:=decide (cmpK x y<=0)
def ziH {x y:Ky}:leK x y=true↔x=y\/zkJ x y:=by
 unfold leK cmpK zkJ;rw [decide_eq_true_eq];simp only [zn]
 constructor
 ·intro h
  by_cases h1:zi9 (x.1:Int) y.1=0
  ·rw [if_pos h1] at h;have e1:=(zgZ _ _).1 h1
   by_cases h2:zi9 x.2 y.2=0
   ·left;exact Prod.ext (by omega) ((zgZ _ _).1 h2)
   ·rw [if_neg h2] at h;have:=(zgY x.2 y.2).1 (by omega)
    right;right;omega
  ·rw [if_neg h1] at h;have:=(zgY (x.1:Int) y.1).1 (by omega)
   right;left;omega
 ·rintro (rfl|h|⟨h1,h2⟩)
  ·rw [if_pos ((zgZ _ _).2 rfl),if_pos ((zgZ _ _).2 rfl)];decide
  ·have:=(zgY (x.1:Int) y.1).2 (by omega)
   rw [if_neg (by omega)];omega
  ·rw [if_pos ((zgZ _ _).2 (by omega))]
   have:=(zgY x.2 y.2).2 h2;rw [if_neg (by omega)];omega
def zbO (L:List Ky):List Ky:=L.mergeSort leK
def zpz (L:List Ky):(zbO L).Pairwise λa b=>a=b\/zkJ a b:=by
 refine (List.pairwise_mergeSort (le:=leK) (λa b c h k=>?_) (λa b=>?_) L).imp λh=>ziH.1 h
 ·rw [ziH] at *
  rcases h with rfl|h
  ·exact k
  ·rcases k with rfl|k
   ·exact .inr h
   ·exact .inr (zly _ _ _ h k)
 ·rw [xbd,ziH,ziH]
  by_cases h1:a.1=b.1
  ·by_cases h2:a.2=b.2
   ·exact .inl (.inl (Prod.ext h1 h2))
   ·unfold zkJ;omega
  ·unfold zkJ;omega
def rfW (ls:List Lim) (b:Brd) (own:List Mov):List Ky:=zbu (zbO (rfL ls b own))
def zjE {ls:List Lim} (hl:∀ l ∈ ls,zr l=0) {b:Brd} {P all own:List Mov} (h:zeV ls b P) (hp:all.Perm (P++own)):rfW ls b own=xrW ls all own:=
 zxI hl h hp (zpz _) (List.mergeSort_perm _ _)
def zfB (L:List Wis) (i:Nat) (m:Int):List Mov:=match L[i]? with|some w=>zbF (w.req.at m)|none=>[]
def zan (L:List Wis) (u:Unt) (o:Opt):List Mov:=zfB L u.1.toNat o.1++if u.2 < 0 then [] else zfB L u.2.toNat o.2
def zbU (L:List Wis):List Res:=L.map λw=>⟨w.req.name,0,false⟩
def zji (R:List Res) (i:Nat) (m:Int):List Res:=match R[i]? with|some r=>R.set i ⟨r.name,m,true⟩|none=>R
def zn9 (R:List Res) (u:Unt) (o:Opt):List Res:=if u.2 < 0 then zji R u.1.toNat o.1 else zji (zji R u.1.toNat o.1) u.2.toNat o.2
def zeA (L:List Wis) (R:List Res) (f:Nat->Bool) (i:Nat):List Mov:=match R[i]? with|some r=>if (r.gr && f i)=true then zfB L i r.minute else []|none=>[]
def zbL (L:List Wis) (R:List Res) (f:Nat->Bool):List Mov:=(List.range L.length).flatMap (zeA L R f)
def zcS (R:List Res) (i:Nat) (m:Int):(zji R i m).length=R.length:=by unfold zji;split<;>simp
def zpG {R:List Res} {i:Nat} {r:Res} (h:R[i]?=some r) (m:Int):zji R i m=R.set i ⟨r.name,m,true⟩:=by unfold zji;rw [h]
def zpF {R:List Res} {i:Nat} {r:Res} (h:R[i]?=some r) (m:Int):(zji R i m)[i]?=some ⟨r.name,m,true⟩:=by
 rw [zpG h,xbr (xaa.1 h).1]
def zgj (R:List Res) {i j:Nat} (h:j≠i) (m:Int):(zji R i m)[j]?=R[j]?:=by
 unfold zji
 split
 ·rw [xbQ (Ne.symm h)]
 ·rfl
def zez {L:List Wis} {R:List Res} {f g:Nat->Bool} (h:∀ i r,R[i]?=some r->r.gr=true->f i=g i):zbL L R f=zbL L R g:=by
 unfold zbL;refine zcK λi _=>?_
 unfold zeA;cases hr:R[i]? with
 | none=>rfl
 | some r=>
  simp only []
  by_cases hg:r.gr=true
  ·rw [h i r hr hg]
  ·rw [xbp] at hg;simp [hg]
def zlj {L:List Wis} {R:List Res} {f:Nat->Bool} {i:Nat} {r:Res} (hi:i < L.length) (hr:R[i]?=some r) (hg:r.gr=false) (hf:f i=true) (m:Int):(zbL L (zji R i m) f).Perm (zbL L R f++zfB L i m):=by
 have hne:∀ (I:List Nat),(∀ k ∈ I,k≠i)->I.flatMap (zeA L (zji R i m) f)=I.flatMap (zeA L R f):=λI hI=>zcK λk hk=>by
  unfold zeA;rw [zgj R (hI k hk)]
 unfold zbL;rw [zbg _ hi,zbg (zeA L R f) hi,hne _ λk hk=>by have:=xaQ.1 hk;omega,hne _ λk hk=>by have:=List.mem_range'_1.1 hk;omega]
 have e1:zeA L (zji R i m) f i=zfB L i m:=by
  unfold zeA;rw [zpF hr];simp only [hf,Bool.and_self,if_true]
 have e2:zeA L R f i=[]:=by
  unfold zeA;rw [hr];simp [hg]
 rw [e1,e2,xaG,xaj];exact List.perm_append_comm.append_left _
def zyk {L:List Wis} (h:zav L=0) {R:List Res} (hn:R.length=L.length) {i:Nat} (hi:i < L.length) (hu:zau L i < 0\/(i:Int) < zau L i) (hg:∀ j r,R[j]?=some r->r.gr=true->zY L j < i) (o:Opt) :
  (zbL L (zn9 R ((i:Int),zau L i) o) λ_=>true).Perm ((zbL L R λ_=>true)++zan L ((i:Int),zau L i) o)/\(zn9 R ((i:Int),zau L i) o).length=L.length /\
  ∀ j r,(zn9 R ((i:Int),zau L i) o)[j]?=some r->r.gr=true->zY L j < i+1:=by
 obtain ⟨a,ha⟩:=zj hi;obtain ⟨r,hr⟩:=zj (l:=R) (i:=i) (by omega)
 have hl1:=zj4 hu;have hg1:r.gr=false:=by
  cases hx:r.gr
  ·rfl
  ·have:=hg i r hr hx;omega
 unfold zn9 zan;simp only [xar]
 rcases zcH h ha with hk|⟨k,b,hk⟩
 ·rw [if_pos (by omega),if_pos (by omega),xat]
  refine ⟨zlj hi hr hg1 rfl _,by rw [zcS,hn],λj x hj hx=>?_⟩
  by_cases e:j=i
  ·subst e;omega
  ·rw [zgj R e] at hj;have:=hg j x hj hx;omega
 ·have hlab:=hk.lab;have hik:i < k:=by omega
  rw [if_neg (by omega),if_neg (by omega),hlab,xar]
  have hkn:=(xaa.1 hk.at_b).1;obtain ⟨r2,hr2⟩:=zj (l:=R) (i:=k) (by omega)
  have hl2:=zqW hk hik;have hg2:r2.gr=false:=by
   cases hx:r2.gr
   ·rfl
   ·have:=hg k r2 hr2 hx;omega
  have hr3:(zji R i o.1)[k]?=some r2:=by rw [zgj R hk.ne,hr2]
  refine ⟨?_,by rw [zcS,zcS,hn],λj x hj hx=>?_⟩
  ·rw [<-xaj];exact (zlj hkn hr3 hg2 rfl _).trans ((zlj hi hr hg1 rfl _).append_right _)
  ·by_cases e:j=k
   ·subst e;omega
   ·rw [zgj _ e] at hj
    by_cases e2:j=i
    ·subst e2;omega
    ·rw [zgj R e2] at hj;have:=hg j x hj hx;omega
def zkS (ls:List Lim) (L:List Wis) (u:Unt):List Opt->Brd->Option Opt × Brd
 | [],b=>(none,b)
 | o::r,b=>if rfW ls b (zan L u o)=[] then (some o,rfB ls b (zan L u o)) else zkS ls L u r (rfB ls b (zan L u o))
def zli (ls:List Lim) (L:List Wis) (F:Unt->List Opt) (st:List Res × Brd) (u:Unt):List Res × Brd:=match zkS ls L u (F u) st.2 with
 | (some o,b)=>(zn9 st.1 u o,zy ls b (zan L u o) 1)
 | (none,b)=>(st.1,b)
def zyi (ls:List Lim) (L:List Wis) (F:Unt->List Opt) (st:List Res × Brd) (i:Nat):List Res × Brd:=(za7 L i).foldl (zli ls L F) st
def zih (ls:List Lim) (L:List Wis) (F:Unt->List Opt) (k:Nat):List Res × Brd:=(List.range k).foldl (zyi ls L F) (zbU L,⟨[],[]⟩)
def fitX (ls:List Lim) (L:List Wis) (P:List Mov) (u:Unt) (o:Opt):Bool:=(xrW ls (P++zan L u o) (zan L u o)).isEmpty
def srvI (ls:List Lim) (L:List Wis) (F:Unt->List Opt) (R:List Res) (i:Nat):List Res:=if zau L i < 0\/(i:Int) < zau L i then
  match (F ((i:Int),zau L i)).find? (fitX ls L (zbL L R λj=>decide (zY L j < i)) ((i:Int),zau L i)) with
  | some o=>zn9 R ((i:Int),zau L i) o
  | none=>R
 else R
def zh6 (ls:List Lim) (L:List Wis) (F:Unt->List Opt) (k:Nat):List Res:=(List.range k).foldl (srvI ls L F) (zbU L)
theorem zwg {ls:List Lim} (hl:∀ l ∈ ls,zr l=0) (L:List Wis) (u:Unt) {P:List Mov}:∀ (O:List Opt) (b:Brd),zeV ls b P->(zkS ls L u O b).1=O.find? (fitX ls L P u)/\zeV ls (zkS ls L u O b).2 P
 | [],b,h=>⟨rfl,h⟩
 | o::r,b,h=>by
  have e:=zjE hl h (List.Perm.refl (P++zan L u o));rw [zkS,List.find?_cons];unfold fitX
  by_cases hc:rfW ls b (zan L u o)=[]
  ·rw [if_pos hc];rw [e] at hc;rw [hc];exact ⟨rfl,zjF hl h _⟩
  ·rw [if_neg hc];rw [e] at hc;have hf:(xrW ls (P++zan L u o) (zan L u o)).isEmpty=false:=by
    cases hx:xrW ls (P++zan L u o) (zan L u o) with
    | nil=>exact absurd hx hc
    | cons y z=>rfl
   rw [hf];exact zwg hl L u r _ (zjF hl h _)
def ztB (L:List Wis) (f:Nat->Bool):zbL L (zbU L) f=[]:=by
 unfold zbL;refine List.flatMap_eq_nil_iff.2 λi _=>?_
 unfold zeA zbU;rw [xal];cases L[i]?<;>simp
theorem zmn {ls:List Lim} (hl:∀ l ∈ ls,zr l=0) {L:List Wis} (h:zav L=0) (F:Unt->List Opt):∀ k,k<=L.length ->
  (zih ls L F k).1=zh6 ls L F k/\(zh6 ls L F k).length=L.length/\zeV ls (zih ls L F k).2 (zbL L (zh6 ls L F k) λ_=>true)/\∀ j r,(zh6 ls L F k)[j]?=some r->r.gr=true->zY L j < k
 | 0,_=>by
  refine ⟨rfl,by simp [zh6,zbU],?_,λj r hj hr=>?_⟩
  ·have:=ztB L λ_=>true
   simp only [zh6,zih,List.range_zero,xbI,this];exact znq ls
  ·simp only [zh6,List.range_zero,xbI,zbU,xal] at hj;cases hw:L[j]? with
   | none=>rw [hw] at hj;cases hj
   | some w=>rw [hw] at hj;rw [<-xa0 hj] at hr;cases hr
 | i+1,hk=>by
  obtain ⟨h1,h2,h3,h4⟩:=zmn hl h F i (by omega)
  have e1:zih ls L F (i+1)=zyi ls L F (zih ls L F i) i:=by unfold zih;rw [xa7,xaJ];rfl
  have e2:zh6 ls L F (i+1)=srvI ls L F (zh6 ls L F i) i:=by unfold zh6;rw [xa7,xaJ];rfl
  rw [e1,e2];unfold zyi srvI za7
  by_cases hu:zau L i < 0\/(i:Int) < zau L i
  ·rw [if_pos hu,if_pos hu,xbm,xbI];rw [show (zbL L (zh6 ls L F i) λj=>decide (zY L j < i))=zbL L (zh6 ls L F i) λ_=>true from zez λj r hj hr=>decide_eq_true (h4 j r hj hr)]
   obtain ⟨t1,t2⟩:=zwg hl L ((i:Int),zau L i) (F ((i:Int),zau L i)) _ h3;unfold zli;cases hx:zkS ls L ((i:Int),zau L i) (F ((i:Int),zau L i)) (zih ls L F i).2 with
   | mk x b=>
    rw [hx] at t1 t2;simp only at t1 t2;rw [<-t1];cases x with
    | none=>exact ⟨h1,h2,t2,λj r hj hr=>by have:=h4 j r hj hr;omega⟩
    | some o=>
     obtain ⟨p1,p2,p3⟩:=zyk h h2 (show i < L.length by omega) hu h4 o
     simp only;rw [h1];exact ⟨rfl,p2,zim hl (zsf hl t2 _) p1.symm,p3⟩
  ·rw [if_neg hu,if_neg hu,xbI];exact ⟨h1,h2,h3,λj r hj hr=>by have:=h4 j r hj hr;omega⟩
def plcF (L:List Wis) (R:List Res) (f:Nat->Bool) (out:List Mov) (i:Nat):List Mov:=match R[i]? with
 | some r=>if (r.gr && f i)=true then zhC zjb out (zfB L i r.minute) else out
 | none=>out
def zlk (L:List Wis) (R:List Res) (f:Nat->Bool):List Mov:=(List.range L.length).foldl (plcF L R f) []
theorem zjS {L:List Wis} {R:List Res} {f:Nat->Bool}:∀ (I:List Nat) (F:List Mov),I.foldl (plcF L R f) (zcl zjb F)=zcl zjb (F++I.flatMap (zeA L R f))
 | [],F=>by simp
 | i::I,F=>by
  have e:plcF L R f (zcl zjb F) i=zcl zjb (F++zeA L R f i):=by
   unfold plcF zeA;cases R[i]? with
   | none=>simp
   | some r=>
    simp only []
    split
    ·exact zlA F _
    ·rw [xat]
  rw [xbm,e,zjS I,xas,xaj]
def zjR (L:List Wis) (R:List Res) (f:Nat->Bool):zlk L R f=zcl zjb (zbL L R f):=zjS (List.range L.length) []
def zgx (L:List Wis) (R:List Res) (f:Nat->Bool):(zlk L R f).Perm (zbL L R f):=by
 rw [zjR,<-zd9 zee];have:=zog zjb [] (zbL L R f);unfold zhC at this;simpa using this
def za5 (R:List Res) (i:Nat):Res:=(R[i]?).getD ⟨s0,0,false⟩
def grO (R:List Res) (u:Unt):Opt:=((za5 R u.1.toNat).minute,if u.2 < 0 then -1 else (za5 R u.2.toNat).minute)
def grB (R:List Res) (u:Unt):Bool:=(za5 R u.1.toNat).gr
def zyn (L:List Wis) (u:Unt) (o:Opt):Bool:=decide (u.2 < 0) || match L[u.1.toNat]?,L[u.2.toNat]? with
 | some a,some b=>ze8 a b o.1 o.2
 | _,_=>true
def zfy (w:Wis) (x:Res):Int:=zn [if x.name≠w.req.name then 8 else 0,if x.gr=true/\x.minute ∉ zac w then 30 else 0,if x.gr=false/\x.minute≠0 then 19 else 0]
def zkH (L:List Wis) (i:Nat) (x:Res):Int:=match L[i]? with|some w=>zfy w x|none=>0
def zhp (L:List Wis) (R:List Res) (u:Unt):Bool:=decide (0<=u.2) && (((za5 R u.1.toNat).gr != (za5 R u.2.toNat).gr) || ((za5 R u.1.toNat).gr && !zyn L u (grO R u)))
def zc8 (L:List Wis) (R:List Res):Int:=if R.length≠L.length then 2 else zn [zn (R.mapIdx (zkH L)),if (zq L).any (zhp L R)=true then 32 else 0]
def LnkTo.sw {L:List Wis} {i k:Nat} {a b:Wis} (h:LnkTo L i k a b):LnkTo L k i b a:=⟨h.at_b,h.at_a,h.ne.symm,h.lba,h.lab,h.kind.symm,h.per.symm⟩
def zbZ {L:List Wis} {R:List Res} (h:zc8 L R=0):R.length=L.length/\(∀ i w,L[i]?=some w->zfy w (za5 R i)=0)/\∀ u ∈ zq L,zhp L R u=false:=by
 unfold zc8 at h
 split at h
 ·cases h
 ·rename_i hn;have hn:R.length=L.length:=by omega
  obtain ⟨h1,h2⟩:=zi.1 h;obtain ⟨h2,_⟩:=zi.1 h2;refine ⟨hn,λi w hw=>?_,λu hu=>?_⟩
  ·obtain ⟨r,hr⟩:=zj (l:=R) (i:=i) (by have:=(xaa.1 hw).1;omega)
   have:=zfY h1 hr;unfold zkH at this;rw [hw] at this;unfold za5;rw [hr];exact this
  ·cases hb:zhp L R u
   ·rfl
   ·rw [if_pos (xbj.2 ⟨u,hu,hb⟩)] at h2;cases h2
def zdz {w:Wis} {x:Res} (h:zfy w x=0):x.name=w.req.name/\(x.gr=true->x.minute ∈ zac w)/\(x.gr=false->x.minute=0):=by
 unfold zfy at h;obtain ⟨h1,h⟩:=zi.1 h;obtain ⟨h2,h⟩:=zi.1 h;obtain ⟨h3,_⟩:=zi.1 h;refine ⟨?_,λhg=>?_,λhg=>?_⟩
 ·refine Decidable.byContradiction λk=>?_
  rw [if_pos k] at h1;cases h1
 ·refine Decidable.byContradiction λk=>?_
  rw [if_pos ⟨hg,k⟩] at h2;cases h2
 ·refine Decidable.byContradiction λk=>?_
  rw [if_pos ⟨hg,k⟩] at h3;cases h3
def zBw {L:List Wis} (h:zav L=0) {R:List Res} (hr:zc8 L R=0) {u:Unt} (hu:u ∈ zq L) (hg:grB R u=true):grO R u ∈ zaS L u:=by
 obtain ⟨hn,hE,hB⟩:=zbZ hr;have hb:=hB u hu;obtain ⟨i,hi,rfl,hlk⟩:=zdd.1 hu;obtain ⟨a,ha⟩:=zj hi;have h1:=(zdz (hE i a ha)).2.1 hg;unfold zaS grO;simp only [xar,ha]
 rcases zcH h ha with hk|⟨k,b,hk⟩
 ·rw [if_pos (by omega),if_pos (by omega)]
  exact xaM.2 ⟨_,h1,rfl⟩
 ·have hlab:=hk.lab;rw [if_neg (by omega),if_neg (by omega),hlab,xar]
  simp only [hk.at_b];unfold zhp zyn grO at hb;simp only [xar,hlab,ha,hk.at_b,show ¬((k:Int) < 0) by omega,if_false,decide_false,xcp,show (0:Int)<=k by omega,decide_true,xbb] at hb
  have hg':(za5 R i).gr=true:=hg;rw [hg'] at hb;cases hg2:(za5 R k).gr
  ·rw [hg2] at hb;simp at hb
  ·rw [hg2] at hb;have hp:ze8 a b (za5 R i).minute (za5 R k).minute=true:=by simpa using hb
   have h2:=(zdz (hE k b hk.at_b)).2.1 hg2;refine (zhs (zpd a b) (zdS a b)).mem_iff.2 ?_;unfold zdS;exact xaz.2 ⟨_,h1,xaz.2 ⟨_,h2,by rw [if_pos hp];simp⟩⟩
theorem zeI {α β:Type} (f g:α->List β):∀ l:List α,(l.flatMap λx=>f x++g x).Perm (l.flatMap f++l.flatMap g)
 | []=>.refl _
 | x::l=>by
  rw [xas,xas,xas,xaj,xaj];refine List.Perm.append_left _ (((zeI f g l).append_left _).trans ?_);exact List.perm_append_comm_assoc ..
def zqw {L:List Wis} {R:List Res} {f g h:Nat->Bool} (hd:∀ j,f j=true->g j=true->False) (he:∀ j,h j=(f j || g j)):(zbL L R h).Perm (zbL L R f++zbL L R g):=by
 have e:zbL L R h=(List.range L.length).flatMap λi=>zeA L R f i++zeA L R g i:=by
  unfold zbL;refine zcK λi _=>?_
  unfold zeA;cases R[i]? with
  | none=>rfl
  | some r=>
   simp only [he];cases hf:f i<;>cases hg:g i
   ·simp
   ·simp
   ·simp
   ·exact (hd i hf hg).elim
 rw [e];exact zeI _ _ _
def zmH {L:List Wis} {R:List Res} {f:Nat->Bool} (h:∀ j,j < L.length->f j=false):zbL L R f=[]:=by
 unfold zbL;refine List.flatMap_eq_nil_iff.2 λi hi=>?_
 unfold zeA;cases R[i]? with
 | none=>rfl
 | some r=>simp [h i (xaQ.1 hi)]
def zij {L:List Wis} {R:List Res} {f:Nat->Bool} {i:Nat} (hi:i < L.length) (h:∀ j,j < L.length->f j=true->j=i):zbL L R f=zeA L R f i:=by
 have hne:∀ (I:List Nat),(∀ k ∈ I,k < L.length/\k≠i)->I.flatMap (zeA L R f)=[]:=λI hI=>List.flatMap_eq_nil_iff.2 λk hk=>by
  obtain ⟨h1,h2⟩:=hI k hk;have hf:f k=false:=by
   cases hx:f k
   ·rfl
   ·exact absurd (h k h1 hx) h2
  unfold zeA;cases R[k]? with
  | none=>rfl
  | some r=>simp [hf]
 unfold zbL;rw [zbg _ hi,hne _ λk hk=>by have:=xaQ.1 hk;omega,hne _ λk hk=>by have:=List.mem_range'_1.1 hk;omega,xaG,xat]
def unM (L:List Wis) (R:List Res) (u:Unt):List Mov:=if grB R u=true then zan L u (grO R u) else []
def zll {L:List Wis} {R:List Res} {f:Nat->Bool} {i:Nat} (hi:i < R.length) (hf:f i=true):zeA L R f i=if (za5 R i).gr=true then zfB L i (za5 R i).minute else []:=by
 obtain ⟨r,hr⟩:=zj (l:=R) (i:=i) hi;unfold zeA za5;rw [hr];simp [hf]
def zfZ {L:List Wis} (h:zav L=0) {j:Nat} (hj:j < L.length):(zY L j=j/\(zau L j < 0\/(j:Int) < zau L j))\/∃ i a b,LnkTo L j i a b/\i < j/\zY L j=i/\(i:Int) < zau L i:=by
 obtain ⟨a,ha⟩:=zj hj
 rcases zcH h ha with hk|⟨k,b,hk⟩
 ·exact .inl ⟨zj4 (.inl (by omega)),.inl (by omega)⟩
 ·have hne:=hk.ne;have hlab:=hk.lab;have hlba:=hk.lba
  by_cases hjk:j < k
  ·exact .inl ⟨zj4 (.inr (by omega)),.inr (by omega)⟩
  ·exact .inr ⟨k,a,b,hk,by omega,zqW hk.sw (by omega),by omega⟩
def zpl {L:List Wis} (h:zav L=0) {R:List Res} (hr:zc8 L R=0) {i:Nat} (hi:i < L.length) (hu:zau L i < 0\/(i:Int) < zau L i):(zbL L R λj=>decide (zY L j=i)).Perm (unM L R ((i:Int),zau L i)):=by
 obtain ⟨hn,hE,hB⟩:=zbZ hr;have hb:=hB _ (zdd.2 ⟨i,hi,rfl,hu⟩);obtain ⟨a,ha⟩:=zj hi
 rcases zcH h ha with hk|⟨k,b,hk⟩
 ·rw [zij hi λj hj hf=>?_,zll (by omega) (decide_eq_true (zj4 hu))]
  ·unfold unM grB grO zan;simp only [xar,show zau L i < 0 by omega,if_true,xat]
   exact .refl _
  ·have hf:=of_decide_eq_true hf
   rcases zfZ h hj with ⟨h1,_⟩|⟨i',a',b',h1,h2,h3,h4⟩
   ·omega
   ·rw [h3] at hf;subst hf;omega
 ·have hlab:=hk.lab;have hne:=hk.ne;have hik:i < k:=by omega
  have hkn:=(xaa.1 hk.at_b).1;have e1:=zij (R:=R) (f:=λj=>decide (j=i)) hi λj _ hf=>of_decide_eq_true hf
  have e2:=zij (R:=R) (f:=λj=>decide (j=k)) hkn λj _ hf=>of_decide_eq_true hf
  have hcong:zbL L R (λj=>decide (zY L j=i))=zbL L R λj=>decide (j=i) || decide (j=k):=by
   refine zez λj r hj _=>?_
   have hjn:j < L.length:=by have:=(xaa.1 hj).1;omega
   rw [<-Bool.decide_or];refine decide_eq_decide.2 ⟨λhf=>?_,λhf=>?_⟩
   ·rcases zfZ h hjn with ⟨h1,_⟩|⟨i',a',b',h1,h2,h3,h4⟩
    ·left;omega
    ·right
     rw [h3] at hf;subst hf;have:=h1.lba
     omega
   ·rcases hf with rfl|rfl
    ·exact zj4 hu
    ·exact zqW hk hik
  rw [hcong];refine (zqw (f:=λj=>decide (j=i)) (g:=λj=>decide (j=k)) (λj h1 h2=>hne (by rw [<-of_decide_eq_true h1,<-of_decide_eq_true h2])) λj=>rfl).trans ?_
  rw [e1,e2,zll (by omega) (by simp),zll (by omega) (by simp)]
  unfold unM grB grO zan;unfold zhp zyn grO at hb;simp only [xar,hlab,ha,hk.at_b,show ¬((k:Int) < 0) by omega,if_false,decide_false,xcp,show (0:Int)<=k by omega,decide_true,xbb] at hb ⊢
  cases g1:(za5 R i).gr<;>cases g2:(za5 R k).gr
  ·simp
  ·rw [g1,g2] at hb;simp at hb
  ·rw [g1,g2] at hb;simp at hb
  ·simp
theorem zkR {L:List Wis} (h:zav L=0) {R:List Res} (hr:zc8 L R=0):∀ i,i<=L.length->(zbL L R λj=>decide (zY L j < i)).Perm (((List.range i).flatMap (za7 L)).flatMap (unM L R))
 | 0,_=>by rw [zmH λj _=>by simp];simp
 | i+1,hi=>by
  have ih:=zkR h hr i (by omega)
  have e:(zbL L R λj=>decide (zY L j < i+1)).Perm ((zbL L R λj=>decide (zY L j < i))++zbL L R λj=>decide (zY L j=i)):=
   zqw (λj h1 h2=>by have:=of_decide_eq_true h1;have:=of_decide_eq_true h2;omega) λj=>by
    rw [<-Bool.decide_or];exact decide_eq_decide.2 (by omega)
  rw [zbE,xbc];refine e.trans (ih.append ?_)
  by_cases hu:zau L i < 0\/(i:Int) < zau L i
  ·have e2:za7 L i=[((i:Int),zau L i)]:=by unfold za7;rw [if_pos hu]
   rw [e2,xas,xb4,xat];exact zpl h hr (by omega) hu
  ·have e2:za7 L i=[]:=by unfold za7;rw [if_neg hu]
   rw [e2,xb4,zmH λj hj=>decide_eq_false λhf=>?_]
   rcases zfZ h hj with ⟨h1,h2⟩|⟨i',a',b',h1,h2,h3,h4⟩
   ·rw [h1] at hf;subst hf;exact hu h2
   ·rw [h3] at hf;subst hf;exact hu (.inr h4)
def zvO {L:List Wis} {i:Nat} (hu:zau L i < 0\/(i:Int) < zau L i) (hi:i < L.length):∃ k,(zq L)[k]?=some ((i:Int),zau L i)/\(zq L).take k=(List.range i).flatMap (za7 L):=by
 have e2:za7 L i=[((i:Int),zau L i)]:=by unfold za7;rw [if_pos hu]
 have e:zq L=(List.range i).flatMap (za7 L)++(((i:Int),zau L i)::(List.range' (i+1) (L.length - (i+1))).flatMap (za7 L)):=by
  unfold zq;rw [zbg _ hi,e2];rfl
 refine ⟨((List.range i).flatMap (za7 L)).length,?_,?_⟩
 ·rw [e];simp
 ·rw [e,List.take_left]
def zpm {L:List Wis} {k:Nat} {u:Unt} (hk:(zq L)[k]?=some u):∃ i,i < L.length/\u=((i:Int),zau L i)/\(zau L i < 0\/(i:Int) < zau L i)/\(zq L).take k=(List.range i).flatMap (za7 L):=by
 obtain ⟨i,hi,rfl,hu⟩:=zdd.1 (xae hk);obtain ⟨k',h1,h2⟩:=zvO hu hi;have hp:=xaZ.1 (zjs L);obtain ⟨l1,e1⟩:=xaa.1 hk;obtain ⟨l2,e2⟩:=xaa.1 h1;have:k=k':=by
  rcases Nat.lt_trichotomy k k' with c|c|c
  ·have:=hp k k' l1 l2 c;rw [e1,e2] at this;exact absurd this (by omega)
  ·exact c
  ·have:=hp k' k l2 l1 c;rw [e1,e2] at this;exact absurd this (by omega)
 subst this;exact ⟨i,hi,rfl,hu,h2⟩
def zo2 {L:List Wis} (h:zav L=0) {R:List Res} (hr:zc8 L R=0) {k:Nat} {u:Unt} (hk:(zq L)[k]?=some u):(((zq L).take k).flatMap (unM L R)).Perm (zbL L R λj=>decide ((zY L j:Int) < u.1)):=by
 obtain ⟨i,hi,rfl,hu,e⟩:=zpm hk;rw [e];have hc:zbL L R (λj=>decide ((zY L j:Int) < (i:Int)))=zbL L R λj=>decide (zY L j < i):=zez λj _ _ _=>decide_eq_decide.2 (by omega)
 show (((List.range i).flatMap (za7 L)).flatMap (unM L R)).Perm (zbL L R λj=>decide ((zY L j:Int) < (i:Int)))
 rw [hc];exact (zkR h hr i (by omega)).symm
def zln {L:List Wis} (h:zav L=0) {R:List Res} (hr:zc8 L R=0) {u:Unt} (hu:u ∈ zq L):(((zq L).filter λx=>decide (x≠u)).flatMap (unM L R)).Perm (zbL L R λj=>decide ((zY L j:Int)≠u.1)):=by
 obtain ⟨k,hk⟩:=xbu.1 hu;obtain ⟨i,hi,rfl,hlk,e⟩:=zpm hk;have hall:=zkR h hr L.length (xam _);have e2:zq L=(zq L).take k++((i:Int),zau L i)::(zq L).drop (k+1):=znF hk;have hp:=zjs L;rw [e2] at hp;obtain ⟨p1,p2,p3⟩:=xcn.1 hp;obtain ⟨p4,p5⟩:=xbz.1 p2;have f1:((zq L).take k).filter (λx=>decide (x≠((i:Int),zau L i)))=(zq L).take k:=List.filter_eq_self.2 λx hx=>decide_eq_true λe=>by
  have:=p3 x hx _ xax;rw [e] at this;exact absurd this (by omega)
 have f2:((zq L).drop (k+1)).filter (λx=>decide (x≠((i:Int),zau L i)))=(zq L).drop (k+1):=List.filter_eq_self.2 λx hx=>decide_eq_true λe=>by
  have:=p4 x hx;rw [e] at this;exact absurd this (by omega)
 have f3:(zq L).filter (λx=>decide (x≠((i:Int),zau L i)))=(zq L).take k++(zq L).drop (k+1):=by
  conv=>lhs;rw [e2]
  rw [xbk,f1,xa3,if_neg (by simp),f2]
 have hle:zbL L R (λj=>decide (zY L j < L.length))=zbL L R λj=>decide (zY L j=i) || decide ((zY L j:Int)≠i):=by
  refine zez λj r hj _=>?_
  have hjn:j < L.length:=by
   have:=(xaa.1 hj).1;have:=(zbZ hr).1
   omega
  rw [<-Bool.decide_or];refine decide_eq_decide.2 ⟨λ_=>by omega,λ_=>?_⟩
  rcases zfZ h hjn with ⟨h1,_⟩|⟨i',a',b',h1,h2,h3,h4⟩<;>omega
 have q1:(zbL L R λj=>decide (zY L j=i) || decide ((zY L j:Int)≠i)).Perm ((zbL L R λj=>decide (zY L j=i))++zbL L R λj=>decide ((zY L j:Int)≠i)):=
  zqw (λj h1 h2=>by have:=of_decide_eq_true h1;have:=of_decide_eq_true h2;omega) λj=>rfl
 have q2:=zpl h hr hi hlk;have q3:((zq L).flatMap (unM L R)).Perm (unM L R ((i:Int),zau L i)++((zq L).take k++(zq L).drop (k+1)).flatMap (unM L R)):=by
  conv=>lhs;rw [e2]
  rw [xbc,xas,xbc];exact (List.perm_append_comm_assoc ..)
 rw [f3];have q4:((zq L).flatMap (unM L R)).Perm (unM L R ((i:Int),zau L i)++zbL L R λj=>decide ((zY L j:Int)≠i)):=
  hall.symm.trans (by rw [hle];exact q1.trans (q2.append_right _))
 exact (List.perm_append_left_iff _).1 (q3.symm.trans q4)
def zad (L:List Wis) (R:List Res) (u:Unt):List Opt:=if grB R u=true then (zaS L u).takeWhile (λo=>decide (o≠grO R u)) else zaS L u
def brO (ls:List Lim) (L:List Wis) (u:Unt) (O:List Opt) (b:Brd):Brd:=O.foldl (λb o=>rfB ls b (zan L u o)) b
def brG (ls:List Lim) (L:List Wis) (R:List Res) (b:Brd) (u:Unt):Brd:=if grB R u=true then zy ls b (zan L u (grO R u)) 1 else b
def brU (ls:List Lim) (L:List Wis) (R:List Res) (b:Brd) (u:Unt):Brd:=brG ls L R (brO ls L u (zad L R u) b) u
def brK (ls:List Lim) (L:List Wis) (R:List Res) (k:Nat):Brd:=((zq L).take k).foldl (brU ls L R) ⟨[],[]⟩
theorem znk {ls:List Lim} (hl:∀ l ∈ ls,zr l=0) (L:List Wis) (u:Unt) {P:List Mov}:∀ (O:List Opt) (b:Brd),zeV ls b P->zeV ls (brO ls L u O b) P
 | [],b,h=>h
 | o::O,b,h=>znk hl L u O _ (zjF hl h _)
def zwR {ls:List Lim} (hl:∀ l ∈ ls,zr l=0) (L:List Wis) (R:List Res) {b:Brd} {P:List Mov} (h:zeV ls b P) (u:Unt):zeV ls (brG ls L R b u) (P++unM L R u):=by
 unfold brG unM
 split
 ·exact zsf hl h _
 ·rw [xat];exact h
theorem zlJ {ls:List Lim} (hl:∀ l ∈ ls,zr l=0) (L:List Wis) (R:List Res) {g:Brd->Unt->Brd} (hg:∀ b P u,zeV ls b P->zeV ls (g b u) (P++unM L R u)):∀ (U:List Unt) (b:Brd) (P:List Mov),zeV ls b P->zeV ls (U.foldl g b) (P++U.flatMap (unM L R))
 | [],b,P,h=>by simpa using h
 | u::U,b,P,h=>by
  rw [xbm,xas,<-xaj];exact zlJ hl L R hg U _ _ (hg b P u h)
def zCp {ls:List Lim} (hl:∀ l ∈ ls,zr l=0) {L:List Wis} (h:zav L=0) {R:List Res} (hr:zc8 L R=0) {k:Nat} {u:Unt} (hk:(zq L)[k]?=some u):zeV ls (brK ls L R k) (zbL L R λj=>decide ((zY L j:Int) < u.1)):=
 zim hl (zlJ hl L R (λb P u hb=>zwR hl L R (znk hl L u _ _ hb) u) ((zq L).take k) _ [] (znq ls)) (by rw [xaG];exact zo2 h hr hk)
def xrA (ls:List Lim) (L:List Wis) (R:List Res) (u:Unt) (o:Opt):List Ky:=xrW ls ((zbL L R λj=>decide ((zY L j:Int) < u.1))++zan L u o) (zan L u o)
def zkY {ls:List Lim} (hl:∀ l ∈ ls,zr l=0) {L:List Wis} (h:zav L=0) {R:List Res} (hr:zc8 L R=0) {k:Nat} {u:Unt} (hk:(zq L)[k]?=some u) (O:List Opt) (o:Opt):rfW ls (brO ls L u O (brK ls L R k)) (zan L u o)=xrA ls L R u o:=
 zjE hl (znk hl L u O _ (zCp hl h hr hk)) (.refl _)
def zkI (ls:List Lim) (L:List Wis) (R:List Res) (u:Unt):Brd:=((zq L).filter λx=>decide (x≠u)).foldl (brG ls L R) ⟨[],[]⟩
def zqy {ls:List Lim} (hl:∀ l ∈ ls,zr l=0) {L:List Wis} (h:zav L=0) {R:List Res} (hr:zc8 L R=0) {u:Unt} (hu:u ∈ zq L):zeV ls (zkI ls L R u) (zbL L R λj=>decide ((zY L j:Int)≠u.1)):=
 zim hl (zlJ hl L R (λb P u hb=>zwR hl L R hb u) _ _ [] (znq ls)) (by rw [xaG];exact zln h hr hu)
def xrO (ls:List Lim) (L:List Wis) (R:List Res) (u:Unt) (o:Opt):List Ky:=xrW ls ((zbL L R λj=>decide ((zY L j:Int)≠u.1))++zan L u o) (zan L u o)
def zmr {ls:List Lim} (hl:∀ l ∈ ls,zr l=0) {L:List Wis} (h:zav L=0) {R:List Res} (hr:zc8 L R=0) {u:Unt} (hu:u ∈ zq L) (O:List Opt) (o:Opt):rfW ls (brO ls L u O (zkI ls L R u)) (zan L u o)=xrO ls L R u o:=
 zjE hl (znk hl L u O _ (zqy hl h hr hu)) (.refl _)
def zsb {ls:List Lim} (hl:∀ l ∈ ls,zr l=0) (L:List Wis) (R:List Res) (f:Nat->Bool):zeV ls (zy ls ⟨[],[]⟩ (zlk L R f) 1) (zbL L R f):=
 zim hl (zsf hl (znq ls) (zlk L R f)) (by rw [xaG];exact zgx L R f)
def zrf (ls:List Lim) (L:List Wis) (R:List Res) (k:Ky) (i:Nat):Bool:=match ls[k.1]? with
 | some l=>(za5 R i).gr && (zfB L i (za5 R i).minute).any (inW l k.2)
 | none=>false
def zlF (ls:List Lim) (L:List Wis) (R:List Res) (k:Ky) (f:Nat->Bool):List ByteArray:=((List.range L.length).filter λi=>f i && zrf ls L R k i).map λi=>(za5 R i).name
structure Rsn where
 name:ByteArray
 minute:Int
 other:Int
 lim:Int
 win:Int
 holders:List ByteArray
def zto (ls:List Lim) (L:List Wis) (R:List Res) (u:Unt) (o:Opt) (w:Ky):Rsn:=⟨(za5 R u.1.toNat).name,o.1,o.2,w.1,w.2,zlF ls L R w λj=>decide ((zY L j:Int) < u.1)⟩
def zfz (L:List Wis) (R:List Res):List (Unt × Opt):=(zq L).flatMap λu=>(zad L R u).map λo=>(u,o)
def nmW (L:List Wis) (i:Nat):ByteArray:=match L[i]? with|some w=>w.req.name|none=>s0
def zBn {L:List Wis} (h:zav L=0) {i j:Nat} (hi:i < L.length) (hj:j < L.length) (e:nmW L i=nmW L j):i=j:=by
 obtain ⟨a,ha⟩:=zj hi;obtain ⟨b,hb⟩:=zj hj;have h1:=zrj h ha;have h2:=zrj h hb;unfold nmW at e;rw [ha,hb] at e;simp only at e;rw [e] at h1
 omega
def blkP (ls:List Lim) (L:List Wis) (R:List Res) (u:Unt) (W:List Ky):List ByteArray:=((List.range L.length).filter λj=>!decide ((zY L j:Int) < u.1) && !(decide ((j:Int)=u.1) || decide ((j:Int)=u.2)) && W.any λw=>zrf ls L R w j).map λj=>(za5 R j).name
structure Cpl where
 idx:Int
 minute:Int
 other:Int
 blk:List ByteArray
def cpl0:Cpl:=⟨0,0,0,[]⟩
def zoJ (ls:List Lim) (L:List Wis) (R:List Res):Option Cpl:=((zfz L R).find? λx=>(xrA ls L R x.1 x.2).isEmpty).map λx=>⟨x.1.1,x.2.1,x.2.2,blkP ls L R x.1 (xrO ls L R x.1 x.2)⟩
def zwe (ls:List Lim) (L:List Wis) (R:List Res):Option Cpl:=((zfz L R).find? λx=>(xrO ls L R x.1 x.2).isEmpty).map λx=>⟨x.1.1,x.2.1,x.2.2,[]⟩
end Go.Proofs.YtbgckikhhcbmpaaGreat
