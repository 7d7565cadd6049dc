/- Contracts of functions, for the claim. No conditions. -/
import Derived.Test.YtocamnijnhnlfaaGreatK4
set_option linter.all false
set_option maxHeartbeats 8000000
set_option maxRecDepth 100000
namespace Go.Proofs.YtocamnijnhnlfaaGreat
open Go.RowKit Tryz
def zCk (s:ByteArray):Pure prog 163 [.s s] (.b (decide (s=s0) || zan s)):=by
 refine pz func163 f163.eq_1 λhw X hX=>?_
 have jA:=λu1=>zhv u1;exact gD2
def zxs (n a b:Int):Pure prog 162 [.i .i64 n,.i .i64 a,.i .i64 b] (.b (decide (n < a) || decide (b < n))):=by
 refine pz func162 f162.eq_1 λhw X hX=>?_
 exact gD0
def zcN {e:Int} {r:List Int} (h:e=0):zf (e::r)=zf r:=by rw [zf,if_pos h]
def zgK {e:Int} {r:List Int} (h:e≠0):zf (e::r)=e:=by rw [zf,if_neg h]
def rng_3 {n a b:Int} (h:n < a\/b < n):rng n a b=3:=by rw [rng,if_pos h]
def zzE {s:ByteArray} (h:zan s=true):zy s=0:=by rw [zy,if_neg (by simp [h])]
def zzD {s:ByteArray} (h:zan s=false):zy s=8:=by rw [zy,if_pos h]
def zCD {s:ByteArray} (h:s=s0\/zan s=true):zeX s=0:=by rw [zeX,if_neg];rintro ⟨h1,h2⟩;rcases h with h|h<;>simp_all
def zCC {s:ByteArray} (h:¬s=s0/\zan s=false):zeX s=8:=by rw [zeX,if_pos h]
def zkn {e k:Int} {r:List Int} (h:e=k) (hk:k≠0):zf (e::r)=k:=by rw [zgK (by rw [h];exact hk),h]
def zrN {a b c:Int} (h:0<=a/\a<=999/\0<=b/\b<=9/\0<=c/\c<=99):zoJ a b c=0:=by rw [zoJ];simp only [zf,rng];(repeat' split)<;>omega
def zBo {a b:Int} (h:a=b):Weak (.i .i64 a) (.i .i64 b):=h ▸ .refl _
def zyd {a b:Bool} (h:a=b):Weak (.b a) (.b b):=h ▸ .refl _
def zzR {k:ByteArray} (h:¬k=sA/\¬k=sD->k=sT):zgu k=0:=by rw [zgu,if_neg];rintro ⟨h1,h2,h3⟩;exact h3 (h ⟨h1,h2⟩)
def zv1 {k:ByteArray} (h:(¬k=sA/\¬k=sD)/\¬k=sT):zgu k=13:=by rw [zgu,if_pos ⟨h.1.1,h.1.2,h.2⟩]
def zsg {k:ByteArray} (h:¬k=sA->k=sD):zaz k=0:=by rw [zaz,if_neg];rintro ⟨h1,h2⟩;exact h2 (h h1)
def zo3 {k:ByteArray} (h:¬k=sA/\¬k=sD):zaz k=13:=by rw [zaz,if_pos h]
def zCn (m:Mov):Pure prog 97 [m.pv] (.i .i64 (zcq m)):=by
 refine pz func97 f97.eq_1 λhw X hX=>?_
 repeat' first|refine gC ?_ ?_<;>intro hc<;>try contradiction|refine za (zhv _) ?_|refine za (zCk _) ?_|refine za (zxs _ _ _) ?_|refine zm (λ_=>zxs _ _ _) ?_|refine gG ?_|show AK _;intro J Z|refine gJ ?_|omega|exact aT
 all_goals (refine zBo (Eq.symm ?_);rw [zcq];(repeat refine Eq.trans (zcN (by first|exact zzE (by assumption)|exact zzR (by assumption)|exact zsg (by assumption)|exact zCD (by assumption)|exact zbd.2 (by omega)|exact zrN (by omega)|exact if_neg (by omega)|assumption)) ?_);first|rfl|exact zkn (by first|exact zzD (by assumption)|exact zv1 (by assumption)|exact zo3 (by assumption)|exact zCC (by assumption)|exact rng_3 (by omega)|exact if_pos (by omega)|rfl) (by first|decide|assumption)|(simp only [zf,rng,zoJ];(repeat' split)<;>omega))
def zCp (l:List Mov):Pure prog 50 [.sl 7 (l.map Mov.pv)] (.i .i64 (zR l)):=by
 refine pz func50 f50.eq_1 λhw X hX=>?_
 simp only [wfs,PV.wf,xaf,maxLen] at hw
 repeat' first|refine gC ?_ ?_<;>intro hc<;>try contradiction|refine gG ?_|show AK _;intro J Z|refine gJ ?_|omega|exact aT
 ·rw [zR,if_pos (by omega)];exact .refl _
 refine zh (κ:=Nat) (λi=>⟨[(0,.p (.sl 7 (l.map Mov.pv))),(3,.p (.i .i64 i))],[],[],false⟩) (λi=>i<=l.length/\∀ x ∈ (zdd l).take i,x=0) (λi=>l.length - i) 0 ?_ ?_ ?_
 ·exact sR
 ·simp
 ·intro i hi
  repeat first|refine gG ?_|show AK _;intro J Z|refine gJ ?_|omega|exact aT
  (refine gC ?_ ?_<;>intro hc<;>try contradiction)
  ·obtain ⟨x,hx⟩:=zk (i:=i) (l:=l) (by omega)
   have key:∀ e:Int,zfh l i x=e->e≠0->zR l=e:=λe he h0=>by subst he;unfold zR;rw [if_neg (by omega)];exact zN hi.2 (zz hx) h0
   obtain ⟨y,hy⟩:=zk (i:=i - 1) (l:=l) (by omega)
   have e1:((i:Int) - 1).toNat=i - 1:=by omega
   have he:zfh l i x=zf [zcq x,if 0 < (i:Int)/\x.moment < y.moment then 11 else 0]:=by rw [zfh,hy];rfl
   have qe:=aI qR (aI @hx (aI @hy @e1));repeat' first|refine gC ?_ ?_<;>intro hc<;>try contradiction|refine za (zCn x) ?_|refine gG ?_|show AK _;intro J Z|refine gJ ?_|omega|exact aT
   ·rw [key (zcq x) (by rw [he,zgK hc]) hc];exact .refl _
   ·rw [key 11 (by rw [he,zcN (by assumption),zkn (if_pos (by omega)) (by decide)]) (by decide)];exact .refl _
   ·exact ⟨i+1,⟨by omega,zah hi.2 (zz hx) (by rw [he,zcN (by assumption),zcN (if_neg (by omega)),zo5])⟩,by omega,by simp⟩
  ·repeat' first|refine gC ?_ ?_<;>intro hc<;>try contradiction|refine gG ?_|show AK _;intro J Z|refine gJ ?_|omega|exact aT
   have e:i=(zdd l).length:=by simp [zdd];omega
   subst e;rw [zR,if_neg (by omega),zU hi.2];exact .refl _
def znU {α:Type} {l:List α} {p:α->Bool} {i:Nat} {x:α} (hx:l[i]?=some x) (hp:p x=false):l.all p=false:=by
 cases h:l.all p
 ·rfl
 ·rw [xaD] at h;rw [h x (xae hx)] at hp;exact hp
def zfW {α:Type} {l:List α} {p:α->Bool} {i:Nat} {x:α} (h:∀ y ∈ l.take i,p y=true) (hx:l[i]?=some x) (hp:p x=true):∀ y ∈ l.take (i+1),p y=true:=by
 intro y hy;rw [xaP,hx] at hy
 rcases xaL.1 hy with hy|hy
 ·exact h y hy
 ·simp at hy;subst hy;exact hp
def zjv {α:Type} {l:List α} {p:α->Bool} (h:∀ y ∈ l.take l.length,p y=true):l.all p=true:=by
 rw [xaG] at h;rw [xaD];exact h
section
variable {α:Type} (lt:α->α->Bool)
def mrg:List α->List α->List α
 | [],B=>B
 | a::A,[]=>a::A
 | a::A,b::B=>if lt b a then b::mrg (a::A) B else a::mrg A (b::B)
termination_by A B=>A.length+B.length
def insL (x:α):List α->List α
 | []=>[x]
 | y::r=>if lt x y then x::y::r else y::insL x r
def zcJ (L:List α):List α:=L.foldl (λout x=>insL lt x out) []
structure SW:Prop where
 asym:∀ x y,lt x y=true->lt y x=false
 nt:∀ x y z,lt x y=false->lt y z=false->lt x z=false
abbrev srt (L:List α):Prop:=L.Pairwise λx y=>lt y x=false
variable {lt}
def irr (hs:SW lt) (x:α):lt x x=false:=by
 cases hh:lt x x
 ·rfl
 ·rw [<-hs.asym _ _ hh,hh]
def zbo (A:List α):mrg lt A []=A:=by cases A<;>simp [mrg]
def zaW (B:List α):mrg lt [] B=B:=by simp [mrg]
def zhi {a b:α} (A B:List α) (h:lt b a=true):mrg lt (a::A) (b::B)=b::mrg lt (a::A) B:=by rw [mrg,if_pos h]
def ziQ {a b:α} (A B:List α) (h:lt b a=false):mrg lt (a::A) (b::B)=a::mrg lt A (b::B):=by rw [mrg,if_neg (by simp [h])]
theorem znn {x z:α}:∀ {L:List α},z ∈ insL lt x L↔z=x\/z ∈ L
 | []=>by simp [insL]
 | y::r=>by
  unfold insL;split
  ·simp
  ·simp only [xaB,znn]
   constructor
   ·rintro (h|h|h)<;>simp [h]
   ·rintro (h|h|h)<;>simp [h]
theorem znt (hs:SW lt) {x:α}:∀ {L:List α},srt lt L->srt lt (insL lt x L)
 | [],_=>by simp [insL]
 | y::r,h=>by
  have h:=xbp.1 h;unfold insL;split
  ·rename_i e;refine xbp.2 ⟨λz hz=>?_,xbp.2 h⟩
   rcases xaB.1 hz with rfl|hz
   ·exact hs.asym _ _ e
   ·exact hs.nt _ _ _ (h.1 z hz) (hs.asym _ _ e)
  ·rename_i e;refine xbp.2 ⟨λz hz=>?_,znt hs h.2⟩
   rcases znn.1 hz with rfl|hz
   ·simpa using e
   ·exact h.1 z hz
theorem zfJ (hs:SW lt) (x:α):∀ (A B:List α),mrg lt A (insL lt x B)=insL lt x (mrg lt A B)
 | [],B=>by rw [zaW,zaW]
 | a::A,[]=>by
  rw [zbo];cases h:lt x a with
  | true=>rw [insL,zhi _ _ h,zbo,insL,if_pos h]
  | false=>
   rw [insL,ziQ _ _ h,insL,if_neg (by simp [h])]
   have:=zfJ hs x A [];rw [insL,zbo] at this;rw [this]
 | a::A,b::B=>by
  cases h:lt b a with
  | true=>
   rw [zhi _ _ h];cases h2:lt x b with
   | true=>
    have h3:lt x a=true:=by
     cases e:lt x a
     ·have:=hs.nt _ _ _ e (hs.asym _ _ h);rw [h2] at this;cases this
     ·rfl
    rw [insL,if_pos h2,zhi _ _ h3,zhi _ _ h,insL,if_pos h2]
   | false=>rw [insL,if_neg (by simp [h2]),zhi _ _ h,insL,if_neg (by simp [h2]),zfJ hs x (a::A) B]
  | false=>
   rw [ziQ _ _ h];have ih:=zfJ hs x A (b::B);cases h2:lt x b with
   | true=>
    rw [insL,if_pos h2] at ih ⊢;cases h3:lt x a with
    | true=>rw [zhi _ _ h3,ziQ _ _ h,insL,if_pos h3]
    | false=>rw [ziQ _ _ h3,ih,insL.eq_2,if_neg (by simp [h3])]
   | false=>
    rw [insL,if_neg (by simp [h2])] at ih ⊢
    have h3:=hs.nt _ _ _ h2 h;rw [ziQ _ _ h,ih,insL.eq_2,if_neg (by simp [h3])]
termination_by A B=>A.length+B.length
def za7 (L:List α) (x:α):zcJ lt (L++[x])=insL lt x (zcJ lt L):=by rw [zcJ,xa4];rfl
def zeT {P:List α->Prop} (h0:P []) (hs:∀ L x,P L->P (L++[x])) (L:List α):P L:=by
 rw [<-List.reverse_reverse L];generalize L.reverse=R
 induction R with
 | nil=>exact h0
 | cons x r ih=>rw [List.reverse_cons];exact hs _ _ ih
def zgx (hs:SW lt) (A B:List α):zcJ lt (A++B)=mrg lt (zcJ lt A) (zcJ lt B):=by
 induction B using zeT with
 | h0=>rw [xat,show zcJ lt ([]:List α)=[] from rfl,zbo]
 | hs L x ih=>rw [<-xau,za7,za7,zfJ hs,ih]
def zbg (hs:SW lt) (L:List α):srt lt (zcJ lt L):=by
 induction L using zeT with
 | h0=>exact List.Pairwise.nil
 | hs L x ih=>rw [za7];exact znt hs ih
theorem zdc:∀ A B:List α,(mrg lt A B).length=A.length+B.length
 | [],B=>by rw [zaW];simp
 | a::A,[]=>by rw [zbo];rfl
 | a::A,b::B=>by
  cases h:lt b a with
  | true=>rw [zhi _ _ h,xaK,zdc (a::A) B];simp only [xaK];omega
  | false=>rw [ziQ _ _ h,xaK,zdc A (b::B)];simp only [xaK];omega
termination_by A B=>A.length+B.length
theorem zgA {x:α}:∀ {U V:List α},(∀ u ∈ U,lt x u=false)->(∀ v ∈ V.head?,lt x v=true)->insL lt x (U++V)=U++x::V
 | [],[],_,_=>rfl
 | [],v::V,_,h=>by rw [xaQ,insL,if_pos (h v (by simp))];rfl
 | u::U,V,h,hv=>by rw [xaE,insL,if_neg (by simp [h u (by simp)]),zgA (λw hw=>h w (by simp [hw])) hv];rfl
theorem zbe:∀ (A1 A2 B1 B2:List α),(∀ a ∈ A1,∀ b ∈ B2,lt b a=false)->(∀ b ∈ B1,∀ a ∈ A2,lt b a=true)->mrg lt (A1++A2) (B1++B2)=mrg lt A1 B1++mrg lt A2 B2
 | [],[],B1,B2,_,_=>by simp [zaW]
 | [],a::A2,[],B2,_,_=>by simp [zaW]
 | [],a::A2,b::B1,B2,h1,h2=>by
  have ih:=zbe [] (a::A2) B1 B2 (by simp) (λb hb=>h2 b (by simp [hb]))
  rw [xaQ,xaE,zhi _ _ (h2 b (by simp) a (by simp)),zaW]
  rw [xaQ,zaW] at ih;rw [ih];rfl
 | a::A1,A2,[],[],_,_=>by simp [zbo]
 | a::A1,A2,[],b::B2,h1,h2=>by
  have ih:=zbe A1 A2 [] (b::B2) (λa ha=>h1 a (by simp [ha])) (by simp)
  rw [xaQ,xaE,ziQ _ _ (h1 a (by simp) b (by simp)),zbo]
  rw [xaQ,zbo] at ih;rw [ih];rfl
 | a::A1,A2,b::B1,B2,h1,h2=>by
  rw [xaE,xaE];cases h:lt b a with
  | true=>
   have ih:=zbe (a::A1) A2 B1 B2 h1 (λb hb=>h2 b (by simp [hb]))
   rw [zhi _ _ h,zhi _ _ h];rw [xaE] at ih;rw [ih];rfl
  | false=>
   have ih:=zbe A1 A2 (b::B1) B2 (λa ha=>h1 a (by simp [ha])) h2
   rw [ziQ _ _ h,ziQ _ _ h];rw [xaE] at ih;rw [ih];rfl
termination_by A1 _ B1 _=>A1.length+B1.length
def zzK (hs:SW lt) {A B:List α} (hA:srt lt A) (hB:srt lt B) {s e:Nat} (hsl:s<=A.length) (h:∀ a b,A[s - 1]?=some a->B[e]?=some b->0 < s->lt b a=false):∀ a ∈ A.take s,∀ b ∈ B.drop e,lt b a=false:=by
 intro a ha b hb;obtain ⟨i,hi⟩:=xaS ha;obtain ⟨j,hj⟩:=xaS hb;have hil:=(xaa.1 hi).1;simp only [xaj] at hil;rw [xaF,if_pos (by omega)] at hi
 rw [xaI] at hj;have hjl:=(xaa.1 hj).1;obtain ⟨x,hx⟩:∃ x,A[s - 1]?=some x:=⟨_,xab (by omega)⟩
 obtain ⟨y,hy⟩:∃ y,B[e]?=some y:=⟨_,xab (by omega)⟩
 have h0:=h x y hx hy (by omega)
 have h1:lt x a=false:=by
  by_cases ei:i=s - 1
  ·rw [<-ei,hi] at hx;cases hx;exact irr hs _
  ·have:=xaw.1 hA i (s - 1) (by omega) (by omega) (by omega)
   rw [xab (by omega)] at hi hx
   rw [xaN hi,xaN hx] at this;exact this
 have h2:lt b y=false:=by
  by_cases e2:j=0
  ·subst e2;rw [xbD,hy] at hj;cases hj;exact irr hs _
  ·have:=xaw.1 hB e (e+j) (by omega) (by omega) (by omega)
   rw [xab (by omega)] at hj hy
   rw [xaN hj,xaN hy] at this;exact this
 exact hs.nt _ _ _ (hs.nt _ _ _ h2 h0) h1
def zwf (hs:SW lt) {A B:List α} (hA:srt lt A) (hB:srt lt B) {s e:Nat} (hel:e<=B.length) (h:∀ a b,A[s]?=some a->B[e - 1]?=some b->0 < e->lt b a=true):∀ b ∈ B.take e,∀ a ∈ A.drop s,lt b a=true:=by
 intro b hb a ha;cases hba:lt b a with
 | true=>rfl
 | false=>
  exfalso
  obtain ⟨i,hi⟩:=xaS hb;obtain ⟨j,hj⟩:=xaS ha;have hil:=(xaa.1 hi).1;simp only [xaj] at hil;rw [xaF,if_pos (by omega)] at hi
  rw [xaI] at hj;have hjl:=(xaa.1 hj).1;obtain ⟨x,hx⟩:∃ x,B[e - 1]?=some x:=⟨_,xab (by omega)⟩
  obtain ⟨y,hy⟩:∃ y,A[s]?=some y:=⟨_,xab (by omega)⟩
  have h0:=h y x hy hx (by omega)
  have h1:lt x b=false:=by
   by_cases e2:i=e - 1
   ·rw [<-e2,hi] at hx;cases hx;exact irr hs _
   ·have:=xaw.1 hB i (e - 1) (by omega) (by omega) (by omega)
    rw [xab (by omega)] at hi hx
    rw [xaN hi,xaN hx] at this;exact this
  have h2:lt a y=false:=by
   by_cases e2:j=0
   ·subst e2;rw [xbD,hy] at hj;cases hj;exact irr hs _
   ·have:=xaw.1 hA s (s+j) (by omega) (by omega) (by omega)
    rw [xab (by omega)] at hj hy
    rw [xaN hj,xaN hy] at this;exact this
  have:=hs.nt _ _ _ (hs.nt _ _ _ h1 hba) h2;rw [h0] at this;cases this
end
def zr4 {lt:Mov->Mov->Bool} (hs:SW lt) {L:List Mov} (h:srt lt L) (x:Mov):zk1 lt L x=insL lt x L:=by
 unfold zk1;generalize hk:zcj lt x L L.length=k;have hkl:=zi6 lt x L L.length;have hge:=zi7 lt x L L.length;have hla:=ze3 lt x L L.length;rw [hk] at hkl hge hla
 conv=>rhs;rw [<-xao k L]
 refine (zgA (λu hu=>?_) λv hv=>?_).symm
 ·cases k with
  | zero=>simp at hu
  | succ k=>
   obtain ⟨z,hz⟩:∃ z,L[k]?=some z:=⟨_,xab (by omega)⟩
   have hb:=hla k z rfl hz;obtain ⟨i,hi⟩:=xaS hu;have hik:=(xaa.1 hi).1;simp only [xaj] at hik;rw [xaF,if_pos (by omega)] at hi
   by_cases e:i=k
   ·subst e;rw [hz] at hi;cases hi;exact hb
   ·have:=xaw.1 h i k (by omega) (by omega) (by omega)
    rw [xab (by omega)] at hi hz
    rw [xaN hi,xaN hz] at this;exact hs.nt _ _ _ hb this
 ·rw [List.head?_drop] at hv;have hlt:=(xaa.1 hv).1;obtain ⟨y,hy,hb⟩:=hge k (xah _) hlt;rw [hv] at hy;cases hy;exact hb
def zgH {lt:Mov->Mov->Bool} (hs:SW lt) (L:List Mov):L.foldl (zk1 lt) []=zcJ lt L:=by
 induction L using zeT with
 | h0=>rfl
 | hs L x ih=>rw [xa4,za7,<-ih];exact zr4 hs (by rw [ih];exact zbg hs L) x
def bfC (c:Mov->Mov->Int) (x y:Mov):Bool:=decide (c x y < 0)
def mgC (c:Mov->Mov->Int) (L:List Mov) (k:Nat):List Mov:=(L.take k).foldl (zk1 (bfC c)) []
def zas (c:Mov->Mov->Int) (L:List Mov):List Mov:=L.foldl (zk1 (bfC c)) []
def ziU {c:Mov->Mov->Int} {L:List Mov} {k:Nat} (h:k<=L.length):(mgC c L k).length=k:=by
 have:=(zdC (bfC c) (L.take k) []).length_eq;rw [mgC,this];simp;omega
def zvW {c:Mov->Mov->Int} {L:List Mov} {k:Nat} {x:Mov} (h:L[k]?=some x):mgC c L (k+1)=zk1 (bfC c) (mgC c L k) x:=by
 rw [mgC,xaP,h,xa4];rfl
def zaq (c:Mov->Mov->Int) (L:List Mov):(zas c L).length=L.length:=by
 have:=(zdC (bfC c) L []).length_eq;rw [zas,this];simp
def zpP (c:Mov->Mov->Int) (L:List Mov) (k:Nat):List Mov:=mgC c L k++L.drop k
def zjm {c:Mov->Mov->Int} {L:List Mov} {k:Nat} (h:k<=L.length\/k=1):(zpP c L k).length=L.length:=by
 rcases L with _|⟨x,r⟩
 ·rcases h with h|h<;>(try simp at h)<;>subst h<;>simp [zpP,mgC]
 ·rw [zpP,xad,ziU (by rcases h with h|h<;>simp at *<;>omega),xay]
  rcases h with h|h<;>simp at *<;>omega
def zDH (c:Mov->Mov->Int) (L:List Mov):zpP c L 1=L:=by
 rcases L with _|⟨x,r⟩<;>simp [zpP,mgC,zk1,zcj]
def zwB (c:Mov->Mov->Int) (L:List Mov) {k:Nat} (h:L.length<=k):zpP c L k=zas c L:=by
 rw [zpP,mgC,xal h,xbr h,xat];rfl
def dj (out:List Mov) (x:Mov) (rest:List Mov) (j:Nat):List Mov:=out.take j++x::(out.drop j++rest)
def zxP {out:List Mov} {x:Mov} {rest:List Mov} {j:Nat} (h:j<=out.length):(dj out x rest j).length=out.length+1+rest.length:=by
 simp [dj];omega
def zwy {c:Mov->Mov->Int} {L:List Mov} {i:Nat} {x:Mov} (h:L[i]?=some x):dj (mgC c L i) x (L.drop (i+1)) i=zpP c L i:=by
 have hi:=(xaa.1 h).1;have hl:=ziU (c:=c) (L:=L) (k:=i) (by omega)
 rw [dj,zpP,xal (by omega),xbr (by omega),xaQ,xaM hi,(xaa.1 h).2]
def zsA {c:Mov->Mov->Int} {L:List Mov} {i j:Nat} {x:Mov} (h:L[i]?=some x) (hj:j=zcj (bfC c) x (mgC c L i) i):dj (mgC c L i) x (L.drop (i+1)) j=zpP c L (i+1):=by
 have hi:=(xaa.1 h).1;rw [zpP,zvW h,zk1,ziU (by omega),<-hj,dj];simp
def dj_at {out:List Mov} {x y:Mov} {rest:List Mov} {j:Nat} (h:out[j]?=some y):(dj out x rest (j+1))[j]?=some y/\(dj out x rest (j+1))[j+1]?=some x:=by
 have hj:=(xaa.1 h).1;have hl:(out.take j).length=j:=by simp;omega
 rw [dj,xaP,h,xau];refine ⟨?_,?_⟩
 ·rw [xas (by omega),hl];simp
 ·rw [xas (by omega),hl];simp
def zAF {out:List Mov} {x y:Mov} {rest:List Mov} {j:Nat} (h:out[j]?=some y):((dj out x rest (j+1)).set (j+1) y).set j x=dj out x rest j:=by
 have hj:=(xaa.1 h).1;have hl:(out.take j).length=j:=by simp;omega
 have hd:out.drop j=y::out.drop (j+1):=by rw [xaM hj,(xaa.1 h).2]
 rw [dj,dj,xaP,h,hd,xau,xbe _ _ (by omega),hl,xbe _ _ (by omega),hl]
 simp
def zr5 {c:Mov->Mov->Int} {x:Mov} {out:List Mov} {q:Nat} {y:Mov} (hy:out[q]?=some y) (hb:¬c x y < 0):zcj (bfC c) x out (q+1)=q+1:=by
 simp only [zcj,hy];rw [if_neg (by simp [bfC];omega)]
def zz0 {c:Mov->Mov->Int} {x:Mov} {out:List Mov} {q:Nat} {y:Mov} (hy:out[q]?=some y) (hb:c x y < 0):zcj (bfC c) x out (q+1)=zcj (bfC c) x out q:=by
 simp only [zcj,hy];rw [if_pos (by simp [bfC];omega)]
def zbW {α:Type} (P X S:List α) {j:Nat} (h:j < X.length):(P++(X++S))[P.length+j]?=X[j]?:=by
 rw [xas (by omega),xcb,xaz h]
def zdf {α:Type} (P X S:List α) {j:Nat} (v:α) (h:j < X.length):(P++(X++S)).set (P.length+j) v=P++(X.set j v++S):=by
 rw [xbe _ _ (by omega),xcb,List.set_append_left _ _ h]
def swU (U V:List Mov) (i:Nat):List Mov:=V.take i++U.drop i
def swD (P U Q V S:List Mov) (i:Nat):List Mov:=P++(swU U V i++(Q++(swU V U i++S)))
def zc2 {U V:List Mov} (h:U.length=V.length) {i:Nat} (hi:i<=U.length):(swU U V i).length=U.length:=by simp [swU];omega
def zxk {U V:List Mov} (h:U.length=V.length) {i:Nat} (hi:i < U.length):(swU U V i)[i]?=U[i]?:=by
 have hl:(V.take i).length=i:=by simp;omega
 rw [swU,xas (by omega),hl,Nat.sub_self,xaI,xbD]
def zp2 {U V:List Mov} (h:U.length=V.length) {i:Nat} {v:Mov} (hv:V[i]?=some v):(swU U V i).set i v=swU U V (i+1):=by
 have hi:=(xaa.1 hv).1;have hl:(V.take i).length=i:=by simp;omega
 rw [swU,swU,xbe _ _ (by omega),hl,Nat.sub_self,xaP,hv,xaM (by omega),List.set_cons_zero]
 simp
def swD_0 (P U Q V S:List Mov):swD P U Q V S 0=P++(U++(Q++(V++S))):=by simp [swD,swU]
def swD_n {P U Q V S:List Mov} (h:U.length=V.length):swD P U Q V S U.length=P++(V++(Q++(U++S))):=by
 simp only [swD,swU,List.drop_length,xaG,xat];rw [h,xaG,List.drop_length,xat]
def zp3 {P U Q V S:List Mov} (h:U.length=V.length) {i:Nat} (hi:i<=U.length):(swD P U Q V S i).length=P.length+(U.length+(Q.length+(V.length+S.length))):=by
 simp only [swD,xad,zc2 h hi,zc2 h.symm (i:=i) (by omega)]
def zyj {P U Q V S:List Mov} (h:U.length=V.length) {i:Nat} {u:Mov} (hu:U[i]?=some u):(swD P U Q V S i)[P.length+i]?=some u:=by
 have hi:=(xaa.1 hu).1;rw [swD,zbW _ _ _ (by rw [zc2 h (by omega)];exact hi),zxk h hi,hu]
def zyi {P U Q V S:List Mov} (h:U.length=V.length) {i:Nat} {v:Mov} (hv:V[i]?=some v):(swD P U Q V S i)[P.length+U.length+Q.length+i]?=some v:=by
 have hi:=(xaa.1 hv).1;have e:swD P U Q V S i=(P++(swU U V i++Q))++(swU V U i++S):=by simp [swD]
 have hl:(P++(swU U V i++Q)).length=P.length+U.length+Q.length:=by simp only [xad,zc2 h (show i<=U.length by omega)];omega
 rw [e,<-hl,zbW _ _ _ (by rw [zc2 h.symm (by omega)];exact hi),zxk h.symm hi,hv]
def ztJ {P U Q V S:List Mov} (h:U.length=V.length) {i:Nat} {u v:Mov} (hu:U[i]?=some u) (hv:V[i]?=some v):((swD P U Q V S i).set (P.length+i) v).set (P.length+U.length+Q.length+i) u=swD P U Q V S (i+1):=by
 have hi:=(xaa.1 hu).1;have hj:=(xaa.1 hv).1;rw [swD,zdf _ _ _ _ (by rw [zc2 h (by omega)];exact hi),zp2 h hv]
 have e:P++(swU U V (i+1)++(Q++(swU V U i++S)))=(P++(swU U V (i+1)++Q))++(swU V U i++S):=by simp
 have hl:(P++(swU U V (i+1)++Q)).length=P.length+U.length+Q.length:=by simp only [xad,zc2 h (show i+1<=U.length by omega)];omega
 rw [e,<-hl,zdf _ _ _ _ (by rw [zc2 h.symm (by omega)];exact hj),zp2 h.symm hu]
 simp [swD]
def zms (f:Nat) {D D':List Mov} {N:Nat} (P U Q V S:List Mov) (hN:D.length=N) (hD:D=P++(U++(Q++(V++S)))) (hD':D'=P++(V++(Q++(U++S)))) (h:U.length=V.length) (a b k:Int) (ha:a=P.length) (hb:b=(P.length+U.length+Q.length:Nat)) (hk:k=U.length) (hn:N<=1000000) :
  Acts prog 265 [.row 900 N,.p (.i .i64 a),.p (.i .i64 b),.p (.i .i64 k),.p (.fn (.func f) [] [])] [(900,.row 120 7 (D.map Mov.pv) false)] (.p (.tup [])) [(900,.row 120 7 (D'.map Mov.pv) false)]:=by
 have hlen:D.length=P.length+(U.length+(Q.length+(V.length+S.length))):=by rw [hD];simp
 have hlen':D'.length=N:=by rw [hD',<-hN,hlen];simp;omega
 have e0:D=swD P U Q V S 0:=by rw [swD_0,hD]
 refine zF (cF func265 f265.eq_1) (by simp) (by simp [scPs,scP,zp,hN]) (by simp [scObj]) ⟨rfl,trivial⟩ (by simp [scObj]) (by simp [zb1,zp,hN,hlen']) λX hX=>?_
 unfold zA ghO;have qe:=aI qR @gLV.eq_2;repeat' first|refine gC ?_ ?_<;>intro hc<;>try contradiction|refine gG ?_|show AK _;intro J Z|refine gJ ?_|omega|exact aT
 refine zh (κ:=Nat) (λi=>⟨[(0,.row 900 N),(1,.p (.i .i64 a)),(2,.p (.i .i64 b)),(3,.p (.i .i64 k)),(10,.p (.i .i64 i)),(1000900,.row 900 N)],[(900,.row 120 7 ((swD P U Q V S i).map Mov.pv) false)],[],false⟩) (λi=>i<=U.length) (λi=>U.length - i) 0 ?_ ?_ ?_
 ·simp only [qS,seval,gLV.eq_2]<;>simp [<-e0,hN]
 ·simp
 ·intro i hi;have hsl:=zp3 (P:=P) (Q:=Q) (S:=S) h hi;have hsN:(swD P U Q V S i).length=N:=by omega
  have i1:(a+(i:Int)).toNat=P.length+i:=by omega
  have i2:(b+(i:Int)).toNat=P.length+U.length+Q.length+i:=by omega
  by_cases hlt:i < U.length
  ·obtain ⟨u,hu⟩:=zk (i:=i) (l:=U) hlt;obtain ⟨v,hv⟩:=zk (i:=i) (l:=V) (by omega)
   have h1:=zyj (P:=P) (Q:=Q) (S:=S) h hu;have h2:=zyi (P:=P) (Q:=Q) (S:=S) h hv;have hik:((i:Int) < k)=True:=eq_true (by omega)
   have qe:=aI qR (aI @hsN (aI @i1 (aI @i2 (aI @h1 (aI @h2 (aI @hik (aI @rtN @rtR)))))));repeat' first|refine gC ?_ ?_<;>intro hc<;>try contradiction|refine gG ?_|show AK _;intro J Z|refine gJ ?_|omega|exact aT
   exact ⟨i+1,by omega,by omega,by simp,by rw [<-ztJ h hu hv,xa2,xa2],by rw [zp3 h (by omega)];omega⟩
  ·have hik:((i:Int) < k)=False:=eq_false (by omega)
   have qe:=aI qR (aI @hsN (aI @hik (aI @rtN @rtR)));repeat' first|refine gC ?_ ?_<;>intro hc<;>try contradiction|refine gG ?_|show AK _;intro J Z|refine gJ ?_|omega|exact aT
   have e:i=U.length:=by omega
   subst e;rw [swD_n h,<-hD'];exact .inl (.mk0 (h2:=by simp only [qS,seval,keepG.eq_1,keepG.eq_2,gLV.eq_2]<;>simp [hN]))
section
variable {f:Nat} {c:Mov->Mov->Int}
def zA8 (f:Nat) {D D':List Mov} {N:Nat} (P X Y S:List Mov) (hN:D.length=N) (hD:D=P++(X++(Y++S))) (hD':D'=P++(Y++(X++S))) (hX:0 < X.length) (hY:0 < Y.length) (a m b:Int) (ha:a=(P.length:Nat)) (hm:m=(P.length+X.length:Nat)) (hb:b=(P.length+X.length+Y.length:Nat)) (hn:N<=1000000) :
  Acts prog 262 [.row 900 N,.p (.i .i64 a),.p (.i .i64 m),.p (.i .i64 b),.p (.fn (.func f) [] [])] [(900,.row 120 7 (D.map Mov.pv) false)] (.p (.tup [])) [(900,.row 120 7 (D'.map Mov.pv) false)]:=by
 subst ha hm hb;have hlen:N=P.length+(X.length+(Y.length+S.length)):=by rw [<-hN,hD];simp
 have hlen':D'.length=N:=by rw [hD',hlen];simp;omega
 refine zF (cF func262 f262.eq_1) (by simp) (by simp [scPs,scP,zp,hN]) (by simp [scObj]) ⟨rfl,trivial⟩ (by simp [scObj]) (by simp [zb1,zp,hN,hlen']) λX1 hX1=>?_
 unfold zA ghO;have qe:=aI qR @gLV.eq_2;repeat' first|refine gC ?_ ?_<;>intro hc<;>try contradiction|refine gG ?_|show AK _;intro J Z|refine gJ ?_|omega|exact aT
 refine zh (κ:=List Mov × List Mov × List Mov × List Mov) (λk=>⟨[(0,.row 900 N),(2,.p (.i .i64 (P.length+X.length:Nat))),(4,.p (.fn (.func f) [] [])),(10,.p (.i .i64 (k.2.1.length:Nat))),(11,.p (.i .i64 (k.2.2.1.length:Nat))),(1000900,.row 900 N)],[(900,.row 120 7 ((k.1++(k.2.1++(k.2.2.1++k.2.2.2))).map Mov.pv) false)],[],false⟩)
  (λk=>k.1.length+k.2.1.length=P.length+X.length/\k.1++(k.2.2.1++(k.2.1++k.2.2.2))=D'/\0 < k.2.1.length/\0 < k.2.2.1.length) (λk=>k.2.1.length+k.2.2.1.length) (P,X,Y,S) ?_ ?_ ?_
 ·simp only [qS,seval,gLV.eq_2]<;>simp [<-hD,hN]<;>omega
 ·exact ⟨rfl,hD'.symm,hX,hY⟩
 ·intro k hk;obtain ⟨P',X',Y',S'⟩:=k;simp only at hk;obtain ⟨k1,k2,k3,k4⟩:=hk;have hE:(P'++(X'++(Y'++S'))).length=N:=by
   have:=congrArg List.length k2;rw [hlen'] at this;simp only [xad] at this ⊢;omega
  have hE2:P'.length+(X'.length+(Y'.length+S'.length))=N:=by
   simpa only [xad] using hE
  by_cases h1:X'.length=Y'.length
  ·have h1':((X'.length:Int)=Y'.length)=True:=eq_true (by omega)
   have h2':((Y'.length:Int)=X'.length)=True:=eq_true (by omega)
   have qe:=aI qR (aI @hE (aI @h1' (aI @h2' (aI @qN (aI @rtN @rtR)))));repeat' first|refine gC ?_ ?_<;>intro hc<;>try contradiction|refine zo [] (zms f (D':=D') P' X' [] Y' S' hE (by simp) (by rw [<-k2];simp) h1 (((P.length+X.length:Nat):Int) - (X'.length:Nat)) ((P.length+X.length:Nat):Int) (X'.length:Nat) (by omega) (by simp;omega) rfl hn) ?_|refine gG ?_|show AK _;intro J Z|refine gJ ?_|omega|exact aT
   all_goals first|exact .inl (.mk0 (h2:=by simp only [qS,seval,keepG.eq_1,keepG.eq_2,gLV.eq_2]<;>simp [hN]))|skip
  ·have h1':((X'.length:Int)=Y'.length)=False:=eq_false (by omega)
   by_cases h2:Y'.length < X'.length
   ·have h2':((Y'.length:Int) < X'.length)=True:=eq_true (by omega)
    have hl:(X'.take Y'.length).length=Y'.length:=by simp;omega
    have hl2:(X'.drop Y'.length).length=X'.length - Y'.length:=by simp
    have qe:=aI qR (aI @hE (aI @h1' (aI @h2' (aI @qN (aI @rtN @rtR)))));repeat' first|refine gC ?_ ?_<;>intro hc<;>try contradiction|refine zo [] (zms f (D':=P'++(Y'++(X'.drop Y'.length++(X'.take Y'.length++S')))) P' (X'.take Y'.length) (X'.drop Y'.length) Y' S' hE (by rw [<-xau (X'.take _),xao]) rfl hl (((P.length+X.length:Nat):Int) - (X'.length:Nat)) ((P.length+X.length:Nat):Int) (Y'.length:Nat) (by omega) (by simp only [hl,hl2]<;>omega) (by simp only [hl]) hn) ?_|refine gG ?_|show AK _;intro J Z|refine gJ ?_|omega|exact aT
    refine ⟨(P'++Y',X'.drop Y'.length,X'.take Y'.length,S'),⟨?_,?_,?_,?_⟩,?_,?_⟩
    ·simp only [xad,hl2];omega
    ·show (P'++Y')++(X'.take Y'.length++(X'.drop Y'.length++S'))=D';rw [<-k2,<-xau (X'.take _),xao,xau]
    ·simp only [hl2];omega
    ·simp only [hl];omega
    ·simp only [hl,hl2];omega
    ·refine ⟨⟨?_,?_⟩,?_,?_⟩
     ·simp only [LV.p.injEq,PV.i.injEq,true_and,hl,hl2]<;>omega
     ·simp only [LV.p.injEq,PV.i.injEq,true_and,hl,hl2]<;>omega
     ·simp only [xau]
     ·simp only [xad,hl,hl2];omega
   ·have h2':((Y'.length:Int) < X'.length)=False:=eq_false (by omega)
    have hl:(Y'.drop (Y'.length - X'.length)).length=X'.length:=by simp;omega
    have hl2:(Y'.take (Y'.length - X'.length)).length=Y'.length - X'.length:=by simp
    have qe:=aI qR (aI @hE (aI @h1' (aI @h2' (aI @qN (aI @rtN @rtR)))));repeat' first|refine gC ?_ ?_<;>intro hc<;>try contradiction|refine zo [] (zms f (D':=P'++(Y'.drop (Y'.length - X'.length)++(Y'.take (Y'.length - X'.length)++(X'++S')))) P' X' (Y'.take (Y'.length - X'.length)) (Y'.drop (Y'.length - X'.length)) S' hE (by rw [<-xau (Y'.take _),xao]) rfl hl.symm (((P.length+X.length:Nat):Int) - (X'.length:Nat)) (((P.length+X.length:Nat):Int)+(Y'.length:Nat) - (X'.length:Nat)) (X'.length:Nat) (by omega) (by simp only [hl2]<;>omega) rfl hn) ?_|refine gG ?_|show AK _;intro J Z|refine gJ ?_|omega|exact aT
    refine ⟨(P',Y'.drop (Y'.length - X'.length),Y'.take (Y'.length - X'.length),X'++S'),⟨?_,?_,?_,?_⟩,?_,?_⟩
    ·simp only [hl];omega
    ·show P'++(Y'.take (Y'.length - X'.length)++(Y'.drop (Y'.length - X'.length)++(X'++S')))=D';rw [<-k2,<-xau (Y'.take _),xao]
    ·simp only [hl];omega
    ·simp only [hl2];omega
    ·simp only [hl,hl2];omega
    ·refine ⟨⟨?_,?_⟩,?_,?_⟩
     ·simp only [LV.p.injEq,PV.i.injEq,true_and,hl,hl2]<;>omega
     ·simp only [LV.p.injEq,PV.i.injEq,true_and,hl,hl2]<;>omega
     ·simp only [xau]
     ·simp only [xad,hl,hl2];omega
end
section
variable {α:Type}
def zaU (bef:α->α->Bool) (x:α) (out:List α):Nat->Nat
 | 0=>0
 | n+1=>match out[n]? with
  | some y=>if bef x y then zaU bef x out n else n+1
  | none=>n+1
def zfr (bef:α->α->Bool) (out:List α) (x:α):List α:=out.take (zaU bef x out out.length)++x::out.drop (zaU bef x out out.length)
theorem zkg (bef:α->α->Bool) (x:α) (out:List α):∀ n,zaU bef x out n<=n
 | 0=>xah _
 | n+1=>by
  have:=zkg bef x out n;simp only [zaU];(repeat' split)<;>omega
theorem zkh (bef:α->α->Bool) (x:α) (out:List α):∀ n i,zaU bef x out n<=i->i < n->∃ y,out[i]?=some y/\bef x y=true
 | 0,i,_,h=>by omega
 | n+1,i,h,hi=>by
  simp only [zaU] at h
  split at h
  ·rename_i y hy
   split at h
   ·by_cases e:i=n
    ·subst e;exact ⟨y,hy,by assumption⟩
    ·exact zkh bef x out n i h (by omega)
   ·omega
  ·omega
theorem zgB (bef:α->α->Bool) (x:α) (out:List α):∀ n k y,zaU bef x out n=k+1->out[k]?=some y->bef x y=false
 | 0,_,_,h,_=>by cases h
 | n+1,k,y,h,hy=>by
  simp only [zaU] at h
  split at h
  ·rename_i z hz
   split at h
   ·exact zgB bef x out n k y h hy
   ·have e:n=k:=by omega
    subst e;rw [hz] at hy;cases hy;rename_i hb;simpa using hb
  ·rename_i hz;have e:n=k:=by omega
   subst e;rw [hz] at hy;cases hy
def zoV (bef:α->α->Bool) (out:List α) (x:α):(zfr bef out x).Perm (x::out):=by
 unfold zfr;refine List.perm_middle.trans ?_;rw [xao]
theorem zcL (bef:α->α->Bool):∀ (l out:List α),(l.foldl (zfr bef) out).Perm (out++l)
 | [],out=>by simp
 | x::l,out=>by
  refine (zcL bef l (zfr bef out x)).trans ?_;refine ((zoV bef out x).append_right l).trans ?_;simpa using (List.perm_middle (a:=x) (l₁:=out) (l₂:=l)).symm
def zhe (c:α->α->Int) (x y:α):Bool:=decide (c x y < 0)
def zhb (c:α->α->Int) (L:List α) (k:Nat):List α:=(L.take k).foldl (zfr (zhe c)) []
def zbt (c:α->α->Int) (L:List α):List α:=L.foldl (zfr (zhe c)) []
def zep {c:α->α->Int} {L:List α} {k:Nat} (h:k<=L.length):(zhb c L k).length=k:=by
 have:=(zcL (zhe c) (L.take k) []).length_eq;rw [zhb,this];simp;omega
def zrI {c:α->α->Int} {L:List α} {k:Nat} {x:α} (h:L[k]?=some x):zhb c L (k+1)=zfr (zhe c) (zhb c L k) x:=by
 rw [zhb,xaP,h,xa4];rfl
def zK (c:α->α->Int) (L:List α):(zbt c L).length=L.length:=by
 have:=(zcL (zhe c) L []).length_eq;rw [zbt,this];simp
def ze7 (c:α->α->Int) (L:List α) (k:Nat):List α:=zhb c L k++L.drop k
def zcn {c:α->α->Int} {L:List α} {k:Nat} (h:k<=L.length\/k=1):(ze7 c L k).length=L.length:=by
 rcases L with _|⟨x,r⟩
 ·rcases h with h|h<;>(try simp at h)<;>subst h<;>simp [ze7,zhb]
 ·rw [ze7,xad,zep (by rcases h with h|h<;>simp at *<;>omega),xay]
  rcases h with h|h<;>simp at *<;>omega
def zsE (c:α->α->Int) (L:List α):ze7 c L 1=L:=by
 rcases L with _|⟨x,r⟩<;>simp [ze7,zhb,zfr,zaU]
def zkA (c:α->α->Int) (L:List α) {k:Nat} (h:L.length<=k):ze7 c L k=zbt c L:=by
 rw [ze7,zhb,xal h,xbr h,xat];rfl
def djP (out:List α) (x:α) (rest:List α) (j:Nat):List α:=out.take j++x::(out.drop j++rest)
def zjl {out:List α} {x:α} {rest:List α} {j:Nat} (h:j<=out.length):(djP out x rest j).length=out.length+1+rest.length:=by
 simp [djP];omega
def zky {c:α->α->Int} {L:List α} {i:Nat} {x:α} (h:L[i]?=some x):djP (zhb c L i) x (L.drop (i+1)) i=ze7 c L i:=by
 have hi:=(xaa.1 h).1;have hl:=zep (c:=c) (L:=L) (k:=i) (by omega)
 rw [djP,ze7,xal (by omega),xbr (by omega),xaQ,xaM hi,(xaa.1 h).2]
def zfQ {c:α->α->Int} {L:List α} {i j:Nat} {x:α} (h:L[i]?=some x) (hj:j=zaU (zhe c) x (zhb c L i) i):djP (zhb c L i) x (L.drop (i+1)) j=ze7 c L (i+1):=by
 have hi:=(xaa.1 h).1;rw [ze7,zrI h,zfr,zep (by omega),<-hj,djP];simp
def zxQ {out:List α} {x y:α} {rest:List α} {j:Nat} (h:out[j]?=some y):(djP out x rest (j+1))[j]?=some y/\(djP out x rest (j+1))[j+1]?=some x:=by
 have hj:=(xaa.1 h).1;have hl:(out.take j).length=j:=by simp;omega
 rw [djP,xaP,h,xau];refine ⟨?_,?_⟩
 ·rw [xas (by omega),hl];simp
 ·rw [xas (by omega),hl];simp
def znH {out:List α} {x y:α} {rest:List α} {j:Nat} (h:out[j]?=some y):((djP out x rest (j+1)).set (j+1) y).set j x=djP out x rest j:=by
 have hj:=(xaa.1 h).1;have hl:(out.take j).length=j:=by simp;omega
 have hd:out.drop j=y::out.drop (j+1):=by rw [xaM hj,(xaa.1 h).2]
 rw [djP,djP,xaP,h,hd,xau,xbe _ _ (by omega),hl,xbe _ _ (by omega),hl]
 simp
def zhS {c:α->α->Int} {x:α} {out:List α} {q:Nat} {y:α} (hy:out[q]?=some y) (hb:¬c x y < 0):zaU (zhe c) x out (q+1)=q+1:=by
 simp only [zaU,hy];rw [if_neg (by simp [zhe];omega)]
def znu {c:α->α->Int} {x:α} {out:List α} {q:Nat} {y:α} (hy:out[q]?=some y) (hb:c x y < 0):zaU (zhe c) x out (q+1)=zaU (zhe c) x out q:=by
 simp only [zaU,hy];rw [if_pos (by simp [zhe];omega)]
end
def zw6 {f:Nat} {c:Lea->Lea->Int} (hf:∀ a b:Lea,Pure prog f [a.pv,b.pv] (.i .i64 (c a b))) (L:List Lea) (b:Int) (hb:b=L.length) (hn:L.length<=1000000):Acts prog 219 [.row 900 L.length,.p (.i .i64 0),.p (.i .i64 b),.p (.fn (.func f) [] [])] [(900,.row 86 3 (L.map Lea.pv) false)] (.p (.tup [])) [(900,.row 86 3 ((zbt c L).map Lea.pv) false)]:=by
 subst hb;refine zF (cF func219 f219.eq_1) (by simp) (by simp [scPs,scP,zp]) (by simp [scObj]) ⟨rfl,trivial⟩ (by simp [scObj]) (by simp [zb1,zp,zK]) λX hX=>?_
 unfold zA ghO;have qe:=aI qR @gLV.eq_2;repeat' first|refine gC ?_ ?_<;>intro hc<;>try contradiction|refine gG ?_|show AK _;intro J Z|refine gJ ?_|omega|exact aT
 refine zh (κ:=Nat) (λi=>⟨[(0,.row 900 L.length),(1,.p (.i .i64 0)),(2,.p (.i .i64 L.length)),(3,.p (.fn (.func f) [] [])),(8,.p (.i .i64 i)),(1000900,.row 900 L.length)],[(900,.row 86 3 ((ze7 c L i).map Lea.pv) false)],[],false⟩) (λi=>1<=i/\(i<=L.length\/i=1)) (λi=>L.length - i) 1 ?_ ?_ ?_
 ·simp only [qS,seval,gLV.eq_2]<;>simp [zsE]
 ·simp
 ·intro i hi;have hdl:=zcn (c:=c) hi.2
  by_cases hlt:i < L.length
  ·obtain ⟨x,hx⟩:=zk (i:=i) (l:=L) hlt;have qe:=aI qR @hdl;repeat' first|refine gC ?_ ?_<;>intro hc<;>try contradiction|refine gG ?_|show AK _;intro J Z|refine gJ ?_|omega|exact aT
   have hol:=zep (c:=c) (L:=L) (k:=i) (by omega)
   refine zh (κ:=Nat) (λj=>⟨[(0,.row 900 L.length),(1,.p (.i .i64 0)),(2,.p (.i .i64 L.length)),(3,.p (.fn (.func f) [] [])),(8,.p (.i .i64 i)),(9,.p (.i .i64 j)),(1000900,.row 900 L.length)],[(900,.row 86 3 ((djP (zhb c L i) x (L.drop (i+1)) j).map Lea.pv) false)],[],false⟩) (λj=>j<=i/\zaU (zhe c) x (zhb c L i) j=zaU (zhe c) x (zhb c L i) i) (λj=>j) i ?_ ?_ ?_
   ·refine gJ ?_;simp [zky hx,hdl]
   ·simp
   ·intro j hj;have hjl:(djP (zhb c L i) x (L.drop (i+1)) j).length=L.length:=by rw [zjl (by omega),hol,xay];omega
    cases j with
    | zero=>
     have i0:(0 < ((0:Nat):Int))=False:=eq_false (by omega)
     have qe:=aI qR (aI @i0 (aI @hjl (aI @rtN @rtR)));repeat' first|refine gC ?_ ?_<;>intro hc<;>try contradiction|(show zj _ _ _ _ (⟨_,.callv,_,_,_⟩::_) _ _;refine zcf (q:=(.i .i64 0)) (by first|rfl|(simp (disch:=omega) only [qG,qe,seval]<;>rfl)) ?_;(try (refine zB ?_)))|refine gG ?_|show AK _;intro J Z|refine gJ ?_|omega|exact aT
     exact ⟨i+1,by omega,by omega,by simp,by rw [zfQ (j:=0) hx hj.2],by rw [zcn (by omega)];exact xah _⟩
    | succ j=>
     have i0:(0 < ((j+1:Nat):Int))=True:=eq_true (by omega)
     have i1:((j+1:Nat):Int) - 1=(j:Int):=by omega
     obtain ⟨y,hy⟩:=zk (i:=j) (l:=zhb c L i) (by omega)
     obtain ⟨h1,h2⟩:=zxQ (x:=x) (rest:=L.drop (i+1)) hy
     by_cases hc:c x y < 0
     ·have hc':=eq_true hc;have h3:=znu hy hc;have qe:=aI qR (aI @i0 (aI @i1 (aI @h1 (aI @h2 (aI @hjl (aI @hc' (aI @rtN @rtR)))))));repeat' first|refine gC ?_ ?_<;>intro hc<;>try contradiction|refine zn (hf x y) ?_|refine gG ?_|show AK _;intro J Z|refine gJ ?_|omega|exact aT
      exact ⟨j,⟨by omega,by rw [<-h3];exact hj.2⟩,by omega,rfl,by rw [<-znH hy,xa2,xa2],by rw [zjl (by omega),hol,xay];omega⟩
     ·have hc':=eq_false hc;have h3:=zhS hy hc;have qe:=aI qR (aI @i0 (aI @i1 (aI @h1 (aI @h2 (aI @hjl (aI @hc' (aI @rtN @rtR)))))));repeat' first|refine gC ?_ ?_<;>intro hc<;>try contradiction|refine zn (hf x y) ?_|refine gG ?_|show AK _;intro J Z|refine gJ ?_|omega|exact aT
      exact ⟨i+1,by omega,by omega,by simp,by rw [zfQ hx (h3.symm.trans hj.2)],by rw [zcn (by omega)];exact xah _⟩
  ·have qe:=aI qR (aI @hdl (aI @rtN @rtR));repeat' first|refine gC ?_ ?_<;>intro hc<;>try contradiction|refine gG ?_|show AK _;intro J Z|refine gJ ?_|omega|exact aT
   rw [zkA c L (by omega)]
   exact .inl (.mk0 (h2:=by simp only [qS,seval,keepG.eq_1,keepG.eq_2,gLV.eq_2]<;>simp))
end Go.Proofs.YtocamnijnhnlfaaGreat
