/- Contracts of functions, for the claim. No conditions. -/
import Derived.Test.YtijgimeokgbifaaGreatK3
set_option linter.all false
set_option maxHeartbeats 8000000
set_option maxRecDepth 100000
namespace Go.Proofs.YtijgimeokgbifaaGreat
open Go.RowKit Tryz
def zeC {r:Req} (h:zdB r=0):zat r.per=0/\0<=r.minute/\r.minute<=1439:=by
 unfold zdB at h;simp only [zq,zdl] at h;exact ⟨h.2.2.2.1,h.2.2.2.2.1⟩
def zeh (r:Req) (d:Int):Mov:=⟨1440*d+r.minute,r.kind,r.term,r.seats,r.size,r.noise,r.name⟩
def zrw (r:Req):List Mov:=(zW r.per).map (zeh r)
def zw3 (r:Req) (h:zdB r=0):Pure prog 122 [r.pv] (.sl 7 ((zrw r).map Mov.pv)):=by
 have hr:=zeC h;have hp:=zaW hr.1;have hdl:=zcE r.per;have hdr:zdf r.per=zW r.per:=by rw [zdf,if_pos hr.1]
 refine pz func122 f122.eq_1 λhw X hX=>?_
 have qe:=aI qR @hdr;repeat' first|refine gC ?_ ?_<;>intro hc<;>try contradiction|refine za (zi7 r.per) ?_|refine gG ?_|show AK _;intro J Z|refine gJ ?_|omega|exact aT
 refine zaO 100 140 7 [(1,.lp 1 0),(5,.row 100 0),(14,.p (.sl 1 ((zW r.per).map (.i .i64)))),(15,.p (.i .i64 (zW r.per).length)),(16,.p (.i .i64 0))] [(1,.box ([.s r.name,.s r.carrier,.s r.kind,.s r.term,.s r.partner,.s r.link,.i .i64 r.per.fro,.i .i64 r.per.to,.i .i64 r.per.days,.i .i64 r.minute,.i .i64 r.seats,.i .i64 r.size,.i .i64 r.noise].map .p) false)] ?_ ?_
 ·simp only [Own,zaL,zaA,zbr,zax,qS,seval]
 refine zi (κ:=Nat) (λk=>⟨[(1,.lp 1 0),(5,.row 100 ((zW r.per).take k).length),(14,.p (.sl 1 ((zW r.per).map (.i .i64)))),(15,.p (.i .i64 (zW r.per).length)),(16,.p (.i .i64 k))],[(1,.box ([.s r.name,.s r.carrier,.s r.kind,.s r.term,.s r.partner,.s r.link,.i .i64 r.per.fro,.i .i64 r.per.to,.i .i64 r.per.days,.i .i64 r.minute,.i .i64 r.seats,.i .i64 r.size,.i .i64 r.noise].map .p) false),(100,.row 140 7 ((((zW r.per).take k).map (zeh r)).map Mov.pv) false)],[],false⟩) (λk=>k<=(zW r.per).length) (λk=>(zW r.per).length - k) 0 ?_ ?_ ?_
 ·exact sS
 ·simp
 ·intro k hk
  repeat first|refine gG ?_|show AK _;intro J Z|refine gJ ?_|omega|exact aT
  (refine gC ?_ ?_<;>intro hc<;>try contradiction)
  ·obtain ⟨d,hx⟩:=zm (i:=k) (l:=zW r.per) (by omega)
   have hdm:=zig (xad hx);have hlt:=zgr hx;have qe:=aI qR @hx;repeat' first|refine gC ?_ ?_<;>intro hc<;>try contradiction|refine gG ?_|show AK _;intro J Z|refine gJ ?_|omega|exact aT
   exact ⟨k+1,by omega,by omega,⟨by rw [xaK,hx,xae];rfl,by simp⟩,by rw [zdg (zeh r) hx];simp [zeh]⟩
  ·repeat' first|refine gC ?_ ?_<;>intro hc<;>try contradiction|refine gG ?_|show AK _;intro J Z|refine gJ ?_|omega|exact aT
   have e:k=(zW r.per).length:=by omega
   subst e;rw [xas];exact .refl _
def zgR (r:Req):List Mov:=if zdB r=0 then zrw r else []
def zkf (r:Req):Pure prog 75 [r.pv] (.tup [.sl 7 ((zgR r).map Mov.pv),.i .i64 (zdB r)]):=by
 refine pz func75 f75.eq_1 λhw X hX=>?_
 have qe:=@qR;repeat' first|refine gC ?_ ?_<;>intro hc<;>try contradiction|refine za (zsQ r) ?_|refine za (zw3 r hc) ?_|refine gG ?_|show AK _;intro J Z|refine gJ ?_|omega|exact aT
 ·rw [zgR,if_neg hc];exact zhr (.nilsl _) (.refl _)
 ·rw [zgR,if_pos hc,hc];exact .refl _
def Req.at (r:Req) (n:Int):Req:={ r with minute:=n }
def zb6 (bef:Mov->Mov->Bool) (x:Mov) (out:List Mov):Nat->Nat
 | 0=>0
 | n+1=>match out[n]? with
  | some y=>if bef x y then zb6 bef x out n else n+1
  | none=>n+1
def zl3 (bef:Mov->Mov->Bool) (out:List Mov) (x:Mov):List Mov:=out.take (zb6 bef x out out.length)++x::out.drop (zb6 bef x out out.length)
def zf5 (bef:Mov->Mov->Bool) (a b:List Mov):List Mov:=(a++b).foldl (zl3 bef) []
theorem zkM (bef:Mov->Mov->Bool) (x:Mov) (out:List Mov):∀ n,zb6 bef x out n<=n
 | 0=>xaj _
 | n+1=>by
  have:=zkM bef x out n;simp only [zb6];(repeat' split)<;>omega
theorem zkN (bef:Mov->Mov->Bool) (x:Mov) (out:List Mov):∀ n i,zb6 bef x out n<=i->i < n->∃ y,out[i]?=some y/\bef x y=true
 | 0,i,_,h=>by omega
 | n+1,i,h,hi=>by
  simp only [zb6] at h
  split at h
  ·rename_i y hy
   split at h
   ·by_cases e:i=n
    ·subst e;exact ⟨y,hy,by assumption⟩
    ·exact zkN bef x out n i h (by omega)
   ·omega
  ·omega
theorem zga (bef:Mov->Mov->Bool) (x:Mov) (out:List Mov):∀ n k y,zb6 bef x out n=k+1->out[k]?=some y->bef x y=false
 | 0,_,_,h,_=>by cases h
 | n+1,k,y,h,hy=>by
  simp only [zb6] at h
  split at h
  ·rename_i z hz
   split at h
   ·exact zga bef x out n k y h hy
   ·have e:n=k:=by omega
    subst e;rw [hz] at hy;cases hy;rename_i hb;simpa using hb
  ·rename_i hz;have e:n=k:=by omega
   subst e;rw [hz] at hy;cases hy
def zot (bef:Mov->Mov->Bool) (out:List Mov) (x:Mov):(zl3 bef out x).Perm (x::out):=by
 unfold zl3;refine List.perm_middle.trans ?_;rw [xaw]
theorem zcQ (bef:Mov->Mov->Bool):∀ (l out:List Mov),(l.foldl (zl3 bef) out).Perm (out++l)
 | [],out=>by simp
 | x::l,out=>by
  refine (zcQ bef l (zl3 bef out x)).trans ?_;refine ((zot bef out x).append_right l).trans ?_;simpa using (List.perm_middle (a:=x) (l₁:=out) (l₂:=l)).symm
def zlQ (bef:Mov->Mov->Bool) (a b:List Mov):(zf5 bef a b).Perm (a++b):=by
 simpa [zf5] using zcQ bef (a++b) []
section
variable {α:Type} (lt:α->α->Bool)
def mrg:List α->List α->List α
 | [],B=>B
 | a::A,[]=>a::A
 | a::A,b::B=>if lt b a then b::mrg (a::A) B else a::mrg A (b::B)
termination_by A B=>A.length+B.length
def insL (x:α):List α->List α
 | []=>[x]
 | y::r=>if lt x y then x::y::r else y::insL x r
def zfJ (L:List α):List α:=L.foldl (λout x=>insL lt x out) []
structure SW:Prop where
 asym:∀ x y,lt x y=true->lt y x=false
 nt:∀ x y z,lt x y=false->lt y z=false->lt x z=false
abbrev srt (L:List α):Prop:=L.Pairwise λx y=>lt y x=false
variable {lt}
def irr (hs:SW lt) (x:α):lt x x=false:=by
 cases hh:lt x x
 ·rfl
 ·rw [<-hs.asym _ _ hh,hh]
def zaU (A:List α):mrg lt A []=A:=by cases A<;>simp [mrg]
def zaD (B:List α):mrg lt [] B=B:=by simp [mrg]
def zfG {a b:α} (A B:List α) (h:lt b a=true):mrg lt (a::A) (b::B)=b::mrg lt (a::A) B:=by rw [mrg,if_pos h]
def zgQ {a b:α} (A B:List α) (h:lt b a=false):mrg lt (a::A) (b::B)=a::mrg lt A (b::B):=by rw [mrg,if_neg (by simp [h])]
theorem zkF {x z:α}:∀ {L:List α},z ∈ insL lt x L↔z=x\/z ∈ L
 | []=>by simp [insL]
 | y::r=>by
  unfold insL;split
  ·simp
  ·simp only [xaA,zkF]
   constructor
   ·rintro (h|h|h)<;>simp [h]
   ·rintro (h|h|h)<;>simp [h]
theorem zkK (hs:SW lt) {x:α}:∀ {L:List α},srt lt L->srt lt (insL lt x L)
 | [],_=>by simp [insL]
 | y::r,h=>by
  have h:=xbg.1 h;unfold insL;split
  ·rename_i e;refine xbg.2 ⟨λz hz=>?_,xbg.2 h⟩
   rcases xaA.1 hz with rfl|hz
   ·exact hs.asym _ _ e
   ·exact hs.nt _ _ _ (h.1 z hz) (hs.asym _ _ e)
  ·rename_i e;refine xbg.2 ⟨λz hz=>?_,zkK hs h.2⟩
   rcases zkF.1 hz with rfl|hz
   ·simpa using e
   ·exact h.1 z hz
theorem zeu (hs:SW lt) (x:α):∀ (A B:List α),mrg lt A (insL lt x B)=insL lt x (mrg lt A B)
 | [],B=>by rw [zaD,zaD]
 | a::A,[]=>by
  rw [zaU];cases h:lt x a with
  | true=>rw [insL,zfG _ _ h,zaU,insL,if_pos h]
  | false=>
   rw [insL,zgQ _ _ h,insL,if_neg (by simp [h])]
   have:=zeu hs x A [];rw [insL,zaU] at this;rw [this]
 | a::A,b::B=>by
  cases h:lt b a with
  | true=>
   rw [zfG _ _ h];cases h2:lt x b with
   | true=>
    have h3:lt x a=true:=by
     cases e:lt x a
     ·have:=hs.nt _ _ _ e (hs.asym _ _ h);rw [h2] at this;cases this
     ·rfl
    rw [insL,if_pos h2,zfG _ _ h3,zfG _ _ h,insL,if_pos h2]
   | false=>rw [insL,if_neg (by simp [h2]),zfG _ _ h,insL,if_neg (by simp [h2]),zeu hs x (a::A) B]
  | false=>
   rw [zgQ _ _ h];have ih:=zeu hs x A (b::B);cases h2:lt x b with
   | true=>
    rw [insL,if_pos h2] at ih ⊢;cases h3:lt x a with
    | true=>rw [zfG _ _ h3,zgQ _ _ h,insL,if_pos h3]
    | false=>rw [zgQ _ _ h3,ih,insL.eq_2,if_neg (by simp [h3])]
   | false=>
    rw [insL,if_neg (by simp [h2])] at ih ⊢
    have h3:=hs.nt _ _ _ h2 h;rw [zgQ _ _ h,ih,insL.eq_2,if_neg (by simp [h3])]
termination_by A B=>A.length+B.length
def zcP (L:List α) (x:α):zfJ lt (L++[x])=insL lt x (zfJ lt L):=by rw [zfJ,xa2];rfl
def ziL {P:List α->Prop} (h0:P []) (hs:∀ L x,P L->P (L++[x])) (L:List α):P L:=by
 rw [<-List.reverse_reverse L];generalize L.reverse=R
 induction R with
 | nil=>exact h0
 | cons x r ih=>rw [List.reverse_cons];exact hs _ _ ih
def zop (hs:SW lt) (A B:List α):zfJ lt (A++B)=mrg lt (zfJ lt A) (zfJ lt B):=by
 induction B using ziL with
 | h0=>rw [xat,show zfJ lt ([]:List α)=[] from rfl,zaU]
 | hs L x ih=>rw [<-xau,zcP,zcP,zeu hs,ih]
def zcz (hs:SW lt) (L:List α):srt lt (zfJ lt L):=by
 induction L using ziL with
 | h0=>exact List.Pairwise.nil
 | hs L x ih=>rw [zcP];exact zkK hs ih
theorem zcu:∀ A B:List α,(mrg lt A B).length=A.length+B.length
 | [],B=>by rw [zaD];simp
 | a::A,[]=>by rw [zaU];rfl
 | a::A,b::B=>by
  cases h:lt b a with
  | true=>rw [zfG _ _ h,xaE,zcu (a::A) B];simp only [xaE];omega
  | false=>rw [zgQ _ _ h,xaE,zcu A (b::B)];simp only [xaE];omega
termination_by A B=>A.length+B.length
theorem zov {x:α}:∀ {U V:List α},(∀ u ∈ U,lt x u=false)->(∀ v ∈ V.head?,lt x v=true)->insL lt x (U++V)=U++x::V
 | [],[],_,_=>rfl
 | [],v::V,_,h=>by rw [xaP,insL,if_pos (h v (by simp))];rfl
 | u::U,V,h,hv=>by rw [xaQ,insL,if_neg (by simp [h u (by simp)]),zov (λw hw=>h w (by simp [hw])) hv];rfl
theorem zaP:∀ (A1 A2 B1 B2:List α),(∀ a ∈ A1,∀ b ∈ B2,lt b a=false)->(∀ b ∈ B1,∀ a ∈ A2,lt b a=true)->mrg lt (A1++A2) (B1++B2)=mrg lt A1 B1++mrg lt A2 B2
 | [],[],B1,B2,_,_=>by simp [zaD]
 | [],a::A2,[],B2,_,_=>by simp [zaD]
 | [],a::A2,b::B1,B2,h1,h2=>by
  have ih:=zaP [] (a::A2) B1 B2 (by simp) (λb hb=>h2 b (by simp [hb]))
  rw [xaP,xaQ,zfG _ _ (h2 b (by simp) a (by simp)),zaD]
  rw [xaP,zaD] at ih;rw [ih];rfl
 | a::A1,A2,[],[],_,_=>by simp [zaU]
 | a::A1,A2,[],b::B2,h1,h2=>by
  have ih:=zaP A1 A2 [] (b::B2) (λa ha=>h1 a (by simp [ha])) (by simp)
  rw [xaP,xaQ,zgQ _ _ (h1 a (by simp) b (by simp)),zaU]
  rw [xaP,zaU] at ih;rw [ih];rfl
 | a::A1,A2,b::B1,B2,h1,h2=>by
  rw [xaQ,xaQ];cases h:lt b a with
  | true=>
   have ih:=zaP (a::A1) A2 B1 B2 h1 (λb hb=>h2 b (by simp [hb]))
   rw [zfG _ _ h,zfG _ _ h];rw [xaQ] at ih;rw [ih];rfl
  | false=>
   have ih:=zaP A1 A2 (b::B1) B2 (λa ha=>h1 a (by simp [ha])) h2
   rw [zgQ _ _ h,zgQ _ _ h];rw [xaQ] at ih;rw [ih];rfl
termination_by A1 _ B1 _=>A1.length+B1.length
def zuI (hs:SW lt) {A B:List α} (hA:srt lt A) (hB:srt lt B) {s e:Nat} (hsl:s<=A.length) (h:∀ a b,A[s - 1]?=some a->B[e]?=some b->0 < s->lt b a=false):∀ a ∈ A.take s,∀ b ∈ B.drop e,lt b a=false:=by
 intro a ha b hb;obtain ⟨i,hi⟩:=xaZ ha;obtain ⟨j,hj⟩:=xaZ hb;have hil:=(xaa.1 hi).1;simp only [xai] at hil;rw [xaI,if_pos (by omega)] at hi
 rw [xaS] at hj;have hjl:=(xaa.1 hj).1;obtain ⟨x,hx⟩:∃ x,A[s - 1]?=some x:=⟨_,xab (by omega)⟩
 obtain ⟨y,hy⟩:∃ y,B[e]?=some y:=⟨_,xab (by omega)⟩
 have h0:=h x y hx hy (by omega)
 have h1:lt x a=false:=by
  by_cases ei:i=s - 1
  ·rw [<-ei,hi] at hx;cases hx;exact irr hs _
  ·have:=xaW.1 hA i (s - 1) (by omega) (by omega) (by omega)
   rw [xab (by omega)] at hi hx
   rw [xaM hi,xaM hx] at this;exact this
 have h2:lt b y=false:=by
  by_cases e2:j=0
  ·subst e2;rw [xbK,hy] at hj;cases hj;exact irr hs _
  ·have:=xaW.1 hB e (e+j) (by omega) (by omega) (by omega)
   rw [xab (by omega)] at hj hy
   rw [xaM hj,xaM hy] at this;exact this
 exact hs.nt _ _ _ (hs.nt _ _ _ h2 h0) h1
def zrN (hs:SW lt) {A B:List α} (hA:srt lt A) (hB:srt lt B) {s e:Nat} (hel:e<=B.length) (h:∀ a b,A[s]?=some a->B[e - 1]?=some b->0 < e->lt b a=true):∀ b ∈ B.take e,∀ a ∈ A.drop s,lt b a=true:=by
 intro b hb a ha;cases hba:lt b a with
 | true=>rfl
 | false=>
  exfalso
  obtain ⟨i,hi⟩:=xaZ hb;obtain ⟨j,hj⟩:=xaZ ha;have hil:=(xaa.1 hi).1;simp only [xai] at hil;rw [xaI,if_pos (by omega)] at hi
  rw [xaS] at hj;have hjl:=(xaa.1 hj).1;obtain ⟨x,hx⟩:∃ x,B[e - 1]?=some x:=⟨_,xab (by omega)⟩
  obtain ⟨y,hy⟩:∃ y,A[s]?=some y:=⟨_,xab (by omega)⟩
  have h0:=h y x hy hx (by omega)
  have h1:lt x b=false:=by
   by_cases e2:i=e - 1
   ·rw [<-e2,hi] at hx;cases hx;exact irr hs _
   ·have:=xaW.1 hB i (e - 1) (by omega) (by omega) (by omega)
    rw [xab (by omega)] at hi hx
    rw [xaM hi,xaM hx] at this;exact this
  have h2:lt a y=false:=by
   by_cases e2:j=0
   ·subst e2;rw [xbK,hy] at hj;cases hj;exact irr hs _
   ·have:=xaW.1 hA s (s+j) (by omega) (by omega) (by omega)
    rw [xab (by omega)] at hj hy
    rw [xaM hj,xaM hy] at this;exact this
  have:=hs.nt _ _ _ (hs.nt _ _ _ h1 hba) h2;rw [h0] at this;cases this
end
def zou {lt:Mov->Mov->Bool} (hs:SW lt) {L:List Mov} (h:srt lt L) (x:Mov):zl3 lt L x=insL lt x L:=by
 unfold zl3;generalize hk:zb6 lt x L L.length=k;have hkl:=zkM lt x L L.length;have hge:=zkN lt x L L.length;have hla:=zga lt x L L.length;rw [hk] at hkl hge hla
 conv=>rhs;rw [<-xaw k L]
 refine (zov (λu hu=>?_) λv hv=>?_).symm
 ·cases k with
  | zero=>simp at hu
  | succ k=>
   obtain ⟨z,hz⟩:∃ z,L[k]?=some z:=⟨_,xab (by omega)⟩
   have hb:=hla k z rfl hz;obtain ⟨i,hi⟩:=xaZ hu;have hik:=(xaa.1 hi).1;simp only [xai] at hik;rw [xaI,if_pos (by omega)] at hi
   by_cases e:i=k
   ·subst e;rw [hz] at hi;cases hi;exact hb
   ·have:=xaW.1 h i k (by omega) (by omega) (by omega)
    rw [xab (by omega)] at hi hz
    rw [xaM hi,xaM hz] at this;exact hs.nt _ _ _ hb this
 ·rw [List.head?_drop] at hv;have hlt:=(xaa.1 hv).1;obtain ⟨y,hy,hb⟩:=hge k (xaj _) hlt;rw [hv] at hy;cases hy;exact hb
def zjy {lt:Mov->Mov->Bool} (hs:SW lt) (L:List Mov):L.foldl (zl3 lt) []=zfJ lt L:=by
 induction L using ziL with
 | h0=>rfl
 | hs L x ih=>rw [xa2,zcP,<-ih];exact zou hs (by rw [ih];exact zcz hs L) x
def bfC (c:Mov->Mov->Int) (x y:Mov):Bool:=decide (c x y < 0)
def mgC (c:Mov->Mov->Int) (L:List Mov) (k:Nat):List Mov:=(L.take k).foldl (zl3 (bfC c)) []
def zai (c:Mov->Mov->Int) (L:List Mov):List Mov:=L.foldl (zl3 (bfC c)) []
def zgW {c:Mov->Mov->Int} {L:List Mov} {k:Nat} (h:k<=L.length):(mgC c L k).length=k:=by
 have:=(zcQ (bfC c) (L.take k) []).length_eq;rw [mgC,this];simp;omega
def zry {c:Mov->Mov->Int} {L:List Mov} {k:Nat} {x:Mov} (h:L[k]?=some x):mgC c L (k+1)=zl3 (bfC c) (mgC c L k) x:=by
 rw [mgC,xaK,h,xa2];rfl
def zab (c:Mov->Mov->Int) (L:List Mov):(zai c L).length=L.length:=by
 have:=(zcQ (bfC c) L []).length_eq;rw [zai,this];simp
def zmG (c:Mov->Mov->Int) (L:List Mov) (k:Nat):List Mov:=mgC c L k++L.drop k
def zhh {c:Mov->Mov->Int} {L:List Mov} {k:Nat} (h:k<=L.length\/k=1):(zmG c L k).length=L.length:=by
 rcases L with _|⟨x,r⟩
 ·rcases h with h|h<;>(try simp at h)<;>subst h<;>simp [zmG,mgC]
 ·rw [zmG,xae,zgW (by rcases h with h|h<;>simp at *<;>omega),xaF]
  rcases h with h|h<;>simp at *<;>omega
def zx8 (c:Mov->Mov->Int) (L:List Mov):zmG c L 1=L:=by
 rcases L with _|⟨x,r⟩<;>simp [zmG,mgC,zl3,zb6]
def zr8 (c:Mov->Mov->Int) (L:List Mov) {k:Nat} (h:L.length<=k):zmG c L k=zai c L:=by
 rw [zmG,mgC,xag h,xbj h,xat];rfl
def dj (out:List Mov) (x:Mov) (rest:List Mov) (j:Nat):List Mov:=out.take j++x::(out.drop j++rest)
def zs6 {out:List Mov} {x:Mov} {rest:List Mov} {j:Nat} (h:j<=out.length):(dj out x rest j).length=out.length+1+rest.length:=by
 simp [dj];omega
def zr5 {c:Mov->Mov->Int} {L:List Mov} {i:Nat} {x:Mov} (h:L[i]?=some x):dj (mgC c L i) x (L.drop (i+1)) i=zmG c L i:=by
 have hi:=(xaa.1 h).1;have hl:=zgW (c:=c) (L:=L) (k:=i) (by omega)
 rw [dj,zmG,xag (by omega),xbj (by omega),xaP,xaU hi,(xaa.1 h).2]
def zoR {c:Mov->Mov->Int} {L:List Mov} {i j:Nat} {x:Mov} (h:L[i]?=some x) (hj:j=zb6 (bfC c) x (mgC c L i) i):dj (mgC c L i) x (L.drop (i+1)) j=zmG c L (i+1):=by
 have hi:=(xaa.1 h).1;rw [zmG,zry h,zl3,zgW (by omega),<-hj,dj];simp
def dj_at {out:List Mov} {x y:Mov} {rest:List Mov} {j:Nat} (h:out[j]?=some y):(dj out x rest (j+1))[j]?=some y/\(dj out x rest (j+1))[j+1]?=some x:=by
 have hj:=(xaa.1 h).1;have hl:(out.take j).length=j:=by simp;omega
 rw [dj,xaK,h,xau];refine ⟨?_,?_⟩
 ·rw [xax (by omega),hl];simp
 ·rw [xax (by omega),hl];simp
def zvA {out:List Mov} {x y:Mov} {rest:List Mov} {j:Nat} (h:out[j]?=some y):((dj out x rest (j+1)).set (j+1) y).set j x=dj out x rest j:=by
 have hj:=(xaa.1 h).1;have hl:(out.take j).length=j:=by simp;omega
 have hd:out.drop j=y::out.drop (j+1):=by rw [xaU hj,(xaa.1 h).2]
 rw [dj,dj,xaK,h,hd,xau,xbJ _ _ (by omega),hl,xbJ _ _ (by omega),hl]
 simp
def zow {c:Mov->Mov->Int} {x:Mov} {out:List Mov} {q:Nat} {y:Mov} (hy:out[q]?=some y) (hb:¬c x y < 0):zb6 (bfC c) x out (q+1)=q+1:=by
 simp only [zb6,hy];rw [if_neg (by simp [bfC];omega)]
def zuY {c:Mov->Mov->Int} {x:Mov} {out:List Mov} {q:Nat} {y:Mov} (hy:out[q]?=some y) (hb:c x y < 0):zb6 (bfC c) x out (q+1)=zb6 (bfC c) x out q:=by
 simp only [zb6,hy];rw [if_pos (by simp [bfC];omega)]
def zbm {α:Type} (P X S:List α) {j:Nat} (h:j < X.length):(P++(X++S))[P.length+j]?=X[j]?:=by
 rw [xax (by omega),xch,xaH h]
def zcx {α:Type} (P X S:List α) {j:Nat} (v:α) (h:j < X.length):(P++(X++S)).set (P.length+j) v=P++(X.set j v++S):=by
 rw [xbJ _ _ (by omega),xch,List.set_append_left _ _ h]
def swU (U V:List Mov) (i:Nat):List Mov:=V.take i++U.drop i
def swD (P U Q V S:List Mov) (i:Nat):List Mov:=P++(swU U V i++(Q++(swU V U i++S)))
def zck {U V:List Mov} (h:U.length=V.length) {i:Nat} (hi:i<=U.length):(swU U V i).length=U.length:=by simp [swU];omega
def zsK {U V:List Mov} (h:U.length=V.length) {i:Nat} (hi:i < U.length):(swU U V i)[i]?=U[i]?:=by
 have hl:(V.take i).length=i:=by simp;omega
 rw [swU,xax (by omega),hl,xcF,xaS,xbK]
def zmO {U V:List Mov} (h:U.length=V.length) {i:Nat} {v:Mov} (hv:V[i]?=some v):(swU U V i).set i v=swU U V (i+1):=by
 have hi:=(xaa.1 hv).1;have hl:(V.take i).length=i:=by simp;omega
 rw [swU,swU,xbJ _ _ (by omega),hl,xcF,xaK,hv,xaU (by omega),List.set_cons_zero]
 simp
def swD_0 (P U Q V S:List Mov):swD P U Q V S 0=P++(U++(Q++(V++S))):=by simp [swD,swU]
def swD_n {P U Q V S:List Mov} (h:U.length=V.length):swD P U Q V S U.length=P++(V++(Q++(U++S))):=by
 simp only [swD,swU,xcs,xas,xat];rw [h,xas,xcs,xat]
def zmP {P U Q V S:List Mov} (h:U.length=V.length) {i:Nat} (hi:i<=U.length):(swD P U Q V S i).length=P.length+(U.length+(Q.length+(V.length+S.length))):=by
 simp only [swD,xae,zck h hi,zck h.symm (i:=i) (by omega)]
def ztq {P U Q V S:List Mov} (h:U.length=V.length) {i:Nat} {u:Mov} (hu:U[i]?=some u):(swD P U Q V S i)[P.length+i]?=some u:=by
 have hi:=(xaa.1 hu).1;rw [swD,zbm _ _ _ (by rw [zck h (by omega)];exact hi),zsK h hi,hu]
def ztp {P U Q V S:List Mov} (h:U.length=V.length) {i:Nat} {v:Mov} (hv:V[i]?=some v):(swD P U Q V S i)[P.length+U.length+Q.length+i]?=some v:=by
 have hi:=(xaa.1 hv).1;have e:swD P U Q V S i=(P++(swU U V i++Q))++(swU V U i++S):=by simp [swD]
 have hl:(P++(swU U V i++Q)).length=P.length+U.length+Q.length:=by simp only [xae,zck h (show i<=U.length by omega)];omega
 rw [e,<-hl,zbm _ _ _ (by rw [zck h.symm (by omega)];exact hi),zsK h.symm hi,hv]
def zpR {P U Q V S:List Mov} (h:U.length=V.length) {i:Nat} {u v:Mov} (hu:U[i]?=some u) (hv:V[i]?=some v):((swD P U Q V S i).set (P.length+i) v).set (P.length+U.length+Q.length+i) u=swD P U Q V S (i+1):=by
 have hi:=(xaa.1 hu).1;have hj:=(xaa.1 hv).1;rw [swD,zcx _ _ _ _ (by rw [zck h (by omega)];exact hi),zmO h hv]
 have e:P++(swU U V (i+1)++(Q++(swU V U i++S)))=(P++(swU U V (i+1)++Q))++(swU V U i++S):=by simp
 have hl:(P++(swU U V (i+1)++Q)).length=P.length+U.length+Q.length:=by simp only [xae,zck h (show i+1<=U.length by omega)];omega
 rw [e,<-hl,zcx _ _ _ _ (by rw [zck h.symm (by omega)];exact hj),zmO h.symm hu]
 simp [swD]
def zjX (f:Nat) {D D':List Mov} {N:Nat} (P U Q V S:List Mov) (hN:D.length=N) (hD:D=P++(U++(Q++(V++S)))) (hD':D'=P++(V++(Q++(U++S)))) (h:U.length=V.length) (a b k:Int) (ha:a=P.length) (hb:b=(P.length+U.length+Q.length:Nat)) (hk:k=U.length) (hn:N<=1000000) :
  Acts prog 289 [.row 900 N,.p (.i .i64 a),.p (.i .i64 b),.p (.i .i64 k),.p (.fn (.func f) [] [])] [(900,.row 140 7 (D.map Mov.pv) false)] (.p (.tup [])) [(900,.row 140 7 (D'.map Mov.pv) false)]:=by
 have hlen:D.length=P.length+(U.length+(Q.length+(V.length+S.length))):=by rw [hD];simp
 have hlen':D'.length=N:=by rw [hD',<-hN,hlen];simp;omega
 have e0:D=swD P U Q V S 0:=by rw [swD_0,hD]
 refine zR (cF func289 f289.eq_1) (by simp) (by simp [scPs,scP,zj,hN]) (by simp [scObj]) ⟨rfl,trivial⟩ (by simp [scObj]) (by simp [zc1,zj,hN,hlen']) λX hX=>?_
 unfold zE ghO;have qe:=aI qR @gLV.eq_2;repeat' first|refine gC ?_ ?_<;>intro hc<;>try contradiction|refine gG ?_|show AK _;intro J Z|refine gJ ?_|omega|exact aT
 refine zi (κ:=Nat) (λi=>⟨[(0,.row 900 N),(1,.p (.i .i64 a)),(2,.p (.i .i64 b)),(3,.p (.i .i64 k)),(10,.p (.i .i64 i)),(1000900,.row 900 N)],[(900,.row 140 7 ((swD P U Q V S i).map Mov.pv) false)],[],false⟩) (λi=>i<=U.length) (λi=>U.length - i) 0 ?_ ?_ ?_
 ·simp only [qS,seval,gLV.eq_2]<;>simp [<-e0,hN]
 ·simp
 ·intro i hi;have hsl:=zmP (P:=P) (Q:=Q) (S:=S) h hi;have hsN:(swD P U Q V S i).length=N:=by omega
  have i1:(a+(i:Int)).toNat=P.length+i:=by omega
  have i2:(b+(i:Int)).toNat=P.length+U.length+Q.length+i:=by omega
  by_cases hlt:i < U.length
  ·obtain ⟨u,hu⟩:=zm (i:=i) (l:=U) hlt;obtain ⟨v,hv⟩:=zm (i:=i) (l:=V) (by omega)
   have h1:=ztq (P:=P) (Q:=Q) (S:=S) h hu;have h2:=ztp (P:=P) (Q:=Q) (S:=S) h hv;have hik:((i:Int) < k)=True:=eq_true (by omega)
   have qe:=aI qR (aI @hsN (aI @i1 (aI @i2 (aI @h1 (aI @h2 (aI @hik (aI @rtN @rtR)))))));repeat' first|refine gC ?_ ?_<;>intro hc<;>try contradiction|refine gG ?_|show AK _;intro J Z|refine gJ ?_|omega|exact aT
   exact ⟨i+1,by omega,by omega,by simp,by rw [<-zpR h hu hv,xbb,xbb],by rw [zmP h (by omega)];omega⟩
  ·have hik:((i:Int) < k)=False:=eq_false (by omega)
   have qe:=aI qR (aI @hsN (aI @hik (aI @rtN @rtR)));repeat' first|refine gC ?_ ?_<;>intro hc<;>try contradiction|refine gG ?_|show AK _;intro J Z|refine gJ ?_|omega|exact aT
   have e:i=U.length:=by omega
   subst e;rw [swD_n h,<-hD'];exact .inl (.mk0 (h2:=by simp only [qS,seval,keepG.eq_1,keepG.eq_2,gLV.eq_2]<;>simp [hN]))
def zgU (i j:Nat) (h:i+j < 1000000000):IntKind.i64.wrap ((IntKind.u64.wrap ((i:Int)+j)).fdiv (2 ^ min (Int.toNat 1) IntKind.u64.bits))=(((i+j) / 2:Nat):Int):=by
 rw [IntKind.wrap_u64,show (2:Int) ^ min (Int.toNat 1) IntKind.u64.bits=2 from rfl,xcr _ (by decide)]
 rw [show (((i:Int)+j) % 18446744073709551616 / 2)=(((i+j) / 2:Nat):Int) by omega]
 exact zhp (by omega) (by omega)
def wyD (P:List Mov) (x:Mov) (B S:List Mov) (q:Nat):List Mov:=P++(B.take q++(x::(B.drop q++S)))
def zgo {P B S:List Mov} {x:Mov} (q:Nat):(wyD P x B S q).length=P.length+(B.length+1+S.length):=by
 simp only [wyD,xae,xaE,xai,xaF];omega
def zjZ {P B S:List Mov} {x:Mov} {q:Nat} (hq:q<=B.length):(wyD P x B S q)[P.length+q]?=some x:=by
 have hl:(P++B.take q).length=P.length+q:=by simp;omega
 rw [wyD,<-xau,<-hl];have:=zbm (P++B.take q) [x] (B.drop q++S) (j:=0) (by simp)
 simpa using this
def zti {P B S:List Mov} {x y:Mov} {q:Nat} (hy:B[q]?=some y):(wyD P x B S q)[P.length+(q+1)]?=some y:=by
 have hq:=(xaa.1 hy).1;have e:wyD P x B S q=(P++(B.take q++[x]))++(B.drop q++S):=by simp [wyD]
 have hl:(P++(B.take q++[x])).length=P.length+(q+1):=by simp;omega
 rw [e,<-hl];have:=zbm (P++(B.take q++[x])) (B.drop q) S (j:=0) (by simp;omega)
 rw [xbK] at this;rw [this,xaS,xbK,hy]
def ztj {P B S:List Mov} {x y:Mov} {q:Nat} (hy:B[q]?=some y):(wyD P x B S (q+1))[P.length+q]?=some y:=by
 have hq:=(xaa.1 hy).1;have:=zbm P (B.take (q+1)) (x::(B.drop (q+1)++S)) (j:=q) (by simp;omega)
 rw [wyD,this,xaI,if_pos (by omega),hy]
def zho {P B S:List Mov} {x y:Mov} {q:Nat} (hy:B[q]?=some y):wyD P x B S q=(P++B.take q)++([x,y]++(B.drop (q+1)++S))/\wyD P x B S (q+1)=(P++B.take q)++([y,x]++(B.drop (q+1)++S)):=by
 have hq:=(xaa.1 hy).1;refine ⟨?_,?_⟩
 ·rw [wyD,xaU hq,(xaa.1 hy).2];simp
 ·rw [wyD,xaK,hy];simp
def zwe {P B S:List Mov} {x y:Mov} {q:Nat} (hy:B[q]?=some y):((wyD P x B S q).set (P.length+q) y).set (P.length+(q+1)) x=wyD P x B S (q+1):=by
 have hq:=(xaa.1 hy).1;obtain ⟨e1,e2⟩:=zho (P:=P) (S:=S) (x:=x) hy;have hl:(P++B.take q).length=P.length+q:=by simp;omega
 rw [e1,e2,<-xbG,<-hl];have h1:=zcx (P++B.take q) [x,y] (B.drop (q+1)++S) (j:=0) y (by simp)
 have h2:=zcx (P++B.take q) [y,y] (B.drop (q+1)++S) (j:=1) x (by simp)
 simp only [xbK] at h1;rw [h1];exact h2
def zpA {P B S:List Mov} {x y:Mov} {q:Nat} (hy:B[q]?=some y):((wyD P x B S (q+1)).set (P.length+(q+1)) y).set (P.length+q) x=wyD P x B S q:=by
 have hq:=(xaa.1 hy).1;obtain ⟨e1,e2⟩:=zho (P:=P) (S:=S) (x:=x) hy;have hl:(P++B.take q).length=P.length+q:=by simp;omega
 rw [e1,e2,<-xbG,<-hl];have h1:=zcx (P++B.take q) [y,x] (B.drop (q+1)++S) (j:=1) y (by simp)
 have h2:=zcx (P++B.take q) [y,y] (B.drop (q+1)++S) (j:=0) x (by simp)
 simp only [xbK] at h2;rw [h1];exact h2
def zrv {lt:Mov->Mov->Bool} {x:Mov} {B:List Mov} {k:Nat} (h1:∀ y ∈ B.take k,lt y x=true) (h2:∀ y ∈ B.drop k,lt y x=false):mrg lt [x] B=B.take k++x::B.drop k:=by
 have:=zaP [] [x] (B.take k) (B.drop k) (lt:=lt) (by simp) (λb hb a ha=>by rw [xaJ.1 ha];exact h1 b hb)
 rw [xaw,zaD] at this;rw [xaP] at this;rw [this];have:=zaP [x] [] [] (B.drop k) (lt:=lt) (λa ha b hb=>by rw [xaJ.1 ha];exact h2 b hb) (by simp)
 rw [xat,xaP,zaU,zaD] at this;rw [this];rfl
def zru {lt:Mov->Mov->Bool} {y:Mov} {A:List Mov} {k:Nat} (h1:∀ z ∈ A.take k,lt y z=false) (h2:∀ z ∈ A.drop k,lt y z=true):mrg lt A [y]=A.take k++y::A.drop k:=by
 have:=zaP (A.take k) (A.drop k) [] [y] (lt:=lt) (λa ha b hb=>by rw [xaJ.1 hb];exact h1 a ha) (by simp)
 rw [xaw,xaP,zaU] at this;rw [this];have:=zaP [] (A.drop k) [y] [] (lt:=lt) (by simp) (λb hb a ha=>by rw [xaJ.1 hb];exact h2 a ha)
 rw [xat,xaP,zaD,zaU] at this;rw [this];rfl
def zj3 {lt:Mov->Mov->Bool} (hs:SW lt) {L:List Mov} (h:srt lt L) {i j:Nat} {a b:Mov} (hij:i<=j) (ha:L[i]?=some a) (hb:L[j]?=some b):lt b a=false:=by
 by_cases e:i=j
 ·subst e;rw [ha] at hb;cases hb;cases hh:lt a a
  ·rfl
  ·rw [<-hs.asym _ _ hh,hh]
 ·have hi:=(xaa.1 ha).1;have hj:=(xaa.1 hb).1;have:=xaW.1 h i j hi hj (by omega)
  rw [xab hi] at ha;rw [xab hj] at hb;rw [xaM ha,xaM hb] at this;exact this
def zeY {α:Type} {L:List α} {k:Nat} {a:α} (h:a ∈ L.take k):∃ i,i < k/\L[i]?=some a:=by
 obtain ⟨i,hi⟩:=xaZ h;have:=(xaa.1 hi).1;simp only [xai] at this;rw [xaI,if_pos (by omega)] at hi
 exact ⟨i,by omega,hi⟩
def zeZ {α:Type} {L:List α} {k:Nat} {a:α} (h:a ∈ L.drop k):∃ i,k<=i/\L[i]?=some a:=by
 obtain ⟨i,hi⟩:=xaZ h;rw [xaS] at hi;exact ⟨k+i,by omega,hi⟩
section
variable {f:Nat} {c:Mov->Mov->Int}
def bf_t {a b:Mov} (h:bfC c a b=true):(c a b < 0)=True:=eq_true (by simpa [bfC] using h)
def bf_f {a b:Mov} (h:bfC c a b=false):(c a b < 0)=False:=eq_false (by simpa [bfC] using h)
def zsu (hf:∀ a b:Mov,Pure prog f [a.pv,b.pv] (.i .i64 (c a b))) (hs:SW (bfC c)) {D D':List Mov} {N:Nat} (P B S:List Mov) (x:Mov) (hN:D.length=N) (hD:D=P++([x]++(B++S))) (hD':D'=P++(mrg (bfC c) [x] B++S)) (sB:srt (bfC c) B) (a m b:Int) (ha:a=(P.length:Nat)) (hm:m=(P.length+1:Nat)) (hb:b=(P.length+1+B.length:Nat)) (hn:N<=1000000) :
  Acts prog 277 [.row 900 N,.p (.i .i64 a),.p (.i .i64 m),.p (.i .i64 b),.p (.fn (.func f) [] [])] [(900,.row 140 7 (D.map Mov.pv) false)] (.p (.tup [])) [(900,.row 140 7 (D'.map Mov.pv) false)]:=by
 subst ha hm hb;have hlen:N=P.length+(1+(B.length+S.length)):=by rw [<-hN,hD];simp only [xae,xaE,xbr]
 have hlen':D'.length=N:=by rw [hD',hlen];simp [zcu];omega
 have e0:D=wyD P x B S 0:=by rw [hD,wyD];simp
 have hx:D[P.length]?=some x:=by rw [e0];exact zjZ (q:=0) (by omega)
 have hDB:∀ q y,B[q]?=some y->D[P.length+1+q]?=some y:=λq y hy=>by
  have hq:=(xaa.1 hy).1;have e:D=(P++[x])++(B++S):=by rw [hD];simp
  have hl:(P++[x]).length=P.length+1:=by simp
  rw [e,<-hl,zbm _ _ _ hq,hy]
 refine zR (cF func277 f277.eq_1) (by simp) (by simp [scPs,scP,zj,hN]) (by simp [scObj]) ⟨rfl,trivial⟩ (by simp [scObj]) (by simp [zc1,zj,hN,hlen']) λX hX=>?_
 unfold zE ghO;have z1:(((P.length+1:Nat):Int) - (P.length:Nat)=1)=True:=eq_true (by omega)
 have qe:=aI qR (aI @gLV.eq_2 @z1);repeat' first|refine gC ?_ ?_<;>intro hc<;>try contradiction|refine gG ?_|show AK _;intro J Z|refine gJ ?_|omega|exact aT
 refine zi (κ:=Nat × Nat) (λk=>⟨[(0,.row 900 N),(1,.p (.i .i64 (P.length:Nat))),(2,.p (.i .i64 (P.length+1:Nat))),(3,.p (.i .i64 (P.length+1+B.length:Nat))),(4,.p (.fn (.func f) [] [])),(10,.p (.i .i64 (k.1:Nat))),(11,.p (.i .i64 (k.2:Nat))),(1000900,.row 900 N)],[(900,.row 140 7 (D.map Mov.pv) false)],[],false⟩)
  (λk=>P.length+1<=k.1/\k.1<=k.2/\k.2<=P.length+1+B.length/\(∀ y ∈ B.take (k.1 - (P.length+1)),bfC c y x=true)/\∀ y ∈ B.drop (k.2 - (P.length+1)),bfC c y x=false) (λk=>k.2 - k.1) (P.length+1,P.length+1+B.length) ?_ ?_ ?_
 ·simp only [qS,seval,gLV.eq_2]<;>simp [hN]
 ·refine ⟨by simp,by simp,by simp,?_,?_⟩
  ·simp
  ·simp
 ·intro k hk;obtain ⟨i,j⟩:=k;simp only at hk;obtain ⟨k1,k2,k3,k4,k5⟩:=hk;have hm:=zgU i j (by omega)
  by_cases hij:i < j
  ·have hij':((i:Int) < j)=True:=eq_true (by omega)
   obtain ⟨y,hy⟩:=zm (i:=(i+j) / 2 - (P.length+1)) (l:=B) (by omega)
   have hy2:=hDB _ y hy;rw [show P.length+1+((i+j) / 2 - (P.length+1))=(i+j) / 2 by omega] at hy2
   cases hcc:bfC c y x with
   | true=>
    have hc':=bf_t hcc;have qe:=aI qR (aI @hij' (aI @hm (aI @hN (aI @hx (aI @hy2 (aI @hc' (aI @rtN @rtR)))))));repeat' first|refine gC ?_ ?_<;>intro hc<;>try contradiction|refine zk (hf y x) ?_|refine gG ?_|show AK _;intro J Z|refine gJ ?_|omega|exact aT
    refine ⟨((i+j) / 2+1,j),⟨by simp only;omega,by simp only;omega,k3,λz hz=>?_,k5⟩,by simp only;omega,by simp⟩
    obtain ⟨q,hq,hz⟩:=zeY hz;cases hh:bfC c z x with
    | true=>rfl
    | false=>
     have h2:=zj3 hs sB (show q<=(i+j) / 2 - (P.length+1) by simp only at hq;omega) hz hy
     rw [hs.nt _ _ _ h2 hh] at hcc;cases hcc
   | false=>
    have hc':=bf_f hcc;have qe:=aI qR (aI @hij' (aI @hm (aI @hN (aI @hx (aI @hy2 (aI @hc' (aI @rtN @rtR)))))));repeat' first|refine gC ?_ ?_<;>intro hc<;>try contradiction|refine zk (hf y x) ?_|refine gG ?_|show AK _;intro J Z|refine gJ ?_|omega|exact aT
    refine ⟨(i,(i+j) / 2),⟨k1,by simp only;omega,by simp only;omega,k4,λz hz=>?_⟩,by simp only;omega,by simp⟩
    obtain ⟨q,hq,hz⟩:=zeZ hz;have h2:=zj3 hs sB hq hy hz;exact hs.nt _ _ _ h2 hcc
  ·have e:i=j:=by omega
   subst e;have hij':((i:Int) < i)=False:=eq_false (by omega)
   have hmr:=zrv k4 k5;generalize hq:i - (P.length+1)=K at k4 k5 hmr;have hi:i=P.length+1+K:=by omega
   subst hi;have qe:=aI qR (aI @hij' (aI @hN (aI @rtN @rtR)));repeat' first|refine gC ?_ ?_<;>intro hc<;>try contradiction|refine gG ?_|show AK _;intro J Z|refine gJ ?_|omega|exact aT
   refine zi (κ:=Nat) (λq=>⟨[(0,.row 900 N),(1,.p (.i .i64 (P.length:Nat))),(10,.p (.i .i64 (P.length+1+K:Nat))),(13,.p (.i .i64 (P.length+q:Nat))),(1000900,.row 900 N)],[(900,.row 140 7 ((wyD P x B S q).map Mov.pv) false)],[],false⟩) (λq=>q<=K) (λq=>K - q) 0 ?_ ?_ ?_
   ·refine gJ ?_;simp [<-e0,hN]
   ·simp
   ·intro q hqK;have hml:(wyD P x B S q).length=N:=by rw [zgo];omega
    have j1:(((P.length+q:Nat):Int)+1).toNat=P.length+(q+1):=by omega
    by_cases hlt:q < K
    ·obtain ⟨y,hy⟩:=zm (i:=q) (l:=B) (by omega)
     have h1:=zjZ (P:=P) (S:=S) (x:=x) (B:=B) (q:=q) (by omega)
     have h2:=zti (P:=P) (S:=S) (x:=x) hy;have h3:=zwe (P:=P) (S:=S) (x:=x) hy;have hlt':(((P.length+q:Nat):Int) < ((P.length+1+K:Nat):Int) - 1)=True:=eq_true (by omega)
     have qe:=aI qR (aI @hml (aI @hlt' (aI @j1 (aI @h1 (aI @h2 (aI @rtN @rtR))))));repeat' first|refine gC ?_ ?_<;>intro hc<;>try contradiction|refine gG ?_|show AK _;intro J Z|refine gJ ?_|omega|exact aT
     exact ⟨q+1,by omega,by omega,by simp only [LV.p.injEq,PV.i.injEq,true_and];omega,by rw [<-h3,xbb,xbb],by rw [zgo];omega⟩
    ·have e:q=K:=by omega
     subst e;have hlt':(((P.length+q:Nat):Int) < ((P.length+1+q:Nat):Int) - 1)=False:=eq_false (by omega)
     have qe:=aI qR (aI @hml (aI @hlt' (aI @rtN @rtR)));repeat' first|refine gC ?_ ?_<;>intro hc<;>try contradiction|refine gG ?_|show AK _;intro J Z|refine gJ ?_|omega|exact aT
     rw [show wyD P x B S q=D' by rw [hD',hmr,wyD];simp]
     exact .inl (.mk0 (h2:=by simp only [qS,seval,keepG.eq_1,keepG.eq_2,gLV.eq_2]<;>simp [hN]))
end
section
variable {f:Nat} {c:Mov->Mov->Int}
def zst (hf:∀ a b:Mov,Pure prog f [a.pv,b.pv] (.i .i64 (c a b))) (hs:SW (bfC c)) {D D':List Mov} {N:Nat} (P A S:List Mov) (y:Mov) (hN:D.length=N) (hD:D=P++(A++([y]++S))) (hD':D'=P++(mrg (bfC c) A [y]++S)) (sA:srt (bfC c) A) (h1A:1 < A.length) (a m b:Int) (ha:a=(P.length:Nat)) (hm:m=(P.length+A.length:Nat)) (hb:b=(P.length+A.length+1:Nat)) (hn:N<=1000000) :
  Acts prog 277 [.row 900 N,.p (.i .i64 a),.p (.i .i64 m),.p (.i .i64 b),.p (.fn (.func f) [] [])] [(900,.row 140 7 (D.map Mov.pv) false)] (.p (.tup [])) [(900,.row 140 7 (D'.map Mov.pv) false)]:=by
 subst ha hm hb;have hlen:N=P.length+(A.length+(1+S.length)):=by rw [<-hN,hD];simp only [xae,xaE,xbr]
 have hlen':D'.length=N:=by rw [hD',hlen];simp [zcu];omega
 have e0:D=wyD P y A S A.length:=by rw [hD,wyD];simp
 have hyD:D[P.length+A.length]?=some y:=by rw [e0];exact zjZ (xaj _)
 have hDA:∀ q z,A[q]?=some z->D[P.length+q]?=some z:=λq z hz=>by
  rw [hD,zbm _ _ _ (xaa.1 hz).1,hz]
 refine zR (cF func277 f277.eq_1) (by simp) (by simp [scPs,scP,zj,hN]) (by simp [scObj]) ⟨rfl,trivial⟩ (by simp [scObj]) (by simp [zc1,zj,hN,hlen']) λX hX=>?_
 unfold zE ghO;have z1:(((P.length+A.length:Nat):Int) - (P.length:Nat)=1)=False:=eq_false (by omega)
 have z2:(((P.length+A.length+1:Nat):Int) - (P.length+A.length:Nat)=1)=True:=eq_true (by omega)
 have qe:=aI qR (aI @gLV.eq_2 (aI @z1 @z2));repeat' first|refine gC ?_ ?_<;>intro hc<;>try contradiction|refine gG ?_|show AK _;intro J Z|refine gJ ?_|omega|exact aT
 refine zi (κ:=Nat × Nat) (λk=>⟨[(0,.row 900 N),(1,.p (.i .i64 (P.length:Nat))),(2,.p (.i .i64 (P.length+A.length:Nat))),(4,.p (.fn (.func f) [] [])),(14,.p (.i .i64 (k.1:Nat))),(15,.p (.i .i64 (k.2:Nat))),(1000900,.row 900 N)],[(900,.row 140 7 (D.map Mov.pv) false)],[],false⟩)
  (λk=>P.length<=k.1/\k.1<=k.2/\k.2<=P.length+A.length/\(∀ z ∈ A.take (k.1 - P.length),bfC c y z=false)/\∀ z ∈ A.drop (k.2 - P.length),bfC c y z=true) (λk=>k.2 - k.1) (P.length,P.length+A.length) ?_ ?_ ?_
 ·simp only [qS,seval,gLV.eq_2]<;>simp [hN]
 ·refine ⟨by simp,by simp,by simp,?_,?_⟩
  ·simp
  ·simp
 ·intro k hk;obtain ⟨i,j⟩:=k;simp only at hk;obtain ⟨k1,k2,k3,k4,k5⟩:=hk;have hm:=zgU i j (by omega)
  by_cases hij:i < j
  ·have hij':((i:Int) < j)=True:=eq_true (by omega)
   obtain ⟨z,hz⟩:=zm (i:=(i+j) / 2 - P.length) (l:=A) (by omega)
   have hz2:=hDA _ z hz;rw [show P.length+((i+j) / 2 - P.length)=(i+j) / 2 by omega] at hz2
   cases hcc:bfC c y z with
   | false=>
    have hc':=bf_f hcc;have qe:=aI qR (aI @hij' (aI @hm (aI @hN (aI @hyD (aI @hz2 (aI @hc' (aI @rtN @rtR)))))));repeat' first|refine gC ?_ ?_<;>intro hc<;>try contradiction|refine zk (hf y z) ?_|refine gG ?_|show AK _;intro J Z|refine gJ ?_|omega|exact aT
    refine ⟨((i+j) / 2+1,j),⟨by simp only;omega,by simp only;omega,k3,λw hw=>?_,k5⟩,by simp only;omega,by simp⟩
    obtain ⟨q,hq,hw⟩:=zeY hw;have h2:=zj3 hs sA (show q<=(i+j) / 2 - P.length by simp only at hq;omega) hw hz
    exact hs.nt _ _ _ hcc h2
   | true=>
    have hc':=bf_t hcc;have qe:=aI qR (aI @hij' (aI @hm (aI @hN (aI @hyD (aI @hz2 (aI @hc' (aI @rtN @rtR)))))));repeat' first|refine gC ?_ ?_<;>intro hc<;>try contradiction|refine zk (hf y z) ?_|refine gG ?_|show AK _;intro J Z|refine gJ ?_|omega|exact aT
    refine ⟨(i,(i+j) / 2),⟨k1,by simp only;omega,by simp only;omega,k4,λw hw=>?_⟩,by simp only;omega,by simp⟩
    obtain ⟨q,hq,hw⟩:=zeZ hw;have h2:=zj3 hs sA hq hz hw;cases hh:bfC c y w with
    | true=>rfl
    | false=>rw [hs.nt _ _ _ hh h2] at hcc;cases hcc
  ·have e:i=j:=by omega
   subst e;have hij':((i:Int) < i)=False:=eq_false (by omega)
   have hmr:=zru k4 k5;generalize hq:i - P.length=K at k4 k5 hmr;have hi:i=P.length+K:=by omega
   subst hi;have qe:=aI qR (aI @hij' (aI @hN (aI @rtN @rtR)));repeat' first|refine gC ?_ ?_<;>intro hc<;>try contradiction|refine gG ?_|show AK _;intro J Z|refine gJ ?_|omega|exact aT
   refine zi (κ:=Nat) (λq=>⟨[(0,.row 900 N),(14,.p (.i .i64 (P.length+K:Nat))),(17,.p (.i .i64 (P.length+q:Nat))),(1000900,.row 900 N)],[(900,.row 140 7 ((wyD P y A S q).map Mov.pv) false)],[],false⟩) (λq=>K<=q/\q<=A.length) (λq=>q - K) A.length ?_ ?_ ?_
   ·refine gJ ?_;simp [<-e0,hN]
   ·constructor<;>omega
   ·intro q hqK;have hml:(wyD P y A S q).length=N:=by rw [zgo];omega
    by_cases hlt:K < q
    ·obtain ⟨q,rfl⟩:∃ q',q=q'+1:=⟨q - 1,by omega⟩
     obtain ⟨z,hz⟩:=zm (i:=q) (l:=A) (by omega)
     have j1:(((P.length+(q+1):Nat):Int) - 1).toNat=P.length+q:=by omega
     have h1:=zjZ (P:=P) (S:=S) (x:=y) (B:=A) (q:=q+1) (by omega)
     have h2:=ztj (P:=P) (S:=S) (x:=y) hz;have h3:=zpA (P:=P) (S:=S) (x:=y) hz;have hlt':(((P.length+K:Nat):Int) < ((P.length+(q+1):Nat):Int))=True:=eq_true (by omega)
     have qe:=aI qR (aI @hml (aI @hlt' (aI @j1 (aI @h1 (aI @h2 (aI @rtN @rtR))))));repeat' first|refine gC ?_ ?_<;>intro hc<;>try contradiction|refine gG ?_|show AK _;intro J Z|refine gJ ?_|omega|exact aT
     exact ⟨q,by constructor<;>omega,by omega,by simp only [LV.p.injEq,PV.i.injEq,true_and];omega,by rw [<-h3,xbb,xbb],by rw [zgo];omega⟩
    ·have e:q=K:=by omega
     subst e;have hlt':(((P.length+q:Nat):Int) < ((P.length+q:Nat):Int))=False:=eq_false (by omega)
     have qe:=aI qR (aI @hml (aI @hlt' (aI @rtN @rtR)));repeat' first|refine gC ?_ ?_<;>intro hc<;>try contradiction|refine gG ?_|show AK _;intro J Z|refine gJ ?_|omega|exact aT
     rw [show wyD P y A S q=D' by rw [hD',hmr,wyD];simp]
     exact .inl (.mk0 (h2:=by simp only [qS,seval,keepG.eq_1,keepG.eq_2,gLV.eq_2]<;>simp [hN]))
end
end Go.Proofs.YtijgimeokgbifaaGreat
