/- Contracts. No conditions. -/
import Derived.Test.YtbgckikhhcbmpaaGreatK3
set_option linter.all false
set_option maxHeartbeats 8000000
set_option maxRecDepth 100000
namespace Go.Proofs.YtbgckikhhcbmpaaGreat
open Go.RowKit Tryz
variable {b d:Int} {l:List Int} {ls:List Lim} {L m out rest:List Mov} {caps:List PV} {o x y:Mov} {lt:Mov->Mov->Bool} {c:Mov->Mov->Int} {e f i j k q s:Nat} {r:Req}
def zna (h:zn l=0) {x:Int} (hx:x ∈ l):x=0:=by
 induction l with
 | nil=>cases hx
 | cons e r ih=>
  obtain ⟨h1,h2⟩:=zi.1 h
  rcases xaI.1 hx with h|h
  ·rw [h];exact h1
  ·exact ih h2 h
def zkU (h:∀ (i:Nat) (x y:Int),l[i]?=some x->l[i+1]?=some y->x<=y):l.Pairwise (·<=·):=by
 refine xa1.2 λi j hi hj hij=>?_
 obtain ⟨k,rfl⟩:∃ k,j=i+1+k:=⟨j - i - 1,by omega⟩
 clear hij
 induction k with
 | zero=>exact h i _ _ (xac hi) (xac hj)
 | succ k ih=>exact Int.le_trans (ih (by omega)) (h (i+1+k) _ _ (xac (by omega)) (xac hj))
def zrW (h:zfi m=0):m.length<=30000/\(∀ x ∈ m,zhS x=0)/\(m.map Mov.moment).Pairwise (·<=·):=by
 unfold zfi at h
 split at h
 ·cases h
 ·have key:∀ (i:Nat) (x:Mov),m[i]?=some x->zwx m i x=0:=λi x hx=>zna h (xae (zaj hx))
  refine ⟨by omega,λx hx=>?_,zkU λi x y hx hy=>?_⟩
  ·obtain ⟨i,hi⟩:=xa9 hx;exact (zi.1 (key i x hi)).1
  ·simp only [xal,xab] at hx hy;obtain ⟨a,ha,rfl⟩:=hx;obtain ⟨b,hb,rfl⟩:=hy;have h1:=(zi.1 (zi.1 (key (i+1) b hb)).2).1;simp only [xci,ha,xa7] at h1;rw [ziN (by decide)] at h1
   omega
def zl5 {l:Lim} (h:zr l=0) (d:Int):(zN l d).length<=1440:=by
 have hl:=zaa h;have h1:0<=l.from_:=xbh (by omega) (by omega)
 have h2:l.to / l.step<=l.to:=xbr _ (by omega)
 unfold zN zno zkw
 split
 ·simp;omega
 ·simp
def zyb {L:List Int} (hit:zsz prog f caps (L.map zwf)) (hn:L.length<=1000000):Pure prog 285 [.nilsl,.fn (.func f) [] caps] (.sl 1 (L.map (.i .i64))):=by
 refine pz func285 f285.eq_1 λhw X hX=>?_
 refine gE2 ?_;refine zaB 100 3 1 [(2,.lp 2 0),(6,.p (.fn (.func f) [] caps))] [(2,.box [.row 100 0] false)] ?_ ?_
 ·simp only [Own,za9,za3,zcg,zaT,qS,seval]
 refine zcb rfl hit ?_ ?_ [(2,.lp 2 0),(6,.p (.fn (.func f) [] caps))] (λk=>[(2,.box [.row 100 k] false),(100,.row 3 1 ((L.take k).map (.i .i64)) false)]) (λ_=>[]) ?_ ?_ ?_
 ·simp
 ·simp [hX]
 ·exact sE
 ·intro k t ht X' ro' hX';simp only [xal,xab] at ht;obtain ⟨d,hd,rfl⟩:=ht;have hl:=zfJ hd;have hk:=(xaa.1 hd).1;simp only [qS,seval];refine gE2 ?_;intro X1 hX1;have qe:=aI qR (aI @hl (zej (PV.i .i64) hd));repeat' first|refine gC ?_ ?_<;>intro hc<;>try contradiction|refine gG ?_|show AK _;intro J Z|refine gJ ?_|omega|exact aT
 ·simp only [xaf];have qe:=@List.take_length.{0};exact gD2
def zA0 {L:List Int} (hit:zsz prog f caps (L.map zwf)) (hn:L.length<=1000000):Pure prog 253 [.fn (.func f) [] caps] (.sl 1 (L.map (.i .i64))):=by
 refine pz func253 f253.eq_1 λhw X hX=>?_
 have jA:=zyb hit hn;exact gD2
def zvI (l:Lim) (d:Int):Int:=if zn [zr l,rng d 0 99999]=0 then (if zm8 l.per d=true then 0 else 30) else zn [zr l,rng d 0 99999]
def zr5 (l:Lim) (d:Int):List Int:=if zvI l d=0 then zN l d else []
def zwq (l:Lim) (d:Int):Pure prog 213 [l.pv,.i .i64 d] (.tup [.sl 1 ((zr5 l d).map (.i .i64)),.i .i64 (zvI l d)]):=by
 refine pz func213 f213.eq_1 λhw X hX=>?_
 have qe:=@qR;repeat' first|refine gC ?_ ?_<;>intro hc<;>try contradiction|refine za (zwp l) ?_|refine za (zgt _ _ _) ?_|refine za (zfr [_,_]) ?_|refine gG ?_|show AK _;intro J Z|refine gJ ?_|omega|exact aT
 ·have he:zvI l d=zn [zr l,rng d 0 99999]:=by rw [zvI,if_neg hc]
  rw [zr5,he,if_neg hc];exact zdc (.nilsl _) (.refl _)
 ·have h0:=hc;have h1:=hc;simp only [zi,zdR] at h1
  repeat' first|refine gC ?_ ?_<;>intro hc<;>try contradiction|refine za (zwo l d) ?_|refine za (zAZ l d) ?_|refine za (zA0 (zyD l d h1.1) (xa0 (zl5 h1.1 d) (by decide))) ?_|refine gG ?_|show AK _;intro J Z|refine gJ ?_|omega|exact aT
  ·have he:zvI l d=30:=by rw [zvI,if_pos h0,if_neg (by rw [hc];decide)]
   rw [zr5,he,if_neg (by decide)];exact zdc (.nilsl _) (.refl _)
  ·have he:zvI l d=0:=by rw [zvI,if_pos h0,if_pos hc]
   rw [zr5,he,if_pos rfl];exact .refl _
def arB (m:List Mov) (o:Mov) (i:Nat) (l:Lim) (b:Int):List Win:=if b<=o.moment/\o.moment < b+l.len then [⟨i,b,zbb l m b⟩] else []
def arD (m:List Mov) (o:Mov) (i:Nat) (l:Lim) (d:Int):List Win:=(zN l d).flatMap (arB m o i l)
def arX (m:List Mov) (o:Mov) (i:Nat) (l:Lim) (e:Nat):List Win:=arD m o i l (o.moment / 1440 - 1+e)
def arL (m:List Mov) (o:Mov) (i:Nat) (l:Lim):List Win:=if zbI l o.kind o.term then (List.range 2).flatMap (arX m o i l) else []
def arI (ls:List Lim) (m:List Mov) (o:Mov) (i:Nat):List Win:=match ls[i]? with|some l=>arL m o i l|none=>[]
def arK (ls:List Lim) (m:List Mov) (o:Mov) (k:Nat):List Win:=(List.range k).flatMap (arI ls m o)
def arW (ls:List Lim) (m:List Mov) (o:Mov):List Win:=arK ls m o ls.length
def evB (m:List Mov) (l:Lim) (d b:Int):List (Nat × Nat):=if zbb l m b < l.most then [] else if max 0 (b - 1440*d) < min 1440 (b+l.len - 1440*d) then [((max 0 (b - 1440*d)).toNat,(min 1440 (b+l.len - 1440*d)).toNat)] else []
def evX (m:List Mov) (l:Lim) (d:Int) (e:Nat):List (Nat × Nat):=(zN l (d - 1+e)).flatMap (evB m l d)
def evD (m:List Mov) (l:Lim) (d:Int):List (Nat × Nat):=(List.range 2).flatMap (evX m l d)
def evL (m:List Mov) (r:Req) (l:Lim):List (Nat × Nat):=if zbI l r.kind r.term then (zaK r.per).flatMap (evD m l) else []
def evI (ls:List Lim) (m:List Mov) (r:Req) (i:Nat):List (Nat × Nat):=match ls[i]? with|some l=>evL m r l|none=>[]
def egK (ls:List Lim) (m:List Mov) (r:Req) (k:Nat):List (Nat × Nat):=(List.range k).flatMap (evI ls m r)
def p1 (ls:List Lim) (m:List Mov) (r:Req) (k:Nat) (l:Lim) (q:Nat):List (Nat × Nat):=egK ls m r k++((zaK r.per).take q).flatMap (evD m l)
def p2 (ls:List Lim) (m:List Mov) (r:Req) (k:Nat) (l:Lim) (q:Nat) (d:Int) (e:Nat):List (Nat × Nat):=p1 ls m r k l q++(List.range e).flatMap (evX m l d)
def p3 (ls:List Lim) (m:List Mov) (r:Req) (k:Nat) (l:Lim) (q:Nat) (d:Int) (e i:Nat):List (Nat × Nat):=p2 ls m r k l q d e++((zN l (d - 1+e)).take i).flatMap (evB m l d)
abbrev Req.cells (r:Req):List PV:=[.s r.name,.s r.carrier,.s r.kind,.s r.term,.s r.partner,.s r.link,.i .i64 r.per.fro,.i .i64 r.per.to,.i .i64 r.per.days,.i .i64 r.minute,.i .i64 r.seats,.i .i64 r.size,.i .i64 r.noise]
def zc2 (bef:Mov->Mov->Bool) (x:Mov) (out:List Mov):Nat->Nat
 | 0=>0
 | n+1=>match out[n]? with
  | some y=>if bef x y then zc2 bef x out n else n+1
  | none=>n+1
def zov (bef:Mov->Mov->Bool) (out:List Mov) (x:Mov):List Mov:=out.take (zc2 bef x out out.length)++x::out.drop (zc2 bef x out out.length)
def zhC (bef:Mov->Mov->Bool) (a b:List Mov):List Mov:=(a++b).foldl (zov bef) []
theorem zm4 (bef:Mov->Mov->Bool) (x:Mov) (out:List Mov):∀ n,zc2 bef x out n<=n
 | 0=>xap _
 | n+1=>by
  have:=zm4 bef x out n;simp only [zc2];(repeat' split)<;>omega
theorem zm5 (bef:Mov->Mov->Bool) (x:Mov) (out:List Mov):∀ n i,zc2 bef x out n<=i->i < n->∃ y,out[i]?=some y/\bef x y=true
 | 0,i,_,h=>by omega
 | n+1,i,h,hi=>by
  simp only [zc2] at h
  split at h
  ·rename_i y hy
   split at h
   ·by_cases e:i=n
    ·subst e;exact ⟨y,hy,by assumption⟩
    ·exact zm5 bef x out n i h (by omega)
   ·omega
  ·omega
theorem zhG (bef:Mov->Mov->Bool) (x:Mov) (out:List Mov):∀ n k y,zc2 bef x out n=k+1->out[k]?=some y->bef x y=false
 | 0,_,_,h,_=>by cases h
 | n+1,k,y,h,hy=>by
  simp only [zc2] at h
  split at h
  ·rename_i z hz
   split at h
   ·exact zhG bef x out n k y h hy
   ·have e:n=k:=by omega
    subst e;rw [hz] at hy;cases hy;rename_i hb;simpa using hb
  ·rename_i hz;have e:n=k:=by omega
   subst e;rw [hz] at hy;cases hy
def zq8 (bef:Mov->Mov->Bool) (out:List Mov) (x:Mov):(zov bef out x).Perm (x::out):=by
 unfold zov;refine List.perm_middle.trans ?_;rw [xaq]
theorem zdH (bef:Mov->Mov->Bool):∀ (l out:List Mov),(l.foldl (zov bef) out).Perm (out++l)
 | [],out=>by simp
 | x::l,out=>by
  refine (zdH bef l (zov bef out x)).trans ?_;refine ((zq8 bef out x).append_right l).trans ?_;simpa using (List.perm_middle (a:=x) (l₁:=out) (l₂:=l)).symm
def zog (bef:Mov->Mov->Bool) (a b:List Mov):(zhC bef a b).Perm (a++b):=by
 simpa [zhC] using zdH bef (a++b) []
abbrev zxa (l:List Mov):Prop:=l.Pairwise λx y=>x.moment<=y.moment
def zhI (h:∀ x ∈ l,x=0):zn l=0:=by
 induction l with
 | nil=>rfl
 | cons x r ih=>exact zi.2 ⟨h x (by simp),ih λy hy=>h y (by simp [hy])⟩
def zoT (hn:m.length<=30000) (hc:∀ x ∈ m,zhS x=0) (hs:zxa m):zfi m=0:=by
 rw [zfi,if_neg (by omega)]
 refine zhI λe he=>?_
 obtain ⟨i,hi⟩:=xa9 he;simp only [zqL,xcp,xab] at hi;obtain ⟨x,hx,rfl⟩:=hi;refine zi.2 ⟨hc x (xae hx),zi.2 ⟨if_neg λhh=>?_,rfl⟩⟩
 have hlt:=(xaa.1 hx).1;have:=xa1.1 hs (i - 1) i (by omega) hlt (by omega)
 rw [xac (by omega),xa7] at hh
 rw [xac hlt] at hx;rw [xa5 hx] at this
 omega
def zng {l:Lim} (h:0<=l.len) {a b:List Mov} (hp:a.Perm b) (w:Int):zbb l a w=zbb l b w:=by
 rw [zbJ h,zbJ h,(hp.filter _).length_eq]
def zrR {l:Lim} (h:0<=l.len) (a b:List Mov) (w:Int):zbb l (a++b) w=zbb l a w+zbb l b w:=by
 rw [zbJ h,zbJ h,zbJ h,xbe,xad];omega
section
variable {α:Type} (lt:α->α->Bool)
def mrg:List α->List α->List α
 | [],B=>B
 | a::A,[]=>a::A
 | a::A,b::B=>if lt b a then b::mrg (a::A) B else a::mrg A (b::B)
termination_by A B=>A.length+B.length
def insL (x:α):List α->List α
 | []=>[x]
 | y::r=>if lt x y then x::y::r else y::insL x r
def zcl (L:List α):List α:=L.foldl (λout x=>insL lt x out) []
structure SW:Prop where
 asym:∀ x y,lt x y=true->lt y x=false
 nt:∀ x y z,lt x y=false->lt y z=false->lt x z=false
abbrev srt (L:List α):Prop:=L.Pairwise λx y=>lt y x=false
variable {lt}
def irr (hs:SW lt) (x:α):lt x x=false:=by
 cases hh:lt x x
 ·rfl
 ·rw [<-hs.asym _ _ hh,hh]
def zaE (A:List α):mrg lt A []=A:=by cases A<;>simp [mrg]
def zai (B:List α):mrg lt [] B=B:=by simp [mrg]
def zhj {a b:α} (A B:List α) (h:lt b a=true):mrg lt (a::A) (b::B)=b::mrg lt (a::A) B:=by rw [mrg,if_pos h]
def ziq {a b:α} (A B:List α) (h:lt b a=false):mrg lt (a::A) (b::B)=a::mrg lt A (b::B):=by rw [mrg,if_neg (by simp [h])]
theorem zmS {x z:α}:∀ {L:List α},z ∈ insL lt x L↔z=x\/z ∈ L
 | []=>by simp [insL]
 | y::r=>by
  unfold insL;split
  ·simp
  ·simp only [xaI,zmS]
   constructor
   ·rintro (h|h|h)<;>simp [h]
   ·rintro (h|h|h)<;>simp [h]
theorem zm2 (hs:SW lt) {x:α}:∀ {L:List α},srt lt L->srt lt (insL lt x L)
 | [],_=>by simp [insL]
 | y::r,h=>by
  have h:=xbF.1 h;unfold insL;split
  ·rename_i e;refine xbF.2 ⟨λz hz=>?_,xbF.2 h⟩
   rcases xaI.1 hz with rfl|hz
   ·exact hs.asym _ _ e
   ·exact hs.nt _ _ _ (h.1 z hz) (hs.asym _ _ e)
  ·rename_i e;refine xbF.2 ⟨λz hz=>?_,zm2 hs h.2⟩
   rcases zmS.1 hz with rfl|hz
   ·simpa using e
   ·exact h.1 z hz
theorem zfX (hs:SW lt) (x:α):∀ (A B:List α),mrg lt A (insL lt x B)=insL lt x (mrg lt A B)
 | [],B=>by rw [zai,zai]
 | a::A,[]=>by
  rw [zaE];cases h:lt x a with
  | true=>rw [insL,zhj _ _ h,zaE,insL,if_pos h]
  | false=>
   rw [insL,ziq _ _ h,insL,if_neg (by simp [h])]
   have:=zfX hs x A [];rw [insL,zaE] at this;rw [this]
 | a::A,b::B=>by
  cases h:lt b a with
  | true=>
   rw [zhj _ _ h];cases h2:lt x b with
   | true=>
    have h3:lt x a=true:=by
     cases e:lt x a
     ·have:=hs.nt _ _ _ e (hs.asym _ _ h);rw [h2] at this;cases this
     ·rfl
    rw [insL,if_pos h2,zhj _ _ h3,zhj _ _ h,insL,if_pos h2]
   | false=>rw [insL,if_neg (by simp [h2]),zhj _ _ h,insL,if_neg (by simp [h2]),zfX hs x (a::A) B]
  | false=>
   rw [ziq _ _ h];have ih:=zfX hs x A (b::B);cases h2:lt x b with
   | true=>
    rw [insL,if_pos h2] at ih ⊢;cases h3:lt x a with
    | true=>rw [zhj _ _ h3,ziq _ _ h,insL,if_pos h3]
    | false=>rw [ziq _ _ h3,ih,insL.eq_2,if_neg (by simp [h3])]
   | false=>
    rw [insL,if_neg (by simp [h2])] at ih ⊢
    have h3:=hs.nt _ _ _ h2 h;rw [ziq _ _ h,ih,insL.eq_2,if_neg (by simp [h3])]
termination_by A B=>A.length+B.length
def zb9 (L:List α) (x:α):zcl lt (L++[x])=insL lt x (zcl lt L):=by rw [zcl,xaP];rfl
def zgn {P:List α->Prop} (h0:P []) (hs:∀ L x,P L->P (L++[x])) (L:List α):P L:=by
 rw [<-List.reverse_reverse L];generalize L.reverse=R
 induction R with
 | nil=>exact h0
 | cons x r ih=>rw [List.reverse_cons];exact hs _ _ ih
def zeE (hs:SW lt) (A B:List α):zcl lt (A++B)=mrg lt (zcl lt A) (zcl lt B):=by
 induction B using zgn with
 | h0=>rw [xar,show zcl lt ([]:List α)=[] from rfl,zaE]
 | hs L x ih=>rw [<-xak,zb9,zb9,zfX hs,ih]
def zaU (hs:SW lt) (L:List α):srt lt (zcl lt L):=by
 induction L using zgn with
 | h0=>exact List.Pairwise.nil
 | hs L x ih=>rw [zb9];exact zm2 hs ih
theorem zbp:∀ A B:List α,(mrg lt A B).length=A.length+B.length
 | [],B=>by rw [zai];simp
 | a::A,[]=>by rw [zaE];rfl
 | a::A,b::B=>by
  cases h:lt b a with
  | true=>rw [zhj _ _ h,xaz,zbp (a::A) B];simp only [xaz];omega
  | false=>rw [ziq _ _ h,xaz,zbp A (b::B)];simp only [xaz];omega
termination_by A B=>A.length+B.length
theorem ziO {x:α}:∀ {U V:List α},(∀ u ∈ U,lt x u=false)->(∀ v ∈ V.head?,lt x v=true)->insL lt x (U++V)=U++x::V
 | [],[],_,_=>rfl
 | [],v::V,_,h=>by rw [xaL,insL,if_pos (h v (by simp))];rfl
 | u::U,V,h,hv=>by rw [xaM,insL,if_neg (by simp [h u (by simp)]),ziO (λw hw=>h w (by simp [hw])) hv];rfl
theorem zah:∀ (A1 A2 B1 B2:List α),(∀ a ∈ A1,∀ b ∈ B2,lt b a=false)->(∀ b ∈ B1,∀ a ∈ A2,lt b a=true)->mrg lt (A1++A2) (B1++B2)=mrg lt A1 B1++mrg lt A2 B2
 | [],[],B1,B2,_,_=>by simp [zai]
 | [],a::A2,[],B2,_,_=>by simp [zai]
 | [],a::A2,b::B1,B2,h1,h2=>by
  have ih:=zah [] (a::A2) B1 B2 (by simp) (λb hb=>h2 b (by simp [hb]))
  rw [xaL,xaM,zhj _ _ (h2 b (by simp) a (by simp)),zai]
  rw [xaL,zai] at ih;rw [ih];rfl
 | a::A1,A2,[],[],_,_=>by simp [zaE]
 | a::A1,A2,[],b::B2,h1,h2=>by
  have ih:=zah A1 A2 [] (b::B2) (λa ha=>h1 a (by simp [ha])) (by simp)
  rw [xaL,xaM,ziq _ _ (h1 a (by simp) b (by simp)),zaE]
  rw [xaL,zaE] at ih;rw [ih];rfl
 | a::A1,A2,b::B1,B2,h1,h2=>by
  rw [xaM,xaM];cases h:lt b a with
  | true=>
   have ih:=zah (a::A1) A2 B1 B2 h1 (λb hb=>h2 b (by simp [hb]))
   rw [zhj _ _ h,zhj _ _ h];rw [xaM] at ih;rw [ih];rfl
  | false=>
   have ih:=zah A1 A2 (b::B1) B2 (λa ha=>h1 a (by simp [ha])) h2
   rw [ziq _ _ h,ziq _ _ h];rw [xaM] at ih;rw [ih];rfl
termination_by A1 _ B1 _=>A1.length+B1.length
def zqS (hs:SW lt) {A B:List α} (hA:srt lt A) (hB:srt lt B) (hsl:s<=A.length) (h:∀ a b,A[s - 1]?=some a->B[e]?=some b->0 < s->lt b a=false):∀ a ∈ A.take s,∀ b ∈ B.drop e,lt b a=false:=by
 intro a ha b hb;obtain ⟨i,hi⟩:=xa9 ha;obtain ⟨j,hj⟩:=xa9 hb;have hil:=(xaa.1 hi).1;simp only [xan] at hil;rw [xaQ,if_pos (by omega)] at hi
 rw [xaY] at hj;have hjl:=(xaa.1 hj).1;obtain ⟨x,hx⟩:∃ x,A[s - 1]?=some x:=⟨_,xac (by omega)⟩
 obtain ⟨y,hy⟩:∃ y,B[e]?=some y:=⟨_,xac (by omega)⟩
 have h0:=h x y hx hy (by omega)
 have h1:lt x a=false:=by
  by_cases ei:i=s - 1
  ·rw [<-ei,hi] at hx;cases hx;exact irr hs _
  ·have:=xa1.1 hA i (s - 1) (by omega) (by omega) (by omega)
   rw [xac (by omega)] at hi hx
   rw [xa5 hi,xa5 hx] at this;exact this
 have h2:lt b y=false:=by
  by_cases e2:j=0
  ·subst e2;rw [xbt,hy] at hj;cases hj;exact irr hs _
  ·have:=xa1.1 hB e (e+j) (by omega) (by omega) (by omega)
   rw [xac (by omega)] at hj hy
   rw [xa5 hj,xa5 hy] at this;exact this
 exact hs.nt _ _ _ (hs.nt _ _ _ h2 h0) h1
def zm7 (hs:SW lt) {A B:List α} (hA:srt lt A) (hB:srt lt B) (hel:e<=B.length) (h:∀ a b,A[s]?=some a->B[e - 1]?=some b->0 < e->lt b a=true):∀ b ∈ B.take e,∀ a ∈ A.drop s,lt b a=true:=by
 intro b hb a ha;cases hba:lt b a with
 | true=>rfl
 | false=>
  exfalso
  obtain ⟨i,hi⟩:=xa9 hb;obtain ⟨j,hj⟩:=xa9 ha;have hil:=(xaa.1 hi).1;simp only [xan] at hil;rw [xaQ,if_pos (by omega)] at hi
  rw [xaY] at hj;have hjl:=(xaa.1 hj).1;obtain ⟨x,hx⟩:∃ x,B[e - 1]?=some x:=⟨_,xac (by omega)⟩
  obtain ⟨y,hy⟩:∃ y,A[s]?=some y:=⟨_,xac (by omega)⟩
  have h0:=h y x hy hx (by omega)
  have h1:lt x b=false:=by
   by_cases e2:i=e - 1
   ·rw [<-e2,hi] at hx;cases hx;exact irr hs _
   ·have:=xa1.1 hB i (e - 1) (by omega) (by omega) (by omega)
    rw [xac (by omega)] at hi hx
    rw [xa5 hi,xa5 hx] at this;exact this
  have h2:lt a y=false:=by
   by_cases e2:j=0
   ·subst e2;rw [xbt,hy] at hj;cases hj;exact irr hs _
   ·have:=xa1.1 hA s (s+j) (by omega) (by omega) (by omega)
    rw [xac (by omega)] at hj hy
    rw [xa5 hj,xa5 hy] at this;exact this
  have:=hs.nt _ _ _ (hs.nt _ _ _ h1 hba) h2;rw [h0] at this;cases this
end
def zq9 (hs:SW lt) (h:srt lt L) (x:Mov):zov lt L x=insL lt x L:=by
 unfold zov;generalize hk:zc2 lt x L L.length=k;have hkl:=zm4 lt x L L.length;have hge:=zm5 lt x L L.length;have hla:=zhG lt x L L.length;rw [hk] at hkl hge hla
 conv=>rhs;rw [<-xaq k L]
 refine (ziO (λu hu=>?_) λv hv=>?_).symm
 ·cases k with
  | zero=>simp at hu
  | succ k=>
   obtain ⟨z,hz⟩:∃ z,L[k]?=some z:=⟨_,xac (by omega)⟩
   have hb:=hla k z rfl hz;obtain ⟨i,hi⟩:=xa9 hu;have hik:=(xaa.1 hi).1;simp only [xan] at hik;rw [xaQ,if_pos (by omega)] at hi
   by_cases e:i=k
   ·subst e;rw [hz] at hi;cases hi;exact hb
   ·have:=xa1.1 h i k (by omega) (by omega) (by omega)
    rw [xac (by omega)] at hi hz
    rw [xa5 hi,xa5 hz] at this;exact hs.nt _ _ _ hb this
 ·rw [List.head?_drop] at hv;have hlt:=(xaa.1 hv).1;obtain ⟨y,hy,hb⟩:=hge k (xap _) hlt;rw [hv] at hy;cases hy;exact hb
def zd9 (hs:SW lt) (L:List Mov):L.foldl (zov lt) []=zcl lt L:=by
 induction L using zgn with
 | h0=>rfl
 | hs L x ih=>rw [xaP,zb9,<-ih];exact zq9 hs (by rw [ih];exact zaU hs L) x
structure Lea where
 carrier:ByteArray
 fro:Int
 to:Int
abbrev Lea.pv (l:Lea):PV:=.agg [.s l.carrier,.i .i64 l.fro,.i .i64 l.to]
structure SlR where
 req:Req
 holder:ByteArray
 ls:PV
 sh:PV
abbrev SlR.cells (s:SlR):List PV:=[.s s.req.name,.s s.req.carrier,.s s.req.kind,.s s.req.term,.s s.req.partner,.s s.req.link,.i .i64 s.req.per.fro,.i .i64 s.req.per.to,.i .i64 s.req.per.days,.i .i64 s.req.minute,.i .i64 s.req.seats,.i .i64 s.req.size,.i .i64 s.req.noise,.s s.holder,s.ls,s.sh]
abbrev SlR.pv (s:SlR):PV:=.agg s.cells
structure Slt where
 req:Req
 holder:ByteArray
 ls:List Lea
 sh:List ByteArray
abbrev Slt.raw (s:Slt):SlR:=⟨s.req,s.holder,.sl 3 (s.ls.map Lea.pv),.sl 1 (s.sh.map .s)⟩
abbrev Slt.cells (s:Slt):List PV:=[.s s.req.name,.s s.req.carrier,.s s.req.kind,.s s.req.term,.s s.req.partner,.s s.req.link,.i .i64 s.req.per.fro,.i .i64 s.req.per.to,.i .i64 s.req.per.days,.i .i64 s.req.minute,.i .i64 s.req.seats,.i .i64 s.req.size,.i .i64 s.req.noise,.s s.holder,.sl 3 (s.ls.map Lea.pv),.sl 1 (s.sh.map .s)]
abbrev Slt.pv (s:Slt):PV:=.agg s.cells
structure Wsh where
 req:Req
 rank:Int
abbrev Wsh.cells (w:Wsh):List PV:=[.s w.req.name,.s w.req.carrier,.s w.req.kind,.s w.req.term,.s w.req.partner,.s w.req.link,.i .i64 w.req.per.fro,.i .i64 w.req.per.to,.i .i64 w.req.per.days,.i .i64 w.req.minute,.i .i64 w.req.seats,.i .i64 w.req.size,.i .i64 w.req.noise,.i .i64 w.rank]
abbrev Wsh.pv (w:Wsh):PV:=.agg w.cells
structure Bk where
 slots:List Slt
 wait:List Wsh
abbrev Bk.pv (b:Bk):PV:=.agg [.sl 16 (b.slots.map Slt.pv),.sl 14 (b.wait.map Wsh.pv)]
def chkRq (r:Req):Int:=zn [zfA r.name,zfA r.carrier,zfA r.partner,zo6 r.term,zo6 r.link,zgM r.kind,if r.link=r.name then 32 else 0,zbx r.per,rng r.minute 0 1439,rng r.seats 0 999,rng r.size 1 9,rng r.noise 0 99]
def chkQ (r:Req):Int:=zn [chkRq r,if zaK r.per=[] then 12 else 0]
def zCk (l:Lea):Int:=zn [zfA l.carrier,rng l.fro 0 99999,rng l.to 0 99999,if l.to < l.fro then 11 else 0]
def leaOf (s:SlR) (l:Lea):Int:=zn [if l.fro < s.req.per.fro\/s.req.per.to < l.to then 30 else 0,if l.carrier=s.holder then 31 else 0]
def zBr (s:Slt) (i:Nat) (l:Lea):Int:=zn [zCk l,leaOf s.raw l,if 0 < (i:Int)/\l.fro<=((s.ls[i - 1]?).getD l).to then 15 else 0]
def zAf (s:Slt) (i:Nat) (c:ByteArray):Int:=zn [zfA c,if c=s.holder then 31 else 0,if 0<=atL c (s.sh.take i) then 9 else 0]
def zwN (s:Slt):Int:=zn [chkQ s.req,zfA s.holder,if 8 < (s.ls.length:Int) then 5 else 0,zn (s.ls.mapIdx (zBr s)),if 4 < (s.sh.length:Int) then 5 else 0,zn (s.sh.mapIdx (zAf s))]
def zwM (w:Wsh):Int:=zn [chkQ w.req,rng w.rank 0 999999999]
def zAe (b:Bk) (i:Nat) (s:Slt):Int:=zn [zwN s,if 0<=atL s.req.name ((b.slots.take i).map (·.req.name)) then 9 else 0]
theorem fE0:∀ {l:List Int},zn l=0->∀ x ∈ l,x=0
 | [],_,x,hx=>by cases hx
 | e::r,h,x,hx=>by
  by_cases he:e=0
  ·rw [zn,if_pos he] at h
   rcases xaI.1 hx with rfl|hx
   ·exact he
   ·exact fE0 h x hx
  ·rw [zn,if_neg he] at h;exact absurd h he
def zdG {α:Type} (p:α->Bool):List α->Int
 | []=>-1
 | x::r=>if p x=true then 0 else if zdG p r < 0 then -1 else zdG p r+1
theorem zbe {α:Type} {p:α->Bool}:∀ {l:List α} {i:Nat} {x:α},(∀ y ∈ l.take i,p y=false)->l[i]?=some x->p x=true->zdG p l=i
 | [],i,_,_,h,_=>by simp at h
 | x::r,0,y,_,h,hp=>by simp at h;subst h;simp [zdG,hp]
 | x::r,i+1,y,h,hx,hp=>by
  have h0:p x=false:=h x (by simp)
  have:=zbe (l:=r) (i:=i) (λy hy=>h y (by simp [hy])) (by simpa using hx) hp
  simp only [zdG,h0,this,xaD,if_false];rw [if_neg (by omega)];simp
theorem zct {α:Type} {p:α->Bool}:∀ {l:List α},(∀ x ∈ l,p x=false)->zdG p l=-1
 | [],_=>rfl
 | x::r,h=>by
  have h0:p x=false:=h x (by simp)
  have:=zct (l:=r) λy hy=>h y (by simp [hy])
  simp only [zdG,h0,this];rfl
theorem ziR {α:Type} (f:α->ByteArray) (n:ByteArray):∀ l:List α,zdG (λx=>decide (f x=n)) l=atL n (l.map f)
 | []=>rfl
 | x::r=>by simp only [zdG,xaj,atL,ziR f n r,decide_eq_true_eq]
def zE {α:Type} {l:List α} {x:α} (hx:l[i]?=some x):l.take (i+1)=l.take i++[x]:=by rw [xaW,hx];rfl
def zd1 {α:Type} {p:α->Bool} {l:List α} {x:α} (h:∀ y ∈ l.take i,p y=false) (hx:l[i]?=some x) (hp:p x=false):∀ y ∈ l.take (i+1),p y=false:=λy hy=>by
 rw [zE hx] at hy
 rcases xaS.1 hy with h1|h1
 ·exact h y h1
 ·simp at h1;subst h1;exact hp
def zz6 {l:Lim} (h:zr l=0) (hb:b ∈ zaq l):b ∈ zN l (b / 1440):=by
 rw [ze0 h,xaw] at hb;obtain ⟨d,hd,hb⟩:=hb;have hb2:b ∈ zN l d:=by rw [zbK h,if_pos hd];exact hb
 have:=zaX h hb2;rw [show b / 1440=d by omega];exact hb2
def zz5 {l:Lim} (h:zr l=0) (hb:b ∈ zN l d):b ∈ zaq l:=by
 rw [zbK h] at hb
 split at hb
 ·rename_i hd;rw [ze0 h,xaw];exact ⟨d,hd,hb⟩
 ·cases hb
def zjb (a b:Mov):Bool:=if a.moment=b.moment then (if a.kind=b.kind then Op.bytesLess a.name.toList b.name.toList else Op.bytesLess a.kind.toList b.kind.toList) else decide (a.moment < b.moment)
abbrev Mov.cells (m:Mov):List PV:=[.i .i64 m.moment,.s m.kind,.s m.term,.i .i64 m.seats,.i .i64 m.size,.i .i64 m.noise,.s m.name]
def zi9 (x y:Int):Int:=if x < y then -1 else if y < x then 1 else 0
def zkL (x y:ByteArray):Int:=if Op.bytesLess x.toList y.toList=true then -1 else if x=y then 0 else 1
def zwL (a b:Mov):Int:=zn [zi9 a.moment b.moment,zkL a.kind b.kind,zkL a.name b.name]
def zx9 (x:ByteArray):Pure prog 196 [.s x] (.b false):=by
 refine pz func196 f196.eq_1 λhw X hX=>?_
 have qe:=@zeB;exact gD2
def zlh (x y:Int):Pure prog 159 [.i .i64 x,.i .i64 y] (.i .i64 (zi9 x y)):=by
 refine pz func159 f159.eq_1 λhw X hX=>?_
 repeat' first|refine gC ?_ ?_<;>intro hc<;>try contradiction|refine za (zya _) ?_|refine gG ?_|show AK _;intro J Z|refine gJ ?_|omega|exact aT
 ·rw [zi9,if_pos hc];exact .refl _
 ·rw [zi9,if_neg (by omega),if_pos hc];exact .refl _
 ·rw [zi9,if_neg (by omega),if_neg (by omega)];exact .refl _
def zqs (x y:ByteArray):Pure prog 132 [.s x,.s y] (.i .i64 (zkL x y)):=by
 refine pz func132 f132.eq_1 λhw X hX=>?_
 repeat' first|refine gC ?_ ?_<;>intro hc<;>try contradiction|refine za (zx9 _) ?_|refine gG ?_|show AK _;intro J Z|refine gJ ?_|omega|exact aT
 ·rw [zkL,if_pos hc];exact .refl _
 ·rw [zkL,if_neg (by rw [hc.1];simp),if_neg hc.2];exact .refl _
 ·have h1:=‹Op.bytesLess x.toList y.toList=false›;rw [zkL,if_neg (by rw [h1];simp),if_pos (hc.resolve_left (by rw [h1];simp))];exact .refl _
def zqt (l:List Int):Pure prog 158 [.sl 1 (l.map (.i .i64))] (.i .i64 (zn l)):=by
 refine pz func158 f158.eq_1 λhw X hX=>?_
 simp only [wfs,PV.wf,xaf,maxLen] at hw;refine gE2 ?_;refine zh (κ:=Nat) (λi=>⟨[(3,.p (.i .i64 0)),(6,.p (.sl 1 (l.map (.i .i64)))),(7,.p (.i .i64 l.length)),(8,.p (.i .i64 i))],[],[],false⟩) (λi=>i<=l.length/\∀ x ∈ l.take i,x=0) (λi=>l.length - i) 0 ?_ ?_ ?_
 ·exact sR
 ·simp
 ·intro i hi;refine gH (λhc=>?_) λhc=>?_
  ·obtain ⟨x,hx⟩:=zj (i:=i) (l:=l) (by omega)
   have qe:=@hx;refine gF2 (λhc=>?_) λhc=>?_
   ·rw [zbr hi.2 hx hc];exact .refl _
   ·exact ⟨i+1,⟨by omega,zb0 hi.2 hx hc⟩,by omega,by simp⟩
  ·refine gE2 ?_;have e:i=l.length:=by omega
   subst e;rw [zbj hi.2];exact .refl _
def bfC (c:Mov->Mov->Int) (x y:Mov):Bool:=decide (c x y < 0)
def mgC (c:Mov->Mov->Int) (L:List Mov) (k:Nat):List Mov:=(L.take k).foldl (zov (bfC c)) []
def zat (c:Mov->Mov->Int) (L:List Mov):List Mov:=L.foldl (zov (bfC c)) []
def ziy (h:k<=L.length):(mgC c L k).length=k:=by
 have:=(zdH (bfC c) (L.take k) []).length_eq;rw [mgC,this];simp;omega
def zuC (h:L[k]?=some x):mgC c L (k+1)=zov (bfC c) (mgC c L k) x:=by
 rw [mgC,xaW,h,xaP];rfl
def zaf (c:Mov->Mov->Int) (L:List Mov):(zat c L).length=L.length:=by
 have:=(zdH (bfC c) L []).length_eq;rw [zat,this];simp
def zpb (c:Mov->Mov->Int) (L:List Mov) (k:Nat):List Mov:=mgC c L k++L.drop k
def zi1 (h:k<=L.length\/k=1):(zpb c L k).length=L.length:=by
 rcases L with _|⟨x,r⟩
 ·rcases h with h|h<;>(try simp at h)<;>subst h<;>simp [zpb,mgC]
 ·rw [zpb,xad,ziy (by rcases h with h|h<;>simp at *<;>omega),xav]
  rcases h with h|h<;>simp at *<;>omega
def zB6 (c:Mov->Mov->Int) (L:List Mov):zpb c L 1=L:=by
 rcases L with _|⟨x,r⟩<;>simp [zpb,mgC,zov,zc2]
def zvp (c:Mov->Mov->Int) (L:List Mov) (h:L.length<=k):zpb c L k=zat c L:=by
 rw [zpb,mgC,xas h,xbD h,xar];rfl
def dj (out:List Mov) (x:Mov) (rest:List Mov) (j:Nat):List Mov:=out.take j++x::(out.drop j++rest)
def zwJ (h:j<=out.length):(dj out x rest j).length=out.length+1+rest.length:=by
 simp [dj];omega
def zvm (h:L[i]?=some x):dj (mgC c L i) x (L.drop (i+1)) i=zpb c L i:=by
 have hi:=(xaa.1 h).1;have hl:=ziy (c:=c) (L:=L) (k:=i) (by omega)
 rw [dj,zpb,xas (by omega),xbD (by omega),xaL,xaE hi,(xaa.1 h).2]
def zrE (h:L[i]?=some x) (hj:j=zc2 (bfC c) x (mgC c L i) i):dj (mgC c L i) x (L.drop (i+1)) j=zpb c L (i+1):=by
 have hi:=(xaa.1 h).1;rw [zpb,zuC h,zov,ziy (by omega),<-hj,dj];simp
def dj_at (h:out[j]?=some y):(dj out x rest (j+1))[j]?=some y/\(dj out x rest (j+1))[j+1]?=some x:=by
 have hj:=(xaa.1 h).1;have hl:(out.take j).length=j:=by simp;omega
 rw [dj,xaW,h,xak];refine ⟨?_,?_⟩
 ·rw [xaB (by omega),hl];simp
 ·rw [xaB (by omega),hl];simp
def zzm (h:out[j]?=some y):((dj out x rest (j+1)).set (j+1) y).set j x=dj out x rest j:=by
 have hj:=(xaa.1 h).1;have hl:(out.take j).length=j:=by simp;omega
 have hd:out.drop j=y::out.drop (j+1):=by rw [xaE hj,(xaa.1 h).2]
 rw [dj,dj,xaW,h,hd,xak,xbO _ _ (by omega),hl,xbO _ _ (by omega),hl]
 simp
def zra (hy:out[q]?=some y) (hb:¬c x y < 0):zc2 (bfC c) x out (q+1)=q+1:=by
 simp only [zc2,hy];rw [if_neg (by simp [bfC];omega)]
def zyK (hy:out[q]?=some y) (hb:c x y < 0):zc2 (bfC c) x out (q+1)=zc2 (bfC c) x out q:=by
 simp only [zc2,hy];rw [if_pos (by simp [bfC];omega)]
section
variable {α:Type}
def zaV (bef:α->α->Bool) (x:α) (out:List α):Nat->Nat
 | 0=>0
 | n+1=>match out[n]? with
  | some y=>if bef x y then zaV bef x out n else n+1
  | none=>n+1
def zfC (bef:α->α->Bool) (out:List α) (x:α):List α:=out.take (zaV bef x out out.length)++x::out.drop (zaV bef x out out.length)
theorem zj7 (bef:α->α->Bool) (x:α) (out:List α):∀ n,zaV bef x out n<=n
 | 0=>xap _
 | n+1=>by
  have:=zj7 bef x out n;simp only [zaV];(repeat' split)<;>omega
theorem zj8 (bef:α->α->Bool) (x:α) (out:List α):∀ n i,zaV bef x out n<=i->i < n->∃ y,out[i]?=some y/\bef x y=true
 | 0,i,_,h=>by omega
 | n+1,i,h,hi=>by
  simp only [zaV] at h
  split at h
  ·rename_i y hy
   split at h
   ·by_cases e:i=n
    ·subst e;exact ⟨y,hy,by assumption⟩
    ·exact zj8 bef x out n i h (by omega)
   ·omega
  ·omega
theorem zgK (bef:α->α->Bool) (x:α) (out:List α):∀ n k y,zaV bef x out n=k+1->out[k]?=some y->bef x y=false
 | 0,_,_,h,_=>by cases h
 | n+1,k,y,h,hy=>by
  simp only [zaV] at h
  split at h
  ·rename_i z hz
   split at h
   ·exact zgK bef x out n k y h hy
   ·have e:n=k:=by omega
    subst e;rw [hz] at hy;cases hy;rename_i hb;simpa using hb
  ·rename_i hz;have e:n=k:=by omega
   subst e;rw [hz] at hy;cases hy
def zou (bef:α->α->Bool) (out:List α) (x:α):(zfC bef out x).Perm (x::out):=by
 unfold zfC;refine List.perm_middle.trans ?_;rw [xaq]
theorem zbG (bef:α->α->Bool):∀ (l out:List α),(l.foldl (zfC bef) out).Perm (out++l)
 | [],out=>by simp
 | x::l,out=>by
  refine (zbG bef l (zfC bef out x)).trans ?_;refine ((zou bef out x).append_right l).trans ?_;simpa using (List.perm_middle (a:=x) (l₁:=out) (l₂:=l)).symm
def zaJ (c:α->α->Int) (x y:α):Bool:=decide (c x y < 0)
def zdW (c:α->α->Int) (L:List α) (k:Nat):List α:=(L.take k).foldl (zfC (zaJ c)) []
def zz (c:α->α->Int) (L:List α):List α:=L.foldl (zfC (zaJ c)) []
def zdE {c:α->α->Int} {L:List α} (h:k<=L.length):(zdW c L k).length=k:=by
 have:=(zbG (zaJ c) (L.take k) []).length_eq;rw [zdW,this];simp;omega
def zqP {c:α->α->Int} {L:List α} {x:α} (h:L[k]?=some x):zdW c L (k+1)=zfC (zaJ c) (zdW c L k) x:=by
 rw [zdW,xaW,h,xaP];rfl
def zu (c:α->α->Int) (L:List α):(zz c L).length=L.length:=by
 have:=(zbG (zaJ c) L []).length_eq;rw [zz,this];simp
def zeO (c:α->α->Int) (L:List α) (k:Nat):List α:=zdW c L k++L.drop k
def zbs {c:α->α->Int} {L:List α} (h:k<=L.length\/k=1):(zeO c L k).length=L.length:=by
 rcases L with _|⟨x,r⟩
 ·rcases h with h|h<;>(try simp at h)<;>subst h<;>simp [zeO,zdW]
 ·rw [zeO,xad,zdE (by rcases h with h|h<;>simp at *<;>omega),xav]
  rcases h with h|h<;>simp at *<;>omega
def zlX (c:α->α->Int) (L:List α):zeO c L 1=L:=by
 rcases L with _|⟨x,r⟩<;>simp [zeO,zdW,zfC,zaV]
def zgW (c:α->α->Int) (L:List α) (h:L.length<=k):zeO c L k=zz c L:=by
 rw [zeO,zdW,xas h,xbD h,xar];rfl
def djP (out:List α) (x:α) (rest:List α) (j:Nat):List α:=out.take j++x::(out.drop j++rest)
def zfg {out:List α} {x:α} {rest:List α} (h:j<=out.length):(djP out x rest j).length=out.length+1+rest.length:=by
 simp [djP];omega
def zgU {c:α->α->Int} {L:List α} {x:α} (h:L[i]?=some x):djP (zdW c L i) x (L.drop (i+1)) i=zeO c L i:=by
 have hi:=(xaa.1 h).1;have hl:=zdE (c:=c) (L:=L) (k:=i) (by omega)
 rw [djP,zeO,xas (by omega),xbD (by omega),xaL,xaE hi,(xaa.1 h).2]
def zdJ {c:α->α->Int} {L:List α} {x:α} (h:L[i]?=some x) (hj:j=zaV (zaJ c) x (zdW c L i) i):djP (zdW c L i) x (L.drop (i+1)) j=zeO c L (i+1):=by
 have hi:=(xaa.1 h).1;rw [zeO,zqP h,zfC,zdE (by omega),<-hj,djP];simp
def zrF {out:List α} {x y:α} {rest:List α} (h:out[j]?=some y):(djP out x rest (j+1))[j]?=some y/\(djP out x rest (j+1))[j+1]?=some x:=by
 have hj:=(xaa.1 h).1;have hl:(out.take j).length=j:=by simp;omega
 rw [djP,xaW,h,xak];refine ⟨?_,?_⟩
 ·rw [xaB (by omega),hl];simp
 ·rw [xaB (by omega),hl];simp
def zi0 {out:List α} {x y:α} {rest:List α} (h:out[j]?=some y):((djP out x rest (j+1)).set (j+1) y).set j x=djP out x rest j:=by
 have hj:=(xaa.1 h).1;have hl:(out.take j).length=j:=by simp;omega
 have hd:out.drop j=y::out.drop (j+1):=by rw [xaE hj,(xaa.1 h).2]
 rw [djP,djP,xaW,h,hd,xak,xbO _ _ (by omega),hl,xbO _ _ (by omega),hl]
 simp
def zfc {c:α->α->Int} {x:α} {out:List α} {y:α} (hy:out[q]?=some y) (hb:¬c x y < 0):zaV (zaJ c) x out (q+1)=q+1:=by
 simp only [zaV,hy];rw [if_neg (by simp [zaJ];omega)]
def ziP {c:α->α->Int} {x:α} {out:List α} {y:α} (hy:out[q]?=some y) (hb:c x y < 0):zaV (zaJ c) x out (q+1)=zaV (zaJ c) x out q:=by
 simp only [zaV,hy];rw [if_pos (by simp [zaJ];omega)]
end
def zlW (p:Per):(zaK p).Pairwise λa b=>a < b:=by
 unfold zaK;generalize (p.to - p.fro+1).toNat=n
 induction n with
 | zero=>simp
 | succ n ih=>
  rw [xbd,xa8,xcq];refine ⟨ih,?_,?_⟩
  ·simp only [xat,xbH,xar];split<;>simp
  ·intro a ha b hb;obtain ⟨k,hk,ha⟩:=xaw.1 ha;have hk:=xaG.1 hk;simp only [xat,xbH,xar] at hb
   split at ha
   ·split at hb
    ·simp at ha hb;omega
    ·cases hb
   ·cases ha
def zuA (h:o ∈ zhk r):∃ d,d ∈ zaK r.per/\o=zj0 r d:=by
 obtain ⟨d,hd,rfl⟩:=xaN.1 h;exact ⟨d,hd,rfl⟩
def zks (h:zbY r=0) (hd:d ∈ zaK r.per):zhS (zj0 r d)=0:=by
 have hp:=zaI (zeR h).1;have hm:=zeR h;have hdm:=zeM hd;unfold zbY at h;unfold zhS;simp only [zi,zdR] at h ⊢;simp only [zj0];refine ⟨by omega,?_⟩
 simp only [h,true_and,and_true]
theorem zeG {α:Type} (p:α->Bool):∀ l:List α,decide (0<=zdG p l)=l.any p
 | []=>rfl
 | x::r=>by
  have ih:=zeG p r
  by_cases h:p x=true
  ·simp [zdG,h]
  ·simp only [zdG,if_neg h,List.any_cons,<-ih];rw [xbq] at h;rw [h,xb5]
   by_cases h2:zdG p r < 0
   ·rw [if_pos h2,decide_eq_false (by omega),decide_eq_false (by omega)]
   ·rw [if_neg h2,decide_eq_true (by omega),decide_eq_true (by omega)]
theorem zwU {n:ByteArray}:∀ {l:List ByteArray},¬atL n l < 0->l[(atL n l).toNat]?=some n
 | [],h=>absurd (show atL n [] < 0 by simp [atL]) h
 | x::r,h=>by
  simp only [atL] at h ⊢
  split
  ·rename_i e;simp [e]
  ·rename_i e;rw [if_neg e] at h
   split
   ·rename_i k;rw [if_pos k] at h;omega
   ·rename_i k;have h2:=zwU (l:=r) k;have h3:(atL n r+1).toNat=(atL n r).toNat+1:=by omega
    rw [h3];simpa using h2
abbrev Ky:=Nat × Int
section
variable {β:Type}
def ziL (k:Ky):List (Ky × β)->Option β
 | []=>none
 | e::r=>if e.1=k then some e.2 else ziL k r
def zjk (k:Ky) (v:β):List (Ky × β)->List (Ky × β)
 | []=>[(k,v)]
 | e::r=>if e.1=k then (k,v)::r else e::zjk k v r
theorem ziK (k j:Ky) (v:β):∀ E:List (Ky × β),ziL j (zjk k v E)=if j=k then some v else ziL j E
 | []=>by
  simp only [zjk,ziL]
  by_cases h:k=j
  ·rw [if_pos h,if_pos h.symm]
  ·rw [if_neg h,if_neg λe=>h e.symm]
 | e::E=>by
  have ih:=ziK k j v E;rw [zjk]
  by_cases h:e.1=k
  ·rw [if_pos h];simp only [ziL]
   by_cases h2:k=j
   ·rw [if_pos h2,if_pos h2.symm]
   ·rw [if_neg h2,if_neg λx=>h2 x.symm,if_neg λx=>h2 (h ▸ x)]
  ·rw [if_neg h];simp only [ziL,ih]
   by_cases h2:e.1=j
   ·rw [if_pos h2,if_pos h2,if_neg λx=>h (h2.trans x)]
   ·rw [if_neg h2,if_neg h2]
end
structure Brd where
 C:List (Ky × Int)
 G:List (Ky × List Int)
abbrev BgM:=List (Ky × List Int)
variable {G:BgM}
def zja (ls:List Lim) (k:Ky):List Int:=match ls[k.1]? with|some l=>zr5 l k.2|none=>[]
def zvH (ls:List Lim) (G:BgM) (k:Ky):List Int × BgM:=match ziL k G with
 | some L=>(L,G)
 | none=>(zja ls k,zjk k (zja ls k) G)
def zfD (o:Mov) (i:Nat) (l:Lim) (L:List Int):List Ky:=(L.filter λx=>decide (x<=o.moment) && decide (o.moment < x+l.len)).map λx=>(i,x)
def zwV (ls:List Lim) (o:Mov) (i:Nat) (l:Lim) (st:List Ky × BgM) (e:Nat):List Ky × BgM:=
 (st.1++zfD o i l (zvH ls st.2 (i,o.moment / 1440 - 1+e)).1,(zvH ls st.2 (i,o.moment / 1440 - 1+e)).2)
def zsw (ls:List Lim) (o:Mov) (st:List Ky × BgM) (i:Nat):List Ky × BgM:=match ls[i]? with
 | some l=>if zbI l o.kind o.term then (List.range 2).foldl (zwV ls o i l) st else st
 | none=>st
def arn (ls:List Lim) (G:BgM) (o:Mov):List Ky × BgM:=(List.range ls.length).foldl (zsw ls o) ([],G)
def zzR (ls:List Lim) (o:Mov) (i:Nat) (l:Lim) (e:Nat):List Ky:=zfD o i l (zja ls (i,o.moment / 1440 - 1+e))
def zsx (ls:List Lim) (o:Mov) (i:Nat):List Ky:=match ls[i]? with
 | some l=>if zbI l o.kind o.term then (List.range 2).flatMap (zzR ls o i l) else []
 | none=>[]
def arA (ls:List Lim) (o:Mov):List Ky:=(List.range ls.length).flatMap (zsx ls o)
def GOk (ls:List Lim) (G:BgM):Prop:=∀ k L,ziL k G=some L->L=zja ls k
def zr6 (h:GOk ls G) (k:Ky):(zvH ls G k).1=zja ls k/\GOk ls (zvH ls G k).2:=by
 unfold zvH;cases hg:ziL k G with
 | some L=>exact ⟨h k L hg,h⟩
 | none=>
  refine ⟨rfl,λj L hj=>?_⟩
  simp only [ziK] at hj
  split at hj
  ·rename_i e;injection hj with hj;rw [<-hj,e]
  ·exact h j L hj
theorem zjd {l:Lim}:∀ (I:List Nat) (st:List Ky × BgM),GOk ls st.2->(I.foldl (zwV ls o i l) st).1=st.1++I.flatMap (zzR ls o i l)/\GOk ls (I.foldl (zwV ls o i l) st).2
 | [],st,h=>by simp [h]
 | e::I,st,h=>by
  obtain ⟨b1,b2⟩:=zr6 h (i,o.moment / 1440 - 1+e);have ih:=zjd (l:=l) I (zwV ls o i l st e) b2;rw [xbn];refine ⟨?_,ih.2⟩;rw [ih.1,zwV,b1,xat,xak];rfl
theorem zjc:∀ (I:List Nat) (st:List Ky × BgM),GOk ls st.2->(I.foldl (zsw ls o) st).1=st.1++I.flatMap (zsx ls o)/\GOk ls (I.foldl (zsw ls o) st).2
 | [],st,h=>by simp [h]
 | i::I,st,h=>by
  have h1:(zsw ls o st i).1=st.1++zsx ls o i/\GOk ls (zsw ls o st i).2:=by
   unfold zsw zsx;cases hl:ls[i]? with
   | none=>simp [h]
   | some l=>
    simp only []
    split
    ·exact zjd _ st h
    ·simp [h]
  have ih:=zjc I (zsw ls o st i) h1.2;rw [xbn];refine ⟨?_,ih.2⟩;rw [ih.1,h1.1,xat,xak]
def znr (h:GOk ls G) (o:Mov):(arn ls G o).1=arA ls o/\GOk ls (arn ls G o).2:=by
 have:=zjc (o:=o) (List.range ls.length) ([],G) h;exact ⟨by rw [arn,this.1,xaL];rfl,this.2⟩
def zbh (C:List (Ky × Int)) (k:Ky):Int:=(ziL k C).getD 0
def zf8 (t:Int) (C:List (Ky × Int)) (k:Ky):List (Ky × Int):=zjk k (zbh C k+t) C
def zpg (ls:List Lim) (b:Brd) (o:Mov) (t:Int):Brd:=⟨(arn ls b.G o).1.foldl (zf8 t) b.C,(arn ls b.G o).2⟩
def znh (t:Int) (C:List (Ky × Int)) (k j:Ky):zbh (zf8 t C k) j=zbh C j+if j=k then t else 0:=by
 unfold zbh zf8;rw [ziK]
 split
 ·rename_i e;subst e;rfl
 ·simp
theorem zi6 (t:Int) (j:Ky):∀ (W:List Ky) (C:List (Ky × Int)),W.Nodup->zbh (W.foldl (zf8 t) C) j=zbh C j+if j ∈ W then t else 0
 | [],C,_=>by simp
 | k::W,C,h=>by
  obtain ⟨h1,h2⟩:=xbR.1 h;rw [xbn,zi6 t j W _ h2,znh]
  by_cases e:j=k
  ·subst e;simp [h1]
  ·simp [e]
def za0 (b:Bool) (e:Int):Pure prog 106 [.b b,.i .i64 e] (.i .i64 (if b then e else 0)):=by
 refine pz func106 f106.eq_1 λhw X hX=>?_
 repeat' first|refine gC ?_ ?_<;>intro hc<;>try contradiction|refine gG ?_|show AK _;intro J Z|refine gJ ?_|omega|exact aT
 all_goals (subst hc;exact .refl _)
def zfM (n a b:Int):Pure prog 186 [.i .i64 n,.i .i64 a,.i .i64 b] (.i .i64 (rng n a b)):=by
 refine pz func186 f186.eq_1 λhw X hX=>?_
 have jA:=λu1 u2=>za0 u1 u2;refine gE2 ?_
 simp only [rng,xbg,decide_eq_true_eq];exact .refl _
def zaG (l:List Int):Pure prog 79 [.sl 1 (l.map (.i .i64))] (.i .i64 (zn l)):=by
 refine pz func79 f79.eq_1 λhw X hX=>?_
 simp only [wfs,PV.wf,xaf,maxLen] at hw;refine gE2 ?_;refine zh (κ:=Nat) (λi=>⟨[(5,.p (.sl 1 (l.map (.i .i64)))),(6,.p (.i .i64 l.length)),(7,.p (.i .i64 i))],[],[],false⟩) (λi=>i<=l.length/\∀ x ∈ l.take i,x=0) (λi=>l.length - i) 0 ?_ ?_ ?_
 ·exact sR
 ·simp
 ·intro i hi;refine gH (λhc=>?_) λhc=>?_
  ·obtain ⟨x,hx⟩:=zj (i:=i) (l:=l) (by omega)
   have qe:=@hx;refine gF2 (λhc=>?_) λhc=>?_
   ·rw [zbr hi.2 hx hc];exact .refl _
   ·exact ⟨i+1,⟨by omega,zb0 hi.2 hx hc⟩,by omega,by simp⟩
  ·refine gE2 ?_;have e:i=l.length:=by omega
   subst e;rw [zbj hi.2];exact .refl _
def zfO (n:Int) (hn:-1000000000<=n) (hm:n<=1000000000):Pure prog 165 [.i .i64 n] (.i .i64 (max n (-n))):=by
 rw [show max n (-n)=max n (0 - n) by rw [Int.zero_sub]]
 refine pz func165 f165.eq_1 λhw X hX=>?_
 exact gD2
end Go.Proofs.YtbgckikhhcbmpaaGreat
