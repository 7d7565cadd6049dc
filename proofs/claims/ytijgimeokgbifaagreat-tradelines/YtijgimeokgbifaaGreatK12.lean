/- Contracts of functions, for the claim. No conditions. -/
import Derived.Test.YtijgimeokgbifaaGreatK8
set_option linter.all false
set_option maxHeartbeats 8000000
set_option maxRecDepth 100000
namespace Go.Proofs.YtijgimeokgbifaaGreat
open Go.RowKit
section
variable {α:Type} (lt:α->α->Bool)
def mrg:List α->List α->List α
 | [],B=>B
 | a::A,[]=>a::A
 | a::A,b::B=>if lt b a then b::mrg (a::A) B else a::mrg A (b::B)
termination_by A B=>A.length+B.length
def insL (x:α):List α->List α
 | []=>[x]
 | y::r=>if lt x y then x::y::r else y::insL x r
def zfK (L:List α):List α:=L.foldl (λout x=>insL lt x out) []
structure SW:Prop where
 asym:∀ x y,lt x y=true->lt y x=false
 nt:∀ x y z,lt x y=false->lt y z=false->lt x z=false
abbrev srt (L:List α):Prop:=L.Pairwise λx y=>lt y x=false
variable {lt}
theorem irr (hs:SW lt) (x:α):lt x x=false:=by
 cases hh:lt x x
 ·rfl
 ·rw [<-hs.asym _ _ hh,hh]
theorem zaV (A:List α):mrg lt A []=A:=by cases A<;>simp [mrg]
theorem zaE (B:List α):mrg lt [] B=B:=by simp [mrg]
theorem zfH {a b:α} (A B:List α) (h:lt b a=true):mrg lt (a::A) (b::B)=b::mrg lt (a::A) B:=by rw [mrg,if_pos h]
theorem zgQ {a b:α} (A B:List α) (h:lt b a=false):mrg lt (a::A) (b::B)=a::mrg lt A (b::B):=by rw [mrg,if_neg (by simp [h])]
theorem zkF {x z:α}:∀ {L:List α},z ∈ insL lt x L↔z=x\/z ∈ L
 | []=>by simp [insL]
 | y::r=>by
  unfold insL;split
  ·simp
  ·simp only [List.mem_cons,zkF]
   constructor
   ·rintro (h|h|h)<;>simp [h]
   ·rintro (h|h|h)<;>simp [h]
theorem zkK (hs:SW lt) {x:α}:∀ {L:List α},srt lt L->srt lt (insL lt x L)
 | [],_=>by simp [insL]
 | y::r,h=>by
  have h:=List.pairwise_cons.1 h
  unfold insL;split
  ·rename_i e
   refine List.pairwise_cons.2 ⟨λz hz=>?_,List.pairwise_cons.2 h⟩
   rcases List.mem_cons.1 hz with rfl|hz
   ·exact hs.asym _ _ e
   ·exact hs.nt _ _ _ (h.1 z hz) (hs.asym _ _ e)
  ·rename_i e
   refine List.pairwise_cons.2 ⟨λz hz=>?_,zkK hs h.2⟩
   rcases zkF.1 hz with rfl|hz
   ·simpa using e
   ·exact h.1 z hz
theorem zeu (hs:SW lt) (x:α):∀ (A B:List α),mrg lt A (insL lt x B)=insL lt x (mrg lt A B)
 | [],B=>by rw [zaE,zaE]
 | a::A,[]=>by
  rw [zaV]
  cases h:lt x a with
  | true=>rw [insL,zfH _ _ h,zaV,insL,if_pos h]
  | false=>
   rw [insL,zgQ _ _ h,insL,if_neg (by simp [h])]
   have:=zeu hs x A []
   rw [insL,zaV] at this
   rw [this]
 | a::A,b::B=>by
  cases h:lt b a with
  | true=>
   rw [zfH _ _ h]
   cases h2:lt x b with
   | true=>
    have h3:lt x a=true:=by
     cases e:lt x a
     ·have:=hs.nt _ _ _ e (hs.asym _ _ h);rw [h2] at this;cases this
     ·rfl
    rw [insL,if_pos h2,zfH _ _ h3,zfH _ _ h,insL,if_pos h2]
   | false=>rw [insL,if_neg (by simp [h2]),zfH _ _ h,insL,if_neg (by simp [h2]),zeu hs x (a::A) B]
  | false=>
   rw [zgQ _ _ h]
   have ih:=zeu hs x A (b::B)
   cases h2:lt x b with
   | true=>
    rw [insL,if_pos h2] at ih ⊢
    cases h3:lt x a with
    | true=>rw [zfH _ _ h3,zgQ _ _ h,insL,if_pos h3]
    | false=>rw [zgQ _ _ h3,ih,insL.eq_2,if_neg (by simp [h3])]
   | false=>
    rw [insL,if_neg (by simp [h2])] at ih ⊢
    have h3:=hs.nt _ _ _ h2 h
    rw [zgQ _ _ h,ih,insL.eq_2,if_neg (by simp [h3])]
termination_by A B=>A.length+B.length
theorem zcQ (L:List α) (x:α):zfK lt (L++[x])=insL lt x (zfK lt L):=by rw [zfK,List.foldl_append];rfl
theorem ziK {P:List α->Prop} (h0:P []) (hs:∀ L x,P L->P (L++[x])) (L:List α):P L:=by
 rw [<-List.reverse_reverse L]
 generalize L.reverse=R
 induction R with
 | nil=>exact h0
 | cons x r ih=>rw [List.reverse_cons];exact hs _ _ ih
theorem zoj (hs:SW lt) (A B:List α):zfK lt (A++B)=mrg lt (zfK lt A) (zfK lt B):=by
 induction B using ziK with
 | h0=>rw [List.append_nil,show zfK lt ([]:List α)=[] from rfl,zaV]
 | hs L x ih=>rw [<-List.append_assoc,zcQ,zcQ,zeu hs,ih]
theorem zcB (hs:SW lt) (L:List α):srt lt (zfK lt L):=by
 induction L using ziK with
 | h0=>exact List.Pairwise.nil
 | hs L x ih=>rw [zcQ];exact zkK hs ih
theorem zcw:∀ A B:List α,(mrg lt A B).length=A.length+B.length
 | [],B=>by rw [zaE];simp
 | a::A,[]=>by rw [zaV];rfl
 | a::A,b::B=>by
  cases h:lt b a with
  | true=>rw [zfH _ _ h,List.length_cons,zcw (a::A) B];simp only [List.length_cons];omega
  | false=>rw [zgQ _ _ h,List.length_cons,zcw A (b::B)];simp only [List.length_cons];omega
termination_by A B=>A.length+B.length
theorem zop {x:α}:∀ {U V:List α},(∀ u ∈ U,lt x u=false)->(∀ v ∈ V.head?,lt x v=true)->insL lt x (U++V)=U++x::V
 | [],[],_,_=>rfl
 | [],v::V,_,h=>by rw [List.nil_append,insL,if_pos (h v (by simp))];rfl
 | u::U,V,h,hv=>by rw [List.cons_append,insL,if_neg (by simp [h u (by simp)]),zop (λw hw=>h w (by simp [hw])) hv];rfl
theorem zaQ:∀ (A1 A2 B1 B2:List α),(∀ a ∈ A1,∀ b ∈ B2,lt b a=false)->(∀ b ∈ B1,∀ a ∈ A2,lt b a=true)->mrg lt (A1++A2) (B1++B2)=mrg lt A1 B1++mrg lt A2 B2
 | [],[],B1,B2,_,_=>by simp [zaE]
 | [],a::A2,[],B2,_,_=>by simp [zaE]
 | [],a::A2,b::B1,B2,h1,h2=>by
  have ih:=zaQ [] (a::A2) B1 B2 (by simp) (λb hb=>h2 b (by simp [hb]))
  rw [List.nil_append,List.cons_append,zfH _ _ (h2 b (by simp) a (by simp)),zaE]
  rw [List.nil_append,zaE] at ih
  rw [ih];rfl
 | a::A1,A2,[],[],_,_=>by simp [zaV]
 | a::A1,A2,[],b::B2,h1,h2=>by
  have ih:=zaQ A1 A2 [] (b::B2) (λa ha=>h1 a (by simp [ha])) (by simp)
  rw [List.nil_append,List.cons_append,zgQ _ _ (h1 a (by simp) b (by simp)),zaV]
  rw [List.nil_append,zaV] at ih
  rw [ih];rfl
 | a::A1,A2,b::B1,B2,h1,h2=>by
  rw [List.cons_append,List.cons_append]
  cases h:lt b a with
  | true=>
   have ih:=zaQ (a::A1) A2 B1 B2 h1 (λb hb=>h2 b (by simp [hb]))
   rw [zfH _ _ h,zfH _ _ h]
   rw [List.cons_append] at ih
   rw [ih];rfl
  | false=>
   have ih:=zaQ A1 A2 (b::B1) B2 (λa ha=>h1 a (by simp [ha])) h2
   rw [zgQ _ _ h,zgQ _ _ h]
   rw [List.cons_append] at ih
   rw [ih];rfl
termination_by A1 _ B1 _=>A1.length+B1.length
theorem zuA (hs:SW lt) {A B:List α} (hA:srt lt A) (hB:srt lt B) {s e:Nat} (hsl:s<=A.length) (h:∀ a b,A[s - 1]?=some a->B[e]?=some b->0 < s->lt b a=false):∀ a ∈ A.take s,∀ b ∈ B.drop e,lt b a=false:=by
 intro a ha b hb
 obtain ⟨i,hi⟩:=List.getElem?_of_mem ha
 obtain ⟨j,hj⟩:=List.getElem?_of_mem hb
 have hil:=(List.getElem?_eq_some_iff.1 hi).1
 simp only [List.length_take] at hil
 rw [List.getElem?_take,if_pos (by omega)] at hi
 rw [List.getElem?_drop] at hj
 have hjl:=(List.getElem?_eq_some_iff.1 hj).1
 obtain ⟨x,hx⟩:∃ x,A[s - 1]?=some x:=⟨_,List.getElem?_eq_getElem (by omega)⟩
 obtain ⟨y,hy⟩:∃ y,B[e]?=some y:=⟨_,List.getElem?_eq_getElem (by omega)⟩
 have h0:=h x y hx hy (by omega)
 have h1:lt x a=false:=by
  by_cases ei:i=s - 1
  ·rw [<-ei,hi] at hx;cases hx;exact irr hs _
  ·have:=List.pairwise_iff_getElem.1 hA i (s - 1) (by omega) (by omega) (by omega)
   rw [List.getElem?_eq_getElem (by omega)] at hi hx
   rw [Option.some.inj hi,Option.some.inj hx] at this;exact this
 have h2:lt b y=false:=by
  by_cases e2:j=0
  ·subst e2;rw [Nat.add_zero,hy] at hj;cases hj;exact irr hs _
  ·have:=List.pairwise_iff_getElem.1 hB e (e+j) (by omega) (by omega) (by omega)
   rw [List.getElem?_eq_getElem (by omega)] at hj hy
   rw [Option.some.inj hj,Option.some.inj hy] at this;exact this
 exact hs.nt _ _ _ (hs.nt _ _ _ h2 h0) h1
theorem zrF (hs:SW lt) {A B:List α} (hA:srt lt A) (hB:srt lt B) {s e:Nat} (hel:e<=B.length) (h:∀ a b,A[s]?=some a->B[e - 1]?=some b->0 < e->lt b a=true):∀ b ∈ B.take e,∀ a ∈ A.drop s,lt b a=true:=by
 intro b hb a ha
 cases hba:lt b a with
 | true=>rfl
 | false=>
  exfalso
  obtain ⟨i,hi⟩:=List.getElem?_of_mem hb
  obtain ⟨j,hj⟩:=List.getElem?_of_mem ha
  have hil:=(List.getElem?_eq_some_iff.1 hi).1
  simp only [List.length_take] at hil
  rw [List.getElem?_take,if_pos (by omega)] at hi
  rw [List.getElem?_drop] at hj
  have hjl:=(List.getElem?_eq_some_iff.1 hj).1
  obtain ⟨x,hx⟩:∃ x,B[e - 1]?=some x:=⟨_,List.getElem?_eq_getElem (by omega)⟩
  obtain ⟨y,hy⟩:∃ y,A[s]?=some y:=⟨_,List.getElem?_eq_getElem (by omega)⟩
  have h0:=h y x hy hx (by omega)
  have h1:lt x b=false:=by
   by_cases e2:i=e - 1
   ·rw [<-e2,hi] at hx;cases hx;exact irr hs _
   ·have:=List.pairwise_iff_getElem.1 hB i (e - 1) (by omega) (by omega) (by omega)
    rw [List.getElem?_eq_getElem (by omega)] at hi hx
    rw [Option.some.inj hi,Option.some.inj hx] at this;exact this
  have h2:lt a y=false:=by
   by_cases e2:j=0
   ·subst e2;rw [Nat.add_zero,hy] at hj;cases hj;exact irr hs _
   ·have:=List.pairwise_iff_getElem.1 hA s (s+j) (by omega) (by omega) (by omega)
    rw [List.getElem?_eq_getElem (by omega)] at hj hy
    rw [Option.some.inj hj,Option.some.inj hy] at this;exact this
  have:=hs.nt _ _ _ (hs.nt _ _ _ h1 hba) h2
  rw [h0] at this;cases this
end
theorem zoo {lt:Mov->Mov->Bool} (hs:SW lt) {L:List Mov} (h:srt lt L) (x:Mov):zl1 lt L x=insL lt x L:=by
 unfold zl1
 generalize hk:zb8 lt x L L.length=k
 have hkl:=zkM lt x L L.length
 have hge:=zkN lt x L L.length
 have hla:=zga lt x L L.length
 rw [hk] at hkl hge hla
 conv=>rhs;rw [<-List.take_append_drop k L]
 refine (zop (λu hu=>?_) λv hv=>?_).symm
 ·cases k with
  | zero=>simp at hu
  | succ k=>
   obtain ⟨z,hz⟩:∃ z,L[k]?=some z:=⟨_,List.getElem?_eq_getElem (by omega)⟩
   have hb:=hla k z rfl hz
   obtain ⟨i,hi⟩:=List.getElem?_of_mem hu
   have hik:=(List.getElem?_eq_some_iff.1 hi).1
   simp only [List.length_take] at hik
   rw [List.getElem?_take,if_pos (by omega)] at hi
   by_cases e:i=k
   ·subst e;rw [hz] at hi;cases hi;exact hb
   ·have:=List.pairwise_iff_getElem.1 h i k (by omega) (by omega) (by omega)
    rw [List.getElem?_eq_getElem (by omega)] at hi hz
    rw [Option.some.inj hi,Option.some.inj hz] at this
    exact hs.nt _ _ _ hb this
 ·rw [List.head?_drop] at hv
  have hlt:=(List.getElem?_eq_some_iff.1 hv).1
  obtain ⟨y,hy,hb⟩:=hge k (Nat.le_refl _) hlt
  rw [hv] at hy;cases hy;exact hb
theorem zjy {lt:Mov->Mov->Bool} (hs:SW lt) (L:List Mov):L.foldl (zl1 lt) []=zfK lt L:=by
 induction L using ziK with
 | h0=>rfl
 | hs L x ih=>rw [List.foldl_append,zcQ,<-ih];exact zoo hs (by rw [ih];exact zcB hs L) x
end Go.Proofs.YtijgimeokgbifaaGreat
