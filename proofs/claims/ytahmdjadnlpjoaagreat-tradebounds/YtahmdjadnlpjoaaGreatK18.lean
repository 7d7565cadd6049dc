/- Contracts of functions that the proof uses, shared by the claims of this seat; no statement of its own. Part 37. No conditions. -/
import Derived.Test.YtahmdjadnlpjoaaGreatK16
set_option linter.all false
set_option maxHeartbeats 8000000
namespace Go.Proofs.YtahmdjadnlpjoaaGreat
open Go.RowKit
set_option maxRecDepth 100000
set_option linter.unusedVariables false
set_option linter.unusedSimpArgs false
set_option maxHeartbeats 2000000
section
variable {α:Type} (lt:α→α→Bool)
def mrg:List α→List α→List α
 | [],B=>B
 | a::A,[]=>a::A
 | a::A,b::B=>if lt b a then b::mrg (a::A) B else a::mrg A (b::B)
termination_by A B=>A.length+B.length
def insL (x:α):List α→List α
 | []=>[x]
 | y::r=>if lt x y then x::y::r else y::insL x r
def isort (L:List α):List α:=L.foldl (fun out x=>insL lt x out) []
structure SW:Prop where
 asym:∀ x y,lt x y=true→lt y x=false
 nt:∀ x y z,lt x y=false→lt y z=false→lt x z=false
abbrev srt (L:List α):Prop:=L.Pairwise fun x y=>lt y x=false
variable {lt}
theorem irr (hs:SW lt) (x:α):lt x x=false:=by
 cases hh:lt x x
 ·rfl
 ·rw [←hs.asym _ _ hh,hh]
theorem zaV (A:List α):mrg lt A []=A:=by cases A<;>simp [mrg]
theorem zaE (B:List α):mrg lt [] B=B:=by simp [mrg]
theorem mrg_t {a b:α} (A B:List α) (h:lt b a=true):mrg lt (a::A) (b::B)=b::mrg lt (a::A) B:=by rw [mrg,if_pos h]
theorem mrg_f {a b:α} (A B:List α) (h:lt b a=false):mrg lt (a::A) (b::B)=a::mrg lt A (b::B):=by rw [mrg,if_neg (by simp [h])]
theorem mem_insL {x z:α}:∀ {L:List α},z ∈ insL lt x L↔z=x∨z ∈ L
 | []=>by simp [insL]
 | y::r=>by
  unfold insL;split
  ·simp
  ·simp only [List.mem_cons,mem_insL]
   constructor
   ·rintro (h|h|h)<;>simp [h]
   ·rintro (h|h|h)<;>simp [h]
theorem insL_srt (hs:SW lt) {x:α}:∀ {L:List α},srt lt L→srt lt (insL lt x L)
 | [],_=>by simp [insL]
 | y::r,h=>by
  have h:=List.pairwise_cons.1 h
  unfold insL;split
  ·rename_i e
   refine List.pairwise_cons.2 ⟨fun z hz=>?_,List.pairwise_cons.2 h⟩
   rcases List.mem_cons.1 hz with rfl|hz
   ·exact hs.asym _ _ e
   ·exact hs.nt _ _ _ (h.1 z hz) (hs.asym _ _ e)
  ·rename_i e
   refine List.pairwise_cons.2 ⟨fun z hz=>?_,insL_srt hs h.2⟩
   rcases mem_insL.1 hz with rfl|hz
   ·simpa using e
   ·exact h.1 z hz
theorem mrg_insL (hs:SW lt) (x:α):∀ (A B:List α),mrg lt A (insL lt x B)=insL lt x (mrg lt A B)
 | [],B=>by rw [zaE,zaE]
 | a::A,[]=>by
  rw [zaV]
  cases h:lt x a with
  | true=>rw [insL,mrg_t _ _ h,zaV,insL,if_pos h]
  | false=>
   rw [insL,mrg_f _ _ h,insL,if_neg (by simp [h])]
   have:=mrg_insL hs x A []
   rw [insL,zaV] at this
   rw [this]
 | a::A,b::B=>by
  cases h:lt b a with
  | true=>
   rw [mrg_t _ _ h]
   cases h2:lt x b with
   | true=>
    have h3:lt x a=true:=by
     cases e:lt x a
     ·have:=hs.nt _ _ _ e (hs.asym _ _ h);rw [h2] at this;cases this
     ·rfl
    rw [insL,if_pos h2,mrg_t _ _ h3,mrg_t _ _ h,insL,if_pos h2]
   | false=>rw [insL,if_neg (by simp [h2]),mrg_t _ _ h,insL,if_neg (by simp [h2]),mrg_insL hs x (a::A) B]
  | false=>
   rw [mrg_f _ _ h]
   have ih:=mrg_insL hs x A (b::B)
   cases h2:lt x b with
   | true=>
    rw [insL,if_pos h2] at ih ⊢
    cases h3:lt x a with
    | true=>rw [mrg_t _ _ h3,mrg_f _ _ h,insL,if_pos h3]
    | false=>rw [mrg_f _ _ h3,ih,insL.eq_2,if_neg (by simp [h3])]
   | false=>
    rw [insL,if_neg (by simp [h2])] at ih ⊢
    have h3:=hs.nt _ _ _ h2 h
    rw [mrg_f _ _ h,ih,insL.eq_2,if_neg (by simp [h3])]
termination_by A B=>A.length+B.length
theorem isort_snoc (L:List α) (x:α):isort lt (L++[x])=insL lt x (isort lt L):=by rw [isort,List.foldl_append];rfl
theorem rev_ind {P:List α→Prop} (h0:P []) (hs:∀ L x,P L→P (L++[x])) (L:List α):P L:=by
 rw [←List.reverse_reverse L]
 generalize L.reverse=R
 induction R with
 | nil=>exact h0
 | cons x r ih=>rw [List.reverse_cons];exact hs _ _ ih
theorem isort_app (hs:SW lt) (A B:List α):isort lt (A++B)=mrg lt (isort lt A) (isort lt B):=by
 induction B using rev_ind with
 | h0=>rw [List.append_nil,show isort lt ([]:List α)=[] from rfl,zaV]
 | hs L x ih=>rw [←List.append_assoc,isort_snoc,isort_snoc,mrg_insL hs,ih]
theorem isort_srt (hs:SW lt) (L:List α):srt lt (isort lt L):=by
 induction L using rev_ind with
 | h0=>exact List.Pairwise.nil
 | hs L x ih=>rw [isort_snoc];exact insL_srt hs ih
theorem mrg_len:∀ A B:List α,(mrg lt A B).length=A.length+B.length
 | [],B=>by rw [zaE];simp
 | a::A,[]=>by rw [zaV];rfl
 | a::A,b::B=>by
  cases h:lt b a with
  | true=>rw [mrg_t _ _ h,List.length_cons,mrg_len (a::A) B];simp only [List.length_cons];omega
  | false=>rw [mrg_f _ _ h,List.length_cons,mrg_len A (b::B)];simp only [List.length_cons];omega
termination_by A B=>A.length+B.length
theorem insL_at {x:α}:∀ {U V:List α},(∀ u ∈ U,lt x u=false)→(∀ v ∈ V.head?,lt x v=true)→insL lt x (U++V)=U++x::V
 | [],[],_,_=>rfl
 | [],v::V,_,h=>by rw [List.nil_append,insL,if_pos (h v (by simp))];rfl
 | u::U,V,h,hv=>by rw [List.cons_append,insL,if_neg (by simp [h u (by simp)]),insL_at (fun w hw=>h w (by simp [hw])) hv];rfl
theorem zaP:∀ (A1 A2 B1 B2:List α),(∀ a ∈ A1,∀ b ∈ B2,lt b a=false)→(∀ b ∈ B1,∀ a ∈ A2,lt b a=true)→mrg lt (A1++A2) (B1++B2)=mrg lt A1 B1++mrg lt A2 B2
 | [],[],B1,B2,_,_=>by simp [zaE]
 | [],a::A2,[],B2,_,_=>by simp [zaE]
 | [],a::A2,b::B1,B2,h1,h2=>by
  have ih:=zaP [] (a::A2) B1 B2 (by simp) (fun b hb=>h2 b (by simp [hb]))
  rw [List.nil_append,List.cons_append,mrg_t _ _ (h2 b (by simp) a (by simp)),zaE]
  rw [List.nil_append,zaE] at ih
  rw [ih];rfl
 | a::A1,A2,[],[],_,_=>by simp [zaV]
 | a::A1,A2,[],b::B2,h1,h2=>by
  have ih:=zaP A1 A2 [] (b::B2) (fun a ha=>h1 a (by simp [ha])) (by simp)
  rw [List.nil_append,List.cons_append,mrg_f _ _ (h1 a (by simp) b (by simp)),zaV]
  rw [List.nil_append,zaV] at ih
  rw [ih];rfl
 | a::A1,A2,b::B1,B2,h1,h2=>by
  rw [List.cons_append,List.cons_append]
  cases h:lt b a with
  | true=>
   have ih:=zaP (a::A1) A2 B1 B2 h1 (fun b hb=>h2 b (by simp [hb]))
   rw [mrg_t _ _ h,mrg_t _ _ h]
   rw [List.cons_append] at ih
   rw [ih];rfl
  | false=>
   have ih:=zaP A1 A2 (b::B1) B2 (fun a ha=>h1 a (by simp [ha])) h2
   rw [mrg_f _ _ h,mrg_f _ _ h]
   rw [List.cons_append] at ih
   rw [ih];rfl
termination_by A1 _ B1 _=>A1.length+B1.length
theorem low_all (hs:SW lt) {A B:List α} (hA:srt lt A) (hB:srt lt B) {s e:Nat} (hsl:s≤A.length) (h:∀ a b,A[s - 1]?=some a→B[e]?=some b→0 < s→lt b a=false):∀ a ∈ A.take s,∀ b ∈ B.drop e,lt b a=false:=by
 intro a ha b hb
 obtain ⟨i,hi⟩:=List.getElem?_of_mem ha
 obtain ⟨j,hj⟩:=List.getElem?_of_mem hb
 have hil:=(List.getElem?_eq_some_iff.1 hi).1
 simp only [List.length_take] at hil
 rw [List.getElem?_take,if_pos (by omega)] at hi
 rw [List.getElem?_drop] at hj
 have hjl:=(List.getElem?_eq_some_iff.1 hj).1
 obtain ⟨x,hx⟩:∃ x,A[s - 1]?=some x:=⟨_,List.getElem?_eq_getElem (by omega)⟩
 obtain ⟨y,hy⟩:∃ y,B[e]?=some y:=⟨_,List.getElem?_eq_getElem (by omega)⟩
 have h0:=h x y hx hy (by omega)
 have h1:lt x a=false:=by
  by_cases ei:i=s - 1
  ·rw [←ei,hi] at hx;cases hx;exact irr hs _
  ·have:=List.pairwise_iff_getElem.1 hA i (s - 1) (by omega) (by omega) (by omega)
   rw [List.getElem?_eq_getElem (by omega)] at hi hx
   rw [Option.some.inj hi,Option.some.inj hx] at this;exact this
 have h2:lt b y=false:=by
  by_cases e2:j=0
  ·subst e2;rw [Nat.add_zero,hy] at hj;cases hj;exact irr hs _
  ·have:=List.pairwise_iff_getElem.1 hB e (e+j) (by omega) (by omega) (by omega)
   rw [List.getElem?_eq_getElem (by omega)] at hj hy
   rw [Option.some.inj hj,Option.some.inj hy] at this;exact this
 exact hs.nt _ _ _ (hs.nt _ _ _ h2 h0) h1
theorem high_all (hs:SW lt) {A B:List α} (hA:srt lt A) (hB:srt lt B) {s e:Nat} (hel:e≤B.length) (h:∀ a b,A[s]?=some a→B[e - 1]?=some b→0 < e→lt b a=true):∀ b ∈ B.take e,∀ a ∈ A.drop s,lt b a=true:=by
 intro b hb a ha
 cases hba:lt b a with
 | true=>rfl
 | false=>
  exfalso
  obtain ⟨i,hi⟩:=List.getElem?_of_mem hb
  obtain ⟨j,hj⟩:=List.getElem?_of_mem ha
  have hil:=(List.getElem?_eq_some_iff.1 hi).1
  simp only [List.length_take] at hil
  rw [List.getElem?_take,if_pos (by omega)] at hi
  rw [List.getElem?_drop] at hj
  have hjl:=(List.getElem?_eq_some_iff.1 hj).1
  obtain ⟨x,hx⟩:∃ x,B[e - 1]?=some x:=⟨_,List.getElem?_eq_getElem (by omega)⟩
  obtain ⟨y,hy⟩:∃ y,A[s]?=some y:=⟨_,List.getElem?_eq_getElem (by omega)⟩
  have h0:=h y x hy hx (by omega)
  have h1:lt x b=false:=by
   by_cases e2:i=e - 1
   ·rw [←e2,hi] at hx;cases hx;exact irr hs _
   ·have:=List.pairwise_iff_getElem.1 hB i (e - 1) (by omega) (by omega) (by omega)
    rw [List.getElem?_eq_getElem (by omega)] at hi hx
    rw [Option.some.inj hi,Option.some.inj hx] at this;exact this
  have h2:lt a y=false:=by
   by_cases e2:j=0
   ·subst e2;rw [Nat.add_zero,hy] at hj;cases hj;exact irr hs _
   ·have:=List.pairwise_iff_getElem.1 hA s (s+j) (by omega) (by omega) (by omega)
    rw [List.getElem?_eq_getElem (by omega)] at hj hy
    rw [Option.some.inj hj,Option.some.inj hy] at this;exact this
  have:=hs.nt _ _ _ (hs.nt _ _ _ h1 hba) h2
  rw [h0] at this;cases this
end
theorem insM_insL {lt:Mov→Mov→Bool} (hs:SW lt) {L:List Mov} (h:srt lt L) (x:Mov):insM lt L x=insL lt x L:=by
 unfold insM
 generalize hk:insAt lt x L L.length=k
 have hkl:=insAt_le lt x L L.length
 have hge:=insAt_ge lt x L L.length
 have hla:=insAt_last lt x L L.length
 rw [hk] at hkl hge hla
 conv=>rhs;rw [←List.take_append_drop k L]
 refine (insL_at (fun u hu=>?_) fun v hv=>?_).symm
 ·cases k with
  | zero=>simp at hu
  | succ k=>
   obtain ⟨z,hz⟩:∃ z,L[k]?=some z:=⟨_,List.getElem?_eq_getElem (by omega)⟩
   have hb:=hla k z rfl hz
   obtain ⟨i,hi⟩:=List.getElem?_of_mem hu
   have hik:=(List.getElem?_eq_some_iff.1 hi).1
   simp only [List.length_take] at hik
   rw [List.getElem?_take,if_pos (by omega)] at hi
   by_cases e:i=k
   ·subst e;rw [hz] at hi;cases hi;exact hb
   ·have:=List.pairwise_iff_getElem.1 h i k (by omega) (by omega) (by omega)
    rw [List.getElem?_eq_getElem (by omega)] at hi hz
    rw [Option.some.inj hi,Option.some.inj hz] at this
    exact hs.nt _ _ _ hb this
 ·rw [List.head?_drop] at hv
  have hlt:=(List.getElem?_eq_some_iff.1 hv).1
  obtain ⟨y,hy,hb⟩:=hge k (Nat.le_refl _) hlt
  rw [hv] at hy;cases hy;exact hb
theorem foldM_isort {lt:Mov→Mov→Bool} (hs:SW lt) (L:List Mov):L.foldl (insM lt) []=isort lt L:=by
 induction L using rev_ind with
 | h0=>rfl
 | hs L x ih=>rw [List.foldl_append,isort_snoc,←ih];exact insM_insL hs (by rw [ih];exact isort_srt hs L) x
set_option maxRecDepth 100000
set_option linter.unusedVariables false
set_option linter.unusedSimpArgs false
set_option maxHeartbeats 8000000
def bfC (c:Mov→Mov→Int) (x y:Mov):Bool:=decide (c x y < 0)
def mgC (c:Mov→Mov→Int) (L:List Mov) (k:Nat):List Mov:=(L.take k).foldl (insM (bfC c)) []
def zag (c:Mov→Mov→Int) (L:List Mov):List Mov:=L.foldl (insM (bfC c)) []
theorem mgC_len {c:Mov→Mov→Int} {L:List Mov} {k:Nat} (h:k≤L.length):(mgC c L k).length=k:=by
 have:=(foldl_perm (bfC c) (L.take k) []).length_eq
 rw [mgC,this];simp;omega
theorem mgC_next {c:Mov→Mov→Int} {L:List Mov} {k:Nat} {x:Mov} (h:L[k]?=some x):mgC c L (k+1)=insM (bfC c) (mgC c L k) x:=by
 rw [mgC,List.take_add_one,h,List.foldl_append];rfl
theorem zaa (c:Mov→Mov→Int) (L:List Mov):(zag c L).length=L.length:=by
 have:=(foldl_perm (bfC c) L []).length_eq
 rw [zag,this];simp
def datC (c:Mov→Mov→Int) (L:List Mov) (k:Nat):List Mov:=mgC c L k++L.drop k
theorem datC_len {c:Mov→Mov→Int} {L:List Mov} {k:Nat} (h:k≤L.length∨k=1):(datC c L k).length=L.length:=by
 rcases L with _|⟨x,r⟩
 ·rcases h with h|h<;>(try simp at h)<;>subst h<;>simp [datC,mgC]
 ·rw [datC,List.length_append,mgC_len (by rcases h with h|h<;>simp at *<;>omega),List.length_drop]
  rcases h with h|h<;>simp at *<;>omega
theorem datC_1 (c:Mov→Mov→Int) (L:List Mov):datC c L 1=L:=by
 rcases L with _|⟨x,r⟩<;>simp [datC,mgC,insM,insAt]
theorem datC_end (c:Mov→Mov→Int) (L:List Mov) {k:Nat} (h:L.length≤k):datC c L k=zag c L:=by
 rw [datC,mgC,List.take_of_length_le h,List.drop_eq_nil_of_le h,List.append_nil];rfl
def dj (out:List Mov) (x:Mov) (rest:List Mov) (j:Nat):List Mov:=out.take j++x::(out.drop j++rest)
theorem dj_len {out:List Mov} {x:Mov} {rest:List Mov} {j:Nat} (h:j≤out.length):(dj out x rest j).length=out.length+1+rest.length:=by
 simp [dj];omega
theorem dj_start {c:Mov→Mov→Int} {L:List Mov} {i:Nat} {x:Mov} (h:L[i]?=some x):dj (mgC c L i) x (L.drop (i+1)) i=datC c L i:=by
 have hi:=(List.getElem?_eq_some_iff.1 h).1
 have hl:=mgC_len (c:=c) (L:=L) (k:=i) (by omega)
 rw [dj,datC,List.take_of_length_le (by omega),List.drop_eq_nil_of_le (by omega),List.nil_append,List.drop_eq_getElem_cons hi,(List.getElem?_eq_some_iff.1 h).2]
theorem dj_stop {c:Mov→Mov→Int} {L:List Mov} {i j:Nat} {x:Mov} (h:L[i]?=some x) (hj:j=insAt (bfC c) x (mgC c L i) i):dj (mgC c L i) x (L.drop (i+1)) j=datC c L (i+1):=by
 have hi:=(List.getElem?_eq_some_iff.1 h).1
 rw [datC,mgC_next h,insM,mgC_len (by omega),←hj,dj];simp
theorem dj_at {out:List Mov} {x y:Mov} {rest:List Mov} {j:Nat} (h:out[j]?=some y):(dj out x rest (j+1))[j]?=some y∧(dj out x rest (j+1))[j+1]?=some x:=by
 have hj:=(List.getElem?_eq_some_iff.1 h).1
 have hl:(out.take j).length=j:=by simp;omega
 rw [dj,List.take_add_one,h,List.append_assoc]
 refine ⟨?_,?_⟩
 ·rw [List.getElem?_append_right (by omega),hl];simp
 ·rw [List.getElem?_append_right (by omega),hl];simp
theorem dj_swap {out:List Mov} {x y:Mov} {rest:List Mov} {j:Nat} (h:out[j]?=some y):((dj out x rest (j+1)).set (j+1) y).set j x=dj out x rest j:=by
 have hj:=(List.getElem?_eq_some_iff.1 h).1
 have hl:(out.take j).length=j:=by simp;omega
 have hd:out.drop j=y::out.drop (j+1):=by rw [List.drop_eq_getElem_cons hj,(List.getElem?_eq_some_iff.1 h).2]
 rw [dj,dj,List.take_add_one,h,hd,List.append_assoc,List.set_append_right _ _ (by omega),hl,List.set_append_right _ _ (by omega),hl]
 simp
theorem insC_stop {c:Mov→Mov→Int} {x:Mov} {out:List Mov} {q:Nat} {y:Mov} (hy:out[q]?=some y) (hb:¬c x y < 0):insAt (bfC c) x out (q+1)=q+1:=by
 simp only [insAt,hy];rw [if_neg (by simp [bfC];omega)]
theorem insC_go {c:Mov→Mov→Int} {x:Mov} {out:List Mov} {q:Nat} {y:Mov} (hy:out[q]?=some y) (hb:c x y < 0):insAt (bfC c) x out (q+1)=insAt (bfC c) x out q:=by
 simp only [insAt,hy];rw [if_pos (by simp [bfC];omega)]
end Go.Proofs.YtahmdjadnlpjoaaGreat
