/- The statement TradeLeases of chapter 8 (trade) holds of the given program: Lend, Recall and Share return the books or the errors of the reference. No conditions. -/
import Derived.ProofKit
import Derived.OpenShut
import Derived.Carry
import Derived.OpenVars
import Derived.HandedShaped
import Derived.KernelRfl
import Derived.Laws.RangeAny
import Derived.Test.YtahmdjadnlpjoaaGreatRows
import Derived.Test.YtahmdjadnlpjoaaGreatL2
set_option linter.all false
set_option maxHeartbeats 8000000
namespace Go.Proofs.YtahmdjadnlpjoaaGreat
open Go.RowKit
set_option maxRecDepth 100000
set_option linter.unusedVariables false
set_option linter.unusedSimpArgs false
set_option maxHeartbeats 8000000
theorem pure1058 (b:Bk) (c n to:ByteArray) (hb:BkOk b) (hs:∀ s ∈ b.slots,s.sh.length≤4):Pure Tryz.prog 67 [b.pv,.s c,.s n,.s to] (.tup [(shB b c n to).pv,.i .i64 (shC b c n to)]):=by
 refine zat (r:=if shC b c n to=0 then .tup [(chgB b n (shS (zo b n) to)).pv,.i .i64 0] else .tup [.agg [.nilsl,.nilsl],.i .i64 (shC b c n to)]) ?_ ?_
 ·refine zf (cF Tryz.func67 Tryz.f67.eq_1) (by simp) fun hw X hX=>?_
  by_cases hown:ownE b c n (zaH to)=0
  ·obtain ⟨h1,h2,h3,h4⟩:=za8 hown
   obtain ⟨hI,hlt⟩:=ownI_eq hown
   have hC:shC b c n to=shE (zo b n) to:=by rw [shC,chgC,za3 hown,fE_one]
   have hsl:=hs _ (List.mem_of_getElem? h2)
   generalize hso:zo b n=s at h2 h3 hC hsl
   have ht0:=eq_true hown
   by_cases ht:to=c
   ·have e:shC b c n to=31:=by rw [hC,shE,za2 (by rw [if_pos (ht.trans h3.symm)];omega),if_pos (ht.trans h3.symm)]
    have ht':=eq_true ht
    rw [e,if_neg (by omega)]
    have qe:=aI qR (aI @hI (aI @h2 (aI @ht0 (aI @ht' (aI @decide_true (aI @decide_false @zbb))))));repeat' first|refine gC (fun hc=>?_) (fun hc=>?_)<;>try contradiction|refine za (pure1133 to) ?_|refine za (pure1127 b c n (zaH to)) ?_|refine zN (fun _=>pure1074 s.sh to) ?_|refine gG ?_|show AK _;intro K H|refine H _ _ ?_;clear H K|refine gJ ?_;try exact trivial|omega
    all_goals exact .refl _
   ·have ht':=eq_false ht
    have hE:shE s to=zg [if 0≤atL to s.sh then 9 else 0,if 4≤(s.sh.length:Int) then 5 else 0]:=by rw [shE,za3 (if_neg (fun k=>ht (k.trans h3)))]
    by_cases hl:0≤atL to s.sh
    ·have e:shC b c n to=9:=by rw [hC,hE,if_pos hl,za2 (by omega)]
     have hl':=eq_true hl
     rw [e,if_neg (by omega)]
     have qe:=aI qR (aI @hI (aI @h2 (aI @ht0 (aI @ht' (aI @hl' (aI @decide_true (aI @decide_false @zbb)))))));repeat' first|refine gC (fun hc=>?_) (fun hc=>?_)<;>try contradiction|refine za (pure1133 to) ?_|refine za (pure1127 b c n (zaH to)) ?_|refine zN (fun _=>pure1074 s.sh to) ?_|refine gG ?_|show AK _;intro K H|refine H _ _ ?_;clear H K|refine gJ ?_;try exact trivial|omega
     all_goals exact .refl _
    ·have hl':=eq_false hl
     by_cases h4l:s.sh.length=4
     ·have e:shC b c n to=5:=by rw [hC,hE,if_neg hl,za3 rfl,if_pos (by omega),fE_one]
      have h4':((s.sh.length:Int)=4)=True:=eq_true (by omega)
      rw [e,if_neg (by omega)]
      have qe:=aI qR (aI @hI (aI @h2 (aI @ht0 (aI @ht' (aI @hl' (aI @h4' (aI @decide_true (aI @decide_false @zbb))))))));repeat' first|refine gC (fun hc=>?_) (fun hc=>?_)<;>try contradiction|refine za (pure1133 to) ?_|refine za (pure1127 b c n (zaH to)) ?_|refine zN (fun _=>pure1074 s.sh to) ?_|refine gG ?_|show AK _;intro K H|refine H _ _ ?_;clear H K|refine gJ ?_;try exact trivial|omega
      all_goals exact .refl _
     ·have e:shC b c n to=0:=by rw [hC,hE,if_neg hl,za3 rfl,if_neg (by omega),fE_one]
      have h4':((s.sh.length:Int)=4)=False:=eq_false (by omega)
      have eA:(s.sh++[to]).map PV.s=s.sh.map PV.s++[PV.s to]:=by simp
      have hP:Pure Tryz.prog 145 [b.pv,.i .i64 (zA b n),slX s (.sl 3 (s.ls.map Lea.pv)) (.sl 1 (s.sh.map PV.s++[PV.s to]))] (setB b (zA b n) (shS s to)).pv:=by
       rw [←eA];exact pure1128 b (zA b n) (shS s to) hlt hb.n
      have hA:=eq_true (allSt s.sh)
      rw [e,if_pos rfl]
      have qe:=aI qR (aI @hI (aI @h2 (aI @ht0 (aI @ht' (aI @hl' (aI @h4' (aI @hA (aI @zaf (aI @decide_true (aI @decide_false @zbb))))))))));repeat' first|refine gC (fun hc=>?_) (fun hc=>?_)<;>try contradiction|refine za (pure1133 to) ?_|refine za (pure1127 b c n (zaH to)) ?_|refine zN (fun _=>pure1074 s.sh to) ?_|refine zam (hP) ?_|refine gG ?_|show AK _;intro K H|refine H _ _ ?_;clear H K|refine gJ ?_;try exact trivial|omega
      all_goals first|exact .refl _
  ·have e:shC b c n to=ownE b c n (zaH to):=by rw [shC,chgC,za2 hown]
   have ht0:=eq_false hown
   rw [e,if_neg hown]
   rcases hsx:b.slots[(ownI b c n).toNat]? with _|sx
   ·have qe:=aI qR (aI @ht0 (aI @hsx (aI @decide_false @Bool.not_false)));repeat' first|refine gC (fun hc=>?_) (fun hc=>?_)<;>try contradiction|refine za (pure1133 to) ?_|refine za (pure1127 b c n (zaH to)) ?_|(show zj _ _ _ _ (⟨_,.call 81,_,_,_⟩::_) _ _;refine run_callF (q:=.b false) (by first|rfl|(simp (disch:=omega) only [qG,qe,Nat.reduceAdd,Nat.reduceMul,Nat.reduceEqDiff,Nat.reduceLeDiff,reduceIte,reduceCtorEq,Nat.reduceBEq,Nat.reduceLT]<;>rfl)) ?_;(try (refine zE ?_)))|refine gG ?_|show AK _;intro K H|refine H _ _ ?_;clear H K|refine gJ ?_;try exact trivial|omega
    all_goals exact .refl _
   ·have qe:=aI qR (aI @ht0 (aI @hsx (aI @decide_false @Bool.not_false)));repeat' first|refine gC (fun hc=>?_) (fun hc=>?_)<;>try contradiction|refine za (pure1133 to) ?_|refine za (pure1127 b c n (zaH to)) ?_|(show zj _ _ _ _ (⟨_,.call 81,_,_,_⟩::_) _ _;refine run_callF (q:=.b false) (by first|rfl|(simp (disch:=omega) only [qG,qe,Nat.reduceAdd,Nat.reduceMul,Nat.reduceEqDiff,Nat.reduceLeDiff,reduceIte,reduceCtorEq,Nat.reduceBEq,Nat.reduceLT]<;>rfl)) ?_;(try (refine zE ?_)))|refine gG ?_|show AK _;intro K H|refine H _ _ ?_;clear H K|refine gJ ?_;try exact trivial|omega
    all_goals exact .refl _
 ·by_cases h:shC b c n to=0
  ·rw [if_pos h,shB,if_pos h,h];exact .refl _
  ·rw [if_neg h,shB_0 h];exact zbw _
theorem any_step {α:Type} {p:α→Bool} {l:List α} {k:Nat} {x:α} (h:l[k]?=some x):(l.take (k+1)).any p=((l.take k).any p || p x):=by
 rw [zan h,List.any_append];simp
def rcI (d:Int) (l:Lea):List Lea:=if recP d l=true then (if l.fro≤d - 1 then [⟨l.carrier,l.fro,d - 1⟩] else []) else if l.fro≤l.to then [l] else []
def rcL (d:Int) (L:List Lea):List Lea:=L.flatMap (rcI d)
theorem rcL_next {d:Int} {L:List Lea} {k:Nat} {x:Lea} (h:L[k]?=some x):rcL d (L.take (k+1))=rcL d (L.take k)++rcI d x:=by
 rw [zan h,rcL,List.flatMap_append];simp [rcL]
theorem rcL_len (d:Int) (L:List Lea):(rcL d L).length≤L.length:=by
 induction L with
 | nil=>simp [rcL]
 | cons x r ih=>
  have:(rcI d x).length≤1:=by unfold rcI;(repeat' split)<;>simp
  simp only [rcL,List.flatMap_cons,List.length_append,List.length_cons] at ih ⊢;omega
def rcE (b:Bk) (c n:ByteArray) (d:Int):Int:=zg [ownE b c n (rng d 0 99999),if (zo b n).ls.any (recP d)=true then 0 else 7]
def rcS (s:Slt) (d:Int):Slt:=⟨s.req,s.holder,rcL d s.ls,s.sh⟩
theorem pure1057 (b:Bk) (c n:ByteArray) (d:Int) (hb:BkOk b):Pure Tryz.prog 66 [b.pv,.s c,.s n,.i .i64 d] (.tup [(if rcE b c n d=0 then chgB b n (rcS (zo b n) d) else bk0).pv,.i .i64 (rcE b c n d)]):=by
 refine zat (r:=if rcE b c n d=0 then .tup [(chgB b n (rcS (zo b n) d)).pv,.i .i64 0] else .tup [.agg [.nilsl,.nilsl],.i .i64 (rcE b c n d)]) ?_ ?_
 ·refine zf (cF Tryz.func66 Tryz.f66.eq_1) (by simp) fun hw X hX=>?_
  by_cases hown:ownE b c n (rng d 0 99999)=0
  ·obtain ⟨h1,h2,h3,h4⟩:=za8 hown
   obtain ⟨hI,hlt⟩:=ownI_eq hown
   have hd:=rng_in (own_e hown)
   have hC:rcE b c n d=if (zo b n).ls.any (recP d)=true then 0 else 7:=by rw [rcE,za3 hown,fE_one]
   have hsl:=(hb.s _ (List.mem_of_getElem? h2)).1
   rw [hC]
   generalize hso:zo b n=s at h2 h3 hC hsl
   have ht0:=eq_true hown
   have qe:=aI qR (aI @hI (aI @h2 (aI @ht0 (aI @decide_true (aI @decide_false @zbb)))));repeat' first|refine gC (fun hc=>?_) (fun hc=>?_)<;>try contradiction|refine za (pure127 d) ?_|refine za (pure1127 b c n (rng d 0 99999)) ?_|refine gG ?_|show AK _;intro K H|refine H _ _ ?_;clear H K|refine gJ ?_;try exact trivial|omega
   refine zaO 100 97 3 [(3,.p (.i .i64 d)),(4,.lp 4 0),(8,.lp 8 0),(10,.p (.i .i64 (zA b n))),(12,.lp 12 0),(13,.row 100 0),(14,.p (.b false)),(15,.p (.i .i64 0))] [(4,.box [.p (.sl 16 (b.slots.map Slt.pv)),.p (.sl 14 (b.wait.map Wsh.pv))] false),(8,.box [.p .nilsl,.p .nilsl] false),(12,.box (s.cells.map .p) false)] ?_ ?_
   ·simp only [Own,zaL,zaB,zbt,zay,qS,Nat.reduceAdd,Nat.reduceMul,Nat.reduceEqDiff,Nat.reduceLeDiff,reduceIte,reduceCtorEq,Nat.reduceBEq,Nat.reduceLT]
   refine zk (κ:=Nat) (fun k=>⟨[(3,.p (.i .i64 d)),(4,.lp 4 0),(8,.lp 8 0),(10,.p (.i .i64 (zA b n))),(12,.lp 12 0),(13,.row 100 (rcL d (s.ls.take k)).length),(14,.p (.b ((s.ls.take k).any (recP d)))),(15,.p (.i .i64 k))],[(4,.box [.p (.sl 16 (b.slots.map Slt.pv)),.p (.sl 14 (b.wait.map Wsh.pv))] false),(8,.box [.p .nilsl,.p .nilsl] false),(12,.box (s.cells.map .p) false),(100,.row 97 3 ((rcL d (s.ls.take k)).map Lea.pv) false)],[],false⟩) (fun k=>k≤s.ls.length) (fun k=>s.ls.length - k) 0 ?_ ?_ ?_
   ·refine gJ ?_;simp [rcL]
   ·simp
   ·intro k hk
    have hl:(rcL d (s.ls.take k)).length≤k:=by have:=rcL_len d (s.ls.take k);rw [List.length_take] at this;omega
    repeat first|refine gG ?_|show AK _;intro K H|refine H _ _ ?_;clear H K|refine gJ ?_;try exact trivial|omega
    (refine gC (fun hc=>?_) (fun hc=>?_)<;>try contradiction)
    ·obtain ⟨x,hx⟩:=zn (i:=k) (l:=s.ls) (by omega)
     have hnx:=rcL_next (d:=d) hx
     have han:=any_step (p:=recP d) hx
     by_cases h5:x.fro≤d
     ·have h5':=eq_true h5
      by_cases h6:d≤x.to
      ·have h6':=eq_true h6
       have hp:recP d x=true:=by simp [recP,h5,h6]
       rw [rcI,if_pos hp] at hnx
       rw [hp,Bool.or_true] at han
       have qe:=aI qR (aI @hx (aI @h5' (aI @h6' @decide_true)));repeat' first|refine gC (fun hc=>?_) (fun hc=>?_)<;>try contradiction|refine gG ?_|show AK _;intro K H|refine H _ _ ?_;clear H K|refine gJ ?_;try exact trivial|omega
       ·rw [if_pos (by omega)] at hnx
        exact ⟨k+1,by omega,by omega,⟨by rw [hnx];simp,by rw [han],by simp⟩,by rw [hnx];simp⟩
       ·rw [if_neg (by omega),List.append_nil] at hnx
        exact ⟨k+1,by omega,by omega,⟨by rw [hnx],by rw [han],by simp⟩,by rw [hnx]⟩
      ·have h6':=eq_false h6
       have hp:recP d x=false:=by simp [recP,h5,h6]
       rw [rcI,if_neg (by rw [hp];exact Bool.false_ne_true)] at hnx
       rw [hp,Bool.or_false] at han
       have qe:=aI qR (aI @hx (aI @h5' (aI @h6' (aI @decide_true @decide_false))));repeat' first|refine gC (fun hc=>?_) (fun hc=>?_)<;>try contradiction|refine gG ?_|show AK _;intro K H|refine H _ _ ?_;clear H K|refine gJ ?_;try exact trivial|omega
       ·rw [if_pos (by omega)] at hnx
        exact ⟨k+1,by omega,by omega,⟨by rw [hnx];simp,by rw [han],by simp⟩,by rw [hnx];simp⟩
       ·rw [if_neg (by omega),List.append_nil] at hnx
        exact ⟨k+1,by omega,by omega,⟨by rw [hnx],by rw [han],by simp⟩,by rw [hnx]⟩
     ·have h5':=eq_false h5
      have hp:recP d x=false:=by simp [recP,h5]
      rw [rcI,if_neg (by rw [hp];exact Bool.false_ne_true)] at hnx
      rw [hp,Bool.or_false] at han
      have qe:=aI qR (aI @hx (aI @h5' (aI @decide_true @decide_false)));repeat' first|refine gC (fun hc=>?_) (fun hc=>?_)<;>try contradiction|refine gG ?_|show AK _;intro K H|refine H _ _ ?_;clear H K|refine gJ ?_;try exact trivial|omega
      ·rw [if_pos (by omega)] at hnx
       exact ⟨k+1,by omega,by omega,⟨by rw [hnx];simp,by rw [han],by simp⟩,by rw [hnx];simp⟩
      ·rw [if_neg (by omega),List.append_nil] at hnx
       exact ⟨k+1,by omega,by omega,⟨by rw [hnx],by rw [han],by simp⟩,by rw [hnx]⟩
    ·have e:k=s.ls.length:=by omega
     subst e
     rw [List.take_length] at hl ⊢
     by_cases hf:s.ls.any (recP d)=true
     ·have hP:=pure1128 b (zA b n) (rcS s d) hlt hb.n
      rw [if_pos hf]
      have qe:=aI qR (aI @h2 (aI @hf @zaf));repeat' first|refine gC (fun hc=>?_) (fun hc=>?_)<;>try contradiction|refine zam (hP) ?_|refine gG ?_|show AK _;intro K H|refine H _ _ ?_;clear H K|refine gJ ?_;try exact trivial|omega
      all_goals first|exact .refl _
     ·have hf':s.ls.any (recP d)=false:=by simpa using hf
      rw [if_neg hf]
      have qe:=aI qR @hf';repeat' first|refine gC (fun hc=>?_) (fun hc=>?_)<;>try contradiction|refine gG ?_|show AK _;intro K H|refine H _ _ ?_;clear H K|refine gJ ?_;try exact trivial|omega
      all_goals exact .refl _
  ·have e:rcE b c n d=ownE b c n (rng d 0 99999):=by rw [rcE,za2 hown]
   have ht0:=eq_false hown
   rw [e,if_neg hown]
   have qe:=aI qR (aI @ht0 (aI @decide_false @Bool.not_false));repeat' first|refine gC (fun hc=>?_) (fun hc=>?_)<;>try contradiction|refine za (pure127 d) ?_|refine za (pure1127 b c n (rng d 0 99999)) ?_|refine gG ?_|show AK _;intro K H|refine H _ _ ?_;clear H K|refine gJ ?_;try exact trivial|omega
   all_goals exact .refl _
 ·by_cases h:rcE b c n d=0
  ·rw [if_pos h,if_pos h,h];exact .refl _
  ·rw [if_neg h,if_neg h];exact zbw _
section
variable {α:Type}
def inF (bf:α→α→Bool) (l:α) (q:Bool × List α) (x:α):Bool × List α:=if q.1=false∧bf l x=true then (true,q.2++[l]++[x]) else (q.1,q.2++[x])
def inK (bf:α→α→Bool) (l:α) (L:List α):Bool × List α:=L.foldl (inF bf l) (false,[])
theorem inK_next {bf:α→α→Bool} {l:α} {L:List α} {k:Nat} {x:α} (h:L[k]?=some x):inK bf l (L.take (k+1))=inF bf l (inK bf l (L.take k)) x:=by
 rw [zan h,inK,List.foldl_append];rfl
theorem inF_len (bf:α→α→Bool) (l:α):∀ (L:List α) (q:Bool × List α),(L.foldl (inF bf l) q).2.length+(if (L.foldl (inF bf l) q).1=true then 0 else 1)=q.2.length+L.length+(if q.1=true then 0 else 1)
 | [],q=>rfl
 | x::r,q=>by
  rw [List.foldl_cons,inF_len bf l r,inF]
  by_cases k:q.1=false∧bf l x=true
  ·rw [if_pos k,k.1];simp;omega
  ·rw [if_neg k];simp only [List.length_append,List.length_cons,List.length_nil];omega
def inR (bf:α→α→Bool) (l:α) (L:List α):List α:=if (inK bf l L).1=true then (inK bf l L).2 else (inK bf l L).2++[l]
theorem inR_len (bf:α→α→Bool) (l:α) (L:List α):(inR bf l L).length=L.length+1:=by
 have h:(inK bf l L).2.length+(if (inK bf l L).1=true then 0 else 1)=0+L.length+1:=inF_len bf l L (false,[])
 rw [inR]
 split
 ·rename_i k;rw [if_pos k] at h;omega
 ·rename_i k;rw [if_neg k] at h;simp;omega
theorem inK_len (bf:α→α→Bool) (l:α) (L:List α):(inK bf l L).2.length≤L.length+1:=by
 have h:(inK bf l L).2.length+(if (inK bf l L).1=true then 0 else 1)=0+L.length+1:=inF_len bf l L (false,[])
 omega
end
def bfLe (l x:Lea):Bool:=decide (l.fro < x.fro)
def lnRS (s:Slt) (l:Lea):Slt:=⟨s.req,s.holder,inR bfLe l s.ls,s.sh⟩
theorem pure1056 (b:Bk) (c n:ByteArray) (l:Lea) (hb:BkOk b):Pure Tryz.prog 65 [b.pv,.s c,.s n,l.pv] (.tup [(if lnC b c n l=0 then chgB b n (lnRS (zo b n) l) else bk0).pv,.i .i64 (lnC b c n l)]):=by
 refine zat (r:=if lnC b c n l=0 then .tup [(chgB b n (lnRS (zo b n) l)).pv,.i .i64 0] else .tup [.agg [.nilsl,.nilsl],.i .i64 (lnC b c n l)]) ?_ ?_
 ·refine zf (cF Tryz.func65 Tryz.f65.eq_1) (by simp) fun hw X hX=>?_
  by_cases hown:ownE b c n (chkLea l)=0
  ·obtain ⟨h1,h2,h3,h4⟩:=za8 hown
   obtain ⟨hI,hlt⟩:=ownI_eq hown
   have hC:lnC b c n l=lnE (zo b n) l:=by rw [lnC,chgC,za3 hown,fE_one]
   have hsl:=(hb.s _ (List.mem_of_getElem? h2)).1
   rw [hC]
   generalize hso:zo b n=s at h2 h3 hC hsl
   have ht0:=eq_true hown
   by_cases hlo:leaOf s.raw l=0
   ·have hlo':=eq_true hlo
    have hlE:lnE s l=zg [if meetL s l=true then 15 else 0,if 8≤(s.ls.length:Int) then 5 else 0]:=by rw [lnE,za3 hlo]
    have qe:=aI qR (aI @hI (aI @h2 (aI @ht0 (aI @hlo' (aI @decide_true (aI @decide_false (aI @Bool.not_true @zbb)))))));repeat' first|refine gC (fun hc=>?_) (fun hc=>?_)<;>try contradiction|refine za (pure1131 l) ?_|refine za (pure1127 b c n (chkLea l)) ?_|refine za (pure1132 s l) ?_|refine gG ?_|show AK _;intro K H|refine H _ _ ?_;clear H K|refine gJ ?_;try exact trivial|omega
    refine zaO 900 97 3 [(4,.lp 4 0),(7,.lp 7 0),(8,.lp 8 0),(10,.p (.i .i64 (zA b n))),(12,.lp 12 0),(13,.row 900 0),(14,.p (.b false)),(15,.p (.i .i64 0))] [(4,.box [.p (.sl 16 (b.slots.map Slt.pv)),.p (.sl 14 (b.wait.map Wsh.pv))] false),(7,.box [.p (.s l.carrier),.p (.i .i64 l.fro),.p (.i .i64 l.to)] false),(8,.box [.p .nilsl,.p .nilsl] false),(12,.box (s.cells.map .p) false)] ?_ ?_
    ·simp only [Own,zaL,zaB,zbt,zay,qS,Nat.reduceAdd,Nat.reduceMul,Nat.reduceEqDiff,Nat.reduceLeDiff,reduceIte,reduceCtorEq,Nat.reduceBEq,Nat.reduceLT]
    refine zk (κ:=Nat) (fun k=>⟨[(4,.lp 4 0),(7,.lp 7 0),(8,.lp 8 0),(10,.p (.i .i64 (zA b n))),(12,.lp 12 0),(13,.row 900 (inK bfLe l (s.ls.take k)).2.length),(14,.p (.b (inK bfLe l (s.ls.take k)).1)),(15,.p (.i .i64 k))],[(4,.box [.p (.sl 16 (b.slots.map Slt.pv)),.p (.sl 14 (b.wait.map Wsh.pv))] false),(7,.box [.p (.s l.carrier),.p (.i .i64 l.fro),.p (.i .i64 l.to)] false),(8,.box [.p .nilsl,.p .nilsl] false),(12,.box (s.cells.map .p) false),(900,.row 97 3 ((inK bfLe l (s.ls.take k)).2.map Lea.pv) false)],[],false⟩) (fun k=>k≤s.ls.length∧∀ y ∈ s.ls.take k,meetB l y=false) (fun k=>s.ls.length - k) 0 ?_ ?_ ?_
    ·refine gJ ?_;simp [inK]
    ·simp
    ·intro k hk
     have hl:(inK bfLe l (s.ls.take k)).2.length≤k+1:=by have:=inK_len bfLe l (s.ls.take k);rw [List.length_take] at this;omega
     repeat first|refine gG ?_|show AK _;intro K H|refine H _ _ ?_;clear H K|refine gJ ?_;try exact trivial|omega
     (refine gC (fun hc=>?_) (fun hc=>?_)<;>try contradiction)
     ·obtain ⟨x,hx⟩:=zn (i:=k) (l:=s.ls) (by omega)
      have hnx:=inK_next (bf:=bfLe) (l:=l) hx
      generalize hq:inK bfLe l (s.ls.take k)=q at hnx hl
      by_cases hm:meetB l x=true
      ·have hL:lnE s l=15:=by
        have:meetL s l=true:=by rw [meetL,List.any_eq_true];exact ⟨x,List.mem_of_getElem? hx,hm⟩
        rw [hlE,if_pos this,za2 (by omega)]
       rw [hL,if_neg (by omega)]
       simp only [meetB,Bool.and_eq_true,decide_eq_true_eq] at hm
       have h5:=eq_true hm.1
       have h6:=eq_true hm.2
       have qe:=aI qR (aI @hx (aI @h5 (aI @h6 @decide_true)));repeat' first|refine gC (fun hc=>?_) (fun hc=>?_)<;>try contradiction|refine gG ?_|show AK _;intro K H|refine H _ _ ?_;clear H K|refine gJ ?_;try exact trivial|omega
       all_goals exact .refl _
      ·have hm':meetB l x=false:=by simpa using hm
       have hnt:=take_no hk.2 hx hm'
       obtain ⟨q1,q2⟩:=q
       simp only at hl hnx
       by_cases h5:x.fro≤l.to
       ·have h6:¬l.fro≤x.to:=fun k=>hm (by simp [meetB,h5,k])
        have h5':=eq_true h5
        have h6':=eq_false h6
        cases q1 with
        | true=>
         rw [inF,if_neg (by simp)] at hnx
         have qe:=aI qR (aI @hx (aI @h5' (aI @h6' (aI @decide_true (aI @decide_false @Bool.not_true)))));repeat' first|refine gC (fun hc=>?_) (fun hc=>?_)<;>try contradiction|refine gG ?_|show AK _;intro K H|refine H _ _ ?_;clear H K|refine gJ ?_;try exact trivial|omega
         all_goals exact ⟨k+1,⟨by omega,hnt⟩,by omega,⟨by rw [hnx];simp,by rw [hnx],by simp⟩,by rw [hnx];simp⟩
        | false=>
         by_cases h7:l.fro < x.fro
         ·have h7':=eq_true h7
          rw [inF,if_pos ⟨rfl,decide_eq_true h7⟩] at hnx
          have qe:=aI qR (aI @hx (aI @h5' (aI @h6' (aI @h7' (aI @decide_true (aI @decide_false @Bool.not_false))))));repeat' first|refine gC (fun hc=>?_) (fun hc=>?_)<;>try contradiction|refine gG ?_|show AK _;intro K H|refine H _ _ ?_;clear H K|refine gJ ?_;try exact trivial|omega
          all_goals exact ⟨k+1,⟨by omega,hnt⟩,by omega,⟨by rw [hnx];simp,by rw [hnx],by simp⟩,by rw [hnx];simp⟩
         ·have h7':=eq_false h7
          rw [inF,if_neg (fun k=>h7 (of_decide_eq_true k.2))] at hnx
          have qe:=aI qR (aI @hx (aI @h5' (aI @h6' (aI @h7' (aI @decide_true (aI @decide_false @Bool.not_false))))));repeat' first|refine gC (fun hc=>?_) (fun hc=>?_)<;>try contradiction|refine gG ?_|show AK _;intro K H|refine H _ _ ?_;clear H K|refine gJ ?_;try exact trivial|omega
          all_goals exact ⟨k+1,⟨by omega,hnt⟩,by omega,⟨by rw [hnx];simp,by rw [hnx],by simp⟩,by rw [hnx];simp⟩
       ·have h5':=eq_false h5
        cases q1 with
        | true=>
         rw [inF,if_neg (by simp)] at hnx
         have qe:=aI qR (aI @hx (aI @h5' (aI @decide_true (aI @decide_false @Bool.not_true))));repeat' first|refine gC (fun hc=>?_) (fun hc=>?_)<;>try contradiction|refine gG ?_|show AK _;intro K H|refine H _ _ ?_;clear H K|refine gJ ?_;try exact trivial|omega
         all_goals exact ⟨k+1,⟨by omega,hnt⟩,by omega,⟨by rw [hnx];simp,by rw [hnx],by simp⟩,by rw [hnx];simp⟩
        | false=>
         by_cases h7:l.fro < x.fro
         ·have h7':=eq_true h7
          rw [inF,if_pos ⟨rfl,decide_eq_true h7⟩] at hnx
          have qe:=aI qR (aI @hx (aI @h5' (aI @h7' (aI @decide_true (aI @decide_false @Bool.not_false)))));repeat' first|refine gC (fun hc=>?_) (fun hc=>?_)<;>try contradiction|refine gG ?_|show AK _;intro K H|refine H _ _ ?_;clear H K|refine gJ ?_;try exact trivial|omega
          all_goals exact ⟨k+1,⟨by omega,hnt⟩,by omega,⟨by rw [hnx];simp,by rw [hnx],by simp⟩,by rw [hnx];simp⟩
         ·have h7':=eq_false h7
          rw [inF,if_neg (fun k=>h7 (of_decide_eq_true k.2))] at hnx
          have qe:=aI qR (aI @hx (aI @h5' (aI @h7' (aI @decide_true (aI @decide_false @Bool.not_false)))));repeat' first|refine gC (fun hc=>?_) (fun hc=>?_)<;>try contradiction|refine gG ?_|show AK _;intro K H|refine H _ _ ?_;clear H K|refine gJ ?_;try exact trivial|omega
          all_goals exact ⟨k+1,⟨by omega,hnt⟩,by omega,⟨by rw [hnx];simp,by rw [hnx],by simp⟩,by rw [hnx];simp⟩
     ·have e:k=s.ls.length:=by omega
      subst e
      have hmL:meetL s l=false:=by
       rw [meetL,List.any_eq_false];intro y hy
       have:=hk.2 y (by rw [List.take_length];exact hy)
       rw [this];exact Bool.false_ne_true
      have hE8:lnE s l=if 8≤(s.ls.length:Int) then 5 else 0:=by rw [hlE,if_neg (by rw [hmL];exact Bool.false_ne_true),za3 rfl,fE_one]
      have hlR:=inR_len bfLe l s.ls
      have hP:=pure1128 b (zA b n) (lnRS s l) hlt hb.n
      have hRS:lnRS s l=⟨s.req,s.holder,inR bfLe l s.ls,s.sh⟩:=rfl
      rw [List.take_length] at hl ⊢
      rw [hE8]
      rw [hRS] at hP
      generalize hq:inK bfLe l s.ls=q at hl
      have hlr:inR bfLe l s.ls=if q.1=true then q.2 else q.2++[l]:=by rw [inR,hq]
      obtain ⟨q1,q2⟩:=q
      simp only at hl hlr
      by_cases h8:8≤(s.ls.length:Int)
      ·rw [if_pos h8,if_neg (by omega)]
       cases q1 with
       | true=>
        rw [if_pos rfl] at hlr
        rw [hlr] at hlR
        have h9:((8:Int) < q2.length)=True:=eq_true (by omega)
        have qe:=aI qR (aI @h9 (aI @decide_true @Bool.not_true));repeat' first|refine gC (fun hc=>?_) (fun hc=>?_)<;>try contradiction|refine gG ?_|show AK _;intro K H|refine H _ _ ?_;clear H K|refine gJ ?_;try exact trivial|omega
        all_goals exact .refl _
       | false=>
        rw [if_neg (by simp)] at hlr
        rw [hlr,List.length_append,List.length_singleton] at hlR
        have h9:((8:Int) < (q2.length:Int)+1)=True:=eq_true (by omega)
        have h9':((8:Int) < ((q2.length+1:Nat):Int))=True:=eq_true (by omega)
        have qe:=aI qR (aI @h9 (aI @h9' (aI @decide_true @Bool.not_false)));repeat' first|refine gC (fun hc=>?_) (fun hc=>?_)<;>try contradiction|refine gG ?_|show AK _;intro K H|refine H _ _ ?_;clear H K|refine gJ ?_;try exact trivial|omega
        all_goals exact .refl _
      ·rw [if_neg h8,if_pos rfl]
       cases q1 with
       | true=>
        rw [if_pos rfl] at hlr
        rw [hlr] at hlR
        have h9:((8:Int) < q2.length)=False:=eq_false (by omega)
        rw [hlr] at hP
        rw [hRS,hlr]
        have qe:=aI qR (aI @h2 (aI @h9 (aI @zaf (aI @decide_false @Bool.not_true))));repeat' first|refine gC (fun hc=>?_) (fun hc=>?_)<;>try contradiction|refine zam (hP) ?_|refine gG ?_|show AK _;intro K H|refine H _ _ ?_;clear H K|refine gJ ?_;try exact trivial|omega
        all_goals first|exact .refl _
       | false=>
        rw [if_neg (by simp)] at hlr
        rw [hlr,List.length_append,List.length_singleton] at hlR
        have h9:((8:Int) < (q2.length:Int)+1)=False:=eq_false (by omega)
        have h9':((8:Int) < ((q2.length+1:Nat):Int))=False:=eq_false (by omega)
        have eA:(q2++[l]).map Lea.pv=q2.map Lea.pv++[l.pv]:=by simp
        have hP2:Pure Tryz.prog 145 [b.pv,.i .i64 (zA b n),slX s (.sl 3 (q2.map Lea.pv++[l.pv])) (.sl 1 (s.sh.map .s))] (setB b (zA b n) ⟨s.req,s.holder,q2++[l],s.sh⟩).pv:=by
         rw [←eA];exact pure1128 b (zA b n) ⟨s.req,s.holder,q2++[l],s.sh⟩ hlt hb.n
        rw [hRS,hlr]
        have qe:=aI qR (aI @h2 (aI @h9 (aI @h9' (aI @zaf (aI @decide_false @Bool.not_false)))));repeat' first|refine gC (fun hc=>?_) (fun hc=>?_)<;>try contradiction|refine zam (hP2) ?_|refine gG ?_|show AK _;intro K H|refine H _ _ ?_;clear H K|refine gJ ?_;try exact trivial|omega
        all_goals first|exact .refl _
   ·have hlo':=eq_false hlo
    have hL:lnE s l=leaOf s.raw l:=by rw [lnE,za2 hlo]
    rw [hL,if_neg hlo]
    have qe:=aI qR (aI @hI (aI @h2 (aI @ht0 (aI @hlo' (aI @decide_true (aI @decide_false (aI @Bool.not_false @zbb)))))));repeat' first|refine gC (fun hc=>?_) (fun hc=>?_)<;>try contradiction|refine za (pure1131 l) ?_|refine za (pure1127 b c n (chkLea l)) ?_|refine za (pure1132 s l) ?_|refine gG ?_|show AK _;intro K H|refine H _ _ ?_;clear H K|refine gJ ?_;try exact trivial|omega
    all_goals exact .refl _
  ·have e:lnC b c n l=ownE b c n (chkLea l):=by rw [lnC,chgC,za2 hown]
   have ht0:=eq_false hown
   rw [e,if_neg hown]
   have qe:=aI qR (aI @ht0 (aI @decide_false @Bool.not_false));repeat' first|refine gC (fun hc=>?_) (fun hc=>?_)<;>try contradiction|refine za (pure1131 l) ?_|refine za (pure1127 b c n (chkLea l)) ?_|refine gG ?_|show AK _;intro K H|refine H _ _ ?_;clear H K|refine gJ ?_;try exact trivial|omega
   all_goals exact .refl _
 ·by_cases h:lnC b c n l=0
  ·rw [if_pos h,if_pos h,h];exact .refl _
  ·rw [if_neg h,if_neg h];exact zbw _
set_option maxRecDepth 100000
set_option linter.unusedVariables false
set_option linter.unusedSimpArgs false
set_option maxHeartbeats 4000000
theorem pw_adj {α:Type} {R:α→α→Prop} (tr:∀ a b c,R a b→R b c→R a c):∀ {L:List α},(∀ i x y,L[i]?=some x→L[i+1]?=some y→R x y)→L.Pairwise R
 | [],_=>.nil
 | [x],_=>by simp
 | x::y::r,h=>by
  have ih:(y::r).Pairwise R:=pw_adj tr fun i a b h1 h2=>h (i+1) a b (by simpa using h1) (by simpa using h2)
  refine List.pairwise_cons.2 ⟨fun z hz=>?_,ih⟩
  have hxy:=h 0 x y rfl rfl
  rcases List.mem_cons.1 hz with rfl|hz
  ·exact hxy
  ·exact tr _ _ _ hxy (List.rel_of_pairwise_cons ih hz)
def leLt (a b:Lea):Prop:=a.fro≤a.to∧a.to < b.fro∧b.fro≤b.to
theorem chkLea_le {l:Lea} (h:chkLea l=0):l.fro≤l.to:=by
 have:=fE0 h (if l.to < l.fro then 11 else 0) (by simp)
 by_cases k:l.to < l.fro
 ·rw [if_pos k] at this;omega
 ·omega
theorem slt_lea {s:Slt} (h:chkSlt s=0) {i:Nat} {x:Lea} (hx:s.ls[i]?=some x):leaErr s i x=0:=mapIdx_0 (fE0 h (zg (s.ls.mapIdx (leaErr s))) (by simp)) hx
theorem slt_le {s:Slt} (h:chkSlt s=0) {x:Lea} (hx:x ∈ s.ls):x.fro≤x.to:=by
 obtain ⟨i,hi⟩:=List.mem_iff_getElem?.1 hx
 exact chkLea_le (fE0 (slt_lea h hi) _ (by simp))
theorem slt_pw {s:Slt} (h:chkSlt s=0):s.ls.Pairwise leLt:=by
 refine pw_adj (fun a b c h1 h2=>?_) fun i x y hx hy=>?_
 ·simp only [leLt] at *;omega
 ·have h1:=slt_le h (List.mem_of_getElem? hx)
  have h2:=slt_le h (List.mem_of_getElem? hy)
  have:=fE0 (slt_lea h hy) (if 0 < ((i+1:Nat):Int)∧y.fro≤((s.ls[i+1 - 1]?).getD y).to then 15 else 0) (by simp)
  have e:(s.ls[i+1 - 1]?).getD y=x:=by rw [Nat.add_sub_cancel,hx];rfl
  rw [e] at this
  by_cases k:0 < ((i+1:Nat):Int)∧y.fro≤x.to
  ·rw [if_pos k] at this;omega
  ·exact ⟨h1,by omega,h2⟩
theorem idxF_spec {α:Type} {p:α→Bool}:∀ {l:List α},(idxF p l < 0∧∀ x ∈ l,p x=false)∨∃ k x,idxF p l=(k:Nat)∧l[k]?=some x∧p x=true∧∀ y ∈ l.take k,p y=false
 | []=>.inl ⟨by simp [idxF],by simp⟩
 | x::r=>by
  by_cases h:p x=true
  ·refine .inr ⟨0,x,?_,rfl,h,by simp⟩
   exact idxF_hit (i:=0) (by simp) rfl h
  ·have h':p x=false:=by simpa using h
   rcases idxF_spec (p:=p) (l:=r) with ⟨h1,h2⟩|⟨k,y,h1,h2,h3,h4⟩
   ·have ha:∀ y ∈ x::r,p y=false:=fun y hy=>by
     rcases List.mem_cons.1 hy with rfl|hy
     ·exact h'
     ·exact h2 y hy
    exact .inl ⟨by rw [idxF_end ha];omega,ha⟩
   ·refine .inr ⟨k+1,y,?_,by simpa using h2,h3,?_⟩
    ·refine idxF_hit (i:=k+1) (fun z hz=>?_) (by simpa using h2) h3
     rw [List.take_succ_cons] at hz
     rcases List.mem_cons.1 hz with rfl|hz
     ·exact h'
     ·exact h4 z hz
    ·intro z hz
     rw [List.take_succ_cons] at hz
     rcases List.mem_cons.1 hz with rfl|hz
     ·exact h'
     ·exact h4 z hz
theorem rcI_not {d:Int} {x:Lea} (h:recP d x=false) (hx:x.fro≤x.to):rcI d x=[x]:=by
 rw [rcI,if_neg (by rw [h];exact Bool.false_ne_true),if_pos hx]
theorem rcL_id {d:Int}:∀ {L:List Lea},(∀ x ∈ L,recP d x=false∧x.fro≤x.to)→rcL d L=L
 | [],_=>rfl
 | x::r,h=>by
  have h1:=h x (by simp)
  have ih:rcL d r=r:=rcL_id fun y hy=>h y (by simp [hy])
  rw [rcL,List.flatMap_cons,rcI_not h1.1 h1.2]
  rw [rcL] at ih
  rw [ih];rfl
theorem rec_eq {s:Slt} (h:chkSlt s=0) (d:Int):(if s.ls.any (recP d)=true then 0 else 7)=recE s d∧(s.ls.any (recP d)=true→rcL d s.ls=recL s d):=by
 have hI:recI s d=idxF (recP d) s.ls:=rfl
 rcases idxF_spec (p:=recP d) (l:=s.ls) with ⟨h1,h2⟩|⟨k,x,h1,h2,h3,h4⟩
 ·have ha:s.ls.any (recP d)=false:=by
   rw [List.any_eq_false];intro y hy
   rw [h2 y hy];exact Bool.false_ne_true
  rw [ha,recE,hI,if_pos h1]
  exact ⟨rfl,fun k=>by cases k⟩
 ·have ha:s.ls.any (recP d)=true:=by rw [List.any_eq_true];exact ⟨x,List.mem_of_getElem? h2,h3⟩
  rw [ha,if_pos rfl,recE,hI,h1,if_neg (by omega)]
  refine ⟨rfl,fun _=>?_⟩
  have hk:k < s.ls.length:=(List.getElem?_eq_some_iff.1 h2).1
  have hp:=slt_pw h
  have hspl:s.ls=s.ls.take k++x::s.ls.drop (k+1):=by
   have:=List.take_append_drop k s.ls
   rw [List.drop_eq_getElem_cons hk] at this
   have e:s.ls[k]=x:=by rw [List.getElem?_eq_getElem hk] at h2;exact Option.some.inj h2
   rw [e] at this;exact this.symm
  have hdx:=h3
  simp only [recP,Bool.and_eq_true,decide_eq_true_eq] at hdx
  have hle:∀ y ∈ s.ls,y.fro≤y.to:=fun y hy=>slt_le h hy
  have hA:rcL d (s.ls.take k)=s.ls.take k:=rcL_id fun y hy=>⟨h4 y hy,hle y (List.mem_of_mem_take hy)⟩
  have hB:rcL d (s.ls.drop (k+1))=s.ls.drop (k+1):=by
   refine rcL_id fun y hy=>⟨?_,hle y (List.mem_of_mem_drop hy)⟩
   rw [hspl] at hp
   have h5:=(List.pairwise_append.1 hp).2.1
   have h6:=List.rel_of_pairwise_cons h5 hy
   simp only [leLt] at h6
   simp only [recP,Bool.and_eq_false_iff,decide_eq_false_iff_not]
   omega
  have hC:cutL (d - 1) ((s.ls.take (k+1)).drop k)=rcI d x:=by
   have e:(s.ls.take (k+1)).drop k=[x]:=by
    rw [zan h2,List.drop_append_of_le_length (by rw [List.length_take];omega),List.drop_eq_nil_of_le (by rw [List.length_take];omega)];rfl
   rw [e,cutL,List.flatMap_cons,List.flatMap_nil,List.append_nil,cutI,rcI,if_pos h3]
   have hm:min x.to (d - 1)=d - 1:=by omega
   rw [cutE,hm]
   by_cases h7:x.fro≤d - 1
   ·rw [if_pos (.inr h7),if_pos h7]
   ·rw [if_neg (by omega),if_neg h7]
  rw [recL,hI,h1,Int.toNat_natCast,hC]
  conv=>lhs;rw [hspl]
  rw [rcL,List.flatMap_append,List.flatMap_cons]
  rw [rcL] at hA hB
  rw [hA,hB]
theorem ins_at {α:Type} {bef:α→α→Bool} {x:α} {A B:List α} (hA:∀ y ∈ A,bef x y=false) (hB:∀ y ∈ B,bef x y=true):insMP bef (A++B) x=A++x::B:=by
 have hle:=insAt_leP bef x (A++B) (A++B).length
 have h1:zbB bef x (A++B) (A++B).length=A.length:=by
  generalize hn:zbB bef x (A++B) (A++B).length=n at hle
  rcases Nat.lt_trichotomy n A.length with h|h|h
  ·obtain ⟨y,hy,hb⟩:=insAt_geP bef x (A++B) (A++B).length n (by omega) (by rw [List.length_append];omega)
   rw [List.getElem?_append_left h] at hy
   rw [hA y (List.mem_of_getElem? hy)] at hb;cases hb
  ·exact h
  ·obtain ⟨k,rfl⟩:∃ k,n=k+1:=⟨n - 1,by omega⟩
   rw [List.length_append] at hle
   obtain ⟨y,hy⟩:=zn (i:=k - A.length) (l:=B) (by omega)
   have hy':(A++B)[k]?=some y:=by rw [List.getElem?_append_right (by omega)];exact hy
   have:=insAt_lastP bef x (A++B) _ k y hn hy'
   rw [hB y (List.mem_of_getElem? hy)] at this;cases this
 rw [insMP,h1];simp
theorem sort_id {α:Type} {c:α→α→Int}:∀ (L out:List α),(out++L).Pairwise (fun a b=>¬c b a < 0)→L.foldl (insMP (bfCP c)) out=out++L
 | [],out,_=>by simp
 | x::r,out,h=>by
  have hx:insMP (bfCP c) out x=out++[x]:=by
   have:=ins_at (bef:=bfCP c) (x:=x) (A:=out) (B:=[]) (fun y hy=>decide_eq_false ((List.pairwise_append.1 h).2.2 y hy x (by simp))) (by simp)
   rwa [List.append_nil] at this
  rw [List.foldl_cons,hx,sort_id r (out++[x]) (by rw [List.append_assoc];exact h),List.append_assoc];rfl
theorem inK_tail {α:Type} (bf:α→α→Bool) (l:α):∀ (B:List α) (out:List α),B.foldl (inF bf l) (true,out)=(true,out++B)
 | [],out=>by simp
 | x::r,out=>by
  rw [List.foldl_cons,inF,if_neg (by simp),inK_tail bf l r];simp
theorem inK_head {α:Type} (bf:α→α→Bool) (l:α):∀ (A:List α) (out:List α),(∀ y ∈ A,bf l y=false)→A.foldl (inF bf l) (false,out)=(false,out++A)
 | [],out,_=>by simp
 | x::r,out,h=>by
  rw [List.foldl_cons,inF,if_neg (fun k=>by have:=h x (by simp);rw [this] at k;cases k.2),inK_head bf l r _ (fun y hy=>h y (by simp [hy]))];simp
theorem inR_at {α:Type} {bf:α→α→Bool} {l:α} {A B:List α} (hA:∀ y ∈ A,bf l y=false) (hB:∀ y ∈ B,bf l y=true):inR bf l (A++B)=A++l::B:=by
 rw [inR,inK,List.foldl_append,inK_head bf l A [] hA,List.nil_append]
 cases B with
 | nil=>simp
 | cons x r=>
  have e:inF bf l (false,A) x=(true,A++[l]++[x]):=if_pos ⟨rfl,hB x (by simp)⟩
  rw [List.foldl_cons,e,inK_tail];simp
theorem split_at {α:Type} {f:α→Int} {v:Int}:∀ {L:List α},L.Pairwise (fun a b=>f a < f b)→∃ A B,L=A++B∧(∀ y ∈ A,¬v < f y)∧∀ y ∈ B,v < f y
 | [],_=>⟨[],[],rfl,by simp,by simp⟩
 | x::r,h=>by
  by_cases k:v < f x
  ·exact ⟨[],x::r,rfl,by simp,fun y hy=>by
    rcases List.mem_cons.1 hy with rfl|hy
    ·exact k
    ·have:=List.rel_of_pairwise_cons h hy;omega⟩
  ·obtain ⟨A,B,rfl,h1,h2⟩:=split_at (v:=v) (List.pairwise_cons.1 h).2
   exact ⟨x::A,B,rfl,fun y hy=>by
    rcases List.mem_cons.1 hy with rfl|hy
    ·exact k
    ·exact h1 y hy,h2⟩
theorem len_eq {s:Slt} (h:chkSlt s=0) (l:Lea):inR bfLe l s.ls=lnL s l:=by
 have hp:s.ls.Pairwise (fun a b=>a.fro < b.fro):=(slt_pw h).imp fun {a b} k=>by simp only [leLt] at k;omega
 obtain ⟨A,B,e,hA,hB⟩:=split_at (v:=l.fro) hp
 have hc:∀ a b:Lea,cmpLe a b < 0↔a.fro < b.fro:=fun a b=>by
  simp only [cmpLe,cmpI];(repeat' split)<;>omega
 have hs:zbM cmpLe s.ls=s.ls:=by
  have:=sort_id (c:=cmpLe) s.ls [] (by rw [List.nil_append];exact hp.imp fun {a b} k=>by rw [hc];omega)
  rwa [List.nil_append] at this
 rw [lnL,zbM,List.foldl_append]
 rw [zbM] at hs
 rw [hs,e,inR_at (fun y hy=>decide_eq_false (hA y hy)) (fun y hy=>decide_eq_true (hB y hy))]
 exact (ins_at (fun y hy=>decide_eq_false (by rw [hc];exact hA y hy)) (fun y hy=>decide_eq_true (by rw [hc];exact hB y hy))).symm
set_option maxRecDepth 100000
set_option linter.unusedVariables false
set_option linter.unusedSimpArgs false
set_option maxHeartbeats 4000000
theorem slt_sh {s:Slt} (h:chkSlt s=0):s.sh.length≤4:=by
 have:=fE0 h (if 4 < (s.sh.length:Int) then 5 else 0) (by simp)
 by_cases k:4 < (s.sh.length:Int)
 ·rw [if_pos k] at this;omega
 ·omega
theorem own_valid {b:Bk} (h:zG b=0) {c n:ByteArray} {e:Int} (ho:ownE b c n e=0):chkSlt (zo b n)=0:=bk_slt h (List.mem_of_getElem? (za8 ho).2.1)
theorem ref_ln {b:Bk} (h:zG b=0) (c n:ByteArray) (l:Lea):(if lnC b c n l=0 then chgB b n (lnRS (zo b n) l) else bk0)=lnB b c n l:=by
 rw [lnB]
 split
 ·rename_i k
  have ho:ownE b c n (chkLea l)=0:=fE0 k _ (by simp)
  rw [lnRS,lnS,len_eq (own_valid h ho)]
 ·rfl
theorem ref_rcE {b:Bk} (h:zG b=0) (c n:ByteArray) (d:Int):rcE b c n d=reC b c n d:=by
 rw [rcE,reC,chgC]
 by_cases ho:ownE b c n (rng d 0 99999)=0
 ·rw [(rec_eq (own_valid h ho) d).1]
 ·rw [za2 ho,za2 ho]
theorem ref_rc {b:Bk} (h:zG b=0) (c n:ByteArray) (d:Int):(if rcE b c n d=0 then chgB b n (rcS (zo b n) d) else bk0)=reB b c n d:=by
 rw [ref_rcE h,reB]
 split
 ·rename_i k
  have ho:ownE b c n (rng d 0 99999)=0:=fE0 k _ (by simp)
  have hr:recE (zo b n) d=0:=fE0 k _ (by simp)
  obtain ⟨h1,h2⟩:=rec_eq (own_valid h ho) d
  have ha:(zo b n).ls.any (recP d)=true:=by
   by_cases q:(zo b n).ls.any (recP d)=true
   ·exact q
   ·rw [if_neg q] at h1;omega
  rw [rcS,recS,h2 ha]
 ·rfl
theorem lnB_ok {b:Bk} (hb:BkOk b) (h:zG b=0) (c n:ByteArray) (l:Lea):BkOk (lnB b c n l):=by
 rw [lnB];split
 ·rename_i k
  have ho:ownE b c n (chkLea l)=0:=fE0 k _ (by simp)
  have h8:=fE0 (own_valid h ho) (if 8 < ((zo b n).ls.length:Int) then 5 else 0) (by simp)
  have h9:(zo b n).ls.length≤8:=by
   by_cases q:8 < ((zo b n).ls.length:Int)
   ·rw [if_pos q] at h8;omega
   ·omega
  exact chg_ok hb ⟨by simp only [lnS,lnL_len];omega,(sof_ok hb).2⟩
 ·exact bk0_ok
theorem reL_len (s:Slt) (d:Int):(recL s d).length≤s.ls.length+1:=by
 rw [recL,List.length_append,List.length_append]
 have h1:=cutL_len (d - 1) ((s.ls.take ((recI s d).toNat+1)).drop (recI s d).toNat)
 simp only [List.length_drop,List.length_take] at h1 ⊢
 omega
theorem reB_ok {b:Bk} (hb:BkOk b) (h:zG b=0) (c n:ByteArray) (d:Int):BkOk (reB b c n d):=by
 rw [reB];split
 ·rename_i k
  have ho:ownE b c n (rng d 0 99999)=0:=fE0 k _ (by simp)
  have h8:=fE0 (own_valid h ho) (if 8 < ((zo b n).ls.length:Int) then 5 else 0) (by simp)
  have h9:(zo b n).ls.length≤8:=by
   by_cases q:8 < ((zo b n).ls.length:Int)
   ·rw [if_pos q] at h8;omega
   ·omega
  have:=reL_len (zo b n) d
  exact chg_ok hb ⟨by simp only [recS];omega,(sof_ok hb).2⟩
 ·exact bk0_ok
theorem shB_ok {b:Bk} (hb:BkOk b) (h:zG b=0) (c n to:ByteArray):BkOk (shB b c n to):=by
 rw [shB];split
 ·rename_i k
  have ho:ownE b c n (zaH to)=0:=fE0 k _ (by simp)
  have:=slt_sh (own_valid h ho)
  exact chg_ok hb ⟨(sof_ok hb).1,by simp only [shS,List.length_append,List.length_singleton];omega⟩
 ·exact bk0_ok
set_option maxRecDepth 100000
set_option linter.unusedVariables false
set_option linter.unusedSimpArgs false
set_option maxHeartbeats 8000000
theorem pure1008 (b:Bk) (x:Exc):Pure Tryz.prog 9 [b.pv,x.pv] (.b true):=by
 refine zf (cF Tryz.func9 Tryz.f9.eq_1) (by simp) fun hw X hX=>?_
 by_cases hb:shBk b=true
 ·by_cases hx:narrowB x=true
  ·have hn:=nar_n hx
   obtain ⟨hok,hl1,hl2⟩:=sh_ok hb
   have hS:=pure1035 b x.carrier x.slot x.lease (fun _=>hok)
   have hR:=pure1038 b x.carrier x.slot x.day (fun _=>hok)
   have hT:=pure1055 b x.carrier x.slot x.to (fun _=>hok)
   have hC:=pure1023 b
   by_cases hc:zG b=0
   ·rw [bkTo_ok hc lnB_0] at hS
    rw [bkTo_ok hc reB_0] at hR
    rw [bkTo_ok hc shB_0] at hT
    rw [hc] at hC
    have r1:=pure1056 b x.carrier x.slot x.lease hok
    have r2:=pure1057 b x.carrier x.slot x.day hok
    have r3:=pure1058 b x.carrier x.slot x.to hok (fun s hs=>slt_sh (bk_slt hc hs))
    rw [ref_ln hc] at r1
    rw [ref_rc hc,ref_rcE hc] at r2
    have s1:=pure1030 (lnB b x.carrier x.slot x.lease) (lnB b x.carrier x.slot x.lease) (lnC b x.carrier x.slot x.lease) (lnB_ok hok hc _ _ _) (fun _=>rfl) lnB_0
    have s2:=pure1030 (reB b x.carrier x.slot x.day) (reB b x.carrier x.slot x.day) (reC b x.carrier x.slot x.day) (reB_ok hok hc _ _ _) (fun _=>rfl) reB_0
    have s3:=pure1030 (shB b x.carrier x.slot x.to) (shB b x.carrier x.slot x.to) (shC b x.carrier x.slot x.to) (shB_ok hok hc _ _ _) (fun _=>rfl) shB_0
    have qe:=aI qR (aI @hb (aI @hx (aI @zbb (aI @decide_true @Bool.not_true))));repeat' first|refine gC (fun hc=>?_) (fun hc=>?_)<;>try contradiction|refine za (pure1033 b) ?_|refine zN (fun _=>pure1034 x) ?_|refine za (pure1019 b hok) ?_|refine za (hS) ?_|refine za (hR) ?_|refine za (hT) ?_|refine za (hC) ?_|refine za (r1) ?_|refine za (r2) ?_|refine za (r3) ?_|refine za (s1) ?_|refine zN (fun _=>s2) ?_|refine zN (fun _=>s3) ?_|refine zN (fun _=>pure1017) ?_|refine gG ?_|show AK _;intro K H|refine H _ _ ?_;clear H K|refine gJ ?_;try exact trivial|omega
    all_goals exact .refl _
   ·have e:∀ y e,BkTo b y e=(bk0,zG b):=fun y e=>if_neg hc
    have hc':=eq_false hc
    rw [e] at hS hR hT
    have s0:Pure Tryz.prog 42 [bk0.pv,.i .i64 (zG b),.agg [.nilsl,.nilsl],.i .i64 (zG b)] (.b true):=pure_in (pure1030 bk0 bk0 (zG b) bk0_ok (fun _=>rfl) (fun _=>rfl)) ⟨.refl _,.refl _,.agg ⟨.nilsl _,.nilsl _,trivial⟩,.refl _,trivial⟩
    have qe:=aI qR (aI @hb (aI @hx (aI @hc' (aI @decide_true (aI @decide_false @Bool.not_true)))));repeat' first|refine gC (fun hc=>?_) (fun hc=>?_)<;>try contradiction|refine za (pure1033 b) ?_|refine zN (fun _=>pure1034 x) ?_|refine za (pure1019 b hok) ?_|refine za (hS) ?_|refine za (hR) ?_|refine za (hT) ?_|refine za (hC) ?_|refine za (s0) ?_|refine zN (fun _=>s0) ?_|refine zN (fun _=>pure1017) ?_|refine gG ?_|show AK _;intro K H|refine H _ _ ?_;clear H K|refine gJ ?_;try exact trivial|omega
    all_goals exact .refl _
  ·have hx':narrowB x=false:=by simpa using hx
   have qe:=aI qR (aI @hb (aI @hx' (aI @Bool.not_true @Bool.not_false)));repeat' first|refine gC (fun hc=>?_) (fun hc=>?_)<;>try contradiction|refine za (pure1033 b) ?_|refine zN (fun _=>pure1034 x) ?_|refine za (pure1017) ?_|refine gG ?_|show AK _;intro K H|refine H _ _ ?_;clear H K|refine gJ ?_;try exact trivial|omega
   all_goals exact .refl _
 ·have hb':shBk b=false:=by simpa using hb
  have qe:=aI qR (aI @hb' @Bool.not_false);repeat' first|refine gC (fun hc=>?_) (fun hc=>?_)<;>try contradiction|refine za (pure1033 b) ?_|refine zN (fun _=>pure1034 x) ?_|refine za (pure1017) ?_|refine gG ?_|show AK _;intro K H|refine H _ _ ?_;clear H K|refine gJ ?_;try exact trivial|omega
  all_goals exact .refl _
end Go.Proofs.YtahmdjadnlpjoaaGreat
namespace Go.Proofs.YtahmdjadnlpjoaaGreat
open Go.RowKit Go.ChangeShapes Go.WideShapes Go.ChangeAt
set_option maxRecDepth 100000
set_option linter.unusedVariables false
set_option linter.unusedSimpArgs false
set_option maxHeartbeats 4000000
theorem parX:parP Tryz.prog 6 99=some (true,[.sl false [.s],.s,.s,.s,.s,jT,jT,jT]):=by kernel_rfl
theorem fit_exc {p:PV} (h:FitPar Tryz.prog 6 99 p):∃ x:Exc,p=x.pv:=by
 obtain ⟨⟨ag,c,l,hp,rfl,hl⟩,hb⟩:=h
 rw [parX] at hp
 simp only [Option.some.injEq,Prod.mk.injEq] at hp
 obtain ⟨rfl,rfl⟩:=hp
 match l,hl with
 | [_,_,_,_,_,_,_,_],⟨h1,⟨a,ha⟩,⟨b,hb⟩,⟨c,hc⟩,⟨d,hd⟩,⟨e,he⟩,⟨f,hf⟩,⟨g,hg⟩,_⟩=>
  subst ha hb hc hd he hf hg
  obtain ⟨S,rfl⟩:=strs_of h1
  exact ⟨⟨S,a,b,c,⟨d,e,f⟩,g⟩,rfl⟩
theorem lifted1008 (os:Os) (started:os.Started) (H:Type) (enc:TypeId × Value→H):ReturnsInHanded {} Tryz.checked os 9 .any (Rows.tradeLeasesSpec.pre6 enc Tryz.prog Tryz.f9 Rows.tradeLeasesRow.domain false) (Rows.tradeLeasesSpec.post enc Tryz.prog Tryz.f9 false true false false):=by
 refine returnsInHanded_of_change_shaped (C:=Tryz.checked) own started (by kernel_rfl) Tryz.func9
  (ChangeSpec.witness6 (enc:=enc) (C:=Tryz.checked) false ⟨#[],#[.agg #[.slice none 0 0,.slice none 0 0],.agg #[.slice none 0 0,zs,zs,zs,zs,zi,zi,zi]],[]⟩ 8 (by kernel_rfl) (by kernel_rfl) (by kernel_rfl) (by kernel_rfl)) ?_
 intro W base args ds gs before hval hW _ hsz _ _
 refine law_contract (C:=Tryz.checked) (n:=6) (tb:=4) laid (by kernel_rfl) rfl (fun H ds hd=>?_) (by kernel_rfl) und4 (by kernel_rfl) (fun ps hps=>?_) W base args ds gs before hval hW hsz
 ·match ds,hd with
  | [_,_],_=>rfl
 ·match ps,hps with
  | [a0,a1],⟨h0,h1,_⟩=>
   obtain ⟨b,rfl⟩:=fit_bk h0
   obtain ⟨x,rfl⟩:=fit_exc h1
   exact pure1008 b x
theorem e1_1008:(Rows.tradeLeasesRow.inPlace == Tryz.prog.inPlace 9)=true:=by kernel_rfl
theorem e2_1008:(Rows.tradeLeasesRow.unfollowed == Tryz.prog.unfollowed 9)=true:=by kernel_rfl
theorem e3_1008:(Rows.tradeLeasesRow.recurses == Tryz.prog.recurses 9)=true:=by kernel_rfl
theorem e4_1008:(Rows.tradeLeasesRow.named == Tryz.prog.varsNamed 9)=true:=by kernel_rfl
theorem e5_1008:Tryz.checked.prog.funcNamed Rows.tradeLeasesRow.func=some 9:=by kernel_rfl
theorem e6_1008:joinedFacts Tryz.prog 9 Tryz.f9 Rows.tradeLeasesSpec Rows.tradeLeasesRow=true:=
 joined_of (by as_aux_lemma=>kernel_rfl) laid rowed (by as_aux_lemma=>kernel_rfl) e1_1008 e2_1008 e3_1008 e4_1008 (by as_aux_lemma=>kernel_rfl) (by as_aux_lemma=>kernel_rfl) (by as_aux_lemma=>kernel_rfl) (by as_aux_lemma=>kernel_rfl) (by as_aux_lemma=>kernel_rfl)
theorem e7_1008:Tryz.f9.isInstance Tryz.prog Rows.tradeLeasesRow.origin Rows.tradeLeasesRow.targs:=of_decide_eq_true (by kernel_rfl)
theorem e8_1008:Tryz.f9.isWrapper Tryz.prog Rows.tradeLeasesRow.wrapper Rows.tradeLeasesRow.mainSum:=by
 unfold Func.isWrapper;first|(rw [if_pos (by decide +kernel)];kernel_rfl)|(rw [if_neg (by decide +kernel)];exact ⟨rfl,rfl⟩)
theorem leases_over:Rows.tradeLeasesRow.holds Tryz.pinned (OpenSpec.ofChange Rows.tradeLeasesSpec):=
 OpenClaim.holds_of_wide 9 Tryz.f9 rfl rfl rfl rfl rfl rfl rfl ⟨rfl,rfl,rfl,rfl,rfl⟩ rfl rfl rfl rfl rfl e5_1008 Tryz.func9 e6_1008 e7_1008 e8_1008
  (fun os started H enc _=>lifted1008 os started H enc)
theorem leases_proved:Rows.TradeLeasesSaid:=leases_over
end Go.Proofs.YtahmdjadnlpjoaaGreat
