/- The statement TradeTimes of chapter 8 (trade) holds of the given program: Hold, Back and Retime return the books or the errors of the reference. No conditions. -/
import Derived.ProofKit
import Derived.OpenShut
import Derived.Carry
import Derived.OpenVars
import Derived.HandedShaped
import Derived.KernelRfl
import Derived.Laws.RangeAny
import Derived.Test.YtahmdjadnlpjoaaGreatRows
import Derived.Test.YtahmdjadnlpjoaaGreatM3
set_option linter.all false
set_option maxHeartbeats 8000000
namespace Go.Proofs.YtahmdjadnlpjoaaGreat
open Go.RowKit
set_option maxRecDepth 100000
set_option linter.unusedVariables false
set_option linter.unusedSimpArgs false
set_option maxHeartbeats 8000000
theorem pure1030 (B W:Bk) (e:Int) (hB:BkOk B) (h0:e=0→W=B) (h1:e≠0→B=bk0):Pure Tryz.prog 42 [B.pv,.i .i64 e,W.pv,.i .i64 e] (.b true):=by
 refine zf (cF Tryz.func42 Tryz.f42.eq_1) (by simp) fun hw X hX=>?_
 by_cases h:e=0
 ·have h':=eq_true h
  rw [h0 h]
  have qe:=aI qR (aI @h' (aI @zbb (aI @decide_true @Bool.not_true)));repeat' first|refine gC (fun hc=>?_) (fun hc=>?_)<;>try contradiction|refine za (pure1040 B hB) ?_|refine za (pure1039 B) ?_|refine gG ?_|show AK _;intro K H|refine H _ _ ?_;clear H K|refine gJ ?_;try exact trivial|omega
  all_goals exact .refl _
 ·have h':=eq_false h
  have hs:Pure Tryz.prog 49 [bk0.pv,.agg [.nilsl,.nilsl]] (.b true):=pure_in (pure1039 bk0) ⟨.refl _,.agg ⟨.nilsl _,.nilsl _,trivial⟩,trivial⟩
  have hb:=h1 h
  subst hb
  have qe:=aI qR (aI @h' (aI @zbb (aI @decide_true (aI @decide_false @Bool.not_false))));repeat' first|refine gC (fun hc=>?_) (fun hc=>?_)<;>try contradiction|refine za (pure1040 bk0 hB) ?_|refine za (hs) ?_|refine gG ?_|show AK _;intro K H|refine H _ _ ?_;clear H K|refine gJ ?_;try exact trivial|omega
  all_goals exact .refl _
theorem bk0_ok:BkOk bk0:=⟨fun s h=>(by cases h),by simp [bk0],by simp [bk0]⟩
theorem chg_ok {b:Bk} {n:ByteArray} {s:Slt} (hb:BkOk b) (hs:SlOk s):BkOk (chgB b n s):=by
 refine ⟨fun x hx=>?_,by simpa [chgB] using hb.n,hb.w⟩
 rcases List.mem_or_eq_of_mem_set hx with h|rfl
 ·exact hb.s x h
 ·exact hs
theorem sof_ok {b:Bk} {n:ByteArray} (hb:BkOk b):SlOk (zo b n):=by
 rw [zo]
 cases h:b.slots[(atL n (b.slots.map (·.req.name))).toNat]? with
 | none=>exact ⟨by simp,by simp⟩
 | some s=>exact hb.s s (List.mem_of_getElem? h)
set_option maxRecDepth 100000
set_option linter.unusedVariables false
set_option linter.unusedSimpArgs false
set_option maxHeartbeats 4000000
theorem chkLea_le {l:Lea} (h:chkLea l=0):l.fro≤l.to:=by
 have:=fE0 h (if l.to < l.fro then 11 else 0) (by simp)
 by_cases k:l.to < l.fro
 ·rw [if_pos k] at this;omega
 ·omega
theorem slt_lea {s:Slt} (h:chkSlt s=0) {i:Nat} {x:Lea} (hx:s.ls[i]?=some x):leaErr s i x=0:=mapIdx_0 (fE0 h (zg (s.ls.mapIdx (leaErr s))) (by simp)) hx
theorem slt_le {s:Slt} (h:chkSlt s=0) {x:Lea} (hx:x ∈ s.ls):x.fro≤x.to:=by
 obtain ⟨i,hi⟩:=List.mem_iff_getElem?.1 hx
 exact chkLea_le (fE0 (slt_lea h hi) _ (by simp))
set_option maxRecDepth 100000
set_option linter.unusedVariables false
set_option linter.unusedSimpArgs false
set_option maxHeartbeats 4000000
theorem own_valid {b:Bk} (h:zG b=0) {c n:ByteArray} {e:Int} (ho:ownE b c n e=0):chkSlt (zo b n)=0:=bk_slt h (List.mem_of_getElem? (za8 ho).2.1)
set_option maxRecDepth 100000
set_option linter.unusedVariables false
set_option linter.unusedSimpArgs false
set_option maxHeartbeats 8000000
def ltI (d x:Int):List Int:=if x < d then [x] else []
def ltL (d:Int) (L:List Int):List Int:=L.flatMap (ltI d)
theorem ltL_next {d:Int} {L:List Int} {k:Nat} {x:Int} (h:L[k]?=some x):ltL d (L.take (k+1))=ltL d (L.take k)++ltI d x:=by
 rw [zan h,ltL,List.flatMap_append];simp [ltL]
theorem ltL_len (d:Int) (L:List Int):(ltL d L).length≤L.length:=by
 induction L with
 | nil=>simp [ltL]
 | cons x r ih=>
  have:(ltI d x).length≤1:=by unfold ltI;split<;>simp
  simp only [ltL,List.flatMap_cons,List.length_append,List.length_cons] at ih ⊢;omega
def bkI (d:Int) (l:Lea):List Lea:=if l.fro < d then [cutE (d - 1) l] else []
def bkL (d:Int) (L:List Lea):List Lea:=L.flatMap (bkI d)
theorem bkL_next {d:Int} {L:List Lea} {k:Nat} {x:Lea} (h:L[k]?=some x):bkL d (L.take (k+1))=bkL d (L.take k)++bkI d x:=by
 rw [zan h,bkL,List.flatMap_append];simp [bkL]
theorem bkL_len (d:Int) (L:List Lea):(bkL d L).length≤L.length:=by
 induction L with
 | nil=>simp [bkL]
 | cons x r ih=>
  have:(bkI d x).length≤1:=by unfold bkI;split<;>simp
  simp only [bkL,List.flatMap_cons,List.length_append,List.length_cons] at ih ⊢;omega
def bkS (s:Slt) (d:Int):Slt:=⟨{ s.req with per:=bckP s.req.per d },s.holder,bkL d s.ls,s.sh⟩
def bkY (b:Bk) (n:ByteArray) (d:Int):Bk:=if ltL d (zY (zo b n).req.per)=[] then ⟨b.slots.take (zA b n)++b.slots.drop (zA b n+1),b.wait⟩ else chgB b n (bkS (zo b n) d)
theorem bin_any_r (d:Nat) (look:Nat→Option LObj) (n:Int):zb d look (.bin .gtr) [.p (.i .i64 n),.p .any]=none:=rfl
theorem any_7:(PV.any.cells[7]?).getD .any=.any:=rfl
theorem pure1054 (b:Bk) (c n:ByteArray) (d:Int) (hb:BkOk b) (hpr:∀ s ∈ b.slots,zau s.req.per=0):Pure Tryz.prog 63 [b.pv,.s c,.s n,.i .i64 d] (.tup [(if bckC b c n d=0 then bkY b n d else bk0).pv,.i .i64 (bckC b c n d)]):=by
 refine zat (r:=if bckC b c n d=0 then .tup [(bkY b n d).pv,.i .i64 0] else .tup [.agg [.nilsl,.nilsl],.i .i64 (bckC b c n d)]) ?_ ?_
 ·refine zf (cF Tryz.func63 Tryz.f63.eq_1) (by simp) fun hw X hX=>?_
  by_cases hown:ownE b c n (rng d 0 99999)=0
  ·obtain ⟨h1,h2,h3,h4⟩:=za8 hown
   obtain ⟨hI,hlt⟩:=ownI_eq hown
   have hd:=rng_in (own_e hown)
   have hC:bckC b c n d=bckE (zo b n) d:=by rw [bckC,chgC,za3 hown,fE_one]
   have hsl:=(hb.s _ (List.mem_of_getElem? h2)).1
   have hp:=hpr _ (List.mem_of_getElem? h2)
   have hbn:=hb.n
   rw [hC,bkY]
   generalize hso:zo b n=s at h2 h3 hC hsl hp
   have ht0:=eq_true hown
   by_cases hto:s.req.per.to < d
   ·have hto':=eq_true hto
    rw [bckE,if_pos hto,if_neg (by omega)]
    have qe:=aI qR (aI @hI (aI @h2 (aI @ht0 (aI @hto' (aI @decide_true (aI @decide_false (aI @Bool.not_false @zbb)))))));repeat' first|refine gC (fun hc=>?_) (fun hc=>?_)<;>try contradiction|refine za (pure127 d) ?_|refine za (pure1127 b c n (rng d 0 99999)) ?_|refine gG ?_|show AK _;intro K H|refine H _ _ ?_;clear H K|refine gJ ?_;try exact trivial|omega
    all_goals exact .refl _
   have hto':=eq_false hto
   rw [bckE,if_neg hto,if_pos rfl]
   have h67:=pure67 s.req.per hp
   have hDl:=daysL_len s.req.per
   have hper:=zaX hp
   generalize hD:zY s.req.per=D at h67 hDl
   have qe:=aI qR (aI @hI (aI @h2 (aI @ht0 (aI @hto' (aI @decide_true (aI @decide_false (aI @Bool.not_true @zbb)))))));repeat' first|refine gC (fun hc=>?_) (fun hc=>?_)<;>try contradiction|refine za (pure127 d) ?_|refine za (pure1127 b c n (rng d 0 99999)) ?_|refine za (h67) ?_|refine gG ?_|show AK _;intro K H|refine H _ _ ?_;clear H K|refine gJ ?_;try exact trivial|omega
   refine zaO 900 3 1 [(3,.p (.i .i64 d)),(4,.lp 4 0),(8,.lp 8 0),(10,.p (.i .i64 (zA b n))),(12,.lp 12 0),(13,.row 900 0),(14,.p (.sl 1 (D.map (.i .i64)))),(15,.p (.i .i64 0))] [(4,.box [.p (.sl 16 (b.slots.map Slt.pv)),.p (.sl 14 (b.wait.map Wsh.pv))] false),(8,.box [.p .nilsl,.p .nilsl] false),(12,.box (s.cells.map .p) false)] ?_ ?_
   ·simp only [Own,zaL,zaB,zbt,zay,qS,Nat.reduceAdd,Nat.reduceMul,Nat.reduceEqDiff,Nat.reduceLeDiff,reduceIte,reduceCtorEq,Nat.reduceBEq,Nat.reduceLT]
   refine zk (κ:=Nat) (fun k=>⟨[(3,.p (.i .i64 d)),(4,.lp 4 0),(8,.lp 8 0),(10,.p (.i .i64 (zA b n))),(12,.lp 12 0),(13,.row 900 (ltL d (D.take k)).length),(14,.p (.sl 1 (D.map (.i .i64)))),(15,.p (.i .i64 k))],[(4,.box [.p (.sl 16 (b.slots.map Slt.pv)),.p (.sl 14 (b.wait.map Wsh.pv))] false),(8,.box [.p .nilsl,.p .nilsl] false),(12,.box (s.cells.map .p) false),(900,.row 3 1 ((ltL d (D.take k)).map (.i .i64)) false)],[],false⟩) (fun k=>k≤D.length) (fun k=>D.length - k) 0 ?_ ?_ ?_
   ·refine gJ ?_;simp [ltL]
   ·simp
   ·intro k hk
    have hl:(ltL d (D.take k)).length≤k:=by have:=ltL_len d (D.take k);rw [List.length_take] at this;omega
    repeat first|refine gG ?_|show AK _;intro K H|refine H _ _ ?_;clear H K|refine gJ ?_;try exact trivial|omega
    (refine gC (fun hc=>?_) (fun hc=>?_)<;>try contradiction)
    ·obtain ⟨x,hx⟩:=zn (i:=k) (l:=D) (by omega)
     have hnx:=ltL_next (d:=d) hx
     have qe:=aI qR @hx;repeat' first|refine gC (fun hc=>?_) (fun hc=>?_)<;>try contradiction|refine gG ?_|show AK _;intro K H|refine H _ _ ?_;clear H K|refine gJ ?_;try exact trivial|omega
     ·rw [ltI,if_pos hc] at hnx
      exact ⟨k+1,by omega,by omega,⟨by rw [hnx];simp,by simp⟩,by rw [hnx];simp⟩
     ·rw [ltI,if_neg (by omega),List.append_nil] at hnx
      exact ⟨k+1,by omega,by omega,⟨by rw [hnx],by simp⟩,by rw [hnx]⟩
    ·have e:k=D.length:=by omega
     subst e
     rw [List.take_length] at hl ⊢
     by_cases hf:ltL d D=[]
     ·have hT:∀ k,(b.slots.map Slt.pv).take k=(b.slots.take k).map Slt.pv:=fun k=>by rw [List.map_take]
      have hDr:∀ k,(b.slots.map Slt.pv).drop k=(b.slots.drop k).map Slt.pv:=fun k=>by rw [List.map_drop]
      have hA:=fun l=>eq_true (allSl l)
      have hk1:((zA b n:Int)+1).toNat=zA b n+1:=by omega
      have hlen:(b.slots.take (zA b n)).length=zA b n:=by rw [List.length_take];omega
      have hlenD:(b.slots.drop (zA b n+1)).length=b.slots.length - (zA b n+1):=by rw [List.length_drop]
      rw [hf,if_pos rfl]
      have hr:(⟨b.slots.take (zA b n)++b.slots.drop (zA b n+1),b.wait⟩:Bk).pv=.agg [.sl 16 ((b.slots.take (zA b n)).map Slt.pv++(b.slots.drop (zA b n+1)).map Slt.pv),.sl 14 (b.wait.map Wsh.pv)]:=by
       show (PV.agg [.sl 16 ((b.slots.take (zA b n)++b.slots.drop (zA b n+1)).map Slt.pv),.sl 14 (b.wait.map Wsh.pv)])=_
       rw [List.map_append]
      rw [hr]
      have qe:=aI qR (aI @hT (aI @hDr (aI @hA (aI @hk1 (aI @hlen @zaf)))));repeat' first|refine gC (fun hc=>?_) (fun hc=>?_)<;>try contradiction|refine gG ?_|show AK _;intro K H|refine H _ _ ?_;clear H K|refine gJ ?_;try exact trivial|omega
      all_goals first|exact .refl _
     ·have hf':(((ltL d D).length:Int)=0)=False:=eq_false (fun k=>hf (List.eq_nil_of_length_eq_zero (by omega)))
      have hP:=pure1128 b (zA b n) (bkS s d) hlt hbn
      rw [if_neg hf]
      have qe:=aI qR (aI @hf' @decide_false);repeat' first|refine gC (fun hc=>?_) (fun hc=>?_)<;>try contradiction|refine gG ?_|show AK _;intro K H|refine H _ _ ?_;clear H K|refine gJ ?_;try exact trivial|omega
      refine zaO 901 97 3 [(3,.p (.i .i64 d)),(4,.lp 4 0),(8,.lp 8 0),(10,.p (.i .i64 (zA b n))),(12,.lp 12 0),(16,.row 901 0),(17,.p (.i .i64 0))] [(4,.box [.p (.sl 16 (b.slots.map Slt.pv)),.p (.sl 14 (b.wait.map Wsh.pv))] false),(8,.box [.p .nilsl,.p .nilsl] false),(12,.box ((⟨{ s.req with per:=bckP s.req.per d },s.holder,s.ls,s.sh⟩:Slt).cells.map .p) false)] ?_ ?_
      ·simp only [Own,zaL,zaB,zbt,zay,qS,Nat.reduceAdd,Nat.reduceMul,Nat.reduceEqDiff,Nat.reduceLeDiff,reduceIte,reduceCtorEq,Nat.reduceBEq,Nat.reduceLT,bckP]
      refine zk (κ:=Nat) (fun k=>⟨[(3,.p (.i .i64 d)),(4,.lp 4 0),(8,.lp 8 0),(10,.p (.i .i64 (zA b n))),(12,.lp 12 0),(16,.row 901 (bkL d (s.ls.take k)).length),(17,.p (.i .i64 k))],[(4,.box [.p (.sl 16 (b.slots.map Slt.pv)),.p (.sl 14 (b.wait.map Wsh.pv))] false),(8,.box [.p .nilsl,.p .nilsl] false),(12,.box ((⟨{ s.req with per:=bckP s.req.per d },s.holder,s.ls,s.sh⟩:Slt).cells.map .p) false),(901,.row 97 3 ((bkL d (s.ls.take k)).map Lea.pv) false)],[],false⟩) (fun k=>k≤s.ls.length) (fun k=>s.ls.length - k) 0 ?_ ?_ ?_
      ·refine gJ ?_;simp [bkL]
      ·simp
      ·intro k hk
       have hl2:(bkL d (s.ls.take k)).length≤k:=by have:=bkL_len d (s.ls.take k);rw [List.length_take] at this;omega
       repeat first|refine gG ?_|show AK _;intro K H|refine H _ _ ?_;clear H K|refine gJ ?_;try exact trivial|omega
       (refine gC (fun hc=>?_) (fun hc=>?_)<;>try contradiction)
       ·obtain ⟨x,hx⟩:=zn (i:=k) (l:=s.ls) (by omega)
        have hnx:=bkL_next (d:=d) hx
        have qe:=aI qR @hx;repeat' first|refine gC (fun hc=>?_) (fun hc=>?_)<;>try contradiction|refine gG ?_|show AK _;intro K H|refine H _ _ ?_;clear H K|refine gJ ?_;try exact trivial|omega
        ·rw [bkI,if_pos hc] at hnx
         exact ⟨k+1,by omega,by omega,⟨by rw [hnx];simp,by simp⟩,by rw [hnx];simp [cutE]⟩
        ·rw [bkI,if_neg (by omega),List.append_nil] at hnx
         exact ⟨k+1,by omega,by omega,⟨by rw [hnx],by simp⟩,by rw [hnx]⟩
       ·have e:k=s.ls.length:=by omega
        subst e
        rw [List.take_length] at hl2 ⊢
        have qe:=aI qR (aI @h2 @zaf);repeat' first|refine gC (fun hc=>?_) (fun hc=>?_)<;>try contradiction|refine zam (hP) ?_|refine gG ?_|show AK _;intro K H|refine H _ _ ?_;clear H K|refine gJ ?_;try exact trivial|omega
        all_goals first|exact .refl _
  ·have e:bckC b c n d=ownE b c n (rng d 0 99999):=by rw [bckC,chgC,za2 hown]
   have ht0:=eq_false hown
   rw [e,if_neg hown]
   rcases hsx:b.slots[(ownI b c n).toNat]? with _|sx
   ·have qe:=aI qR (aI @ht0 (aI @hsx (aI @bin_any_r (aI @any_7 (aI @false_and (aI @ifF (aI @decide_false @Bool.not_false)))))));repeat' first|refine gC (fun hc=>?_) (fun hc=>?_)<;>try contradiction|refine za (pure127 d) ?_|refine za (pure1127 b c n (rng d 0 99999)) ?_|refine gG ?_|show AK _;intro K H|refine H _ _ ?_;clear H K|refine gJ ?_;try exact trivial|omega
    all_goals exact .refl _
   ·have qe:=aI qR (aI @ht0 (aI @hsx (aI @decide_false @Bool.not_false)));repeat' first|refine gC (fun hc=>?_) (fun hc=>?_)<;>try contradiction|refine za (pure127 d) ?_|refine za (pure1127 b c n (rng d 0 99999)) ?_|refine gG ?_|show AK _;intro K H|refine H _ _ ?_;clear H K|refine gJ ?_;try exact trivial|omega
    all_goals exact .refl _
 ·by_cases h:bckC b c n d=0
  ·rw [if_pos h,if_pos h,h];exact .refl _
  ·rw [if_neg h,if_neg h];exact zbw _
set_option maxRecDepth 100000
set_option linter.unusedVariables false
set_option linter.unusedSimpArgs false
set_option maxHeartbeats 4000000
theorem ltL_app (d:Int) (A B:List Int):ltL d (A++B)=ltL d A++ltL d B:=by simp [ltL]
theorem days_lt (p:Per) (d:Int) (hd:d≤p.to):ltL d (zY p)=zY (bckP p d):=by
 have key:∀ N:Nat,ltL d ((List.range N).flatMap fun (k:Nat)=>if inM p.days ((p.fro+k+5) % 7) then [p.fro+k] else [])=(List.range (min N (d - p.fro).toNat)).flatMap fun (k:Nat)=>if inM p.days ((p.fro+k+5) % 7) then [p.fro+k] else []:=by
  intro N
  induction N with
  | zero=>simp [ltL]
  | succ N ih=>
   rw [List.range_succ,List.flatMap_append,ltL_app,ih]
   simp only [List.flatMap_cons,List.flatMap_nil,List.append_nil]
   by_cases h:N < (d - p.fro).toNat
   ·rw [Nat.min_eq_left (by omega),Nat.min_eq_left (by omega),List.range_succ,List.flatMap_append]
    simp only [List.flatMap_cons,List.flatMap_nil,List.append_nil]
    congr 1
    split
    ·simp only [ltL,List.flatMap_cons,List.flatMap_nil,List.append_nil,ltI]
     rw [if_pos (by omega)]
    ·rfl
   ·rw [Nat.min_eq_right (by omega),Nat.min_eq_right (by omega)]
    have:ltL d (if inM p.days ((p.fro+(N:Int)+5) % 7) then [p.fro+(N:Int)] else [])=[]:=by
     split
     ·simp only [ltL,List.flatMap_cons,List.flatMap_nil,List.append_nil,ltI]
      rw [if_neg (by omega)]
     ·rfl
    rw [this,List.append_nil]
 unfold zY
 rw [key]
 simp only [bckP]
 congr 2
 omega
theorem bkL_eq {d:Int}:∀ {L:List Lea},(∀ x ∈ L,x.fro≤x.to)→bkL d L=cutL (d - 1) L
 | [],_=>rfl
 | x::r,h=>by
  have h1:=h x (by simp)
  have ih:bkL d r=cutL (d - 1) r:=bkL_eq fun y hy=>h y (by simp [hy])
  have e:bkI d x=cutI (d - 1) x:=by
   rw [bkI,cutI]
   by_cases k:x.fro < d
   ·rw [if_pos k,if_pos (by omega)]
   ·rw [if_neg k,if_neg (by omega)]
  rw [bkL,cutL] at ih ⊢
  rw [List.flatMap_cons,List.flatMap_cons,e,ih]
theorem bckP_ok {p:Per} {d:Int} (hp:zau p=0) (hd:d≤p.to) (hf:p.fro < d):zau (bckP p d)=0:=by
 have h:=zaX hp
 unfold zau
 simp only [zq,rng_0,ite_eq0 (show (11:Int)≠0 by decide),ite_eq0 (show (4:Int)≠0 by decide),bckP]
 refine ⟨by omega,by omega,by omega,by omega,by omega,rfl⟩
theorem bckD_iff {b:Bk} {n:ByteArray} {d:Int} (hp:zau (zo b n).req.per=0) (hd:d≤(zo b n).req.per.to):bckD b n d↔¬ltL d (zY (zo b n).req.per)=[]:=by
 rw [bckD,days_lt _ _ hd]
 constructor
 ·rintro ⟨h1,h2⟩ h3
  rw [daysR,if_pos h1,h3] at h2;exact h2 rfl
 ·intro h
  have hf:(zo b n).req.per.fro < d:=by
   apply Classical.byContradiction;intro k
   apply h
   have e:(d - 1 - (zo b n).req.per.fro+1).toNat=0:=by omega
   unfold zY;simp only [bckP];rw [e];rfl
  have h1:=bckP_ok hp hd hf
  refine ⟨h1,fun k=>h ?_⟩
  rw [daysR,if_pos h1] at k
  exact List.eq_nil_of_length_eq_zero k
theorem ref_bk {b:Bk} (h:zG b=0) (c n:ByteArray) (d:Int):(if bckC b c n d=0 then bkY b n d else bk0)=bckB b c n d:=by
 rw [bckB]
 split
 ·rename_i k
  have ho:ownE b c n (rng d 0 99999)=0:=fE0 k _ (by simp)
  have he:bckE (zo b n) d=0:=fE0 k _ (by simp)
  have hto:¬(zo b n).req.per.to < d:=fun q=>by rw [bckE,if_pos q] at he;omega
  obtain ⟨h1,h2,h3,h4⟩:=za8 ho
  have hp:=(chkReq_0 (bk_req h (List.mem_of_getElem? h2))).1
  have hD:=bckD_iff (b:=b) (n:=n) (d:=d) hp (by omega)
  rw [bkY,bckY]
  by_cases hl:ltL d (zY (zo b n).req.per)=[]
  ·rw [if_pos hl,if_neg (fun q=>hD.1 q hl),bckO,chgB]
   simp only
   rw [List.take_set_of_le (Nat.le_refl _),List.drop_set_of_lt (Nat.lt_succ_self _)]
  ·rw [if_neg hl,if_pos (hD.2 hl),bckO]
   have:bkS (zo b n) d=bckS (zo b n) d:=by rw [bkS,bckS,bkL_eq (fun x hx=>slt_le (own_valid h ho) hx)]
   rw [this]
 ·rfl
set_option maxRecDepth 100000
set_option linter.unusedVariables false
set_option linter.unusedSimpArgs false
set_option maxHeartbeats 8000000
theorem fitR_ok {l:List Lim} {m:List Mov} {r:Req} (hl:z3 l=0) (hm:zad m=0) (hr:chkReq r=0):fitR l m r=fitsB l m r:=by
 have:fitC l m r=0:=by
  unfold fitC
  refine zq.2 ⟨?_,zq.2 ⟨hr,rfl⟩⟩
  exact zq.2 ⟨hl,zq.2 ⟨hm,rfl⟩⟩
 rw [fitR,this];simp
theorem both_ok {l:List Lim} {m:List Mov} (hl:z3 l=0) (hm:zad m=0):bothC l m=0:=zq.2 ⟨hl,zq.2 ⟨hm,rfl⟩⟩
theorem sl_movs {b:Bk} (h:∀ s ∈ b.slots,chkReq s.req=0) (hn:b.slots.length≤64):movF b (-1)=mvS b.slots∧zad (mvS b.slots)=0∧(mvS b.slots).length≤401*b.slots.length:=by
 have:=mv_all h (by omega) b.slots.length (Nat.le_refl _)
 rw [List.take_length] at this
 have e:(b.slots.map (·.req)).take b.slots.length=b.slots.map (·.req):=List.take_of_length_le (by simp)
 rw [e] at this
 rw [movF,rqW_all];exact this
theorem pure1052 (l:List Lim) (b:Bk) (q:Req) (hok:BkOk b) (hl:z3 l=0) (hc:∀ s ∈ b.slots,chkReq s.req=0) (hn64:b.slots.length≤64):Pure Tryz.prog 61 [.sl 11 (l.map Lim.pv),b.pv,q.pv] (.tup [(holdB l b q).pv,.i .i64 (holdC l b q)]):=by
 refine zat (r:=if holdC l b q=0 then .tup [.agg [.sl 16 (b.slots.map Slt.pv++[rawS q]),.sl 14 (b.wait.map Wsh.pv)],.i .i64 0] else .tup [.agg [.nilsl,.nilsl],.i .i64 (holdC l b q)]) ?_ ?_
 ·refine zf (cF Tryz.func61 Tryz.f61.eq_1) (by simp) fun hw X hX=>?_
  have ht:tkE b q.name=if takenB (b.slots.map (·.req.name)) (b.wait.map (·.req.name)) q.name=true then 9 else 0:=rfl
  have e9:((9:Int)=0)=False:=eq_false (by omega)
  have e5:((5:Int)=0)=False:=eq_false (by omega)
  have e14:((14:Int)=0)=False:=eq_false (by omega)
  by_cases hq:chkQ q=0
  ·have hq':=eq_true hq
   have hE:holdE b q=zg [tkE b q.name,if 64≤(b.slots.length:Int) then 5 else 0]:=za3 hq
   by_cases h1:0≤atL q.name (b.slots.map (·.req.name))
   ·have h1':=eq_true h1
    have hT:tkE b q.name=9:=by rw [ht,takenB,decide_eq_true h1,Bool.true_or,if_pos rfl]
    have hC:holdC l b q=9:=by rw [holdC,hE,hT,za2 (by omega),if_neg (by omega)]
    rw [hC,if_neg (by omega)]
    have qe:=aI qR (aI @hq (aI @hq' (aI @h1' (aI @e9 (aI @zbb (aI @decide_true (aI @decide_false @Bool.not_false)))))));repeat' first|refine gC (fun hc=>?_) (fun hc=>?_)<;>try contradiction|refine za (pure1044 q) ?_|refine zN (fun _=>pure1071 b.slots q.name) ?_|refine zN (fun _=>pure1046 b.wait q.name) ?_|(show zj _ _ _ _ (⟨_,.call 23,_,_,_⟩::_) _ _;refine run_callF (q:=.sl 7 []) (by first|rfl|(simp (disch:=omega) only [qG,qe,Nat.reduceAdd,Nat.reduceMul,Nat.reduceEqDiff,Nat.reduceLeDiff,reduceIte,reduceCtorEq,Nat.reduceBEq,Nat.reduceLT]<;>rfl)) ?_;(try (refine zE ?_)))|(show zj _ _ _ _ (⟨_,.call 143,_,_,_⟩::_) _ _;refine run_callF (q:=.b false) (by first|rfl|(simp (disch:=omega) only [qG,qe,Nat.reduceAdd,Nat.reduceMul,Nat.reduceEqDiff,Nat.reduceLeDiff,reduceIte,reduceCtorEq,Nat.reduceBEq,Nat.reduceLT]<;>rfl)) ?_;(try (refine zE ?_)))|refine gG ?_|show AK _;intro K H|refine H _ _ ?_;clear H K|refine gJ ?_;try exact trivial|omega
    all_goals exact .refl _
   ·have h1':=eq_false h1
    by_cases h2:0≤atL q.name (b.wait.map (·.req.name))
    ·have h2':=eq_true h2
     have hT:tkE b q.name=9:=by rw [ht,takenB,decide_eq_true h2,Bool.or_true,if_pos rfl]
     have hC:holdC l b q=9:=by rw [holdC,hE,hT,za2 (by omega),if_neg (by omega)]
     rw [hC,if_neg (by omega)]
     have qe:=aI qR (aI @hq (aI @hq' (aI @h1' (aI @h2' (aI @e9 (aI @zbb (aI @decide_true (aI @decide_false @Bool.not_false))))))));repeat' first|refine gC (fun hc=>?_) (fun hc=>?_)<;>try contradiction|refine za (pure1044 q) ?_|refine zN (fun _=>pure1071 b.slots q.name) ?_|refine zN (fun _=>pure1046 b.wait q.name) ?_|(show zj _ _ _ _ (⟨_,.call 23,_,_,_⟩::_) _ _;refine run_callF (q:=.sl 7 []) (by first|rfl|(simp (disch:=omega) only [qG,qe,Nat.reduceAdd,Nat.reduceMul,Nat.reduceEqDiff,Nat.reduceLeDiff,reduceIte,reduceCtorEq,Nat.reduceBEq,Nat.reduceLT]<;>rfl)) ?_;(try (refine zE ?_)))|(show zj _ _ _ _ (⟨_,.call 143,_,_,_⟩::_) _ _;refine run_callF (q:=.b false) (by first|rfl|(simp (disch:=omega) only [qG,qe,Nat.reduceAdd,Nat.reduceMul,Nat.reduceEqDiff,Nat.reduceLeDiff,reduceIte,reduceCtorEq,Nat.reduceBEq,Nat.reduceLT]<;>rfl)) ?_;(try (refine zE ?_)))|refine gG ?_|show AK _;intro K H|refine H _ _ ?_;clear H K|refine gJ ?_;try exact trivial|omega
     all_goals exact .refl _
    ·have h2':=eq_false h2
     have hT:tkE b q.name=0:=by rw [ht,takenB,decide_eq_false h1,decide_eq_false h2];rfl
     by_cases h64:b.slots.length=64
     ·have hC:holdC l b q=5:=by
       have h5:holdE b q=5:=by rw [hE,hT,za3 rfl,fE_one,if_pos (by omega)]
       rw [holdC,h5,if_neg (by omega)]
      have h64':((b.slots.length:Int)=64)=True:=eq_true (by omega)
      rw [hC,if_neg (by omega)]
      have qe:=aI qR (aI @hq (aI @hq' (aI @h1' (aI @h2' (aI @h64' (aI @e5 (aI @zbb (aI @decide_true (aI @decide_false @Bool.not_false)))))))));repeat' first|refine gC (fun hc=>?_) (fun hc=>?_)<;>try contradiction|refine za (pure1044 q) ?_|refine zN (fun _=>pure1071 b.slots q.name) ?_|refine zN (fun _=>pure1046 b.wait q.name) ?_|(show zj _ _ _ _ (⟨_,.call 23,_,_,_⟩::_) _ _;refine run_callF (q:=.sl 7 []) (by first|rfl|(simp (disch:=omega) only [qG,qe,Nat.reduceAdd,Nat.reduceMul,Nat.reduceEqDiff,Nat.reduceLeDiff,reduceIte,reduceCtorEq,Nat.reduceBEq,Nat.reduceLT]<;>rfl)) ?_;(try (refine zE ?_)))|(show zj _ _ _ _ (⟨_,.call 143,_,_,_⟩::_) _ _;refine run_callF (q:=.b false) (by first|rfl|(simp (disch:=omega) only [qG,qe,Nat.reduceAdd,Nat.reduceMul,Nat.reduceEqDiff,Nat.reduceLeDiff,reduceIte,reduceCtorEq,Nat.reduceBEq,Nat.reduceLT]<;>rfl)) ?_;(try (refine zE ?_)))|refine gG ?_|show AK _;intro K H|refine H _ _ ?_;clear H K|refine gJ ?_;try exact trivial|omega
      all_goals exact .refl _
     ·have h64':((b.slots.length:Int)=64)=False:=eq_false (by omega)
      have hHE:holdE b q=0:=by rw [hE,hT,za3 rfl,fE_one,if_neg (by omega)]
      obtain ⟨m1,m2,m3⟩:=sl_movs hc hn64
      have hr:=chkQ_req hq
      have hR:=pure1068 b.slots hc (fun s hs=>by have:=(movs_ok4 (hc s hs)).2;omega) (by omega)
      have hF:=pure54 l (mvS b.slots) q (both_ok hl m2) hr
      have hfr:fitR l (movF b (-1)) q=fitsB l (mvS b.slots) q:=by rw [m1,fitR_ok hl m2 hr]
      by_cases hf:fitsB l (mvS b.slots) q=true
      ·have hC:holdC l b q=0:=by rw [holdC,if_pos hHE,hfr,if_pos hf]
       have hA:=eq_true (allSl b.slots)
       rw [hC,if_pos rfl]
       have qe:=aI qR (aI @hq (aI @hq' (aI @h1' (aI @h2' (aI @h64' (aI @hf (aI @hA (aI @zaf (aI @zbb (aI @decide_true (aI @decide_false @Bool.not_true)))))))))));repeat' first|refine gC (fun hc=>?_) (fun hc=>?_)<;>try contradiction|refine za (pure1044 q) ?_|refine zN (fun _=>pure1071 b.slots q.name) ?_|refine zN (fun _=>pure1046 b.wait q.name) ?_|refine zN (fun _=>hR) ?_|refine zN (fun _=>hF) ?_|refine gG ?_|show AK _;intro K H|refine H _ _ ?_;clear H K|refine gJ ?_;try exact trivial|omega
       all_goals first|exact .refl _
      ·have hf':fitsB l (mvS b.slots) q=false:=by simpa using hf
       have hC:holdC l b q=14:=by rw [holdC,if_pos hHE,hfr,if_neg hf]
       rw [hC,if_neg (by omega)]
       have qe:=aI qR (aI @hq (aI @hq' (aI @h1' (aI @h2' (aI @h64' (aI @hf' (aI @e14 (aI @zbb (aI @decide_true (aI @decide_false @Bool.not_false))))))))));repeat' first|refine gC (fun hc=>?_) (fun hc=>?_)<;>try contradiction|refine za (pure1044 q) ?_|refine zN (fun _=>pure1071 b.slots q.name) ?_|refine zN (fun _=>pure1046 b.wait q.name) ?_|refine zN (fun _=>hR) ?_|refine zN (fun _=>hF) ?_|refine gG ?_|show AK _;intro K H|refine H _ _ ?_;clear H K|refine gJ ?_;try exact trivial|omega
       all_goals exact .refl _
  ·have hq':=eq_false hq
   have hHE:holdE b q=chkQ q:=za2 hq
   have hC:holdC l b q=chkQ q:=by rw [holdC,hHE,if_neg hq]
   rw [hC,if_neg hq]
   have qe:=aI qR (aI @hq' (aI @decide_false @Bool.not_false));repeat' first|refine gC (fun hc=>?_) (fun hc=>?_)<;>try contradiction|refine za (pure1044 q) ?_|(show zj _ _ _ _ (⟨_,.call 79,_,_,_⟩::_) _ _;refine run_callF (q:=.i .i64 0) (by first|rfl|(simp (disch:=omega) only [qG,qe,Nat.reduceAdd,Nat.reduceMul,Nat.reduceEqDiff,Nat.reduceLeDiff,reduceIte,reduceCtorEq,Nat.reduceBEq,Nat.reduceLT]<;>rfl)) ?_;(try (refine zE ?_)))|(show zj _ _ _ _ (⟨_,.call 55,_,_,_⟩::_) _ _;refine run_callF (q:=.i .i64 0) (by first|rfl|(simp (disch:=omega) only [qG,qe,Nat.reduceAdd,Nat.reduceMul,Nat.reduceEqDiff,Nat.reduceLeDiff,reduceIte,reduceCtorEq,Nat.reduceBEq,Nat.reduceLT]<;>rfl)) ?_;(try (refine zE ?_)))|(show zj _ _ _ _ (⟨_,.call 23,_,_,_⟩::_) _ _;refine run_callF (q:=.sl 7 []) (by first|rfl|(simp (disch:=omega) only [qG,qe,Nat.reduceAdd,Nat.reduceMul,Nat.reduceEqDiff,Nat.reduceLeDiff,reduceIte,reduceCtorEq,Nat.reduceBEq,Nat.reduceLT]<;>rfl)) ?_;(try (refine zE ?_)))|(show zj _ _ _ _ (⟨_,.call 143,_,_,_⟩::_) _ _;refine run_callF (q:=.b false) (by first|rfl|(simp (disch:=omega) only [qG,qe,Nat.reduceAdd,Nat.reduceMul,Nat.reduceEqDiff,Nat.reduceLeDiff,reduceIte,reduceCtorEq,Nat.reduceBEq,Nat.reduceLT]<;>rfl)) ?_;(try (refine zE ?_)))|refine gG ?_|show AK _;intro K H|refine H _ _ ?_;clear H K|refine gJ ?_;try exact trivial|omega
   all_goals exact .refl _
 ·by_cases h:holdC l b q=0
  ·rw [if_pos h,holdB,if_pos h,h]
   refine .tup ⟨.agg ⟨.sl ?_,.refl _,trivial⟩,.refl _,trivial⟩
   rw [List.map_append]
   exact .app (.refl _) ⟨wk_newS q,trivial⟩
  ·rw [if_neg h,holdB,if_neg h];exact zbw _
theorem rqW_but (L:List Req) (i:Nat) (hi:i < L.length):rqW L (i:Int)=L.take i++L.drop (i+1):=by
 have key:∀ k,k≤L.length→rqK L (i:Int) k=if k≤i then L.take k else L.take i++(L.take k).drop (i+1):=by
  intro k
  induction k with
  | zero=>intro _;rw [if_pos (by omega)];rfl
  | succ k ih=>
   intro hk
   have h:=ih (by omega)
   have hx:L[k]?=some L[k]:=List.getElem?_eq_getElem (by omega)
   have hstep:rqK L (i:Int) (k+1)=rqK L (i:Int) k++(if (k:Int)=(i:Int) then [] else [L[k]]):=by
    rw [rqK,List.range_succ,List.flatMap_append,←rqK,List.flatMap_cons,List.flatMap_nil,rqI,hx,List.append_nil]
   rw [hstep,h]
   rcases Nat.lt_trichotomy k i with h1|h1|h1
   ·rw [if_pos (by omega),if_neg (by omega),if_pos (by omega),zan hx]
   ·subst h1
    rw [if_pos (Nat.le_refl _),if_pos rfl,if_neg (by omega),List.append_nil,List.drop_eq_nil_of_le (by rw [List.length_take];omega),List.append_nil]
   ·rw [if_neg (by omega),if_neg (by omega),if_neg (by omega),zan hx,List.drop_append_of_le_length (by rw [List.length_take];omega),List.append_assoc]
 rw [rqW,key _ (Nat.le_refl _),if_neg (by omega),List.take_length]
theorem chkReq_min {q:Req} {m:Int} (h:chkReq q=0) (hm:rng m 0 1439=0):chkReq (rtQ q m)=0:=by
 unfold chkReq at h ⊢
 simp only [zq] at h ⊢
 simp only [rtQ]
 simp only [h,hm,true_and,and_true]
def butS (b:Bk) (i:Nat):List Slt:=b.slots.take i++b.slots.drop (i+1)
theorem but_mem {b:Bk} {i:Nat} {s:Slt} (h:s ∈ butS b i):s ∈ b.slots:=by
 rcases List.mem_append.1 h with h|h
 ·exact List.mem_of_mem_take h
 ·exact List.mem_of_mem_drop h
theorem but_movs {b:Bk} (h:zG b=0) {i:Nat} (hi:i < b.slots.length):movF b i=mvS (butS b i)∧zad (mvS (butS b i))=0∧(butS b i).length≤64:=by
 have hn:=chkBk_len h
 have hl:(butS b i).length≤64:=by rw [butS,List.length_append,List.length_take,List.length_drop];omega
 have:=mv_all (L:=butS b i) (fun s hs=>bk_req h (but_mem hs)) (by omega) (butS b i).length (Nat.le_refl _)
 rw [List.take_length] at this
 obtain ⟨e1,e2,_⟩:=this
 refine ⟨?_,e2,hl⟩
 rw [movF,rqW_but _ i (by rw [List.length_map];exact hi),←e1]
 congr 1
 have e:((butS b i).map (·.req)).take (butS b i).length=(butS b i).map (·.req):=List.take_of_length_le (by simp)
 rw [e,butS,List.map_append,List.map_take,List.map_drop]
theorem pure1053 (l:List Lim) (b:Bk) (c n:ByteArray) (m:Int) (hok:BkOk b) (hl:z3 l=0) (hc:zG b=0):Pure Tryz.prog 62 [.sl 11 (l.map Lim.pv),b.pv,.s c,.s n,.i .i64 m] (.tup [(rtB l b c n m).pv,.i .i64 (rtC l b c n m)]):=by
 refine zat (r:=if rtC l b c n m=0 then .tup [(chgB b n (rtS (zo b n) m)).pv,.i .i64 0] else .tup [.agg [.nilsl,.nilsl],.i .i64 (rtC l b c n m)]) ?_ ?_
 ·refine zf (cF Tryz.func62 Tryz.f62.eq_1) (by simp) fun hw X hX=>?_
  by_cases hown:ownE b c n (rng m 0 1439)=0
  ·obtain ⟨h1,h2,h3,h4⟩:=za8 hown
   obtain ⟨hI,hlt⟩:=ownI_eq hown
   have hm0:=own_e hown
   have hr:=bk_req hc (List.mem_of_getElem? h2)
   have hC:rtC l b c n m=rtE l b n (zo b n) m:=by rw [rtC,chgC,za3 hown,fE_one]
   have hat:atL n (b.slots.map (·.req.name))=(zA b n:Int):=by rw [zA];omega
   obtain ⟨m1,m2,m3⟩:=but_movs hc hlt
   generalize hso:zo b n=s at h2 h3 hC hr
   have hE:rtE l b n s m=if fitsB l (mvS (butS b (zA b n))) (rtQ s.req m)=true then 0 else 14:=by
    rw [rtE,hat,m1,fitR_ok hl m2 (chkReq_min hr hm0)]
   have ht0:=eq_true hown
   have hR:=pure1068 (butS b (zA b n)) (fun s hs=>bk_req hc (but_mem hs)) (fun s hs=>by have:=(movs_ok4 (bk_req hc (but_mem hs))).2;omega) (by omega)
   have hF:=pure54 l (mvS (butS b (zA b n))) (rtQ s.req m) (both_ok hl m2) (chkReq_min hr hm0)
   have hT:∀ k,(b.slots.map Slt.pv).take k=(b.slots.take k).map Slt.pv:=fun k=>by rw [List.map_take]
   have hD:∀ k,(b.slots.map Slt.pv).drop k=(b.slots.drop k).map Slt.pv:=fun k=>by rw [List.map_drop]
   have hA:=fun l=>eq_true (allSl l)
   have hk1:((zA b n:Int)+1).toNat=zA b n+1:=by omega
   have hn1:=hok.n
   have hP:=pure1128 b (zA b n) (rtS s m) hlt hok.n
   have hlen:(b.slots.take (zA b n)).length=zA b n:=by rw [List.length_take];omega
   have hlenD:(b.slots.drop (zA b n+1)).length=b.slots.length - (zA b n+1):=by rw [List.length_drop]
   rw [butS,List.map_append] at hR
   rw [hC,hE]
   by_cases hf:fitsB l (mvS (butS b (zA b n))) (rtQ s.req m)=true
   ·rw [if_pos hf,if_pos rfl]
    rw [butS] at hf hF
    have qe:=aI qR (aI @hI (aI @h2 (aI @ht0 (aI @hT (aI @hD (aI @hA (aI @hf (aI @hk1 (aI @hlen (aI @zaf (aI @decide_true (aI @decide_false (aI @Bool.not_true @zbb)))))))))))));repeat' first|refine gC (fun hc=>?_) (fun hc=>?_)<;>try contradiction|refine za (pure128 _ _ _) ?_|refine za (pure1127 b c n (rng m 0 1439)) ?_|refine zam (hR) ?_|refine za (hF) ?_|refine za (hP) ?_|refine gG ?_|show AK _;intro K H|refine H _ _ ?_;clear H K|refine gJ ?_;try exact trivial|omega
    all_goals first|exact .refl _
   ·have hf':fitsB l (mvS (butS b (zA b n))) (rtQ s.req m)=false:=by simpa using hf
    rw [if_neg hf,if_neg (by omega)]
    rw [butS] at hf' hF
    have qe:=aI qR (aI @hI (aI @h2 (aI @ht0 (aI @hT (aI @hD (aI @hA (aI @hf' (aI @hk1 (aI @hlen (aI @zaf (aI @decide_true (aI @decide_false (aI @Bool.not_true (aI @Bool.not_false @zbb))))))))))))));repeat' first|refine gC (fun hc=>?_) (fun hc=>?_)<;>try contradiction|refine za (pure128 _ _ _) ?_|refine za (pure1127 b c n (rng m 0 1439)) ?_|refine zam (hR) ?_|refine za (hF) ?_|refine za (hP) ?_|refine gG ?_|show AK _;intro K H|refine H _ _ ?_;clear H K|refine gJ ?_;try exact trivial|omega
    all_goals first|exact .refl _
  ·have e:rtC l b c n m=ownE b c n (rng m 0 1439):=by rw [rtC,chgC,za2 hown]
   have ht0:=eq_false hown
   rw [e,if_neg hown]
   have qe:=aI qR (aI @ht0 (aI @decide_false @Bool.not_false));repeat' first|refine gC (fun hc=>?_) (fun hc=>?_)<;>try contradiction|refine za (pure128 _ _ _) ?_|refine za (pure1127 b c n (rng m 0 1439)) ?_|refine gG ?_|show AK _;intro K H|refine H _ _ ?_;clear H K|refine gJ ?_;try exact trivial|omega
   all_goals exact .refl _
 ·by_cases h:rtC l b c n m=0
  ·rw [if_pos h,rtB,if_pos h,h];exact .refl _
  ·rw [if_neg h,rtB,if_neg h];exact zbw _
set_option maxRecDepth 100000
set_option linter.unusedVariables false
set_option linter.unusedSimpArgs false
set_option maxHeartbeats 8000000
structure Tmg where
 req:Req
 carrier:ByteArray
 slot:ByteArray
 day:Int
 minute:Int
abbrev Tmg.pv (x:Tmg):PV:=.agg [.s x.req.name,.s x.req.carrier,.s x.req.kind,.s x.req.term,.s x.req.partner,.s x.req.link,.i .i64 x.req.per.fro,.i .i64 x.req.per.to,.i .i64 x.req.per.days,.i .i64 x.req.minute,.i .i64 x.req.seats,.i .i64 x.req.size,.i .i64 x.req.noise,.s x.carrier,.s x.slot,.i .i64 x.day,.i .i64 x.minute]
theorem holdB_ok {l:List Lim} {b:Bk} {q:Req} (hb:BkOk b) (h:b.slots.length≤65):BkOk (holdB l b q):=by
 rw [holdB];split
 ·refine ⟨fun s hs=>?_,by simp only [List.length_append,List.length_singleton];omega,hb.w⟩
  rcases List.mem_append.1 hs with hs|hs
  ·exact hb.s s hs
  ·rw [List.mem_singleton.1 hs];exact ⟨by simp [newS],by simp [newS]⟩
 ·exact bk0_ok
theorem rtB_ok {l:List Lim} {b:Bk} {c n:ByteArray} {m:Int} (hb:BkOk b):BkOk (rtB l b c n m):=by
 rw [rtB];split
 ·exact chg_ok hb ⟨(sof_ok hb).1,(sof_ok hb).2⟩
 ·exact bk0_ok
theorem bckB_ok {b:Bk} {c n:ByteArray} {d:Int} (hb:BkOk b):BkOk (bckB b c n d):=by
 rw [bckB];split
 ·have ho:BkOk (bckO b n d):=chg_ok hb ⟨by have:=cutL_len (d - 1) (zo b n).ls;have:=(sof_ok (n:=n) hb).1;simp only [bckS];omega,(sof_ok hb).2⟩
  rw [bckY];split
  ·exact ho
  ·refine ⟨fun s hs=>?_,?_,hb.w⟩
   ·rcases List.mem_append.1 hs with hs|hs
    ·exact ho.s s (List.mem_of_mem_take hs)
    ·exact ho.s s (List.mem_of_mem_drop hs)
   ·have:=ho.n
    simp only [List.length_append,List.length_take,List.length_drop];omega
 ·exact bk0_ok
theorem HoldC_ok {l:List Lim} {b:Bk} {q:Req} (h:zg [z3 l,zG b]=0):HoldC l b q=holdC l b q:=if_pos h
theorem HoldB_is {l:List Lim} {b:Bk} {q:Req} (h:zg [z3 l,zG b]=0):HoldB l b q=holdB l b q:=by
 rw [HoldB,HoldC_ok h];split
 ·rfl
 ·rename_i k;rw [holdB_0 k]
theorem HoldC_no {l:List Lim} {b:Bk} {q:Req} (h:¬zg [z3 l,zG b]=0):HoldC l b q=zg [z3 l,zG b]:=if_neg h
theorem HoldB_no {l:List Lim} {b:Bk} {q:Req} (h:¬zg [z3 l,zG b]=0):HoldB l b q=bk0:=by rw [HoldB,HoldC_no h,if_neg h]
theorem same0 (e:Int) (h:¬e=0):Pure Tryz.prog 42 [bk0.pv,.i .i64 e,.agg [.nilsl,.nilsl],.i .i64 e] (.b true):=pure_in (pure1030 bk0 bk0 e bk0_ok (fun _=>rfl) (fun _=>rfl)) ⟨.refl _,.refl _,.agg ⟨.nilsl _,.nilsl _,trivial⟩,.refl _,trivial⟩
theorem pure1007 (l:List Lim) (b:Bk) (x:Tmg) (hn:l.length*112≤140737488355328):Pure Tryz.prog 8 [.sl 11 (l.map Lim.pv),b.pv,x.pv] (.b true):=by
 refine zf (cF Tryz.func8 Tryz.f8.eq_1) (by simp) fun hw X hX=>?_
 have h15:=pure1015 l b hn
 by_cases hs:(shLims l 3 && shBk b)=true
 ·rw [hs] at h15
  by_cases hq:shortB x.req=true
  ·by_cases hc:(40:Int) < x.carrier.size
   ·have hc':=eq_true hc
    have qe:=aI qR (aI @hq (aI @hc' (aI @decide_true @Bool.not_true)));repeat' first|refine gC (fun hc=>?_) (fun hc=>?_)<;>try contradiction|refine za (h15) ?_|refine zN (fun _=>pure1016 x.req) ?_|refine za (pure1017) ?_|refine gG ?_|show AK _;intro K H|refine H _ _ ?_;clear H K|refine gJ ?_;try exact trivial|omega
    all_goals exact .refl _
   by_cases hsl:(40:Int) < x.slot.size
   ·have hc':=eq_false hc
    have hs':=eq_true hsl
    have qe:=aI qR (aI @hq (aI @hc' (aI @hs' (aI @decide_true (aI @decide_false @Bool.not_true)))));repeat' first|refine gC (fun hc=>?_) (fun hc=>?_)<;>try contradiction|refine za (h15) ?_|refine zN (fun _=>pure1016 x.req) ?_|refine za (pure1017) ?_|refine gG ?_|show AK _;intro K H|refine H _ _ ?_;clear H K|refine gJ ?_;try exact trivial|omega
    all_goals exact .refl _
   have hc':=eq_false hc
   have hs':=eq_false hsl
   rw [Bool.and_eq_true] at hs
   obtain ⟨hok,hl1,hl2⟩:=sh_ok hs.2
   have hH:=pure1042 l b x.req (fun _=>hok)
   have hB:=pure1050 b x.carrier x.slot x.day (fun _=>hok)
   have hR:=pure1051 l b x.carrier x.slot x.minute (fun _=>hok)
   have hC:=pure1023 b
   have h26:=pure1026 l hn
   have h21:=pure1021 l hn
   have h23:=pure23 l
   by_cases hkb:zG b=0
   ·rw [bkTo_ok hkb bckB_0] at hB
    rw [hkb] at hC
    have rB:=pure1054 b x.carrier x.slot x.day hok (fun s hs=>(chkReq_0 (bk_req hkb hs)).1)
    rw [ref_bk hkb] at rB
    have sB:=pure1030 (bckB b x.carrier x.slot x.day) (bckB b x.carrier x.slot x.day) (bckC b x.carrier x.slot x.day) (bckB_ok hok) (fun _=>rfl) bckB_0
    by_cases hkl:z3 l=0
    ·have hF:zg [z3 l,zG b]=0:=zq.2 ⟨hkl,zq.2 ⟨hkb,rfl⟩⟩
     have hF0:zg [(0:Int),0]=0:=rfl
     rw [HoldB_is hF,HoldC_ok hF] at hH
     rw [bkTo2_ok hF rtB_0] at hR
     rw [hkl] at h23
     have rH:=pure1052 l b x.req hok hkl (fun s hs=>bk_req hkb hs) (by have:=chkBk_len hkb;omega)
     have rR:=pure1053 l b x.carrier x.slot x.minute hok hkl hkb
     have sH:=pure1030 (holdB l b x.req) (holdB l b x.req) (holdC l b x.req) (holdB_ok hok hl1) (fun _=>rfl) holdB_0
     have sR:=pure1030 (rtB l b x.carrier x.slot x.minute) (rtB l b x.carrier x.slot x.minute) (rtC l b x.carrier x.slot x.minute) (rtB_ok hok) (fun _=>rfl) rtB_0
     have qe:=aI qR (aI @hq (aI @hc' (aI @hs' (aI @hF0 (aI @zbb (aI @decide_true (aI @decide_false @Bool.not_true)))))));repeat' first|refine gC (fun hc=>?_) (fun hc=>?_)<;>try contradiction|refine za (h15) ?_|refine zN (fun _=>pure1016 x.req) ?_|refine za (h21) ?_|refine za (pure1019 b hok) ?_|refine za (hH) ?_|refine za (hB) ?_|refine za (hR) ?_|refine za (hC) ?_|refine za (h26) ?_|refine za (h23) ?_|refine za (pure1024 [_,_]) ?_|refine za (rH) ?_|refine za (rR) ?_|refine za (rB) ?_|refine za (sH) ?_|refine zN (fun _=>sB) ?_|refine zN (fun _=>sR) ?_|refine zN (fun _=>pure1017) ?_|refine gG ?_|show AK _;intro K H|refine H _ _ ?_;clear H K|refine gJ ?_;try exact trivial|omega
     all_goals exact .refl _
    ·have hF:¬zg [z3 l,zG b]=0:=by rw [za2 hkl];exact hkl
     have hF0:zg [z3 l,0]=z3 l:=za2 hkl
     have hkl':=eq_false hkl
     rw [HoldB_no hF,HoldC_no hF,za2 hkl] at hH
     rw [bkTo2_bad hF,za2 hkl] at hR
     have s0:=same0 (z3 l) hkl
     have qe:=aI qR (aI @hq (aI @hc' (aI @hs' (aI @hF0 (aI @hkl' (aI @zbb (aI @decide_true (aI @decide_false @Bool.not_true))))))));repeat' first|refine gC (fun hc=>?_) (fun hc=>?_)<;>try contradiction|refine za (h15) ?_|refine zN (fun _=>pure1016 x.req) ?_|refine za (h21) ?_|refine za (pure1019 b hok) ?_|refine za (hH) ?_|refine za (hB) ?_|refine za (hR) ?_|refine za (hC) ?_|refine za (h26) ?_|refine za (h23) ?_|refine za (pure1024 [_,_]) ?_|refine za (rB) ?_|refine za (s0) ?_|refine zN (fun _=>sB) ?_|refine zN (fun _=>s0) ?_|refine zN (fun _=>pure1017) ?_|refine gG ?_|show AK _;intro K H|refine H _ _ ?_;clear H K|refine gJ ?_;try exact trivial|omega
     all_goals exact .refl _
   ·have hkb':=eq_false hkb
    rw [bkTo_bad hkb] at hB
    have sB:=same0 (zG b) hkb
    have hF:¬zg [z3 l,zG b]=0:=fun k=>hkb (fE0 k _ (by simp))
    have hF':=eq_false hF
    rw [HoldB_no hF,HoldC_no hF] at hH
    rw [bkTo2_bad hF] at hR
    have s0:=same0 (zg [z3 l,zG b]) hF
    have qe:=aI qR (aI @hq (aI @hc' (aI @hs' (aI @hF' (aI @hkb' (aI @zbb (aI @decide_true (aI @decide_false @Bool.not_true))))))));repeat' first|refine gC (fun hc=>?_) (fun hc=>?_)<;>try contradiction|refine za (h15) ?_|refine zN (fun _=>pure1016 x.req) ?_|refine za (h21) ?_|refine za (pure1019 b hok) ?_|refine za (hH) ?_|refine za (hB) ?_|refine za (hR) ?_|refine za (hC) ?_|refine za (h26) ?_|refine za (h23) ?_|refine za (pure1024 [_,_]) ?_|refine za (s0) ?_|refine zN (fun _=>sB) ?_|refine zN (fun _=>s0) ?_|refine zN (fun _=>pure1017) ?_|refine gG ?_|show AK _;intro K H|refine H _ _ ?_;clear H K|refine gJ ?_;try exact trivial|omega
    all_goals exact .refl _
  ·have hq':shortB x.req=false:=by simpa using hq
   have qe:=aI qR (aI @hq' (aI @Bool.not_true @Bool.not_false));repeat' first|refine gC (fun hc=>?_) (fun hc=>?_)<;>try contradiction|refine za (h15) ?_|refine zN (fun _=>pure1016 x.req) ?_|refine za (pure1017) ?_|refine gG ?_|show AK _;intro K H|refine H _ _ ?_;clear H K|refine gJ ?_;try exact trivial|omega
   all_goals exact .refl _
 ·have hs':(shLims l 3 && shBk b)=false:=by simpa using hs
  rw [hs'] at h15
  have qe:=aI qR @Bool.not_false;repeat' first|refine gC (fun hc=>?_) (fun hc=>?_)<;>try contradiction|refine za (h15) ?_|refine zN (fun _=>pure1016 x.req) ?_|refine za (pure1017) ?_|refine gG ?_|show AK _;intro K H|refine H _ _ ?_;clear H K|refine gJ ?_;try exact trivial|omega
  all_goals exact .refl _
end Go.Proofs.YtahmdjadnlpjoaaGreat
namespace Go.Proofs.YtahmdjadnlpjoaaGreat
open Go.RowKit Go.ChangeShapes Go.WideShapes Go.ChangeAt
set_option maxRecDepth 100000
set_option linter.unusedVariables false
set_option linter.unusedSimpArgs false
set_option maxHeartbeats 4000000
def limT:List CP:=[.s,.s,.s,jT,jT,jT,jT,jT,jT,jT,jT]
theorem lim_of {l:List PV} (h:FitAll (Fit 5) limT l):∃ L:Lim,l=L.cells:=by
 match l,h with
 | [_,_,_,_,_,_,_,_,_,_,_],⟨⟨a,ha⟩,⟨b,hb⟩,⟨c,hc⟩,⟨d,hd⟩,⟨e,he⟩,⟨f,hf⟩,⟨g,hg⟩,⟨i,hi⟩,⟨j,hj⟩,⟨k,hk⟩,⟨m,hm⟩,_⟩=>
  subst ha hb hc hd he hf hg hi hj hk hm
  exact ⟨⟨a,b,c,d,e,f,g,⟨i,j,k⟩,m⟩,rfl⟩
theorem par22:parP Tryz.prog 6 64=some (false,[.sl true limT]):=by kernel_rfl
theorem und22:Tryz.prog.underlying 64=some (.slice 118):=by kernel_rfl
theorem byt46:Tryz.prog.bytesOf 118=112:=by kernel_rfl
theorem fit_lims {p:PV} (h:FitPar Tryz.prog 6 64 p):∃ L:List Lim,p=.sl 11 (L.map Lim.pv)∧L.length*112≤140737488355328:=by
 obtain ⟨⟨ag,c,l,hp,rfl,hl⟩,hb⟩:=h
 rw [par22] at hp
 simp only [Option.some.injEq,Prod.mk.injEq] at hp
 obtain ⟨rfl,rfl⟩:=hp
 match l,hl with
 | [q],⟨⟨xs,hq,hx⟩,_⟩=>
  subst hq
  obtain ⟨L,rfl⟩:=list_of (f:=Lim.pv) (xs:=xs) fun x h=>by
   obtain ⟨l,rfl,hf⟩:=hx x h
   obtain ⟨L,rfl⟩:=lim_of hf
   exact ⟨L,rfl⟩
  refine ⟨L,rfl,?_⟩
  have:=hb 118 _ _ und22 rfl
  rw [byt46,List.length_map] at this
  unfold reachBytes at this;omega
theorem parT:parP Tryz.prog 6 121=some (true,[.s,.s,.s,.s,.s,.s,jT,jT,jT,jT,jT,jT,jT,.s,.s,jT,jT]):=by kernel_rfl
theorem fit_tmg {p:PV} (h:FitPar Tryz.prog 6 121 p):∃ x:Tmg,p=x.pv:=by
 obtain ⟨⟨ag,c,l,hp,rfl,hl⟩,hb⟩:=h
 rw [parT] at hp
 simp only [Option.some.injEq,Prod.mk.injEq] at hp
 obtain ⟨rfl,rfl⟩:=hp
 match l,hl with
 | [_,_,_,_,_,_,_,_,_,_,_,_,_,_,_,_,_],⟨⟨a,ha⟩,⟨b,hb⟩,⟨c,hc⟩,⟨d,hd⟩,⟨e,he⟩,⟨f,hf⟩,⟨g,hg⟩,⟨i,hi⟩,⟨j,hj⟩,⟨k,hk⟩,⟨m,hm⟩,⟨o,ho⟩,⟨q,hq⟩,⟨r,hr⟩,⟨s,hs⟩,⟨t,ht⟩,⟨u,hu⟩,_⟩=>
  subst ha hb hc hd he hf hg hi hj hk hm ho hq hr hs ht hu
  exact ⟨⟨⟨a,b,c,d,e,f,⟨g,i,j⟩,k,m,o,q⟩,r,s,t,u⟩,rfl⟩
theorem lifted1007 (os:Os) (started:os.Started) (H:Type) (enc:TypeId × Value→H):ReturnsInHanded {} Tryz.checked os 8 .any (Rows.tradeTimesSpec.pre6 enc Tryz.prog Tryz.f8 Rows.tradeTimesRow.domain false) (Rows.tradeTimesSpec.post enc Tryz.prog Tryz.f8 false true false false):=by
 refine returnsInHanded_of_change_shaped (C:=Tryz.checked) own started (by kernel_rfl) Tryz.func8
  (ChangeSpec.witness6 (enc:=enc) (C:=Tryz.checked) false ⟨#[],#[.slice none 0 0,.agg #[.slice none 0 0,.slice none 0 0],.agg #[zs,zs,zs,zs,zs,zs,zi,zi,zi,zi,zi,zi,zi,zs,zs,zi,zi]],[]⟩ 8 (by kernel_rfl) (by kernel_rfl) (by kernel_rfl) (by kernel_rfl)) ?_
 intro W base args ds gs before hval hW _ hsz _ _
 refine law_contract (C:=Tryz.checked) (n:=6) (tb:=4) laid (by kernel_rfl) rfl (fun H ds hd=>?_) (by kernel_rfl) und4 (by kernel_rfl) (fun ps hps=>?_) W base args ds gs before hval hW hsz
 ·match ds,hd with
  | [_,_,_],_=>rfl
 ·match ps,hps with
  | [a0,a1,a2],⟨h0,h1,h2,_⟩=>
   obtain ⟨l,rfl,hn⟩:=fit_lims h0
   obtain ⟨b,rfl⟩:=fit_bk h1
   obtain ⟨x,rfl⟩:=fit_tmg h2
   exact pure1007 l b x hn
theorem e1_1007:(Rows.tradeTimesRow.inPlace == Tryz.prog.inPlace 8)=true:=by kernel_rfl
theorem e2_1007:(Rows.tradeTimesRow.unfollowed == Tryz.prog.unfollowed 8)=true:=by kernel_rfl
theorem e3_1007:(Rows.tradeTimesRow.recurses == Tryz.prog.recurses 8)=true:=by kernel_rfl
theorem e4_1007:(Rows.tradeTimesRow.named == Tryz.prog.varsNamed 8)=true:=by kernel_rfl
theorem e5_1007:Tryz.checked.prog.funcNamed Rows.tradeTimesRow.func=some 8:=by kernel_rfl
theorem e6_1007:joinedFacts Tryz.prog 8 Tryz.f8 Rows.tradeTimesSpec Rows.tradeTimesRow=true:=
 joined_of (by as_aux_lemma=>kernel_rfl) laid rowed (by as_aux_lemma=>kernel_rfl) e1_1007 e2_1007 e3_1007 e4_1007 (by as_aux_lemma=>kernel_rfl) (by as_aux_lemma=>kernel_rfl) (by as_aux_lemma=>kernel_rfl) (by as_aux_lemma=>kernel_rfl) (by as_aux_lemma=>kernel_rfl)
theorem e7_1007:Tryz.f8.isInstance Tryz.prog Rows.tradeTimesRow.origin Rows.tradeTimesRow.targs:=of_decide_eq_true (by kernel_rfl)
theorem e8_1007:Tryz.f8.isWrapper Tryz.prog Rows.tradeTimesRow.wrapper Rows.tradeTimesRow.mainSum:=by
 unfold Func.isWrapper;first|(rw [if_pos (by decide +kernel)];kernel_rfl)|(rw [if_neg (by decide +kernel)];exact ⟨rfl,rfl⟩)
theorem times_over:Rows.tradeTimesRow.holds Tryz.pinned (OpenSpec.ofChange Rows.tradeTimesSpec):=
 OpenClaim.holds_of_wide 8 Tryz.f8 rfl rfl rfl rfl rfl rfl rfl ⟨rfl,rfl,rfl,rfl,rfl⟩ rfl rfl rfl rfl rfl e5_1007 Tryz.func8 e6_1007 e7_1007 e8_1007
  (fun os started H enc _=>lifted1007 os started H enc)
theorem times_proved:Rows.TradeTimesSaid:=times_over
end Go.Proofs.YtahmdjadnlpjoaaGreat
