/- Contracts of functions that the proof uses, shared by the claims of this seat; no statement of its own. Part 65. No conditions. -/
import Derived.Test.YtahmdjadnlpjoaaGreatK30
import Derived.Test.YtahmdjadnlpjoaaGreatK33
import Derived.Test.YtahmdjadnlpjoaaGreatK36
set_option linter.all false
set_option maxHeartbeats 8000000
namespace Go.Proofs.YtahmdjadnlpjoaaGreat
open Go.RowKit
set_option maxRecDepth 100000
set_option linter.unusedVariables false
set_option linter.unusedSimpArgs false
set_option maxHeartbeats 8000000
abbrev leaS (A:List Lea):PV:=.sl 3 (A.map Lea.pv)
theorem flatL_next {L:List (List Lea)} {k:Nat} {x:List Lea} (h:L[k]?=some x):(L.take (k+1)).flatten=(L.take k).flatten++x:=by
 rw [zan h,List.flatten_append];simp
theorem flatL_le (L:List (List Lea)) (k:Nat):(L.take k).flatten.length≤L.flatten.length:=by
 conv=>rhs;rw [←List.take_append_drop k L,List.flatten_append,List.length_append]
 omega
theorem pure1192 (L:List (List Lea)) (hn:L.flatten.length≤100000) (hm:L.length≤1000):Pure Tryz.prog 204 [.sl 1 (L.map leaS)] (leaS L.flatten):=by
 refine zf (cF Tryz.func204 Tryz.f204.eq_1) (by simp) fun hw X hX=>?_
 repeat' first|refine gC (fun hc=>?_) (fun hc=>?_)<;>try contradiction|refine gG ?_|show AK _;intro K H|refine H _ _ ?_;clear H K|refine gJ ?_;try exact trivial|omega
 refine zk (κ:=Nat) (fun k=>⟨[(0,.p (.sl 1 (L.map leaS))),(3,.p (.i .i64 ((L.take k).flatten.length))),(9,.p (.sl 1 (L.map leaS))),(10,.p (.i .i64 L.length)),(11,.p (.i .i64 k))],[],[],false⟩) (fun k=>k≤L.length) (fun k=>L.length - k) 0 ?_ ?_ ?_
 ·exact sS
 ·simp
 ·intro k hk
  have hl:=flatL_le L k
  have hl1:=flatL_le L (k+1)
  repeat first|refine gG ?_|show AK _;intro K H|refine H _ _ ?_;clear H K|refine gJ ?_;try exact trivial|omega
  (refine gC (fun hc=>?_) (fun hc=>?_)<;>try contradiction)
  ·obtain ⟨x,hx⟩:=zn (i:=k) (l:=L) (by omega)
   have hnx:=flatL_next hx
   have hlx:(L.take (k+1)).flatten.length=(L.take k).flatten.length+x.length:=by rw [hnx,List.length_append]
   have qe:=aI qR @hx;repeat' first|refine gC (fun hc=>?_) (fun hc=>?_)<;>try contradiction|refine gG ?_|show AK _;intro K H|refine H _ _ ?_;clear H K|refine gJ ?_;try exact trivial|omega
   all_goals exact ⟨k+1,by omega,by omega,by simp [hlx]⟩
  ·have e:k=L.length:=by omega
   subst e
   rw [List.take_length]
   by_cases h0:L.flatten.length=0
   ·have hz:L.flatten=[]:=List.eq_nil_of_length_eq_zero h0
    rw [h0]
    have qe:=@qR;repeat' first|refine gC (fun hc=>?_) (fun hc=>?_)<;>try contradiction|refine zm [(900,900)] (acts1247z) ?_|refine gG ?_|show AK _;intro K H|refine H _ _ ?_;clear H K|refine gJ ?_;try exact trivial|omega
    refine zaO 900 102 3 [(6,.row 900 0),(25,.p (.sl 1 (L.map leaS))),(26,.p (.i .i64 L.length)),(27,.p (.i .i64 0))] [] ?_ ?_
    ·simp only [Own,zaL,zaB,zbt,zay,qS,Nat.reduceAdd,Nat.reduceMul,Nat.reduceEqDiff,Nat.reduceLeDiff,reduceIte,reduceCtorEq,Nat.reduceBEq,Nat.reduceLT,za7,rn,rens,LV.ren,LObj.ren]
    refine zk (κ:=Nat) (fun k=>⟨[(6,.row 900 (L.take k).flatten.length),(25,.p (.sl 1 (L.map leaS))),(26,.p (.i .i64 L.length)),(27,.p (.i .i64 k))],[(900,.row 102 3 ((L.take k).flatten.map Lea.pv) false)],[],false⟩) (fun k=>k≤L.length) (fun k=>L.length - k) 0 ?_ ?_ ?_
    ·simp only [qS,Nat.reduceAdd,Nat.reduceMul,Nat.reduceEqDiff,Nat.reduceLeDiff,reduceIte,reduceCtorEq,Nat.reduceBEq,Nat.reduceLT,za7,rn,rens,LV.ren,LObj.ren]<;>simp
    ·simp
    ·intro k hk
     have hl:=flatL_le L k
     have hl1:=flatL_le L (k+1)
     repeat first|refine gG ?_|show AK _;intro K H|refine H _ _ ?_;clear H K|refine gJ ?_;try exact trivial|omega
     (refine gC (fun hc=>?_) (fun hc=>?_)<;>try contradiction)
     ·obtain ⟨x,hx⟩:=zn (i:=k) (l:=L) (by omega)
      have hnx:=flatL_next hx
      have hlx:(L.take (k+1)).flatten.length=(L.take k).flatten.length+x.length:=by rw [hnx,List.length_append]
      have hA:=eq_true (allLe x)
      have qe:=aI qR (aI @hx @hA);repeat' first|refine gC (fun hc=>?_) (fun hc=>?_)<;>try contradiction|refine gG ?_|show AK _;intro K H|refine H _ _ ?_;clear H K|refine gJ ?_;try exact trivial|omega
      all_goals exact ⟨k+1,by omega,by omega,by simp [hlx],by rw [hnx];simp⟩
     ·have e:k=L.length:=by omega
      subst e
      have ht:L.take L.length=L:=List.take_length
      have qe:=aI qR @ht;repeat' first|refine gC (fun hc=>?_) (fun hc=>?_)<;>try contradiction|refine gG ?_|show AK _;intro K H|refine H _ _ ?_;clear H K|refine gJ ?_;try exact trivial|omega
      all_goals exact .refl _
   ·have qe:=@qR;repeat' first|refine gC (fun hc=>?_) (fun hc=>?_)<;>try contradiction|refine zm [(900,900)] (acts1247 L.flatten.length (by omega) (by omega)) ?_|refine gG ?_|show AK _;intro K H|refine H _ _ ?_;clear H K|refine gJ ?_;try exact trivial|omega
    refine zk (κ:=Nat) (fun k=>⟨[(6,.row 900 (L.take k).flatten.length),(25,.p (.sl 1 (L.map leaS))),(26,.p (.i .i64 L.length)),(27,.p (.i .i64 k))],[(900,.row 102 3 ((L.take k).flatten.map Lea.pv) false)],[],false⟩) (fun k=>k≤L.length) (fun k=>L.length - k) 0 ?_ ?_ ?_
    ·simp only [qS,Nat.reduceAdd,Nat.reduceMul,Nat.reduceEqDiff,Nat.reduceLeDiff,reduceIte,reduceCtorEq,Nat.reduceBEq,Nat.reduceLT,za7,rn,rens,LV.ren,LObj.ren]<;>simp
    ·simp
    ·intro k hk
     have hl:=flatL_le L k
     have hl1:=flatL_le L (k+1)
     repeat first|refine gG ?_|show AK _;intro K H|refine H _ _ ?_;clear H K|refine gJ ?_;try exact trivial|omega
     (refine gC (fun hc=>?_) (fun hc=>?_)<;>try contradiction)
     ·obtain ⟨x,hx⟩:=zn (i:=k) (l:=L) (by omega)
      have hnx:=flatL_next hx
      have hlx:(L.take (k+1)).flatten.length=(L.take k).flatten.length+x.length:=by rw [hnx,List.length_append]
      have hA:=eq_true (allLe x)
      have qe:=aI qR (aI @hx @hA);repeat' first|refine gC (fun hc=>?_) (fun hc=>?_)<;>try contradiction|refine gG ?_|show AK _;intro K H|refine H _ _ ?_;clear H K|refine gJ ?_;try exact trivial|omega
      all_goals exact ⟨k+1,by omega,by omega,by simp [hlx],by rw [hnx];simp⟩
     ·have e:k=L.length:=by omega
      subst e
      have ht:L.take L.length=L:=List.take_length
      have qe:=aI qR @ht;repeat' first|refine gC (fun hc=>?_) (fun hc=>?_)<;>try contradiction|refine gG ?_|show AK _;intro K H|refine H _ _ ?_;clear H K|refine gJ ?_;try exact trivial|omega
      all_goals exact .refl _
def recI (s:Slt) (d:Int):Int:=idxF (fun l=>decide (l.fro≤d) && decide (d≤l.to)) s.ls
def recE (s:Slt) (d:Int):Int:=if recI s d < 0 then 7 else 0
def recL (s:Slt) (d:Int):List Lea:=s.ls.take (recI s d).toNat++(cutL (d - 1) ((s.ls.take ((recI s d).toNat+1)).drop (recI s d).toNat)++s.ls.drop ((recI s d).toNat+1))
def recS (s:Slt) (d:Int):Slt:=⟨s.req,s.holder,recL s d,s.sh⟩
theorem acts1191 (L:List Slt) (i:Nat) (s:Slt) (d:Int) (hs:L[i]?=some s) (hok:SlOk s) (hd:0≤d∧d≤99999):Acts Tryz.prog 203 [.ep 900 L.length i 0,.p (.ip (.i .i64 d) 0)] [(900,.row 59 16 (L.map Slt.pv) false)] (.p (.i .i64 (recE s d)))
  [(900,.row 59 16 (if recE s d=0 then (L.map Slt.pv).set i (recS s d).pv else L.map Slt.pv) false)]:=by
 have hi:i < L.length:=(List.getElem?_eq_some_iff.1 hs).1
 have hi':i < (L.map Slt.pv).length:=by simpa using hi
 have hg:=fun a=>set_get (L.map Slt.pv) i a hi'
 obtain ⟨hl,_⟩:=hok
 obtain ⟨hd0,hd1⟩:=hd
 by_cases h:recI s d < 0
 ·have hE:recE s d=7:=if_pos h
  rw [hE,if_neg (by decide)]
  have h1:(idxF (fun l=>decide (l.fro≤d) && decide (d≤l.to)) s.ls < 0)=True:=eq_true h
  refine zS (cF Tryz.func203 Tryz.f203.eq_1) (by simp) (by simp [scPs,scP,zl]) (by simp [scObj]) ⟨rfl,trivial⟩ (by simp [scObj]) (by simp [FolL,zl]) fun X hX=>?_
  unfold zD ghO
  have qe:=aI qR (aI @qN (aI @gLV.eq_2 (aI @hs (aI @h1 (aI @rtN (aI @rtR @decide_true))))));repeat' first|refine gC (fun hc=>?_) (fun hc=>?_)<;>try contradiction|refine za (pure1105 s d) ?_|refine gG ?_|show AK _;intro K H|refine H _ _ ?_;clear H K|refine gJ ?_;try exact trivial|omega
  all_goals exact .inl (.mk1 (h2:=by simp only [qS,Nat.reduceAdd,Nat.reduceMul,Nat.reduceEqDiff,Nat.reduceLeDiff,reduceIte,reduceCtorEq,Nat.reduceBEq,Nat.reduceLT,keepG.eq_1,keepG.eq_2,gLV.eq_2]<;>simp))
 ·have hE:recE s d=0:=if_neg h
  rw [hE,if_pos rfl]
  obtain ⟨k,hk⟩:=Int.eq_ofNat_of_zero_le (show 0≤recI s d by omega)
  have hj:idxF (fun l=>decide (l.fro≤d) && decide (d≤l.to)) s.ls=(k:Int):=hk
  have hlt:k < s.ls.length:=by
   have:=idxF_lt (fun l:Lea=>decide (l.fro≤d) && decide (d≤l.to)) s.ls
   rw [hj] at this;omega
  have hk0:((k:Int)).toNat=k:=by omega
  have hk1:((k:Int)+1).toNat=k+1:=by omega
  have h1:((k:Int) < 0)=False:=eq_false (by omega)
  have hT:∀ (l:List Lea) (m:Nat),(l.map Lea.pv).take m=(l.take m).map Lea.pv:=fun l m=>by rw [List.map_take]
  have hD:∀ (l:List Lea) (m:Nat),(l.map Lea.pv).drop m=(l.drop m).map Lea.pv:=fun l m=>by rw [List.map_drop]
  have hF:[s.ls.take k,cutL (d - 1) ((s.ls.take (k+1)).drop k),s.ls.drop (k+1)].flatten=s.ls.take k++(cutL (d - 1) ((s.ls.take (k+1)).drop k)++s.ls.drop (k+1)):=by simp
  have hS:recS s d=⟨s.req,s.holder,s.ls.take k++(cutL (d - 1) ((s.ls.take (k+1)).drop k)++s.ls.drop (k+1)),s.sh⟩:=by
   rw [recS,recL,hk];simp
  have hc:=cutL_len (d - 1) ((s.ls.take (k+1)).drop k)
  have hc2:((s.ls.take (k+1)).drop k).length≤s.ls.length:=by simp;omega
  have hfl:[s.ls.take k,cutL (d - 1) ((s.ls.take (k+1)).drop k),s.ls.drop (k+1)].flatten.length≤100000:=by
   rw [hF];simp only [List.length_append,List.length_take,List.length_drop] at hc hc2 ⊢;omega
  refine zS (cF Tryz.func203 Tryz.f203.eq_1) (by simp) (by simp [scPs,scP,zl]) (by simp [scObj]) ⟨rfl,trivial⟩ (by simp [scObj]) (by simp [FolL,zl]) fun X hX=>?_
  unfold zD ghO
  have h1192:=pure1192 [s.ls.take k,cutL (d - 1) ((s.ls.take (k+1)).drop k),s.ls.drop (k+1)] hfl (by simp)
  rw [hF] at h1192
  have qe:=aI qR (aI @qN (aI @gLV.eq_2 (aI @hs (aI @hg (aI @hj (aI @h1 (aI @hk0 (aI @hk1 (aI @hT (aI @hD (aI @List.set_set.{0} (aI @List.length_set.{0} (aI @rtN (aI @rtR @decide_false))))))))))))));repeat' first|refine gC (fun hc=>?_) (fun hc=>?_)<;>try contradiction|refine za (pure1105 s d) ?_|refine za (pure1193 ((s.ls.take (k+1)).drop k) (d - 1) (by omega)) ?_|refine zam (h1192) ?_|refine gG ?_|show AK _;intro K H|refine H _ _ ?_;clear H K|refine gJ ?_;try exact trivial|omega
  rw [hS]
  exact .inl (.mk1 (h2:=by simp only [qS,Nat.reduceAdd,Nat.reduceMul,Nat.reduceEqDiff,Nat.reduceLeDiff,reduceIte,reduceCtorEq,Nat.reduceBEq,Nat.reduceLT,keepG.eq_1,keepG.eq_2,gLV.eq_2]<;>simp))
theorem slotOk {b:Bk} (hb:BkOk b) {n:ByteArray} (h:b.slots[zA b n]?=some (zo b n)):SlOk (zo b n):=hb.s _ (List.mem_of_getElem? h)
theorem rng_in {d a c:Int} (h:rng d a c=0):a≤d∧d≤c:=rng_0.1 h
def reC (b:Bk) (c n:ByteArray) (d:Int):Int:=chgC b c n (rng d 0 99999) (recE (zo b n) d)
def reB (b:Bk) (c n:ByteArray) (d:Int):Bk:=if reC b c n d=0 then chgB b n (recS (zo b n) d) else bk0
theorem own_e {b:Bk} {c n:ByteArray} {e:Int} (h:ownE b c n e=0):e=0:=fE0 (za8 h).2.2.2 _ (by simp)
theorem pure1106 (b:Bk) (c n:ByteArray) (d:Int) (hb:BkOk b):Pure Tryz.prog 123 [b.pv,.s c,.s n,.i .i64 d] (.tup [(reB b c n d).pv,.i .i64 (reC b c n d)]):=by
 have hch:=changedP (caps:=[.ip (.i .i64 d) 0]) b c n (rng d 0 99999) (recE (zo b n) d) (recS (zo b n) d) (recS (zo b n) d).pv (b.slots.map Slt.pv) hb (.refl _) (by simp) fun h=>acts1191 b.slots (zA b n) (zo b n) d (za8 h).2.1 (slotOk hb (za8 h).2.1) (rng_in (own_e h))
 refine zf (cF Tryz.func123 Tryz.f123.eq_1) (by simp) fun hw X hX=>?_
 have qe:=aI qR @qN;repeat' first|refine gC (fun hc=>?_) (fun hc=>?_)<;>try contradiction|refine za (pure1102 d) ?_|refine zam (hch) ?_|refine gG ?_|show AK _;intro K H|refine H _ _ ?_;clear H K|refine gJ ?_;try exact trivial|omega
 exact .refl _
theorem reB_0 {b:Bk} {c n:ByteArray} {d:Int} (h:reC b c n d≠0):reB b c n d=bk0:=if_neg h
theorem pure1038 (b:Bk) (c n:ByteArray) (d:Int) (hb:zG b=0→BkOk b):Pure Tryz.prog 48 [b.pv,.s c,.s n,.i .i64 d] (.tup [(BkTo b (reB b c n d) (reC b c n d)).1.pv,.i .i64 (BkTo b (reB b c n d) (reC b c n d)).2]):=by
 by_cases h:zG b=0
 ·have e1:(zG b=0)=True:=eq_true h
  rw [bkTo_ok h reB_0]
  refine zf (cF Tryz.func48 Tryz.f48.eq_1) (by simp) fun hw X hX=>?_
  have qe:=aI qR (aI @qN @e1);repeat' first|refine gC (fun hc=>?_) (fun hc=>?_)<;>try contradiction|refine za (zX b) ?_|refine za (pure1106 b c n d (hb h)) ?_|refine gG ?_|show AK _;intro K H|refine H _ _ ?_;clear H K|refine gJ ?_;try exact trivial|omega
  exact .refl _
 ·have e1:(zG b=0)=False:=eq_false h
  rw [bkTo_bad h]
  refine zat (r:=.tup [.agg [.nilsl,.nilsl],.i .i64 (zG b)]) ?_ (zbw _)
  refine zf (cF Tryz.func48 Tryz.f48.eq_1) (by simp) fun hw X hX=>?_
  have qe:=aI qR (aI @qN @e1);repeat' first|refine gC (fun hc=>?_) (fun hc=>?_)<;>try contradiction|refine za (zX b) ?_|refine gG ?_|show AK _;intro K H|refine H _ _ ?_;clear H K|refine gJ ?_;try exact trivial|omega
  exact .refl _
end Go.Proofs.YtahmdjadnlpjoaaGreat
