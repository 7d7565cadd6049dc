/- Contracts of functions, for the claim. No conditions. -/
import Derived.Test.YtijgimeokgbifaaGreatK24
import Derived.Test.YtijgimeokgbifaaGreatK26
import Derived.Test.YtijgimeokgbifaaGreatK28
set_option linter.all false
set_option maxHeartbeats 8000000
set_option maxRecDepth 100000
namespace Go.Proofs.YtijgimeokgbifaaGreat
open Go.RowKit
abbrev zuH (A:List Lea):PV:=.sl 3 (A.map Lea.pv)
theorem zdY {L:List (List Lea)} {k:Nat} {x:List Lea} (h:L[k]?=some x):(L.take (k+1)).flatten=(L.take k).flatten++x:=by
 rw [zan h,List.flatten_append];simp
theorem zcT (L:List (List Lea)) (k:Nat):(L.take k).flatten.length<=L.flatten.length:=by
 conv=>rhs;rw [<-List.take_append_drop k L,List.flatten_append,List.length_append]
 omega
theorem zqN (L:List (List Lea)) (hn:L.flatten.length<=100000) (hm:L.length<=1000):Pure Tryz.prog 151 [.sl 1 (L.map zuH)] (zuH L.flatten):=by
 refine zf (cF Tryz.func151 Tryz.f151.eq_1) (by simp) λhw X hX=>?_
 repeat' first|refine gC ?_ ?_<;>intro hc<;>try contradiction|refine gG ?_|show AK _;intro K H|refine H _ _ ?_;clear H K|refine gJ ?_;try exact trivial|omega
 refine zj (κ:=Nat) (λk=>⟨[(0,.p (.sl 1 (L.map zuH))),(3,.p (.i .i64 ((L.take k).flatten.length))),(9,.p (.sl 1 (L.map zuH))),(10,.p (.i .i64 L.length)),(11,.p (.i .i64 k))],[],[],false⟩) (λk=>k<=L.length) (λk=>L.length - k) 0 ?_ ?_ ?_
 ·exact sS
 ·simp
 ·intro k hk
  have hl:=zcT L k
  have hl1:=zcT L (k+1)
  repeat first|refine gG ?_|show AK _;intro K H|refine H _ _ ?_;clear H K|refine gJ ?_;try exact trivial|omega
  (refine gC ?_ ?_<;>intro hc<;>try contradiction)
  ·obtain ⟨x,hx⟩:=zm (i:=k) (l:=L) (by omega)
   have hnx:=zdY hx
   have hlx:(L.take (k+1)).flatten.length=(L.take k).flatten.length+x.length:=by rw [hnx,List.length_append]
   have qe:=aI qR @hx;repeat' first|refine gC ?_ ?_<;>intro hc<;>try contradiction|refine gG ?_|show AK _;intro K H|refine H _ _ ?_;clear H K|refine gJ ?_;try exact trivial|omega
   all_goals exact ⟨k+1,by omega,by omega,by simp [hlx]⟩
  ·have e:k=L.length:=by omega
   subst e
   rw [List.take_length]
   by_cases h0:L.flatten.length=0
   ·have hz:L.flatten=[]:=List.eq_nil_of_length_eq_zero h0
    rw [h0]
    have qe:=@qR;repeat' first|refine gC ?_ ?_<;>intro hc<;>try contradiction|refine zl [(900,900)] (zpd) ?_|refine gG ?_|show AK _;intro K H|refine H _ _ ?_;clear H K|refine gJ ?_;try exact trivial|omega
    refine zaP 900 91 3 [(6,.row 900 0),(25,.p (.sl 1 (L.map zuH))),(26,.p (.i .i64 L.length)),(27,.p (.i .i64 0))] [] ?_ ?_
    ·simp only [Own,zaM,zaB,zbt,zay,qS,seval,za7,rn,rens,LV.ren,LObj.ren]
    refine zj (κ:=Nat) (λk=>⟨[(6,.row 900 (L.take k).flatten.length),(25,.p (.sl 1 (L.map zuH))),(26,.p (.i .i64 L.length)),(27,.p (.i .i64 k))],[(900,.row 91 3 ((L.take k).flatten.map Lea.pv) false)],[],false⟩) (λk=>k<=L.length) (λk=>L.length - k) 0 ?_ ?_ ?_
    ·simp only [qS,seval,za7,rn,rens,LV.ren,LObj.ren]<;>simp
    ·simp
    ·intro k hk
     have hl:=zcT L k
     have hl1:=zcT L (k+1)
     repeat first|refine gG ?_|show AK _;intro K H|refine H _ _ ?_;clear H K|refine gJ ?_;try exact trivial|omega
     (refine gC ?_ ?_<;>intro hc<;>try contradiction)
     ·obtain ⟨x,hx⟩:=zm (i:=k) (l:=L) (by omega)
      have hnx:=zdY hx
      have hlx:(L.take (k+1)).flatten.length=(L.take k).flatten.length+x.length:=by rw [hnx,List.length_append]
      have hA:=eq_true (zvR x)
      have qe:=aI qR (aI @hx @hA);repeat' first|refine gC ?_ ?_<;>intro hc<;>try contradiction|refine gG ?_|show AK _;intro K H|refine H _ _ ?_;clear H K|refine gJ ?_;try exact trivial|omega
      all_goals exact ⟨k+1,by omega,by omega,by simp [hlx],by rw [hnx];simp⟩
     ·have e:k=L.length:=by omega
      subst e
      have ht:L.take L.length=L:=List.take_length
      have qe:=aI qR @ht;repeat' first|refine gC ?_ ?_<;>intro hc<;>try contradiction|refine gG ?_|show AK _;intro K H|refine H _ _ ?_;clear H K|refine gJ ?_;try exact trivial|omega
      all_goals exact .refl _
   ·have qe:=@qR;repeat' first|refine gC ?_ ?_<;>intro hc<;>try contradiction|refine zl [(900,900)] (zsr L.flatten.length (by omega) (by omega)) ?_|refine gG ?_|show AK _;intro K H|refine H _ _ ?_;clear H K|refine gJ ?_;try exact trivial|omega
    refine zj (κ:=Nat) (λk=>⟨[(6,.row 900 (L.take k).flatten.length),(25,.p (.sl 1 (L.map zuH))),(26,.p (.i .i64 L.length)),(27,.p (.i .i64 k))],[(900,.row 91 3 ((L.take k).flatten.map Lea.pv) false)],[],false⟩) (λk=>k<=L.length) (λk=>L.length - k) 0 ?_ ?_ ?_
    ·simp only [qS,seval,za7,rn,rens,LV.ren,LObj.ren]<;>simp
    ·simp
    ·intro k hk
     have hl:=zcT L k
     have hl1:=zcT L (k+1)
     repeat first|refine gG ?_|show AK _;intro K H|refine H _ _ ?_;clear H K|refine gJ ?_;try exact trivial|omega
     (refine gC ?_ ?_<;>intro hc<;>try contradiction)
     ·obtain ⟨x,hx⟩:=zm (i:=k) (l:=L) (by omega)
      have hnx:=zdY hx
      have hlx:(L.take (k+1)).flatten.length=(L.take k).flatten.length+x.length:=by rw [hnx,List.length_append]
      have hA:=eq_true (zvR x)
      have qe:=aI qR (aI @hx @hA);repeat' first|refine gC ?_ ?_<;>intro hc<;>try contradiction|refine gG ?_|show AK _;intro K H|refine H _ _ ?_;clear H K|refine gJ ?_;try exact trivial|omega
      all_goals exact ⟨k+1,by omega,by omega,by simp [hlx],by rw [hnx];simp⟩
     ·have e:k=L.length:=by omega
      subst e
      have ht:L.take L.length=L:=List.take_length
      have qe:=aI qR @ht;repeat' first|refine gC ?_ ?_<;>intro hc<;>try contradiction|refine gG ?_|show AK _;intro K H|refine H _ _ ?_;clear H K|refine gJ ?_;try exact trivial|omega
      all_goals exact .refl _
def ztM (s:Slt) (d:Int):Int:=zcY (λl=>decide (l.fro<=d) && decide (d<=l.to)) s.ls
def zv1 (s:Slt) (d:Int):Int:=if ztM s d < 0 then 7 else 0
def recL (s:Slt) (d:Int):List Lea:=s.ls.take (ztM s d).toNat++(zhh (d - 1) ((s.ls.take ((ztM s d).toNat+1)).drop (ztM s d).toNat)++s.ls.drop ((ztM s d).toNat+1))
def zv0 (s:Slt) (d:Int):Slt:=⟨s.req,s.holder,recL s d,s.sh⟩
theorem zsw (L:List Slt) (i:Nat) (s:Slt) (d:Int) (hs:L[i]?=some s) (hok:zlc s) (hd:0<=d/\d<=99999):Acts Tryz.prog 150 [.ep 900 L.length i 0,.p (.ip (.i .i64 d) 0)] [(900,.row 84 16 (L.map Slt.pv) false)] (.p (.i .i64 (zv1 s d)))
  [(900,.row 84 16 (if zv1 s d=0 then (L.map Slt.pv).set i (zv0 s d).pv else L.map Slt.pv) false)]:=by
 have hi:i < L.length:=(List.getElem?_eq_some_iff.1 hs).1
 have hi':i < (L.map Slt.pv).length:=by simpa using hi
 have hg:=λa=>zc4 (L.map Slt.pv) i a hi'
 obtain ⟨hl,_⟩:=hok
 obtain ⟨hd0,hd1⟩:=hd
 by_cases h:ztM s d < 0
 ·have hE:zv1 s d=7:=if_pos h
  rw [hE,if_neg (by decide)]
  have h1:(zcY (λl=>decide (l.fro<=d) && decide (d<=l.to)) s.ls < 0)=True:=eq_true h
  refine zR (cF Tryz.func150 Tryz.f150.eq_1) (by simp) (by simp [scPs,scP,zk]) (by simp [scObj]) ⟨rfl,trivial⟩ (by simp [scObj]) (by simp [zc2,zk]) λX hX=>?_
  unfold zD ghO
  have qe:=aI qR (aI @qN (aI @gLV.eq_2 (aI @hs (aI @h1 (aI @rtN (aI @rtR @decide_true))))));repeat' first|refine gC ?_ ?_<;>intro hc<;>try contradiction|refine za (zer s d) ?_|refine gG ?_|show AK _;intro K H|refine H _ _ ?_;clear H K|refine gJ ?_;try exact trivial|omega
  all_goals exact .inl (.mk1 (h2:=by simp only [qS,seval,keepG.eq_1,keepG.eq_2,gLV.eq_2]<;>simp))
 ·have hE:zv1 s d=0:=if_neg h
  rw [hE,if_pos rfl]
  obtain ⟨k,hk⟩:=Int.eq_ofNat_of_zero_le (show 0<=ztM s d by omega)
  have hj:zcY (λl=>decide (l.fro<=d) && decide (d<=l.to)) s.ls=(k:Int):=hk
  have hlt:k < s.ls.length:=by
   have:=zju (λl:Lea=>decide (l.fro<=d) && decide (d<=l.to)) s.ls
   rw [hj] at this;omega
  have hk0:((k:Int)).toNat=k:=by omega
  have hk1:((k:Int)+1).toNat=k+1:=by omega
  have h1:((k:Int) < 0)=False:=eq_false (by omega)
  have hT:∀ (l:List Lea) (m:Nat),(l.map Lea.pv).take m=(l.take m).map Lea.pv:=λl m=>by rw [List.map_take]
  have hD:∀ (l:List Lea) (m:Nat),(l.map Lea.pv).drop m=(l.drop m).map Lea.pv:=λl m=>by rw [List.map_drop]
  have hF:[s.ls.take k,zhh (d - 1) ((s.ls.take (k+1)).drop k),s.ls.drop (k+1)].flatten=s.ls.take k++(zhh (d - 1) ((s.ls.take (k+1)).drop k)++s.ls.drop (k+1)):=by simp
  have hS:zv0 s d=⟨s.req,s.holder,s.ls.take k++(zhh (d - 1) ((s.ls.take (k+1)).drop k)++s.ls.drop (k+1)),s.sh⟩:=by
   rw [zv0,recL,hk];simp
  have hc:=zkT (d - 1) ((s.ls.take (k+1)).drop k)
  have hc2:((s.ls.take (k+1)).drop k).length<=s.ls.length:=by simp;omega
  have hfl:[s.ls.take k,zhh (d - 1) ((s.ls.take (k+1)).drop k),s.ls.drop (k+1)].flatten.length<=100000:=by
   rw [hF];simp only [List.length_append,List.length_take,List.length_drop] at hc hc2 ⊢;omega
  refine zR (cF Tryz.func150 Tryz.f150.eq_1) (by simp) (by simp [scPs,scP,zk]) (by simp [scObj]) ⟨rfl,trivial⟩ (by simp [scObj]) (by simp [zc2,zk]) λX hX=>?_
  unfold zD ghO
  have h1192:=zqN [s.ls.take k,zhh (d - 1) ((s.ls.take (k+1)).drop k),s.ls.drop (k+1)] hfl (by simp)
  rw [hF] at h1192
  have qe:=aI qR (aI @qN (aI @gLV.eq_2 (aI @hs (aI @hg (aI @hj (aI @h1 (aI @hk0 (aI @hk1 (aI @hT (aI @hD (aI @List.set_set.{0} (aI @List.length_set.{0} (aI @rtN (aI @rtR @decide_false))))))))))))));repeat' first|refine gC ?_ ?_<;>intro hc<;>try contradiction|refine za (zer s d) ?_|refine za (zgH ((s.ls.take (k+1)).drop k) (d - 1) (by omega)) ?_|refine zam (h1192) ?_|refine gG ?_|show AK _;intro K H|refine H _ _ ?_;clear H K|refine gJ ?_;try exact trivial|omega
  rw [hS]
  exact .inl (.mk1 (h2:=by simp only [qS,seval,keepG.eq_1,keepG.eq_2,gLV.eq_2]<;>simp))
theorem zj5 {b:Bk} (hb:zfz b) {n:ByteArray} (h:b.slots[zx b n]?=some (zn b n)):zlc (zn b n):=hb.s _ (List.mem_of_getElem? h)
theorem znn {d a c:Int} (h:rng d a c=0):a<=d/\d<=c:=zdm.1 h
def reC (b:Bk) (c n:ByteArray) (d:Int):Int:=zfM b c n (rng d 0 99999) (zv1 (zn b n) d)
def reB (b:Bk) (c n:ByteArray) (d:Int):Bk:=if reC b c n d=0 then zo1 b n (zv0 (zn b n) d) else bk0
theorem zuv {b:Bk} {c n:ByteArray} {e:Int} (h:zhm b c n e=0):e=0:=fE0 (za8 h).2.2.2 _ (by simp)
theorem zqX (b:Bk) (c n:ByteArray) (d:Int) (hb:zfz b):Pure Tryz.prog 86 [b.pv,.s c,.s n,.i .i64 d] (.tup [(reB b c n d).pv,.i .i64 (reC b c n d)]):=by
 have hch:=zkZ (caps:=[.ip (.i .i64 d) 0]) b c n (rng d 0 99999) (zv1 (zn b n) d) (zv0 (zn b n) d) (zv0 (zn b n) d).pv (b.slots.map Slt.pv) hb (.refl _) (by simp) λh=>zsw b.slots (zx b n) (zn b n) d (za8 h).2.1 (zj5 hb (za8 h).2.1) (znn (zuv h))
 refine zf (cF Tryz.func86 Tryz.f86.eq_1) (by simp) λhw X hX=>?_
 have qe:=aI qR @qN;repeat' first|refine gC ?_ ?_<;>intro hc<;>try contradiction|refine za (zb2 d) ?_|refine zam (hch) ?_|refine gG ?_|show AK _;intro K H|refine H _ _ ?_;clear H K|refine gJ ?_;try exact trivial|omega
 exact .refl _
theorem reB_0 {b:Bk} {c n:ByteArray} {d:Int} (h:reC b c n d≠0):reB b c n d=bk0:=if_neg h
theorem zq5 (b:Bk) (c n:ByteArray) (d:Int) (hb:zF b=0->zfz b):Pure Tryz.prog 37 [b.pv,.s c,.s n,.i .i64 d] (.tup [(zhl b (reB b c n d) (reC b c n d)).1.pv,.i .i64 (zhl b (reB b c n d) (reC b c n d)).2]):=by
 by_cases h:zF b=0
 ·have e1:(zF b=0)=True:=eq_true h
  rw [zhi h reB_0]
  refine zf (cF Tryz.func37 Tryz.f37.eq_1) (by simp) λhw X hX=>?_
  have qe:=aI qR (aI @qN @e1);repeat' first|refine gC ?_ ?_<;>intro hc<;>try contradiction|refine za (zV b) ?_|refine za (zqX b c n d (hb h)) ?_|refine gG ?_|show AK _;intro K H|refine H _ _ ?_;clear H K|refine gJ ?_;try exact trivial|omega
  exact .refl _
 ·have e1:(zF b=0)=False:=eq_false h
  rw [zeD h]
  refine zat (r:=.tup [.agg [.nilsl,.nilsl],.i .i64 (zF b)]) ?_ (zbv _)
  refine zf (cF Tryz.func37 Tryz.f37.eq_1) (by simp) λhw X hX=>?_
  have qe:=aI qR (aI @qN @e1);repeat' first|refine gC ?_ ?_<;>intro hc<;>try contradiction|refine za (zV b) ?_|refine gG ?_|show AK _;intro K H|refine H _ _ ?_;clear H K|refine gJ ?_;try exact trivial|omega
  exact .refl _
end Go.Proofs.YtijgimeokgbifaaGreat
