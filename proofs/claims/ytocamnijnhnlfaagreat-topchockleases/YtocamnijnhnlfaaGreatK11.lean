/- Contracts of functions, for the claim. No conditions. -/
import Derived.Test.YtocamnijnhnlfaaGreatK9
set_option linter.all false
set_option maxHeartbeats 8000000
set_option maxRecDepth 100000
namespace Go.Proofs.YtocamnijnhnlfaaGreat
open Go.RowKit Tryz
abbrev zzQ (A:List Lea):PV:=.sl 3 (A.map Lea.pv)
def ze5 {L:List (List Lea)} {k:Nat} {x:List Lea} (h:L[k]?=some x):(L.take (k+1)).flatten=(L.take k).flatten++x:=by
 rw [zM h,List.flatten_append];simp
def zdE (L:List (List Lea)) (k:Nat):(L.take k).flatten.length<=L.flatten.length:=by
 conv=>rhs;rw [<-xao k L,List.flatten_append,xad]
 omega
def zve (L:List (List Lea)) (hn:L.flatten.length<=100000) (hm:L.length<=1000):Pure prog 92 [.sl 1 (L.map zzQ)] (zzQ L.flatten):=by
 refine pz func92 f92.eq_1 λhw X hX=>?_
 repeat' first|refine gC ?_ ?_<;>intro hc<;>try contradiction|refine gG ?_|show AK _;intro J Z|refine gJ ?_|omega|exact aT
 refine zh (κ:=Nat) (λk=>⟨[(0,.p (.sl 1 (L.map zzQ))),(3,.p (.i .i64 ((L.take k).flatten.length))),(9,.p (.sl 1 (L.map zzQ))),(10,.p (.i .i64 L.length)),(11,.p (.i .i64 k))],[],[],false⟩) (λk=>k<=L.length) (λk=>L.length - k) 0 ?_ ?_ ?_
 ·exact sS
 ·simp
 ·intro k hk;have hl:=zdE L k;have hl1:=zdE L (k+1)
  repeat first|refine gG ?_|show AK _;intro J Z|refine gJ ?_|omega|exact aT
  (refine gC ?_ ?_<;>intro hc<;>try contradiction)
  ·obtain ⟨x,hx⟩:=zk (i:=k) (l:=L) (by omega)
   have hnx:=ze5 hx;have hlx:(L.take (k+1)).flatten.length=(L.take k).flatten.length+x.length:=by rw [hnx,xad]
   have qe:=aI qR @hx;repeat' first|refine gC ?_ ?_<;>intro hc<;>try contradiction|refine gG ?_|show AK _;intro J Z|refine gJ ?_|omega|exact aT
   all_goals exact ⟨k+1,by omega,by omega,by simp [hlx]⟩
  ·have e:k=L.length:=by omega
   subst e;rw [xaG]
   by_cases h0:L.flatten.length=0
   ·have hz:L.flatten=[]:=xaq h0;rw [h0];have qe:=@qR;repeat' first|refine gC ?_ ?_<;>intro hc<;>try contradiction|refine zo [(900,900)] (zth) ?_|refine gG ?_|show AK _;intro J Z|refine gJ ?_|omega|exact aT
    refine zaf 900 86 3 [(6,.row 900 0),(25,.p (.sl 1 (L.map zzQ))),(26,.p (.i .i64 L.length)),(27,.p (.i .i64 0))] [] ?_ ?_
    ·simp only [Own,zam,zaj,za8,zad,qS,seval,zbF,rn,rens,LV.ren,LObj.ren]
    refine zh (κ:=Nat) (λk=>⟨[(6,.row 900 (L.take k).flatten.length),(25,.p (.sl 1 (L.map zzQ))),(26,.p (.i .i64 L.length)),(27,.p (.i .i64 k))],[(900,.row 86 3 ((L.take k).flatten.map Lea.pv) false)],[],false⟩) (λk=>k<=L.length) (λk=>L.length - k) 0 ?_ ?_ ?_
    ·simp only [qS,seval,zbF,rn,rens,LV.ren,LObj.ren]<;>simp
    ·simp
    ·intro k hk;have hl:=zdE L k;have hl1:=zdE L (k+1)
     repeat first|refine gG ?_|show AK _;intro J Z|refine gJ ?_|omega|exact aT
     (refine gC ?_ ?_<;>intro hc<;>try contradiction)
     ·obtain ⟨x,hx⟩:=zk (i:=k) (l:=L) (by omega)
      have hnx:=ze5 hx;have hlx:(L.take (k+1)).flatten.length=(L.take k).flatten.length+x.length:=by rw [hnx,xad]
      have hA:=eq_true (zA5 x);have qe:=aI qR (aI @hx @hA);repeat' first|refine gC ?_ ?_<;>intro hc<;>try contradiction|refine gG ?_|show AK _;intro J Z|refine gJ ?_|omega|exact aT
      all_goals exact ⟨k+1,by omega,by omega,by simp [hlx],by rw [hnx];simp⟩
     ·have e:k=L.length:=by omega
      subst e;have ht:L.take L.length=L:=xaG;have qe:=aI qR @ht;exact gD0
   ·have qe:=@qR;repeat' first|refine gC ?_ ?_<;>intro hc<;>try contradiction|refine zo [(900,900)] (zw7 L.flatten.length (by omega) (by omega)) ?_|refine gG ?_|show AK _;intro J Z|refine gJ ?_|omega|exact aT
    refine zh (κ:=Nat) (λk=>⟨[(6,.row 900 (L.take k).flatten.length),(25,.p (.sl 1 (L.map zzQ))),(26,.p (.i .i64 L.length)),(27,.p (.i .i64 k))],[(900,.row 86 3 ((L.take k).flatten.map Lea.pv) false)],[],false⟩) (λk=>k<=L.length) (λk=>L.length - k) 0 ?_ ?_ ?_
    ·simp only [qS,seval,zbF,rn,rens,LV.ren,LObj.ren]<;>simp
    ·simp
    ·intro k hk;have hl:=zdE L k;have hl1:=zdE L (k+1)
     repeat first|refine gG ?_|show AK _;intro J Z|refine gJ ?_|omega|exact aT
     (refine gC ?_ ?_<;>intro hc<;>try contradiction)
     ·obtain ⟨x,hx⟩:=zk (i:=k) (l:=L) (by omega)
      have hnx:=ze5 hx;have hlx:(L.take (k+1)).flatten.length=(L.take k).flatten.length+x.length:=by rw [hnx,xad]
      have hA:=eq_true (zA5 x);have qe:=aI qR (aI @hx @hA);repeat' first|refine gC ?_ ?_<;>intro hc<;>try contradiction|refine gG ?_|show AK _;intro J Z|refine gJ ?_|omega|exact aT
      all_goals exact ⟨k+1,by omega,by omega,by simp [hlx],by rw [hnx];simp⟩
     ·have e:k=L.length:=by omega
      subst e;have ht:L.take L.length=L:=xaG;have qe:=aI qR @ht;exact gD0
def zum (d:Int) (l:Lea):Bool:=decide (l.fro<=d) && decide (d<=l.to)
def zpI (s:Slt) (d:Int):Int:=zct (λl=>decide (l.fro<=d) && decide (d<=l.to)) s.ls
def zqP (s:Slt) (d:Int):Int:=if zpI s d < 0 then 7 else 0
def zun (s:Slt) (d:Int):List Lea:=s.ls.take (zpI s d).toNat++(zdQ (d - 1) ((s.ls.take ((zpI s d).toNat+1)).drop (zpI s d).toNat)++s.ls.drop ((zpI s d).toNat+1))
def zto (s:Slt) (d:Int):Slt:=⟨s.req,s.holder,zun s d,s.sh⟩
def zxc (L:List Slt) (i:Nat) (s:Slt) (d:Int) (hs:L[i]?=some s) (hok:zk4 s) (hd:0<=d/\d<=99999):Acts prog 91 [.ep 900 L.length i 0,.p (.ip (.i .i64 d) 0)] [(900,.row 89 16 (L.map Slt.pv) false)] (.p (.i .i64 (zqP s d)))
  [(900,.row 89 16 (if zqP s d=0 then (L.map Slt.pv).set i (zto s d).pv else L.map Slt.pv) false)]:=by
 have hi:i < L.length:=(xaa.1 hs).1;have hi':i < (L.map Slt.pv).length:=by simpa using hi
 have hg:=λa=>zdX (L.map Slt.pv) i a hi'
 obtain ⟨hl,_⟩:=hok;obtain ⟨hd0,hd1⟩:=hd
 by_cases h:zpI s d < 0
 ·have hE:zqP s d=7:=if_pos h;rw [hE,if_neg (by decide)]
  have h1:(zct (λl=>decide (l.fro<=d) && decide (d<=l.to)) s.ls < 0)=True:=eq_true h
  refine zF (cF func91 f91.eq_1) (by simp) (by simp [scPs,scP,zp]) (by simp [scObj]) ⟨rfl,trivial⟩ (by simp [scObj]) (by simp [zb1,zp]) λX hX=>?_
  unfold zA ghO;have qe:=aI qR (aI @qN (aI @gLV.eq_2 (aI @hs (aI @h1 (aI @rtN (aI @rtR @decide_true))))));repeat' first|refine gC ?_ ?_<;>intro hc<;>try contradiction|refine za (zfE s d) ?_|refine gG ?_|show AK _;intro J Z|refine gJ ?_|omega|exact aT
  all_goals exact .inl (.mk1 (h2:=by simp only [qS,seval,keepG.eq_1,keepG.eq_2,gLV.eq_2]<;>simp))
 ·have hE:zqP s d=0:=if_neg h;rw [hE,if_pos rfl];obtain ⟨k,hk⟩:=Int.eq_ofNat_of_zero_le (show 0<=zpI s d by omega)
  have hj:zct (λl=>decide (l.fro<=d) && decide (d<=l.to)) s.ls=(k:Int):=hk
  have hlt:k < s.ls.length:=by
   have:=zlY (λl:Lea=>decide (l.fro<=d) && decide (d<=l.to)) s.ls
   rw [hj] at this;omega
  have hk0:((k:Int)).toNat=k:=by omega
  have hk1:((k:Int)+1).toNat=k+1:=by omega
  have h1:((k:Int) < 0)=False:=eq_false (by omega)
  have hT:∀ (l:List Lea) (m:Nat),(l.map Lea.pv).take m=(l.take m).map Lea.pv:=λl m=>by rw [xb2]
  have hD:∀ (l:List Lea) (m:Nat),(l.map Lea.pv).drop m=(l.drop m).map Lea.pv:=λl m=>by rw [List.map_drop]
  have hF:[s.ls.take k,zdQ (d - 1) ((s.ls.take (k+1)).drop k),s.ls.drop (k+1)].flatten=s.ls.take k++(zdQ (d - 1) ((s.ls.take (k+1)).drop k)++s.ls.drop (k+1)):=by simp
  have hS:zto s d=⟨s.req,s.holder,s.ls.take k++(zdQ (d - 1) ((s.ls.take (k+1)).drop k)++s.ls.drop (k+1)),s.sh⟩:=by
   rw [zto,zun,hk];simp
  have hc:=zfR (d - 1) ((s.ls.take (k+1)).drop k);have hc2:((s.ls.take (k+1)).drop k).length<=s.ls.length:=by simp;omega
  have hfl:[s.ls.take k,zdQ (d - 1) ((s.ls.take (k+1)).drop k),s.ls.drop (k+1)].flatten.length<=100000:=by
   rw [hF];simp only [xad,xaj,xay] at hc hc2 ⊢;omega
  refine zF (cF func91 f91.eq_1) (by simp) (by simp [scPs,scP,zp]) (by simp [scObj]) ⟨rfl,trivial⟩ (by simp [scObj]) (by simp [zb1,zp]) λX hX=>?_
  unfold zA ghO;have h1192:=zve [s.ls.take k,zdQ (d - 1) ((s.ls.take (k+1)).drop k),s.ls.drop (k+1)] hfl (by simp)
  rw [hF] at h1192;have qe:=aI qR (aI @qN (aI @gLV.eq_2 (aI @hs (aI @hg (aI @hj (aI @h1 (aI @hk0 (aI @hk1 (aI @hT (aI @hD (aI @List.set_set.{0} (aI @List.length_set.{0} (aI @rtN (aI @rtR @decide_false))))))))))))));repeat' first|refine gC ?_ ?_<;>intro hc<;>try contradiction|refine za (zfE s d) ?_|refine za (ziF ((s.ls.take (k+1)).drop k) (d - 1) (by omega)) ?_|refine zL (h1192) ?_|refine gG ?_|show AK _;intro J Z|refine gJ ?_|omega|exact aT
  rw [hS];exact .inl (.mk1 (h2:=by simp only [qS,seval,keepG.eq_1,keepG.eq_2,gLV.eq_2]<;>simp))
def zmD {b:Bk} (hb:zeG b) {n:ByteArray} (h:b.slots[zD b n]?=some (zl b n)):zk4 (zl b n):=hb.s _ (xae h)
def zqK {d a c:Int} (h:rng d a c=0):a<=d/\d<=c:=zbd.1 h
def reC (b:Bk) (c n:ByteArray) (d:Int):Int:=zfT b c n (rng d 0 99999) (zqP (zl b n) d)
def reB (b:Bk) (c n:ByteArray) (d:Int):Bk:=if reC b c n d=0 then zfU b n (zto (zl b n) d) else bk0
def zrn {b:Bk} {c n:ByteArray} {e:Int} (h:zd2 b c n e=0):e=0:=fE0 (zab h).2.2.2 _ (by simp)
def zvr (b:Bk) (c n:ByteArray) (d:Int) (hb:zeG b):Pure prog 47 [b.pv,.s c,.s n,.i .i64 d] (.tup [(reB b c n d).pv,.i .i64 (reC b c n d)]):=by
 have hch:=zjp (caps:=[.ip (.i .i64 d) 0]) b c n (rng d 0 99999) (zqP (zl b n) d) (zto (zl b n) d) (zto (zl b n) d).pv (b.slots.map Slt.pv) hb (.refl _) (by simp) λh=>zxc b.slots (zD b n) (zl b n) d (zab h).2.1 (zmD hb (zab h).2.1) (zqK (zrn h))
 refine pz func47 f47.eq_1 λhw X hX=>?_
 have qe:=aI qR @qN;have jA:=zcC d;have jB:=hch;exact gD2
def reB_0 {b:Bk} {c n:ByteArray} {d:Int} (h:reC b c n d≠0):reB b c n d=bk0:=if_neg h
def pure1038 (b:Bk) (c n:ByteArray) (d:Int) (hb:zu b=0->zeG b):Pure prog 17 [b.pv,.s c,.s n,.i .i64 d] (.tup [(zpG b (reB b c n d) (reC b c n d)).1.pv,.i .i64 (zpG b (reB b c n d) (reC b c n d)).2]):=by
 by_cases h:zu b=0
 ·have e1:(zu b=0)=True:=eq_true h;rw [zjr h reB_0];refine pz func17 f17.eq_1 λhw X hX=>?_
  have qe:=aI qR (aI @qN @e1);have jA:=zaM b;have jB:=zvr b c n d (hb h);exact gD2
 ·have e1:(zu b=0)=False:=eq_false h;rw [zfV h];refine zb9 (r:=.tup [.agg [.nilsl,.nilsl],.i .i64 (zu b)]) ?_ (zdL _);refine pz func17 f17.eq_1 λhw X hX=>?_
  have qe:=aI qR (aI @qN @e1);have jA:=zaM b;exact gD2
def znR (s:Slt) (d:Int):Int:=if s.req.per.to < d then 30 else 0
def zeH (p:Per) (d:Int):Per:=⟨p.fro,d - 1,p.days⟩
def zpQ (s:Slt) (d:Int):Slt:=⟨{ s.req with per:=zeH s.req.per d },s.holder,zdQ (d - 1) s.ls,s.sh⟩
def zxb (L:List Slt) (i:Nat) (s:Slt) (d:Int) (hs:L[i]?=some s) (hok:zk4 s) (hd:0<=d/\d<=99999):Acts prog 98 [.ep 900 L.length i 0,.p (.ip (.i .i64 d) 0)] [(900,.row 89 16 (L.map Slt.pv) false)] (.p (.i .i64 (znR s d)))
  [(900,.row 89 16 (if znR s d=0 then (L.map Slt.pv).set i (zpQ s d).pv else L.map Slt.pv) false)]:=by
 have hi:i < L.length:=(xaa.1 hs).1;have hi':i < (L.map Slt.pv).length:=by simpa using hi
 have hg:=λa=>zdX (L.map Slt.pv) i a hi'
 obtain ⟨hl,_⟩:=hok;obtain ⟨hd0,hd1⟩:=hd
 by_cases h:s.req.per.to < d
 ·have hE:znR s d=30:=if_pos h;rw [hE,if_neg (by decide)]
  have h1:=eq_true h;refine zF (cF func98 f98.eq_1) (by simp) (by simp [scPs,scP,zp]) (by simp [scObj]) ⟨rfl,trivial⟩ (by simp [scObj]) (by simp [zb1,zp]) λX hX=>?_
  unfold zA ghO;have qe:=aI qR (aI @qN (aI @gLV.eq_2 (aI @hs (aI @h1 (aI @rtN (aI @rtR @decide_true))))));repeat' first|refine gC ?_ ?_<;>intro hc<;>try contradiction|refine gG ?_|show AK _;intro J Z|refine gJ ?_|omega|exact aT
  all_goals exact .inl (.mk1 (h2:=by simp only [qS,seval,keepG.eq_1,keepG.eq_2,gLV.eq_2]<;>simp))
 ·have hE:znR s d=0:=if_neg h;rw [hE,if_pos rfl];have h1:=eq_false h;refine zF (cF func98 f98.eq_1) (by simp) (by simp [scPs,scP,zp]) (by simp [scObj]) ⟨rfl,trivial⟩ (by simp [scObj]) (by simp [zb1,zp]) λX hX=>?_
  unfold zA ghO;have qe:=aI qR (aI @qN (aI @gLV.eq_2 (aI @hs (aI @hg (aI @h1 (aI @List.set_set.{0} (aI @List.length_set.{0} (aI @rtN (aI @rtR @decide_false)))))))));repeat' first|refine gC ?_ ?_<;>intro hc<;>try contradiction|refine za (ziF s.ls (d - 1) (by omega)) ?_|refine gG ?_|show AK _;intro J Z|refine gJ ?_|omega|exact aT
  all_goals exact .inl (.mk1 (h2:=by simp only [qS,seval,keepG.eq_1,keepG.eq_2,gLV.eq_2]<;>simp))
def zti (L:List Slt) (i:Nat) (s:Slt) (d:Int) (hs:L[i]?=some s) (hok:zk4 s) (hd:0<=d/\d<=99999) (h:znR s d=0):Acts prog 98 [.ep 900 L.length i 0,.lp 1 0] [(900,.row 89 16 (L.map Slt.pv) false),(1,.box [.p (.i .i64 d)] false)] (.p (.i .i64 0))
  [(900,.row 89 16 ((L.map Slt.pv).set i (zpQ s d).pv) false),(1,.box [.p (.i .i64 d)] false)]:=by
 have hi:i < L.length:=(xaa.1 hs).1;have hi':i < (L.map Slt.pv).length:=by simpa using hi
 have hg:=λa=>zdX (L.map Slt.pv) i a hi'
 obtain ⟨hl,_⟩:=hok;obtain ⟨hd0,hd1⟩:=hd;have h':¬s.req.per.to < d:=λk=>by rw [znR,if_pos k] at h;omega
 have h1:=eq_false h';refine zF (cF func98 f98.eq_1) (by simp) (by simp [scPs,scP,zp]) (by simp [scObj,scPs,scP]) ⟨rfl,rfl,trivial⟩ (by simp [scObj,scPs,scP]) (by simp [zb1,zp]) λX hX=>?_
 unfold zA ghO;have qe:=aI qR (aI @qN (aI @gLV.eq_1 (aI @gLV.eq_2 (aI @hs (aI @hg (aI @h1 (aI @List.set_set.{0} (aI @List.length_set.{0} (aI @rtN (aI @rtR @decide_false))))))))));repeat' first|refine gC ?_ ?_<;>intro hc<;>try contradiction|refine za (ziF s.ls (d - 1) (by omega)) ?_|refine gG ?_|show AK _;intro J Z|refine gJ ?_|omega|exact aT
 all_goals exact .inl (.mk1 (h2:=by simp only [qS,seval,keepG.eq_1,keepG.eq_2,gLV.eq_1,gLV.eq_2]<;>simp))
def zmq (b:Bk) (c n:ByteArray) (d:Int):Int:=zfT b c n (rng d 0 99999) (znR (zl b n) d)
def zhm (b:Bk) (n:ByteArray) (d:Int):Bk:=zfU b n (zpQ (zl b n) d)
def zxf (b:Bk) (c n:ByteArray) (d:Int) (hb:zeG b) (h:zmq b c n d=0):Acts prog 90 [.p b.pv,.p (.s c),.p (.s n),.p (.i .i64 (rng d 0 99999)),.fn (.func 98) [] [.lp 1 0]] [(1,.box [.p (.i .i64 d)] false)] (.tup [.agg [.row 200 (zhm b n d).slots.length,.row 201 (zhm b n d).wait.length],.p (.i .i64 0)])
  [(1,.box [.p (.i .i64 d)] false),(200,.row 89 16 ((zhm b n d).slots.map Slt.pv) false),(201,.row 92 14 ((zhm b n d).wait.map Wsh.pv) false)]:=by
 have hown:zd2 b c n (rng d 0 99999)=0:=fE0 h _ (by simp)
 have hce:znR (zl b n) d=0:=fE0 h _ (by simp)
 obtain ⟨hat,hsl,hh,h3⟩:=zab hown;have hso:=zmD hb hsl;have hcl:=zti b.slots (zD b n) (zl b n) d hsl hso (zqK (zrn hown)) hce;obtain ⟨hs,hn,hwl⟩:=hb;have hlt:=zeD n (b.slots.map (·.req.name));rw [xaf] at hlt;have hfd:(if atL n (b.slots.map (·.req.name)) < 0 then (10:Int) else 0)=zdN b.slots n:=rfl
 have h3t:(zf [zy c,zdN b.slots n,rng d 0 99999]=0)=True:=eq_true h3;have hlen:(zhm b n d).slots.length=b.slots.length:=by rw [zhm,zfU];simp
 have hmap:(zhm b n d).slots.map Slt.pv=(b.slots.map Slt.pv).set (zD b n) (zpQ (zl b n) d).pv:=by rw [zhm,zfU,xa2]
 have hwt:(zhm b n d).wait=b.wait:=rfl;rw [zD] at hcl hsl hmap;generalize zl b n=s at hcl hsl hmap hh;rw [hlen,hmap,hwt];refine zF (cF func90 f90.eq_1) (by simp) (by simp [scPs,scP,zp]) (by simp [scObj,scPs,scP]) ⟨rfl,trivial⟩ (by simp [scObj,scPs,scP]) (by simp [zb1,zp]) λX hX=>?_
 unfold zA ghO;have qe:=aI qR (aI @qN (aI @gLV.eq_1 (aI @zbA (aI @zbz (aI @zaC (aI @hfd (aI @h3t (aI @hsl (aI @hh (aI @decide_true (aI @xbg (aI @List.append_nil.{0} (aI @rtN @rtR)))))))))))));repeat' first|refine gC ?_ ?_<;>intro hc<;>try contradiction|refine za (zbH c) ?_|refine za (zaZ b n) ?_|refine za (zO [_,_,_]) ?_|refine zo [(100,200),(7,201)] (zfX b.slots b.wait hs (by omega) (by omega)) ?_|refine za (zcO b n) ?_|refine gG ?_|show AK _;intro J Z|refine gJ ?_|omega|exact aT
 refine zld [(900,200),(1,1)] (hf:=hcl) (hn:=?_);have qe:=aI qR (aI @qN (aI @gLV.eq_1 (aI @zbA (aI @zbz (aI @zaC (aI @List.length_set.{0} (aI @List.length_map.{0,0} (aI @rtN @rtR))))))));repeat' first|refine gC ?_ ?_<;>intro hc<;>try contradiction|refine gG ?_|show AK _;intro J Z|refine gJ ?_|omega|exact aT
 exact .inl (.mkT (h2:=by simp only [qS,seval,keepG.eq_1,keepG.eq_2,gLV.eq_1,gLV.eq_2]<;>simp))
def zBk (b:Bk) (n:ByteArray) (d:Int):Prop:=zC (zeH (zl b n).req.per d)=0/\¬(zcY (zeH (zl b n).req.per d)).length=0
instance (b:Bk) (n:ByteArray) (d:Int):Decidable (zBk b n d):=by unfold zBk;infer_instance
def zA2 (b:Bk) (n:ByteArray) (d:Int):Bk:=if zBk b n d then zhm b n d else ⟨(zhm b n d).slots.take (zD b n)++(zhm b n d).slots.drop (zD b n+1),b.wait⟩
def zpR (b:Bk) (c n:ByteArray) (d:Int):Bk:=if zmq b c n d=0 then zA2 b n d else bk0
def zx2 {b:Bk} {c n:ByteArray} {d:Int} (h:zmq b c n d≠0):zpR b c n d=bk0:=if_neg h
def zjY (L:List Slt) (i:Nat) (s s':Slt) (h:L[i]?=some s) (h2:s'.req.name=s.req.name):(L.set i s').map (·.req.name)=L.map (·.req.name):=by
 obtain ⟨hi,he⟩:=xaa.1 h;rw [xa2,h2,<-he];refine List.ext_getElem (by simp) λj h1 h3=>?_
 rw [List.getElem_set]
 split
 ·rename_i e;subst e;simp
 ·rfl
def zvo (b:Bk) (c n:ByteArray) (d:Int) (hb:zeG b):Pure prog 51 [b.pv,.s c,.s n,.i .i64 d] (.tup [(zpR b c n d).pv,.i .i64 (zmq b c n d)]):=by
 by_cases h:zmq b c n d=0
 ·have hch:=zxf b c n d hb h;have hown:zd2 b c n (rng d 0 99999)=0:=fE0 h _ (by simp)
  obtain ⟨hat,hsl,hh,h3⟩:=zab hown;obtain ⟨hs,hn,hwl⟩:=hb;have hlt:=zeD n (b.slots.map (·.req.name));rw [xaf] at hlt;have hlen:(zhm b n d).slots.length=b.slots.length:=by rw [zhm,zfU];simp
  have hnm:(zhm b n d).slots.map (·.req.name)=b.slots.map (·.req.name):=zjY _ _ _ _ hsl rfl;have hfi:atL n (b.slots.map (·.req.name))=(zD b n:Int):=by rw [zD];omega
  have hi:zD b n < (zhm b n d).slots.length:=by rw [hlen];omega
  have hg:(zhm b n d).slots[zD b n]?=some (zpQ (zl b n) d):=by
   rw [zhm,zfU];exact xbG (by omega)
  have hbB:zpR b c n d=zA2 b n d:=if_pos h;rw [hbB,h];generalize hO:zhm b n d=O at hch hlen hnm hi hg;have hfind:=zcO O n;rw [hnm,hfi] at hfind
  by_cases hD:zBk b n d
  ·have hY:zA2 b n d=O:=by rw [zA2,if_pos hD,hO]
   rw [hY];obtain ⟨d1,d2⟩:=hD;have e1:=eq_true d1;have e2:(((zcY (zeH (zl b n).req.per d)).length:Int)=0)=False:=eq_false (by omega)
   refine pz func51 f51.eq_1 λhw X hX=>?_
   have qe:=aI qR (aI @qN (aI @zbA (aI @zbz (aI @zaC (aI @hg (aI @d1 (aI @e2 (aI @decide_true @decide_false))))))));repeat' first|refine gC ?_ ?_<;>intro hc<;>try contradiction|refine za (zcC d) ?_|refine zo [(1,7),(200,300),(201,301)] (hch) ?_|refine za (hfind) ?_|refine za (zfB (zeH (zl b n).req.per d)) ?_|refine gG ?_|show AK _;intro J Z|refine gJ ?_|omega|exact aT
   exact .refl _
  ·have hY:zA2 b n d=⟨O.slots.take (zD b n)++O.slots.drop (zD b n+1),b.wait⟩:=by rw [zA2,if_neg hD,hO]
   have hwO:O.wait=b.wait:=by rw [<-hO];rfl
   rw [hY,<-hwO];refine pz func51 f51.eq_1 λhw X hX=>?_
   by_cases d1:zC (zeH (zl b n).req.per d)=0
   ·have d2:(zcY (zeH (zl b n).req.per d)).length=0:=xbk λh=>hD ⟨d1,h⟩
    have e2:(((zcY (zeH (zl b n).req.per d)).length:Int)=0)=True:=eq_true (by omega)
    have qe:=aI qR (aI @qN (aI @zbA (aI @zbz (aI @zaC (aI @hg (aI @d1 (aI @e2 (aI @decide_true @decide_false))))))));repeat' first|refine gC ?_ ?_<;>intro hc<;>try contradiction|refine za (zcC d) ?_|refine zo [(1,7),(200,300),(201,301)] (hch) ?_|refine za (hfind) ?_|refine za (zfB (zeH (zl b n).req.per d)) ?_|refine gG ?_|show AK _;intro J Z|refine gJ ?_|omega|exact aT
    have hxl:(O.slots.map Slt.pv).length=O.slots.length:=by simp
    have hoa:oneAll (O.slots.map Slt.pv)=true:=by
     simp only [oneAll,List.all_map,xaD];intro x _;rfl
    refine zbc (zew 300 rfl (λa0 c0=>[(50,.p (.rs a0 (O.slots.map Slt.pv).length c0)),(51,.p (.i .i64 (zD b n))),(53,.p (.i .i64 ((zD b n:Int)+1))),(10,.lp 10 0),(8,.lp 8 0)]) (λa0 c0=>[(10,.box [.p (.rs a0 (O.slots.map Slt.pv).length c0),.row 301 O.wait.length] false),(301,.row 92 14 (O.wait.map Wsh.pv) false),(8,.box [.p .nilsl,.p .nilsl] false)]) λa0 c0=>⟨?_,?_,?_,?_⟩) ?_
    ·exact ⟨.inr ⟨.rs a0 _ c0,.inl (.inr ⟨by show LV.row 300 _=LV.row 300 _;rw [hxl],rfl⟩),rfl⟩,.inl rfl,.inl rfl,.inl rfl,.inl rfl,trivial⟩
    ·exact ⟨.inr ⟨_,rfl,_,_,_,rfl,rfl,.inr ⟨by show LV.row 300 _=LV.row 300 _;rw [hxl],rfl⟩,.inl rfl,trivial⟩,.inl rfl,.inl rfl,trivial⟩
    ·simp [scEnv,scP,zp]
    ·simp [scObj,scPs,scP,zp]
    rintro _ ⟨a0,c0,rfl⟩;refine (show zj _ _ _ _ _ (St.mk _ _ [] false) _ from ?_)
    have h1208:=zn4 (O.slots.map Slt.pv) (zD b n) a0 c0 (by rw [hxl];exact hi) hoa
    refine zeS [(900,300)] (hf:=h1208) (hn:=?_);refine zbQ 1 ?_;have qe:=aI qR (aI @rn.eq_1 @rn.eq_2);repeat' first|refine gC ?_ ?_<;>intro hc<;>try contradiction|refine gG ?_|show AK _;intro J Z|refine gJ ?_|omega|exact aT
    have hl2:(List.take (zD b n) (O.slots.map Slt.pv)++List.drop (zD b n+1) (O.slots.map Slt.pv)).length=O.slots.length - 1:=by simp;omega
    have htk:(List.take (zD b n) (O.slots.map Slt.pv)++List.drop (zD b n+1) (O.slots.map Slt.pv)++[zsl]).take (O.slots.length - 1)=(O.slots.take (zD b n)++O.slots.drop (zD b n+1)).map Slt.pv:=by
     rw [xbb (by omega),xal (by omega)];simp
    refine zbc (zgF 300 (O.slots.length - 1) (e:=89) (sz:=16) (c0:=c0) (xs:=List.take (zD b n) (O.slots.map Slt.pv)++List.drop (zD b n+1) (O.slots.map Slt.pv)++[zsl]) (a0:=a0) [(54,.p (.sl 16 ((O.slots.take (zD b n)++O.slots.drop (zD b n+1)).map Slt.pv))),(55,.lp 10 0),(10,.lp 10 0),(8,.lp 8 0)] [(10,.box [.p (.rs a0 O.slots.length c0),.row 301 O.wait.length] false),(301,.row 92 14 (O.wait.map Wsh.pv) false),(8,.box [.p .nilsl,.p .nilsl] false)] rfl (by rw [xad,hl2];omega) ⟨?_,?_,?_,?_⟩) ?_
    ·exact ⟨.inr ⟨_,_,rfl,rfl,by rw [<-htk];exact .inl (.inr ⟨rfl,rfl⟩)⟩,.inl rfl,.inl rfl,.inl rfl,trivial⟩
    ·exact ⟨.inl rfl,.inl rfl,.inl rfl,trivial⟩
    ·simp [scEnv,scP,zp]
    ·simp [scObj,scPs,scP,zp]
    rintro _ rfl;refine (show zj _ _ _ _ _ (St.mk _ _ [] false) _ from zB ?_)
    have qe:=aI qR @zaC;exact gD0
   ·have d1f:=eq_false d1;have qe:=aI qR (aI @qN (aI @zbA (aI @zbz (aI @zaC (aI @hg (aI @d1f (aI @decide_true @decide_false)))))));repeat' first|refine gC ?_ ?_<;>intro hc<;>try contradiction|refine za (zcC d) ?_|refine zo [(1,7),(200,300),(201,301)] (hch) ?_|refine za (hfind) ?_|refine za (zfB (zeH (zl b n).req.per d)) ?_|refine gG ?_|show AK _;intro J Z|refine gJ ?_|omega|exact aT
    have hxl:(O.slots.map Slt.pv).length=O.slots.length:=by simp
    have hoa:oneAll (O.slots.map Slt.pv)=true:=by
     simp only [oneAll,List.all_map,xaD];intro x _;rfl
    refine zbc (zew 300 rfl (λa0 c0=>[(50,.p (.rs a0 (O.slots.map Slt.pv).length c0)),(51,.p (.i .i64 (zD b n))),(53,.p (.i .i64 ((zD b n:Int)+1))),(10,.lp 10 0),(8,.lp 8 0)]) (λa0 c0=>[(10,.box [.p (.rs a0 (O.slots.map Slt.pv).length c0),.row 301 O.wait.length] false),(301,.row 92 14 (O.wait.map Wsh.pv) false),(8,.box [.p .nilsl,.p .nilsl] false)]) λa0 c0=>⟨?_,?_,?_,?_⟩) ?_
    ·exact ⟨.inr ⟨.rs a0 _ c0,.inl (.inr ⟨by show LV.row 300 _=LV.row 300 _;rw [hxl],rfl⟩),rfl⟩,.inl rfl,.inl rfl,.inl rfl,.inl rfl,trivial⟩
    ·exact ⟨.inr ⟨_,rfl,_,_,_,rfl,rfl,.inr ⟨by show LV.row 300 _=LV.row 300 _;rw [hxl],rfl⟩,.inl rfl,trivial⟩,.inl rfl,.inl rfl,trivial⟩
    ·simp [scEnv,scP,zp]
    ·simp [scObj,scPs,scP,zp]
    rintro _ ⟨a0,c0,rfl⟩;refine (show zj _ _ _ _ _ (St.mk _ _ [] false) _ from ?_)
    have h1208:=zn4 (O.slots.map Slt.pv) (zD b n) a0 c0 (by rw [hxl];exact hi) hoa
    refine zeS [(900,300)] (hf:=h1208) (hn:=?_);refine zbQ 1 ?_;have qe:=aI qR (aI @rn.eq_1 @rn.eq_2);repeat' first|refine gC ?_ ?_<;>intro hc<;>try contradiction|refine gG ?_|show AK _;intro J Z|refine gJ ?_|omega|exact aT
    have hl2:(List.take (zD b n) (O.slots.map Slt.pv)++List.drop (zD b n+1) (O.slots.map Slt.pv)).length=O.slots.length - 1:=by simp;omega
    have htk:(List.take (zD b n) (O.slots.map Slt.pv)++List.drop (zD b n+1) (O.slots.map Slt.pv)++[zsl]).take (O.slots.length - 1)=(O.slots.take (zD b n)++O.slots.drop (zD b n+1)).map Slt.pv:=by
     rw [xbb (by omega),xal (by omega)];simp
    refine zbc (zgF 300 (O.slots.length - 1) (e:=89) (sz:=16) (c0:=c0) (xs:=List.take (zD b n) (O.slots.map Slt.pv)++List.drop (zD b n+1) (O.slots.map Slt.pv)++[zsl]) (a0:=a0) [(54,.p (.sl 16 ((O.slots.take (zD b n)++O.slots.drop (zD b n+1)).map Slt.pv))),(55,.lp 10 0),(10,.lp 10 0),(8,.lp 8 0)] [(10,.box [.p (.rs a0 O.slots.length c0),.row 301 O.wait.length] false),(301,.row 92 14 (O.wait.map Wsh.pv) false),(8,.box [.p .nilsl,.p .nilsl] false)] rfl (by rw [xad,hl2];omega) ⟨?_,?_,?_,?_⟩) ?_
    ·exact ⟨.inr ⟨_,_,rfl,rfl,by rw [<-htk];exact .inl (.inr ⟨rfl,rfl⟩)⟩,.inl rfl,.inl rfl,.inl rfl,trivial⟩
    ·exact ⟨.inl rfl,.inl rfl,.inl rfl,trivial⟩
    ·simp [scEnv,scP,zp]
    ·simp [scObj,scPs,scP,zp]
    rintro _ rfl;refine (show zj _ _ _ _ _ (St.mk _ _ [] false) _ from zB ?_)
    have qe:=aI qR @zaC;exact gD0
 ·have hch:=zjp (caps:=[.ip (.i .i64 d) 0]) b c n (rng d 0 99999) (znR (zl b n) d) (zpQ (zl b n) d) (zpQ (zl b n) d).pv (b.slots.map Slt.pv) hb (.refl _) (by simp) λh=>zxb b.slots (zD b n) (zl b n) d (zab h).2.1 (zmD hb (zab h).2.1) (zqK (zrn h))
  rw [<-zmq,if_neg h] at hch;rw [zx2 h];have e1:=eq_false h;refine zb9 (r:=.tup [.agg [.nilsl,.nilsl],.i .i64 (zmq b c n d)]) ?_ (zdL _);refine pz func51 f51.eq_1 λhw X hX=>?_
  have qe:=aI qR (aI @qN @e1);have jA:=zcC d;have jB:=hch;exact gD2
def pure1050 (b:Bk) (c n:ByteArray) (d:Int) (hb:zu b=0->zeG b):Pure prog 21 [b.pv,.s c,.s n,.i .i64 d] (.tup [(zpG b (zpR b c n d) (zmq b c n d)).1.pv,.i .i64 (zpG b (zpR b c n d) (zmq b c n d)).2]):=by
 by_cases h:zu b=0
 ·have e1:(zu b=0)=True:=eq_true h;rw [zjr h zx2];refine pz func21 f21.eq_1 λhw X hX=>?_
  have qe:=aI qR (aI @qN @e1);have jA:=zaM b;have jB:=zvo b c n d (hb h);exact gD2
 ·have e1:(zu b=0)=False:=eq_false h;rw [zfV h];refine zb9 (r:=.tup [.agg [.nilsl,.nilsl],.i .i64 (zu b)]) ?_ (zdL _);refine pz func21 f21.eq_1 λhw X hX=>?_
  have qe:=aI qR (aI @qN @e1);have jA:=zaM b;exact gD2
structure USl where
 name:ByteArray
 mom:Int
 kind:ByteArray
structure UNt where
 kind:ByteArray
 name:ByteArray
 mom:Int
 move:ByteArray
 fro:Int
 to:Int
 cause:ByteArray
 told:Int
structure URl where
 bef:Int
 aft:Int
 notice:Int
 share:Int
 causes:List ByteArray
 off:Int
 run:Int
def zbj:URl:=⟨30,30,7,80,[],10,3⟩
def zbB (r:URl) (s x:USl):Bool:=(decide (x.name=s.name) && decide (x.kind=s.kind)) && decide (s.mom - r.bef<=x.mom) && decide (x.mom<=s.mom+r.aft)
def zdj (p:Nat->Nat->Bool) (n:Nat) (tk:List Nat) (i:Nat):Option Nat:=(List.range n).find? λk=>!tk.contains k && p i k
def zie (p:Nat->Nat->Bool) (n:Nat) (out:List (Nat × Nat)) (i:Nat):List (Nat × Nat):=match zdj p n (out.map (·.2)) i with
 | none=>out
 | some k=>out++[(i,k)]
def zcZ (p:Nat->Nat->Bool) (m n:Nat):List (Nat × Nat):=(List.range m).foldl (zie p n) []
def zbf (p:Nat->Nat->Bool) (m n:Nat):zcZ p (m+1) n=zie p n (zcZ p m n) m:=by
 rw [zcZ,xbt,xa4];rfl
def zhW {p:Nat->Nat->Bool} {n:Nat} {tk:List Nat} {i k:Nat} (h:zdj p n tk i=some k):k < n/\k ∉ tk/\p i k=true:=by
 have h1:=List.find?_some h;have h2:=List.mem_of_find?_eq_some h;simp at h1 h2;exact ⟨h2,h1.1,h1.2⟩
theorem ze1 (p:Nat->Nat->Bool) (n:Nat):∀ m,∀ x ∈ zcZ p m n,x.1 < m/\x.2 < n/\p x.1 x.2=true
 | 0,x,h=>by simp [zcZ] at h
 | m+1,x,h=>by
  rw [zbf,zie] at h
  split at h
  ·have:=ze1 p n m x h;exact ⟨by omega,this.2⟩
  ·rename_i k hk
   rcases xaL.1 h with h|h
   ·have:=ze1 p n m x h;exact ⟨by omega,this.2⟩
   ·simp at h;subst h;have:=zhW hk;exact ⟨by simp,this.1,this.2.2⟩
theorem ziV (p:Nat->Nat->Bool) (n:Nat):∀ m,(zcZ p m n).length<=m
 | 0=>by simp [zcZ]
 | m+1=>by
  have:=ziV p n m;rw [zbf,zie];split<;>simp<;>omega
theorem zj6 {p:Nat->Nat->Bool} {n:Nat} (hi:∀ i i' k,k < n->p i k=true->p i' k=true->i=i'):∀ m j,(∃ x ∈ zcZ p m n,x.1=j)↔j < m/\∃ k,k < n/\p j k=true
 | 0,j=>by simp [zcZ]
 | m+1,j=>by
  have ih:=zj6 hi m j;rw [zbf,zie]
  split
  ·rename_i hk;rw [ih]
   constructor
   ·rintro ⟨h1,h2⟩;exact ⟨by omega,h2⟩
   ·rintro ⟨h1,k,h2,h3⟩;refine ⟨?_,k,h2,h3⟩
    by_cases hj:j=m
    ·subst hj
     exfalso
     have hn:=List.find?_eq_none.1 hk k (by simpa using h2)
     have:(¬k ∈ (zcZ p j n).map (·.2)):=λhm=>by
      obtain ⟨x,hx,he⟩:=xa3.1 hm;have:=ze1 p n j x hx;have e:=hi x.1 j k h2 (by rw [<-he];exact this.2.2) h3
      omega
     simp [h3] at hn;exact this (by simpa using hn)
    ·omega
  ·rename_i k hk;have hs:=zhW hk
   constructor
   ·rintro ⟨x,hx,he⟩
    rcases xaL.1 hx with h|h
    ·have:=ih.1 ⟨x,h,he⟩;exact ⟨by omega,this.2⟩
    ·simp at h;subst h;subst he;exact ⟨by simp,k,hs.1,hs.2.2⟩
   ·rintro ⟨h1,k',h2,h3⟩
    by_cases hj:j=m
    ·exact ⟨(m,k),by simp,hj.symm⟩
    ·obtain ⟨x,hx,he⟩:=ih.2 ⟨by omega,k',h2,h3⟩
     exact ⟨x,xa9 _ hx,he⟩
def zff (g:USl->Bool) (S:List USl):List Nat:=(List.range S.length).filter λj=>!((S[j]?).map g).getD true
def ztR (pl:List Nat) (o:List Int) (x:Nat × Nat):List Int:=o.set (pl[x.1]?.getD 0) 1
theorem zim (pl:List Nat):∀ (M:List (Nat × Nat)) (o:List Int),(M.foldl (ztR pl) o).length=o.length
 | [],_=>rfl
 | x::M,o=>by rw [xbi,zim pl M];simp [ztR]
theorem zqg (pl:List Nat) (j:Nat):∀ (M:List (Nat × Nat)) (o:List Int),j < o.length->(M.foldl (ztR pl) o)[j]?=if (∃ x ∈ M,pl[x.1]?.getD 0=j) then some 1 else o[j]?
 | [],_,_=>by simp
 | x::M,o,h=>by
  rw [xbi,zqg pl j M _ (by simpa [ztR] using h)]
  by_cases h1:∃ y ∈ M,pl[y.1]?.getD 0=j
  ·rw [if_pos h1,if_pos];obtain ⟨y,hy,e⟩:=h1;exact ⟨y,xaJ _ hy,e⟩
  ·rw [if_neg h1,ztR]
   by_cases h2:pl[x.1]?.getD 0=j
   ·rw [if_pos ⟨x,by simp,h2⟩,h2];simp [h]
   ·rw [if_neg]
    ·rw [xbQ h2]
    ·rintro ⟨y,hy,e⟩
     rcases xaB.1 hy with rfl|hy
     ·exact h2 e
     ·exact h1 ⟨y,hy,e⟩
def stU (r:URl) (g:USl->Bool) (bs:USl->Int) (S F:List USl):List Int:=
 let pl:=zff g S
 (zcZ (λi k=>match S[pl[i]?.getD 0]?,F[k]? with|some s,some x=>zbB r s x|_,_=>false) pl.length F.length).foldl (ztR pl) (S.map λs=>if g s then 0 else bs s)
def injU (r:URl) (S F:List USl):Prop:=∀ (i i' k:Nat) (s s' x:USl),S[i]?=some s->S[i']?=some s'->F[k]?=some x->zbB r s x=true->zbB r s' x=true->i=i'
def zrm {g:USl->Bool} {S:List USl} {j:Nat}:j ∈ zff g S↔∃ s,S[j]?=some s/\g s=false:=by
 simp only [zff,xbM,xaO]
 constructor
 ·rintro ⟨h1,h2⟩;rw [xab h1] at h2 ⊢;exact ⟨_,rfl,by simpa using h2⟩
 ·rintro ⟨s,h1,h2⟩;exact ⟨(xaa.1 h1).1,by simp [h1,h2]⟩
def zrl (g:USl->Bool) (S:List USl):(zff g S).Nodup:=List.nodup_range.filter _
def zBt {r:URl} {g:USl->Bool} {bs:USl->Int} {S F:List USl} (hi:injU r S F):stU r g bs S F=S.map λs=>if g s then 0 else if F.any (zbB r s) then 1 else bs s:=by
 have hpl:∀ (i j:Nat),(zff g S)[i]?=some j->∃ s,S[j]?=some s/\g s=false:=λi j h=>zrm.1 (xae h)
 let p:Nat->Nat->Bool:=λi k=>match S[(zff g S)[i]?.getD 0]?,F[k]? with|some s,some x=>zbB r s x|_,_=>false
 let q:Nat->Nat->Bool:=λi k=>decide (i < (zff g S).length) && p i k
 have hp1:∀ i k,p i k=true->∃ s x,S[(zff g S)[i]?.getD 0]?=some s/\F[k]?=some x/\zbB r s x=true:=by
  intro i k h;simp only [p] at h
  split at h
  ·rename_i s x h1 h2;exact ⟨s,x,h1,h2,h⟩
  ·cases h
 have hmq:∀ m,m<=(zff g S).length->zcZ p m F.length=zcZ q m F.length:=by
  intro m
  induction m with
  | zero=>intro _;simp [zcZ]
  | succ m ih=>
   intro h;rw [zbf,zbf,ih (by omega)]
   have:∀ tk,zdj p F.length tk m=zdj q F.length tk m:=by
    intro tk;have hm:m < (zff g S).length:=by omega
    simp only [zdj,q,hm,decide_true,xbh]
   simp only [zie,this]
 have hinj:∀ i i' k,k < F.length->q i k=true->q i' k=true->i=i':=by
  intro i i' k _ h1 h2;simp only [q,xam,decide_eq_true_eq] at h1 h2;obtain ⟨s,x,a1,a2,a3⟩:=hp1 i k h1.2;obtain ⟨s',x',b1,b2,b3⟩:=hp1 i' k h2.2;rw [a2] at b2;cases b2;have e:=hi _ _ _ _ _ _ a1 b1 a2 a3 b3;rw [xab h1.1,xab h2.1] at e;have hn:=xaw.1 (zrl g S)
  rcases xck i i' with h|h|h
  ·exact absurd (by simpa using e) (hn i i' h1.1 h2.1 h)
  ·exact h
  ·exact absurd (by simpa using e.symm) (hn i' i h2.1 h1.1 h)
 have hM:stU r g bs S F=(zcZ q (zff g S).length F.length).foldl (ztR (zff g S)) (S.map λs=>if g s then 0 else bs s):=by
  rw [<-hmq _ (xah _)];rfl
 have hlen:(stU r g bs S F).length=S.length:=by rw [hM,zim];simp
 refine xbT λj=>?_
 by_cases hj:j < S.length
 ·obtain ⟨s,hs⟩:∃ s,S[j]?=some s:=⟨_,xab hj⟩;rw [hM,zqg _ _ _ _ (by simpa using hj)]
  simp only [xai,hs,xb6]
  by_cases hg:g s=true
  ·rw [if_neg]
   ·simp [hg]
   ·rintro ⟨x,hx,e⟩;have h1:=(ze1 q F.length _ x hx).1;rw [xab h1] at e;obtain ⟨s',b1,b2⟩:=hpl x.1 j (by rw [xab h1];simpa using e)
    rw [hs] at b1;cases b1;rw [hg] at b2;cases b2
  ·have hg:g s=false:=by simpa using hg
   have hmem:j ∈ zff g S:=zrm.2 ⟨s,hs,hg⟩;obtain ⟨i,hil,hij⟩:=List.getElem_of_mem hmem;have hij':(zff g S)[i]?=some j:=by rw [xab hil,hij]
   have hiff:(∃ x ∈ zcZ q (zff g S).length F.length,(zff g S)[x.1]?.getD 0=j)↔F.any (zbB r s)=true:=by
    rw [xbv]
    constructor
    ·rintro ⟨x,hx,e⟩;have hx':=ze1 q F.length _ x hx;simp only [q,xam] at hx';obtain ⟨s',y,a1,a2,a3⟩:=hp1 _ _ hx'.2.2.2;rw [e,hs] at a1;cases a1;exact ⟨y,xae a2,a3⟩
    ·rintro ⟨y,hy,hpy⟩;obtain ⟨k,hkl,hk⟩:=List.getElem_of_mem hy;have hk':F[k]?=some y:=by rw [xab hkl,hk]
     obtain ⟨x,hx,e⟩:=(zj6 hinj (zff g S).length i).2 ⟨hil,k,hkl,by simp [q,p,hil,hij,hs,hk',hpy]⟩
     exact ⟨x,hx,by rw [e,hij'];rfl⟩
   by_cases ha:F.any (zbB r s)=true
   ·rw [if_pos (hiff.2 ha)];simp [hg,ha]
   ·rw [if_neg (λh=>ha (hiff.1 h))];simp [hg,ha]
 ·rw [xbA (by omega),xbA (by simpa using hj)]
end Go.Proofs.YtocamnijnhnlfaaGreat
