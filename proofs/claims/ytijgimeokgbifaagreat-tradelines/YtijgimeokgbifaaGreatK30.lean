/- Contracts of functions, for the claim. No conditions. -/
import Derived.Test.YtijgimeokgbifaaGreatK29
set_option linter.all false
set_option maxHeartbeats 8000000
set_option maxRecDepth 100000
namespace Go.Proofs.YtijgimeokgbifaaGreat
open Go.RowKit
def zsh (s:Slt) (d:Int):Int:=if s.req.per.to < d then 30 else 0
def zpq (p:Per) (d:Int):Per:=⟨p.fro,d - 1,p.days⟩
def zvM (s:Slt) (d:Int):Slt:=⟨{ s.req with per:=zpq s.req.per d },s.holder,zhh (d - 1) s.ls,s.sh⟩
theorem zsv (L:List Slt) (i:Nat) (s:Slt) (d:Int) (hs:L[i]?=some s) (hok:zlc s) (hd:0<=d/\d<=99999):Acts Tryz.prog 130 [.ep 900 L.length i 0,.p (.ip (.i .i64 d) 0)] [(900,.row 84 16 (L.map Slt.pv) false)] (.p (.i .i64 (zsh s d)))
  [(900,.row 84 16 (if zsh s d=0 then (L.map Slt.pv).set i (zvM s d).pv else L.map Slt.pv) false)]:=by
 have hi:i < L.length:=(List.getElem?_eq_some_iff.1 hs).1
 have hi':i < (L.map Slt.pv).length:=by simpa using hi
 have hg:=λa=>zc4 (L.map Slt.pv) i a hi'
 obtain ⟨hl,_⟩:=hok
 obtain ⟨hd0,hd1⟩:=hd
 by_cases h:s.req.per.to < d
 ·have hE:zsh s d=30:=if_pos h
  rw [hE,if_neg (by decide)]
  have h1:=eq_true h
  refine zR (cF Tryz.func130 Tryz.f130.eq_1) (by simp) (by simp [scPs,scP,zk]) (by simp [scObj]) ⟨rfl,trivial⟩ (by simp [scObj]) (by simp [zc2,zk]) λX hX=>?_
  unfold zD ghO
  have qe:=aI qR (aI @qN (aI @gLV.eq_2 (aI @hs (aI @h1 (aI @rtN (aI @rtR @decide_true))))));repeat' first|refine gC ?_ ?_<;>intro hc<;>try contradiction|refine gG ?_|show AK _;intro K H|refine H _ _ ?_;clear H K|refine gJ ?_;try exact trivial|omega
  all_goals exact .inl (.mk1 (h2:=by simp only [qS,seval,keepG.eq_1,keepG.eq_2,gLV.eq_2]<;>simp))
 ·have hE:zsh s d=0:=if_neg h
  rw [hE,if_pos rfl]
  have h1:=eq_false h
  refine zR (cF Tryz.func130 Tryz.f130.eq_1) (by simp) (by simp [scPs,scP,zk]) (by simp [scObj]) ⟨rfl,trivial⟩ (by simp [scObj]) (by simp [zc2,zk]) λX hX=>?_
  unfold zD ghO
  have qe:=aI qR (aI @qN (aI @gLV.eq_2 (aI @hs (aI @hg (aI @h1 (aI @List.set_set.{0} (aI @List.length_set.{0} (aI @rtN (aI @rtR @decide_false)))))))));repeat' first|refine gC ?_ ?_<;>intro hc<;>try contradiction|refine za (zgH s.ls (d - 1) (by omega)) ?_|refine gG ?_|show AK _;intro K H|refine H _ _ ?_;clear H K|refine gJ ?_;try exact trivial|omega
  all_goals exact .inl (.mk1 (h2:=by simp only [qS,seval,keepG.eq_1,keepG.eq_2,gLV.eq_2]<;>simp))
theorem zpe (L:List Slt) (i:Nat) (s:Slt) (d:Int) (hs:L[i]?=some s) (hok:zlc s) (hd:0<=d/\d<=99999) (h:zsh s d=0):Acts Tryz.prog 130 [.ep 900 L.length i 0,.lp 1 0] [(900,.row 84 16 (L.map Slt.pv) false),(1,.box [.p (.i .i64 d)] false)] (.p (.i .i64 0))
  [(900,.row 84 16 ((L.map Slt.pv).set i (zvM s d).pv) false),(1,.box [.p (.i .i64 d)] false)]:=by
 have hi:i < L.length:=(List.getElem?_eq_some_iff.1 hs).1
 have hi':i < (L.map Slt.pv).length:=by simpa using hi
 have hg:=λa=>zc4 (L.map Slt.pv) i a hi'
 obtain ⟨hl,_⟩:=hok
 obtain ⟨hd0,hd1⟩:=hd
 have h':¬s.req.per.to < d:=λk=>by rw [zsh,if_pos k] at h;omega
 have h1:=eq_false h'
 refine zR (cF Tryz.func130 Tryz.f130.eq_1) (by simp) (by simp [scPs,scP,zk]) (by simp [scObj,scPs,scP]) ⟨rfl,rfl,trivial⟩ (by simp [scObj,scPs,scP]) (by simp [zc2,zk]) λX hX=>?_
 unfold zD ghO
 have qe:=aI qR (aI @qN (aI @gLV.eq_1 (aI @gLV.eq_2 (aI @hs (aI @hg (aI @h1 (aI @List.set_set.{0} (aI @List.length_set.{0} (aI @rtN (aI @rtR @decide_false))))))))));repeat' first|refine gC ?_ ?_<;>intro hc<;>try contradiction|refine za (zgH s.ls (d - 1) (by omega)) ?_|refine gG ?_|show AK _;intro K H|refine H _ _ ?_;clear H K|refine gJ ?_;try exact trivial|omega
 all_goals exact .inl (.mk1 (h2:=by simp only [qS,seval,keepG.eq_1,keepG.eq_2,gLV.eq_1,gLV.eq_2]<;>simp))
def zo8 (b:Bk) (c n:ByteArray) (d:Int):Int:=zfM b c n (rng d 0 99999) (zsh (zn b n) d)
def zhj (b:Bk) (n:ByteArray) (d:Int):Bk:=zo1 b n (zvM (zn b n) d)
theorem zsz (b:Bk) (c n:ByteArray) (d:Int) (hb:zfz b) (h:zo8 b c n d=0):Acts Tryz.prog 129 [.p b.pv,.p (.s c),.p (.s n),.p (.i .i64 (rng d 0 99999)),.fn (.func 130) [] [.lp 1 0]] [(1,.box [.p (.i .i64 d)] false)] (.tup [.agg [.row 200 (zhj b n d).slots.length,.row 201 (zhj b n d).wait.length],.p (.i .i64 0)])
  [(1,.box [.p (.i .i64 d)] false),(200,.row 84 16 ((zhj b n d).slots.map Slt.pv) false),(201,.row 73 14 ((zhj b n d).wait.map Wsh.pv) false)]:=by
 have hown:zhm b c n (rng d 0 99999)=0:=fE0 h _ (by simp)
 have hce:zsh (zn b n) d=0:=fE0 h _ (by simp)
 obtain ⟨hat,hsl,hh,h3⟩:=za8 hown
 have hso:=zj5 hb hsl
 have hcl:=zpe b.slots (zx b n) (zn b n) d hsl hso (znn (zuv hown)) hce
 obtain ⟨hs,hn,hwl⟩:=hb
 have hlt:=zdE n (b.slots.map (·.req.name))
 rw [List.length_map] at hlt
 have hfd:(if atL n (b.slots.map (·.req.name)) < 0 then (10:Int) else 0)=zfe b.slots n:=rfl
 have h3t:(zg [zaH c,zfe b.slots n,rng d 0 99999]=0)=True:=eq_true h3
 have hlen:(zhj b n d).slots.length=b.slots.length:=by rw [zhj,zo1];simp
 have hmap:(zhj b n d).slots.map Slt.pv=(b.slots.map Slt.pv).set (zx b n) (zvM (zn b n) d).pv:=by rw [zhj,zo1,List.map_set]
 have hwt:(zhj b n d).wait=b.wait:=rfl
 rw [zx] at hcl hsl hmap
 generalize zn b n=s at hcl hsl hmap hh
 rw [hlen,hmap,hwt]
 refine zR (cF Tryz.func129 Tryz.f129.eq_1) (by simp) (by simp [scPs,scP,zk]) (by simp [scObj,scPs,scP]) ⟨rfl,trivial⟩ (by simp [scObj,scPs,scP]) (by simp [zc2,zk]) λX hX=>?_
 unfold zD ghO
 have qe:=aI qR (aI @qN (aI @gLV.eq_1 (aI @zaA (aI @zaz (aI @zaf (aI @hfd (aI @h3t (aI @hsl (aI @hh (aI @decide_true (aI @Bool.not_true (aI @List.append_nil.{0} (aI @rtN @rtR)))))))))))));repeat' first|refine gC ?_ ?_<;>intro hc<;>try contradiction|refine za (zbx c) ?_|refine za (zY b n) ?_|refine za (zw [_,_,_]) ?_|refine zl [(100,200),(7,201)] (zbC b.slots b.wait hs (by omega) (by omega)) ?_|refine za (za9 b n) ?_|refine gG ?_|show AK _;intro K H|refine H _ _ ?_;clear H K|refine gJ ?_;try exact trivial|omega
 refine ziI [(900,200),(1,1)] (hf:=hcl) (hn:=?_)
 have qe:=aI qR (aI @qN (aI @gLV.eq_1 (aI @zaA (aI @zaz (aI @zaf (aI @List.length_set.{0} (aI @List.length_map.{0,0} (aI @rtN @rtR))))))));repeat' first|refine gC ?_ ?_<;>intro hc<;>try contradiction|refine gG ?_|show AK _;intro K H|refine H _ _ ?_;clear H K|refine gJ ?_;try exact trivial|omega
 exact .inl (.mkT (h2:=by simp only [qS,seval,keepG.eq_1,keepG.eq_2,gLV.eq_1,gLV.eq_2]<;>simp))
def bckD (b:Bk) (n:ByteArray) (d:Int):Prop:=zau (zpq (zn b n).req.per d)=0/\¬(zdg (zpq (zn b n).req.per d)).length=0
instance (b:Bk) (n:ByteArray) (d:Int):Decidable (bckD b n d):=by unfold bckD;infer_instance
def zv5 (b:Bk) (n:ByteArray) (d:Int):Bk:=if bckD b n d then zhj b n d else ⟨(zhj b n d).slots.take (zx b n)++(zhj b n d).slots.drop (zx b n+1),b.wait⟩
def zvN (b:Bk) (c n:ByteArray) (d:Int):Bk:=if zo8 b c n d=0 then zv5 b n d else bk0
theorem zs7 {b:Bk} {c n:ByteArray} {d:Int} (h:zo8 b c n d≠0):zvN b c n d=bk0:=if_neg h
theorem zn0 (L:List Slt) (i:Nat) (s s':Slt) (h:L[i]?=some s) (h2:s'.req.name=s.req.name):(L.set i s').map (·.req.name)=L.map (·.req.name):=by
 obtain ⟨hi,he⟩:=List.getElem?_eq_some_iff.1 h
 rw [List.map_set,h2,<-he]
 refine List.ext_getElem (by simp) λj h1 h3=>?_
 rw [List.getElem_set]
 split
 ·rename_i e;subst e;simp
 ·rfl
theorem zqV (b:Bk) (c n:ByteArray) (d:Int) (hb:zfz b):Pure Tryz.prog 77 [b.pv,.s c,.s n,.i .i64 d] (.tup [(zvN b c n d).pv,.i .i64 (zo8 b c n d)]):=by
 by_cases h:zo8 b c n d=0
 ·have hch:=zsz b c n d hb h
  have hown:zhm b c n (rng d 0 99999)=0:=fE0 h _ (by simp)
  obtain ⟨hat,hsl,hh,h3⟩:=za8 hown
  obtain ⟨hs,hn,hwl⟩:=hb
  have hlt:=zdE n (b.slots.map (·.req.name))
  rw [List.length_map] at hlt
  have hlen:(zhj b n d).slots.length=b.slots.length:=by rw [zhj,zo1];simp
  have hnm:(zhj b n d).slots.map (·.req.name)=b.slots.map (·.req.name):=zn0 _ _ _ _ hsl rfl
  have hfi:atL n (b.slots.map (·.req.name))=(zx b n:Int):=by rw [zx];omega
  have hi:zx b n < (zhj b n d).slots.length:=by rw [hlen];omega
  have hg:(zhj b n d).slots[zx b n]?=some (zvM (zn b n) d):=by
   rw [zhj,zo1];exact List.getElem?_set_self (by omega)
  have hbB:zvN b c n d=zv5 b n d:=if_pos h
  rw [hbB,h]
  generalize hO:zhj b n d=O at hch hlen hnm hi hg
  have hfind:=za9 O n
  rw [hnm,hfi] at hfind
  by_cases hD:bckD b n d
  ·have hY:zv5 b n d=O:=by rw [zv5,if_pos hD,hO]
   rw [hY]
   obtain ⟨d1,d2⟩:=hD
   have e1:=eq_true d1
   have e2:(((zdg (zpq (zn b n).req.per d)).length:Int)=0)=False:=eq_false (by omega)
   refine zf (cF Tryz.func77 Tryz.f77.eq_1) (by simp) λhw X hX=>?_
   have qe:=aI qR (aI @qN (aI @zaA (aI @zaz (aI @zaf (aI @hg (aI @d1 (aI @e2 (aI @decide_true @decide_false))))))));repeat' first|refine gC ?_ ?_<;>intro hc<;>try contradiction|refine za (zb2 d) ?_|refine zl [(1,7),(200,300),(201,301)] (hch) ?_|refine za (hfind) ?_|refine za (zep (zpq (zn b n).req.per d)) ?_|refine gG ?_|show AK _;intro K H|refine H _ _ ?_;clear H K|refine gJ ?_;try exact trivial|omega
   exact .refl _
  ·have hY:zv5 b n d=⟨O.slots.take (zx b n)++O.slots.drop (zx b n+1),b.wait⟩:=by rw [zv5,if_neg hD,hO]
   have hwO:O.wait=b.wait:=by rw [<-hO];rfl
   rw [hY,<-hwO]
   refine zf (cF Tryz.func77 Tryz.f77.eq_1) (by simp) λhw X hX=>?_
   by_cases d1:zau (zpq (zn b n).req.per d)=0
   ·have d2:(zdg (zpq (zn b n).req.per d)).length=0:=Classical.byContradiction λh=>hD ⟨d1,h⟩
    have e2:(((zdg (zpq (zn b n).req.per d)).length:Int)=0)=True:=eq_true (by omega)
    have qe:=aI qR (aI @qN (aI @zaA (aI @zaz (aI @zaf (aI @hg (aI @d1 (aI @e2 (aI @decide_true @decide_false))))))));repeat' first|refine gC ?_ ?_<;>intro hc<;>try contradiction|refine za (zb2 d) ?_|refine zl [(1,7),(200,300),(201,301)] (hch) ?_|refine za (hfind) ?_|refine za (zep (zpq (zn b n).req.per d)) ?_|refine gG ?_|show AK _;intro K H|refine H _ _ ?_;clear H K|refine gJ ?_;try exact trivial|omega
    have hxl:(O.slots.map Slt.pv).length=O.slots.length:=by simp
    have hoa:oneAll (O.slots.map Slt.pv)=true:=by
     simp only [oneAll,List.all_map,List.all_eq_true];intro x _;rfl
    refine zbN (zdw 300 rfl (λa0 c0=>[(50,.p (.rs a0 (O.slots.map Slt.pv).length c0)),(51,.p (.i .i64 (zx b n))),(53,.p (.i .i64 ((zx b n:Int)+1))),(10,.lp 10 0),(8,.lp 8 0)]) (λa0 c0=>[(10,.box [.p (.rs a0 (O.slots.map Slt.pv).length c0),.row 301 O.wait.length] false),(301,.row 73 14 (O.wait.map Wsh.pv) false),(8,.box [.p .nilsl,.p .nilsl] false)]) λa0 c0=>⟨?_,?_,?_,?_⟩) ?_
    ·exact ⟨.inr ⟨.rs a0 _ c0,.inl (.inr ⟨by show LV.row 300 _=LV.row 300 _;rw [hxl],rfl⟩),rfl⟩,.inl rfl,.inl rfl,.inl rfl,.inl rfl,trivial⟩
    ·exact ⟨.inr ⟨_,rfl,_,_,_,rfl,rfl,.inr ⟨by show LV.row 300 _=LV.row 300 _;rw [hxl],rfl⟩,.inl rfl,trivial⟩,.inl rfl,.inl rfl,trivial⟩
    ·simp [scEnv,scP,zk]
    ·simp [scObj,scPs,scP,zk]
    rintro _ ⟨a0,c0,rfl⟩
    refine (show zi _ _ _ _ _ (St.mk _ _ [] false) _ from ?_)
    have h1208:=zlb (O.slots.map Slt.pv) (zx b n) a0 c0 (by rw [hxl];exact hi) hoa
    refine zdR [(900,300)] (hf:=h1208) (hn:=?_)
    refine zcp 1 ?_
    have qe:=aI qR (aI @rn.eq_1 @rn.eq_2);repeat' first|refine gC ?_ ?_<;>intro hc<;>try contradiction|refine gG ?_|show AK _;intro K H|refine H _ _ ?_;clear H K|refine gJ ?_;try exact trivial|omega
    have hl2:(List.take (zx b n) (O.slots.map Slt.pv)++List.drop (zx b n+1) (O.slots.map Slt.pv)).length=O.slots.length - 1:=by simp;omega
    have htk:(List.take (zx b n) (O.slots.map Slt.pv)++List.drop (zx b n+1) (O.slots.map Slt.pv)++[zsl]).take (O.slots.length - 1)=(O.slots.take (zx b n)++O.slots.drop (zx b n+1)).map Slt.pv:=by
     rw [List.take_append_of_le_length (by omega),List.take_of_length_le (by omega)];simp
    refine zbN (zfc 300 (O.slots.length - 1) (e:=84) (sz:=16) (c0:=c0) (xs:=List.take (zx b n) (O.slots.map Slt.pv)++List.drop (zx b n+1) (O.slots.map Slt.pv)++[zsl]) (a0:=a0) [(54,.p (.sl 16 ((O.slots.take (zx b n)++O.slots.drop (zx b n+1)).map Slt.pv))),(55,.lp 10 0),(10,.lp 10 0),(8,.lp 8 0)] [(10,.box [.p (.rs a0 O.slots.length c0),.row 301 O.wait.length] false),(301,.row 73 14 (O.wait.map Wsh.pv) false),(8,.box [.p .nilsl,.p .nilsl] false)] rfl (by rw [List.length_append,hl2];omega) ⟨?_,?_,?_,?_⟩) ?_
    ·exact ⟨.inr ⟨_,_,rfl,rfl,by rw [<-htk];exact .inl (.inr ⟨rfl,rfl⟩)⟩,.inl rfl,.inl rfl,.inl rfl,trivial⟩
    ·exact ⟨.inl rfl,.inl rfl,.inl rfl,trivial⟩
    ·simp [scEnv,scP,zk]
    ·simp [scObj,scPs,scP,zk]
    rintro _ rfl
    refine (show zi _ _ _ _ _ (St.mk _ _ [] false) _ from zE ?_)
    have qe:=aI qR @zaf;repeat' first|refine gC ?_ ?_<;>intro hc<;>try contradiction|refine gG ?_|show AK _;intro K H|refine H _ _ ?_;clear H K|refine gJ ?_;try exact trivial|omega
    exact .refl _
   ·have d1f:=eq_false d1
    have qe:=aI qR (aI @qN (aI @zaA (aI @zaz (aI @zaf (aI @hg (aI @d1f (aI @decide_true @decide_false)))))));repeat' first|refine gC ?_ ?_<;>intro hc<;>try contradiction|refine za (zb2 d) ?_|refine zl [(1,7),(200,300),(201,301)] (hch) ?_|refine za (hfind) ?_|refine za (zep (zpq (zn b n).req.per d)) ?_|refine gG ?_|show AK _;intro K H|refine H _ _ ?_;clear H K|refine gJ ?_;try exact trivial|omega
    have hxl:(O.slots.map Slt.pv).length=O.slots.length:=by simp
    have hoa:oneAll (O.slots.map Slt.pv)=true:=by
     simp only [oneAll,List.all_map,List.all_eq_true];intro x _;rfl
    refine zbN (zdw 300 rfl (λa0 c0=>[(50,.p (.rs a0 (O.slots.map Slt.pv).length c0)),(51,.p (.i .i64 (zx b n))),(53,.p (.i .i64 ((zx b n:Int)+1))),(10,.lp 10 0),(8,.lp 8 0)]) (λa0 c0=>[(10,.box [.p (.rs a0 (O.slots.map Slt.pv).length c0),.row 301 O.wait.length] false),(301,.row 73 14 (O.wait.map Wsh.pv) false),(8,.box [.p .nilsl,.p .nilsl] false)]) λa0 c0=>⟨?_,?_,?_,?_⟩) ?_
    ·exact ⟨.inr ⟨.rs a0 _ c0,.inl (.inr ⟨by show LV.row 300 _=LV.row 300 _;rw [hxl],rfl⟩),rfl⟩,.inl rfl,.inl rfl,.inl rfl,.inl rfl,trivial⟩
    ·exact ⟨.inr ⟨_,rfl,_,_,_,rfl,rfl,.inr ⟨by show LV.row 300 _=LV.row 300 _;rw [hxl],rfl⟩,.inl rfl,trivial⟩,.inl rfl,.inl rfl,trivial⟩
    ·simp [scEnv,scP,zk]
    ·simp [scObj,scPs,scP,zk]
    rintro _ ⟨a0,c0,rfl⟩
    refine (show zi _ _ _ _ _ (St.mk _ _ [] false) _ from ?_)
    have h1208:=zlb (O.slots.map Slt.pv) (zx b n) a0 c0 (by rw [hxl];exact hi) hoa
    refine zdR [(900,300)] (hf:=h1208) (hn:=?_)
    refine zcp 1 ?_
    have qe:=aI qR (aI @rn.eq_1 @rn.eq_2);repeat' first|refine gC ?_ ?_<;>intro hc<;>try contradiction|refine gG ?_|show AK _;intro K H|refine H _ _ ?_;clear H K|refine gJ ?_;try exact trivial|omega
    have hl2:(List.take (zx b n) (O.slots.map Slt.pv)++List.drop (zx b n+1) (O.slots.map Slt.pv)).length=O.slots.length - 1:=by simp;omega
    have htk:(List.take (zx b n) (O.slots.map Slt.pv)++List.drop (zx b n+1) (O.slots.map Slt.pv)++[zsl]).take (O.slots.length - 1)=(O.slots.take (zx b n)++O.slots.drop (zx b n+1)).map Slt.pv:=by
     rw [List.take_append_of_le_length (by omega),List.take_of_length_le (by omega)];simp
    refine zbN (zfc 300 (O.slots.length - 1) (e:=84) (sz:=16) (c0:=c0) (xs:=List.take (zx b n) (O.slots.map Slt.pv)++List.drop (zx b n+1) (O.slots.map Slt.pv)++[zsl]) (a0:=a0) [(54,.p (.sl 16 ((O.slots.take (zx b n)++O.slots.drop (zx b n+1)).map Slt.pv))),(55,.lp 10 0),(10,.lp 10 0),(8,.lp 8 0)] [(10,.box [.p (.rs a0 O.slots.length c0),.row 301 O.wait.length] false),(301,.row 73 14 (O.wait.map Wsh.pv) false),(8,.box [.p .nilsl,.p .nilsl] false)] rfl (by rw [List.length_append,hl2];omega) ⟨?_,?_,?_,?_⟩) ?_
    ·exact ⟨.inr ⟨_,_,rfl,rfl,by rw [<-htk];exact .inl (.inr ⟨rfl,rfl⟩)⟩,.inl rfl,.inl rfl,.inl rfl,trivial⟩
    ·exact ⟨.inl rfl,.inl rfl,.inl rfl,trivial⟩
    ·simp [scEnv,scP,zk]
    ·simp [scObj,scPs,scP,zk]
    rintro _ rfl
    refine (show zi _ _ _ _ _ (St.mk _ _ [] false) _ from zE ?_)
    have qe:=aI qR @zaf;repeat' first|refine gC ?_ ?_<;>intro hc<;>try contradiction|refine gG ?_|show AK _;intro K H|refine H _ _ ?_;clear H K|refine gJ ?_;try exact trivial|omega
    exact .refl _
 ·have hch:=zkZ (caps:=[.ip (.i .i64 d) 0]) b c n (rng d 0 99999) (zsh (zn b n) d) (zvM (zn b n) d) (zvM (zn b n) d).pv (b.slots.map Slt.pv) hb (.refl _) (by simp) λh=>zsv b.slots (zx b n) (zn b n) d (za8 h).2.1 (zj5 hb (za8 h).2.1) (znn (zuv h))
  rw [<-zo8,if_neg h] at hch
  rw [zs7 h]
  have e1:=eq_false h
  refine zat (r:=.tup [.agg [.nilsl,.nilsl],.i .i64 (zo8 b c n d)]) ?_ (zbv _)
  refine zf (cF Tryz.func77 Tryz.f77.eq_1) (by simp) λhw X hX=>?_
  have qe:=aI qR (aI @qN @e1);repeat' first|refine gC ?_ ?_<;>intro hc<;>try contradiction|refine za (zb2 d) ?_|refine zam (hch) ?_|refine gG ?_|show AK _;intro K H|refine H _ _ ?_;clear H K|refine gJ ?_;try exact trivial|omega
  exact .refl _
theorem zko (b:Bk) (c n:ByteArray) (d:Int) (hb:zF b=0->zfz b):Pure Tryz.prog 30 [b.pv,.s c,.s n,.i .i64 d] (.tup [(zhl b (zvN b c n d) (zo8 b c n d)).1.pv,.i .i64 (zhl b (zvN b c n d) (zo8 b c n d)).2]):=by
 by_cases h:zF b=0
 ·have e1:(zF b=0)=True:=eq_true h
  rw [zhi h zs7]
  refine zf (cF Tryz.func30 Tryz.f30.eq_1) (by simp) λhw X hX=>?_
  have qe:=aI qR (aI @qN @e1);repeat' first|refine gC ?_ ?_<;>intro hc<;>try contradiction|refine za (zV b) ?_|refine za (zqV b c n d (hb h)) ?_|refine gG ?_|show AK _;intro K H|refine H _ _ ?_;clear H K|refine gJ ?_;try exact trivial|omega
  exact .refl _
 ·have e1:(zF b=0)=False:=eq_false h
  rw [zeD h]
  refine zat (r:=.tup [.agg [.nilsl,.nilsl],.i .i64 (zF b)]) ?_ (zbv _)
  refine zf (cF Tryz.func30 Tryz.f30.eq_1) (by simp) λhw X hX=>?_
  have qe:=aI qR (aI @qN @e1);repeat' first|refine gC ?_ ?_<;>intro hc<;>try contradiction|refine za (zV b) ?_|refine gG ?_|show AK _;intro K H|refine H _ _ ?_;clear H K|refine gJ ?_;try exact trivial|omega
  exact .refl _
end Go.Proofs.YtijgimeokgbifaaGreat
