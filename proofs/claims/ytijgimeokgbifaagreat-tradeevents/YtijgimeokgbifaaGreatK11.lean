/- Contracts of functions, for the claim. No conditions. -/
import Derived.Test.YtijgimeokgbifaaGreatK5
import Derived.Test.YtijgimeokgbifaaGreatK9
set_option linter.all false
set_option maxHeartbeats 8000000
set_option maxRecDepth 100000
namespace Go.Proofs.YtijgimeokgbifaaGreat
open Go.RowKit Tryz
def zwc (a b:Wsh):Int:=zf [zo7 a.rank b.rank,zmH a.req.name b.req.name]
def zd5 (b:Bk) (i:Nat) (w:Wsh):Int:=zf [zkY w,if 0<=atL w.req.name (b.slots.map (·.req.name)++(b.wait.take i).map (·.req.name)) then 9 else 0,if 0 < (i:Int)/\zwc w ((b.wait[i - 1]?).getD w)<=0 then 11 else 0]
def zG (b:Bk):Int:=zf [if 64 < (b.slots.length:Int) then 5 else 0,zf (b.slots.mapIdx (zeJ b)),if 64 < (b.wait.length:Int) then 5 else 0,zf (b.wait.mapIdx (zd5 b))]
theorem zoD:∀ (a b:List Int),zf (a++b)=if zf a=0 then zf b else zf a
 | [],b=>by simp [zf]
 | x::r,b=>by
  by_cases h:x=0
  ·simp only [xaQ,zf,if_pos h,zoD r b]
  ·simp only [xaQ,zf,if_neg h]
def zfj (e:Int):zf [e]=e:=by by_cases h:e=0<;>simp [zf,h]
def za1 {e:Int} {r:List Int} (h:e≠0):zf (e::r)=e:=by simp [zf,h]
def za2 {e:Int} {r:List Int} (h:e=0):zf (e::r)=zf r:=by simp [zf,h]
abbrev zs4 (n:ByteArray):PV × PV:=(.s n,.b true)
theorem zdW (n:ByteArray):∀ N:List ByteArray,(mget (.s n) (N.map zs4)).getD (.b false)=.b (decide (0<=atL n N))
 | []=>rfl
 | x::r=>by
  have ih:=zdW n r;have hg:=ztf n r
  by_cases h:n=x
  ·subst h;simp [mget,PV.cells,eqCells,eqPV,atL]
  ·have h':¬x=n:=λe=>h e.symm
   simp only [xak,mget,PV.cells,eqCells,eqPV,h,decide_false,xbs,xaX,if_false,ih,atL,h']
   congr 1
   by_cases h2:atL n r < 0
   ·simp only [h2,if_true];rw [decide_eq_false (by omega)];rfl
   ·simp only [h2,if_false];rw [decide_eq_true (by omega),decide_eq_true (by omega)]
theorem zdU (n:ByteArray):∀ N:List ByteArray,atL n N < 0->mput (.s n) (.b true) (N.map zs4)=(N++[n]).map zs4
 | [],_=>rfl
 | x::r,h=>by
  have hx:¬x=n:=λe=>by subst e;simp [atL] at h
  have hr:atL n r < 0:=by
   simp only [atL,if_neg hx] at h
   by_cases h2:atL n r < 0
   ·exact h2
   ·rw [if_neg h2] at h;omega
  have hx':¬n=x:=λe=>hx e.symm
  simp only [xak,xaQ,mput,PV.cells,eqCells,eqPV,hx',decide_false,xbs,xaX,if_false,zdU n r hr]
theorem zcy (n:ByteArray):∀ N:List ByteArray,keysOk [2] false (.s n) (N.map zs4)
 | []=>trivial
 | x::r=>⟨⟨rfl,by simp [PV.cells,eqCellsOk,eqOk]⟩,zcy n r⟩
def zgK (a b:Wsh):Pure prog 92 [a.pv,b.pv] (.i .i64 (zwc a b)):=by
 refine pz func92 f92.eq_1 λhw X hX=>?_
 have qe:=@qR;have jA:=λu1 u2=>zi8 u1 u2;have jB:=λu1 u2=>znT u1 u2;have jC:=λu1 u2=>znV [u1,u2];exact gD4
def zkm (s:Slt):Pure prog 91 [s.pv] (.i .i64 (zin s)):=by
 refine pz func91 f91.eq_1 λhw X hX=>?_
 simp only [wfs,PV.wf,xaf,maxLen] at hw;have hsp:zin s=zf ([zsh s.req,zaG s.holder,if 8 < (s.ls.length:Int) then 5 else 0]++[zf (s.ls.mapIdx (zcY s)),if 4 < (s.sh.length:Int) then 5 else 0,zf (s.sh.mapIdx (zhB s))]):=rfl
 have qe:=@qR;repeat' first|refine gC ?_ ?_<;>intro hc<;>try contradiction|refine za (zgG s.req) ?_|refine za (zbv _) ?_|refine za (zU _ _) ?_|refine za (zw [_,_,_]) ?_|refine gG ?_|show AK _;intro J Z|refine gJ ?_|omega|exact aT
 ·rw [hsp,zoD,if_neg hc];exact .refl _
 rw [zoD,if_pos hc] at hsp;refine zi (κ:=Nat) (λi=>⟨[(1,.lp 1 0),(28,.p (.sl 3 (s.ls.map Lea.pv))),(29,.p (.i .i64 s.ls.length)),(30,.p (.i .i64 i))],[(1,.box (s.cells.map .p) false)],[],false⟩) (λi=>i<=s.ls.length/\∀ x ∈ (s.ls.mapIdx (zcY s)).take i,x=0) (λi=>s.ls.length - i) 0 ?_ ?_ ?_
 ·exact sR
 ·simp
 ·intro i hi
  repeat first|refine gG ?_|show AK _;intro J Z|refine gJ ?_|omega|exact aT
  (refine gC ?_ ?_<;>intro hc<;>try contradiction)
  ·obtain ⟨x,hx⟩:=zm (i:=i) (l:=s.ls) (by omega)
   obtain ⟨y,hy⟩:=zm (i:=i - 1) (l:=s.ls) (by omega)
   have e:(max 0 ((i:Int) - 1)).toNat=i - 1:=by omega
   have he:zcY s i x=zf [zdC x,zfH s.raw x,if 0 < (i:Int)/\x.fro<=y.to then 15 else 0]:=by rw [zcY,hy];rfl
   have qe:=aI qR (aI @hx (aI @hy @e));repeat' first|refine gC ?_ ?_<;>intro hc<;>try contradiction|refine za (zkk x) ?_|refine za (zgI x s.raw) ?_|refine za (zU _ _) ?_|refine za (zw [_,_,_]) ?_|refine gG ?_|show AK _;intro J Z|refine gJ ?_|omega|exact aT
   ·rw [<-he] at hc;have h1:zf (s.ls.mapIdx (zcY s))=zcY s i x:=zT hi.2 (zI hx) hc;have hf:zin s=zcY s i x:=by rw [hsp,za1 (by rw [h1];exact hc),h1]
    rw [hf,he];simp only [xap,decide_eq_true_eq];exact .refl _
   ·rw [<-he] at hc;exact ⟨i+1,⟨by omega,zaB hi.2 (zI hx) hc⟩,by omega,by simp⟩
  ·have e1:zf (s.ls.mapIdx (zcY s))=0:=by
    have e:i=(s.ls.mapIdx (zcY s)).length:=by simp;omega
    subst e;exact z4 hi.2
   rw [za2 e1] at hsp
   repeat' first|refine gC ?_ ?_<;>intro hc<;>try contradiction|refine gG ?_|show AK _;intro J Z|refine gJ ?_|omega|exact aT
   ·rw [hsp,za1 (by rw [if_pos hc];omega),if_pos hc];exact .refl _
   rw [za2 (by rw [if_neg (by omega)]),zfj] at hsp
   refine zi (κ:=Nat) (λi=>⟨[(1,.lp 1 0),(68,.p (.sl 1 (s.sh.map .s))),(69,.p (.i .i64 s.sh.length)),(70,.p (.i .i64 i))],[(1,.box (s.cells.map .p) false)],[],false⟩) (λi=>i<=s.sh.length/\∀ x ∈ (s.sh.mapIdx (zhB s)).take i,x=0) (λi=>s.sh.length - i) 0 ?_ ?_ ?_
   ·exact sR
   ·simp
   ·intro i hi
    repeat first|refine gG ?_|show AK _;intro J Z|refine gJ ?_|omega|exact aT
    (refine gC ?_ ?_<;>intro hc<;>try contradiction)
    ·obtain ⟨x,hx⟩:=zm (i:=i) (l:=s.sh) (by omega)
     have qe:=aI qR (aI @hx @zel);repeat' first|refine gC ?_ ?_<;>intro hc<;>try contradiction|refine za (zbv x) ?_|refine za (zgF (s.sh.take i) x) ?_|refine za (zU _ _) ?_|refine za (zw [_,_,_]) ?_|refine gG ?_|show AK _;intro J Z|refine gJ ?_|omega|exact aT
     ·have hf:zin s=zhB s i x:=by rw [hsp];exact zT hi.2 (zI hx) hc
      rw [hf];exact .refl _
     ·exact ⟨i+1,⟨by omega,zaB hi.2 (zI hx) hc⟩,by omega,by simp⟩
    ·repeat' first|refine gC ?_ ?_<;>intro hc<;>try contradiction|refine gG ?_|show AK _;intro J Z|refine gJ ?_|omega|exact aT
     have e:i=(s.sh.mapIdx (zhB s)).length:=by simp;omega
     subst e;rw [hsp,z4 hi.2];exact .refl _
def zV (b:Bk):Pure prog 41 [b.pv] (.i .i64 (zG b)):=by
 refine pz func41 f41.eq_1 λhw X hX=>?_
 simp only [wfs,PV.wf,xaf,maxLen] at hw;have hsp:zG b=zf [if 64 < (b.slots.length:Int) then 5 else 0,zf (b.slots.mapIdx (zeJ b)),if 64 < (b.wait.length:Int) then 5 else 0,zf (b.wait.mapIdx (zd5 b))]:=rfl
 repeat' first|refine gC ?_ ?_<;>intro hc<;>try contradiction|refine gG ?_|show AK _;intro J Z|refine gJ ?_|omega|exact aT
 ·rw [hsp,za1 (by rw [if_pos hc];omega),if_pos hc];exact .refl _
 rw [za2 (by rw [if_neg (by omega)])] at hsp
 refine zi (κ:=Nat) (λi=>⟨[(1,.lp 1 0),(3,.lm 15),(17,.p (.sl 16 (b.slots.map Slt.pv))),(18,.p (.i .i64 b.slots.length)),(19,.p (.i .i64 i))],[(1,.box [.p (.sl 16 (b.slots.map Slt.pv)),.p (.sl 14 (b.wait.map Wsh.pv))] false),(15,.mp (((b.slots.take i).map (·.req.name)).map zs4) false)],[],false⟩) (λi=>i<=b.slots.length/\∀ x ∈ (b.slots.mapIdx (zeJ b)).take i,x=0) (λi=>b.slots.length - i) 0 ?_ ?_ ?_
 ·exact sR
 ·simp
 ·intro i hi
  repeat first|refine gG ?_|show AK _;intro J Z|refine gJ ?_|omega|exact aT
  (refine gC ?_ ?_<;>intro hc<;>try contradiction)
  ·obtain ⟨x,hx⟩:=zm (i:=i) (l:=b.slots) (by omega)
   have hg:=zdW x.req.name ((b.slots.take i).map (·.req.name));have hk:keysOk [2] false (.s x.req.name) (((b.slots.take i).map (·.req.name)).map zs4)=True:=eq_true (zcy _ _)
   by_cases ht:atL x.req.name ((b.slots.take i).map (·.req.name)) < 0
   ·have hp:=zdU x.req.name ((b.slots.take i).map (·.req.name)) ht;have hn:(b.slots.take (i+1)).map (·.req.name)=(b.slots.take i).map (·.req.name)++[x.req.name]:=by rw [zam hx,xaO];rfl
    have qe:=aI qR (aI @hx (aI @hg (aI @hk @hp)));repeat' first|refine gC ?_ ?_<;>intro hc<;>try contradiction|refine za (zkm x) ?_|refine za (zU _ _) ?_|refine za (zw [_,_]) ?_|refine gG ?_|show AK _;intro J Z|refine gJ ?_|omega|exact aT
    ·have hf:zG b=zeJ b i x:=by rw [hsp,za1 (by rw [zT hi.2 (zI hx) hc];exact hc)];exact zT hi.2 (zI hx) hc
     rw [hf];exact .refl _
    ·exact ⟨i+1,⟨by omega,zaB hi.2 (zI hx) hc⟩,by omega,by simp only [hn];simp⟩
   ·have qe:=aI qR (aI @hx (aI @hg @hk));repeat' first|refine gC ?_ ?_<;>intro hc<;>try contradiction|refine za (zkm x) ?_|refine za (zU _ _) ?_|refine za (zw [_,_]) ?_|refine gG ?_|show AK _;intro J Z|refine gJ ?_|omega|exact aT
    ·have hf:zG b=zeJ b i x:=by rw [hsp,za1 (by rw [zT hi.2 (zI hx) hc];exact hc)];exact zT hi.2 (zI hx) hc
     rw [hf];exact .refl _
    ·exfalso
     have:=fE0 hc _ (xaL _ (xaJ.2 rfl));rw [if_pos (by omega)] at this;omega
  ·have e1:zf (b.slots.mapIdx (zeJ b))=0:=by
    have e:i=(b.slots.mapIdx (zeJ b)).length:=by simp;omega
    subst e;exact z4 hi.2
   have e2:b.slots.take i=b.slots:=xag (by omega)
   rw [za2 e1] at hsp;rw [e2]
   repeat' first|refine gC ?_ ?_<;>intro hc<;>try contradiction|refine gG ?_|show AK _;intro J Z|refine gJ ?_|omega|exact aT
   ·rw [hsp,za1 (by rw [if_pos hc];omega),if_pos hc];exact .refl _
   rw [za2 (by rw [if_neg (by omega)]),zfj] at hsp
   refine zi (κ:=Nat) (λi=>⟨[(1,.lp 1 0),(3,.lm 15),(46,.p (.sl 14 (b.wait.map Wsh.pv))),(47,.p (.i .i64 b.wait.length)),(48,.p (.i .i64 i))],[(1,.box [.p (.sl 16 (b.slots.map Slt.pv)),.p (.sl 14 (b.wait.map Wsh.pv))] false),(15,.mp ((b.slots.map (·.req.name)++(b.wait.take i).map (·.req.name)).map zs4) false)],[],false⟩) (λi=>i<=b.wait.length/\∀ x ∈ (b.wait.mapIdx (zd5 b)).take i,x=0) (λi=>b.wait.length - i) 0 ?_ ?_ ?_
   ·exact sS
   ·simp
   ·intro i hi
    repeat first|refine gG ?_|show AK _;intro J Z|refine gJ ?_|omega|exact aT
    (refine gC ?_ ?_<;>intro hc<;>try contradiction)
    ·obtain ⟨x,hx⟩:=zm (i:=i) (l:=b.wait) (by omega)
     obtain ⟨y,hy⟩:=zm (i:=i - 1) (l:=b.wait) (by omega)
     have e:(max 0 ((i:Int) - 1)).toNat=i - 1:=by omega
     have he:zd5 b i x=zf [zkY x,if 0<=atL x.req.name (b.slots.map (·.req.name)++(b.wait.take i).map (·.req.name)) then 9 else 0,if 0 < (i:Int)/\zwc x y<=0 then 11 else 0]:=by rw [zd5,hy];rfl
     have hg:=zdW x.req.name (b.slots.map (·.req.name)++(b.wait.take i).map (·.req.name));have hk:keysOk [2] false (.s x.req.name) ((b.slots.map (·.req.name)++(b.wait.take i).map (·.req.name)).map zs4)=True:=eq_true (zcy _ _)
     by_cases ht:atL x.req.name (b.slots.map (·.req.name)++(b.wait.take i).map (·.req.name)) < 0
     ·have hp:=zdU x.req.name (b.slots.map (·.req.name)++(b.wait.take i).map (·.req.name)) ht;have hn:b.slots.map (·.req.name)++(b.wait.take (i+1)).map (·.req.name)=b.slots.map (·.req.name)++(b.wait.take i).map (·.req.name)++[x.req.name]:=by rw [zam hx,xaO,xau];rfl
      have qe:=aI qR (aI @hx (aI @hy (aI @e (aI @hg (aI @hk @hp)))));repeat' first|refine gC ?_ ?_<;>intro hc<;>try contradiction|refine zp (λ_=>zgK x y) ?_|refine za (zgJ x) ?_|refine za (zU _ _) ?_|refine za (zw [_,_,_]) ?_|refine gG ?_|show AK _;intro J Z|refine gJ ?_|omega|exact aT
      ·rw [<-he] at hc;have hf:zG b=zd5 b i x:=by rw [hsp];exact zT hi.2 (zI hx) hc
       rw [hf,he];simp only [xap,decide_eq_true_eq];exact .refl _
      ·rw [<-he] at hc;exact ⟨i+1,⟨by omega,zaB hi.2 (zI hx) hc⟩,by omega,by simp only [hn];simp⟩
     ·have qe:=aI qR (aI @hx (aI @hy (aI @e (aI @hg @hk))));repeat' first|refine gC ?_ ?_<;>intro hc<;>try contradiction|refine zp (λ_=>zgK x y) ?_|refine za (zgJ x) ?_|refine za (zU _ _) ?_|refine za (zw [_,_,_]) ?_|refine gG ?_|show AK _;intro J Z|refine gJ ?_|omega|exact aT
      ·rw [<-he] at hc;have hf:zG b=zd5 b i x:=by rw [hsp];exact zT hi.2 (zI hx) hc
       rw [hf,he];simp only [xap,decide_eq_true_eq];exact .refl _
      ·exfalso
       have:=fE0 hc _ (xaL _ xar);rw [if_pos (by omega)] at this;omega
    ·repeat' first|refine gC ?_ ?_<;>intro hc<;>try contradiction|refine gG ?_|show AK _;intro J Z|refine gJ ?_|omega|exact aT
     have e:i=(b.wait.mapIdx (zd5 b)).length:=by simp;omega
     subst e;rw [hsp,z4 hi.2];exact .refl _
def zvZ (l:List Lea):l.all ((λx=>x.cells.all PV.one) ∘ Lea.pv)=true:=by rw [xaB];intro x _;rfl
def allSt (l:List ByteArray):l.all ((λx=>x.cells.all PV.one) ∘ PV.s)=true:=by rw [xaB];intro x _;rfl
def zlb (L:List Lea) (hn:L.length*32<=140737488355328):Acts prog 190 [.p (.sl 3 (L.map Lea.pv))] [] (.row 5 L.length) [(5,.row 91 3 (L.map Lea.pv) false)]:=by
 have hA:=λl=>eq_true (zvZ l)
 refine zR (cF func190 f190.eq_1) (by simp) (by simp [scPs,scP]) (by simp [scObj]) trivial (by simp [scObj]) trivial λX hX=>?_
 unfold zE ghO;have qe:=aI qR (aI @hA (aI @rtN @rtR));repeat' first|refine gC ?_ ?_<;>intro hc<;>try contradiction|refine zdP λb hb=>?_|refine gG ?_|show AK _;intro J Z|refine gJ ?_|omega|exact aT
 ·have e:L=[]:=by simpa using hb hc
  subst e;exact .inr ⟨5,91,3,[(2,.row 5 0)],[],by simp only [Own,zaL,zaA,zbr,zax,qS,seval],.mk1⟩
 ·exact .inl .mk1
def zla (L:List ByteArray) (hn:L.length*16<=140737488355328):Acts prog 191 [.p (.sl 1 (L.map .s))] [] (.row 5 L.length) [(5,.row 9 1 (L.map .s) false)]:=by
 have hA:=λl=>eq_true (allSt l)
 refine zR (cF func191 f191.eq_1) (by simp) (by simp [scPs,scP]) (by simp [scObj]) trivial (by simp [scObj]) trivial λX hX=>?_
 unfold zE ghO;have qe:=aI qR (aI @hA (aI @rtN @rtR));repeat' first|refine gC ?_ ?_<;>intro hc<;>try contradiction|refine zdP λb hb=>?_|refine gG ?_|show AK _;intro J Z|refine gJ ?_|omega|exact aT
 ·have e:L=[]:=by simpa using hb hc
  subst e;exact .inr ⟨5,9,1,[(2,.row 5 0)],[],by simp only [Own,zaL,zaA,zbr,zax,qS,seval],.mk1⟩
 ·exact .inl .mk1
def cutE (d:Int) (l:Lea):Lea:=⟨l.carrier,l.fro,min l.to d⟩
def zs8 (d:Int) (l:Lea):List Lea:=if l.to<=d\/l.fro<=min l.to d then [cutE d l] else []
def zhi (d:Int) (L:List Lea):List Lea:=L.flatMap (zs8 d)
def zoY {d:Int} {L:List Lea} {k:Nat} {x:Lea} (h:L[k]?=some x):zhi d (L.take (k+1))=zhi d (L.take k)++zs8 d x:=by
 rw [zam h,zhi,xa0];simp [zhi]
def zkU (d:Int) (L:List Lea):(zhi d L).length<=L.length:=by
 induction L with
 | nil=>simp [zhi]
 | cons x r ih=>
  have:(zs8 d x).length<=1:=by unfold zs8;split<;>simp
  simp only [zhi,xaz,xae,xaE] at ih ⊢;omega
def zgH (L:List Lea) (d:Int) (hn:L.length<=1000000):Pure prog 131 [.sl 3 (L.map Lea.pv),.i .i64 d] (.sl 3 ((zhi d L).map Lea.pv)):=by
 refine pz func131 f131.eq_1 λhw X hX=>?_
 repeat' first|refine gC ?_ ?_<;>intro hc<;>try contradiction|refine gG ?_|show AK _;intro J Z|refine gJ ?_|omega|exact aT
 refine zaO 100 91 3 [(1,.p (.i .i64 d)),(5,.row 100 0),(9,.p (.sl 3 (L.map Lea.pv))),(10,.p (.i .i64 L.length)),(11,.p (.i .i64 0))] [] ?_ ?_
 ·simp only [Own,zaL,zaA,zbr,zax,qS,seval]
 refine zi (κ:=Nat) (λk=>⟨[(1,.p (.i .i64 d)),(5,.row 100 (zhi d (L.take k)).length),(9,.p (.sl 3 (L.map Lea.pv))),(10,.p (.i .i64 L.length)),(11,.p (.i .i64 k))],[(100,.row 91 3 ((zhi d (L.take k)).map Lea.pv) false)],[],false⟩) (λk=>k<=L.length) (λk=>L.length - k) 0 ?_ ?_ ?_
 ·refine gJ ?_;simp [zhi]
 ·simp
 ·intro k hk;have hl:(zhi d (L.take k)).length<=k:=by have:=zkU d (L.take k);rw [xai] at this;omega
  repeat first|refine gG ?_|show AK _;intro J Z|refine gJ ?_|omega|exact aT
  (refine gC ?_ ?_<;>intro hc<;>try contradiction)
  ·obtain ⟨x,hx⟩:=zm (i:=k) (l:=L) (by omega)
   have hnx:=zoY (d:=d) hx;have qe:=aI qR @hx;repeat' first|refine gC ?_ ?_<;>intro hc<;>try contradiction|refine gG ?_|show AK _;intro J Z|refine gJ ?_|omega|exact aT
   ·have hi:zs8 d x=[cutE d x]:=by rw [zs8,if_pos (by omega)]
    rw [hi] at hnx;exact ⟨k+1,by omega,by omega,⟨by rw [hnx];simp,by simp⟩,by rw [hnx];simp [cutE]⟩
   ·have hi:zs8 d x=[]:=by rw [zs8,if_neg (by omega)]
    rw [hi,xat] at hnx;exact ⟨k+1,by omega,by omega,⟨by rw [hnx],by simp⟩,by rw [hnx]⟩
  ·repeat' first|refine gC ?_ ?_<;>intro hc<;>try contradiction|refine gG ?_|show AK _;intro J Z|refine gJ ?_|omega|exact aT
   have e:k=L.length:=by omega
   subst e;rw [xas];exact .refl _
def zld (s:Slt):Prop:=s.ls.length<=1000/\s.sh.length<=1000
def zah (k n:Nat) (r:List LV):zej (.row k n::r)=none:=rfl
def zgE (s:Slt) (h:zld s):Pure prog 189 [s.pv] s.pv:=by
 obtain ⟨h1,h2⟩:=h;refine pz func189 f189.eq_1 λhw X hX=>?_
 have qe:=aI qR (aI @qN @zah);repeat' first|refine gC ?_ ?_<;>intro hc<;>try contradiction|refine zl [(5,105)] (zlb s.ls (by omega)) ?_|refine zl [(5,106)] (zla s.sh (by omega)) ?_|refine gG ?_|show AK _;intro J Z|refine gJ ?_|omega|exact aT
 exact .refl _
def zsB (L:List Slt) (hs:∀ s ∈ L,zld s) (hn:L.length<=1000000):Acts prog 188 [.p (.sl 16 (L.map Slt.pv)),.p (.fn (.func 189) [] [])] [] (.row 100 L.length) [(100,.row 84 16 (L.map Slt.pv) false)]:=by
 refine zR (cF func188 f188.eq_1) (by simp) (by simp [scPs,scP]) (by simp [scObj]) trivial (by simp [scObj]) trivial λX hX=>?_
 unfold zE ghO;have qe:=aI qR (aI @List.map_nil.{0,0} @List.append_nil.{0});repeat' first|refine gC ?_ ?_<;>intro hc<;>try contradiction|refine gG ?_|show AK _;intro J Z|refine gJ ?_|omega|exact aT
 refine zaO 100 84 16 [(1,.p (.fn (.func 189) [] [])),(5,.row 100 0),(8,.p (.sl 16 (L.map Slt.pv))),(9,.p (.i .i64 L.length)),(10,.p (.i .i64 0))] [] ?_ ?_
 ·simp only [Own,zaL,zaA,zbr,zax,qS,seval]
 refine zi (κ:=Nat) (λk=>⟨[(1,.p (.fn (.func 189) [] [])),(5,.row 100 k),(8,.p (.sl 16 (L.map Slt.pv))),(9,.p (.i .i64 L.length)),(10,.p (.i .i64 k))],[(100,.row 84 16 ((L.take k).map Slt.pv) false)],[],false⟩) (λk=>k<=L.length) (λk=>L.length - k) 0 ?_ ?_ ?_
 ·exact sS
 ·simp
 ·intro k hk
  repeat first|refine gG ?_|show AK _;intro J Z|refine gJ ?_|omega|exact aT
  (refine gC ?_ ?_<;>intro hc<;>try contradiction)
  ·obtain ⟨x,hx⟩:=zm (i:=k) (l:=L) (by omega)
   have hl:(L.take k).length=k:=by rw [xai];omega
   have qe:=aI qR (aI @hx @hl);repeat' first|refine gC ?_ ?_<;>intro hc<;>try contradiction|refine zk (zgE x (hs x (xad hx))) ?_|refine gG ?_|show AK _;intro J Z|refine gJ ?_|omega|exact aT
   exact ⟨k+1,by omega,by omega,by simp,by rw [zam hx];simp;omega⟩
  ·obtain rfl:k=L.length:=by omega
   have qe:=aI qR (aI @rtN (aI @rtR @List.take_length.{0}));repeat' first|refine gC ?_ ?_<;>intro hc<;>try contradiction|refine gG ?_|show AK _;intro J Z|refine gJ ?_|omega|exact aT
   exact .inl .mk1
def zvY (l:List Wsh):l.all ((λx=>x.cells.all PV.one) ∘ Wsh.pv)=true:=by rw [xaB];intro x _;rfl
def zbA (L:List Slt) (W:List Wsh) (hs:∀ s ∈ L,zld s) (hn:L.length<=1000000) (hW:W.length<=1000000) :
  Acts prog 117 [.p (.agg [.sl 16 (L.map Slt.pv),.sl 14 (W.map Wsh.pv)])] [] (.agg [.row 100 L.length,.row 7 W.length]) [(100,.row 84 16 (L.map Slt.pv) false),(7,.row 73 14 (W.map Wsh.pv) false)]:=by
 have hA:=λl=>eq_true (zvY l)
 have hT:List.take W.length (W.map Wsh.pv)=W.map Wsh.pv:=by rw [xag];simp
 have hD:∀ x:PV,List.drop W.length (List.replicate W.length x)=[]:=λx=>by simp
 refine zR (cF func117 f117.eq_1) (by simp) (by simp [scPs,scP]) (by simp [scObj]) trivial (by simp [scObj]) trivial λX hX=>?_
 unfold zE ghO;have qe:=aI qR (aI @hA (aI @hT (aI @hD (aI @Nat.min_self (aI @qN (aI @zah (aI @rtN (aI @rtR (aI @List.map_nil.{0,0} @List.append_nil.{0})))))))));repeat' first|refine gC ?_ ?_<;>intro hc<;>try contradiction|refine zdQ [(100,100)] (zsB L hs hn) ?_|refine gG ?_|show AK _;intro J Z|refine gJ ?_|omega|exact aT
 refine zcn 1 ?_;have qe:=@qR;repeat' first|refine gC ?_ ?_<;>intro hc<;>try contradiction|refine gG ?_|show AK _;intro J Z|refine gJ ?_|omega|exact aT
 refine zfS (us:=[.row 100 L.length,.row 7 W.length]) (zs:=[.row 100 L.length,.row 7 W.length]) (sE) (sE) (by simp only [fillLOk]<;>simp [LV.cells,LV.known,qS,seval]) rfl (zF ?_)
 have qe:=aI qR (aI @hT (aI @hD (aI @List.append_nil.{0} (aI @rtN (aI @rtR (aI @zah (@List.length_map.{0,0})))))));repeat' first|refine gC ?_ ?_<;>intro hc<;>try contradiction|refine gG ?_|show AK _;intro J Z|refine gJ ?_|omega|exact aT
 exact .inl .mk
end Go.Proofs.YtijgimeokgbifaaGreat
