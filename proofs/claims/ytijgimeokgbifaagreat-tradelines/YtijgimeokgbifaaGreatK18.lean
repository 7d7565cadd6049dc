/- Contracts of functions, for the claim. No conditions. -/
import Derived.Test.YtijgimeokgbifaaGreatK7
import Derived.Test.YtijgimeokgbifaaGreatK16
set_option linter.all false
set_option maxHeartbeats 8000000
set_option maxRecDepth 100000
namespace Go.Proofs.YtijgimeokgbifaaGreat
open Go.RowKit
def zv4 (a b:Wsh):Int:=zg [zo0 a.rank b.rank,zmE a.req.name b.req.name]
def zd5 (b:Bk) (i:Nat) (w:Wsh):Int:=zg [zkX w,if 0<=atL w.req.name (b.slots.map (·.req.name)++(b.wait.take i).map (·.req.name)) then 9 else 0,if 0 < (i:Int)/\zv4 w ((b.wait[i - 1]?).getD w)<=0 then 11 else 0]
def zF (b:Bk):Int:=zg [if 64 < (b.slots.length:Int) then 5 else 0,zg (b.slots.mapIdx (zeJ b)),if 64 < (b.wait.length:Int) then 5 else 0,zg (b.wait.mapIdx (zd5 b))]
theorem zox:∀ (a b:List Int),zg (a++b)=if zg a=0 then zg b else zg a
 | [],b=>by simp [zg]
 | x::r,b=>by
  by_cases h:x=0
  ·simp only [List.cons_append,zg,if_pos h,zox r b]
  ·simp only [List.cons_append,zg,if_neg h]
theorem zfk (e:Int):zg [e]=e:=by by_cases h:e=0<;>simp [zg,h]
theorem za3 {e:Int} {r:List Int} (h:e≠0):zg (e::r)=e:=by simp [zg,h]
theorem za4 {e:Int} {r:List Int} (h:e=0):zg (e::r)=zg r:=by simp [zg,h]
abbrev zsX (n:ByteArray):PV × PV:=(.s n,.b true)
theorem zdW (n:ByteArray):∀ N:List ByteArray,(mget (.s n) (N.map zsX)).getD (.b false)=.b (decide (0<=atL n N))
 | []=>rfl
 | x::r=>by
  have ih:=zdW n r
  have hg:=zs8 n r
  by_cases h:n=x
  ·subst h;simp [mget,PV.cells,eqCells,eqPV,atL]
  ·have h':¬x=n:=λe=>h e.symm
   simp only [List.map_cons,mget,PV.cells,eqCells,eqPV,h,decide_false,Bool.false_and,Bool.false_eq_true,if_false,ih,atL,h']
   congr 1
   by_cases h2:atL n r < 0
   ·simp only [h2,if_true];rw [decide_eq_false (by omega)];rfl
   ·simp only [h2,if_false];rw [decide_eq_true (by omega),decide_eq_true (by omega)]
theorem zdU (n:ByteArray):∀ N:List ByteArray,atL n N < 0->mput (.s n) (.b true) (N.map zsX)=(N++[n]).map zsX
 | [],_=>rfl
 | x::r,h=>by
  have hx:¬x=n:=λe=>by subst e;simp [atL] at h
  have hr:atL n r < 0:=by
   simp only [atL,if_neg hx] at h
   by_cases h2:atL n r < 0
   ·exact h2
   ·rw [if_neg h2] at h;omega
  have hx':¬n=x:=λe=>hx e.symm
  simp only [List.map_cons,List.cons_append,mput,PV.cells,eqCells,eqPV,hx',decide_false,Bool.false_and,Bool.false_eq_true,if_false,zdU n r hr]
theorem zcA (n:ByteArray):∀ N:List ByteArray,keysOk [2] false (.s n) (N.map zsX)
 | []=>trivial
 | x::r=>⟨⟨rfl,by simp [PV.cells,eqCellsOk,eqOk]⟩,zcA n r⟩
theorem zgK (a b:Wsh):Pure Tryz.prog 92 [a.pv,b.pv] (.i .i64 (zv4 a b)):=by
 refine zf (cF Tryz.func92 Tryz.f92.eq_1) (by simp) λhw X hX=>?_
 have qe:=@qR;repeat' first|refine gC ?_ ?_<;>intro hc<;>try contradiction|refine za (zi7 _ _) ?_|refine za (znO _ _) ?_|refine za (znQ [_,_]) ?_|refine gG ?_|show AK _;intro K H|refine H _ _ ?_;clear H K|refine gJ ?_;try exact trivial|omega
 exact .refl _
theorem zkm (s:Slt):Pure Tryz.prog 91 [s.pv] (.i .i64 (zil s)):=by
 refine zf (cF Tryz.func91 Tryz.f91.eq_1) (by simp) λhw X hX=>?_
 simp only [wfs,PV.wf,List.length_map,maxLen] at hw
 have hsp:zil s=zg ([zsa s.req,zaH s.holder,if 8 < (s.ls.length:Int) then 5 else 0]++[zg (s.ls.mapIdx (zcZ s)),if 4 < (s.sh.length:Int) then 5 else 0,zg (s.sh.mapIdx (zhA s))]):=rfl
 have qe:=@qR;repeat' first|refine gC ?_ ?_<;>intro hc<;>try contradiction|refine za (zgG s.req) ?_|refine za (zbx _) ?_|refine za (zU _ _) ?_|refine za (zw [_,_,_]) ?_|refine gG ?_|show AK _;intro K H|refine H _ _ ?_;clear H K|refine gJ ?_;try exact trivial|omega
 ·rw [hsp,zox,if_neg hc];exact .refl _
 rw [zox,if_pos hc] at hsp
 refine zj (κ:=Nat) (λi=>⟨[(1,.lp 1 0),(28,.p (.sl 3 (s.ls.map Lea.pv))),(29,.p (.i .i64 s.ls.length)),(30,.p (.i .i64 i))],[(1,.box (s.cells.map .p) false)],[],false⟩) (λi=>i<=s.ls.length/\∀ x ∈ (s.ls.mapIdx (zcZ s)).take i,x=0) (λi=>s.ls.length - i) 0 ?_ ?_ ?_
 ·exact sR
 ·simp
 ·intro i hi
  repeat first|refine gG ?_|show AK _;intro K H|refine H _ _ ?_;clear H K|refine gJ ?_;try exact trivial|omega
  (refine gC ?_ ?_<;>intro hc<;>try contradiction)
  ·obtain ⟨x,hx⟩:=zm (i:=i) (l:=s.ls) (by omega)
   obtain ⟨y,hy⟩:=zm (i:=i - 1) (l:=s.ls) (by omega)
   have e:(max 0 ((i:Int) - 1)).toNat=i - 1:=by omega
   have he:zcZ s i x=zg [zdD x,zfI s.raw x,if 0 < (i:Int)/\x.fro<=y.to then 15 else 0]:=by rw [zcZ,hy];rfl
   have qe:=aI qR (aI @hx (aI @hy @e));repeat' first|refine gC ?_ ?_<;>intro hc<;>try contradiction|refine za (zkk x) ?_|refine za (zgI x s.raw) ?_|refine za (zU _ _) ?_|refine za (zw [_,_,_]) ?_|refine gG ?_|show AK _;intro K H|refine H _ _ ?_;clear H K|refine gJ ?_;try exact trivial|omega
   ·rw [<-he] at hc
    have h1:zg (s.ls.mapIdx (zcZ s))=zcZ s i x:=zT hi.2 (zH hx) hc
    have hf:zil s=zcZ s i x:=by rw [hsp,za3 (by rw [h1];exact hc),h1]
    rw [hf,he];simp only [Bool.and_eq_true,decide_eq_true_eq];exact .refl _
   ·rw [<-he] at hc
    exact ⟨i+1,⟨by omega,zaC hi.2 (zH hx) hc⟩,by omega,by simp⟩
  ·have e1:zg (s.ls.mapIdx (zcZ s))=0:=by
    have e:i=(s.ls.mapIdx (zcZ s)).length:=by simp;omega
    subst e;exact z4 hi.2
   rw [za4 e1] at hsp
   repeat' first|refine gC ?_ ?_<;>intro hc<;>try contradiction|refine gG ?_|show AK _;intro K H|refine H _ _ ?_;clear H K|refine gJ ?_;try exact trivial|omega
   ·rw [hsp,za3 (by rw [if_pos hc];omega),if_pos hc];exact .refl _
   rw [za4 (by rw [if_neg (by omega)]),zfk] at hsp
   refine zj (κ:=Nat) (λi=>⟨[(1,.lp 1 0),(68,.p (.sl 1 (s.sh.map .s))),(69,.p (.i .i64 s.sh.length)),(70,.p (.i .i64 i))],[(1,.box (s.cells.map .p) false)],[],false⟩) (λi=>i<=s.sh.length/\∀ x ∈ (s.sh.mapIdx (zhA s)).take i,x=0) (λi=>s.sh.length - i) 0 ?_ ?_ ?_
   ·exact sR
   ·simp
   ·intro i hi
    repeat first|refine gG ?_|show AK _;intro K H|refine H _ _ ?_;clear H K|refine gJ ?_;try exact trivial|omega
    (refine gC ?_ ?_<;>intro hc<;>try contradiction)
    ·obtain ⟨x,hx⟩:=zm (i:=i) (l:=s.sh) (by omega)
     have qe:=aI qR (aI @hx @zel);repeat' first|refine gC ?_ ?_<;>intro hc<;>try contradiction|refine za (zbx x) ?_|refine za (zgF (s.sh.take i) x) ?_|refine za (zU _ _) ?_|refine za (zw [_,_,_]) ?_|refine gG ?_|show AK _;intro K H|refine H _ _ ?_;clear H K|refine gJ ?_;try exact trivial|omega
     ·have hf:zil s=zhA s i x:=by rw [hsp];exact zT hi.2 (zH hx) hc
      rw [hf];exact .refl _
     ·exact ⟨i+1,⟨by omega,zaC hi.2 (zH hx) hc⟩,by omega,by simp⟩
    ·repeat' first|refine gC ?_ ?_<;>intro hc<;>try contradiction|refine gG ?_|show AK _;intro K H|refine H _ _ ?_;clear H K|refine gJ ?_;try exact trivial|omega
     have e:i=(s.sh.mapIdx (zhA s)).length:=by simp;omega
     subst e
     rw [hsp,z4 hi.2];exact .refl _
theorem zV (b:Bk):Pure Tryz.prog 41 [b.pv] (.i .i64 (zF b)):=by
 refine zf (cF Tryz.func41 Tryz.f41.eq_1) (by simp) λhw X hX=>?_
 simp only [wfs,PV.wf,List.length_map,maxLen] at hw
 have hsp:zF b=zg [if 64 < (b.slots.length:Int) then 5 else 0,zg (b.slots.mapIdx (zeJ b)),if 64 < (b.wait.length:Int) then 5 else 0,zg (b.wait.mapIdx (zd5 b))]:=rfl
 repeat' first|refine gC ?_ ?_<;>intro hc<;>try contradiction|refine gG ?_|show AK _;intro K H|refine H _ _ ?_;clear H K|refine gJ ?_;try exact trivial|omega
 ·rw [hsp,za3 (by rw [if_pos hc];omega),if_pos hc];exact .refl _
 rw [za4 (by rw [if_neg (by omega)])] at hsp
 refine zj (κ:=Nat) (λi=>⟨[(1,.lp 1 0),(3,.lm 15),(17,.p (.sl 16 (b.slots.map Slt.pv))),(18,.p (.i .i64 b.slots.length)),(19,.p (.i .i64 i))],[(1,.box [.p (.sl 16 (b.slots.map Slt.pv)),.p (.sl 14 (b.wait.map Wsh.pv))] false),(15,.mp (((b.slots.take i).map (·.req.name)).map zsX) false)],[],false⟩) (λi=>i<=b.slots.length/\∀ x ∈ (b.slots.mapIdx (zeJ b)).take i,x=0) (λi=>b.slots.length - i) 0 ?_ ?_ ?_
 ·exact sR
 ·simp
 ·intro i hi
  repeat first|refine gG ?_|show AK _;intro K H|refine H _ _ ?_;clear H K|refine gJ ?_;try exact trivial|omega
  (refine gC ?_ ?_<;>intro hc<;>try contradiction)
  ·obtain ⟨x,hx⟩:=zm (i:=i) (l:=b.slots) (by omega)
   have hg:=zdW x.req.name ((b.slots.take i).map (·.req.name))
   have hk:keysOk [2] false (.s x.req.name) (((b.slots.take i).map (·.req.name)).map zsX)=True:=eq_true (zcA _ _)
   by_cases ht:atL x.req.name ((b.slots.take i).map (·.req.name)) < 0
   ·have hp:=zdU x.req.name ((b.slots.take i).map (·.req.name)) ht
    have hn:(b.slots.take (i+1)).map (·.req.name)=(b.slots.take i).map (·.req.name)++[x.req.name]:=by rw [zan hx,List.map_append];rfl
    have qe:=aI qR (aI @hx (aI @hg (aI @hk @hp)));repeat' first|refine gC ?_ ?_<;>intro hc<;>try contradiction|refine za (zkm x) ?_|refine za (zU _ _) ?_|refine za (zw [_,_]) ?_|refine gG ?_|show AK _;intro K H|refine H _ _ ?_;clear H K|refine gJ ?_;try exact trivial|omega
    ·have hf:zF b=zeJ b i x:=by rw [hsp,za3 (by rw [zT hi.2 (zH hx) hc];exact hc)];exact zT hi.2 (zH hx) hc
     rw [hf];exact .refl _
    ·exact ⟨i+1,⟨by omega,zaC hi.2 (zH hx) hc⟩,by omega,by simp only [hn];simp⟩
   ·have qe:=aI qR (aI @hx (aI @hg @hk));repeat' first|refine gC ?_ ?_<;>intro hc<;>try contradiction|refine za (zkm x) ?_|refine za (zU _ _) ?_|refine za (zw [_,_]) ?_|refine gG ?_|show AK _;intro K H|refine H _ _ ?_;clear H K|refine gJ ?_;try exact trivial|omega
    ·have hf:zF b=zeJ b i x:=by rw [hsp,za3 (by rw [zT hi.2 (zH hx) hc];exact hc)];exact zT hi.2 (zH hx) hc
     rw [hf];exact .refl _
    ·exfalso
     have:=fE0 hc _ (List.mem_cons_of_mem _ (List.mem_singleton.2 rfl))
     rw [if_pos (by omega)] at this;omega
  ·have e1:zg (b.slots.mapIdx (zeJ b))=0:=by
    have e:i=(b.slots.mapIdx (zeJ b)).length:=by simp;omega
    subst e;exact z4 hi.2
   have e2:b.slots.take i=b.slots:=List.take_of_length_le (by omega)
   rw [za4 e1] at hsp
   rw [e2]
   repeat' first|refine gC ?_ ?_<;>intro hc<;>try contradiction|refine gG ?_|show AK _;intro K H|refine H _ _ ?_;clear H K|refine gJ ?_;try exact trivial|omega
   ·rw [hsp,za3 (by rw [if_pos hc];omega),if_pos hc];exact .refl _
   rw [za4 (by rw [if_neg (by omega)]),zfk] at hsp
   refine zj (κ:=Nat) (λi=>⟨[(1,.lp 1 0),(3,.lm 15),(46,.p (.sl 14 (b.wait.map Wsh.pv))),(47,.p (.i .i64 b.wait.length)),(48,.p (.i .i64 i))],[(1,.box [.p (.sl 16 (b.slots.map Slt.pv)),.p (.sl 14 (b.wait.map Wsh.pv))] false),(15,.mp ((b.slots.map (·.req.name)++(b.wait.take i).map (·.req.name)).map zsX) false)],[],false⟩) (λi=>i<=b.wait.length/\∀ x ∈ (b.wait.mapIdx (zd5 b)).take i,x=0) (λi=>b.wait.length - i) 0 ?_ ?_ ?_
   ·exact sS
   ·simp
   ·intro i hi
    repeat first|refine gG ?_|show AK _;intro K H|refine H _ _ ?_;clear H K|refine gJ ?_;try exact trivial|omega
    (refine gC ?_ ?_<;>intro hc<;>try contradiction)
    ·obtain ⟨x,hx⟩:=zm (i:=i) (l:=b.wait) (by omega)
     obtain ⟨y,hy⟩:=zm (i:=i - 1) (l:=b.wait) (by omega)
     have e:(max 0 ((i:Int) - 1)).toNat=i - 1:=by omega
     have he:zd5 b i x=zg [zkX x,if 0<=atL x.req.name (b.slots.map (·.req.name)++(b.wait.take i).map (·.req.name)) then 9 else 0,if 0 < (i:Int)/\zv4 x y<=0 then 11 else 0]:=by rw [zd5,hy];rfl
     have hg:=zdW x.req.name (b.slots.map (·.req.name)++(b.wait.take i).map (·.req.name))
     have hk:keysOk [2] false (.s x.req.name) ((b.slots.map (·.req.name)++(b.wait.take i).map (·.req.name)).map zsX)=True:=eq_true (zcA _ _)
     by_cases ht:atL x.req.name (b.slots.map (·.req.name)++(b.wait.take i).map (·.req.name)) < 0
     ·have hp:=zdU x.req.name (b.slots.map (·.req.name)++(b.wait.take i).map (·.req.name)) ht
      have hn:b.slots.map (·.req.name)++(b.wait.take (i+1)).map (·.req.name)=b.slots.map (·.req.name)++(b.wait.take i).map (·.req.name)++[x.req.name]:=by rw [zan hx,List.map_append,List.append_assoc];rfl
      have qe:=aI qR (aI @hx (aI @hy (aI @e (aI @hg (aI @hk @hp)))));repeat' first|refine gC ?_ ?_<;>intro hc<;>try contradiction|refine zM (λ_=>zgK x y) ?_|refine za (zgJ x) ?_|refine za (zU _ _) ?_|refine za (zw [_,_,_]) ?_|refine gG ?_|show AK _;intro K H|refine H _ _ ?_;clear H K|refine gJ ?_;try exact trivial|omega
      ·rw [<-he] at hc
       have hf:zF b=zd5 b i x:=by rw [hsp];exact zT hi.2 (zH hx) hc
       rw [hf,he];simp only [Bool.and_eq_true,decide_eq_true_eq];exact .refl _
      ·rw [<-he] at hc
       exact ⟨i+1,⟨by omega,zaC hi.2 (zH hx) hc⟩,by omega,by simp only [hn];simp⟩
     ·have qe:=aI qR (aI @hx (aI @hy (aI @e (aI @hg @hk))));repeat' first|refine gC ?_ ?_<;>intro hc<;>try contradiction|refine zM (λ_=>zgK x y) ?_|refine za (zgJ x) ?_|refine za (zU _ _) ?_|refine za (zw [_,_,_]) ?_|refine gG ?_|show AK _;intro K H|refine H _ _ ?_;clear H K|refine gJ ?_;try exact trivial|omega
      ·rw [<-he] at hc
       have hf:zF b=zd5 b i x:=by rw [hsp];exact zT hi.2 (zH hx) hc
       rw [hf,he];simp only [Bool.and_eq_true,decide_eq_true_eq];exact .refl _
      ·exfalso
       have:=fE0 hc _ (List.mem_cons_of_mem _ List.mem_cons_self)
       rw [if_pos (by omega)] at this;omega
    ·repeat' first|refine gC ?_ ?_<;>intro hc<;>try contradiction|refine gG ?_|show AK _;intro K H|refine H _ _ ?_;clear H K|refine gJ ?_;try exact trivial|omega
     have e:i=(b.wait.mapIdx (zd5 b)).length:=by simp;omega
     subst e
     rw [hsp,z4 hi.2];exact .refl _
end Go.Proofs.YtijgimeokgbifaaGreat
