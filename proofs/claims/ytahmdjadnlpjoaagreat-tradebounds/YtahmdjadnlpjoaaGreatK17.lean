/- Contracts of functions that the proof uses, shared by the claims of this seat; no statement of its own. Part 35. No conditions. -/
import Derived.Test.YtahmdjadnlpjoaaGreatK8
import Derived.Test.YtahmdjadnlpjoaaGreatK16
set_option linter.all false
set_option maxHeartbeats 8000000
namespace Go.Proofs.YtahmdjadnlpjoaaGreat
open Go.RowKit
set_option maxRecDepth 100000
set_option linter.unusedVariables false
set_option linter.unusedSimpArgs false
set_option maxHeartbeats 4000000
def cmpW (a b:Wsh):Int:=zg [cmpI a.rank b.rank,cmpS a.req.name b.req.name]
def wshErr (b:Bk) (i:Nat) (w:Wsh):Int:=zg [chkWsh w,if 0≤atL w.req.name (b.slots.map (·.req.name)++(b.wait.take i).map (·.req.name)) then 9 else 0,if 0 < (i:Int)∧cmpW w ((b.wait[i - 1]?).getD w)≤0 then 11 else 0]
def zG (b:Bk):Int:=zg [if 64 < (b.slots.length:Int) then 5 else 0,zg (b.slots.mapIdx (sltErr b)),if 64 < (b.wait.length:Int) then 5 else 0,zg (b.wait.mapIdx (wshErr b))]
theorem fE_app:∀ (a b:List Int),zg (a++b)=if zg a=0 then zg b else zg a
 | [],b=>by simp [zg]
 | x::r,b=>by
  by_cases h:x=0
  ·simp only [List.cons_append,zg,if_pos h,fE_app r b]
  ·simp only [List.cons_append,zg,if_neg h]
theorem fE_one (e:Int):zg [e]=e:=by by_cases h:e=0<;>simp [zg,h]
theorem za2 {e:Int} {r:List Int} (h:e≠0):zg (e::r)=e:=by simp [zg,h]
theorem za3 {e:Int} {r:List Int} (h:e=0):zg (e::r)=zg r:=by simp [zg,h]
abbrev entN (n:ByteArray):PV × PV:=(.s n,.b true)
theorem mget_names (n:ByteArray):∀ N:List ByteArray,(mget (.s n) (N.map entN)).getD (.b false)=.b (decide (0≤atL n N))
 | []=>rfl
 | x::r=>by
  have ih:=mget_names n r
  have hg:=atL_ge n r
  by_cases h:n=x
  ·subst h;simp [mget,PV.cells,eqCells,eqPV,atL]
  ·have h':¬x=n:=fun e=>h e.symm
   simp only [List.map_cons,mget,PV.cells,eqCells,eqPV,h,decide_false,Bool.false_and,Bool.false_eq_true,if_false,ih,atL,h']
   congr 1
   by_cases h2:atL n r < 0
   ·simp only [h2,if_true];rw [decide_eq_false (by omega)];rfl
   ·simp only [h2,if_false];rw [decide_eq_true (by omega),decide_eq_true (by omega)]
theorem mput_names (n:ByteArray):∀ N:List ByteArray,atL n N < 0→mput (.s n) (.b true) (N.map entN)=(N++[n]).map entN
 | [],_=>rfl
 | x::r,h=>by
  have hx:¬x=n:=fun e=>by subst e;simp [atL] at h
  have hr:atL n r < 0:=by
   simp only [atL,if_neg hx] at h
   by_cases h2:atL n r < 0
   ·exact h2
   ·rw [if_neg h2] at h;omega
  have hx':¬n=x:=fun e=>hx e.symm
  simp only [List.map_cons,List.cons_append,mput,PV.cells,eqCells,eqPV,hx',decide_false,Bool.false_and,Bool.false_eq_true,if_false,mput_names n r hr]
theorem keysOk_names (n:ByteArray):∀ N:List ByteArray,keysOk [2] false (.s n) (N.map entN)
 | []=>trivial
 | x::r=>⟨⟨rfl,by simp [PV.cells,eqCellsOk,eqOk]⟩,keysOk_names n r⟩
theorem pure1152 (a b:Wsh):Pure Tryz.prog 110 [a.pv,b.pv] (.i .i64 (cmpW a b)):=by
 refine zf (cF Tryz.func110 Tryz.f110.eq_1) (by simp) fun hw X hX=>?_
 have qe:=@qR;repeat' first|refine gC (fun hc=>?_) (fun hc=>?_)<;>try contradiction|refine za (pure116 _ _) ?_|refine za (pure117 _ _) ?_|refine za (pure115 [_,_]) ?_|refine gG ?_|show AK _;intro K H|refine H _ _ ?_;clear H K|refine gJ ?_;try exact trivial|omega
 exact .refl _
theorem pure1151 (s:Slt):Pure Tryz.prog 26 [s.pv] (.i .i64 (chkSlt s)):=by
 refine zf (cF Tryz.func26 Tryz.f26.eq_1) (by simp) fun hw X hX=>?_
 simp only [wfs,PV.wf,List.length_map,maxLen] at hw
 have hsp:chkSlt s=zg ([chkQ s.req,zaH s.holder,if 8 < (s.ls.length:Int) then 5 else 0]++[zg (s.ls.mapIdx (leaErr s)),if 4 < (s.sh.length:Int) then 5 else 0,zg (s.sh.mapIdx (shaErr s))]):=rfl
 have qe:=@qR;repeat' first|refine gC (fun hc=>?_) (fun hc=>?_)<;>try contradiction|refine za (pure1194 s.req) ?_|refine za (zby _) ?_|refine za (zW _ _) ?_|refine za (zz [_,_,_]) ?_|refine gG ?_|show AK _;intro K H|refine H _ _ ?_;clear H K|refine gJ ?_;try exact trivial|omega
 ·rw [hsp,fE_app,if_neg hc];exact .refl _
 rw [fE_app,if_pos hc] at hsp
 refine zk (κ:=Nat) (fun i=>⟨[(1,.lp 1 0),(28,.p (.sl 3 (s.ls.map Lea.pv))),(29,.p (.i .i64 s.ls.length)),(30,.p (.i .i64 i))],[(1,.box (s.cells.map .p) false)],[],false⟩) (fun i=>i≤s.ls.length∧∀ x ∈ (s.ls.mapIdx (leaErr s)).take i,x=0) (fun i=>s.ls.length - i) 0 ?_ ?_ ?_
 ·exact sR
 ·simp
 ·intro i hi
  repeat first|refine gG ?_|show AK _;intro K H|refine H _ _ ?_;clear H K|refine gJ ?_;try exact trivial|omega
  (refine gC (fun hc=>?_) (fun hc=>?_)<;>try contradiction)
  ·obtain ⟨x,hx⟩:=zn (i:=i) (l:=s.ls) (by omega)
   obtain ⟨y,hy⟩:=zn (i:=i - 1) (l:=s.ls) (by omega)
   have e:(max 0 ((i:Int) - 1)).toNat=i - 1:=by omega
   have he:leaErr s i x=zg [chkLea x,leaOf s.raw x,if 0 < (i:Int)∧x.fro≤y.to then 15 else 0]:=by rw [leaErr,hy];rfl
   have qe:=aI qR (aI @hx (aI @hy @e));repeat' first|refine gC (fun hc=>?_) (fun hc=>?_)<;>try contradiction|refine za (pure1173 x) ?_|refine za (pure1177 x s.raw) ?_|refine za (zW _ _) ?_|refine za (zz [_,_,_]) ?_|refine gG ?_|show AK _;intro K H|refine H _ _ ?_;clear H K|refine gJ ?_;try exact trivial|omega
   ·rw [←he] at hc
    have h1:zg (s.ls.mapIdx (leaErr s))=leaErr s i x:=zV hi.2 (zI hx) hc
    have hf:chkSlt s=leaErr s i x:=by rw [hsp,za2 (by rw [h1];exact hc),h1]
    rw [hf,he];simp only [Bool.and_eq_true,decide_eq_true_eq];exact .refl _
   ·rw [←he] at hc
    exact ⟨i+1,⟨by omega,zaC hi.2 (zI hx) hc⟩,by omega,by simp⟩
  ·have e1:zg (s.ls.mapIdx (leaErr s))=0:=by
    have e:i=(s.ls.mapIdx (leaErr s)).length:=by simp;omega
    subst e;exact z4 hi.2
   rw [za3 e1] at hsp
   repeat' first|refine gC (fun hc=>?_) (fun hc=>?_)<;>try contradiction|refine gG ?_|show AK _;intro K H|refine H _ _ ?_;clear H K|refine gJ ?_;try exact trivial|omega
   ·rw [hsp,za2 (by rw [if_pos hc];omega),if_pos hc];exact .refl _
   rw [za3 (by rw [if_neg (by omega)]),fE_one] at hsp
   refine zk (κ:=Nat) (fun i=>⟨[(1,.lp 1 0),(68,.p (.sl 1 (s.sh.map .s))),(69,.p (.i .i64 s.sh.length)),(70,.p (.i .i64 i))],[(1,.box (s.cells.map .p) false)],[],false⟩) (fun i=>i≤s.sh.length∧∀ x ∈ (s.sh.mapIdx (shaErr s)).take i,x=0) (fun i=>s.sh.length - i) 0 ?_ ?_ ?_
   ·exact sR
   ·simp
   ·intro i hi
    repeat first|refine gG ?_|show AK _;intro K H|refine H _ _ ?_;clear H K|refine gJ ?_;try exact trivial|omega
    (refine gC (fun hc=>?_) (fun hc=>?_)<;>try contradiction)
    ·obtain ⟨x,hx⟩:=zn (i:=i) (l:=s.sh) (by omega)
     have qe:=aI qR (aI @hx @take_map);repeat' first|refine gC (fun hc=>?_) (fun hc=>?_)<;>try contradiction|refine za (zby x) ?_|refine za (pure1213 (s.sh.take i) x) ?_|refine za (zW _ _) ?_|refine za (zz [_,_,_]) ?_|refine gG ?_|show AK _;intro K H|refine H _ _ ?_;clear H K|refine gJ ?_;try exact trivial|omega
     ·have hf:chkSlt s=shaErr s i x:=by rw [hsp];exact zV hi.2 (zI hx) hc
      rw [hf];exact .refl _
     ·exact ⟨i+1,⟨by omega,zaC hi.2 (zI hx) hc⟩,by omega,by simp⟩
    ·repeat' first|refine gC (fun hc=>?_) (fun hc=>?_)<;>try contradiction|refine gG ?_|show AK _;intro K H|refine H _ _ ?_;clear H K|refine gJ ?_;try exact trivial|omega
     have e:i=(s.sh.mapIdx (shaErr s)).length:=by simp;omega
     subst e
     rw [hsp,z4 hi.2];exact .refl _
theorem zX (b:Bk):Pure Tryz.prog 28 [b.pv] (.i .i64 (zG b)):=by
 refine zf (cF Tryz.func28 Tryz.f28.eq_1) (by simp) fun hw X hX=>?_
 simp only [wfs,PV.wf,List.length_map,maxLen] at hw
 have hsp:zG b=zg [if 64 < (b.slots.length:Int) then 5 else 0,zg (b.slots.mapIdx (sltErr b)),if 64 < (b.wait.length:Int) then 5 else 0,zg (b.wait.mapIdx (wshErr b))]:=rfl
 repeat' first|refine gC (fun hc=>?_) (fun hc=>?_)<;>try contradiction|refine gG ?_|show AK _;intro K H|refine H _ _ ?_;clear H K|refine gJ ?_;try exact trivial|omega
 ·rw [hsp,za2 (by rw [if_pos hc];omega),if_pos hc];exact .refl _
 rw [za3 (by rw [if_neg (by omega)])] at hsp
 refine zk (κ:=Nat) (fun i=>⟨[(1,.lp 1 0),(3,.lm 15),(17,.p (.sl 16 (b.slots.map Slt.pv))),(18,.p (.i .i64 b.slots.length)),(19,.p (.i .i64 i))],[(1,.box [.p (.sl 16 (b.slots.map Slt.pv)),.p (.sl 14 (b.wait.map Wsh.pv))] false),(15,.mp (((b.slots.take i).map (·.req.name)).map entN) false)],[],false⟩) (fun i=>i≤b.slots.length∧∀ x ∈ (b.slots.mapIdx (sltErr b)).take i,x=0) (fun i=>b.slots.length - i) 0 ?_ ?_ ?_
 ·exact sR
 ·simp
 ·intro i hi
  repeat first|refine gG ?_|show AK _;intro K H|refine H _ _ ?_;clear H K|refine gJ ?_;try exact trivial|omega
  (refine gC (fun hc=>?_) (fun hc=>?_)<;>try contradiction)
  ·obtain ⟨x,hx⟩:=zn (i:=i) (l:=b.slots) (by omega)
   have hg:=mget_names x.req.name ((b.slots.take i).map (·.req.name))
   have hk:keysOk [2] false (.s x.req.name) (((b.slots.take i).map (·.req.name)).map entN)=True:=eq_true (keysOk_names _ _)
   by_cases ht:atL x.req.name ((b.slots.take i).map (·.req.name)) < 0
   ·have hp:=mput_names x.req.name ((b.slots.take i).map (·.req.name)) ht
    have hn:(b.slots.take (i+1)).map (·.req.name)=(b.slots.take i).map (·.req.name)++[x.req.name]:=by rw [zan hx,List.map_append];rfl
    have qe:=aI qR (aI @hx (aI @hg (aI @hk @hp)));repeat' first|refine gC (fun hc=>?_) (fun hc=>?_)<;>try contradiction|refine za (pure1151 x) ?_|refine za (zW _ _) ?_|refine za (zz [_,_]) ?_|refine gG ?_|show AK _;intro K H|refine H _ _ ?_;clear H K|refine gJ ?_;try exact trivial|omega
    ·have hf:zG b=sltErr b i x:=by rw [hsp,za2 (by rw [zV hi.2 (zI hx) hc];exact hc)];exact zV hi.2 (zI hx) hc
     rw [hf];exact .refl _
    ·exact ⟨i+1,⟨by omega,zaC hi.2 (zI hx) hc⟩,by omega,by simp only [hn];simp⟩
   ·have qe:=aI qR (aI @hx (aI @hg @hk));repeat' first|refine gC (fun hc=>?_) (fun hc=>?_)<;>try contradiction|refine za (pure1151 x) ?_|refine za (zW _ _) ?_|refine za (zz [_,_]) ?_|refine gG ?_|show AK _;intro K H|refine H _ _ ?_;clear H K|refine gJ ?_;try exact trivial|omega
    ·have hf:zG b=sltErr b i x:=by rw [hsp,za2 (by rw [zV hi.2 (zI hx) hc];exact hc)];exact zV hi.2 (zI hx) hc
     rw [hf];exact .refl _
    ·exfalso
     have:=fE0 hc _ (List.mem_cons_of_mem _ (List.mem_singleton.2 rfl))
     rw [if_pos (by omega)] at this;omega
  ·have e1:zg (b.slots.mapIdx (sltErr b))=0:=by
    have e:i=(b.slots.mapIdx (sltErr b)).length:=by simp;omega
    subst e;exact z4 hi.2
   have e2:b.slots.take i=b.slots:=List.take_of_length_le (by omega)
   rw [za3 e1] at hsp
   rw [e2]
   repeat' first|refine gC (fun hc=>?_) (fun hc=>?_)<;>try contradiction|refine gG ?_|show AK _;intro K H|refine H _ _ ?_;clear H K|refine gJ ?_;try exact trivial|omega
   ·rw [hsp,za2 (by rw [if_pos hc];omega),if_pos hc];exact .refl _
   rw [za3 (by rw [if_neg (by omega)]),fE_one] at hsp
   refine zk (κ:=Nat) (fun i=>⟨[(1,.lp 1 0),(3,.lm 15),(46,.p (.sl 14 (b.wait.map Wsh.pv))),(47,.p (.i .i64 b.wait.length)),(48,.p (.i .i64 i))],[(1,.box [.p (.sl 16 (b.slots.map Slt.pv)),.p (.sl 14 (b.wait.map Wsh.pv))] false),(15,.mp ((b.slots.map (·.req.name)++(b.wait.take i).map (·.req.name)).map entN) false)],[],false⟩) (fun i=>i≤b.wait.length∧∀ x ∈ (b.wait.mapIdx (wshErr b)).take i,x=0) (fun i=>b.wait.length - i) 0 ?_ ?_ ?_
   ·exact sS
   ·simp
   ·intro i hi
    repeat first|refine gG ?_|show AK _;intro K H|refine H _ _ ?_;clear H K|refine gJ ?_;try exact trivial|omega
    (refine gC (fun hc=>?_) (fun hc=>?_)<;>try contradiction)
    ·obtain ⟨x,hx⟩:=zn (i:=i) (l:=b.wait) (by omega)
     obtain ⟨y,hy⟩:=zn (i:=i - 1) (l:=b.wait) (by omega)
     have e:(max 0 ((i:Int) - 1)).toNat=i - 1:=by omega
     have he:wshErr b i x=zg [chkWsh x,if 0≤atL x.req.name (b.slots.map (·.req.name)++(b.wait.take i).map (·.req.name)) then 9 else 0,if 0 < (i:Int)∧cmpW x y≤0 then 11 else 0]:=by rw [wshErr,hy];rfl
     have hg:=mget_names x.req.name (b.slots.map (·.req.name)++(b.wait.take i).map (·.req.name))
     have hk:keysOk [2] false (.s x.req.name) ((b.slots.map (·.req.name)++(b.wait.take i).map (·.req.name)).map entN)=True:=eq_true (keysOk_names _ _)
     by_cases ht:atL x.req.name (b.slots.map (·.req.name)++(b.wait.take i).map (·.req.name)) < 0
     ·have hp:=mput_names x.req.name (b.slots.map (·.req.name)++(b.wait.take i).map (·.req.name)) ht
      have hn:b.slots.map (·.req.name)++(b.wait.take (i+1)).map (·.req.name)=b.slots.map (·.req.name)++(b.wait.take i).map (·.req.name)++[x.req.name]:=by rw [zan hx,List.map_append,List.append_assoc];rfl
      have qe:=aI qR (aI @hx (aI @hy (aI @e (aI @hg (aI @hk @hp)))));repeat' first|refine gC (fun hc=>?_) (fun hc=>?_)<;>try contradiction|refine zN (fun _=>pure1152 x y) ?_|refine za (pure1153 x) ?_|refine za (zW _ _) ?_|refine za (zz [_,_,_]) ?_|refine gG ?_|show AK _;intro K H|refine H _ _ ?_;clear H K|refine gJ ?_;try exact trivial|omega
      ·rw [←he] at hc
       have hf:zG b=wshErr b i x:=by rw [hsp];exact zV hi.2 (zI hx) hc
       rw [hf,he];simp only [Bool.and_eq_true,decide_eq_true_eq];exact .refl _
      ·rw [←he] at hc
       exact ⟨i+1,⟨by omega,zaC hi.2 (zI hx) hc⟩,by omega,by simp only [hn];simp⟩
     ·have qe:=aI qR (aI @hx (aI @hy (aI @e (aI @hg @hk))));repeat' first|refine gC (fun hc=>?_) (fun hc=>?_)<;>try contradiction|refine zN (fun _=>pure1152 x y) ?_|refine za (pure1153 x) ?_|refine za (zW _ _) ?_|refine za (zz [_,_,_]) ?_|refine gG ?_|show AK _;intro K H|refine H _ _ ?_;clear H K|refine gJ ?_;try exact trivial|omega
      ·rw [←he] at hc
       have hf:zG b=wshErr b i x:=by rw [hsp];exact zV hi.2 (zI hx) hc
       rw [hf,he];simp only [Bool.and_eq_true,decide_eq_true_eq];exact .refl _
      ·exfalso
       have:=fE0 hc _ (List.mem_cons_of_mem _ List.mem_cons_self)
       rw [if_pos (by omega)] at this;omega
    ·repeat' first|refine gC (fun hc=>?_) (fun hc=>?_)<;>try contradiction|refine gG ?_|show AK _;intro K H|refine H _ _ ?_;clear H K|refine gJ ?_;try exact trivial|omega
     have e:i=(b.wait.mapIdx (wshErr b)).length:=by simp;omega
     subst e
     rw [hsp,z4 hi.2];exact .refl _
end Go.Proofs.YtahmdjadnlpjoaaGreat
