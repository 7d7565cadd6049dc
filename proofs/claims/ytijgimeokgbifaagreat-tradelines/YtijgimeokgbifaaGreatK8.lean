/- Contracts of functions, for the claim. No conditions. -/
import Derived.Test.YtijgimeokgbifaaGreatK6
import Derived.Test.YtijgimeokgbifaaGreatK5
set_option linter.all false
set_option maxHeartbeats 8000000
set_option maxRecDepth 100000
namespace Go.Proofs.YtijgimeokgbifaaGreat
open Go.RowKit
def zoa (l:List Lim) (i:Nat) (x:Lim):Int:=zg [zaS x,if 0<=atL x.name ((l.take i).map Lim.name) then 9 else 0]
def zg0 (l:List Lim):List Int:=l.mapIdx (zoa l)
def z3 (l:List Lim):Int:=if 32 < l.length then 5 else zg (zg0 l)
def zhT (l:List Mov) (i:Nat) (x:Mov):Int:=zg [zed x,if 0 < (i:Int)/\x.moment < ((l[i - 1]?).getD x).moment then 11 else 0]
def zgS (l:List Mov):List Int:=l.mapIdx (zhT l)
def zad (l:List Mov):Int:=if 30000 < l.length then 5 else zg (zgS l)
theorem zH {α β:Type} {f:Nat->α->β} {l:List α} {i:Nat} {x:α} (h:l[i]?=some x):(l.mapIdx f)[i]?=some (f i x):=by simp [List.getElem?_mapIdx,h]
theorem zel {α β:Type} (f:α->β) (l:List α) (i:Nat):(l.map f).take i=(l.take i).map f:=by rw [List.map_take]
theorem zeR (l:List Lim):Pure Tryz.prog 40 [.sl 11 (l.map Lim.pv)] (.i .i64 (z3 l)):=by
 refine zf (cF Tryz.func40 Tryz.f40.eq_1) (by simp) λhw X hX=>?_
 simp only [wfs,PV.wf,List.length_map,maxLen] at hw
 repeat' first|refine gC ?_ ?_<;>intro hc<;>try contradiction|refine gG ?_|show AK _;intro K H|refine H _ _ ?_;clear H K|refine gJ ?_;try exact trivial|omega
 ·rw [z3,if_pos (by omega)];exact .refl _
 refine zj (κ:=Nat) (λi=>⟨[(0,.p (.sl 11 (l.map Lim.pv))),(9,.p (.sl 11 (l.map Lim.pv))),(10,.p (.i .i64 l.length)),(11,.p (.i .i64 i))],[],[],false⟩) (λi=>i<=l.length/\∀ x ∈ (zg0 l).take i,x=0) (λi=>l.length - i) 0 ?_ ?_ ?_
 ·exact sR
 ·simp
 ·intro i hi
  repeat first|refine gG ?_|show AK _;intro K H|refine H _ _ ?_;clear H K|refine gJ ?_;try exact trivial|omega
  (refine gC ?_ ?_<;>intro hc<;>try contradiction)
  ·obtain ⟨x,hx⟩:=zm (i:=i) (l:=l) (by omega)
   have qe:=aI qR (aI @hx @zel);repeat' first|refine gC ?_ ?_<;>intro hc<;>try contradiction|refine za (zwU x) ?_|refine za (zwT (l.take i) x.name) ?_|refine za (zbP _ _) ?_|refine za (zbw [_,_]) ?_|refine gG ?_|show AK _;intro K H|refine H _ _ ?_;clear H K|refine gJ ?_;try exact trivial|omega
   ·have he:z3 l=zoa l i x:=by unfold z3;rw [if_neg (by omega)];exact zT hi.2 (zH hx) hc
    rw [he];exact .refl _
   ·exact ⟨i+1,⟨by omega,zaC hi.2 (zH hx) hc⟩,by omega,by simp⟩
  ·repeat' first|refine gC ?_ ?_<;>intro hc<;>try contradiction|refine gG ?_|show AK _;intro K H|refine H _ _ ?_;clear H K|refine gJ ?_;try exact trivial|omega
   have e:i=(zg0 l).length:=by simp [zg0];omega
   subst e
   rw [z3,if_neg (by omega),z4 hi.2];exact .refl _
theorem zhP (l:List Mov):Pure Tryz.prog 195 [.sl 7 (l.map Mov.pv)] (.i .i64 (zad l)):=by
 refine zf (cF Tryz.func195 Tryz.f195.eq_1) (by simp) λhw X hX=>?_
 simp only [wfs,PV.wf,List.length_map,maxLen] at hw
 repeat' first|refine gC ?_ ?_<;>intro hc<;>try contradiction|refine gG ?_|show AK _;intro K H|refine H _ _ ?_;clear H K|refine gJ ?_;try exact trivial|omega
 ·rw [zad,if_pos (by omega)];exact .refl _
 refine zj (κ:=Nat) (λi=>⟨[(0,.p (.sl 7 (l.map Mov.pv))),(9,.p (.sl 7 (l.map Mov.pv))),(10,.p (.i .i64 l.length)),(11,.p (.i .i64 i))],[],[],false⟩) (λi=>i<=l.length/\∀ x ∈ (zgS l).take i,x=0) (λi=>l.length - i) 0 ?_ ?_ ?_
 ·exact sR
 ·simp
 ·intro i hi
  repeat first|refine gG ?_|show AK _;intro K H|refine H _ _ ?_;clear H K|refine gJ ?_;try exact trivial|omega
  (refine gC ?_ ?_<;>intro hc<;>try contradiction)
  ·obtain ⟨x,hx⟩:=zm (i:=i) (l:=l) (by omega)
   obtain ⟨y,hy⟩:=zm (i:=i - 1) (l:=l) (by omega)
   have e:(max 0 ((i:Int) - 1)).toNat=i - 1:=by omega
   have he:zhT l i x=zg [zed x,if 0 < (i:Int)/\x.moment < y.moment then 11 else 0]:=by rw [zhT,hy];rfl
   have qe:=aI qR (aI @hx (aI @hy @e));repeat' first|refine gC ?_ ?_<;>intro hc<;>try contradiction|refine za (zsI x) ?_|refine za (zbP _ _) ?_|refine za (zbw [_,_]) ?_|refine gG ?_|show AK _;intro K H|refine H _ _ ?_;clear H K|refine gJ ?_;try exact trivial|omega
   ·rw [<-he] at hc
    have hf:zad l=zhT l i x:=by unfold zad;rw [if_neg (by omega)];exact zT hi.2 (zH hx) hc
    rw [hf,he];simp only [Bool.and_eq_true,decide_eq_true_eq];exact .refl _
   ·rw [<-he] at hc
    exact ⟨i+1,⟨by omega,zaC hi.2 (zH hx) hc⟩,by omega,by simp⟩
  ·repeat' first|refine gC ?_ ?_<;>intro hc<;>try contradiction|refine gG ?_|show AK _;intro K H|refine H _ _ ?_;clear H K|refine gJ ?_;try exact trivial|omega
   have e:i=(zgS l).length:=by simp [zgS];omega
   subst e
   rw [zad,if_neg (by omega),z4 hi.2];exact .refl _
theorem zsG (l:List Lim) (m:List Mov):Pure Tryz.prog 123 [.sl 11 (l.map Lim.pv),.sl 7 (m.map Mov.pv)] (.i .i64 (zg [z3 l,zad m])):=by
 refine zf (cF Tryz.func123 Tryz.f123.eq_1) (by simp) λhw X hX=>?_
 have qe:=@qR;repeat' first|refine gC ?_ ?_<;>intro hc<;>try contradiction|refine za (zeR l) ?_|refine za (zhP m) ?_|refine za (zbw [_,_]) ?_|refine gG ?_|show AK _;intro K H|refine H _ _ ?_;clear H K|refine gJ ?_;try exact trivial|omega
 exact .refl _
theorem zeC {r:Req} (h:zdC r=0):zau r.per=0/\0<=r.minute/\r.minute<=1439:=by
 unfold zdC at h
 simp only [zp,zdm] at h
 exact ⟨h.2.2.2.1,h.2.2.2.2.1⟩
def zeh (r:Req) (d:Int):Mov:=⟨1440*d+r.minute,r.kind,r.term,r.seats,r.size,r.noise,r.name⟩
def zro (r:Req):List Mov:=(zW r.per).map (zeh r)
theorem zwV (r:Req) (h:zdC r=0):Pure Tryz.prog 122 [r.pv] (.sl 7 ((zro r).map Mov.pv)):=by
 have hr:=zeC h
 have hp:=zaY hr.1
 have hdl:=zcG r.per
 have hdr:zdg r.per=zW r.per:=by rw [zdg,if_pos hr.1]
 refine zf (cF Tryz.func122 Tryz.f122.eq_1) (by simp) λhw X hX=>?_
 have qe:=aI qR @hdr;repeat' first|refine gC ?_ ?_<;>intro hc<;>try contradiction|refine za (zi6 r.per) ?_|refine gG ?_|show AK _;intro K H|refine H _ _ ?_;clear H K|refine gJ ?_;try exact trivial|omega
 refine zaP 100 140 7 [(1,.lp 1 0),(5,.row 100 0),(14,.p (.sl 1 ((zW r.per).map (.i .i64)))),(15,.p (.i .i64 (zW r.per).length)),(16,.p (.i .i64 0))] [(1,.box ([.s r.name,.s r.carrier,.s r.kind,.s r.term,.s r.partner,.s r.link,.i .i64 r.per.fro,.i .i64 r.per.to,.i .i64 r.per.days,.i .i64 r.minute,.i .i64 r.seats,.i .i64 r.size,.i .i64 r.noise].map .p) false)] ?_ ?_
 ·simp only [Own,zaM,zaB,zbt,zay,qS,seval]
 refine zj (κ:=Nat) (λk=>⟨[(1,.lp 1 0),(5,.row 100 ((zW r.per).take k).length),(14,.p (.sl 1 ((zW r.per).map (.i .i64)))),(15,.p (.i .i64 (zW r.per).length)),(16,.p (.i .i64 k))],[(1,.box ([.s r.name,.s r.carrier,.s r.kind,.s r.term,.s r.partner,.s r.link,.i .i64 r.per.fro,.i .i64 r.per.to,.i .i64 r.per.days,.i .i64 r.minute,.i .i64 r.seats,.i .i64 r.size,.i .i64 r.noise].map .p) false),(100,.row 140 7 ((((zW r.per).take k).map (zeh r)).map Mov.pv) false)],[],false⟩) (λk=>k<=(zW r.per).length) (λk=>(zW r.per).length - k) 0 ?_ ?_ ?_
 ·exact sS
 ·simp
 ·intro k hk
  repeat first|refine gG ?_|show AK _;intro K H|refine H _ _ ?_;clear H K|refine gJ ?_;try exact trivial|omega
  (refine gC ?_ ?_<;>intro hc<;>try contradiction)
  ·obtain ⟨d,hx⟩:=zm (i:=k) (l:=zW r.per) (by omega)
   have hdm:=zie (List.mem_of_getElem? hx)
   have hlt:=zgr hx
   have qe:=aI qR @hx;repeat' first|refine gC ?_ ?_<;>intro hc<;>try contradiction|refine gG ?_|show AK _;intro K H|refine H _ _ ?_;clear H K|refine gJ ?_;try exact trivial|omega
   exact ⟨k+1,by omega,by omega,⟨by rw [List.take_add_one,hx,List.length_append];rfl,by simp⟩,by rw [zdh (zeh r) hx];simp [zeh]⟩
  ·repeat' first|refine gC ?_ ?_<;>intro hc<;>try contradiction|refine gG ?_|show AK _;intro K H|refine H _ _ ?_;clear H K|refine gJ ?_;try exact trivial|omega
   have e:k=(zW r.per).length:=by omega
   subst e;rw [List.take_length];exact .refl _
def zgR (r:Req):List Mov:=if zdC r=0 then zro r else []
theorem zkf (r:Req):Pure Tryz.prog 75 [r.pv] (.tup [.sl 7 ((zgR r).map Mov.pv),.i .i64 (zdC r)]):=by
 refine zf (cF Tryz.func75 Tryz.f75.eq_1) (by simp) λhw X hX=>?_
 have qe:=@qR;repeat' first|refine gC ?_ ?_<;>intro hc<;>try contradiction|refine za (zsJ r) ?_|refine za (zwV r hc) ?_|refine gG ?_|show AK _;intro K H|refine H _ _ ?_;clear H K|refine gJ ?_;try exact trivial|omega
 ·rw [zgR,if_neg hc];exact zhq (.nilsl _) (.refl _)
 ·rw [zgR,if_pos hc,hc];exact .refl _
def Req.at (r:Req) (n:Int):Req:={ r with minute:=n }
def zb8 (bef:Mov->Mov->Bool) (x:Mov) (out:List Mov):Nat->Nat
 | 0=>0
 | n+1=>match out[n]? with
  | some y=>if bef x y then zb8 bef x out n else n+1
  | none=>n+1
def zl1 (bef:Mov->Mov->Bool) (out:List Mov) (x:Mov):List Mov:=out.take (zb8 bef x out out.length)++x::out.drop (zb8 bef x out out.length)
def zf5 (bef:Mov->Mov->Bool) (a b:List Mov):List Mov:=(a++b).foldl (zl1 bef) []
theorem zkM (bef:Mov->Mov->Bool) (x:Mov) (out:List Mov):∀ n,zb8 bef x out n<=n
 | 0=>Nat.le_refl _
 | n+1=>by
  have:=zkM bef x out n
  simp only [zb8];(repeat' split)<;>omega
theorem zkN (bef:Mov->Mov->Bool) (x:Mov) (out:List Mov):∀ n i,zb8 bef x out n<=i->i < n->∃ y,out[i]?=some y/\bef x y=true
 | 0,i,_,h=>by omega
 | n+1,i,h,hi=>by
  simp only [zb8] at h
  split at h
  ·rename_i y hy
   split at h
   ·by_cases e:i=n
    ·subst e;exact ⟨y,hy,by assumption⟩
    ·exact zkN bef x out n i h (by omega)
   ·omega
  ·omega
theorem zga (bef:Mov->Mov->Bool) (x:Mov) (out:List Mov):∀ n k y,zb8 bef x out n=k+1->out[k]?=some y->bef x y=false
 | 0,_,_,h,_=>by cases h
 | n+1,k,y,h,hy=>by
  simp only [zb8] at h
  split at h
  ·rename_i z hz
   split at h
   ·exact zga bef x out n k y h hy
   ·have e:n=k:=by omega
    subst e
    rw [hz] at hy
    cases hy
    rename_i hb
    simpa using hb
  ·rename_i hz
   have e:n=k:=by omega
   subst e
   rw [hz] at hy;cases hy
theorem zon (bef:Mov->Mov->Bool) (out:List Mov) (x:Mov):(zl1 bef out x).Perm (x::out):=by
 unfold zl1
 refine List.perm_middle.trans ?_
 rw [List.take_append_drop]
theorem zcR (bef:Mov->Mov->Bool):∀ (l out:List Mov),(l.foldl (zl1 bef) out).Perm (out++l)
 | [],out=>by simp
 | x::l,out=>by
  refine (zcR bef l (zl1 bef out x)).trans ?_
  refine ((zon bef out x).append_right l).trans ?_
  simpa using (List.perm_middle (a:=x) (l₁:=out) (l₂:=l)).symm
theorem zlO (bef:Mov->Mov->Bool) (a b:List Mov):(zf5 bef a b).Perm (a++b):=by
 simpa [zf5] using zcR bef (a++b) []
end Go.Proofs.YtijgimeokgbifaaGreat
