/- Contracts of functions, for the claim. No conditions. -/
import Derived.Test.YtijgimeokgbifaaGreatK13
import Derived.Test.YtijgimeokgbifaaGreatK8
import Derived.Test.YtijgimeokgbifaaGreatK15
import Derived.Test.YtijgimeokgbifaaGreatK11
import Derived.Test.YtijgimeokgbifaaGreatK7
set_option linter.all false
set_option maxHeartbeats 8000000
set_option maxRecDepth 100000
namespace Go.Proofs.YtijgimeokgbifaaGreat
open Go.RowKit
def zow (ls:List Lim) (m:List Mov) (r:Req):Bool:=(zro r).all λo=>!decide (zwv ls m o < 1)
def zk2 (a b:Mov):Bool:=if a.moment=b.moment then (if a.kind=b.kind then Op.bytesLess a.name.toList b.name.toList else Op.bytesLess a.kind.toList b.kind.toList) else decide (a.moment < b.moment)
theorem zyx (l:List Mov):l.all ((λx=>x.cells.all PV.one) ∘ Mov.pv)=true:=by rw [List.all_eq_true];intro x _;rfl
abbrev Mov.cells (m:Mov):List PV:=[.i .i64 m.moment,.s m.kind,.s m.term,.i .i64 m.seats,.i .i64 m.size,.i .i64 m.noise,.s m.name]
def zo0 (x y:Int):Int:=if x < y then -1 else if y < x then 1 else 0
def zmE (x y:ByteArray):Int:=if Op.bytesLess x.toList y.toList=true then -1 else if x=y then 0 else 1
def zvB (a b:Mov):Int:=zg [zo0 a.moment b.moment,zmE a.kind b.kind,zmE a.name b.name]
theorem zue (x:ByteArray):Pure Tryz.prog 226 [.s x] (.b false):=by
 refine zf (cF Tryz.func226 Tryz.f226.eq_1) (by simp) λhw X hX=>?_
 have qe:=@zrk;repeat' first|refine gC ?_ ?_<;>intro hc<;>try contradiction|refine gG ?_|show AK _;intro K H|refine H _ _ ?_;clear H K|refine gJ ?_;try exact trivial|omega
 exact .refl _
theorem zi7 (x y:Int):Pure Tryz.prog 144 [.i .i64 x,.i .i64 y] (.i .i64 (zo0 x y)):=by
 refine zf (cF Tryz.func144 Tryz.f144.eq_1) (by simp) λhw X hX=>?_
 repeat' first|refine gC ?_ ?_<;>intro hc<;>try contradiction|refine za (zi3 _) ?_|refine gG ?_|show AK _;intro K H|refine H _ _ ?_;clear H K|refine gJ ?_;try exact trivial|omega
 ·rw [zo0,if_pos hc];exact .refl _
 ·rw [zo0,if_neg (by omega),if_pos hc];exact .refl _
 ·rw [zo0,if_neg (by omega),if_neg (by omega)];exact .refl _
theorem znO (x y:ByteArray):Pure Tryz.prog 161 [.s x,.s y] (.i .i64 (zmE x y)):=by
 refine zf (cF Tryz.func161 Tryz.f161.eq_1) (by simp) λhw X hX=>?_
 repeat' first|refine gC ?_ ?_<;>intro hc<;>try contradiction|refine za (zue _) ?_|refine gG ?_|show AK _;intro K H|refine H _ _ ?_;clear H K|refine gJ ?_;try exact trivial|omega
 ·rw [zmE,if_pos hc];exact .refl _
 ·rw [zmE,if_neg (by rw [hc.1];simp),if_neg hc.2];exact .refl _
 ·rename_i h1
  rw [zmE,if_neg (by rw [h1];simp),if_pos (hc.resolve_left (by rw [h1];simp))];exact .refl _
theorem znQ (l:List Int):Pure Tryz.prog 160 [.sl 1 (l.map (.i .i64))] (.i .i64 (zg l)):=by
 refine zf (cF Tryz.func160 Tryz.f160.eq_1) (by simp) λhw X hX=>?_
 simp only [wfs,PV.wf,List.length_map,maxLen] at hw
 repeat' first|refine gC ?_ ?_<;>intro hc<;>try contradiction|refine gG ?_|show AK _;intro K H|refine H _ _ ?_;clear H K|refine gJ ?_;try exact trivial|omega
 refine zj (κ:=Nat) (λi=>⟨[(3,.p (.i .i64 0)),(6,.p (.sl 1 (l.map (.i .i64)))),(7,.p (.i .i64 l.length)),(8,.p (.i .i64 i))],[],[],false⟩) (λi=>i<=l.length/\∀ x ∈ l.take i,x=0) (λi=>l.length - i) 0 ?_ ?_ ?_
 ·exact sR
 ·simp
 ·intro i hi
  repeat first|refine gG ?_|show AK _;intro K H|refine H _ _ ?_;clear H K|refine gJ ?_;try exact trivial|omega
  (refine gC ?_ ?_<;>intro hc<;>try contradiction)
  ·obtain ⟨x,hx⟩:=zm (i:=i) (l:=l) (by omega)
   have qe:=@hx;repeat' first|refine gC ?_ ?_<;>intro hc<;>try contradiction|refine gG ?_|show AK _;intro K H|refine H _ _ ?_;clear H K|refine gJ ?_;try exact trivial|omega
   ·rw [zT hi.2 hx hc];exact .refl _
   ·exact ⟨i+1,⟨by omega,zaC hi.2 hx hc⟩,by omega,by simp⟩
  ·repeat' first|refine gC ?_ ?_<;>intro hc<;>try contradiction|refine gG ?_|show AK _;intro K H|refine H _ _ ?_;clear H K|refine gJ ?_;try exact trivial|omega
   have e:i=l.length:=by omega
   subst e
   rw [z4 hi.2];exact .refl _
theorem zuj (a b:Mov):Pure Tryz.prog 198 [a.pv,b.pv] (.i .i64 (zvB a b)):=by
 refine zf (cF Tryz.func198 Tryz.f198.eq_1) (by simp) λhw X hX=>?_
 have qe:=@qR;repeat' first|refine gC ?_ ?_<;>intro hc<;>try contradiction|refine za (zi7 _ _) ?_|refine za (znO _ _) ?_|refine za (znQ [_,_,_]) ?_|refine gG ?_|show AK _;intro K H|refine H _ _ ?_;clear H K|refine gJ ?_;try exact trivial|omega
 exact .refl _
theorem zvV (L:List Mov) (hn:L.length*80<=140737488355328):Acts Tryz.prog 196 [.p (.sl 7 (L.map Mov.pv))] [] (.row 5 L.length) [(5,.row 140 7 (L.map Mov.pv) false)]:=by
 have hA:=λl=>eq_true (zyx l)
 refine zR (cF Tryz.func196 Tryz.f196.eq_1) (by simp) (by simp [scPs,scP]) (by simp [scObj]) trivial (by simp [scObj]) trivial λX hX=>?_
 unfold zD ghO
 have qe:=aI qR (aI @hA (aI @rtN @rtR));repeat' first|refine gC ?_ ?_<;>intro hc<;>try contradiction|refine zdQ λb hb=>?_|refine gG ?_|show AK _;intro K H|refine H _ _ ?_;clear H K|refine gJ ?_;try exact trivial|omega
 ·have e:L=[]:=by simpa using hb hc
  subst e
  exact .inr ⟨5,140,7,[(2,.row 5 0)],[],by simp only [Own,zaM,zaB,zbt,zay,qS,seval],.mk1⟩
 ·exact .inl .mk1
theorem zkH:∀ l:List UInt8,Op.bytesLess l l=false
 | []=>by simp [Op.bytesLess]
 | x::r=>by simp [Op.bytesLess,zkH r]
theorem zs3 (x y:Int):zo0 x y=0↔x=y:=by unfold zo0;(repeat' split)<;>omega
theorem zye (x y:Int):zo0 x y < 0↔x < y:=by unfold zo0;(repeat' split)<;>omega
theorem zs2 (x y:ByteArray):zmE x y=0↔x=y:=by
 unfold zmE
 split
 ·rename_i h
  refine ⟨λh0=>by omega,λe=>?_⟩
  subst e;rw [zkH] at h;cases h
 ·split
  ·rename_i h;exact ⟨λ_=>h,λ_=>rfl⟩
  ·rename_i h;exact ⟨λh0=>by omega,λe=>absurd e h⟩
theorem zoZ (x y:ByteArray):zmE x y < 0↔Op.bytesLess x.toList y.toList=true:=by
 unfold zmE
 split
 ·rename_i h;exact ⟨λ_=>h,λ_=>by omega⟩
 ·rename_i h
  refine ⟨λh0=>?_,λe=>absurd e h⟩
  split at h0<;>omega
theorem zkV (a b:Mov):zvB a b < 0↔zk2 a b=true:=by
 unfold zvB zk2
 simp only [zg]
 by_cases h1:a.moment=b.moment
 ·rw [if_pos h1,if_pos ((zs3 _ _).2 h1)]
  by_cases h2:a.kind=b.kind
  ·rw [if_pos h2,if_pos ((zs2 _ _).2 h2)]
   by_cases h3:zmE a.name b.name=0
   ·rw [if_pos h3,<-zoZ,h3]
   ·rw [if_neg h3];exact zoZ _ _
  ·rw [if_neg h2,if_neg (λh=>h2 ((zs2 _ _).1 h))];exact zoZ _ _
 ·rw [if_neg h1,if_neg (λh=>h1 ((zs3 _ _).1 h)),decide_eq_true_eq];exact zye _ _
theorem zkW:bfC zvB=zk2:=by
 funext a b
 show decide (zvB a b < 0)=zk2 a b
 by_cases h:zvB a b < 0
 ·rw [decide_eq_true h,(zkV a b).1 h]
 ·rw [decide_eq_false h];exact (Bool.eq_false_iff.2 λh2=>h ((zkV a b).2 h2)).symm
theorem zlk (a b:List Mov):zag zvB (a++b)=zf5 zk2 a b:=by rw [zag,zkW];rfl
def mgE (a b:List Mov):Int:=zg [zad a,zad b,if 30000 < (a.length:Int)+b.length then 5 else 0]
def mgR (a b:List Mov):List Mov:=if mgE a b=0 then zf5 zk2 a b else []
def zfe (L:List Slt) (n:ByteArray):Int:=if atL n (L.map (·.req.name)) < 0 then 10 else 0
theorem zq6 (A B:List ByteArray):Pure Tryz.prog 32 [.sl 1 (A.map .s),.sl 1 (B.map .s)] (.b (decide (A=B))):=by
 refine zf (cF Tryz.func32 Tryz.f32.eq_1) (by simp) λhw X hX=>?_
 simp only [wfs,PV.wf,List.length_map,maxLen] at hw
 repeat' first|refine gC ?_ ?_<;>intro hc<;>try contradiction|refine gG ?_|show AK _;intro K H|refine H _ _ ?_;clear H K|refine gJ ?_;try exact trivial|omega
 ·rw [decide_eq_false (λe=>hc (by rw [e]))];exact .refl _
 have hlen:A.length=B.length:=by omega
 refine zj (κ:=Nat) (λi=>⟨[(0,.p (.sl 1 (A.map .s))),(1,.p (.sl 1 (B.map .s))),(5,.p (.i .i64 i))],[],[],false⟩) (λi=>i<=A.length/\A.take i=B.take i) (λi=>A.length - i) 0 ?_ ?_ ?_
 ·exact sR
 ·simp
 ·intro i hi
  repeat first|refine gG ?_|show AK _;intro K H|refine H _ _ ?_;clear H K|refine gJ ?_;try exact trivial|omega
  (refine gC ?_ ?_<;>intro hc<;>try contradiction)
  ·obtain ⟨x,hx⟩:=zm (i:=i) (l:=A) (by omega)
   obtain ⟨y,hy⟩:=zm (i:=i) (l:=B) (by omega)
   have qe:=aI @hx @hy;repeat' first|refine gC ?_ ?_<;>intro hc<;>try contradiction|refine gG ?_|show AK _;intro K H|refine H _ _ ?_;clear H K|refine gJ ?_;try exact trivial|omega
   ·rw [decide_eq_false (λe=>hc (by subst e;rw [hx] at hy;injection hy))];exact .refl _
   ·exact ⟨i+1,⟨by omega,by rw [zan hx,zan hy,hi.2,hc]⟩,by omega,by simp⟩
  ·repeat' first|refine gC ?_ ?_<;>intro hc<;>try contradiction|refine gG ?_|show AK _;intro K H|refine H _ _ ?_;clear H K|refine gJ ?_;try exact trivial|omega
   have e:i=A.length:=by omega
   have h2:=hi.2
   rw [e,List.take_length,hlen,List.take_length] at h2
   rw [decide_eq_true h2];exact .refl _
end Go.Proofs.YtijgimeokgbifaaGreat
