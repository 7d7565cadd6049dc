/- Contracts of functions that the proof uses, shared by the claims of this seat; no statement of its own. Part 73. No conditions. -/
import Derived.Test.YtahmdjadnlpjoaaGreatRows
import Derived.Test.YtahmdjadnlpjoaaGreatH2
set_option linter.all false
set_option maxHeartbeats 8000000
set_option maxRecDepth 100000
namespace Go.Proofs.YtahmdjadnlpjoaaGreat
open Go.RowKit
theorem ybq (L:List Lim) (hn:L.length*112<=140737488355328):Pure Tryz.prog 38 [.sl 11 (L.map Lim.pv)] (.sl 11 (L.map Lim.pv)):=by
 refine zf (cF Tryz.func38 Tryz.f38.eq_1) (by simp) λhw X hX=>?_
 repeat' first|refine gC ?_ ?_<;>intro hc<;>try contradiction|refine gG ?_|show AK _;intro K H|refine H _ _ ?_;clear H K|refine gJ ?_;try exact trivial|omega
 refine zaO 100 191 11 [(3,.row 100 0),(6,.p (.sl 11 (L.map Lim.pv))),(7,.p (.i .i64 L.length)),(8,.p (.i .i64 0))] [] ?_ ?_
 .simp only [Own,zaL,zaB,zbt,zay,qS,seval]
 refine zk (κ:=Nat) (λk=>⟨[(3,.row 100 (L.take k).length),(6,.p (.sl 11 (L.map Lim.pv))),(7,.p (.i .i64 L.length)),(8,.p (.i .i64 k))],[(100,.row 191 11 ((L.take k).map Lim.pv) false)],[],false⟩) (λk=>k<=L.length) (λk=>L.length - k) 0 ?_ ?_ ?_
 .exact sS
 .simp
 .intro k hk
  repeat first|refine gG ?_|show AK _;intro K H|refine H _ _ ?_;clear H K|refine gJ ?_;try exact trivial|omega
  (refine gC ?_ ?_<;>intro hc<;>try contradiction)
  .obtain ⟨w,hx⟩:=zn (i:=k) (l:=L) (by omega)
   have hlt:=take_len hx
   have qe:=aI qR @hx;repeat' first|refine gC ?_ ?_<;>intro hc<;>try contradiction|refine gG ?_|show AK _;intro K H|refine H _ _ ?_;clear H K|refine gJ ?_;try exact trivial|omega
   exact ⟨k+1,by omega,by omega,⟨by rw [List.take_add_one,hx,List.length_append];rfl,by simp⟩,by rw [take_snoc Lim.pv hx]⟩
  .repeat' first|refine gC ?_ ?_<;>intro hc<;>try contradiction|refine gG ?_|show AK _;intro K H|refine H _ _ ?_;clear H K|refine gJ ?_;try exact trivial|omega
   have e:k=L.length:=by omega
   subst e;rw [List.take_length];exact .refl _
theorem allLi (l:List Lim):l.all ((λx=>x.cells.all PV.one) ∘ Lim.pv)=true:=by rw [List.all_eq_true];intro x _;rfl
theorem ycO (L:List Lim) (hn:L.length*112<=140737488355328):Pure Tryz.prog 34 [.sl 11 (L.map Lim.pv)] (.sl 11 (L.map Lim.pv)):=by
 refine zf (cF Tryz.func34 Tryz.f34.eq_1) (by simp) λhw X hX=>?_
 have qe:=aI qR (aI @allLi @zaf);repeat' first|refine gC ?_ ?_<;>intro hc<;>try contradiction|refine gG ?_|show AK _;intro K H|refine H _ _ ?_;clear H K|refine gJ ?_;try exact trivial|omega
 all_goals exact .refl _
structure Exc where
 slots:List ByteArray
 carrier:ByteArray
 slot:ByteArray
 to:ByteArray
 lease:Lea
 day:Int
abbrev Exc.pv (x:Exc):PV:=.agg [.sl 1 (x.slots.map .s),.s x.carrier,.s x.slot,.s x.to,.s x.lease.carrier,.i .i64 x.lease.fro,.i .i64 x.lease.to,.i .i64 x.day]
def ya7 (s:ByteArray):Bool:=!decide ((40:Int) < s.size)
def bigS (s:Slt):Bool:=((!shortB s.req || decide ((40:Int) < s.holder.size)) || (decide ((4:Int) < s.ls.length) && !decide ((s.ls.length:Int)=9))) || decide ((5:Int) < s.sh.length)
def ycR (l:Lea):Bool:=ya7 l.carrier
def ycz (s:Slt):Bool:=!bigS s && (s.ls.all ycR && s.sh.all ya7)
theorem ycK (s:Slt):Pure Tryz.prog 16 [s.pv] (.b (ycz s)):=by
 refine zf (cF Tryz.func16 Tryz.f16.eq_1) (by simp) λhw X hX=>?_
 simp only [wfs,PV.wf,List.length_map,maxLen] at hw
 have qe:=@qR;repeat' first|refine gC ?_ ?_<;>intro hc<;>try contradiction|refine za (yas s.req) ?_|refine gG ?_|show AK _;intro K H|refine H _ _ ?_;clear H K|refine gJ ?_;try exact trivial|omega
 .have:bigS s=true:=by simpa [bigS] using hc
  rw [ycz,this];exact .refl _
 have hsh:bigS s=false:=by simpa [bigS] using hc
 refine zk (κ:=Nat) (λi=>⟨[(1,.lp 1 0),(3,.p (.i .i64 i))],[(1,.box (s.cells.map .p) false)],[],false⟩) (λi=>i<=s.ls.length/\∀ y ∈ s.ls.take i,ycR y=true) (λi=>s.ls.length - i) 0 ?_ ?_ ?_
 .exact sS
 .simp
 .intro i hi
  repeat first|refine gG ?_|show AK _;intro K H|refine H _ _ ?_;clear H K|refine gJ ?_;try exact trivial|omega
  (refine gC ?_ ?_<;>intro hc<;>try contradiction)
  .obtain ⟨y,hx⟩:=zn (i:=i) (l:=s.ls) (by omega)
   have qe:=aI qR @hx;repeat' first|refine gC ?_ ?_<;>intro hc<;>try contradiction|refine gG ?_|show AK _;intro K H|refine H _ _ ?_;clear H K|refine gJ ?_;try exact trivial|omega
   .rw [ycz,hsh,yap hx (by rw [ycR,ya7,decide_eq_true hc];rfl)];exact .refl _
   .exact ⟨i+1,⟨by omega,yz hi.2 hx (by rw [ycR,ya7,decide_eq_false (by omega)];rfl)⟩,by omega,by simp⟩
  .have e:i=s.ls.length:=by omega
   subst e
   have ha:=yaf hi.2
   have qe:=@qR;repeat' first|refine gC ?_ ?_<;>intro hc<;>try contradiction|refine gG ?_|show AK _;intro K H|refine H _ _ ?_;clear H K|refine gJ ?_;try exact trivial|omega
   refine zk (κ:=Nat) (λi=>⟨[(1,.lp 1 0),(4,.p (.i .i64 i))],[(1,.box (s.cells.map .p) false)],[],false⟩) (λi=>i<=s.sh.length/\∀ y ∈ s.sh.take i,ya7 y=true) (λi=>s.sh.length - i) 0 ?_ ?_ ?_
   .exact sS
   .simp
   .intro i hi
    repeat first|refine gG ?_|show AK _;intro K H|refine H _ _ ?_;clear H K|refine gJ ?_;try exact trivial|omega
    (refine gC ?_ ?_<;>intro hc<;>try contradiction)
    .obtain ⟨y,hx⟩:=zn (i:=i) (l:=s.sh) (by omega)
     have qe:=aI qR @hx;repeat' first|refine gC ?_ ?_<;>intro hc<;>try contradiction|refine gG ?_|show AK _;intro K H|refine H _ _ ?_;clear H K|refine gJ ?_;try exact trivial|omega
     .rw [ycz,hsh,ha,yap hx (by rw [ya7,decide_eq_true hc];rfl)];exact .refl _
     .exact ⟨i+1,⟨by omega,yz hi.2 hx (by rw [ya7,decide_eq_false (by omega)];rfl)⟩,by omega,by simp⟩
    .have qe:=@qR;repeat' first|refine gC ?_ ?_<;>intro hc<;>try contradiction|refine gG ?_|show AK _;intro K H|refine H _ _ ?_;clear H K|refine gJ ?_;try exact trivial|omega
     have e:i=s.sh.length:=by omega
     subst e
     rw [ycz,hsh,ha,yaf hi.2];exact .refl _
def bigB (b:Bk):Bool:=(decide ((5:Int) < b.slots.length) && !decide ((b.slots.length:Int)=65)) || (decide ((5:Int) < b.wait.length) && !decide ((b.wait.length:Int)=65))
def okWs (w:Wsh):Bool:=shortB w.req
def ycw (b:Bk):Bool:=!bigB b && (b.slots.all ycz && b.wait.all okWs)
theorem ycN (b:Bk):Pure Tryz.prog 15 [b.pv] (.b (ycw b)):=by
 refine zf (cF Tryz.func15 Tryz.f15.eq_1) (by simp) λhw X hX=>?_
 simp only [wfs,PV.wf,List.length_map,maxLen] at hw
 have qe:=@qR;repeat' first|refine gC ?_ ?_<;>intro hc<;>try contradiction|refine gG ?_|show AK _;intro K H|refine H _ _ ?_;clear H K|refine gJ ?_;try exact trivial|omega
 .have:bigB b=true:=by simpa [bigB] using hc
  rw [ycw,this];exact .refl _
 have hsh:bigB b=false:=by simpa [bigB] using hc
 refine zk (κ:=Nat) (λi=>⟨[(1,.lp 1 0),(3,.p (.i .i64 i))],[(1,.box [.p (.sl 16 (b.slots.map Slt.pv)),.p (.sl 14 (b.wait.map Wsh.pv))] false)],[],false⟩) (λi=>i<=b.slots.length/\∀ y ∈ b.slots.take i,ycz y=true) (λi=>b.slots.length - i) 0 ?_ ?_ ?_
 .exact sS
 .simp
 .intro i hi
  repeat first|refine gG ?_|show AK _;intro K H|refine H _ _ ?_;clear H K|refine gJ ?_;try exact trivial|omega
  (refine gC ?_ ?_<;>intro hc<;>try contradiction)
  .obtain ⟨y,hx⟩:=zn (i:=i) (l:=b.slots) (by omega)
   have qe:=aI qR @hx;repeat' first|refine gC ?_ ?_<;>intro hc<;>try contradiction|refine za (ycK y) ?_|refine gG ?_|show AK _;intro K H|refine H _ _ ?_;clear H K|refine gJ ?_;try exact trivial|omega
   .rw [ycw,hsh,yap hx hc];exact .refl _
   .exact ⟨i+1,⟨by omega,yz hi.2 hx hc⟩,by omega,by simp⟩
  .have e:i=b.slots.length:=by omega
   subst e
   have ha:=yaf hi.2
   have qe:=@qR;repeat' first|refine gC ?_ ?_<;>intro hc<;>try contradiction|refine gG ?_|show AK _;intro K H|refine H _ _ ?_;clear H K|refine gJ ?_;try exact trivial|omega
   refine zk (κ:=Nat) (λi=>⟨[(1,.lp 1 0),(4,.p (.i .i64 i))],[(1,.box [.p (.sl 16 (b.slots.map Slt.pv)),.p (.sl 14 (b.wait.map Wsh.pv))] false)],[],false⟩) (λi=>i<=b.wait.length/\∀ y ∈ b.wait.take i,okWs y=true) (λi=>b.wait.length - i) 0 ?_ ?_ ?_
   .exact sS
   .simp
   .intro i hi
    repeat first|refine gG ?_|show AK _;intro K H|refine H _ _ ?_;clear H K|refine gJ ?_;try exact trivial|omega
    (refine gC ?_ ?_<;>intro hc<;>try contradiction)
    .obtain ⟨y,hx⟩:=zn (i:=i) (l:=b.wait) (by omega)
     have qe:=aI qR @hx;repeat' first|refine gC ?_ ?_<;>intro hc<;>try contradiction|refine za (yas y.req) ?_|refine gG ?_|show AK _;intro K H|refine H _ _ ?_;clear H K|refine gJ ?_;try exact trivial|omega
     .rw [ycw,hsh,ha,yap hx (by rw [okWs];exact hc)];exact .refl _
     .exact ⟨i+1,⟨by omega,yz hi.2 hx (by rw [okWs];exact hc)⟩,by omega,by simp⟩
    .have qe:=@qR;repeat' first|refine gC ?_ ?_<;>intro hc<;>try contradiction|refine gG ?_|show AK _;intro K H|refine H _ _ ?_;clear H K|refine gJ ?_;try exact trivial|omega
     have e:i=b.wait.length:=by omega
     subst e
     rw [ycw,hsh,ha,yaf hi.2];exact .refl _
theorem ycP (l:List Lim) (b:Bk) (hn:l.length*112<=140737488355328):Pure Tryz.prog 30 [.sl 11 (l.map Lim.pv),b.pv] (.b (yT l 3 && ycw b)):=by
 refine zf (cF Tryz.func30 Tryz.f30.eq_1) (by simp) λhw X hX=>?_
 have qe:=@qR;repeat' first|refine gC ?_ ?_<;>intro hc<;>try contradiction|refine za (ybq l hn) ?_|refine za (pure15 l 3) ?_|refine zN (λ_=>ycN b) ?_|refine gG ?_|show AK _;intro K H|refine H _ _ ?_;clear H K|refine gJ ?_;try exact trivial|omega
 exact .refl _
theorem yaz (l:List Int) (x:Int):zg (l++[x])=if zg l=0 then x else zg l:=by rw [fE_app,fE_one]
theorem fE_pre {l:List Int} {i:Nat} (h:zg (l.take i)≠0):zg l=zg (l.take i):=by
 have:=fE_app (l.take i) (l.drop i)
 rw [List.take_append_drop,if_neg h] at this;exact this
theorem ydh {l:List Int} {i:Nat} {e a:Int} (he:e=zg (a::l.take i)) (h:i < l.length->e≠0):e=zg (a::l):=by
 by_cases hi:i < l.length
 .have h1:=h hi
  rw [he] at h1 ⊢
  exact (fE_pre (l:=a::l) (i:=i+1) h1).symm
 .rw [he,List.take_of_length_le (by omega)]
theorem ych {l:List Int} {i:Nat} {a e x:Int} (he:e=zg (a::l.take i)) (h0:e=0) (hx:l[i]?=some x):x=zg (a::l.take (i+1)):=by
 rw [zan hx]
 have:=yaz (a::l.take i) x
 rw [<-he,if_pos h0] at this;exact this.symm
def ybf (s:Slt):Int:=zg [chkQ s.req,zaH s.holder,if 8 < (s.ls.length:Int) then 5 else 0]
def yaZ (s:Slt):Int:=zg (ybf s::s.ls.mapIdx (leaErr s))
def ybe (s:Slt):Int:=zg [yaZ s,if 4 < (s.sh.length:Int) then 5 else 0]
theorem fE_out (a:Int) (l:List Int):zg [a,zg l]=zg (a::l):=by
 by_cases h:a=0
 .rw [za3 h,za3 h,fE_one]
 .rw [za2 h,za2 h]
theorem yby (l r:List Int):zg (zg l::r)=zg (l++r):=by
 rw [fE_app]
 by_cases h:zg l=0
 .rw [za3 h,if_pos h]
 .rw [za2 h,if_neg h]
theorem yc9 (s:Slt):chkSlt s=zg (ybe s::s.sh.mapIdx (shaErr s)):=by
 rw [ybe,yby,List.cons_append,List.cons_append,List.nil_append,yaZ,yby,List.cons_append,ybf,yby,chkSlt]
 rw [fE_app [_,_,_]]
 have e:zg [zg (s.ls.mapIdx (leaErr s)),if 4 < (s.sh.length:Int) then 5 else 0,zg (s.sh.mapIdx (shaErr s))]=zg (s.ls.mapIdx (leaErr s)++(if 4 < (s.sh.length:Int) then 5 else 0)::s.sh.mapIdx (shaErr s)):=by
  rw [yby,fE_app,fE_app (s.ls.mapIdx (leaErr s)),fE_out]
 rw [<-e]
 exact fE_app [_,_,_] [_,_,_]
abbrev stS (s:Slt) (e:Int):St:=⟨[(1,.lp 1 0),(3,.p (.i .i64 e))],[(1,.box (s.cells.map .p) false)],[],false⟩
theorem yar (s:Slt):Pure Tryz.prog 27 [s.pv] (.i .i64 (chkSlt s)):=by
 refine zf (cF Tryz.func27 Tryz.f27.eq_1) (by simp) λhw X hX=>?_
 simp only [wfs,PV.wf,List.length_map,maxLen] at hw
 have hS1:ybf s=if zg [chkQ s.req,zaH s.holder]=0 then (if 8 < (s.ls.length:Int) then 5 else 0) else zg [chkQ s.req,zaH s.holder]:=yaz [_,_] _
 have hS3:ybe s=if yaZ s=0 then (if 4 < (s.sh.length:Int) then 5 else 0) else yaZ s:=by
  have:=yaz [yaZ s] (if 4 < (s.sh.length:Int) then 5 else 0)
  rw [fE_one] at this;exact this
 have qe:=@qR;repeat' first|refine za (ybo s.req) ?_|refine za (yo s.holder) ?_|refine za (ye [_,_]) ?_|refine gG ?_|show AK _;intro K H|refine H _ _ ?_;clear H K|refine gJ ?_;try exact trivial|omega
 refine run_cut (stS s (ybf s)) ?_ ?_
 ·(refine gC ?_ ?_<;>intro hc<;>try contradiction)
  .rw [hS1,if_pos hc.1,if_pos hc.2]
   repeat' first|refine gC ?_ ?_<;>intro hc<;>try contradiction|refine gG ?_|show AK _;intro K H|refine H _ _ ?_;clear H K|refine gJ ?_;try exact trivial|omega
   all_goals (show Cov _ _;simp only [qS,seval]<;>simp)
  .have e:ybf s=zg [chkQ s.req,zaH s.holder]:=by
    rw [hS1];split
    .rename_i h;rw [if_neg (by have:=hc h;omega),h]
    .rfl
   rw [e]
   repeat' first|refine gC ?_ ?_<;>intro hc<;>try contradiction|refine gG ?_|show AK _;intro K H|refine H _ _ ?_;clear H K|refine gJ ?_;try exact trivial|omega
   all_goals (show Cov _ _;simp only [qS,seval]<;>simp)
 refine run_seq (run_cut (stS s (yaZ s)) ?_ ?_)
 .repeat' first|refine gC ?_ ?_<;>intro hc<;>try contradiction|refine gG ?_|show AK _;intro K H|refine H _ _ ?_;clear H K|refine gJ ?_;try exact trivial|omega
  refine zk (κ:=Nat × Int) (λk=>⟨[(1,.lp 1 0),(3,.p (.i .i64 k.2)),(4,.p (.i .i64 k.1))],[(1,.box (s.cells.map .p) false)],[],false⟩) (λk=>k.1<=s.ls.length/\k.2=zg (ybf s::(s.ls.mapIdx (leaErr s)).take k.1)) (λk=>s.ls.length - k.1) (0,ybf s) ?_ ?_ ?_
  .exact sS
  .simp [fE_one]
  .rintro ⟨i,e⟩ ⟨hi,he⟩
   simp only at hi he
   repeat first|refine gG ?_|show AK _;intro K H|refine H _ _ ?_;clear H K|refine gJ ?_;try exact trivial|omega
   (refine gC ?_ ?_<;>intro hc<;>try contradiction)
   .obtain ⟨h1,h2⟩:=hc
    obtain ⟨x,hx⟩:=zn (i:=i) (l:=s.ls) (by omega)
    obtain ⟨y,hy⟩:=zn (i:=i - 1) (l:=s.ls) (by omega)
    have e1:((i:Int) - 1).toNat=i - 1:=by omega
    have hl:leaErr s i x=if zg [chkLea x,leaOf s.raw x]=0 then (if 0 < (i:Int)/\x.fro<=y.to then 15 else 0) else zg [chkLea x,leaOf s.raw x]:=by
     rw [leaErr,hy];exact yaz [_,_] _
    have hn:=ych he h2 (zI (f:=leaErr s) hx)
    by_cases c1:zg [chkLea x,leaOf s.raw x]=0
    .have c1':=eq_true c1
     rw [if_pos c1] at hl
     by_cases c2:0 < (i:Int)
     .have c2':=eq_true c2
      by_cases c3:x.fro<=y.to
      .have c3':=eq_true c3
       rw [if_pos ⟨c2,c3⟩] at hl
       rw [hl] at hn
       have qe:=aI qR (aI @hx (aI @hy (aI @e1 (aI @c1' (aI @c2' (aI @c3' @decide_true))))));repeat' first|refine gC ?_ ?_<;>intro hc<;>try contradiction|refine za (yX x) ?_|refine za (yW s x) ?_|refine za (ye [_,_]) ?_|refine gG ?_|show AK _;intro K H|refine H _ _ ?_;clear H K|refine gJ ?_;try exact trivial|omega
       all_goals exact ⟨(i+1,15),⟨by omega,hn⟩,by simp;omega,by simp⟩
      .have c3':=eq_false c3
       rw [if_neg (λk=>c3 k.2)] at hl
       rw [hl] at hn
       have qe:=aI qR (aI @hx (aI @hy (aI @e1 (aI @c1' (aI @c2' (aI @c3' yDF))))));repeat' first|refine gC ?_ ?_<;>intro hc<;>try contradiction|refine za (yX x) ?_|refine za (yW s x) ?_|refine za (ye [_,_]) ?_|refine gG ?_|show AK _;intro K H|refine H _ _ ?_;clear H K|refine gJ ?_;try exact trivial|omega
       all_goals exact ⟨(i+1,zg [chkLea x,leaOf s.raw x]),⟨by omega,by rw [c1];exact hn⟩,by simp;omega,by simp⟩
     .have c2':=eq_false c2
      rw [if_neg (λk=>c2 k.1)] at hl
      rw [hl] at hn
      have qe:=aI qR (aI @hx (aI @hy (aI @e1 (aI @c1' (aI @c2' yDF)))));repeat' first|refine gC ?_ ?_<;>intro hc<;>try contradiction|refine za (yX x) ?_|refine za (yW s x) ?_|refine za (ye [_,_]) ?_|refine gG ?_|show AK _;intro K H|refine H _ _ ?_;clear H K|refine gJ ?_;try exact trivial|omega
      all_goals exact ⟨(i+1,zg [chkLea x,leaOf s.raw x]),⟨by omega,by rw [c1];exact hn⟩,by simp;omega,by simp⟩
    .have c1':=eq_false c1
     rw [if_neg c1] at hl
     rw [hl] at hn
     have qe:=aI qR (aI @hx (aI @hy (aI @e1 (aI @c1' @decide_false))));repeat' first|refine gC ?_ ?_<;>intro hc<;>try contradiction|refine za (yX x) ?_|refine za (yW s x) ?_|refine za (ye [_,_]) ?_|refine gG ?_|show AK _;intro K H|refine H _ _ ?_;clear H K|refine gJ ?_;try exact trivial|omega
     all_goals exact ⟨(i+1,zg [chkLea x,leaOf s.raw x]),⟨by omega,hn⟩,by simp;omega,by simp⟩
   .have hf:=ydh he (λh=>hc (by simpa using h))
    repeat' first|refine gC ?_ ?_<;>intro hc<;>try contradiction|refine gG ?_|show AK _;intro K H|refine H _ _ ?_;clear H K|refine gJ ?_;try exact trivial|omega
    all_goals (show Cov _ _;simp only [qS,seval,hf]<;>simp [yaZ])
 repeat' first|refine gG ?_|show AK _;intro K H|refine H _ _ ?_;clear H K|refine gJ ?_;try exact trivial|omega
 refine run_cut (stS s (ybe s)) ?_ ?_
 ·(refine gC ?_ ?_<;>intro hc<;>try contradiction)
  .rw [hS3,if_pos hc.1,if_pos hc.2]
   repeat' first|refine gC ?_ ?_<;>intro hc<;>try contradiction|refine gG ?_|show AK _;intro K H|refine H _ _ ?_;clear H K|refine gJ ?_;try exact trivial|omega
   all_goals (show Cov _ _;simp only [qS,seval]<;>simp)
  .have e:ybe s=yaZ s:=by
    rw [hS3];split
    .rename_i h;rw [if_neg (by have:=hc h;omega),h]
    .rfl
   rw [e]
   repeat' first|refine gC ?_ ?_<;>intro hc<;>try contradiction|refine gG ?_|show AK _;intro K H|refine H _ _ ?_;clear H K|refine gJ ?_;try exact trivial|omega
   all_goals (show Cov _ _;simp only [qS,seval]<;>simp)
 repeat' first|refine gC ?_ ?_<;>intro hc<;>try contradiction|refine gG ?_|show AK _;intro K H|refine H _ _ ?_;clear H K|refine gJ ?_;try exact trivial|omega
 refine zk (κ:=Nat × Int) (λk=>⟨[(1,.lp 1 0),(3,.p (.i .i64 k.2)),(5,.p (.i .i64 k.1))],[(1,.box (s.cells.map .p) false)],[],false⟩) (λk=>k.1<=s.sh.length/\k.2=zg (ybe s::(s.sh.mapIdx (shaErr s)).take k.1)) (λk=>s.sh.length - k.1) (0,ybe s) ?_ ?_ ?_
 .exact sS
 .simp [fE_one]
 .rintro ⟨i,e⟩ ⟨hi,he⟩
  simp only at hi he
  repeat first|refine gG ?_|show AK _;intro K H|refine H _ _ ?_;clear H K|refine gJ ?_;try exact trivial|omega
  (refine gC ?_ ?_<;>intro hc<;>try contradiction)
  .obtain ⟨h1,h2⟩:=hc
   obtain ⟨x,hx⟩:=zn (i:=i) (l:=s.sh) (by omega)
   have hn:=ych he h2 (zI (f:=shaErr s) hx)
   have e31:((31:Int)=0)=False:=eq_false (by omega)
   by_cases d1:zaH x=0
   .have d1':=eq_true d1
    by_cases d2:x=s.holder
    .have d2':=eq_true d2
     have hv:shaErr s i x=31:=by rw [shaErr,za3 d1,if_pos d2,za2 (by omega)]
     rw [hv] at hn
     have qe:=aI qR (aI @hx (aI @take_map (aI @d1' (aI @d2' (aI @e31 yDF)))));repeat' first|refine gC ?_ ?_<;>intro hc<;>try contradiction|refine za (yo x) ?_|refine zN (λ_=>yY (s.sh.take i) x) ?_|refine gG ?_|show AK _;intro K H|refine H _ _ ?_;clear H K|refine gJ ?_;try exact trivial|omega
     all_goals exact ⟨(i+1,31),⟨by omega,hn⟩,by simp;omega,by simp⟩
    .have d2':=eq_false d2
     by_cases d3:0<=atL x (s.sh.take i)
     .have d3':=eq_true d3
      have hv:shaErr s i x=9:=by rw [shaErr,za3 d1,if_neg d2,za3 rfl,fE_one,if_pos d3]
      rw [hv] at hn
      have qe:=aI qR (aI @hx (aI @take_map (aI @d1' (aI @d2' (aI @d3' yDF)))));repeat' first|refine gC ?_ ?_<;>intro hc<;>try contradiction|refine za (yo x) ?_|refine zN (λ_=>yY (s.sh.take i) x) ?_|refine gG ?_|show AK _;intro K H|refine H _ _ ?_;clear H K|refine gJ ?_;try exact trivial|omega
      all_goals exact ⟨(i+1,9),⟨by omega,hn⟩,by simp;omega,by simp⟩
     .have d3':=eq_false d3
      have hv:shaErr s i x=0:=by rw [shaErr,za3 d1,if_neg d2,za3 rfl,fE_one,if_neg d3]
      rw [hv] at hn
      have qe:=aI qR (aI @hx (aI @take_map (aI @d1' (aI @d2' (aI @d3' yDF)))));repeat' first|refine gC ?_ ?_<;>intro hc<;>try contradiction|refine za (yo x) ?_|refine zN (λ_=>yY (s.sh.take i) x) ?_|refine gG ?_|show AK _;intro K H|refine H _ _ ?_;clear H K|refine gJ ?_;try exact trivial|omega
      all_goals exact ⟨(i+1,zaH x),⟨by omega,by rw [d1];exact hn⟩,by simp;omega,by simp⟩
   .have d1':=eq_false d1
    have hv:shaErr s i x=zaH x:=by rw [shaErr,za2 d1]
    rw [hv] at hn
    have qe:=aI qR (aI @hx (aI @take_map (aI @d1' @decide_false)));repeat' first|refine gC ?_ ?_<;>intro hc<;>try contradiction|refine za (yo x) ?_|refine zN (λ_=>yY (s.sh.take i) x) ?_|refine gG ?_|show AK _;intro K H|refine H _ _ ?_;clear H K|refine gJ ?_;try exact trivial|omega
    all_goals exact ⟨(i+1,zaH x),⟨by omega,hn⟩,by simp;omega,by simp⟩
  .have hf:=ydh he (λh=>hc (by simpa using h))
   rw [yc9,<-hf]
   repeat' first|refine gC ?_ ?_<;>intro hc<;>try contradiction|refine gG ?_|show AK _;intro K H|refine H _ _ ?_;clear H K|refine gJ ?_;try exact trivial|omega
   all_goals exact .refl _
theorem yax {α:Type} {f:Nat->α->Int} {l:List α} (h:zg (l.mapIdx f)=0) {i:Nat} {x:α} (hx:l[i]?=some x):f i x=0:=fE0 h _ (List.mem_of_getElem? (zI hx))
theorem yaD {b:Bk} (h:zG b=0) {i:Nat} {s:Slt} (hs:b.slots[i]?=some s):sltErr b i s=0:=
 yax (fE0 h (zg (b.slots.mapIdx (sltErr b))) (by simp)) hs
theorem yaC {b:Bk} (h:zG b=0) {i:Nat} {w:Wsh} (hs:b.wait[i]?=some w):wshErr b i w=0:=
 yax (fE0 h (zg (b.wait.mapIdx (wshErr b))) (by simp)) hs
theorem ya2 {b:Bk} (h:zG b=0) {s:Slt} (hs:s ∈ b.slots):chkSlt s=0:=by
 obtain ⟨i,hi⟩:=List.mem_iff_getElem?.1 hs
 exact fE0 (yaD h hi) _ (by simp)
theorem bk_q {b:Bk} (h:zG b=0) {s:Slt} (hs:s ∈ b.slots):chkQ s.req=0:=fE0 (ya2 h hs) _ (by simp)
theorem ym {b:Bk} (h:zG b=0) {s:Slt} (hs:s ∈ b.slots):chkReq s.req=0:=yw (bk_q h hs)
theorem yb0 (L:List Req):rqW L (-1)=L:=by
 have key:∀ k,k<=L.length->rqK L (-1) k=L.take k:=by
  intro k
  induction k with
  | zero=>intro _;rfl
  | succ k ih=>
   intro hk
   have h:=ih (by omega)
   rw [rqK] at h
   have hx:L[k]?=some L[k]:=List.getElem?_eq_getElem (by omega)
   rw [rqK,List.range_succ,List.flatMap_append,h,zan hx,List.flatMap_cons,List.flatMap_nil,rqI,hx]
   simp only
   rw [if_neg (by omega),List.append_nil]
 rw [rqW,key _ (Nat.le_refl _),List.take_length]
theorem yaw {r:Req} (h:chkReq r=0):zad (movsL r)=0/\(movsL r).length<=401:=by
 have hp:=zaX (chkReq_0 h).1
 have hl:(movsL r).length<=401:=by
  have:=daysL_len r.per
  simp only [movsL,List.length_map];omega
 refine ⟨yan (by omega) (λx hx=>?_) ?_,hl⟩
 .obtain ⟨d,hd,rfl⟩:=ybw hx
  exact ya0 h hd
 .unfold movsL
  refine (List.pairwise_map).2 ((yab r.per).imp fun {a b} hab=>?_)
  simp only [movOf];omega
theorem yb8 {L:List Slt} (h:∀ s ∈ L,chkReq s.req=0) (hn:L.length<=70):∀ k≤L.length,mvF ((L.map (·.req)).take k)=mvS (L.take k)/\zad (mvS (L.take k))=0/\(mvS (L.take k)).length<=401*k:=by
 intro k
 induction k with
 | zero=>intro _;exact ⟨rfl,rfl,Nat.zero_le _⟩
 | succ k ih=>
  intro hk
  obtain ⟨e1,e2,e3⟩:=ih (by omega)
  have hx:L[k]?=some L[k]:=List.getElem?_eq_getElem (by omega)
  have hq:=h L[k] (List.getElem_mem _)
  obtain ⟨m1,m2⟩:=yaw hq
  have hl:(mvS (L.take k)).length+(movsL L[k].req).length<=30000:=by omega
  have hg:mgE (mvS (L.take k)) (movsL L[k].req)=0:=zq.2 ⟨e2,zq.2 ⟨m1,zq.2 ⟨if_neg (by omega),rfl⟩⟩⟩
  obtain ⟨k1,k2⟩:=ycW (zaR e2).2.1 (zaR m1).2.1 hl
  have hxr:(L.map (·.req))[k]?=some L[k].req:=by rw [List.getElem?_map,hx];rfl
  rw [mvF_next hxr,ybu hx,e1,movR,if_pos hq,mgR,if_pos hg]
  exact ⟨rfl,k1,by rw [k2];omega⟩
theorem yaE {b:Bk} (h:zG b=0):mvE b=mvS b.slots/\zad (mvS b.slots)=0/\(mvS b.slots).length<=401*b.slots.length:=by
 have hn:=chkBk_len h
 have:=yb8 (λs hs=>ym h hs) (by omega) b.slots.length (Nat.le_refl _)
 rw [List.take_length] at this
 rw [mvE,if_pos h,yb0]
 have e:(b.slots.map (·.req)).take b.slots.length=b.slots.map (·.req):=List.take_of_length_le (by simp)
 rw [e] at this;exact this
theorem ybs (b:Bk) (hb:BkOk b):Pure Tryz.prog 19 [b.pv] b.pv:=by
 obtain ⟨hs,hn,hw1⟩:=hb
 refine zf (cF Tryz.func19 Tryz.f19.eq_1) (by simp) λhw X hX=>?_
 have qe:=@qR;repeat' first|refine gC ?_ ?_<;>intro hc<;>try contradiction|refine gG ?_|show AK _;intro K H|refine H _ _ ?_;clear H K|refine gJ ?_;try exact trivial|omega
 refine zaO 100 59 16 [(1,.lp 1 0),(2,.lp 2 0),(3,.lp 3 0),(12,.p (.sl 16 (b.slots.map Slt.pv))),(13,.p (.i .i64 b.slots.length)),(14,.p (.i .i64 0))] [(1,.box [.p (.sl 16 (b.slots.map Slt.pv)),.p (.sl 14 (b.wait.map Wsh.pv))] false),(2,.box [.p .nilsl,.p .nilsl] false),(3,.box [.row 100 0,.p .nilsl] false)] ?_ ?_
 .simp only [Own,zaL,zaB,zbt,zay,qS,seval]<;>simp
 refine zk (κ:=Nat) (λk=>⟨[(1,.lp 1 0),(2,.lp 2 0),(3,.lp 3 0),(12,.p (.sl 16 (b.slots.map Slt.pv))),(13,.p (.i .i64 b.slots.length)),(14,.p (.i .i64 k))],[(1,.box [.p (.sl 16 (b.slots.map Slt.pv)),.p (.sl 14 (b.wait.map Wsh.pv))] false),(2,.box [.p .nilsl,.p .nilsl] false),(3,.box [.row 100 k,.p .nilsl] false),(100,.row 59 16 ((b.slots.take k).map Slt.pv) false)],[],false⟩) (λk=>k<=b.slots.length) (λk=>b.slots.length - k) 0 ?_ ?_ ?_
 .exact sS
 .simp
 .intro k hk
  have hlk:(b.slots.take k).length=k:=by rw [List.length_take];omega
  repeat first|refine gG ?_|show AK _;intro K H|refine H _ _ ?_;clear H K|refine gJ ?_;try exact trivial|omega
  (refine gC ?_ ?_<;>intro hc<;>try contradiction)
  .obtain ⟨s,hx⟩:=zn (i:=k) (l:=b.slots) (by omega)
   obtain ⟨hl1,hl2⟩:=hs s (List.mem_of_getElem? hx)
   have qe:=aI qR (aI @hx (aI @allSt @zaf));repeat' first|refine gC ?_ ?_<;>intro hc<;>try contradiction|refine gG ?_|show AK _;intro K H|refine H _ _ ?_;clear H K|refine gJ ?_;try exact trivial|omega
   refine zaO 101 102 3 [(1,.lp 1 0),(2,.lp 2 0),(3,.lp 3 0),(12,.p (.sl 16 (b.slots.map Slt.pv))),(13,.p (.i .i64 b.slots.length)),(14,.p (.i .i64 k)),(5,.lp 5 0),(6,.lp 6 0),(28,.p (.sl 3 (s.ls.map Lea.pv))),(29,.p (.i .i64 s.ls.length)),(30,.p (.i .i64 0))] [(1,.box [.p (.sl 16 (b.slots.map Slt.pv)),.p (.sl 14 (b.wait.map Wsh.pv))] false),(2,.box [.p .nilsl,.p .nilsl] false),(3,.box [.row 100 k,.p .nilsl] false),(100,.row 59 16 ((b.slots.take k).map Slt.pv) false),(5,.box (s.cells.map .p) false),(6,.box [.p (.s s.req.name),.p (.s s.req.carrier),.p (.s s.req.kind),.p (.s s.req.term),.p (.s s.req.partner),.p (.s s.req.link),.p (.i .i64 s.req.per.fro),.p (.i .i64 s.req.per.to),.p (.i .i64 s.req.per.days),.p (.i .i64 s.req.minute),.p (.i .i64 s.req.seats),.p (.i .i64 s.req.size),.p (.i .i64 s.req.noise),.p (.s s.holder),.row 101 0,.row 22 s.sh.length] false),(22,.row 9 1 (s.sh.map .s) false)] ?_ ?_
   .simp only [Own,zaL,zaB,zbt,zay,qS,seval]<;>simp [hlk]
   refine zk (κ:=Nat) (λi=>⟨[(1,.lp 1 0),(2,.lp 2 0),(3,.lp 3 0),(12,.p (.sl 16 (b.slots.map Slt.pv))),(13,.p (.i .i64 b.slots.length)),(14,.p (.i .i64 k)),(5,.lp 5 0),(6,.lp 6 0),(28,.p (.sl 3 (s.ls.map Lea.pv))),(29,.p (.i .i64 s.ls.length)),(30,.p (.i .i64 i))],[(1,.box [.p (.sl 16 (b.slots.map Slt.pv)),.p (.sl 14 (b.wait.map Wsh.pv))] false),(2,.box [.p .nilsl,.p .nilsl] false),(3,.box [.row 100 k,.p .nilsl] false),(100,.row 59 16 ((b.slots.take k).map Slt.pv) false),(5,.box (s.cells.map .p) false),(6,.box [.p (.s s.req.name),.p (.s s.req.carrier),.p (.s s.req.kind),.p (.s s.req.term),.p (.s s.req.partner),.p (.s s.req.link),.p (.i .i64 s.req.per.fro),.p (.i .i64 s.req.per.to),.p (.i .i64 s.req.per.days),.p (.i .i64 s.req.minute),.p (.i .i64 s.req.seats),.p (.i .i64 s.req.size),.p (.i .i64 s.req.noise),.p (.s s.holder),.row 101 i,.row 22 s.sh.length] false),(22,.row 9 1 (s.sh.map .s) false),(101,.row 102 3 ((s.ls.take i).map Lea.pv) false)],[],false⟩) (λi=>i<=s.ls.length) (λi=>s.ls.length - i) 0 ?_ ?_ ?_
   .refine gJ ?_;simp [hlk]
   .simp
   .intro i hi
    have hli:(s.ls.take i).length=i:=by rw [List.length_take];omega
    repeat first|refine gG ?_|show AK _;intro K H|refine H _ _ ?_;clear H K|refine gJ ?_;try exact trivial|omega
    (refine gC ?_ ?_<;>intro hc<;>try contradiction)
    .obtain ⟨x,hx2⟩:=zn (i:=i) (l:=s.ls) (by omega)
     have qe:=aI qR (aI @hx2 (aI @hli @hlk));repeat' first|refine gC ?_ ?_<;>intro hc<;>try contradiction|refine gG ?_|show AK _;intro K H|refine H _ _ ?_;clear H K|refine gJ ?_;try exact trivial|omega
     exact ⟨i+1,by omega,by omega,by simp,⟨rfl,by rw [zan hx2];simp⟩,by simp;omega⟩
    .have e:i=s.ls.length:=by omega
     subst e
     refine run_exit ?_
     refine (show Run _ (.ops false _) _ _ from run_region (run_partN 3 ?_))
     simp only [List.take_succ_cons,List.take_zero,List.drop_succ_cons,List.drop_zero]
     have qe:=aI qR (aI @zaf (aI @hlk @List.take_length.{0}));repeat' first|refine gC ?_ ?_<;>intro hc<;>try contradiction|refine gG ?_|show AK _;intro K H|refine H _ _ ?_;clear H K|refine gJ ?_;try exact trivial|omega
     refine zbO (yaU 43 s.pv (by simp only [qS,seval,zaf]<;>rfl) (by first|trivial|simp) (.refl _)) ?_
     rintro _ rfl
     refine zE ?_
     have qe:=aI qR @hlk;repeat' first|refine gC ?_ ?_<;>intro hc<;>try contradiction|refine gG ?_|show AK _;intro K H|refine H _ _ ?_;clear H K|refine gJ ?_;try exact trivial|omega
     exact ⟨k+1,by omega,by omega,by simp,⟨rfl,by rw [zan hx];simp⟩,by simp;omega⟩
  .have e:k=b.slots.length:=by omega
   subst e
   have qe:=aI qR @List.take_length.{0};repeat' first|refine gC ?_ ?_<;>intro hc<;>try contradiction|refine gG ?_|show AK _;intro K H|refine H _ _ ?_;clear H K|refine gJ ?_;try exact trivial|omega
   refine zaO 102 71 14 [(2,.lp 2 0),(3,.lp 3 0),(49,.p (.sl 14 (b.wait.map Wsh.pv))),(50,.p (.i .i64 b.wait.length)),(51,.p (.i .i64 0))] [(1,.box [.p (.sl 16 (b.slots.map Slt.pv)),.p (.sl 14 (b.wait.map Wsh.pv))] false),(2,.box [.p .nilsl,.p .nilsl] false),(3,.box [.row 100 b.slots.length,.row 102 0] false),(100,.row 59 16 (b.slots.map Slt.pv) false)] ?_ ?_
   .simp only [Own,zaL,zaB,zbt,zay,qS,seval]<;>simp
   refine zk (κ:=Nat) (λk=>⟨[(2,.lp 2 0),(3,.lp 3 0),(49,.p (.sl 14 (b.wait.map Wsh.pv))),(50,.p (.i .i64 b.wait.length)),(51,.p (.i .i64 k))],[(1,.box [.p (.sl 16 (b.slots.map Slt.pv)),.p (.sl 14 (b.wait.map Wsh.pv))] false),(2,.box [.p .nilsl,.p .nilsl] false),(3,.box [.row 100 b.slots.length,.row 102 k] false),(100,.row 59 16 (b.slots.map Slt.pv) false),(102,.row 71 14 ((b.wait.take k).map Wsh.pv) false)],[],false⟩) (λk=>k<=b.wait.length) (λk=>b.wait.length - k) 0 ?_ ?_ ?_
   .exact sS
   .simp
   .intro k hk2
    have hl2:(b.wait.take k).length=k:=by rw [List.length_take];omega
    repeat first|refine gG ?_|show AK _;intro K H|refine H _ _ ?_;clear H K|refine gJ ?_;try exact trivial|omega
    (refine gC ?_ ?_<;>intro hc<;>try contradiction)
    .obtain ⟨w,hx2⟩:=zn (i:=k) (l:=b.wait) (by omega)
     have qe:=aI qR (aI @hx2 @hl2);repeat' first|refine gC ?_ ?_<;>intro hc<;>try contradiction|refine gG ?_|show AK _;intro K H|refine H _ _ ?_;clear H K|refine gJ ?_;try exact trivial|omega
     exact ⟨k+1,by omega,by omega,by simp,⟨rfl,by rw [zan hx2];simp⟩,by simp;omega⟩
    .have e2:k=b.wait.length:=by omega
     subst e2
     have qe:=aI qR (aI @zaf @List.take_length.{0});repeat' first|refine gC ?_ ?_<;>intro hc<;>try contradiction|refine gG ?_|show AK _;intro K H|refine H _ _ ?_;clear H K|refine gJ ?_;try exact trivial|omega
     exact .refl _
theorem ydk {n:ByteArray}:∀ {l:List ByteArray},¬atL n l < 0->l[(atL n l).toNat]?=some n
 | [],h=>absurd (show atL n [] < 0 by simp [atL]) h
 | x::r,h=>by
  simp only [atL] at h ⊢
  split
  .rename_i e;simp [e]
  .rename_i e
   rw [if_neg e] at h
   split
   .rename_i k;rw [if_pos k] at h;omega
   .rename_i k
    have h2:=ydk (l:=r) k
    have h3:(atL n r+1).toNat=(atL n r).toNat+1:=by omega
    rw [h3];simpa using h2
theorem ybH {b:Bk} {n:ByteArray} (h:¬atL n (b.slots.map (·.req.name)) < 0):(b.slots.map (·.req.name))[zA b n]?=some n:=ydk h
theorem yc (n:ByteArray):∀ l:List ByteArray,0<=atL n l↔n ∈ l
 | []=>by simp [atL]
 | x::r=>by
  have ih:=yc n r
  have:=atL_ge n r
  simp only [atL,List.mem_cons]
  by_cases h:x=n
  .rw [if_pos h];exact ⟨λ_=>.inl h.symm,λ_=>by omega⟩
  .rw [if_neg h]
   by_cases h2:atL n r < 0
   .rw [if_pos h2];exact ⟨λh3=>by omega,λh3=>h3.elim (λe=>absurd e.symm h) λe=>by have:=ih.2 e;omega⟩
   .rw [if_neg h2];exact ⟨λ_=>.inr (ih.1 (by omega)),λ_=>by omega⟩
theorem yaH {a b:Wsh}:yA a b=false↔cmpW b a<=0:=by
 rw [yA,cmpW]
 rcases Int.lt_trichotomy a.rank b.rank with k|k|k
 .have e:cmpI b.rank a.rank=1:=by rw [cmpI,if_neg (by omega),if_pos k]
  rw [e,za2 (by omega),decide_eq_true k,Bool.true_or]
  exact ⟨λh=>(by cases h),λh=>(by omega)⟩
 .have e:cmpI b.rank a.rank=0:=by rw [cmpI,if_neg (by omega),if_neg (by omega)]
  have k1:¬a.rank < b.rank:=by omega
  rw [za3 e,fE_one,decide_eq_false k1,decide_eq_true k,Bool.false_or,Bool.true_and]
  constructor
  .intro h
   by_cases q:a.req.name=b.req.name
   .rw [(cmpS_0 _ _).2 q.symm];omega
   .have h2:Op.bytesLess b.req.name.toList a.req.name.toList=true:=by
     by_cases r:Op.bytesLess b.req.name.toList a.req.name.toList=true
     .exact r
     .exact absurd (ba_tri h (by simpa using r)) q
    have:=(cmpS_l _ _).2 h2;omega
  .intro h
   cases q:Op.bytesLess a.req.name.toList b.req.name.toList
   .rfl
   .exfalso
    rcases Int.lt_or_eq_of_le h with h|h
    .have h1:=(cmpS_l _ _).1 h
     rw [bl_asym _ _ q] at h1;cases h1
    .have h1:=(cmpS_0 _ _).1 h
     rw [h1,less_irr] at q;cases q
 .have e:cmpI b.rank a.rank=-1:=if_pos k
  have k1:¬a.rank < b.rank:=by omega
  have k2:¬a.rank=b.rank:=by omega
  rw [e,za2 (by omega),decide_eq_false k1,decide_eq_false k2,Bool.false_or,Bool.false_and]
  exact ⟨λ_=>by omega,λ_=>rfl⟩
theorem ybr (b:Bk):Pure Tryz.prog 22 [b.pv] (.i .i64 (zG b)):=by
 refine zf (cF Tryz.func22 Tryz.f22.eq_1) (by simp) λhw X hX=>?_
 by_cases h64:(64:Int) < b.slots.length
 .have e:zG b=5:=by rw [zG,if_pos h64,za2 (by omega)]
  have h64':=eq_true h64
  rw [e]
  have qe:=aI qR (aI @h64' @decide_true);repeat' first|refine gC ?_ ?_<;>intro hc<;>try contradiction|refine gG ?_|show AK _;intro K H|refine H _ _ ?_;clear H K|refine gJ ?_;try exact trivial|omega
  all_goals exact .refl _
 have h64':=eq_false h64
 have hE:zG b=zg [zg (b.slots.mapIdx (sltErr b)),if 64 < (b.wait.length:Int) then 5 else 0,zg (b.wait.mapIdx (wshErr b))]:=by rw [zG,if_neg h64,za3 rfl]
 have qe:=aI qR (aI @h64' @decide_false);repeat' first|refine gC ?_ ?_<;>intro hc<;>try contradiction|refine gG ?_|show AK _;intro K H|refine H _ _ ?_;clear H K|refine gJ ?_;try exact trivial|omega
 refine zk (κ:=Nat) (λi=>⟨[(1,.lp 1 0),(3,.p (.i .i64 i))],[(1,.box [.p (.sl 16 (b.slots.map Slt.pv)),.p (.sl 14 (b.wait.map Wsh.pv))] false)],[],false⟩) (λi=>i<=b.slots.length/\∀ x ∈ (b.slots.mapIdx (sltErr b)).take i,x=0) (λi=>b.slots.length - i) 0 ?_ ?_ ?_
 .exact sS
 .simp
 .intro i hi
  repeat first|refine gG ?_|show AK _;intro K H|refine H _ _ ?_;clear H K|refine gJ ?_;try exact trivial|omega
  (refine gC ?_ ?_<;>intro hc<;>try contradiction)
  .obtain ⟨s,hs⟩:=zn (i:=i) (l:=b.slots) (by omega)
   have e9:((9:Int)=0)=False:=eq_false (by omega)
   by_cases c1:chkSlt s=0
   .have c1':=eq_true c1
    by_cases c2:0<=atL s.req.name ((b.slots.take i).map (·.req.name))
    .have c2':=eq_true c2
     have hv:sltErr b i s=9:=by rw [sltErr,za3 c1,fE_one,if_pos c2]
     have e:zG b=9:=by rw [hE,zV hi.2 (zI hs) (by rw [hv];decide),hv,za2 (by omega)]
     rw [e]
     have qe:=aI qR (aI @hs (aI @take_map (aI @c1' (aI @c2' (aI @e9 yDF)))));repeat' first|refine gC ?_ ?_<;>intro hc<;>try contradiction|refine za (yar s) ?_|refine zN (λ_=>yd (b.slots.take i) s.req.name) ?_|refine gG ?_|show AK _;intro K H|refine H _ _ ?_;clear H K|refine gJ ?_;try exact trivial|omega
     all_goals exact .refl _
    .have c2':=eq_false c2
     have hv:sltErr b i s=0:=by rw [sltErr,za3 c1,fE_one,if_neg c2]
     have qe:=aI qR (aI @hs (aI @take_map (aI @c1' (aI @c2' yDF))));repeat' first|refine gC ?_ ?_<;>intro hc<;>try contradiction|refine za (yar s) ?_|refine zN (λ_=>yd (b.slots.take i) s.req.name) ?_|refine gG ?_|show AK _;intro K H|refine H _ _ ?_;clear H K|refine gJ ?_;try exact trivial|omega
     all_goals exact ⟨i+1,⟨by omega,zaC hi.2 (zI hs) hv⟩,by omega,by simp⟩
   .have c1':=eq_false c1
    have hv:sltErr b i s=chkSlt s:=by rw [sltErr,za2 c1]
    have e:zG b=chkSlt s:=by rw [hE,zV hi.2 (zI hs) (by rw [hv];exact c1),hv,za2 c1]
    rw [e]
    have qe:=aI qR (aI @hs (aI @take_map (aI @c1' @decide_false)));repeat' first|refine gC ?_ ?_<;>intro hc<;>try contradiction|refine za (yar s) ?_|refine zN (λ_=>yd (b.slots.take i) s.req.name) ?_|refine gG ?_|show AK _;intro K H|refine H _ _ ?_;clear H K|refine gJ ?_;try exact trivial|omega
    all_goals exact .refl _
  .have ei:i=(b.slots.mapIdx (sltErr b)).length:=by simp;omega
   have hA:zg (b.slots.mapIdx (sltErr b))=0:=by subst ei;exact z4 hi.2
   rw [za3 hA] at hE
   by_cases h65:(64:Int) < b.wait.length
   .have e:zG b=5:=by rw [hE,if_pos h65,za2 (by omega)]
    have h65':=eq_true h65
    rw [e]
    have qe:=aI qR (aI @h65' @decide_true);repeat' first|refine gC ?_ ?_<;>intro hc<;>try contradiction|refine gG ?_|show AK _;intro K H|refine H _ _ ?_;clear H K|refine gJ ?_;try exact trivial|omega
    all_goals exact .refl _
   have h65':=eq_false h65
   rw [if_neg h65,za3 rfl,fE_one] at hE
   have qe:=aI qR (aI @h65' @decide_false);repeat' first|refine gC ?_ ?_<;>intro hc<;>try contradiction|refine gG ?_|show AK _;intro K H|refine H _ _ ?_;clear H K|refine gJ ?_;try exact trivial|omega
   refine zk (κ:=Nat) (λi=>⟨[(1,.lp 1 0),(5,.p (.i .i64 i))],[(1,.box [.p (.sl 16 (b.slots.map Slt.pv)),.p (.sl 14 (b.wait.map Wsh.pv))] false)],[],false⟩) (λi=>i<=b.wait.length/\∀ x ∈ (b.wait.mapIdx (wshErr b)).take i,x=0) (λi=>b.wait.length - i) 0 ?_ ?_ ?_
   .exact sS
   .simp
   .clear hi ei
    intro i hi
    repeat first|refine gG ?_|show AK _;intro K H|refine H _ _ ?_;clear H K|refine gJ ?_;try exact trivial|omega
    (refine gC ?_ ?_<;>intro hc<;>try contradiction)
    .obtain ⟨w,hx⟩:=zn (i:=i) (l:=b.wait) (by omega)
     have e9:((9:Int)=0)=False:=eq_false (by omega)
     have e11:((11:Int)=0)=False:=eq_false (by omega)
     have hr:∀ e,wshErr b i w=e->e≠0->zG b=e:=λe hv he=>by rw [hE,zV hi.2 (zI hx) (by rw [hv];exact he),hv]
     have hn9:∀ q:0<=atL w.req.name (b.slots.map (·.req.name))\/0<=atL w.req.name ((b.wait.take i).map (·.req.name)),0<=atL w.req.name (b.slots.map (·.req.name)++(b.wait.take i).map (·.req.name)):=λq=>(yc _ _).2 (by
      rcases q with q|q
      .exact List.mem_append_left _ ((yc _ _).1 q)
      .exact List.mem_append_right _ ((yc _ _).1 q))
     by_cases d1:chkWsh w=0
     .have d1':=eq_true d1
      by_cases d2:0<=atL w.req.name (b.slots.map (·.req.name))
      .have d2':=eq_true d2
       rw [hr 9 (by rw [wshErr,za3 d1,if_pos (hn9 (.inl d2)),za2 (by omega)]) (by omega)]
       have qe:=aI qR (aI @hx (aI @take_map (aI @d1' (aI @d2' (aI @e9 yDF)))));repeat' first|refine gC ?_ ?_<;>intro hc<;>try contradiction|refine za (yq w) ?_|refine zN (λ_=>yd b.slots w.req.name) ?_|refine zN (λ_=>yp (b.wait.take i) w.req.name) ?_|(show zj _ _ _ _ (⟨_,.call 95,_,_,_⟩::_) _ _;refine yf (q:=.b false) (by first|rfl|(simp (disch:=omega) only [qG,qe,seval]<;>rfl)) ?_;(try (refine zE ?_)))|refine gG ?_|show AK _;intro K H|refine H _ _ ?_;clear H K|refine gJ ?_;try exact trivial|omega
       all_goals exact .refl _
      have d2':=eq_false d2
      by_cases d3:0<=atL w.req.name ((b.wait.take i).map (·.req.name))
      .have d3':=eq_true d3
       rw [hr 9 (by rw [wshErr,za3 d1,if_pos (hn9 (.inr d3)),za2 (by omega)]) (by omega)]
       have qe:=aI qR (aI @hx (aI @take_map (aI @d1' (aI @d2' (aI @d3' (aI @e9 yDF))))));repeat' first|refine gC ?_ ?_<;>intro hc<;>try contradiction|refine za (yq w) ?_|refine zN (λ_=>yd b.slots w.req.name) ?_|refine zN (λ_=>yp (b.wait.take i) w.req.name) ?_|(show zj _ _ _ _ (⟨_,.call 95,_,_,_⟩::_) _ _;refine yf (q:=.b false) (by first|rfl|(simp (disch:=omega) only [qG,qe,seval]<;>rfl)) ?_;(try (refine zE ?_)))|refine gG ?_|show AK _;intro K H|refine H _ _ ?_;clear H K|refine gJ ?_;try exact trivial|omega
       all_goals exact .refl _
      have d3':=eq_false d3
      have hno:¬0<=atL w.req.name (b.slots.map (·.req.name)++(b.wait.take i).map (·.req.name)):=λq=>by
       rcases List.mem_append.1 ((yc _ _).1 q) with q|q
       .exact d2 ((yc _ _).2 q)
       .exact d3 ((yc _ _).2 q)
      by_cases d4:0 < (i:Int)
      .have d4':=eq_true d4
       obtain ⟨p,hp⟩:=zn (i:=i - 1) (l:=b.wait) (by omega)
       have e1:((i:Int) - 1).toNat=i - 1:=by omega
       cases d5:yA p w with
       | true=>
        have hc5:¬cmpW w p<=0:=λq=>by rw [yaH.2 q] at d5;cases d5
        have hv:wshErr b i w=0:=by rw [wshErr,za3 d1,if_neg hno,za3 rfl,fE_one,hp];exact if_neg λq=>hc5 q.2
        have qe:=aI qR (aI @hx (aI @hp (aI @e1 (aI @take_map (aI @d1' (aI @d2' (aI @d3' (aI @d4' (aI @d5 yDT)))))))));repeat' first|refine gC ?_ ?_<;>intro hc<;>try contradiction|refine za (yq w) ?_|refine zN (λ_=>yd b.slots w.req.name) ?_|refine zN (λ_=>yp (b.wait.take i) w.req.name) ?_|refine zN (λ_=>ybm p w) ?_|refine gG ?_|show AK _;intro K H|refine H _ _ ?_;clear H K|refine gJ ?_;try exact trivial|omega
        all_goals exact ⟨i+1,⟨by omega,zaC hi.2 (zI hx) hv⟩,by omega,by simp⟩
       | false=>
        rw [hr 11 (by rw [wshErr,za3 d1,if_neg hno,za3 rfl,fE_one,hp];exact if_pos ⟨d4,yaH.1 d5⟩) (by omega)]
        have qe:=aI qR (aI @hx (aI @hp (aI @e1 (aI @take_map (aI @d1' (aI @d2' (aI @d3' (aI @d4' (aI @d5 (aI @e11 (aI @decide_true (aI @decide_false @Bool.not_false))))))))))));repeat' first|refine gC ?_ ?_<;>intro hc<;>try contradiction|refine za (yq w) ?_|refine zN (λ_=>yd b.slots w.req.name) ?_|refine zN (λ_=>yp (b.wait.take i) w.req.name) ?_|refine zN (λ_=>ybm p w) ?_|refine gG ?_|show AK _;intro K H|refine H _ _ ?_;clear H K|refine gJ ?_;try exact trivial|omega
        all_goals exact .refl _
      .have d4':=eq_false d4
       have hv:wshErr b i w=0:=by rw [wshErr,za3 d1,if_neg hno,za3 rfl,fE_one];exact if_neg λq=>d4 q.1
       have qe:=aI qR (aI @hx (aI @take_map (aI @d1' (aI @d2' (aI @d3' (aI @d4' yDF))))));repeat' first|refine gC ?_ ?_<;>intro hc<;>try contradiction|refine za (yq w) ?_|refine zN (λ_=>yd b.slots w.req.name) ?_|refine zN (λ_=>yp (b.wait.take i) w.req.name) ?_|(show zj _ _ _ _ (⟨_,.call 95,_,_,_⟩::_) _ _;refine yf (q:=.b false) (by first|rfl|(simp (disch:=omega) only [qG,qe,seval]<;>rfl)) ?_;(try (refine zE ?_)))|refine gG ?_|show AK _;intro K H|refine H _ _ ?_;clear H K|refine gJ ?_;try exact trivial|omega
       all_goals exact ⟨i+1,⟨by omega,zaC hi.2 (zI hx) hv⟩,by omega,by simp⟩
     .have d1':=eq_false d1
      rw [hr (chkWsh w) (by rw [wshErr,za2 d1]) d1]
      have qe:=aI qR (aI @hx (aI @take_map (aI @d1' @decide_false)));repeat' first|refine gC ?_ ?_<;>intro hc<;>try contradiction|refine za (yq w) ?_|refine zN (λ_=>yd b.slots w.req.name) ?_|refine zN (λ_=>yp (b.wait.take i) w.req.name) ?_|(show zj _ _ _ _ (⟨_,.call 95,_,_,_⟩::_) _ _;refine yf (q:=.b false) (by first|rfl|(simp (disch:=omega) only [qG,qe,seval]<;>rfl)) ?_;(try (refine zE ?_)))|refine gG ?_|show AK _;intro K H|refine H _ _ ?_;clear H K|refine gJ ?_;try exact trivial|omega
      all_goals exact .refl _
    .have ei:i=(b.wait.mapIdx (wshErr b)).length:=by simp;omega
     have hZ:zg (b.wait.mapIdx (wshErr b))=0:=by subst ei;exact z4 hi.2
     rw [hE,hZ]
     have qe:=@qR;repeat' first|refine gC ?_ ?_<;>intro hc<;>try contradiction|refine gG ?_|show AK _;intro K H|refine H _ _ ?_;clear H K|refine gJ ?_;try exact trivial|omega
     all_goals exact .refl _
theorem sl_sh {s:Slt} (h:ycz s=true):s.ls.length<=9/\s.sh.length<=5/\shortB s.req=true:=by
 simp only [ycz,Bool.and_eq_true,Bool.not_eq_true',bigS,Bool.or_eq_false_iff,Bool.and_eq_false_iff,decide_eq_false_iff_not,Bool.not_eq_false',decide_eq_true_eq] at h
 obtain ⟨⟨⟨⟨h1,_⟩,h2⟩,h3⟩,_⟩:=h
 exact ⟨by omega,by omega,h1⟩
theorem sh_ok {b:Bk} (h:ycw b=true):BkOk b/\b.slots.length<=65/\b.wait.length<=65:=by
 simp only [ycw,Bool.and_eq_true,Bool.not_eq_true',bigB,Bool.or_eq_false_iff,Bool.and_eq_false_iff,decide_eq_false_iff_not,Bool.not_eq_false',decide_eq_true_eq,List.all_eq_true] at h
 obtain ⟨⟨h1,h2⟩,h3,_⟩:=h
 exact ⟨⟨λs hs=>by have:=sl_sh (h3 s hs);exact ⟨by omega,by omega⟩,by omega,by omega⟩,by omega,by omega⟩
open Go.RowKit Go.ChangeShapes Go.WideShapes Go.ChangeAt
theorem yO {α:Type} {f:α->PV}:∀ {xs:List PV},(∀ x ∈ xs,∃ a,x=f a)->∃ L:List α,xs=L.map f
 | [],_=>⟨[],rfl⟩
 | x::r,h=>by
  obtain ⟨a,rfl⟩:=h x (by simp)
  obtain ⟨L,rfl⟩:=yO (xs:=r) λy hy=>h y (by simp [hy])
  exact ⟨a::L,rfl⟩
def leaT:List CP:=[.s,jT,jT]
def sltT:List CP:=[.s,.s,.s,.s,.s,.s,jT,jT,jT,jT,jT,jT,jT,.s,.sl true leaT,.sl false [.s]]
def wshT:List CP:=[.s,.s,.s,.s,.s,.s,jT,jT,jT,jT,jT,jT,jT,jT]
theorem lea_of {n:Nat} {l:List PV} (h:FitAll (Fit n) leaT l):∃ L:Lea,.agg l=L.pv:=by
 cases n<;>(match l,h with
  | [_,_,_],⟨⟨a,ha⟩,⟨b,hb⟩,⟨c,hc⟩,_⟩=>subst ha hb hc;exact ⟨⟨a,b,c⟩,rfl⟩)
theorem ydI {n:Nat} {p:PV} (h:Fit (n+1) (.sl true leaT) p):∃ L:List Lea,p=.sl 3 (L.map Lea.pv):=by
 obtain ⟨xs,rfl,hx⟩:=h
 obtain ⟨L,rfl⟩:=yO (f:=Lea.pv) (xs:=xs) λx h=>by
  obtain ⟨l,rfl,hf⟩:=hx x h
  exact lea_of hf
 exact ⟨L,rfl⟩
theorem ydr {n:Nat} {p:PV} (h:Fit (n+1) (.sl false [.s]) p):∃ L:List ByteArray,p=.sl 1 (L.map .s):=by
 obtain ⟨xs,rfl,hx⟩:=h
 obtain ⟨L,rfl⟩:=yO (f:=PV.s) (xs:=xs) λx h=>by
  obtain ⟨l,rfl,hf⟩:=hx x h
  match l,hf with
  | [_],⟨h1,_⟩=>
   cases n<;>(obtain ⟨a,rfl⟩:=h1;exact ⟨a,rfl⟩)
 exact ⟨L,rfl⟩
theorem slt_of {n:Nat} {l:List PV} (h:FitAll (Fit (n+1)) sltT l):∃ s:Slt,.agg l=s.pv:=by
 match l,h with
 | [_,_,_,_,_,_,_,_,_,_,_,_,_,_,_,_],⟨⟨a,ha⟩,⟨b,hb⟩,⟨c,hc⟩,⟨d,hd⟩,⟨e,he⟩,⟨f,hf⟩,⟨g,hg⟩,⟨i,hi⟩,⟨j,hj⟩,⟨k,hk⟩,⟨m,hm⟩,⟨o,ho⟩,⟨q,hq⟩,⟨r,hr⟩,h1,h2,_⟩=>
  subst ha hb hc hd he hf hg hi hj hk hm ho hq hr
  obtain ⟨L,rfl⟩:=ydI h1
  obtain ⟨S,rfl⟩:=ydr h2
  exact ⟨⟨⟨a,b,c,d,e,f,⟨g,i,j⟩,k,m,o,q⟩,r,L,S⟩,rfl⟩
theorem wsh_of {n:Nat} {l:List PV} (h:FitAll (Fit n) wshT l):∃ w:Wsh,.agg l=w.pv:=by
 cases n<;>(match l,h with
  | [_,_,_,_,_,_,_,_,_,_,_,_,_,_],⟨⟨a,ha⟩,⟨b,hb⟩,⟨c,hc⟩,⟨d,hd⟩,⟨e,he⟩,⟨f,hf⟩,⟨g,hg⟩,⟨i,hi⟩,⟨j,hj⟩,⟨k,hk⟩,⟨m,hm⟩,⟨o,ho⟩,⟨q,hq⟩,⟨r,hr⟩,_⟩=>
   subst ha hb hc hd he hf hg hi hj hk hm ho hq hr
   exact ⟨⟨⟨a,b,c,d,e,f,⟨g,i,j⟩,k,m,o,q⟩,r⟩,rfl⟩)
theorem parB:yde Tryz.prog 6 25=some (true,[.sl true sltT,.sl true wshT]):=by kernel_rfl
theorem fit_bk {p:PV} (h:yag Tryz.prog 6 25 p):∃ b:Bk,p=b.pv:=by
 obtain ⟨⟨ag,c,l,hp,rfl,hl⟩,hb⟩:=h
 rw [parB] at hp
 simp only [Option.some.injEq,Prod.mk.injEq] at hp
 obtain ⟨rfl,rfl⟩:=hp
 match l,hl with
 | [_,_],⟨⟨xs,rfl,hx⟩,⟨ys,rfl,hy⟩,_⟩=>
  obtain ⟨L,rfl⟩:=yO (f:=Slt.pv) (xs:=xs) λx h=>by
   obtain ⟨l,rfl,hf⟩:=hx x h
   exact slt_of hf
  obtain ⟨W,rfl⟩:=yO (f:=Wsh.pv) (xs:=ys) λx h=>by
   obtain ⟨l,rfl,hf⟩:=hy x h
   exact wsh_of hf
  exact ⟨⟨L,W⟩,rfl⟩
