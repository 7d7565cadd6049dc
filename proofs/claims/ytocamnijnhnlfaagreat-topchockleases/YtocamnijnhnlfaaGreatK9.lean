/- Contracts of functions, for the claim. No conditions. -/
import Derived.Test.YtocamnijnhnlfaaGreatK8
import Derived.Test.YtocamnijnhnlfaaGreatK7
import Derived.Test.YtocamnijnhnlfaaGreatK6
import Derived.Test.YtocamnijnhnlfaaGreatK4
set_option linter.all false
set_option maxHeartbeats 8000000
set_option maxRecDepth 100000
namespace Go.Proofs.YtocamnijnhnlfaaGreat
open Go.RowKit Tryz
theorem zmG {ls:List Lim}:∀ {W:List Win} {a:Int},1<=a->(W.foldl (zcy ls) a < 1↔∃ w ∈ W,zgi ls w.lim<=w.cnt)
 | [],a,h=>by simp;omega
 | w::r,a,h=>by
  rw [xbi]
  by_cases hw:zgi ls w.lim<=w.cnt
  ·refine iff_of_true ?_ ⟨w,by simp,hw⟩
   have key:∀ (r:List Win) (b:Int),b < 1->r.foldl (zcy ls) b < 1:=by
    intro r
    induction r with
    | nil=>intro b hb;exact hb
    | cons x r ih=>intro b hb;rw [xbi];refine ih _ ?_;unfold zcy;omega
   exact key r _ (by unfold zcy;omega)
  ·rw [zmG (W:=r) (a:=zcy ls a w) (by unfold zcy;omega)]
   constructor
   ·rintro ⟨x,hx,hh⟩;exact ⟨x,by simp [hx],hh⟩
   ·rintro ⟨x,hx,hh⟩
    rcases xaB.1 hx with rfl|hx
    ·exact absurd hh hw
    ·exact ⟨x,hx,hh⟩
def zqJ {ls:List Lim} {m:List Mov} {o:Mov}:zBQ ls m o < 1↔∃ w ∈ arW ls m o,zgi ls w.lim<=w.cnt:=zmG (by decide)
def zD6 {ls:List Lim} {m:List Mov} {o:Mov} {i:Nat} {l:Lim} {e:Nat} {b:Int} (hl:ls[i]?=some l) (hc:zar l o.kind o.term=true) (he:e < 2) (hb:b ∈ z7 l (o.moment / 1440 - 1+e)) (h1:b<=o.moment) (h2:o.moment < b+l.len):(⟨i,b,zcp l m b⟩:Win) ∈ arW ls m o:=by
 refine xax.2 ⟨i,xaO.2 (xaa.1 hl).1,?_⟩;rw [arI,hl];simp only [arL,hc,if_true];refine xax.2 ⟨e,xaO.2 he,xax.2 ⟨b,hb,?_⟩⟩;rw [arB,if_pos ⟨h1,h2⟩];simp
def zDf {ls:List Lim} {m:List Mov} {r:Req} {v:Nat × Nat} (h:v ∈ evA ls m r):∃ (i:Nat) (l:Lim) (d:Int) (e:Nat) (b:Int),ls[i]?=some l/\zar l r.kind r.term=true/\d ∈ zq r.per/\e < 2/\b ∈ z7 l (d - 1+e)/\l.most<=zcp l m b/\(v.1:Int)=max 0 (b - 1440*d)/\(v.2:Int)=min 1440 (b+l.len - 1440*d)/\v.1 < v.2:=by
 obtain ⟨i,_,h⟩:=xax.1 h;unfold evI at h
 split at h
 ·rename_i l hl;unfold evL at h
  split at h
  ·rename_i hc;obtain ⟨d,hd,h⟩:=xax.1 h;obtain ⟨e,he,h⟩:=xax.1 h;obtain ⟨b,hb,h⟩:=xax.1 h;unfold evB at h
   split at h
   ·cases h
   ·split at h
    ·simp only [xa8] at h;subst h;exact ⟨i,l,d,e,b,hl,hc,hd,xaO.1 he,hb,by omega,by simp only;omega,by simp only;omega,by simp only;omega⟩
    ·cases h
  ·cases h
 ·cases h
def zDe {ls:List Lim} {m:List Mov} {r:Req} {i:Nat} {l:Lim} {d:Int} {e:Nat} {b:Int} (hl:ls[i]?=some l) (hc:zar l r.kind r.term=true) (hd:d ∈ zq r.per) (he:e < 2) (hb:b ∈ z7 l (d - 1+e)) (hm:l.most<=zcp l m b) (hlt:max 0 (b - 1440*d) < min 1440 (b+l.len - 1440*d)):((max 0 (b - 1440*d)).toNat,(min 1440 (b+l.len - 1440*d)).toNat) ∈ evA ls m r:=by
 refine xax.2 ⟨i,xaO.2 (xaa.1 hl).1,?_⟩;rw [evI,hl];simp only [evL,hc,if_true];refine xax.2 ⟨d,hd,xax.2 ⟨e,xaO.2 he,xax.2 ⟨b,hb,?_⟩⟩⟩;rw [evB,if_neg (by omega),if_pos hlt];simp
def zuk {ls:List Lim} {m:List Mov} {r:Req} {n:Int} (h0:0<=n) (h1:n < 1440):(!zxn (evA ls m r) n.toNat)=zsi ls m (r.at n):=by
 rw [xbV,xaX,<-xcn,zxn,xbv,zsi,xaD]
 constructor
 ·intro h o ho;obtain ⟨d,hd,rfl⟩:=xa3.1 ho;simp only [xaX,decide_eq_false_iff_not];intro hlt;obtain ⟨w,hw,hf⟩:=zqJ.1 hlt;obtain ⟨i,l,hwi,hli,hwc,hcl,hb1,hb2,e,he,hbb⟩:=zD7 hw;have hma:zgi ls w.lim=l.most:=by rw [zgi,hwi,xbz,hli]
  have hD:(za9 (r.at n) d).moment / 1440=d:=by simp only [za9,Req.at];omega
  have hM:(za9 (r.at n) d).moment=1440*d+n:=rfl;rw [hD] at hbb;rw [hM] at hb1 hb2;refine h ⟨_,zDe (m:=m) (r:=r) hli hcl hd he hbb (by omega) (by omega),?_⟩
  simp only [zxF,xam,decide_eq_true_eq];omega
 ·rintro h ⟨v,hv,hh⟩;obtain ⟨i,l,d,e,b,hli,hcl,hd,he,hbb,hm,hv1,hv2,hv3⟩:=zDf hv;simp only [zxF,xam,decide_eq_true_eq] at hh;have hD:(za9 (r.at n) d).moment / 1440=d:=by simp only [za9,Req.at];omega
  have hM:(za9 (r.at n) d).moment=1440*d+n:=rfl;have:=h (za9 (r.at n) d) (xa3.2 ⟨d,hd,rfl⟩);simp only [xaX,decide_eq_false_iff_not] at this;refine this (zqJ.2 ⟨_,zD6 (m:=m) (o:=za9 (r.at n) d) hli hcl he (by rw [hD];exact hbb) (by rw [hM];omega) (by rw [hM];omega),?_⟩)
  simp only [zgi,xbz,hli];exact hm
def zrs {P:List (Nat × Nat)} {j:Nat} (hj:j < 1440):(zkY P 1440)[j]?=some (zxn P j):=by rw [ziM hj,decide_eq_true hj,xbh]
def zuC (ls:List Lim) (m:List Mov) (r:Req) (n:Int) (h0:0<=n) (h1:n < 1440):Pure prog 218 [.ip (.agg ((zkY (evA ls m r) 1440).map PV.b)) 0,.i .i64 n] (.b (zsi ls m (r.at n))):=by
 have:=zzs (zkY (evA ls m r) 1440) (zcE _ _) n.toNat _ (zrs (by omega))
 rw [zuk h0 h1,xbx h0] at this;exact this
def zA4 (r:Req):r.at r.minute=r:=rfl
abbrev fitC (ls:List Lim) (m:List Mov) (r:Req):Int:=zf [zAZ ls m,zbk r]
def zo4 (ls:List Lim) (m:List Mov) (r:Req):Bool:=decide (fitC ls m r=0) && zsi ls m r
def zCm (ls:List Lim) (m:List Mov) (r:Req):Pure prog 174 [.sl 11 (ls.map Lim.pv),.sl 7 (m.map Mov.pv),r.pv] (.tup [.b (zo4 ls m r),.i .i64 (fitC ls m r)]):=by
 refine pz func174 f174.eq_1 λhw X hX=>?_
 have qe:=@qR;repeat' first|refine gC ?_ ?_<;>intro hc<;>try contradiction|refine za (zCc ls m) ?_|refine za (zxr r) ?_|refine za (zch [_,_]) ?_|refine gG ?_|show AK _;intro J Z|refine gJ ?_|omega|exact aT
 ·have e:zo4 ls m r=false:=by unfold zo4;rw [decide_eq_false hc,xbj]
  rw [e];exact .refl _
 ·have h1:zAZ ls m=0/\zbk r=0/\True:=⟨(ze.1 hc).1,(ze.1 (ze.1 hc).2).1,trivial⟩;have h2:=zaE h1.2.1;have h0:fitC ls m r=0:=hc;have qe:=@qR;repeat' first|refine gC ?_ ?_<;>intro hc<;>try contradiction|refine za (zzt ls m r h1.1 h1.2.1) ?_|refine za (zuC ls m r r.minute h2.2.1 (by omega)) ?_|refine gG ?_|show AK _;intro J Z|refine gJ ?_|omega|exact aT
  have e:zo4 ls m r=zsi ls m r:=by unfold zo4;rw [decide_eq_true h0,xbh]
  rw [e,h0,zA4];exact .refl _
def zgV (a b:Wsh):Int:=zf [zeC a.rank b.rank,zk3 a.req.name b.req.name]
def zap (b:Bk) (i:Nat) (w:Wsh):Int:=zf [zfm w,if 0<=atL w.req.name (b.slots.map (·.req.name)++(b.wait.take i).map (·.req.name)) then 9 else 0,if 0 < (i:Int)/\zgV w ((b.wait[i - 1]?).getD w)<=0 then 11 else 0]
def zu (b:Bk):Int:=zf [if 64 < (b.slots.length:Int) then 5 else 0,zf (b.slots.mapIdx (zaR b)),if 64 < (b.wait.length:Int) then 5 else 0,zf (b.wait.mapIdx (zap b))]
theorem zcU:∀ (a b:List Int),zf (a++b)=if zf a=0 then zf b else zf a
 | [],b=>by simp [zf]
 | x::r,b=>by
  by_cases h:x=0
  ·simp only [xaE,zf,if_pos h,zcU r b]
  ·simp only [xaE,zf,if_neg h]
def z9 (e:Int):zf [e]=e:=by by_cases h:e=0<;>simp [zf,h]
def zE {e:Int} {r:List Int} (h:e≠0):zf (e::r)=e:=by simp [zf,h]
def zt {e:Int} {r:List Int} (h:e=0):zf (e::r)=zf r:=by simp [zf,h]
abbrev zxM (n:ByteArray):PV × PV:=(.s n,.b true)
theorem ze0 (n:ByteArray):∀ N:List ByteArray,(mget (.s n) (N.map zxM)).getD (.b false)=.b (decide (0<=atL n N))
 | []=>rfl
 | x::r=>by
  have ih:=ze0 n r;have hg:=zs3 n r
  by_cases h:n=x
  ·subst h;simp [mget,PV.cells,eqCells,eqPV,atL]
  ·have h':¬x=n:=λe=>h e.symm
   simp only [xag,mget,PV.cells,eqCells,eqPV,h,decide_false,xbj,xaT,if_false,ih,atL,h']
   congr 1
   by_cases h2:atL n r < 0
   ·simp only [h2,if_true];rw [decide_eq_false (by omega)];rfl
   ·simp only [h2,if_false];rw [decide_eq_true (by omega),decide_eq_true (by omega)]
theorem zeY (n:ByteArray):∀ N:List ByteArray,atL n N < 0->mput (.s n) (.b true) (N.map zxM)=(N++[n]).map zxM
 | [],_=>rfl
 | x::r,h=>by
  have hx:¬x=n:=λe=>by subst e;simp [atL] at h
  have hr:atL n r < 0:=by
   simp only [atL,if_neg hx] at h
   by_cases h2:atL n r < 0
   ·exact h2
   ·rw [if_neg h2] at h;omega
  have hx':¬n=x:=λe=>hx e.symm
  simp only [xag,xaE,mput,PV.cells,eqCells,eqPV,hx',decide_false,xbj,xaT,if_false,zeY n r hr]
theorem zdg (n:ByteArray):∀ N:List ByteArray,keysOk [2] false (.s n) (N.map zxM)
 | []=>trivial
 | x::r=>⟨⟨rfl,by simp [PV.cells,eqCellsOk,eqOk]⟩,zdg n r⟩
def zmY (a b:Wsh):Pure prog 66 [a.pv,b.pv] (.i .i64 (zgV a b)):=by
 refine pz func66 f66.eq_1 λhw X hX=>?_
 have qe:=@qR;have jA:=λu1 u2=>zgd u1 u2;have jB:=λu1 u2=>ziH u1 u2;have jC:=λu1 u2=>zlA [u1,u2];exact gD4
def zmZ (s:Slt):Pure prog 64 [s.pv] (.i .i64 (zae s)):=by
 refine pz func64 f64.eq_1 λhw X hX=>?_
 simp only [wfs,PV.wf,xaf,maxLen] at hw;have hsp:zae s=zf ([zfn s.req,zy s.holder,if 8 < (s.ls.length:Int) then 5 else 0]++[zf (s.ls.mapIdx (za6 s)),if 4 < (s.sh.length:Int) then 5 else 0,zf (s.sh.mapIdx (za3 s))]):=rfl
 have qe:=@qR;repeat' first|refine gC ?_ ?_<;>intro hc<;>try contradiction|refine za (ziE s.req) ?_|refine za (zbH _) ?_|refine za (zaa _ _) ?_|refine za (zO [_,_,_]) ?_|refine gG ?_|show AK _;intro J Z|refine gJ ?_|omega|exact aT
 ·rw [hsp,zcU,if_neg hc];exact .refl _
 rw [zcU,if_pos hc] at hsp;refine zh (κ:=Nat) (λi=>⟨[(1,.lp 1 0),(28,.p (.sl 3 (s.ls.map Lea.pv))),(29,.p (.i .i64 s.ls.length)),(30,.p (.i .i64 i))],[(1,.box (s.cells.map .p) false)],[],false⟩) (λi=>i<=s.ls.length/\∀ x ∈ (s.ls.mapIdx (za6 s)).take i,x=0) (λi=>s.ls.length - i) 0 ?_ ?_ ?_
 ·exact sR
 ·simp
 ·intro i hi
  repeat first|refine gG ?_|show AK _;intro J Z|refine gJ ?_|omega|exact aT
  (refine gC ?_ ?_<;>intro hc<;>try contradiction)
  ·obtain ⟨x,hx⟩:=zk (i:=i) (l:=s.ls) (by omega)
   obtain ⟨y,hy⟩:=zk (i:=i - 1) (l:=s.ls) (by omega)
   have e:(max 0 ((i:Int) - 1)).toNat=i - 1:=by omega
   have he:za6 s i x=zf [zav x,zbw s.raw x,if 0 < (i:Int)/\x.fro<=y.to then 15 else 0]:=by rw [za6,hy];rfl
   have qe:=aI qR (aI @hx (aI @hy @e));repeat' first|refine gC ?_ ?_<;>intro hc<;>try contradiction|refine za (zmV x) ?_|refine za (ziG x s.raw) ?_|refine za (zaa _ _) ?_|refine za (zO [_,_,_]) ?_|refine gG ?_|show AK _;intro J Z|refine gJ ?_|omega|exact aT
   ·rw [<-he] at hc;have h1:zf (s.ls.mapIdx (za6 s))=za6 s i x:=zN hi.2 (zz hx) hc;have hf:zae s=za6 s i x:=by rw [hsp,zE (by rw [h1];exact hc),h1]
    rw [hf,he];simp only [xam,decide_eq_true_eq];exact .refl _
   ·rw [<-he] at hc;exact ⟨i+1,⟨by omega,zah hi.2 (zz hx) hc⟩,by omega,by simp⟩
  ·have e1:zf (s.ls.mapIdx (za6 s))=0:=by
    have e:i=(s.ls.mapIdx (za6 s)).length:=by simp;omega
    subst e;exact zU hi.2
   rw [zt e1] at hsp
   repeat' first|refine gC ?_ ?_<;>intro hc<;>try contradiction|refine gG ?_|show AK _;intro J Z|refine gJ ?_|omega|exact aT
   ·rw [hsp,zE (by rw [if_pos hc];omega),if_pos hc];exact .refl _
   rw [zt (by rw [if_neg (by omega)]),z9] at hsp
   refine zh (κ:=Nat) (λi=>⟨[(1,.lp 1 0),(68,.p (.sl 1 (s.sh.map .s))),(69,.p (.i .i64 s.sh.length)),(70,.p (.i .i64 i))],[(1,.box (s.cells.map .p) false)],[],false⟩) (λi=>i<=s.sh.length/\∀ x ∈ (s.sh.mapIdx (za3 s)).take i,x=0) (λi=>s.sh.length - i) 0 ?_ ?_ ?_
   ·exact sR
   ·simp
   ·intro i hi
    repeat first|refine gG ?_|show AK _;intro J Z|refine gJ ?_|omega|exact aT
    (refine gC ?_ ?_<;>intro hc<;>try contradiction)
    ·obtain ⟨x,hx⟩:=zk (i:=i) (l:=s.sh) (by omega)
     have qe:=aI qR (aI @hx @zax);repeat' first|refine gC ?_ ?_<;>intro hc<;>try contradiction|refine za (zbH x) ?_|refine za (ziD (s.sh.take i) x) ?_|refine za (zaa _ _) ?_|refine za (zO [_,_,_]) ?_|refine gG ?_|show AK _;intro J Z|refine gJ ?_|omega|exact aT
     ·have hf:zae s=za3 s i x:=by rw [hsp];exact zN hi.2 (zz hx) hc
      rw [hf];exact .refl _
     ·exact ⟨i+1,⟨by omega,zah hi.2 (zz hx) hc⟩,by omega,by simp⟩
    ·repeat' first|refine gC ?_ ?_<;>intro hc<;>try contradiction|refine gG ?_|show AK _;intro J Z|refine gJ ?_|omega|exact aT
     have e:i=(s.sh.mapIdx (za3 s)).length:=by simp;omega
     subst e;rw [hsp,zU hi.2];exact .refl _
def zaM (b:Bk):Pure prog 28 [b.pv] (.i .i64 (zu b)):=by
 refine pz func28 f28.eq_1 λhw X hX=>?_
 simp only [wfs,PV.wf,xaf,maxLen] at hw;have hsp:zu b=zf [if 64 < (b.slots.length:Int) then 5 else 0,zf (b.slots.mapIdx (zaR b)),if 64 < (b.wait.length:Int) then 5 else 0,zf (b.wait.mapIdx (zap b))]:=rfl
 repeat' first|refine gC ?_ ?_<;>intro hc<;>try contradiction|refine gG ?_|show AK _;intro J Z|refine gJ ?_|omega|exact aT
 ·rw [hsp,zE (by rw [if_pos hc];omega),if_pos hc];exact .refl _
 rw [zt (by rw [if_neg (by omega)])] at hsp
 refine zh (κ:=Nat) (λi=>⟨[(1,.lp 1 0),(3,.lm 15),(17,.p (.sl 16 (b.slots.map Slt.pv))),(18,.p (.i .i64 b.slots.length)),(19,.p (.i .i64 i))],[(1,.box [.p (.sl 16 (b.slots.map Slt.pv)),.p (.sl 14 (b.wait.map Wsh.pv))] false),(15,.mp (((b.slots.take i).map (·.req.name)).map zxM) false)],[],false⟩) (λi=>i<=b.slots.length/\∀ x ∈ (b.slots.mapIdx (zaR b)).take i,x=0) (λi=>b.slots.length - i) 0 ?_ ?_ ?_
 ·exact sR
 ·simp
 ·intro i hi
  repeat first|refine gG ?_|show AK _;intro J Z|refine gJ ?_|omega|exact aT
  (refine gC ?_ ?_<;>intro hc<;>try contradiction)
  ·obtain ⟨x,hx⟩:=zk (i:=i) (l:=b.slots) (by omega)
   have hg:=ze0 x.req.name ((b.slots.take i).map (·.req.name));have hk:keysOk [2] false (.s x.req.name) (((b.slots.take i).map (·.req.name)).map zxM)=True:=eq_true (zdg _ _)
   by_cases ht:atL x.req.name ((b.slots.take i).map (·.req.name)) < 0
   ·have hp:=zeY x.req.name ((b.slots.take i).map (·.req.name)) ht;have hn:(b.slots.take (i+1)).map (·.req.name)=(b.slots.take i).map (·.req.name)++[x.req.name]:=by rw [zM hx,xaZ];rfl
    have qe:=aI qR (aI @hx (aI @hg (aI @hk @hp)));repeat' first|refine gC ?_ ?_<;>intro hc<;>try contradiction|refine za (zmZ x) ?_|refine za (zaa _ _) ?_|refine za (zO [_,_]) ?_|refine gG ?_|show AK _;intro J Z|refine gJ ?_|omega|exact aT
    ·have hf:zu b=zaR b i x:=by rw [hsp,zE (by rw [zN hi.2 (zz hx) hc];exact hc)];exact zN hi.2 (zz hx) hc
     rw [hf];exact .refl _
    ·exact ⟨i+1,⟨by omega,zah hi.2 (zz hx) hc⟩,by omega,by simp only [hn];simp⟩
   ·have qe:=aI qR (aI @hx (aI @hg @hk));repeat' first|refine gC ?_ ?_<;>intro hc<;>try contradiction|refine za (zmZ x) ?_|refine za (zaa _ _) ?_|refine za (zO [_,_]) ?_|refine gG ?_|show AK _;intro J Z|refine gJ ?_|omega|exact aT
    ·have hf:zu b=zaR b i x:=by rw [hsp,zE (by rw [zN hi.2 (zz hx) hc];exact hc)];exact zN hi.2 (zz hx) hc
     rw [hf];exact .refl _
    ·exfalso
     have:=fE0 hc _ (xaJ _ (xa8.2 rfl));rw [if_pos (by omega)] at this;omega
  ·have e1:zf (b.slots.mapIdx (zaR b))=0:=by
    have e:i=(b.slots.mapIdx (zaR b)).length:=by simp;omega
    subst e;exact zU hi.2
   have e2:b.slots.take i=b.slots:=xal (by omega)
   rw [zt e1] at hsp;rw [e2]
   repeat' first|refine gC ?_ ?_<;>intro hc<;>try contradiction|refine gG ?_|show AK _;intro J Z|refine gJ ?_|omega|exact aT
   ·rw [hsp,zE (by rw [if_pos hc];omega),if_pos hc];exact .refl _
   rw [zt (by rw [if_neg (by omega)]),z9] at hsp
   refine zh (κ:=Nat) (λi=>⟨[(1,.lp 1 0),(3,.lm 15),(46,.p (.sl 14 (b.wait.map Wsh.pv))),(47,.p (.i .i64 b.wait.length)),(48,.p (.i .i64 i))],[(1,.box [.p (.sl 16 (b.slots.map Slt.pv)),.p (.sl 14 (b.wait.map Wsh.pv))] false),(15,.mp ((b.slots.map (·.req.name)++(b.wait.take i).map (·.req.name)).map zxM) false)],[],false⟩) (λi=>i<=b.wait.length/\∀ x ∈ (b.wait.mapIdx (zap b)).take i,x=0) (λi=>b.wait.length - i) 0 ?_ ?_ ?_
   ·exact sS
   ·simp
   ·intro i hi
    repeat first|refine gG ?_|show AK _;intro J Z|refine gJ ?_|omega|exact aT
    (refine gC ?_ ?_<;>intro hc<;>try contradiction)
    ·obtain ⟨x,hx⟩:=zk (i:=i) (l:=b.wait) (by omega)
     obtain ⟨y,hy⟩:=zk (i:=i - 1) (l:=b.wait) (by omega)
     have e:(max 0 ((i:Int) - 1)).toNat=i - 1:=by omega
     have he:zap b i x=zf [zfm x,if 0<=atL x.req.name (b.slots.map (·.req.name)++(b.wait.take i).map (·.req.name)) then 9 else 0,if 0 < (i:Int)/\zgV x y<=0 then 11 else 0]:=by rw [zap,hy];rfl
     have hg:=ze0 x.req.name (b.slots.map (·.req.name)++(b.wait.take i).map (·.req.name));have hk:keysOk [2] false (.s x.req.name) ((b.slots.map (·.req.name)++(b.wait.take i).map (·.req.name)).map zxM)=True:=eq_true (zdg _ _)
     by_cases ht:atL x.req.name (b.slots.map (·.req.name)++(b.wait.take i).map (·.req.name)) < 0
     ·have hp:=zeY x.req.name (b.slots.map (·.req.name)++(b.wait.take i).map (·.req.name)) ht;have hn:b.slots.map (·.req.name)++(b.wait.take (i+1)).map (·.req.name)=b.slots.map (·.req.name)++(b.wait.take i).map (·.req.name)++[x.req.name]:=by rw [zM hx,xaZ,xau];rfl
      have qe:=aI qR (aI @hx (aI @hy (aI @e (aI @hg (aI @hk @hp)))));repeat' first|refine gC ?_ ?_<;>intro hc<;>try contradiction|refine zm (λ_=>zmY x y) ?_|refine za (zmX x) ?_|refine za (zaa _ _) ?_|refine za (zO [_,_,_]) ?_|refine gG ?_|show AK _;intro J Z|refine gJ ?_|omega|exact aT
      ·rw [<-he] at hc;have hf:zu b=zap b i x:=by rw [hsp];exact zN hi.2 (zz hx) hc
       rw [hf,he];simp only [xam,decide_eq_true_eq];exact .refl _
      ·rw [<-he] at hc;exact ⟨i+1,⟨by omega,zah hi.2 (zz hx) hc⟩,by omega,by simp only [hn];simp⟩
     ·have qe:=aI qR (aI @hx (aI @hy (aI @e (aI @hg @hk))));repeat' first|refine gC ?_ ?_<;>intro hc<;>try contradiction|refine zm (λ_=>zmY x y) ?_|refine za (zmX x) ?_|refine za (zaa _ _) ?_|refine za (zO [_,_,_]) ?_|refine gG ?_|show AK _;intro J Z|refine gJ ?_|omega|exact aT
      ·rw [<-he] at hc;have hf:zu b=zap b i x:=by rw [hsp];exact zN hi.2 (zz hx) hc
       rw [hf,he];simp only [xam,decide_eq_true_eq];exact .refl _
      ·exfalso
       have:=fE0 hc _ (xaJ _ xar);rw [if_pos (by omega)] at this;omega
    ·repeat' first|refine gC ?_ ?_<;>intro hc<;>try contradiction|refine gG ?_|show AK _;intro J Z|refine gJ ?_|omega|exact aT
     have e:i=(b.wait.mapIdx (zap b)).length:=by simp;omega
     subst e;rw [hsp,zU hi.2];exact .refl _
theorem zj9:∀ l:List UInt8,Op.bytesLess l l=false
 | []=>by simp [Op.bytesLess]
 | x::r=>by simp [Op.bytesLess,zj9 r]
theorem zg1:∀ x y:List UInt8,Op.bytesLess x y=true->Op.bytesLess y x=false
 | _,[],h=>by simp [Op.bytesLess] at h
 | [],_::_,_=>rfl
 | a::x,b::y,h=>by
  simp only [Op.bytesLess,xaY,xam,decide_eq_true_eq,beq_iff_eq,xbd,xb0,decide_eq_false_iff_not] at h ⊢;rw [UInt8.lt_iff_toNat_lt] at h ⊢
  rcases h with h|⟨h1,h2⟩
  ·exact ⟨by omega,.inl (by simp only [beq_eq_false_iff_ne];rintro rfl;omega)⟩
  ·subst h1;exact ⟨by omega,.inr (zg1 x y h2)⟩
theorem zwU:∀ x y z:List UInt8,Op.bytesLess x y=false->Op.bytesLess y z=false->Op.bytesLess x z=false
 | _,_,[],_,_=>by simp [Op.bytesLess]
 | [],[],_::_,_,h=>h
 | [],_::_,_::_,h,_=>by simp [Op.bytesLess] at h
 | _::_,[],_::_,_,h=>by simp [Op.bytesLess] at h
 | a::x,b::y,c::z,h,k=>by
  simp only [Op.bytesLess,xbd,xb0,decide_eq_false_iff_not,beq_eq_false_iff_ne,UInt8.lt_iff_toNat_lt] at h k ⊢;refine ⟨by omega,?_⟩
  by_cases e:a=c
  ·subst e;have e2:a=b:=UInt8.toNat_inj.1 (by omega)
   subst e2;exact .inr (zwU x y z (h.2.resolve_left (by simp)) (k.2.resolve_left (by simp)))
  ·exact .inl e
theorem zxY:∀ x y:List UInt8,Op.bytesLess x y=false->Op.bytesLess y x=false->x=y
 | [],[],_,_=>rfl
 | [],_::_,h,_=>by simp [Op.bytesLess] at h
 | _::_,[],_,h=>by simp [Op.bytesLess] at h
 | a::x,b::y,h,k=>by
  simp only [Op.bytesLess,xbd,xb0,decide_eq_false_iff_not,beq_eq_false_iff_ne,UInt8.lt_iff_toNat_lt] at h k;have e2:a=b:=UInt8.toNat_inj.1 (by omega)
  subst e2;rw [zxY x y (h.2.resolve_left (by simp)) (k.2.resolve_left (by simp))]
def ba_eq {x y:ByteArray} (h:x.toList=y.toList):x=y:=by
 have:=zb6 x y;rw [h,beq_self_eq_true] at this;exact of_decide_eq_true this.symm
def znS {x y:ByteArray} (h:Op.bytesLess x.toList y.toList=false) (k:Op.bytesLess y.toList x.toList=false):x=y:=ba_eq (zxY _ _ h k)
def zeb:SW zdK where
 asym:=λa b h=>by
  unfold zdK at h ⊢
  by_cases h1:a.moment=b.moment
  ·rw [if_pos h1] at h;rw [if_pos h1.symm]
   by_cases h2:a.kind=b.kind
   ·rw [if_pos h2] at h;rw [if_pos h2.symm];exact zg1 _ _ h
   ·rw [if_neg h2] at h;rw [if_neg (Ne.symm h2)];exact zg1 _ _ h
  ·rw [if_neg h1] at h;rw [if_neg (Ne.symm h1)];simp only [decide_eq_true_eq,decide_eq_false_iff_not] at h ⊢;omega
 nt:=λa b c h k=>by
  have key:∀ x y:Mov,zdK x y=false->y.moment<=x.moment/\(x.moment=y.moment->Op.bytesLess x.kind.toList y.kind.toList=false/\(x.kind=y.kind->Op.bytesLess x.name.toList y.name.toList=false)):=λx y h=>by
   unfold zdK at h
   by_cases h1:x.moment=y.moment
   ·rw [if_pos h1] at h;refine ⟨by omega,λ_=>?_⟩
    by_cases h2:x.kind=y.kind
    ·rw [if_pos h2] at h;exact ⟨by rw [h2];exact zj9 _,λ_=>h⟩
    ·rw [if_neg h2] at h;exact ⟨h,λe=>absurd e h2⟩
   ·rw [if_neg h1] at h;simp only [decide_eq_false_iff_not] at h;exact ⟨by omega,λe=>absurd e h1⟩
  obtain ⟨a1,a2⟩:=key a b h;obtain ⟨b1,b2⟩:=key b c k;unfold zdK
  by_cases h1:a.moment=c.moment
  ·rw [if_pos h1];obtain ⟨a3,a4⟩:=a2 (by omega)
   obtain ⟨b3,b4⟩:=b2 (by omega)
   by_cases h2:a.kind=c.kind
   ·rw [if_pos h2];have e:a.kind=b.kind:=znS a3 (by rw [h2];exact b3)
    exact zwU _ _ _ (a4 e) (b4 (e.symm.trans h2))
   ·rw [if_neg h2];exact zwU _ _ _ a3 b3
  ·rw [if_neg h1];simp only [decide_eq_false_iff_not];omega
section
variable {f:Nat} {c:Mov->Mov->Int}
def zw5 (hf:∀ a b:Mov,Pure prog f [a.pv,b.pv] (.i .i64 (c a b))) (hs:SW (bfC c)) (L:List Mov) (hn:L.length≤1000000):Acts prog 241 [.row 900 L.length,.p (.i .i64 L.length),.p (.fn (.func f) [] [])] [(900,.row 120 7 (L.map Mov.pv) false)] (.p (.tup [])) [(900,.row 120 7 ((zas c L).map Mov.pv) false)]:=by
 obtain ⟨N,hN⟩:∃ N,L.length=N:=⟨_,rfl⟩
 rw [hN] at hn
 have hsl:=(zaq c L).trans hN
 refine zF (cF func241 f241.eq_1) (by simp) (by simp [scPs,scP,zp]) (by simp [scObj]) ⟨rfl,trivial⟩ (by simp [scObj]) (by simp [zb1,zp,zaq]) fun X hX=>?_
 rw [hN]
 unfold zA ghO
 have qe:=aI qR @gLV.eq_2;repeat' first|refine gC ?_ ?_<;>intro hc<;>try contradiction|refine gG ?_|show AK _;intro J Z|refine gJ ?_|omega|exact aT
 refine zh (κ:=List Mov × List Mov) (fun k=>⟨[(0,.row 900 N),(1,.p (.i .i64 N)),(2,.p (.fn (.func f) [] [])),(6,.p (.i .i64 20)),(7,.p (.i .i64 (k.1.length:Nat))),(8,.p (.i .i64 (k.1.length+20:Nat))),(1000900,.row 900 N)],[(900,.row 120 7 ((k.1++k.2).map Mov.pv) false)],[],false⟩)
  (fun k=>k.1.length+k.2.length=N∧k.1++Wd c 20 k.2=Wd c 20 L) (fun k=>k.2.length) ([],L) ?_ ?_ ?_
 ·simp only [qS,Nat.reduceAdd,Nat.reduceMul,Nat.reduceEqDiff,Nat.reduceLeDiff,reduceIte,reduceCtorEq,Nat.reduceBEq,Nat.reduceLT,gLV.eq_2]<;>simp [hN]
 ·exact ⟨by simpa using hN,by simp⟩
 ·intro k hk
  obtain ⟨Pd,R⟩:=k
  simp only at hk
  obtain ⟨k1,k2⟩:=hk
  have hPR:(Pd++R).length=N:=by rw [xad];exact k1
  by_cases h20:20≤R.length
  ·have hge:(((Pd.length+20:Nat):Int)≤N)=True:=eq_true (by omega)
   have hl:(zas c (R.take 20)).length=20:=by rw [zaq,xaj];omega
   have qe:=aI qR (aI @qN (aI @hge (aI @hPR (aI @rtN @rtR))));repeat' first|refine gC ?_ ?_<;>intro hc<;>try contradiction|refine zo [] (zn1 hf (D':=(Pd++zas c (R.take 20))++R.drop 20) Pd (R.take 20) (R.drop 20) hPR (by rw [xao]) (by rw [xau]) (Pd.length:Nat) (Pd.length+20:Nat) rfl (by rw [xaj];omega) hn) ?_|refine gG ?_|show AK _;intro J Z|refine gJ ?_|omega|exact aT
   refine ⟨(Pd++zas c (R.take 20),R.drop 20),⟨?_,?_⟩,?_,?_⟩
   ·simp only [xad,hl,xay];omega
   ·simp only;rw [←k2,zfa (by decide) h20,xau]
   ·simp only [xay];omega
   ·refine ⟨⟨?_,?_⟩,rfl,?_⟩
    ·simp only [LV.p.injEq,PV.i.injEq,true_and,xad,hl]
    ·simp only [LV.p.injEq,PV.i.injEq,true_and,xad,hl];omega
    ·simp only [xad,hl,xay];omega
  ·have hge:(((Pd.length+20:Nat):Int)≤N)=False:=eq_false (by omega)
   have hW:Wd c 20 L=Pd++zas c R:=by rw [←k2,zb7 (by omega)]
   have qe:=aI qR (aI @qN (aI @hge (aI @hPR (aI @rtN @rtR))));repeat' first|refine gC ?_ ?_<;>intro hc<;>try contradiction|refine zo [] (zn1 hf (D':=Wd c 20 L) Pd R [] hPR (by simp) (by rw [hW];simp) (Pd.length:Nat) (N:Nat) rfl (by omega) hn) ?_|refine gG ?_|show AK _;intro J Z|refine gJ ?_|omega|exact aT
   refine zh (κ:=Nat) (fun w=>⟨[(0,.row 900 N),(1,.p (.i .i64 N)),(2,.p (.fn (.func f) [] [])),(6,.p (.i .i64 w)),(1000900,.row 900 N)],[(900,.row 120 7 ((Wd c w L).map Mov.pv) false)],[],false⟩) (fun w=>20≤w∧w≤2000000) (fun w=>N - w) 20 ?_ ?_ ?_
   ·refine gJ ?_;simp [zia,hN]
   ·omega
   ·intro w hw
    have hWl:=zia (c:=c) (w:=w) (by omega) L
    rw [hN] at hWl
    by_cases hwn:w < N
    ·have hwn':((w:Int) < N)=True:=eq_true (by omega)
     have qe:=aI qR (aI @hwn' (aI @hWl (aI @rtN @rtR)));repeat' first|refine gC ?_ ?_<;>intro hc<;>try contradiction|refine gG ?_|show AK _;intro J Z|refine gJ ?_|omega|exact aT
     refine zh (κ:=List Mov × List Mov) (fun k=>⟨[(0,.row 900 N),(1,.p (.i .i64 N)),(2,.p (.fn (.func f) [] [])),(6,.p (.i .i64 w)),(7,.p (.i .i64 (k.1.length:Nat))),(8,.p (.i .i64 (k.1.length+2*w:Nat))),(1000900,.row 900 N)],[(900,.row 120 7 ((k.1++Wd c w k.2).map Mov.pv) false)],[],false⟩)
      (fun k=>k.1.length+k.2.length=N∧k.1++Wd c (2*w) k.2=Wd c (2*w) L) (fun k=>k.2.length) ([],L) ?_ ?_ ?_
     ·refine gJ ?_;simp [hWl]
     ·exact ⟨by simpa using hN,by simp⟩
     ·intro k hk
      obtain ⟨Pd,R⟩:=k
      simp only at hk
      obtain ⟨k1,k2⟩:=hk
      have hRl:=zia (c:=c) (w:=w) (by omega) R
      have hPR:(Pd++Wd c w R).length=N:=by rw [xad,hRl];exact k1
      by_cases h2:2*w≤R.length
      ·have hge:(((Pd.length+2*w:Nat):Int)≤N)=True:=eq_true (by omega)
       have l1:(zas c (R.take w)).length=w:=by rw [zaq,xaj];omega
       have l2:(zas c ((R.drop w).take w)).length=w:=by rw [zaq,xaj,xay];omega
       have l3:(zas c (R.take (2*w))).length=2*w:=by rw [zaq,xaj];omega
       have e1:Wd c w R=zas c (R.take w)++(zas c ((R.drop w).take w)++Wd c w (R.drop (2*w))):=by
        rw [zfa (by omega) (by omega),zfa (R:=R.drop w) (by omega) (by rw [xay];omega),xbB,show w+w=2*w by omega]
       have e2:mrg (bfC c) (zas c (R.take w)) (zas c ((R.drop w).take w))=zas c (R.take (2*w)):=by
        have:=zmB hs (R.take (2*w)) w
        rw [List.take_take,xbu (by omega),List.drop_take,show 2*w - w=w by omega] at this
        exact this
       have qe:=aI qR (aI @qN (aI @hge (aI @hPR (aI @rtN @rtR))));repeat' first|refine gC ?_ ?_<;>intro hc<;>try contradiction|refine zo [] (ztg hf hs (w+w) (D':=(Pd++zas c (R.take (2*w)))++Wd c w (R.drop (2*w))) Pd (zas c (R.take w)) (zas c ((R.drop w).take w)) (Wd c w (R.drop (2*w))) hPR (by rw [e1]) (by rw [e2,xau]) (by rw [za0 hs];exact zbg hs _) (by rw [za0 hs];exact zbg hs _) (by omega) (by omega) (by omega) (Pd.length:Nat) (Pd.length+w) (Pd.length+2*w:Nat) rfl (by rw [l1];omega) (by rw [l1,l2];omega) hn) ?_|refine gG ?_|show AK _;intro J Z|refine gJ ?_|omega|exact aT
       refine ⟨(Pd++zas c (R.take (2*w)),R.drop (2*w)),⟨?_,?_⟩,?_,?_⟩
       ·simp only [xad,l3,xay];omega
       ·simp only;rw [←k2,zfa (by omega) h2,xau]
       ·simp only [xay];omega
       ·refine ⟨⟨?_,?_⟩,rfl,?_⟩
        ·simp only [LV.p.injEq,PV.i.injEq,true_and,xad,l3]
        ·simp only [LV.p.injEq,PV.i.injEq,true_and,xad,l3];omega
        ·simp only [xad,l3];rw [zia (by omega),xay];omega
      ·have hge:(((Pd.length+2*w:Nat):Int)≤N)=False:=eq_false (by omega)
       have hW2:Wd c (2*w) L=Pd++zas c R:=by rw [←k2,zb7 (by omega)]
       by_cases h3:w < R.length
       ·have hlt:(((Pd.length:Nat):Int)+(w:Nat) < N)=True:=eq_true (by omega)
        have l1:(zas c (R.take w)).length=w:=by rw [zaq,xaj];omega
        have l2:(zas c (R.drop w)).length=R.length - w:=by rw [zaq,xay]
        have e1:Wd c w R=zas c (R.take w)++zas c (R.drop w):=by
         rw [zfa (by omega) (by omega),zb7 (R:=R.drop w) (by rw [xay];omega)]
        have qe:=aI qR (aI @qN (aI @hge (aI @hlt (aI @hPR (aI @rtN @rtR)))));repeat' first|refine gC ?_ ?_<;>intro hc<;>try contradiction|refine zo [] (ztg hf hs (w+(R.length - w)) (D':=Wd c (2*w) L) Pd (zas c (R.take w)) (zas c (R.drop w)) [] hPR (by rw [e1];simp) (by rw [hW2,zmB hs];simp) (by rw [za0 hs];exact zbg hs _) (by rw [za0 hs];exact zbg hs _) (by omega) (by omega) (by omega) (Pd.length:Nat) (Pd.length+w) (N:Nat) rfl (by rw [l1];omega) (by rw [l1,l2];omega) hn) ?_|refine gG ?_|show AK _;intro J Z|refine gJ ?_|omega|exact aT
        exact ⟨2*w,by omega,by omega,by simp only [LV.p.injEq,PV.i.injEq,true_and];omega,rfl,by rw [zia (by omega)];omega⟩
       ·have hlt:(((Pd.length:Nat):Int)+(w:Nat) < N)=False:=eq_false (by omega)
        have e1:Pd++Wd c w R=Wd c (2*w) L:=by rw [hW2,zb7 (by omega)]
        rw [e1]
        have qe:=aI qR (aI @qN (aI @hge (aI @hlt (aI @hPR (aI @rtN @rtR)))));repeat' first|refine gC ?_ ?_<;>intro hc<;>try contradiction|refine gG ?_|show AK _;intro J Z|refine gJ ?_|omega|exact aT
        exact ⟨2*w,by omega,by omega,by simp only [LV.p.injEq,PV.i.injEq,true_and];omega,rfl,by rw [zia (by omega)];omega⟩
    ·have hwn':((w:Int) < N)=False:=eq_false (by omega)
     have e:Wd c w L=zas c L:=zb7 (by omega)
     have qe:=aI qR (aI @hwn' (aI @hWl (aI @rtN @rtR)));repeat' first|refine gC ?_ ?_<;>intro hc<;>try contradiction|refine gG ?_|show AK _;intro J Z|refine gJ ?_|omega|exact aT
     rw [e]
     exact .inl (.mk0 (h2:=by simp only [qS,Nat.reduceAdd,Nat.reduceMul,Nat.reduceEqDiff,Nat.reduceLeDiff,reduceIte,reduceCtorEq,Nat.reduceBEq,Nat.reduceLT,keepG.eq_1,keepG.eq_2,gLV.eq_2]<;>simp [hN]))
def zxg (hf:∀ a b:Mov,Pure prog f [a.pv,b.pv] (.i .i64 (c a b))) (hs:SW (bfC c)) (L:List Mov) (hn:L.length<=1000000):Acts prog 203 [.row 900 L.length,.p (.fn (.func f) [] [])] [(900,.row 120 7 (L.map Mov.pv) false)] (.p (.tup [])) [(900,.row 120 7 ((zas c L).map Mov.pv) false)]:=by
 have hsl:=zaq c L;refine zF (cF func203 f203.eq_1) (by simp) (by simp [scPs,scP,zp]) (by simp [scObj]) ⟨rfl,trivial⟩ (by simp [scObj]) (by simp [zb1,zp,zaq]) λX hX=>?_
 unfold zA ghO;have qe:=aI qR (aI @qN (aI @gLV.eq_2 (aI @rtN @rtR)));repeat' first|refine gC ?_ ?_<;>intro hc<;>try contradiction|refine zo [] (zw5 hf hs L hn) ?_|refine gG ?_|show AK _;intro J Z|refine gJ ?_|omega|exact aT
 exact .inl (.mk0 (h2:=by simp only [qS,seval,keepG.eq_1,keepG.eq_2,gLV.eq_2]<;>simp))
end
def zzc (a b:List Mov):Pure prog 161 [.sl 7 (a.map Mov.pv),.sl 7 (b.map Mov.pv)] (.tup [.sl 7 ((mgR a b).map Mov.pv),.i .i64 (mgE a b)]):=by
 refine pz func161 f161.eq_1 λhw X hX=>?_
 have he:(if decide (30000 < (a.length:Int)+b.length)=true then (5:Int) else 0)=(if 30000 < (a.length:Int)+b.length then 5 else 0):=by simp
 have hA:=λl=>eq_true (zEa l)
 by_cases h0:mgE a b=0
 ·have h0':=eq_true h0;have hl:a.length+b.length<=1000000:=by
   have h1:=(zaJ (ze.1 h0).1).1;have h2:=(zaJ (ze.1 (ze.1 h0).2).1).1
   omega
  have hlen:(a++b).length=a.length+b.length:=xad;have h113:Acts prog 203 [.row 900 (a.length+b.length),.p (.fn (.func 204) [] [])] [(900,.row 120 7 (a.map Mov.pv++b.map Mov.pv) false)] (.p (.tup [])) [(900,.row 120 7 ((zbX zdK a b).map Mov.pv) false)]:=by
   have:=zxg zzr (by rw [znL];exact zeb) (a++b) (by omega)
   rw [hlen,xaZ,zoa] at this;exact this
  have hml:(zbX zdK a b).length=a.length+b.length:=by rw [(zhK zdK a b).length_eq,hlen]
  have h0b:(zf [zR a,zR b,if 30000 < (a.length:Int)+b.length then 5 else 0]=0)=True:=h0'
  have qe:=aI qR (aI @qN (aI @hA (aI @he (aI @hml @h0b))));repeat' first|refine gC ?_ ?_<;>intro hc<;>try contradiction|refine za (zjT a) ?_|refine za (zjT b) ?_|refine za (zcg _ _) ?_|refine za (zch [_,_,_]) ?_|refine zo [(5,25)] (zA9 a (by omega)) ?_|refine zo [(900,25)] (h113) ?_|refine gG ?_|show AK _;intro J Z|refine gJ ?_|omega|exact aT
  all_goals first|(rw [mgR,if_pos h0,h0];exact .refl _)
 ·have h0':=eq_false h0;have key:zf [zR a,zR b,if 30000 < IntKind.i64.wrap ((a.length:Int)+b.length) then 5 else 0]=mgE a b:=by
   by_cases h1:zR a=0
   ·by_cases h2:zR b=0
    ·rw [zjy (by have:=(zaJ h1).1;omega) (by have:=(zaJ h1).1;have:=(zaJ h2).1;omega)];rfl
    ·simp [mgE,zf,h1,h2]
   ·simp [mgE,zf,h1]
  have qe:=aI qR @he;repeat' first|refine gC ?_ ?_<;>intro hc<;>try contradiction|refine za (zjT a) ?_|refine za (zjT b) ?_|refine za (zcg _ _) ?_|refine za (zch [_,_,_]) ?_|refine gG ?_|show AK _;intro J Z|refine gJ ?_|omega|exact aT
  all_goals first|(rw [key] at hc;exact absurd hc h0)|(rw [key,mgR,if_neg h0];exact zk5 (.nilsl _) (.refl _))
def rqI (L:List Req) (but:Int) (i:Nat):List Req:=match L[i]? with|some r=>if (i:Int)=but then [] else [r]|none=>[]
def rqK (L:List Req) (but:Int) (k:Nat):List Req:=(List.range k).flatMap (rqI L but)
def rqW (L:List Req) (but:Int):List Req:=rqK L but L.length
abbrev zBc (r:Req):List PV:=[r.pv]
def zv3 (L:List Slt) (W:List Wsh) (but:Int) (hn:L.length<=1000000):zx5 prog 198 [.ip (.agg [.sl 16 (L.map Slt.pv),.sl 14 (W.map Wsh.pv)]) 0,.ip (.i .i64 but) 0] ((rqW (L.map (·.req)) but).map zBc):=by
 refine zi5 (cF func198 f198.eq_1) (by simp) λhw X hX=>?_
 simp only [zbY]
 repeat' first|refine gC ?_ ?_<;>intro hc<;>try contradiction|refine gG ?_|show AK _;intro J Z|refine gJ ?_|omega|exact aT
 refine zh (κ:=Nat) (λk=>⟨[(0,.yield),(1,.p (.ip (.agg [.sl 16 (L.map Slt.pv),.sl 14 (W.map Wsh.pv)]) 0)),(2,.p (.ip (.i .i64 but) 0)),(7,.p (.sl 16 (L.map Slt.pv))),(8,.p (.i .i64 L.length)),(9,.p (.i .i64 k))],[],(rqK (L.map (·.req)) but k).map zBc,false⟩) (λk=>k<=L.length) (λk=>L.length - k) 0 ?_ ?_ ?_
 ·refine gJ ?_;simp [rqK]
 ·simp
 ·intro k hk
  repeat first|refine gG ?_|show AK _;intro J Z|refine gJ ?_|omega|exact aT
  (refine gC ?_ ?_<;>intro hc<;>try contradiction)
  ·obtain ⟨s,hx⟩:=zk (i:=k) (l:=L) (by omega)
   have hs:=zd0 (rqI (L.map (·.req)) but) (show k < (L.map (·.req)).length by simp;omega)
   by_cases hb:(k:Int)=but
   ·have hi:rqI (L.map (·.req)) but k=[]:=by rw [rqI,xai,hx];exact if_pos hb
    have hb':((k:Int)=but)=True:=eq_true hb;have qe:=aI qR (aI @hx (aI @hb' (aI @decide_true @xbg)));repeat' first|refine gC ?_ ?_<;>intro hc<;>try contradiction|(show zj _ _ _ _ (⟨_,.callv,_,_,_⟩::_) _ _;refine zcf (q:=(.b false)) (by first|rfl|(simp (disch:=omega) only [qG,qe,seval]<;>rfl)) ?_;(try (refine zB ?_)))|refine gG ?_|show AK _;intro J Z|refine gJ ?_|omega|exact aT
    exact ⟨k+1,by omega,by omega,by simp,by rw [rqK,z8,hi,xat,<-rqK]⟩
   ·have hi:rqI (L.map (·.req)) but k=[s.req]:=by rw [rqI,xai,hx];exact if_neg hb
    have hb':((k:Int)=but)=False:=eq_false hb;have hs':(rqW (L.map (·.req)) but).map zBc=(rqK (L.map (·.req)) but k).map zBc++zBc s.req::((List.range' (k+1) ((L.map (·.req)).length - (k+1))).flatMap (rqI (L.map (·.req)) but)).map zBc:=by
     rw [rqW,rqK,hs,hi];simp [rqK]
    have qe:=aI qR (aI @hx (aI @hb' (aI @decide_false @xbK)));repeat' first|refine gC ?_ ?_<;>intro hc<;>try contradiction|(show zj _ _ _ _ (⟨_,.callv,_,_,_⟩::_) _ _;refine zin (by first|rfl|(simp (disch:=omega) only [qG,qe,seval]<;>rfl)) (by simp (disch:=omega) only [qS,qe,seval]) (by simp (disch:=omega) only [qS,qe,seval]<;>rfl) (by simp (disch:=omega) only [qS,qe,seval];try trivial) rfl _ (hs') ?_;intro b;(refine zB ?_))|refine gG ?_|show AK _;intro J Z|refine gJ ?_|omega|exact aT
    ·subst hc;exact .inl rfl
    ·subst hc;exact ⟨k+1,by omega,by omega,by simp,by rw [rqK,z8,hi,<-rqK];simp,rfl⟩
  ·repeat' first|refine gC ?_ ?_<;>intro hc<;>try contradiction|refine gG ?_|show AK _;intro J Z|refine gJ ?_|omega|exact aT
   have e:k=L.length:=by omega
   subst e;exact .inr (by rw [rqW];simp)
def zvk (L:List Slt) (W:List Wsh) (but:Int):Pure prog 159 [.agg [.sl 16 (L.map Slt.pv),.sl 14 (W.map Wsh.pv)],.i .i64 but] (.fn (.func 198) [] [.ip (.agg [.sl 16 (L.map Slt.pv),.sl 14 (W.map Wsh.pv)]) 0,.ip (.i .i64 but) 0]):=by
 refine pz func159 f159.eq_1 λhw X hX=>?_
 exact gD0
def mvF (l:List Req):List Mov:=l.foldl (λout r=>mgR out (zzG r)) []
def znk {l:List Req} {k:Nat} {r:Req} (h:l[k]?=some r):mvF (l.take (k+1))=mgR (mvF (l.take k)) (zzG r):=by
 rw [zM h,mvF,xa4];rfl
def zm1 (L:List Slt) (W:List Wsh) (but:Int) (hn:L.length<=1000000):Pure prog 96 [.agg [.sl 16 (L.map Slt.pv),.sl 14 (W.map Wsh.pv)],.i .i64 but] (.sl 7 ((mvF (rqW (L.map (·.req)) but)).map Mov.pv)):=by
 refine pz func96 f96.eq_1 λhw X hX=>?_
 repeat' first|refine gC ?_ ?_<;>intro hc<;>try contradiction|refine za (zvk L W but) ?_|refine gG ?_|show AK _;intro J Z|refine gJ ?_|omega|exact aT
 refine zok 5 [.p .nilsl] [.p (.sl 7 ([]:List PV))] (sR) ⟨.inr ⟨7,rfl,rfl⟩,trivial⟩ ?_;refine zeh rfl (zv3 L W but hn) ?_ ?_ [(2,.lp 2 0),(5,.lp 5 0)] (λk=>[(2,.box [.p (.sl 16 (L.map Slt.pv)),.p (.sl 14 (W.map Wsh.pv))] false),(5,.box [.p (.sl 7 ((mvF ((rqW (L.map (·.req)) but).take k)).map Mov.pv))] false)]) (λ_=>[]) ?_ ?_ ?_
 ·simp
 ·simp [hX]
 ·simp only [St.wr,oset.eq_1,oset.eq_2,qS,seval]<;>rfl
 ·intro k t ht X' ro' hX';simp only [xai,xac] at ht;obtain ⟨r,hr,rfl⟩:=ht;have hnx:=znk hr;simp only [qS,seval]
  repeat' first|refine gC ?_ ?_<;>intro hc<;>try contradiction|refine gG ?_|show AK _;intro J Z|refine gJ ?_|omega|exact aT
  intro X1 hX1;have qe:=@qR;repeat' first|refine gC ?_ ?_<;>intro hc<;>try contradiction|refine za (zCq r) ?_|refine za (zzc (mvF ((rqW (L.map (·.req)) but).take k)) (zzG r)) ?_|refine gG ?_|show AK _;intro J Z|refine gJ ?_|omega|exact aT
  rw [hnx]
 ·simp only [xaf];have qe:=@List.take_length.{0};exact gD0
def zvl (l:List Lim) (m:List Mov) (r:Req):Pure prog 116 [.sl 11 (l.map Lim.pv),.sl 7 (m.map Mov.pv),r.pv] (.b (zo4 l m r)):=by
 refine pz func116 f116.eq_1 λhw X hX=>?_
 repeat' first|refine gC ?_ ?_<;>intro hc<;>try contradiction|refine za (zCm l m r) ?_|refine gG ?_|show AK _;intro J Z|refine gJ ?_|omega|exact aT
 have e:(decide (fitC l m r=0) && zo4 l m r)=zo4 l m r:=by
  rw [zo4,<-Bool.and_assoc,Bool.and_self]
 rw [e];exact .refl _
def mvE (b:Bk):List Mov:=if zu b=0 then mvF (rqW (b.slots.map (·.req)) (-1)) else []
def zgX {b:Bk} (h:zu b=0):b.slots.length<=64/\b.wait.length<=64:=by
 have h1:=fE0 h _ (xar);have h2:=fE0 h (if 64 < (b.wait.length:Int) then 5 else 0) (by simp)
 constructor
 ·by_cases hh:64 < (b.slots.length:Int)
  ·rw [if_pos hh] at h1;omega
  ·omega
 ·by_cases hh:64 < (b.wait.length:Int)
  ·rw [if_pos hh] at h2;omega
  ·omega
def zvv (b:Bk):Pure prog 49 [b.pv] (.tup [.sl 7 ((mvE b).map Mov.pv),.i .i64 (zu b)]):=by
 refine pz func49 f49.eq_1 λhw X hX=>?_
 repeat' first|refine gC ?_ ?_<;>intro hc<;>try contradiction|refine za (zaM b) ?_|refine gG ?_|show AK _;intro J Z|refine gJ ?_|omega|exact aT
 ·rw [mvE,if_neg hc];exact zk5 (.nilsl _) (.refl _)
 ·have hl:=zgX hc
  repeat' first|refine gC ?_ ?_<;>intro hc<;>try contradiction|refine za (zm1 b.slots b.wait (-1) (by omega)) ?_|refine gG ?_|show AK _;intro J Z|refine gJ ?_|omega|exact aT
  rw [mvE,if_pos hc,hc];exact .refl _
def zeK (l:List Slt):(l.map Slt.raw).map (·.req.name)=l.map (·.req.name):=by rw [xbS];rfl
def hldE (b:Bk) (n:ByteArray):Int:=zf [zu b,if atL n (b.slots.map (·.req.name)) < 0 then 10 else 0]
def zcO (b:Bk) (n:ByteArray):Pure prog 31 [.agg [.sl 16 (b.slots.map Slt.pv),.sl 14 (b.wait.map Wsh.pv)],.s n] (.i .i64 (atL n (b.slots.map (·.req.name)))):=by
 have h:=zfF (b.slots.map Slt.raw) b.wait n;rw [<-zik,zeK] at h;exact h
def zaZ (b:Bk) (n:ByteArray):Pure prog 29 [.agg [.sl 16 (b.slots.map Slt.pv),.sl 14 (b.wait.map Wsh.pv)],.s n] (.i .i64 (if atL n (b.slots.map (·.req.name)) < 0 then 10 else 0)):=by
 have h:=zvs (b.slots.map Slt.raw) b.wait n;rw [<-zik,zeK] at h;exact h
def zfE (s:Slt) (d:Int):Pure prog 33 [s.pv,.i .i64 d] (.i .i64 (zct (λl=>decide (l.fro<=d) && decide (d<=l.to)) s.ls)):=by
 refine pz func33 f33.eq_1 λhw X hX=>?_
 simp only [wfs,PV.wf,xaf,maxLen] at hw
 repeat' first|refine gC ?_ ?_<;>intro hc<;>try contradiction|refine gG ?_|show AK _;intro J Z|refine gJ ?_|omega|exact aT
 refine zh (κ:=Nat) (λi=>⟨[(1,.p (.i .i64 d)),(2,.lp 2 0),(5,.p (.i .i64 (-1))),(9,.p (.sl 3 (s.ls.map Lea.pv))),(10,.p (.i .i64 s.ls.length)),(11,.p (.i .i64 i))],[(2,.box (s.cells.map .p) false)],[],false⟩) (λi=>i<=s.ls.length/\∀ y ∈ s.ls.take i,(decide (y.fro<=d) && decide (d<=y.to))=false) (λi=>s.ls.length - i) 0 ?_ ?_ ?_
 ·exact sR
 ·simp
 ·intro i hi
  repeat first|refine gG ?_|show AK _;intro J Z|refine gJ ?_|omega|exact aT
  (refine gC ?_ ?_<;>intro hc<;>try contradiction)
  ·obtain ⟨y,hy⟩:=zk (i:=i) (l:=s.ls) (by omega)
   have qe:=aI qR @hy;repeat' first|refine gC ?_ ?_<;>intro hc<;>try contradiction|refine za (zvf y d) ?_|refine gG ?_|show AK _;intro J Z|refine gJ ?_|omega|exact aT
   ·rw [zaX hi.2 hy (by simpa using hc)];exact .refl _
   ·exact ⟨i+1,⟨by omega,zdU hi.2 hy (by simpa using hc)⟩,by omega,by simp⟩
  ·repeat' first|refine gC ?_ ?_<;>intro hc<;>try contradiction|refine gG ?_|show AK _;intro J Z|refine gJ ?_|omega|exact aT
   rw [zbJ (λy hy=>hi.2 y (by rw [xal (by omega)];exact hy))];exact .refl _
theorem zeD (n:ByteArray):∀ l,atL n l < l.length
 | []=>by simp [atL]
 | x::r=>by have:=zeD n r;simp only [atL,xaK];(repeat' split)<;>omega
def zdW {b:Bk} {n:ByteArray} (h:¬atL n (b.slots.map (·.req.name)) < 0):∃ s,b.slots[(atL n (b.slots.map (·.req.name))).toNat]?=some s:=by
 have:=zeD n (b.slots.map (·.req.name));rw [xaf] at this;exact ⟨_,xab (by omega)⟩
def zl (b:Bk) (n:ByteArray):Slt:=(b.slots[(atL n (b.slots.map (·.req.name))).toNat]?).getD ⟨⟨s0,s0,s0,s0,s0,s0,⟨0,0,0⟩,0,0,0,0⟩,s0,[],[]⟩
def holR (b:Bk) (n:ByteArray):ByteArray:=if hldE b n=0 then (zl b n).holder else s0
def pure1083 (b:Bk) (n:ByteArray):Pure prog 18 [b.pv,.s n] (.tup [.s (holR b n),.i .i64 (hldE b n)]):=by
 refine pz func18 f18.eq_1 λhw X hX=>?_
 simp only [wfs,PV.wf,xaf,maxLen] at hw;have qe:=@qR;repeat' first|refine gC ?_ ?_<;>intro hc<;>try contradiction|refine za (zaM b) ?_|refine za (zaZ b n) ?_|refine za (zO [_,_]) ?_|refine gG ?_|show AK _;intro J Z|refine gJ ?_|omega|exact aT
 ·have h:¬hldE b n=0:=hc;rw [holR,if_neg h];exact .refl _
 ·have h:hldE b n=0:=hc;have hu:=fE0 hc (if atL n (b.slots.map (·.req.name)) < 0 then 10 else 0) (by simp)
  have hu':¬atL n (b.slots.map (·.req.name)) < 0:=λe=>by rw [if_pos e] at hu;omega
  obtain ⟨s,hs⟩:=zdW hu';have hlt:=zeD n (b.slots.map (·.req.name));rw [xaf] at hlt;have qe:=aI qR @hs;repeat' first|refine gC ?_ ?_<;>intro hc<;>try contradiction|refine za (zcO b n) ?_|refine gG ?_|show AK _;intro J Z|refine gJ ?_|omega|exact aT
  rw [holR,if_pos h,h,zl,hs];exact .refl _
def zCV (s:Slt) (d:Int):Int:=zct (λl=>decide (l.fro<=d) && decide (d<=l.to)) s.ls
theorem zlY {α:Type} (p:α->Bool):∀ l,zct p l < l.length
 | []=>by simp [zct]
 | x::r=>by have:=zlY p r;simp only [zct,xaK];(repeat' split)<;>omega
def zBg (b:Bk) (n:ByteArray) (d:Int):Int:=zf [zu b,if atL n (b.slots.map (·.req.name)) < 0 then 10 else 0,rng d 0 99999]
def zrv (s:Slt) (d:Int):Int:=if zsa s.req.per d=0/\zpN s.req.per d=true then 0 else 30
def zvH (s:Slt) (d:Int):ByteArray:=if zCV s d < 0 then s.holder else ((s.ls[(zCV s d).toNat]?).map Lea.carrier).getD s0
def zpJ (b:Bk) (n:ByteArray) (d:Int):Int:=zf [zBg b n d,zrv (zl b n) d]
def zkZ (b:Bk) (n:ByteArray) (d:Int):ByteArray:=if zpJ b n d=0 then zvH (zl b n) d else s0
def zvx (b:Bk) (n:ByteArray) (d:Int):Pure prog 9 [b.pv,.s n,.i .i64 d] (.tup [.s (zkZ b n d),.i .i64 (zpJ b n d)]):=by
 refine pz func9 f9.eq_1 λhw X hX=>?_
 simp only [wfs,PV.wf,xaf,maxLen] at hw;have qe:=@qR;repeat' first|refine gC ?_ ?_<;>intro hc<;>try contradiction|refine za (zaM b) ?_|refine za (zaZ b n) ?_|refine za (zcC d) ?_|refine za (zO [_,_,_]) ?_|refine gG ?_|show AK _;intro J Z|refine gJ ?_|omega|exact aT
 ·have h:¬zBg b n d=0:=hc;have h':zpJ b n d=zBg b n d:=by rw [zpJ,zE h]
  have e1:zkZ b n d=s0:=by rw [zkZ,if_neg (λe=>h (h'.symm.trans e))]
  rw [e1,h'];exact .refl _
 ·have h:zBg b n d=0:=hc;have hu:=fE0 hc (if atL n (b.slots.map (·.req.name)) < 0 then 10 else 0) (by simp)
  have hu':¬atL n (b.slots.map (·.req.name)) < 0:=λe=>by rw [if_pos e] at hu;omega
  obtain ⟨s,hs⟩:=zdW hu';have hlt:=zeD n (b.slots.map (·.req.name));rw [xaf] at hlt;have hso:zl b n=s:=by rw [zl,hs];rfl
  have hC:zpJ b n d=zrv s d:=by rw [zpJ,zt h,z9,hso]
  have hlL:zct (λl=>decide (l.fro<=d) && decide (d<=l.to)) s.ls < s.ls.length:=zlY _ _
  by_cases hle:zCV s d < 0
  ·have hle':zct (λl=>decide (l.fro<=d) && decide (d<=l.to)) s.ls < 0:=hle
   have qe:=aI qR @hs;repeat' first|refine gC ?_ ?_<;>intro hc<;>try contradiction|refine za (zcO b n) ?_|refine za (zly s.req.per d) ?_|refine za (zfE s d) ?_|refine gG ?_|show AK _;intro J Z|refine gJ ?_|omega|exact aT
   ·have hx:zrv s d=30:=by rw [zrv,if_neg (λe=>hc.elim (λf=>f e.1) (λf=>by rw [e.2] at f;cases f))]
    have e1:zkZ b n d=s0:=by rw [zkZ,hC,hx];rfl
    rw [e1,hC,hx];exact .refl _
   ·have hx:zrv s d=0:=by rw [zrv,if_pos (by assumption)]
    have e1:zkZ b n d=s.holder:=by rw [zkZ,hC,hx,if_pos rfl,hso,zvH,if_pos hle]
    rw [e1,hC,hx];exact .refl _
  ·obtain ⟨y,hy⟩:∃ y,s.ls[(zct (λl=>decide (l.fro<=d) && decide (d<=l.to)) s.ls).toNat]?=some y:=⟨_,xab (by have:¬zct (λl=>decide (l.fro<=d) && decide (d<=l.to)) s.ls < 0:=hle;omega)⟩
   have hle':¬zct (λl=>decide (l.fro<=d) && decide (d<=l.to)) s.ls < 0:=hle
   have qe:=aI qR (aI @hs @hy);repeat' first|refine gC ?_ ?_<;>intro hc<;>try contradiction|refine za (zcO b n) ?_|refine za (zly s.req.per d) ?_|refine za (zfE s d) ?_|refine gG ?_|show AK _;intro J Z|refine gJ ?_|omega|exact aT
   ·have hx:zrv s d=30:=by rw [zrv,if_neg (λe=>hc.elim (λf=>f e.1) (λf=>by rw [e.2] at f;cases f))]
    have e1:zkZ b n d=s0:=by rw [zkZ,hC,hx];rfl
    rw [e1,hC,hx];exact .refl _
   ·have hx:zrv s d=0:=by rw [zrv,if_pos (by assumption)]
    have e1:zkZ b n d=y.carrier:=by rw [zkZ,hC,hx,if_pos rfl,hso,zvH,if_neg hle,show zCV s d=zct (λl=>decide (l.fro<=d) && decide (d<=l.to)) s.ls from rfl,hy];rfl
    rw [e1,hC,hx];exact .refl _
def zA5 (l:List Lea):l.all ((λx=>x.cells.all PV.one) ∘ Lea.pv)=true:=by rw [xaD];intro x _;rfl
def zD9 (l:List ByteArray):l.all ((λx=>x.cells.all PV.one) ∘ PV.s)=true:=by rw [xaD];intro x _;rfl
def zn3 (L:List Lea) (hn:L.length*32<=140737488355328):Acts prog 177 [.p (.sl 3 (L.map Lea.pv))] [] (.row 5 L.length) [(5,.row 86 3 (L.map Lea.pv) false)]:=by
 have hA:=λl=>eq_true (zA5 l)
 refine zF (cF func177 f177.eq_1) (by simp) (by simp [scPs,scP]) (by simp [scObj]) trivial (by simp [scObj]) trivial λX hX=>?_
 unfold zA ghO;have qe:=aI qR (aI @hA (aI @rtN @rtR));repeat' first|refine gC ?_ ?_<;>intro hc<;>try contradiction|refine zeR λb hb=>?_|refine gG ?_|show AK _;intro J Z|refine gJ ?_|omega|exact aT
 ·have e:L=[]:=by simpa using hb hc
  subst e;exact .inr ⟨5,86,3,[(2,.row 5 0)],[],by simp only [Own,zam,zaj,za8,zad,qS,seval],.mk1⟩
 ·exact .inl .mk1
def zn2 (L:List ByteArray) (hn:L.length*16<=140737488355328):Acts prog 178 [.p (.sl 1 (L.map .s))] [] (.row 5 L.length) [(5,.row 9 1 (L.map .s) false)]:=by
 have hA:=λl=>eq_true (zD9 l)
 refine zF (cF func178 f178.eq_1) (by simp) (by simp [scPs,scP]) (by simp [scObj]) trivial (by simp [scObj]) trivial λX hX=>?_
 unfold zA ghO;have qe:=aI qR (aI @hA (aI @rtN @rtR));repeat' first|refine gC ?_ ?_<;>intro hc<;>try contradiction|refine zeR λb hb=>?_|refine gG ?_|show AK _;intro J Z|refine gJ ?_|omega|exact aT
 ·have e:L=[]:=by simpa using hb hc
  subst e;exact .inr ⟨5,9,1,[(2,.row 5 0)],[],by simp only [Own,zam,zaj,za8,zad,qS,seval],.mk1⟩
 ·exact .inl .mk1
def zBj (d:Int) (l:Lea):Lea:=⟨l.carrier,l.fro,min l.to d⟩
def zhd (d:Int) (l:Lea):List Lea:=if l.to<=d\/l.fro<=min l.to d then [zBj d l] else []
def zdQ (d:Int) (L:List Lea):List Lea:=L.flatMap (zhd d)
def zsJ {d:Int} {L:List Lea} {k:Nat} {x:Lea} (h:L[k]?=some x):zdQ d (L.take (k+1))=zdQ d (L.take k)++zhd d x:=by
 rw [zM h,zdQ,xbc];simp [zdQ]
def zfR (d:Int) (L:List Lea):(zdQ d L).length<=L.length:=by
 induction L with
 | nil=>simp [zdQ]
 | cons x r ih=>
  have:(zhd d x).length<=1:=by unfold zhd;split<;>simp
  simp only [zdQ,xaH,xad,xaK] at ih ⊢;omega
def ziF (L:List Lea) (d:Int) (hn:L.length<=1000000):Pure prog 93 [.sl 3 (L.map Lea.pv),.i .i64 d] (.sl 3 ((zdQ d L).map Lea.pv)):=by
 refine pz func93 f93.eq_1 λhw X hX=>?_
 repeat' first|refine gC ?_ ?_<;>intro hc<;>try contradiction|refine gG ?_|show AK _;intro J Z|refine gJ ?_|omega|exact aT
 refine zaf 100 86 3 [(1,.p (.i .i64 d)),(5,.row 100 0),(9,.p (.sl 3 (L.map Lea.pv))),(10,.p (.i .i64 L.length)),(11,.p (.i .i64 0))] [] ?_ ?_
 ·simp only [Own,zam,zaj,za8,zad,qS,seval]
 refine zh (κ:=Nat) (λk=>⟨[(1,.p (.i .i64 d)),(5,.row 100 (zdQ d (L.take k)).length),(9,.p (.sl 3 (L.map Lea.pv))),(10,.p (.i .i64 L.length)),(11,.p (.i .i64 k))],[(100,.row 86 3 ((zdQ d (L.take k)).map Lea.pv) false)],[],false⟩) (λk=>k<=L.length) (λk=>L.length - k) 0 ?_ ?_ ?_
 ·refine gJ ?_;simp [zdQ]
 ·simp
 ·intro k hk;have hl:(zdQ d (L.take k)).length<=k:=by have:=zfR d (L.take k);rw [xaj] at this;omega
  repeat first|refine gG ?_|show AK _;intro J Z|refine gJ ?_|omega|exact aT
  (refine gC ?_ ?_<;>intro hc<;>try contradiction)
  ·obtain ⟨x,hx⟩:=zk (i:=k) (l:=L) (by omega)
   have hnx:=zsJ (d:=d) hx;have qe:=aI qR @hx;repeat' first|refine gC ?_ ?_<;>intro hc<;>try contradiction|refine gG ?_|show AK _;intro J Z|refine gJ ?_|omega|exact aT
   ·have hi:zhd d x=[zBj d x]:=by rw [zhd,if_pos (by omega)]
    rw [hi] at hnx;exact ⟨k+1,by omega,by omega,⟨by rw [hnx];simp,by simp⟩,by rw [hnx];simp [zBj]⟩
   ·have hi:zhd d x=[]:=by rw [zhd,if_neg (by omega)]
    rw [hi,xat] at hnx;exact ⟨k+1,by omega,by omega,⟨by rw [hnx],by simp⟩,by rw [hnx]⟩
  ·repeat' first|refine gC ?_ ?_<;>intro hc<;>try contradiction|refine gG ?_|show AK _;intro J Z|refine gJ ?_|omega|exact aT
   have e:k=L.length:=by omega
   subst e;rw [xaG];exact .refl _
def mvS (l:List Slt):List Mov:=l.foldl (λout s=>zbX zdK out (zaT s.req)) []
def zvP {l:List Slt} {k:Nat} {s:Slt} (h:l[k]?=some s):mvS (l.take (k+1))=zbX zdK (mvS (l.take k)) (zaT s.req):=by
 rw [zM h,mvS,xa4];rfl
def zd2 (b:Bk) (c n:ByteArray) (a:Int):Int:=zf [zy c,zdN b.slots n,a,if (zl b n).holder=c then 0 else 31]
def zk4 (s:Slt):Prop:=s.ls.length<=1000/\s.sh.length<=1000
def zaC (k n:Nat) (r:List LV):zft (.row k n::r)=none:=rfl
def ziC (s:Slt) (h:zk4 s):Pure prog 176 [s.pv] s.pv:=by
 obtain ⟨h1,h2⟩:=h;refine pz func176 f176.eq_1 λhw X hX=>?_
 have qe:=aI qR (aI @qN @zaC);repeat' first|refine gC ?_ ?_<;>intro hc<;>try contradiction|refine zo [(5,105)] (zn3 s.ls (by omega)) ?_|refine zo [(5,106)] (zn2 s.sh (by omega)) ?_|refine gG ?_|show AK _;intro J Z|refine gJ ?_|omega|exact aT
 exact .refl _
def zw9 (L:List Slt) (hs:∀ s ∈ L,zk4 s) (hn:L.length<=1000000):Acts prog 175 [.p (.sl 16 (L.map Slt.pv)),.p (.fn (.func 176) [] [])] [] (.row 100 L.length) [(100,.row 89 16 (L.map Slt.pv) false)]:=by
 refine zF (cF func175 f175.eq_1) (by simp) (by simp [scPs,scP]) (by simp [scObj]) trivial (by simp [scObj]) trivial λX hX=>?_
 unfold zA ghO;have qe:=aI qR (aI @List.map_nil.{0,0} @List.append_nil.{0});repeat' first|refine gC ?_ ?_<;>intro hc<;>try contradiction|refine gG ?_|show AK _;intro J Z|refine gJ ?_|omega|exact aT
 refine zaf 100 89 16 [(1,.p (.fn (.func 176) [] [])),(5,.row 100 0),(8,.p (.sl 16 (L.map Slt.pv))),(9,.p (.i .i64 L.length)),(10,.p (.i .i64 0))] [] ?_ ?_
 ·simp only [Own,zam,zaj,za8,zad,qS,seval]
 refine zh (κ:=Nat) (λk=>⟨[(1,.p (.fn (.func 176) [] [])),(5,.row 100 k),(8,.p (.sl 16 (L.map Slt.pv))),(9,.p (.i .i64 L.length)),(10,.p (.i .i64 k))],[(100,.row 89 16 ((L.take k).map Slt.pv) false)],[],false⟩) (λk=>k<=L.length) (λk=>L.length - k) 0 ?_ ?_ ?_
 ·exact sS
 ·simp
 ·intro k hk
  repeat first|refine gG ?_|show AK _;intro J Z|refine gJ ?_|omega|exact aT
  (refine gC ?_ ?_<;>intro hc<;>try contradiction)
  ·obtain ⟨x,hx⟩:=zk (i:=k) (l:=L) (by omega)
   have hl:(L.take k).length=k:=by rw [xaj];omega
   have qe:=aI qR (aI @hx @hl);repeat' first|refine gC ?_ ?_<;>intro hc<;>try contradiction|refine zn (ziC x (hs x (xae hx))) ?_|refine gG ?_|show AK _;intro J Z|refine gJ ?_|omega|exact aT
   exact ⟨k+1,by omega,by omega,by simp,by rw [zM hx];simp;omega⟩
  ·obtain rfl:k=L.length:=by omega
   have qe:=aI qR (aI @rtN (aI @rtR @List.take_length.{0}));repeat' first|refine gC ?_ ?_<;>intro hc<;>try contradiction|refine gG ?_|show AK _;intro J Z|refine gJ ?_|omega|exact aT
   exact .inl .mk1
def zD8 (l:List Wsh):l.all ((λx=>x.cells.all PV.one) ∘ Wsh.pv)=true:=by rw [xaD];intro x _;rfl
def zfX (L:List Slt) (W:List Wsh) (hs:∀ s ∈ L,zk4 s) (hn:L.length<=1000000) (hW:W.length<=1000000) :
  Acts prog 117 [.p (.agg [.sl 16 (L.map Slt.pv),.sl 14 (W.map Wsh.pv)])] [] (.agg [.row 100 L.length,.row 7 W.length]) [(100,.row 89 16 (L.map Slt.pv) false),(7,.row 92 14 (W.map Wsh.pv) false)]:=by
 have hA:=λl=>eq_true (zD8 l)
 have hT:List.take W.length (W.map Wsh.pv)=W.map Wsh.pv:=by rw [xal];simp
 have hD:∀ x:PV,List.drop W.length (List.replicate W.length x)=[]:=λx=>by simp
 refine zF (cF func117 f117.eq_1) (by simp) (by simp [scPs,scP]) (by simp [scObj]) trivial (by simp [scObj]) trivial λX hX=>?_
 unfold zA ghO;have qe:=aI qR (aI @hA (aI @hT (aI @hD (aI @Nat.min_self (aI @qN (aI @zaC (aI @rtN (aI @rtR (aI @List.map_nil.{0,0} @List.append_nil.{0})))))))));repeat' first|refine gC ?_ ?_<;>intro hc<;>try contradiction|refine zeS [(100,100)] (zw9 L hs hn) ?_|refine gG ?_|show AK _;intro J Z|refine gJ ?_|omega|exact aT
 refine zbQ 1 ?_;have qe:=@qR;repeat' first|refine gC ?_ ?_<;>intro hc<;>try contradiction|refine gG ?_|show AK _;intro J Z|refine gJ ?_|omega|exact aT
 refine zhu (us:=[.row 100 L.length,.row 7 W.length]) (zs:=[.row 100 L.length,.row 7 W.length]) (sE) (sE) (by simp only [fillLOk]<;>simp [LV.cells,LV.known,qS,seval]) rfl (zB ?_)
 have qe:=aI qR (aI @hT (aI @hD (aI @List.append_nil.{0} (aI @rtN (aI @rtR (aI @zaC (@List.length_map.{0,0})))))));repeat' first|refine gC ?_ ?_<;>intro hc<;>try contradiction|refine gG ?_|show AK _;intro J Z|refine gJ ?_|omega|exact aT
 exact .inl .mk
abbrev rawS (q:Req):PV:=.agg [.s q.name,.s q.carrier,.s q.kind,.s q.term,.s q.partner,.s q.link,.i .i64 q.per.fro,.i .i64 q.per.to,.i .i64 q.per.days,.i .i64 q.minute,.i .i64 q.seats,.i .i64 q.size,.i .i64 q.noise,.s q.carrier,.nilsl,.nilsl]
def newS (q:Req):Slt:=⟨q,q.carrier,[],[]⟩
def zyb (q:Req):Wks (rawS q).cells (newS q).pv.cells:=
 ⟨.refl _,.refl _,.refl _,.refl _,.refl _,.refl _,.refl _,.refl _,.refl _,.refl _,.refl _,.refl _,.refl _,.refl _,.nilsl _,.nilsl _,trivial⟩
def bk0:Bk:=⟨[],[]⟩
def zdL (e:Int):Wk (.tup [.agg [.nilsl,.nilsl],.i .i64 e]) (.tup [bk0.pv,.i .i64 e]):=.tup ⟨.agg ⟨.nilsl _,.nilsl _,trivial⟩,.refl _,trivial⟩
def zpW (b:Bk) (n:ByteArray):Pure prog 115 [.agg [.sl 16 (b.slots.map Slt.pv),.sl 14 (b.wait.map Wsh.pv)],.s n] (.b (zmw (b.slots.map (·.req.name)) (b.wait.map (·.req.name)) n)):=by
 have h:=zvm (b.slots.map Slt.raw) b.wait n;rw [<-zik,zeK] at h;exact h
structure zeG (b:Bk):Prop where
 s:∀ s ∈ b.slots,zk4 s
 n:b.slots.length<=1000
 w:b.wait.length<=1000
def tkE (b:Bk) (n:ByteArray):Int:=if zmw (b.slots.map (·.req.name)) (b.wait.map (·.req.name)) n=true then 9 else 0
def zr9 (b:Bk) (q:Req):Int:=zf [zfn q,tkE b q.name,if 64<=(b.slots.length:Int) then 5 else 0]
def movF (b:Bk) (but:Int):List Mov:=mvF (rqW (b.slots.map (·.req)) but)
def zfs (l:List Lim) (b:Bk) (q:Req):Int:=if zr9 b q=0 then (if zo4 l (movF b (-1)) q=true then 0 else 14) else zr9 b q
def zlZ (l:List Lim) (b:Bk) (q:Req):Bk:=if zfs l b q=0 then ⟨b.slots++[newS q],b.wait⟩ else bk0
def zvq (l:List Lim) (b:Bk) (q:Req) (hb:zeG b):Pure prog 60 [b.pv,.sl 11 (l.map Lim.pv),q.pv] (.tup [(zlZ l b q).pv,.i .i64 (zfs l b q)]):=by
 obtain ⟨hs,hn,hwl⟩:=hb;refine zb9 (r:=if zfs l b q=0 then .tup [.agg [.sl 16 (b.slots.map Slt.pv++[rawS q]),.sl 14 (b.wait.map Wsh.pv)],.i .i64 0] else .tup [.agg [.nilsl,.nilsl],.i .i64 (zfs l b q)]) ?_ ?_
 ·refine pz func60 f60.eq_1 λhw X hX=>?_
  have ht:∀ n,(if zmw (b.slots.map (·.req.name)) (b.wait.map (·.req.name)) n=true then (9:Int) else 0)=tkE b n:=λ_=>rfl
  have hm:mvF (rqW (b.slots.map (·.req)) (-1))=movF b (-1):=rfl;have hl:(b.slots.map Slt.pv++[rawS q]).length=b.slots.length+1:=by simp
  have qe:=aI qR (aI @qN (aI @zbA (aI @zbz @zaC)));repeat' first|refine gC ?_ ?_<;>intro hc<;>try contradiction|refine za (ziE q) ?_|refine za (zpW b q.name) ?_|refine za (zaa _ _) ?_|refine za (zO [_,_,_]) ?_|refine za (zm1 b.slots b.wait (-1) (by omega)) ?_|refine za (zvl l _ q) ?_|refine zo [(100,200),(7,201)] (zfX b.slots b.wait hs (by omega) (by omega)) ?_|refine gG ?_|show AK _;intro J Z|refine gJ ?_|omega|exact aT
  ·have h:¬zr9 b q=0:=hc;rw [zfs,if_neg h,if_neg h];exact .refl _
  ·have h:zr9 b q=0:=by assumption
   have hf:zo4 l (movF b (-1)) q=false:=by simpa [hm] using hc
   rw [zfs,if_pos h,hf];exact .refl _
  ·have h:zr9 b q=0:=by assumption
   have hf:zo4 l (movF b (-1)) q=true:=by simpa [hm] using hc
   rw [zfs,if_pos h,hf];exact .refl _
 ·by_cases h:zfs l b q=0
  ·rw [if_pos h,zlZ,if_pos h,h];refine .tup ⟨.agg ⟨.sl ?_,.refl _,trivial⟩,.refl _,trivial⟩;rw [xaZ];exact .app (.refl _) ⟨zyb q,trivial⟩
  ·rw [if_neg h,zlZ,if_neg h];exact zdL _
def zpF (l:List Lim) (b:Bk) (q:Req):Int:=if zf [zaK l,zu b]=0 then zfs l b q else zf [zaK l,zu b]
def ztl (l:List Lim) (b:Bk) (q:Req):Bk:=if zpF l b q=0 then zlZ l b q else bk0
def zz1 {l:List Lim} {b:Bk} {q:Req} (h:zfs l b q≠0):zlZ l b q=bk0:=by rw [zlZ,if_neg h]
def zvw (l:List Lim) (b:Bk) (q:Req) (hb:zu b=0->zeG b):Pure prog 24 [.sl 11 (l.map Lim.pv),b.pv,q.pv] (.tup [(ztl l b q).pv,.i .i64 (zpF l b q)]):=by
 refine zb9 (r:=if zf [zaK l,zu b]=0 then .tup [(zlZ l b q).pv,.i .i64 (zfs l b q)] else .tup [.agg [.nilsl,.nilsl],.i .i64 (zf [zaK l,zu b])]) ?_ ?_
 ·by_cases h:zf [zaK l,zu b]=0
  ·have h1:=h;have e1:(zf [zaK l,zu b]=0)=True:=eq_true h;rw [if_pos h];refine pz func24 f24.eq_1 λhw X hX=>?_
   have hb':=hb (fE0 h _ (by simp))
   have qe:=aI qR (aI @qN @e1);have jA:=zrb l;have jB:=zaM b;have jC:=λu1 u2=>zO [u1,u2];have jD:=zvq l b q hb';exact gD4
  ·have e1:(zf [zaK l,zu b]=0)=False:=eq_false h;rw [if_neg h];refine pz func24 f24.eq_1 λhw X hX=>?_
   have qe:=aI qR (aI @qN @e1);have jA:=zrb l;have jB:=zaM b;have jC:=λu1 u2=>zO [u1,u2];exact gD4
 ·by_cases h:zf [zaK l,zu b]=0
  ·rw [if_pos h,ztl,zpF,if_pos h]
   by_cases k:zfs l b q=0
   ·rw [if_pos k];exact .refl _
   ·rw [if_neg k,zz1 k];exact .refl _
  ·rw [if_neg h,ztl,zpF,if_neg h,if_neg h];exact zdL _
def zD (b:Bk) (n:ByteArray):Nat:=(atL n (b.slots.map (·.req.name))).toNat
def zfT (b:Bk) (c n:ByteArray) (e ce:Int):Int:=zf [zd2 b c n e,ce]
def zzA (b:Bk) (c n:ByteArray) (e:Int) (h:zf [zy c,zdN b.slots n,e]≠0):zd2 b c n e=zf [zy c,zdN b.slots n,e]:=by
 simp only [zd2,zf] at h ⊢;(repeat' split)<;>simp_all
def zvB (b:Bk) (c n:ByteArray) (e:Int) (h:zf [zy c,zdN b.slots n,e]=0):zd2 b c n e=if (zl b n).holder=c then 0 else 31:=by
 rw [zd2,zt (fE0 h _ (by simp)),zt (fE0 h _ (by simp)),zt (fE0 h _ (by simp)),z9]
theorem zqN (m:Nat->Nat):∀ l:List PV,rens m (l.map .p)=l.map .p
 | []=>by simp only [xav,rens]
 | x::l=>by simp only [xag,rens,LV.ren,zqN m l]
def zmW {cf:Nat} {caps:List PV} (b:Bk) (c n:ByteArray) (e ce:Int) (xs:List PV) (hb:zeG b) (hx:xs.length=b.slots.length)
  (hf:zd2 b c n e=0->Acts prog cf ([.ep 900 b.slots.length (zD b n) 0]++caps.map .p) [(900,.row 89 16 (b.slots.map Slt.pv) false)] (.p (.i .i64 ce)) [(900,.row 89 16 xs false)]) :
  Pure prog 90 [b.pv,.s c,.s n,.i .i64 e,.fn (.func cf) [] caps] (if zfT b c n e ce=0 then .tup [.agg [.sl 16 xs,.sl 14 (b.wait.map Wsh.pv)],.i .i64 0] else .tup [.agg [.nilsl,.nilsl],.i .i64 (zfT b c n e ce)]):=by
 obtain ⟨hs,hn,hwl⟩:=hb;refine pz func90 f90.eq_1 λhw X hX=>?_
 have hfd:(if atL n (b.slots.map (·.req.name)) < 0 then (10:Int) else 0)=zdN b.slots n:=rfl
 by_cases hown:zd2 b c n e=0
 ·have h3:zf [zy c,zdN b.slots n,e]=0:=by
   refine xbk λh=>?_
   rw [zzA b c n e h] at hown;exact h hown
  have hat:¬atL n (b.slots.map (·.req.name)) < 0:=λh=>by
   have:=fE0 h3 (zdN b.slots n) (by simp)
   rw [zdN,if_pos h] at this;omega
  obtain ⟨s,hsl⟩:=zdW hat;have hlt:=zeD n (b.slots.map (·.req.name));rw [xaf] at hlt;have hso:zl b n=s:=by rw [zl,hsl];rfl
  have hh:s.holder=c:=by
   rw [zvB b c n e h3,hso] at hown;refine xbk λh=>?_
   rw [if_neg h] at hown;omega
  have hC:zfT b c n e ce=ce:=by rw [zfT,zt hown,z9]
  have hf':=hf hown;rw [zD] at hf';have h3t:(zf [zy c,zdN b.slots n,e]=0)=True:=eq_true h3;have hxt:=hx;have qe:=aI qR (aI @qN (aI @zbA (aI @zbz (aI @zaC (aI @hfd (aI @h3t (aI @hsl (aI @hh (aI @hx (aI @decide_true (aI @xbg (aI @List.append_nil.{0} (aI @List.map_cons.{0,0} (@List.map_nil.{0,0}))))))))))))));repeat' first|refine gC ?_ ?_<;>intro hc<;>try contradiction|refine za (zbH c) ?_|refine za (zaZ b n) ?_|refine za (zO [_,_,_]) ?_|refine zo [(100,200),(7,201)] (zfX b.slots b.wait hs (by omega) (by omega)) ?_|refine za (zcO b n) ?_|refine gG ?_|show AK _;intro J Z|refine gJ ?_|omega|exact aT
  have qe:=λm=>zqN m caps
  refine zf7 [(900,200)] (hf:=hf'.toE) (hn:=λ_=>?_)
  have qe:=aI qR (aI @qN (aI @zbA (aI @zbz (aI @zaC (aI @hx (aI @decide_true @xbg))))));repeat' first|refine gC ?_ ?_<;>intro hc<;>try contradiction|refine gG ?_|show AK _;intro J Z|refine gJ ?_|omega|exact aT
  ·have h0:¬ce=0:=hc;rw [hC,if_neg h0];exact .refl _
  ·have h0:ce=0:=hc;rw [hC,if_pos h0];exact .refl _
 ·by_cases h3:zf [zy c,zdN b.slots n,e]=0
  ·have hat:¬atL n (b.slots.map (·.req.name)) < 0:=λh=>by
    have:=fE0 h3 (zdN b.slots n) (by simp)
    rw [zdN,if_pos h] at this;omega
   obtain ⟨s,hsl⟩:=zdW hat;have hlt:=zeD n (b.slots.map (·.req.name));rw [xaf] at hlt;have hso:zl b n=s:=by rw [zl,hsl];rfl
   have hh:¬s.holder=c:=λh=>hown (by rw [zvB b c n e h3,hso,if_pos h])
   have ho:zd2 b c n e=31:=by rw [zvB b c n e h3,hso,if_neg hh]
   have hC:zfT b c n e ce=31:=by rw [zfT,zE (by rw [ho];omega),ho]
   rw [hC];have h3t:(zf [zy c,zdN b.slots n,e]=0)=True:=eq_true h3;have hht:(s.holder=c)=False:=eq_false hh;have qe:=aI qR (aI @qN (aI @zbA (aI @zbz (aI @zaC (aI @hfd (aI @h3t (aI @hsl (aI @hht (aI @decide_true (aI @decide_false (aI @xbg @xbK)))))))))));repeat' first|refine gC ?_ ?_<;>intro hc<;>try contradiction|refine za (zbH c) ?_|refine za (zaZ b n) ?_|refine za (zO [_,_,_]) ?_|refine zo [(100,200),(7,201)] (zfX b.slots b.wait hs (by omega) (by omega)) ?_|refine za (zcO b n) ?_|refine gG ?_|show AK _;intro J Z|refine gJ ?_|omega|exact aT
   rw [if_neg (by decide)];exact .refl _
  ·have ho:=zzA b c n e h3;have hC:zfT b c n e ce=zf [zy c,zdN b.slots n,e]:=by rw [zfT,zE hown,ho]
   rw [hC,if_neg h3];have h3t:(zf [zy c,zdN b.slots n,e]=0)=False:=eq_false h3;have qe:=aI qR (aI @qN (aI @hfd @h3t));have jA:=zbH c;have jB:=zaZ b n;have jC:=λu1 u2 u3=>zO [u1,u2,u3];exact gD4
def zab {b:Bk} {c n:ByteArray} {e:Int} (hown:zd2 b c n e=0):¬atL n (b.slots.map (·.req.name)) < 0/\b.slots[zD b n]?=some (zl b n)/\(zl b n).holder=c/\zf [zy c,zdN b.slots n,e]=0:=by
 have h3:zf [zy c,zdN b.slots n,e]=0:=by
  refine xbk λh=>?_
  rw [zzA b c n e h] at hown;exact h hown
 have hat:¬atL n (b.slots.map (·.req.name)) < 0:=λh=>by
  have:=fE0 h3 (zdN b.slots n) (by simp)
  rw [zdN,if_pos h] at this;omega
 obtain ⟨s,hsl⟩:=zdW hat;have hso:zl b n=s:=by rw [zl,hsl];rfl
 refine ⟨hat,by rw [zD,hsl,hso],?_,h3⟩
 rw [zvB b c n e h3] at hown;refine xbk λh=>?_
 rw [if_neg h] at hown;omega
theorem Wkr.set:∀ {ps qs:List PV} (i:Nat) {a c:PV},Wkr ps qs->Wks a.cells c.cells->Wkr (ps.set i a) (qs.set i c)
 | [],[],_,_,_,_,_=>trivial
 | [],_::_,_,_,_,h,_=>h.elim
 | _::_,[],_,_,_,h,_=>h.elim
 | _::_,_::_,0,_,_,h,k=>⟨k,h.2⟩
 | _::_,_::_,i+1,_,_,h,k=>⟨h.1,Wkr.set i h.2 k⟩
def zfU (b:Bk) (n:ByteArray) (s:Slt):Bk:=⟨b.slots.set (zD b n) s,b.wait⟩
def zjp {cf:Nat} {caps:List PV} (b:Bk) (c n:ByteArray) (e ce:Int) (s:Slt) (raw:PV) (ys:List PV) (hb:zeG b) (hr:Wks raw.cells s.pv.cells) (hy:ys.length=b.slots.length)
  (hf:zd2 b c n e=0->Acts prog cf ([.ep 900 b.slots.length (zD b n) 0]++caps.map .p) [(900,.row 89 16 (b.slots.map Slt.pv) false)] (.p (.i .i64 ce)) [(900,.row 89 16 (if ce=0 then (b.slots.map Slt.pv).set (zD b n) raw else ys) false)]) :
  Pure prog 90 [b.pv,.s c,.s n,.i .i64 e,.fn (.func cf) [] caps] (.tup [(if zfT b c n e ce=0 then zfU b n s else bk0).pv,.i .i64 (zfT b c n e ce)]):=by
 refine zb9 (zmW b c n e ce _ hb (by split<;>simp [hy]) hf) ?_
 by_cases h:zfT b c n e ce=0
 ·rw [if_pos h,if_pos h,h];have hce:ce=0:=by
   rw [zfT] at h;exact fE0 h _ (by simp)
  rw [if_pos hce];refine .tup ⟨.agg ⟨.sl ?_,.refl _,trivial⟩,.refl _,trivial⟩;rw [zfU,xa2];exact .set _ (.refl _) hr
 ·rw [if_neg h,if_neg h];exact zdL _
def zdX (L:List PV) (i:Nat) (a:PV) (h:i < L.length):(L.set i a)[i]?=some a:=by simp [h]
def trE (s:Slt) (to:ByteArray):Int:=zf [if to=s.holder then 31 else 0,if 0 < (s.ls.length:Int) then 19 else 0]
def trS (s:Slt) (to:ByteArray):Slt:=⟨s.req,to,s.ls,[]⟩
abbrev trW (s:Slt) (to:ByteArray):PV:=.agg [.s s.req.name,.s s.req.carrier,.s s.req.kind,.s s.req.term,.s s.req.partner,.s s.req.link,.i .i64 s.req.per.fro,.i .i64 s.req.per.to,.i .i64 s.req.per.days,.i .i64 s.req.minute,.i .i64 s.req.seats,.i .i64 s.req.size,.i .i64 s.req.noise,.s to,.sl 3 (s.ls.map Lea.pv),.nilsl]
def zBn (s:Slt) (to:ByteArray):Wks (trW s to).cells (trS s to).pv.cells:=
 ⟨.refl _,.refl _,.refl _,.refl _,.refl _,.refl _,.refl _,.refl _,.refl _,.refl _,.refl _,.refl _,.refl _,.refl _,.refl _,.nilsl _,trivial⟩
def zxa (L:List Slt) (i:Nat) (s:Slt) (to:ByteArray) (hs:L[i]?=some s):Acts prog 95 [.ep 900 L.length i 0,.p (.ip (.s to) 0)] [(900,.row 89 16 (L.map Slt.pv) false)] (.p (.i .i64 (trE s to)))
  [(900,.row 89 16 (if trE s to=0 then (L.map Slt.pv).set i (trW s to) else L.map Slt.pv) false)]:=by
 have hi:i < L.length:=(xaa.1 hs).1;have hi':i < (L.map Slt.pv).length:=by simpa using hi
 have hg:=λa=>zdX (L.map Slt.pv) i a hi'
 by_cases h:trE s to=0
 ·rw [if_pos h];have h1:(zf [if to=s.holder then 31 else 0,if 0 < (s.ls.length:Int) then 19 else 0]=0)=True:=eq_true h
  refine zF (cF func95 f95.eq_1) (by simp) (by simp [scPs,scP,zp]) (by simp [scObj]) ⟨rfl,trivial⟩ (by simp [scObj]) (by simp [zb1,zp]) λX hX=>?_
  unfold zA ghO;have qe:=aI qR (aI @qN (aI @gLV.eq_2 (aI @hs (aI @h1 (aI @hg (aI @List.set_set.{0} (aI @List.length_set.{0} (aI @rtN @rtR))))))));repeat' first|refine gC ?_ ?_<;>intro hc<;>try contradiction|refine za (zaa _ _) ?_|refine za (zO [_,_]) ?_|refine gG ?_|show AK _;intro J Z|refine gJ ?_|omega|exact aT
  rw [h];exact .inl (.mk1 (h2:=by simp only [qS,seval,keepG.eq_1,keepG.eq_2,gLV.eq_2]<;>simp))
 ·rw [if_neg h];have h1:(zf [if to=s.holder then 31 else 0,if 0 < (s.ls.length:Int) then 19 else 0]=0)=False:=eq_false h
  refine zF (cF func95 f95.eq_1) (by simp) (by simp [scPs,scP,zp]) (by simp [scObj]) ⟨rfl,trivial⟩ (by simp [scObj]) (by simp [zb1,zp]) λX hX=>?_
  unfold zA ghO;have qe:=aI qR (aI @qN (aI @gLV.eq_2 (aI @hs (aI @h1 (aI @hg (aI @List.set_set.{0} (aI @List.length_set.{0} (aI @rtN @rtR))))))));repeat' first|refine gC ?_ ?_<;>intro hc<;>try contradiction|refine za (zaa _ _) ?_|refine za (zO [_,_]) ?_|refine gG ?_|show AK _;intro J Z|refine gJ ?_|omega|exact aT
  exact .inl (.mk1 (h2:=by simp only [qS,seval,keepG.eq_1,keepG.eq_2,gLV.eq_2]<;>simp))
def trC (b:Bk) (c n to:ByteArray):Int:=zfT b c n (zy to) (trE (zl b n) to)
def trB (b:Bk) (c n to:ByteArray):Bk:=if trC b c n to=0 then zfU b n (trS (zl b n) to) else bk0
def zvn (b:Bk) (c n to:ByteArray) (hb:zeG b):Pure prog 48 [b.pv,.s c,.s n,.s to] (.tup [(trB b c n to).pv,.i .i64 (trC b c n to)]):=by
 have hch:=zjp (caps:=[.ip (.s to) 0]) b c n (zy to) (trE (zl b n) to) (trS (zl b n) to) (trW (zl b n) to) (b.slots.map Slt.pv) hb (zBn _ _) (by simp) λh=>zxa b.slots (zD b n) (zl b n) to (zab h).2.1
 refine pz func48 f48.eq_1 λhw X hX=>?_
 have qe:=aI qR @qN;have jA:=zbH to;have jB:=hch;exact gD2
def zpG (b:Bk) (y:Bk) (e:Int):Bk × Int:=if zu b=0 then (if e=0 then y else bk0,e) else (bk0,zu b)
def zjr {b y:Bk} {e:Int} (h:zu b=0) (hy:e≠0->y=bk0):zpG b y e=(y,e):=by
 rw [zpG,if_pos h]
 by_cases k:e=0
 ·rw [if_pos k]
 ·rw [if_neg k,hy k]
def zfV {b y:Bk} {e:Int} (h:¬zu b=0):zpG b y e=(bk0,zu b):=by rw [zpG,if_neg h]
def trB_0 {b:Bk} {c n to:ByteArray} (h:trC b c n to≠0):trB b c n to=bk0:=if_neg h
def pure1062 (b:Bk) (c n to:ByteArray) (hb:zu b=0->zeG b):Pure prog 19 [b.pv,.s c,.s n,.s to] (.tup [(zpG b (trB b c n to) (trC b c n to)).1.pv,.i .i64 (zpG b (trB b c n to) (trC b c n to)).2]):=by
 by_cases h:zu b=0
 ·have e1:(zu b=0)=True:=eq_true h;rw [zjr h trB_0];refine pz func19 f19.eq_1 λhw X hX=>?_
  have qe:=aI qR (aI @qN @e1);have jA:=zaM b;have jB:=zvn b c n to (hb h);exact gD2
 ·have e1:(zu b=0)=False:=eq_false h;rw [zfV h];refine zb9 (r:=.tup [.agg [.nilsl,.nilsl],.i .i64 (zu b)]) ?_ (zdL _);refine pz func19 f19.eq_1 λhw X hX=>?_
  have qe:=aI qR (aI @qN @e1);have jA:=zaM b;exact gD2
structure Rfs where
 name:ByteArray
 lim:Int
 mom:Int
abbrev Rfs.pv (r:Rfs):PV:=.agg [.s r.name,.i .i64 r.lim,.i .i64 r.mom]
open Go.RowKit Tryz Go.Lib
def zwg (n : Nat) (w : World) (h0 : 0 < n) (hb : n * 32 <= 140737488355328) :
    Calls prog 158 #[.slice none 0 0, .int .i64 n] w λe w' => ∃ cap cs, e = .returned (.slice (some ⟨w.heap.size, 0, none⟩) 0 cap) /\ w' = w.drew.alloc (.cells cs 86) /\ cs.size = cap * 3 /\ n <= cap /\ cap <= maxLen := by
  have h1 : ¬ ((n : Int) < 0) := by omega
  have h3 : IntKind.i64.wrap (n : Int) = n := by simp only [IntKind.wrap, IntKind.bits, IntKind.signed]; simp; omega
  have h4 : (n : Int) > 0 := by omega
  obtain ⟨i0, z, hi0, hz0, hs0, hby, hzs⟩ : ∃ i z, prog.info? 86 = some i /\ i.zero = some z /\ i.size = 3 /\ i.bytes = 32 /\ z.cells.size = 3 := ⟨_, _, rfl, rfl, rfl, rfl, rfl⟩;have hrz : ∀ ty, (Builtin.append_ #[87, 3] ty #[.slice none 0 0, .int .i64 (n : Int)]).run prog w =
      .ok (.slice (some ⟨w.heap.size, 0, none⟩) n (grownCap w n 0 86)) (w.drew.alloc (.cells ((#[] : Array Value) ++ Builtin.zeroCells z.cells n ++ Builtin.zeroCells z.cells (grownCap w n 0 86 - n)) 86)) := λty => by
    have h := Lib.run_append_grow_zeros w 87 3 ty 86 i0 z .i64 .i64 underlying87 underlying3 hi0 hz0 none 0 0 [] (run_firstCells_none w.drew i0.size 0 0 0) n (by omega) (by omega) (by omega) (by omega) (by rw [hby]; omega)
      (by rw [Nat.zero_add]; exact growslice_fits (by omega) (by rw [hby]; omega))
    rw [Nat.zero_add] at h;exact h
  have hGn : n <= grownCap w n 0 86 := grownCap_ge w _ _ _;have hG63 := grownCap_le_maxLen w n 0 86 (by unfold maxLen; omega)
  obtain ⟨G, hG⟩ : ∃ G, G = grownCap w n 0 86 := ⟨_, rfl⟩;rw [<- hG] at hrz hGn hG63;obtain ⟨cs, hcs⟩ : ∃ cs, cs = ((#[] : Array Value) ++ Builtin.zeroCells z.cells n ++ Builtin.zeroCells z.cells (G - n)) := ⟨_, rfl⟩;have hcsz : cs.size = G * 3 := by
    have hz : ∀ k, (Builtin.zeroCells z.cells k).size = k * 3 := λk => by
      rw [size_zeroCells, hzs]
    rw [hcs, Array.size_append, Array.size_append, hz, hz];show 0 + n * 3 + (G - n) * 3 = _
    omega
  rw [<- hcs] at hrz;have hG' : G <= 9223372036854775807 := by unfold maxLen at hG63; omega
  clear hG hcs
  go_enter func158, ntmps158
  go_wp2_with (at_builtin; refine Lib.wpList_append_run _ rfl _ _ _ _ rfl _ _ rfl rfl _ _ (hrz _) ?_)
  all_goals (go_ret; exact ⟨_, rfl, _, rfl, hcsz, hGn, hG63⟩)
abbrev zsl:PV:=.agg [.s (bs []),.s (bs []),.s (bs []),.s (bs []),.s (bs []),.s (bs []),.i .i64 0,.i .i64 0,.i .i64 0,.i .i64 0,.i .i64 0,.i .i64 0,.i .i64 0,.s (bs []),.nilsl,.nilsl]
theorem zc3 (g:Nat) {e:TypeId} {fr:Nat × Nat}:∀ (vs:List Value) (o:Nat) (w:World) (cur:Array Value),w.heap[g]?=some (.cells cur e fr)->o+vs.length<=cur.size ->
  ∃ cur',(w.setCells g o vs).heap[g]?=some (.cells cur' e fr)/\cur'.size=cur.size/\cur'.toList=cur.toList.take o++vs++cur.toList.drop (o+vs.length)/\w.grownBy (w.setCells g o vs) (some g)
 | [],o,w,cur,h,hl=>⟨cur,h,rfl,by simp,⟨rfl,rfl,rfl,xah _,λ_ _ _=>rfl⟩⟩
 | v::r,o,w,cur,h,hl=>by
  have h1:(w.setCell ⟨g,o,none⟩ v).heap[g]?=some (.cells (cur.setIfInBounds o v) e fr):=by
   simp [World.setCell,xbZ,h]
  simp only [xaK] at hl;obtain ⟨cur',k1,k2,k3,k4⟩:=zc3 g r (o+1) (w.setCell ⟨g,o,none⟩ v) (cur.setIfInBounds o v) h1 (by simp;omega)
  have hs3:(w.setCell ⟨g,o,none⟩ v).heap.size=w.heap.size:=by simp [World.setCell]
  refine ⟨cur',k1,by simpa using k2,?_,⟨k4.os,k4.tape,k4.output,(by rw [<-hs3];exact k4.size),λk hk hne=>?_⟩⟩
  ·rw [k3];simp only [Array.toList_setIfInBounds,xaK];have hlt:o < cur.toList.length:=by simp;omega
   rw [xaP,xbG hlt,List.take_set_of_le (xah _),List.drop_set_of_lt (by omega)]
   simp [Nat.add_comm,Nat.add_left_comm,xbw]
  ·have:=k4.block k (by simpa [World.setCell] using hk) hne
   rw [show (w.setCells g o (v::r))=(w.setCell ⟨g,o,none⟩ v).setCells g (o+1) r from rfl,this]
   have hkg:k≠g:=λe=>hne (by rw [e])
   simp [World.setCell,xbZ,Ne.symm hkg]
def zpq {P:Program} (w:World) (t e ty:TypeId) (z:Value) (sz:Nat) (ht:P.underlying t=some (.slice e)) (hv:∀ w,(zeroValue e).run P w=.ok z w) (hz:z.cells.size=sz) (h1:∀ u ∈ z.cells.toList,u.oneCell'=true) (b o c:Nat) (h0:0 < sz)
  (hc:∀ j,j < sz->(w.cell? ⟨b,o+j,none⟩).isSome=true) (hf:∀ j,j < sz->w.frozen? ⟨b,o+j,none⟩=false) :
  (Builtin.clear_ #[t] ty #[.slice (some ⟨b,o,none⟩) 1 c]).run P w=.ok (.tuple #[]) (w.setCells b o z.cells.toList):=by
 have hzc:(Builtin.zeroCells z.cells 1).toList=z.cells.toList:=by
  simp [Builtin.zeroCells]
  apply List.ext_getElem
  ·simp
  ·intro i h1 h2;simp at h2;simp only [List.getElem_map,xcs,Nat.mod_eq_of_lt h2];exact getElem!_pos z.cells i h2
 have hst:=run_storeCells_cells (P:=P) b o z.cells.toList 0 w (by simpa [hz] using hc) (by simpa [hz] using hf) (by simpa using h1)
 simp only [xbD] at hst;simp [Builtin.clear_,run_underlying ht,hv,hzc,hst]
def zph (g cap n i:Nat) (cur:Array Value) (w:World) (hw:w.heap[g]?=some (.cells cur 89 (0,0))) (hsz:cur.size=cap*16) (hn:n<=cap) (hcm:cap<=maxLen) (hi:i < n) (h1:∀ u ∈ cur.toList.take (n*16),u.oneCell'=true) :
  Calls prog 100 #[.slice (some ⟨g,0,none⟩) n cap,.int .i64 i,.int .i64 ((i:Int)+1)] w λe w'=>e=.returned (.slice (some ⟨g,0,none⟩) (n - 1) cap)/\w.grownBy w' (some g) /\
   ∃ cur' zc,w'.heap[g]?=some (.cells cur' 89 (0,0))/\cur'.size=cap*16/\zjn zc=some zsl.cells/\cur'.toList.take (n*16)=cur.toList.take (i*16)++(cur.toList.take (n*16)).drop ((i+1)*16)++zc:=by
 obtain ⟨i0,z,hi0,hz0,hs0,hby,hzs,hz1,hzv⟩:∃ i z,prog.info? 89=some i/\i.zero=some z/\i.size=16/\i.bytes=216/\z.cells.size=16/\(∀ u ∈ z.cells.toList,u.oneCell'=true)/\zjn z.cells.toList=some zsl.cells:=⟨_,_,rfl,rfl,rfl,rfl,rfl,by decide,rfl⟩
 obtain ⟨news,hnews⟩:∃ news,news=(cur.toList.take (n*16)).drop ((i+1)*16):=⟨_,rfl⟩;have hlen:news.length=(n - (i+1))*16:=by rw [hnews];simp [hsz];omega
 have hget:∀ t u,news[t]?=some u->cur[(i+1)*16+t]?=some u:=λt u h=>by
  rw [hnews,xaI,xaF] at h
  split at h
  ·simpa using h
  ·cases h
 obtain ⟨A,hA,hsrc⟩:∃ A:Addr,(if cap=i+1 then (some ⟨g,0,none⟩:Option Addr) else some ⟨g,(i+1)*16,none⟩)=some A/\Hid (∀ t u,news[t]?=some u->w.drew.cell? (A.add t)=some u):=by
  by_cases h:cap=i+1
  ·refine ⟨⟨g,0,none⟩,by simp [h],λt u hu=>?_⟩
   have h0:news.length=0:=by rw [hlen];omega
   rw [List.length_eq_zero_iff.1 h0] at hu;simp at hu
  ·refine ⟨⟨g,(i+1)*16,none⟩,by simp [h],λt u hu=>?_⟩
   rw [Go.Addr.add_lit];show w.cell? _=_;simp only [World.cell?,hw];simpa using hget t u hu
 have s1:Hid (news.length=(n - (i+1))*16):=hlen;have s2:Hid (∀ u ∈ news,u.oneCell'=true):=λu hu=>h1 u (by rw [hnews] at hu;exact xb5 hu)
 have hcell:∀ (W:World) (c:Array Value) (j:Nat),W.heap[g]?=some (.cells c 89 (0,0))->j < c.size->(W.cell? ⟨g,j,none⟩).isSome=true/\W.frozen? ⟨g,j,none⟩=false:=λW c j hW hj=>by
  constructor
  ·simp [World.cell?,hW,hj]
  ·simp [World.frozen?,hW]
 have s3:Hid (∀ t,t < news.length->(w.drew.cell? ⟨g,0+i*16+t,none⟩).isSome=true/\w.drew.frozen? ⟨g,0+i*16+t,none⟩=false):=by
  intro t ht;rw [hlen] at ht;exact hcell w.drew cur _ hw (by omega)
 obtain ⟨cur1,e1,e2,e3,e4⟩:=zc3 g news (0+i*16) w.drew cur hw (by rw [hlen,hsz];omega)
 obtain ⟨W1,hW1⟩:∃ W1,W1=w.drew.setCells g (0+i*16) news:=⟨_,rfl⟩;rw [<-hW1] at e1 e4;have hm:i+(n - (i+1))=n - 1:=by omega
 obtain ⟨zc,hzc⟩:∃ zc,zc=z.cells.toList:=⟨_,rfl⟩;have hzl:zc.length=16:=by rw [hzc];simpa using hzs
 have hcl:∀ ty,(Builtin.clear_ #[41] ty #[.slice (some ⟨g,(n - 1)*16,none⟩) (n - (n - 1)) (cap - (n - 1))]).run prog W1=.ok (.tuple #[]) (W1.setCells g ((n - 1)*16) zc):=λty=>by
  rw [hzc];rw [show n - (n - 1)=1 by omega]
  exact zpq W1 41 89 ty z 16 underlying41 (λw=>by simp [zeroValue,typeInfo,hi0,hz0]) hzs hz1 g _ _ (by omega) (λj hj=>(hcell W1 cur1 _ e1 (by rw [e2];omega)).1) (λj hj=>(hcell W1 cur1 _ e1 (by rw [e2];omega)).2)
 have hW:Hid (W1=w.drew.setCells g (0+i*16) news):=hW1;clear hW1 hget
 go_enter func100,ntmps100
 have hic:i<=cap:=by omega
 have hjc:i+1<=cap:=by omega
 have hb1:(0:Int)<=(i:Int)+1:=by omega
 have hb2:(i:Int)+1<=(n:Int):=by omega
 go_wp2_with fail
 go_region_law (refine step_append_room rfl (.tmp 22) (.tmp 25) 41 rfl 89 i0 16 underlying41 hi0 hs0 g 0 i cap (by simp [Act.eval,Act.put]) A (n - (i+1)) (cap - (i+1)) news (by simp [Act.eval,Act.put]) s1.out hsrc.out s2.out (by omega) s3.out ?_;rw [<-hW.out])
 obtain ⟨cur2,f1,f2,f3,f4⟩:=zc3 g zc ((n - 1)*16) W1 cur1 e1 (by rw [e2,hsz,hzl];omega)
 rw [<-hzc] at hzv;clear hzc;have hg12:w.grownBy (W1.setCells g ((n - 1)*16) zc) (some g):=⟨f4.os.trans e4.os,f4.tape.trans e4.tape,f4.output.trans e4.output,xaV e4.size f4.size,λk hk hne=>(f4.block k (xaA hk e4.size) hne).trans (e4.block k hk hne)⟩
 go_wp2
 go_ret
 refine ⟨rfl,hg12,cur2,zc,f1,by rw [f2,e2,hsz],hzv,?_⟩
 have l1:(cur.toList.take (0+i*16)++news).length=(n - 1)*16:=by
  rw [xad,xaj,hlen];simp [hsz];omega
 have l2:cur1.toList.take ((n - 1)*16)=cur.toList.take (0+i*16)++news:=by
  rw [e3,xau,<-xau,xbb (by rw [l1];exact xah _),xal (by rw [l1];exact xah _)]
 have l3:(cur.toList.take (0+i*16)++news++zc).length=n*16:=by rw [xad,l1,hzl];omega
 rw [f3,l2,xbb (by rw [l3];exact xah _),xal (by rw [l3];exact xah _),hnews,xbN]
def zlP {w:World} {B:Nat->Prop} {us:List Value} {ps:List PV} (h:Reps w B us ps) (k:Nat):Reps w B (us.take k) (ps.take k):=
 ⟨by simp [h.1],λj v p hv hp=>by
  rw [xaF] at hv hp
  split at hv
  ·rename_i e;rw [if_pos e] at hp;exact h.2 j v p hv hp
  ·cases hv⟩
def zlQ {w:World} {B:Nat->Prop} {us:List Value} {ps:List PV} (h:Reps w B us ps) (k:Nat):Reps w B (us.drop k) (ps.drop k):=
 ⟨by simp [h.1],λj v p hv hp=>by rw [xaI] at hv hp;exact h.2 _ v p hv hp⟩
theorem zdA {sz:Nat}:∀ {xs:List PV},(∀ x ∈ xs,x.cells.length=sz)->(xs.flatMap PV.cells).length=xs.length*sz
 | [],_=>by simp
 | x::r,h=>by
  rw [xaH,xad,zdA (λy hy=>h y (by simp [hy])),h x (by simp),xaK,xbP];omega
def zlR {sz:Nat} {xs:List PV} (h:∀ x ∈ xs,x.cells.length=sz) (k:Nat) (hk:k<=xs.length):(xs.take k).flatMap PV.cells=(xs.flatMap PV.cells).take (k*sz):=by
 have e:xs.flatMap PV.cells=(xs.take k).flatMap PV.cells++(xs.drop k).flatMap PV.cells:=by rw [<-xbc,xao]
 have hl:((xs.take k).flatMap PV.cells).length=k*sz:=by
  rw [zdA (λx hx=>h x (xbl hx)),xaj];congr 1;omega
 rw [e,<-hl,List.take_left]
def zlS {sz:Nat} {xs:List PV} (h:∀ x ∈ xs,x.cells.length=sz) (k:Nat) (hk:k<=xs.length):(xs.drop k).flatMap PV.cells=(xs.flatMap PV.cells).drop (k*sz):=by
 have e:xs.flatMap PV.cells=(xs.take k).flatMap PV.cells++(xs.drop k).flatMap PV.cells:=by rw [<-xbc,xao]
 have hl:((xs.take k).flatMap PV.cells).length=k*sz:=by
  rw [zdA (λx hx=>h x (xbl hx)),xaj];congr 1;omega
 rw [e,<-hl,List.drop_left]
def zn4 (xs:List PV) (i:Nat) (a0:Option Addr) (c0:Nat) (hi:i < xs.length) (h1:oneAll xs=true):Acts prog 100 [.p (.rs a0 xs.length c0),.p (.i .i64 i),.p (.i .i64 ((i:Int)+1))] [(900,.hrow 89 16 xs a0 c0)] (.p (.rs a0 (xs.length - 1) c0)) [(900,.hrow 89 16 (xs.take i++xs.drop (i+1)++[zsl]) a0 c0)]:=by
 have hlen:(xs.take i++xs.drop (i+1)++[zsl]).length=xs.length:=by simp;omega
 refine ⟨⟨_,_,func100,rfl,rfl⟩,λj o hj=>?_,λj o hj=>?_,λw C vs fr hlv hvs=>?_⟩
 ·obtain ⟨rfl,rfl⟩:=zx hj;exact ⟨trivial,rfl⟩
 ·obtain ⟨rfl,rfl⟩:=zx hj;exact ⟨_,zT _ _,rfl,rfl⟩
 ·obtain ⟨⟨us,how,hus,hx,h0,_⟩,hc⟩:(∃ us,w.ownsRow 0 89 16 (C.cur 900) xs.length us/\Reps w C.B us (xs.flatMap PV.cells)/\(∀ x ∈ xs,x.cells.length=16)/\0 < 16/\True)/\C.cur 900=.slice a0 xs.length c0:=by
   obtain ⟨⟨us,k1,k2,k3,k4⟩,k5⟩:=fr.ob 900 _ (zT _ _);exact ⟨⟨us,k1,k2,k3,k4,trivial⟩,k5⟩
  rcases how.2 with ⟨f1,f2⟩|⟨g,cap,cur,f1,f2,f3,f4,f5,f6,f7⟩
  ·omega
  rw [f1] at hc;injection hc with q1 q2 q3;subst q1;subst q3;have hv:vs=[.slice (some ⟨g,0,none⟩) xs.length cap,.int .i64 i,.int .i64 ((i:Int)+1)]:=by
   match vs,hlv,hvs with
   | [v1,v2,v3],_,hvs=>
    have e1:=zg (hvs 0 v1 _ rfl rfl);have e2:=zg (hvs 1 v2 _ rfl rfl);have e3:=zg (hvs 2 v3 _ rfl rfl);cases e1;cases e2;cases e3;rfl
  have hone:=zci hus h1;subst hv;refine Calls.mono (zph g cap xs.length i cur w f3 f6 f4 f5 hi (by rw [f7];exact hone)) ?_
  rintro ex w' ⟨rfl,hg,cur',zc,e1,e2,hzv,e3⟩;rw [f7] at e3;have hgb:blk C 900 (.hrow 89 16 xs (some ⟨g,0,none⟩) cap)=some g:=by simp [blk,f1,Value.ownBlock]
  have hgB:¬C.B g:=(fr.sep 900 _ g (zT _ _) hgb).2;have hkeep:∀ b,C.B b->w'.heap[b]?=w.heap[b]?:=λb hb=>hg.block b (fr.blt b hb) λe=>by injection e with e;subst e;exact hgB hb
  have hxs:∀ x ∈ xs.take i++xs.drop (i+1)++[zsl],x.cells.length=16:=λx hx'=>by
   rcases xaL.1 hx' with hx'|hx'
   ·rcases xaL.1 hx' with hx'|hx'
    ·exact hx x (xbl hx')
    ·exact hx x (xb5 hx')
   ·simp at hx';subst hx';rfl
  have htk:cur.toList.take (i*16)=us.take (i*16):=by
   rw [<-f7,List.take_take,xbu (by omega)]
  have hr:Reps w' C.B (cur'.toList.take (xs.length*16)) ((xs.take i++xs.drop (i+1)++[zsl]).flatMap PV.cells):=by
   rw [e3,htk,xbc,xbc,zlR hx i (by omega),zlS hx (i+1) (by omega)]
   refine ((zlP hus _).append (zlQ hus _)).append ?_ |>.mono (λ_ h => h) λb hb => hkeep b hb
   simp only [xaH,xbn,xat,PV.cells];exact zgT hzv w C.B
  refine ⟨_,C,rfl,{
   kx:=⟨hg.os,hg.tape,hg.output,hg.size,λb hb hm=>hg.block b hb λe=>by injection e with e;subst e;exact hm ⟨900,_,zT _ _,hgb⟩⟩
   fr:={
    blt:=λb hb=>xaA (fr.blt b hb) hg.size
    ob:=λj o hj=>by
     obtain ⟨rfl,rfl⟩:=zx hj;exact ⟨⟨_,⟨by rw [hr.1,zdA hxs],.inr ⟨g,cap,cur',by rw [f1,hlen],xa5 _,e1,by rw [hlen];exact f4,f5,e2,by rw [hlen]⟩⟩,hr,hxs,by omega⟩,by rw [f1,hlen]⟩
    objs:=λj o hj=>by obtain ⟨rfl,rfl⟩:=zx hj;trivial
    fz:=λj o hj=>by obtain ⟨rfl,rfl⟩:=zx hj;rfl
    sep:=λj o b hj hb=>by
     obtain ⟨rfl,rfl⟩:=zx hj;have:=fr.sep 900 _ b (zT _ _) hb;exact ⟨xaA this.1 hg.size,this.2⟩
    dis:=λj j' o o' b hne hj hj' _ _=>by obtain ⟨rfl,_⟩:=zx hj;obtain ⟨rfl,_⟩:=zx hj';exact absurd rfl hne }
   b1:=λ_ h=>h
   b2:=λ_ h=>.inl h
   y:=rfl
   fol:=λj o hj=>by obtain ⟨rfl,rfl⟩:=zx hj;exact ⟨_,zT _ _,rfl,rfl⟩
   tied:=λj o o' _ hj' hnh _=>by obtain ⟨rfl,rfl⟩:=zx hj';exact absurd rfl (hnh _ _ _ _ _)
   bk:=λj o b hj hb=>by obtain ⟨rfl,rfl⟩:=zx hj;exact .inl ⟨900,_,zT _ _,hb⟩
   rp:=.p (.rs _ _ _)
   scr:=.p _ }⟩
def zw7 (n:Nat) (h0:0 < n) (hb:n*32<=140737488355328):Acts prog 158 [.p .nilsl,.p (.i .i64 n)] [] (.row 900 0) [(900,.row 86 3 [] false)]:=by
 refine ⟨⟨_,_,func158,rfl,rfl⟩,λj o hj=>by simp [zp] at hj,λj o hj=>by simp [zp] at hj,λw C vs fr hlv hvs=>?_⟩
 have hv:vs=[.slice none 0 0,.int .i64 n]:=by
  match vs,hlv,hvs with
  | [v1,v2],_,hvs=>
   have e1:=zg (hvs 0 v1 _ rfl rfl);have e2:=zg (hvs 1 v2 _ rfl rfl);cases e1;cases e2;rfl
 subst hv;refine Calls.mono (zwg n w h0 hb) ?_;rintro ex w' ⟨cap,cs,rfl,rfl,hsz,_,hm⟩;have hnew:(w.drew.alloc (.cells cs 86)).heap[w.heap.size]?=some (.cells cs 86 (0,0)):=heap_alloc_new w.drew _;have hold:∀ b,b < w.heap.size->(w.drew.alloc (.cells cs 86)).heap[b]?=w.heap[b]?:=λb hb=>heap_alloc_old w.drew _ b hb
 have hsz2:(w.drew.alloc (.cells cs 86)).heap.size=w.heap.size+1:=by rw [World.size_alloc];rfl
 refine ⟨_,{ C with cur:=λ_=>.slice (some ⟨w.heap.size,0,none⟩) 0 cap },rfl,{
  kx:=⟨rfl,rfl,rfl,by omega,λb hb _=>hold b hb⟩
  fr:={
   blt:=λb hb=>by have:=fr.blt b hb;omega
   ob:=λj o hj=>by
    obtain ⟨rfl,rfl⟩:=zx hj;exact ⟨[],⟨by simp,.inr ⟨w.heap.size,cap,cs,rfl,xa5 _,hnew,xa5 _,hm,hsz,by simp⟩⟩,.nil,λx hx=>by simp at hx,by omega⟩
   objs:=λj o hj=>by obtain ⟨rfl,rfl⟩:=zx hj;trivial
   fz:=λj o hj=>by obtain ⟨rfl,rfl⟩:=zx hj;rfl
   sep:=λj o b hj hb=>by
    obtain ⟨rfl,rfl⟩:=zx hj;simp only [blk,Value.ownBlock,xaC] at hb;exact ⟨by omega,λh=>by have:=fr.blt b h;omega⟩
   dis:=λj j' o o' b hne hj hj' _ _=>by obtain ⟨rfl,_⟩:=zx hj;obtain ⟨rfl,_⟩:=zx hj';exact absurd rfl hne }
  b1:=λ_ h=>h
  b2:=λ_ h=>.inl h
  y:=rfl
  fol:=λj o hj=>by simp [zp] at hj
  tied:=λj o o' hj _ _ _=>by simp [zp] at hj
  bk:=λj o b hj hb=>by
   obtain ⟨rfl,rfl⟩:=zx hj;simp only [blk,Value.ownBlock,xaC] at hb;exact .inr (by omega)
  rp:=zc7 rfl
  scr:=.row (zT _ _) (xah _) }⟩
def zC2 (w:World):Calls prog 158 #[.slice none 0 0,.int .i64 0] w λe w'=>e=.returned (.slice none 0 0)/\w'=w:=by
 go_enter func158,ntmps158
 go_wp2
 all_goals (go_ret;exact ⟨rfl,rfl⟩)
def zth:Acts prog 158 [.p .nilsl,.p (.i .i64 0)] [] (.p .nilsl) []:=by
 refine ⟨⟨_,_,func158,rfl,rfl⟩,λj o hj=>by simp [zp] at hj,λj o hj=>by simp [zp] at hj,λw C vs fr hlv hvs=>?_⟩
 have hv:vs=[.slice none 0 0,.int .i64 0]:=by
  match vs,hlv,hvs with
  | [v1,v2],_,hvs=>
   have e1:=zg (hvs 0 v1 _ rfl rfl);have e2:=zg (hvs 1 v2 _ rfl rfl);cases e1;cases e2;rfl
 subst hv;refine Calls.mono (zC2 w) ?_;rintro ex w' ⟨rfl,rfl⟩;refine ⟨_,C,rfl,{
  kx:=⟨rfl,rfl,rfl,xah _,λb hb _=>rfl⟩
  fr:={
   blt:=fr.blt
   ob:=λj o hj=>by simp [zp] at hj
   objs:=λj o hj=>by simp [zp] at hj
   fz:=λj o hj=>by simp [zp] at hj
   sep:=λj o b hj hb=>by simp [zp] at hj
   dis:=λj j' o o' b hne hj hj' _ _=>by simp [zp] at hj }
  b1:=λ_ h=>h
  b2:=λ_ h=>.inl h
  y:=rfl
  fol:=λj o hj=>by simp [zp] at hj
  tied:=λj o o' hj _ _ _=>by simp [zp] at hj
  bk:=λj o b hj hb=>by simp [zp] at hj
  rp:=.p .nilsl
  scr:=.p _ }⟩
open Go.RowKit Tryz
def znO (q:Req):Bool:=decide ((q.name.size:Int)<=40) && decide ((q.carrier.size:Int)<=40) && decide ((q.kind.size:Int)<=40) && decide ((q.term.size:Int)<=40) && decide ((q.partner.size:Int)<=40) && decide ((q.link.size:Int)<=40)
def ziJ (q:Req):Pure prog 101 [q.pv] (.b (znO q)):=by
 refine pz func101 f101.eq_1 λhw X hX=>?_
 have qe:=@qR;exact gD0
def zdM (q:Req):Bool:=znO q && (!decide (zC q.per=0) || decide (q.per.to - q.per.fro < 14))
def zm2 (q:Req):Pure prog 53 [q.pv] (.b (zdM q)):=by
 refine pz func53 f53.eq_1 λhw X hX=>?_
 by_cases hb:znO q=true
 ·by_cases hp:zC q.per=0
  ·have h1:=zY hp;have e:zdM q=decide (q.per.to - q.per.fro < 14):=by simp [zdM,hb,hp]
   rw [e];have qe:=aI qR (aI @hb (aI @hp (aI @decide_true @xbg)));have jA:=ziJ q;have jB:=zmJ q.per;exact gD2
  ·have hpf:=eq_false hp;have e:zdM q=true:=by simp [zdM,hb,hp]
   rw [e];have qe:=aI qR (aI @hb (aI @hpf (aI @decide_false @xbK)));have jA:=ziJ q;have jB:=zmJ q.per;exact gD2
 ·have hbf:znO q=false:=by simpa using hb
  have e:zdM q=false:=by simp [zdM,hbf]
  rw [e];have qe:=aI qR @hbf;have jA:=ziJ q;have jB:=zmJ q.per;exact gD2
def zsT {q:Req} (h:zgW q=0):zbk q=0:=by
 have a:=fE0 h;have h1:zy q.name=0:=a _ (by simp)
 have h2:zeX q.term=0:=a _ (by simp)
 have h3:zaz q.kind=0:=a _ (by simp)
 have h4:zC q.per=0:=a _ (by simp)
 have h5:rng q.minute 0 1439=0:=a _ (by simp)
 have h6:=zbd.1 (a (rng q.seats 0 999) (by simp))
 have h7:=zbd.1 (a (rng q.size 1 9) (by simp))
 have h8:=zbd.1 (a (rng q.noise 0 99) (by simp))
 rw [zbk,zt h1,zt h3,zt h2,zt h4,zt h5,z9];exact zrN (by omega)
def zwO {q:Req} (h:zfn q=0):zbk q=0:=zsT (fE0 h _ (by simp))
structure Exc where
 slots:List ByteArray
 carrier:ByteArray
 slot:ByteArray
 to:ByteArray
 lease:Lea
 day:Int
abbrev Exc.pv (x:Exc):PV:=.agg [.sl 1 (x.slots.map .s),.s x.carrier,.s x.slot,.s x.to,.s x.lease.carrier,.i .i64 x.lease.fro,.i .i64 x.lease.to,.i .i64 x.day]
def zlE (s:ByteArray):Bool:=!decide ((40:Int) < s.size)
def zD2 (s:Slt):Bool:=((!zdM s.req || decide ((40:Int) < s.holder.size)) || (decide ((4:Int) < s.ls.length) && !decide ((s.ls.length:Int)=9))) || decide ((5:Int) < s.sh.length)
def zvK (l:Lea):Bool:=zlE l.carrier
def ztn (s:Slt):Bool:=!zD2 s && (s.ls.all zvK && s.sh.all zlE)
def zvu (s:Slt):Pure prog 52 [s.pv] (.b (ztn s)):=by
 refine pz func52 f52.eq_1 λhw X hX=>?_
 simp only [wfs,PV.wf,xaf,maxLen] at hw;have qe:=@qR;repeat' first|refine gC ?_ ?_<;>intro hc<;>try contradiction|refine za (zm2 s.req) ?_|refine gG ?_|show AK _;intro J Z|refine gJ ?_|omega|exact aT
 ·have:zD2 s=true:=by simpa [zD2] using hc
  rw [ztn,this];exact .refl _
 have hsh:zD2 s=false:=by simpa [zD2] using hc
 refine zh (κ:=Nat) (λi=>⟨[(1,.lp 1 0),(3,.p (.i .i64 i))],[(1,.box (s.cells.map .p) false)],[],false⟩) (λi=>i<=s.ls.length/\∀ y ∈ s.ls.take i,zvK y=true) (λi=>s.ls.length - i) 0 ?_ ?_ ?_
 ·exact sS
 ·simp
 ·intro i hi
  repeat first|refine gG ?_|show AK _;intro J Z|refine gJ ?_|omega|exact aT
  (refine gC ?_ ?_<;>intro hc<;>try contradiction)
  ·obtain ⟨y,hx⟩:=zk (i:=i) (l:=s.ls) (by omega)
   have qe:=aI qR @hx;repeat' first|refine gC ?_ ?_<;>intro hc<;>try contradiction|refine gG ?_|show AK _;intro J Z|refine gJ ?_|omega|exact aT
   ·rw [ztn,hsh,znU hx (by rw [zvK,zlE,decide_eq_true hc];rfl)];exact .refl _
   ·exact ⟨i+1,⟨by omega,zfW hi.2 hx (by rw [zvK,zlE,decide_eq_false (by omega)];rfl)⟩,by omega,by simp⟩
  ·have e:i=s.ls.length:=by omega
   subst e;have ha:=zjv hi.2;have qe:=@qR;repeat' first|refine gC ?_ ?_<;>intro hc<;>try contradiction|refine gG ?_|show AK _;intro J Z|refine gJ ?_|omega|exact aT
   refine zh (κ:=Nat) (λi=>⟨[(1,.lp 1 0),(4,.p (.i .i64 i))],[(1,.box (s.cells.map .p) false)],[],false⟩) (λi=>i<=s.sh.length/\∀ y ∈ s.sh.take i,zlE y=true) (λi=>s.sh.length - i) 0 ?_ ?_ ?_
   ·exact sS
   ·simp
   ·intro i hi
    repeat first|refine gG ?_|show AK _;intro J Z|refine gJ ?_|omega|exact aT
    (refine gC ?_ ?_<;>intro hc<;>try contradiction)
    ·obtain ⟨y,hx⟩:=zk (i:=i) (l:=s.sh) (by omega)
     have qe:=aI qR @hx;repeat' first|refine gC ?_ ?_<;>intro hc<;>try contradiction|refine gG ?_|show AK _;intro J Z|refine gJ ?_|omega|exact aT
     ·rw [ztn,hsh,ha,znU hx (by rw [zlE,decide_eq_true hc];rfl)];exact .refl _
     ·exact ⟨i+1,⟨by omega,zfW hi.2 hx (by rw [zlE,decide_eq_false (by omega)];rfl)⟩,by omega,by simp⟩
    ·have qe:=@qR;repeat' first|refine gC ?_ ?_<;>intro hc<;>try contradiction|refine gG ?_|show AK _;intro J Z|refine gJ ?_|omega|exact aT
     have e:i=s.sh.length:=by omega
     subst e;rw [ztn,hsh,ha,zjv hi.2];exact .refl _
def zD3 (b:Bk):Bool:=(decide ((5:Int) < b.slots.length) && !decide ((b.slots.length:Int)=65)) || (decide ((5:Int) < b.wait.length) && !decide ((b.wait.length:Int)=65))
def okWs (w:Wsh):Bool:=zdM w.req
def zpH (b:Bk):Bool:=!zD3 b && (b.slots.all ztn && b.wait.all okWs)
def zm4 (b:Bk):Pure prog 22 [b.pv] (.b (zpH b)):=by
 refine pz func22 f22.eq_1 λhw X hX=>?_
 simp only [wfs,PV.wf,xaf,maxLen] at hw;have qe:=@qR;repeat' first|refine gC ?_ ?_<;>intro hc<;>try contradiction|refine gG ?_|show AK _;intro J Z|refine gJ ?_|omega|exact aT
 ·have:zD3 b=true:=by simpa [zD3] using hc
  rw [zpH,this];exact .refl _
 have hsh:zD3 b=false:=by simpa [zD3] using hc
 refine zh (κ:=Nat) (λi=>⟨[(1,.lp 1 0),(3,.p (.i .i64 i))],[(1,.box [.p (.sl 16 (b.slots.map Slt.pv)),.p (.sl 14 (b.wait.map Wsh.pv))] false)],[],false⟩) (λi=>i<=b.slots.length/\∀ y ∈ b.slots.take i,ztn y=true) (λi=>b.slots.length - i) 0 ?_ ?_ ?_
 ·exact sS
 ·simp
 ·intro i hi
  repeat first|refine gG ?_|show AK _;intro J Z|refine gJ ?_|omega|exact aT
  (refine gC ?_ ?_<;>intro hc<;>try contradiction)
  ·obtain ⟨y,hx⟩:=zk (i:=i) (l:=b.slots) (by omega)
   have qe:=aI qR @hx;repeat' first|refine gC ?_ ?_<;>intro hc<;>try contradiction|refine za (zvu y) ?_|refine gG ?_|show AK _;intro J Z|refine gJ ?_|omega|exact aT
   ·rw [zpH,hsh,znU hx hc];exact .refl _
   ·exact ⟨i+1,⟨by omega,zfW hi.2 hx hc⟩,by omega,by simp⟩
  ·have e:i=b.slots.length:=by omega
   subst e;have ha:=zjv hi.2;have qe:=@qR;repeat' first|refine gC ?_ ?_<;>intro hc<;>try contradiction|refine gG ?_|show AK _;intro J Z|refine gJ ?_|omega|exact aT
   refine zh (κ:=Nat) (λi=>⟨[(1,.lp 1 0),(4,.p (.i .i64 i))],[(1,.box [.p (.sl 16 (b.slots.map Slt.pv)),.p (.sl 14 (b.wait.map Wsh.pv))] false)],[],false⟩) (λi=>i<=b.wait.length/\∀ y ∈ b.wait.take i,okWs y=true) (λi=>b.wait.length - i) 0 ?_ ?_ ?_
   ·exact sS
   ·simp
   ·intro i hi
    repeat first|refine gG ?_|show AK _;intro J Z|refine gJ ?_|omega|exact aT
    (refine gC ?_ ?_<;>intro hc<;>try contradiction)
    ·obtain ⟨y,hx⟩:=zk (i:=i) (l:=b.wait) (by omega)
     have qe:=aI qR @hx;repeat' first|refine gC ?_ ?_<;>intro hc<;>try contradiction|refine za (zm2 y.req) ?_|refine gG ?_|show AK _;intro J Z|refine gJ ?_|omega|exact aT
     ·rw [zpH,hsh,ha,znU hx (by rw [okWs];exact hc)];exact .refl _
     ·exact ⟨i+1,⟨by omega,zfW hi.2 hx (by rw [okWs];exact hc)⟩,by omega,by simp⟩
    ·have qe:=@qR;repeat' first|refine gC ?_ ?_<;>intro hc<;>try contradiction|refine gG ?_|show AK _;intro J Z|refine gJ ?_|omega|exact aT
     have e:i=b.wait.length:=by omega
     subst e;rw [zpH,hsh,ha,zjv hi.2];exact .refl _
def zBf (b:Bk) (n:ByteArray) (d:Int):Int:=zf [zdN b.slots n,rng d 0 99999,if d ∈ zq (zl b n).req.per then 0 else 30]
def rOpR (b:Bk) (n:ByteArray) (d:Int):ByteArray:=if zBf b n d=0 then zvH (zl b n) d else s0
end Go.Proofs.YtocamnijnhnlfaaGreat
