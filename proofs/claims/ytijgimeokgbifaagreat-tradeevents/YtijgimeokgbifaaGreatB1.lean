/- Contracts of functions, for the claim. No conditions. -/
import Derived.Test.YtijgimeokgbifaaGreatRows
import Derived.Test.YtijgimeokgbifaaGreatB0
set_option linter.all false
set_option maxHeartbeats 8000000
set_option maxRecDepth 100000
namespace Go.Proofs.YtijgimeokgbifaaGreat
open Go.RowKit Go.Proofs.Tryz
def yr (l:List Int):Pure prog 12 [.sl 1 (l.map (.i .i64))] (.i .i64 (zf l)):=by
 refine pz func12 f12.eq_1 λhw X hX=>?_
 simp only [wfs,PV.wf,xaf,maxLen] at hw
 repeat' first|refine gC ?_ ?_<;>intro hc<;>try contradiction|refine gG ?_|show AK _;intro J Z|refine gJ ?_|omega|exact aT
 refine zi (κ:=Nat) (λi=>⟨[(0,.p (.sl 1 (l.map (.i .i64)))),(3,.p (.i .i64 i))],[],[],false⟩) (λi=>i<=l.length/\∀ x ∈ l.take i,x=0) (λi=>l.length - i) 0 ?_ ?_ ?_
 .exact sR
 .simp
 .intro i hi
  repeat first|refine gG ?_|show AK _;intro J Z|refine gJ ?_|omega|exact aT
  (refine gC ?_ ?_<;>intro hc<;>try contradiction)
  .obtain ⟨x,hx⟩:=zm (i:=i) (l:=l) (by omega)
   have qe:=@hx;repeat' first|refine gC ?_ ?_<;>intro hc<;>try contradiction|refine gG ?_|show AK _;intro J Z|refine gJ ?_|omega|exact aT
   .rw [zT hi.2 hx hc];exact .refl _
   .exact ⟨i+1,⟨by omega,zaB hi.2 hx hc⟩,by omega,by simp⟩
  .repeat' first|refine gC ?_ ?_<;>intro hc<;>try contradiction|refine gG ?_|show AK _;intro J Z|refine gJ ?_|omega|exact aT
   have e:i=l.length:=by omega
   subst e;rw [z4 hi.2];exact .refl _
def yu (L:List ByteArray) (x:ByteArray):Pure prog 103 [.sl 1 (L.map .s),.s x] (.b (decide (0<=atL x L))):=by
 refine pz func103 f103.eq_1 λhw X hX=>?_
 simp only [wfs,PV.wf,xaf,maxLen] at hw
 repeat' first|refine gC ?_ ?_<;>intro hc<;>try contradiction|refine gG ?_|show AK _;intro J Z|refine gJ ?_|omega|exact aT
 refine zi (κ:=Nat) (λi=>⟨[(0,.p (.sl 1 (L.map .s))),(1,.p (.s x)),(5,.p (.i .i64 i))],[],[],false⟩) (λi=>i<=L.length/\∀ y ∈ L.take i,y≠x) (λi=>L.length - i) 0 ?_ ?_ ?_
 .exact sR
 .simp
 .intro i hi
  repeat first|refine gG ?_|show AK _;intro J Z|refine gJ ?_|omega|exact aT
  (refine gC ?_ ?_<;>intro hc<;>try contradiction)
  .obtain ⟨y,hy⟩:=zm (i:=i) (l:=L) (by omega)
   have qe:=@hy;repeat' first|refine gC ?_ ?_<;>intro hc<;>try contradiction|refine gG ?_|show AK _;intro J Z|refine gJ ?_|omega|exact aT
   .rw [zjU hi.2 (by rw [hy,hc]),decide_eq_true (by omega)];exact .refl _
   .refine ⟨i+1,⟨by omega,λz hz=>?_⟩,by omega,by simp⟩
    rw [zam hy] at hz
    rcases xaD.1 hz with h|h
    .exact hi.2 z h
    .simp at h;subst h;exact hc
  .repeat' first|refine gC ?_ ?_<;>intro hc<;>try contradiction|refine gG ?_|show AK _;intro J Z|refine gJ ?_|omega|exact aT
   have e:i=L.length:=by omega
   subst e;rw [zjV (λy hy=>hi.2 y (by rw [xag (by simp)];exact hy))];exact .refl _
def yf (L:List Slt) (n:ByteArray):Pure prog 46 [.sl 16 (L.map Slt.pv),.s n] (.i .i64 (atL n (L.map (·.req.name)))):=by
 refine pz func46 f46.eq_1 λhw X hX=>?_
 simp only [wfs,PV.wf,xaf,maxLen] at hw;rw [<-zg7]
 repeat' first|refine gC ?_ ?_<;>intro hc<;>try contradiction|refine gG ?_|show AK _;intro J Z|refine gJ ?_|omega|exact aT
 refine zi (κ:=Nat) (λi=>⟨[(0,.p (.sl 16 (L.map Slt.pv))),(1,.p (.s n)),(5,.p (.i .i64 i))],[],[],false⟩) (λi=>i<=L.length/\∀ y ∈ L.take i,decide (y.req.name=n)=false) (λi=>L.length - i) 0 ?_ ?_ ?_
 .exact sR
 .simp
 .intro i hi
  repeat first|refine gG ?_|show AK _;intro J Z|refine gJ ?_|omega|exact aT
  (refine gC ?_ ?_<;>intro hc<;>try contradiction)
  .obtain ⟨y,hy⟩:=zm (i:=i) (l:=L) (by omega)
   have qe:=@hy;repeat' first|refine gC ?_ ?_<;>intro hc<;>try contradiction|refine gG ?_|show AK _;intro J Z|refine gJ ?_|omega|exact aT
   .rw [zdt hi.2 hy (by simpa using hc)];exact .refl _
   .exact ⟨i+1,⟨by omega,zgq hi.2 hy (by simpa using hc)⟩,by omega,by simp⟩
  .repeat' first|refine gC ?_ ?_<;>intro hc<;>try contradiction|refine gG ?_|show AK _;intro J Z|refine gJ ?_|omega|exact aT
   have e:i=L.length:=by omega
   subst e;rw [zdu (λy hy=>hi.2 y (by rw [xag (by simp)];exact hy))];exact .refl _
def yh (L:List Wsh) (n:ByteArray):Pure prog 48 [.sl 14 (L.map Wsh.pv),.s n] (.i .i64 (atL n (L.map (·.req.name)))):=by
 refine pz func48 f48.eq_1 λhw X hX=>?_
 simp only [wfs,PV.wf,xaf,maxLen] at hw;rw [<-zg7]
 repeat' first|refine gC ?_ ?_<;>intro hc<;>try contradiction|refine gG ?_|show AK _;intro J Z|refine gJ ?_|omega|exact aT
 refine zi (κ:=Nat) (λi=>⟨[(0,.p (.sl 14 (L.map Wsh.pv))),(1,.p (.s n)),(5,.p (.i .i64 i))],[],[],false⟩) (λi=>i<=L.length/\∀ y ∈ L.take i,decide (y.req.name=n)=false) (λi=>L.length - i) 0 ?_ ?_ ?_
 .exact sR
 .simp
 .intro i hi
  repeat first|refine gG ?_|show AK _;intro J Z|refine gJ ?_|omega|exact aT
  (refine gC ?_ ?_<;>intro hc<;>try contradiction)
  .obtain ⟨y,hy⟩:=zm (i:=i) (l:=L) (by omega)
   have qe:=@hy;repeat' first|refine gC ?_ ?_<;>intro hc<;>try contradiction|refine gG ?_|show AK _;intro J Z|refine gJ ?_|omega|exact aT
   .rw [zdt hi.2 hy (by simpa using hc)];exact .refl _
   .exact ⟨i+1,⟨by omega,zgq hi.2 hy (by simpa using hc)⟩,by omega,by simp⟩
  .repeat' first|refine gC ?_ ?_<;>intro hc<;>try contradiction|refine gG ?_|show AK _;intro J Z|refine gJ ?_|omega|exact aT
   have e:i=L.length:=by omega
   subst e;rw [zdu (λy hy=>hi.2 y (by rw [xag (by simp)];exact hy))];exact .refl _
def yd (s:ByteArray):Pure prog 100 [.s s] (.i .i64 (zaG s)):=by
 refine pz func100 f100.eq_1 λhw X hX=>?_
 repeat' first|refine gC ?_ ?_<;>intro hc<;>try contradiction|refine za (yaB _) ?_|refine gG ?_|show AK _;intro J Z|refine gJ ?_|omega|exact aT
 .rw [zaG,if_pos hc];exact .refl _
 .rw [zaG,if_neg (by rw [hc];simp)];exact .refl _
def yN (l:Lea):Pure prog 101 [l.pv] (.i .i64 (zdC l)):=by
 refine pz func101 f101.eq_1 λhw X hX=>?_
 have hsp:zdC l=zf ([zaG l.carrier,rng l.fro 0 99999,rng l.to 0 99999]++[if l.to < l.fro then 11 else 0]):=rfl
 rw [zoD,zfj] at hsp;have qe:=@qR;repeat' first|refine gC ?_ ?_<;>intro hc<;>try contradiction|refine za (yd _) ?_|refine za (yM _) ?_|refine za (yr [_,_,_]) ?_|refine gG ?_|show AK _;intro J Z|refine gJ ?_|omega|exact aT
 .rw [hsp,if_pos hc.1,if_pos hc.2];exact .refl _
 .by_cases h:zf [zaG l.carrier,rng l.fro 0 99999,rng l.to 0 99999]=0
  .have:=hc h;rw [hsp,if_pos h,if_neg (by omega),h];exact .refl _
  .rw [hsp,if_neg h];exact .refl _
def yT (s:Slt) (l:Lea):Pure prog 102 [s.pv,l.pv] (.i .i64 (zfH s.raw l)):=by
 refine pz func102 f102.eq_1 λhw X hX=>?_
 have qe:=@qR;repeat' first|refine gC ?_ ?_<;>intro hc<;>try contradiction|refine gG ?_|show AK _;intro J Z|refine gJ ?_|omega|exact aT
 .rw [zfH,za1 (by rw [if_pos hc];omega),if_pos hc];exact .refl _
 .rw [zfH,za2 (if_neg (by simp only;omega)),zfj,if_pos hc];exact .refl _
 .rw [zfH,za2 (if_neg (by simp only;omega)),zfj,if_neg hc];exact .refl _
def ydm (s:ByteArray):Pure prog 230 [.s s] (.b (decide (s=s0) || zcA s)):=by
 refine pz func230 f230.eq_1 λhw X hX=>?_
 have jA:=λu1=>yaB u1;exact gD2
def yeu {a b c t l:ByteArray} (h:(((zcA a=false\/zcA b=false)\/zcA c=false)\/¬t=s0/\zcA t=false)\/¬l=s0/\zcA l=false):zf [zaG a,zaG b,zaG c,zmF t,zmF l]=8:=by
 simp only [zf,zaG,zmF]
 (repeat' split)<;>simp_all
def five_0 {a b c t l:ByteArray} (h:(((¬zcA a=false/\zcA b=true)/\zcA c=true)/\(t=s0\/zcA t=true))/\(l=s0\/zcA l=true)):zf [zaG a,zaG b,zaG c,zmF t,zmF l]=0:=by
 simp only [zf,zaG,zmF]
 (repeat' split)<;>simp_all
def yds (r:Req):Pure prog 178 [r.pv] (.i .i64 (zvK r)):=by
 refine pz func178 f178.eq_1 λhw X hX=>?_
 have hsp:zvK r=zf ([zaG r.name,zaG r.carrier,zaG r.partner,zmF r.term,zmF r.link]++[zcC r.kind,if r.link=r.name then 32 else 0,zat r.per,rng r.minute 0 1439,rng r.seats 0 999,rng r.size 1 9,rng r.noise 0 99]):=rfl
 rw [zoD] at hsp;have qe:=@qR;repeat' first|refine gC ?_ ?_<;>intro hc<;>try contradiction|refine zp (λ_=>yaB _) ?_|refine za (yaB _) ?_|refine zp (λ_=>ydm _) ?_|refine za (y8 r.per) ?_|refine za (yZ _ _ _) ?_|refine za (yr [_,_,_,_]) ?_|refine gG ?_|show AK _;intro J Z|refine gJ ?_|omega|exact aT
 .rw [hsp,if_neg (by rw [yeu hc];omega),yeu hc];exact .refl _
 all_goals rw [if_pos (five_0 (by assumption))] at hsp
 .rw [hsp,za1 (by rw [zcC,if_pos hc];omega),zcC,if_pos hc];exact .refl _
 all_goals rw [za2 (show zcC r.kind=0 by rw [zcC,if_neg (λe=>e.2 ((by assumption:¬r.kind=bs [65]->r.kind=bs [68]) e.1))])] at hsp
 .rw [hsp,za1 (by rw [if_pos hc];omega),if_pos hc];exact .refl _
 all_goals rw [za2 (if_neg (by assumption))] at hsp
 .rw [hsp,za1 hc];exact .refl _
 .rw [hsp,za2 hc];exact .refl _
def ya1 {r:Req} (h:zvK r=0):zat r.per=0:=fE0 (show zf [zaG r.name,zaG r.carrier,zaG r.partner,zmF r.term,zmF r.link,zcC r.kind,if r.link=r.name then 32 else 0,zat r.per,rng r.minute 0 1439,rng r.seats 0 999,rng r.size 1 9,rng r.noise 0 99]=0 from h) _ (by simp)
def yG (r:Req):Pure prog 99 [r.pv] (.i .i64 (zsh r)):=by
 refine pz func99 f99.eq_1 λhw X hX=>?_
 have qe:=aI qR (@List.length_map.{0,0});repeat' first|refine gC ?_ ?_<;>intro hc<;>try contradiction|refine za (yds r) ?_|(show zh _ _ _ _ (⟨_,.call 65,_,_,_⟩::_) _ _;refine zbh (hf:=λhc=>(by first|exact yaC r.per (ya1 (by simpa using hc))|(simp only [qH,zdl] at hc;exact yaC r.per (ya1 (by simpa using hc))))) (hn:=?_))|refine gG ?_|show AK _;intro J Z|refine gJ ?_|omega|exact aT
 .have h2:zW r.per=[]:=by simpa using hc.2
  rw [zsh,hc.1,za2 rfl,zfj,if_pos h2];exact .refl _
 .by_cases h:zvK r=0
  .have h2:¬zW r.per=[]:=by simpa using hc h
   rw [show zsh r=0 by rw [zsh,za2 h,zfj,if_neg h2],h];exact .refl _
  .rw [zsh,za1 h];exact .refl _
def yq (w:Wsh):Pure prog 47 [w.pv] (.i .i64 (zkY w)):=by
 refine pz func47 f47.eq_1 λhw X hX=>?_
 have qe:=@qR;have jA:=yG w.req;have jB:=λu1 u2 u3=>yZ u1 u2 u3;have jC:=λu1 u2=>yr [u1,u2];exact gD4
def ycb (L:List Slt) (n:ByteArray):Int:=if atL n (L.map (·.req.name)) < 0 then 0 else atL n (L.map (·.req.name))
def yk (b:Bk) (n:ByteArray):Pure prog 109 [b.pv,.s n] (.tup [.i .i64 (ycb b.slots n),.i .i64 (zfd b.slots n)]):=by
 refine pz func109 f109.eq_1 λhw X hX=>?_
 repeat' first|refine gC ?_ ?_<;>intro hc<;>try contradiction|refine za (yf b.slots n) ?_|refine gG ?_|show AK _;intro J Z|refine gJ ?_|omega|exact aT
 .rw [ycb,zfd,if_pos hc,if_pos hc];exact .refl _
 .rw [ycb,zfd,if_neg (by omega),if_neg (by omega)];exact .refl _
def yg (a b:Wsh):Bool:=decide (a.rank < b.rank) || (decide (a.rank=b.rank) && Op.bytesLess a.req.name.toList b.req.name.toList)
def yak (a b:Wsh):Pure prog 49 [a.pv,b.pv] (.b (yg a b)):=by
 refine pz func49 f49.eq_1 λhw X hX=>?_
 rw [yg]
 rcases Int.lt_trichotomy a.rank b.rank with h|h|h
 .have h1:(a.rank < b.rank)=True:=eq_true h;have h2:(a.rank=b.rank)=False:=eq_false (by omega)
  have qe:=aI @h1 (aI @h2 yDF);repeat' first|refine gC ?_ ?_<;>intro hc<;>try contradiction|refine gG ?_|show AK _;intro J Z|refine gJ ?_|omega|exact aT
  all_goals simp only [h1,h2,decide_true,decide_false,xcE]
  all_goals exact .refl _
 .have h1:(a.rank < b.rank)=False:=eq_false (by omega)
  have h2:(a.rank=b.rank)=True:=eq_true h;have qe:=aI @h1 (aI @h2 yDF);repeat' first|refine gC ?_ ?_<;>intro hc<;>try contradiction|refine gG ?_|show AK _;intro J Z|refine gJ ?_|omega|exact aT
  all_goals simp only [h1,h2,decide_true,decide_false,xcf,xbo]
  all_goals exact .refl _
 .have h1:(a.rank < b.rank)=False:=eq_false (by omega)
  have h2:(a.rank=b.rank)=False:=eq_false (by omega)
  have qe:=aI @h1 (aI @h2 yDF);repeat' first|refine gC ?_ ?_<;>intro hc<;>try contradiction|refine gG ?_|show AK _;intro J Z|refine gJ ?_|omega|exact aT
  all_goals simp only [h1,h2,decide_true,decide_false,xcf,xbs]
  all_goals exact .refl _
section
variable {α:Type}
theorem ya5 (bef:α->α->Bool) (x:α) (out:List α):∀ n,zbx bef x out n<=n
 | 0=>xaj _
 | n+1=>by
  have:=ya5 bef x out n;simp only [zbx];(repeat' split)<;>omega
theorem ya6 (bef:α->α->Bool) (x:α) (out:List α):∀ n i,zbx bef x out n<=i->i < n->∃ y,out[i]?=some y/\bef x y=true
 | 0,i,_,h=>by omega
 | n+1,i,h,hi=>by
  simp only [zbx] at h
  split at h
  .rename_i y hy
   split at h
   .by_cases e:i=n
    .subst e;exact ⟨y,hy,by assumption⟩
    .exact ya6 bef x out n i h (by omega)
   .omega
  .omega
theorem yar (bef:α->α->Bool) (x:α) (out:List α):∀ n k y,zbx bef x out n=k+1->out[k]?=some y->bef x y=false
 | 0,_,_,h,_=>by cases h
 | n+1,k,y,h,hy=>by
  simp only [zbx] at h
  split at h
  .rename_i z hz
   split at h
   .exact yar bef x out n k y h hy
   .have e:n=k:=by omega
    subst e;rw [hz] at hy;cases hy;rename_i hb;simpa using hb
  .rename_i hz;have e:n=k:=by omega
   subst e;rw [hz] at hy;cases hy
end
def mvS (l:List Slt):List Mov:=l.foldl (λout s=>zf5 zk3 out (zrw s.req)) []
def ybR {l:List Slt} {k:Nat} {s:Slt} (h:l[k]?=some s):mvS (l.take (k+1))=zf5 zk3 (mvS (l.take k)) (zrw s.req):=by
 rw [zam h,mvS,xa2];rfl
def ybK (L:List Slt) (h:∀ s ∈ L,zdB s.req=0) (hb:∀ s ∈ L,(zrw s.req).length<=1000) (hn:L.length<=900):Pure prog 106 [.sl 16 (L.map Slt.pv)] (.sl 7 ((mvS L).map Mov.pv)):=by
 refine pz func106 f106.eq_1 λhw X hX=>?_
 repeat' first|refine gC ?_ ?_<;>intro hc<;>try contradiction|refine gG ?_|show AK _;intro J Z|refine gJ ?_|omega|exact aT
 refine yc8 3 (.sl 7 ([]:List PV)) ?_;refine zi (κ:=Nat) (λk=>⟨[(0,.p (.sl 16 (L.map Slt.pv))),(3,.p (.sl 7 ((mvS (L.take k)).map Mov.pv))),(4,.p (.i .i64 k))],[],[],false⟩) (λk=>k<=L.length/\(mvS (L.take k)).length<=1000*k) (λk=>L.length - k) 0 ?_ ?_ ?_
 .simp only [frzs,St.wrs,qS,seval]<;>simp [mvS]
 .simp [mvS]
 .intro k hk
  repeat first|refine gG ?_|show AK _;intro J Z|refine gJ ?_|omega|exact aT
  (refine gC ?_ ?_<;>intro hc<;>try contradiction)
  .obtain ⟨s,hx⟩:=zm (i:=k) (l:=L) (by omega)
   have hm:=xad hx;have hl:=hb s hm;have hnx:=ybR hx;have qe:=aI qR @hx;repeat' first|refine gC ?_ ?_<;>intro hc<;>try contradiction|refine za (yen s.req (h s hm)) ?_|refine za (pure69 (mvS (L.take k)) (zrw s.req) (by omega)) ?_|refine gG ?_|show AK _;intro J Z|refine gJ ?_|omega|exact aT
   refine ⟨k+1,⟨by omega,?_⟩,by omega,⟨by rw [hnx],by simp⟩⟩
   rw [hnx,(zlQ zk3 _ _).length_eq,xae];omega
  .repeat' first|refine gC ?_ ?_<;>intro hc<;>try contradiction|refine gG ?_|show AK _;intro J Z|refine gJ ?_|omega|exact aT
   have e:k=L.length:=by omega
   subst e;rw [xas];exact .refl _
def yaV (b:Bk) (c n:ByteArray):Int:=if zaG c=0 then ycb b.slots n else 0
def ybh (d:Nat) (look:Nat->Option LObj) (o:BinOp) (c:ByteArray):zb d look (.bin o) [.p .any,.p (.s c)]=none:=rfl
def ifF (a b:PV):(if False then a else b)=b:=if_neg (λh=>h)
def yey:(PV.any.cells[13]?).getD .any=.any:=rfl
def yc (b:Bk) (c n:ByteArray) (a:Int):Pure prog 107 [b.pv,.s c,.s n,.i .i64 a] (.tup [.i .i64 (yaV b c n),.i .i64 (zhn b c n a)]):=by
 refine pz func107 f107.eq_1 λhw X hX=>?_
 by_cases h1:zaG c=0
 .by_cases h2:atL n (b.slots.map (·.req.name)) < 0
  .have f1:zfd b.slots n=10:=by rw [zfd,if_pos h2]
   have f2:ycb b.slots n=0:=by rw [ycb,if_pos h2]
   have e1:(zaG c=0)=True:=eq_true h1;have e2:((10:Int)=0)=False:=eq_false (by omega)
   rcases hsl:b.slots[0]? with _|s
   .have qe:=aI qR (aI @e1 (aI @f1 (aI @f2 (aI @e2 (aI @hsl (aI @ybh (aI @yey (aI @false_and (aI @ifF yDF)))))))));repeat' first|refine gC ?_ ?_<;>intro hc<;>try contradiction|refine za (yd c) ?_|refine za (yk b n) ?_|refine gG ?_|show AK _;intro J Z|refine gJ ?_|omega|exact aT
    all_goals (rw [show yaV b c n=0 by rw [yaV,if_pos h1,f2],show zhn b c n a=10 by rw [zhn,za2 h1,za1 (by rw [f1];omega),f1]];exact .refl _)
   .have hl0:0 < b.slots.length:=(xaa.1 hsl).1;have qe:=aI qR (aI @e1 (aI @f1 (aI @f2 (aI @e2 (aI @hsl yDF)))));repeat' first|refine gC ?_ ?_<;>intro hc<;>try contradiction|refine za (yd c) ?_|refine za (yk b n) ?_|refine gG ?_|show AK _;intro J Z|refine gJ ?_|omega|exact aT
    all_goals (rw [show yaV b c n=0 by rw [yaV,if_pos h1,f2],show zhn b c n a=10 by rw [zhn,za2 h1,za1 (by rw [f1];omega),f1]];exact .refl _)
  .obtain ⟨s,hs⟩:=zdL h2;have hlt:=zdD n (b.slots.map (·.req.name));rw [xaf] at hlt;have f1:zfd b.slots n=0:=by rw [zfd,if_neg h2]
   have f2:ycb b.slots n=atL n (b.slots.map (·.req.name)):=by rw [ycb,if_neg h2]
   have hso:zn b n=s:=by rw [zn,hs];rfl
   have e1:(zaG c=0)=True:=eq_true h1;have qe:=aI qR (aI @e1 (aI @f1 (aI @f2 (aI @hs yDF))));repeat' first|refine gC ?_ ?_<;>intro hc<;>try contradiction|refine za (yd c) ?_|refine za (yk b n) ?_|refine gG ?_|show AK _;intro J Z|refine gJ ?_|omega|exact aT
   .rw [show yaV b c n=atL n (b.slots.map (·.req.name)) by rw [yaV,if_pos h1,f2],show zhn b c n a=31 by rw [zhn,za2 h1,za2 f1,za2 hc.1,zfj,hso,if_neg hc.2]];exact .refl _
   .have ha:zhn b c n a=a:=by
     rw [zhn,za2 h1,za2 f1]
     by_cases h0:a=0
     .rw [za2 h0,zfj,hso,if_pos (hc h0),h0]
     .rw [za1 h0]
    rw [show yaV b c n=atL n (b.slots.map (·.req.name)) by rw [yaV,if_pos h1,f2],ha];exact .refl _
 .have e1:(zaG c=0)=False:=eq_false h1
  rcases hsl:b.slots[0]? with _|s
  .have qe:=aI qR (aI @e1 (aI @hsl (aI @ybh (aI @yey (aI @false_and (aI @ifF yDF))))));repeat' first|refine gC ?_ ?_<;>intro hc<;>try contradiction|refine za (yd c) ?_|refine gG ?_|show AK _;intro J Z|refine gJ ?_|omega|exact aT
   all_goals (rw [show yaV b c n=0 by rw [yaV,if_neg h1],show zhn b c n a=zaG c by rw [zhn,za1 h1]];exact .refl _)
  .have hl0:0 < b.slots.length:=(xaa.1 hsl).1;have qe:=aI qR (aI @e1 (aI @hsl yDF));repeat' first|refine gC ?_ ?_<;>intro hc<;>try contradiction|refine za (yd c) ?_|refine gG ?_|show AK _;intro J Z|refine gJ ?_|omega|exact aT
   all_goals (rw [show yaV b c n=0 by rw [yaV,if_neg h1],show zhn b c n a=zaG c by rw [zhn,za1 h1]];exact .refl _)
def trE (s:Slt) (to:ByteArray):Int:=zf [if to=s.holder then 31 else 0,if 0 < (s.ls.length:Int) then 19 else 0]
def yec (L:List Slt) (i:Nat) (s:Slt) (to:ByteArray) (hs:L[i]?=some s):Acts prog 227 [.ep 900 L.length i 0,.p (.ip (.s to) 0)] [(900,.row 84 16 (L.map Slt.pv) false)] (.p (.i .i64 (trE s to)))
  [(900,.row 84 16 (if trE s to=0 then (L.map Slt.pv).set i (trW s to) else L.map Slt.pv) false)]:=by
 have hi:i < L.length:=(xaa.1 hs).1;have hi':i < (L.map Slt.pv).length:=by simpa using hi
 have hg:=λa=>zc3 (L.map Slt.pv) i a hi'
 by_cases h:trE s to=0
 .rw [if_pos h];have h1:(zf [if to=s.holder then 31 else 0,if 0 < (s.ls.length:Int) then 19 else 0]=0)=True:=eq_true h
  refine zR (cF func227 f227.eq_1) (by simp) (by simp [scPs,scP,zj]) (by simp [scObj]) ⟨rfl,trivial⟩ (by simp [scObj]) (by simp [zc1,zj]) λX hX=>?_
  unfold zE ghO;have qe:=aI qR (aI @qN (aI @gLV.eq_2 (aI @hs (aI @h1 (aI @hg (aI @List.set_set.{0} (aI @List.length_set.{0} (aI @rtN @rtR))))))));repeat' first|refine gC ?_ ?_<;>intro hc<;>try contradiction|refine za (zU _ _) ?_|refine za (zw [_,_]) ?_|refine gG ?_|show AK _;intro J Z|refine gJ ?_|omega|exact aT
  rw [h];exact .inl (.mk1 (h2:=by simp only [qS,seval,keepG.eq_1,keepG.eq_2,gLV.eq_2]<;>simp))
 .rw [if_neg h];have h1:(zf [if to=s.holder then 31 else 0,if 0 < (s.ls.length:Int) then 19 else 0]=0)=False:=eq_false h
  refine zR (cF func227 f227.eq_1) (by simp) (by simp [scPs,scP,zj]) (by simp [scObj]) ⟨rfl,trivial⟩ (by simp [scObj]) (by simp [zc1,zj]) λX hX=>?_
  unfold zE ghO;have qe:=aI qR (aI @qN (aI @gLV.eq_2 (aI @hs (aI @h1 (aI @hg (aI @List.set_set.{0} (aI @List.length_set.{0} (aI @rtN @rtR))))))));repeat' first|refine gC ?_ ?_<;>intro hc<;>try contradiction|refine za (zU _ _) ?_|refine za (zw [_,_]) ?_|refine gG ?_|show AK _;intro J Z|refine gJ ?_|omega|exact aT
  exact .inl (.mk1 (h2:=by simp only [qS,seval,keepG.eq_1,keepG.eq_2,gLV.eq_2]<;>simp))
def trC (b:Bk) (c n to:ByteArray):Int:=zfM b c n (zaG to) (trE (zn b n) to)
def trB (b:Bk) (c n to:ByteArray):Bk:=if trC b c n to=0 then zo8 b n (trS (zn b n) to) else bk0
def ydo (b:Bk) (c n to:ByteArray) (hb:zfy b):Pure prog 168 [b.pv,.s c,.s n,.s to] (.tup [(trB b c n to).pv,.i .i64 (trC b c n to)]):=by
 have hch:=zk0 (caps:=[.ip (.s to) 0]) b c n (zaG to) (trE (zn b n) to) (trS (zn b n) to) (trW (zn b n) to) (b.slots.map Slt.pv) hb (zwf _ _) (by simp) λh=>yec b.slots (zx b n) (zn b n) to (za6 h).2.1
 refine pz func168 f168.eq_1 λhw X hX=>?_
 have qe:=aI qR @qN;have jA:=zbv to;have jB:=hch;exact gD2
def trB_0 {b:Bk} {c n to:ByteArray} (h:trC b c n to≠0):trB b c n to=bk0:=if_neg h
def rtQ (q:Req) (m:Int):Req:={ q with minute:=m }
def rtS (s:Slt) (m:Int):Slt:=⟨rtQ s.req m,s.holder,s.ls,s.sh⟩
def rtE (l:List Lim) (b:Bk) (n:ByteArray) (s:Slt) (m:Int):Int:=if zjz l (movF b (atL n (b.slots.map (·.req.name)))) (rtQ s.req m)=true then 0 else 14
def yee (l:List Lim) (b:Bk) (n:ByteArray) (i:Nat) (s:Slt) (m:Int) (hb:zfy b) (hs:b.slots[i]?=some s):Acts prog 229 [.ep 900 b.slots.length i 0,.p (.ip (.i .i64 m) 0),.p (.ip (.sl 11 (l.map Lim.pv)) 0),.p (.ip (.agg [.sl 16 (b.slots.map Slt.pv),.sl 14 (b.wait.map Wsh.pv)]) 0),.p (.ip (.s n) 0)] [(900,.row 84 16 (b.slots.map Slt.pv) false)] (.p (.i .i64 (rtE l b n s m)))
  [(900,.row 84 16 ((b.slots.map Slt.pv).set i (rtS s m).pv) false)]:=by
 obtain ⟨hs1,hn,hwl⟩:=hb;have hi:i < b.slots.length:=(xaa.1 hs).1;have hi':i < (b.slots.map Slt.pv).length:=by simpa using hi
 have hg:=λa=>zc3 (b.slots.map Slt.pv) i a hi'
 have hE:(if zjz l (mvF (rqW (b.slots.map (·.req)) (atL n (b.slots.map (·.req.name))))) (rtQ s.req m)=false then (14:Int) else 0)=rtE l b n s m:=by
  rw [rtE,movF];cases zjz l (mvF (rqW (b.slots.map (·.req)) (atL n (b.slots.map (·.req.name))))) (rtQ s.req m)<;>rfl
 refine zR (cF func229 f229.eq_1) (by simp) (by simp [scPs,scP,zj]) (by simp [scObj]) ⟨rfl,trivial⟩ (by simp [scObj]) (by simp [zc1,zj]) λX hX=>?_
 unfold zE ghO;have qe:=aI qR (aI @qN (aI @gLV.eq_2 (aI @hs (aI @hg (aI @hE (aI @List.set_set.{0} (aI @List.length_set.{0} (aI @rtN @rtR))))))));repeat' first|refine gC ?_ ?_<;>intro hc<;>try contradiction|refine za (za7 b n) ?_|refine zbM (hf:=zgL b.slots b.wait _ (by omega)) (hn:=?_)|refine za (zeq l _ (rtQ s.req m)) ?_|refine za (zU _ _) ?_|refine gG ?_|show AK _;intro J Z|refine gJ ?_|omega|exact aT
 exact .inl (.mk1 (h2:=by simp only [qS,seval,keepG.eq_1,keepG.eq_2,gLV.eq_2]<;>simp))
def rtC (l:List Lim) (b:Bk) (c n:ByteArray) (m:Int):Int:=zfM b c n (rng m 0 1439) (rtE l b n (zn b n) m)
def rtB (l:List Lim) (b:Bk) (c n:ByteArray) (m:Int):Bk:=if rtC l b c n m=0 then zo8 b n (rtS (zn b n) m) else bk0
def ydr (l:List Lim) (b:Bk) (c n:ByteArray) (m:Int) (hb:zfy b):Pure prog 175 [b.pv,.sl 11 (l.map Lim.pv),.s c,.s n,.i .i64 m] (.tup [(rtB l b c n m).pv,.i .i64 (rtC l b c n m)]):=by
 have hch:=zk0 (caps:=[.ip (.i .i64 m) 0,.ip (.sl 11 (l.map Lim.pv)) 0,.ip (.agg [.sl 16 (b.slots.map Slt.pv),.sl 14 (b.wait.map Wsh.pv)]) 0,.ip (.s n) 0]) b c n (rng m 0 1439) (rtE l b n (zn b n) m) (rtS (zn b n) m) (rtS (zn b n) m).pv ((b.slots.map Slt.pv).set (zx b n) (rtS (zn b n) m).pv) hb (.refl _) (by simp) λh=>by
  rw [ite_self];exact yee l b n (zx b n) (zn b n) m hb (za6 h).2.1
 refine pz func175 f175.eq_1 λhw X hX=>?_
 have qe:=aI qR @qN;have jA:=zki m 0 1439;have jB:=hch;exact gD2
def rtB_0 {l:List Lim} {b:Bk} {c n:ByteArray} {m:Int} (h:rtC l b c n m≠0):rtB l b c n m=bk0:=if_neg h
def yW (N:List ByteArray):Int:=zf [if (N.length:Int) < 2 then 16 else 0,if 8 < (N.length:Int) then 5 else 0]
def yz (b:Bk) (N:List ByteArray) (i:Nat) (n:ByteArray):Int:=zf [unkE b n,if 0<=atL n (N.take i) then 9 else 0]
def yah (b:Bk) (N:List ByteArray):Int:=zf [yW N,zf (N.mapIdx (yz b N)),zeg b N]
def yQ (b:Bk) (N:List ByteArray):Bk:=if yah b N=0 then zlM b N else bk0
def yeO {b:Bk} {N:List ByteArray} (h:yah b N≠0):yQ b N=bk0:=if_neg h
def yaA {b:Bk} {N:List ByteArray} (h:∀ x ∈ N.mapIdx (yz b N),x=0):∀ n ∈ N,¬atL n (b.slots.map (·.req.name)) < 0:=λn hn=>by
 obtain ⟨i,hi⟩:=xaZ hn;have h1:=h (yz b N i n) (xad (zI hi));exact zwg (fE0 h1 _ (by simp))
def ydp (b:Bk) (N:List ByteArray) (hb:zfy b) (hn:N.length<=1000):Pure prog 172 [b.pv,.sl 1 (N.map .s)] (.tup [(yQ b N).pv,.i .i64 (yah b N)]):=by
 by_cases h:yW N=0
 .have h1:(zf [if (N.length:Int) < 2 then 16 else 0,if 8 < (N.length:Int) then 5 else 0]=0)=True:=eq_true h
  have hC:yah b N=zf [zf (N.mapIdx (yz b N)),zeg b N]:=za2 h
  by_cases hX:zf (N.mapIdx (yz b N))=0
  .have hp:=zqU b N hb;have hC2:yah b N=zeg b N:=by rw [hC,za2 hX,zfj]
   have hB:yQ b N=zlM b N:=by
    rw [yQ,hC2];split
    .rfl
    .rename_i k;rw [zuA k]
   rw [hB,hC2];refine pz func172 f172.eq_1 λhw X hX'=>?_
   have qe:=aI qR (aI @qN @h1);repeat' first|refine gC ?_ ?_<;>intro hc<;>try contradiction|refine za (zU _ _) ?_|refine za (zw [_,_]) ?_|refine gG ?_|show AK _;intro J Z|refine gJ ?_|omega|exact aT
   refine zi (κ:=Nat) (λk=>⟨[(1,.p (.sl 1 (N.map .s))),(2,.lp 2 0),(4,.lp 4 0),(5,.p (.i .i64 0)),(24,.p (.sl 1 (N.map .s))),(25,.p (.i .i64 N.length)),(26,.p (.i .i64 k))],[(2,.box [.p (.sl 16 (b.slots.map Slt.pv)),.p (.sl 14 (b.wait.map Wsh.pv))] false),(4,.box [.p .nilsl,.p .nilsl] false)],[],false⟩) (λk=>k<=N.length/\∀ x ∈ (N.mapIdx (yz b N)).take k,x=0) (λk=>N.length - k) 0 ?_ ?_ ?_
   .exact sS
   .simp
   .intro k hk
    repeat first|refine gG ?_|show AK _;intro J Z|refine gJ ?_|omega|exact aT
    (refine gC ?_ ?_<;>intro hc<;>try contradiction)
    .obtain ⟨x,hx⟩:=zm (i:=k) (l:=N) (by omega)
     have hxE:yz b N k x=0:=fE0 hX _ (xad (zI hx));have hxt:(zf [if atL x (b.slots.map (·.req.name)) < 0 then 10 else 0,if 0<=atL x (N.take k) then 9 else 0]=0)=True:=eq_true hxE
     have qe:=aI qR (aI @hx (aI @zel (aI @hxt @decide_true)));repeat' first|refine gC ?_ ?_<;>intro hc<;>try contradiction|refine za (zY b x) ?_|refine za (zgF (N.take k) x) ?_|refine za (zU _ _) ?_|refine za (zw [_,_]) ?_|refine gG ?_|show AK _;intro J Z|refine gJ ?_|omega|exact aT
     all_goals exact ⟨k+1,⟨by omega,zaB hk.2 (zI hx) hxE⟩,by omega,by simp⟩
    .have hA:∀ x ∈ N.mapIdx (yz b N),x=0:=λx hx=>by
      have e:k=(N.mapIdx (yz b N)).length:=by simp;omega
      rw [e,xas] at hk;exact hk.2 x hx
     have hp':=hp (yaA hA) hn;have qe:=aI qR @qN;have jA:=hp';exact gD2
  .have hC2:yah b N=zf (N.mapIdx (yz b N)):=by rw [hC,za1 hX]
   have hB:yQ b N=bk0:=by rw [yQ,hC2,if_neg hX]
   rw [hB,hC2];refine zar (r:=.tup [.agg [.nilsl,.nilsl],.i .i64 (zf (N.mapIdx (yz b N)))]) ?_ (zbt _);refine pz func172 f172.eq_1 λhw X hX'=>?_
   have qe:=aI qR (aI @qN @h1);repeat' first|refine gC ?_ ?_<;>intro hc<;>try contradiction|refine za (zU _ _) ?_|refine za (zw [_,_]) ?_|refine gG ?_|show AK _;intro J Z|refine gJ ?_|omega|exact aT
   refine zi (κ:=Nat) (λk=>⟨[(1,.p (.sl 1 (N.map .s))),(2,.lp 2 0),(4,.lp 4 0),(5,.p (.i .i64 0)),(24,.p (.sl 1 (N.map .s))),(25,.p (.i .i64 N.length)),(26,.p (.i .i64 k))],[(2,.box [.p (.sl 16 (b.slots.map Slt.pv)),.p (.sl 14 (b.wait.map Wsh.pv))] false),(4,.box [.p .nilsl,.p .nilsl] false)],[],false⟩) (λk=>k<=N.length/\∀ x ∈ (N.mapIdx (yz b N)).take k,x=0) (λk=>N.length - k) 0 ?_ ?_ ?_
   .exact sS
   .simp
   .intro k hk
    repeat first|refine gG ?_|show AK _;intro J Z|refine gJ ?_|omega|exact aT
    (refine gC ?_ ?_<;>intro hc<;>try contradiction)
    .obtain ⟨x,hx⟩:=zm (i:=k) (l:=N) (by omega)
     by_cases hxE:yz b N k x=0
     .have hxt:(zf [if atL x (b.slots.map (·.req.name)) < 0 then 10 else 0,if 0<=atL x (N.take k) then 9 else 0]=0)=True:=eq_true hxE
      have qe:=aI qR (aI @hx (aI @zel (aI @hxt @decide_true)));repeat' first|refine gC ?_ ?_<;>intro hc<;>try contradiction|refine za (zY b x) ?_|refine za (zgF (N.take k) x) ?_|refine za (zU _ _) ?_|refine za (zw [_,_]) ?_|refine gG ?_|show AK _;intro J Z|refine gJ ?_|omega|exact aT
      all_goals exact ⟨k+1,⟨by omega,zaB hk.2 (zI hx) hxE⟩,by omega,by simp⟩
     .have hxt:(zf [if atL x (b.slots.map (·.req.name)) < 0 then 10 else 0,if 0<=atL x (N.take k) then 9 else 0]=0)=False:=eq_false hxE
      rw [zT hk.2 (zI hx) hxE];have qe:=aI qR (aI @hx (aI @zel (aI @hxt @decide_false)));have jA:=zY b x;have jB:=zgF (N.take k) x;have jC:=λu1 u2=>zU u1 u2;have jD:=λu1 u2=>zw [u1,u2];exact gD4
    .refine absurd ?_ hX;have e:k=(N.mapIdx (yz b N)).length:=by simp;omega
     subst e;exact z4 hk.2
 .have h1:(zf [if (N.length:Int) < 2 then 16 else 0,if 8 < (N.length:Int) then 5 else 0]=0)=False:=eq_false h
  have hC2:yah b N=yW N:=za1 h;have hB:yQ b N=bk0:=by rw [yQ,hC2,if_neg h]
  rw [hB,hC2];refine zar (r:=.tup [.agg [.nilsl,.nilsl],.i .i64 (yW N)]) ?_ (zbt _);refine pz func172 f172.eq_1 λhw X hX'=>?_
  have qe:=aI qR (aI @qN @h1);have jA:=λu1 u2=>zU u1 u2;have jB:=λu1 u2=>zw [u1,u2];exact gD2
abbrev slS (s:Slt) (i:Option Addr × Nat):PV:=slX s (.sl 3 (s.ls.map Lea.pv)) (.rs i.1 s.sh.length i.2)
def yaJ (s:Slt) (h:zld s):ActsE prog 189 [.p s.pv] [] (λi=>.p (slS s i)) (λi:Option Addr × Nat=>[(105,.hrow 9 1 (s.sh.map .s) i.1 i.2)]):=by
 obtain ⟨h1,h2⟩:=h;refine zdE (cF func189 f189.eq_1) (by simp) (by simp [scPs,scP]) (by simp [scObj]) trivial (λi=>by simp [scObj]) (λi=>by simp [zc1]) λX hX=>?_
 unfold zE ghO;refine zgx (zne ⟨[(1,.lp 1 0),(2,.lp 2 0)],[(1,.box [.p (.s s.req.name),.p (.s s.req.carrier),.p (.s s.req.kind),.p (.s s.req.term),.p (.s s.req.partner),.p (.s s.req.link),.p (.i .i64 s.req.per.fro),.p (.i .i64 s.req.per.to),.p (.i .i64 s.req.per.days),.p (.i .i64 s.req.minute),.p (.i .i64 s.req.seats),.p (.i .i64 s.req.size),.p (.i .i64 s.req.noise),.p (.s s.holder),.p (.sl 3 (s.ls.map Lea.pv)),.p (.sl 1 (s.sh.map .s))] false),(2,.box [.p (.s (bs [])),.p (.s (bs [])),.p (.s (bs [])),.p (.s (bs [])),.p (.s (bs [])),.p (.s (bs [])),.p (.i .i64 0),.p (.i .i64 0),.p (.i .i64 0),.p (.i .i64 0),.p (.i .i64 0),.p (.i .i64 0),.p (.i .i64 0),.p (.s (bs [])),.p .nilsl,.p .nilsl] false)],[],false⟩ ?_ (zgx (zne ⟨[(1,.lp 1 0),(2,.lp 2 0)],[(1,.box [.p (.s s.req.name),.p (.s s.req.carrier),.p (.s s.req.kind),.p (.s s.req.term),.p (.s s.req.partner),.p (.s s.req.link),.p (.i .i64 s.req.per.fro),.p (.i .i64 s.req.per.to),.p (.i .i64 s.req.per.days),.p (.i .i64 s.req.minute),.p (.i .i64 s.req.seats),.p (.i .i64 s.req.size),.p (.i .i64 s.req.noise),.p (.s s.holder),.row 206 s.ls.length,.row 105 s.sh.length] false),(2,.box [.p (.s (bs [])),.p (.s (bs [])),.p (.s (bs [])),.p (.s (bs [])),.p (.s (bs [])),.p (.s (bs [])),.p (.i .i64 0),.p (.i .i64 0),.p (.i .i64 0),.p (.i .i64 0),.p (.i .i64 0),.p (.i .i64 0),.p (.i .i64 0),.p (.s (bs [])),.p .nilsl,.p .nilsl] false),(206,.row 91 3 (s.ls.map Lea.pv) false),(105,.row 9 1 (s.sh.map .s) false)],[],false⟩ ?_ ?_)))
 .have qe:=@qR;repeat' first|refine gC ?_ ?_<;>intro hc<;>try contradiction|refine gG ?_|show AK _;intro J Z|refine gJ ?_|omega|exact aT
  all_goals (show Cov _ _;simp only [qS,seval]<;>simp)
 .have qe:=aI qR (aI @qN (aI @zah (aI @List.map_nil.{0,0} @List.append_nil.{0})));repeat' first|refine gC ?_ ?_<;>intro hc<;>try contradiction|refine zl [(5,206)] (zlb s.ls (by omega)) ?_|refine zl [(5,105)] (zla s.sh (by omega)) ?_|refine gG ?_|show AK _;intro J Z|refine gJ ?_|omega|exact aT
  all_goals (show Cov _ _;simp only [qS,seval]<;>simp)
 refine zlv (zdv 105 (e:=9) (sz:=1) (xs:=s.sh.map .s) rfl (λa0 c0=>[(1,.lp 1 0),(2,.lp 2 0)]) (λa0 c0=>[(1,.box [.p (.s s.req.name),.p (.s s.req.carrier),.p (.s s.req.kind),.p (.s s.req.term),.p (.s s.req.partner),.p (.s s.req.link),.p (.i .i64 s.req.per.fro),.p (.i .i64 s.req.per.to),.p (.i .i64 s.req.per.days),.p (.i .i64 s.req.minute),.p (.i .i64 s.req.seats),.p (.i .i64 s.req.size),.p (.i .i64 s.req.noise),.p (.s s.holder),.row 206 s.ls.length,.p (.rs a0 (s.sh.map PV.s).length c0)] false),(2,.box [.p (.s (bs [])),.p (.s (bs [])),.p (.s (bs [])),.p (.s (bs [])),.p (.s (bs [])),.p (.s (bs [])),.p (.i .i64 0),.p (.i .i64 0),.p (.i .i64 0),.p (.i .i64 0),.p (.i .i64 0),.p (.i .i64 0),.p (.i .i64 0),.p (.s (bs [])),.p .nilsl,.p .nilsl] false),(206,.row 91 3 (s.ls.map Lea.pv) false)]) λa0 c0=>⟨⟨.inl rfl,.inl rfl,trivial⟩,⟨.inr ⟨_,rfl,_,_,_,rfl,rfl,.inl rfl,.inl rfl,.inl rfl,.inl rfl,.inl rfl,.inl rfl,.inl rfl,.inl rfl,.inl rfl,.inl rfl,.inl rfl,.inl rfl,.inl rfl,.inl rfl,.inl rfl,.inr ⟨by show LV.row 105 _=LV.row 105 _;simp,rfl⟩,trivial⟩,.inl rfl,.inl rfl,trivial⟩,by simp [scEnv,scP,zj],by simp [scObj,scPs,scP,zj]⟩) ?_
 rintro _ ⟨a0,c0,rfl⟩;refine (show Run _ _ (St.mk _ _ [] false) _ from ?_)
 have qe:=aI qR (aI @zah (aI @reN (aI @reR (@List.length_map.{0,0}))));repeat' first|refine gC ?_ ?_<;>intro hc<;>try contradiction|refine gG ?_|show AK _;intro J Z|refine gJ ?_|omega|exact aT
 exact ⟨(a0,c0),.inl (.mkP)⟩
def yai (d:Int) (l:Lea):Bool:=decide (l.fro<=d) && decide (d<=l.to)
def shE (s:Slt) (to:ByteArray):Int:=zf [if to=s.holder then 31 else 0,if 0<=atL to s.sh then 9 else 0,if 4<=(s.sh.length:Int) then 5 else 0]
def shS (s:Slt) (to:ByteArray):Slt:=⟨s.req,s.holder,s.ls,s.sh++[to]⟩
def ycY (P:List PV) (i0:Nat) (hi:i0 < P.length) (s:Slt) (to:ByteArray) (hok:zld s) (h:shE s to≠0) (i:HD):ActsE prog 228 [.ep 900 P.length i0 0,.p (.ip (.s to) 0)] [(900,.row 84 16 (P.set i0 (slS s i)) false),(901,.hrow 9 1 (s.sh.map .s) i.1 i.2)] (λ_=>.p (.i .i64 (shE s to)))
  (λj=>[(900,.row 84 16 (P.set i0 (slS s j)) false),(901,.hrow 9 1 (s.sh.map .s) j.1 j.2)]):=by
 have hg:=λa=>zc3 P i0 a hi
 have hx:(zf [if to=s.holder then 31 else 0,if 0<=atL to s.sh then 9 else 0,if 4<=(s.sh.length:Int) then 5 else 0]=0)=False:=eq_false h
 obtain ⟨_,hok⟩:=hok;refine zdE (cF func228 f228.eq_1) (by simp) (by simp [scPs,scP,zj]) (by simp [scObj]) ⟨rfl,rfl,trivial⟩ (λj=>by simp [scObj]) (λj=>by simp [zc1,zj]) λX hX=>?_
 unfold zE ghO;have qe:=aI qR (aI @qN (aI @gLV.eq_2 (aI @gLV.eq_5 (aI @hg (aI @hx @List.length_set.{0})))));repeat' first|refine gC ?_ ?_<;>intro hc<;>try contradiction|refine za (zU _ _) ?_|refine za (zw [_,_,_]) ?_|refine gG ?_|show AK _;intro J Z|refine gJ ?_|omega|exact aT
 refine zfQ 901 (hf:=zgF s.sh to) (hm:=by exact ⟨.inr ⟨zoh _ _ _ _,rfl⟩,.inl rfl,trivial⟩) (hn:=?_)
 have qe:=aI qR (aI @qN (aI @hg (aI @hx (aI @List.length_set.{0} (aI @reN @reR)))));repeat' first|refine gC ?_ ?_<;>intro hc<;>try contradiction|refine za (zU _ _) ?_|refine za (zw [_,_,_]) ?_|refine gG ?_|show AK _;intro J Z|refine gJ ?_|omega|exact aT
 all_goals exact ⟨i,.inl (.mkE)⟩
def yed (P:List PV) (i0:Nat) (hi:i0 < P.length) (s:Slt) (to:ByteArray) (hok:zld s) (h:shE s to=0) (i:HD):ActsE prog 228 [.ep 900 P.length i0 0,.p (.ip (.s to) 0)] [(900,.row 84 16 (P.set i0 (slS s i)) false),(901,.hrow 9 1 (s.sh.map .s) i.1 i.2)] (λ_=>.p (.i .i64 0))
  (λj=>[(900,.row 84 16 (P.set i0 (slX s (.sl 3 (s.ls.map Lea.pv)) (.rs j.1 (s.sh.map PV.s++[PV.s to]).length j.2))) false),(901,.hrow 9 1 (s.sh.map PV.s++[PV.s to]) j.1 j.2)]):=by
 have hg:=λa=>zc3 P i0 a hi
 have hx:(zf [if to=s.holder then 31 else 0,if 0<=atL to s.sh then 9 else 0,if 4<=(s.sh.length:Int) then 5 else 0]=0)=True:=eq_true h
 obtain ⟨_,hok⟩:=hok;refine zdE (cF func228 f228.eq_1) (by simp) (by simp [scPs,scP,zj]) (by simp [scObj]) ⟨rfl,rfl,trivial⟩ (λj=>by simp [scObj]) (λj=>by simp [zc1,zj]) λX hX=>?_
 unfold zE ghO;have qe:=aI qR (aI @qN (aI @gLV.eq_2 (aI @gLV.eq_5 (aI @hg (aI @hx @List.length_set.{0})))));repeat' first|refine za (zU _ _) ?_|refine za (zw [_,_,_]) ?_|refine gG ?_|show AK _;intro J Z|refine gJ ?_|omega|exact aT
 refine zfQ 901 (hf:=zgF s.sh to) (hm:=by exact ⟨.inr ⟨zoh _ _ _ _,rfl⟩,.inl rfl,trivial⟩) (hn:=?_)
 have qe:=aI qR (aI @qN (aI @hg (aI @hx @List.length_set.{0})));repeat' first|refine za (zU _ _) ?_|refine za (zw [_,_,_]) ?_|refine gG ?_|show AK _;intro J Z|refine gJ ?_|omega|exact aT
 have qe:=@hx;(refine gC ?_ ?_<;>intro hc<;>try contradiction)
 refine zj6 ?_;refine (show Run _ (.seq (.ops true _) _) _ _ from zgx (znd Mx.h rfl 8 (by decide) rfl ?_))
 simp only [xbv,xbM,xbU,xb1];refine zcn 7 ?_;simp only [xbv,xbM,xbU,xb1];have qe:=aI qR (aI @qN (aI @hg @List.length_set.{0}));repeat' first|refine gC ?_ ?_<;>intro hc<;>try contradiction|refine gG ?_|show AK _;intro J Z|refine gJ ?_|omega|exact aT
 refine znl 901 s.sh.length (xs:=s.sh.map PV.s) (by simp) (h3:=by simp;omega) (h:=?_)
 refine (show zca _=true/\zh _ _ _ _ _ _ _ from ⟨rfl,?_⟩)
 refine zbL (zdv 901 (e:=9) (sz:=1) (xs:=s.sh.map PV.s++[PV.s to]) rfl (λa0 c0=>[(31,.ep 900 P.length i0 0),(38,.p (.rs a0 (s.sh.map PV.s++[PV.s to]).length c0)),(1000900,.row 900 P.length),(1000901,.any)]) (λa0 c0=>[(900,.row 84 16 (P.set i0 (slS s i)) false)]) λa0 c0=>⟨?_,?_,?_,?_⟩) ?_
 .exact ⟨.inl rfl,.inr ⟨_,.inl (.inr ⟨rfl,rfl⟩),rfl⟩,.inl rfl,.inl rfl,trivial⟩
 .exact ⟨.inl rfl,trivial⟩
 .simp [scEnv,scP,zj]
 .simp [scObj,scPs,scP,zj]
 rintro _ ⟨a0,c0,rfl⟩;refine (show zh _ _ _ _ _ (St.mk _ _ [] false) _ from zF ?_)
 have qe:=aI qR (aI @qN (aI @hg (aI @zsj (aI @List.set_set.{0} (aI @List.length_set.{0} (aI @reN @reR))))));repeat' first|refine gC ?_ ?_<;>intro hc<;>try contradiction|refine gG ?_|show AK _;intro J Z|refine gJ ?_|omega|exact aT
 exact ⟨(a0,c0),.inl (.mkE)⟩
def shC (b:Bk) (c n to:ByteArray):Int:=zfM b c n (zaG to) (shE (zn b n) to)
def shB (b:Bk) (c n to:ByteArray):Bk:=if shC b c n to=0 then zo8 b n (shS (zn b n) to) else bk0
def yc6 {b:Bk} {c n to:ByteArray} (h:shC b c n to≠0):shB b c n to=bk0:=if_neg h
def yeK (b:Bk) (c n to:ByteArray) (hb:zfy b):Pure prog 129 [b.pv,.s c,.s n,.i .i64 (zaG to),.fn (.func 228) [] [.ip (.s to) 0]] (.tup [(shB b c n to).pv,.i .i64 (shC b c n to)]):=by
 by_cases hown:zhn b c n (zaG to)=0
 .have hC:shC b c n to=shE (zn b n) to:=zvL hown;have hsl:=zw9 hown;have hok:=zj5 hb hsl;have hi:zx b n < b.slots.length:=(xaa.1 hsl).1;have hi':zx b n < (b.slots.map Slt.pv).length:=by simpa using hi
  by_cases hE:shE (zn b n) to=0
  .have hf:=λi=>yed (b.slots.map Slt.pv) (zx b n) hi' (zn b n) to hok hE i
   rw [show (b.slots.map Slt.pv).length=b.slots.length from xaf ..] at hf
   have h:=zkZ (cf:=228) (caps:=[.ip (.s to) 0]) (λ_=>.sl 3 ((zn b n).ls.map Lea.pv)) (λi=>.rs i.1 (zn b n).sh.length i.2) _ (slX (zn b n) (.sl 3 ((zn b n).ls.map Lea.pv)) (.sl 1 ((zn b n).sh.map PV.s++[PV.s to]))) b c n (zaG to) 0 hb (λ_=>⟨rfl,rfl⟩) hown (yaJ (zn b n) hok) hf λj=>.inr ⟨_,_,rfl,rfl,.inl rfl,.inl rfl,.inl rfl,.inl rfl,.inl rfl,.inl rfl,.inl rfl,.inl rfl,.inl rfl,.inl rfl,.inl rfl,.inl rfl,.inl rfl,.inl rfl,.inl rfl,.inr ⟨rfl,rfl⟩,trivial⟩
   rw [if_pos rfl] at h;have hB:shB b c n to=zo8 b n (shS (zn b n) to):=by rw [shB,hC,if_pos hE]
   rw [hC,hE,hB,zo8];show Pure _ _ _ (.tup [.agg [.sl 16 ((b.slots.set (zx b n) (shS (zn b n) to)).map Slt.pv),.sl 14 (b.wait.map Wsh.pv)],.i .i64 0]);rw [xbb];show Pure _ _ _ (.tup [.agg [.sl 16 ((b.slots.map Slt.pv).set (zx b n) (slX (zn b n) (.sl 3 ((zn b n).ls.map Lea.pv)) (.sl 1 (((zn b n).sh++[to]).map PV.s)))),.sl 14 (b.wait.map Wsh.pv)],.i .i64 0]);rw [xaO];exact h
  .have hf:=λi=>ycY (b.slots.map Slt.pv) (zx b n) hi' (zn b n) to hok hE i
   rw [show (b.slots.map Slt.pv).length=b.slots.length from xaf ..] at hf
   have h:=zkZ (cf:=228) (caps:=[.ip (.s to) 0]) (λ_=>.sl 3 ((zn b n).ls.map Lea.pv)) (λi=>.rs i.1 (zn b n).sh.length i.2) _ (zn b n).pv b c n (zaG to) (shE (zn b n) to) hb (λ_=>⟨rfl,rfl⟩) hown (yaJ (zn b n) hok) hf λj=>.inr ⟨_,_,rfl,rfl,.inl rfl,.inl rfl,.inl rfl,.inl rfl,.inl rfl,.inl rfl,.inl rfl,.inl rfl,.inl rfl,.inl rfl,.inl rfl,.inl rfl,.inl rfl,.inl rfl,.inl rfl,.inr ⟨zoh _ _ _ _,rfl⟩,trivial⟩
   rw [if_neg hE] at h;rw [yc6 (by rw [hC];exact hE),hC]
   exact zar h (zbt _)
 .have hC:shC b c n to≠0:=by rw [shC,zfM,za1 hown];exact hown
  rw [yc6 hC];exact zvM b c n (zaG to) _ hb hown
def ydq (b:Bk) (c n to:ByteArray) (hb:zfy b):Pure prog 169 [b.pv,.s c,.s n,.s to] (.tup [(shB b c n to).pv,.i .i64 (shC b c n to)]):=by
 have hch:=yeK b c n to hb;refine pz func169 f169.eq_1 λhw X hX=>?_
 have qe:=aI qR @qN;have jA:=zbv to;have jB:=hch;exact gD2
def yb0 (q:Req):Bool:=decide ((q.name.size:Int)<=40) && decide ((q.carrier.size:Int)<=40) && decide ((q.kind.size:Int)<=40) && decide ((q.term.size:Int)<=40) && decide ((q.partner.size:Int)<=40) && decide ((q.link.size:Int)<=40)
def yaN (q:Req):Pure prog 113 [q.pv] (.b (yb0 q)):=by
 refine pz func113 f113.eq_1 λhw X hX=>?_
 have qe:=@qR;exact gD0
def shortB (q:Req):Bool:=yb0 q && (!decide (zat q.per=0) || decide (q.per.to - q.per.fro < 14))
def ybJ (q:Req):Pure prog 69 [q.pv] (.b (shortB q)):=by
 refine pz func69 f69.eq_1 λhw X hX=>?_
 by_cases hb:yb0 q=true
 .by_cases hp:zat q.per=0
  .have h1:=zaW hp;have e:shortB q=decide (q.per.to - q.per.fro < 14):=by simp [shortB,hb,hp]
   rw [e];have qe:=aI qR (aI @hb (aI @hp (aI @decide_true @xam)));have jA:=yaN q;have jB:=y8 q.per;exact gD2
  .have hpf:=eq_false hp;have e:shortB q=true:=by simp [shortB,hb,hp]
   rw [e];have qe:=aI qR (aI @hb (aI @hpf (aI @decide_false @xal)));have jA:=yaN q;have jB:=y8 q.per;exact gD2
 .have hbf:yb0 q=false:=by simpa using hb
  have e:shortB q=false:=by simp [shortB,hbf]
  rw [e];have qe:=aI qR @hbf;have jA:=yaN q;have jB:=y8 q.per;exact gD2
def ydt (s:Slt):Pure prog 67 [s.pv,s.pv] (.b true):=by
 refine pz func67 f67.eq_1 λhw X hX=>?_
 have hwl:s.ls.length<=maxLen:=by
  simp only [wfs,PV.wf,xaf] at hw
  omega
 simp only [maxLen] at hwl;have qe:=aI qR (aI @za9 (aI @decide_true @xam));repeat' first|refine gC ?_ ?_<;>intro hc<;>try contradiction|refine zp (λ_=>zre s.sh s.sh) ?_|refine gG ?_|show AK _;intro J Z|refine gJ ?_|omega|exact aT
 refine zi (κ:=Nat) (λk=>⟨[(2,.lp 2 0),(3,.lp 3 0),(5,.p (.i .i64 k))],[(2,.box (s.cells.map .p) false),(3,.box (s.cells.map .p) false)],[],false⟩) (λk=>k<=s.ls.length) (λk=>s.ls.length - k) 0 ?_ ?_ ?_
 .exact sS
 .simp
 .intro k hk
  repeat first|refine gG ?_|show AK _;intro J Z|refine gJ ?_|omega|exact aT
  (refine gC ?_ ?_<;>intro hc<;>try contradiction)
  .obtain ⟨x,hx⟩:=zm (i:=k) (l:=s.ls) (by omega)
   have qe:=aI qR (aI @hx (aI @za9 (aI @decide_true (aI @xam @Bool.and_self))));repeat' first|refine gC ?_ ?_<;>intro hc<;>try contradiction|refine gG ?_|show AK _;intro J Z|refine gJ ?_|omega|exact aT
   exact ⟨k+1,by omega,by omega,by simp⟩
  .have qe:=@qR;exact gD0
def ybN (b:Bk):Pure prog 21 [b.pv,b.pv] (.b true):=by
 refine pz func21 f21.eq_1 λhw X hX=>?_
 have hwl:b.slots.length<=maxLen/\b.wait.length<=maxLen:=by
  simp only [wfs,PV.wf,xaf] at hw
  omega
 simp only [maxLen] at hwl;have qe:=aI qR (aI @za9 (aI @decide_true @xam));repeat' first|refine gC ?_ ?_<;>intro hc<;>try contradiction|refine gG ?_|show AK _;intro J Z|refine gJ ?_|omega|exact aT
 refine zi (κ:=Nat) (λk=>⟨[(2,.lp 2 0),(3,.lp 3 0),(5,.p (.i .i64 k))],[(2,.box [.p (.sl 16 (b.slots.map Slt.pv)),.p (.sl 14 (b.wait.map Wsh.pv))] false),(3,.box [.p (.sl 16 (b.slots.map Slt.pv)),.p (.sl 14 (b.wait.map Wsh.pv))] false)],[],false⟩) (λk=>k<=b.slots.length) (λk=>b.slots.length - k) 0 ?_ ?_ ?_
 .exact sS
 .simp
 .intro k hk
  repeat first|refine gG ?_|show AK _;intro J Z|refine gJ ?_|omega|exact aT
  (refine gC ?_ ?_<;>intro hc<;>try contradiction)
  .obtain ⟨x,hx⟩:=zm (i:=k) (l:=b.slots) (by omega)
   have qe:=aI qR (aI @hx (aI @za9 (aI @decide_true @xam)));repeat' first|refine gC ?_ ?_<;>intro hc<;>try contradiction|refine za (ydt x) ?_|refine gG ?_|show AK _;intro J Z|refine gJ ?_|omega|exact aT
   all_goals exact ⟨k+1,by omega,by omega,by simp⟩
  .have qe:=@qR;repeat' first|refine gC ?_ ?_<;>intro hc<;>try contradiction|refine gG ?_|show AK _;intro J Z|refine gJ ?_|omega|exact aT
   refine zi (κ:=Nat) (λk=>⟨[(2,.lp 2 0),(3,.lp 3 0),(6,.p (.i .i64 k))],[(2,.box [.p (.sl 16 (b.slots.map Slt.pv)),.p (.sl 14 (b.wait.map Wsh.pv))] false),(3,.box [.p (.sl 16 (b.slots.map Slt.pv)),.p (.sl 14 (b.wait.map Wsh.pv))] false)],[],false⟩) (λk=>k<=b.wait.length) (λk=>b.wait.length - k) 0 ?_ ?_ ?_
   .exact sS
   .simp
   .intro k hk
    repeat first|refine gG ?_|show AK _;intro J Z|refine gJ ?_|omega|exact aT
    (refine gC ?_ ?_<;>intro hc<;>try contradiction)
    .obtain ⟨x,hx⟩:=zm (i:=k) (l:=b.wait) (by omega)
     have qe:=aI qR (aI @hx (aI @za9 (aI @decide_true (aI @xam @Bool.and_self))));repeat' first|refine gC ?_ ?_<;>intro hc<;>try contradiction|refine gG ?_|show AK _;intro J Z|refine gJ ?_|omega|exact aT
     all_goals exact ⟨k+1,by omega,by omega,by simp⟩
    .have qe:=@qR;exact gD0
def ybM (b:Bk) (hb:zfy b):Pure prog 22 [b.pv] b.pv:=by
 obtain ⟨hs,hn,hw1⟩:=hb;refine pz func22 f22.eq_1 λhw X hX=>?_
 have qe:=@qR;repeat' first|refine gC ?_ ?_<;>intro hc<;>try contradiction|refine gG ?_|show AK _;intro J Z|refine gJ ?_|omega|exact aT
 refine zaO 100 102 16 [(1,.lp 1 0),(2,.lp 2 0),(3,.lp 3 0),(12,.p (.sl 16 (b.slots.map Slt.pv))),(13,.p (.i .i64 b.slots.length)),(14,.p (.i .i64 0))] [(1,.box [.p (.sl 16 (b.slots.map Slt.pv)),.p (.sl 14 (b.wait.map Wsh.pv))] false),(2,.box [.p .nilsl,.p .nilsl] false),(3,.box [.row 100 0,.p .nilsl] false)] ?_ ?_
 .simp only [Own,zaL,zaA,zbr,zax,qS,seval]<;>simp
 refine zi (κ:=Nat) (λk=>⟨[(1,.lp 1 0),(2,.lp 2 0),(3,.lp 3 0),(12,.p (.sl 16 (b.slots.map Slt.pv))),(13,.p (.i .i64 b.slots.length)),(14,.p (.i .i64 k))],[(1,.box [.p (.sl 16 (b.slots.map Slt.pv)),.p (.sl 14 (b.wait.map Wsh.pv))] false),(2,.box [.p .nilsl,.p .nilsl] false),(3,.box [.row 100 k,.p .nilsl] false),(100,.row 102 16 ((b.slots.take k).map Slt.pv) false)],[],false⟩) (λk=>k<=b.slots.length) (λk=>b.slots.length - k) 0 ?_ ?_ ?_
 .exact sS
 .simp
 .intro k hk;have hlk:(b.slots.take k).length=k:=by rw [xai];omega
  repeat first|refine gG ?_|show AK _;intro J Z|refine gJ ?_|omega|exact aT
  (refine gC ?_ ?_<;>intro hc<;>try contradiction)
  .obtain ⟨s,hx⟩:=zm (i:=k) (l:=b.slots) (by omega)
   obtain ⟨hl1,hl2⟩:=hs s (xad hx);have qe:=aI qR @hx;repeat' first|refine gC ?_ ?_<;>intro hc<;>try contradiction|refine gG ?_|show AK _;intro J Z|refine gJ ?_|omega|exact aT
   refine zaO 101 103 3 [(1,.lp 1 0),(2,.lp 2 0),(3,.lp 3 0),(12,.p (.sl 16 (b.slots.map Slt.pv))),(13,.p (.i .i64 b.slots.length)),(14,.p (.i .i64 k)),(5,.lp 5 0),(6,.lp 6 0),(26,.p (.sl 3 (s.ls.map Lea.pv))),(27,.p (.i .i64 s.ls.length)),(28,.p (.i .i64 0))] [(1,.box [.p (.sl 16 (b.slots.map Slt.pv)),.p (.sl 14 (b.wait.map Wsh.pv))] false),(2,.box [.p .nilsl,.p .nilsl] false),(3,.box [.row 100 k,.p .nilsl] false),(100,.row 102 16 ((b.slots.take k).map Slt.pv) false),(5,.box (s.cells.map .p) false),(6,.box [.p (.s s.req.name),.p (.s s.req.carrier),.p (.s s.req.kind),.p (.s s.req.term),.p (.s s.req.partner),.p (.s s.req.link),.p (.i .i64 s.req.per.fro),.p (.i .i64 s.req.per.to),.p (.i .i64 s.req.per.days),.p (.i .i64 s.req.minute),.p (.i .i64 s.req.seats),.p (.i .i64 s.req.size),.p (.i .i64 s.req.noise),.p (.s s.holder),.row 101 0,.p (.sl 1 (s.sh.map .s))] false)] ?_ ?_
   .simp only [Own,zaL,zaA,zbr,zax,qS,seval]<;>simp [hlk]
   refine zi (κ:=Nat) (λi=>⟨[(1,.lp 1 0),(2,.lp 2 0),(3,.lp 3 0),(12,.p (.sl 16 (b.slots.map Slt.pv))),(13,.p (.i .i64 b.slots.length)),(14,.p (.i .i64 k)),(5,.lp 5 0),(6,.lp 6 0),(26,.p (.sl 3 (s.ls.map Lea.pv))),(27,.p (.i .i64 s.ls.length)),(28,.p (.i .i64 i))],[(1,.box [.p (.sl 16 (b.slots.map Slt.pv)),.p (.sl 14 (b.wait.map Wsh.pv))] false),(2,.box [.p .nilsl,.p .nilsl] false),(3,.box [.row 100 k,.p .nilsl] false),(100,.row 102 16 ((b.slots.take k).map Slt.pv) false),(5,.box (s.cells.map .p) false),(6,.box [.p (.s s.req.name),.p (.s s.req.carrier),.p (.s s.req.kind),.p (.s s.req.term),.p (.s s.req.partner),.p (.s s.req.link),.p (.i .i64 s.req.per.fro),.p (.i .i64 s.req.per.to),.p (.i .i64 s.req.per.days),.p (.i .i64 s.req.minute),.p (.i .i64 s.req.seats),.p (.i .i64 s.req.size),.p (.i .i64 s.req.noise),.p (.s s.holder),.row 101 i,.p (.sl 1 (s.sh.map .s))] false),(101,.row 103 3 ((s.ls.take i).map Lea.pv) false)],[],false⟩) (λi=>i<=s.ls.length) (λi=>s.ls.length - i) 0 ?_ ?_ ?_
   .refine gJ ?_;simp [hlk]
   .simp
   .intro i hi;have hli:(s.ls.take i).length=i:=by rw [xai];omega
    repeat first|refine gG ?_|show AK _;intro J Z|refine gJ ?_|omega|exact aT
    (refine gC ?_ ?_<;>intro hc<;>try contradiction)
    .obtain ⟨x,hx2⟩:=zm (i:=i) (l:=s.ls) (by omega)
     have qe:=aI qR (aI @hx2 (aI @hli @hlk));repeat' first|refine gC ?_ ?_<;>intro hc<;>try contradiction|refine gG ?_|show AK _;intro J Z|refine gJ ?_|omega|exact aT
     exact ⟨i+1,by omega,by omega,by simp,⟨rfl,by rw [zam hx2];simp⟩,by simp;omega⟩
    .have e:i=s.ls.length:=by omega
     subst e;refine zqd ?_;refine (show Run _ (.ops false _) _ _ from zlu (zcn 3 ?_))
     simp only [xbv,xbM,xbU,xb1];have qe:=aI qR (aI @zah (aI @hlk @List.take_length.{0}));repeat' first|refine gC ?_ ?_<;>intro hc<;>try contradiction|refine gG ?_|show AK _;intro J Z|refine gJ ?_|omega|exact aT
     refine zbL (ya9 41 s.pv (by simp only [qS,seval,zah]<;>rfl) (by first|trivial|simp) (.refl _)) ?_
     rintro _ rfl;refine zF ?_;have qe:=aI qR @hlk;repeat' first|refine gC ?_ ?_<;>intro hc<;>try contradiction|refine gG ?_|show AK _;intro J Z|refine gJ ?_|omega|exact aT
     exact ⟨k+1,by omega,by omega,by simp,⟨rfl,by rw [zam hx];simp⟩,by simp;omega⟩
  .have e:k=b.slots.length:=by omega
   subst e;have qe:=aI qR @List.take_length.{0};repeat' first|refine gC ?_ ?_<;>intro hc<;>try contradiction|refine gG ?_|show AK _;intro J Z|refine gJ ?_|omega|exact aT
   refine zaO 102 104 14 [(2,.lp 2 0),(3,.lp 3 0),(47,.p (.sl 14 (b.wait.map Wsh.pv))),(48,.p (.i .i64 b.wait.length)),(49,.p (.i .i64 0))] [(1,.box [.p (.sl 16 (b.slots.map Slt.pv)),.p (.sl 14 (b.wait.map Wsh.pv))] false),(2,.box [.p .nilsl,.p .nilsl] false),(3,.box [.row 100 b.slots.length,.row 102 0] false),(100,.row 102 16 (b.slots.map Slt.pv) false)] ?_ ?_
   .simp only [Own,zaL,zaA,zbr,zax,qS,seval]<;>simp
   refine zi (κ:=Nat) (λk=>⟨[(2,.lp 2 0),(3,.lp 3 0),(47,.p (.sl 14 (b.wait.map Wsh.pv))),(48,.p (.i .i64 b.wait.length)),(49,.p (.i .i64 k))],[(1,.box [.p (.sl 16 (b.slots.map Slt.pv)),.p (.sl 14 (b.wait.map Wsh.pv))] false),(2,.box [.p .nilsl,.p .nilsl] false),(3,.box [.row 100 b.slots.length,.row 102 k] false),(100,.row 102 16 (b.slots.map Slt.pv) false),(102,.row 104 14 ((b.wait.take k).map Wsh.pv) false)],[],false⟩) (λk=>k<=b.wait.length) (λk=>b.wait.length - k) 0 ?_ ?_ ?_
   .exact sS
   .simp
   .intro k hk2;have hl2:(b.wait.take k).length=k:=by rw [xai];omega
    repeat first|refine gG ?_|show AK _;intro J Z|refine gJ ?_|omega|exact aT
    (refine gC ?_ ?_<;>intro hc<;>try contradiction)
    .obtain ⟨w,hx2⟩:=zm (i:=k) (l:=b.wait) (by omega)
     have qe:=aI qR (aI @hx2 @hl2);repeat' first|refine gC ?_ ?_<;>intro hc<;>try contradiction|refine gG ?_|show AK _;intro J Z|refine gJ ?_|omega|exact aT
     exact ⟨k+1,by omega,by omega,by simp,⟨rfl,by rw [zam hx2];simp⟩,by simp;omega⟩
    .have e2:k=b.wait.length:=by omega
     subst e2;have qe:=aI qR (aI @zah @List.take_length.{0});exact gD0
def ycR {q:Req} (h:zvK q=0):zdB q=0:=by
 have a:=fE0 h;have h1:zaG q.name=0:=a _ (by simp)
 have h2:zmF q.term=0:=a _ (by simp)
 have h3:zcC q.kind=0:=a _ (by simp)
 have h4:zat q.per=0:=a _ (by simp)
 have h5:rng q.minute 0 1439=0:=a _ (by simp)
 have h6:=zdl.1 (a (rng q.seats 0 999) (by simp))
 have h7:=zdl.1 (a (rng q.size 1 9) (by simp))
 have h8:=zdl.1 (a (rng q.noise 0 99) (by simp))
 rw [zdB,za2 h1,za2 h3,za2 h2,za2 h4,za2 h5,zfj];exact ycD (by omega)
def yaa {q:Req} (h:zsh q=0):zdB q=0:=ycR (fE0 h _ (by simp))
open Go.RowKit Go.Proofs.Tryz Go.ChangeShapes Go.WideShapes Go.ChangeAt
abbrev jT:CP:=.i .i64
def own:ownKnob prog.godebug=none:=by kernel_rfl
def laid:laidOutB prog=true:=by kernel_rfl
def und4:prog.underlying 4=some .bool:=by kernel_rfl
abbrev vzS:Value:=.string ⟨#[]⟩
abbrev vzI:Value:=.int .i64 0
def ycF {P:Program} {f:FuncId} {fn:Func} {s:ChangeSpec} {c:OpenClaim} (a1:c.wf (OpenSpec.ofChange s)=true) (a2:laidOutB P=true) (a3:mapsRowed P=true)
  (a4:(fn.params.all (P.readableRec ·) && namedTie P c.named s.vars && (c.stops == []) && (P.stops == []) && (c.knobs == []) && (P.stopKnobs == []))=true)
  (b1:(c.inPlace == P.inPlace f)=true) (b2:(c.unfollowed == P.unfollowed f)=true) (b3:(c.recurses == P.recurses f)=true) (b4:(c.named == P.varsNamed f)=true)
  (d1:((c.maps == (fn.params.toList++s.plain.varTypes P).any (P.mapsRec ·)) && (c.ifaces == (fn.params.toList++s.plain.varTypes P).any (P.ifacesRec ·)) && (c.mapsOut == P.mapsAmong fn.resultTypes.toList) &&
 (c.loops == (fn.params.toList++s.plain.varTypes P).any (P.loopsFrom ·)) && (c.wideKeys == (fn.params.toList++s.plain.varTypes P++fn.resultTypes.toList).any (P.wideKeysFrom ·)))=true)
  (d2:(s.vars.all (P.varReadable ·) && fn.resultTypes.all (λt=>P.readableRec t && decide (t < P.types.size)) && (c.ifacesOut == fn.resultTypes.toList.any (P.ifacesRec ·)) && (c.loopsOut == fn.resultTypes.toList.any (P.loopsFrom ·)))=true)
  (d3:((c.plainKeys == P.plainKeys) && c.shortTexts.isNone && P.stopsHeard && P.mayEnter && (c.lifted == P.liftsFinal) && (P.make == some c.make))=true)
  (d4:((c.kinds == (if c.domain.isEmpty then [] else fn.params.toList.map λt=>match P.underlying t with|some (.int k)=>some k|_=>none)) && (c.pinned == c.pinnedBy))=true)
  (d5:((c.veiled == (fn.params.toList++s.plain.varTypes P++fn.resultTypes.toList).any (P.veiledRec ·)) && c.veiledFits P fn.params.toList (fn.params.toList++s.plain.varTypes P++fn.resultTypes.toList))=true):joinedFacts P f fn s c=true:=by
 unfold joinedFacts;simp only [xap] at a4 d1 d2 d3 d4 d5 ⊢;obtain ⟨⟨⟨⟨⟨a4,a5⟩,a6⟩,a7⟩,a8⟩,a9⟩:=a4;obtain ⟨⟨⟨⟨e1,e2⟩,e3⟩,e4⟩,e5⟩:=d1;obtain ⟨⟨⟨e6,e7⟩,e8⟩,e9⟩:=d2;obtain ⟨⟨⟨⟨⟨f1,f2⟩,f3⟩,f4⟩,f5⟩,f6⟩:=d3;obtain ⟨f7,f8⟩:=d4;obtain ⟨f9,g1⟩:=d5;exact ⟨⟨⟨⟨⟨⟨⟨⟨⟨⟨⟨⟨⟨⟨⟨⟨⟨⟨⟨⟨⟨⟨⟨⟨⟨⟨⟨⟨⟨⟨⟨a1,a2⟩,a3⟩,a4⟩,a5⟩,a6⟩,a7⟩,a8⟩,a9⟩,b1⟩,b2⟩,b3⟩,b4⟩,e1⟩,e2⟩,e3⟩,e4⟩,e5⟩,e6⟩,e7⟩,e8⟩,e9⟩,f1⟩,f2⟩,f3⟩,f4⟩,f5⟩,f6⟩,f7⟩,f8⟩,f9⟩,g1⟩
def rowed:mapsRowed prog=true:=by kernel_rfl
open Go.RowKit Go.Proofs.Tryz
def ybq (p:Per):(zW p).Pairwise λa b=>a < b:=by
 unfold zW;generalize (p.to - p.fro+1).toNat=n
 induction n with
 | zero=>simp
 | succ n ih=>
  rw [xa7,xa0,xba];refine ⟨ih,?_,?_⟩
  .simp only [xaz,xbq,xat];split<;>simp
  .intro a ha b hb;obtain ⟨k,hk,ha⟩:=xaC.1 ha;have hk:=xaV.1 hk;simp only [xaz,xbq,xat] at hb
   split at ha
   .split at hb
    .simp at ha hb;omega
    .cases hb
   .cases ha
def ydP {r:Req} {o:Mov} (h:o ∈ zrw r):∃ d,d ∈ zW r.per/\o=zeh r d:=by
 obtain ⟨d,hd,rfl⟩:=xaT.1 h;exact ⟨d,hd,rfl⟩
def ybg {r:Req} (h:zdB r=0) {d:Int} (hd:d ∈ zW r.per):zed (zeh r d)=0:=by
 have hp:=zaW (zeC h).1;have hm:=zeC h;have hdm:=zig hd;unfold zdB at h;unfold zed;simp only [zq,zdl] at h ⊢;simp only [zeh];refine ⟨by omega,?_⟩
 simp only [h,true_and,and_true]
def ybP (L:List Lim) (hn:L.length*112<=140737488355328):Pure prog 14 [.sl 11 (L.map Lim.pv)] (.sl 11 (L.map Lim.pv)):=by
 refine pz func14 f14.eq_1 λhw X hX=>?_
 repeat' first|refine gC ?_ ?_<;>intro hc<;>try contradiction|refine gG ?_|show AK _;intro J Z|refine gJ ?_|omega|exact aT
 refine zaO 100 107 11 [(3,.row 100 0),(6,.p (.sl 11 (L.map Lim.pv))),(7,.p (.i .i64 L.length)),(8,.p (.i .i64 0))] [] ?_ ?_
 .simp only [Own,zaL,zaA,zbr,zax,qS,seval]
 refine zi (κ:=Nat) (λk=>⟨[(3,.row 100 (L.take k).length),(6,.p (.sl 11 (L.map Lim.pv))),(7,.p (.i .i64 L.length)),(8,.p (.i .i64 k))],[(100,.row 107 11 ((L.take k).map Lim.pv) false)],[],false⟩) (λk=>k<=L.length) (λk=>L.length - k) 0 ?_ ?_ ?_
 .exact sS
 .simp
 .intro k hk
  repeat first|refine gG ?_|show AK _;intro J Z|refine gJ ?_|omega|exact aT
  (refine gC ?_ ?_<;>intro hc<;>try contradiction)
  .obtain ⟨w,hx⟩:=zm (i:=k) (l:=L) (by omega)
   have hlt:=zgr hx;have qe:=aI qR @hx;repeat' first|refine gC ?_ ?_<;>intro hc<;>try contradiction|refine gG ?_|show AK _;intro J Z|refine gJ ?_|omega|exact aT
   exact ⟨k+1,by omega,by omega,⟨by rw [xaK,hx,xae];rfl,by simp⟩,by rw [zdg Lim.pv hx]⟩
  .repeat' first|refine gC ?_ ?_<;>intro hc<;>try contradiction|refine gG ?_|show AK _;intro J Z|refine gJ ?_|omega|exact aT
   have e:k=L.length:=by omega
   subst e;rw [xas];exact .refl _
def allLi (l:List Lim):l.all ((λx=>x.cells.all PV.one) ∘ Lim.pv)=true:=by rw [xaB];intro x _;rfl
def ydK (L:List Lim) (hn:L.length*112<=140737488355328):Pure prog 10 [.sl 11 (L.map Lim.pv)] (.sl 11 (L.map Lim.pv)):=by
 refine pz func10 f10.eq_1 λhw X hX=>?_
 have qe:=aI qR (aI @allLi @zah);exact gD0
structure Exc where
 slots:List ByteArray
 carrier:ByteArray
 slot:ByteArray
 to:ByteArray
 lease:Lea
 day:Int
abbrev Exc.pv (x:Exc):PV:=.agg [.sl 1 (x.slots.map .s),.s x.carrier,.s x.slot,.s x.to,.s x.lease.carrier,.i .i64 x.lease.fro,.i .i64 x.lease.to,.i .i64 x.day]
def yap (s:ByteArray):Bool:=!decide ((40:Int) < s.size)
def bigS (s:Slt):Bool:=((!shortB s.req || decide ((40:Int) < s.holder.size)) || (decide ((4:Int) < s.ls.length) && !decide ((s.ls.length:Int)=9))) || decide ((5:Int) < s.sh.length)
def ydN (l:Lea):Bool:=yap l.carrier
def yc5 (s:Slt):Bool:=!bigS s && (s.ls.all ydN && s.sh.all yap)
def ydu (s:Slt):Pure prog 68 [s.pv] (.b (yc5 s)):=by
 refine pz func68 f68.eq_1 λhw X hX=>?_
 simp only [wfs,PV.wf,xaf,maxLen] at hw;have qe:=@qR;repeat' first|refine gC ?_ ?_<;>intro hc<;>try contradiction|refine za (ybJ s.req) ?_|refine gG ?_|show AK _;intro J Z|refine gJ ?_|omega|exact aT
 .have:bigS s=true:=by simpa [bigS] using hc
  rw [yc5,this];exact .refl _
 have hsh:bigS s=false:=by simpa [bigS] using hc
 refine zi (κ:=Nat) (λi=>⟨[(1,.lp 1 0),(3,.p (.i .i64 i))],[(1,.box (s.cells.map .p) false)],[],false⟩) (λi=>i<=s.ls.length/\∀ y ∈ s.ls.take i,ydN y=true) (λi=>s.ls.length - i) 0 ?_ ?_ ?_
 .exact sS
 .simp
 .intro i hi
  repeat first|refine gG ?_|show AK _;intro J Z|refine gJ ?_|omega|exact aT
  (refine gC ?_ ?_<;>intro hc<;>try contradiction)
  .obtain ⟨y,hx⟩:=zm (i:=i) (l:=s.ls) (by omega)
   have qe:=aI qR @hx;repeat' first|refine gC ?_ ?_<;>intro hc<;>try contradiction|refine gG ?_|show AK _;intro J Z|refine gJ ?_|omega|exact aT
   .rw [yc5,hsh,yaf hx (by rw [ydN,yap,decide_eq_true hc];rfl)];exact .refl _
   .exact ⟨i+1,⟨by omega,yH hi.2 hx (by rw [ydN,yap,decide_eq_false (by omega)];rfl)⟩,by omega,by simp⟩
  .have e:i=s.ls.length:=by omega
   subst e;have ha:=y5 hi.2;have qe:=@qR;repeat' first|refine gC ?_ ?_<;>intro hc<;>try contradiction|refine gG ?_|show AK _;intro J Z|refine gJ ?_|omega|exact aT
   refine zi (κ:=Nat) (λi=>⟨[(1,.lp 1 0),(4,.p (.i .i64 i))],[(1,.box (s.cells.map .p) false)],[],false⟩) (λi=>i<=s.sh.length/\∀ y ∈ s.sh.take i,yap y=true) (λi=>s.sh.length - i) 0 ?_ ?_ ?_
   .exact sS
   .simp
   .intro i hi
    repeat first|refine gG ?_|show AK _;intro J Z|refine gJ ?_|omega|exact aT
    (refine gC ?_ ?_<;>intro hc<;>try contradiction)
    .obtain ⟨y,hx⟩:=zm (i:=i) (l:=s.sh) (by omega)
     have qe:=aI qR @hx;repeat' first|refine gC ?_ ?_<;>intro hc<;>try contradiction|refine gG ?_|show AK _;intro J Z|refine gJ ?_|omega|exact aT
     .rw [yc5,hsh,ha,yaf hx (by rw [yap,decide_eq_true hc];rfl)];exact .refl _
     .exact ⟨i+1,⟨by omega,yH hi.2 hx (by rw [yap,decide_eq_false (by omega)];rfl)⟩,by omega,by simp⟩
    .have qe:=@qR;repeat' first|refine gC ?_ ?_<;>intro hc<;>try contradiction|refine gG ?_|show AK _;intro J Z|refine gJ ?_|omega|exact aT
     have e:i=s.sh.length:=by omega
     subst e;rw [yc5,hsh,ha,y5 hi.2];exact .refl _
def bigB (b:Bk):Bool:=(decide ((5:Int) < b.slots.length) && !decide ((b.slots.length:Int)=65)) || (decide ((5:Int) < b.wait.length) && !decide ((b.wait.length:Int)=65))
def okWs (w:Wsh):Bool:=shortB w.req
def yck (b:Bk):Bool:=!bigB b && (b.slots.all yc5 && b.wait.all okWs)
def ydG (b:Bk):Pure prog 23 [b.pv] (.b (yck b)):=by
 refine pz func23 f23.eq_1 λhw X hX=>?_
 simp only [wfs,PV.wf,xaf,maxLen] at hw;have qe:=@qR;repeat' first|refine gC ?_ ?_<;>intro hc<;>try contradiction|refine gG ?_|show AK _;intro J Z|refine gJ ?_|omega|exact aT
 .have:bigB b=true:=by simpa [bigB] using hc
  rw [yck,this];exact .refl _
 have hsh:bigB b=false:=by simpa [bigB] using hc
 refine zi (κ:=Nat) (λi=>⟨[(1,.lp 1 0),(3,.p (.i .i64 i))],[(1,.box [.p (.sl 16 (b.slots.map Slt.pv)),.p (.sl 14 (b.wait.map Wsh.pv))] false)],[],false⟩) (λi=>i<=b.slots.length/\∀ y ∈ b.slots.take i,yc5 y=true) (λi=>b.slots.length - i) 0 ?_ ?_ ?_
 .exact sS
 .simp
 .intro i hi
  repeat first|refine gG ?_|show AK _;intro J Z|refine gJ ?_|omega|exact aT
  (refine gC ?_ ?_<;>intro hc<;>try contradiction)
  .obtain ⟨y,hx⟩:=zm (i:=i) (l:=b.slots) (by omega)
   have qe:=aI qR @hx;repeat' first|refine gC ?_ ?_<;>intro hc<;>try contradiction|refine za (ydu y) ?_|refine gG ?_|show AK _;intro J Z|refine gJ ?_|omega|exact aT
   .rw [yck,hsh,yaf hx hc];exact .refl _
   .exact ⟨i+1,⟨by omega,yH hi.2 hx hc⟩,by omega,by simp⟩
  .have e:i=b.slots.length:=by omega
   subst e;have ha:=y5 hi.2;have qe:=@qR;repeat' first|refine gC ?_ ?_<;>intro hc<;>try contradiction|refine gG ?_|show AK _;intro J Z|refine gJ ?_|omega|exact aT
   refine zi (κ:=Nat) (λi=>⟨[(1,.lp 1 0),(4,.p (.i .i64 i))],[(1,.box [.p (.sl 16 (b.slots.map Slt.pv)),.p (.sl 14 (b.wait.map Wsh.pv))] false)],[],false⟩) (λi=>i<=b.wait.length/\∀ y ∈ b.wait.take i,okWs y=true) (λi=>b.wait.length - i) 0 ?_ ?_ ?_
   .exact sS
   .simp
   .intro i hi
    repeat first|refine gG ?_|show AK _;intro J Z|refine gJ ?_|omega|exact aT
    (refine gC ?_ ?_<;>intro hc<;>try contradiction)
    .obtain ⟨y,hx⟩:=zm (i:=i) (l:=b.wait) (by omega)
     have qe:=aI qR @hx;repeat' first|refine gC ?_ ?_<;>intro hc<;>try contradiction|refine za (ybJ y.req) ?_|refine gG ?_|show AK _;intro J Z|refine gJ ?_|omega|exact aT
     .rw [yck,hsh,ha,yaf hx (by rw [okWs];exact hc)];exact .refl _
     .exact ⟨i+1,⟨by omega,yH hi.2 hx (by rw [okWs];exact hc)⟩,by omega,by simp⟩
    .have qe:=@qR;repeat' first|refine gC ?_ ?_<;>intro hc<;>try contradiction|refine gG ?_|show AK _;intro J Z|refine gJ ?_|omega|exact aT
     have e:i=b.wait.length:=by omega
     subst e;rw [yck,hsh,ha,y5 hi.2];exact .refl _
def ydL (l:List Lim) (b:Bk) (hn:l.length*112<=140737488355328):Pure prog 6 [.sl 11 (l.map Lim.pv),b.pv] (.b (yad l 3 && yck b)):=by
 refine pz func6 f6.eq_1 λhw X hX=>?_
 have qe:=@qR;have jA:=ybP l hn;have jB:=pure15 l 3;have jC:=ydG b;exact gD4
def yau (l:List Int) (x:Int):zf (l++[x])=if zf l=0 then x else zf l:=by rw [zoD,zfj]
def fE_pre {l:List Int} {i:Nat} (h:zf (l.take i)≠0):zf l=zf (l.take i):=by
 have:=zoD (l.take i) (l.drop i);rw [xaw,if_neg h] at this;exact this
def yev {l:List Int} {i:Nat} {e a:Int} (he:e=zf (a::l.take i)) (h:i < l.length->e≠0):e=zf (a::l):=by
 by_cases hi:i < l.length
 .have h1:=h hi;rw [he] at h1 ⊢;exact (fE_pre (l:=a::l) (i:=i+1) h1).symm
 .rw [he,xag (by omega)]
def ycN {l:List Int} {i:Nat} {a e x:Int} (he:e=zf (a::l.take i)) (h0:e=0) (hx:l[i]?=some x):x=zf (a::l.take (i+1)):=by
 rw [zam hx];have:=yau (a::l.take i) x;rw [<-he,if_pos h0] at this;exact this.symm
def ybt (s:Slt):Int:=zf [zsh s.req,zaG s.holder,if 8 < (s.ls.length:Int) then 5 else 0]
def ybf (s:Slt):Int:=zf (ybt s::s.ls.mapIdx (zcY s))
def ybs (s:Slt):Int:=zf [ybf s,if 4 < (s.sh.length:Int) then 5 else 0]
def fE_out (a:Int) (l:List Int):zf [a,zf l]=zf (a::l):=by
 by_cases h:a=0
 .rw [za2 h,za2 h,zfj]
 .rw [za1 h,za1 h]
def ybZ (l r:List Int):zf (zf l::r)=zf (l++r):=by
 rw [zoD]
 by_cases h:zf l=0
 .rw [za2 h,if_pos h]
 .rw [za1 h,if_neg h]
def yd5 (s:Slt):zin s=zf (ybs s::s.sh.mapIdx (zhB s)):=by
 rw [ybs,ybZ,xaQ,xaQ,xaP,ybf,ybZ,xaQ,ybt,ybZ,zin];rw [zoD [_,_,_]];have e:zf [zf (s.ls.mapIdx (zcY s)),if 4 < (s.sh.length:Int) then 5 else 0,zf (s.sh.mapIdx (zhB s))]=zf (s.ls.mapIdx (zcY s)++(if 4 < (s.sh.length:Int) then 5 else 0)::s.sh.mapIdx (zhB s)):=by
  rw [ybZ,zoD,zoD (s.ls.mapIdx (zcY s)),fE_out]
 rw [<-e];exact zoD [_,_,_] [_,_,_]
abbrev stS (s:Slt) (e:Int):St:=⟨[(1,.lp 1 0),(3,.p (.i .i64 e))],[(1,.box (s.cells.map .p) false)],[],false⟩
def yaM (s:Slt):Pure prog 45 [s.pv] (.i .i64 (zin s)):=by
 refine pz func45 f45.eq_1 λhw X hX=>?_
 simp only [wfs,PV.wf,xaf,maxLen] at hw;have hS1:ybt s=if zf [zsh s.req,zaG s.holder]=0 then (if 8 < (s.ls.length:Int) then 5 else 0) else zf [zsh s.req,zaG s.holder]:=yau [_,_] _
 have hS3:ybs s=if ybf s=0 then (if 4 < (s.sh.length:Int) then 5 else 0) else ybf s:=by
  have:=yau [ybf s] (if 4 < (s.sh.length:Int) then 5 else 0)
  rw [zfj] at this;exact this
 have qe:=@qR;repeat' first|refine za (yG s.req) ?_|refine za (yd s.holder) ?_|refine za (yr [_,_]) ?_|refine gG ?_|show AK _;intro J Z|refine gJ ?_|omega|exact aT
 refine zne (stS s (ybt s)) ?_ ?_
 ·(refine gC ?_ ?_<;>intro hc<;>try contradiction)
  .rw [hS1,if_pos hc.1,if_pos hc.2]
   repeat' first|refine gC ?_ ?_<;>intro hc<;>try contradiction|refine gG ?_|show AK _;intro J Z|refine gJ ?_|omega|exact aT
   all_goals (show Cov _ _;simp only [qS,seval]<;>simp)
  .have e:ybt s=zf [zsh s.req,zaG s.holder]:=by
    rw [hS1];split
    .rename_i h;rw [if_neg (by have:=hc h;omega),h]
    .rfl
   rw [e]
   repeat' first|refine gC ?_ ?_<;>intro hc<;>try contradiction|refine gG ?_|show AK _;intro J Z|refine gJ ?_|omega|exact aT
   all_goals (show Cov _ _;simp only [qS,seval]<;>simp)
 refine zgx (zne (stS s (ybf s)) ?_ ?_)
 .repeat' first|refine gC ?_ ?_<;>intro hc<;>try contradiction|refine gG ?_|show AK _;intro J Z|refine gJ ?_|omega|exact aT
  refine zi (κ:=Nat × Int) (λk=>⟨[(1,.lp 1 0),(3,.p (.i .i64 k.2)),(4,.p (.i .i64 k.1))],[(1,.box (s.cells.map .p) false)],[],false⟩) (λk=>k.1<=s.ls.length/\k.2=zf (ybt s::(s.ls.mapIdx (zcY s)).take k.1)) (λk=>s.ls.length - k.1) (0,ybt s) ?_ ?_ ?_
  .exact sS
  .simp [zfj]
  .rintro ⟨i,e⟩ ⟨hi,he⟩;simp only at hi he
   repeat first|refine gG ?_|show AK _;intro J Z|refine gJ ?_|omega|exact aT
   (refine gC ?_ ?_<;>intro hc<;>try contradiction)
   .obtain ⟨h1,h2⟩:=hc;obtain ⟨x,hx⟩:=zm (i:=i) (l:=s.ls) (by omega)
    obtain ⟨y,hy⟩:=zm (i:=i - 1) (l:=s.ls) (by omega)
    have e1:((i:Int) - 1).toNat=i - 1:=by omega
    have hl:zcY s i x=if zf [zdC x,zfH s.raw x]=0 then (if 0 < (i:Int)/\x.fro<=y.to then 15 else 0) else zf [zdC x,zfH s.raw x]:=by
     rw [zcY,hy];exact yau [_,_] _
    have hn:=ycN he h2 (zI (f:=zcY s) hx)
    by_cases c1:zf [zdC x,zfH s.raw x]=0
    .have c1':=eq_true c1;rw [if_pos c1] at hl
     by_cases c2:0 < (i:Int)
     .have c2':=eq_true c2
      by_cases c3:x.fro<=y.to
      .have c3':=eq_true c3;rw [if_pos ⟨c2,c3⟩] at hl;rw [hl] at hn;have qe:=aI qR (aI @hx (aI @hy (aI @e1 (aI @c1' (aI @c2' (aI @c3' @decide_true))))));repeat' first|refine gC ?_ ?_<;>intro hc<;>try contradiction|refine za (yN x) ?_|refine za (yT s x) ?_|refine za (yr [_,_]) ?_|refine gG ?_|show AK _;intro J Z|refine gJ ?_|omega|exact aT
       all_goals exact ⟨(i+1,15),⟨by omega,hn⟩,by simp;omega,by simp⟩
      .have c3':=eq_false c3;rw [if_neg (λk=>c3 k.2)] at hl
       rw [hl] at hn;have qe:=aI qR (aI @hx (aI @hy (aI @e1 (aI @c1' (aI @c2' (aI @c3' yDF))))));repeat' first|refine gC ?_ ?_<;>intro hc<;>try contradiction|refine za (yN x) ?_|refine za (yT s x) ?_|refine za (yr [_,_]) ?_|refine gG ?_|show AK _;intro J Z|refine gJ ?_|omega|exact aT
       all_goals exact ⟨(i+1,zf [zdC x,zfH s.raw x]),⟨by omega,by rw [c1];exact hn⟩,by simp;omega,by simp⟩
     .have c2':=eq_false c2;rw [if_neg (λk=>c2 k.1)] at hl
      rw [hl] at hn;have qe:=aI qR (aI @hx (aI @hy (aI @e1 (aI @c1' (aI @c2' yDF)))));repeat' first|refine gC ?_ ?_<;>intro hc<;>try contradiction|refine za (yN x) ?_|refine za (yT s x) ?_|refine za (yr [_,_]) ?_|refine gG ?_|show AK _;intro J Z|refine gJ ?_|omega|exact aT
      all_goals exact ⟨(i+1,zf [zdC x,zfH s.raw x]),⟨by omega,by rw [c1];exact hn⟩,by simp;omega,by simp⟩
    .have c1':=eq_false c1;rw [if_neg c1] at hl;rw [hl] at hn;have qe:=aI qR (aI @hx (aI @hy (aI @e1 (aI @c1' @decide_false))));repeat' first|refine gC ?_ ?_<;>intro hc<;>try contradiction|refine za (yN x) ?_|refine za (yT s x) ?_|refine za (yr [_,_]) ?_|refine gG ?_|show AK _;intro J Z|refine gJ ?_|omega|exact aT
     all_goals exact ⟨(i+1,zf [zdC x,zfH s.raw x]),⟨by omega,hn⟩,by simp;omega,by simp⟩
   .have hf:=yev he (λh=>hc (by simpa using h))
    repeat' first|refine gC ?_ ?_<;>intro hc<;>try contradiction|refine gG ?_|show AK _;intro J Z|refine gJ ?_|omega|exact aT
    all_goals (show Cov _ _;simp only [qS,seval,hf]<;>simp [ybf])
 repeat' first|refine gG ?_|show AK _;intro J Z|refine gJ ?_|omega|exact aT
 refine zne (stS s (ybs s)) ?_ ?_
 ·(refine gC ?_ ?_<;>intro hc<;>try contradiction)
  .rw [hS3,if_pos hc.1,if_pos hc.2]
   repeat' first|refine gC ?_ ?_<;>intro hc<;>try contradiction|refine gG ?_|show AK _;intro J Z|refine gJ ?_|omega|exact aT
   all_goals (show Cov _ _;simp only [qS,seval]<;>simp)
  .have e:ybs s=ybf s:=by
    rw [hS3];split
    .rename_i h;rw [if_neg (by have:=hc h;omega),h]
    .rfl
   rw [e]
   repeat' first|refine gC ?_ ?_<;>intro hc<;>try contradiction|refine gG ?_|show AK _;intro J Z|refine gJ ?_|omega|exact aT
   all_goals (show Cov _ _;simp only [qS,seval]<;>simp)
 repeat' first|refine gC ?_ ?_<;>intro hc<;>try contradiction|refine gG ?_|show AK _;intro J Z|refine gJ ?_|omega|exact aT
 refine zi (κ:=Nat × Int) (λk=>⟨[(1,.lp 1 0),(3,.p (.i .i64 k.2)),(5,.p (.i .i64 k.1))],[(1,.box (s.cells.map .p) false)],[],false⟩) (λk=>k.1<=s.sh.length/\k.2=zf (ybs s::(s.sh.mapIdx (zhB s)).take k.1)) (λk=>s.sh.length - k.1) (0,ybs s) ?_ ?_ ?_
 .exact sS
 .simp [zfj]
 .rintro ⟨i,e⟩ ⟨hi,he⟩;simp only at hi he
  repeat first|refine gG ?_|show AK _;intro J Z|refine gJ ?_|omega|exact aT
  (refine gC ?_ ?_<;>intro hc<;>try contradiction)
  .obtain ⟨h1,h2⟩:=hc;obtain ⟨x,hx⟩:=zm (i:=i) (l:=s.sh) (by omega)
   have hn:=ycN he h2 (zI (f:=zhB s) hx);have e31:((31:Int)=0)=False:=eq_false (by omega)
   by_cases d1:zaG x=0
   .have d1':=eq_true d1
    by_cases d2:x=s.holder
    .have d2':=eq_true d2;have hv:zhB s i x=31:=by rw [zhB,za2 d1,if_pos d2,za1 (by omega)]
     rw [hv] at hn;have qe:=aI qR (aI @hx (aI @zel (aI @d1' (aI @d2' (aI @e31 yDF)))));repeat' first|refine gC ?_ ?_<;>intro hc<;>try contradiction|refine za (yd x) ?_|refine zp (λ_=>yu (s.sh.take i) x) ?_|refine gG ?_|show AK _;intro J Z|refine gJ ?_|omega|exact aT
     all_goals exact ⟨(i+1,31),⟨by omega,hn⟩,by simp;omega,by simp⟩
    .have d2':=eq_false d2
     by_cases d3:0<=atL x (s.sh.take i)
     .have d3':=eq_true d3;have hv:zhB s i x=9:=by rw [zhB,za2 d1,if_neg d2,za2 rfl,zfj,if_pos d3]
      rw [hv] at hn;have qe:=aI qR (aI @hx (aI @zel (aI @d1' (aI @d2' (aI @d3' yDF)))));repeat' first|refine gC ?_ ?_<;>intro hc<;>try contradiction|refine za (yd x) ?_|refine zp (λ_=>yu (s.sh.take i) x) ?_|refine gG ?_|show AK _;intro J Z|refine gJ ?_|omega|exact aT
      all_goals exact ⟨(i+1,9),⟨by omega,hn⟩,by simp;omega,by simp⟩
     .have d3':=eq_false d3;have hv:zhB s i x=0:=by rw [zhB,za2 d1,if_neg d2,za2 rfl,zfj,if_neg d3]
      rw [hv] at hn;have qe:=aI qR (aI @hx (aI @zel (aI @d1' (aI @d2' (aI @d3' yDF)))));repeat' first|refine gC ?_ ?_<;>intro hc<;>try contradiction|refine za (yd x) ?_|refine zp (λ_=>yu (s.sh.take i) x) ?_|refine gG ?_|show AK _;intro J Z|refine gJ ?_|omega|exact aT
      all_goals exact ⟨(i+1,zaG x),⟨by omega,by rw [d1];exact hn⟩,by simp;omega,by simp⟩
   .have d1':=eq_false d1;have hv:zhB s i x=zaG x:=by rw [zhB,za1 d1]
    rw [hv] at hn;have qe:=aI qR (aI @hx (aI @zel (aI @d1' @decide_false)));repeat' first|refine gC ?_ ?_<;>intro hc<;>try contradiction|refine za (yd x) ?_|refine zp (λ_=>yu (s.sh.take i) x) ?_|refine gG ?_|show AK _;intro J Z|refine gJ ?_|omega|exact aT
    all_goals exact ⟨(i+1,zaG x),⟨by omega,hn⟩,by simp;omega,by simp⟩
  .have hf:=yev he (λh=>hc (by simpa using h))
   rw [yd5,<-hf];exact gD0
def yaQ {α:Type} {f:Nat->α->Int} {l:List α} (h:zf (l.mapIdx f)=0) {i:Nat} {x:α} (hx:l[i]?=some x):f i x=0:=fE0 h _ (xad (zI hx))
def yfq {b:Bk} (h:zG b=0) {i:Nat} {s:Slt} (hs:b.slots[i]?=some s):zeJ b i s=0:=
 yaQ (fE0 h (zf (b.slots.mapIdx (zeJ b))) (by simp)) hs
def ybv {b:Bk} (h:zG b=0) {i:Nat} {w:Wsh} (hs:b.wait[i]?=some w):zd5 b i w=0:=
 yaQ (fE0 h (zf (b.wait.mapIdx (zd5 b))) (by simp)) hs
def ycV {b:Bk} (h:zG b=0) {s:Slt} (hs:s ∈ b.slots):zin s=0:=by
 obtain ⟨i,hi⟩:=xaN.1 hs;exact fE0 (yfq h hi) _ (by simp)
def bk_q {b:Bk} (h:zG b=0) {s:Slt} (hs:s ∈ b.slots):zsh s.req=0:=fE0 (ycV h hs) _ (by simp)
def yX {b:Bk} (h:zG b=0) {s:Slt} (hs:s ∈ b.slots):zdB s.req=0:=yaa (bk_q h hs)
def ycs (L:List Req):rqW L (-1)=L:=by
 have key:∀ k,k<=L.length->rqK L (-1) k=L.take k:=by
  intro k
  induction k with
  | zero=>intro _;rfl
  | succ k ih=>
   intro hk;have h:=ih (by omega)
   rw [rqK] at h;have hx:L[k]?=some L[k]:=xab (by omega)
   rw [rqK,xa7,xa0,h,zam hx,xaz,xbq,rqI,hx];simp only;rw [if_neg (by omega),xat]
 rw [rqW,key _ (xaj _),xas]
def yal {r:Req} (h:zdB r=0):zae (zrw r)=0/\(zrw r).length<=401:=by
 have hp:=zaW (zeC h).1;have hl:(zrw r).length<=401:=by
  have:=zcE r.per;simp only [zrw,xaf];omega
 refine ⟨yaG (by omega) (λx hx=>?_) ?_,hl⟩
 .obtain ⟨d,hd,rfl⟩:=ydP hx;exact ybg h hd
 .unfold zrw;refine (xcn).2 ((ybq r.per).imp fun {a b} hab=>?_)
  simp only [zeh];omega
def ycC {L:List Slt} (h:∀ s ∈ L,zdB s.req=0) (hn:L.length<=70):∀ k≤L.length,mvF ((L.map (·.req)).take k)=mvS (L.take k)/\zae (mvS (L.take k))=0/\(mvS (L.take k)).length<=401*k:=by
 intro k
 induction k with
 | zero=>intro _;exact ⟨rfl,rfl,xa5 _⟩
 | succ k ih=>
  intro hk;obtain ⟨e1,e2,e3⟩:=ih (by omega)
  have hx:L[k]?=some L[k]:=xab (by omega)
  have hq:=h L[k] (xb6 _);obtain ⟨m1,m2⟩:=yal hq;have hl:(mvS (L.take k)).length+(zrw L[k].req).length<=30000:=by omega
  have hg:mgE (mvS (L.take k)) (zrw L[k].req)=0:=zq.2 ⟨e2,zq.2 ⟨m1,zq.2 ⟨if_neg (by omega),rfl⟩⟩⟩
  obtain ⟨k1,k2⟩:=ydR (zaQ e2).2.1 (zaQ m1).2.1 hl;have hxr:(L.map (·.req))[k]?=some L[k].req:=by rw [xah,hx];rfl
  rw [zkC hxr,ybR hx,e1,zgR,if_pos hq,mgR,if_pos hg];exact ⟨rfl,k1,by rw [k2];omega⟩
def yfr {b:Bk} (h:zG b=0):mvE b=mvS b.slots/\zae (mvS b.slots)=0/\(mvS b.slots).length<=401*b.slots.length:=by
 have hn:=ziq h;have:=ycC (λs hs=>yX h hs) (by omega) b.slots.length (xaj _)
 rw [xas] at this;rw [mvE,if_pos h,ycs];have e:(b.slots.map (·.req)).take b.slots.length=b.slots.map (·.req):=xag (by simp)
 rw [e] at this;exact this
def yaO (b:Bk) (hb:zfy b):Pure prog 11 [b.pv] b.pv:=by
 obtain ⟨hs,hn,hw1⟩:=hb;refine pz func11 f11.eq_1 λhw X hX=>?_
 have qe:=@qR;repeat' first|refine gC ?_ ?_<;>intro hc<;>try contradiction|refine gG ?_|show AK _;intro J Z|refine gJ ?_|omega|exact aT
 refine zaO 100 84 16 [(1,.lp 1 0),(2,.lp 2 0),(3,.lp 3 0),(12,.p (.sl 16 (b.slots.map Slt.pv))),(13,.p (.i .i64 b.slots.length)),(14,.p (.i .i64 0))] [(1,.box [.p (.sl 16 (b.slots.map Slt.pv)),.p (.sl 14 (b.wait.map Wsh.pv))] false),(2,.box [.p .nilsl,.p .nilsl] false),(3,.box [.row 100 0,.p .nilsl] false)] ?_ ?_
 .simp only [Own,zaL,zaA,zbr,zax,qS,seval]<;>simp
 refine zi (κ:=Nat) (λk=>⟨[(1,.lp 1 0),(2,.lp 2 0),(3,.lp 3 0),(12,.p (.sl 16 (b.slots.map Slt.pv))),(13,.p (.i .i64 b.slots.length)),(14,.p (.i .i64 k))],[(1,.box [.p (.sl 16 (b.slots.map Slt.pv)),.p (.sl 14 (b.wait.map Wsh.pv))] false),(2,.box [.p .nilsl,.p .nilsl] false),(3,.box [.row 100 k,.p .nilsl] false),(100,.row 84 16 ((b.slots.take k).map Slt.pv) false)],[],false⟩) (λk=>k<=b.slots.length) (λk=>b.slots.length - k) 0 ?_ ?_ ?_
 .exact sS
 .simp
 .intro k hk;have hlk:(b.slots.take k).length=k:=by rw [xai];omega
  repeat first|refine gG ?_|show AK _;intro J Z|refine gJ ?_|omega|exact aT
  (refine gC ?_ ?_<;>intro hc<;>try contradiction)
  .obtain ⟨s,hx⟩:=zm (i:=k) (l:=b.slots) (by omega)
   obtain ⟨hl1,hl2⟩:=hs s (xad hx);have qe:=aI qR (aI @hx (aI @allSt @zah));repeat' first|refine gC ?_ ?_<;>intro hc<;>try contradiction|refine gG ?_|show AK _;intro J Z|refine gJ ?_|omega|exact aT
   refine zaO 101 91 3 [(1,.lp 1 0),(2,.lp 2 0),(3,.lp 3 0),(12,.p (.sl 16 (b.slots.map Slt.pv))),(13,.p (.i .i64 b.slots.length)),(14,.p (.i .i64 k)),(5,.lp 5 0),(6,.lp 6 0),(28,.p (.sl 3 (s.ls.map Lea.pv))),(29,.p (.i .i64 s.ls.length)),(30,.p (.i .i64 0))] [(1,.box [.p (.sl 16 (b.slots.map Slt.pv)),.p (.sl 14 (b.wait.map Wsh.pv))] false),(2,.box [.p .nilsl,.p .nilsl] false),(3,.box [.row 100 k,.p .nilsl] false),(100,.row 84 16 ((b.slots.take k).map Slt.pv) false),(5,.box (s.cells.map .p) false),(6,.box [.p (.s s.req.name),.p (.s s.req.carrier),.p (.s s.req.kind),.p (.s s.req.term),.p (.s s.req.partner),.p (.s s.req.link),.p (.i .i64 s.req.per.fro),.p (.i .i64 s.req.per.to),.p (.i .i64 s.req.per.days),.p (.i .i64 s.req.minute),.p (.i .i64 s.req.seats),.p (.i .i64 s.req.size),.p (.i .i64 s.req.noise),.p (.s s.holder),.row 101 0,.row 22 s.sh.length] false),(22,.row 9 1 (s.sh.map .s) false)] ?_ ?_
   .simp only [Own,zaL,zaA,zbr,zax,qS,seval]<;>simp [hlk]
   refine zi (κ:=Nat) (λi=>⟨[(1,.lp 1 0),(2,.lp 2 0),(3,.lp 3 0),(12,.p (.sl 16 (b.slots.map Slt.pv))),(13,.p (.i .i64 b.slots.length)),(14,.p (.i .i64 k)),(5,.lp 5 0),(6,.lp 6 0),(28,.p (.sl 3 (s.ls.map Lea.pv))),(29,.p (.i .i64 s.ls.length)),(30,.p (.i .i64 i))],[(1,.box [.p (.sl 16 (b.slots.map Slt.pv)),.p (.sl 14 (b.wait.map Wsh.pv))] false),(2,.box [.p .nilsl,.p .nilsl] false),(3,.box [.row 100 k,.p .nilsl] false),(100,.row 84 16 ((b.slots.take k).map Slt.pv) false),(5,.box (s.cells.map .p) false),(6,.box [.p (.s s.req.name),.p (.s s.req.carrier),.p (.s s.req.kind),.p (.s s.req.term),.p (.s s.req.partner),.p (.s s.req.link),.p (.i .i64 s.req.per.fro),.p (.i .i64 s.req.per.to),.p (.i .i64 s.req.per.days),.p (.i .i64 s.req.minute),.p (.i .i64 s.req.seats),.p (.i .i64 s.req.size),.p (.i .i64 s.req.noise),.p (.s s.holder),.row 101 i,.row 22 s.sh.length] false),(22,.row 9 1 (s.sh.map .s) false),(101,.row 91 3 ((s.ls.take i).map Lea.pv) false)],[],false⟩) (λi=>i<=s.ls.length) (λi=>s.ls.length - i) 0 ?_ ?_ ?_
   .refine gJ ?_;simp [hlk]
   .simp
   .intro i hi;have hli:(s.ls.take i).length=i:=by rw [xai];omega
    repeat first|refine gG ?_|show AK _;intro J Z|refine gJ ?_|omega|exact aT
    (refine gC ?_ ?_<;>intro hc<;>try contradiction)
    .obtain ⟨x,hx2⟩:=zm (i:=i) (l:=s.ls) (by omega)
     have qe:=aI qR (aI @hx2 (aI @hli @hlk));repeat' first|refine gC ?_ ?_<;>intro hc<;>try contradiction|refine gG ?_|show AK _;intro J Z|refine gJ ?_|omega|exact aT
     exact ⟨i+1,by omega,by omega,by simp,⟨rfl,by rw [zam hx2];simp⟩,by simp;omega⟩
    .have e:i=s.ls.length:=by omega
     subst e;refine zqd ?_;refine (show Run _ (.ops false _) _ _ from zlu (zcn 3 ?_))
     simp only [xbv,xbM,xbU,xb1];have qe:=aI qR (aI @zah (aI @hlk @List.take_length.{0}));repeat' first|refine gC ?_ ?_<;>intro hc<;>try contradiction|refine gG ?_|show AK _;intro J Z|refine gJ ?_|omega|exact aT
     refine zbL (ya9 43 s.pv (by simp only [qS,seval,zah]<;>rfl) (by first|trivial|simp) (.refl _)) ?_
     rintro _ rfl;refine zF ?_;have qe:=aI qR @hlk;repeat' first|refine gC ?_ ?_<;>intro hc<;>try contradiction|refine gG ?_|show AK _;intro J Z|refine gJ ?_|omega|exact aT
     exact ⟨k+1,by omega,by omega,by simp,⟨rfl,by rw [zam hx];simp⟩,by simp;omega⟩
  .have e:k=b.slots.length:=by omega
   subst e;have qe:=aI qR @List.take_length.{0};repeat' first|refine gC ?_ ?_<;>intro hc<;>try contradiction|refine gG ?_|show AK _;intro J Z|refine gJ ?_|omega|exact aT
   refine zaO 102 73 14 [(2,.lp 2 0),(3,.lp 3 0),(49,.p (.sl 14 (b.wait.map Wsh.pv))),(50,.p (.i .i64 b.wait.length)),(51,.p (.i .i64 0))] [(1,.box [.p (.sl 16 (b.slots.map Slt.pv)),.p (.sl 14 (b.wait.map Wsh.pv))] false),(2,.box [.p .nilsl,.p .nilsl] false),(3,.box [.row 100 b.slots.length,.row 102 0] false),(100,.row 84 16 (b.slots.map Slt.pv) false)] ?_ ?_
   .simp only [Own,zaL,zaA,zbr,zax,qS,seval]<;>simp
   refine zi (κ:=Nat) (λk=>⟨[(2,.lp 2 0),(3,.lp 3 0),(49,.p (.sl 14 (b.wait.map Wsh.pv))),(50,.p (.i .i64 b.wait.length)),(51,.p (.i .i64 k))],[(1,.box [.p (.sl 16 (b.slots.map Slt.pv)),.p (.sl 14 (b.wait.map Wsh.pv))] false),(2,.box [.p .nilsl,.p .nilsl] false),(3,.box [.row 100 b.slots.length,.row 102 k] false),(100,.row 84 16 (b.slots.map Slt.pv) false),(102,.row 73 14 ((b.wait.take k).map Wsh.pv) false)],[],false⟩) (λk=>k<=b.wait.length) (λk=>b.wait.length - k) 0 ?_ ?_ ?_
   .exact sS
   .simp
   .intro k hk2;have hl2:(b.wait.take k).length=k:=by rw [xai];omega
    repeat first|refine gG ?_|show AK _;intro J Z|refine gJ ?_|omega|exact aT
    (refine gC ?_ ?_<;>intro hc<;>try contradiction)
    .obtain ⟨w,hx2⟩:=zm (i:=k) (l:=b.wait) (by omega)
     have qe:=aI qR (aI @hx2 @hl2);repeat' first|refine gC ?_ ?_<;>intro hc<;>try contradiction|refine gG ?_|show AK _;intro J Z|refine gJ ?_|omega|exact aT
     exact ⟨k+1,by omega,by omega,by simp,⟨rfl,by rw [zam hx2];simp⟩,by simp;omega⟩
    .have e2:k=b.wait.length:=by omega
     subst e2;have qe:=aI qR (aI @zah @List.take_length.{0});exact gD0
def yeb (l:List Slt):l.all ((λx=>x.cells.all PV.one) ∘ Slt.pv)=true:=by rw [xaB];intro x _;rfl
def setB (b:Bk) (i:Nat) (s:Slt):Bk:=⟨b.slots.set i s,b.wait⟩
def yF (b:Bk) (i:Nat) (s:Slt) (hi:i < b.slots.length) (hn:b.slots.length<=1000):Pure prog 108 [b.pv,.i .i64 i,s.pv] (setB b i s).pv:=by
 refine pz func108 f108.eq_1 λhw X hX=>?_
 show Run _ _ _ (retQ _ (.agg [.sl 16 ((b.slots.set i s).map Slt.pv),.sl 14 (b.wait.map Wsh.pv)]));rw [xbb];have qe:=aI qR (aI @yeb @zah);repeat' first|refine gC ?_ ?_<;>intro hc<;>try contradiction|refine gG ?_|show AK _;intro J Z|refine gJ ?_|omega|exact aT
 all_goals first|exact .refl _
def yac {b:Bk} {c n:ByteArray} {e:Int} (h:zhn b c n e=0):yaV b c n=(zx b n:Int)/\zx b n < b.slots.length:=by
 obtain ⟨h1,h2,_,h4⟩:=za6 h;have hc:zaG c=0:=fE0 h4 _ (by simp)
 exact ⟨by rw [yaV,if_pos hc,ycb,if_neg h1,zx];omega,(xaa.1 h2).1⟩
def ydy (b:Bk) (c n to:ByteArray) (hb:zfy b):Pure prog 59 [b.pv,.s c,.s n,.s to] (.tup [(trB b c n to).pv,.i .i64 (trC b c n to)]):=by
 refine zar (r:=if trC b c n to=0 then .tup [(zo8 b n (trS (zn b n) to)).pv,.i .i64 0] else .tup [.agg [.nilsl,.nilsl],.i .i64 (trC b c n to)]) ?_ ?_
 .refine pz func59 f59.eq_1 λhw X hX=>?_
  by_cases hown:zhn b c n (zaG to)=0
  .obtain ⟨h1,h2,h3,h4⟩:=za6 hown;obtain ⟨hI,hlt⟩:=yac hown;have hC:trC b c n to=trE (zn b n) to:=by rw [trC,zfM,za2 hown,zfj]
   generalize hso:zn b n=s at h2 h3 hC;have ht0:=eq_true hown
   by_cases ht:to=c
   .have e:trC b c n to=31:=by rw [hC,trE,za1 (by rw [if_pos (ht.trans h3.symm)];omega),if_pos (ht.trans h3.symm)]
    have ht':=eq_true ht;rw [e,if_neg (by omega)]
    have qe:=aI qR (aI @hI (aI @h2 (aI @ht0 (aI @ht' (aI @decide_true (aI @decide_false @za9))))));have jA:=yd to;have jB:=yc b c n (zaG to);exact gD2
   .have ht':=eq_false ht;have hE:trE s to=if 0 < (s.ls.length:Int) then 19 else 0:=by rw [trE,za2 (if_neg (λk=>ht (k.trans h3))),zfj]
    by_cases hl:0 < (s.ls.length:Int)
    .have e:trC b c n to=19:=by rw [hC,hE,if_pos hl]
     have hl':=eq_true hl;rw [e,if_neg (by omega)]
     have qe:=aI qR (aI @hI (aI @h2 (aI @ht0 (aI @ht' (aI @hl' (aI @decide_true (aI @decide_false @za9)))))));have jA:=yd to;have jB:=yc b c n (zaG to);exact gD2
    .have e:trC b c n to=0:=by rw [hC,hE,if_neg hl]
     have hl':=eq_false hl;have hP:Pure prog 108 [b.pv,.i .i64 (zx b n),trW s to] (setB b (zx b n) (trS s to)).pv:=zud (yF b (zx b n) (trS s to) hlt hb.n) ⟨.refl _,.refl _,.agg (zwf s to),trivial⟩;rw [e,if_pos rfl];have qe:=aI qR (aI @hI (aI @h2 (aI @ht0 (aI @ht' (aI @hl' (aI @decide_true (aI @decide_false @za9)))))));have jA:=yd to;have jB:=yc b c n (zaG to);have jC:=hP;exact gD4
  .have e:trC b c n to=zhn b c n (zaG to):=by rw [trC,zfM,za1 hown]
   have ht0:=eq_false hown;rw [e,if_neg hown]
   rcases hsx:b.slots[(yaV b c n).toNat]? with _|sx
   .have qe:=aI qR (aI @ht0 (aI @hsx (aI @decide_false @xal)));have jA:=yd to;have jB:=yc b c n (zaG to);exact gD2
   .have qe:=aI qR (aI @ht0 (aI @hsx (aI @decide_false @xal)));have jA:=yd to;have jB:=yc b c n (zaG to);exact gD2
 .by_cases h:trC b c n to=0
  .rw [if_pos h,trB,if_pos h,h];exact .refl _
  .rw [if_neg h,trB_0 h];exact zbt _
