/- Contracts of functions, for the claim. No conditions. -/
import Derived.Test.YtijgimeokgbifaaGreatRows
import Derived.Test.YtijgimeokgbifaaGreatR3
set_option linter.all false
set_option maxHeartbeats 8000000
set_option maxRecDepth 100000
namespace Go.Proofs.YtijgimeokgbifaaGreat
open Go.RowKit Go.Proofs.Tryz
def yt (l:List Lim) (b:Bk) (k:Nat):List Slt:=b.slots++(zgu l b k).Q.map zgP
def yeK (l:List Lim) (b:Bk) (hok:zfy b) (hl:zZ l=0) (hS:∀ k≤b.wait.length,(∀ s ∈ yt l b k,zdB s.req=0)/\(yt l b k).length<=64)
  (hH:∀ k w,b.wait[k]?=some w->(zei l ⟨yt l b k,[]⟩ w.req=0↔¬ztr l b.slots.length (zgu l b k) w)) :
  Pure prog 62 [.sl 11 (l.map Lim.pv),b.pv] (.tup [(srvB l b).pv,.sl 1 ((srvW l b).map .s)]):=by
 refine pz func62 f62.eq_1 λhw X hX=>?_
 obtain ⟨hs,hn1,hwl⟩:=hok;have qe:=@qR;repeat' first|refine gC ?_ ?_<;>intro hc<;>try contradiction|refine gG ?_|show AK _;intro J Z|refine gJ ?_|omega|exact aT
 refine zaO 100 9 1 [(0,.p (.sl 11 (l.map Lim.pv))),(3,.lp 3 0),(4,.lp 4 0),(6,.lp 6 0),(7,.row 100 0),(8,.p (.i .i64 0))] [(3,.box [.p (.sl 16 (b.slots.map Slt.pv)),.p (.sl 14 (b.wait.map Wsh.pv))] false),(4,.box [.p .nilsl,.p .nilsl] false),(6,.box [.p (.sl 16 (b.slots.map Slt.pv)),.p .nilsl] false)] ?_ ?_
 .simp only [Own,zaL,zaA,zbr,zax,qS,seval]<;>simp
 refine zaO 101 104 14 [(0,.p (.sl 11 (l.map Lim.pv))),(3,.lp 3 0),(4,.lp 4 0),(6,.lp 6 0),(7,.row 100 0),(8,.p (.i .i64 0))] [(3,.box [.p (.sl 16 (b.slots.map Slt.pv)),.p (.sl 14 (b.wait.map Wsh.pv))] false),(4,.box [.p .nilsl,.p .nilsl] false),(6,.box [.p (.sl 16 (b.slots.map Slt.pv)),.row 101 0] false),(100,.row 9 1 [] false)] ?_ ?_
 .simp only [Own,zaL,zaA,zbr,zax,qS,seval]<;>simp
 refine zi (κ:=Nat) (λk=>⟨[(0,.p (.sl 11 (l.map Lim.pv))),(3,.lp 3 0),(4,.lp 4 0),(6,.lp 6 0),(7,.row 100 (zgu l b k).Q.length),(8,.p (.i .i64 k))],[(3,.box [.p (.sl 16 (b.slots.map Slt.pv)),.p (.sl 14 (b.wait.map Wsh.pv))] false),(4,.box [.p .nilsl,.p .nilsl] false),(6,.box [.p (.sl 16 ((yt l b k).map Slt.pv)),.row 101 (zgu l b k).K.length] false),(100,.row 9 1 (((zgu l b k).Q.map (·.name)).map .s) false),(101,.row 104 14 ((zgu l b k).K.map Wsh.pv) false)],[],false⟩) (λk=>k<=b.wait.length) (λk=>b.wait.length - k) 0 ?_ ?_ ?_
 .refine gJ ?_;simp [zgu,yt,srv0]
 .simp
 .intro k hk;have hlen:=zj2 (l:=l) (b:=b) hk
  repeat first|refine gG ?_|show AK _;intro J Z|refine gJ ?_|omega|exact aT
  (refine gC ?_ ?_<;>intro hc<;>try contradiction)
  .obtain ⟨w,hx⟩:=zm (i:=k) (l:=b.wait) (by omega)
   obtain ⟨hv,hn64⟩:=hS k hk;have hnx:=zhA (l:=l) hx;have hSb:zfy ⟨yt l b k,[]⟩:=by
    refine ⟨λs h=>?_,by simp only;omega,by simp⟩
    rcases xaD.1 h with h|h
    .exact hs s h
    .obtain ⟨r,_,rfl⟩:=xaT.1 h;exact ⟨by simp [zgP],by simp [zgP]⟩
   have hP:Pure prog 51 [.sl 11 (l.map Lim.pv),.agg [.sl 16 ((yt l b k).map Slt.pv),.nilsl],w.req.pv] (.tup [(zjv l ⟨yt l b k,[]⟩ w.req).pv,.i .i64 (zei l ⟨yt l b k,[]⟩ w.req)]):=
    zud (ycl l ⟨yt l b k,[]⟩ w.req hSb hl hv hn64) ⟨.refl _,.agg ⟨.refl _,.nilsl _,trivial⟩,.refl _,trivial⟩
   have hHk:=hH k w hx
   by_cases hno:ztr l b.slots.length (zgu l b k) w
   .have hC:¬zei l ⟨yt l b k,[]⟩ w.req=0:=λk=>hHk.1 k hno
    have hC':=eq_false hC;rw [srvN,if_pos hno] at hnx;have hSn:yt l b (k+1)=yt l b k:=by rw [yt,yt,hnx]
    generalize yt l b k=S at *;have qe:=aI qR (aI @hx (aI @hC' (aI @decide_false @xal)));repeat' first|refine gC ?_ ?_<;>intro hc<;>try contradiction|refine za hP ?_|refine gG ?_|show AK _;intro J Z|refine gJ ?_|omega|exact aT
    all_goals exact ⟨k+1,by omega,by omega,⟨by rw [hnx],by simp⟩,by rw [hSn,hnx];simp,by rw [hnx],by rw [hnx];simp⟩
   .have hC:zei l ⟨yt l b k,[]⟩ w.req=0:=hHk.2 hno;have hC':=eq_true hC;rw [srvN,if_neg hno] at hnx;have hB:zjv l ⟨yt l b k,[]⟩ w.req=⟨yt l b k++[zgP w.req],[]⟩:=by rw [zjv,if_pos hC]
    have hSn:yt l b (k+1)=yt l b k++[zgP w.req]:=by rw [yt,yt,hnx];simp
    rw [hB] at hP;generalize yt l b k=S at *;have qe:=aI qR (aI @hx (aI @hC' (aI @decide_true @xam)));repeat' first|refine gC ?_ ?_<;>intro hc<;>try contradiction|refine za hP ?_|refine gG ?_|show AK _;intro J Z|refine gJ ?_|omega|exact aT
    all_goals exact ⟨k+1,by omega,by omega,⟨by rw [hnx];simp,by simp⟩,by rw [hSn,hnx]<;>simp,by rw [hnx]<;>simp,by rw [hnx]⟩
  .have e:k=b.wait.length:=by omega
   subst e;have qe:=aI qR @zah;repeat' first|refine gC ?_ ?_<;>intro hc<;>try contradiction|refine gG ?_|show AK _;intro J Z|refine gJ ?_|omega|exact aT
   all_goals first|exact .refl _
def yc8 {b:Bk} (h:zG b=0) {k:Nat} {w:Wsh} (hw:b.wait[k]?=some w):w.req.name ∉ b.slots.map (·.req.name)/\w.req.name ∉ (b.wait.take k).map (·.req.name):=by
 have:=fE0 (ybk h hw) (if 0<=atL w.req.name (b.slots.map (·.req.name)++(b.wait.take k).map (·.req.name)) then 9 else 0) (by simp)
 have hn:¬0<=atL w.req.name (b.slots.map (·.req.name)++(b.wait.take k).map (·.req.name)):=λq=>by rw [if_pos q] at this;omega
 exact ⟨λq=>hn ((yo _ _).2 (xa9 _ q)),λq=>hn ((yo _ _).2 (xaY _ q))⟩
def yc7 {b:Bk} (h:zG b=0) {k:Nat} {w:Wsh} (hw:b.wait[k]?=some w):zsh w.req=0:=fE0 (fE0 (ybk h hw) (zkY w) (by simp)) _ (by simp)
def yeQ (S:List Slt) (x:Slt):mvS (S++[x])=zf5 zk3 (mvS S) (zrw x.req):=by rw [mvS,xa2];rfl
def ybO {l:List Lim} {b:Bk} (h:zG b=0):∀ k,k<=b.wait.length->(∀ r ∈ (zgu l b k).Q,∃ j w,j < k/\b.wait[j]?=some w/\r=w.req)/\(zgu l b k).M=mvS (yt l b k)/\(yt l b k).length<=64:=by
 intro k
 induction k with
 | zero=>
  intro _;have hn:=ziq h;refine ⟨λr hr=>(by cases hr),?_,by simp only [yt,zgu,srv0,xbM,List.foldl_nil,xay,xat];omega⟩
  have:=yga h;simp only [yt,zgu,srv0,xbM,List.foldl_nil,xay,xat];exact this
 | succ k ih=>
  intro hk;obtain ⟨i1,i2,i3⟩:=ih (by omega)
  obtain ⟨w,hw⟩:=zm (i:=k) (l:=b.wait) (by omega)
  have hv:∀ s ∈ yt l b k,zdB s.req=0:=λs hs=>by
   rcases xaD.1 hs with hs|hs
   .exact yT h hs
   .obtain ⟨r,hr,rfl⟩:=xaT.1 hs;obtain ⟨j,w',_,hj,rfl⟩:=i1 r hr;exact yaa (yc7 h hj)
  have hnx:=zhA (l:=l) hw;rw [srvN] at hnx
  by_cases hno:ztr l b.slots.length (zgu l b k) w
  .rw [if_pos hno] at hnx;have e:yt l b (k+1)=yt l b k:=by rw [yt,yt,hnx]
   rw [e,hnx];exact ⟨λr hr=>by obtain ⟨j,w',h1,h2⟩:=i1 r hr;exact ⟨j,w',by omega,h2⟩,i2,i3⟩
  .rw [if_neg hno] at hnx;have e:yt l b (k+1)=yt l b k++[zgP w.req]:=by rw [yt,yt,hnx];simp
   have hr:=yaa (yc7 h hw);have hlt:(yt l b k).length < 64:=by
    have h1:¬64<=((b.slots.length+(zgu l b k).Q.length:Nat):Int):=λq=>hno (.inl q)
    simp only [yt,xae,xaf];omega
   obtain ⟨_,m2,m3⟩:=ybR (b:=⟨yt l b k,[]⟩) hv i3;obtain ⟨n1,n2⟩:=yav hr;simp only at m2 m3;have hg:mgE (mvS (yt l b k)) (zrw w.req)=0:=zq.2 ⟨m2,zq.2 ⟨n1,zq.2 ⟨if_neg (by omega),rfl⟩⟩⟩
   rw [e,hnx];refine ⟨λr hr'=>?_,?_,by rw [xae,xbI];omega⟩
   .rcases xaD.1 hr' with hr'|hr'
    .obtain ⟨j,w',h1,h2⟩:=i1 r hr';exact ⟨j,w',by omega,h2⟩
    .exact ⟨k,w,by omega,hw,xaJ.1 hr'⟩
   .simp only;rw [yeQ,i2,zgR,if_pos hr,mgR,if_pos hg];rfl
def yfk {l:List Lim} {b:Bk} (h:zG b=0):∀ k≤b.wait.length,(∀ s ∈ yt l b k,zdB s.req=0)/\(yt l b k).length<=64:=λk hk=>by
 obtain ⟨i1,_,i3⟩:=ybO (l:=l) h k hk;refine ⟨λs hs=>?_,i3⟩
 rcases xaD.1 hs with hs|hs
 .exact yT h hs
 .obtain ⟨r,hr,rfl⟩:=xaT.1 hs;obtain ⟨j,w',_,hj,rfl⟩:=i1 r hr;exact yaa (yc7 h hj)
def yd7 {l:List Lim} {b:Bk} (h:zG b=0) (k:Nat) (w:Wsh) (hw:b.wait[k]?=some w):zei l ⟨yt l b k,[]⟩ w.req=0↔¬ztr l b.slots.length (zgu l b k) w:=by
 have hk:=(xaa.1 hw).1;obtain ⟨i1,i2,i3⟩:=ybO (l:=l) h k (by omega)
 obtain ⟨hv,_⟩:=yfk (l:=l) h k (by omega)
 obtain ⟨n1,n2⟩:=yc8 h hw;have hlS:(yt l b k).length=b.slots.length+(zgu l b k).Q.length:=by simp [yt]
 have hnm:¬0<=atL w.req.name ((yt l b k).map (·.req.name)):=λq=>by
  have q:=(yo _ _).1 q;obtain ⟨s,hs,e⟩:=xaT.1 q
  rcases xaD.1 hs with hs|hs
  .exact n1 (xaT.2 ⟨s,hs,e⟩)
  .obtain ⟨r,hr,rfl⟩:=xaT.1 hs;obtain ⟨j,w',hj,hj2,rfl⟩:=i1 r hr;refine n2 (xaT.2 ⟨w',xad (i:=j) (by rw [xbm hj];exact hj2),e⟩)
 have hT:tkE ⟨yt l b k,[]⟩ w.req.name=0:=by
  rw [tkE,zhw,decide_eq_false hnm];simp [atL]
 have hE:zoy ⟨yt l b k,[]⟩ w.req=if 64<=((yt l b k).length:Int) then 5 else 0:=by
  rw [zoy,za2 (yc7 h hw),za2 hT,zfj]
 have hM:=(ybR (b:=⟨yt l b k,[]⟩) hv i3).1;rw [zei,hE,hM,ztr,i2];simp only
 by_cases h64:64<=((yt l b k).length:Int)
 .rw [if_pos h64,if_neg (by omega)]
  exact ⟨λq=>by omega,λq=>absurd (.inl (by omega)) q⟩
 .rw [if_neg h64,if_pos rfl]
  by_cases hf:zjz l (mvS (yt l b k)) w.req=true
  .rw [if_pos hf];refine ⟨λ_ q=>?_,λ_=>rfl⟩
   rcases q with q|q
   .omega
   .rw [hf] at q;cases q
  .rw [if_neg hf];exact ⟨λq=>by omega,λq=>absurd (.inr (by simpa using hf)) q⟩
def yN (a b:Wsh):yf a b=decide (zwc a b < 0):=by
 have key:yf a b=true↔zwc a b < 0:=by
  rw [yf,zwc];simp only [xa3,xap,decide_eq_true_eq]
  rcases Int.lt_trichotomy a.rank b.rank with k|k|k
  .have:zo7 a.rank b.rank=-1:=if_pos k;rw [this,za1 (by omega)]
   exact ⟨λ_=>by omega,λ_=>.inl k⟩
  .have:zo7 a.rank b.rank=0:=by rw [zo7,if_neg (by omega),if_neg (by omega)]
   rw [za2 this,zfj,zo6];exact ⟨λq=>by rcases q with q|q;(· omega);exact q.2,λq=>.inr ⟨k,q⟩⟩
  .have:zo7 a.rank b.rank=1:=by rw [zo7,if_neg (by omega),if_pos k]
   rw [this,za1 (by omega)]
   exact ⟨λq=>by rcases q with q|q<;>omega,λq=>by omega⟩
 by_cases h:zwc a b < 0
 .rw [decide_eq_true h];exact key.2 h
 .rw [decide_eq_false h];cases q:yf a b
  .rfl
  .exact absurd (key.1 q) h
theorem yaW:∀ x y z:List UInt8,Op.bytesLess x y=true->Op.bytesLess y z=true->Op.bytesLess x z=true
 | _,[],_,h,_=>by simp [Op.bytesLess] at h
 | _,_::_,[],_,h=>by simp [Op.bytesLess] at h
 | [],_::_,_::_,_,_=>by simp [Op.bytesLess]
 | a::x,b::y,c::z,h,k=>by
  simp only [Op.bytesLess,xa3,xap,decide_eq_true_eq,beq_iff_eq] at h k ⊢
  rcases h with h|⟨rfl,h⟩
  .rcases k with k|⟨rfl,k⟩
   .exact .inl (UInt8.lt_trans h k)
   .exact .inl h
  .rcases k with k|⟨rfl,k⟩
   .exact .inl k
   .exact .inr ⟨rfl,yaW x y z h k⟩
def ycB (a b:Wsh):zwc a b < 0↔a.rank < b.rank\/(a.rank=b.rank/\Op.bytesLess a.req.name.toList b.req.name.toList=true):=by
 have h:=yN a b;rw [yf] at h
 constructor
 .intro q;rw [decide_eq_true q] at h;simpa only [xa3,xap,decide_eq_true_eq] using h
 .intro q;have h2:(decide (a.rank < b.rank) || (decide (a.rank=b.rank) && Op.bytesLess a.req.name.toList b.req.name.toList))=true:=by
   simpa only [xa3,xap,decide_eq_true_eq] using q
  rw [h2] at h;exact of_decide_eq_true h.symm
def ybj (a b c:Wsh) (h:zwc a b < 0) (k:zwc b c < 0):zwc a c < 0:=by
 rw [ycB] at *
 rcases h with h|⟨h1,h2⟩
 .rcases k with k|⟨k1,_⟩<;>exact .inl (by omega)
 .rcases k with k|⟨k1,k2⟩
  .exact .inl (by omega)
  .exact .inr ⟨by omega,yaW _ _ _ h2 k2⟩
def ygt {a b:Wsh} (h:zwc a b < 0):¬zwc b a < 0:=λk=>by
 have:=ybj a b a h k;rw [ycB,zkH] at this
 rcases this with h|⟨_,h⟩
 .omega
 .cases h
def ycu {x y:ByteArray} (h:x≠y) (k:¬Op.bytesLess x.toList y.toList=true):Op.bytesLess y.toList x.toList=true:=by
 by_cases q:Op.bytesLess y.toList x.toList=true
 .exact q
 .exact absurd (zyD (by simpa using k) (by simpa using q)) h
def ycA {a b:Wsh} (h:¬zwc a b<=0):zwc b a < 0:=by
 rw [zwc] at h;rw [ycB]
 rcases Int.lt_trichotomy a.rank b.rank with k|k|k
 .have e:zo7 a.rank b.rank=-1:=if_pos k;rw [e,za1 (by omega)] at h;omega
 .have e:zo7 a.rank b.rank=0:=by rw [zo7,if_neg (by omega),if_neg (by omega)]
  rw [za2 e,zfj] at h;refine .inr ⟨k.symm,?_⟩;have hn:a.req.name≠b.req.name:=λq=>h (by rw [(zs9 _ _).2 q];omega)
  have hl:¬zmH a.req.name b.req.name < 0:=λq=>h (by omega)
  exact ycu hn (λq=>hl ((zo6 _ _).2 q))
 .exact .inl k
def ybN {b:Bk} (h:zG b=0):b.wait.Pairwise (λx y=>zwc x y < 0):=by
 refine ydl ybj λi x y hx hy=>?_
 have:=fE0 (ybk h hy) (if 0 < ((i+1:Nat):Int)/\zwc y ((b.wait[i+1 - 1]?).getD y)<=0 then 11 else 0) (by simp)
 have e:(b.wait[i+1 - 1]?).getD y=x:=by rw [xbC,hx];rfl
 rw [e] at this
 by_cases k:0 < ((i+1:Nat):Int)/\zwc y x<=0
 .rw [if_pos k] at this;omega
 .exact ycA (λq=>k ⟨by omega,q⟩)
theorem ya6 {α:Type} {R:α->α->Prop} {p:α->Bool} (hp:∀ x y,R x y->p x=true->p y=true):∀ {L:List α},L.Pairwise R->∃ A B,L=A++B/\(∀ y ∈ A,p y=false)/\∀ y ∈ B,p y=true
 | [],_=>⟨[],[],rfl,by simp,by simp⟩
 | x::r,h=>by
  by_cases k:p x=true
  .exact ⟨[],x::r,rfl,by simp,λy hy=>by
    rcases xaA.1 hy with rfl|hy
    .exact k
    .exact hp x y (xcd h hy) k⟩
  .obtain ⟨A,B,rfl,h1,h2⟩:=ya6 hp (xbg.1 h).2;exact ⟨x::A,B,rfl,λy hy=>by
    rcases xaA.1 hy with rfl|hy
    .simpa using k
    .exact h1 y hy,h2⟩
def yc9 {b:Bk} (h:zG b=0) (w:Wsh):ycJ b w=zlg b w:=by
 rw [ycJ,zlg];have hp:=ybN h;have hb:zjT zwc w=yf w:=by funext x;rw [yN];rfl
 obtain ⟨A,B,e,hA,hB⟩:=ya6 (R:=λx y=>zwc x y < 0) (p:=yf w) (λx y q k=>by
  rw [yN] at k ⊢;exact decide_eq_true (ybj _ _ _ (of_decide_eq_true k) q)) hp
 have hs:zbJ zwc b.wait=b.wait:=by
  have:=ybP (c:=zwc) b.wait [] (by rw [xaP];exact hp.imp fun {a c} k=>ygt k)
  rwa [xaP] at this
 have e2:zbJ zwc (b.wait++[w])=inR yf w b.wait:=by
  rw [zbJ,xa2];rw [zbJ] at hs;rw [hs,e,ycw hA hB];exact ydB (λy hy=>by rw [hb];exact hA y hy) (λy hy=>by rw [hb];exact hB y hy)
 rw [e2]
def yce (a b c d e:ByteArray) (v0 v1 v2 v3 v4 v5 v6:Int) (r:List Int):Pure prog 52 [yd3 [a,b,c,d,e],slI (v0::v1::v2::v3::v4::v5::v6::r)] (evQ a b c d e v0 v1 v2 v3 v4 v5 v6).pv:=by
 refine pz func52 f52.eq_1 λhw X hX=>?_
 simp only [wfs,PV.wf,xaf,xaE,maxLen] at hw;have hl:(7:Int)<=((r.length+1+1+1+1+1+1+1:Nat):Int):=by omega
 have qe:=aI qR (aI @tN (aI @List.map_cons.{0,0} (@List.map_nil.{0,0})));exact gD0
def kd_no {k:ByteArray} (h0:¬k=yg) (h1:¬k=yh) (h2:¬k=yj) (h3:¬k=yk) (h4:¬k=yn) (h5:¬k=yp) (h6:¬k=yq) (h7:¬k=yx) (h8:¬k=yA) (h9:¬k=yD) (h10:¬k=yF):yR k=none:=by
 rw [yR,if_neg h0,if_neg h1,if_neg h2,if_neg h3,if_neg h4,if_neg h5,if_neg h6,if_neg h7,if_neg h8,if_neg h9,if_neg h10]
def kd_in {k:ByteArray} {x:Int × Int × Nat} (h:yR k=some x):(k=yg/\x=(5,7,0))\/(k=yh/\x=(2,1,1))\/(k=yj/\x=(2,1,2))\/(k=yk/\x=(3,0,3))\/(k=yn/\x=(3,0,4))\/(k=yp/\x=(2,0,5))\/(k=yq/\x=(-1,0,6))\/(k=yx/\x=(3,2,7))\/(k=yA/\x=(2,1,8))\/(k=yD/\x=(5,8,9))\/(k=yF/\x=(0,0,10)):=by
 unfold yR at h
 by_cases h0:k=yg
 .rw [if_pos h0] at h;injection h with h;exact .inl ⟨h0,h.symm⟩
 rw [if_neg h0] at h
 by_cases h1:k=yh
 .rw [if_pos h1] at h;injection h with h;exact .inr (.inl ⟨h1,h.symm⟩)
 rw [if_neg h1] at h
 by_cases h2:k=yj
 .rw [if_pos h2] at h;injection h with h;exact .inr (.inr (.inl ⟨h2,h.symm⟩))
 rw [if_neg h2] at h
 by_cases h3:k=yk
 .rw [if_pos h3] at h;injection h with h;exact .inr (.inr (.inr (.inl ⟨h3,h.symm⟩)))
 rw [if_neg h3] at h
 by_cases h4:k=yn
 .rw [if_pos h4] at h;injection h with h;exact .inr (.inr (.inr (.inr (.inl ⟨h4,h.symm⟩))))
 rw [if_neg h4] at h
 by_cases h5:k=yp
 .rw [if_pos h5] at h;injection h with h;exact .inr (.inr (.inr (.inr (.inr (.inl ⟨h5,h.symm⟩)))))
 rw [if_neg h5] at h
 by_cases h6:k=yq
 .rw [if_pos h6] at h;injection h with h;exact .inr (.inr (.inr (.inr (.inr (.inr (.inl ⟨h6,h.symm⟩))))))
 rw [if_neg h6] at h
 by_cases h7:k=yx
 .rw [if_pos h7] at h;injection h with h;exact .inr (.inr (.inr (.inr (.inr (.inr (.inr (.inl ⟨h7,h.symm⟩)))))))
 rw [if_neg h7] at h
 by_cases h8:k=yA
 .rw [if_pos h8] at h;injection h with h;exact .inr (.inr (.inr (.inr (.inr (.inr (.inr (.inr (.inl ⟨h8,h.symm⟩))))))))
 rw [if_neg h8] at h
 by_cases h9:k=yD
 .rw [if_pos h9] at h;injection h with h;exact .inr (.inr (.inr (.inr (.inr (.inr (.inr (.inr (.inr (.inl ⟨h9,h.symm⟩)))))))))
 rw [if_neg h9] at h
 by_cases h10:k=yF
 .rw [if_pos h10] at h;injection h with h;exact .inr (.inr (.inr (.inr (.inr (.inr (.inr (.inr (.inr (.inr (⟨h10,h.symm⟩))))))))))
 rw [if_neg h10] at h;cases h
def yeq (k:ByteArray):Pure prog 104 [.s k] (.tup [.i .i64 (nmO k),.i .i64 (vlO k),.b (yR k).isSome]):=by
 refine pz func104 f104.eq_1 λhw X hX=>?_
 by_cases g0:k=yg
 .have t:=eq_true g0;have e:yR k=some (5,7,0):=by rw [g0];decide
  rw [nmO,vlO,e];have qe:=aI qR (aI @t yDF);exact gD0
 have f0:=eq_false g0
 by_cases g1:k=yD
 .have t:=eq_true g1;have e:yR k=some (5,8,9):=by rw [g1];decide
  rw [nmO,vlO,e];have qe:=aI qR (aI @t (aI @f0 yDF));exact gD0
 have f1:=eq_false g1
 by_cases g2:k=yh
 .have t:=eq_true g2;have e:yR k=some (2,1,1):=by rw [g2];decide
  rw [nmO,vlO,e];have qe:=aI qR (aI @t (aI @f0 (aI @f1 yDF)));exact gD0
 have f2:=eq_false g2
 by_cases g3:k=yj
 .have t:=eq_true g3;have e:yR k=some (2,1,2):=by rw [g3];decide
  rw [nmO,vlO,e];have qe:=aI qR (aI @t (aI @f0 (aI @f1 (aI @f2 yDF))));exact gD0
 have f3:=eq_false g3
 by_cases g4:k=yA
 .have t:=eq_true g4;have e:yR k=some (2,1,8):=by rw [g4];decide
  rw [nmO,vlO,e];have qe:=aI qR (aI @t (aI @f0 (aI @f1 (aI @f2 (aI @f3 yDF)))));exact gD0
 have f4:=eq_false g4
 by_cases g5:k=yp
 .have t:=eq_true g5;have e:yR k=some (2,0,5):=by rw [g5];decide
  rw [nmO,vlO,e];have qe:=aI qR (aI @t (aI @f0 (aI @f1 (aI @f2 (aI @f3 (aI @f4 yDF))))));exact gD0
 have f5:=eq_false g5
 by_cases g6:k=yq
 .have t:=eq_true g6;have e:yR k=some (-1,0,6):=by rw [g6];decide
  rw [nmO,vlO,e];have qe:=aI qR (aI @t (aI @f0 (aI @f1 (aI @f2 (aI @f3 (aI @f4 (aI @f5 yDF)))))));exact gD0
 have f6:=eq_false g6
 by_cases g7:k=yk
 .have t:=eq_true g7;have e:yR k=some (3,0,3):=by rw [g7];decide
  rw [nmO,vlO,e];have qe:=aI qR (aI @t (aI @f0 (aI @f1 (aI @f2 (aI @f3 (aI @f4 (aI @f5 (aI @f6 yDF))))))));exact gD0
 have f7:=eq_false g7
 by_cases g8:k=yn
 .have t:=eq_true g8;have e:yR k=some (3,0,4):=by rw [g8];decide
  rw [nmO,vlO,e];have qe:=aI qR (aI @t (aI @f0 (aI @f1 (aI @f2 (aI @f3 (aI @f4 (aI @f5 (aI @f6 (aI @f7 yDF)))))))));exact gD0
 have f8:=eq_false g8
 by_cases g9:k=yx
 .have t:=eq_true g9;have e:yR k=some (3,2,7):=by rw [g9];decide
  rw [nmO,vlO,e];have qe:=aI qR (aI @t (aI @f0 (aI @f1 (aI @f2 (aI @f3 (aI @f4 (aI @f5 (aI @f6 (aI @f7 (aI @f8 yDF))))))))));exact gD0
 have f9:=eq_false g9
 by_cases g10:k=yF
 .have t:=eq_true g10;have e:yR k=some (0,0,10):=by rw [g10];decide
  rw [nmO,vlO,e];have qe:=aI qR (aI @t (aI @f0 (aI @f1 (aI @f2 (aI @f3 (aI @f4 (aI @f5 (aI @f6 (aI @f7 (aI @f8 (aI @f9 yDF)))))))))));exact gD0
 have f10:=eq_false g10;have e:=kd_no g0 g2 g3 g7 g8 g5 g6 g9 g4 g1 g10;rw [nmO,vlO,e];have qe:=aI qR (aI @f0 (aI @f1 (aI @f2 (aI @f3 (aI @f4 (aI @f5 (aI @f6 (aI @f7 (aI @f8 (aI @f9 (aI @f10 yDF)))))))))));exact gD0
def ycf (e:Evt):Pure prog 50 [e.pv] (.i .i64 (evE e)):=by
 refine pz func50 f50.eq_1 λhw X hX=>?_
 have hR:evE e=zf [rng e.num 1 1000,if (yR e.kind).isSome=false then 13 else 0,if ybr e.names.length e.vals.length (nmO e.kind) (vlO e.kind)=true then 2 else 0,if decide (e.text=bs [])=false then 1 else 0]:=rfl
 have h21:=yeq e.kind;rw [hR]
 by_cases h1:e.num < 1\/1000 < e.num
 .rw [za1 (by rw [rng,if_pos h1];omega),rng,if_pos h1]
  by_cases q:e.num < 1
  .have q':=eq_true q;have qe:=aI qR (aI @q' (aI @decide_true (aI @decide_false (aI @xam @xal))));exact gD0
  .have q':=eq_false q;have q2:=eq_true (h1.resolve_left q);have qe:=aI qR (aI @q' (aI @q2 (aI @decide_true (aI @decide_false (aI @xam @xal)))));exact gD0
 have q1:(e.num < 1)=False:=eq_false (by omega)
 have q2:(1000 < e.num)=False:=eq_false (by omega)
 rw [za2 (by rw [rng,if_neg h1])]
 generalize (yR e.kind).isSome=kn at h21 ⊢;cases kn with
 | false=>
  rw [za1 (by simp)]
  have qe:=aI qR (aI @q1 (aI @q2 (aI @decide_true (aI @decide_false (aI @xam @xal)))));have jA:=h21;exact gD2
 | true=>
  rw [za2 (by simp)]
  have hsh:ybr e.names.length e.vals.length (nmO e.kind) (vlO e.kind)=((decide (0<=nmO e.kind) && !decide ((e.names.length:Int)=nmO e.kind)) || !decide ((e.vals.length:Int)=vlO e.kind)):=rfl
  by_cases h2:ybr e.names.length e.vals.length (nmO e.kind) (vlO e.kind)=true
  .rw [za1 (by rw [if_pos h2];omega),if_pos h2]
   rw [hsh] at h2;have qe:=aI qR (aI @q1 (aI @q2 (aI @h2 (aI @decide_true (aI @decide_false (aI @xam @xal))))));have jA:=h21;exact gD2
  .rw [za2 (by rw [if_neg h2])]
   have h2':ybr e.names.length e.vals.length (nmO e.kind) (vlO e.kind)=false:=by simpa using h2
   rw [hsh] at h2'
   by_cases h3:e.text=bs []
   .have h3':=eq_true h3;have e3:zf [if decide (e.text=bs [])=false then 1 else 0]=0:=by simp [h3,zf]
    rw [e3];have qe:=aI qR (aI @q1 (aI @q2 (aI @h2' (aI @h3' (aI @decide_true (aI @decide_false (aI @xam @xal)))))));have jA:=h21;exact gD2
   .have h3':=eq_false h3;have e3:zf [if decide (e.text=bs [])=false then 1 else 0]=1:=by simp [h3,zf]
    rw [e3];have qe:=aI qR (aI @q1 (aI @q2 (aI @h2' (aI @h3' (aI @decide_true (aI @decide_false (aI @xam @xal)))))));have jA:=h21;exact gD2
def nk1:(yD=yg)=False:=eq_false (by decide)
def nk2:(yh=yg)=False/\(yh=yD)=False:=⟨eq_false (by decide),eq_false (by decide)⟩
def nk3:(yj=yg)=False/\(yj=yD)=False/\(yj=yh)=False:=⟨eq_false (by decide),eq_false (by decide),eq_false (by decide)⟩
def nk4:(yA=yg)=False/\(yA=yD)=False/\(yA=yh)=False/\(yA=yj)=False:=⟨eq_false (by decide),eq_false (by decide),eq_false (by decide),eq_false (by decide)⟩
def nk5:(yp=yg)=False/\(yp=yD)=False/\(yp=yh)=False/\(yp=yj)=False/\(yp=yA)=False:=⟨eq_false (by decide),eq_false (by decide),eq_false (by decide),eq_false (by decide),eq_false (by decide)⟩
def nk6:(yq=yg)=False/\(yq=yD)=False/\(yq=yh)=False/\(yq=yj)=False/\(yq=yA)=False/\(yq=yp)=False:=⟨eq_false (by decide),eq_false (by decide),eq_false (by decide),eq_false (by decide),eq_false (by decide),eq_false (by decide)⟩
def nk7:(yk=yg)=False/\(yk=yD)=False/\(yk=yh)=False/\(yk=yj)=False/\(yk=yA)=False/\(yk=yp)=False/\(yk=yq)=False:=⟨eq_false (by decide),eq_false (by decide),eq_false (by decide),eq_false (by decide),eq_false (by decide),eq_false (by decide),eq_false (by decide)⟩
def nk8:(yn=yg)=False/\(yn=yD)=False/\(yn=yh)=False/\(yn=yj)=False/\(yn=yA)=False/\(yn=yp)=False/\(yn=yq)=False/\(yn=yk)=False:=⟨eq_false (by decide),eq_false (by decide),eq_false (by decide),eq_false (by decide),eq_false (by decide),eq_false (by decide),eq_false (by decide),eq_false (by decide)⟩
def nk9:(yx=yg)=False/\(yx=yD)=False/\(yx=yh)=False/\(yx=yj)=False/\(yx=yA)=False/\(yx=yp)=False/\(yx=yq)=False/\(yx=yk)=False/\(yx=yn)=False:=⟨eq_false (by decide),eq_false (by decide),eq_false (by decide),eq_false (by decide),eq_false (by decide),eq_false (by decide),eq_false (by decide),eq_false (by decide),eq_false (by decide)⟩
def nk10:(yF=yg)=False/\(yF=yD)=False/\(yF=yh)=False/\(yF=yj)=False/\(yF=yA)=False/\(yF=yp)=False/\(yF=yq)=False/\(yF=yk)=False/\(yF=yn)=False/\(yF=yx)=False:=⟨eq_false (by decide),eq_false (by decide),eq_false (by decide),eq_false (by decide),eq_false (by decide),eq_false (by decide),eq_false (by decide),eq_false (by decide),eq_false (by decide),eq_false (by decide)⟩
def yeA (l:List Lim) (b:Bk) (e:Evt) (hok:zfy b) (hl:zZ l=0) (hb:zG b=0) (hN:e.names.length<=1000):Pure prog 16 [.sl 11 (l.map Lim.pv),b.pv,e.pv] (.tup [(apP b l e).1.pv,.i .i64 (apP b l e).2]):=by
 have hlen:=ziq hb;have hn64:b.slots.length<=64:=by omega
 have hw64:b.wait.length<=64:=by omega
 have hrq:∀ s ∈ b.slots,zdB s.req=0:=λs hs=>yT hb hs
 have hpr:∀ s ∈ b.slots,zat s.req.per=0:=λs hs=>(zeC (yT hb hs)).1
 have hsh:∀ s ∈ b.slots,s.sh.length<=4:=λs hs=>slt_sh (yap hb hs)
 by_cases hE:¬evE e=0
 .have h46:=ycf e;have hE':=eq_false hE;rw [apP,if_neg hE];refine zar (r:=.tup [.agg [.nilsl,.nilsl],.i .i64 (evE e)]) ?_ (zbt _);refine pz func16 f16.eq_1 λhw X hX=>?_
  have qe:=aI qR (aI @hE' (aI @decide_false @xal));have jA:=h46;exact gD2
 have hE:=Classical.not_not.1 hE;obtain ⟨nm,vl,j,hk,hs⟩:=ybg hE;have ea:apP b l e=doB b l e j:=by rw [apP,if_pos hE,hk]
 rw [ea];have h46:=ycf e;rw [hE] at h46;obtain ⟨num,kind,names,vals,text⟩:=e;simp only at hN hk hs;simp only [ybr,xbd,xbY,decide_eq_false_iff_not,xb7,decide_eq_true_eq] at hs;obtain ⟨h1,h2⟩:=hs
 rcases kd_in hk with ⟨rfl,hx⟩|⟨rfl,hx⟩|⟨rfl,hx⟩|⟨rfl,hx⟩|⟨rfl,hx⟩|⟨rfl,hx⟩|⟨rfl,hx⟩|⟨rfl,hx⟩|⟨rfl,hx⟩|⟨rfl,hx⟩|⟨rfl,hx⟩<;>(simp only [xcq] at hx;obtain ⟨rfl,rfl,rfl⟩:=hx)
 .-- Hold
  have h1:=h1.resolve_left (by omega)
  match names,vals,h1,h2 with
  | [n0,n1,n2,n3,n4],[v0,v1,v2,v3,v4,v5,v6],_,_=>
   have h9:=ycl l b (evQ n0 n1 n2 n3 n4 v0 v1 v2 v3 v4 v5 v6) hok hl hrq hn64;refine pz func16 f16.eq_1 λhw X hX=>?_
   have qe:=aI qR (aI @tN (aI @qN (aI @List.map_cons.{0,0} (aI @List.map_nil.{0,0} (aI @decide_true (aI @decide_false @xam))))));have jA:=h46;have jB:=yce n0 n1 n2 n3 n4 v0 v1 v2 v3 v4 v5 v6 [];have jC:=h9;exact gD4
 .-- Back
  have h1:=h1.resolve_left (by omega)
  match names,vals,h1,h2 with
  | [n0,n1],[v0],_,_=>
   have h9:=(by have:=yeI b n0 n1 v0 hok hpr;rw [yfl hb] at this;exact this:Pure prog 54 [b.pv,.s n0,.s n1,.i .i64 v0] (.tup [(zvV b n0 n1 v0).pv,.i .i64 (zpf b n0 n1 v0)]))
   refine pz func16 f16.eq_1 λhw X hX=>?_
   have qe:=aI qR (aI @tN (aI @qN (aI @nk2 (aI @List.map_cons.{0,0} (aI @List.map_nil.{0,0} (aI @decide_true (aI @decide_false @xam)))))));have jA:=h46;have jB:=h9;exact gD2
 .-- Reca
  have h1:=h1.resolve_left (by omega)
  match names,vals,h1,h2 with
  | [n0,n1],[v0],_,_=>
   have h9:=(by have:=yeG b n0 n1 v0 hok;rw [ref_rc hb,ydj hb] at this;exact this:Pure prog 55 [b.pv,.s n0,.s n1,.i .i64 v0] (.tup [(reB b n0 n1 v0).pv,.i .i64 (reC b n0 n1 v0)]))
   refine pz func16 f16.eq_1 λhw X hX=>?_
   have qe:=aI qR (aI @tN (aI @qN (aI @nk3 (aI @List.map_cons.{0,0} (aI @List.map_nil.{0,0} (aI @decide_true (aI @decide_false @xam)))))));have jA:=h46;have jB:=h9;exact gD2
 .-- Tran
  have h1:=h1.resolve_left (by omega)
  match names,vals,h1,h2 with
  | [n0,n1,n2],[],_,_=>
   have h9:=yeC b n0 n1 n2 hok;refine pz func16 f16.eq_1 λhw X hX=>?_
   have qe:=aI qR (aI @tN (aI @qN (aI @nk7 (aI @List.map_cons.{0,0} (aI @List.map_nil.{0,0} (aI @decide_true (aI @decide_false @xam)))))));have jA:=h46;have jB:=h9;exact gD2
 .-- Shar
  have h1:=h1.resolve_left (by omega)
  match names,vals,h1,h2 with
  | [n0,n1,n2],[],_,_=>
   have h9:=yeF b n0 n1 n2 hok hsh;refine pz func16 f16.eq_1 λhw X hX=>?_
   have qe:=aI qR (aI @tN (aI @qN (aI @nk8 (aI @List.map_cons.{0,0} (aI @List.map_nil.{0,0} (aI @decide_true (aI @decide_false @xam)))))));have jA:=h46;have jB:=h9;exact gD2
 .-- Swap
  have h1:=h1.resolve_left (by omega)
  match names,vals,h1,h2 with
  | [n0,n1],[],_,_=>
   have h9:=yeE b n0 n1 hok;refine pz func16 f16.eq_1 λhw X hX=>?_
   have qe:=aI qR (aI @tN (aI @qN (aI @nk5 (aI @List.map_cons.{0,0} (aI @List.map_nil.{0,0} (aI @decide_true (aI @decide_false @xam)))))));have jA:=h46;have jB:=h9;exact gD2
 .-- Ring
  match vals,h2 with
  | [],_=>
   have h9:=yeD b names hok hN;refine pz func16 f16.eq_1 λhw X hX=>?_
   have qe:=aI qR (aI @tN (aI @qN (aI @nk6 (aI @List.map_cons.{0,0} (aI @List.map_nil.{0,0} (aI @decide_true (aI @decide_false @xam)))))));have jA:=h46;have jB:=h9;exact gD2
 .-- Lend
  have h1:=h1.resolve_left (by omega)
  match names,vals,h1,h2 with
  | [n0,n1,n2],[v0,v1],_,_=>
   have h9:=(by have:=yeH b n0 n1 ⟨n2,v0,v1⟩ hok;rw [ref_ln hb] at this;exact this:Pure prog 61 [b.pv,.s n0,.s n1,(Lea.mk n2 v0 v1).pv] (.tup [(lnB b n0 n1 ⟨n2,v0,v1⟩).pv,.i .i64 (lnC b n0 n1 ⟨n2,v0,v1⟩)]))
   refine pz func16 f16.eq_1 λhw X hX=>?_
   have qe:=aI qR (aI @tN (aI @qN (aI @nk9 (aI @List.map_cons.{0,0} (aI @List.map_nil.{0,0} (aI @decide_true (aI @decide_false @xam)))))));have jA:=h46;have jB:=h9;exact gD2
 .-- Reti
  have h1:=h1.resolve_left (by omega)
  match names,vals,h1,h2 with
  | [n0,n1],[v0],_,_=>
   have h9:=yeJ l b n0 n1 v0 hok hl hb;refine pz func16 f16.eq_1 λhw X hX=>?_
   have qe:=aI qR (aI @tN (aI @qN (aI @nk4 (aI @List.map_cons.{0,0} (aI @List.map_nil.{0,0} (aI @decide_true (aI @decide_false @xam)))))));have jA:=h46;have jB:=h9;exact gD2
 .-- Wait
  have h1:=h1.resolve_left (by omega)
  match names,vals,h1,h2 with
  | [n0,n1,n2,n3,n4],[v0,v1,v2,v3,v4,v5,v6,v7],_,_=>
   have h9:=(by have:=yeL b ⟨evQ n0 n1 n2 n3 n4 v0 v1 v2 v3 v4 v5 v6,v7⟩ hok hw64;rw [yc9 hb] at this;exact this:Pure prog 53 [b.pv,(Wsh.mk (evQ n0 n1 n2 n3 n4 v0 v1 v2 v3 v4 v5 v6) v7).pv] (.tup [(zlg b ⟨evQ n0 n1 n2 n3 n4 v0 v1 v2 v3 v4 v5 v6,v7⟩).pv,.i .i64 (zfC b ⟨evQ n0 n1 n2 n3 n4 v0 v1 v2 v3 v4 v5 v6,v7⟩)]))
   refine pz func16 f16.eq_1 λhw X hX=>?_
   have qe:=aI qR (aI @tN (aI @qN (aI @nk1 (aI @List.map_cons.{0,0} (aI @List.map_nil.{0,0} (aI @decide_true (aI @decide_false @xam)))))));have jA:=h46;have jB:=yce n0 n1 n2 n3 n4 v0 v1 v2 v3 v4 v5 v6 [v7];have jC:=h9;exact gD4
 .-- Serv
  have h1:=h1.resolve_left (by omega)
  match names,vals,h1,h2 with
  | [],[],_,_=>
   have h9:=yeK l b hok hl (yfk hb) (yd7 hb);refine pz func16 f16.eq_1 λhw X hX=>?_
   have qe:=aI qR (aI @tN (aI @qN (aI @nk10 (aI @List.map_cons.{0,0} (aI @List.map_nil.{0,0} (aI @decide_true (aI @decide_false @xam)))))));have jA:=h46;have jB:=h9;exact gD2
theorem fE_of:∀ {l:List Int},(∀ x ∈ l,x=0)->zf l=0
 | [],_=>rfl
 | x::r,h=>zq.2 ⟨h x (by simp),fE_of λy hy=>h y (by simp [hy])⟩
def yw {α:Type} {f:Nat->α->Int} {l:List α} (h:∀ i x,l[i]?=some x->f i x=0):zf (l.mapIdx f)=0:=fE_of λy hy=>by
 obtain ⟨i,hi⟩:=xaN.1 hy;rw [List.getElem?_mapIdx] at hi;cases hx:l[i]? with
 | none=>rw [hx] at hi;cases hi
 | some x=>
  rw [hx] at hi;have e:f i x=y:=xaM hi;rw [<-e];exact h i x hx
def ydd {b:Bk} (h:zG b=0) {i:Nat} {s s':Slt} (hs:b.slots[i]?=some s) (hn:s'.req.name=s.req.name) (hv:zin s'=0):zG ⟨b.slots.set i s',b.wait⟩=0:=by
 have hnm:(b.slots.set i s').map (·.req.name)=b.slots.map (·.req.name):=zn6 _ _ _ _ hs hn;have hT:∀ k,((b.slots.set i s').take k).map (·.req.name)=(b.slots.take k).map (·.req.name):=λk=>by rw [xbk,hnm,xbk]
 have e3:zd5 ⟨b.slots.set i s',b.wait⟩=zd5 b:=by funext k w;simp only [zd5,hnm]
 have e4:zf ((b.slots.set i s').mapIdx (zeJ ⟨b.slots.set i s',b.wait⟩))=0:=by
  refine yw λk x hx=>?_
  by_cases hk:i=k
  .subst hk;have hlt:=(xaa.1 hs).1;rw [xbD hlt] at hx;have ex:s'=x:=xaM hx;subst ex;have h1:=yaN h hs;have h2:=fE0 h1 (if 0<=atL s.req.name ((b.slots.take i).map (·.req.name)) then 9 else 0) (by simp)
   refine zq.2 ⟨hv,zq.2 ⟨?_,rfl⟩⟩;rw [hn];simp only [hT];exact h2
  .rw [xbR hk] at hx;have h1:=yaN h hx;rw [zeJ] at h1 ⊢;simp only [hT];exact h1
 have c1:=fE0 h (if 64 < (b.slots.length:Int) then 5 else 0) (by simp)
 have c3:=fE0 h (if 64 < (b.wait.length:Int) then 5 else 0) (by simp)
 have c4:=fE0 h (zf (b.wait.mapIdx (zd5 b))) (by simp)
 refine zq.2 ⟨?_,zq.2 ⟨e4,zq.2 ⟨c3,zq.2 ⟨?_,rfl⟩⟩⟩⟩
 .simp only [xcA];exact c1
 .rw [e3];exact c4
def yaM {b:Bk} (h:zG b=0) {c n:ByteArray} {e:Int} (ho:zhn b c n e=0) {s':Slt} (hn:s'.req.name=(zn b n).req.name) (hv:zin s'=0):zG (zo8 b n s')=0:=ydd h (za6 ho).2.1 hn hv
def yay {s:Slt} (h:zin s=0) {L:List Lea} (hl:L.length<=8) (h1:∀ x ∈ L,zdC x=0/\zfH s.raw x=0) (hp:L.Pairwise yby):zin ⟨s.req,s.holder,L,s.sh⟩=0:=by
 have c1:=fE0 h (zsh s.req) (by simp)
 have c2:=fE0 h (zaG s.holder) (by simp)
 have c5:=fE0 h (if 4 < (s.sh.length:Int) then 5 else 0) (by simp)
 have c6:=fE0 h (zf (s.sh.mapIdx (zhB s))) (by simp)
 refine zq.2 ⟨c1,zq.2 ⟨c2,zq.2 ⟨if_neg (show ¬(8:Int) < (L.length:Int) by omega),zq.2 ⟨?_,zq.2 ⟨c5,zq.2 ⟨c6,rfl⟩⟩⟩⟩⟩⟩
 refine yw λi x hx=>?_
 obtain ⟨a1,a2⟩:=h1 x (xad hx);refine zq.2 ⟨a1,zq.2 ⟨a2,zq.2 ⟨?_,rfl⟩⟩⟩;refine if_neg λk=>?_
 obtain ⟨k1,k2⟩:=k;obtain ⟨j,rfl⟩:∃ j,i=j+1:=⟨i - 1,by omega⟩
 have hx':L[j+1]?=some x:=hx;obtain ⟨hi,hxi⟩:=xaa.1 hx';have hj:L[j+1 - 1]?=some L[j]:=by rw [xbC];exact xab (by omega)
 have k2':x.fro<=((L[j+1 - 1]?).getD x).to:=k2;rw [hj] at k2';have hlt:=xaW.1 hp j (j+1) (by omega) hi (by omega)
 rw [hxi] at hlt;simp only [yby] at hlt;have k3:x.fro<=(L[j]).to:=k2'
 omega
def ydx {s:Slt} (h:zin s=0) (l:Lea):∃ A B,s.ls=A++B/\lnL s l=A++l::B/\(∀ y ∈ A,y.fro<=l.fro)/\∀ y ∈ B,l.fro < y.fro:=by
 have hp:s.ls.Pairwise (λa b=>a.fro < b.fro):=(yaQ h).imp fun {a b} k=>by simp only [yby] at k;omega
 obtain ⟨A,B,e,hA,hB⟩:=ya7 (v:=l.fro) hp;refine ⟨A,B,e,?_,λy hy=>by have:=hA y hy;omega,hB⟩
 rw [<-yfw h,e,ycw (λy hy=>decide_eq_false (hA y hy)) (λy hy=>decide_eq_true (hB y hy))]
def yeX {s:Slt} (h:zin s=0) {l:Lea} (hl:zdC l=0) (he:lnE s l=0):∃ A B,s.ls=A++B/\lnL s l=A++l::B/\(∀ y ∈ A,yby y l)/\(∀ y ∈ B,yby l y)/\zfH s.raw l=0/\s.ls.length < 8:=by
 obtain ⟨A,B,e,e2,hA,hB⟩:=ydx h l;have h1:=fE0 he (zfH s.raw l) (by simp)
 have h2:=fE0 he (if meetL s l=true then 15 else 0) (by simp)
 have h3:=fE0 he (if 8<=(s.ls.length:Int) then 5 else 0) (by simp)
 have hm:∀ y ∈ s.ls,¬(y.fro<=l.to/\l.fro<=y.to):=λy hy k=>by
  have:meetL s l=true:=by rw [meetL,xbl];exact ⟨y,hy,by simp [ze0,k.1,k.2]⟩
  rw [if_pos this] at h2;omega
 have h8:s.ls.length < 8:=by
  by_cases k:8<=(s.ls.length:Int)
  .rw [if_pos k] at h3;omega
  .omega
 have hll:=yaL hl;refine ⟨A,B,e,e2,λy hy=>?_,λy hy=>?_,h1,h8⟩
 .have hy':y ∈ s.ls:=by rw [e];exact xa9 _ hy
  have a1:=hA y hy;have a2:=hm y hy';have a3:=yam h hy';simp only [yby];omega
 .have hy':y ∈ s.ls:=by rw [e];exact xaY _ hy
  have a1:=hB y hy;have a2:=hm y hy';have a3:=yam h hy';simp only [yby];omega
def ydw {s:Slt} (h:zin s=0) {l:Lea} (hl:zdC l=0) (he:lnE s l=0):zin (lnS s l)=0:=by
 obtain ⟨A,B,e,e2,hA,hB,h1,h8⟩:=yeX h hl he;have hle:∀ x ∈ s.ls,zdC x=0/\zfH s.raw x=0:=λx hx=>by
  obtain ⟨i,hi⟩:=xaN.1 hx;have:=yaz h hi;exact ⟨fE0 this _ (by simp),fE0 this _ (by simp)⟩
 refine yay h (L:=lnL s l) (by rw [zof];omega) (λx hx=>?_) ?_
 .rw [e2] at hx
  rcases xaD.1 hx with hx|hx
  .exact hle x (by rw [e];exact xa9 _ hx)
  .rcases xaA.1 hx with rfl|hx
   .exact ⟨hl,h1⟩
   .exact hle x (by rw [e];exact xaY _ hx)
 .have hp:=yaQ h;rw [e] at hp;obtain ⟨p1,p2,p3⟩:=xba.1 hp;rw [e2];refine xba.2 ⟨p1,xbg.2 ⟨hB,p2⟩,λx hx y hy=>?_⟩
  rcases xaA.1 hy with rfl|hy
  .exact hA x hx
  .exact p3 x hx y hy
def yeW {b:Bk} {c n:ByteArray} {l:Lea} (h:lnC b c n l=0):zhn b c n (zdC l)=0/\zdC l=0/\lnE (zn b n) l=0:=by
 have h1:zhn b c n (zdC l)=0:=fE0 h _ (by simp)
 exact ⟨h1,zuD h1,fE0 h _ (by simp)⟩
def ya8 {b:Bk} (h:zG b=0) {i:Nat} {s:Slt} (hs:b.slots[i]?=some s):atL s.req.name (b.slots.map (·.req.name))=i:=by
 rw [<-zg7 (λx:Slt=>x.req.name)]
 refine zdt (λy hy=>decide_eq_false λe=>?_) hs (decide_eq_true rfl)
 have h1:=fE0 (yaN h hs) (if 0<=atL s.req.name ((b.slots.take i).map (·.req.name)) then 9 else 0) (by simp)
 have:0<=atL s.req.name ((b.slots.take i).map (·.req.name)):=(yo _ _).2 (xaT.2 ⟨y,hy,e⟩);rw [if_pos this] at h1;omega
def ybQ {b:Bk} (h:zG b=0) {i:Nat} {s:Slt} (hs:b.slots[i]?=some s):zx b s.req.name=i/\zn b s.req.name=s/\¬atL s.req.name (b.slots.map (·.req.name)) < 0:=by
 have e:=ya8 h hs;have e1:zx b s.req.name=i:=by rw [zx,e];rfl
 refine ⟨e1,?_,by rw [e];omega⟩
 rw [zn,e,xbS,hs];rfl
def yb7 {α:Type} {L:List α} {i:Nat} {x:α} (h:L[i]?=some x):L.set i x=L:=by
 apply xbV
 intro k
 by_cases e:i=k
 .subst e;rw [xbD (xaa.1 h).1,h]
 .rw [xbR e]
def ydu {b:Bk} (h:zG b=0) {f:Slt->Slt} (hn:∀ s,(f s).req.name=s.req.name) (hv:∀ s ∈ b.slots,zin (f s)=0):zG ⟨b.slots.map f,b.wait⟩=0:=by
 have hnm:(b.slots.map f).map (·.req.name)=b.slots.map (·.req.name):=by rw [xbn];congr 1;funext s;exact hn s
 have hT:∀ k,((b.slots.map f).take k).map (·.req.name)=(b.slots.take k).map (·.req.name):=λk=>by rw [xbk,hnm,xbk]
 have e3:zd5 ⟨b.slots.map f,b.wait⟩=zd5 b:=by funext k w;simp only [zd5,hnm]
 have e4:zf ((b.slots.map f).mapIdx (zeJ ⟨b.slots.map f,b.wait⟩))=0:=by
  refine yw λk x hx=>?_
  rw [xah] at hx;cases hs:b.slots[k]? with
  | none=>rw [hs] at hx;cases hx
  | some s=>
   rw [hs] at hx;have ex:f s=x:=xaM hx;subst ex;have h2:=fE0 (yaN h hs) (if 0<=atL s.req.name ((b.slots.take k).map (·.req.name)) then 9 else 0) (by simp)
   refine zq.2 ⟨hv s (xad hs),zq.2 ⟨?_,rfl⟩⟩;rw [hn];simp only [hT];exact h2
 have c1:=fE0 h (if 64 < (b.slots.length:Int) then 5 else 0) (by simp)
 have c3:=fE0 h (if 64 < (b.wait.length:Int) then 5 else 0) (by simp)
 have c4:=fE0 h (zf (b.wait.mapIdx (zd5 b))) (by simp)
 refine zq.2 ⟨?_,zq.2 ⟨e4,zq.2 ⟨c3,zq.2 ⟨?_,rfl⟩⟩⟩⟩
 .simp only [xaf];exact c1
 .rw [e3];exact c4
def yb5 {s:Slt} (h:zin s=0) (hl:s.ls=[]) {c:ByteArray} (hc:zaG c=0):zin ⟨s.req,c,s.ls,[]⟩=0:=by
 have c1:=fE0 h (zsh s.req) (by simp)
 rw [hl];exact zq.2 ⟨c1,zq.2 ⟨hc,zq.2 ⟨by simp,zq.2 ⟨by simp [zf],zq.2 ⟨by simp,zq.2 ⟨by simp [zf],rfl⟩⟩⟩⟩⟩⟩
instance decMem (n:ByteArray) (N:List ByteArray):Decidable (n ∈ N):=decidable_of_iff _ (yo n N)
def NoD (L:List ByteArray):Prop:=∀ (i j:Nat) (x:ByteArray),L[i]?=some x->L[j]?=some x->i=j
def yfu {H:List ByteArray} {f:Nat->ByteArray->Int} (hf:∀ i x,f i x=0->¬0<=atL x (H.take i)) (h:zf (H.mapIdx f)=0):NoD H:=by
 have key:∀ i j x,i < j->H[i]?=some x->H[j]?=some x->False:=λi j x hij hi hj=>by
  have h1:=hf j x (y8 h hj);refine h1 ((yo _ _).2 (xad (i:=i) ?_));rw [xbm hij];exact hi
 intro i j x hi hj
 rcases xcp i j with k|k|k
 .exact (key i j x k hi hj).elim
 .exact k
 .exact (key j i x k hj hi).elim
def yds {H:List ByteArray} (h:NoD H) {i:Nat} {x:ByteArray} (hx:H[i]?=some x):¬0<=atL x (H.take i):=λk=>by
 obtain ⟨j,hj⟩:=xaN.1 ((yo _ _).1 k);have hlt:j < (H.take i).length:=(xaa.1 hj).1;rw [xai] at hlt;rw [xbm (by omega)] at hj
 have:=h j i x hj hx
 omega
def yf7 {H:List ByteArray} (h:NoD H) {i:Nat} {x:ByteArray} (hx:H[i]?=some x):atL x H=i:=by
 have:=zg7 (λy:ByteArray=>y) x H
 rw [List.map_id'] at this;rw [<-this];refine zdt (λy hy=>decide_eq_false λe=>?_) hx (decide_eq_true rfl)
 have e':y=x:=e;rw [e'] at hy;exact yds h hx ((yo _ _).2 hy)
def idxN (N:List ByteArray) (n:ByteArray):Nat:=(atL n N).toNat
def ydE {N:List ByteArray} (h:NoD N) {i:Nat} {x:ByteArray} (hx:N[i]?=some x):idxN N x=i:=by rw [idxN,yf7 h hx];rfl
def yft {N:List ByteArray} {i:Nat} {x:ByteArray} (hx:N[i]?=some x):nth N i=x:=by rw [nth,hx];rfl
def yas (N:List ByteArray) (g:ByteArray->ByteArray) (s:Slt):Slt:=if s.req.name ∈ N then ⟨s.req,g s.req.name,s.ls,[]⟩ else s
def yaj (b:Bk) (N:List ByteArray) (g:ByteArray->ByteArray):Bk:=⟨b.slots.map (yas N g),b.wait⟩
def y9 (N:List ByteArray) (g:ByteArray->ByteArray) (s:Slt):(yas N g s).req=s.req:=by rw [yas];split<;>rfl
def ydG (N:List ByteArray) (g:ByteArray->ByteArray) (s:Slt):(yas N g s).ls=s.ls:=by rw [yas];split<;>rfl
def yai (b:Bk) (N:List ByteArray) (g:ByteArray->ByteArray):(yaj b N g).slots.map (·.req.name)=b.slots.map (·.req.name):=by
 rw [yaj,xbn];congr 1;funext s;exact congrArg (·.name) (y9 N g s)
def ybE {b:Bk} {N:List ByteArray} {g:ByteArray->ByteArray} {n:ByteArray} (hat:¬atL n (b.slots.map (·.req.name)) < 0):zx (yaj b N g) n=zx b n/\zn (yaj b N g) n=yas N g (zn b n):=by
 obtain ⟨h1,h2,h3⟩:=zcH hat;refine ⟨by rw [zx,yai,zx],?_⟩
 rw [zn,yai];have:(atL n (b.slots.map (·.req.name))).toNat=zx b n:=rfl;rw [this,yaj];simp only;rw [xah,h1];rfl
def yP {b:Bk} {n:ByteArray} (hat:¬atL n (b.slots.map (·.req.name)) < 0):(zn b n).req.name=n:=by
 have h:=yac hat;rw [xah,(zcH hat).1] at h;exact xaM h
theorem ybe {b:Bk} (h:zG b=0) {N:List ByteArray} (hN:NoD N) (hk:∀ n ∈ N,¬atL n (b.slots.map (·.req.name)) < 0):∀ k,k<=N.length->zrj b N k=b.slots.map λs=>if s.req.name ∈ N.take k then trS s (nth (zeT b N) ((idxN N s.req.name+N.length - 1) % N.length)) else s
 | 0,_=>by simp [zrj]
 | k+1,hlt=>by
  rw [zrj,ybe h hN hk k (by omega)]
  obtain ⟨x,hx⟩:=zm (i:=k) (l:=N) (by omega)
  have hnx:=yft hx;have hkx:=hk x (xad hx);obtain ⟨f1,f2,f3⟩:=zcH hkx;rw [hnx]
  apply xbV
  intro j
  by_cases e:zx b x=j
  .subst e;rw [xbD (by rw [xaf];exact f3),xah,f1]
   have hm:(zn b x).req.name ∈ N.take (k+1):=by rw [yP hkx,zam hx];simp
   simp only [xbE];rw [if_pos hm,yP hkx,ydE hN hx]
  .rw [xbR e,xah,xah];cases hs:b.slots[j]? with
   | none=>rfl
   | some s=>
    have hne:s.req.name≠x:=λq=>e (by rw [<-q];exact (ybQ h hs).1)
    simp only [xbE]
    by_cases q:s.req.name ∈ N.take k
    .rw [if_pos q,if_pos (by rw [zam hx];exact xa9 _ q)]
    .rw [if_neg q,if_neg λq2=>by
      rw [zam hx] at q2
      rcases xaD.1 q2 with q2|q2
      .exact q q2
      .exact hne (xaJ.1 q2)]
def yaf (N:List ByteArray) (g:ByteArray->ByteArray) (n:ByteArray):ByteArray:=nth (N.map g) ((idxN N n+N.length - 1) % N.length)
def ydF (N M:List ByteArray) (hm:∀ n,n ∈ M↔n ∈ N) (g g':ByteArray->ByteArray) (s:Slt):(if (yas N g s).req.name ∈ M then trS (yas N g s) (g' (yas N g s).req.name) else yas N g s)=yas N g' s:=by
 rw [y9]
 by_cases k:s.req.name ∈ N
 .rw [if_pos ((hm _).2 k),trS,y9,ydG,yas,if_pos k]
 .rw [if_neg λq=>k ((hm _).1 q),yas,yas,if_neg k,if_neg k]
def ye1 (N:List ByteArray) (g:ByteArray->ByteArray) (s:Slt):(if s.req.name ∈ N then trS s (g s.req.name) else s)=yas N g s:=by rw [yas,trS]
structure yfi (b:Bk) (N:List ByteArray) (g:ByteArray->ByteArray):Prop where
 n:NoD N
 k:∀ n ∈ N,¬atL n (b.slots.map (·.req.name)) < 0
 l:∀ n ∈ N,(zn b n).ls=[]
 h:NoD (N.map g)
 e:∀ n ∈ N,zaG (g n)=0
def ybC {b:Bk} (h:zG b=0) {N:List ByteArray} {g:ByteArray->ByteArray} (hr:yfi b N g):zG (yaj b N g)=0:=by
 refine ydu h (f:=yas N g) (λs=>congrArg (·.name) (y9 N g s)) λs hs=>?_
 rw [yas];split
 .rename_i k;obtain ⟨i,hi⟩:=xaN.1 hs;have hl:=hr.l _ k;rw [(ybQ h hi).2.1] at hl;exact yb5 (yap h hs) hl (hr.e _ k)
 .exact yap h hs
def ybD {b:Bk} {N M:List ByteArray} {g:ByteArray->ByteArray} (hk:∀ n ∈ M,¬atL n (b.slots.map (·.req.name)) < 0):∀ n ∈ M,¬atL n ((yaj b N g).slots.map (·.req.name)) < 0:=λn hn=>by rw [yai];exact hk n hn
def hld_H {b:Bk} {N M:List ByteArray} {g:ByteArray->ByteArray} (hm:∀ n,n ∈ M↔n ∈ N) (hk:∀ n ∈ N,¬atL n (b.slots.map (·.req.name)) < 0):zeT (yaj b N g) M=M.map g:=by
 rw [zeT,xbn];refine xbW λn hn=>?_
 have hn':=(hm n).1 hn;simp only [Function.comp];rw [(ybE (hk n hn')).2,yas,yP (hk n hn'),if_pos hn']
def ydr {b:Bk} {N:List ByteArray} (hl:∀ n ∈ N,(zn b n).ls=[]):zku b N=false:=by
 rw [zku,xcm];intro s hs;obtain ⟨n,hn,rfl⟩:=xaT.1 hs;rw [hl n hn];simp
def yf2 {b:Bk} {N:List ByteArray} (hl:∀ n ∈ N,(zn b n).ls=[]) (hH:NoD (zeT b N)):zeg b N=0:=by
 rw [zeg];refine zq.2 ⟨by rw [ydr hl];rfl,zq.2 ⟨?_,rfl⟩⟩
 exact yw λi x hx=>if_neg (yds hH hx)
def yeO {b:Bk} {N:List ByteArray} (h:zeg b N=0):(∀ n ∈ N,(zn b n).ls=[])/\NoD (zeT b N):=by
 have h1:=fE0 h (if zku b N=true then 19 else 0) (by simp)
 have h2:=fE0 h (zf ((zeT b N).mapIdx (zs5 (zeT b N)))) (by simp)
 refine ⟨λn hn=>?_,yfu (λi x hx q=>by rw [zs5,if_pos q] at hx;omega) h2⟩
 by_cases k:zku b N=true
 .rw [if_pos k] at h1;omega
 .have k':zku b N=false:=by simpa using k
  rw [zku,xcm] at k';have:=k' _ (xaT.2 ⟨n,hn,rfl⟩);have h3:¬0 < ((zn b n).ls.length:Int):=λq=>this (decide_eq_true q)
  exact xaq (by omega)
def hld_ls {b:Bk} {N M:List ByteArray} {g:ByteArray->ByteArray} (hm:∀ n,n ∈ M↔n ∈ N) (hk:∀ n ∈ N,¬atL n (b.slots.map (·.req.name)) < 0) (hl:∀ n ∈ N,(zn b n).ls=[]):∀ n ∈ M,(zn (yaj b N g) n).ls=[]:=λn hn=>by
 have hn':=(hm n).1 hn;rw [(ybE (hk n hn')).2,ydG];exact hl n hn'
def ycS {b:Bk} (h:zG b=0) {N M:List ByteArray} {g:ByteArray->ByteArray} (hr:yfi b N g) (hM:NoD M) (hm:∀ n,n ∈ M↔n ∈ N) (hMg:NoD (M.map g)):zeg (yaj b N g) M=0/\zlM (yaj b N g) M=yaj b N (yaf M g):=by
 have hH:zeT (yaj b N g) M=M.map g:=hld_H hm hr.k;have hE:zeg (yaj b N g) M=0:=yf2 (hld_ls hm hr.k hr.l) (by rw [hH];exact hMg)
 refine ⟨hE,?_⟩;rw [zlM,if_pos hE,ybe (ybC h hr) hM (ybD λn hn=>hr.k n ((hm n).1 hn)) _ (xaj _),xas,hH]
 have e1:(yaj b N g).slots=b.slots.map (yas N g):=rfl;have e2:(yaj b N g).wait=b.wait:=rfl;rw [e1,e2,xbn,yaj]
 congr 2
 funext s
 exact ydF N M hm g (yaf M g) s
def ycR {b:Bk} (h:zG b=0) {N:List ByteArray} (hN:NoD N) (hk:∀ n ∈ N,¬atL n (b.slots.map (·.req.name)) < 0) (hE:zeg b N=0):zlM b N=yaj b N (yaf N λn=>(zn b n).holder):=by
 have hH:zeT b N=N.map λn=>(zn b n).holder:=by rw [zeT,xbn];rfl
 rw [zlM,if_pos hE,ybe h hN hk _ (xaj _),xas,hH,yaj]
 congr 2
 all_goals (funext s;exact ye1 N (yaf N λn=>(zn b n).holder) s)
def yau {i n:Nat} (h:i < n):(i+n - 1) % n=if i=0 then n - 1 else i - 1:=by
 split
 .rename_i k;subst k;rw [xbc];exact Nat.mod_eq_of_lt (by omega)
 .rename_i k;rw [show i+n - 1=(i - 1)+n by omega,Nat.add_mod_right]
  exact Nat.mod_eq_of_lt (by omega)
def y5 {N:List ByteArray} (hN:NoD N) {g:ByteArray->ByteArray} {i:Nat} {x:ByteArray} (hx:N[i]?=some x):∃ y,N[(i+N.length - 1) % N.length]?=some y/\yaf N g x=g y:=by
 have hi:=(xaa.1 hx).1;obtain ⟨y,hy⟩:=zm (i:=(i+N.length - 1) % N.length) (l:=N) (Nat.mod_lt _ (by omega))
 refine ⟨y,hy,?_⟩;rw [yaf,ydE hN hx];exact yft (by rw [xah,hy];rfl)
def ybt {N:List ByteArray} (hN:NoD N) {g:ByteArray->ByteArray} (hg:NoD (N.map g)):NoD (N.map (yaf N g)):=by
 intro i j x hi hj;rw [xah] at hi hj;cases hni:N[i]? with
 | none=>rw [hni] at hi;cases hi
 | some a=>
  cases hnj:N[j]? with
  | none=>rw [hnj] at hj;cases hj
  | some c=>
   rw [hni] at hi;rw [hnj] at hj;have e1:yaf N g a=x:=xaM hi;have e2:yaf N g c=x:=xaM hj;obtain ⟨y,hy,h1⟩:=y5 hN (g:=g) hni;obtain ⟨z,hz,h2⟩:=y5 hN (g:=g) hnj;have li:=(xaa.1 hni).1;have lj:=(xaa.1 hnj).1;have:=hg _ _ x (by rw [xah,hy];simp only [xbE];rw [<-h1,e1]) (by rw [xah,hz];simp only [xbE];rw [<-h2,e2])
   rw [yau li,yau lj] at this
   split at this<;>split at this<;>omega
def yfR {N:List ByteArray} (hN:NoD N) {g:ByteArray->ByteArray} (hg:∀ n ∈ N,zaG (g n)=0):∀ n ∈ N,zaG (yaf N g n)=0:=λn hn=>by
 obtain ⟨i,hi⟩:=xaN.1 hn;obtain ⟨y,hy,h1⟩:=y5 hN (g:=g) hi;rw [h1];exact hg y (xad hy)
def yfS {b:Bk} {N:List ByteArray} {g:ByteArray->ByteArray} (hr:yfi b N g):yfi b N (yaf N g):=⟨hr.n,hr.k,hr.l,ybt hr.n hr.h,yfR hr.n hr.e⟩
def yec {b:Bk} (h:zG b=0) {N:List ByteArray} (hN:NoD N) (hk:∀ n ∈ N,¬atL n (b.slots.map (·.req.name)) < 0) (hE:zeg b N=0):yfi b N λn=>(zn b n).holder:=by
 obtain ⟨h1,h2⟩:=yeO hE;refine ⟨hN,hk,h1,?_,λn hn=>?_⟩
 .rw [zeT,xbn] at h2;exact h2
 .exact fE0 (yap h (xad (zcH (hk n hn)).1)) _ (by simp)
def gT (b:Bk) (N:List ByteArray):Nat->ByteArray->ByteArray
 | 0=>λn=>(zn b n).holder
 | t+1=>yaf N (gT b N t)
theorem rg_t {b:Bk} {N:List ByteArray} (hr:yfi b N (gT b N 0)):∀ t,yfi b N (gT b N t)
 | 0=>hr
 | t+1=>yfS (rg_t hr t)
def yaR {b:Bk} {N:List ByteArray} (h:yO b N=0):yI N=0/\NoD N/\(∀ n ∈ N,¬atL n (b.slots.map (·.req.name)) < 0)/\zeg b N=0:=by
 have h1:yI N=0:=fE0 h _ (by simp)
 have h2:zf (N.mapIdx (yu b N))=0:=fE0 h _ (by simp)
 have h3:zeg b N=0:=fE0 h _ (by simp)
 refine ⟨h1,?_,yad (fE0 h2),h3⟩;refine yfu (λi x hx q=>?_) h2
 have:=fE0 hx (if 0<=atL x (N.take i) then 9 else 0) (by simp)
 rw [if_pos q] at this;omega
def ydi {b:Bk} {N:List ByteArray} (h1:yI N=0) (hN:NoD N) (hk:∀ n ∈ N,¬atL n (b.slots.map (·.req.name)) < 0) (hE:zeg b N=0):yO b N=0/\yC b N=zlM b N:=by
 have hC:yO b N=0:=by
  refine zq.2 ⟨h1,zq.2 ⟨yw λi x hx=>?_,zq.2 ⟨hE,rfl⟩⟩⟩
  exact zq.2 ⟨if_neg (hk x (xad hx)),zq.2 ⟨if_neg (yds hN hx),rfl⟩⟩
 exact ⟨hC,by rw [yC,if_pos hC]⟩
def ring_t {b:Bk} (h:zG b=0) {N:List ByteArray} (hC:yO b N=0):yfi b N (gT b N 0)/\yC b N=yaj b N (gT b N 1)/\∀ t,zG (yaj b N (gT b N t))=0/\yO (yaj b N (gT b N t)) N=0/\yC (yaj b N (gT b N t)) N=yaj b N (gT b N (t+1)):=by
 obtain ⟨h1,hN,hk,hE⟩:=yaR hC;have hr:yfi b N (gT b N 0):=yec h hN hk hE;refine ⟨hr,by rw [yC,if_pos hC,ycR h hN hk hE];rfl,λt=>?_⟩
 have hrt:=rg_t hr t;obtain ⟨p1,p2⟩:=ycS h hrt hN (λn=>Iff.rfl) hrt.h
 obtain ⟨r1,r2⟩:=ydi h1 hN (ybD hk) p1;exact ⟨ybC h hrt,r1,by rw [r2,p2];rfl⟩
def yda {b:Bk} {o t:ByteArray} (h:zpQ b o t=0):(∀ n ∈ [o,t],¬atL n (b.slots.map (·.req.name)) < 0)/\o≠t/\zeg b [o,t]=0:=by
 by_cases hF:zwk b o t=0
 .rw [zpQ,if_pos hF] at h;have h1:=zwg (fE0 hF (unkE b o) (by simp))
  have h2:=zwg (fE0 hF (unkE b t) (by simp))
  have h3:=fE0 hF (if o=t then 9 else 0) (by simp)
  refine ⟨λn hn=>?_,λq=>by rw [if_pos q] at h3;omega,h⟩
  rcases xaA.1 hn with rfl|hn
  .exact h1
  .rw [xaJ.1 hn];exact h2
 .rw [zpQ,if_neg hF] at h;exact absurd h hF
def yf6 {o t:ByteArray} (h:o≠t):NoD [o,t]:=by
 intro i j x hi hj
 match i,j,hi,hj with
 | 0,0,_,_=>rfl
 | 0,1,hi,hj=>exact absurd ((xaM hi).trans (xaM hj).symm) h
 | 1,0,hi,hj=>exact absurd ((xaM hj).trans (xaM hi).symm) h
 | 1,1,_,_=>rfl
 | 0,j+2,_,hj=>simp at hj
 | 1,j+2,_,hj=>simp at hj
 | i+2,_,hi,_=>simp at hi
def yd5 {b:Bk} {o t:ByteArray} (h:zpQ b o t=0):yO b [o,t]=0/\yC b [o,t]=zpt b o t:=by
 obtain ⟨h1,h2,h3⟩:=yda h;obtain ⟨r1,r2⟩:=ydi (N:=[o,t]) rfl (yf6 h2) h1 h3;exact ⟨r1,by rw [r2,zpt,if_pos h]⟩
def yd4 {b:Bk} {c n to:ByteArray} (h:trC b c n to=0):zhn b c n (zaG to)=0/\zaG to=0/\to≠(zn b n).holder/\(zn b n).ls=[]:=by
 have h1:zhn b c n (zaG to)=0:=fE0 h _ (by simp)
 have h2:trE (zn b n) to=0:=fE0 h _ (by simp)
 have h3:=fE0 h2 (if to=(zn b n).holder then 31 else 0) (by simp)
 have h4:=fE0 h2 (if 0 < ((zn b n).ls.length:Int) then 19 else 0) (by simp)
 refine ⟨h1,zuD h1,λq=>by rw [if_pos q] at h3;omega,?_⟩
 by_cases k:0 < ((zn b n).ls.length:Int)
 .rw [if_pos k] at h4;omega
 .exact xaq (by omega)
def ydz {s:SlR} {x:Lea} (h1:zdC x=0) (h2:zfH s x=0) {t:Int} (ht:t<=x.to) (hf:x.fro<=t):zdC ⟨x.carrier,x.fro,t⟩=0/\zfH s ⟨x.carrier,x.fro,t⟩=0:=by
 have a1:=fE0 h1 (zaG x.carrier) (by simp)
 have a2:=fE0 h1 (rng x.fro 0 99999) (by simp)
 have a3:=fE0 h1 (rng x.to 0 99999) (by simp)
 have b1:=fE0 h2 (if x.fro < s.req.per.fro\/s.req.per.to < x.to then 30 else 0) (by simp)
 have b2:=fE0 h2 (if x.carrier=s.holder then 31 else 0) (by simp)
 have b1':¬(x.fro < s.req.per.fro\/s.req.per.to < x.to):=λk=>by rw [if_pos k] at b1;omega
 refine ⟨zq.2 ⟨a1,zq.2 ⟨a2,zq.2 ⟨?_,zq.2 ⟨if_neg ?_,rfl⟩⟩⟩⟩,zq.2 ⟨if_neg ?_,zq.2 ⟨b2,rfl⟩⟩⟩
 .rw [zdl] at a2 a3 ⊢;dsimp only;omega
 .dsimp only;omega
 .dsimp only;omega
def ycP {s:Slt} (h:zin s=0) {d:Int} (he:zv9 s d=0):zin (zv8 s d)=0:=by
 have h0:¬ztU s d < 0:=λk=>by rw [zv9,if_pos k] at he;omega
 have c3:=fE0 h (if 8 < (s.ls.length:Int) then 5 else 0) (by simp)
 have h8:s.ls.length<=8:=by
  by_cases k:8 < (s.ls.length:Int)
  .rw [if_pos k] at c3;omega
  .omega
 have hle:∀ x ∈ s.ls,zdC x=0/\zfH s.raw x=0:=λx hx=>by
  obtain ⟨i,hi⟩:=xaN.1 hx;have:=yaz h hi;exact ⟨fE0 this _ (by simp),fE0 this _ (by simp)⟩
 rcases yaG (p:=λl:Lea=>decide (l.fro<=d) && decide (d<=l.to)) (l:=s.ls) with ⟨k,_⟩|⟨k,x,hk,hx,hp,_⟩
 .exact absurd k h0
 .have hlt:=(xaa.1 hx).1;have htl:=zgr hx;have e1:recL s d=s.ls.take k++(zs8 (d - 1) x++s.ls.drop (k+1)):=by
   have ek:ztU s d=(k:Nat):=hk;rw [recL,ek,xbS,zam hx,xbF (by omega),xbj (by omega),xaP,zhi,xaz,xbq,xat]
  have e0:s.ls=s.ls.take k++x::s.ls.drop (k+1):=by
   conv=>lhs;rw [<-xaw k s.ls,xaU hlt,(xaa.1 hx).2]
  have hxp:x.fro<=d/\d<=x.to:=by simpa using hp
  obtain ⟨hxl,hxo⟩:=hle x (xad hx);have hxx:=yaL hxl;have hz:∀ z ∈ zs8 (d - 1) x,(zdC z=0/\zfH s.raw z=0)/\z.fro=x.fro/\z.fro<=z.to/\z.to<=x.to:=λz hz=>by
   rw [zs8] at hz
   split at hz
   .rename_i q;rw [xaJ.1 hz];have q1:x.fro<=min x.to (d - 1):=by omega
    exact ⟨ydz hxl hxo (by omega) q1,rfl,q1,by simp only [cutE];omega⟩
   .cases hz
  have hzl:(zs8 (d - 1) x).length<=1:=by unfold zs8;split<;>simp
  have hzp:(zs8 (d - 1) x).Pairwise yby:=by unfold zs8;split<;>simp
  have hp0:=yaQ h;rw [e0] at hp0;obtain ⟨p1,p2,p3⟩:=xba.1 hp0;obtain ⟨p4,p5⟩:=xbg.1 p2;refine yay h (L:=recL s d) ?_ (λz hz'=>?_) ?_
  .rw [e1];simp only [xae,xai,xaF];omega
  .rw [e1] at hz'
   rcases xaD.1 hz' with q|q
   .exact hle z (xbf q)
   .rcases xaD.1 q with q|q
    .exact (hz z q).1
    .exact hle z (xbA q)
  .rw [e1];refine xba.2 ⟨p1,xba.2 ⟨hzp,p5,λa ha c hc=>?_⟩,λa ha c hc=>?_⟩
   .have:=p4 c hc;obtain ⟨_,z1,z2,z3⟩:=hz a ha;simp only [yby] at this ⊢;omega
   .rcases xaD.1 hc with q|q
    .have:=p3 a ha x (by simp)
     obtain ⟨_,z1,z2,z3⟩:=hz c q;simp only [yby] at this ⊢;omega
    .exact p3 a ha c (by simp [q])
def ydc {s:Slt} (h:zin s=0) {to:ByteArray} (hn:zaG to=0) (he:shE s to=0):zin (shS s to)=0:=by
 have c1:=fE0 h (zsh s.req) (by simp)
 have c2:=fE0 h (zaG s.holder) (by simp)
 have c3:=fE0 h (if 8 < (s.ls.length:Int) then 5 else 0) (by simp)
 have c4:=fE0 h (zf (s.ls.mapIdx (zcY s))) (by simp)
 have c6:=fE0 h (zf (s.sh.mapIdx (zhB s))) (by simp)
 have d1:=fE0 he (if to=s.holder then 31 else 0) (by simp)
 have d2:=fE0 he (if 0<=atL to s.sh then 9 else 0) (by simp)
 have d3:=fE0 he (if 4<=(s.sh.length:Int) then 5 else 0) (by simp)
 have h4:s.sh.length < 4:=by
  by_cases k:4<=(s.sh.length:Int)
  .rw [if_pos k] at d3;omega
  .omega
 refine zq.2 ⟨c1,zq.2 ⟨c2,zq.2 ⟨c3,zq.2 ⟨c4,zq.2 ⟨?_,zq.2 ⟨yw λi x hx=>?_,rfl⟩⟩⟩⟩⟩⟩
 .exact if_neg (by simp only [shS,xae,xbI];omega)
 .have hx':(s.sh++[to])[i]?=some x:=hx
  by_cases k:i < s.sh.length
  .rw [xaH k] at hx';have h6:=y8 c6 hx';have e:(shS s to).sh.take i=s.sh.take i:=xbe (by omega)
   rw [zhB] at h6 ⊢;rw [e];exact h6
  .have hlt:=(xaa.1 hx').1;rw [xae,xbI] at hlt;have ei:i=s.sh.length:=by omega
   subst ei;rw [xax (xaj _),xcF] at hx';have ex:to=x:=xaM hx';subst ex;have e:(shS s to).sh.take s.sh.length=s.sh:=List.take_left;rw [zhB,e];exact zq.2 ⟨hn,zq.2 ⟨d1,zq.2 ⟨d2,rfl⟩⟩⟩
def ya4 {b:Bk} (h:zG b=0):zfy b:=by
 have hl:=ziq h;refine ⟨λs hs=>?_,by omega,by omega⟩
 have hv:=yap h hs;have c3:=fE0 hv (if 8 < (s.ls.length:Int) then 5 else 0) (by simp)
 have c5:=fE0 hv (if 4 < (s.sh.length:Int) then 5 else 0) (by simp)
 refine ⟨?_,?_⟩
 .by_cases k:8 < (s.ls.length:Int)
  .rw [if_pos k] at c3;omega
  .omega
 .by_cases k:4 < (s.sh.length:Int)
  .rw [if_pos k] at c5;omega
  .omega
structure yb2 (b y:Bk):Prop where
 r:y.slots.map (·.req)=b.slots.map (·.req)
 w:y.wait=b.wait
 v:zG y=0
def yab {b:Bk} (h:zG b=0) {c n:ByteArray} {e:Int} (ho:zhn b c n e=0) {s':Slt} (hr:s'.req=(zn b n).req) (hv:zin s'=0):yb2 b (zo8 b n s'):=
 ⟨by rw [zo8];simp only;rw [xbb,hr];exact yb7 (by rw [xah,(za6 ho).2.1];rfl),rfl,yaM h ho (by rw [hr]) hv⟩
def yal {b:Bk} {c n:ByteArray} {e:Int} (ho:zhn b c n e=0) {s':Slt} (hh:s'.holder=(zn b n).holder):(zo8 b n s').slots.map (·.holder)=b.slots.map (·.holder):=by
 rw [zo8];simp only;rw [xbb,hh];exact yb7 (by rw [xah,(za6 ho).2.1];rfl)
def yQ {L:List ByteArray} (h:NoD L):L.Nodup:=by
 rw [List.Nodup,xaW];intro i j hi hj hij e;have:=h i j L[i] (xab hi) (by rw [xab hj,e])
 omega
def yaC {b:Bk} (h:zG b=0):(b.slots.map (·.req.name)).Nodup:=yQ λi j x hi hj=>by
 rw [xah] at hi hj;cases hs:b.slots[i]? with
 | none=>rw [hs] at hi;cases hi
 | some s=>
  cases ht:b.slots[j]? with
  | none=>rw [ht] at hj;cases hj
  | some t=>
   rw [hs] at hi;rw [ht] at hj;have e1:s.req.name=x:=xaM hi;have e2:t.req.name=x:=xaM hj;have i1:=ya8 h hs;have i2:=ya8 h ht;rw [e1] at i1;rw [e2] at i2
   omega
def ycO {N:List ByteArray} (hN:NoD N) {g:ByteArray->ByteArray} (hg:NoD (N.map g)):(N.map (yaf N g)).Perm (N.map g):=by
 refine (List.perm_ext_iff_of_nodup (yQ (ybt hN hg)) (yQ hg)).2 λa=>⟨λha=>?_,λha=>?_⟩
 .obtain ⟨x,hx,rfl⟩:=xaT.1 ha;obtain ⟨i,hi⟩:=xaN.1 hx;obtain ⟨y,hy,e⟩:=y5 hN (g:=g) hi;rw [e];exact xaT.2 ⟨y,xad hy,rfl⟩
 .obtain ⟨x,hx,rfl⟩:=xaT.1 ha;obtain ⟨j,hj⟩:=xaN.1 hx;have lj:=(xaa.1 hj).1;have hi:∃ i,i < N.length/\(i+N.length - 1) % N.length=j:=by
   by_cases k:j+1 < N.length
   .exact ⟨j+1,k,by rw [yau k,if_neg (by omega)];omega⟩
   .exact ⟨0,by omega,by rw [yau (by omega),if_pos rfl];omega⟩
  obtain ⟨i,hi,e⟩:=hi;obtain ⟨z,hz⟩:=zm (i:=i) (l:=N) hi;obtain ⟨y,hy,e2⟩:=y5 hN (g:=g) hz;rw [e,hj] at hy;exact xaT.2 ⟨z,xad hz,by rw [e2,<-xaM hy]⟩
def ye0 {b:Bk} (h:zG b=0) {N:List ByteArray} (hN:NoD N) (hk:∀ n ∈ N,¬atL n (b.slots.map (·.req.name)) < 0) {G:ByteArray->ByteArray} (hG:(N.map G).Perm (N.map λn=>(zn b n).holder)):((yaj b N G).slots.map (·.holder)).Perm (b.slots.map (·.holder)):=by
 have hA:((b.slots.filter λs=>decide (s.req.name ∈ N)).map (·.req.name)).Perm N:=by
  refine (List.perm_ext_iff_of_nodup ?_ (yQ hN)).2 λa=>⟨λha=>?_,λha=>?_⟩
  .exact List.Pairwise.sublist (List.Sublist.map _ List.filter_sublist) (yaC h)
  .obtain ⟨s,hs,rfl⟩:=xaT.1 ha;exact of_decide_eq_true (xbP.1 hs).2
  .refine xaT.2 ⟨zn b a,xbP.2 ⟨xad (zcH (hk a ha)).1,decide_eq_true ?_⟩,yP (hk a ha)⟩;rw [yP (hk a ha)];exact ha
 have hsp:=List.filter_append_perm (λs:Slt=>decide (s.req.name ∈ N)) b.slots
 have e1:(b.slots.filter λs=>decide (s.req.name ∈ N)).map (λs=>(yas N G s).holder)=((b.slots.filter λs=>decide (s.req.name ∈ N)).map (·.req.name)).map G:=by
  rw [xbn];refine xbW λs hs=>?_
  have k:=of_decide_eq_true (xbP.1 hs).2;rw [yas,if_pos k];rfl
 have e2:(b.slots.filter λs=>decide (s.req.name ∈ N)).map (·.holder)=((b.slots.filter λs=>decide (s.req.name ∈ N)).map (·.req.name)).map λn=>(zn b n).holder:=by
  rw [xbn];refine xbW λs hs=>?_
  obtain ⟨i,hi⟩:=xaN.1 (xbP.1 hs).1;show s.holder=(zn b s.req.name).holder;rw [(ybQ h hi).2.1]
 have e3:(b.slots.filter λs=>!decide (s.req.name ∈ N)).map (λs=>(yas N G s).holder)=(b.slots.filter λs=>!decide (s.req.name ∈ N)).map (·.holder):=by
  refine xbW λs hs=>?_
  have k:s.req.name ∉ N:=by simpa using (xbP.1 hs).2
  rw [yas,if_neg k]
 have a1:=(hsp.map λs=>(yas N G s).holder).symm
 have a2:=hsp.map (·.holder);rw [xaO,e1,e3] at a1;rw [xaO,e2] at a2;rw [yaj];simp only;rw [xbn];exact a1.trans ((((hA.map G).trans (hG.trans (hA.map _).symm)).append_right _).trans a2)
def yae {b:Bk} (h:zG b=0) {N:List ByteArray} (hC:yO b N=0):yb2 b (yC b N)/\((yC b N).slots.map (·.holder)).Perm (b.slots.map (·.holder)):=by
 obtain ⟨_,hN,hk,_⟩:=yaR hC;obtain ⟨hr,e,ht⟩:=ring_t h hC;rw [e];refine ⟨⟨?_,rfl,(ht 1).1⟩,ye0 h hN hk (ycO hN hr.h)⟩;rw [yaj];simp only;rw [xbn];exact xbW λs _=>y9 _ _ s
def ybo {b:Bk} (h:zG b=0) {o t:ByteArray} (hC:zpQ b o t=0):yb2 b (zpt b o t)/\((zpt b o t).slots.map (·.holder)).Perm (b.slots.map (·.holder)):=by
 obtain ⟨c1,c2⟩:=yd5 hC;rw [<-c2];exact yae h c1
def yb4 {b:Bk} (h:zG b=0) {c n to:ByteArray} (hC:trC b c n to=0):yb2 b (trB b c n to)/\∀ x ∈ (trB b c n to).slots.map (·.holder),x ∈ b.slots.map (·.holder)\/x=to:=by
 obtain ⟨h1,h2,_,h4⟩:=yd4 hC;rw [trB,if_pos hC];refine ⟨yab h h1 rfl (yb5 (ym h h1) h4 h2),λx hx=>?_⟩
 obtain ⟨s,hs,rfl⟩:=xaT.1 hx
 rcases List.mem_or_eq_of_mem_set hs with k|rfl
 .exact .inl (xaT.2 ⟨s,k,rfl⟩)
 .exact .inr rfl
def yct {b:Bk} (h:zG b=0) {c n:ByteArray} {l:Lea} (hC:lnC b c n l=0):yb2 b (lnB b c n l)/\(lnB b c n l).slots.map (·.holder)=b.slots.map (·.holder):=by
 obtain ⟨h1,h2,h3⟩:=yeW hC;rw [lnB,if_pos hC];exact ⟨yab h h1 rfl (ydw (ym h h1) h2 h3),yal h1 rfl⟩
def yb8 {b:Bk} (h:zG b=0) {c n:ByteArray} {d:Int} (hC:reC b c n d=0):yb2 b (reB b c n d)/\(reB b c n d).slots.map (·.holder)=b.slots.map (·.holder):=by
 have h1:zhn b c n (rng d 0 99999)=0:=fE0 hC _ (by simp)
 have h2:zv9 (zn b n) d=0:=fE0 hC _ (by simp)
 rw [reB,if_pos hC];exact ⟨yab h h1 rfl (ycP (ym h h1) h2),yal h1 rfl⟩
def yb6 {b:Bk} (h:zG b=0) {c n to:ByteArray} (hC:shC b c n to=0):yb2 b (shB b c n to)/\(shB b c n to).slots.map (·.holder)=b.slots.map (·.holder):=by
 have h1:zhn b c n (zaG to)=0:=fE0 hC _ (by simp)
 have h2:shE (zn b n) to=0:=fE0 hC _ (by simp)
 rw [shB,if_pos hC];exact ⟨yab h h1 rfl (ydc (ym h h1) (zuD h1) h2),yal h1 rfl⟩
def yW {L:List ByteArray}:L.Nodup↔∀ i x,L[i]?=some x->x ∉ L.take i:=by
 constructor
 .intro h i x hx hm;obtain ⟨j,hj⟩:=xaN.1 hm;have hlt:=(xaa.1 hj).1;rw [xai] at hlt;rw [xbm (by omega)] at hj
  obtain ⟨l1,e1⟩:=xaa.1 hx;obtain ⟨l2,e2⟩:=xaa.1 hj;exact xaW.1 h j i l2 l1 (by omega) (e2.trans e1.symm)
 .intro h;refine yQ λi j x hi hj=>?_
  rcases xcp i j with k|k|k
  .exact absurd (xad (i:=i) (by rw [xbm k];exact hi)) (h j x hj)
  .exact k
  .exact absurd (xad (i:=j) (by rw [xbm k];exact hj)) (h i x hi)
abbrev sNm (S:List Slt):List ByteArray:=S.map (·.req.name)
abbrev wNm (W:List Wsh):List ByteArray:=W.map (·.req.name)
structure Vbk (S:List Slt) (W:List Wsh):Prop where
 n:S.length<=64
 s:∀ s ∈ S,zin s=0
 m:W.length<=64
 w:∀ w ∈ W,zkY w=0
 d:(sNm S++wNm W).Nodup
 o:W.Pairwise (λx y=>zwc x y < 0)
def ydP {a b:Wsh} (h:zwc a b < 0):¬zwc b a<=0:=λk=>by
 have:=yfe.2 k;rw [yN,decide_eq_true h] at this;cases this
def yao {b:Bk}:zG b=0↔Vbk b.slots b.wait:=by
 constructor
 .intro h;have hl:=ziq h;refine ⟨by omega,λs hs=>yap h hs,by omega,λw hw=>?_,yW.2 λi x hx=>?_,ybN h⟩
  .obtain ⟨i,hi⟩:=xaN.1 hw;exact fE0 (ybk h hi) (zkY w) (by simp)
  .by_cases k:i < b.slots.length
   .rw [xaH (by rw [xaf];exact k)] at hx
    rw [xbe (by rw [xaf];omega)]
    exact yW.1 (yaC h) i x hx
   .have hlt:=(xaa.1 hx).1;rw [xae,xaf,xaf] at hlt;rw [xax (by rw [xaf];omega),xaf,xah] at hx
    obtain ⟨w,hw⟩:=zm (i:=i - b.slots.length) (l:=b.wait) (by omega)
    rw [hw] at hx;have ex:w.req.name=x:=xaM hx;obtain ⟨n1,n2⟩:=yc8 h hw;have et:(sNm b.slots++wNm b.wait).take i=sNm b.slots++(b.wait.take (i - b.slots.length)).map (·.req.name):=by
     rw [List.take_append,xag (by rw [xaf];omega),xaf,xbk]
    rw [et,<-ex];intro hm
    rcases xaD.1 hm with hm|hm
    .exact n1 hm
    .exact n2 hm
 .rintro ⟨h1,h2,h3,h4,h5,h6⟩;obtain ⟨d1,d2,d3⟩:=List.nodup_append.1 h5;refine zq.2 ⟨if_neg (by omega),zq.2 ⟨yw λi s hs=>?_,zq.2 ⟨if_neg (by omega),zq.2 ⟨yw λi w hw=>?_,rfl⟩⟩⟩⟩
  .refine zq.2 ⟨h2 s (xad hs),zq.2 ⟨if_neg λk=>?_,rfl⟩⟩
   rw [xbk] at k;exact yW.1 d1 i s.req.name (by rw [xah,hs];rfl) ((yo _ _).1 k)
  .refine zq.2 ⟨h4 w (xad hw),zq.2 ⟨if_neg λk=>?_,zq.2 ⟨if_neg λk=>?_,rfl⟩⟩⟩
   .rcases xaD.1 ((yo _ _).1 k) with k|k
    .exact d3 _ k _ (xaT.2 ⟨w,xad hw,rfl⟩) rfl
    .rw [xbk] at k;exact yW.1 d2 i w.req.name (by rw [xah,hw];rfl) k
   .obtain ⟨k1,k2⟩:=k;obtain ⟨j,rfl⟩:∃ j,i=j+1:=⟨i - 1,by omega⟩
    obtain ⟨li,ei⟩:=xaa.1 hw;have hj:b.wait[j+1 - 1]?=some b.wait[j]:=by rw [xbC];exact xab (by omega)
    rw [hj] at k2;have hlt:=xaW.1 h6 j (j+1) (by omega) li (by omega)
    rw [ei] at hlt;exact ydP hlt k2
def yak {q:Req} (h:zsh q=0):zvK q=0/\¬zW q.per=[]/\zaG q.carrier=0/\zaG q.name=0/\zat q.per=0/\rng q.minute 0 1439=0:=by
 have h1:zvK q=0:=fE0 h _ (by simp)
 have h2:=fE0 h (if zW q.per=[] then 12 else 0) (by simp)
 exact ⟨h1,λk=>by rw [if_pos k] at h2;omega,fE0 h1 (zaG q.carrier) (by simp),fE0 h1 (zaG q.name) (by simp),fE0 h1 (zat q.per) (by simp),fE0 h1 (rng q.minute 0 1439) (by simp)⟩
def yaV {q:Req} (h:zsh q=0):zin (zgP q)=0:=
 zq.2 ⟨h,zq.2 ⟨(yak h).2.2.1,zq.2 ⟨by simp [zgP],zq.2 ⟨by simp [zgP,zf],zq.2 ⟨by simp [zgP],zq.2 ⟨by simp [zgP,zf],rfl⟩⟩⟩⟩⟩⟩
def yfj {b:Bk} {n:ByteArray} (h:tkE b n=0):n ∉ sNm b.slots++wNm b.wait:=λk=>by
 have:zhw (b.slots.map (·.req.name)) (b.wait.map (·.req.name)) n=true:=by
  rw [zhw,xa3,decide_eq_true_eq,decide_eq_true_eq,yo,yo];exact xaD.1 k
 rw [tkE,if_pos this] at h;omega
def ycW {l:List Lim} {b:Bk} {q:Req} (h:zei l b q=0):zsh q=0/\q.name ∉ sNm b.slots++wNm b.wait/\b.slots.length < 64/\zjz l (movF b (-1)) q=true:=by
 by_cases hE:zoy b q=0
 .rw [zei,if_pos hE] at h;have h1:=fE0 hE (zsh q) (by simp)
  have h2:=fE0 hE (tkE b q.name) (by simp)
  have h3:=fE0 hE (if 64<=(b.slots.length:Int) then 5 else 0) (by simp)
  refine ⟨h1,yfj h2,?_,?_⟩
  .by_cases k:64<=(b.slots.length:Int)
   .rw [if_pos k] at h3;omega
   .omega
  .by_cases k:zjz l (movF b (-1)) q=true
   .exact k
   .rw [if_neg k] at h;omega
 .rw [zei,if_neg hE] at h;exact absurd h hE
def ycV {l:List Lim} {b:Bk} (hb:zG b=0) {q:Req} (h:zei l b q=0):zG (zjv l b q)=0:=by
 obtain ⟨h1,h2,h3,_⟩:=ycW h;obtain ⟨v1,v2,v3,v4,v5,v6⟩:=yao.1 hb;rw [zjv,if_pos h];refine yao.2 ⟨by simp only [xae,xbI];omega,λs hs=>?_,v3,v4,?_,v6⟩
 .rcases xaD.1 hs with hs|hs
  .exact v2 s hs
  .rw [xaJ.1 hs];exact yaV h1
 .have e:sNm (b.slots++[zgP q])++wNm b.wait=sNm b.slots++q.name::wNm b.wait:=by simp [sNm,zgP]
  simp only;rw [e];exact (List.perm_middle.nodup_iff).2 (xcl.2 ⟨h2,v5⟩)
def yeb {l:List Lim} {b:Bk} {c n:ByteArray} {m:Int} (h:rtC l b c n m=0):zhn b c n (rng m 0 1439)=0/\rng m 0 1439=0/\zjz l (movF b (zx b n)) (rtQ (zn b n).req m)=true:=by
 have h1:zhn b c n (rng m 0 1439)=0:=fE0 h _ (by simp)
 have h2:rtE l b n (zn b n) m=0:=fE0 h _ (by simp)
 have hat:=(za6 h1).1;refine ⟨h1,zuD h1,?_⟩;rw [rtE,(zcH hat).2.1] at h2
 by_cases k:zjz l (movF b (zx b n)) (rtQ (zn b n).req m)=true
 .exact k
 .rw [if_neg k] at h2;omega
def yfO {q:Req} {m:Int} (h:zsh q=0) (hm:rng m 0 1439=0):zsh (rtQ q m)=0:=by
 obtain ⟨h1,h2,_⟩:=yak h;refine zq.2 ⟨?_,zq.2 ⟨if_neg h2,rfl⟩⟩;unfold zvK at h1 ⊢;simp only [zq] at h1 ⊢;simp only [rtQ];simp only [h1,hm,true_and,and_true];exact h1.2.2.2.2.2.2.1
def ydg {s:Slt} {m:Int} (h:zin s=0) (hm:rng m 0 1439=0):zin (rtS s m)=0:=by
 have c1:=fE0 h (zsh s.req) (by simp)
 have c2:=fE0 h (zaG s.holder) (by simp)
 have c3:=fE0 h (if 8 < (s.ls.length:Int) then 5 else 0) (by simp)
 have c4:=fE0 h (zf (s.ls.mapIdx (zcY s))) (by simp)
 have c5:=fE0 h (if 4 < (s.sh.length:Int) then 5 else 0) (by simp)
 have c6:=fE0 h (zf (s.sh.mapIdx (zhB s))) (by simp)
 exact zq.2 ⟨yfO c1 hm,zq.2 ⟨c2,zq.2 ⟨c3,zq.2 ⟨c4,zq.2 ⟨c5,zq.2 ⟨c6,rfl⟩⟩⟩⟩⟩⟩
def yea {l:List Lim} {b:Bk} (hb:zG b=0) {c n:ByteArray} {m:Int} (h:rtC l b c n m=0):zG (rtB l b c n m)=0:=by
 obtain ⟨h1,h2,_⟩:=yeb h;rw [rtB,if_pos h];exact yaM hb h1 rfl (ydg (ym hb h1) h2)
def ydZ {b:Bk} {c n:ByteArray} {d:Int} (h:zpf b c n d=0):zhn b c n (rng d 0 99999)=0/\rng d 0 99999=0/\d<=(zn b n).req.per.to:=by
 have h1:zhn b c n (rng d 0 99999)=0:=fE0 h _ (by simp)
 have h2:zsp (zn b n) d=0:=fE0 h _ (by simp)
 refine ⟨h1,zuD h1,?_⟩
 by_cases k:(zn b n).req.per.to < d
 .rw [zsp,if_pos k] at h2;omega
 .omega
def ydN {d:Int} {L:List Lea} {z:Lea} (h:z ∈ zhi d L) (hL:∀ x ∈ L,x.fro<=x.to):∃ x ∈ L,z=⟨x.carrier,x.fro,min x.to d⟩/\x.fro<=min x.to d:=by
 obtain ⟨x,hx,hz⟩:=xaC.1 h;rw [zs8] at hz
 split at hz
 .rename_i q;have:=hL x hx;exact ⟨x,hx,xaJ.1 hz,by omega⟩
 .cases hz
theorem yfz {d:Int}:∀ {L:List Lea},(∀ x ∈ L,x.fro<=x.to)->L.Pairwise yby->(zhi d L).Pairwise yby
 | [],_,_=>List.Pairwise.nil
 | x::r,h,hp=>by
  obtain ⟨p1,p2⟩:=xbg.1 hp;have ih:=yfz (d:=d) (λy hy=>h y (by simp [hy])) p2
  have e:zhi d (x::r)=zs8 d x++zhi d r:=by simp [zhi]
  rw [e];refine xba.2 ⟨by unfold zs8;split<;>simp,ih,λa ha c hc=>?_⟩
  obtain ⟨y,hy,rfl,q⟩:=ydN hc (λy hy=>h y (by simp [hy]))
  have:=p1 y hy;rw [zs8] at ha
  split at ha
  .rename_i q2;have hx:=h x (by simp)
   rw [xaJ.1 ha];simp only [yby,cutE] at this ⊢;omega
  .cases ha
def yc3 {s:Slt} {d:Int} (h:zin s=0) (hp:zat (zpy s.req.per d)=0) (hn:¬zW (zpy s.req.per d)=[]) (hd:d<=s.req.per.to):zin (zvU s d)=0:=by
 have c1:=fE0 h (zsh s.req) (by simp)
 have c2:=fE0 h (zaG s.holder) (by simp)
 have c3:=fE0 h (if 8 < (s.ls.length:Int) then 5 else 0) (by simp)
 have c5:=fE0 h (if 4 < (s.sh.length:Int) then 5 else 0) (by simp)
 have c6:=fE0 h (zf (s.sh.mapIdx (zhB s))) (by simp)
 have h8:s.ls.length<=8:=by
  by_cases k:8 < (s.ls.length:Int)
  .rw [if_pos k] at c3;omega
  .omega
 have hq:zsh { s.req with per:=zpy s.req.per d }=0:=by
  obtain ⟨h1,_⟩:=yak c1;refine zq.2 ⟨?_,zq.2 ⟨if_neg hn,rfl⟩⟩;unfold zvK at h1 ⊢;simp only [zq] at h1 ⊢;simp only [h1,hp,true_and,and_true]
 have h0:zin ⟨{ s.req with per:=zpy s.req.per d },s.holder,[],s.sh⟩=0:=
  zq.2 ⟨hq,zq.2 ⟨c2,zq.2 ⟨by simp,zq.2 ⟨by simp [zf],zq.2 ⟨c5,zq.2 ⟨c6,rfl⟩⟩⟩⟩⟩⟩
 have hle:∀ x ∈ s.ls,x.fro<=x.to:=λx hx=>yam h hx
 refine yay h0 (L:=zhi (d - 1) s.ls) (by have:=zkU (d - 1) s.ls;omega) (λz hz=>?_) (yfz hle (yaQ h))
 obtain ⟨x,hx,rfl,q⟩:=ydN hz hle;obtain ⟨i,hi⟩:=xaN.1 hx;have hE:=yaz h hi;obtain ⟨z1,z2⟩:=ydz (t:=min x.to (d - 1)) (fE0 hE (zdC x) (by simp)) (fE0 hE (zfH s.raw x) (by simp)) (by omega) q
 refine ⟨z1,?_⟩;have y1:=fE0 z2 (if x.fro < s.req.per.fro\/s.req.per.to < min x.to (d - 1) then 30 else 0) (by simp)
 have y2:=fE0 z2 (if x.carrier=s.holder then 31 else 0) (by simp)
 have y3:¬x.fro < s.req.per.fro:=λk=>by rw [if_pos (.inl k)] at y1;omega
 exact zq.2 ⟨if_neg (by dsimp only [zpy];omega),zq.2 ⟨y2,rfl⟩⟩
def ydY {b:Bk} (hb:zG b=0) {c n:ByteArray} {d:Int} (h:zpf b c n d=0):zG (zvV b c n d)=0/\(zvV b c n d).slots.length<=b.slots.length:=by
 obtain ⟨h1,h2,h3⟩:=ydZ h;have hv:=ym hb h1;have hp:=(zeC (yT hb (xad (za6 h1).2.1))).1;have hD:=ycC (b:=b) (n:=n) (d:=d) hp h3;rw [<-yfl hb,if_pos h,bkY]
 split
 .obtain ⟨v1,v2,v3,v4,v5,v6⟩:=yao.1 hb;have hs:(b.slots.take (zx b n)++b.slots.drop (zx b n+1)).Sublist b.slots:=by
   conv=>rhs;rw [<-xaw (zx b n) b.slots]
   exact (List.Sublist.refl _).append (List.drop_sublist_drop_left _ (Nat.le_succ _))
  refine ⟨yao.2 ⟨by have:=hs.length_le;simp only;omega,λs q=>v2 s (hs.subset q),v3,v4,?_,v6⟩,hs.length_le⟩
  exact List.Pairwise.sublist ((hs.map _).append (List.Sublist.refl _)) v5
 .rename_i k;have hbk:bkS (zn b n) d=zvU (zn b n) d:=by rw [bkS,zvU,ydT (λx hx=>yam hv hx)]
  rw [ybY _ _ h3] at k;obtain ⟨q1,q2⟩:=hD.2 (by rw [ybY _ _ h3];exact k)
  rw [hbk];refine ⟨yaM hb h1 rfl (yc3 hv q1 k h3),by simp [zo8]⟩
def yd6 {l:List Lim} {b:Bk}:∀ k,k<=b.wait.length->(zgu l b k).K.Sublist (b.wait.take k)/\((zgu l b k).Q.map (·.name)++wNm (zgu l b k).K).Perm (wNm (b.wait.take k)):=by
 intro k
 induction k with
 | zero=>intro _;exact ⟨by simp [zgu,srv0],by simp [zgu,srv0]⟩
 | succ k ih=>
  intro hk;obtain ⟨i1,i2⟩:=ih (by omega)
  obtain ⟨w,hw⟩:=zm (i:=k) (l:=b.wait) (by omega)
  have hnx:=zhA (l:=l) hw;rw [srvN] at hnx;rw [zam hw]
  by_cases hno:ztr l b.slots.length (zgu l b k) w
  .rw [if_pos hno] at hnx;rw [hnx];refine ⟨i1.append (List.Sublist.refl _),?_⟩;rw [wNm,wNm,xaO,xaO,<-xau];exact i2.append_right _
  .rw [if_neg hno] at hnx;rw [hnx];refine ⟨i1.trans (List.sublist_append_left _ _),?_⟩;rw [wNm,wNm,xaO,xaO,xau];refine (List.Perm.append_left _ List.perm_append_comm).trans ?_;rw [<-xau];exact i2.append_right _
def ydb {l:List Lim} {b:Bk} (h:zG b=0):zG (srvB l b)=0:=by
 obtain ⟨v1,v2,v3,v4,v5,v6⟩:=yao.1 h;obtain ⟨p1,p2⟩:=yd6 (l:=l) (b:=b) b.wait.length (xaj _);obtain ⟨i1,_,i3⟩:=ybO (l:=l) h b.wait.length (xaj _);rw [xas] at p1 p2;refine yao.2 ⟨i3,λs hs=>?_,by have:=p1.length_le;simp only [srvB];omega,λw hw=>v4 w (p1.subset hw),?_,v6.sublist p1⟩
 .rcases xaD.1 hs with hs|hs
  .exact v2 s hs
  .obtain ⟨r,hr,rfl⟩:=xaT.1 hs;obtain ⟨j,w,_,hj,rfl⟩:=i1 r hr;exact yaV (yc7 h hj)
 .have e:sNm (srvB l b).slots++wNm (srvB l b).wait=sNm b.slots++((zgu l b b.wait.length).Q.map (·.name)++wNm (zgu l b b.wait.length).K):=by
   simp only [srvB,sNm,xaO,xbn,xau]
   congr 2
  rw [e];exact ((p2.append_left _).nodup_iff).2 v5
def cmpW_0 {a b:Wsh} (h:a.req.name≠b.req.name):zwc a b≠0:=λk=>by
 have h1:¬zwc a b < 0:=by omega
 have h2:¬zwc b a < 0:=λq=>ydP q (by omega)
 rw [ycB] at h1 h2
 by_cases k1:a.rank=b.rank
 .exact h2 (.inr ⟨k1.symm,ycu h λq=>h1 (.inr ⟨k1,q⟩)⟩)
 .rcases Int.lt_or_gt_of_ne k1 with q|q
  .exact h1 (.inl q)
  .exact h2 (.inl q)
def ycI {b:Bk} {w:Wsh} (h:zfC b w=0):zkY w=0/\w.req.name ∉ sNm b.slots++wNm b.wait/\b.wait.length < 64:=by
 have h3:=fE0 h (if 64<=(b.wait.length:Int) then 5 else 0) (by simp)
 refine ⟨fE0 h (zkY w) (by simp),yfj (fE0 h (tkE b w.req.name) (by simp)),?_⟩
 by_cases k:64<=(b.wait.length:Int)
 .rw [if_pos k] at h3;omega
 .omega
def yaP {b:Bk} (hb:zG b=0) {w:Wsh} (h:zfC b w=0):zG (zlg b w)=0/\(zlg b w).wait.length=b.wait.length+1:=by
 obtain ⟨h1,h2,h3⟩:=ycI h;obtain ⟨v1,v2,v3,v4,v5,v6⟩:=yao.1 hb;have e:=yc9 hb w;rw [ycJ,if_pos h] at e;rw [<-e];have hp:=ybN hb;obtain ⟨A,B,eW,hA,hB⟩:=ya6 (R:=λx y=>zwc x y < 0) (p:=yf w) (λx y q k=>by
  rw [yN] at k ⊢;exact decide_eq_true (ybj _ _ _ (of_decide_eq_true k) q)) hp
 have e2:inR yf w b.wait=A++w::B:=by rw [eW];exact ycw hA hB
 rw [e2];rw [eW] at v3 v4 v5 v6 h2 h3;have hnm:∀ y ∈ A++B,w.req.name≠y.req.name:=λy hy k=>h2 (xaY _ (xaT.2 ⟨y,hy,k.symm⟩))
 refine ⟨yao.2 ⟨v1,v2,?_,λy hy=>?_,?_,?_⟩,?_⟩
 .simp only [xae,xaE] at h3 ⊢;omega
 .rcases xaD.1 hy with hy|hy
  .exact v4 y (xa9 _ hy)
  .rcases xaA.1 hy with rfl|hy
   .exact h1
   .exact v4 y (xaY _ hy)
 .have e3:sNm b.slots++wNm (A++w::B)=(sNm b.slots++wNm A)++w.req.name::wNm B:=by simp [wNm]
  have e4:sNm b.slots++wNm (A++B)=(sNm b.slots++wNm A)++wNm B:=by simp [wNm]
  rw [e4] at v5 h2;simp only;rw [e3];exact (List.perm_middle.nodup_iff).2 (xcl.2 ⟨h2,v5⟩)
 .obtain ⟨p1,p2,p3⟩:=xba.1 v6;refine xba.2 ⟨p1,xbg.2 ⟨λy hy=>?_,p2⟩,λx hx y hy=>?_⟩
  .have:=hB y hy;rw [yN] at this;exact of_decide_eq_true this
  .rcases xaA.1 hy with rfl|hy
   .have k:=hA x hx;rw [yN] at k;have k1:=of_decide_eq_false k;have k2:=cmpW_0 (hnm x (xa9 _ hx));exact ycA (by omega)
   .exact p3 x hx y hy
 .rw [eW];simp;omega
def ye8 {b:Bk} (hb:zG b=0) {l:List Lim} {e:Evt} {j:Nat} (h:(doB b l e j).2=0):zG (doB b l e j).1=0/\(doB b l e j).1.wait.length<=b.wait.length+1:=by
 match j,h with
 | 0,h=>
  have h':zei l b (evR e)=0:=h;exact ⟨ycV hb h,by show (zjv l b (evR e)).wait.length<=_;rw [zjv,if_pos h'];simp⟩
 | 1,h=>exact ⟨(ydY hb h).1,by
   show (zvV b (nA e.names 0) (nA e.names 1) (vA e.vals 0)).wait.length<=_;rw [zvV,if_pos (show zpf b (nA e.names 0) (nA e.names 1) (vA e.vals 0)=0 from h),zwd]
   split<;>simp [zhk,zo8]⟩
 | 2,h=>exact ⟨(yb8 hb h).1.v,by rw [show (doB b l e 2).1.wait=b.wait from (yb8 hb h).1.w];omega⟩
 | 3,h=>exact ⟨(yb4 hb h).1.v,by rw [show (doB b l e 3).1.wait=b.wait from (yb4 hb h).1.w];omega⟩
 | 4,h=>exact ⟨(yb6 hb h).1.v,by rw [show (doB b l e 4).1.wait=b.wait from (yb6 hb h).1.w];omega⟩
 | 5,h=>exact ⟨(ybo hb h).1.v,by rw [show (doB b l e 5).1.wait=b.wait from (ybo hb h).1.w];omega⟩
 | 6,h=>exact ⟨(yae hb h).1.v,by rw [show (doB b l e 6).1.wait=b.wait from (yae hb h).1.w];omega⟩
 | 7,h=>exact ⟨(yct hb h).1.v,by rw [show (doB b l e 7).1.wait=b.wait from (yct hb h).1.w];omega⟩
 | 8,h=>exact ⟨yea hb h,by show (rtB l b _ _ _).wait.length<=_;rw [rtB,if_pos (show rtC l b (nA e.names 0) (nA e.names 1) (vA e.vals 0)=0 from h),zo8];simp⟩
 | 9,h=>exact ⟨(yaP hb h).1,by rw [show (doB b l e 9).1.wait.length=b.wait.length+1 from (yaP hb h).2];omega⟩
 | n+10,h=>exact ⟨ydb hb,by
   have:=zj2 (l:=l) (b:=b) (xaj b.wait.length);show (srvB l b).wait.length<=_;simp only [srvB];omega⟩
def ycF {b:Bk} (hb:zG b=0) {l:List Lim} {e:Evt} (h:(apP b l e).2=0):zG (apP b l e).1=0/\(apP b l e).1.wait.length<=b.wait.length+1:=by
 by_cases hE:evE e=0
 .obtain ⟨nm,vl,j,hk,_⟩:=ybg hE;have ea:apP b l e=doB b l e j:=by rw [apP,if_pos hE,hk]
  rw [ea] at h ⊢;exact ye8 hb h
 .rw [apP,if_neg hE] at h;exact absurd h hE
def ydV:zG bk0=0:=rfl
theorem ya5 {l:List Lim} {evs:List Evt}:∀ k,k<=evs.length->okS l evs k->zG (bkR l evs k)=0/\(bkR l evs k).wait.length<=k
 | 0,_,_=>⟨ydV,xaj _⟩
 | k+1,hk,ho=>by
  obtain ⟨h1,h2⟩:=ya5 k (by omega) λj e hj=>ho j e (by omega)
  obtain ⟨e,he⟩:=zm (i:=k) (l:=evs) (by omega)
  obtain ⟨h3,h4⟩:=ycF h1 (ho k e (by omega) he).2
  simp only [bkR,he];exact ⟨h3,by omega⟩
def rpR (l:List Lim) (evs:List Evt):Bk × Int × Int:=if 1000 < (evs.length:Int) then (bk0,0,5) else rpB l evs 0 bk0
def yei (l:List Lim) (evs:List Evt) (hl:zZ l=0) (hN:∀ e ∈ evs,e.names.length<=1000):Pure prog 20 [.sl 11 (l.map Lim.pv),.sl 5 (evs.map Evt.pv)] (.tup [(rpR l evs).1.pv,.i .i64 (rpR l evs).2.1,.i .i64 (rpR l evs).2.2]):=by
 by_cases h:1000 < (evs.length:Int)
 .have h':=eq_true h;rw [rpR,if_pos h];refine zar (r:=.tup [.agg [.nilsl,.nilsl],.i .i64 0,.i .i64 5]) ?_ (wk_rp _ _);refine pz func20 f20.eq_1 λhw X hX=>?_
  have qe:=aI qR (aI @qN (aI @h' @decide_true));exact gD0
 .have h':=eq_false h;rw [rpR,if_neg h];refine pz func20 f20.eq_1 λhw X hX=>?_
  simp only [wfs,PV.wf,xaf,maxLen] at hw;have qe:=aI qR (aI @qN (aI @h' @decide_false));repeat' first|refine gC ?_ ?_<;>intro hc<;>try contradiction|refine gG ?_|show AK _;intro J Z|refine gJ ?_|omega|exact aT
  refine zfP 7 [.p .nilsl,.p .nilsl] [.p (.sl 16 ([]:List PV)),.p (.sl 14 ([]:List PV))] (sR) ⟨.inr ⟨16,rfl,rfl⟩,.inr ⟨14,rfl,rfl⟩,trivial⟩ ?_;refine zi (κ:=Nat) (λk=>⟨[(0,.p (.sl 11 (l.map Lim.pv))),(1,.p (.sl 5 (evs.map Evt.pv))),(4,.lp 4 0),(5,.p (.i .i64 0)),(6,.p (.i .i64 0)),(7,.lp 7 0),(8,.p (.i .i64 k))],[(4,.box [.p .nilsl,.p .nilsl] false),(7,.box [.p (.sl 16 ((bkR l evs k).slots.map Slt.pv)),.p (.sl 14 ((bkR l evs k).wait.map Wsh.pv))] false)],[],false⟩) (λk=>k<=evs.length/\okS l evs k) (λk=>evs.length - k) 0 ?_ ?_ ?_
  .simp only [St.wr,oset.eq_1,oset.eq_2,qS,Nat.reduceAdd,Nat.reduceMul,Nat.reduceEqDiff,Nat.reduceLeDiff,reduceIte,reduceCtorEq,Nat.reduceBEq,Nat.reduceLT]<;>exact ⟨rfl,rfl⟩
  .exact ⟨xa5 _,λj e hj=>by omega⟩
  .rintro k ⟨hk,ho⟩;obtain ⟨hv,hW⟩:=ya5 k hk ho;have hrp:=yfQ k hk ho
   repeat first|refine gG ?_|show AK _;intro J Z|refine gJ ?_|omega|exact aT
   (refine gC ?_ ?_<;>intro hc<;>try contradiction)
   .obtain ⟨e,he⟩:=zm (i:=k) (l:=evs) (by omega)
    have hNe:=hN e (xad he);have h77:=yeA l (bkR l evs k) e (ya4 hv) hl hv hNe;have ed:evs.drop k=e::evs.drop (k+1):=by
     rw [xaU (by omega),(xaa.1 he).2]
    rw [ed,rpB] at hrp
    by_cases hn:e.num=(k:Int)+1
    .have hnt:=eq_true hn;rw [if_pos hn] at hrp
     by_cases ha:(apP (bkR l evs k) l e).2=0
     .have hat:=eq_true ha;rw [if_pos ha] at hrp;have qe:=aI qR (aI @qN (aI @he (aI @hnt (aI @hat (aI @decide_true @xam)))));repeat' first|refine gC ?_ ?_<;>intro hc<;>try contradiction|refine za h77 ?_|refine gG ?_|show AK _;intro J Z|refine gJ ?_|omega|exact aT
      refine ⟨k+1,⟨by omega,λj x hj hx=>?_⟩,by omega,?_⟩
      .by_cases q:j=k
       .subst q;rw [he] at hx;injection hx with hx;subst hx;exact ⟨hn,ha⟩
       .exact ho j x (by omega) hx
      .simp only [bkR,he];simp
     .have hat:=eq_false ha;rw [if_neg ha] at hrp;rw [hrp];have qe:=aI qR (aI @qN (aI @he (aI @hnt (aI @hat (aI @decide_true (aI @xam (aI @decide_false @xal)))))));repeat' first|refine gC ?_ ?_<;>intro hc<;>try contradiction|refine za h77 ?_|refine gG ?_|show AK _;intro J Z|refine gJ ?_|omega|exact aT
      all_goals exact ya3 _ _
    .have hnt:=eq_false hn;rw [if_neg hn] at hrp;rw [hrp];have qe:=aI qR (aI @qN (aI @he (aI @hnt (aI @decide_false @xal))));repeat' first|refine gC ?_ ?_<;>intro hc<;>try contradiction|refine gG ?_|show AK _;intro J Z|refine gJ ?_|omega|exact aT
     all_goals exact ya3 _ _
   .obtain rfl:k=evs.length:=by omega
    rw [hrp,xcs,rpB];have qe:=aI qR @qN;exact gD0
