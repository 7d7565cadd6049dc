/- TradeEvents holds: Apply returns the book or the error of the reference. No conditions. No conditions. -/
import Derived.Test.YtijgimeokgbifaaGreatRows
import Derived.Test.YtijgimeokgbifaaGreatB3
set_option linter.all false
set_option maxHeartbeats 8000000
set_option maxRecDepth 100000
namespace Go.Proofs.YtijgimeokgbifaaGreat
open Go.RowKit Go.Proofs.Tryz
def yez {b:Bk} (h:zG b=0) {k:Nat} {w:Wsh} (hw:b.wait[k]?=some w):w.req.name ∉ b.slots.map (·.req.name)/\w.req.name ∉ (b.wait.take k).map (·.req.name):=by
 have:=fE0 (ybv h hw) (if 0<=atL w.req.name (b.slots.map (·.req.name)++(b.wait.take k).map (·.req.name)) then 9 else 0) (by simp)
 have hn:¬0<=atL w.req.name (b.slots.map (·.req.name)++(b.wait.take k).map (·.req.name)):=λq=>by rw [if_pos q] at this;omega
 exact ⟨λq=>hn ((yA _ _).2 (xa9 _ q)),λq=>hn ((yA _ _).2 (xaY _ q))⟩
def yc2 {b:Bk} (h:zG b=0) {k:Nat} {w:Wsh} (hw:b.wait[k]?=some w):zsh w.req=0:=fE0 (fE0 (ybv h hw) (zkY w) (by simp)) _ (by simp)
def ydO (S:List Slt) (x:Slt):mvS (S++[x])=zf5 zk3 (mvS S) (zrw x.req):=by rw [mvS,xa2];rfl
def yco {l:List Lim} {b:Bk} (h:zG b=0):∀ k,k<=b.wait.length->(∀ r ∈ (zgu l b k).Q,∃ j w,j < k/\b.wait[j]?=some w/\r=w.req)/\(zgu l b k).M=mvS (yw l b k)/\(yw l b k).length<=64:=by
 intro k
 induction k with
 | zero=>
  intro _;have hn:=ziq h;refine ⟨λr hr=>(by cases hr),?_,by simp only [yw,zgu,srv0,xbM,List.foldl_nil,xay,xat];omega⟩
  have:=ye3 h;simp only [yw,zgu,srv0,xbM,List.foldl_nil,xay,xat];exact this
 | succ k ih=>
  intro hk;obtain ⟨i1,i2,i3⟩:=ih (by omega)
  obtain ⟨w,hw⟩:=zm (i:=k) (l:=b.wait) (by omega)
  have hv:∀ s ∈ yw l b k,zdB s.req=0:=λs hs=>by
   rcases xaD.1 hs with hs|hs
   .exact yX h hs
   .obtain ⟨r,hr,rfl⟩:=xaT.1 hs;obtain ⟨j,w',_,hj,rfl⟩:=i1 r hr;exact yaa (yc2 h hj)
  have hnx:=zhA (l:=l) hw;rw [srvN] at hnx
  by_cases hno:ztr l b.slots.length (zgu l b k) w
  .rw [if_pos hno] at hnx;have e:yw l b (k+1)=yw l b k:=by rw [yw,yw,hnx]
   rw [e,hnx];exact ⟨λr hr=>by obtain ⟨j,w',h1,h2⟩:=i1 r hr;exact ⟨j,w',by omega,h2⟩,i2,i3⟩
  .rw [if_neg hno] at hnx;have e:yw l b (k+1)=yw l b k++[zgP w.req]:=by rw [yw,yw,hnx];simp
   have hr:=yaa (yc2 h hw);have hlt:(yw l b k).length < 64:=by
    have h1:¬64<=((b.slots.length+(zgu l b k).Q.length:Nat):Int):=λq=>hno (.inl q)
    simp only [yw,xae,xaf];omega
   obtain ⟨_,m2,m3⟩:=ybj (b:=⟨yw l b k,[]⟩) hv i3;obtain ⟨n1,n2⟩:=yal hr;simp only at m2 m3;have hg:mgE (mvS (yw l b k)) (zrw w.req)=0:=zq.2 ⟨m2,zq.2 ⟨n1,zq.2 ⟨if_neg (by omega),rfl⟩⟩⟩
   rw [e,hnx];refine ⟨λr hr'=>?_,?_,by rw [xae,xbI];omega⟩
   .rcases xaD.1 hr' with hr'|hr'
    .obtain ⟨j,w',h1,h2⟩:=i1 r hr';exact ⟨j,w',by omega,h2⟩
    .exact ⟨k,w,by omega,hw,xaJ.1 hr'⟩
   .simp only;rw [ydO,i2,zgR,if_pos hr,mgR,if_pos hg];rfl
def yef {l:List Lim} {b:Bk} (h:zG b=0):∀ k≤b.wait.length,(∀ s ∈ yw l b k,zdB s.req=0)/\(yw l b k).length<=64:=λk hk=>by
 obtain ⟨i1,_,i3⟩:=yco (l:=l) h k hk;refine ⟨λs hs=>?_,i3⟩
 rcases xaD.1 hs with hs|hs
 .exact yX h hs
 .obtain ⟨r,hr,rfl⟩:=xaT.1 hs;obtain ⟨j,w',_,hj,rfl⟩:=i1 r hr;exact yaa (yc2 h hj)
def yc4 {l:List Lim} {b:Bk} (h:zG b=0) (k:Nat) (w:Wsh) (hw:b.wait[k]?=some w):zei l ⟨yw l b k,[]⟩ w.req=0↔¬ztr l b.slots.length (zgu l b k) w:=by
 have hk:=(xaa.1 hw).1;obtain ⟨i1,i2,i3⟩:=yco (l:=l) h k (by omega)
 obtain ⟨hv,_⟩:=yef (l:=l) h k (by omega)
 obtain ⟨n1,n2⟩:=yez h hw;have hlS:(yw l b k).length=b.slots.length+(zgu l b k).Q.length:=by simp [yw]
 have hnm:¬0<=atL w.req.name ((yw l b k).map (·.req.name)):=λq=>by
  have q:=(yA _ _).1 q;obtain ⟨s,hs,e⟩:=xaT.1 q
  rcases xaD.1 hs with hs|hs
  .exact n1 (xaT.2 ⟨s,hs,e⟩)
  .obtain ⟨r,hr,rfl⟩:=xaT.1 hs;obtain ⟨j,w',hj,hj2,rfl⟩:=i1 r hr;refine n2 (xaT.2 ⟨w',xad (i:=j) (by rw [xbm hj];exact hj2),e⟩)
 have hT:tkE ⟨yw l b k,[]⟩ w.req.name=0:=by
  rw [tkE,zhw,decide_eq_false hnm];simp [atL]
 have hE:zoy ⟨yw l b k,[]⟩ w.req=if 64<=((yw l b k).length:Int) then 5 else 0:=by
  rw [zoy,za2 (yc2 h hw),za2 hT,zfj]
 have hM:=(ybj (b:=⟨yw l b k,[]⟩) hv i3).1;rw [zei,hE,hM,ztr,i2];simp only
 by_cases h64:64<=((yw l b k).length:Int)
 .rw [if_pos h64,if_neg (by omega)]
  exact ⟨λq=>by omega,λq=>absurd (.inl (by omega)) q⟩
 .rw [if_neg h64,if_pos rfl]
  by_cases hf:zjz l (mvS (yw l b k)) w.req=true
  .rw [if_pos hf];refine ⟨λ_ q=>?_,λ_=>rfl⟩
   rcases q with q|q
   .omega
   .rw [hf] at q;cases q
  .rw [if_neg hf];exact ⟨λq=>by omega,λq=>absurd (.inr (by simpa using hf)) q⟩
def yaT (a b:Wsh):yg a b=decide (zwc a b < 0):=by
 have key:yg a b=true↔zwc a b < 0:=by
  rw [yg,zwc];simp only [xa3,xap,decide_eq_true_eq]
  rcases Int.lt_trichotomy a.rank b.rank with k|k|k
  .have:zo7 a.rank b.rank=-1:=if_pos k;rw [this,za1 (by omega)]
   exact ⟨λ_=>by omega,λ_=>.inl k⟩
  .have:zo7 a.rank b.rank=0:=by rw [zo7,if_neg (by omega),if_neg (by omega)]
   rw [za2 this,zfj,zo6];exact ⟨λq=>by rcases q with q|q;(· omega);exact q.2,λq=>.inr ⟨k,q⟩⟩
  .have:zo7 a.rank b.rank=1:=by rw [zo7,if_neg (by omega),if_pos k]
   rw [this,za1 (by omega)]
   exact ⟨λq=>by rcases q with q|q<;>omega,λq=>by omega⟩
 by_cases h:zwc a b < 0
 .rw [decide_eq_true h];exact key.2 h
 .rw [decide_eq_false h];cases q:yg a b
  .rfl
  .exact absurd (key.1 q) h
theorem yaD:∀ x y z:List UInt8,Op.bytesLess x y=true->Op.bytesLess y z=true->Op.bytesLess x z=true
 | _,[],_,h,_=>by simp [Op.bytesLess] at h
 | _,_::_,[],_,h=>by simp [Op.bytesLess] at h
 | [],_::_,_::_,_,_=>by simp [Op.bytesLess]
 | a::x,b::y,c::z,h,k=>by
  simp only [Op.bytesLess,xa3,xap,decide_eq_true_eq,beq_iff_eq] at h k ⊢
  rcases h with h|⟨rfl,h⟩
  .rcases k with k|⟨rfl,k⟩
   .exact .inl (UInt8.lt_trans h k)
   .exact .inl h
  .rcases k with k|⟨rfl,k⟩
   .exact .inl k
   .exact .inr ⟨rfl,yaD x y z h k⟩
def ycQ (a b:Wsh):zwc a b < 0↔a.rank < b.rank\/(a.rank=b.rank/\Op.bytesLess a.req.name.toList b.req.name.toList=true):=by
 have h:=yaT a b;rw [yg] at h
 constructor
 .intro q;rw [decide_eq_true q] at h;simpa only [xa3,xap,decide_eq_true_eq] using h
 .intro q;have h2:(decide (a.rank < b.rank) || (decide (a.rank=b.rank) && Op.bytesLess a.req.name.toList b.req.name.toList))=true:=by
   simpa only [xa3,xap,decide_eq_true_eq] using q
  rw [h2] at h;exact of_decide_eq_true h.symm
def ybr (a b c:Wsh) (h:zwc a b < 0) (k:zwc b c < 0):zwc a c < 0:=by
 rw [ycQ] at *
 rcases h with h|⟨h1,h2⟩
 .rcases k with k|⟨k1,_⟩<;>exact .inl (by omega)
 .rcases k with k|⟨k1,k2⟩
  .exact .inl (by omega)
  .exact .inr ⟨by omega,yaD _ _ _ h2 k2⟩
def yfn {a b:Wsh} (h:zwc a b < 0):¬zwc b a < 0:=λk=>by
 have:=ybr a b a h k;rw [ycQ,zkH] at this
 rcases this with h|⟨_,h⟩
 .omega
 .cases h
def ydU {x y:ByteArray} (h:x≠y) (k:¬Op.bytesLess x.toList y.toList=true):Op.bytesLess y.toList x.toList=true:=by
 by_cases q:Op.bytesLess y.toList x.toList=true
 .exact q
 .exact absurd (zyD (by simpa using k) (by simpa using q)) h
def yd4 {a b:Wsh} (h:¬zwc a b<=0):zwc b a < 0:=by
 rw [zwc] at h;rw [ycQ]
 rcases Int.lt_trichotomy a.rank b.rank with k|k|k
 .have e:zo7 a.rank b.rank=-1:=if_pos k;rw [e,za1 (by omega)] at h;omega
 .have e:zo7 a.rank b.rank=0:=by rw [zo7,if_neg (by omega),if_neg (by omega)]
  rw [za2 e,zfj] at h;refine .inr ⟨k.symm,?_⟩;have hn:a.req.name≠b.req.name:=λq=>h (by rw [(zs9 _ _).2 q];omega)
  have hl:¬zmH a.req.name b.req.name < 0:=λq=>h (by omega)
  exact ydU hn (λq=>hl ((zo6 _ _).2 q))
 .exact .inl k
def yeE {b:Bk} (h:zG b=0):b.wait.Pairwise (λx y=>zwc x y < 0):=by
 refine ycv ybr λi x y hx hy=>?_
 have:=fE0 (ybv h hy) (if 0 < ((i+1:Nat):Int)/\zwc y ((b.wait[i+1 - 1]?).getD y)<=0 then 11 else 0) (by simp)
 have e:(b.wait[i+1 - 1]?).getD y=x:=by rw [xbC,hx];rfl
 rw [e] at this
 by_cases k:0 < ((i+1:Nat):Int)/\zwc y x<=0
 .rw [if_pos k] at this;omega
 .exact yd4 (λq=>k ⟨by omega,q⟩)
theorem yby {α:Type} {R:α->α->Prop} {p:α->Bool} (hp:∀ x y,R x y->p x=true->p y=true):∀ {L:List α},L.Pairwise R->∃ A B,L=A++B/\(∀ y ∈ A,p y=false)/\∀ y ∈ B,p y=true
 | [],_=>⟨[],[],rfl,by simp,by simp⟩
 | x::r,h=>by
  by_cases k:p x=true
  .exact ⟨[],x::r,rfl,by simp,λy hy=>by
    rcases xaA.1 hy with rfl|hy
    .exact k
    .exact hp x y (xcd h hy) k⟩
  .obtain ⟨A,B,rfl,h1,h2⟩:=yby hp (xbg.1 h).2;exact ⟨x::A,B,rfl,λy hy=>by
    rcases xaA.1 hy with rfl|hy
    .simpa using k
    .exact h1 y hy,h2⟩
def yeF {b:Bk} (h:zG b=0) (w:Wsh):ycm b w=zlg b w:=by
 rw [ycm,zlg];have hp:=yeE h;have hb:zjT zwc w=yg w:=by funext x;rw [yaT];rfl
 obtain ⟨A,B,e,hA,hB⟩:=yby (R:=λx y=>zwc x y < 0) (p:=yg w) (λx y q k=>by
  rw [yaT] at k ⊢;exact decide_eq_true (ybr _ _ _ (of_decide_eq_true k) q)) hp
 have hs:zbJ zwc b.wait=b.wait:=by
  have:=ybi (c:=zwc) b.wait [] (by rw [xaP];exact hp.imp fun {a c} k=>yfn k)
  rwa [xaP] at this
 have e2:zbJ zwc (b.wait++[w])=inR yg w b.wait:=by
  rw [zbJ,xa2];rw [zbJ] at hs;rw [hs,e,yet hA hB];exact ycG (λy hy=>by rw [hb];exact hA y hy) (λy hy=>by rw [hb];exact hB y hy)
 rw [e2]
def ybG (a b c d e:ByteArray) (v0 v1 v2 v3 v4 v5 v6:Int) (r:List Int):Pure prog 52 [yc1 [a,b,c,d,e],slI (v0::v1::v2::v3::v4::v5::v6::r)] (evQ a b c d e v0 v1 v2 v3 v4 v5 v6).pv:=by
 refine pz func52 f52.eq_1 λhw X hX=>?_
 simp only [wfs,PV.wf,xaf,xaE,maxLen] at hw;have hl:(7:Int)<=((r.length+1+1+1+1+1+1+1:Nat):Int):=by omega
 have qe:=aI qR (aI @tN (aI @List.map_cons.{0,0} (@List.map_nil.{0,0})));exact gD0
def kd_no {k:ByteArray} (h0:¬k=yi) (h1:¬k=yj) (h2:¬k=ym) (h3:¬k=yn) (h4:¬k=yo) (h5:¬k=yp) (h6:¬k=yt) (h7:¬k=yx) (h8:¬k=yB) (h9:¬k=yE) (h10:¬k=yI):yR k=none:=by
 rw [yR,if_neg h0,if_neg h1,if_neg h2,if_neg h3,if_neg h4,if_neg h5,if_neg h6,if_neg h7,if_neg h8,if_neg h9,if_neg h10]
def kd_in {k:ByteArray} {x:Int × Int × Nat} (h:yR k=some x):(k=yi/\x=(5,7,0))\/(k=yj/\x=(2,1,1))\/(k=ym/\x=(2,1,2))\/(k=yn/\x=(3,0,3))\/(k=yo/\x=(3,0,4))\/(k=yp/\x=(2,0,5))\/(k=yt/\x=(-1,0,6))\/(k=yx/\x=(3,2,7))\/(k=yB/\x=(2,1,8))\/(k=yE/\x=(5,8,9))\/(k=yI/\x=(0,0,10)):=by
 unfold yR at h
 by_cases h0:k=yi
 .rw [if_pos h0] at h;injection h with h;exact .inl ⟨h0,h.symm⟩
 rw [if_neg h0] at h
 by_cases h1:k=yj
 .rw [if_pos h1] at h;injection h with h;exact .inr (.inl ⟨h1,h.symm⟩)
 rw [if_neg h1] at h
 by_cases h2:k=ym
 .rw [if_pos h2] at h;injection h with h;exact .inr (.inr (.inl ⟨h2,h.symm⟩))
 rw [if_neg h2] at h
 by_cases h3:k=yn
 .rw [if_pos h3] at h;injection h with h;exact .inr (.inr (.inr (.inl ⟨h3,h.symm⟩)))
 rw [if_neg h3] at h
 by_cases h4:k=yo
 .rw [if_pos h4] at h;injection h with h;exact .inr (.inr (.inr (.inr (.inl ⟨h4,h.symm⟩))))
 rw [if_neg h4] at h
 by_cases h5:k=yp
 .rw [if_pos h5] at h;injection h with h;exact .inr (.inr (.inr (.inr (.inr (.inl ⟨h5,h.symm⟩)))))
 rw [if_neg h5] at h
 by_cases h6:k=yt
 .rw [if_pos h6] at h;injection h with h;exact .inr (.inr (.inr (.inr (.inr (.inr (.inl ⟨h6,h.symm⟩))))))
 rw [if_neg h6] at h
 by_cases h7:k=yx
 .rw [if_pos h7] at h;injection h with h;exact .inr (.inr (.inr (.inr (.inr (.inr (.inr (.inl ⟨h7,h.symm⟩)))))))
 rw [if_neg h7] at h
 by_cases h8:k=yB
 .rw [if_pos h8] at h;injection h with h;exact .inr (.inr (.inr (.inr (.inr (.inr (.inr (.inr (.inl ⟨h8,h.symm⟩))))))))
 rw [if_neg h8] at h
 by_cases h9:k=yE
 .rw [if_pos h9] at h;injection h with h;exact .inr (.inr (.inr (.inr (.inr (.inr (.inr (.inr (.inr (.inl ⟨h9,h.symm⟩)))))))))
 rw [if_neg h9] at h
 by_cases h10:k=yI
 .rw [if_pos h10] at h;injection h with h;exact .inr (.inr (.inr (.inr (.inr (.inr (.inr (.inr (.inr (.inr (⟨h10,h.symm⟩))))))))))
 rw [if_neg h10] at h;cases h
def ydk (k:ByteArray):Pure prog 104 [.s k] (.tup [.i .i64 (nmO k),.i .i64 (vlO k),.b (yR k).isSome]):=by
 refine pz func104 f104.eq_1 λhw X hX=>?_
 by_cases g0:k=yi
 .have t:=eq_true g0;have e:yR k=some (5,7,0):=by rw [g0];decide
  rw [nmO,vlO,e];have qe:=aI qR (aI @t yDF);exact gD0
 have f0:=eq_false g0
 by_cases g1:k=yE
 .have t:=eq_true g1;have e:yR k=some (5,8,9):=by rw [g1];decide
  rw [nmO,vlO,e];have qe:=aI qR (aI @t (aI @f0 yDF));exact gD0
 have f1:=eq_false g1
 by_cases g2:k=yj
 .have t:=eq_true g2;have e:yR k=some (2,1,1):=by rw [g2];decide
  rw [nmO,vlO,e];have qe:=aI qR (aI @t (aI @f0 (aI @f1 yDF)));exact gD0
 have f2:=eq_false g2
 by_cases g3:k=ym
 .have t:=eq_true g3;have e:yR k=some (2,1,2):=by rw [g3];decide
  rw [nmO,vlO,e];have qe:=aI qR (aI @t (aI @f0 (aI @f1 (aI @f2 yDF))));exact gD0
 have f3:=eq_false g3
 by_cases g4:k=yB
 .have t:=eq_true g4;have e:yR k=some (2,1,8):=by rw [g4];decide
  rw [nmO,vlO,e];have qe:=aI qR (aI @t (aI @f0 (aI @f1 (aI @f2 (aI @f3 yDF)))));exact gD0
 have f4:=eq_false g4
 by_cases g5:k=yp
 .have t:=eq_true g5;have e:yR k=some (2,0,5):=by rw [g5];decide
  rw [nmO,vlO,e];have qe:=aI qR (aI @t (aI @f0 (aI @f1 (aI @f2 (aI @f3 (aI @f4 yDF))))));exact gD0
 have f5:=eq_false g5
 by_cases g6:k=yt
 .have t:=eq_true g6;have e:yR k=some (-1,0,6):=by rw [g6];decide
  rw [nmO,vlO,e];have qe:=aI qR (aI @t (aI @f0 (aI @f1 (aI @f2 (aI @f3 (aI @f4 (aI @f5 yDF)))))));exact gD0
 have f6:=eq_false g6
 by_cases g7:k=yn
 .have t:=eq_true g7;have e:yR k=some (3,0,3):=by rw [g7];decide
  rw [nmO,vlO,e];have qe:=aI qR (aI @t (aI @f0 (aI @f1 (aI @f2 (aI @f3 (aI @f4 (aI @f5 (aI @f6 yDF))))))));exact gD0
 have f7:=eq_false g7
 by_cases g8:k=yo
 .have t:=eq_true g8;have e:yR k=some (3,0,4):=by rw [g8];decide
  rw [nmO,vlO,e];have qe:=aI qR (aI @t (aI @f0 (aI @f1 (aI @f2 (aI @f3 (aI @f4 (aI @f5 (aI @f6 (aI @f7 yDF)))))))));exact gD0
 have f8:=eq_false g8
 by_cases g9:k=yx
 .have t:=eq_true g9;have e:yR k=some (3,2,7):=by rw [g9];decide
  rw [nmO,vlO,e];have qe:=aI qR (aI @t (aI @f0 (aI @f1 (aI @f2 (aI @f3 (aI @f4 (aI @f5 (aI @f6 (aI @f7 (aI @f8 yDF))))))))));exact gD0
 have f9:=eq_false g9
 by_cases g10:k=yI
 .have t:=eq_true g10;have e:yR k=some (0,0,10):=by rw [g10];decide
  rw [nmO,vlO,e];have qe:=aI qR (aI @t (aI @f0 (aI @f1 (aI @f2 (aI @f3 (aI @f4 (aI @f5 (aI @f6 (aI @f7 (aI @f8 (aI @f9 yDF)))))))))));exact gD0
 have f10:=eq_false g10;have e:=kd_no g0 g2 g3 g7 g8 g5 g6 g9 g4 g1 g10;rw [nmO,vlO,e];have qe:=aI qR (aI @f0 (aI @f1 (aI @f2 (aI @f3 (aI @f4 (aI @f5 (aI @f6 (aI @f7 (aI @f8 (aI @f9 (aI @f10 yDF)))))))))));exact gD0
def ybH (e:Evt):Pure prog 50 [e.pv] (.i .i64 (evE e)):=by
 refine pz func50 f50.eq_1 λhw X hX=>?_
 have hR:evE e=zf [rng e.num 1 1000,if (yR e.kind).isSome=false then 13 else 0,if yaZ e.names.length e.vals.length (nmO e.kind) (vlO e.kind)=true then 2 else 0,if decide (e.text=bs [])=false then 1 else 0]:=rfl
 have h21:=ydk e.kind;rw [hR]
 by_cases h1:e.num < 1\/1000 < e.num
 .rw [za1 (by rw [rng,if_pos h1];omega),rng,if_pos h1]
  by_cases q:e.num < 1
  .have q':=eq_true q;have qe:=aI qR (aI @q' (aI @decide_true (aI @decide_false (aI @xam @xal))));exact gD0
  .have q':=eq_false q;have q2:=eq_true (h1.resolve_left q);have qe:=aI qR (aI @q' (aI @q2 (aI @decide_true (aI @decide_false (aI @xam @xal)))));exact gD0
 have q1:(e.num < 1)=False:=eq_false (by omega)
 have q2:(1000 < e.num)=False:=eq_false (by omega)
 rw [za2 (by rw [rng,if_neg h1])]
 generalize (yR e.kind).isSome=kn at h21 ⊢;cases kn with
 | false=>
  rw [za1 (by simp)]
  have qe:=aI qR (aI @q1 (aI @q2 (aI @decide_true (aI @decide_false (aI @xam @xal)))));have jA:=h21;exact gD2
 | true=>
  rw [za2 (by simp)]
  have hsh:yaZ e.names.length e.vals.length (nmO e.kind) (vlO e.kind)=((decide (0<=nmO e.kind) && !decide ((e.names.length:Int)=nmO e.kind)) || !decide ((e.vals.length:Int)=vlO e.kind)):=rfl
  by_cases h2:yaZ e.names.length e.vals.length (nmO e.kind) (vlO e.kind)=true
  .rw [za1 (by rw [if_pos h2];omega),if_pos h2]
   rw [hsh] at h2;have qe:=aI qR (aI @q1 (aI @q2 (aI @h2 (aI @decide_true (aI @decide_false (aI @xam @xal))))));have jA:=h21;exact gD2
  .rw [za2 (by rw [if_neg h2])]
   have h2':yaZ e.names.length e.vals.length (nmO e.kind) (vlO e.kind)=false:=by simpa using h2
   rw [hsh] at h2'
   by_cases h3:e.text=bs []
   .have h3':=eq_true h3;have e3:zf [if decide (e.text=bs [])=false then 1 else 0]=0:=by simp [h3,zf]
    rw [e3];have qe:=aI qR (aI @q1 (aI @q2 (aI @h2' (aI @h3' (aI @decide_true (aI @decide_false (aI @xam @xal)))))));have jA:=h21;exact gD2
   .have h3':=eq_false h3;have e3:zf [if decide (e.text=bs [])=false then 1 else 0]=1:=by simp [h3,zf]
    rw [e3];have qe:=aI qR (aI @q1 (aI @q2 (aI @h2' (aI @h3' (aI @decide_true (aI @decide_false (aI @xam @xal)))))));have jA:=h21;exact gD2
def nk1:(yE=yi)=False:=eq_false (by decide)
def nk2:(yj=yi)=False/\(yj=yE)=False:=⟨eq_false (by decide),eq_false (by decide)⟩
def nk3:(ym=yi)=False/\(ym=yE)=False/\(ym=yj)=False:=⟨eq_false (by decide),eq_false (by decide),eq_false (by decide)⟩
def nk4:(yB=yi)=False/\(yB=yE)=False/\(yB=yj)=False/\(yB=ym)=False:=⟨eq_false (by decide),eq_false (by decide),eq_false (by decide),eq_false (by decide)⟩
def nk5:(yp=yi)=False/\(yp=yE)=False/\(yp=yj)=False/\(yp=ym)=False/\(yp=yB)=False:=⟨eq_false (by decide),eq_false (by decide),eq_false (by decide),eq_false (by decide),eq_false (by decide)⟩
def nk6:(yt=yi)=False/\(yt=yE)=False/\(yt=yj)=False/\(yt=ym)=False/\(yt=yB)=False/\(yt=yp)=False:=⟨eq_false (by decide),eq_false (by decide),eq_false (by decide),eq_false (by decide),eq_false (by decide),eq_false (by decide)⟩
def nk7:(yn=yi)=False/\(yn=yE)=False/\(yn=yj)=False/\(yn=ym)=False/\(yn=yB)=False/\(yn=yp)=False/\(yn=yt)=False:=⟨eq_false (by decide),eq_false (by decide),eq_false (by decide),eq_false (by decide),eq_false (by decide),eq_false (by decide),eq_false (by decide)⟩
def nk8:(yo=yi)=False/\(yo=yE)=False/\(yo=yj)=False/\(yo=ym)=False/\(yo=yB)=False/\(yo=yp)=False/\(yo=yt)=False/\(yo=yn)=False:=⟨eq_false (by decide),eq_false (by decide),eq_false (by decide),eq_false (by decide),eq_false (by decide),eq_false (by decide),eq_false (by decide),eq_false (by decide)⟩
def nk9:(yx=yi)=False/\(yx=yE)=False/\(yx=yj)=False/\(yx=ym)=False/\(yx=yB)=False/\(yx=yp)=False/\(yx=yt)=False/\(yx=yn)=False/\(yx=yo)=False:=⟨eq_false (by decide),eq_false (by decide),eq_false (by decide),eq_false (by decide),eq_false (by decide),eq_false (by decide),eq_false (by decide),eq_false (by decide),eq_false (by decide)⟩
def nk10:(yI=yi)=False/\(yI=yE)=False/\(yI=yj)=False/\(yI=ym)=False/\(yI=yB)=False/\(yI=yp)=False/\(yI=yt)=False/\(yI=yn)=False/\(yI=yo)=False/\(yI=yx)=False:=⟨eq_false (by decide),eq_false (by decide),eq_false (by decide),eq_false (by decide),eq_false (by decide),eq_false (by decide),eq_false (by decide),eq_false (by decide),eq_false (by decide),eq_false (by decide)⟩
def ydv (l:List Lim) (b:Bk) (e:Evt) (hok:zfy b) (hl:zZ l=0) (hb:zG b=0) (hN:e.names.length<=1000):Pure prog 16 [.sl 11 (l.map Lim.pv),b.pv,e.pv] (.tup [(apP b l e).1.pv,.i .i64 (apP b l e).2]):=by
 have hlen:=ziq hb;have hn64:b.slots.length<=64:=by omega
 have hw64:b.wait.length<=64:=by omega
 have hrq:∀ s ∈ b.slots,zdB s.req=0:=λs hs=>yX hb hs
 have hpr:∀ s ∈ b.slots,zat s.req.per=0:=λs hs=>(zeC (yX hb hs)).1
 have hsh:∀ s ∈ b.slots,s.sh.length<=4:=λs hs=>yeg (ycV hb hs)
 by_cases hE:¬evE e=0
 .have h46:=ybH e;have hE':=eq_false hE;rw [apP,if_neg hE];refine zar (r:=.tup [.agg [.nilsl,.nilsl],.i .i64 (evE e)]) ?_ (zbt _);refine pz func16 f16.eq_1 λhw X hX=>?_
  have qe:=aI qR (aI @hE' (aI @decide_false @xal));have jA:=h46;exact gD2
 have hE:=Classical.not_not.1 hE;obtain ⟨nm,vl,j,hk,hs⟩:=yam hE;have ea:apP b l e=doB b l e j:=by rw [apP,if_pos hE,hk]
 rw [ea];have h46:=ybH e;rw [hE] at h46;obtain ⟨num,kind,names,vals,text⟩:=e;simp only at hN hk hs;simp only [yaZ,xbd,xbY,decide_eq_false_iff_not,xb7,decide_eq_true_eq] at hs;obtain ⟨h1,h2⟩:=hs
 rcases kd_in hk with ⟨rfl,hx⟩|⟨rfl,hx⟩|⟨rfl,hx⟩|⟨rfl,hx⟩|⟨rfl,hx⟩|⟨rfl,hx⟩|⟨rfl,hx⟩|⟨rfl,hx⟩|⟨rfl,hx⟩|⟨rfl,hx⟩|⟨rfl,hx⟩<;>(simp only [xcq] at hx;obtain ⟨rfl,rfl,rfl⟩:=hx)
 .-- Hold
  have h1:=h1.resolve_left (by omega)
  match names,vals,h1,h2 with
  | [n0,n1,n2,n3,n4],[v0,v1,v2,v3,v4,v5,v6],_,_=>
   have h9:=ybL l b (evQ n0 n1 n2 n3 n4 v0 v1 v2 v3 v4 v5 v6) hok hl hrq hn64;refine pz func16 f16.eq_1 λhw X hX=>?_
   have qe:=aI qR (aI @tN (aI @qN (aI @List.map_cons.{0,0} (aI @List.map_nil.{0,0} (aI @decide_true (aI @decide_false @xam))))));have jA:=h46;have jB:=ybG n0 n1 n2 n3 n4 v0 v1 v2 v3 v4 v5 v6 [];have jC:=h9;exact gD4
 .-- Back
  have h1:=h1.resolve_left (by omega)
  match names,vals,h1,h2 with
  | [n0,n1],[v0],_,_=>
   have h9:=(by have:=ydE b n0 n1 v0 hok hpr;rw [ref_bk hb] at this;exact this:Pure prog 54 [b.pv,.s n0,.s n1,.i .i64 v0] (.tup [(zvV b n0 n1 v0).pv,.i .i64 (zpf b n0 n1 v0)]))
   refine pz func16 f16.eq_1 λhw X hX=>?_
   have qe:=aI qR (aI @tN (aI @qN (aI @nk2 (aI @List.map_cons.{0,0} (aI @List.map_nil.{0,0} (aI @decide_true (aI @decide_false @xam)))))));have jA:=h46;have jB:=h9;exact gD2
 .-- Reca
  have h1:=h1.resolve_left (by omega)
  match names,vals,h1,h2 with
  | [n0,n1],[v0],_,_=>
   have h9:=(by have:=ydC b n0 n1 v0 hok;rw [ref_rc hb,yct hb] at this;exact this:Pure prog 55 [b.pv,.s n0,.s n1,.i .i64 v0] (.tup [(reB b n0 n1 v0).pv,.i .i64 (reC b n0 n1 v0)]))
   refine pz func16 f16.eq_1 λhw X hX=>?_
   have qe:=aI qR (aI @tN (aI @qN (aI @nk3 (aI @List.map_cons.{0,0} (aI @List.map_nil.{0,0} (aI @decide_true (aI @decide_false @xam)))))));have jA:=h46;have jB:=h9;exact gD2
 .-- Tran
  have h1:=h1.resolve_left (by omega)
  match names,vals,h1,h2 with
  | [n0,n1,n2],[],_,_=>
   have h9:=ydy b n0 n1 n2 hok;refine pz func16 f16.eq_1 λhw X hX=>?_
   have qe:=aI qR (aI @tN (aI @qN (aI @nk7 (aI @List.map_cons.{0,0} (aI @List.map_nil.{0,0} (aI @decide_true (aI @decide_false @xam)))))));have jA:=h46;have jB:=h9;exact gD2
 .-- Shar
  have h1:=h1.resolve_left (by omega)
  match names,vals,h1,h2 with
  | [n0,n1,n2],[],_,_=>
   have h9:=ydB b n0 n1 n2 hok hsh;refine pz func16 f16.eq_1 λhw X hX=>?_
   have qe:=aI qR (aI @tN (aI @qN (aI @nk8 (aI @List.map_cons.{0,0} (aI @List.map_nil.{0,0} (aI @decide_true (aI @decide_false @xam)))))));have jA:=h46;have jB:=h9;exact gD2
 .-- Swap
  have h1:=h1.resolve_left (by omega)
  match names,vals,h1,h2 with
  | [n0,n1],[],_,_=>
   have h9:=ydA b n0 n1 hok;refine pz func16 f16.eq_1 λhw X hX=>?_
   have qe:=aI qR (aI @tN (aI @qN (aI @nk5 (aI @List.map_cons.{0,0} (aI @List.map_nil.{0,0} (aI @decide_true (aI @decide_false @xam)))))));have jA:=h46;have jB:=h9;exact gD2
 .-- Ring
  match vals,h2 with
  | [],_=>
   have h9:=ydz b names hok hN;refine pz func16 f16.eq_1 λhw X hX=>?_
   have qe:=aI qR (aI @tN (aI @qN (aI @nk6 (aI @List.map_cons.{0,0} (aI @List.map_nil.{0,0} (aI @decide_true (aI @decide_false @xam)))))));have jA:=h46;have jB:=h9;exact gD2
 .-- Lend
  have h1:=h1.resolve_left (by omega)
  match names,vals,h1,h2 with
  | [n0,n1,n2],[v0,v1],_,_=>
   have h9:=(by have:=ydD b n0 n1 ⟨n2,v0,v1⟩ hok;rw [ref_ln hb] at this;exact this:Pure prog 61 [b.pv,.s n0,.s n1,(Lea.mk n2 v0 v1).pv] (.tup [(lnB b n0 n1 ⟨n2,v0,v1⟩).pv,.i .i64 (lnC b n0 n1 ⟨n2,v0,v1⟩)]))
   refine pz func16 f16.eq_1 λhw X hX=>?_
   have qe:=aI qR (aI @tN (aI @qN (aI @nk9 (aI @List.map_cons.{0,0} (aI @List.map_nil.{0,0} (aI @decide_true (aI @decide_false @xam)))))));have jA:=h46;have jB:=h9;exact gD2
 .-- Reti
  have h1:=h1.resolve_left (by omega)
  match names,vals,h1,h2 with
  | [n0,n1],[v0],_,_=>
   have h9:=ydF l b n0 n1 v0 hok hl hb;refine pz func16 f16.eq_1 λhw X hX=>?_
   have qe:=aI qR (aI @tN (aI @qN (aI @nk4 (aI @List.map_cons.{0,0} (aI @List.map_nil.{0,0} (aI @decide_true (aI @decide_false @xam)))))));have jA:=h46;have jB:=h9;exact gD2
 .-- Wait
  have h1:=h1.resolve_left (by omega)
  match names,vals,h1,h2 with
  | [n0,n1,n2,n3,n4],[v0,v1,v2,v3,v4,v5,v6,v7],_,_=>
   have h9:=(by have:=ydI b ⟨evQ n0 n1 n2 n3 n4 v0 v1 v2 v3 v4 v5 v6,v7⟩ hok hw64;rw [yeF hb] at this;exact this:Pure prog 53 [b.pv,(Wsh.mk (evQ n0 n1 n2 n3 n4 v0 v1 v2 v3 v4 v5 v6) v7).pv] (.tup [(zlg b ⟨evQ n0 n1 n2 n3 n4 v0 v1 v2 v3 v4 v5 v6,v7⟩).pv,.i .i64 (zfC b ⟨evQ n0 n1 n2 n3 n4 v0 v1 v2 v3 v4 v5 v6,v7⟩)]))
   refine pz func16 f16.eq_1 λhw X hX=>?_
   have qe:=aI qR (aI @tN (aI @qN (aI @nk1 (aI @List.map_cons.{0,0} (aI @List.map_nil.{0,0} (aI @decide_true (aI @decide_false @xam)))))));have jA:=h46;have jB:=ybG n0 n1 n2 n3 n4 v0 v1 v2 v3 v4 v5 v6 [v7];have jC:=h9;exact gD4
 .-- Serv
  have h1:=h1.resolve_left (by omega)
  match names,vals,h1,h2 with
  | [],[],_,_=>
   have h9:=ydH l b hok hl (yef hb) (yc4 hb);refine pz func16 f16.eq_1 λhw X hX=>?_
   have qe:=aI qR (aI @tN (aI @qN (aI @nk10 (aI @List.map_cons.{0,0} (aI @List.map_nil.{0,0} (aI @decide_true (aI @decide_false @xam)))))));have jA:=h46;have jB:=h9;exact gD2
def bigE (e:Evt):Bool:=((decide ((9:Int) < e.names.length) || decide ((9:Int) < e.vals.length)) || decide ((40:Int) < e.kind.size)) || decide ((40:Int) < e.text.size)
def perV:List Int->Bool
 | v0::v1::v2::_::_::_::_::_=>if zat ⟨v0,v1,v2⟩=0 then decide (v1 - v0 < 14) else true
 | _=>true
def ycj (e:Evt):Bool:=!bigE e && (e.names.all yap && perV e.vals)
def yeY {V:List Int} (h:¬7<=V.length):perV V=true:=by
 match V with
 | []=>rfl
 | [_]=>rfl
 | [_,_]=>rfl
 | [_,_,_]=>rfl
 | [_,_,_,_]=>rfl
 | [_,_,_,_,_]=>rfl
 | [_,_,_,_,_,_]=>rfl
 | _::_::_::_::_::_::_::_=>simp at h
def ydx (e:Evt):Pure prog 7 [e.pv] (.b (ycj e)):=by
 obtain ⟨num,kind,names,vals,text⟩:=e;refine pz func7 f7.eq_1 λhw X hX=>?_
 simp only [wfs,PV.wf,xaf,maxLen] at hw;have qe:=@qR;repeat' first|refine gC ?_ ?_<;>intro hc<;>try contradiction|refine gG ?_|show AK _;intro J Z|refine gJ ?_|omega|exact aT
 .have:bigE ⟨num,kind,names,vals,text⟩=true:=by simpa [bigE] using hc
  rw [ycj,this];exact .refl _
 have hsh:bigE ⟨num,kind,names,vals,text⟩=false:=by simpa [bigE] using hc
 refine zi (κ:=Nat) (λi=>⟨[(1,.lp 1 0),(3,.p (.i .i64 i))],[(1,.box [.p (.i .i64 num),.p (.s kind),.p (.sl 1 (names.map .s)),.p (.sl 1 (vals.map (.i .i64))),.p (.s text)] false)],[],false⟩) (λi=>i<=names.length/\∀ y ∈ names.take i,yap y=true) (λi=>names.length - i) 0 ?_ ?_ ?_
 .exact sS
 .simp
 .intro i hi
  repeat first|refine gG ?_|show AK _;intro J Z|refine gJ ?_|omega|exact aT
  (refine gC ?_ ?_<;>intro hc<;>try contradiction)
  .obtain ⟨y,hx⟩:=zm (i:=i) (l:=names) (by omega)
   have qe:=aI qR @hx;repeat' first|refine gC ?_ ?_<;>intro hc<;>try contradiction|refine gG ?_|show AK _;intro J Z|refine gJ ?_|omega|exact aT
   .rw [ycj,hsh,yaf hx (by rw [yap,decide_eq_true hc];rfl)];exact .refl _
   .exact ⟨i+1,⟨by omega,yH hi.2 hx (by rw [yap,decide_eq_false (by omega)];rfl)⟩,by omega,by simp⟩
  .have e1:i=names.length:=by omega
   subst e1;have ha:=y5 hi.2
   by_cases h7:7<=vals.length
   .match vals,h7 with
    | v0::v1::v2::v3::v4::v5::v6::r,_=>
     have h7t:((7:Int)<=((r.length+1+1+1+1+1+1+1:Nat):Int))=True:=eq_true (by omega)
     by_cases hp:zat ⟨v0,v1,v2⟩=0
     .have h1:=zaW hp;simp only at h1;have e2:ycj ⟨num,kind,names,v0::v1::v2::v3::v4::v5::v6::r,text⟩=decide (v1 - v0 < 14):=by rw [ycj,hsh,ha,perV,if_pos hp];rfl
      rw [e2];have qe:=aI qR (aI @tN (aI @hp (aI @h7t (aI @List.map_cons.{0,0} (aI @decide_true @xam)))));have jA:=y8 ⟨v0,v1,v2⟩;exact gD2
     .have hpf:=eq_false hp;have e2:ycj ⟨num,kind,names,v0::v1::v2::v3::v4::v5::v6::r,text⟩=true:=by rw [ycj,hsh,ha,perV,if_neg hp];rfl
      rw [e2];have qe:=aI qR (aI @tN (aI @hpf (aI @h7t (aI @List.map_cons.{0,0} (aI @decide_true (aI @decide_false @xal))))));have jA:=y8 ⟨v0,v1,v2⟩;exact gD2
   .have h7f:((7:Int)<=(vals.length:Int))=False:=eq_false (by omega)
    rw [ycj,hsh,ha,yeY h7];have qe:=aI qR (aI @h7f @decide_false);exact gD0
def yb5 {e:Evt} (h:ycj e=true):e.names.length<=9:=by
 rw [ycj,xap] at h;have h1:=h.1;simp only [bigE,xa6,xbd,decide_eq_false_iff_not] at h1
 omega
def sh_few {b:Bk} (h:yck b=true) (hc:zG b=0):b.slots.length<=5/\b.wait.length<=5:=by
 have hl:=ziq hc;simp only [yck,xap,xa6,bigB,xbd,xbY,decide_eq_false_iff_not,xb7,decide_eq_true_eq] at h;obtain ⟨⟨h1,h2⟩,_⟩:=h;exact ⟨by rcases h1 with h1|h1<;>omega,by rcases h2 with h2|h2<;>omega⟩
def yeG {b:Bk} {w:Wsh} (h:zfC b w≠0):zlg b w=bk0:=if_neg h
def yc3 {b:Bk} {w:Wsh} (hb:zfy b) (h:b.wait.length<=65):zfy (zlg b w):=by
 rw [zlg];split
 .exact ⟨hb.s,hb.n,by simp only [zH,xae,xbI];omega⟩
 .exact yK
def yeJ {l:List Lim} {b:Bk} (hb:zfy b) (h:b.slots.length<=65) (hw:b.wait.length<=65):zfy (srvB l b):=by
 have hl:=zj2 (l:=l) (b:=b) (xaj b.wait.length);refine ⟨λs hs=>?_,?_,?_⟩
 .rcases xaD.1 hs with hs|hs
  .exact hb.s s hs
  .obtain ⟨r,_,rfl⟩:=xaT.1 hs;exact ⟨by simp [zgP],by simp [zgP]⟩
 .simp only [srvB,xae,xaf];omega
 .simp only [srvB];omega
def apP_0 {b:Bk} {l:List Lim} {e:Evt} (h:(apP b l e).2≠0):(apP b l e).1=bk0:=by
 by_cases hE:evE e=0
 .obtain ⟨nm,vl,j,hk,_⟩:=yam hE;have ea:apP b l e=doB b l e j:=by rw [apP,if_pos hE,hk]
  rw [ea] at h ⊢
  match j,h with
  | 0,h=>exact zuZ h
  | 1,h=>exact zte h
  | 2,h=>exact reB_0 h
  | 3,h=>exact trB_0 h
  | 4,h=>exact yc6 h
  | 5,h=>exact zwl h
  | 6,h=>exact yeO h
  | 7,h=>exact zuL h
  | 8,h=>exact rtB_0 h
  | 9,h=>exact yeG h
  | n+10,h=>exact absurd rfl h
 .rw [apP,if_neg hE]
def apP_ok {b:Bk} {l:List Lim} {e:Evt} (hok:zfy b) (hb:zG b=0) (h1:b.slots.length<=65) (h2:b.wait.length<=65):zfy (apP b l e).1:=by
 by_cases hE:evE e=0
 .obtain ⟨nm,vl,j,hk,_⟩:=yam hE;rw [show apP b l e=doB b l e j by rw [apP,if_pos hE,hk]]
  match j with
  | 0=>exact ydX hok h1
  | 1=>exact yfu hok
  | 2=>exact reB_ok hok hb _ _ _
  | 3=>exact trB_ok hok _ _ _
  | 4=>exact shB_ok hok hb _ _ _
  | 5=>exact swp_ok hok _ _
  | 6=>exact rng_ok hok _
  | 7=>exact lnB_ok hok hb _ _ _
  | 8=>exact rtB_ok hok
  | 9=>exact yc3 hok h2
  | n+10=>exact yeJ hok h1 h2
 .rw [apP,if_neg hE];exact yK
def ydM (l:List Lim) (b:Bk) (e:Evt) (hn:l.length*112<=140737488355328):Pure prog 3 [.sl 11 (l.map Lim.pv),b.pv,e.pv] (.b true):=by
 refine pz func3 f3.eq_1 λhw X hX=>?_
 have h15:=ydL l b hn;have h75:=ydx e;have h26:=ybP l hn;have h21:=ydK l hn;have h23:=pure23 l;have hC:=ydJ b
 by_cases hs:¬((yad l 3 && yck b)=true)
 .have hs':(yad l 3 && yck b)=false:=by simpa using hs
  rw [hs'] at h15;have qe:=aI qR (aI @decide_true (aI @decide_false (aI @xam @xal)));have jA:=h15;have jB:=h75;have jC:=pure1017;exact gD4
 have hs:=Classical.not_not.1 hs;rw [hs] at h15
 by_cases hq:¬(ycj e=true)
 .have hq':ycj e=false:=by simpa using hq
  rw [hq'] at h75;have qe:=aI qR (aI @decide_true (aI @decide_false (aI @xam @xal)));have jA:=h15;have jB:=h75;have jC:=pure1017;exact gD4
 have hq:=Classical.not_not.1 hq;rw [hq] at h75;rw [xap] at hs;obtain ⟨hok,hl1,hl2⟩:=sh_ok hs.2;have hN:e.names.length<=1000:=by have:=yb5 hq;omega
 have h76:=ydw l b e (λk=>⟨hok,by have:=(sh_few hs.2 k).2;omega⟩) hN
 by_cases hkl:zZ l=0
 .rw [hkl] at h23
  by_cases hkb:zG b=0
  .rw [hkb] at hC;have hlb:lbE l b=0:=zq.2 ⟨hkl,zq.2 ⟨hkb,rfl⟩⟩;rw [ApB,if_pos hlb] at h76;have h77:=ydv l b e hok hkl hkb hN;have hF0:zf [(0:Int),0]=0:=rfl;have sA:=ybO (apP b l e).1 (apP b l e).1 (apP b l e).2 (apP_ok hok hkb hl1 hl2) (λ_=>rfl) apP_0
   have qe:=aI qR (aI @hF0 (aI @za9 (aI @decide_true (aI @decide_false @xam))));repeat' first|refine gC ?_ ?_<;>intro hc<;>try contradiction|refine za h15 ?_|refine zp (λ_=>h75) ?_|refine za h21 ?_|refine za (yaO b hok) ?_|refine za h76 ?_|refine za h26 ?_|refine za h23 ?_|refine za hC ?_|refine za (yr [_,_]) ?_|refine za h77 ?_|refine za sA ?_|refine zp (λ_=>pure1017) ?_|refine gG ?_|show AK _;intro J Z|refine gJ ?_|omega|exact aT
   all_goals exact .refl _
  .have hkb':=eq_false hkb;have hlb:lbE l b=zG b:=by rw [lbE,za2 hkl,zfj]
   rw [ApB,if_neg (by rw [hlb];exact hkb),hlb] at h76
   have hF0:zf [(0:Int),zG b]=zG b:=by rw [za2 rfl,zfj]
   have s0:=same0 (zG b) hkb;have qe:=aI qR (aI @hF0 (aI @hkb' (aI @za9 (aI @decide_true (aI @decide_false @xam)))));repeat' first|refine gC ?_ ?_<;>intro hc<;>try contradiction|refine za h15 ?_|refine zp (λ_=>h75) ?_|refine za h21 ?_|refine za (yaO b hok) ?_|refine za h76 ?_|refine za h26 ?_|refine za h23 ?_|refine za hC ?_|refine za (yr [_,_]) ?_|refine za s0 ?_|refine zp (λ_=>pure1017) ?_|refine gG ?_|show AK _;intro J Z|refine gJ ?_|omega|exact aT
   all_goals exact .refl _
 .have hkl':=eq_false hkl;have hlb:lbE l b=zZ l:=by rw [lbE,za1 hkl]
  rw [ApB,if_neg (by rw [hlb];exact hkl),hlb] at h76
  have hF0:zf [zZ l,zG b]=zZ l:=za1 hkl;have s0:=same0 (zZ l) hkl;have qe:=aI qR (aI @hF0 (aI @hkl' (aI @za9 (aI @decide_true (aI @decide_false @xam)))));repeat' first|refine gC ?_ ?_<;>intro hc<;>try contradiction|refine za h15 ?_|refine zp (λ_=>h75) ?_|refine za h21 ?_|refine za (yaO b hok) ?_|refine za h76 ?_|refine za h26 ?_|refine za h23 ?_|refine za hC ?_|refine za (yr [_,_]) ?_|refine za s0 ?_|refine zp (λ_=>pure1017) ?_|refine gG ?_|show AK _;intro J Z|refine gJ ?_|omega|exact aT
  all_goals exact .refl _
open Go.RowKit Go.Proofs.Tryz Go.ChangeShapes Go.WideShapes Go.ChangeAt
def yb9 (os:Os) (started:os.Started) (H:Type) (enc:TypeId × Value->H):ReturnsInHanded {} Tryz.checked os 3 .any (Rows.tradeEventsSpec.pre6 enc prog f3 Rows.tradeEventsRow.domain false) (Rows.tradeEventsSpec.post enc prog f3 false true false false):=by
 refine returnsInHanded_of_change_shaped (C:=Tryz.checked) own started (by kernel_rfl) func3
  (ChangeSpec.witness6 (enc:=enc) (C:=Tryz.checked) false ⟨#[],#[.slice none 0 0,.agg #[.slice none 0 0,.slice none 0 0],.agg #[vzI,vzS,.slice none 0 0,.slice none 0 0,vzS]],[]⟩ 8 (by kernel_rfl) (by kernel_rfl) (by kernel_rfl) (by kernel_rfl)) ?_
 intro W base args ds gs before hval hW _ hsz _ _;refine ya4 (C:=Tryz.checked) (n:=6) (tb:=4) laid (by kernel_rfl) rfl (λH ds hd=>?_) (by kernel_rfl) und4 (by kernel_rfl) (λps hps=>?_) W base args ds gs before hval hW hsz
 .match ds,hd with
  | [_,_,_],_=>rfl
 .match ps,hps with
  | [a0,a1,a2],⟨h0,h1,h2,_⟩=>
   obtain ⟨l,rfl,hn⟩:=ydY h0;obtain ⟨b,rfl⟩:=fit_bk h1;obtain ⟨e,rfl⟩:=yfd h2;exact ydM l b e hn
def yfl:(Rows.tradeEventsRow.inPlace == prog.inPlace 3)=true:=by kernel_rfl
def yfk:(Rows.tradeEventsRow.unfollowed == prog.unfollowed 3)=true:=by kernel_rfl
def yfj:(Rows.tradeEventsRow.recurses == prog.recurses 3)=true:=by kernel_rfl
def yfi:(Rows.tradeEventsRow.named == prog.varsNamed 3)=true:=by kernel_rfl
def yfh:Tryz.checked.prog.funcNamed Rows.tradeEventsRow.func=some 3:=by kernel_rfl
def yfg:joinedFacts prog 3 f3 Rows.tradeEventsSpec Rows.tradeEventsRow=true:=
 ycF (by as_aux_lemma=>kernel_rfl) laid rowed (by as_aux_lemma=>kernel_rfl) yfl yfk yfj yfi (by as_aux_lemma=>kernel_rfl) (by as_aux_lemma=>kernel_rfl) (by as_aux_lemma=>kernel_rfl) (by as_aux_lemma=>kernel_rfl) (by as_aux_lemma=>kernel_rfl)
def yff:f3.isInstance prog Rows.tradeEventsRow.origin Rows.tradeEventsRow.targs:=of_decide_eq_true (by kernel_rfl)
def yfe:f3.isWrapper prog Rows.tradeEventsRow.wrapper Rows.tradeEventsRow.mainSum:=by
 unfold Func.isWrapper;first|(rw [if_pos (by decide +kernel)];kernel_rfl)|(rw [if_neg (by decide +kernel)];exact ⟨rfl,rfl⟩)
def ybp:Rows.tradeEventsRow.holds Tryz.pinned (OpenSpec.ofChange Rows.tradeEventsSpec):=
 OpenClaim.holds_of_wide 3 f3 rfl rfl rfl rfl rfl rfl rfl ⟨rfl,rfl,rfl,rfl,rfl⟩ rfl rfl rfl rfl rfl yfh func3 yfg yff yfe
  (λos started H enc _=>yb9 os started H enc)
theorem events_proved:Rows.TradeEventsSaid:=ybp
