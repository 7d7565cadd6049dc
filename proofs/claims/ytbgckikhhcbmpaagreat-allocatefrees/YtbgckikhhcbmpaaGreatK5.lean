/- Contracts. No conditions. -/
import Derived.Test.YtbgckikhhcbmpaaGreatK4
set_option linter.all false
set_option maxHeartbeats 8000000
set_option maxRecDepth 100000
namespace Go.Proofs.YtbgckikhhcbmpaaGreat
open Go.RowKit Tryz
variable {b:Brd} {x y:ByteArray} {e:Int} {k:Ky} {l:Lim} {H:List ByteArray} {r:List Int} {ls:List Lim} {P all own:List Mov} {o:Mov} {i:Nat}
abbrev bothC (ls:List Lim) (m:List Mov):Int:=zn [zJ ls,zfi m]
def zU (h:zJ ls=0):ls.length<=32/\∀ l ∈ ls,zr l=0:=by
 unfold zJ at h
 split at h
 ·cases h
 ·refine ⟨by omega,λl hl=>?_⟩
  obtain ⟨i,hi⟩:=xa9 hl;exact (zi.1 (zna h (xae (zaj (f:=zqU ls) hi)))).1
def zdn (ls:List Lim) (i:Int):Int:=match ls[i.toNat]? with|some l=>l.most|none=>0
def ztv (ls:List Lim) (a:Int) (w:Win):Int:=min a (max 0 (zdn ls w.lim - w.cnt))
def roomK (ls:List Lim) (W:List Win):Int:=W.foldl (ztv ls) 999999999
def roomL (ls:List Lim) (m:List Mov) (o:Mov):Int:=roomK ls (arW ls m o)
def fitsB (ls:List Lim) (m:List Mov) (r:Req):Bool:=(zhk r).all λo=>!decide (roomL ls m o < 1)
def cmpW (a b:Wsh):Int:=zn [zi9 a.rank b.rank,zkL a.req.name b.req.name]
def zz3 (b:Bk) (i:Nat) (w:Wsh):Int:=zn [zwM w,if 0<=atL w.req.name (b.slots.map (·.req.name)++(b.wait.take i).map (·.req.name)) then 9 else 0,if 0 < (i:Int)/\cmpW w ((b.wait[i - 1]?).getD w)<=0 then 11 else 0]
def chkBk (b:Bk):Int:=zn [if 64 < (b.slots.length:Int) then 5 else 0,zn (b.slots.mapIdx (zAe b)),if 64 < (b.wait.length:Int) then 5 else 0,zn (b.wait.mapIdx (zz3 b))]
def zwE (e:Int):zn [e]=e:=by by_cases h:e=0<;>simp [zn,h]
def zlL (h:e≠0):zn (e::r)=e:=by simp [zn,h]
def zro (h:e=0):zn (e::r)=zn r:=by simp [zn,h]
theorem zj3:∀ l:List UInt8,Op.bytesLess l l=false
 | []=>by simp [Op.bytesLess]
 | x::r=>by simp [Op.bytesLess,zj3 r]
theorem zl4:∀ x y:List UInt8,Op.bytesLess x y=true->Op.bytesLess y x=false
 | _,[],h=>by simp [Op.bytesLess] at h
 | [],_::_,_=>rfl
 | a::x,b::y,h=>by
  simp only [Op.bytesLess,xbg,xau,decide_eq_true_eq,beq_iff_eq,xbo,Bool.and_eq_false_iff,decide_eq_false_iff_not] at h ⊢;rw [UInt8.lt_iff_toNat_lt] at h ⊢
  rcases h with h|⟨h1,h2⟩
  ·exact ⟨by omega,.inl (by simp only [beq_eq_false_iff_ne];rintro rfl;omega)⟩
  ·subst h1;exact ⟨by omega,.inr (zl4 x y h2)⟩
theorem zzK:∀ x y z:List UInt8,Op.bytesLess x y=false->Op.bytesLess y z=false->Op.bytesLess x z=false
 | _,_,[],_,_=>by simp [Op.bytesLess]
 | [],[],_::_,_,h=>h
 | [],_::_,_::_,h,_=>by simp [Op.bytesLess] at h
 | _::_,[],_::_,_,h=>by simp [Op.bytesLess] at h
 | a::x,b::y,c::z,h,k=>by
  simp only [Op.bytesLess,xbo,Bool.and_eq_false_iff,decide_eq_false_iff_not,beq_eq_false_iff_ne,UInt8.lt_iff_toNat_lt] at h k ⊢;refine ⟨by omega,?_⟩
  by_cases e:a=c
  ·subst e;have e2:a=b:=UInt8.toNat_inj.1 (by omega)
   subst e2;exact .inr (zzK x y z (h.2.resolve_left (by simp)) (k.2.resolve_left (by simp)))
  ·exact .inl e
theorem zwT:∀ x y:List UInt8,Op.bytesLess x y=false->Op.bytesLess y x=false->x=y
 | [],[],_,_=>rfl
 | [],_::_,h,_=>by simp [Op.bytesLess] at h
 | _::_,[],_,h=>by simp [Op.bytesLess] at h
 | a::x,b::y,h,k=>by
  simp only [Op.bytesLess,xbo,Bool.and_eq_false_iff,decide_eq_false_iff_not,beq_eq_false_iff_ne,UInt8.lt_iff_toNat_lt] at h k;have e2:a=b:=UInt8.toNat_inj.1 (by omega)
  subst e2;rw [zwT x y (h.2.resolve_left (by simp)) (k.2.resolve_left (by simp))]
def ba_eq (h:x.toList=y.toList):x=y:=by
 have:=zcu x y;rw [h,beq_self_eq_true] at this;exact of_decide_eq_true this.symm
def zCr (h:Op.bytesLess x.toList y.toList=false) (k:Op.bytesLess y.toList x.toList=false):x=y:=ba_eq (zwT _ _ h k)
def zee:SW zjb where
 asym:=λa b h=>by
  unfold zjb at h ⊢
  by_cases h1:a.moment=b.moment
  ·rw [if_pos h1] at h;rw [if_pos h1.symm]
   by_cases h2:a.kind=b.kind
   ·rw [if_pos h2] at h;rw [if_pos h2.symm];exact zl4 _ _ h
   ·rw [if_neg h2] at h;rw [if_neg (Ne.symm h2)];exact zl4 _ _ h
  ·rw [if_neg h1] at h;rw [if_neg (Ne.symm h1)];simp only [decide_eq_true_eq,decide_eq_false_iff_not] at h ⊢;omega
 nt:=λa b c h k=>by
  have key:∀ x y:Mov,zjb x y=false->y.moment<=x.moment/\(x.moment=y.moment->Op.bytesLess x.kind.toList y.kind.toList=false/\(x.kind=y.kind->Op.bytesLess x.name.toList y.name.toList=false)):=λx y h=>by
   unfold zjb at h
   by_cases h1:x.moment=y.moment
   ·rw [if_pos h1] at h;refine ⟨by omega,λ_=>?_⟩
    by_cases h2:x.kind=y.kind
    ·rw [if_pos h2] at h;exact ⟨by rw [h2];exact zj3 _,λ_=>h⟩
    ·rw [if_neg h2] at h;exact ⟨h,λe=>absurd e h2⟩
   ·rw [if_neg h1] at h;simp only [decide_eq_false_iff_not] at h;exact ⟨by omega,λe=>absurd e h1⟩
  obtain ⟨a1,a2⟩:=key a b h;obtain ⟨b1,b2⟩:=key b c k;unfold zjb
  by_cases h1:a.moment=c.moment
  ·rw [if_pos h1];obtain ⟨a3,a4⟩:=a2 (by omega)
   obtain ⟨b3,b4⟩:=b2 (by omega)
   by_cases h2:a.kind=c.kind
   ·rw [if_pos h2];have e:a.kind=b.kind:=zCr a3 (by rw [h2];exact b3)
    exact zzK _ _ _ (a4 e) (b4 (e.symm.trans h2))
   ·rw [if_neg h2];exact zzK _ _ _ a3 b3
  ·rw [if_neg h1];simp only [decide_eq_false_iff_not];omega
theorem zmZ:∀ l:List UInt8,Op.bytesLess l l=false
 | []=>by simp [Op.bytesLess]
 | x::r=>by simp [Op.bytesLess,zmZ r]
def zgZ (x y:Int):zi9 x y=0↔x=y:=by unfold zi9;(repeat' split)<;>omega
def zgY (x y:Int):zi9 x y < 0↔x < y:=by unfold zi9;(repeat' split)<;>omega
def zwK (x y:ByteArray):zkL x y=0↔x=y:=by
 unfold zkL
 split
 ·rename_i h;refine ⟨λh0=>by omega,λe=>?_⟩
  subst e;rw [zmZ] at h;cases h
 ·split
  ·rename_i h;exact ⟨λ_=>h,λ_=>rfl⟩
  ·rename_i h;exact ⟨λh0=>by omega,λe=>absurd e h⟩
def zrV (x y:ByteArray):zkL x y < 0↔Op.bytesLess x.toList y.toList=true:=by
 unfold zkL
 split
 ·rename_i h;exact ⟨λ_=>h,λ_=>by omega⟩
 ·rename_i h;refine ⟨λh0=>?_,λe=>absurd e h⟩
  split at h0<;>omega
def znj (a b:Mov):zwL a b < 0↔zjb a b=true:=by
 unfold zwL zjb;simp only [zn]
 by_cases h1:a.moment=b.moment
 ·rw [if_pos h1,if_pos ((zgZ _ _).2 h1)]
  by_cases h2:a.kind=b.kind
  ·rw [if_pos h2,if_pos ((zwK _ _).2 h2)]
   by_cases h3:zkL a.name b.name=0
   ·rw [if_pos h3,<-zrV,h3]
   ·rw [if_neg h3];exact zrV _ _
  ·rw [if_neg h2,if_neg (λh=>h2 ((zwK _ _).1 h))];exact zrV _ _
 ·rw [if_neg h1,if_neg (λh=>h1 ((zgZ _ _).1 h)),decide_eq_true_eq];exact zgY _ _
def zi8:bfC zwL=zjb:=by
 funext a b
 show decide (zwL a b < 0)=zjb a b
 by_cases h:zwL a b < 0
 ·rw [decide_eq_true h,(znj a b).1 h]
 ·rw [decide_eq_false h];exact (Bool.eq_false_iff.2 λh2=>h ((znj a b).2 h2)).symm
theorem zr7 (n:ByteArray):∀ l,atL n l < l.length
 | []=>by simp [atL]
 | x::r=>by have:=zr7 n r;simp only [atL,xaz];(repeat' split)<;>omega
def zpA (b:Bk) (n:ByteArray):Slt:=(b.slots[(atL n (b.slots.map (·.req.name))).toNat]?).getD ⟨⟨s0,s0,s0,s0,s0,s0,⟨0,0,0⟩,0,0,0,0⟩,s0,[],[]⟩
theorem zrb {α:Type} (p:α->Bool):∀ l,zdG p l < l.length
 | []=>by simp [zdG]
 | x::r=>by have:=zrb p r;simp only [zdG,xaz];(repeat' split)<;>omega
def zuo (A B:List ByteArray):Pure prog 77 [.sl 1 (A.map .s),.sl 1 (B.map .s)] (.b (decide (A=B))):=by
 refine pz func77 f77.eq_1 λhw X hX=>?_
 simp only [wfs,PV.wf,xaf,maxLen] at hw;refine gF2 (λhc=>?_) λhc=>?_
 ·rw [decide_eq_false (λe=>hc (by rw [e]))];exact .refl _
 have hlen:A.length=B.length:=by omega
 refine zh (κ:=Nat) (λi=>⟨[(0,.p (.sl 1 (A.map .s))),(1,.p (.sl 1 (B.map .s))),(5,.p (.i .i64 i))],[],[],false⟩) (λi=>i<=A.length/\A.take i=B.take i) (λi=>A.length - i) 0 ?_ ?_ ?_
 ·exact sR
 ·simp
 ·intro i hi;refine gH (λhc=>?_) λhc=>?_
  ·obtain ⟨x,hx⟩:=zj (i:=i) (l:=A) (by omega)
   obtain ⟨y,hy⟩:=zj (i:=i) (l:=B) (by omega)
   have qe:=aI @hx @hy;refine gF2 (λhc=>?_) λhc=>?_
   ·rw [decide_eq_false (λe=>hc (by subst e;rw [hx] at hy;injection hy))];exact .refl _
   ·exact ⟨i+1,⟨by omega,by rw [zE hx,zE hy,hi.2,hc]⟩,by omega,by simp⟩
  ·refine gE2 ?_;have e:i=A.length:=by omega
   have h2:=hi.2;rw [e,xah,hlen,xah] at h2;rw [decide_eq_true h2];exact .refl _
def zq7 {α:Type} {lt:α->α->Bool} (hs:SW lt) {L:List α} (h:srt lt L) (x:α):zfC lt L x=insL lt x L:=by
 unfold zfC;generalize hk:zaV lt x L L.length=k;have hkl:=zj7 lt x L L.length;have hge:=zj8 lt x L L.length;have hla:=zgK lt x L L.length;rw [hk] at hkl hge hla
 conv=>rhs;rw [<-xaq k L]
 refine (ziO (λu hu=>?_) λv hv=>?_).symm
 ·cases k with
  | zero=>simp at hu
  | succ k=>
   obtain ⟨z,hz⟩:∃ z,L[k]?=some z:=⟨_,xac (by omega)⟩
   have hb:=hla k z rfl hz;obtain ⟨i,hi⟩:=xa9 hu;have hik:=(xaa.1 hi).1;simp only [xan] at hik;rw [xaQ,if_pos (by omega)] at hi
   by_cases e:i=k
   ·subst e;rw [hz] at hi;cases hi;exact hb
   ·have:=xa1.1 h i k (by omega) (by omega) (by omega)
    rw [xac (by omega)] at hi hz
    rw [xa5 hi,xa5 hz] at this;exact hs.nt _ _ _ hb this
 ·rw [List.head?_drop] at hv;have hlt:=(xaa.1 hv).1;obtain ⟨y,hy,hb⟩:=hge k (xap _) hlt;rw [hv] at hy;cases hy;exact hb
def zd8 {α:Type} {lt:α->α->Bool} (hs:SW lt) (L:List α):L.foldl (zfC lt) []=zcl lt L:=by
 induction L using zgn with
 | h0=>rfl
 | hs L x ih=>rw [xaP,zb9,<-ih];exact zq7 hs (by rw [ih];exact zaU hs L) x
def zhs {α:Type} (c:α->α->Int) (L:List α):(zz c L).Perm L:=zbG (zaJ c) L []
structure Wis where
 req:Req
 ear:Int
 lat:Int
 step:Int
 least:Int
 most:Int
variable {L:List Wis} {a:Wis}
abbrev Wis.cells (w:Wis):List PV:=[.s w.req.name,.s w.req.carrier,.s w.req.kind,.s w.req.term,.s w.req.partner,.s w.req.link,.i .i64 w.req.per.fro,.i .i64 w.req.per.to,.i .i64 w.req.per.days,.i .i64 w.req.minute,.i .i64 w.req.seats,.i .i64 w.req.size,.i .i64 w.req.noise,.i .i64 w.ear,.i .i64 w.lat,.i .i64 w.step,.i .i64 w.least,.i .i64 w.most]
abbrev Wis.pv (w:Wis):PV:=.agg w.cells
structure Res where
 name:ByteArray
 minute:Int
 gr:Bool
abbrev Res.pv (r:Res):PV:=.agg [.s r.name,.i .i64 r.minute,.b r.gr]
theorem zpx {α:Type} {lt:α->α->Prop} (irr:∀ a,¬lt a a) (tr:∀ a b c,lt a b->lt b c->lt a c):∀ {A B:List α},A.Pairwise lt->B.Pairwise lt->(∀ x,x ∈ A↔x ∈ B)->A=B
 | [],[],_,_,_=>rfl
 | [],b::B,_,_,h=>by have:=(h b).2 (by simp);simp at this
 | a::A,[],_,_,h=>by have:=(h a).1 (by simp);simp at this
 | a::A,b::B,hA,hB,h=>by
  obtain ⟨hA1,hA2⟩:=xbF.1 hA;obtain ⟨hB1,hB2⟩:=xbF.1 hB;have e:a=b:=by
   refine xbC λhne=>?_
   have h1:a ∈ B:=((xaI.1 ((h a).1 (by simp))).resolve_left hne)
   have h2:b ∈ A:=((xaI.1 ((h b).2 (by simp))).resolve_left λe=>hne e.symm)
   exact irr a (tr _ _ _ (hA1 b h2) (hB1 a h1))
  subst e;rw [zpx irr tr hA2 hB2 λx=>⟨λhx=>?_,λhx=>?_⟩]
  ·exact ((xaI.1 ((h x).1 (xaH _ hx))).resolve_left λe=>irr a (by have:=hA1 x hx;rw [e] at this;exact this))
  ·exact ((xaI.1 ((h x).2 (xaH _ hx))).resolve_left λe=>irr a (by have:=hB1 x hx;rw [e] at this;exact this))
def zdV (n:Int):Int:=max n (-n)
def cmpC (m a b:Int):Int:=zn [zi9 (zdV (a - m)) (zdV (b - m)),zi9 a b]
def zg2 (m e l s:Int):Nat:=((m - e) / s+(l - m) / s+1).toNat
def zkM (m e l s:Int):List Int:=(List.range (zg2 m e l s)).map λn:Nat=>m - (m - e) / s*s+n*s
def zvF {m l s:Int} (hs:1<=s) (h1:e<=m) (h2:m<=l) {x:Int}:x ∈ zkM m e l s↔e<=x/\x<=l/\∃ k:Int,x=m+k*s:=by
 have p0:0<=(m - e) / s:=xbh (by omega) (by omega)
 have q0:0<=(l - m) / s:=xbh (by omega) (by omega)
 have p1:(m - e) / s*s<=m - e:=Int.ediv_mul_le _ (by omega)
 have p2:m - e < ((m - e) / s+1)*s:=Int.lt_ediv_add_one_mul_self _ (by omega)
 have q1:(l - m) / s*s<=l - m:=Int.ediv_mul_le _ (by omega)
 have q2:l - m < ((l - m) / s+1)*s:=Int.lt_ediv_add_one_mul_self _ (by omega)
 unfold zkM zg2;generalize (m - e) / s=p at *;generalize (l - m) / s=q at *;simp only [xaN,xaG]
 constructor
 ·rintro ⟨n,hn,rfl⟩;have e1:((n:Int) - p)*s=n*s - p*s:=Int.sub_mul ..;have b1:(n:Int)*s<=(p+q)*s:=Int.mul_le_mul_of_nonneg_right (by omega) (by omega)
  have b2:0<=(n:Int)*s:=Int.mul_nonneg (by omega) (by omega)
  rw [Int.add_mul] at b1;exact ⟨by omega,by omega,(n:Int) - p,by rw [e1];omega⟩
 ·rintro ⟨g1,g2,k,rfl⟩;rw [Int.add_mul,Int.one_mul] at p2 q2;have c1:-p<=k:=by
   refine Decidable.byContradiction λhk=>?_
   have:(p+1)*s<=(-k)*s:=Int.mul_le_mul_of_nonneg_right (by omega) (by omega)
   rw [Int.add_mul,Int.one_mul,Int.neg_mul] at this
   omega
  have c2:k<=q:=by
   refine Decidable.byContradiction λhk=>?_
   have:(q+1)*s<=k*s:=Int.mul_le_mul_of_nonneg_right (by omega) (by omega)
   rw [Int.add_mul,Int.one_mul] at this
   omega
  refine ⟨(k+p).toNat,by omega,?_⟩
  rw [xbm (by omega),Int.add_mul];omega
section
variable {α:Type}
end
def zkG (L:List Wis):List ByteArray:=L.map (·.req.name)
def zeH (n:ByteArray) (L:List Wis):Int:=atL n (zkG L)
def zuE (L:List Wis) (w:Wis):Int:=if w.req.link=s0 then -1 else zeH w.req.link L
def zau (L:List Wis) (i:Nat):Int:=match L[i]? with|some w=>zuE L w|none=>-1
def zac (w:Wis):List Int:=zz (cmpC w.req.minute) (zkM w.req.minute w.ear w.lat w.step)
def zfI (w:Wis):Int:=zn [zbY w.req,zfA w.req.carrier,zo6 w.req.partner,zo6 w.req.link,rng w.ear 0 1439,rng w.lat 0 1439,if w.req.minute < w.ear\/w.lat < w.req.minute then 11 else 0,rng w.step 1 120,if 96 < (zg2 w.req.minute w.ear w.lat w.step:Int) then 22 else 0,rng w.least 0 1440,rng w.most 0 1440,if w.most < w.least then 11 else 0]
def zcB (L:List Wis) (i:Nat) (w:Wis):Int:=zn [zfI w,if 0<=zeH w.req.name (L.take i) then 9 else 0]
def zjj (L:List Wis) (i:Nat) (w:Wis):Int:=
 if w.req.link=s0 then 0 else
 match L[(zeH w.req.link L).toNat]? with
 | some o=>if zeH w.req.link L < 0 then 10 else if zeH w.req.link L=i\/o.req.link≠w.req.name\/o.req.kind=w.req.kind\/¬(o.req.per.fro=w.req.per.fro/\o.req.per.to=w.req.per.to/\o.req.per.days=w.req.per.days) then 32 else 0
 | none=>10
def zav (L:List Wis):Int:=if 64 < (L.length:Int) then 5 else zn [zn (L.mapIdx (zcB L)),zn (L.mapIdx (zjj L))]
abbrev Unt:=Int × Int
variable {u:Unt}
def za7 (L:List Wis) (i:Nat):List Unt:=if zau L i < 0\/(i:Int) < zau L i then [((i:Int),zau L i)] else []
def zq (L:List Wis):List Unt:=(List.range L.length).flatMap (za7 L)
abbrev Opt:=Int × Int
def ze8 (a b:Wis) (x y:Int):Bool:=if a.req.kind=sD then decide (b.least<=x - y) && decide (x - y<=b.most) else decide (a.least<=y - x) && decide (y - x<=a.most)
def farO (a b:Wis) (o:Opt):Int:=zdV (o.1 - a.req.minute)+zdV (o.2 - b.req.minute)
def zdS (a b:Wis):List Opt:=(zac a).flatMap λx=>(zac b).flatMap λy=>if ze8 a b x y then [(x,y)] else []
def zpd (a b:Wis) (x y:Opt):Int:=zi9 (farO a b x) (farO a b y)
def zaS (L:List Wis) (u:Unt):List Opt:=match L[u.1.toNat]? with
 | none=>[]
 | some a=>if u.2 < 0 then (zac a).map λm=>(m,-1) else match L[u.2.toNat]? with
  | none=>[]
  | some b=>zz (zpd a b) (zdS a b)
def zl1 (a b:Wis):SW (zaJ (zpd a b)) where
 asym x y h:=by simp only [zaJ,zpd,decide_eq_true_eq,decide_eq_false_iff_not,zgY] at h ⊢;omega
 nt x y z h k:=by simp only [zaJ,zpd,decide_eq_false_iff_not,zgY] at h k ⊢;omega
def SlOk (s:Slt):Prop:=s.ls.length<=1000/\s.sh.length<=1000
def zwW (k n:Nat) (r:List LV):zfF (.row k n::r)=none:=rfl
structure BkOk (b:Bk):Prop where
 s:∀ s ∈ b.slots,SlOk s
 n:b.slots.length<=1000
 w:b.wait.length<=1000
theorem Wkr.set:∀ {ps qs:List PV} (i:Nat) {a c:PV},Wkr ps qs->Wks a.cells c.cells->Wkr (ps.set i a) (qs.set i c)
 | [],[],_,_,_,_,_=>trivial
 | [],_::_,_,_,_,h,_=>h.elim
 | _::_,[],_,_,_,h,_=>h.elim
 | _::_,_::_,0,_,_,h,k=>⟨k,h.2⟩
 | _::_,_::_,i+1,_,_,h,k=>⟨h.1,Wkr.set i h.2 k⟩
def nq:ByteArray:=bs [113]
def toN0:Int.toNat 0=0:=rfl
def lN {α:Type} (r:List α):List.append [] r=r:=rfl
def lC {α:Type} (a:α) (l r:List α):List.append (a::l) r=a::List.append l r:=rfl
def cFb {f:Nat} {fn lit:Func} {x:AC × List RV × Nat} (hf:prog.funcs[f]?=some fn) (he:fn=lit) (h:zoS prog lit=some x:=by
  (conv=>lhs;simp only [qT,qU,cI,cS,cB,cN,cL,cG,cM,zoS,zI,zbt,zcN,zao,zap,zcw,zsv,zkl,zaF,GB,Region.binds,mG,mT,Int.reduceNeg,Int.reduceLE,Nat.reduceLeDiff,Nat.reduceLT,and_self,reduceIte,xcn,Option.map_none,xbN,Option.bind_none,xaz,xbB,xaj,xaF,xb4,List.filterMap_nil,xaL,xaM,xbJ,xbj,xcl,Option.all_some,Option.all_none,decide_true,decide_eq_true_eq,xcu,Option.toList_none,PV.cells,PV.isAgg,Nat.reduceAdd,Nat.reduceMul,Nat.reducePow,reduceCtorEq,Option.isSome_some,xcj,xaD,xb3,List.size_toArray,Array.size_empty,lN,lC])
  try exact rfl) (hn : (fn.name == "runtime.NumGoroutine") = false := by kernel_rfl) : zc7 prog f = some x := by
 subst he
 unfold zc7
 rw [hf]
 show (if _ then _ else _)=_
 rw [hn,if_neg (by simp)]
 exact h
def zfY {α:Type} {f:Nat->α->Int} {l:List α} (h:zn (l.mapIdx f)=0) {x:α} (hx:l[i]?=some x):f i x=0:=fE0 h _ (xae (zaj hx))
def zuz {r:Req} (h:zbY r=0):zfi (zhk r)=0/\(zhk r).length<=401:=by
 have hp:=zaI (zeR h).1;have hl:(zhk r).length<=401:=by
  have:=zeN r.per;simp only [zhk,xaf];omega
 refine ⟨zoT (by omega) (λx hx=>?_) ?_,hl⟩
 ·obtain ⟨d,hd,rfl⟩:=zuA hx;exact zks h hd
 ·unfold zhk;refine (xca).2 ((zlW r.per).imp fun {a b} hab=>?_)
  simp only [zj0];omega
instance decMem (n:ByteArray) (N:List ByteArray):Decidable (n ∈ N):=decidable_of_iff _ (zg5 n N)
def NoD (L:List ByteArray):Prop:=∀ (i j:Nat) (x:ByteArray),L[i]?=some x->L[j]?=some x->i=j
def zBk {f:Nat->ByteArray->Int} (hf:∀ i x,f i x=0->¬0<=atL x (H.take i)) (h:zn (H.mapIdx f)=0):NoD H:=by
 have key:∀ i j x,i < j->H[i]?=some x->H[j]?=some x->False:=λi j x hij hi hj=>by
  have h1:=hf j x (zfY h hj);refine h1 ((zg5 _ _).2 (xae (i:=i) ?_));rw [List.getElem?_take_of_lt hij];exact hi
 intro i j x hi hj
 rcases Nat.lt_trichotomy i j with k|k|k
 ·exact (key i j x k hi hj).elim
 ·exact k
 ·exact (key j i x k hj hi).elim
def zBl (h:NoD H) (hx:H[i]?=some x):¬0<=atL x (H.take i):=λk=>by
 obtain ⟨j,hj⟩:=xbl.1 ((zg5 _ _).1 k);have hlt:j < (H.take i).length:=(xaa.1 hj).1;rw [xan] at hlt;rw [List.getElem?_take_of_lt (by omega)] at hj
 have:=h j i x hj hx
 omega
def zyp (h:NoD H) (hx:H[i]?=some x):atL x H=i:=by
 have:=ziR (λy:ByteArray=>y) x H
 rw [List.map_id'] at this;rw [<-this];refine zbe (λy hy=>decide_eq_false λe=>?_) hx (decide_eq_true rfl)
 have e':y=x:=e;rw [e'] at hy;exact zBl h hx ((zg5 _ _).2 hy)
structure RgOk (b:Bk) (N:List ByteArray) (g:ByteArray->ByteArray):Prop where
 n:NoD N
 k:∀ n ∈ N,¬atL n (b.slots.map (·.req.name)) < 0
 l:∀ n ∈ N,(zpA b n).ls=[]
 h:NoD (N.map g)
 e:∀ n ∈ N,zfA (g n)=0
structure Keeps (b y:Bk):Prop where
 r:y.slots.map (·.req)=b.slots.map (·.req)
 w:y.wait=b.wait
 v:chkBk y=0
abbrev sNm (S:List Slt):List ByteArray:=S.map (·.req.name)
abbrev wNm (W:List Wsh):List ByteArray:=W.map (·.req.name)
structure Vbk (S:List Slt) (W:List Wsh):Prop where
 n:S.length<=64
 s:∀ s ∈ S,zwN s=0
 m:W.length<=64
 w:∀ w ∈ W,zwM w=0
 d:(sNm S++wNm W).Nodup
 o:W.Pairwise (λx y=>cmpW x y < 0)
def zuJ {α:Type} {lt:α->α->Bool} {L:List α}:srt lt L->zcl lt L=L:=by
 induction L using zgn with
 | h0=>intro _;rfl
 | hs L x ih=>
  intro h;obtain ⟨h1,_,h3⟩:=xcq.1 h;rw [zb9,ih h1];have:=ziO (lt:=lt) (x:=x) (U:=L) (V:=[]) (λu hu=>h3 u hu x (by simp)) (by simp)
  rwa [xar] at this
def zlA (A B:List Mov):zhC zjb (zcl zjb A) B=zcl zjb (A++B):=by
 rw [zhC,zd9 zee,zeE zee,zuJ (zaU zee A),<-zeE zee]
def zzo (p:Per):(zaK p).Pairwise (· < ·):=by
 unfold zaK;rw [List.pairwise_flatMap];refine ⟨λk _=>by split<;>simp,?_⟩
 refine List.pairwise_lt_range.imp fun {a b} hab x hx y hy=>?_
 split at hx<;>split at hy<;>simp at hx hy
 omega
def znD (h:zr l=0):(zaq l).Pairwise (· < ·):=by
 have h0:=zaa h;rw [ze0 h,List.pairwise_flatMap];refine ⟨λd _=>?_,?_⟩
 ·unfold zno;rw [xca];refine List.pairwise_lt_range.imp fun {a b} hab=>?_
  simp only [zzP];have:l.step*(l.from_+a)+l.step*1<=l.step*(l.from_+b):=by
   rw [<-Int.mul_add];exact Int.mul_le_mul_of_nonneg_left (by omega) (by omega)
  omega
 ·refine (List.Pairwise.and_mem.1 (zzo l.per)).imp fun {a b} hab x hx y hy=>?_
  have m1:=zaX h (show x ∈ zN l a by rw [zbK h,if_pos hab.1];exact hx)
  have m2:=zaX h (show y ∈ zN l b by rw [zbK h,if_pos hab.2.1];exact hy)
  omega
def zoY (h:zr l=0) (d:Int):(zN l d).Pairwise (· < ·):=by
 have h0:=zaa h;rw [zbK h]
 split
 ·unfold zno;rw [xca];refine List.pairwise_lt_range.imp fun {a b} hab=>?_
  simp only [zzP];have:l.step*(l.from_+a)+l.step*1<=l.step*(l.from_+b):=by
   rw [<-Int.mul_add];exact Int.mul_le_mul_of_nonneg_left (by omega) (by omega)
  omega
 ·exact .nil
def zr4 (h:zr l=0) (d:Int):zr5 l d=zN l d:=by
 have h0:=zaa h;have hp:=zaI h0.2.2.2.2.2.2.2.1;unfold zr5
 by_cases hb:zho l d=true
 ·have hb2:=hb;simp only [zho,xbv,xbo,decide_eq_false_iff_not,xb6] at hb2;have e1:zn [zr l,rng d 0 99999]=0:=zi.2 ⟨h,zi.2 ⟨zdR.2 (by omega),rfl⟩⟩
  rw [zvI,if_pos e1,if_pos hb2.2,if_pos rfl]
 ·have:zN l d=[]:=by rw [zN,if_neg hb]
  rw [this];split<;>rfl
def zkJ (a b:Ky):Prop:=a.1 < b.1\/a.1=b.1/\a.2 < b.2
def ziI (a:Ky):¬zkJ a a:=by unfold zkJ;omega
def zly (a b c:Ky) (h:zkJ a b) (k:zkJ b c):zkJ a c:=by unfold zkJ at *;omega
def zeS (hi:ls[i]?=some l) (h:zr l=0) (d:Int):zja ls (i,d)=zN l d:=by
 unfold zja;simp only [hi,zr4 h]
def zf0 {L:List Int}:k ∈ zfD o i l L↔k.1=i/\k.2 ∈ L/\k.2<=o.moment/\o.moment < k.2+l.len:=by
 unfold zfD;simp only [xaN,xbs,xau,decide_eq_true_eq]
 constructor
 ·rintro ⟨x,⟨h1,h2,h3⟩,rfl⟩;exact ⟨rfl,h1,h2,h3⟩
 ·rintro ⟨h0,h1,h2,h3⟩;exact ⟨k.2,⟨h1,h2,h3⟩,Prod.ext h0.symm rfl⟩
def zf6 (hl:∀ l ∈ ls,zr l=0):k ∈ zsx ls o i↔k.1=i/\∃ l,ls[i]?=some l/\k.2 ∈ zaq l/\inW l k.2 o=true:=by
 unfold zsx;cases hi:ls[i]? with
 | none=>simp
 | some l=>
  have h:=hl l (xae hi);have h0:=zaa h;simp only [xaK]
  by_cases hc:zbI l o.kind o.term=true
  ·rw [if_pos hc,xaw]
   constructor
   ·rintro ⟨e,_,hk⟩;unfold zzR at hk;obtain ⟨h1,h2,h3,h4⟩:=zf0.1 hk;rw [zeS hi h] at h2;exact ⟨h1,l,rfl,zz5 h h2,by simp only [inW,hc,xaZ,xau,decide_eq_true_eq];exact ⟨h3,h4⟩⟩
   ·rintro ⟨h1,l',rfl,h2,h3⟩;simp only [inW,xau,decide_eq_true_eq] at h3;have hd:=zz6 h h2;refine ⟨(k.2 / 1440 - o.moment / 1440+1).toNat,xaG.2 (by omega),?_⟩
    unfold zzR;refine zf0.2 ⟨h1,?_,h3.2.1,h3.2.2⟩;rw [zeS hi h,show o.moment / 1440 - 1+((k.2 / 1440 - o.moment / 1440+1).toNat:Int)=k.2 / 1440 by omega];exact hd
  ·rw [if_neg hc]
   constructor
   ·intro x;cases x
   ·rintro ⟨_,l',rfl,_,h3⟩;simp only [inW,xau] at h3;exact absurd h3.1 hc
def zg6 (hl:∀ l ∈ ls,zr l=0):k ∈ arA ls o↔∃ l,ls[k.1]?=some l/\k.2 ∈ zaq l/\inW l k.2 o=true:=by
 unfold arA;rw [xaw]
 constructor
 ·rintro ⟨i,_,h⟩;obtain ⟨h1,h2⟩:=(zf6 hl).1 h;rw [h1];exact h2
 ·rintro ⟨l,h1,h2⟩;exact ⟨k.1,xaG.2 (xaa.1 h1).1,(zf6 hl).2 ⟨rfl,l,h1,h2⟩⟩
def zzS (hl:∀ l ∈ ls,zr l=0) (o:Mov):(arA ls o).Pairwise zkJ:=by
 unfold arA;rw [List.pairwise_flatMap];refine ⟨λi _=>?_,List.pairwise_lt_range.imp fun {a b} hab x hx y hy=>.inl ?_⟩
 ·unfold zsx;cases hi:ls[i]? with
  | none=>exact .nil
  | some l=>
   have h:=hl l (xae hi);simp only []
   split
   ·rw [List.pairwise_flatMap];refine ⟨λe _=>?_,List.pairwise_lt_range.imp fun {a b} hab x hx y hy=>.inr ?_⟩
    ·unfold zzR zfD;rw [xca,zeS hi h];exact ((zoY h _).filter _).imp λhh=>.inr ⟨rfl,hh⟩
    ·obtain ⟨x1,x2,_⟩:=zf0.1 hx;obtain ⟨y1,y2,_⟩:=zf0.1 hy;rw [zeS hi h] at x2 y2;have:=zaX h x2;have:=zaX h y2
     omega
   ·exact .nil
 ·rw [((zf6 hl).1 hx).1,((zf6 hl).1 hy).1];exact hab
def zkx (hl:∀ l ∈ ls,zr l=0) (o:Mov):(arA ls o).Nodup:=by
 refine List.Pairwise.imp (R:=zkJ) ?_ (zzS hl o);intro a b h e;rw [<-e] at h;exact ziI a h
def zlB (ls:List Lim) (k:Ky):Prop:=∃ l,ls[k.1]?=some l/\k.2 ∈ zaq l
structure zhX (ls:List Lim) (b:Brd):Prop where
 g:GOk ls b.G
 n:(b.C.map (·.1)).Nodup
 w:∀ e ∈ b.C,zlB ls e.1
def znp (ls:List Lim):zhX ls ⟨[],[]⟩:=⟨λk L h=>by simp [ziL] at h,by simp,λe h=>by cases h⟩
theorem ziJ {β:Type} {v:β}:∀ {E:List (Ky × β)} {e:Ky × β},e ∈ zjk k v E->e.1=k\/e ∈ E
 | [],e,h=>by simp [zjk] at h;exact .inl (by rw [h])
 | x::E,e,h=>by
  rw [zjk] at h
  split at h
  ·rcases xaI.1 h with rfl|h
   ·exact .inl rfl
   ·exact .inr (xaH _ h)
  ·rcases xaI.1 h with rfl|h
   ·exact .inr (by simp)
   ·rcases ziJ h with h|h
    ·exact .inl h
    ·exact .inr (xaH _ h)
theorem zhF {β:Type} {v:β}:∀ {E:List (Ky × β)},(E.map (·.1)).Nodup->((zjk k v E).map (·.1)).Nodup
 | [],_=>by simp [zjk]
 | x::E,h=>by
  obtain ⟨h1,h2⟩:=xbR.1 h;rw [zjk]
  split
  ·rename_i e;subst e;exact h
  ·rename_i hne;refine xbR.2 ⟨λhm=>?_,zhF h2⟩
   obtain ⟨e,he,e1⟩:=xaN.1 hm
   rcases ziJ he with hk|hk
   ·exact hne (e1.symm.trans hk)
   ·exact h1 (xaN.2 ⟨e,hk,e1⟩)
theorem zl8 (t:Int) {P:Ky->Prop}:∀ (W:List Ky) (C:List (Ky × Int)),(C.map (·.1)).Nodup->(∀ e ∈ C,P e.1)->(∀ k ∈ W,P k)->((W.foldl (zf8 t) C).map (·.1)).Nodup/\∀ e ∈ W.foldl (zf8 t) C,P e.1
 | [],C,h1,h2,_=>⟨h1,h2⟩
 | k::W,C,h1,h2,h3=>by
  rw [xbn];refine zl8 t W _ (zhF h1) (λe he=>?_) λk hk=>h3 k (xaH _ hk)
  rcases ziJ he with h|h
  ·rw [h];exact h3 k (by simp)
  ·exact h2 e h
def zzU (hl:∀ l ∈ ls,zr l=0) (h:zhX ls b) (o:Mov) (t:Int):zhX ls (zpg ls b o t)/\∀ k,zbh (zpg ls b o t).C k=zbh b.C k+if k ∈ arA ls o then t else 0:=by
 obtain ⟨a1,a2⟩:=znr h.g o;have q:=zl8 t (P:=zlB ls) (arA ls o) b.C h.n h.w λk hk=>by
  obtain ⟨l,h1,h2,_⟩:=(zg6 hl).1 hk;exact ⟨l,h1,h2⟩
 refine ⟨⟨a2,?_,?_⟩,λk=>?_⟩
 ·unfold zpg;rw [a1];exact q.1
 ·unfold zpg;rw [a1];exact q.2
 ·unfold zpg;rw [a1];exact zi6 t k _ _ (zkx hl o)
def zy (ls:List Lim) (b:Brd) (own:List Mov) (t:Int):Brd:=own.foldl (λb o=>zpg ls b o t) b
def ovr (ls:List Lim) (b:Brd) (k:Ky):Bool:=decide (zdn ls k.1 < zbh b.C k)
def zvy (ls:List Lim) (st:List Ky × Brd) (o:Mov):List Ky × Brd:=(st.1++(arn ls st.2.G o).1.filter (ovr ls st.2),⟨st.2.C,(arn ls st.2.G o).2⟩)
def zzx (ls:List Lim) (b:Brd) (own:List Mov):List Ky × Brd:=own.foldl (zvy ls) ([],b)
def rfL (ls:List Lim) (b:Brd) (own:List Mov):List Ky:=(zzx ls (zy ls b own 1) own).1
def rfB (ls:List Lim) (b:Brd) (own:List Mov):Brd:=zy ls (zzx ls (zy ls b own 1) own).2 own (-1)
def zm6 (ls:List Lim) (own:List Mov) (k:Ky):Nat:=(own.filter λo=>decide (k ∈ arA ls o)).length
def zre (ls:List Lim) (o:Mov) (own:List Mov) (k:Ky):(zm6 ls (o::own) k:Int)=zm6 ls own k+if k ∈ arA ls o then 1 else 0:=by
 unfold zm6;rw [xa2]
 by_cases h:k ∈ arA ls o
 ·simp [h]
 ·simp [h]
theorem zcP (hl:∀ l ∈ ls,zr l=0) (t:Int):∀ (own:List Mov) (b:Brd),zhX ls b->zhX ls (zy ls b own t)/\∀ k,zbh (zy ls b own t).C k=zbh b.C k+t*zm6 ls own k
 | [],b,h=>⟨h,λk=>by simp [zy,zm6]⟩
 | o::own,b,h=>by
  obtain ⟨h1,h2⟩:=zzU hl h o t;obtain ⟨h3,h4⟩:=zcP hl t own _ h1;refine ⟨h3,λk=>?_⟩
  rw [show zy ls b (o::own) t=zy ls (zpg ls b o t) own t from rfl,h4,h2,zre,Int.mul_add]
  split<;>omega
theorem zl0:∀ (own:List Mov) (st:List Ky × Brd),zhX ls st.2->zhX ls (own.foldl (zvy ls) st).2/\(own.foldl (zvy ls) st).2.C=st.2.C/\(own.foldl (zvy ls) st).1=st.1++own.flatMap λo=>(arA ls o).filter λk=>decide (zdn ls k.1 < zbh st.2.C k)
 | [],st,h=>⟨h,rfl,by simp⟩
 | o::own,st,h=>by
  obtain ⟨a1,a2⟩:=znr h.g o;obtain ⟨h1,h2,h3⟩:=zl0 own (zvy ls st o) ⟨a2,h.n,h.w⟩;refine ⟨h1,h2,?_⟩;rw [xbn,h3,xat,<-xak]
  congr 1
  show st.1++_=_;rw [a1];rfl
def zwk (hl:∀ l ∈ ls,zr l=0) (h:zhX ls b) (own:List Mov):zhX ls (rfB ls b own)/\∀ k,zbh (rfB ls b own).C k=zbh b.C k:=by
 obtain ⟨h1,h2⟩:=zcP hl 1 own b h;obtain ⟨h3,h4,_⟩:=zl0 own ([],zy ls b own 1) h1;obtain ⟨h5,h6⟩:=zcP hl (-1) own _ h3;refine ⟨h5,λk=>?_⟩
 show zbh (zy ls (own.foldl (zvy ls) ([],zy ls b own 1)).2 own (-1)).C k=_;rw [h6 k,h4];show zbh (zy ls b own 1).C k+_=_;rw [h2 k];omega
def zxJ (hl:∀ l ∈ ls,zr l=0) (h:zhX ls b) (own:List Mov) (k:Ky):k ∈ rfL ls b own↔(∃ o ∈ own,k ∈ arA ls o)/\zdn ls k.1 < zbh b.C k+zm6 ls own k:=by
 obtain ⟨h1,h2⟩:=zcP hl 1 own b h;obtain ⟨_,_,h5⟩:=zl0 own ([],zy ls b own 1) h1;unfold rfL zzx;rw [h5,xaL];simp only [xaw,xbs,decide_eq_true_eq,h2,Int.one_mul]
 constructor
 ·rintro ⟨o,h3,h4,h5⟩;exact ⟨⟨o,h3,h4⟩,h5⟩
 ·rintro ⟨⟨o,h3,h4⟩,h5⟩;exact ⟨o,h3,h4,h5⟩
def zeV (ls:List Lim) (b:Brd) (P:List Mov):Prop:=zhX ls b/\∀ (k:Ky) (l:Lim),ls[k.1]?=some l->k.2 ∈ zaq l->zbh b.C k=zbb l P k.2
def ziS (hl:∀ l ∈ ls,zr l=0) (h1:ls[k.1]?=some l) (h2:k.2 ∈ zaq l) (own:List Mov):(zm6 ls own k:Int)=zbb l own k.2:=by
 have h0:=zaa (hl l (xae h1));rw [zbJ (by omega),zm6]
 congr 2
 refine List.filter_congr λo _=>?_
 by_cases h:inW l k.2 o=true
 ·rw [h];exact decide_eq_true ((zg6 hl).2 ⟨l,h1,h2,h⟩)
 ·rw [xbq] at h;rw [h];refine decide_eq_false λhm=>?_
  obtain ⟨l',e1,_,e2⟩:=(zg6 hl).1 hm;rw [h1] at e1;rw [<-xa5 e1,h] at e2;cases e2
def znq (ls:List Lim):zeV ls ⟨[],[]⟩ []:=⟨znp ls,λk l _ _=>by simp [zbh,ziL,zbb,cntW,ofL,ltN]⟩
def zsf (hl:∀ l ∈ ls,zr l=0) (h:zeV ls b P) (own:List Mov):zeV ls (zy ls b own 1) (P++own):=by
 obtain ⟨h1,h2⟩:=zcP hl 1 own b h.1;refine ⟨h1,λk l k1 k2=>?_⟩
 have h0:=zaa (hl l (xae k1));rw [h2,h.2 k l k1 k2,zrR (by omega),ziS hl k1 k2,Int.one_mul]
def zjF (hl:∀ l ∈ ls,zr l=0) (h:zeV ls b P) (own:List Mov):zeV ls (rfB ls b own) P:=by
 obtain ⟨h1,h2⟩:=zwk hl h.1 own;exact ⟨h1,λk l k1 k2=>by rw [h2,h.2 k l k1 k2]⟩
def zim (hl:∀ l ∈ ls,zr l=0) {Q:List Mov} (h:zeV ls b P) (hp:P.Perm Q):zeV ls b Q:=⟨h.1,λk l k1 k2=>by
 have h0:=zaa (hl l (xae k1));rw [h.2 k l k1 k2,zng (by omega) hp]⟩
def xrB (ls:List Lim) (all own:List Mov) (l:Lim) (x:Int):Bool:=decide (l.most < zbb l all x) && decide (0 < zbb l own x)
def xrI (ls:List Lim) (all own:List Mov) (i:Nat):List Ky:=match ls[i]? with
 | some l=>((zaq l).filter (xrB ls all own l)).map λx=>(i,x)
 | none=>[]
def xrW (ls:List Lim) (all own:List Mov):List Ky:=(List.range ls.length).flatMap (xrI ls all own)
def zhZ:k ∈ xrI ls all own i↔k.1=i/\∃ l,ls[i]?=some l/\k.2 ∈ zaq l/\l.most < zbb l all k.2/\0 < zbb l own k.2:=by
 unfold xrI;cases hi:ls[i]? with
 | none=>simp
 | some l=>
  simp only [xaN,xbs,xrB,xau,decide_eq_true_eq,xaK]
  constructor
  ·rintro ⟨x,⟨h1,h2,h3⟩,rfl⟩;exact ⟨rfl,l,rfl,h1,h2,h3⟩
  ·rintro ⟨h0,l',rfl,h1,h2,h3⟩;exact ⟨k.2,⟨h1,h2,h3⟩,Prod.ext h0.symm rfl⟩
def zhY:k ∈ xrW ls all own↔∃ l,ls[k.1]?=some l/\k.2 ∈ zaq l/\l.most < zbb l all k.2/\0 < zbb l own k.2:=by
 unfold xrW;rw [xaw]
 constructor
 ·rintro ⟨i,_,h⟩;obtain ⟨h1,h2⟩:=zhZ.1 h;rw [h1];exact h2
 ·rintro ⟨l,h1,h2⟩;exact ⟨k.1,xaG.2 (xaa.1 h1).1,zhZ.2 ⟨rfl,l,h1,h2⟩⟩
def zph (hl:∀ l ∈ ls,zr l=0) (all own:List Mov):(xrW ls all own).Pairwise zkJ:=by
 unfold xrW;rw [List.pairwise_flatMap];refine ⟨λi _=>?_,List.pairwise_lt_range.imp fun {a b} hab x hx y hy=>.inl ?_⟩
 ·unfold xrI;cases hi:ls[i]? with
  | none=>exact .nil
  | some l=>
   simp only [];rw [xca];exact ((znD (hl l (xae hi))).filter _).imp λhh=>.inr ⟨rfl,hh⟩
 ·rw [(zhZ.1 hx).1,(zhZ.1 hy).1];exact hab
def rf_eq (hl:∀ l ∈ ls,zr l=0) (h:zeV ls b P) (hp:all.Perm (P++own)) {W:List Ky} (hs:W.Pairwise zkJ) (hm:∀ k,k ∈ W↔k ∈ rfL ls b own):W=xrW ls all own:=by
 refine zpx ziI zly hs (zph hl _ _) λk=>?_
 rw [hm,zxJ hl h.1,zhY];have key:∀ l,ls[k.1]?=some l->k.2 ∈ zaq l->zbh b.C k+(zm6 ls own k:Int)=zbb l all k.2/\zdn ls k.1=l.most/\(zm6 ls own k:Int)=zbb l own k.2:=λl k1 k2=>by
  have h0:=zaa (hl l (xae k1));refine ⟨?_,?_,ziS hl k1 k2 own⟩
  ·rw [h.2 k l k1 k2,ziS hl k1 k2,zng (by omega) hp,zrR (by omega)]
  ·simp only [zdn,xam,k1]
 constructor
 ·rintro ⟨⟨o,ho,hk⟩,hx⟩;obtain ⟨l,k1,k2,k3⟩:=(zg6 hl).1 hk;obtain ⟨e1,e2,e3⟩:=key l k1 k2;refine ⟨l,k1,k2,by omega,?_⟩
  have:0 < zm6 ls own k:=List.length_pos_of_mem (xbs.2 ⟨ho,decide_eq_true hk⟩)
  omega
 ·rintro ⟨l,k1,k2,k3,k4⟩;obtain ⟨e1,e2,e3⟩:=key l k1 k2;have:0 < zm6 ls own k:=by omega
  obtain ⟨o,ho⟩:=List.exists_mem_of_length_pos this;obtain ⟨o1,o2⟩:=xbs.1 ho;exact ⟨⟨o,o1,of_decide_eq_true o2⟩,by omega⟩
def zbu {α:Type} [DecidableEq α]:List α->List α
 | []=>[]
 | [a]=>[a]
 | a::b::r=>if a=b then zbu (b::r) else a::zbu (b::r)
theorem zeQ {α:Type} [DecidableEq α] {x:α}:∀ {L:List α},x ∈ zbu L↔x ∈ L
 | []=>Iff.rfl
 | [a]=>Iff.rfl
 | a::b::r=>by
  have ih:=zeQ (x:=x) (L:=b::r);rw [zbu]
  split
  ·rename_i e;rw [ih,e];simp
  ·rw [xaI,ih,xaI (a:=x) (b:=a)]
theorem zkr {α:Type} [DecidableEq α] {lt:α->α->Prop} (tr:∀ a b c,lt a b->lt b c->lt a c):∀ {L:List α},L.Pairwise (λa b=>a=b\/lt a b)->(zbu L).Pairwise lt
 | [],_=>.nil
 | [a],_=>by simp [zbu]
 | a::b::r,h=>by
  obtain ⟨h1,h2⟩:=xbF.1 h;have ih:=zkr tr h2;rw [zbu]
  split
  ·exact ih
  ·rename_i hne;refine xbF.2 ⟨λx hx=>?_,ih⟩
   have hab:lt a b:=(h1 b (by simp)).resolve_left hne
   rcases xaI.1 (zeQ.1 hx) with rfl|hx
   ·exact hab
   ·rcases (xbF.1 h2).1 x hx with rfl|hlt
    ·exact hab
    ·exact tr _ _ _ hab hlt
def zxI (hl:∀ l ∈ ls,zr l=0) (h:zeV ls b P) (hp:all.Perm (P++own)) {S:List Ky} (hs:S.Pairwise λa b=>a=b\/zkJ a b) (hm:S.Perm (rfL ls b own)):zbu S=xrW ls all own:=
 rf_eq hl h hp (zkr zly hs) λk=>by rw [zeQ,hm.mem_iff]
def exB (ls:List Lim) (b:Brd):Bool:=b.C.any λe=>decide (zdn ls e.1.1 < e.2)
def zR (h:zav L=0):L.length<=64/\(∀ (i:Nat) (w:Wis),L[i]?=some w->zcB L i w=0/\zjj L i w=0):=by
 unfold zav at h
 split at h
 ·cases h
 ·rename_i hn;obtain ⟨h1,h2⟩:=zi.1 h;obtain ⟨h2,_⟩:=zi.1 h2;exact ⟨by omega,λi w hi=>⟨zfY h1 hi,zfY h2 hi⟩⟩
def zz4 (h:zav L=0):NoD (zkG L):=by
 obtain ⟨hn,h⟩:=zR h;refine zBk (f:=λi x=>if 0<=atL x ((zkG L).take i) then 9 else 0) (λi x e k=>by rw [if_pos k] at e;cases e) ?_
 refine zhI λe he=>?_
 obtain ⟨i,hi⟩:=xbl.1 he;rw [xcp] at hi;unfold zkG at hi;rw [xal] at hi;cases hw:L[i]? with
 | none=>rw [hw] at hi;cases hi
 | some w=>
  rw [hw] at hi;have:=(h i w hw).1;unfold zcB at this;obtain ⟨_,this⟩:=zi.1 this;obtain ⟨this,_⟩:=zi.1 this;have hi:(if 0<=atL w.req.name ((zkG L).take i) then (9:Int) else 0)=e:=xa5 hi
  rw [<-hi];unfold zeH zkG at this;unfold zkG;rw [<-xbK];exact this
def zrj (h:zav L=0) {w:Wis} (hw:L[i]?=some w):zeH w.req.name L=i:=zyp (zz4 h) (by unfold zkG;rw [xal,hw];rfl)
structure LnkTo (L:List Wis) (i k:Nat) (a b:Wis):Prop where
 at_a:L[i]?=some a
 at_b:L[k]?=some b
 ne:k≠i
 lab:zau L i=k
 lba:zau L k=i
 kind:b.req.kind≠a.req.kind
 per:b.req.per=a.req.per
def zcH (h:zav L=0) (ha:L[i]?=some a):zau L i=-1\/∃ k b,LnkTo L i k a b:=by
 have he:=((zR h).2 i a ha).2;unfold zjj at he
 by_cases hs:a.req.link=s0
 ·left;unfold zau zuE;rw [ha];simp only [if_pos hs]
 ·right
  rw [if_neg hs] at he;cases hk:L[(zeH a.req.link L).toNat]? with
  | none=>rw [hk] at he;cases he
  | some b=>
   rw [hk] at he;simp only at he
   split at he
   ·cases he
   ·rename_i h0
    split at he
    ·cases he
    ·rename_i hn;simp only [not_or,Decidable.not_not] at hn;obtain ⟨n1,n2,n3,n4,n5,n6⟩:=hn;have e1:zau L i=((zeH a.req.link L).toNat:Nat):=by
      unfold zau zuE;rw [ha];simp only [if_neg hs];omega
     refine ⟨(zeH a.req.link L).toNat,b,ha,hk,by omega,e1,?_,n3,?_⟩
     ·have hna:a.req.name≠s0:=by
       have:=((zR h).2 i a ha).1;unfold zcB zfI zbY at this;have hq:=(zi.1 (zi.1 (zi.1 this).1).1).1;intro e;rw [e] at hq
       revert hq
       decide
      unfold zau zuE;rw [hk];simp only;rw [n2,if_neg hna,zrj h ha]
     ·cases hb:b.req.per with|mk p q r=>cases hc:a.req.per with|mk p' q' r'=>
       rw [hb,hc] at n4 n5 n6;simp only at n4 n5 n6;rw [n4,n5,n6]
def zY (L:List Wis) (i:Nat):Nat:=if 0<=zau L i/\zau L i < i then (zau L i).toNat else i
def zgf:u ∈ za7 L i↔u=((i:Int),zau L i)/\(zau L i < 0\/(i:Int) < zau L i):=by
 unfold za7
 split
 ·rename_i h;simp [h]
 ·rename_i h;simp [h]
def zdd:u ∈ zq L↔∃ i:Nat,i < L.length/\u=((i:Int),zau L i)/\(zau L i < 0\/(i:Int) < zau L i):=by
 unfold zq;simp only [xaw,xaG,zgf]
def zjs (L:List Wis):(zq L).Pairwise λu v=>u.1 < v.1:=by
 unfold zq;rw [List.pairwise_flatMap];refine ⟨λi _=>by unfold za7;split<;>simp,List.pairwise_lt_range.imp fun {a b} hab x hx y hy=>?_⟩
 rw [(zgf.1 hx).1,(zgf.1 hy).1];show (a:Int) < b
 omega
def zj4 (h:zau L i < 0\/(i:Int) < zau L i):zY L i=i:=by unfold zY;rw [if_neg (by omega)]
def zqW {k:Nat} {b:Wis} (h:LnkTo L i k a b) (hik:i < k):zY L k=i:=by
 unfold zY;rw [if_pos (by rw [h.lba];omega),h.lba];rfl
end Go.Proofs.YtbgckikhhcbmpaaGreat
