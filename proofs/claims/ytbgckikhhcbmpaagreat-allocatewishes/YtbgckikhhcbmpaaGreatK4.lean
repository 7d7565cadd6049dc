/- Contracts of functions, for the claim. No conditions. -/
import Derived.Test.YtbgckikhhcbmpaaGreatK3
set_option linter.all false
set_option maxHeartbeats 8000000
set_option maxRecDepth 100000
namespace Go.Proofs.YtbgckikhhcbmpaaGreat
open Go.RowKit Tryz
def zna {l:List Int} (h:zn l=0) {x:Int} (hx:x ∈ l):x=0:=by
 induction l with
 | nil=>cases hx
 | cons e r ih=>
  obtain ⟨h1,h2⟩:=zi.1 h
  rcases xaF.1 hx with h|h
  ·rw [h];exact h1
  ·exact ih h2 h
def zkU {l:List Int} (h:∀ (i:Nat) (x y:Int),l[i]?=some x->l[i+1]?=some y->x<=y):l.Pairwise (·<=·):=by
 refine xaZ.2 λi j hi hj hij=>?_
 obtain ⟨k,rfl⟩:∃ k,j=i+1+k:=⟨j - i - 1,by omega⟩
 clear hij
 induction k with
 | zero=>exact h i _ _ (xac hi) (xac hj)
 | succ k ih=>exact Int.le_trans (ih (by omega)) (h (i+1+k) _ _ (xac (by omega)) (xac hj))
def zrW {m:List Mov} (h:zfi m=0):m.length<=30000/\(∀ x ∈ m,zhS x=0)/\(m.map Mov.moment).Pairwise (·<=·):=by
 unfold zfi at h
 split at h
 ·cases h
 ·have key:∀ (i:Nat) (x:Mov),m[i]?=some x->zwx m i x=0:=λi x hx=>zna h (xae (zaj hx))
  refine ⟨by omega,λx hx=>?_,zkU λi x y hx hy=>?_⟩
  ·obtain ⟨i,hi⟩:=xa8 hx;exact (zi.1 (key i x hi)).1
  ·simp only [xal,xab] at hx hy;obtain ⟨a,ha,rfl⟩:=hx;obtain ⟨b,hb,rfl⟩:=hy;have h1:=(zi.1 (zi.1 (key (i+1) b hb)).2).1;simp only [xcf,ha,xa1] at h1;rw [ziN (by decide)] at h1
   omega
def zl5 {l:Lim} (h:zr l=0) (d:Int):(zN l d).length<=1440:=by
 have hl:=zaa h;have h1:0<=l.from_:=xbe (by omega) (by omega)
 have h2:l.to / l.step<=l.to:=xbq _ (by omega)
 unfold zN zno zkw
 split
 ·simp;omega
 ·simp
def zyb {f:Nat} {caps:List PV} {L:List Int} (hit:zsz prog f caps (L.map zwf)) (hn:L.length<=1000000):Pure prog 285 [.nilsl,.fn (.func f) [] caps] (.sl 1 (L.map (.i .i64))):=by
 refine pz func285 f285.eq_1 λhw X hX=>?_
 repeat' first|refine gC ?_ ?_<;>intro hc<;>try contradiction|refine gG ?_|show AK _;intro J Z|refine gJ ?_|omega|exact aT
 refine zaB 100 3 1 [(2,.lp 2 0),(6,.p (.fn (.func f) [] caps))] [(2,.box [.row 100 0] false)] ?_ ?_
 ·simp only [Own,za9,za3,zcg,zaT,qS,seval]
 refine zcb rfl hit ?_ ?_ [(2,.lp 2 0),(6,.p (.fn (.func f) [] caps))] (λk=>[(2,.box [.row 100 k] false),(100,.row 3 1 ((L.take k).map (.i .i64)) false)]) (λ_=>[]) ?_ ?_ ?_
 ·simp
 ·simp [hX]
 ·exact sE
 ·intro k t ht X' ro' hX';simp only [xal,xab] at ht;obtain ⟨d,hd,rfl⟩:=ht;have hl:=zfJ hd;have hk:=(xaa.1 hd).1;simp only [qS,seval]
  repeat' first|refine gC ?_ ?_<;>intro hc<;>try contradiction|refine gG ?_|show AK _;intro J Z|refine gJ ?_|omega|exact aT
  intro X1 hX1;have qe:=aI qR (aI @hl (zej (PV.i .i64) hd));repeat' first|refine gC ?_ ?_<;>intro hc<;>try contradiction|refine gG ?_|show AK _;intro J Z|refine gJ ?_|omega|exact aT
 ·simp only [xaf];have qe:=@List.take_length.{0};exact gD0
def zA0 {f:Nat} {caps:List PV} {L:List Int} (hit:zsz prog f caps (L.map zwf)) (hn:L.length<=1000000):Pure prog 253 [.fn (.func f) [] caps] (.sl 1 (L.map (.i .i64))):=by
 refine pz func253 f253.eq_1 λhw X hX=>?_
 have jA:=zyb hit hn;exact gD2
def zvI (l:Lim) (d:Int):Int:=if zn [zr l,rng d 0 99999]=0 then (if zm8 l.per d=true then 0 else 30) else zn [zr l,rng d 0 99999]
def zr5 (l:Lim) (d:Int):List Int:=if zvI l d=0 then zN l d else []
def zwq (l:Lim) (d:Int):Pure prog 213 [l.pv,.i .i64 d] (.tup [.sl 1 ((zr5 l d).map (.i .i64)),.i .i64 (zvI l d)]):=by
 refine pz func213 f213.eq_1 λhw X hX=>?_
 have qe:=@qR;repeat' first|refine gC ?_ ?_<;>intro hc<;>try contradiction|refine za (zwp l) ?_|refine za (zgt _ _ _) ?_|refine za (zfr [_,_]) ?_|refine gG ?_|show AK _;intro J Z|refine gJ ?_|omega|exact aT
 ·have he:zvI l d=zn [zr l,rng d 0 99999]:=by rw [zvI,if_neg hc]
  rw [zr5,he,if_neg hc];exact zdc (.nilsl _) (.refl _)
 ·have h0:=hc;have h1:=hc;simp only [zi,zdR] at h1
  repeat' first|refine gC ?_ ?_<;>intro hc<;>try contradiction|refine za (zwo l d) ?_|refine za (zAZ l d) ?_|refine za (zA0 (zyD l d h1.1) (xaY (zl5 h1.1 d) (by decide))) ?_|refine gG ?_|show AK _;intro J Z|refine gJ ?_|omega|exact aT
  ·have he:zvI l d=30:=by rw [zvI,if_pos h0,if_neg (by rw [hc];decide)]
   rw [zr5,he,if_neg (by decide)];exact zdc (.nilsl _) (.refl _)
  ·have he:zvI l d=0:=by rw [zvI,if_pos h0,if_pos hc]
   rw [zr5,he,if_pos rfl];exact .refl _
def zaX {l:Lim} (h:zr l=0) {d b:Int} (hb:b ∈ zN l d):1440*d<=b/\b<=1440*d+1439/\l.per.fro<=d/\d<=l.per.to:=by
 have hl:=zaa h;unfold zN zno at hb
 split at hb
 ·rename_i ho;simp only [zho,xbs,xbn,decide_eq_false_iff_not] at ho;obtain ⟨n,hn,rfl⟩:=xaM.1 hb;have:=zkv h (xaQ.1 hn);unfold zzP
  omega
 ·cases hb
def zbb (l:Lim) (m:List Mov) (b:Int):Int:=cntW (ofL l m) b l.len
abbrev bothC (ls:List Lim) (m:List Mov):Int:=zn [zJ ls,zfi m]
def zU {ls:List Lim} (h:zJ ls=0):ls.length<=32/\∀ l ∈ ls,zr l=0:=by
 unfold zJ at h
 split at h
 ·cases h
 ·refine ⟨by omega,λl hl=>?_⟩
  obtain ⟨i,hi⟩:=xa8 hl;exact (zi.1 (zna h (xae (zaj (f:=zqU ls) hi)))).1
def Pure.args {P:Program} {f:FuncId} {args args':List PV} {r:PV} (h:Pure P f args r) (hl:args'.length=args.length) (hw:∀ (j:Nat) (x y:PV),args'[j]?=some x->args[j]?=some y->Weak x y):Pure P f args' r:=
 ⟨h.1,λw B vs hB hr=>h.2 w B vs hB ⟨hr.1.trans hl,λj v p hv hp=>by
  have hj:j < args'.length:=by rw [hl];exact (xaa.1 hp).1
  exact (hw j _ p (xac hj) hp).rep (hr.2 j v _ hv (xac hj))⟩⟩
def zbR (x:ByteArray):(decide (x=x))=true:=decide_eq_true rfl
def zio (x:Int):(x=x)=True:=eq_true rfl
def zeB (x:ByteArray):(x=x)=True:=eq_true rfl
def zA4 (l:List Int):Pure prog 44 [.sl 1 (l.map (.i .i64)),.sl 1 (l.map (.i .i64))] (.b true):=by
 refine pz func44 f44.eq_1 λhw X hX=>?_
 simp only [wfs,PV.wf,xaf,maxLen] at hw;have qe:=aI @zb2 (aI @zbR (aI @zio @zeB));repeat' first|refine gC ?_ ?_<;>intro hc<;>try contradiction|refine gG ?_|show AK _;intro J Z|refine gJ ?_|omega|exact aT
 refine zh (κ:=Nat) (λi=>⟨[(0,.p (.sl 1 (l.map (.i .i64)))),(1,.p (.sl 1 (l.map (.i .i64)))),(5,.p (.i .i64 i))],[],[],false⟩) (λi=>i<=l.length) (λi=>l.length - i) 0 ?_ ?_ ?_
 ·exact sR
 ·simp
 ·intro i hi
  repeat first|refine gG ?_|show AK _;intro J Z|refine gJ ?_|omega|exact aT
  (refine gC ?_ ?_<;>intro hc<;>try contradiction)
  ·obtain ⟨x,hx⟩:=zj (i:=i) (l:=l) (by omega)
   have qe:=aI @hx (aI @zb2 (aI @zbR (aI @zio @zeB)));repeat' first|refine gC ?_ ?_<;>intro hc<;>try contradiction|refine gG ?_|show AK _;intro J Z|refine gJ ?_|omega|exact aT
   exact ⟨i+1,by omega,by omega,by simp⟩
  ·exact gD0
def zeM {p:Per} {d:Int} (h:d ∈ zaK p):p.fro<=d/\d<=p.to/\inM p.days ((d+5) % 7)=true:=by
 obtain ⟨k,hk,hd⟩:=xaz.1 h
 split at hd
 ·simp at hd;subst hd;have:=xaQ.1 hk;exact ⟨by omega,by omega,by assumption⟩
 ·cases hd
def zka {p:Per} (h:zbx p=0) (d:Int):zm8 p d=decide (d ∈ zaK p):=by
 have hp:=zaI h
 by_cases hm:d ∈ zaK p
 ·have:=zeM hm;rw [decide_eq_true hm];have he:zrg p d=0:=by rw [zrg];simp only [zi,zdR];exact ⟨by assumption,⟨by omega,by omega⟩,rfl⟩
  simp [zm8,he,zBv,this]
 ·rw [decide_eq_false hm];cases hb:zm8 p d
  ·rfl
  ·exfalso;apply hm
   simp only [zm8,zBv,xaB,decide_eq_true_eq] at hb;refine xaz.2 ⟨(d - p.fro).toNat,xaQ.2 (by omega),?_⟩
   rw [xbl (by omega),show p.fro+(d - p.fro)=d by omega,if_pos hb.2.2]
   simp
theorem zcK {α β:Type} {f g:α->List β}:∀ {l:List α},(∀ x ∈ l,f x=g x)->l.flatMap f=l.flatMap g
 | [],_=>rfl
 | x::r,h=>by rw [xas,xas,h x (by simp),zcK λy hy=>h y (by simp [hy])]
def zbK {l:Lim} (h:zr l=0) (d:Int):zN l d=if d ∈ zaK l.per then zno l d (zkw l) else []:=by
 have hl:=zaa h;have hb:=zka hl.2.2.2.2.2.2.2.1 d
 by_cases hm:d ∈ zaK l.per
 ·have hd:=zeM hm;rw [zN,if_pos hm,if_pos];rw [decide_eq_true hm] at hb;simp only [zho,hb,xaU,Bool.or_false,xbs,xbn,decide_eq_false_iff_not];omega
 ·rw [zN,if_neg hm,if_neg];rw [decide_eq_false hm] at hb;simp [zho,hb]
def ze0 {l:Lim} (h:zr l=0):zaq l=(zaK l.per).flatMap λd=>zno l d (zkw l):=by
 have hl:=zaa h;have hp:=hl.2.2.2.2.2.2.2.1;unfold zaq winK winN zaK;rw [List.flatMap_assoc];refine zcK λk hk=>?_
 have hk:=xaQ.1 hk;rw [zbK h];have hb:=zka hp (l.per.fro+k);have hpp:=zaI hp;have he:zrg l.per (l.per.fro+k)=0:=by rw [zrg];simp only [zi,zdR];exact ⟨by assumption,⟨by omega,by omega⟩,rfl⟩
 have hi:zm8 l.per (l.per.fro+k)=inM l.per.days ((l.per.fro+k+5) % 7):=by
  simp only [zm8,he,zBv,decide_true,xbb,show l.per.fro<=l.per.fro+(k:Int) by omega,show l.per.fro+(k:Int)<=l.per.to by omega]
 rw [hi] at hb;rw [hb];simp only [decide_eq_true_eq]
 split<;>simp
def inW (l:Lim) (b:Int) (x:Mov):Bool:=zbI l x.kind x.term && (decide (b<=x.moment) && decide (x.moment < b+l.len))
theorem zbJ {l:Lim} (h:0<=l.len) (b:Int):∀ m:List Mov,zbb l m b=((m.filter (inW l b)).length:Int)
 | []=>by simp [zbb,cntW,ofL,ltN]
 | x::r=>by
  have ih:=zbJ h b r;simp only [zbb,cntW,ofL,xa3,inW] at ih ⊢
  by_cases hc:zbI l x.kind x.term=true
  ·simp only [hc,if_true,xak,ltN,xa3,xbb,decide_eq_true_eq,xaB] at ih ⊢
   (repeat' split)<;>(try simp only [xaw])<;>omega
  ·simp only [xbp] at hc;simp only [hc,xaA,if_false,xa5];exact ih
def arB (m:List Mov) (o:Mov) (i:Nat) (l:Lim) (b:Int):List Win:=if b<=o.moment/\o.moment < b+l.len then [⟨i,b,zbb l m b⟩] else []
def arD (m:List Mov) (o:Mov) (i:Nat) (l:Lim) (d:Int):List Win:=(zN l d).flatMap (arB m o i l)
def arX (m:List Mov) (o:Mov) (i:Nat) (l:Lim) (e:Nat):List Win:=arD m o i l (o.moment / 1440 - 1+e)
def arL (m:List Mov) (o:Mov) (i:Nat) (l:Lim):List Win:=if zbI l o.kind o.term then (List.range 2).flatMap (arX m o i l) else []
def arI (ls:List Lim) (m:List Mov) (o:Mov) (i:Nat):List Win:=match ls[i]? with|some l=>arL m o i l|none=>[]
def arK (ls:List Lim) (m:List Mov) (o:Mov) (k:Nat):List Win:=(List.range k).flatMap (arI ls m o)
def arW (ls:List Lim) (m:List Mov) (o:Mov):List Win:=arK ls m o ls.length
def zdn (ls:List Lim) (i:Int):Int:=match ls[i.toNat]? with|some l=>l.most|none=>0
def ztv (ls:List Lim) (a:Int) (w:Win):Int:=min a (max 0 (zdn ls w.lim - w.cnt))
def roomK (ls:List Lim) (W:List Win):Int:=W.foldl (ztv ls) 999999999
def roomL (ls:List Lim) (m:List Mov) (o:Mov):Int:=roomK ls (arW ls m o)
def zeR {r:Req} (h:zbY r=0):zbx r.per=0/\0<=r.minute/\r.minute<=1439:=by
 unfold zbY at h;simp only [zi,zdR] at h;exact ⟨h.2.2.2.1,h.2.2.2.2.1⟩
def zj0 (r:Req) (d:Int):Mov:=⟨1440*d+r.minute,r.kind,r.term,r.seats,r.size,r.noise,r.name⟩
def zhk (r:Req):List Mov:=(zaK r.per).map (zj0 r)
def zA2 (r:Req) (h:zbY r=0):Pure prog 225 [r.pv] (.sl 7 ((zhk r).map Mov.pv)):=by
 have hr:=zeR h;have hp:=zaI hr.1;have hdl:=zeN r.per;have hdr:zoM r.per=zaK r.per:=by rw [zoM,if_pos hr.1]
 refine pz func225 f225.eq_1 λhw X hX=>?_
 have qe:=aI qR @hdr;repeat' first|refine gC ?_ ?_<;>intro hc<;>try contradiction|refine za (zyf r.per) ?_|refine gG ?_|show AK _;intro J Z|refine gJ ?_|omega|exact aT
 refine run_ownL 100 194 7 (κ:=Nat) (λk=>⟨[(1,.lp 1 0),(5,.row 100 ((zaK r.per).take k).length),(14,.p (.sl 1 ((zaK r.per).map (.i .i64)))),(15,.p (.i .i64 (zaK r.per).length)),(16,.p (.i .i64 k))],[(1,.box ([.s r.name,.s r.carrier,.s r.kind,.s r.term,.s r.partner,.s r.link,.i .i64 r.per.fro,.i .i64 r.per.to,.i .i64 r.per.days,.i .i64 r.minute,.i .i64 r.seats,.i .i64 r.size,.i .i64 r.noise].map .p) false),(100,.row 194 7 ((((zaK r.per).take k).map (zj0 r)).map Mov.pv) false)],[],false⟩) (λk=>k<=(zaK r.per).length) (λk=>(zaK r.per).length - k) 0 ?_ ?_ ?_
 ·refine ⟨gO ?_,gO ?_⟩<;>simp
 ·simp
 ·intro k hk
  repeat first|refine gG ?_|show AK _;intro J Z|refine gJ ?_|omega|exact aT
  (refine gC ?_ ?_<;>intro hc<;>try contradiction)
  ·obtain ⟨d,hx⟩:=zj (i:=k) (l:=zaK r.per) (by omega)
   have hdm:=zeM (xae hx);have hlt:=zfJ hx;have qe:=aI qR @hx;repeat' first|refine gC ?_ ?_<;>intro hc<;>try contradiction|refine gG ?_|show AK _;intro J Z|refine gJ ?_|omega|exact aT
   exact ⟨k+1,by omega,by omega,⟨by rw [xaT,hx,xad];rfl,by simp⟩,by rw [zej (zj0 r) hx];simp [zj0]⟩
  ·repeat' first|refine gC ?_ ?_<;>intro hc<;>try contradiction|refine gG ?_|show AK _;intro J Z|refine gJ ?_|omega|exact aT
   have e:k=(zaK r.per).length:=by omega
   subst e;rw [xai];exact .refl _
def zbF (r:Req):List Mov:=if zbY r=0 then zhk r else []
def zjP (r:Req):Pure prog 183 [r.pv] (.tup [.sl 7 ((zbF r).map Mov.pv),.i .i64 (zbY r)]):=by
 refine pz func183 f183.eq_1 λhw X hX=>?_
 have qe:=@qR;repeat' first|refine gC ?_ ?_<;>intro hc<;>try contradiction|refine za (zA3 r) ?_|refine za (zA2 r hc) ?_|refine gG ?_|show AK _;intro J Z|refine gJ ?_|omega|exact aT
 ·rw [zbF,if_neg hc];exact zdc (.nilsl _) (.refl _)
 ·rw [zbF,if_pos hc,hc];exact .refl _
def Req.at (r:Req) (n:Int):Req:={ r with minute:=n }
def evB (m:List Mov) (l:Lim) (d b:Int):List (Nat × Nat):=if zbb l m b < l.most then [] else if max 0 (b - 1440*d) < min 1440 (b+l.len - 1440*d) then [((max 0 (b - 1440*d)).toNat,(min 1440 (b+l.len - 1440*d)).toNat)] else []
def evX (m:List Mov) (l:Lim) (d:Int) (e:Nat):List (Nat × Nat):=(zN l (d - 1+e)).flatMap (evB m l d)
def evD (m:List Mov) (l:Lim) (d:Int):List (Nat × Nat):=(List.range 2).flatMap (evX m l d)
def evL (m:List Mov) (r:Req) (l:Lim):List (Nat × Nat):=if zbI l r.kind r.term then (zaK r.per).flatMap (evD m l) else []
def evI (ls:List Lim) (m:List Mov) (r:Req) (i:Nat):List (Nat × Nat):=match ls[i]? with|some l=>evL m r l|none=>[]
def egK (ls:List Lim) (m:List Mov) (r:Req) (k:Nat):List (Nat × Nat):=(List.range k).flatMap (evI ls m r)
def p1 (ls:List Lim) (m:List Mov) (r:Req) (k:Nat) (l:Lim) (q:Nat):List (Nat × Nat):=egK ls m r k++((zaK r.per).take q).flatMap (evD m l)
def p2 (ls:List Lim) (m:List Mov) (r:Req) (k:Nat) (l:Lim) (q:Nat) (d:Int) (e:Nat):List (Nat × Nat):=p1 ls m r k l q++(List.range e).flatMap (evX m l d)
def p3 (ls:List Lim) (m:List Mov) (r:Req) (k:Nat) (l:Lim) (q:Nat) (d:Int) (e i:Nat):List (Nat × Nat):=p2 ls m r k l q d e++((zN l (d - 1+e)).take i).flatMap (evB m l d)
abbrev Req.cells (r:Req):List PV:=[.s r.name,.s r.carrier,.s r.kind,.s r.term,.s r.partner,.s r.link,.i .i64 r.per.fro,.i .i64 r.per.to,.i .i64 r.per.days,.i .i64 r.minute,.i .i64 r.seats,.i .i64 r.size,.i .i64 r.noise]
def fitsB (ls:List Lim) (m:List Mov) (r:Req):Bool:=(zhk r).all λo=>!decide (roomL ls m o < 1)
def zc2 (bef:Mov->Mov->Bool) (x:Mov) (out:List Mov):Nat->Nat
 | 0=>0
 | n+1=>match out[n]? with
  | some y=>if bef x y then zc2 bef x out n else n+1
  | none=>n+1
def zov (bef:Mov->Mov->Bool) (out:List Mov) (x:Mov):List Mov:=out.take (zc2 bef x out out.length)++x::out.drop (zc2 bef x out out.length)
def zhC (bef:Mov->Mov->Bool) (a b:List Mov):List Mov:=(a++b).foldl (zov bef) []
theorem zm4 (bef:Mov->Mov->Bool) (x:Mov) (out:List Mov):∀ n,zc2 bef x out n<=n
 | 0=>xam _
 | n+1=>by
  have:=zm4 bef x out n;simp only [zc2];(repeat' split)<;>omega
theorem zm5 (bef:Mov->Mov->Bool) (x:Mov) (out:List Mov):∀ n i,zc2 bef x out n<=i->i < n->∃ y,out[i]?=some y/\bef x y=true
 | 0,i,_,h=>by omega
 | n+1,i,h,hi=>by
  simp only [zc2] at h
  split at h
  ·rename_i y hy
   split at h
   ·by_cases e:i=n
    ·subst e;exact ⟨y,hy,by assumption⟩
    ·exact zm5 bef x out n i h (by omega)
   ·omega
  ·omega
theorem zhG (bef:Mov->Mov->Bool) (x:Mov) (out:List Mov):∀ n k y,zc2 bef x out n=k+1->out[k]?=some y->bef x y=false
 | 0,_,_,h,_=>by cases h
 | n+1,k,y,h,hy=>by
  simp only [zc2] at h
  split at h
  ·rename_i z hz
   split at h
   ·exact zhG bef x out n k y h hy
   ·have e:n=k:=by omega
    subst e;rw [hz] at hy;cases hy;rename_i hb;simpa using hb
  ·rename_i hz;have e:n=k:=by omega
   subst e;rw [hz] at hy;cases hy
def zq8 (bef:Mov->Mov->Bool) (out:List Mov) (x:Mov):(zov bef out x).Perm (x::out):=by
 unfold zov;refine List.perm_middle.trans ?_;rw [xap]
theorem zdH (bef:Mov->Mov->Bool):∀ (l out:List Mov),(l.foldl (zov bef) out).Perm (out++l)
 | [],out=>by simp
 | x::l,out=>by
  refine (zdH bef l (zov bef out x)).trans ?_;refine ((zq8 bef out x).append_right l).trans ?_;simpa using (List.perm_middle (a:=x) (l₁:=out) (l₂:=l)).symm
def zog (bef:Mov->Mov->Bool) (a b:List Mov):(zhC bef a b).Perm (a++b):=by
 simpa [zhC] using zdH bef (a++b) []
abbrev zxa (l:List Mov):Prop:=l.Pairwise λx y=>x.moment<=y.moment
def zhI {l:List Int} (h:∀ x ∈ l,x=0):zn l=0:=by
 induction l with
 | nil=>rfl
 | cons x r ih=>exact zi.2 ⟨h x (by simp),ih λy hy=>h y (by simp [hy])⟩
def zoT {m:List Mov} (hn:m.length<=30000) (hc:∀ x ∈ m,zhS x=0) (hs:zxa m):zfi m=0:=by
 rw [zfi,if_neg (by omega)]
 refine zhI λe he=>?_
 obtain ⟨i,hi⟩:=xa8 he;simp only [zqL,xcm,xab] at hi;obtain ⟨x,hx,rfl⟩:=hi;refine zi.2 ⟨hc x (xae hx),zi.2 ⟨if_neg λhh=>?_,rfl⟩⟩
 have hlt:=(xaa.1 hx).1;have:=xaZ.1 hs (i - 1) i (by omega) hlt (by omega)
 rw [xac (by omega),xa1] at hh
 rw [xac hlt] at hx;rw [xa0 hx] at this
 omega
def zng {l:Lim} (h:0<=l.len) {a b:List Mov} (hp:a.Perm b) (w:Int):zbb l a w=zbb l b w:=by
 rw [zbJ h,zbJ h,(hp.filter _).length_eq]
def zrR {l:Lim} (h:0<=l.len) (a b:List Mov) (w:Int):zbb l (a++b) w=zbb l a w+zbb l b w:=by
 rw [zbJ h,zbJ h,zbJ h,xbk,xad];omega
section
variable {α:Type} (lt:α->α->Bool)
def mrg:List α->List α->List α
 | [],B=>B
 | a::A,[]=>a::A
 | a::A,b::B=>if lt b a then b::mrg (a::A) B else a::mrg A (b::B)
termination_by A B=>A.length+B.length
def insL (x:α):List α->List α
 | []=>[x]
 | y::r=>if lt x y then x::y::r else y::insL x r
def zcl (L:List α):List α:=L.foldl (λout x=>insL lt x out) []
structure SW:Prop where
 asym:∀ x y,lt x y=true->lt y x=false
 nt:∀ x y z,lt x y=false->lt y z=false->lt x z=false
abbrev srt (L:List α):Prop:=L.Pairwise λx y=>lt y x=false
variable {lt}
def irr (hs:SW lt) (x:α):lt x x=false:=by
 cases hh:lt x x
 ·rfl
 ·rw [<-hs.asym _ _ hh,hh]
def zaE (A:List α):mrg lt A []=A:=by cases A<;>simp [mrg]
def zai (B:List α):mrg lt [] B=B:=by simp [mrg]
def zhj {a b:α} (A B:List α) (h:lt b a=true):mrg lt (a::A) (b::B)=b::mrg lt (a::A) B:=by rw [mrg,if_pos h]
def ziq {a b:α} (A B:List α) (h:lt b a=false):mrg lt (a::A) (b::B)=a::mrg lt A (b::B):=by rw [mrg,if_neg (by simp [h])]
theorem zmS {x z:α}:∀ {L:List α},z ∈ insL lt x L↔z=x\/z ∈ L
 | []=>by simp [insL]
 | y::r=>by
  unfold insL;split
  ·simp
  ·simp only [xaF,zmS]
   constructor
   ·rintro (h|h|h)<;>simp [h]
   ·rintro (h|h|h)<;>simp [h]
theorem zm2 (hs:SW lt) {x:α}:∀ {L:List α},srt lt L->srt lt (insL lt x L)
 | [],_=>by simp [insL]
 | y::r,h=>by
  have h:=xbz.1 h;unfold insL;split
  ·rename_i e;refine xbz.2 ⟨λz hz=>?_,xbz.2 h⟩
   rcases xaF.1 hz with rfl|hz
   ·exact hs.asym _ _ e
   ·exact hs.nt _ _ _ (h.1 z hz) (hs.asym _ _ e)
  ·rename_i e;refine xbz.2 ⟨λz hz=>?_,zm2 hs h.2⟩
   rcases zmS.1 hz with rfl|hz
   ·simpa using e
   ·exact h.1 z hz
theorem zfX (hs:SW lt) (x:α):∀ (A B:List α),mrg lt A (insL lt x B)=insL lt x (mrg lt A B)
 | [],B=>by rw [zai,zai]
 | a::A,[]=>by
  rw [zaE];cases h:lt x a with
  | true=>rw [insL,zhj _ _ h,zaE,insL,if_pos h]
  | false=>
   rw [insL,ziq _ _ h,insL,if_neg (by simp [h])]
   have:=zfX hs x A [];rw [insL,zaE] at this;rw [this]
 | a::A,b::B=>by
  cases h:lt b a with
  | true=>
   rw [zhj _ _ h];cases h2:lt x b with
   | true=>
    have h3:lt x a=true:=by
     cases e:lt x a
     ·have:=hs.nt _ _ _ e (hs.asym _ _ h);rw [h2] at this;cases this
     ·rfl
    rw [insL,if_pos h2,zhj _ _ h3,zhj _ _ h,insL,if_pos h2]
   | false=>rw [insL,if_neg (by simp [h2]),zhj _ _ h,insL,if_neg (by simp [h2]),zfX hs x (a::A) B]
  | false=>
   rw [ziq _ _ h];have ih:=zfX hs x A (b::B);cases h2:lt x b with
   | true=>
    rw [insL,if_pos h2] at ih ⊢;cases h3:lt x a with
    | true=>rw [zhj _ _ h3,ziq _ _ h,insL,if_pos h3]
    | false=>rw [ziq _ _ h3,ih,insL.eq_2,if_neg (by simp [h3])]
   | false=>
    rw [insL,if_neg (by simp [h2])] at ih ⊢
    have h3:=hs.nt _ _ _ h2 h;rw [ziq _ _ h,ih,insL.eq_2,if_neg (by simp [h3])]
termination_by A B=>A.length+B.length
def zb9 (L:List α) (x:α):zcl lt (L++[x])=insL lt x (zcl lt L):=by rw [zcl,xaJ];rfl
def zgn {P:List α->Prop} (h0:P []) (hs:∀ L x,P L->P (L++[x])) (L:List α):P L:=by
 rw [<-List.reverse_reverse L];generalize L.reverse=R
 induction R with
 | nil=>exact h0
 | cons x r ih=>rw [List.reverse_cons];exact hs _ _ ih
def zeE (hs:SW lt) (A B:List α):zcl lt (A++B)=mrg lt (zcl lt A) (zcl lt B):=by
 induction B using zgn with
 | h0=>rw [xat,show zcl lt ([]:List α)=[] from rfl,zaE]
 | hs L x ih=>rw [<-xaj,zb9,zb9,zfX hs,ih]
def zaU (hs:SW lt) (L:List α):srt lt (zcl lt L):=by
 induction L using zgn with
 | h0=>exact List.Pairwise.nil
 | hs L x ih=>rw [zb9];exact zm2 hs ih
theorem zbp:∀ A B:List α,(mrg lt A B).length=A.length+B.length
 | [],B=>by rw [zai];simp
 | a::A,[]=>by rw [zaE];rfl
 | a::A,b::B=>by
  cases h:lt b a with
  | true=>rw [zhj _ _ h,xaw,zbp (a::A) B];simp only [xaw];omega
  | false=>rw [ziq _ _ h,xaw,zbp A (b::B)];simp only [xaw];omega
termination_by A B=>A.length+B.length
theorem ziO {x:α}:∀ {U V:List α},(∀ u ∈ U,lt x u=false)->(∀ v ∈ V.head?,lt x v=true)->insL lt x (U++V)=U++x::V
 | [],[],_,_=>rfl
 | [],v::V,_,h=>by rw [xaG,insL,if_pos (h v (by simp))];rfl
 | u::U,V,h,hv=>by rw [xaH,insL,if_neg (by simp [h u (by simp)]),ziO (λw hw=>h w (by simp [hw])) hv];rfl
theorem zah:∀ (A1 A2 B1 B2:List α),(∀ a ∈ A1,∀ b ∈ B2,lt b a=false)->(∀ b ∈ B1,∀ a ∈ A2,lt b a=true)->mrg lt (A1++A2) (B1++B2)=mrg lt A1 B1++mrg lt A2 B2
 | [],[],B1,B2,_,_=>by simp [zai]
 | [],a::A2,[],B2,_,_=>by simp [zai]
 | [],a::A2,b::B1,B2,h1,h2=>by
  have ih:=zah [] (a::A2) B1 B2 (by simp) (λb hb=>h2 b (by simp [hb]))
  rw [xaG,xaH,zhj _ _ (h2 b (by simp) a (by simp)),zai]
  rw [xaG,zai] at ih;rw [ih];rfl
 | a::A1,A2,[],[],_,_=>by simp [zaE]
 | a::A1,A2,[],b::B2,h1,h2=>by
  have ih:=zah A1 A2 [] (b::B2) (λa ha=>h1 a (by simp [ha])) (by simp)
  rw [xaG,xaH,ziq _ _ (h1 a (by simp) b (by simp)),zaE]
  rw [xaG,zaE] at ih;rw [ih];rfl
 | a::A1,A2,b::B1,B2,h1,h2=>by
  rw [xaH,xaH];cases h:lt b a with
  | true=>
   have ih:=zah (a::A1) A2 B1 B2 h1 (λb hb=>h2 b (by simp [hb]))
   rw [zhj _ _ h,zhj _ _ h];rw [xaH] at ih;rw [ih];rfl
  | false=>
   have ih:=zah A1 A2 (b::B1) B2 (λa ha=>h1 a (by simp [ha])) h2
   rw [ziq _ _ h,ziq _ _ h];rw [xaH] at ih;rw [ih];rfl
termination_by A1 _ B1 _=>A1.length+B1.length
def zqS (hs:SW lt) {A B:List α} (hA:srt lt A) (hB:srt lt B) {s e:Nat} (hsl:s<=A.length) (h:∀ a b,A[s - 1]?=some a->B[e]?=some b->0 < s->lt b a=false):∀ a ∈ A.take s,∀ b ∈ B.drop e,lt b a=false:=by
 intro a ha b hb;obtain ⟨i,hi⟩:=xa8 ha;obtain ⟨j,hj⟩:=xa8 hb;have hil:=(xaa.1 hi).1;simp only [xao] at hil;rw [xaN,if_pos (by omega)] at hi
 rw [xaX] at hj;have hjl:=(xaa.1 hj).1;obtain ⟨x,hx⟩:∃ x,A[s - 1]?=some x:=⟨_,xac (by omega)⟩
 obtain ⟨y,hy⟩:∃ y,B[e]?=some y:=⟨_,xac (by omega)⟩
 have h0:=h x y hx hy (by omega)
 have h1:lt x a=false:=by
  by_cases ei:i=s - 1
  ·rw [<-ei,hi] at hx;cases hx;exact irr hs _
  ·have:=xaZ.1 hA i (s - 1) (by omega) (by omega) (by omega)
   rw [xac (by omega)] at hi hx
   rw [xa0 hi,xa0 hx] at this;exact this
 have h2:lt b y=false:=by
  by_cases e2:j=0
  ·subst e2;rw [xbv,hy] at hj;cases hj;exact irr hs _
  ·have:=xaZ.1 hB e (e+j) (by omega) (by omega) (by omega)
   rw [xac (by omega)] at hj hy
   rw [xa0 hj,xa0 hy] at this;exact this
 exact hs.nt _ _ _ (hs.nt _ _ _ h2 h0) h1
def zm7 (hs:SW lt) {A B:List α} (hA:srt lt A) (hB:srt lt B) {s e:Nat} (hel:e<=B.length) (h:∀ a b,A[s]?=some a->B[e - 1]?=some b->0 < e->lt b a=true):∀ b ∈ B.take e,∀ a ∈ A.drop s,lt b a=true:=by
 intro b hb a ha;cases hba:lt b a with
 | true=>rfl
 | false=>
  exfalso
  obtain ⟨i,hi⟩:=xa8 hb;obtain ⟨j,hj⟩:=xa8 ha;have hil:=(xaa.1 hi).1;simp only [xao] at hil;rw [xaN,if_pos (by omega)] at hi
  rw [xaX] at hj;have hjl:=(xaa.1 hj).1;obtain ⟨x,hx⟩:∃ x,B[e - 1]?=some x:=⟨_,xac (by omega)⟩
  obtain ⟨y,hy⟩:∃ y,A[s]?=some y:=⟨_,xac (by omega)⟩
  have h0:=h y x hy hx (by omega)
  have h1:lt x b=false:=by
   by_cases e2:i=e - 1
   ·rw [<-e2,hi] at hx;cases hx;exact irr hs _
   ·have:=xaZ.1 hB i (e - 1) (by omega) (by omega) (by omega)
    rw [xac (by omega)] at hi hx
    rw [xa0 hi,xa0 hx] at this;exact this
  have h2:lt a y=false:=by
   by_cases e2:j=0
   ·subst e2;rw [xbv,hy] at hj;cases hj;exact irr hs _
   ·have:=xaZ.1 hA s (s+j) (by omega) (by omega) (by omega)
    rw [xac (by omega)] at hj hy
    rw [xa0 hj,xa0 hy] at this;exact this
  have:=hs.nt _ _ _ (hs.nt _ _ _ h1 hba) h2;rw [h0] at this;cases this
end
def zq9 {lt:Mov->Mov->Bool} (hs:SW lt) {L:List Mov} (h:srt lt L) (x:Mov):zov lt L x=insL lt x L:=by
 unfold zov;generalize hk:zc2 lt x L L.length=k;have hkl:=zm4 lt x L L.length;have hge:=zm5 lt x L L.length;have hla:=zhG lt x L L.length;rw [hk] at hkl hge hla
 conv=>rhs;rw [<-xap k L]
 refine (ziO (λu hu=>?_) λv hv=>?_).symm
 ·cases k with
  | zero=>simp at hu
  | succ k=>
   obtain ⟨z,hz⟩:∃ z,L[k]?=some z:=⟨_,xac (by omega)⟩
   have hb:=hla k z rfl hz;obtain ⟨i,hi⟩:=xa8 hu;have hik:=(xaa.1 hi).1;simp only [xao] at hik;rw [xaN,if_pos (by omega)] at hi
   by_cases e:i=k
   ·subst e;rw [hz] at hi;cases hi;exact hb
   ·have:=xaZ.1 h i k (by omega) (by omega) (by omega)
    rw [xac (by omega)] at hi hz
    rw [xa0 hi,xa0 hz] at this;exact hs.nt _ _ _ hb this
 ·rw [List.head?_drop] at hv;have hlt:=(xaa.1 hv).1;obtain ⟨y,hy,hb⟩:=hge k (xam _) hlt;rw [hv] at hy;cases hy;exact hb
def zd9 {lt:Mov->Mov->Bool} (hs:SW lt) (L:List Mov):L.foldl (zov lt) []=zcl lt L:=by
 induction L using zgn with
 | h0=>rfl
 | hs L x ih=>rw [xaJ,zb9,<-ih];exact zq9 hs (by rw [ih];exact zaU hs L) x
structure Lea where
 carrier:ByteArray
 fro:Int
 to:Int
abbrev Lea.pv (l:Lea):PV:=.agg [.s l.carrier,.i .i64 l.fro,.i .i64 l.to]
structure SlR where
 req:Req
 holder:ByteArray
 ls:PV
 sh:PV
abbrev SlR.cells (s:SlR):List PV:=[.s s.req.name,.s s.req.carrier,.s s.req.kind,.s s.req.term,.s s.req.partner,.s s.req.link,.i .i64 s.req.per.fro,.i .i64 s.req.per.to,.i .i64 s.req.per.days,.i .i64 s.req.minute,.i .i64 s.req.seats,.i .i64 s.req.size,.i .i64 s.req.noise,.s s.holder,s.ls,s.sh]
abbrev SlR.pv (s:SlR):PV:=.agg s.cells
structure Slt where
 req:Req
 holder:ByteArray
 ls:List Lea
 sh:List ByteArray
abbrev Slt.raw (s:Slt):SlR:=⟨s.req,s.holder,.sl 3 (s.ls.map Lea.pv),.sl 1 (s.sh.map .s)⟩
abbrev Slt.cells (s:Slt):List PV:=[.s s.req.name,.s s.req.carrier,.s s.req.kind,.s s.req.term,.s s.req.partner,.s s.req.link,.i .i64 s.req.per.fro,.i .i64 s.req.per.to,.i .i64 s.req.per.days,.i .i64 s.req.minute,.i .i64 s.req.seats,.i .i64 s.req.size,.i .i64 s.req.noise,.s s.holder,.sl 3 (s.ls.map Lea.pv),.sl 1 (s.sh.map .s)]
abbrev Slt.pv (s:Slt):PV:=.agg s.cells
structure Wsh where
 req:Req
 rank:Int
abbrev Wsh.cells (w:Wsh):List PV:=[.s w.req.name,.s w.req.carrier,.s w.req.kind,.s w.req.term,.s w.req.partner,.s w.req.link,.i .i64 w.req.per.fro,.i .i64 w.req.per.to,.i .i64 w.req.per.days,.i .i64 w.req.minute,.i .i64 w.req.seats,.i .i64 w.req.size,.i .i64 w.req.noise,.i .i64 w.rank]
abbrev Wsh.pv (w:Wsh):PV:=.agg w.cells
structure Bk where
 slots:List Slt
 wait:List Wsh
abbrev Bk.pv (b:Bk):PV:=.agg [.sl 16 (b.slots.map Slt.pv),.sl 14 (b.wait.map Wsh.pv)]
def chkRq (r:Req):Int:=zn [zfA r.name,zfA r.carrier,zfA r.partner,zo6 r.term,zo6 r.link,zgM r.kind,if r.link=r.name then 32 else 0,zbx r.per,rng r.minute 0 1439,rng r.seats 0 999,rng r.size 1 9,rng r.noise 0 99]
def chkQ (r:Req):Int:=zn [chkRq r,if zaK r.per=[] then 12 else 0]
def zCk (l:Lea):Int:=zn [zfA l.carrier,rng l.fro 0 99999,rng l.to 0 99999,if l.to < l.fro then 11 else 0]
def leaOf (s:SlR) (l:Lea):Int:=zn [if l.fro < s.req.per.fro\/s.req.per.to < l.to then 30 else 0,if l.carrier=s.holder then 31 else 0]
def zBr (s:Slt) (i:Nat) (l:Lea):Int:=zn [zCk l,leaOf s.raw l,if 0 < (i:Int)/\l.fro<=((s.ls[i - 1]?).getD l).to then 15 else 0]
def zAf (s:Slt) (i:Nat) (c:ByteArray):Int:=zn [zfA c,if c=s.holder then 31 else 0,if 0<=atL c (s.sh.take i) then 9 else 0]
def zwN (s:Slt):Int:=zn [chkQ s.req,zfA s.holder,if 8 < (s.ls.length:Int) then 5 else 0,zn (s.ls.mapIdx (zBr s)),if 4 < (s.sh.length:Int) then 5 else 0,zn (s.sh.mapIdx (zAf s))]
def zwM (w:Wsh):Int:=zn [chkQ w.req,rng w.rank 0 999999999]
def zAe (b:Bk) (i:Nat) (s:Slt):Int:=zn [zwN s,if 0<=atL s.req.name ((b.slots.take i).map (·.req.name)) then 9 else 0]
theorem fE0:∀ {l:List Int},zn l=0->∀ x ∈ l,x=0
 | [],_,x,hx=>by cases hx
 | e::r,h,x,hx=>by
  by_cases he:e=0
  ·rw [zn,if_pos he] at h
   rcases xaF.1 hx with rfl|hx
   ·exact he
   ·exact fE0 h x hx
  ·rw [zn,if_neg he] at h;exact absurd h he
def zdG {α:Type} (p:α->Bool):List α->Int
 | []=>-1
 | x::r=>if p x=true then 0 else if zdG p r < 0 then -1 else zdG p r+1
theorem zbe {α:Type} {p:α->Bool}:∀ {l:List α} {i:Nat} {x:α},(∀ y ∈ l.take i,p y=false)->l[i]?=some x->p x=true->zdG p l=i
 | [],i,_,_,h,_=>by simp at h
 | x::r,0,y,_,h,hp=>by simp at h;subst h;simp [zdG,hp]
 | x::r,i+1,y,h,hx,hp=>by
  have h0:p x=false:=h x (by simp)
  have:=zbe (l:=r) (i:=i) (λy hy=>h y (by simp [hy])) (by simpa using hx) hp
  simp only [zdG,h0,this,xaA,if_false];rw [if_neg (by omega)];simp
theorem zct {α:Type} {p:α->Bool}:∀ {l:List α},(∀ x ∈ l,p x=false)->zdG p l=-1
 | [],_=>rfl
 | x::r,h=>by
  have h0:p x=false:=h x (by simp)
  have:=zct (l:=r) λy hy=>h y (by simp [hy])
  simp only [zdG,h0,this];rfl
theorem ziR {α:Type} (f:α->ByteArray) (n:ByteArray):∀ l:List α,zdG (λx=>decide (f x=n)) l=atL n (l.map f)
 | []=>rfl
 | x::r=>by simp only [zdG,xak,atL,ziR f n r,decide_eq_true_eq]
def zE {α:Type} {l:List α} {i:Nat} {x:α} (hx:l[i]?=some x):l.take (i+1)=l.take i++[x]:=by rw [xaT,hx];rfl
def zd1 {α:Type} {p:α->Bool} {l:List α} {i:Nat} {x:α} (h:∀ y ∈ l.take i,p y=false) (hx:l[i]?=some x) (hp:p x=false):∀ y ∈ l.take (i+1),p y=false:=λy hy=>by
 rw [zE hx] at hy
 rcases xaR.1 hy with h1|h1
 ·exact h y h1
 ·simp at h1;subst h1;exact hp
def zz6 {l:Lim} (h:zr l=0) {b:Int} (hb:b ∈ zaq l):b ∈ zN l (b / 1440):=by
 rw [ze0 h,xaz] at hb;obtain ⟨d,hd,hb⟩:=hb;have hb2:b ∈ zN l d:=by rw [zbK h,if_pos hd];exact hb
 have:=zaX h hb2;rw [show b / 1440=d by omega];exact hb2
def zz5 {l:Lim} (h:zr l=0) {b d:Int} (hb:b ∈ zN l d):b ∈ zaq l:=by
 rw [zbK h] at hb
 split at hb
 ·rename_i hd;rw [ze0 h,xaz];exact ⟨d,hd,hb⟩
 ·cases hb
def zjb (a b:Mov):Bool:=if a.moment=b.moment then (if a.kind=b.kind then Op.bytesLess a.name.toList b.name.toList else Op.bytesLess a.kind.toList b.kind.toList) else decide (a.moment < b.moment)
abbrev Mov.cells (m:Mov):List PV:=[.i .i64 m.moment,.s m.kind,.s m.term,.i .i64 m.seats,.i .i64 m.size,.i .i64 m.noise,.s m.name]
def zi9 (x y:Int):Int:=if x < y then -1 else if y < x then 1 else 0
def zkL (x y:ByteArray):Int:=if Op.bytesLess x.toList y.toList=true then -1 else if x=y then 0 else 1
def zwL (a b:Mov):Int:=zn [zi9 a.moment b.moment,zkL a.kind b.kind,zkL a.name b.name]
def zx9 (x:ByteArray):Pure prog 196 [.s x] (.b false):=by
 refine pz func196 f196.eq_1 λhw X hX=>?_
 have qe:=@zeB;exact gD0
def zlh (x y:Int):Pure prog 159 [.i .i64 x,.i .i64 y] (.i .i64 (zi9 x y)):=by
 refine pz func159 f159.eq_1 λhw X hX=>?_
 repeat' first|refine gC ?_ ?_<;>intro hc<;>try contradiction|refine za (zya _) ?_|refine gG ?_|show AK _;intro J Z|refine gJ ?_|omega|exact aT
 ·rw [zi9,if_pos hc];exact .refl _
 ·rw [zi9,if_neg (by omega),if_pos hc];exact .refl _
 ·rw [zi9,if_neg (by omega),if_neg (by omega)];exact .refl _
def zqs (x y:ByteArray):Pure prog 132 [.s x,.s y] (.i .i64 (zkL x y)):=by
 refine pz func132 f132.eq_1 λhw X hX=>?_
 repeat' first|refine gC ?_ ?_<;>intro hc<;>try contradiction|refine za (zx9 _) ?_|refine gG ?_|show AK _;intro J Z|refine gJ ?_|omega|exact aT
 ·rw [zkL,if_pos hc];exact .refl _
 ·rw [zkL,if_neg (by rw [hc.1];simp),if_neg hc.2];exact .refl _
 ·have h1:=‹Op.bytesLess x.toList y.toList=false›;rw [zkL,if_neg (by rw [h1];simp),if_pos (hc.resolve_left (by rw [h1];simp))];exact .refl _
def zqt (l:List Int):Pure prog 158 [.sl 1 (l.map (.i .i64))] (.i .i64 (zn l)):=by
 refine pz func158 f158.eq_1 λhw X hX=>?_
 simp only [wfs,PV.wf,xaf,maxLen] at hw
 repeat' first|refine gC ?_ ?_<;>intro hc<;>try contradiction|refine gG ?_|show AK _;intro J Z|refine gJ ?_|omega|exact aT
 refine zh (κ:=Nat) (λi=>⟨[(3,.p (.i .i64 0)),(6,.p (.sl 1 (l.map (.i .i64)))),(7,.p (.i .i64 l.length)),(8,.p (.i .i64 i))],[],[],false⟩) (λi=>i<=l.length/\∀ x ∈ l.take i,x=0) (λi=>l.length - i) 0 ?_ ?_ ?_
 ·exact sR
 ·simp
 ·intro i hi
  repeat first|refine gG ?_|show AK _;intro J Z|refine gJ ?_|omega|exact aT
  (refine gC ?_ ?_<;>intro hc<;>try contradiction)
  ·obtain ⟨x,hx⟩:=zj (i:=i) (l:=l) (by omega)
   have qe:=@hx;repeat' first|refine gC ?_ ?_<;>intro hc<;>try contradiction|refine gG ?_|show AK _;intro J Z|refine gJ ?_|omega|exact aT
   ·rw [zbr hi.2 hx hc];exact .refl _
   ·exact ⟨i+1,⟨by omega,zb0 hi.2 hx hc⟩,by omega,by simp⟩
  ·repeat' first|refine gC ?_ ?_<;>intro hc<;>try contradiction|refine gG ?_|show AK _;intro J Z|refine gJ ?_|omega|exact aT
   have e:i=l.length:=by omega
   subst e;rw [zbj hi.2];exact .refl _
def cmpW (a b:Wsh):Int:=zn [zi9 a.rank b.rank,zkL a.req.name b.req.name]
def zz3 (b:Bk) (i:Nat) (w:Wsh):Int:=zn [zwM w,if 0<=atL w.req.name (b.slots.map (·.req.name)++(b.wait.take i).map (·.req.name)) then 9 else 0,if 0 < (i:Int)/\cmpW w ((b.wait[i - 1]?).getD w)<=0 then 11 else 0]
def chkBk (b:Bk):Int:=zn [if 64 < (b.slots.length:Int) then 5 else 0,zn (b.slots.mapIdx (zAe b)),if 64 < (b.wait.length:Int) then 5 else 0,zn (b.wait.mapIdx (zz3 b))]
def zwE (e:Int):zn [e]=e:=by by_cases h:e=0<;>simp [zn,h]
def zlL {e:Int} {r:List Int} (h:e≠0):zn (e::r)=e:=by simp [zn,h]
def zro {e:Int} {r:List Int} (h:e=0):zn (e::r)=zn r:=by simp [zn,h]
def bfC (c:Mov->Mov->Int) (x y:Mov):Bool:=decide (c x y < 0)
def mgC (c:Mov->Mov->Int) (L:List Mov) (k:Nat):List Mov:=(L.take k).foldl (zov (bfC c)) []
def zat (c:Mov->Mov->Int) (L:List Mov):List Mov:=L.foldl (zov (bfC c)) []
def ziy {c:Mov->Mov->Int} {L:List Mov} {k:Nat} (h:k<=L.length):(mgC c L k).length=k:=by
 have:=(zdH (bfC c) (L.take k) []).length_eq;rw [mgC,this];simp;omega
def zuC {c:Mov->Mov->Int} {L:List Mov} {k:Nat} {x:Mov} (h:L[k]?=some x):mgC c L (k+1)=zov (bfC c) (mgC c L k) x:=by
 rw [mgC,xaT,h,xaJ];rfl
def zaf (c:Mov->Mov->Int) (L:List Mov):(zat c L).length=L.length:=by
 have:=(zdH (bfC c) L []).length_eq;rw [zat,this];simp
def zpb (c:Mov->Mov->Int) (L:List Mov) (k:Nat):List Mov:=mgC c L k++L.drop k
def zi1 {c:Mov->Mov->Int} {L:List Mov} {k:Nat} (h:k<=L.length\/k=1):(zpb c L k).length=L.length:=by
 rcases L with _|⟨x,r⟩
 ·rcases h with h|h<;>(try simp at h)<;>subst h<;>simp [zpb,mgC]
 ·rw [zpb,xad,ziy (by rcases h with h|h<;>simp at *<;>omega),xau]
  rcases h with h|h<;>simp at *<;>omega
def zB6 (c:Mov->Mov->Int) (L:List Mov):zpb c L 1=L:=by
 rcases L with _|⟨x,r⟩<;>simp [zpb,mgC,zov,zc2]
def zvp (c:Mov->Mov->Int) (L:List Mov) {k:Nat} (h:L.length<=k):zpb c L k=zat c L:=by
 rw [zpb,mgC,xaq h,xby h,xat];rfl
def dj (out:List Mov) (x:Mov) (rest:List Mov) (j:Nat):List Mov:=out.take j++x::(out.drop j++rest)
def zwJ {out:List Mov} {x:Mov} {rest:List Mov} {j:Nat} (h:j<=out.length):(dj out x rest j).length=out.length+1+rest.length:=by
 simp [dj];omega
def zvm {c:Mov->Mov->Int} {L:List Mov} {i:Nat} {x:Mov} (h:L[i]?=some x):dj (mgC c L i) x (L.drop (i+1)) i=zpb c L i:=by
 have hi:=(xaa.1 h).1;have hl:=ziy (c:=c) (L:=L) (k:=i) (by omega)
 rw [dj,zpb,xaq (by omega),xby (by omega),xaG,xaO hi,(xaa.1 h).2]
def zrE {c:Mov->Mov->Int} {L:List Mov} {i j:Nat} {x:Mov} (h:L[i]?=some x) (hj:j=zc2 (bfC c) x (mgC c L i) i):dj (mgC c L i) x (L.drop (i+1)) j=zpb c L (i+1):=by
 have hi:=(xaa.1 h).1;rw [zpb,zuC h,zov,ziy (by omega),<-hj,dj];simp
def dj_at {out:List Mov} {x y:Mov} {rest:List Mov} {j:Nat} (h:out[j]?=some y):(dj out x rest (j+1))[j]?=some y/\(dj out x rest (j+1))[j+1]?=some x:=by
 have hj:=(xaa.1 h).1;have hl:(out.take j).length=j:=by simp;omega
 rw [dj,xaT,h,xaj];refine ⟨?_,?_⟩
 ·rw [xay (by omega),hl];simp
 ·rw [xay (by omega),hl];simp
def zzm {out:List Mov} {x y:Mov} {rest:List Mov} {j:Nat} (h:out[j]?=some y):((dj out x rest (j+1)).set (j+1) y).set j x=dj out x rest j:=by
 have hj:=(xaa.1 h).1;have hl:(out.take j).length=j:=by simp;omega
 have hd:out.drop j=y::out.drop (j+1):=by rw [xaO hj,(xaa.1 h).2]
 rw [dj,dj,xaT,h,hd,xaj,xbL _ _ (by omega),hl,xbL _ _ (by omega),hl]
 simp
def zra {c:Mov->Mov->Int} {x:Mov} {out:List Mov} {q:Nat} {y:Mov} (hy:out[q]?=some y) (hb:¬c x y < 0):zc2 (bfC c) x out (q+1)=q+1:=by
 simp only [zc2,hy];rw [if_neg (by simp [bfC];omega)]
def zyK {c:Mov->Mov->Int} {x:Mov} {out:List Mov} {q:Nat} {y:Mov} (hy:out[q]?=some y) (hb:c x y < 0):zc2 (bfC c) x out (q+1)=zc2 (bfC c) x out q:=by
 simp only [zc2,hy];rw [if_pos (by simp [bfC];omega)]
def zae {α:Type} (P X S:List α) {j:Nat} (h:j < X.length):(P++(X++S))[P.length+j]?=X[j]?:=by
 rw [xay (by omega),xb1,xaP h]
def za6 {α:Type} (P X S:List α) {j:Nat} (v:α) (h:j < X.length):(P++(X++S)).set (P.length+j) v=P++(X.set j v++S):=by
 rw [xbL _ _ (by omega),xb1,List.set_append_left _ _ h]
def swU (U V:List Mov) (i:Nat):List Mov:=V.take i++U.drop i
def swD (P U Q V S:List Mov) (i:Nat):List Mov:=P++(swU U V i++(Q++(swU V U i++S)))
def zde {U V:List Mov} (h:U.length=V.length) {i:Nat} (hi:i<=U.length):(swU U V i).length=U.length:=by simp [swU];omega
def zwi {U V:List Mov} (h:U.length=V.length) {i:Nat} (hi:i < U.length):(swU U V i)[i]?=U[i]?:=by
 have hl:(V.take i).length=i:=by simp;omega
 rw [swU,xay (by omega),hl,xci,xaX,xbv]
def zps {U V:List Mov} (h:U.length=V.length) {i:Nat} {v:Mov} (hv:V[i]?=some v):(swU U V i).set i v=swU U V (i+1):=by
 have hi:=(xaa.1 hv).1;have hl:(V.take i).length=i:=by simp;omega
 rw [swU,swU,xbL _ _ (by omega),hl,xci,xaT,hv,xaO (by omega),List.set_cons_zero]
 simp
def swD_0 (P U Q V S:List Mov):swD P U Q V S 0=P++(U++(Q++(V++S))):=by simp [swD,swU]
def swD_n {P U Q V S:List Mov} (h:U.length=V.length):swD P U Q V S U.length=P++(V++(Q++(U++S))):=by
 simp only [swD,swU,xcc,xai,xat];rw [h,xai,xcc,xat]
def zpv {P U Q V S:List Mov} (h:U.length=V.length) {i:Nat} (hi:i<=U.length):(swD P U Q V S i).length=P.length+(U.length+(Q.length+(V.length+S.length))):=by
 simp only [swD,xad,zde h hi,zde h.symm (i:=i) (by omega)]
def zw9 {P U Q V S:List Mov} (h:U.length=V.length) {i:Nat} {u:Mov} (hu:U[i]?=some u):(swD P U Q V S i)[P.length+i]?=some u:=by
 have hi:=(xaa.1 hu).1;rw [swD,zae _ _ _ (by rw [zde h (by omega)];exact hi),zwi h hi,hu]
def zw8 {P U Q V S:List Mov} (h:U.length=V.length) {i:Nat} {v:Mov} (hv:V[i]?=some v):(swD P U Q V S i)[P.length+U.length+Q.length+i]?=some v:=by
 have hi:=(xaa.1 hv).1;have e:swD P U Q V S i=(P++(swU U V i++Q))++(swU V U i++S):=by simp [swD]
 have hl:(P++(swU U V i++Q)).length=P.length+U.length+Q.length:=by simp only [xad,zde h (show i<=U.length by omega)];omega
 rw [e,<-hl,zae _ _ _ (by rw [zde h.symm (by omega)];exact hi),zwi h.symm hi,hv]
def zsV {P U Q V S:List Mov} (h:U.length=V.length) {i:Nat} {u v:Mov} (hu:U[i]?=some u) (hv:V[i]?=some v):((swD P U Q V S i).set (P.length+i) v).set (P.length+U.length+Q.length+i) u=swD P U Q V S (i+1):=by
 have hi:=(xaa.1 hu).1;have hj:=(xaa.1 hv).1;rw [swD,za6 _ _ _ _ (by rw [zde h (by omega)];exact hi),zps h hv]
 have e:P++(swU U V (i+1)++(Q++(swU V U i++S)))=(P++(swU U V (i+1)++Q))++(swU V U i++S):=by simp
 have hl:(P++(swU U V (i+1)++Q)).length=P.length+U.length+Q.length:=by simp only [xad,zde h (show i+1<=U.length by omega)];omega
 rw [e,<-hl,za6 _ _ _ _ (by rw [zde h.symm (by omega)];exact hj),zps h.symm hu]
 simp [swD]
def zl9 (f:Nat) {D D':List Mov} {N:Nat} (P U Q V S:List Mov) (hN:D.length=N) (hD:D=P++(U++(Q++(V++S)))) (hD':D'=P++(V++(Q++(U++S)))) (h:U.length=V.length) (a b k:Int) (ha:a=P.length) (hb:b=(P.length+U.length+Q.length:Nat)) (hk:k=U.length) (hn:N<=1000000) :
  zbk prog 306 [.row 900 N,.p (.i .i64 a),.p (.i .i64 b),.p (.i .i64 k),.p (.fn (.func f) [] [])] [(900,.row 194 7 (D.map Mov.pv) false)] (.p (.tup [])) [(900,.row 194 7 (D'.map Mov.pv) false)]:=by
 have hlen:D.length=P.length+(U.length+(Q.length+(V.length+S.length))):=by rw [hD];simp
 have hlen':D'.length=N:=by rw [hD',<-hN,hlen];simp;omega
 have e0:D=swD P U Q V S 0:=by rw [swD_0,hD]
 refine zD (cF func306 f306.eq_1) (by simp) (by simp [scPs,scP,zm,hN]) (by simp [scObj]) ⟨rfl,trivial⟩ (by simp [scObj]) (by simp [zcQ,zm,hN,hlen']) λX hX=>?_
 unfold zx ghO;have qe:=aI qR @gLV.eq_2;repeat' first|refine gC ?_ ?_<;>intro hc<;>try contradiction|refine gG ?_|show AK _;intro J Z|refine gJ ?_|omega|exact aT
 refine zh (κ:=Nat) (λi=>⟨[(0,.row 900 N),(1,.p (.i .i64 a)),(2,.p (.i .i64 b)),(3,.p (.i .i64 k)),(10,.p (.i .i64 i)),(1000900,.row 900 N)],[(900,.row 194 7 ((swD P U Q V S i).map Mov.pv) false)],[],false⟩) (λi=>i<=U.length) (λi=>U.length - i) 0 ?_ ?_ ?_
 ·simp only [qS,seval,gLV.eq_2]<;>simp [<-e0,hN]
 ·simp
 ·intro i hi;have hsl:=zpv (P:=P) (Q:=Q) (S:=S) h hi;have hsN:(swD P U Q V S i).length=N:=by omega
  have i1:(a+(i:Int)).toNat=P.length+i:=by omega
  have i2:(b+(i:Int)).toNat=P.length+U.length+Q.length+i:=by omega
  by_cases hlt:i < U.length
  ·obtain ⟨u,hu⟩:=zj (i:=i) (l:=U) hlt;obtain ⟨v,hv⟩:=zj (i:=i) (l:=V) (by omega)
   have h1:=zw9 (P:=P) (Q:=Q) (S:=S) h hu;have h2:=zw8 (P:=P) (Q:=Q) (S:=S) h hv;have hik:((i:Int) < k)=True:=eq_true (by omega)
   have qe:=aI qR (aI @hsN (aI @i1 (aI @i2 (aI @h1 (aI @h2 (aI @hik (aI @rtN @rtR)))))));repeat' first|refine gC ?_ ?_<;>intro hc<;>try contradiction|refine gG ?_|show AK _;intro J Z|refine gJ ?_|omega|exact aT
   exact ⟨i+1,by omega,by omega,by simp,by rw [<-zsV h hu hv,xa4,xa4],by rw [zpv h (by omega)];omega⟩
  ·have hik:((i:Int) < k)=False:=eq_false (by omega)
   have qe:=aI qR (aI @hsN (aI @hik (aI @rtN @rtR)));repeat' first|refine gC ?_ ?_<;>intro hc<;>try contradiction|refine gG ?_|show AK _;intro J Z|refine gJ ?_|omega|exact aT
   have e:i=U.length:=by omega
   subst e;rw [swD_n h,<-hD'];exact .inl (.mk0 (h2:=by simp only [qS,seval,keepG.eq_1,keepG.eq_2,gLV.eq_2]<;>simp [hN]))
theorem zj3:∀ l:List UInt8,Op.bytesLess l l=false
 | []=>by simp [Op.bytesLess]
 | x::r=>by simp [Op.bytesLess,zj3 r]
theorem zl4:∀ x y:List UInt8,Op.bytesLess x y=true->Op.bytesLess y x=false
 | _,[],h=>by simp [Op.bytesLess] at h
 | [],_::_,_=>rfl
 | a::x,b::y,h=>by
  simp only [Op.bytesLess,xbd,xaB,decide_eq_true_eq,beq_iff_eq,xbn,Bool.and_eq_false_iff,decide_eq_false_iff_not] at h ⊢;rw [UInt8.lt_iff_toNat_lt] at h ⊢
  rcases h with h|⟨h1,h2⟩
  ·exact ⟨by omega,.inl (by simp only [beq_eq_false_iff_ne];rintro rfl;omega)⟩
  ·subst h1;exact ⟨by omega,.inr (zl4 x y h2)⟩
theorem zzK:∀ x y z:List UInt8,Op.bytesLess x y=false->Op.bytesLess y z=false->Op.bytesLess x z=false
 | _,_,[],_,_=>by simp [Op.bytesLess]
 | [],[],_::_,_,h=>h
 | [],_::_,_::_,h,_=>by simp [Op.bytesLess] at h
 | _::_,[],_::_,_,h=>by simp [Op.bytesLess] at h
 | a::x,b::y,c::z,h,k=>by
  simp only [Op.bytesLess,xbn,Bool.and_eq_false_iff,decide_eq_false_iff_not,beq_eq_false_iff_ne,UInt8.lt_iff_toNat_lt] at h k ⊢;refine ⟨by omega,?_⟩
  by_cases e:a=c
  ·subst e;have e2:a=b:=UInt8.toNat_inj.1 (by omega)
   subst e2;exact .inr (zzK x y z (h.2.resolve_left (by simp)) (k.2.resolve_left (by simp)))
  ·exact .inl e
theorem zwT:∀ x y:List UInt8,Op.bytesLess x y=false->Op.bytesLess y x=false->x=y
 | [],[],_,_=>rfl
 | [],_::_,h,_=>by simp [Op.bytesLess] at h
 | _::_,[],_,h=>by simp [Op.bytesLess] at h
 | a::x,b::y,h,k=>by
  simp only [Op.bytesLess,xbn,Bool.and_eq_false_iff,decide_eq_false_iff_not,beq_eq_false_iff_ne,UInt8.lt_iff_toNat_lt] at h k;have e2:a=b:=UInt8.toNat_inj.1 (by omega)
  subst e2;rw [zwT x y (h.2.resolve_left (by simp)) (k.2.resolve_left (by simp))]
def ba_eq {x y:ByteArray} (h:x.toList=y.toList):x=y:=by
 have:=zcu x y;rw [h,beq_self_eq_true] at this;exact of_decide_eq_true this.symm
def zCr {x y:ByteArray} (h:Op.bytesLess x.toList y.toList=false) (k:Op.bytesLess y.toList x.toList=false):x=y:=ba_eq (zwT _ _ h k)
def zee:SW zjb where
 asym:=λa b h=>by
  unfold zjb at h ⊢
  by_cases h1:a.moment=b.moment
  ·rw [if_pos h1] at h;rw [if_pos h1.symm]
   by_cases h2:a.kind=b.kind
   ·rw [if_pos h2] at h;rw [if_pos h2.symm];exact zl4 _ _ h
   ·rw [if_neg h2] at h;rw [if_neg (Ne.symm h2)];exact zl4 _ _ h
  ·rw [if_neg h1] at h;rw [if_neg (Ne.symm h1)];simp only [decide_eq_true_eq,decide_eq_false_iff_not] at h ⊢;omega
 nt:=λa b c h k=>by
  have key:∀ x y:Mov,zjb x y=false->y.moment<=x.moment/\(x.moment=y.moment->Op.bytesLess x.kind.toList y.kind.toList=false/\(x.kind=y.kind->Op.bytesLess x.name.toList y.name.toList=false)):=λx y h=>by
   unfold zjb at h
   by_cases h1:x.moment=y.moment
   ·rw [if_pos h1] at h;refine ⟨by omega,λ_=>?_⟩
    by_cases h2:x.kind=y.kind
    ·rw [if_pos h2] at h;exact ⟨by rw [h2];exact zj3 _,λ_=>h⟩
    ·rw [if_neg h2] at h;exact ⟨h,λe=>absurd e h2⟩
   ·rw [if_neg h1] at h;simp only [decide_eq_false_iff_not] at h;exact ⟨by omega,λe=>absurd e h1⟩
  obtain ⟨a1,a2⟩:=key a b h;obtain ⟨b1,b2⟩:=key b c k;unfold zjb
  by_cases h1:a.moment=c.moment
  ·rw [if_pos h1];obtain ⟨a3,a4⟩:=a2 (by omega)
   obtain ⟨b3,b4⟩:=b2 (by omega)
   by_cases h2:a.kind=c.kind
   ·rw [if_pos h2];have e:a.kind=b.kind:=zCr a3 (by rw [h2];exact b3)
    exact zzK _ _ _ (a4 e) (b4 (e.symm.trans h2))
   ·rw [if_neg h2];exact zzK _ _ _ a3 b3
  ·rw [if_neg h1];simp only [decide_eq_false_iff_not];omega
def zdo (i j:Nat) (h:i+j < 1000000000):IntKind.i64.wrap ((IntKind.u64.wrap ((i:Int)+j)).fdiv (2 ^ min (Int.toNat 1) IntKind.u64.bits))=(((i+j) / 2:Nat):Int):=by
 rw [IntKind.wrap_u64,show (2:Int) ^ min (Int.toNat 1) IntKind.u64.bits=2 from rfl,Int.fdiv_eq_ediv_of_nonneg _ (by decide)]
 rw [show (((i:Int)+j) % 18446744073709551616 / 2)=(((i+j) / 2:Nat):Int) by omega]
 exact zjo (by omega) (by omega)
def wyD (P:List Mov) (x:Mov) (B S:List Mov) (q:Nat):List Mov:=P++(B.take q++(x::(B.drop q++S)))
def zh0 {P B S:List Mov} {x:Mov} (q:Nat):(wyD P x B S q).length=P.length+(B.length+1+S.length):=by
 simp only [wyD,xad,xaw,xao,xau];omega
def zma {P B S:List Mov} {x:Mov} {q:Nat} (hq:q<=B.length):(wyD P x B S q)[P.length+q]?=some x:=by
 have hl:(P++B.take q).length=P.length+q:=by simp;omega
 rw [wyD,<-xaj,<-hl];have:=zae (P++B.take q) [x] (B.drop q++S) (j:=0) (by simp)
 simpa using this
def zw0 {P B S:List Mov} {x y:Mov} {q:Nat} (hy:B[q]?=some y):(wyD P x B S q)[P.length+(q+1)]?=some y:=by
 have hq:=(xaa.1 hy).1;have e:wyD P x B S q=(P++(B.take q++[x]))++(B.drop q++S):=by simp [wyD]
 have hl:(P++(B.take q++[x])).length=P.length+(q+1):=by simp;omega
 rw [e,<-hl];have:=zae (P++(B.take q++[x])) (B.drop q) S (j:=0) (by simp;omega)
 rw [xbv] at this;rw [this,xaX,xbv,hy]
def zw1 {P B S:List Mov} {x y:Mov} {q:Nat} (hy:B[q]?=some y):(wyD P x B S (q+1))[P.length+q]?=some y:=by
 have hq:=(xaa.1 hy).1;have:=zae P (B.take (q+1)) (x::(B.drop (q+1)++S)) (j:=q) (by simp;omega)
 rw [wyD,this,xaN,if_pos (by omega),hy]
def zjn {P B S:List Mov} {x y:Mov} {q:Nat} (hy:B[q]?=some y):wyD P x B S q=(P++B.take q)++([x,y]++(B.drop (q+1)++S))/\wyD P x B S (q+1)=(P++B.take q)++([y,x]++(B.drop (q+1)++S)):=by
 have hq:=(xaa.1 hy).1;refine ⟨?_,?_⟩
 ·rw [wyD,xaO hq,(xaa.1 hy).2];simp
 ·rw [wyD,xaT,hy];simp
def zz2 {P B S:List Mov} {x y:Mov} {q:Nat} (hy:B[q]?=some y):((wyD P x B S q).set (P.length+q) y).set (P.length+(q+1)) x=wyD P x B S (q+1):=by
 have hq:=(xaa.1 hy).1;obtain ⟨e1,e2⟩:=zjn (P:=P) (S:=S) (x:=x) hy;have hl:(P++B.take q).length=P.length+q:=by simp;omega
 rw [e1,e2,<-xbA,<-hl];have h1:=za6 (P++B.take q) [x,y] (B.drop (q+1)++S) (j:=0) y (by simp)
 have h2:=za6 (P++B.take q) [y,y] (B.drop (q+1)++S) (j:=1) x (by simp)
 simp only [xbv] at h1;rw [h1];exact h2
def zsB {P B S:List Mov} {x y:Mov} {q:Nat} (hy:B[q]?=some y):((wyD P x B S (q+1)).set (P.length+(q+1)) y).set (P.length+q) x=wyD P x B S q:=by
 have hq:=(xaa.1 hy).1;obtain ⟨e1,e2⟩:=zjn (P:=P) (S:=S) (x:=x) hy;have hl:(P++B.take q).length=P.length+q:=by simp;omega
 rw [e1,e2,<-xbA,<-hl];have h1:=za6 (P++B.take q) [y,x] (B.drop (q+1)++S) (j:=1) y (by simp)
 have h2:=za6 (P++B.take q) [y,y] (B.drop (q+1)++S) (j:=0) x (by simp)
 simp only [xbv] at h2;rw [h1];exact h2
def zuy {lt:Mov->Mov->Bool} {x:Mov} {B:List Mov} {k:Nat} (h1:∀ y ∈ B.take k,lt y x=true) (h2:∀ y ∈ B.drop k,lt y x=false):mrg lt [x] B=B.take k++x::B.drop k:=by
 have:=zah [] [x] (B.take k) (B.drop k) (lt:=lt) (by simp) (λb hb a ha=>by rw [xaW.1 ha];exact h1 b hb)
 rw [xap,zai] at this;rw [xaG] at this;rw [this];have:=zah [x] [] [] (B.drop k) (lt:=lt) (λa ha b hb=>by rw [xaW.1 ha];exact h2 b hb) (by simp)
 rw [xat,xaG,zaE,zai] at this;rw [this];rfl
def zux {lt:Mov->Mov->Bool} {y:Mov} {A:List Mov} {k:Nat} (h1:∀ z ∈ A.take k,lt y z=false) (h2:∀ z ∈ A.drop k,lt y z=true):mrg lt A [y]=A.take k++y::A.drop k:=by
 have:=zah (A.take k) (A.drop k) [] [y] (lt:=lt) (λa ha b hb=>by rw [xaW.1 hb];exact h1 a ha) (by simp)
 rw [xap,xaG,zaE] at this;rw [this];have:=zah [] (A.drop k) [y] [] (lt:=lt) (by simp) (λb hb a ha=>by rw [xaW.1 hb];exact h2 a ha)
 rw [xat,xaG,zai,zaE] at this;rw [this];rfl
def zmo {lt:Mov->Mov->Bool} (hs:SW lt) {L:List Mov} (h:srt lt L) {i j:Nat} {a b:Mov} (hij:i<=j) (ha:L[i]?=some a) (hb:L[j]?=some b):lt b a=false:=by
 by_cases e:i=j
 ·subst e;rw [ha] at hb;cases hb;cases hh:lt a a
  ·rfl
  ·rw [<-hs.asym _ _ hh,hh]
 ·have hi:=(xaa.1 ha).1;have hj:=(xaa.1 hb).1;have:=xaZ.1 h i j hi hj (by omega)
  rw [xac hi] at ha;rw [xac hj] at hb;rw [xa0 ha,xa0 hb] at this;exact this
def zcZ {α:Type} {L:List α} {k:Nat} {a:α} (h:a ∈ L.take k):∃ i,i < k/\L[i]?=some a:=by
 obtain ⟨i,hi⟩:=xa8 h;have:=(xaa.1 hi).1;simp only [xao] at this;rw [xaN,if_pos (by omega)] at hi
 exact ⟨i,by omega,hi⟩
def zc0 {α:Type} {L:List α} {k:Nat} {a:α} (h:a ∈ L.drop k):∃ i,k<=i/\L[i]?=some a:=by
 obtain ⟨i,hi⟩:=xa8 h;rw [xaX] at hi;exact ⟨k+i,by omega,hi⟩
section
variable {f:Nat} {c:Mov->Mov->Int}
def bf_t {a b:Mov} (h:bfC c a b=true):(c a b < 0)=True:=eq_true (by simpa [bfC] using h)
def bf_f {a b:Mov} (h:bfC c a b=false):(c a b < 0)=False:=eq_false (by simpa [bfC] using h)
def zv9 (hf:∀ a b:Mov,Pure prog f [a.pv,b.pv] (.i .i64 (c a b))) (hs:SW (bfC c)) {D D':List Mov} {N:Nat} (P B S:List Mov) (x:Mov) (hN:D.length=N) (hD:D=P++([x]++(B++S))) (hD':D'=P++(mrg (bfC c) [x] B++S)) (sB:srt (bfC c) B) (a m b:Int) (ha:a=(P.length:Nat)) (hm:m=(P.length+1:Nat)) (hb:b=(P.length+1+B.length:Nat)) (hn:N<=1000000) :
  zbk prog 268 [.row 900 N,.p (.i .i64 a),.p (.i .i64 m),.p (.i .i64 b),.p (.fn (.func f) [] [])] [(900,.row 194 7 (D.map Mov.pv) false)] (.p (.tup [])) [(900,.row 194 7 (D'.map Mov.pv) false)]:=by
 subst ha hm hb;have hlen:N=P.length+(1+(B.length+S.length)):=by rw [<-hN,hD];simp only [xad,xaw,xbD]
 have hlen':D'.length=N:=by rw [hD',hlen];simp [zbp];omega
 have e0:D=wyD P x B S 0:=by rw [hD,wyD];simp
 have hx:D[P.length]?=some x:=by rw [e0];exact zma (q:=0) (by omega)
 have hDB:∀ q y,B[q]?=some y->D[P.length+1+q]?=some y:=λq y hy=>by
  have hq:=(xaa.1 hy).1;have e:D=(P++[x])++(B++S):=by rw [hD];simp
  have hl:(P++[x]).length=P.length+1:=by simp
  rw [e,<-hl,zae _ _ _ hq,hy]
 refine zD (cF func268 f268.eq_1) (by simp) (by simp [scPs,scP,zm,hN]) (by simp [scObj]) ⟨rfl,trivial⟩ (by simp [scObj]) (by simp [zcQ,zm,hN,hlen']) λX hX=>?_
 unfold zx ghO;have z1:(((P.length+1:Nat):Int) - (P.length:Nat)=1)=True:=eq_true (by omega)
 have qe:=aI qR (aI @gLV.eq_2 @z1);repeat' first|refine gC ?_ ?_<;>intro hc<;>try contradiction|refine gG ?_|show AK _;intro J Z|refine gJ ?_|omega|exact aT
 refine zh (κ:=Nat × Nat) (λk=>⟨[(0,.row 900 N),(1,.p (.i .i64 (P.length:Nat))),(2,.p (.i .i64 (P.length+1:Nat))),(3,.p (.i .i64 (P.length+1+B.length:Nat))),(4,.p (.fn (.func f) [] [])),(10,.p (.i .i64 (k.1:Nat))),(11,.p (.i .i64 (k.2:Nat))),(1000900,.row 900 N)],[(900,.row 194 7 (D.map Mov.pv) false)],[],false⟩)
  (λk=>P.length+1<=k.1/\k.1<=k.2/\k.2<=P.length+1+B.length/\(∀ y ∈ B.take (k.1 - (P.length+1)),bfC c y x=true)/\∀ y ∈ B.drop (k.2 - (P.length+1)),bfC c y x=false) (λk=>k.2 - k.1) (P.length+1,P.length+1+B.length) ?_ ?_ ?_
 ·simp only [qS,seval,gLV.eq_2]<;>simp [hN]
 ·refine ⟨by simp,by simp,by simp,?_,?_⟩
  ·simp
  ·simp
 ·intro k hk;obtain ⟨i,j⟩:=k;simp only at hk;obtain ⟨k1,k2,k3,k4,k5⟩:=hk;have hm:=zdo i j (by omega)
  by_cases hij:i < j
  ·have hij':((i:Int) < j)=True:=eq_true (by omega)
   obtain ⟨y,hy⟩:=zj (i:=(i+j) / 2 - (P.length+1)) (l:=B) (by omega)
   have hy2:=hDB _ y hy;rw [show P.length+1+((i+j) / 2 - (P.length+1))=(i+j) / 2 by omega] at hy2
   cases hcc:bfC c y x with
   | true=>
    have hc':=bf_t hcc;have qe:=aI qR (aI @hij' (aI @hm (aI @hN (aI @hx (aI @hy2 (aI @hc' (aI @rtN @rtR)))))));repeat' first|refine gC ?_ ?_<;>intro hc<;>try contradiction|refine zl (hf y x) ?_|refine gG ?_|show AK _;intro J Z|refine gJ ?_|omega|exact aT
    refine ⟨((i+j) / 2+1,j),⟨by simp only;omega,by simp only;omega,k3,λz hz=>?_,k5⟩,by simp only;omega,by simp⟩
    obtain ⟨q,hq,hz⟩:=zcZ hz;cases hh:bfC c z x with
    | true=>rfl
    | false=>
     have h2:=zmo hs sB (show q<=(i+j) / 2 - (P.length+1) by simp only at hq;omega) hz hy
     rw [hs.nt _ _ _ h2 hh] at hcc;cases hcc
   | false=>
    have hc':=bf_f hcc;have qe:=aI qR (aI @hij' (aI @hm (aI @hN (aI @hx (aI @hy2 (aI @hc' (aI @rtN @rtR)))))));repeat' first|refine gC ?_ ?_<;>intro hc<;>try contradiction|refine zl (hf y x) ?_|refine gG ?_|show AK _;intro J Z|refine gJ ?_|omega|exact aT
    refine ⟨(i,(i+j) / 2),⟨k1,by simp only;omega,by simp only;omega,k4,λz hz=>?_⟩,by simp only;omega,by simp⟩
    obtain ⟨q,hq,hz⟩:=zc0 hz;have h2:=zmo hs sB hq hy hz;exact hs.nt _ _ _ h2 hcc
  ·have e:i=j:=by omega
   subst e;have hij':((i:Int) < i)=False:=eq_false (by omega)
   have hmr:=zuy k4 k5;generalize hq:i - (P.length+1)=K at k4 k5 hmr;have hi:i=P.length+1+K:=by omega
   subst hi;have qe:=aI qR (aI @hij' (aI @hN (aI @rtN @rtR)));repeat' first|refine gC ?_ ?_<;>intro hc<;>try contradiction|refine gG ?_|show AK _;intro J Z|refine gJ ?_|omega|exact aT
   refine zh (κ:=Nat) (λq=>⟨[(0,.row 900 N),(1,.p (.i .i64 (P.length:Nat))),(10,.p (.i .i64 (P.length+1+K:Nat))),(13,.p (.i .i64 (P.length+q:Nat))),(1000900,.row 900 N)],[(900,.row 194 7 ((wyD P x B S q).map Mov.pv) false)],[],false⟩) (λq=>q<=K) (λq=>K - q) 0 ?_ ?_ ?_
   ·refine gJ ?_;simp [<-e0,hN]
   ·simp
   ·intro q hqK;have hml:(wyD P x B S q).length=N:=by rw [zh0];omega
    have j1:(((P.length+q:Nat):Int)+1).toNat=P.length+(q+1):=by omega
    by_cases hlt:q < K
    ·obtain ⟨y,hy⟩:=zj (i:=q) (l:=B) (by omega)
     have h1:=zma (P:=P) (S:=S) (x:=x) (B:=B) (q:=q) (by omega)
     have h2:=zw0 (P:=P) (S:=S) (x:=x) hy;have h3:=zz2 (P:=P) (S:=S) (x:=x) hy;have hlt':(((P.length+q:Nat):Int) < ((P.length+1+K:Nat):Int) - 1)=True:=eq_true (by omega)
     have qe:=aI qR (aI @hml (aI @hlt' (aI @j1 (aI @h1 (aI @h2 (aI @rtN @rtR))))));repeat' first|refine gC ?_ ?_<;>intro hc<;>try contradiction|refine gG ?_|show AK _;intro J Z|refine gJ ?_|omega|exact aT
     exact ⟨q+1,by omega,by omega,by simp only [LV.p.injEq,PV.i.injEq,true_and];omega,by rw [<-h3,xa4,xa4],by rw [zh0];omega⟩
    ·have e:q=K:=by omega
     subst e;have hlt':(((P.length+q:Nat):Int) < ((P.length+1+q:Nat):Int) - 1)=False:=eq_false (by omega)
     have qe:=aI qR (aI @hml (aI @hlt' (aI @rtN @rtR)));repeat' first|refine gC ?_ ?_<;>intro hc<;>try contradiction|refine gG ?_|show AK _;intro J Z|refine gJ ?_|omega|exact aT
     rw [show wyD P x B S q=D' by rw [hD',hmr,wyD];simp]
     exact .inl (.mk0 (h2:=by simp only [qS,seval,keepG.eq_1,keepG.eq_2,gLV.eq_2]<;>simp [hN]))
end
theorem zmZ:∀ l:List UInt8,Op.bytesLess l l=false
 | []=>by simp [Op.bytesLess]
 | x::r=>by simp [Op.bytesLess,zmZ r]
def zgZ (x y:Int):zi9 x y=0↔x=y:=by unfold zi9;(repeat' split)<;>omega
def zgY (x y:Int):zi9 x y < 0↔x < y:=by unfold zi9;(repeat' split)<;>omega
def zwK (x y:ByteArray):zkL x y=0↔x=y:=by
 unfold zkL
 split
 ·rename_i h;refine ⟨λh0=>by omega,λe=>?_⟩
  subst e;rw [zmZ] at h;cases h
 ·split
  ·rename_i h;exact ⟨λ_=>h,λ_=>rfl⟩
  ·rename_i h;exact ⟨λh0=>by omega,λe=>absurd e h⟩
def zrV (x y:ByteArray):zkL x y < 0↔Op.bytesLess x.toList y.toList=true:=by
 unfold zkL
 split
 ·rename_i h;exact ⟨λ_=>h,λ_=>by omega⟩
 ·rename_i h;refine ⟨λh0=>?_,λe=>absurd e h⟩
  split at h0<;>omega
def znj (a b:Mov):zwL a b < 0↔zjb a b=true:=by
 unfold zwL zjb;simp only [zn]
 by_cases h1:a.moment=b.moment
 ·rw [if_pos h1,if_pos ((zgZ _ _).2 h1)]
  by_cases h2:a.kind=b.kind
  ·rw [if_pos h2,if_pos ((zwK _ _).2 h2)]
   by_cases h3:zkL a.name b.name=0
   ·rw [if_pos h3,<-zrV,h3]
   ·rw [if_neg h3];exact zrV _ _
  ·rw [if_neg h2,if_neg (λh=>h2 ((zwK _ _).1 h))];exact zrV _ _
 ·rw [if_neg h1,if_neg (λh=>h1 ((zgZ _ _).1 h)),decide_eq_true_eq];exact zgY _ _
def zi8:bfC zwL=zjb:=by
 funext a b
 show decide (zwL a b < 0)=zjb a b
 by_cases h:zwL a b < 0
 ·rw [decide_eq_true h,(znj a b).1 h]
 ·rw [decide_eq_false h];exact (Bool.eq_false_iff.2 λh2=>h ((znj a b).2 h2)).symm
theorem zr7 (n:ByteArray):∀ l,atL n l < l.length
 | []=>by simp [atL]
 | x::r=>by have:=zr7 n r;simp only [atL,xaw];(repeat' split)<;>omega
def zpA (b:Bk) (n:ByteArray):Slt:=(b.slots[(atL n (b.slots.map (·.req.name))).toNat]?).getD ⟨⟨s0,s0,s0,s0,s0,s0,⟨0,0,0⟩,0,0,0,0⟩,s0,[],[]⟩
theorem zrb {α:Type} (p:α->Bool):∀ l,zdG p l < l.length
 | []=>by simp [zdG]
 | x::r=>by have:=zrb p r;simp only [zdG,xaw];(repeat' split)<;>omega
def zuo (A B:List ByteArray):Pure prog 77 [.sl 1 (A.map .s),.sl 1 (B.map .s)] (.b (decide (A=B))):=by
 refine pz func77 f77.eq_1 λhw X hX=>?_
 simp only [wfs,PV.wf,xaf,maxLen] at hw
 repeat' first|refine gC ?_ ?_<;>intro hc<;>try contradiction|refine gG ?_|show AK _;intro J Z|refine gJ ?_|omega|exact aT
 ·rw [decide_eq_false (λe=>hc (by rw [e]))];exact .refl _
 have hlen:A.length=B.length:=by omega
 refine zh (κ:=Nat) (λi=>⟨[(0,.p (.sl 1 (A.map .s))),(1,.p (.sl 1 (B.map .s))),(5,.p (.i .i64 i))],[],[],false⟩) (λi=>i<=A.length/\A.take i=B.take i) (λi=>A.length - i) 0 ?_ ?_ ?_
 ·exact sR
 ·simp
 ·intro i hi
  repeat first|refine gG ?_|show AK _;intro J Z|refine gJ ?_|omega|exact aT
  (refine gC ?_ ?_<;>intro hc<;>try contradiction)
  ·obtain ⟨x,hx⟩:=zj (i:=i) (l:=A) (by omega)
   obtain ⟨y,hy⟩:=zj (i:=i) (l:=B) (by omega)
   have qe:=aI @hx @hy;repeat' first|refine gC ?_ ?_<;>intro hc<;>try contradiction|refine gG ?_|show AK _;intro J Z|refine gJ ?_|omega|exact aT
   ·rw [decide_eq_false (λe=>hc (by subst e;rw [hx] at hy;injection hy))];exact .refl _
   ·exact ⟨i+1,⟨by omega,by rw [zE hx,zE hy,hi.2,hc]⟩,by omega,by simp⟩
  ·repeat' first|refine gC ?_ ?_<;>intro hc<;>try contradiction|refine gG ?_|show AK _;intro J Z|refine gJ ?_|omega|exact aT
   have e:i=A.length:=by omega
   have h2:=hi.2;rw [e,xai,hlen,xai] at h2;rw [decide_eq_true h2];exact .refl _
section
variable {α:Type}
def zaV (bef:α->α->Bool) (x:α) (out:List α):Nat->Nat
 | 0=>0
 | n+1=>match out[n]? with
  | some y=>if bef x y then zaV bef x out n else n+1
  | none=>n+1
def zfC (bef:α->α->Bool) (out:List α) (x:α):List α:=out.take (zaV bef x out out.length)++x::out.drop (zaV bef x out out.length)
theorem zj7 (bef:α->α->Bool) (x:α) (out:List α):∀ n,zaV bef x out n<=n
 | 0=>xam _
 | n+1=>by
  have:=zj7 bef x out n;simp only [zaV];(repeat' split)<;>omega
theorem zj8 (bef:α->α->Bool) (x:α) (out:List α):∀ n i,zaV bef x out n<=i->i < n->∃ y,out[i]?=some y/\bef x y=true
 | 0,i,_,h=>by omega
 | n+1,i,h,hi=>by
  simp only [zaV] at h
  split at h
  ·rename_i y hy
   split at h
   ·by_cases e:i=n
    ·subst e;exact ⟨y,hy,by assumption⟩
    ·exact zj8 bef x out n i h (by omega)
   ·omega
  ·omega
theorem zgK (bef:α->α->Bool) (x:α) (out:List α):∀ n k y,zaV bef x out n=k+1->out[k]?=some y->bef x y=false
 | 0,_,_,h,_=>by cases h
 | n+1,k,y,h,hy=>by
  simp only [zaV] at h
  split at h
  ·rename_i z hz
   split at h
   ·exact zgK bef x out n k y h hy
   ·have e:n=k:=by omega
    subst e;rw [hz] at hy;cases hy;rename_i hb;simpa using hb
  ·rename_i hz;have e:n=k:=by omega
   subst e;rw [hz] at hy;cases hy
def zou (bef:α->α->Bool) (out:List α) (x:α):(zfC bef out x).Perm (x::out):=by
 unfold zfC;refine List.perm_middle.trans ?_;rw [xap]
theorem zbG (bef:α->α->Bool):∀ (l out:List α),(l.foldl (zfC bef) out).Perm (out++l)
 | [],out=>by simp
 | x::l,out=>by
  refine (zbG bef l (zfC bef out x)).trans ?_;refine ((zou bef out x).append_right l).trans ?_;simpa using (List.perm_middle (a:=x) (l₁:=out) (l₂:=l)).symm
def zaJ (c:α->α->Int) (x y:α):Bool:=decide (c x y < 0)
def zdW (c:α->α->Int) (L:List α) (k:Nat):List α:=(L.take k).foldl (zfC (zaJ c)) []
def zz (c:α->α->Int) (L:List α):List α:=L.foldl (zfC (zaJ c)) []
def zdE {c:α->α->Int} {L:List α} {k:Nat} (h:k<=L.length):(zdW c L k).length=k:=by
 have:=(zbG (zaJ c) (L.take k) []).length_eq;rw [zdW,this];simp;omega
def zqP {c:α->α->Int} {L:List α} {k:Nat} {x:α} (h:L[k]?=some x):zdW c L (k+1)=zfC (zaJ c) (zdW c L k) x:=by
 rw [zdW,xaT,h,xaJ];rfl
def zu (c:α->α->Int) (L:List α):(zz c L).length=L.length:=by
 have:=(zbG (zaJ c) L []).length_eq;rw [zz,this];simp
def zeO (c:α->α->Int) (L:List α) (k:Nat):List α:=zdW c L k++L.drop k
def zbs {c:α->α->Int} {L:List α} {k:Nat} (h:k<=L.length\/k=1):(zeO c L k).length=L.length:=by
 rcases L with _|⟨x,r⟩
 ·rcases h with h|h<;>(try simp at h)<;>subst h<;>simp [zeO,zdW]
 ·rw [zeO,xad,zdE (by rcases h with h|h<;>simp at *<;>omega),xau]
  rcases h with h|h<;>simp at *<;>omega
def zlX (c:α->α->Int) (L:List α):zeO c L 1=L:=by
 rcases L with _|⟨x,r⟩<;>simp [zeO,zdW,zfC,zaV]
def zgW (c:α->α->Int) (L:List α) {k:Nat} (h:L.length<=k):zeO c L k=zz c L:=by
 rw [zeO,zdW,xaq h,xby h,xat];rfl
def djP (out:List α) (x:α) (rest:List α) (j:Nat):List α:=out.take j++x::(out.drop j++rest)
def zfg {out:List α} {x:α} {rest:List α} {j:Nat} (h:j<=out.length):(djP out x rest j).length=out.length+1+rest.length:=by
 simp [djP];omega
def zgU {c:α->α->Int} {L:List α} {i:Nat} {x:α} (h:L[i]?=some x):djP (zdW c L i) x (L.drop (i+1)) i=zeO c L i:=by
 have hi:=(xaa.1 h).1;have hl:=zdE (c:=c) (L:=L) (k:=i) (by omega)
 rw [djP,zeO,xaq (by omega),xby (by omega),xaG,xaO hi,(xaa.1 h).2]
def zdJ {c:α->α->Int} {L:List α} {i j:Nat} {x:α} (h:L[i]?=some x) (hj:j=zaV (zaJ c) x (zdW c L i) i):djP (zdW c L i) x (L.drop (i+1)) j=zeO c L (i+1):=by
 have hi:=(xaa.1 h).1;rw [zeO,zqP h,zfC,zdE (by omega),<-hj,djP];simp
def zrF {out:List α} {x y:α} {rest:List α} {j:Nat} (h:out[j]?=some y):(djP out x rest (j+1))[j]?=some y/\(djP out x rest (j+1))[j+1]?=some x:=by
 have hj:=(xaa.1 h).1;have hl:(out.take j).length=j:=by simp;omega
 rw [djP,xaT,h,xaj];refine ⟨?_,?_⟩
 ·rw [xay (by omega),hl];simp
 ·rw [xay (by omega),hl];simp
def zi0 {out:List α} {x y:α} {rest:List α} {j:Nat} (h:out[j]?=some y):((djP out x rest (j+1)).set (j+1) y).set j x=djP out x rest j:=by
 have hj:=(xaa.1 h).1;have hl:(out.take j).length=j:=by simp;omega
 have hd:out.drop j=y::out.drop (j+1):=by rw [xaO hj,(xaa.1 h).2]
 rw [djP,djP,xaT,h,hd,xaj,xbL _ _ (by omega),hl,xbL _ _ (by omega),hl]
 simp
def zfc {c:α->α->Int} {x:α} {out:List α} {q:Nat} {y:α} (hy:out[q]?=some y) (hb:¬c x y < 0):zaV (zaJ c) x out (q+1)=q+1:=by
 simp only [zaV,hy];rw [if_neg (by simp [zaJ];omega)]
def ziP {c:α->α->Int} {x:α} {out:List α} {q:Nat} {y:α} (hy:out[q]?=some y) (hb:c x y < 0):zaV (zaJ c) x out (q+1)=zaV (zaJ c) x out q:=by
 simp only [zaV,hy];rw [if_pos (by simp [zaJ];omega)]
end
def zq7 {α:Type} {lt:α->α->Bool} (hs:SW lt) {L:List α} (h:srt lt L) (x:α):zfC lt L x=insL lt x L:=by
 unfold zfC;generalize hk:zaV lt x L L.length=k;have hkl:=zj7 lt x L L.length;have hge:=zj8 lt x L L.length;have hla:=zgK lt x L L.length;rw [hk] at hkl hge hla
 conv=>rhs;rw [<-xap k L]
 refine (ziO (λu hu=>?_) λv hv=>?_).symm
 ·cases k with
  | zero=>simp at hu
  | succ k=>
   obtain ⟨z,hz⟩:∃ z,L[k]?=some z:=⟨_,xac (by omega)⟩
   have hb:=hla k z rfl hz;obtain ⟨i,hi⟩:=xa8 hu;have hik:=(xaa.1 hi).1;simp only [xao] at hik;rw [xaN,if_pos (by omega)] at hi
   by_cases e:i=k
   ·subst e;rw [hz] at hi;cases hi;exact hb
   ·have:=xaZ.1 h i k (by omega) (by omega) (by omega)
    rw [xac (by omega)] at hi hz
    rw [xa0 hi,xa0 hz] at this;exact hs.nt _ _ _ hb this
 ·rw [List.head?_drop] at hv;have hlt:=(xaa.1 hv).1;obtain ⟨y,hy,hb⟩:=hge k (xam _) hlt;rw [hv] at hy;cases hy;exact hb
def zd8 {α:Type} {lt:α->α->Bool} (hs:SW lt) (L:List α):L.foldl (zfC lt) []=zcl lt L:=by
 induction L using zgn with
 | h0=>rfl
 | hs L x ih=>rw [xaJ,zb9,<-ih];exact zq7 hs (by rw [ih];exact zaU hs L) x
def zhs {α:Type} (c:α->α->Int) (L:List α):(zz c L).Perm L:=zbG (zaJ c) L []
def zlW (p:Per):(zaK p).Pairwise λa b=>a < b:=by
 unfold zaK;generalize (p.to - p.fro+1).toNat=n
 induction n with
 | zero=>simp
 | succ n ih=>
  rw [xa7,xbc,xcn];refine ⟨ih,?_,?_⟩
  ·simp only [xas,xb4,xat];split<;>simp
  ·intro a ha b hb;obtain ⟨k,hk,ha⟩:=xaz.1 ha;have hk:=xaQ.1 hk;simp only [xas,xb4,xat] at hb
   split at ha
   ·split at hb
    ·simp at ha hb;omega
    ·cases hb
   ·cases ha
def zuA {r:Req} {o:Mov} (h:o ∈ zhk r):∃ d,d ∈ zaK r.per/\o=zj0 r d:=by
 obtain ⟨d,hd,rfl⟩:=xaM.1 h;exact ⟨d,hd,rfl⟩
def zks {r:Req} (h:zbY r=0) {d:Int} (hd:d ∈ zaK r.per):zhS (zj0 r d)=0:=by
 have hp:=zaI (zeR h).1;have hm:=zeR h;have hdm:=zeM hd;unfold zbY at h;unfold zhS;simp only [zi,zdR] at h ⊢;simp only [zj0];refine ⟨by omega,?_⟩
 simp only [h,true_and,and_true]
structure Wis where
 req:Req
 ear:Int
 lat:Int
 step:Int
 least:Int
 most:Int
abbrev Wis.cells (w:Wis):List PV:=[.s w.req.name,.s w.req.carrier,.s w.req.kind,.s w.req.term,.s w.req.partner,.s w.req.link,.i .i64 w.req.per.fro,.i .i64 w.req.per.to,.i .i64 w.req.per.days,.i .i64 w.req.minute,.i .i64 w.req.seats,.i .i64 w.req.size,.i .i64 w.req.noise,.i .i64 w.ear,.i .i64 w.lat,.i .i64 w.step,.i .i64 w.least,.i .i64 w.most]
abbrev Wis.pv (w:Wis):PV:=.agg w.cells
structure Res where
 name:ByteArray
 minute:Int
 gr:Bool
abbrev Res.pv (r:Res):PV:=.agg [.s r.name,.i .i64 r.minute,.b r.gr]
theorem zpx {α:Type} {lt:α->α->Prop} (irr:∀ a,¬lt a a) (tr:∀ a b c,lt a b->lt b c->lt a c):∀ {A B:List α},A.Pairwise lt->B.Pairwise lt->(∀ x,x ∈ A↔x ∈ B)->A=B
 | [],[],_,_,_=>rfl
 | [],b::B,_,_,h=>by have:=(h b).2 (by simp);simp at this
 | a::A,[],_,_,h=>by have:=(h a).1 (by simp);simp at this
 | a::A,b::B,hA,hB,h=>by
  obtain ⟨hA1,hA2⟩:=xbz.1 hA;obtain ⟨hB1,hB2⟩:=xbz.1 hB;have e:a=b:=by
   refine xbw λhne=>?_
   have h1:a ∈ B:=((xaF.1 ((h a).1 (by simp))).resolve_left hne)
   have h2:b ∈ A:=((xaF.1 ((h b).2 (by simp))).resolve_left λe=>hne e.symm)
   exact irr a (tr _ _ _ (hA1 b h2) (hB1 a h1))
  subst e;rw [zpx irr tr hA2 hB2 λx=>⟨λhx=>?_,λhx=>?_⟩]
  ·exact ((xaF.1 ((h x).1 (xaI _ hx))).resolve_left λe=>irr a (by have:=hA1 x hx;rw [e] at this;exact this))
  ·exact ((xaF.1 ((h x).2 (xaI _ hx))).resolve_left λe=>irr a (by have:=hB1 x hx;rw [e] at this;exact this))
def zdV (n:Int):Int:=max n (-n)
def cmpC (m a b:Int):Int:=zn [zi9 (zdV (a - m)) (zdV (b - m)),zi9 a b]
def zg2 (m e l s:Int):Nat:=((m - e) / s+(l - m) / s+1).toNat
def zkM (m e l s:Int):List Int:=(List.range (zg2 m e l s)).map λn:Nat=>m - (m - e) / s*s+n*s
def zvF {m e l s:Int} (hs:1<=s) (h1:e<=m) (h2:m<=l) {x:Int}:x ∈ zkM m e l s↔e<=x/\x<=l/\∃ k:Int,x=m+k*s:=by
 have p0:0<=(m - e) / s:=xbe (by omega) (by omega)
 have q0:0<=(l - m) / s:=xbe (by omega) (by omega)
 have p1:(m - e) / s*s<=m - e:=Int.ediv_mul_le _ (by omega)
 have p2:m - e < ((m - e) / s+1)*s:=Int.lt_ediv_add_one_mul_self _ (by omega)
 have q1:(l - m) / s*s<=l - m:=Int.ediv_mul_le _ (by omega)
 have q2:l - m < ((l - m) / s+1)*s:=Int.lt_ediv_add_one_mul_self _ (by omega)
 unfold zkM zg2;generalize (m - e) / s=p at *;generalize (l - m) / s=q at *;simp only [xaM,xaQ]
 constructor
 ·rintro ⟨n,hn,rfl⟩;have e1:((n:Int) - p)*s=n*s - p*s:=Int.sub_mul ..;have b1:(n:Int)*s<=(p+q)*s:=Int.mul_le_mul_of_nonneg_right (by omega) (by omega)
  have b2:0<=(n:Int)*s:=Int.mul_nonneg (by omega) (by omega)
  rw [Int.add_mul] at b1;exact ⟨by omega,by omega,(n:Int) - p,by rw [e1];omega⟩
 ·rintro ⟨g1,g2,k,rfl⟩;rw [Int.add_mul,Int.one_mul] at p2 q2;have c1:-p<=k:=by
   refine Decidable.byContradiction λhk=>?_
   have:(p+1)*s<=(-k)*s:=Int.mul_le_mul_of_nonneg_right (by omega) (by omega)
   rw [Int.add_mul,Int.one_mul,Int.neg_mul] at this
   omega
  have c2:k<=q:=by
   refine Decidable.byContradiction λhk=>?_
   have:(q+1)*s<=k*s:=Int.mul_le_mul_of_nonneg_right (by omega) (by omega)
   rw [Int.add_mul,Int.one_mul] at this
   omega
  refine ⟨(k+p).toNat,by omega,?_⟩
  rw [xbl (by omega),Int.add_mul];omega
section
variable {α:Type}
end
def zkG (L:List Wis):List ByteArray:=L.map (·.req.name)
def zeH (n:ByteArray) (L:List Wis):Int:=atL n (zkG L)
def zuE (L:List Wis) (w:Wis):Int:=if w.req.link=s0 then -1 else zeH w.req.link L
def zau (L:List Wis) (i:Nat):Int:=match L[i]? with|some w=>zuE L w|none=>-1
def zac (w:Wis):List Int:=zz (cmpC w.req.minute) (zkM w.req.minute w.ear w.lat w.step)
def zfI (w:Wis):Int:=zn [zbY w.req,zfA w.req.carrier,zo6 w.req.partner,zo6 w.req.link,rng w.ear 0 1439,rng w.lat 0 1439,if w.req.minute < w.ear\/w.lat < w.req.minute then 11 else 0,rng w.step 1 120,if 96 < (zg2 w.req.minute w.ear w.lat w.step:Int) then 22 else 0,rng w.least 0 1440,rng w.most 0 1440,if w.most < w.least then 11 else 0]
def zcB (L:List Wis) (i:Nat) (w:Wis):Int:=zn [zfI w,if 0<=zeH w.req.name (L.take i) then 9 else 0]
def zjj (L:List Wis) (i:Nat) (w:Wis):Int:=
 if w.req.link=s0 then 0 else
 match L[(zeH w.req.link L).toNat]? with
 | some o=>if zeH w.req.link L < 0 then 10 else if zeH w.req.link L=i\/o.req.link≠w.req.name\/o.req.kind=w.req.kind\/¬(o.req.per.fro=w.req.per.fro/\o.req.per.to=w.req.per.to/\o.req.per.days=w.req.per.days) then 32 else 0
 | none=>10
def zav (L:List Wis):Int:=if 64 < (L.length:Int) then 5 else zn [zn (L.mapIdx (zcB L)),zn (L.mapIdx (zjj L))]
abbrev Unt:=Int × Int
def za7 (L:List Wis) (i:Nat):List Unt:=if zau L i < 0\/(i:Int) < zau L i then [((i:Int),zau L i)] else []
def zq (L:List Wis):List Unt:=(List.range L.length).flatMap (za7 L)
abbrev Opt:=Int × Int
def ze8 (a b:Wis) (x y:Int):Bool:=if a.req.kind=sD then decide (b.least<=x - y) && decide (x - y<=b.most) else decide (a.least<=y - x) && decide (y - x<=a.most)
def farO (a b:Wis) (o:Opt):Int:=zdV (o.1 - a.req.minute)+zdV (o.2 - b.req.minute)
def zdS (a b:Wis):List Opt:=(zac a).flatMap λx=>(zac b).flatMap λy=>if ze8 a b x y then [(x,y)] else []
def zpd (a b:Wis) (x y:Opt):Int:=zi9 (farO a b x) (farO a b y)
def zaS (L:List Wis) (u:Unt):List Opt:=match L[u.1.toNat]? with
 | none=>[]
 | some a=>if u.2 < 0 then (zac a).map λm=>(m,-1) else match L[u.2.toNat]? with
  | none=>[]
  | some b=>zz (zpd a b) (zdS a b)
def zl1 (a b:Wis):SW (zaJ (zpd a b)) where
 asym x y h:=by simp only [zaJ,zpd,decide_eq_true_eq,decide_eq_false_iff_not,zgY] at h ⊢;omega
 nt x y z h k:=by simp only [zaJ,zpd,decide_eq_false_iff_not,zgY] at h k ⊢;omega
def SlOk (s:Slt):Prop:=s.ls.length<=1000/\s.sh.length<=1000
def zwW (k n:Nat) (r:List LV):zfF (.row k n::r)=none:=rfl
structure BkOk (b:Bk):Prop where
 s:∀ s ∈ b.slots,SlOk s
 n:b.slots.length<=1000
 w:b.wait.length<=1000
theorem Wkr.set:∀ {ps qs:List PV} (i:Nat) {a c:PV},Wkr ps qs->Wks a.cells c.cells->Wkr (ps.set i a) (qs.set i c)
 | [],[],_,_,_,_,_=>trivial
 | [],_::_,_,_,_,h,_=>h.elim
 | _::_,[],_,_,_,h,_=>h.elim
 | _::_,_::_,0,_,_,h,k=>⟨k,h.2⟩
 | _::_,_::_,i+1,_,_,h,k=>⟨h.1,Wkr.set i h.2 k⟩
theorem zeG {α:Type} (p:α->Bool):∀ l:List α,decide (0<=zdG p l)=l.any p
 | []=>rfl
 | x::r=>by
  have ih:=zeG p r
  by_cases h:p x=true
  ·simp [zdG,h]
  ·simp only [zdG,if_neg h,List.any_cons,<-ih];rw [xbp] at h;rw [h,xcp]
   by_cases h2:zdG p r < 0
   ·rw [if_pos h2,decide_eq_false (by omega),decide_eq_false (by omega)]
   ·rw [if_neg h2,decide_eq_true (by omega),decide_eq_true (by omega)]
def nq:ByteArray:=bs [113]
def toN0:Int.toNat 0=0:=rfl
def lN {α:Type} (r:List α):List.append [] r=r:=rfl
def lC {α:Type} (a:α) (l r:List α):List.append (a::l) r=a::List.append l r:=rfl
def cFb {f:Nat} {fn lit:Func} {x:AC × List RV × Nat} (hf:prog.funcs[f]?=some fn) (he:fn=lit) (h:zoS prog lit=some x:=by
  (conv=>lhs;simp only [qT,qU,cI,cS,cB,cN,cL,cG,cM,zoS,zI,zbt,zcN,zao,zap,zcw,zsv,zkl,zaF,GB,Region.binds,mG,mT,Int.reduceNeg,Int.reduceLE,Nat.reduceLeDiff,Nat.reduceLT,and_self,reduceIte,xcj,Option.map_none,xbK,Option.bind_none,xaw,xbD,xak,xaC,xb3,List.filterMap_nil,xaG,xaH,xbE,xbh,xch,Option.all_some,Option.all_none,decide_true,decide_eq_true_eq,xcq,Option.toList_none,PV.cells,PV.isAgg,Nat.reduceAdd,Nat.reduceMul,Nat.reducePow,reduceCtorEq,Option.isSome_some,xcg,xaA,xbZ,List.size_toArray,Array.size_empty,lN,lC])
  try exact rfl) (hn : (fn.name == "runtime.NumGoroutine") = false := by kernel_rfl) : zc7 prog f = some x := by
 subst he
 unfold zc7
 rw [hf]
 show (if _ then _ else _)=_
 rw [hn,if_neg (by simp)]
 exact h
def zfY {α:Type} {f:Nat->α->Int} {l:List α} (h:zn (l.mapIdx f)=0) {i:Nat} {x:α} (hx:l[i]?=some x):f i x=0:=fE0 h _ (xae (zaj hx))
def zuz {r:Req} (h:zbY r=0):zfi (zhk r)=0/\(zhk r).length<=401:=by
 have hp:=zaI (zeR h).1;have hl:(zhk r).length<=401:=by
  have:=zeN r.per;simp only [zhk,xaf];omega
 refine ⟨zoT (by omega) (λx hx=>?_) ?_,hl⟩
 ·obtain ⟨d,hd,rfl⟩:=zuA hx;exact zks h hd
 ·unfold zhk;refine (xb8).2 ((zlW r.per).imp fun {a b} hab=>?_)
  simp only [zj0];omega
theorem zwU {n:ByteArray}:∀ {l:List ByteArray},¬atL n l < 0->l[(atL n l).toNat]?=some n
 | [],h=>absurd (show atL n [] < 0 by simp [atL]) h
 | x::r,h=>by
  simp only [atL] at h ⊢
  split
  ·rename_i e;simp [e]
  ·rename_i e;rw [if_neg e] at h
   split
   ·rename_i k;rw [if_pos k] at h;omega
   ·rename_i k;have h2:=zwU (l:=r) k;have h3:(atL n r+1).toNat=(atL n r).toNat+1:=by omega
    rw [h3];simpa using h2
theorem zg5 (n:ByteArray):∀ l:List ByteArray,0<=atL n l↔n ∈ l
 | []=>by simp [atL]
 | x::r=>by
  have ih:=zg5 n r;have:=zr9 n r;simp only [atL,xaF]
  by_cases h:x=n
  ·rw [if_pos h];exact ⟨λ_=>.inl h.symm,λ_=>by omega⟩
  ·rw [if_neg h]
   by_cases h2:atL n r < 0
   ·rw [if_pos h2];exact ⟨λh3=>by omega,λh3=>h3.elim (λe=>absurd e.symm h) λe=>by have:=ih.2 e;omega⟩
   ·rw [if_neg h2];exact ⟨λ_=>.inr (ih.1 (by omega)),λ_=>by omega⟩
structure Keeps (b y:Bk):Prop where
 r:y.slots.map (·.req)=b.slots.map (·.req)
 w:y.wait=b.wait
 v:chkBk y=0
abbrev sNm (S:List Slt):List ByteArray:=S.map (·.req.name)
abbrev wNm (W:List Wsh):List ByteArray:=W.map (·.req.name)
structure Vbk (S:List Slt) (W:List Wsh):Prop where
 n:S.length<=64
 s:∀ s ∈ S,zwN s=0
 m:W.length<=64
 w:∀ w ∈ W,zwM w=0
 d:(sNm S++wNm W).Nodup
 o:W.Pairwise (λx y=>cmpW x y < 0)
def zuJ {α:Type} {lt:α->α->Bool} {L:List α}:srt lt L->zcl lt L=L:=by
 induction L using zgn with
 | h0=>intro _;rfl
 | hs L x ih=>
  intro h;obtain ⟨h1,_,h3⟩:=xcn.1 h;rw [zb9,ih h1];have:=ziO (lt:=lt) (x:=x) (U:=L) (V:=[]) (λu hu=>h3 u hu x (by simp)) (by simp)
  rwa [xat] at this
def zlA (A B:List Mov):zhC zjb (zcl zjb A) B=zcl zjb (A++B):=by
 rw [zhC,zd9 zee,zeE zee,zuJ (zaU zee A),<-zeE zee]
abbrev Ky:=Nat × Int
section
variable {β:Type}
def ziL (k:Ky):List (Ky × β)->Option β
 | []=>none
 | e::r=>if e.1=k then some e.2 else ziL k r
def zjk (k:Ky) (v:β):List (Ky × β)->List (Ky × β)
 | []=>[(k,v)]
 | e::r=>if e.1=k then (k,v)::r else e::zjk k v r
theorem ziK (k j:Ky) (v:β):∀ E:List (Ky × β),ziL j (zjk k v E)=if j=k then some v else ziL j E
 | []=>by
  simp only [zjk,ziL]
  by_cases h:k=j
  ·rw [if_pos h,if_pos h.symm]
  ·rw [if_neg h,if_neg λe=>h e.symm]
 | e::E=>by
  have ih:=ziK k j v E;rw [zjk]
  by_cases h:e.1=k
  ·rw [if_pos h];simp only [ziL]
   by_cases h2:k=j
   ·rw [if_pos h2,if_pos h2.symm]
   ·rw [if_neg h2,if_neg λx=>h2 x.symm,if_neg λx=>h2 (h ▸ x)]
  ·rw [if_neg h];simp only [ziL,ih]
   by_cases h2:e.1=j
   ·rw [if_pos h2,if_pos h2,if_neg λx=>h (h2.trans x)]
   ·rw [if_neg h2,if_neg h2]
end
structure Brd where
 C:List (Ky × Int)
 G:List (Ky × List Int)
abbrev BgM:=List (Ky × List Int)
def zja (ls:List Lim) (k:Ky):List Int:=match ls[k.1]? with|some l=>zr5 l k.2|none=>[]
def zvH (ls:List Lim) (G:BgM) (k:Ky):List Int × BgM:=match ziL k G with
 | some L=>(L,G)
 | none=>(zja ls k,zjk k (zja ls k) G)
def zfD (o:Mov) (i:Nat) (l:Lim) (L:List Int):List Ky:=(L.filter λx=>decide (x<=o.moment) && decide (o.moment < x+l.len)).map λx=>(i,x)
def zwV (ls:List Lim) (o:Mov) (i:Nat) (l:Lim) (st:List Ky × BgM) (e:Nat):List Ky × BgM:=
 (st.1++zfD o i l (zvH ls st.2 (i,o.moment / 1440 - 1+e)).1,(zvH ls st.2 (i,o.moment / 1440 - 1+e)).2)
def zsw (ls:List Lim) (o:Mov) (st:List Ky × BgM) (i:Nat):List Ky × BgM:=match ls[i]? with
 | some l=>if zbI l o.kind o.term then (List.range 2).foldl (zwV ls o i l) st else st
 | none=>st
def arn (ls:List Lim) (G:BgM) (o:Mov):List Ky × BgM:=(List.range ls.length).foldl (zsw ls o) ([],G)
def zzR (ls:List Lim) (o:Mov) (i:Nat) (l:Lim) (e:Nat):List Ky:=zfD o i l (zja ls (i,o.moment / 1440 - 1+e))
def zsx (ls:List Lim) (o:Mov) (i:Nat):List Ky:=match ls[i]? with
 | some l=>if zbI l o.kind o.term then (List.range 2).flatMap (zzR ls o i l) else []
 | none=>[]
def arA (ls:List Lim) (o:Mov):List Ky:=(List.range ls.length).flatMap (zsx ls o)
def GOk (ls:List Lim) (G:BgM):Prop:=∀ k L,ziL k G=some L->L=zja ls k
def zr6 {ls:List Lim} {G:BgM} (h:GOk ls G) (k:Ky):(zvH ls G k).1=zja ls k/\GOk ls (zvH ls G k).2:=by
 unfold zvH;cases hg:ziL k G with
 | some L=>exact ⟨h k L hg,h⟩
 | none=>
  refine ⟨rfl,λj L hj=>?_⟩
  simp only [ziK] at hj
  split at hj
  ·rename_i e;injection hj with hj;rw [<-hj,e]
  ·exact h j L hj
theorem zjd {ls:List Lim} {o:Mov} {i:Nat} {l:Lim}:∀ (I:List Nat) (st:List Ky × BgM),GOk ls st.2->(I.foldl (zwV ls o i l) st).1=st.1++I.flatMap (zzR ls o i l)/\GOk ls (I.foldl (zwV ls o i l) st).2
 | [],st,h=>by simp [h]
 | e::I,st,h=>by
  obtain ⟨b1,b2⟩:=zr6 h (i,o.moment / 1440 - 1+e);have ih:=zjd (o:=o) (i:=i) (l:=l) I (zwV ls o i l st e) b2;rw [xbm];refine ⟨?_,ih.2⟩;rw [ih.1,zwV,b1,xas,xaj];rfl
theorem zjc {ls:List Lim} {o:Mov}:∀ (I:List Nat) (st:List Ky × BgM),GOk ls st.2->(I.foldl (zsw ls o) st).1=st.1++I.flatMap (zsx ls o)/\GOk ls (I.foldl (zsw ls o) st).2
 | [],st,h=>by simp [h]
 | i::I,st,h=>by
  have h1:(zsw ls o st i).1=st.1++zsx ls o i/\GOk ls (zsw ls o st i).2:=by
   unfold zsw zsx;cases hl:ls[i]? with
   | none=>simp [h]
   | some l=>
    simp only []
    split
    ·exact zjd _ st h
    ·simp [h]
  have ih:=zjc (o:=o) I (zsw ls o st i) h1.2;rw [xbm];refine ⟨?_,ih.2⟩;rw [ih.1,h1.1,xas,xaj]
def znr {ls:List Lim} {G:BgM} (h:GOk ls G) (o:Mov):(arn ls G o).1=arA ls o/\GOk ls (arn ls G o).2:=by
 have:=zjc (o:=o) (List.range ls.length) ([],G) h;exact ⟨by rw [arn,this.1,xaG];rfl,this.2⟩
def zbh (C:List (Ky × Int)) (k:Ky):Int:=(ziL k C).getD 0
def zf8 (t:Int) (C:List (Ky × Int)) (k:Ky):List (Ky × Int):=zjk k (zbh C k+t) C
def zpg (ls:List Lim) (b:Brd) (o:Mov) (t:Int):Brd:=⟨(arn ls b.G o).1.foldl (zf8 t) b.C,(arn ls b.G o).2⟩
def znh (t:Int) (C:List (Ky × Int)) (k j:Ky):zbh (zf8 t C k) j=zbh C j+if j=k then t else 0:=by
 unfold zbh zf8;rw [ziK]
 split
 ·rename_i e;subst e;rfl
 ·simp
theorem zi6 (t:Int) (j:Ky):∀ (W:List Ky) (C:List (Ky × Int)),W.Nodup->zbh (W.foldl (zf8 t) C) j=zbh C j+if j ∈ W then t else 0
 | [],C,_=>by simp
 | k::W,C,h=>by
  obtain ⟨h1,h2⟩:=xb0.1 h;rw [xbm,zi6 t j W _ h2,znh]
  by_cases e:j=k
  ·subst e;simp [h1]
  ·simp [e]
def za0 (b:Bool) (e:Int):Pure prog 106 [.b b,.i .i64 e] (.i .i64 (if b then e else 0)):=by
 refine pz func106 f106.eq_1 λhw X hX=>?_
 repeat' first|refine gC ?_ ?_<;>intro hc<;>try contradiction|refine gG ?_|show AK _;intro J Z|refine gJ ?_|omega|exact aT
 all_goals (subst hc;exact .refl _)
def zfM (n a b:Int):Pure prog 186 [.i .i64 n,.i .i64 a,.i .i64 b] (.i .i64 (rng n a b)):=by
 refine pz func186 f186.eq_1 λhw X hX=>?_
 repeat' first|refine gC ?_ ?_<;>intro hc<;>try contradiction|refine za (za0 _ _) ?_|refine gG ?_|show AK _;intro J Z|refine gJ ?_|omega|exact aT
 simp only [rng,xbd,decide_eq_true_eq];exact .refl _
def zaG (l:List Int):Pure prog 79 [.sl 1 (l.map (.i .i64))] (.i .i64 (zn l)):=by
 refine pz func79 f79.eq_1 λhw X hX=>?_
 simp only [wfs,PV.wf,xaf,maxLen] at hw
 repeat' first|refine gC ?_ ?_<;>intro hc<;>try contradiction|refine gG ?_|show AK _;intro J Z|refine gJ ?_|omega|exact aT
 refine zh (κ:=Nat) (λi=>⟨[(5,.p (.sl 1 (l.map (.i .i64)))),(6,.p (.i .i64 l.length)),(7,.p (.i .i64 i))],[],[],false⟩) (λi=>i<=l.length/\∀ x ∈ l.take i,x=0) (λi=>l.length - i) 0 ?_ ?_ ?_
 ·exact sR
 ·simp
 ·intro i hi
  repeat first|refine gG ?_|show AK _;intro J Z|refine gJ ?_|omega|exact aT
  (refine gC ?_ ?_<;>intro hc<;>try contradiction)
  ·obtain ⟨x,hx⟩:=zj (i:=i) (l:=l) (by omega)
   have qe:=@hx;repeat' first|refine gC ?_ ?_<;>intro hc<;>try contradiction|refine gG ?_|show AK _;intro J Z|refine gJ ?_|omega|exact aT
   ·rw [zbr hi.2 hx hc];exact .refl _
   ·exact ⟨i+1,⟨by omega,zb0 hi.2 hx hc⟩,by omega,by simp⟩
  ·repeat' first|refine gC ?_ ?_<;>intro hc<;>try contradiction|refine gG ?_|show AK _;intro J Z|refine gJ ?_|omega|exact aT
   have e:i=l.length:=by omega
   subst e;rw [zbj hi.2];exact .refl _
def zfO (n:Int) (hn:-1000000000<=n) (hm:n<=1000000000):Pure prog 165 [.i .i64 n] (.i .i64 (max n (-n))):=by
 rw [show max n (-n)=max n (0 - n) by rw [Int.zero_sub]]
 refine pz func165 f165.eq_1 λhw X hX=>?_
 exact gD0
abbrev kyP (k:Ky):PV:=.agg [.i .i64 (k.1:Int),.i .i64 k.2]
abbrev cE (e:Ky × Int):PV × PV:=(kyP e.1,.i .i64 e.2)
abbrev gE (e:Ky × List Int):PV × PV:=(kyP e.1,.sl 1 (e.2.map (.i .i64)))
def zuI (i:Nat) (x:Int) (k:Ky):eqCells [PV.i .i64 (i:Int),.i .i64 x] [PV.i .i64 (k.1:Int),.i .i64 k.2]=decide (k=(i,x)):=by
 simp only [eqCells,eqPV,xbN];rw [<-Bool.decide_and];refine decide_eq_decide.2 ⟨λ⟨a,b⟩=>Prod.ext (by omega) b.symm,λe=>?_⟩
 subst e;exact ⟨rfl,rfl⟩
theorem zCo (i:Nat) (x:Int):∀ C:List (Ky × Int),mget (.agg [.i .i64 (i:Int),.i .i64 x]) (C.map cE)=(ziL (i,x) C).map (.i .i64)
 | []=>rfl
 | e::C=>by
  have:=zuI i x e.1;simp only [xak,mget,ziL,PV.cells,this,zCo i x C]
  by_cases h:e.1=(i,x)<;>simp [h]
theorem zBz (i:Nat) (x:Int):∀ G:BgM,mget (.agg [.i .i64 (i:Int),.i .i64 x]) (G.map gE)=(ziL (i,x) G).map λL=>.sl 1 (L.map (.i .i64))
 | []=>rfl
 | e::G=>by
  have:=zuI i x e.1;simp only [xak,mget,ziL,PV.cells,this,zBz i x G]
  by_cases h:e.1=(i,x)<;>simp [h]
theorem zzH (i:Nat) (x v:Int):∀ C:List (Ky × Int),mput (.agg [.i .i64 (i:Int),.i .i64 x]) (.i .i64 v) (C.map cE)=(zjk (i,x) v C).map cE
 | []=>rfl
 | e::C=>by
  have:=zuI i x e.1;simp only [xak,mput,zjk,PV.cells,this,zzH i x v C]
  by_cases h:e.1=(i,x)<;>simp [h]
theorem zBy (i:Nat) (x:Int) (L:List Int):∀ G:BgM,mput (.agg [.i .i64 (i:Int),.i .i64 x]) (.sl 1 (L.map (.i .i64))) (G.map gE)=(zjk (i,x) L G).map gE
 | []=>rfl
 | e::G=>by
  have:=zuI i x e.1;simp only [xak,mput,zjk,PV.cells,this,zBy i x L G]
  by_cases h:e.1=(i,x)<;>simp [h]
theorem zr1 (i:Nat) (x:Int):∀ C:List (Ky × Int),keysOk [1,1] true (.agg [.i .i64 (i:Int),.i .i64 x]) (C.map cE)
 | []=>trivial
 | e::C=>⟨⟨rfl,by simp [PV.cells,eqCellsOk,eqOk]⟩,zr1 i x C⟩
theorem zwz (i:Nat) (x:Int):∀ G:BgM,keysOk [1,1] true (.agg [.i .i64 (i:Int),.i .i64 x]) (G.map gE)
 | []=>trivial
 | e::G=>⟨⟨rfl,by simp [PV.cells,eqCellsOk,eqOk]⟩,zwz i x G⟩
def zyA (i:Nat) (x:Int):eqCells (PV.agg [.i .i64 (i:Int),.i .i64 x]).cells (PV.agg [.i .i64 (i:Int),.i .i64 x]).cells=true:=by simp [PV.cells,eqCells,eqPV]
end Go.Proofs.YtbgckikhhcbmpaaGreat
