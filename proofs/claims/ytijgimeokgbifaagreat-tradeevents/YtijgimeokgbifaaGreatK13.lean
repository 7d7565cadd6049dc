/- Contracts of functions, for the claim. No conditions. -/
import Derived.Test.YtijgimeokgbifaaGreatK12
set_option linter.all false
set_option maxHeartbeats 8000000
set_option maxRecDepth 100000
namespace Go.Proofs.YtijgimeokgbifaaGreat
open Go.RowKit Tryz
theorem zg8 {α:Type} (p:α->Bool):∀ l:List α,decide (0<=zcX p l)=l.any p
 | []=>rfl
 | x::r=>by
  have ih:=zg8 p r
  by_cases h:p x=true
  ·simp [zcX,h]
  ·simp only [zcX,if_neg h,List.any_cons,<-ih];rw [Bool.not_eq_true] at h;rw [h,xcf]
   by_cases h2:zcX p r < 0
   ·rw [if_pos h2,decide_eq_false (by omega),decide_eq_false (by omega)]
   ·rw [if_neg h2,decide_eq_true (by omega),decide_eq_true (by omega)]
def zwb (s:SlR):Bool:=match s.ls with|.sl _ xs=>decide (0 < (xs.length:Int))|_=>false
def zku (b:Bk) (N:List ByteArray):Bool:=(N.map (zn b)).any λs=>decide (0 < (s.ls.length:Int))
def zrO (L:List Slt):(L.map Slt.raw).any zwb=L.any λs=>decide (0 < (s.ls.length:Int)):=by
 rw [List.any_map];congr;funext s;simp [zwb]
def zeT (b:Bk) (N:List ByteArray):List ByteArray:=(N.map (zn b)).map (·.holder)
def zs5 (Hs:List ByteArray) (i:Nat) (h:ByteArray):Int:=if 0<=atL h (Hs.take i) then 31 else 0
def zeg (b:Bk) (N:List ByteArray):Int:=zf [if zku b N=true then 19 else 0,zf ((zeT b N).mapIdx (zs5 (zeT b N)))]
abbrev nth (N:List ByteArray) (k:Nat):ByteArray:=(N[k]?).getD s0
def zcf (b:Bk) (N:List ByteArray):Nat->List PV
 | 0=>b.slots.map Slt.pv
 | k+1=>(zcf b N k).set (zx b (nth N k)) (trW (zn b (nth N k)) (nth (zeT b N) ((k+N.length - 1) % N.length)))
def zrj (b:Bk) (N:List ByteArray):Nat->List Slt
 | 0=>b.slots
 | k+1=>(zrj b N k).set (zx b (nth N k)) (trS (zn b (nth N k)) (nth (zeT b N) ((k+N.length - 1) % N.length)))
theorem zdo (b:Bk) (N:List ByteArray):∀ k,(zcf b N k).length=b.slots.length
 | 0=>by simp [zcf]
 | k+1=>by simp [zcf,zdo b N k]
theorem zkv (b:Bk) (N:List ByteArray) {j:Nat} {s:Slt} (hs:b.slots[j]?=some s) (hN:∀ n ∈ N,¬atL n (b.slots.map (·.req.name)) < 0):∀ k,k<=N.length->∃ c,(zcf b N k)[j]?=some c/\(c=s.pv\/∃ h,c=trW s h)
 | 0,_=>⟨s.pv,by simp [zcf,hs],.inl rfl⟩
 | k+1,hk=>by
  obtain ⟨c,h1,h2⟩:=zkv b N hs hN k (by omega)
  have hj:j < (zcf b N k).length:=(xaa.1 h1).1
  by_cases e:zx b (nth N k)=j
  ·obtain ⟨x,hx⟩:=zm (i:=k) (l:=N) (by omega)
   have hnx:nth N k=x:=by rw [nth,hx];rfl
   have:=(zcH (hN x (xad hx))).1;rw [<-hnx,e,hs] at this;injection this with this;exact ⟨_,by rw [zcf,e];exact xbD hj,.inr ⟨_,by rw [this]⟩⟩
  ·exact ⟨c,by rw [zcf,xbR e];exact h1,h2⟩
theorem zj0 (b:Bk) (N:List ByteArray):∀ k,Wkr (zcf b N k) ((zrj b N k).map Slt.pv)
 | 0=>.refl _
 | k+1=>by rw [zcf,zrj,xbb];exact .set _ (zj0 b N k) (zwf _ _)
def zlM (b:Bk) (N:List ByteArray):Bk:=if zeg b N=0 then ⟨zrj b N N.length,b.wait⟩ else bk0
def zqU (b:Bk) (N:List ByteArray) (hb:zfy b) (hN:∀ n ∈ N,¬atL n (b.slots.map (·.req.name)) < 0) (hn:N.length≤1000):Pure prog 134 [b.pv,.sl 1 (N.map .s)] (.tup [(zlM b N).pv,.i .i64 (zeg b N)]):=by
 obtain ⟨hs,hn1,hwl⟩:=hb
 refine zar (r:=if zeg b N=0 then .tup [.agg [.sl 16 (zcf b N N.length),.sl 14 (b.wait.map Wsh.pv)],.i .i64 0] else .tup [.agg [.nilsl,.nilsl],.i .i64 (zeg b N)]) ?_ ?_
 ·refine pz func134 f134.eq_1 fun hw X hX=>?_
  have h1257:=zqO (f:=209) (caps:=[.ip (.agg [.sl 16 (b.slots.map Slt.pv),.sl 14 (b.wait.map Wsh.pv)]) 0]) N (zn b) (fun n hn=>zqN b n (hN n hn)) (by omega)
  have h1259:=zqM (f:=211) (L:=N.map (zn b)) (p:=zwb) (fun w hw=>by
   obtain ⟨s,_,rfl⟩:=xaT.1 hw
   have:=zqL s
   rw [show zwb s.raw=decide (0 < (s.ls.length:Int)) by simp [zwb]];exact this)
  have hln:decide (0≤zcX zwb ((N.map (zn b)).map Slt.raw))=zku b N:=by rw [zg8,zrO];rfl
  rw [hln] at h1259
  have h1261:Pure prog 212 _ (.sl 1 ((zeT b N).map .s)):=zqK (f:=213) (N.map (zn b)) (·.holder) (fun s _=>zqJ s) (by simp;omega)
  by_cases hLn:zku b N=true
  ·have hE:zeg b N=19:=by rw [zeg,if_pos hLn,za1 (by decide)]
   rw [hE,if_neg (by decide)]
   have qe:=aI qR (aI @qN (aI @zaz (aI @zay (aI @zah (aI @hLn @decide_true)))));repeat' first|refine gC ?_ ?_<;>intro hc<;>try contradiction|refine zl [(100,200),(7,201)] (zbA b.slots b.wait hs (by omega) (by omega)) ?_|refine zA (h1257) ?_|refine za (h1259) ?_|refine za (h1261) ?_|refine gG ?_|show AK _;intro J Z|refine gJ ?_|omega|exact aT
   all_goals exact .refl _
  ·have hE:zeg b N=zf ((zeT b N).mapIdx (zs5 (zeT b N))):=by rw [zeg,if_neg hLn,za2 rfl,zfj]
   have hLf:zku b N=false:=by simpa using hLn
   have hHl:(zeT b N).length=N.length:=by simp [zeT]
   rw [hE]
   have qe:=aI qR (aI @qN (aI @zaz (aI @zay (aI @zah (aI @hLf @decide_true)))));repeat' first|refine gC ?_ ?_<;>intro hc<;>try contradiction|refine zl [(100,200),(7,201)] (zbA b.slots b.wait hs (by omega) (by omega)) ?_|refine zA (h1257) ?_|refine za (h1259) ?_|refine za (h1261) ?_|refine gG ?_|show AK _;intro J Z|refine gJ ?_|omega|exact aT
   generalize hH:zeT b N=Hs at hHl h1261 hE
   refine zi (κ:=Nat) (fun k=>⟨[(1,.p (.sl 1 (N.map .s))),(2,.lp 2 0),(4,.lp 4 0),(5,.p (.i .i64 0)),(6,.lp 6 0),(8,.p (.sl 1 (Hs.map .s))),(24,.p (.sl 1 (Hs.map .s))),(25,.p (.i .i64 Hs.length)),(26,.p (.i .i64 k))],[(2,.box [.p (.sl 16 (b.slots.map Slt.pv)),.p (.sl 14 (b.wait.map Wsh.pv))] true),(4,.box [.p .nilsl,.p .nilsl] false),(6,.box [.row 200 b.slots.length,.row 201 b.wait.length] false),(201,.row 73 14 (b.wait.map Wsh.pv) false),(200,.row 84 16 (b.slots.map Slt.pv) false)],[],false⟩) (fun k=>k≤Hs.length∧∀ x ∈ (Hs.mapIdx (zs5 Hs)).take k,x=0) (fun k=>Hs.length - k) 0 ?_ ?_ ?_
   ·exact sS
   ·simp
   ·intro k hk
    repeat first|refine gG ?_|show AK _;intro J Z|refine gJ ?_|omega|exact aT
    (refine gC ?_ ?_<;>intro hc<;>try contradiction)
    ·obtain ⟨x,hx⟩:=zm (i:=k) (l:=Hs) (by omega)
     by_cases hd:0≤atL x (Hs.take k)
     ·have hdE:zs5 Hs k x=31:=if_pos hd
      have hF:zf (Hs.mapIdx (zs5 Hs))=31:=by rw [zT hk.2 (zI hx) (by rw [hdE];decide),hdE]
      rw [hF,if_neg (by decide)]
      have hd':=eq_true hd
      have qe:=aI qR (aI @hx (aI @zel (aI @hd' @decide_true)));have jA:=zgF (Hs.take k) x;exact gD2
     ·have hdE:zs5 Hs k x=0:=if_neg hd
      have hd':=eq_false hd
      have qe:=aI qR (aI @hx (aI @zel (aI @hd' @decide_false)));repeat' first|refine gC ?_ ?_<;>intro hc<;>try contradiction|refine za (zgF (Hs.take k) x) ?_|refine gG ?_|show AK _;intro J Z|refine gJ ?_|omega|exact aT
      all_goals exact ⟨k+1,⟨by omega,zaB hk.2 (zI hx) hdE⟩,by omega,by simp⟩
    ·have hF:zf (Hs.mapIdx (zs5 Hs))=0:=by
      have e:k=(Hs.mapIdx (zs5 Hs)).length:=by simp;omega
      subst e;exact z4 hk.2
     rw [hF,if_pos rfl]
     have qe:=@qR;repeat' first|refine gC ?_ ?_<;>intro hc<;>try contradiction|refine gG ?_|show AK _;intro J Z|refine gJ ?_|omega|exact aT
     refine zi (κ:=Nat) (fun k=>⟨[(1,.p (.sl 1 (N.map .s))),(2,.lp 2 0),(4,.lp 4 0),(5,.p (.i .i64 0)),(6,.lp 6 0),(8,.p (.sl 1 (Hs.map .s))),(11,.p (.i .i64 N.length)),(40,.p (.i .i64 N.length)),(41,.p (.i .i64 k))],[(2,.box [.p (.sl 16 (b.slots.map Slt.pv)),.p (.sl 14 (b.wait.map Wsh.pv))] true),(4,.box [.p .nilsl,.p .nilsl] false),(6,.box [.row 200 b.slots.length,.row 201 b.wait.length] false),(201,.row 73 14 (b.wait.map Wsh.pv) false),(200,.row 84 16 (zcf b N k) false)],[],false⟩) (fun k=>k≤N.length) (fun k=>N.length - k) 0 ?_ ?_ ?_
     ·refine gJ ?_;simp [zcf]
     ·simp
     ·intro k hk
      have hpl:=zdo b N k
      repeat first|refine gG ?_|show AK _;intro J Z|refine gJ ?_|omega|exact aT
      (refine gC ?_ ?_<;>intro hc<;>try contradiction)
      ·obtain ⟨x,hx⟩:=zm (i:=k) (l:=N) (by omega)
       have hnx:nth N k=x:=by rw [nth,hx];rfl
       obtain ⟨hsl,hfi,hi⟩:=zcH (hN x (xad hx))
       have hfind:=za7 b x
       rw [hfi] at hfind
       obtain ⟨c,hc1,hc2⟩:=zkv b N hsl hN k hk
       have hjl:(k+N.length - 1) % N.length < Hs.length:=by rw [hHl];exact Nat.mod_lt _ (by omega)
       obtain ⟨y,hy⟩:=zm (i:=(k+N.length - 1) % N.length) (l:=Hs) hjl
       have hny:nth (zeT b N) ((k+N.length - 1) % N.length)=y:=by rw [hH,nth,hy];rfl
       have hr:((k:Int)+(N.length:Int) - 1).tmod (N.length:Int)=(((k+N.length - 1) % N.length:Nat):Int):=by
        rw [show ((k:Int)+(N.length:Int) - 1)=((k+N.length - 1:Nat):Int) by omega];exact (Int.ofNat_tmod _ _).symm
       have hg:=fun a=>zc3 (zcf b N k) (zx b x) a (by omega)
       have hnx1:zcf b N (k+1)=(zcf b N k).set (zx b x) (trW (zn b x) y):=by rw [zcf,hnx,hny]
       rcases hc2 with rfl|⟨h,rfl⟩
       ·have qe:=aI qR (aI @hx (aI @hy (aI @hr (aI @hpl (aI @hc1 (aI @hg (aI @List.set_set.{0} @List.length_set.{0})))))));repeat' first|refine gC ?_ ?_<;>intro hc<;>try contradiction|refine za (hfind) ?_|refine gG ?_|show AK _;intro J Z|refine gJ ?_|omega|exact aT
        exact ⟨k+1,by omega,by omega,rfl,by rw [hnx1],by rw [zdo];exact xaj _⟩
       ·have qe:=aI qR (aI @hx (aI @hy (aI @hr (aI @hpl (aI @hc1 (aI @hg (aI @List.set_set.{0} @List.length_set.{0})))))));repeat' first|refine gC ?_ ?_<;>intro hc<;>try contradiction|refine za (hfind) ?_|refine gG ?_|show AK _;intro J Z|refine gJ ?_|omega|exact aT
        exact ⟨k+1,by omega,by omega,rfl,by rw [hnx1],by rw [zdo];exact xaj _⟩
      ·have e:k=N.length:=by omega
       subst e
       have qe:=aI qR (aI @hpl @zah);exact gD0
 ·by_cases h:zeg b N=0
  ·rw [if_pos h,zlM,if_pos h,h]
   exact .tup ⟨.agg ⟨.sl (zj0 b N _),.refl _,trivial⟩,.refl _,trivial⟩
  ·rw [if_neg h,zlM,if_neg h];exact zbt _
def unkE (b:Bk) (n:ByteArray):Int:=if atL n (b.slots.map (·.req.name)) < 0 then 10 else 0
def zwk (b:Bk) (o t:ByteArray):Int:=zf [unkE b o,unkE b t,if o=t then 9 else 0]
def zpQ (b:Bk) (o t:ByteArray):Int:=if zwk b o t=0 then zeg b [o,t] else zwk b o t
def zpt (b:Bk) (o t:ByteArray):Bk:=if zpQ b o t=0 then zlM b [o,t] else bk0
def zwg {b:Bk} {n:ByteArray} (h:unkE b n=0):¬atL n (b.slots.map (·.req.name)) < 0:=λk=>by rw [unkE,if_pos k] at h;omega
def zuA {b:Bk} {N:List ByteArray} (h:zeg b N≠0):zlM b N=bk0:=if_neg h
def zwl {b:Bk} {o t:ByteArray} (h:zpQ b o t≠0):zpt b o t=bk0:=if_neg h
def zq2 (b:Bk) (o t:ByteArray) (hb:zfy b):Pure prog 79 [b.pv,.s o,.s t] (.tup [(zpt b o t).pv,.i .i64 (zpQ b o t)]):=by
 by_cases h:zwk b o t=0
 ·have hC:zpQ b o t=zeg b [o,t]:=if_pos h;have hB:zpt b o t=zlM b [o,t]:=by
   rw [zpt,hC];split
   ·rfl
   ·rename_i k;rw [zuA k]
  rw [hB,hC];have h1:(zf [if atL o (b.slots.map (·.req.name)) < 0 then 10 else 0,if atL t (b.slots.map (·.req.name)) < 0 then 10 else 0,if o=t then 9 else 0]=0)=True:=eq_true h
  have hp:=zqU b [o,t] hb (λn hn=>by
   simp only [xaA,List.not_mem_nil,or_false] at hn
   rcases hn with rfl|rfl
   ·exact zwg (fE0 h _ (by simp))
   ·exact zwg (fE0 h _ (by simp))) (by simp)
  refine pz func79 f79.eq_1 λhw X hX=>?_
  have qe:=aI qR (aI @qN @h1);have jA:=zY b o;have jB:=zY b t;have jC:=λu1 u2=>zU u1 u2;have jD:=λu1 u2 u3=>zw [u1,u2,u3];have jE:=hp;exact gD8
 ·have hC:zpQ b o t=zwk b o t:=if_neg h;have hB:zpt b o t=bk0:=by rw [zpt,hC,if_neg h]
  rw [hB,hC];have h1:(zf [if atL o (b.slots.map (·.req.name)) < 0 then 10 else 0,if atL t (b.slots.map (·.req.name)) < 0 then 10 else 0,if o=t then 9 else 0]=0)=False:=eq_false h
  refine zar (r:=.tup [.agg [.nilsl,.nilsl],.i .i64 (zwk b o t)]) ?_ (zbt _);refine pz func79 f79.eq_1 λhw X hX=>?_
  have qe:=aI qR (aI @qN @h1);have jA:=zY b o;have jB:=zY b t;have jC:=λu1 u2=>zU u1 u2;have jD:=λu1 u2 u3=>zw [u1,u2,u3];exact gD4
def zkn (b:Bk) (o t:ByteArray) (hb:zG b=0->zfy b):Pure prog 33 [b.pv,.s o,.s t] (.tup [(zhm b (zpt b o t) (zpQ b o t)).1.pv,.i .i64 (zhm b (zpt b o t) (zpQ b o t)).2]):=by
 by_cases h:zG b=0
 ·have e1:(zG b=0)=True:=eq_true h;rw [zhj h zwl];refine pz func33 f33.eq_1 λhw X hX=>?_
  have qe:=aI qR (aI @qN @e1);have jA:=zV b;have jB:=zq2 b o t (hb h);exact gD2
 ·have e1:(zG b=0)=False:=eq_false h;rw [zeD h];refine zar (r:=.tup [.agg [.nilsl,.nilsl],.i .i64 (zG b)]) ?_ (zbt _);refine pz func33 f33.eq_1 λhw X hX=>?_
  have qe:=aI qR (aI @qN @e1);have jA:=zV b;exact gD2
abbrev slX (s:Slt) (p q:PV):PV:=.agg [.s s.req.name,.s s.req.carrier,.s s.req.kind,.s s.req.term,.s s.req.partner,.s s.req.link,.i .i64 s.req.per.fro,.i .i64 s.req.per.to,.i .i64 s.req.per.days,.i .i64 s.req.minute,.i .i64 s.req.seats,.i .i64 s.req.size,.i .i64 s.req.noise,.s s.holder,p,q]
abbrev slL (s:Slt) (i:Option Addr × Nat):PV:=slX s (.rs i.1 s.ls.length i.2) (.sl 1 (s.sh.map .s))
def zgm (s:Slt) (h:zld s):ActsE prog 189 [.p s.pv] [] (λi=>.p (slL s i)) (λi:Option Addr × Nat=>[(105,.hrow 91 3 (s.ls.map Lea.pv) i.1 i.2)]):=by
 obtain ⟨h1,h2⟩:=h;refine zdE (cF func189 f189.eq_1) (by simp) (by simp [scPs,scP]) (by simp [scObj]) trivial (λi=>by simp [scObj]) (λi=>by simp [zc1]) λX hX=>?_
 unfold zE ghO;refine zgx (zne ⟨[(1,.lp 1 0),(2,.lp 2 0)],[(1,.box [.p (.s s.req.name),.p (.s s.req.carrier),.p (.s s.req.kind),.p (.s s.req.term),.p (.s s.req.partner),.p (.s s.req.link),.p (.i .i64 s.req.per.fro),.p (.i .i64 s.req.per.to),.p (.i .i64 s.req.per.days),.p (.i .i64 s.req.minute),.p (.i .i64 s.req.seats),.p (.i .i64 s.req.size),.p (.i .i64 s.req.noise),.p (.s s.holder),.p (.sl 3 (s.ls.map Lea.pv)),.p (.sl 1 (s.sh.map .s))] false),(2,.box [.p (.s (bs [])),.p (.s (bs [])),.p (.s (bs [])),.p (.s (bs [])),.p (.s (bs [])),.p (.s (bs [])),.p (.i .i64 0),.p (.i .i64 0),.p (.i .i64 0),.p (.i .i64 0),.p (.i .i64 0),.p (.i .i64 0),.p (.i .i64 0),.p (.s (bs [])),.p .nilsl,.p .nilsl] false)],[],false⟩ ?_ (zgx (zne ⟨[(1,.lp 1 0),(2,.lp 2 0)],[(1,.box [.p (.s s.req.name),.p (.s s.req.carrier),.p (.s s.req.kind),.p (.s s.req.term),.p (.s s.req.partner),.p (.s s.req.link),.p (.i .i64 s.req.per.fro),.p (.i .i64 s.req.per.to),.p (.i .i64 s.req.per.days),.p (.i .i64 s.req.minute),.p (.i .i64 s.req.seats),.p (.i .i64 s.req.size),.p (.i .i64 s.req.noise),.p (.s s.holder),.row 105 s.ls.length,.row 106 s.sh.length] false),(2,.box [.p (.s (bs [])),.p (.s (bs [])),.p (.s (bs [])),.p (.s (bs [])),.p (.s (bs [])),.p (.s (bs [])),.p (.i .i64 0),.p (.i .i64 0),.p (.i .i64 0),.p (.i .i64 0),.p (.i .i64 0),.p (.i .i64 0),.p (.i .i64 0),.p (.s (bs [])),.p .nilsl,.p .nilsl] false),(105,.row 91 3 (s.ls.map Lea.pv) false),(106,.row 9 1 (s.sh.map .s) false)],[],false⟩ ?_ ?_)))
 ·have qe:=@qR;repeat' first|refine gC ?_ ?_<;>intro hc<;>try contradiction|refine gG ?_|show AK _;intro J Z|refine gJ ?_|omega|exact aT
  all_goals (show Cov _ _;simp only [qS,seval]<;>simp)
 ·have qe:=aI qR (aI @qN (aI @zah (aI @List.map_nil.{0,0} @List.append_nil.{0})));repeat' first|refine gC ?_ ?_<;>intro hc<;>try contradiction|refine zl [(5,105)] (zlb s.ls (by omega)) ?_|refine zl [(5,106)] (zla s.sh (by omega)) ?_|refine gG ?_|show AK _;intro J Z|refine gJ ?_|omega|exact aT
  all_goals (show Cov _ _;simp only [qS,seval]<;>simp)
 refine zlv (zdv 105 (e:=91) (sz:=3) (xs:=s.ls.map Lea.pv) rfl (λa0 c0=>[(1,.lp 1 0),(2,.lp 2 0)]) (λa0 c0=>[(1,.box [.p (.s s.req.name),.p (.s s.req.carrier),.p (.s s.req.kind),.p (.s s.req.term),.p (.s s.req.partner),.p (.s s.req.link),.p (.i .i64 s.req.per.fro),.p (.i .i64 s.req.per.to),.p (.i .i64 s.req.per.days),.p (.i .i64 s.req.minute),.p (.i .i64 s.req.seats),.p (.i .i64 s.req.size),.p (.i .i64 s.req.noise),.p (.s s.holder),.p (.rs a0 (s.ls.map Lea.pv).length c0),.row 106 s.sh.length] false),(2,.box [.p (.s (bs [])),.p (.s (bs [])),.p (.s (bs [])),.p (.s (bs [])),.p (.s (bs [])),.p (.s (bs [])),.p (.i .i64 0),.p (.i .i64 0),.p (.i .i64 0),.p (.i .i64 0),.p (.i .i64 0),.p (.i .i64 0),.p (.i .i64 0),.p (.s (bs [])),.p .nilsl,.p .nilsl] false),(106,.row 9 1 (s.sh.map .s) false)]) λa0 c0=>⟨⟨.inl rfl,.inl rfl,trivial⟩,⟨.inr ⟨_,rfl,_,_,_,rfl,rfl,.inl rfl,.inl rfl,.inl rfl,.inl rfl,.inl rfl,.inl rfl,.inl rfl,.inl rfl,.inl rfl,.inl rfl,.inl rfl,.inl rfl,.inl rfl,.inl rfl,.inr ⟨by show LV.row 105 _=LV.row 105 _;simp,rfl⟩,.inl rfl,trivial⟩,.inl rfl,.inl rfl,trivial⟩,by simp [scEnv,scP,zj],by simp [scObj,scPs,scP,zj]⟩) ?_
 rintro _ ⟨a0,c0,rfl⟩;refine (show Run _ _ (St.mk _ _ [] false) _ from ?_)
 have qe:=aI qR (aI @zah (aI @reN (aI @reR (@List.length_map.{0,0}))));repeat' first|refine gC ?_ ?_<;>intro hc<;>try contradiction|refine gG ?_|show AK _;intro J Z|refine gJ ?_|omega|exact aT
 exact ⟨(a0,c0),.inl (.mkP)⟩
def zpP {L:List Slt} {k:Nat} {x:Slt} (h:L[k]?=some x) (v:PV):((L.take (k+1)).map Slt.pv).set k v=(L.take k).map Slt.pv++[v]:=by
 have hk:k < L.length:=(xaa.1 h).1;rw [zam h,xaO,List.map_singleton,xbJ _ _ (by simp;omega)]
 simp [xbw (Nat.le_of_lt hk)]
def zmN {L:List Slt} {k i0:Nat} {x:Slt} (hi:i0 < k) (h:L[k]?=some x) (v:PV):((L.take (k+1)).map Slt.pv).set i0 v=((L.take k).map Slt.pv).set i0 v++[x.pv]:=by
 have hk:k < L.length:=(xaa.1 h).1;rw [zam h,xaO,List.map_singleton,List.set_append_left _ _ (by simp;omega)]
def zmC {e sz:Nat} {xs:List PV} (p q:HD->PV) (L:List Slt) (i0:Nat) (s:Slt) (h0:L[i0]?=some s) (hs:∀ s ∈ L,zld s) (hn:L.length<=1000000) (h1:∀ i,(p i).one=true/\(q i).one=true)
  (hf:ActsE prog 189 [.p s.pv] [] (λi=>.p (slX s (p i) (q i))) (λi=>[(105,.hrow e sz xs i.1 i.2)])) :
  ActsE prog 188 [.p (.sl 16 (L.map Slt.pv)),.p (.fn (.func 189) [] [])] [] (λ_=>.row 100 L.length) (λi=>[(100,.row 84 16 ((L.map Slt.pv).set i0 (slX s (p i) (q i))) false),(305,.hrow e sz xs i.1 i.2)]):=by
 have hi0:i0 < L.length:=(xaa.1 h0).1;refine zdE (cF func188 f188.eq_1) (by simp) (by simp [scPs,scP]) (by simp [scObj]) trivial (λi=>by simp [scObj]) (λi=>by simp [zc1]) λX hX=>?_
 unfold zE ghO;have qe:=aI qR (aI @List.map_nil.{0,0} @List.append_nil.{0});repeat' first|refine gC ?_ ?_<;>intro hc<;>try contradiction|refine gG ?_|show AK _;intro J Z|refine gJ ?_|omega|exact aT
 refine zaO 100 84 16 [(1,.p (.fn (.func 189) [] [])),(5,.row 100 0),(8,.p (.sl 16 (L.map Slt.pv))),(9,.p (.i .i64 L.length)),(10,.p (.i .i64 0))] [] ?_ ?_
 ·simp only [Own,zaL,zaA,zbr,zax,qS,seval]
 refine zna (λk=>⟨[(1,.p (.fn (.func 189) [] [])),(5,.row 100 k),(8,.p (.sl 16 (L.map Slt.pv))),(9,.p (.i .i64 L.length)),(10,.p (.i .i64 k))],[(100,.row 84 16 ((L.take k).map Slt.pv) false)],[],false⟩)
  (λk i=>⟨[(1,.p (.fn (.func 189) [] [])),(5,.row 100 k),(8,.p (.sl 16 (L.map Slt.pv))),(9,.p (.i .i64 L.length)),(10,.p (.i .i64 k))],[(100,.row 84 16 (((L.take k).map Slt.pv).set i0 (slX s (p i) (q i))) false),(305,.hrow e sz xs i.1 i.2)],[],false⟩) L.length i0 hi0 ?_ (λk hk=>?_) ?_ (λk i hk hkn=>?_) (λi=>?_)
 ·exact sS
 ·obtain ⟨x,hx⟩:=zm (i:=k) (l:=L) (by omega)
  have hl:(L.take k).length=k:=by rw [xai];omega
  have hlt:=eq_true (show (k:Int) < (L.length:Int) by omega)
  have qe:=aI qR (aI @hx (aI @hl (aI @hlt (aI @decide_true @nk_n))));repeat' first|refine gC ?_ ?_<;>intro hc<;>try contradiction|refine zk (zgE x (hs x (xad hx))) ?_|refine gG ?_|show AK _;intro J Z|refine gJ ?_|omega|exact aT
  exact ⟨rfl,by rw [zam hx];simp,by simp;omega⟩
 ·have hl:(L.take i0).length=i0:=by rw [xai];omega
  have hlt:=eq_true (show (i0:Int) < (L.length:Int) by omega)
  have qe:=aI qR (aI @h0 (aI @hl (aI @hlt (aI @decide_true @nk_n))));repeat' first|refine gC ?_ ?_<;>intro hc<;>try contradiction|refine gG ?_|show AK _;intro J Z|refine gJ ?_|omega|exact aT
  refine zeL [(105,305)] (hf:=hf) (hn:=λi=>?_)
  obtain ⟨h1a,h1b⟩:=h1 i;have qe:=aI qR (aI @qN (aI @hl (aI @ze4 (aI @h1a (aI @h1b @nk_n)))));repeat' first|refine gC ?_ ?_<;>intro hc<;>try contradiction|refine gG ?_|show AK _;intro J Z|refine gJ ?_|omega|exact aT
  exact ⟨i,rfl,⟨by rw [zpP h0],rfl⟩,by simp;omega,by simp [scObj]⟩
 ·obtain ⟨x,hx⟩:=zm (i:=k) (l:=L) (by omega)
  have hl:(L.take k).length=k:=by rw [xai];omega
  have hlt:=eq_true (show (k:Int) < (L.length:Int) by omega)
  have qe:=aI qR (aI @hx (aI @hl (aI @hlt (aI @decide_true (aI @List.length_set.{0} @nk_n)))));repeat' first|refine gC ?_ ?_<;>intro hc<;>try contradiction|refine zk (zgE x (hs x (xad hx))) ?_|refine gG ?_|show AK _;intro J Z|refine gJ ?_|omega|exact aT
  exact ⟨rfl,by rw [zmN hk hx],by simp;omega,by simp [scObj]⟩
 ·have hlt:=eq_false (show ¬(L.length:Int) < (L.length:Int) by omega)
  have qe:=aI qR (aI @hlt (aI @decide_false (aI @nk_e (aI @reN (aI @reR (aI @List.take_length.{0} @List.length_set.{0}))))));repeat' first|refine gC ?_ ?_<;>intro hc<;>try contradiction|refine gG ?_|show AK _;intro J Z|refine gJ ?_|omega|exact aT
  exact ⟨i,.inl .mkE⟩
def zmD {e sz:Nat} {xs:List PV} (p q:HD->PV) (L:List Slt) (W:List Wsh) (i0:Nat) (s:Slt) (h0:L[i0]?=some s) (hs:∀ s ∈ L,zld s) (hn:L.length<=1000000) (hW:W.length<=1000000) (h1:∀ i,(p i).one=true/\(q i).one=true)
  (hf:ActsE prog 189 [.p s.pv] [] (λi=>.p (slX s (p i) (q i))) (λi=>[(105,.hrow e sz xs i.1 i.2)])) :
  ActsE prog 117 [.p (.agg [.sl 16 (L.map Slt.pv),.sl 14 (W.map Wsh.pv)])] [] (λ_=>.agg [.row 100 L.length,.row 7 W.length]) (λi=>[(100,.row 84 16 ((L.map Slt.pv).set i0 (slX s (p i) (q i))) false),(7,.row 73 14 (W.map Wsh.pv) false),(305,.hrow e sz xs i.1 i.2)]):=by
 have hA:=λl=>eq_true (zvY l)
 have hT:List.take W.length (W.map Wsh.pv)=W.map Wsh.pv:=by rw [xag];simp
 have hD:∀ x:PV,List.drop W.length (List.replicate W.length x)=[]:=λx=>by simp
 refine zdE (cF func117 f117.eq_1) (by simp) (by simp [scPs,scP]) (by simp [scObj]) trivial (λi=>by simp [scObj]) (λi=>by simp [zc1]) λX hX=>?_
 unfold zE ghO;have qe:=aI qR (aI @hA (aI @hT (aI @hD (aI @Nat.min_self (aI @qN (aI @zah (aI @rtN (aI @rtR (aI @List.map_nil.{0,0} @List.append_nil.{0})))))))));repeat' first|refine gC ?_ ?_<;>intro hc<;>try contradiction|refine gG ?_|show AK _;intro J Z|refine gJ ?_|omega|exact aT
 refine zly [(100,100),(305,305)] (hf:=zmC p q L i0 s h0 hs hn h1 hf) (hn:=λi=>?_)
 refine zcn 1 ?_;have qe:=aI qR (aI @qN @ze4);repeat' first|refine gC ?_ ?_<;>intro hc<;>try contradiction|refine gG ?_|show AK _;intro J Z|refine gJ ?_|omega|exact aT
 refine zfS (us:=[.row 100 L.length,.row 7 W.length]) (zs:=[.row 100 L.length,.row 7 W.length]) (sE) (sE) (by simp only [fillLOk]<;>simp [LV.cells,LV.known,za5,rn,rens,LV.ren,LObj.ren,qS,seval]) rfl (zF ?_)
 have qe:=aI qR (aI @qN (aI @ze4 (aI @hT (aI @hD (aI @List.append_nil.{0} (aI @reN (aI @reR (aI @zah (aI @List.length_map.{0,0} @List.length_set.{0})))))))));repeat' first|refine gC ?_ ?_<;>intro hc<;>try contradiction|refine gG ?_|show AK _;intro J Z|refine gJ ?_|omega|exact aT
 all_goals exact ⟨i,.inl .mk⟩
def zw9 {b:Bk} {c n:ByteArray} {e:Int} (h:zhn b c n e=0):b.slots[zx b n]?=some (zn b n):=(za6 h).2.1
def findX (b:Bk) (n:ByteArray) (i0:Nat) (s:Slt) (p q:PV) (h0:b.slots[i0]?=some s):Pure prog 81 [.agg [.sl 16 ((b.slots.map Slt.pv).set i0 (slX s p q)),.sl 14 (b.wait.map Wsh.pv)],.s n] (.i .i64 (atL n (b.slots.map (·.req.name)))):=by
 have h:=zes ((b.slots.map Slt.raw).set i0 ⟨s.req,s.holder,p,q⟩) b.wait n;have e1:((b.slots.map Slt.raw).set i0 ⟨s.req,s.holder,p,q⟩).map SlR.pv=(b.slots.map Slt.pv).set i0 (slX s p q):=by
  rw [xbb,zeI]
 have e2:((b.slots.map Slt.raw).set i0 ⟨s.req,s.holder,p,q⟩).map (·.req.name)=b.slots.map (·.req.name):=by
  obtain ⟨hi,he⟩:=xaa.1 h0;rw [xbb,xbn];refine List.ext_getElem (by simp) λj h1 h3=>?_
  rw [List.getElem_set]
  split
  ·rename_i e;subst e;simp [he]
  ·simp
 rw [e1,e2] at h;exact h
def zkZ {cf e sz:Nat} {caps:List PV} {xs xs':List PV} (p q:HD->PV) (raw:HD->PV) (fin:PV) (b:Bk) (c n:ByteArray) (er ce:Int) (hb:zfy b) (h1:∀ i,(p i).one=true/\(q i).one=true)
  (hown:zhn b c n er=0) (hcl:ActsE prog 189 [.p (zn b n).pv] [] (λi=>.p (slX (zn b n) (p i) (q i))) (λi=>[(105,.hrow e sz xs i.1 i.2)]))
  (hf:∀ i:HD,ActsE prog cf ([.ep 900 b.slots.length (zx b n) 0]++caps.map .p) [(900,.row 84 16 ((b.slots.map Slt.pv).set (zx b n) (slX (zn b n) (p i) (q i))) false),(901,.hrow e sz xs i.1 i.2)] (λ_=>.p (.i .i64 ce))
   (λj=>[(900,.row 84 16 ((b.slots.map Slt.pv).set (zx b n) (raw j)) false),(901,.hrow e sz xs' j.1 j.2)]))
  (hm:∀ j:HD,Mlt (.rs j.1 xs'.length j.2) (.sl sz xs') (raw j) fin) :
  Pure prog 129 [b.pv,.s c,.s n,.i .i64 er,.fn (.func cf) [] caps] (if ce=0 then .tup [.agg [.sl 16 ((b.slots.map Slt.pv).set (zx b n) fin),.sl 14 (b.wait.map Wsh.pv)],.i .i64 0] else .tup [.agg [.nilsl,.nilsl],.i .i64 ce]):=by
 obtain ⟨hat,hsl,hh,h3⟩:=za6 hown;obtain ⟨hs,hn,hwl⟩:=hb;obtain ⟨_,hfi,hi⟩:=zcH hat;refine pz func129 f129.eq_1 λhw X hX=>?_
 have hfd:(if atL n (b.slots.map (·.req.name)) < 0 then (10:Int) else 0)=zfd b.slots n:=rfl
 have h3t:(zf [zaG c,zfd b.slots n,er]=0)=True:=eq_true h3;have hcln:=zmD p q b.slots b.wait (zx b n) (zn b n) hsl hs (by omega) (by omega) h1 hcl
 have qe:=aI qR (aI @qN (aI @hfd (aI @h3t (aI @decide_true (aI @xam (aI @List.append_nil.{0} (aI @List.map_cons.{0,0} (@List.map_nil.{0,0}))))))));repeat' first|refine gC ?_ ?_<;>intro hc<;>try contradiction|refine za (zbv c) ?_|refine za (zY b n) ?_|refine za (zw [_,_,_]) ?_|refine gG ?_|show AK _;intro J Z|refine gJ ?_|omega|exact aT
 refine zlx [(100,200),(7,201),(305,305)] (hf:=hcln) (hn:=λi=>?_)
 have hfx:=findX b n (zx b n) (zn b n) (p i) (q i) hsl;rw [hfi] at hfx;have hg:=λa=>zc3 (b.slots.map Slt.pv) (zx b n) a (by simpa using hi)
 have qe:=aI qR (aI @qN (aI @zaz (aI @zay (aI @zah (aI @ze4 (aI @hg (aI @hh (aI @List.length_set.{0} (aI @List.length_map.{0,0} (aI @decide_true @xam))))))))));repeat' first|refine gC ?_ ?_<;>intro hc<;>try contradiction|refine za (hfx) ?_|refine gG ?_|show AK _;intro J Z|refine gJ ?_|omega|exact aT
 have qe:=λm=>znu m caps
 refine ziK [(900,200),(901,305)] (hf:=hf i) (hn:=λj=>?_)
 have hjm:=zf0 (hm j) (b.slots.map Slt.pv) (zx b n);refine zbL (zl7 305 (e:=e) (sz:=sz) (xs:=xs') (a0:=j.1) (c0:=j.2) [(45,.p (.i .i64 ce)),(10,.lp 10 0),(13,.lp 13 0)] [(10,.box [.p .nilsl,.p .nilsl] false),(13,.box [.row 200 b.slots.length,.row 201 b.wait.length] false),(200,.row 84 16 ((b.slots.map Slt.pv).set (zx b n) fin) false),(201,.row 73 14 (b.wait.map Wsh.pv) false)] rfl ⟨⟨.inl rfl,.inl rfl,.inl rfl,trivial⟩,⟨.inl rfl,.inl rfl,.inr ⟨_,rfl,_,_,_,_,_,rfl,rfl,hjm⟩,.inl rfl,trivial⟩,by simp [scEnv,scP,zj],by simp [scObj,scPs,scP,zj]⟩) ?_
 rintro _ rfl;refine (show zh _ _ _ _ _ (St.mk _ _ [] false) _ from zF ?_)
 by_cases hce:ce=0
 ·have hct:=eq_true hce;have qe:=aI qR (aI @qN (aI @zaz (aI @zay (aI @zah (aI @hct (aI @List.length_set.{0} (aI @List.length_map.{0,0} (aI @decide_true @xam))))))));exact gD0
 ·have hct:=eq_false hce;have qe:=aI qR (aI @qN (aI @zaz (aI @zay (aI @zah (aI @hct (aI @List.length_set.{0} (aI @List.length_map.{0,0} (aI @decide_false @xal))))))));exact gD0
def zoh {α:Type} (f:α->PV) (l:List α) (a:Option Addr) (c:Nat):PV.rs a l.length c=PV.rs a (l.map f).length c:=by rw [xaf]
def zsj (a:Option Addr) (n c:Nat):(PV.rs a n c).cells=[.rs a n c]:=rfl
def zvM {cf:Nat} {caps:List PV} (b:Bk) (c n:ByteArray) (e ce:Int) (hb:zfy b) (h:zhn b c n e≠0):Pure prog 129 [b.pv,.s c,.s n,.i .i64 e,.fn (.func cf) [] caps] (.tup [bk0.pv,.i .i64 (zfM b c n e ce)]):=by
 have hC:zfM b c n e ce≠0:=by rw [zfM,za1 h];exact h
 have:=zkl (caps:=caps) (cf:=cf) b c n e ce (b.slots.map Slt.pv) hb (by simp) (λk=>absurd k h)
 rw [if_neg hC] at this;exact zar this (zbt _)
def zvL {b:Bk} {c n:ByteArray} {e ce:Int} (h:zhn b c n e=0):zfM b c n e ce=ce:=by rw [zfM,za2 h,zfj]
end Go.Proofs.YtijgimeokgbifaaGreat
