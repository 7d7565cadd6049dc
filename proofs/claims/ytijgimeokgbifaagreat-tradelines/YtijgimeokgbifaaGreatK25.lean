/- Contracts of functions, for the claim. No conditions. -/
import Derived.Test.YtijgimeokgbifaaGreatK24
set_option linter.all false
set_option maxHeartbeats 8000000
set_option maxRecDepth 100000
namespace Go.Proofs.YtijgimeokgbifaaGreat
open Go.RowKit
theorem zg6 {α:Type} (p:α->Bool):∀ l:List α,decide (0<=zcY p l)=l.any p
 | []=>rfl
 | x::r=>by
  have ih:=zg6 p r
  by_cases h:p x=true
  ·simp [zcY,h]
  ·simp only [zcY,if_neg h,List.any_cons,<-ih]
   rw [Bool.not_eq_true] at h
   rw [h,Bool.false_or]
   by_cases h2:zcY p r < 0
   ·rw [if_pos h2,decide_eq_false (by omega),decide_eq_false (by omega)]
   ·rw [if_neg h2,decide_eq_true (by omega),decide_eq_true (by omega)]
def zv3 (s:SlR):Bool:=match s.ls with|.sl _ xs=>decide (0 < (xs.length:Int))|_=>false
def zku (b:Bk) (N:List ByteArray):Bool:=(N.map (zn b)).any λs=>decide (0 < (s.ls.length:Int))
theorem zrG (L:List Slt):(L.map Slt.raw).any zv3=L.any λs=>decide (0 < (s.ls.length:Int)):=by
 rw [List.any_map];congr;funext s;simp [zv3]
def zeU (b:Bk) (N:List ByteArray):List ByteArray:=(N.map (zn b)).map (·.holder)
def zsY (Hs:List ByteArray) (i:Nat) (h:ByteArray):Int:=if 0<=atL h (Hs.take i) then 31 else 0
def zeg (b:Bk) (N:List ByteArray):Int:=zg [if zku b N=true then 19 else 0,zg ((zeU b N).mapIdx (zsY (zeU b N)))]
abbrev nth (N:List ByteArray) (k:Nat):ByteArray:=(N[k]?).getD s0
def zch (b:Bk) (N:List ByteArray):Nat->List PV
 | 0=>b.slots.map Slt.pv
 | k+1=>(zch b N k).set (zx b (nth N k)) (trW (zn b (nth N k)) (nth (zeU b N) ((k+N.length - 1) % N.length)))
def zrb (b:Bk) (N:List ByteArray):Nat->List Slt
 | 0=>b.slots
 | k+1=>(zrb b N k).set (zx b (nth N k)) (trS (zn b (nth N k)) (nth (zeU b N) ((k+N.length - 1) % N.length)))
theorem zdp (b:Bk) (N:List ByteArray):∀ k,(zch b N k).length=b.slots.length
 | 0=>by simp [zch]
 | k+1=>by simp [zch,zdp b N k]
theorem zkv (b:Bk) (N:List ByteArray) {j:Nat} {s:Slt} (hs:b.slots[j]?=some s) (hN:∀ n ∈ N,¬atL n (b.slots.map (·.req.name)) < 0):∀ k,k<=N.length->∃ c,(zch b N k)[j]?=some c/\(c=s.pv\/∃ h,c=trW s h)
 | 0,_=>⟨s.pv,by simp [zch,hs],.inl rfl⟩
 | k+1,hk=>by
  obtain ⟨c,h1,h2⟩:=zkv b N hs hN k (by omega)
  have hj:j < (zch b N k).length:=(List.getElem?_eq_some_iff.1 h1).1
  by_cases e:zx b (nth N k)=j
  ·obtain ⟨x,hx⟩:=zm (i:=k) (l:=N) (by omega)
   have hnx:nth N k=x:=by rw [nth,hx];rfl
   have:=(zcJ (hN x (List.mem_of_getElem? hx))).1
   rw [<-hnx,e,hs] at this
   injection this with this
   exact ⟨_,by rw [zch,e];exact List.getElem?_set_self hj,.inr ⟨_,by rw [this]⟩⟩
  ·exact ⟨c,by rw [zch,List.getElem?_set_ne e];exact h1,h2⟩
theorem zj0 (b:Bk) (N:List ByteArray):∀ k,Wkr (zch b N k) ((zrb b N k).map Slt.pv)
 | 0=>.refl _
 | k+1=>by rw [zch,zrb,List.map_set];exact .set _ (zj0 b N k) (zv7 _ _)
def zlL (b:Bk) (N:List ByteArray):Bk:=if zeg b N=0 then ⟨zrb b N N.length,b.wait⟩ else bk0
theorem zqM (b:Bk) (N:List ByteArray) (hb:zfz b) (hN:∀ n ∈ N,¬atL n (b.slots.map (·.req.name)) < 0) (hn:N.length≤1000):Pure Tryz.prog 134 [b.pv,.sl 1 (N.map .s)] (.tup [(zlL b N).pv,.i .i64 (zeg b N)]):=by
 obtain ⟨hs,hn1,hwl⟩:=hb
 refine zat (r:=if zeg b N=0 then .tup [.agg [.sl 16 (zch b N N.length),.sl 14 (b.wait.map Wsh.pv)],.i .i64 0] else .tup [.agg [.nilsl,.nilsl],.i .i64 (zeg b N)]) ?_ ?_
 ·refine zf (cF Tryz.func134 Tryz.f134.eq_1) (by simp) fun hw X hX=>?_
  have h1257:=zqG (f:=209) (caps:=[.ip (.agg [.sl 16 (b.slots.map Slt.pv),.sl 14 (b.wait.map Wsh.pv)]) 0]) N (zn b) (fun n hn=>zqF b n (hN n hn)) (by omega)
  have h1259:=zqE (f:=211) (L:=N.map (zn b)) (p:=zv3) (fun w hw=>by
   obtain ⟨s,_,rfl⟩:=List.mem_map.1 hw
   have:=zqD s
   rw [show zv3 s.raw=decide (0 < (s.ls.length:Int)) by simp [zv3]];exact this)
  have hln:decide (0≤zcY zv3 ((N.map (zn b)).map Slt.raw))=zku b N:=by rw [zg6,zrG];rfl
  rw [hln] at h1259
  have h1261:Pure Tryz.prog 212 _ (.sl 1 ((zeU b N).map .s)):=zqC (f:=213) (N.map (zn b)) (·.holder) (fun s _=>zqB s) (by simp;omega)
  by_cases hLn:zku b N=true
  ·have hE:zeg b N=19:=by rw [zeg,if_pos hLn,za3 (by decide)]
   rw [hE,if_neg (by decide)]
   have qe:=aI qR (aI @qN (aI @zaA (aI @zaz (aI @zaf (aI @hLn @decide_true)))));repeat' first|refine gC ?_ ?_<;>intro hc<;>try contradiction|refine zl [(100,200),(7,201)] (zbC b.slots b.wait hs (by omega) (by omega)) ?_|refine zam (h1257) ?_|refine za (h1259) ?_|refine za (h1261) ?_|refine gG ?_|show AK _;intro K H|refine H _ _ ?_;clear H K|refine gJ ?_;try exact trivial|omega
   all_goals exact .refl _
  ·have hE:zeg b N=zg ((zeU b N).mapIdx (zsY (zeU b N))):=by rw [zeg,if_neg hLn,za4 rfl,zfk]
   have hLf:zku b N=false:=by simpa using hLn
   have hHl:(zeU b N).length=N.length:=by simp [zeU]
   rw [hE]
   have qe:=aI qR (aI @qN (aI @zaA (aI @zaz (aI @zaf (aI @hLf @decide_true)))));repeat' first|refine gC ?_ ?_<;>intro hc<;>try contradiction|refine zl [(100,200),(7,201)] (zbC b.slots b.wait hs (by omega) (by omega)) ?_|refine zam (h1257) ?_|refine za (h1259) ?_|refine za (h1261) ?_|refine gG ?_|show AK _;intro K H|refine H _ _ ?_;clear H K|refine gJ ?_;try exact trivial|omega
   generalize hH:zeU b N=Hs at hHl h1261 hE
   refine zj (κ:=Nat) (fun k=>⟨[(1,.p (.sl 1 (N.map .s))),(2,.lp 2 0),(4,.lp 4 0),(5,.p (.i .i64 0)),(6,.lp 6 0),(8,.p (.sl 1 (Hs.map .s))),(24,.p (.sl 1 (Hs.map .s))),(25,.p (.i .i64 Hs.length)),(26,.p (.i .i64 k))],[(2,.box [.p (.sl 16 (b.slots.map Slt.pv)),.p (.sl 14 (b.wait.map Wsh.pv))] true),(4,.box [.p .nilsl,.p .nilsl] false),(6,.box [.row 200 b.slots.length,.row 201 b.wait.length] false),(201,.row 73 14 (b.wait.map Wsh.pv) false),(200,.row 84 16 (b.slots.map Slt.pv) false)],[],false⟩) (fun k=>k≤Hs.length∧∀ x ∈ (Hs.mapIdx (zsY Hs)).take k,x=0) (fun k=>Hs.length - k) 0 ?_ ?_ ?_
   ·exact sS
   ·simp
   ·intro k hk
    repeat first|refine gG ?_|show AK _;intro K H|refine H _ _ ?_;clear H K|refine gJ ?_;try exact trivial|omega
    (refine gC ?_ ?_<;>intro hc<;>try contradiction)
    ·obtain ⟨x,hx⟩:=zm (i:=k) (l:=Hs) (by omega)
     by_cases hd:0≤atL x (Hs.take k)
     ·have hdE:zsY Hs k x=31:=if_pos hd
      have hF:zg (Hs.mapIdx (zsY Hs))=31:=by rw [zT hk.2 (zH hx) (by rw [hdE];decide),hdE]
      rw [hF,if_neg (by decide)]
      have hd':=eq_true hd
      have qe:=aI qR (aI @hx (aI @zel (aI @hd' @decide_true)));repeat' first|refine gC ?_ ?_<;>intro hc<;>try contradiction|refine za (zgF (Hs.take k) x) ?_|refine gG ?_|show AK _;intro K H|refine H _ _ ?_;clear H K|refine gJ ?_;try exact trivial|omega
      all_goals exact .refl _
     ·have hdE:zsY Hs k x=0:=if_neg hd
      have hd':=eq_false hd
      have qe:=aI qR (aI @hx (aI @zel (aI @hd' @decide_false)));repeat' first|refine gC ?_ ?_<;>intro hc<;>try contradiction|refine za (zgF (Hs.take k) x) ?_|refine gG ?_|show AK _;intro K H|refine H _ _ ?_;clear H K|refine gJ ?_;try exact trivial|omega
      all_goals exact ⟨k+1,⟨by omega,zaC hk.2 (zH hx) hdE⟩,by omega,by simp⟩
    ·have hF:zg (Hs.mapIdx (zsY Hs))=0:=by
      have e:k=(Hs.mapIdx (zsY Hs)).length:=by simp;omega
      subst e;exact z4 hk.2
     rw [hF,if_pos rfl]
     have qe:=@qR;repeat' first|refine gC ?_ ?_<;>intro hc<;>try contradiction|refine gG ?_|show AK _;intro K H|refine H _ _ ?_;clear H K|refine gJ ?_;try exact trivial|omega
     refine zj (κ:=Nat) (fun k=>⟨[(1,.p (.sl 1 (N.map .s))),(2,.lp 2 0),(4,.lp 4 0),(5,.p (.i .i64 0)),(6,.lp 6 0),(8,.p (.sl 1 (Hs.map .s))),(11,.p (.i .i64 N.length)),(40,.p (.i .i64 N.length)),(41,.p (.i .i64 k))],[(2,.box [.p (.sl 16 (b.slots.map Slt.pv)),.p (.sl 14 (b.wait.map Wsh.pv))] true),(4,.box [.p .nilsl,.p .nilsl] false),(6,.box [.row 200 b.slots.length,.row 201 b.wait.length] false),(201,.row 73 14 (b.wait.map Wsh.pv) false),(200,.row 84 16 (zch b N k) false)],[],false⟩) (fun k=>k≤N.length) (fun k=>N.length - k) 0 ?_ ?_ ?_
     ·refine gJ ?_;simp [zch]
     ·simp
     ·intro k hk
      have hpl:=zdp b N k
      repeat first|refine gG ?_|show AK _;intro K H|refine H _ _ ?_;clear H K|refine gJ ?_;try exact trivial|omega
      (refine gC ?_ ?_<;>intro hc<;>try contradiction)
      ·obtain ⟨x,hx⟩:=zm (i:=k) (l:=N) (by omega)
       have hnx:nth N k=x:=by rw [nth,hx];rfl
       obtain ⟨hsl,hfi,hi⟩:=zcJ (hN x (List.mem_of_getElem? hx))
       have hfind:=za9 b x
       rw [hfi] at hfind
       obtain ⟨c,hc1,hc2⟩:=zkv b N hsl hN k hk
       have hjl:(k+N.length - 1) % N.length < Hs.length:=by rw [hHl];exact Nat.mod_lt _ (by omega)
       obtain ⟨y,hy⟩:=zm (i:=(k+N.length - 1) % N.length) (l:=Hs) hjl
       have hny:nth (zeU b N) ((k+N.length - 1) % N.length)=y:=by rw [hH,nth,hy];rfl
       have hr:((k:Int)+(N.length:Int) - 1).tmod (N.length:Int)=(((k+N.length - 1) % N.length:Nat):Int):=by
        rw [show ((k:Int)+(N.length:Int) - 1)=((k+N.length - 1:Nat):Int) by omega];exact (Int.ofNat_tmod _ _).symm
       have hg:=fun a=>zc4 (zch b N k) (zx b x) a (by omega)
       have hnx1:zch b N (k+1)=(zch b N k).set (zx b x) (trW (zn b x) y):=by rw [zch,hnx,hny]
       rcases hc2 with rfl|⟨h,rfl⟩
       ·have qe:=aI qR (aI @hx (aI @hy (aI @hr (aI @hpl (aI @hc1 (aI @hg (aI @List.set_set.{0} @List.length_set.{0})))))));repeat' first|refine gC ?_ ?_<;>intro hc<;>try contradiction|refine za (hfind) ?_|refine gG ?_|show AK _;intro K H|refine H _ _ ?_;clear H K|refine gJ ?_;try exact trivial|omega
        exact ⟨k+1,by omega,by omega,rfl,by rw [hnx1],by rw [zdp];exact Nat.le_refl _⟩
       ·have qe:=aI qR (aI @hx (aI @hy (aI @hr (aI @hpl (aI @hc1 (aI @hg (aI @List.set_set.{0} @List.length_set.{0})))))));repeat' first|refine gC ?_ ?_<;>intro hc<;>try contradiction|refine za (hfind) ?_|refine gG ?_|show AK _;intro K H|refine H _ _ ?_;clear H K|refine gJ ?_;try exact trivial|omega
        exact ⟨k+1,by omega,by omega,rfl,by rw [hnx1],by rw [zdp];exact Nat.le_refl _⟩
      ·have e:k=N.length:=by omega
       subst e
       have qe:=aI qR (aI @hpl @zaf);repeat' first|refine gC ?_ ?_<;>intro hc<;>try contradiction|refine gG ?_|show AK _;intro K H|refine H _ _ ?_;clear H K|refine gJ ?_;try exact trivial|omega
       exact .refl _
 ·by_cases h:zeg b N=0
  ·rw [if_pos h,zlL,if_pos h,h]
   exact .tup ⟨.agg ⟨.sl (zj0 b N _),.refl _,trivial⟩,.refl _,trivial⟩
  ·rw [if_neg h,zlL,if_neg h];exact zbv _
def unkE (b:Bk) (n:ByteArray):Int:=if atL n (b.slots.map (·.req.name)) < 0 then 10 else 0
def zwc (b:Bk) (o t:ByteArray):Int:=zg [unkE b o,unkE b t,if o=t then 9 else 0]
def zpI (b:Bk) (o t:ByteArray):Int:=if zwc b o t=0 then zeg b [o,t] else zwc b o t
def zpm (b:Bk) (o t:ByteArray):Bk:=if zpI b o t=0 then zlL b [o,t] else bk0
theorem zv8 {b:Bk} {n:ByteArray} (h:unkE b n=0):¬atL n (b.slots.map (·.req.name)) < 0:=λk=>by rw [unkE,if_pos k] at h;omega
theorem zus {b:Bk} {N:List ByteArray} (h:zeg b N≠0):zlL b N=bk0:=if_neg h
theorem zwd {b:Bk} {o t:ByteArray} (h:zpI b o t≠0):zpm b o t=bk0:=if_neg h
theorem zqU (b:Bk) (o t:ByteArray) (hb:zfz b):Pure Tryz.prog 79 [b.pv,.s o,.s t] (.tup [(zpm b o t).pv,.i .i64 (zpI b o t)]):=by
 by_cases h:zwc b o t=0
 ·have hC:zpI b o t=zeg b [o,t]:=if_pos h
  have hB:zpm b o t=zlL b [o,t]:=by
   rw [zpm,hC];split
   ·rfl
   ·rename_i k;rw [zus k]
  rw [hB,hC]
  have h1:(zg [if atL o (b.slots.map (·.req.name)) < 0 then 10 else 0,if atL t (b.slots.map (·.req.name)) < 0 then 10 else 0,if o=t then 9 else 0]=0)=True:=eq_true h
  have hp:=zqM b [o,t] hb (λn hn=>by
   simp only [List.mem_cons,List.not_mem_nil,or_false] at hn
   rcases hn with rfl|rfl
   ·exact zv8 (fE0 h _ (by simp))
   ·exact zv8 (fE0 h _ (by simp))) (by simp)
  refine zf (cF Tryz.func79 Tryz.f79.eq_1) (by simp) λhw X hX=>?_
  have qe:=aI qR (aI @qN @h1);repeat' first|refine gC ?_ ?_<;>intro hc<;>try contradiction|refine za (zY b o) ?_|refine za (zY b t) ?_|refine za (zU _ _) ?_|refine za (zw [_,_,_]) ?_|refine zam (hp) ?_|refine gG ?_|show AK _;intro K H|refine H _ _ ?_;clear H K|refine gJ ?_;try exact trivial|omega
  exact .refl _
 ·have hC:zpI b o t=zwc b o t:=if_neg h
  have hB:zpm b o t=bk0:=by rw [zpm,hC,if_neg h]
  rw [hB,hC]
  have h1:(zg [if atL o (b.slots.map (·.req.name)) < 0 then 10 else 0,if atL t (b.slots.map (·.req.name)) < 0 then 10 else 0,if o=t then 9 else 0]=0)=False:=eq_false h
  refine zat (r:=.tup [.agg [.nilsl,.nilsl],.i .i64 (zwc b o t)]) ?_ (zbv _)
  refine zf (cF Tryz.func79 Tryz.f79.eq_1) (by simp) λhw X hX=>?_
  have qe:=aI qR (aI @qN @h1);repeat' first|refine gC ?_ ?_<;>intro hc<;>try contradiction|refine za (zY b o) ?_|refine za (zY b t) ?_|refine za (zU _ _) ?_|refine za (zw [_,_,_]) ?_|refine gG ?_|show AK _;intro K H|refine H _ _ ?_;clear H K|refine gJ ?_;try exact trivial|omega
  exact .refl _
theorem zkn (b:Bk) (o t:ByteArray) (hb:zF b=0->zfz b):Pure Tryz.prog 33 [b.pv,.s o,.s t] (.tup [(zhl b (zpm b o t) (zpI b o t)).1.pv,.i .i64 (zhl b (zpm b o t) (zpI b o t)).2]):=by
 by_cases h:zF b=0
 ·have e1:(zF b=0)=True:=eq_true h
  rw [zhi h zwd]
  refine zf (cF Tryz.func33 Tryz.f33.eq_1) (by simp) λhw X hX=>?_
  have qe:=aI qR (aI @qN @e1);repeat' first|refine gC ?_ ?_<;>intro hc<;>try contradiction|refine za (zV b) ?_|refine za (zqU b o t (hb h)) ?_|refine gG ?_|show AK _;intro K H|refine H _ _ ?_;clear H K|refine gJ ?_;try exact trivial|omega
  exact .refl _
 ·have e1:(zF b=0)=False:=eq_false h
  rw [zeD h]
  refine zat (r:=.tup [.agg [.nilsl,.nilsl],.i .i64 (zF b)]) ?_ (zbv _)
  refine zf (cF Tryz.func33 Tryz.f33.eq_1) (by simp) λhw X hX=>?_
  have qe:=aI qR (aI @qN @e1);repeat' first|refine gC ?_ ?_<;>intro hc<;>try contradiction|refine za (zV b) ?_|refine gG ?_|show AK _;intro K H|refine H _ _ ?_;clear H K|refine gJ ?_;try exact trivial|omega
  exact .refl _
end Go.Proofs.YtijgimeokgbifaaGreat
