/- The statement TradeTotals of chapter 8 (trade) holds of the given program: swaps, rings, transfers, leases, recalls and shares, as far as they are accepted, leave all movements, all requests and the waiting list as they were; each of them leaves a valid book; and a carrier is a holder afterwards exactly if it was one before, or the slot was transferred to it. No conditions. -/
import Derived.ProofKit
import Derived.OpenShut
import Derived.Carry
import Derived.OpenVars
import Derived.HandedShaped
import Derived.KernelRfl
import Derived.Laws.RangeAny
import Derived.Test.YtahmdjadnlpjoaaGreatRows
import Derived.Test.YtahmdjadnlpjoaaGreatT3
set_option linter.all false
set_option maxHeartbeats 8000000
namespace Go.Proofs.YtahmdjadnlpjoaaGreat
open Go.RowKit
set_option maxRecDepth 100000
set_option linter.unusedVariables false
set_option linter.unusedSimpArgs false
set_option maxHeartbeats 8000000
abbrev hls (y:Bk):List ByteArray:=y.slots.map (·.holder)
structure TotK (b y:Bk) (n:Nat) (to:ByteArray):Prop where
 k:yF b y
 c:n≠2→∀ w,ya1 w (hls y)=ya1 w (hls b)
 e:2 < n→hls y=hls b
 m:n≠2→∀ w ∈ hls y,w ∈ hls b
 t:n=2→∀ w ∈ hls y,w ∈ hls b∨w=to
theorem yal {b y:Bk} {n:Nat} {to:ByteArray} (hn:n < 2) (h:yF b y∧(hls y).Perm (hls b)):TotK b y n to:=
 ⟨h.1,fun _ w=>ybA h.2,fun k=>by omega,fun _ w hw=>h.2.mem_iff.1 hw,fun k=>by omega⟩
theorem yaD {b y:Bk} {n:Nat} {to:ByteArray} (hn:2 < n) (h:yF b y∧hls y=hls b):TotK b y n to:=
 ⟨h.1,fun _ w=>by rw [h.2],fun _=>h.2,fun _ w hw=>by rw [h.2] at hw;exact hw,fun k=>by omega⟩
theorem yb1 (b:Bk) (x:Exc):Pure Tryz.prog 13 [b.pv,x.pv] (.b true):=by
 refine zf (cF Tryz.func13 Tryz.f13.eq_1) (by simp) fun hw X hX=>?_
 by_cases hb:ybL b=true
 ·by_cases hx:ym x=true
  ·have hC:=yaW b
   by_cases hkb:zG b=0
   ·have hn:=nar_n hx
    obtain ⟨hok,hl1,hl2⟩:=sh_ok hb
    rw [hkb] at hC
    have n1:Int.toNat 1=1:=rfl
    have n2:Int.toNat 2=2:=rfl
    have n3:Int.toNat 3=3:=rfl
    have n4:Int.toNat 4=4:=rfl
    have n5:Int.toNat 5=5:=rfl
    have hA:=fun l:List ByteArray=>eq_true (allSt l)
    have h59:=ybX x (by omega)
    generalize nthW x.slots 0=p at h59
    generalize nthW x.slots 1=k at h59
    have hM:=pure1043 b
    rw [hkb] at hM
    have hS:=pure1060 b p k (fun _=>hok)
    rw [bkTo_ok hkb swpB_0] at hS
    have hR:=ybW b x.slots (fun _=>hok) (by omega)
    rw [bkTo_ok hkb ybl] at hR
    have hT:=ybV b x.carrier x.slot x.to (fun _=>hok)
    rw [bkTo_ok hkb trB_0] at hT
    have hL:=pure1035 b x.carrier x.slot x.lease (fun _=>hok)
    rw [bkTo_ok hkb lnB_0] at hL
    have hE:=pure1038 b x.carrier x.slot x.day (fun _=>hok)
    rw [bkTo_ok hkb reB_0] at hE
    have hH:=ybY b x.carrier x.slot x.to (fun _=>hok)
    rw [bkTo_ok hkb ybM] at hH
    have k0:=fun q=>yal (b:=b) (n:=0) (to:=x.to) (by omega) (ybe hkb (o:=p) (t:=k) q)
    have k1:=fun q=>yal (b:=b) (n:=1) (to:=x.to) (by omega) (yaa hkb (N:=x.slots) q)
    have k2:trC b x.carrier x.slot x.to=0→TotK b (trB b x.carrier x.slot x.to) 2 x.to:=fun q=>
     ⟨(yaM hkb q).1,fun q=>by omega,fun q=>by omega,fun q=>by omega,fun _=>(yaM hkb q).2⟩
    have k3:=fun q=>yaD (b:=b) (n:=3) (to:=x.to) (by omega) (yb6 hkb (c:=x.carrier) (n:=x.slot) (l:=x.lease) q)
    have k4:=fun q=>yaD (b:=b) (n:=4) (to:=x.to) (by omega) (ybO hkb (c:=x.carrier) (n:=x.slot) (d:=x.day) q)
    have k5:=fun q=>yaD (b:=b) (n:=5) (to:=x.to) (by omega) (ybJ hkb (c:=x.carrier) (n:=x.slot) (to:=x.to) q)
    have hmv:∀ y,yF b y→mvE y=mvE b:=fun y q=>yb8 hkb q
    generalize mvE b=M at hM hmv
    generalize swpB b p k=y0 at hS k0
    generalize swpC b p k=e0 at hS k0
    generalize yh b x.slots=y1 at hR k1
    generalize yk b x.slots=e1 at hR k1
    generalize trB b x.carrier x.slot x.to=y2 at hT k2
    generalize trC b x.carrier x.slot x.to=e2 at hT k2
    generalize lnB b x.carrier x.slot x.lease=y3 at hL k3
    generalize lnC b x.carrier x.slot x.lease=e3 at hL k3
    generalize reB b x.carrier x.slot x.day=y4 at hE k4
    generalize reC b x.carrier x.slot x.day=e4 at hE k4
    generalize shB b x.carrier x.slot x.to=y5 at hH k5
    generalize shC b x.carrier x.slot x.to=e5 at hH k5
    obtain ⟨C,eC,hCl,hC2⟩:∃ C:List PV,C=[.sl 16 (y0.slots.map Slt.pv),.sl 14 (y0.wait.map Wsh.pv),.sl 16 (y1.slots.map Slt.pv),.sl 14 (y1.wait.map Wsh.pv),.sl 16 (y2.slots.map Slt.pv),.sl 14 (y2.wait.map Wsh.pv),.sl 16 (y3.slots.map Slt.pv),.sl 14 (y3.wait.map Wsh.pv),.sl 16 (y4.slots.map Slt.pv),.sl 14 (y4.wait.map Wsh.pv),.sl 16 (y5.slots.map Slt.pv),.sl 14 (y5.wait.map Wsh.pv)]∧C.length=12∧∀ n,n < 6→∃ y:Bk,(C.drop (n*2)).take 2=[.sl 16 (y.slots.map Slt.pv),.sl 14 (y.wait.map Wsh.pv)]∧(n=0→y=y0)∧(n=1→y=y1)∧(n=2→y=y2)∧(n=3→y=y3)∧(n=4→y=y4)∧(n=5→y=y5):=by
     refine ⟨_,rfl,rfl,fun n hn=>?_⟩
     match n,hn with
     | 0,_=>exact ⟨y0,rfl,by simp⟩
     | 1,_=>exact ⟨y1,rfl,by simp⟩
     | 2,_=>exact ⟨y2,rfl,by simp⟩
     | 3,_=>exact ⟨y3,rfl,by simp⟩
     | 4,_=>exact ⟨y4,rfl,by simp⟩
     | 5,_=>exact ⟨y5,rfl,by simp⟩
    obtain ⟨D,eD,hDl,hD2⟩:∃ D:List LV,D=[.p (.i .i64 e0),.p (.i .i64 e1),.p (.i .i64 e2),.p (.i .i64 e3),.p (.i .i64 e4),.p (.i .i64 e5)]∧D.length=6∧∀ n,n < 6→∃ e:Int,D[n]?=some (.p (.i .i64 e))∧(n=0→e=e0)∧(n=1→e=e1)∧(n=2→e=e2)∧(n=3→e=e3)∧(n=4→e=e4)∧(n=5→e=e5):=by
     refine ⟨_,rfl,rfl,fun n hn=>?_⟩
     match n,hn with
     | 0,_=>exact ⟨e0,rfl,by simp⟩
     | 1,_=>exact ⟨e1,rfl,by simp⟩
     | 2,_=>exact ⟨e2,rfl,by simp⟩
     | 3,_=>exact ⟨e3,rfl,by simp⟩
     | 4,_=>exact ⟨e4,rfl,by simp⟩
     | 5,_=>exact ⟨e5,rfl,by simp⟩
    have hDs:∀ look,scPs look D:=fun look=>by rw [eD];simp [scPs,scP]
    have hDn:∀ k,zay k D D:=fun k=>by rw [eD];simp [zay,zbt]
    have hK:∀ n,n < 6→∃ (y:Bk) (e:Int),(C.drop (n*2)).take 2=[.sl 16 (y.slots.map Slt.pv),.sl 14 (y.wait.map Wsh.pv)]∧D[n]?=some (.p (.i .i64 e))∧(e=0→TotK b y n x.to):=fun n hn=>by
     obtain ⟨y,c1,c2,c3,c4,c5,c6,c7⟩:=hC2 n hn
     obtain ⟨e,d1,d2,d3,d4,d5,d6,d7⟩:=hD2 n hn
     refine ⟨y,e,c1,d1,fun q=>?_⟩
     match n,hn with
     | 0,_=>rw [c2 rfl];exact k0 ((d2 rfl).symm.trans q)
     | 1,_=>rw [c3 rfl];exact k1 ((d3 rfl).symm.trans q)
     | 2,_=>rw [c4 rfl];exact k2 ((d4 rfl).symm.trans q)
     | 3,_=>rw [c5 rfl];exact k3 ((d5 rfl).symm.trans q)
     | 4,_=>rw [c6 rfl];exact k4 ((d6 rfl).symm.trans q)
     | 5,_=>rw [c7 rfl];exact k5 ((d7 rfl).symm.trans q)
    have qe:=aI qR (aI @hb (aI @hx (aI @hA (aI @n1 (aI @n2 (aI @n3 (aI @n4 (aI @n5 (aI @toN0 (aI @zaf (aI @zbb (aI @decide_true (aI @decide_false @Bool.not_true)))))))))))));repeat' first|refine gC (fun hc=>?_) (fun hc=>?_)<;>try contradiction|refine za (yQ b) ?_|refine zN (fun _=>yP x) ?_|refine zN (fun _=>hC) ?_|refine za (yb0 b hok) ?_|refine za (hM) ?_|refine za (h59) ?_|refine za (hS) ?_|refine zam (hR) ?_|refine za (hT) ?_|refine za (hL) ?_|refine za (hE) ?_|refine za (hH) ?_|refine gG ?_|show AK _;intro K H|refine H _ _ ?_;clear H K|refine gJ ?_;try exact trivial|omega
    refine zk (κ:=Nat) (fun n=>⟨[(2,.lp 2 0),(3,.lp 3 0),(5,.p (.sl 7 (M.map Mov.pv))),(10,.lp 10 0),(125,.p (.agg C)),(126,.p (.i .i64 n))],[(2,.box [.p (.sl 16 (b.slots.map Slt.pv)),.p (.sl 14 (b.wait.map Wsh.pv))] false),(3,.box [.p (.sl 1 (x.slots.map .s)),.p (.s x.carrier),.p (.s x.slot),.p (.s x.to),.p (.s x.lease.carrier),.p (.i .i64 x.lease.fro),.p (.i .i64 x.lease.to),.p (.i .i64 x.day)] false),(10,.box D false)],[],false⟩) (fun n=>n≤6) (fun n=>6 - n) 0 ?_ ?_ ?_
    ·rw [eC,eD];simp only [qS,Nat.reduceAdd,Nat.reduceMul,Nat.reduceEqDiff,Nat.reduceLeDiff,reduceIte,reduceCtorEq,Nat.reduceBEq,Nat.reduceLT]<;>simp
    ·simp
    ·intro n hn
     repeat first|refine gG ?_|show AK _;intro K H|refine H _ _ ?_;clear H K|refine gJ ?_;try exact trivial|omega
     (refine gC (fun hc=>?_) (fun hc=>?_)<;>try contradiction)
     ·obtain ⟨y,e,c1,d1,hke⟩:=hK n (by omega)
      by_cases he:e=0
      ·have hy:=hke he
       have he':=eq_true he
       have hyk:=hy.k
       have hyo:=ybG hyk.v
       have hM2:=pure1043 y
       rw [hyk.v,hmv y hyk] at hM2
       have hC3:=yaW y
       rw [hyk.v] at hC3
       have ls0:=yV hyk
       have lw0:y.wait.length=b.wait.length:=by rw [hyk.w]
       have ls:=eq_true (show (y.slots.length:Int)=b.slots.length by rw [yV hyk])
       have lw:=eq_true (show (y.wait.length:Int)=b.wait.length by rw [hyk.w])
       have qe:=aI qR (aI @Nat.zero_add (aI @Nat.mul_one (aI @hCl (aI @hDl (aI @c1 (aI @d1 (aI @he' (aI @ls (aI @lw (aI @zbb (aI @decide_true (aI @decide_false @Bool.not_true))))))))))));repeat' first|refine gC (fun hc=>?_) (fun hc=>?_)<;>try contradiction|refine za (hM2) ?_|refine zN (fun _=>ybZ y hyo) ?_|refine zN (fun _=>hC3) ?_|refine zN (fun _=>pure26 M) ?_|refine gG ?_|show AK _;intro K H|refine H _ _ ?_;clear H K|refine gJ ?_;try exact trivial|omega
       refine zk (κ:=Nat) (fun j=>⟨[(2,.lp 2 0),(3,.lp 3 0),(5,.p (.sl 7 (M.map Mov.pv))),(10,.lp 10 0),(11,.p (.i .i64 n)),(12,.lp 12 0),(125,.p (.agg C)),(126,.p (.i .i64 n)),(173,.p (.i .i64 b.wait.length)),(174,.p (.i .i64 j))],[(2,.box [.p (.sl 16 (b.slots.map Slt.pv)),.p (.sl 14 (b.wait.map Wsh.pv))] false),(3,.box [.p (.sl 1 (x.slots.map .s)),.p (.s x.carrier),.p (.s x.slot),.p (.s x.to),.p (.s x.lease.carrier),.p (.i .i64 x.lease.fro),.p (.i .i64 x.lease.to),.p (.i .i64 x.day)] false),(10,.box D false),(12,.box [.p (.sl 16 (y.slots.map Slt.pv)),.p (.sl 14 (y.wait.map Wsh.pv))] false)],[],false⟩) (fun j=>j≤b.wait.length) (fun j=>b.wait.length - j) 0 ?_ ?_ ?_
       ·refine gJ ?_;simp [hDs]
       ·simp
       ·intro j hj
        repeat first|refine gG ?_|show AK _;intro K H|refine H _ _ ?_;clear H K|refine gJ ?_;try exact trivial|omega
        (refine gC (fun hc=>?_) (fun hc=>?_)<;>try contradiction)
        ·obtain ⟨w,hw2⟩:=zn (i:=j) (l:=b.wait) (by omega)
         have hw3:y.wait[j]?=some w:=by rw [hyk.w];exact hw2
         have qe:=aI qR (aI @hw2 (aI @hw3 (aI @zbb (aI @yC (aI @decide_true (aI @Bool.and_self @Bool.not_true))))));repeat' first|refine gC (fun hc=>?_) (fun hc=>?_)<;>try contradiction|refine gG ?_|show AK _;intro K H|refine H _ _ ?_;clear H K|refine gJ ?_;try exact trivial|omega
         all_goals exact ⟨j+1,by omega,by omega,by simp [hDs]⟩
        ·have qe:=@qR;repeat' first|refine gC (fun hc=>?_) (fun hc=>?_)<;>try contradiction|refine gG ?_|show AK _;intro K H|refine H _ _ ?_;clear H K|refine gJ ?_;try exact trivial|omega
         refine zaO 100 9 1 [(2,.lp 2 0),(3,.lp 3 0),(5,.p (.sl 7 (M.map Mov.pv))),(10,.lp 10 0),(11,.p (.i .i64 n)),(12,.lp 12 0),(125,.p (.agg C)),(126,.p (.i .i64 n)),(16,.row 100 0),(17,.p .nilsl),(191,.p (.i .i64 b.slots.length)),(192,.p (.i .i64 0))] [(2,.box [.p (.sl 16 (b.slots.map Slt.pv)),.p (.sl 14 (b.wait.map Wsh.pv))] false),(3,.box [.p (.sl 1 (x.slots.map .s)),.p (.s x.carrier),.p (.s x.slot),.p (.s x.to),.p (.s x.lease.carrier),.p (.i .i64 x.lease.fro),.p (.i .i64 x.lease.to),.p (.i .i64 x.day)] false),(10,.box D false),(12,.box [.p (.sl 16 (y.slots.map Slt.pv)),.p (.sl 14 (y.wait.map Wsh.pv))] false)] ?_ ?_
         ·first|(simp only [Own,zaL,zaB,zbt,zay,qS,Nat.reduceAdd,Nat.reduceMul,Nat.reduceEqDiff,Nat.reduceLeDiff,reduceIte,reduceCtorEq,Nat.reduceBEq,Nat.reduceLT];done)|(simp only [Own,zaL,zaB,zbt,zay,qS,Nat.reduceAdd,Nat.reduceMul,Nat.reduceEqDiff,Nat.reduceLeDiff,reduceIte,reduceCtorEq,Nat.reduceBEq,Nat.reduceLT];simp [hDs,hDn])
         refine zaO 101 9 1 [(2,.lp 2 0),(3,.lp 3 0),(5,.p (.sl 7 (M.map Mov.pv))),(10,.lp 10 0),(11,.p (.i .i64 n)),(12,.lp 12 0),(125,.p (.agg C)),(126,.p (.i .i64 n)),(16,.row 100 0),(17,.row 101 0),(191,.p (.i .i64 b.slots.length)),(192,.p (.i .i64 0))] [(2,.box [.p (.sl 16 (b.slots.map Slt.pv)),.p (.sl 14 (b.wait.map Wsh.pv))] false),(3,.box [.p (.sl 1 (x.slots.map .s)),.p (.s x.carrier),.p (.s x.slot),.p (.s x.to),.p (.s x.lease.carrier),.p (.i .i64 x.lease.fro),.p (.i .i64 x.lease.to),.p (.i .i64 x.day)] false),(10,.box D false),(12,.box [.p (.sl 16 (y.slots.map Slt.pv)),.p (.sl 14 (y.wait.map Wsh.pv))] false),(100,.row 9 1 [] false)] ?_ ?_
         ·first|(simp only [Own,zaL,zaB,zbt,zay,qS,Nat.reduceAdd,Nat.reduceMul,Nat.reduceEqDiff,Nat.reduceLeDiff,reduceIte,reduceCtorEq,Nat.reduceBEq,Nat.reduceLT];done)|(simp only [Own,zaL,zaB,zbt,zay,qS,Nat.reduceAdd,Nat.reduceMul,Nat.reduceEqDiff,Nat.reduceLeDiff,reduceIte,reduceCtorEq,Nat.reduceBEq,Nat.reduceLT];simp [hDs,hDn])
         refine zk (κ:=Nat) (fun j=>⟨[(2,.lp 2 0),(3,.lp 3 0),(5,.p (.sl 7 (M.map Mov.pv))),(10,.lp 10 0),(11,.p (.i .i64 n)),(12,.lp 12 0),(125,.p (.agg C)),(126,.p (.i .i64 n)),(16,.row 100 (b.slots.take j).length),(17,.row 101 (y.slots.take j).length),(191,.p (.i .i64 b.slots.length)),(192,.p (.i .i64 j))],[(2,.box [.p (.sl 16 (b.slots.map Slt.pv)),.p (.sl 14 (b.wait.map Wsh.pv))] false),(3,.box [.p (.sl 1 (x.slots.map .s)),.p (.s x.carrier),.p (.s x.slot),.p (.s x.to),.p (.s x.lease.carrier),.p (.i .i64 x.lease.fro),.p (.i .i64 x.lease.to),.p (.i .i64 x.day)] false),(10,.box D false),(12,.box [.p (.sl 16 (y.slots.map Slt.pv)),.p (.sl 14 (y.wait.map Wsh.pv))] false),(100,.row 9 1 ((b.slots.take j).map fun s=>.s s.holder) false),(101,.row 9 1 ((y.slots.take j).map fun s=>.s s.holder) false)],[],false⟩) (fun j=>j≤b.slots.length) (fun j=>b.slots.length - j) 0 ?_ ?_ ?_
         ·refine gJ ?_;simp [hDs]
         ·simp
         ·intro j hj
          repeat first|refine gG ?_|show AK _;intro K H|refine H _ _ ?_;clear H K|refine gJ ?_;try exact trivial|omega
          (refine gC (fun hc=>?_) (fun hc=>?_)<;>try contradiction)
          ·obtain ⟨s,hs⟩:=zn (i:=j) (l:=b.slots) (by omega)
           obtain ⟨u,hu,hr⟩:=yb9 hyk hs
           have t1:=take_len hs
           have t2:=take_len hu
           have g1:=take_snoc (fun s:Slt=>PV.s s.holder) hs
           have g2:=take_snoc (fun s:Slt=>PV.s s.holder) hu
           obtain ⟨ur,uh,ul,us⟩:=u
           simp only at hr
           subst hr
           have qe:=aI qR (aI @hs (aI @hu (aI @zbb (aI @yC (aI @decide_true (aI @Bool.and_self (aI @Bool.not_true @zaf)))))));repeat' first|refine gC (fun hc=>?_) (fun hc=>?_)<;>try contradiction|refine gG ?_|show AK _;intro K H|refine H _ _ ?_;clear H K|refine gJ ?_;try exact trivial|omega
           all_goals exact ⟨j+1,by omega,by omega,⟨by rw [List.length_take] at *;simp;omega,by rw [List.length_take] at *;simp;omega,by simp [hDs]⟩,by rw [g1,g2];simp [hDs]⟩
          ·have ej:j=b.slots.length:=by omega
           have hb1:(b.slots.map fun s=>PV.s s.holder)=(hls b).map .s:=by simp [hls,List.map_map]
           have hy1:(y.slots.map fun s=>PV.s s.holder)=(hls y).map .s:=by simp [hls,List.map_map]
           have ht1:y.slots.take b.slots.length=y.slots:=List.take_of_length_le (by omega)
           subst ej
           rw [List.take_length,ht1,hb1,hy1]
           have lh1:(hls b).length=b.slots.length:=by simp [hls]
           have lh2:(hls y).length=y.slots.length:=by simp [hls]
           rw [←lh1,←lh2]
           have qe:=@qR;repeat' first|refine gC (fun hc=>?_) (fun hc=>?_)<;>try contradiction|refine gG ?_|show AK _;intro K H|refine H _ _ ?_;clear H K|refine gJ ?_;try exact trivial|omega
           refine ybj (κ:=Nat) (fun j=>⟨[(2,.lp 2 0),(3,.lp 3 0),(5,.p (.sl 7 (M.map Mov.pv))),(10,.lp 10 0),(11,.p (.i .i64 n)),(12,.lp 12 0),(125,.p (.agg C)),(126,.p (.i .i64 n)),(16,.p (.sl 1 ((hls b).map .s))),(17,.p (.sl 1 ((hls y).map .s))),(228,.p (.i .i64 (hls y).length)),(229,.p (.i .i64 j))],[(2,.box [.p (.sl 16 (b.slots.map Slt.pv)),.p (.sl 14 (b.wait.map Wsh.pv))] false),(3,.box [.p (.sl 1 (x.slots.map .s)),.p (.s x.carrier),.p (.s x.slot),.p (.s x.to),.p (.s x.lease.carrier),.p (.i .i64 x.lease.fro),.p (.i .i64 x.lease.to),.p (.i .i64 x.day)] false),(10,.box D false),(12,.box [.p (.sl 16 (y.slots.map Slt.pv)),.p (.sl 14 (y.wait.map Wsh.pv))] false)],[],false⟩) (fun j=>j≤(hls y).length) (fun j=>(hls y).length - j) 0 ?_ ?_ ?_
           ·refine .x 16 (.sl 1 ((hls b).map .s)) ?_
            refine .x 17 (.sl 1 ((hls y).map .s)) ?_
            exact .cov (by simp only [qS,Nat.reduceAdd,Nat.reduceMul,Nat.reduceEqDiff,Nat.reduceLeDiff,reduceIte,reduceCtorEq,Nat.reduceBEq,Nat.reduceLT]<;>simp [hDs])
           ·simp
           ·intro j hj
            repeat first|refine gG ?_|show AK _;intro K H|refine H _ _ ?_;clear H K|refine gJ ?_;try exact trivial|omega
            (refine gC (fun hc=>?_) (fun hc=>?_)<;>try contradiction)
            ·obtain ⟨o,ho⟩:=zn (i:=j) (l:=hls b) (by omega)
             obtain ⟨q,hq⟩:=zn (i:=j) (l:=hls y) (by omega)
             by_cases n2:n=2
             ·have m2:=eq_true (show (n:Int)=2 by omega)
              have m3:=eq_false (show ¬((2:Int) < n) by omega)
              by_cases hin:(0:Int)≤atL q (hls b)
              ·have hin':=eq_true hin
               have qe:=aI qR (aI @ho (aI @hq (aI @m2 (aI @m3 (aI @hin' (aI @decide_true (aI @decide_false (aI @Bool.not_true (aI @lpN (aI @lpE @lpR))))))))));repeat' first|refine gC (fun hc=>?_) (fun hc=>?_)<;>try contradiction|refine zN (fun _=>yd (hls y) o) ?_|refine zN (fun _=>yd (hls b) o) ?_|refine zN (fun _=>yc (hls b) q) ?_|refine gG ?_|show AK _;intro K H|refine H _ _ ?_;clear H K|refine gJ ?_;try exact trivial|omega
               all_goals exact ⟨j+1,by omega,by dsimp only;omega,.cov (by simp only [qS,Nat.reduceAdd,Nat.reduceMul,Nat.reduceEqDiff,Nat.reduceLeDiff,reduceIte,reduceCtorEq,Nat.reduceBEq,Nat.reduceLT]<;>simp [hDs])⟩
              ·have hto:q=x.to:=(hy.t n2 q (List.mem_of_getElem? hq)).resolve_left fun k=>hin ((ya _ _).2 k)
               have hin':=eq_false hin
               have hto':=eq_true hto
               have qe:=aI qR (aI @ho (aI @hq (aI @m2 (aI @m3 (aI @hin' (aI @hto' (aI @decide_true (aI @decide_false (aI @Bool.not_true (aI @lpN (aI @lpE @lpR)))))))))));repeat' first|refine gC (fun hc=>?_) (fun hc=>?_)<;>try contradiction|refine zN (fun _=>yd (hls y) o) ?_|refine zN (fun _=>yd (hls b) o) ?_|refine zN (fun _=>yc (hls b) q) ?_|refine gG ?_|show AK _;intro K H|refine H _ _ ?_;clear H K|refine gJ ?_;try exact trivial|omega
               all_goals exact ⟨j+1,by omega,by dsimp only;omega,.cov (by simp only [qS,Nat.reduceAdd,Nat.reduceMul,Nat.reduceEqDiff,Nat.reduceLeDiff,reduceIte,reduceCtorEq,Nat.reduceBEq,Nat.reduceLT]<;>simp [hDs])⟩
             ·have m2:=eq_false (show ¬(n:Int)=2 by omega)
              have hcn:=eq_true (show (ya1 o (hls y):Int)=ya1 o (hls b) by rw [hy.c n2 o])
              have hin':=eq_true (show (0:Int)≤atL q (hls b) from (ya _ _).2 (hy.m n2 q (List.mem_of_getElem? hq)))
              by_cases n3:2 < n
              ·have m3:=eq_true (show (2:Int) < n by omega)
               have hqo:q=o:=by
                have e9:=hy.e n3
                rw [e9,ho] at hq
                exact (Option.some.inj hq).symm
               have hqo':=eq_true hqo
               have qe:=aI qR (aI @ho (aI @hq (aI @m2 (aI @m3 (aI @hcn (aI @hin' (aI @hqo' (aI @decide_true (aI @decide_false (aI @Bool.not_true (aI @lpN (aI @lpE @lpR))))))))))));repeat' first|refine gC (fun hc=>?_) (fun hc=>?_)<;>try contradiction|refine zN (fun _=>yd (hls y) o) ?_|refine zN (fun _=>yd (hls b) o) ?_|refine zN (fun _=>yc (hls b) q) ?_|refine gG ?_|show AK _;intro K H|refine H _ _ ?_;clear H K|refine gJ ?_;try exact trivial|omega
               all_goals exact ⟨j+1,by omega,by dsimp only;omega,.cov (by simp only [qS,Nat.reduceAdd,Nat.reduceMul,Nat.reduceEqDiff,Nat.reduceLeDiff,reduceIte,reduceCtorEq,Nat.reduceBEq,Nat.reduceLT]<;>simp [hDs])⟩
              ·have m3:=eq_false (show ¬((2:Int) < n) by omega)
               have qe:=aI qR (aI @ho (aI @hq (aI @m2 (aI @m3 (aI @hcn (aI @hin' (aI @decide_true (aI @decide_false (aI @Bool.not_true (aI @lpN (aI @lpE @lpR)))))))))));repeat' first|refine gC (fun hc=>?_) (fun hc=>?_)<;>try contradiction|refine zN (fun _=>yd (hls y) o) ?_|refine zN (fun _=>yd (hls b) o) ?_|refine zN (fun _=>yc (hls b) q) ?_|refine gG ?_|show AK _;intro K H|refine H _ _ ?_;clear H K|refine gJ ?_;try exact trivial|omega
               all_goals exact ⟨j+1,by omega,by dsimp only;omega,.cov (by simp only [qS,Nat.reduceAdd,Nat.reduceMul,Nat.reduceEqDiff,Nat.reduceLeDiff,reduceIte,reduceCtorEq,Nat.reduceBEq,Nat.reduceLT]<;>simp [hDs])⟩
            ·have qe:=aI qR (aI @lpN (aI @lpE @lpR));repeat' first|refine gC (fun hc=>?_) (fun hc=>?_)<;>try contradiction|refine gG ?_|show AK _;intro K H|refine H _ _ ?_;clear H K|refine gJ ?_;try exact trivial|omega
             all_goals exact ⟨n+1,by omega,by omega,by simp [hDs]⟩
      ·have he':=eq_false he
       have qe:=aI qR (aI @Nat.zero_add (aI @Nat.mul_one (aI @hCl (aI @hDl (aI @c1 (aI @d1 (aI @he' (aI @decide_false @decide_true))))))));repeat' first|refine gC (fun hc=>?_) (fun hc=>?_)<;>try contradiction|refine gG ?_|show AK _;intro K H|refine H _ _ ?_;clear H K|refine gJ ?_;try exact trivial|omega
       all_goals exact ⟨n+1,by omega,by omega,by simp [hDs]⟩
     ·have qe:=@qR;repeat' first|refine gC (fun hc=>?_) (fun hc=>?_)<;>try contradiction|refine za (pure1017) ?_|refine gG ?_|show AK _;intro K H|refine H _ _ ?_;clear H K|refine gJ ?_;try exact trivial|omega
      all_goals exact .refl _
   ·have hkb':=eq_false hkb
    have qe:=aI qR (aI @hb (aI @hx (aI @hkb' (aI @decide_true (aI @decide_false (aI @Bool.not_true @Bool.not_false))))));repeat' first|refine gC (fun hc=>?_) (fun hc=>?_)<;>try contradiction|refine za (yQ b) ?_|refine zN (fun _=>yP x) ?_|refine zN (fun _=>hC) ?_|refine za (pure1017) ?_|refine gG ?_|show AK _;intro K H|refine H _ _ ?_;clear H K|refine gJ ?_;try exact trivial|omega
    all_goals exact .refl _
  ·have hx':ym x=false:=by simpa using hx
   have qe:=aI qR (aI @hb (aI @hx' (aI @Bool.not_true @Bool.not_false)));repeat' first|refine gC (fun hc=>?_) (fun hc=>?_)<;>try contradiction|refine za (yQ b) ?_|refine zN (fun _=>yP x) ?_|(show zj _ _ _ _ (⟨_,.call 22,_,_,_⟩::_) _ _;refine yf (q:=.i .i64 0) (by first|rfl|(simp (disch:=omega) only [qG,qe,Nat.reduceAdd,Nat.reduceMul,Nat.reduceEqDiff,Nat.reduceLeDiff,reduceIte,reduceCtorEq,Nat.reduceBEq,Nat.reduceLT]<;>rfl)) ?_;(try (refine zE ?_)))|refine za (pure1017) ?_|refine gG ?_|show AK _;intro K H|refine H _ _ ?_;clear H K|refine gJ ?_;try exact trivial|omega
   all_goals exact .refl _
 ·have hb':ybL b=false:=by simpa using hb
  have qe:=aI qR (aI @hb' @Bool.not_false);repeat' first|refine gC (fun hc=>?_) (fun hc=>?_)<;>try contradiction|refine za (yQ b) ?_|refine zN (fun _=>yP x) ?_|(show zj _ _ _ _ (⟨_,.call 22,_,_,_⟩::_) _ _;refine yf (q:=.i .i64 0) (by first|rfl|(simp (disch:=omega) only [qG,qe,Nat.reduceAdd,Nat.reduceMul,Nat.reduceEqDiff,Nat.reduceLeDiff,reduceIte,reduceCtorEq,Nat.reduceBEq,Nat.reduceLT]<;>rfl)) ?_;(try (refine zE ?_)))|refine za (pure1017) ?_|refine gG ?_|show AK _;intro K H|refine H _ _ ?_;clear H K|refine gJ ?_;try exact trivial|omega
  all_goals exact .refl _
end Go.Proofs.YtahmdjadnlpjoaaGreat
namespace Go.Proofs.YtahmdjadnlpjoaaGreat
open Go.RowKit Go.ChangeShapes Go.WideShapes Go.ChangeAt
set_option maxRecDepth 100000
set_option linter.unusedVariables false
set_option linter.unusedSimpArgs false
set_option maxHeartbeats 4000000
theorem yba (os:Os) (started:os.Started) (H:Type) (enc:TypeId × Value→H):ReturnsInHanded {} Tryz.checked os 13 .any (Rows.tradeTotalsSpec.pre6 enc Tryz.prog Tryz.f13 Rows.tradeTotalsRow.domain false) (Rows.tradeTotalsSpec.post enc Tryz.prog Tryz.f13 false true false false):=by
 refine returnsInHanded_of_change_shaped (C:=Tryz.checked) own started (by kernel_rfl) Tryz.func13
  (ChangeSpec.witness6 (enc:=enc) (C:=Tryz.checked) false ⟨#[],#[.agg #[.slice none 0 0,.slice none 0 0],.agg #[.slice none 0 0,zs,zs,zs,zs,zi,zi,zi]],[]⟩ 8 (by kernel_rfl) (by kernel_rfl) (by kernel_rfl) (by kernel_rfl)) ?_
 intro W base args ds gs before hval hW _ hsz _ _
 refine yap (C:=Tryz.checked) (n:=6) (tb:=4) laid (by kernel_rfl) rfl (fun H ds hd=>?_) (by kernel_rfl) und4 (by kernel_rfl) (fun ps hps=>?_) W base args ds gs before hval hW hsz
 ·match ds,hd with
  | [_,_],_=>rfl
 ·match ps,hps with
  | [a0,a1],⟨h0,h1,_⟩=>
   obtain ⟨b,rfl⟩:=fit_bk h0
   obtain ⟨x,rfl⟩:=ycC h1
   exact yb1 b x
theorem ycK:(Rows.tradeTotalsRow.inPlace == Tryz.prog.inPlace 13)=true:=by kernel_rfl
theorem ycJ:(Rows.tradeTotalsRow.unfollowed == Tryz.prog.unfollowed 13)=true:=by kernel_rfl
theorem ycI:(Rows.tradeTotalsRow.recurses == Tryz.prog.recurses 13)=true:=by kernel_rfl
theorem ycH:(Rows.tradeTotalsRow.named == Tryz.prog.varsNamed 13)=true:=by kernel_rfl
theorem ycG:Tryz.checked.prog.funcNamed Rows.tradeTotalsRow.func=some 13:=by kernel_rfl
theorem ycF:joinedFacts Tryz.prog 13 Tryz.f13 Rows.tradeTotalsSpec Rows.tradeTotalsRow=true:=
 ybt (by as_aux_lemma=>kernel_rfl) laid rowed (by as_aux_lemma=>kernel_rfl) ycK ycJ ycI ycH (by as_aux_lemma=>kernel_rfl) (by as_aux_lemma=>kernel_rfl) (by as_aux_lemma=>kernel_rfl) (by as_aux_lemma=>kernel_rfl) (by as_aux_lemma=>kernel_rfl)
theorem ycE:Tryz.f13.isInstance Tryz.prog Rows.tradeTotalsRow.origin Rows.tradeTotalsRow.targs:=of_decide_eq_true (by kernel_rfl)
theorem ycD:Tryz.f13.isWrapper Tryz.prog Rows.tradeTotalsRow.wrapper Rows.tradeTotalsRow.mainSum:=by
 unfold Func.isWrapper;first|(rw [if_pos (by decide +kernel)];kernel_rfl)|(rw [if_neg (by decide +kernel)];exact ⟨rfl,rfl⟩)
theorem yaC:Rows.tradeTotalsRow.holds Tryz.pinned (OpenSpec.ofChange Rows.tradeTotalsSpec):=
 OpenClaim.holds_of_wide 13 Tryz.f13 rfl rfl rfl rfl rfl rfl rfl ⟨rfl,rfl,rfl,rfl,rfl⟩ rfl rfl rfl rfl rfl ycG Tryz.func13 ycF ycE ycD
  (fun os started H enc _=>yba os started H enc)
theorem totals_proved:Rows.TradeTotalsSaid:=yaC
end Go.Proofs.YtahmdjadnlpjoaaGreat
