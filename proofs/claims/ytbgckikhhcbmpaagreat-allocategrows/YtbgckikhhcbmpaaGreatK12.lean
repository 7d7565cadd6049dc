/- Contracts. No conditions. -/
import Derived.Test.YtbgckikhhcbmpaaGreatK10
import Derived.Test.YtbgckikhhcbmpaaGreatK11
set_option linter.all false
set_option maxHeartbeats 8000000
set_option maxRecDepth 100000
namespace Go.Proofs.YtbgckikhhcbmpaaGreat
open Go.RowKit Tryz
variable {b:Brd} {M c m n t:Int} {w:Ky} {l:Lim} {ls:List Lim} {own:List Mov} {R:List Res} {L:List Wis} {x:Mov} {e i k sz:Nat} {o:Opt} {z:PV} {r:Res} {u:Unt}
def zyL (ls:List Lim) (own:List Mov) (k:Ky):zm6 ls own k<=own.length:=by unfold zm6;exact xby _ _
def zbS (hl:∀ l ∈ ls,zr l=0) (hb:zhX ls b) (hc6:∀ k,-M<=zbh b.C k/\zbh b.C k<=M) (ht:-1<=t/\t<=1) (own:List Mov) (k:Nat):zhX ls (zy ls b (own.take k) t)/\∀ key,-(M+own.length)<=zbh (zy ls b (own.take k) t).C key/\zbh (zy ls b (own.take k) t).C key<=M+own.length:=by
 obtain ⟨h1,h2⟩:=zcP hl t (own.take k) b hb;refine ⟨h1,λkey=>?_⟩
 rw [h2 key];have h3:=zyL ls (own.take k) key;have h4:(own.take k).length<=own.length:=by rw [xan];omega
 have h5:=hc6 key
 rcases (show t=-1\/t=0\/t=1 by omega) with rfl|rfl|rfl<;>omega
def zck (ls:List Lim) (b:Brd) (t:Int) (hx:own[k]?=some x):zy ls b (own.take (k+1)) t=zpg ls (zy ls b (own.take k) t) x t:=by
 unfold zy;rw [zE hx,xaP];rfl
def zdP (hl:∀ l ∈ ls,zr l=0) (hn:ls.length<=1000) (hw:zgb ls) (hb:zhX ls b) (hc6:∀ k,-M<=zbh b.C k/\zbh b.C k<=M) (h86:Pure prog 86 [unP u,.sl 18 (L.map Wis.pv),unP o] (.sl 7 (own.map Mov.pv))) (hm:∀ x ∈ own,0<=x.moment/\x.moment<=1000000000) (hM:M+own.length<=1000000000) (ht:-1<=t/\t<=1):zbk prog 88 [.lp 900 0,.p (.sl 18 (L.map Wis.pv)),.p (unP u),.p (unP o),.p (.i .i64 t)] [(900,.box [.p (.sl 11 (ls.map Lim.pv)),.lm 901,.lm 902] false),(901,.mp (b.C.map cE) false),(902,.mp (b.G.map gE) false)] (.p (.tup [])) [(900,.box [.p (.sl 11 (ls.map Lim.pv)),.lm 901,.lm 902] false),(901,.mp ((zy ls b own t).C.map cE) false),(902,.mp ((zy ls b own t).G.map gE) false)]:=by
 have hM0:0<=M:=by have:=hc6 (0,0);omega
 refine zD (cF func88 f88.eq_1) (by simp) (by simp [scPs,scP,zm]) (by simp [scObj,scPs,scP,zm]) ⟨rfl,rfl,rfl,trivial⟩ (by simp [scObj,scPs,scP,zm]) (by simp [zcQ,zm]) λX hX=>?_
 unfold zx ghO;have qe:=aI qR (aI @qN (aI @gLV.eq_1 @gLV.eq_5));have jA:=h86;refine gE2 ?_;refine zh (κ:=Nat) (λk=>⟨[(0,.lp 900 0),(4,.p (.i .i64 t)),(7,.lp 7 0),(8,.lp 8 0),(15,.p (.sl 7 (own.map Mov.pv))),(16,.p (.i .i64 own.length)),(17,.p (.i .i64 k)),(1000900,.lp 900 0),(1000901,.lm 901),(1000902,.lm 902)],[(900,.box [.p (.sl 11 (ls.map Lim.pv)),.lm 901,.lm 902] false),(901,.mp ((zy ls b (own.take k) (t)).C.map cE) false),(902,.mp ((zy ls b (own.take k) (t)).G.map gE) false),(7,.box [.p (.i .i64 u.1),.p (.i .i64 u.2)] false),(8,.box [.p (.i .i64 o.1),.p (.i .i64 o.2)] false)],[],false⟩) (λk=>k<=own.length) (λk=>own.length - k) 0 ?_ ?_ ?_
 ·refine gJ ?_;simp [zy]
 ·simp
 ·intro k hk;refine gH (λhc=>?_) λhc=>?_
  ·obtain ⟨x,hx⟩:=zj (i:=k) (l:=own) (by omega)
   obtain ⟨hB,hC⟩:=zbS hl hb hc6 (t:=t) (by omega) own k
   have hnx:=zck ls b (t) hx;have h21:=zeT hl hn hw hB (λkey=>by have:=hC key;omega) x (hm x (xae hx)) (t:=t) (by omega)
   rw [<-hnx] at h21;have qe:=aI qR (aI @qN @hx);have jA:SX [] _:=⟨h21⟩;refine gE2 ?_;exact ⟨k+1,by omega,by omega,by simp,by simp⟩
  ·have e:k=own.length:=by omega
   subst e;rw [xah];have qe:=aI qR (aI @rtN @rtR);refine gE2 ?_
   all_goals exact .inl (.mk0 (h2:=by simp only [qS,seval,keepG.eq_1,keepG.eq_2,gLV.eq_1,gLV.eq_2,gLV.eq_5]<;>simp))
def zed (ls:List Lim) (b:Brd) (own:List Mov) (k:Nat):List Ky × Brd:=(own.take k).foldl (zvy ls) ([],b)
def zkq (ls:List Lim) (b:Brd) (hx:own[k]?=some x):zed ls b own (k+1)=zvy ls (zed ls b own k) x:=by
 unfold zed;rw [zE hx,xaP];rfl
def zzw (hl:∀ l ∈ ls,zr l=0) (hw:zgb ls) (hb:zhX ls b) (own:List Mov):∀ k,zhX ls (zed ls b own k).2/\(zed ls b own k).2.C=b.C/\(zed ls b own k).1.length<=900000*k:=by
 intro k
 induction k with
 | zero=>
  have e:zed ls b own 0=([],b):=rfl;rw [e];exact ⟨hb,rfl,by rw [xbB];omega⟩
 | succ k ih=>
  obtain ⟨h1,h2,h3⟩:=ih;cases hx:own[k]? with
  | none=>
   have e:zed ls b own (k+1)=zed ls b own k:=by unfold zed;rw [xas (by have:=List.getElem?_eq_none_iff.1 hx;omega),xas (by have:=List.getElem?_eq_none_iff.1 hx;omega)]
   rw [e];exact ⟨h1,h2,by omega⟩
  | some x=>
   rw [zkq ls b hx];have hW:=zl6 hl h1.1 x;have hWl:=hw _ hW.1 hW.2;refine ⟨⟨(znr h1.1 x).2,h1.2,h1.3⟩,h2,?_⟩;have e:(zvy ls (zed ls b own k) x).1=(zed ls b own k).1++(arn ls (zed ls b own k).2.G x).1.filter (ovr ls (zed ls b own k).2):=rfl;rw [e,xad];have:=xby (ovr ls (zed ls b own k).2) (arn ls (zed ls b own k).2.G x).1
   omega
def zbN (hl:∀ l ∈ ls,zr l=0) (hn:ls.length≤1000) (hw:zgb ls) (hb:zhX ls b) (hc6:∀ k,-M≤zbh b.C k∧zbh b.C k≤M) (hm:∀ x ∈ own,0≤x.moment∧x.moment≤1000000000) (ho:own.length≤1000) (hM:M+2*own.length≤1000000000):zbk prog 83 [.lp 900 0,.p (.sl 7 (own.map Mov.pv))] [(900,.box [.p (.sl 11 (ls.map Lim.pv)),.lm 901,.lm 902] false),(901,.mp (b.C.map cE) false),(902,.mp (b.G.map gE) false)] (.p (.sl 2 ((rfW ls b own).map kyP))) [(900,.box [.p (.sl 11 (ls.map Lim.pv)),.lm 901,.lm 902] false),(901,.mp ((rfB ls b own).C.map cE) false),(902,.mp ((rfB ls b own).G.map gE) false)]:=by
 have hM0:0≤M:=by have:=hc6 (0,0);omega
 have hA:=zbS hl hb hc6 (t:=1) (by omega) own own.length
 rw [xah] at hA
 obtain ⟨hB1,hC1⟩:=hA
 have hcol:=zzw hl hw hB1 own
 have hcend:zed ls (zy ls b own 1) own own.length=zzx ls (zy ls b own 1) own:=by unfold zed;rw [xah];rfl
 have hrfB:rfB ls b own=zy ls (zzx ls (zy ls b own 1) own).2 own (-1):=rfl
 have hrfW:rfW ls b own=zbu (zbO (zzx ls (zy ls b own 1) own).1):=rfl
 have hfin:=hcol own.length
 rw [hcend] at hfin
 rw [hrfB,hrfW]
 refine zD (cF func83 f83.eq_1) (by simp) (by simp [scPs,scP,zm]) (by simp [scObj,scPs,scP,zm]) ⟨rfl,rfl,rfl,trivial⟩ (by simp [scObj,scPs,scP,zm]) (by simp [zcQ,zm]) fun X hX=>?_
 unfold zx ghO
 have qe:=aI qR (aI @qN (aI @gLV.eq_1 @gLV.eq_5));refine gE2 ?_
 refine zh (κ:=Nat) (fun k=>⟨[(0,.lp 900 0),(1,.p (.sl 7 (own.map Mov.pv))),(14,.p (.sl 7 (own.map Mov.pv))),(15,.p (.i .i64 own.length)),(16,.p (.i .i64 k)),(1000900,.lp 900 0),(1000901,.lm 901),(1000902,.lm 902)],[(900,.box [.p (.sl 11 (ls.map Lim.pv)),.lm 901,.lm 902] false),(901,.mp ((zy ls b (own.take k) (1)).C.map cE) false),(902,.mp ((zy ls b (own.take k) (1)).G.map gE) false)],[],false⟩) (fun k=>k≤own.length) (fun k=>own.length - k) 0 ?_ ?_ ?_
 ·refine gJ ?_;simp [zy]
 ·simp
 ·intro k hk
  refine gH (fun hc=>?_) fun hc=>?_
  ·obtain ⟨x,hx⟩:=zj (i:=k) (l:=own) (by omega)
   obtain ⟨hB,hC⟩:=zbS hl hb hc6 (t:=1) (by omega) own k
   have hnx:=zck ls b (1) hx
   have h21:=zeT hl hn hw hB (fun key=>by have:=hC key;omega) x (hm x (xae hx)) (t:=1) (by omega)
   rw [←hnx] at h21
   have qe:=aI qR (aI @qN @hx);have jA:SX [] _:=⟨h21⟩;refine gE2 ?_
   exact ⟨k+1,by omega,by omega,by simp,by simp⟩
  ·have e:k=own.length:=by omega
   subst e
   rw [xah]
   generalize hb1:zy ls b own 1=b1 at *
   have hc1:∀ k,-(M+own.length)≤zbh b1.C k∧zbh b1.C k≤M+own.length:=hC1
   have qe:=@qR;refine gE2 ?_
   refine run_ownL 400 171 2 (κ:=Nat) (fun k=>⟨[(0,.lp 900 0),(1,.p (.sl 7 (own.map Mov.pv))),(7,.row 400 (zed ls b1 own k).1.length),(24,.p (.sl 7 (own.map Mov.pv))),(25,.p (.i .i64 own.length)),(26,.p (.i .i64 k)),(1000900,.lp 900 0),(1000901,.lm 901),(1000902,.lm 902)],[(900,.box [.p (.sl 11 (ls.map Lim.pv)),.lm 901,.lm 902] false),(901,.mp (b1.C.map cE) false),(902,.mp ((zed ls b1 own k).2.G.map gE) false),(400,.row 171 2 ((zed ls b1 own k).1.map kyP) false)],[],false⟩) (fun k=>k≤own.length) (fun k=>own.length - k) 0 ?_ ?_ ?_
   ·refine ⟨gO ?_,gO ?_⟩<;>simp [zed]
   ·simp
   ·intro k hk
    obtain ⟨hBk,hCk,hLk⟩:=hcol k
    have hLk2:900000*k≤900000000:=by omega
    refine gH (fun hc=>?_) fun hc=>?_
    ·obtain ⟨x,hx⟩:=zj (i:=k) (l:=own) (by omega)
     have hnx:=zkq ls b1 hx
     have h55:=znx hl hn b1.C hBk.1 x (hm x (xae hx))
     obtain ⟨hWn,hWw⟩:=zl6 hl hBk.1 x
     have hWl:=hw _ hWn hWw
     have hnx1:(zed ls b1 own (k+1)).1=(zed ls b1 own k).1++(arn ls (zed ls b1 own k).2.G x).1.filter (ovr ls b1):=by
      rw [hnx];show _++List.filter (ovr ls (zed ls b1 own k).2) _=_
      congr 1
      refine List.filter_congr fun key _=>?_
      unfold ovr;rw [hCk]
     have hnx2:(zed ls b1 own (k+1)).2.G=(arn ls (zed ls b1 own k).2.G x).2:=by rw [hnx];rfl
     generalize (zed ls b1 own k).1=O at *
     generalize (arn ls (zed ls b1 own k).2.G x).2=G' at *
     generalize (arn ls (zed ls b1 own k).2.G x).1=W at *
     have qe:=aI qR (aI @qN @hx);have jA:SX [] _:=⟨h55⟩;refine gE2 ?_
     refine zh (κ:=Nat) (fun e=>⟨[(0,.lp 900 0),(1,.p (.sl 7 (own.map Mov.pv))),(7,.row 400 (O++(W.take e).filter (ovr ls b1)).length),(24,.p (.sl 7 (own.map Mov.pv))),(25,.p (.i .i64 own.length)),(26,.p (.i .i64 k)),(32,.p (.sl 2 (W.map kyP))),(33,.p (.i .i64 W.length)),(34,.p (.i .i64 e)),(1000900,.lp 900 0),(1000901,.lm 901),(1000902,.lm 902)],[(900,.box [.p (.sl 11 (ls.map Lim.pv)),.lm 901,.lm 902] false),(901,.mp (b1.C.map cE) false),(902,.mp (G'.map gE) false),(400,.row 171 2 ((O++(W.take e).filter (ovr ls b1)).map kyP) false)],[],false⟩) (fun e=>e≤W.length) (fun e=>W.length - e) 0 ?_ ?_ ?_
     ·exact sS
     ·simp
     ·intro e he
      have hfl:=xby (ovr ls b1) (W.take e)
      have htl:(W.take e).length≤900000:=by rw [xan];omega
      have hal:(O++(W.take e).filter (ovr ls b1)).length≤1000000000:=by rw [xad];omega
      refine gH (fun hc=>?_) fun hc=>?_
      ·obtain ⟨key,hy⟩:=zj (i:=e) (l:=W) (by omega)
       obtain ⟨l,hli,_⟩:=hWw key (xae hy)
       have hil:key.1 < ls.length:=(xaa.1 hli).1
       have hov:ovr ls b1 key=decide (l.most < zbh b1.C key):=by unfold ovr zdn;rw [xam,hli]
       have hnxe:(W.take (e+1)).filter (ovr ls b1)=(W.take e).filter (ovr ls b1)++if ovr ls b1 key=true then [key] else []:=by
        rw [zE hy,xbe,xa2,List.filter_nil]
       obtain ⟨i,v⟩:=key
       have hkk:=eq_true (zr1 i v b1.C)
       have hget:=zrQ b1.C i v
       simp only at hli hil hov
       by_cases hlt:l.most < zbh b1.C (i,v)
       ·have hlt':=eq_true hlt
        rw [hov,if_pos (decide_eq_true hlt)] at hnxe
        have hll:(O++(W.take (e+1)).filter (ovr ls b1)).length=(O++(W.take e).filter (ovr ls b1)).length+1:=by rw [hnxe];simp;omega
        have qe:=aI qR (aI @hy (aI @hkk (aI @hget (aI @hli @hlt'))));refine gE2 ?_
        exact ⟨e+1,by omega,by omega,by simp [hnxe]<;>omega,by simp [hnxe]⟩
       ·have hlt':=eq_false hlt
        rw [hov,if_neg (by rw [decide_eq_true_eq];exact hlt),xar] at hnxe
        have qe:=aI qR (aI @hy (aI @hkk (aI @hget (aI @hli @hlt'))));refine gE2 ?_
        exact ⟨e+1,by omega,by omega,by simp [hnxe]<;>omega,by simp [hnxe]⟩
      ·refine gE2 ?_
       have ee:e=W.length:=by omega
       subst ee
       rw [xah]
       exact ⟨k+1,by omega,by omega,by simp [hnx1],by simp [hnx1,hnx2]⟩
    ·have e:k=own.length:=by omega
     subst e
     rw [hcend]
     obtain ⟨hB2,hC2,hL2⟩:=hfin
     generalize hcc:zzx ls b1 own=cc at *
     obtain ⟨O,b2⟩:=cc
     simp only at hB2 hC2 hL2
     have hc2:∀ k,-(M+own.length)≤zbh b2.C k∧zbh b2.C k≤M+own.length:=fun k=>by rw [hC2];exact hc1 k
     rw [←hC2]
     have qe:=@qR;refine gE2 ?_
     refine zh (κ:=Nat) (fun k=>⟨[(0,.lp 900 0),(7,.row 400 O.length),(60,.p (.sl 7 (own.map Mov.pv))),(61,.p (.i .i64 own.length)),(62,.p (.i .i64 k)),(1000900,.lp 900 0),(1000901,.lm 901),(1000902,.lm 902)],[(900,.box [.p (.sl 11 (ls.map Lim.pv)),.lm 901,.lm 902] false),(901,.mp ((zy ls b2 (own.take k) (-1)).C.map cE) false),(902,.mp ((zy ls b2 (own.take k) (-1)).G.map gE) false),(400,.row 171 2 (O.map kyP) false)],[],false⟩) (fun k=>k≤own.length) (fun k=>own.length - k) 0 ?_ ?_ ?_
     ·refine gJ ?_;simp [zy]
     ·simp
     ·intro k hk
      refine gH (fun hc=>?_) fun hc=>?_
      ·obtain ⟨x,hx⟩:=zj (i:=k) (l:=own) (by omega)
       obtain ⟨hB,hC⟩:=zbS hl hB2 hc2 (t:=-1) (by omega) own k
       have hnx:=zck ls b2 (-1) hx
       have h21:=zeT hl hn hw hB (fun key=>by have:=hC key;omega) x (hm x (xae hx)) (t:=-1) (by omega)
       rw [←hnx] at h21
       have qe:=aI qR (aI @qN @hx);have jA:SX [] _:=⟨h21⟩;refine gE2 ?_
       exact ⟨k+1,by omega,by omega,by simp,by simp⟩
      ·have e:k=own.length:=by omega
       subst e
       rw [xah]
       generalize zy ls b2 own (-1)=b3 at *
       have hol:O.length≤1000000000:=by omega
       have hsl:(zbO O).length=O.length:=(List.mergeSort_perm O leK).length_eq
       have h56:=zvZ O hol
       refine zcU ?_
       refine (show Run _ (.seq (.ops false _) _) _ _ from zbC (zar (zw ?_)))
       have qe:=aI qR @qN;repeat' first|refine gC ?_ ?_<;>intro hc<;>try contradiction|refine zf [(900,400)] (h56) ?_|refine gG ?_|show AK _;intro J Z|refine gJ ?_|omega|exact aT
       have h60:=fun a0 c0=>zvY (zbO O) (by omega) a0 c0
       have hsm:(zbO O).length=((zbO O).map kyP).length:=by rw [xaf]
       have hcl:=zi7 (zbO O)
       have hcr:=zni (zbO O)
       have htk:((zpc (zbO O)).map kyP).take (zbu (zbO O)).length=(zbu (zbO O)).map kyP:=by
        rw [←xbK];unfold zpc;rw [List.take_left'];rfl
       rw [hsm] at h60
       rw [←hsl,hsm]
       generalize hS:zbO O=S at *
       refine zag (zrh 400 (e:=171) (sz:=2) (xs:=S.map kyP) rfl (fun a0 c0=>[(72,.p (.rs a0 (S.map kyP).length c0)),(0,.lp 900 0),(1000900,.lp 900 0),(1000901,.lm 901),(1000902,.lm 902)]) (fun a0 c0=>[(900,.box [.p (.sl 11 (ls.map Lim.pv)),.lm 901,.lm 902] false),(901,.mp (b3.C.map cE) false),(902,.mp (b3.G.map gE) false)]) fun a0 c0=>⟨?_,?_,?_,?_⟩) ?_
       ·exact ⟨.inr ⟨_,.inl (.inr ⟨rfl,rfl⟩),rfl⟩,.inl rfl,.inl rfl,.inl rfl,.inl rfl,trivial⟩
       ·exact ⟨.inl rfl,.inl rfl,.inl rfl,trivial⟩
       ·simp [scEnv,scP,zm]
       ·simp [scObj,scPs,scP,zm]
       rintro _ ⟨a0,c0,rfl⟩
       refine (show zp _ _ _ _ _ (St.mk _ _ [] false) _ from ?_)
       refine znT [(900,400)] (hf:=h60 a0 c0) (hn:=?_)
       refine zbP 0 ?_
       simp only [xbb,xbw]
       have qe:=aI qR (aI @rn.eq_1 @rn.eq_2);refine gE2 ?_
       refine zag (zlG 400 (zbu S).length (e:=171) (sz:=2) (c0:=c0) (xs:=(zpc S).map kyP) (a0:=a0) [(73,.p (.sl 2 ((zbu S).map kyP))),(0,.lp 900 0),(1000900,.lp 900 0),(1000901,.lm 901),(1000902,.lm 902)] [(900,.box [.p (.sl 11 (ls.map Lim.pv)),.lm 901,.lm 902] false),(901,.mp (b3.C.map cE) false),(902,.mp (b3.G.map gE) false)] rfl (by rw [xaf];omega) ⟨?_,?_,?_,?_⟩) ?_
       ·exact ⟨.inr ⟨_,_,rfl,rfl,by rw [←htk];exact .inl (.inr ⟨rfl,rfl⟩)⟩,.inl rfl,.inl rfl,.inl rfl,.inl rfl,trivial⟩
       ·exact ⟨.inl rfl,.inl rfl,.inl rfl,trivial⟩
       ·simp [scEnv,scP,zm]
       ·simp [scObj,scPs,scP,zm]
       rintro _ rfl
       refine (show zp _ _ _ _ _ (St.mk _ _ [] false) _ from zw ?_)
       have qe:=aI qR (aI @rtN @rtR);refine gE2 ?_
       all_goals exact .inl (.mkP (h2:=by simp only [qS,Nat.reduceAdd,Nat.reduceMul,Nat.reduceEqDiff,Nat.reduceLeDiff,reduceIte,reduceCtorEq,Nat.reduceBEq,Nat.reduceLT,keepG.eq_1,keepG.eq_2,gLV.eq_1,gLV.eq_2,gLV.eq_5]<;>simp) (hk:=by intro k hk;cases hk))
def tn5:Int.toNat 1=1:=rfl
def zgs:List RO:=[⟨(some 12),.load 1 false,[.t 4],none,[]⟩,
     ⟨(some 13),.mv,[.t 7],none,[]⟩,
     ⟨(some 14),.load 1 false,[.t 4],none,[]⟩,
     ⟨(some 15),.mv,[.t 7],none,[]⟩,
     ⟨(some 16),.mv,[.t 6],none,[]⟩,
     ⟨(some 17),.iadrA 2 1,[.t 5,.t 16],none,[4]⟩,
     ⟨(some 18),.load 1 false,[.t 17],none,[5]⟩,
     ⟨(some 19),.iadrS 3,[.t 12,.t 13],none,[0,1,0,1,4,5,6]⟩,
     ⟨(some 20),.fadr 1,[.t 19],none,[7,0,1,4,5,6]⟩,
     ⟨none,.store 1,[.t 20,.t 18],none,[8,6,0,1,4,5,6]⟩,
     ⟨(some 21),.iadrS 3,[.t 14,.t 15],none,[2,3,0,1,2,3,4,5,6,7,8,9]⟩,
     ⟨(some 22),.fadr 2,[.t 21],none,[10,0,1,2,3,4,5,6,7,8,9]⟩,
     ⟨none,.store 1,[.t 22,.c (.b true)],none,[11,9,0,1,2,3,4,5,6,7,8,9]⟩]
def zx1 (n i:Nat) (c m:Int) (R0 R1 R2:List PV) (b3:LObj) (o1 o2:Int) (E:List (Nat × LV)) (D:Nat->Bool):St:=
 ⟨(12,if D 0=true then .row 900 n else zS E 12)::(13,if D 1=true then .p (.i .i64 (i:Int)) else zS E 13)::(14,if D 2=true then .row 900 n else zS E 14)::(15,if D 3=true then .p (.i .i64 (i:Int)) else zS E 15)::(16,if D 4=true then .p (.i .i64 c) else zS E 16)::(17,if D 5=true then .lp 5 c.toNat else zS E 17)::(18,if D 6=true then .p (.i .i64 m) else zS E 18)::(19,if D 7=true then .ep 900 n i 0 else zS E 19)::(20,if D 8=true then .ep 900 n i 1 else zS E 20)::(21,if D 10=true then .ep 900 n i 0 else zS E 21)::(22,if D 11=true then .ep 900 n i 2 else zS E 22)::E,
  [(3,b3),(4,.box [.row 900 n] false),(5,.box [.p (.i .i64 o1),.p (.i .i64 o2)] false),(900,.row 79 3 (if D 12=true then R2 else if D 9=true then R1 else R0) false)],[],false⟩
def zpU {X:Fx} {ro:Option Nat} {Q:zam} {n:Nat} {R0:List PV} {b3:LObj} {o1 o2:Int} {E:List (Nat × LV)} {nm:ByteArray} {m0:Int} {g:Bool} (h4:zS E 4=.lp 4 0) (h5:zS E 5=.lp 5 0) (h6:zS E 6=.p (.i .i64 c)) (h7:zS E 7=.p (.i .i64 (i:Int))) (hr:R0[i]?=some (.agg [.s nm,.i .i64 m0,.b g])) (hn:R0.length=n) (hc:(c=0/\m=o1)\/(c=1/\m=o2))
  (hQ:Q .normal (zx1 n i c m R0 (R0.set i (.agg [.s nm,.i .i64 m,.b g])) (R0.set i (.agg [.s nm,.i .i64 m,.b true])) b3 o1 o2 E λ_=>true)):Run ⟨prog,X,ro,[]⟩ (.ops true zgs) ⟨E,[(3,b3),(4,.box [.row 900 n] false),(5,.box [.p (.i .i64 o1),.p (.i .i64 o2)] false),(900,.row 79 3 R0 false)],[],false⟩ Q:=by
 have hil:i < R0.length:=(xaa.1 hr).1;have hin:i < n:=by omega
 have hcb:0<=c/\c < 2:=by omega
 refine zjA Mx.h (zx1 n i c m R0 (R0.set i (.agg [.s nm,.i .i64 m,.b g])) (R0.set i (.agg [.s nm,.i .i64 m,.b true])) b3 o1 o2 E) (λD=>⟨rfl,rfl⟩) ⟨λk=>?_,λk=>rfl⟩ ?_ ?_ ?_
 ·simp only [St.get,zx1,zS,xaD,if_false]
  repeat' split
  all_goals first|rfl|(subst_vars;rfl)
 ·intro j o hj e he
  match j,hj with
  | 0,hj|1,hj|2,hj|3,hj|4,hj|5,hj|6,hj|7,hj|8,hj|9,hj|10,hj|11,hj|12,hj=>simp only [zgs,xbj,xbJ,xaK] at hj;subst hj;simp at he<;>omega
  | j+13,hj=>simp [zgs] at hj
 ·intro D hdn i' o hj hi haf;refine zhw (T:=λs'=>SEq s' (zx1 n i c m R0 (R0.set i (.agg [.s nm,.i .i64 m,.b g])) (R0.set i (.agg [.s nm,.i .i64 m,.b true])) b3 o1 o2 E λj=>decide (j=i') || D j)) ?_
  have h12:∀ e,e < 12->D e=false->D 12=false:=λe he h=>by
   cases hd:D 12 with
   | false=>rfl
   | true=>
    by_cases e10:e=10
    ·subst e10;have h11:=hdn 12 _ rfl hd 11 (by simp)
     have:=hdn 11 _ rfl h11 10 (by simp)
     rw [this] at h;cases h
    ·have:=hdn 12 _ rfl hd e (by simp;omega)
     rw [this] at h;cases h
  have h9:D 9=false->D 10=false:=λh=>by
   cases hd:D 10 with
   | false=>rfl
   | true=>
    have:=hdn 10 _ rfl hd 9 (by simp)
    rw [this] at h;cases h
  have hgs1:∀ a:PV,(R0.set i a)[i]?=some a:=λa=>by rw [xbE hil]
  match i',hj with
  | 0,hj|1,hj|2,hj|3,hj|4,hj|5,hj|6,hj|7,hj|8,hj|9,hj|10,hj|11,hj|12,hj=>
   simp only [zgs,xbj,xbJ,xaK] at hj;subst hj;simp only [xaI,List.not_mem_nil,or_false,forall_eq_or_imp,forall_eq,false_implies,implies_true] at haf
   first|(have h12':=h12 _ (by omega) hi)|(have h12':=hi)
   unfold zx1
   rcases hc with ⟨rfl,rfl⟩|⟨rfl,rfl⟩<;>cases hd9:D 9<;>first|(exfalso;revert hd9;simp [haf];done)|(exfalso;revert hd9;simp [hi];done)|(
    simp only [haf,hi,h12',hd9,h4,h5,h6,h7,hr,hn,hin,hgs1,tn1,tn4,tn5,List.set_set,xbQ,qS,seval,qR]
    try refine ⟨by omega,?_⟩
    refine ⟨λk=>?_,λk=>?_⟩
    ·simp only [St.get,zS]
     by_cases hk:12<=k/\k<=22
     ·rcases (show k=12\/k=13\/k=14\/k=15\/k=16\/k=17\/k=18\/k=19\/k=20\/k=21\/k=22 by omega) with rfl|rfl|rfl|rfl|rfl|rfl|rfl|rfl|rfl|rfl|rfl<;>simp [haf,hi]
     ·simp [show k≠12 by omega,show k≠13 by omega,show k≠14 by omega,show k≠15 by omega,show k≠16 by omega,show k≠17 by omega,show k≠18 by omega,show k≠19 by omega,show k≠20 by omega,show k≠21 by omega,show k≠22 by omega]
    ·simp [St.look,zm,haf,hi,h12',hd9])
  | j+13,hj=>simp [zgs] at hj
 ·exact hQ
def zo4 (R:List Res) (u:Unt) (o:Opt) (c:Nat):List Res:=((zeX u).take c).foldl (λR x=>zji R x.2.toNat (if x.1=0 then o.1 else o.2)) R
def zmv (R:List Res) (u:Unt) (o:Opt):zo4 R u o (zeX u).length=zn9 R u o:=by
 unfold zo4 zn9 zeX;rw [xah]
 by_cases h:u.2 < 0<;>simp [h]
def zfL (R:List Res) (u:Unt) (o:Opt) (c:Nat):(zo4 R u o c).length=R.length:=by
 unfold zo4;have:∀ (I:List (Nat × Int)) (R:List Res),(I.foldl (λR x=>zji R x.2.toNat (if x.1=0 then o.1 else o.2)) R).length=R.length:=by
  intro I
  induction I with
  | nil=>intro R;rfl
  | cons x I ih=>intro R;rw [xbn,ih,zcS]
 exact this _ _
def zmq (h:R[i]?=some r) (m:Int):(zji R i m).map Res.pv=(R.map Res.pv).set i (.agg [.s r.name,.i .i64 m,.b true]):=by rw [zpG h,xbf]
def znz (hr:R[i]?=some r) (hu:u=((i:Int),-1)\/∃ (k:Nat) (q:Res),R[k]?=some q/\u=((i:Int),(k:Int))) (o:Opt):zbk prog 87 [.p (unP u),.row 900 R.length,.p (unP o)] [(900,.row 79 3 (R.map Res.pv) false)] (.p (.tup [])) [(900,.row 79 3 ((zn9 R u o).map Res.pv) false)]:=by
 have hil:i < R.length:=(xaa.1 hr).1;have hu1:u.1=(i:Int):=by rcases hu with rfl|⟨k,b,hb,rfl⟩<;>rfl
 have hpl:(zn9 R u o).length=R.length:=by rw [<-zmv,zfL]
 refine zD (cF func87 f87.eq_1) (by simp) (by simp [scPs,scP,zm]) (by simp [scObj,scPs,scP,zm]) ⟨rfl,trivial⟩ (by simp [scObj,scPs,scP,zm]) (by simp [zcQ,zm,hpl]) λX hX=>?_
 unfold zx ghO;have qe:=aI qR (aI @qN @gLV.eq_2);have jA:=zmx u;refine gE2 ?_;refine zcb rfl (zm1 u (by omega)) ?_ ?_ [(3,.lp 3 0),(4,.lp 4 0),(5,.lp 5 0),(9,.p (.fn (.func 217) [] [.ip (unP u) 0])),(1000900,.row 900 R.length)] (λc=>[(3,.box [.p (.i .i64 u.1),.p (.i .i64 u.2)] false),(4,.box [.row 900 R.length] false),(5,.box [.p (.i .i64 o.1),.p (.i .i64 o.2)] false),(900,.row 79 3 ((zo4 R u o c).map Res.pv) false)]) (λ_=>[]) ?_ ?_ ?_
 ·intro t ht;obtain ⟨x,_,rfl⟩:=xaN.1 ht;rfl
 ·simp [hX]
 ·simp only [zo4,xbb,xbI,qS,seval]<;>simp
 ·intro c t ht X' ro' hX';simp only [xal,xab] at ht;obtain ⟨x,hx,rfl⟩:=ht;have hlc:=zfL R u o c;have hnx:zo4 R u o (c+1)=zji (zo4 R u o c) x.2.toNat (if x.1=0 then o.1 else o.2):=by
   unfold zo4;rw [zE hx,xaP];rfl
  rcases (show c=0\/c=1 by
   have h1:=(xaa.1 hx).1;unfold zeX at h1;split at h1<;>simp at h1<;>omega) with rfl|rfl
  ·have ex:x=(0,(i:Int)):=by unfold zeX at hx;simp at hx;rw [<-hx,hu1]
   subst ex;have e2:zo4 R u o 0=R:=by unfold zo4;simp
   simp only [if_true,xam,e2] at hnx;have hsm:=zmq hr o.1;rw [e2];simp only [qS,seval];refine gE2 ?_;intro X1 hX1;refine (show Run _ (.block _ (.ops true zgs)) _ _ from zdi ?_)
   refine zpU (i:=i) (c:=0) (m:=o.1) (nm:=r.name) (m0:=r.minute) (g:=r.gr) ?_ ?_ ?_ ?_ (by rw [xal,hr];rfl) (by rw [xaf]) (.inl ⟨rfl,rfl⟩) ?_
   ·rfl
   ·rfl
   ·rfl
   ·rfl
   unfold zx1;have qe:=aI qR @qN;refine gE2 ?_;exact ⟨by rw [hnx,hsm],by rw [zfL];omega⟩
  ·rcases hu with rfl|⟨k,q,hq,rfl⟩
   ·unfold zeX at hx;simp at hx
   ·have hkl:k < R.length:=(xaa.1 hq).1;have ex:x=(1,(k:Int)):=by
     unfold zeX at hx;rw [if_neg (by omega)] at hx
     simp at hx;exact hx.symm
    subst ex;obtain ⟨q1,hq1⟩:=zj (i:=k) (l:=zo4 R ((i:Int),(k:Int)) o 1) (by omega)
    simp only [show ¬((1:Nat)=0) by omega,if_false,xam] at hnx
    have hsm:=zmq hq1 o.2;simp only [qS,seval];refine gE2 ?_;intro X1 hX1;refine (show Run _ (.block _ (.ops true zgs)) _ _ from zdi ?_)
    refine zpU (i:=k) (c:=1) (m:=o.2) (nm:=q1.name) (m0:=q1.minute) (g:=q1.gr) ?_ ?_ ?_ ?_ (by rw [xal,hq1];rfl) (by rw [xaf];exact hlc) (.inr ⟨rfl,rfl⟩) ?_
    ·rfl
    ·rfl
    ·rfl
    ·rfl
    unfold zx1;have qe:=aI qR @qN;refine gE2 ?_;exact ⟨by rw [hnx,hsm],by rw [zfL];omega⟩
 ·simp only [xaf,zmv];have qe:=aI @rtN @rtR;refine gE2 ?_
  all_goals exact .inl (.mk0 (h2:=by simp only [qS,seval,keepG.eq_1,keepG.eq_2,gLV.eq_1,gLV.eq_2,gLV.eq_5]<;>simp))
def zfE (ls:List Lim) (L:List Wis) (R:List Res) (k:Ky) (f:Nat->Bool) (c:Nat):List ByteArray:=((List.range c).filter λi=>f i && zrf ls L R k i).map λi=>(za5 R i).name
def zrd (ls:List Lim) (L:List Wis) (R:List Res) (k:Ky) (f:Nat->Bool) (c:Nat):(zfE ls L R k f c).length<=c:=by
 unfold zfE;rw [xaf];have:=xby (λi=>f i && zrf ls L R k i) (List.range c)
 rw [xaU] at this;exact this
def zoy (ls:List Lim) (L:List Wis) (R:List Res) (k:Ky) (f:Nat->Bool) (c:Nat):zfE ls L R k f (c+1)=zfE ls L R k f c++if (f c && zrf ls L R k c)=true then [(za5 R c).name] else []:=by
 unfold zfE;rw [xbd,xbe,xa2,List.filter_nil,xa6]
 split<;>simp
def zv1 (hl:∀ l ∈ ls,zr l=0) (C:List (Ky × Int)) (G:BgM) {k:Ky} (hk:ls[k.1]?=some l) (hx:-1000000000<=k.2/\k.2<=1000000000) (hn:R.length=L.length) (hn2:L.length<=1000) {f:Nat} {caps:List PV} {p:Nat->Bool} (hf:∀ i,i < L.length->Pure prog f ([]++[.i .i64 (i:Int)]++caps) (.b (p i))):zbk prog 141 [.lp 900 0,.p (.sl 18 (L.map Wis.pv)),.p (.sl 3 (R.map Res.pv)),.p (kyP k),.p (.fn (.func f) [] caps)] [(900,.box [.p (.sl 11 (ls.map Lim.pv)),.lm 901,.lm 902] false),(901,.mp (C.map cE) false),(902,.mp (G.map gE) false)] (.p (.sl 1 ((zlF ls L R k p).map .s))) [(900,.box [.p (.sl 11 (ls.map Lim.pv)),.lm 901,.lm 902] false),(901,.mp (C.map cE) false),(902,.mp (G.map gE) false)]:=by
 refine zD (cF func141 f141.eq_1) (by simp) (by simp [scPs,scP,zm]) (by simp [scObj,scPs,scP,zm]) ⟨rfl,rfl,rfl,trivial⟩ (by simp [scObj,scPs,scP,zm]) (by simp [zcQ,zm]) λX hX=>?_
 unfold zx ghO;have qe:=aI qR (aI @qN (aI @gLV.eq_1 @gLV.eq_5));refine gE2 ?_;refine run_ownL 400 9 1 (κ:=Nat) (λc=>⟨[(0,.lp 900 0),(1,.p (.sl 18 (L.map Wis.pv))),(4,.p (.fn (.func f) [] caps)),(8,.lp 8 0),(11,.row 400 (zfE ls L R k p c).length),(14,.p (.sl 3 (R.map Res.pv))),(15,.p (.i .i64 R.length)),(16,.p (.i .i64 c)),(1000900,.lp 900 0),(1000901,.lm 901),(1000902,.lm 902)],[(900,.box [.p (.sl 11 (ls.map Lim.pv)),.lm 901,.lm 902] false),(901,.mp (C.map cE) false),(902,.mp (G.map gE) false),(8,.box [.p (.i .i64 (k.1:Int)),.p (.i .i64 k.2)] false),(400,.row 9 1 ((zfE ls L R k p c).map .s) false)],[],false⟩) (λc=>c<=R.length) (λc=>R.length - c) 0 ?_ ?_ ?_
 ·refine ⟨gO ?_,gO ?_⟩<;>simp [zfE]
 ·simp
 ·intro c hc0;have hhl:=zrd ls L R k p c;have hnx:=zoy ls L R k p c;refine gH (λhc=>?_) λhc=>?_
  ·obtain ⟨r,hr⟩:=zj (i:=c) (l:=R) (by omega)
   obtain ⟨w,hwl⟩:=zj (i:=c) (l:=L) (by omega)
   have hcl:c < L.length:=by omega
   have hra:=zW hr;have hfc:=hf c hcl;have hmw:zfB L c r.minute=zbF (w.req.at r.minute):=by unfold zfB;rw [hwl]
   have hhw:zrf ls L R k c=(r.gr && (zbF (w.req.at r.minute)).any (inW l k.2)):=by unfold zrf;rw [hk];simp only [hra,hmw]
   rw [hhw,hra] at hnx;have h03:=zny hl C G hk hx w r.minute;cases hp:p c with
   | false=>
    rw [hp] at hfc hnx;simp only [xa4,xaD,if_false,xar] at hnx;have qe:=aI qR (aI @qN (aI @hr @hwl));have jA:=hfc;have jB:=nm 103 (.b false);refine gE2 ?_;exact ⟨c+1,by omega,by omega,by simp [hnx],by simp [hnx]⟩
   | true=>
    rw [hp] at hfc hnx;cases hg:r.gr with
    | false=>
     rw [hg] at hnx;simp only [xa4,Bool.and_false,xaD,if_false,xar] at hnx;have qe:=aI qR (aI @qN (aI @hr (aI @hwl @hg)));have jA:=hfc;have jB:=nm 103 (.b false);refine gE2 ?_;exact ⟨c+1,by omega,by omega,by simp [hnx],by simp [hnx]⟩
    | true=>
     rw [hg] at hnx;cases hh:(zbF (w.req.at r.minute)).any (inW l k.2) with
     | false=>
      rw [hh] at hnx h03;simp only [Bool.and_false,xaD,if_false,xar] at hnx;have qe:=aI qR (aI @qN (aI @hr (aI @hwl (aI @hg @hcl))));repeat' first|refine gC ?_ ?_<;>intro hc<;>try contradiction|refine zl (hfc) ?_|refine zb8 [] (h03) ?_|refine gG ?_|show AK _;intro J Z|refine gJ ?_|omega|exact aT
      exact ⟨c+1,by omega,by omega,by simp [hnx],by simp [hnx]⟩
     | true=>
      rw [hh] at hnx h03;simp only [xbL,if_true] at hnx;have hll:(zfE ls L R k p (c+1)).length=(zfE ls L R k p c).length+1:=by rw [hnx];simp
      have qe:=aI qR (aI @qN (aI @hr (aI @hwl (aI @hg @hcl))));repeat' first|refine gC ?_ ?_<;>intro hc<;>try contradiction|refine zl (hfc) ?_|refine zb8 [] (h03) ?_|refine gG ?_|show AK _;intro J Z|refine gJ ?_|omega|exact aT
      exact ⟨c+1,by omega,by omega,by simp [hnx],by simp [hnx]⟩
  ·obtain rfl:c=R.length:=by omega
   have e:zfE ls L R k p R.length=zlF ls L R k p:=by unfold zfE zlF;rw [hn]
   rw [e];have qe:=aI qR (aI @rtN @rtR);refine gE2 ?_
   all_goals exact .inl (.mkP (h2:=by simp only [qS,seval,keepG.eq_1,keepG.eq_2,gLV.eq_1,gLV.eq_2,gLV.eq_5]<;>simp))
def zit {r:Req} (h:x ∈ zbF r):0<=x.moment/\x.moment<=1000000000:=by
 unfold zbF at h
 split at h
 ·rename_i h0;have:=(zrW (zuz h0).1).2.1 x h;unfold zhS at this;simp only [zi,zdR] at this
  omega
 ·cases h
def zir (h:x ∈ zfB L i m):0<=x.moment/\x.moment<=1000000000:=by
 unfold zfB at h
 split at h
 ·exact zit h
 ·cases h
def zaH (h:x ∈ zan L u o):0<=x.moment/\x.moment<=1000000000:=by
 unfold zan at h
 rcases xaS.1 h with h|h
 ·exact zir h
 ·split at h
  ·cases h
  ·exact zir h
def za1 (L:List Wis) (u:Unt) (o:Opt):(zan L u o).length<=802:=by
 unfold zan;rw [xad];have:=zis L u.1.toNat o.1;have:=zis L u.2.toNat o.2
 split
 ·simp;omega
 ·omega
def zmI {f:Nat->Bool} (h:x ∈ zlk L R f):0<=x.moment/\x.moment<=1000000000:=by
 have h:=(zgx L R f).mem_iff.1 h;obtain ⟨i,_,h⟩:=xaw.1 h;unfold zeA at h
 split at h
 ·split at h
  ·exact zir h
  ·cases h
 ·cases h
def zmJ (L:List Wis) (R:List Res):(zlk L R λ_=>true).length<=401*L.length:=by
 rw [(zgx L R _).length_eq];exact zik L R L.length
def zeY (ls:List Lim) (L:List Wis) (R:List Res):Int:=if zJ ls=0 then if zav L=0 then if zc8 L R=0 then if exB ls (zy ls ⟨[],[]⟩ (zlk L R λ_=>true) 1)=true then 14 else 0 else zc8 L R else zav L else zJ ls
def zi5 (k:Ky):-0<=zbh ([]:List (Ky × Int)) k/\zbh ([]:List (Ky × Int)) k<=0:=by simp [zbh,ziL]
def zzI (ls:List Lim) (h:zhX ls b):∀ e ∈ b.C,e.1.1 < ls.length:=λe he=>by
 obtain ⟨l,hl,_⟩:=h.w e he;exact (xaa.1 hl).1
def zex (hw:zJ ls=0->zgb ls) (h12:ShW L) (R:List Res):Pure prog 48 [.sl 11 (ls.map Lim.pv),.sl 18 (L.map Wis.pv),.sl 3 (R.map Res.pv)] (.i .i64 (zeY ls L R)):=by
 have h24:=zfP h12 R;refine pz func48 f48.eq_1 λhwf X hX=>?_
 unfold zeY
 by_cases h1:zJ ls=0
 ·rw [if_pos h1];have h1':=eq_true h1
  by_cases h2:zav L=0
  ·rw [if_pos h2] at h24 ⊢
   by_cases h3:zc8 L R=0
   ·rw [if_pos h3];have h3':=eq_true h3;have hl:=(zU h1).2;have hn32:=(zU h1).1;have hn:ls.length<=1000:=by omega
    have hw:=hw h1;have hn64:=(zR h2).1;have hb:=znp ls;have hRn:=(zbZ h3).1;have h20:=zmC (R:=R) hRn (by omega)
    have hpl:=zmJ L R;have hmo:=λx (hx:x ∈ zlk L R λ_=>true)=>zmI hx
    generalize (zlk L R λ_=>true)=own at *
    have hm:=hmo;have hA:=zbS hl hb (b:=⟨[],[]⟩) (M:=0) zi5 (t:=1) (by omega) own own.length
    rw [xah] at hA;have h26:=zua (ls:=ls) (zy ls ⟨[],[]⟩ own 1).C (zy ls ⟨[],[]⟩ own 1).G (zzI ls hA.1);have hEx:exB ls ⟨(zy ls ⟨[],[]⟩ own 1).C,(zy ls ⟨[],[]⟩ own 1).G⟩=exB ls (zy ls ⟨[],[]⟩ own 1):=rfl;rw [hEx] at h26;have qe:=aI qR (aI @qN (aI @h1' @h3'));have jA:=zfs ls;have jB:=h24;have jC:SX [(7,900),(4,901),(5,902)] _:=⟨zcx ls⟩;have jD:=h20;refine gE5 ?_;have hbb:([]:List (Ky × Int))=(⟨[],[]⟩:Brd).C:=rfl;refine zh (κ:=Nat) (λk=>⟨[(27,.p (.sl 7 (own.map Mov.pv))),(28,.p (.i .i64 own.length)),(29,.p (.i .i64 k)),(9,.lp 900 0)],[(900,.box [.p (.sl 11 (ls.map Lim.pv)),.lm 901,.lm 902] false),(901,.mp ((zy ls ⟨[],[]⟩ (own.take k) (1)).C.map cE) false),(902,.mp ((zy ls ⟨[],[]⟩ (own.take k) (1)).G.map gE) false)],[],false⟩) (λk=>k<=own.length) (λk=>own.length - k) 0 ?_ ?_ ?_
    ·refine gJ ?_;simp [zy]
    ·simp
    ·intro k hk;refine gH (λhc=>?_) λhc=>?_
     ·obtain ⟨x,hx⟩:=zj (i:=k) (l:=own) (by omega)
      obtain ⟨hB,hC⟩:=zbS hl hb (b:=⟨[],[]⟩) (M:=0) zi5 (t:=1) (by omega) own k
      have hnx:=zck ls ⟨[],[]⟩ (1) hx;have h21:=zeT hl hn hw hB (λkey=>by have:=hC key;omega) x (hm x (xae hx)) (t:=1) (by omega)
      rw [<-hnx] at h21;have qe:=aI qR (aI @qN @hx);have jA:SX [] _:=⟨h21⟩;refine gE2 ?_;exact ⟨k+1,by omega,by omega,by simp,by simp⟩
     ·have e:k=own.length:=by omega
      subst e;rw [xah];refine zcU ?_;refine (show Run _ (.seq (.ops false _) _) _ _ from zbC (zar (zbP 1 ?_)))
      simp only [xa3,xbb,xbz,xbw];have qe:=@qR;refine gE2 ?_;refine zag (zaz 37 (.ip (.agg [.sl 11 (ls.map Lim.pv),.mp ((zy ls ⟨[],[]⟩ own 1).C.map cE),.mp ((zy ls ⟨[],[]⟩ own 1).G.map gE)]) 0) (sR) (by first|trivial|simp) (.refl _)) ?_
      rintro _ rfl;refine zw ?_;have qe:=aI qR @qN;have jA:=h26;have jB:=λu1 u2=>za0 u1 u2;exact gD2
   ·rw [if_neg h3];have h3':=eq_false h3;have qe:=aI qR (aI @h1' @h3');have jA:=zfs ls;have jB:=h24;exact gD2
  ·rw [if_neg h2] at h24 ⊢;have h2':=eq_false h2;have qe:=aI qR (aI @h1' @h2');have jA:=zfs ls;have jB:=h24;exact gD2
 ·rw [if_neg h1];have h1':=eq_false h1;have qe:=aI qR @h1';have jA:=zfs ls;exact gD2
structure BdM (ls:List Lim) (b:Brd) (M:Int):Prop where
 ok:zhX ls b
 cnt:∀ k,-M<=zbh b.C k/\zbh b.C k<=M
def bdM0 (ls:List Lim):BdM ls ⟨[],[]⟩ 0:=⟨znp ls,zi5⟩
def BdM.mono {N:Int} (h:BdM ls b M) (hn:M<=N):BdM ls b N:=⟨h.ok,λk=>by have:=h.cnt k;omega⟩
def BdM.add (hl:∀ l ∈ ls,zr l=0) (h:BdM ls b M) (own:List Mov) (ht:-1<=t/\t<=1):BdM ls (zy ls b own t) (M+own.length):=by
 have:=zbS hl h.ok h.cnt ht own own.length;rw [xah] at this;exact ⟨this.1,this.2⟩
def BdM.rf (hl:∀ l ∈ ls,zr l=0) (h:BdM ls b M) (own:List Mov):BdM ls (rfB ls b own) M:=by
 obtain ⟨h1,h2⟩:=zwk hl h.ok own;exact ⟨h1,λk=>by rw [h2 k];exact h.cnt k⟩
def BdM.brG (hl:∀ l ∈ ls,zr l=0) (h:BdM ls b M) (L:List Wis) (R:List Res) (u:Unt):BdM ls (brG ls L R b u) (M+802):=by
 unfold Go.Proofs.YtbgckikhhcbmpaaGreat.brG
 split
 ·exact (h.add hl _ (by omega)).mono (by have:=za1 L u (grO R u);omega)
 ·exact h.mono (by omega)
def zaY (L:List Wis):(zq L).length<=L.length:=by
 unfold zq;have:=zea (f:=za7 L) (B:=1) (I:=List.range L.length) λi _=>by unfold za7;split<;>simp
 rw [xaU] at this;omega
def zhi (ls:List Lim) (L:List Wis) (R:List Res) (u:Unt) (k:Nat):Brd:=(((zq L).take k).filter λx=>decide (x≠u)).foldl (brG ls L R) ⟨[],[]⟩
def zjT {x:Unt} (hx:(zq L)[k]?=some x):zhi ls L R u (k+1)=if x≠u then brG ls L R (zhi ls L R u k) x else zhi ls L R u k:=by
 unfold zhi;rw [zE hx,xbe,xaP,xa2,List.filter_nil]
 by_cases h:x≠u
 ·rw [if_pos h,if_pos (by simpa using h)];rfl
 ·rw [if_neg h,if_neg (by simpa using h)];rfl
def zws (hl:∀ l ∈ ls,zr l=0) (L:List Wis) (R:List Res) (u:Unt):∀ k,BdM ls (zhi ls L R u k) (802*k):=by
 intro k
 induction k with
 | zero=>exact bdM0 ls
 | succ k ih=>
  cases hx:(zq L)[k]? with
  | none=>
   have e:zhi ls L R u (k+1)=zhi ls L R u k:=by unfold zhi;rw [xas (by have:=List.getElem?_eq_none_iff.1 hx;omega),xas (by have:=List.getElem?_eq_none_iff.1 hx;omega)]
   rw [e];exact ih.mono (by omega)
  | some x=>
   rw [zjT hx]
   split
   ·exact (ih.brG hl L R x).mono (by omega)
   ·exact ih.mono (by omega)
def zjg (hl:∀ l ∈ ls,zr l=0) (hn:ls.length<=1000) (hw:zgb ls) (h:zav L=0) (hr:zc8 L R=0) (u:Unt):zbk prog 100 [.p (.sl 11 (ls.map Lim.pv)),.p (.sl 18 (L.map Wis.pv)),.p (.sl 3 (R.map Res.pv)),.p (unP u)] [] (.lp 900 0) [(900,.box [.p (.sl 11 (ls.map Lim.pv)),.lm 901,.lm 902] false),(901,.mp ((zkI ls L R u).C.map cE) false),(902,.mp ((zkI ls L R u).G.map gE) false)]:=by
 have hn64:=(zR h).1;have hul:=zaY L;have hRn:=(zbZ hr).1;have hend:zhi ls L R u (zq L).length=zkI ls L R u:=by unfold zhi zkI;rw [xah]
 refine zD (cF func100 f100.eq_1) (by simp) (by simp [scPs,scP]) (by simp [scObj]) trivial (by simp [scObj,scPs,scP,zm]) trivial λX hX=>?_
 unfold zx ghO;have qe:=aI qR @qN;have jA:SX [(7,900),(4,901),(5,902)] _:=⟨zcx ls⟩;have jB:=zcp L h;refine gE2 ?_;refine zcb rfl (zcr L (by omega)) ?_ ?_ [(5,.lp 5 0),(6,.lp 6 0),(7,.lp 7 0),(9,.lp 9 0),(16,.p (.fn (.func 161) [] [.ip (.sl 1 ((zdT L).map (.i .i64))) 0]))] (λk=>[(900,.box [.p (.sl 11 (ls.map Lim.pv)),.lm 901,.lm 902] false),(901,.mp ((zhi ls L R u k).C.map cE) false),(902,.mp ((zhi ls L R u k).G.map gE) false),(5,.box [.p (.sl 18 (L.map Wis.pv))] false),(6,.box [.p (.sl 3 (R.map Res.pv))] false),(7,.box [.p (.i .i64 u.1),.p (.i .i64 u.2)] false),(9,.box [.lp 900 0] false)]) (λ_=>[]) ?_ ?_ ?_
 ·intro t ht;obtain ⟨x,_,rfl⟩:=xaN.1 ht;rfl
 ·simp [hX]
 ·simp only [zhi,xbb,List.filter_nil,xbI,qS,seval]<;>simp
 ·intro k t ht X' ro' hX';simp only [xal,xab] at ht;obtain ⟨x,hx,rfl⟩:=ht;have hxm:=xae hx;have hkl:=(xaa.1 hx).1;have hnx:=zjT (ls:=ls) (R:=R) (u:=u) hx;have hM:=zws hl L R u k;have h25:=zce h hRn hxm;have hq:=zBd x.1 x.2 u.1 u.2;have hml:=za1 L x (grO R x);cases hg:grB R x with
  | false=>
   have e:zhi ls L R u (k+1)=zhi ls L R u k:=by
    rw [hnx];split
    ·unfold brG;rw [hg];rfl
    ·rfl
   rw [hg] at h25;simp only [qS,seval];refine gE2 ?_;intro X1 hX1;have qe:=aI qR @qN;have jA:=h25;refine gE2 ?_;simp [e]
  | true=>
   rw [hg] at h25
   by_cases hxu:x=u
   ·have e:zhi ls L R u (k+1)=zhi ls L R u k:=by rw [hnx,if_neg (by simpa using hxu)]
    rw [decide_eq_true (show ((u.1,u.2):Opt)=(x.1,x.2) by rw [hxu])] at hq
    simp only [qS,seval];refine gE2 ?_;intro X1 hX1;have qe:=aI qR (aI @qN (aI @hq @xaC));have jA:=h25;refine gE2 ?_;simp [e]
   ·have e:zhi ls L R u (k+1)=zy ls (zhi ls L R u k) (zan L x (grO R x)) 1:=by rw [hnx,if_pos hxu];unfold brG;rw [hg];rfl
    rw [decide_eq_false (show ¬((u.1,u.2):Opt)=(x.1,x.2) from λhh=>hxu (by rw [xcf] at hh;exact Prod.ext hh.1.symm hh.2.symm))] at hq
    have h88:=zdP hl hn hw hM.ok hM.cnt (zaR h hxm (grO R x)) (λy hy=>zaH hy) (by omega) (t:=1) (by omega)
    rw [<-e] at h88;simp only [qS,seval];refine gE2 ?_;intro X1 hX1;have qe:=aI qR (aI @qN (aI @hq @xax));repeat' first|refine gC ?_ ?_<;>intro hc<;>try contradiction|refine za (h25) ?_|refine zf [] (h88) ?_|refine gG ?_|show AK _;intro J Z|refine gJ ?_|omega|exact aT
 ·simp only [xaf,hend];have qe:=aI @rtN @rtR;refine gE2 ?_
  all_goals exact .inl (.mk1)
def zeW (ls:List Lim) (L:List Wis) (F:Unt->List Opt) (k:Nat):List Res × Brd:=((zq L).take k).foldl (zli ls L F) (zbU L,⟨[],[]⟩)
def zgw {F:Unt->List Opt} (hx:(zq L)[k]?=some u):zeW ls L F (k+1)=zli ls L F (zeW ls L F k) u:=by
 unfold zeW;rw [zE hx,xaP];rfl
theorem zwh (hl:∀ l ∈ ls,zr l=0) (L:List Wis) (u:Unt):∀ (O:List Opt) (b:Brd),BdM ls b M->BdM ls (zkS ls L u O b).2 M
 | [],b,h=>h
 | o::r,b,h=>by
  rw [zkS]
  split
  ·exact h.rf hl _
  ·exact zwh hl L u r _ (h.rf hl _)
theorem zhn (hl:∀ l ∈ ls,zr l=0) (L:List Wis) (u:Unt):∀ (O:List Opt) (b:Brd),BdM ls b M->BdM ls (brO ls L u O b) M
 | [],b,h=>h
 | o::r,b,h=>zhn hl L u r _ (h.rf hl _)
def zib (R:List Res) (u:Unt) (o:Opt):(zn9 R u o).length=R.length:=by
 unfold zn9;split
 ·exact zcS _ _ _
 ·rw [zcS,zcS]
def zmG (hl:∀ l ∈ ls,zr l=0) (L:List Wis) (F:Unt->List Opt):∀ k,BdM ls (zeW ls L F k).2 (802*k)/\(zeW ls L F k).1.length=L.length:=by
 intro k
 induction k with
 | zero=>exact ⟨bdM0 ls,by unfold zeW zbU;simp⟩
 | succ k ih=>
  cases hx:(zq L)[k]? with
  | none=>
   have e:zeW ls L F (k+1)=zeW ls L F k:=by unfold zeW;rw [xas (by have:=List.getElem?_eq_none_iff.1 hx;omega),xas (by have:=List.getElem?_eq_none_iff.1 hx;omega)]
   rw [e];exact ⟨ih.1.mono (by omega),ih.2⟩
  | some u=>
   rw [zgw hx];unfold zli;have h1:=zwh hl L u (F u) _ ih.1
   split
   ·rename_i o b he;rw [he] at h1;exact ⟨(BdM.add hl h1 (zan L u o) (t:=1) (by omega)).mono (by have:=za1 L u o;omega),by simp only [zib];exact ih.2⟩
   ·rename_i b he;rw [he] at h1;exact ⟨h1.mono (by omega),ih.2⟩
def zjW (h:zav L=0) (h12:ShW L) (hu:u ∈ zq L):(zaS L u).length<=200:=by
 obtain ⟨i,a,ha,hc⟩:=zb4 h hu;have hcl:∀ a:Wis,(zac a).length=zg2 a.req.minute a.ear a.lat a.step:=λa=>by unfold zac;rw [zu];unfold zkM;rw [xaf,xaU]
 have hA:=h12 h a (xae ha);have hAl:=hcl a
 rcases hc with rfl|⟨k,b,hk,hik,rfl⟩
 ·unfold zaS;simp only [xam,ha,show ((-1:Int) < 0) by omega,if_true,xaf]
  omega
 ·have hB:=h12 h b (xae hk.at_b);have hBl:=hcl b;have e:zaS L ((i:Int),(k:Int))=zz (zpd a b) (zdS a b):=by
   unfold zaS;simp only [xam,ha,hk.at_b,show ¬((k:Int) < 0) by omega,if_false]
  rw [e,zu];have h:=zgv a b (zac a).length;have e:zd5 a b (zac a).length=zdS a b:=by unfold zd5;rw [xah];rfl
  rw [e] at h;have:(zac a).length*(zac b).length<=12*12:=Nat.mul_le_mul (by omega) (by omega)
  omega
def zmE (hw:zJ ls=0->zgb ls) (h12:ShW L):Pure prog 16 [.sl 11 (ls.map Lim.pv),.sl 18 (L.map Wis.pv)] (.tup [.sl 3 ((if zn [zJ ls,zav L]=0 then (zeW ls L (zaS L) (zq L).length).1 else []).map Res.pv),.i .i64 (zn [zJ ls,zav L])]):=by
 refine pz func16 f16.eq_1 λhwf X hX=>?_
 by_cases h0:zn [zJ ls,zav L]=0
 ·have h0':=eq_true h0;rw [if_pos h0];have h00:=h0;rw [zi,zi] at h00;obtain ⟨h1,h2,_⟩:=h00;have hl:=(zU h1).2;have hn32:=(zU h1).1;have hn:ls.length<=1000:=by omega
  have hw:=hw h1;have hn64:=(zR h2).1;have hul:=zaY L;have hrl:(zbU L).length=L.length:=by unfold zbU;rw [xaf]
  have qe:=aI qR (aI @qN (aI @h0' @hrl));repeat' first|refine gC ?_ ?_<;>intro hc<;>try contradiction|refine za (zfs ls) ?_|refine za (zfU L) ?_|refine za (zaG [_,_]) ?_|refine zf [(400,400)] (znA (L:=L) (by omega)) ?_|refine zf [(7,900),(4,901),(5,902)] (zcx ls) ?_|refine za (zcp L h2) ?_|refine gG ?_|show AK _;intro J Z|refine gJ ?_|omega|exact aT
  refine zcb rfl (zcr L (by omega)) ?_ ?_ [(3,.lp 3 0),(7,.lp 7 0),(8,.lp 8 0),(9,.lp 9 0),(29,.p (.fn (.func 161) [] [.ip (.sl 1 ((zdT L).map (.i .i64))) 0]))] (λk=>[(900,.box [.p (.sl 11 (ls.map Lim.pv)),.lm 901,.lm 902] false),(901,.mp ((zeW ls L (zaS L) k).2.C.map cE) false),(902,.mp ((zeW ls L (zaS L) k).2.G.map gE) false),(3,.box [.p (.sl 18 (L.map Wis.pv))] false),(7,.box [.row 400 L.length] false),(8,.box [.lp 900 0] false),(9,.box [.fn (.func 83) [.lp 900 0] []] false),(400,.row 79 3 ((zeW ls L (zaS L) k).1.map Res.pv) false)]) (λ_=>[]) ?_ ?_ ?_
  ·intro t ht;obtain ⟨x,_,rfl⟩:=xaN.1 ht;rfl
  ·simp [hX]
  ·simp only [zeW,xbb,xbI,hrl,qS,seval]<;>simp [hrl]
  ·intro k t ht X' ro' hX';simp only [xal,xab] at ht;obtain ⟨u,hx,rfl⟩:=ht;have hxm:=xae hx;have hkl:=(xaa.1 hx).1;have hnx:=zgw (ls:=ls) (F:=zaS L) hx;obtain ⟨hM,hRl⟩:=zmG hl L (zaS L) k;have h85:=zjO h2 h12 hxm;have hOl:=zjW h2 h12 hxm;unfold zli at hnx;generalize zeW ls L (zaS L) k=st at hM hRl hnx ⊢;obtain ⟨R,b⟩:=st;simp only at hM hRl hnx;simp only [qS,seval];refine gE2 ?_;intro X1 hX1;have qe:=aI qR @qN;have jA:=h85;refine gE2 ?_;generalize zaS L u=O at hnx hOl;refine zh (κ:=Nat) (λe=>⟨[(10,.lp 10 0),(3,.lp 3 0),(7,.lp 7 0),(8,.lp 8 0),(9,.lp 9 0),(29,.p (.fn (.func 161) [] [.ip (.sl 1 ((zdT L).map (.i .i64))) 0])),(33,.p (.sl 2 (O.map unP))),(34,.p (.i .i64 O.length)),(35,.p (.i .i64 e)),(1000003,.lp 3 0),(1000007,.lp 7 0),(1000008,.lp 8 0),(1000009,.lp 9 0),(1000029,.p (.fn (.func 161) [] [.ip (.sl 1 ((zdT L).map (.i .i64))) 0]))],[(900,.box [.p (.sl 11 (ls.map Lim.pv)),.lm 901,.lm 902] false),(901,.mp ((brO ls L u (O.take e) b).C.map cE) false),(902,.mp ((brO ls L u (O.take e) b).G.map gE) false),(3,.box [.p (.sl 18 (L.map Wis.pv))] false),(7,.box [.row 400 L.length] false),(8,.box [.lp 900 0] false),(9,.box [.fn (.func 83) [.lp 900 0] []] false),(400,.row 79 3 (R.map Res.pv) false),(10,.box [.p (.i .i64 u.1),.p (.i .i64 u.2)] false)],[],false⟩) (λe=>e<=O.length/\zkS ls L u O b=zkS ls L u (O.drop e) (brO ls L u (O.take e) b)) (λe=>O.length - e) 0 ?_ ?_ ?_
   ·refine gJ ?_;simp [brO,hRl]
   ·simp [brO]
   ·intro e he;obtain ⟨he,htr⟩:=he;refine gH (λhc=>?_) λhc=>?_
    ·obtain ⟨o,ho⟩:=zj (i:=e) (l:=O) (by omega)
     have hbe:BdM ls (brO ls L u (O.take e) b) (802*k):=zhn hl L u _ b hM;have hnb:brO ls L u (O.take (e+1)) b=rfB ls (brO ls L u (O.take e) b) (zan L u o):=by unfold brO;rw [zE ho,xaP];rfl
     rw [xaE (by omega),show O[e]=o from (xaa.1 ho).2,zkS] at htr
     have h86:=zaR h2 hxm o;have hml:=za1 L u o;have h83:=zbN hl hn hw hbe.ok hbe.cnt (own:=zan L u o) (λy hy=>zaH hy) (by omega) (by omega)
     have hrf:=hbe.rf hl (zan L u o);generalize brO ls L u (O.take e) b=be at *;obtain ⟨o1,o2⟩:=o
     by_cases hW:rfW ls be (zan L u (o1,o2))=[]
     ·rw [if_pos hW] at htr;rw [hW] at h83;rw [htr] at hnx;simp only at hnx;have h88:=zdP hl hn hw hrf.ok hrf.cnt h86 (λy hy=>zaH hy) (by omega) (t:=1) (by omega)
      obtain ⟨i,r,hr,hc⟩:=zh8 h2 hRl hxm;have h87:=znz hr hc (o1,o2);rw [hRl] at h87;generalize rfB ls be (zan L u (o1,o2))=b2 at *;have qe:=aI qR (aI @qN @ho);repeat' first|refine gC ?_ ?_<;>intro hc<;>try contradiction|refine za (h86) ?_|refine zay [] (h83) ?_|refine zf [(900,400)] (h87) ?_|refine zf [] (h88) ?_|refine gG ?_|show AK _;intro J Z|refine gJ ?_|omega|exact aT
      simp [hnx,zib,hRl]
     ·rw [if_neg hW] at htr;have hW':=eq_false (show ¬(((rfW ls be (zan L u (o1,o2))).length:Int)=0) by
       intro hz;exact hW (xay (by omega)))
      generalize rfB ls be (zan L u (o1,o2))=b2 at *;have qe:=aI qR (aI @qN (aI @ho @hW'));repeat' first|refine gC ?_ ?_<;>intro hc<;>try contradiction|refine za (h86) ?_|refine zay [] (h83) ?_|refine gG ?_|show AK _;intro J Z|refine gJ ?_|omega|exact aT
      exact ⟨e+1,⟨by omega,by rw [htr,hnb]⟩,by omega,by simp [hRl],by simp [hnb,hRl]⟩
    ·refine gE2 ?_;have ee:e=O.length:=by omega
     subst ee;rw [xbM,xah,zkS] at htr;rw [htr] at hnx;simp [hnx,hRl]
  ·simp only [xaf];have hpe:=(zmG hl L (zaS L) (zq L).length).2;have qe:=@hpe;refine gE2 ?_
   all_goals (rw [h0];exact .refl _)
 ·have h0':=eq_false h0;rw [if_neg h0];have qe:=aI qR @h0';have jA:=zfs ls;have jB:=zfU L;have jC:=λu1 u2=>zaG [u1,u2];refine gE5 ?_
  all_goals exact zdc (.nilsl _) (.refl _)
abbrev cplP (c:Cpl):PV:=.agg [.i .i64 c.idx,.i .i64 c.minute,.i .i64 c.other,.sl 1 (c.blk.map .s)]
def zgP {α:Type} {p:α->Bool} {l:List α} (h:∀ x ∈ l,p x=false):l.find? p=none:=List.find?_eq_none.2 λx hx=>by rw [h x hx];simp
def zkc {α β:Type} {p:β->Bool} {f:α->List β} {l:List α} {u:α} (hu:l[k]?=some u) (h1:∀ x ∈ l.take k,∀ y ∈ f x,p y=false) {o:β} (ho:(f u)[e]?=some o) (h2:∀ y ∈ (f u).take e,p y=false) (hp:p o=true):(l.flatMap f).find? p=some o:=by
 have e1:l=l.take k++u::l.drop (k+1):=by
  obtain ⟨hk,hku⟩:=xaa.1 hu;rw [<-hku,<-xaE hk,xaq]
 have e2:f u=(f u).take e++o::(f u).drop (e+1):=by
  obtain ⟨hk,hku⟩:=xaa.1 ho;rw [<-hku,<-xaE hk,xaq]
 rw [e1,xa8,xat,List.find?_append,zgP λy hy=>by
  obtain ⟨x,hx,hy⟩:=xaw.1 hy;exact h1 x hx y hy]
 rw [e2,xak,Option.none_or,List.find?_append,zgP h2,Option.none_or,xaM,List.find?_cons,hp]
def zqz (hl:∀ l ∈ ls,zr l=0) (L:List Wis) (R:List Res) (u:Unt):BdM ls (zkI ls L R u) (802*L.length):=by
 have:=zws hl L R u (zq L).length;have e:zhi ls L R u (zq L).length=zkI ls L R u:=by unfold zhi zkI;rw [xah]
 rw [e] at this;exact this.mono (by have:=zaY L;omega)
def zdl (h:zav L=0) (h12:ShW L) (R:List Res) (hu:u ∈ zq L):(zad L R u).length<=200:=by
 have:=zjW h h12 hu;unfold zad
 split
 ·exact xa0 (List.Sublist.length_le (List.takeWhile_sublist _)) this
 ·exact this
def zkA (h:zeY ls L R=0):zJ ls=0/\zav L=0/\zc8 L R=0:=by
 unfold zeY at h
 by_cases h1:zJ ls=0
 ·rw [if_pos h1] at h
  by_cases h2:zav L=0
  ·rw [if_pos h2] at h
   by_cases h3:zc8 L R=0
   ·exact ⟨h1,h2,h3⟩
   ·rw [if_neg h3] at h;exact absurd h h3
  ·rw [if_neg h2] at h;exact absurd h h2
 ·rw [if_neg h1] at h;exact absurd h h1
def zei {a b e:Int}:Weak (.tup [.agg [.i .i64 a,.i .i64 b,.i .i64 c,.nilsl],.i .i64 e]) (.tup [cplP ⟨a,b,c,[]⟩,.i .i64 e]):=by
 refine zdc (.agg rfl λj x y hx hy=>?_) (.refl _)
 match j with
 | 0=>simp at hx hy;subst hx;subst hy;exact .refl _
 | 1=>simp at hx hy;subst hx;subst hy;exact .refl _
 | 2=>simp at hx hy;subst hx;subst hy;exact .refl _
 | 3=>simp at hx hy;subst hx;subst hy;exact .nilsl _
 | j+4=>simp at hx
def zul (hw:zJ ls=0->zgb ls) (h12:ShW L) (R:List Res):Pure prog 28 [.sl 11 (ls.map Lim.pv),.sl 18 (L.map Wis.pv),.sl 3 (R.map Res.pv)] (.tup [cplP (if zeY ls L R=0 then (zwe ls L R).getD cpl0 else cpl0),.i .i64 (if zeY ls L R=0 then if (zwe ls L R).isSome=true then 0 else 7 else zeY ls L R)]):=by
 have h48:=zex hw h12 R;refine pz func28 f28.eq_1 λhwf X hX=>?_
 by_cases h0:zeY ls L R=0
 ·rw [if_pos h0,if_pos h0];obtain ⟨h1,h2,h3⟩:=zkA h0;have h0':=eq_true h0;have hl:=(zU h1).2;have hn32:=(zU h1).1;have hn:ls.length<=1000:=by omega
  have hw:=hw h1;have hn64:=(zR h2).1;have hul:=zaY L;have qe:=aI qR (aI @qN @h0');have jA:=h48;have jB:=zcp L h2;refine gE2 ?_;refine zb7 rfl (zcr L (by omega)) ?_ ?_ [(3,.lp 3 0),(4,.lp 4 0),(5,.lp 5 0),(6,.lp 6 0),(7,.lp 7 0),(22,.p (.fn (.func 161) [] [.ip (.sl 1 ((zdT L).map (.i .i64))) 0]))] (λ_=>[(3,.box [.p (.sl 11 (ls.map Lim.pv))] false),(4,.box [.p (.sl 18 (L.map Wis.pv))] false),(5,.box [.p (.sl 3 (R.map Res.pv))] false),(6,.box [.p (.i .i64 0),.p (.i .i64 0),.p (.i .i64 0),.p .nilsl] false),(7,.box [.p (.i .i64 0)] false)]) (λ_=>[]) (λk=>∀ u ∈ (zq L).take k,∀ o ∈ zad L R u,(xrO ls L R u o).isEmpty=false) ?_ ?_ ?_ ?_
  ·intro t ht;obtain ⟨x,_,rfl⟩:=xaN.1 ht;rfl
  ·simp [hX]
  ·exact sS
  ·simp
  ·intro k t ht hok X' ro' hX';simp only [xal,xab] at ht;obtain ⟨u,hx,rfl⟩:=ht;have hxm:=xae hx;have hkl:=(xaa.1 hx).1;have h00:=zjg hl hn hw h2 h3 u;have h07:=zfQ h2 h12 h3 hxm;have hOl:=zdl h2 h12 R hxm;have hM:=zqz hl L R u;simp only [qS,seval];refine gE2 ?_;intro X1 hX1;have qe:=aI qR @qN;have jA:SX [] _:=⟨h00⟩;have jB:=h07;refine gE2 ?_;have hrfo:=λ(O:List Opt) (o:Opt)=>zmr hl h2 h3 hxm O o
   have hnxt:(∀ o ∈ zad L R u,(xrO ls L R u o).isEmpty=false)->∀ x ∈ (zq L).take (k+1),∀ o ∈ zad L R x,(xrO ls L R x o).isEmpty=false:=λhb x hxx=>by
    rw [zE hx] at hxx
    rcases xaS.1 hxx with hxx|hxx
    ·exact hok x hxx
    ·rw [xaX] at hxx;rw [hxx];exact hb
   have hhit:∀ (e:Nat) (o:Opt),(zad L R u)[e]?=some o->(∀ y ∈ (zad L R u).take e,(xrO ls L R u y).isEmpty=false)->(xrO ls L R u o).isEmpty=true->zwe ls L R=some ⟨u.1,o.1,o.2,[]⟩:=λe o he hno hp=>by
    have:=zkc (p:=λx:Unt × Opt=>(xrO ls L R x.1 x.2).isEmpty) (f:=λu=>(zad L R u).map λo=>(u,o)) hx (λx hxx y hy=>by
     obtain ⟨o,ho,rfl⟩:=xaN.1 hy;exact hok x hxx o ho) (e:=e) (o:=(u,o)) (by rw [xal,he];rfl) (λy hy=>by
     rw [<-xbK] at hy;obtain ⟨o,ho,rfl⟩:=xaN.1 hy;exact hno o ho) hp
    unfold zwe zfz;rw [this];rfl
   generalize zad L R u=O at *;generalize zkI ls L R u=b0 at *;refine zh (κ:=Nat) (λe=>⟨[(9,.lp 9 0),(10,.lp 900 0),(3,.lp 3 0),(4,.lp 4 0),(5,.lp 5 0),(6,.lp 6 0),(7,.lp 7 0),(22,.p (.fn (.func 161) [] [.ip (.sl 1 ((zdT L).map (.i .i64))) 0])),(32,.p (.sl 2 (O.map unP))),(33,.p (.i .i64 O.length)),(34,.p (.i .i64 e)),(1000003,.lp 3 0),(1000004,.lp 4 0),(1000005,.lp 5 0),(1000006,.lp 6 0),(1000007,.lp 7 0),(1000022,.p (.fn (.func 161) [] [.ip (.sl 1 ((zdT L).map (.i .i64))) 0]))],[(900,.box [.p (.sl 11 (ls.map Lim.pv)),.lm 901,.lm 902] false),(901,.mp ((brO ls L u (O.take e) b0).C.map cE) false),(902,.mp ((brO ls L u (O.take e) b0).G.map gE) false),(3,.box [.p (.sl 11 (ls.map Lim.pv))] false),(4,.box [.p (.sl 18 (L.map Wis.pv))] false),(5,.box [.p (.sl 3 (R.map Res.pv))] false),(6,.box [.p (.i .i64 0),.p (.i .i64 0),.p (.i .i64 0),.p .nilsl] false),(7,.box [.p (.i .i64 0)] false),(9,.box [.p (.i .i64 u.1),.p (.i .i64 u.2)] false)],[],false⟩) (λe=>e<=O.length/\∀ y ∈ O.take e,(xrO ls L R u y).isEmpty=false) (λe=>O.length - e) 0 ?_ ?_ ?_
   ·refine gJ ?_;simp [brO]
   ·simp
   ·intro e he;obtain ⟨he,hno⟩:=he;refine gH (λhc=>?_) λhc=>?_
    ·obtain ⟨o,ho⟩:=zj (i:=e) (l:=O) (by omega)
     have hbe:BdM ls (brO ls L u (O.take e) b0) (802*L.length):=zhn hl L u _ b0 hM;have hnb:brO ls L u (O.take (e+1)) b0=rfB ls (brO ls L u (O.take e) b0) (zan L u o):=by unfold brO;rw [zE ho,xaP];rfl
     have h86:=zaR h2 hxm o;have hml:=za1 L u o;have h83:=zbN hl hn hw hbe.ok hbe.cnt (own:=zan L u o) (λy hy=>zaH hy) (by omega) (by omega)
     have hrfo:=hrfo (O.take e) o;rw [hrfo] at h83;generalize brO ls L u (O.take e) b0=be at *;have hhit:=hhit e o ho hno;obtain ⟨o1,o2⟩:=o;generalize rfB ls be (zan L u (o1,o2))=b2 at *;cases hW:xrO ls L R u (o1,o2) with
     | nil=>
      have hwas:=hhit (by rw [hW];rfl)
      rw [hW] at h83;rw [hwas];have qe:=aI qR (aI @qN (aI @tn1 (aI @tn4 @ho)));have jA:=h86;have jB:SX [] _:=⟨h83⟩;refine gE2 ?_
      all_goals exact zei
     | cons w0 W=>
      rw [hW] at h83;have hW':=eq_false (show ¬(((w0::W).length:Int)=0) by rw [xaz];omega)
      have qe:=aI qR (aI @qN (aI @ho @hW'));have jA:=h86;have jB:SX [] _:=⟨h83⟩;refine gE2 ?_;exact ⟨e+1,⟨by omega,by
       intro y hy;rw [zE ho] at hy
       rcases xaS.1 hy with hy|hy
       ·exact hno y hy
       ·rw [xaX] at hy;rw [hy,hW];rfl⟩,by omega,by simp,by simp [hnb]⟩
    ·refine gE2 ?_;have ee:e=O.length:=by omega
     subst ee;rw [xah] at hno;exact hnxt hno
  ·intro hok;have hno:zwe ls L R=none:=by
    unfold zwe zfz;rw [zgP λy hy=>by
     obtain ⟨x,hx,hy⟩:=xaw.1 hy;obtain ⟨o,ho,rfl⟩:=xaN.1 hy;exact hok x (by rw [xaf,xah];exact hx) o ho]
    rfl
   rw [hno];have qe:=@qR;refine gE2 ?_
   all_goals exact zei
 ·rw [if_neg h0,if_neg h0];have h0':=eq_false h0;have qe:=aI qR @h0';have jA:=h48;refine gE2 ?_
  all_goals exact zei
abbrev Rsn.pv (r:Rsn):PV:=.agg [.s r.name,.i .i64 r.minute,.i .i64 r.other,.i .i64 r.lim,.i .i64 r.win,.sl 1 (r.holders.map .s)]
def allRs (l:List Rsn):l.all ((λx=>x.cells.all PV.one) ∘ Rsn.pv)=true:=by rw [xaO];intro x _;rfl
def zwY (hl:∀ l ∈ ls,zr l=0) (h:w ∈ xrA ls L R u o):∃ l,ls[w.1]?=some l/\-1000000000<=w.2/\w.2<=1000000000:=by
 unfold xrA at h;obtain ⟨l,h1,h2,_⟩:=zhY.1 h;refine ⟨l,h1,?_⟩;have:=zfn (hl l (xae h1)) h2
 omega
def zsm (hl:∀ l ∈ ls,zr l=0) (hn:ls.length<=1000) (hw:zgb ls) (h2:zav L=0) (hu:u ∈ zq L) (o:Opt) (hb:BdM ls b 100000) (f:Bool) (S:List Rsn) (hx:rfW ls b (zan L u o)=[]):zbk prog 140 [.lp 900 0,.p (unP u),.p (unP o),.lp 910 0,.lp 911 0,.lp 912 0,.lp 913 0] [(900,.box [.p (.sl 11 (ls.map Lim.pv)),.lm 901,.lm 902] false),(901,.mp (b.C.map cE) false),(902,.mp (b.G.map gE) false),(910,.box [.p (.sl 18 (L.map Wis.pv))] false),(911,.box [.p (.b f)] false),(912,.box [.row 914 S.length] false),(913,.box [.p (.sl 3 (R.map Res.pv))] false),(914,.row 113 6 (S.map Rsn.pv) false)] (.p (.b false)) [(900,.box [.p (.sl 11 (ls.map Lim.pv)),.lm 901,.lm 902] false),(901,.mp ((rfB ls b (zan L u o)).C.map cE) false),(902,.mp ((rfB ls b (zan L u o)).G.map gE) false),(910,.box [.p (.sl 18 (L.map Wis.pv))] false),(911,.box [.p (.b true)] false),(912,.box [.row 914 S.length] false),(913,.box [.p (.sl 3 (R.map Res.pv))] false),(914,.row 113 6 (S.map Rsn.pv) false)]:=by
 have h86:=zaR h2 hu o;have hml:=za1 L u o;have h83:=zbN hl hn hw hb.ok hb.cnt (own:=zan L u o) (λy hy=>zaH hy) (by omega) (by omega)
 rw [hx] at h83;generalize rfB ls b (zan L u o)=b2 at *;obtain ⟨o1,o2⟩:=o;refine zD (cF func140 f140.eq_1) (by simp) (by simp [scPs,scP,zm]) (by simp [scObj,scPs,scP,zm]) ⟨rfl,rfl,rfl,rfl,rfl,rfl,rfl,rfl,trivial⟩ (by simp [scObj,scPs,scP,zm]) (by simp [zcQ,zm]) λX hX=>?_
 unfold zx ghO;have qe:=aI qR (aI @qN (aI @gLV.eq_1 (aI @gLV.eq_2 (aI @gLV.eq_5 (aI @rtN @rtR)))));have jA:=h86;have jB:SX [] _:=⟨h83⟩;refine gE2 ?_
 all_goals exact .inl (.mkP (h2:=by simp only [qS,seval,keepG.eq_1,keepG.eq_2,gLV.eq_1,gLV.eq_2,gLV.eq_5]<;>simp) (hk:=by intro k hk;cases hk))
def zv2 (hl:∀ l ∈ ls,zr l=0) (hn:ls.length<=1000) (hw:zgb ls) (h2:zav L=0) (hr:zc8 L R=0) (hu:u ∈ zq L) (o:Opt) (hb:BdM ls b 100000) (f:Bool) (S:List Rsn) (hS:S.length<=100000) {W:List Ky} (hx:rfW ls b (zan L u o)=w::W) (hk:ls[w.1]?=some l) (hwb:-1000000000<=w.2/\w.2<=1000000000):zbk prog 140 [.lp 900 0,.p (unP u),.p (unP o),.lp 910 0,.lp 911 0,.lp 912 0,.lp 913 0] [(900,.box [.p (.sl 11 (ls.map Lim.pv)),.lm 901,.lm 902] false),(901,.mp (b.C.map cE) false),(902,.mp (b.G.map gE) false),(910,.box [.p (.sl 18 (L.map Wis.pv))] false),(911,.box [.p (.b f)] false),(912,.box [.row 914 S.length] false),(913,.box [.p (.sl 3 (R.map Res.pv))] false),(914,.row 113 6 (S.map Rsn.pv) false)] (.p (.b true)) [(900,.box [.p (.sl 11 (ls.map Lim.pv)),.lm 901,.lm 902] false),(901,.mp ((rfB ls b (zan L u o)).C.map cE) false),(902,.mp ((rfB ls b (zan L u o)).G.map gE) false),(910,.box [.p (.sl 18 (L.map Wis.pv))] false),(911,.box [.p (.b false)] false),(912,.box [.row 914 (S++[zto ls L R u o w]).length] false),(913,.box [.p (.sl 3 (R.map Res.pv))] false),(914,.row 113 6 ((S++[zto ls L R u o w]).map Rsn.pv) false)]:=by
 have h86:=zaR h2 hu o;have hml:=za1 L u o;have hn64:=(zR h2).1;have h83:=zbN hl hn hw hb.ok hb.cnt (own:=zan L u o) (λy hy=>zaH hy) (by omega) (by omega)
 rw [hx] at h83;have h01:=zmD L h2 u;have h41:=zv1 hl (rfB ls b (zan L u o)).C (rfB ls b (zan L u o)).G hk hwb (zbZ hr).1 (by omega) (f:=174) (caps:=[.ip (.sl 1 ((zdT L).map (.i .i64))) 0,.ip (unP u) 0]) (p:=λj=>decide ((zY L j:Int) < u.1)) (λj hj=>zmw L u hj)
 obtain ⟨i,a,ha,hcu⟩:=zb4 h2 hu;have hil:i < L.length:=(xaa.1 ha).1;have hu1:u.1=(i:Int):=by rcases hcu with rfl|⟨k,q,hk,hik,rfl⟩<;>rfl
 have hnm:a.req.name=(za5 R u.1.toNat).name:=by
  rw [hu1,xam];exact ((zdz ((zbZ hr).2.1 i a ha)).1).symm
 have hRs:Rsn.pv (zto ls L R u o w)=.agg [.s a.req.name,.i .i64 o.1,.i .i64 o.2,.i .i64 (w.1:Int),.i .i64 w.2,.sl 1 ((zlF ls L R w λj=>decide ((zY L j:Int) < u.1)).map .s)]:=by
  unfold zto;rw [hnm]
 have hmp:(S++[zto ls L R u o w]).map Rsn.pv=S.map Rsn.pv++[.agg [.s a.req.name,.i .i64 o.1,.i .i64 o.2,.i .i64 (w.1:Int),.i .i64 w.2,.sl 1 ((zlF ls L R w λj=>decide ((zY L j:Int) < u.1)).map .s)]]:=by rw [xa6,xaj,xaF,hRs]
 have hSl:(S++[zto ls L R u o w]).length=S.length+1:=by simp
 rw [hmp,hSl];generalize rfB ls b (zan L u o)=b2 at *;generalize zlF ls L R w (λj=>decide ((zY L j:Int) < u.1))=H at *
 obtain ⟨o1,o2⟩:=o;obtain ⟨w1,w2⟩:=w;obtain ⟨u1,u2⟩:=u;simp only at hu1;subst hu1;have hW':=eq_false (show ¬(((((w1,w2):Ky)::W).length:Int)=0) by rw [xaz];omega)
 refine zD (cF func140 f140.eq_1) (by simp) (by simp [scPs,scP,zm]) (by simp [scObj,scPs,scP,zm]) ⟨rfl,rfl,rfl,rfl,rfl,rfl,rfl,rfl,trivial⟩ (by simp [scObj,scPs,scP,zm]) (by simp [zcQ,zm]) λX hX=>?_
 unfold zx ghO;have qe:=aI qR (aI @qN (aI @allRs (aI @hW' (aI @ha (aI @hil (aI @tn1 (aI @tn4 (aI @gLV.eq_1 (aI @gLV.eq_2 (aI @gLV.eq_5 (aI @rtN @rtR)))))))))));have jA:=h86;have jB:SX [] _:=⟨h83⟩;have jC:=h01;have jD:SX [] _:=⟨h41⟩;refine gE5 ?_
 all_goals exact .inl (.mkP (h2:=by simp only [qS,seval,keepG.eq_1,keepG.eq_2,gLV.eq_1,gLV.eq_2,gLV.eq_5]<;>simp) (hk:=by intro k hk;cases hk))
def rsG (ls:List Lim) (L:List Wis) (R:List Res) (x:Unt × Opt):List Rsn:=match xrA ls L R x.1 x.2 with
 | []=>[]
 | w::_=>[zto ls L R x.1 x.2 w]
def rsU (ls:List Lim) (L:List Wis) (R:List Res) (u:Unt) (O:List Opt):List Rsn:=(O.map λo=>(u,o)).flatMap (rsG ls L R)
def rsK (ls:List Lim) (L:List Wis) (R:List Res) (k:Nat):List Rsn:=((zq L).take k).flatMap λu=>rsU ls L R u (zad L R u)
def rsP (ls:List Lim) (L:List Wis) (R:List Res) (x:Unt × Opt):Bool:=(xrA ls L R x.1 x.2).isEmpty
def rsA (ls:List Lim) (L:List Wis) (R:List Res):List Rsn:=((zfz L R).takeWhile λx=>!rsP ls L R x).flatMap (rsG ls L R)
def rsS (ls:List Lim) (L:List Wis) (R:List Res):Bool:=(zfz L R).any (rsP ls L R)
def zw7 {α β:Type} {p:β->Bool} {f:α->List β} {l:List α} {u:α} (hu:l[k]?=some u) (h1:∀ x ∈ l.take k,∀ y ∈ f x,p y=false) {o:β} (ho:(f u)[e]?=some o) (h2:∀ y ∈ (f u).take e,p y=false) (hp:p o=true):(l.flatMap f).takeWhile (λy=>!p y)=(l.take k).flatMap f++(f u).take e/\(l.flatMap f).any p=true:=by
 have e1:l=l.take k++u::l.drop (k+1):=by
  obtain ⟨hk,hku⟩:=xaa.1 hu;rw [<-hku,<-xaE hk,xaq]
 have e2:f u=(f u).take e++o::(f u).drop (e+1):=by
  obtain ⟨hk,hku⟩:=xaa.1 ho;rw [<-hku,<-xaE hk,xaq]
 have e3:l.flatMap f=((l.take k).flatMap f++(f u).take e)++o::((f u).drop (e+1)++(l.drop (k+1)).flatMap f):=by
  conv=>lhs;rw [e1,xa8,xat,e2]
  simp [xak]
 have hall:∀ y ∈ (l.take k).flatMap f++(f u).take e,p y=false:=λy hy=>by
  rcases xaS.1 hy with hy|hy
  ·obtain ⟨x,hx,hy⟩:=xaw.1 hy;exact h1 x hx y hy
  ·exact h2 y hy
 rw [e3]
 constructor
 ·rw [List.takeWhile_append_of_pos (λy hy=>by rw [hall y hy];rfl),List.takeWhile_cons,hp];simp
 ·rw [List.any_append,List.any_cons,hp];simp
def zxF (ls:List Lim) (L:List Wis) (R:List Res) (x:Unt × Opt):(rsG ls L R x).length<=1:=by
 unfold rsG;split<;>simp
def zp4 (ls:List Lim) (L:List Wis) (R:List Res) (u:Unt) (O:List Opt):(rsU ls L R u O).length<=O.length:=by
 unfold rsU;have:=zea (f:=rsG ls L R) (B:=1) (I:=O.map λo=>(u,o)) λx _=>zxF ls L R x
 rw [xaf] at this;omega
def zxE (h:zav L=0) (h12:ShW L) (R:List Res) (k:Nat):(rsK ls L R k).length<=12800:=by
 unfold rsK;have:=zea (f:=λu=>rsU ls L R u (zad L R u)) (B:=200) (I:=(zq L).take k) λu hu=>xa0 (zp4 ls L R u _) (zdl h h12 R (xbu hu))
 have h2:((zq L).take k).length<=64:=by
  have:=zaY L;have:=(zR h).1;rw [xan];omega
 omega
def ztt (hx:(zq L)[k]?=some u):rsK ls L R (k+1)=rsK ls L R k++rsU ls L R u (zad L R u):=by
 unfold rsK;rw [zE hx,xa8];simp
def zts {O:List Opt} (ho:O[e]?=some o):rsU ls L R u (O.take (e+1))=rsU ls L R u (O.take e)++rsG ls L R (u,o):=by
 unfold rsU;rw [zE ho,xa6,xa8];simp
def zjC (ls:List Lim) (L:List Wis) (R:List Res) (k:Nat):(((zq L).take k).flatMap λu=>(zad L R u).map λo=>(u,o)).flatMap (rsG ls L R)=rsK ls L R k:=by
 unfold rsK rsU;rw [List.flatMap_assoc]
def zAz (hu:(zq L)[k]?=some u) (h1:∀ x ∈ (zq L).take k,∀ o ∈ zad L R x,(xrA ls L R x o).isEmpty=false) (ho:(zad L R u)[e]?=some o) (h2:∀ y ∈ (zad L R u).take e,(xrA ls L R u y).isEmpty=false) (hp:(xrA ls L R u o).isEmpty=true):rsA ls L R=rsK ls L R k++rsU ls L R u ((zad L R u).take e)/\rsS ls L R=true:=by
 have:=zw7 (p:=rsP ls L R) (f:=λu=>(zad L R u).map λo=>(u,o)) hu (λx hxx y hy=>by
  obtain ⟨o,ho,rfl⟩:=xaN.1 hy;exact h1 x hxx o ho) (e:=e) (o:=(u,o)) (by rw [xal,ho];rfl) (λy hy=>by
  rw [<-xbK] at hy;obtain ⟨o,ho,rfl⟩:=xaN.1 hy;exact h2 o ho) hp
 refine ⟨?_,this.2⟩;unfold rsA;show ((((zq L).flatMap λu=>(zad L R u).map λo=>(u,o))).takeWhile _).flatMap _=_
 rw [this.1,xa8,zjC,<-xbK];rfl
def zAA (h1:∀ x ∈ zq L,∀ o ∈ zad L R x,(xrA ls L R x o).isEmpty=false):rsA ls L R=rsK ls L R (zq L).length/\rsS ls L R=false:=by
 have hall:∀ y ∈ zfz L R,rsP ls L R y=false:=λy hy=>by
  obtain ⟨x,hx,hy⟩:=xaw.1 hy;obtain ⟨o,ho,rfl⟩:=xaN.1 hy;exact h1 x hx o ho
 constructor
 ·unfold rsA;have e:(zfz L R).takeWhile (λx=>!rsP ls L R x)=zfz L R:=by
   have:=List.takeWhile_append_of_pos (p:=λx=>!rsP ls L R x) (l₁:=zfz L R) (l₂:=[]) (λy hy=>by rw [hall y hy];rfl)
   simpa using this
  rw [e,<-zjC,xah];rfl
 ·unfold rsS;rw [Bool.eq_false_iff];intro h;obtain ⟨y,hy,h⟩:=xaV.1 h;rw [hall y hy] at h;cases h
def zf5 (hx:(zq L)[k]?=some u):brK ls L R (k+1)=brG ls L R (brO ls L u (zad L R u) (brK ls L R k)) u:=by
 unfold brK;rw [zE hx,xaP];rfl
def zzJ (hl:∀ l ∈ ls,zr l=0) (L:List Wis) (R:List Res):∀ k,BdM ls (brK ls L R k) (802*k):=by
 intro k
 induction k with
 | zero=>exact bdM0 ls
 | succ k ih=>
  cases hx:(zq L)[k]? with
  | none=>
   have e:brK ls L R (k+1)=brK ls L R k:=by unfold brK;rw [xas (by have:=List.getElem?_eq_none_iff.1 hx;omega),xas (by have:=List.getElem?_eq_none_iff.1 hx;omega)]
   rw [e];exact ih.mono (by omega)
  | some u=>
   rw [zf5 hx];exact ((zhn hl L u _ _ ih).brG hl L R u).mono (by omega)
def zso (hl:∀ l ∈ ls,zr l=0) (hn:ls.length<=1000) (hw:zgb ls) (h2:zav L=0) (h12:ShW L) (h3:zc8 L R=0):zbk prog 98 [.p (.sl 11 (ls.map Lim.pv)),.p (.sl 18 (L.map Wis.pv)),.p (.sl 3 (R.map Res.pv)),(.fn (.func 140) [] [.lp 910 0,.lp 911 0,.lp 912 0,.lp 913 0])] [(910,.box [.p (.sl 18 (L.map Wis.pv))] false),(911,.box [.p (.b false)] false),(912,.box [.row 914 ([]:List Rsn).length] false),(913,.box [.p (.sl 3 (R.map Res.pv))] false),(914,.row 113 6 (([]:List Rsn).map Rsn.pv) false)] (.p (.tup [])) [(910,.box [.p (.sl 18 (L.map Wis.pv))] false),(911,.box [.p (.b (rsS ls L R))] false),(912,.box [.row 914 (rsA ls L R).length] false),(913,.box [.p (.sl 3 (R.map Res.pv))] false),(914,.row 113 6 ((rsA ls L R).map Rsn.pv) false)]:=by
 have hn64:=(zR h2).1;have hul:=zaY L;have hRn:=(zbZ h3).1;refine zD (cF func98 f98.eq_1) (by simp) (by simp [scPs,scP,zm]) (by simp [scObj,scPs,scP,zm]) ⟨rfl,rfl,rfl,rfl,rfl,trivial⟩ (by simp [scObj,scPs,scP,zm]) (by simp [zcQ,zm]) λX hX=>?_
 unfold zx ghO;have qe:=aI qR (aI @qN (aI @gLV.eq_1 @gLV.eq_2));have jA:SX [(7,900),(4,901),(5,902)] _:=⟨zcx ls⟩;have jB:=zcp L h2;refine gE2 ?_;refine zb7 rfl (zcr L (by omega)) ?_ ?_ [(5,.lp 5 0),(6,.lp 6 0),(7,.lp 7 0),(8,.lp 8 0),(17,.p (.fn (.func 161) [] [.ip (.sl 1 ((zdT L).map (.i .i64))) 0])),(1000910,.lp 910 0),(1000911,.lp 911 0),(1000912,.lp 912 0),(1000913,.lp 913 0),(1000914,.row 914 0)] (λk=>[(900,.box [.p (.sl 11 (ls.map Lim.pv)),.lm 901,.lm 902] false),(901,.mp ((brK ls L R k).C.map cE) false),(902,.mp ((brK ls L R k).G.map gE) false),(5,.box [.p (.sl 18 (L.map Wis.pv))] false),(6,.box [.p (.sl 3 (R.map Res.pv))] false),(7,.box [(.fn (.func 140) [] [.lp 910 0,.lp 911 0,.lp 912 0,.lp 913 0])] false),(8,.box [.lp 900 0] false),(910,.box [.p (.sl 18 (L.map Wis.pv))] false),(911,.box [.p (.b false)] false),(912,.box [.row 914 (rsK ls L R k).length] false),(913,.box [.p (.sl 3 (R.map Res.pv))] false),(914,.row 113 6 ((rsK ls L R k).map Rsn.pv) false)]) (λ_=>[]) (λk=>∀ u ∈ (zq L).take k,∀ o ∈ zad L R u,(xrA ls L R u o).isEmpty=false) ?_ ?_ ?_ ?_
 ·intro t ht;obtain ⟨x,_,rfl⟩:=xaN.1 ht;rfl
 ·simp [hX]
 ·simp only [brK,rsK,xbb,xbI,xbH,qS,seval]<;>simp
 ·simp
 ·intro k t ht hok X' ro' hX';simp only [xal,xab] at ht;obtain ⟨u,hx,rfl⟩:=ht;have hxm:=xae hx;have hkl:=(xaa.1 hx).1;have h07:=zfQ h2 h12 h3 hxm;have hOl:=zdl h2 h12 R hxm;have hM:=(zzJ hl L R k).mono (show (802*k:Int)<=60000 by omega)
  have hSl:=zxE (ls:=ls) h2 h12 R k;have hrfe:=λ(O:List Opt) (o:Opt)=>zkY hl h2 h3 hx O o
  have hbn:=zf5 (ls:=ls) (R:=R) hx;have hsn:=ztt (ls:=ls) (R:=R) hx;have hhit:=λ(e:Nat) (o:Opt)=>zAz (ls:=ls) (R:=R) hx hok (e:=e) (o:=o)
  have h25:=zce h2 hRn hxm;have hnxt:(∀ o ∈ zad L R u,(xrA ls L R u o).isEmpty=false)->∀ x ∈ (zq L).take (k+1),∀ o ∈ zad L R x,(xrA ls L R x o).isEmpty=false:=λhb x hxx=>by
   rw [zE hx] at hxx
   rcases xaS.1 hxx with hxx|hxx
   ·exact hok x hxx
   ·rw [xaX] at hxx;rw [hxx];exact hb
  simp only [qS,seval];refine gE2 ?_;intro X1 hX1;have qe:=aI qR @qN;have jA:=h07;refine gE2 ?_;generalize zad L R u=O at *;generalize brK ls L R k=b0 at *;generalize rsK ls L R k=S0 at *;refine zh (κ:=Nat) (λe=>⟨[(9,.lp 9 0),(5,.lp 5 0),(6,.lp 6 0),(7,.lp 7 0),(8,.lp 8 0),(17,.p (.fn (.func 161) [] [.ip (.sl 1 ((zdT L).map (.i .i64))) 0])),(22,.p (.sl 2 (O.map unP))),(23,.p (.i .i64 O.length)),(24,.p (.i .i64 e)),(1000005,.lp 5 0),(1000006,.lp 6 0),(1000007,.lp 7 0),(1000008,.lp 8 0),(1000017,.p (.fn (.func 161) [] [.ip (.sl 1 ((zdT L).map (.i .i64))) 0])),(2000910,.lp 910 0),(2000911,.lp 911 0),(2000912,.lp 912 0),(2000913,.lp 913 0),(2000914,.row 914 0)],[(900,.box [.p (.sl 11 (ls.map Lim.pv)),.lm 901,.lm 902] false),(901,.mp ((brO ls L u (O.take e) b0).C.map cE) false),(902,.mp ((brO ls L u (O.take e) b0).G.map gE) false),(5,.box [.p (.sl 18 (L.map Wis.pv))] false),(6,.box [.p (.sl 3 (R.map Res.pv))] false),(7,.box [(.fn (.func 140) [] [.lp 910 0,.lp 911 0,.lp 912 0,.lp 913 0])] false),(8,.box [.lp 900 0] false),(910,.box [.p (.sl 18 (L.map Wis.pv))] false),(911,.box [.p (.b false)] false),(912,.box [.row 914 (S0++rsU ls L R u (O.take e)).length] false),(913,.box [.p (.sl 3 (R.map Res.pv))] false),(914,.row 113 6 ((S0++rsU ls L R u (O.take e)).map Rsn.pv) false),(9,.box [.p (.i .i64 u.1),.p (.i .i64 u.2)] false)],[],false⟩) (λe=>e<=O.length/\∀ y ∈ O.take e,(xrA ls L R u y).isEmpty=false) (λe=>O.length - e) 0 ?_ ?_ ?_
  ·refine gJ ?_;simp [brO,rsU]
  ·simp
  ·intro e he;obtain ⟨he,hno⟩:=he;refine gH (λhc=>?_) λhc=>?_
   ·obtain ⟨o,ho⟩:=zj (i:=e) (l:=O) (by omega)
    have hbe:BdM ls (brO ls L u (O.take e) b0) 100000:=(zhn hl L u _ b0 hM).mono (by omega)
    have hnb:brO ls L u (O.take (e+1)) b0=rfB ls (brO ls L u (O.take e) b0) (zan L u o):=by unfold brO;rw [zE ho,xaP];rfl
    have hrfe:=hrfe (O.take e) o;have hun:=zts (ls:=ls) (L:=L) (R:=R) (u:=u) ho;have hul2:=zp4 ls L R u (O.take e);have htl:(O.take e).length<=200:=by rw [xan];omega
    have hSS:(S0++rsU ls L R u (O.take e)).length<=100000:=by rw [xad];omega
    generalize brO ls L u (O.take e) b0=be at *;have hhit:=hhit e o ho hno;cases hW:xrA ls L R u o with
    | nil=>
     obtain ⟨r1,r2⟩:=hhit (by rw [hW];rfl)
     have h40:=zsm hl hn hw h2 (R:=R) hxm o hbe false (S0++rsU ls L R u (O.take e)) (by rw [hrfe,hW])
     rw [r1,r2];obtain ⟨o1,o2⟩:=o;generalize rfB ls be (zan L u (o1,o2))=b2 at *;have qe:=aI qR (aI @qN (aI @ho (aI @rtN @rtR)));repeat' first|refine gC ?_ ?_<;>intro hc<;>try contradiction|refine zay [] (h40) ?_|refine gG ?_|show AK _;intro J Z|refine gJ ?_|omega|exact aT
     all_goals exact .inl (.mk0 (h2:=by simp only [qS,seval,keepG.eq_1,keepG.eq_2,gLV.eq_1,gLV.eq_2,gLV.eq_5]<;>simp))
    | cons w0 W=>
     obtain ⟨l,hkl0,hwb⟩:=zwY hl (show w0 ∈ xrA ls L R u o by rw [hW];simp)
     have h40:=zv2 hl hn hw h2 h3 hxm o hbe false (S0++rsU ls L R u (O.take e)) hSS (w:=w0) (W:=W) (by rw [hrfe,hW]) hkl0 hwb
     have hg:rsG ls L R (u,o)=[zto ls L R u o w0]:=by unfold rsG;simp only [hW]
     rw [hg,] at hun;have hnS:S0++rsU ls L R u (O.take (e+1))=(S0++rsU ls L R u (O.take e))++[zto ls L R u o w0]:=by rw [hun,xak]
     rw [<-hnS] at h40;obtain ⟨o1,o2⟩:=o;generalize rfB ls be (zan L u (o1,o2))=b2 at *;have qe:=aI qR (aI @qN @ho);repeat' first|refine gC ?_ ?_<;>intro hc<;>try contradiction|refine zay [] (h40) ?_|refine gG ?_|show AK _;intro J Z|refine gJ ?_|omega|exact aT
     exact ⟨e+1,⟨by omega,by
      intro y hy;rw [zE ho] at hy
      rcases xaS.1 hy with hy|hy
      ·exact hno y hy
      ·rw [xaX] at hy;rw [hy,hW];rfl⟩,by omega,by simp,by simp [hnb]⟩
   ·have ee:e=O.length:=by omega
    subst ee;rw [xah] at hno ⊢;rw [<-hsn];have hbO:BdM ls (brO ls L u O b0) 60000:=zhn hl L u _ b0 hM;cases hg:grB R u with
    | false=>
     rw [hg] at h25;have e2:brK ls L R (k+1)=brO ls L u O b0:=by rw [hbn];unfold brG;rw [hg];rfl
     have qe:=aI qR @qN;have jA:=h25;refine gE2 ?_;exact ⟨⟨by rw [e2],by rw [e2],by rw [hsn,xad]⟩,hnxt hno⟩
    | true=>
     rw [hg] at h25;have e2:brK ls L R (k+1)=zy ls (brO ls L u O b0) (zan L u (grO R u)) 1:=by rw [hbn];unfold brG;rw [hg];rfl
     have hml:=za1 L u (grO R u);have h88:=zdP hl hn hw hbO.ok hbO.cnt (zaR h2 hxm (grO R u)) (λy hy=>zaH hy) (by omega) (t:=1) (by omega)
     rw [<-e2] at h88;have qe:=aI qR @qN;have jA:=h25;have jB:SX [] _:=⟨h88⟩;refine gE2 ?_;exact ⟨by rw [hsn,xad],hnxt hno⟩
 ·intro hok;obtain ⟨r1,r2⟩:=zAA (ls:=ls) (L:=L) (R:=R) (λx hx=>hok x (by rw [xaf,xah];exact hx))
  rw [r1,r2];simp only [xaf];have qe:=aI @rtN @rtR;refine gE2 ?_
  all_goals exact .inl (.mk0 (h2:=by simp only [qS,seval,keepG.eq_1,keepG.eq_2,gLV.eq_1,gLV.eq_2,gLV.eq_5]<;>simp))
def zss (ls:List Lim) (L:List Wis) (R:List Res):Int:=if zeY ls L R=0 then if rsS ls L R=true then 21 else 0 else zeY ls L R
def zp8 (ls:List Lim) (L:List Wis) (R:List Res):List Rsn:=if zss ls L R=0 then rsA ls L R else []
def zue (hw:zJ ls=0->zgb ls) (h12:ShW L) (R:List Res):Pure prog 65 [.sl 11 (ls.map Lim.pv),.sl 18 (L.map Wis.pv),.sl 3 (R.map Res.pv)] (.tup [.sl 6 ((zp8 ls L R).map Rsn.pv),.i .i64 (zss ls L R)]):=by
 have h48:=zex hw h12 R;refine pz func65 f65.eq_1 λhwf X hX=>?_
 by_cases h0:zeY ls L R=0
 ·obtain ⟨h1,h2,h3⟩:=zkA h0;have h0':=eq_true h0;have hl:=(zU h1).2;have hn32:=(zU h1).1;have hn:ls.length<=1000:=by omega
  have hw:=hw h1;have h98:=zso hl hn hw h2 h12 h3;have qe:=aI qR (aI @qN @h0');repeat' first|refine za (h48) ?_|refine gG ?_|show AK _;intro J Z|refine gJ ?_|omega|exact aT
  have qe:=aI qR (aI @qN @h0');(refine gC ?_ ?_<;>intro hc<;>try contradiction)
  refine zen ?_;refine (show Run _ (.seq (.ops false _) _) _ _ from zbC (zar (zw ?_)))
  simp only [qS,seval,qR];refine (show Run _ (.seq _ _) _ _ from ?_)
  refine zaB 400 113 6 [(0,.p (.sl 11 (ls.map Lim.pv))),(4,.lp 4 0),(5,.lp 5 0),(6,.p .nilsl),(7,.p (.i .i64 0)),(9,.lp 9 0)] [(4,.box [.p (.sl 18 (L.map Wis.pv))] false),(5,.box [.p (.sl 3 (R.map Res.pv))] false),(9,.box [.row 400 0] false)] ?_ ?_
  ·simp only [Own,za9,za3,zcg,zaT,qS,seval]<;>simp
  cases hS:rsS ls L R with
  | true=>
   rw [hS] at h98;have e:zss ls L R=21:=by unfold zss;rw [if_pos h0,hS];rfl
   have e2:zp8 ls L R=[]:=by unfold zp8;rw [e];rfl
   rw [e,e2];have qe:=aI qR @qN;have jA:SX [(910,4),(911,10),(912,9),(913,5),(914,400)] _:=⟨h98⟩;refine gE2 ?_
   all_goals exact zdc (.nilsl _) (.refl _)
  | false=>
   rw [hS] at h98;have e:zss ls L R=0:=by unfold zss;rw [if_pos h0,hS];rfl
   have e2:zp8 ls L R=rsA ls L R:=by unfold zp8;rw [if_pos e]
   rw [e,e2];have qe:=aI qR @qN;have jA:SX [(910,4),(911,10),(912,9),(913,5),(914,400)] _:=⟨h98⟩;exact gD2
 ·have h0':=eq_false h0;have e:zss ls L R=zeY ls L R:=by unfold zss;rw [if_neg h0]
  have e2:zp8 ls L R=[]:=by unfold zp8;rw [e,if_neg h0]
  rw [e,e2];have qe:=aI qR @h0';have jA:=h48;refine gE2 ?_
  all_goals exact zdc (.nilsl _) (.refl _)
section
variable {P:Program} {s:St}
def zvx {oper:Oper} {by_:Nat} {l:List AOpd} (h:zao P oper=some (.mkslice e sz by_ z,l)):∃ t x y,oper.op=.makeSlice t x y:=by
 unfold zao at h
 split at h
 all_goals first
  | exact ⟨_,_,_,‹_›⟩
  | skip
 all_goals first
  | (obtain ⟨x',h1,e⟩:=xab.1 h;injection e with e1 e2;cases e1;done)
  | skip
 all_goals (repeat' split at h)
 all_goals (try (rw [xao] at h;obtain ⟨_,_,h⟩:=h))
 all_goals (try (rw [xao] at h;obtain ⟨_,_,h⟩:=h))
 all_goals (repeat' split at h)
 all_goals first
  | (simp at h;done)
  | (obtain ⟨x',h1,e⟩:=xab.1 h;injection e with e1 e2;cases e1;done)
def znI {d e sz by_:Nat} {z:PV} {x y:AOpd} {af:List Nat} {k1 k2:IntKind} (hcn:zL (zd s [x,y])=true) (hx:uns (zd s [x,y])=[.p (.i k1 n),.p (.i k2 c)]) (hd:s.look d=none) (hn0:0<=n) (hnc:n<=c) (hby:c.toNat*by_<=140737488355328) :
  zdZ P s ⟨some d,.mkslice e sz by_ z,[x,y],none,af⟩ λs'=>s'=(s.wrs [(d,.row e sz (List.replicate n.toNat z) false)]).set (some d) (.row d n.toNat):=by
 intro X C a w ops oper ro K Q hc hM h hK;have hr:=zas hc;have hdst:∀ k,some d=some k->k < X.N:=λk hk=>hr.hdst k (by rw [<-hr.hd];exact hk)
 rw [zO h hr (show gOf s (none:Option (Nat × Bool))=some true from rfl),if_pos rfl]
 obtain ⟨t,xo,yo,ho⟩:=zvx hr.hc;have hcc:=hr.hc;simp only [zao,ho] at hcc
 split at hcc
 ·rename_i e' l ht hl
  split at hcc
  ·rename_i sz' by' z' ag hs hb hz hag
   split at hcc
   ·rename_i hcond;obtain ⟨h0,hzl,hb0,hza⟩:=hcond;injection hcc with hcc;injection hcc with hc1 hc2;injection hc1 with c1 c2 c3 c4;subst c1;subst c2;subst c3;subst c4;obtain ⟨x',y',hl2,hxa,hya⟩:=zbw hl;rw [hc2] at hl2;injection hl2 with q1 hl2;injection hl2 with q2 _;subst q1;subst q2;have hi:=za2 h rfl hcn;have e0:(x.ev s).un=.p (.i k1 n)/\(y.ev s).un=.p (.i k2 c):=by
     simp [uns,zd] at hx;exact hx
    have hrx:=(zcJ hi hxa).1;have hry:=(zcI hi hya).1;rw [e0.1] at hrx;rw [e0.2] at hry;obtain ⟨i,zv,i1,i2,i3,i4,i5⟩:=zcv hs hb hz;have hzr:Reps w C.B zv.cells.toList z'.cells:=by
     obtain ⟨i',zv',j1,j2,j3⟩:=zaw hz;rw [i1] at j1;injection j1 with j1;subst j1;rw [i4] at j2;injection j2 with j2;subst j2;exact zZ (zbf j3 w C.B) (zcM j3)
    have hxv:=ze hrx;have hyv:=ze hry;generalize hxe:a.eval xo=xv at hxv;generalize hye:a.eval yo=yv at hyv;cases hxv;cases hyv;have hmx:c.toNat<=maxLen:=zmT hby hb0;have hbyt:i.bytes*c.toNat<=281474976710656:=by rw [i3,Nat.mul_comm];omega
    have h63:c<=9223372036854775807:=by simp only [maxLen] at hmx;omega
    have hbI:(i.bytes:Int)*c<=281474976710656:=by
     have h:((i.bytes*c.toNat:Nat):Int)<=281474976710656:=by omega
     rwa [Int.natCast_mul,xbm (by omega)] at h
    have hrun:=run_make (P:=P) w t e' i zv ht i1 i4 k1 k2 n c hn0 hnc hbI h63;have hgr:=World.grownBy_alloc w (.cells (madeCells zv.cells (c.toNat*i.size)) e' (0,0)) none;have hbel:=zbM hgr;rw [i2] at hrun hbel;have hzs:zv.cells.toList.length=sz':=by rw [<-hzl,<-i5];simp
    have hfl:(List.replicate n.toNat zv.cells.toList).flatten.length=n.toNat*sz':=by simp [hzs]
    have hall:(madeCells zv.cells (c.toNat*sz')).toList=(List.replicate n.toNat zv.cells.toList).flatten++(List.replicate (c.toNat - n.toNat) zv.cells.toList).flatten:=by
     have h1:=zfG zv.cells c.toNat;rw [i5,hzl] at h1;have h2:(madeCells zv.cells (c.toNat*sz')).toList=(List.replicate c.toNat zv.cells.toList).flatten:=by rw [madeCells,i5,hzl];exact h1
     rw [h2,<-List.flatten_append,List.replicate_append_replicate]
     congr 2;omega
    have hown:(w.alloc (.cells (madeCells zv.cells (c.toNat*sz')) e' (0,0))).ownsRow 0 e' sz' (.slice (some ⟨w.heap.size,0,none⟩) n.toNat c.toNat) n.toNat (List.replicate n.toNat zv.cells.toList).flatten:=
     ⟨hfl,.inr ⟨w.heap.size,c.toNat,madeCells zv.cells (c.toNat*sz'),rfl,xbk _,heap_alloc_new w _,by omega,hmx,size_madeCells _ _,by rw [hall,List.take_left' hfl]⟩⟩
    have hus:Reps (w.alloc (.cells (madeCells zv.cells (c.toNat*sz')) e' (0,0))) C.B (List.replicate n.toNat zv.cells.toList).flatten ((List.replicate n.toNat z').flatMap PV.cells):=
     (zfK hzr n.toNat).mono (λ_ h=>h) λb hb=>hbel.block b (h.blt b hb)
    have h4:=zfb h hd hbel (xs:=List.replicate n.toNat z') (by rw [xb3];exact hown) hus (λx hx=>by rw [List.eq_of_mem_replicate hx];exact hzl) h0 (λb hb2=>by simp [Value.ownBlock] at hb2;omega)
    refine zby (v:=.slice (some ⟨w.heap.size,0,none⟩) n.toNat c.toNat) (w':=w.alloc (.cells (madeCells zv.cells (c.toNat*sz')) e' (0,0))) (zaW hr.hc) (.inl (by simp [execOp,ho,hxe,hye,hrun])) ?_
    rw [<-hr.hd];refine hK _ { C with cur:=upd C.cur d (.slice (some ⟨w.heap.size,0,none⟩) n.toNat c.toNat) } _ _ rfl ?_;rw [(zV _ _ _).1,(zV _ _ _).2,(za8 _ _).1,(za8 _ _).2];exact zaD (s:=s.wrs [(d,.row e' sz' (List.replicate n.toNat z') false)]) (by rw [zcA,zcG];exact h4) hdst (zer (zk _ _ _)) (.row (by rw [zcG];exact zk _ _ _) (by simp))
   ·cases hcc
  ·cases hcc
 ·cases hcc
end
section
variable {P:Program} {ts:List (List PV)} {K:St->List Ft->Prop} {acc:List Ft} {af:List Nat} {r:List RO} {s:St} {x y:AOpd}
def zxA {d by_:Nat} {k1 k2:IntKind} (hn0:0<=n) (hnc:n<=c) (hby:c.toNat*by_<=140737488355328) (hn:zF false (zp P ts false K) r ((s.wrs [(d,.row e sz (List.replicate n.toNat z) false)]).set (some d) (.row d n.toNat)) acc)
  (hx:uns (zd s [x,y])=[.p (.i k1 n),.p (.i k2 c)]:=by first|exact rnE|fail) (hcn:zL (zd s [x,y])=true:=by first|exact rnD|fail) (hd:s.look d=none:=by first|exact rnE|fail):zp P ts false K (⟨some d,.mkslice e sz by_ z,[x,y],none,af⟩::r) s acc:=
 zem (znI hcn hx hd hn0 hnc hby) λs' h=>by rw [h];exact zw hn
end
end Go.Proofs.YtbgckikhhcbmpaaGreat
