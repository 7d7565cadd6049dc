/- Contracts. No conditions. -/
import Derived.Test.YtbgckikhhcbmpaaGreatK12
set_option linter.all false
set_option maxHeartbeats 8000000
set_option maxRecDepth 100000
namespace Go.Proofs.YtbgckikhhcbmpaaGreat
open Go.RowKit Tryz
variable {b:Brd} {c:Cpl} {w:Ky} {W:List Ky} {ls:List Lim} {R:List Res} {L:List Wis} {j:Nat} {o:Opt} {u:Unt} {a:Wis}
def zwX (hl:∀ l ∈ ls,zr l=0) (h:w ∈ xrO ls L R u o):∃ l,ls[w.1]?=some l/\-1000000000<=w.2/\w.2<=1000000000:=by
 unfold xrO at h;obtain ⟨l,h1,h2,_⟩:=zhY.1 h;refine ⟨l,h1,?_⟩;have:=zfn (hl l (xae h1)) h2
 omega
def zfd (ls:List Lim) (w:Wis) (m:Int) (k:Ky):Bool:=match ls[k.1]? with
 | some l=>(zbF (w.req.at m)).any (inW l k.2)
 | none=>false
def zv5 (hl:∀ l ∈ ls,zr l=0) (C:List (Ky × Int)) (G:BgM) (ha:L[j]?=some a) (r:Res) {k:Ky} {l:Lim} (hk:ls[k.1]?=some l) (hx:-1000000000<=k.2/\k.2<=1000000000):zbk prog 102 [.p (kyP k),.lp 940 0,.lp 910 0,.p (.ip (.i .i64 (j:Int)) 0),.p (.ip r.pv 0)] [(940,.box [.lp 900 0] false),(900,.box [.p (.sl 11 (ls.map Lim.pv)),.lm 901,.lm 902] false),(901,.mp (C.map cE) false),(902,.mp (G.map gE) false),(910,.box [.p (.sl 18 (L.map Wis.pv))] false)] (.p (.b (zfd ls a r.minute k))) [(940,.box [.lp 900 0] false),(900,.box [.p (.sl 11 (ls.map Lim.pv)),.lm 901,.lm 902] false),(901,.mp (C.map cE) false),(902,.mp (G.map gE) false),(910,.box [.p (.sl 18 (L.map Wis.pv))] false)]:=by
 have hjl:j < L.length:=(xaa.1 ha).1;have h03:=zny hl C G hk hx a r.minute;have e:zfd ls a r.minute k=(zbF (a.req.at r.minute)).any (inW l k.2):=by unfold zfd;rw [hk]
 rw [e];obtain ⟨k1,k2⟩:=k;refine zD (cF func102 f102.eq_1) (by simp) (by simp [scPs,scP,zm]) (by simp [scObj,scPs,scP,zm]) ⟨rfl,rfl,rfl,rfl,rfl,trivial⟩ (by simp [scObj,scPs,scP,zm]) (by simp [zcQ,zm]) λX hX=>?_
 unfold zx ghO;have qe:=aI qR (aI @qN (aI @ha (aI @hjl (aI @gLV.eq_1 (aI @gLV.eq_2 (aI @gLV.eq_5 (aI @rtN @rtR)))))));have jA:SX [] _:=⟨h03⟩;refine gE2 ?_
 all_goals exact .inl (.mkP (h2:=by simp only [qS,seval,keepG.eq_1,keepG.eq_2,gLV.eq_1,gLV.eq_2,gLV.eq_5]<;>simp) (hk:=by intro k hk;cases hk))
def zvX (hl:∀ l ∈ ls,zr l=0) (C:List (Ky × Int)) (G:BgM) (ha:L[j]?=some a) (r:Res) (hW:∀ k ∈ W,∃ l,ls[k.1]?=some l/\-1000000000<=k.2/\k.2<=1000000000) (hWl:W.length<=1000000000):zbk prog 179 [.p (.sl 2 (W.map kyP)),.fn (.func 102) [] [.lp 940 0,.lp 910 0,.p (.ip (.i .i64 (j:Int)) 0),.p (.ip r.pv 0)]] [(940,.box [.lp 900 0] false),(900,.box [.p (.sl 11 (ls.map Lim.pv)),.lm 901,.lm 902] false),(901,.mp (C.map cE) false),(902,.mp (G.map gE) false),(910,.box [.p (.sl 18 (L.map Wis.pv))] false)] (.p (.i .i64 (zdG (zfd ls a r.minute) W))) [(940,.box [.lp 900 0] false),(900,.box [.p (.sl 11 (ls.map Lim.pv)),.lm 901,.lm 902] false),(901,.mp (C.map cE) false),(902,.mp (G.map gE) false),(910,.box [.p (.sl 18 (L.map Wis.pv))] false)]:=by
 refine zD (cF func179 f179.eq_1) (by simp) (by simp [scPs,scP,zm]) (by simp [scObj,scPs,scP,zm]) ⟨rfl,rfl,rfl,rfl,rfl,trivial⟩ (by simp [scObj,scPs,scP,zm]) (by simp [zcQ,zm]) λX hX=>?_
 unfold zx ghO;have qe:=aI qR (aI @qN (aI @gLV.eq_1 (aI @gLV.eq_2 @gLV.eq_5)));refine gE2 ?_;refine zh (κ:=Nat) (λi=>⟨[(0,.p (.sl 2 (W.map kyP))),(1,.fn (.func 102) [] [.lp 940 0,.lp 910 0,.p (.ip (.i .i64 (j:Int)) 0),.p (.ip r.pv 0)]),(7,.p (.i .i64 W.length)),(8,.p (.i .i64 i)),(1000900,.lp 900 0),(1000901,.lm 901),(1000902,.lm 902),(1000910,.lp 910 0),(1000940,.lp 940 0)],[(940,.box [.lp 900 0] false),(900,.box [.p (.sl 11 (ls.map Lim.pv)),.lm 901,.lm 902] false),(901,.mp (C.map cE) false),(902,.mp (G.map gE) false),(910,.box [.p (.sl 18 (L.map Wis.pv))] false)],[],false⟩) (λi=>i<=W.length/\∀ y ∈ W.take i,zfd ls a r.minute y=false) (λi=>W.length - i) 0 ?_ ?_ ?_
 ·exact sS
 ·simp
 ·intro i hi;refine gH (λhc=>?_) λhc=>?_
  ·obtain ⟨y,hy⟩:=zj (i:=i) (l:=W) (by omega)
   obtain ⟨l,hk,hx⟩:=hW y (xae hy);have h02:=zv5 hl C G ha r hk hx;cases hp:zfd ls a r.minute y with
   | true=>
    rw [hp] at h02;rw [zbe hi.2 hy hp];have qe:=aI qR (aI @qN (aI @hy (aI @gLV.eq_1 (aI @gLV.eq_2 (aI @gLV.eq_5 (aI @rtN @rtR))))));repeat' first|refine gC ?_ ?_<;>intro hc<;>try contradiction|refine zay [] (h02) ?_|refine gG ?_|show AK _;intro J Z|refine gJ ?_|omega|exact aT
    all_goals exact .inl (.mkP (h2:=by simp only [qS,seval,keepG.eq_1,keepG.eq_2,gLV.eq_1,gLV.eq_2,gLV.eq_5]<;>simp) (hk:=by intro k hk;cases hk))
   | false=>
    rw [hp] at h02;have qe:=aI qR (aI @qN @hy);repeat' first|refine gC ?_ ?_<;>intro hc<;>try contradiction|refine zay [] (h02) ?_|refine gG ?_|show AK _;intro J Z|refine gJ ?_|omega|exact aT
    exact ⟨i+1,⟨by omega,zd1 hi.2 hy hp⟩,by omega,by simp⟩
  ·have e:i=W.length:=by omega
   subst e;rw [zct (λy hy=>hi.2 y (by rw [xas (by simp)];exact hy))]
   have qe:=aI qR (aI @qN (aI @gLV.eq_1 (aI @gLV.eq_2 (aI @gLV.eq_5 (aI @rtN @rtR)))));refine gE2 ?_
   all_goals exact .inl (.mkP (h2:=by simp only [qS,seval,keepG.eq_1,keepG.eq_2,gLV.eq_1,gLV.eq_2,gLV.eq_5]<;>simp) (hk:=by intro k hk;cases hk))
def zv4 (hl:∀ l ∈ ls,zr l=0) (C:List (Ky × Int)) (G:BgM) (ha:L[j]?=some a) (r:Res) (hW:∀ k ∈ W,∃ l,ls[k.1]?=some l/\-1000000000<=k.2/\k.2<=1000000000) (hWl:W.length<=1000000000):zbk prog 105 [.p (.sl 2 (W.map kyP)),.fn (.func 102) [] [.lp 940 0,.lp 910 0,.p (.ip (.i .i64 (j:Int)) 0),.p (.ip r.pv 0)]] [(940,.box [.lp 900 0] false),(900,.box [.p (.sl 11 (ls.map Lim.pv)),.lm 901,.lm 902] false),(901,.mp (C.map cE) false),(902,.mp (G.map gE) false),(910,.box [.p (.sl 18 (L.map Wis.pv))] false)] (.p (.b (W.any (zfd ls a r.minute)))) [(940,.box [.lp 900 0] false),(900,.box [.p (.sl 11 (ls.map Lim.pv)),.lm 901,.lm 902] false),(901,.mp (C.map cE) false),(902,.mp (G.map gE) false),(910,.box [.p (.sl 18 (L.map Wis.pv))] false)]:=by
 have h79:=zvX hl C G ha r hW hWl;have hd:=zeG (zfd ls a r.minute) W;refine zD (cF func105 f105.eq_1) (by simp) (by simp [scPs,scP,zm]) (by simp [scObj,scPs,scP,zm]) ⟨rfl,rfl,rfl,rfl,rfl,trivial⟩ (by simp [scObj,scPs,scP,zm]) (by simp [zcQ,zm]) λX hX=>?_
 unfold zx ghO;have qe:=aI qR (aI @qN (aI @hd (aI @gLV.eq_1 (aI @gLV.eq_2 (aI @gLV.eq_5 (aI @rtN @rtR))))));have jA:SX [] _:=⟨h79⟩;refine gE2 ?_
 all_goals exact .inl (.mkP (h2:=by simp only [qS,seval,keepG.eq_1,keepG.eq_2,gLV.eq_1,gLV.eq_2,gLV.eq_5]<;>simp) (hk:=by intro k hk;cases hk))
def blF (ls:List Lim) (L:List Wis) (R:List Res) (u:Unt) (W:List Ky) (j:Nat):Bool:=!decide ((zY L j:Int) < u.1) && !(decide ((j:Int)=u.1) || decide ((j:Int)=u.2)) && W.any λw=>zrf ls L R w j
def blK (ls:List Lim) (L:List Wis) (R:List Res) (u:Unt) (W:List Ky) (k:Nat):List ByteArray:=((List.range k).filter (blF ls L R u W)).map λj=>(za5 R j).name
def zvG (ls:List Lim) (L:List Wis) (R:List Res) (u:Unt) (W:List Ky) (k:Nat):blK ls L R u W (k+1)=blK ls L R u W k++if blF ls L R u W k=true then [(za5 R k).name] else []:=by
 unfold blK;rw [xbd,xbe,xa6,xa2,List.filter_nil]
 split<;>rfl
def zzL (ls:List Lim) (L:List Wis) (R:List Res) (u:Unt) (W:List Ky) (k:Nat):(blK ls L R u W k).length<=k:=by
 unfold blK;have:=xby (blF ls L R u W) (List.range k);rw [xaU] at this;rw [xaf];exact this
def zBu {r:Res} (ha:L[j]?=some a) (hr:R[j]?=some r) (W:List Ky):(W.any λw=>zrf ls L R w j)=(r.gr && W.any (zfd ls a r.minute)):=by
 have e1:zfB L j r.minute=zbF (a.req.at r.minute):=by unfold zfB;rw [ha]
 induction W with
 | nil=>simp
 | cons w W ih=>
  rw [List.any_cons,List.any_cons,ih];have e2:zrf ls L R w j=(r.gr && zfd ls a r.minute w):=by
   unfold zrf zfd;rw [zW hr,e1];cases ls[w.1]?<;>simp
  rw [e2];cases r.gr<;>simp
def dkB (f:LV->List Nat):Option LObj->List Nat
 | some (.box cs _)=>cs.flatMap f
 | _=>[]
def zrD (f:LV->List Nat) (cs:List LV) (z:Bool):dkB f (some (.box cs z))=cs.flatMap f:=rfl
def zwI (look:Nat->Option LObj) (m k o:Nat):zK look (m+1) (.lp k o)=k::dkB (zK look m) (look k):=by
 simp only [zK];cases look k with
 | none=>rfl
 | some q=>cases q<;>rfl
def zwF (look:Nat->Option LObj) (k o:Nat):zK look 4 (.lp k o)=k::dkB (zK look 3) (look k):=zwI look 3 k o
def zwG (look:Nat->Option LObj) (k o:Nat):zK look 3 (.lp k o)=k::dkB (zK look 2) (look k):=zwI look 2 k o
def zwH (look:Nat->Option LObj) (k:Nat):zK look 2 (.lm k)=[k]:=rfl
def fmC (f:LV->List Nat) (x:LV) (l:List LV):(x::l).flatMap f=f x++l.flatMap f:=xat
def fmN (f:LV->List Nat):([]:List LV).flatMap f=[]:=rfl
def zkE (hl:∀ l ∈ ls,zr l=0) (hn:ls.length<=1000) (hw:zgb ls) (h2:zav L=0) (hu:u ∈ zq L) (o:Opt) (hb:BdM ls b 100000) (hx:rfW ls b (zan L u o)=w::W):zbk prog 99 [.lp 900 0,.p (unP u),.p (unP o),.lp 910 0,.lp 911 0,.lp 912 0,.lp 913 0,.lp 915 0] [(900,.box [.p (.sl 11 (ls.map Lim.pv)),.lm 901,.lm 902] false),(901,.mp (b.C.map cE) false),(902,.mp (b.G.map gE) false),(910,.box [.p (.sl 18 (L.map Wis.pv))] false),(911,.box [.p (.i .i64 0),.p (.i .i64 0),.p (.i .i64 0),.p .nilsl] false),(912,.box [.p (.b false)] false),(913,.box [.p (.sl 11 (ls.map Lim.pv))] false),(915,.box [.p (.sl 3 (R.map Res.pv))] false)] (.p (.b true)) [(900,.box [.p (.sl 11 (ls.map Lim.pv)),.lm 901,.lm 902] false),(901,.mp ((rfB ls b (zan L u o)).C.map cE) false),(902,.mp ((rfB ls b (zan L u o)).G.map gE) false),(910,.box [.p (.sl 18 (L.map Wis.pv))] false),(911,.box [.p (.i .i64 0),.p (.i .i64 0),.p (.i .i64 0),.p .nilsl] false),(912,.box [.p (.b false)] false),(913,.box [.p (.sl 11 (ls.map Lim.pv))] false),(915,.box [.p (.sl 3 (R.map Res.pv))] false)]:=by
 have h86:=zaR h2 hu o;have hml:=za1 L u o;have h83:=zbN hl hn hw hb.ok hb.cnt (own:=zan L u o) (λy hy=>zaH hy) (by omega) (by omega)
 rw [hx] at h83;have hW':=eq_true (show (0:Int) < ((w::W).length:Int) by rw [xaz];omega)
 generalize rfB ls b (zan L u o)=b2 at *;obtain ⟨o1,o2⟩:=o;refine zD (cF func99 f99.eq_1) (by simp) (by simp [scPs,scP,zm]) (by simp [scObj,scPs,scP,zm]) ⟨rfl,rfl,rfl,rfl,rfl,rfl,rfl,rfl,trivial⟩ (by simp [scObj,scPs,scP,zm]) (by simp [zcQ,zm]) λX hX=>?_
 unfold zx ghO;have qe:=aI qR (aI @qN (aI @hW' (aI @gLV.eq_1 (aI @gLV.eq_2 (aI @gLV.eq_5 (aI @rtN @rtR))))));have jA:=h86;have jB:SX [] _:=⟨h83⟩;refine gE2 ?_
 all_goals exact .inl (.mkP (h2:=by simp only [qS,seval,keepG.eq_1,keepG.eq_2,gLV.eq_1,gLV.eq_2,gLV.eq_5]<;>simp) (hk:=by intro k hk;cases hk))
def zv6 (hl:∀ l ∈ ls,zr l=0) (hn:ls.length<=1000) (hw:zgb ls) (h2:zav L=0) (hr:zc8 L R=0) (hu:u ∈ zq L) (o:Opt) (hb:BdM ls b 100000) (hx:rfW ls b (zan L u o)=[]) (hc:c=⟨u.1,o.1,o.2,blK ls L R u (xrO ls L R u o) R.length⟩):zbk prog 99 [.lp 900 0,.p (unP u),.p (unP o),.lp 910 0,.lp 911 0,.lp 912 0,.lp 913 0,.lp 915 0] [(900,.box [.p (.sl 11 (ls.map Lim.pv)),.lm 901,.lm 902] false),(901,.mp (b.C.map cE) false),(902,.mp (b.G.map gE) false),(910,.box [.p (.sl 18 (L.map Wis.pv))] false),(911,.box [.p (.i .i64 0),.p (.i .i64 0),.p (.i .i64 0),.p .nilsl] false),(912,.box [.p (.b false)] false),(913,.box [.p (.sl 11 (ls.map Lim.pv))] false),(915,.box [.p (.sl 3 (R.map Res.pv))] false)] (.p (.b false)) [(900,.box [.p (.sl 11 (ls.map Lim.pv)),.lm 901,.lm 902] false),(901,.mp ((rfB ls b (zan L u o)).C.map cE) false),(902,.mp ((rfB ls b (zan L u o)).G.map gE) false),(910,.box [.p (.sl 18 (L.map Wis.pv))] false),(911,.box [.p (.i .i64 c.idx),.p (.i .i64 c.minute),.p (.i .i64 c.other),.row 914 c.blk.length] false),(912,.box [.p (.b true)] false),(913,.box [.p (.sl 11 (ls.map Lim.pv))] false),(915,.box [.p (.sl 3 (R.map Res.pv))] false),(914,.row 9 1 (c.blk.map .s) false)]:=by
 subst hc;have h86:=zaR h2 hu o;have hml:=za1 L u o;have hn64:=(zR h2).1;have hRn:=(zbZ hr).1;have h83:=zbN hl hn hw hb.ok hb.cnt (own:=zan L u o) (λy hy=>zaH hy) (by omega) (by omega)
 rw [hx] at h83;have h00:=zjg hl hn hw h2 hr u;have hM:=(zqz hl L R u).mono (show (802*L.length:Int)<=60000 by omega)
 have h83o:=zbN hl hn hw hM.ok hM.cnt (own:=zan L u o) (λy hy=>zaH hy) (by omega) (by omega)
 have hro:=zmr hl h2 hr hu [] o;have hbo:brO ls L u [] (zkI ls L R u)=zkI ls L R u:=rfl;rw [hbo] at hro;rw [hro] at h83o;have h01:=zmD L h2 u;have hwin:=λw (hw:w ∈ xrO ls L R u o)=>zwX hl hw
 have hWl:(xrO ls L R u o).length<=1000000000:=by
  have h1:=hw (xrO ls L R u o) ((zph hl _ _).imp fun {x y} hxy e=>by rw [e] at hxy;exact ziI _ hxy) λk hk=>by
   unfold xrO at hk;obtain ⟨l,q1,q2,_⟩:=zhY.1 hk;exact ⟨l,q1,q2⟩
  omega
 generalize xrO ls L R u o=W at *;generalize rfB ls b (zan L u o)=b2 at *;generalize rfB ls (zkI ls L R u) (zan L u o)=b3 at *;generalize zkI ls L R u=b1 at *;obtain ⟨o1,o2⟩:=o;obtain ⟨u1,u2⟩:=u;refine zD (cF func99 f99.eq_1) (by simp) (by simp [scPs,scP,zm]) (by simp [scObj,scPs,scP,zm]) ⟨rfl,rfl,rfl,rfl,rfl,rfl,rfl,rfl,trivial⟩ (by simp [scObj,scPs,scP,zm]) (by simp [zcQ,zm]) λX hX=>?_
 unfold zx ghO;have qe:=aI qR (aI @qN (aI @tn1 (aI @tn4 (aI @gLV.eq_1 (aI @gLV.eq_2 @gLV.eq_5)))));have jA:=h86;have jB:SX [] _:=⟨h83⟩;have jC:SX [(900,920),(901,921),(902,922)] _:=⟨h00⟩;have jD:=h01;have jE:SX [(900,920),(901,921),(902,922)] _:=⟨h83o⟩;refine gE5 ?_;refine ze6 (zaz 9 (.ip (unP (u1,u2)) 0) (sR) (by first|trivial|simp) (.refl _)) ?_
 rintro _ rfl;refine run_ownL 914 9 1 (κ:=Nat) (λk=>⟨[(3,.lp 910 0),(4,.lp 911 0),(9,.p (.ip (unP (u1,u2)) 0)),(12,.lp 12 0),(13,.p (.fn (.func 174) [] [.ip (.sl 1 ((zdT L).map (.i .i64))) 0,.ip (unP (u1,u2)) 0])),(14,.p (.sl 2 (W.map kyP))),(47,.p (.sl 3 (R.map Res.pv))),(48,.p (.i .i64 R.length)),(49,.p (.i .i64 k)),(1000900,.lp 900 0),(1000901,.lm 901),(1000902,.lm 902),(1000910,.lp 910 0),(1000911,.lp 911 0),(1000912,.lp 912 0),(1000913,.lp 913 0),(1000915,.lp 915 0)],[(900,.box [.p (.sl 11 (ls.map Lim.pv)),.lm 901,.lm 902] false),(901,.mp (b2.C.map cE) false),(902,.mp (b2.G.map gE) false),(910,.box [.p (.sl 18 (L.map Wis.pv))] false),(911,.box [.p (.i .i64 u1),.p (.i .i64 o1),.p (.i .i64 o2),.row 914 (blK ls L R (u1,u2) W k).length] false),(912,.box [.p (.b true)] false),(913,.box [.p (.sl 11 (ls.map Lim.pv))] false),(915,.box [.p (.sl 3 (R.map Res.pv))] false),(920,.box [.p (.sl 11 (ls.map Lim.pv)),.lm 921,.lm 922] false),(921,.mp (b3.C.map cE) false),(922,.mp (b3.G.map gE) false),(12,.box [.lp 920 0] false),(914,.row 9 1 ((blK ls L R (u1,u2) W k).map .s) false)],[],false⟩) (λk=>k<=R.length) (λk=>R.length - k) 0 ?_ ?_ ?_
 ·refine ⟨gO ?_,gO ?_⟩<;>simp [blK]
 ·simp
 ·intro k hk;have hbk:=zzL ls L R (u1,u2) W k;refine gH (λhc=>?_) λhc=>?_
  ·obtain ⟨r,hr0⟩:=zj (i:=k) (l:=R) (by omega)
   obtain ⟨a,ha⟩:=zj (i:=k) (l:=L) (by omega)
   have hkl:k < L.length:=by omega
   have hnx:=zvG ls L R (u1,u2) W k;have hbl:blF ls L R (u1,u2) W k=(!decide ((zY L k:Int) < u1) && !(decide ((k:Int)=u1) || decide ((k:Int)=u2)) && (r.gr && W.any (zfd ls a r.minute))):=by unfold blF;rw [zBu ha hr0]
   rw [hbl,zW hr0] at hnx;have h74:=zmw L (u1,u2) hkl;have h04:=zid [u1,u2] (k:Int);have hmem:decide ((k:Int) ∈ [u1,u2])=(decide ((k:Int)=u1) || decide ((k:Int)=u2)):=by simp
   rw [hmem] at h04;simp only [xaj,xaF] at h04;have h05:=zv4 hl b3.C b3.G ha r hwin hWl;generalize W.any (zfd ls a r.minute)=an at *;generalize hbN:blK ls L R (u1,u2) W k=BN at *;refine zen ?_;refine (show Run _ (.seq (.block 1 (.seq (.ops false _) _)) _) _ _ from zbC (zdi (zbC (zar (zbP 6 ?_)))))
   simp only [xa3,xbb,xbz,xbw];have qe:=aI qR (aI @qN @hr0);refine gE2 ?_;refine zw ?_;have qe:=aI qR (aI @qN @hr0);(first|refine gG ?_|show AK _;intro J Z|refine gJ ?_|omega|exact aT)
   refine (show Run _ (.seq (.ops false _) _) _ _ from ze6 (zaz 15 (.ip (.i .i64 (k:Int)) 0) (sR) (by first|trivial|simp) (.refl _)) ?_)
   rintro _ rfl;refine ze6 (zaz 16 (.ip r.pv 0) (sR) (by first|trivial|simp) (.refl _)) ?_
   rintro _ rfl;cases c1:decide ((zY L k:Int) < u1) with
   | true=>
    simp only [c1] at h74;simp only [c1,xaC,xa4,xaD,if_false,xar] at hnx;have qe:=aI qR (aI @qN (aI @hr0 @xaC));have jA:=h74;have jB:=nm 104 (.b false);have jC:=nm 105 (.b false);refine gE5 ?_
    all_goals exact ⟨k+1,by omega,by omega,by simp [hnx],by simp [hnx]⟩
   | false=>
    simp only [c1] at h74;simp only [c1,xax,xaZ] at hnx;cases c2:(decide ((k:Int)=u1) || decide ((k:Int)=u2)) with
    | true=>
     rw [c2] at h04;simp only [c2,xaC,xa4,xaD,if_false,xar] at hnx;have qe:=aI qR (aI @qN (aI @hr0 (aI @xaC @xax)));have jA:=h74;have jB:=h04;have jC:=nm 105 (.b false);refine gE5 ?_
     all_goals exact ⟨k+1,by omega,by omega,by simp [hnx],by simp [hnx]⟩
    | false=>
     rw [c2] at h04;simp only [c2,xax,xaZ] at hnx;cases c3:r.gr with
     | false=>
      simp only [c3,xa4,xaD,if_false,xar] at hnx;have qe:=aI qR (aI @qN (aI @hr0 (aI @c3 @xax)));have jA:=h74;have jB:=h04;have jC:=nm 105 (.b false);refine gE5 ?_
      all_goals exact ⟨k+1,by omega,by omega,by simp [hnx],by simp [hnx]⟩
     | true=>
      cases an with
      | true=>
       simp only [c3,Bool.and_self,if_true] at hnx;have qe:=aI qR (aI @qN (aI @hr0 (aI @c3 (aI @xax (aI @zwF (aI @zwG (aI @zwH (aI @zrD (aI @fmC @fmN)))))))));repeat' first|refine gC ?_ ?_<;>intro hc<;>try contradiction|refine zl (h74) ?_|refine zg (λ_=>h04) ?_|refine zb8 [(940,12),(900,920),(901,921),(902,922)] (h05) ?_|refine gG ?_|show AK _;intro J Z|refine gJ ?_|omega|exact aT
       all_goals exact ⟨k+1,by omega,by omega,by simp [hnx],by simp [hnx]⟩
      | false=>
       simp only [c3,xaZ,xaD,if_false,xar] at hnx;have qe:=aI qR (aI @qN (aI @hr0 (aI @c3 (aI @xax (aI @zwF (aI @zwG (aI @zwH (aI @zrD (aI @fmC @fmN)))))))));repeat' first|refine gC ?_ ?_<;>intro hc<;>try contradiction|refine zl (h74) ?_|refine zg (λ_=>h04) ?_|refine zb8 [(940,12),(900,920),(901,921),(902,922)] (h05) ?_|refine gG ?_|show AK _;intro J Z|refine gJ ?_|omega|exact aT
       all_goals exact ⟨k+1,by omega,by omega,by simp [hnx],by simp [hnx]⟩
  ·have e:k=R.length:=by omega
   subst e;have qe:=aI qR (aI @qN (aI @gLV.eq_1 (aI @gLV.eq_2 (aI @gLV.eq_5 (aI @rtN @rtR)))));refine gE2 ?_
   all_goals exact .inl (.mkP (h2:=by simp only [qS,seval,keepG.eq_1,keepG.eq_2,gLV.eq_1,gLV.eq_2,gLV.eq_5]<;>simp) (hk:=by intro k hk;cases hk))
def zry {k:Nat} (hu:(zq L)[k]?=some u) (h1:∀ x ∈ (zq L).take k,∀ o ∈ zad L R x,(xrA ls L R x o).isEmpty=false) {e:Nat} (ho:(zad L R u)[e]?=some o) (h2:∀ y ∈ (zad L R u).take e,(xrA ls L R u y).isEmpty=false) (hp:(xrA ls L R u o).isEmpty=true):zoJ ls L R=some ⟨u.1,o.1,o.2,blkP ls L R u (xrO ls L R u o)⟩:=by
 have:=zkc (p:=λx:Unt × Opt=>(xrA ls L R x.1 x.2).isEmpty) (f:=λu=>(zad L R u).map λo=>(u,o)) hu (λx hxx y hy=>by
  obtain ⟨o,ho,rfl⟩:=xaN.1 hy;exact h1 x hxx o ho) (e:=e) (o:=(u,o)) (by rw [xal,ho];rfl) (λy hy=>by
  rw [<-xbK] at hy;obtain ⟨o,ho,rfl⟩:=xaN.1 hy;exact h2 o ho) hp
 unfold zoJ zfz;rw [this];rfl
def zrz (h1:∀ x ∈ zq L,∀ o ∈ zad L R x,(xrA ls L R x o).isEmpty=false):zoJ ls L R=none:=by
 unfold zoJ zfz;rw [zgP λy hy=>by
  obtain ⟨x,hx,hy⟩:=xaw.1 hy;obtain ⟨o,ho,rfl⟩:=xaN.1 hy;exact h1 x hx o ho]
 rfl
def zsp (hl:∀ l ∈ ls,zr l=0) (hn:ls.length<=1000) (hw:zgb ls) (h2:zav L=0) (h12:ShW L) (h3:zc8 L R=0) (hS:zoJ ls L R=none):zbk prog 98 [.p (.sl 11 (ls.map Lim.pv)),.p (.sl 18 (L.map Wis.pv)),.p (.sl 3 (R.map Res.pv)),(.fn (.func 99) [] [.lp 910 0,.lp 911 0,.lp 912 0,.lp 913 0,.lp 915 0])] [(910,.box [.p (.sl 18 (L.map Wis.pv))] false),(911,.box [.p (.i .i64 0),.p (.i .i64 0),.p (.i .i64 0),.p .nilsl] false),(912,.box [.p (.b false)] false),(913,.box [.p (.sl 11 (ls.map Lim.pv))] false),(915,.box [.p (.sl 3 (R.map Res.pv))] false)] (.p (.tup [])) [(910,.box [.p (.sl 18 (L.map Wis.pv))] false),(911,.box [.p (.i .i64 0),.p (.i .i64 0),.p (.i .i64 0),.p .nilsl] false),(912,.box [.p (.b false)] false),(913,.box [.p (.sl 11 (ls.map Lim.pv))] false),(915,.box [.p (.sl 3 (R.map Res.pv))] false)]:=by
 have hn64:=(zR h2).1;have hul:=zaY L;have hRn:=(zbZ h3).1;refine zD (cF func98 f98.eq_1) (by simp) (by simp [scPs,scP,zm]) (by simp [scObj,scPs,scP,zm]) ⟨rfl,rfl,rfl,rfl,rfl,trivial⟩ (by simp [scObj,scPs,scP,zm]) (by simp [zcQ,zm]) λX hX=>?_
 unfold zx ghO;have qe:=aI qR (aI @qN (aI @gLV.eq_1 @gLV.eq_2));have jA:SX [(7,900),(4,901),(5,902)] _:=⟨zcx ls⟩;have jB:=zcp L h2;refine gE2 ?_;refine zb7 rfl (zcr L (by omega)) ?_ ?_ [(5,.lp 5 0),(6,.lp 6 0),(7,.lp 7 0),(8,.lp 8 0),(17,.p (.fn (.func 161) [] [.ip (.sl 1 ((zdT L).map (.i .i64))) 0])),(1000910,.lp 910 0),(1000911,.lp 911 0),(1000912,.lp 912 0),(1000913,.lp 913 0),(1000915,.lp 915 0)] (λk=>[(900,.box [.p (.sl 11 (ls.map Lim.pv)),.lm 901,.lm 902] false),(901,.mp ((brK ls L R k).C.map cE) false),(902,.mp ((brK ls L R k).G.map gE) false),(5,.box [.p (.sl 18 (L.map Wis.pv))] false),(6,.box [.p (.sl 3 (R.map Res.pv))] false),(7,.box [(.fn (.func 99) [] [.lp 910 0,.lp 911 0,.lp 912 0,.lp 913 0,.lp 915 0])] false),(8,.box [.lp 900 0] false),(910,.box [.p (.sl 18 (L.map Wis.pv))] false),(911,.box [.p (.i .i64 0),.p (.i .i64 0),.p (.i .i64 0),.p .nilsl] false),(912,.box [.p (.b false)] false),(913,.box [.p (.sl 11 (ls.map Lim.pv))] false),(915,.box [.p (.sl 3 (R.map Res.pv))] false)]) (λ_=>[]) (λk=>∀ u ∈ (zq L).take k,∀ o ∈ zad L R u,(xrA ls L R u o).isEmpty=false) ?_ ?_ ?_ ?_
 ·intro t ht;obtain ⟨x,_,rfl⟩:=xaN.1 ht;rfl
 ·simp [hX]
 ·simp only [brK,xbb,xbI,qS,seval]<;>simp
 ·simp
 ·intro k t ht hok X' ro' hX';simp only [xal,xab] at ht;obtain ⟨u,hx,rfl⟩:=ht;have hxm:=xae hx;have hkl:=(xaa.1 hx).1;have h07:=zfQ h2 h12 h3 hxm;have hOl:=zdl h2 h12 R hxm;have hM:=(zzJ hl L R k).mono (show (802*k:Int)<=60000 by omega)
  have hrfe:=λ(O:List Opt) (o:Opt)=>zkY hl h2 h3 hx O o
  have hbn:=zf5 (ls:=ls) (R:=R) hx;have hhit:=λ(e:Nat) (o:Opt)=>zry (ls:=ls) (R:=R) hx hok (e:=e) (o:=o)
  have h25:=zce h2 hRn hxm;have hnxt:(∀ o ∈ zad L R u,(xrA ls L R u o).isEmpty=false)->∀ x ∈ (zq L).take (k+1),∀ o ∈ zad L R x,(xrA ls L R x o).isEmpty=false:=λhb x hxx=>by
   rw [zE hx] at hxx
   rcases xaS.1 hxx with hxx|hxx
   ·exact hok x hxx
   ·rw [xaX] at hxx;rw [hxx];exact hb
  simp only [qS,seval];refine gE2 ?_;intro X1 hX1;have qe:=aI qR @qN;have jA:=h07;refine gE2 ?_;generalize zad L R u=O at *;generalize brK ls L R k=b0 at *;refine zh (κ:=Nat) (λe=>⟨[(9,.lp 9 0),(5,.lp 5 0),(6,.lp 6 0),(7,.lp 7 0),(8,.lp 8 0),(17,.p (.fn (.func 161) [] [.ip (.sl 1 ((zdT L).map (.i .i64))) 0])),(22,.p (.sl 2 (O.map unP))),(23,.p (.i .i64 O.length)),(24,.p (.i .i64 e)),(1000005,.lp 5 0),(1000006,.lp 6 0),(1000007,.lp 7 0),(1000008,.lp 8 0),(1000017,.p (.fn (.func 161) [] [.ip (.sl 1 ((zdT L).map (.i .i64))) 0])),(2000910,.lp 910 0),(2000911,.lp 911 0),(2000912,.lp 912 0),(2000913,.lp 913 0),(2000915,.lp 915 0)],[(900,.box [.p (.sl 11 (ls.map Lim.pv)),.lm 901,.lm 902] false),(901,.mp ((brO ls L u (O.take e) b0).C.map cE) false),(902,.mp ((brO ls L u (O.take e) b0).G.map gE) false),(5,.box [.p (.sl 18 (L.map Wis.pv))] false),(6,.box [.p (.sl 3 (R.map Res.pv))] false),(7,.box [(.fn (.func 99) [] [.lp 910 0,.lp 911 0,.lp 912 0,.lp 913 0,.lp 915 0])] false),(8,.box [.lp 900 0] false),(910,.box [.p (.sl 18 (L.map Wis.pv))] false),(911,.box [.p (.i .i64 0),.p (.i .i64 0),.p (.i .i64 0),.p .nilsl] false),(912,.box [.p (.b false)] false),(913,.box [.p (.sl 11 (ls.map Lim.pv))] false),(915,.box [.p (.sl 3 (R.map Res.pv))] false),(9,.box [.p (.i .i64 u.1),.p (.i .i64 u.2)] false)],[],false⟩) (λe=>e<=O.length/\∀ y ∈ O.take e,(xrA ls L R u y).isEmpty=false) (λe=>O.length - e) 0 ?_ ?_ ?_
  ·refine gJ ?_;simp [brO]
  ·simp
  ·intro e he;obtain ⟨he,hno⟩:=he;refine gH (λhc=>?_) λhc=>?_
   ·obtain ⟨o,ho⟩:=zj (i:=e) (l:=O) (by omega)
    have hbe:BdM ls (brO ls L u (O.take e) b0) 100000:=(zhn hl L u _ b0 hM).mono (by omega)
    have hnb:brO ls L u (O.take (e+1)) b0=rfB ls (brO ls L u (O.take e) b0) (zan L u o):=by unfold brO;rw [zE ho,xaP];rfl
    have hrfe:=hrfe (O.take e) o;generalize brO ls L u (O.take e) b0=be at *;have hhit:=hhit e o ho hno;cases hW:xrA ls L R u o with
    | nil=>
     have hhit:=hhit (by rw [hW];rfl)
     exact absurd (hS.symm.trans hhit) (by simp)
    | cons w0 W=>
     have h99:=zkE hl hn hw h2 (R:=R) hxm o hbe (w:=w0) (W:=W) (by rw [hrfe,hW])
     obtain ⟨o1,o2⟩:=o;generalize rfB ls be (zan L u (o1,o2))=b2 at *;have qe:=aI qR (aI @qN @ho);repeat' first|refine gC ?_ ?_<;>intro hc<;>try contradiction|refine zay [] (h99) ?_|refine gG ?_|show AK _;intro J Z|refine gJ ?_|omega|exact aT
     exact ⟨e+1,⟨by omega,by
      intro y hy;rw [zE ho] at hy
      rcases xaS.1 hy with hy|hy
      ·exact hno y hy
      ·rw [xaX] at hy;rw [hy,hW];rfl⟩,by omega,by simp,by simp [hnb]⟩
   ·have ee:e=O.length:=by omega
    subst ee;rw [xah] at hno ⊢;have hbO:BdM ls (brO ls L u O b0) 60000:=zhn hl L u _ b0 hM;cases hg:grB R u with
    | false=>
     rw [hg] at h25;have e2:brK ls L R (k+1)=brO ls L u O b0:=by rw [hbn];unfold brG;rw [hg];rfl
     have qe:=aI qR @qN;have jA:=h25;refine gE2 ?_;exact ⟨⟨by rw [e2],by rw [e2]⟩,hnxt hno⟩
    | true=>
     rw [hg] at h25;have e2:brK ls L R (k+1)=zy ls (brO ls L u O b0) (zan L u (grO R u)) 1:=by rw [hbn];unfold brG;rw [hg];rfl
     have hml:=za1 L u (grO R u);have h88:=zdP hl hn hw hbO.ok hbO.cnt (zaR h2 hxm (grO R u)) (λy hy=>zaH hy) (by omega) (t:=1) (by omega)
     rw [<-e2] at h88;have qe:=aI qR @qN;have jA:=h25;have jB:SX [] _:=⟨h88⟩;refine gE2 ?_;exact hnxt hno
 ·intro hok;have hend:zoJ ls L R=none:=zrz (ls:=ls) (L:=L) (R:=R) (λx hx=>hok x (by rw [xaf,xah];exact hx))
  simp only [xaf];have qe:=aI @rtN @rtR;refine gE2 ?_
  all_goals exact .inl (.mk0 (h2:=by simp only [qS,seval,keepG.eq_1,keepG.eq_2,gLV.eq_1,gLV.eq_2,gLV.eq_5]<;>simp))
def zsn (hl:∀ l ∈ ls,zr l=0) (hn:ls.length<=1000) (hw:zgb ls) (h2:zav L=0) (h12:ShW L) (h3:zc8 L R=0) (hS:zoJ ls L R=some c):zbk prog 98 [.p (.sl 11 (ls.map Lim.pv)),.p (.sl 18 (L.map Wis.pv)),.p (.sl 3 (R.map Res.pv)),(.fn (.func 99) [] [.lp 910 0,.lp 911 0,.lp 912 0,.lp 913 0,.lp 915 0])] [(910,.box [.p (.sl 18 (L.map Wis.pv))] false),(911,.box [.p (.i .i64 0),.p (.i .i64 0),.p (.i .i64 0),.p .nilsl] false),(912,.box [.p (.b false)] false),(913,.box [.p (.sl 11 (ls.map Lim.pv))] false),(915,.box [.p (.sl 3 (R.map Res.pv))] false)] (.p (.tup [])) [(910,.box [.p (.sl 18 (L.map Wis.pv))] false),(911,.box [.p (.i .i64 c.idx),.p (.i .i64 c.minute),.p (.i .i64 c.other),.row 914 c.blk.length] false),(912,.box [.p (.b true)] false),(913,.box [.p (.sl 11 (ls.map Lim.pv))] false),(915,.box [.p (.sl 3 (R.map Res.pv))] false),(914,.row 9 1 (c.blk.map .s) false)]:=by
 have hn64:=(zR h2).1;have hul:=zaY L;have hRn:=(zbZ h3).1;refine zD (cF func98 f98.eq_1) (by simp) (by simp [scPs,scP,zm]) (by simp [scObj,scPs,scP,zm]) ⟨rfl,rfl,rfl,rfl,rfl,trivial⟩ (by simp [scObj,scPs,scP,zm]) (by simp [zcQ,zm]) λX hX=>?_
 unfold zx ghO;have qe:=aI qR (aI @qN (aI @gLV.eq_1 @gLV.eq_2));have jA:SX [(7,900),(4,901),(5,902)] _:=⟨zcx ls⟩;have jB:=zcp L h2;refine gE2 ?_;refine zb7 rfl (zcr L (by omega)) ?_ ?_ [(5,.lp 5 0),(6,.lp 6 0),(7,.lp 7 0),(8,.lp 8 0),(17,.p (.fn (.func 161) [] [.ip (.sl 1 ((zdT L).map (.i .i64))) 0])),(1000910,.lp 910 0),(1000911,.lp 911 0),(1000912,.lp 912 0),(1000913,.lp 913 0),(1000915,.lp 915 0)] (λk=>[(900,.box [.p (.sl 11 (ls.map Lim.pv)),.lm 901,.lm 902] false),(901,.mp ((brK ls L R k).C.map cE) false),(902,.mp ((brK ls L R k).G.map gE) false),(5,.box [.p (.sl 18 (L.map Wis.pv))] false),(6,.box [.p (.sl 3 (R.map Res.pv))] false),(7,.box [(.fn (.func 99) [] [.lp 910 0,.lp 911 0,.lp 912 0,.lp 913 0,.lp 915 0])] false),(8,.box [.lp 900 0] false),(910,.box [.p (.sl 18 (L.map Wis.pv))] false),(911,.box [.p (.i .i64 0),.p (.i .i64 0),.p (.i .i64 0),.p .nilsl] false),(912,.box [.p (.b false)] false),(913,.box [.p (.sl 11 (ls.map Lim.pv))] false),(915,.box [.p (.sl 3 (R.map Res.pv))] false)]) (λ_=>[]) (λk=>∀ u ∈ (zq L).take k,∀ o ∈ zad L R u,(xrA ls L R u o).isEmpty=false) ?_ ?_ ?_ ?_
 ·intro t ht;obtain ⟨x,_,rfl⟩:=xaN.1 ht;rfl
 ·simp [hX]
 ·simp only [brK,xbb,xbI,qS,seval]<;>simp
 ·simp
 ·intro k t ht hok X' ro' hX';simp only [xal,xab] at ht;obtain ⟨u,hx,rfl⟩:=ht;have hxm:=xae hx;have hkl:=(xaa.1 hx).1;have h07:=zfQ h2 h12 h3 hxm;have hOl:=zdl h2 h12 R hxm;have hM:=(zzJ hl L R k).mono (show (802*k:Int)<=60000 by omega)
  have hrfe:=λ(O:List Opt) (o:Opt)=>zkY hl h2 h3 hx O o
  have hbn:=zf5 (ls:=ls) (R:=R) hx;have hhit:=λ(e:Nat) (o:Opt)=>zry (ls:=ls) (R:=R) hx hok (e:=e) (o:=o)
  have h25:=zce h2 hRn hxm;have hnxt:(∀ o ∈ zad L R u,(xrA ls L R u o).isEmpty=false)->∀ x ∈ (zq L).take (k+1),∀ o ∈ zad L R x,(xrA ls L R x o).isEmpty=false:=λhb x hxx=>by
   rw [zE hx] at hxx
   rcases xaS.1 hxx with hxx|hxx
   ·exact hok x hxx
   ·rw [xaX] at hxx;rw [hxx];exact hb
  simp only [qS,seval];refine gE2 ?_;intro X1 hX1;have qe:=aI qR @qN;have jA:=h07;refine gE2 ?_;generalize zad L R u=O at *;generalize brK ls L R k=b0 at *;refine zh (κ:=Nat) (λe=>⟨[(9,.lp 9 0),(5,.lp 5 0),(6,.lp 6 0),(7,.lp 7 0),(8,.lp 8 0),(17,.p (.fn (.func 161) [] [.ip (.sl 1 ((zdT L).map (.i .i64))) 0])),(22,.p (.sl 2 (O.map unP))),(23,.p (.i .i64 O.length)),(24,.p (.i .i64 e)),(1000005,.lp 5 0),(1000006,.lp 6 0),(1000007,.lp 7 0),(1000008,.lp 8 0),(1000017,.p (.fn (.func 161) [] [.ip (.sl 1 ((zdT L).map (.i .i64))) 0])),(2000910,.lp 910 0),(2000911,.lp 911 0),(2000912,.lp 912 0),(2000913,.lp 913 0),(2000915,.lp 915 0)],[(900,.box [.p (.sl 11 (ls.map Lim.pv)),.lm 901,.lm 902] false),(901,.mp ((brO ls L u (O.take e) b0).C.map cE) false),(902,.mp ((brO ls L u (O.take e) b0).G.map gE) false),(5,.box [.p (.sl 18 (L.map Wis.pv))] false),(6,.box [.p (.sl 3 (R.map Res.pv))] false),(7,.box [(.fn (.func 99) [] [.lp 910 0,.lp 911 0,.lp 912 0,.lp 913 0,.lp 915 0])] false),(8,.box [.lp 900 0] false),(910,.box [.p (.sl 18 (L.map Wis.pv))] false),(911,.box [.p (.i .i64 0),.p (.i .i64 0),.p (.i .i64 0),.p .nilsl] false),(912,.box [.p (.b false)] false),(913,.box [.p (.sl 11 (ls.map Lim.pv))] false),(915,.box [.p (.sl 3 (R.map Res.pv))] false),(9,.box [.p (.i .i64 u.1),.p (.i .i64 u.2)] false)],[],false⟩) (λe=>e<=O.length/\∀ y ∈ O.take e,(xrA ls L R u y).isEmpty=false) (λe=>O.length - e) 0 ?_ ?_ ?_
  ·refine gJ ?_;simp [brO]
  ·simp
  ·intro e he;obtain ⟨he,hno⟩:=he;refine gH (λhc=>?_) λhc=>?_
   ·obtain ⟨o,ho⟩:=zj (i:=e) (l:=O) (by omega)
    have hbe:BdM ls (brO ls L u (O.take e) b0) 100000:=(zhn hl L u _ b0 hM).mono (by omega)
    have hnb:brO ls L u (O.take (e+1)) b0=rfB ls (brO ls L u (O.take e) b0) (zan L u o):=by unfold brO;rw [zE ho,xaP];rfl
    have hrfe:=hrfe (O.take e) o;generalize brO ls L u (O.take e) b0=be at *;have hhit:=hhit e o ho hno;cases hW:xrA ls L R u o with
    | nil=>
     have hhit:=hhit (by rw [hW];rfl)
     have hcc:c=⟨u.1,o.1,o.2,blK ls L R u (xrO ls L R u o) R.length⟩:=by
      have:=xa5 (hS.symm.trans hhit);rw [this,hRn];rfl
     have h99:=zv6 hl hn hw h2 h3 hxm o hbe (by rw [hrfe,hW]) hcc
     obtain ⟨o1,o2⟩:=o;generalize rfB ls be (zan L u (o1,o2))=b2 at *;have qe:=aI qR (aI @qN (aI @ho (aI @rtN @rtR)));repeat' first|refine gC ?_ ?_<;>intro hc<;>try contradiction|refine zay [] (h99) ?_|refine gG ?_|show AK _;intro J Z|refine gJ ?_|omega|exact aT
     all_goals exact .inl (.mk0 (h2:=by simp only [qS,seval,keepG.eq_1,keepG.eq_2,gLV.eq_1,gLV.eq_2,gLV.eq_5]<;>simp))
    | cons w0 W=>
     have h99:=zkE hl hn hw h2 (R:=R) hxm o hbe (w:=w0) (W:=W) (by rw [hrfe,hW])
     obtain ⟨o1,o2⟩:=o;generalize rfB ls be (zan L u (o1,o2))=b2 at *;have qe:=aI qR (aI @qN @ho);repeat' first|refine gC ?_ ?_<;>intro hc<;>try contradiction|refine zay [] (h99) ?_|refine gG ?_|show AK _;intro J Z|refine gJ ?_|omega|exact aT
     exact ⟨e+1,⟨by omega,by
      intro y hy;rw [zE ho] at hy
      rcases xaS.1 hy with hy|hy
      ·exact hno y hy
      ·rw [xaX] at hy;rw [hy,hW];rfl⟩,by omega,by simp,by simp [hnb]⟩
   ·have ee:e=O.length:=by omega
    subst ee;rw [xah] at hno ⊢;have hbO:BdM ls (brO ls L u O b0) 60000:=zhn hl L u _ b0 hM;cases hg:grB R u with
    | false=>
     rw [hg] at h25;have e2:brK ls L R (k+1)=brO ls L u O b0:=by rw [hbn];unfold brG;rw [hg];rfl
     have qe:=aI qR @qN;have jA:=h25;refine gE2 ?_;exact ⟨⟨by rw [e2],by rw [e2]⟩,hnxt hno⟩
    | true=>
     rw [hg] at h25;have e2:brK ls L R (k+1)=zy ls (brO ls L u O b0) (zan L u (grO R u)) 1:=by rw [hbn];unfold brG;rw [hg];rfl
     have hml:=za1 L u (grO R u);have h88:=zdP hl hn hw hbO.ok hbO.cnt (zaR h2 hxm (grO R u)) (λy hy=>zaH hy) (by omega) (t:=1) (by omega)
     rw [<-e2] at h88;have qe:=aI qR @qN;have jA:=h25;have jB:SX [] _:=⟨h88⟩;refine gE2 ?_;exact hnxt hno
 ·intro hok;have hend:zoJ ls L R=none:=zrz (ls:=ls) (L:=L) (R:=R) (λx hx=>hok x (by rw [xaf,xah];exact hx))
  simp only [xaf];exact absurd (hS.symm.trans hend) (by simp)
def zCC (k n:Nat) (r:List LV):zfF (.row k n::r)=none:=rfl
def zCv (v:PV):apC v none=none:=rfl
def zum (hw:zJ ls=0->zgb ls) (h12:ShW L) (R:List Res):Pure prog 26 [.sl 11 (ls.map Lim.pv),.sl 18 (L.map Wis.pv),.sl 3 (R.map Res.pv)] (.tup [cplP (if zeY ls L R=0 then (zoJ ls L R).getD cpl0 else cpl0),.i .i64 (if zeY ls L R=0 then if (zoJ ls L R).isSome=true then 0 else 7 else zeY ls L R)]):=by
 have h48:=zex hw h12 R;refine pz func26 f26.eq_1 λhwf X hX=>?_
 by_cases h0:zeY ls L R=0
 ·rw [if_pos h0,if_pos h0];obtain ⟨h1,h2,h3⟩:=zkA h0;have h0':=eq_true h0;have hl:=(zU h1).2;have hn32:=(zU h1).1;have hn:ls.length<=1000:=by omega
  have hw:=hw h1;cases hS:zoJ ls L R with
  | none=>
   have h98:=zsp hl hn hw h2 h12 h3 hS;have qe:=aI qR (aI @qN @h0');have jA:=h48;have jB:SX [(910,4),(911,9),(912,10),(913,3),(915,5)] _:=⟨h98⟩;have jC:=λu1 u2=>za0 u1 u2;refine gE5 ?_
   all_goals exact zei
  | some c=>
   have h98:=zsn hl hn hw h2 h12 h3 hS;have qe:=aI qR (aI @qN (aI @h0' (aI @zCC @zCv)));have jA:=h48;have jB:SX [(910,4),(911,9),(912,10),(913,3),(915,5)] _:=⟨h98⟩;have jC:=λu1 u2=>za0 u1 u2;exact gD5
 ·rw [if_neg h0,if_neg h0];have h0':=eq_false h0;have qe:=aI qR @h0';have jA:=h48;refine gE2 ?_
  all_goals exact zei
end Go.Proofs.YtbgckikhhcbmpaaGreat
