/- Contracts of functions, for the claim. No conditions. -/
import Derived.Test.YtocamnijnhnlfaaGreatK13
set_option linter.all false
set_option maxHeartbeats 8000000
set_option maxRecDepth 100000
namespace Go.Proofs.YtocamnijnhnlfaaGreat
open Go.RowKit Go.Proofs.Tryz
abbrev zBe (m:Int) (d:Int):List PV:=[.i .i64 (1440*d+m)]
def zv2 (D:List Int) (m:Int) (hD:∀ d ∈ D,0<=d/\d<=99999) (h0:0<=m) (h1:m<=1439) (hn:D.length<=100000):zx5 prog 131 [.ip (.sl 1 (D.map (.i .i64))) 0,.ip (.i .i64 m) 0] (D.map (zBe m)):=by
 refine zi5 (cF func131 f131.eq_1) (by simp) λhw X hX=>?_
 simp only [zbY]
 repeat' first|refine gC ?_ ?_<;>intro hc<;>try contradiction|refine gG ?_|show AK _;intro J Z|refine gJ ?_|omega|exact aT
 refine zh (κ:=Nat) (λk=>⟨[(0,.yield),(1,.p (.ip (.sl 1 (D.map (.i .i64))) 0)),(2,.p (.ip (.i .i64 m) 0)),(6,.p (.sl 1 (D.map (.i .i64)))),(7,.p (.i .i64 D.length)),(8,.p (.i .i64 k))],[],(D.take k).map (zBe m),false⟩) (λk=>k<=D.length) (λk=>D.length - k) 0 ?_ ?_ ?_
 ·exact sS
 ·simp
 ·intro k hk
  repeat first|refine gG ?_|show AK _;intro J Z|refine gJ ?_|omega|exact aT
  (refine gC ?_ ?_<;>intro hc<;>try contradiction)
  ·obtain ⟨d,hd⟩:=zk (i:=k) (l:=D) (by omega)
   have hdb:=hD d (xae hd);have hs:D.map (zBe m)=(D.take k).map (zBe m)++zBe m d::(D.drop (k+1)).map (zBe m):=by
    conv=>lhs;rw [<-xao k D,xaZ,xaM (xaa.1 hd).1,(xaa.1 hd).2]
    rfl
   have qe:=@hd;repeat' first|refine gC ?_ ?_<;>intro hc<;>try contradiction|(show zj _ _ _ _ (⟨_,.callv,_,_,_⟩::_) _ _;refine zin (by first|rfl|(simp (disch:=omega) only [qG,qe,seval]<;>rfl)) (by simp (disch:=omega) only [qS,qe,seval]) (by simp (disch:=omega) only [qS,qe,seval]<;>rfl) (by simp (disch:=omega) only [qS,qe,seval];try trivial) rfl _ (hs) ?_;intro b;(refine zB ?_))|refine gG ?_|show AK _;intro J Z|refine gJ ?_|omega|exact aT
   ·subst hc;exact .inl rfl
   ·subst hc;exact ⟨k+1,by omega,by omega,by simp,by rw [zM hd];simp,rfl⟩
  ·repeat' first|refine gC ?_ ?_<;>intro hc<;>try contradiction|refine gG ?_|show AK _;intro J Z|refine gJ ?_|omega|exact aT
   have e:k=D.length:=by omega
   subst e;rw [xaG];exact .inr rfl
def zuI (p:Per) (m:Int) (hp:zC p=0):Pure prog 79 [p.pv,.i .i64 m] (.fn (.func 131) [] [.ip (.sl 1 ((zq p).map (.i .i64))) 0,.ip (.i .i64 m) 0]):=by
 have h:=ziA p;rw [zcY,if_pos hp] at h;refine pz func79 f79.eq_1 λhw X hX=>?_
 have qe:=@qR;have jA:=h;exact gD2
def zuH (n k:ByteArray) (p:Per) (m:Int) (hp:zC p=0) (h0:0<=m) (h1:m<=1439):Pure prog 39 [.s n,.s k,p.pv,.i .i64 m] (.sl 3 ((slU n k m (zq p)).map USl.pv)):=by
 have hq:=zY hp;have hl:=zbx p;have hit:=zv2 (zq p) m (λd hd=>by have:=zaV hd;omega) h0 h1 (by omega)
 refine pz func39 f39.eq_1 λhw X hX=>?_
 repeat' first|refine gC ?_ ?_<;>intro hc<;>try contradiction|refine za (zuI p m hp) ?_|refine gG ?_|show AK _;intro J Z|refine gJ ?_|omega|exact aT
 refine zaf 100 55 3 [(4,.lp 4 0),(5,.lp 5 0),(9,.lp 9 0),(13,.p (.fn (.func 131) [] [.ip (.sl 1 ((zq p).map (.i .i64))) 0,.ip (.i .i64 m) 0]))] [(4,.box [.p (.s n)] false),(5,.box [.p (.s k)] false),(9,.box [.row 100 0] false)] ?_ ?_
 ·simp only [Own,zam,zaj,za8,zad,qS,seval]
 refine zeh rfl hit ?_ ?_ [(4,.lp 4 0),(5,.lp 5 0),(9,.lp 9 0),(13,.p (.fn (.func 131) [] [.ip (.sl 1 ((zq p).map (.i .i64))) 0,.ip (.i .i64 m) 0]))] (λj=>[(4,.box [.p (.s n)] false),(5,.box [.p (.s k)] false),(9,.box [.row 100 j] false),(100,.row 55 3 ((slU n k m ((zq p).take j)).map USl.pv) false)]) (λ_=>[]) ?_ ?_ ?_
 ·simp
 ·simp [hX]
 ·refine gJ ?_;simp [slU]
 ·intro j t ht X' ro' hX';simp only [xai,xac] at ht;obtain ⟨d,hd,rfl⟩:=ht;have hl:=zfv hd;have hk:=(xaa.1 hd).1;have hsn:slU n k m ((zq p).take (j+1))=slU n k m ((zq p).take j)++[⟨n,1440*d+m,k⟩]:=by rw [zM hd,slU,xaZ];rfl
  have hsp:(slU n k m ((zq p).take (j+1))).map USl.pv=(slU n k m ((zq p).take j)).map USl.pv++[.agg [.s n,.i .i64 (1440*d+m),.s k]]:=by rw [hsn,xaZ];rfl
  have hsl:(slU n k m ((zq p).take j)).length=j:=by rw [zeO];exact hl
  simp only [qS,seval]
  repeat' first|refine gC ?_ ?_<;>intro hc<;>try contradiction|refine gG ?_|show AK _;intro J Z|refine gJ ?_|omega|exact aT
  intro X1 hX1;have qe:=aI qR (aI @hsl @hsp);repeat' first|refine gC ?_ ?_<;>intro hc<;>try contradiction|refine gG ?_|show AK _;intro J Z|refine gJ ?_|omega|exact aT
 ·simp only [xaf];have qe:=@List.take_length.{0};repeat' first|refine gC ?_ ?_<;>intro hc<;>try contradiction|refine gG ?_|show AK _;intro J Z|refine gJ ?_|omega|exact aT
  exact ⟨(zeO ..).symm,.refl _⟩
def zmM (n k:ByteArray) (p:Per) (m:Int) (hn:zy n=0) (hk:zj1 k=0) (hp:zC p=0) (h0:0<=m) (h1:m<=1439):Pure prog 13 [.s n,.s k,p.pv,.i .i64 m] (.tup [.sl 3 ((slU n k m (zq p)).map USl.pv),.i .i64 0]):=by
 have hr:rng m 0 1439=0:=zbd.2 ⟨h0,h1⟩;refine pz func13 f13.eq_1 λhw X hX=>?_
 have qe:=aI qR (aI @hn (aI @hk (aI @hp @hr)));have jA:=λu1=>zfz u1;have jB:=λu1=>zfy u1;have jC:=λu1=>zcB u1;have jD:=λu1 u2 u3=>zcz u1 u2 u3;have jE:=λu1 u2 u3 u4=>zbG [u1,u2,u3,u4];have jF:=zuH n k p m hp h0 h1;exact gD8
def zuG (fl du:Int) (h0:0<=fl) (h1:fl<=1000000) (h2:0<=du) (h3:du<=1000000):Pure prog 43 [zc6,.agg [.i .i64 fl,.i .i64 du]] (.b (zCY fl du)):=by
 refine pz func43 f43.eq_1 λhw X hX=>?_
 have qe:=@qR;exact gD0
def zpp (a b:URw):Int:=zk3 a.name b.name
def zuF (a b:URw):Pure prog 45 [a.pv,b.pv] (.i .i64 (zpp a b)):=by
 refine pz func45 f45.eq_1 λhw X hX=>?_
 have qe:=@qR;have jA:=λu1 u2=>ziH u1 u2;exact gD2
abbrev Ent:=ByteArray × Int × Int
abbrev enM (e:Ent):PV × PV:=(.s e.1,.agg [.i .i64 e.2.1,.i .i64 e.2.2])
def rwE (e:Ent):URw:=⟨e.1,e.2.1,e.2.2⟩
def zo0 (nm:ByteArray):List Ent->Int × Int
 | []=>(0,0)
 | e::r=>if e.1=nm then e.2 else zo0 nm r
abbrev rtPV (x:Int × Int):PV:=.agg [.i .i64 x.1,.i .i64 x.2]
theorem zxO (nm:ByteArray):∀ E:List Ent,(mget (.s nm) (E.map enM)).getD (.agg [.i .i64 0,.i .i64 0])=rtPV (zo0 nm E)
 | []=>rfl
 | e::E=>by
  have ih:=zxO nm E;simp only [xag,mget,PV.cells,eqCells,eqPV,xbR,zo0]
  by_cases h:e.1=nm
  ·rw [if_pos (by simp [h]),if_pos h];rfl
  ·rw [if_neg (by simpa using λk=>h k.symm),if_neg h];exact ih
theorem zsv (nm:ByteArray):∀ E:List Ent,keysOk [2] false (.s nm) (E.map enM)
 | []=>trivial
 | e::E=>⟨⟨rfl,by simp [PV.cells,eqCellsOk,eqOk]⟩,zsv nm E⟩
theorem zxN (nm:ByteArray) (n:Int):∀ E:List Ent,mput (.s nm) (rtPV (zaS (zo0 nm E) n)) (E.map enM)=(za2 nm n E).map enM
 | []=>rfl
 | e::E=>by
  have ih:=zxN nm n E;simp only [xag,mput,PV.cells,eqCells,eqPV,xbR,zo0,za2]
  by_cases h:e.1=nm
  ·rw [if_pos (by simp [h]),if_pos h,if_pos h,xag,h]
  ·rw [if_neg (by simpa using λk=>h k.symm),if_neg h,if_neg h,xag,ih]
theorem zxq {nm:ByteArray} {n:Int} {m:Int}:∀ {E:List Ent},(∀ e ∈ E,0<=e.2.1/\e.2.1<=m/\0<=e.2.2/\e.2.2<=m)->0<=m->∀ e ∈ za2 nm n E,0<=e.2.1/\e.2.1<=m+1/\0<=e.2.2/\e.2.2<=m+1
 | [],_,hm,e,he=>by
  simp only [za2,xa8] at he;subst he;simp only [zaS];(repeat' split)<;>(try simp only [])<;>omega
 | a::E,h,hm,e,he=>by
  rw [za2] at he;have ha:=h a (by simp)
  split at he
  ·rcases xaB.1 he with rfl|he
   ·simp only [zaS];(repeat' split)<;>(try simp only [])<;>omega
   ·have:=h e (by simp [he]);omega
  ·rcases xaB.1 he with rfl|he
   ·omega
   ·exact zxq (λx hx=>h x (by simp [hx])) hm e he
theorem zpZ:∀ (l:List (ByteArray × Int)) (E:List Ent) (m:Int),0<=m->(∀ e ∈ E,0<=e.2.1/\e.2.1<=m/\0<=e.2.2/\e.2.2<=m)->∀ e ∈ l.foldl (λes x=>za2 x.1 x.2 es) E,0<=e.2.1/\e.2.1<=m+l.length/\0<=e.2.2/\e.2.2<=m+l.length
 | [],E,m,_,h,e,he=>by have:=h e he;simp;omega
 | x::l,E,m,h0,h,e,he=>by
  have:=zpZ l _ (m+1) (by omega) (zxq (nm:=x.1) (n:=x.2) h h0) e he
  simp only [xaK];omega
theorem zsd {nm:ByteArray} {m:Int}:∀ {E:List Ent},(∀ e ∈ E,0<=e.2.1/\e.2.1<=m/\0<=e.2.2/\e.2.2<=m)->0<=m->0<=(zo0 nm E).1/\(zo0 nm E).1<=m/\0<=(zo0 nm E).2/\(zo0 nm E).2<=m
 | [],_,_=>by simp [zo0];omega
 | a::E,h,h0=>by
  rw [zo0];split
  ·exact h a (by simp)
  ·exact zsd (λx hx=>h x (by simp [hx])) h0
def zoW {α:Type} {lt:α->α->Bool} (hs:SW lt) {L:List α} (h:srt lt L) (x:α):zfr lt L x=insL lt x L:=by
 unfold zfr;generalize hk:zaU lt x L L.length=k;have hkl:=zkg lt x L L.length;have hge:=zkh lt x L L.length;have hla:=zgB lt x L L.length;rw [hk] at hkl hge hla
 conv=>rhs;rw [<-xao k L]
 refine (zgA (λu hu=>?_) λv hv=>?_).symm
 ·cases k with
  | zero=>simp at hu
  | succ k=>
   obtain ⟨z,hz⟩:∃ z,L[k]?=some z:=⟨_,xab (by omega)⟩
   have hb:=hla k z rfl hz;obtain ⟨i,hi⟩:=xaS hu;have hik:=(xaa.1 hi).1;simp only [xaj] at hik;rw [xaF,if_pos (by omega)] at hi
   by_cases e:i=k
   ·subst e;rw [hz] at hi;cases hi;exact hb
   ·have:=xaw.1 h i k (by omega) (by omega) (by omega)
    rw [xab (by omega)] at hi hz
    rw [xaN hi,xaN hz] at this;exact hs.nt _ _ _ hb this
 ·rw [List.head?_drop] at hv;have hlt:=(xaa.1 hv).1;obtain ⟨y,hy,hb⟩:=hge k (xah _) hlt;rw [hv] at hy;cases hy;exact hb
def zkj {α:Type} {lt:α->α->Bool} (hs:SW lt) (L:List α):L.foldl (zfr lt) []=zcJ lt L:=by
 induction L using zeT with
 | h0=>rfl
 | hs L x ih=>rw [xa4,za7,<-ih];exact zoW hs (by rw [ih];exact zbg hs L) x
def zsR:SW (zhe zpp) where
 asym x y h:=by
  simp only [zhe,zpp,decide_eq_true_eq,decide_eq_false_iff_not,zdR] at h ⊢;rw [zg1 _ _ h];decide
 nt x y z h k:=by
  simp only [zhe,zpp,decide_eq_false_iff_not,zdR,xcn] at h k ⊢;exact zwU _ _ _ h k
theorem zfg {α β:Type} (f:α->β):∀ (L:List β) (E:List α),L.Perm (E.map f)->∃ E':List α,E'.Perm E/\L=E'.map f
 | [],E,h=>by
  have:E=[]:=by simpa using h.length_eq.symm
  subst this;exact ⟨[],.refl _,rfl⟩
 | x::L,E,h=>by
  obtain ⟨e,he,rfl⟩:=xa3.1 (h.subset (xar ..));obtain ⟨s,t,rfl⟩:=List.append_of_mem he;have h2:(f e::L).Perm (f e::(s++t).map f):=h.trans (by rw [xaZ,xag,xaZ];exact List.perm_middle)
  obtain ⟨E',a,b⟩:=zfg f L (s++t) h2.cons_inv;exact ⟨e::E',(a.cons e).trans List.perm_middle.symm,by rw [b];rfl⟩
def zcv {α:Type} (c:α->α->Int) (L:List α):(zbt c L).Perm L:=zcL (zhe c) L []
def ztL {A B:List URw} (h:A.Perm B) (hn:(B.map (·.name)).Nodup):zbt zpp A=zbt zpp B:=by
 have hA:∀ L:List URw,srt (zhe zpp) (zbt zpp L):=λL=>by rw [zbt,zkj zsR];exact zbg zsR L
 refine List.Perm.eq_of_pairwise (le:=λx y=>zhe zpp y x=false) (λa b ha hb h1 h2=>?_) (hA A) (hA B) (((zcv _ _).trans h).trans (zcv _ _).symm)
 have hm:a ∈ B:=h.subset ((zcv _ _).subset ha);have hm2:b ∈ B:=(zcv _ _).subset hb;have he:a.name=b.name:=by
  simp only [zhe,zpp,decide_eq_false_iff_not,zdR,xcn] at h1 h2;exact znS h2 h1
 obtain ⟨i,hi,rfl⟩:=List.getElem_of_mem hm;obtain ⟨j,hj,rfl⟩:=List.getElem_of_mem hm2;have hp:=xaw.1 hn
 rcases xck i j with k|k|k
 ·exact (hp i j (by simpa using hi) (by simpa using hj) k (by rw [List.getElem_map,List.getElem_map];exact he)).elim
 ·subst k;rfl
 ·exact (hp j i (by simpa using hj) (by simpa using hi) k (by rw [List.getElem_map,List.getElem_map];exact he.symm)).elim
theorem zh1 {α:Type}:∀ {R:List α} {j:Nat} {e:α},R[j]?=some e->(e::R.eraseIdx j).Perm R
 | [],j,e,h=>by simp at h
 | x::R,0,e,h=>by simp at h;subst h;exact .refl _
 | x::R,j+1,e,h=>by
  have h':R[j]?=some e:=by simpa using h
  exact (List.Perm.swap x e _).trans ((zh1 h').cons x)
theorem zj7 {α β:Type} (f:α->β):∀ (R:List α) (j:Nat),(R.eraseIdx j).map f=(R.map f).eraseIdx j
 | [],j=>rfl
 | x::R,0=>rfl
 | x::R,j+1=>by
  show f x::(R.eraseIdx j).map f=f x::(R.map f).eraseIdx j;rw [zj7 f R j]
def zfI (S:List USl) (T:List Int):List (ByteArray × Int):=(S.map (·.name)).zip T
def zzF {S:List USl} {T:List Int} {k:Nat} {s:USl} {x:Int} (hs:S[k]?=some s) (hx:T[k]?=some x):(zfI S T)[k]?=some (s.name,x):=by
 rw [zfI,List.getElem?_zip_eq_some];simp [hs,hx]
def zyM (S:List USl) (T:List Int):List URw:=zbt zpp ((zho (zfI S T)).map rwE)
def pure4040 (S:List USl) (L:List UNt) (hS:S.length < 20) (hL:L.length<=512) (h1:∀ s ∈ S,zpS s=0) (h2:∀ n ∈ L,Pure prog 135 [n.pv] (.i .i64 0)) (hn:∀ n ∈ L,zBh n) (hF:(zb0 L).length<=14) (oS:ziN S) (oF:ziN (zb0 L)) (hm:∀ s ∈ S,0<=s.mom/\s.mom<=143999999)
  (h12:(zho (zfI S (stU zbj (λs=>L.any (zbK s)) (λ_=>3) S (zb0 L)))).length<=12) :
  Pure prog 16 [zc6,.sl 3 (S.map USl.pv),.sl 8 (L.map UNt.pv)] (.tup [.sl 4 ((zyM S (stU zbj (λs=>L.any (zbK s)) (λ_=>3) S (zb0 L))).map URw.pv),.i .i64 0]):=by
 have h32:=zmN S L (by omega) hL h1 h2
 have h31:=zmO S L hS (by omega) hn hF oS oF hm
 have hlen:(stU zbj (λs=>L.any (zbK s)) (λ_=>3) S (zb0 L)).length=S.length:=by rw [<-zp7,zij]
 generalize stU zbj (λs=>L.any (zbK s)) (λ_=>3) S (zb0 L)=T at h31 hlen h12 ⊢
 have hnl:(zfI S T).length=S.length:=by rw [zfI,List.length_zip,xaf];omega
 refine pz func16 f16.eq_1 λhw X hX=>?_
 have qe:=@qR;repeat' first|refine gC ?_ ?_<;>intro hc<;>try contradiction|refine za (h32) ?_|refine za (h31) ?_|refine gG ?_|show AK _;intro J Z|refine gJ ?_|omega|exact aT
 refine zh (κ:=Nat) (λk=>⟨[(1,.p (.sl 3 (S.map USl.pv))),(3,.lp 3 0),(9,.lm 23),(27,.p (.sl 1 (T.map (.i .i64)))),(28,.p (.i .i64 T.length)),(29,.p (.i .i64 k))],[(3,.box (ruleCs.map .p) false),(23,.mp ((zho ((zfI S T).take k)).map enM) false)],[],false⟩) (λk=>k<=T.length) (λk=>T.length - k) 0 ?_ ?_ ?_
 ·refine gJ ?_;simp [zho]
 ·simp
 ·intro k hk
  repeat first|refine gG ?_|show AK _;intro J Z|refine gJ ?_|omega|exact aT
  (refine gC ?_ ?_<;>intro hc<;>try contradiction)
  ·obtain ⟨x,hx⟩:=zk (i:=k) (l:=T) (by omega)
   obtain ⟨s,hs⟩:=zk (i:=k) (l:=S) (by omega)
   have hz:=zzF hs hx;have hbe:=zpZ ((zfI S T).take k) [] 0 (by omega) (by simp)
   rw [show ((zfI S T).take k).length=k by rw [xaj];omega] at hbe
   have hb:=zsd (nm:=s.name) (m:=0+k) (E:=zho ((zfI S T).take k)) hbe (by omega)
   have hg:=zxO s.name (zho ((zfI S T).take k));have hq:=eq_true (zsv s.name (zho ((zfI S T).take k)));have hput:=zxN s.name x (zho ((zfI S T).take k));have hnx:zho ((zfI S T).take (k+1))=za2 s.name x (zho ((zfI S T).take k)):=by rw [zM hz,zp0]
   have h33:=zn0 (zo0 s.name (zho ((zfI S T).take k))).1 (zo0 s.name (zho ((zfI S T).take k))).2 x (by omega) (by omega) (by omega) (by omega)
   have qe:=aI qR (aI @qN (aI @hx (aI @hs (aI @hg (aI @hq (aI @hput (aI @rtN @rtR)))))));repeat' first|refine gC ?_ ?_<;>intro hc<;>try contradiction|refine zo [(900,12)] (h33) ?_|refine gG ?_|show AK _;intro J Z|refine gJ ?_|omega|exact aT
   exact ⟨k+1,by omega,by omega,by simp,by rw [hnx]⟩
  ·obtain rfl:k=T.length:=by omega
   rw [show (zfI S T).take T.length=zfI S T by rw [xal (by omega)]]
   have hbe:=zpZ (zfI S T) [] 0 (by omega) (by simp)
   have hnd:=zpY (zfI S T)
   change ∀ e ∈ zho (zfI S T),_ at hbe
   generalize hE:zho (zfI S T)=E at h12 hbe hnd;have qe:=@qR;repeat' first|refine gC ?_ ?_<;>intro hc<;>try contradiction|refine gG ?_|show AK _;intro J Z|refine gJ ?_|omega|exact aT
   refine zbc (zgE 51 (.mp (E.map enM)) (sR) (by first|trivial|simp) (.refl _)) ?_
   rintro _ rfl;refine zol λfs hfs=>?_
   obtain ⟨R0,hR0,rfl⟩:∃ R0:List Ent,R0.Perm E/\fs=R0.map enM:=by
    rcases hfs with rfl|⟨hp,_⟩
    ·exact ⟨E,.refl _,rfl⟩
    ·exact zfg enM fs E hp
   have qe:=@qR;repeat' first|refine gC ?_ ?_<;>intro hc<;>try contradiction|refine gG ?_|show AK _;intro J Z|refine gJ ?_|omega|exact aT
   refine zaf 100 73 4 [(3,.lp 3 0),(13,.row 100 0),(52,.it 52)] [(3,.box (ruleCs.map .p) false),(52,.mit (R0.map enM) none)] ?_ ?_
   ·simp only [Own,zam,zaj,za8,zad,qS,seval]
   refine zh (κ:=List Ent × List Ent × Option (PV × PV)) (λk=>⟨[(3,.lp 3 0),(13,.row 100 k.1.length),(52,.it 52)],[(3,.box (ruleCs.map .p) false),(52,.mit (k.2.1.map enM) k.2.2),(100,.row 73 4 ((k.1.map rwE).map URw.pv) false)],[],false⟩) (λk=>(k.1++k.2.1).Perm E) (λk=>k.2.1.length) ([],R0,none) ?_ ?_ ?_
   ·exact sS
   ·exact hR0
   ·rintro ⟨O,R,cur⟩ hk;simp only at hk;have hol:O.length<=12:=by have:=hk.length_eq;rw [xad] at this;omega
    have qe:=@qR;repeat' first|refine gC ?_ ?_<;>intro hc<;>try contradiction|refine gG ?_|show AK _;intro J Z|refine gJ ?_|omega|exact aT
    refine zqv (λh0=>?_) (λj kv hj=>?_)
    ·have hR:R=[]:=by simpa using h0
     subst hR;rw [xat] at hk;have h60:=zw1 zuF (O.map rwE) (by rw [xaf];omega)
     rw [xaf] at h60;have hres:zyM S T=zbt zpp (O.map rwE):=by
      rw [zyM,hE];exact (ztL (hk.map rwE) (by rw [xbS];exact hnd)).symm
     have hsl:=zK zpp (O.map rwE);have qe:=aI qR (aI @qN (aI @zK (aI @List.length_map.{0,0} (aI @rtN @rtR))));repeat' first|refine gC ?_ ?_<;>intro hc<;>try contradiction|refine zo [(900,100)] (h60) ?_|refine gG ?_|show AK _;intro J Z|refine gJ ?_|omega|exact aT
     all_goals (rw [hres];exact .refl _)
    ·obtain ⟨e,he,rfl⟩:∃ e,R[j]?=some e/\enM e=kv:=by
      rw [xai,xac] at hj;exact hj
     obtain ⟨hjl,hje⟩:=xaa.1 he;have hm:e ∈ E:=hk.subset (xa0 _ (xae he));have hb:=hbe e hm;have hnl:(zfI S T).length < 20:=by omega
     have h39:=zuG e.2.1 e.2.2 (by omega) (by omega) (by omega) (by omega)
     have qe:=@qR;repeat' first|refine gC ?_ ?_<;>intro hc<;>try contradiction|refine gG ?_|show AK _;intro J Z|refine gJ ?_|omega|exact aT
     refine zom ?_;have qe:=@qR;repeat' first|refine gC ?_ ?_<;>intro hc<;>try contradiction|refine za (h39) ?_|refine gG ?_|show AK _;intro J Z|refine gJ ?_|omega|exact aT
     refine ⟨(O++[e],R.eraseIdx j,some (enM e)),?_,?_,by simp [rwE,zj7]⟩
     ·refine List.Perm.trans ?_ hk;rw [xau];refine List.Perm.append_left O ?_;exact zh1 he
     ·simp only [List.length_eraseIdx_of_lt hjl];omega
def ziw (n:ByteArray) (m:Int):Pure prog 12 [.s n,.i .i64 m] (flyN n m).pv:=by
 refine pz func12 f12.eq_1 λhw X hX=>?_
 have qe:=@qR;exact gD0
def zmK:Pure prog 15 [] zc6:=by
 refine pz func15 f15.eq_1 λhw X hX=>?_
 have qe:=@qR;exact gD0
def bitB (b:Int) (i:Nat):Bool:=decide (bits .and .u16 (b.fdiv (2 ^ min i IntKind.u16.bits)) 1=1)
def zo1 (D:List Int) (b:Int) (k:Nat):List Int:=(List.range k).flatMap λ(i:Nat)=>match D[i]? with|some d=>if (decide ((i:Int) < 16) && bitB b i)=true then [d] else []|none=>[]
def zkk {D:List Int} {b:Int} {k:Nat} {d:Int} (h:D[k]?=some d):zo1 D b (k+1)=zo1 D b k++if (decide ((k:Int) < 16) && bitB b k)=true then [d] else []:=by
 rw [zo1,z8,h];rfl
theorem zjd (D:List Int) (b:Int):∀ k,(zo1 D b k).length<=k
 | 0=>by simp [zo1]
 | k+1=>by
  have:=zjd D b k;rw [zo1,z8,<-zo1];cases D[k]? with
  | none=>simp;omega
  | some d=>simp only [];split<;>simp<;>omega
theorem zjc (D:List Int) (b:Int):∀ k,k<=D.length->(zo1 D b k).Sublist (D.take k)
 | 0,_=>by simp [zo1]
 | k+1,h=>by
  obtain ⟨d,hd⟩:=zk (i:=k) (l:=D) (by omega)
  rw [zkk hd,zM hd];refine (zjc D b k (by omega)).append ?_
  split
  ·exact .refl _
  ·exact List.nil_sublist _
def zxI (r:Req) (b o:Int):List Int:=(zo1 (zq r.per) b (zq r.per).length).map λd=>1440*d+r.minute+o.tmod 31
def tm31 {o:Int}:-30<=o.tmod 31/\o.tmod 31<=30:=by
 have h1:=Int.tmod_lt_of_pos o (show (0:Int) < 31 by decide)
 have h2:-31 < o.tmod 31:=by
  have:=Int.tmod_lt_of_pos (-o) (show (0:Int) < 31 by decide)
  rw [Int.neg_tmod] at this;omega
 omega
def pure4074 (r:Req) (b o:Int) (hp:zC r.per=0) (h0:60<=r.minute) (h1:r.minute<=1380):Pure prog 11 [r.pv,.i .u16 b,.i .i8 o] (.sl 1 ((zxI r b o).map (.i .i64))):=by
 have hq:=zY hp;have hdl:=zbx r.per;have ho:=tm31 (o:=o);refine pz func11 f11.eq_1 λhw X hX=>?_
 have hwo:IntKind.i64.wrap o=o:=by
  have h8:IntKind.i8.wrap o=o:=hw.2.2.1;simp only [IntKind.wrap,IntKind.bits,IntKind.signed] at h8 ⊢;simp at h8 ⊢;omega
 have qe:=@qR;repeat' first|refine gC ?_ ?_<;>intro hc<;>try contradiction|refine za (zq6 r.per hp) ?_|refine gG ?_|show AK _;intro J Z|refine gJ ?_|omega|exact aT
 refine zaf 100 3 1 [(1,.p (.i .u16 b)),(2,.p (.i .i8 o)),(3,.lp 3 0),(7,.row 100 0),(12,.p (.sl 1 ((zq r.per).map (.i .i64)))),(13,.p (.i .i64 (zq r.per).length)),(14,.p (.i .i64 0))] [(3,.box (r.cells.map .p) false)] ?_ ?_
 ·simp only [Own,zam,zaj,za8,zad,qS,seval]
 refine zh (κ:=Nat) (λk=>⟨[(1,.p (.i .u16 b)),(2,.p (.i .i8 o)),(3,.lp 3 0),(7,.row 100 (zo1 (zq r.per) b k).length),(12,.p (.sl 1 ((zq r.per).map (.i .i64)))),(13,.p (.i .i64 (zq r.per).length)),(14,.p (.i .i64 k))],[(3,.box (r.cells.map .p) false),(100,.row 3 1 (((zo1 (zq r.per) b k).map λd=>1440*d+r.minute+o.tmod 31).map (.i .i64)) false)],[],false⟩) (λk=>k<=(zq r.per).length) (λk=>(zq r.per).length - k) 0 ?_ ?_ ?_
 ·refine gJ ?_;simp [zo1]
 ·simp
 ·intro k hk;have hfl:=zjd (zq r.per) b k
  repeat first|refine gG ?_|show AK _;intro J Z|refine gJ ?_|omega|exact aT
  (refine gC ?_ ?_<;>intro hc<;>try contradiction)
  ·obtain ⟨d,hd⟩:=zk (i:=k) (l:=zq r.per) (by omega)
   have hdm:=zaV (xae hd);have hnx:=zkk (b:=b) hd;have hbb:decide (bits .and .u16 (b.fdiv (2 ^ min k IntKind.u16.bits)) 1=1)=bitB b k:=rfl
   by_cases hi:(k:Int) < 16
   ·have hi':=eq_true hi;cases hb:bitB b k
    ·rw [hb] at hbb;rw [hb,Bool.and_false,if_neg (by decide),xat] at hnx
     have qe:=aI qR (aI @hd (aI @hi' @hbb));repeat' first|refine gC ?_ ?_<;>intro hc<;>try contradiction|refine gG ?_|show AK _;intro J Z|refine gJ ?_|omega|exact aT
     all_goals exact ⟨k+1,by omega,by omega,by rw [hnx];simp⟩
    ·rw [hb] at hbb;rw [hb,xbR,decide_eq_true hi,if_pos rfl] at hnx;have qe:=aI qR (aI @hd (aI @hi' (aI @hbb @hwo)));repeat' first|refine gC ?_ ?_<;>intro hc<;>try contradiction|refine gG ?_|show AK _;intro J Z|refine gJ ?_|omega|exact aT
     all_goals exact ⟨k+1,by omega,by omega,by rw [hnx];simp⟩
   ·have hi':=eq_false hi;rw [decide_eq_false hi,xbj,if_neg (by decide),xat] at hnx
    have qe:=aI qR (aI @hd @hi');repeat' first|refine gC ?_ ?_<;>intro hc<;>try contradiction|refine gG ?_|show AK _;intro J Z|refine gJ ?_|omega|exact aT
    all_goals exact ⟨k+1,by omega,by omega,by rw [hnx];simp⟩
  ·obtain rfl:k=(zq r.per).length:=by omega
   have qe:=@qR;exact gD0
abbrev zslt:PV:=.agg [.s s0,.s s0,.s s0,.s s0,.s s0,.s s0,.i .i64 0,.i .i64 0,.i .i64 0,.i .i64 0,.i .i64 0,.i .i64 0,.i .i64 0,.s s0,.nilsl,.nilsl]
def zD0 (s:Slt):Bool:=decide (s.req.kind=sA) && decide (60<=s.req.minute) && decide (s.req.minute<=1380)
def zCo (b:Bk) (a:Int) (h:¬(zpH b=true/\zu b=0/\b.slots≠[])):Pure prog 5 [b.pv,.i .u8 a] (.tup [zslt,.b false]):=by
 have h33:=zm4 b;have h23:=zm5 b;refine pz func5 f5.eq_1 λhw X hX=>?_
 cases hb:zpH b
 ·rw [hb] at h33;have qe:=@qR;repeat' first|refine gC ?_ ?_<;>intro hc<;>try contradiction|refine za (h33) ?_|(show zj _ _ _ _ (⟨_,.call 23,_,_,_⟩::_) _ _;refine zbR (q:=(.i .i64 0)) (by first|rfl|(simp (disch:=omega) only [qG,qe,seval]<;>rfl)) ?_;(try (refine zB ?_)))|refine gG ?_|show AK _;intro J Z|refine gJ ?_|omega|exact aT
  all_goals exact .refl _
 ·rw [hb] at h33
  by_cases hc:zu b=0
  ·have hl:(b.slots.length:Int)=0:=by
    have:b.slots=[]:=by
     refine Decidable.byContradiction λk=>h ⟨hb,hc,k⟩
    rw [this];rfl
   have hl':=eq_true hl;rw [hc] at h23;have qe:=aI qR (aI @hl' (@List.length_map.{0,0}));have jA:=h33;have jB:=h23;exact gD2
  ·have hc':=eq_false hc;have qe:=aI qR @hc';have jA:=h33;have jB:=h23;exact gD2
def pure4071 (b:Bk) (a:Int) (hb:zpH b=true) (hc:zu b=0) (hne:b.slots≠[]) {s:Slt} (hs:b.slots[(a % b.slots.length).toNat]?=some s):Pure prog 5 [b.pv,.i .u8 a] (.tup [s.pv,.b (zD0 s)]):=by
 have h33:=zm4 b;have h23:=zm5 b;rw [hb] at h33;rw [hc] at h23;have hlp:0 < b.slots.length:=List.length_pos_iff.2 hne;have hl':((b.slots.length:Int)=0)=False:=eq_false (by omega)
 refine pz func5 f5.eq_1 λhw X hX=>?_
 have ha:0<=a/\a<=255:=by
  have h8:IntKind.u8.wrap a=a:=hw.2.1;simp only [IntKind.wrap,IntKind.bits,IntKind.signed] at h8;simp at h8;omega
 have hwa:IntKind.i64.wrap a=a:=by
  simp only [IntKind.wrap,IntKind.bits,IntKind.signed];simp;omega
 have e:a.tmod (b.slots.length:Int)=((a % b.slots.length).toNat:Int):=by
  rw [xbF ha.1,xbx (Int.emod_nonneg _ (by omega))]
 have hlt:(a % b.slots.length).toNat < b.slots.length:=(xaa.1 hs).1;have qe:=aI qR (aI @hl' (aI @List.length_map.{0,0} (aI @hwa (aI @e @hs))));have jA:=h33;have jB:=h23;exact gD2
def zuD (b:Bk) (nm:ByteArray) (L:List UNt) {F:List USl} (hb:zu b=0) (hFm:((mvS b.slots).filter λy=>decide (y.name=nm)).map uOf=F)
  (hS:F.length < 20) (hL:L.length<=512) (h1:∀ s ∈ F,zpS s=0) (h2:∀ n ∈ L,Pure prog 135 [n.pv] (.i .i64 0)) (hn:∀ n ∈ L,zBh n) (hF:(zb0 L).length<=14) (oS:ziN F) (oF:ziN (zb0 L)) (hm:∀ s ∈ F,0<=s.mom/\s.mom<=143999999) :
  Pure prog 20 [b.pv,.s nm,.sl 8 (L.map UNt.pv)] (.tup [.agg [.i .i64 (znz (stU zbj (λs=>L.any (zbK s)) (λ_=>3) F (zb0 L))),.i .i64 (znF (stU zbj (λs=>L.any (zbK s)) (λ_=>3) F (zb0 L)))],.i .i64 0]):=by
 have h43:=zvv b;obtain ⟨e1,e2,e3⟩:=zA0 hb;rw [hb,e1] at h43;have h25:=zCp (mvS b.slots);rw [e2] at h25;have h34:=zix F L hS hL h1 h2 hn hF oS oF hm;generalize mvS b.slots=M at hFm h43 e2 e3 h25;subst hFm;have hml:=(zaJ e2).1;refine pz func20 f20.eq_1 λhw X hX=>?_
 have qe:=@qR;repeat' first|refine gC ?_ ?_<;>intro hc<;>try contradiction|refine za (h43) ?_|refine zm (λ_=>h25) ?_|refine gG ?_|show AK _;intro J Z|refine gJ ?_|omega|exact aT
 refine zaf 100 55 3 [(1,.p (.s nm)),(2,.p (.sl 8 (L.map UNt.pv))),(6,.lp 6 0),(10,.row 100 0),(26,.p (.sl 7 (M.map Mov.pv))),(27,.p (.i .i64 M.length)),(28,.p (.i .i64 0))] [(6,.box [.p (.i .i64 0),.p (.i .i64 0)] false)] ?_ ?_
 ·simp only [Own,zam,zaj,za8,zad,qS,seval]
 refine zh (κ:=Nat) (λk=>⟨[(1,.p (.s nm)),(2,.p (.sl 8 (L.map UNt.pv))),(6,.lp 6 0),(10,.row 100 ((M.take k).filter λy=>decide (y.name=nm)).length),(26,.p (.sl 7 (M.map Mov.pv))),(27,.p (.i .i64 M.length)),(28,.p (.i .i64 k))],[(6,.box [.p (.i .i64 0),.p (.i .i64 0)] false),(100,.row 55 3 ((((M.take k).filter λy=>decide (y.name=nm)).map uOf).map USl.pv) false)],[],false⟩) (λk=>k<=M.length) (λk=>M.length - k) 0 ?_ ?_ ?_
 ·exact sS
 ·simp
 ·intro k hk;have hfl:((M.take k).filter λy=>decide (y.name=nm)).length<=k:=by have:=xa6 (λy:Mov=>decide (y.name=nm)) (M.take k);rw [xaj] at this;omega
  repeat first|refine gG ?_|show AK _;intro J Z|refine gJ ?_|omega|exact aT
  (refine gC ?_ ?_<;>intro hc<;>try contradiction)
  ·obtain ⟨x,hx⟩:=zk (i:=k) (l:=M) (by omega)
   have hnx:(M.take (k+1)).filter (λy=>decide (y.name=nm))=(M.take k).filter (λy=>decide (y.name=nm))++if decide (x.name=nm)=true then [x] else []:=by rw [zM hx,xa7,xaW,List.filter_nil]
   have qe:=aI qR @hx;repeat' first|refine gC ?_ ?_<;>intro hc<;>try contradiction|refine gG ?_|show AK _;intro J Z|refine gJ ?_|omega|exact aT
   ·have hc1:x.name=nm:=hc;exact ⟨k+1,by omega,by omega,by rw [hnx,if_pos (decide_eq_true hc1)];simp,by rw [hnx,if_pos (decide_eq_true hc1)];simp [uOf]⟩
   ·have hc1:¬x.name=nm:=hc;exact ⟨k+1,by omega,by omega,by rw [hnx,if_neg (by simpa using hc1)];simp,by rw [hnx,if_neg (by simpa using hc1)];simp⟩
  ·obtain rfl:k=M.length:=by omega
   rw [xaG];have qe:=aI qR @List.take_length.{0};have jA:=zmK;have jB:=h34;exact gD2
def zAH {b:Bk} (h:zu b=0) {s:Slt} (hs:s ∈ b.slots):zq s.req.per≠[]:=λe=>by
 have h1:zfn s.req=0:=fE0 (zh4 h hs) _ (by simp)
 have h2:(if zq s.req.per=[] then (12:Int) else 0)=0:=fE0 h1 _ (by simp)
 rw [if_pos e] at h2;cases h2
def zpO (n:ByteArray) (L:List Int):List USl:=L.map λm=>⟨n,m,sA⟩
def zha (n:ByteArray) (L:List Int):List UNt:=L.map λm=>flyN n m
def zd7 (n:ByteArray) (L:List Int):zb0 (zha n L)=zpO n L:=by
 rw [zb0,zha,List.filter_map,zpO,xbS];have:((λx:UNt=>decide (x.kind=zfN)) ∘ λm:Int=>flyN n m)=λ_=>true:=by
  funext m;exact decide_eq_true (show zfN=zfN from rfl)
 rw [this,List.filter_eq_self.2 (λ_ _=>rfl)];rfl
def zjb (n:ByteArray) (L:List Int) (a b t:Int):zb0 (zha n L++[ztq n a b t])=zpO n L:=by
 have e:zb0 (zha n L++[ztq n a b t])=zb0 (zha n L)++zb0 [ztq n a b t]:=by rw [zb0,zb0,zb0,xa7,xaZ]
 have e2:zb0 [ztq n a b t]=[]:=by
  rw [zb0,xaW,if_neg (show ¬decide (zke=zfN)=true by decide)];rfl
 rw [e,e2,xat,zd7]
def zry {n:ByteArray} {L:List Int}:∀ x ∈ zha n L,zBh x:=λx hx=>by
 obtain ⟨m,_,rfl⟩:=xa3.1 hx;exact ⟨⟨show (0:Int)<=0 by decide,show (0:Int)<=99999 by decide⟩,show zfN≠zpL by decide,show zfN≠zpM by decide⟩
def zvM {n:ByteArray} {L:List Int} {a b t:Int} (h0:0<=t) (h1:t<=99999):∀ x ∈ zha n L++[ztq n a b t],zBh x:=λx hx=>by
 rcases xaL.1 hx with h|h
 ·exact zry x h
 ·simp at h;subst h;exact ⟨⟨h0,h1⟩,show zke≠zpL by decide,show zke≠zpM by decide⟩
def ziO (n:ByteArray) (L:List Int) (s:USl):(zha n L).any (zbK s)=false:=by
 rw [List.any_eq_false];intro x hx;obtain ⟨m,_,rfl⟩:=xa3.1 hx;have:decide (zfN=zke)=false:=by decide
 simp [zbK,this]
def zs2 {n k:ByteArray} {L:List Int} {a b m d:Int} (hm:0<=m/\m<=1439) (hd:d<=b):(zha n L++[ztq n a b (a - 7)]).any (zbK ⟨n,1440*d+m,k⟩)=decide (a<=d):=by
 rw [List.any_append,ziO,xbJ];have e:(1440*d+m) / 1440=d:=by omega
 simp only [List.any_cons,List.any_nil,Bool.or_false,zbK,e]
 by_cases h:a<=d
 ·have h7:a - 7+7<=d:=by omega
  simp [h,hd,h7]
 ·simp [h]
def zsf {r:Req} (b o:Int) (n:ByteArray):ziN (zpO n (zxI r b o)):=by
 rw [ziN,zpO,zxI,xbI,xbI];refine ((zbp r.per).sublist ((zjc _ b _ (xah _)).trans (by rw [xaG];exact xcj _))).imp fun {x y} h=>?_
 simp only []
 omega
def zz6 (r:Req) (b o:Int) (n:ByteArray):(zpO n (zxI r b o)).length<=(zq r.per).length:=by
 rw [zpO,zxI,xaf,xaf];exact zjd _ _ _
def zwh {r:Req} {b o m:Int} (h:m ∈ zxI r b o):∃ d ∈ zq r.per,m=1440*d+r.minute+o.tmod 31:=by
 obtain ⟨d,hd,rfl⟩:=xa3.1 h;have:=(zjc (zq r.per) b _ (xah _)).subset hd;rw [xaG] at this;exact ⟨d,this,rfl⟩
def zz7 {r:Req} {b o m:Int} (hp:zC r.per=0) (h0:60<=r.minute) (h1:r.minute<=1380) (h:m ∈ zxI r b o):rng m 0 143999999=0/\m / 1440 ∈ zq r.per:=by
 obtain ⟨d,hd,rfl⟩:=zwh h;have hq:=zY hp;have hm:=zaV hd;have ho:=tm31 (o:=o);refine ⟨zbd.2 (by omega),?_⟩
 rw [show (1440*d+r.minute+o.tmod 31) / 1440=d by omega];exact hd
def zqc (n k:ByteArray) (m:Int) {D:List Int} (hD:D.Pairwise (· < ·)):ziN (slU n k m D):=by
 rw [ziN,slU,xbI];refine hD.imp fun {x y} h=>?_
 simp only []
 omega
def zBx {n k:ByteArray} {m:Int} {D:List Int} (hn:zy n=0) (hk:zj1 k=0) (hm:0<=m/\m<=1439) (hD:∀ d ∈ D,0<=d/\d<=99999):∀ s ∈ slU n k m D,zpS s=0/\0<=s.mom/\s.mom<=143999999:=λs hs=>by
 obtain ⟨d,hd,rfl⟩:=xa3.1 hs;have:=hD d hd;refine ⟨?_,by simp only [];omega,by simp only [];omega⟩
 rw [zpS];exact ze.2 ⟨hn,ze.2 ⟨zbd.2 (by simp only [];omega),ze.2 ⟨hk,rfl⟩⟩⟩
def zrz {n:ByteArray} {L:List Int} (hn:zy n=0) (hL:∀ m ∈ L,rng m 0 143999999=0):∀ x ∈ zha n L,Pure prog 135 [x.pv] (.i .i64 0):=λx hx=>by
 obtain ⟨m,hm,rfl⟩:=xa3.1 hx;exact zq9 n m hn (hL m hm)
end Go.Proofs.YtocamnijnhnlfaaGreat
