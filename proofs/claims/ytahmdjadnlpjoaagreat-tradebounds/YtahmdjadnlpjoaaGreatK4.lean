/- Contracts of functions that the proof uses, shared by the claims of this seat; no statement of its own. Part 6. No conditions. -/
import Derived.KernelRfl
import Derived.Laws.RangeAny
import Derived.Test.YtahmdjadnlpjoaaGreatK3
set_option linter.all false
set_option maxHeartbeats 8000000
namespace Go.Proofs.YtahmdjadnlpjoaaGreat
open Go.RowKit
set_option maxRecDepth 100000
set_option linter.unusedVariables false
set_option linter.unusedSimpArgs false
set_option maxHeartbeats 8000000
theorem mixed:Tryz.prog.follows .mixedOrders=true:=by kernel_rfl
instance:Mx Tryz.prog:=⟨mixed⟩
section
variable {P:Program} {ts:List (List PV)} {dr:Bool} {K:St→List Ft→Prop} {acc:List Ft} {d:Option Nat} {f:Nat} {args:List AOpd} {gd:Option (Nat × Bool)} {af:List Nat} {r:List RO} {s:St} {vs:List PV} {res:PV}
end
structure Per where
 fro:Int
 to:Int
 days:Int
abbrev Per.pv (p:Per):PV:=.agg [.i .i64 p.fro,.i .i64 p.to,.i .i64 p.days]
def inM (mask wd:Int):Bool:=decide (mask / 2 ^ wd.toNat % 2=1)
def rng (n lo hi:Int):Int:=if n < lo∨hi < n then 3 else 0
theorem bits_in:∀ m < 128,∀ w < 7,(decide (bits .and .i64 (Int.fdiv (Int.ofNat m) (2 ^ (min w 64))) 1=1))=inM (Int.ofNat m) (Int.ofNat w):=by decide +kernel
def zg:List Int→Int
 | []=>0
 | e::r=>if e=0 then zg r else e
theorem firstE_drop {l:List Int}:∀ {i:Nat},(∀ x ∈ l.take i,x=0)→zg l=zg (l.drop i):=by
 induction l with
 | nil=>intro i _;simp
 | cons e r ih=>
  intro i h
  cases i with
  | zero=>rfl
  | succ i=>
   have he:e=0:=h e (by simp)
   subst he
   simp only [zg,if_true,List.drop_succ_cons]
   exact ih fun x hx=>h x (by simp [hx])
theorem zV {l:List Int} {i:Nat} {x:Int} (h:∀ x ∈ l.take i,x=0) (hx:l[i]?=some x) (hn:x≠0):zg l=x:=by
 rw [firstE_drop h]
 obtain ⟨hi,rfl⟩:=List.getElem?_eq_some_iff.1 hx
 rw [List.drop_eq_getElem_cons hi,zg,if_neg hn]
theorem z4 {l:List Int} (h:∀ x ∈ l.take l.length,x=0):zg l=0:=by
 rw [firstE_drop h,List.drop_length];rfl
theorem zaC {l:List Int} {i:Nat} {x:Int} (h:∀ x ∈ l.take i,x=0) (hx:l[i]?=some x) (h0:x=0):∀ x ∈ l.take (i+1),x=0:=by
 intro y hy
 rw [List.take_add_one,hx] at hy
 rcases List.mem_append.1 hy with hy|hy
 ·exact h y hy
 ·simp at hy;omega
def zau (p:Per):Int:=zg [rng p.fro 0 99999,rng p.to 0 99999,if p.to < p.fro then 11 else 0,if 400 < p.to - p.fro then 4 else 0,rng p.days 1 127]
theorem rng_0 {n a b:Int}:rng n a b=0↔a≤n∧n≤b:=by
 unfold rng
 split
 ·rename_i h;omega
 ·rename_i h;omega
theorem gC {G:Cfg} {x y:AC} {s:St} {Q:zO} {o:AOpd} {t:Bool} {p q:Prop} (h1:p→Run G x s Q) (h2:q→Run G y s Q) (ht:o.ev s=.p (.b t):=by simp (disch:=omega) only [qS,qe,Nat.reduceAdd,Nat.reduceMul,Nat.reduceEqDiff,Nat.reduceLeDiff,reduceIte,reduceCtorEq,Nat.reduceBEq,Nat.reduceLT]<;>rfl) (hp:(t=true)=p:=by first|(simp only [qH,rng_0]<;>rfl)|rfl) (hq:(t=false)=q:=by first|(simp only [qH,rng_0]<;>rfl)|rfl):Run G (.cond o x y) s Q:=by
 subst hp;subst hq;exact run_cond ht h1 h2
theorem gG {p q:Prop} (h:q) (k:q→p:=by intro h;first|exact gS h|exact gY h|exact gZ h):p:=k h
theorem zq {e:Int} {r:List Int}:zg (e::r)=0↔e=0∧zg r=0:=by
 simp only [zg];split<;>simp_all
theorem firstE_app {a b:List Int} (h:zg a=0):zg (a++b)=zg b:=by
 induction a with
 | nil=>rfl
 | cons e r ih=>obtain ⟨h1,h2⟩:=zq.1 h;subst h1;simp only [List.cons_append,zg,if_true];exact ih h2
theorem firstE_app' {a b:List Int} (h:zg a≠0):zg (a++b)=zg a:=by
 induction a with
 | nil=>exact absurd rfl h
 | cons e r ih=>
  simp only [List.cons_append,zg] at h ⊢
  split
  ·rename_i h0;rw [if_pos h0] at h;exact ih h
  ·rfl
theorem ite_eq0 {p:Prop} [Decidable p] {e:Int} (he:e≠0):(if p then e else 0)=0↔¬p:=by by_cases h:p<;>simp [h,he]
theorem zaX {p:Per} (h:zau p=0):0≤p.fro∧p.fro≤p.to∧p.to≤99999∧p.to - p.fro≤400∧1≤p.days∧p.days≤127:=by
 unfold zau at h
 simp only [zq,rng_0,ite_eq0 (show (11:Int)≠0 by decide),ite_eq0 (show (4:Int)≠0 by decide)] at h
 omega
def hasD (p:Per) (d:Int):Bool:=decide (p.fro≤d) && decide (d≤p.to) && inM p.days ((d+5) % 7)
def zY (p:Per):List Int:=(List.range (p.to - p.fro+1).toNat).flatMap fun (k:Nat)=>if inM p.days ((p.fro+k+5) % 7) then [p.fro+k] else []
theorem zbm {α:Type} (f:Nat→List α) {k n:Nat} (h:k < n):(List.range n).flatMap f=(List.range k).flatMap f++(f k++(List.range' (k+1) (n - (k+1))).flatMap f):=by
 have:List.range n=List.range k++(k::List.range' (k+1) (n - (k+1))):=by
  rw [List.range_eq_range',List.range_eq_range',show k::List.range' (k+1) (n - (k+1))=List.range' (0+1*k) (n - k) by rw [show n - k=(n - (k+1))+1 by omega,List.range'_succ];simp,List.range'_append,show k+(n - k)=n by omega]
 rw [this];simp
theorem zab {α:Type} (f:Nat→List α) (k:Nat):(List.range (k+1)).flatMap f=(List.range k).flatMap f++f k:=by
 rw [List.range_succ];simp
theorem pure148 (b:Bool) (e:Int):Pure Tryz.prog 232 [.b b,.i .i64 e] (.i .i64 (if b then e else 0)):=by
 refine zf (cF Tryz.func232 Tryz.f232.eq_1) (by simp) fun hw X hX=>?_
 repeat' first|refine gC (fun hc=>?_) (fun hc=>?_)<;>try contradiction|refine gG ?_|show AK _;intro K H|refine H _ _ ?_;clear H K|refine gJ ?_;try exact trivial|omega
 all_goals (subst hc;exact .refl _)
theorem pure149 (n a b:Int):Pure Tryz.prog 233 [.i .i64 n,.i .i64 a,.i .i64 b] (.i .i64 (rng n a b)):=by
 refine zf (cF Tryz.func233 Tryz.f233.eq_1) (by simp) fun hw X hX=>?_
 repeat' first|refine gC (fun hc=>?_) (fun hc=>?_)<;>try contradiction|refine za (pure148 _ _) ?_|refine gG ?_|show AK _;intro K H|refine H _ _ ?_;clear H K|refine gJ ?_;try exact trivial|omega
 simp only [rng,Bool.or_eq_true,decide_eq_true_eq];exact .refl _
theorem pure147 (n:Int):Pure Tryz.prog 166 [.i .i64 n] (.i .i64 (rng n 0 99999)):=by
 refine zf (cF Tryz.func166 Tryz.f166.eq_1) (by simp) fun hw X hX=>?_
 repeat' first|refine gC (fun hc=>?_) (fun hc=>?_)<;>try contradiction|refine za (pure149 _ _ _) ?_|refine gG ?_|show AK _;intro K H|refine H _ _ ?_;clear H K|refine gJ ?_;try exact trivial|omega
 exact .refl _
theorem pure161 (m w:Int) (h0:0≤m) (h1:m < 128) (h2:0≤w) (h3:w < 7):Pure Tryz.prog 234 [.i .i64 m,.i .i64 w] (.b (inM m w)):=by
 refine zf (cF Tryz.func234 Tryz.f234.eq_1) (by simp) fun hw X hX=>?_
 repeat' first|refine gC (fun hc=>?_) (fun hc=>?_)<;>try contradiction|refine gG ?_|show AK _;intro K H|refine H _ _ ?_;clear H K|refine gJ ?_;try exact trivial|omega
 have:=bits_in m.toNat (by omega) w.toNat (by omega)
 simp only [Int.ofNat_eq_natCast,Int.toNat_of_nonneg h0,Int.toNat_of_nonneg h2] at this
 show Weak (.b (decide (bits .and .i64 (m.fdiv (2 ^ min w.toNat 64)) 1=1))) _
 rw [this];exact .refl _
theorem pure162 (d:Int) (h0:0≤d) (h1:d≤99999):Pure Tryz.prog 235 [.i .i64 d] (.i .i64 ((d+5) % 7)):=by
 refine zf (cF Tryz.func235 Tryz.f235.eq_1) (by simp) fun hw X hX=>?_
 repeat' first|refine gC (fun hc=>?_) (fun hc=>?_)<;>try contradiction|refine gG ?_|show AK _;intro K H|refine H _ _ ?_;clear H K|refine gJ ?_;try exact trivial|omega
 rw [Int.tmod_eq_emod_of_nonneg (by omega)]
 exact .refl _
theorem pure146 (l:List Int):Pure Tryz.prog 164 [.sl 1 (l.map (.i .i64))] (.i .i64 (zg l)):=by
 refine zf (cF Tryz.func164 Tryz.f164.eq_1) (by simp) fun hw X hX=>?_
 simp only [wfs,PV.wf,List.length_map,maxLen] at hw
 repeat' first|refine gC (fun hc=>?_) (fun hc=>?_)<;>try contradiction|refine gG ?_|show AK _;intro K H|refine H _ _ ?_;clear H K|refine gJ ?_;try exact trivial|omega
 refine zk (κ:=Nat) (fun i=>⟨[(5,.p (.sl 1 (l.map (.i .i64)))),(6,.p (.i .i64 l.length)),(7,.p (.i .i64 i))],[],[],false⟩) (fun i=>i≤l.length∧∀ x ∈ l.take i,x=0) (fun i=>l.length - i) 0 ?_ ?_ ?_
 ·exact sR
 ·simp
 ·intro i hi
  repeat first|refine gG ?_|show AK _;intro K H|refine H _ _ ?_;clear H K|refine gJ ?_;try exact trivial|omega
  (refine gC (fun hc=>?_) (fun hc=>?_)<;>try contradiction)
  ·obtain ⟨x,hx⟩:=zn (i:=i) (l:=l) (by omega)
   have qe:=@hx;repeat' first|refine gC (fun hc=>?_) (fun hc=>?_)<;>try contradiction|refine gG ?_|show AK _;intro K H|refine H _ _ ?_;clear H K|refine gJ ?_;try exact trivial|omega
   ·rw [zV hi.2 hx hc];exact .refl _
   ·exact ⟨i+1,⟨by omega,zaC hi.2 hx hc⟩,by omega,by simp⟩
  ·repeat' first|refine gC (fun hc=>?_) (fun hc=>?_)<;>try contradiction|refine gG ?_|show AK _;intro K H|refine H _ _ ?_;clear H K|refine gJ ?_;try exact trivial|omega
   have e:i=l.length:=by omega
   subst e
   rw [z4 hi.2];exact .refl _
theorem pure124 (p:Per):Pure Tryz.prog 165 [p.pv] (.i .i64 (zau p)):=by
 refine zf (cF Tryz.func165 Tryz.f165.eq_1) (by simp) fun hw X hX=>?_
 have qe:=@qR;repeat' first|refine gC (fun hc=>?_) (fun hc=>?_)<;>try contradiction|refine za (pure147 _) ?_|refine za (pure146 [_,_]) ?_|refine gG ?_|show AK _;intro K H|refine H _ _ ?_;clear H K|refine gJ ?_;try exact trivial|omega
 ·have:zau p=zg ([rng p.fro 0 99999,rng p.to 0 99999]++[if p.to < p.fro then 11 else 0,if 400 < p.to - p.fro then 4 else 0,rng p.days 1 127]):=rfl
  rw [this,firstE_app' hc];exact .refl _
 ·have h1:=hc
  simp only [zq,rng_0] at h1
  have qe:=@qR;repeat' first|refine gC (fun hc=>?_) (fun hc=>?_)<;>try contradiction|refine za (pure148 _ _) ?_|refine za (pure149 _ _ _) ?_|refine za (pure146 [_,_,_]) ?_|refine gG ?_|show AK _;intro K H|refine H _ _ ?_;clear H K|refine gJ ?_;try exact trivial|omega
  have:zau p=zg ([rng p.fro 0 99999,rng p.to 0 99999]++[if p.to < p.fro then 11 else 0,if 400 < p.to - p.fro then 4 else 0,rng p.days 1 127]):=rfl
  rw [this,firstE_app hc];exact .refl _
theorem pure156 (p:Per) (d:Int) (h0:0≤d) (h1:d≤99999) (h2:0≤p.days) (h3:p.days < 128):Pure Tryz.prog 167 [p.pv,.i .i64 d] (.b (hasD p d)):=by
 refine zf (cF Tryz.func167 Tryz.f167.eq_1) (by simp) fun hw X hX=>?_
 have qe:=@qR;repeat' first|refine gC (fun hc=>?_) (fun hc=>?_)<;>try contradiction|refine zN (fun _=>pure162 _ h0 h1) ?_|(show zj _ _ _ _ (⟨_,.call 234,_,_,_⟩::_) _ _;refine zbj (hf:=fun hc=>(by first|exact pure161 p.days ((d+5) % 7) h2 h3 (by omega) (by omega)|(simp only [qH,rng_0] at hc;exact pure161 p.days ((d+5) % 7) h2 h3 (by omega) (by omega)))) (hn:=?_))|refine gG ?_|show AK _;intro K H|refine H _ _ ?_;clear H K|refine gJ ?_;try exact trivial|omega
 all_goals exact .refl _
theorem take_snoc {α β:Type} {l:List α} {k:Nat} {d:α} (f:α→β) (h:l[k]?=some d):(l.take (k+1)).map f=(l.take k).map f++[f d]:=by
 rw [List.take_add_one,h];simp
theorem take_len {α:Type} {l:List α} {k:Nat} {d:α} (h:l[k]?=some d):(l.take k).length=k:=by
 have:=(List.getElem?_eq_some_iff.1 h).1
 simp;omega
theorem daysL_len (p:Per):(zY p).length≤(p.to - p.fro+1).toNat:=by
 unfold zY
 generalize (p.to - p.fro+1).toNat=n
 induction n with
 | zero=>simp
 | succ n ih=>rw [zab,List.length_append];split<;>simp only [List.length_cons,List.length_nil]<;>omega
set_option maxRecDepth 100000
set_option linter.unusedVariables false
set_option linter.unusedSimpArgs false
set_option maxHeartbeats 8000000
abbrev chAt (s:ByteArray) (i:Nat):Int:=((s[i]?.getD 0).toNat:Int)
def letCh (c:Int):Bool:=decide (65≤c) && decide (c≤90) || decide (97≤c) && decide (c≤122)
def nameCh (i:Nat) (c:Int):Bool:=letCh c || !(decide (i=0)) && (decide (c=95) || decide (48≤c) && decide (c≤57))
def isName (s:ByteArray):Bool:=!(decide (s.size=0) || decide (24 < s.size)) && (List.range s.size).all fun i=>nameCh i (chAt s i)
theorem isName_long {s:ByteArray} (h:(s.size:Int)=0∨24 < (s.size:Int)):isName s=false:=by
 have:(decide (s.size=0) || decide (24 < s.size))=true:=by simp only [Bool.or_eq_true,decide_eq_true_eq];omega
 simp only [isName,this,Bool.not_true,Bool.false_and]
theorem isName_yes {s:ByteArray} {i:Nat} (h:¬(s.size:Int)=0∧(s.size:Int)≤24) (hi:i≤s.size∧∀ j < i,nameCh j (chAt s j)=true) (he:¬i < s.size):isName s=true:=by
 have:(decide (s.size=0) || decide (24 < s.size))=false:=by simp only [Bool.or_eq_false_iff,decide_eq_false_iff_not];omega
 simp only [isName,this,Bool.not_false,Bool.true_and,List.all_eq_true,List.mem_range]
 exact fun j hj=>hi.2 j (by omega)
theorem isName_no {s:ByteArray} {i:Nat} (hi:i < s.size) (hn:nameCh i (chAt s i)=false):isName s=false:=by
 cases h:isName s
 ·rfl
 ·simp only [isName,Bool.and_eq_true,List.all_eq_true,List.mem_range] at h
  rw [h.2 i hi] at hn;exact hn
theorem dec_cases (s:ByteArray) (i:Nat) (h:i < s.size):((Utf8.decode s i).1:Int)=chAt s i∧chAt s i < 128∧(Utf8.decode s i).2=1∨128≤((Utf8.decode s i).1:Int)∧128≤chAt s i∧1≤(Utf8.decode s i).2:=by
 have e:chAt s i=((s[i]'h).toNat:Int):=by simp only [chAt,getElem?_pos s i h,Option.getD_some]
 by_cases ha:(s[i]'h).toNat < 128
 ·have:=decode_ascii s i h ha
  left;rw [this,e];simp;omega
 ·have:=decode_high s i h (by omega)
  right;rw [e];omega
theorem zbG (x:ByteArray):Pure Tryz.prog 172 [.s x] (.b (isName x)):=by
 refine zf (cF Tryz.func172 Tryz.f172.eq_1) (by simp) fun hw X hX=>?_
 simp only [wfs,PV.wf,maxLen] at hw
 repeat' first|refine gC (fun hc=>?_) (fun hc=>?_)<;>try contradiction|refine gG ?_|show AK _;intro K H|refine H _ _ ?_;clear H K|refine gJ ?_;try exact trivial|omega
 ·rw [isName_long hc];exact .refl _
 refine zk (κ:=Nat) (fun i=>⟨[(0,.p (.s x)),(15,.it 15)],[(15,.sit x i)],[],false⟩) (fun i=>i≤x.size∧∀ j < i,nameCh j (chAt x j)=true) (fun i=>x.size - i) 0 ?_ ?_ ?_
 ·exact sR
 ·simp
 ·intro i hi
  by_cases hlt:i < x.size
  ·have qe:=aI @nextV.eq_1 (aI @nextP.eq_1 (aI @hlt @maxLen.eq_1));repeat' first|refine gC (fun hc=>?_) (fun hc=>?_)<;>try contradiction|refine gG ?_|show AK _;intro K H|refine H _ _ ?_;clear H K|refine gJ ?_;try exact trivial|omega
   ·rw [isName_no hlt];exact .refl _
    have:=dec_cases x i hlt
    simp only [nameCh,letCh,chAt] at this ⊢;simp;omega
   ·have hd:=dec_cases x i hlt
    have h1:chAt x i < 128∧(Utf8.decode x i).2=1:=by omega
    refine ⟨i+1,⟨by omega,fun j hj=>?_⟩,by omega,by rw [h1.2]⟩
    by_cases e:j=i
    ·subst e;simp only [nameCh,letCh,chAt] at hd h1 ⊢;simp;omega
    ·exact hi.2 j (by omega)
  ·have qe:=aI @nextV.eq_1 (aI @nextP.eq_1 (aI @hlt @maxLen.eq_1));repeat' first|refine gC (fun hc=>?_) (fun hc=>?_)<;>try contradiction|refine gG ?_|show AK _;intro K H|refine H _ _ ?_;clear H K|refine gJ ?_;try exact trivial|omega
   rw [isName_yes ‹_› hi (by omega)];exact .refl _
end Go.Proofs.YtahmdjadnlpjoaaGreat
