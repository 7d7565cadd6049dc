/- Contracts of functions, for the claim. No conditions. -/
import Derived.Test.YtijgimeokgbifaaGreatK8
import Derived.Test.YtijgimeokgbifaaGreatK10
set_option linter.all false
set_option maxHeartbeats 8000000
set_option maxRecDepth 100000
namespace Go.Proofs.YtijgimeokgbifaaGreat
open Go.RowKit
section
variable {f:Nat} {c:Mov->Mov->Int}
theorem zvU (f:Nat) {D D':List Mov} {N:Nat} (P X Y S:List Mov) (hN:D.length=N) (hD:D=P++(X++(Y++S))) (hD':D'=P++(Y++(X++S))) (hX:0 < X.length) (hY:0 < Y.length) (a m b:Int) (ha:a=(P.length:Nat)) (hm:m=(P.length+X.length:Nat)) (hb:b=(P.length+X.length+Y.length:Nat)) (hn:N<=1000000) :
  Acts Tryz.prog 285 [.row 900 N,.p (.i .i64 a),.p (.i .i64 m),.p (.i .i64 b),.p (.fn (.func f) [] [])] [(900,.row 140 7 (D.map Mov.pv) false)] (.p (.tup [])) [(900,.row 140 7 (D'.map Mov.pv) false)]:=by
 subst ha hm hb
 have hlen:N=P.length+(X.length+(Y.length+S.length)):=by rw [<-hN,hD];simp
 have hlen':D'.length=N:=by rw [hD',hlen];simp;omega
 refine zR (cF Tryz.func285 Tryz.f285.eq_1) (by simp) (by simp [scPs,scP,zk,hN]) (by simp [scObj]) ⟨rfl,trivial⟩ (by simp [scObj]) (by simp [zc2,zk,hN,hlen']) λX1 hX1=>?_
 unfold zD ghO
 have qe:=aI qR @gLV.eq_2;repeat' first|refine gC ?_ ?_<;>intro hc<;>try contradiction|refine gG ?_|show AK _;intro K H|refine H _ _ ?_;clear H K|refine gJ ?_;try exact trivial|omega
 refine zj (κ:=List Mov × List Mov × List Mov × List Mov) (λk=>⟨[(0,.row 900 N),(2,.p (.i .i64 (P.length+X.length:Nat))),(4,.p (.fn (.func f) [] [])),(10,.p (.i .i64 (k.2.1.length:Nat))),(11,.p (.i .i64 (k.2.2.1.length:Nat))),(1000900,.row 900 N)],[(900,.row 140 7 ((k.1++(k.2.1++(k.2.2.1++k.2.2.2))).map Mov.pv) false)],[],false⟩)
  (λk=>k.1.length+k.2.1.length=P.length+X.length/\k.1++(k.2.2.1++(k.2.1++k.2.2.2))=D'/\0 < k.2.1.length/\0 < k.2.2.1.length) (λk=>k.2.1.length+k.2.2.1.length) (P,X,Y,S) ?_ ?_ ?_
 ·simp only [qS,seval,gLV.eq_2]<;>simp [<-hD,hN]<;>omega
 ·exact ⟨rfl,hD'.symm,hX,hY⟩
 ·intro k hk
  obtain ⟨P',X',Y',S'⟩:=k
  simp only at hk
  obtain ⟨k1,k2,k3,k4⟩:=hk
  have hE:(P'++(X'++(Y'++S'))).length=N:=by
   have:=congrArg List.length k2
   rw [hlen'] at this
   simp only [List.length_append] at this ⊢;omega
  have hE2:P'.length+(X'.length+(Y'.length+S'.length))=N:=by
   simpa only [List.length_append] using hE
  by_cases h1:X'.length=Y'.length
  ·have h1':((X'.length:Int)=Y'.length)=True:=eq_true (by omega)
   have h2':((Y'.length:Int)=X'.length)=True:=eq_true (by omega)
   have qe:=aI qR (aI @hE (aI @h1' (aI @h2' (aI @qN (aI @rtN @rtR)))));repeat' first|refine gC ?_ ?_<;>intro hc<;>try contradiction|refine zl [] (zjX f (D':=D') P' X' [] Y' S' hE (by simp) (by rw [<-k2];simp) h1 (((P.length+X.length:Nat):Int) - (X'.length:Nat)) ((P.length+X.length:Nat):Int) (X'.length:Nat) (by omega) (by simp;omega) rfl hn) ?_|refine gG ?_|show AK _;intro K H|refine H _ _ ?_;clear H K|refine gJ ?_;try exact trivial|omega
   all_goals first|exact .inl (.mk0 (h2:=by simp only [qS,seval,keepG.eq_1,keepG.eq_2,gLV.eq_2]<;>simp [hN]))|skip
  ·have h1':((X'.length:Int)=Y'.length)=False:=eq_false (by omega)
   by_cases h2:Y'.length < X'.length
   ·have h2':((Y'.length:Int) < X'.length)=True:=eq_true (by omega)
    have hl:(X'.take Y'.length).length=Y'.length:=by simp;omega
    have hl2:(X'.drop Y'.length).length=X'.length - Y'.length:=by simp
    have qe:=aI qR (aI @hE (aI @h1' (aI @h2' (aI @qN (aI @rtN @rtR)))));repeat' first|refine gC ?_ ?_<;>intro hc<;>try contradiction|refine zl [] (zjX f (D':=P'++(Y'++(X'.drop Y'.length++(X'.take Y'.length++S')))) P' (X'.take Y'.length) (X'.drop Y'.length) Y' S' hE (by rw [<-List.append_assoc (X'.take _),List.take_append_drop]) rfl hl (((P.length+X.length:Nat):Int) - (X'.length:Nat)) ((P.length+X.length:Nat):Int) (Y'.length:Nat) (by omega) (by simp only [hl,hl2]<;>omega) (by simp only [hl]) hn) ?_|refine gG ?_|show AK _;intro K H|refine H _ _ ?_;clear H K|refine gJ ?_;try exact trivial|omega
    refine ⟨(P'++Y',X'.drop Y'.length,X'.take Y'.length,S'),⟨?_,?_,?_,?_⟩,?_,?_⟩
    ·simp only [List.length_append,hl2];omega
    ·show (P'++Y')++(X'.take Y'.length++(X'.drop Y'.length++S'))=D'
     rw [<-k2,<-List.append_assoc (X'.take _),List.take_append_drop,List.append_assoc]
    ·simp only [hl2];omega
    ·simp only [hl];omega
    ·simp only [hl,hl2];omega
    ·refine ⟨⟨?_,?_⟩,?_,?_⟩
     ·simp only [LV.p.injEq,PV.i.injEq,true_and,hl,hl2]<;>omega
     ·simp only [LV.p.injEq,PV.i.injEq,true_and,hl,hl2]<;>omega
     ·simp only [List.append_assoc]
     ·simp only [List.length_append,hl,hl2];omega
   ·have h2':((Y'.length:Int) < X'.length)=False:=eq_false (by omega)
    have hl:(Y'.drop (Y'.length - X'.length)).length=X'.length:=by simp;omega
    have hl2:(Y'.take (Y'.length - X'.length)).length=Y'.length - X'.length:=by simp
    have qe:=aI qR (aI @hE (aI @h1' (aI @h2' (aI @qN (aI @rtN @rtR)))));repeat' first|refine gC ?_ ?_<;>intro hc<;>try contradiction|refine zl [] (zjX f (D':=P'++(Y'.drop (Y'.length - X'.length)++(Y'.take (Y'.length - X'.length)++(X'++S')))) P' X' (Y'.take (Y'.length - X'.length)) (Y'.drop (Y'.length - X'.length)) S' hE (by rw [<-List.append_assoc (Y'.take _),List.take_append_drop]) rfl hl.symm (((P.length+X.length:Nat):Int) - (X'.length:Nat)) (((P.length+X.length:Nat):Int)+(Y'.length:Nat) - (X'.length:Nat)) (X'.length:Nat) (by omega) (by simp only [hl2]<;>omega) rfl hn) ?_|refine gG ?_|show AK _;intro K H|refine H _ _ ?_;clear H K|refine gJ ?_;try exact trivial|omega
    refine ⟨(P',Y'.drop (Y'.length - X'.length),Y'.take (Y'.length - X'.length),X'++S'),⟨?_,?_,?_,?_⟩,?_,?_⟩
    ·simp only [hl];omega
    ·show P'++(Y'.take (Y'.length - X'.length)++(Y'.drop (Y'.length - X'.length)++(X'++S')))=D'
     rw [<-k2,<-List.append_assoc (Y'.take _),List.take_append_drop]
    ·simp only [hl];omega
    ·simp only [hl2];omega
    ·simp only [hl,hl2];omega
    ·refine ⟨⟨?_,?_⟩,?_,?_⟩
     ·simp only [LV.p.injEq,PV.i.injEq,true_and,hl,hl2]<;>omega
     ·simp only [LV.p.injEq,PV.i.injEq,true_and,hl,hl2]<;>omega
     ·simp only [List.append_assoc]
     ·simp only [List.length_append,hl,hl2];omega
end
section
variable {α:Type}
def zbA (bef:α->α->Bool) (x:α) (out:List α):Nat->Nat
 | 0=>0
 | n+1=>match out[n]? with
  | some y=>if bef x y then zbA bef x out n else n+1
  | none=>n+1
def zg4 (bef:α->α->Bool) (out:List α) (x:α):List α:=out.take (zbA bef x out out.length)++x::out.drop (zbA bef x out out.length)
theorem zl0 (bef:α->α->Bool) (out:List α) (x:α):(zg4 bef out x).Perm (x::out):=by
 unfold zg4
 refine List.perm_middle.trans ?_
 rw [List.take_append_drop]
theorem zdd (bef:α->α->Bool):∀ (l out:List α),(l.foldl (zg4 bef) out).Perm (out++l)
 | [],out=>by simp
 | x::l,out=>by
  refine (zdd bef l (zg4 bef out x)).trans ?_
  refine ((zl0 bef out x).append_right l).trans ?_
  simpa using (List.perm_middle (a:=x) (l₁:=out) (l₂:=l)).symm
def zjT (c:α->α->Int) (x y:α):Bool:=decide (c x y < 0)
def zfC (c:α->α->Int) (L:List α) (k:Nat):List α:=(L.take k).foldl (zg4 (zjT c)) []
def zbL (c:α->α->Int) (L:List α):List α:=L.foldl (zg4 (zjT c)) []
theorem zdq {c:α->α->Int} {L:List α} {k:Nat} (h:k<=L.length):(zfC c L k).length=k:=by
 have:=(zdd (zjT c) (L.take k) []).length_eq
 rw [zfC,this];simp;omega
theorem zn4 {c:α->α->Int} {L:List α} {k:Nat} {x:α} (h:L[k]?=some x):zfC c L (k+1)=zg4 (zjT c) (zfC c L k) x:=by
 rw [zfC,List.take_add_one,h,List.foldl_append];rfl
theorem zG (c:α->α->Int) (L:List α):(zbL c L).length=L.length:=by
 have:=(zdd (zjT c) L []).length_eq
 rw [zbL,this];simp
def zd0 (c:α->α->Int) (L:List α) (k:Nat):List α:=zfC c L k++L.drop k
theorem zbV {c:α->α->Int} {L:List α} {k:Nat} (h:k<=L.length\/k=1):(zd0 c L k).length=L.length:=by
 rcases L with _|⟨x,r⟩
 ·rcases h with h|h<;>(try simp at h)<;>subst h<;>simp [zd0,zfC]
 ·rw [zd0,List.length_append,zdq (by rcases h with h|h<;>simp at *<;>omega),List.length_drop]
  rcases h with h|h<;>simp at *<;>omega
theorem zoN (c:α->α->Int) (L:List α):zd0 c L 1=L:=by
 rcases L with _|⟨x,r⟩<;>simp [zd0,zfC,zg4,zbA]
theorem zif (c:α->α->Int) (L:List α) {k:Nat} (h:L.length<=k):zd0 c L k=zbL c L:=by
 rw [zd0,zfC,List.take_of_length_le h,List.drop_eq_nil_of_le h,List.append_nil];rfl
def djP (out:List α) (x:α) (rest:List α) (j:Nat):List α:=out.take j++x::(out.drop j++rest)
theorem zhd {out:List α} {x:α} {rest:List α} {j:Nat} (h:j<=out.length):(djP out x rest j).length=out.length+1+rest.length:=by
 simp [djP];omega
theorem zic {c:α->α->Int} {L:List α} {i:Nat} {x:α} (h:L[i]?=some x):djP (zfC c L i) x (L.drop (i+1)) i=zd0 c L i:=by
 have hi:=(List.getElem?_eq_some_iff.1 h).1
 have hl:=zdq (c:=c) (L:=L) (k:=i) (by omega)
 rw [djP,zd0,List.take_of_length_le (by omega),List.drop_eq_nil_of_le (by omega),List.nil_append,List.drop_eq_getElem_cons hi,(List.getElem?_eq_some_iff.1 h).2]
theorem zeA {c:α->α->Int} {L:List α} {i j:Nat} {x:α} (h:L[i]?=some x) (hj:j=zbA (zjT c) x (zfC c L i) i):djP (zfC c L i) x (L.drop (i+1)) j=zd0 c L (i+1):=by
 have hi:=(List.getElem?_eq_some_iff.1 h).1
 rw [zd0,zn4 h,zg4,zdq (by omega),<-hj,djP];simp
theorem zs0 {out:List α} {x y:α} {rest:List α} {j:Nat} (h:out[j]?=some y):(djP out x rest (j+1))[j]?=some y/\(djP out x rest (j+1))[j+1]?=some x:=by
 have hj:=(List.getElem?_eq_some_iff.1 h).1
 have hl:(out.take j).length=j:=by simp;omega
 rw [djP,List.take_add_one,h,List.append_assoc]
 refine ⟨?_,?_⟩
 ·rw [List.getElem?_append_right (by omega),hl];simp
 ·rw [List.getElem?_append_right (by omega),hl];simp
theorem zkR {out:List α} {x y:α} {rest:List α} {j:Nat} (h:out[j]?=some y):((djP out x rest (j+1)).set (j+1) y).set j x=djP out x rest j:=by
 have hj:=(List.getElem?_eq_some_iff.1 h).1
 have hl:(out.take j).length=j:=by simp;omega
 have hd:out.drop j=y::out.drop (j+1):=by rw [List.drop_eq_getElem_cons hj,(List.getElem?_eq_some_iff.1 h).2]
 rw [djP,djP,List.take_add_one,h,hd,List.append_assoc,List.set_append_right _ _ (by omega),hl,List.set_append_right _ _ (by omega),hl]
 simp
theorem zf9 {c:α->α->Int} {x:α} {out:List α} {q:Nat} {y:α} (hy:out[q]?=some y) (hb:¬c x y < 0):zbA (zjT c) x out (q+1)=q+1:=by
 simp only [zbA,hy];rw [if_neg (by simp [zjT];omega)]
theorem zkL {c:α->α->Int} {x:α} {out:List α} {q:Nat} {y:α} (hy:out[q]?=some y) (hb:c x y < 0):zbA (zjT c) x out (q+1)=zbA (zjT c) x out q:=by
 simp only [zbA,hy];rw [if_pos (by simp [zjT];omega)]
end
theorem zsp {f:Nat} {c:Lea->Lea->Int} (hf:∀ a b:Lea,Pure Tryz.prog f [a.pv,b.pv] (.i .i64 (c a b))) (L:List Lea) (b:Int) (hb:b=L.length) (hn:L.length<=1000000):Acts Tryz.prog 259 [.row 900 L.length,.p (.i .i64 0),.p (.i .i64 b),.p (.fn (.func f) [] [])] [(900,.row 91 3 (L.map Lea.pv) false)] (.p (.tup [])) [(900,.row 91 3 ((zbL c L).map Lea.pv) false)]:=by
 subst hb
 refine zR (cF Tryz.func259 Tryz.f259.eq_1) (by simp) (by simp [scPs,scP,zk]) (by simp [scObj]) ⟨rfl,trivial⟩ (by simp [scObj]) (by simp [zc2,zk,zG]) λX hX=>?_
 unfold zD ghO
 have qe:=aI qR @gLV.eq_2;repeat' first|refine gC ?_ ?_<;>intro hc<;>try contradiction|refine gG ?_|show AK _;intro K H|refine H _ _ ?_;clear H K|refine gJ ?_;try exact trivial|omega
 refine zj (κ:=Nat) (λi=>⟨[(0,.row 900 L.length),(1,.p (.i .i64 0)),(2,.p (.i .i64 L.length)),(3,.p (.fn (.func f) [] [])),(8,.p (.i .i64 i)),(1000900,.row 900 L.length)],[(900,.row 91 3 ((zd0 c L i).map Lea.pv) false)],[],false⟩) (λi=>1<=i/\(i<=L.length\/i=1)) (λi=>L.length - i) 1 ?_ ?_ ?_
 ·simp only [qS,seval,gLV.eq_2]<;>simp [zoN]
 ·simp
 ·intro i hi
  have hdl:=zbV (c:=c) hi.2
  by_cases hlt:i < L.length
  ·obtain ⟨x,hx⟩:=zm (i:=i) (l:=L) hlt
   have qe:=aI qR @hdl;repeat' first|refine gC ?_ ?_<;>intro hc<;>try contradiction|refine gG ?_|show AK _;intro K H|refine H _ _ ?_;clear H K|refine gJ ?_;try exact trivial|omega
   have hol:=zdq (c:=c) (L:=L) (k:=i) (by omega)
   refine zj (κ:=Nat) (λj=>⟨[(0,.row 900 L.length),(1,.p (.i .i64 0)),(2,.p (.i .i64 L.length)),(3,.p (.fn (.func f) [] [])),(8,.p (.i .i64 i)),(9,.p (.i .i64 j)),(1000900,.row 900 L.length)],[(900,.row 91 3 ((djP (zfC c L i) x (L.drop (i+1)) j).map Lea.pv) false)],[],false⟩) (λj=>j<=i/\zbA (zjT c) x (zfC c L i) j=zbA (zjT c) x (zfC c L i) i) (λj=>j) i ?_ ?_ ?_
   ·refine gJ ?_;simp [zic hx,hdl]
   ·simp
   ·intro j hj
    have hjl:(djP (zfC c L i) x (L.drop (i+1)) j).length=L.length:=by rw [zhd (by omega),hol,List.length_drop];omega
    cases j with
    | zero=>
     have i0:(0 < ((0:Nat):Int))=False:=eq_false (by omega)
     have qe:=aI qR (aI @i0 (aI @hjl (aI @rtN @rtR)));repeat' first|refine gC ?_ ?_<;>intro hc<;>try contradiction|(show zi _ _ _ _ (⟨_,.callv,_,_,_⟩::_) _ _;refine zbi (q:=(.i .i64 0)) (by first|rfl|(simp (disch:=omega) only [qG,qe,seval]<;>rfl)) ?_;(try (refine zE ?_)))|refine gG ?_|show AK _;intro K H|refine H _ _ ?_;clear H K|refine gJ ?_;try exact trivial|omega
     exact ⟨i+1,by omega,by omega,by simp,by rw [zeA (j:=0) hx hj.2],by rw [zbV (by omega)];exact Nat.le_refl _⟩
    | succ j=>
     have i0:(0 < ((j+1:Nat):Int))=True:=eq_true (by omega)
     have i1:((j+1:Nat):Int) - 1=(j:Int):=by omega
     obtain ⟨y,hy⟩:=zm (i:=j) (l:=zfC c L i) (by omega)
     obtain ⟨h1,h2⟩:=zs0 (x:=x) (rest:=L.drop (i+1)) hy
     by_cases hc:c x y < 0
     ·have hc':=eq_true hc
      have h3:=zkL hy hc
      have qe:=aI qR (aI @i0 (aI @i1 (aI @h1 (aI @h2 (aI @hjl (aI @hc' (aI @rtN @rtR)))))));repeat' first|refine gC ?_ ?_<;>intro hc<;>try contradiction|refine zq (hf x y) ?_|refine gG ?_|show AK _;intro K H|refine H _ _ ?_;clear H K|refine gJ ?_;try exact trivial|omega
      exact ⟨j,⟨by omega,by rw [<-h3];exact hj.2⟩,by omega,rfl,by rw [<-zkR hy,List.map_set,List.map_set],by rw [zhd (by omega),hol,List.length_drop];omega⟩
     ·have hc':=eq_false hc
      have h3:=zf9 hy hc
      have qe:=aI qR (aI @i0 (aI @i1 (aI @h1 (aI @h2 (aI @hjl (aI @hc' (aI @rtN @rtR)))))));repeat' first|refine gC ?_ ?_<;>intro hc<;>try contradiction|refine zq (hf x y) ?_|refine gG ?_|show AK _;intro K H|refine H _ _ ?_;clear H K|refine gJ ?_;try exact trivial|omega
      exact ⟨i+1,by omega,by omega,by simp,by rw [zeA hx (h3.symm.trans hj.2)],by rw [zbV (by omega)];exact Nat.le_refl _⟩
  ·have qe:=aI qR (aI @hdl (aI @rtN @rtR));repeat' first|refine gC ?_ ?_<;>intro hc<;>try contradiction|refine gG ?_|show AK _;intro K H|refine H _ _ ?_;clear H K|refine gJ ?_;try exact trivial|omega
   rw [zif c L (by omega)]
   exact .inl (.mk0 (h2:=by simp only [qS,seval,keepG.eq_1,keepG.eq_2,gLV.eq_2]<;>simp))
theorem zsq {f:Nat} {c:Wsh->Wsh->Int} (hf:∀ a b:Wsh,Pure Tryz.prog f [a.pv,b.pv] (.i .i64 (c a b))) (L:List Wsh) (b:Int) (hb:b=L.length) (hn:L.length<=1000000):Acts Tryz.prog 242 [.row 900 L.length,.p (.i .i64 0),.p (.i .i64 b),.p (.fn (.func f) [] [])] [(900,.row 73 14 (L.map Wsh.pv) false)] (.p (.tup [])) [(900,.row 73 14 ((zbL c L).map Wsh.pv) false)]:=by
 subst hb
 refine zR (cF Tryz.func242 Tryz.f242.eq_1) (by simp) (by simp [scPs,scP,zk]) (by simp [scObj]) ⟨rfl,trivial⟩ (by simp [scObj]) (by simp [zc2,zk,zG]) λX hX=>?_
 unfold zD ghO
 have qe:=aI qR @gLV.eq_2;repeat' first|refine gC ?_ ?_<;>intro hc<;>try contradiction|refine gG ?_|show AK _;intro K H|refine H _ _ ?_;clear H K|refine gJ ?_;try exact trivial|omega
 refine zj (κ:=Nat) (λi=>⟨[(0,.row 900 L.length),(1,.p (.i .i64 0)),(2,.p (.i .i64 L.length)),(3,.p (.fn (.func f) [] [])),(8,.p (.i .i64 i)),(1000900,.row 900 L.length)],[(900,.row 73 14 ((zd0 c L i).map Wsh.pv) false)],[],false⟩) (λi=>1<=i/\(i<=L.length\/i=1)) (λi=>L.length - i) 1 ?_ ?_ ?_
 ·simp only [qS,seval,gLV.eq_2]<;>simp [zoN]
 ·simp
 ·intro i hi
  have hdl:=zbV (c:=c) hi.2
  by_cases hlt:i < L.length
  ·obtain ⟨x,hx⟩:=zm (i:=i) (l:=L) hlt
   have qe:=aI qR @hdl;repeat' first|refine gC ?_ ?_<;>intro hc<;>try contradiction|refine gG ?_|show AK _;intro K H|refine H _ _ ?_;clear H K|refine gJ ?_;try exact trivial|omega
   have hol:=zdq (c:=c) (L:=L) (k:=i) (by omega)
   refine zj (κ:=Nat) (λj=>⟨[(0,.row 900 L.length),(1,.p (.i .i64 0)),(2,.p (.i .i64 L.length)),(3,.p (.fn (.func f) [] [])),(8,.p (.i .i64 i)),(9,.p (.i .i64 j)),(1000900,.row 900 L.length)],[(900,.row 73 14 ((djP (zfC c L i) x (L.drop (i+1)) j).map Wsh.pv) false)],[],false⟩) (λj=>j<=i/\zbA (zjT c) x (zfC c L i) j=zbA (zjT c) x (zfC c L i) i) (λj=>j) i ?_ ?_ ?_
   ·refine gJ ?_;simp [zic hx,hdl]
   ·simp
   ·intro j hj
    have hjl:(djP (zfC c L i) x (L.drop (i+1)) j).length=L.length:=by rw [zhd (by omega),hol,List.length_drop];omega
    cases j with
    | zero=>
     have i0:(0 < ((0:Nat):Int))=False:=eq_false (by omega)
     have qe:=aI qR (aI @i0 (aI @hjl (aI @rtN @rtR)));repeat' first|refine gC ?_ ?_<;>intro hc<;>try contradiction|(show zi _ _ _ _ (⟨_,.callv,_,_,_⟩::_) _ _;refine zbi (q:=(.i .i64 0)) (by first|rfl|(simp (disch:=omega) only [qG,qe,seval]<;>rfl)) ?_;(try (refine zE ?_)))|refine gG ?_|show AK _;intro K H|refine H _ _ ?_;clear H K|refine gJ ?_;try exact trivial|omega
     exact ⟨i+1,by omega,by omega,by simp,by rw [zeA (j:=0) hx hj.2],by rw [zbV (by omega)];exact Nat.le_refl _⟩
    | succ j=>
     have i0:(0 < ((j+1:Nat):Int))=True:=eq_true (by omega)
     have i1:((j+1:Nat):Int) - 1=(j:Int):=by omega
     obtain ⟨y,hy⟩:=zm (i:=j) (l:=zfC c L i) (by omega)
     obtain ⟨h1,h2⟩:=zs0 (x:=x) (rest:=L.drop (i+1)) hy
     by_cases hc:c x y < 0
     ·have hc':=eq_true hc
      have h3:=zkL hy hc
      have qe:=aI qR (aI @i0 (aI @i1 (aI @h1 (aI @h2 (aI @hjl (aI @hc' (aI @rtN @rtR)))))));repeat' first|refine gC ?_ ?_<;>intro hc<;>try contradiction|refine zq (hf x y) ?_|refine gG ?_|show AK _;intro K H|refine H _ _ ?_;clear H K|refine gJ ?_;try exact trivial|omega
      exact ⟨j,⟨by omega,by rw [<-h3];exact hj.2⟩,by omega,rfl,by rw [<-zkR hy,List.map_set,List.map_set],by rw [zhd (by omega),hol,List.length_drop];omega⟩
     ·have hc':=eq_false hc
      have h3:=zf9 hy hc
      have qe:=aI qR (aI @i0 (aI @i1 (aI @h1 (aI @h2 (aI @hjl (aI @hc' (aI @rtN @rtR)))))));repeat' first|refine gC ?_ ?_<;>intro hc<;>try contradiction|refine zq (hf x y) ?_|refine gG ?_|show AK _;intro K H|refine H _ _ ?_;clear H K|refine gJ ?_;try exact trivial|omega
      exact ⟨i+1,by omega,by omega,by simp,by rw [zeA hx (h3.symm.trans hj.2)],by rw [zbV (by omega)];exact Nat.le_refl _⟩
  ·have qe:=aI qR (aI @hdl (aI @rtN @rtR));repeat' first|refine gC ?_ ?_<;>intro hc<;>try contradiction|refine gG ?_|show AK _;intro K H|refine H _ _ ?_;clear H K|refine gJ ?_;try exact trivial|omega
   rw [zif c L (by omega)]
   exact .inl (.mk0 (h2:=by simp only [qS,seval,keepG.eq_1,keepG.eq_2,gLV.eq_2]<;>simp))
theorem zqz (n:Int) (h0:0<=n) (h1:n < 256):Pure Tryz.prog 251 [.i .u64 n] .any:=by
 refine zf (cF Tryz.func251 Tryz.f251.eq_1) (by simp) λhw X hX=>?_
 have hw8:IntKind.u8.wrap n=n:=by simp [IntKind.wrap,IntKind.bits,IntKind.signed];omega
 repeat' first|refine gC ?_ ?_<;>intro hc<;>try contradiction|refine gG ?_|show AK _;intro K H|refine H _ _ ?_;clear H K|refine gJ ?_;try exact trivial|omega
 refine ⟨⟨by rw [hw8];exact h0,by rw [hw8];exact Int.lt_of_lt_of_le h1 (by decide +kernel)⟩,?_⟩
 repeat' first|refine gC ?_ ?_<;>intro hc<;>try contradiction|refine gG ?_|show AK _;intro K H|refine H _ _ ?_;clear H K|refine gJ ?_;try exact trivial|omega
 exact .any _
theorem zkg (n:Int) (h0:0<=n) (h1:n < 256):Pure Tryz.prog 193 [.i .u64 n] .any:=by
 refine zf (cF Tryz.func193 Tryz.f193.eq_1) (by simp) λhw X hX=>?_
 repeat' first|refine gC ?_ ?_<;>intro hc<;>try contradiction|refine za (zqz n h0 h1) ?_|refine gG ?_|show AK _;intro K H|refine H _ _ ?_;clear H K|refine gJ ?_;try exact trivial|omega
 exact .refl _
theorem zss {f:Nat} {c:Lea->Lea->Int} (hf:∀ a b:Lea,Pure Tryz.prog f [a.pv,b.pv] (.i .i64 (c a b))) (L:List Lea) (v:PV) (hn:L.length<=12):Acts Tryz.prog 215 [.row 900 L.length,.p (.i .i64 0),.p (.i .i64 L.length),.p v,.p (.fn (.func f) [] [])] [(900,.row 91 3 (L.map Lea.pv) false)] (.p (.tup [])) [(900,.row 91 3 ((zbL c L).map Lea.pv) false)]:=by
 have hsl:=zG c L
 refine zR (cF Tryz.func215 Tryz.f215.eq_1) (by simp) (by simp [scPs,scP,zk]) (by simp [scObj]) ⟨rfl,trivial⟩ (by simp [scObj]) (by simp [zc2,zk,zG]) λX hX=>?_
 unfold zD ghO
 have qe:=aI qR @gLV.eq_2;repeat' first|refine gC ?_ ?_<;>intro hc<;>try contradiction|refine gG ?_|show AK _;intro K H|refine H _ _ ?_;clear H K|refine gJ ?_;try exact trivial|omega
 refine zj (κ:=Unit) (λ_=>⟨[(0,.row 900 L.length),(1,.p (.i .i64 0)),(2,.p (.i .i64 L.length)),(4,.p (.fn (.func f) [] [])),(1000900,.row 900 L.length)],[(900,.row 91 3 (L.map Lea.pv) false)],[],false⟩) (λ_=>True) (λ_=>0) () ?_ ?_ ?_
 ·simp only [qS,seval,gLV.eq_2]<;>simp
 ·trivial
 ·intro _ _
  have hle:((L.length:Int) - 0<=12)=True:=eq_true (by omega)
  have hle2:((L.length:Int)<=12)=True:=eq_true (by omega)
  have qe:=aI qR (aI @qN (aI @hle (aI @hle2 (aI @Int.sub_zero (aI @rtN (aI @rtR (aI @zG (@List.length_map.{0,0}))))))));repeat' first|refine gC ?_ ?_<;>intro hc<;>try contradiction|refine zl [(900,900)] (zsp hf L L.length rfl (by omega)) ?_|refine gG ?_|show AK _;intro K H|refine H _ _ ?_;clear H K|refine gJ ?_;try exact trivial|omega
  exact .inl (.mk0 (h2:=by simp only [qS,seval,keepG.eq_1,keepG.eq_2,gLV.eq_2]<;>simp))
theorem zsx {f:Nat} {c:Lea->Lea->Int} (hf:∀ a b:Lea,Pure Tryz.prog f [a.pv,b.pv] (.i .i64 (c a b))) (L:List Lea) (hn:L.length<=12):Acts Tryz.prog 142 [.row 900 L.length,.p (.fn (.func f) [] [])] [(900,.row 91 3 (L.map Lea.pv) false)] (.p (.tup [])) [(900,.row 91 3 ((zbL c L).map Lea.pv) false)]:=by
 have hsl:=zG c L
 refine zR (cF Tryz.func142 Tryz.f142.eq_1) (by simp) (by simp [scPs,scP,zk]) (by simp [scObj]) ⟨rfl,trivial⟩ (by simp [scObj]) (by simp [zc2,zk,zG]) λX hX=>?_
 unfold zD ghO
 have hw:IntKind.u64.wrap (L.length:Int)=L.length:=by simp [IntKind.wrap,IntKind.bits,IntKind.signed];omega
 have qe:=aI qR (aI @qN (aI @hw (aI @gLV.eq_2 (aI @rtN (aI @rtR (aI @zG (@List.length_map.{0,0})))))));repeat' first|refine gC ?_ ?_<;>intro hc<;>try contradiction|refine za (zkg L.length (by omega) (by omega)) ?_|refine zl [(900,900)] (zss hf L .any hn) ?_|refine gG ?_|show AK _;intro K H|refine H _ _ ?_;clear H K|refine gJ ?_;try exact trivial|omega
 exact .inl (.mk0 (h2:=by simp only [qS,seval,keepG.eq_1,keepG.eq_2,gLV.eq_2]<;>simp))
theorem zst {f:Nat} {c:Wsh->Wsh->Int} (hf:∀ a b:Wsh,Pure Tryz.prog f [a.pv,b.pv] (.i .i64 (c a b))) (L:List Wsh) (v:PV) (hn:L.length<=12):Acts Tryz.prog 192 [.row 900 L.length,.p (.i .i64 0),.p (.i .i64 L.length),.p v,.p (.fn (.func f) [] [])] [(900,.row 73 14 (L.map Wsh.pv) false)] (.p (.tup [])) [(900,.row 73 14 ((zbL c L).map Wsh.pv) false)]:=by
 have hsl:=zG c L
 refine zR (cF Tryz.func192 Tryz.f192.eq_1) (by simp) (by simp [scPs,scP,zk]) (by simp [scObj]) ⟨rfl,trivial⟩ (by simp [scObj]) (by simp [zc2,zk,zG]) λX hX=>?_
 unfold zD ghO
 have qe:=aI qR @gLV.eq_2;repeat' first|refine gC ?_ ?_<;>intro hc<;>try contradiction|refine gG ?_|show AK _;intro K H|refine H _ _ ?_;clear H K|refine gJ ?_;try exact trivial|omega
 refine zj (κ:=Unit) (λ_=>⟨[(0,.row 900 L.length),(1,.p (.i .i64 0)),(2,.p (.i .i64 L.length)),(4,.p (.fn (.func f) [] [])),(1000900,.row 900 L.length)],[(900,.row 73 14 (L.map Wsh.pv) false)],[],false⟩) (λ_=>True) (λ_=>0) () ?_ ?_ ?_
 ·simp only [qS,seval,gLV.eq_2]<;>simp
 ·trivial
 ·intro _ _
  have hle:((L.length:Int) - 0<=12)=True:=eq_true (by omega)
  have hle2:((L.length:Int)<=12)=True:=eq_true (by omega)
  have qe:=aI qR (aI @qN (aI @hle (aI @hle2 (aI @Int.sub_zero (aI @rtN (aI @rtR (aI @zG (@List.length_map.{0,0}))))))));repeat' first|refine gC ?_ ?_<;>intro hc<;>try contradiction|refine zl [(900,900)] (zsq hf L L.length rfl (by omega)) ?_|refine gG ?_|show AK _;intro K H|refine H _ _ ?_;clear H K|refine gJ ?_;try exact trivial|omega
  exact .inl (.mk0 (h2:=by simp only [qS,seval,keepG.eq_1,keepG.eq_2,gLV.eq_2]<;>simp))
theorem zsA {f:Nat} {c:Wsh->Wsh->Int} (hf:∀ a b:Wsh,Pure Tryz.prog f [a.pv,b.pv] (.i .i64 (c a b))) (L:List Wsh) (hn:L.length<=12):Acts Tryz.prog 118 [.row 900 L.length,.p (.fn (.func f) [] [])] [(900,.row 73 14 (L.map Wsh.pv) false)] (.p (.tup [])) [(900,.row 73 14 ((zbL c L).map Wsh.pv) false)]:=by
 have hsl:=zG c L
 refine zR (cF Tryz.func118 Tryz.f118.eq_1) (by simp) (by simp [scPs,scP,zk]) (by simp [scObj]) ⟨rfl,trivial⟩ (by simp [scObj]) (by simp [zc2,zk,zG]) λX hX=>?_
 unfold zD ghO
 have hw:IntKind.u64.wrap (L.length:Int)=L.length:=by simp [IntKind.wrap,IntKind.bits,IntKind.signed];omega
 have qe:=aI qR (aI @qN (aI @hw (aI @gLV.eq_2 (aI @rtN (aI @rtR (aI @zG (@List.length_map.{0,0})))))));repeat' first|refine gC ?_ ?_<;>intro hc<;>try contradiction|refine za (zkg L.length (by omega) (by omega)) ?_|refine zl [(900,900)] (zst hf L .any hn) ?_|refine gG ?_|show AK _;intro K H|refine H _ _ ?_;clear H K|refine gJ ?_;try exact trivial|omega
 exact .inl (.mk0 (h2:=by simp only [qS,seval,keepG.eq_1,keepG.eq_2,gLV.eq_2]<;>simp))
end Go.Proofs.YtijgimeokgbifaaGreat
