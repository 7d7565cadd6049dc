/- Contracts of functions, for the claim. No conditions. -/
import Derived.KernelRfl
import Derived.Test.YtijgimeokgbifaaGreatChecked
import Derived.Test.YtijgimeokgbifaaGreatK2
set_option linter.all false
set_option maxHeartbeats 8000000
set_option maxRecDepth 100000
namespace Go.Proofs.YtijgimeokgbifaaGreat
open Go.RowKit
noncomputable abbrev qP:Program:=Tryz.prog
theorem qT:((((((zy qP 26=some true/\zy qP 30=some true)/\(zy qP 3=some false/\(zy qP 37=some true/\zy qP 34=some false)))/\((zy qP 35=some false/\zy qP 27=some false)/\(zy qP 28=some false/\(zy qP 9=some false/\zy qP 64=some true))))/\(((zy qP 67=some true/\zy qP 81=some true)/\(zy qP 82=some false/\(zy qP 38=some false/\zy qP 109=some true)))/\((zy qP 23=some false/\(zy qP 102=some true/\zy qP 100=some false))/\(zy qP 103=some true/\(zy qP 91=some true/\zy qP 84=some true)))))/\((((zy qP 24=some false/\zy qP 104=some true)/\(zy qP 73=some true/\(zy qP 107=some true/\zy qP 140=some true)))/\((zy qP 162=some false/\(zy qP 169=some true/\zy qP 93=some false))/\(zy qP 22=some false/\(zy qP 145=some true/\zy qP 164=some true))))/\(((zy qP 146=some false/\zy qP 233=some false)/\(zy qP 141=some false/\(zy qP 198=some false/\zy qP 258=some false)))/\((zy qP 170=some false/\(zy qP 297=some true/\zy qP 276=some true))/\(zy qP 4=some false/\(zy qP 221=some false/\zy qP 311=some false))))))/\(((((zZ qP 30=some 88/\zZ qP 84=some 216)/\(zZ qP 73=some 160/\(zZ qP 9=some 16/\zZ qP 3=some 8)))/\((zZ qP 81=some 32/\zZ qP 91=some 32)/\(zZ qP 140=some 80/\(zZ qP 109=some 112/\zZ qP 102=some 216))))/\(((zZ qP 103=some 32/\zZ qP 104=some 160)/\(zZ qP 107=some 112/\(zZ qP 145=some 24/\zZ qP 38=some 8)))/\((zZ qP 82=some 24/\(zZ qP 276=some 24/\(zbS qP 10 81=some [2,1,1]/\qP.eqGuardType qP.depth 81=false)))/\((zbS qP 10 104=some [2,2,2,2,2,2,1,1,1,1,1,1,1,1]/\qP.eqGuardType qP.depth 104=false)/\((zbS qP 10 67=some [2,2,2,2,2,2,1,1,1,1,1,1,1]/\qP.eqGuardType qP.depth 67=false)/\(zbS qP 10 103=some [2,1,1]/\qP.eqGuardType qP.depth 103=false))))))/\(((((zbS qP 10 91=some [2,1,1]/\qP.eqGuardType qP.depth 91=false)/\(zbS qP 10 145=some [1,1,1]/\qP.eqGuardType qP.depth 145=false))/\(zjl qP 9=some ([2],false)/\(zjl qP 297=some ([2,2],true)/\zA qP 64 [0,1,2]=some [(0,1),(1,1),(2,1)])))/\((zA qP 37 []=some []/\(zA qP 73 [0,1]=some [(0,13),(13,1)]/\zA qP 81 [0,1,2]=some [(0,1),(1,1),(2,1)]))/\(zA qP 91 [0,1,2]=some [(0,1),(1,1),(2,1)]/\(zA qP 84 [0,1,3]=some [(0,13),(13,1),(15,1)]/\zA qP 26 []=some []))))/\(((zA qP 104 [0,1]=some [(0,13),(13,1)]/\zA qP 103 [0,1,2]=some [(0,1),(1,1),(2,1)])/\(zA qP 102 [0,1,3]=some [(0,13),(13,1),(15,1)]/\(zA qP 67 [0,1,2,4,6,7,8,9]=some [(0,1),(1,1),(2,1),(4,1),(6,3),(9,1),(10,1),(11,1)]/\zA qP 109 [0,1,3,4,6,7,8]=some [(0,1),(1,1),(3,1),(4,1),(6,1),(7,3),(10,1)])))/\((zA qP 102 [0,1]=some [(0,13),(13,1)]/\(zA qP 26 [0,1]=some [(0,1),(1,1)]/\zA qP 67 [0,1,2,3,4,6,7,8,9,10]=some [(0,1),(1,1),(2,1),(3,1),(4,1),(6,3),(9,1),(10,1),(11,1),(12,1)]))/\(zA qP 26 [0]=some [(0,1)]/\(zA qP 84 [0,1]=some [(0,13),(13,1)]/\zA qP 164 [0,1,2]=some [(0,1),(1,1),(2,1)])))))))/\((((((zA qP 37 [0,1]=some [(0,1),(1,1)]/\zA qP 140 [0,1,2,3,4,5,6]=some [(0,1),(1,1),(2,1),(3,1),(4,1),(5,1),(6,1)])/\(zA qP 224 [0]=some [(0,1)]/\(zA qP 260 [0,1]=some [(0,1),(1,1)]/\zA qP 145 [0,1,2]=some [(0,1),(1,1),(2,1)])))/\((zA qP 297 [0,1]=some [(0,1),(1,1)]/\zA qP 276 [0,1,2]=some [(0,1),(1,1),(2,1)])/\(zA qP 145 [1]=some [(1,1)]/\(zA qP 145 [1,2]=some [(1,1),(2,1)]/\zX qP 26=some 2))))/\(((zX qP 30=some 5/\zX qP 37=some 2)/\(zX qP 3=some 1/\(zX qP 34=some 1/\zX qP 84=some 16)))/\((zX qP 35=some 1/\(zX qP 73=some 14/\zX qP 27=some 1))/\(zX qP 9=some 1/\(zX qP 28=some 1/\zX qP 64=some 3)))))/\((((zX qP 67=some 13/\zX qP 81=some 3)/\(zX qP 82=some 1/\(zX qP 91=some 3/\zX qP 140=some 7)))/\((zX qP 38=some 1/\(zX qP 109=some 11/\zX qP 23=some 1))/\(zX qP 102=some 16/\(zX qP 100=some 1/\zX qP 103=some 3))))/\(((zX qP 24=some 1/\zX qP 104=some 14)/\(zX qP 107=some 11/\(zX qP 145=some 3/\zX qP 164=some 3)))/\((zX qP 162=some 1/\(zX qP 169=some 5/\zX qP 93=some 1))/\(zX qP 22=some 1/\(zX qP 224=some 1/\zX qP 146=some 1))))))/\(((((zX qP 233=some 1/\zX qP 276=some 3)/\(zX qP 141=some 1/\(zX qP 258=some 1/\zX qP 198=some 1)))/\((zX qP 170=some 1/\zX qP 297=some 2)/\(zX qP 4=some 1/\(zX qP 311=some 1/\zX qP 221=some 1))))/\(((zz qP 37=some (.agg [.nilsl,.nilsl])/\zz qP 3=some (.i .i64 0))/\(zz qP 26=some (.agg [.nilsl,.nilsl])/\(zz qP 30=some (.agg [(.i .i64 0),(.s (bs [])),.nilsl,.nilsl,(.s (bs []))])/\zz qP 84=some (.agg [(.s (bs [])),(.s (bs [])),(.s (bs [])),(.s (bs [])),(.s (bs [])),(.s (bs [])),(.i .i64 0),(.i .i64 0),(.i .i64 0),(.i .i64 0),(.i .i64 0),(.i .i64 0),(.i .i64 0),(.s (bs [])),.nilsl,.nilsl]))))/\((zz qP 73=some (.agg [(.s (bs [])),(.s (bs [])),(.s (bs [])),(.s (bs [])),(.s (bs [])),(.s (bs [])),(.i .i64 0),(.i .i64 0),(.i .i64 0),(.i .i64 0),(.i .i64 0),(.i .i64 0),(.i .i64 0),(.i .i64 0)])/\(zz qP 9=some (.s (bs []))/\zz qP 64=some (.agg [(.i .i64 0),(.i .i64 0),(.i .i64 0)])))/\(zz qP 67=some (.agg [(.s (bs [])),(.s (bs [])),(.s (bs [])),(.s (bs [])),(.s (bs [])),(.s (bs [])),(.i .i64 0),(.i .i64 0),(.i .i64 0),(.i .i64 0),(.i .i64 0),(.i .i64 0),(.i .i64 0)])/\(zz qP 81=some (.agg [(.s (bs [])),(.i .i64 0),(.i .i64 0)])/\zz qP 91=some (.agg [(.s (bs [])),(.i .i64 0),(.i .i64 0)]))))))/\((((zz qP 140=some (.agg [(.i .i64 0),(.s (bs [])),(.s (bs [])),(.i .i64 0),(.i .i64 0),(.i .i64 0),(.s (bs []))])/\zz qP 38=some (.i .i64 0))/\(zz qP 109=some (.agg [(.s (bs [])),(.s (bs [])),(.s (bs [])),(.i .i64 0),(.i .i64 0),(.i .i64 0),(.i .i64 0),(.i .i64 0),(.i .i64 0),(.i .i64 0),(.i .i64 0)])/\(zz qP 102=some (.agg [(.s (bs [])),(.s (bs [])),(.s (bs [])),(.s (bs [])),(.s (bs [])),(.s (bs [])),(.i .i64 0),(.i .i64 0),(.i .i64 0),(.i .i64 0),(.i .i64 0),(.i .i64 0),(.i .i64 0),(.s (bs [])),.nilsl,.nilsl])/\zz qP 103=some (.agg [(.s (bs [])),(.i .i64 0),(.i .i64 0)]))))/\((zz qP 104=some (.agg [(.s (bs [])),(.s (bs [])),(.s (bs [])),(.s (bs [])),(.s (bs [])),(.s (bs [])),(.i .i64 0),(.i .i64 0),(.i .i64 0),(.i .i64 0),(.i .i64 0),(.i .i64 0),(.i .i64 0),(.i .i64 0)])/\(zz qP 107=some (.agg [(.s (bs [])),(.s (bs [])),(.s (bs [])),(.i .i64 0),(.i .i64 0),(.i .i64 0),(.i .i64 0),(.i .i64 0),(.i .i64 0),(.i .i64 0),(.i .i64 0)])/\zz qP 145=some (.agg [(.i .i64 0),(.i .i64 0),(.i .i64 0)])))/\(zz qP 4=some (.b false)/\(zz qP 164=some (.agg [(.i .i64 0),(.i .i64 0),.nilf])/\zz qP 169=some (.agg [(.s (bs [])),(.s (bs [])),(.s (bs [])),(.s (bs [])),(.s (bs []))])))))/\(((zz qP 93=some .nilsl/\zz qP 224=some (.agg [.nilf]))/\(zz qP 82=some .nilsl/\(zz qP 276=some (.agg [(.i .i64 0),(.i .i64 0),(.i .i64 0)])/\zz qP 258=some .nilsl)))/\((zz qP 260=some (.agg [(.i .i64 0),(.i .i64 0)])/\(zz qP 297=some (.agg [(.s (bs [])),(.s (bs []))])/\zz qP 308=some (.agg (List.replicate 1441 (.i .i64 0)))))/\(zz qP 310=some (.agg (List.replicate 1440 (.b false)))/\(zz qP 311=some (.i .u64 0)/\zz qP 28=some .nilsl))))))):=by repeat' first|apply And.intro|kernel_rfl
def qU:=aI (aI (aI (aI (aI @Tryz.underlying28 (aI @Tryz.underlying3 @Tryz.underlying52)) (aI @Tryz.underlying30 (aI @Tryz.underlying5 @Tryz.underlying38))) (aI (aI @Tryz.underlying37 (aI @Tryz.underlying34 @Tryz.underlying35)) (aI (aI @Tryz.underlying27 @Tryz.underlying9) (aI @Tryz.underlying64 @Tryz.underlying74)))) (aI (aI (aI @Tryz.underlying81 (aI @Tryz.underlying84 @Tryz.underlying67)) (aI (aI @Tryz.underlying82 @Tryz.underlying91) (aI @Tryz.underlying93 @Tryz.underlying156))) (aI (aI @Tryz.underlying22 (aI @Tryz.underlying26 @Tryz.underlying23)) (aI (aI @Tryz.underlying102 @Tryz.underlying100) (aI @Tryz.underlying24 @Tryz.underlying45))))) (aI (aI (aI (aI @Tryz.underlying107 (aI @Tryz.underlying104 @Tryz.underlying73)) (aI (aI @Tryz.underlying141 @Tryz.underlying145) (aI @Tryz.underlying109 @Tryz.underlying159))) (aI (aI @Tryz.underlying166 (aI @Tryz.underlying164 @Tryz.underlying169)) (aI (aI @Tryz.underlying103 @Tryz.underlying226) (aI @Tryz.underlying249 @Tryz.underlying140)))) (aI (aI (aI @Tryz.underlying271 (aI @Tryz.underlying21 @Tryz.underlying274)) (aI (aI @Tryz.underlying276 @Tryz.underlying282) (aI @Tryz.underlying290 @Tryz.underlying260))) (aI (aI @Tryz.underlying224 (aI @Tryz.underlying296 @Tryz.underlying258)) (aI (aI @Tryz.underlying308 @Tryz.underlying310) (aI @Tryz.underlying311 @Tryz.underlying292)))))
theorem cI {n:Int} (h:-9223372036854775808<=n/\n<=9223372036854775807):zd1 (.int .i64 n)=some (.i .i64 n):=if_pos (zho h.1 h.2)
theorem cS {l:List UInt8} (h:l.length<=9223372036854775807):zd1 (.string ⟨l.toArray⟩)=some (.s (bs l)):=if_pos h
theorem cB {x:Bool}:zd1 (.bool x)=some (.b x):=rfl
theorem cN:zd1 (.pointer none)=some .nilp:=rfl
theorem cL:zd1 (.slice none 0 0)=some .nilsl:=rfl
theorem cG:zd1 .nilFunc=some .nilf:=rfl
theorem cM:zd1 (.map none)=some (.mp []):=rfl
theorem mG:(Region.Mode.any == Region.Mode.gc)=false:=rfl
theorem mT:(Region.Mode.any == Region.Mode.text)=false:=rfl
def zr8 (P:Program) (fn:Func):Option (AC × List RV × Nat):=match fn.body with
 | some b=>match zC P fn.ntmps b,zaI P fn.results.toList with
  | some c,some rs=>if fn.ntmps<=GB then some (c,rs,fn.ntmps) else none
  | _,_=>none
 | none=>none
theorem cF {f:Nat} {fn lit:Func} {x:AC × List RV × Nat} (hf:Tryz.prog.funcs[f]?=some fn) (he:fn=lit) (h:zr8 Tryz.prog lit=some x:=by
  (conv=>lhs;simp only [qT,qU,cI,cS,cB,cN,cL,cG,cM,zr8,zC,zaX,zcg,zak,zah,zbZ,zr0,zhg,zaI,GB,Region.binds,mG,mT,Int.reduceNeg,Int.reduceLE,Nat.reduceLeDiff,Nat.reduceLT,and_self,reduceIte,Option.map_some,Option.map_none,Option.bind_some,Option.bind_none,List.length_cons,List.length_nil,List.map_cons,List.map_nil,List.filterMap_cons,List.filterMap_nil,List.nil_append,List.cons_append,List.getElem?_cons_zero,List.getElem?_cons_succ,List.getElem?_toArray,Option.all_some,Option.all_none,decide_true,decide_eq_true_eq,Option.toList_some,Option.toList_none,PV.cells,PV.isAgg,Nat.reduceAdd,Nat.reduceMul,Nat.reducePow,reduceCtorEq,Option.isSome_some,Option.isSome_none,Bool.false_eq_true,List.length_replicate,List.size_toArray,Array.size_empty])
  try exact rfl) (hn : (fn.name == "runtime.NumGoroutine") = false := by kernel_rfl) : zck Tryz.prog f = some x := by
 subst he
 unfold zck
 rw [hf]
 show (if _ then _ else _)=_
 rw [hn,if_neg (by simp)]
 exact h
theorem mixed:Tryz.prog.follows .mixedOrders=true:=by kernel_rfl
instance:Mx Tryz.prog:=⟨mixed⟩
section
variable {P:Program} {ts:List (List PV)} {dr:Bool} {K:St->List Ft->Prop} {acc:List Ft} {d:Option Nat} {f:Nat} {args:List AOpd} {gd:Option (Nat × Bool)} {af:List Nat} {r:List RO} {s:St} {vs:List PV} {res:PV}
end
structure Per where
 fro:Int
 to:Int
 days:Int
abbrev Per.pv (p:Per):PV:=.agg [.i .i64 p.fro,.i .i64 p.to,.i .i64 p.days]
def inM (mask wd:Int):Bool:=decide (mask / 2 ^ wd.toNat % 2=1)
def rng (n lo hi:Int):Int:=if n < lo\/hi < n then 3 else 0
theorem zvK:∀ m < 128,∀ w < 7,(decide (bits .and .i64 (Int.fdiv (Int.ofNat m) (2 ^ (min w 64))) 1=1))=inM (Int.ofNat m) (Int.ofNat w):=by decide +kernel
def zg:List Int->Int
 | []=>0
 | e::r=>if e=0 then zg r else e
theorem zfg {l:List Int}:∀ {i:Nat},(∀ x ∈ l.take i,x=0)->zg l=zg (l.drop i):=by
 induction l with
 | nil=>intro i _;simp
 | cons e r ih=>
  intro i h
  cases i with
  | zero=>rfl
  | succ i=>
   have he:e=0:=h e (by simp)
   subst he
   simp only [zg,if_true,List.drop_succ_cons]
   exact ih λx hx=>h x (by simp [hx])
theorem zT {l:List Int} {i:Nat} {x:Int} (h:∀ x ∈ l.take i,x=0) (hx:l[i]?=some x) (hn:x≠0):zg l=x:=by
 rw [zfg h]
 obtain ⟨hi,rfl⟩:=List.getElem?_eq_some_iff.1 hx
 rw [List.drop_eq_getElem_cons hi,zg,if_neg hn]
theorem z4 {l:List Int} (h:∀ x ∈ l.take l.length,x=0):zg l=0:=by
 rw [zfg h,List.drop_length];rfl
theorem zaC {l:List Int} {i:Nat} {x:Int} (h:∀ x ∈ l.take i,x=0) (hx:l[i]?=some x) (h0:x=0):∀ x ∈ l.take (i+1),x=0:=by
 intro y hy
 rw [List.take_add_one,hx] at hy
 rcases List.mem_append.1 hy with hy|hy
 ·exact h y hy
 ·simp at hy;omega
def zau (p:Per):Int:=zg [rng p.fro 0 99999,rng p.to 0 99999,if p.to < p.fro then 11 else 0,if 400 < p.to - p.fro then 4 else 0,rng p.days 1 127]
theorem zdm {n a b:Int}:rng n a b=0↔a<=n/\n<=b:=by
 unfold rng
 split
 ·rename_i h;omega
 ·rename_i h;omega
theorem gC {G:Cfg} {x y:AC} {s:St} {Q:zN} {o:AOpd} {t:Bool} {p q:Prop} (h1:p->Run G x s Q) (h2:q->Run G y s Q) (ht:o.ev s=.p (.b t):=by simp (disch:=omega) only [qS,qe,seval]<;>rfl) (hp:(t=true)=p:=by first|(simp only [qH,zdm]<;>rfl)|rfl) (hq:(t=false)=q:=by first|(simp only [qH,zdm]<;>rfl)|rfl):Run G (.cond o x y) s Q:=by
 subst hp;subst hq;exact zp7 ht h1 h2
theorem gG {p q:Prop} (h:q) (k:q->p:=by intro h;first|exact gS h|exact gY h|exact gZ h):p:=k h
theorem zp {e:Int} {r:List Int}:zg (e::r)=0↔e=0/\zg r=0:=by
 simp only [zg];split<;>simp_all
theorem zl9 {a b:List Int} (h:zg a=0):zg (a++b)=zg b:=by
 induction a with
 | nil=>rfl
 | cons e r ih=>obtain ⟨h1,h2⟩:=zp.1 h;subst h1;simp only [List.cons_append,zg,if_true];exact ih h2
theorem zjA {a b:List Int} (h:zg a≠0):zg (a++b)=zg a:=by
 induction a with
 | nil=>exact absurd rfl h
 | cons e r ih=>
  simp only [List.cons_append,zg] at h ⊢
  split
  ·rename_i h0;rw [if_pos h0] at h;exact ih h
  ·rfl
theorem zg3 {p:Prop} [Decidable p] {e:Int} (he:e≠0):(if p then e else 0)=0↔¬p:=by by_cases h:p<;>simp [h,he]
theorem zaY {p:Per} (h:zau p=0):0<=p.fro/\p.fro<=p.to/\p.to<=99999/\p.to - p.fro<=400/\1<=p.days/\p.days<=127:=by
 unfold zau at h
 simp only [zp,zdm,zg3 (show (11:Int)≠0 by decide),zg3 (show (4:Int)≠0 by decide)] at h
 omega
def hasD (p:Per) (d:Int):Bool:=decide (p.fro<=d) && decide (d<=p.to) && inM p.days ((d+5) % 7)
def zW (p:Per):List Int:=(List.range (p.to - p.fro+1).toNat).flatMap λ(k:Nat)=>if inM p.days ((p.fro+k+5) % 7) then [p.fro+k] else []
theorem zbm {α:Type} (f:Nat->List α) {k n:Nat} (h:k < n):(List.range n).flatMap f=(List.range k).flatMap f++(f k++(List.range' (k+1) (n - (k+1))).flatMap f):=by
 have:List.range n=List.range k++(k::List.range' (k+1) (n - (k+1))):=by
  rw [List.range_eq_range',List.range_eq_range',show k::List.range' (k+1) (n - (k+1))=List.range' (0+1*k) (n - k) by rw [show n - k=(n - (k+1))+1 by omega,List.range'_succ];simp,List.range'_append,show k+(n - k)=n by omega]
 rw [this];simp
theorem zab {α:Type} (f:Nat->List α) (k:Nat):(List.range (k+1)).flatMap f=(List.range k).flatMap f++f k:=by
 rw [List.range_succ];simp
theorem znK (b:Bool) (e:Int):Pure Tryz.prog 217 [.b b,.i .i64 e] (.i .i64 (if b then e else 0)):=by
 refine zf (cF Tryz.func217 Tryz.f217.eq_1) (by simp) λhw X hX=>?_
 repeat' first|refine gC ?_ ?_<;>intro hc<;>try contradiction|refine gG ?_|show AK _;intro K H|refine H _ _ ?_;clear H K|refine gJ ?_;try exact trivial|omega
 all_goals (subst hc;exact .refl _)
theorem znJ (n a b:Int):Pure Tryz.prog 218 [.i .i64 n,.i .i64 a,.i .i64 b] (.i .i64 (rng n a b)):=by
 refine zf (cF Tryz.func218 Tryz.f218.eq_1) (by simp) λhw X hX=>?_
 repeat' first|refine gC ?_ ?_<;>intro hc<;>try contradiction|refine za (znK _ _) ?_|refine gG ?_|show AK _;intro K H|refine H _ _ ?_;clear H K|refine gJ ?_;try exact trivial|omega
 simp only [rng,Bool.or_eq_true,decide_eq_true_eq];exact .refl _
theorem znL (n:Int):Pure Tryz.prog 147 [.i .i64 n] (.i .i64 (rng n 0 99999)):=by
 refine zf (cF Tryz.func147 Tryz.f147.eq_1) (by simp) λhw X hX=>?_
 repeat' first|refine gC ?_ ?_<;>intro hc<;>try contradiction|refine za (znJ _ _ _) ?_|refine gG ?_|show AK _;intro K H|refine H _ _ ?_;clear H K|refine gJ ?_;try exact trivial|omega
 exact .refl _
theorem zgD (m w:Int) (h0:0<=m) (h1:m < 128) (h2:0<=w) (h3:w < 7):Pure Tryz.prog 219 [.i .i64 m,.i .i64 w] (.b (inM m w)):=by
 refine zf (cF Tryz.func219 Tryz.f219.eq_1) (by simp) λhw X hX=>?_
 repeat' first|refine gC ?_ ?_<;>intro hc<;>try contradiction|refine gG ?_|show AK _;intro K H|refine H _ _ ?_;clear H K|refine gJ ?_;try exact trivial|omega
 have:=zvK m.toNat (by omega) w.toNat (by omega)
 simp only [Int.ofNat_eq_natCast,Int.toNat_of_nonneg h0,Int.toNat_of_nonneg h2] at this
 show Weak (.b (decide (bits .and .i64 (m.fdiv (2 ^ min w.toNat 64)) 1=1))) _
 rw [this];exact .refl _
theorem zi1 (d:Int) (h0:0<=d) (h1:d<=99999):Pure Tryz.prog 220 [.i .i64 d] (.i .i64 ((d+5) % 7)):=by
 refine zf (cF Tryz.func220 Tryz.f220.eq_1) (by simp) λhw X hX=>?_
 repeat' first|refine gC ?_ ?_<;>intro hc<;>try contradiction|refine gG ?_|show AK _;intro K H|refine H _ _ ?_;clear H K|refine gJ ?_;try exact trivial|omega
 rw [Int.tmod_eq_emod_of_nonneg (by omega)]
 exact .refl _
theorem zi2 (l:List Int):Pure Tryz.prog 145 [.sl 1 (l.map (.i .i64))] (.i .i64 (zg l)):=by
 refine zf (cF Tryz.func145 Tryz.f145.eq_1) (by simp) λhw X hX=>?_
 simp only [wfs,PV.wf,List.length_map,maxLen] at hw
 repeat' first|refine gC ?_ ?_<;>intro hc<;>try contradiction|refine gG ?_|show AK _;intro K H|refine H _ _ ?_;clear H K|refine gJ ?_;try exact trivial|omega
 refine zj (κ:=Nat) (λi=>⟨[(5,.p (.sl 1 (l.map (.i .i64)))),(6,.p (.i .i64 l.length)),(7,.p (.i .i64 i))],[],[],false⟩) (λi=>i<=l.length/\∀ x ∈ l.take i,x=0) (λi=>l.length - i) 0 ?_ ?_ ?_
 ·exact sR
 ·simp
 ·intro i hi
  repeat first|refine gG ?_|show AK _;intro K H|refine H _ _ ?_;clear H K|refine gJ ?_;try exact trivial|omega
  (refine gC ?_ ?_<;>intro hc<;>try contradiction)
  ·obtain ⟨x,hx⟩:=zm (i:=i) (l:=l) (by omega)
   have qe:=@hx;repeat' first|refine gC ?_ ?_<;>intro hc<;>try contradiction|refine gG ?_|show AK _;intro K H|refine H _ _ ?_;clear H K|refine gJ ?_;try exact trivial|omega
   ·rw [zT hi.2 hx hc];exact .refl _
   ·exact ⟨i+1,⟨by omega,zaC hi.2 hx hc⟩,by omega,by simp⟩
  ·repeat' first|refine gC ?_ ?_<;>intro hc<;>try contradiction|refine gG ?_|show AK _;intro K H|refine H _ _ ?_;clear H K|refine gJ ?_;try exact trivial|omega
   have e:i=l.length:=by omega
   subst e
   rw [z4 hi.2];exact .refl _
theorem zcu (p:Per):Pure Tryz.prog 146 [p.pv] (.i .i64 (zau p)):=by
 refine zf (cF Tryz.func146 Tryz.f146.eq_1) (by simp) λhw X hX=>?_
 have qe:=@qR;repeat' first|refine gC ?_ ?_<;>intro hc<;>try contradiction|refine za (znL _) ?_|refine za (zi2 [_,_]) ?_|refine gG ?_|show AK _;intro K H|refine H _ _ ?_;clear H K|refine gJ ?_;try exact trivial|omega
 ·have:zau p=zg ([rng p.fro 0 99999,rng p.to 0 99999]++[if p.to < p.fro then 11 else 0,if 400 < p.to - p.fro then 4 else 0,rng p.days 1 127]):=rfl
  rw [this,zjA hc];exact .refl _
 ·have h1:=hc
  simp only [zp,zdm] at h1
  have qe:=@qR;repeat' first|refine gC ?_ ?_<;>intro hc<;>try contradiction|refine za (znK _ _) ?_|refine za (znJ _ _ _) ?_|refine za (zi2 [_,_,_]) ?_|refine gG ?_|show AK _;intro K H|refine H _ _ ?_;clear H K|refine gJ ?_;try exact trivial|omega
  have:zau p=zg ([rng p.fro 0 99999,rng p.to 0 99999]++[if p.to < p.fro then 11 else 0,if 400 < p.to - p.fro then 4 else 0,rng p.days 1 127]):=rfl
  rw [this,zl9 hc];exact .refl _
theorem zt8 (p:Per) (d:Int) (h0:0<=d) (h1:d<=99999) (h2:0<=p.days) (h3:p.days < 128):Pure Tryz.prog 148 [p.pv,.i .i64 d] (.b (hasD p d)):=by
 refine zf (cF Tryz.func148 Tryz.f148.eq_1) (by simp) λhw X hX=>?_
 have qe:=@qR;repeat' first|refine gC ?_ ?_<;>intro hc<;>try contradiction|refine zM (λ_=>zi1 _ h0 h1) ?_|(show zi _ _ _ _ (⟨_,.call 219,_,_,_⟩::_) _ _;refine zbj (hf:=λhc=>(by first|exact zgD p.days ((d+5) % 7) h2 h3 (by omega) (by omega)|(simp only [qH,zdm] at hc;exact zgD p.days ((d+5) % 7) h2 h3 (by omega) (by omega)))) (hn:=?_))|refine gG ?_|show AK _;intro K H|refine H _ _ ?_;clear H K|refine gJ ?_;try exact trivial|omega
 all_goals exact .refl _
theorem zdh {α β:Type} {l:List α} {k:Nat} {d:α} (f:α->β) (h:l[k]?=some d):(l.take (k+1)).map f=(l.take k).map f++[f d]:=by
 rw [List.take_add_one,h];simp
theorem zgr {α:Type} {l:List α} {k:Nat} {d:α} (h:l[k]?=some d):(l.take k).length=k:=by
 have:=(List.getElem?_eq_some_iff.1 h).1
 simp;omega
theorem zcG (p:Per):(zW p).length<=(p.to - p.fro+1).toNat:=by
 unfold zW
 generalize (p.to - p.fro+1).toNat=n
 induction n with
 | zero=>simp
 | succ n ih=>rw [zab,List.length_append];split<;>simp only [List.length_cons,List.length_nil]<;>omega
end Go.Proofs.YtijgimeokgbifaaGreat
