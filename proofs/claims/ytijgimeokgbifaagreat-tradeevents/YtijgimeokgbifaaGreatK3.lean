/- Contracts of functions, for the claim. No conditions. -/
import Derived.KernelRfl
import Derived.Test.YtijgimeokgbifaaGreatChecked
import Derived.Laws.RangeAny
import Derived.Test.YtijgimeokgbifaaGreatK2
set_option linter.all false
set_option maxHeartbeats 8000000
set_option maxRecDepth 100000
namespace Go.Proofs.YtijgimeokgbifaaGreat
open Go.RowKit Tryz
noncomputable abbrev qP:Program:=prog
def qT:((((((zy qP 26=some true/\zy qP 30=some true)/\(zy qP 3=some false/\(zy qP 37=some true/\zy qP 34=some false)))/\((zy qP 35=some false/\zy qP 27=some false)/\(zy qP 28=some false/\(zy qP 9=some false/\zy qP 64=some true))))/\(((zy qP 67=some true/\zy qP 81=some true)/\(zy qP 82=some false/\(zy qP 38=some false/\zy qP 109=some true)))/\((zy qP 23=some false/\(zy qP 102=some true/\zy qP 100=some false))/\(zy qP 103=some true/\(zy qP 91=some true/\zy qP 84=some true)))))/\((((zy qP 24=some false/\zy qP 104=some true)/\(zy qP 73=some true/\(zy qP 107=some true/\zy qP 140=some true)))/\((zy qP 162=some false/\(zy qP 169=some true/\zy qP 93=some false))/\(zy qP 22=some false/\(zy qP 145=some true/\zy qP 164=some true))))/\(((zy qP 146=some false/\zy qP 233=some false)/\(zy qP 141=some false/\(zy qP 198=some false/\zy qP 258=some false)))/\((zy qP 170=some false/\(zy qP 297=some true/\zy qP 276=some true))/\(zy qP 4=some false/\(zy qP 221=some false/\zy qP 311=some false))))))/\(((((bytesOf qP 30=some 88/\bytesOf qP 84=some 216)/\(bytesOf qP 73=some 160/\(bytesOf qP 9=some 16/\bytesOf qP 3=some 8)))/\((bytesOf qP 81=some 32/\bytesOf qP 91=some 32)/\(bytesOf qP 140=some 80/\(bytesOf qP 109=some 112/\bytesOf qP 102=some 216))))/\(((bytesOf qP 103=some 32/\bytesOf qP 104=some 160)/\(bytesOf qP 107=some 112/\(bytesOf qP 145=some 24/\bytesOf qP 38=some 8)))/\((bytesOf qP 82=some 24/\(bytesOf qP 276=some 24/\(zbQ qP 10 81=some [2,1,1]/\qP.eqGuardType qP.depth 81=false)))/\((zbQ qP 10 104=some [2,2,2,2,2,2,1,1,1,1,1,1,1,1]/\qP.eqGuardType qP.depth 104=false)/\((zbQ qP 10 67=some [2,2,2,2,2,2,1,1,1,1,1,1,1]/\qP.eqGuardType qP.depth 67=false)/\(zbQ qP 10 103=some [2,1,1]/\qP.eqGuardType qP.depth 103=false))))))/\(((((zbQ qP 10 91=some [2,1,1]/\qP.eqGuardType qP.depth 91=false)/\(zbQ qP 10 145=some [1,1,1]/\qP.eqGuardType qP.depth 145=false))/\(zjl qP 9=some ([2],false)/\(zjl qP 297=some ([2,2],true)/\zB qP 64 [0,1,2]=some [(0,1),(1,1),(2,1)])))/\((zB qP 37 []=some []/\(zB qP 73 [0,1]=some [(0,13),(13,1)]/\zB qP 81 [0,1,2]=some [(0,1),(1,1),(2,1)]))/\(zB qP 91 [0,1,2]=some [(0,1),(1,1),(2,1)]/\(zB qP 84 [0,1,3]=some [(0,13),(13,1),(15,1)]/\zB qP 26 []=some []))))/\(((zB qP 104 [0,1]=some [(0,13),(13,1)]/\zB qP 103 [0,1,2]=some [(0,1),(1,1),(2,1)])/\(zB qP 102 [0,1,3]=some [(0,13),(13,1),(15,1)]/\(zB qP 67 [0,1,2,4,6,7,8,9]=some [(0,1),(1,1),(2,1),(4,1),(6,3),(9,1),(10,1),(11,1)]/\zB qP 109 [0,1,3,4,6,7,8]=some [(0,1),(1,1),(3,1),(4,1),(6,1),(7,3),(10,1)])))/\((zB qP 102 [0,1]=some [(0,13),(13,1)]/\(zB qP 26 [0,1]=some [(0,1),(1,1)]/\zB qP 67 [0,1,2,3,4,6,7,8,9,10]=some [(0,1),(1,1),(2,1),(3,1),(4,1),(6,3),(9,1),(10,1),(11,1),(12,1)]))/\(zB qP 26 [0]=some [(0,1)]/\(zB qP 84 [0,1]=some [(0,13),(13,1)]/\zB qP 164 [0,1,2]=some [(0,1),(1,1),(2,1)])))))))/\((((((zB qP 37 [0,1]=some [(0,1),(1,1)]/\zB qP 140 [0,1,2,3,4,5,6]=some [(0,1),(1,1),(2,1),(3,1),(4,1),(5,1),(6,1)])/\(zB qP 224 [0]=some [(0,1)]/\(zB qP 260 [0,1]=some [(0,1),(1,1)]/\zB qP 145 [0,1,2]=some [(0,1),(1,1),(2,1)])))/\((zB qP 297 [0,1]=some [(0,1),(1,1)]/\zB qP 276 [0,1,2]=some [(0,1),(1,1),(2,1)])/\(zB qP 145 [1]=some [(1,1)]/\(zB qP 145 [1,2]=some [(1,1),(2,1)]/\zX qP 26=some 2))))/\(((zX qP 30=some 5/\zX qP 37=some 2)/\(zX qP 3=some 1/\(zX qP 34=some 1/\zX qP 84=some 16)))/\((zX qP 35=some 1/\(zX qP 73=some 14/\zX qP 27=some 1))/\(zX qP 9=some 1/\(zX qP 28=some 1/\zX qP 64=some 3)))))/\((((zX qP 67=some 13/\zX qP 81=some 3)/\(zX qP 82=some 1/\(zX qP 91=some 3/\zX qP 140=some 7)))/\((zX qP 38=some 1/\(zX qP 109=some 11/\zX qP 23=some 1))/\(zX qP 102=some 16/\(zX qP 100=some 1/\zX qP 103=some 3))))/\(((zX qP 24=some 1/\zX qP 104=some 14)/\(zX qP 107=some 11/\(zX qP 145=some 3/\zX qP 164=some 3)))/\((zX qP 162=some 1/\(zX qP 169=some 5/\zX qP 93=some 1))/\(zX qP 22=some 1/\(zX qP 224=some 1/\zX qP 146=some 1))))))/\(((((zX qP 233=some 1/\zX qP 276=some 3)/\(zX qP 141=some 1/\(zX qP 258=some 1/\zX qP 198=some 1)))/\((zX qP 170=some 1/\zX qP 297=some 2)/\(zX qP 4=some 1/\(zX qP 311=some 1/\zX qP 221=some 1))))/\(((zz qP 37=some (.agg [.nilsl,.nilsl])/\zz qP 3=some (.i .i64 0))/\(zz qP 26=some (.agg [.nilsl,.nilsl])/\(zz qP 30=some (.agg [(.i .i64 0),(.s (bs [])),.nilsl,.nilsl,(.s (bs []))])/\zz qP 84=some (.agg [(.s (bs [])),(.s (bs [])),(.s (bs [])),(.s (bs [])),(.s (bs [])),(.s (bs [])),(.i .i64 0),(.i .i64 0),(.i .i64 0),(.i .i64 0),(.i .i64 0),(.i .i64 0),(.i .i64 0),(.s (bs [])),.nilsl,.nilsl]))))/\((zz qP 73=some (.agg [(.s (bs [])),(.s (bs [])),(.s (bs [])),(.s (bs [])),(.s (bs [])),(.s (bs [])),(.i .i64 0),(.i .i64 0),(.i .i64 0),(.i .i64 0),(.i .i64 0),(.i .i64 0),(.i .i64 0),(.i .i64 0)])/\(zz qP 9=some (.s (bs []))/\zz qP 64=some (.agg [(.i .i64 0),(.i .i64 0),(.i .i64 0)])))/\(zz qP 67=some (.agg [(.s (bs [])),(.s (bs [])),(.s (bs [])),(.s (bs [])),(.s (bs [])),(.s (bs [])),(.i .i64 0),(.i .i64 0),(.i .i64 0),(.i .i64 0),(.i .i64 0),(.i .i64 0),(.i .i64 0)])/\(zz qP 81=some (.agg [(.s (bs [])),(.i .i64 0),(.i .i64 0)])/\zz qP 91=some (.agg [(.s (bs [])),(.i .i64 0),(.i .i64 0)]))))))/\((((zz qP 140=some (.agg [(.i .i64 0),(.s (bs [])),(.s (bs [])),(.i .i64 0),(.i .i64 0),(.i .i64 0),(.s (bs []))])/\zz qP 38=some (.i .i64 0))/\(zz qP 109=some (.agg [(.s (bs [])),(.s (bs [])),(.s (bs [])),(.i .i64 0),(.i .i64 0),(.i .i64 0),(.i .i64 0),(.i .i64 0),(.i .i64 0),(.i .i64 0),(.i .i64 0)])/\(zz qP 102=some (.agg [(.s (bs [])),(.s (bs [])),(.s (bs [])),(.s (bs [])),(.s (bs [])),(.s (bs [])),(.i .i64 0),(.i .i64 0),(.i .i64 0),(.i .i64 0),(.i .i64 0),(.i .i64 0),(.i .i64 0),(.s (bs [])),.nilsl,.nilsl])/\zz qP 103=some (.agg [(.s (bs [])),(.i .i64 0),(.i .i64 0)]))))/\((zz qP 104=some (.agg [(.s (bs [])),(.s (bs [])),(.s (bs [])),(.s (bs [])),(.s (bs [])),(.s (bs [])),(.i .i64 0),(.i .i64 0),(.i .i64 0),(.i .i64 0),(.i .i64 0),(.i .i64 0),(.i .i64 0),(.i .i64 0)])/\(zz qP 107=some (.agg [(.s (bs [])),(.s (bs [])),(.s (bs [])),(.i .i64 0),(.i .i64 0),(.i .i64 0),(.i .i64 0),(.i .i64 0),(.i .i64 0),(.i .i64 0),(.i .i64 0)])/\zz qP 145=some (.agg [(.i .i64 0),(.i .i64 0),(.i .i64 0)])))/\(zz qP 4=some (.b false)/\(zz qP 164=some (.agg [(.i .i64 0),(.i .i64 0),.nilf])/\zz qP 169=some (.agg [(.s (bs [])),(.s (bs [])),(.s (bs [])),(.s (bs [])),(.s (bs []))])))))/\(((zz qP 93=some .nilsl/\zz qP 224=some (.agg [.nilf]))/\(zz qP 82=some .nilsl/\(zz qP 276=some (.agg [(.i .i64 0),(.i .i64 0),(.i .i64 0)])/\zz qP 258=some .nilsl)))/\((zz qP 260=some (.agg [(.i .i64 0),(.i .i64 0)])/\(zz qP 297=some (.agg [(.s (bs [])),(.s (bs []))])/\zz qP 308=some (.agg (List.replicate 1441 (.i .i64 0)))))/\(zz qP 310=some (.agg (List.replicate 1440 (.b false)))/\(zz qP 311=some (.i .u64 0)/\zz qP 28=some .nilsl))))))):=by repeat' first|apply And.intro|kernel_rfl
def qU:=aI (aI (aI (aI (aI @underlying28 (aI @underlying3 @underlying52)) (aI @underlying30 (aI @underlying5 @underlying38))) (aI (aI @underlying37 (aI @underlying34 @underlying35)) (aI (aI @underlying27 @underlying9) (aI @underlying64 @underlying74)))) (aI (aI (aI @underlying81 (aI @underlying84 @underlying67)) (aI (aI @underlying82 @underlying91) (aI @underlying93 @underlying156))) (aI (aI @underlying22 (aI @underlying26 @underlying23)) (aI (aI @underlying102 @underlying100) (aI @underlying24 @underlying45))))) (aI (aI (aI (aI @underlying107 (aI @underlying104 @underlying73)) (aI (aI @underlying141 @underlying145) (aI @underlying109 @underlying159))) (aI (aI @underlying166 (aI @underlying164 @underlying169)) (aI (aI @underlying103 @underlying226) (aI @underlying249 @underlying140)))) (aI (aI (aI @underlying271 (aI @underlying21 @underlying274)) (aI (aI @underlying276 @underlying282) (aI @underlying290 @underlying260))) (aI (aI @underlying224 (aI @underlying296 @underlying258)) (aI (aI @underlying308 @underlying310) (aI @underlying311 @underlying292)))))
def cI {n:Int} (h:-9223372036854775808<=n/\n<=9223372036854775807):zd1 (.int .i64 n)=some (.i .i64 n):=if_pos (zhp h.1 h.2)
def cS {l:List UInt8} (h:l.length<=9223372036854775807):zd1 (.string ⟨l.toArray⟩)=some (.s (bs l)):=if_pos h
def cB {x:Bool}:zd1 (.bool x)=some (.b x):=rfl
def cN:zd1 (.pointer none)=some .nilp:=rfl
def cL:zd1 (.slice none 0 0)=some .nilsl:=rfl
def cG:zd1 .nilFunc=some .nilf:=rfl
def cM:zd1 (.map none)=some (.mp []):=rfl
def mG:(Region.Mode.any == Region.Mode.gc)=false:=rfl
def mT:(Region.Mode.any == Region.Mode.text)=false:=rfl
def zms (P:Program) (fn:Func):Option (AC × List RV × Nat):=match fn.body with
 | some b=>match zC P fn.ntmps b,zas P fn.results.toList with
  | some c,some rs=>if fn.ntmps<=GB then some (c,rs,fn.ntmps) else none
  | _,_=>none
 | none=>none
def cF {f:Nat} {fn lit:Func} {x:AC × List RV × Nat} (hf:prog.funcs[f]?=some fn) (he:fn=lit) (h:zms prog lit=some x:=by
  (conv=>lhs;simp only [qT,qU,cI,cS,cB,cN,cL,cG,cM,zms,zC,zaH,zby,comp,zaf,zbX,zpx,zfK,zas,GB,Region.binds,mG,mT,Int.reduceNeg,Int.reduceLE,Nat.reduceLeDiff,Nat.reduceLT,and_self,reduceIte,xbE,xcC,xby,Option.bind_none,xaE,xbr,xak,xay,xbp,xcy,xaP,xaQ,xcg,xbO,xb9,Option.all_some,Option.all_none,decide_true,decide_eq_true_eq,xcj,xcD,PV.cells,PV.isAgg,Nat.reduceAdd,Nat.reduceMul,Nat.reducePow,reduceCtorEq,xcB,xcc,xaX,xcb,xco,Array.size_empty])
  try exact rfl) (hn : (fn.name == "runtime.NumGoroutine") = false := by kernel_rfl) : zci prog f = some x := by
 subst he
 unfold zci
 rw [hf]
 show (if _ then _ else _)=_
 rw [hn,if_neg (by simp)]
 exact h
def pz {f:Nat} {fn lit:Func} {c:AC} {rs:List RV} {n:Nat} {args:List PV} {r:PV} (hf:prog.funcs[f]?=some fn) (he:fn=lit) (hrun:wfs args→∀ X:Fx,X.N=n→Run ⟨prog,X,none,[]⟩ c (argSt args) (retQ rs r)) (h:zms prog lit=some (c,rs,n):=by
  (conv=>lhs;simp only [qT,qU,cI,cS,cB,cN,cL,cG,cM,zms,zC,zaH,zby,comp,zaf,zbX,zpx,zfK,zas,GB,Region.binds,mG,mT,Int.reduceNeg,Int.reduceLE,Nat.reduceLeDiff,Nat.reduceLT,and_self,reduceIte,xbE,xcC,xby,Option.bind_none,xaE,xbr,xak,xay,xbp,xcy,xaP,xaQ,xcg,xbO,xb9,Option.all_some,Option.all_none,decide_true,decide_eq_true_eq,xcj,xcD,PV.cells,PV.isAgg,Nat.reduceAdd,Nat.reduceMul,Nat.reducePow,reduceCtorEq,xcB,xcc,xaX,xcb,xco,Array.size_empty])
  try exact rfl) (hg : (fn.name == "runtime.NumGoroutine") = false := by kernel_rfl) (hn : args.length ≤ n := by simp) : Pure prog f args r := znJ (cF hf he h hg) hn hrun
def mixed:prog.follows .mixedOrders=true:=by kernel_rfl
instance:Mx prog:=⟨mixed⟩
section
variable {P:Program} {ts:List (List PV)} {dr:Bool} {K:St->List Ft->Prop} {acc:List Ft} {d:Option Nat} {f:Nat} {args:List AOpd} {gd:Option (Nat × Bool)} {af:List Nat} {r:List RO} {s:St} {vs:List PV} {res:PV}
end
structure Per where
 fro:Int
 to:Int
 days:Int
abbrev Per.pv (p:Per):PV:=.agg [.i .i64 p.fro,.i .i64 p.to,.i .i64 p.days]
def inM (mask wd:Int):Bool:=decide (mask / 2 ^ wd.toNat % 2=1)
def rng (n lo hi:Int):Int:=if n < lo\/hi < n then 3 else 0
def zvS:∀ m < 128,∀ w < 7,(decide (bits .and .i64 (Int.fdiv (Int.ofNat m) (2 ^ (min w 64))) 1=1))=inM (Int.ofNat m) (Int.ofNat w):=by decide +kernel
def zf:List Int->Int
 | []=>0
 | e::r=>if e=0 then zf r else e
def zff {l:List Int}:∀ {i:Nat},(∀ x ∈ l.take i,x=0)->zf l=zf (l.drop i):=by
 induction l with
 | nil=>intro i _;simp
 | cons e r ih=>
  intro i h;cases i with
  | zero=>rfl
  | succ i=>
   have he:e=0:=h e (by simp)
   subst he;simp only [zf,if_true,xbU];exact ih λx hx=>h x (by simp [hx])
def zT {l:List Int} {i:Nat} {x:Int} (h:∀ x ∈ l.take i,x=0) (hx:l[i]?=some x) (hn:x≠0):zf l=x:=by
 rw [zff h];obtain ⟨hi,rfl⟩:=xaa.1 hx;rw [xaU hi,zf,if_neg hn]
def z4 {l:List Int} (h:∀ x ∈ l.take l.length,x=0):zf l=0:=by
 rw [zff h,xcs];rfl
def zaB {l:List Int} {i:Nat} {x:Int} (h:∀ x ∈ l.take i,x=0) (hx:l[i]?=some x) (h0:x=0):∀ x ∈ l.take (i+1),x=0:=by
 intro y hy;rw [xaK,hx] at hy
 rcases xaD.1 hy with hy|hy
 ·exact h y hy
 ·simp at hy;omega
def zat (p:Per):Int:=zf [rng p.fro 0 99999,rng p.to 0 99999,if p.to < p.fro then 11 else 0,if 400 < p.to - p.fro then 4 else 0,rng p.days 1 127]
def zdl {n a b:Int}:rng n a b=0↔a<=n/\n<=b:=by
 unfold rng
 split
 ·rename_i h;omega
 ·rename_i h;omega
def gC {G:Cfg} {x y:AC} {s:St} {Q:zN} {o:AOpd} {t:Bool} {p q:Prop} (h1:p->Run G x s Q) (h2:q->Run G y s Q) (ht:o.ev s=.p (.b t):=by simp (disch:=omega) only [qS,qe,seval]<;>rfl) (hp:(t=true)=p:=by first|(simp only [qH,zdl]<;>rfl)|rfl) (hq:(t=false)=q:=by first|(simp only [qH,zdl]<;>rfl)|rfl):Run G (.cond o x y) s Q:=by
 subst hp;subst hq;exact zqf ht h1 h2
def gG {p q:Prop} (h:q) (k:q->p:=by intro h;first|exact gS h|exact gY h|exact gZ h|exact Z _ _ h|fail):p:=k h
def gD0 {p:Prop} (h:p:=by repeat' first|refine gC ?_ ?_<;>intro hc<;>try contradiction|refine gG ?_|show AK _;intro J Z|refine gJ ?_|omega|exact trivial|exact .refl _|fail):p:=h
def gD2 {p:Prop} (h:p:=by repeat' first|refine gC ?_ ?_<;>intro hc<;>try contradiction|refine za (jA ..) ?_|refine za (jB ..) ?_|refine zp (λ_=>jA ..) ?_|refine zp (λ_=>jB ..) ?_|refine zA (jA ..) ?_|refine zA (jB ..) ?_|refine zk (jA ..) ?_|refine zk (jB ..) ?_|refine gG ?_|show AK _;intro J Z|refine gJ ?_|omega|exact trivial|exact .refl _|fail):p:=h
def gD4 {p:Prop} (h:p:=by repeat' first|refine gC ?_ ?_<;>intro hc<;>try contradiction|refine za (jA ..) ?_|refine za (jB ..) ?_|refine za (jC ..) ?_|refine za (jD ..) ?_|refine zp (λ_=>jA ..) ?_|refine zp (λ_=>jB ..) ?_|refine zp (λ_=>jC ..) ?_|refine zp (λ_=>jD ..) ?_|refine zA (jA ..) ?_|refine zA (jB ..) ?_|refine zA (jC ..) ?_|refine zA (jD ..) ?_|refine zk (jA ..) ?_|refine zk (jB ..) ?_|refine zk (jC ..) ?_|refine zk (jD ..) ?_|refine gG ?_|show AK _;intro J Z|refine gJ ?_|omega|exact trivial|exact .refl _|fail):p:=h
def gD8 {p:Prop} (h:p:=by repeat' first|refine gC ?_ ?_<;>intro hc<;>try contradiction|refine za (jA ..) ?_|refine za (jB ..) ?_|refine za (jC ..) ?_|refine za (jD ..) ?_|refine za (jE ..) ?_|refine za (jF ..) ?_|refine za (jG ..) ?_|refine za (jH ..) ?_|refine zp (λ_=>jA ..) ?_|refine zp (λ_=>jB ..) ?_|refine zp (λ_=>jC ..) ?_|refine zp (λ_=>jD ..) ?_|refine zp (λ_=>jE ..) ?_|refine zp (λ_=>jF ..) ?_|refine zp (λ_=>jG ..) ?_|refine zp (λ_=>jH ..) ?_|refine zA (jA ..) ?_|refine zA (jB ..) ?_|refine zA (jC ..) ?_|refine zA (jD ..) ?_|refine zA (jE ..) ?_|refine zA (jF ..) ?_|refine zA (jG ..) ?_|refine zA (jH ..) ?_|refine zk (jA ..) ?_|refine zk (jB ..) ?_|refine zk (jC ..) ?_|refine zk (jD ..) ?_|refine zk (jE ..) ?_|refine zk (jF ..) ?_|refine zk (jG ..) ?_|refine zk (jH ..) ?_|refine gG ?_|show AK _;intro J Z|refine gJ ?_|omega|exact trivial|exact .refl _|fail):p:=h
def zq {e:Int} {r:List Int}:zf (e::r)=0↔e=0/\zf r=0:=by
 simp only [zf];split<;>simp_all
def zmb {a b:List Int} (h:zf a=0):zf (a++b)=zf b:=by
 induction a with
 | nil=>rfl
 | cons e r ih=>obtain ⟨h1,h2⟩:=zq.1 h;subst h1;simp only [xaQ,zf,if_true];exact ih h2
def zjA {a b:List Int} (h:zf a≠0):zf (a++b)=zf a:=by
 induction a with
 | nil=>exact absurd rfl h
 | cons e r ih=>
  simp only [xaQ,zf] at h ⊢
  split
  ·rename_i h0;rw [if_pos h0] at h;exact ih h
  ·rfl
def zg5 {p:Prop} [Decidable p] {e:Int} (he:e≠0):(if p then e else 0)=0↔¬p:=by by_cases h:p<;>simp [h,he]
def zaW {p:Per} (h:zat p=0):0<=p.fro/\p.fro<=p.to/\p.to<=99999/\p.to - p.fro<=400/\1<=p.days/\p.days<=127:=by
 unfold zat at h;simp only [zq,zdl,zg5 (show (11:Int)≠0 by decide),zg5 (show (4:Int)≠0 by decide)] at h
 omega
def hasD (p:Per) (d:Int):Bool:=decide (p.fro<=d) && decide (d<=p.to) && inM p.days ((d+5) % 7)
def zW (p:Per):List Int:=(List.range (p.to - p.fro+1).toNat).flatMap λ(k:Nat)=>if inM p.days ((p.fro+k+5) % 7) then [p.fro+k] else []
def zbk {α:Type} (f:Nat->List α) {k n:Nat} (h:k < n):(List.range n).flatMap f=(List.range k).flatMap f++(f k++(List.range' (k+1) (n - (k+1))).flatMap f):=by
 have:List.range n=List.range k++(k::List.range' (k+1) (n - (k+1))):=by
  rw [List.range_eq_range',List.range_eq_range',show k::List.range' (k+1) (n - (k+1))=List.range' (0+1*k) (n - k) by rw [show n - k=(n - (k+1))+1 by omega,List.range'_succ];simp,List.range'_append,show k+(n - k)=n by omega]
 rw [this];simp
def zac {α:Type} (f:Nat->List α) (k:Nat):(List.range (k+1)).flatMap f=(List.range k).flatMap f++f k:=by
 rw [xa7];simp
def znP (b:Bool) (e:Int):Pure prog 217 [.b b,.i .i64 e] (.i .i64 (if b then e else 0)):=by
 refine pz func217 f217.eq_1 λhw X hX=>?_
 repeat' first|refine gC ?_ ?_<;>intro hc<;>try contradiction|refine gG ?_|show AK _;intro J Z|refine gJ ?_|omega|exact aT
 all_goals (subst hc;exact .refl _)
def znO (n a b:Int):Pure prog 218 [.i .i64 n,.i .i64 a,.i .i64 b] (.i .i64 (rng n a b)):=by
 refine pz func218 f218.eq_1 λhw X hX=>?_
 repeat' first|refine gC ?_ ?_<;>intro hc<;>try contradiction|refine za (znP _ _) ?_|refine gG ?_|show AK _;intro J Z|refine gJ ?_|omega|exact aT
 simp only [rng,xa3,decide_eq_true_eq];exact .refl _
def znQ (n:Int):Pure prog 147 [.i .i64 n] (.i .i64 (rng n 0 99999)):=by
 refine pz func147 f147.eq_1 λhw X hX=>?_
 have jA:=λu1 u2 u3=>znO u1 u2 u3;exact gD2
def zgD (m w:Int) (h0:0<=m) (h1:m < 128) (h2:0<=w) (h3:w < 7):Pure prog 219 [.i .i64 m,.i .i64 w] (.b (inM m w)):=by
 refine pz func219 f219.eq_1 λhw X hX=>?_
 repeat' first|refine gC ?_ ?_<;>intro hc<;>try contradiction|refine gG ?_|show AK _;intro J Z|refine gJ ?_|omega|exact aT
 have:=zvS m.toNat (by omega) w.toNat (by omega)
 simp only [Int.ofNat_eq_natCast,xbT h0,xbT h2] at this;show Weak (.b (decide (bits .and .i64 (m.fdiv (2 ^ min w.toNat 64)) 1=1))) _;rw [this];exact .refl _
def zi2 (d:Int) (h0:0<=d) (h1:d<=99999):Pure prog 220 [.i .i64 d] (.i .i64 ((d+5) % 7)):=by
 refine pz func220 f220.eq_1 λhw X hX=>?_
 repeat' first|refine gC ?_ ?_<;>intro hc<;>try contradiction|refine gG ?_|show AK _;intro J Z|refine gJ ?_|omega|exact aT
 rw [xb5 (by omega)]
 exact .refl _
def zi3 (l:List Int):Pure prog 145 [.sl 1 (l.map (.i .i64))] (.i .i64 (zf l)):=by
 refine pz func145 f145.eq_1 λhw X hX=>?_
 simp only [wfs,PV.wf,xaf,maxLen] at hw
 repeat' first|refine gC ?_ ?_<;>intro hc<;>try contradiction|refine gG ?_|show AK _;intro J Z|refine gJ ?_|omega|exact aT
 refine zi (κ:=Nat) (λi=>⟨[(5,.p (.sl 1 (l.map (.i .i64)))),(6,.p (.i .i64 l.length)),(7,.p (.i .i64 i))],[],[],false⟩) (λi=>i<=l.length/\∀ x ∈ l.take i,x=0) (λi=>l.length - i) 0 ?_ ?_ ?_
 ·exact sR
 ·simp
 ·intro i hi
  repeat first|refine gG ?_|show AK _;intro J Z|refine gJ ?_|omega|exact aT
  (refine gC ?_ ?_<;>intro hc<;>try contradiction)
  ·obtain ⟨x,hx⟩:=zm (i:=i) (l:=l) (by omega)
   have qe:=@hx;repeat' first|refine gC ?_ ?_<;>intro hc<;>try contradiction|refine gG ?_|show AK _;intro J Z|refine gJ ?_|omega|exact aT
   ·rw [zT hi.2 hx hc];exact .refl _
   ·exact ⟨i+1,⟨by omega,zaB hi.2 hx hc⟩,by omega,by simp⟩
  ·repeat' first|refine gC ?_ ?_<;>intro hc<;>try contradiction|refine gG ?_|show AK _;intro J Z|refine gJ ?_|omega|exact aT
   have e:i=l.length:=by omega
   subst e;rw [z4 hi.2];exact .refl _
def zcs (p:Per):Pure prog 146 [p.pv] (.i .i64 (zat p)):=by
 refine pz func146 f146.eq_1 λhw X hX=>?_
 have qe:=@qR;repeat' first|refine gC ?_ ?_<;>intro hc<;>try contradiction|refine za (znQ _) ?_|refine za (zi3 [_,_]) ?_|refine gG ?_|show AK _;intro J Z|refine gJ ?_|omega|exact aT
 ·have:zat p=zf ([rng p.fro 0 99999,rng p.to 0 99999]++[if p.to < p.fro then 11 else 0,if 400 < p.to - p.fro then 4 else 0,rng p.days 1 127]):=rfl
  rw [this,zjA hc];exact .refl _
 ·have h1:=hc;simp only [zq,zdl] at h1;have qe:=@qR;repeat' first|refine gC ?_ ?_<;>intro hc<;>try contradiction|refine za (znP _ _) ?_|refine za (znO _ _ _) ?_|refine za (zi3 [_,_,_]) ?_|refine gG ?_|show AK _;intro J Z|refine gJ ?_|omega|exact aT
  have:zat p=zf ([rng p.fro 0 99999,rng p.to 0 99999]++[if p.to < p.fro then 11 else 0,if 400 < p.to - p.fro then 4 else 0,rng p.days 1 127]):=rfl
  rw [this,zmb hc];exact .refl _
def zug (p:Per) (d:Int) (h0:0<=d) (h1:d<=99999) (h2:0<=p.days) (h3:p.days < 128):Pure prog 148 [p.pv,.i .i64 d] (.b (hasD p d)):=by
 refine pz func148 f148.eq_1 λhw X hX=>?_
 have qe:=@qR;repeat' first|refine gC ?_ ?_<;>intro hc<;>try contradiction|refine zp (λ_=>zi2 _ h0 h1) ?_|(show zh _ _ _ _ (⟨_,.call 219,_,_,_⟩::_) _ _;refine zbh (hf:=λhc=>(by first|exact zgD p.days ((d+5) % 7) h2 h3 (by omega) (by omega)|(simp only [qH,zdl] at hc;exact zgD p.days ((d+5) % 7) h2 h3 (by omega) (by omega)))) (hn:=?_))|refine gG ?_|show AK _;intro J Z|refine gJ ?_|omega|exact aT
 all_goals exact .refl _
def zdg {α β:Type} {l:List α} {k:Nat} {d:α} (f:α->β) (h:l[k]?=some d):(l.take (k+1)).map f=(l.take k).map f++[f d]:=by
 rw [xaK,h];simp
def zgr {α:Type} {l:List α} {k:Nat} {d:α} (h:l[k]?=some d):(l.take k).length=k:=by
 have:=(xaa.1 h).1;simp;omega
def zcE (p:Per):(zW p).length<=(p.to - p.fro+1).toNat:=by
 unfold zW;generalize (p.to - p.fro+1).toNat=n
 induction n with
 | zero=>simp
 | succ n ih=>rw [zac,xae];split<;>simp only [xaE,xbr]<;>omega
abbrev zmI (s:ByteArray) (i:Nat):Int:=((s[i]?.getD 0).toNat:Int)
def zuO (c:Int):Bool:=decide (65<=c) && decide (c<=90) || decide (97<=c) && decide (c<=122)
def zfZ (i:Nat) (c:Int):Bool:=zuO c || !(decide (i=0)) && (decide (c=95) || decide (48<=c) && decide (c<=57))
def zcA (s:ByteArray):Bool:=!(decide (s.size=0) || decide (24 < s.size)) && (List.range s.size).all λi=>zfZ i (zmI s i)
def zjr {s:ByteArray} (h:(s.size:Int)=0\/24 < (s.size:Int)):zcA s=false:=by
 have:(decide (s.size=0) || decide (24 < s.size))=true:=by simp only [xa3,decide_eq_true_eq];omega
 simp only [zcA,this,xam,xbs]
def zlX {s:ByteArray} {i:Nat} (h:¬(s.size:Int)=0/\(s.size:Int)<=24) (hi:i<=s.size/\∀ j < i,zfZ j (zmI s j)=true) (he:¬i < s.size):zcA s=true:=by
 have:(decide (s.size=0) || decide (24 < s.size))=false:=by simp only [xbd,decide_eq_false_iff_not];omega
 simp only [zcA,this,xal,xbo,xaB,xaV];exact λj hj=>hi.2 j (by omega)
def zoq {s:ByteArray} {i:Nat} (hi:i < s.size) (hn:zfZ i (zmI s i)=false):zcA s=false:=by
 cases h:zcA s
 ·rfl
 ·simp only [zcA,xap,xaB,xaV] at h;rw [h.2 i hi] at hn;exact hn
def zif (s:ByteArray) (i:Nat) (h:i < s.size):((Utf8.decode s i).1:Int)=zmI s i/\zmI s i < 128/\(Utf8.decode s i).2=1\/128<=((Utf8.decode s i).1:Int)/\128<=zmI s i/\1<=(Utf8.decode s i).2:=by
 have e:zmI s i=((s[i]'h).toNat:Int):=by simp only [zmI,getElem?_pos s i h,xa4]
 by_cases ha:(s[i]'h).toNat < 128
 ·have:=decode_ascii s i h ha
  left;rw [this,e];simp;omega
 ·have:=decode_high s i h (by omega)
  right;rw [e];omega
def zbD (x:ByteArray):Pure prog 153 [.s x] (.b (zcA x)):=by
 refine pz func153 f153.eq_1 λhw X hX=>?_
 simp only [wfs,PV.wf,maxLen] at hw
 repeat' first|refine gC ?_ ?_<;>intro hc<;>try contradiction|refine gG ?_|show AK _;intro J Z|refine gJ ?_|omega|exact aT
 ·rw [zjr hc];exact .refl _
 refine zi (κ:=Nat) (λi=>⟨[(0,.p (.s x)),(15,.it 15)],[(15,.sit x i)],[],false⟩) (λi=>i<=x.size/\∀ j < i,zfZ j (zmI x j)=true) (λi=>x.size - i) 0 ?_ ?_ ?_
 ·exact sR
 ·simp
 ·intro i hi
  by_cases hlt:i < x.size
  ·have qe:=aI @nextV.eq_1 (aI @nextP.eq_1 (aI @hlt @maxLen.eq_1));repeat' first|refine gC ?_ ?_<;>intro hc<;>try contradiction|refine gG ?_|show AK _;intro J Z|refine gJ ?_|omega|exact aT
   ·rw [zoq hlt];exact .refl _;have:=zif x i hlt;simp only [zfZ,zuO,zmI] at this ⊢;simp;omega
   ·have hd:=zif x i hlt;have h1:zmI x i < 128/\(Utf8.decode x i).2=1:=by omega
    refine ⟨i+1,⟨by omega,λj hj=>?_⟩,by omega,by rw [h1.2]⟩
    by_cases e:j=i
    ·subst e;simp only [zfZ,zuO,zmI] at hd h1 ⊢;simp;omega
    ·exact hi.2 j (by omega)
  ·have qe:=aI @nextV.eq_1 (aI @nextP.eq_1 (aI @hlt @maxLen.eq_1));repeat' first|refine gC ?_ ?_<;>intro hc<;>try contradiction|refine gG ?_|show AK _;intro J Z|refine gJ ?_|omega|exact aT
   rw [zlX ‹_› hi (by omega)];exact .refl _
def zvB (p:Per) (k:Nat):List (List PV):=if inM p.days ((p.fro+k+5) % 7) then [[.i .i64 (p.fro+k)]] else []
def zml (p:Per) (n:Nat):List (List PV):=(List.range n).flatMap (zvB p)
def zr7 (p:Per):zml p (p.to - p.fro+1).toNat=(zW p).map λd=>[.i .i64 d]:=by
 simp only [zml,zvB,zW,List.map_flatMap]
 congr 1;funext k;simp only [zvB];split<;>rfl
def zuQ (p:Per) (h:zat p=0):zpr prog 278 [.ip p.pv 0] ((zW p).map λd=>[.i .i64 d]):=by
 have hp:=zaW h;rw [<-zr7];refine zg4 (cF func278 f278.eq_1) (by simp) λhw X hX=>?_
 simp only [zbn]
 repeat' first|refine gC ?_ ?_<;>intro hc<;>try contradiction|refine gG ?_|show AK _;intro J Z|refine gJ ?_|omega|exact aT
 refine zi (κ:=Nat) (λk=>⟨[(0,.yield),(1,.p (.ip p.pv 0)),(3,.p (.i .i64 (p.fro+k)))],[],zml p k,false⟩) (λk=>k<=(p.to - p.fro+1).toNat) (λk=>(p.to - p.fro+1).toNat - k) 0 ?_ ?_ ?_
 ·refine gJ ?_;simp [zml]
 ·simp
 ·intro k hk
  repeat' first|refine gC ?_ ?_<;>intro hc<;>try contradiction|refine gG ?_|show AK _;intro J Z|refine gJ ?_|omega|exact aT
  ·have hc':k < (p.to - p.fro+1).toNat:=by omega
   have hs:=zbk (zvB p) hc'
   by_cases hm:inM p.days ((p.fro+k+5) % 7)=true
   ·simp only [zvB,hm,if_true,List.singleton_append] at hs;have qe:=@hm;repeat' first|refine gC ?_ ?_<;>intro hc<;>try contradiction|refine zbM (hf:=zi2 _ (by omega) (by omega)) (hn:=?_)|refine zbM (hf:=zgD _ _ (by omega) (by omega) (by omega) (by omega)) (hn:=?_)|refine gG ?_|show AK _;intro J Z|refine gJ ?_|omega|exact aT
    have qe:=@hm;(show zh _ _ _ _ (⟨_,.callv,_,_,_⟩::_) _ _;refine zgv (by first|rfl|(simp (disch:=omega) only [qG,qe,seval]<;>rfl)) (by simp (disch:=omega) only [qS,qe,seval]) (by simp (disch:=omega) only [qS,qe,seval]<;>rfl) (by simp (disch:=omega) only [qS,qe,seval];try trivial) rfl _ (hs) ?_;intro b;(refine zF ?_))
    have qe:=@hm;repeat' first|refine gC ?_ ?_<;>intro hc<;>try contradiction|refine gG ?_|show AK _;intro J Z|refine gJ ?_|omega|exact aT
    ·subst hc;exact .inl rfl
    ·subst hc;refine ⟨k+1,by omega,by omega,by simp;omega,?_,rfl⟩
     simp only [zml,zac,zvB,hm];simp
   ·simp only [Bool.not_eq_true] at hm;have qe:=@hm;repeat' first|refine gC ?_ ?_<;>intro hc<;>try contradiction|refine zbM (hf:=zi2 _ (by omega) (by omega)) (hn:=?_)|refine zbM (hf:=zgD _ _ (by omega) (by omega) (by omega) (by omega)) (hn:=?_)|(show zh _ _ _ _ (⟨_,.callv,_,_,_⟩::_) _ _;refine zbg (q:=(.b false)) (by first|rfl|(simp (disch:=omega) only [qG,qe,seval]<;>rfl)) ?_;(try (refine zF ?_)))|refine gG ?_|show AK _;intro J Z|refine gJ ?_|omega|exact aT
    refine ⟨k+1,by omega,by omega,by simp;omega,?_⟩
    simp only [zml,zac,zvB,hm];simp
  ·repeat' first|refine gC ?_ ?_<;>intro hc<;>try contradiction|refine gG ?_|show AK _;intro J Z|refine gJ ?_|omega|exact aT
   have e:k=(p.to - p.fro+1).toNat:=by omega
   subst e;exact .inr rfl
def zuj (d:Int):Pure prog 255 [.i .i64 d] (.b true):=by
 refine pz func255 f255.eq_1 λhw X hX=>?_
 exact gD0
def zuk (p:Per):Pure prog 254 [p.pv] (.fn (.func 278) [] [.ip p.pv 0]):=by
 refine pz func254 f254.eq_1 λhw X hX=>?_
 exact gD0
def zul (p:Per) (h:zat p=0):Pure prog 253 [.fn (.func 278) [] [.ip p.pv 0],.fn (.func 255) [] []] (.sl 1 ((zW p).map (.i .i64))):=by
 refine pz func253 f253.eq_1 λhw X hX=>?_
 repeat' first|refine gC ?_ ?_<;>intro hc<;>try contradiction|refine gG ?_|show AK _;intro J Z|refine gJ ?_|omega|exact aT
 have hp:=zaW h;have hn:=zcE p;refine zaO 100 3 1 [(3,.lp 3 0),(5,.lp 5 0),(7,.p (.fn (.func 278) [] [.ip p.pv 0]))] [(3,.box [.p (.fn (.func 255) [] [])] false),(5,.box [.row 100 0] false)] ?_ ?_
 ·simp only [Own,zaL,zaA,zbr,zax,qS,seval]
 refine zcm rfl (zuQ p h) ?_ ?_ [(3,.lp 3 0),(5,.lp 5 0),(7,.p (.fn (.func 278) [] [.ip p.pv 0]))] (λk=>[(3,.box [.p (.fn (.func 255) [] [])] false),(5,.box [.row 100 k] false),(100,.row 3 1 (((zW p).take k).map (.i .i64)) false)]) (λ_=>[]) ?_ ?_ ?_
 ·simp
 ·simp [hX]
 ·exact sE
 ·intro k t ht X' ro' hX';simp only [xah,xac] at ht;obtain ⟨d,hd,rfl⟩:=ht;have hl:=zgr hd;have hk:=(xaa.1 hd).1;simp only [qS,seval]
  repeat' first|refine gC ?_ ?_<;>intro hc<;>try contradiction|refine gG ?_|show AK _;intro J Z|refine gJ ?_|omega|exact aT
  intro X1 hX1;have qe:=aI qR (aI @hl (zdg (PV.i .i64) hd));repeat' first|refine gC ?_ ?_<;>intro hc<;>try contradiction|refine zk (zuj _) ?_|refine gG ?_|show AK _;intro J Z|refine gJ ?_|omega|exact aT
 ·simp only [xaf];have qe:=@List.take_length.{0};exact gD0
def zhr {a b c d:PV} (h1:Weak a b) (h2:Weak c d):Weak (.tup [a,c]) (.tup [b,d]):=by
 refine .tup rfl λj x y hx hy=>?_
 match j with
 | 0=>simp at hx hy;subst hx;subst hy;exact h1
 | 1=>simp at hx hy;subst hx;subst hy;exact h2
 | j+2=>simp at hx
def zdf (p:Per):List Int:=if zat p=0 then zW p else []
def zi7 (p:Per):Pure prog 201 [p.pv] (.tup [.sl 1 ((zdf p).map (.i .i64)),.i .i64 (zat p)]):=by
 refine pz func201 f201.eq_1 λhw X hX=>?_
 repeat' first|refine gC ?_ ?_<;>intro hc<;>try contradiction|refine za (zcs _) ?_|refine za (zuk _) ?_|refine za (zul p hc) ?_|refine gG ?_|show AK _;intro J Z|refine gJ ?_|omega|exact aT
 ·rw [zdf,if_neg hc];exact zhr (.nilsl _) (.refl _)
 ·rw [zdf,if_pos hc,hc];exact .refl _
def zsZ (p:Per) (d:Int):Int:=zf [zat p,rng d 0 99999]
def zs0 (p:Per) (d:Int):Bool:=decide (zsZ p d=0) && hasD p d
def zi6 (p:Per) (d:Int):Pure prog 84 [p.pv,.i .i64 d] (.tup [.b (zs0 p d),.i .i64 (zsZ p d)]):=by
 refine pz func84 f84.eq_1 λhw X hX=>?_
 have qe:=@qR;repeat' first|refine gC ?_ ?_<;>intro hc<;>try contradiction|refine za (zcs _) ?_|refine za (znQ _) ?_|refine za (zi3 [_,_]) ?_|refine gG ?_|show AK _;intro J Z|refine gJ ?_|omega|exact aT
 ·have:zsZ p d≠0:=hc;simp only [zs0,this,decide_false,xbs];exact .refl _
 ·have h0:zsZ p d=0:=hc;have h1:=h0;simp only [zsZ,zq,zdl] at h1;have hp:=zaW h1.1
  repeat' first|refine gC ?_ ?_<;>intro hc<;>try contradiction|refine za (zug p d (by omega) (by omega) (by omega) (by omega)) ?_|refine gG ?_|show AK _;intro J Z|refine gJ ?_|omega|exact aT
  simp only [zs0,h0,decide_true,xbo];exact .refl _
abbrev s0:ByteArray:=bs []
abbrev sA:ByteArray:=bs [65]
abbrev sD:ByteArray:=bs [68]
abbrev sT:ByteArray:=bs [84]
structure Lim where
 name:ByteArray
 kind:ByteArray
 term:ByteArray
 len:Int
 step:Int
 fro:Int
 to:Int
 per:Per
 most:Int
abbrev Lim.cells (l:Lim):List PV:=[.s l.name,.s l.kind,.s l.term,.i .i64 l.len,.i .i64 l.step,.i .i64 l.fro,.i .i64 l.to,.i .i64 l.per.fro,.i .i64 l.per.to,.i .i64 l.per.days,.i .i64 l.most]
abbrev Lim.pv (l:Lim):PV:=.agg l.cells
structure Mov where
 moment:Int
 kind:ByteArray
 term:ByteArray
 seats:Int
 size:Int
 noise:Int
 name:ByteArray
abbrev Mov.pv (m:Mov):PV:=.agg [.i .i64 m.moment,.s m.kind,.s m.term,.i .i64 m.seats,.i .i64 m.size,.i .i64 m.noise,.s m.name]
structure Req where
 name:ByteArray
 carrier:ByteArray
 kind:ByteArray
 term:ByteArray
 partner:ByteArray
 link:ByteArray
 per:Per
 minute:Int
 seats:Int
 size:Int
 noise:Int
abbrev Req.pv (r:Req):PV:=.agg [.s r.name,.s r.carrier,.s r.kind,.s r.term,.s r.partner,.s r.link,.i .i64 r.per.fro,.i .i64 r.per.to,.i .i64 r.per.days,.i .i64 r.minute,.i .i64 r.seats,.i .i64 r.size,.i .i64 r.noise]
structure Win where
 lim:Int
 beg:Int
 cnt:Int
abbrev Win.pv (w:Win):PV:=.agg [.i .i64 w.lim,.i .i64 w.beg,.i .i64 w.cnt]
def zcC (k:ByteArray):Int:=if ¬k=sA/\¬k=sD then 13 else 0
def zmF (s:ByteArray):Int:=if ¬s=s0/\zcA s=false then 8 else 0
def zaG (s:ByteArray):Int:=if zcA s=false then 8 else 0
def zuK (a b c:Int):Int:=zf [rng a 0 999,rng b 0 9,rng c 0 99]
def zed (m:Mov):Int:=zf [rng m.moment 0 143999999,zcC m.kind,zmF m.term,zuK m.seats m.size m.noise,zaG m.name]
def zdB (r:Req):Int:=zf [zaG r.name,zcC r.kind,zmF r.term,zat r.per,rng r.minute 0 1439,zuK r.seats r.size r.noise]
def zjk (k:ByteArray):Int:=if ¬k=sA/\¬k=sD/\¬k=sT then 13 else 0
def zaR (l:Lim):Int:=zf [zaG l.name,zjk l.kind,zmF l.term,rng l.len 1 1440,rng l.step 1 1440,rng l.fro 0 1439,rng l.to 0 1439,if l.to < l.fro then 11 else 0,zat l.per,rng l.most 0 999999999]
def zbN (b:Bool) (e:Int):Pure prog 89 [.b b,.i .i64 e] (.i .i64 (if b then e else 0)):=by
 refine pz func89 f89.eq_1 λhw X hX=>?_
 repeat' first|refine gC ?_ ?_<;>intro hc<;>try contradiction|refine gG ?_|show AK _;intro J Z|refine gJ ?_|omega|exact aT
 all_goals (subst hc;exact .refl _)
def zeQ (n a b:Int):Pure prog 155 [.i .i64 n,.i .i64 a,.i .i64 b] (.i .i64 (rng n a b)):=by
 refine pz func155 f155.eq_1 λhw X hX=>?_
 repeat' first|refine gC ?_ ?_<;>intro hc<;>try contradiction|refine za (zbN _ _) ?_|refine gG ?_|show AK _;intro J Z|refine gJ ?_|omega|exact aT
 simp only [rng,xa3,decide_eq_true_eq];exact .refl _
def zbu (l:List Int):Pure prog 87 [.sl 1 (l.map (.i .i64))] (.i .i64 (zf l)):=by
 refine pz func87 f87.eq_1 λhw X hX=>?_
 simp only [wfs,PV.wf,xaf,maxLen] at hw
 repeat' first|refine gC ?_ ?_<;>intro hc<;>try contradiction|refine gG ?_|show AK _;intro J Z|refine gJ ?_|omega|exact aT
 refine zi (κ:=Nat) (λi=>⟨[(5,.p (.sl 1 (l.map (.i .i64)))),(6,.p (.i .i64 l.length)),(7,.p (.i .i64 i))],[],[],false⟩) (λi=>i<=l.length/\∀ x ∈ l.take i,x=0) (λi=>l.length - i) 0 ?_ ?_ ?_
 ·exact sR
 ·simp
 ·intro i hi
  repeat first|refine gG ?_|show AK _;intro J Z|refine gJ ?_|omega|exact aT
  (refine gC ?_ ?_<;>intro hc<;>try contradiction)
  ·obtain ⟨x,hx⟩:=zm (i:=i) (l:=l) (by omega)
   have qe:=@hx;repeat' first|refine gC ?_ ?_<;>intro hc<;>try contradiction|refine gG ?_|show AK _;intro J Z|refine gJ ?_|omega|exact aT
   ·rw [zT hi.2 hx hc];exact .refl _
   ·exact ⟨i+1,⟨by omega,zaB hi.2 hx hc⟩,by omega,by simp⟩
  ·repeat' first|refine gC ?_ ?_<;>intro hc<;>try contradiction|refine gG ?_|show AK _;intro J Z|refine gJ ?_|omega|exact aT
   have e:i=l.length:=by omega
   subst e;rw [z4 hi.2];exact .refl _
def znS (s:ByteArray):Pure prog 199 [.s s] (.i .i64 (zcC s)):=by
 refine pz func199 f199.eq_1 λhw X hX=>?_
 repeat' first|refine gC ?_ ?_<;>intro hc<;>try contradiction|refine za (zbN _ _) ?_|refine gG ?_|show AK _;intro J Z|refine gJ ?_|omega|exact aT
 simp only [zcC,xap,xa6,decide_eq_false_iff_not,decide_eq_true_eq];exact .refl _
def zdS (s:ByteArray):Pure prog 154 [.s s] (.i .i64 (zmF s)):=by
 refine pz func154 f154.eq_1 λhw X hX=>?_
 repeat' first|refine gC ?_ ?_<;>intro hc<;>try contradiction|refine zp (λ_=>zbD _) ?_|refine za (zbN _ _) ?_|refine gG ?_|show AK _;intro J Z|refine gJ ?_|omega|exact aT
 simp only [zmF,xap,xa6,decide_eq_false_iff_not,decide_eq_true_eq];exact .refl _
def znR (a b c:Int):Pure prog 200 [.i .i64 a,.i .i64 b,.i .i64 c] (.i .i64 (zuK a b c)):=by
 refine pz func200 f200.eq_1 λhw X hX=>?_
 have qe:=@qR;have jA:=λu1 u2 u3=>zeQ u1 u2 u3;have jB:=λu1 u2 u3=>zbu [u1,u2,u3];exact gD2
def zsP (m:Mov):Pure prog 124 [m.pv] (.i .i64 (zed m)):=by
 refine pz func124 f124.eq_1 λhw X hX=>?_
 have qe:=@qR;have jA:=λu1 u2 u3=>zeQ u1 u2 u3;have jB:=λu1=>znS u1;have jC:=λu1=>zdS u1;have jD:=λu1 u2 u3=>znR u1 u2 u3;have jE:=λu1=>zbD u1;have jF:=λu1 u2=>zbN u1 u2;have jG:=λu1 u2 u3 u4 u5=>zbu [u1,u2,u3,u4,u5];exact gD8
def zsQ (r:Req):Pure prog 121 [r.pv] (.i .i64 (zdB r)):=by
 refine pz func121 f121.eq_1 λhw X hX=>?_
 have qe:=@qR;have jA:=λu1 u2 u3=>zeQ u1 u2 u3;have jB:=λu1=>znS u1;have jC:=λu1=>zdS u1;have jD:=zcs r.per;have jE:=λu1 u2 u3=>znR u1 u2 u3;have jF:=λu1=>zbD u1;have jG:=λu1 u2=>zbN u1 u2;have jH:=λu1 u2 u3 u4 u5 u6=>zbu [u1,u2,u3,u4,u5,u6];exact gD8
abbrev zoz (s:ByteArray):PV:=.fn (.func 223) [] [.ip (.s s) 0]
def zui (s:ByteArray):Pure prog 222 [.s s] (zoz s):=by
 refine pz func222 f222.eq_1 λhw X hX=>?_
 exact gD0
def znN (m s:ByteArray):Pure prog 223 [.s m,.ip (.s s) 0] (.b (decide (m=s))):=by
 refine pz func223 f223.eq_1 λhw X hX=>?_
 exact gD0
def zuh (m:ByteArray):Pure prog 224 [.s m] (.b true):=by
 refine pz func224 f224.eq_1 λhw X hX=>?_
 exact gD0
def sDA:(bs [68]=bs [65])=False:=by decide
def sTA:(bs [84]=bs [65])=False:=by decide
def sTD:(bs [84]=bs [68])=False:=by decide
abbrev zxs:PV:=.mp [(.s sA,.agg [zoz sA]),(.s sD,.agg [zoz sD]),(.s sT,.agg [.fn (.func 224) [] []])]
def zc6:Pure prog 152 [] zxs:=by
 refine pz func152 f152.eq_1 λhw X hX=>?_
 have qe:=aI qR (aI @sDA (aI @sTA @sTD));have jA:=λu1=>zui u1;exact gD2
def zup (l:Lim) (n:ByteArray):Pure prog 157 [l.pv,.ip (.s n) 0] (.b (decide (l.name=n))):=by
 refine pz func157 f157.eq_1 λhw X hX=>?_
 exact gD0
def atL (n:ByteArray):List ByteArray->Int
 | []=>-1
 | x::r=>if x=n then 0 else if atL n r < 0 then -1 else atL n r+1
theorem ztf (n:ByteArray):∀ l,-1<=atL n l
 | []=>by simp [atL]
 | x::r=>by have:=ztf n r;simp only [atL];(repeat' split)<;>omega
theorem zjU {n:ByteArray}:∀ {l:List ByteArray} {i:Nat},(∀ x ∈ l.take i,x≠n)->l[i]?=some n->atL n l=i
 | [],i,_,h=>by simp at h
 | x::r,0,_,h=>by simp at h;simp [atL,h]
 | x::r,i+1,h,hx=>by
  have h0:x≠n:=h x (by simp)
  have:=zjU (l:=r) (i:=i) (λy hy=>h y (by simp [hy])) (by simpa using hx)
  simp only [atL,if_neg h0,this];rw [if_neg (by omega)];simp
theorem zjV {n:ByteArray}:∀ {l:List ByteArray},(∀ x ∈ l,x≠n)->atL n l=-1
 | [],_=>rfl
 | x::r,h=>by
  have h0:x≠n:=h x (by simp)
  have:=zjV (l:=r) λy hy=>h y (by simp [hy])
  simp only [atL,if_neg h0,this];rfl
def zuq (l:List Lim) (n:ByteArray):Pure prog 156 [.sl 11 (l.map Lim.pv),.fn (.func 157) [] [.ip (.s n) 0]] (.i .i64 (atL n (l.map Lim.name))):=by
 refine pz func156 f156.eq_1 λhw X hX=>?_
 simp only [wfs,PV.wf,xaf,maxLen] at hw
 repeat' first|refine gC ?_ ?_<;>intro hc<;>try contradiction|refine gG ?_|show AK _;intro J Z|refine gJ ?_|omega|exact aT
 refine zi (κ:=Nat) (λi=>⟨[(0,.p (.sl 11 (l.map Lim.pv))),(1,.p (.fn (.func 157) [] [.ip (.s n) 0])),(7,.p (.i .i64 l.length)),(8,.p (.i .i64 i))],[],[],false⟩) (λi=>i<=l.length/\∀ x ∈ (l.map Lim.name).take i,x≠n) (λi=>l.length - i) 0 ?_ ?_ ?_
 ·exact sR
 ·simp
 ·intro i hi
  repeat first|refine gG ?_|show AK _;intro J Z|refine gJ ?_|omega|exact aT
  (refine gC ?_ ?_<;>intro hc<;>try contradiction)
  ·obtain ⟨x,hx⟩:=zm (i:=i) (l:=l) (by omega)
   have qe:=@hx;repeat' first|refine gC ?_ ?_<;>intro hc<;>try contradiction|refine zk (zup x n) ?_|refine gG ?_|show AK _;intro J Z|refine gJ ?_|omega|exact aT
   ·rw [zjU hi.2 (by simp [hx,hc])];exact .refl _
   ·refine ⟨i+1,⟨by omega,λy hy=>?_⟩,by omega,by simp⟩
    rw [<-xbk,zdg _ hx] at hy
    rcases xaD.1 hy with h|h
    ·exact hi.2 y (by rw [<-xbk];exact h)
    ·simp at h;subst h;exact hc
  ·repeat' first|refine gC ?_ ?_<;>intro hc<;>try contradiction|refine gG ?_|show AK _;intro J Z|refine gJ ?_|omega|exact aT
   have e:i=l.length:=by omega
   subst e;rw [zjV (λy hy=>hi.2 y (by rw [xag (by simp)];exact hy))];exact .refl _
def zw1 (l:List Lim) (n:ByteArray):Pure prog 90 [.sl 11 (l.map Lim.pv),.s n] (.i .i64 (atL n (l.map Lim.name))):=by
 refine pz func90 f90.eq_1 λhw X hX=>?_
 have jA:=zuq l n;exact gD2
def zw2 (l:Lim):Pure prog 88 [l.pv] (.i .i64 (zaR l)):=by
 refine pz func88 f88.eq_1 λhw X hX=>?_
 have key:∀ k:Int,zjk l.kind=k->zf [if zcA l.name=false then 8 else 0,k,zmF l.term,rng l.len 1 1440,rng l.step 1 1440,rng l.fro 0 1439,rng l.to 0 1439,if l.to < l.fro then 11 else 0,zat l.per,rng l.most 0 999999999]=zaR l:=λk hk=>by subst hk;rfl
 by_cases hA:l.kind=sA
 ·have hA':=eq_true hA;have qe:=aI qR @hA';repeat' first|refine gC ?_ ?_<;>intro hc<;>try contradiction|refine za (zc6) ?_|refine za (zeQ _ _ _) ?_|refine za (zdS _) ?_|refine za (zcs l.per) ?_|refine za (zbD _) ?_|refine za (zbN _ _) ?_|refine za (zbu [_,_,_,_,_,_,_,_,_,_]) ?_|refine gG ?_|show AK _;intro J Z|refine gJ ?_|omega|exact aT
  rw [<-key 0 (by simp [zjk,hA])];exact .refl _
 have hA':=eq_false hA
 by_cases hD:l.kind=sD
 ·have hD':=eq_true hD;have qe:=aI qR (aI @hA' @hD');repeat' first|refine gC ?_ ?_<;>intro hc<;>try contradiction|refine za (zc6) ?_|refine za (zeQ _ _ _) ?_|refine za (zdS _) ?_|refine za (zcs l.per) ?_|refine za (zbD _) ?_|refine za (zbN _ _) ?_|refine za (zbu [_,_,_,_,_,_,_,_,_,_]) ?_|refine gG ?_|show AK _;intro J Z|refine gJ ?_|omega|exact aT
  rw [<-key 0 (by simp [zjk,hD])];exact .refl _
 have hD':=eq_false hD
 by_cases hT:l.kind=sT
 ·have hT':=eq_true hT;have qe:=aI qR (aI @hA' (aI @hD' @hT'));repeat' first|refine gC ?_ ?_<;>intro hc<;>try contradiction|refine za (zc6) ?_|refine za (zeQ _ _ _) ?_|refine za (zdS _) ?_|refine za (zcs l.per) ?_|refine za (zbD _) ?_|refine za (zbN _ _) ?_|refine za (zbu [_,_,_,_,_,_,_,_,_,_]) ?_|refine gG ?_|show AK _;intro J Z|refine gJ ?_|omega|exact aT
  rw [<-key 0 (by simp [zjk,hT])];exact .refl _
 have hT':=eq_false hT;have qe:=aI qR (aI @hA' (aI @hD' @hT'));repeat' first|refine gC ?_ ?_<;>intro hc<;>try contradiction|refine za (zc6) ?_|refine za (zeQ _ _ _) ?_|refine za (zdS _) ?_|refine za (zcs l.per) ?_|refine za (zbD _) ?_|refine za (zbN _ _) ?_|refine za (zbu [_,_,_,_,_,_,_,_,_,_]) ?_|refine gG ?_|show AK _;intro J Z|refine gJ ?_|omega|exact aT
 rw [<-key 13 (by simp [zjk,hA,hD,hT])];exact .refl _
structure Lea where
 carrier:ByteArray
 fro:Int
 to:Int
abbrev Lea.pv (l:Lea):PV:=.agg [.s l.carrier,.i .i64 l.fro,.i .i64 l.to]
structure SlR where
 req:Req
 holder:ByteArray
 ls:PV
 sh:PV
abbrev SlR.cells (s:SlR):List PV:=[.s s.req.name,.s s.req.carrier,.s s.req.kind,.s s.req.term,.s s.req.partner,.s s.req.link,.i .i64 s.req.per.fro,.i .i64 s.req.per.to,.i .i64 s.req.per.days,.i .i64 s.req.minute,.i .i64 s.req.seats,.i .i64 s.req.size,.i .i64 s.req.noise,.s s.holder,s.ls,s.sh]
abbrev SlR.pv (s:SlR):PV:=.agg s.cells
structure Slt where
 req:Req
 holder:ByteArray
 ls:List Lea
 sh:List ByteArray
abbrev Slt.raw (s:Slt):SlR:=⟨s.req,s.holder,.sl 3 (s.ls.map Lea.pv),.sl 1 (s.sh.map .s)⟩
abbrev Slt.cells (s:Slt):List PV:=[.s s.req.name,.s s.req.carrier,.s s.req.kind,.s s.req.term,.s s.req.partner,.s s.req.link,.i .i64 s.req.per.fro,.i .i64 s.req.per.to,.i .i64 s.req.per.days,.i .i64 s.req.minute,.i .i64 s.req.seats,.i .i64 s.req.size,.i .i64 s.req.noise,.s s.holder,.sl 3 (s.ls.map Lea.pv),.sl 1 (s.sh.map .s)]
abbrev Slt.pv (s:Slt):PV:=.agg s.cells
structure Wsh where
 req:Req
 rank:Int
abbrev Wsh.cells (w:Wsh):List PV:=[.s w.req.name,.s w.req.carrier,.s w.req.kind,.s w.req.term,.s w.req.partner,.s w.req.link,.i .i64 w.req.per.fro,.i .i64 w.req.per.to,.i .i64 w.req.per.days,.i .i64 w.req.minute,.i .i64 w.req.seats,.i .i64 w.req.size,.i .i64 w.req.noise,.i .i64 w.rank]
abbrev Wsh.pv (w:Wsh):PV:=.agg w.cells
structure Bk where
 slots:List Slt
 wait:List Wsh
abbrev Bk.pv (b:Bk):PV:=.agg [.sl 16 (b.slots.map Slt.pv),.sl 14 (b.wait.map Wsh.pv)]
def zvK (r:Req):Int:=zf [zaG r.name,zaG r.carrier,zaG r.partner,zmF r.term,zmF r.link,zcC r.kind,if r.link=r.name then 32 else 0,zat r.per,rng r.minute 0 1439,rng r.seats 0 999,rng r.size 1 9,rng r.noise 0 99]
def zsh (r:Req):Int:=zf [zvK r,if zW r.per=[] then 12 else 0]
def zdC (l:Lea):Int:=zf [zaG l.carrier,rng l.fro 0 99999,rng l.to 0 99999,if l.to < l.fro then 11 else 0]
def zfH (s:SlR) (l:Lea):Int:=zf [if l.fro < s.req.per.fro\/s.req.per.to < l.to then 30 else 0,if l.carrier=s.holder then 31 else 0]
def zcY (s:Slt) (i:Nat) (l:Lea):Int:=zf [zdC l,zfH s.raw l,if 0 < (i:Int)/\l.fro<=((s.ls[i - 1]?).getD l).to then 15 else 0]
def zhB (s:Slt) (i:Nat) (c:ByteArray):Int:=zf [zaG c,if c=s.holder then 31 else 0,if 0<=atL c (s.sh.take i) then 9 else 0]
def zin (s:Slt):Int:=zf [zsh s.req,zaG s.holder,if 8 < (s.ls.length:Int) then 5 else 0,zf (s.ls.mapIdx (zcY s)),if 4 < (s.sh.length:Int) then 5 else 0,zf (s.sh.mapIdx (zhB s))]
def zkY (w:Wsh):Int:=zf [zsh w.req,rng w.rank 0 999999999]
def zeJ (b:Bk) (i:Nat) (s:Slt):Int:=zf [zin s,if 0<=atL s.req.name ((b.slots.take i).map (·.req.name)) then 9 else 0]
theorem fE0:∀ {l:List Int},zf l=0->∀ x ∈ l,x=0
 | [],_,x,hx=>by cases hx
 | e::r,h,x,hx=>by
  by_cases he:e=0
  ·rw [zf,if_pos he] at h
   rcases xaA.1 hx with rfl|hx
   ·exact he
   ·exact fE0 h x hx
  ·rw [zf,if_neg he] at h;exact absurd h he
def zU (b:Bool) (e:Int):Pure prog 66 [.b b,.i .i64 e] (.i .i64 (if b then e else 0)):=by
 refine pz func66 f66.eq_1 λhw X hX=>?_
 repeat' first|refine gC ?_ ?_<;>intro hc<;>try contradiction|refine gG ?_|show AK _;intro J Z|refine gJ ?_|omega|exact aT
 all_goals (subst hc;exact .refl _)
def zeo (b:Bool) (e:Int):Pure prog 236 [.b b,.i .i64 e] (.i .i64 (if b then e else 0)):=by
 refine pz func236 f236.eq_1 λhw X hX=>?_
 repeat' first|refine gC ?_ ?_<;>intro hc<;>try contradiction|refine gG ?_|show AK _;intro J Z|refine gJ ?_|omega|exact aT
 all_goals (subst hc;exact .refl _)
def zki (n a b:Int):Pure prog 95 [.i .i64 n,.i .i64 a,.i .i64 b] (.i .i64 (rng n a b)):=by
 refine pz func95 f95.eq_1 λhw X hX=>?_
 repeat' first|refine gC ?_ ?_<;>intro hc<;>try contradiction|refine za (zU _ _) ?_|refine gG ?_|show AK _;intro J Z|refine gJ ?_|omega|exact aT
 simp only [rng,xa3,decide_eq_true_eq];exact .refl _
def zqC (n a b:Int):Pure prog 238 [.i .i64 n,.i .i64 a,.i .i64 b] (.i .i64 (rng n a b)):=by
 refine pz func238 f238.eq_1 λhw X hX=>?_
 repeat' first|refine gC ?_ ?_<;>intro hc<;>try contradiction|refine za (zeo _ _) ?_|refine gG ?_|show AK _;intro J Z|refine gJ ?_|omega|exact aT
 simp only [rng,xa3,decide_eq_true_eq];exact .refl _
def zw (l:List Int):Pure prog 39 [.sl 1 (l.map (.i .i64))] (.i .i64 (zf l)):=by
 refine pz func39 f39.eq_1 λhw X hX=>?_
 simp only [wfs,PV.wf,xaf,maxLen] at hw
 repeat' first|refine gC ?_ ?_<;>intro hc<;>try contradiction|refine gG ?_|show AK _;intro J Z|refine gJ ?_|omega|exact aT
 refine zi (κ:=Nat) (λi=>⟨[(5,.p (.sl 1 (l.map (.i .i64)))),(6,.p (.i .i64 l.length)),(7,.p (.i .i64 i))],[],[],false⟩) (λi=>i<=l.length/\∀ x ∈ l.take i,x=0) (λi=>l.length - i) 0 ?_ ?_ ?_
 ·exact sR
 ·simp
 ·intro i hi
  repeat first|refine gG ?_|show AK _;intro J Z|refine gJ ?_|omega|exact aT
  (refine gC ?_ ?_<;>intro hc<;>try contradiction)
  ·obtain ⟨x,hx⟩:=zm (i:=i) (l:=l) (by omega)
   have qe:=@hx;repeat' first|refine gC ?_ ?_<;>intro hc<;>try contradiction|refine gG ?_|show AK _;intro J Z|refine gJ ?_|omega|exact aT
   ·rw [zT hi.2 hx hc];exact .refl _
   ·exact ⟨i+1,⟨by omega,zaB hi.2 hx hc⟩,by omega,by simp⟩
  ·repeat' first|refine gC ?_ ?_<;>intro hc<;>try contradiction|refine gG ?_|show AK _;intro J Z|refine gJ ?_|omega|exact aT
   have e:i=l.length:=by omega
   subst e;rw [z4 hi.2];exact .refl _
def zqG (l:List Int):Pure prog 233 [.sl 1 (l.map (.i .i64))] (.i .i64 (zf l)):=by
 refine pz func233 f233.eq_1 λhw X hX=>?_
 simp only [wfs,PV.wf,xaf,maxLen] at hw
 repeat' first|refine gC ?_ ?_<;>intro hc<;>try contradiction|refine gG ?_|show AK _;intro J Z|refine gJ ?_|omega|exact aT
 refine zi (κ:=Nat) (λi=>⟨[(5,.p (.sl 1 (l.map (.i .i64)))),(6,.p (.i .i64 l.length)),(7,.p (.i .i64 i))],[],[],false⟩) (λi=>i<=l.length/\∀ x ∈ l.take i,x=0) (λi=>l.length - i) 0 ?_ ?_ ?_
 ·exact sR
 ·simp
 ·intro i hi
  repeat first|refine gG ?_|show AK _;intro J Z|refine gJ ?_|omega|exact aT
  (refine gC ?_ ?_<;>intro hc<;>try contradiction)
  ·obtain ⟨x,hx⟩:=zm (i:=i) (l:=l) (by omega)
   have qe:=@hx;repeat' first|refine gC ?_ ?_<;>intro hc<;>try contradiction|refine gG ?_|show AK _;intro J Z|refine gJ ?_|omega|exact aT
   ·rw [zT hi.2 hx hc];exact .refl _
   ·exact ⟨i+1,⟨by omega,zaB hi.2 hx hc⟩,by omega,by simp⟩
  ·repeat' first|refine gC ?_ ?_<;>intro hc<;>try contradiction|refine gG ?_|show AK _;intro J Z|refine gJ ?_|omega|exact aT
   have e:i=l.length:=by omega
   subst e;rw [z4 hi.2];exact .refl _
def zbv (s:ByteArray):Pure prog 158 [.s s] (.i .i64 (zaG s)):=by
 refine pz func158 f158.eq_1 λhw X hX=>?_
 repeat' first|refine gC ?_ ?_<;>intro hc<;>try contradiction|refine za (zbD _) ?_|refine za (zU _ _) ?_|refine gG ?_|show AK _;intro J Z|refine gJ ?_|omega|exact aT
 simp only [zaG,xa6];exact .refl _
def zqF (s:ByteArray):Pure prog 234 [.s s] (.i .i64 (zaG s)):=by
 refine pz func234 f234.eq_1 λhw X hX=>?_
 repeat' first|refine gC ?_ ?_<;>intro hc<;>try contradiction|refine za (zbD _) ?_|refine za (zeo _ _) ?_|refine gG ?_|show AK _;intro J Z|refine gJ ?_|omega|exact aT
 simp only [zaG,xa6];exact .refl _
def zb0 (n:Int):Pure prog 83 [.i .i64 n] (.i .i64 (rng n 0 99999)):=by
 refine pz func83 f83.eq_1 λhw X hX=>?_
 have jA:=λu1 u2 u3=>zki u1 u2 u3;exact gD2
def zqE (s:ByteArray):Pure prog 235 [.s s] (.i .i64 (zmF s)):=by
 refine pz func235 f235.eq_1 λhw X hX=>?_
 repeat' first|refine gC ?_ ?_<;>intro hc<;>try contradiction|refine zp (λ_=>zbD _) ?_|refine za (zeo _ _) ?_|refine gG ?_|show AK _;intro J Z|refine gJ ?_|omega|exact aT
 simp only [zmF,xap,xa6,decide_eq_false_iff_not,decide_eq_true_eq];exact .refl _
def zqD (s:ByteArray):Pure prog 237 [.s s] (.b (decide (s=sA) || decide (s=sD))):=by
 refine pz func237 f237.eq_1 λhw X hX=>?_
 exact gD0
def zl9 (s:ByteArray):(if (decide (s=sA) || decide (s=sD))=false then (13:Int) else 0)=zcC s:=by
 simp only [zcC,xbd,decide_eq_false_iff_not]
def zqQ (r:Req):Pure prog 184 [r.pv] (.i .i64 (zvK r)):=by
 refine pz func184 f184.eq_1 λhw X hX=>?_
 have qe:=@qR;repeat' first|refine gC ?_ ?_<;>intro hc<;>try contradiction|refine za (zqF _) ?_|refine za (zqE _) ?_|refine za (zqD _) ?_|refine za (zeo _ _) ?_|refine za (zcs r.per) ?_|refine za (zqC _ _ _) ?_|refine za (zqG [_,_,_,_,_,_,_,_,_,_,_,_]) ?_|refine gG ?_|show AK _;intro J Z|refine gJ ?_|omega|exact aT
 rw [zl9];exact .refl _
def zep (p:Per):Pure prog 132 [p.pv] (.tup [.i .i64 (zdf p).length,.i .i64 (zat p)]):=by
 refine pz func132 f132.eq_1 λhw X hX=>?_
 have qe:=@List.length_map.{0,0};have jA:=zi7 p;exact gD2
def zgG (r:Req):Pure prog 114 [r.pv] (.i .i64 (zsh r)):=by
 refine pz func114 f114.eq_1 λhw X hX=>?_
 have qe:=@qR;repeat' first|refine gC ?_ ?_<;>intro hc<;>try contradiction|refine za (zqQ r) ?_|refine za (zep r.per) ?_|refine za (zU _ _) ?_|refine za (zw [_,_]) ?_|refine gG ?_|show AK _;intro J Z|refine gJ ?_|omega|exact aT
 ·rw [show zsh r=zvK r by rw [zsh,zf,if_neg hc]];exact .refl _
 ·have hp:zat r.per=0:=by
   exact fE0 (show zf [zaG r.name,zaG r.carrier,zaG r.partner,zmF r.term,zmF r.link,zcC r.kind,if r.link=r.name then 32 else 0,zat r.per,rng r.minute 0 1439,rng r.seats 0 999,rng r.size 1 9,rng r.noise 0 99]=0 from hc) _ (by simp)
  have e:((zdf r.per).length:Int)=0↔zW r.per=[]:=by rw [zdf,if_pos hp];simp
  rw [show zsh r=zf [zat r.per,if ((zdf r.per).length:Int)=0 then 12 else 0] by
   rw [zsh,hc,hp];simp only [zf,if_true,e]]
  exact .refl _
def zkk (l:Lea):Pure prog 137 [l.pv] (.i .i64 (zdC l)):=by
 refine pz func137 f137.eq_1 λhw X hX=>?_
 have qe:=@qR;have jA:=λu1=>zbv u1;have jB:=λu1=>zb0 u1;have jC:=λu1 u2=>zU u1 u2;have jD:=λu1 u2 u3 u4=>zw [u1,u2,u3,u4];exact gD4
def zgI (l:Lea) (s:SlR):Pure prog 141 [l.pv,s.pv] (.i .i64 (zfH s l)):=by
 refine pz func141 f141.eq_1 λhw X hX=>?_
 have qe:=@qR;repeat' first|refine gC ?_ ?_<;>intro hc<;>try contradiction|refine za (zU _ _) ?_|refine za (zw [_,_]) ?_|refine gG ?_|show AK _;intro J Z|refine gJ ?_|omega|exact aT
 simp only [xa3,decide_eq_true_eq];exact .refl _
def zqW (l:Lea) (d:Int):Pure prog 149 [l.pv,.i .i64 d] (.b (decide (l.fro<=d) && decide (d<=l.to))):=by
 refine pz func149 f149.eq_1 λhw X hX=>?_
 exact gD0
def Pure.args {P:Program} {f:FuncId} {args args':List PV} {r:PV} (h:Pure P f args r) (hl:args'.length=args.length) (hw:∀ (j:Nat) (x y:PV),args'[j]?=some x->args[j]?=some y->Weak x y):Pure P f args' r:=
 ⟨h.1,λw B vs hB hr=>h.2 w B vs hB ⟨hr.1.trans hl,λj v p hv hp=>by
  have hj:j < args'.length:=by rw [hl];exact (xaa.1 hp).1
  exact (hw j _ p (xab hj) hp).rep (hr.2 j v _ hv (xab hj))⟩⟩
theorem zcD {α β:Type} {f:α->List β} {c:Nat}:∀ {l:List α},(∀ x ∈ l,(f x).length<=c)->(l.flatMap f).length<=l.length*c
 | [],_=>by simp
 | x::r,h=>by
  have h1:=h x (by simp)
  have h2:=zcD (l:=r) λy hy=>h y (by simp [hy])
  simp only [xaz,xae,xaE,Nat.succ_mul];omega
def zfg {α:Type} {l:List α} {p:α->Bool} {k:Nat} {x:α} (h:l[k]?=some x):(l.take (k+1)).filter p=(l.take k).filter p++(if p x then [x] else []):=by
 rw [xaK,h,List.filter_append];cases hp:p x<;>simp [xct,hp]
def zjB {α:Type} {l:List α} {p:α->Bool} {k:Nat}:((l.take k).filter p).length<=l.length:=by
 have:=xca p (l.take k);simp only [xai] at this;omega
def zrs (x:ByteArray):(x=x)=True:=eq_true rfl
def zig {p:Per} {d:Int} (h:d ∈ zW p):p.fro<=d/\d<=p.to/\inM p.days ((d+5) % 7)=true:=by
 obtain ⟨k,hk,hd⟩:=xaC.1 h
 split at hd
 ·simp at hd;subst hd;have:=xaV.1 hk;exact ⟨by omega,by omega,by assumption⟩
 ·cases hd
end Go.Proofs.YtijgimeokgbifaaGreat
