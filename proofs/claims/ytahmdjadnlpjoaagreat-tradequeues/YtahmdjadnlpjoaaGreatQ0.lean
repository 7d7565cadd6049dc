/- Contracts of functions that the proof uses, shared by the claims of this seat; no statement of its own. Part 70. No conditions. -/
import Derived.ProofKit
import Derived.OpenShut
import Derived.Carry
import Derived.OpenVars
import Derived.HandedShaped
import Derived.KernelRfl
import Derived.Laws.RangeAny
import Derived.Test.YtahmdjadnlpjoaaGreatK40
set_option linter.all false
set_option maxHeartbeats 8000000
namespace Go.Proofs.YtahmdjadnlpjoaaGreat
open Go.ChangeShapes Go.WideShapes Go.ChangeAt Go.RowKit
set_option linter.unusedVariables false
def yk (P:Program) (t:TypeId):Bool:=match P.underlying t with|some (.struct _)|some (.array _ _)=>true|_=>false
def yq (P:Program) (F:TypeId→Option (List CP)):List (TypeId × Nat)→Nat→Option (List CP)
 | [],_=>some []
 | p::r,off=>if p.2=off then (F p.1).bind fun c=>if P.cellsOf p.1=c.length then (yq P F r (off+c.length)).map (c++·) else none else none
def yU (P:Program):Nat→Nat→TypeId→Option (List CP)
 | 0,_,_=>none
 | n+1,sl,t=>match P.underlying t with
  | some .bool=>some [.b]
  | some (.int k)=>some [.i k]
  | some .string=>some [.s]
  | some (.slice e)=>match sl with
   | 0=>none
   | sl+1=>(yU P n sl e).bind fun c=>if P.cellsOf e=c.length∧(yk P e=true∨c.length=1)∧0 < c.length then some [.sl (yk P e) c] else none
  | some (.struct fs)=>(yq P (yU P n sl) (fs.toList.map fun f=>(f.type,f.offset)) 0).bind fun c=>if c.length=P.cellsOf t then some c else none
  | some (.array m e)=>(yq P (yU P n sl) ((List.range m).map fun i=>(e,i*P.cellsOf e)) 0).bind fun c=>if c.length=P.cellsOf t then some c else none
  | _=>none
def yan (ag:Bool) (l:List PV):PV:=if ag then .agg l else l.headD .any
def Fit:Nat→CP→PV→Prop
 | _,.b,p=>∃ x,p=.b x
 | _,.i k,p=>∃ n,p=.i k n
 | _,.s,p=>∃ x,p=.s x
 | 0,.sl _ _,_=>False
 | n+1,.sl ag cs,p=>∃ xs,p=.sl cs.length xs∧∀ x ∈ xs,∃ l,x=yan ag l∧FitAll (Fit n) cs l
theorem yA {α β:Type} {f:α→Option β}:∀ {l:List α} {r:List β},l.mapM f=some r→∀ x ∈ l,∃ y,f x=some y
 | [],_,_,x,hx=>by cases hx
 | a::l,r,h,x,hx=>by
  rw [List.mapM_cons] at h
  cases ha:f a with
  | none=>rw [ha] at h;cases h
  | some y=>
   rw [ha] at h
   simp only [Option.bind_eq_bind,Option.bind_some] at h
   cases hl:l.mapM f with
   | none=>rw [hl] at h;cases h
   | some ys=>
    rcases List.mem_cons.1 hx with rfl|hx
    ·exact ⟨y,ha⟩
    ·exact yA hl x hx
theorem yh {α β:Type} {f:α→Option β}:∀ {l:List α} {r:List β},l.mapM f=some r→r.length=l.length
 | [],r,h=>by simp at h;subst h;rfl
 | a::l,r,h=>by
  rw [List.mapM_cons] at h
  cases ha:f a with
  | none=>rw [ha] at h;cases h
  | some y=>
   rw [ha] at h
   simp only [Option.bind_eq_bind,Option.bind_some] at h
   cases hl:l.mapM f with
   | none=>rw [hl] at h;cases h
   | some ys=>
    rw [hl] at h
    simp only [Option.bind_some,Option.pure_def,Option.some.injEq] at h
    subst h
    simp [yh hl]
theorem yax {α β:Type} {f:α→Option β}:∀ {l:List α} {r:List β},l.mapM f=some r→∀ {i:Nat} {x:α},l[i]?=some x→f x=r[i]?
 | [],r,_,i,x,hx=>by simp at hx
 | a::l,r,h,i,x,hx=>by
  rw [List.mapM_cons] at h
  cases ha:f a with
  | none=>rw [ha] at h;cases h
  | some y=>
   rw [ha] at h
   simp only [Option.bind_eq_bind,Option.bind_some] at h
   cases hl:l.mapM f with
   | none=>rw [hl] at h;cases h
   | some ys=>
    rw [hl] at h
    simp only [Option.bind_some,Option.pure_def,Option.some.injEq] at h
    subst h
    cases i with
    | zero=>simp at hx;subst hx;simpa using ha
    | succ i=>simpa using yax hl (i:=i) (by simpa using hx)
theorem ycs {k:IntKind} {n:Int} (h:(Lit.int k n).wf=true):k.wrap n=n:=by
 cases k<;>simp [Lit.wf,IntKind.wrap,IntKind.min,IntKind.max,IntKind.signed,IntKind.bits] at *<;>omega
section
variable {H:Type} {enc:TypeId × Value→H} {P:Program} {w:World} {base:Nat} {sp:Nat→Bool} {held:Bool}
theorem ybK {a:Addr} {v:Value} (h:w.cell? a=some v):a.block < w.heap.size∧a.spot=none:=by
 unfold World.cell? at h
 split at h
 ·rename_i hh
  split at h
  ·cases h
  ·rename_i hs
   exact ⟨(Array.getElem?_eq_some_iff.1 hh).1,by simpa using hs⟩
 ·cases h
theorem yD {fuel n:Nat} {sl:Nat} {B:Nat→Prop} {cs:List Value}
  (ih:∀ {t:TypeId} {ds:List Value} {x:DataW H × List MemPlace} {c:List CP},(∀ v ∈ ds,v ∈ cs)→DataW.trod enc P w base sp held fuel t ds=some x→yU P n sl t=some c→∃ ps,Reps w B ds ps∧FitAll (Fit n) c ps) :
  ∀ (fl:List (TypeId × Nat)) (off:Nat) (c:List CP),(∀ p ∈ fl,∃ x,DataW.trod enc P w base sp held fuel p.1 ((cs.drop p.2).take (P.cellsOf p.1))=some x)→yq P (yU P n sl) fl off=some c→off+c.length≤cs.length →
   ∃ ps,Reps w B ((cs.drop off).take c.length) ps∧FitAll (Fit n) c ps
 | [],off,c,_,h,_=>by
  simp only [yq,Option.some.injEq] at h;subst h
  exact ⟨[],by simpa using Reps.nil,trivial⟩
 | p::r,off,c,hx,h,hl=>by
  simp only [yq] at h
  split at h
  ·rename_i ho
   obtain ⟨c1,h1,h⟩:=Option.bind_eq_some_iff.1 h
   split at h
   ·rename_i hc
    obtain ⟨c2,h2,rfl⟩:=Option.map_eq_some_iff.1 h
    obtain ⟨x,hx1⟩:=hx p (by simp)
    rw [ho,hc] at hx1
    obtain ⟨p1,r1,f1⟩:=ih (fun v hv=>List.mem_of_mem_drop (List.mem_of_mem_take hv)) hx1 h1
    obtain ⟨p2,r2,f2⟩:=yD ih r (off+c1.length) c2 (fun q hq=>hx q (by simp [hq])) h2 (by simp at hl;omega)
    refine ⟨p1++p2,?_,f1.app f2⟩
    have e:(cs.drop off).take (c1++c2).length=(cs.drop off).take c1.length++(cs.drop (off+c1.length)).take c2.length:=by
     rw [List.length_append,List.take_add,List.drop_drop]
    rw [e];exact r1.append r2
   ·cases h
  ·cases h
theorem yK {B:Nat→Prop} (hB:∀ b,b < w.heap.size→B b):∀ (n fuel:Nat) (sl:Nat) {t:TypeId} {cs:List Value} {x:DataW H × List MemPlace} {c:List CP},
  DataW.trod enc P w base sp held fuel t cs=some x→yU P n sl t=some c→∃ ps,Reps w B cs ps∧FitAll (Fit n) c ps
 | 0,_,_,_,_,_,_,_,h=>by simp [yU] at h
 | _+1,0,_,_,_,_,_,h,_=>by simp [DataW.trod] at h
 | n+1,fuel+1,sl,t,cs,x,c,h,hc=>by
  have mono:∀ {c:List CP} {ps:List PV},FitAll (Fit n) c ps→FitAll (Fit (n+1)) c ps:=by
   have one:∀ (m:Nat) (c:CP) (p:PV),Fit m c p→Fit (m+1) c p:=by
    intro m
    induction m with
    | zero=>intro c p h;cases c<;>first|exact h|exact h.elim
    | succ m ihm=>
     intro c p h
     cases c with
     | b=>exact h
     | i k=>exact h
     | s=>exact h
     | sl ag cs=>
      obtain ⟨xs,h1,h2⟩:=h
      refine ⟨xs,h1,fun x hx=>?_⟩
      obtain ⟨l,h3,h4⟩:=h2 x hx
      refine ⟨l,h3,?_⟩
      have:∀ (a:List CP) (b:List PV),FitAll (Fit m) a b→FitAll (Fit (m+1)) a b:=by
       intro a
       induction a with
       | nil=>intro b hb;cases b<;>exact hb
       | cons y r ihr=>
        intro b hb
        cases b with
        | nil=>exact hb
        | cons z q=>exact ⟨ihm _ _ hb.1,ihr _ hb.2⟩
      exact this _ _ h4
   intro c
   induction c with
   | nil=>intro ps h;cases ps<;>exact h
   | cons y r ihr=>
    intro ps h
    cases ps with
    | nil=>exact h
    | cons z q=>exact ⟨one _ _ _ h.1,ihr h.2⟩
  unfold DataW.trod at h
  unfold yU at hc
  cases hu:P.underlying t with
  | none=>rw [hu] at hc;cases hc
  | some d=>
   rw [hu] at h hc
   match d,h,hc with
   | .bool,h,hc=>
    simp only [Option.some.injEq] at hc;subst hc
    match cs,h with
    | [.bool b],h=>exact ⟨[.b b],Reps.cons (.b b) Reps.nil,⟨b,rfl⟩,trivial⟩
   | .int k,h,hc=>
    simp only [Option.some.injEq] at hc;subst hc
    match cs,h with
    | [.int k' m],h=>
     simp only at h
     split at h
     ·rename_i hk
      obtain ⟨rfl,hw⟩:=hk
      exact ⟨[.i k' m],Reps.cons (.i (ycs hw)) Reps.nil,⟨m,rfl⟩,trivial⟩
     ·cases h
   | .string,h,hc=>
    simp only [Option.some.injEq] at hc;subst hc
    match cs,h with
    | [.string z],h=>
     simp only at h
     split at h
     ·rename_i hk
      exact ⟨[.s z],Reps.cons (.s hk) Reps.nil,⟨z,rfl⟩,trivial⟩
     ·cases h
   | .slice e,h,hc=>
    simp only at hc
    cases sl with
    | zero=>cases hc
    | succ sl=>
     obtain ⟨ce,h1,hc⟩:=Option.bind_eq_some_iff.1 hc
     split at hc
     ·rename_i hce
      simp only [Option.some.injEq] at hc;subst hc
      match cs,h with
      | [.slice none 0 0],h=>exact ⟨[.sl ce.length []],Reps.cons .sl0 Reps.nil,⟨[],rfl,fun x hx=>by cases hx⟩,trivial⟩
      | [.slice (some a) len cap],h=>
       simp only at h
       split at h
       ·rename_i hb
        obtain ⟨els,h2,_⟩:=Option.bind_eq_some_iff.1 h
        by_cases hl0:len=0
        ·subst hl0
         exact ⟨[.sl ce.length []],Reps.cons (.sle hb.2.2) Reps.nil,⟨[],rfl,fun x hx=>by cases hx⟩,trivial⟩
        have hBa:B a.block∧a.spot=none:=by
         obtain ⟨y,hy⟩:=yA h2 0 (List.mem_range.2 (by omega))
         obtain ⟨us,h3,h4⟩:=Option.bind_eq_some_iff.1 hy
         unfold World.cells? at h3
         split at h3
         ·have h5:=yax h3 (i:=0) (x:=0) (List.getElem?_range (by rw [hce.1];exact hce.2.2))
          have h6:us.length=P.cellsOf e:=by simpa using yh h3
          have h7:0 < us.length:=by rw [h6,hce.1];exact hce.2.2
          rw [List.getElem?_eq_getElem h7] at h5
          have e0:∀ z:Addr,z.add 0=z:=fun z=>by unfold Addr.add;simp
          rw [Nat.zero_mul,e0,e0] at h5
          obtain ⟨k1,k2⟩:=ybK h5
          exact ⟨hB _ k1,k2⟩
         ·cases h3
        have key:∀ i,i < len→∃ (us:List Value) (ps:List PV),(∀ j v,us[j]?=some v→w.cell? (a.add (i*ce.length+j))=some v)∧Reps w B us ps∧FitAll (Fit n) ce ps:=fun i hi=>by
         obtain ⟨y,hy⟩:=yA h2 i (List.mem_range.2 hi)
         obtain ⟨us,h3,h4⟩:=Option.bind_eq_some_iff.1 hy
         obtain ⟨ps,h5,h6⟩:=yK (B:=B) hB n fuel sl h4 h1
         refine ⟨us,ps,fun j v hv=>?_,h5,h6⟩
         unfold World.cells? at h3
         split at h3
         ·have hlen:j < P.cellsOf e:=by
           have e1:us.length=P.cellsOf e:=by
            have:=yh h3
            simpa using this
           rw [←e1];exact (List.getElem?_eq_some_iff.1 hv).1
          have:=yax h3 (List.getElem?_range hlen)
          rw [hv] at this
          rw [hce.1] at this
          rw [←Addr.add_add];exact this
         ·cases h3
        classical
        let U:Nat→List Value:=fun i=>if hi:i < len then (key i hi).choose else []
        let PS:Nat→List PV:=fun i=>if hi:i < len then (key i hi).choose_spec.choose else []
        have hU:∀ i,i < len→(∀ j v,(U i)[j]?=some v→w.cell? (a.add (i*ce.length+j))=some v)∧Reps w B (U i) (PS i)∧FitAll (Fit n) ce (PS i):=fun i hi=>by
         have:=(key i hi).choose_spec.choose_spec
         simp only [U,PS,dif_pos hi];exact this
        have hcells:∀ i,i < len→(yan (yk P e) (PS i)).cells=PS i:=fun i hi=>by
         unfold yan
         split
         ·rfl
         ·rename_i hag
          have hl:=(hU i hi).2.2
          have h1l:ce.length=1:=hce.2.1.resolve_left hag
          obtain ⟨q,rfl⟩:∃ q,ce=[q]:=List.length_eq_one_iff.1 h1l
          match hPS:PS i,hl with
          | [z],hl=>
           have hz:=hl.1
           simp only [List.headD_cons]
           cases q with
           | b=>cases n<;>(obtain ⟨_,rfl⟩:=hz;rfl)
           | i k=>cases n<;>(obtain ⟨_,rfl⟩:=hz;rfl)
           | s=>cases n<;>(obtain ⟨_,rfl⟩:=hz;rfl)
           | sl ag cs=>
            cases n with
            | zero=>exact hz.elim
            | succ n=>obtain ⟨_,rfl,_⟩:=hz;rfl
        refine ⟨[.sl ce.length ((List.range len).map fun i=>yan (yk P e) (PS i))],Reps.cons (.sl (fun i j=>(U i)[j]?.getD undef) hBa.1 hBa.2 (by simp) hb.2.1 hb.2.2 ?_ ?_ ?_) Reps.nil,⟨_,rfl,fun x hx=>?_⟩,trivial⟩
        ·intro i x hx
         simp only [List.getElem?_map,Option.map_eq_some_iff] at hx
         obtain ⟨i',hi',rfl⟩:=hx
         obtain ⟨hi,rfl⟩:=List.getElem?_eq_some_iff.1 hi'
         simp only [List.length_range,List.getElem_range] at hi ⊢
         rw [hcells i hi,(hU i hi).2.2.len]
        ·intro i x j p hx hp
         simp only [List.getElem?_map,Option.map_eq_some_iff] at hx
         obtain ⟨i',hi',rfl⟩:=hx
         obtain ⟨hi,rfl⟩:=List.getElem?_eq_some_iff.1 hi'
         simp only [List.length_range,List.getElem_range] at hi hp ⊢
         rw [hcells i hi] at hp
         obtain ⟨v,hv,_⟩:=(hU i hi).2.1.get hp
         rw [hv];exact (hU i hi).1 j v hv
        ·intro i x j p hx hp
         simp only [List.getElem?_map,Option.map_eq_some_iff] at hx
         obtain ⟨i',hi',rfl⟩:=hx
         obtain ⟨hi,rfl⟩:=List.getElem?_eq_some_iff.1 hi'
         simp only [List.length_range,List.getElem_range] at hi hp ⊢
         rw [hcells i hi] at hp
         obtain ⟨v,hv,hr⟩:=(hU i hi).2.1.get hp
         rw [hv];exact hr
        ·obtain ⟨i,hi,rfl⟩:=List.mem_map.1 hx
         exact ⟨_,rfl,(hU i (List.mem_range.1 hi)).2.2⟩
       ·cases h
     ·cases hc
   | .struct fs,h,hc=>
    simp only at h hc
    obtain ⟨c',h1,hc⟩:=Option.bind_eq_some_iff.1 hc
    split at hc
    ·rename_i hl
     simp only [Option.some.injEq] at hc;subst hc
     split at h
     ·rename_i hcs
      obtain ⟨xs,h2,_⟩:=Option.map_eq_some_iff.1 h
      obtain ⟨ps,h3,h4⟩:=yD (B:=B) (cs:=cs) (n:=n) (sl:=sl) (fun hsub hx hc=>yK hB n fuel sl hx hc) (fs.toList.map fun f=>(f.type,f.offset)) 0 c' (fun p hp=>by
       obtain ⟨f,hf,rfl⟩:=List.mem_map.1 hp
       exact yA h2 f hf) h1 (by omega)
      rw [List.drop_zero,hl,←hcs,List.take_length] at h3
      exact ⟨ps,h3,mono h4⟩
     ·cases h
    ·cases hc
   | .array m e,h,hc=>
    simp only at h hc
    obtain ⟨c',h1,hc⟩:=Option.bind_eq_some_iff.1 hc
    split at hc
    ·rename_i hl
     simp only [Option.some.injEq] at hc;subst hc
     split at h
     ·rename_i hcs
      obtain ⟨xs,h2,_⟩:=Option.map_eq_some_iff.1 h
      obtain ⟨ps,h3,h4⟩:=yD (B:=B) (cs:=cs) (n:=n) (sl:=sl) (fun hsub hx hc=>yK hB n fuel sl hx hc) ((List.range m).map fun i=>(e,i*P.cellsOf e)) 0 c' (fun p hp=>by
       obtain ⟨i,hi,rfl⟩:=List.mem_map.1 hp
       exact yA h2 i hi) h1 (by omega)
      rw [List.drop_zero,hl,←hcs,List.take_length] at h3
      exact ⟨ps,h3,mono h4⟩
     ·cases h
    ·cases hc
end
end Go.Proofs.YtahmdjadnlpjoaaGreat
namespace Go.Proofs.YtahmdjadnlpjoaaGreat
open Go.ChangeShapes Go.WideShapes Go.ChangeAt Go.RowKit
set_option linter.unusedVariables false
def ycD (P:Program) (n:Nat) (t:TypeId):Option (Bool × List CP):=(yU P n 2 t).bind fun c=>if yk P t=true∨c.length=1 then some (yk P t,c) else none
def y3 (P:Program) (n:Nat) (t:TypeId) (p:PV):Prop:=
 (∃ ag c l,ycD P n t=some (ag,c)∧p=yan ag l∧FitAll (Fit n) c l)∧(∀ e sz xs,P.underlying t=some (.slice e)→p=.sl sz xs→xs.length*P.bytesOf e≤reachBytes)
def yaF (P:Program) (n:Nat):List TypeId→List PV→Prop
 | [],[]=>True
 | t::ts,p::ps=>y3 P n t p∧yaF P n ts ps
 | _,_=>False
section
variable {H:Type} {enc:TypeId × Value→H} {P:Program} {W:World}
theorem ycC {base n:Nat} {t:TypeId} {v:Value} {d:DataW H} {ps:List MemPlace} (hval:Value.okWide P W .any base t v) (h:DataW.Trod enc P W 0 (fun _=>true) true t v d ps) {q:Bool × List CP} (hq:ycD P n t=some q)
  (hz:(d.weights P t).all (·≤reachBytes)=true):∃ p,Rep W (fun b=>b < W.heap.size) v p∧y3 P n t p:=by
 obtain ⟨fuel,h⟩:=h
 have hq0:=hq
 unfold ycD at hq
 obtain ⟨c,hc,hq⟩:=Option.bind_eq_some_iff.1 hq
 split at hq
 ·rename_i hl
  simp only [Option.some.injEq] at hq
  subst hq
  unfold yk at hl hq0
  have key:∀ {cs:List Value},DataW.trod enc P W 0 (fun _=>true) true fuel t cs=some (d,ps)→(∀ v ∈ cs,∃ u,Cell.okWide P W .any base u v)→∃ l,Reps W (fun b=>b < W.heap.size) cs l∧FitAll (Fit n) c l:=fun ht hc1=>
   yK (fun _ h=>h) n fuel 2 ht hc
  have other:yk P t=false→(∃ u,Cell.okWide P W .any base u v)→v.cells.toList=[v]→∃ p,Rep W (fun b=>b < W.heap.size) v p∧y3 P n t p:=fun hag hok hcv=>by
   rw [hcv] at h
   obtain ⟨l,h1,h2⟩:=key h (fun v' hv=>by simp at hv;subst hv;exact hok)
   have hlen:=h1.1
   match l,hlen with
   | [p],_=>
    have hr:=h1.2 0 v p rfl rfl
    refine ⟨p,hr,⟨false,c,[p],?_,rfl,h2⟩,fun e sz xs hu he=>?_⟩
    ·rw [hq0]
     have:yk P t=false:=hag
     unfold yk at this
     rw [this]
    ·subst he
     cases hr with
     | sl0=>simp
     | sle=>simp
     | sl u h3 h4 h5 h6 h7 h8 h9 h10=>
      rename_i a len cap hh
      cases fuel with
      | zero=>simp [DataW.trod] at h
      | succ fuel=>
       unfold DataW.trod at h
       rw [hu] at h
       simp only at h
       split at h
       ·obtain ⟨els,e1,h⟩:=Option.bind_eq_some_iff.1 h
        obtain ⟨rest,e2,h⟩:=Option.map_eq_some_iff.1 h
        injection h with hd _
        subst hd
        have:=List.all_eq_true.1 hz ((els.length+rest.length)*P.bytesOf e) (by simp [DataW.weights,hu])
        simp only [decide_eq_true_eq] at this
        have hle:els.length=len:=by simpa using yh e1
        rw [h5,←hle]
        exact Nat.le_trans (Nat.mul_le_mul_right _ (Nat.le_add_right _ _)) this
       ·cases h
  unfold Value.okWide at hval
  cases hu:P.underlying t with
  | none=>unfold yU at hc;cases n<;>simp [hu] at hc
  | some desc=>
   have ag:(∃ fs,desc=.struct fs)∨(∃ k e,desc=.array k e)∨(yk P t=false∧Cell.okWide P W .any base t v):=by
    unfold yk
    rw [hu] at hval ⊢
    cases desc<;>first|exact .inl ⟨_,rfl⟩|exact .inr (.inl ⟨_,_,rfl⟩)|exact .inr (.inr ⟨rfl,hval⟩)
   have agg:yk P t=true→(∃ cs,v=.agg cs∧cs.size=P.cellsOf t∧Row.okWide P W .any base t cs)→∃ p,Rep W (fun b=>b < W.heap.size) v p∧y3 P n t p:=fun hag hcs=>by
    obtain ⟨cs,rfl,_,hrow⟩:=hcs
    obtain ⟨l,h1,h2⟩:=key (cs:=cs.toList) h (fun v' hv=>by
     obtain ⟨ts,_,_,hcell⟩:=hrow
     obtain ⟨i,hi⟩:=List.getElem?_of_mem hv
     obtain ⟨u,_,hk⟩:=hcell i v' (by simpa using hi)
     exact ⟨u,hk⟩)
    refine ⟨.agg l,.agg (by simpa using h1.1) (fun j v' p hv hp=>h1.2 j v' p (by simpa using hv) hp),⟨true,c,l,?_,rfl,h2⟩,fun e sz xs hu' he=>by cases he⟩
    rw [hq0]
    have:yk P t=true:=hag
    unfold yk at this
    rw [this]
   rcases ag with ⟨fs,rfl⟩|⟨k,e,rfl⟩|⟨hag,hok⟩
   ·rw [hu] at hval
    exact agg (by unfold yk;rw [hu]) hval
   ·rw [hu] at hval
    exact agg (by unfold yk;rw [hu]) hval
   ·refine other hag ⟨t,hok⟩ ?_
    have:∀ cs,v≠.agg cs:=fun cs e=>by
     subst e
     unfold Cell.okWide at hok
     have h2:Cell.ok P W .any base t (.agg cs):=by
      split at hok
      all_goals first|exact hok|(rename_i hv;cases hv)
     unfold Cell.ok at h2
     split at h2
     all_goals first|exact h2.elim|skip
     all_goals (rename_i hv;first|cases hv|skip)
    cases v<;>first|rfl|exact absurd rfl (this _)
 ·cases hq
theorem yaT {base n:Nat}:∀ {ts:List TypeId} {vs:List Value} {ds:List (DataW H)} {ps:List MemPlace},DataW.TrodAll enc P W 0 (fun _=>true) true ts vs ds ps→(∀ (j:Nat) t v,ts[j]?=some t→vs[j]?=some v→Value.okWide P W .any base t v) →
  (∀ t ∈ ts,∃ q,ycD P n t=some q)→(DataW.weightsEach P ts ds).all (·≤reachBytes)=true→∃ l,Reps W (fun b=>b < W.heap.size) vs l∧yaF P n ts l
 | [],vs,ds,ps,h,_,_,_=>by
  obtain ⟨rfl,rfl,rfl⟩:=trodAll_nil h
  exact ⟨[],Reps.nil,trivial⟩
 | t::ts,vs,ds,ps,h,hval,hq,hz=>by
  obtain ⟨v,vs1,d,ds1,a,b,rfl,rfl,rfl,h1,h2⟩:=trodAll_cons h
  obtain ⟨q,hq1⟩:=hq t (by simp)
  simp only [DataW.weightsEach,List.all_append,Bool.and_eq_true] at hz
  obtain ⟨p,r1,f1⟩:=ycC (n:=n) (hval 0 t v rfl rfl) h1 hq1 hz.1
  obtain ⟨l,r2,f2⟩:=yaT h2 (fun j t v ht hv=>hval (j+1) t v (by simpa using ht) (by simpa using hv)) (fun t ht=>hq t (by simp [ht])) hz.2
  exact ⟨p::l,Reps.cons r1 r2,f1,f2⟩
theorem yx (hl:laidOutB P=true) {W':World} {sp:Nat→Bool}:∀ {ts:List TypeId} {vs:List Value} {ds:List (DataW H)} {ps:List MemPlace},ts.all (fun t=>P.readableRec t && decide (t < P.types.size))=true→DataW.TrodAll enc P W 0 (fun _=>true) true ts vs ds ps →
  (∀ x ∈ ps,W.sameAt W' x)→(∀ x ∈ ps,sp x.block=true)→DataW.TrodAll enc P W' 0 sp true ts vs ds ps
 | [],vs,ds,ps,_,h,_,_=>by
  obtain ⟨rfl,rfl,rfl⟩:=trodAll_nil h
  exact h
 | t::ts,vs,ds,ps,hr,h,hs,hp=>by
  obtain ⟨v,vs1,d,ds1,a,b,rfl,rfl,rfl,h1,h2⟩:=trodAll_cons h
  simp only [List.all_cons,Bool.and_eq_true,decide_eq_true_eq] at hr
  exact ⟨a,b,WideElems.Trod_stays hl hr.1.1 hr.1.2 h1 (fun x hx=>hs x (by simp [hx])) (fun x hx=>hp x (by simp [hx])),yx hl hr.2 h2 (fun x hx=>hs x (by simp [hx])) (fun x hx=>hp x (by simp [hx])),rfl⟩
theorem ybc {W':World} (hb:Below W.heap.size W W') (may:MemPlace→Prop):W.keptBut W' may:=by
 refine ⟨hb.os,hb.output,fun i hi=>?_⟩
 rw [hb.block i hi]
 cases hh:W.heap[i]? with
 | none=>rfl
 | some o=>cases o<;>first|exact ⟨rfl,rfl,rfl,fun _ _=>rfl⟩|exact .inr ⟨rfl,rfl⟩|rfl
theorem ya9 {f:Func} {s:ChangeSpec} {apart fresh handsOn again:Bool} {W':World} {args:Array Value} {ds gs:List (DataW H)} {before:List MemPlace} {tb:TypeId} (hl:laidOutB P=true)
  (hrd:f.params.toList.all (fun t=>P.readableRec t && decide (t < P.types.size))=true) (hW:DataW.Whole enc P f.params.toList s.vars apart W args.toList ds gs before) (hv:s.vars=[])
  (hs:s.fn H ds={ results:=[.lit (.bool true)],args:=ds }) (hr:f.resultTypes=#[tb]) (htb:P.underlying tb=some .bool) (hb:Below W.heap.size W W'):s.post enc P f apart fresh handsOn again W args (.bool true) W':=by
 have hlt:∀ p ∈ before,p.block < W.heap.size:=hW.lt
 have hW0:=hW
 obtain ⟨p,q,hA,hV,rfl,hz,hn⟩:=hW
 rw [hv] at hV
 obtain ⟨rfl,rfl⟩:=trodVars_none hV
 simp only [List.append_nil] at hz hn hlt hW0
 have hres:∀ (b:Nat) (sp:Nat→Bool) (hd:Bool),DataW.TrodAll enc P W' b sp hd f.resultTypes.toList ((Value.bool true).resultList f.resultTypes.size) [.lit (.bool true)] []:=fun b sp hd=>by
  rw [hr];exact trodAll_cons_mk (shut_bool htb _) trodAll_mk0
 have hargs:∀ sp:Nat→Bool,(∀ x ∈ p,sp x.block=true)→DataW.TrodAll enc P W' 0 sp true f.params.toList args.toList ds p:=fun sp hsp=>yx hl hrd hA (fun x hx=>hb.same (hlt x hx)) hsp
 have hvars:∀ sp:Nat→Bool,DataW.TrodVars enc P W' sp s.vars ([]:List (DataW H)) []:=fun sp=>by rw [hv];rfl
 refine ⟨ds,[],p,[],p,[],hW0,by rw [List.append_nil,hs];exact hres _ _ _,by rw [List.append_nil,hs];exact hargs _ (fun x hx=>by simpa using hlt x hx),by rw [List.append_nil,hs];exact hvars _,World.keptBut_mono (fun x hx=>⟨hx,.inr (.inl hx)⟩) (ybc hb (· ∈ p)),fun _=>?_⟩
 refine ⟨fun j t r h1 h2=>?_,[.lit (.bool true)]++ds,[],p,⟨[]++p,[],trodAll_append (hargs _ (fun _ _=>rfl)) (hres _ _ _),hvars _,by simp,?_,?_⟩,fun x hx _=>hx⟩
 ·rw [hr] at h1 h2
  cases j with
  | zero=>
   simp [Value.resultList] at h1 h2
   subst h1;subst h2
   exact okWide_bool_mk htb _
  | succ j=>simp at h1
 ·intro b off hp
  have:=hz b off hp
  unfold World.frozen? at this ⊢
  have e:W'.heap[b]?=W.heap[b]?:=hb.block b (hlt _ hp)
  simp only at this ⊢
  rw [e]
  exact this
 ·intro ha;exact hn ha
end
theorem yah {C:Checked} {f:FuncId} {fn:Func} {s:ChangeSpec} {n:Nat} {tb:TypeId} (hl:laidOutB C.prog=true) (hrd:fn.params.toList.all (fun t=>C.prog.readableRec t && decide (t < C.prog.types.size))=true)
  (hv:s.vars=[]) (hs:∀ (H:Type) (ds:List (DataW H)),ds.length=fn.params.size→s.fn H ds={ results:=[.lit (.bool true)],args:=ds }) (hr:fn.resultTypes=#[tb]) (htb:C.prog.underlying tb=some .bool)
  (hq:fn.params.toList.all (fun t=>(ycD C.prog n t).isSome)=true) (hp:∀ ps,yaF C.prog n fn.params.toList ps→Pure C.prog f ps (.b true))
  {H:Type} {enc:TypeId × Value→H} {apart fresh handsOn again:Bool} (W:World) (base:Nat) (args:Array Value) (ds gs:List (DataW H)) (before:List MemPlace)
  (hval:∀ (j:Nat) t v,fn.params[j]?=some t→args[j]?=some v→Value.okWide C.prog W .any base t v) (hW:DataW.Whole enc C.prog fn.params.toList s.vars apart W args.toList ds gs before)
  (hz:(DataW.weightsEach C.prog (fn.params.toList++s.plain.varTypes C.prog) (ds++gs)).all (·≤reachBytes)=true) :
  Calls C.prog f args W fun e W'=>∃ v,e=.returned v∧s.post enc C.prog fn apart fresh handsOn again W args v W':=by
 have hW0:=hW
 obtain ⟨p,q,hA,hV,rfl,_,_⟩:=hW
 have hV':=hV
 rw [hv] at hV'
 obtain ⟨rfl,rfl⟩:=trodVars_none hV'
 have hlen:∀ {ts:List TypeId} {vs:List Value} {ds:List (DataW H)} {ps:List MemPlace},DataW.TrodAll enc C.prog W 0 (fun _=>true) true ts vs ds ps→ds.length=ts.length:=by
  intro ts
  induction ts with
  | nil=>intro vs ds ps h;obtain ⟨rfl,rfl,rfl⟩:=trodAll_nil h;rfl
  | cons t ts ih=>intro vs ds ps h;obtain ⟨v,vs1,d,ds1,a,b,rfl,rfl,rfl,h1,h2⟩:=trodAll_cons h;simp [ih h2]
 have hd:=hlen hA
 have hz':(DataW.weightsEach C.prog fn.params.toList ds).all (·≤reachBytes)=true:=by
  rw [List.append_nil] at hz
  have hsub:∀ (ts us:List TypeId) (ds:List (DataW H)),ds.length=ts.length→DataW.weightsEach C.prog (ts++us) ds=DataW.weightsEach C.prog ts ds:=by
   intro ts us
   induction ts with
   | nil=>intro ds h;match ds,h with|[],_=>cases us<;>simp [DataW.weightsEach]
   | cons t ts ih=>intro ds h;match ds,h with|d::ds,h=>simp only [List.cons_append,DataW.weightsEach];rw [ih ds (by simpa using h)]
  rw [hsub _ _ _ hd] at hz
  exact hz
 obtain ⟨l,hrep,hfit⟩:=yaT (n:=n) hA (fun j t v ht hv'=>hval j t v (by simpa using ht) (by simpa using hv')) (fun t ht=>Option.isSome_iff_exists.1 (List.all_eq_true.1 hq t ht)) hz'
 have:=(hp l hfit).2 W (fun b=>b < W.heap.size) args.toList (fun b hb=>hb) hrep
 refine (show Calls C.prog f args W _ from by simpa using this).mono fun e W' he=>?_
 obtain ⟨u,rfl,hb,hu⟩:=he
 cases hu
 exact ⟨_,rfl,ya9 hl hrd hW0 hv (hs H ds (by simpa using hd)) hr htb hb⟩
end Go.Proofs.YtahmdjadnlpjoaaGreat
namespace Go.Proofs.YtahmdjadnlpjoaaGreat
open Go.RowKit
theorem yz {P:Program} {ts:List (List PV)} {dr:Bool} {K:St→List Ft→Prop} {acc:List Ft} {d:Option Nat} {op:AOp} {args:List AOpd} {gd:Option (Nat × Bool)} {af:List Nat} {r:List RO} {s:St} (q:PV)
  (hc:gOf s gd=some false) (hn:zj P ts dr K r (s.set d (fin gd false (.p q))) (zT dr acc s ⟨d,op,args,gd,af⟩ [])):zj P ts dr K (⟨d,op,args,gd,af⟩::r) s acc:=
 .inl ⟨_,_,.callN hc,hn⟩
theorem yal {s:St} (t:Nat) (v':PV) {pre:Prop} {v:PV} {ks:List Nat} (ht:toPV s.look 4 (s.get t)=some (pre,v,ks)) (hp:pre) (hw:Weak v v'):GhostOk s fun s1=>s1=(s.wrs (frzs s.look ks)).set (some t) (.p v'):=fun X C a w hM hr=>by
 obtain ⟨C',h'⟩:=hr.pub hM t ht hp hw
 exact ⟨_,C',rfl,by rw [(z7 _ _ _).1,(z7 _ _ _).2,(zbh _ _).1,(zbh _ _).2];exact h'⟩
set_option maxRecDepth 100000
set_option linter.unusedVariables false
set_option linter.unusedSimpArgs false
set_option maxHeartbeats 8000000
instance:Mx Tryz.prog:=⟨mixed⟩
section
variable {P:Program} {ts:List (List PV)} {dr:Bool} {K:St→List Ft→Prop} {acc:List Ft} {d:Option Nat} {f:Nat} {args:List AOpd} {gd:Option (Nat × Bool)} {af:List Nat} {r:List RO} {s:St} {vs:List PV} {res:PV}
end
theorem ybe:zg []=0:=rfl
set_option maxRecDepth 100000
set_option linter.unusedVariables false
set_option linter.unusedSimpArgs false
set_option maxHeartbeats 8000000
theorem yW (x:ByteArray):Pure Tryz.prog 174 [.s x] (.b (isName x)):=by
 refine zf (cF Tryz.func174 Tryz.f174.eq_1) (by simp) fun hw X hX=>?_
 simp only [wfs,PV.wf,maxLen] at hw
 repeat' first|refine gC (fun hc=>?_) (fun hc=>?_)<;>try contradiction|refine gG ?_|show AK _;intro K H|refine H _ _ ?_;clear H K|refine gJ ?_;try exact trivial|omega
 ·rw [isName_long hc];exact .refl _
 refine zk (κ:=Nat) (fun i=>⟨[(0,.p (.s x)),(3,.p (.i .i64 i))],[],[],false⟩) (fun i=>i≤x.size∧∀ j < i,nameCh j (chAt x j)=true) (fun i=>x.size - i) 0 ?_ ?_ ?_
 ·exact sR
 ·simp
 ·intro i hi
  repeat' first|refine gC (fun hc=>?_) (fun hc=>?_)<;>try contradiction|refine gG ?_|show AK _;intro K H|refine H _ _ ?_;clear H K|refine gJ ?_;try exact trivial|omega
  ·rw [isName_no (i:=i) (by omega)];exact .refl _
   simp only [nameCh,letCh,chAt];simp;omega
  ·refine ⟨i+1,⟨by omega,fun j hj=>?_⟩,by omega,by simp⟩
   by_cases e:j=i
   ·subst e;simp only [nameCh,letCh,chAt];simp;omega
   ·exact hi.2 j (by omega)
  ·rw [isName_yes ‹_› hi (by omega)];exact .refl _
set_option maxRecDepth 100000
set_option linter.unusedVariables false
set_option linter.unusedSimpArgs false
set_option maxHeartbeats 8000000
theorem y4 (n a b:Int):Pure Tryz.prog 127 [.i .i64 n,.i .i64 a,.i .i64 b] (.i .i64 (rng n a b)):=by
 refine zf (cF Tryz.func127 Tryz.f127.eq_1) (by simp) fun hw X hX=>?_
 repeat' first|refine gC (fun hc=>?_) (fun hc=>?_)<;>try contradiction|refine gG ?_|show AK _;intro K H|refine H _ _ ?_;clear H K|refine gJ ?_;try exact trivial|omega
 ·rw [rng,if_pos hc];exact .refl _
 ·rw [rng_0.2 hc];exact .refl _
theorem yat (n:Int):Pure Tryz.prog 99 [.i .i64 n] (.i .i64 (rng n 0 99999)):=by
 refine zf (cF Tryz.func99 Tryz.f99.eq_1) (by simp) fun hw X hX=>?_
 repeat' first|refine gC (fun hc=>?_) (fun hc=>?_)<;>try contradiction|refine za (y4 _ _ _) ?_|refine gG ?_|show AK _;intro K H|refine H _ _ ?_;clear H K|refine gJ ?_;try exact trivial|omega
 exact .refl _
theorem yO (p:Per):Pure Tryz.prog 155 [p.pv] (.i .i64 (zau p)):=by
 refine zf (cF Tryz.func155 Tryz.f155.eq_1) (by simp) fun hw X hX=>?_
 repeat' first|refine gC (fun hc=>?_) (fun hc=>?_)<;>try contradiction|refine zN (fun _=>yat _) ?_|refine za (yat _) ?_|refine za (y4 _ _ _) ?_|refine gG ?_|show AK _;intro K H|refine H _ _ ?_;clear H K|refine gJ ?_;try exact trivial|omega
 ·rw [show zau p=3 by simp only [zau,zg,rng];(repeat' split)<;>omega];exact .refl _
 ·rw [show zau p=11 by simp only [zau,zg,rng];(repeat' split)<;>omega];exact .refl _
 ·rw [show zau p=4 by simp only [zau,zg,rng];(repeat' split)<;>omega];exact .refl _
 ·rw [show zau p=rng p.days 1 127 by simp only [zau,zg,rng];(repeat' split)<;>omega];exact .refl _
theorem ycA (d:Int) (h0:0≤d) (h1:d≤99999):Pure Tryz.prog 202 [.i .i64 d] (.i .i64 ((d+5) % 7)):=by
 refine zf (cF Tryz.func202 Tryz.f202.eq_1) (by simp) fun hw X hX=>?_
 repeat' first|refine gC (fun hc=>?_) (fun hc=>?_)<;>try contradiction|refine gG ?_|show AK _;intro K H|refine H _ _ ?_;clear H K|refine gJ ?_;try exact trivial|omega
 rw [Int.tmod_eq_emod_of_nonneg (by omega)]
 exact .refl _
theorem ybu (m w:Int) (h0:0≤m) (h1:m < 128) (h2:0≤w) (h3:w < 7):Pure Tryz.prog 201 [.i .i64 m,.i .i64 w] (.b (inM m w)):=by
 refine zf (cF Tryz.func201 Tryz.f201.eq_1) (by simp) fun hw X hX=>?_
 repeat' first|refine gC (fun hc=>?_) (fun hc=>?_)<;>try contradiction|refine gG ?_|show AK _;intro K H|refine H _ _ ?_;clear H K|refine gJ ?_;try exact trivial|omega
 refine zk (κ:=Nat) (fun i=>⟨[(0,.p (.i .i64 (m / 2 ^ i))),(1,.p (.i .i64 w)),(5,.p (.i .i64 i))],[],[],false⟩) (fun i=>i≤w.toNat) (fun i=>w.toNat - i) 0 ?_ ?_ ?_
 ·exact sS
 ·simp
 ·intro i hi
  have hq:0≤m / 2 ^ i:=Int.ediv_nonneg h0 (Int.le_of_lt (Int.pow_pos (by decide)))
  have hq2:m / 2 ^ i≤m:=Int.ediv_le_self _ h0
  have hq3:∀ b,(m / 2 ^ i).tdiv b=(m / 2 ^ i) / b:=fun b=>Int.tdiv_eq_ediv_of_nonneg hq
  have hq4:∀ b,(m / 2 ^ i).tmod b=(m / 2 ^ i) % b:=fun b=>Int.tmod_eq_emod_of_nonneg hq
  have qe:=aI @hq3 @hq4;repeat' first|refine gC (fun hc=>?_) (fun hc=>?_)<;>try contradiction|refine gG ?_|show AK _;intro K H|refine H _ _ ?_;clear H K|refine gJ ?_;try exact trivial|omega
  ·refine ⟨i+1,by omega,by omega,?_,by simp⟩
   rw [Int.pow_succ,Int.ediv_ediv_of_nonneg (Int.le_of_lt (Int.pow_pos (by decide)))]
  ·have e:i=w.toNat:=by omega
   subst e;exact .refl _
theorem ycB (p:Per) (d:Int) (h0:0≤d) (h1:d≤99999) (h2:0≤p.days) (h3:p.days < 128):Pure Tryz.prog 122 [p.pv,.i .i64 d] (.b (hasD p d)):=by
 refine zf (cF Tryz.func122 Tryz.f122.eq_1) (by simp) fun hw X hX=>?_
 have qe:=@qR;repeat' first|refine gC (fun hc=>?_) (fun hc=>?_)<;>try contradiction|refine zN (fun _=>ycA _ h0 h1) ?_|(show zj _ _ _ _ (⟨_,.call 201,_,_,_⟩::_) _ _;refine zbj (hf:=fun hc=>(by first|exact ybu p.days ((d+5) % 7) h2 h3 (by omega) (by omega)|(simp only [qH,rng_0] at hc;exact ybu p.days ((d+5) % 7) h2 h3 (by omega) (by omega)))) (hn:=?_))|refine gG ?_|show AK _;intro K H|refine H _ _ ?_;clear H K|refine gJ ?_;try exact trivial|omega
 all_goals exact .refl _
theorem ybA {p:Per} (k:Nat) (h:k < (p.to - p.fro+1).toNat):hasD p (p.fro+k)=inM p.days ((p.fro+k+5) % 7):=by
 simp only [hasD,show p.fro≤p.fro+(k:Int) by omega,show p.fro+(k:Int)≤p.to by omega,decide_true,Bool.true_and]
def yS (p:Per) (k:Nat):List Int:=(List.range k).flatMap fun (k:Nat)=>if inM p.days ((p.fro+k+5) % 7) then [p.fro+k] else []
theorem ybF (p:Per) (n:Nat):(yS p n).length≤n:=by
 unfold yS
 induction n with
 | zero=>simp
 | succ n ih=>rw [zab,List.length_append];split<;>simp only [List.length_cons,List.length_nil]<;>omega
theorem yaL (p:Per) (h:zau p=0):Pure Tryz.prog 47 [p.pv] (.sl 1 ((zY p).map (.i .i64))):=by
 have hp:=zaX h
 refine zf (cF Tryz.func47 Tryz.f47.eq_1) (by simp) fun hw X hX=>?_
 repeat' first|refine gC (fun hc=>?_) (fun hc=>?_)<;>try contradiction|refine gG ?_|show AK _;intro K H|refine H _ _ ?_;clear H K|refine gJ ?_;try exact trivial|omega
 refine zaO 100 3 1 [(1,.lp 1 0),(3,.row 100 0),(4,.p (.i .i64 p.fro))] [(1,.box [.p (.i .i64 p.fro),.p (.i .i64 p.to),.p (.i .i64 p.days)] false)] ?_ ?_
 ·simp only [Own,zaL,zaB,zbt,zay,qS,Nat.reduceAdd,Nat.reduceMul,Nat.reduceEqDiff,Nat.reduceLeDiff,reduceIte,reduceCtorEq,Nat.reduceBEq,Nat.reduceLT]
 refine zk (κ:=Nat) (fun k=>⟨[(1,.lp 1 0),(3,.row 100 (yS p k).length),(4,.p (.i .i64 (p.fro+k)))],[(1,.box [.p (.i .i64 p.fro),.p (.i .i64 p.to),.p (.i .i64 p.days)] false),(100,.row 3 1 ((yS p k).map (.i .i64)) false)],[],false⟩) (fun k=>k≤(p.to - p.fro+1).toNat) (fun k=>(p.to - p.fro+1).toNat - k) 0 ?_ ?_ ?_
 ·refine gJ ?_;simp [yS]
 ·simp
 ·intro k hk
  have hl:=ybF p k
  have qe:=@qR;repeat' first|refine gC (fun hc=>?_) (fun hc=>?_)<;>try contradiction|refine za (ycB p (p.fro+k) (by omega) (by omega) (by omega) (by omega)) ?_|refine gG ?_|show AK _;intro K H|refine H _ _ ?_;clear H K|refine gJ ?_;try exact trivial|omega
  ·have e:yS p (k+1)=yS p k++[p.fro+(k:Int)]:=by
    rw [ybA k (by omega)] at hc;simp only [yS,zab,hc,if_true]
   refine ⟨k+1,by omega,by omega,⟨by rw [e];simp,by simp;omega⟩,by rw [e];simp⟩
  ·have e:yS p (k+1)=yS p k:=by
    rw [ybA k (by omega)] at hc;simp only [yS,zab,hc];simp
   refine ⟨k+1,by omega,by omega,⟨by rw [e],by simp;omega⟩,by rw [e]⟩
  ·have e:k=(p.to - p.fro+1).toNat:=by omega
   subst e;exact .refl _
set_option maxRecDepth 100000
set_option linter.unusedVariables false
set_option linter.unusedSimpArgs false
set_option maxHeartbeats 2000000
def winK (l:Lim) (k:Nat):List Int:=(List.range k).flatMap fun (n:Nat)=>zM l (l.per.fro+n)
def winN (l:Lim):Nat:=(l.per.to - l.per.fro+1).toNat
def yb (l:Lim):List Int:=winK l (winN l)
set_option maxRecDepth 100000
set_option linter.unusedVariables false
set_option linter.unusedSimpArgs false
set_option maxHeartbeats 2000000
abbrev cntC (l:Lim) (m:List Mov) (b:Int):Int:=zg [zaS l,zad m,rng b 0 143999999]
def ybH (l:Lim) (m:List Mov) (b:Int):Int:=if cntC l m b=0 then (if b ∈ zM l (b / 1440) then 0 else 7) else cntC l m b
def cntR (l:Lim) (m:List Mov) (b:Int):Int:=if ybH l m b=0 then zbs l m b else 0
theorem pure29 (l:Lim) (m:List Mov) (b:Int):Pure Tryz.prog 57 [l.pv,.sl 7 (m.map Mov.pv),.i .i64 b] (.tup [.i .i64 (cntR l m b),.i .i64 (ybH l m b)]):=by
 refine zf (cF Tryz.func57 Tryz.f57.eq_1) (by simp) fun hw X hX=>?_
 have qe:=@qR;repeat' first|refine gC (fun hc=>?_) (fun hc=>?_)<;>try contradiction|refine za (pure84 l) ?_|refine za (pure24 m) ?_|refine za (pure88 _ _ _) ?_|refine za (zbx [_,_,_]) ?_|refine gG ?_|show AK _;intro K H|refine H _ _ ?_;clear H K|refine gJ ?_;try exact trivial|omega
 ·have he:ybH l m b=cntC l m b:=by rw [ybH,if_neg hc]
  rw [cntR,he,if_neg hc];exact .refl _
 ·have h0:=hc
  have h1:=hc
  simp only [zq,rng_0] at h1
  have hl:=chkLim_0 h1.1
  have hm:=zaR h1.2.1
  have hq:b.tdiv 1440=b / 1440:=Int.tdiv_eq_ediv_of_nonneg (by omega)
  have qe:=aI qR @hq;repeat' first|refine gC (fun hc=>?_) (fun hc=>?_)<;>try contradiction|refine za (pure91 l _) ?_|refine gG ?_|show AK _;intro K H|refine H _ _ ?_;clear H K|refine gJ ?_;try exact trivial|omega
  refine run_rfuncI rfl (iter134 l (b / 1440) h1.1) ?_ ?_ [(3,.lp 3 0),(4,.lp 4 0),(5,.lp 5 0),(6,.lp 6 0),(7,.lp 7 0)] (fun k=>[(3,.box (l.cells.map .p) false),(4,.box [.p (.sl 7 (m.map Mov.pv))] false),(5,.box [.p (.i .i64 b)] false),(6,.box [.p (.i .i64 0)] false),(7,.box [.p (.i .i64 0)] false)]) (fun _=>[]) (fun k=>b ∉ (zM l (b / 1440)).take k) ?_ ?_ ?_ ?_
  ·simp
  ·simp [hX]
  ·exact sE
  ·simp
  ·intro k t ht hok X' ro' hX'
   simp only [List.getElem?_map,Option.map_eq_some_iff] at ht
   obtain ⟨y,hy,rfl⟩:=ht
   simp only [qS,Nat.reduceAdd,Nat.reduceMul,Nat.reduceEqDiff,Nat.reduceLeDiff,reduceIte,reduceCtorEq,Nat.reduceBEq,Nat.reduceLT]
   repeat' first|refine gC (fun hc=>?_) (fun hc=>?_)<;>try contradiction|refine gG ?_|show AK _;intro K H|refine H _ _ ?_;clear H K|refine gJ ?_;try exact trivial|omega
   intro X1 hX1
   have qe:=@qR;repeat' first|refine gC (fun hc=>?_) (fun hc=>?_)<;>try contradiction|refine za (pure92 l m h1.1 (by omega)) ?_|refine za (zbF h1.1 h1.2.1 b (by omega) (by omega)) ?_|refine gG ?_|show AK _;intro K H|refine H _ _ ?_;clear H K|refine gJ ?_;try exact trivial|omega
   ·subst hc
    have he:ybH l m y=0:=by rw [ybH,if_pos h0,if_pos (List.mem_of_getElem? hy)]
    rw [cntR,he,if_pos rfl];exact .refl _
   ·rw [List.take_add_one,hy]
    simp only [Option.toList_some,List.mem_append,List.mem_singleton,not_or]
    exact ⟨hok,fun e=>hc e.symm⟩
  ·intro hok
   simp only [List.length_map,List.take_length] at hok
   repeat' first|refine gC (fun hc=>?_) (fun hc=>?_)<;>try contradiction|refine gG ?_|show AK _;intro K H|refine H _ _ ?_;clear H K|refine gJ ?_;try exact trivial|omega
   have he:ybH l m b=7:=by rw [ybH,if_pos h0,if_neg hok]
   rw [cntR,he,if_neg (by decide)];exact .refl _
set_option maxRecDepth 100000
set_option linter.unusedVariables false
set_option linter.unusedSimpArgs false
set_option maxHeartbeats 2000000
theorem yj {l:Lim} (h:zaS l=0) {b:Int} (hb:b ∈ yb l):0≤b∧b≤143999999:=by
 have hp:=zaX (chkLim_0 h).2.2.2.2.2.2.2.1
 obtain ⟨n,hn,hb⟩:=List.mem_flatMap.1 hb
 have:=beginsL_mem h hb
 omega
set_option maxRecDepth 100000
set_option linter.unusedVariables false
set_option linter.unusedSimpArgs false
set_option maxHeartbeats 2000000
theorem pure81 (s:ByteArray):Pure Tryz.prog 192 [.s s] (.b (decide (s=s0) || isName s)):=by
 refine zf (cF Tryz.func192 Tryz.f192.eq_1) (by simp) fun hw X hX=>?_
 repeat' first|refine gC (fun hc=>?_) (fun hc=>?_)<;>try contradiction|refine zN (fun _=>yW _) ?_|refine gG ?_|show AK _;intro K H|refine H _ _ ?_;clear H K|refine gJ ?_;try exact trivial|omega
 exact .refl _
theorem pure33 (n a b:Int):Pure Tryz.prog 193 [.i .i64 n,.i .i64 a,.i .i64 b] (.b (decide (n < a) || decide (b < n))):=by
 refine zf (cF Tryz.func193 Tryz.f193.eq_1) (by simp) fun hw X hX=>?_
 repeat' first|refine gC (fun hc=>?_) (fun hc=>?_)<;>try contradiction|refine gG ?_|show AK _;intro K H|refine H _ _ ?_;clear H K|refine gJ ?_;try exact trivial|omega
 exact .refl _
theorem yi {e:Int} {r:List Int} (h:e=0):zg (e::r)=zg r:=by rw [zg,if_pos h]
theorem yR {e:Int} {r:List Int} (h:e≠0):zg (e::r)=e:=by rw [zg,if_neg h]
theorem rng_3 {n a b:Int} (h:n < a∨b < n):rng n a b=3:=by rw [rng,if_pos h]
theorem ycF {s:ByteArray} (h:isName s=true):zaH s=0:=by rw [zaH,if_neg (by simp [h])]
theorem ycE {s:ByteArray} (h:isName s=false):zaH s=8:=by rw [zaH,if_pos h]
theorem optE_0 {s:ByteArray} (h:s=s0∨isName s=true):optE s=0:=by rw [optE,if_neg];rintro ⟨h1,h2⟩;rcases h with h|h<;>simp_all
theorem optE_8 {s:ByteArray} (h:¬s=s0∧isName s=false):optE s=8:=by rw [optE,if_pos h]
theorem yam {e k:Int} {r:List Int} (h:e=k) (hk:k≠0):zg (e::r)=k:=by rw [yR (by rw [h];exact hk),h]
theorem ybw {a b c:Int} (h:0≤a∧a≤999∧0≤b∧b≤9∧0≤c∧c≤99):loadE a b c=0:=by rw [loadE];simp only [zg,rng];(repeat' split)<;>omega
theorem weakI {a b:Int} (h:a=b):Weak (.i .i64 a) (.i .i64 b):=h ▸ .refl _
theorem ycI {k:ByteArray} (h:¬k=sA∧¬k=sD→k=sT):kindE k=0:=by rw [kindE,if_neg];rintro ⟨h1,h2,h3⟩;exact h3 (h ⟨h1,h2⟩)
theorem yb9 {k:ByteArray} (h:(¬k=sA∧¬k=sD)∧¬k=sT):kindE k=13:=by rw [kindE,if_pos ⟨h.1.1,h.1.2,h.2⟩]
theorem ybC {k:ByteArray} (h:¬k=sA→k=sD):flightE k=0:=by rw [flightE,if_neg];rintro ⟨h1,h2⟩;exact h2 (h h1)
theorem ybd {k:ByteArray} (h:¬k=sA∧¬k=sD):flightE k=13:=by rw [flightE,if_pos h]
theorem ybt (l:Lim):Pure Tryz.prog 118 [l.pv] (.i .i64 (zaS l)):=by
 refine zf (cF Tryz.func118 Tryz.f118.eq_1) (by simp) fun hw X hX=>?_
 repeat' first|refine gC (fun hc=>?_) (fun hc=>?_)<;>try contradiction|refine za (yW _) ?_|refine za (pure81 _) ?_|refine zN (fun _=>pure33 _ _ _) ?_|refine za (yO l.per) ?_|refine gG ?_|show AK _;intro K H|refine H _ _ ?_;clear H K|refine gJ ?_;try exact trivial|omega
 all_goals (refine weakI (Eq.symm ?_);rw [zaS];(repeat refine Eq.trans (yi (by first|exact ycF (by assumption)|exact ycI (by assumption)|exact ybC (by assumption)|exact optE_0 (by assumption)|exact rng_0.2 (by omega)|exact ybw (by omega)|exact if_neg (by omega)|assumption)) ?_);first|rfl|exact yam (by first|exact ycE (by assumption)|exact yb9 (by assumption)|exact ybd (by assumption)|exact optE_8 (by assumption)|exact rng_3 (by omega)|exact if_pos (by omega)|rfl) (by first|decide|assumption)|(simp only [zg,rng,loadE];(repeat' split)<;>omega))
theorem pure72 (l:List Lim) (n:ByteArray):Pure Tryz.prog 119 [.sl 11 (l.map Lim.pv),.s n] (.i .i64 (atL n (l.map Lim.name))):=by
 refine zf (cF Tryz.func119 Tryz.f119.eq_1) (by simp) fun hw X hX=>?_
 simp only [wfs,PV.wf,List.length_map,maxLen] at hw
 repeat' first|refine gC (fun hc=>?_) (fun hc=>?_)<;>try contradiction|refine gG ?_|show AK _;intro K H|refine H _ _ ?_;clear H K|refine gJ ?_;try exact trivial|omega
 refine zk (κ:=Nat) (fun i=>⟨[(0,.p (.sl 11 (l.map Lim.pv))),(1,.p (.s n)),(5,.p (.i .i64 i))],[],[],false⟩) (fun i=>i≤l.length∧∀ x ∈ (l.map Lim.name).take i,x≠n) (fun i=>l.length - i) 0 ?_ ?_ ?_
 ·exact sR
 ·simp
 ·intro i hi
  repeat first|refine gG ?_|show AK _;intro K H|refine H _ _ ?_;clear H K|refine gJ ?_;try exact trivial|omega
  (refine gC (fun hc=>?_) (fun hc=>?_)<;>try contradiction)
  ·obtain ⟨x,hx⟩:=zn (i:=i) (l:=l) (by omega)
   have qe:=@hx;repeat' first|refine gC (fun hc=>?_) (fun hc=>?_)<;>try contradiction|refine gG ?_|show AK _;intro K H|refine H _ _ ?_;clear H K|refine gJ ?_;try exact trivial|omega
   ·rw [atL_hit hi.2 (by simp [hx,hc])];exact .refl _
   ·refine ⟨i+1,⟨by omega,fun y hy=>?_⟩,by omega,by simp⟩
    rw [←List.map_take,take_snoc _ hx] at hy
    rcases List.mem_append.1 hy with h|h
    ·exact hi.2 y (by rw [←List.map_take];exact h)
    ·simp at h;subst h;exact hc
  ·repeat' first|refine gC (fun hc=>?_) (fun hc=>?_)<;>try contradiction|refine gG ?_|show AK _;intro K H|refine H _ _ ?_;clear H K|refine gJ ?_;try exact trivial|omega
   have e:i=l.length:=by omega
   subst e
   rw [atL_end (fun y hy=>hi.2 y (by rw [List.take_of_length_le (by simp)];exact hy))];exact .refl _
theorem pure23 (l:List Lim):Pure Tryz.prog 37 [.sl 11 (l.map Lim.pv)] (.i .i64 (z3 l)):=by
 refine zf (cF Tryz.func37 Tryz.f37.eq_1) (by simp) fun hw X hX=>?_
 simp only [wfs,PV.wf,List.length_map,maxLen] at hw
 repeat' first|refine gC (fun hc=>?_) (fun hc=>?_)<;>try contradiction|refine gG ?_|show AK _;intro K H|refine H _ _ ?_;clear H K|refine gJ ?_;try exact trivial|omega
 ·rw [z3,if_pos (by omega)];exact .refl _
 refine zk (κ:=Nat) (fun i=>⟨[(0,.p (.sl 11 (l.map Lim.pv))),(3,.p (.i .i64 i))],[],[],false⟩) (fun i=>i≤l.length∧∀ x ∈ (limErrs l).take i,x=0) (fun i=>l.length - i) 0 ?_ ?_ ?_
 ·exact sR
 ·simp
 ·intro i hi
  repeat first|refine gG ?_|show AK _;intro K H|refine H _ _ ?_;clear H K|refine gJ ?_;try exact trivial|omega
  (refine gC (fun hc=>?_) (fun hc=>?_)<;>try contradiction)
  ·obtain ⟨x,hx⟩:=zn (i:=i) (l:=l) (by omega)
   have key:∀ e:Int,limErr l i x=e→e≠0→z3 l=e:=fun e he h0=>by subst he;unfold z3;rw [if_neg (by omega)];exact zV hi.2 (zI hx) h0
   have qe:=aI qR (aI @hx @take_map);repeat' first|refine gC (fun hc=>?_) (fun hc=>?_)<;>try contradiction|refine za (ybt x) ?_|refine za (pure72 (l.take i) x.name) ?_|refine gG ?_|show AK _;intro K H|refine H _ _ ?_;clear H K|refine gJ ?_;try exact trivial|omega
   ·rw [key (zaS x) (by rw [limErr,yR hc]) hc];exact .refl _
   ·rw [key 9 (by rw [limErr,yi (by assumption),yam (if_pos hc) (by decide)]) (by decide)];exact .refl _
   ·exact ⟨i+1,⟨by omega,zaC hi.2 (zI hx) (by rw [limErr,yi (by assumption),yi (if_neg (by omega)),ybe])⟩,by omega,by simp⟩
  ·repeat' first|refine gC (fun hc=>?_) (fun hc=>?_)<;>try contradiction|refine gG ?_|show AK _;intro K H|refine H _ _ ?_;clear H K|refine gJ ?_;try exact trivial|omega
   have e:i=(limErrs l).length:=by simp [limErrs];omega
   subst e
   rw [z3,if_neg (by omega),z4 hi.2];exact .refl _
def fewB (p:Per) (n:Int):Bool:=!decide (zau p=0) || decide (p.to - p.fro < n)
theorem ycl (p:Per) (n:Int):Pure Tryz.prog 178 [p.pv,.i .i64 n] (.b (fewB p n)):=by
 refine zf (cF Tryz.func178 Tryz.f178.eq_1) (by simp) fun hw X hX=>?_
 by_cases h:zau p=0
 ·have hp:=zaX h
  have h':=eq_true h
  have qe:=@h';repeat' first|refine gC (fun hc=>?_) (fun hc=>?_)<;>try contradiction|refine za (yO p) ?_|refine gG ?_|show AK _;intro K H|refine H _ _ ?_;clear H K|refine gJ ?_;try exact trivial|omega
  simp only [fewB,h',decide_true,Bool.not_true,Bool.false_or];exact .refl _
 ·have h':=eq_false h
  have qe:=@h';repeat' first|refine gC (fun hc=>?_) (fun hc=>?_)<;>try contradiction|refine za (yO p) ?_|refine gG ?_|show AK _;intro K H|refine H _ _ ?_;clear H K|refine gJ ?_;try exact trivial|omega
  simp only [fewB,h',decide_false,Bool.not_false,Bool.true_or];exact .refl _
theorem pure76 (l:Lim) (h:zaS l=0):Pure Tryz.prog 179 [l.pv] (.i .i64 (begN l)):=by
 have hl:=chkLim_0 h
 have hq1:(l.fro+l.step - 1).tdiv l.step=l.from_:=Int.tdiv_eq_ediv_of_nonneg (by omega)
 have hq2:l.to.tdiv l.step=l.to / l.step:=Int.tdiv_eq_ediv_of_nonneg (by omega)
 have hb1:0≤l.from_:=Int.ediv_nonneg (by omega) (by omega)
 have hb2:l.from_≤l.fro+l.step - 1:=Int.ediv_le_self _ (by omega)
 have hb3:0≤l.to / l.step:=Int.ediv_nonneg (by omega) (by omega)
 have hb4:l.to / l.step≤l.to:=Int.ediv_le_self _ (by omega)
 have hN:l.to / l.step - l.from_+1=(begN l:Int):=by
  unfold begN
  have:(l.fro - 1) / l.step≤l.to / l.step:=Int.ediv_le_ediv (by omega) (by omega)
  have e:l.from_=(l.fro - 1) / l.step+1:=by unfold Lim.from_;rw [show l.fro+l.step - 1=l.fro - 1+1*l.step by omega,Int.add_mul_ediv_right _ _ (by omega)]
  omega
 refine zf (cF Tryz.func179 Tryz.f179.eq_1) (by simp) fun hw X hX=>?_
 have qe:=aI @hq1 @hq2;repeat' first|refine gC (fun hc=>?_) (fun hc=>?_)<;>try contradiction|refine gG ?_|show AK _;intro K H|refine H _ _ ?_;clear H K|refine gJ ?_;try exact trivial|omega
 rw [hN];exact .refl _
theorem y2 {α:Type} {l:List α} {p:α→Bool} {i:Nat} {x:α} (hx:l[i]?=some x) (hp:p x=false):l.all p=false:=by
 cases h:l.all p
 ·rfl
 ·rw [List.all_eq_true] at h;rw [h x (List.mem_of_getElem? hx)] at hp;exact hp
theorem yt {α:Type} {l:List α} {p:α→Bool} {i:Nat} {x:α} (h:∀ y ∈ l.take i,p y=true) (hx:l[i]?=some x) (hp:p x=true):∀ y ∈ l.take (i+1),p y=true:=by
 intro y hy
 rw [List.take_add_one,hx] at hy
 rcases List.mem_append.1 hy with hy|hy
 ·exact h y hy
 ·simp at hy;subst hy;exact hp
theorem yT {α:Type} {l:List α} {p:α→Bool} (h:∀ y ∈ l.take l.length,p y=true):l.all p=true:=by
 rw [List.take_length] at h;rw [List.all_eq_true];exact h
set_option maxRecDepth 100000
set_option linter.unusedVariables false
set_option linter.unusedSimpArgs false
set_option maxHeartbeats 2000000
theorem yao (x:ByteArray):(decide (x=x))=true:=decide_eq_true rfl
theorem yak {p:Per} (h:zau p=0) (d:Int):hasB p d=decide (d ∈ zY p):=by
 have hp:=zaX h
 by_cases hm:d ∈ zY p
 ·have:=daysL_mem hm
  rw [decide_eq_true hm]
  have he:hasE p d=0:=by rw [hasE];simp only [zq,rng_0];exact ⟨by assumption,⟨by omega,by omega⟩,rfl⟩
  simp [hasB,he,hasD,this]
 ·rw [decide_eq_false hm]
  cases hb:hasB p d
  ·rfl
  ·exfalso;apply hm
   simp only [hasB,hasD,Bool.and_eq_true,decide_eq_true_eq] at hb
   refine List.mem_flatMap.2 ⟨(d - p.fro).toNat,List.mem_range.2 (by omega),?_⟩
   rw [Int.toNat_of_nonneg (by omega),show p.fro+(d - p.fro)=d by omega,if_pos hb.2.2]
   simp
theorem yY {α β:Type} {f g:α→List β}:∀ {l:List α},(∀ x ∈ l,f x=g x)→l.flatMap f=l.flatMap g
 | [],_=>rfl
 | x::r,h=>by rw [List.flatMap_cons,List.flatMap_cons,h x (by simp),yY fun y hy=>h y (by simp [hy])]
theorem yw {l:Lim} (h:zaS l=0) (d:Int):zM l d=if d ∈ zY l.per then begK l d (begN l) else []:=by
 have hl:=chkLim_0 h
 have hb:=yak hl.2.2.2.2.2.2.2.1 d
 by_cases hm:d ∈ zY l.per
 ·have hd:=daysL_mem hm
  rw [zM,if_pos hm,if_pos]
  rw [decide_eq_true hm] at hb
  simp only [begOk,hb,Bool.not_true,Bool.or_false,Bool.not_eq_true',Bool.or_eq_false_iff,decide_eq_false_iff_not];omega
 ·rw [zM,if_neg hm,if_neg]
  rw [decide_eq_false hm] at hb
  simp [begOk,hb]
theorem yV {l:Lim} (h:zaS l=0):yb l=(zY l.per).flatMap fun d=>begK l d (begN l):=by
 have hl:=chkLim_0 h
 have hp:=hl.2.2.2.2.2.2.2.1
 unfold yb winK winN zY
 rw [List.flatMap_assoc]
 refine yY fun k hk=>?_
 have hk:=List.mem_range.1 hk
 rw [yw h]
 have hb:=yak hp (l.per.fro+k)
 have hpp:=zaX hp
 have he:hasE l.per (l.per.fro+k)=0:=by rw [hasE];simp only [zq,rng_0];exact ⟨by assumption,⟨by omega,by omega⟩,rfl⟩
 have hi:hasB l.per (l.per.fro+k)=inM l.per.days ((l.per.fro+k+5) % 7):=by
  simp only [hasB,he,hasD,decide_true,Bool.true_and,show l.per.fro≤l.per.fro+(k:Int) by omega,show l.per.fro+(k:Int)≤l.per.to by omega]
 rw [hi] at hb
 rw [hb]
 simp only [decide_eq_true_eq]
 split<;>simp
end Go.Proofs.YtahmdjadnlpjoaaGreat
