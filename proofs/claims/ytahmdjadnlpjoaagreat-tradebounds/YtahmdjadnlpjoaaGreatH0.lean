/- Contracts of functions that the proof uses, shared by the claims of this seat; no statement of its own. Part 70. No conditions. -/
import Derived.ProofKit
import Derived.OpenShut
import Derived.Carry
import Derived.OpenVars
import Derived.HandedShaped
import Derived.KernelRfl
import Derived.Laws.RangeAny
import Derived.Test.YtahmdjadnlpjoaaGreatK40
set_option linter.all false
set_option maxHeartbeats 8000000
set_option maxRecDepth 100000
namespace Go.Proofs.YtahmdjadnlpjoaaGreat
open Go.ChangeShapes Go.WideShapes Go.ChangeAt Go.RowKit
def yDF:=aI @decide_true @decide_false
def yDT:=aI @decide_true (aI @decide_false @Bool.not_true)
def yk (P:Program) (t:TypeId):Bool:=match P.underlying t with|some (.struct _)|some (.array _ _)=>true|_=>false
def yr (P:Program) (F:TypeId->Option (List CP)):List (TypeId × Nat)->Nat->Option (List CP)
 | [],_=>some []
 | p::r,off=>if p.2=off then (F p.1).bind λc=>if P.cellsOf p.1=c.length then (yr P F r (off+c.length)).map (c++·) else none else none
def yah (P:Program):Nat->Nat->TypeId->Option (List CP)
 | 0,_,_=>none
 | n+1,sl,t=>match P.underlying t with
  | some .bool=>some [.b]
  | some (.int k)=>some [.i k]
  | some .string=>some [.s]
  | some (.slice e)=>match sl with
   | 0=>none
   | sl+1=>(yah P n sl e).bind λc=>if P.cellsOf e=c.length/\(yk P e=true\/c.length=1)/\0 < c.length then some [.sl (yk P e) c] else none
  | some (.struct fs)=>(yr P (yah P n sl) (fs.toList.map λf=>(f.type,f.offset)) 0).bind λc=>if c.length=P.cellsOf t then some c else none
  | some (.array m e)=>(yr P (yah P n sl) ((List.range m).map λi=>(e,i*P.cellsOf e)) 0).bind λc=>if c.length=P.cellsOf t then some c else none
  | _=>none
def yaW (ag:Bool) (l:List PV):PV:=if ag then .agg l else l.headD .any
def Fit:Nat->CP->PV->Prop
 | _,.b,p=>∃ x,p=.b x
 | _,.i k,p=>∃ n,p=.i k n
 | _,.s,p=>∃ x,p=.s x
 | 0,.sl _ _,_=>False
 | n+1,.sl ag cs,p=>∃ xs,p=.sl cs.length xs/\∀ x ∈ xs,∃ l,x=yaW ag l/\FitAll (Fit n) cs l
theorem yH {α β:Type} {f:α->Option β}:∀ {l:List α} {r:List β},l.mapM f=some r->∀ x ∈ l,∃ y,f x=some y
 | [],_,_,x,hx=>by cases hx
 | a::l,r,h,x,hx=>by
  rw [List.mapM_cons] at h
  cases ha:f a with
  | none=>rw [ha] at h;cases h
  | some y=>
   rw [ha] at h
   simp only [Option.bind_eq_bind,Option.bind_some] at h
   cases hl:l.mapM f with
   | none=>rw [hl] at h;cases h
   | some ys=>
    rcases List.mem_cons.1 hx with rfl|hx
    .exact ⟨y,ha⟩
    .exact yH hl x hx
theorem yh {α β:Type} {f:α->Option β}:∀ {l:List α} {r:List β},l.mapM f=some r->r.length=l.length
 | [],r,h=>by simp at h;subst h;rfl
 | a::l,r,h=>by
  rw [List.mapM_cons] at h
  cases ha:f a with
  | none=>rw [ha] at h;cases h
  | some y=>
   rw [ha] at h
   simp only [Option.bind_eq_bind,Option.bind_some] at h
   cases hl:l.mapM f with
   | none=>rw [hl] at h;cases h
   | some ys=>
    rw [hl] at h
    simp only [Option.bind_some,Option.pure_def,Option.some.injEq] at h
    subst h
    simp [yh hl]
theorem yba {α β:Type} {f:α->Option β}:∀ {l:List α} {r:List β},l.mapM f=some r->∀ {i:Nat} {x:α},l[i]?=some x->f x=r[i]?
 | [],r,_,i,x,hx=>by simp at hx
 | a::l,r,h,i,x,hx=>by
  rw [List.mapM_cons] at h
  cases ha:f a with
  | none=>rw [ha] at h;cases h
  | some y=>
   rw [ha] at h
   simp only [Option.bind_eq_bind,Option.bind_some] at h
   cases hl:l.mapM f with
   | none=>rw [hl] at h;cases h
   | some ys=>
    rw [hl] at h
    simp only [Option.bind_some,Option.pure_def,Option.some.injEq] at h
    subst h
    cases i with
    | zero=>simp at hx;subst hx;simpa using ha
    | succ i=>simpa using yba hl (i:=i) (by simpa using hx)
theorem ydn {k:IntKind} {n:Int} (h:(Lit.int k n).wf=true):k.wrap n=n:=by
 cases k<;>simp [Lit.wf,IntKind.wrap,IntKind.min,IntKind.max,IntKind.signed,IntKind.bits] at *<;>omega
section
variable {H:Type} {enc:TypeId × Value->H} {P:Program} {w:World} {base:Nat} {sp:Nat->Bool} {held:Bool}
theorem ycq {a:Addr} {v:Value} (h:w.cell? a=some v):a.block < w.heap.size/\a.spot=none:=by
 unfold World.cell? at h
 split at h
 .rename_i hh
  split at h
  .cases h
  .rename_i hs
   exact ⟨(Array.getElem?_eq_some_iff.1 hh).1,by simpa using hs⟩
 .cases h
theorem yN {fuel n:Nat} {sl:Nat} {B:Nat->Prop} {cs:List Value}
  (ih:∀ {t:TypeId} {ds:List Value} {x:DataW H × List MemPlace} {c:List CP},(∀ v ∈ ds,v ∈ cs)->DataW.trod enc P w base sp held fuel t ds=some x->yah P n sl t=some c->∃ ps,Reps w B ds ps/\FitAll (Fit n) c ps) :
  ∀ (fl:List (TypeId × Nat)) (off:Nat) (c:List CP),(∀ p ∈ fl,∃ x,DataW.trod enc P w base sp held fuel p.1 ((cs.drop p.2).take (P.cellsOf p.1))=some x)->yr P (yah P n sl) fl off=some c->off+c.length<=cs.length ->
   ∃ ps,Reps w B ((cs.drop off).take c.length) ps/\FitAll (Fit n) c ps
 | [],off,c,_,h,_=>by
  simp only [yr,Option.some.injEq] at h;subst h
  exact ⟨[],by simpa using Reps.nil,trivial⟩
 | p::r,off,c,hx,h,hl=>by
  simp only [yr] at h
  split at h
  .rename_i ho
   obtain ⟨c1,h1,h⟩:=Option.bind_eq_some_iff.1 h
   split at h
   .rename_i hc
    obtain ⟨c2,h2,rfl⟩:=Option.map_eq_some_iff.1 h
    obtain ⟨x,hx1⟩:=hx p (by simp)
    rw [ho,hc] at hx1
    obtain ⟨p1,r1,f1⟩:=ih (λv hv=>List.mem_of_mem_drop (List.mem_of_mem_take hv)) hx1 h1
    obtain ⟨p2,r2,f2⟩:=yN ih r (off+c1.length) c2 (λq hq=>hx q (by simp [hq])) h2 (by simp at hl;omega)
    refine ⟨p1++p2,?_,f1.app f2⟩
    have e:(cs.drop off).take (c1++c2).length=(cs.drop off).take c1.length++(cs.drop (off+c1.length)).take c2.length:=by
     rw [List.length_append,List.take_add,List.drop_drop]
    rw [e];exact r1.append r2
   .cases h
  .cases h
theorem yV {B:Nat->Prop} (hB:∀ b,b < w.heap.size->B b):∀ (n fuel:Nat) (sl:Nat) {t:TypeId} {cs:List Value} {x:DataW H × List MemPlace} {c:List CP},
  DataW.trod enc P w base sp held fuel t cs=some x->yah P n sl t=some c->∃ ps,Reps w B cs ps/\FitAll (Fit n) c ps
 | 0,_,_,_,_,_,_,_,h=>by simp [yah] at h
 | _+1,0,_,_,_,_,_,h,_=>by simp [DataW.trod] at h
 | n+1,fuel+1,sl,t,cs,x,c,h,hc=>by
  have mono:∀ {c:List CP} {ps:List PV},FitAll (Fit n) c ps->FitAll (Fit (n+1)) c ps:=by
   have one:∀ (m:Nat) (c:CP) (p:PV),Fit m c p->Fit (m+1) c p:=by
    intro m
    induction m with
    | zero=>intro c p h;cases c<;>first|exact h|exact h.elim
    | succ m ihm=>
     intro c p h
     cases c with
     | b=>exact h
     | i k=>exact h
     | s=>exact h
     | sl ag cs=>
      obtain ⟨xs,h1,h2⟩:=h
      refine ⟨xs,h1,λx hx=>?_⟩
      obtain ⟨l,h3,h4⟩:=h2 x hx
      refine ⟨l,h3,?_⟩
      have:∀ (a:List CP) (b:List PV),FitAll (Fit m) a b->FitAll (Fit (m+1)) a b:=by
       intro a
       induction a with
       | nil=>intro b hb;cases b<;>exact hb
       | cons y r ihr=>
        intro b hb
        cases b with
        | nil=>exact hb
        | cons z q=>exact ⟨ihm _ _ hb.1,ihr _ hb.2⟩
      exact this _ _ h4
   intro c
   induction c with
   | nil=>intro ps h;cases ps<;>exact h
   | cons y r ihr=>
    intro ps h
    cases ps with
    | nil=>exact h
    | cons z q=>exact ⟨one _ _ _ h.1,ihr h.2⟩
  unfold DataW.trod at h
  unfold yah at hc
  cases hu:P.underlying t with
  | none=>rw [hu] at hc;cases hc
  | some d=>
   rw [hu] at h hc
   match d,h,hc with
   | .bool,h,hc=>
    simp only [Option.some.injEq] at hc;subst hc
    match cs,h with
    | [.bool b],h=>exact ⟨[.b b],Reps.cons (.b b) Reps.nil,⟨b,rfl⟩,trivial⟩
   | .int k,h,hc=>
    simp only [Option.some.injEq] at hc;subst hc
    match cs,h with
    | [.int k' m],h=>
     simp only at h
     split at h
     .rename_i hk
      obtain ⟨rfl,hw⟩:=hk
      exact ⟨[.i k' m],Reps.cons (.i (ydn hw)) Reps.nil,⟨m,rfl⟩,trivial⟩
     .cases h
   | .string,h,hc=>
    simp only [Option.some.injEq] at hc;subst hc
    match cs,h with
    | [.string z],h=>
     simp only at h
     split at h
     .rename_i hk
      exact ⟨[.s z],Reps.cons (.s hk) Reps.nil,⟨z,rfl⟩,trivial⟩
     .cases h
   | .slice e,h,hc=>
    simp only at hc
    cases sl with
    | zero=>cases hc
    | succ sl=>
     obtain ⟨ce,h1,hc⟩:=Option.bind_eq_some_iff.1 hc
     split at hc
     .rename_i hce
      simp only [Option.some.injEq] at hc;subst hc
      match cs,h with
      | [.slice none 0 0],h=>exact ⟨[.sl ce.length []],Reps.cons .sl0 Reps.nil,⟨[],rfl,λx hx=>by cases hx⟩,trivial⟩
      | [.slice (some a) len cap],h=>
       simp only at h
       split at h
       .rename_i hb
        obtain ⟨els,h2,_⟩:=Option.bind_eq_some_iff.1 h
        by_cases hl0:len=0
        .subst hl0
         exact ⟨[.sl ce.length []],Reps.cons (.sle hb.2.2) Reps.nil,⟨[],rfl,λx hx=>by cases hx⟩,trivial⟩
        have hBa:B a.block/\a.spot=none:=by
         obtain ⟨y,hy⟩:=yH h2 0 (List.mem_range.2 (by omega))
         obtain ⟨us,h3,h4⟩:=Option.bind_eq_some_iff.1 hy
         unfold World.cells? at h3
         split at h3
         .have h5:=yba h3 (i:=0) (x:=0) (List.getElem?_range (by rw [hce.1];exact hce.2.2))
          have h6:us.length=P.cellsOf e:=by simpa using yh h3
          have h7:0 < us.length:=by rw [h6,hce.1];exact hce.2.2
          rw [List.getElem?_eq_getElem h7] at h5
          have e0:∀ z:Addr,z.add 0=z:=λz=>by unfold Addr.add;simp
          rw [Nat.zero_mul,e0,e0] at h5
          obtain ⟨k1,k2⟩:=ycq h5
          exact ⟨hB _ k1,k2⟩
         .cases h3
        have key:∀ i,i < len->∃ (us:List Value) (ps:List PV),(∀ j v,us[j]?=some v->w.cell? (a.add (i*ce.length+j))=some v)/\Reps w B us ps/\FitAll (Fit n) ce ps:=λi hi=>by
         obtain ⟨y,hy⟩:=yH h2 i (List.mem_range.2 hi)
         obtain ⟨us,h3,h4⟩:=Option.bind_eq_some_iff.1 hy
         obtain ⟨ps,h5,h6⟩:=yV (B:=B) hB n fuel sl h4 h1
         refine ⟨us,ps,λj v hv=>?_,h5,h6⟩
         unfold World.cells? at h3
         split at h3
         .have hlen:j < P.cellsOf e:=by
           have e1:us.length=P.cellsOf e:=by
            have:=yh h3
            simpa using this
           rw [<-e1];exact (List.getElem?_eq_some_iff.1 hv).1
          have:=yba h3 (List.getElem?_range hlen)
          rw [hv] at this
          rw [hce.1] at this
          rw [<-Addr.add_add];exact this
         .cases h3
        classical
        let U:Nat->List Value:=λi=>if hi:i < len then (key i hi).choose else []
        let PS:Nat->List PV:=λi=>if hi:i < len then (key i hi).choose_spec.choose else []
        have hU:∀ i,i < len->(∀ j v,(U i)[j]?=some v->w.cell? (a.add (i*ce.length+j))=some v)/\Reps w B (U i) (PS i)/\FitAll (Fit n) ce (PS i):=λi hi=>by
         have:=(key i hi).choose_spec.choose_spec
         simp only [U,PS,dif_pos hi];exact this
        have hcells:∀ i,i < len->(yaW (yk P e) (PS i)).cells=PS i:=λi hi=>by
         unfold yaW
         split
         .rfl
         .rename_i hag
          have hl:=(hU i hi).2.2
          have h1l:ce.length=1:=hce.2.1.resolve_left hag
          obtain ⟨q,rfl⟩:∃ q,ce=[q]:=List.length_eq_one_iff.1 h1l
          match hPS:PS i,hl with
          | [z],hl=>
           have hz:=hl.1
           simp only [List.headD_cons]
           cases q with
           | b=>cases n<;>(obtain ⟨_,rfl⟩:=hz;rfl)
           | i k=>cases n<;>(obtain ⟨_,rfl⟩:=hz;rfl)
           | s=>cases n<;>(obtain ⟨_,rfl⟩:=hz;rfl)
           | sl ag cs=>
            cases n with
            | zero=>exact hz.elim
            | succ n=>obtain ⟨_,rfl,_⟩:=hz;rfl
        refine ⟨[.sl ce.length ((List.range len).map λi=>yaW (yk P e) (PS i))],Reps.cons (.sl (λi j=>(U i)[j]?.getD undef) hBa.1 hBa.2 (by simp) hb.2.1 hb.2.2 ?_ ?_ ?_) Reps.nil,⟨_,rfl,λx hx=>?_⟩,trivial⟩
        .intro i x hx
         simp only [List.getElem?_map,Option.map_eq_some_iff] at hx
         obtain ⟨i',hi',rfl⟩:=hx
         obtain ⟨hi,rfl⟩:=List.getElem?_eq_some_iff.1 hi'
         simp only [List.length_range,List.getElem_range] at hi ⊢
         rw [hcells i hi,(hU i hi).2.2.len]
        .intro i x j p hx hp
         simp only [List.getElem?_map,Option.map_eq_some_iff] at hx
         obtain ⟨i',hi',rfl⟩:=hx
         obtain ⟨hi,rfl⟩:=List.getElem?_eq_some_iff.1 hi'
         simp only [List.length_range,List.getElem_range] at hi hp ⊢
         rw [hcells i hi] at hp
         obtain ⟨v,hv,_⟩:=(hU i hi).2.1.get hp
         rw [hv];exact (hU i hi).1 j v hv
        .intro i x j p hx hp
         simp only [List.getElem?_map,Option.map_eq_some_iff] at hx
         obtain ⟨i',hi',rfl⟩:=hx
         obtain ⟨hi,rfl⟩:=List.getElem?_eq_some_iff.1 hi'
         simp only [List.length_range,List.getElem_range] at hi hp ⊢
         rw [hcells i hi] at hp
         obtain ⟨v,hv,hr⟩:=(hU i hi).2.1.get hp
         rw [hv];exact hr
        .obtain ⟨i,hi,rfl⟩:=List.mem_map.1 hx
         exact ⟨_,rfl,(hU i (List.mem_range.1 hi)).2.2⟩
       .cases h
     .cases hc
   | .struct fs,h,hc=>
    simp only at h hc
    obtain ⟨c',h1,hc⟩:=Option.bind_eq_some_iff.1 hc
    split at hc
    .rename_i hl
     simp only [Option.some.injEq] at hc;subst hc
     split at h
     .rename_i hcs
      obtain ⟨xs,h2,_⟩:=Option.map_eq_some_iff.1 h
      obtain ⟨ps,h3,h4⟩:=yN (B:=B) (cs:=cs) (n:=n) (sl:=sl) (λhsub hx hc=>yV hB n fuel sl hx hc) (fs.toList.map λf=>(f.type,f.offset)) 0 c' (λp hp=>by
       obtain ⟨f,hf,rfl⟩:=List.mem_map.1 hp
       exact yH h2 f hf) h1 (by omega)
      rw [List.drop_zero,hl,<-hcs,List.take_length] at h3
      exact ⟨ps,h3,mono h4⟩
     .cases h
    .cases hc
   | .array m e,h,hc=>
    simp only at h hc
    obtain ⟨c',h1,hc⟩:=Option.bind_eq_some_iff.1 hc
    split at hc
    .rename_i hl
     simp only [Option.some.injEq] at hc;subst hc
     split at h
     .rename_i hcs
      obtain ⟨xs,h2,_⟩:=Option.map_eq_some_iff.1 h
      obtain ⟨ps,h3,h4⟩:=yN (B:=B) (cs:=cs) (n:=n) (sl:=sl) (λhsub hx hc=>yV hB n fuel sl hx hc) ((List.range m).map λi=>(e,i*P.cellsOf e)) 0 c' (λp hp=>by
       obtain ⟨i,hi,rfl⟩:=List.mem_map.1 hp
       exact yH h2 i hi) h1 (by omega)
      rw [List.drop_zero,hl,<-hcs,List.take_length] at h3
      exact ⟨ps,h3,mono h4⟩
     .cases h
    .cases hc
end
open Go.ChangeShapes Go.WideShapes Go.ChangeAt Go.RowKit
def yde (P:Program) (n:Nat) (t:TypeId):Option (Bool × List CP):=(yah P n 2 t).bind λc=>if yk P t=true\/c.length=1 then some (yk P t,c) else none
def yag (P:Program) (n:Nat) (t:TypeId) (p:PV):Prop:=
 (∃ ag c l,yde P n t=some (ag,c)/\p=yaW ag l/\FitAll (Fit n) c l)/\(∀ e sz xs,P.underlying t=some (.slice e)->p=.sl sz xs->xs.length*P.bytesOf e<=reachBytes)
def ybh (P:Program) (n:Nat):List TypeId->List PV->Prop
 | [],[]=>True
 | t::ts,p::ps=>yag P n t p/\ybh P n ts ps
 | _,_=>False
section
variable {H:Type} {enc:TypeId × Value->H} {P:Program} {W:World}
theorem ydD {base n:Nat} {t:TypeId} {v:Value} {d:DataW H} {ps:List MemPlace} (hval:Value.okWide P W .any base t v) (h:DataW.Trod enc P W 0 (λ_=>true) true t v d ps) {q:Bool × List CP} (hq:yde P n t=some q)
  (hz:(d.weights P t).all (·<=reachBytes)=true):∃ p,Rep W (λb=>b < W.heap.size) v p/\yag P n t p:=by
 obtain ⟨fuel,h⟩:=h
 have hq0:=hq
 unfold yde at hq
 obtain ⟨c,hc,hq⟩:=Option.bind_eq_some_iff.1 hq
 split at hq
 .rename_i hl
  simp only [Option.some.injEq] at hq
  subst hq
  unfold yk at hl hq0
  have key:∀ {cs:List Value},DataW.trod enc P W 0 (λ_=>true) true fuel t cs=some (d,ps)->(∀ v ∈ cs,∃ u,Cell.okWide P W .any base u v)->∃ l,Reps W (λb=>b < W.heap.size) cs l/\FitAll (Fit n) c l:=λht hc1=>
   yV (λ_ h=>h) n fuel 2 ht hc
  have other:yk P t=false->(∃ u,Cell.okWide P W .any base u v)->v.cells.toList=[v]->∃ p,Rep W (λb=>b < W.heap.size) v p/\yag P n t p:=λhag hok hcv=>by
   rw [hcv] at h
   obtain ⟨l,h1,h2⟩:=key h (λv' hv=>by simp at hv;subst hv;exact hok)
   have hlen:=h1.1
   match l,hlen with
   | [p],_=>
    have hr:=h1.2 0 v p rfl rfl
    refine ⟨p,hr,⟨false,c,[p],?_,rfl,h2⟩,λe sz xs hu he=>?_⟩
    .rw [hq0]
     have:yk P t=false:=hag
     unfold yk at this
     rw [this]
    .subst he
     cases hr with
     | sl0=>simp
     | sle=>simp
     | sl u h3 h4 h5 h6 h7 h8 h9 h10=>
      rename_i a len cap hh
      cases fuel with
      | zero=>simp [DataW.trod] at h
      | succ fuel=>
       unfold DataW.trod at h
       rw [hu] at h
       simp only at h
       split at h
       .obtain ⟨els,e1,h⟩:=Option.bind_eq_some_iff.1 h
        obtain ⟨rest,e2,h⟩:=Option.map_eq_some_iff.1 h
        injection h with hd _
        subst hd
        have:=List.all_eq_true.1 hz ((els.length+rest.length)*P.bytesOf e) (by simp [DataW.weights,hu])
        simp only [decide_eq_true_eq] at this
        have hle:els.length=len:=by simpa using yh e1
        rw [h5,<-hle]
        exact Nat.le_trans (Nat.mul_le_mul_right _ (Nat.le_add_right _ _)) this
       .cases h
  unfold Value.okWide at hval
  cases hu:P.underlying t with
  | none=>unfold yah at hc;cases n<;>simp [hu] at hc
  | some desc=>
   have ag:(∃ fs,desc=.struct fs)\/(∃ k e,desc=.array k e)\/(yk P t=false/\Cell.okWide P W .any base t v):=by
    unfold yk
    rw [hu] at hval ⊢
    cases desc<;>first|exact .inl ⟨_,rfl⟩|exact .inr (.inl ⟨_,_,rfl⟩)|exact .inr (.inr ⟨rfl,hval⟩)
   have agg:yk P t=true->(∃ cs,v=.agg cs/\cs.size=P.cellsOf t/\Row.okWide P W .any base t cs)->∃ p,Rep W (λb=>b < W.heap.size) v p/\yag P n t p:=λhag hcs=>by
    obtain ⟨cs,rfl,_,hrow⟩:=hcs
    obtain ⟨l,h1,h2⟩:=key (cs:=cs.toList) h (λv' hv=>by
     obtain ⟨ts,_,_,hcell⟩:=hrow
     obtain ⟨i,hi⟩:=List.getElem?_of_mem hv
     obtain ⟨u,_,hk⟩:=hcell i v' (by simpa using hi)
     exact ⟨u,hk⟩)
    refine ⟨.agg l,.agg (by simpa using h1.1) (λj v' p hv hp=>h1.2 j v' p (by simpa using hv) hp),⟨true,c,l,?_,rfl,h2⟩,λe sz xs hu' he=>by cases he⟩
    rw [hq0]
    have:yk P t=true:=hag
    unfold yk at this
    rw [this]
   rcases ag with ⟨fs,rfl⟩|⟨k,e,rfl⟩|⟨hag,hok⟩
   .rw [hu] at hval
    exact agg (by unfold yk;rw [hu]) hval
   .rw [hu] at hval
    exact agg (by unfold yk;rw [hu]) hval
   .refine other hag ⟨t,hok⟩ ?_
    have:∀ cs,v≠.agg cs:=λcs e=>by
     subst e
     unfold Cell.okWide at hok
     have h2:Cell.ok P W .any base t (.agg cs):=by
      split at hok
      all_goals first|exact hok|(rename_i hv;cases hv)
     unfold Cell.ok at h2
     split at h2
     all_goals first|exact h2.elim|skip
     all_goals (rename_i hv;first|cases hv|skip)
    cases v<;>first|rfl|exact absurd rfl (this _)
 .cases hq
theorem ybt {base n:Nat}:∀ {ts:List TypeId} {vs:List Value} {ds:List (DataW H)} {ps:List MemPlace},DataW.TrodAll enc P W 0 (λ_=>true) true ts vs ds ps->(∀ (j:Nat) t v,ts[j]?=some t->vs[j]?=some v->Value.okWide P W .any base t v) ->
  (∀ t ∈ ts,∃ q,yde P n t=some q)->(DataW.weightsEach P ts ds).all (·<=reachBytes)=true->∃ l,Reps W (λb=>b < W.heap.size) vs l/\ybh P n ts l
 | [],vs,ds,ps,h,_,_,_=>by
  obtain ⟨rfl,rfl,rfl⟩:=trodAll_nil h
  exact ⟨[],Reps.nil,trivial⟩
 | t::ts,vs,ds,ps,h,hval,hq,hz=>by
  obtain ⟨v,vs1,d,ds1,a,b,rfl,rfl,rfl,h1,h2⟩:=trodAll_cons h
  obtain ⟨q,hq1⟩:=hq t (by simp)
  simp only [DataW.weightsEach,List.all_append,Bool.and_eq_true] at hz
  obtain ⟨p,r1,f1⟩:=ydD (n:=n) (hval 0 t v rfl rfl) h1 hq1 hz.1
  obtain ⟨l,r2,f2⟩:=ybt h2 (λj t v ht hv=>hval (j+1) t v (by simpa using ht) (by simpa using hv)) (λt ht=>hq t (by simp [ht])) hz.2
  exact ⟨p::l,Reps.cons r1 r2,f1,f2⟩
theorem yG (hl:laidOutB P=true) {W':World} {sp:Nat->Bool}:∀ {ts:List TypeId} {vs:List Value} {ds:List (DataW H)} {ps:List MemPlace},ts.all (λt=>P.readableRec t && decide (t < P.types.size))=true->DataW.TrodAll enc P W 0 (λ_=>true) true ts vs ds ps ->
  (∀ x ∈ ps,W.sameAt W' x)->(∀ x ∈ ps,sp x.block=true)->DataW.TrodAll enc P W' 0 sp true ts vs ds ps
 | [],vs,ds,ps,_,h,_,_=>by
  obtain ⟨rfl,rfl,rfl⟩:=trodAll_nil h
  exact h
 | t::ts,vs,ds,ps,hr,h,hs,hp=>by
  obtain ⟨v,vs1,d,ds1,a,b,rfl,rfl,rfl,h1,h2⟩:=trodAll_cons h
  simp only [List.all_cons,Bool.and_eq_true,decide_eq_true_eq] at hr
  exact ⟨a,b,WideElems.Trod_stays hl hr.1.1 hr.1.2 h1 (λx hx=>hs x (by simp [hx])) (λx hx=>hp x (by simp [hx])),yG hl hr.2 h2 (λx hx=>hs x (by simp [hx])) (λx hx=>hp x (by simp [hx])),rfl⟩
theorem ybK {W':World} (hb:Below W.heap.size W W') (may:MemPlace->Prop):W.keptBut W' may:=by
 refine ⟨hb.os,hb.output,λi hi=>?_⟩
 rw [hb.block i hi]
 cases hh:W.heap[i]? with
 | none=>rfl
 | some o=>cases o<;>first|exact ⟨rfl,rfl,rfl,λ_ _=>rfl⟩|exact .inr ⟨rfl,rfl⟩|rfl
theorem ybI {f:Func} {s:ChangeSpec} {apart fresh handsOn again:Bool} {W':World} {args:Array Value} {ds gs:List (DataW H)} {before:List MemPlace} {tb:TypeId} (hl:laidOutB P=true)
  (hrd:f.params.toList.all (λt=>P.readableRec t && decide (t < P.types.size))=true) (hW:DataW.Whole enc P f.params.toList s.vars apart W args.toList ds gs before) (hv:s.vars=[])
  (hs:s.fn H ds={ results:=[.lit (.bool true)],args:=ds }) (hr:f.resultTypes=#[tb]) (htb:P.underlying tb=some .bool) (hb:Below W.heap.size W W'):s.post enc P f apart fresh handsOn again W args (.bool true) W':=by
 have hlt:∀ p ∈ before,p.block < W.heap.size:=hW.lt
 have hW0:=hW
 obtain ⟨p,q,hA,hV,rfl,hz,hn⟩:=hW
 rw [hv] at hV
 obtain ⟨rfl,rfl⟩:=trodVars_none hV
 simp only [List.append_nil] at hz hn hlt hW0
 have hres:∀ (b:Nat) (sp:Nat->Bool) (hd:Bool),DataW.TrodAll enc P W' b sp hd f.resultTypes.toList ((Value.bool true).resultList f.resultTypes.size) [.lit (.bool true)] []:=λb sp hd=>by
  rw [hr];exact trodAll_cons_mk (shut_bool htb _) trodAll_mk0
 have hargs:∀ sp:Nat->Bool,(∀ x ∈ p,sp x.block=true)->DataW.TrodAll enc P W' 0 sp true f.params.toList args.toList ds p:=λsp hsp=>yG hl hrd hA (λx hx=>hb.same (hlt x hx)) hsp
 have hvars:∀ sp:Nat->Bool,DataW.TrodVars enc P W' sp s.vars ([]:List (DataW H)) []:=λsp=>by rw [hv];rfl
 refine ⟨ds,[],p,[],p,[],hW0,by rw [List.append_nil,hs];exact hres _ _ _,by rw [List.append_nil,hs];exact hargs _ (λx hx=>by simpa using hlt x hx),by rw [List.append_nil,hs];exact hvars _,World.keptBut_mono (λx hx=>⟨hx,.inr (.inl hx)⟩) (ybK hb (· ∈ p)),λ_=>?_⟩
 refine ⟨λj t r h1 h2=>?_,[.lit (.bool true)]++ds,[],p,⟨[]++p,[],trodAll_append (hargs _ (λ_ _=>rfl)) (hres _ _ _),hvars _,by simp,?_,?_⟩,λx hx _=>hx⟩
 .rw [hr] at h1 h2
  cases j with
  | zero=>
   simp [Value.resultList] at h1 h2
   subst h1;subst h2
   exact okWide_bool_mk htb _
  | succ j=>simp at h1
 .intro b off hp
  have:=hz b off hp
  unfold World.frozen? at this ⊢
  have e:W'.heap[b]?=W.heap[b]?:=hb.block b (hlt _ hp)
  simp only at this ⊢
  rw [e]
  exact this
 .intro ha;exact hn ha
end
theorem yaR {C:Checked} {f:FuncId} {fn:Func} {s:ChangeSpec} {n:Nat} {tb:TypeId} (hl:laidOutB C.prog=true) (hrd:fn.params.toList.all (λt=>C.prog.readableRec t && decide (t < C.prog.types.size))=true)
  (hv:s.vars=[]) (hs:∀ (H:Type) (ds:List (DataW H)),ds.length=fn.params.size->s.fn H ds={ results:=[.lit (.bool true)],args:=ds }) (hr:fn.resultTypes=#[tb]) (htb:C.prog.underlying tb=some .bool)
  (hq:fn.params.toList.all (λt=>(yde C.prog n t).isSome)=true) (hp:∀ ps,ybh C.prog n fn.params.toList ps->Pure C.prog f ps (.b true))
  {H:Type} {enc:TypeId × Value->H} {apart fresh handsOn again:Bool} (W:World) (base:Nat) (args:Array Value) (ds gs:List (DataW H)) (before:List MemPlace)
  (hval:∀ (j:Nat) t v,fn.params[j]?=some t->args[j]?=some v->Value.okWide C.prog W .any base t v) (hW:DataW.Whole enc C.prog fn.params.toList s.vars apart W args.toList ds gs before)
  (hz:(DataW.weightsEach C.prog (fn.params.toList++s.plain.varTypes C.prog) (ds++gs)).all (·<=reachBytes)=true) :
  Calls C.prog f args W λe W'=>∃ v,e=.returned v/\s.post enc C.prog fn apart fresh handsOn again W args v W':=by
 have hW0:=hW
 obtain ⟨p,q,hA,hV,rfl,_,_⟩:=hW
 have hV':=hV
 rw [hv] at hV'
 obtain ⟨rfl,rfl⟩:=trodVars_none hV'
 have hlen:∀ {ts:List TypeId} {vs:List Value} {ds:List (DataW H)} {ps:List MemPlace},DataW.TrodAll enc C.prog W 0 (λ_=>true) true ts vs ds ps->ds.length=ts.length:=by
  intro ts
  induction ts with
  | nil=>intro vs ds ps h;obtain ⟨rfl,rfl,rfl⟩:=trodAll_nil h;rfl
  | cons t ts ih=>intro vs ds ps h;obtain ⟨v,vs1,d,ds1,a,b,rfl,rfl,rfl,h1,h2⟩:=trodAll_cons h;simp [ih h2]
 have hd:=hlen hA
 have hz':(DataW.weightsEach C.prog fn.params.toList ds).all (·<=reachBytes)=true:=by
  rw [List.append_nil] at hz
  have hsub:∀ (ts us:List TypeId) (ds:List (DataW H)),ds.length=ts.length->DataW.weightsEach C.prog (ts++us) ds=DataW.weightsEach C.prog ts ds:=by
   intro ts us
   induction ts with
   | nil=>intro ds h;match ds,h with|[],_=>cases us<;>simp [DataW.weightsEach]
   | cons t ts ih=>intro ds h;match ds,h with|d::ds,h=>simp only [List.cons_append,DataW.weightsEach];rw [ih ds (by simpa using h)]
  rw [hsub _ _ _ hd] at hz
  exact hz
 obtain ⟨l,hrep,hfit⟩:=ybt (n:=n) hA (λj t v ht hv'=>hval j t v (by simpa using ht) (by simpa using hv')) (λt ht=>Option.isSome_iff_exists.1 (List.all_eq_true.1 hq t ht)) hz'
 have:=(hp l hfit).2 W (λb=>b < W.heap.size) args.toList (λb hb=>hb) hrep
 refine (show Calls C.prog f args W _ from by simpa using this).mono λe W' he=>?_
 obtain ⟨u,rfl,hb,hu⟩:=he
 cases hu
 exact ⟨_,rfl,ybI hl hrd hW0 hv (hs H ds (by simpa using hd)) hr htb hb⟩
open Go.RowKit
theorem ydt {G:Cfg} {c:AC} {s:St} {Q:zO} (t:Nat) (v':PV) {pre:Prop} {v:PV} {ks:List Nat} (ht:toPV s.look 4 (s.get t)=some (pre,v,ks)) (hp:pre) (hw:Weak v v')
  (h:Run G c ((s.wrs (frzs s.look ks)).set (some t) (.p v')) Q):Run G c s Q:=by
 intro hG code hc C a w hr
 obtain ⟨C',h'⟩:=hr.pub hG.mok t ht hp hw
 refine h hG code hc C' a w ?_
 rw [(z7 _ _ _).1,(z7 _ _ _).2,(zbh _ _).1,(zbh _ _).2]
 exact h'
theorem Pubs.rel {X:Fx} {a:Act} {w:World} {s s':St} (hM:X.MOk) (h:Pubs s s'):∀ {C:Ctx},RelC X C s.get s.look s.tr s.stop a w->∃ C',RelC X C' s'.get s'.look s'.tr s'.stop a w:=by
 induction h with
 | cov h=>exact λhr=>⟨_,zbr h hr⟩
 | pub t v' ht hp hw _ ih=>
  intro C hr
  obtain ⟨C',h'⟩:=hr.pub hM t ht hp hw
  refine ih (C:=C') ?_
  rw [(z7 _ _ _).1,(z7 _ _ _).2,(zbh _ _).1,(zbh _ _).2]
  exact h'
theorem ycC {G:Cfg} {c:AC} {s:St} {Q:zO} (t:Nat) (v':PV) {pre:Prop} {v:PV} {ks:List Nat} (h:Run G c ((s.wrs (frzs s.look ks)).set (some t) (.p v')) Q)
  (ht:toPV s.look 4 (s.get t)=some (pre,v,ks):=by first|exact rE|fail)
  (hp:pre:=by first|trivial|omega|(simp;done)|exact rF|fail) (hw:Weak v v':=by first|exact .refl _|exact .nilsl _):Run G c s Q:=ydt t v' ht hp hw h
def ycu {κ:Type} (inv:κ->St) (ok:κ->Prop) (μ:κ->Nat) (k:κ) (s:St):Prop:=∃ k',ok k'/\μ k' < μ k/\Pubs s (inv k')
def ycX {κ:Type} (inv:κ->St) (ok:κ->Prop) (μ:κ->Nat) (k:κ) (Q:zO):zO
 | .normal,s=>ycu inv ok μ k s
 | e,s=>Q e s
section
variable {κ:Type} (inv:κ->St) (ok:κ->Prop) (μ:κ->Nat) (k:κ) (Q:zO) (s:St)
theorem lpN:ycX inv ok μ k Q .normal s=ycu inv ok μ k s:=rfl
theorem lpE (i:Nat):ycX inv ok μ k Q (.exit i) s=Q (.exit i) s:=rfl
theorem lpR:ycX inv ok μ k Q .ret s=Q .ret s:=rfl
end
theorem ybY {κ:Type} {G:Cfg} {Q:zO} {s:St} {c:AC} (inv:κ->St) (ok:κ->Prop) (μ:κ->Nat) (k0:κ) (h0:Pubs s (inv k0)) (hk0:ok k0) (hbody:∀ k,ok k->Run G c (inv k) (ycX inv ok μ k Q)):Run G (.loop c) s Q:=by
 intro hG code hc C a w hr
 obtain ⟨C1,hr⟩:=h0.rel hG.mok hr
 cases code<;>simp only [zF,Option.map_eq_some_iff] at hc
 case loop c1=>
  obtain ⟨x',h1,hc⟩:=hc
  injection hc with e1;subst e1
  obtain ⟨m,hm⟩:=least_of λa w n=>∃ k C,ok k/\μ k=n/\RelC G.X C (inv k).get (inv k).look (inv k).tr (inv k).stop a w
  refine wpIn_loop (λa w=>∃ n k C,ok k/\μ k=n/\RelC G.X C (inv k).get (inv k).look (inv k).tr (inv k).stop a w) m ⟨_,k0,C1,hk0,rfl,hr⟩ ?_
  intro a w hI
  obtain ⟨⟨k,C,hok,hμ,hr⟩,hmin⟩:=hm a w hI
  refine wpIn_mono (hbody k hok hG c1 h1 C a w hr) ?_
  rintro e a' w' ⟨s',C',hr',hq⟩
  cases e with
  | normal=>
   obtain ⟨k',hok',hlt,hcov⟩:=hq
   obtain ⟨C2,hr2⟩:=hcov.rel hG.mok hr'
   have hex:∃ n,(λa w n=>∃ k C,ok k/\μ k=n/\RelC G.X C (inv k).get (inv k).look (inv k).tr (inv k).stop a w) a' w' n:=⟨_,k',C2,hok',rfl,hr2⟩
   refine ⟨hex,?_⟩
   have:=(hm a' w' hex).2 (μ k') ⟨k',C2,hok',rfl,hr2⟩
   omega
  | exit id=>exact ⟨s',C',hr',hq⟩
  | ret=>exact ⟨s',C',hr',hq⟩
  | goto l=>exact hq.elim
  | panic c=>exact hq.elim
  | outgrown=>exact hq.elim
 all_goals first|(cases hc;done)|(obtain ⟨_,_,hc⟩:=hc;cases hc;done)|(split at hc<;>cases hc;done)
theorem ycB {G:Cfg} {c:AC} {s s':St} {Q:zO} (hp:Pubs s s') (h:Run G c s' Q):Run G c s Q:=by
 intro hG code hc C a w hr
 obtain ⟨C',h'⟩:=hp.rel hG.mok hr
 exact h hG code hc C' a w h'
def cutP (s':St):zO
 | .normal,s=>Pubs s s'
 | _,_=>False
theorem ycD {G:Cfg} {x y:AC} {s:St} {Q:zO} (s':St) (h1:Run G x s (cutP s')) (h2:Run G y s' Q):Run G x s (seqK G y Q):=
 run_weaken (λe s1 h=>by
  cases e with
  | normal=>exact ycB h h2
  | exit i=>exact h.elim
  | ret=>exact h.elim) h1
theorem yf {P:Program} {ts:List (List PV)} {dr:Bool} {K:St->List Ft->Prop} {acc:List Ft} {d:Option Nat} {op:AOp} {args:List AOpd} {gd:Option (Nat × Bool)} {af:List Nat} {r:List RO} {s:St} (q:PV)
  (hc:gOf s gd=some false) (hn:zj P ts dr K r (s.set d (fin gd false (.p q))) (zT dr acc s ⟨d,op,args,gd,af⟩ [])):zj P ts dr K (⟨d,op,args,gd,af⟩::r) s acc:=
 .inl ⟨_,_,.callN hc,hn⟩
theorem yaU {s:St} (t:Nat) (v':PV) {pre:Prop} {v:PV} {ks:List Nat} (ht:toPV s.look 4 (s.get t)=some (pre,v,ks)) (hp:pre) (hw:Weak v v'):GhostOk s λs1=>s1=(s.wrs (frzs s.look ks)).set (some t) (.p v'):=λX C a w hM hr=>by
 obtain ⟨C',h'⟩:=hr.pub hM t ht hp hw
 exact ⟨_,C',rfl,by rw [(z7 _ _ _).1,(z7 _ _ _).2,(zbh _ _).1,(zbh _ _).2];exact h'⟩
instance:Mx Tryz.prog:=⟨mixed⟩
section
variable {P:Program} {ts:List (List PV)} {dr:Bool} {K:St->List Ft->Prop} {acc:List Ft} {d:Option Nat} {f:Nat} {args:List AOpd} {gd:Option (Nat × Bool)} {af:List Nat} {r:List RO} {s:St} {vs:List PV} {res:PV}
end
theorem ybM:zg []=0:=rfl
theorem yai (x:ByteArray):Pure Tryz.prog 174 [.s x] (.b (isName x)):=by
 refine zf (cF Tryz.func174 Tryz.f174.eq_1) (by simp) λhw X hX=>?_
 simp only [wfs,PV.wf,maxLen] at hw
 repeat' first|refine gC ?_ ?_<;>intro hc<;>try contradiction|refine gG ?_|show AK _;intro K H|refine H _ _ ?_;clear H K|refine gJ ?_;try exact trivial|omega
 .rw [isName_long hc];exact .refl _
 refine zk (κ:=Nat) (λi=>⟨[(0,.p (.s x)),(3,.p (.i .i64 i))],[],[],false⟩) (λi=>i<=x.size/\∀ j < i,nameCh j (chAt x j)=true) (λi=>x.size - i) 0 ?_ ?_ ?_
 .exact sR
 .simp
 .intro i hi
  repeat' first|refine gC ?_ ?_<;>intro hc<;>try contradiction|refine gG ?_|show AK _;intro K H|refine H _ _ ?_;clear H K|refine gJ ?_;try exact trivial|omega
  .rw [isName_no (i:=i) (by omega)];exact .refl _
   simp only [nameCh,letCh,chAt];simp;omega
  .refine ⟨i+1,⟨by omega,λj hj=>?_⟩,by omega,by simp⟩
   by_cases e:j=i
   .subst e;simp only [nameCh,letCh,chAt];simp;omega
   .exact hi.2 j (by omega)
  .rw [isName_yes ‹_› hi (by omega)];exact .refl _
theorem yaq (n a b:Int):Pure Tryz.prog 127 [.i .i64 n,.i .i64 a,.i .i64 b] (.i .i64 (rng n a b)):=by
 refine zf (cF Tryz.func127 Tryz.f127.eq_1) (by simp) λhw X hX=>?_
 repeat' first|refine gC ?_ ?_<;>intro hc<;>try contradiction|refine gG ?_|show AK _;intro K H|refine H _ _ ?_;clear H K|refine gJ ?_;try exact trivial|omega
 .rw [rng,if_pos hc];exact .refl _
 .rw [rng_0.2 hc];exact .refl _
theorem ya6 (n:Int):Pure Tryz.prog 99 [.i .i64 n] (.i .i64 (rng n 0 99999)):=by
 refine zf (cF Tryz.func99 Tryz.f99.eq_1) (by simp) λhw X hX=>?_
 repeat' first|refine gC ?_ ?_<;>intro hc<;>try contradiction|refine za (yaq _ _ _) ?_|refine gG ?_|show AK _;intro K H|refine H _ _ ?_;clear H K|refine gJ ?_;try exact trivial|omega
 exact .refl _
theorem y6 (p:Per):Pure Tryz.prog 155 [p.pv] (.i .i64 (zau p)):=by
 refine zf (cF Tryz.func155 Tryz.f155.eq_1) (by simp) λhw X hX=>?_
 repeat' first|refine gC ?_ ?_<;>intro hc<;>try contradiction|refine zN (λ_=>ya6 _) ?_|refine za (ya6 _) ?_|refine za (yaq _ _ _) ?_|refine gG ?_|show AK _;intro K H|refine H _ _ ?_;clear H K|refine gJ ?_;try exact trivial|omega
 .rw [show zau p=3 by simp only [zau,zg,rng];(repeat' split)<;>omega];exact .refl _
 .rw [show zau p=11 by simp only [zau,zg,rng];(repeat' split)<;>omega];exact .refl _
 .rw [show zau p=4 by simp only [zau,zg,rng];(repeat' split)<;>omega];exact .refl _
 .rw [show zau p=rng p.days 1 127 by simp only [zau,zg,rng];(repeat' split)<;>omega];exact .refl _
theorem ydA (d:Int) (h0:0<=d) (h1:d<=99999):Pure Tryz.prog 202 [.i .i64 d] (.i .i64 ((d+5) % 7)):=by
 refine zf (cF Tryz.func202 Tryz.f202.eq_1) (by simp) λhw X hX=>?_
 repeat' first|refine gC ?_ ?_<;>intro hc<;>try contradiction|refine gG ?_|show AK _;intro K H|refine H _ _ ?_;clear H K|refine gJ ?_;try exact trivial|omega
 rw [Int.tmod_eq_emod_of_nonneg (by omega)]
 exact .refl _
theorem yb4 (m w:Int) (h0:0<=m) (h1:m < 128) (h2:0<=w) (h3:w < 7):Pure Tryz.prog 201 [.i .i64 m,.i .i64 w] (.b (inM m w)):=by
 refine zf (cF Tryz.func201 Tryz.f201.eq_1) (by simp) λhw X hX=>?_
 repeat' first|refine gC ?_ ?_<;>intro hc<;>try contradiction|refine gG ?_|show AK _;intro K H|refine H _ _ ?_;clear H K|refine gJ ?_;try exact trivial|omega
 refine zk (κ:=Nat) (λi=>⟨[(0,.p (.i .i64 (m / 2 ^ i))),(1,.p (.i .i64 w)),(5,.p (.i .i64 i))],[],[],false⟩) (λi=>i<=w.toNat) (λi=>w.toNat - i) 0 ?_ ?_ ?_
 .exact sS
 .simp
 .intro i hi
  have hq:0<=m / 2 ^ i:=Int.ediv_nonneg h0 (Int.le_of_lt (Int.pow_pos (by decide)))
  have hq2:m / 2 ^ i<=m:=Int.ediv_le_self _ h0
  have hq3:∀ b,(m / 2 ^ i).tdiv b=(m / 2 ^ i) / b:=λb=>Int.tdiv_eq_ediv_of_nonneg hq
  have hq4:∀ b,(m / 2 ^ i).tmod b=(m / 2 ^ i) % b:=λb=>Int.tmod_eq_emod_of_nonneg hq
  have qe:=aI @hq3 @hq4;repeat' first|refine gC ?_ ?_<;>intro hc<;>try contradiction|refine gG ?_|show AK _;intro K H|refine H _ _ ?_;clear H K|refine gJ ?_;try exact trivial|omega
  .refine ⟨i+1,by omega,by omega,?_,by simp⟩
   rw [Int.pow_succ,Int.ediv_ediv_of_nonneg (Int.le_of_lt (Int.pow_pos (by decide)))]
  .have e:i=w.toNat:=by omega
   subst e;exact .refl _
theorem ydB (p:Per) (d:Int) (h0:0<=d) (h1:d<=99999) (h2:0<=p.days) (h3:p.days < 128):Pure Tryz.prog 122 [p.pv,.i .i64 d] (.b (hasD p d)):=by
 refine zf (cF Tryz.func122 Tryz.f122.eq_1) (by simp) λhw X hX=>?_
 have qe:=@qR;repeat' first|refine gC ?_ ?_<;>intro hc<;>try contradiction|refine zN (λ_=>ydA _ h0 h1) ?_|(show zj _ _ _ _ (⟨_,.call 201,_,_,_⟩::_) _ _;refine zbj (hf:=λhc=>(by first|exact yb4 p.days ((d+5) % 7) h2 h3 (by omega) (by omega)|(simp only [qH,rng_0] at hc;exact yb4 p.days ((d+5) % 7) h2 h3 (by omega) (by omega)))) (hn:=?_))|refine gG ?_|show AK _;intro K H|refine H _ _ ?_;clear H K|refine gJ ?_;try exact trivial|omega
 all_goals exact .refl _
theorem yce {p:Per} (k:Nat) (h:k < (p.to - p.fro+1).toNat):hasD p (p.fro+k)=inM p.days ((p.fro+k+5) % 7):=by
 simp only [hasD,show p.fro<=p.fro+(k:Int) by omega,show p.fro+(k:Int)<=p.to by omega,decide_true,Bool.true_and]
def yad (p:Per) (k:Nat):List Int:=(List.range k).flatMap λ(k:Nat)=>if inM p.days ((p.fro+k+5) % 7) then [p.fro+k] else []
theorem yck (p:Per) (n:Nat):(yad p n).length<=n:=by
 unfold yad
 induction n with
 | zero=>simp
 | succ n ih=>rw [zab,List.length_append];split<;>simp only [List.length_cons,List.length_nil]<;>omega
theorem yaN (p:Per) (h:zau p=0):Pure Tryz.prog 47 [p.pv] (.sl 1 ((zY p).map (.i .i64))):=by
 have hp:=zaX h
 refine zf (cF Tryz.func47 Tryz.f47.eq_1) (by simp) λhw X hX=>?_
 repeat' first|refine gC ?_ ?_<;>intro hc<;>try contradiction|refine gG ?_|show AK _;intro K H|refine H _ _ ?_;clear H K|refine gJ ?_;try exact trivial|omega
 refine zaO 100 3 1 [(1,.lp 1 0),(3,.row 100 0),(4,.p (.i .i64 p.fro))] [(1,.box [.p (.i .i64 p.fro),.p (.i .i64 p.to),.p (.i .i64 p.days)] false)] ?_ ?_
 .simp only [Own,zaL,zaB,zbt,zay,qS,seval]
 refine zk (κ:=Nat) (λk=>⟨[(1,.lp 1 0),(3,.row 100 (yad p k).length),(4,.p (.i .i64 (p.fro+k)))],[(1,.box [.p (.i .i64 p.fro),.p (.i .i64 p.to),.p (.i .i64 p.days)] false),(100,.row 3 1 ((yad p k).map (.i .i64)) false)],[],false⟩) (λk=>k<=(p.to - p.fro+1).toNat) (λk=>(p.to - p.fro+1).toNat - k) 0 ?_ ?_ ?_
 .refine gJ ?_;simp [yad]
 .simp
 .intro k hk
  have hl:=yck p k
  have qe:=@qR;repeat' first|refine gC ?_ ?_<;>intro hc<;>try contradiction|refine za (ydB p (p.fro+k) (by omega) (by omega) (by omega) (by omega)) ?_|refine gG ?_|show AK _;intro K H|refine H _ _ ?_;clear H K|refine gJ ?_;try exact trivial|omega
  .have e:yad p (k+1)=yad p k++[p.fro+(k:Int)]:=by
    rw [yce k (by omega)] at hc;simp only [yad,zab,hc,if_true]
   refine ⟨k+1,by omega,by omega,⟨by rw [e];simp,by simp;omega⟩,by rw [e];simp⟩
  .have e:yad p (k+1)=yad p k:=by
    rw [yce k (by omega)] at hc;simp only [yad,zab,hc];simp
   refine ⟨k+1,by omega,by omega,⟨by rw [e],by simp;omega⟩,by rw [e]⟩
  .have e:k=(p.to - p.fro+1).toNat:=by omega
   subst e;exact .refl _
theorem pure94 (l:Lim):Pure Tryz.prog 225 [l.pv] (.fn (.func 272) [] [.ip l.pv 0]):=by
 refine zf (cF Tryz.func225 Tryz.f225.eq_1) (by simp) λhw X hX=>?_
 repeat' first|refine gC ?_ ?_<;>intro hc<;>try contradiction|refine gG ?_|show AK _;intro K H|refine H _ _ ?_;clear H K|refine gJ ?_;try exact trivial|omega
 exact .refl _
def ycv (l:Lim) (k:Nat):List Int:=(List.range k).flatMap λ(n:Nat)=>zM l (l.per.fro+n)
def ybi (l:Lim):Nat:=(l.per.to - l.per.fro+1).toNat
def ya (l:Lim):List Int:=ycv l (ybi l)
theorem ydN (l:Lim) (h:zaS l=0):Iter Tryz.prog 272 [.ip l.pv 0] ((ya l).map tup1):=by
 have hl:=chkLim_0 h
 have hp:=zaX hl.2.2.2.2.2.2.2.1
 refine iter_by (cF Tryz.func272 Tryz.f272.eq_1) (by simp) λhw X hX=>?_
 simp only [zbp]
 repeat' first|refine gC ?_ ?_<;>intro hc<;>try contradiction|refine gG ?_|show AK _;intro K H|refine H _ _ ?_;clear H K|refine gJ ?_;try exact trivial|omega
 refine zk (κ:=Nat) (λk=>⟨[(0,.yield),(1,.p (.ip l.pv 0)),(2,.lp 2 0),(3,.p (.i .i64 (l.per.fro+k)))],[(2,.box [.yield] false)],(ycv l k).map tup1,false⟩) (λk=>k<=ybi l) (λk=>ybi l - k) 0 ?_ ?_ ?_
 .refine gJ ?_;simp [ycv]
 .simp
 .intro k hk
  unfold ybi at hk
  repeat' first|refine gC ?_ ?_<;>intro hc<;>try contradiction|refine za (pure91 l (l.per.fro+k)) ?_|refine gG ?_|show AK _;intro K H|refine H _ _ ?_;clear H K|refine gJ ?_;try exact trivial|omega
  .have hs:=zbm (λn:Nat=>zM l (l.per.fro+n)) (show k < ybi l by unfold ybi;omega)
   refine run_rfunc rfl (iter134 l (l.per.fro+k) h) ?_ ?_ [(0,.yield),(1,.p (.ip l.pv 0)),(2,.lp 2 0),(3,.p (.i .i64 (l.per.fro+k)))] (λ_=>[(2,.box [.yield] false)]) (λj=>(ycv l k).map tup1++((zM l (l.per.fro+k)).take j).map tup1) ?_ ?_ ?_
   .simp
   .simp [hX]
   .exact sS
   .intro j t ht X' ro' hX'
    simp only [List.getElem?_map,Option.map_eq_some_iff] at ht
    obtain ⟨b,hb,rfl⟩:=ht
    have hs':(ya l).map tup1=((ycv l k).map tup1++((zM l (l.per.fro+k)).take j).map tup1)++tup1 b::(((zM l (l.per.fro+k)).drop (j+1)).map tup1++((List.range' (k+1) (ybi l - (k+1))).flatMap λn:Nat=>zM l (l.per.fro+n)).map tup1):=by
     have e:=take_split hb
     rw [ya,ycv,hs,<-ycv]
     conv=>lhs;rw [e]
     simp
    simp only [qS,seval]
    repeat' first|refine gC ?_ ?_<;>intro hc<;>try contradiction|refine gG ?_|show AK _;intro K H|refine H _ _ ?_;clear H K|refine gJ ?_;try exact trivial|omega
    intro X1 hX1
    have qe:=(take_snoc tup1 hb);repeat' first|refine gC ?_ ?_<;>intro hc<;>try contradiction|(show zj _ _ _ _ (⟨_,.callv,_,_,_⟩::_) _ _;refine run_yld (by first|rfl|(simp (disch:=omega) only [qG,qe,seval]<;>rfl)) (by simp (disch:=omega) only [qS,qe,seval]) (by simp (disch:=omega) only [qS,qe,seval]<;>rfl) (by simp (disch:=omega) only [qS,qe,seval];try trivial) rfl _ (hs') ?_;intro b;(refine zE ?_))|refine gG ?_|show AK _;intro K H|refine H _ _ ?_;clear H K|refine gJ ?_;try exact trivial|omega
    .subst hc;exact .inl rfl
    .subst hc;exact ⟨by rw [List.append_assoc],rfl⟩
   .have qe:=@List.take_length.{0};repeat' first|refine gC ?_ ?_<;>intro hc<;>try contradiction|refine gG ?_|show AK _;intro K H|refine H _ _ ?_;clear H K|refine gJ ?_;try exact trivial|omega
    refine ⟨k+1,by unfold ybi;omega,by unfold ybi;omega,by simp;omega,?_⟩
    rw [ycv,zab,<-ycv,List.map_append]
  .repeat' first|refine gC ?_ ?_<;>intro hc<;>try contradiction|refine gG ?_|show AK _;intro K H|refine H _ _ ?_;clear H K|refine gJ ?_;try exact trivial|omega
   have e:k=ybi l:=by unfold ybi;omega
   subst e;exact .inr rfl
theorem yS {l:Lim} (h:zaS l=0) {b:Int} (hb:b ∈ ya l):0<=b/\b<=143999999:=by
 have hp:=zaX (chkLim_0 h).2.2.2.2.2.2.2.1
 obtain ⟨n,hn,hb⟩:=List.mem_flatMap.1 hb
 have:=beginsL_mem h hb
 omega
def yR (m:List Mov) (i:Nat) (l:Lim) (b:Int):List Win:=if l.most < zbs l m b then [⟨i,b,zbs l m b⟩] else []
def yc5 (m:List Mov) (i:Nat) (l:Lim):List Win:=(ya l).flatMap (yR m i l)
def ycj (ls:List Lim) (m:List Mov) (i:Nat):List Win:=match ls[i]? with|some l=>yc5 m i l|none=>[]
def yaa (ls:List Lim) (m:List Mov) (k:Nat):List Win:=(List.range k).flatMap (ycj ls m)
def yK (ls:List Lim) (m:List Mov):List Win:=yaa ls m ls.length
theorem ydC (ls:List Lim) (m:List Mov):Pure Tryz.prog 154 [.sl 11 (ls.map Lim.pv),.sl 7 (m.map Mov.pv)] (.fn (.func 224) [] [.ip (.sl 11 (ls.map Lim.pv)) 0,.ip (.sl 7 (m.map Mov.pv)) 0]):=by
 refine zf (cF Tryz.func154 Tryz.f154.eq_1) (by simp) λhw X hX=>?_
 repeat' first|refine gC ?_ ?_<;>intro hc<;>try contradiction|refine gG ?_|show AK _;intro K H|refine H _ _ ?_;clear H K|refine gJ ?_;try exact trivial|omega
 exact .refl _
theorem ydM (ls:List Lim) (m:List Mov) (hn:ls.length<=1000000) (h:∀ l ∈ ls,zaS l=0) (hm:zad m=0):Iter Tryz.prog 224 [.ip (.sl 11 (ls.map Lim.pv)) 0,.ip (.sl 7 (m.map Mov.pv)) 0] ((yK ls m).map tupW):=by
 refine iter_by (cF Tryz.func224 Tryz.f224.eq_1) (by simp) λhw X hX=>?_
 simp only [wfs,PV.wf,List.length_map,maxLen] at hw
 have hmm:=zaR hm
 simp only [zbp]
 repeat' first|refine gC ?_ ?_<;>intro hc<;>try contradiction|refine gG ?_|show AK _;intro K H|refine H _ _ ?_;clear H K|refine gJ ?_;try exact trivial|omega
 refine zk (κ:=Nat) (λk=>⟨[(1,.p (.ip (.sl 11 (ls.map Lim.pv)) 0)),(2,.p (.ip (.sl 7 (m.map Mov.pv)) 0)),(3,.lp 3 0),(9,.p (.sl 11 (ls.map Lim.pv))),(10,.p (.i .i64 ls.length)),(11,.p (.i .i64 k))],[(3,.box [.yield] false)],(yaa ls m k).map tupW,false⟩) (λk=>k<=ls.length) (λk=>ls.length - k) 0 ?_ ?_ ?_
 .refine gJ ?_;simp [yaa]
 .simp
 .intro k hk
  repeat first|refine gG ?_|show AK _;intro K H|refine H _ _ ?_;clear H K|refine gJ ?_;try exact trivial|omega
  (refine gC ?_ ?_<;>intro hc<;>try contradiction)
  .obtain ⟨l,hx⟩:=zn (i:=k) (l:=ls) (by omega)
   have h1:=h l (List.mem_of_getElem? hx)
   have hi:ycj ls m k=yc5 m k l:=by rw [ycj,hx]
   have hs:=zbm (ycj ls m) (show k < ls.length by omega)
   have qe:=aI qR @hx;repeat' first|refine gC ?_ ?_<;>intro hc<;>try contradiction|refine za (pure92 l m h1 (by omega)) ?_|refine za (pure94 l) ?_|refine gG ?_|show AK _;intro K H|refine H _ _ ?_;clear H K|refine gJ ?_;try exact trivial|omega
   refine run_rfunc rfl (ydN l h1) ?_ ?_ [(1,.p (.ip (.sl 11 (ls.map Lim.pv)) 0)),(2,.p (.ip (.sl 7 (m.map Mov.pv)) 0)),(3,.lp 3 0),(4,.lp 4 0),(5,.lp 5 0),(6,.lp 6 0),(9,.p (.sl 11 (ls.map Lim.pv))),(10,.p (.i .i64 ls.length)),(11,.p (.i .i64 k))] (λj=>[(3,.box [.yield] false),(4,.box [.p (.i .i64 k)] false),(5,.box (l.cells.map .p) false),(6,.box [.p (.sl 1 ((ofL l m).map (.i .i64)))] false)]) (λj=>(yaa ls m k).map tupW++(((ya l).take j).flatMap (yR m k l)).map tupW) ?_ ?_ ?_
   .simp
   .simp [hX]
   .exact sS
   .intro j t ht X' ro' hX'
    simp only [List.getElem?_map,Option.map_eq_some_iff] at ht
    obtain ⟨b,hb,rfl⟩:=ht
    have hbm:=yS h1 (List.mem_of_getElem? hb)
    have hnx:=flat_take (yR m k l) hb
    simp only [qS,seval]
    repeat' first|refine gC ?_ ?_<;>intro hc<;>try contradiction|refine gG ?_|show AK _;intro K H|refine H _ _ ?_;clear H K|refine gJ ?_;try exact trivial|omega
    intro X1 hX1
    by_cases hgt:l.most < zbs l m b
    .have hgt':=eq_true hgt
     rw [show yR m k l b=[⟨k,b,zbs l m b⟩] by rw [yR,if_pos hgt]] at hnx
     have hs':(yK ls m).map tupW=((yaa ls m k).map tupW++(((ya l).take j).flatMap (yR m k l)).map tupW)++tupW ⟨k,b,zbs l m b⟩::((((ya l).drop (j+1)).flatMap (yR m k l)).map tupW++((List.range' (k+1) (ls.length - (k+1))).flatMap (ycj ls m)).map tupW):=by
      rw [yK,yaa,hs,hi,yc5,flat_split (yR m k l) hb,show yR m k l b=[⟨k,b,zbs l m b⟩] by rw [yR,if_pos hgt],yaa]
      simp
     have qe:=aI qR @hgt';repeat' first|refine gC ?_ ?_<;>intro hc<;>try contradiction|refine za (zbF h1 hm b (by omega) (by omega)) ?_|(show zj _ _ _ _ (⟨_,.callv,_,_,_⟩::_) _ _;refine run_yld (by first|rfl|(simp (disch:=omega) only [qG,qe,seval]<;>rfl)) (by simp (disch:=omega) only [qS,qe,seval]) (by simp (disch:=omega) only [qS,qe,seval]<;>rfl) (by simp (disch:=omega) only [qS,qe,seval];try trivial) rfl _ (hs') ?_;intro b;(refine zE ?_))|refine gG ?_|show AK _;intro K H|refine H _ _ ?_;clear H K|refine gJ ?_;try exact trivial|omega
     .subst hc;exact .inl rfl
     .subst hc;rw [hnx];exact ⟨by simp,rfl⟩
    .have hgt':=eq_false hgt
     rw [show yR m k l b=[] by rw [yR,if_neg hgt]] at hnx
     have qe:=aI qR @hgt';repeat' first|refine gC ?_ ?_<;>intro hc<;>try contradiction|refine za (zbF h1 hm b (by omega) (by omega)) ?_|(show zj _ _ _ _ (⟨_,.callv,_,_,_⟩::_) _ _;refine zbi (q:=(.b false)) (by first|rfl|(simp (disch:=omega) only [qG,qe,seval]<;>rfl)) ?_;(try (refine zE ?_)))|refine gG ?_|show AK _;intro K H|refine H _ _ ?_;clear H K|refine gJ ?_;try exact trivial|omega
     rw [hnx];simp
   .have qe:=@List.take_length.{0};repeat' first|refine gC ?_ ?_<;>intro hc<;>try contradiction|refine gG ?_|show AK _;intro K H|refine H _ _ ?_;clear H K|refine gJ ?_;try exact trivial|omega
    refine ⟨k+1,by omega,by omega,by simp,?_⟩
    rw [yaa,zab,hi,yc5,<-yaa,List.map_append]
  .repeat' first|refine gC ?_ ?_<;>intro hc<;>try contradiction|refine gG ?_|show AK _;intro K H|refine H _ _ ?_;clear H K|refine gJ ?_;try exact trivial|omega
   have e:k=ls.length:=by omega
   subst e;exact .inr rfl
