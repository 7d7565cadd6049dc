/- Contracts of functions, for the claim. No conditions. -/
import Derived.ProofKit
import Derived.OpenShut
import Derived.Carry
import Derived.OpenVars
import Derived.HandedShaped
import Derived.KernelRfl
import Derived.Laws.RangeAny
import Derived.Test.YtijgimeokgbifaaGreatRows
import Derived.Test.YtijgimeokgbifaaGreatK32
set_option linter.all false
set_option maxHeartbeats 8000000
set_option maxRecDepth 100000
namespace Go.Proofs.YtijgimeokgbifaaGreat
open Go.ChangeShapes Go.WideShapes Go.ChangeAt Go.RowKit
def yDF:=aI @decide_true @decide_false
def yDT:=aI @decide_true (aI @decide_false @Bool.not_true)
def yx (P:Program) (t:TypeId):Bool:=match P.underlying t with|some (.struct _)|some (.array _ _)=>true|_=>false
def yz (P:Program) (F:TypeId->Option (List CP)):List (TypeId × Nat)->Nat->Option (List CP)
 | [],_=>some []
 | p::r,off=>if p.2=off then (F p.1).bind λc=>if P.cellsOf p.1=c.length then (yz P F r (off+c.length)).map (c++·) else none else none
def yam (P:Program):Nat->Nat->TypeId->Option (List CP)
 | 0,_,_=>none
 | n+1,sl,t=>match P.underlying t with
  | some .bool=>some [.b]
  | some (.int k)=>some [.i k]
  | some .string=>some [.s]
  | some (.slice e)=>match sl with
   | 0=>none
   | sl+1=>(yam P n sl e).bind λc=>if P.cellsOf e=c.length/\(yx P e=true\/c.length=1)/\0 < c.length then some [.sl (yx P e) c] else none
  | some (.struct fs)=>(yz P (yam P n sl) (fs.toList.map λf=>(f.type,f.offset)) 0).bind λc=>if c.length=P.cellsOf t then some c else none
  | some (.array m e)=>(yz P (yam P n sl) ((List.range m).map λi=>(e,i*P.cellsOf e)) 0).bind λc=>if c.length=P.cellsOf t then some c else none
  | _=>none
def ya3 (ag:Bool) (l:List PV):PV:=if ag then .agg l else l.headD .any
def Fit:Nat->CP->PV->Prop
 | _,.b,p=>∃ x,p=.b x
 | _,.i k,p=>∃ n,p=.i k n
 | _,.s,p=>∃ x,p=.s x
 | 0,.sl _ _,_=>False
 | n+1,.sl ag cs,p=>∃ xs,p=.sl cs.length xs/\∀ x ∈ xs,∃ l,x=ya3 ag l/\FitAll (Fit n) cs l
theorem yH {α β:Type} {f:α->Option β}:∀ {l:List α} {r:List β},l.mapM f=some r->∀ x ∈ l,∃ y,f x=some y
 | [],_,_,x,hx=>by cases hx
 | a::l,r,h,x,hx=>by
  rw [List.mapM_cons] at h;cases ha:f a with
  | none=>rw [ha] at h;cases h
  | some y=>
   rw [ha] at h;simp only [Option.bind_eq_bind,Option.bind_some] at h;cases hl:l.mapM f with
   | none=>rw [hl] at h;cases h
   | some ys=>
    rcases List.mem_cons.1 hx with rfl|hx
    .exact ⟨y,ha⟩
    .exact yH hl x hx
theorem yo {α β:Type} {f:α->Option β}:∀ {l:List α} {r:List β},l.mapM f=some r->r.length=l.length
 | [],r,h=>by simp at h;subst h;rfl
 | a::l,r,h=>by
  rw [List.mapM_cons] at h;cases ha:f a with
  | none=>rw [ha] at h;cases h
  | some y=>
   rw [ha] at h;simp only [Option.bind_eq_bind,Option.bind_some] at h;cases hl:l.mapM f with
   | none=>rw [hl] at h;cases h
   | some ys=>
    rw [hl] at h;simp only [Option.bind_some,Option.pure_def,Option.some.injEq] at h;subst h;simp [yo hl]
theorem ybb {α β:Type} {f:α->Option β}:∀ {l:List α} {r:List β},l.mapM f=some r->∀ {i:Nat} {x:α},l[i]?=some x->f x=r[i]?
 | [],r,_,i,x,hx=>by simp at hx
 | a::l,r,h,i,x,hx=>by
  rw [List.mapM_cons] at h;cases ha:f a with
  | none=>rw [ha] at h;cases h
  | some y=>
   rw [ha] at h;simp only [Option.bind_eq_bind,Option.bind_some] at h;cases hl:l.mapM f with
   | none=>rw [hl] at h;cases h
   | some ys=>
    rw [hl] at h;simp only [Option.bind_some,Option.pure_def,Option.some.injEq] at h;subst h;cases i with
    | zero=>simp at hx;subst hx;simpa using ha
    | succ i=>simpa using ybb hl (i:=i) (by simpa using hx)
theorem yej {k:IntKind} {n:Int} (h:(Lit.int k n).wf=true):k.wrap n=n:=by
 cases k<;>simp [Lit.wf,IntKind.wrap,IntKind.min,IntKind.max,IntKind.signed,IntKind.bits] at *<;>omega
section
variable {H:Type} {enc:TypeId × Value->H} {P:Program} {w:World} {base:Nat} {sp:Nat->Bool} {held:Bool}
theorem ycS {a:Addr} {v:Value} (h:w.cell? a=some v):a.block < w.heap.size/\a.spot=none:=by
 unfold World.cell? at h
 split at h
 .rename_i hh
  split at h
  .cases h
  .rename_i hs
   exact ⟨(Array.getElem?_eq_some_iff.1 hh).1,by simpa using hs⟩
 .cases h
theorem yP {fuel n:Nat} {sl:Nat} {B:Nat->Prop} {cs:List Value}
  (ih:∀ {t:TypeId} {ds:List Value} {x:DataW H × List MemPlace} {c:List CP},(∀ v ∈ ds,v ∈ cs)->DataW.trod enc P w base sp held fuel t ds=some x->yam P n sl t=some c->∃ ps,Reps w B ds ps/\FitAll (Fit n) c ps) :
  ∀ (fl:List (TypeId × Nat)) (off:Nat) (c:List CP),(∀ p ∈ fl,∃ x,DataW.trod enc P w base sp held fuel p.1 ((cs.drop p.2).take (P.cellsOf p.1))=some x)->yz P (yam P n sl) fl off=some c->off+c.length<=cs.length ->
   ∃ ps,Reps w B ((cs.drop off).take c.length) ps/\FitAll (Fit n) c ps
 | [],off,c,_,h,_=>by
  simp only [yz,Option.some.injEq] at h;subst h;exact ⟨[],by simpa using Reps.nil,trivial⟩
 | p::r,off,c,hx,h,hl=>by
  simp only [yz] at h
  split at h
  .rename_i ho
   obtain ⟨c1,h1,h⟩:=Option.bind_eq_some_iff.1 h
   split at h
   .rename_i hc
    obtain ⟨c2,h2,rfl⟩:=Option.map_eq_some_iff.1 h;obtain ⟨x,hx1⟩:=hx p (by simp)
    rw [ho,hc] at hx1;obtain ⟨p1,r1,f1⟩:=ih (λv hv=>List.mem_of_mem_drop (List.mem_of_mem_take hv)) hx1 h1
    obtain ⟨p2,r2,f2⟩:=yP ih r (off+c1.length) c2 (λq hq=>hx q (by simp [hq])) h2 (by simp at hl;omega)
    refine ⟨p1++p2,?_,f1.app f2⟩;have e:(cs.drop off).take (c1++c2).length=(cs.drop off).take c1.length++(cs.drop (off+c1.length)).take c2.length:=by
     rw [List.length_append,List.take_add,List.drop_drop]
    rw [e];exact r1.append r2
   .cases h
  .cases h
theorem yY {B:Nat->Prop} (hB:∀ b,b < w.heap.size->B b):∀ (n fuel:Nat) (sl:Nat) {t:TypeId} {cs:List Value} {x:DataW H × List MemPlace} {c:List CP},
  DataW.trod enc P w base sp held fuel t cs=some x->yam P n sl t=some c->∃ ps,Reps w B cs ps/\FitAll (Fit n) c ps
 | 0,_,_,_,_,_,_,_,h=>by simp [yam] at h
 | _+1,0,_,_,_,_,_,h,_=>by simp [DataW.trod] at h
 | n+1,fuel+1,sl,t,cs,x,c,h,hc=>by
  have mono:∀ {c:List CP} {ps:List PV},FitAll (Fit n) c ps->FitAll (Fit (n+1)) c ps:=by
   have one:∀ (m:Nat) (c:CP) (p:PV),Fit m c p->Fit (m+1) c p:=by
    intro m
    induction m with
    | zero=>intro c p h;cases c<;>first|exact h|exact h.elim
    | succ m ihm=>
     intro c p h
     cases c with
     | b=>exact h
     | i k=>exact h
     | s=>exact h
     | sl ag cs=>
      obtain ⟨xs,h1,h2⟩:=h
      refine ⟨xs,h1,λx hx=>?_⟩
      obtain ⟨l,h3,h4⟩:=h2 x hx
      refine ⟨l,h3,?_⟩
      have:∀ (a:List CP) (b:List PV),FitAll (Fit m) a b->FitAll (Fit (m+1)) a b:=by
       intro a
       induction a with
       | nil=>intro b hb;cases b<;>exact hb
       | cons y r ihr=>
        intro b hb
        cases b with
        | nil=>exact hb
        | cons z q=>exact ⟨ihm _ _ hb.1,ihr _ hb.2⟩
      exact this _ _ h4
   intro c
   induction c with
   | nil=>intro ps h;cases ps<;>exact h
   | cons y r ihr=>
    intro ps h
    cases ps with
    | nil=>exact h
    | cons z q=>exact ⟨one _ _ _ h.1,ihr h.2⟩
  unfold DataW.trod at h
  unfold yam at hc
  cases hu:P.underlying t with
  | none=>rw [hu] at hc;cases hc
  | some d=>
   rw [hu] at h hc
   match d,h,hc with
   | .bool,h,hc=>
    simp only [Option.some.injEq] at hc;subst hc
    match cs,h with
    | [.bool b],h=>exact ⟨[.b b],Reps.cons (.b b) Reps.nil,⟨b,rfl⟩,trivial⟩
   | .int k,h,hc=>
    simp only [Option.some.injEq] at hc;subst hc
    match cs,h with
    | [.int k' m],h=>
     simp only at h
     split at h
     .rename_i hk
      obtain ⟨rfl,hw⟩:=hk
      exact ⟨[.i k' m],Reps.cons (.i (yej hw)) Reps.nil,⟨m,rfl⟩,trivial⟩
     .cases h
   | .string,h,hc=>
    simp only [Option.some.injEq] at hc;subst hc
    match cs,h with
    | [.string z],h=>
     simp only at h
     split at h
     .rename_i hk
      exact ⟨[.s z],Reps.cons (.s hk) Reps.nil,⟨z,rfl⟩,trivial⟩
     .cases h
   | .slice e,h,hc=>
    simp only at hc
    cases sl with
    | zero=>cases hc
    | succ sl=>
     obtain ⟨ce,h1,hc⟩:=Option.bind_eq_some_iff.1 hc
     split at hc
     .rename_i hce
      simp only [Option.some.injEq] at hc;subst hc
      match cs,h with
      | [.slice none 0 0],h=>exact ⟨[.sl ce.length []],Reps.cons .sl0 Reps.nil,⟨[],rfl,λx hx=>by cases hx⟩,trivial⟩
      | [.slice (some a) len cap],h=>
       simp only at h
       split at h
       .rename_i hb
        obtain ⟨els,h2,_⟩:=Option.bind_eq_some_iff.1 h
        by_cases hl0:len=0
        .subst hl0
         exact ⟨[.sl ce.length []],Reps.cons (.sle hb.2.2) Reps.nil,⟨[],rfl,λx hx=>by cases hx⟩,trivial⟩
        have hBa:B a.block/\a.spot=none:=by
         obtain ⟨y,hy⟩:=yH h2 0 (List.mem_range.2 (by omega))
         obtain ⟨us,h3,h4⟩:=Option.bind_eq_some_iff.1 hy
         unfold World.cells? at h3
         split at h3
         .have h5:=ybb h3 (i:=0) (x:=0) (List.getElem?_range (by rw [hce.1];exact hce.2.2))
          have h6:us.length=P.cellsOf e:=by simpa using yo h3
          have h7:0 < us.length:=by rw [h6,hce.1];exact hce.2.2
          rw [List.getElem?_eq_getElem h7] at h5
          have e0:∀ z:Addr,z.add 0=z:=λz=>by unfold Addr.add;simp
          rw [Nat.zero_mul,e0,e0] at h5
          obtain ⟨k1,k2⟩:=ycS h5
          exact ⟨hB _ k1,k2⟩
         .cases h3
        have key:∀ i,i < len->∃ (us:List Value) (ps:List PV),(∀ j v,us[j]?=some v->w.cell? (a.add (i*ce.length+j))=some v)/\Reps w B us ps/\FitAll (Fit n) ce ps:=λi hi=>by
         obtain ⟨y,hy⟩:=yH h2 i (List.mem_range.2 hi)
         obtain ⟨us,h3,h4⟩:=Option.bind_eq_some_iff.1 hy
         obtain ⟨ps,h5,h6⟩:=yY (B:=B) hB n fuel sl h4 h1
         refine ⟨us,ps,λj v hv=>?_,h5,h6⟩
         unfold World.cells? at h3
         split at h3
         .have hlen:j < P.cellsOf e:=by
           have e1:us.length=P.cellsOf e:=by
            have:=yo h3
            simpa using this
           rw [<-e1];exact (List.getElem?_eq_some_iff.1 hv).1
          have:=ybb h3 (List.getElem?_range hlen)
          rw [hv] at this
          rw [hce.1] at this
          rw [<-Addr.add_add];exact this
         .cases h3
        classical
        let U:Nat->List Value:=λi=>if hi:i < len then (key i hi).choose else []
        let PS:Nat->List PV:=λi=>if hi:i < len then (key i hi).choose_spec.choose else []
        have hU:∀ i,i < len->(∀ j v,(U i)[j]?=some v->w.cell? (a.add (i*ce.length+j))=some v)/\Reps w B (U i) (PS i)/\FitAll (Fit n) ce (PS i):=λi hi=>by
         have:=(key i hi).choose_spec.choose_spec
         simp only [U,PS,dif_pos hi];exact this
        have hcells:∀ i,i < len->(ya3 (yx P e) (PS i)).cells=PS i:=λi hi=>by
         unfold ya3
         split
         .rfl
         .rename_i hag
          have hl:=(hU i hi).2.2
          have h1l:ce.length=1:=hce.2.1.resolve_left hag
          obtain ⟨q,rfl⟩:∃ q,ce=[q]:=List.length_eq_one_iff.1 h1l
          match hPS:PS i,hl with
          | [z],hl=>
           have hz:=hl.1
           simp only [List.headD_cons]
           cases q with
           | b=>cases n<;>(obtain ⟨_,rfl⟩:=hz;rfl)
           | i k=>cases n<;>(obtain ⟨_,rfl⟩:=hz;rfl)
           | s=>cases n<;>(obtain ⟨_,rfl⟩:=hz;rfl)
           | sl ag cs=>
            cases n with
            | zero=>exact hz.elim
            | succ n=>obtain ⟨_,rfl,_⟩:=hz;rfl
        refine ⟨[.sl ce.length ((List.range len).map λi=>ya3 (yx P e) (PS i))],Reps.cons (.sl (λi j=>(U i)[j]?.getD undef) hBa.1 hBa.2 (by simp) hb.2.1 hb.2.2 ?_ ?_ ?_) Reps.nil,⟨_,rfl,λx hx=>?_⟩,trivial⟩
        .intro i x hx
         simp only [List.getElem?_map,Option.map_eq_some_iff] at hx
         obtain ⟨i',hi',rfl⟩:=hx
         obtain ⟨hi,rfl⟩:=List.getElem?_eq_some_iff.1 hi'
         simp only [List.length_range,List.getElem_range] at hi ⊢
         rw [hcells i hi,(hU i hi).2.2.len]
        .intro i x j p hx hp
         simp only [List.getElem?_map,Option.map_eq_some_iff] at hx
         obtain ⟨i',hi',rfl⟩:=hx
         obtain ⟨hi,rfl⟩:=List.getElem?_eq_some_iff.1 hi'
         simp only [List.length_range,List.getElem_range] at hi hp ⊢
         rw [hcells i hi] at hp
         obtain ⟨v,hv,_⟩:=(hU i hi).2.1.get hp
         rw [hv];exact (hU i hi).1 j v hv
        .intro i x j p hx hp
         simp only [List.getElem?_map,Option.map_eq_some_iff] at hx
         obtain ⟨i',hi',rfl⟩:=hx
         obtain ⟨hi,rfl⟩:=List.getElem?_eq_some_iff.1 hi'
         simp only [List.length_range,List.getElem_range] at hi hp ⊢
         rw [hcells i hi] at hp
         obtain ⟨v,hv,hr⟩:=(hU i hi).2.1.get hp
         rw [hv];exact hr
        .obtain ⟨i,hi,rfl⟩:=List.mem_map.1 hx
         exact ⟨_,rfl,(hU i (List.mem_range.1 hi)).2.2⟩
       .cases h
     .cases hc
   | .struct fs,h,hc=>
    simp only at h hc
    obtain ⟨c',h1,hc⟩:=Option.bind_eq_some_iff.1 hc
    split at hc
    .rename_i hl
     simp only [Option.some.injEq] at hc;subst hc
     split at h
     .rename_i hcs
      obtain ⟨xs,h2,_⟩:=Option.map_eq_some_iff.1 h
      obtain ⟨ps,h3,h4⟩:=yP (B:=B) (cs:=cs) (n:=n) (sl:=sl) (λhsub hx hc=>yY hB n fuel sl hx hc) (fs.toList.map λf=>(f.type,f.offset)) 0 c' (λp hp=>by
       obtain ⟨f,hf,rfl⟩:=List.mem_map.1 hp
       exact yH h2 f hf) h1 (by omega)
      rw [List.drop_zero,hl,<-hcs,List.take_length] at h3
      exact ⟨ps,h3,mono h4⟩
     .cases h
    .cases hc
   | .array m e,h,hc=>
    simp only at h hc
    obtain ⟨c',h1,hc⟩:=Option.bind_eq_some_iff.1 hc
    split at hc
    .rename_i hl
     simp only [Option.some.injEq] at hc;subst hc
     split at h
     .rename_i hcs
      obtain ⟨xs,h2,_⟩:=Option.map_eq_some_iff.1 h
      obtain ⟨ps,h3,h4⟩:=yP (B:=B) (cs:=cs) (n:=n) (sl:=sl) (λhsub hx hc=>yY hB n fuel sl hx hc) ((List.range m).map λi=>(e,i*P.cellsOf e)) 0 c' (λp hp=>by
       obtain ⟨i,hi,rfl⟩:=List.mem_map.1 hp
       exact yH h2 i hi) h1 (by omega)
      rw [List.drop_zero,hl,<-hcs,List.take_length] at h3
      exact ⟨ps,h3,mono h4⟩
     .cases h
    .cases hc
end
open Go.ChangeShapes Go.WideShapes Go.ChangeAt Go.RowKit
def yd6 (P:Program) (n:Nat) (t:TypeId):Option (Bool × List CP):=(yam P n 2 t).bind λc=>if yx P t=true\/c.length=1 then some (yx P t,c) else none
def yak (P:Program) (n:Nat) (t:TypeId) (p:PV):Prop:=
 (∃ ag c l,yd6 P n t=some (ag,c)/\p=ya3 ag l/\FitAll (Fit n) c l)/\(∀ e sz xs,P.underlying t=some (.slice e)->p=.sl sz xs->xs.length*P.bytesOf e<=reachBytes)
def ybg (P:Program) (n:Nat):List TypeId->List PV->Prop
 | [],[]=>True
 | t::ts,p::ps=>yak P n t p/\ybg P n ts ps
 | _,_=>False
section
variable {H:Type} {enc:TypeId × Value->H} {P:Program} {W:World}
theorem yeC {base n:Nat} {t:TypeId} {v:Value} {d:DataW H} {ps:List MemPlace} (hval:Value.okWide P W .any base t v) (h:DataW.Trod enc P W 0 (λ_=>true) true t v d ps) {q:Bool × List CP} (hq:yd6 P n t=some q)
  (hz:(d.weights P t).all (·<=reachBytes)=true):∃ p,Rep W (λb=>b < W.heap.size) v p/\yak P n t p:=by
 obtain ⟨fuel,h⟩:=h
 have hq0:=hq
 unfold yd6 at hq
 obtain ⟨c,hc,hq⟩:=Option.bind_eq_some_iff.1 hq
 split at hq
 .rename_i hl
  simp only [Option.some.injEq] at hq
  subst hq
  unfold yx at hl hq0
  have key:∀ {cs:List Value},DataW.trod enc P W 0 (λ_=>true) true fuel t cs=some (d,ps)->(∀ v ∈ cs,∃ u,Cell.okWide P W .any base u v)->∃ l,Reps W (λb=>b < W.heap.size) cs l/\FitAll (Fit n) c l:=λht hc1=>
   yY (λ_ h=>h) n fuel 2 ht hc
  have other:yx P t=false->(∃ u,Cell.okWide P W .any base u v)->v.cells.toList=[v]->∃ p,Rep W (λb=>b < W.heap.size) v p/\yak P n t p:=λhag hok hcv=>by
   rw [hcv] at h
   obtain ⟨l,h1,h2⟩:=key h (λv' hv=>by simp at hv;subst hv;exact hok)
   have hlen:=h1.1
   match l,hlen with
   | [p],_=>
    have hr:=h1.2 0 v p rfl rfl
    refine ⟨p,hr,⟨false,c,[p],?_,rfl,h2⟩,λe sz xs hu he=>?_⟩
    .rw [hq0]
     have:yx P t=false:=hag
     unfold yx at this
     rw [this]
    .subst he
     cases hr with
     | sl0=>simp
     | sle=>simp
     | sl u h3 h4 h5 h6 h7 h8 h9 h10=>
      rename_i a len cap hh
      cases fuel with
      | zero=>simp [DataW.trod] at h
      | succ fuel=>
       unfold DataW.trod at h
       rw [hu] at h
       simp only at h
       split at h
       .obtain ⟨els,e1,h⟩:=Option.bind_eq_some_iff.1 h
        obtain ⟨rest,e2,h⟩:=Option.map_eq_some_iff.1 h
        injection h with hd _
        subst hd
        have:=List.all_eq_true.1 hz ((els.length+rest.length)*P.bytesOf e) (by simp [DataW.weights,hu])
        simp only [decide_eq_true_eq] at this
        have hle:els.length=len:=by simpa using yo e1
        rw [h5,<-hle]
        exact Nat.le_trans (Nat.mul_le_mul_right _ (Nat.le_add_right _ _)) this
       .cases h
  unfold Value.okWide at hval
  cases hu:P.underlying t with
  | none=>unfold yam at hc;cases n<;>simp [hu] at hc
  | some desc=>
   have ag:(∃ fs,desc=.struct fs)\/(∃ k e,desc=.array k e)\/(yx P t=false/\Cell.okWide P W .any base t v):=by
    unfold yx
    rw [hu] at hval ⊢
    cases desc<;>first|exact .inl ⟨_,rfl⟩|exact .inr (.inl ⟨_,_,rfl⟩)|exact .inr (.inr ⟨rfl,hval⟩)
   have agg:yx P t=true->(∃ cs,v=.agg cs/\cs.size=P.cellsOf t/\Row.okWide P W .any base t cs)->∃ p,Rep W (λb=>b < W.heap.size) v p/\yak P n t p:=λhag hcs=>by
    obtain ⟨cs,rfl,_,hrow⟩:=hcs
    obtain ⟨l,h1,h2⟩:=key (cs:=cs.toList) h (λv' hv=>by
     obtain ⟨ts,_,_,hcell⟩:=hrow
     obtain ⟨i,hi⟩:=List.getElem?_of_mem hv
     obtain ⟨u,_,hk⟩:=hcell i v' (by simpa using hi)
     exact ⟨u,hk⟩)
    refine ⟨.agg l,.agg (by simpa using h1.1) (λj v' p hv hp=>h1.2 j v' p (by simpa using hv) hp),⟨true,c,l,?_,rfl,h2⟩,λe sz xs hu' he=>by cases he⟩
    rw [hq0]
    have:yx P t=true:=hag
    unfold yx at this
    rw [this]
   rcases ag with ⟨fs,rfl⟩|⟨k,e,rfl⟩|⟨hag,hok⟩
   .rw [hu] at hval
    exact agg (by unfold yx;rw [hu]) hval
   .rw [hu] at hval
    exact agg (by unfold yx;rw [hu]) hval
   .refine other hag ⟨t,hok⟩ ?_
    have:∀ cs,v≠.agg cs:=λcs e=>by
     subst e
     unfold Cell.okWide at hok
     have h2:Cell.ok P W .any base t (.agg cs):=by
      split at hok
      all_goals first|exact hok|(rename_i hv;cases hv)
     unfold Cell.ok at h2
     split at h2
     all_goals first|exact h2.elim|skip
     all_goals (rename_i hv;first|cases hv|skip)
    cases v<;>first|rfl|exact absurd rfl (this _)
 .cases hq
theorem ybs {base n:Nat}:∀ {ts:List TypeId} {vs:List Value} {ds:List (DataW H)} {ps:List MemPlace},DataW.TrodAll enc P W 0 (λ_=>true) true ts vs ds ps->(∀ (j:Nat) t v,ts[j]?=some t->vs[j]?=some v->Value.okWide P W .any base t v) ->
  (∀ t ∈ ts,∃ q,yd6 P n t=some q)->(DataW.weightsEach P ts ds).all (·<=reachBytes)=true->∃ l,Reps W (λb=>b < W.heap.size) vs l/\ybg P n ts l
 | [],vs,ds,ps,h,_,_,_=>by
  obtain ⟨rfl,rfl,rfl⟩:=trodAll_nil h;exact ⟨[],Reps.nil,trivial⟩
 | t::ts,vs,ds,ps,h,hval,hq,hz=>by
  obtain ⟨v,vs1,d,ds1,a,b,rfl,rfl,rfl,h1,h2⟩:=trodAll_cons h;obtain ⟨q,hq1⟩:=hq t (by simp)
  simp only [DataW.weightsEach,List.all_append,Bool.and_eq_true] at hz;obtain ⟨p,r1,f1⟩:=yeC (n:=n) (hval 0 t v rfl rfl) h1 hq1 hz.1;obtain ⟨l,r2,f2⟩:=ybs h2 (λj t v ht hv=>hval (j+1) t v (by simpa using ht) (by simpa using hv)) (λt ht=>hq t (by simp [ht])) hz.2
  exact ⟨p::l,Reps.cons r1 r2,f1,f2⟩
theorem yF (hl:laidOutB P=true) {W':World} {sp:Nat->Bool}:∀ {ts:List TypeId} {vs:List Value} {ds:List (DataW H)} {ps:List MemPlace},ts.all (λt=>P.readableRec t && decide (t < P.types.size))=true->DataW.TrodAll enc P W 0 (λ_=>true) true ts vs ds ps ->
  (∀ x ∈ ps,W.sameAt W' x)->(∀ x ∈ ps,sp x.block=true)->DataW.TrodAll enc P W' 0 sp true ts vs ds ps
 | [],vs,ds,ps,_,h,_,_=>by
  obtain ⟨rfl,rfl,rfl⟩:=trodAll_nil h;exact h
 | t::ts,vs,ds,ps,hr,h,hs,hp=>by
  obtain ⟨v,vs1,d,ds1,a,b,rfl,rfl,rfl,h1,h2⟩:=trodAll_cons h;simp only [List.all_cons,Bool.and_eq_true,decide_eq_true_eq] at hr;exact ⟨a,b,WideElems.Trod_stays hl hr.1.1 hr.1.2 h1 (λx hx=>hs x (by simp [hx])) (λx hx=>hp x (by simp [hx])),yF hl hr.2 h2 (λx hx=>hs x (by simp [hx])) (λx hx=>hp x (by simp [hx])),rfl⟩
theorem ybW {W':World} (hb:Below W.heap.size W W') (may:MemPlace->Prop):W.keptBut W' may:=by
 refine ⟨hb.os,hb.output,λi hi=>?_⟩
 rw [hb.block i hi];cases hh:W.heap[i]? with
 | none=>rfl
 | some o=>cases o<;>first|exact ⟨rfl,rfl,rfl,λ_ _=>rfl⟩|exact .inr ⟨rfl,rfl⟩|rfl
theorem ybR {f:Func} {s:ChangeSpec} {apart fresh handsOn again:Bool} {W':World} {args:Array Value} {ds gs:List (DataW H)} {before:List MemPlace} {tb:TypeId} (hl:laidOutB P=true)
  (hrd:f.params.toList.all (λt=>P.readableRec t && decide (t < P.types.size))=true) (hW:DataW.Whole enc P f.params.toList s.vars apart W args.toList ds gs before) (hv:s.vars=[])
  (hs:s.fn H ds={ results:=[.lit (.bool true)],args:=ds }) (hr:f.resultTypes=#[tb]) (htb:P.underlying tb=some .bool) (hb:Below W.heap.size W W'):s.post enc P f apart fresh handsOn again W args (.bool true) W':=by
 have hlt:∀ p ∈ before,p.block < W.heap.size:=hW.lt;have hW0:=hW;obtain ⟨p,q,hA,hV,rfl,hz,hn⟩:=hW;rw [hv] at hV;obtain ⟨rfl,rfl⟩:=trodVars_none hV;simp only [List.append_nil] at hz hn hlt hW0;have hres:∀ (b:Nat) (sp:Nat->Bool) (hd:Bool),DataW.TrodAll enc P W' b sp hd f.resultTypes.toList ((Value.bool true).resultList f.resultTypes.size) [.lit (.bool true)] []:=λb sp hd=>by
  rw [hr];exact trodAll_cons_mk (shut_bool htb _) trodAll_mk0
 have hargs:∀ sp:Nat->Bool,(∀ x ∈ p,sp x.block=true)->DataW.TrodAll enc P W' 0 sp true f.params.toList args.toList ds p:=λsp hsp=>yF hl hrd hA (λx hx=>hb.same (hlt x hx)) hsp
 have hvars:∀ sp:Nat->Bool,DataW.TrodVars enc P W' sp s.vars ([]:List (DataW H)) []:=λsp=>by rw [hv];rfl
 refine ⟨ds,[],p,[],p,[],hW0,by rw [List.append_nil,hs];exact hres _ _ _,by rw [List.append_nil,hs];exact hargs _ (λx hx=>by simpa using hlt x hx),by rw [List.append_nil,hs];exact hvars _,World.keptBut_mono (λx hx=>⟨hx,.inr (.inl hx)⟩) (ybW hb (· ∈ p)),λ_=>?_⟩
 refine ⟨λj t r h1 h2=>?_,[.lit (.bool true)]++ds,[],p,⟨[]++p,[],trodAll_append (hargs _ (λ_ _=>rfl)) (hres _ _ _),hvars _,by simp,?_,?_⟩,λx hx _=>hx⟩
 .rw [hr] at h1 h2
  cases j with
  | zero=>
   simp [Value.resultList] at h1 h2;subst h1;subst h2;exact okWide_bool_mk htb _
  | succ j=>simp at h1
 .intro b off hp
  have:=hz b off hp;unfold World.frozen? at this ⊢;have e:W'.heap[b]?=W.heap[b]?:=hb.block b (hlt _ hp);simp only at this ⊢;rw [e];exact this
 .intro ha;exact hn ha
end
theorem yaT {C:Checked} {f:FuncId} {fn:Func} {s:ChangeSpec} {n:Nat} {tb:TypeId} (hl:laidOutB C.prog=true) (hrd:fn.params.toList.all (λt=>C.prog.readableRec t && decide (t < C.prog.types.size))=true)
  (hv:s.vars=[]) (hs:∀ (H:Type) (ds:List (DataW H)),ds.length=fn.params.size->s.fn H ds={ results:=[.lit (.bool true)],args:=ds }) (hr:fn.resultTypes=#[tb]) (htb:C.prog.underlying tb=some .bool)
  (hq:fn.params.toList.all (λt=>(yd6 C.prog n t).isSome)=true) (hp:∀ ps,ybg C.prog n fn.params.toList ps->Pure C.prog f ps (.b true))
  {H:Type} {enc:TypeId × Value->H} {apart fresh handsOn again:Bool} (W:World) (base:Nat) (args:Array Value) (ds gs:List (DataW H)) (before:List MemPlace)
  (hval:∀ (j:Nat) t v,fn.params[j]?=some t->args[j]?=some v->Value.okWide C.prog W .any base t v) (hW:DataW.Whole enc C.prog fn.params.toList s.vars apart W args.toList ds gs before)
  (hz:(DataW.weightsEach C.prog (fn.params.toList++s.plain.varTypes C.prog) (ds++gs)).all (·<=reachBytes)=true) :
  Calls C.prog f args W λe W'=>∃ v,e=.returned v/\s.post enc C.prog fn apart fresh handsOn again W args v W':=by
 have hW0:=hW;obtain ⟨p,q,hA,hV,rfl,_,_⟩:=hW;have hV':=hV;rw [hv] at hV';obtain ⟨rfl,rfl⟩:=trodVars_none hV';have hlen:∀ {ts:List TypeId} {vs:List Value} {ds:List (DataW H)} {ps:List MemPlace},DataW.TrodAll enc C.prog W 0 (λ_=>true) true ts vs ds ps->ds.length=ts.length:=by
  intro ts
  induction ts with
  | nil=>intro vs ds ps h;obtain ⟨rfl,rfl,rfl⟩:=trodAll_nil h;rfl
  | cons t ts ih=>intro vs ds ps h;obtain ⟨v,vs1,d,ds1,a,b,rfl,rfl,rfl,h1,h2⟩:=trodAll_cons h;simp [ih h2]
 have hd:=hlen hA;have hz':(DataW.weightsEach C.prog fn.params.toList ds).all (·<=reachBytes)=true:=by
  rw [List.append_nil] at hz;have hsub:∀ (ts us:List TypeId) (ds:List (DataW H)),ds.length=ts.length->DataW.weightsEach C.prog (ts++us) ds=DataW.weightsEach C.prog ts ds:=by
   intro ts us
   induction ts with
   | nil=>intro ds h;match ds,h with|[],_=>cases us<;>simp [DataW.weightsEach]
   | cons t ts ih=>intro ds h;match ds,h with|d::ds,h=>simp only [List.cons_append,DataW.weightsEach];rw [ih ds (by simpa using h)]
  rw [hsub _ _ _ hd] at hz;exact hz
 obtain ⟨l,hrep,hfit⟩:=ybs (n:=n) hA (λj t v ht hv'=>hval j t v (by simpa using ht) (by simpa using hv')) (λt ht=>Option.isSome_iff_exists.1 (List.all_eq_true.1 hq t ht)) hz'
 have:=(hp l hfit).2 W (λb=>b < W.heap.size) args.toList (λb hb=>hb) hrep
 refine (show Calls C.prog f args W _ from by simpa using this).mono λe W' he=>?_
 obtain ⟨u,rfl,hb,hu⟩:=he;cases hu;exact ⟨_,rfl,ybR hl hrd hW0 hv (hs H ds (by simpa using hd)) hr htb hb⟩
open Go.RowKit
theorem Pubs.rel {X:Fx} {a:Act} {w:World} {s s':St} (hM:X.MOk) (h:Pubs s s'):∀ {C:Ctx},RelC X C s.get s.look s.tr s.stop a w->∃ C',RelC X C' s'.get s'.look s'.tr s'.stop a w:=by
 induction h with
 | cov h=>exact λhr=>⟨_,zbr h hr⟩
 | pub t v' ht hp hw _ ih=>
  intro C hr;obtain ⟨C',h'⟩:=hr.pub hM t ht hp hw;refine ih (C:=C') ?_;rw [(z7 _ _ _).1,(z7 _ _ _).2,(zbh _ _).1,(zbh _ _).2];exact h'
section
variable {κ:Type} (inv:κ->St) (ok:κ->Prop) (μ:κ->Nat) (k:κ) (Q:zN) (s:St)
end
theorem yc5 {G:Cfg} {c:AC} {s s':St} {Q:zN} (hp:Pubs s s') (h:Run G c s' Q):Run G c s Q:=by
 intro hG code hc C a w hr;obtain ⟨C',h'⟩:=hp.rel hG.mok hr;exact h hG code hc C' a w h'
def cutP (s':St):zN
 | .normal,s=>Pubs s s'
 | _,_=>False
theorem yay {G:Cfg} {x y:AC} {s:St} {Q:zN} (s':St) (h1:Run G x s (cutP s')) (h2:Run G y s' Q):Run G x s (seqK G y Q):=
 zfO (λe s1 h=>by
  cases e with
  | normal=>exact yc5 h h2
  | exit i=>exact h.elim
  | ret=>exact h.elim) h1
theorem ycK {s:St} (t:Nat) (v':PV) {pre:Prop} {v:PV} {ks:List Nat} (ht:toPV s.look 4 (s.get t)=some (pre,v,ks)) (hp:pre) (hw:Weak v v'):zd4 s λs1=>s1=(s.wrs (frzs s.look ks)).set (some t) (.p v'):=λX C a w hM hr=>by
 obtain ⟨C',h'⟩:=hr.pub hM t ht hp hw;exact ⟨_,C',rfl,by rw [(z7 _ _ _).1,(z7 _ _ _).2,(zbh _ _).1,(zbh _ _).2];exact h'⟩
instance:Mx Tryz.prog:=⟨mixed⟩
section
variable {P:Program} {ts:List (List PV)} {dr:Bool} {K:St->List Ft->Prop} {acc:List Ft} {d:Option Nat} {f:Nat} {args:List AOpd} {gd:Option (Nat × Bool)} {af:List Nat} {r:List RO} {s:St} {vs:List PV} {res:PV}
end
theorem yb1:zg []=0:=rfl
theorem yd5 (x:ByteArray):Pure Tryz.prog 96 [.s x] (.b (zcC x)):=by
 refine zf (cF Tryz.func96 Tryz.f96.eq_1) (by simp) λhw X hX=>?_
 simp only [wfs,PV.wf,maxLen] at hw
 repeat' first|refine gC ?_ ?_<;>intro hc<;>try contradiction|refine gG ?_|show AK _;intro K H|refine H _ _ ?_;clear H K|refine gJ ?_;try exact trivial|omega
 .rw [zjr hc];exact .refl _
 refine zj (κ:=Nat) (λi=>⟨[(0,.p (.s x)),(3,.p (.i .i64 i))],[],[],false⟩) (λi=>i<=x.size/\∀ j < i,zfZ j (zmF x j)=true) (λi=>x.size - i) 0 ?_ ?_ ?_
 .exact sR
 .simp
 .intro i hi
  repeat' first|refine gC ?_ ?_<;>intro hc<;>try contradiction|refine gG ?_|show AK _;intro K H|refine H _ _ ?_;clear H K|refine gJ ?_;try exact trivial|omega
  .rw [zok (i:=i) (by omega)];exact .refl _
   simp only [zfZ,zuG,zmF];simp;omega
  .refine ⟨i+1,⟨by omega,λj hj=>?_⟩,by omega,by simp⟩
   by_cases e:j=i
   .subst e;simp only [zfZ,zuG,zmF];simp;omega
   .exact hi.2 j (by omega)
  .rw [zlV ‹_› hi (by omega)];exact .refl _
theorem ycr (n a b:Int):Pure Tryz.prog 71 [.i .i64 n,.i .i64 a,.i .i64 b] (.i .i64 (rng n a b)):=by
 refine zf (cF Tryz.func71 Tryz.f71.eq_1) (by simp) λhw X hX=>?_
 repeat' first|refine gC ?_ ?_<;>intro hc<;>try contradiction|refine gG ?_|show AK _;intro K H|refine H _ _ ?_;clear H K|refine gJ ?_;try exact trivial|omega
 .rw [rng,if_pos hc];exact .refl _
 .rw [zdm.2 hc];exact .refl _
theorem ycs (n:Int):Pure Tryz.prog 70 [.i .i64 n] (.i .i64 (rng n 0 99999)):=by
 refine zf (cF Tryz.func70 Tryz.f70.eq_1) (by simp) λhw X hX=>?_
 repeat' first|refine gC ?_ ?_<;>intro hc<;>try contradiction|refine za (ycr _ _ _) ?_|refine gG ?_|show AK _;intro K H|refine H _ _ ?_;clear H K|refine gJ ?_;try exact trivial|omega
 exact .refl _
theorem yaR (p:Per):Pure Tryz.prog 24 [p.pv] (.i .i64 (zau p)):=by
 refine zf (cF Tryz.func24 Tryz.f24.eq_1) (by simp) λhw X hX=>?_
 repeat' first|refine gC ?_ ?_<;>intro hc<;>try contradiction|refine zM (λ_=>ycs _) ?_|refine za (ycs _) ?_|refine za (ycr _ _ _) ?_|refine gG ?_|show AK _;intro K H|refine H _ _ ?_;clear H K|refine gJ ?_;try exact trivial|omega
 .rw [show zau p=3 by simp only [zau,zg,rng];(repeat' split)<;>omega];exact .refl _
 .rw [show zau p=11 by simp only [zau,zg,rng];(repeat' split)<;>omega];exact .refl _
 .rw [show zau p=4 by simp only [zau,zg,rng];(repeat' split)<;>omega];exact .refl _
 .rw [show zau p=rng p.days 1 127 by simp only [zau,zg,rng];(repeat' split)<;>omega];exact .refl _
theorem yey (d:Int) (h0:0<=d) (h1:d<=99999):Pure Tryz.prog 183 [.i .i64 d] (.i .i64 ((d+5) % 7)):=by
 refine zf (cF Tryz.func183 Tryz.f183.eq_1) (by simp) λhw X hX=>?_
 repeat' first|refine gC ?_ ?_<;>intro hc<;>try contradiction|refine gG ?_|show AK _;intro K H|refine H _ _ ?_;clear H K|refine gJ ?_;try exact trivial|omega
 rw [Int.tmod_eq_emod_of_nonneg (by omega)]
 exact .refl _
theorem ycq (m w:Int) (h0:0<=m) (h1:m < 128) (h2:0<=w) (h3:w < 7):Pure Tryz.prog 182 [.i .i64 m,.i .i64 w] (.b (inM m w)):=by
 refine zf (cF Tryz.func182 Tryz.f182.eq_1) (by simp) λhw X hX=>?_
 repeat' first|refine gC ?_ ?_<;>intro hc<;>try contradiction|refine gG ?_|show AK _;intro K H|refine H _ _ ?_;clear H K|refine gJ ?_;try exact trivial|omega
 refine zj (κ:=Nat) (λi=>⟨[(0,.p (.i .i64 (m / 2 ^ i))),(1,.p (.i .i64 w)),(5,.p (.i .i64 i))],[],[],false⟩) (λi=>i<=w.toNat) (λi=>w.toNat - i) 0 ?_ ?_ ?_
 .exact sS
 .simp
 .intro i hi
  have hq:0<=m / 2 ^ i:=Int.ediv_nonneg h0 (Int.le_of_lt (Int.pow_pos (by decide)))
  have hq2:m / 2 ^ i<=m:=Int.ediv_le_self _ h0;have hq3:∀ b,(m / 2 ^ i).tdiv b=(m / 2 ^ i) / b:=λb=>Int.tdiv_eq_ediv_of_nonneg hq
  have hq4:∀ b,(m / 2 ^ i).tmod b=(m / 2 ^ i) % b:=λb=>Int.tmod_eq_emod_of_nonneg hq
  have qe:=aI @hq3 @hq4;repeat' first|refine gC ?_ ?_<;>intro hc<;>try contradiction|refine gG ?_|show AK _;intro K H|refine H _ _ ?_;clear H K|refine gJ ?_;try exact trivial|omega
  .refine ⟨i+1,by omega,by omega,?_,by simp⟩
   rw [Int.pow_succ,Int.ediv_ediv_of_nonneg (Int.le_of_lt (Int.pow_pos (by decide)))]
  .have e:i=w.toNat:=by omega
   subst e;exact .refl _
theorem yez (p:Per) (d:Int) (h0:0<=d) (h1:d<=99999) (h2:0<=p.days) (h3:p.days < 128):Pure Tryz.prog 112 [p.pv,.i .i64 d] (.b (hasD p d)):=by
 refine zf (cF Tryz.func112 Tryz.f112.eq_1) (by simp) λhw X hX=>?_
 have qe:=@qR;repeat' first|refine gC ?_ ?_<;>intro hc<;>try contradiction|refine zM (λ_=>yey _ h0 h1) ?_|(show zi _ _ _ _ (⟨_,.call 182,_,_,_⟩::_) _ _;refine zbj (hf:=λhc=>(by first|exact ycq p.days ((d+5) % 7) h2 h3 (by omega) (by omega)|(simp only [qH,zdm] at hc;exact ycq p.days ((d+5) % 7) h2 h3 (by omega) (by omega)))) (hn:=?_))|refine gG ?_|show AK _;intro K H|refine H _ _ ?_;clear H K|refine gJ ?_;try exact trivial|omega
 all_goals exact .refl _
theorem ycJ {p:Per} (k:Nat) (h:k < (p.to - p.fro+1).toNat):hasD p (p.fro+k)=inM p.days ((p.fro+k+5) % 7):=by
 simp only [hasD,show p.fro<=p.fro+(k:Int) by omega,show p.fro+(k:Int)<=p.to by omega,decide_true,Bool.true_and]
def yaf (p:Per) (k:Nat):List Int:=(List.range k).flatMap λ(k:Nat)=>if inM p.days ((p.fro+k+5) % 7) then [p.fro+k] else []
theorem ycM (p:Per) (n:Nat):(yaf p n).length<=n:=by
 unfold yaf
 induction n with
 | zero=>simp
 | succ n ih=>rw [zab,List.length_append];split<;>simp only [List.length_cons,List.length_nil]<;>omega
theorem pure67 (p:Per) (h:zau p=0):Pure Tryz.prog 65 [p.pv] (.sl 1 ((zW p).map (.i .i64))):=by
 have hp:=zaY h;refine zf (cF Tryz.func65 Tryz.f65.eq_1) (by simp) λhw X hX=>?_
 repeat' first|refine gC ?_ ?_<;>intro hc<;>try contradiction|refine gG ?_|show AK _;intro K H|refine H _ _ ?_;clear H K|refine gJ ?_;try exact trivial|omega
 refine zaP 100 3 1 [(1,.lp 1 0),(3,.row 100 0),(4,.p (.i .i64 p.fro))] [(1,.box [.p (.i .i64 p.fro),.p (.i .i64 p.to),.p (.i .i64 p.days)] false)] ?_ ?_
 .simp only [Own,zaM,zaB,zbt,zay,qS,seval]
 refine zj (κ:=Nat) (λk=>⟨[(1,.lp 1 0),(3,.row 100 (yaf p k).length),(4,.p (.i .i64 (p.fro+k)))],[(1,.box [.p (.i .i64 p.fro),.p (.i .i64 p.to),.p (.i .i64 p.days)] false),(100,.row 3 1 ((yaf p k).map (.i .i64)) false)],[],false⟩) (λk=>k<=(p.to - p.fro+1).toNat) (λk=>(p.to - p.fro+1).toNat - k) 0 ?_ ?_ ?_
 .refine gJ ?_;simp [yaf]
 .simp
 .intro k hk
  have hl:=ycM p k;have qe:=@qR;repeat' first|refine gC ?_ ?_<;>intro hc<;>try contradiction|refine za (yez p (p.fro+k) (by omega) (by omega) (by omega) (by omega)) ?_|refine gG ?_|show AK _;intro K H|refine H _ _ ?_;clear H K|refine gJ ?_;try exact trivial|omega
  .have e:yaf p (k+1)=yaf p k++[p.fro+(k:Int)]:=by
    rw [ycJ k (by omega)] at hc;simp only [yaf,zab,hc,if_true]
   refine ⟨k+1,by omega,by omega,⟨by rw [e];simp,by simp;omega⟩,by rw [e];simp⟩
  .have e:yaf p (k+1)=yaf p k:=by
    rw [ycJ k (by omega)] at hc;simp only [yaf,zab,hc];simp
   refine ⟨k+1,by omega,by omega,⟨by rw [e],by simp;omega⟩,by rw [e]⟩
  .have e:k=(p.to - p.fro+1).toNat:=by omega
   subst e;exact .refl _
theorem pure81 (s:ByteArray):Pure Tryz.prog 97 [.s s] (.b (decide (s=s0) || zcC s)):=by
 refine zf (cF Tryz.func97 Tryz.f97.eq_1) (by simp) λhw X hX=>?_
 repeat' first|refine gC ?_ ?_<;>intro hc<;>try contradiction|refine zM (λ_=>yd5 _) ?_|refine gG ?_|show AK _;intro K H|refine H _ _ ?_;clear H K|refine gJ ?_;try exact trivial|omega
 exact .refl _
theorem pure33 (n a b:Int):Pure Tryz.prog 98 [.i .i64 n,.i .i64 a,.i .i64 b] (.b (decide (n < a) || decide (b < n))):=by
 refine zf (cF Tryz.func98 Tryz.f98.eq_1) (by simp) λhw X hX=>?_
 repeat' first|refine gC ?_ ?_<;>intro hc<;>try contradiction|refine gG ?_|show AK _;intro K H|refine H _ _ ?_;clear H K|refine gJ ?_;try exact trivial|omega
 exact .refl _
theorem yp {e:Int} {r:List Int} (h:e=0):zg (e::r)=zg r:=by rw [zg,if_pos h]
theorem yad {e:Int} {r:List Int} (h:e≠0):zg (e::r)=e:=by rw [zg,if_neg h]
theorem rng_3 {n a b:Int} (h:n < a\/b < n):rng n a b=3:=by rw [rng,if_pos h]
theorem yeH {s:ByteArray} (h:zcC s=true):zaH s=0:=by rw [zaH,if_neg (by simp [h])]
theorem yeG {s:ByteArray} (h:zcC s=false):zaH s=8:=by rw [zaH,if_pos h]
theorem optE_0 {s:ByteArray} (h:s=s0\/zcC s=true):zmC s=0:=by rw [zmC,if_neg];rintro ⟨h1,h2⟩;rcases h with h|h<;>simp_all
theorem optE_8 {s:ByteArray} (h:¬s=s0/\zcC s=false):zmC s=8:=by rw [zmC,if_pos h]
theorem ya2 {e k:Int} {r:List Int} (h:e=k) (hk:k≠0):zg (e::r)=k:=by rw [yad (by rw [h];exact hk),h]
theorem ycz {a b c:Int} (h:0<=a/\a<=999/\0<=b/\b<=9/\0<=c/\c<=99):zuC a b c=0:=by rw [zuC];simp only [zg,rng];(repeat' split)<;>omega
theorem weakI {a b:Int} (h:a=b):Weak (.i .i64 a) (.i .i64 b):=h ▸ .refl _
theorem yeL {k:ByteArray} (h:¬k=sA/\¬k=sD->k=sT):zjk k=0:=by rw [zjk,if_neg];rintro ⟨h1,h2,h3⟩;exact h3 (h ⟨h1,h2⟩)
theorem ydI {k:ByteArray} (h:(¬k=sA/\¬k=sD)/\¬k=sT):zjk k=13:=by rw [zjk,if_pos ⟨h.1.1,h.1.2,h.2⟩]
theorem ycL {k:ByteArray} (h:¬k=sA->k=sD):zcE k=0:=by rw [zcE,if_neg];rintro ⟨h1,h2⟩;exact h2 (h h1)
theorem yb0 {k:ByteArray} (h:¬k=sA/\¬k=sD):zcE k=13:=by rw [zcE,if_pos h]
theorem ycp (l:Lim):Pure Tryz.prog 43 [l.pv] (.i .i64 (zaS l)):=by
 refine zf (cF Tryz.func43 Tryz.f43.eq_1) (by simp) λhw X hX=>?_
 repeat' first|refine gC ?_ ?_<;>intro hc<;>try contradiction|refine za (yd5 _) ?_|refine za (pure81 _) ?_|refine zM (λ_=>pure33 _ _ _) ?_|refine za (yaR l.per) ?_|refine gG ?_|show AK _;intro K H|refine H _ _ ?_;clear H K|refine gJ ?_;try exact trivial|omega
 all_goals (refine weakI (Eq.symm ?_);rw [zaS];(repeat refine Eq.trans (yp (by first|exact yeH (by assumption)|exact yeL (by assumption)|exact ycL (by assumption)|exact optE_0 (by assumption)|exact zdm.2 (by omega)|exact ycz (by omega)|exact if_neg (by omega)|assumption)) ?_);first|rfl|exact ya2 (by first|exact yeG (by assumption)|exact ydI (by assumption)|exact yb0 (by assumption)|exact optE_8 (by assumption)|exact rng_3 (by omega)|exact if_pos (by omega)|rfl) (by first|decide|assumption)|(simp only [zg,rng,zuC];(repeat' split)<;>omega))
theorem pure72 (l:List Lim) (n:ByteArray):Pure Tryz.prog 44 [.sl 11 (l.map Lim.pv),.s n] (.i .i64 (atL n (l.map Lim.name))):=by
 refine zf (cF Tryz.func44 Tryz.f44.eq_1) (by simp) λhw X hX=>?_
 simp only [wfs,PV.wf,List.length_map,maxLen] at hw
 repeat' first|refine gC ?_ ?_<;>intro hc<;>try contradiction|refine gG ?_|show AK _;intro K H|refine H _ _ ?_;clear H K|refine gJ ?_;try exact trivial|omega
 refine zj (κ:=Nat) (λi=>⟨[(0,.p (.sl 11 (l.map Lim.pv))),(1,.p (.s n)),(5,.p (.i .i64 i))],[],[],false⟩) (λi=>i<=l.length/\∀ x ∈ (l.map Lim.name).take i,x≠n) (λi=>l.length - i) 0 ?_ ?_ ?_
 .exact sR
 .simp
 .intro i hi
  repeat first|refine gG ?_|show AK _;intro K H|refine H _ _ ?_;clear H K|refine gJ ?_;try exact trivial|omega
  (refine gC ?_ ?_<;>intro hc<;>try contradiction)
  .obtain ⟨x,hx⟩:=zm (i:=i) (l:=l) (by omega)
   have qe:=@hx;repeat' first|refine gC ?_ ?_<;>intro hc<;>try contradiction|refine gG ?_|show AK _;intro K H|refine H _ _ ?_;clear H K|refine gJ ?_;try exact trivial|omega
   .rw [zjU hi.2 (by simp [hx,hc])];exact .refl _
   .refine ⟨i+1,⟨by omega,λy hy=>?_⟩,by omega,by simp⟩
    rw [<-List.map_take,zdh _ hx] at hy
    rcases List.mem_append.1 hy with h|h
    .exact hi.2 y (by rw [<-List.map_take];exact h)
    .simp at h;subst h;exact hc
  .repeat' first|refine gC ?_ ?_<;>intro hc<;>try contradiction|refine gG ?_|show AK _;intro K H|refine H _ _ ?_;clear H K|refine gJ ?_;try exact trivial|omega
   have e:i=l.length:=by omega
   subst e;rw [zjV (λy hy=>hi.2 y (by rw [List.take_of_length_le (by simp)];exact hy))];exact .refl _
theorem pure23 (l:List Lim):Pure Tryz.prog 13 [.sl 11 (l.map Lim.pv)] (.i .i64 (z3 l)):=by
 refine zf (cF Tryz.func13 Tryz.f13.eq_1) (by simp) λhw X hX=>?_
 simp only [wfs,PV.wf,List.length_map,maxLen] at hw
 repeat' first|refine gC ?_ ?_<;>intro hc<;>try contradiction|refine gG ?_|show AK _;intro K H|refine H _ _ ?_;clear H K|refine gJ ?_;try exact trivial|omega
 .rw [z3,if_pos (by omega)];exact .refl _
 refine zj (κ:=Nat) (λi=>⟨[(0,.p (.sl 11 (l.map Lim.pv))),(3,.p (.i .i64 i))],[],[],false⟩) (λi=>i<=l.length/\∀ x ∈ (zg0 l).take i,x=0) (λi=>l.length - i) 0 ?_ ?_ ?_
 .exact sR
 .simp
 .intro i hi
  repeat first|refine gG ?_|show AK _;intro K H|refine H _ _ ?_;clear H K|refine gJ ?_;try exact trivial|omega
  (refine gC ?_ ?_<;>intro hc<;>try contradiction)
  .obtain ⟨x,hx⟩:=zm (i:=i) (l:=l) (by omega)
   have key:∀ e:Int,zoa l i x=e->e≠0->z3 l=e:=λe he h0=>by subst he;unfold z3;rw [if_neg (by omega)];exact zT hi.2 (zH hx) h0
   have qe:=aI qR (aI @hx @zel);repeat' first|refine gC ?_ ?_<;>intro hc<;>try contradiction|refine za (ycp x) ?_|refine za (pure72 (l.take i) x.name) ?_|refine gG ?_|show AK _;intro K H|refine H _ _ ?_;clear H K|refine gJ ?_;try exact trivial|omega
   .rw [key (zaS x) (by rw [zoa,yad hc]) hc];exact .refl _
   .rw [key 9 (by rw [zoa,yp (by assumption),ya2 (if_pos hc) (by decide)]) (by decide)];exact .refl _
   .exact ⟨i+1,⟨by omega,zaC hi.2 (zH hx) (by rw [zoa,yp (by assumption),yp (if_neg (by omega)),yb1])⟩,by omega,by simp⟩
  .repeat' first|refine gC ?_ ?_<;>intro hc<;>try contradiction|refine gG ?_|show AK _;intro K H|refine H _ _ ?_;clear H K|refine gJ ?_;try exact trivial|omega
   have e:i=(zg0 l).length:=by simp [zg0];omega
   subst e;rw [z3,if_neg (by omega),z4 hi.2];exact .refl _
def fewB (p:Per) (n:Int):Bool:=!decide (zau p=0) || decide (p.to - p.fro < n)
theorem yd4 (p:Per) (n:Int):Pure Tryz.prog 63 [p.pv,.i .i64 n] (.b (fewB p n)):=by
 refine zf (cF Tryz.func63 Tryz.f63.eq_1) (by simp) λhw X hX=>?_
 by_cases h:zau p=0
 .have hp:=zaY h
  have h':=eq_true h;have qe:=@h';repeat' first|refine gC ?_ ?_<;>intro hc<;>try contradiction|refine za (yaR p) ?_|refine gG ?_|show AK _;intro K H|refine H _ _ ?_;clear H K|refine gJ ?_;try exact trivial|omega
  simp only [fewB,h',decide_true,Bool.not_true,Bool.false_or];exact .refl _
 .have h':=eq_false h
  have qe:=@h';repeat' first|refine gC ?_ ?_<;>intro hc<;>try contradiction|refine za (yaR p) ?_|refine gG ?_|show AK _;intro K H|refine H _ _ ?_;clear H K|refine gJ ?_;try exact trivial|omega
  simp only [fewB,h',decide_false,Bool.not_false,Bool.true_or];exact .refl _
theorem pure76 (l:Lim) (h:zaS l=0):Pure Tryz.prog 64 [l.pv] (.i .i64 (zmv l)):=by
 have hl:=zcd h;have hq1:(l.fro+l.step - 1).tdiv l.step=l.from_:=Int.tdiv_eq_ediv_of_nonneg (by omega)
 have hq2:l.to.tdiv l.step=l.to / l.step:=Int.tdiv_eq_ediv_of_nonneg (by omega)
 have hb1:0<=l.from_:=Int.ediv_nonneg (by omega) (by omega)
 have hb2:l.from_<=l.fro+l.step - 1:=Int.ediv_le_self _ (by omega)
 have hb3:0<=l.to / l.step:=Int.ediv_nonneg (by omega) (by omega)
 have hb4:l.to / l.step<=l.to:=Int.ediv_le_self _ (by omega)
 have hN:l.to / l.step - l.from_+1=(zmv l:Int):=by
  unfold zmv;have:(l.fro - 1) / l.step<=l.to / l.step:=Int.ediv_le_ediv (by omega) (by omega)
  have e:l.from_=(l.fro - 1) / l.step+1:=by unfold Lim.from_;rw [show l.fro+l.step - 1=l.fro - 1+1*l.step by omega,Int.add_mul_ediv_right _ _ (by omega)]
  omega
 refine zf (cF Tryz.func64 Tryz.f64.eq_1) (by simp) λhw X hX=>?_
 have qe:=aI @hq1 @hq2;repeat' first|refine gC ?_ ?_<;>intro hc<;>try contradiction|refine gG ?_|show AK _;intro K H|refine H _ _ ?_;clear H K|refine gJ ?_;try exact trivial|omega
 rw [hN];exact .refl _
theorem ycX {α:Type} {l:List α} {p:α->Bool} {i:Nat} {x:α} (hx:l[i]?=some x) (hp:p x=false):l.all p=false:=by
 cases h:l.all p
 .rfl
 .rw [List.all_eq_true] at h;rw [h x (List.mem_of_getElem? hx)] at hp;exact hp
theorem yaI {α:Type} {l:List α} {p:α->Bool} {i:Nat} {x:α} (h:∀ y ∈ l.take i,p y=true) (hx:l[i]?=some x) (hp:p x=true):∀ y ∈ l.take (i+1),p y=true:=by
 intro y hy;rw [List.take_add_one,hx] at hy
 rcases List.mem_append.1 hy with hy|hy
 .exact h y hy
 .simp at hy;subst hy;exact hp
theorem ycY {α:Type} {l:List α} {p:α->Bool} (h:∀ y ∈ l.take l.length,p y=true):l.all p=true:=by
 rw [List.take_length] at h;rw [List.all_eq_true];exact h
def badLim (l:Lim):Bool:=((decide ((40:Int) < l.name.size) || decide ((40:Int) < l.kind.size)) || decide ((40:Int) < l.term.size)) || !fewB l.per 24
theorem ybH {x:Lim} (h:(((40:Int) < x.name.size\/(40:Int) < x.kind.size)\/(40:Int) < x.term.size)\/fewB x.per 24=false):badLim x=true:=by
 simp only [badLim,Bool.or_eq_true,decide_eq_true_eq,Bool.not_eq_true'];exact h
theorem ybI {x:Lim} (h:(((x.name.size:Int)<=40/\(x.kind.size:Int)<=40)/\(x.term.size:Int)<=40)/\fewB x.per 24=true):badLim x=false:=by
 simp only [badLim,Bool.or_eq_false_iff,decide_eq_false_iff_not,Bool.not_eq_false',Int.not_lt];exact h
def yeK (x:Lim):Int:=if zaS x=0 then (zmv x:Int)*(zW x.per).length else 0
def yb7 (l:List Lim) (k:Nat):Int:=(l.take k).foldl (λa x=>a+yeK x) 0
def longL (l:List Lim) (n:Int):Bool:=(decide (n < l.length) && decide ((l.length:Int)<=32)) || decide (34 < (l.length:Int))
def y7 (l:List Lim) (n:Int):Bool:=!longL l n && ((l.all λx=>!badLim x) && decide (yb7 l l.length<=400))
theorem yaL {l:List Lim} {k:Nat} {x:Lim} (h:l[k]?=some x):yb7 l (k+1)=yb7 l k+yeK x:=by
 rw [yb7,List.take_add_one,h,List.foldl_append];rfl
theorem ycU {l:Lim} (h:zaS l=0):zmv l<=1440:=by
 have hl:=zcd h;have h1:0<=l.from_:=Int.ediv_nonneg (by omega) (by omega)
 have h2:l.to / l.step<=l.to:=Int.ediv_le_self _ (by omega)
 unfold zmv;omega
theorem ycC (x:Lim):0<=yeK x/\yeK x<=577440:=by
 unfold yeK
 split
 .rename_i h
  have h1:=ycU h;have hp:=zaY (zcd h).2.2.2.2.2.2.2.1;have h2:=zcG x.per;have h3:(zW x.per).length<=401:=by omega
  have h4:zmv x*(zW x.per).length<=1440*401:=Nat.mul_le_mul h1 h3
  omega
 .omega
theorem yeo (l:List Lim) (k:Nat):0<=yb7 l k/\yb7 l k<=k*577440:=by
 induction k with
 | zero=>simp [yb7]
 | succ k ih=>
  by_cases hk:k < l.length
  .rw [yaL (List.getElem?_eq_getElem hk)]
   have:=ycC l[k]
   omega
  .have:yb7 l (k+1)=yb7 l k:=by rw [yb7,yb7,List.take_of_length_le (by omega),List.take_of_length_le (by omega)]
   omega
theorem pure15 (l:List Lim) (n:Int):Pure Tryz.prog 18 [.sl 11 (l.map Lim.pv),.i .i64 n] (.b (y7 l n)):=by
 refine zf (cF Tryz.func18 Tryz.f18.eq_1) (by simp) λhw X hX=>?_
 simp only [wfs,PV.wf,List.length_map,maxLen] at hw
 repeat' first|refine gC ?_ ?_<;>intro hc<;>try contradiction|refine gG ?_|show AK _;intro K H|refine H _ _ ?_;clear H K|refine gJ ?_;try exact trivial|omega
 .have:longL l n=true:=by simpa [longL] using hc
  rw [y7,this];exact .refl _
 have hsh:longL l n=false:=by simpa [longL] using hc
 have h34:l.length<=34:=by omega
 refine zj (κ:=Nat) (λi=>⟨[(0,.p (.sl 11 (l.map Lim.pv))),(5,.p (.i .i64 (yb7 l i))),(6,.p (.i .i64 i))],[],[],false⟩) (λi=>i<=l.length/\∀ x ∈ l.take i,(!badLim x)=true) (λi=>l.length - i) 0 ?_ ?_ ?_
 .simp only [qS,Nat.reduceAdd,Nat.reduceMul,Nat.reduceEqDiff,Nat.reduceLeDiff,reduceIte,reduceCtorEq,Nat.reduceBEq,Nat.reduceLT]<;>exact ⟨rfl,rfl⟩
 .simp
 .intro i hi
  have hsb:=yeo l i
  repeat first|refine gG ?_|show AK _;intro K H|refine H _ _ ?_;clear H K|refine gJ ?_;try exact trivial|omega
  (refine gC ?_ ?_<;>intro hc<;>try contradiction)
  .obtain ⟨x,hx⟩:=zm (i:=i) (l:=l) (by omega)
   have hsn:=yaL hx;have hlb:=ycC x
   by_cases h0:zaS x=0
   .have h0':=eq_true h0
    have hlx:=zcd h0;have hbn:=ycU h0;have hdn:=zcG x.per;have hpp:=zaY hlx.2.2.2.2.2.2.2.1;rw [yeK,if_pos h0] at hsn hlb;have qe:=aI qR (aI @hx @h0');repeat' first|refine gC ?_ ?_<;>intro hc<;>try contradiction|refine za (ycp x) ?_|refine za (pure76 x h0) ?_|refine za (pure67 x.per hlx.2.2.2.2.2.2.2.1) ?_|refine zM (λ_=>yd4 x.per 24) ?_|refine gG ?_|show AK _;intro K H|refine H _ _ ?_;clear H K|refine gJ ?_;try exact trivial|omega
    .rw [y7,hsh,ycX hx (by rw [ybH hc];rfl)];exact .refl _
    .exact ⟨i+1,⟨by omega,λy hy=>by simpa using yaI (p:=λx=>!badLim x) (λy hy=>by simpa using hi.2 y hy) hx (by rw [ybI (by assumption)];rfl) y hy⟩,by omega,by rw [hsn],by simp⟩
   .have h0':=eq_false h0
    rw [yeK,if_neg h0] at hsn hlb;have qe:=aI qR (aI @hx @h0');repeat' first|refine gC ?_ ?_<;>intro hc<;>try contradiction|refine za (ycp x) ?_|refine zM (λ_=>yd4 x.per 24) ?_|refine gG ?_|show AK _;intro K H|refine H _ _ ?_;clear H K|refine gJ ?_;try exact trivial|omega
    .rw [y7,hsh,ycX hx (by rw [ybH hc];rfl)];exact .refl _
    .exact ⟨i+1,⟨by omega,λy hy=>by simpa using yaI (p:=λx=>!badLim x) (λy hy=>by simpa using hi.2 y hy) hx (by rw [ybI (by assumption)];rfl) y hy⟩,by omega,by rw [hsn,Int.add_zero],by simp⟩
  .repeat' first|refine gC ?_ ?_<;>intro hc<;>try contradiction|refine gG ?_|show AK _;intro K H|refine H _ _ ?_;clear H K|refine gJ ?_;try exact trivial|omega
   have e:i=l.length:=by omega
   subst e;rw [y7,hsh,ycY hi.2];exact .refl _
abbrev yC (l:List Mov):Prop:=l.Pairwise λx y=>x.moment<=y.moment
theorem ybc {bef:Mov->Mov->Bool} (h1:∀ a b,bef a b=true->a.moment<=b.moment) (h2:∀ a b,bef a b=false->b.moment<=a.moment) {out:List Mov} (h:yC out) (x:Mov):yC (zl1 bef out x):=by
 unfold zl1;generalize hk:zb8 bef x out out.length=k;have hkl:=zkM bef x out out.length;rw [hk] at hkl;have hge:=zkN bef x out out.length;have hla:=zga bef x out out.length;rw [hk] at hge hla;have hs:yC (out.take k++out.drop k):=by rw [List.take_append_drop];exact h
 have hs:=List.pairwise_append.1 hs;have hdrop:∀ y ∈ out.drop k,x.moment<=y.moment:=λy hy=>by
  obtain ⟨i,hi⟩:=List.getElem?_of_mem hy;rw [List.getElem?_drop] at hi;have hlt:=(List.getElem?_eq_some_iff.1 hi).1;obtain ⟨z,hz,hb⟩:=hge (k+i) (by omega) hlt
  rw [hi] at hz;cases hz;exact h1 _ _ hb
 have htake:∀ y ∈ out.take k,y.moment<=x.moment:=λy hy=>by
  cases k with
  | zero=>simp at hy
  | succ k=>
   obtain ⟨z,hz⟩:∃ z,out[k]?=some z:=⟨_,List.getElem?_eq_getElem (by omega)⟩
   have hb:=h2 _ _ (hla k z rfl hz);obtain ⟨i,hi⟩:=List.getElem?_of_mem hy;have hik:i < k+1:=by
    have:=(List.getElem?_eq_some_iff.1 hi).1;simp only [List.length_take] at this;omega
   rw [List.getElem?_take,if_pos hik] at hi
   by_cases e:i=k
   .subst e;rw [hz] at hi;cases hi;exact hb
   .have hlt:=(List.getElem?_eq_some_iff.1 hi).1
    have:=List.pairwise_iff_getElem.1 h i k hlt (by omega) (by omega)
    rw [List.getElem?_eq_getElem hlt] at hi;rw [List.getElem?_eq_getElem (by omega)] at hz
    have e1:=Option.some.inj hi;have e2:=Option.some.inj hz;rw [e1,e2] at this
    omega
 refine List.pairwise_append.2 ⟨hs.1,List.pairwise_cons.2 ⟨hdrop,hs.2.1⟩,λa ha b hb=>?_⟩
 rcases List.mem_cons.1 hb with rfl|hb
 .exact htake a ha
 .exact hs.2.2 a ha b hb
theorem yU {bef:Mov->Mov->Bool} (h1:∀ a b,bef a b=true->a.moment<=b.moment) (h2:∀ a b,bef a b=false->b.moment<=a.moment):∀ (l out:List Mov),yC out->yC (l.foldl (zl1 bef) out)
 | [],_,h=>h
 | x::l,_,h=>yU h1 h2 l _ (ybc h1 h2 h x)
theorem yaS {bef:Mov->Mov->Bool} (h1:∀ a b,bef a b=true->a.moment<=b.moment) (h2:∀ a b,bef a b=false->b.moment<=a.moment) (a b:List Mov):yC (zf5 bef a b):=yU h1 h2 _ _ List.Pairwise.nil
theorem yb2 {l:List Int} (h:∀ x ∈ l,x=0):zg l=0:=by
 induction l with
 | nil=>rfl
 | cons x r ih=>exact zp.2 ⟨h x (by simp),ih λy hy=>h y (by simp [hy])⟩
theorem yas {m:List Mov} (hn:m.length<=30000) (hc:∀ x ∈ m,zed x=0) (hs:yC m):zad m=0:=by
 rw [zad,if_neg (by omega)]
 refine yb2 λe he=>?_
 obtain ⟨i,hi⟩:=List.getElem?_of_mem he;simp only [zgS,List.getElem?_mapIdx,Option.map_eq_some_iff] at hi;obtain ⟨x,hx,rfl⟩:=hi;refine zp.2 ⟨hc x (List.mem_of_getElem? hx),zp.2 ⟨if_neg λhh=>?_,rfl⟩⟩
 have hlt:=(List.getElem?_eq_some_iff.1 hx).1;have:=List.pairwise_iff_getElem.1 hs (i - 1) i (by omega) hlt (by omega)
 rw [List.getElem?_eq_getElem (by omega),Option.getD_some] at hh
 rw [List.getElem?_eq_getElem hlt] at hx;rw [Option.some.inj hx] at this
 omega
theorem bef1 {a b:Mov} (h:zk2 a b=true):a.moment<=b.moment:=by
 unfold zk2 at h;split at h
 .omega
 .simp only [decide_eq_true_eq] at h;omega
theorem bef0 {a b:Mov} (h:zk2 a b=false):b.moment<=a.moment:=by
 unfold zk2 at h;split at h
 .omega
 .simp only [decide_eq_false_iff_not] at h;omega
theorem ydF {a b:List Mov} (ha:∀ x ∈ a,zed x=0) (hb:∀ x ∈ b,zed x=0) (hn:a.length+b.length<=30000):zad (zf5 zk2 a b)=0/\(zf5 zk2 a b).length=a.length+b.length:=by
 have hp:=zlO zk2 a b;have hlen:(zf5 zk2 a b).length=a.length+b.length:=by rw [hp.length_eq,List.length_append]
 refine ⟨yas (by omega) (λx hx=>?_) (yaS (λ_ _ h=>bef1 h) (λ_ _ h=>bef0 h) a b),hlen⟩
 rcases List.mem_append.1 (hp.mem_iff.1 hx) with h|h
 .exact ha x h
 .exact hb x h
def ym (a b:Wsh):Bool:=decide (a.rank < b.rank) || (decide (a.rank=b.rank) && Op.bytesLess a.req.name.toList b.req.name.toList)
section
variable {α:Type}
theorem yaW (bef:α->α->Bool) (x:α) (out:List α):∀ n,zbA bef x out n<=n
 | 0=>Nat.le_refl _
 | n+1=>by
  have:=yaW bef x out n;simp only [zbA];(repeat' split)<;>omega
theorem yaX (bef:α->α->Bool) (x:α) (out:List α):∀ n i,zbA bef x out n<=i->i < n->∃ y,out[i]?=some y/\bef x y=true
 | 0,i,_,h=>by omega
 | n+1,i,h,hi=>by
  simp only [zbA] at h
  split at h
  .rename_i y hy
   split at h
   .by_cases e:i=n
    .subst e;exact ⟨y,hy,by assumption⟩
    .exact yaX bef x out n i h (by omega)
   .omega
  .omega
theorem yac (bef:α->α->Bool) (x:α) (out:List α):∀ n k y,zbA bef x out n=k+1->out[k]?=some y->bef x y=false
 | 0,_,_,h,_=>by cases h
 | n+1,k,y,h,hy=>by
  simp only [zbA] at h
  split at h
  .rename_i z hz
   split at h
   .exact yac bef x out n k y h hy
   .have e:n=k:=by omega
    subst e;rw [hz] at hy;cases hy;rename_i hb;simpa using hb
  .rename_i hz
   have e:n=k:=by omega
   subst e;rw [hz] at hy;cases hy
end
def mvS (l:List Slt):List Mov:=l.foldl (λout s=>zf5 zk2 out (zro s.req)) []
theorem ydC {l:List Slt} {k:Nat} {s:Slt} (h:l[k]?=some s):mvS (l.take (k+1))=zf5 zk2 (mvS (l.take k)) (zro s.req):=by
 rw [zan h,mvS,List.foldl_append];rfl
def trE (s:Slt) (to:ByteArray):Int:=zg [if to=s.holder then 31 else 0,if 0 < (s.ls.length:Int) then 19 else 0]
theorem ydX (L:List Slt) (i:Nat) (s:Slt) (to:ByteArray) (hs:L[i]?=some s):Acts Tryz.prog 227 [.ep 900 L.length i 0,.p (.ip (.s to) 0)] [(900,.row 84 16 (L.map Slt.pv) false)] (.p (.i .i64 (trE s to)))
  [(900,.row 84 16 (if trE s to=0 then (L.map Slt.pv).set i (trW s to) else L.map Slt.pv) false)]:=by
 have hi:i < L.length:=(List.getElem?_eq_some_iff.1 hs).1;have hi':i < (L.map Slt.pv).length:=by simpa using hi
 have hg:=λa=>zc4 (L.map Slt.pv) i a hi'
 by_cases h:trE s to=0
 .rw [if_pos h]
  have h1:(zg [if to=s.holder then 31 else 0,if 0 < (s.ls.length:Int) then 19 else 0]=0)=True:=eq_true h
  refine zR (cF Tryz.func227 Tryz.f227.eq_1) (by simp) (by simp [scPs,scP,zk]) (by simp [scObj]) ⟨rfl,trivial⟩ (by simp [scObj]) (by simp [zc2,zk]) λX hX=>?_
  unfold zD ghO;have qe:=aI qR (aI @qN (aI @gLV.eq_2 (aI @hs (aI @h1 (aI @hg (aI @List.set_set.{0} (aI @List.length_set.{0} (aI @rtN @rtR))))))));repeat' first|refine gC ?_ ?_<;>intro hc<;>try contradiction|refine za (zU _ _) ?_|refine za (zw [_,_]) ?_|refine gG ?_|show AK _;intro K H|refine H _ _ ?_;clear H K|refine gJ ?_;try exact trivial|omega
  rw [h];exact .inl (.mk1 (h2:=by simp only [qS,seval,keepG.eq_1,keepG.eq_2,gLV.eq_2]<;>simp))
 .rw [if_neg h]
  have h1:(zg [if to=s.holder then 31 else 0,if 0 < (s.ls.length:Int) then 19 else 0]=0)=False:=eq_false h
  refine zR (cF Tryz.func227 Tryz.f227.eq_1) (by simp) (by simp [scPs,scP,zk]) (by simp [scObj]) ⟨rfl,trivial⟩ (by simp [scObj]) (by simp [zc2,zk]) λX hX=>?_
  unfold zD ghO;have qe:=aI qR (aI @qN (aI @gLV.eq_2 (aI @hs (aI @h1 (aI @hg (aI @List.set_set.{0} (aI @List.length_set.{0} (aI @rtN @rtR))))))));repeat' first|refine gC ?_ ?_<;>intro hc<;>try contradiction|refine za (zU _ _) ?_|refine za (zw [_,_]) ?_|refine gG ?_|show AK _;intro K H|refine H _ _ ?_;clear H K|refine gJ ?_;try exact trivial|omega
  exact .inl (.mk1 (h2:=by simp only [qS,seval,keepG.eq_1,keepG.eq_2,gLV.eq_2]<;>simp))
def trC (b:Bk) (c n to:ByteArray):Int:=zfM b c n (zaH to) (trE (zn b n) to)
def trB (b:Bk) (c n to:ByteArray):Bk:=if trC b c n to=0 then zo1 b n (trS (zn b n) to) else bk0
theorem ydm (b:Bk) (c n to:ByteArray) (hb:zfz b):Pure Tryz.prog 168 [b.pv,.s c,.s n,.s to] (.tup [(trB b c n to).pv,.i .i64 (trC b c n to)]):=by
 have hch:=zkZ (caps:=[.ip (.s to) 0]) b c n (zaH to) (trE (zn b n) to) (trS (zn b n) to) (trW (zn b n) to) (b.slots.map Slt.pv) hb (zv7 _ _) (by simp) λh=>ydX b.slots (zx b n) (zn b n) to (za8 h).2.1
 refine zf (cF Tryz.func168 Tryz.f168.eq_1) (by simp) λhw X hX=>?_
 have qe:=aI qR @qN;repeat' first|refine gC ?_ ?_<;>intro hc<;>try contradiction|refine za (zbx to) ?_|refine zam (hch) ?_|refine gG ?_|show AK _;intro K H|refine H _ _ ?_;clear H K|refine gJ ?_;try exact trivial|omega
 exact .refl _
def rtQ (q:Req) (m:Int):Req:={ q with minute:=m }
def rtS (s:Slt) (m:Int):Slt:=⟨rtQ s.req m,s.holder,s.ls,s.sh⟩
def rtE (l:List Lim) (b:Bk) (n:ByteArray) (s:Slt) (m:Int):Int:=if zjz l (movF b (atL n (b.slots.map (·.req.name)))) (rtQ s.req m)=true then 0 else 14
theorem ydZ (l:List Lim) (b:Bk) (n:ByteArray) (i:Nat) (s:Slt) (m:Int) (hb:zfz b) (hs:b.slots[i]?=some s):Acts Tryz.prog 229 [.ep 900 b.slots.length i 0,.p (.ip (.i .i64 m) 0),.p (.ip (.sl 11 (l.map Lim.pv)) 0),.p (.ip (.agg [.sl 16 (b.slots.map Slt.pv),.sl 14 (b.wait.map Wsh.pv)]) 0),.p (.ip (.s n) 0)] [(900,.row 84 16 (b.slots.map Slt.pv) false)] (.p (.i .i64 (rtE l b n s m)))
  [(900,.row 84 16 ((b.slots.map Slt.pv).set i (rtS s m).pv) false)]:=by
 obtain ⟨hs1,hn,hwl⟩:=hb;have hi:i < b.slots.length:=(List.getElem?_eq_some_iff.1 hs).1;have hi':i < (b.slots.map Slt.pv).length:=by simpa using hi
 have hg:=λa=>zc4 (b.slots.map Slt.pv) i a hi'
 have hE:(if zjz l (mvF (rqW (b.slots.map (·.req)) (atL n (b.slots.map (·.req.name))))) (rtQ s.req m)=false then (14:Int) else 0)=rtE l b n s m:=by
  rw [rtE,movF];cases zjz l (mvF (rqW (b.slots.map (·.req)) (atL n (b.slots.map (·.req.name))))) (rtQ s.req m)<;>rfl
 refine zR (cF Tryz.func229 Tryz.f229.eq_1) (by simp) (by simp [scPs,scP,zk]) (by simp [scObj]) ⟨rfl,trivial⟩ (by simp [scObj]) (by simp [zc2,zk]) λX hX=>?_
 unfold zD ghO;have qe:=aI qR (aI @qN (aI @gLV.eq_2 (aI @hs (aI @hg (aI @hE (aI @List.set_set.{0} (aI @List.length_set.{0} (aI @rtN @rtR))))))));repeat' first|refine gC ?_ ?_<;>intro hc<;>try contradiction|refine za (za9 b n) ?_|refine zbO (hf:=zgL b.slots b.wait _ (by omega)) (hn:=?_)|refine za (zeq l _ (rtQ s.req m)) ?_|refine za (zU _ _) ?_|refine gG ?_|show AK _;intro K H|refine H _ _ ?_;clear H K|refine gJ ?_;try exact trivial|omega
 exact .inl (.mk1 (h2:=by simp only [qS,seval,keepG.eq_1,keepG.eq_2,gLV.eq_2]<;>simp))
def rtC (l:List Lim) (b:Bk) (c n:ByteArray) (m:Int):Int:=zfM b c n (rng m 0 1439) (rtE l b n (zn b n) m)
def rtB (l:List Lim) (b:Bk) (c n:ByteArray) (m:Int):Bk:=if rtC l b c n m=0 then zo1 b n (rtS (zn b n) m) else bk0
theorem ydp (l:List Lim) (b:Bk) (c n:ByteArray) (m:Int) (hb:zfz b):Pure Tryz.prog 175 [b.pv,.sl 11 (l.map Lim.pv),.s c,.s n,.i .i64 m] (.tup [(rtB l b c n m).pv,.i .i64 (rtC l b c n m)]):=by
 have hch:=zkZ (caps:=[.ip (.i .i64 m) 0,.ip (.sl 11 (l.map Lim.pv)) 0,.ip (.agg [.sl 16 (b.slots.map Slt.pv),.sl 14 (b.wait.map Wsh.pv)]) 0,.ip (.s n) 0]) b c n (rng m 0 1439) (rtE l b n (zn b n) m) (rtS (zn b n) m) (rtS (zn b n) m).pv ((b.slots.map Slt.pv).set (zx b n) (rtS (zn b n) m).pv) hb (.refl _) (by simp) λh=>by
  rw [ite_self];exact ydZ l b n (zx b n) (zn b n) m hb (za8 h).2.1
 refine zf (cF Tryz.func175 Tryz.f175.eq_1) (by simp) λhw X hX=>?_
 have qe:=aI qR @qN;repeat' first|refine gC ?_ ?_<;>intro hc<;>try contradiction|refine za (zki m 0 1439) ?_|refine zam (hch) ?_|refine gG ?_|show AK _;intro K H|refine H _ _ ?_;clear H K|refine gJ ?_;try exact trivial|omega
 exact .refl _
def yba (N:List ByteArray):Int:=zg [if (N.length:Int) < 2 then 16 else 0,if 8 < (N.length:Int) then 5 else 0]
def yD (b:Bk) (N:List ByteArray) (i:Nat) (n:ByteArray):Int:=zg [unkE b n,if 0<=atL n (N.take i) then 9 else 0]
def yE (b:Bk) (N:List ByteArray):Int:=zg [yba N,zg (N.mapIdx (yD b N)),zeg b N]
def yu (b:Bk) (N:List ByteArray):Bk:=if yE b N=0 then zlL b N else bk0
theorem yap {b:Bk} {N:List ByteArray} (h:∀ x ∈ N.mapIdx (yD b N),x=0):∀ n ∈ N,¬atL n (b.slots.map (·.req.name)) < 0:=λn hn=>by
 obtain ⟨i,hi⟩:=List.getElem?_of_mem hn;have h1:=h (yD b N i n) (List.mem_of_getElem? (zH hi));exact zv8 (fE0 h1 _ (by simp))
theorem ydn (b:Bk) (N:List ByteArray) (hb:zfz b) (hn:N.length<=1000):Pure Tryz.prog 172 [b.pv,.sl 1 (N.map .s)] (.tup [(yu b N).pv,.i .i64 (yE b N)]):=by
 by_cases h:yba N=0
 .have h1:(zg [if (N.length:Int) < 2 then 16 else 0,if 8 < (N.length:Int) then 5 else 0]=0)=True:=eq_true h
  have hC:yE b N=zg [zg (N.mapIdx (yD b N)),zeg b N]:=za4 h
  by_cases hX:zg (N.mapIdx (yD b N))=0
  .have hp:=zqM b N hb
   have hC2:yE b N=zeg b N:=by rw [hC,za4 hX,zfk]
   have hB:yu b N=zlL b N:=by
    rw [yu,hC2];split
    .rfl
    .rename_i k;rw [zus k]
   rw [hB,hC2];refine zf (cF Tryz.func172 Tryz.f172.eq_1) (by simp) λhw X hX'=>?_
   have qe:=aI qR (aI @qN @h1);repeat' first|refine gC ?_ ?_<;>intro hc<;>try contradiction|refine za (zU _ _) ?_|refine za (zw [_,_]) ?_|refine gG ?_|show AK _;intro K H|refine H _ _ ?_;clear H K|refine gJ ?_;try exact trivial|omega
   refine zj (κ:=Nat) (λk=>⟨[(1,.p (.sl 1 (N.map .s))),(2,.lp 2 0),(4,.lp 4 0),(5,.p (.i .i64 0)),(24,.p (.sl 1 (N.map .s))),(25,.p (.i .i64 N.length)),(26,.p (.i .i64 k))],[(2,.box [.p (.sl 16 (b.slots.map Slt.pv)),.p (.sl 14 (b.wait.map Wsh.pv))] false),(4,.box [.p .nilsl,.p .nilsl] false)],[],false⟩) (λk=>k<=N.length/\∀ x ∈ (N.mapIdx (yD b N)).take k,x=0) (λk=>N.length - k) 0 ?_ ?_ ?_
   .exact sS
   .simp
   .intro k hk
    repeat first|refine gG ?_|show AK _;intro K H|refine H _ _ ?_;clear H K|refine gJ ?_;try exact trivial|omega
    (refine gC ?_ ?_<;>intro hc<;>try contradiction)
    .obtain ⟨x,hx⟩:=zm (i:=k) (l:=N) (by omega)
     have hxE:yD b N k x=0:=fE0 hX _ (List.mem_of_getElem? (zH hx));have hxt:(zg [if atL x (b.slots.map (·.req.name)) < 0 then 10 else 0,if 0<=atL x (N.take k) then 9 else 0]=0)=True:=eq_true hxE
     have qe:=aI qR (aI @hx (aI @zel (aI @hxt @decide_true)));repeat' first|refine gC ?_ ?_<;>intro hc<;>try contradiction|refine za (zY b x) ?_|refine za (zgF (N.take k) x) ?_|refine za (zU _ _) ?_|refine za (zw [_,_]) ?_|refine gG ?_|show AK _;intro K H|refine H _ _ ?_;clear H K|refine gJ ?_;try exact trivial|omega
     all_goals exact ⟨k+1,⟨by omega,zaC hk.2 (zH hx) hxE⟩,by omega,by simp⟩
    .have hA:∀ x ∈ N.mapIdx (yD b N),x=0:=λx hx=>by
      have e:k=(N.mapIdx (yD b N)).length:=by simp;omega
      rw [e,List.take_length] at hk;exact hk.2 x hx
     have hp':=hp (yap hA) hn;have qe:=aI qR @qN;repeat' first|refine gC ?_ ?_<;>intro hc<;>try contradiction|refine zam (hp') ?_|refine gG ?_|show AK _;intro K H|refine H _ _ ?_;clear H K|refine gJ ?_;try exact trivial|omega
     exact .refl _
  .have hC2:yE b N=zg (N.mapIdx (yD b N)):=by rw [hC,za3 hX]
   have hB:yu b N=bk0:=by rw [yu,hC2,if_neg hX]
   rw [hB,hC2];refine zat (r:=.tup [.agg [.nilsl,.nilsl],.i .i64 (zg (N.mapIdx (yD b N)))]) ?_ (zbv _);refine zf (cF Tryz.func172 Tryz.f172.eq_1) (by simp) λhw X hX'=>?_
   have qe:=aI qR (aI @qN @h1);repeat' first|refine gC ?_ ?_<;>intro hc<;>try contradiction|refine za (zU _ _) ?_|refine za (zw [_,_]) ?_|refine gG ?_|show AK _;intro K H|refine H _ _ ?_;clear H K|refine gJ ?_;try exact trivial|omega
   refine zj (κ:=Nat) (λk=>⟨[(1,.p (.sl 1 (N.map .s))),(2,.lp 2 0),(4,.lp 4 0),(5,.p (.i .i64 0)),(24,.p (.sl 1 (N.map .s))),(25,.p (.i .i64 N.length)),(26,.p (.i .i64 k))],[(2,.box [.p (.sl 16 (b.slots.map Slt.pv)),.p (.sl 14 (b.wait.map Wsh.pv))] false),(4,.box [.p .nilsl,.p .nilsl] false)],[],false⟩) (λk=>k<=N.length/\∀ x ∈ (N.mapIdx (yD b N)).take k,x=0) (λk=>N.length - k) 0 ?_ ?_ ?_
   .exact sS
   .simp
   .intro k hk
    repeat first|refine gG ?_|show AK _;intro K H|refine H _ _ ?_;clear H K|refine gJ ?_;try exact trivial|omega
    (refine gC ?_ ?_<;>intro hc<;>try contradiction)
    .obtain ⟨x,hx⟩:=zm (i:=k) (l:=N) (by omega)
     by_cases hxE:yD b N k x=0
     .have hxt:(zg [if atL x (b.slots.map (·.req.name)) < 0 then 10 else 0,if 0<=atL x (N.take k) then 9 else 0]=0)=True:=eq_true hxE
      have qe:=aI qR (aI @hx (aI @zel (aI @hxt @decide_true)));repeat' first|refine gC ?_ ?_<;>intro hc<;>try contradiction|refine za (zY b x) ?_|refine za (zgF (N.take k) x) ?_|refine za (zU _ _) ?_|refine za (zw [_,_]) ?_|refine gG ?_|show AK _;intro K H|refine H _ _ ?_;clear H K|refine gJ ?_;try exact trivial|omega
      all_goals exact ⟨k+1,⟨by omega,zaC hk.2 (zH hx) hxE⟩,by omega,by simp⟩
     .have hxt:(zg [if atL x (b.slots.map (·.req.name)) < 0 then 10 else 0,if 0<=atL x (N.take k) then 9 else 0]=0)=False:=eq_false hxE
      rw [zT hk.2 (zH hx) hxE];have qe:=aI qR (aI @hx (aI @zel (aI @hxt @decide_false)));repeat' first|refine gC ?_ ?_<;>intro hc<;>try contradiction|refine za (zY b x) ?_|refine za (zgF (N.take k) x) ?_|refine za (zU _ _) ?_|refine za (zw [_,_]) ?_|refine gG ?_|show AK _;intro K H|refine H _ _ ?_;clear H K|refine gJ ?_;try exact trivial|omega
      all_goals exact .refl _
    .refine absurd ?_ hX
     have e:k=(N.mapIdx (yD b N)).length:=by simp;omega
     subst e;exact z4 hk.2
 .have h1:(zg [if (N.length:Int) < 2 then 16 else 0,if 8 < (N.length:Int) then 5 else 0]=0)=False:=eq_false h
  have hC2:yE b N=yba N:=za3 h;have hB:yu b N=bk0:=by rw [yu,hC2,if_neg h]
  rw [hB,hC2];refine zat (r:=.tup [.agg [.nilsl,.nilsl],.i .i64 (yba N)]) ?_ (zbv _);refine zf (cF Tryz.func172 Tryz.f172.eq_1) (by simp) λhw X hX'=>?_
  have qe:=aI qR (aI @qN @h1);repeat' first|refine gC ?_ ?_<;>intro hc<;>try contradiction|refine za (zU _ _) ?_|refine za (zw [_,_]) ?_|refine gG ?_|show AK _;intro K H|refine H _ _ ?_;clear H K|refine gJ ?_;try exact trivial|omega
  exact .refl _
abbrev slS (s:Slt) (i:Option Addr × Nat):PV:=slX s (.sl 3 (s.ls.map Lea.pv)) (.rs i.1 s.sh.length i.2)
theorem yat (s:Slt) (h:zlc s):ActsE Tryz.prog 189 [.p s.pv] [] (λi=>.p (slS s i)) (λi:Option Addr × Nat=>[(105,.hrow 9 1 (s.sh.map .s) i.1 i.2)]):=by
 obtain ⟨h1,h2⟩:=h;refine zdF (cF Tryz.func189 Tryz.f189.eq_1) (by simp) (by simp [scPs,scP]) (by simp [scObj]) trivial (λi=>by simp [scObj]) (λi=>by simp [zc2]) λX hX=>?_
 unfold zD ghO;refine zgx (zna ⟨[(1,.lp 1 0),(2,.lp 2 0)],[(1,.box [.p (.s s.req.name),.p (.s s.req.carrier),.p (.s s.req.kind),.p (.s s.req.term),.p (.s s.req.partner),.p (.s s.req.link),.p (.i .i64 s.req.per.fro),.p (.i .i64 s.req.per.to),.p (.i .i64 s.req.per.days),.p (.i .i64 s.req.minute),.p (.i .i64 s.req.seats),.p (.i .i64 s.req.size),.p (.i .i64 s.req.noise),.p (.s s.holder),.p (.sl 3 (s.ls.map Lea.pv)),.p (.sl 1 (s.sh.map .s))] false),(2,.box [.p (.s (bs [])),.p (.s (bs [])),.p (.s (bs [])),.p (.s (bs [])),.p (.s (bs [])),.p (.s (bs [])),.p (.i .i64 0),.p (.i .i64 0),.p (.i .i64 0),.p (.i .i64 0),.p (.i .i64 0),.p (.i .i64 0),.p (.i .i64 0),.p (.s (bs [])),.p .nilsl,.p .nilsl] false)],[],false⟩ ?_ (zgx (zna ⟨[(1,.lp 1 0),(2,.lp 2 0)],[(1,.box [.p (.s s.req.name),.p (.s s.req.carrier),.p (.s s.req.kind),.p (.s s.req.term),.p (.s s.req.partner),.p (.s s.req.link),.p (.i .i64 s.req.per.fro),.p (.i .i64 s.req.per.to),.p (.i .i64 s.req.per.days),.p (.i .i64 s.req.minute),.p (.i .i64 s.req.seats),.p (.i .i64 s.req.size),.p (.i .i64 s.req.noise),.p (.s s.holder),.row 206 s.ls.length,.row 105 s.sh.length] false),(2,.box [.p (.s (bs [])),.p (.s (bs [])),.p (.s (bs [])),.p (.s (bs [])),.p (.s (bs [])),.p (.s (bs [])),.p (.i .i64 0),.p (.i .i64 0),.p (.i .i64 0),.p (.i .i64 0),.p (.i .i64 0),.p (.i .i64 0),.p (.i .i64 0),.p (.s (bs [])),.p .nilsl,.p .nilsl] false),(206,.row 91 3 (s.ls.map Lea.pv) false),(105,.row 9 1 (s.sh.map .s) false)],[],false⟩ ?_ ?_)))
 .have qe:=@qR;repeat' first|refine gC ?_ ?_<;>intro hc<;>try contradiction|refine gG ?_|show AK _;intro K H|refine H _ _ ?_;clear H K|refine gJ ?_;try exact trivial|omega
  all_goals (show Cov _ _;simp only [qS,seval]<;>simp)
 .have qe:=aI qR (aI @qN (aI @zaf (aI @List.map_nil.{0,0} @List.append_nil.{0})));repeat' first|refine gC ?_ ?_<;>intro hc<;>try contradiction|refine zl [(5,206)] (zla s.ls (by omega)) ?_|refine zl [(5,105)] (zk9 s.sh (by omega)) ?_|refine gG ?_|show AK _;intro K H|refine H _ _ ?_;clear H K|refine gJ ?_;try exact trivial|omega
  all_goals (show Cov _ _;simp only [qS,seval]<;>simp)
 refine zlu (zdw 105 (e:=9) (sz:=1) (xs:=s.sh.map .s) rfl (λa0 c0=>[(1,.lp 1 0),(2,.lp 2 0)]) (λa0 c0=>[(1,.box [.p (.s s.req.name),.p (.s s.req.carrier),.p (.s s.req.kind),.p (.s s.req.term),.p (.s s.req.partner),.p (.s s.req.link),.p (.i .i64 s.req.per.fro),.p (.i .i64 s.req.per.to),.p (.i .i64 s.req.per.days),.p (.i .i64 s.req.minute),.p (.i .i64 s.req.seats),.p (.i .i64 s.req.size),.p (.i .i64 s.req.noise),.p (.s s.holder),.row 206 s.ls.length,.p (.rs a0 (s.sh.map PV.s).length c0)] false),(2,.box [.p (.s (bs [])),.p (.s (bs [])),.p (.s (bs [])),.p (.s (bs [])),.p (.s (bs [])),.p (.s (bs [])),.p (.i .i64 0),.p (.i .i64 0),.p (.i .i64 0),.p (.i .i64 0),.p (.i .i64 0),.p (.i .i64 0),.p (.i .i64 0),.p (.s (bs [])),.p .nilsl,.p .nilsl] false),(206,.row 91 3 (s.ls.map Lea.pv) false)]) λa0 c0=>⟨⟨.inl rfl,.inl rfl,trivial⟩,⟨.inr ⟨_,rfl,_,_,_,rfl,rfl,.inl rfl,.inl rfl,.inl rfl,.inl rfl,.inl rfl,.inl rfl,.inl rfl,.inl rfl,.inl rfl,.inl rfl,.inl rfl,.inl rfl,.inl rfl,.inl rfl,.inl rfl,.inr ⟨by show LV.row 105 _=LV.row 105 _;simp,rfl⟩,trivial⟩,.inl rfl,.inl rfl,trivial⟩,by simp [scEnv,scP,zk],by simp [scObj,scPs,scP,zk]⟩) ?_
 rintro _ ⟨a0,c0,rfl⟩;refine (show Run _ _ (St.mk _ _ [] false) _ from ?_)
 have qe:=aI qR (aI @zaf (aI @reN (aI @reR (@List.length_map.{0,0}))));repeat' first|refine gC ?_ ?_<;>intro hc<;>try contradiction|refine gG ?_|show AK _;intro K H|refine H _ _ ?_;clear H K|refine gJ ?_;try exact trivial|omega
 exact ⟨(a0,c0),.inl (.mkP)⟩
def shE (s:Slt) (to:ByteArray):Int:=zg [if to=s.holder then 31 else 0,if 0<=atL to s.sh then 9 else 0,if 4<=(s.sh.length:Int) then 5 else 0]
def shS (s:Slt) (to:ByteArray):Slt:=⟨s.req,s.holder,s.ls,s.sh++[to]⟩
theorem ycZ (P:List PV) (i0:Nat) (hi:i0 < P.length) (s:Slt) (to:ByteArray) (hok:zlc s) (h:shE s to≠0) (i:HD):ActsE Tryz.prog 228 [.ep 900 P.length i0 0,.p (.ip (.s to) 0)] [(900,.row 84 16 (P.set i0 (slS s i)) false),(901,.hrow 9 1 (s.sh.map .s) i.1 i.2)] (λ_=>.p (.i .i64 (shE s to)))
  (λj=>[(900,.row 84 16 (P.set i0 (slS s j)) false),(901,.hrow 9 1 (s.sh.map .s) j.1 j.2)]):=by
 have hg:=λa=>zc4 P i0 a hi
 have hx:(zg [if to=s.holder then 31 else 0,if 0<=atL to s.sh then 9 else 0,if 4<=(s.sh.length:Int) then 5 else 0]=0)=False:=eq_false h
 obtain ⟨_,hok⟩:=hok;refine zdF (cF Tryz.func228 Tryz.f228.eq_1) (by simp) (by simp [scPs,scP,zk]) (by simp [scObj]) ⟨rfl,rfl,trivial⟩ (λj=>by simp [scObj]) (λj=>by simp [zc2,zk]) λX hX=>?_
 unfold zD ghO;have qe:=aI qR (aI @qN (aI @gLV.eq_2 (aI @gLV.eq_5 (aI @hg (aI @hx @List.length_set.{0})))));repeat' first|refine gC ?_ ?_<;>intro hc<;>try contradiction|refine za (zU _ _) ?_|refine za (zw [_,_,_]) ?_|refine gG ?_|show AK _;intro K H|refine H _ _ ?_;clear H K|refine gJ ?_;try exact trivial|omega
 refine zfQ 901 (hf:=zgF s.sh to) (hm:=by exact ⟨.inr ⟨zob _ _ _ _,rfl⟩,.inl rfl,trivial⟩) (hn:=?_)
 have qe:=aI qR (aI @qN (aI @hg (aI @hx (aI @List.length_set.{0} (aI @reN @reR)))));repeat' first|refine gC ?_ ?_<;>intro hc<;>try contradiction|refine za (zU _ _) ?_|refine za (zw [_,_,_]) ?_|refine gG ?_|show AK _;intro K H|refine H _ _ ?_;clear H K|refine gJ ?_;try exact trivial|omega
 all_goals exact ⟨i,.inl (.mkE)⟩
theorem ydY (P:List PV) (i0:Nat) (hi:i0 < P.length) (s:Slt) (to:ByteArray) (hok:zlc s) (h:shE s to=0) (i:HD):ActsE Tryz.prog 228 [.ep 900 P.length i0 0,.p (.ip (.s to) 0)] [(900,.row 84 16 (P.set i0 (slS s i)) false),(901,.hrow 9 1 (s.sh.map .s) i.1 i.2)] (λ_=>.p (.i .i64 0))
  (λj=>[(900,.row 84 16 (P.set i0 (slX s (.sl 3 (s.ls.map Lea.pv)) (.rs j.1 (s.sh.map PV.s++[PV.s to]).length j.2))) false),(901,.hrow 9 1 (s.sh.map PV.s++[PV.s to]) j.1 j.2)]):=by
 have hg:=λa=>zc4 P i0 a hi
 have hx:(zg [if to=s.holder then 31 else 0,if 0<=atL to s.sh then 9 else 0,if 4<=(s.sh.length:Int) then 5 else 0]=0)=True:=eq_true h
 obtain ⟨_,hok⟩:=hok;refine zdF (cF Tryz.func228 Tryz.f228.eq_1) (by simp) (by simp [scPs,scP,zk]) (by simp [scObj]) ⟨rfl,rfl,trivial⟩ (λj=>by simp [scObj]) (λj=>by simp [zc2,zk]) λX hX=>?_
 unfold zD ghO;have qe:=aI qR (aI @qN (aI @gLV.eq_2 (aI @gLV.eq_5 (aI @hg (aI @hx @List.length_set.{0})))));repeat' first|refine za (zU _ _) ?_|refine za (zw [_,_,_]) ?_|refine gG ?_|show AK _;intro K H|refine H _ _ ?_;clear H K|refine gJ ?_;try exact trivial|omega
 refine zfQ 901 (hf:=zgF s.sh to) (hm:=by exact ⟨.inr ⟨zob _ _ _ _,rfl⟩,.inl rfl,trivial⟩) (hn:=?_)
 have qe:=aI qR (aI @qN (aI @hg (aI @hx @List.length_set.{0})));repeat' first|refine za (zU _ _) ?_|refine za (zw [_,_,_]) ?_|refine gG ?_|show AK _;intro K H|refine H _ _ ?_;clear H K|refine gJ ?_;try exact trivial|omega
 have qe:=@hx;(refine gC ?_ ?_<;>intro hc<;>try contradiction)
 refine zj6 ?_;refine (show Run _ (.seq (.ops true _) _) _ _ from zgx (zm9 Mx.h rfl 8 (by decide) rfl ?_))
 simp only [List.take_succ_cons,List.take_zero,List.drop_succ_cons,List.drop_zero];refine zcp 7 ?_;simp only [List.take_succ_cons,List.take_zero,List.drop_succ_cons,List.drop_zero];have qe:=aI qR (aI @qN (aI @hg @List.length_set.{0}));repeat' first|refine gC ?_ ?_<;>intro hc<;>try contradiction|refine gG ?_|show AK _;intro K H|refine H _ _ ?_;clear H K|refine gJ ?_;try exact trivial|omega
 refine znh 901 s.sh.length (xs:=s.sh.map PV.s) (by simp) (h3:=by simp;omega) (h:=?_)
 refine (show zcc _=true/\zi _ _ _ _ _ _ _ from ⟨rfl,?_⟩)
 refine zbN (zdw 901 (e:=9) (sz:=1) (xs:=s.sh.map PV.s++[PV.s to]) rfl (λa0 c0=>[(31,.ep 900 P.length i0 0),(38,.p (.rs a0 (s.sh.map PV.s++[PV.s to]).length c0)),(1000900,.row 900 P.length),(1000901,.any)]) (λa0 c0=>[(900,.row 84 16 (P.set i0 (slS s i)) false)]) λa0 c0=>⟨?_,?_,?_,?_⟩) ?_
 .exact ⟨.inl rfl,.inr ⟨_,.inl (.inr ⟨rfl,rfl⟩),rfl⟩,.inl rfl,.inl rfl,trivial⟩
 .exact ⟨.inl rfl,trivial⟩
 .simp [scEnv,scP,zk]
 .simp [scObj,scPs,scP,zk]
 rintro _ ⟨a0,c0,rfl⟩;refine (show zi _ _ _ _ _ (St.mk _ _ [] false) _ from zE ?_)
 have qe:=aI qR (aI @qN (aI @hg (aI @zsc (aI @List.set_set.{0} (aI @List.length_set.{0} (aI @reN @reR))))));repeat' first|refine gC ?_ ?_<;>intro hc<;>try contradiction|refine gG ?_|show AK _;intro K H|refine H _ _ ?_;clear H K|refine gJ ?_;try exact trivial|omega
 exact ⟨(a0,c0),.inl (.mkE)⟩
def shC (b:Bk) (c n to:ByteArray):Int:=zfM b c n (zaH to) (shE (zn b n) to)
def shB (b:Bk) (c n to:ByteArray):Bk:=if shC b c n to=0 then zo1 b n (shS (zn b n) to) else bk0
theorem shB_0 {b:Bk} {c n to:ByteArray} (h:shC b c n to≠0):shB b c n to=bk0:=if_neg h
theorem yes (b:Bk) (c n to:ByteArray) (hb:zfz b):Pure Tryz.prog 129 [b.pv,.s c,.s n,.i .i64 (zaH to),.fn (.func 228) [] [.ip (.s to) 0]] (.tup [(shB b c n to).pv,.i .i64 (shC b c n to)]):=by
 by_cases hown:zhm b c n (zaH to)=0
 .have hC:shC b c n to=shE (zn b n) to:=zvD hown
  have hsl:=zw1 hown;have hok:=zj5 hb hsl;have hi:zx b n < b.slots.length:=(List.getElem?_eq_some_iff.1 hsl).1;have hi':zx b n < (b.slots.map Slt.pv).length:=by simpa using hi
  by_cases hE:shE (zn b n) to=0
  .have hf:=λi=>ydY (b.slots.map Slt.pv) (zx b n) hi' (zn b n) to hok hE i
   rw [show (b.slots.map Slt.pv).length=b.slots.length from List.length_map ..] at hf
   have h:=zkY (cf:=228) (caps:=[.ip (.s to) 0]) (λ_=>.sl 3 ((zn b n).ls.map Lea.pv)) (λi=>.rs i.1 (zn b n).sh.length i.2) _ (slX (zn b n) (.sl 3 ((zn b n).ls.map Lea.pv)) (.sl 1 ((zn b n).sh.map PV.s++[PV.s to]))) b c n (zaH to) 0 hb (λ_=>⟨rfl,rfl⟩) hown (yat (zn b n) hok) hf λj=>.inr ⟨_,_,rfl,rfl,.inl rfl,.inl rfl,.inl rfl,.inl rfl,.inl rfl,.inl rfl,.inl rfl,.inl rfl,.inl rfl,.inl rfl,.inl rfl,.inl rfl,.inl rfl,.inl rfl,.inl rfl,.inr ⟨rfl,rfl⟩,trivial⟩
   rw [if_pos rfl] at h;have hB:shB b c n to=zo1 b n (shS (zn b n) to):=by rw [shB,hC,if_pos hE]
   rw [hC,hE,hB,zo1];show Pure _ _ _ (.tup [.agg [.sl 16 ((b.slots.set (zx b n) (shS (zn b n) to)).map Slt.pv),.sl 14 (b.wait.map Wsh.pv)],.i .i64 0]);rw [List.map_set];show Pure _ _ _ (.tup [.agg [.sl 16 ((b.slots.map Slt.pv).set (zx b n) (slX (zn b n) (.sl 3 ((zn b n).ls.map Lea.pv)) (.sl 1 (((zn b n).sh++[to]).map PV.s)))),.sl 14 (b.wait.map Wsh.pv)],.i .i64 0]);rw [List.map_append];exact h
  .have hf:=λi=>ycZ (b.slots.map Slt.pv) (zx b n) hi' (zn b n) to hok hE i
   rw [show (b.slots.map Slt.pv).length=b.slots.length from List.length_map ..] at hf
   have h:=zkY (cf:=228) (caps:=[.ip (.s to) 0]) (λ_=>.sl 3 ((zn b n).ls.map Lea.pv)) (λi=>.rs i.1 (zn b n).sh.length i.2) _ (zn b n).pv b c n (zaH to) (shE (zn b n) to) hb (λ_=>⟨rfl,rfl⟩) hown (yat (zn b n) hok) hf λj=>.inr ⟨_,_,rfl,rfl,.inl rfl,.inl rfl,.inl rfl,.inl rfl,.inl rfl,.inl rfl,.inl rfl,.inl rfl,.inl rfl,.inl rfl,.inl rfl,.inl rfl,.inl rfl,.inl rfl,.inl rfl,.inr ⟨zob _ _ _ _,rfl⟩,trivial⟩
   rw [if_neg hE] at h;rw [shB_0 (by rw [hC];exact hE),hC]
   exact zat h (zbv _)
 .have hC:shC b c n to≠0:=by rw [shC,zfM,za3 hown];exact hown
  rw [shB_0 hC];exact zvE b c n (zaH to) _ hb hown
theorem ydo (b:Bk) (c n to:ByteArray) (hb:zfz b):Pure Tryz.prog 169 [b.pv,.s c,.s n,.s to] (.tup [(shB b c n to).pv,.i .i64 (shC b c n to)]):=by
 have hch:=yes b c n to hb;refine zf (cF Tryz.func169 Tryz.f169.eq_1) (by simp) λhw X hX=>?_
 have qe:=aI qR @qN;repeat' first|refine gC ?_ ?_<;>intro hc<;>try contradiction|refine za (zbx to) ?_|refine zam (hch) ?_|refine gG ?_|show AK _;intro K H|refine H _ _ ?_;clear H K|refine gJ ?_;try exact trivial|omega
 exact .refl _
theorem ydq (s:Slt):Pure Tryz.prog 67 [s.pv,s.pv] (.b true):=by
 refine zf (cF Tryz.func67 Tryz.f67.eq_1) (by simp) λhw X hX=>?_
 have hwl:s.ls.length<=maxLen:=by
  simp only [wfs,PV.wf,List.length_map] at hw
  omega
 simp only [maxLen] at hwl;have qe:=aI qR (aI @zbb (aI @decide_true @Bool.not_true));repeat' first|refine gC ?_ ?_<;>intro hc<;>try contradiction|refine zM (λ_=>zq6 s.sh s.sh) ?_|refine gG ?_|show AK _;intro K H|refine H _ _ ?_;clear H K|refine gJ ?_;try exact trivial|omega
 refine zj (κ:=Nat) (λk=>⟨[(2,.lp 2 0),(3,.lp 3 0),(5,.p (.i .i64 k))],[(2,.box (s.cells.map .p) false),(3,.box (s.cells.map .p) false)],[],false⟩) (λk=>k<=s.ls.length) (λk=>s.ls.length - k) 0 ?_ ?_ ?_
 .exact sS
 .simp
 .intro k hk
  repeat first|refine gG ?_|show AK _;intro K H|refine H _ _ ?_;clear H K|refine gJ ?_;try exact trivial|omega
  (refine gC ?_ ?_<;>intro hc<;>try contradiction)
  .obtain ⟨x,hx⟩:=zm (i:=k) (l:=s.ls) (by omega)
   have qe:=aI qR (aI @hx (aI @zbb (aI @decide_true (aI @Bool.not_true @Bool.and_self))));repeat' first|refine gC ?_ ?_<;>intro hc<;>try contradiction|refine gG ?_|show AK _;intro K H|refine H _ _ ?_;clear H K|refine gJ ?_;try exact trivial|omega
   exact ⟨k+1,by omega,by omega,by simp⟩
  .have qe:=@qR;repeat' first|refine gC ?_ ?_<;>intro hc<;>try contradiction|refine gG ?_|show AK _;intro K H|refine H _ _ ?_;clear H K|refine gJ ?_;try exact trivial|omega
   exact .refl _
theorem ydv (b:Bk):Pure Tryz.prog 21 [b.pv,b.pv] (.b true):=by
 refine zf (cF Tryz.func21 Tryz.f21.eq_1) (by simp) λhw X hX=>?_
 have hwl:b.slots.length<=maxLen/\b.wait.length<=maxLen:=by
  simp only [wfs,PV.wf,List.length_map] at hw
  omega
 simp only [maxLen] at hwl;have qe:=aI qR (aI @zbb (aI @decide_true @Bool.not_true));repeat' first|refine gC ?_ ?_<;>intro hc<;>try contradiction|refine gG ?_|show AK _;intro K H|refine H _ _ ?_;clear H K|refine gJ ?_;try exact trivial|omega
 refine zj (κ:=Nat) (λk=>⟨[(2,.lp 2 0),(3,.lp 3 0),(5,.p (.i .i64 k))],[(2,.box [.p (.sl 16 (b.slots.map Slt.pv)),.p (.sl 14 (b.wait.map Wsh.pv))] false),(3,.box [.p (.sl 16 (b.slots.map Slt.pv)),.p (.sl 14 (b.wait.map Wsh.pv))] false)],[],false⟩) (λk=>k<=b.slots.length) (λk=>b.slots.length - k) 0 ?_ ?_ ?_
 .exact sS
 .simp
 .intro k hk
  repeat first|refine gG ?_|show AK _;intro K H|refine H _ _ ?_;clear H K|refine gJ ?_;try exact trivial|omega
  (refine gC ?_ ?_<;>intro hc<;>try contradiction)
  .obtain ⟨x,hx⟩:=zm (i:=k) (l:=b.slots) (by omega)
   have qe:=aI qR (aI @hx (aI @zbb (aI @decide_true @Bool.not_true)));repeat' first|refine gC ?_ ?_<;>intro hc<;>try contradiction|refine za (ydq x) ?_|refine gG ?_|show AK _;intro K H|refine H _ _ ?_;clear H K|refine gJ ?_;try exact trivial|omega
   all_goals exact ⟨k+1,by omega,by omega,by simp⟩
  .have qe:=@qR;repeat' first|refine gC ?_ ?_<;>intro hc<;>try contradiction|refine gG ?_|show AK _;intro K H|refine H _ _ ?_;clear H K|refine gJ ?_;try exact trivial|omega
   refine zj (κ:=Nat) (λk=>⟨[(2,.lp 2 0),(3,.lp 3 0),(6,.p (.i .i64 k))],[(2,.box [.p (.sl 16 (b.slots.map Slt.pv)),.p (.sl 14 (b.wait.map Wsh.pv))] false),(3,.box [.p (.sl 16 (b.slots.map Slt.pv)),.p (.sl 14 (b.wait.map Wsh.pv))] false)],[],false⟩) (λk=>k<=b.wait.length) (λk=>b.wait.length - k) 0 ?_ ?_ ?_
   .exact sS
   .simp
   .intro k hk
    repeat first|refine gG ?_|show AK _;intro K H|refine H _ _ ?_;clear H K|refine gJ ?_;try exact trivial|omega
    (refine gC ?_ ?_<;>intro hc<;>try contradiction)
    .obtain ⟨x,hx⟩:=zm (i:=k) (l:=b.wait) (by omega)
     have qe:=aI qR (aI @hx (aI @zbb (aI @decide_true (aI @Bool.not_true @Bool.and_self))));repeat' first|refine gC ?_ ?_<;>intro hc<;>try contradiction|refine gG ?_|show AK _;intro K H|refine H _ _ ?_;clear H K|refine gJ ?_;try exact trivial|omega
     all_goals exact ⟨k+1,by omega,by omega,by simp⟩
    .have qe:=@qR;repeat' first|refine gC ?_ ?_<;>intro hc<;>try contradiction|refine gG ?_|show AK _;intro K H|refine H _ _ ?_;clear H K|refine gJ ?_;try exact trivial|omega
     all_goals exact .refl _
theorem ydu (b:Bk) (hb:zfz b):Pure Tryz.prog 22 [b.pv] b.pv:=by
 obtain ⟨hs,hn,hw1⟩:=hb;refine zf (cF Tryz.func22 Tryz.f22.eq_1) (by simp) λhw X hX=>?_
 have qe:=@qR;repeat' first|refine gC ?_ ?_<;>intro hc<;>try contradiction|refine gG ?_|show AK _;intro K H|refine H _ _ ?_;clear H K|refine gJ ?_;try exact trivial|omega
 refine zaP 100 102 16 [(1,.lp 1 0),(2,.lp 2 0),(3,.lp 3 0),(12,.p (.sl 16 (b.slots.map Slt.pv))),(13,.p (.i .i64 b.slots.length)),(14,.p (.i .i64 0))] [(1,.box [.p (.sl 16 (b.slots.map Slt.pv)),.p (.sl 14 (b.wait.map Wsh.pv))] false),(2,.box [.p .nilsl,.p .nilsl] false),(3,.box [.row 100 0,.p .nilsl] false)] ?_ ?_
 .simp only [Own,zaM,zaB,zbt,zay,qS,seval]<;>simp
 refine zj (κ:=Nat) (λk=>⟨[(1,.lp 1 0),(2,.lp 2 0),(3,.lp 3 0),(12,.p (.sl 16 (b.slots.map Slt.pv))),(13,.p (.i .i64 b.slots.length)),(14,.p (.i .i64 k))],[(1,.box [.p (.sl 16 (b.slots.map Slt.pv)),.p (.sl 14 (b.wait.map Wsh.pv))] false),(2,.box [.p .nilsl,.p .nilsl] false),(3,.box [.row 100 k,.p .nilsl] false),(100,.row 102 16 ((b.slots.take k).map Slt.pv) false)],[],false⟩) (λk=>k<=b.slots.length) (λk=>b.slots.length - k) 0 ?_ ?_ ?_
 .exact sS
 .simp
 .intro k hk
  have hlk:(b.slots.take k).length=k:=by rw [List.length_take];omega
  repeat first|refine gG ?_|show AK _;intro K H|refine H _ _ ?_;clear H K|refine gJ ?_;try exact trivial|omega
  (refine gC ?_ ?_<;>intro hc<;>try contradiction)
  .obtain ⟨s,hx⟩:=zm (i:=k) (l:=b.slots) (by omega)
   obtain ⟨hl1,hl2⟩:=hs s (List.mem_of_getElem? hx);have qe:=aI qR @hx;repeat' first|refine gC ?_ ?_<;>intro hc<;>try contradiction|refine gG ?_|show AK _;intro K H|refine H _ _ ?_;clear H K|refine gJ ?_;try exact trivial|omega
   refine zaP 101 103 3 [(1,.lp 1 0),(2,.lp 2 0),(3,.lp 3 0),(12,.p (.sl 16 (b.slots.map Slt.pv))),(13,.p (.i .i64 b.slots.length)),(14,.p (.i .i64 k)),(5,.lp 5 0),(6,.lp 6 0),(26,.p (.sl 3 (s.ls.map Lea.pv))),(27,.p (.i .i64 s.ls.length)),(28,.p (.i .i64 0))] [(1,.box [.p (.sl 16 (b.slots.map Slt.pv)),.p (.sl 14 (b.wait.map Wsh.pv))] false),(2,.box [.p .nilsl,.p .nilsl] false),(3,.box [.row 100 k,.p .nilsl] false),(100,.row 102 16 ((b.slots.take k).map Slt.pv) false),(5,.box (s.cells.map .p) false),(6,.box [.p (.s s.req.name),.p (.s s.req.carrier),.p (.s s.req.kind),.p (.s s.req.term),.p (.s s.req.partner),.p (.s s.req.link),.p (.i .i64 s.req.per.fro),.p (.i .i64 s.req.per.to),.p (.i .i64 s.req.per.days),.p (.i .i64 s.req.minute),.p (.i .i64 s.req.seats),.p (.i .i64 s.req.size),.p (.i .i64 s.req.noise),.p (.s s.holder),.row 101 0,.p (.sl 1 (s.sh.map .s))] false)] ?_ ?_
   .simp only [Own,zaM,zaB,zbt,zay,qS,seval]<;>simp [hlk]
   refine zj (κ:=Nat) (λi=>⟨[(1,.lp 1 0),(2,.lp 2 0),(3,.lp 3 0),(12,.p (.sl 16 (b.slots.map Slt.pv))),(13,.p (.i .i64 b.slots.length)),(14,.p (.i .i64 k)),(5,.lp 5 0),(6,.lp 6 0),(26,.p (.sl 3 (s.ls.map Lea.pv))),(27,.p (.i .i64 s.ls.length)),(28,.p (.i .i64 i))],[(1,.box [.p (.sl 16 (b.slots.map Slt.pv)),.p (.sl 14 (b.wait.map Wsh.pv))] false),(2,.box [.p .nilsl,.p .nilsl] false),(3,.box [.row 100 k,.p .nilsl] false),(100,.row 102 16 ((b.slots.take k).map Slt.pv) false),(5,.box (s.cells.map .p) false),(6,.box [.p (.s s.req.name),.p (.s s.req.carrier),.p (.s s.req.kind),.p (.s s.req.term),.p (.s s.req.partner),.p (.s s.req.link),.p (.i .i64 s.req.per.fro),.p (.i .i64 s.req.per.to),.p (.i .i64 s.req.per.days),.p (.i .i64 s.req.minute),.p (.i .i64 s.req.seats),.p (.i .i64 s.req.size),.p (.i .i64 s.req.noise),.p (.s s.holder),.row 101 i,.p (.sl 1 (s.sh.map .s))] false),(101,.row 103 3 ((s.ls.take i).map Lea.pv) false)],[],false⟩) (λi=>i<=s.ls.length) (λi=>s.ls.length - i) 0 ?_ ?_ ?_
   .refine gJ ?_;simp [hlk]
   .simp
   .intro i hi
    have hli:(s.ls.take i).length=i:=by rw [List.length_take];omega
    repeat first|refine gG ?_|show AK _;intro K H|refine H _ _ ?_;clear H K|refine gJ ?_;try exact trivial|omega
    (refine gC ?_ ?_<;>intro hc<;>try contradiction)
    .obtain ⟨x,hx2⟩:=zm (i:=i) (l:=s.ls) (by omega)
     have qe:=aI qR (aI @hx2 (aI @hli @hlk));repeat' first|refine gC ?_ ?_<;>intro hc<;>try contradiction|refine gG ?_|show AK _;intro K H|refine H _ _ ?_;clear H K|refine gJ ?_;try exact trivial|omega
     exact ⟨i+1,by omega,by omega,by simp,⟨rfl,by rw [zan hx2];simp⟩,by simp;omega⟩
    .have e:i=s.ls.length:=by omega
     subst e;refine zp5 ?_;refine (show Run _ (.ops false _) _ _ from zlt (zcp 3 ?_))
     simp only [List.take_succ_cons,List.take_zero,List.drop_succ_cons,List.drop_zero];have qe:=aI qR (aI @zaf (aI @hlk @List.take_length.{0}));repeat' first|refine gC ?_ ?_<;>intro hc<;>try contradiction|refine gG ?_|show AK _;intro K H|refine H _ _ ?_;clear H K|refine gJ ?_;try exact trivial|omega
     refine zbN (ycK 41 s.pv (by simp only [qS,seval,zaf]<;>rfl) (by first|trivial|simp) (.refl _)) ?_
     rintro _ rfl;refine zE ?_;have qe:=aI qR @hlk;repeat' first|refine gC ?_ ?_<;>intro hc<;>try contradiction|refine gG ?_|show AK _;intro K H|refine H _ _ ?_;clear H K|refine gJ ?_;try exact trivial|omega
     exact ⟨k+1,by omega,by omega,by simp,⟨rfl,by rw [zan hx];simp⟩,by simp;omega⟩
  .have e:k=b.slots.length:=by omega
   subst e;have qe:=aI qR @List.take_length.{0};repeat' first|refine gC ?_ ?_<;>intro hc<;>try contradiction|refine gG ?_|show AK _;intro K H|refine H _ _ ?_;clear H K|refine gJ ?_;try exact trivial|omega
   refine zaP 102 104 14 [(2,.lp 2 0),(3,.lp 3 0),(47,.p (.sl 14 (b.wait.map Wsh.pv))),(48,.p (.i .i64 b.wait.length)),(49,.p (.i .i64 0))] [(1,.box [.p (.sl 16 (b.slots.map Slt.pv)),.p (.sl 14 (b.wait.map Wsh.pv))] false),(2,.box [.p .nilsl,.p .nilsl] false),(3,.box [.row 100 b.slots.length,.row 102 0] false),(100,.row 102 16 (b.slots.map Slt.pv) false)] ?_ ?_
   .simp only [Own,zaM,zaB,zbt,zay,qS,seval]<;>simp
   refine zj (κ:=Nat) (λk=>⟨[(2,.lp 2 0),(3,.lp 3 0),(47,.p (.sl 14 (b.wait.map Wsh.pv))),(48,.p (.i .i64 b.wait.length)),(49,.p (.i .i64 k))],[(1,.box [.p (.sl 16 (b.slots.map Slt.pv)),.p (.sl 14 (b.wait.map Wsh.pv))] false),(2,.box [.p .nilsl,.p .nilsl] false),(3,.box [.row 100 b.slots.length,.row 102 k] false),(100,.row 102 16 (b.slots.map Slt.pv) false),(102,.row 104 14 ((b.wait.take k).map Wsh.pv) false)],[],false⟩) (λk=>k<=b.wait.length) (λk=>b.wait.length - k) 0 ?_ ?_ ?_
   .exact sS
   .simp
   .intro k hk2
    have hl2:(b.wait.take k).length=k:=by rw [List.length_take];omega
    repeat first|refine gG ?_|show AK _;intro K H|refine H _ _ ?_;clear H K|refine gJ ?_;try exact trivial|omega
    (refine gC ?_ ?_<;>intro hc<;>try contradiction)
    .obtain ⟨w,hx2⟩:=zm (i:=k) (l:=b.wait) (by omega)
     have qe:=aI qR (aI @hx2 @hl2);repeat' first|refine gC ?_ ?_<;>intro hc<;>try contradiction|refine gG ?_|show AK _;intro K H|refine H _ _ ?_;clear H K|refine gJ ?_;try exact trivial|omega
     exact ⟨k+1,by omega,by omega,by simp,⟨rfl,by rw [zan hx2];simp⟩,by simp;omega⟩
    .have e2:k=b.wait.length:=by omega
     subst e2;have qe:=aI qR (aI @zaf @List.take_length.{0});repeat' first|refine gC ?_ ?_<;>intro hc<;>try contradiction|refine gG ?_|show AK _;intro K H|refine H _ _ ?_;clear H K|refine gJ ?_;try exact trivial|omega
     exact .refl _
theorem ycP {q:Req} (h:zvC q=0):zdC q=0:=by
 have a:=fE0 h;have h1:zaH q.name=0:=a _ (by simp)
 have h2:zmC q.term=0:=a _ (by simp)
 have h3:zcE q.kind=0:=a _ (by simp)
 have h4:zau q.per=0:=a _ (by simp)
 have h5:rng q.minute 0 1439=0:=a _ (by simp)
 have h6:=zdm.1 (a (rng q.seats 0 999) (by simp))
 have h7:=zdm.1 (a (rng q.size 1 9) (by simp))
 have h8:=zdm.1 (a (rng q.noise 0 99) (by simp))
 rw [zdC,za4 h1,za4 h3,za4 h2,za4 h4,za4 h5,zfk];exact ycz (by omega)
theorem yaG {q:Req} (h:zsa q=0):zdC q=0:=ycP (fE0 h _ (by simp))
open Go.RowKit Go.ChangeShapes Go.WideShapes Go.ChangeAt
abbrev jT:CP:=.i .i64
theorem own:ownKnob Tryz.prog.godebug=none:=by kernel_rfl
theorem laid:laidOutB Tryz.prog=true:=by kernel_rfl
theorem und4:Tryz.prog.underlying 4=some .bool:=by kernel_rfl
abbrev zs:Value:=.string ⟨#[]⟩
theorem ycE {P:Program} {f:FuncId} {fn:Func} {s:ChangeSpec} {c:OpenClaim} (a1:c.wf (OpenSpec.ofChange s)=true) (a2:laidOutB P=true) (a3:mapsRowed P=true)
  (a4:(fn.params.all (P.readableRec ·) && namedTie P c.named s.vars && (c.stops == []) && (P.stops == []) && (c.knobs == []) && (P.stopKnobs == []))=true)
  (b1:(c.inPlace == P.inPlace f)=true) (b2:(c.unfollowed == P.unfollowed f)=true) (b3:(c.recurses == P.recurses f)=true) (b4:(c.named == P.varsNamed f)=true)
  (d1:((c.maps == (fn.params.toList++s.plain.varTypes P).any (P.mapsRec ·)) && (c.ifaces == (fn.params.toList++s.plain.varTypes P).any (P.ifacesRec ·)) && (c.mapsOut == P.mapsAmong fn.resultTypes.toList) &&
 (c.loops == (fn.params.toList++s.plain.varTypes P).any (P.loopsFrom ·)) && (c.wideKeys == (fn.params.toList++s.plain.varTypes P++fn.resultTypes.toList).any (P.wideKeysFrom ·)))=true)
  (d2:(s.vars.all (P.varReadable ·) && fn.resultTypes.all (λt=>P.readableRec t && decide (t < P.types.size)) && (c.ifacesOut == fn.resultTypes.toList.any (P.ifacesRec ·)) && (c.loopsOut == fn.resultTypes.toList.any (P.loopsFrom ·)))=true)
  (d3:((c.plainKeys == P.plainKeys) && c.shortTexts.isNone && P.stopsHeard && P.mayEnter && (c.lifted == P.liftsFinal) && (P.make == some c.make))=true)
  (d4:((c.kinds == (if c.domain.isEmpty then [] else fn.params.toList.map λt=>match P.underlying t with|some (.int k)=>some k|_=>none)) && (c.pinned == c.pinnedBy))=true)
  (d5:((c.veiled == (fn.params.toList++s.plain.varTypes P++fn.resultTypes.toList).any (P.veiledRec ·)) && c.veiledFits P fn.params.toList (fn.params.toList++s.plain.varTypes P++fn.resultTypes.toList))=true):joinedFacts P f fn s c=true:=by
 unfold joinedFacts;simp only [Bool.and_eq_true] at a4 d1 d2 d3 d4 d5 ⊢;obtain ⟨⟨⟨⟨⟨a4,a5⟩,a6⟩,a7⟩,a8⟩,a9⟩:=a4;obtain ⟨⟨⟨⟨e1,e2⟩,e3⟩,e4⟩,e5⟩:=d1;obtain ⟨⟨⟨e6,e7⟩,e8⟩,e9⟩:=d2;obtain ⟨⟨⟨⟨⟨f1,f2⟩,f3⟩,f4⟩,f5⟩,f6⟩:=d3;obtain ⟨f7,f8⟩:=d4;obtain ⟨f9,g1⟩:=d5;exact ⟨⟨⟨⟨⟨⟨⟨⟨⟨⟨⟨⟨⟨⟨⟨⟨⟨⟨⟨⟨⟨⟨⟨⟨⟨⟨⟨⟨⟨⟨⟨a1,a2⟩,a3⟩,a4⟩,a5⟩,a6⟩,a7⟩,a8⟩,a9⟩,b1⟩,b2⟩,b3⟩,b4⟩,e1⟩,e2⟩,e3⟩,e4⟩,e5⟩,e6⟩,e7⟩,e8⟩,e9⟩,f1⟩,f2⟩,f3⟩,f4⟩,f5⟩,f6⟩,f7⟩,f8⟩,f9⟩,g1⟩
theorem rowed:mapsRowed Tryz.prog=true:=by kernel_rfl
open Go.RowKit
theorem ybd (p:Per):(zW p).Pairwise λa b=>a < b:=by
 unfold zW;generalize (p.to - p.fro+1).toNat=n
 induction n with
 | zero=>simp
 | succ n ih=>
  rw [List.range_succ,List.flatMap_append,List.pairwise_append];refine ⟨ih,?_,?_⟩
  .simp only [List.flatMap_cons,List.flatMap_nil,List.append_nil];split<;>simp
  .intro a ha b hb
   obtain ⟨k,hk,ha⟩:=List.mem_flatMap.1 ha;have hk:=List.mem_range.1 hk;simp only [List.flatMap_cons,List.flatMap_nil,List.append_nil] at hb
   split at ha
   .split at hb
    .simp at ha hb;omega
    .cases hb
   .cases ha
theorem ydD {r:Req} {o:Mov} (h:o ∈ zro r):∃ d,d ∈ zW r.per/\o=zeh r d:=by
 obtain ⟨d,hd,rfl⟩:=List.mem_map.1 h;exact ⟨d,hd,rfl⟩
theorem ya4 {r:Req} (h:zdC r=0) {d:Int} (hd:d ∈ zW r.per):zed (zeh r d)=0:=by
 have hp:=zaY (zeC h).1;have hm:=zeC h;have hdm:=zie hd;unfold zdC at h;unfold zed;simp only [zp,zdm] at h ⊢;simp only [zeh];refine ⟨by omega,?_⟩
 simp only [h,true_and,and_true]
theorem ydw (L:List Lim) (hn:L.length*112<=140737488355328):Pure Tryz.prog 14 [.sl 11 (L.map Lim.pv)] (.sl 11 (L.map Lim.pv)):=by
 refine zf (cF Tryz.func14 Tryz.f14.eq_1) (by simp) λhw X hX=>?_
 repeat' first|refine gC ?_ ?_<;>intro hc<;>try contradiction|refine gG ?_|show AK _;intro K H|refine H _ _ ?_;clear H K|refine gJ ?_;try exact trivial|omega
 refine zaP 100 107 11 [(3,.row 100 0),(6,.p (.sl 11 (L.map Lim.pv))),(7,.p (.i .i64 L.length)),(8,.p (.i .i64 0))] [] ?_ ?_
 .simp only [Own,zaM,zaB,zbt,zay,qS,seval]
 refine zj (κ:=Nat) (λk=>⟨[(3,.row 100 (L.take k).length),(6,.p (.sl 11 (L.map Lim.pv))),(7,.p (.i .i64 L.length)),(8,.p (.i .i64 k))],[(100,.row 107 11 ((L.take k).map Lim.pv) false)],[],false⟩) (λk=>k<=L.length) (λk=>L.length - k) 0 ?_ ?_ ?_
 .exact sS
 .simp
 .intro k hk
  repeat first|refine gG ?_|show AK _;intro K H|refine H _ _ ?_;clear H K|refine gJ ?_;try exact trivial|omega
  (refine gC ?_ ?_<;>intro hc<;>try contradiction)
  .obtain ⟨w,hx⟩:=zm (i:=k) (l:=L) (by omega)
   have hlt:=zgr hx;have qe:=aI qR @hx;repeat' first|refine gC ?_ ?_<;>intro hc<;>try contradiction|refine gG ?_|show AK _;intro K H|refine H _ _ ?_;clear H K|refine gJ ?_;try exact trivial|omega
   exact ⟨k+1,by omega,by omega,⟨by rw [List.take_add_one,hx,List.length_append];rfl,by simp⟩,by rw [zdh Lim.pv hx]⟩
  .repeat' first|refine gC ?_ ?_<;>intro hc<;>try contradiction|refine gG ?_|show AK _;intro K H|refine H _ _ ?_;clear H K|refine gJ ?_;try exact trivial|omega
   have e:k=L.length:=by omega
   subst e;rw [List.take_length];exact .refl _
theorem allLi (l:List Lim):l.all ((λx=>x.cells.all PV.one) ∘ Lim.pv)=true:=by rw [List.all_eq_true];intro x _;rfl
theorem ydx (L:List Lim) (hn:L.length*112<=140737488355328):Pure Tryz.prog 10 [.sl 11 (L.map Lim.pv)] (.sl 11 (L.map Lim.pv)):=by
 refine zf (cF Tryz.func10 Tryz.f10.eq_1) (by simp) λhw X hX=>?_
 have qe:=aI qR (aI @allLi @zaf);repeat' first|refine gC ?_ ?_<;>intro hc<;>try contradiction|refine gG ?_|show AK _;intro K H|refine H _ _ ?_;clear H K|refine gJ ?_;try exact trivial|omega
 all_goals exact .refl _
structure Exc where
 slots:List ByteArray
 carrier:ByteArray
 slot:ByteArray
 to:ByteArray
 lease:Lea
 day:Int
abbrev Exc.pv (x:Exc):PV:=.agg [.sl 1 (x.slots.map .s),.s x.carrier,.s x.slot,.s x.to,.s x.lease.carrier,.i .i64 x.lease.fro,.i .i64 x.lease.to,.i .i64 x.day]
def ydA (s:ByteArray):Bool:=!decide ((40:Int) < s.size)
