/- Contracts. No conditions. -/
import Derived.ProofKit
import Derived.OpenShut
import Derived.Carry
import Derived.OpenVars
import Derived.HandedShaped
import Derived.KernelRfl
import Derived.Laws.RangeAny
import Derived.Test.YtbgckikhhcbmpaaGreatRows
import Derived.Test.YtbgckikhhcbmpaaGreatK15
set_option linter.all false
set_option maxHeartbeats 8000000
set_option maxRecDepth 100000
namespace Go.Proofs.YtbgckikhhcbmpaaGreat
open Go.ChangeShapes Go.WideShapes Go.ChangeAt Go.RowKit Go.Proofs.Tryz
variable {k s:ByteArray} {G:Cfg} {a b e m x:Int} {cs:List CP} {r:List Int} {ls:List Lim} {ps:List MemPlace} {out:List Mov} {l:List PV} {L:List Wis} {y:Mov} {K c i j n q:Nat} {p:PV} {t:TypeId} {v:Value} {w:Wis}
def yDF:=aI @decide_true @decide_false
def yDT:=aI @decide_true (aI @decide_false @Bool.not_true)
def yd (P:Program) (t:TypeId):Bool:=match P.underlying t with|some (.struct _)|some (.array _ _)=>true|_=>false
def ye (P:Program) (F:TypeId->Option (List CP)):List (TypeId × Nat)->Nat->Option (List CP)
 | [],_=>some []
 | p::r,off=>if p.2=off then (F p.1).bind λc=>if P.cellsOf p.1=c.length then (ye P F r (off+c.length)).map (c++·) else none else none
def yM (P:Program):Nat->Nat->TypeId->Option (List CP)
 | 0,_,_=>none
 | n+1,sl,t=>match P.underlying t with
  | some .bool=>some [.b]
  | some (.int k)=>some [.i k]
  | some .string=>some [.s]
  | some (.slice e)=>match sl with
   | 0=>none
   | sl+1=>(yM P n sl e).bind λc=>if P.cellsOf e=c.length/\(yd P e=true\/c.length=1)/\0 < c.length then some [.sl (yd P e) c] else none
  | some (.struct fs)=>(ye P (yM P n sl) (fs.toList.map λf=>(f.type,f.offset)) 0).bind λc=>if c.length=P.cellsOf t then some c else none
  | some (.array m e)=>(ye P (yM P n sl) ((List.range m).map λi=>(e,i*P.cellsOf e)) 0).bind λc=>if c.length=P.cellsOf t then some c else none
  | _=>none
def yak (ag:Bool) (l:List PV):PV:=if ag then .agg l else l.headD .any
def Fit:Nat->CP->PV->Prop
 | _,.b,p=>∃ x,p=.b x
 | _,.i k,p=>∃ n,p=.i k n
 | _,.s,p=>∃ x,p=.s x
 | 0,.sl _ _,_=>False
 | n+1,.sl ag cs,p=>∃ xs,p=.sl cs.length xs/\∀ x ∈ xs,∃ l,x=yak ag l/\FitAll (Fit n) cs l
theorem yi {α β:Type} {f:α->Option β}:∀ {l:List α} {r:List β},l.mapM f=some r->∀ x ∈ l,∃ y,f x=some y
 | [],_,_,x,hx=>by cases hx
 | a::l,r,h,x,hx=>by
  rw [xch] at h;cases ha:f a with
  | none=>rw [ha] at h;cases h
  | some y=>
   rw [ha] at h;simp only [xcr,xbN] at h;cases hl:l.mapM f with
   | none=>rw [hl] at h;cases h
   | some ys=>
    rcases xaI.1 hx with rfl|hx
    .exact ⟨y,ha⟩
    .exact yi hl x hx
theorem ya {α β:Type} {f:α->Option β}:∀ {l:List α} {r:List β},l.mapM f=some r->r.length=l.length
 | [],r,h=>by simp at h;subst h;rfl
 | a::l,r,h=>by
  rw [xch] at h;cases ha:f a with
  | none=>rw [ha] at h;cases h
  | some y=>
   rw [ha] at h;simp only [xcr,xbN] at h;cases hl:l.mapM f with
   | none=>rw [hl] at h;cases h
   | some ys=>
    rw [hl] at h;simp only [xbN,Option.pure_def,xaK] at h;subst h;simp [ya hl]
theorem yZ {α β:Type} {f:α->Option β}:∀ {l:List α} {r:List β},l.mapM f=some r->∀ {i:Nat} {x:α},l[i]?=some x->f x=r[i]?
 | [],r,_,i,x,hx=>by simp at hx
 | a::l,r,h,i,x,hx=>by
  rw [xch] at h;cases ha:f a with
  | none=>rw [ha] at h;cases h
  | some y=>
   rw [ha] at h;simp only [xcr,xbN] at h;cases hl:l.mapM f with
   | none=>rw [hl] at h;cases h
   | some ys=>
    rw [hl] at h;simp only [xbN,Option.pure_def,xaK] at h;subst h;cases i with
    | zero=>simp at hx;subst hx;simpa using ha
    | succ i=>simpa using yZ hl (i:=i) (by simpa using hx)
def ycL {k:IntKind} {n:Int} (h:(Lit.int k n).wf=true):k.wrap n=n:=by
 cases k<;>simp [Lit.wf,IntKind.wrap,IntKind.min,IntKind.max,IntKind.signed,IntKind.bits] at *<;>omega
section
variable {H:Type} {enc:TypeId × Value->H} {P:Program} {w:World} {base:Nat} {sp:Nat->Bool} {held:Bool}
def ybA {a:Addr} (h:w.cell? a=some v):a.block < w.heap.size/\a.spot=none:=by
 unfold World.cell? at h
 split at h
 .rename_i hh
  split at h
  .cases h
  .rename_i hs;exact ⟨(xaR.1 hh).1,by simpa using hs⟩
 .cases h
theorem yq {fuel n:Nat} {sl:Nat} {B:Nat->Prop} {cs:List Value}
  (ih:∀ {t:TypeId} {ds:List Value} {x:DataW H × List MemPlace} {c:List CP},(∀ v ∈ ds,v ∈ cs)->DataW.trod enc P w base sp held fuel t ds=some x->yM P n sl t=some c->∃ ps,Reps w B ds ps/\FitAll (Fit n) c ps) :
  ∀ (fl:List (TypeId × Nat)) (off:Nat) (c:List CP),(∀ p ∈ fl,∃ x,DataW.trod enc P w base sp held fuel p.1 ((cs.drop p.2).take (P.cellsOf p.1))=some x)->ye P (yM P n sl) fl off=some c->off+c.length<=cs.length ->
   ∃ ps,Reps w B ((cs.drop off).take c.length) ps/\FitAll (Fit n) c ps
 | [],off,c,_,h,_=>by
  simp only [ye,xaK] at h;subst h;exact ⟨[],by simpa using Reps.nil,trivial⟩
 | p::r,off,c,hx,h,hl=>by
  simp only [ye] at h
  split at h
  .rename_i ho;obtain ⟨c1,h1,h⟩:=xao.1 h
   split at h
   .rename_i hc;obtain ⟨c2,h2,rfl⟩:=xab.1 h;obtain ⟨x,hx1⟩:=hx p (by simp)
    rw [ho,hc] at hx1;obtain ⟨p1,r1,f1⟩:=ih (λv hv=>List.mem_of_mem_drop (xbu hv)) hx1 h1
    obtain ⟨p2,r2,f2⟩:=yq ih r (off+c1.length) c2 (λq hq=>hx q (by simp [hq])) h2 (by simp at hl;omega)
    refine ⟨p1++p2,?_,f1.app f2⟩;have e:(cs.drop off).take (c1++c2).length=(cs.drop off).take c1.length++(cs.drop (off+c1.length)).take c2.length:=by
     rw [xad,List.take_add,xbP]
    rw [e];exact r1.append r2
   .cases h
  .cases h
theorem yr {B:Nat->Prop} (hB:∀ b,b < w.heap.size->B b):∀ (n fuel:Nat) (sl:Nat) {t:TypeId} {cs:List Value} {x:DataW H × List MemPlace} {c:List CP},
  DataW.trod enc P w base sp held fuel t cs=some x->yM P n sl t=some c->∃ ps,Reps w B cs ps/\FitAll (Fit n) c ps
 | 0,_,_,_,_,_,_,_,h=>by simp [yM] at h
 | _+1,0,_,_,_,_,_,h,_=>by simp [DataW.trod] at h
 | n+1,fuel+1,sl,t,cs,x,c,h,hc=>by
  have mono:∀ {c:List CP} {ps:List PV},FitAll (Fit n) c ps->FitAll (Fit (n+1)) c ps:=by
   have one:∀ (m:Nat) (c:CP) (p:PV),Fit m c p->Fit (m+1) c p:=by
    intro m
    induction m with
    | zero=>intro c p h;cases c<;>first|exact h|exact h.elim
    | succ m ihm=>
     intro c p h
     cases c with
     | b=>exact h
     | i k=>exact h
     | s=>exact h
     | sl ag cs=>
      obtain ⟨xs,h1,h2⟩:=h
      refine ⟨xs,h1,λx hx=>?_⟩
      obtain ⟨l,h3,h4⟩:=h2 x hx
      refine ⟨l,h3,?_⟩
      have:∀ (a:List CP) (b:List PV),FitAll (Fit m) a b->FitAll (Fit (m+1)) a b:=by
       intro a
       induction a with
       | nil=>intro b hb;cases b<;>exact hb
       | cons y r ihr=>
        intro b hb
        cases b with
        | nil=>exact hb
        | cons z q=>exact ⟨ihm _ _ hb.1,ihr _ hb.2⟩
      exact this _ _ h4
   intro c
   induction c with
   | nil=>intro ps h;cases ps<;>exact h
   | cons y r ihr=>
    intro ps h
    cases ps with
    | nil=>exact h
    | cons z q=>exact ⟨one _ _ _ h.1,ihr h.2⟩
  unfold DataW.trod at h
  unfold yM at hc
  cases hu:P.underlying t with
  | none=>rw [hu] at hc;cases hc
  | some d=>
   rw [hu] at h hc
   match d,h,hc with
   | .bool,h,hc=>
    simp only [xaK] at hc;subst hc
    match cs,h with
    | [.bool b],h=>exact ⟨[.b b],Reps.cons (.b b) Reps.nil,⟨b,rfl⟩,trivial⟩
   | .int k,h,hc=>
    simp only [xaK] at hc;subst hc
    match cs,h with
    | [.int k' m],h=>
     simp only at h
     split at h
     .rename_i hk
      obtain ⟨rfl,hw⟩:=hk
      exact ⟨[.i k' m],Reps.cons (.i (ycL hw)) Reps.nil,⟨m,rfl⟩,trivial⟩
     .cases h
   | .string,h,hc=>
    simp only [xaK] at hc;subst hc
    match cs,h with
    | [.string z],h=>
     simp only at h
     split at h
     .rename_i hk
      exact ⟨[.s z],Reps.cons (.s hk) Reps.nil,⟨z,rfl⟩,trivial⟩
     .cases h
   | .slice e,h,hc=>
    simp only at hc
    cases sl with
    | zero=>cases hc
    | succ sl=>
     obtain ⟨ce,h1,hc⟩:=xao.1 hc
     split at hc
     .rename_i hce
      simp only [xaK] at hc;subst hc
      match cs,h with
      | [.slice none 0 0],h=>exact ⟨[.sl ce.length []],Reps.cons .sl0 Reps.nil,⟨[],rfl,λx hx=>by cases hx⟩,trivial⟩
      | [.slice (some a) len cap],h=>
       simp only at h
       split at h
       .rename_i hb
        obtain ⟨els,h2,_⟩:=xao.1 h
        by_cases hl0:len=0
        .subst hl0
         exact ⟨[.sl ce.length []],Reps.cons (.sle hb.2.2) Reps.nil,⟨[],rfl,λx hx=>by cases hx⟩,trivial⟩
        have hBa:B a.block/\a.spot=none:=by
         obtain ⟨y,hy⟩:=yi h2 0 (xaG.2 (by omega))
         obtain ⟨us,h3,h4⟩:=xao.1 hy
         unfold World.cells? at h3
         split at h3
         .have h5:=yZ h3 (i:=0) (x:=0) (List.getElem?_range (by rw [hce.1];exact hce.2.2))
          have h6:us.length=P.cellsOf e:=by simpa using ya h3
          have h7:0 < us.length:=by rw [h6,hce.1];exact hce.2.2
          rw [xac h7] at h5
          have e0:∀ z:Addr,z.add 0=z:=λz=>by unfold Addr.add;simp
          rw [Nat.zero_mul,e0,e0] at h5
          obtain ⟨k1,k2⟩:=ybA h5
          exact ⟨hB _ k1,k2⟩
         .cases h3
        have key:∀ i,i < len->∃ (us:List Value) (ps:List PV),(∀ j v,us[j]?=some v->w.cell? (a.add (i*ce.length+j))=some v)/\Reps w B us ps/\FitAll (Fit n) ce ps:=λi hi=>by
         obtain ⟨y,hy⟩:=yi h2 i (xaG.2 hi)
         obtain ⟨us,h3,h4⟩:=xao.1 hy
         obtain ⟨ps,h5,h6⟩:=yr (B:=B) hB n fuel sl h4 h1
         refine ⟨us,ps,λj v hv=>?_,h5,h6⟩
         unfold World.cells? at h3
         split at h3
         .have hlen:j < P.cellsOf e:=by
           have e1:us.length=P.cellsOf e:=by
            have:=ya h3
            simpa using this
           rw [<-e1];exact (xaa.1 hv).1
          have:=yZ h3 (List.getElem?_range hlen)
          rw [hv] at this
          rw [hce.1] at this
          rw [<-Addr.add_add];exact this
         .cases h3
        classical
        let U:Nat->List Value:=λi=>if hi:i < len then (key i hi).choose else []
        let PS:Nat->List PV:=λi=>if hi:i < len then (key i hi).choose_spec.choose else []
        have hU:∀ i,i < len->(∀ j v,(U i)[j]?=some v->w.cell? (a.add (i*ce.length+j))=some v)/\Reps w B (U i) (PS i)/\FitAll (Fit n) ce (PS i):=λi hi=>by
         have:=(key i hi).choose_spec.choose_spec
         simp only [U,PS,dif_pos hi];exact this
        have hcells:∀ i,i < len->(yak (yd P e) (PS i)).cells=PS i:=λi hi=>by
         unfold yak
         split
         .rfl
         .rename_i hag
          have hl:=(hU i hi).2.2
          have h1l:ce.length=1:=hce.2.1.resolve_left hag
          obtain ⟨q,rfl⟩:∃ q,ce=[q]:=List.length_eq_one_iff.1 h1l
          match hPS:PS i,hl with
          | [z],hl=>
           have hz:=hl.1
           simp only [List.headD_cons]
           cases q with
           | b=>cases n<;>(obtain ⟨_,rfl⟩:=hz;rfl)
           | i k=>cases n<;>(obtain ⟨_,rfl⟩:=hz;rfl)
           | s=>cases n<;>(obtain ⟨_,rfl⟩:=hz;rfl)
           | sl ag cs=>
            cases n with
            | zero=>exact hz.elim
            | succ n=>obtain ⟨_,rfl,_⟩:=hz;rfl
        refine ⟨[.sl ce.length ((List.range len).map λi=>yak (yd P e) (PS i))],Reps.cons (.sl (λi j=>(U i)[j]?.getD undef) hBa.1 hBa.2 (by simp) hb.2.1 hb.2.2 ?_ ?_ ?_) Reps.nil,⟨_,rfl,λx hx=>?_⟩,trivial⟩
        .intro i x hx
         simp only [xal,xab] at hx
         obtain ⟨i',hi',rfl⟩:=hx
         obtain ⟨hi,rfl⟩:=xaa.1 hi'
         simp only [xaU,xct] at hi ⊢
         rw [hcells i hi,(hU i hi).2.2.len]
        .intro i x j p hx hp
         simp only [xal,xab] at hx
         obtain ⟨i',hi',rfl⟩:=hx
         obtain ⟨hi,rfl⟩:=xaa.1 hi'
         simp only [xaU,xct] at hi hp ⊢
         rw [hcells i hi] at hp
         obtain ⟨v,hv,_⟩:=(hU i hi).2.1.get hp
         rw [hv];exact (hU i hi).1 j v hv
        .intro i x j p hx hp
         simp only [xal,xab] at hx
         obtain ⟨i',hi',rfl⟩:=hx
         obtain ⟨hi,rfl⟩:=xaa.1 hi'
         simp only [xaU,xct] at hi hp ⊢
         rw [hcells i hi] at hp
         obtain ⟨v,hv,hr⟩:=(hU i hi).2.1.get hp
         rw [hv];exact hr
        .obtain ⟨i,hi,rfl⟩:=xaN.1 hx
         exact ⟨_,rfl,(hU i (xaG.1 hi)).2.2⟩
       .cases h
     .cases hc
   | .struct fs,h,hc=>
    simp only at h hc
    obtain ⟨c',h1,hc⟩:=xao.1 hc
    split at hc
    .rename_i hl
     simp only [xaK] at hc;subst hc
     split at h
     .rename_i hcs
      obtain ⟨xs,h2,_⟩:=xab.1 h
      obtain ⟨ps,h3,h4⟩:=yq (B:=B) (cs:=cs) (n:=n) (sl:=sl) (λhsub hx hc=>yr hB n fuel sl hx hc) (fs.toList.map λf=>(f.type,f.offset)) 0 c' (λp hp=>by
       obtain ⟨f,hf,rfl⟩:=xaN.1 hp
       exact yi h2 f hf) h1 (by omega)
      rw [xbw,hl,<-hcs,xah] at h3
      exact ⟨ps,h3,mono h4⟩
     .cases h
    .cases hc
   | .array m e,h,hc=>
    simp only at h hc
    obtain ⟨c',h1,hc⟩:=xao.1 hc
    split at hc
    .rename_i hl
     simp only [xaK] at hc;subst hc
     split at h
     .rename_i hcs
      obtain ⟨xs,h2,_⟩:=xab.1 h
      obtain ⟨ps,h3,h4⟩:=yq (B:=B) (cs:=cs) (n:=n) (sl:=sl) (λhsub hx hc=>yr hB n fuel sl hx hc) ((List.range m).map λi=>(e,i*P.cellsOf e)) 0 c' (λp hp=>by
       obtain ⟨i,hi,rfl⟩:=xaN.1 hp
       exact yi h2 i hi) h1 (by omega)
      rw [xbw,hl,<-hcs,xah] at h3
      exact ⟨ps,h3,mono h4⟩
     .cases h
    .cases hc
end
open Go.ChangeShapes Go.WideShapes Go.ChangeAt Go.RowKit Go.Proofs.Tryz
def ycv (P:Program) (n:Nat) (t:TypeId):Option (Bool × List CP):=(yM P n 2 t).bind λc=>if yd P t=true\/c.length=1 then some (yd P t,c) else none
def yL (P:Program) (n:Nat) (t:TypeId) (p:PV):Prop:=
 (∃ ag c l,ycv P n t=some (ag,c)/\p=yak ag l/\FitAll (Fit n) c l)/\(∀ e sz xs,P.underlying t=some (.slice e)->p=.sl sz xs->xs.length*P.bytesOf e<=reachBytes)/\(∀ fs f e l sz xs,P.underlying t=some (.struct fs)->f ∈ fs.toList->P.underlying f.type=some (.slice e)->p=.agg l->l[f.offset]?=some (.sl sz xs)->xs.length*P.bytesOf e<=reachBytes)
def yaz (P:Program) (n:Nat):List TypeId->List PV->Prop
 | [],[]=>True
 | t::ts,p::ps=>yL P n t p/\yaz P n ts ps
 | _,_=>False
section
variable {H:Type} {enc:TypeId × Value->H} {P:Program} {W:World}
theorem ycp:∀ {ts:List TypeId} {ds:List (DataW H)} {j:Nat} {t:TypeId} {d:DataW H},ts[j]?=some t->ds[j]?=some d->n ∈ d.weights P t->n ∈ DataW.weightsEach P ts ds
 | [],_,j,_,_,h,_,_=>by simp at h
 | _::_,[],j,_,_,_,h,_=>by simp at h
 | t::ts,d::ds,0,_,_,h,k,hn=>by
  simp at h k;subst h;subst k;simp only [DataW.weightsEach,xaS];exact .inl hn
 | t::ts,d::ds,j+1,_,_,h,k,hn=>by
  simp only [DataW.weightsEach,xaS];exact .inr (ycp (j:=j) (by simpa using h) (by simpa using k) hn)
def fld_b {fuel:Nat} {cs:List Value} {d:DataW H} (h:DataW.trod enc P W 0 (λ_=>true) true fuel t cs=some (d,ps)) (hz:(d.weights P t).all (·<=reachBytes)=true) {fs} (hu:P.underlying t=some (.struct fs)) {f} (hf:f ∈ fs.toList) {e:TypeId} (he:P.underlying f.type=some (.slice e)) {a:Option Addr} {len cap:Nat} (hv:cs[f.offset]?=some (.slice a len cap)):len*P.bytesOf e<=reachBytes:=by
 cases fuel with
 | zero=>simp [DataW.trod] at h
 | succ fuel=>
  unfold DataW.trod at h;rw [hu] at h;simp only at h
  split at h
  .obtain ⟨xs,e1,h⟩:=xab.1 h;injection h with hd _;subst hd;obtain ⟨j,hj⟩:=xa9 hf;have hx:=yZ e1 hj;have hjl:j < xs.length:=by rw [ya e1];exact (xaa.1 hj).1
   obtain ⟨y,hy⟩:∃ y,xs[j]?=some y:=⟨_,xac hjl⟩;rw [hy] at hx;have hm:∀ n,n ∈ y.1.weights P f.type->n<=reachBytes:=λn hn=>by
    have:=xaO.1 hz n (by
     simp only [DataW.weights,hu];exact ycp (j:=j) (t:=f.type) (d:=y.1) (by rw [xal,hj];rfl) (by rw [xal,hy];rfl) hn)
    simpa using this
   have hc:∀ v,((cs.drop f.offset).take (P.cellsOf f.type))=[v]->v=.slice a len cap:=λv hv1=>by
    have h0:((cs.drop f.offset).take (P.cellsOf f.type))[0]?=some v:=by rw [hv1];rfl
    rw [xaQ] at h0
    split at h0
    .rw [xaY,xbt,hv] at h0;injection h0 with h0;exact h0.symm
    .cases h0
   generalize (cs.drop f.offset).take (P.cellsOf f.type)=c' at hx hc;cases fuel with
   | zero=>simp [DataW.trod] at hx
   | succ fuel=>
    unfold DataW.trod at hx;rw [he] at hx
    match c',hx,hc with
    | [.slice none 0 0],hx,hc=>
     have:=hc _ rfl;injection this with _ h2 _;rw [<-h2];simp
    | [.slice (some b) m k],hx,hc=>
     have:=hc _ rfl;injection this with _ h2 _;simp only at hx
     split at hx
     .obtain ⟨els,g1,hx⟩:=xao.1 hx;obtain ⟨rest,g2,hx⟩:=xab.1 hx;have hle:els.length=m:=by simpa using ya g1
      have:=hm ((els.length+rest.length)*P.bytesOf e) (by rw [<-hx];simp [DataW.weights,he])
      rw [<-h2,<-hle];exact xa0 (xba _ (Nat.le_add_right _ _)) this
     .cases hx
  .cases h
def yc1 {base:Nat} {d:DataW H} (hval:Value.okWide P W .any base t v) (h:DataW.Trod enc P W 0 (λ_=>true) true t v d ps) {q:Bool × List CP} (hq:ycv P n t=some q)
  (hz:(d.weights P t).all (·<=reachBytes)=true):∃ p,Rep W (λb=>b < W.heap.size) v p/\yL P n t p:=by
 obtain ⟨fuel,h⟩:=h
 have hq0:=hq
 unfold ycv at hq
 obtain ⟨c,hc,hq⟩:=xao.1 hq
 split at hq
 .rename_i hl
  simp only [xaK] at hq
  subst hq
  unfold yd at hl hq0
  have key:∀ {cs:List Value},DataW.trod enc P W 0 (λ_=>true) true fuel t cs=some (d,ps)->(∀ v ∈ cs,∃ u,Cell.okWide P W .any base u v)->∃ l,Reps W (λb=>b < W.heap.size) cs l/\FitAll (Fit n) c l:=λht hc1=>
   yr (λ_ h=>h) n fuel 2 ht hc
  have other:yd P t=false->(∃ u,Cell.okWide P W .any base u v)->v.cells.toList=[v]->∃ p,Rep W (λb=>b < W.heap.size) v p/\yL P n t p:=λhag hok hcv=>by
   rw [hcv] at h
   obtain ⟨l,h1,h2⟩:=key h (λv' hv=>by simp at hv;subst hv;exact hok)
   have hlen:=h1.1
   match l,hlen with
   | [p],_=>
    have hr:=h1.2 0 v p rfl rfl
    refine ⟨p,hr,⟨false,c,[p],?_,rfl,h2⟩,λe sz xs hu he=>?_,λfs f e l sz xs hu=>?_⟩
    .rw [hq0]
     have:yd P t=false:=hag
     unfold yd at this
     rw [this]
    .subst he
     cases hr with
     | sl0=>simp
     | sle=>simp
     | sl u h3 h4 h5 h6 h7 h8 h9 h10=>
      rename_i a len cap hh
      cases fuel with
      | zero=>simp [DataW.trod] at h
      | succ fuel=>
       unfold DataW.trod at h
       rw [hu] at h
       simp only at h
       split at h
       .obtain ⟨els,e1,h⟩:=xao.1 h
        obtain ⟨rest,e2,h⟩:=xab.1 h
        injection h with hd _
        subst hd
        have:=xaO.1 hz ((els.length+rest.length)*P.bytesOf e) (by simp [DataW.weights,hu])
        simp only [decide_eq_true_eq] at this
        have hle:els.length=len:=by simpa using ya e1
        rw [h5,<-hle]
        exact xa0 (xba _ (Nat.le_add_right _ _)) this
       .cases h
    .exfalso
     unfold yd at hag
     rw [hu] at hag
     cases hag
  unfold Value.okWide at hval
  cases hu:P.underlying t with
  | none=>unfold yM at hc;cases n<;>simp [hu] at hc
  | some desc=>
   have ag:(∃ fs,desc=.struct fs)\/(∃ k e,desc=.array k e)\/(yd P t=false/\Cell.okWide P W .any base t v):=by
    unfold yd
    rw [hu] at hval ⊢
    cases desc<;>first|exact .inl ⟨_,rfl⟩|exact .inr (.inl ⟨_,_,rfl⟩)|exact .inr (.inr ⟨rfl,hval⟩)
   have agg:yd P t=true->(∃ cs,v=.agg cs/\cs.size=P.cellsOf t/\Row.okWide P W .any base t cs)->∃ p,Rep W (λb=>b < W.heap.size) v p/\yL P n t p:=λhag hcs=>by
    obtain ⟨cs,rfl,_,hrow⟩:=hcs
    obtain ⟨l,h1,h2⟩:=key (cs:=cs.toList) h (λv' hv=>by
     obtain ⟨ts,_,_,hcell⟩:=hrow
     obtain ⟨i,hi⟩:=xa9 hv
     obtain ⟨u,_,hk⟩:=hcell i v' (by simpa using hi)
     exact ⟨u,hk⟩)
    refine ⟨.agg l,.agg (by simpa using h1.1) (λj v' p hv hp=>h1.2 j v' p (by simpa using hv) hp),⟨true,c,l,?_,rfl,h2⟩,λe sz xs hu' he=>(by cases he),λfs f e l' sz xs hu' hf he hl' hx=>?_⟩
    rotate_left
    .injection hl' with hl'
     subst hl'
     obtain ⟨v,hv⟩:∃ v,cs.toList[f.offset]?=some v:=⟨_,xac (by rw [h1.1];exact (xaa.1 hx).1)⟩
     have hr:=h1.2 _ _ _ hv hx
     cases hr with
     | sl0=>simp
     | sle=>simp
     | sl u h3 h4 h5 h6 h7 h8 h9 h10=>rw [h5];exact fld_b h hz hu' hf he hv
    rw [hq0]
    have:yd P t=true:=hag
    unfold yd at this
    rw [this]
   rcases ag with ⟨fs,rfl⟩|⟨k,e,rfl⟩|⟨hag,hok⟩
   .rw [hu] at hval
    exact agg (by unfold yd;rw [hu]) hval
   .rw [hu] at hval
    exact agg (by unfold yd;rw [hu]) hval
   .refine other hag ⟨t,hok⟩ ?_
    have:∀ cs,v≠.agg cs:=λcs e=>by
     subst e
     unfold Cell.okWide at hok
     have h2:Cell.ok P W .any base t (.agg cs):=by
      split at hok
      all_goals first|exact hok|(rename_i hv;cases hv)
     unfold Cell.ok at h2
     split at h2
     all_goals first|exact h2.elim|skip
     all_goals (rename_i hv;first|cases hv|skip)
    cases v<;>first|rfl|exact absurd rfl (this _)
 .cases hq
theorem yaL {base n:Nat}:∀ {ts:List TypeId} {vs:List Value} {ds:List (DataW H)} {ps:List MemPlace},DataW.TrodAll enc P W 0 (λ_=>true) true ts vs ds ps->(∀ (j:Nat) t v,ts[j]?=some t->vs[j]?=some v->Value.okWide P W .any base t v) ->
  (∀ t ∈ ts,∃ q,ycv P n t=some q)->(DataW.weightsEach P ts ds).all (·<=reachBytes)=true->∃ l,Reps W (λb=>b < W.heap.size) vs l/\yaz P n ts l
 | [],vs,ds,ps,h,_,_,_=>by
  obtain ⟨rfl,rfl,rfl⟩:=trodAll_nil h;exact ⟨[],Reps.nil,trivial⟩
 | t::ts,vs,ds,ps,h,hval,hq,hz=>by
  obtain ⟨v,vs1,d,ds1,a,b,rfl,rfl,rfl,h1,h2⟩:=trodAll_cons h;obtain ⟨q,hq1⟩:=hq t (by simp)
  simp only [DataW.weightsEach,List.all_append,xau] at hz;obtain ⟨p,r1,f1⟩:=yc1 (n:=n) (hval 0 t v rfl rfl) h1 hq1 hz.1;obtain ⟨l,r2,f2⟩:=yaL h2 (λj t v ht hv=>hval (j+1) t v (by simpa using ht) (by simpa using hv)) (λt ht=>hq t (by simp [ht])) hz.2
  exact ⟨p::l,Reps.cons r1 r2,f1,f2⟩
theorem yg (hl:laidOutB P=true) {W':World} {sp:Nat->Bool}:∀ {ts:List TypeId} {vs:List Value} {ds:List (DataW H)} {ps:List MemPlace},ts.all (λt=>P.readableRec t && decide (t < P.types.size))=true->DataW.TrodAll enc P W 0 (λ_=>true) true ts vs ds ps ->
  (∀ x ∈ ps,W.sameAt W' x)->(∀ x ∈ ps,sp x.block=true)->DataW.TrodAll enc P W' 0 sp true ts vs ds ps
 | [],vs,ds,ps,_,h,_,_=>by
  obtain ⟨rfl,rfl,rfl⟩:=trodAll_nil h;exact h
 | t::ts,vs,ds,ps,hr,h,hs,hp=>by
  obtain ⟨v,vs1,d,ds1,a,b,rfl,rfl,rfl,h1,h2⟩:=trodAll_cons h;simp only [List.all_cons,xau,decide_eq_true_eq] at hr;exact ⟨a,b,WideElems.Trod_stays hl hr.1.1 hr.1.2 h1 (λx hx=>hs x (by simp [hx])) (λx hx=>hp x (by simp [hx])),yg hl hr.2 h2 (λx hx=>hs x (by simp [hx])) (λx hx=>hp x (by simp [hx])),rfl⟩
def yaY {W':World} (hb:Below W.heap.size W W') (may:MemPlace->Prop):W.keptBut W' may:=by
 refine ⟨hb.os,hb.output,λi hi=>?_⟩
 rw [hb.block i hi];cases hh:W.heap[i]? with
 | none=>rfl
 | some o=>cases o<;>first|exact ⟨rfl,rfl,rfl,λ_ _=>rfl⟩|exact .inr ⟨rfl,rfl⟩|rfl
def yaV {f:Func} {s:ChangeSpec} {apart fresh handsOn again:Bool} {W':World} {args:Array Value} {ds gs:List (DataW H)} {before:List MemPlace} {tb:TypeId} (hl:laidOutB P=true)
  (hrd:f.params.toList.all (λt=>P.readableRec t && decide (t < P.types.size))=true) (hW:DataW.Whole enc P f.params.toList s.vars apart W args.toList ds gs before) (hv:s.vars=[])
  (hs:s.fn H ds={ results:=[.lit (.bool true)],args:=ds }) (hr:f.resultTypes=#[tb]) (htb:P.underlying tb=some .bool) (hb:Below W.heap.size W W'):s.post enc P f apart fresh handsOn again W args (.bool true) W':=by
 have hlt:∀ p ∈ before,p.block < W.heap.size:=hW.lt;have hW0:=hW;obtain ⟨p,q,hA,hV,rfl,hz,hn⟩:=hW;rw [hv] at hV;obtain ⟨rfl,rfl⟩:=trodVars_none hV;simp only [xar] at hz hn hlt hW0;have hres:∀ (b:Nat) (sp:Nat->Bool) (hd:Bool),DataW.TrodAll enc P W' b sp hd f.resultTypes.toList ((Value.bool true).resultList f.resultTypes.size) [.lit (.bool true)] []:=λb sp hd=>by
  rw [hr];exact trodAll_cons_mk (shut_bool htb _) trodAll_mk0
 have hargs:∀ sp:Nat->Bool,(∀ x ∈ p,sp x.block=true)->DataW.TrodAll enc P W' 0 sp true f.params.toList args.toList ds p:=λsp hsp=>yg hl hrd hA (λx hx=>hb.same (hlt x hx)) hsp
 have hvars:∀ sp:Nat->Bool,DataW.TrodVars enc P W' sp s.vars ([]:List (DataW H)) []:=λsp=>by rw [hv];rfl
 refine ⟨ds,[],p,[],p,[],hW0,by rw [xar,hs];exact hres _ _ _,by rw [xar,hs];exact hargs _ (λx hx=>by simpa using hlt x hx),by rw [xar,hs];exact hvars _,World.keptBut_mono (λx hx=>⟨hx,.inr (.inl hx)⟩) (yaY hb (· ∈ p)),λ_=>?_⟩
 refine ⟨λj t r h1 h2=>?_,[.lit (.bool true)]++ds,[],p,⟨[]++p,[],trodAll_append (hargs _ (λ_ _=>rfl)) (hres _ _ _),hvars _,by simp,?_,?_⟩,λx hx _=>hx⟩
 .rw [hr] at h1 h2;cases j with
  | zero=>
   simp [Value.resultList] at h1 h2;subst h1;subst h2;exact okWide_bool_mk htb _
  | succ j=>simp at h1
 .intro b off hp;have:=hz b off hp;unfold World.frozen? at this ⊢;have e:W'.heap[b]?=W.heap[b]?:=hb.block b (hlt _ hp);simp only at this ⊢;rw [e];exact this
 .intro ha;exact hn ha
end
def yag {C:Checked} {f:FuncId} {fn:Func} {s:ChangeSpec} {n:Nat} {tb:TypeId} (hl:laidOutB C.prog=true) (hrd:fn.params.toList.all (λt=>C.prog.readableRec t && decide (t < C.prog.types.size))=true)
  (hv:s.vars=[]) (hs:∀ (H:Type) (ds:List (DataW H)),ds.length=fn.params.size->s.fn H ds={ results:=[.lit (.bool true)],args:=ds }) (hr:fn.resultTypes=#[tb]) (htb:C.prog.underlying tb=some .bool)
  (hq:fn.params.toList.all (λt=>(ycv C.prog n t).isSome)=true) (hp:∀ ps,yaz C.prog n fn.params.toList ps->Pure C.prog f ps (.b true))
  {H:Type} {enc:TypeId × Value->H} {apart fresh handsOn again:Bool} (W:World) (base:Nat) (args:Array Value) (ds gs:List (DataW H)) (before:List MemPlace)
  (hval:∀ (j:Nat) t v,fn.params[j]?=some t->args[j]?=some v->Value.okWide C.prog W .any base t v) (hW:DataW.Whole enc C.prog fn.params.toList s.vars apart W args.toList ds gs before)
  (hz:(DataW.weightsEach C.prog (fn.params.toList++s.plain.varTypes C.prog) (ds++gs)).all (·<=reachBytes)=true) :
  Calls C.prog f args W λe W'=>∃ v,e=.returned v/\s.post enc C.prog fn apart fresh handsOn again W args v W':=by
 have hW0:=hW;obtain ⟨p,q,hA,hV,rfl,_,_⟩:=hW;have hV':=hV;rw [hv] at hV';obtain ⟨rfl,rfl⟩:=trodVars_none hV';have hlen:∀ {ts:List TypeId} {vs:List Value} {ds:List (DataW H)} {ps:List MemPlace},DataW.TrodAll enc C.prog W 0 (λ_=>true) true ts vs ds ps->ds.length=ts.length:=by
  intro ts
  induction ts with
  | nil=>intro vs ds ps h;obtain ⟨rfl,rfl,rfl⟩:=trodAll_nil h;rfl
  | cons t ts ih=>intro vs ds ps h;obtain ⟨v,vs1,d,ds1,a,b,rfl,rfl,rfl,h1,h2⟩:=trodAll_cons h;simp [ih h2]
 have hd:=hlen hA;have hz':(DataW.weightsEach C.prog fn.params.toList ds).all (·<=reachBytes)=true:=by
  rw [xar] at hz;have hsub:∀ (ts us:List TypeId) (ds:List (DataW H)),ds.length=ts.length->DataW.weightsEach C.prog (ts++us) ds=DataW.weightsEach C.prog ts ds:=by
   intro ts us
   induction ts with
   | nil=>intro ds h;match ds,h with|[],_=>cases us<;>simp [DataW.weightsEach]
   | cons t ts ih=>intro ds h;match ds,h with|d::ds,h=>simp only [xaM,DataW.weightsEach];rw [ih ds (by simpa using h)]
  rw [hsub _ _ _ hd] at hz;exact hz
 obtain ⟨l,hrep,hfit⟩:=yaL (n:=n) hA (λj t v ht hv'=>hval j t v (by simpa using ht) (by simpa using hv')) (λt ht=>Option.isSome_iff_exists.1 (xaO.1 hq t ht)) hz'
 have:=(hp l hfit).2 W (λb=>b < W.heap.size) args.toList (λb hb=>hb) hrep
 refine (show Calls C.prog f args W _ from by simpa using this).mono λe W' he=>?_
 obtain ⟨u,rfl,hb,hu⟩:=he;cases hu;exact ⟨_,rfl,yaV hl hrd hW0 hv (hs H ds (by simpa using hd)) hr htb hb⟩
open Go.RowKit Go.Proofs.Tryz
def ybH {κ:Type} (inv:κ->St) (ok:κ->Prop) (μ:κ->Nat) (k:κ) (s:St):Prop:=∃ k',ok k'/\μ k' < μ k/\Pubs s (inv k')
def yca {κ:Type} (inv:κ->St) (ok:κ->Prop) (μ:κ->Nat) (k:κ) (Q:zam):zam
 | .normal,s=>ybH inv ok μ k s
 | e,s=>Q e s
section
variable {κ:Type} (inv:κ->St) (ok:κ->Prop) (μ:κ->Nat) (k:κ) (Q:zam) (s:St)
def lpN:yca inv ok μ k Q .normal s=ybH inv ok μ k s:=rfl
def lpE (i:Nat):yca inv ok μ k Q (.exit i) s=Q (.exit i) s:=rfl
def lpR:yca inv ok μ k Q .ret s=Q .ret s:=rfl
end
def yae {κ:Type} {Q:zam} {s:St} {c:AC} (inv:κ->St) (ok:κ->Prop) (μ:κ->Nat) (k0:κ) (h0:Pubs s (inv k0)) (hk0:ok k0) (hbody:∀ k,ok k->Run G c (inv k) (yca inv ok μ k Q)):Run G (.loop c) s Q:=by
 intro hG code hc C a w hr;obtain ⟨C1,hr⟩:=h0.rel hG.mok hr;cases code<;>simp only [zI,xab] at hc
 case loop c1=>
  obtain ⟨x',h1,hc⟩:=hc;injection hc with e1;subst e1;obtain ⟨m,hm⟩:=zuG λa w n=>∃ k C,ok k/\μ k=n/\RelC G.X C (inv k).get (inv k).look (inv k).tr (inv k).stop a w
  refine wpIn_loop (λa w=>∃ n k C,ok k/\μ k=n/\RelC G.X C (inv k).get (inv k).look (inv k).tr (inv k).stop a w) m ⟨_,k0,C1,hk0,rfl,hr⟩ ?_
  intro a w hI;obtain ⟨⟨k,C,hok,hμ,hr⟩,hmin⟩:=hm a w hI;refine wpIn_mono (hbody k hok hG c1 h1 C a w hr) ?_;rintro e a' w' ⟨s',C',hr',hq⟩;cases e with
  | normal=>
   obtain ⟨k',hok',hlt,hcov⟩:=hq;obtain ⟨C2,hr2⟩:=hcov.rel hG.mok hr';have hex:∃ n,(λa w n=>∃ k C,ok k/\μ k=n/\RelC G.X C (inv k).get (inv k).look (inv k).tr (inv k).stop a w) a' w' n:=⟨_,k',C2,hok',rfl,hr2⟩
   refine ⟨hex,?_⟩;have:=(hm a' w' hex).2 (μ k') ⟨k',C2,hok',rfl,hr2⟩
   omega
  | exit id=>exact ⟨s',C',hr',hq⟩
  | ret=>exact ⟨s',C',hr',hq⟩
  | goto l=>exact hq.elim
  | panic c=>exact hq.elim
  | outgrown=>exact hq.elim
 all_goals first|(cases hc;done)|(obtain ⟨_,_,hc⟩:=hc;cases hc;done)|(split at hc<;>cases hc;done)
section
variable {P:Program} {G:Cfg} {Q:zam} {ts:List (List PV)} {dr:Bool} {K:St->List Ft->Prop} {acc:List Ft} {d:Option Nat} {f:Nat} {args:List AOpd} {af:List Nat} {r:List RO} {s:St} {vs:List LV} {res:LV} {obj obj':List (Nat × LObj)}
end
section
variable (m:Nat->Nat)
end
def yaU {c:AC} {s:St} {Q Q':zam} (hm:∀ e s1,Q e s1->Q' e s1) (h:Run G c s Q):Run G c s Q':=λhG code hc C a w hr=>
 wpIn_mono (h hG code hc C a w hr) λe a1 w1 hq=>by
  obtain ⟨s1,C1,h1,h2⟩:=hq;exact ⟨s1,C1,h1,by cases e<;>first|exact hm _ _ h2|exact h2⟩
def cutQ (s':St):zam
 | .normal,s=>Cov s s'
 | _,_=>False
def ycO {x y:AC} {s:St} {Q:zam} (s':St) (h1:Run G x s (cutQ s')) (h2:Run G y s' Q):Run G x s (seqK G y Q):=
 yaU (λe s1 h=>by
  cases e with
  | normal=>exact ztl s' h h2
  | exit i=>exact h.elim
  | ret=>exact h.elim) h1
instance:Mx prog:=⟨mixed⟩
section
variable {P:Program} {ts:List (List PV)} {dr:Bool} {K:St->List Ft->Prop} {acc:List Ft} {d:Option Nat} {f:Nat} {args:List AOpd} {gd:Option (Nat × Bool)} {af:List Nat} {r:List RO} {s:St} {vs:List PV} {res:PV}
end
def yaZ:zn []=0:=rfl
def yG (x:ByteArray):Pure prog 115 [.s x] (.b (zcs x)):=by
 refine pz func115 f115.eq_1 λhw X hX=>?_
 simp only [wfs,PV.wf,maxLen] at hw;refine gF2 (λhc=>?_) λhc=>?_
 .rw [zlC hc];exact .refl _
 refine zh (κ:=Nat) (λi=>⟨[(0,.p (.s x)),(3,.p (.i .i64 i))],[],[],false⟩) (λi=>i<=x.size/\∀ j < i,zhz j (zpe x j)=true) (λi=>x.size - i) 0 ?_ ?_ ?_
 .exact sR
 .simp
 .intro i hi
  repeat' first|refine gC ?_ ?_<;>intro hc<;>try contradiction|refine gG ?_|show AK _;intro J Z|refine gJ ?_|omega|exact aT
  .rw [zq4 (i:=i) (by omega)];exact .refl _
   simp only [zhz,zyy,zpe];simp;omega
  .refine ⟨i+1,⟨by omega,λj hj=>?_⟩,by omega,by simp⟩
   by_cases e:j=i
   .subst e;simp only [zhz,zyy,zpe];simp;omega
   .exact hi.2 j (by omega)
  .rw [zop ‹_› hi (by omega)];exact .refl _
def ybd (n a b:Int):Pure prog 219 [.i .i64 n,.i .i64 a,.i .i64 b] (.i .i64 (rng n a b)):=by
 refine pz func219 f219.eq_1 λhw X hX=>?_
 refine gF2 (λhc=>?_) λhc=>?_
 .rw [rng,if_pos hc];exact .refl _
 .rw [zdR.2 hc];exact .refl _
def ybe (n:Int):Pure prog 218 [.i .i64 n] (.i .i64 (rng n 0 99999)):=by
 refine pz func218 f218.eq_1 λhw X hX=>?_
 have jA:=λu1 u2 u3=>ybd u1 u2 u3;exact gD2
def yaD (p:Per):Pure prog 172 [p.pv] (.i .i64 (zbx p)):=by
 refine pz func172 f172.eq_1 λhw X hX=>?_
 repeat' first|refine gC ?_ ?_<;>intro hc<;>try contradiction|refine zg (λ_=>ybe _) ?_|refine za (ybe _) ?_|refine za (ybd _ _ _) ?_|refine gG ?_|show AK _;intro J Z|refine gJ ?_|omega|exact aT
 .rw [show zbx p=3 by simp only [zbx,zn,rng];(repeat' split)<;>omega];exact .refl _
 .rw [show zbx p=11 by simp only [zbx,zn,rng];(repeat' split)<;>omega];exact .refl _
 .rw [show zbx p=4 by simp only [zbx,zn,rng];(repeat' split)<;>omega];exact .refl _
 .rw [show zbx p=rng p.days 1 127 by simp only [zbx,zn,rng];(repeat' split)<;>omega];exact .refl _
def ycX (d:Int) (h0:0<=d) (h1:d<=99999):Pure prog 239 [.i .i64 d] (.i .i64 ((d+5) % 7)):=by
 refine pz func239 f239.eq_1 λhw X hX=>?_
 refine gE2 ?_;rw [xbV (by omega)]
 exact .refl _
def ybc (m w:Int) (h0:0<=m) (h1:m < 128) (h2:0<=w) (h3:w < 7):Pure prog 238 [.i .i64 m,.i .i64 w] (.b (inM m w)):=by
 refine pz func238 f238.eq_1 λhw X hX=>?_
 refine gE2 ?_;refine zh (κ:=Nat) (λi=>⟨[(0,.p (.i .i64 (m / 2 ^ i))),(1,.p (.i .i64 w)),(5,.p (.i .i64 i))],[],[],false⟩) (λi=>i<=w.toNat) (λi=>w.toNat - i) 0 ?_ ?_ ?_
 .exact sS
 .simp
 .intro i hi;have hq:0<=m / 2 ^ i:=xbh h0 (Int.le_of_lt (Int.pow_pos (by decide)))
  have hq2:m / 2 ^ i<=m:=xbr _ h0;have hq3:∀ b,(m / 2 ^ i).tdiv b=(m / 2 ^ i) / b:=λb=>xbp hq
  have hq4:∀ b,(m / 2 ^ i).tmod b=(m / 2 ^ i) % b:=λb=>xbV hq
  have qe:=aI @hq3 @hq4;refine gF2 (λhc=>?_) λhc=>?_
  .refine ⟨i+1,by omega,by omega,?_,by simp⟩
   rw [Int.pow_succ,Int.ediv_ediv_of_nonneg (Int.le_of_lt (Int.pow_pos (by decide)))]
  .have e:i=w.toNat:=by omega
   subst e;exact .refl _
def ycY (p:Per) (d:Int) (h0:0<=d) (h1:d<=99999) (h2:0<=p.days) (h3:p.days < 128):Pure prog 198 [p.pv,.i .i64 d] (.b (zBv p d)):=by
 refine pz func198 f198.eq_1 λhw X hX=>?_
 have qe:=@qR;repeat' first|refine gC ?_ ?_<;>intro hc<;>try contradiction|refine zg (λ_=>ycX _ h0 h1) ?_|(show zp _ _ _ _ (⟨_,.call 238,_,_,_⟩::_) _ _;refine zkX (hf:=λhc=>(by first|exact ybc p.days ((d+5) % 7) h2 h3 (by omega) (by omega)|(simp only [qH,zdR] at hc;exact ybc p.days ((d+5) % 7) h2 h3 (by omega) (by omega)))) (hn:=?_))|refine gG ?_|show AK _;intro J Z|refine gJ ?_|omega|exact aT
 all_goals exact .refl _
def ybu {p:Per} (k:Nat) (h:k < (p.to - p.fro+1).toNat):zBv p (p.fro+k)=inM p.days ((p.fro+k+5) % 7):=by
 simp only [zBv,show p.fro<=p.fro+(k:Int) by omega,show p.fro+(k:Int)<=p.to by omega,decide_true,xaZ]
def yJ (p:Per) (k:Nat):List Int:=(List.range k).flatMap λ(k:Nat)=>if inM p.days ((p.fro+k+5) % 7) then [p.fro+k] else []
def yby (p:Per) (n:Nat):(yJ p n).length<=n:=by
 unfold yJ
 induction n with
 | zero=>simp
 | succ n ih=>rw [zbE,xad];split<;>simp only [xaz,xbB]<;>omega
def ya9 (p:Per) (h:zbx p=0):Pure prog 136 [p.pv] (.sl 1 ((zaK p).map (.i .i64))):=by
 have hp:=zaI h;refine pz func136 f136.eq_1 λhw X hX=>?_
 refine gE2 ?_;refine run_ownL 100 3 1 (κ:=Nat) (λk=>⟨[(1,.lp 1 0),(3,.row 100 (yJ p k).length),(4,.p (.i .i64 (p.fro+k)))],[(1,.box [.p (.i .i64 p.fro),.p (.i .i64 p.to),.p (.i .i64 p.days)] false),(100,.row 3 1 ((yJ p k).map (.i .i64)) false)],[],false⟩) (λk=>k<=(p.to - p.fro+1).toNat) (λk=>(p.to - p.fro+1).toNat - k) 0 ?_ ?_ ?_
 .refine ⟨gO ?_,gO ?_⟩<;>simp [yJ]
 .simp
 .intro k hk;have hl:=yby p k;have qe:=@qR;repeat' first|refine gC ?_ ?_<;>intro hc<;>try contradiction|refine za (ycY p (p.fro+k) (by omega) (by omega) (by omega) (by omega)) ?_|refine gG ?_|show AK _;intro J Z|refine gJ ?_|omega|exact aT
  .have e:yJ p (k+1)=yJ p k++[p.fro+(k:Int)]:=by
    rw [ybu k (by omega)] at hc;simp only [yJ,zbE,hc,if_true]
   refine ⟨k+1,by omega,by omega,⟨by rw [e];simp,by simp;omega⟩,by rw [e];simp⟩
  .have e:yJ p (k+1)=yJ p k:=by
    rw [ybu k (by omega)] at hc;simp only [yJ,zbE,hc];simp
   refine ⟨k+1,by omega,by omega,⟨by rw [e],by simp;omega⟩,by rw [e]⟩
  .have e:k=(p.to - p.fro+1).toNat:=by omega
   subst e;exact .refl _
def y9 (m:List Mov) (i:Nat) (l:Lim) (b:Int):List Win:=if l.most < zbb l m b then [⟨i,b,zbb l m b⟩] else []
def ycD (m:List Mov) (i:Nat) (l:Lim):List Win:=(zaq l).flatMap (y9 m i l)
def yck (ls:List Lim) (m:List Mov) (i:Nat):List Win:=match ls[i]? with|some l=>ycD m i l|none=>[]
def yaj (ls:List Lim) (m:List Mov) (k:Nat):List Win:=(List.range k).flatMap (yck ls m)
def yaP (ls:List Lim) (m:List Mov):List Win:=yaj ls m ls.length
def yai {α β:Type} {l:List α} {x:α} (f:α->List β) (h:l[j]?=some x):(l.take (j+1)).flatMap f=(l.take j).flatMap f++f x:=by
 rw [xaW,h];simp
def yct (s:ByteArray):Pure prog 170 [.s s] (.b (decide (s=s0) || zcs s)):=by
 refine pz func170 f170.eq_1 λhw X hX=>?_
 have jA:=λu1=>yG u1;exact gD2
def yba (n a b:Int):Pure prog 171 [.i .i64 n,.i .i64 a,.i .i64 b] (.b (decide (n < a) || decide (b < n))):=by
 refine pz func171 f171.eq_1 λhw X hX=>?_
 exact gD2
def yb (h:e=0):zn (e::r)=zn r:=by rw [zn,if_pos h]
def yH (h:e≠0):zn (e::r)=e:=by rw [zn,if_neg h]
def ycR {n:Int} (h:n < a\/b < n):rng n a b=3:=by rw [rng,if_pos h]
def yar (h:zcs s=true):zfA s=0:=by rw [zfA,if_neg (by simp [h])]
def yY (h:zcs s=false):zfA s=8:=by rw [zfA,if_pos h]
def yaM (h:s=s0\/zcs s=true):zo6 s=0:=by rw [zo6,if_neg];rintro ⟨h1,h2⟩;rcases h with h|h<;>simp_all
def ybj (h:¬s=s0/\zcs s=false):zo6 s=8:=by rw [zo6,if_pos h]
def yI {k:Int} (h:e=k) (hk:k≠0):zn (e::r)=k:=by rw [yH (by rw [h];exact hk),h]
def ybn {c:Int} (h:0<=a/\a<=999/\0<=b/\b<=9/\0<=c/\c<=99):zyv a b c=0:=by rw [zyv];simp only [zn,rng];(repeat' split)<;>omega
def ybr (h:¬k=sA/\¬k=sD->k=sT):zon k=0:=by rw [zon,if_neg];rintro ⟨h1,h2,h3⟩;exact h3 (h ⟨h1,h2⟩)
def yaN (h:(¬k=sA/\¬k=sD)/\¬k=sT):zon k=13:=by rw [zon,if_pos ⟨h.1.1,h.1.2,h.2⟩]
def yah (h:¬k=sA->k=sD):zgM k=0:=by rw [zgM,if_neg];rintro ⟨h1,h2⟩;exact h2 (h h1)
def yP (h:¬k=sA/\¬k=sD):zgM k=13:=by rw [zgM,if_pos h]
def ybb (l:Lim):Pure prog 89 [l.pv] (.i .i64 (zr l)):=by
 refine pz func89 f89.eq_1 λhw X hX=>?_
 repeat' first|refine gC ?_ ?_<;>intro hc<;>try contradiction|refine za (yG _) ?_|refine za (yct _) ?_|refine zg (λ_=>yba _ _ _) ?_|refine za (yaD l.per) ?_|refine gG ?_|show AK _;intro J Z|refine gJ ?_|omega|exact aT
 all_goals (refine weakI (Eq.symm ?_);rw [zr];(repeat refine Eq.trans (yb (by first|exact yar (by assumption)|exact ybr (by assumption)|exact yah (by assumption)|exact yaM (by assumption)|exact zdR.2 (by omega)|exact ybn (by omega)|exact if_neg (by omega)|assumption)) ?_);first|rfl|exact yI (by first|exact yY (by assumption)|exact yaN (by assumption)|exact yP (by assumption)|exact ybj (by assumption)|exact ycR (by omega)|exact if_pos (by omega)|rfl) (by first|decide|assumption)|(simp only [zn,rng,zyv];(repeat' split)<;>omega))
def pure72 (l:List Lim) (n:ByteArray):Pure prog 90 [.sl 11 (l.map Lim.pv),.s n] (.i .i64 (atL n (l.map Lim.name))):=by
 refine pz func90 f90.eq_1 λhw X hX=>?_
 simp only [wfs,PV.wf,xaf,maxLen] at hw;refine gE2 ?_;refine zh (κ:=Nat) (λi=>⟨[(0,.p (.sl 11 (l.map Lim.pv))),(1,.p (.s n)),(5,.p (.i .i64 i))],[],[],false⟩) (λi=>i<=l.length/\∀ x ∈ (l.map Lim.name).take i,x≠n) (λi=>l.length - i) 0 ?_ ?_ ?_
 .exact sR
 .simp
 .intro i hi;refine gH (λhc=>?_) λhc=>?_
  .obtain ⟨x,hx⟩:=zj (i:=i) (l:=l) (by omega)
   have qe:=@hx;refine gF2 (λhc=>?_) λhc=>?_
   .rw [zr8 hi.2 (by simp [hx,hc])];exact .refl _
   .refine ⟨i+1,⟨by omega,λy hy=>?_⟩,by omega,by simp⟩
    rw [<-xbK,zej _ hx] at hy
    rcases xaS.1 hy with h|h
    .exact hi.2 y (by rw [<-xbK];exact h)
    .simp at h;subst h;exact hc
  .refine gE2 ?_;have e:i=l.length:=by omega
   subst e;rw [zsa (λy hy=>hi.2 y (by rw [xas (by simp)];exact hy))];exact .refl _
def yaJ (l:List Lim):Pure prog 20 [.sl 11 (l.map Lim.pv)] (.i .i64 (zJ l)):=by
 refine pz func20 f20.eq_1 λhw X hX=>?_
 simp only [wfs,PV.wf,xaf,maxLen] at hw;refine gF2 (λhc=>?_) λhc=>?_
 .rw [zJ,if_pos (by omega)];exact .refl _
 refine zh (κ:=Nat) (λi=>⟨[(0,.p (.sl 11 (l.map Lim.pv))),(3,.p (.i .i64 i))],[],[],false⟩) (λi=>i<=l.length/\∀ x ∈ (ziD l).take i,x=0) (λi=>l.length - i) 0 ?_ ?_ ?_
 .exact sR
 .simp
 .intro i hi;refine gH (λhc=>?_) λhc=>?_
  .obtain ⟨x,hx⟩:=zj (i:=i) (l:=l) (by omega)
   have key:∀ e:Int,zqU l i x=e->e≠0->zJ l=e:=λe he h0=>by subst he;unfold zJ;rw [if_neg (by omega)];exact zbr hi.2 (zaj hx) h0
   have qe:=aI qR (aI @hx @zsU);repeat' first|refine gC ?_ ?_<;>intro hc<;>try contradiction|refine za (ybb x) ?_|refine za (pure72 (l.take i) x.name) ?_|refine gG ?_|show AK _;intro J Z|refine gJ ?_|omega|exact aT
   .rw [key (zr x) (by rw [zqU,yH hc]) hc];exact .refl _
   .rw [key 9 (by rw [zqU,yb (by assumption),yI (if_pos hc) (by decide)]) (by decide)];exact .refl _
   .exact ⟨i+1,⟨by omega,zb0 hi.2 (zaj hx) (by rw [zqU,yb (by assumption),yb (if_neg (by omega)),yaZ])⟩,by omega,by simp⟩
  .refine gE2 ?_;have e:i=(ziD l).length:=by simp [ziD];omega
   subst e;rw [zJ,if_neg (by omega),zbj hi.2];exact .refl _
def pure20 (r:Req):Pure prog 114 [r.pv] (.i .i64 (zbY r)):=by
 refine pz func114 f114.eq_1 λhw X hX=>?_
 repeat' first|refine gC ?_ ?_<;>intro hc<;>try contradiction|refine za (yG _) ?_|refine za (yct _) ?_|refine za (yba _ _ _) ?_|refine zg (λ_=>yba _ _ _) ?_|refine za (yaD r.per) ?_|refine gG ?_|show AK _;intro J Z|refine gJ ?_|omega|exact aT
 all_goals (refine weakI (Eq.symm ?_);rw [zbY];(repeat refine Eq.trans (yb (by first|exact yar (by assumption)|exact ybr (by assumption)|exact yah (by assumption)|exact yaM (by assumption)|exact zdR.2 (by omega)|exact ybn (by omega)|exact if_neg (by omega)|assumption)) ?_);first|rfl|exact yI (by first|exact yY (by assumption)|exact yaN (by assumption)|exact yP (by assumption)|exact ybj (by assumption)|exact ycR (by omega)|exact if_pos (by omega)|rfl) (by first|decide|assumption)|(simp only [zn,rng,zyv];(repeat' split)<;>omega))
def fewB (p:Per) (n:Int):Bool:=!decide (zbx p=0) || decide (p.to - p.fro < n)
def yaE (p:Per) (n:Int):Pure prog 145 [p.pv,.i .i64 n] (.b (fewB p n)):=by
 refine pz func145 f145.eq_1 λhw X hX=>?_
 by_cases h:zbx p=0
 .have hp:=zaI h;have h':=eq_true h;have qe:=@h';have jA:=yaD p;refine gE2 ?_;simp only [fewB,h',decide_true,xaC,xb5];exact .refl _
 .have h':=eq_false h;have qe:=@h';have jA:=yaD p;refine gE2 ?_;simp only [fewB,h',decide_false,xax,Bool.true_or];exact .refl _
def pure76 (l:Lim) (h:zr l=0):Pure prog 146 [l.pv] (.i .i64 (zkw l)):=by
 have hl:=zaa h;have hq1:(l.fro+l.step - 1).tdiv l.step=l.from_:=xbp (by omega)
 have hq2:l.to.tdiv l.step=l.to / l.step:=xbp (by omega)
 have hb1:0<=l.from_:=xbh (by omega) (by omega)
 have hb2:l.from_<=l.fro+l.step - 1:=xbr _ (by omega)
 have hb3:0<=l.to / l.step:=xbh (by omega) (by omega)
 have hb4:l.to / l.step<=l.to:=xbr _ (by omega)
 have hN:l.to / l.step - l.from_+1=(zkw l:Int):=by
  unfold zkw;have:(l.fro - 1) / l.step<=l.to / l.step:=Int.ediv_le_ediv (by omega) (by omega)
  have e:l.from_=(l.fro - 1) / l.step+1:=by unfold Lim.from_;rw [show l.fro+l.step - 1=l.fro - 1+1*l.step by omega,Int.add_mul_ediv_right _ _ (by omega)]
  omega
 refine pz func146 f146.eq_1 λhw X hX=>?_
 have qe:=aI @hq1 @hq2;refine gE2 ?_;rw [hN];exact .refl _
def natle (n:Nat):(decide ((n:Int)<=40))=decide (n<=40):=by simp;omega
def shReq (r:Req):Bool:=((decide (r.name.size<=40) && decide (r.kind.size<=40)) && decide (r.term.size<=40)) && fewB r.per 24
def pure17 (r:Req):Pure prog 113 [r.pv] (.b (shReq r)):=by
 refine pz func113 f113.eq_1 λhw X hX=>?_
 have jA:=yaE r.per 24;have jB:=yaE r.per 24;refine gE2 ?_;rw [shReq];refine zhe ?_;simp only [<-natle]
def ybE {α:Type} {l:List α} {p:α->Bool} {x:α} (hx:l[i]?=some x) (hp:p x=false):l.all p=false:=by
 cases h:l.all p
 .rfl
 .rw [xaO] at h;rw [h x (xae hx)] at hp;exact hp
def y8 {α:Type} {l:List α} {p:α->Bool} {x:α} (h:∀ y ∈ l.take i,p y=true) (hx:l[i]?=some x) (hp:p x=true):∀ y ∈ l.take (i+1),p y=true:=by
 intro y hy;rw [xaW,hx] at hy
 rcases xaS.1 hy with hy|hy
 .exact h y hy
 .simp at hy;subst hy;exact hp
def ybF {α:Type} {l:List α} {p:α->Bool} (h:∀ y ∈ l.take l.length,p y=true):l.all p=true:=by
 rw [xah] at h;rw [xaO];exact h
def allI (L:List Int):L.all ((λx=>x.cells.all PV.one) ∘ PV.i IntKind.i64)=true:=by rw [xaO];intro x _;rfl
theorem yf {α β:Type} {f:α->List β}:∀ {l:List α},(∀ x ∈ l,(f x).length<=c)->(l.flatMap f).length<=l.length*c
 | [],_=>by simp
 | x::r,h=>by
  have h1:=h x (by simp)
  have h2:=yf (l:=r) λy hy=>h y (by simp [hy])
  simp only [xat,xad,xaz,Nat.succ_mul];omega
def yaw {α:Type} {l:List α} {p:α->Bool} {k:Nat} {x:α} (h:l[k]?=some x):(l.take (k+1)).filter p=(l.take k).filter p++(if p x then [x] else []):=by
 rw [xaW,h,xbe];cases hp:p x<;>simp [xa2,hp]
def yav {α:Type} {l:List α} {p:α->Bool} {k:Nat}:((l.take k).filter p).length<=l.length:=by
 have:=xby p (l.take k);simp only [xan] at this;omega
def yaI (l:List Int) (x:Int):Pure prog 46 [.sl 1 (l.map (.i .i64)),.i .i64 x] (.b (decide (x ∈ l))):=by
 refine pz func46 f46.eq_1 λhw X hX=>?_
 simp only [wfs,PV.wf,xaf,maxLen] at hw;refine gE2 ?_;refine zh (κ:=Nat) (λi=>⟨[(0,.p (.sl 1 (l.map (.i .i64)))),(1,.p (.i .i64 x)),(5,.p (.i .i64 i))],[],[],false⟩) (λi=>i<=l.length/\∀ y ∈ l.take i,¬y=x) (λi=>l.length - i) 0 ?_ ?_ ?_
 .exact sR
 .simp
 .intro i hi;refine gH (λhc=>?_) λhc=>?_
  .obtain ⟨y,hy⟩:=zj (i:=i) (l:=l) (by omega)
   have qe:=@hy;refine gF2 (λhc=>?_) λhc=>?_
   .subst hc;rw [decide_eq_true (xae hy)];exact .refl _
   .refine ⟨i+1,⟨by omega,λz hz=>?_⟩,by omega,by simp⟩
    rw [xaW,hy] at hz
    rcases xaS.1 hz with h|h
    .exact hi.2 z h
    .simp at h;subst h;exact hc
  .refine gE2 ?_;have e:i=l.length:=by omega
   subst e;rw [decide_eq_false (λh=>hi.2 x (by rw [xah];exact h) rfl)];exact .refl _
def ya2 (l:Lim) (d:Int) (k:Nat):List Int:=(List.range k).flatMap λ(j:Nat)=>if (l.fro+j) % l.step=0 then [1440*d+(l.fro+j)] else []
def yF (l:Lim) (d:Int) (k:Nat):ya2 l d (k+1)=ya2 l d k++if (l.fro+k) % l.step=0 then [1440*d+(l.fro+k)] else []:=by rw [ya2,zbE,<-ya2]
def ybP (l:Lim) (d:Int) (k:Nat):(ya2 l d k).length<=k:=by
 induction k with
 | zero=>simp [ya2]
 | succ k ih=>rw [yF,xad];split<;>simp<;>omega
def ydj {s:Int} (hs:0 < s):(x+s - 1) / s=if x % s=0 then x / s else x / s+1:=by
 have h1:=Int.mul_ediv_add_emod x s;have h2:=Int.emod_nonneg x (show s≠0 by omega)
 have h3:=Int.emod_lt_of_pos x hs
 split
 .rename_i h;rw [show x+s - 1=(s - 1)+s*(x / s) by omega,Int.add_mul_ediv_left _ _ (by omega),Int.ediv_eq_zero_of_lt (by omega) (by omega)];omega
 .rename_i h;rw [show x+s - 1=(x % s - 1)+s*(x / s+1) by rw [Int.mul_add];omega,Int.add_mul_ediv_left _ _ (by omega),Int.ediv_eq_zero_of_lt (by omega) (by omega)];omega
def ycV {l:Lim} (h:0 < l.step) (d:Int) (k:Nat):ya2 l d k=(List.range ((l.fro+k+l.step - 1) / l.step - l.from_).toNat).map (zzP l d)/\l.from_<=(l.fro+k+l.step - 1) / l.step:=by
 induction k with
 | zero=>simp [ya2,Lim.from_]
 | succ k ih=>
  obtain ⟨ih,hge⟩:=ih;have hn:(l.fro+(k+1:Nat)+l.step - 1) / l.step=(l.fro+k) / l.step+1:=by
   rw [show l.fro+((k+1:Nat):Int)+l.step - 1=l.fro+k+1*l.step by omega,Int.add_mul_ediv_right _ _ (by omega)]
  rw [hn,yF,ih];have hc:=ydj (x:=l.fro+k) h;rw [hc] at hge ⊢
  by_cases hm:(l.fro+k) % l.step=0
  .rw [if_pos hm] at hge;rw [if_pos hm,if_pos hm];have e:((l.fro+k) / l.step+1 - l.from_).toNat=((l.fro+k) / l.step - l.from_).toNat+1:=by omega
   refine ⟨?_,by omega⟩
   rw [e,zlq,zzP,xbm (by omega),show l.from_+((l.fro+k) / l.step - l.from_)=(l.fro+k) / l.step by omega]
   have:=Int.mul_ediv_add_emod (l.fro+k) l.step;rw [show l.step*((l.fro+k) / l.step)=l.fro+k by omega]
  .rw [if_neg hm] at hge;rw [if_neg hm,if_neg hm];exact ⟨by simp,hge⟩
def ycU {l:Lim} (h:zr l=0) (d:Int):ya2 l d (l.to - l.fro+1).toNat=zno l d (zkw l):=by
 have hl:=zaa h;rw [(ycV (l:=l) (by omega) d _).1,zno,zkw]
 have e:(l.fro+((l.to - l.fro+1).toNat:Nat)+l.step - 1) / l.step=l.to / l.step+1:=by
  rw [show l.fro+(((l.to - l.fro+1).toNat:Nat):Int)+l.step - 1=l.to+1*l.step by omega,Int.add_mul_ediv_right _ _ (by omega)]
 rw [e,show (l.to / l.step+1 - l.from_).toNat=(max 0 (l.to / l.step - l.from_+1)).toNat by omega]
def pure36 (l:Lim) (d:Int) (h:zr l=0) (h0:0<=d) (h1:d<=99999):Pure prog 221 [l.pv,.i .i64 d] (.sl 1 ((zno l d (zkw l)).map (.i .i64))):=by
 have hl:=zaa h;refine pz func221 f221.eq_1 λhw X hX=>?_
 refine gE2 ?_;refine run_ownL 100 3 1 (κ:=Nat) (λk=>⟨[(1,.p (.i .i64 d)),(2,.lp 2 0),(5,.row 100 (ya2 l d k).length),(6,.p (.i .i64 (l.fro+k)))],[(2,.box (l.cells.map .p) false),(100,.row 3 1 ((ya2 l d k).map (.i .i64)) false)],[],false⟩) (λk=>k<=(l.to - l.fro+1).toNat) (λk=>(l.to - l.fro+1).toNat - k) 0 ?_ ?_ ?_
 .refine ⟨gO ?_,gO ?_⟩<;>simp [ya2]
 .simp
 .intro k hk;have hll:=ybP l d k;have hq:(l.fro+k).tmod l.step=(l.fro+k) % l.step:=xbV (by omega)
  have hnx:=yF l d k;have qe:=aI qR @hq;repeat' first|refine gC ?_ ?_<;>intro hc<;>try contradiction|refine gG ?_|show AK _;intro J Z|refine gJ ?_|omega|exact aT
  .rw [if_pos hc] at hnx;exact ⟨k+1,by omega,by omega,⟨by rw [hnx];simp,by simp;omega⟩,by rw [hnx];simp⟩
  .rw [if_neg hc,xar] at hnx;exact ⟨k+1,by omega,by omega,⟨by rw [hnx],by simp;omega⟩,by rw [hnx]⟩
  .have e:k=(l.to - l.fro+1).toNat:=by omega
   subst e;rw [ycU h];exact .refl _
def pure39 (l:Lim) (h:zr l=0):Pure prog 181 [l.pv] (.sl 1 ((zaq l).map (.i .i64))):=by
 have hl:=zaa h;have hpp:=zaI hl.2.2.2.2.2.2.2.1;have hdl:=zeN l.per;refine pz func181 f181.eq_1 λhw X hX=>?_
 have jA:=ya9 l.per hl.2.2.2.2.2.2.2.1;refine gE2 ?_;refine run_ownL 100 3 1 (κ:=Nat) (λk=>⟨[(1,.lp 1 0),(3,.p (.sl 1 ((zaK l.per).map (.i .i64)))),(4,.row 100 (((zaK l.per).take k).flatMap λd=>zno l d (zkw l)).length),(5,.p (.i .i64 k))],[(1,.box (l.cells.map .p) false),(100,.row 3 1 ((((zaK l.per).take k).flatMap λd=>zno l d (zkw l)).map (.i .i64)) false)],[],false⟩) (λk=>k<=(zaK l.per).length) (λk=>(zaK l.per).length - k) 0 ?_ ?_ ?_
 .refine ⟨gO ?_,gO ?_⟩<;>simp
 .simp
 .intro k hk;refine gH (λhc=>?_) λhc=>?_
  .obtain ⟨d,hd⟩:=zj (i:=k) (l:=zaK l.per) (by omega)
   have hdm:=zeM (xae hd);have hnx:=yai (λd=>zno l d (zkw l)) hd
   have hbn:zkw l<=1440:=by
    have h1:0<=l.from_:=xbh (by omega) (by omega)
    have h2:l.to / l.step<=l.to:=xbr _ (by omega)
    unfold zkw;omega
   have hfl:(((zaK l.per).take k).flatMap λd=>zno l d (zkw l)).length<=((zaK l.per).take k).length*1440:=by
    exact yf λd _=>by simp only [zno,xaf,xaU];exact hbn
   have hbl:(zno l d (zkw l)).length<=1440:=by simp only [zno,xaf,xaU];exact hbn
   simp only [xan] at hfl;have qe:=aI qR (aI @hd @allI);have jA:=pure36 l d h (by omega) (by omega);refine gE2 ?_
   exact ⟨k+1,by omega,by omega,⟨by rw [hnx,xad],by simp⟩,by rw [hnx,xa6]⟩
  .refine gE2 ?_;have e:k=(zaK l.per).length:=by omega
   subst e;rw [xah,ze0 h];exact .refl _
def pure95 (l:Lim) (m:Mov):Pure prog 222 [l.pv,m.pv] (.b (zbI l m.kind m.term)):=by
 refine pz func222 f222.eq_1 λhw X hX=>?_
 exact gD2
def pure96 (l:Lim) (b x:Int) (h0:0<=b) (h1:b<=1000000000) (h2:1<=l.len) (h3:l.len<=1440):Pure prog 223 [l.pv,.i .i64 b,.i .i64 x] (.b (decide (b<=x) && decide (x < b+l.len))):=by
 refine pz func223 f223.eq_1 λhw X hX=>?_
 exact gD2
def pure37 (l:Lim) (m:List Mov) (b:Int) (h:zr l=0) (hm:m.length<=1000000) (h0:0<=b) (h1:b<=1000000000):Pure prog 182 [l.pv,.sl 7 (m.map Mov.pv),.i .i64 b] (.i .i64 (zbb l m b)):=by
 have hl:=zaa h;rw [zbJ (by omega)]
 refine pz func182 f182.eq_1 λhw X hX=>?_
 refine gE2 ?_;refine zh (κ:=Nat) (λk=>⟨[(1,.p (.sl 7 (m.map Mov.pv))),(2,.p (.i .i64 b)),(3,.lp 3 0),(7,.p (.i .i64 ((m.take k).filter (inW l b)).length)),(8,.p (.i .i64 k))],[(3,.box (l.cells.map .p) false)],[],false⟩) (λk=>k<=m.length) (λk=>m.length - k) 0 ?_ ?_ ?_
 .exact sS
 .simp
 .intro k hk;have hfl:=yav (p:=inW l b) (l:=m) (k:=k);refine gH (λhc=>?_) λhc=>?_
  .obtain ⟨x,hx⟩:=zj (i:=k) (l:=m) (by omega)
   have hnx:=yaw (p:=inW l b) hx;have qe:=aI qR @hx;have jA:=pure95 l x;have jB:=pure96 l b x.moment (by omega) (by omega) (by omega) (by omega);refine gF2 (λhc=>?_) λhc=>?_
   .have hi:inW l b x=true:=by simp only [inW,xau,decide_eq_true_eq];exact hc
    rw [hi,if_pos rfl] at hnx;exact ⟨k+1,by omega,by omega,by rw [hnx];simp,by simp⟩
   .have hi:inW l b x=false:=by
     cases hh:inW l b x
     .rfl
     .simp only [inW,xau,decide_eq_true_eq] at hh;have:=hc hh.1 hh.2.1
      omega
    rw [hi] at hnx;exact ⟨k+1,by omega,by omega,by rw [hnx];simp,by simp⟩
  .refine gE2 ?_;have e:k=m.length:=by omega
   subst e;rw [xah];exact .refl _
def yC {l:Lim} (h:zr l=0):(zaq l).length<=577440:=by
 have hp:=zaI (zaa h).2.2.2.2.2.2.2.1;have h1:(zaq l).length<=(List.range (winN l)).length*1440:=yf λk _=>zl5 h _
 simp only [xaU] at h1;unfold winN at h1
 omega
def yci {l:Lim} (h:zr l=0) (m:List Mov) (i:Nat):(ycD m i l).length<=577440:=by
 have h1:(ycD m i l).length<=(zaq l).length*1:=yf λb _=>by unfold y9;split<;>simp
 have:=yC h
 omega
def ycj (h:∀ l ∈ ls,zr l=0) (m:List Mov) (k:Nat):(yaj ls m k).length<=k*577440:=by
 have h1:(yaj ls m k).length<=(List.range k).length*577440:=yf λi _=>by
  unfold yck
  split
  .rename_i l hl;exact yci (h l (xae hl)) m i
  .simp
 simpa using h1
def pure59 (ls:List Lim) (m:List Mov) (hn:ls.length<=32) (h:∀ l ∈ ls,zr l=0) (hm:m.length<=1000000):Pure prog 108 [.sl 11 (ls.map Lim.pv),.sl 7 (m.map Mov.pv)] (.sl 3 ((yaP ls m).map Win.pv)):=by
 refine pz func108 f108.eq_1 λhw X hX=>?_
 refine gE2 ?_;refine run_ownL 100 184 3 (κ:=Nat) (λk=>⟨[(0,.p (.sl 11 (ls.map Lim.pv))),(1,.p (.sl 7 (m.map Mov.pv))),(5,.row 100 (yaj ls m k).length),(6,.p (.i .i64 k))],[(100,.row 184 3 ((yaj ls m k).map Win.pv) false)],[],false⟩) (λk=>k<=ls.length) (λk=>ls.length - k) 0 ?_ ?_ ?_
 .refine ⟨gO ?_,gO ?_⟩<;>simp [yaj]
 .simp
 .intro k hk;refine gH (λhc=>?_) λhc=>?_
  .obtain ⟨l,hx⟩:=zj (i:=k) (l:=ls) (by omega)
   have h1:=h l (xae hx);have hi:yck ls m k=ycD m k l:=by rw [yck,hx]
   have hkl:=ycj h m k;have hwl:=yC h1;have qe:=aI qR @hx;have jA:=pure39 l h1;refine gE2 ?_;refine zh (κ:=Nat) (λj=>⟨[(0,.p (.sl 11 (ls.map Lim.pv))),(1,.p (.sl 7 (m.map Mov.pv))),(5,.row 100 (yaj ls m k++((zaq l).take j).flatMap (y9 m k l)).length),(6,.p (.i .i64 k)),(7,.p (.sl 1 ((zaq l).map (.i .i64)))),(8,.p (.i .i64 j))],[(100,.row 184 3 ((yaj ls m k++((zaq l).take j).flatMap (y9 m k l)).map Win.pv) false)],[],false⟩) (λj=>j<=(zaq l).length) (λj=>(zaq l).length - j) 0 ?_ ?_ ?_
   .exact sS
   .simp
   .intro j hj;refine gH (λhc=>?_) λhc=>?_
    .obtain ⟨b,hb⟩:=zj (i:=j) (l:=zaq l) (by omega)
     have hbm:=zfn h1 (xae hb);have hnx:=yai (y9 m k l) hb;have hjl:(((zaq l).take j).flatMap (y9 m k l)).length<=((zaq l).take j).length*1:=yf λb _=>by unfold y9;split<;>simp
     simp only [xan] at hjl;have hal:(yaj ls m k++((zaq l).take j).flatMap (y9 m k l)).length<=33*577440:=by rw [xad];omega
     have qe:=aI qR (aI @hx @hb);have jA:=pure37 l m b h1 hm (by omega) (by omega);refine gF2 (λhc=>?_) λhc=>?_
     .rw [show y9 m k l b=[⟨k,b,zbb l m b⟩] by rw [y9,if_pos hc]] at hnx
      exact ⟨j+1,by omega,by omega,⟨by rw [hnx];simp;omega,by simp⟩,by rw [hnx];simp⟩
     .rw [show y9 m k l b=[] by rw [y9,if_neg (by omega)],xar] at hnx
      exact ⟨j+1,by omega,by omega,⟨by rw [hnx],by simp⟩,by rw [hnx]⟩
    .refine gE2 ?_;have e:j=(zaq l).length:=by omega
     subst e;have e2:yaj ls m (k+1)=yaj ls m k++(zaq l).flatMap (y9 m k l):=by rw [yaj,zbE,hi,ycD,<-yaj]
     exact ⟨k+1,by omega,by omega,⟨by rw [xah,e2,xad],by simp⟩,by rw [xah,e2,xa6]⟩
  .refine gE2 ?_;have e:k=ls.length:=by omega
   subst e;exact .refl _
def badLim (l:Lim):Bool:=((decide ((40:Int) < l.name.size) || decide ((40:Int) < l.kind.size)) || decide ((40:Int) < l.term.size)) || !fewB l.per 24
def yaS {x:Lim} (h:(((40:Int) < x.name.size\/(40:Int) < x.kind.size)\/(40:Int) < x.term.size)\/fewB x.per 24=false):badLim x=true:=by
 simp only [badLim,xbg,decide_eq_true_eq,xbv];exact h
def yaT {x:Lim} (h:(((x.name.size:Int)<=40/\(x.kind.size:Int)<=40)/\(x.term.size:Int)<=40)/\fewB x.per 24=true):badLim x=false:=by
 simp only [badLim,xbo,decide_eq_false_iff_not,xb6,Int.not_lt];exact h
def ycb (x:Lim):Int:=if zr x=0 then (zkw x:Int)*(zaK x.per).length else 0
def yap (l:List Lim) (k:Nat):Int:=(l.take k).foldl (λa x=>a+ycb x) 0
def longL (l:List Lim) (n:Int):Bool:=(decide (n < l.length) && decide ((l.length:Int)<=32)) || decide (34 < (l.length:Int))
def yc (l:List Lim) (n:Int):Bool:=!longL l n && ((l.all λx=>!badLim x) && decide (yap l l.length<=400))
def yD {l:List Lim} {k:Nat} {x:Lim} (h:l[k]?=some x):yap l (k+1)=yap l k+ycb x:=by
 rw [yap,xaW,h,xaP];rfl
def ybD {l:Lim} (h:zr l=0):zkw l<=1440:=by
 have hl:=zaa h;have h1:0<=l.from_:=xbh (by omega) (by omega)
 have h2:l.to / l.step<=l.to:=xbr _ (by omega)
 unfold zkw;omega
def ybq (x:Lim):0<=ycb x/\ycb x<=577440:=by
 unfold ycb
 split
 .rename_i h;have h1:=ybD h;have hp:=zaI (zaa h).2.2.2.2.2.2.2.1;have h2:=zeN x.per;have h3:(zaK x.per).length<=401:=by omega
  have h4:zkw x*(zaK x.per).length<=1440*401:=Nat.mul_le_mul h1 h3
  omega
 .omega
def ycN (l:List Lim) (k:Nat):0<=yap l k/\yap l k<=k*577440:=by
 induction k with
 | zero=>simp [yap]
 | succ k ih=>
  by_cases hk:k < l.length
  .rw [yD (xac hk)];have:=ybq l[k]
   omega
  .have:yap l (k+1)=yap l k:=by rw [yap,yap,xas (by omega),xas (by omega)]
   omega
def pure15 (l:List Lim) (n:Int):Pure prog 72 [.sl 11 (l.map Lim.pv),.i .i64 n] (.b (yc l n)):=by
 refine pz func72 f72.eq_1 λhw X hX=>?_
 simp only [wfs,PV.wf,xaf,maxLen] at hw;refine gF2 (λhc=>?_) λhc=>?_
 .have:longL l n=true:=by simpa [longL] using hc
  rw [yc,this];exact .refl _
 have hsh:longL l n=false:=by simpa [longL] using hc
 have h34:l.length<=34:=by omega
 refine zh (κ:=Nat) (λi=>⟨[(0,.p (.sl 11 (l.map Lim.pv))),(5,.p (.i .i64 (yap l i))),(6,.p (.i .i64 i))],[],[],false⟩) (λi=>i<=l.length/\∀ x ∈ l.take i,(!badLim x)=true) (λi=>l.length - i) 0 ?_ ?_ ?_
 .simp only [qS,Nat.reduceAdd,Nat.reduceMul,Nat.reduceEqDiff,Nat.reduceLeDiff,reduceIte,reduceCtorEq,Nat.reduceBEq,Nat.reduceLT]<;>exact ⟨rfl,rfl⟩
 .simp
 .intro i hi;have hsb:=ycN l i;refine gH (λhc=>?_) λhc=>?_
  .obtain ⟨x,hx⟩:=zj (i:=i) (l:=l) (by omega)
   have hsn:=yD hx;have hlb:=ybq x
   by_cases h0:zr x=0
   .have h0':=eq_true h0;have hlx:=zaa h0;have hbn:=ybD h0;have hdn:=zeN x.per;have hpp:=zaI hlx.2.2.2.2.2.2.2.1;rw [ycb,if_pos h0] at hsn hlb;have qe:=aI qR (aI @hx @h0');repeat' first|refine gC ?_ ?_<;>intro hc<;>try contradiction|refine za (ybb x) ?_|refine za (pure76 x h0) ?_|refine za (ya9 x.per hlx.2.2.2.2.2.2.2.1) ?_|refine zg (λ_=>yaE x.per 24) ?_|refine gG ?_|show AK _;intro J Z|refine gJ ?_|omega|exact aT
    .rw [yc,hsh,ybE hx (by rw [yaS hc];rfl)];exact .refl _
    .exact ⟨i+1,⟨by omega,λy hy=>by simpa using y8 (p:=λx=>!badLim x) (λy hy=>by simpa using hi.2 y hy) hx (by rw [yaT (by assumption)];rfl) y hy⟩,by omega,by rw [hsn],by simp⟩
   .have h0':=eq_false h0;rw [ycb,if_neg h0] at hsn hlb;have qe:=aI qR (aI @hx @h0');repeat' first|refine gC ?_ ?_<;>intro hc<;>try contradiction|refine za (ybb x) ?_|refine zg (λ_=>yaE x.per 24) ?_|refine gG ?_|show AK _;intro J Z|refine gJ ?_|omega|exact aT
    .rw [yc,hsh,ybE hx (by rw [yaS hc];rfl)];exact .refl _
    .exact ⟨i+1,⟨by omega,λy hy=>by simpa using y8 (p:=λx=>!badLim x) (λy hy=>by simpa using hi.2 y hy) hx (by rw [yaT (by assumption)];rfl) y hy⟩,by omega,by rw [hsn,Int.add_zero],by simp⟩
  .refine gE2 ?_;have e:i=l.length:=by omega
   subst e;rw [yc,hsh,ybF hi.2];exact .refl _
def pure21 (r:Req) (h:zbY r=0):Pure prog 138 [r.pv] (.sl 7 ((zhk r).map Mov.pv)):=by
 have hr:=zeR h;have hp:=zaI hr.1;have hdl:=zeN r.per;refine pz func138 f138.eq_1 λhw X hX=>?_
 have qe:=@qR;have jA:=ya9 r.per hr.1;refine gE2 ?_;refine run_ownL 100 194 7 (κ:=Nat) (λk=>⟨[(1,.lp 1 0),(3,.p (.sl 1 ((zaK r.per).map (.i .i64)))),(4,.row 100 ((zaK r.per).take k).length),(5,.p (.i .i64 k))],[(1,.box ([.s r.name,.s r.carrier,.s r.kind,.s r.term,.s r.partner,.s r.link,.i .i64 r.per.fro,.i .i64 r.per.to,.i .i64 r.per.days,.i .i64 r.minute,.i .i64 r.seats,.i .i64 r.size,.i .i64 r.noise].map .p) false),(100,.row 194 7 ((((zaK r.per).take k).map (zj0 r)).map Mov.pv) false)],[],false⟩) (λk=>k<=(zaK r.per).length) (λk=>(zaK r.per).length - k) 0 ?_ ?_ ?_
 .refine ⟨gO ?_,gO ?_⟩<;>simp
 .simp
 .intro k hk;refine gH (λhc=>?_) λhc=>?_
  .obtain ⟨d,hx⟩:=zj (i:=k) (l:=zaK r.per) (by omega)
   have hdm:=zeM (xae hx);have hlt:=zfJ hx;have qe:=aI qR @hx;refine gE2 ?_;exact ⟨k+1,by omega,by omega,⟨by rw [xaW,hx,xad];rfl,by simp⟩,by rw [zej (zj0 r) hx];simp [zj0]⟩
  .refine gE2 ?_;have e:k=(zaK r.per).length:=by omega
   subst e;rw [xah];exact .refl _
def ycZ (r:Req) (n:Int):Pure prog 139 [r.pv,.i .i64 n] (r.at n).pv:=by
 refine pz func139 f139.eq_1 λhw X hX=>?_
 have qe:=@qR;exact gD2
def yal {r:Req} (h:zbY r=0) {n:Int} (h0:0<=n) (h1:n<=1439):zbY (r.at n)=0:=by
 have hm:=(zeR h).2;have e:rng n 0 1439=rng r.minute 0 1439:=by rw [zdR.2 ⟨h0,h1⟩,zdR.2 hm]
 unfold zbY at h ⊢;simp only [Req.at,e];exact h
theorem yQ {α β:Type} {f:α->List β}:∀ {l:List α},(∀ x ∈ l,(f x).length=c)->(l.flatMap f).length=l.length*c
 | [],_=>by simp
 | x::r,h=>by
  have h1:=h x (by simp)
  have h2:=yQ (l:=r) λy hy=>h y (by simp [hy])
  simp only [xat,xad,xaz,Nat.succ_mul];omega
def yab {l:Lim} (h:zr l=0):((zaq l).length:Int)=ycb l:=by
 rw [ze0 h,ycb,if_pos h,yQ (c:=zkw l) (λd _=>by simp [zno])]
 rw [Int.natCast_mul,Int.mul_comm]
def mgK (l:List Mov) (k:Nat):List Mov:=(l.take k).foldl (zov zjb) []
def yas {l:List Mov} {k:Nat} (h:k<=l.length):(mgK l k).length=k:=by
 have:=(zdH zjb (l.take k) []).length_eq;rw [mgK,this];simp;omega
def yb9 {l:List Mov} {k:Nat} {x:Mov} (h:l[k]?=some x):mgK l (k+1)=zov zjb (mgK l k) x:=by
 rw [mgK,xaW,h,xaP];rfl
def allMv (l:List Mov):l.all ((λx=>x.cells.all PV.one) ∘ Mov.pv)=true:=by rw [xaO];intro x _;rfl
def allTk (h:l.all (λx=>x.cells.all PV.one)=true):(l.take n).all (λx=>x.cells.all PV.one)=true:=by rw [xaO] at h ⊢;exact λx hx=>h x (xbu hx)
def allDr (h:l.all (λx=>x.cells.all PV.one)=true):(l.drop n).all (λx=>x.cells.all PV.one)=true:=by rw [xaO] at h ⊢;exact λx hx=>h x (List.mem_of_mem_drop hx)
def ycM {a b:PV} (h:a=b):Weak a b:=h ▸ .refl _
def ybf (a b:Mov):Pure prog 197 [a.pv,b.pv] (.b (zjb a b)):=by
 refine pz func197 f197.eq_1 λhw X hX=>?_
 by_cases h1:a.moment=b.moment
 .by_cases h2:a.kind=b.kind
  .have h1':=eq_true h1;have h2':=eq_true h2;have qe:=aI @h1' @h2';refine gE2 ?_;rw [zjb,if_pos h1,if_pos h2];exact .refl _
  .have h1':=eq_true h1;have h2':=eq_false h2;have qe:=aI @h1' @h2';refine gE2 ?_;rw [zjb,if_pos h1,if_neg h2];exact .refl _
 .have h1':=eq_false h1;have qe:=@h1';refine gE2 ?_;rw [zjb,if_neg h1];exact .refl _
def ycc {x:Mov} (hy:out[q]?=some y) (hb:zjb x y=false):zc2 zjb x out (q+1)=q+1:=by
 simp only [zc2,hy];rw [if_neg (by simp [hb])]
def ins_go {x:Mov} (hy:out[q]?=some y) (hb:zjb x y=true):zc2 zjb x out (q+1)=zc2 zjb x out q:=by
 simp only [zc2,hy];rw [if_pos hb]
def ycz {l:List Mov} {k:Nat} {x:Mov} (hx:l[k]?=some x) (h:q=zc2 zjb x (mgK l k) k):((mgK l k).map Mov.pv).take q++x.pv::((mgK l k).map Mov.pv).drop q=(mgK l (k+1)).map Mov.pv:=by
 have hk:k<=l.length:=Nat.le_of_lt (xaa.1 hx).1;rw [yb9 hx,zov,yas hk,<-h];simp
def mgT {l:List Mov} {k:Nat} (hk:k<=l.length) (hq:q<=k):(((mgK l k).map Mov.pv).take q).length=q/\(((mgK l k).map Mov.pv).drop q).length=k - q/\((((mgK l k).map Mov.pv).take q).all (λx=>x.cells.all PV.one)=true)=True/\((((mgK l k).map Mov.pv).drop q).all (λx=>x.cells.all PV.one)=true)=True:=by
 have h:=yas hk;have ha:((mgK l k).map Mov.pv).all (λx=>x.cells.all PV.one)=true:=by rw [List.all_map];exact allMv _
 exact ⟨by simp;omega,by simp;omega,eq_true (allTk ha),eq_true (allDr ha)⟩
def pure69 (a b:List Mov) (hn:a.length+b.length<=1000000):Pure prog 134 [.sl 7 (a.map Mov.pv),.sl 7 (b.map Mov.pv)] (.sl 7 ((zhC zjb a b).map Mov.pv)):=by
 refine pz func134 f134.eq_1 λhw X hX=>?_
 have hl:(a++b).length=a.length+b.length:=xad;have hA:=λl=>eq_true (allMv l)
 have qe:=aI qR @hA;refine gE2 ?_;refine yae (κ:=Nat) (λk=>⟨[(5,.p (.sl 7 ((a++b).map Mov.pv))),(6,.p (.sl 7 ((mgK (a++b) k).map Mov.pv))),(7,.p (.i .i64 k))],[],[],false⟩) (λk=>k<=(a++b).length) (λk=>(a++b).length - k) 0 ?_ ?_ ?_
 .refine .x 5 (.sl 7 ((a++b).map Mov.pv)) ?_ (hw:=ycM (by simp))
  refine .x 6 (.sl 7 []) ?_;exact .cov (by simp only [qS,seval]<;>simp [mgK])
 .simp
 .intro k hk;have hkl:=yas hk
  by_cases hlt:k < (a++b).length
  .obtain ⟨x,hx⟩:=zj (i:=k) (l:=a++b) (by omega)
   have qe:=aI qR (aI @hA (aI @hx (aI @hkl @hl)));refine gE2 ?_;refine zh (κ:=Nat) (λq=>⟨[(5,.p (.sl 7 ((a++b).map Mov.pv))),(6,.p (.sl 7 ((mgK (a++b) k).map Mov.pv))),(7,.p (.i .i64 k)),(8,.p (.i .i64 q))],[],[],false⟩) (λq=>q<=k/\zc2 zjb x (mgK (a++b) k) q=zc2 zjb x (mgK (a++b) k) k) (λq=>q) k ?_ ?_ ?_
   .exact sS
   .simp
   .intro q hq;cases q with
    | zero=>
     obtain ⟨hT1,hT2,hT3,hT4⟩:=mgT (l:=a++b) (k:=k) (q:=0) (by omega) (by omega)
     have i0:(0 < ((0:Nat):Int))=False:=eq_false (by omega)
     have qe:=aI qR (aI @hA (aI @hx (aI @i0 (aI @hT1 (aI @hT2 (aI @hT3 (aI @hT4 (aI @hkl (aI @hl (aI @lpN (aI @lpE @lpR)))))))))));repeat' first|refine gC ?_ ?_<;>intro hc<;>try contradiction|(show zp _ _ _ _ (⟨_,.call _,_,_,_⟩::_) _ _;refine zkX (hf:=λhc=>(by first|exact (absurd hc (by decide):Pure prog 197 _ (.b false))|(simp only [qH,zdR] at hc;exact (absurd hc (by decide):Pure prog 197 _ (.b false))))) (hn:=?_))|refine gG ?_|show AK _;intro J Z|refine gJ ?_|omega|exact aT
     refine ⟨k+1,by omega,by dsimp only;omega,.x 6 (.sl 7 ((mgK (a++b) (k+1)).map Mov.pv)) ?_ (hw:=ycM (by rw [<-ycz hx (show 0=_ from hq.2)];simp))⟩
     exact .cov (sS)
    | succ q=>
     obtain ⟨y,hy⟩:=zj (i:=q) (l:=mgK (a++b) k) (by omega)
     have i0:(0 < ((q+1:Nat):Int))=True:=eq_true (by omega)
     have i1:((q+1:Nat):Int) - 1=(q:Int):=by omega
     obtain ⟨hT1,hT2,hT3,hT4⟩:=mgT (l:=a++b) (k:=k) (q:=q+1) (by omega) (by omega)
     cases hb:zjb x y with
     | true=>
      have h0:=ins_go hy hb;have qe:=aI qR (aI @hA (aI @hx (aI @hy (aI @hb (aI @i0 (aI @i1 (aI @hT1 (aI @hT2 (aI @hT3 (aI @hT4 (aI @hkl (aI @hl (aI @lpN (aI @lpE @lpR))))))))))))));have jA:=ybf x y;refine gE2 ?_;exact ⟨q,⟨by omega,by rw [<-h0];exact hq.2⟩,by omega,rfl⟩
     | false=>
      have h0:=ycc hy hb;have qe:=aI qR (aI @hA (aI @hx (aI @hy (aI @hb (aI @i0 (aI @i1 (aI @hT1 (aI @hT2 (aI @hT3 (aI @hT4 (aI @hkl (aI @hl (aI @lpN (aI @lpE @lpR))))))))))))));have jA:=ybf x y;refine gE2 ?_;refine ⟨k+1,by omega,by dsimp only;omega,.x 6 (.sl 7 ((mgK (a++b) (k+1)).map Mov.pv)) ?_ (hw:=ycM (by rw [<-ycz hx (h0.symm.trans hq.2)];simp))⟩
      exact .cov (sS)
  .have qe:=aI qR (aI @hA (aI @hkl (aI @hl (aI @lpN (aI @lpE @lpR)))));refine gE2 ?_;have e:k=(a++b).length:=by omega
   have e2:mgK (a++b) (a++b).length=zhC zjb a b:=by rw [mgK,xah];rfl
   subst e;rw [e2];exact .refl _
theorem ycC:∀ (a b:List Int),zn (a++b)=if zn a=0 then zn b else zn a
 | [],b=>by simp [zn]
 | x::r,b=>by
  by_cases h:x=0
  .simp only [xaM,zn,if_pos h,ycC r b]
  .simp only [xaM,zn,if_neg h]
def ya8 {α:Type} {c:α->α->Int} (hs:SW (zaJ c)) (L:List α):srt (zaJ c) (zz c L):=by rw [zz,zd8 hs];exact zaU hs L
def y6 (m e l s:Int) (j:Nat):List Int:=(if e<=m - j*s then [m - j*s] else [])++(if 0 < (j:Int)*s/\m+j*s<=l then [m+j*s] else [])
def yay (m e l s:Int) (K:Nat):List Int:=(List.range K).flatMap (y6 m e l s)
def ltC (m a b:Int):Prop:=zdV (a - m) < zdV (b - m)\/(zdV (a - m)=zdV (b - m)/\a < b)
def ybz (m a b:Int):cmpC m a b < 0↔ltC m a b:=by
 unfold cmpC ltC;simp only [zn]
 by_cases h:zdV (a - m)=zdV (b - m)
 .rw [if_pos ((zgZ _ _).2 h)]
  by_cases h2:zi9 a b=0
  .rw [if_pos h2];have:=(zgZ _ _).1 h2;omega
  .rw [if_neg h2,zgY];omega
 .rw [if_neg λk=>h ((zgZ _ _).1 k),zgY];omega
def ybm (m a:Int):¬ltC m a a:=by unfold ltC;omega
def ycx (m a b c:Int) (h:ltC m a b) (k:ltC m b c):ltC m a c:=by unfold ltC at *;omega
def yA {l s:Int} (hs:1<=s):x ∈ y6 m e l s j↔(x=m - j*s/\e<=x)\/(x=m+j*s/\0 < (j:Int)*s/\x<=l):=by
 unfold y6;rw [xaS]
 constructor
 .rintro (h|h)
  .split at h
   .simp at h;subst h;exact .inl ⟨rfl,by assumption⟩
   .simp at h
  .split at h
   .rename_i h2;simp at h;subst h;exact .inr ⟨rfl,h2.1,h2.2⟩
   .simp at h
 .rintro (⟨rfl,h⟩|⟨rfl,h1,h2⟩)
  .left;rw [if_pos h];simp
  .right;rw [if_pos ⟨h1,h2⟩];simp
def yB {d:Int} (h:0<=d):zdV (m - d - m)=d/\zdV (m+d - m)=d:=by unfold zdV;omega
def yaR {l s:Int} (hs:1<=s) (h:x ∈ y6 m e l s j):zdV (x - m)=j*s:=by
 have hj:0<=(j:Int)*s:=Int.mul_nonneg (by omega) (by omega)
 rcases (yA hs).1 h with ⟨rfl,_⟩|⟨rfl,_⟩
 .exact (yB hj).1
 .exact (yB hj).2
theorem yaQ {l s:Int} (hs:1<=s):∀ K,(yay m e l s K).Pairwise (ltC m)
 | 0=>by simp [yay]
 | K+1=>by
  rw [yay,zbE,<-yay];refine xcq.2 ⟨yaQ hs K,?_,λa ha b hb=>?_⟩
  .unfold y6
   split<;>split<;>simp
   rename_i h1 h2
   right
   have hj:0<=(K:Int)*s:=by omega
   exact ⟨by rw [(yB hj).1,(yB hj).2],by omega⟩
  .obtain ⟨j,hj,ha⟩:=xaw.1 ha;have hj:j < K:=by simpa using hj
   left
   rw [yaR hs ha,yaR hs hb];exact Int.mul_lt_mul_of_pos_right (by omega) (by omega)
def ya1 {l s:Int} (hs:1<=s):(zkM m e l s).Nodup:=by
 unfold zkM;refine xca.2 (List.nodup_range.imp fun {a b} h k=>h ?_)
 have:(a:Int)*s=b*s:=by omega
 have:=Int.eq_of_mul_eq_mul_right (show s≠0 by omega) this
 omega
def ycl {l s:Int} (hs:1<=s) (h1:e<=m) (h2:m<=l) (he:0<=e) (hl:l<=1439) (hK:1440<=(K:Int)*s):x ∈ yay m e l s K↔e<=x/\x<=l/\∃ k:Int,x=m+k*s:=by
 unfold yay;rw [xaw]
 constructor
 .rintro ⟨j,hj,hx⟩;have hj0:0<=(j:Int)*s:=Int.mul_nonneg (by omega) (by omega)
  rcases (yA hs).1 hx with ⟨rfl,h⟩|⟨rfl,h,h3⟩
  .exact ⟨h,by omega,-(j:Int),by rw [Int.neg_mul];omega⟩
  .exact ⟨by omega,h3,j,rfl⟩
 .rintro ⟨g1,g2,k,rfl⟩;have lt_of:∀ j:Nat,(j:Int)*s<=1439->j < K:=λj hj=>by
   refine Decidable.byContradiction λhk=>?_
   have:(K:Int)*s<=j*s:=Int.mul_le_mul_of_nonneg_right (by omega) (by omega)
   omega
  by_cases hk:0 < k
  .have e1:((k.toNat:Nat):Int)=k:=xbm (by omega)
   have hp:0 < k*s:=Int.mul_pos hk (by omega)
   exact ⟨k.toNat,xaG.2 (lt_of _ (by rw [e1];omega)),(yA hs).2 (.inr ⟨by rw [e1],by rw [e1];exact hp,g2⟩)⟩
  .have e1:(((-k).toNat:Nat):Int)=-k:=xbm (by omega)
   have e2:(-k)*s=-(k*s):=Int.neg_mul ..;exact ⟨(-k).toNat,xaG.2 (lt_of _ (by rw [e1,e2];omega)),(yA hs).2 (.inl ⟨by rw [e1,e2];omega,g1⟩)⟩
def ydh (m:Int):SW (zaJ (cmpC m)) where
 asym x y h:=by
  simp only [zaJ,decide_eq_true_eq,decide_eq_false_iff_not,ybz] at h ⊢;exact λk=>ybm m x (ycx m _ _ _ h k)
 nt x y z h k:=by
  simp only [zaJ,decide_eq_false_iff_not,ybz] at h k ⊢;unfold ltC at *;omega
def can_eq {l s:Int} (hs:1<=s) (h1:e<=m) (h2:m<=l) (he:0<=e) (hl:l<=1439) (hK:1440<=(K:Int)*s):zz (cmpC m) (zkM m e l s)=yay m e l s K:=by
 have hp:=zhs (cmpC m) (zkM m e l s);have hnd:(zz (cmpC m) (zkM m e l s)).Nodup:=hp.symm.nodup (ya1 hs);have hsr:=ya8 (ydh m) (zkM m e l s);refine zpx (ybm m) (ycx m) ?_ (yaQ hs K) λx=>?_
 .refine (hsr.and hnd).imp fun {a b} h=>?_
  have h3:=h.1;simp only [zaJ,decide_eq_false_iff_not,ybz] at h3;have h4:=h.2;unfold ltC zdV at *;omega
 .rw [hp.mem_iff,zvF hs h1 h2,ycl hs h1 h2 he hl hK]
section
variable {α:Type}
end
theorem yz {α β:Type} {f g:α->List β}:∀ {L:List α},(∀ x ∈ L,f x=g x)->L.flatMap f=L.flatMap g
 | [],_=>rfl
 | x::L,h=>by rw [xat,xat,h x (by simp),yz λy hy=>h y (by simp [hy])]
def ycB (l r:List Int):zn (zn l::r)=zn (l++r):=by
 rw [ycC]
 by_cases h:zn l=0
 .rw [zro h,if_pos h]
 .rw [zlL h,if_neg h]
theorem fE_of:∀ {l:List Int},(∀ x ∈ l,x=0)->zn l=0
 | [],_=>rfl
 | x::r,h=>zi.2 ⟨h x (by simp),fE_of λy hy=>h y (by simp [hy])⟩
def yj {α:Type} {f:Nat->α->Int} {l:List α} (h:∀ i x,l[i]?=some x->f i x=0):zn (l.mapIdx f)=0:=fE_of λy hy=>by
 obtain ⟨i,hi⟩:=xbl.1 hy;rw [xcp] at hi;cases hx:l[i]? with
 | none=>rw [hx] at hi;cases hi
 | some x=>
  rw [hx] at hi;have e:f i x=y:=xa5 hi;rw [<-e];exact h i x hx
def y4 {m:List Mov}:yaP ls m=[]↔∀ l ∈ ls,∀ b ∈ zaq l,zbb l m b<=l.most:=by
 unfold yaP yaj
 constructor
 .intro h l hm b hb;obtain ⟨i,hi⟩:=xbl.1 hm;have hlt:=(xaa.1 hi).1;have h1:=List.flatMap_eq_nil_iff.1 h i (xaG.2 hlt);rw [yck,hi] at h1;have h2:=List.flatMap_eq_nil_iff.1 h1 b hb;rw [y9] at h2
  split at h2
  .cases h2
  .omega
 .intro h;refine List.flatMap_eq_nil_iff.2 λi _=>?_
  unfold yck;split
  .rename_i l hi;refine List.flatMap_eq_nil_iff.2 λb hb=>?_
   have:=h l (xae hi) b hb;rw [y9,if_neg (by omega)]
  .rfl
theorem yaO {β:Type} {k:Ky} {v:β}:∀ {E:List (Ky × β)},ziL k E=some v->(k,v) ∈ E
 | [],h=>by cases h
 | x::E,h=>by
  rw [ziL] at h
  split at h
  .rename_i e;injection h with h;subst e;subst h;exact xaA
  .exact xaH _ (yaO h)
theorem ybs {β:Type} {k:Ky} {v:β}:∀ {E:List (Ky × β)},(E.map (·.1)).Nodup->(k,v) ∈ E->ziL k E=some v
 | [],_,h=>by cases h
 | x::E,hn,h=>by
  obtain ⟨h1,h2⟩:=xbR.1 hn;rw [ziL]
  rcases xaI.1 h with rfl|h
  .rw [if_pos rfl]
  .rw [if_neg λe=>h1 (xaN.2 ⟨(k,v),h,e.symm⟩)];exact ybs h2 h
def exB_eq (hl:∀ l ∈ ls,zr l=0) {b:Brd} {P:List Mov} (h:zeV ls b P):exB ls b=true↔yaP ls P≠[]:=by
 unfold exB;rw [xaV]
 constructor
 .rintro ⟨e,he,hx⟩;obtain ⟨l,k1,k2⟩:=h.1.w e he;have hc:=h.2 e.1 l k1 k2;have hg:ziL e.1 b.C=some e.2:=ybs h.1.n he;rw [zbh,hg] at hc;have hc:e.2=zbb l P e.1.2:=hc;have hm:zdn ls (e.1.1:Int)=l.most:=by simp only [zdn,xam,k1]
  have hx:=of_decide_eq_true hx;refine List.ne_nil_of_mem (a:=(⟨e.1.1,e.1.2,zbb l P e.1.2⟩:Win)) ?_;unfold yaP yaj;refine xaw.2 ⟨e.1.1,xaG.2 (xaa.1 k1).1,?_⟩;unfold yck;rw [k1];simp only;unfold ycD;refine xaw.2 ⟨e.1.2,k2,?_⟩;unfold y9;rw [if_pos (by omega)];simp
 .intro hne;obtain ⟨w,hw⟩:=List.exists_mem_of_ne_nil _ hne;unfold yaP yaj at hw;obtain ⟨i,_,hw⟩:=xaw.1 hw;unfold yck at hw;cases hi:ls[i]? with
  | none=>rw [hi] at hw;cases hw
  | some l=>
   rw [hi] at hw;simp only at hw;unfold ycD at hw;obtain ⟨x,hx,hw⟩:=xaw.1 hw;unfold y9 at hw;have h0:=zaa (hl l (xae hi))
   split at hw
   .rename_i hlt;have hc:=h.2 (i,x) l hi hx;have hm:zdn ls (i:Int)=l.most:=by simp only [zdn,xam,hi]
    cases hg:ziL (i,x) b.C with
    | none=>
     rw [zbh,hg] at hc;have hc:0=zbb l P x:=hc
     omega
    | some n=>
     rw [zbh,hg] at hc;have hc:n=zbb l P x:=hc;refine ⟨((i,x),n),yaO hg,decide_eq_true ?_⟩;show zdn ls (i:Int) < n
     omega
   .cases hw
def yaa (L:List Wis) (R:List Res) (i:Nat):Bool:=zhp L R ((i:Int),zau L i)
def ycF (h:zav L=0) (hw:L[i]?=some w):zbY w.req=0:=by
 have:=((zR h).2 i w hw).1;unfold zcB zfI at this;exact (zi.1 (zi.1 this).1).1
def yaA (h:zav L=0) (hw:L[i]?=some w):w.req.kind=sA\/w.req.kind=sD:=by
 have:=ycF h hw;unfold zbY at this;have:=(zi.1 (zi.1 this).2).1;unfold zgM at this
 by_cases h1:w.req.kind=sA
 .exact .inl h1
 .by_cases h2:w.req.kind=sD
  .exact .inr h2
  .rw [if_pos ⟨h1,h2⟩] at this;cases this
def ybg (h:zav L=0) {k:Nat} {a b:Wis} (hk:LnkTo L i k a b) (x y:Int):ze8 a b x y=ze8 b a y x:=by
 have ka:=yaA h hk.at_a;have kb:=yaA h hk.at_b;have hne:=hk.kind;have hAD:sA≠sD:=by decide
 unfold ze8
 rcases ka with ka|ka<;>rcases kb with kb|kb
 .exact absurd (kb.trans ka.symm) hne
 .rw [if_neg (by rw [ka];exact hAD),if_pos kb]
 .rw [if_pos ka,if_neg (by rw [kb];exact hAD)]
 .exact absurd (kb.trans ka.symm) hne
def ydm (h:zav L=0) (R:List Res) {k:Nat} {a b:Wis} (hk:LnkTo L i k a b):yaa L R i=yaa L R k:=by
 unfold yaa zhp zyn grO;rw [hk.lab,hk.lba];simp only [xam,hk.at_a,hk.at_b,show ¬((k:Int) < 0) by omega,show ¬((i:Int) < 0) by omega,if_false,decide_false,xb5,show (0:Int)<=k by omega,show (0:Int)<=i by omega,decide_true,xaZ]
 rw [ybg h hk];cases (za5 R i).gr<;>cases (za5 R k).gr<;>simp
def y7 (h:zav L=0) (R:List Res):(zq L).any (zhp L R)=(List.range L.length).any (yaa L R):=by
 rw [xbG,xaV,xaV]
 constructor
 .rintro ⟨u,hu,hb⟩;obtain ⟨i,hi,rfl,_⟩:=zdd.1 hu;exact ⟨i,xaG.2 hi,hb⟩
 .rintro ⟨i,hi,hb⟩;have hi:=xaG.1 hi;obtain ⟨a,ha⟩:=zj hi
  rcases zcH h ha with hk|⟨k,b,hk⟩
  .exact ⟨_,zdd.2 ⟨i,hi,rfl,.inl (by omega)⟩,hb⟩
  .by_cases hik:i < k
   .exact ⟨_,zdd.2 ⟨i,hi,rfl,.inr (by rw [hk.lab];omega)⟩,hb⟩
   .have hne:=hk.ne;rw [ydm h R hk] at hb;exact ⟨_,zdd.2 ⟨k,(xaa.1 hk.at_b).1,rfl,.inr (by rw [hk.lba];omega)⟩,hb⟩
def ych (hl:∀ l ∈ ls,zr l=0) {a b:List Mov} (hp:a.Perm b):yaP ls a=yaP ls b:=by
 unfold yaP yaj;refine zcK λi _=>?_
 unfold yck;cases hi:ls[i]? with
 | none=>rfl
 | some l=>
  have h0:=zaa (hl l (xae hi));simp only [];unfold ycD;refine zcK λx _=>?_
  unfold y9;rw [zng (by omega) hp]
def ym (hl:∀ l ∈ ls,zr l=0) (L:List Wis) (R:List Res) (f:Nat->Bool):exB ls (zy ls ⟨[],[]⟩ (zlk L R f) 1)=true↔yaP ls (zlk L R f)≠[]:=by
 rw [exB_eq hl (zsb hl L R f),ych hl (zgx L R f)]
open Go.RowKit Go.Proofs.Tryz Go.ChangeShapes Go.WideShapes Go.ChangeAt
abbrev jT:CP:=.i .i64
def limT6:List CP:=[.s,.s,.s,jT,jT,jT,jT,jT,jT,jT,jT]
def wisT6:List CP:=[.s,.s,.s,.s,.s,.s,jT,jT,jT,jT,jT,jT,jT,jT,jT,jT,jT,jT]
theorem yat {α:Type} {f:α->PV}:∀ {xs:List PV},(∀ x ∈ xs,∃ a,x=f a)->∃ L:List α,xs=L.map f
 | [],_=>⟨[],rfl⟩
 | x::r,h=>by
  obtain ⟨a,rfl⟩:=h x (by simp)
  obtain ⟨L,rfl⟩:=yat (xs:=r) λy hy=>h y (by simp [hy])
  exact ⟨a::L,rfl⟩
def ycg (h:FitAll (Fit n) (.s::cs) l):∃ (a:ByteArray) (r:List PV),l=.s a::r/\FitAll (Fit n) cs r:=by
 cases l with
 | nil=>exact absurd h (by simp [FitAll])
 | cons x r=>
  obtain ⟨h1,h2⟩:=h;cases n<;>(obtain ⟨a,rfl⟩:=h1;exact ⟨a,r,rfl,h2⟩)
def yR (h:FitAll (Fit n) (jT::cs) l):∃ (a:Int) (r:List PV),l=.i .i64 a::r/\FitAll (Fit n) cs r:=by
 cases l with
 | nil=>exact absurd h (by simp [FitAll])
 | cons x r=>
  obtain ⟨h1,h2⟩:=h;cases n<;>(obtain ⟨a,rfl⟩:=h1;exact ⟨a,r,rfl,h2⟩)
def ycA (h:FitAll (Fit n) [] l):l=[]:=by
 cases l with
 | nil=>rfl
 | cons x r=>exact absurd h (by simp [FitAll])
def yc5 (h:FitAll (Fit n) limT6 l):∃ x:Lim,.agg l=x.pv:=by
 obtain ⟨v0,r0,e0,g0⟩:=ycg h;obtain ⟨v1,r1,e1,g1⟩:=ycg g0;obtain ⟨v2,r2,e2,g2⟩:=ycg g1;obtain ⟨v3,r3,e3,g3⟩:=yR g2;obtain ⟨v4,r4,e4,g4⟩:=yR g3;obtain ⟨v5,r5,e5,g5⟩:=yR g4;obtain ⟨v6,r6,e6,g6⟩:=yR g5;obtain ⟨v7,r7,e7,g7⟩:=yR g6;obtain ⟨v8,r8,e8,g8⟩:=yR g7;obtain ⟨v9,r9,e9,g9⟩:=yR g8;obtain ⟨v10,r10,e10,g10⟩:=yR g9;have e:=ycA g10;subst e0 e1 e2 e3 e4 e5 e6 e7 e8 e9 e10 e;exact ⟨⟨v0,v1,v2,v3,v4,v5,v6,⟨v7,v8,v9⟩,v10⟩,rfl⟩
def ycG (h:FitAll (Fit n) wisT6 l):∃ x:Wis,.agg l=x.pv:=by
 obtain ⟨v0,r0,e0,g0⟩:=ycg h;obtain ⟨v1,r1,e1,g1⟩:=ycg g0;obtain ⟨v2,r2,e2,g2⟩:=ycg g1;obtain ⟨v3,r3,e3,g3⟩:=ycg g2;obtain ⟨v4,r4,e4,g4⟩:=ycg g3;obtain ⟨v5,r5,e5,g5⟩:=ycg g4;obtain ⟨v6,r6,e6,g6⟩:=yR g5;obtain ⟨v7,r7,e7,g7⟩:=yR g6;obtain ⟨v8,r8,e8,g8⟩:=yR g7;obtain ⟨v9,r9,e9,g9⟩:=yR g8;obtain ⟨v10,r10,e10,g10⟩:=yR g9;obtain ⟨v11,r11,e11,g11⟩:=yR g10;obtain ⟨v12,r12,e12,g12⟩:=yR g11;obtain ⟨v13,r13,e13,g13⟩:=yR g12;obtain ⟨v14,r14,e14,g14⟩:=yR g13;obtain ⟨v15,r15,e15,g15⟩:=yR g14;obtain ⟨v16,r16,e16,g16⟩:=yR g15;obtain ⟨v17,r17,e17,g17⟩:=yR g16;have e:=ycA g17;subst e0 e1 e2 e3 e4 e5 e6 e7 e8 e9 e10 e11 e12 e13 e14 e15 e16 e17 e;exact ⟨⟨⟨v0,v1,v2,v3,v4,v5,⟨v6,v7,v8⟩,v9,v10,v11,v12⟩,v13,v14,v15,v16,v17⟩,rfl⟩
def ybh:ycv prog 6 22=some (false,[.sl true limT6]):=by kernel_rfl
def ya5:prog.underlying 22=some (.slice 84):=by kernel_rfl
def ybC:prog.bytesOf 84=112:=by kernel_rfl
def ybw (h:yL prog 6 22 p):∃ L:List Lim,p=.sl 11 (L.map Lim.pv)/\L.length*112<=140737488355328:=by
 obtain ⟨⟨ag,c,l,hp,rfl,hl⟩,hb⟩:=h;rw [ybh] at hp;simp only [xaK,xcf] at hp;obtain ⟨rfl,rfl⟩:=hp
 match l,hl with
 | [q],⟨⟨xs,hq,hx⟩,_⟩=>
  subst hq;obtain ⟨L,rfl⟩:=yat (f:=Lim.pv) (xs:=xs) λx h=>by
   obtain ⟨l,rfl,hf⟩:=hx x h;exact yc5 hf
  refine ⟨L,rfl,?_⟩;have:=hb.1 84 _ _ ya5 rfl;rw [ybC,xaf] at this;unfold reachBytes at this;omega
def yb5:ycv prog 6 23=some (false,[.sl true wisT6]):=by kernel_rfl
def ybM:prog.underlying 23=some (.slice 61):=by kernel_rfl
def yco:prog.bytesOf 61=192:=by kernel_rfl
def ycf (h:yL prog 6 23 p):∃ L:List Wis,p=.sl 18 (L.map Wis.pv)/\L.length*192<=140737488355328:=by
 obtain ⟨⟨ag,c,l,hp,rfl,hl⟩,hb⟩:=h;rw [yb5] at hp;simp only [xaK,xcf] at hp;obtain ⟨rfl,rfl⟩:=hp
 match l,hl with
 | [q],⟨⟨xs,hq,hx⟩,_⟩=>
  subst hq;obtain ⟨L,rfl⟩:=yat (f:=Wis.pv) (xs:=xs) λx h=>by
   obtain ⟨l,rfl,hf⟩:=hx x h;exact ycG hf
  refine ⟨L,rfl,?_⟩;have:=hb.1 61 _ _ ybM rfl;rw [yco,xaf] at this;unfold reachBytes at this;omega
def own:ownKnob prog.godebug=none:=by kernel_rfl
def laid:laidOutB prog=true:=by kernel_rfl
def und4:prog.underlying 4=some .bool:=by kernel_rfl
def ybt {P:Program} {f:FuncId} {fn:Func} {s:ChangeSpec} {c:OpenClaim} (a1:c.wf (OpenSpec.ofChange s)=true) (a2:laidOutB P=true) (a3:mapsRowed P=true)
  (a4:(fn.params.all (P.readableRec ·) && namedTie P c.named s.vars && (c.stops == []) && (P.stops == []) && (c.knobs == []) && (P.stopKnobs == []))=true)
  (b1:(c.inPlace == P.inPlace f)=true) (b2:(c.unfollowed == P.unfollowed f)=true) (b3:(c.recurses == P.recurses f)=true) (b4:(c.named == P.varsNamed f)=true)
  (d1:((c.maps == (fn.params.toList++s.plain.varTypes P).any (P.mapsRec ·)) && (c.ifaces == (fn.params.toList++s.plain.varTypes P).any (P.ifacesRec ·)) && (c.mapsOut == P.mapsAmong fn.resultTypes.toList) &&
 (c.loops == (fn.params.toList++s.plain.varTypes P).any (P.loopsFrom ·)) && (c.wideKeys == (fn.params.toList++s.plain.varTypes P++fn.resultTypes.toList).any (P.wideKeysFrom ·)))=true)
  (d2:(s.vars.all (P.varReadable ·) && fn.resultTypes.all (λt=>P.readableRec t && decide (t < P.types.size)) && (c.ifacesOut == fn.resultTypes.toList.any (P.ifacesRec ·)) && (c.loopsOut == fn.resultTypes.toList.any (P.loopsFrom ·)))=true)
  (d3:((c.plainKeys == P.plainKeys) && c.shortTexts.isNone && P.stopsHeard && P.mayEnter && (c.lifted == P.liftsFinal) && (P.make == some c.make))=true)
  (d4:((c.kinds == (if c.domain.isEmpty then [] else fn.params.toList.map λt=>match P.underlying t with|some (.int k)=>some k|_=>none)) && (c.pinned == c.pinnedBy))=true)
  (d5:((c.veiled == (fn.params.toList++s.plain.varTypes P++fn.resultTypes.toList).any (P.veiledRec ·)) && c.veiledFits P fn.params.toList (fn.params.toList++s.plain.varTypes P++fn.resultTypes.toList))=true):joinedFacts P f fn s c=true:=by
 unfold joinedFacts;simp only [xau] at a4 d1 d2 d3 d4 d5 ⊢;obtain ⟨⟨⟨⟨⟨a4,a5⟩,a6⟩,a7⟩,a8⟩,a9⟩:=a4;obtain ⟨⟨⟨⟨e1,e2⟩,e3⟩,e4⟩,e5⟩:=d1;obtain ⟨⟨⟨e6,e7⟩,e8⟩,e9⟩:=d2;obtain ⟨⟨⟨⟨⟨f1,f2⟩,f3⟩,f4⟩,f5⟩,f6⟩:=d3;obtain ⟨f7,f8⟩:=d4;obtain ⟨f9,g1⟩:=d5;exact ⟨⟨⟨⟨⟨⟨⟨⟨⟨⟨⟨⟨⟨⟨⟨⟨⟨⟨⟨⟨⟨⟨⟨⟨⟨⟨⟨⟨⟨⟨⟨a1,a2⟩,a3⟩,a4⟩,a5⟩,a6⟩,a7⟩,a8⟩,a9⟩,b1⟩,b2⟩,b3⟩,b4⟩,e1⟩,e2⟩,e3⟩,e4⟩,e5⟩,e6⟩,e7⟩,e8⟩,e9⟩,f1⟩,f2⟩,f3⟩,f4⟩,f5⟩,f6⟩,f7⟩,f8⟩,f9⟩,g1⟩
def rowed:mapsRowed prog=true:=by kernel_rfl
