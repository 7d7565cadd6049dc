/- Contracts of functions, for the claim. No conditions. -/
import Derived.Test.YtijgimeokgbifaaGreatK1
set_option linter.all false
set_option maxHeartbeats 8000000
set_option maxRecDepth 100000
namespace Go.Proofs.YtijgimeokgbifaaGreat
open Go.RowKit
structure Rec where
 o:RO
 v:LV
 wr:List (Nat × LObj)
 ro:List Nat
def zgp:List (Nat × LObj)->Nat->Option LObj
 | [],_=>none
 | (j,o)::r,k=>match zgp r k with
  | some x=>some x
  | none=>if k=j then some o else none
def gW (x:Rec) (k:Nat):Option LV:=if x.o.dst=some k then some x.v else none
def oW (x:Rec) (k:Nat):Option (Option LObj):=(zgp x.wr k).map some
theorem zdr:∀ (wr:List (Nat × LObj)) (s:St) (k:Nat),(s.wrs wr).look k=((zgp wr k).map some).getD (s.look k)
 | [],_,_=>rfl
 | (j,o)::r,s,k=>by
  rw [St.wrs,zdr r];simp only [zgp];cases h:zgp r k with
  | some x=>rfl
  | none=>
   simp only [xcC,Option.getD_none,St.look,St.wr,zbl,upd]
   split<;>rfl
theorem zhq:∀ {wr:List (Nat × LObj)} {k:Nat},(zgp wr k).isSome=true->k ∈ wr.map (·.1)
 | [],k,h=>by simp [zgp] at h
 | (j,o)::r,k,h=>by
  simp only [zgp] at h;cases hr:zgp r k with
  | some x=>exact xaL _ (zhq (by rw [hr];rfl))
  | none=>
   simp only [hr] at h
   by_cases e:k=j
   ·subst e;exact xar
   ·rw [if_neg e] at h;cases h
inductive Ch (P:Program):List RO->St->List Rec->St->Prop
 | nil (s:St):Ch P [] s [] s
 | cons {o:RO} {r:List RO} {s s':St} {v:LV} {wr:List (Nat × LObj)} {rs:List Rec}:zbs P s o v wr->Ch P r ((s.wrs wr).set o.dst v) rs s'->Ch P (o::r) s (⟨o,v,wr,rdO s o⟩::rs) s'
def ov {β:Type} (W:Rec->Nat->Option β):List Rec->Nat->(Nat->Bool)->(Nat->β)->Nat->β
 | [],_,_,f,k=>f k
 | x::xs,n,S,f,k=>ov W xs (n+1) S (λk=>if S n then (W x k).getD (f k) else f k) k
theorem zce {β:Type} {W:Rec->Nat->Option β} {S T:Nat->Bool} {k:Nat}:∀ {rs:List Rec} {n:Nat} {f f':Nat->β},(∀ j x,rs[j]?=some x->(W x k).isSome=true->S (n+j)=T (n+j))->f k=f' k->ov W rs n S f k=ov W rs n T f' k
 | [],n,f,f',_,hf=>hf
 | x::xs,n,f,f',h,hf=>by
  simp only [ov];refine zce (λj y hy hw=>?_) ?_
  ·have:=h (j+1) y (by simpa using hy) hw
   rw [show n+1+j=n+(j+1) by omega];exact this
  ·cases hw:W x k with
   | none=>simp [hf]
   | some b=>
    have:=h 0 x rfl (by rw [hw];rfl)
    simp only [xbK] at this;simp only [this,hf]
theorem zb1 {β:Type} {W:Rec->Nat->Option β} {S:Nat->Bool} {k:Nat}:∀ {rs:List Rec} {n:Nat} {f:Nat->β},(∀ j,n<=j->S j=false)->ov W rs n S f k=f k
 | [],n,f,_=>rfl
 | x::xs,n,f,h=>by
  simp only [ov];rw [zb1 (λj hj=>h j (by omega))]
  simp [h n (xaj _)]
theorem zg9 (s:St) (x:Rec) (k:Nat):((s.wrs x.wr).set x.o.dst x.v).get k=(gW x k).getD (s.get k):=by
 rw [zjw,zda];simp only [gW];cases hd:x.o.dst with
 | none=>simp
 | some d=>
  simp only [upd,xaR]
  by_cases h:k=d
  ·subst h;simp
  ·rw [if_neg h,if_neg (λe=>h e.symm)];rfl
theorem ze2 (s:St) (x:Rec) (k:Nat):((s.wrs x.wr).set x.o.dst x.v).look k=(oW x k).getD (s.look k):=by
 rw [zgX,zdr];rfl
theorem zyo {P:Program} {l:List RO} {s s':St} {rs:List Rec} (h:Ch P l s rs s'):∀ (n i:Nat) (x:Rec),rs[i]?=some x->∃ si:St,l[i]?=some x.o/\zbs P si x.o x.v x.wr/\x.ro=rdO si x.o /\
  (∀ k,si.get k=ov gW rs n (λj=>decide (j < n+i)) s.get k)/\(∀ k,si.look k=ov oW rs n (λj=>decide (j < n+i)) s.look k):=by
 induction h with
 | nil s=>intro n i x hx;simp at hx
 | @cons o r s s' v wr rs hs hch ih=>
  intro n i x hx;cases i with
  | zero=>
   simp at hx;subst hx;exact ⟨s,rfl,hs,rfl,λk=>(zb1 (λj hj=>by simp;omega)).symm,λk=>(zb1 (λj hj=>by simp;omega)).symm⟩
  | succ i=>
   obtain ⟨si,h1,h2,h3,h4,h5⟩:=ih (n+1) i x (by simpa using hx)
   refine ⟨si,by simpa using h1,h2,h3,λk=>?_,λk=>?_⟩
   ·rw [h4 k];simp only [ov];refine zce (λj y hy hw=>by simp only [decide_eq_decide];omega) ?_
    rw [zg9 s ⟨o,v,wr,rdO s o⟩ k];simp
   ·rw [h5 k];simp only [ov];refine zce (λj y hy hw=>by simp only [decide_eq_decide];omega) ?_
    rw [ze2 s ⟨o,v,wr,rdO s o⟩ k];simp
theorem zyn {P:Program} {l:List RO} {s s':St} {rs:List Rec} (h:Ch P l s rs s'):∀ (n:Nat),rs.length=l.length/\s'.tr=s.tr/\s'.stop=s.stop/\(∀ k,s'.get k=ov gW rs n (λ_=>true) s.get k)/\(∀ k,s'.look k=ov oW rs n (λ_=>true) s.look k):=by
 induction h with
 | nil s=>intro n;exact ⟨rfl,rfl,rfl,λ_=>rfl,λ_=>rfl⟩
 | @cons o r s s' v wr rs hs hch ih=>
  intro n;obtain ⟨h0,h1,h2,h4,h5⟩:=ih (n+1);refine ⟨by simp [h0],by rw [h1,(z7 _ _ _).1,(zbf _ _).1],by rw [h2,(z7 _ _ _).2,(zbf _ _).2],λk=>?_,λk=>?_⟩
  ·rw [h4 k];simp only [ov];refine zce (λj y hy hw=>rfl) ?_
   rw [zg9 s ⟨o,v,wr,rdO s o⟩ k];simp
  ·rw [h5 k];simp only [ov];refine zce (λj y hy hw=>rfl) ?_
   rw [ze2 s ⟨o,v,wr,rdO s o⟩ k];simp
def Rec.wT (x:Rec):List Nat:=x.o.dst.toList
def Rec.rT (x:Rec):List Nat:=rdT x.o
def Rec.wO (x:Rec):List Nat:=x.o.dst.getD 0::x.wr.map (·.1)
def zdq (l m:List Nat):Bool:=l.any λa=>m.contains a
def cf (x y:Rec):Bool:=zdq x.wT y.rT || zdq x.wT y.wT || zdq x.rT y.wT || zdq x.wO y.ro || zdq x.wO y.wO || zdq x.ro y.wO
def dep (b:Nat) (rs:List Rec):Nat->Nat->Nat->Bool
 | 0,_,_=>false
 | f+1,i,j=>match rs[j]? with
  | some x=>x.o.after.contains (b+i) || x.o.after.any λm=>decide (b<=m) && dep b rs f i (m - b)
  | none=>false
def zfk (b:Nat) (rs:List Rec):Bool:=
 (List.range rs.length).all λj=>match rs[j]? with
  | some y=>(y.o.after.all λe=>decide (e < b+j)) && (List.range j).all λi=>match rs[i]? with
   | some x=>!cf x y || dep b rs 3 i j
   | none=>true
  | none=>true
theorem zbw {l m:List Nat} {a:Nat} (h1:a ∈ l) (h2:a ∈ m):zdq l m=true:=by
 simp only [zdq,xbl];exact ⟨a,h1,by simpa using h2⟩
theorem zfl {b:Nat} {rs:List Rec} {S:Nat->Bool} (hcl:∀ j x,rs[j]?=some x->S (b+j)=true->∀ e ∈ x.o.after,S e=true):∀ (f i j:Nat) (x:Rec),rs[j]?=some x->(∀ e ∈ x.o.after,S e=true)->dep b rs f i j=true->S (b+i)=true
 | 0,_,_,_,_,_,h=>by simp [dep] at h
 | f+1,i,j,x,hx,hs,h=>by
  simp only [dep,hx,xa3,xbl,xap,decide_eq_true_eq] at h
  rcases h with h|⟨m,hm,hbm,h⟩
  ·exact hs (b+i) (by simpa using h)
  ·cases hy:rs[m - b]? with
   | none=>
    cases f with
    | zero=>simp [dep] at h
    | succ f=>simp [dep,hy] at h
   | some y=>exact zfl hcl f i (m - b) y hy (hcl (m - b) y hy (by rw [show b+(m - b)=m by omega];exact hs m hm)) h
theorem zoO {b:Nat} {rs:List Rec} (h:zfk b rs=true) {j:Nat} {y:Rec} (hy:rs[j]?=some y):∀ e ∈ y.o.after,e < b+j:=by
 have hj:j < rs.length:=(xaa.1 hy).1;simp only [zfk,xaB,xaV] at h;have:=h j hj;rw [hy] at this;simp only [xap,xaB,decide_eq_true_eq] at this;exact this.1
theorem zoP {b:Nat} {rs:List Rec} (h:zfk b rs=true) {i j:Nat} {x y:Rec} (hij:i < j) (hx:rs[i]?=some x) (hy:rs[j]?=some y) (hc:cf x y=true):dep b rs 3 i j=true:=by
 have hj:j < rs.length:=(xaa.1 hy).1;simp only [zfk,xaB,xaV] at h;have:=h j hj;rw [hy] at this;simp only [xap,xaB,xaV] at this;have:=this.2 i hij;rw [hx] at this;simpa [hc] using this
theorem zaZ {ops:Array Oper} {listed:Array Bool} {i:Nat}:i ∈ Region.ready .any ops listed↔∃ oper,ops[i]?=some oper/\listed.getD i true=false/\∀ e ∈ oper.after.toList,Region.binds .any e=true->listed.getD e.on false=true:=by
 simp only [Region.ready,xbP,xaV,xap,xa6]
 constructor
 ·rintro ⟨hi,h1,h2⟩;have hs:=xav hi;refine ⟨_,hs,h1,λe he hb=>?_⟩
  rw [hs] at h2;simp only [xbE,xa4,Array.all_eq_true] at h2;obtain ⟨n,hn,hne⟩:=List.getElem_of_mem he;have:=h2 n (by simpa using hn)
  simp only [Array.getElem_toList] at hne;rw [hne] at this;simpa [hb] using this
 ·rintro ⟨oper,hs,h1,h2⟩;refine ⟨(xa1.1 hs).1,h1,?_⟩;rw [hs];simp only [xbE,xa4,Array.all_eq_true];intro n hn;cases hb:Region.binds .any oper.after[n] with
  | false=>simp
  | true=>simpa using h2 _ (by simp) hb
theorem zcW {P:Program} {N:Nat} {ops:Array Oper} {oper:Oper} {o:RO} (hr:ROk P N ops oper o) {listed:Nat->Bool}:(∀ e ∈ oper.after.toList,Region.binds .any e=true->listed e.on=true)↔∀ e ∈ o.after,listed e=true:=by
 rw [hr.ha]
 constructor
 ·intro h e he;obtain ⟨x,hx,hxe⟩:=List.mem_filterMap.1 he
  split at hxe
  ·rename_i hb;injection hxe with hxe;subst hxe;exact h x hx hb
  ·cases hxe
 ·intro h e he hb;exact h e.on (List.mem_filterMap.2 ⟨e,he,by rw [if_pos hb]⟩)
theorem zaV {P:Program} {N:Nat} {ops:Array Oper}:∀ {os:List Oper} {l:List RO},zaH P N ops os=some l->os.length=l.length/\∀ (i:Nat) (x:Oper),os[i]?=some x->∃ o,l[i]?=some o/\zby P N ops x=some o
 | [],l,h=>by simp [zaH] at h;subst h;exact ⟨rfl,λi x hx=>by simp at hx⟩
 | y::os,l,h=>by
  simp only [zaH] at h
  split at h
  ·rename_i o r ho hr;injection h with h;subst h;obtain ⟨h1,h2⟩:=zaV hr;refine ⟨by simp [h1],λi x hx=>?_⟩
   cases i with
   | zero=>simp at hx;subst hx;exact ⟨o,rfl,ho⟩
   | succ i=>obtain ⟨o',g1,g2⟩:=h2 i x (by simpa using hx);exact ⟨o',by simpa using g1,g2⟩
  ·cases h
def zg3 (listed:Array Bool) (n:Nat):Nat:=(List.range n).countP λi=>!listed.getD i false
theorem zg2 {listed:Array Bool} {n i:Nat} (hi:i < n) (hs:listed.size=n) (hf:listed.getD i false=false):zg3 (listed.setIfInBounds i true) n+1=zg3 listed n:=by
 unfold zg3;have key:∀ m,m<=n->(List.range m).countP (λj=>!(listed.setIfInBounds i true).getD j false)+(if i < m then 1 else 0)=(List.range m).countP (λj=>!listed.getD j false):=by
  intro m
  induction m with
  | zero=>intro _;simp
  | succ m ih=>
   intro hm;have ih:=ih (by omega)
   rw [xa7,List.countP_append,List.countP_append];simp only [List.countP_singleton]
   by_cases e:i=m
   ·subst e;have h1:(listed.setIfInBounds i true).getD i false=true:=by
     rw [xan,xbX (by omega)];rfl
    rw [h1,hf];simp at ih ⊢
    omega
   ·have h1:(listed.setIfInBounds i true).getD m false=listed.getD m false:=by
     rw [xan,xan,xce e]
    rw [h1];have:(if i < m+1 then 1 else 0)=(if i < m then 1 else 0):=by split<;>split<;>omega
    omega
 have:=key n (xaj _);rw [if_pos hi] at this;exact this
theorem zh0 {listed:Array Bool} {n:Nat} (h:zg3 listed n=0):∀ i,i < n->listed.getD i false=true:=by
 intro i hi;unfold zg3 at h;rw [List.countP_eq_zero] at h;simpa using h i (xaV.2 hi)
theorem znW {β:Type} {W:Rec->Nat->Option β} {k:Nat}:∀ {rs:List Rec} {n i:Nat} {x:Rec} {f:Nat->β},rs[i]?=some x->ov W rs n (λj=>decide (j < n+(i+1))) f k=(W x k).getD (ov W rs n (λj=>decide (j < n+i)) f k)
 | [],n,i,x,f,h=>by simp at h
 | y::rs,n,0,x,f,h=>by
  simp at h;subst h;simp only [ov];rw [zb1 (λj hj=>by simp;omega),zb1 (λj hj=>by simp;omega)]
  simp
 | y::rs,n,i+1,x,f,h=>by
  have:=znW (W:=W) (k:=k) (rs:=rs) (n:=n+1) (i:=i) (x:=x) (f:=λk=>(W y k).getD (f k)) (by simpa using h)
  simp only [ov];have e1:∀ m,ov W rs (n+1) (λj=>decide (j < n+(m+1))) (λk=>if decide (n < n+(m+1))=true then (W y k).getD (f k) else f k) k=ov W rs (n+1) (λj=>decide (j < n+1+m)) (λk=>(W y k).getD (f k)) k:=λm=>
   zce (λj z hz hw=>by simp only [decide_eq_decide];omega) (by simp)
  rw [e1 (i+1),e1 i];exact this
theorem zha {listed:Array Bool} {i j:Nat} (hi:i < listed.size):(listed.setIfInBounds i true).getD j false=if j=i then true else listed.getD j false:=by
 rw [xan,xan]
 by_cases e:j=i
 ·subst e;rw [xbX hi,if_pos rfl];rfl
 ·rw [xce (Ne.symm e),if_neg e]
theorem cf_T {x y:Rec} {k:Nat} (h1:k ∈ x.wT) (h2:k ∈ y.rT\/k ∈ y.wT):cf x y=true/\cf y x=true:=by
 rcases h2 with h2|h2
 ·exact ⟨by simp [cf,zbw h1 h2],by simp [cf,zbw h2 h1]⟩
 ·exact ⟨by simp [cf,zbw h1 h2],by simp [cf,zbw h2 h1]⟩
theorem cf_O {x y:Rec} {k:Nat} (h1:k ∈ x.wO) (h2:k ∈ y.ro\/k ∈ y.wO):cf x y=true/\cf y x=true:=by
 rcases h2 with h2|h2
 ·exact ⟨by simp [cf,zbw h1 h2],by simp [cf,zbw h2 h1]⟩
 ·exact ⟨by simp [cf,zbw h1 h2],by simp [cf,zbw h2 h1]⟩
theorem zs2 {x:Rec} {k:Nat} (h:(gW x k).isSome=true):k ∈ x.wT:=by
 simp only [gW] at h
 split at h
 ·rename_i e;simp [Rec.wT,e]
 ·cases h
theorem zsV {x:Rec} {k:Nat} (h:(oW x k).isSome=true):k ∈ x.wO:=by
 simp only [oW,Option.isSome_map] at h;exact xaL _ (zhq h)
theorem zts {b ii:Nat} {rs:List Rec} {S:Nat->Bool} {x:Rec} {f:Rec->Rec->Bool} (hd:∀ i j x y,i < j->rs[i]?=some x->rs[j]?=some y->f x y=true->dep b rs 3 i j=true) (hcR:∀ j y,rs[j]?=some y->S (b+j)=true->∀ e ∈ y.o.after,S e=true)
  (hx:rs[ii]?=some x) (haf:∀ e ∈ x.o.after,S e=true) (hun:S (b+ii)=false) {j:Nat} {y:Rec} (hy:rs[j]?=some y) (hc:f y x=true/\f x y=true):S (b+j)=decide (j < ii):=by
 rcases xcp j ii with h|rfl|h
 ·rw [zfl hcR 3 j ii x hx haf (hd _ _ _ _ h hy hx hc.1)];simp [h]
 ·rw [hun];simp
 ·cases hq:S (b+j) with
  | false=>simp [Nat.le_of_lt h]
  | true=>
   rw [zfl hcR 3 ii j y hy (hcR j y hy hq) (hd _ _ _ _ h hx hy hc.2)] at hun;cases hun
theorem zmW {β:Type} {W:Rec->Nat->Option β} {b k ii:Nat} {rs:List Rec} {x:Rec} {S S':Nat->Bool} {f g:Nat->β} (hx:rs[ii]?=some x) (hS:∀ j,S' j=if j=b+ii then true else S j) (hg:g k=ov W rs b S f k)
  (hW:(W x k).isSome=true->∀ j y,rs[j]?=some y->(W y k).isSome=true->S (b+j)=decide (j < ii)):(W x k).getD (g k)=ov W rs b S' f k:=by
 cases hw:W x k with
 | none=>
  simp only [Option.getD_none];rw [hg];refine zce (λj y hy hwy=>?_) rfl
  rw [hS]
  by_cases ej:j=ii
  ·subst ej;rw [hx] at hy;injection hy with hy;subst hy;rw [hw] at hwy;cases hwy
  ·rw [if_neg (by omega)]
 | some v=>
  have:=znW (W:=W) (k:=k) (n:=b) (f:=f) hx;rw [hw] at this;simp only [xa4] at this ⊢;rw [<-this];refine zce (λj y hy hwy=>?_) rfl
  rw [hS]
  by_cases ej:j=ii
  ·subst ej;simp
  ·rw [if_neg (by omega),hW (by rw [hw];rfl) j y hy hwy];simp only [decide_eq_decide];omega
theorem zkO {S:Nat->Bool}:∀ {n:Nat},(¬∀ i,i < n->S i=true)->∃ i,i < n/\S i=false/\∀ j,j < i->S j=true
 | 0,h=>absurd (λi hi=>by omega) h
 | n+1,h=>by
  by_cases hy:∀ i,i < n->S i=true
  ·refine ⟨n,Nat.lt_succ_self n,?_,hy⟩;cases hq:S n with
   | false=>rfl
   | true=>exact absurd (λi hi=>if e:i=n then e ▸ hq else hy i (by omega)) h
  ·obtain ⟨i,e1,e2,e3⟩:=zkO hy;exact ⟨i,by omega,e2,e3⟩
theorem zr1 {P:Program} {ro:Option Nat} {N b n:Nat} {ops:Array Oper} {L:List RO} (hcomp:zaH P N ops ops.toList=some L) (hLl:b+n<=L.length) (hlt:∀ i o,b<=i->i < b+n->L[i]?=some o->∀ e ∈ o.after,e < i)
  (hbar:∀ (S:Nat->Bool),(∀ j o,L[j]?=some o->S j=true->∀ e ∈ o.after,S e=true)->(∀ j,j < b->S j=true)->∀ i o,b+n<=i->L[i]?=some o->(∀ e ∈ o.after,S e=true)->∀ j,j < b+n->S j=true)
  {QX:Exit->Act->World->Prop} {I:(Nat->Bool)->Act->World->Prop}
  (hQ:∀ (fuel:Nat) (listed:Array Bool) (a:Act) (w:World),listed.size=ops.size->zg3 listed ops.size<=fuel->(∀ j,listed.getD j false=decide (j < b+n))->I (λj=>listed.getD j false) a w->wpAnyIn (zaa ro) 0 P .any ops QX fuel listed a w)
  (hI:∀ (S S':Nat->Bool) (a:Act) (w:World) (oper:Oper) (o:RO) (ii:Nat),ii < n->L[b+ii]?=some o->zby P N ops oper=some o->S (b+ii)=false->(∀ e ∈ o.after,S e=true)->(∀ j o,L[j]?=some o->S j=true->∀ e ∈ o.after,S e=true)->(∀ j,S' j=if j=b+ii then true else S j)->I S a w ->
   ∀ K:Act->World->Prop,(∀ a' w',I S' a' w'->K a' w')->if Region.wanted oper (yielded ops a.tmps) then oper.wpIn (zaa ro) 0 P a w K QX else (∀ f,oper.about P w a.eval=some f->(zaa ro).fn f)/\K (a.put oper.dst undef) w) :
  ∀ (fuel:Nat) (listed:Array Bool) (a:Act) (w:World),listed.size=ops.size->zg3 listed ops.size<=fuel->(∀ j,j < b->listed.getD j false=true)->(∀ j,b+n<=j->listed.getD j false=false) ->
  (∀ j o,L[j]?=some o->listed.getD j false=true->∀ e ∈ o.after,listed.getD e false=true)->I (λj=>listed.getD j false) a w->wpAnyIn (zaa ro) 0 P .any ops QX fuel listed a w:=by
 obtain ⟨hcl,hcg⟩:=zaV hcomp;have hn:L.length=ops.size:=by rw [<-hcl];simp
 have hat:∀ (i:Nat) (oper:Oper),ops[i]?=some oper->∃ o,L[i]?=some o/\zby P N ops oper=some o:=λi oper hi=>hcg i oper (by simpa using hi)
 have hfin:∀ (fuel:Nat) (listed:Array Bool) (a:Act) (w:World),listed.size=ops.size->zg3 listed ops.size<=fuel->(∀ j,b+n<=j->listed.getD j false=false)->(∀ i,i < b+n->listed.getD i false=true)->I (λj=>listed.getD j false) a w->wpAnyIn (zaa ro) 0 P .any ops QX fuel listed a w:=λfuel listed a w hs hl h1 hall hi=>
  hQ fuel listed a w hs hl (λj=>by
   by_cases e:j < b+n
   ·rw [hall j e];simp [e]
   ·rw [h1 j (by omega)];simp [e]) hi
 intro fuel
 induction fuel with
 | zero=>
  intro listed a w hs hl h0 h1 hc hi;exact hfin 0 listed a w hs hl h1 (λi hi=>zh0 (Nat.le_zero.1 hl) i (by omega)) hi
 | succ fuel ih=>
  intro listed a w hs hl h0 h1 hc hi
  by_cases hall2:∀ i,i < b+n->listed.getD i false=true
  ·exact hfin (fuel+1) listed a w hs hl h1 hall2 hi
  have hge:∀ i,i < ops.size->(listed.getD i true=listed.getD i false):=λi hi=>by
   rw [xan,xan,xav (by omega)];rfl
  obtain ⟨i0,hi0,hf0,hb0⟩:=zkO (S:=λj=>listed.getD j false) hall2
  refine ⟨λhr=>?_,λi hi2=>?_⟩
  ·exfalso
   have hbi:b<=i0:=Nat.not_lt.1 λe=>by rw [h0 i0 e] at hf0;cases hf0
   have hoper:=xav (xs:=ops) (i:=i0) (by omega)
   obtain ⟨o,g1,hco⟩:=hat i0 _ hoper;have:i0 ∈ Region.ready .any ops listed:=zaZ.2 ⟨_,hoper,(hge i0 (by omega)).trans hf0,(zcW (zal hco) (listed:=λe=>listed.getD e false)).2 λe he=>hb0 e (hlt i0 o hbi hi0 g1 e he)⟩
   rw [hr] at this;cases this
  obtain ⟨oper,g1,g2,g3⟩:=zaZ.1 hi2;have hlt:=(xa1.1 g1).1;have hun:listed.getD i false=false:=(hge i hlt).symm.trans g2;obtain ⟨o,hLo,hcx⟩:=hat i oper g1;have haf:=(zcW (zal hcx) (listed:=λe=>listed.getD e false)).1 g3
  have hib:b<=i:=Nat.not_lt.1 λe=>by rw [h0 i e] at hun;cases hun
  have hie:i < b+n:=Nat.not_le.1 λe=>hall2 (hbar (λj=>listed.getD j false) hc h0 i o e hLo haf)
  obtain ⟨ii,rfl⟩:∃ ii,i=b+ii:=⟨i - b,by omega⟩
  have hgs:∀ j,(listed.setIfInBounds (b+ii) true).getD j false=if j=b+ii then true else listed.getD j false:=λj=>zha (by omega)
  unfold wpOpIn;rw [g1];refine hI _ (λj=>(listed.setIfInBounds (b+ii) true).getD j false) a w oper o ii (by omega) hLo hcx hun haf hc hgs hi _ λa' w' hi'=>?_
  refine ih _ a' w' (by simpa using hs) (by have:=zg2 hlt hs hun;omega) (λj hj=>by rw [hgs];split<;>first|rfl|exact h0 j hj) (λj hj=>by rw [hgs,if_neg (by omega)];exact h1 j hj) (λj y hy hj e he=>?_) hi'
  rw [hgs] at hj ⊢;have:listed.getD e false=true:=by
   by_cases ej:j=b+ii
   ·subst ej;rw [hLo] at hy;injection hy with hy;subst hy;exact haf e he
   ·rw [if_neg ej] at hj;exact hc j y hy hj e he
  rw [this];simp
theorem zhe {P:Program} {ro:Option Nat} {X:Fx} {ops:Array Oper} (hM:X.MOk) {b:Nat} {L l:List RO} {rs:List Rec} {s s':St} (hch:Ch P l s rs s') (hok:zfk b rs=true) (hcomp:zaH P X.N ops ops.toList=some L)
  (hL:∀ j o,l[j]?=some o->L[b+j]?=some o) (hLl:b+l.length<=L.length)
  (hbar:∀ (S:Nat->Bool),(∀ j o,L[j]?=some o->S j=true->∀ e ∈ o.after,S e=true)->(∀ j,j < b->S j=true)->∀ i o,b+l.length<=i->L[i]?=some o->(∀ e ∈ o.after,S e=true)->∀ j,j < b+l.length->S j=true)
  {QX:Exit->Act->World->Prop}
  (hQ:∀ (fuel:Nat) (listed:Array Bool) (C:Ctx) (a:Act) (w:World),listed.size=ops.size->zg3 listed ops.size<=fuel->(∀ j,listed.getD j false=decide (j < b+l.length))->RelC X C s'.get s'.look s'.tr s'.stop a w->wpAnyIn (zaa ro) 0 P .any ops QX fuel listed a w) :
  ∀ (fuel:Nat) (listed:Array Bool) (a:Act) (w:World),listed.size=ops.size->zg3 listed ops.size<=fuel->(∀ j,j < b->listed.getD j false=true)->(∀ j,b+l.length<=j->listed.getD j false=false) ->
  (∀ j o,L[j]?=some o->listed.getD j false=true->∀ e ∈ o.after,listed.getD e false=true) ->
  (∃ (C:Ctx) (σ:St),RelC X C σ.get σ.look σ.tr σ.stop a w/\σ.tr=s.tr/\σ.stop=s.stop/\(∀ k,σ.get k=ov gW rs b (λj=>listed.getD j false) s.get k)/\(∀ k,σ.look k=ov oW rs b (λj=>listed.getD j false) s.look k)) ->
  wpAnyIn (zaa ro) 0 P .any ops QX fuel listed a w:=by
 obtain ⟨hlen,htr,hst,hget,hlook⟩:=zyn hch b;have hrec:∀ (i:Nat),i < l.length->∃ x,rs[i]?=some x/\L[b+i]?=some x.o:=λi hi=>by
  have hx:=xab (l:=rs) (i:=i) (by omega)
  obtain ⟨si,g1,_⟩:=zyo hch b i _ hx;exact ⟨_,hx,hL i _ g1⟩
 refine zr1 hcomp hLl (λi o h1 h2 h3 e he=>?_) hbar (I:=λS a w=>∃ (C:Ctx) (σ:St),RelC X C σ.get σ.look σ.tr σ.stop a w/\σ.tr=s.tr/\σ.stop=s.stop/\(∀ k,σ.get k=ov gW rs b S s.get k)/\(∀ k,σ.look k=ov oW rs b S s.look k)) ?_ ?_
 ·obtain ⟨x,hx,hLx⟩:=hrec (i - b) (by omega)
  rw [show b+(i - b)=i by omega,h3] at hLx;injection hLx with hLx
  have:=zoO hok hx e (by rw [<-hLx];exact he);omega
 ·rintro fuel listed a w hs hl hd ⟨C,σ,h,h1,h2,h3,h4⟩;have hall:∀ j x,rs[j]?=some x->listed.getD (b+j) false=true:=λj x hx=>by
   have:=(xaa.1 hx).1;rw [hd];exact decide_eq_true (by omega)
  rw [show σ.get=s'.get from funext λk=>by rw [h3 k,hget k];exact zce (λj x hx _=>hall j x hx) rfl,
   show σ.look=s'.look from funext λk=>by rw [h4 k,hlook k];exact zce (λj x hx _=>hall j x hx) rfl,h1,h2,<-htr,<-hst] at h
  exact hQ fuel listed C a w hs hl hd h
 ·rintro S S' a w oper o ii hii hLo hcx hun haf hc hS ⟨C,σ,hrel,e1,e2,e3,e4⟩ K hK;obtain ⟨x,hx,hLx⟩:=hrec ii hii;rw [hLo] at hLx;injection hLx with hLx;subst hLx;obtain ⟨si,_,k2,k3,k4,k5⟩:=zyo hch b ii x hx;have hcR:∀ j y,rs[j]?=some y->S (b+j)=true->∀ e ∈ y.o.after,S e=true:=λj y hy hj=>by
   obtain ⟨y',hy',hLy⟩:=hrec j (by rw [<-hlen];exact (xaa.1 hy).1)
   rw [hy] at hy';injection hy' with hy';subst hy';exact hc (b+j) _ hLy hj
  have hbef:=fun {j y}=>zts (j:=j) (y:=y) (λi j x y h=>zoP hok h) hcR hx haf hun
  have hT:∀ k,k ∈ x.rT\/k ∈ x.wT->∀ j y,rs[j]?=some y->(gW y k).isSome=true->S (b+j)=decide (j < ii):=λk hk j y hy hw=>hbef hy (cf_T (zs2 hw) hk)
  have hO:∀ k,k ∈ x.ro\/k ∈ x.wO->∀ j y,rs[j]?=some y->(oW y k).isSome=true->S (b+j)=decide (j < ii):=λk hk j y hy hw=>hbef hy (cf_O (zsV hw) hk)
  have aT:∀ k,k ∈ x.rT\/k ∈ x.wT->σ.get k=si.get k:=λk hk=>by
   rw [e3 k,k4 k];exact zce (λj y hy hw=>by rw [hT k hk j y hy hw];simp only [decide_eq_decide];omega) rfl
  have aO:∀ k,k ∈ x.ro\/k ∈ x.wO->σ.look k=si.look k:=λk hk=>by
   rw [e4 k,k5 k];exact zce (λj y hy hw=>by rw [hO k hk j y hy hw];simp only [decide_eq_decide];omega) rfl
  have hsem:zbs P σ x.o x.v x.wr:=zjc k2 (λt ht=>aT t (.inl ht)) (λk hk=>aO k (.inl (by rw [k3];exact hk))) (aO _ (.inr xar)) (λk hk=>aO k (.inr (xaL _ hk)))
  refine zb3 (X:=X) (s:=σ) hsem hcx rfl hM hrel λC' a' w' hr'=>hK a' w' ⟨C',(σ.wrs x.wr).set x.o.dst x.v,?_,?_,?_,λk=>?_,λk=>?_⟩
  ·rw [(z7 _ _ _).1,(zbf _ _).1,(z7 _ _ _).2,(zbf _ _).2];exact hr'
  ·rw [(z7 _ _ _).1,(zbf _ _).1];exact e1
  ·rw [(z7 _ _ _).2,(zbf _ _).2];exact e2
  ·rw [zg9 σ x k];exact zmW hx hS (e3 k) λh=>hT k (.inr (zs2 h))
  ·rw [ze2 σ x k];exact zmW hx hS (e4 k) λh=>hO k (.inr (zsV h))
def Rec.ft (x:Rec):Ft:=⟨x.o.dst.toList,rdT x.o,x.o.dst.getD 0::x.wr.map (·.1),x.ro,x.o.after,false⟩
def cfF (x y:Ft):Bool:=zdq x.wt y.rt || zdq x.wt y.wt || zdq x.rt y.wt || zdq x.wo y.ro || zdq x.wo y.wo || zdq x.ro y.wo
def zr6 (fs:List Ft):Nat->Nat->Nat->Bool
 | 0,_,_=>false
 | f+1,i,j=>match fs[j]? with
  | some x=>x.af.contains i || x.af.any λm=>zr6 fs f i m
  | none=>false
def ylOk (fs:List Ft) (p:Nat):Bool:=
 ((List.range p).all λi=>(List.range (p+1)).any λk=>decide (i < k) && match fs[k]? with|some y=>y.af.contains i|none=>false) &&
 (List.range fs.length).all λj=>decide (j<=p) || match fs[j]? with|some y=>y.af.any λe=>decide (p<=e)|none=>false
def zca (fs:List Ft):Bool:=
 (List.range fs.length).all λj=>match fs[j]? with
  | some y=>(y.af.all λe=>decide (e < j)) && if y.yl then ylOk fs j else (List.range j).all λi=>match fs[i]? with
   | some x=>x.yl || !cfF x y || zr6 fs 3 i j
   | none=>true
  | none=>true
theorem zyp (x y:Rec):cfF x.ft y.ft=cf x y:=rfl
theorem zbS {fs:List Ft} (h:zca fs=true) {j:Nat} {y:Ft} (hy:fs[j]?=some y):(∀ e ∈ y.af,e < j)/\(y.yl=true->ylOk fs j=true)/\(y.yl=false->∀ i x,i < j->fs[i]?=some x->x.yl=false->cfF x y=true->zr6 fs 3 i j=true):=by
 have hj:j < fs.length:=(xaa.1 hy).1;simp only [zca,xaB,xaV] at h;have:=h j hj;rw [hy] at this;simp only [xap,xaB,decide_eq_true_eq] at this;refine ⟨this.1,λe=>by have:=this.2;rwa [if_pos e] at this,λe i x hi hx hxl hc=>?_⟩
 have:=this.2;rw [if_neg (by simp [e])] at this
 simp only [xaB,xaV] at this;have:=this i hi;rw [hx] at this;simpa [hxl,hc] using this
theorem zoT {fs:List Ft} (hlt:∀ (j:Nat) (y:Ft),fs[j]?=some y->∀ e ∈ y.af,e < j):∀ (f i j:Nat),zr6 fs f i j=true->i < j
 | 0,_,_,h=>by simp [zr6] at h
 | f+1,i,j,h=>by
  simp only [zr6] at h;cases hy:fs[j]? with
  | none=>simp [hy] at h
  | some y=>
   simp only [hy,xa3,xbl] at h
   rcases h with h|⟨m,hm,h⟩
   ·exact hlt j y hy i (by simpa using h)
   ·have:=hlt j y hy m hm;have:=zoT hlt f i m h;omega
theorem zkT {fs:List Ft} {b:Nat} {rs:List Rec} (hlt:∀ (j:Nat) (y:Ft),fs[j]?=some y->∀ e ∈ y.af,e < j) (hseg:∀ (j:Nat) (x:Rec),rs[j]?=some x->fs[b+j]?=some x.ft):∀ (f i j:Nat),j < rs.length->zr6 fs f (b+i) (b+j)=true->dep b rs f i j=true
 | 0,_,_,_,h=>by simp [zr6] at h
 | f+1,i,j,hj,h=>by
  have hx:=xab hj;have hy:=hseg j _ hx;simp only [zr6,hy,xa3,xbl] at h;simp only [dep,hx,xa3,xbl,xap,decide_eq_true_eq]
  rcases h with h|⟨m,hm,h⟩
  ·exact .inl h
  ·have h1:=hlt _ _ hy m hm;have h2:=zoT hlt f _ m h;exact .inr ⟨m,hm,by omega,zkT hlt hseg f i (m - b) (by omega) (by rw [show b+(m - b)=m by omega];exact h)⟩
theorem zdZ {fs:List Ft} {b:Nat} {rs:List Rec} (h:zca fs=true) (hseg:∀ (j:Nat) (x:Rec),rs[j]?=some x->fs[b+j]?=some x.ft):zfk b rs=true:=by
 have hlt:∀ (j:Nat) (y:Ft),fs[j]?=some y->∀ e ∈ y.af,e < j:=λj y hy=>(zbS h hy).1
 simp only [zfk,xaB,xaV];intro j hj;have hx:=xab hj;have hy:=hseg j _ hx;rw [hx];simp only [xap,xaB,decide_eq_true_eq,xaV];refine ⟨hlt _ _ hy,λi hi=>?_⟩
 have hxi:=xab (l:=rs) (i:=i) (by omega)
 have hyi:=hseg i _ hxi;rw [hxi];simp only [xa3,xa6];cases hc:cf rs[i] rs[j] with
 | false=>exact .inl rfl
 | true=>exact .inr (zkT hlt hseg 3 i j hj ((zbS h hy).2.2 rfl (b+i) _ (by omega) hyi rfl (by rw [zyp];exact hc)))
theorem zcp {P:Program} {ts:List (List PV)} {K:St->List Ft->Prop}:∀ {l:List RO} {s:St} {acc:List Ft},zh P ts true K l s acc ->
  (∃ rs s',Ch P l s rs s'/\K s' ((rs.map Rec.ft).reverse++acc)) \/
  ∃ l1 o l2 rs s1 t ks,l=l1++o::l2/\Ch P l1 s rs s1/\YOp ts s1 o t ks/\∀ b,zh P ts true K l2 (ySt s1 o t ks b) (accY true ((rs.map Rec.ft).reverse++acc) o)
 | [],s,acc,h=>.inl ⟨[],s,.nil s,by simpa [zh] using h⟩
 | o::r,s,acc,.inl ⟨v,wr,h1,h2⟩=>by
  have e:∀ rs:List Rec,((⟨o,v,wr,rdO s o⟩::rs:List Rec).map Rec.ft).reverse++acc=(rs.map Rec.ft).reverse++zS true acc s o wr:=λrs=>by simp [zS,zxB,Rec.ft]
  rcases zcp h2 with ⟨rs,s',h3,h4⟩|⟨l1,o',l2,rs,s1,t,ks,h3,h4,h5,h6⟩
  ·exact .inl ⟨_,s',.cons h1 h3,by rw [e];exact h4⟩
  ·exact .inr ⟨o::l1,o',l2,_,s1,t,ks,by rw [h3];rfl,.cons h1 h4,h5,λb=>by rw [e];exact h6 b⟩
 | o::r,s,acc,.inr (.inr (.inl ⟨h,_⟩))=>by cases h
 | o::r,s,acc,.inr (.inr (.inr ⟨h,_⟩))=>by cases h
 | o::r,s,acc,.inr (.inl ⟨t,ks,h1,h2⟩)=>.inr ⟨[],o,r,[],s,t,ks,rfl,.nil s,h1,λb=>by simpa using h2 b⟩
theorem zeM {P:Program} {ts:List (List PV)} {K:St->List Ft->Prop}:∀ {l:List RO} {s:St} {acc:List Ft},zh P ts true K l s acc ->
  ∃ (s':St) (fs:List Ft),K s' (fs.reverse++acc)/\fs.length=l.length/\∀ (j:Nat) (o:RO),l[j]?=some o->∃ y,fs[j]?=some y/\y.af=o.after
 | [],s,acc,h=>⟨s,[],by simpa [zh] using h,rfl,λj o hj=>by simp at hj⟩
 | o::r,s,acc,h=>by
  have key:∀ (ft:Ft) (s1:St),ft.af=o.after->zh P ts true K r s1 (ft::acc)->∃ (s':St) (fs:List Ft),K s' (fs.reverse++acc)/\fs.length=(o::r).length/\∀ (j:Nat) (o':RO),(o::r)[j]?=some o'->∃ y,fs[j]?=some y/\y.af=o'.after:=λft s1 e h=>by
   obtain ⟨s',fs,h1,h2,h3⟩:=zeM h;refine ⟨s',ft::fs,by simpa using h1,by simp [h2],λj o' hj=>?_⟩
   cases j with
   | zero=>simp at hj;subst hj;exact ⟨ft,rfl,e⟩
   | succ j=>exact h3 j o' (by simpa using hj)
  rcases h with ⟨v,wr,h1,h2⟩|⟨t,ks,h1,h2⟩|⟨h,_⟩|⟨h,_⟩
  ·exact key _ _ rfl h2
  ·exact key _ _ rfl (h2 true)
  ·cases h
  ·cases h
theorem ztb {P:Program} {l:List RO} {s s':St} {rs:List Rec} (h:Ch P l s rs s'):rs.length=l.length/\∀ (j:Nat) (o:RO),l[j]?=some o->∃ x,rs[j]?=some x/\x.o=o:=by
 induction h with
 | nil=>exact ⟨rfl,λj o hj=>by simp at hj⟩
 | @cons o r s s' v wr rs hs hch ih=>
  refine ⟨by simp [ih.1],λj o' hj=>?_⟩
  cases j with
  | zero=>simp at hj;subst hj;exact ⟨_,rfl,rfl⟩
  | succ j=>exact ih.2 j o' (by simpa using hj)
theorem zr2 {P:Program} {ts:List (List PV)} {ro:Option Nat} {X:Fx} {ops:Array Oper} (hM:X.MOk) (hy:ts=[]∨(zdF P X ts∧zbG X.J X.Jx)) {L:List RO} (hcomp:zaH P X.N ops ops.toList=some L)
  {QX:Exit→Act→World→Prop}:∀ (n:Nat) (l:List RO) (b:Nat) (s:St) (acc:List Ft),l.length≤n→L.drop b=l→b≤L.length→acc.length=b→(∀ (j:Nat) (o:RO),j < b→L[j]?=some o→∃ y:Ft,acc.reverse[j]?=some y∧y.af=o.after) →
  zh P ts true (fun s acc=>zca acc.reverse=true∧∀ C a w,RelC X C s.get s.look s.tr s.stop a w→QX .normal a w) l s acc →
  ∀ (fuel:Nat) (listed:Array Bool) (C:Ctx) (a:Act) (w:World),listed.size=ops.size→zg3 listed ops.size≤fuel→(∀ j,listed.getD j false=decide (j < b))→RelC X C s.get s.look s.tr s.stop a w→wpAnyIn (zaa ro) 0 P .any ops QX fuel listed a w:=by
 intro n
 induction n with
 | zero=>
  intro l b s acc hl hLb hbL hacc haf hrun fuel listed C a w hs hle hlisted hr
  have:l=[]:=xaq (by omega)
  subst this
  obtain ⟨hcl,hcg⟩:=zaV hcomp
  have hLe:L.length≤b:=by have:=congrArg List.length hLb;simp at this;omega
  have hsz:ops.size=L.length:=by rw [←hcl];simp
  have hall:∀ i,i < ops.size→listed.getD i false=true:=fun i hi=>by
   rw [hlisted]
   simp
   omega
  have hno:Region.ready .any ops listed=[]:=xbB.2 fun i hi=>by
   obtain ⟨oper,h1,h2,_⟩:=zaZ.1 hi
   have hlt:=(xa1.1 h1).1
   have:=hall i hlt
   rw [xan,xav (by omega)] at this h2
   simp only [xa4] at this h2
   rw [this] at h2;cases h2
  have hq:=hrun.2 C a w hr
  cases fuel with
  | zero=>exact ⟨hno,hq⟩
  | succ fuel=>exact ⟨fun _=>hq,fun i hi=>by rw [hno] at hi;cases hi⟩
 | succ n ih=>
  intro l b s acc hl hLb hbL hacc haf hrun fuel listed C a w hs hle hlisted hr
  obtain ⟨hcl,hcg⟩:=zaV hcomp
  have hn:L.length=ops.size:=by rw [←hcl];simp
  have hLl:∀ j,l[j]?=L[b+j]?:=fun j=>by rw [←hLb,xaS]
  have hlen:b+l.length=L.length:=by have:=congrArg List.length hLb;simp at this;omega
  have hstart:∀ (rs:List Rec),∃ (C:Ctx) (σ:St),RelC X C σ.get σ.look σ.tr σ.stop a w∧σ.tr=s.tr∧σ.stop=s.stop∧(∀ k,σ.get k=ov gW rs b (fun j=>listed.getD j false) s.get k)∧(∀ k,σ.look k=ov oW rs b (fun j=>listed.getD j false) s.look k):=fun rs=>
   ⟨C,s,hr,rfl,rfl,fun k=>(zb1 fun j hj=>by rw [hlisted];simp;omega).symm,fun k=>(zb1 fun j hj=>by rw [hlisted];simp;omega).symm⟩
  have hdown:∀ (j:Nat) (o:RO),L[j]?=some o→(∀ e ∈ o.after,e < j)→listed.getD j false=true→∀ e ∈ o.after,listed.getD e false=true:=fun j o hj hlt hl e he=>by
   rw [hlisted] at hl ⊢
   have:=hlt e he
   simp at hl ⊢;omega
  rcases zcp hrun with ⟨rs,s',hch,hok,hQ⟩|⟨l1,o,l2,rs,s1,t,ks,he,hch,hyo,hrest⟩
  ·-- no call of yield any more
   obtain ⟨c1,c2⟩:=ztb hch
   rw [List.reverse_append,List.reverse_reverse] at hok
   have hseg:∀ (j:Nat) (x:Rec),rs[j]?=some x→(acc.reverse++rs.map Rec.ft)[b+j]?=some x.ft:=fun j x hx=>by
    rw [xax (by simp [hacc])]
    simp [hacc,hx]
   have hF:∀ (j:Nat) (o:RO),L[j]?=some o→∃ y:Ft,(acc.reverse++rs.map Rec.ft)[j]?=some y∧y.af=o.after:=fun j o hj=>by
    by_cases e:j < b
    ·obtain ⟨y,h1,h2⟩:=haf j o e hj
     exact ⟨y,by rw [xaH (by simp [hacc,e])];exact h1,h2⟩
    ·obtain ⟨x,h1,h2⟩:=c2 (j - b) o (by rw [hLl,show b+(j - b)=j by omega];exact hj)
     have:=hseg _ _ h1
     rw [show b+(j - b)=j by omega] at this
     exact ⟨_,this,by rw [←h2];rfl⟩
   refine zhe hM hch (zdZ hok hseg) hcomp (fun j o hj=>by rw [←hLl];exact hj) (by omega) (fun S _ _ i o hi hLi=>?_) (fun fuel listed C a w h1 h2 h3 h4=>?_) fuel listed a w hs hle (fun j hj=>by rw [hlisted];simp [hj]) (fun j hj=>by rw [hlisted];simp;omega) (fun j o hj=>hdown j o hj fun e he=>?_) (hstart rs)
   ·have:=(xaa.1 hLi).1;omega
   ·have hall:∀ i,i < ops.size→listed.getD i false=true:=fun i hi=>by rw [h3];simp;omega
    have hno:Region.ready .any ops listed=[]:=xbB.2 fun i hi=>by
     obtain ⟨oper,g1,g2,_⟩:=zaZ.1 hi
     have hlt:=(xa1.1 g1).1
     have:=hall i hlt
     rw [xan,xav (by omega)] at this g2
     simp only [xa4] at this g2
     rw [this] at g2;cases g2
    have hq:=hQ C a w h4
    cases fuel with
    | zero=>exact ⟨hno,hq⟩
    | succ fuel=>exact ⟨fun _=>hq,fun i hi=>by rw [hno] at hi;cases hi⟩
   ·obtain ⟨y,k1,k2⟩:=hF j o hj
    exact (zbS hok k1).1 e (by rw [k2];exact he)
  ·-- up to a call of yield
   subst he
   obtain ⟨c1,c2⟩:=ztb hch
   obtain ⟨s',fs,⟨hok,_⟩,hfl,hfa⟩:=zeM (hrest true)
   let q:=b+l1.length
   let fy:Ft:=⟨o.dst.toList,rdT o,[],[],o.after,true⟩
   let F:=acc.reverse++rs.map Rec.ft++fy::fs
   have hF0:(fs.reverse++accY true ((rs.map Rec.ft).reverse++acc) o).reverse=F:=by simp [accY,F,fy]
   rw [hF0] at hok
   have hLq:L[q]?=some o:=by
    have:=hLl l1.length
    rw [←this];simp
   have hFq:F[q]?=some fy:=by
    show (acc.reverse++rs.map Rec.ft++fy::fs)[q]?=_
    rw [xax (by simp [hacc,c1,q])]
    simp [hacc,c1,q]
   have hseg:∀ (j:Nat) (x:Rec),rs[j]?=some x→F[b+j]?=some x.ft:=fun j x hx=>by
    have hj:=(xaa.1 hx).1
    show (acc.reverse++rs.map Rec.ft++fy::fs)[b+j]?=_
    rw [xaH (by simp [hacc];omega),xax (by simp [hacc])]
    simp [hacc,hx]
   have hF:∀ (j:Nat) (o':RO),L[j]?=some o'→∃ y:Ft,F[j]?=some y∧y.af=o'.after:=fun j o' hj=>by
    by_cases e:j < b
    ·obtain ⟨y,h1,h2⟩:=haf j o' e hj
     refine ⟨y,?_,h2⟩
     show (acc.reverse++rs.map Rec.ft++fy::fs)[j]?=_
     rw [xaH (by simp [hacc];omega),xaH (by simp [hacc,e])]
     exact h1
    ·by_cases e1:j < q
     ·have:l1[j - b]?=some o':=by
       have h3:=hLl (j - b)
       rw [show b+(j - b)=j by omega,hj,xaH (by simp only [q] at e1;omega)] at h3
       exact h3
      obtain ⟨x,h1,h2⟩:=c2 (j - b) o' this
      have:=hseg _ _ h1
      rw [show b+(j - b)=j by omega] at this
      exact ⟨_,this,by rw [←h2];rfl⟩
     ·by_cases e2:j=q
      ·subst e2;rw [hLq] at hj;injection hj with hj;subst hj;exact ⟨_,hFq,rfl⟩
      ·have:l2[j - q - 1]?=some o':=by
        have h3:=hLl (j - b)
        rw [show b+(j - b)=j by omega,hj,xax (by simp only [q] at e1;omega),show j - b - l1.length=(j - q - 1)+1 by simp only [q] at e1 e2 ⊢;omega] at h3
        simpa using h3
       obtain ⟨y,h1,h2⟩:=hfa _ _ this
       refine ⟨y,?_,h2⟩
       show (acc.reverse++rs.map Rec.ft++fy::fs)[j]?=_
       rw [xax (by simp [hacc,c1];simp only [q] at e1;omega)]
       simp only [xae,List.length_reverse,hacc,xaf,c1]
       rw [show j - (b+l1.length)=(j - q - 1)+1 by simp only [q] at e1 e2 ⊢;omega]
       simpa using h1
   have hlt:∀ (j:Nat) (o':RO),L[j]?=some o'→∀ e ∈ o'.after,e < j:=fun j o' hj e he=>by
    obtain ⟨y,k1,k2⟩:=hF j o' hj
    exact (zbS hok k1).1 e (by rw [k2];exact he)
   have hyl:=(zbS hok hFq).2.1 rfl
   simp only [ylOk,xap,xaB,xaV,xbl,decide_eq_true_eq,xa3] at hyl
   obtain ⟨hbefore,hbehind⟩:=hyl
   have hbehind':∀ (j:Nat) (o':RO),q < j→L[j]?=some o'→∃ e ∈ o'.after,q≤e:=fun j o' hqj hj=>by
    obtain ⟨y,k1,k2⟩:=hF j o' hj
    have:=hbehind j (xaa.1 k1).1
    rw [k1] at this
    rcases this with h|h
    ·omega
    ·simp only [xbl,decide_eq_true_eq] at h
     obtain ⟨e,h1,h2⟩:=h
     exact ⟨e,by rw [←k2];exact h1,h2⟩
   have hbefore':∀ i,i < q→∃ (k:Nat) (o':RO),i < k∧k≤q∧L[k]?=some o'∧i ∈ o'.after:=fun i hi=>by
    obtain ⟨k,hk,hik,h⟩:=hbefore i hi
    have hkL:k < L.length:=by have:=(xaa.1 hLq).1;omega
    have hLk:=xab hkL
    obtain ⟨y,k1,k2⟩:=hF k _ hLk
    rw [k1] at h
    exact ⟨k,_,hik,by omega,hLk,by rw [←k2];simpa using h⟩
   refine zhe hM hch (zdZ hok hseg) hcomp (fun j o' hj=>?_) (by have:=(xaa.1 hLq).1;simp only [q] at this;omega) (fun S hcl h0 i o' hi hLi hS=>?_) (fun fuel listed C a w h1 h2 h3 h4=>?_) fuel listed a w hs hle (fun j hj=>by rw [hlisted];simp [hj]) (fun j hj=>by rw [hlisted];simp;omega) (fun j o hj=>hdown j o hj (hlt j o hj)) (hstart rs)
   ·rw [←hLl,xaH (xaa.1 hj).1];exact hj
   ·-- nothing behind is ready before all ahead is done
    have hSq:∀ e ∈ o.after,S e=true:=by
     have key:∀ (m i:Nat) (o':RO),i≤m→q≤i→L[i]?=some o'→(∀ e ∈ o'.after,S e=true)→∀ e ∈ o.after,S e=true:=by
      intro m
      induction m with
      | zero=>
           intro i o' hm hq2 hLi hS2
           have:i=q:=by omega
           subst this;rw [hLq] at hLi;injection hLi with hLi;subst hLi;exact hS2
      | succ m ihm=>
       intro i o' hm hq2 hLi hS2
       by_cases e:i=q
       ·subst e;rw [hLq] at hLi;injection hLi with hLi;subst hLi;exact hS2
       ·obtain ⟨e2,h1,h2⟩:=hbehind' i o' (by omega) hLi
        have he2:=hlt i o' hLi e2 h1
        have hLe:=xab (l:=L) (i:=e2) (by have:=(xaa.1 hLi).1;omega)
        exact ihm e2 _ (by omega) h2 hLe (hcl e2 _ hLe (hS2 e2 h1))
     exact key i i o' (xaj _) hi hLi hS
    have key:∀ m j,q - j≤m→j < q→S j=true:=by
     intro m
     induction m with
     | zero=>intro j h1 h2;omega
     | succ m ihm=>
      intro j h1 h2
      obtain ⟨k,o2,g1,g2,g3,g4⟩:=hbefore' j h2
      by_cases e:k=q
      ·subst e;rw [hLq] at g3;injection g3 with g3;subst g3;exact hSq j g4
      ·exact hcl k o2 g3 (ihm k (by omega) (by omega)) j g4
    exact fun j hj=>key (q - j) j (xaj _) hj
   ·-- the call of yield
    have hqlt:q < ops.size:=by rw [←hn];exact (xaa.1 hLq).1
    have hlq:listed.getD q false=false:=by rw [h3];simp [q]
    cases fuel with
    | zero=>have:=zh0 (Nat.le_zero.1 h2) q hqlt;rw [this] at hlq;cases hlq
    | succ fuel=>
     have hready:∀ i,i ∈ Region.ready .any ops listed→i=q:=fun i hi=>by
      obtain ⟨oper,g1,g2,g3⟩:=zaZ.1 hi
      have hilt:=(xa1.1 g1).1
      have hun:listed.getD i false=false:=by
       rw [xan,xav (by omega)] at g2 ⊢
       exact g2
      rw [h3] at hun
      simp at hun
      obtain ⟨o',hLo,hcx⟩:=hcg i oper (by simpa using g1)
      have haf2:=(zcW (zal hcx) (listed:=fun e=>listed.getD e false)).1 g3
      refine xbt fun hne=>?_
      obtain ⟨e,he,hqe⟩:=hbehind' i o' (by simp only [q] at *;omega) hLo
      have:=haf2 e he
      rw [h3] at this
      simp at this
      simp only [q] at hqe;omega
     have hoper:=xav hqlt
     obtain ⟨o',hLo,hcx⟩:=hcg q _ (by rw [Array.getElem?_toList];exact hoper)
     rw [hLq] at hLo;injection hLo with hLo;subst hLo
     have hmem:q ∈ Region.ready .any ops listed:=zaZ.2 ⟨_,hoper,by
      rw [xan] at hlq ⊢
      rw [xav (by omega)] at hlq ⊢
      exact hlq,(zcW (zal hcx) (listed:=fun e=>listed.getD e false)).2 fun e he=>by rw [h3];have:=hlt q o hLq e he;simp;simp only [q] at this;omega⟩
     refine ⟨fun hr0=>(by rw [hr0] at hmem;cases hmem),fun i hi=>?_⟩
     have hiq:=hready i hi
     subst hiq
     unfold wpOpIn
     rw [hoper]
     rcases hy with hy|⟨hy,hj⟩
     ·obtain ⟨_,_,_,_,_,_,_,_,_,_,_,post,hts⟩:=hyo
      rw [hy] at hts
      simp at hts
     refine zeE hyo hcx rfl hM hy hj h4 fun bb C' a' w' h'=>?_
     have e1:(ySt s1 o t ks bb).tr=s1.tr++[t]:=(z7 _ _ _).1
     have e2:(ySt s1 o t ks bb).stop=!bb:=(z7 _ _ _).2
     rw [←e1,←e2] at h'
     refine ih l2 (q+1) _ _ (by simp at hl;omega) ?_ (by rw [hn];omega) (by simp [accY,hacc,c1,q];omega) (fun j o' hj hLj=>?_) (hrest bb) fuel _ C' a' w' (by simpa using h1) (by have:=zg2 hqlt h1 hlq;omega) (fun j=>?_) h'
     ·have:=congrArg (List.drop (l1.length+1)) hLb
      rw [xbL] at this
      rw [show q+1=b+(l1.length+1) by simp only [q];omega,this]
      simp
     ·obtain ⟨y,k1,k2⟩:=hF j o' hLj
      refine ⟨y,?_,k2⟩
      rw [show (accY true ((rs.map Rec.ft).reverse++acc) o).reverse=acc.reverse++rs.map Rec.ft++[fy] by simp [accY,fy]]
      have:F=(acc.reverse++rs.map Rec.ft++[fy])++fs:=by simp [F]
      rw [this,xaH (by simp [hacc,c1];simp only [q] at hj;omega)] at k1
      exact k1
     ·rw [zha (by omega),h3]
      by_cases e:j=q
      ·rw [if_pos e];subst e;simp
      ·rw [if_neg e];simp only [decide_eq_decide];simp only [q] at *;omega
theorem zqe {G:Cfg} {s:St} {Q:zN} {l:List RO} (hm:G.P.follows .mixedOrders=true) (h:∀ K:St->List Ft->Prop,(∀ s acc,zca acc.reverse=true->Q .normal s->K s acc)->zD true (zh G.P G.ts true K) l s []):Run G (.ops true l) s Q:=by
 intro hG code hc C a w hr;cases code<;>simp only [zC,xac] at hc
 case region id ops draw=>
  obtain ⟨l',h1,hc⟩:=hc;injection hc with e1 e2;subst e1;subst e2;have hrun:=zF (h (λs acc=>zca acc.reverse=true/\∀ C a w,RelC G.X C s.get s.look s.tr s.stop a w->QQ G Q .normal a w) λs acc h1 h2=>⟨h1,λC a w hr=>⟨s,C,hr,h2⟩⟩)
  have hb:Below w.heap.size w { w with drawn:=w.drawn+1 }:=⟨rfl,rfl,rfl,xaj _,λ_ _=>rfl⟩
  have hr1:=hr.grow hb C.B (λ_ h=>h) (λb hb=>.inl hb)
  refine wpIn_region_any hm ?_;refine zr2 hG.mok hG.yok h1 l'.length l' 0 s [] (xaj _) rfl (xa5 _) rfl (λj o hj=>by omega) hrun ops.size _ _ a _ (by simp) ?_ (λj=>?_) hr1
  ·unfold zg3;exact xa8 (List.countP_le_length) (by simp)
  ·rw [xan]
   by_cases e:j < ops.size
   ·rw [xav (by simpa using e)];simp
   ·rw [Array.getElem?_eq_none (by simpa using e)];simp
 all_goals first|(cases hc;done)|(obtain ⟨_,_,hc⟩:=hc;cases hc;done)|(split at hc<;>cases hc;done)
def zbr (k:Nat) (q q':LV):Prop:=q'=q\/(q=.p .nilsl/\q'=.row k 0)
def zax (k:Nat):List LV->List LV->Prop
 | [],[]=>True
 | q::r,q'::r'=>zbr k q q'/\zax k r r'
 | _,_=>False
def zaL (k:Nat) (s:St):List (Nat × LV)->Prop
 | []=>True
 | (t,v)::r=>zbr k (s.get t) v/\zaL k s r
def zaA (k:Nat) (s:St):List (Nat × LObj)->Prop
 | []=>True
 | (j,.box cs fz)::r=>(match s.look j with|some (.box cs0 fz0)=>fz=fz0/\zax k cs0 cs|_=>False)/\zaA k s r
 | (j,o)::r=>s.look j=some o/\zaA k s r
def Own (k e sz:Nat) (s:St) (env:List (Nat × LV)) (obj:List (Nat × LObj)):Prop:=
 0 < sz/\s.look k=none/\zaL k s env/\zaA k s obj/\scEnv (zj ((k,.row e sz [] false)::obj)) env/\scObj (zj ((k,.row e sz [] false)::obj)) obj
theorem zfY {k:Nat}:∀ {l l':List LV},zax k l l'->l.length=l'.length/\∀ (j:Nat) (q q':LV),l[j]?=some q->l'[j]?=some q'->zbr k q q'
 | [],[],_=>⟨rfl,λj q q' h=>by simp at h⟩
 | [],_::_,h=>h.elim
 | _::_,[],h=>h.elim
 | x::r,x'::r',h=>by
  obtain ⟨h1,h2⟩:=zfY h.2;refine ⟨by simp [h1],λj q q' hq hq'=>?_⟩
  cases j with
  | zero=>simp at hq hq';subst hq;subst hq';exact h.1
  | succ j=>exact h2 j q q' (by simpa using hq) (by simpa using hq')
theorem zfW {k:Nat} {s:St}:∀ {l:List (Nat × LV)},zaL k s l->∀ t,zbr k (s.get t) (z8 l t)\/z8 l t=.any
 | [],_,t=>.inr rfl
 | (j,v)::r,h,t=>by
  simp only [z8]
  split
  ·rename_i e;subst e;exact .inl h.1
  ·exact zfW h.2 t
theorem zeV {k:Nat} {s:St}:∀ {l:List (Nat × LObj)},zaA k s l->∀ j o,zj l j=some o->s.look j=some o\/∃ cs0 cs fz,s.look j=some (.box cs0 fz)/\o=.box cs fz/\zax k cs0 cs
 | [],_,j,o,h=>by simp [zj] at h
 | (i,u)::r,h,j,o,ho=>by
  simp only [zj] at ho
  split at ho
  ·rename_i e;subst e;injection ho with ho;subst ho;cases u with
   | box cs fz=>
    have h1:=h.1
    split at h1
    ·rename_i cs0 fz0 hl;obtain ⟨rfl,h2⟩:=h1;exact .inr ⟨cs0,cs,_,hl,rfl,h2⟩
    ·exact h1.elim
   | _=>exact .inl h.1
  ·refine zeV ?_ j o ho;cases u<;>exact h.2
theorem RelC.own {X:Fx} {C:Ctx} {a:Act} {w:World} {s:St} {k e sz:Nat} {env:List (Nat × LV)} {obj:List (Nat × LObj)} (h:RelC X C s.get s.look s.tr s.stop a w) (ho:Own k e sz s env obj) :
  ∃ C',RelC X C' (z8 env) (zj ((k,.row e sz [] false)::obj)) s.tr s.stop a w:=by
 obtain ⟨h0,hk,he,hob,hse,hso⟩:=ho
 let v:Value:=.slice none 0 0
 have h1:=h.lay (C':={ C with cur:=upd C.cur k v }) (d:=k) (o:=.row e sz [] false) hk rfl rfl rfl rfl rfl (λ_ _=>rfl) (λj hj=>zt _ _ hj) ⟨[],by
   show w.ownsRow 0 e sz (upd C.cur k v k) 0 [];rw [zg];exact World.ownsRow_nil w 0 e sz,.nil,by simp,h0⟩ trivial rfl (λb hb=>by simp [blk,zg,v,Value.ownBlock] at hb)
 let look1:=upd s.look k (some (LObj.row e sz [] false))
 have hnil:∀ (u:Value) (q q':LV),zbr k q q'->RepL w { C with cur:=upd C.cur k v } look1 u q->RepL w { C with cur:=upd C.cur k v } look1 u q':=λu q q' hq hr=>by
  rcases hq with rfl|⟨rfl,rfl⟩
  ·exact hr
  ·have:=ze hr;cases this;exact zcd (zg _ _ _)
 let l':=zj ((k,.row e sz [] false)::obj)
 have was:∀ j o,l' j=some o->∃ o1,look1 j=some o1/\(o1=o\/∃ cs0 cs fz,o1=.box cs0 fz/\o=.box cs fz/\zax k cs0 cs):=λj o hj=>by
  simp only [l',zj] at hj
  by_cases ej:j=k
  ·subst ej;rw [if_pos rfl] at hj;injection hj with hj;subst hj;exact ⟨_,zg _ _ _,.inl rfl⟩
  ·rw [if_neg ej] at hj
   rcases zeV hob j o hj with h2|⟨cs0,cs,fz,h2,h3,h4⟩
   ·exact ⟨o,by rw [show look1 j=s.look j from zt _ _ ej];exact h2,.inl rfl⟩
   ·exact ⟨_,by rw [show look1 j=s.look j from zt _ _ ej];exact h2,.inr ⟨cs0,cs,fz,rfl,h3,h4⟩⟩
 have rows:∀ j e2 s2 xs fz,l' j=some (.row e2 s2 xs fz)->look1 j=some (.row e2 s2 xs fz):=λj e2 s2 xs fz hj=>by
  obtain ⟨o1,h2,rfl|⟨cs0,cs,fz',_,h4,_⟩⟩:=was j _ hj
  ·exact h2
  ·cases h4
 have re:∀ u q,RepL w { C with cur:=upd C.cur k v } look1 u q->RepL w { C with cur:=upd C.cur k v } l' u q:=λu q hq=>by
  induction hq with
  | p h=>exact .p h
  | g h h2 ih=>exact .g ih h2
  | lp=>exact .lp
  | row h=>exact .row λe2 s2 xs fz hj=>h e2 s2 xs fz (rows _ _ _ _ _ hj)
  | ep h=>exact .ep λe2 s2 xs fz hj=>h e2 s2 xs fz (rows _ _ _ _ _ hj)
  | it=>exact .it
  | lm=>exact .lm
  | fn h1 h2 _ _ ih1 ih2=>exact .fn h1 h2 ih1 ih2
  | agg h1 _ ih=>exact .agg h1 ih
  | tup h1 _ ih=>exact .tup h1 ih
  | yield=>exact .yield
  | any u=>exact .any u
 have same:∀ j o,l' j=some o->∃ o1,look1 j=some o1/\(∀ C2:Ctx,blk C2 j o1=blk C2 j o)/\o1.frozen=o.frozen:=λj o hj=>by
  obtain ⟨o1,h2,rfl|⟨cs0,cs,fz,rfl,rfl,_⟩⟩:=was j o hj
  ·exact ⟨_,h2,λ_=>rfl,rfl⟩
  ·exact ⟨_,h2,λ_=>rfl,rfl⟩
 refine ⟨{ C with cur:=upd C.cur k v },{ h1 with
  env:=λt=>re _ _ ?_
  envs:=zbK hse
  obj:=λj o hj=>?_
  objs:=λj o hj=>?_
  sep:=λj o b hj hb=>?_
  dis:=λj j' o o' b hne hj hj' hb hb'=>?_
  marks:=h1.marks.same λr _ _ hnb hnd hno=>⟨rfl,hnb,hnd,λj o hj hb=>?_⟩
  nn:=λj o b hj hb hf=>?_ }⟩
 ·rcases zfW he t with h2|h2
  ·exact hnil _ _ _ h2 (h1.env t)
  ·rw [h2];exact .any _
 ·obtain ⟨o1,h2,rfl|⟨cs0,cs,fz,rfl,rfl,h3⟩⟩:=was j o hj
  ·have:=h1.obj j _ h2;cases o1 with
   | box cs fz=>
    obtain ⟨arr,ty,g1,g2,g3⟩:=this;exact ⟨arr,ty,g1,g2,λi u q hu hq=>re _ _ (g3 i u q hu hq)⟩
   | _=>exact this
  ·obtain ⟨arr,ty,g1,g2,g3⟩:=h1.obj j _ h2;obtain ⟨f1,f2⟩:=zfY h3;refine ⟨arr,ty,g1,by omega,λi u q hu hq=>re _ _ ?_⟩
   have hi:i < cs0.length:=by rw [f1];exact (xaa.1 hq).1
   exact hnil _ _ _ (f2 i _ _ (xab hi) hq) (g3 i u _ hu (xab hi))
 ·simp only [zj] at hj
  by_cases ej:j=k
  ·subst ej;rw [if_pos rfl] at hj;injection hj with hj;subst hj;trivial
  ·rw [if_neg ej] at hj;exact zaJ hso j o hj
 ·obtain ⟨o1,h2,h3,h4⟩:=same j o hj;rw [<-h4];exact h1.sep j o1 b h2 (by rw [h3];exact hb)
 ·obtain ⟨o1,h2,h3,_⟩:=same j o hj;obtain ⟨o2,g2,g3,_⟩:=same j' o' hj';exact h1.dis j j' o1 o2 b hne h2 g2 (by rw [h3];exact hb) (by rw [g3];exact hb')
 ·obtain ⟨o1,h2,h3,_⟩:=same j o hj;exact hno j o1 h2 (by rw [h3];exact hb)
 ·obtain ⟨o1,h2,h3,h4⟩:=same j o hj;exact h1.nn j o1 b h2 (by rw [h3];exact hb) (by rw [h4];exact hf)
theorem zaO {G:Cfg} {c:AC} {s:St} {Q:zN} (k e sz:Nat) (env:List (Nat × LV)) (obj:List (Nat × LObj)) (ho:Own k e sz s env obj) (h:Run G c ⟨env,(k,.row e sz [] false)::obj,s.tr,s.stop⟩ Q):Run G c s Q:=by
 intro hG code hc C a w hr;obtain ⟨C',h'⟩:=hr.own ho;exact h hG code hc C' a w h'
def zpr (P:Program) (f:Nat) (caps:List PV) (ts:List (List PV)):Prop:=
 zbb P f/\∀ (w:World) (B:Nat->Prop) (y:Nat) (vs:List Value) (J:List (List PV)->(Nat->Prop)->(Nat->Prop)->World->Prop) (Jx:List (List PV)->(Nat->Prop)->World->Prop) (D O:Nat->Prop),
  (∀ b,B b->b < w.heap.size)->Reps w B vs caps->(∀ b,D b->b < w.heap.size)->(∀ b,O b->¬B b/\D b)->zbG J Jx->zdG P y B w.heap.size J Jx ts->J [] D O w ->
  Calls P f (.func (.yield y) #[] #[]::vs).toArray w λe w'=>(∃ u,e=.returned u)/\((∃ D' O',J ts D' O' w')\/∃ pre D',Jx pre D' w')
def zbn (caps:List PV):St:=⟨(0,.yield)::((caps.zipIdx 1).map λx=>(x.2,.p x.1)),[],[],false⟩
def zxu (ts:List (List PV)):zN
 | .normal,s=>s.stop=true\/s.tr=ts
 | .ret,s=>s.stop=true\/s.tr=ts
 | .exit _,_=>False
theorem zjq {P : Program} {f : FuncId} {fn : Func} {body : Code} {c : AC} {caps : List PV} {ts : List (List PV)} (hf : P.funcs[f]? = some fn) (hname : (fn.name == "runtime.NumGoroutine") = false) (hb : fn.body = some body)
  (hc:zC P fn.ntmps body=some c) (hrs:zas P fn.results.toList=some []) (hn:caps.length+1≤fn.ntmps) (hgb:fn.ntmps≤GB)
  (hrun:wfs caps→∀ X:Fx,X.N=fn.ntmps→Run ⟨P,X,none,ts⟩ c (zbn caps) (zxu ts)):zpr P f caps ts:=by
 refine ⟨⟨fn,body,hf,hname,hb⟩,fun w B y vs J Jx D O hB hvs hD hO hcl hy hJ=>callsIn_wide.1 (callsIn_of_wp_marks (F:=Fence.wide) (n:=0) hf hb trivial ?_ rfl)⟩
 let X:Fx:={ w0:=w,B0:=B,B1:=B,M:=fun _=>False,O0:=O,D0:=D,Bo:=B,no:=w.heap.size,N:=fn.ntmps,y:=y,J:=J,Jx:=Jx,gv:=fun _=>undef,K:=[] }
 have hlen:=hvs.1
 have hN:((.func (.yield y) #[] #[]::vs).toArray++Array.replicate (fn.ntmps - (.func (.yield y) #[] #[]::vs:List Value).toArray.size) undef).size=fn.ntmps:=by simp;omega
 have hget:∀ t,(zbn caps).get t=if t=0 then .yield else match caps[t - 1]? with|some v=>.p v|none=>.any:=fun t=>by
  have:=zfv caps 1 t
  simp only [zbn,St.get,z8]
  by_cases e:t=0
  ·rw [if_pos e,if_pos e]
  ·rw [if_neg e,if_neg e,this,if_pos (by omega)]
   try rfl
 have h0:RelC X { B:=B,ρ:=fun _=>0,cur:=fun _=>undef,y:=y,n:=w.heap.size,dep:=D,own:=O } (zbn caps).get (zbn caps).look [] false { tmps:=(.func (.yield y) #[] #[]::vs).toArray++Array.replicate (fn.ntmps - (.func (.yield y) #[] #[]::vs:List Value).toArray.size) undef,defers:=[] } w:=
  {
   kx:=KeepX.refl _ _
   yy:=rfl
   b0:=fun b h=>h
   blt:=hB
   bold:=fun b h _=>h
   borg:=fun b h=>.inl h
   no0:=xaj _
   tsz:=hN
   ngb:=hgb
   env:=fun t=>by
    rw [hget]
    by_cases e:t=0
    ·subst e
     rw [if_pos rfl,zaN (by decide)]
     have:((.func (.yield y) #[] #[]::vs).toArray++Array.replicate (fn.ntmps - (.func (.yield y) #[] #[]::vs:List Value).toArray.size) undef).getD 0 undef=.func (.yield y) #[] #[]:=by
      rw [xan,xb4 (by simp)]
      simp
     show RepL w _ _ (Array.getD _ 0 undef) _
     rw [this]
     exact .yield
    ·rw [if_neg e]
     split
     ·rename_i v hv
      obtain ⟨u,hu,hr⟩:=hvs.get hv
      have ht:t - 1 < caps.length:=(xaa.1 hv).1
      rw [zaN (by show t < GB;have:fn.ntmps≤GB:=hgb;omega)]
      have:((.func (.yield y) #[] #[]::vs).toArray++Array.replicate (fn.ntmps - (.func (.yield y) #[] #[]::vs:List Value).toArray.size) undef).getD t undef=u:=by
       rw [xan,xb4 (by simp;omega)]
       rw [xb9,show t=(t - 1)+1 by omega,xbO,hu]
       rfl
      show RepL w _ _ (Array.getD _ t undef) _
      rw [this]
      exact .p hr
     ·exact .any _
   envs:=fun t=>by
    rw [hget]
    split
    ·exact .yield
    ·split
     ·exact .p _
     ·exact .any
   obj:=fun k o hk=>by simp [zbn,St.look,zj] at hk
   objs:=fun k o hk=>by simp [zbn,St.look,zj] at hk
   sep:=fun k o b hk=>by simp [zbn,St.look,zj] at hk
   dis:=fun k k' o o' b _ hk=>by simp [zbn,St.look,zj] at hk
   marks:=fun p hp=>by cases hp
   nle:=xaj _
   dn:=hD
   nn:=fun k o b hk=>by simp [zbn,St.look,zj] at hk
   ow:=hO
   oold:=fun _ h=>.inr h
   dold:=fun _ h=>.inl h
   jj:=.inr ⟨w,hJ,Kept.refl _ _⟩ }
 refine wpIn_mono (hrun hvs.wf X rfl ⟨⟨fun b h=>h.elim,fun b h=>h.elim⟩,.inr ⟨hy,hcl⟩,fun l h=>by cases h⟩ body hc _ _ _ h0) ?_
 rintro e a' w' ⟨s',C',hr',hq⟩
 have key:(s'.stop=true∨s'.tr=ts)→LeavesInM Fence.wide 0 P fn a'.tmps (fun e w'=>(∃ u,e=.returned u)∧((∃ D' O',J ts D' O' w')∨∃ pre D',Jx pre D' w')) a'.defers .returning w':=fun hq=>by
  refine zds (ro:=none) a'.defers a' w' rfl hr' fun w2 h2=>?_
  obtain ⟨us,hrun,hus⟩:=zdR (fn:=fn) (rs:=[]) hrs h2 rfl trivial
  refine ⟨_,hrun,⟨_,rfl⟩,?_⟩
  rcases h2.jj with hX|⟨wy,h3,h4⟩
  ·exact .inl ⟨D,O,(hX ts D O w2).1⟩
  ·cases hs:s'.stop with
   | true=>
    rw [hs,if_pos rfl] at h3
    exact .inr ⟨_,_,hcl.jx _ _ _ _ h3 h4⟩
   | false=>
    rw [hs,if_neg (by simp)] at h3
    rw [hs] at hq
    have hts:=hq.resolve_left (by simp)
    rw [hts] at h3
    exact .inl ⟨_,_,hcl.j _ _ _ _ _ h3 h4⟩
 cases e with
 | normal=>exact key hq
 | ret=>exact key hq
 | exit id=>exact hq.elim
 | goto l=>exact hq.elim
 | panic c=>exact hq.elim
 | outgrown=>exact hq.elim
theorem zg4 {P:Program} {f:FuncId} {c:AC} {n:Nat} (h:zci P f=some (c,[],n)) {caps:List PV} {ts:List (List PV)} (hn:caps.length+1<=n) (hrun:wfs caps->∀ X:Fx,X.N=n->Run ⟨P,X,none,ts⟩ c (zbn caps) (zxu ts)):zpr P f caps ts:=by
 unfold zci at h
 split at h
 ·rename_i fn hf
  split at h
  ·cases h
  ·rename_i hname
   split at h
   ·rename_i b hb
    split at h
    ·rename_i c' rs' hc hrs
     split at h
     case isFalse=>cases h
     rename_i hgb;injection h with h;injection h with e1 h;injection h with e2 e3;subst e1;subst e2;subst e3;exact zjq hf (by simpa using hname) hb hc hrs hn hgb hrun
    ·cases h
   ·cases h
 ·cases h
def zea (ds:List Deferred):List (Nat × Obj):=ds.filterMap λd=>match d.target with|.collected r=>some (r,.deferred (some []))|_=>none
def zhg (X:Fx) (C:Ctx) (lk:Nat->Option LObj) (b:Nat):Prop:=b < X.w0.heap.size\/C.B b\/(∃ k o,lk k=some o/\blk C k o=some b)\/(∃ p ∈ X.K,p.1=b)\/C.dep b
def ziA (l:Nat) (C:Ctx) (lk:Nat->Option LObj) (b:Nat):Prop:=(∃ k o,lk k=some o/\o.frozen=false/\blk C k o=some b)\/b=l\/C.own b
section
variable {X:Fx} {C:Ctx} {g:Nat->LV} {lk:Nat->Option LObj} {tr:List (List PV)} {stop:Bool} {a:Act} {w w':World}
theorem RelC.kept (h:RelC X C g lk tr stop a w) (hd:a.defers=[]) (hk:Kept (zhg X C lk) w w'):RelC X C g lk tr stop a w':=by
 have hsz:=hk.size;have hB:∀ b,C.B b->w'.heap[b]?=w.heap[b]?:=λb hb=>hk.block b (.inr (.inl hb))
 have hrow:∀ k e sz xs fz,lk k=some (.row e sz xs fz)->∃ xs' fz',lk k=some (.row e sz xs' fz')/\(xs'.length=xs.length->C.cur k=C.cur k)/\xs.length<=xs'.length:=λk e sz xs fz hk=>⟨xs,fz,hk,λ_=>rfl,xaj _⟩
 have hm:=h.marks;rw [hd] at hm;exact { h with
  kx:=⟨hk.os.trans h.kx.os,hk.tape.trans h.kx.tape,hk.output.trans h.kx.output,xa8 h.kx.size hsz,λb hb hm=>(hk.block b (.inl hb)).trans (h.kx.block b hb hm)⟩
  blt:=λb hb=>xaG (h.blt b hb) hsz
  env:=λt=>(h.env t).same (λ_ h=>h) rfl hB (λ_ _ _=>rfl) hrow (h.envs t)
  obj:=λk o hk2=>(h.obj k o hk2).same (λ_ h=>h) rfl hB (λ_ _ _=>rfl) hrow hk2 (h.objs k o hk2) rfl (λb hb=>hk.block b (.inr (.inr (.inl ⟨k,o,hk2,hb⟩))))
  sep:=λk o b hk2 hb=>by
   obtain ⟨h1,h2,h3,h4⟩:=h.sep k o b hk2 hb;exact ⟨h1,xaG h2 hsz,h3,h4⟩
  marks:=by
   rw [hd];exact λp hp=>⟨(hk.block p.1 (.inr (.inr (.inr (.inl ⟨p,hp,rfl⟩))))).trans (hm p hp).1,(hm p hp).2⟩
  nle:=xa8 h.nle hsz
  jj:=h.jj.imp id λ⟨wy,h1,h2⟩=>⟨wy,h1,h2.trans (hk.mono λb hb=>.inr (.inr (.inr (.inr hb))))⟩ }
theorem zoS (h:RelC X C g lk tr stop a w):∀ b,zhg X C lk b->b < w.heap.size:=λb hb=>by
 rcases hb with hb|hb|⟨k,o,hk,hb⟩|⟨p,hp,rfl⟩|hb
 ·exact xaG hb h.kx.size
 ·exact h.blt b hb
 ·exact (h.sep k o b hk hb).2.1
 ·exact h.marks.lt _ (.inr ⟨p,hp,rfl⟩)
 ·exact xaG (h.dn b hb) h.nle
theorem zkx {l:Nat} (h:RelC X C g lk tr stop a w) (hl:∃ p ∈ X.K,p.1=l):∀ b,ziA l C lk b->¬C.B b/\zhg X C lk b:=λb hb=>by
 rcases hb with ⟨k,o,hk,hf,hb⟩|rfl|hb
 ·exact ⟨(h.sep k o b hk hb).2.2.1 hf,.inr (.inr (.inl ⟨k,o,hk,hb⟩))⟩
 ·exact ⟨((h.marks.at b (.inr hl)).2).2.1,.inr (.inr (.inr (.inl hl)))⟩
 ·exact ⟨(h.ow b hb).1,.inr (.inr (.inr (.inr (h.ow b hb).2)))⟩
theorem zjg:∀ {ds:List Deferred},MarksOk w X C lk ds->∀ p ∈ zea ds++X.K,w.heap[p.1]?=some p.2/\zfz X C lk p.1
 | [],h,p,hp=>h p (by simpa [zea] using hp)
 | d::ds,h,p,hp=>by
  obtain ⟨⟨r,h1,h2,h0,h3,h4,h5⟩,hr⟩:=h;simp only [zea,xbp,h1,xaQ,xaA] at hp
  rcases hp with rfl|hp
  ·exact ⟨h2,h3⟩
  ·exact zjg hr p hp
theorem zf6 {w0 w1:World} {C1:Ctx} {l1:Nat->Option LObj}:∀ {ds:List Deferred},MarksOk w0 X C lk ds->(∀ p ∈ zea ds++X.K,w1.heap[p.1]?=some p.2/\zfz X C1 l1 p.1)->MarksOk w1 X C1 l1 ds
 | [],h,hk=>λp hp=>hk p (by simpa [zea] using hp)
 | d::ds,h,hk=>by
  obtain ⟨⟨r,h1,h2,h0,h3,h4,h5⟩,hr⟩:=h;have hk':∀ p,p=(r,Obj.deferred (some []))\/p ∈ zea ds++X.K->w1.heap[p.1]?=some p.2/\zfz X C1 l1 p.1:=λp hp=>hk p (by
   simp only [zea,xbp,h1,xaQ,xaA];exact hp)
  obtain ⟨k1,k2⟩:=hk' _ (.inl rfl);exact ⟨⟨r,h1,k1,h0,k2,h4,h5⟩,zf6 hr λp hp=>hk' p (.inr hp)⟩
theorem zgT:∀ {ds:List Deferred},MarksOk w X C lk ds->∀ p ∈ zea ds++X.K,Mk X ds p.1
 | [],_,p,hp=>.inr ⟨p,by simpa [zea] using hp,rfl⟩
 | d::ds,h,p,hp=>by
  obtain ⟨⟨r,h1,_⟩,hr⟩:=h;simp only [zea,xbp,h1,xaQ,xaA] at hp
  rcases hp with rfl|hp
  ·exact .inl ⟨d,xar,h1⟩
  ·exact (zgT hr p hp).imp (λ⟨x,hx,he⟩=>⟨x,xaL _ hx,he⟩) id
def kX (X:Fx) (ds:List Deferred) (l:Nat) (o:Obj):Fx:={ X with K:=(l,o)::(zea ds++X.K) }
theorem RelC.toK (h : RelC X C g lk tr stop a w) {l : Nat} {o : Obj} (hl : w.heap[l]? = some o) (ha : zfz X C lk l) : RelC (kX X a.defers l o) C g lk tr stop { a with defers := [] } w :=
  { kx := h.kx, yy := h.yy, b0 := h.b0, blt := h.blt, bold := h.bold, borg := h.borg, no0 := h.no0, tsz := h.tsz, ngb := h.ngb, env := h.env, envs := h.envs, obj := h.obj, objs := h.objs, sep := h.sep, dis := h.dis, nle := h.nle, dn := h.dn, nn := h.nn, ow := h.ow, oold := h.oold, dold := h.dold, jj := h.jj,
    marks := λp hp => by
      rcases List.mem_cons.1 hp with rfl | hp
      · exact ⟨hl, ha⟩
      · exact zjg h.marks p hp }
theorem RelC.ofK {ds : List Deferred} {l : Nat} {o : Obj} {tm : Array Value} {w0 : World} {C0 : Ctx} {lk0 : Nat -> Option LObj} (h : RelC (kX X ds l o) C g lk tr stop { tmps := tm, defers := [] } w) (hm : MarksOk w0 X C0 lk0 ds) : RelC X C g lk tr stop { tmps := tm, defers := ds } w :=
  { kx := h.kx, yy := h.yy, b0 := h.b0, blt := h.blt, bold := h.bold, borg := h.borg, no0 := h.no0, tsz := h.tsz, ngb := h.ngb, env := h.env, envs := h.envs, obj := h.obj, objs := h.objs, sep := h.sep, dis := h.dis, nle := h.nle, dn := h.dn, nn := h.nn, ow := h.ow, oold := h.oold, dold := h.dold, jj := h.jj,
    marks := zf6 hm λp hp => h.marks p (List.mem_cons_of_mem _ hp) }
theorem MarksOk.k:∀ {ds:List Deferred},MarksOk w X C lk ds->KOk w X C lk
 | [],h=>h
 | _::_,h=>MarksOk.k h.2
theorem RelC.setK {l:Nat} {o o':Obj} {r:List (Nat × Obj)} (h:RelC { X with K:=(l,o)::r } C g lk tr stop a w) (hl:∀ p ∈ r,p.1≠l) (ho:X.w0.heap.size<=l\/X.O0 l) :
  RelC { X with K:=(l,o')::r } C g lk tr stop a (w.putObj l o'):=by
 have hm:=h.marks.k;obtain ⟨hlw,hla⟩:=hm (l,o) xar;have hoth:∀ b,b≠l->(w.putObj l o').heap[b]?=w.heap[b]?:=λb hb=>World.putObj_heap_other hb
 have hB:∀ b,C.B b->(w.putObj l o').heap[b]?=w.heap[b]?:=λb hb=>hoth b λe=>hla.2.1 (e ▸ hb)
 have hrow:∀ k e sz xs fz,lk k=some (.row e sz xs fz)->∃ xs' fz',lk k=some (.row e sz xs' fz')/\(xs'.length=xs.length->C.cur k=C.cur k)/\xs.length<=xs'.length:=λk e sz xs fz hk=>⟨xs,fz,hk,λ_=>rfl,xaj _⟩
 exact {
  kx:=⟨h.kx.os,h.kx.tape,h.kx.output,by simpa using h.kx.size,λb hb hmm=>(hoth b λe=>by
   replace hb:b < X.w0.heap.size:=hb
   subst e
   rcases ho with ho|ho
   ·omega
   ·exact hmm (.inr ho)).trans (h.kx.block b hb hmm)⟩
  yy:=h.yy
  b0:=h.b0
  blt:=λb hb=>by simpa using h.blt b hb
  bold:=h.bold
  borg:=h.borg
  no0:=h.no0
  tsz:=h.tsz
  ngb:=h.ngb
  env:=λt=>RepL.same (C:=C) (C':=C) (λ_ h=>h) rfl hB (λ_ _ _=>rfl) hrow (h.envs t) (h.env t)
  envs:=h.envs
  obj:=λk ob hk=>ObjRel.same (C:=C) (C':=C) (λ_ h=>h) rfl hB (λ_ _ _=>rfl) hrow hk (h.objs k ob hk) rfl (λb hb=>hoth b λe=>hla.2.2.2 k ob hk (e ▸ hb)) (h.obj k ob hk)
  objs:=h.objs
  sep:=λk ob b hk hb=>by simpa using h.sep k ob b hk hb
  dis:=h.dis
  marks:=by
   have hmm:=h.marks
   revert hmm
   generalize a.defers=ds;intro hmm
   induction ds with
   | nil=>
    intro p hp
    rcases xaA.1 hp with rfl|hp
    ·exact ⟨World.putObj_heap_same (Mk.lt_of hlw),hla⟩
    ·obtain ⟨h1,h2⟩:=hm p (xaL _ hp);exact ⟨(hoth _ (hl p hp)).trans h1,h2⟩
   | cons d ds ih=>
    obtain ⟨⟨r',g1,g2,g0,g3,g4,g5⟩,gr⟩:=hmm;exact ⟨⟨r',g1,(hoth r' λe=>g5 (l,o) xar e.symm).trans g2,g0,g3,g4,λp hp=>by
     rcases xaA.1 hp with rfl|hp
     ·exact g5 (l,o) xar
     ·exact g5 p (xaL _ hp)⟩,ih gr⟩
  nle:=by simpa using h.nle
  dn:=h.dn
  nn:=h.nn
  ow:=h.ow
  oold:=h.oold
  dold:=h.dold
  jj:=h.jj.imp id λ⟨wy,j1,j2⟩=>⟨wy,j1,j2.trans ⟨rfl,rfl,rfl,by simp,λb hb=>hoth b λe=>hla.2.2.1 (e ▸ hb)⟩⟩ }
def lowE (env:List (Nat × LV)):List (Nat × LV):=env.filter λx=>decide (x.1 < GB)
def ghosts (env:List (Nat × LV)):List (Nat × LV):=env.map λx=>(x.1+GB,x.2)
theorem zcc:∀ (env:List (Nat × LV)) (t:Nat),z8 (ghosts env) t=if t < GB then .any else z8 env (t - GB)
 | [],t=>by simp [ghosts,z8]
 | (k,v)::r,t=>by
  have ih:=zcc r t;simp only [ghosts,xak,z8] at ih ⊢;rw [ih]
  by_cases e:t < GB
  ·rw [if_pos e,if_pos e,if_neg (by omega)]
  ·rw [if_neg e,if_neg e]
   by_cases e2:t=k+GB
   ·rw [if_pos e2,if_pos (by omega)]
   ·rw [if_neg e2,if_neg (by omega)]
theorem zk5:∀ (env:List (Nat × LV)) (t:Nat),z8 (lowE env) t=if t < GB then z8 env t else .any
 | [],t=>by simp [lowE,z8]
 | (k,v)::r,t=>by
  have ih:=zk5 r t;simp only [lowE,xct,z8] at ih ⊢
  by_cases hk:k < GB
  ·rw [decide_eq_true hk,if_pos rfl];simp only [z8]
   by_cases e:t=k
   ·subst e;rw [if_pos rfl,if_pos hk,if_pos rfl]
   ·rw [if_neg e,if_neg e];exact ih
  ·rw [decide_eq_false hk];simp only [xaX,if_false];rw [ih]
   by_cases e:t < GB
   ·rw [if_pos e,if_pos e,if_neg (by omega)]
   ·rw [if_neg e,if_neg e]
theorem zfx:∀ (l r:List (Nat × LV)) (t:Nat),(∀ x ∈ l,x.1 < GB)->¬t < GB->z8 (l++r) t=z8 r t
 | [],r,t,_,_=>rfl
 | (k,v)::l,r,t,h,ht=>by
  have:=h (k,v) xar;simp only [xaQ,z8];rw [if_neg (by simp only at this;omega)]
  exact zfx l r t (λx hx=>h x (xaL _ hx)) ht
theorem zfw:∀ (l r:List (Nat × LV)) (t:Nat),(∀ x ∈ r,¬x.1 < GB)->t < GB->z8 (l++r) t=z8 l t
 | [],r,t,h,ht=>by
  show z8 r t=.any
  induction r with
  | nil=>rfl
  | cons x r ih=>
   obtain ⟨k,v⟩:=x;have:=h (k,v) xar;simp only [z8];rw [if_neg (by simp only at this;omega)]
   exact ih λx hx=>h x (xaL _ hx)
 | (k,v)::l,r,t,h,ht=>by
  simp only [xaQ,z8]
  split
  ·rfl
  ·exact zfw l r t h ht
theorem zgk (env:List (Nat × LV)) (t:Nat):z8 (lowE env++ghosts env) t=if t < GB then z8 env t else z8 env (t - GB):=by
 by_cases e:t < GB
 ·rw [if_pos e,zfw _ _ _ (λx hx=>?_) e,zk5,if_pos e]
  obtain ⟨y,_,rfl⟩:=xaT.1 hx;simp
 ·rw [if_neg e,zfx _ _ _ (λx hx=>?_) e,zcc,if_neg e]
  have:=xbP.1 hx;simpa using this.2
def rX (X : Fx) (a : Act) (C : Ctx) (lk : Nat -> Option LObj) (Bi : Nat -> Prop) (l : Nat) (W : World) : Fx :=
  { X with
    w0 := W
    B0 := λb => C.B b \/ Bi b
    B1 := λb => (C.B b \/ Bi b) \/ ∃ k o, lk k = some o /\ o.frozen = false /\ blk C k o = some b
    M := λb => ∃ k o, lk k = some o /\ o.frozen = false /\ blk C k o = some b
    O0 := λb => C.own b \/ b = l
    D0 := C.dep
    gv := λt => zbe X a (t - GB) }
theorem ziC (X:Fx) (a a':Act) (C:Ctx) (lk:Nat->Option LObj) (Bi:Nat->Prop) (l:Nat) (W:World) (t:Nat):zbe (rX X a C lk Bi l W) a' (t+GB)=zbe X a t:=by
 unfold zbe;rw [if_neg (by omega)]
 simp only [rX,zbe,xbC]
theorem zhs (X:Fx) (a a':Act) (C:Ctx) (lk:Nat->Option LObj) (Bi:Nat->Prop) (l:Nat) (W:World) (r:List (Nat × Obj)) (t:Nat):zbe { rX X a C lk Bi l W with K:=r } a' (t+GB)=zbe X a t:=by
 unfold zbe;rw [if_neg (by omega)]
 simp only [rX,zbe,xbC]
theorem zt0 {Bi:Nat->Prop} {l:Nat} {r:List (Nat × Obj)} (hM:X.MOk) (h:RelC X C g lk tr stop a w):Fx.MOk { rX X a C lk Bi l w with K:=r }:=
 ⟨λb hb=>.inr hb,λb ⟨k,o,hk,hf,hb⟩=>((h.sep k o b hk hb).1 hf).elim (λe=>.inr (xa8 h.no0 e)) (hM.m2 b)⟩
theorem zj8 {P:Program} {ts:List (List PV)} {Bi:Nat->Prop} {l:Nat} {r:Loop} {rest:List (Nat × Obj)} (hy:ts=[]\/(zdG P X.y X.Bo X.no X.J X.Jx ts/\zbG X.J X.Jx)) (hM:X.MOk) (h:RelC X C g lk tr stop a w) :
  Cfg.Ok ⟨P,{ rX X a C lk Bi l w with K:=(l,.loop r)::rest },some l,ts⟩ where
 mok:=zt0 hM h
 yok:=by unfold zdF;exact hy
 lok:=λl' hl'=>by injection hl' with hl';subst hl';exact ⟨r,xar⟩
theorem RelC.enter {env:List (Nat × LV)} {l:Nat} {o:Obj} {r:List (Nat × Obj)} {Bi:Nat->Prop} (hK:X.K=(l,o)::r) (h:RelC X C (z8 env) lk tr stop a w) (hd:a.defers=[]) (hBi:∀ b,Bi b->b < w.heap.size/\¬ziA l C lk b/\(X.Bo b\/X.no<=b)) (hBk:∀ p ∈ X.K,¬Bi p.1) :
  RelC (rX X a C lk Bi l w) { C with B:=λb=>C.B b\/Bi b } (z8 (lowE env++ghosts env)) lk tr stop a w:=by
 have hBe:∀ b,C.B b->(λb=>C.B b\/Bi b) b:=λb hb=>.inl hb
 have hrow:∀ k e sz xs fz,lk k=some (.row e sz xs fz)->∃ xs' fz',lk k=some (.row e sz xs' fz')/\(xs'.length=xs.length->C.cur k=C.cur k)/\xs.length<=xs'.length:=λk e sz xs fz hk=>⟨xs,fz,hk,λ_=>rfl,xaj _⟩
 have hblk:∀ k o,blk { C with B:=λb=>C.B b\/Bi b } k o=blk C k o:=λk o=>by cases o<;>rfl
 have hm:=h.marks;rw [hd] at hm;exact {
  kx:=KeepX.refl _ _
  yy:=h.yy
  b0:=λb hb=>hb
  blt:=λb hb=>hb.elim (h.blt b) λe=>(hBi b e).1
  bold:=λb hb _=>.inl hb
  borg:=λb hb=>hb.elim (h.borg b) λe=>(hBi b e).2.2
  no0:=xa8 h.no0 h.kx.size
  tsz:=h.tsz
  ngb:=h.ngb
  env:=λt=>by
   rw [zgk]
   by_cases e:t < GB
   ·rw [if_pos e,zaN e];have:=h.env t;rw [zaN e] at this;exact RepL.same (C:=C) (C':={ C with B:=λb=>C.B b\/Bi b }) hBe rfl (λ_ _=>rfl) (λ_ _ _=>rfl) hrow (h.envs t) this
   ·rw [if_neg e];have h1:=ziC X a a C lk Bi l w (t - GB);rw [show t - GB+GB=t by omega] at h1
    rw [h1];exact RepL.same (C:=C) (C':={ C with B:=λb=>C.B b\/Bi b }) hBe rfl (λ_ _=>rfl) (λ_ _ _=>rfl) hrow (h.envs _) (h.env _)
  envs:=λt=>by
   rw [zgk]
   split
   ·exact h.envs t
   ·exact h.envs _
  obj:=λk ob hk=>ObjRel.same (C:=C) (C':={ C with B:=λb=>C.B b\/Bi b }) hBe rfl (λ_ _=>rfl) (λ_ _ _=>rfl) hrow hk (h.objs k ob hk) rfl (λ_ _=>rfl) (h.obj k ob hk)
  objs:=h.objs
  sep:=λk ob b hk hb=>by
   rw [hblk] at hb;obtain ⟨h1,h2,h3,h4⟩:=h.sep k ob b hk hb;exact ⟨λhf=>.inr ⟨k,ob,hk,hf,hb⟩,h2,λhf hbb=>hbb.elim (h3 hf) λe=>(hBi b e).2.1 (.inl ⟨k,ob,hk,hf,hb⟩),λhf=>.inl (h4 hf)⟩
  dis:=λk k' ob ob' b hne hk hk' hb hb'=>h.dis k k' ob ob' b hne hk hk' (by rw [hblk] at hb;exact hb) (by rw [hblk] at hb';exact hb')
  marks:=by
   rw [hd];intro p hp;obtain ⟨h1,h2,h3,h4,h5⟩:=hm p hp;exact ⟨h1,h2,λhbb=>hbb.elim h3 (hBk p hp),h4,λk ob hk=>by rw [hblk];exact h5 k ob hk⟩
  nle:=h.nle
  dn:=h.dn
  nn:=λk ob b hk hb hf=>h.nn k ob b hk (by rw [hblk] at hb;exact hb) hf
  ow:=λb hb=>⟨λhbb=>hbb.elim (h.ow b hb).1 λe=>(hBi b e).2.1 (.inr (.inr hb)),(h.ow b hb).2⟩
  oold:=λb hb=>.inr (.inl hb)
  dold:=λb hb=>.inl hb
  jj:=h.jj }
theorem RelC.leave {env:List (Nat × LV)} {l:Nat} {o o':Obj} {r:List (Nat × Obj)} {Bi:Nat->Prop} {C3:Ctx} {lk3:Nat->Option LObj} {tr3:List (List PV)} {stop3:Bool} {a3:Act} {W3:World} (hM:X.MOk) (hK:X.K=(l,o)::r) (h:RelC X C (z8 env) lk tr stop a w) (hd:a.defers=[])
  (hl:X.w0.heap.size<=l) (hBi:∀ b,Bi b->b < X.w0.heap.size->X.B1 b)
  (h3:RelC { rX X a C lk Bi l w with K:=(l,o')::r } C3 (z8 (ghosts env)) lk3 tr3 stop3 a3 W3) :
  RelC { X with K:=(l,o')::r } C3 (z8 env) lk3 tr3 stop3 a W3/\Rnd (zhg X C lk) (ziA l C lk) Bi (zhg { X with K:=(l,o')::r } C3 lk3) (ziA l C3 lk3) w W3/\(∀ b,C.B b->C3.B b):=by
 have hsz:X.w0.heap.size<=w.heap.size:=h.kx.size;have hKe:∀ b,(∃ p ∈ (l,o')::r,p.1=b)↔∃ p ∈ X.K,p.1=b:=λb=>by rw [hK];simp
 have hM2:∀ b,(∃ k ob,lk k=some ob/\ob.frozen=false/\blk C k ob=some b)->X.w0.heap.size<=b\/X.M b:=λb ⟨k,ob,hk,hf,hb⟩=>(h.sep k ob b hk hb).1 hf
 have hB1:∀ b,C3.B b->b < w.heap.size->C.B b\/Bi b\/∃ k ob,lk k=some ob/\ob.frozen=false/\blk C k ob=some b:=λb hb hlt=>by
  rcases h3.bold b hb hlt with (e|e)|e
  ·exact .inl e
  ·exact .inr (.inl e)
  ·exact .inr (.inr e)
 have hsep3:∀ k ob b,lk3 k=some ob->blk C3 k ob=some b->ob.frozen=false->w.heap.size<=b\/∃ k ob,lk k=some ob/\ob.frozen=false/\blk C k ob=some b:=λk ob b hk hb hf=>(h3.sep k ob b hk hb).1 hf
 have hm3:=h3.marks.k;refine ⟨{
  kx:=⟨h3.kx.os.trans h.kx.os,h3.kx.tape.trans h.kx.tape,h3.kx.output.trans h.kx.output,xa8 hsz h3.kx.size,λb hb hmm=>(h3.kx.block b (xaG hb hsz) λe=>by
   replace hb:b < X.w0.heap.size:=hb
   rcases e with e|e|e
   ·rcases hM2 b e with e|e
    ·omega
    ·exact hmm (.inl e)
   ·rcases h.oold b e with e|e
    ·omega
    ·exact hmm (.inr e)
   ·omega).trans (h.kx.block b hb hmm)⟩
  yy:=h3.yy
  b0:=λb hb=>h3.b0 b (.inl (h.b0 b hb))
  blt:=h3.blt
  bold:=λb hb hlt=>by
   rcases hB1 b hb (by show b < _;have:b < X.w0.heap.size:=hlt;omega) with e|e|e
   ·exact h.bold b e hlt
   ·exact hBi b e hlt
   ·rcases hM2 b e with e|e
    ·have:b < X.w0.heap.size:=hlt;omega
    ·exact hM.m1 b e
  borg:=h3.borg
  no0:=h.no0
  tsz:=h.tsz
  ngb:=h.ngb
  env:=λt=>by
   have:=h3.env (t+GB);rw [zhs,zcc,if_neg (by omega),xbC] at this
   exact this
  envs:=λt=>by
   have:=h3.envs (t+GB);rw [zcc,if_neg (by omega),xbC] at this
   exact this
  obj:=h3.obj
  objs:=h3.objs
  sep:=λk ob b hk hb=>by
   obtain ⟨h1,h2,g3,g4⟩:=h3.sep k ob b hk hb;exact ⟨λhf=>(h1 hf).elim (λe=>.inl (xa8 hsz e)) (hM2 b),h2,g3,g4⟩
  dis:=h3.dis
  marks:=by rw [hd];exact hm3
  nle:=h3.nle
  dn:=h3.dn
  nn:=h3.nn
  ow:=h3.ow
  oold:=λb hb=>(h3.oold b hb).elim (λe=>.inl (xa8 hsz e)) λe=>e.elim (h.oold b) λe=>.inl (by subst e;exact hl)
  dold:=λb hb=>(h3.dold b hb).elim (λe=>(h.dold b e).imp id (Or.imp id λe=>h3.b0 b (.inl e))) λe=>e.elim (λe=>.inr (.inl (xa8 hsz e))) λe=>.inr (.inr e)
  jj:=h3.jj },⟨h3.kx.mono λb _ e=>?_,λb hb=>?_,λb hb=>?_,λb hb=>?_,λb hb=>?_⟩,λb hb=>h3.b0 b (.inl hb)⟩
 ·rcases e with e|e|e
  ·exact .inl e
  ·exact .inr (.inr e)
  ·exact .inr (.inl e)
 ·have hobj:∀ b,C3.B b->zhg X C lk b\/w.heap.size<=b\/Bi b:=λb hb=>by
   by_cases hlt:b < w.heap.size
   ·rcases hB1 b hb hlt with e|e|⟨k,ob,h1,h2,h4⟩
    ·exact .inl (.inr (.inl e))
    ·exact .inr (.inr e)
    ·exact .inl (.inr (.inr (.inl ⟨k,ob,h1,h4⟩)))
   ·exact .inr (.inl (by omega))
  rcases hb with hb|hb|⟨k,ob,hk,hb⟩|hb|hb
  ·exact .inl (.inl hb)
  ·exact hobj b hb
  ·cases hf:ob.frozen with
   | true=>exact hobj b ((h3.sep k ob b hk hb).2.2.2 hf)
   | false=>
    rcases hsep3 k ob b hk hb hf with e|⟨k,ob,h1,h2,h4⟩
    ·exact .inr (.inl e)
    ·exact .inl (.inr (.inr (.inl ⟨k,ob,h1,h4⟩)))
  ·exact .inl (.inr (.inr (.inr (.inl ((hKe b).1 hb)))))
  ·rcases h3.dold b hb with e|e|e
   ·exact .inl (.inr (.inr (.inr (.inr e))))
   ·exact .inr (.inl e)
   ·exact hobj b e
 ·rcases hb with hb|hb|⟨k,ob,hk,hb⟩|⟨p,hp,rfl⟩|hb
  ·exact xaG (xaG hb hsz) h3.kx.size
  ·exact h3.blt b hb
  ·exact (h3.sep k ob b hk hb).2.1
  ·exact Mk.lt_of (hm3 p hp).1
  ·exact xaG (h3.dn b hb) h3.nle
 ·rcases hb with ⟨k,ob,hk,hf,hb⟩|rfl|hb
  ·exact (hsep3 k ob b hk hb hf).elim .inr λe=>.inl (.inl e)
  ·exact .inl (.inr (.inl rfl))
  ·exact (h3.oold b hb).elim .inr λe=>e.elim (λe=>.inl (.inr (.inr e))) λe=>.inl (.inr (.inl e))
 ·rcases hb with ⟨k,ob,hk,hf,hb⟩|rfl|hb
  ·exact .inr (.inr (.inl ⟨k,ob,hk,hb⟩))
  ·exact .inr (.inr (.inr (.inl ⟨_,xar,rfl⟩)))
  ·exact .inr (.inr (.inr (.inr (h3.ow b hb).2)))
end
end Go.Proofs.YtijgimeokgbifaaGreat
namespace Go.Proofs.YtijgimeokgbifaaGreat
open Go.RowKit
def parEnv:List Nat->List PV->List (Nat × LV)->List (Nat × LV)
 | p::ps,v::vs,env=>parEnv ps vs ((p,.p v)::env)
 | _,_,env=>env
section
variable {X:Fx} {C:Ctx} {g:Nat->LV} {lk:Nat->Option LObj} {tr:List (List PV)} {stop:Bool} {a:Act} {w w':World} {P:Program}
theorem RelC.puts {ds:List Deferred}:∀ (ps:List Nat) (vs:List Value) (t:List PV) (env:List (Nat × LV)) (tm:Array Value),RelC X C (z8 env) lk tr stop { tmps:=tm,defers:=ds } w->Reps w C.B vs t->ps.length=t.length->(∀ p ∈ ps,p < X.N) ->
  RelC X C (z8 (parEnv ps t env)) lk tr stop { tmps:=(ps.zip vs).foldl (λtm x=>tm.setIfInBounds x.1 x.2) tm,defers:=ds } w
 | [],vs,t,env,tm,h,hv,hl,hp=>by simpa [parEnv] using h
 | p::ps,vs,[],env,tm,h,hv,hl,hp=>by simp at hl
 | p::ps,vs,v::t,env,tm,h,hv,hl,hp=>by
  obtain ⟨u,us,rfl,h1,h2⟩:=hv.cons_inv;have h3:=h.put (d:=p) (v:=u) (q:=.p v) (hp p xar) (.p h1) (.p v);rw [<-ziv] at h3;exact RelC.puts ps us t _ _ h3 h2 (by simpa using hl) λq hq=>hp q (xaL _ hq)
theorem zgg {ro:Option Nat} (h:RelC X C g lk tr stop a w) (hlok:∀ l,ro=some l->∃ r,(l,Obj.loop r) ∈ X.K) (fn:FuncId) (ps:Array Tmp) (asg body:Code) :
  ∃ (l:Nat) (mark:List Deferred) (W1:World) (db:Nat),(Instr.enterLoop fn a.tmps ps asg body ro).run P w=.ok (l,mark) W1 /\
   W1.heap[l]?=some (.loop { state:=.ready,pending:=none,fn,tmps:=a.tmps,params:=ps,assign:=asg,body,defers:=db })/\RelC X C g lk tr stop { a with defers:=mark++a.defers } W1/\zfz X C lk l/\w.heap.size<=l/\(∀ p ∈ zea (mark++a.defers)++X.K,p.1≠l)/\Below w.heap.size w W1:=by
 have hapart:∀ r,w.heap.size<=r->zfz X C lk r:=λr hr=>⟨by have:=h.no0;have:=h.kx.size;omega,λhb=>by have:=h.blt r hb;omega,λhd=>by have:=h.dn r hd;have:=h.nle;omega,λk o hk hb=>by have:=(h.sep k o r hk hb).2.1;omega⟩
 cases ro with
 | none=>
  have hb:Below w.heap.size w ((w.alloc (.deferred (some []))).alloc (.loop { state:=.ready,pending:=none,fn,tmps:=a.tmps,params:=ps,assign:=asg,body,defers:=w.heap.size })):=
   ((Below.refl _ w).alloc (xaj _) _).alloc (by simp) _
  have h1:=h.grow hb C.B (λ_ h=>h) (λb hb=>.inl hb)
  have hD:((w.alloc (.deferred (some []))).alloc (.loop { state:=.ready,pending:=none,fn,tmps:=a.tmps,params:=ps,assign:=asg,body,defers:=w.heap.size })).heap[w.heap.size]?=some (.deferred (some [])):=
   (Below.heap_alloc _ _ _ (by simp)).trans (World.alloc_heap_new w _)
  refine ⟨w.heap.size+1,[{ target:=.collected w.heap.size,args:=#[] }],_,w.heap.size,run_enterLoop_outer _ _ _ _ _,?_,{ h1 with marks:=⟨⟨w.heap.size,rfl,hD,h.kx.size,hapart _ (xaj _),λd hd he=>?_,λp hp he=>?_⟩,h1.marks⟩ },hapart _ (by omega),by omega,λp hp he=>?_,hb⟩
  ·have:=World.alloc_heap_new (w.alloc (.deferred (some []))) (.loop { state:=.ready,pending:=none,fn,tmps:=a.tmps,params:=ps,assign:=asg,body,defers:=w.heap.size })
   rwa [World.size_alloc] at this
  ·have:=h.marks.lt _ (.inl ⟨d,hd,he⟩);omega
  ·have:=h.marks.lt p.1 (.inr ⟨p,hp,rfl⟩);omega
  ·have:p ∈ (w.heap.size,Obj.deferred (some []))::(zea a.defers++X.K):=by
    simpa [zea] using hp
   rcases xaA.1 this with rfl|hp
   ·simp only at he;omega
   ·have:=h.marks.lt _ (zgT h.marks p hp);omega
 | some l0=>
  obtain ⟨r0,hr0⟩:=hlok l0 rfl;have hl0:=(zjg h.marks _ (xaY _ hr0)).1;have hb:Below w.heap.size w (w.alloc (.loop { state:=.ready,pending:=none,fn,tmps:=a.tmps,params:=ps,assign:=asg,body,defers:=r0.defers })):=(Below.refl _ w).alloc (xaj _) _;have h1:=h.grow hb C.B (λ_ h=>h) (λb hb=>.inl hb)
  refine ⟨w.heap.size,[],_,r0.defers,run_enterLoop_inner hl0 _ _ _ _ _,World.alloc_heap_new w _,{ h1 with marks:=h1.marks },hapart _ (xaj _),xaj _,λp hp he=>?_,hb⟩
  have:=h.marks.lt _ (zgT h.marks p hp);omega
attribute [local irreducible] zbe GB
def asgK (K:St->Prop):zN
 | .normal,s=>K s
 | _,_=>False
def roundI (env:List (Nat × LV)) (nx:St) (okn:Prop) (Q:zN):zN
 | .normal,s=>Cov s nx/\okn
 | .exit id,s=>Cov s ⟨ghosts env,s.obj,s.tr,s.stop⟩/\Q (.exit id) ⟨env,s.obj,s.tr,s.stop⟩
 | .ret,s=>Cov s ⟨ghosts env,s.obj,s.tr,s.stop⟩/\Q .ret ⟨env,s.obj,s.tr,s.stop⟩
def roundK (env:List (Nat × LV)) (nx:St) (Q:zN):zN:=roundI env nx True Q
theorem zlt {X:Fx} {ro:Option Nat} {ts0:List (List PV)} {s:St} {Q:zN} {fop:AOpd} {params:List Nat} {asg body:AC} {gf:Nat} {caps:List PV} {ts:List (List PV)} (hf:fop.ev s=.p (.fn (.func gf) [] caps)) (hit:zpr P gf caps ts)
  (hlen:∀ t ∈ ts,t.length=params.length) (hpar:∀ p ∈ params,p < X.N) (env:List (Nat × LV)) (obj:Nat→List (Nat × LObj)) (T:Nat→List (List PV)) (ok:Nat→Prop) (h0:Cov s ⟨env,obj 0,T 0,false⟩) (hok0:ok 0)
  (hround:∀ (k:Nat) (t:List PV),ts[k]?=some t→ok k→∀ (X':Fx) (ro':Option Nat),X'.N=X.N→Run ⟨P,X',ro',ts0⟩ asg ⟨parEnv params t (lowE env++ghosts env),obj k,T k,false⟩
   (asgK fun s1=>∀ (X':Fx),X'.N=X.N→Run ⟨P,X',ro',ts0⟩ body s1 (roundI env ⟨ghosts env,obj (k+1),T (k+1),false⟩ (ok (k+1)) Q)))
  (hend:ok ts.length→Q .normal ⟨env,obj ts.length,T ts.length,false⟩):Run ⟨P,X,ro,ts0⟩ (.rfunc fop params asg body) s Q:=by
 intro hG code hc C a w hr
 cases code<;>simp only [zC,xac] at hc
 case rangeFunc f0 ps asg0 body0=>
  split at hc
  case h_2=>cases hc
  rename_i f' x' y' hf0 h1 h2
  injection hc with hc;injection hc with e0 e1 e2 e3;subst e0;subst e1;subst e2;subst e3
  have hv:=(zag hr rfl hf0).1
  rw [hf] at hv
  obtain ⟨fs,cs,hfe,hfs,hcs⟩:=zhK (ze hv)
  have hfs0:fs=#[]:=by simpa using hfs.nil_inv
  subst hfs0
  have hr0:RelC X C (z8 env) (zj (obj 0)) (T 0) false a w:=zbp h0 hr
  refine wpIn_rangeFunc (F:=zaa ro) (n:=0) ?_
  intro fn hfn
  obtain ⟨l,mark,W1,db,henter,hl,R1,hap,hlw,hKl,hbel⟩:=zgg (P:=P) hr0 hG.lok fn ps asg0 body0
  obtain ⟨rec,hrec⟩:∃ rec:LoopState→Option Code→Loop,rec=fun st pe=>{ state:=st,pending:=pe,fn,tmps:=a.tmps,params:=ps,assign:=asg0,body:=body0,defers:=db }:=⟨_,rfl⟩
  obtain ⟨ds,hds⟩:∃ ds,ds=mark++a.defers:=⟨_,rfl⟩
  rw [←hds] at R1 hKl
  have hl1:W1.heap[l]?=some (.loop (rec .ready none)):=by rw [hrec];exact hl
  have hpend:∀ st pe,(rec st pe).pending=pe:=fun st pe=>by rw [hrec]
  have hbusy:∀ (jump:Option Code),({ ({ rec .ready none with state:=.busy }:Loop) with state:=if jump.isNone then .ready else .done,pending:=jump }:Loop)=rec (if jump.isNone then .ready else .done) jump:=fun jump=>by rw [hrec]
  let XK:Obj→Fx:=fun o=>kX X ds l o
  let a1:Act:={ tmps:=a.tmps,defers:=[] }
  have R1K:RelC (XK (.loop (rec .ready none))) C (z8 env) (zj (obj 0)) (T 0) false a1 W1:=R1.toK hl1 hap
  have hlX:X.w0.heap.size≤l:=xa8 hr0.kx.size hlw
  have hMK:∀ o,(XK o).MOk:=fun o=>⟨hG.mok.m1,hG.mok.m2⟩
  let J:List (List PV)→(Nat→Prop)→(Nat→Prop)→World→Prop:=fun pre D O W=>∃ k C',pre=ts.take k∧(k≤ts.length∧ok k)∧RelC (XK (.loop (rec .ready none))) C' (z8 env) (zj (obj k)) (T k) false a1 W∧D=zhg (XK (.loop (rec .ready none))) C' (zj (obj k))∧O=ziA l C' (zj (obj k))∧(∀ b,C.B b→C'.B b)
  let Jx:List (List PV)→(Nat→Prop)→World→Prop:=fun pre D W=>∃ (c:Code) (C':Ctx) (s':St),RelC (XK (.loop (rec .done (some c)))) C' (z8 env) s'.look s'.tr s'.stop a1 W∧D=zhg (XK (.loop (rec .done (some c)))) C' s'.look ∧
   ((c=.ret∧Q .ret ⟨env,s'.obj,s'.tr,s'.stop⟩)∨∃ id,c=.exit id∧Q (.exit id) ⟨env,s'.obj,s'.tr,s'.stop⟩)
  have hcl:zbG J Jx:=⟨fun t D O w w' ⟨k,C',g1,g2,g3,g4,g5,g6⟩ hk=>⟨k,C',g1,g2,g3.kept rfl (by rw [←g4];exact hk),g4,g5,g6⟩,
   fun t D w w' ⟨c,C',s',g1,g2,g3⟩ hk=>⟨c,C',s',g1.kept rfl (by rw [←g2];exact hk),g2,g3⟩⟩
  have hK1:∀ b,(∃ p ∈ (XK (.loop (rec .ready none))).K,p.1=b)→b < W1.heap.size∧¬C.B b:=fun b hb=>by
   have:=R1K.marks.at b (.inr hb)
   exact ⟨this.1,this.2.2.1⟩
  have hres:(resolve a.eval (rangeCall f0 l) 0).run P W1=.ok { target:=.fn (.func gf) cs,args:=#[.func (.yield l) #[] #[]] } W1:=by
   have he:a.eval (.const (.func (.yield l) #[] #[]))=.func (.yield l) #[] #[]:=rfl
   simp [resolve,rangeCall,hfe,Deferred.ofValue,he]
  obtain ⟨⟨gfn,gc,hg1,hg2,hg3⟩,hit⟩:=hit
  have hinv:(invoke (.fn (.func gf) cs) #[.func (.yield l) #[] #[]]).run P W1=.ok (.enter gf (.func (.yield l) #[] #[]::cs.toList).toArray) W1:=by
   have h2' : ¬ gfn.name = "runtime.NumGoroutine" := by simpa using hg2
   simp [invoke,callFunc,hg1,h2',hg3]
  refine ⟨l,mark,W1,_,W1,gf,_,W1,henter,hres,fun _ _=>trivial,hinv,fun h=>by simp [zaa,Fence.wide] at h,?_⟩
  have hBlt:∀ b,C.B b→b < W1.heap.size:=fun b hb=>R1.blt b hb
  have hcall:=hit W1 C.B l cs.toList J Jx (zhg (XK (.loop (rec .ready none))) C (zj (obj 0))) (ziA l C (zj (obj 0))) hBlt (hcs.mono (fun _ h=>h) fun b hb=>hbel.block b (hr0.blt b hb))
   (zoS R1K) (zkx R1K ⟨_,xar,rfl⟩) hcl ?_ ⟨0,C,by simp,⟨xa5 _,hok0⟩,R1K,rfl,rfl,fun _ h=>h⟩
  ·-- behind the iterator
   have h4:CallsIn Fence.wide (0 - 1) P gf (.func (.yield l) #[] #[]::cs.toList).toArray W1 _:=callsIn_wide.2 hcall
   have hKne:∀ p ∈ zea ds++X.K,p.1≠l:=hKl
   have h5:=CallsIn.mono h4 (R':=rangePost (zaa ro) 0 P l (QQ ⟨P,X,ro,ts0⟩ Q) { a with defers:=ds }) ?_
   ·rw [←hds];exact h5
   rintro e w' ⟨⟨v,rfl⟩,(⟨D',O',k,C',g1,g2,g3,_,_,_⟩|⟨pre,D',c,C',s',g1,_,g3⟩)⟩
   ·have hk:k=ts.length:=by
     have:=congrArg List.length g1
     rw [xai] at this
     have:=g2.1
     omega
    subst hk
    have hlw':=((g3.marks:KOk _ _ _ _) (l,_) xar).1
    have hend2:=run_endLoop (P:=P) hlw' (by rw [hrec];simp)
    rw [hpend] at hend2
    refine ⟨none,_,hend2,?_⟩
    exact ⟨⟨env,obj ts.length,T ts.length,false⟩,C',RelC.ofK (g3.setK hKne (.inl hlX)) R1.marks,hend g2.2⟩
   ·have hlw':=((g1.marks:KOk _ _ _ _) (l,_) xar).1
    have hend2:=run_endLoop (P:=P) hlw' (by rw [hrec];simp)
    rw [hpend] at hend2
    refine ⟨some c,_,hend2,?_⟩
    rcases g3 with ⟨rfl,hq⟩|⟨id,rfl,hq⟩
    ·exact wpIn_ret ⟨⟨env,s'.obj,s'.tr,s'.stop⟩,C',RelC.ofK (g1.setK hKne (.inl hlX)) R1.marks,hq⟩
    ·exact wpIn_exit ⟨⟨env,s'.obj,s'.tr,s'.stop⟩,C',RelC.ofK (g1.setK hKne (.inl hlX)) R1.marks,hq⟩
  rintro pre t post D O W Bi args hts ⟨k,C',rfl,⟨hk,hokk⟩,R,rfl,rfl,hCB⟩ hBi hargs
  have htk:ts[k]?=some t:=by
   have:(ts.take k).length=k:=by rw [xai];omega
   rw [hts,xax (by omega),this,xcF]
   rfl
  have htl:t.length=ps.toList.length:=hlen t (xad htk)
  have hlW:=((R.marks:KOk _ _ _ _) (l,_) xar).1
  have hy:=run_yield (P:=P) (args:=args.toArray) hlW (by rw [hrec];simp;rw [hargs.1,htl];simp)
  have hBo:∀ b,Bi b→X.Bo b∨X.no≤b:=fun b hb=>(hBi b hb).2.2.elim (R1.borg b) fun e=>.inr (by have:=R1.no0;have:=R1.kx.size;omega)
  have hBk:∀ p ∈ (XK (.loop (rec .ready none))).K,¬Bi p.1:=fun p hp hb=>by
   obtain ⟨k1,k2⟩:=hK1 p.1 ⟨p,hp,rfl⟩
   exact (hBi _ hb).2.2.elim k2 fun e=>by omega
  have E:=R.enter (X:=XK (.loop (rec .ready none))) (Bi:=Bi) rfl rfl (fun b hb=>⟨(hBi b hb).1,(hBi b hb).2.1,hBo b hb⟩) hBk
  have E2:=RelC.puts (ds:=[]) ps.toList args t _ _ E (hargs.mono (fun b hb=>.inr hb) fun _ _=>rfl) htl.symm (fun p hp=>hpar p hp)
  have hfold:((rec .ready none).params.zip args.toArray).foldl (fun tmps (t,a)=>tmps.setIfInBounds t a) (rec .ready none).tmps=(ps.toList.zip args).foldl (fun tm x=>tm.setIfInBounds x.1 x.2) a.tmps:=by
   rw [hrec,←Array.foldl_toList,Array.toList_zip]
  have hr1:(rec .ready none).fn=fn:=by rw [hrec]
  have hr2:(rec .ready none).assign=asg0:=by rw [hrec]
  have hr3:(rec .ready none).body=body0:=by rw [hrec]
  have hy2:(Instr.yield l args.toArray).run P W=.ok (.round l fn ((ps.toList.zip args).foldl (fun tm x=>tm.setIfInBounds x.1 x.2) a.tmps) asg0 body0) W:=by
   rw [←hfold,←hr1,←hr2,←hr3];exact hy
  refine ⟨fn,_,asg0,body0,hy2,roundIn_of_wpIn trivial ?_⟩
  have hyok:ts0=[]∨(zdG P X.y X.Bo X.no X.J X.Jx ts0∧zbG X.J X.Jx):=hG.yok
  have hGr:∀ r:Loop,Cfg.Ok ⟨P,{ rX (XK (.loop (rec .ready none))) a1 C' (zj (obj k)) Bi l W with K:=(l,.loop r)::(zea ds++X.K) },some l,ts0⟩:=fun r=>zj8 (X:=XK (.loop (rec .ready none))) hyok (hMK _) R
  have hA:=hround k t htk hokk { rX (XK (.loop (rec .ready none))) a1 C' (zj (obj k)) Bi l W with K:=(l,.loop (rec .ready none))::(zea ds++X.K) } (some l) rfl (hGr _) asg0 h1 _ { tmps:=(ps.toList.zip args).foldl (fun tm x=>tm.setIfInBounds x.1 x.2) a.tmps,defers:=[] } W E2
  have hfin:∀ (jump:Option Code) (C3:Ctx) (lk3:Nat→Option LObj) (tr3:List (List PV)) (st3:Bool) (a3:Act) (W3:World),RelC { rX (XK (.loop (rec .ready none))) a1 C' (zj (obj k)) Bi l W with K:=(l,.loop { rec .ready none with state:=.busy })::(zea ds++X.K) } C3 (z8 (ghosts env)) lk3 tr3 st3 a3 W3 →
    ∃ W4,(Instr.endRound l jump).run P W3=.ok (.bool jump.isNone) W4∧RelC (XK (.loop (rec (if jump.isNone then .ready else .done) jump))) C3 (z8 env) lk3 tr3 st3 a1 W4 ∧
     Rnd (zhg (XK (.loop (rec .ready none))) C' (zj (obj k))) (ziA l C' (zj (obj k))) Bi (zhg (XK (.loop (rec (if jump.isNone then .ready else .done) jump))) C3 lk3) (ziA l C3 lk3) W W4∧(∀ b,C'.B b→C3.B b):=fun jump C3 lk3 tr3 st3 a3 W3 h3=>by
   have hm3:=h3.marks.k
   have hl3:=(hm3 (l,_) xar).1
   have hend3:=run_endRound (P:=P) jump hl3
   have h4:=h3.setK (o':=.loop (rec (if jump.isNone then .ready else .done) jump)) hKl (.inr (.inr rfl))
   obtain ⟨k1,k2,k3⟩:=RelC.leave (X:=XK (.loop (rec .ready none))) (hMK _) rfl R rfl hlX (fun b hb hlt=>(hBi b hb).2.2.elim (fun e=>R1.bold b e hlt) fun e=>by have:=R1.kx.size;have:b < X.w0.heap.size:=hlt;omega) h4
   rw [hbusy] at hend3
   exact ⟨_,hend3,k1,k2,k3⟩
  refine wpIn_mono (F:=zaa (some l)) hA ?_
  rintro e aa Wa ⟨sa,Ca,hra,hqa⟩
  cases e with
  | normal=>
   have hla:=(hra.marks.k (l,_) xar).1
   refine ⟨_,run_beginRound hla (by rw [hrec]),?_⟩
   have hrb:=RelC.setK (X:=rX (XK (.loop (rec .ready none))) a1 C' (zj (obj k)) Bi l W) (o:=.loop (rec .ready none)) (r:=zea ds++X.K) hra (o':=.loop { rec .ready none with state:=.busy }) hKl (.inr (.inr rfl))
   have hBod:=hqa { rX (XK (.loop (rec .ready none))) a1 C' (zj (obj k)) Bi l W with K:=(l,.loop { rec .ready none with state:=.busy })::(zea ds++X.K) } rfl (hGr _) body0 h2 _ aa _ hrb
   refine wpIn_mono (F:=zaa (some l)) hBod ?_
   rintro e a3 W3 ⟨s3,C3,h3,hq3⟩
   cases e with
   | normal=>
    have h3':RelC _ C3 (z8 (ghosts env)) (zj (obj (k+1))) (T (k+1)) false a3 W3:=zbp hq3.1 h3
    obtain ⟨W4,g1,g2,g3,g4⟩:=hfin none C3 _ _ _ a3 W3 h3'
    refine ⟨_,W4,g1,true,rfl,?_⟩
    rw [if_pos rfl]
    have hk1:k+1≤ts.length:=(xaa.1 htk).1
    exact ⟨_,_,⟨k+1,C3,by rw [xaK,htk];rfl,⟨hk1,hq3.2⟩,g2,rfl,rfl,fun b hb=>g4 b (hCB b hb)⟩,g3⟩
   | exit id=>
    have h3':RelC _ C3 (z8 (ghosts env)) s3.look s3.tr s3.stop a3 W3:=zbp hq3.1 h3
    obtain ⟨W4,g1,g2,g3,g4⟩:=hfin (some (.exit id)) C3 _ _ _ a3 W3 h3'
    refine ⟨_,W4,g1,false,rfl,?_⟩
    rw [if_neg (by simp)]
    exact ⟨_,⟨.exit id,C3,s3,g2,rfl,.inr ⟨id,rfl,hq3.2⟩⟩,⟨g3.kx,g3.d1,g3.d2,fun _ h=>h.elim,fun _ h=>h.elim⟩⟩
   | ret=>
    have h3':RelC _ C3 (z8 (ghosts env)) s3.look s3.tr s3.stop a3 W3:=zbp hq3.1 h3
    obtain ⟨W4,g1,g2,g3,g4⟩:=hfin (some .ret) C3 _ _ _ a3 W3 h3'
    refine ⟨_,W4,g1,false,rfl,?_⟩
    rw [if_neg (by simp)]
    exact ⟨_,⟨.ret,C3,s3,g2,rfl,.inl ⟨rfl,hq3.2⟩⟩,⟨g3.kx,g3.d1,g3.d2,fun _ h=>h.elim,fun _ h=>h.elim⟩⟩
   | goto l=>exact hq3.elim
   | panic c=>exact hq3.elim
   | outgrown=>exact hq3.elim
  | exit id=>exact hqa.elim
  | ret=>exact hqa.elim
  | goto l=>exact hqa.elim
  | panic c=>exact hqa.elim
  | outgrown=>exact hqa.elim
 all_goals first|(cases hc;done)|(obtain ⟨_,_,hc⟩:=hc;cases hc;done)|(split at hc<;>cases hc;done)
theorem zcm {X:Fx} {ro:Option Nat} {ts0:List (List PV)} {s:St} {Q:zN} {fop:AOpd} {params:List Nat} {asg body:AC} {gf:Nat} {caps:List PV} {ts:List (List PV)} (hf:fop.ev s=.p (.fn (.func gf) [] caps)) (hit:zpr P gf caps ts)
  (hlen:∀ t ∈ ts,t.length=params.length) (hpar:∀ p ∈ params,p < X.N) (env:List (Nat × LV)) (obj:Nat->List (Nat × LObj)) (T:Nat->List (List PV)) (h0:Cov s ⟨env,obj 0,T 0,false⟩)
  (hround:∀ (k:Nat) (t:List PV),ts[k]?=some t->∀ (X':Fx) (ro':Option Nat),X'.N=X.N->Run ⟨P,X',ro',ts0⟩ asg ⟨parEnv params t (lowE env++ghosts env),obj k,T k,false⟩
   (asgK λs1=>∀ (X':Fx),X'.N=X.N->Run ⟨P,X',ro',ts0⟩ body s1 (roundK env ⟨ghosts env,obj (k+1),T (k+1),false⟩ Q)))
  (hend:Q .normal ⟨env,obj ts.length,T ts.length,false⟩):Run ⟨P,X,ro,ts0⟩ (.rfunc fop params asg body) s Q:=
 zlt hf hit hlen hpar env obj T (λ_=>True) h0 trivial (λk t ht _=>hround k t ht) λ_=>hend
end
end Go.Proofs.YtijgimeokgbifaaGreat
namespace Go.Proofs.YtijgimeokgbifaaGreat
open Go.RowKit
theorem aI {a b:Prop} (x:a) (y:b):a/\b:=⟨x,y⟩
theorem zqt (look:Nat->Option LObj) (k o:Nat):LV.known look (LV.lp k o)=True:=rfl
theorem zqv (look:Nat->Option LObj) (k:Nat):LV.known look (LV.it k)=True:=rfl
theorem zqu (look:Nat->Option LObj) (k:Nat):LV.known look (LV.lm k)=True:=rfl
theorem zqw (look:Nat->Option LObj) (f:Fn) (a b:List LV):LV.known look (LV.fn f a b)=True:=rfl
theorem znI (look:Nat->Option LObj) (cs:List LV):LV.known look (LV.agg cs)=True:=rfl
theorem ziZ (look:Nat->Option LObj) :LV.known look (LV.yield)=True:=rfl
theorem zqz (ys:List PV):eqCells [] ys=true:=rfl
theorem zt1 {α:Type} (cs:List α) (off:Nat):updL cs off []=cs.take off++[]++cs.drop (off+([]:List α).length):=rfl
theorem zt2 {α:Type} (cs:List α) (off:Nat) (a b:α) (r:List α):updL cs off (a::b::r)=cs.take off++(a::b::r)++cs.drop (off+(a::b::r).length):=rfl
theorem zqx (cs vs:List PV):fillP cs [] vs=cs:=by cases vs<;>simp [fillP]
theorem zqy (xs vs:List PV):fillE xs [] vs=xs:=by cases vs<;>simp [fillE]
theorem zwV (s:ByteArray) (p:Nat):(LObj.sit s p).freeze=.sit s p:=rfl
theorem zt5 (G:Cfg) (y:AC) (Q:zN) (s:St):seqK G y Q .ret s=Q .ret s:=rfl
theorem zt6 (G:Cfg) (y:AC) (Q:zN) (i:Nat) (s:St):seqK G y Q (.exit i) s=Q (.exit i) s:=rfl
theorem zqr {κ:Type} (inv:κ->St) (ok:κ->Prop) (μ:κ->Nat) (k:κ) (Q:zN) (s:St):loopK inv ok μ k Q .ret s=Q .ret s:=rfl
theorem zqs {κ:Type} (inv:κ->St) (ok:κ->Prop) (μ:κ->Nat) (k:κ) (Q:zN) (i:Nat) (s:St):loopK inv ok μ k Q (.exit i) s=Q (.exit i) s:=rfl
theorem zt3:tupOf []=.tup []:=rfl
theorem zt4 (a b:PV) (r:List PV):tupOf (a::b::r)=.tup (a::b::r):=rfl
theorem zt9:boxPV []=.agg []:=rfl
theorem zua (a b:PV) (r:List PV):boxPV (a::b::r)=.agg (a::b::r):=rfl
theorem zwO (look:Nat->Option LObj) (k:Nat) (e:TypeId) (sz:Nat) (xs:List PV) (f:Bool) (r:List (Nat × LObj)):scObj look ((k,.row e sz xs f)::r)=scObj look r:=rfl
theorem zwN (look:Nat->Option LObj) (k:Nat) (s:ByteArray) (p:Nat) (r:List (Nat × LObj)):scObj look ((k,.sit s p)::r)=scObj look r:=rfl
theorem zwM (look:Nat->Option LObj) (k:Nat) (es:List (PV × PV)) (f:Bool) (r:List (Nat × LObj)):scObj look ((k,.mp es f)::r)=scObj look r:=rfl
theorem zwQ (f:Fn) (a b:List LV) (y:Option (List PV)):mfK f a b none y=some (True,Eff.ofV (LV.fn f a b)):=rfl
theorem zwP (f:Fn) (a b:List LV) (x:List PV):mfK f a b (some x) none=some (True,Eff.ofV (LV.fn f a b)):=rfl
theorem zwU (look:Nat->Option LObj):lpK look none=[]:=rfl
theorem zwT (look:Nat->Option LObj) (e:TypeId) (sz:Nat) (xs:List PV) (f:Bool):lpK look (some (.row e sz xs f))=[]:=rfl
theorem zwS (look:Nat->Option LObj) (s:ByteArray) (p:Nat):lpK look (some (.sit s p))=[]:=rfl
theorem zwR (look:Nat->Option LObj) (es:List (PV × PV)) (f:Bool):lpK look (some (.mp es f))=[]:=rfl
theorem zt8 (vs:List PV) (e:List (Nat × LV)):parEnv [] vs e=e:=rfl
theorem zt7 (p:Nat) (ps:List Nat) (e:List (Nat × LV)):parEnv (p::ps) [] e=e:=rfl
theorem zwW (K:St->Prop) (s:St):asgK K .ret s=False:=rfl
theorem zwX (K:St->Prop) (i:Nat) (s:St):asgK K (.exit i) s=False:=rfl
theorem ziY  (a0:List PV) (l:List Nat):rdM (.alloc a0) l=l:=rfl
theorem znF  (l:List Nat):rdM (.box) l=l:=rfl
theorem ziX  (a0:List PV) (a1:List (Nat × Nat)) (l:List Nat):rdM (.build a0 a1) l=l:=rfl
theorem zhP  (a0:Nat) (a1:Nat) (a2:PV) (a3:Nat) (a4:List Nat) (l:List Nat):rdM (.bslice a0 a1 a2 a3 a4) l=l:=rfl
theorem zlF  (a0:Nat) (a1:Bool) (l:List Nat):rdM (.load a0 a1) l=l:=rfl
theorem ziR  (a0:Nat) (l:List Nat):rdM (.store a0) l=l:=rfl
theorem zhO  (l:List Nat):rdM (.nilchk) l=l:=rfl
theorem znG  (a0:BinOp) (l:List Nat):rdM (.bin a0) l=l:=rfl
theorem zqq  (a0:Bool) (a1:List Nat) (a2:Bool) (l:List Nat):rdM (.eq a0 a1 a2) l=l:=rfl
theorem zny  (l:List Nat):rdM (.not) l=l:=rfl
theorem znz  (l:List Nat):rdM (.neg) l=l:=rfl
theorem znD  (a0:IntKind) (l:List Nat):rdM (.cvt a0) l=l:=rfl
theorem znE  (l:List Nat):rdM (.cvs) l=l:=rfl
theorem zlE  (a0:Fn) (a1:Nat) (l:List Nat):rdM (.mkfn a0 a1) l=l:=rfl
theorem zhM  (a0:Bool) (a1:Bool) (l:List Nat):rdM (.sliceS a0 a1) l=l:=rfl
theorem zhN  (a0:Nat) (a1:Bool) (a2:Bool) (l:List Nat):rdM (.sliceL a0 a1 a2) l=l:=rfl
theorem zlJ  (a0:Nat) (l:List Nat):rdM (.fadr a0) l=l:=rfl
theorem znB  (a0:Nat) (a1:Nat) (a2:Bool) (l:List Nat):rdM (.fld a0 a1 a2) l=l:=rfl
theorem zlI  (a0:Nat) (a1:Nat) (a2:Bool) (l:List Nat):rdM (.idxA a0 a1 a2) l=l:=rfl
theorem zlH  (l:List Nat):rdM (.idxS) l=l:=rfl
theorem ziU  (a0:Nat) (l:List Nat):rdM (.iadrS a0) l=l:=rfl
theorem ziV  (a0:Nat) (a1:Nat) (l:List Nat):rdM (.iadrA a0 a1) l=l:=rfl
theorem znA  (a0:Bool) (l:List Nat):rdM (.len a0) l=l:=rfl
theorem znH  (a0:Nat) (a1:Nat) (a2:Nat) (l:List Nat):rdM (.app a0 a1 a2) l=l:=rfl
theorem zqo  (l:List Nat):rdM (.mx) l=l:=rfl
theorem zqp  (l:List Nat):rdM (.mn) l=l:=rfl
theorem znC  (a0:Nat) (l:List Nat):rdM (.ext a0) l=l:=rfl
theorem ziS  (l:List Nat):rdM (.range) l=l:=rfl
theorem zlC  (l:List Nat):rdM (.next) l=l:=rfl
theorem zgC  (a0:Nat) (a1:Nat) (a2:Nat) (a3:PV) (l:List Nat):rdM (.mkslice a0 a1 a2 a3) l=l:=rfl
theorem zlK  (a0:Nat) (l:List Nat):rdM (.copy a0) l=l:=rfl
theorem ziT  (l:List Nat):rdM (.mkmap) l=l:=rfl
theorem zlG  (a0:List Nat) (a1:Bool) (a2:PV) (a3:Bool) (l:List Nat):rdM (.lkup a0 a1 a2 a3) l=l:=rfl
theorem zlD  (a0:List Nat) (a1:Bool) (l:List Nat):rdM (.mset a0 a1) l=l:=rfl
theorem zlL  (a0:Nat) (l:List Nat):rdM (.call a0) l=l:=rfl
theorem ziW  (l:List Nat):rdM (.callv) l=l:=rfl
def q0:=aI (aI (aI (aI (aI @LV.known.eq_1 @LV.known.eq_2) (aI @LV.known.eq_3 (aI @LV.known.eq_4 @LV.known.eq_5))) (aI (aI @loadOk.eq_1 @loadV.eq_1) (aI @eqOk.eq_1 (aI @eqOk.eq_2 @eqOk.eq_3)))) (aI (aI (aI @eqPV.eq_1 @eqPV.eq_2) (aI @eqPV.eq_3 (aI @eqCells.eq_1 @eqCellsOk.eq_1))) (aI (aI @eqCellsOk.eq_2 @packL.eq_1) (aI @oneL.eq_1 (aI @oneL.eq_2 @oneL.eq_3))))) (aI (aI (aI (aI @oneL.eq_4 @oneL.eq_5) (aI @oneL.eq_6 (aI @oneL.eq_7 @oneL.eq_8))) (aI (aI @updL.eq_1 @fillP.eq_1) (aI @fillOk.eq_1 (aI @fillOk.eq_2 @fillE.eq_1)))) (aI (aI (aI @fillEOk.eq_1 @fillEOk.eq_2) (aI @oneAll.eq_1 (aI @List.all_map.{0,0} @LObj.freeze.eq_1))) (aI (aI @LObj.freeze.eq_2 @LObj.freeze.eq_3) (aI @frzs.eq_1 (aI @frzs.eq_2 @argSt.eq_1)))))
def q1:=aI (aI (aI (aI (aI @List.map.eq_1.{0,0} @List.map.eq_2.{0,0}) (aI @List.zipIdx.eq_1.{0} (aI @List.zipIdx.eq_2.{0} @List.length.eq_1.{0}))) (aI (aI @List.length.eq_2.{0} @List.take.eq_1.{0}) (aI @List.take.eq_2.{0} (aI @List.take.eq_3.{0} @List.drop.eq_1.{0})))) (aI (aI (aI @List.drop.eq_2.{0} @List.drop.eq_3.{0}) (aI @seqK.eq_1 (aI @blockK.eq_1 @blockK.eq_2))) (aI (aI @blockK.eq_3 (aI @loopK.eq_1 @retQ.eq_1)) (aI @retQ.eq_2 (aI @retQ.eq_3 @RetOk.eq_1))))) (aI (aI (aI (aI @resL.eq_1 @resL.eq_2) (aI @resL.eq_3 (aI @toPVs.eq_1 @toPV.eq_1))) (aI (aI @toPV.eq_2 @toPV.eq_3) (aI @toPV.eq_4 (aI @toPV.eq_5 @toPV.eq_6)))) (aI (aI (aI (aI @toPV.eq_7 @toPV.eq_8) @toPV.go.eq_1) (aI @toPV.go.eq_2 (aI @tupOf.eq_1 @boxPV.eq_1))) (aI (aI @if_true.{0} (aI @if_true.{1} @if_false.{0})) (aI @if_false.{1} (aI @true_and @and_true)))))
def q2:=aI (aI (aI (aI (aI @and_self @forall_const.{0}) (aI @forall_const.{1} (aI @xaX @xbo))) (aI (aI @Bool.and_true @xbs) (aI @Bool.and_false (aI @xam @xal)))) (aI (aI (aI @List.getElem?_cons_zero.{0} @List.getElem?_cons_succ.{0}) (aI @List.nil_append.{0} (aI @List.cons_append.{0} @implies_true.{0}))) (aI (aI @implies_true.{1} (aI @false_implies @imp_self)) (aI @Bool.and_self (aI @Cov.eq_1 @covEnv.eq_1))))) (aI (aI (aI (aI @covEnv.eq_2 @covObj.eq_1) (aI @covObj.eq_2 (aI @scEnv.eq_1 @scEnv.eq_2))) (aI (aI @scObj.eq_1 (aI @scObj.eq_2 @scP.eq_1)) (aI @scP.eq_2 (aI @scP.eq_3 @scP.eq_4)))) (aI (aI (aI @scP.eq_5 @scP.eq_6) (aI @scP.eq_7 (aI @scP.eq_8 @scP.eq_9))) (aI (aI @scP.eq_10 (aI (aI @scP.eq_11 @scP.eq_12) @scPs.eq_1)) (aI @scPs.eq_2 (aI @ite_self.{0} @ite_self.{1})))))
def q3:=aI (aI (aI (aI (aI @zlz @Option.map_some.{0,0}) (aI @Option.map_none.{0,0} (aI @Option.toList_some.{0} @Option.toList_none.{0}))) (aI (aI @Option.getD_some.{0} @Option.getD_none.{0}) (aI @Option.isSome_some.{0} (aI @Option.isSome_none.{0} @List.getElem?_map.{0,0})))) (aI (aI (aI @List.length_map.{0,0} @xbS) (aI @List.getElem?_nil.{0} (aI @Int.toNat_zero @decide_true))) (aI (aI @decide_false @xa5) (aI @LObj.box.injEq (aI @zhp @zpb))))) (aI (aI (aI (aI @zvP @zvO) (aI @zvN (aI @zo9 @zjP))) (aI (aI @zsi @zmu) (aI @zsm (aI @zsn @zmv)))) (aI (aI (aI @zsk @zrB) (aI @zlV (aI @zoi @zlU))) (aI (aI @zok @zol) (aI @zh1 (aI @zos @zuX)))))
def q4:=aI (aI (aI (aI (aI @zuW @zuV) (aI @zjt (aI @zrG @zl0))) (aI (aI @zrI @zrJ) (aI @zl1 (aI @zrH @zor)))) (aI (aI (aI @zuU @zuT) (aI @zuS (aI @zjs @zrC))) (aI (aI @zlY @zrE) (aI @zrF (aI @zlZ @zrD))))) (aI (aI (aI (aI @one_b @one_i) (aI @one_s (aI @zn0 @zxe))) (aI (aI @zro @zxf) (aI @zxg (aI @zrp @un_p)))) (aI (aI (aI @un_g @un_lp) (aI @zwi (aI @un_ep @un_it))) (aI (aI @un_fn (aI @zwj @zwh)) (aI @zpO (aI @cnd_p @cnd_g)))))
def q5:=aI (aI (aI (aI (aI @zyg @zvH) (aI @zyk (aI @zyi @zyj))) (aI (aI (aI @zvI @zvG) @zo5) (aI @zwB (aI @rs_mv @zwC)))) (aI (aI (aI @ztO @zqh) (aI @gOf_v (aI @zrQ @zrR))) (aI (aI @evK_p @evG_p) (aI @evK_v (aI @evG_v @zrt))))) (aI (aI (aI (aI @pkV_b @pkW_b) (aI @gdV_p (aI @gdV_g @zwn))) (aI (aI @zwm @zxx) (aI @zuJ (aI @ztk @zpC)))) (aI (aI (aI @zpB @zpD) (aI @ev_t (aI @ev_c @zyH))) (aI (aI @zxi @zxh) (aI @zxd (aI @zxc @ztZ)))))
def q6:=aI (aI (aI (aI (aI @zqn @ztm) (aI @zpF (aI @zsg @zo4))) (aI (aI @ztn @zto) (aI @zr0 (aI @zxY @zrZ)))) (aI (aI (aI @zoM @zmf) (aI @zme (aI @zmg @zjD))) (aI (aI @zjE @zoH) (aI @zoG (aI @zmc (aI @zoJ @zoI)))))) (aI (aI (aI (aI @zxI @zxJ) (aI @zx0 (aI @zxH @zxP))) (aI (aI @zxL @zxK) (aI @zxZ (aI @eo_or @zxV)))) (aI (aI (aI @zxN @zxQ) (aI @zxR (aI @zxS @zxT))) (aI (aI @zve @zvd) (aI @zu8 (aI @zu9 @zvb)))))
def q7:=aI (aI (aI (aI (aI @zva @zvc) (aI @eo_eq (aI @eo_ne @zxM))) (aI (aI @zxO @zxW) (aI @zxX (aI @zvn @zvh)))) (aI (aI (aI @zvg @zvf) (aI @zvk (aI @zvj @zvi))) (aI (aI @zmi @zmh) (aI @zmj (aI @zrX @zrY))))) (aI (aI (aI (aI @zoK @zoL) (aI @zvu (aI @zjF @zia))) (aI (aI @zjH @zjG) (aI @zvp (aI @zvq (aI @zvr (aI @zvt @zvv)))))) (aI (aI (aI @zvs @zvy) (aI @zvx (aI @eo_mx @eo_mn))) (aI (aI @zxU @zrV) (aI @zx2 (aI @el_sl @zx1)))))
def q8:=aI (aI (aI (aI (aI @zsq @zph) (aI @ldLp.eq_1 (aI @ldEp.eq_1 @stLp.eq_1))) (aI (aI @stEp.eq_1 @faEp.eq_1) (aI @iaRow.eq_1 (aI @lenK.eq_1 @lenK.eq_2)))) (aI (aI (aI @apN.eq_1 @apN.eq_2) (aI @apR.eq_1 (aI @elRow.eq_1 @bdK.eq_1))) (aI (aI @bdK.eq_2 @bsK.eq_1) (aI @bsK.eq_2 (aI @mfK.eq_1 @apC.eq_1))))) (aI (aI (aI (aI @apC.eq_2 @zqc) (aI @zm3 (aI @zwy @ztA))) (aI (aI @zqb @zm2) (aI @zm7 (aI @zlq @ztG)))) (aI (aI (aI @zp0 @zp6) (aI @zmX (aI @zm6 @zlp))) (aI (aI @zwz @ztB) (aI @rv_eq (aI @zwq @zwr)))))
def q9:=aI (aI (aI (aI (aI @ztt @zws) (aI @ztu (aI @zww @zty))) (aI (aI @zwx @ztz) (aI @ztF (aI @zpZ @zm4)))) (aI (aI (aI @zln @zm5) (aI @zlo (aI @ztK @zp4))) (aI (aI @zwu @ztw) (aI @ztJ (aI @zp3 @ztI))))) (aI (aI (aI (aI @zp2 @zp9) (aI @zm0 (aI @zqa @zm1))) (aI (aI @zwt @ztv) (aI @zwA (aI @ztC @rv_mx)))) (aI (aI (aI @zwo @rv_mn) (aI @zwp (aI @zwv @ztx))) (aI (aI @zp7 @zmY) (aI @agC_t (aI @agC_f @ogC_t)))))
def q10:=aI (aI (aI (aI (aI @ogC_f @osC_t) (aI @osC_f (aI @zyG @rdT.eq_1))) (aI (aI @gTmp.eq_1 @gTmp.eq_2) (aI @AOpd.tmps.eq_1 (aI @AOpd.tmps.eq_2 @List.flatMap_cons.{0,0})))) (aI (aI (aI @List.flatMap_nil.{0,0} @zyJ) (aI @zyI (aI @zxA @rdM.eq_1))) (aI (aI @rdM.eq_2 @ztX) (aI @rdK_p (aI @rdK_g @ztW))))) (aI (aI (aI (aI @zwK @zwI) (aI @zwG (aI @zwJ (aI @ztY @ztV)))) (aI (aI @znx @lpK.eq_1) (aI @nxK.eq_1 (aI @cpR.eq_1 @lkK.eq_1)))) (aI (aI (aI @lkK.eq_2 @moK.eq_1) (aI @msK.eq_1 (aI @mget.eq_1 @mget.eq_2))) (aI (aI @mput.eq_1 @mput.eq_2) (aI @keyOk.eq_1 (aI @keysOk.eq_1 @keysOk.eq_2)))))
def q11:=aI (aI (aI (aI (aI @zvl @zmd) (aI @zvw (aI @zrW @zvo))) (aI (aI @mo_p @mo_lm) (aI @zvm (aI @zwH @ztD)))) (aI (aI (aI @zpX @zlr) (aI @ziI (aI @ztL @zp5))) (aI (aI @zp8 @zmZ) (aI @ztH (aI @zp1 @ztE))))) (aI (aI (aI (aI @zpY @zoj) (aI @un_lm (aI @zyh @ySt.eq_1))) (aI (aI @accY.eq_1 @accY.eq_2) (aI @parEnv.eq_1 (aI @lowE.eq_1 @ghosts.eq_1)))) (aI (aI (aI @GB.eq_1 @List.filter_cons.{0}) (aI @List.filter_nil.{0} (aI @roundK.eq_1 @asgK.eq_1))) (aI (aI @fin_n @fin_s) (aI @pk_or (aI @zw5 @Bool.decide_eq_true)))))
def q12:=aI (aI (aI (aI (aI (aI @ztP @zqi) @zqj) (aI @zpJ (aI @zmK @zpN))) (aI (aI @zpL @zpK) (aI @zpM (aI @zmM @ziD)))) (aI (aI (aI @zmL @dk_p) (aI @zx7 (aI @zr3 @zvz))) (aI (aI @zx5 @zx6) (aI @List.append_nil.{0} (aI @Eff.ofV.eq_1 @Eff.ofP.eq_1))))) (aI (aI (aI (aI @true_or @or_true) (aI @false_or (aI @or_false @List.all_cons.{0}))) (aI (aI @List.all_nil.{0} @List.length_append.{0}) (aI @xaj (aI @Bool.not_not @zrS)))) (aI (aI (aI @zjL @zjK) (aI @zjJ (aI @zjI @List.set_cons_zero.{0}))) (aI (aI @List.set_cons_succ.{0} @roundI.eq_1) (aI @roundI.eq_2 (aI @roundI.eq_3 @zqt)))))
def q13:=aI (aI (aI (aI (aI @zqv @zqu) (aI @zqw (aI @znI @ziZ))) (aI (aI @zqz @zt1) (aI @zt2 (aI @zqx @zqy)))) (aI (aI (aI @zwV @zt5) (aI @zt6 (aI @zqr @zqs))) (aI (aI @zt3 @zt4) (aI @zt9 (aI @zua @zwO))))) (aI (aI (aI (aI @zwN @zwM) (aI @zwQ (aI @zwP @zwU))) (aI (aI @zwT @zwS) (aI @zwR (aI @zt8 @zt7)))) (aI (aI (aI @zwW @zwX) (aI @ziY (aI @znF @ziX))) (aI (aI @zhP @zlF) (aI @ziR (aI @zhO @znG)))))
def q14:=aI (aI (aI (aI @zqq (aI @zny @znz)) (aI (aI @znD @znE) (aI @zlE @zhM))) (aI (aI @zhN (aI @zlJ @znB)) (aI (aI @zlI @zlH) (aI @ziU @ziV)))) (aI (aI (aI @znA (aI @znH @zqo)) (aI (aI @zqp @znC) (aI @ziS @zlC))) (aI (aI @zgC (aI @zlK @ziT)) (aI (aI @zlG @zlD) (aI @zlL @ziW))))
def q15:=aI (aI @zxC @zu3) (aI @fillLOk.eq_1 @fillLOk.eq_2)
def qG:=aI (aI (aI @q0 (aI @q1 @q2)) (aI (aI @q3 @q4) (aI @q5 @q6))) (aI (aI (aI @q7 @q8) (aI @q9 @q10)) (aI (aI @q11 @q12) (aI @q13 (aI @q14 @q15))))
def qS:=aI (aI @qG @Bool.not_eq_eq_eq_not) (aI @decide_eq_true_eq @Option.some.injEq.{0})
def qR:=aI (aI (aI @List.replicate_succ.{0} @List.replicate_zero.{0}) (aI @List.set_cons_zero.{0} @List.set_cons_succ.{0})) (aI (aI @List.length_set.{0} @List.length_replicate.{0}) (aI @List.length_cons.{0} @List.length_nil.{0}))
def qH:=aI (aI (aI @decide_eq_true_eq (aI @decide_eq_false_iff_not @xa3)) (aI (aI @xap @xbd) (aI @Bool.and_eq_false_imp @xa6))) (aI (aI (aI @xb7 @Bool.not_eq_eq_eq_not) (aI @xam @xal)) (aI (aI @Int.not_lt @Int.not_le) (aI @Decidable.not_not @not_or)))
def qB:=aI (aI @xal (aI @xam @Bool.and_self)) (aI (aI @xbo @Bool.and_true) (aI @decide_true @decide_false))
theorem qe:True:=trivial
theorem rE {p:Prop} (h:p:=by simp (disch:=omega) only [qS,qe,Nat.reduceAdd,Nat.reduceMul,Nat.reduceEqDiff,Nat.reduceLeDiff,reduceIte,reduceCtorEq,Nat.reduceBEq,Nat.reduceLT]<;>rfl):p:=h
theorem rD {p:Prop} (h:p:=by simp (disch:=omega) only [qS,qe,Nat.reduceAdd,Nat.reduceMul,Nat.reduceEqDiff,Nat.reduceLeDiff,reduceIte,reduceCtorEq,Nat.reduceBEq,Nat.reduceLT]<;>fail):p:=h
theorem rA {p:Prop} (h:p:=by simp (disch:=omega) only [qS,qe,Nat.reduceAdd,Nat.reduceMul,Nat.reduceEqDiff,Nat.reduceLeDiff,reduceIte,reduceCtorEq,Nat.reduceBEq,Nat.reduceLT];(repeat' apply And.intro)<;>omega):p:=h
theorem rC {p:Prop} (h:p:=by simp (disch:=omega) only [qS,qe,Nat.reduceAdd,Nat.reduceMul,Nat.reduceEqDiff,Nat.reduceLeDiff,reduceIte,reduceCtorEq,Nat.reduceBEq,Nat.reduceLT] at hc ⊢;(repeat' apply And.intro)<;>first|assumption|omega|(simp_all<;>fail)):p:=h
theorem rF {p:Prop} (h:p:=by simp (disch:=omega) only [qS,qe,Nat.reduceAdd,Nat.reduceMul,Nat.reduceEqDiff,Nat.reduceLeDiff,reduceIte,reduceCtorEq,Nat.reduceBEq,Nat.reduceLT]<;>omega):p:=h
theorem rG {p:Prop} (h:p:=by simp (disch:=omega) only [qS,qe,Nat.reduceAdd,Nat.reduceMul,Nat.reduceEqDiff,Nat.reduceLeDiff,reduceIte,reduceCtorEq,Nat.reduceBEq,Nat.reduceLT]<;>(repeat' apply And.intro)<;>first|rfl|trivial|omega):p:=h
theorem aT:True:=trivial
theorem gJ {p q:Prop} (hq:q) (h:p=q:=by first|exact rE|fail):p:=h.mpr hq
theorem gZ {dr:Bool} {F:List RO->St->List Ft->Prop} {r:List RO} {s:St} {acc:List Ft} {q:Prop} (hq:q) (h:zD dr F r s acc=q:=by first|exact rE|fail):zD dr F r s acc:=h.mpr hq
theorem gY {dr:Bool} {F:List RO->St->List Ft->Prop} {r:List RO} {s:St} {acc:List Ft} {q side:Prop} (hq:q) (h:zD dr F r s acc=(side/\q):=by simp (disch:=omega) only [qS,qe,Nat.reduceAdd,Nat.reduceMul,Nat.reduceEqDiff,Nat.reduceLeDiff,reduceIte,reduceCtorEq,Nat.reduceBEq,Nat.reduceLT,<-and_assoc]<;>rfl)
  (hs:side:=by (repeat' apply And.intro)<;>first|omega|trivial|(intro h;(repeat' apply And.intro)<;>first|exact h|omega|(intro h';simp only [h,h',qB];done))):zD dr F r s acc:=h.mpr ⟨hs,hq⟩
abbrev AK (f:(St->List Ft->Prop)->Prop):Prop:=∀ K,f K
section
variable {P:Program} {G:Cfg} {Q:zN} {ts:List (List PV)} {dr:Bool} {K:St->List Ft->Prop} {acc:List Ft} {d:Option Nat} {f:Nat} {args:List AOpd} {gd:Option (Nat × Bool)} {af:List Nat} {r:List RO} {s:St} {vs fs cs:List PV} {res:PV} {c:Bool} {pre:Prop} {ks:List Nat}
theorem za (hf:Pure P f vs res) (hn:zD dr (zh P ts dr K) r (s.set d (fin gd true (.p res))) (zS dr acc s ⟨d,.call f,args,gd,af⟩ []))
  (hc:gOf s gd=some true:=by exact rfl)
  (ht:toPVs s.look (uns (zd s args))=some (pre,vs,ks):=by first|exact rE|fail)
  (hp:true=true->zJ (zd s args)=true/\pre:=by intro hc;first|exact rD|exact rA|exact rC|fail)
  (hfl:res.flat=true\/ks=[]:=by first|exact .inl rfl|exact .inr rfl):zh P ts dr K (⟨d,.call f,args,gd,af⟩::r) s acc:=znj hf hc ht hp hfl (zF hn)
theorem zp (hf:c=true->Pure P f vs res) (hn:zD dr (zh P ts dr K) r (s.set d (fin gd c (.p res))) (zS dr acc s ⟨d,.call f,args,gd,af⟩ []))
  (hc:gOf s gd=some c:=by first|rfl|(simp (disch:=omega) only [qG,qe,Nat.reduceAdd,Nat.reduceMul,Nat.reduceEqDiff,Nat.reduceLeDiff,reduceIte,reduceCtorEq,Nat.reduceBEq,Nat.reduceLT]<;>rfl))
  (ht:toPVs s.look (uns (zd s args))=some (pre,vs,ks):=by first|exact rE|fail)
  (hp:c=true->zJ (zd s args)=true/\pre:=by intro hc;first|exact absurd hc xbi|exact rD|exact rA|exact rC|fail)
  (hfl:res.flat=true\/ks=[]:=by first|exact .inl rfl|exact .inr rfl):zh P ts dr K (⟨d,.call f,args,gd,af⟩::r) s acc:=znh hf hc ht hp hfl (zF hn)
theorem zA (hf:Pure P f vs res) (hn:zD dr (zh P ts dr K) r ((s.wrs (frzs s.look ks)).set d (.p res)) (zS dr acc s ⟨d,.call f,args,none,af⟩ (frzs s.look ks)))
  (ht:toPVs s.look (uns (zd s args))=some (pre,vs,ks):=by first|exact rE|fail)
  (hp:zJ (zd s args)=true/\pre:=by first|trivial|exact rD|exact rA|fail):zh P ts dr K (⟨d,.call f,args,none,af⟩::r) s acc:=zni hf ht hp (zF hn)
theorem zk (hf:Pure P f (fs++vs++cs) res) (hn:zD dr (zh P ts dr K) r (s.set d (fin gd true (.p res))) (zS dr acc s ⟨d,.callv,args,gd,af⟩ []))
  (hc:gOf s gd=some true:=by exact rfl)
  (ht:toPVs s.look (uns (zd s args))=some (pre,.fn (.func f) fs cs::vs,ks):=by first|exact rE|fail)
  (hp1:zJ (zd s args)=true:=by first|exact rD|fail)
  (hp2:pre:=by first|trivial|exact rD|exact rA|fail)
  (hfl:res.flat=true\/ks=[]:=by first|exact .inl rfl|exact .inr rfl):zh P ts dr K (⟨d,.callv,args,gd,af⟩::r) s acc:=znf hc ht (λ_=>⟨hp1,hp2,hf⟩) hfl (zF hn)
theorem zbM (hc:gOf s gd=some true:=by exact rfl)
  (ht:toPVs s.look (uns (zd s args))=some (pre,vs,ks):=by first|exact rE|fail)
  (hp:true=true->zJ (zd s args)=true/\pre:=by intro hc;first|exact rD|exact rA|exact rC|fail)
  (hfl:res.flat=true\/ks=[]:=by first|exact .inl rfl|exact .inr rfl)
  (hf:Pure P f vs res) (hn:zD dr (zh P ts dr K) r (s.set d (fin gd true (.p res))) (zS dr acc s ⟨d,.call f,args,gd,af⟩ [])):zh P ts dr K (⟨d,.call f,args,gd,af⟩::r) s acc:=za hf hn hc ht hp hfl
theorem zbh (hc:gOf s gd=some c:=by first|rfl|(simp (disch:=omega) only [qG,qe,Nat.reduceAdd,Nat.reduceMul,Nat.reduceEqDiff,Nat.reduceLeDiff,reduceIte,reduceCtorEq,Nat.reduceBEq,Nat.reduceLT]<;>rfl))
  (ht:toPVs s.look (uns (zd s args))=some (pre,vs,ks):=by first|exact rE|fail)
  (hp:c=true->zJ (zd s args)=true/\pre:=by intro hc;first|exact absurd hc xbi|exact rD|exact rA|exact rC|fail)
  (hfl:res.flat=true\/ks=[]:=by first|exact .inl rfl|exact .inr rfl)
  (hf:c=true->Pure P f vs res) (hn:zD dr (zh P ts dr K) r (s.set d (fin gd c (.p res))) (zS dr acc s ⟨d,.call f,args,gd,af⟩ [])):zh P ts dr K (⟨d,.call f,args,gd,af⟩::r) s acc:=zp hf hn hc ht hp hfl
end
theorem sE {p:Prop} (h:p:=by simp only [qS,Nat.reduceAdd,Nat.reduceMul,Nat.reduceEqDiff,Nat.reduceLeDiff,reduceIte,reduceCtorEq,Nat.reduceBEq,Nat.reduceLT]):p:=h
theorem sR {p:Prop} (h:p:=by simp only [qS,Nat.reduceAdd,Nat.reduceMul,Nat.reduceEqDiff,Nat.reduceLeDiff,reduceIte,reduceCtorEq,Nat.reduceBEq,Nat.reduceLT]<;>rfl):p:=h
theorem sS {p:Prop} (h:p:=by simp only [qS,Nat.reduceAdd,Nat.reduceMul,Nat.reduceEqDiff,Nat.reduceLeDiff,reduceIte,reduceCtorEq,Nat.reduceBEq,Nat.reduceLT]<;>simp):p:=h
class Stp (p:Prop) (q:outParam Prop):Prop where
 h:q->p
theorem gS {p q:Prop} [Stp p q] (h:q):p:=Stp.h h
class Mx (P:Program):Prop where
 h:P.follows .mixedOrders=true
section
variable {G:Cfg} {Q:zN} {s:St} {x y:AC} {i:Nat} {l:List RO}
instance:Stp (Run G (.seq x y) s Q) (Run G x s (seqK G y Q)):=⟨zgx⟩
instance:Stp (Run G (.block i x) s Q) (Run G x s (blockK i Q)):=⟨znk⟩
instance:Stp (Run G (.scope x) s Q) (Run G x s Q):=⟨zm8⟩
instance:Stp (Run G .label s Q) (Q .normal s):=⟨znb⟩
instance:Stp (Run G .ret s Q) (Q .ret s):=⟨ztM⟩
instance:Stp (Run G (.exit i) s Q) (Q (.exit i) s):=⟨zqd⟩
instance:Stp (Run G .skip s Q) (Q .normal s):=⟨zj6⟩
instance:Stp (Run G (.ops false l) s Q) (∀ K:St->List Ft->Prop,(∀ s acc,Q .normal s->K s acc)->zD false (zh G.P G.ts false K) l s []):=⟨ztN⟩
instance [Mx G.P]:Stp (Run G (.ops true l) s Q) (∀ K:St->List Ft->Prop,(∀ s acc,Q .normal s->(_h:zca acc.reverse=true:=by rfl)->K s acc)->zD true (zh G.P G.ts true K) l s []):=⟨λh=>zqe Mx.h λK hK=>h K λs acc hq hd=>hK s acc hd hq⟩
end
end Go.Proofs.YtijgimeokgbifaaGreat
namespace Go.Proofs.YtijgimeokgbifaaGreat
open Go.ChangeShapes Go.WideShapes Go.ChangeAt Go.RowKit
inductive CP where
 | b
 | i (k:IntKind)
 | s
 | sl (ag:Bool) (cs:List CP)
def FitAll (F:CP->PV->Prop):List CP->List PV->Prop
 | [],[]=>True
 | c::cs,p::ps=>F c p/\FitAll F cs ps
 | _,_=>False
theorem FitAll.app {F:CP->PV->Prop}:∀ {a:List CP} {p:List PV} {b:List CP} {q:List PV},FitAll F a p->FitAll F b q->FitAll F (a++b) (p++q)
 | [],[],_,_,_,h=>h
 | [],_::_,_,_,h,_=>h.elim
 | _::_,[],_,_,h,_=>h.elim
 | c::cs,p::ps,_,_,h,k=>⟨h.1,FitAll.app h.2 k⟩
theorem FitAll.len {F:CP->PV->Prop}:∀ {a:List CP} {p:List PV},FitAll F a p->p.length=a.length
 | [],[],_=>rfl
 | [],_::_,h=>h.elim
 | _::_,[],h=>h.elim
 | c::cs,p::ps,h=>by simp [FitAll.len h.2]
section
variable {H:Type} {enc:TypeId × Value->H} {P:Program} {w:World} {base:Nat} {sp:Nat->Bool} {held:Bool}
end
end Go.Proofs.YtijgimeokgbifaaGreat
namespace Go.Proofs.YtijgimeokgbifaaGreat
open Go.RowKit
theorem RelC.pub {X:Fx} {C:Ctx} {tr:List (List PV)} {stop:Bool} {a:Act} {w:World} {s:St} (hM:X.MOk) (h:RelC X C s.get s.look tr stop a w) (t:Nat) {pre:Prop} {v v':PV} {ks:List Nat} (ht:toPV s.look 4 (s.get t)=some (pre,v,ks)) (hp:pre) (hw:Weak v v') :
  ∃ C',RelC X C' ((s.wrs (frzs s.look ks)).set (some t) (.p v')).get ((s.wrs (frzs s.look ks)).set (some t) (.p v')).look tr stop a w:=by
 obtain ⟨C',h1,h2,h3⟩:=zfc hM s.look C ks s C h rfl rfl (λ_ h=>h) (λk=>.inl rfl) (zhu 4 ht)
 have hr:=zek h (B':=C'.B) h2 4 (h.env t) ht hp h3;refine ⟨C',?_⟩;rw [zjw,zgX];refine { h1 with env:=λj=>?_,envs:=λj=>?_ }
 ·by_cases e:j=t
  ·subst e;simp only [zg];exact .p (hw.rep hr)
  ·simp only [zt _ _ e];exact h1.env j
 ·by_cases e:j=t
  ·subst e;simp only [zg];exact .p _
  ·simp only [zt _ _ e];exact h1.envs j
inductive Pubs:St->St->Prop
 | cov {s s':St} (h:Cov s s'):Pubs s s'
 | pub {s s':St} (t:Nat) (v':PV) {pre:Prop} {v:PV} {ks:List Nat} (ht:toPV s.look 4 (s.get t)=some (pre,v,ks)) (hp:pre) (hw:Weak v v') (h:Pubs ((s.wrs (frzs s.look ks)).set (some t) (.p v')) s'):Pubs s s'
theorem Pubs.x {s s':St} (t:Nat) (v':PV) {pre:Prop} {v:PV} {ks:List Nat} (h:Pubs ((s.wrs (frzs s.look ks)).set (some t) (.p v')) s')
  (ht:toPV s.look 4 (s.get t)=some (pre,v,ks):=by first|exact rE|fail)
  (hp:pre:=by first|trivial|omega|(simp;done)|exact rF|fail) (hw:Weak v v':=by first|exact .refl _|exact .nilsl _):Pubs s s':=.pub t v' ht hp hw h
section
variable {κ:Type} (inv:κ->St) (ok:κ->Prop) (μ:κ->Nat) (k:κ) (Q:zN) (s:St)
end
end Go.Proofs.YtijgimeokgbifaaGreat
namespace Go.Proofs.YtijgimeokgbifaaGreat
open Go.RowKit
def gLV (k:Nat):LObj->LV
 | .box _ _=>.lp k 0
 | .row _ _ xs _=>.row k xs.length
 | .sit _ _=>.it k
 | .mp _ _=>.lm k
 | .hrow ..=>.any
def gV (C:Ctx) (k:Nat):LObj->Value
 | .row ..=>C.cur k
 | .mp ..=>.map (some (C.ρ k))
 | .hrow ..=>undef
 | _=>.pointer (some ⟨C.ρ k,0,none⟩)
theorem zu0 {w:World} {C:Ctx} {l:Nat->Option LObj} (k:Nat) (o:LObj):RepL w C l (gV C k o) (gLV k o):=by
 cases o with
 | box=>exact .lp
 | row=>exact .row λ_ _ _ _ _ _=>rfl
 | sit=>exact .it
 | mp=>exact .lm
 | hrow=>exact .any _
theorem zxy {l:Nat->Option LObj} {k:Nat} {o:LObj} (h:l k=some o):LV.Sc l (gLV k o):=by
 cases o with
 | box=>exact .lp h
 | row=>exact .row h (xaj _)
 | sit=>exact .it h
 | mp=>exact .lm h
 | hrow=>exact .any
theorem RepL.sub {w:World} {C C':Ctx} {l l':Nat->Option LObj} (hl:∀ k o,l' k=some o->l k=some o) (hB:∀ b,C.B b->C'.B b) (hy:C'.y=C.y) (hρ:C'.ρ=C.ρ) (hc:C'.cur=C.cur) {v:Value} {q:LV} (h:RepL w C l v q):RepL w C' l' v q:=by
 induction h with
 | p h=>exact .p (h.mono hB λ_ _=>rfl)
 | g _ h2 ih=>exact .g ih h2
 | lp=>rw [<-hρ];exact .lp
 | row h=>exact .row λe sz xs fz hk hx=>by rw [hc];exact h e sz xs fz (hl _ _ hk) hx
 | ep h=>exact .ep λe sz xs fz hk hx=>by rw [hc];exact h e sz xs fz (hl _ _ hk) hx
 | it=>rw [<-hρ];exact .it
 | lm=>rw [<-hρ];exact .lm
 | fn h1 h2 _ _ ih1 ih2=>exact .fn h1 h2 ih1 ih2
 | agg h1 _ ih=>exact .agg h1 ih
 | tup h1 _ ih=>exact .tup h1 ih
 | yield=>rw [<-hy];exact .yield
 | any v=>exact .any v
theorem ObjRel.sub {w:World} {C C':Ctx} {l l':Nat->Option LObj} (hl:∀ k o,l' k=some o->l k=some o) (hB:∀ b,C.B b->C'.B b) (hy:C'.y=C.y) (hρ:C'.ρ=C.ρ) (hc:C'.cur=C.cur) {k:Nat} {o:LObj} (h:ObjRel w C l k o):ObjRel w C' l' k o:=by
 cases o with
 | box cs fz=>obtain ⟨arr,ty,h1,h2,h3⟩:=h;exact ⟨arr,ty,by rw [hρ];exact h1,h2,λj v q hv hq=>(h3 j v q hv hq).sub hl hB hy hρ hc⟩
 | row e sz xs fz=>obtain ⟨us,h1,h2,h3⟩:=h;exact ⟨us,by rw [hc];exact h1,h2.mono hB λ_ _=>rfl,h3⟩
 | hrow e sz xs a c=>obtain ⟨⟨us,h1,h2,h3⟩,h4⟩:=h;exact ⟨⟨us,by rw [hc];exact h1,h2.mono hB λ_ _=>rfl,h3⟩,by rw [hc];exact h4⟩
 | sit s pos=>show w.heap[C'.ρ k]?=_;rw [hρ];exact h
 | mp es fz=>obtain ⟨ents,clock,fs,h1,h0,h2,h3⟩:=h;exact ⟨ents,clock,fs,by rw [hρ];exact h1,h0,h2,λj m kv hm hkv=>⟨(h3 j m kv hm hkv).1.mono hB λ_ _=>rfl,(h3 j m kv hm hkv).2.mono hB λ_ _=>rfl⟩⟩
def ghO (obj:List (Nat × LObj)):List (Nat × LV):=obj.map λx=>(GB+x.1,gLV x.1 x.2)
def zE (args:List LV) (obj:List (Nat × LObj)):St:=⟨(args.zipIdx.map λx=>(x.2,x.1))++ghO obj,obj,[],false⟩
theorem zpi (g:Nat):∀ (obj:List (Nat × LObj)) (t:Nat),z8 (obj.map λx=>(g+x.1,gLV x.1 x.2)) t=if g<=t then (match zj obj (t - g) with|some o=>gLV (t - g) o|none=>.any) else .any
 | [],t=>by simp [z8,zj]
 | (k,o)::r,t=>by
  have ih:=zpi g r t;simp only [xak,z8,zj]
  by_cases e:t=g+k
  ·subst e;rw [if_pos rfl,if_pos (by omega),xch,if_pos rfl]
  ·rw [if_neg e,ih]
   by_cases h:g<=t
   ·rw [if_pos h,if_pos h,if_neg (by omega)]
   ·rw [if_neg h,if_neg h]
theorem zk6 (obj:List (Nat × LObj)) (t:Nat):z8 (ghO obj) t=if GB<=t then (match zj obj (t - GB) with|some o=>gLV (t - GB) o|none=>.any) else .any:=zpi GB obj t
theorem ziN {w:World} {C:Ctx} {l:Nat->Option LObj} {v:Value} {k off:Nat} (h:RepL w C l v (.lp k off)):v=.pointer (some ⟨C.ρ k,off,none⟩):=by cases h;rfl
theorem zcr {w:World} {C:Ctx} {l:Nat->Option LObj} {v:Value} {k n:Nat} (h:RepL w C l v (.row k n)):∀ e sz xs fz,l k=some (.row e sz xs fz)->xs.length=n->v=C.cur k:=by cases h;assumption
theorem ziP {w:World} {C:Ctx} {l:Nat->Option LObj} {v:Value} {k:Nat} (h:RepL w C l v (.it k)):v=.pointer (some ⟨C.ρ k,0,none⟩):=by cases h;rfl
theorem ziO {w:World} {C:Ctx} {l:Nat->Option LObj} {v:Value} {k:Nat} (h:RepL w C l v (.lm k)):v=.map (some (C.ρ k)):=by cases h;rfl
theorem zgl (r : List (Nat × LV)) : ∀ (args : List LV) (n t : Nat), n <= t -> z8 ((args.zipIdx n |>.map λx => (x.2, x.1)) ++ r) t = (match args[t - n]? with | some q => q | none => z8 r t)
 | [],n,t,_=>by simp
 | v::a,n,t,h=>by
  simp only [List.zipIdx_cons,xak,xaQ,z8]
  by_cases e:t=n
  ·subst e;simp
  ·rw [if_neg e,zgl r a (n+1) t (by omega)]
   have:t - n=(t - (n+1))+1:=by omega
   rw [this];rfl
def keepO (s:St):List (Nat × LObj)->Prop
 | []=>True
 | (k,o)::r=>s.look k=some o/\o.frozen=false/\keepO s r
def keepG (s:St):List (Nat × LObj)->Prop
 | []=>True
 | (k,o)::r=>s.get (GB+k)=gLV k o/\keepG s r
theorem ze8 {s:St}:∀ {l:List (Nat × LObj)},keepO s l->∀ k o,zj l k=some o->s.look k=some o/\o.frozen=false
 | [],_,k,o,h=>by simp [zj] at h
 | (j,u)::r,hk,k,o,h=>by
  simp only [zj] at h
  split at h
  ·rename_i e;subst e;injection h with h;subst h;exact ⟨hk.1,hk.2.1⟩
  ·exact ze8 hk.2.2 k o h
theorem zh3 {s:St}:∀ {l:List (Nat × LObj)},keepG s l->∀ k o,zj l k=some o->s.get (GB+k)=gLV k o
 | [],_,k,o,h=>by simp [zj] at h
 | (j,u)::r,hk,k,o,h=>by
  simp only [zj] at h
  split at h
  ·rename_i e;subst e;injection h with h;subst h;exact hk.1
  ·exact zh3 hk.2 k o h
def RetR (rs:List RV) (res:LV) (obj':List (Nat × LObj)) (s:St):Prop:=
 ∃ pre lvs,resL s rs=some (pre,lvs)/\pre/\((lvs=[res]/\scP (zj obj') res)\/(∃ pre2 vs ks v,toPVs s.look lvs=some (pre2,vs,ks)/\pre2/\Weak (tupOf vs) v/\res=.p v/\∀ k ∈ ks,zj obj' k=none)\/∃ x y r,lvs=x::y::r/\res=.tup (x::y::r)/\scP (zj obj') res)
def RetA (rs:List RV) (res:LV) (obj obj':List (Nat × LObj)) (s:St):Prop:=keepO s obj'/\keepG s obj/\RetR rs res obj' s
def retA (rs:List RV) (res:LV) (obj obj':List (Nat × LObj)):zN
 | .normal,s=>RetA rs res obj obj' s
 | .ret,s=>RetA rs res obj obj' s
 | .exit _,_=>False
def zc1 (l:Nat->Option LObj):List (Nat × LObj)->Prop
 | []=>True
 | (k,o)::r=>(match o,l k with
  | .box _ _,some (.box _ _)=>True
  | .row e sz xs _,some (.row e' sz' xs' _)=>e'=e/\sz'=sz/\xs'.length=xs.length
  | .sit _ _,some (.sit _ _)=>True
  | .mp _ _,some (.mp _ _)=>True
  | .hrow e sz _ _ _,some (.hrow e' sz' _ _ _)=>e'=e/\sz'=sz
  | _,_=>False)/\zc1 l r
theorem zey {l:Nat->Option LObj}:∀ {obj:List (Nat × LObj)},zc1 l obj->∀ k o,zj obj k=some o->∃ o',l k=some o'/\o.Follows o'/\∀ e sz xs f e' sz' xs' f',o=.row e sz xs f->o'=.row e' sz' xs' f'->xs'.length=xs.length
 | [],_,k,o,h=>by simp [zj] at h
 | (j,u)::r,hf,k,o,h=>by
  simp only [zj] at h
  split at h
  ·rename_i e;subst e;injection h with h;subst h;have h1:=hf.1
   split at h1
   ·rename_i h2;exact ⟨_,h2,trivial,λ_ _ _ _ _ _ _ _ e=>by cases e⟩
   ·rename_i h2;obtain ⟨rfl,rfl,h3⟩:=h1;exact ⟨_,h2,⟨rfl,rfl,by omega⟩,λ_ _ _ _ _ _ _ _ e1 e2=>by cases e1;cases e2;exact h3⟩
   ·rename_i h2;exact ⟨_,h2,trivial,λ_ _ _ _ _ _ _ _ e=>by cases e⟩
   ·rename_i h2;exact ⟨_,h2,trivial,λ_ _ _ _ _ _ _ _ e=>by cases e⟩
   ·rename_i h2;exact ⟨_,h2,h1,λ_ _ _ _ _ _ _ _ e=>by cases e⟩
   ·exact h1.elim
  ·exact zey hf.2 k o h
def zuG:List (Nat × LObj)->Prop
 | []=>True
 | (_,o)::r=>o.frozen=false/\zuG r
theorem zkz:∀ {l:List (Nat × LObj)},zuG l->∀ k o,zj l k=some o->o.frozen=false
 | [],_,k,o,h=>by simp [zj] at h
 | (j,u)::r,hk,k,o,h=>by
  simp only [zj] at h
  split at h
  ·injection h with h;subst h;exact hk.1
  ·exact zkz hk.2 k o h
attribute [local irreducible] GB
section
variable {P:Program}
def actFx (w:World) (C:Ctx) (obj:List (Nat × LObj)) (N:Nat):Fx:={ w0:=w,B0:=C.B,B1:=λb=>C.B b\/ztc C obj b,M:=ztc C obj,O0:=λ_=>False,D0:=λ_=>False,Bo:=λb=>C.B b\/ztc C obj b,no:=w.heap.size,N:=N,y:=C.y,J:=λ_ _ _ _=>True,Jx:=λ_ _ _=>True,gv:=λt=>match zj obj (t - GB) with|some o=>gV C (t - GB) o|none=>undef,K:=[] }
def retE (rs:List RV) (res:HD->LV) (obj:List (Nat × LObj)) (obj':HD->List (Nat × LObj)):zN
 | .normal,s=>∃ i,RetA rs (res i) obj (obj' i) s
 | .ret,s=>∃ i,RetA rs (res i) obj (obj' i) s
 | .exit _,_=>False
theorem ziy {f : FuncId} {fn : Func} {body : Code} {c : AC} {rs : List RV} {args : List LV} {obj : List (Nat × LObj)} {obj'E : HD → List (Nat × LObj)} {resE : HD → LV} (hf : P.funcs[f]? = some fn) (hname : (fn.name == "runtime.NumGoroutine") = false) (hb : fn.body = some body)
  (hc:zC P fn.ntmps body=some c) (hrs:zas P fn.results.toList=some rs) (hn:args.length≤fn.ntmps) (hgb:fn.ntmps≤GB)
  (hsa:scPs (zj obj) args) (hso:scObj (zj obj) obj) (hnf:zuG obj) (hso'E:∀ i,scObj (zj (obj'E i)) (obj'E i)) (hfolE:∀ i,zc1 (zj (obj'E i)) obj)
  (hrun:∀ X:Fx,X.N=fn.ntmps→Run ⟨P,X,none,[]⟩ c (zE args obj) (retE rs resE obj obj'E)):ActsE P f args obj resE obj'E:=by
 refine ⟨⟨fn,body,hf,hname,hb⟩,fun k o hk=>⟨zaJ hso k o hk,zkz hnf k o hk⟩,fun i k o hk=>?_,fun w C vs fr hlen hvs=>callsIn_wide.1 (callsIn_of_wp_marks (F:=Fence.wide) (n:=0) hf hb trivial ?_ rfl)⟩
 ·obtain ⟨o',h1,h2,_⟩:=zey (hfolE i) k o hk;exact ⟨o',h1,h2⟩
 let X:=actFx w C obj fn.ntmps
 have hX:X.Triv:=fun t D o w=>⟨trivial,trivial⟩
 have hN:(vs.toArray++Array.replicate (fn.ntmps - vs.toArray.size) undef).size=fn.ntmps:=by simp;omega
 have hget:∀ t,(zE args obj).get t=(match args[t]? with|some q=>q|none=>z8 (ghO obj) t):=fun t=>by
  have:=zgl (ghO obj) args 0 t (xa5 _)
  simpa [zE,St.get] using this
 let C0:Ctx:={ C with n:=0,dep:=fun _=>False,own:=fun _=>False }
 have h0:RelC X C0 (zE args obj).get (zE args obj).look [] false { tmps:=vs.toArray++Array.replicate (fn.ntmps - vs.toArray.size) undef,defers:=[] } w:=
  {
   kx:=KeepX.refl _ _
   yy:=rfl
   b0:=fun b h=>h
   blt:=fr.blt
   bold:=fun b h _=>.inl h
   borg:=fun b h=>.inl (.inl h)
   no0:=xaj _
   tsz:=hN
   ngb:=hgb
   env:=fun t=>by
    rw [hget]
    split
    ·rename_i q hq
     have hta:t < args.length:=(xaa.1 hq).1
     rw [zaN (xaG (xaG hta hn) hgb)]
     have ht:t < vs.length:=by omega
     have:(vs.toArray++Array.replicate (fn.ntmps - vs.toArray.size) undef).getD t undef=vs[t]:=by
      rw [xan,xb4 (by simpa using ht)]
      simp [ht]
     rw [this]
     exact RepL.sub (C:=C) (C':=C0) (l:=zj obj) (fun _ _ h=>h) (fun _ h=>h) rfl rfl rfl (hvs t _ q (xab ht) hq)
    ·rw [zk6]
     split
     ·rename_i hge
      have hv:zbe X { tmps:=vs.toArray++Array.replicate (fn.ntmps - vs.toArray.size) undef,defers:=[] } t=(match zj obj (t - GB) with|some o=>gV C (t - GB) o|none=>undef):=by
       unfold zbe;rw [if_neg (by omega)];rfl
      rw [hv]
      split
      ·rename_i o ho;exact RepL.sub (C:=C) (C':=C0) (l:=zj obj) (fun _ _ h=>h) (fun _ h=>h) rfl rfl rfl (zu0 (w:=w) (C:=C) (l:=zj obj) _ o)
      ·exact .any _
     ·exact .any _
   envs:=fun t=>by
    rw [hget]
    split
    ·rename_i q hq;exact zhD _ q (xaj _) (zem hsa t q hq)
    ·rw [zk6]
     split
     ·split
      ·rename_i o ho;exact zxy ho
      ·exact .any
     ·exact .any
   obj:=fun k o hk=>ObjRel.sub (C:=C) (C':=C0) (l:=zj obj) (fun _ _ h=>h) (fun _ h=>h) rfl rfl rfl (fr.ob k o hk)
   objs:=fun k o hk=>fr.objs k o hk
   sep:=fun k o b hk hb=>by
    obtain ⟨h1,h2⟩:=fr.sep k o b hk hb
    exact ⟨fun _=>.inr ⟨k,o,hk,hb⟩,h1,fun _=>h2,fun h=>by rw [fr.fz k o hk] at h;cases h⟩
   dis:=fun k k' o o' b hne hk hk' hb hb'=>fr.dis k k' o o' b hne hk hk' hb hb'
   marks:=fun p hp=>by cases hp
   nle:=xa5 _
   dn:=fun _ h=>h.elim
   nn:=fun k o b hk _ _ h=>h.elim
   ow:=fun _ h=>h.elim
   oold:=fun _ h=>h.elim
   dold:=fun _ h=>h.elim
   jj:=.inl hX }
 refine wpIn_mono (hrun X rfl ⟨⟨fun b h=>.inr h,fun b h=>.inl (.inr h)⟩,.inl rfl,fun l h=>by cases h⟩ body hc _ _ _ h0) ?_
 rintro e a' w' ⟨s',C',hr',hq⟩
 have key:(∃ i,RetA rs (resE i) obj (obj'E i) s')→LeavesInM Fence.wide 0 P fn a'.tmps (fun e w'=>∃ i u C',e=.returned u∧zyP w C w' C' obj (obj'E i) u (resE i)) a'.defers .returning w':=fun ⟨iE,hRetA⟩=>by
  have hso':=hso'E iE
  have hfol:=hfolE iE
  generalize hobjE:obj'E iE=obj' at hRetA hso' hfol
  generalize hresE:resE iE=res at hRetA
  obtain ⟨hko,hkg,pre,lvs,hl,hp,hres⟩:=hRetA
  refine zds (ro:=none) a'.defers a' w' rfl hr' fun w2 h2=>?_
  obtain ⟨us,hrun,hus⟩:=zdR (fn:=fn) hrs h2 hl hp
  refine ⟨_,hrun,iE,?_⟩
  rw [hobjE,hresE]
  have sub:∀ k o,zj obj' k=some o→s'.look k=some o:=fun k o hk=>(ze8 hko k o hk).1
  have nfz:∀ k o,zj obj' k=some o→o.frozen=false:=fun k o hk=>(ze8 hko k o hk).2
  have tied:∀ k o o',zj obj k=some o→zj obj' k=some o'→(∀ e sz xs a c,o'≠.hrow e sz xs a c)→Tied C' k C k o':=fun k o o' hk hk' hnh=>by
   have hg:=zh3 hkg k o hk
   have hv:∀ a2:Act,zbe X a2 (GB+k)=gV C k o:=fun a2=>by
    unfold zbe;rw [if_neg (by omega)]
    show (match zj obj (GB+k - GB) with|some o=>gV C (GB+k - GB) o|none=>undef)=_
    rw [xch,hk]
   have he:RepL w2 C' s'.look (gV C k o) (gLV k o):=by
    rw [←hg,←hv { tmps:=a'.tmps,defers:=[] }];exact h2.env (GB+k)
   obtain ⟨o2,f1,f2,f3⟩:=zey hfol k o hk
   rw [hk'] at f1;injection f1 with f1;subst f1
   cases o<;>cases o'<;>simp only [LObj.Follows] at f2
   ·have h3:=ziN he;simp only [gV,Value.pointer.injEq,xaR,Addr.mk.injEq] at h3;exact h3.1.symm
   ·rename_i e sz xs fz e' sz' xs' fz'
    simp only [gV,gLV] at he
    exact (zcr he _ _ _ _ (sub _ _ hk') (f3 _ _ _ _ _ _ _ _ rfl rfl)).symm
   ·have h3:=ziP he;simp only [gV,Value.pointer.injEq,xaR,Addr.mk.injEq] at h3;exact h3.1.symm
   ·have h3:=ziO he;simp only [gV,Value.map.injEq,xaR] at h3;exact h3.symm
   ·exact absurd rfl (hnh _ _ _ _ _)
  have fin:∀ (ks:List Nat) (u:Value),(∀ k ∈ ks,zj obj' k=none)→RepL w2 { C' with B:=fun b=>C'.B b∨zbV C' s'.look ks b } (zj obj') u res→LV.Sc (zj obj') res→zyP w C w2 { C' with B:=fun b=>C'.B b∨zbV C' s'.look ks b } obj obj' u res:=fun ks u hks hrep hsc=>by
   have noB:∀ k o b,zj obj' k=some o→blk C' k o=some b→¬(C'.B b∨zbV C' s'.look ks b):=fun k o b hk hb hB=>by
    rcases hB with hB|⟨k2,hk2,o2,h3,h4⟩
    ·exact (h2.sep k o b (sub k o hk) hb).2.2.1 (nfz k o hk) hB
    ·refine h2.dis k k2 o o2 b (fun e=>?_) (sub k o hk) h3 hb h4
     subst e;rw [hks k hk2] at hk;cases hk
   exact {
    kx:=h2.kx.mono fun b _ hb=>hb.elim id fun h=>h.elim
    fr:={
     blt:=fun b hb=>hb.elim (h2.blt b) fun ⟨k,_,o,h3,h4⟩=>(h2.sep k o b h3 h4).2.1
     ob:=fun k o hk=>ObjRel.sub (C:=C') (C':={ C' with B:=fun b=>C'.B b∨zbV C' s'.look ks b }) sub (fun _ h=>.inl h) rfl rfl rfl (h2.obj k o (sub k o hk))
     objs:=fun k o hk=>zaJ hso' k o hk
     fz:=nfz
     sep:=fun k o b hk hb=>⟨(h2.sep k o b (sub k o hk) hb).2.1,noB k o b hk hb⟩
     dis:=fun k k' o o' b hne hk hk' hb hb'=>h2.dis k k' o o' b hne (sub k o hk) (sub k' o' hk') hb hb' }
    b1:=fun b hb=>.inl (h2.b0 b hb)
    b2:=fun b hb=>by
     by_cases hlt:b < w.heap.size
     ·rcases hb with hb|⟨k,hk,o,h3,h4⟩
      ·rcases h2.bold b hb hlt with h|h
       ·exact .inl h
       ·exact .inr (.inr h)
      ·obtain ⟨e1,e2,_,e4⟩:=h2.sep k o b h3 h4
       cases hf:o.frozen with
       | true=>
        rcases h2.bold b (e4 hf) hlt with h|h
        ·exact .inl h
        ·exact .inr (.inr h)
       | false=>
        rcases e1 hf with h|h
        ·exact .inr (.inl h)
        ·exact .inr (.inr h)
     ·exact .inr (.inl (by omega))
    y:=h2.yy
    fol:=fun k o hk=>by obtain ⟨o',f1,f2,_⟩:=zey hfol k o hk;exact ⟨o',f1,f2⟩
    tied:=fun k o o' hk hk' hnh _=>by have:=tied k o o' hk hk' hnh;cases o'<;>exact this
    bk:=fun k o b hk hb=>((h2.sep k o b (sub k o hk) hb).1 (nfz k o hk)).symm
    rp:=hrep
    scr:=hsc }
  rcases hres with ⟨rfl,hsc⟩|⟨pre2,vs2,ks,v,ht,hp2,hw,rfl,hks⟩|⟨x,y,r,rfl,rfl,hsc⟩
  ·match us,hus with
   | [u],hus=>
    refine ⟨u,_,rfl,fin [] u (fun k h=>by cases h) ?_ (zhD _ res (xaj _) hsc)⟩
    exact RepL.sub (C:=C') (C':={ C' with B:=fun b=>C'.B b∨zbV C' s'.look [] b }) sub (fun _ h=>.inl h) rfl rfl rfl (hus.2 0 u res rfl rfl).1
   | [],hus=>exact absurd hus.1 (by simp)
   | _::_::_,hus=>exact absurd hus.1 (by simp)
  ·have hreps:=zaX h2 hus ht hp2
   refine ⟨_,_,rfl,fin ks _ hks (.p (hw.rep ?_)) (.p _)⟩
   match us,vs2,hreps with
   | [],[],_=>exact .tup rfl (fun j v p hv=>by simp at hv)
   | [u],[p],h=>exact h.2 0 u p rfl rfl
   | u::v::us,p::q::ps,h=>
    have:(u::v::us).toArray.size≠1:=by simp
    rw [dif_neg this]
    exact .tup (by simpa using h.1) (fun j x y hx hy=>h.2 j x y (by simpa using hx) hy)
   | [],_::_,h=>exact absurd h.1 (by simp)
   | _::_,[],h=>exact absurd h.1 (by simp)
   | [_],_::_::_,h=>exact absurd h.1 (by simp)
   | _::_::_,[_],h=>exact absurd h.1 (by simp)
  ·match us,hus with
   | u::v::us,hus=>
    have hsz:(u::v::us).toArray.size≠1:=by simp
    refine ⟨.tuple (u::v::us).toArray,_,by rw [dif_neg hsz],fin [] _ (fun k h=>by cases h) (.tup (by simpa using hus.1) fun j v1 p1 hv hp=>?_) (zhD _ _ (xaj _) hsc)⟩
    exact RepL.sub (C:=C') (C':={ C' with B:=fun b=>C'.B b∨zbV C' s'.look [] b }) sub (fun _ h=>.inl h) rfl rfl rfl (hus.2 j v1 p1 (by simpa using hv) hp).1
   | [],hus=>exact absurd hus.1 (by simp)
   | [_],hus=>exact absurd hus.1 (by simp)
 cases e with
 | normal=>exact key hq
 | ret=>exact key hq
 | exit id=>exact hq.elim
 | goto l=>exact hq.elim
 | panic c=>exact hq.elim
 | outgrown=>exact hq.elim
theorem ActsE.toA {f:FuncId} {args:List LV} {obj:List (Nat × LObj)} {res:LV} {obj':List (Nat × LObj)} (h:ActsE P f args obj (λ_=>res) (λ_=>obj')):Acts P f args obj res obj':=
 ⟨h.1,h.2.1,h.2.2.1 (none,0),λw C vs fr hl hv=>Calls.mono (h.2.2.2 w C vs fr hl hv) λ_ _ ⟨_,u,C',h1,h2⟩=>⟨u,C',h1,h2⟩⟩
theorem zk8 {f:FuncId} {c:AC} {rs:List RV} {n:Nat} (h:zci P f=some (c,rs,n)) {args:List LV} {obj:List (Nat × LObj)} {obj':HD->List (Nat × LObj)} {res:HD->LV} (hn:args.length<=n)
  (hsa:scPs (zj obj) args) (hso:scObj (zj obj) obj) (hnf:zuG obj) (hso':∀ i,scObj (zj (obj' i)) (obj' i)) (hfol:∀ i,zc1 (zj (obj' i)) obj)
  (hrun:∀ X:Fx,X.N=n->Run ⟨P,X,none,[]⟩ c (zE args obj) (retE rs res obj obj')):ActsE P f args obj res obj':=by
 unfold zci at h
 split at h
 ·rename_i fn hf
  split at h
  ·cases h
  ·rename_i hname
   split at h
   ·rename_i b hb
    split at h
    ·rename_i c' rs' hc hrs
     split at h
     case isFalse=>cases h
     rename_i hgb;injection h with h;injection h with e1 h;injection h with e2 e3;subst e1;subst e2;subst e3;exact ziy hf (by simpa using hname) hb hc hrs hn hgb hsa hso hnf hso' hfol hrun
    ·cases h
   ·cases h
 ·cases h
theorem zv1 {f:FuncId} {c:AC} {rs:List RV} {n:Nat} (h:zci P f=some (c,rs,n)) {args:List LV} {obj obj':List (Nat × LObj)} {res:LV} (hn:args.length<=n)
  (hsa:scPs (zj obj) args) (hso:scObj (zj obj) obj) (hnf:zuG obj) (hso':scObj (zj obj') obj') (hfol:zc1 (zj obj') obj)
  (hrun:∀ X:Fx,X.N=n->Run ⟨P,X,none,[]⟩ c (zE args obj) (retA rs res obj obj')):Acts P f args obj res obj':=
 (zk8 h hn hsa hso hnf (λ_=>hso') (λ_=>hfol) λX hX hG code hc C a w hr=>wpIn_mono (hrun X hX hG code hc C a w hr) λe a1 w1 hq=>by
  obtain ⟨s1,C1,h1,h2⟩:=hq;refine ⟨s1,C1,h1,?_⟩;cases e with
  | normal=>exact ⟨(none,0),h2⟩
  | ret=>exact ⟨(none,0),h2⟩
  | exit i=>exact h2.elim
  | goto l=>exact h2.elim
  | panic c=>exact h2.elim
  | outgrown=>exact h2.elim).toA
end
end Go.Proofs.YtijgimeokgbifaaGreat
namespace Go.Proofs.YtijgimeokgbifaaGreat
open Go.RowKit
theorem rnE {p:Prop} (h:p:=by simp (disch:=omega) only [qS,qe,xaP,xaQ,rn.eq_1,rn.eq_2,lentO.eq_1,lentO.eq_2,newO.eq_1,newO.eq_2,LObj.ren.eq_1,LObj.ren.eq_2,LObj.ren.eq_3,LObj.ren.eq_4,LObj.ren.eq_5,LV.ren.eq_1,LV.ren.eq_3,LV.ren.eq_4,LV.ren.eq_6,LV.ren.eq_7,LV.ren.eq_8,LV.ren.eq_9,LV.ren.eq_10,rens.eq_1,rens.eq_2,za5,keepO.eq_1,keepO.eq_2,keepG.eq_1,keepG.eq_2,gLV.eq_1,gLV.eq_2,gLV.eq_4,zE,ghO,GB,Nat.reduceAdd,Nat.reduceMul,Nat.reduceEqDiff,Nat.reduceLeDiff,reduceIte,reduceCtorEq,Nat.reduceBEq,Nat.reduceLT]<;>rfl):p:=h
theorem rnD {p:Prop} (h:p:=by simp (disch:=omega) only [qS,qe,xaP,xaQ,rn.eq_1,rn.eq_2,lentO.eq_1,lentO.eq_2,newO.eq_1,newO.eq_2,LObj.ren.eq_1,LObj.ren.eq_2,LObj.ren.eq_3,LObj.ren.eq_4,LObj.ren.eq_5,LV.ren.eq_1,LV.ren.eq_3,LV.ren.eq_4,LV.ren.eq_6,LV.ren.eq_7,LV.ren.eq_8,LV.ren.eq_9,LV.ren.eq_10,rens.eq_1,rens.eq_2,za5,keepO.eq_1,keepO.eq_2,keepG.eq_1,keepG.eq_2,gLV.eq_1,gLV.eq_2,gLV.eq_4,zE,ghO,GB,Nat.reduceAdd,Nat.reduceMul,Nat.reduceEqDiff,Nat.reduceLeDiff,reduceIte,reduceCtorEq,Nat.reduceBEq,Nat.reduceLT]<;>fail):p:=h
theorem rnT {p:Prop} (h:p:=by simp (disch:=omega) only [qS,qe,xaP,xaQ,rn.eq_1,rn.eq_2,lentO.eq_1,lentO.eq_2,newO.eq_1,newO.eq_2,LObj.ren.eq_1,LObj.ren.eq_2,LObj.ren.eq_3,LObj.ren.eq_4,LObj.ren.eq_5,LV.ren.eq_1,LV.ren.eq_3,LV.ren.eq_4,LV.ren.eq_6,LV.ren.eq_7,LV.ren.eq_8,LV.ren.eq_9,LV.ren.eq_10,rens.eq_1,rens.eq_2,za5,keepO.eq_1,keepO.eq_2,keepG.eq_1,keepG.eq_2,gLV.eq_1,gLV.eq_2,gLV.eq_4,zE,ghO,GB,Nat.reduceAdd,Nat.reduceMul,Nat.reduceEqDiff,Nat.reduceLeDiff,reduceIte,reduceCtorEq,Nat.reduceBEq,Nat.reduceLT]<;>(repeat' apply And.intro)<;>first|rfl|trivial):p:=h
theorem rnO {p:Prop} (h:p:=by simp (disch:=omega) only [qS,qe,xaP,xaQ,rn.eq_1,rn.eq_2,lentO.eq_1,lentO.eq_2,newO.eq_1,newO.eq_2,LObj.ren.eq_1,LObj.ren.eq_2,LObj.ren.eq_3,LObj.ren.eq_4,LObj.ren.eq_5,LV.ren.eq_1,LV.ren.eq_3,LV.ren.eq_4,LV.ren.eq_6,LV.ren.eq_7,LV.ren.eq_8,LV.ren.eq_9,LV.ren.eq_10,rens.eq_1,rens.eq_2,za5,keepO.eq_1,keepO.eq_2,keepG.eq_1,keepG.eq_2,gLV.eq_1,gLV.eq_2,gLV.eq_4,zE,ghO,GB,Nat.reduceAdd,Nat.reduceMul,Nat.reduceEqDiff,Nat.reduceLeDiff,reduceIte,reduceCtorEq,Nat.reduceBEq,Nat.reduceLT]<;>(repeat' apply And.intro)<;>first|trivial|exact .inl rfl|exact .inr rfl):p:=h
theorem kpT {p:Prop} (h:p:=by simp (disch:=omega) only [qS,qe,keepO.eq_1,keepO.eq_2,keepG.eq_1,keepG.eq_2,gLV.eq_1,gLV.eq_2,gLV.eq_4,gLV.eq_5,LObj.frozen.eq_1,LObj.frozen.eq_2,LObj.frozen.eq_3,LObj.frozen.eq_4,GB,Nat.reduceAdd,Nat.reduceMul,Nat.reduceEqDiff,Nat.reduceLeDiff,reduceIte,reduceCtorEq,Nat.reduceBEq,Nat.reduceLT]<;>(repeat' apply And.intro)<;>first|rfl|trivial|omega):p:=h
def rn:List (Nat × Nat)->Nat->Nat
 | [],k=>k
 | (a,b)::r,k=>match k == a with|true=>b|false=>rn r k
def lentO (s:St) (m:Nat->Nat):List (Nat × LObj)->Prop
 | []=>True
 | (k,o)::r=>s.look (m k)=some (o.ren m)/\lentO s m r
def newO (s:St) (m:Nat->Nat) (obj:List (Nat × LObj)):List (Nat × LObj)->Prop
 | []=>True
 | (k,_)::r=>((zj obj k).isSome=true\/s.look (m k)=none)/\newO s m obj r
theorem zc8 {s:St} {m:Nat->Nat} {obj obj':List (Nat × LObj)} (h1:lentO s m obj) (h2:newO s m obj obj') (h3:(obj'.map λx=>m x.1).Nodup):zlf s m obj obj' where
 old:=by
  have key:∀ l:List (Nat × LObj),lentO s m l->∀ k o,zj l k=some o->s.look (m k)=some (o.ren m):=by
   intro l
   induction l with
   | nil=>intro _ k o h;simp [zj] at h
   | cons x r ih=>
    obtain ⟨j,u⟩:=x;intro hl k o h;simp only [zj] at h
    split at h
    ·rename_i e;subst e;injection h with h;subst h;exact hl.1
    ·exact ih hl.2 k o h
  exact key obj h1
 new:=by
  intro k o hk h0;have key:∀ l:List (Nat × LObj),newO s m obj l->zj l k=some o->s.look (m k)=none:=by
   intro l
   induction l with
   | nil=>intro _ h;simp [zj] at h
   | cons x r ih=>
    obtain ⟨j,u⟩:=x;intro hn h;simp only [zj] at h
    split at h
    ·rename_i e;subst e
     rcases hn.1 with h|h
     ·rw [h0] at h;cases h
     ·exact h
    ·exact ih hn.2 h
  exact key obj' h2 hk
 nd:=h3
section
variable {P:Program} {G:Cfg} {Q:zN} {ts:List (List PV)} {dr:Bool} {K:St->List Ft->Prop} {acc:List Ft} {d:Option Nat} {f:Nat} {args:List AOpd} {af:List Nat} {r:List RO} {s:St} {vs:List LV} {res:LV} {obj obj':List (Nat × LObj)}
theorem zl (l:List (Nat × Nat)) (hf:Acts P f vs obj res obj') (hn:zD dr (zh P ts dr K) r ((s.wrs (za5 (rn l) obj')).set d (res.ren (rn l))) (zS dr acc s ⟨d,.call f,args,none,af⟩ (za5 (rn l) obj')))
  (ha:uns (zd s args)=rens (rn l) vs:=by first|exact rnE|fail)
  (hp:zJ (zd s args)=true:=by first|exact rnD|fail)
  (h1:lentO s (rn l) obj:=by first|exact rnT|fail)
  (h2:newO s (rn l) obj obj':=by first|exact rnO|fail)
  (h3:(obj'.map λx=>rn l x.1).Nodup:=by first|decide|(simp only [xak,xay];decide)|simp):zh P ts dr K (⟨d,.call f,args,none,af⟩::r) s acc:=
 zhF (rn l) hf ha hp (zc8 h1 h2 h3) (zF hn)
theorem zdP {ng:Bool} {x:AOpd} {R:Bool->Prop} (hn:∀ b:Bool,R b->zD false (zh P ts false K) r (s.set d (.p (.b (if ng then !b else b)))) acc)
  (h:zpq s.look (x.ev s)=some R:=by first|exact rE|fail):zh P ts false K (⟨d,.isnil ng,[x],none,af⟩::r) s acc:=
 znc h λb hb=>zF (hn b hb)
end
def zpz (rs:List RV) (res:LV) (obj obj':List (Nat × LObj)) (s:St):Prop:=RetA rs res obj obj' s\/∃ k e sz env o,Own k e sz s env o/\RetA rs res obj obj' ⟨env,(k,.row e sz [] false)::o,s.tr,s.stop⟩
def retB (rs:List RV) (res:LV) (obj obj':List (Nat × LObj)):zN
 | .normal,s=>zpz rs res obj obj' s
 | .ret,s=>zpz rs res obj obj' s
 | .exit _,_=>False
theorem rtN (rs:List RV) (res:LV) (obj obj':List (Nat × LObj)) (s:St):retB rs res obj obj' .normal s=zpz rs res obj obj' s:=rfl
theorem rtR (rs:List RV) (res:LV) (obj obj':List (Nat × LObj)) (s:St):retB rs res obj obj' .ret s=zpz rs res obj obj' s:=rfl
theorem zR {P:Program} {f:FuncId} {c:AC} {rs:List RV} {n:Nat} (h:zci P f=some (c,rs,n)) {args:List LV} {obj obj':List (Nat × LObj)} {res:LV} (hn:args.length<=n)
  (hsa:scPs (zj obj) args) (hso:scObj (zj obj) obj) (hnf:zuG obj) (hso':scObj (zj obj') obj') (hfol:zc1 (zj obj') obj)
  (hrun:∀ X:Fx,X.N=n->Run ⟨P,X,none,[]⟩ c (zE args obj) (retB rs res obj obj')):Acts P f args obj res obj':=
 zv1 h hn hsa hso hnf hso' hfol λX hX hG code hc C a w hr=>
  wpIn_mono (hrun X hX hG code hc C a w hr) λe a1 w1 hq=>by
   obtain ⟨s1,C1,h1,h2⟩:=hq;have key:zpz rs res obj obj' s1->∃ s2 C2,RelC X C2 s2.get s2.look s2.tr s2.stop a1 w1/\RetA rs res obj obj' s2:=λh=>by
    rcases h with h|⟨k,e,sz,env,o,ho,h⟩
    ·exact ⟨s1,C1,h1,h⟩
    ·obtain ⟨C2,h2⟩:=h1.own ho;exact ⟨⟨env,(k,.row e sz [] false)::o,s1.tr,s1.stop⟩,C2,h2,h⟩
   cases e with
   | normal=>obtain ⟨s2,C2,h3,h4⟩:=key h2;exact ⟨s2,C2,h3,h4⟩
   | ret=>obtain ⟨s2,C2,h3,h4⟩:=key h2;exact ⟨s2,C2,h3,h4⟩
   | exit i=>exact h2.elim
   | goto l=>exact h2.elim
   | panic c=>exact h2.elim
   | outgrown=>exact h2.elim
theorem RetA.mk1 {t:Nat} {res:LV} {obj obj':List (Nat × LObj)} {s:St} (h1:keepO s obj':=by first|exact kpT|fail) (h2:keepG s obj:=by first|exact kpT|fail) (h3:s.get t=res:=by first|exact kpT|fail) (h4:scP (zj obj') res:=by first|exact kpT|fail):RetA [.tmp t] res obj obj' s:=
 ⟨h1,h2,True,[res],by simp only [resL,h3];rfl,trivial,.inl ⟨rfl,h4⟩⟩
theorem RetA.mk0 {obj obj':List (Nat × LObj)} {s:St} (h1:keepO s obj':=by first|exact kpT|fail) (h2:keepG s obj:=by first|exact kpT|fail):RetA [] (.p (.tup [])) obj obj' s:=
 ⟨h1,h2,True,[],rfl,trivial,.inr (.inl ⟨True,[],[],.tup [],by simp only [toPVs,toPV.go],trivial,.refl _,rfl,λk h=>by cases h⟩)⟩
section
variable (m:Nat->Nat)
theorem ztQ:za5 m []=[]:=rfl
theorem zqk (k:Nat) (o:LObj) (r:List (Nat × LObj)):za5 m ((k,o)::r)=(m k,o.ren m)::za5 m r:=rfl
theorem lr_p (v:PV):(LV.p v).ren m=.p v:=by rw [LV.ren]
theorem lr_lp (k o:Nat):(LV.lp k o).ren m=.lp (m k) o:=by rw [LV.ren]
theorem zxo (k n:Nat):(LV.row k n).ren m=.row (m k) n:=by rw [LV.ren]
theorem lr_ep (k n i o:Nat):(LV.ep k n i o).ren m=.ep (m k) n i o:=by rw [LV.ren]
theorem lr_lm (k:Nat):(LV.lm k).ren m=.lm (m k):=by rw [LV.ren]
theorem zxp (e:TypeId) (sz:Nat) (xs:List PV) (fz:Bool):(LObj.row e sz xs fz).ren m=.row e sz xs fz:=rfl
theorem lo_mp (es:List (PV × PV)) (fz:Bool):(LObj.mp es fz).ren m=.mp es fz:=rfl
theorem zxq (cs:List LV) (fz:Bool):(LObj.box cs fz).ren m=.box (rens m cs) fz:=rfl
theorem rs0:rens m []=[]:=by rw [rens]
theorem rs1 (q:LV) (r:List LV):rens m (q::r)=q.ren m::rens m r:=by rw [rens]
end
theorem zwE (k:Nat):rn [] k=k:=rfl
theorem ztR (a b:Nat) (r:List (Nat × Nat)) (k:Nat):rn ((a,b)::r) k=match k == a with|true=>b|false=>rn r k:=rfl
def qN:=And.intro (And.intro (And.intro @ztQ @zqk) (And.intro (And.intro @lr_p @lr_lp) (And.intro @zxo (And.intro @lr_ep @lr_lm)))) (And.intro (And.intro (And.intro @zxp @lo_mp) (And.intro @zxq (And.intro @rs0 @rs1))) (And.intro @zwE @ztR))
theorem zfO {G:Cfg} {c:AC} {s:St} {Q Q':zN} (hm:∀ e s1,Q e s1->Q' e s1) (h:Run G c s Q):Run G c s Q':=λhG code hc C a w hr=>
 wpIn_mono (h hG code hc C a w hr) λe a1 w1 hq=>by
  obtain ⟨s1,C1,h1,h2⟩:=hq;exact ⟨s1,C1,h1,by cases e<;>first|exact hm _ _ h2|exact h2⟩
def cutQ (s':St):zN
 | .normal,s=>Cov s s'
 | _,_=>False
theorem zne {G:Cfg} {x y:AC} {s:St} {Q:zN} (s':St) (h1:Run G x s (cutQ s')) (h2:Run G y s' Q):Run G x s (seqK G y Q):=
 zfO (λe s1 h=>by
  cases e with
  | normal=>exact zj7 s' h h2
  | exit i=>exact h.elim
  | ret=>exact h.elim) h1
def znw (R:LV->LV->Prop) (s:St):List (Nat × LV)->Prop
 | []=>True
 | (t,v)::r=>(v=s.get t\/R (s.get t) v)/\znw R s r
theorem zdm {R:LV->LV->Prop} {s:St}:∀ {l:List (Nat × LV)},znw R s l->∀ t,z8 l t=s.get t\/R (s.get t) (z8 l t)\/z8 l t=.any
 | [],_,t=>.inr (.inr rfl)
 | (j,v)::r,h,t=>by
  simp only [z8]
  split
  ·rename_i e;subst e;exact h.1.imp id .inl
  ·exact zdm h.2 t
def znv (R:LObj->LObj->Prop) (s:St):List (Nat × LObj)->Prop
 | []=>True
 | (j,o)::r=>(s.look j=some o\/∃ o0,s.look j=some o0/\R o0 o)/\znv R s r
theorem zcM {R:LObj->LObj->Prop} {s:St}:∀ {l:List (Nat × LObj)},znv R s l->∀ j o,zj l j=some o->s.look j=some o\/∃ o0,s.look j=some o0/\R o0 o
 | [],_,j,o,h=>by simp [zj] at h
 | (i,u)::r,h,j,o,ho=>by
  simp only [zj] at ho
  split at ho
  ·rename_i e;subst e;injection ho with ho;subst ho;exact h.1
  ·exact zcM h.2 j o ho
section
variable {X:Fx} {C:Ctx} {a:Act} {w:World} {s:St} {k e sz:Nat} {xs:List PV} {a0:Option Addr} {c0:Nat} {env:List (Nat × LV)} {obj:List (Nat × LObj)}
def Mlt (r q p p':PV):Prop:=mltC r q p p'\/∃ cs ds,p=.agg cs/\p'=.agg ds/\zdV r q cs ds
def zf2 (r q:PV):List PV->List PV->Prop
 | [],[]=>True
 | p::ps,p'::ps'=>Mlt r q p p'/\zf2 r q ps ps'
 | _,_=>False
theorem zf3 {r q:PV}:∀ (ps:List PV),zdV r q ps ps
 | []=>trivial
 | _::ps=>⟨.inl rfl,zf3 ps⟩
theorem zhX {r q:PV}:∀ {ps ps' qs qs':List PV},zdV r q ps ps'->zdV r q qs qs'->zdV r q (ps++qs) (ps'++qs')
 | [],[],_,_,_,h=>h
 | _::_,_::_,_,_,h,k=>⟨h.1,zhX h.2 k⟩
 | [],_::_,_,_,h,_=>h.elim
 | _::_,[],_,_,h,_=>h.elim
theorem zhW {r q p p':PV} (hr:r.cells=[r]) (hq:q.cells=[q]) (h:Mlt r q p p'):zdV r q p.cells p'.cells:=by
 rcases h with (rfl|⟨rfl,rfl⟩)|⟨cs,ds,rfl,rfl,h⟩
 ·exact zf3 _
 ·rw [hr,hq];exact ⟨.inr ⟨rfl,rfl⟩,trivial⟩
 ·exact h
theorem zc7 {r q:PV} (hr:r.cells=[r]) (hq:q.cells=[q]):∀ {ps ps':List PV},zf2 r q ps ps'->ps'.length=ps.length/\zdV r q (ps.flatMap PV.cells) (ps'.flatMap PV.cells)
 | [],[],_=>⟨rfl,trivial⟩
 | p::ps,p'::ps',h=>by
  obtain ⟨h1,h2⟩:=zc7 hr hq h.2;exact ⟨by simp [h1],by simp only [xaz];exact zhX (zhW hr hq h.1) h2⟩
 | [],_::_,h=>h.elim
 | _::_,[],h=>h.elim
theorem zf1 {r q:PV}:∀ {ps ps':List PV},zf2 r q ps ps'->∀ p' ∈ ps',∃ p ∈ ps,Mlt r q p p'
 | [],[],_,p',h=>by cases h
 | p::ps,p1::ps',h,p',hm=>by
  rcases xaA.1 hm with rfl|hm
  ·exact ⟨p,by simp,h.1⟩
  ·obtain ⟨x,h1,h2⟩:=zf1 h.2 p' hm;exact ⟨x,by simp [h1],h2⟩
 | [],_::_,h,_,_=>h.elim
 | _::_,[],h,_,_=>h.elim
theorem zeX {r q:PV}:∀ (ps:List PV),zf2 r q ps ps
 | []=>trivial
 | _::ps=>⟨.inl (.inl rfl),zeX ps⟩
theorem zn7 {B:Nat->Prop} {v:Value} {n:Nat} {q p p':PV} (hq:Rep w B (.slice a0 n c0) q) (h:Mlt (.rs a0 n c0) q p p') (hv:Rep w B v p):Rep w B v p':=by
 rcases h with h|⟨cs,ds,rfl,rfl,h⟩
 ·exact zew hq h hv
 ·cases hv with
  | agg h1 h2=>
   refine .agg (by rw [zcw h];exact h1) λj u p' hu hp'=>?_
   obtain ⟨p,g1,g2⟩:=zev h j p' hp';exact zew hq g2 (h2 j u p hu g1)
def zxl (r q:PV) (x x':LV):Prop:=∃ p p',x=.p p/\x'=.p p'/\Mlt r q p p'
def zxm (r q:PV) (o o':LObj):Prop:=∃ e sz ys ys' fz,o=.row e sz ys fz/\o'=.row e sz ys' fz/\zf2 r q ys ys'
def zth (k e sz:Nat) (xs:List PV) (a0:Option Addr) (c0:Nat) (s:St) (env:List (Nat × LV)) (obj:List (Nat × LObj)):Prop:=
 znw (zxl (.rs a0 xs.length c0) (.sl sz xs)) s env/\znv (zxm (.rs a0 xs.length c0) (.sl sz xs)) s obj/\scEnv (zj ((k,.row e sz xs true)::obj)) env/\scObj (zj ((k,.row e sz xs true)::obj)) obj
theorem RelC.melt (hM:X.MOk) (h:RelC X C s.get s.look s.tr s.stop a w) (hk:s.look k=some (.hrow e sz xs a0 c0)) (hp:zth k e sz xs a0 c0 s env obj) :
  ∃ C',RelC X C' (z8 env) (zj ((k,.row e sz xs true)::obj)) s.tr s.stop a w:=by
 obtain ⟨he,ho,hse,hso⟩:=hp;obtain ⟨hob,hc⟩:=h.obj k _ hk
 let l1:=upd s.look k (some (LObj.row e sz xs false))
 have hl1:∀ j o,l1 j=some o->(j=k/\o=.row e sz xs false)\/(j≠k/\s.look j=some o):=λj o hj=>by
  by_cases ej:j=k
  ·subst ej;simp only [l1,zg] at hj;injection hj with hj;exact .inl ⟨rfl,hj.symm⟩
  ·simp only [l1,zt _ _ ej] at hj;exact .inr ⟨ej,hj⟩
 have hrows1:∀ j e1 sz1 xs1 fz1 e' sz' xs' fz',s.look j=some (.row e1 sz1 xs1 fz1)->l1 j=some (.row e' sz' xs' fz')->e'=e1/\sz'=sz1/\xs'.length=xs1.length:=λj e1 sz1 xs1 fz1 e' sz' xs' fz' h1 h2=>by
  rcases hl1 j _ h2 with ⟨rfl,h3⟩|⟨_,h3⟩
  ·rw [hk] at h1;cases h1
  ·rw [h1] at h3;injection h3 with h3;injection h3 with f1 f2 f3 f4;subst f1;subst f2;subst f3;exact ⟨rfl,rfl,rfl⟩
 have keep:∀ q,LV.Sc s.look q->LV.Sc l1 q:=λq hq=>by
  induction hq with
  | p v=>exact .p v
  | g _ ih=>exact .g ih
  | @lp j _ _ _ hj=>exact .lp (by rw [show l1 j=s.look j from zt _ _ (λe=>by subst e;rw [hk] at hj;cases hj)];exact hj)
  | @row j _ _ _ _ _ hj hn=>exact .row (by rw [show l1 j=s.look j from zt _ _ (λe=>by subst e;rw [hk] at hj;cases hj)];exact hj) hn
  | @ep j _ _ _ _ _ _ _ hj hn=>exact .ep (by rw [show l1 j=s.look j from zt _ _ (λe=>by subst e;rw [hk] at hj;cases hj)];exact hj) hn
  | @it j _ _ hj=>exact .it (by rw [show l1 j=s.look j from zt _ _ (λe=>by subst e;rw [hk] at hj;cases hj)];exact hj)
  | @lm j _ _ hj=>exact .lm (by rw [show l1 j=s.look j from zt _ _ (λe=>by subst e;rw [hk] at hj;cases hj)];exact hj)
  | fn _ _ ih1 ih2=>exact .fn ih1 ih2
  | agg _ ih=>exact .agg ih
  | tup _ ih=>exact .tup ih
  | yield=>exact .yield
  | any=>exact .any
 have h1:RelC X C s.get l1 s.tr s.stop a w:=h.desc (λj o hj=>by
   rcases hl1 j o hj with ⟨rfl,rfl⟩|⟨_,h1⟩
   ·exact ⟨_,hk,rfl,rfl⟩
   ·exact ⟨o,h1,rfl,rfl⟩) (λj o hj=>by
   rcases hl1 j o hj with ⟨rfl,rfl⟩|⟨ej,h1⟩
   ·exact ⟨hob,trivial⟩
   ·refine ⟨(h.obj j o h1).look (h.objs j o h1) hrows1,?_⟩;have:=h.objs j o h1;cases o<;>simp only [LObj.Sc] at this ⊢
    exact λi q hq=>keep q (this i q hq)) (λt=>⟨(h.env t).desc hrows1 (h.envs t),keep _ (h.envs t)⟩)
 have h2:=h1.freeze (d:=k) (o:=.row e sz xs false) (zg _ _ _) rfl hM
 let C':Ctx:={ C with B:=λb=>C.B b\/blk C k (.row e sz xs false)=some b }
 let l2:=upd l1 k (some (LObj.row e sz xs true))
 have h2:RelC X C' s.get l2 s.tr s.stop a w:=h2;have hsl:Rep w C'.B (.slice a0 xs.length c0) (.sl sz xs):=by
  refine zek h2 (λ_ h=>h) 1 (v:=.slice a0 xs.length c0) (q:=.row k xs.length) (pre:=xs.length=xs.length) (ks:=[k]) (zcd hc) ?_ rfl (λb ⟨j,hj,o,h3,h4⟩=>?_)
  ·simp only [toPV,l2,zg]
  ·simp only [xaJ] at hj;subst hj;simp only [l2,zg] at h3;injection h3 with h3;subst h3;exact .inr h4
 have was:∀ j o,zj ((k,.row e sz xs true)::obj) j=some o->(j=k/\o=.row e sz xs true)\/(j≠k/\∃ o0,l2 j=some o0/\(o0=o\/zxm (.rs a0 xs.length c0) (.sl sz xs) o0 o)):=λj o hj=>by
  simp only [zj] at hj
  split at hj
  ·rename_i ej;injection hj with hj;exact .inl ⟨ej,hj.symm⟩
  ·rename_i ej;have e2:l2 j=s.look j:=(zt _ _ ej).trans (zt _ _ ej)
   rcases zcM ho j o hj with h3|⟨o0,h3,h4⟩
   ·exact .inr ⟨ej,o,by rw [e2];exact h3,.inl rfl⟩
   ·exact .inr ⟨ej,o0,by rw [e2];exact h3,.inr h4⟩
 have hrc:PV.cells (.rs a0 xs.length c0)=[.rs a0 xs.length c0]:=rfl;have hqc:PV.cells (.sl sz xs)=[.sl sz xs]:=rfl;have hrows:∀ j e1 sz1 xs1 fz1 e' sz' xs' fz',l2 j=some (.row e1 sz1 xs1 fz1)->zj ((k,.row e sz xs true)::obj) j=some (.row e' sz' xs' fz')->e'=e1/\sz'=sz1/\xs'.length=xs1.length:=λj e1 sz1 xs1 fz1 e' sz' xs' fz' f1 f2=>by
  rcases was j _ f2 with ⟨rfl,h3⟩|⟨_,o0,h3,rfl|⟨e3,sz3,ys,ys',fz3,rfl,h5,h6⟩⟩
  ·simp only [l2,zg] at f1;injection f1 with f1;injection f1 with g1 g2 g3 g4;injection h3 with i1 i2 i3 i4;subst g1;subst g2;subst g3;subst i1;subst i2;subst i3;exact ⟨rfl,rfl,rfl⟩
  ·rw [f1] at h3;injection h3 with h3;injection h3 with g1 g2 g3 g4;subst g1;subst g2;subst g3;exact ⟨rfl,rfl,rfl⟩
  ·rw [f1] at h3;injection h3 with h3;injection h3 with g1 g2 g3 g4;injection h5 with i1 i2 i3 i4;subst g1;subst g2;subst g3;subst i1;subst i2;subst i3;exact ⟨rfl,rfl,(zc7 hrc hqc h6).1⟩
 refine ⟨C',h2.desc (λj o hj=>?_) (λj o hj=>?_) (λt=>⟨?_,zbK hse t⟩)⟩
 ·rcases was j o hj with ⟨rfl,rfl⟩|⟨_,o0,h3,rfl|⟨e3,sz3,ys,ys',fz3,rfl,rfl,h6⟩⟩
  ·exact ⟨_,zg _ _ _,rfl,rfl⟩
  ·exact ⟨_,h3,rfl,rfl⟩
  ·exact ⟨_,h3,rfl,rfl⟩
 ·have sc:j≠k->LObj.Sc (zj ((k,.row e sz xs true)::obj)) o:=λej=>by
   simp only [zj,if_neg ej] at hj;exact zaJ hso j o hj
  rcases was j o hj with ⟨rfl,rfl⟩|⟨ej,o0,h3,rfl|⟨e3,sz3,ys,ys',fz3,rfl,rfl,h6⟩⟩
  ·exact ⟨h2.obj j (.row e sz xs true) (zg _ _ _),trivial⟩
  ·exact ⟨(h2.obj j _ h3).look (h2.objs j _ h3) hrows,sc ej⟩
  ·obtain ⟨us,g1,g2,g3,g4⟩:=h2.obj j _ h3;obtain ⟨m1,m2⟩:=zc7 hrc hqc h6;refine ⟨⟨us,by rw [m1];exact g1,⟨by rw [zcw m2];exact g2.1,λi u p hu hp=>?_⟩,λx hx=>?_,g4⟩,trivial⟩
   ·obtain ⟨p0,i1,i2⟩:=zev m2 i p hp;exact zew hsl i2 (g2.2 i u p0 hu i1)
   ·obtain ⟨x0,i1,i2⟩:=zf1 h6 x hx;rw [zcw (zhW hrc hqc i2)];exact g3 x0 i1
 ·rcases zdm he t with h3|⟨p,p',h3,h4,h5⟩|h3
  ·rw [h3];exact (h2.env t).desc hrows (h2.envs t)
  ·rw [h4];have:=h2.env t;rw [h3] at this;exact .p (zn7 hsl h5 (ze this))
  ·rw [h3];exact .any _
end
section
variable {G:Cfg} {cd:AC} {s:St} {Q:zN} {k e sz:Nat} {xs:List PV} {a0:Option Addr} {c0:Nat}
end
def zi9 (k n:Nat) (a0:Option Addr) (c0:Nat):List LV->List LV->Prop
 | [],[]=>True
 | q::r,q'::r'=>((∃ v,q=.p v/\q'=.p v)\/(q=.row k n/\q'=.p (.rs a0 n c0)))/\zi9 k n a0 c0 r r'
 | _,_=>False
theorem zfT {k n:Nat} {a0:Option Addr} {c0:Nat}:∀ {l l':List LV},zi9 k n a0 c0 l l'->l'.length=l.length/\∀ (j:Nat) (q:LV),l[j]?=some q->∃ q',l'[j]?=some q'/\((∃ v,q=.p v/\q'=.p v)\/(q=.row k n/\q'=.p (.rs a0 n c0)))
 | [],[],_=>⟨rfl,λj q h=>by simp at h⟩
 | q::r,q'::r',h=>by
  obtain ⟨h1,h2⟩:=zfT h.2;refine ⟨by simp [h1],λj p hp=>?_⟩
  cases j with
  | zero=>simp at hp;subst hp;exact ⟨q',rfl,h.1⟩
  | succ j=>obtain ⟨x,g1,g2⟩:=h2 j p (by simpa using hp);exact ⟨x,by simpa using g1,g2⟩
 | [],_::_,h=>h.elim
 | _::_,[],h=>h.elim
theorem zr {k j:Nat} {o x:LObj} (h:zj [(k,o)] j=some x):j=k/\x=o:=by
 simp only [zj] at h
 split at h
 ·rename_i e;injection h with h;exact ⟨e,h.symm⟩
 ·cases h
theorem zK (k:Nat) (o:LObj):zj [(k,o)] k=some o:=by simp [zj]
theorem zss {P:Program} {f:FuncId} {args args':List LV} {k e sz:Nat} {xs xs':List PV} {r:PV} (a0:Option Addr) (c0:Nat) (hA:Acts P f args [(k,.row e sz xs false)] (.p r) [(k,.row e sz xs' false)]) (hlen:xs'.length=xs.length)
  (hp:zi9 k xs.length a0 c0 args args'):Acts P f args' [(k,.hrow e sz xs a0 c0)] (.p r) [(k,.hrow e sz xs' a0 c0)]:=by
 obtain ⟨h1,h2,h3,h4⟩:=hA;obtain ⟨hl,hat⟩:=zfT hp;refine ⟨h1,λj o hj=>?_,λj o hj=>?_,λw C vs fr hlv hvs=>?_⟩
 ·obtain ⟨rfl,rfl⟩:=zr hj;exact ⟨trivial,rfl⟩
 ·obtain ⟨rfl,rfl⟩:=zr hj;exact ⟨_,zK _ _,rfl,rfl⟩
 ·obtain ⟨hob,hc⟩:=fr.ob k _ (zK _ _);have fr':zyN w C [(k,.row e sz xs false)]:={
   blt:=fr.blt
   ob:=λj o hj=>by obtain ⟨rfl,rfl⟩:=zr hj;exact hob
   objs:=λj o hj=>by obtain ⟨rfl,rfl⟩:=zr hj;trivial
   fz:=λj o hj=>by obtain ⟨rfl,rfl⟩:=zr hj;rfl
   sep:=λj o b hj hb=>by obtain ⟨rfl,rfl⟩:=zr hj;exact fr.sep j _ b (zK _ _) hb
   dis:=λj j' o o' b hne hj hj' _ _=>by obtain ⟨rfl,_⟩:=zr hj;obtain ⟨rfl,_⟩:=zr hj';exact absurd rfl hne }
  refine Calls.mono (h4 w C vs fr' (by rw [hlv,hl]) λj v q hv hq=>?_) ?_
  ·obtain ⟨q',g1,⟨x,rfl,rfl⟩|⟨rfl,rfl⟩⟩:=hat j q hq
   ·exact .p (ze (hvs j v _ hv g1))
   ·have:=ze (hvs j v _ hv g1);cases this;exact zcd hc
  ·rintro ex w' ⟨u,C',rfl,he⟩;refine ⟨u,C',rfl,?_⟩;have ht:=he.tied k _ _ (zK _ _) (zK _ _) (λ_ _ _ _ _ e=>by cases e) (λ_ _ _ _ _ _ _ _ e1 e2=>by cases e1;cases e2;exact hlen)
   have hbk:∀ C2:Ctx,ztc C2 [(k,.hrow e sz xs a0 c0)]=ztc C2 [(k,.row e sz xs false)]:=λC2=>by
    funext b
    refine propext ⟨λ⟨j,o,g1,g2⟩=>?_,λ⟨j,o,g1,g2⟩=>?_⟩
    ·obtain ⟨rfl,rfl⟩:=zr g1;exact ⟨j,_,zK _ _,g2⟩
    ·obtain ⟨rfl,rfl⟩:=zr g1;exact ⟨j,_,zK _ _,g2⟩
   exact {
    kx:=by rw [hbk];exact he.kx
    fr:={
     blt:=he.fr.blt
     ob:=λj o hj=>by
      obtain ⟨rfl,rfl⟩:=zr hj;exact ⟨he.fr.ob j _ (zK _ _),by rw [hlen];exact (show C'.cur j=C.cur j from ht).trans hc⟩
     objs:=λj o hj=>by obtain ⟨rfl,rfl⟩:=zr hj;trivial
     fz:=λj o hj=>by obtain ⟨rfl,rfl⟩:=zr hj;rfl
     sep:=λj o b hj hb=>by obtain ⟨rfl,rfl⟩:=zr hj;exact he.fr.sep j _ b (zK _ _) hb
     dis:=λj j' o o' b hne hj hj' _ _=>by obtain ⟨rfl,_⟩:=zr hj;obtain ⟨rfl,_⟩:=zr hj';exact absurd rfl hne }
    b1:=he.b1
    b2:=by rw [hbk];exact he.b2
    y:=he.y
    fol:=λj o hj=>by obtain ⟨rfl,rfl⟩:=zr hj;exact ⟨_,zK _ _,rfl,rfl⟩
    tied:=λj o o' _ hj' hnh _=>by obtain ⟨rfl,rfl⟩:=zr hj';exact absurd rfl (hnh _ _ _ _ _)
    bk:=λj o b hj hb=>by
     obtain ⟨rfl,rfl⟩:=zr hj;rw [hbk];exact he.bk j _ b (zK _ _) hb
    rp:=.p (ze he.rp)
    scr:=.p _ }
def nilW:List LV->List LV->Prop
 | [],[]=>True
 | q::r,q'::r'=>(q'=q\/∃ sz,q=.p .nilsl/\q'=.p (.sl sz []))/\nilW r r'
 | _,_=>False
theorem zn4:∀ {l l':List LV},nilW l l'->l'.length=l.length/\∀ (j:Nat) (q':LV),l'[j]?=some q'->∃ q,l[j]?=some q/\(q'=q\/∃ sz,q=.p .nilsl/\q'=.p (.sl sz []))
 | [],[],_=>⟨rfl,λj q h=>by simp at h⟩
 | q::r,q'::r',h=>by
  obtain ⟨h1,h2⟩:=zn4 h.2;refine ⟨by simp [h1],λj p hp=>?_⟩
  cases j with
  | zero=>simp at hp;subst hp;exact ⟨q,rfl,h.1⟩
  | succ j=>obtain ⟨x,g1,g2⟩:=h2 j p (by simpa using hp);exact ⟨x,by simpa using g1,g2⟩
 | [],_::_,h=>h.elim
 | _::_,[],h=>h.elim
theorem zfP {G:Cfg} {cd:AC} {s:St} {Q:zN} (k:Nat) (cs cs':List LV) {fz:Bool} (hk:s.look k=some (.box cs fz)) (hw:nilW cs cs') (h:Run G cd (s.wr k (.box cs' fz)) Q):Run G cd s Q:=by
 intro hG code hc C a w hr;refine h hG code hc C a w ?_;obtain ⟨hl,hat⟩:=zn4 hw;have hlk:∀ j,(s.wr k (.box cs' fz)).look j=if j=k then some (.box cs' fz) else s.look j:=λj=>by
  show zj (oset s.obj k _) j=_;rw [zbl];rfl
 have hrows:∀ j e sz xs fz1 e' sz' xs' fz',s.look j=some (.row e sz xs fz1)->(s.wr k (.box cs' fz)).look j=some (.row e' sz' xs' fz')->e'=e/\sz'=sz/\xs'.length=xs.length:=λj e sz xs fz1 e' sz' xs' fz' h1 h2=>by
  rw [hlk] at h2
  split at h2
  ·cases h2
  ·rw [h1] at h2;injection h2 with h2;injection h2 with f1 f2 f3 f4;subst f1;subst f2;subst f3;exact ⟨rfl,rfl,rfl⟩
 have hfol:∀ j o,s.look j=some o->∃ o',(s.wr k (.box cs' fz)).look j=some o'/\o.Follows o':=λj o hj=>by
  rw [hlk]
  by_cases e:j=k
  ·subst e;rw [hk] at hj;injection hj with hj;subst hj;exact ⟨_,if_pos rfl,trivial⟩
  ·exact ⟨o,by rw [if_neg e];exact hj,o.follows_refl⟩
 refine hr.desc (λj o hj=>?_) (λj o hj=>?_) (λt=>⟨(hr.env t).desc hrows (hr.envs t),(hr.envs t).follows hfol⟩)
 ·rw [hlk] at hj
  split at hj
  ·rename_i e;subst e;injection hj with hj;subst hj;exact ⟨_,hk,rfl,rfl⟩
  ·exact ⟨o,hj,rfl,rfl⟩
 ·rw [hlk] at hj
  split at hj
  ·rename_i e;subst e;injection hj with hj;subst hj;obtain ⟨arr,ty,h1,h2,h3⟩:=hr.obj j _ hk;have hsc:=hr.objs j _ hk;refine ⟨⟨arr,ty,h1,by omega,λi v q' hv hq=>?_⟩,λi q' hq=>?_⟩
   ·obtain ⟨q,g1,rfl|⟨sz,rfl,rfl⟩⟩:=hat i q' hq
    ·exact (h3 i v _ hv g1).desc hrows (hsc i _ g1)
    ·have:=ze (h3 i v _ hv g1);cases this;exact .p .sl0
   ·obtain ⟨q,g1,rfl|⟨sz,rfl,rfl⟩⟩:=hat i q' hq
    ·exact (hsc i _ g1).follows hfol
    ·exact .p _
  ·refine ⟨(hr.obj j o hj).look (hr.objs j o hj) hrows,?_⟩;have:=hr.objs j o hj;cases o<;>simp only [LObj.Sc] at this ⊢
   exact λi q hq=>(this i q hq).follows hfol
end Go.Proofs.YtijgimeokgbifaaGreat
namespace Go.Proofs.YtijgimeokgbifaaGreat
open Go.RowKit
section
variable {X:Fx} {C:Ctx} {g:Nat->LV} {lk:Nat->Option LObj} {tr:List (List PV)} {stop:Bool} {a:Act} {w w':World} {P:Program}
attribute [local irreducible] zbe GB
theorem zls {X:Fx} {ro:Option Nat} {ts0:List (List PV)} {s:St} {Q:zN} {fop:AOpd} {params:List Nat} {asg body:AC} {gf:Nat} {caps0 caps:List PV} {ts:List (List PV)} {Bx:Nat→Prop} (hBx:∀ b,Bx b→b < X.w0.heap.size∧¬X.M b∧¬X.O0 b) (hE:∀ (W:World) (B:Nat→Prop) (cs:List Value),(∀ b,Bx b→W.heap[b]?=X.w0.heap[b]?)→Reps W B cs caps0→Reps W (fun b=>B b∨Bx b) cs caps)
  (hf:fop.ev s=.p (.fn (.func gf) [] caps0)) (hit:zpr P gf caps ts) (hfl:∀ t ∈ ts,zoB t=true)
  (hlen:∀ t ∈ ts,t.length=params.length) (hpar:∀ p ∈ params,p < X.N) (env:List (Nat × LV)) (obj:Nat→List (Nat × LObj)) (T:Nat→List (List PV)) (ok:Nat→Prop) (h0:Cov s ⟨env,obj 0,T 0,false⟩) (hok0:ok 0)
  (hround:∀ (k:Nat) (t:List PV),ts[k]?=some t→ok k→∀ (X':Fx) (ro':Option Nat),X'.N=X.N→Run ⟨P,X',ro',ts0⟩ asg ⟨parEnv params t (lowE env++ghosts env),obj k,T k,false⟩
   (asgK fun s1=>∀ (X':Fx),X'.N=X.N→Run ⟨P,X',ro',ts0⟩ body s1 (roundI env ⟨ghosts env,obj (k+1),T (k+1),false⟩ (ok (k+1)) Q)))
  (hend:ok ts.length→Q .normal ⟨env,obj ts.length,T ts.length,false⟩):Run ⟨P,X,ro,ts0⟩ (.rfunc fop params asg body) s Q:=by
 intro hG code hc C a w hr
 cases code<;>simp only [zC,xac] at hc
 case rangeFunc f0 ps asg0 body0=>
  split at hc
  case h_2=>cases hc
  rename_i f' x' y' hf0 h1 h2
  injection hc with hc;injection hc with e0 e1 e2 e3;subst e0;subst e1;subst e2;subst e3
  have hv:=(zag hr rfl hf0).1
  rw [hf] at hv
  obtain ⟨fs,cs,hfe,hfs,hcs⟩:=zhK (ze hv)
  have hfs0:fs=#[]:=by simpa using hfs.nil_inv
  subst hfs0
  have hr0:RelC X C (z8 env) (zj (obj 0)) (T 0) false a w:=zbp h0 hr
  refine wpIn_rangeFunc (F:=zaa ro) (n:=0) ?_
  intro fn hfn
  obtain ⟨l,mark,W1,db,henter,hl,R1,hap,hlw,hKl,hbel⟩:=zgg (P:=P) hr0 hG.lok fn ps asg0 body0
  obtain ⟨rec,hrec⟩:∃ rec:LoopState→Option Code→Loop,rec=fun st pe=>{ state:=st,pending:=pe,fn,tmps:=a.tmps,params:=ps,assign:=asg0,body:=body0,defers:=db }:=⟨_,rfl⟩
  obtain ⟨ds,hds⟩:∃ ds,ds=mark++a.defers:=⟨_,rfl⟩
  rw [←hds] at R1 hKl
  have hl1:W1.heap[l]?=some (.loop (rec .ready none)):=by rw [hrec];exact hl
  have hpend:∀ st pe,(rec st pe).pending=pe:=fun st pe=>by rw [hrec]
  have hbusy:∀ (jump:Option Code),({ ({ rec .ready none with state:=.busy }:Loop) with state:=if jump.isNone then .ready else .done,pending:=jump }:Loop)=rec (if jump.isNone then .ready else .done) jump:=fun jump=>by rw [hrec]
  let XK:Obj→Fx:=fun o=>kX X ds l o
  let a1:Act:={ tmps:=a.tmps,defers:=[] }
  have R1K:RelC (XK (.loop (rec .ready none))) C (z8 env) (zj (obj 0)) (T 0) false a1 W1:=R1.toK hl1 hap
  have hlX:X.w0.heap.size≤l:=xa8 hr0.kx.size hlw
  have hMK:∀ o,(XK o).MOk:=fun o=>⟨hG.mok.m1,hG.mok.m2⟩
  let J:List (List PV)→(Nat→Prop)→(Nat→Prop)→World→Prop:=fun pre D O W=>∃ k C',pre=ts.take k∧(k≤ts.length∧ok k)∧RelC (XK (.loop (rec .ready none))) C' (z8 env) (zj (obj k)) (T k) false a1 W∧D=zhg (XK (.loop (rec .ready none))) C' (zj (obj k))∧O=ziA l C' (zj (obj k))∧(∀ b,C.B b→C'.B b)
  let Jx:List (List PV)→(Nat→Prop)→World→Prop:=fun pre D W=>∃ (c:Code) (C':Ctx) (s':St),RelC (XK (.loop (rec .done (some c)))) C' (z8 env) s'.look s'.tr s'.stop a1 W∧D=zhg (XK (.loop (rec .done (some c)))) C' s'.look ∧
   ((c=.ret∧Q .ret ⟨env,s'.obj,s'.tr,s'.stop⟩)∨∃ id,c=.exit id∧Q (.exit id) ⟨env,s'.obj,s'.tr,s'.stop⟩)
  have hcl:zbG J Jx:=⟨fun t D O w w' ⟨k,C',g1,g2,g3,g4,g5,g6⟩ hk=>⟨k,C',g1,g2,g3.kept rfl (by rw [←g4];exact hk),g4,g5,g6⟩,
   fun t D w w' ⟨c,C',s',g1,g2,g3⟩ hk=>⟨c,C',s',g1.kept rfl (by rw [←g2];exact hk),g2,g3⟩⟩
  have hK1:∀ b,(∃ p ∈ (XK (.loop (rec .ready none))).K,p.1=b)→b < W1.heap.size∧¬C.B b:=fun b hb=>by
   have:=R1K.marks.at b (.inr hb)
   exact ⟨this.1,this.2.2.1⟩
  have hres:(resolve a.eval (rangeCall f0 l) 0).run P W1=.ok { target:=.fn (.func gf) cs,args:=#[.func (.yield l) #[] #[]] } W1:=by
   have he:a.eval (.const (.func (.yield l) #[] #[]))=.func (.yield l) #[] #[]:=rfl
   simp [resolve,rangeCall,hfe,Deferred.ofValue,he]
  obtain ⟨⟨gfn,gc,hg1,hg2,hg3⟩,hit⟩:=hit
  have hinv:(invoke (.fn (.func gf) cs) #[.func (.yield l) #[] #[]]).run P W1=.ok (.enter gf (.func (.yield l) #[] #[]::cs.toList).toArray) W1:=by
   have h2' : ¬ gfn.name = "runtime.NumGoroutine" := by simpa using hg2
   simp [invoke,callFunc,hg1,h2',hg3]
  refine ⟨l,mark,W1,_,W1,gf,_,W1,henter,hres,fun _ _=>trivial,hinv,fun h=>by simp [zaa,Fence.wide] at h,?_⟩
  have hBxw:∀ b,Bx b→w.heap[b]?=X.w0.heap[b]?:=fun b hb=>hr0.kx.block b (hBx b hb).1 fun e=>e.elim (hBx b hb).2.1 (hBx b hb).2.2
  have hBlt:∀ b,C.B b∨Bx b→b < W1.heap.size:=fun b hb=>hb.elim (fun hb=>R1.blt b hb) fun hb=>xaG (hBx b hb).1 R1.kx.size
  have hBw:∀ b,C.B b∨Bx b→b < w.heap.size:=fun b hb=>hb.elim (fun hb=>hr0.blt b hb) fun hb=>xaG (hBx b hb).1 hr0.kx.size
  have hown:∀ b,ziA l C (zj (obj 0)) b→¬(C.B b∨Bx b)∧zhg (XK (.loop (rec .ready none))) C (zj (obj 0)) b:=fun b hb=>by
   obtain ⟨k1,k2⟩:=zkx R1K ⟨_,xar,rfl⟩ b hb
   refine ⟨fun h=>h.elim k1 fun hx=>?_,k2⟩
   obtain ⟨x1,x2,x3⟩:=hBx b hx
   rcases hb with ⟨k,o,hk,hof,hbk⟩|rfl|hb
   ·exact ((R1.sep k o b hk hbk).1 hof).elim (fun e=>by omega) x2
   ·omega
   ·exact (R1.oold b hb).elim (fun e=>by omega) x3
  have hcall:=hit W1 (fun b=>C.B b∨Bx b) l cs.toList J Jx (zhg (XK (.loop (rec .ready none))) C (zj (obj 0))) (ziA l C (zj (obj 0))) hBlt ((hE w C.B cs.toList hBxw hcs).mono (fun _ h=>h) fun b hb=>hbel.block b (hBw b hb))
   (zoS R1K) hown hcl ?_ ⟨0,C,by simp,⟨xa5 _,hok0⟩,R1K,rfl,rfl,fun _ h=>h⟩
  ·-- behind the iterator
   have h4:CallsIn Fence.wide (0 - 1) P gf (.func (.yield l) #[] #[]::cs.toList).toArray W1 _:=callsIn_wide.2 hcall
   have hKne:∀ p ∈ zea ds++X.K,p.1≠l:=hKl
   have h5:=CallsIn.mono h4 (R':=rangePost (zaa ro) 0 P l (QQ ⟨P,X,ro,ts0⟩ Q) { a with defers:=ds }) ?_
   ·rw [←hds];exact h5
   rintro e w' ⟨⟨v,rfl⟩,(⟨D',O',k,C',g1,g2,g3,_,_,_⟩|⟨pre,D',c,C',s',g1,_,g3⟩)⟩
   ·have hk:k=ts.length:=by
     have:=congrArg List.length g1
     rw [xai] at this
     have:=g2.1
     omega
    subst hk
    have hlw':=((g3.marks:KOk _ _ _ _) (l,_) xar).1
    have hend2:=run_endLoop (P:=P) hlw' (by rw [hrec];simp)
    rw [hpend] at hend2
    refine ⟨none,_,hend2,?_⟩
    exact ⟨⟨env,obj ts.length,T ts.length,false⟩,C',RelC.ofK (g3.setK hKne (.inl hlX)) R1.marks,hend g2.2⟩
   ·have hlw':=((g1.marks:KOk _ _ _ _) (l,_) xar).1
    have hend2:=run_endLoop (P:=P) hlw' (by rw [hrec];simp)
    rw [hpend] at hend2
    refine ⟨some c,_,hend2,?_⟩
    rcases g3 with ⟨rfl,hq⟩|⟨id,rfl,hq⟩
    ·exact wpIn_ret ⟨⟨env,s'.obj,s'.tr,s'.stop⟩,C',RelC.ofK (g1.setK hKne (.inl hlX)) R1.marks,hq⟩
    ·exact wpIn_exit ⟨⟨env,s'.obj,s'.tr,s'.stop⟩,C',RelC.ofK (g1.setK hKne (.inl hlX)) R1.marks,hq⟩
  rintro pre t post D O W Bi0 args hts ⟨k,C',rfl,⟨hk,hokk⟩,R,rfl,rfl,hCB⟩ hBi0 hargs0
  obtain ⟨Bi,hBid⟩:∃ Bi:Nat→Prop,Bi=fun _=>False:=⟨_,rfl⟩
  have hBi:∀ b,Bi b→b < W.heap.size∧¬ziA l C' (zj (obj k)) b∧(C.B b∨W1.heap.size≤b):=fun b hb=>by rw [hBid] at hb;exact hb.elim
  have htk:ts[k]?=some t:=by
   have:(ts.take k).length=k:=by rw [xai];omega
   rw [hts,xax (by omega),this,xcF]
   rfl
  have htl:t.length=ps.toList.length:=hlen t (xad htk)
  have hargs:Reps W Bi args t:=⟨hargs0.1,fun j v p hv hp=>zez (hargs0.2 j v p hv hp) (zdw (hfl t (xad htk)) j p hp)⟩
  have wk:∀ {D' O':Nat→Prop} {W':World},Rnd (zhg (XK (.loop (rec .ready none))) C' (zj (obj k))) (ziA l C' (zj (obj k))) Bi D' O' W W'→Rnd (zhg (XK (.loop (rec .ready none))) C' (zj (obj k))) (ziA l C' (zj (obj k))) Bi0 D' O' W W':=fun h=>⟨h.kx,fun b hb=>(h.d1 b hb).imp id (Or.imp id fun e=>by rw [hBid] at e;exact e.elim),h.d2,h.o1,h.o2⟩
  have hlW:=((R.marks:KOk _ _ _ _) (l,_) xar).1
  have hy:=run_yield (P:=P) (args:=args.toArray) hlW (by rw [hrec];simp;rw [hargs.1,htl];simp)
  have hBo:∀ b,Bi b→X.Bo b∨X.no≤b:=fun b hb=>(hBi b hb).2.2.elim (R1.borg b) fun e=>.inr (by have:=R1.no0;have:=R1.kx.size;omega)
  have hBk:∀ p ∈ (XK (.loop (rec .ready none))).K,¬Bi p.1:=fun p hp hb=>by
   obtain ⟨k1,k2⟩:=hK1 p.1 ⟨p,hp,rfl⟩
   exact (hBi _ hb).2.2.elim k2 fun e=>by omega
  have E:=R.enter (X:=XK (.loop (rec .ready none))) (Bi:=Bi) rfl rfl (fun b hb=>⟨(hBi b hb).1,(hBi b hb).2.1,hBo b hb⟩) hBk
  have E2:=RelC.puts (ds:=[]) ps.toList args t _ _ E (hargs.mono (fun b hb=>.inr hb) fun _ _=>rfl) htl.symm (fun p hp=>hpar p hp)
  have hfold:((rec .ready none).params.zip args.toArray).foldl (fun tmps (t,a)=>tmps.setIfInBounds t a) (rec .ready none).tmps=(ps.toList.zip args).foldl (fun tm x=>tm.setIfInBounds x.1 x.2) a.tmps:=by
   rw [hrec,←Array.foldl_toList,Array.toList_zip]
  have hr1:(rec .ready none).fn=fn:=by rw [hrec]
  have hr2:(rec .ready none).assign=asg0:=by rw [hrec]
  have hr3:(rec .ready none).body=body0:=by rw [hrec]
  have hy2:(Instr.yield l args.toArray).run P W=.ok (.round l fn ((ps.toList.zip args).foldl (fun tm x=>tm.setIfInBounds x.1 x.2) a.tmps) asg0 body0) W:=by
   rw [←hfold,←hr1,←hr2,←hr3];exact hy
  refine ⟨fn,_,asg0,body0,hy2,roundIn_of_wpIn trivial ?_⟩
  have hyok:ts0=[]∨(zdG P X.y X.Bo X.no X.J X.Jx ts0∧zbG X.J X.Jx):=hG.yok
  have hGr:∀ r:Loop,Cfg.Ok ⟨P,{ rX (XK (.loop (rec .ready none))) a1 C' (zj (obj k)) Bi l W with K:=(l,.loop r)::(zea ds++X.K) },some l,ts0⟩:=fun r=>zj8 (X:=XK (.loop (rec .ready none))) hyok (hMK _) R
  have hA:=hround k t htk hokk { rX (XK (.loop (rec .ready none))) a1 C' (zj (obj k)) Bi l W with K:=(l,.loop (rec .ready none))::(zea ds++X.K) } (some l) rfl (hGr _) asg0 h1 _ { tmps:=(ps.toList.zip args).foldl (fun tm x=>tm.setIfInBounds x.1 x.2) a.tmps,defers:=[] } W E2
  have hfin:∀ (jump:Option Code) (C3:Ctx) (lk3:Nat→Option LObj) (tr3:List (List PV)) (st3:Bool) (a3:Act) (W3:World),RelC { rX (XK (.loop (rec .ready none))) a1 C' (zj (obj k)) Bi l W with K:=(l,.loop { rec .ready none with state:=.busy })::(zea ds++X.K) } C3 (z8 (ghosts env)) lk3 tr3 st3 a3 W3 →
    ∃ W4,(Instr.endRound l jump).run P W3=.ok (.bool jump.isNone) W4∧RelC (XK (.loop (rec (if jump.isNone then .ready else .done) jump))) C3 (z8 env) lk3 tr3 st3 a1 W4 ∧
     Rnd (zhg (XK (.loop (rec .ready none))) C' (zj (obj k))) (ziA l C' (zj (obj k))) Bi (zhg (XK (.loop (rec (if jump.isNone then .ready else .done) jump))) C3 lk3) (ziA l C3 lk3) W W4∧(∀ b,C'.B b→C3.B b):=fun jump C3 lk3 tr3 st3 a3 W3 h3=>by
   have hm3:=h3.marks.k
   have hl3:=(hm3 (l,_) xar).1
   have hend3:=run_endRound (P:=P) jump hl3
   have h4:=h3.setK (o':=.loop (rec (if jump.isNone then .ready else .done) jump)) hKl (.inr (.inr rfl))
   obtain ⟨k1,k2,k3⟩:=RelC.leave (X:=XK (.loop (rec .ready none))) (hMK _) rfl R rfl hlX (fun b hb hlt=>(hBi b hb).2.2.elim (fun e=>R1.bold b e hlt) fun e=>by have:=R1.kx.size;have:b < X.w0.heap.size:=hlt;omega) h4
   rw [hbusy] at hend3
   exact ⟨_,hend3,k1,k2,k3⟩
  refine wpIn_mono (F:=zaa (some l)) hA ?_
  rintro e aa Wa ⟨sa,Ca,hra,hqa⟩
  cases e with
  | normal=>
   have hla:=(hra.marks.k (l,_) xar).1
   refine ⟨_,run_beginRound hla (by rw [hrec]),?_⟩
   have hrb:=RelC.setK (X:=rX (XK (.loop (rec .ready none))) a1 C' (zj (obj k)) Bi l W) (o:=.loop (rec .ready none)) (r:=zea ds++X.K) hra (o':=.loop { rec .ready none with state:=.busy }) hKl (.inr (.inr rfl))
   have hBod:=hqa { rX (XK (.loop (rec .ready none))) a1 C' (zj (obj k)) Bi l W with K:=(l,.loop { rec .ready none with state:=.busy })::(zea ds++X.K) } rfl (hGr _) body0 h2 _ aa _ hrb
   refine wpIn_mono (F:=zaa (some l)) hBod ?_
   rintro e a3 W3 ⟨s3,C3,h3,hq3⟩
   cases e with
   | normal=>
    have h3':RelC _ C3 (z8 (ghosts env)) (zj (obj (k+1))) (T (k+1)) false a3 W3:=zbp hq3.1 h3
    obtain ⟨W4,g1,g2,g3,g4⟩:=hfin none C3 _ _ _ a3 W3 h3'
    refine ⟨_,W4,g1,true,rfl,?_⟩
    rw [if_pos rfl]
    have hk1:k+1≤ts.length:=(xaa.1 htk).1
    exact ⟨_,_,⟨k+1,C3,by rw [xaK,htk];rfl,⟨hk1,hq3.2⟩,g2,rfl,rfl,fun b hb=>g4 b (hCB b hb)⟩,wk g3⟩
   | exit id=>
    have h3':RelC _ C3 (z8 (ghosts env)) s3.look s3.tr s3.stop a3 W3:=zbp hq3.1 h3
    obtain ⟨W4,g1,g2,g3,g4⟩:=hfin (some (.exit id)) C3 _ _ _ a3 W3 h3'
    refine ⟨_,W4,g1,false,rfl,?_⟩
    rw [if_neg (by simp)]
    exact ⟨_,⟨.exit id,C3,s3,g2,rfl,.inr ⟨id,rfl,hq3.2⟩⟩,⟨(wk g3).kx,(wk g3).d1,(wk g3).d2,fun _ h=>h.elim,fun _ h=>h.elim⟩⟩
   | ret=>
    have h3':RelC _ C3 (z8 (ghosts env)) s3.look s3.tr s3.stop a3 W3:=zbp hq3.1 h3
    obtain ⟨W4,g1,g2,g3,g4⟩:=hfin (some .ret) C3 _ _ _ a3 W3 h3'
    refine ⟨_,W4,g1,false,rfl,?_⟩
    rw [if_neg (by simp)]
    exact ⟨_,⟨.ret,C3,s3,g2,rfl,.inl ⟨rfl,hq3.2⟩⟩,⟨(wk g3).kx,(wk g3).d1,(wk g3).d2,fun _ h=>h.elim,fun _ h=>h.elim⟩⟩
   | goto l=>exact hq3.elim
   | panic c=>exact hq3.elim
   | outgrown=>exact hq3.elim
  | exit id=>exact hqa.elim
  | ret=>exact hqa.elim
  | goto l=>exact hqa.elim
  | panic c=>exact hqa.elim
  | outgrown=>exact hqa.elim
 all_goals first|(cases hc;done)|(obtain ⟨_,_,hc⟩:=hc;cases hc;done)|(split at hc<;>cases hc;done)
end
end Go.Proofs.YtijgimeokgbifaaGreat
namespace Go.Proofs.YtijgimeokgbifaaGreat
open Go.RowKit
def lit1 (k n:Nat) (r:PV) (q:LV) (p:PV):Prop:=q=.p p\/(q=.row k n/\p=r)
def zuN (k n:Nat) (r:PV):List LV->List PV->Prop
 | [],[]=>True
 | q::qs,p::ps=>lit1 k n r q p/\zuN k n r qs ps
 | _,_=>False
def lit2 (k n:Nat) (r:PV) (q:LV) (p:PV):Prop:=lit1 k n r q p\/∃ cs ps,q=.agg cs/\p=.agg ps/\zuN k n r cs ps
def zuM (k n:Nat) (r:PV):List LV->List PV->Prop
 | [],[]=>True
 | q::qs,p::ps=>lit2 k n r q p/\zuM k n r qs ps
 | _,_=>False
section
variable {X:Fx} {C:Ctx} {g:Nat->LV} {look:Nat->Option LObj} {tr:List (List PV)} {stop:Bool} {a:Act} {w:World} {P:Program} {s:St} {k e sz n c0:Nat} {xs:List PV} {a0:Option Addr}
theorem zex (hc:∀ fz,look k=some (.row e sz xs fz)->C.cur k=.slice a0 n c0) {fz:Bool} (hk:look k=some (.row e sz xs fz)) (hn:n=xs.length) {v:Value} {q:LV} {p:PV} (h:lit1 k n (.rs a0 n c0) q p) (hq:RepL w C look v q):Rep w C.B v p:=by
 rcases h with rfl|⟨rfl,rfl⟩
 ·exact ze hq
 ·rw [zcr hq _ _ _ _ hk hn.symm,hc _ hk];exact .rs _ _ _
theorem ze5 {r:PV}:∀ {cs:List LV} {ps:List PV},zuN k n r cs ps->ps.length=cs.length/\∀ (j:Nat) (q:LV) (p:PV),cs[j]?=some q->ps[j]?=some p->lit1 k n r q p
 | [],[],_=>⟨rfl,λj q p h=>by simp at h⟩
 | q::qs,p::ps,h=>by
  obtain ⟨h1,h2⟩:=ze5 h.2;refine ⟨by simp [h1],λj x y hx hy=>?_⟩
  cases j with
  | zero=>simp at hx hy;subst hx;subst hy;exact h.1
  | succ j=>exact h2 j x y (by simpa using hx) (by simpa using hy)
 | [],_::_,h=>h.elim
 | _::_,[],h=>h.elim
theorem zhY (hc:∀ fz,look k=some (.row e sz xs fz)->C.cur k=.slice a0 n c0) {fz:Bool} (hk:look k=some (.row e sz xs fz)) (hn:n=xs.length):∀ {vs:List Value} {qs:List LV} {ps:List PV},zuM k n (.rs a0 n c0) qs ps->RepsL w C look vs qs->Reps w C.B vs ps
 | vs,[],[],_,hr=>by
  have:vs=[]:=xaq (by simpa using hr.1)
  subst this;exact .nil
 | [],q::qs,_,_,hr=>absurd hr.1 (by simp)
 | v::vs,q::qs,p::ps,h,hr=>by
  refine .cons ?_ (zhY hc hk hn h.2 ⟨by simpa using hr.1,λj u x hu hx=>hr.2 (j+1) u x (by simpa using hu) (by simpa using hx)⟩)
  have hq:=(hr.2 0 v q rfl rfl).1
  rcases h.1 with h1|⟨cs,ps',rfl,rfl,h1⟩
  ·exact zex hc hk hn h1 hq
  ·obtain ⟨l1,l2⟩:=ze5 h1;cases hq with
   | agg g1 g2=>
    refine .agg (by omega) λj u x hu hx=>?_
    have hj:j < cs.length:=by rw [<-l1];exact (xaa.1 hx).1
    exact zex hc hk hn (l2 j _ x (xab hj) hx) (g2 j u _ hu (xab hj))
 | _,[],_::_,h,_=>h.elim
 | _::_,_::_,[],h,_=>h.elim
theorem zno (h:RelC X C g look tr stop a w) {fz:Bool} (hk:look k=some (.row e sz xs fz)):∃ a0 c0,C.cur k=.slice a0 xs.length c0/\Rep w (λb=>C.B b\/blk C k (.row e sz xs fz)=some b) (.slice a0 xs.length c0) (.sl sz xs):=by
 have hcur:∃ a0 c0,C.cur k=.slice a0 xs.length c0:=by
  obtain ⟨us,how,_⟩:=h.obj k _ hk
  rcases how.2 with ⟨f1,f2⟩|⟨gb,cap,cur,f1,_⟩
  ·exact ⟨none,0,by rw [f1,f2]⟩
  ·exact ⟨_,_,f1⟩
 obtain ⟨a0,c0,hc⟩:=hcur;refine ⟨a0,c0,hc,?_⟩;refine zek h (λ_ h=>.inl h) 1 (v:=.slice a0 xs.length c0) (q:=.row k xs.length) (pre:=xs.length=xs.length) (ks:=[k]) (zcd hc) ?_ rfl (λb ⟨j,hj,o,h3,h4⟩=>?_)
 ·simp only [toPV,hk]
 ·simp only [xaJ] at hj;subst hj;rw [hk] at h3;injection h3 with h3;subst h3;exact .inr h4
theorem zhy {f:Nat} {d:Option Nat} {args:List AOpd} {af:List Nat} {fz:Bool} {ps:Option Addr->Nat->List PV} {r:PV} (hcn:zJ (zd s args)=true) (hk:s.look k=some (.row e sz xs fz))
  (hf:∀ a0 c0,zv4 P f (λw Bx=>Rep w Bx (.slice a0 xs.length c0) (.sl sz xs)) (ps a0 c0) r) (hl:∀ a0 c0,zuM k xs.length (.rs a0 xs.length c0) (uns (zd s args)) (ps a0 c0)):zdH P s ⟨d,.call f,args,none,af⟩ λs'=>s'=s.set d (.p r):=by
 intro X C a w ops oper ro K Q hc hM h hK;have hr:=zal hc;have hdst:∀ k,d=some k->k < X.N:=λk hk=>hr.hdst k (by rw [<-hr.hd];exact hk)
 have hgo:gOf s (none:Option (Nat × Bool))=some true:=rfl;rw [zO h hr hgo,if_pos rfl];obtain ⟨a1,c1,hcur,hrow⟩:=zno h hk;obtain ⟨hcall,hpure⟩:=hf a1 c1;obtain ⟨oargs,ts,hop,hl0⟩:=zbU hr.hc;have hins:=zao h rfl hcn;have hrs:=z9 hl0 (λ_ h=>h) hins
 have e0:args.map (λy=>(y.ev s).un)=uns (zd s args):=by simp [uns,zd]
 rw [e0] at hrs;have hreps:=zhY (C:=C) (look:=s.look) (λ_ _=>hcur) hk rfl (hl a1 c1) hrs
 refine zbI hop hcall (Calls.mono (hpure w C.B _ _ h.blt (λb hb=>?_) hrow hreps) ?_)
 ·rcases hb with hb|hb
  ·exact h.blt b hb
  ·exact (h.sep k _ b hk hb).2.1
 ·rintro ex w' ⟨u,rfl,hbel,hu⟩;refine ⟨u,rfl,?_⟩;rw [<-hr.hd];have h2:=h.grow hbel (λb=>C.B b\/(w.heap.size<=b/\b < w'.heap.size)) (λ_ h=>.inl h) (λb hb=>hb)
  exact hK _ _ _ _ rfl (by rw [(z7 _ _ _).1,(z7 _ _ _).2];exact zan h2 hdst (.p hu) (.p r))
end
def sufOk (n:Nat):List RO->Bool
 | []=>true
 | o::r=>((List.range n).all λi=>o.after.contains i) && (o.after.all λe=>decide (e < n)) && sufT n r
where sufT (n:Nat):List RO->Bool
 | []=>true
 | o::r=>o.after.contains n && (o.after.all λe=>decide (e < n+1)) && sufT (n+1) r
theorem zmQ:∀ {l:List RO} {n:Nat},sufOk.sufT n l=true->∀ j o,l[j]?=some o->n+j ∈ o.after/\∀ e ∈ o.after,e < n+j+1
 | [],_,_,j,o,h=>by simp at h
 | x::r,n,h,j,o,hj=>by
  simp only [sufOk.sufT,xap,xaB,decide_eq_true_eq] at h;cases j with
  | zero=>simp at hj;subst hj;exact ⟨by simpa using h.1.1,λe he=>by have:=h.1.2 e he;omega⟩
  | succ j=>
   have:=zmQ h.2 j o (by simpa using hj)
   rw [show n+(j+1)=n+1+j by omega];exact this
section
variable {P:Program} {ts:List (List PV)} {ro:Option Nat} {X:Fx} {ops:Array Oper}
theorem zpW (hM:X.MOk) {L:List RO} (hcomp:zaH P X.N ops ops.toList=some L) {QX:Exit->Act->World->Prop} {K:St->List Ft->Prop} (hK:∀ s acc,K s acc->∀ C a w,RelC X C s.get s.look s.tr s.stop a w->QX .normal a w) :
  ∀ (l:List RO) (b:Nat) (s:St) (acc:List Ft),L.drop b=l->b<=L.length ->
  (∀ j o,b<=j->L[j]?=some o->(∀ e ∈ o.after,e < j)/\(b < j->j - 1 ∈ o.after))->ts=[]->zh P ts false K l s acc ->
  ∀ (fuel:Nat) (listed:Array Bool) (C:Ctx) (a:Act) (w:World),listed.size=ops.size->zg3 listed ops.size<=fuel->(∀ j,listed.getD j false=decide (j < b))->RelC X C s.get s.look s.tr s.stop a w->wpAnyIn (zaa ro) 0 P .any ops QX fuel listed a w:=by
 obtain ⟨hcl,hcg⟩:=zaV hcomp;have hn:L.length=ops.size:=by rw [<-hcl];simp
 intro l
 induction l with
 | nil=>
  intro b s acc hLb hbL hord hts hrun fuel listed C a w hs hle hlisted hr;have hLe:L.length<=b:=by have:=congrArg List.length hLb;simp at this;omega
  have hall:∀ i,i < ops.size->listed.getD i false=true:=λi hi=>by rw [hlisted];simp;omega
  have hno:Region.ready .any ops listed=[]:=xbB.2 λi hi=>by
   obtain ⟨oper,h1,h2,_⟩:=zaZ.1 hi;have hlt:=(xa1.1 h1).1;have:=hall i hlt;rw [xan,xav (by omega)] at this h2
   simp only [xa4] at this h2;rw [this] at h2;cases h2
  have hq:=hK s acc hrun C a w hr;cases fuel with
  | zero=>exact ⟨hno,hq⟩
  | succ fuel=>exact ⟨λ_=>hq,λi hi=>by rw [hno] at hi;cases hi⟩
 | cons o r ih=>
  intro b s acc hLb hbL hord hts hrun fuel listed C a w hs hle hlisted hr;have hLo:L[b]?=some o:=by
   have:(L.drop b)[0]?=some o:=by rw [hLb];rfl
   rw [xaS] at this;simpa using this
  have hbl:b < L.length:=(xaa.1 hLo).1;have hoper:=xav (xs:=ops) (i:=b) (by omega)
  obtain ⟨o',g1,hco⟩:=hcg b ops[b] (by simpa using hoper)
  rw [hLo] at g1;injection g1 with g1;subst g1;have hready:∀ i,i ∈ Region.ready .any ops listed↔i=b:=λi=>by
   rw [zaZ]
   constructor
   ·rintro ⟨oper,h1,h2,h3⟩;have hlt:=(xa1.1 h1).1;have hun:listed.getD i false=false:=by
     rw [xan,xav (by omega)] at h2 ⊢
     exact h2
    rw [hlisted] at hun;simp at hun;obtain ⟨oi,k1,k2⟩:=hcg i oper (by simpa using h1)
    have haf:=(zcW (zal k2) (listed:=λe=>listed.getD e false)).1 h3
    by_cases e:i=b
    ·exact e
    ·have:=haf _ ((hord i oi hun k1).2 (by omega))
     simp only [hlisted] at this;simp at this
     omega
   ·rintro rfl;refine ⟨_,hoper,?_,(zcW (zal hco) (listed:=λe=>listed.getD e false)).2 λe he=>?_⟩
    ·have:listed.getD i false=false:=by rw [hlisted];simp
     rw [xan,xav (by omega)] at this ⊢
     exact this
    ·show listed.getD e false=true;rw [hlisted];simp;exact (hord i _ (xaj _) hLo).1 e he
  have hset:∀ j,(listed.setIfInBounds b true).getD j false=decide (j < b+1):=λj=>by
   rw [zha (by omega)]
   by_cases e:j=b
   ·subst e;simp
   ·rw [if_neg e,hlisted];simp only [decide_eq_decide];omega
  have hleft:zg3 (listed.setIfInBounds b true) ops.size+1=zg3 listed ops.size:=zg2 (by omega) hs (by rw [hlisted];simp)
  have hnext:∀ s' acc',zh P ts false K r s' acc'->∀ C' a' w' (f:Nat),zg3 (listed.setIfInBounds b true) ops.size<=f->RelC X C' s'.get s'.look s'.tr s'.stop a' w'->wpAnyIn (zaa ro) 0 P .any ops QX f (listed.setIfInBounds b true) a' w':=λs' acc' hr' C' a' w' f hf hrel=>
   ih (b+1) s' acc' (by rw [<-xbL,hLb];rfl) (by omega) (λj oj hj hLj=>⟨(hord j oj (by omega) hLj).1,λ_=>(hord j oj (by omega) hLj).2 (by omega)⟩) hts hr' f _ C' a' w' (by simpa using hs) hf hset hrel
  cases fuel with
  | zero=>omega
  | succ fuel=>
   refine ⟨λhno=>?_,λi hi=>?_⟩
   ·have:=(hready b).2 rfl;rw [hno] at this;cases this
   ·have:=(hready i).1 hi;subst this;unfold wpOpIn;rw [hoper];have hle':zg3 (listed.setIfInBounds i true) ops.size<=fuel:=by omega
    rcases hrun with ⟨v,wr,h1,h2⟩|⟨t,ks,h1,h2⟩|⟨_,ng,R,h1,h2⟩|⟨_,S,h1,h2⟩
    ·exact zb3 h1 hco rfl hM hr λC' a' w' h'=>hnext _ _ h2 C' a' w' fuel hle' (by rw [(z7 _ _ _).1,(zbf _ _).1,(z7 _ _ _).2,(zbf _ _).2];exact h')
    ·obtain ⟨_,_,_,_,_,_,_,_,_,_,_,post,hts'⟩:=h1;rw [hts] at hts';simp at hts'
    ·exact zc9 h1 hco rfl hr λb hb C' a' w' h'=>hnext _ _ (h2 b hb) C' a' w' fuel hle' (by rw [(z7 _ _ _).1,(z7 _ _ _).2];exact h')
    ·exact h1 X C a w ops _ ro _ _ hco hM hr λs' C' a' w' g1 g2=>hnext _ _ (h2 s' g1) C' a' w' fuel hle' g2
theorem znd {G:Cfg} {s:St} {Q:zN} {l:List RO} (hm:G.P.follows .mixedOrders=true) (hts:G.ts=[]) (n:Nat) (hnl:n<=l.length) (hsuf:sufOk n (l.drop n)=true)
  (h:zh G.P G.ts true (λs1 acc=>zca acc.reverse=true/\zh G.P G.ts false (λs2 _=>Q .normal s2) (l.drop n) s1 []) (l.take n) s []):Run G (.ops true l) s Q:=by
 intro hG code hc C a w hr;cases code<;>simp only [zC,xac] at hc
 case region id ops draw=>
  obtain ⟨l',h1,hc⟩:=hc;injection hc with e1 e2;subst e1;subst e2;have hb:Below w.heap.size w { w with drawn:=w.drawn+1 }:=⟨rfl,rfl,rfl,xaj _,λ_ _=>rfl⟩
  have hr1:=hr.grow hb C.B (λ_ h=>h) (λb hb=>.inl hb)
  refine wpIn_region_any hm ?_;obtain ⟨hcl,hcg⟩:=zaV h1;have hn:l'.length=ops.size:=by rw [<-hcl];simp
  rcases zcp h with ⟨rs,s1,hch,hok,hQ⟩|⟨l1,o,l2,rs,s1,t,ks,he,hch,hyo,hrest⟩
  ·have hseg:∀ (j:Nat) (x:Rec),rs[j]?=some x->(((rs.map Rec.ft).reverse++[]).reverse)[0+j]?=some x.ft:=λj x hx=>by simp [hx]
   have hlen:(l'.take n).length=n:=by rw [xai];omega
   have hord:∀ j o,n<=j->l'[j]?=some o->(∀ e ∈ o.after,e < j)/\(n < j->j - 1 ∈ o.after)/\(j=n->∀ i,i < n->i ∈ o.after):=λj o hj hLj=>by
    have hd:(l'.drop n)[j - n]?=some o:=by rw [xaS,show n+(j - n)=j by omega];exact hLj
    cases hdn:l'.drop n with
    | nil=>rw [hdn] at hd;simp at hd
    | cons x r=>
     rw [hdn] at hsuf hd;simp only [sufOk,xap,xaB,decide_eq_true_eq,xaV] at hsuf
     by_cases e:j=n
     ·subst e;simp at hd;subst hd;exact ⟨hsuf.1.2,λh=>by omega,λ_ i hi=>by simpa using hsuf.1.1 i hi⟩
     ·have hj2:r[j - n - 1]?=some o:=by
       rw [show j - n=(j - n - 1)+1 by omega,xbO] at hd;exact hd
      obtain ⟨k1,k2⟩:=zmQ hsuf.2 _ _ hj2;exact ⟨λe he=>by have:=k2 e he;omega,λ_=>by rw [show j - 1=n+(j - n - 1) by omega];exact k1,λe'=>absurd e' e⟩
   have hall:∀ (S:Nat->Bool),(∀ j o,l'[j]?=some o->S j=true->∀ e ∈ o.after,S e=true)->∀ (d i:Nat) (o:RO),i=n+d->l'[i]?=some o->(∀ e ∈ o.after,S e=true)->∀ j,j < n->S j=true:=λS hS d=>by
    induction d with
    | zero=>intro i o hi hLi haf j hj;exact haf j ((hord i o (by omega) hLi).2.2 (by omega) j hj)
    | succ d ihd=>
     intro i o hi hLi haf j hj;have hp:=haf _ ((hord i o (by omega) hLi).2.1 (by omega))
     have hlt:i - 1 < l'.length:=by have:=(xaa.1 hLi).1;omega
     exact ihd (i - 1) _ (by omega) (xab hlt) (hS (i - 1) _ (xab hlt) hp) j hj
   refine zhe (b:=0) (L:=l') (l:=l'.take n) hG.mok hch (zdZ hok hseg) h1 (λj o hj=>?_) (by omega) (λS hS _ i o hi hLi haf j hj=>hall S hS (i - n) i o (by omega) hLi haf j (by omega))
    (λfuel listed C a w g1 g2 g3 g4=>?_) ops.size _ a _ (by simp) ?_ (λj hj=>by omega) (λj hj=>?_) (λj o hj hl=>?_) ⟨C,s,hr1,rfl,rfl,λk=>(zb1 λj hj=>?_).symm,λk=>(zb1 λj hj=>?_).symm⟩
   ·rw [xaI] at hj
    split at hj
    ·rw [xbc];exact hj
    ·cases hj
   ·exact zpW hG.mok h1 (K:=λs2 _=>Q .normal s2) (λs2 acc hq C a w hr=>⟨s2,C,hr,hq⟩) (l'.drop n) n s1 [] rfl hnl (λj o hj hLj=>⟨(hord j o hj hLj).1,(hord j o hj hLj).2.1⟩) hts hQ fuel listed C a w g1 g2 (λj=>by rw [g3,hlen,xbc]) g4
   ·unfold zg3;exact xa8 (List.countP_le_length) (by simp)
   all_goals
    have hfalse:∀ j,(Array.replicate ops.size false).getD j false=false:=λj=>by
     rw [xan]
     by_cases e:j < ops.size
     ·rw [xav (by simpa using e)];simp
     ·rw [Array.getElem?_eq_none (by simpa using e)];simp
   ·exact hfalse j
   ·rw [hfalse] at hl;cases hl
   ·exact hfalse j
   ·exact hfalse j
  ·obtain ⟨_,_,_,_,_,_,_,_,_,_,_,post,hts'⟩:=hyo;rw [hts] at hts';simp at hts'
 all_goals first|(cases hc;done)|(obtain ⟨_,_,hc⟩:=hc;cases hc;done)|(split at hc<;>cases hc;done)
end
theorem znn {P:Program} {K:St->List Ft->Prop} {o:RO} {r:List RO} {s:St} {acc:List Ft} (h:zh P [] false K (o::r) s acc):zdH P s o λs'=>zh P [] false K r s' acc:=by
 rcases h with ⟨v,wr,h1,h2⟩|⟨t,ks,h1,h2⟩|⟨_,ng,R,h1,h2⟩|⟨_,S,h1,h2⟩
 ·exact λX C a w ops oper ro K' Q hc hM hr hK=>zlj h1 X C a w ops oper ro K' Q hc hM hr λs' C' a' w' e hr'=>hK s' C' a' w' (by rw [e];exact h2) hr'
 ·obtain ⟨_,_,_,_,_,_,_,_,_,_,_,post,hts'⟩:=h1;simp at hts'
 ·exact λX C a w ops oper ro K' Q hc hM hr hK=>zc9 h1 hc rfl hr λb hb C' a' w' hr'=>hK _ C' a' w' (h2 b hb) (by rw [(z7 _ _ _).1,(z7 _ _ _).2];exact hr')
 ·exact λX C a w ops oper ro K' Q hc hM hr hK=>h1 X C a w ops oper ro K' Q hc hM hr λs' C' a' w' e hr'=>hK s' C' a' w' (h2 s' e) hr'
theorem zbL {P:Program} {K:St->List Ft->Prop} {o:RO} {r:List RO} {s:St} {acc:List Ft} {S:St->Prop} (hg:zd4 s S) (h:∀ s1,S s1->zh P [] false K (o::r) s1 acc):zh P [] false K (o::r) s acc:=
 zgw (S:=λs'=>zh P [] false K r s' acc) (zlk hg λs1 h1=>znn (h s1 h1)) λ_ h=>h
theorem zlv {G:Cfg} {cd:AC} {s:St} {Q:zN} {S:St->Prop} (hg:zd4 s S) (h:∀ s1,S s1->Run G cd s1 Q):Run G cd s Q:=λhG code hc C a w hr=>
 let ⟨s1,C1,h1,h2⟩:=hg G.X C a w hG.mok hr
 h s1 h1 hG code hc C1 a w h2
def pin2R (k n:Nat) (r:PV) (q q':LV):Prop:=∃ p,lit2 k n r q p/\q'=.p p
def zuy (k n:Nat) (r:PV):List LV->List LV->Prop
 | [],[]=>True
 | q::qs,q'::qs'=>(q'=q\/(q=.row k n/\q'=.p r))/\zuy k n r qs qs'
 | _,_=>False
theorem zkt {k n:Nat} {r:PV}:∀ {l l':List LV},zuy k n r l l'->l'.length=l.length/\∀ (j:Nat) (q':LV),l'[j]?=some q'->∃ q,l[j]?=some q/\(q'=q\/(q=.row k n/\q'=.p r))
 | [],[],_=>⟨rfl,λj q h=>by simp at h⟩
 | q::qs,q'::qs',h=>by
  obtain ⟨h1,h2⟩:=zkt h.2;refine ⟨by simp [h1],λj p hp=>?_⟩
  cases j with
  | zero=>simp at hp;subst hp;exact ⟨q,rfl,h.1⟩
  | succ j=>obtain ⟨x,g1,g2⟩:=h2 j p (by simpa using hp);exact ⟨x,by simpa using g1,g2⟩
 | [],_::_,h=>h.elim
 | _::_,[],h=>h.elim
def pinO (k n:Nat) (r:PV) (o o':LObj):Prop:=∃ cs cs' fz,o=.box cs fz/\o'=.box cs' fz/\zuy k n r cs cs'
def zyL (k e sz:Nat) (xs:List PV) (a0:Option Addr) (c0:Nat) (s:St) (env:List (Nat × LV)) (obj:List (Nat × LObj)):Prop:=
 znw (pin2R k xs.length (.rs a0 xs.length c0)) s env/\znv (pinO k xs.length (.rs a0 xs.length c0)) s obj/\scEnv (zj ((k,.hrow e sz xs a0 c0)::obj)) env/\scObj (zj ((k,.hrow e sz xs a0 c0)::obj)) obj
theorem zuz {w:World} {C:Ctx} {l l':Nat->Option LObj} {k n e sz c0:Nat} {xs:List PV} {a0:Option Addr} {fz:Bool} (hk:l k=some (.row e sz xs fz)) (hn:n=xs.length) (hc:C.cur k=.slice a0 n c0)
  (hrows:∀ j e1 sz1 xs1 fz1 e' sz' xs' fz',l j=some (.row e1 sz1 xs1 fz1)->l' j=some (.row e' sz' xs' fz')->e'=e1/\sz'=sz1/\xs'.length=xs1.length) {v:Value} {q q':LV} (hs:LV.Sc l q) (h:q'=q\/(q=.row k n/\q'=.p (.rs a0 n c0))) (hr:RepL w C l v q):RepL w C l' v q':=by
 rcases h with rfl|⟨rfl,rfl⟩
 ·exact hr.desc hrows hs
 ·rw [zcr hr _ _ _ _ hk hn.symm,hc];exact .p (.rs _ _ _)
theorem zdv {s:St} (k:Nat) {e sz:Nat} {xs:List PV} (hk:s.look k=some (.row e sz xs false)) (env:Option Addr->Nat->List (Nat × LV)) (obj:Option Addr->Nat->List (Nat × LObj)) (hp:∀ a0 c0,zyL k e sz xs a0 c0 s (env a0 c0) (obj a0 c0)) :
  zd4 s λs1=>∃ a0 c0,s1=⟨env a0 c0,(k,.hrow e sz xs a0 c0)::obj a0 c0,s.tr,s.stop⟩:=by
 intro X C a w hM h;have hob:=h.obj k _ hk;have hcur:∃ a0 c0,C.cur k=.slice a0 xs.length c0:=by
  obtain ⟨us,how,_⟩:=hob
  rcases how.2 with ⟨f1,f2⟩|⟨gb,cap,cur,f1,_⟩
  ·exact ⟨none,0,by rw [f1,f2]⟩
  ·exact ⟨_,_,f1⟩
 obtain ⟨a0,c0,hc⟩:=hcur;obtain ⟨he,ho,hse,hso⟩:=hp a0 c0;refine ⟨_,C,⟨a0,c0,rfl⟩,?_⟩;show RelC X C (z8 (env a0 c0)) (zj ((k,.hrow e sz xs a0 c0)::obj a0 c0)) s.tr s.stop a w;have was:∀ j o,zj ((k,.hrow e sz xs a0 c0)::obj a0 c0) j=some o->(j=k/\o=.hrow e sz xs a0 c0)\/(j≠k/\∃ o0,s.look j=some o0/\(o0=o\/pinO k xs.length (.rs a0 xs.length c0) o0 o)):=λj o hj=>by
  simp only [zj] at hj
  split at hj
  ·rename_i ej;injection hj with hj;exact .inl ⟨ej,hj.symm⟩
  ·rename_i ej
   rcases zcM ho j o hj with h3|⟨o0,h3,h4⟩
   ·exact .inr ⟨ej,o,h3,.inl rfl⟩
   ·exact .inr ⟨ej,o0,h3,.inr h4⟩
 have hrows:∀ j e1 sz1 xs1 fz1 e' sz' xs' fz',s.look j=some (.row e1 sz1 xs1 fz1)->zj ((k,.hrow e sz xs a0 c0)::obj a0 c0) j=some (.row e' sz' xs' fz')->e'=e1/\sz'=sz1/\xs'.length=xs1.length:=λj e1 sz1 xs1 fz1 e' sz' xs' fz' h1 h2=>by
  rcases was j _ h2 with ⟨_,h3⟩|⟨_,o0,h3,rfl|⟨cs,cs',f,rfl,h5,_⟩⟩
  ·cases h3
  ·rw [h1] at h3;injection h3 with h3;injection h3 with f1 f2 f3 f4;subst f1;subst f2;subst f3;exact ⟨rfl,rfl,rfl⟩
  ·cases h5
 refine h.desc (λj o hj=>?_) (λj o hj=>?_) (λt=>⟨?_,zbK hse t⟩)
 ·rcases was j o hj with ⟨rfl,rfl⟩|⟨_,o0,h3,rfl|⟨cs,cs',f,rfl,rfl,_⟩⟩
  ·exact ⟨_,hk,rfl,rfl⟩
  ·exact ⟨_,h3,rfl,rfl⟩
  ·exact ⟨_,h3,rfl,rfl⟩
 ·have sc:j≠k->LObj.Sc (zj ((k,.hrow e sz xs a0 c0)::obj a0 c0)) o:=λej=>by
   simp only [zj,if_neg ej] at hj;exact zaJ hso j o hj
  rcases was j o hj with ⟨rfl,rfl⟩|⟨ej,o0,h3,rfl|⟨cs,cs',f,rfl,rfl,h6⟩⟩
  ·exact ⟨⟨hob,hc⟩,trivial⟩
  ·exact ⟨(h.obj j _ h3).look (h.objs j _ h3) hrows,sc ej⟩
  ·obtain ⟨arr,ty,g1,g2,g3⟩:=h.obj j _ h3;have hsc:=h.objs j _ h3;obtain ⟨m1,m2⟩:=zkt h6;refine ⟨⟨arr,ty,g1,by omega,λi v q' hv hq=>?_⟩,sc ej⟩
   obtain ⟨q,i1,i2⟩:=m2 i q' hq;exact zuz hk rfl hc hrows (hsc i q i1) i2 (g3 i v q hv i1)
 ·rcases zdm he t with h1|⟨p,h1,h2⟩|h1
  ·rw [h1];exact (h.env t).desc hrows (h.envs t)
  ·rw [h2];have hr:=h.env t
   rcases h1 with h1|⟨cs,ps',h1,rfl,h3⟩
   ·exact .p (zex (λ_ _=>hc) hk rfl h1 hr)
   ·rw [h1] at hr;obtain ⟨l1,l2⟩:=ze5 h3;generalize zbe X a t=v at hr;cases hr with
    | agg g1 g2=>
     refine .p (.agg (by omega) λj u x hu hx=>?_)
     have hj:j < cs.length:=by rw [<-l1];exact (xaa.1 hx).1
     exact zex (λ_ _=>hc) hk rfl (l2 j _ x (xab hj) hx) (g2 j u _ hu (xab hj))
  ·rw [h1];exact .any _
def mltB (r q:PV):List LV->List LV->Prop
 | [],[]=>True
 | x::xs,y::ys=>(y=x\/(x=.p r/\y=.p q))/\mltB r q xs ys
 | _,_=>False
theorem zn8 {r q:PV}:∀ {l l':List LV},mltB r q l l'->l'.length=l.length/\∀ (j:Nat) (y:LV),l'[j]?=some y->∃ x,l[j]?=some x/\(y=x\/(x=.p r/\y=.p q))
 | [],[],_=>⟨rfl,λj q h=>by simp at h⟩
 | q::qs,q'::qs',h=>by
  obtain ⟨h1,h2⟩:=zn8 h.2;refine ⟨by simp [h1],λj p hp=>?_⟩
  cases j with
  | zero=>simp at hp;subst hp;exact ⟨q,rfl,h.1⟩
  | succ j=>obtain ⟨x,g1,g2⟩:=h2 j p (by simpa using hp);exact ⟨x,by simpa using g1,g2⟩
 | [],_::_,h=>h.elim
 | _::_,[],h=>h.elim
def zsW (r q:PV) (o o':LObj):Prop:=∃ cs cs' fz,o=.box cs fz/\o'=.box cs' fz/\mltB r q cs cs'
def zv5 (k e sz m:Nat) (xs:List PV) (a0:Option Addr) (c0:Nat) (s:St) (env:List (Nat × LV)) (obj:List (Nat × LObj)):Prop:=
 znw (zxl (.rs a0 m c0) (.sl sz (xs.take m))) s env/\znv (zsW (.rs a0 m c0) (.sl sz (xs.take m))) s obj/\scEnv (zj ((k,.row e sz xs true)::obj)) env/\scObj (zj ((k,.row e sz xs true)::obj)) obj
theorem zql {w:World} {B:Nat->Prop} {a0:Option Addr} {n m c0 sz:Nat} {xs:List PV} (h:Rep w B (.slice a0 n c0) (.sl sz xs)) (hm:m<=xs.length):Rep w B (.slice a0 m c0) (.sl sz (xs.take m)):=by
 cases h with
 | sl0=>
  have:m=0:=by simpa using hm
  subst this;exact .sl0
 | sle h=>
  have:m=0:=by simpa using hm
  subst this;exact .sle h
 | sl u h1 h2 h3 h4 h5 h6 h7 h8=>
  have get:∀ (i:Nat) (x:PV),(xs.take m)[i]?=some x->xs[i]?=some x:=λi x hx=>by
   rw [xaI] at hx
   split at hx<;>first|exact hx|cases hx
  exact .sl u h1 h2 (by rw [xai];omega) (by omega) h5 (λi x hx=>h6 i x (get i x hx)) (λi x j p hx hp=>h7 i x j p (get i x hx) hp) (λi x j p hx hp=>h8 i x j p (get i x hx) hp)
theorem zfb {s:St} (k m:Nat) {e sz c0:Nat} {xs:List PV} {a0:Option Addr} (env:List (Nat × LV)) (obj:List (Nat × LObj)) (hk:s.look k=some (.hrow e sz xs a0 c0)) (hm:m<=xs.length) (hp:zv5 k e sz m xs a0 c0 s env obj) :
  zd4 s λs1=>s1=⟨env,(k,.row e sz xs true)::obj,s.tr,s.stop⟩:=by
 intro X C a w hM h;obtain ⟨he,ho,hse,hso⟩:=hp;obtain ⟨hob,hc⟩:=h.obj k _ hk;have h1:=h.unh hk;have h2:=h1.freeze (d:=k) (o:=.row e sz xs false) (zg _ _ _) rfl hM
 let l2:=upd (upd s.look k (some (LObj.row e sz xs false))) k (some (LObj.row e sz xs true))
 let C':Ctx:={ C with B:=λb=>C.B b\/blk C k (.row e sz xs false)=some b }
 have h2:RelC X C' s.get l2 s.tr s.stop a w:=h2;have hsl:Rep w C'.B (.slice a0 m c0) (.sl sz (xs.take m)):=zql (zgb h hk) hm;refine ⟨_,C',rfl,?_⟩;show RelC X C' (z8 env) (zj ((k,.row e sz xs true)::obj)) s.tr s.stop a w;have was:∀ j o,zj ((k,.row e sz xs true)::obj) j=some o->(j=k/\o=.row e sz xs true)\/(j≠k/\∃ o0,l2 j=some o0/\(o0=o\/zsW (.rs a0 m c0) (.sl sz (xs.take m)) o0 o)):=λj o hj=>by
  simp only [zj] at hj
  split at hj
  ·rename_i ej;injection hj with hj;exact .inl ⟨ej,hj.symm⟩
  ·rename_i ej;have e2:l2 j=s.look j:=(zt _ _ ej).trans (zt _ _ ej)
   rcases zcM ho j o hj with h3|⟨o0,h3,h4⟩
   ·exact .inr ⟨ej,o,by rw [e2];exact h3,.inl rfl⟩
   ·exact .inr ⟨ej,o0,by rw [e2];exact h3,.inr h4⟩
 have hrows:∀ j e1 sz1 xs1 fz1 e' sz' xs' fz',l2 j=some (.row e1 sz1 xs1 fz1)->zj ((k,.row e sz xs true)::obj) j=some (.row e' sz' xs' fz')->e'=e1/\sz'=sz1/\xs'.length=xs1.length:=λj e1 sz1 xs1 fz1 e' sz' xs' fz' f1 f2=>by
  rcases was j _ f2 with ⟨rfl,h3⟩|⟨_,o0,h3,rfl|⟨cs,cs',f,rfl,h5,_⟩⟩
  ·simp only [l2,zg] at f1;injection f1 with f1;injection f1 with g1 g2 g3 g4;injection h3 with i1 i2 i3 i4;subst g1;subst g2;subst g3;subst i1;subst i2;subst i3;exact ⟨rfl,rfl,rfl⟩
  ·rw [f1] at h3;injection h3 with h3;injection h3 with g1 g2 g3 g4;subst g1;subst g2;subst g3;exact ⟨rfl,rfl,rfl⟩
  ·cases h5
 refine h2.desc (λj o hj=>?_) (λj o hj=>?_) (λt=>⟨?_,zbK hse t⟩)
 ·rcases was j o hj with ⟨rfl,rfl⟩|⟨_,o0,h3,rfl|⟨cs,cs',f,rfl,rfl,_⟩⟩
  ·exact ⟨_,zg _ _ _,rfl,rfl⟩
  ·exact ⟨_,h3,rfl,rfl⟩
  ·exact ⟨_,h3,rfl,rfl⟩
 ·have sc:j≠k->LObj.Sc (zj ((k,.row e sz xs true)::obj)) o:=λej=>by
   simp only [zj,if_neg ej] at hj;exact zaJ hso j o hj
  rcases was j o hj with ⟨rfl,rfl⟩|⟨ej,o0,h3,rfl|⟨cs,cs',f,rfl,rfl,h6⟩⟩
  ·exact ⟨h2.obj j (.row e sz xs true) (zg _ _ _),trivial⟩
  ·exact ⟨(h2.obj j _ h3).look (h2.objs j _ h3) hrows,sc ej⟩
  ·obtain ⟨arr,ty,g1,g2,g3⟩:=h2.obj j _ h3;have hsc:=h2.objs j _ h3;obtain ⟨m1,m2⟩:=zn8 h6;refine ⟨⟨arr,ty,g1,by omega,λi v y hv hy=>?_⟩,sc ej⟩
   obtain ⟨x,i1,rfl|⟨rfl,rfl⟩⟩:=m2 i y hy
   ·exact (g3 i v _ hv i1).desc hrows (hsc i _ i1)
   ·have:=ze (g3 i v _ hv i1);cases this;exact .p hsl
 ·rcases zdm he t with h3|⟨p,p',h3,h4,h5⟩|h3
  ·rw [h3];exact (h2.env t).desc hrows (h2.envs t)
  ·rw [h4];have:=h2.env t;rw [h3] at this;exact .p (zn7 hsl h5 (ze this))
  ·rw [h3];exact .any _
def Wk (p q:PV):Prop:=∀ (w:World) (B:Nat->Prop) (v:Value),Rep w B v p->Rep w B v q
theorem Wk.refl (p:PV):Wk p p:=λ_ _ _ h=>h
theorem Wk.nilsl (sz:Nat):Wk .nilsl (.sl sz []):=λ_ _ _ h=>by cases h;exact .sl0
theorem Wk.of {p q:PV} (h:Weak p q):Wk p q:=λ_ _ _ hr=>h.rep hr
def Wks:List PV->List PV->Prop
 | [],[]=>True
 | p::ps,q::qs=>Wk p q/\Wks ps qs
 | _,_=>False
theorem Wks.at:∀ {ps qs:List PV},Wks ps qs->ps.length=qs.length/\∀ (j:Nat) (p q:PV),ps[j]?=some p->qs[j]?=some q->Wk p q
 | [],[],_=>⟨rfl,λj p q h=>by simp at h⟩
 | p::ps,q::qs,h=>by
  obtain ⟨h1,h2⟩:=Wks.at h.2;refine ⟨by simp [h1],λj x y hx hy=>?_⟩
  cases j with
  | zero=>simp at hx hy;subst hx;subst hy;exact h.1
  | succ j=>exact h2 j x y (by simpa using hx) (by simpa using hy)
 | [],_::_,h=>h.elim
 | _::_,[],h=>h.elim
theorem Wks.refl:∀ ps:List PV,Wks ps ps
 | []=>trivial
 | p::ps=>⟨Wk.refl p,Wks.refl ps⟩
theorem Wks.app:∀ {ps qs ps' qs':List PV},Wks ps qs->Wks ps' qs'->Wks (ps++ps') (qs++qs')
 | [],[],_,_,_,h=>h
 | _::_,_::_,_,_,h,k=>⟨h.1,Wks.app h.2 k⟩
 | [],_::_,_,_,h,_=>h.elim
 | _::_,[],_,_,h,_=>h.elim
theorem Wk.agg {ps qs:List PV} (h:Wks ps qs):Wk (.agg ps) (.agg qs):=λw B v hr=>by
 obtain ⟨h1,h2⟩:=h.at;cases hr with
 | agg e1 e2=>
  refine .agg (by omega) λj u y hu hy=>?_
  have hj:j < ps.length:=by rw [h1];exact (xaa.1 hy).1
  exact h2 j _ y (xab hj) hy w B u (e2 j u _ hu (xab hj))
theorem Wk.tup {ps qs:List PV} (h:Wks ps qs):Wk (.tup ps) (.tup qs):=λw B v hr=>by
 obtain ⟨h1,h2⟩:=h.at;cases hr with
 | tup e1 e2=>
  refine .tup (by omega) λj u y hu hy=>?_
  have hj:j < ps.length:=by rw [h1];exact (xaa.1 hy).1
  exact h2 j _ y (xab hj) hy w B u (e2 j u _ hu (xab hj))
def Wkr:List PV->List PV->Prop
 | [],[]=>True
 | p::ps,q::qs=>Wks p.cells q.cells/\Wkr ps qs
 | _,_=>False
theorem Wkr.at:∀ {ps qs:List PV},Wkr ps qs->ps.length=qs.length/\∀ (j:Nat) (p q:PV),ps[j]?=some p->qs[j]?=some q->Wks p.cells q.cells
 | [],[],_=>⟨rfl,λj p q h=>by simp at h⟩
 | p::ps,q::qs,h=>by
  obtain ⟨h1,h2⟩:=Wkr.at h.2;refine ⟨by simp [h1],λj x y hx hy=>?_⟩
  cases j with
  | zero=>simp at hx hy;subst hx;subst hy;exact h.1
  | succ j=>exact h2 j x y (by simpa using hx) (by simpa using hy)
 | [],_::_,h=>h.elim
 | _::_,[],h=>h.elim
theorem Wkr.refl:∀ ps:List PV,Wkr ps ps
 | []=>trivial
 | p::ps=>⟨Wks.refl _,Wkr.refl ps⟩
theorem Wkr.app:∀ {ps qs ps' qs':List PV},Wkr ps qs->Wkr ps' qs'->Wkr (ps++ps') (qs++qs')
 | [],[],_,_,_,h=>h
 | _::_,_::_,_,_,h,k=>⟨h.1,Wkr.app h.2 k⟩
 | [],_::_,_,_,h,_=>h.elim
 | _::_,[],_,_,h,_=>h.elim
theorem Wkr.map {α:Type} {f g:α->PV}:∀ {l:List α},(∀ x ∈ l,Wks (f x).cells (g x).cells)->Wkr (l.map f) (l.map g)
 | [],_=>trivial
 | x::l,h=>⟨h x (by simp),Wkr.map λy hy=>h y (by simp [hy])⟩
theorem Wk.sl {sz:Nat} {ps qs:List PV} (h:Wkr ps qs):Wk (.sl sz ps) (.sl sz qs):=λw B v hr=>by
 obtain ⟨h1,h2⟩:=h.at;cases hr with
 | sl0=>
  have:qs=[]:=xaq (by simpa using h1.symm)
  subst this;exact .sl0
 | sle hc=>
  have:qs=[]:=xaq (by simpa using h1.symm)
  subst this;exact .sle hc
 | sl u g1 g2 g3 g4 g5 g6 g7 g8=>
  have get:∀ (i:Nat) (y:PV),qs[i]?=some y->∃ x,ps[i]?=some x/\Wks x.cells y.cells:=λi y hy=>by
   have hi:i < ps.length:=by rw [h1];exact (xaa.1 hy).1
   exact ⟨_,xab hi,h2 i _ y (xab hi) hy⟩
  have cell:∀ (i:Nat) (y:PV) (j:Nat) (q:PV),qs[i]?=some y->y.cells[j]?=some q->∃ x p,ps[i]?=some x/\x.cells[j]?=some p/\Wk p q:=λi y j q hy hq=>by
   obtain ⟨x,k1,k2⟩:=get i y hy;obtain ⟨e1,e2⟩:=k2.at;have hj:j < x.cells.length:=by rw [e1];exact (xaa.1 hq).1
   exact ⟨x,_,k1,xab hj,e2 j _ q (xab hj) hq⟩
  refine .sl u g1 g2 (by omega) g4 g5 (λi y hy=>?_) (λi y j q hy hq=>?_) (λi y j q hy hq=>?_)
  ·obtain ⟨x,k1,k2⟩:=get i y hy;rw [<-k2.at.1];exact g6 i x k1
  ·obtain ⟨x,p,k1,k2,_⟩:=cell i y j q hy hq;exact g7 i x j p k1 k2
  ·obtain ⟨x,p,k1,k2,k3⟩:=cell i y j q hy hq;exact k3 w B _ (g8 i x j p k1 k2)
theorem zar {P:Program} {f:FuncId} {args:List PV} {r r':PV} (h:Pure P f args r) (hw:Wk r r'):Pure P f args r':=
 ⟨h.1,λw B vs hB hvs=>Calls.mono (h.2 w B vs hB hvs) λ_ w' ⟨u,e,h1,h2⟩=>⟨u,e,h1,hw w' _ u h2⟩⟩
section
variable {X:Fx} {C:Ctx} {g:Nat->LV} {look:Nat->Option LObj} {tr:List (List PV)} {stop:Bool} {a:Act} {w:World} {P:Program} {s:St}
theorem zmr {oper:Oper} {z:List PV} {pl:List (Nat × Nat)} {l:List AOpd} (h:comp P oper=some (.build z pl,l)):∃ t parts,oper.op=.build t parts/\zz P t=some (.agg z)/\zB P t (parts.toList.map (·.1))=some pl/\zaf (parts.toList.map (·.2))=some l:=by
 unfold comp at h
 split at h
 all_goals first
  | (obtain ⟨x',h1,e⟩:=xac.1 h;injection e with e1 e2;cases e1;done)
  | skip
 all_goals (repeat' split at h)
 all_goals (try (rw [xao] at h;obtain ⟨_,_,h⟩:=h))
 all_goals (try (rw [xao] at h;obtain ⟨_,_,h⟩:=h))
 all_goals (repeat' split at h)
 all_goals first
  | (simp at h;done)
  | (simp only [xaR,xcq,AOp.build.injEq] at h;obtain ⟨⟨rfl,rfl⟩,rfl⟩:=h;exact ⟨_,_,‹_›,‹_›,‹_›,‹_›⟩)
theorem zgt {d:Option Nat} {z:List PV} {pl:List (Nat × Nat)} {args:List AOpd} {af:List Nat} (hcn:zJ (zd s args)=true) (hok:fillLOk s.look z.length pl (uns (zd s args))) :
  zdH P s ⟨d,.build z pl,args,none,af⟩ λs'=>s'=s.set d (.agg (zde (z.map .p) pl (uns (zd s args)))):=by
 intro X C a w ops oper ro K Q hc hM h hK;have hr:=zal hc;have hdst:∀ k,d=some k->k < X.N:=λk hk=>hr.hdst k (by rw [<-hr.hd];exact hk)
 have hgo:gOf s (none:Option (Nat × Bool))=some true:=rfl;rw [zO h hr hgo,if_pos rfl];obtain ⟨t,parts,hop,hz,hpl,hl⟩:=zmr hr.hc;have hrs:=z9 hl (λ_ h=>h) (zao h rfl hcn)
 have e0:args.map (λy=>(y.ev s).un)=uns (zd s args):=by simp [uns,zd]
 rw [e0] at hrs;obtain ⟨u,w',C',e1,e2,e3,e4⟩:=zef h hop hz hpl hrs hok;refine zdI (zcF hr.hc) e1 ?_;rw [<-hr.hd];exact hK _ _ _ _ rfl (by rw [(z7 _ _ _).1,(z7 _ _ _).2];exact zan e2 hdst e3 e4)
end
theorem zfS {P:Program} {ts:List (List PV)} {K:St->List Ft->Prop} {acc:List Ft} {s:St} {d:Option Nat} {z:List PV} {pl:List (Nat × Nat)} {args:List AOpd} {af:List Nat} {r:List RO} {zs us:List LV} (hu:uns (zd s args)=us) (hcn:zJ (zd s args)=true) (hok:fillLOk s.look z.length pl us) (hz:zde (z.map .p) pl us=zs)
  (hn:zh P ts false K r (s.set d (.agg zs)) acc):zh P ts false K (⟨d,.build z pl,args,none,af⟩::r) s acc:=by
 subst hu;exact zgw (zgt hcn hok) λ_ e=>by rw [e,hz];exact hn
section
variable {P:Program} {G:Cfg} {Q:zN} {ts:List (List PV)} {dr:Bool} {K:St->List Ft->Prop} {acc:List Ft} {d:Option Nat} {f:Nat} {args:List AOpd} {af:List Nat} {r:List RO} {s:St} {vs:List LV} {res:LV} {obj obj':List (Nat × LObj)}
theorem ziJ (l:List (Nat × Nat)) {fs cs us:List LV} (hf:Acts P f vs obj res obj') (hn:zD dr (zh P ts dr K) r ((s.wrs (za5 (rn l) obj')).set d (res.ren (rn l))) (zS dr acc s ⟨d,.callv,args,none,af⟩ (za5 (rn l) obj')))
  (hu:uns (zd s args)=.fn (.func f) fs cs::us:=by first|exact rnE|fail)
  (ha:fs++us++cs=rens (rn l) vs:=by first|exact rnE|fail)
  (hp:zJ (zd s args)=true:=by first|exact rnD|fail)
  (h1:lentO s (rn l) obj:=by first|exact rnT|fail)
  (h2:newO s (rn l) obj obj':=by first|exact rnO|fail)
  (h3:(obj'.map λx=>rn l x.1).Nodup:=by first|decide|(simp only [xak,xay];decide)|simp):zh P ts dr K (⟨d,.callv,args,none,af⟩::r) s acc:=
 zlw (rn l) hf hu ha hp (zc8 h1 h2 h3) (zF hn)
theorem zdQ (l:List (Nat × Nat)) (hf:Acts P f vs obj res obj') (hn:zh P ts dr K r ((s.wrs (za5 (rn l) obj')).set d (res.ren (rn l))) (zS dr acc s ⟨d,.call f,args,none,af⟩ (za5 (rn l) obj')))
  (ha:uns (zd s args)=rens (rn l) vs:=by first|exact rnE|fail)
  (hp:zJ (zd s args)=true:=by first|exact rnD|fail)
  (h1:lentO s (rn l) obj:=by first|exact rnT|fail)
  (h2:newO s (rn l) obj obj':=by first|exact rnO|fail)
  (h3:(obj'.map λx=>rn l x.1).Nodup:=by first|decide|(simp only [xak,xay];decide)|simp):zh P ts dr K (⟨d,.call f,args,none,af⟩::r) s acc:=
 zhF (rn l) hf ha hp (zc8 h1 h2 h3) hn
end
theorem zaz (m:Nat->Nat) (l:List LV):LV.ren m (.agg l)=.agg (rens m l):=by simp only [LV.ren]
theorem zay (m:Nat->Nat) (l:List LV):LV.ren m (.tup l)=.tup (rens m l):=by simp only [LV.ren]
section
variable {rs:List RV} {res:LV} {obj obj':List (Nat × LObj)} {s:St} {pre:Prop} {lvs:List LV}
theorem RetA.mk (h1:keepO s obj':=by first|exact kpT|fail) (h2:keepG s obj:=by first|exact kpT|fail) (h3:resL s rs=some (pre,lvs):=by first|rfl|(simp only [resL];rfl)) (hp:pre:=by first|trivial|omega|exact kpT|fail) (hl:lvs=[res]:=by first|rfl|(simp;done)) (h4:scP (zj obj') res:=by first|exact kpT|fail):RetA rs res obj obj' s:=
 ⟨h1,h2,pre,lvs,h3,hp,.inl ⟨hl,h4⟩⟩
theorem RetA.mkP {pre2:Prop} {vs:List PV} {ks:List Nat} {v:PV} (h1:keepO s obj':=by first|exact kpT|fail) (h2:keepG s obj:=by first|exact kpT|fail) (h3:resL s rs=some (pre,lvs):=by first|rfl|(simp only [resL];rfl)) (hp:pre:=by first|trivial|omega|exact kpT|fail) (h5:toPVs s.look lvs=some (pre2,vs,ks):=by first|rfl|(simp only [qS,qe,Nat.reduceEqDiff,reduceIte,Nat.reduceBEq]<;>rfl)) (hp2:pre2:=by first|trivial|omega|exact kpT|fail) (hw:Weak (tupOf vs) v:=by exact .refl _) (hk:∀ k ∈ ks,zj obj' k=none:=by intro k hk;simp at hk;subst hk;rfl):RetA rs (.p v) obj obj' s:=
 ⟨h1,h2,pre,lvs,h3,hp,.inr (.inl ⟨pre2,vs,ks,v,h5,hp2,hw,rfl,hk⟩)⟩
theorem RetA.mkT {x y:LV} {r:List LV} (h1:keepO s obj':=by first|exact kpT|fail) (h2:keepG s obj:=by first|exact kpT|fail) (h3:resL s rs=some (pre,lvs):=by first|rfl|(simp only [resL];rfl)) (hp:pre:=by first|trivial|omega|exact kpT|fail) (hl:lvs=x::y::r:=by first|rfl|(simp;done)) (h4:scP (zj obj') (.tup (x::y::r)):=by first|exact kpT|fail):RetA rs (.tup (x::y::r)) obj obj' s:=
 ⟨h1,h2,pre,lvs,h3,hp,.inr (.inr ⟨x,y,r,hl,rfl,h4⟩)⟩
end
def zje (R:St->Prop) (Q:zN):zN
 | .normal,s=>R s
 | .ret,s=>Q .ret s
 | .exit i,s=>Q (.exit i) s
theorem nk_n (R:St->Prop) (Q:zN) (s:St):zje R Q .normal s=R s:=rfl
theorem nk_e (R:St->Prop) (Q:zN) (i:Nat) (s:St):zje R Q (.exit i) s=Q (.exit i) s:=rfl
theorem zna {G:Cfg} {c:AC} {s:St} {Q:zN} (st1:Nat->St) (st2:Nat->HD->St) (n i0:Nat) (hi:i0 < n) (h0:Cov s (st1 0)) (r1:∀ k,k < i0->Run G c (st1 k) (zje (λs'=>Cov s' (st1 (k+1))) Q))
  (r2:Run G c (st1 i0) (zje (λs'=>∃ i,Cov s' (st2 (i0+1) i)) Q)) (r3:∀ k i,i0 < k->k < n->Run G c (st2 k i) (zje (λs'=>Cov s' (st2 (k+1) i)) Q)) (r4:∀ i,Run G c (st2 n i) (zje (λ_=>False) Q)):Run G (.loop c) s Q:=by
 refine zi (κ:=Nat × HD) (λκ=>if κ.1<=i0 then st1 κ.1 else st2 κ.1 κ.2) (λκ=>κ.1<=n) (λκ=>n - κ.1) (0,default) (by simpa using h0) (xa5 _) ?_
 rintro ⟨k,i⟩ hk;simp only at hk ⊢;have step:∀ {R:St->Prop} {S:St},(∀ s',R s'->∃ k',k'<=n/\k < k'/\k < n/\∃ i,Cov s' (if k'<=i0 then st1 k' else st2 k' i))->Run G c S (zje R Q)->Run G c S (loopK (λκ:Nat × HD=>if κ.1<=i0 then st1 κ.1 else st2 κ.1 κ.2) (λκ=>κ.1<=n) (λκ=>n - κ.1) (k,i) Q):=λhR h=>zfO (λe s' he=>by
  cases e with
  | normal=>
   obtain ⟨k',h1,h2,h3,i',h4⟩:=hR s' he;exact ⟨(k',i'),h1,by simp only;omega,h4⟩
  | ret=>exact he
  | exit j=>exact he) h
 by_cases h1:k<=i0
 ·rw [if_pos h1]
  rcases Nat.lt_or_ge k i0 with h2|h2
  ·exact step (λs' he=>⟨k+1,by omega,by omega,by omega,i,by rw [if_pos (by omega)];exact he⟩) (r1 k h2)
  ·obtain rfl:k=i0:=by omega
   exact step (λs' ⟨i',he⟩=>⟨k+1,by omega,by omega,by omega,i',by rw [if_neg (by omega)];exact he⟩) r2
 ·rw [if_neg h1]
  rcases Nat.lt_or_ge k n with h2|h2
  ·exact step (λs' he=>⟨k+1,by omega,by omega,by omega,i,by rw [if_neg (by omega)];exact he⟩) (r3 k i (by omega) h2)
  ·obtain rfl:k=n:=by omega
   exact step (λs' he=>he.elim) (r4 i)
section
variable {P:Program} {G:Cfg} {Q:zN} {ts:List (List PV)} {K:St->List Ft->Prop} {acc:List Ft} {d:Option Nat} {f:Nat} {args:List AOpd} {af:List Nat} {r:List RO} {s:St} {vs:List LV} {res:HD->LV} {obj:List (Nat × LObj)} {obj':HD->List (Nat × LObj)}
theorem zlx (l:List (Nat × Nat)) (hf:ActsE P f vs obj res obj') (hn:∀ i,zD false (zh P ts false K) r ((s.wrs (za5 (rn l) (obj' i))).set d ((res i).ren (rn l))) acc)
  (ha:uns (zd s args)=rens (rn l) vs:=by first|exact rnE|fail)
  (hp:zJ (zd s args)=true:=by first|exact rnD|fail)
  (h1:lentO s (rn l) obj:=by first|exact rnT|fail)
  (h2:∀ i,newO s (rn l) obj (obj' i):=by intro i;first|exact rnO|fail)
  (h3:∀ i,((obj' i).map λx=>rn l x.1).Nodup:=by intro i;first|decide|(simp only [xak,xay];decide)|simp):zh P ts false K (⟨d,.call f,args,none,af⟩::r) s acc:=
 zhG (rn l) hf ha hp (λi=>zc8 h1 (h2 i) (h3 i)) (λi=>zF (hn i))
theorem zeL (l:List (Nat × Nat)) (hf:ActsE P f vs obj res obj') {fs cs:List PV} {us:List LV} (hn:∀ i,zD false (zh P ts false K) r ((s.wrs (za5 (rn l) (obj' i))).set d ((res i).ren (rn l))) acc)
  (hu:uns (zd s args)=.p (.fn (.func f) fs cs)::us:=by first|exact rnE|fail)
  (ha:fs.map .p++us++cs.map .p=rens (rn l) vs:=by first|exact rnE|fail)
  (hp:zJ (zd s args)=true:=by first|exact rnD|fail)
  (h1:lentO s (rn l) obj:=by first|exact rnT|fail)
  (h2:∀ i,newO s (rn l) obj (obj' i):=by intro i;first|exact rnO|fail)
  (h3:∀ i,((obj' i).map λx=>rn l x.1).Nodup:=by intro i;first|decide|(simp only [xak,xay];decide)|simp):zh P ts false K (⟨d,.callv,args,none,af⟩::r) s acc:=
 zfR (rn l) hf hu ha hp (λi=>zc8 h1 (h2 i) (h3 i)) (λi=>zF (hn i))
end
def ztS (rs:List RV) (res:HD->LV) (obj:List (Nat × LObj)) (obj':HD->List (Nat × LObj)):zN
 | .normal,s=>∃ i,zpz rs (res i) obj (obj' i) s
 | .ret,s=>∃ i,zpz rs (res i) obj (obj' i) s
 | .exit _,_=>False
section
variable (rs:List RV) (res:HD->LV) (obj:List (Nat × LObj)) (obj':HD->List (Nat × LObj)) (s:St)
theorem reN:ztS rs res obj obj' .normal s=∃ i,zpz rs (res i) obj (obj' i) s:=rfl
theorem reR:ztS rs res obj obj' .ret s=∃ i,zpz rs (res i) obj (obj' i) s:=rfl
theorem ze4 (m:Nat->Nat) (e sz:Nat) (xs:List PV) (a0:Option Addr) (c0:Nat):(LObj.hrow e sz xs a0 c0).ren m=.hrow e sz xs a0 c0:=rfl
end
theorem zdE {P:Program} {f:FuncId} {c:AC} {rs:List RV} {n:Nat} (h:zci P f=some (c,rs,n)) {args:List LV} {obj:List (Nat × LObj)} {obj':HD->List (Nat × LObj)} {res:HD->LV} (hn:args.length<=n)
  (hsa:scPs (zj obj) args) (hso:scObj (zj obj) obj) (hnf:zuG obj) (hso':∀ i,scObj (zj (obj' i)) (obj' i)) (hfol:∀ i,zc1 (zj (obj' i)) obj)
  (hrun:∀ X:Fx,X.N=n->Run ⟨P,X,none,[]⟩ c (zE args obj) (ztS rs res obj obj')):ActsE P f args obj res obj':=
 zk8 h hn hsa hso hnf hso' hfol λX hX hG code hc C a w hr=>
  wpIn_mono (hrun X hX hG code hc C a w hr) λe a1 w1 hq=>by
   obtain ⟨s1,C1,h1,h2⟩:=hq;have key:(∃ i,zpz rs (res i) obj (obj' i) s1)->∃ s2 C2,RelC X C2 s2.get s2.look s2.tr s2.stop a1 w1/\∃ i,RetA rs (res i) obj (obj' i) s2:=λ⟨i,h⟩=>by
    rcases h with h|⟨k,e,sz,env,o,ho,h⟩
    ·exact ⟨s1,C1,h1,i,h⟩
    ·obtain ⟨C2,h2⟩:=h1.own ho;exact ⟨⟨env,(k,.row e sz [] false)::o,s1.tr,s1.stop⟩,C2,h2,i,h⟩
   cases e with
   | normal=>obtain ⟨s2,C2,h3,h4⟩:=key h2;exact ⟨s2,C2,h3,h4⟩
   | ret=>obtain ⟨s2,C2,h3,h4⟩:=key h2;exact ⟨s2,C2,h3,h4⟩
   | exit i=>exact h2.elim
   | goto l=>exact h2.elim
   | panic c=>exact h2.elim
   | outgrown=>exact h2.elim
theorem RetA.mkE {t:Nat} {res:LV} {obj obj':List (Nat × LObj)} {s:St} (h1:keepO s obj':=by first|exact kpT|fail) (h2:keepG s obj:=by first|exact kpT|fail) (h3:s.get t=res:=by first|exact kpT|fail) (h4:scP (zj obj') res:=by first|exact kpT|fail):RetA [.tmp t] res obj obj' s:=
 ⟨h1,h2,True,[res],by simp only [resL,h3];rfl,trivial,.inl ⟨rfl,h4⟩⟩
section
variable {P:Program} {G:Cfg} {Q:zN} {ts:List (List PV)} {K:St->List Ft->Prop} {acc:List Ft} {d:Option Nat} {f:Nat} {args:List AOpd} {af:List Nat} {r:List RO} {s:St} {vs:List LV} {res:HD->LV} {obj:List (Nat × LObj)} {obj':HD->List (Nat × LObj)}
theorem zly (l:List (Nat × Nat)) (hf:ActsE P f vs obj res obj') (hn:∀ i,zh P ts false K r ((s.wrs (za5 (rn l) (obj' i))).set d ((res i).ren (rn l))) acc)
  (ha:uns (zd s args)=rens (rn l) vs:=by first|exact rnE|fail)
  (hp:zJ (zd s args)=true:=by first|exact rnD|fail)
  (h1:lentO s (rn l) obj:=by first|exact rnT|fail)
  (h2:∀ i,newO s (rn l) obj (obj' i):=by intro i;first|exact rnO|fail)
  (h3:∀ i,((obj' i).map λx=>rn l x.1).Nodup:=by intro i;first|decide|(simp only [xak,xay];decide)|simp):zh P ts false K (⟨d,.call f,args,none,af⟩::r) s acc:=
 zhG (rn l) hf ha hp (λi=>zc8 h1 (h2 i) (h3 i)) hn
theorem ziK (l:List (Nat × Nat)) (hf:ActsE P f vs obj res obj') {fs cs:List PV} {us:List LV} (hn:∀ i,zh P ts false K r ((s.wrs (za5 (rn l) (obj' i))).set d ((res i).ren (rn l))) acc)
  (hu:uns (zd s args)=.p (.fn (.func f) fs cs)::us:=by first|exact rnE|fail)
  (ha:fs.map .p++us++cs.map .p=rens (rn l) vs:=by first|exact rnE|fail)
  (hp:zJ (zd s args)=true:=by first|exact rnD|fail)
  (h1:lentO s (rn l) obj:=by first|exact rnT|fail)
  (h2:∀ i,newO s (rn l) obj (obj' i):=by intro i;first|exact rnO|fail)
  (h3:∀ i,((obj' i).map λx=>rn l x.1).Nodup:=by intro i;first|decide|(simp only [xak,xay];decide)|simp):zh P ts false K (⟨d,.callv,args,none,af⟩::r) s acc:=
 zfR (rn l) hf hu ha hp (λi=>zc8 h1 (h2 i) (h3 i)) hn
end
theorem zl7 {s:St} (k:Nat) (env:List (Nat × LV)) (obj:List (Nat × LObj)) {e sz:Nat} {xs:List PV} {a0:Option Addr} {c0:Nat} (hk:s.look k=some (.hrow e sz xs a0 c0)) (hp:zth k e sz xs a0 c0 s env obj) :
  zd4 s λs1=>s1=⟨env,(k,.row e sz xs true)::obj,s.tr,s.stop⟩:=λX C a w hM h=>
 let ⟨C',h1⟩:=h.melt hM hk hp
 ⟨_,C',rfl,h1⟩
theorem zf0 {r q a b:PV} (h:Mlt r q a b):∀ (l:List PV) (i:Nat),zf2 r q (l.set i a) (l.set i b)
 | [],_=>trivial
 | _::l,0=>⟨h,zeX l⟩
 | _::l,i+1=>⟨.inl (.inl rfl),zf0 h l i⟩
section
variable {P:Program} {ts:List (List PV)} {dr:Bool} {K:St->List Ft->Prop} {acc:List Ft} {d:Option Nat} {f:Nat} {args:List AOpd} {af:List Nat} {r:List RO} {s:St} {e sz c0:Nat} {pre:Prop} {vs0 vs xs:List PV} {ks:List Nat} {a0:Option Addr} {res:PV}
theorem zfQ (k:Nat) (ht:toPVs s.look (uns (zd s args))=some (pre,vs0,ks):=by first|exact rE|fail) (hf:Pure P f vs res) (hk:s.look k=some (.hrow e sz xs a0 c0):=by exact rfl) (hm:zdV (.rs a0 xs.length c0) (.sl sz xs) vs0 vs)
  (hn:zD dr (zh P ts dr K) r ((s.wrs [(k,.hrow e sz xs a0 c0)]).set d (.p res)) (zS dr acc s ⟨d,.call f,args,none,af⟩ [(k,.hrow e sz xs a0 c0)]))
  (hcn:zJ (zd s args)=true:=by first|exact rD|fail) (hp:pre:=by first|trivial|exact rD|exact rG|fail) (hfl:res.flat=true:=by exact rfl):zh P ts dr K (⟨d,.call f,args,none,af⟩::r) s acc:=
 zng k hf ht hcn hp hk hm hfl (zF hn)
end
section
variable {P:Program} {ts:List (List PV)} {dr:Bool} {K:St->List Ft->Prop} {acc:List Ft} {d:Option Nat} {x y:AOpd} {af:List Nat} {r:List RO} {s:St} {e sz by_ c0 sz':Nat} {pre:Prop} {xs ys:List PV} {rd:List Nat} {a0:Option Addr}
theorem znl (k n:Nat) (hn:n=xs.length) (hx:(x.ev s).un=.p (.rs a0 n c0):=by first|exact rE|fail) (hel:zav s.look (y.ev s).un=some (pre,ys,sz',rd):=by first|exact rE|fail) (hk:s.look k=some (.hrow e sz xs a0 c0):=by exact rfl)
  (hcn:zJ (zd s [x,y])=true:=by first|exact rD|fail) (hp:pre:=by first|trivial|exact rD|exact rG|fail) (h1:ys=[]\/sz'=sz:=by exact .inr rfl) (h2:oneAll ys=true:=by exact rfl) (h3:(xs.length+ys.length)*by_<=140737488355328)
  (h:zh P ts dr K r ((s.wrs [(k,.row e sz (xs++ys) false)]).set d (.row k (xs++ys).length)) (zS dr acc s ⟨d,.app e sz by_,[x,y],none,af⟩ [(k,.row e sz (xs++ys) false)])):zh P ts dr K (⟨d,.app e sz by_,[x,y],none,af⟩::r) s acc:=by
 subst hn;exact zqg k hcn hx hk hel hp h1 h2 h3 h
end
end Go.Proofs.YtijgimeokgbifaaGreat
