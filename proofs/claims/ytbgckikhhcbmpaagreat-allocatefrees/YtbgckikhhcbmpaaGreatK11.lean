/- Contracts. No conditions. -/
import Derived.Shelf.SlSortCmp.NoneTotal
import Derived.Shelf.RegionOpenPlain
import Derived.WalkKit
import Derived.Lib.Walk
import Derived.Lib.SliceRun
import Derived.Lib.SlicesCompact
import Derived.Deep.LoopGhost
import Derived.Deep.Draws
import Derived.Deep.QuietTactic
import Derived.Shelf.SlicesQ.Load
import Derived.Test.YtbgckikhhcbmpaaGreatK9
set_option linter.all false
set_option maxHeartbeats 8000000
set_option maxRecDepth 100000
namespace Go.Proofs.YtbgckikhhcbmpaaGreat
open Go.Proofs Go.RowKit Tryz Go.Lib Go.Sort
variable {a:Act} {K:Act->World->Prop} {Q:Exit->Act->World->Prop} {d:Nat} {B:Nat->Prop} {o:Oper} {x:Operand} {P:Program} {t:TypeId} {v:Value} {w:World}
def zal (k:Ky):List Value:=[.int .i64 (k.1:Int),.int .i64 k.2]
def kI (x y:Int):Int:=if x < y then -1 else if y < x then 1 else 0
def kOr (a b:Int):Int:=if a≠0 then a else b
def w159 (x y:Int) (w:World):Calls prog 159 #[.int .i64 x,.int .i64 y] w λe w'=>e=.returned (.int .i64 (kI x y))/\w'=w:=by
 unfold kI
 by_cases h1:x < y
 ·have h1':=h1
  go_enter func159,ntmps159
  go_wp2
  all_goals (go_ret;simp_all)
 ·by_cases h2:y < x
  ·go_enter func159,ntmps159
   go_wp2
   all_goals (go_ret;simp_all)
  ·go_enter func159,ntmps159
   go_wp2
   all_goals (go_ret;simp_all)
def w158 (a b:Int) (blk cap:Nat) (w:World) (h0:w.cell? ⟨blk,0,none⟩=some (.int .i64 a)) (h1:w.cell? ⟨blk,1,none⟩=some (.int .i64 b)):Calls prog 158 #[.slice (some ⟨blk,0,none⟩) 2 cap] w λe w'=>e=.returned (.int .i64 (kOr a b))/\w'=w:=by
 unfold kOr
 by_cases ha:a=0
 ·by_cases hb:b=0
  ·subst ha;subst hb
   go_enter func158,ntmps158
   go_wp2
   refine wp_loop_rounds 3 ?_;rw [rounds_succ]
   go_wp2
   rw [rounds_succ]
   go_wp2
   rw [rounds_succ]
   go_wp2
   go_ret
   exact ⟨rfl,rfl⟩
  ·subst ha
   go_enter func158,ntmps158
   go_wp2
   refine wp_loop_rounds 3 ?_;rw [rounds_succ]
   go_wp2
   rw [rounds_succ]
   go_wp2
   go_ret
   exact ⟨rfl,rfl⟩
 ·go_enter func158,ntmps158
  go_wp2
  refine wp_loop_rounds 3 ?_;rw [rounds_succ]
  go_wp2
  go_ret
  simp [ha]
def zhN {t:Nat} (h:t≠d):(a.put (some d) v).eval (.tmp t)=a.eval (.tmp t):=by
 simp [Act.put,Act.eval,xag,Array.getElem?_setIfInBounds,Ne.symm h]
def zoA (hd:d < a.tmps.size):(a.put (some d) v).eval (.tmp d)=v:=by
 simp [Act.put,Act.eval,xag,hd]
structure RInv (ops:Array Oper) (a0:Act) (d:Nat->Nat) (v:Nat->Value) (k:Nat) (WP:Bool->World->Prop) (listed:Array Bool) (a:Act) (w:World):Prop where
 size:a.tmps.size=a0.tmps.size
 defers:a.defers=a0.defers
 rest:∀ t,(∀ j,j < ops.size->t≠d j)->a.eval (.tmp t)=a0.eval (.tmp t)
 vals:∀ i,i < ops.size->listed.getD i true=true->a.eval (.tmp (d i))=v i
 wp:WP (listed.getD k true) w
def zk2 {ops:Array Oper} {id:Nat} {a0:Act} {w:World} {Q:Exit→Act→World→Prop} (hm:P.follows .mixedOrders=true) (d:Nat→Nat) (v:Nat→Value) (k:Nat) (WP:Bool→World→Prop) (hk:k < ops.size)
  (hw0:WP false { w with drawn:=w.drawn+1 }) (hd:∀ (i:Nat) (o:Oper),ops[i]?=some o→o.dst=some (d i)∧o.guard=none) (hinj:∀ i j,i < ops.size→j < ops.size→d i=d j→i=j) (hdt:∀ i,i < ops.size→d i < a0.tmps.size)
  (hlex:∀ (i:Nat) (o:Oper),ops[i]?=some o→∀ e ∈ o.after,e.on < i)
  (hstep:∀ (i:Nat) (o:Oper) (a:Act) (w':World) (b:Bool),ops[i]?=some o→(∀ t,(∀ j,j < ops.size→t≠d j)→a.eval (.tmp t)=a0.eval (.tmp t))→(∀ e ∈ o.after,Region.binds .any e=true→a.eval (.tmp (d e.on))=v e.on∧(e.on=k→b=true))→(i=k→b=false)→WP b w' →
   ∀ K:Act→World→Prop,(∀ w'',WP (b || decide (i=k)) w''→K (a.put (some (d i)) (v i)) w'')→o.wp P a w' K Q)
  (hend:∀ a w',a.tmps.size=a0.tmps.size→a.defers=a0.defers→(∀ t,(∀ j,j < ops.size→t≠d j)→a.eval (.tmp t)=a0.eval (.tmp t))→(∀ i,i < ops.size→a.eval (.tmp (d i))=v i)→WP true w'→Q .normal a w'):(Code.region id ops true).wp P Q a0 w:=by
 refine wp_region_any hm ?_
 have zsb:∀ listed:Array Bool,Region.ready .any ops listed=[]→∀ i,i < ops.size→listed.getD i true=true:=fun listed hr i=>by
  induction i using Nat.strongRecOn with
  | _ i ih=>
   intro hi
   refine xbC fun hn=>?_
   rw [xbq] at hn
   have:i ∈ Region.ready .any ops listed:=mem_ready.2 ⟨hn,ops[i],xai hi,fun e he hb=>?_⟩
   ·rw [hr] at this;cases this
   ·have hlt:=hlex i _ (xai hi) e he
    have:=ih e.on hlt (by omega)
    rw [xag] at this ⊢
    have hsz:e.on < listed.size:=by
     refine xbC fun hge=>?_
     have hi2:listed.size≤i:=by omega
     rw [xag,xbW hi2] at hn
     cases hn
    rw [xai hsz] at this ⊢
    exact this
 have main:∀ (fuel:Nat) (listed:Array Bool) (a:Act) (w':World),listed.size=ops.size→listed.toList.count false≤fuel→RInv ops a0 d v k WP listed a w'→wpAny P .any ops Q fuel listed a w':=by
  intro fuel
  induction fuel with
  | zero=>
   intro listed a w' hsz hc hI
   have hall:∀ i,i < ops.size→listed.getD i true=true:=fun i hi=>by
    have hc0:listed.toList.count false=0:=by omega
    rw [List.count_eq_zero] at hc0
    rw [xag,xai (by omega),xa7]
    refine xbC fun hn=>hc0 ?_
    rw [xbq] at hn
    rw [←hn];exact Array.mem_toList_iff.2 (Array.getElem_mem _)
   refine ⟨?_,hend a w' hI.size hI.defers hI.rest (fun i hi=>hI.vals i hi (hall i hi)) (by have:=hI.wp;rwa [hall k hk] at this)⟩
   refine xb2.2 fun i hi=>?_
   obtain ⟨h1,o,h2,_⟩:=mem_ready.1 hi
   rw [hall i (xaR.1 h2).1] at h1;cases h1
  | succ fuel ih=>
   intro listed a w' hsz hc hI
   refine ⟨fun hr=>?_,fun i hi=>?_⟩
   ·have hall:=zsb listed hr
    exact hend a w' hI.size hI.defers hI.rest (fun i hi=>hI.vals i hi (hall i hi)) (by have:=hI.wp;rwa [hall k hk] at this)
   ·obtain ⟨h1,o,h2,h3⟩:=mem_ready.1 hi
    have hin:=(xaR.1 h2).1
    obtain ⟨hdo,hg⟩:=hd i o h2
    unfold wpOp
    rw [h2]
    have hwt:Region.wanted o (yielded ops a.tmps)=true:=by simp [Region.wanted,hg]
    simp only
    rw [if_pos hwt]
    refine .inl (hstep i o a w' (listed.getD k true) h2 hI.rest (fun e he hb=>?_) (fun e=>by rw [←e];exact h1) hI.wp _ fun w'' hw''=>?_)
    ·have h4:=h3 e he hb
     have hlt:=hlex i o h2 e he
     have h5:listed.getD e.on true=true:=by
      rw [xag] at h4 ⊢
      rw [xai (by omega)] at h4 ⊢;exact h4
     exact ⟨hI.vals _ (by omega) h5,fun e'=>by rw [←e'];exact h5⟩
    ·have hget:∀ j,(listed.setIfInBounds i true).getD j true=if j=i then true else listed.getD j true:=fun j=>by
      rw [xag,xag,Array.getElem?_setIfInBounds]
      by_cases hji:i=j
      ·rw [if_pos hji,if_pos hji.symm];split<;>rfl
      ·rw [if_neg hji,if_neg (Ne.symm hji)]
     refine ih _ _ _ (by simp [hsz]) ?_ ?_
     ·have hlt:i < listed.toList.length:=by simp;omega
      have hf:listed.toList[i]=false:=by
       rw [xag,xai (by omega),xa7] at h1
       simpa using h1
      have hpos:0 < listed.toList.count false:=List.count_pos_iff.2 (by rw [←hf];exact xcg _)
      rw [Array.toList_setIfInBounds,List.count_set hlt,hf]
      simp only [beq_self_eq_true,if_true,show ((true:Bool) == false)=false from rfl,xaD,if_false]
      omega
     ·refine ⟨by simp [Act.put,hI.size],by simp [Act.put,hI.defers],fun t ht=>?_,fun j hj hl=>?_,?_⟩
      ·rw [zhN (ht i hin)];exact hI.rest t ht
      ·by_cases hji:j=i
       ·subst hji;exact zoA (by rw [hI.size];exact hdt _ hj)
       ·rw [hget,if_neg hji] at hl
        rw [zhN fun e=>hji (hinj _ _ hj hin e)];exact hI.vals j hj hl
      ·rw [hget]
       by_cases hik:k=i
       ·rw [if_pos hik]
        rw [decide_eq_true hik.symm,Bool.or_true] at hw'';exact hw''
       ·rw [if_neg hik]
        rw [decide_eq_false (Ne.symm hik),xcs] at hw'';exact hw''
 refine main _ _ _ _ (by simp) (by simp) ⟨rfl,rfl,fun _ _=>rfl,fun i hi hl=>?_,?_⟩
 ·rw [xag,xai (by simpa using hi)] at hl;simp at hl
 ·rw [xag,xai (by simpa using hk)];simpa using hw0
def zmb {w':World} (h:(execOp a.eval o).run P w=.ok (.value v) w') (hK:K (a.put o.dst v) w'):o.wp P a w K Q:=by
 unfold Oper.wp;rw [h];exact hK
def zmd {w:World} {K:Act->World->Prop} {Q:Exit->Act->World->Prop} {f s off b:Nat} {fs:Array Field} {fl:Field} (ho:o.op=.fieldAddr t x f) (ht:P.underlying t=some (.struct fs)) (hf:fs[f]?=some fl) (hs:zX P fl.type=some s) (h0:s≠0) (hx:a.eval x=.pointer (some ⟨b,off,none⟩))
  (hK:K (a.put o.dst (.pointer (some ⟨b,off+fl.offset,none⟩))) w):o.wp P a w K Q:=
 zmb (by simp [execOp,ho,hx,zcT ht hf hs h0,Addr.add_lit0]) hK
def zmc {ad:Addr} (ho:o.op=.load t x) (hs:zX P t=some 1) (hag:zC P t=some false) (hx:a.eval x=.pointer (some ad)) (hc:w.cell? ad=some v) (hK:K (a.put o.dst v) w):o.wp P a w K Q:=by
 refine zmb (w':=w) (zds ho ?_) hK;have:=zcD (P:=P) (w:=w) (a:=ad) hs hag [v] rfl (λj u hj=>by
  cases j with
  | zero=>simp at hj;subst hj;simpa [Addr.add] using hc
  | succ j=>simp at hj) λ_=>rfl
 rw [hx,this];rfl
def zpj {K:Act→World→Prop} {Q:Exit→Act→World→Prop} {f:FuncId} {args:Array Operand} {ts:Array TypeId} {vs:Array Value} (ho:o.op=.call { callee:=.value (.func f),args:=args,argTypes:=ts }) (hf:zb3 P f) (hv:args.map a.eval=vs) (hc:Calls P f vs w fun e w'=>e=.returned v∧w'=w) (hK:K (a.put o.dst v) w):o.wp P a w K Q:=by
 obtain ⟨fn,c,h1,h2,h3⟩:=hf
 have hrun:(execOp a.eval o).run P w=.ok (.enter f vs) w:=by
  have h2' : ¬ fn.name = "runtime.NumGoroutine" := by simpa using h2
  simp [execOp,ho,resolve,Act.eval,Deferred.ofValue,invoke,callFunc,h1,h2',h3]
  exact hv
 unfold Oper.wp;rw [hrun]
 refine hc.mono ?_
 rintro e w' ⟨rfl,rfl⟩
 exact hK
def dC:Nat->Nat:=λi=>if i=12 then 4 else i+5
def w157 (x1 x2 y1 y2:Int) (w:World):Calls prog 157 #[.agg #[.int .i64 x1,.int .i64 x2],.agg #[.int .i64 y1,.int .i64 y2]] w λe w'=>e=.returned (.int .i64 (kOr (kI x1 y1) (kI x2 y2)))/\∃ q os',w'=grow (w.drewN q) os':=by
 go_enter func157,ntmps157
 go_wp2_with fail
 rename_i K' hK';obtain ⟨W,hW⟩:∃ W,W=((w.alloc (Obj.cells #[Value.int IntKind.i64 x1,Value.int IntKind.i64 x2] 171)).alloc (Obj.cells #[Value.int IntKind.i64 y1,Value.int IntKind.i64 y2] 171)):=⟨_,rfl⟩;rw [<-hW];have hs:W.heap.size=w.heap.size+2:=by rw [hW];simp
 have c0:W.cell? ⟨w.heap.size,0,none⟩=some (.int .i64 x1):=by rw [hW];simp
 have c1:W.cell? ⟨w.heap.size,1,none⟩=some (.int .i64 x2):=by rw [hW];simp
 have c2:W.cell? ⟨w.heap.size+1,0,none⟩=some (.int .i64 y1):=by rw [hW];simp
 have c3:W.cell? ⟨w.heap.size+1,1,none⟩=some (.int .i64 y2):=by rw [hW];simp
 have hg:∃ os,W=grow w os:=⟨_,by rw [hW,alloc_eq_grow,alloc_eq_grow,grow_grow]⟩
 refine zk2 (by kernel_rfl) dC (λi=>match i with
  | 0=>.pointer (some ⟨w.heap.size,0,none⟩)|1=>.int .i64 x1|2=>.pointer (some ⟨w.heap.size+1,0,none⟩)|3=>.int .i64 y1|4=>.int .i64 (kI x1 y1)
  | 5=>.pointer (some ⟨w.heap.size,1,none⟩)|6=>.int .i64 x2|7=>.pointer (some ⟨w.heap.size+1,1,none⟩)|8=>.int .i64 y2|9=>.int .i64 (kI x2 y2)
  | 10=>.slice (some ⟨W.heap.size,0,none⟩) 2 2|_=>.int .i64 (kOr (kI x1 y1) (kI x2 y2))) 10
  (λb w'=>∃ n,w'=grow (W.drewN n) (if b then #[.cells #[.int .i64 (kI x1 y1),.int .i64 (kI x2 y2)] 3] else #[])) (by decide) ⟨1,by simp;rfl⟩ ?_ ?_ ?_ ?_ ?_ ?_
 ·intro i o h
  match i,h with
  | 0,h|1,h|2,h|3,h|4,h|5,h|6,h|7,h|8,h|9,h|10,h|11,h|12,h=>cases h;exact ⟨rfl,rfl⟩
  | n+13,h=>simp at h
 ·intro i j hi hj h;simp at hi hj;unfold dC at h
  split at h<;>split at h<;>omega
 ·intro i hi;simp at hi ⊢;unfold dC;split<;>omega
 ·intro i o h
  match i,h with
  | 0,h|1,h|2,h|3,h|4,h|5,h|6,h|7,h|8,h|9,h|10,h|11,h|12,h=>cases h;simp
  | n+13,h=>simp at h
 ·intro i o a w' b h hrest hdep hk hw K hK;have e2:a.eval (.tmp 2)=.pointer (some ⟨w.heap.size,0,none⟩):=by rw [hrest 2 (λj _=>by unfold dC;split<;>omega)];rfl
  have e3:a.eval (.tmp 3)=.pointer (some ⟨w.heap.size+1,0,none⟩):=by rw [hrest 3 (λj hj=>by simp at hj;unfold dC;split<;>omega)];rfl
  have hWP:∀ b',b'=b->(∃ n,w'=grow (W.drewN n) (if b'=true then #[.cells #[.int .i64 (kI x1 y1),.int .i64 (kI x2 y2)] 3] else #[])):=λb' e=>by rw [e];exact hw
  obtain ⟨n,hn⟩:=hw;have hcell:∀ (blk off:Nat) (v:Value),blk < W.heap.size->W.cell? ⟨blk,off,none⟩=some v->w'.cell? ⟨blk,off,none⟩=some v:=λblk off v hb hv=>by
   rw [hn,cell?_grow _ _ _ (by exact hb)];exact hv
  have q0:=hcell _ _ _ (by omega) c0
  have q1:=hcell _ _ _ (by omega) c1
  have q2:=hcell _ _ _ (by omega) c2
  have q3:=hcell _ _ _ (by omega) c3
  have nb:∀ i,i≠10->(∃ n,w'=grow (W.drewN n) (if (b || decide (i=10))=true then #[.cells #[.int .i64 (kI x1 y1),.int .i64 (kI x2 y2)] 3] else #[])):=λi hi=>by rw [decide_eq_false hi,xcs];exact hWP b rfl
  have s1:zX (prog) 3=some 1:=rfl;have s2:zC (prog) 3=some false:=rfl
  match i,h with
  | 0,h=>cases h;exact zmd rfl underlying171 rfl rfl (by decide) e2 (hK w' (nb _ (by decide)))
  | 1,h=>cases h;exact zmc rfl s1 s2 (hdep ⟨0,.data⟩ (by simp) rfl).1 q0 (hK w' (nb _ (by decide)))
  | 2,h=>cases h;exact zmd rfl underlying171 rfl rfl (by decide) e3 (hK w' (nb _ (by decide)))
  | 3,h=>cases h;exact zmc rfl s1 s2 (hdep ⟨2,.data⟩ (by simp) rfl).1 q2 (hK w' (nb _ (by decide)))
  | 5,h=>cases h;exact zmd rfl underlying171 rfl rfl (by decide) e2 (hK w' (nb _ (by decide)))
  | 6,h=>cases h;exact zmc rfl s1 s2 (hdep ⟨5,.data⟩ (by simp) rfl).1 q1 (hK w' (nb _ (by decide)))
  | 7,h=>cases h;exact zmd rfl underlying171 rfl rfl (by decide) e3 (hK w' (nb _ (by decide)))
  | 8,h=>cases h;exact zmc rfl s1 s2 (hdep ⟨7,.data⟩ (by simp) rfl).1 q3 (hK w' (nb _ (by decide)))
  | 4,h=>
   cases h;have d1:a.eval (.tmp 6)=.int .i64 x1:=(hdep ⟨1,.data⟩ (by simp) rfl).1
   have d2:a.eval (.tmp 8)=.int .i64 y1:=(hdep ⟨3,.data⟩ (by simp) rfl).1
   exact zpj rfl ⟨_,_,func159,rfl,rfl⟩ (by simp [d1,d2]) (w159 x1 y1 w') (hK w' (nb _ (by decide)))
  | 9,h=>
   cases h;have d1:a.eval (.tmp 11)=.int .i64 x2:=(hdep ⟨6,.data⟩ (by simp) rfl).1
   have d2:a.eval (.tmp 13)=.int .i64 y2:=(hdep ⟨8,.data⟩ (by simp) rfl).1
   exact zpj rfl ⟨_,_,func159,rfl,rfl⟩ (by simp [d1,d2]) (w159 x2 y2 w') (hK w' (nb _ (by decide)))
  | 10,h=>
   cases h;have d1:a.eval (.tmp 9)=.int .i64 (kI x1 y1):=(hdep ⟨4,.data⟩ (by simp) rfl).1
   have d2:a.eval (.tmp 14)=.int .i64 (kI x2 y2):=(hdep ⟨9,.data⟩ (by simp) rfl).1
   have hb:=hk rfl;refine zmb (v:=.slice (some ⟨w'.heap.size,0,none⟩) 2 2) (w':=w'.alloc (.cells #[.int .i64 (kI x1 y1),.int .i64 (kI x2 y2)] 3)) ?_ ?_
   ·have hf:Instr.fill (λi=>some (i,1)) (Array.map (λx=>(Value.int IntKind.i64 0).cells[x % (Value.int IntKind.i64 0).cells.size]!) (Array.range 2)) [(0,Value.int IntKind.i64 (kI x1 y1)),(1,Value.int IntKind.i64 (kI x2 y2))]=some #[.int .i64 (kI x1 y1),.int .i64 (kI x2 y2)]:=by kernel_rfl
    simp [execOp,d1,d2,Instr.buildSlice,run_underlying underlying38,hf,newRow]
   ·have e:=hK (w'.alloc (.cells #[.int .i64 (kI x1 y1),.int .i64 (kI x2 y2)] 3)) ⟨n,by rw [hn,hb];simp [alloc_eq_grow]⟩
    have e9:w'.heap.size=W.heap.size:=by rw [hn,hb];simp
    rw [e9];exact e
  | 11,h=>
   cases h;obtain ⟨d1,d2⟩:=hdep ⟨10,.data⟩ (by simp) rfl
   have d1:a.eval (.tmp 15)=.slice (some ⟨W.heap.size,0,none⟩) 2 2:=d1;have hb:=d2 rfl;have hnew:∀ (j:Nat) (v:Value),(#[.int .i64 (kI x1 y1),.int .i64 (kI x2 y2)]:Array Value)[j]?=some v->w'.cell? ⟨W.heap.size,j,none⟩=some v:=λj v hv=>by
    rw [hn,hb,if_pos rfl];have e9:(W.drewN n).heap.size=W.heap.size:=rfl;rw [<-alloc_eq_grow,<-e9];simp [World.cell?,World.alloc,hv]
   exact zpj rfl ⟨_,_,func158,rfl,rfl⟩ (by simp [d1]) (w158 _ _ _ 2 w' (hnew 0 _ rfl) (hnew 1 _ rfl)) (hK w' (nb _ (by decide)))
  | 12,h=>
   cases h;refine zmb (v:=.int .i64 (kOr (kI x1 y1) (kI x2 y2))) (w':=w') ?_ (hK w' (nb _ (by decide)))
   have d1:a.eval (.tmp 16)=.int .i64 (kOr (kI x1 y1) (kI x2 y2)):=(hdep ⟨11,.data⟩ (by simp) rfl).1
   simp [execOp,d1]
  | n+13,h=>simp at h
 ·intro a w' hsz hdf hrest hvals hw;obtain ⟨n,hn⟩:=hw;rw [if_pos rfl] at hn;refine hK' _ _ ?_;have hv:∀ t,t < 17->a.tmps[t]?=some (a.eval (.tmp t)):=λt ht=>by
   have hl:t < a.tmps.size:=by rw [hsz];exact ht
   simp [Act.eval,xag,hl]
  have v4:a.eval (.tmp 4)=.int .i64 (kOr (kI x1 y1) (kI x2 y2)):=hvals 12 (by decide)
  obtain ⟨tmps,defers⟩:=a;have hdf:defers=[]:=hdf;subst hdf;obtain ⟨os,hg⟩:=hg;have hr:(results f157 tmps).run prog w'=.ok (.int .i64 (kOr (kI x1 y1) (kI x2 y2))) w':=by
   rw [results_tmp rfl];exact congrArg (Result.ok · w') v4
  refine wp_ret ?_;refine bodyPost_ret (P:=prog) (fn:=f157) (R:=λe w'=>e=.returned (.int .i64 (kOr (kI x1 y1) (kI x2 y2)))/\∃ q os',w'=grow (w.drewN q) os') (a:=⟨tmps,[]⟩) (w:=w') hr rfl ⟨rfl,n,os++#[.cells #[.int .i64 (kI x1 y1),.int .i64 (kI x2 y2)] 3],?_⟩
  rw [hn,hg];show grow ((grow w os).drewN n) _=_;show grow (grow (w.drewN n) os) _=_;rw [grow_grow]
def zhm (x y:Ky):Int:=kOr (kI x.1 y.1) (kI x.2 y.2)
def zyz (blk off size:Nat) (w:World):CmpLays prog 157 #[] zal 2 zhm blk off size w:=λ_ _ _ _ x y=>w157 _ _ _ _ _
def ltK (x y:Ky):ltOf zhm x y=decide (x.1 < y.1\/(x.1=y.1/\x.2 < y.2)):=by
 unfold ltOf zhm kOr kI
 by_cases h1:x.1 < y.1
 ·have:(x.1:Int) < y.1:=by omega
  simp [h1]
 ·by_cases h2:y.1 < x.1
  ·have:(y.1:Int) < x.1:=by omega
   simp [h1,h2]
   omega
  ·have:x.1=y.1:=by omega
   rw [this]
   by_cases h3:x.2 < y.2<;>by_cases h4:y.2 < x.2<;>simp [h3,h4]
def swoK:SWO (ltOf zhm) where
 irrefl x:=by rw [ltK];simp
 trans x y z h1 h2:=by rw [ltK] at *;simp only [decide_eq_true_eq] at *;omega
 ntrans x y z h1 h2:=by rw [ltK] at *;simp only [decide_eq_false_iff_not] at *;omega
open Go.Proofs Go.RowKit Tryz Go.Lib Go.Sort
def zAE (x:Ky) (hx:IntKind.i64.wrap x.1=x.1/\IntKind.i64.wrap x.2=x.2) (w:World) (B:Nat->Prop):Rep w B (.agg (zal x).toArray) (.agg [.i .i64 x.1,.i .i64 x.2]):=by
 refine .agg rfl λj v p hv hp=>?_
 match j with
 | 0=>simp [zal] at hv hp;subst hv;subst hp;exact .i hx.1
 | 1=>simp [zal] at hv hp;subst hv;subst hp;exact .i hx.2
 | j+2=>simp at hp
abbrev WK (x:Ky):Prop:=IntKind.i64.wrap x.1=x.1/\IntKind.i64.wrap x.2=x.2
def zBD (x y:Ky) (hx:WK x) (hy:WK y) (w:World):(binOp .eql 171 (.agg (zal x).toArray) (.agg (zal y).toArray)).run prog w=.ok (.bool (decide (x=y))) w:=by
 obtain ⟨ag,h0,h1,h2,h3,h4⟩:=zbH (P:=prog) (w:=w) (B:=λ_=>True) 10 171 [1,1] (by kernel_rfl) 10000 (by omega)
 have:=h4 _ _ _ _ (zAE x hx w _) (zAE y hy w _) (by have h2':zC prog 171=some true:=(by kernel_rfl);rw [h2'] at h2;injection h2) (by have h2':zC prog 171=some true:=(by kernel_rfl);rw [h2'] at h2;injection h2) ⟨rfl,rfl,trivial⟩
 rw [run_eql_struct,this,Result.andThen_ok];have e:eqCells (PV.agg [.i .i64 (x.1:Int),.i .i64 x.2]).cells (PV.agg [.i .i64 (y.1:Int),.i .i64 y.2]).cells=decide (x=y):=by
  simp only [PV.cells,eqCells,eqPV,xbL];rw [<-Bool.decide_and];exact decide_eq_decide.2 ⟨λh=>Prod.ext (by have:=h.1;omega) h.2,λh=>by rw [h];exact ⟨rfl,rfl⟩⟩
 rw [e]
def neq_k (x y:Ky) (hx:WK x) (hy:WK y) (w:World):(binOp .neq 171 (.agg (zal x).toArray) (.agg (zal y).toArray)).run prog w=.ok (.bool (!decide (x=y))) w:=by
 have:=zBD x y hx hy w;rw [run_eql_struct] at this;rw [run_neq_struct];generalize Sem.run prog (Op.equalIn 10000 171 (Value.agg (zal x).toArray) (Value.agg (zal y).toArray)) w=r at *;cases r with
 | ok b w'=>simp only [Result.andThen_ok] at this ⊢;injection this with e1 e2;injection e1 with e1;rw [e1,e2]
 | halt h w'=>cases this
def zB1 (op:BinOp) (x y:Ky) (a b:Operand) (w:World):(eqGuard op 171 a b (.agg (zal x).toArray) (.agg (zal y).toArray)).run prog w=.ok () w:=run_eqGuard_agg w op 171 a b _ _ (by kernel_rfl)
def clK {W:World} {blk:Nat} {d:Array Ky} (hH:HoldsK zal 2 W blk 0 d) {i:Nat} (hi:i < d.size):W.cell? ⟨blk,i*2,none⟩=some (.int .i64 (d[i]!).1)/\W.cell? ⟨blk,i*2+1,none⟩=some (.int .i64 (d[i]!).2):=by
 have h:=HoldsK.cells hH (λ_=>rfl) hi
 exact ⟨by have:=h 0 _ rfl;simpa [zal,Addr.add] using this,by have:=h 1 _ rfl;simpa [zal,Addr.add] using this⟩
def zkV (d:Array Ky) (i:Nat) (hi:i < d.size) (y:Ky):setMany (Sort.flatK zal 2 d) (i*2) (zal y)=Sort.flatK zal 2 (d.setIfInBounds i y):=by
 refine ext_get! (by simp) λt ht=>?_
 have ht':t < d.size*2:=by simpa using ht
 rw [get_setMany _ _ _ t (by simpa using ht'),get_flatK _ _ _ t ht',get_flatK _ _ _ t (by simpa using ht')]
 show (if i*2<=t/\t < i*2+2 then (zal y)[t - i*2]! else _)=_
 by_cases a:t / 2=i
 ·rw [if_pos ((blk_iff 2 i t (by omega)).2 a),a,getElem!_set_same d i y hi]
  congr 1;omega
 ·rw [if_neg λh=>a ((blk_iff 2 i t (by omega)).1 h),getElem!_set_other d i _ y a]
theorem zgi:∀ (a b:List Value) (s:Nat) (F:Array Value),setMany F s (a++b)=setMany (setMany F s a) (s+a.length) b
 | [],b,s,F=>by simp [setMany]
 | v::a,b,s,F=>by
  rw [xaM,setMany,setMany,zgi a b (s+1),xaz]
  congr 1;omega
theorem zd3:∀ (xs:List Ky) (d:Array Ky) (k:Nat),k+xs.length<=d.size->setMany (Sort.flatK zal 2 d) (k*2) (xs.flatMap zal)=Sort.flatK zal 2 (lay d k xs)
 | [],d,k,_=>by simp [setMany,lay]
 | x::r,d,k,h=>by
  simp only [xaz] at h;rw [xat,zgi,zkV d k (by omega),lay]
  have:=zd3 r (d.setIfInBounds k x) (k+1) (by simp;omega)
  rw [<-this]
  congr 1
  simp [zal];omega
def zqm (w:World) (blk:Nat) (d:Array Ky) (k:Nat) (xs:List Ky) (h:k+xs.length<=d.size):(putRowK zal 2 w blk 0 d).setCells blk (k*2) (xs.flatMap zal)=putRowK zal 2 w blk 0 (lay d k xs):=by
 have hl:(xs.flatMap zal).length=xs.length*2:=by
  clear h
  induction xs with
  | nil=>rfl
  | cons x r ih=>rw [xat,xad,ih,xaz];simp [zal];omega
 have:=setCells_putRow w blk 0 (xs.flatMap zal) (k*2) (Sort.flatK zal 2 d) (by rw [hl,Sort.size_flatK];omega)
 rw [xb8] at this;unfold putRowK;rw [this,zd3 xs d k h]
def zc_n (n:Nat):(Builtin.zeroCells #[.int .i64 0,.int .i64 0] n).toList=(List.replicate n ((0,0):Ky)).flatMap zal:=by
 have:=zfG #[.int .i64 0,.int .i64 0] n;rw [show (Builtin.zeroCells #[.int .i64 0,.int .i64 0] n)=(Array.range (n*(#[.int .i64 0,.int .i64 0]:Array Value).size)).map ((#[.int .i64 0,.int .i64 0]:Array Value)[· % (#[.int .i64 0,.int .i64 0]:Array Value).size]!) from rfl,this,List.flatMap_def,List.map_replicate]
 rfl
def zzD (w:World) (ty:TypeId) (blk o n c:Nat) (hn:0 < n) (hc:∀ j,j < n*2->(w.cell? ⟨blk,o+j,none⟩).isSome=true) (hf:∀ j,j < n*2->w.frozen? ⟨blk,o+j,none⟩=false) :
  (Builtin.clear_ #[153] ty #[.slice (some ⟨blk,o,none⟩) n c]).run prog w=.ok (.tuple #[]) (w.setCells blk o ((List.replicate n ((0,0):Ky)).flatMap zal)):=by
 have hz:=zc_n n;have hv:∀ w,(zeroValue 171).run prog w=.ok (.agg #[.int .i64 0,.int .i64 0]) w:=λw=>by
  obtain ⟨i,h1,h2⟩:∃ i,prog.info? 171=some i/\i.zero=some (.agg #[.int .i64 0,.int .i64 0]):=⟨_,rfl,rfl⟩;simp [zeroValue,typeInfo,h1,h2]
 have hl:((List.replicate n ((0,0):Ky)).flatMap zal).length=n*2:=by
  clear hc hf hz hn
  induction n with
  | zero=>rfl
  | succ n ih=>rw [List.replicate_succ,xat,xad,ih];simp [zal];omega
 have hst:=run_storeCells_cells (P:=prog) blk o ((List.replicate n ((0,0):Ky)).flatMap zal) 0 w (by rw [hl];simpa using hc) (by rw [hl];simpa using hf) (λv hv=>by
  obtain ⟨x,hx,hv⟩:=xaw.1 hv;have:=List.eq_of_mem_replicate hx;subst this;simp [zal] at hv;subst hv;rfl)
 simp only [xbt] at hst;have hz':(Builtin.zeroCells (Value.agg #[.int .i64 0,.int .i64 0]).cells n).toList=(List.replicate n ((0,0):Ky)).flatMap zal:=hz;obtain ⟨m,rfl⟩:∃ m,n=m+1:=⟨n - 1,by omega⟩
 simp [Builtin.clear_,run_underlying underlying153,hv,hz',hst]
def zlZ (blk cap:Nat) (d:Array Ky) (w:World) (hW:∀ x ∈ d,WK x) (hH:HoldsK zal 2 w blk 0 d) (hblk:blk < w.heap.size) (hsz:d.size≤1000000000000) (hcap:d.size≤cap) :
  Calls prog 160 #[.slice (some ⟨blk,0,none⟩) d.size cap] w fun e w'=>e=.returned (.slice (some ⟨blk,0,none⟩) (compactUpTo d d.size).length cap)∧∃ q,w'=putRowK zal 2 (Sort.ahead w q) blk 0 (compactUpTo d d.size++List.replicate (d.size - (compactUpTo d d.size).length) (0,0)).toArray:=by
 have same:∀ q,(∀ j,j < d.size→keeps d j=true)→(compactUpTo d d.size).length=d.size∧w.drewN q=putRowK zal 2 (Sort.ahead w q) blk 0 (compactUpTo d d.size++List.replicate (d.size - (compactUpTo d d.size).length) (0,0)).toArray:=by
  intro q hall
  have e:compactUpTo d d.size=d.toList:=by rw [compactUpTo_all d _ hall,range_map_get]
  rw [e]
  refine ⟨by simp,?_⟩
  simp only [xbZ,xcm,List.replicate_zero,xar,Array.toArray_toList]
  exact (putRow_self id (Sort.ahead w q) blk 0 (Sort.flatK zal 2 d) (holds_ahead id w q blk 0 _ hH)).symm
 have HS:Aside (∀ q,(∀ j,j < d.size→keeps d j=true)→(compactUpTo d d.size).length=d.size∧w.drewN q=putRowK zal 2 (Sort.ahead w q) blk 0 (compactUpTo d d.size++List.replicate (d.size - (compactUpTo d d.size).length) (0,0)).toArray):=same
 clear same
 have mixed:prog.follows .mixedOrders=true:=by kernel_rfl
 by_cases h2:d.size < 2
 ·have HH:Aside (HoldsK zal 2 w blk 0 d):=hH
  clear hH
  go_enter func160,ntmps160
  go_wp2
  go_ret
  obtain ⟨e1,e2⟩:=HS.out 0 (fun j hj=>keeps_lt_one d j (by omega))
  exact ⟨by rw [e1];rfl,0,e2⟩
 ·go_enter func160,ntmps160
  go_wp2
  go_loopg [3] d.size (fun g s3 wr=>∃ k q:Nat,1≤k∧k≤d.size∧d.size - k≤g∧s3=.int .i64 k∧wr=w.drewN q∧∀ j,j < k→keeps d j=true)
  case atStart=>exact ⟨1,0,xap _,by omega,by omega,rfl,rfl,keeps_lt_one d⟩
  case round=>
   obtain ⟨k,q,hk1,hk,hg,rfl,rfl,hall⟩:=hrel
   by_cases hlt:k < d.size
   ·have hHq:HoldsK zal 2 (w.drewN q) blk 0 d:=holdsK_ahead zal 2 w q blk 0 d hH
    obtain ⟨c1,c2⟩:=clK hHq hlt
    obtain ⟨c3,c4⟩:=clK hHq (i:=k - 1) (by omega)
    have A:Aside (∀ j,j < k→keeps d j=true):=hall
    have HH:Aside (HoldsK zal 2 w blk 0 d):=hH
    have wx:WK d[k]!:=by rw [getElem!_pos d k hlt];exact hW _ (Array.getElem_mem _)
    have wy:WK d[k - 1]!:=by rw [getElem!_pos d (k - 1) (by omega)];exact hW _ (Array.getElem_mem _)
    have WH:Aside (∀ x ∈ d,WK x):=hW
    clear hall hH hW hHq
    generalize hx:d[k]! =x at c1 c2 wx
    generalize hy:d[k - 1]! =y at c3 c4 wy
    have B:Aside (d[k]! =x∧d[k - 1]! =y):=⟨hx,hy⟩
    clear hx hy
    generalize hwq:w.drewN q=wq at c1 c2 c3 c4 ⊢
    have WQ:Aside (w.drewN q=wq):=hwq
    clear hwq
    have q1:∀ W,(binOp .eql 171 (.agg #[.int .i64 x.1,.int .i64 x.2]) (.agg #[.int .i64 y.1,.int .i64 y.2])).run prog W=.ok (.bool (decide (x=y))) W:=fun W=>zBD x y wx wy W
    have q2:∀ op a b W,(eqGuard op 171 a b (.agg #[.int .i64 x.1,.int .i64 x.2]) (.agg #[.int .i64 y.1,.int .i64 y.2])).run prog W=.ok () W:=fun op a b W=>zB1 op x y a b W
    have hwk:IntKind.i64.wrap ((k:Int) - 1)=((k - 1:Nat):Int):=by simp only [IntKind.wrap,IntKind.bits,IntKind.signed];simp;omega
    by_cases hdup:x=y
    ·subst hdup
     go_wp2_with fail
     go_quiet (fail)
     go_wp2
     clear c1 c2 c3 c4
     go_loopg [3,5] d.size (fun g s3 s5 wr=>∃ (kk k2 q2:Nat) (dk:Array Ky),s3=.int .i64 kk∧s5=.int .i64 k2∧1≤k2∧k+k2≤d.size∧d.size - (k+k2)≤g∧wr=putRowK zal 2 (Sort.ahead w q2) blk 0 dk∧(∀ x ∈ dk,WK x)∧CompInv d (k+k2) kk dk)
     case atStart=>exact ⟨k,1,q+nq,d,rfl,rfl,xap _,by omega,by omega,by rw [←WQ.out,World.drewN_drewN];exact (putRow_self id (Sort.ahead w (q+nq)) blk 0 (Sort.flatK zal 2 d) (holds_ahead id w (q+nq) blk 0 _ HH.out)).symm,WH.out,CompInv.start A.out (keeps_neg (by omega) (by rw [B.out.1,B.out.2]))⟩
     case round=>
      obtain ⟨kk,k2,q2,dk,rfl,rfl,h1,hle,hg2,hwr,hWd,hI⟩:=hrel
      have hkk:=hI.lt
      have hds:=hI.size
      have hHk:HoldsK zal 2 wr blk 0 dk:=by rw [hwr];exact holdsK_putRowK zal 2 _ blk 0 d dk (holdsK_ahead zal 2 w q2 blk 0 d HH.out) hds
      have W2:Aside (wr=putRowK zal 2 (Sort.ahead w q2) blk 0 dk):=hwr
      have I2:Aside (CompInv d (k+k2) kk dk):=hI
      have D2:Aside (∀ x ∈ dk,WK x):=hWd
      clear hwr hWd
      have hwm:IntKind.i64.wrap ((k2:Int) - 1)=((k2 - 1:Nat):Int):=by simp only [IntKind.wrap,IntKind.bits,IntKind.signed];simp;omega
      by_cases hlt2:k+k2 < d.size
      ·obtain ⟨p1,p2⟩:=clK hHk (i:=k+k2) (by omega)
       obtain ⟨p3,p4⟩:=clK hHk (i:=k+k2 - 1) (by omega)
       obtain ⟨p5,p6⟩:=clK hHk (i:=kk) (by omega)
       have f0:∀ t,t < d.size*2→wr.frozen? ⟨blk,t,none⟩=false:=fun t ht=>by
        have:=(hHk t (by rw [Sort.size_flatK,hds];exact ht)).2;simpa using this
       have f5:=f0 (kk*2) (by omega)
       have f6:=f0 (kk*2+1) (by omega)
       rw [hI.high (k+k2) (by omega),show (k+k2)*2=k*2+k2*2 by omega] at p1 p2
       rw [hI.high (k+k2 - 1) (by omega),show (k+k2 - 1)*2=k*2+(k2 - 1)*2 by omega] at p3 p4
       have wu:WK d[k+k2]!:=by rw [getElem!_pos d _ hlt2];exact WH.out _ (Array.getElem_mem _)
       have wv:WK d[k+k2 - 1]!:=by rw [getElem!_pos d _ (by omega)];exact WH.out _ (Array.getElem_mem _)
       clear hHk hI f0
       generalize hu:d[k+k2]! =u at p1 p2 wu
       generalize hv:d[k+k2 - 1]! =v at p3 p4 wv
       have Cc:Aside (d[k+k2]! =u∧d[k+k2 - 1]! =v):=⟨hu,hv⟩
       clear hu hv
       have q5:∀ W,(binOp .neq 171 (.agg #[.int .i64 u.1,.int .i64 u.2]) (.agg #[.int .i64 v.1,.int .i64 v.2])).run prog W=.ok (.bool (!decide (u=v))) W:=fun W=>neq_k u v wu wv W
       have q6:∀ op a b W,(eqGuard op 171 a b (.agg #[.int .i64 u.1,.int .i64 u.2]) (.agg #[.int .i64 v.1,.int .i64 v.2])).run prog W=.ok () W:=fun op a b W=>zB1 op u v a b W
       by_cases huv:u=v
       ·subst huv
        go_wp2_with fail
        go_quiet (fail)
        go_wp2
        go_roundg (d.size - (k+(k2+1)))
        case measure=>omega
        case rel=>exact ⟨kk,k2+1,q2+nq,dk,rfl,by go_num,by omega,by omega,xap _,by rw [W2.out];exact putRowK_drewN _ _ _ _ _ _ _ _,D2.out,I2.out.skip (keeps_neg (by omega) (by rw [Cc.out.1,Cc.out.2]))⟩
       ·have q7:=eq_false huv
        go_wp2_with fail
        go_quiet (fail)
        go_wp2
        go_roundg (d.size - (k+(k2+1)))
        case measure=>omega
        case rel=>
         refine ⟨kk+1,k2+1,q2+nq,dk.setIfInBounds kk u,by go_num,by go_num,by omega,by omega,xap _,?_,fun z hz=>?_,by have:=I2.out.keep hlt2 (keeps_pos (by rw [Cc.out.1,Cc.out.2];exact huv));rwa [Cc.out.1] at this⟩
         ·rw [W2.out,putRowK_drewN]
          have:=zqm (Sort.ahead w (q2+nq)) blk dk kk [u] (by simp;omega)
          simpa [zal,World.setCells,lay] using this
         ·obtain ⟨t,ht,rfl⟩:=Array.mem_iff_getElem.1 hz
          have ht':t < dk.size:=by simpa using ht
          rw [Array.getElem_setIfInBounds ht']
          split
          ·exact wu
          ·exact D2.out _ (Array.getElem_mem _)
      ·have hend:k+k2=d.size:=by omega
       have hclr:∀ ty,(Builtin.clear_ #[153] ty #[.slice (some ⟨blk,kk*2,none⟩) (d.size - kk) (cap - kk)]).run prog wr=.ok (.tuple #[]) (wr.setCells blk (kk*2) ((List.replicate (d.size - kk) ((0,0):Ky)).flatMap zal)):=fun ty=>by
        refine zzD wr ty blk (kk*2) _ _ (by omega) (fun j hj=>?_) fun j hj=>?_
        ·have:=(hHk (kk*2+j) (by rw [Sort.size_flatK,hds];omega)).1
         rw [xb8] at this;rw [this];rfl
        ·have:=(hHk (kk*2+j) (by rw [Sort.size_flatK,hds];omega)).2
         rwa [xb8] at this
       clear hHk hI
       go_wp2
       go_ret
       have hI:=I2.out
       rw [hend] at hI
       refine ⟨by rw [hI.len];rfl,q2,?_⟩
       rw [hI.len,←hI.done (0,0),W2.out]
       exact zqm (Sort.ahead w q2) blk dk kk _ (by simp;omega)
    ·have q3:=eq_false hdup
     go_wp2_with fail
     go_quiet (fail)
     go_wp2
     go_roundg (d.size - (k+1))
     case measure=>omega
     case rel=>
      refine ⟨k+1,q+nq,by omega,by omega,xap _,by go_num,by rw [←WQ.out,World.drewN_drewN],fun j hj=>?_⟩
      by_cases e:j=k
      ·subst e
       exact keeps_pos (by rw [B.out.1,B.out.2];exact hdup)
      ·exact A.out j (by omega)
   ·have:k=d.size:=by omega
    subst this
    have HH:Aside (HoldsK zal 2 w blk 0 d):=hH
    clear hH
    go_wp2
    go_ret
    obtain ⟨e1,e2⟩:=HS.out q hall
    exact ⟨by rw [e1];rfl,q,e2⟩
theorem zhR {α:Type} [DecidableEq α] (x:α):∀ (L:List α),zbu (L++[x])=zbu L++if L.getLast?=some x then [] else [x]
 | []=>by simp [zbu]
 | [a]=>by
  simp only [xaM,xaL,zbu,List.getLast?_singleton,xaK]
  split<;>simp_all
 | a::b::r=>by
  have ih:=zhR x (b::r);rw [xaM] at ih;simp only [xaM,zbu,ih];have:(a::b::r).getLast?=(b::r).getLast?:=by simp [List.getLast?_cons_cons]
  rw [this]
  split<;>simp
theorem zne (d:Array Ky):∀ m,m<=d.size->compactUpTo d m=zbu (d.toList.take m)
 | 0,_=>by simp [compactUpTo,zbu]
 | m+1,h=>by
  have hm:d.toList[m]?=some d[m]!:=by
   rw [getElem!_pos d m (by omega)];simp
  rw [compactUpTo_succ,zne d m (by omega),xaW,hm]
  simp only [xcu];rw [zhR]
  congr 1
  cases m with
  | zero=>simp [keeps]
  | succ m=>
   have hm2:d.toList[m]?=some d[m]!:=by
    rw [getElem!_pos d m (by omega)];simp
   have hl:(d.toList.take (m+1)).getLast?=some d[m]!:=by
    rw [xaW,hm2];simp
   rw [hl]
   by_cases e:d[m+1]! =d[m]!
   ·have k1:keeps d (m+1)=false:=keeps_neg (by omega) (by simpa using e)
    rw [k1,e];simp
   ·have k1:keeps d (m+1)=true:=keeps_pos (by simpa using e)
    have k2:¬some d[m]! =some d[m+1]!:=λk=>e (xa5 k).symm
    rw [k1,if_neg k2,if_pos rfl]
open Go.Proofs Go.RowKit Tryz Go.Lib Go.Sort
def ziY (L:List Ky):(Sort.flatK zal 2 L.toArray).toList=L.flatMap zal:=by
 have:=zd3 L (Array.replicate L.length ((0,0):Ky)) 0 (by simp)
 have key:∀ (L:List Ky) (t:Nat),t < L.length*2->(L.flatMap zal)[t]?=some ((zal (L[t / 2]?.getD (0,0)))[t % 2]!):=λL=>by
  induction L with
  | nil=>intro t ht;simp at ht
  | cons x r ih=>
   intro t ht;simp only [xaz] at ht;rw [xat]
   match t with
   | 0=>rfl
   | 1=>rfl
   | t+2=>
    rw [xaB (by simp [zal])]
    have h1:t+2 - (zal x).length=t:=by simp [zal]
    rw [h1,ih t (by omega),show (t+2) / 2=t / 2+1 by omega,show (t+2) % 2=t % 2 by omega,xbj]
 have hl:(L.flatMap zal).length=L.length*2:=by
  clear key this
  induction L with
  | nil=>rfl
  | cons x r ih=>rw [xat,xad,ih,xaz];simp [zal];omega
 refine xco λt=>?_
 by_cases ht:t < L.length*2
 ·rw [key L t ht];have h2:t / 2 < L.length:=by omega
  rw [Sort.flatK,xbT,xal,Array.toList_range,List.getElem?_range (by simpa using ht)]
  simp [getElem!_pos,h2]
 ·rw [xck (by simp;omega),xck (by rw [hl];omega)]
def zmu {g:Nat} {cur:Array Value} {e:TypeId} {fr:Nat × Nat} (h:w.heap[g]?=some (.cells cur e fr)) (F:Array Value) (hF:F.size<=cur.size):∃ cur',(putRow id w g 0 F).heap[g]?=some (.cells cur' e fr)/\cur'.size=cur.size/\cur'.toList.take F.size=F.toList/\w.grownBy (putRow id w g 0 F) (some g):=by
 refine ⟨putCells id 0 F cur,?_,by simp [putCells],?_,⟨rfl,rfl,rfl,by simp [putRow,mapBlock],λk hk hne=>?_⟩⟩
 ·simp [putRow,mapBlock,xbx,h,onCells]
 ·refine xco λt=>?_
  rw [xaQ]
  by_cases ht:t < F.size
  ·rw [if_pos ht];simp only [putCells,Array.toList_mapIdx,xcp];have hc:t < cur.toList.length:=by simp;omega
   rw [xac hc];simp [ht]
  ·rw [if_neg ht];simp;omega
 ·have hkg:k≠g:=λe=>hne (by rw [e])
  simp [putRow,mapBlock,xbx,Ne.symm hkg]
theorem zk0:∀ (L:List Ky) (us:List Value),Reps w B us ((L.map kyP).flatMap PV.cells)->us=L.flatMap zal/\∀ x ∈ L,WK x
 | [],us,h=>⟨h.nil_inv,λx hx=>by cases hx⟩
 | x::L,us,h=>by
  have h:Reps w B us (.i .i64 (x.1:Int)::.i .i64 x.2::(L.map kyP).flatMap PV.cells):=h;obtain ⟨v,us1,rfl,hv,g1⟩:=h.cons_inv;obtain ⟨v2,us2,rfl,hv2,g2⟩:=g1.cons_inv;cases hv with|i q1=>
  cases hv2 with|i q2=>
  obtain ⟨rfl,h3⟩:=zk0 L us2 g2;refine ⟨rfl,λy hy=>?_⟩
  rcases xaI.1 hy with rfl|hy
  ·exact ⟨q1,q2⟩
  ·exact h3 y hy
theorem zlx:∀ (L:List Ky),(∀ x ∈ L,WK x)->Reps w B (L.flatMap zal) ((L.map kyP).flatMap PV.cells)
 | [],_=>.nil
 | x::L,h=>by
  have hx:=h x (by simp)
  exact .cons (.i hx.1) (.cons (.i hx.2) (zlx L λy hy=>h y (by simp [hy])))
def zm0 (L:List Ky):∀ x ∈ L.map kyP,x.cells.length=2:=λx hx=>by
 obtain ⟨k,_,rfl⟩:=xaN.1 hx;rfl
def zwC (L:List Ky):(L.flatMap zal).length=L.length*2:=by
 induction L with
 | nil=>rfl
 | cons x r ih=>rw [xat,xad,ih,xaz];simp [zal];omega
def zyB (x y:Ky):zhm x y=cmpK x y:=by
 unfold zhm cmpK kOr kI;simp only [zn];unfold zi9
 by_cases h1:(x.1:Int) < y.1<;>by_cases h2:(y.1:Int) < x.1<;>simp [h1,h2]
def zsY (L:List Ky):(L.mergeSort λx y=>!(ltOf zhm) y x)=zbO L:=by
 unfold zbO
 congr 1
 funext x y
 unfold leK;rw [ltK,<-zyB];have:(zhm x y<=0)↔¬(y.1 < x.1\/(y.1=x.1/\y.2 < x.2)):=by
  unfold zhm kOr kI
  by_cases a1:(x.1:Int) < y.1<;>by_cases a2:(y.1:Int) < x.1<;>by_cases a3:x.2 < y.2<;>by_cases a4:y.2 < x.2<;>simp [a1,a2,a3,a4]<;>omega
 rw [<-decide_not];exact decide_eq_decide.2 this.symm
def zvZ (L:List Ky) (hn:L.length<=1000000000):zbk prog 156 [.row 900 L.length,.p (.fn (.func 157) [] [])] [(900,.row 171 2 (L.map kyP) false)] (.p (.tup [])) [(900,.row 171 2 ((zbO L).map kyP) false)]:=by
 have hsl:(zbO L).length=L.length:=(List.mergeSort_perm L leK).length_eq;refine ⟨⟨_,_,func156,rfl,rfl⟩,λj o hj=>?_,λj o hj=>?_,λw C vs fr hlv hvs=>?_⟩
 ·obtain ⟨rfl,rfl⟩:=zM hj;exact ⟨trivial,rfl⟩
 ·obtain ⟨rfl,rfl⟩:=zM hj;exact ⟨_,z8 _ _,rfl,rfl,by simp [hsl]⟩
 ·obtain ⟨us,how,hus,hx,h0⟩:∃ us,w.ownsRow 0 171 2 (C.cur 900) (L.map kyP).length us/\Reps w C.B us ((L.map kyP).flatMap PV.cells)/\(∀ x ∈ L.map kyP,x.cells.length=2)/\0 < 2:=fr.ob 900 _ (z8 _ _);rw [xaf] at how;have hv:vs=[C.cur 900,.func (.func 157) #[] #[]]:=by
   match vs,hlv,hvs with
   | [v1,v2],_,hvs=>
    have e1:=hvs 0 v1 _ rfl rfl;have e2:=ze (hvs 1 v2 _ rfl rfl);cases e2 with|fn q1 q2 _ _=>
    have z1:=Array.eq_empty_of_size_eq_zero q1;have z2:=Array.eq_empty_of_size_eq_zero q2;subst z1;subst z2;cases e1 with|row hr=>rw [hr _ _ _ _ (z8 _ _) (by simp)]
  subst hv;obtain ⟨rfl,hWK⟩:=zk0 L us hus;have fin:∀ (w':World) ,KeepX (zwS C [(900,.row 171 2 (L.map kyP) false)]) w w'->w'.ownsRow 0 171 2 (C.cur 900) L.length ((zbO L).flatMap zal)->∃ u C',Ending.returned (.tuple #[])=Ending.returned u/\zwc w C w' C' [(900,.row 171 2 (L.map kyP) false)] [(900,.row 171 2 ((zbO L).map kyP) false)] u (.p (.tup [])):=λw' hk ho=>by
   refine ⟨_,C,rfl,{
    kx:=hk
    fr:={
     blt:=λb hb=>xaJ (fr.blt b hb) hk.size
     ob:=λj o hj=>by
      obtain ⟨rfl,rfl⟩:=zM hj;exact ⟨_,by rw [xaf,hsl];exact ho,zlx _ λx hx=>hWK x ((List.mergeSort_perm L leK).mem_iff.1 hx),zm0 _,by omega⟩
     objs:=λj o hj=>by obtain ⟨rfl,rfl⟩:=zM hj;trivial
     fz:=λj o hj=>by obtain ⟨rfl,rfl⟩:=zM hj;rfl
     sep:=λj o b hj hb=>by
      obtain ⟨rfl,rfl⟩:=zM hj;have:=fr.sep 900 _ b (z8 _ _) hb;exact ⟨xaJ this.1 hk.size,this.2⟩
     dis:=λj j' o o' b hne hj hj' _ _=>by obtain ⟨rfl,_⟩:=zM hj;obtain ⟨rfl,_⟩:=zM hj';exact absurd rfl hne }
    b1:=λ_ h=>h
    b2:=λ_ h=>.inl h
    y:=rfl
    fol:=λj o hj=>by obtain ⟨rfl,rfl⟩:=zM hj;exact ⟨_,z8 _ _,rfl,rfl,by simp [hsl]⟩
    tied:=λj o o' hj hj' _ _=>by obtain ⟨rfl,rfl⟩:=zM hj';obtain ⟨_,rfl⟩:=zM hj;exact rfl
    bk:=λj o b hj hb=>by obtain ⟨rfl,rfl⟩:=zM hj;exact .inl ⟨900,_,z8 _ _,hb⟩
    rp:=.p (.tup rfl λj v p hv _=>by simp at hv)
    scr:=.p _ }⟩
  by_cases hL:L=[]
  ·subst hL;obtain ⟨a,cap,hc⟩:∃ a cap,C.cur 900=.slice a 0 cap:=by
    rcases how.2 with ⟨f1,_⟩|⟨g,cap,cur,f1,_⟩
    ·exact ⟨_,_,f1⟩
    ·exact ⟨_,_,f1⟩
   rw [hc];refine Calls.mono (AnyF.slices_SortFunc_none { zAd with } a cap (.func (.func 157) #[] #[]) w) ?_;rintro e w' ⟨rfl,hw⟩;rw [hw];exact fin w ⟨rfl,rfl,rfl,xap _,λ_ _ _=>rfl⟩ (by simpa [zbO] using how)
  ·rcases how.2 with ⟨f1,f2⟩|⟨g,cap,cur,f1,f2,f3,f4,f5,f6,f7⟩
   ·exact absurd (xay f2) hL
   ·have hgb:blk C 900 (.row 171 2 (L.map kyP) false)=some g:=by simp [blk,f1,Value.ownBlock]
    have hgs:=fr.sep 900 _ g (z8 _ _) hgb;have hH:HoldsK zal 2 w g 0 L.toArray:=λj hj=>by
     rw [Sort.size_flatK] at hj;have hj:j < L.length*2:=by simpa using hj
     have h1:cur.toList[j]?=(L.flatMap zal)[j]?:=by rw [<-f7,xaQ,if_pos hj]
     have h2:(Sort.flatK zal 2 L.toArray)[j]! =((L.flatMap zal)[j]?).getD default:=by
      rw [<-ziY];simp [Array.getElem!_eq_getD,xag]
     have hjc:j < cur.size:=by omega
     rw [xb8];refine ⟨?_,by simp [World.frozen?,f3]⟩
     show w.cell? _=some (Sort.flatK zal 2 L.toArray)[j]!;rw [h2,<-h1];simp [World.cell?,f3,hjc]
    have hs:=AnyQ.slices_SortFunc_total zAd 2 Tryz.isAgg171 Tryz.sizeOf171 zal (λ_=>rfl) (λx v hv=>by simp [zal] at hv;rcases hv with rfl|rfl<;>rfl) zhm swoK 157 #[] g 0 cap L.toArray w (enters_of func157 (by kernel_rfl) rfl) (zyz _ _ _ _) hH hgs.1 (by simp;omega) (λx y h1 h2=>by
     rw [ltK] at h1 h2;simp only [decide_eq_false_iff_not] at h1 h2;exact Prod.ext (by omega) (by omega))
    have hls:L.toArray.size=L.length:=by simp
    rw [hls,show L.toArray.toList=L by simp,zsY] at hs
    rw [f1];refine Calls.mono hs ?_;rintro e w' ⟨rfl,m,os,rfl⟩;obtain ⟨cur',p1,p2,p3,p4⟩:=zmu (w:=Sort.ahead w m) f3 (Sort.flatK zal 2 (zbO L).toArray) (by rw [Sort.size_flatK];simp [hsl];omega)
    have hgz:g < (Sort.ahead w m).heap.size:=hgs.1;have hold:∀ b,b < w.heap.size->(sortWorldK zal 2 w g 0 m (zbO L).toArray os).heap[b]?=(putRow id (Sort.ahead w m) g 0 (Sort.flatK zal 2 (zbO L).toArray)).heap[b]?:=λb hb=>by
     have hb2:b < (putRow id (Sort.ahead w m) g 0 (Sort.flatK zal 2 (zbO L).toArray)).heap.size:=xaJ hb p4.size;show ((putRow id (Sort.ahead w m) g 0 (Sort.flatK zal 2 (zbO L).toArray)).heap++os)[b]?=_;rw [xbU hb2]
    refine fin _ ⟨p4.os,p4.tape,p4.output,?_,λb hb hm=>?_⟩ ⟨by rw [zwC,hsl],.inr ⟨g,cap,cur',f1,f2,?_,f4,f5,by rw [p2,f6],?_⟩⟩
    ·refine xa0 p4.size ?_;show _<=((putRowK zal 2 (Sort.ahead w m) g 0 (zbO L).toArray).heap++os).size;rw [Array.size_append];exact Nat.le_add_right _ _
    ·rw [hold b hb];exact p4.block b hb λe=>by injection e with e;subst e;exact hm ⟨900,_,z8 _ _,hgb⟩
    ·rw [hold g hgs.1];exact p1
    ·rw [Sort.size_flatK] at p3;rw [<-ziY,<-p3];simp [hsl]
def zi2 (a:Option Addr) (n cap:Nat) (hn:n < 2) (w:World):Calls prog 160 #[.slice a n cap] w λe w'=>e=.returned (.slice a n cap)/\w'=w:=by
 have h1:(n:Int) < 2:=by omega
 go_enter func160,ntmps160
 go_wp2
 go_ret
 exact ⟨rfl,rfl⟩
theorem zrU:∀ {L:List Ky},L.length < 2->zbu L=L
 | [],_=>rfl
 | [_],_=>rfl
 | _::_::_,h=>by simp at h;omega
theorem zi7:∀ (L:List Ky),(zbu L).length<=L.length
 | []=>xap _
 | [_]=>xap _
 | a::b::r=>by
  have:=zi7 (b::r);rw [zbu]
  split<;>simp at *<;>omega
def zpc (L:List Ky):List Ky:=zbu L++List.replicate (L.length - (zbu L).length) (0,0)
def zni (L:List Ky):(zpc L).length=L.length:=by
 have:=zi7 L;unfold zpc;rw [xad,xb3];omega
def zvY (L:List Ky) (hn:L.length<=1000000000) (a0:Option Addr) (c0:Nat):zbk prog 160 [.p (.rs a0 L.length c0)] [(900,.hrow 171 2 (L.map kyP) a0 c0)] (.p (.rs a0 (zbu L).length c0)) [(900,.hrow 171 2 ((zpc L).map kyP) a0 c0)]:=by
 have hsl:=zni L;refine ⟨⟨_,_,func160,rfl,rfl⟩,λj o hj=>?_,λj o hj=>?_,λw C vs fr hlv hvs=>?_⟩
 ·obtain ⟨rfl,rfl⟩:=zM hj;exact ⟨trivial,rfl⟩
 ·obtain ⟨rfl,rfl⟩:=zM hj;exact ⟨_,z8 _ _,rfl,rfl⟩
 ·obtain ⟨⟨us,how,hus,hx,h0⟩,hc⟩:(∃ us,w.ownsRow 0 171 2 (C.cur 900) (L.map kyP).length us/\Reps w C.B us ((L.map kyP).flatMap PV.cells)/\(∀ x ∈ L.map kyP,x.cells.length=2)/\0 < 2)/\C.cur 900=.slice a0 (L.map kyP).length c0:=fr.ob 900 _ (z8 _ _);rw [xaf] at how hc;have hv:vs=[.slice a0 L.length c0]:=by
   match vs,hlv,hvs with
   | [v1],_,hvs=>
    have e1:=ze (hvs 0 v1 _ rfl rfl);cases e1;rfl
  subst hv;obtain ⟨rfl,hWK⟩:=zk0 L us hus;have hWR:∀ x ∈ zpc L,WK x:=λx hx=>by
   rcases xaS.1 hx with h|h
   ·exact hWK x (zeQ.1 h)
   ·rw [List.eq_of_mem_replicate h];exact ⟨by decide,by decide⟩
  have fin:∀ (w':World) ,KeepX (zwS C [(900,.hrow 171 2 (L.map kyP) a0 c0)]) w w'->w'.ownsRow 0 171 2 (C.cur 900) L.length ((zpc L).flatMap zal)->∃ u C',Ending.returned (.slice a0 (zbu L).length c0)=Ending.returned u/\zwc w C w' C' [(900,.hrow 171 2 (L.map kyP) a0 c0)] [(900,.hrow 171 2 ((zpc L).map kyP) a0 c0)] u (.p (.rs a0 (zbu L).length c0)):=λw' hk ho=>by
   refine ⟨_,C,rfl,{
    kx:=hk
    fr:={
     blt:=λb hb=>xaJ (fr.blt b hb) hk.size
     ob:=λj o hj=>by
      obtain ⟨rfl,rfl⟩:=zM hj;exact ⟨⟨_,by rw [xaf,hsl];exact ho,zlx _ hWR,zm0 _,by omega⟩,by rw [xaf,hsl];exact hc⟩
     objs:=λj o hj=>by obtain ⟨rfl,rfl⟩:=zM hj;trivial
     fz:=λj o hj=>by obtain ⟨rfl,rfl⟩:=zM hj;rfl
     sep:=λj o b hj hb=>by
      obtain ⟨rfl,rfl⟩:=zM hj;have:=fr.sep 900 _ b (z8 _ _) hb;exact ⟨xaJ this.1 hk.size,this.2⟩
     dis:=λj j' o o' b hne hj hj' _ _=>by obtain ⟨rfl,_⟩:=zM hj;obtain ⟨rfl,_⟩:=zM hj';exact absurd rfl hne }
    b1:=λ_ h=>h
    b2:=λ_ h=>.inl h
    y:=rfl
    fol:=λj o hj=>by obtain ⟨rfl,rfl⟩:=zM hj;exact ⟨_,z8 _ _,rfl,rfl⟩
    tied:=λj o o' _ hj' hnh _=>by obtain ⟨rfl,rfl⟩:=zM hj';exact absurd rfl (hnh _ _ _ _ _)
    bk:=λj o b hj hb=>by obtain ⟨rfl,rfl⟩:=zM hj;exact .inl ⟨900,_,z8 _ _,hb⟩
    rp:=.p (.rs _ _ _)
    scr:=.p _ }⟩
  by_cases hL:L.length < 2
  ·have e1:=zrU hL;have e2:zpc L=L:=by unfold zpc;rw [e1];simp
   refine Calls.mono (zi2 a0 L.length c0 hL w) ?_;rintro e w' ⟨rfl,hw⟩;rw [hw];have:=fin w ⟨rfl,rfl,rfl,xap _,λ_ _ _=>rfl⟩ (by rw [e2];exact how)
   rw [e1] at this ⊢;exact this
  ·rcases how.2 with ⟨f1,f2⟩|⟨g,cap,cur,f1,f2,f3,f4,f5,f6,f7⟩
   ·omega
   ·rw [f1] at hc;injection hc with hc1 hc2 hc3;subst hc1;subst hc3;have hgb:blk C 900 (.hrow 171 2 (L.map kyP) (some ⟨g,0,none⟩) cap)=some g:=by simp [blk,f1,Value.ownBlock]
    have hgs:=fr.sep 900 _ g (z8 _ _) hgb;have hH:HoldsK zal 2 w g 0 L.toArray:=λj hj=>by
     rw [Sort.size_flatK] at hj;have hj:j < L.length*2:=by simpa using hj
     have h1:cur.toList[j]?=(L.flatMap zal)[j]?:=by rw [<-f7,xaQ,if_pos hj]
     have h2:(Sort.flatK zal 2 L.toArray)[j]! =((L.flatMap zal)[j]?).getD default:=by
      rw [<-ziY];simp [Array.getElem!_eq_getD,xag]
     have hjc:j < cur.size:=by omega
     rw [xb8];refine ⟨?_,by simp [World.frozen?,f3]⟩
     show w.cell? _=some (Sort.flatK zal 2 L.toArray)[j]!;rw [h2,<-h1];simp [World.cell?,f3,hjc]
    have hs:=zlZ g cap L.toArray w (λx hx=>hWK x (by simpa using hx)) hH hgs.1 (by simp;omega) (by simpa using f4)
    have hls:L.toArray.size=L.length:=by simp
    rw [zne L.toArray _ (xap _),hls,show L.toArray.toList=L by simp,xah] at hs
    refine Calls.mono hs ?_;rintro e w' ⟨rfl,q,rfl⟩;obtain ⟨cur',p1,p2,p3,p4⟩:=zmu (w:=Sort.ahead w q) f3 (Sort.flatK zal 2 (zpc L).toArray) (by rw [Sort.size_flatK];simp [hsl];omega)
    refine fin _ ⟨p4.os,p4.tape,p4.output,p4.size,λb hb hm=>p4.block b hb λe=>by injection e with e;subst e;exact hm ⟨900,_,z8 _ _,hgb⟩⟩ ⟨by rw [zwC,hsl],.inr ⟨g,cap,cur',f1,f2,p1,f4,f5,by rw [p2,f6],?_⟩⟩
    rw [Sort.size_flatK] at p3;rw [<-ziY,<-p3];simp [hsl]
end Go.Proofs.YtbgckikhhcbmpaaGreat
