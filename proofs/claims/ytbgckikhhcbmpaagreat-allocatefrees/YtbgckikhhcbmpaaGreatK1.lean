/- Contracts. No conditions. -/
import Derived.Test.YtbgckikhhcbmpaaGreatK0
set_option linter.all false
set_option maxHeartbeats 8000000
set_option maxRecDepth 100000
namespace Go.Proofs.YtbgckikhhcbmpaaGreat
open Go.RowKit
variable {a:Act} {args:Array Operand} {ag c dr ng stop:Bool} {R:Bool->Prop} {body:Code} {C:Ctx} {Q:Exit->Act->World->Prop} {b:Frame} {fn:Func} {f:FuncId} {X:Fx} {o:LObj} {q res:LV} {tr ts:List (List PV)} {obj obj':List (Nat × LObj)} {es fs:List (PV × PV)} {cs:List Frame} {qs:List LV} {ks rd:List Nat} {ka:List Nat × Bool} {ps xs:List PV} {vs:List Value} {c0 e id j k n sz:Nat} {g:Nat->LV} {m:Nat->Nat} {l l':Nat->Option LObj} {B B':Nat->Prop} {oper:Oper} {i x y z:Operand} {wr:Option (Nat × LObj)} {a0:Option Addr} {key p r:PV} {P:Program} {s:St} {S:St->Prop} {et kt t t':TypeId} {v:Value} {w w':World}
section
variable {X:Fx} {C:Ctx} {g:Nat->LV} {look:Nat->Option LObj} {tr:List (List PV)} {stop:Bool} {a:Act} {w:World} {P:Program} {o:Oper} {ao:AOp} {args:List AOpd} {E:AOpd->LV} {d:Nat} {pre:Prop} {eff:Eff}
theorem zc3 (w:World) (r:Nat) (ob:Obj):w.grownBy (w.putObj r ob) (some r):=⟨rfl,rfl,rfl,by simp,λk _ hne=>World.putObj_heap_other λe=>hne (by rw [e])⟩
theorem zes (h:RelC X C g look tr stop a w) {ob:LObj} (hk:look k=some ob) (hf:ob.frozen=false) (hg:w.grownBy w' (blk C k ob)):∀ b,C.B b->w'.heap[b]?=w.heap[b]?:=λb hb=>
 hg.block b (h.blt b hb) λe=>(h.sep k ob b hk e.symm).2.2.1 hf hb
theorem zmt (h:Rep w B v p) (b:Bool):Rep w B (.tuple #[v,.bool b]) (.tup [p,.b b]):=by
 refine .tup rfl λj u q hu hq=>?_
 match j with
 | 0=>simp at hu hq;subst hu;subst hq;exact h
 | 1=>simp at hu hq;subst hu;subst hq;exact .b _
 | j+2=>simp at hu
theorem zzq (h:RelC X C g look tr stop a w) (ho:o.op=.next x true) (hc:zao P o=some (ao,args)) (hi:zaL w C look a args E) (he:zb d look ao (args.map E)=some (pre,eff)) (hp:pre):zt X g look tr stop a w P o eff:=by
 simp only [zao,ho] at hc;obtain ⟨x',hx,e⟩:=xab.1 hc;injection e with e1 e2;subst e1;subst e2;obtain ⟨hr,hsc⟩:=zj9 hi hx;simp only [xaj,xaF] at he;generalize E x'=q at he hr hsc;cases q with
 | it k=>
  simp only [zb] at he
  split at he
  ·rename_i s pos hk;injection he with he;injection he with he1 he2;subst he1;subst he2;generalize hxv:a.eval x=xv at hr;cases hr;have hob:w.heap[C.ρ k]?=some (.stringIter s pos):=h.obj k _ hk
   by_cases hlt:pos < s.size
   ·have hn:nextV s pos=.tup [.b true,.i .i64 pos,.i .i32 (Utf8.decode s pos).1]:=if_pos hlt;have hn2:nextP s pos=pos+(Utf8.decode s pos).2:=if_pos hlt;have hle:=decode_le s pos;rw [hn,hn2];refine ⟨.tuple #[.bool true,goInt pos,.int .i32 (Utf8.decode s pos).1],w.putObj (C.ρ k) (.stringIter s (pos+(Utf8.decode s pos).2)),C,.inl ?_,?_,.p ?_,.p _⟩
    ·have hg:(getObj (C.ρ k)).run P w=.ok (.stringIter s pos) w:=by simp [getObj,Sem.run,hob]
     have hs:(setObj (C.ρ k) (.stringIter s (pos+(Utf8.decode s pos).2))).run P w=.ok () (w.putObj (C.ρ k) (.stringIter s (pos+(Utf8.decode s pos).2))):=by simp [setObj,Sem.run,hob,World.putObj]
     simp [execOp,ho,hxv,Instr.next,hg,hlt,hs]
    ·refine h.modify hk trivial rfl rfl rfl rfl rfl rfl rfl rfl (λ_ _=>rfl) (λ_ _ _ _ _ _ e=>by cases e) (zc3 w (C.ρ k) _) ?_ trivial (λb hb=>.inl hb)
     exact World.putObj_heap_same (Mk.lt_of hob)
    ·refine .tup rfl λj v p hv hpp=>?_
     have hm:pos<=9223372036854775807:=by simp only [maxLen] at hp;omega
     match j with
     | 0=>simp at hv hpp;subst hv;subst hpp;exact .b _
     | 1=>simp at hv hpp;subst hv;subst hpp;exact .i ((zbl _ _).2 (by simp only [IntKind.lo,IntKind.hi]<;>constructor<;>omega))
     | 2=>simp at hv hpp;subst hv;subst hpp;exact .i ((zbl _ _).2 (by simp only [IntKind.lo,IntKind.hi]<;>constructor<;>omega))
     | j+3=>simp at hv
   ·have hn:nextV s pos=.tup [.b false]:=if_neg hlt;have hn2:nextP s pos=pos:=if_neg hlt;rw [hn,hn2];refine ⟨.tuple #[.bool false],w,C,.inl ?_,?_,.p ?_,.p _⟩
    ·have hg:(getObj (C.ρ k)).run P w=.ok (.stringIter s pos) w:=by simp [getObj,Sem.run,hob]
     simp [execOp,ho,hxv,Instr.next,hg,hlt]
    ·exact h.modify hk trivial rfl rfl rfl rfl rfl rfl rfl rfl (λ_ _=>rfl) (λ_ _ _ _ _ _ e=>by cases e) ⟨rfl,rfl,rfl,xap _,λ_ _ _=>rfl⟩ hob trivial (λb hb=>.inl hb)
    ·exact .tup rfl λj v p hv hpp=>by
      match j with
      | 0=>simp at hv hpp;subst hv;subst hpp;exact .b _
      | j+1=>simp at hv
  ·cases he
 | _=>simp [zb] at he
theorem zkn (h:RelC X C g look tr stop a w) (ho:o.op=.makeSlice t x y) (hc:zao P o=some (ao,args)) (hi:zaL w C look a args E) (he:zb d look ao (args.map E)=some (pre,eff)) (hp:pre) (hd:eff.nw=true->look d=none):zt X g look tr stop a w P o eff:=by
 simp only [zao,ho] at hc
 split at hc
 ·rename_i e l ht hl
  split at hc
  ·rename_i sz by_ z ag hs hb hz hag
   split at hc
   ·rename_i hcond;obtain ⟨h0,hzl,hb0,hza⟩:=hcond;injection hc with hc;injection hc with hc1 hc2;subst hc1;subst hc2;obtain ⟨x',y',rfl,hx,hy⟩:=zbw hl;obtain ⟨hrx,hsx⟩:=zcJ hi hx;obtain ⟨hry,hsy⟩:=zcI hi hy;simp only [xaj,xaF] at he;generalize E x'=q at he hrx hsx;generalize E y'=r at he hry hsy;cases q<;>try (simp [zb] at he;done)
    rename_i p;cases p<;>try (simp [zb] at he;done)
    rename_i k1 n;cases r<;>try (simp [zb] at he;done)
    rename_i p;cases p<;>try (simp [zb] at he;done)
    rename_i k2 c;simp only [zb] at he;injection he with he;injection he with he1 he2;subst he1;subst he2;obtain ⟨hn0,hnc,hby⟩:=hp
    replace hd:look d=none:=hd rfl
    obtain ⟨i,zv,i1,i2,i3,i4,i5⟩:=zcv hs hb hz;have hzr:Reps w C.B zv.cells.toList z.cells:=by
     obtain ⟨i',zv',j1,j2,j3⟩:=zaw hz;rw [i1] at j1;injection j1 with j1;subst j1;rw [i4] at j2;injection j2 with j2;subst j2;exact zZ (zbf j3 w C.B) (zcM j3)
    have hxv:=ze hrx;have hyv:=ze hry;generalize hxe:a.eval x=xv at hxv;generalize hye:a.eval y=yv at hyv;cases hxv;cases hyv;have hmx:c.toNat<=maxLen:=zmT hby hb0;have hbyt:i.bytes*c.toNat<=281474976710656:=by rw [i3,Nat.mul_comm];omega
    rcases hnc with rfl|⟨rfl,hc0⟩
    ·obtain ⟨w',hr,hown,hgr⟩:=run_make_full (P:=P) w 0 t e i zv sz ht i1 i4 i2 k1 k2 n.toNat hbyt hmx (xbk _);rw [show ((n.toNat:Nat):Int)=n from xbm hn0] at hr
     have hbel:=zbM hgr;have hus:Reps w' C.B (madeCells zv.cells (n.toNat*sz)).toList ((List.replicate n.toNat z).flatMap PV.cells):=by
      have:(madeCells zv.cells (n.toNat*sz)).toList=(List.replicate n.toNat zv.cells.toList).flatten:=by
       have:=zfG zv.cells n.toNat;rw [i5,hzl] at this;rw [madeCells,i5,hzl];exact this
      rw [this];exact (zfK hzr n.toNat).mono (λ_ h=>h) λb hb=>hbel.block b (h.blt b hb)
     refine ⟨_,w',_,.inl ?_,zfb h hd hbel (xs:=List.replicate n.toNat z) (by rw [xb3];exact hown) hus (λx hx=>by rw [List.eq_of_mem_replicate hx];exact hzl) h0 (λb hb2=>?_),zer (zk _ _ _),.row (zk _ _ _) (by simp)⟩
     ·simp [execOp,ho,hxe,hye,hr]
     ·simp [Value.ownBlock] at hb2;omega
    ·obtain ⟨w',hr,hown,hgr⟩:=run_make_own (P:=P) w 0 t e i zv sz ht i1 i4 i2 k1 k2 c.toNat hbyt hmx (xbk _);rw [show ((c.toNat:Nat):Int)=c from xbm hc0] at hr
     have hbel:=zbM hgr;refine ⟨_,w',_,.inl ?_,zfb h hd hbel (xs:=List.replicate (0:Int).toNat z) (us:=[]) hown .nil (λx hx=>by simp at hx) h0 (λb hb2=>?_),zer (zk _ _ _),.row (zk _ _ _) (by simp)⟩
     ·simp [execOp,ho,hxe,hye,hr]
     ·simp [Value.ownBlock] at hb2;omega
   ·cases hc
  ·cases hc
 ·cases hc
theorem zoO (h:RelC X C g look tr stop a w) (ho:o.op=.makeMap t none) (hc:zao P o=some (ao,args)) (he:zb d look ao (args.map E)=some (pre,eff)) (hd:eff.nw=true->look d=none):zt X g look tr stop a w P o eff:=by
 simp only [zao,ho] at hc;injection hc with hc;injection hc with hc1 hc2;subst hc1;subst hc2;simp only [xaF,zb] at he;injection he with he;injection he with he1 he2;subst he1;subst he2;have hd:=hd rfl;have hb:Below w.heap.size w (w.alloc (.map #[] 0)):=(Below.refl _ _).alloc (xap _) _;have h1:=h.grow hb C.B (λ_ h=>h) (λb hb=>.inl hb)
 refine ⟨.map (some w.heap.size),w.alloc (.map #[] 0),{ C with ρ:=upd C.ρ d w.heap.size },.inl ?_,?_,?_,?_⟩
 ·simp [execOp,ho,Instr.makeMap,run_newObj_alloc]
 ·refine h1.lay (o:=.mp [] false) hd rfl rfl rfl rfl rfl (λk hk=>zA _ _ hk) (λ_ _=>rfl) ?_ trivial rfl ?_
  ·exact ⟨#[],0,[],by show (w.alloc (.map #[] 0)).heap[upd C.ρ d w.heap.size d]?=_;rw [zk];exact heap_alloc_new w _,.inl rfl,.nil,λj m kv hm=>by simp at hm⟩
  ·intro b hb2;simp only [blk,zk,xaK] at hb2;subst hb2;refine ⟨h.kx.size,by simp,λhbb=>absurd (h.blt _ hbb) (by omega),λk x hk hbk=>?_,λhx=>?_,h.nle⟩
   ·have h2:blk C k x=some w.heap.size:=by cases x<;>exact hbk
    have:=(h.sep k x _ hk h2).2.1;omega
   ·have:=h.marks.lt _ hx;omega
 ·have:=RepL.lm (w:=w.alloc (.map #[] 0)) (C:={ C with ρ:=upd C.ρ d w.heap.size }) (l:=upd look d (some (.mp [] false))) (k:=d);simp only [zk] at this;exact this
 ·exact .lm (zk _ _ _)
theorem zlu (h:RelC X C g look tr stop a w) (hq:RepL w C look v q) (he:zgC look q=some (es,rd)) :
  ∃ (ents:Array MapEntry) (fs:List (PV × PV)),zkF fs es/\ents.size=fs.length/\(∀ (j:Nat) (m:MapEntry) (kv:PV × PV),ents[j]?=some m->fs[j]?=some kv->Rep w C.B m.key kv.1/\Rep w C.B m.val kv.2)/\((v=.map none/\ents=#[])\/∃ r clock,v=.map (some r)/\w.heap[r]?=some (.map ents clock)):=by
 unfold zgC at he
 split at he
 ·rename_i es';injection he with he;injection he with e1 e2;subst e1;have:=ze hq;cases this with
  | mp0=>exact ⟨#[],[],.inl rfl,rfl,λj m kv hm=>by simp at hm,.inl ⟨rfl,rfl⟩⟩
  | mp h1 h2 h0 h3 h4 h5=>exact ⟨_,_,h0,h3.1,λj m kv hm hkv=>⟨h4 j m kv hm hkv,h5 j m kv hm hkv⟩,.inr ⟨_,_,rfl,h2⟩⟩
 ·rename_i k
  split at he
  ·rename_i es' fz hk;injection he with he;injection he with e1 e2;subst e1;obtain ⟨ents,clock,fs,h1,h0,h2,h3⟩:=h.obj k _ hk;cases hq;exact ⟨ents,fs,h0.elim .inl (·.2),h2.1,h3,.inr ⟨_,clock,rfl,h1⟩⟩
  ·cases he
 ·cases he
theorem zdF:∀ {es:List (PV × PV)},keysOk ks ag key es↔∀ x ∈ es,keyOk ks ag key x.1
 | []=>by simp [keysOk]
 | (k,v)::r=>by simp only [keysOk,List.forall_mem_cons,zdF (es:=r)]
theorem zj6 (h:zkF fs es) (hk:keysOk ks ag key es):keysOk ks ag key fs:=by
 rcases h with rfl|⟨h,_⟩
 ·exact hk
 ·exact zdF.2 λx hx=>zdF.1 hk x (h.mem_iff.1 hx)
theorem zix {v:PV} {a:ByteArray} (hc:key.cells=[.s a]):∀ {l:List (PV × PV)},(∀ x ∈ l,∃ k,x.1=.s k)->(l.map (·.1)).Nodup->(mget key l=some v↔(.s a,v) ∈ l)
 | [],_,_=>by simp [mget]
 | (q,u)::r,hs,hd=>by
  obtain ⟨b,hb⟩:=hs (q,u) (by simp)
  simp only at hb;subst hb;rw [xaj,xbR] at hd;rw [mget,hc]
  by_cases h:a=b
  ·subst h;have:v=u\/(PV.s a,v) ∈ r↔v=u:=⟨λh=>h.resolve_right λh=>hd.1 (xaN.2 ⟨_,h,rfl⟩),.inl⟩
   simp [PV.cells,eqCells,eqPV,this,eq_comm]
  ·simpa [PV.cells,eqCells,eqPV,h] using zix hc (λx hx=>hs x (by simp [hx])) hd.2
theorem zoe (h:zkF fs es) (hk:keysOk ks ag key es):mget key fs=mget key es:=by
 rcases h with rfl|⟨h,hs,hn⟩
 ·rfl
 ·cases es with
  | nil=>rw [List.perm_nil.1 h]
  | cons x r=>
   obtain ⟨k,hx⟩:=hs x (by simp)
   obtain ⟨_,h2⟩:=zdF.1 hk x (by simp)
   rw [hx] at h2;obtain ⟨a,ha⟩:∃ a,key.cells=[.s a]:=by
    generalize key.cells=c at h2;simp only [PV.cells] at h2
    rcases ks with _|⟨n,_|⟨m,ks⟩⟩<;>rcases c with _|⟨y,_|⟨z,c⟩⟩<;>simp only [eqCellsOk,and_false] at h2
    cases y<;>rcases n with _|_|_|n<;>simp [eqOk] at h2 ⊢
   refine Option.ext λv=>?_
   rw [zix ha (λy hy=>hs y (h.mem_iff.1 hy)) ((h.map _).nodup_iff.2 hn),zix ha hs hn,h.mem_iff]
theorem zrN (h:RelC X C g look tr stop a w) {ok:Bool} (ho:o.op=.lookup t x y ok) (hc:zao P o=some (ao,args)) (hi:zaL w C look a args E) (he:zb d look ao (args.map E)=some (pre,eff)) (hp:pre):zt X g look tr stop a w P o eff:=by
 simp only [zao,ho] at hc
 split at hc
 ·rename_i kt et l ht hl
  split at hc
  ·rename_i ka z hk hz;injection hc with hc;injection hc with hc1 hc2;subst hc1;subst hc2;obtain ⟨x',y',rfl,hx,hy⟩:=zbw hl;obtain ⟨hrx,hsx⟩:=zcJ hi hx;obtain ⟨hry,hsy⟩:=zcI hi hy;simp only [xaj,xaF] at he;generalize E x'=q at he hrx hsx;generalize E y'=r at he hry hsy;have hshape:∃ key,r=.p key:=by
    cases r<;>first|exact ⟨_,rfl⟩|(cases q<;>simp [zb] at he)
   obtain ⟨key,rfl⟩:=hshape;simp only [zb] at he;obtain ⟨⟨es,rd⟩,hm,he⟩:=xab.1 he;injection he with he1 he2;subst he1;subst he2;obtain ⟨hkk,hks⟩:=hp;simp only at hkk hks;have hkey:=ze hry;obtain ⟨ents,fs,m0,m1,m2,m3⟩:=zlu h hrx hm;have hmg:=zoe m0 hks;obtain ⟨res,hfr,hfo⟩:=ziZ hk hkey hkk ents.toList fs (by simpa using m1) (λj m kv hm hkv=>(m2 j m kv (by simpa using hm) hkv).1) (zj6 m0 hks)
   have hck:=λem=>zg0 (P:=P) hk hkey hkk em
   obtain ⟨i,zv,i1,i2,i3⟩:=zaw hz;have hzero:(zeroValue et).run P w=.ok zv w:=by simp [zeroValue,typeInfo,i1,i2]
   cases res with
   | none=>
    obtain ⟨f1,_⟩:=hfo;have hval:Rep w C.B (if ok then .tuple #[zv,.bool false] else zv) (if ok then .tup [(mget key es).getD z,.b (mget key es).isSome] else (mget key es).getD z):=by
     rw [<-hmg,f1];cases ok with
     | true=>exact zmt (zbf i3 w C.B) false
     | false=>exact zbf i3 w C.B
    refine zbX h ?_ (.p hval) (.p _)
    rcases m3 with ⟨e1,rfl⟩|⟨rr,clock,e1,e2⟩
    ·replace hfr:(Instr.findKey kt (a.eval y) []).run P w=.ok none w:=hfr
     simp [execOp,ho,Instr.lookup,run_underlying ht,e1,hck,hfr,hzero]
    ·simp [execOp,ho,Instr.lookup,run_underlying ht,e1,MapKept.run_getObj_map e2,hck,hfr,hzero]
   | some iu=>
    obtain ⟨i',u⟩:=iu;obtain ⟨j,m,kv,f1,f2,f3,f4,f5,f6,f7⟩:=hfo;have hu:=(m2 j m kv (by simpa using f2) f3).2
    subst f4;have hval:Rep w C.B (if ok then .tuple #[m.val,.bool true] else m.val) (if ok then .tup [(mget key es).getD z,.b (mget key es).isSome] else (mget key es).getD z):=by
     rw [<-hmg,f5];cases ok with
     | true=>exact zmt hu true
     | false=>exact hu
    refine zbX h ?_ (.p hval) (.p _)
    rcases m3 with ⟨e1,rfl⟩|⟨rr,clock,e1,e2⟩
    ·simp at f2
    ·simp [execOp,ho,Instr.lookup,run_underlying ht,e1,MapKept.run_getObj_map e2,hck,hfr]
  ·cases hc
 ·cases hc
theorem zod (h:RelC X C g look tr stop a w) {q:LV} {v:PV} (ht:P.underlying t=some (.map kt et)) (hk:zjl P kt=some ka) (hx:RepL w C look (a.eval x) (.lm k)) (hlk:look k=some (.mp es false)) (hy:Rep w C.B (a.eval y) key) (hz:Rep w C.B (a.eval z) v)
  (hkk:keyOk ka.1 ka.2 key key) (hks:keysOk ka.1 ka.2 key es):∃ w',(Instr.mapUpdate t (a.eval x) (a.eval y) (a.eval z)).run P w=.ok () w'/\RelC X C g (upd look k (some (.mp (mput key v es) false))) tr stop a w':=by
 generalize hxv:a.eval x=xv at hx;cases hx;obtain ⟨ents,clock,fs,h1,h0,h2,h3⟩:=h.obj k _ hlk;obtain rfl:es=fs:=(h0.elim id λh=>by cases h.1:fs=es).symm
 obtain ⟨res,hfr,hfo⟩:=ziZ hk hy hkk ents.toList es (by simpa using h2.1) (λj m kv hm hkv=>(h3 j m kv (by simpa using hm) hkv).1) hks
 have hck:=zg0 (P:=P) hk hy hkk false;have fin:∀ (ents':Array MapEntry) (clock':Nat) (es':List (PV × PV)),Born ents' clock' es'.length->(∀ (j:Nat) (m:MapEntry) (kv:PV × PV),ents'[j]?=some m->es'[j]?=some kv->Rep w C.B m.key kv.1/\Rep w C.B m.val kv.2) ->
   RelC X C g (upd look k (some (.mp es' false))) tr stop a (w.putObj (C.ρ k) (.map ents' clock')):=λents' clock' es' e1 e2=>by
  have hg:=zc3 w (C.ρ k) (.map ents' clock');refine h.modify hlk trivial rfl rfl rfl rfl rfl rfl rfl rfl (λ_ _=>rfl) (λ_ _ _ _ _ _ e=>by cases e) hg ?_ trivial (λb hb=>.inl hb)
  have hB:=zes h hlk rfl hg;exact ⟨ents',clock',_,World.putObj_heap_same (Mk.lt_of h1),.inl rfl,e1,λj m kv hm hkv=>⟨((e2 j m kv hm hkv).1).mono (λ_ h=>h) hB,((e2 j m kv hm hkv).2).mono (λ_ h=>h) hB⟩⟩
 have hset:∀ ob,(setObj (C.ρ k) ob).run P w=.ok () (w.putObj (C.ρ k) ob):=λob=>by rw [MapKept.run_setObj_map ob h1];rfl
 cases res with
 | none=>
  obtain ⟨_,f2⟩:=hfo;refine ⟨w.putObj (C.ρ k) (.map (ents.push { key:=a.eval y,val:=a.eval z,born:=clock }) (clock+1)),?_,?_⟩
  ·simp [Instr.mapUpdate,run_underlying ht,MapKept.run_getObj_map h1,hck,hfr,hset]
  ·rw [f2 v];refine fin _ _ _ (by rw [xad];exact h2.push _ _) λj m kv hm hkv=>?_
   by_cases hj:j < ents.size
   ·rw [Array.getElem?_push_lt hj] at hm;rw [xaT (by have:=h2.1;omega)] at hkv
    exact h3 j m kv (by rw [xai hj];exact hm) hkv
   ·have hj2:j=ents.size:=by
     have:=(xaR.1 hm).1;simp at this;omega
    subst hj2;simp at hm;rw [xaB (by have:=h2.1;omega),h2.1,xcm] at hkv
    simp at hkv;subst hm;subst hkv;exact ⟨hy,hz⟩
 | some iu=>
  obtain ⟨i',u⟩:=iu;obtain ⟨j,m,kv,f1,f2,f3,f4,f5,f6,f7⟩:=hfo;have hj:i'=j:=by omega
  subst hj;have hm:ents[i']?=some m:=by simpa using f2
  have hmk:=(h3 i' m kv hm f3).1;have hks':keyOk ka.1 ka.2 key kv.1:=by
   have:∀ {l:List (PV × PV)} {j:Nat} {kv:PV × PV},keysOk ka.1 ka.2 key l->l[j]?=some kv->keyOk ka.1 ka.2 key kv.1:=by
    intro l
    induction l with
    | nil=>intro j kv _ hj;simp at hj
    | cons y l ih=>
     intro j kv hl hj;obtain ⟨k0,v0⟩:=y;cases j with
     | zero=>simp at hj;subst hj;exact hl.1
     | succ j=>exact ih hl.2 (by simpa using hj)
   exact this hks f3
  have hst:=zjx (P:=P) hy hmk hkk hks' f6;refine ⟨w.putObj (C.ρ k) (.map (ents.modify i' λe=>{ e with key:=a.eval y,val:=a.eval z }) clock),?_,?_⟩
  ·simp [Instr.mapUpdate,run_underlying ht,MapKept.run_getObj_map h1,hck,hfr,hm,hst,hset]
  ·rw [f7 v];refine fin _ _ _ (by rw [xbQ];exact h2.modify _ _ λ_=>rfl) λj m' kv' hm' hkv'=>?_
   by_cases e:j=i'
   ·subst e;have hlt:=(xaR.1 hm).1;rw [xbE (by have:=h2.1;omega)] at hkv'
    injection hkv' with hkv';subst hkv';rw [xbx,if_pos rfl,hm] at hm';simp at hm';subst hm';exact ⟨hy,hz⟩
   ·rw [xb9 (Ne.symm e)] at hkv';rw [xbx,if_neg (Ne.symm e)] at hm';exact h3 j m' kv' hm' hkv'
theorem zrM (h:RelC X C g look tr stop a w) (ho:o.op=.mapUpdate t x y z\/o.op=.insert t x y z) (hc:zao P o=some (ao,args)) (hi:zaL w C look a args E) (he:zb d look ao (args.map E)=some (pre,eff)) (hp:pre):zt X g look tr stop a w P o eff:=by
 have hc':(match P.underlying t,zap [x,y,z] with
  | some (.map kt _),some l=>(zjl P kt).map λka=>((.mset ka.1 ka.2:AOp),l)
  | _,_=>none)=some (ao,args):=by
  rcases ho with ho|ho
  ·simp only [zao,ho] at hc;exact hc
  ·simp only [zao,ho] at hc;exact hc
 split at hc'
 ·rename_i kt et l ht hl;obtain ⟨ka,hk,e⟩:=xab.1 hc';injection e with e1 e2;subst e1;subst e2;obtain ⟨x',y',z',rfl,hx,hy,hz⟩:=zkz hl;obtain ⟨hrx,hsx⟩:=hi x x' hx (by simp)
  obtain ⟨hry,hsy⟩:=hi y y' hy (by simp)
  obtain ⟨hrz,hsz⟩:=hi z z' hz (by simp)
  simp only [xaj,xaF] at he;generalize E x'=q at he hrx hsx;generalize E y'=r at he hry hsy;generalize E z'=u at he hrz hsz;cases q<;>try (simp [zb] at he;done)
  rename_i k;cases r<;>try (simp [zb] at he;done)
  rename_i key;cases u<;>try (simp [zb] at he;done)
  rename_i v;simp only [zb] at he
  split at he
  ·rename_i es hlk;injection he with he;injection he with he1 he2;subst he1;subst he2;obtain ⟨hkk,hks⟩:=hp;obtain ⟨w',hr,hrel⟩:=zod (q:=.any) h ht hk hrx hlk (ze hry) (ze hrz) hkk hks;refine ⟨undef,w',C,.inr ⟨?_,rfl⟩,hrel,.any _,.any⟩
   rcases ho with ho|ho<;>simp [execOp,ho,hr]
  ·cases he
 ·cases hc'
theorem zgB:∀ {ps:List (PV × PV)},(mget p ps=none->zfa p ps=ps.length)/\∀ u,mget p ps=some u->zfa p ps < ps.length/\∀ v,mput p v ps=ps.set (zfa p ps) (p,v)
 | []=>⟨λ_=>rfl,λu h=>by cases h⟩
 | (k,u)::r=>by
  obtain ⟨i1,i2⟩:=zgB (ps:=r);cases hc:eqCells p.cells k.cells with
  | true=>exact ⟨λh=>by simp [mget,hc] at h,λu' _=>⟨by simp [zfa,hc],λv=>by simp [mput,zfa,hc]⟩⟩
  | false=>
   refine ⟨λh=>?_,λu' h=>?_⟩
   ·simp only [mget,hc] at h;simp only [zfa,hc,xaz];have:=i1 (by simpa using h)
    simp [this]
   ·simp only [mget,hc] at h;obtain ⟨h1,h2⟩:=i2 u' (by simpa using h)
    refine ⟨by simp only [zfa,hc,xaz];simp;exact h1,λv=>?_⟩
    simp [mput,zfa,hc,h2 v]
theorem zyt {ps:List (PV × PV)} {u:PV} (hj:j < ps.length) (hu:mget p ps=some u) (h:∀ v,mput p v ps=ps.set j (p,v)):zfa p ps=j:=by
 obtain ⟨h1,h2⟩:=zgB.2 u hu;refine Decidable.byContradiction λhne=>?_
 have key:∀ v,ps[j]?=some (p,v):=λv=>by
  have e:=(h2 v).symm.trans (h v);have e2:(ps.set (zfa p ps) (p,v))[j]?=(ps.set j (p,v))[j]?:=by rw [e]
  rw [xb9 hne,xbE hj] at e2;exact e2
 have:=(key (.b true)).symm.trans (key (.b false));simp at this
theorem zms (h:Rep w B v p) (hn:n<=1000000):Rep w B (.tuple #[v,goInt n]) (.tup [p,.i .i64 n]):=by
 refine .tup rfl λj u q hu hq=>?_
 match j with
 | 0=>simp at hu hq;subst hu;subst hq;exact h
 | 1=>simp at hu hq;subst hu;subst hq;exact .i (by simp only [IntKind.wrap,IntKind.bits,IntKind.signed];simp;omega)
 | j+2=>simp at hu
theorem zoh (h:RelC X C g look tr stop a w) {z:PV} (ht:P.underlying t=some (.map kt et)) (hk:zjl P kt=some ka) (hz:zB P et=some z) (hx:RepL w C look (a.eval x) (.lm k)) (hlk:look k=some (.mp es false)) (hy:Rep w C.B (a.eval y) key)
  (hkk:keyOk ka.1 ka.2 key key) (hks:keysOk ka.1 ka.2 key es) (hsm:es.length<=1000000):∃ w' v',(Instr.mapEntry t (a.eval x) (a.eval y)).run P w=.ok v' w'/\RelC X C g (upd look k (some (.mp (mput key ((mget key es).getD z) es) false))) tr stop a w'/\Rep w' C.B v' (.tup [(mget key es).getD z,.i .i64 (zfa key es)]):=by
 generalize hxv:a.eval x=xv at hx;cases hx;obtain ⟨ents,clock,fs,h1,h0,h2,h3⟩:=h.obj k _ hlk;obtain rfl:es=fs:=(h0.elim id λh=>by cases h.1:fs=es).symm
 obtain ⟨res,hfr,hfo⟩:=ziZ hk hy hkk ents.toList es (by simpa using h2.1) (λj m kv hm hkv=>(h3 j m kv (by simpa using hm) hkv).1) hks
 have hck:=zg0 (P:=P) hk hy hkk false;obtain ⟨i0,zv,i1,i2,i3⟩:=zaw hz;have hzero:∀ w':World,(zeroValue et).run P w'=.ok zv w':=λw'=>by simp [zeroValue,typeInfo,i1,i2]
 have fin:∀ (ents':Array MapEntry) (clock':Nat) (es':List (PV × PV)),Born ents' clock' es'.length->(∀ (j:Nat) (m:MapEntry) (kv:PV × PV),ents'[j]?=some m->es'[j]?=some kv->Rep w C.B m.key kv.1/\Rep w C.B m.val kv.2) ->
   RelC X C g (upd look k (some (.mp es' false))) tr stop a (w.putObj (C.ρ k) (.map ents' clock'))/\∀ {v:Value} {p:PV},Rep w C.B v p->Rep (w.putObj (C.ρ k) (.map ents' clock')) C.B v p:=λents' clock' es' e1 e2=>by
  have hg:=zc3 w (C.ρ k) (.map ents' clock');have hB:=zes h hlk rfl hg;refine ⟨?_,λhv=>hv.mono (λ_ h=>h) hB⟩
  refine h.modify hlk trivial rfl rfl rfl rfl rfl rfl rfl rfl (λ_ _=>rfl) (λ_ _ _ _ _ _ e=>by cases e) hg ?_ trivial (λb hb=>.inl hb)
  exact ⟨ents',clock',_,World.putObj_heap_same (Mk.lt_of h1),.inl rfl,e1,λj m kv hm hkv=>⟨((e2 j m kv hm hkv).1).mono (λ_ h=>h) hB,((e2 j m kv hm hkv).2).mono (λ_ h=>h) hB⟩⟩
 have hset:∀ ob,(setObj (C.ρ k) ob).run P w=.ok () (w.putObj (C.ρ k) ob):=λob=>by rw [MapKept.run_setObj_map ob h1];rfl
 cases res with
 | none=>
  obtain ⟨f1,f2⟩:=hfo;have hm:=zgB.1 f1;obtain ⟨g1,g2⟩:=fin (ents.push { key:=a.eval y,val:=zv,born:=clock }) (clock+1) (es++[(key,z)]) (by rw [xad];exact h2.push _ _) λj m kv hm hkv=>by
   by_cases hj:j < ents.size
   ·rw [Array.getElem?_push_lt hj] at hm;rw [xaT (by have:=h2.1;omega)] at hkv
    exact h3 j m kv (by rw [xai hj];exact hm) hkv
   ·have hj2:j=ents.size:=by
     have:=(xaR.1 hm).1;simp at this;omega
    subst hj2;simp at hm;rw [xaB (by have:=h2.1;omega),h2.1,xcm] at hkv
    simp at hkv;subst hm;subst hkv;exact ⟨hy,zbf i3 w C.B⟩
  refine ⟨w.putObj (C.ρ k) (.map (ents.push { key:=a.eval y,val:=zv,born:=clock }) (clock+1)),.tuple #[zv,goInt clock],?_,?_,?_⟩
  rotate_left
  ·rw [f1,Option.getD_none,f2];exact g1
  ·rw [f1,Option.getD_none,hm];rw [h2.2.1];have:=zms (g2 (zbf i3 w C.B)) hsm;rw [h2.2.1] at this;exact this
  ·simp [Instr.mapEntry,run_underlying ht,MapKept.run_getObj_map h1,hck,hfr,hset,hzero]
 | some iu=>
  obtain ⟨i',u⟩:=iu;obtain ⟨j,m,kv,f1,f2,f3,f4,f5,f6,f7⟩:=hfo;have hj:i'=j:=by omega
  subst hj;have hm:ents[i']?=some m:=by simpa using f2
  obtain ⟨hmk,hmv⟩:=h3 i' m kv hm f3;have hlt:=(xaR.1 hm).1;have hil:i' < es.length:=by have:=h2.1;omega
  have hks':keyOk ka.1 ka.2 key kv.1:=by
   have:∀ {l:List (PV × PV)} {j:Nat} {kv:PV × PV},keysOk ka.1 ka.2 key l->l[j]?=some kv->keyOk ka.1 ka.2 key kv.1:=by
    intro l
    induction l with
    | nil=>intro j kv _ hj;simp at hj
    | cons y l ih=>
     intro j kv hl hj;obtain ⟨k0,v0⟩:=y;cases j with
     | zero=>simp at hj;subst hj;exact hl.1
     | succ j=>exact ih hl.2 (by simpa using hj)
   exact this hks f3
  have hst:=zjx (P:=P) hy hmk hkk hks' f6;have hmi:=zyt hil f5 f7;have hbo:=h2.2.2 i' m hm;obtain ⟨g1,g2⟩:=fin (ents.modify i' λe=>{ e with key:=a.eval y }) clock (es.set i' (key,kv.2)) (by rw [xbQ];exact h2.modify _ _ λ_=>rfl) λj m' kv' hm' hkv'=>by
   by_cases e:j=i'
   ·subst e;rw [xbE hil] at hkv';injection hkv' with hkv';subst hkv';rw [xbx,if_pos rfl,hm] at hm';simp at hm';subst hm';exact ⟨hy,hmv⟩
   ·rw [xb9 (Ne.symm e)] at hkv';rw [xbx,if_neg (Ne.symm e)] at hm';exact h3 j m' kv' hm' hkv'
  refine ⟨w.putObj (C.ρ k) (.map (ents.modify i' λe=>{ e with key:=a.eval y }) clock),.tuple #[u,goInt m.born],?_,?_,?_⟩
  rotate_left
  ·rw [f5,xa7,f7];exact g1
  ·rw [f5,xa7,hmi,f4,hbo];exact zms (g2 hmv) (by omega)
  ·simp [Instr.mapEntry,run_underlying ht,MapKept.run_getObj_map h1,hck,hfr,hm,hst,hset]
theorem zof (h:RelC X C g look tr stop a w) {t:TypeId} {n:Int} {v:PV} (hx:RepL w C look (a.eval x) (.lm k)) (hlk:look k=some (.mp es false)) (hy:Rep w C.B (a.eval y) (.i .i64 n)) (hz:Rep w C.B (a.eval z) v)
  (h0:0<=n) (hn:n.toNat < es.length):∃ w',(Instr.entryStore t (a.eval x) (a.eval y) (a.eval z)).run P w=.ok () w'/\RelC X C g (upd look k (some (.mp (mat n.toNat v es) false))) tr stop a w':=by
 generalize hxv:a.eval x=xv at hx;cases hx;obtain ⟨ents,clock,fs,h1,h0',h2,h3⟩:=h.obj k _ hlk;obtain rfl:es=fs:=(h0'.elim id λh=>by cases h.1:fs=es).symm
 generalize hyv:a.eval y=yv at hy;cases hy;have hne:n.toNat < ents.size:=by rw [h2.1];exact hn
 have hfi:ents.findIdx? (λe=>(e.born:Int) == n)=some n.toNat:=by
  rw [Array.findIdx?_eq_some_iff_getElem];refine ⟨hne,?_,λj hj=>?_⟩
  ·have:=h2.2.2 n.toNat _ (xai hne);simp [this];omega
  ·have:=h2.2.2 j _ (xai (by omega))
   simp [this];omega
 have hset:∀ ob,(setObj (C.ρ k) ob).run P w=.ok () (w.putObj (C.ρ k) ob):=λob=>by rw [MapKept.run_setObj_map ob h1];rfl
 refine ⟨w.putObj (C.ρ k) (.map (ents.modify n.toNat λe=>{ e with val:=a.eval z }) clock),?_,?_⟩
 ·simp [Instr.entryStore,MapKept.run_getObj_map h1,asInt,asIntOf,hfi,hset]
 ·obtain ⟨e0,he0⟩:∃ e0,es[n.toNat]?=some e0:=⟨_,xac hn⟩;have hmat:mat n.toNat v es=es.set n.toNat (e0.1,v):=by unfold mat;rw [he0]
  rw [hmat];have hg:=zc3 w (C.ρ k) (.map (ents.modify n.toNat λe=>{ e with val:=a.eval z }) clock)
  have hB:=zes h hlk rfl hg;refine h.modify hlk trivial rfl rfl rfl rfl rfl rfl rfl rfl (λ_ _=>rfl) (λ_ _ _ _ _ _ e=>by cases e) hg ?_ trivial (λb hb=>.inl hb)
  refine ⟨_,clock,_,World.putObj_heap_same (Mk.lt_of h1),.inl rfl,by rw [xbQ];exact h2.modify _ _ λ_=>rfl,λj m' kv' hm' hkv'=>?_⟩
  have both:Rep w C.B m'.key kv'.1/\Rep w C.B m'.val kv'.2:=by
   by_cases e:j=n.toNat
   ·subst e;rw [xbE hn] at hkv';injection hkv' with hkv';subst hkv';rw [xbx,if_pos rfl,xai hne] at hm';simp at hm';subst hm';exact ⟨(h3 n.toNat _ e0 (xai hne) he0).1,hz⟩
   ·rw [xb9 (Ne.symm e)] at hkv';rw [xbx,if_neg (Ne.symm e)] at hm';exact h3 j m' kv' hm' hkv'
  exact ⟨both.1.mono (λ_ h=>h) hB,both.2.mono (λ_ h=>h) hB⟩
theorem zzs (h:RelC X C g look tr stop a w) (ho:o.op=.mapEntry t x y) (hc:zao P o=some (ao,args)) (hi:zaL w C look a args E) (he:zb d look ao (args.map E)=some (pre,eff)) (hp:pre):zt X g look tr stop a w P o eff:=by
 simp only [zao,ho] at hc
 split at hc
 ·rename_i kt et l ht hl
  split at hc
  ·rename_i ka z hk hz;injection hc with hc;injection hc with hc1 hc2;subst hc1;subst hc2;obtain ⟨x',y',rfl,hx,hy⟩:=zbw hl;obtain ⟨hrx,hsx⟩:=zcJ hi hx;obtain ⟨hry,hsy⟩:=zcI hi hy;simp only [xaj,xaF] at he;generalize E x'=q at he hrx hsx;generalize E y'=r at he hry hsy;cases q<;>try (simp [zb] at he;done)
   rename_i k;cases r<;>try (simp [zb] at he;done)
   rename_i key;simp only [zb] at he
   split at he
   ·rename_i es hlk;injection he with he;injection he with he1 he2;subst he1;subst he2;obtain ⟨hkk,hks,hsm⟩:=hp;obtain ⟨w',v',hr,hrel,hv⟩:=zoh h ht hk hz hrx hlk (ze hry) hkk hks hsm;exact ⟨v',w',C,.inl (by simp [execOp,ho,hr]),hrel,.p hv,.p _⟩
   ·cases he
  ·cases hc
 ·cases hc
theorem zzr (h:RelC X C g look tr stop a w) (ho:o.op=.entryStore t x y z) (hc:zao P o=some (ao,args)) (hi:zaL w C look a args E) (he:zb d look ao (args.map E)=some (pre,eff)) (hp:pre):zt X g look tr stop a w P o eff:=by
 simp only [zao,ho] at hc;obtain ⟨l,hl,e⟩:=xab.1 hc;injection e with e1 e2;subst e1;subst e2;obtain ⟨x',y',z',rfl,hx,hy,hz⟩:=zkz hl;obtain ⟨hrx,hsx⟩:=hi x x' hx (by simp)
 obtain ⟨hry,hsy⟩:=hi y y' hy (by simp)
 obtain ⟨hrz,hsz⟩:=hi z z' hz (by simp)
 simp only [xaj,xaF] at he;generalize E x'=q at he hrx hsx;generalize E y'=r at he hry hsy;generalize E z'=u at he hrz hsz;cases q<;>try (simp [zb] at he;done)
 rename_i k;cases r<;>try (simp [zb] at he;done)
 rename_i yp;cases u<;>try (simp [zb] at he;done)
 rename_i v;cases yp<;>try (simp [zb] at he;done)
 rename_i kd n;cases kd<;>try (simp [zb] at he;done)
 simp only [zb] at he
 split at he
 ·rename_i es hlk;injection he with he;injection he with he1 he2;subst he1;subst he2;obtain ⟨h0,hn⟩:=hp;obtain ⟨w',hr,hrel⟩:=zof (P:=P) (t:=t) h hrx hlk (ze hry) (ze hrz) h0 hn;exact ⟨undef,w',C,.inr ⟨by simp [execOp,ho,hr],rfl⟩,hrel,.any _,.any⟩
 ·cases he
theorem zzu (h:RelC X C g look tr stop a w) (ho:o.op=.call { callee:=.builtin .copy,args:=⟨[x,y]⟩,argTypes:=⟨[t,t']⟩ }) (hc:zao P o=some (ao,args)) (hi:zaL w C look a args E) (he:zb d look ao (args.map E)=some (pre,eff)) (hp:pre):zt X g look tr stop a w P o eff:=by
 simp only [zao,ho] at hc
 split at hc
 ·rename_i e e' l ht ht' hl;obtain ⟨sz,hs,e⟩:=xab.1 hc;injection e with e1 e2;subst e1;subst e2;obtain ⟨x',y',rfl,hx,hy⟩:=zbw hl;obtain ⟨hrx,hsx⟩:=zcJ hi hx;obtain ⟨hry,hsy⟩:=zcI hi hy;simp only [xaj,xaF] at he;generalize E x'=q at he hrx hsx;generalize E y'=r at he hry hsy;cases q<;>try (simp [zb] at he;done)
  rename_i k n;simp only [zb] at he
  split at he
  ·rename_i e2 sz' xs hlk;obtain ⟨⟨pr,ys,s',rd⟩,hel,he⟩:=xab.1 he;injection he with he1 he2;subst he1;subst he2;obtain ⟨hss,hn,hpr,hsz,h1⟩:=hp;simp only at hpr hsz h1;subst hss;obtain ⟨base,cap,hyv,hne,hm⟩:=zc6 h hry hel hpr;obtain ⟨us,hown,hus,hall,h0⟩:=h.obj k _ hlk;have hxv:a.eval x=C.cur k:=by generalize a.eval x=xv at hrx;cases hrx with|row hr=>exact hr _ _ _ _ hlk hn.symm
   have hop:∀ {v':Value} {w':World},(Builtin.copy_ #[t,t'] o.type #[C.cur k,.slice base ys.length cap]).run P w=.ok v' w'->(execOp a.eval o).run P w=.ok (.value v') w':=fun {v' w'} hr=>by
    unfold execOp;simp only [ho,resolve,invoke,builtin,Sem.run_bind,Sem.run_pure,Result.andThen_ok,List.map_toArray,xaj,xaF,hxv,hyv,hr]
   have hwr:IntKind.i64.wrap ((min ys.length xs.length:Nat):Int)=((min ys.length xs.length:Nat):Int):=(zbl _ _).2 (by simp only [maxLen] at hm;simp only [IntKind.lo,IntKind.hi]<;>constructor<;>omega)
   obtain ⟨i,hsi,hsi2⟩:=zek hs;have hsize:(sizeOf e).run P w=.ok sz w:=zQ hs
   by_cases hz:min ys.length xs.length=0
   ·-- nothing is copied
    have hrun:(Builtin.copy_ #[t,t'] o.type #[C.cur k,.slice base ys.length cap]).run P w=.ok (goInt (min ys.length xs.length:Nat)) w:=by
     have hl:∀ (x:Addr),(loadCells x 0).run P w=.ok #[] w:=λx=>by simpa using run_loadCells_list (P:=P) w x [] (by simp)
     have hcur:∃ ad cp,C.cur k=.slice ad xs.length cp:=by
      rcases hown.2 with ⟨f1,f2⟩|⟨gb,cp,cur,f1,_⟩
      ·exact ⟨none,0,by rw [f1,f2]⟩
      ·exact ⟨_,cp,f1⟩
     obtain ⟨ad,cp,hcv⟩:=hcur;rw [hcv];have hz':Nat.min ys.length xs.length=0:=hz;rw [hz];cases ad<;>cases base<;>simp [Builtin.copy_,run_underlying ht,Builtin.lenOf,Builtin.firstCells,hsize,hz',hl,storeCells]
    have hsame:ys.take xs.length++xs.drop ys.length=xs:=by
     by_cases hy0:ys.length=0
     ·rw [xay hy0];simp
     ·have:xs=[]:=xay (by omega)
      subst this;simp
    rw [hsame];refine ⟨goInt (min ys.length xs.length:Nat),w,C,.inl (hop hrun),?_,.p (.i hwr),.p _⟩;exact h.modify hlk ⟨rfl,rfl,xap _⟩ rfl rfl rfl rfl rfl rfl rfl rfl (λ_ _=>rfl) (λ_ _ _ _ _ _ _ _ _=>rfl) ⟨rfl,rfl,rfl,xap _,λ_ _ _=>rfl⟩ ⟨us,hown,hus,hall,h0⟩ trivial (λb hb=>.inl hb)
   ·have hys:ys≠[]:=λe=>by subst e;simp at hz
    obtain ⟨ad,ws,rfl,hl,hcell,hws,hall2⟩:=hne hys;have hss:s'=sz:=hsz.resolve_left hys;subst hss
    rcases hown.2 with ⟨f1,f2⟩|⟨gb,cp,cur,f1,f2,f3,f4,f5,f6,f7⟩
    ·have:xs=[]:=xay f2;subst this;simp at hz
    have hmin:Nat.min ys.length xs.length*s'<=ws.length:=by rw [hl];exact xba _ (Nat.min_le_left _ _)
    have hcl:(ws.take (min ys.length xs.length*s')).length=min ys.length xs.length*s':=by rw [xan];exact xcb hmin
    have hload:(loadCells ad (Nat.min ys.length xs.length*s')).run P w=.ok (ws.take (min ys.length xs.length*s')).toArray w:=by
     have:=run_loadCells_list (P:=P) w ad (ws.take (min ys.length xs.length*s')) (λj u hu=>by
      rw [xaQ] at hu
      split at hu
      ·exact hcell j u hu
      ·cases hu)
     rw [hcl] at this;exact this
    have hxl:xs.length*s'<=cur.size:=by rw [f6];exact xba _ f4
    have hle:min ys.length xs.length*s'<=xs.length*s':=xba _ (Nat.min_le_right _ _);have hst:=run_storeCells_at (P:=P) gb 0 e2 (ws.take (min ys.length xs.length*s')) 0 cur w f3 (by rw [hcl];omega) (λv hv=>zdD hws h1 v (xbu hv))
    simp only [xbt,xb8,xbb,xaL,hcl] at hst;have hrun:(Builtin.copy_ #[t,t'] o.type #[C.cur k,.slice (some ad) ys.length cap]).run P w=.ok (goInt (min ys.length xs.length:Nat)) (w.setRow gb (ws.take (min ys.length xs.length*s')++cur.toList.drop (min ys.length xs.length*s')).toArray):=by
     rw [f1];simp [Builtin.copy_,run_underlying ht,Builtin.lenOf,Builtin.firstCells,hsize,hload,hst]
    have hbk:blk C k (.row e2 s' xs false)=some gb:=by simp [blk,f1,Value.ownBlock]
    have hgr:=zcz w gb (ws.take (min ys.length xs.length*s')++cur.toList.drop (min ys.length xs.length*s')).toArray (blk C k (.row e2 s' xs false)) hbk;have hB:=zes h hlk rfl hgr;have hnl:(ys.take xs.length++xs.drop ys.length).length=xs.length:=by simp;omega
    have hfl:(ys.take xs.length++xs.drop ys.length).flatMap PV.cells=((ys.flatMap PV.cells).take (min ys.length xs.length*s'))++(xs.flatMap PV.cells).drop (min ys.length xs.length*s'):=by
     rw [zeb];have g1:∀ (l:List PV) (m:Nat),(∀ x ∈ l,x.cells.length=s')->m<=l.length->(l.take m).flatMap PV.cells=(l.flatMap PV.cells).take (m*s')/\(l.drop m).flatMap PV.cells=(l.flatMap PV.cells).drop (m*s'):=λl m hl hm=>by
      have h2:=zeb (l.take m) (l.drop m);rw [xaq] at h2;have h3:((l.take m).flatMap PV.cells).length=m*s':=by
       rw [zdI (λx hx=>hl x (xbu hx):∀ x ∈ l.take m,x.cells.length=s'),xan,xcb hm]
      constructor
      ·rw [h2,List.take_append_of_le_length (xb7 h3.symm),xas (xb7 h3)]
      ·rw [h2,List.drop_append_of_le_length (xb7 h3.symm),xbX (xb7 h3),xaL]
     have e1:ys.take xs.length=ys.take (min ys.length xs.length):=by
      by_cases hc:ys.length<=xs.length
      ·rw [xcb hc,xas hc,xas (xap _)]
      ·rw [Nat.min_eq_right (by omega)]
     have e2:xs.drop ys.length=xs.drop (min ys.length xs.length):=by
      by_cases hc:ys.length<=xs.length
      ·rw [xcb hc]
      ·rw [Nat.min_eq_right (by omega),xbX (by omega),xbX (xap _)]
     rw [e1,e2,(g1 ys _ hall2 (Nat.min_le_left _ _)).1,(g1 xs _ hall (Nat.min_le_right _ _)).2]
    refine ⟨goInt (min ys.length xs.length:Nat),_,C,.inl (hop hrun),?_,.p (.i hwr),.p _⟩;refine h.modify hlk ⟨rfl,rfl,by rw [hnl];exact xap _⟩ rfl rfl rfl rfl rfl rfl rfl rfl (λ_ _=>rfl) (λ_ _ _ _ _ _ _ _ _=>rfl) hgr ?_ trivial (λb hb=>.inl hb)
    have husl:us.length=xs.length*s':=hown.1;refine ⟨ws.take (min ys.length xs.length*s')++us.drop (min ys.length xs.length*s'),⟨by rw [hnl,xad,hcl,xav];omega,.inr ⟨gb,cp,_,?_,xbk _,setRow_heap w gb cur _ e2 _ f3,?_,f5,?_,?_⟩⟩,?_,?_,h0⟩
    ·rw [f1,hnl]
    ·rw [hnl];exact f4
    ·simp only [List.size_toArray,xad,hcl,xav,xbZ]
     omega
    ·rw [hnl,<-f7,List.toList_toArray,List.take_append,hcl,xas (by rw [hcl];exact hle),List.drop_take]
    ·rw [hfl];exact ((zcc hws _).append (zcd hus _)).mono (λ_ h=>h) hB
    ·intro z hz2
     rcases xaS.1 hz2 with hz2|hz2
     ·exact hall2 z (xbu hz2)
     ·exact hall z (List.mem_of_mem_drop hz2)
  ·cases he
 ·cases hc
end
section
variable {X:Fx} {C:Ctx} {g:Nat->LV} {look:Nat->Option LObj} {tr:List (List PV)} {stop:Bool} {a:Act} {w:World} {P:Program} {o:Oper} {ao:AOp} {args:List AOpd} {E:AOpd->LV} {d:Nat} {pre:Prop} {eff:Eff}
theorem zkp (h:RelC X C g look tr stop a w) {f:Nat} (ho:o.op=.fieldAddr t x f) (hc:zao P o=some (ao,args)) (hi:zaL w C look a args E) (he:zb d look ao (args.map E)=some (pre,eff)) (hp:pre):zt X g look tr stop a w P o eff:=by
 simp only [zao,ho] at hc
 split at hc
 ·rename_i fs x' ht hx;obtain ⟨fl,hf,hc⟩:=xao.1 hc;obtain ⟨s,hs,hc⟩:=xao.1 hc
  split at hc
  ·cases hc
  ·rename_i h0;injection hc with hc;injection hc with hc1 hc2;subst hc1;subst hc2;obtain ⟨hr,hsc⟩:=zj9 hi hx;simp only [xaj,xaF] at he;generalize E x'=q at he hr hsc;cases q with
   | p v=>
    cases v<;>try (simp [zb] at he;done)
    simp only [zb] at he;injection he with he;injection he with he1 he2;subst he2;exact zyP h ho ht hf hs h0 (ze hr)
   | lp k off=>
    simp only [zb] at he;injection he with he;injection he with he1 he2;subst he2;exact zyO h ho ht hf hs h0 hr hsc
   | ep k n i off=>
    simp only [zb] at he
    split at he
    ·rename_i hk;injection he with he;injection he with he1 he2;subst he1;subst he2;exact zyQ h ho ht hf hs h0 hr hsc ⟨_,_,_,_,hk,hp⟩
    ·cases he
   | _=>simp [zb] at he
 ·cases hc
theorem zvu (h:RelC X C g look tr stop a w) {f:Nat} (ho:o.op=.field t x f) (hc:zao P o=some (ao,args)) (hi:zaL w C look a args E) (he:zb d look ao (args.map E)=some (pre,eff)) (hp:pre):zt X g look tr stop a w P o eff:=by
 simp only [zao,ho] at hc
 split at hc
 ·rename_i fs x' ht hx;obtain ⟨fl,hf,hc⟩:=xao.1 hc
  split at hc
  ·rename_i s ag hs hag;injection hc with hc;injection hc with hc1 hc2;subst hc1;subst hc2;obtain ⟨hr,hsc⟩:=zj9 hi hx;simp only [xaj,xaF] at he;generalize E x'=q at he hr hsc;cases q<;>try (simp [zb] at he;done)
   simp only [zb] at he;injection he with he;injection he with he1 he2;subst he1;subst he2;exact zrl h ho ht hf hs hag (ze hr) hp.1 hp.2.1 hp.2.2
  ·cases hc
 ·cases hc
theorem zvt (h:RelC X C g look tr stop a w) (ho:o.op=.index t x i) (hc:zao P o=some (ao,args)) (hi:zaL w C look a args E) (he:zb d look ao (args.map E)=some (pre,eff)) (hp:pre):zt X g look tr stop a w P o eff:=by
 simp only [zao,ho] at hc
 split at hc
 ·rename_i n e l ht hl;obtain ⟨x',y',rfl,hx,hy⟩:=zbw hl
  split at hc
  ·rename_i s ag hs hag;injection hc with hc;injection hc with hc1 hc2;subst hc1;subst hc2;obtain ⟨hr,_⟩:=zcJ hi hx;obtain ⟨hry,_⟩:=zcI hi hy;simp only [xaj,xaF] at he;generalize E x'=q at he hr;generalize E y'=r at he hry;cases q<;>try (simp [zb] at he;done)
   cases r<;>try (simp [zb] at he;done)
   rename_i v;cases v<;>try (simp [zb] at he;done)
   simp only [zb] at he;injection he with he;injection he with he1 he2;subst he1;subst he2;exact zox h ho ht hs hag (ze hr) (ze hry) hp.1 hp.2.1 hp.2.2.1 hp.2.2.2.1 hp.2.2.2.2
  ·cases hc
 ·rename_i l ht hl;obtain ⟨x',y',rfl,hx,hy⟩:=zbw hl;injection hc with hc;injection hc with hc1 hc2;subst hc1;subst hc2;obtain ⟨hr,_⟩:=zcJ hi hx;obtain ⟨hry,_⟩:=zcI hi hy;simp only [xaj,xaF] at he;generalize E x'=q at he hr;generalize E y'=r at he hry;cases q<;>try (simp [zb] at he;done)
  rename_i v;cases v<;>try (simp [zb] at he;done)
  cases r<;>try (simp [zb] at he;done)
  rename_i v;cases v<;>try (simp [zb] at he;done)
  simp only [zb] at he;injection he with he;injection he with he1 he2;subst he1;subst he2;exact zow h ho ht (ze hr) (ze hry) hp.1 hp.2
 ·cases hc
theorem zko (h:RelC X C g look tr stop a w) (ho:o.op=.indexAddr t x i) (hc:zao P o=some (ao,args)) (hi:zaL w C look a args E) (he:zb d look ao (args.map E)=some (pre,eff)) (hp:pre):zt X g look tr stop a w P o eff:=by
 simp only [zao,ho] at hc
 split at hc
 ·rename_i n e l ht hl;obtain ⟨x',y',rfl,hx,hy⟩:=zbw hl;obtain ⟨s,hs,hc⟩:=xab.1 hc;injection hc with hc1 hc2;subst hc1;subst hc2;obtain ⟨hr,hsc⟩:=zcJ hi hx;obtain ⟨hry,_⟩:=zcI hi hy;simp only [xaj,xaF] at he;generalize E x'=q at he hr hsc;generalize E y'=r at he hry;cases q<;>try (simp [zb] at he;done)
  ·rename_i v;cases v<;>try (simp [zb] at he;done)
   cases r<;>try (simp [zb] at he;done)
   rename_i v;cases v<;>try (simp [zb] at he;done)
   simp only [zb] at he;injection he with he;injection he with he1 he2;subst he1;subst he2;exact zuU h ho ht hs (ze hr) (ze hry) hp.1 hp.2
  ·cases r<;>try (simp [zb] at he;done)
   rename_i v;cases v<;>try (simp [zb] at he;done)
   simp only [zb] at he;injection he with he;injection he with he1 he2;subst he1;subst he2;exact zuT h ho ht hs hr hsc (ze hry) hp.1 hp.2
 ·rename_i e l ht hl;obtain ⟨x',y',rfl,hx,hy⟩:=zbw hl;obtain ⟨s,hs,hc⟩:=xab.1 hc;injection hc with hc1 hc2;subst hc1;subst hc2;obtain ⟨hr,hsc⟩:=zcJ hi hx;obtain ⟨hry,_⟩:=zcI hi hy;simp only [xaj,xaF] at he;generalize E x'=q at he hr hsc;generalize E y'=r at he hry;cases q<;>try (simp [zb] at he;done)
  ·rename_i v;cases v<;>try (simp [zb] at he;done)
   cases r<;>try (simp [zb] at he;done)
   rename_i v;cases v<;>try (simp [zb] at he;done)
   simp only [zb] at he;injection he with he;injection he with he1 he2;subst he1;subst he2;obtain ⟨rfl,hp⟩:=hp;exact zuS h ho ht hs (ze hr) (ze hry) hp.1 hp.2
  ·cases r<;>try (simp [zb] at he;done)
   rename_i v;cases v<;>try (simp [zb] at he;done)
   simp only [zb] at he
   split at he
   ·rename_i hk;injection he with he;injection he with he1 he2;subst he1;subst he2;obtain ⟨rfl,hn,h0,h1⟩:=hp;exact zrc h ho ht hs hr hk hn (ze hry) h0 h1
   ·cases he
 ·cases hc
theorem zoP (h:RelC X C g look tr stop a w) (ho:o.op=.extract x j) (hc:zao P o=some (ao,args)) (hi:zaL w C look a args E) (he:zb d look ao (args.map E)=some (pre,eff)) (hp:pre):zt X g look tr stop a w P o eff:=by
 simp only [zao,ho,xab] at hc;obtain ⟨x',hx,hc⟩:=hc;injection hc with hc1 hc2;subst hc1;subst hc2;obtain ⟨hr,hs⟩:=zj9 hi hx;simp only [xaj,xaF] at he;generalize E x'=q at he hr hs;cases q<;>try (simp [zb] at he;done)
 ·rename_i v;cases v<;>try (simp [zb] at he;done)
  simp only [zb] at he;injection he with he;injection he with he1 he2;subst he1;subst he2;exact zrp h ho (ze hr) hp
 ·rename_i qs;simp only [zb] at he;injection he with he;injection he with he1 he2;subst he1;subst he2;generalize hxv:a.eval x=xv at hr;cases hr with
  | @tup cs _ h1 h2=>
   cases hs with
   | tup s=>
    have hj:j < cs.size:=by rw [h1];exact hp
    have e1:qs[j]?=some (qs[j]'hp):=xac hp;have e2:cs[j]?=some cs[j]:=xai hj;refine zbX h (v:=cs[j]) ?_ ?_ ?_
    ·simp only [execOp,ho,hxv,Instr.extract,e2,Sem.run_bind,Sem.run_pure,Result.andThen_ok]
    ·rw [e1];exact h2 j _ _ e2 e1
    ·rw [e1];exact s j _ e1
theorem zvs (h:RelC X C g look tr stop a w) (ho:o.op=.range t x) (hc:zao P o=some (ao,args)) (hi:zaL w C look a args E) (he:zb d look ao (args.map E)=some (pre,eff)) (hd:eff.nw=true->look d=none):zt X g look tr stop a w P o eff:=by
 simp only [zao,ho] at hc
 split at hc
 ·rename_i x' ht hx;injection hc with hc;injection hc with hc1 hc2;subst hc1;subst hc2;obtain ⟨hr,hs⟩:=zj9 hi hx;simp only [xaj,xaF] at he;generalize E x'=q at he hr hs;cases q<;>try (simp [zb] at he;done)
  rename_i v;cases v<;>try (simp [zb] at he;done)
  simp only [zb] at he;injection he with he;injection he with he1 he2;subst he2;exact zk3 h ho ht (ze hr) (hd rfl)
 ·injection hc with hc;injection hc with hc1 hc2;subst hc1;subst hc2;simp [zb] at he
 ·cases hc
theorem zCa (h:RelC X C g look tr stop a w) (ho:o.op=.call { callee:=.builtin .len,args:=⟨[x]⟩,argTypes:=⟨[t]⟩ }) (hc:zao P o=some (ao,args)) (hi:zaL w C look a args E) (he:zb d look ao (args.map E)=some (pre,eff)) (hp:pre):zt X g look tr stop a w P o eff:=by
 simp only [zao,ho] at hc
 split at hc
 ·rename_i x' ht hx;injection hc with hc;injection hc with hc1 hc2;subst hc1;subst hc2;obtain ⟨hr,hs⟩:=zj9 hi hx;simp only [xaj,xaF] at he;generalize E x'=q at he hr hs;cases q<;>try (simp [zb] at he;done)
  rename_i v;cases v<;>try (simp [zb] at he;done)
  simp only [zb] at he;injection he with he;injection he with he1 he2;subst he2;exact zoi h ho ht (ze hr)
 ·rename_i e x' ht hx;injection hc with hc;injection hc with hc1 hc2;subst hc1;subst hc2;obtain ⟨hr,hs⟩:=zj9 hi hx;simp only [xaj,xaF] at he
  by_cases hq:∃ a0 n c0,E x'=.p (.rs a0 n c0)
  ·obtain ⟨a0,n,c0,hq⟩:=hq;rw [hq] at he hr;simp only [zb] at he;injection he with he;injection he with he1 he2;subst he1;subst he2;exact zok h ho ht (ze hr) hp
  ·have he':(zba look (E x')).map (λr=>(r.1,(⟨.p (.i .i64 r.2.1.length),none,false,r.2.2.2⟩:Eff)))=some (pre,eff):=by
    rw [<-he];generalize E x'=q at hq;cases q with
    | p v=>cases v<;>first|rfl|exact absurd ⟨_,_,_,rfl⟩ hq
    | _=>rfl
   obtain ⟨⟨p,xs,sz,rd⟩,hel,he⟩:=xab.1 he';injection he with he1 he2;subst he1;subst he2;exact zoj h ho ht hr hel hp
 ·cases hc
theorem zCd (h:RelC X C g look tr stop a w) (ho:o.op=.call { callee:=.builtin .append,args:=⟨[x,y]⟩,argTypes:=⟨[t,t']⟩ }) (hc:zao P o=some (ao,args)) (hi:zaL w C look a args E) (he:zb d look ao (args.map E)=some (pre,eff)) (hp:pre) (hd:eff.nw=true->look d=none):zt X g look tr stop a w P o eff:=by
 simp only [zao,ho] at hc
 split at hc
 ·rename_i htt;subst htt
  split at hc
  ·rename_i e l ht hl
   split at hc
   ·rename_i sz by_ z hs hb hz
    split at hc
    ·rename_i hcond;obtain ⟨h0,hzl,hb0⟩:=hcond;injection hc with hc;injection hc with hc1 hc2;subst hc1;subst hc2;obtain ⟨x',y',rfl,hx,hy⟩:=zbw hl;obtain ⟨hr,_⟩:=zcJ hi hx;obtain ⟨hry,_⟩:=zcI hi hy;simp only [xaj,xaF] at he;generalize E x'=q at he hr;generalize E y'=r at he hry;cases q<;>try (simp [zb] at he;done)
     ·rename_i v;cases v<;>try (simp [zb] at he;done)
      simp only [zb] at he;obtain ⟨⟨p,ys,s',rd⟩,hel,he⟩:=xab.1 he;injection he with he1 he2;subst he1;subst he2;exact zo0 h ho ht hs hb hz h0 hzl hb0 (ze hr) hry hel hp.1 hp.2.1 hp.2.2.1 hp.2.2.2 (hd rfl)
     ·simp only [zb] at he
      split at he
      ·rename_i e' sz' xs hk;obtain ⟨⟨p,ys,s',rd⟩,hel,he⟩:=xab.1 he;injection he with he1 he2;subst he1;subst he2;obtain ⟨hee,hss,hn,hpp,hsz,h1,hby⟩:=hp;exact zoZ h ho ht hs hb hz h0 hzl hb0 hr hk hee hss hn hry hel hpp hsz h1 hby
      ·cases he
    ·cases hc
   ·cases hc
  ·cases hc
 ·cases hc
theorem zB9 (h:RelC X C g look tr stop a w) {ts:Array TypeId} (ho:o.op=.call { callee:=.builtin .max,args:=⟨[x,y]⟩,argTypes:=ts }) (hc:zao P o=some (ao,args)) (hi:zaL w C look a args E) (he:zb d look ao (args.map E)=some (pre,eff)) (hp:pre):zt X g look tr stop a w P o eff:=by
 simp only [zao,ho,xab] at hc;obtain ⟨l,hl,hc⟩:=hc;injection hc with hc1 hc2;subst hc1;subst hc2;obtain ⟨x',y',rfl,hx,hy⟩:=zbw hl;obtain ⟨hr,_⟩:=zcJ hi hx;obtain ⟨hry,_⟩:=zcI hi hy;simp only [xaj,xaF] at he;generalize E x'=q at he hr;generalize E y'=r at he hry;cases q<;>try (simp [zb] at he;done)
 rename_i v;cases v<;>try (simp [zb] at he;done)
 cases r<;>try (simp [zb] at he;done)
 rename_i v;cases v<;>try (simp [zb] at he;done)
 simp only [zb] at he;injection he with he;injection he with he1 he2;subst he1;subst he2;exact zqQ h ho (ze hr) (ze hry) hp
theorem zB8 (h:RelC X C g look tr stop a w) {ts:Array TypeId} (ho:o.op=.call { callee:=.builtin .min,args:=⟨[x,y]⟩,argTypes:=ts }) (hc:zao P o=some (ao,args)) (hi:zaL w C look a args E) (he:zb d look ao (args.map E)=some (pre,eff)) (hp:pre):zt X g look tr stop a w P o eff:=by
 simp only [zao,ho,xab] at hc;obtain ⟨l,hl,hc⟩:=hc;injection hc with hc1 hc2;subst hc1;subst hc2;obtain ⟨x',y',rfl,hx,hy⟩:=zbw hl;obtain ⟨hr,_⟩:=zcJ hi hx;obtain ⟨hry,_⟩:=zcI hi hy;simp only [xaj,xaF] at he;generalize E x'=q at he hr;generalize E y'=r at he hry;cases q<;>try (simp [zb] at he;done)
 rename_i v;cases v<;>try (simp [zb] at he;done)
 cases r<;>try (simp [zb] at he;done)
 rename_i v;cases v<;>try (simp [zb] at he;done)
 simp only [zb] at he;injection he with he;injection he with he1 he2;subst he1;subst he2;exact zqO h ho (ze hr) (ze hry) hp
theorem zfv (h:RelC X C g look tr stop a w) (hc:zao P o=some (ao,args)) (hi:zaL w C look a args E) (he:zb d look ao (args.map E)=some (pre,eff)) (hp:pre) (hd:eff.nw=true->look d=none):zt X g look tr stop a w P o eff:=by
 have hc':=hc;unfold zao at hc'
 split at hc'
 all_goals first|(cases hc';done)|(cases hc';simp [zb] at he;done)|skip
 ·obtain ⟨x,_,e⟩:=xab.1 hc';injection e with e1 e2;subst e1;subst e2;simp [zb] at he
 ·obtain ⟨x,_,e⟩:=xab.1 hc';injection e with e1 e2;subst e1;subst e2;simp [zb] at he
 ·obtain ⟨x,_,e⟩:=xab.1 hc';injection e with e1 e2;subst e1;subst e2;simp [zb] at he
 ·exact zvw h ‹_› hc he hd
 ·exact zCb h ‹_› hc hi he hp hd
 ·exact zvv h ‹_› hc hi he hp
 ·exact zrO h ‹_› hc hi he hp hd
 ·exact zzt h ‹_› hc hi he hp
 ·exact zvq h ‹_› hc hi he hp
 ·exact zrL h ‹_› hc hi he hp
 ·exact zCc h ‹_› hc hi he hp
 ·exact zB7 h ‹_› hc hi he hp
 ·exact zB7 h ‹_› hc hi he hp
 ·exact zoQ h ‹_› hc hi he hp
 ·exact zlY h ‹_› hc hi he
 ·exact zvr h ‹_› hc hi he hp
 ·exact zkp h ‹_› hc hi he hp
 ·exact zvu h ‹_› hc hi he hp
 ·exact zvt h ‹_› hc hi he hp
 ·exact zko h ‹_› hc hi he hp
 ·exact zoP h ‹_› hc hi he hp
 ·exact zvs h ‹_› hc hi he hd
 ·exact zzq h ‹_› hc hi he hp
 ·obtain ⟨x,_,e⟩:=xab.1 hc';injection e with e1 e2;subst e1;subst e2;simp [zb] at he
 ·obtain ⟨x,_,e⟩:=xab.1 hc';injection e with e1 e2;subst e1;subst e2;simp [zb] at he
 ·exact zkn h ‹_› hc hi he hp hd
 ·exact zoO h ‹_› hc he hd
 ·exact zrN h ‹_› hc hi he hp
 ·exact zrM h (.inl ‹_›) hc hi he hp
 ·exact zrM h (.inr ‹_›) hc hi he hp
 ·exact zzs h ‹_› hc hi he hp
 ·exact zzr h ‹_› hc hi he hp
 ·exact zCa h ‹_› hc hi he hp
 ·exact zCd h ‹_› hc hi he hp hd
 ·exact zzu h ‹_› hc hi he hp
 ·exact zB9 h ‹_› hc hi he hp
 ·exact zB8 h ‹_› hc hi he hp
 ·obtain ⟨x,_,e⟩:=xab.1 hc';injection e with e1 e2;subst e1;subst e2;simp [zb] at he
 ·obtain ⟨x,_,e⟩:=xab.1 hc';injection e with e1 e2;subst e1;subst e2;simp [zb] at he
end
def boxPV:List PV->PV
 | [v]=>if v.isAgg then .agg [v] else v
 | vs=>.agg vs
theorem zg4 (vs:List PV):(boxPV vs).cells=vs:=by
 match vs with
 | []=>rfl
 | [v]=>cases v<;>rfl
 | _::_::_=>rfl
def toPV (look:Nat->Option LObj):Nat->LV->Option (Prop × PV × List Nat)
 | 0,_=>none
 | m+1,q=>match q with
  | .p v=>some (True,v,[])
  | .row k n=>match look k with
   | some (.row _ sz xs _)=>some (n=xs.length,.sl sz xs,[k])
   | _=>none
  | .lp k off=>match look k with
   | some (.box cs _)=>(go m cs).map λr=>(r.1,.ip (boxPV r.2.1) off,k::r.2.2)
   | _=>none
  | .fn f a b=>match go m a,go m b with
   | some r,some t=>some (r.1/\t.1,.fn f r.2.1 t.2.1,r.2.2++t.2.2)
   | _,_=>none
  | .agg cs=>(go m cs).map λr=>(r.1,.agg r.2.1,r.2.2)
  | .tup cs=>(go m cs).map λr=>(r.1,.tup r.2.1,r.2.2)
  | .lm k=>match look k with
   | some (.mp es _)=>some (True,.mp es,[k])
   | _=>none
  | _=>none
where go (m:Nat):List LV->Option (Prop × List PV × List Nat)
 | []=>some (True,[],[])
 | q::r=>match toPV look m q,go m r with
  | some x,some y=>some (x.1/\y.1,x.2.1::y.2.1,x.2.2++y.2.2)
  | _,_=>none
def toPVs (look:Nat->Option LObj) (l:List LV):Option (Prop × List PV × List Nat):=toPV.go look 4 l
def zbv (C:Ctx) (look:Nat->Option LObj) (ks:List Nat) (b:Nat):Prop:=∃ k ∈ ks,∃ o,look k=some o/\blk C k o=some b
section
variable {X:Fx} {C:Ctx} {g:Nat->LV} {look:Nat->Option LObj} {tr:List (List PV)} {stop:Bool} {a:Act} {w:World} {P:Program}
theorem zbA {m:Nat} (ih:∀ {v:Value} {q:LV} {pre:Prop} {pv:PV} {ks:List Nat},RepL w C look v q->toPV look m q=some (pre,pv,ks)->pre->(∀ b,zbv C look ks b->B' b)->Rep w B' v pv) :
  ∀ {vs:List Value} {qs:List LV} {pre:Prop} {ps:List PV} {ks:List Nat},vs.length=qs.length->(∀ (j:Nat) (v:Value) (q:LV),vs[j]?=some v->qs[j]?=some q->RepL w C look v q) ->
  toPV.go look m qs=some (pre,ps,ks)->pre->(∀ b,zbv C look ks b->B' b)->Reps w B' vs ps:=by
 intro vs qs
 induction qs generalizing vs with
 | nil=>
  intro pre ps ks hl _ h hp hb;have:vs=[]:=xay (by simpa using hl)
  subst this;simp only [toPV.go] at h;injection h with h;injection h with h1 h;injection h with h2 h3;subst h2;exact .nil
 | cons q r ihr=>
  intro pre ps ks hl hr h hp hb
  match vs,hl with
  | v::vs,hl=>
   simp only [toPV.go] at h
   split at h
   ·rename_i x y hx hy;injection h with h;injection h with h1 h;injection h with h2 h3;subst h1;subst h2;subst h3;exact .cons (ih (hr 0 v q rfl rfl) hx hp.1 λb ⟨k,hk,o,ho⟩=>hb b ⟨k,xbi _ hk,o,ho⟩)
     (ihr (by simpa using hl) (λj u p hu hq=>hr (j+1) u p (by simpa using hu) (by simpa using hq)) hy hp.2 λb ⟨k,hk,o,ho⟩=>hb b ⟨k,xbc _ hk,o,ho⟩)
   ·cases h
theorem zmf (h:RelC X C g look tr stop a w) (hB:∀ b,C.B b->B' b):∀ (m:Nat) {v:Value} {q:LV} {pre:Prop} {pv:PV} {ks:List Nat},RepL w C look v q->toPV look m q=some (pre,pv,ks)->pre ->
  (∀ b,zbv C look ks b->B' b)->Rep w B' v pv:=by
 intro m
 induction m with
 | zero=>intro v q pre pv ks _ ht;simp [toPV] at ht
 | succ m ih=>
  intro v q pre pv ks hq ht hp hb;cases hq with
  | p hr=>
   simp only [toPV] at ht;injection ht with ht;injection ht with h1 ht;injection ht with h2 h3;subst h2;exact hr.mono hB λ_ _=>rfl
  | @row v k n hr=>
   simp only [toPV] at ht
   split at ht
   ·rename_i e sz xs fz hk;injection ht with ht;injection ht with h1 ht;injection ht with h2 h3;subst h1;subst h2;subst h3;have hv:=hr _ _ _ _ hk hp.symm;obtain ⟨us,how,hus,hx,h0⟩:=h.obj k _ hk
    rcases how.2 with ⟨f1,f2⟩|⟨gb,cap,cur,f1,f2,f3,f4,f5,f6,f7⟩
    ·have:xs=[]:=xay (by simpa using f2)
     subst this;rw [hv,f1];exact .sl0
    ·have hbk:blk C k (.row e sz xs fz)=some gb:=by simp [blk,f1,Value.ownBlock]
     have hcell:=how.cells (g:=gb) (by rw [f1];rfl)
     rw [hv,f1];refine .sl (λi j=>(us[i*sz+j]?).getD undef) (hb gb ⟨k,by simp,_,hk,hbk⟩) rfl rfl f4 f5 (λi x hxi=>hx x (xae hxi)) (λi x j p hxi hpj=>?_) (λi x j p hxi hpj=>?_)
     ·have hxl:=hx x (xae hxi);have hj:j < sz:=by rw [<-hxl];exact (xaa.1 hpj).1
      have hf:=zc4 hx i x j hxi hj;rw [hpj] at hf;obtain ⟨u,hu,_⟩:=hus.get hf;rw [hu];exact hcell _ _ hu
     ·have hxl:=hx x (xae hxi);have hj:j < sz:=by rw [<-hxl];exact (xaa.1 hpj).1
      have hf:=zc4 hx i x j hxi hj;rw [hpj] at hf;obtain ⟨u,hu,hur⟩:=hus.get hf;show Rep w B' ((us[i*sz+j]?).getD undef) p;rw [hu];exact hur.mono hB λ_ _=>rfl
   ·cases ht
  | @lp k off=>
   simp only [toPV] at ht
   split at ht
   ·rename_i cs fz hk;obtain ⟨r,hr,ht⟩:=xab.1 ht;injection ht with h1 ht;injection ht with h2 h3;subst h1;subst h2;subst h3;obtain ⟨arr,ty,ha,hl,hc⟩:=h.obj k _ hk;have hreps:=zbA (B':=B') ih (vs:=arr.toList) (by simpa using hl) (λj v q hv hq=>hc j v q (by simpa using hv) hq) hr hp (λb ⟨k',hk',o,ho⟩=>hb b ⟨k',xaH _ hk',o,ho⟩)
    refine .ip (λj=>(arr[off+j]?).getD undef) (hb (C.ρ k) ⟨k,by simp,_,hk,rfl⟩) rfl (λj p hp=>?_) (λj p hp=>?_)
    ·rw [zg4] at hp;obtain ⟨u,hu,_⟩:=hreps.get hp;have hu':arr[off+j]?=some u:=by simpa using hu
     rw [hu',Addr.add_lit0];simp [World.cell?,ha,hu']
    ·rw [zg4] at hp;obtain ⟨u,hu,hur⟩:=hreps.get hp;have hu':arr[off+j]?=some u:=by simpa using hu
     show Rep w B' ((arr[off+j]?).getD undef) p;rw [hu'];exact hur
   ·cases ht
  | @fn f fs cs ps qs h1 h2 h3 h4=>
   simp only [toPV] at ht
   split at ht
   ·rename_i r t hr htt;injection ht with ht;injection ht with e1 ht;injection ht with e2 e3;subst e1;subst e2;subst e3;have r1:=zbA (B':=B') ih (vs:=fs.toList) (by simpa using h1) (λj v q hv hq=>h3 j v q (by simpa using hv) hq) hr hp.1 (λb ⟨k',hk',o,ho⟩=>hb b ⟨k',xbi _ hk',o,ho⟩)
    have r2:=zbA (B':=B') ih (vs:=cs.toList) (by simpa using h2) (λj v q hv hq=>h4 j v q (by simpa using hv) hq) htt hp.2 (λb ⟨k',hk',o,ho⟩=>hb b ⟨k',xbc _ hk',o,ho⟩)
    exact .fn (by simpa using r1.1) (by simpa using r2.1) (λj v p hv hp=>r1.2 j v p (by simpa using hv) hp) (λj v p hv hp=>r2.2 j v p (by simpa using hv) hp)
   ·cases ht
  | @agg cs ps h1 h2=>
   simp only [toPV] at ht;obtain ⟨r,hr,ht⟩:=xab.1 ht;injection ht with e1 ht;injection ht with e2 e3;subst e1;subst e2;subst e3;have r1:=zbA (B':=B') ih (vs:=cs.toList) (by simpa using h1) (λj v q hv hq=>h2 j v q (by simpa using hv) hq) hr hp hb
   exact .agg (by simpa using r1.1) (λj v p hv hp=>r1.2 j v p (by simpa using hv) hp)
  | @tup cs ps h1 h2=>
   simp only [toPV] at ht;obtain ⟨r,hr,ht⟩:=xab.1 ht;injection ht with e1 ht;injection ht with e2 e3;subst e1;subst e2;subst e3;have r1:=zbA (B':=B') ih (vs:=cs.toList) (by simpa using h1) (λj v q hv hq=>h2 j v q (by simpa using hv) hq) hr hp hb
   exact .tup (by simpa using r1.1) (λj v p hv hp=>r1.2 j v p (by simpa using hv) hp)
  | @lm k=>
   simp only [toPV] at ht
   split at ht
   ·rename_i es fz hk;injection ht with ht;injection ht with h1 ht;injection ht with h2 h3;subst h1;subst h2;subst h3;obtain ⟨ents,clock,fs,k1,k0,k2,k3⟩:=h.obj k _ hk;exact .mp (hb (C.ρ k) ⟨k,by simp,_,hk,rfl⟩) k1 (k0.elim .inl (·.2)) k2 (λj m kv hm hkv=>((k3 j m kv hm hkv).1).mono hB λ_ _=>rfl) (λj m kv hm hkv=>((k3 j m kv hm hkv).2).mono hB λ_ _=>rfl)
   ·cases ht
  | _=>simp [toPV] at ht
theorem zbm (h:RelC X C g look tr stop a w) {pre:Prop} (hr:RepsL w C look vs qs) (ht:toPVs look qs=some (pre,ps,ks)) (hp:pre) :
  Reps w (λb=>C.B b\/zbv C look ks b) vs ps:=
 zbA (fun {v q pre pv ks'} hq ht hp hb=>zmf h (λ_ hb=>.inl hb) 4 hq ht hp hb) hr.1 (λj v q hv hq=>(hr.2 j v q hv hq).1) ht hp (λ_ hb=>.inr hb)
mutual
def PV.flat:PV->Bool
 | .b _|.i _ _|.s _|.nilsl|.nilp|.nilf|.any|.rs _ _ _=>true
 | .agg cs|.tup cs=>zuW cs
 | .sl _ _|.ip _ _|.fn _ _ _|.mp _=>false
def zuW:List PV->Bool
 | []=>true
 | v::r=>v.flat && zuW r
end
theorem zgN:∀ {ps:List PV},zuW ps=true->∀ (j:Nat) (p:PV),ps[j]?=some p->p.flat=true
 | [],_,j,p,hp=>by simp at hp
 | v::r,h,j,p,hp=>by
  simp only [zuW,xau] at h;cases j with
  | zero=>simp at hp;subst hp;exact h.1
  | succ j=>exact zgN h.2 j p (by simpa using hp)
theorem ziX (h:Rep w B v p) (hf:p.flat=true):Rep w' B' v p:=by
 induction h with
 | b x=>exact .b x
 | i h=>exact .i h
 | s h=>exact .s h
 | agg h1 _ ih=>exact .agg h1 λj v p hv hp=>ih j v p hv hp (zgN (by simpa [PV.flat] using hf) j p hp)
 | tup h1 _ ih=>exact .tup h1 λj v p hv hp=>ih j v p hv hp (zgN (by simpa [PV.flat] using hf) j p hp)
 | nilsl=>exact .nilsl
 | sl0=>simp [PV.flat] at hf
 | sle=>simp [PV.flat] at hf
 | sl=>simp [PV.flat] at hf
 | nilp=>exact .nilp
 | ip=>simp [PV.flat] at hf
 | fn=>simp [PV.flat] at hf
 | nilf=>exact .nilf
 | mp0=>simp [PV.flat] at hf
 | mp=>simp [PV.flat] at hf
 | rs a n c=>exact .rs a n c
 | any v=>exact .any v
end
def mltC (r q p p':PV):Prop:=p'=p\/(p=r/\p'=q)
def zqM (r q:PV):List PV->List PV->Prop
 | [],[]=>True
 | p::ps,p'::ps'=>mltC r q p p'/\zqM r q ps ps'
 | _,_=>False
theorem zgA {q:PV}:∀ {ps ps':List PV},zqM r q ps ps'->ps'.length=ps.length
 | [],[],_=>rfl
 | _::_,_::_,h=>by simp [zgA h.2]
 | [],_::_,h=>h.elim
 | _::_,[],h=>h.elim
theorem ziu {q:PV}:∀ {ps ps':List PV},zqM r q ps ps'->∀ (j:Nat) (p':PV),ps'[j]?=some p'->∃ p,ps[j]?=some p/\mltC r q p p'
 | [],[],_,j,p',h=>by simp at h
 | p::ps,p1::ps',h,0,p',hj=>by simp at hj;subst hj;exact ⟨p,rfl,h.1⟩
 | p::ps,p1::ps',h,j+1,p',hj=>by
  obtain ⟨x,h1,h2⟩:=ziu h.2 j p' (by simpa using hj)
  exact ⟨x,by simpa using h1,h2⟩
 | [],_::_,h,_,_,_=>h.elim
 | _::_,[],h,_,_,_=>h.elim
theorem ziv {q p':PV} (hq:Rep w B (.slice a0 n c0) q) (h:mltC (.rs a0 n c0) q p p') (hv:Rep w B v p):Rep w B v p':=by
 rcases h with rfl|⟨rfl,rfl⟩
 ·exact hv
 ·cases hv;exact hq
theorem RepL.desc (hrows:∀ j e sz xs fz e' sz' xs' fz',l j=some (.row e sz xs fz)->l' j=some (.row e' sz' xs' fz')->e'=e/\sz'=sz/\xs'.length=xs.length) (hs:LV.Sc l q) (h:RepL w C l v q):RepL w C l' v q:=by
 induction h with
 | p h=>exact .p h
 | g _ h2 ih=>cases hs with|g hs'=>exact .g (λhc=>ih hc (hs' hc)) h2
 | lp=>exact .lp
 | @row v k n h=>
  cases hs with
  | row hk hn=>
   refine .row λe' sz' xs' fz' hk' hl=>?_
   obtain ⟨rfl,rfl,h3⟩:=hrows _ _ _ _ _ _ _ _ _ hk hk';exact h _ _ _ _ hk (by omega)
 | @ep v k n i off h=>
  cases hs with
  | ep hk hn=>
   refine .ep λe' sz' xs' fz' hk' hl=>?_
   obtain ⟨rfl,rfl,h3⟩:=hrows _ _ _ _ _ _ _ _ _ hk hk';exact h _ _ _ _ hk (by omega)
 | it=>exact .it
 | lm=>exact .lm
 | fn h1 h2 _ _ ih1 ih2=>cases hs with|fn s1 s2=>exact .fn h1 h2 (λj v p hv hp=>ih1 j v p hv hp (s1 j p hp)) (λj v p hv hp=>ih2 j v p hv hp (s2 j p hp))
 | agg h1 _ ih=>cases hs with|agg s=>exact .agg h1 λj v p hv hp=>ih j v p hv hp (s j p hp)
 | tup h1 _ ih=>cases hs with|tup s=>exact .tup h1 λj v p hv hp=>ih j v p hv hp (s j p hp)
 | yield=>exact .yield
 | any v=>exact .any v
theorem RelC.desc {g g' : Nat -> LV} {l l' : Nat -> Option LObj} (h : RelC X C g l tr stop a w)
    (hl : ∀ j o', l' j = some o' -> ∃ o, l j = some o /\ blk C j o' = blk C j o /\ o'.frozen = o.frozen) (hobj : ∀ j o', l' j = some o' -> ObjRel w C l' j o' /\ LObj.Sc l' o') (henv : ∀ t, RepL w C l' (zbz X a t) (g' t) /\ LV.Sc l' (g' t)) : RelC X C g' l' tr stop a w :=
  { h with
    env := λt => (henv t).1
    envs := λt => (henv t).2
    obj := λk o hk => (hobj k o hk).1
    objs := λk o hk => (hobj k o hk).2
    sep := λk o b hk hb => by
      obtain ⟨o0, h1, h2, h3⟩ := hl k o hk;rw [h3];exact h.sep k o0 b h1 (by rw [<- h2]; exact hb)
    dis := λk k' o o' b hne hk hk' hb hb' => by
      obtain ⟨o0, h1, h2, h3⟩ := hl k o hk;obtain ⟨o1, g1, g2, g3⟩ := hl k' o' hk';exact h.dis k k' o0 o1 b hne h1 g1 (by rw [<- h2]; exact hb) (by rw [<- g2]; exact hb')
    marks := h.marks.same λr _ _ hnb hnd hno => ⟨rfl, hnb, hnd, λk o hk hb => by
      obtain ⟨o0, h1, h2, h3⟩ := hl k o hk;exact hno k o0 h1 (by rw [<- h2]; exact hb)⟩
    nn := λk o b hk hb hf => by
      obtain ⟨o0, h1, h2, h3⟩ := hl k o hk;exact h.nn k o0 b h1 (by rw [<- h2]; exact hb) (by rw [<- h3]; exact hf) }
theorem ObjRel.look (hs:LObj.Sc l o) (hrows:∀ j e sz xs fz e' sz' xs' fz',l j=some (.row e sz xs fz)->l' j=some (.row e' sz' xs' fz')->e'=e/\sz'=sz/\xs'.length=xs.length) (h:ObjRel w C l j o):ObjRel w C l' j o:=by
 cases o with
 | box cs fz=>obtain ⟨arr,ty,h1,h2,h3⟩:=h;exact ⟨arr,ty,h1,h2,λi v q hv hq=>(h3 i v q hv hq).desc hrows (hs i q hq)⟩
 | row=>exact h
 | sit=>exact h
 | mit=>exact h
 | mp=>exact h
 | hrow=>exact h
theorem LV.Sc.unh (hk:l k=some (.hrow e sz xs a0 c0)) (o:Option LObj) (hq:LV.Sc l q):LV.Sc (upd l k o) q:=by
 induction hq with
 | p v=>exact .p v
 | g _ ih=>exact .g ih
 | @lp j _ _ _ hj=>exact .lp (by rw [zA _ _ (λe=>by subst e;rw [hk] at hj;cases hj)];exact hj)
 | @row j _ _ _ _ _ hj hn=>exact .row (by rw [zA _ _ (λe=>by subst e;rw [hk] at hj;cases hj)];exact hj) hn
 | @ep j _ _ _ _ _ _ _ hj hn=>exact .ep (by rw [zA _ _ (λe=>by subst e;rw [hk] at hj;cases hj)];exact hj) hn
 | @it j _ _ hj=>exact .it (by rw [zA _ _ (λe=>by subst e;rw [hk] at hj;cases hj)];exact hj)
 | @im j _ _ hj=>exact .im (by rw [zA _ _ (λe=>by subst e;rw [hk] at hj;cases hj)];exact hj)
 | @lm j _ _ hj=>exact .lm (by rw [zA _ _ (λe=>by subst e;rw [hk] at hj;cases hj)];exact hj)
 | fn _ _ ih1 ih2=>exact .fn ih1 ih2
 | agg _ ih=>exact .agg ih
 | tup _ ih=>exact .tup ih
 | yield=>exact .yield
 | any=>exact .any
theorem RelC.unh (h:RelC X C g l tr stop a w) (hk:l k=some (.hrow e sz xs a0 c0)) :
  RelC X C g (upd l k (some (.row e sz xs false))) tr stop a w:=by
 obtain ⟨hob,hc⟩:=h.obj k _ hk;have hl1:∀ j o,upd l k (some (LObj.row e sz xs false)) j=some o->(j=k/\o=.row e sz xs false)\/(j≠k/\l j=some o):=λj o hj=>by
  by_cases ej:j=k
  ·subst ej;rw [zk] at hj;injection hj with hj;exact .inl ⟨rfl,hj.symm⟩
  ·rw [zA _ _ ej] at hj;exact .inr ⟨ej,hj⟩
 have hrows1:∀ j e1 sz1 xs1 fz1 e' sz' xs' fz',l j=some (.row e1 sz1 xs1 fz1)->upd l k (some (LObj.row e sz xs false)) j=some (.row e' sz' xs' fz')->e'=e1/\sz'=sz1/\xs'.length=xs1.length:=λj e1 sz1 xs1 fz1 e' sz' xs' fz' h1 h2=>by
  rcases hl1 j _ h2 with ⟨rfl,h3⟩|⟨_,h3⟩
  ·rw [hk] at h1;cases h1
  ·rw [h1] at h3;injection h3 with h3;injection h3 with f1 f2 f3 f4;subst f1;subst f2;subst f3;exact ⟨rfl,rfl,rfl⟩
 exact h.desc (λj o hj=>by
   rcases hl1 j o hj with ⟨rfl,rfl⟩|⟨_,h1⟩
   ·exact ⟨_,hk,rfl,rfl⟩
   ·exact ⟨o,h1,rfl,rfl⟩) (λj o hj=>by
   rcases hl1 j o hj with ⟨rfl,rfl⟩|⟨ej,h1⟩
   ·exact ⟨hob,trivial⟩
   ·refine ⟨(h.obj j o h1).look (h.objs j o h1) hrows1,?_⟩;have:=h.objs j o h1;cases o<;>simp only [LObj.Sc] at this ⊢
    exact λi q hq=>(this i q hq).unh hk _) (λt=>⟨(h.env t).desc hrows1 (h.envs t),(h.envs t).unh hk _⟩)
theorem zhH {look:Nat->Option LObj} (h:RelC X C g look tr stop a w) (hk:look k=some (.hrow e sz xs a0 c0)):Rep w (λb=>C.B b\/blk C k (.hrow e sz xs a0 c0)=some b) (.slice a0 xs.length c0) (.sl sz xs):=by
 obtain ⟨⟨us,how,hus,hx,h0⟩,hc⟩:=h.obj k _ hk
 rcases how.2 with ⟨f1,f2⟩|⟨gb,cap,cur,f1,f2,f3,f4,f5,f6,f7⟩
 ·have:xs=[]:=xay (by simpa using f2)
  subst this;rw [f1] at hc;injection hc with e1 e2 e3;subst e1;subst e3;exact .sl0
 ·have hbk:blk C k (.hrow e sz xs a0 c0)=some gb:=by simp [blk,f1,Value.ownBlock]
  have hcell:=how.cells (g:=gb) (by rw [f1];rfl)
  rw [f1] at hc;injection hc with e1 e2 e3;subst e1;subst e3;refine .sl (λi j=>(us[i*sz+j]?).getD undef) (.inr hbk) rfl rfl f4 f5 (λi x hxi=>hx x (xae hxi)) (λi x j p hxi hpj=>?_) (λi x j p hxi hpj=>?_)
  ·have hxl:=hx x (xae hxi);have hj:j < sz:=by rw [<-hxl];exact (xaa.1 hpj).1
   have hf:=zc4 hx i x j hxi hj;rw [hpj] at hf;obtain ⟨u,hu,_⟩:=hus.get hf;rw [hu];exact hcell _ _ hu
  ·have hxl:=hx x (xae hxi);have hj:j < sz:=by rw [<-hxl];exact (xaa.1 hpj).1
   have hf:=zc4 hx i x j hxi hj;rw [hpj] at hf;obtain ⟨u,hu,hur⟩:=hus.get hf;show Rep w _ ((us[i*sz+j]?).getD undef) p;rw [hu];exact hur.mono (λ_ h=>.inl h) λ_ _=>rfl
mutual
def LV.ren (m:Nat->Nat):LV->LV
 | .p v=>.p v
 | .g c q=>.g c (q.ren m)
 | .lp k o=>.lp (m k) o
 | .row k n=>.row (m k) n
 | .ep k n i o=>.ep (m k) n i o
 | .it k=>.it (m k)
 | .lm k=>.lm (m k)
 | .fn f a b=>.fn f (rens m a) (rens m b)
 | .agg cs=>.agg (rens m cs)
 | .tup cs=>.tup (rens m cs)
 | .yield=>.yield
 | .any=>.any
def rens (m:Nat->Nat):List LV->List LV
 | []=>[]
 | q::r=>q.ren m::rens m r
end
theorem zG (m:Nat->Nat):∀ l:List LV,rens m l=l.map (·.ren m)
 | []=>rfl
 | q::r=>by rw [rens,zG m r];rfl
def LObj.ren (m:Nat->Nat):LObj->LObj
 | .box cs fz=>.box (rens m cs) fz
 | .row e sz xs fz=>.row e sz xs fz
 | .sit s pos=>.sit s pos
 | .mit rem cur=>.mit rem cur
 | .mp es fz=>.mp es fz
 | .hrow e sz xs a c=>.hrow e sz xs a c
theorem LObj.ren_frozen (m:Nat->Nat) (o:LObj):(o.ren m).frozen=o.frozen:=by cases o<;>rfl
def Tied (C1:Ctx) (j:Nat) (C0:Ctx) (k:Nat):LObj->Prop
 | .row ..=>C1.cur j=C0.cur k
 | .hrow ..=>C1.cur j=C0.cur k
 | _=>C1.ρ j=C0.ρ k
theorem Tied.blk {C1 C0:Ctx} (h:Tied C1 j C0 k o):blk C1 j (o.ren m)=blk C0 k o:=by
 cases o<;>simp only [Tied,LObj.ren,Go.Proofs.YtbgckikhhcbmpaaGreat.blk] at h ⊢<;>rw [h]
section
variable {w:World} {C C0 C1:Ctx} {l l':Nat->Option LObj} {m:Nat->Nat}
theorem LV.Sc.ren (hl:∀ k o,l k=some o->l' (m k)=some (o.ren m)) (h:LV.Sc l q):LV.Sc l' (q.ren m):=by
 induction h with
 | p v=>exact .p v
 | g _ ih=>exact .g ih
 | lp hk=>exact .lp (hl _ _ hk)
 | row hk hn=>exact .row (hl _ _ hk) hn
 | ep hk hn=>exact .ep (hl _ _ hk) hn
 | it hk=>exact .it (hl _ _ hk)
 | im hk=>exact .im (hl _ _ hk)
 | lm hk=>exact .lm (hl _ _ hk)
 | fn _ _ ih1 ih2=>
  refine .fn (λj q hq=>?_) (λj q hq=>?_)
  ·rw [zG,xal,xab] at hq;obtain ⟨p,hp,rfl⟩:=hq;exact ih1 j p hp
  ·rw [zG,xal,xab] at hq;obtain ⟨p,hp,rfl⟩:=hq;exact ih2 j p hp
 | agg _ ih=>
  refine .agg λj q hq=>?_
  rw [zG,xal,xab] at hq;obtain ⟨p,hp,rfl⟩:=hq;exact ih j p hp
 | tup _ ih=>
  refine .tup λj q hq=>?_
  rw [zG,xal,xab] at hq;obtain ⟨p,hp,rfl⟩:=hq;exact ih j p hp
 | yield=>exact .yield
 | any=>exact .any
theorem RepL.ren (hl:∀ k o,l k=some o->l' (m k)=some (o.ren m)) (hB:∀ b,C0.B b->C1.B b) (hy:C1.y=C0.y) (ht:∀ k o,l k=some o->Tied C1 (m k) C0 k o) (hs:LV.Sc l q) (h:RepL w C0 l v q):RepL w C1 l' v (q.ren m):=by
 induction h with
 | p h=>exact .p (h.mono hB λ_ _=>rfl)
 | g _ h2 ih=>cases hs with|g hs'=>exact .g (λhc=>ih hc (hs' hc)) h2
 | @lp k off=>cases hs with|lp hk=>rw [<-show C1.ρ (m k)=C0.ρ k from ht _ _ hk];exact .lp
 | @row v k n h=>
  cases hs with
  | row hk hn=>
   refine .row λe sz xs fz hk' hx=>?_
   rw [hl _ _ hk] at hk';injection hk' with hk';simp only [LObj.ren,LObj.row.injEq] at hk';obtain ⟨rfl,rfl,rfl,rfl⟩:=hk';rw [h _ _ _ _ hk hx];exact (ht _ _ hk).symm
 | @ep v k n i off h=>
  cases hs with
  | ep hk hn=>
   refine .ep λe sz xs fz hk' hx=>?_
   rw [hl _ _ hk] at hk';injection hk' with hk';simp only [LObj.ren,LObj.row.injEq] at hk';obtain ⟨rfl,rfl,rfl,rfl⟩:=hk';obtain ⟨b,h1,h2⟩:=h _ _ _ _ hk hx;exact ⟨b,by rw [show C1.cur (m k)=C0.cur k from ht _ _ hk];exact h1,h2⟩
 | @it k=>cases hs with
  | it hk=>rw [<-show C1.ρ (m k)=C0.ρ k from ht _ _ hk];exact .it
  | im hk=>rw [<-show C1.ρ (m k)=C0.ρ k from ht _ _ hk];exact .it
 | @lm k=>cases hs with|lm hk=>rw [<-show C1.ρ (m k)=C0.ρ k from ht _ _ hk];exact .lm
 | fn h1 h2 _ _ ih1 ih2=>
  cases hs with
  | fn s1 s2=>
   refine .fn (by rw [zG,xaf];exact h1) (by rw [zG,xaf];exact h2) (λj v p hv hp=>?_) (λj v p hv hp=>?_)
   ·rw [zG,xal,xab] at hp;obtain ⟨q,hq,rfl⟩:=hp;exact ih1 j v q hv hq (s1 j q hq)
   ·rw [zG,xal,xab] at hp;obtain ⟨q,hq,rfl⟩:=hp;exact ih2 j v q hv hq (s2 j q hq)
 | agg h1 _ ih=>
  cases hs with
  | agg s1=>
   refine .agg (by rw [zG,xaf];exact h1) λj v p hv hp=>?_
   rw [zG,xal,xab] at hp;obtain ⟨q,hq,rfl⟩:=hp;exact ih j v q hv hq (s1 j q hq)
 | tup h1 _ ih=>
  cases hs with
  | tup s1=>
   refine .tup (by rw [zG,xaf];exact h1) λj v p hv hp=>?_
   rw [zG,xal,xab] at hp;obtain ⟨q,hq,rfl⟩:=hp;exact ih j v q hv hq (s1 j q hq)
 | yield=>rw [<-hy];exact .yield
 | any v=>exact .any v
theorem ObjRel.ren (hl:∀ k o,l k=some o->l' (m k)=some (o.ren m)) (hB:∀ b,C0.B b->C1.B b) (hy:C1.y=C0.y) (ht:∀ k o,l k=some o->Tied C1 (m k) C0 k o) (hk:l k=some o) (hs:LObj.Sc l o) (h:ObjRel w C0 l k o):ObjRel w C1 l' (m k) (o.ren m):=by
 have hk1:=ht k o hk;cases o with
 | box cs fz=>
  obtain ⟨arr,ty,h1,h2,h3⟩:=h;refine ⟨arr,ty,by rw [show C1.ρ (m k)=C0.ρ k from hk1];exact h1,by rw [zG,xaf];exact h2,λj v q hv hq=>?_⟩
  rw [zG,xal,xab] at hq;obtain ⟨p,hp,rfl⟩:=hq;exact (h3 j v p hv hp).ren hl hB hy ht (hs j p hp)
 | row e sz xs fz=>
  obtain ⟨us,h1,h2,h3⟩:=h;exact ⟨us,by rw [show C1.cur (m k)=C0.cur k from hk1];exact h1,h2.mono hB λ_ _=>rfl,h3⟩
 | hrow e sz xs a c=>
  obtain ⟨⟨us,h1,h2,h3⟩,h4⟩:=h;exact ⟨⟨us,by rw [show C1.cur (m k)=C0.cur k from hk1];exact h1,h2.mono hB λ_ _=>rfl,h3⟩,(show C1.cur (m k)=C0.cur k from hk1).trans h4⟩
 | sit s pos=>show w.heap[C1.ρ (m k)]?=_;rw [show C1.ρ (m k)=C0.ρ k from hk1];exact h
 | mit rem cur=>exact MitOk.keep hB (λ_ _=>rfl) (by rw [show C1.ρ (m k)=C0.ρ k from hk1]) h
 | mp es fz=>
  obtain ⟨ents,clock,fs,h1,h0,h2,h3⟩:=h;exact ⟨ents,clock,fs,by rw [show C1.ρ (m k)=C0.ρ k from hk1];exact h1,h0,h2,λj x kv hm hkv=>⟨(h3 j x kv hm hkv).1.mono hB λ_ _=>rfl,(h3 j x kv hm hkv).2.mono hB λ_ _=>rfl⟩⟩
def Ctx.pull (C:Ctx) (m:Nat->Nat):Ctx:={ C with ρ:=λk=>C.ρ (m k),cur:=λk=>C.cur (m k) }
theorem zbD (hl:∀ k o,l k=some o->l' (m k)=some (o.ren m)):∀ (n:Nat) (q:LV),SizeOf.sizeOf q<=n->∀ {v:Value},RepL w C l' v (q.ren m)->RepL w (C.pull m) l v q
 | 0,q,hn,v,h=>by cases q<;>simp at hn<;>omega
 | n+1,q,hn,v,h=>by
  have sub:∀ {cs:List LV} {j:Nat} {p:LV},SizeOf.sizeOf cs<=n->cs[j]?=some p->SizeOf.sizeOf p<=n:=fun {cs j p} hc hp=>by
   have:=List.sizeOf_lt_of_mem (xae hp);omega
  cases q with
  | p x=>cases h with|p h=>exact .p h
  | g c q=>simp at hn;cases h with|g h1 h2=>exact .g (λhc=>zbD hl n q (by omega) (h1 hc)) h2
  | lp k o=>cases h;exact .lp
  | row k j=>cases h with|row h=>exact .row λe sz xs fz hk hx=>h e sz xs fz (hl _ _ hk) hx
  | ep k j i o=>cases h with|ep h=>exact .ep λe sz xs fz hk hx=>h e sz xs fz (hl _ _ hk) hx
  | it k=>cases h;exact .it
  | lm k=>cases h;exact .lm
  | fn f a b=>
   simp at hn;cases h with
   | fn h1 h2 h3 h4=>
    refine .fn (by rw [h1,zG,xaf]) (by rw [h2,zG,xaf]) (λj v p hv hp=>?_) (λj v p hv hp=>?_)
    ·exact zbD hl n p (sub (by omega) hp) (h3 j v _ hv (by rw [zG,xal,hp];rfl))
    ·exact zbD hl n p (sub (by omega) hp) (h4 j v _ hv (by rw [zG,xal,hp];rfl))
  | agg cs=>
   simp at hn;cases h with
   | agg h1 h2=>
    exact .agg (by rw [h1,zG,xaf]) λj v p hv hp=>zbD hl n p (sub (by omega) hp) (h2 j v _ hv (by rw [zG,xal,hp];rfl))
  | tup cs=>
   simp at hn;cases h with
   | tup h1 h2=>
    exact .tup (by rw [h1,zG,xaf]) λj v p hv hp=>zbD hl n p (sub (by omega) hp) (h2 j v _ hv (by rw [zG,xal,hp];rfl))
  | yield=>cases h;exact .yield
  | any=>exact .any v
theorem zjY (hl:∀ k o,l k=some o->l' (m k)=some (o.ren m)) (h:ObjRel w C l' (m k) (o.ren m)):ObjRel w (C.pull m) l k o:=by
 cases o with
 | box cs fz=>
  obtain ⟨arr,ty,h1,h2,h3⟩:=h;exact ⟨arr,ty,h1,by rw [h2,zG,xaf],λj v q hv hq=>zbD hl _ q (xap _) (h3 j v _ hv (by rw [zG,xal,hq];rfl))⟩
 | row e sz xs fz=>exact h
 | hrow e sz xs a c=>exact h
 | sit s pos=>exact h
 | mit rem cur=>exact h
 | mp es fz=>exact h
end
structure Frag (w:World) (C:Ctx) (obj:List (Nat × LObj)):Prop where
 blt:∀ b,C.B b->b < w.heap.size
 ob:∀ k o,zm obj k=some o->ObjRel w C (zm obj) k o
 objs:∀ k o,zm obj k=some o->LObj.Sc (zm obj) o
 fz:∀ k o,zm obj k=some o->o.frozen=false
 sep:∀ k o b,zm obj k=some o->blk C k o=some b->b < w.heap.size/\¬C.B b
 dis:∀ k k' o o' b,k≠k'->zm obj k=some o->zm obj k'=some o'->blk C k o=some b->blk C k' o'=some b->False
def zwS (C:Ctx) (obj:List (Nat × LObj)) (b:Nat):Prop:=∃ k o,zm obj k=some o/\blk C k o=some b
structure zwc (w:World) (C:Ctx) (w':World) (C':Ctx) (obj obj':List (Nat × LObj)) (u:Value) (res:LV):Prop where
 kx:KeepX (zwS C obj) w w'
 fr:Frag w' C' obj'
 b1:∀ b,C.B b->C'.B b
 b2:∀ b,C'.B b->C.B b\/w.heap.size<=b\/zwS C obj b
 y:C'.y=C.y
 fol:∀ k o,zm obj k=some o->∃ o',zm obj' k=some o'/\o.Follows o'
 tied:∀ k o o',zm obj k=some o->zm obj' k=some o'->(∀ e sz xs a c,o'≠.hrow e sz xs a c)->(∀ e sz xs f e' sz' xs' f',o=.row e sz xs f->o'=.row e' sz' xs' f'->xs'.length=xs.length)->Tied C' k C k o'
 bk:∀ k o b,zm obj' k=some o->blk C' k o=some b->zwS C obj b\/w.heap.size<=b
 rp:RepL w' C' (zm obj') u res
 scr:LV.Sc (zm obj') res
abbrev HD:=Option Addr × Nat
def ActsE (P:Program) (f:FuncId) (args:List LV) (obj:List (Nat × LObj)) (res:HD->LV) (obj':HD->List (Nat × LObj)):Prop:=
 zb3 P f/\(∀ k o,zm obj k=some o->LObj.Sc (zm obj) o/\o.frozen=false)/\(∀ i k o,zm obj k=some o->∃ o',zm (obj' i) k=some o'/\o.Follows o')/\∀ (w:World) (C:Ctx) (vs:List Value),Frag w C obj->vs.length=args.length->(∀ (j:Nat) (v:Value) (q:LV),vs[j]?=some v->args[j]?=some q->RepL w C (zm obj) v q) ->
  Calls P f vs.toArray w λe w'=>∃ i u C',e=.returned u/\zwc w C w' C' obj (obj' i) u (res i)
def zbk (P:Program) (f:FuncId) (args:List LV) (obj:List (Nat × LObj)) (res:LV) (obj':List (Nat × LObj)):Prop:=
 zb3 P f/\(∀ k o,zm obj k=some o->LObj.Sc (zm obj) o/\o.frozen=false)/\(∀ k o,zm obj k=some o->∃ o',zm obj' k=some o'/\o.Follows o')/\∀ (w:World) (C:Ctx) (vs:List Value),Frag w C obj->vs.length=args.length->(∀ (j:Nat) (v:Value) (q:LV),vs[j]?=some v->args[j]?=some q->RepL w C (zm obj) v q) ->
  Calls P f vs.toArray w λe w'=>∃ u C',e=.returned u/\zwc w C w' C' obj obj' u res
def zdb (m:Nat->Nat) (obj:List (Nat × LObj)):List (Nat × LObj):=obj.map λx=>(m x.1,x.2.ren m)
structure zsy (s:St) (m:Nat->Nat) (obj obj':List (Nat × LObj)):Prop where
 old:∀ k o,zm obj k=some o->s.look (m k)=some (o.ren m)
 new:∀ k o,zm obj' k=some o->zm obj k=none->s.look (m k)=none
 nd:(obj'.map λx=>m x.1).Nodup
theorem RelC.change {C C1:Ctx} {l l1:Nat->Option LObj} {w w':World} (h:RelC X C g l tr stop a w) (L:Nat->Prop)
  (hfol:∀ k o,l k=some o->∃ o',l1 k=some o'/\o.Follows o') (hout:∀ k,¬L k->l1 k=l k) (hun:∀ k o,L k->l k=some o->o.frozen=false) (hun':∀ k o,L k->l1 k=some o->o.frozen=false)
  (hM:X.MOk) (hB:∀ b,C.B b->C1.B b) (hB':∀ b,C1.B b->C.B b\/w.heap.size<=b\/∃ k o,L k/\l k=some o/\blk C k o=some b) (hBl:∀ b,C1.B b->b < w'.heap.size)
  (hy:C1.y=C.y) (hn:C1.n=C.n) (hdp:C1.dep=C.dep) (how:C1.own=C.own) (hρ:∀ k o,l k=some o->C1.ρ k=C.ρ k) (hc:∀ k,¬L k->C1.cur k=C.cur k)
  (hcd:∀ k e sz xs xs' f f',L k->l k=some (.row e sz xs f)->l1 k=some (.row e sz xs' f')->xs'.length=xs.length->C1.cur k=C.cur k)
  (hw:KeepX (λb=>∃ k o,L k/\l k=some o/\blk C k o=some b) w w')
  (ho:∀ k o,L k->l1 k=some o->ObjRel w' C1 l1 k o/\LObj.Sc l1 o)
  (hbk:∀ k o b,L k->l1 k=some o->blk C1 k o=some b->b < w'.heap.size/\¬C1.B b/\((∃ k0 o0,L k0/\l k0=some o0/\blk C k0 o0=some b)\/w.heap.size<=b))
  (hdis:∀ k k' o o' b,k≠k'->L k->L k'->l1 k=some o->l1 k'=some o'->blk C1 k o=some b->blk C1 k' o'=some b->False):RelC X C1 g l1 tr stop a w':=by
 have hsz:=hw.size;have hother:∀ b,b < w.heap.size->(∀ k o,L k->l k=some o->blk C k o=some b->False)->w'.heap[b]?=w.heap[b]?:=λb hb hne=>hw.block b hb λ⟨k,o,h1,h2,h3⟩=>hne k o h1 h2 h3
 have hrd:∀ b,C.B b->w'.heap[b]?=w.heap[b]?:=λb hb=>hother b (h.blt b hb) λk o h1 h2 h3=>(h.sep k o b h2 h3).2.2.1 (hun k o h1 h2) hb
 have hr:∀ k e sz xs fz,l k=some (.row e sz xs fz)->∃ xs' fz',l1 k=some (.row e sz xs' fz')/\(xs'.length=xs.length->C1.cur k=C.cur k)/\xs.length<=xs'.length:=by
  intro k e sz xs fz hk;obtain ⟨o',h1,h2⟩:=hfol k _ hk;cases o'<;>simp [LObj.Follows] at h2
  rename_i e' sz' xs' fz';obtain ⟨rfl,rfl,hlen⟩:=h2;refine ⟨xs',fz',h1,λhl=>?_,hlen⟩
  by_cases hL:L k
  ·exact hcd k _ _ _ _ _ _ hL hk h1 hl
  ·exact hc k hL
 have hsc:∀ q,LV.Sc l q->LV.Sc l1 q:=λq hq=>hq.follows hfol
 have hblk:∀ k x,¬L k->l k=some x->blk C1 k x=blk C k x:=λk x hL hk=>by cases x<;>simp only [blk]<;>first|rw [hρ k _ hk]|rw [hc k hL]
 have old:∀ {k x},¬L k->l1 k=some x->l k=some x:=fun {k x} hL hk=>by rw [<-hout k hL];exact hk
 have alone:∀ {k x b},¬L k->l k=some x->blk C k x=some b->(∀ k' o',L k'->l1 k'=some o'->blk C1 k' o'=some b->False):=fun {k x b} hL hk hb k' o' hL' hk' hb'=>by
  rcases (hbk k' o' b hL' hk' hb').2.2 with ⟨k0,o0,g1,g2,g3⟩|g
  ·exact h.dis k k0 x o0 b (λe=>hL (e ▸ g1)) hk g2 hb g3
  ·have:=(h.sep k x b hk hb).2.1;omega
 exact {
  kx:=⟨hw.os.trans h.kx.os,hw.tape.trans h.kx.tape,hw.output.trans h.kx.output,xa0 h.kx.size hsz,λb hb hm=>(hother b (xaJ hb h.kx.size) λk o h1 h2 h3=>by
   rcases (h.sep k o b h2 h3).1 (hun k o h1 h2) with g|g
   ·omega
   ·exact hm (.inl g)).trans (h.kx.block b hb hm)⟩
  yy:=hy.trans h.yy
  b0:=λb hb=>hB b (h.b0 b hb)
  blt:=hBl
  bold:=λb hb hlt=>by
   rcases hB' b hb with hb|hb|⟨k,o,g1,g2,g3⟩
   ·exact h.bold b hb hlt
   ·have:=h.kx.size;omega
   ·rcases (h.sep k o b g2 g3).1 (hun k o g1 g2) with g|g
    ·omega
    ·exact hM.m1 b g
  borg:=λb hb=>by
   rcases hB' b hb with hb|hb|⟨k,o,g1,g2,g3⟩
   ·exact h.borg b hb
   ·exact .inr (by have:=h.kx.size;have:=h.no0;omega)
   ·rcases (h.sep k o b g2 g3).1 (hun k o g1 g2) with g|g
    ·exact .inr (by have:=h.no0;omega)
    ·exact hM.m2 b g
  no0:=h.no0
  tsz:=h.tsz
  ngb:=h.ngb
  env:=λt=>(h.env t).same hB hy hrd hρ hr (h.envs t)
  envs:=λt=>hsc _ (h.envs t)
  obj:=λk x hk=>by
   by_cases e:L k
   ·exact (ho k x e hk).1
   ·have hk0:=old e hk;exact (h.obj k x hk0).same hB hy hrd hρ hr hk0 (h.objs k x hk0) (hc k e) (λb hb=>hother b (h.sep k x b hk0 hb).2.1 λk' o' h1 h2 h3=>h.dis k k' x o' b (λe'=>e (e' ▸ h1)) hk0 h2 hb h3)
  objs:=λk x hk=>by
   by_cases e:L k
   ·exact (ho k x e hk).2
   ·have:=h.objs k x (old e hk);cases x<;>simp only [LObj.Sc] at this ⊢
    exact λj q hq=>hsc q (this j q hq)
  sep:=λk x b hk hb=>by
   by_cases e:L k
   ·obtain ⟨g1,g2,g3⟩:=hbk k x b e hk hb;refine ⟨λ_=>?_,g1,λ_=>g2,λhf=>by rw [hun' k x e hk] at hf;cases hf⟩
    rcases g3 with ⟨k0,o0,f1,f2,f3⟩|g3
    ·exact (h.sep k0 o0 b f2 f3).1 (hun k0 o0 f1 f2)
    ·exact .inl (by have:=h.kx.size;omega)
   ·have hk0:=old e hk;rw [hblk k x e hk0] at hb;obtain ⟨h1,h2,h3,h4⟩:=h.sep k x b hk0 hb;refine ⟨h1,by omega,λhf hb1=>?_,λhf=>hB b (h4 hf)⟩
    rcases hB' b hb1 with hb1|hb1|⟨k0,o0,g1,g2,g3⟩
    ·exact h3 hf hb1
    ·omega
    ·exact h.dis k k0 x o0 b (λe'=>e (e' ▸ g1)) hk0 g2 hb g3
  dis:=λk k' x x' b hkk hk hk' hb hb'=>by
   by_cases e:L k
   ·by_cases e':L k'
    ·exact hdis k k' x x' b hkk e e' hk hk' hb hb'
    ·have hk0:=old e' hk';rw [hblk k' x' e' hk0] at hb';exact alone e' hk0 hb' k x e hk hb
   ·have hk0:=old e hk;rw [hblk k x e hk0] at hb
    by_cases e':L k'
    ·exact alone e hk0 hb k' x' e' hk' hb'
    ·have hk1:=old e' hk';rw [hblk k' x' e' hk1] at hb';exact h.dis k k' x x' b hkk hk0 hk1 hb hb'
  marks:=h.marks.same λr hlt _ hnb hnd hno=>⟨hother r hlt λk o _ h2 h3=>hno k o h2 h3,λhb=>by
   rcases hB' r hb with hb|hb|⟨k0,o0,_,g2,g3⟩
   ·exact hnb hb
   ·omega
   ·exact hno k0 o0 g2 g3,by rw [hdp];exact hnd,λk x hk hb=>by
   by_cases e:L k
   ·rcases (hbk k x r e hk hb).2.2 with ⟨k0,o0,_,g2,g3⟩|g
    ·exact hno k0 o0 g2 g3
    ·omega
   ·have hk0:=old e hk;rw [hblk k x e hk0] at hb;exact hno k x hk0 hb⟩
  nle:=by rw [hn];exact xa0 h.nle hsz
  dn:=by rw [hn,hdp];exact h.dn
  nn:=λk x b hk hb hfz=>by
   rw [hdp]
   by_cases e:L k
   ·rcases (hbk k x b e hk hb).2.2 with ⟨k0,o0,g1,g2,g3⟩|g
    ·exact h.nn k0 o0 b g2 g3 (hun k0 o0 g1 g2)
    ·exact λhd=>by have:=h.nle;have:=h.dn b hd;omega
   ·have hk0:=old e hk;rw [hblk k x e hk0] at hb;exact h.nn k x b hk0 hb hfz
  ow:=λb hb=>by
   rw [how] at hb;obtain ⟨g1,g2⟩:=h.ow b hb;refine ⟨λhb1=>?_,by rw [hdp];exact g2⟩
   rcases hB' b hb1 with hb2|hb2|⟨k0,o0,f1,f2,f3⟩
   ·exact g1 hb2
   ·have:=h.nle;have:=h.dn b g2;omega
   ·exact h.nn k0 o0 b f2 f3 (hun k0 o0 f1 f2) g2
  oold:=by rw [how];exact h.oold
  dold:=λb hb=>by rw [hdp] at hb;exact (h.dold b hb).imp id (Or.imp id (hB b))
  jj:=by
   rw [hdp,how];refine h.jj.imp id λ⟨wy,h2,h3⟩=>⟨wy,h2,h3.trans ⟨hw.os,hw.tape,hw.output,hsz,λb hb=>hother b (xaJ (h.dn b hb) h.nle) λk o g1 g2 g3=>h.nn k o b g2 g3 (hun k o g1 g2) hb⟩⟩ }
def za4 (ro:Option Nat):Fence:={ Fence.wide with round:=ro }
def zd (s:St) (l:List AOpd):List LV:=l.map (·.ev s)
def uns (l:List LV):List LV:=l.map LV.un
def fin (gd:Option (Nat × Bool)) (c:Bool) (v:LV):LV:=
 match gd with
 | none=>v
 | some _=>v.under c
def St.wrs (s:St):List (Nat × LObj)->St
 | []=>s
 | (k,o)::r=>(s.wr k o).wrs r
def frzs (look:Nat->Option LObj):List Nat->List (Nat × LObj)
 | []=>[]
 | k::r=>match look k with
  | some o=>(k,o.freeze)::frzs look r
  | none=>frzs look r
inductive zbW (P:Program) (s:St) (o:RO):LV->List (Nat × LObj)->Prop
 | mv {x:AOpd} {c:Bool}:o.op=.mv->o.args=[x]->gOf s o.guard=some c->zbW P s o (fin o.guard c (x.ev s)) []
 | pick {x y z:AOpd} {c:Bool} {pre:Prop} {v:PV}:o.op=.pick->o.args=[x,y,z]->gOf s o.guard=some c->zlm (x.ev s) (y.ev s) (z.ev s)=some (pre,v)->(c=true->(x.ev s).cnd=true/\pre)->zbW P s o (fin o.guard c (.p v)) []
 | ev {c:Bool} {pre:Prop} {eff:Eff}:gOf s o.guard=some c->zb (o.dst.getD 0) s.look o.op (uns (zd s o.args))=some (pre,eff)->(c=true->zL (zd s o.args)=true/\pre)->(eff.wr.isSome=true->c=true) ->
   (eff.nw=true->s.look (o.dst.getD 0)=none)->zbW P s o (fin o.guard c eff.val) eff.wr.toList
 | callA {c:Bool} {f:Nat} {pre:Prop} {vs:List PV} {ks:List Nat} {r:PV}:o.op=.call f->gOf s o.guard=some c->toPVs s.look (uns (zd s o.args))=some (pre,vs,ks)->(c=true->zL (zd s o.args)=true/\pre/\Pure P f vs r)->(r.flat=true\/ks=[]) ->
   zbW P s o (fin o.guard c (.p r)) []
 | callB {f:Nat} {pre:Prop} {vs:List PV} {ks:List Nat} {r:PV}:o.op=.call f->gOf s o.guard=some true->toPVs s.look (uns (zd s o.args))=some (pre,vs,ks)->zL (zd s o.args)=true->pre->Pure P f vs r ->
   zbW P s o (fin o.guard true (.p r)) (frzs s.look ks)
 | callV {c:Bool} {f:Nat} {pre:Prop} {fs cs vs:List PV} {ks:List Nat} {r:PV}:o.op=.callv->gOf s o.guard=some c->toPVs s.look (uns (zd s o.args))=some (pre,.fn (.func f) fs cs::vs,ks) ->
   (c=true->zL (zd s o.args)=true/\pre/\Pure P f (fs++vs++cs) r)->(r.flat=true\/ks=[])->zbW P s o (fin o.guard c (.p r)) []
 | callVB {f:Nat} {pre:Prop} {fs cs vs:List PV} {ks:List Nat} {r:PV}:o.op=.callv->gOf s o.guard=some true->toPVs s.look (uns (zd s o.args))=some (pre,.fn (.func f) fs cs::vs,ks)->zL (zd s o.args)=true->pre->Pure P f (fs++vs++cs) r ->
   zbW P s o (fin o.guard true (.p r)) (frzs s.look ks)
 | callS {f:Nat} {m:Nat->Nat} {args:List LV} {obj obj':List (Nat × LObj)} {r:LV}:o.op=.call f->gOf s o.guard=some true->uns (zd s o.args)=rens m args->zL (zd s o.args)=true->zbk P f args obj r obj'->zsy s m obj obj' ->
   zbW P s o (fin o.guard true (r.ren m)) (zdb m obj')
 | callSV {f:Nat} {m:Nat->Nat} {fs cs vs args:List LV} {obj obj':List (Nat × LObj)} {r:LV}:o.op=.callv->gOf s o.guard=some true->uns (zd s o.args)=.fn (.func f) fs cs::vs->fs++vs++cs=rens m args->zL (zd s o.args)=true->zbk P f args obj r obj'->zsy s m obj obj' ->
   zbW P s o (fin o.guard true (r.ren m)) (zdb m obj')
 | callN {q:LV}:gOf s o.guard=some false->zbW P s o (fin o.guard false q) []
 | callH {f k e sz c0:Nat} {pre:Prop} {vs0 vs xs:List PV} {ks:List Nat} {a0:Option Addr} {r:PV}:o.op=.call f->o.guard=none->toPVs s.look (uns (zd s o.args))=some (pre,vs0,ks)->zL (zd s o.args)=true->pre->s.look k=some (.hrow e sz xs a0 c0) ->
   zqM (.rs a0 xs.length c0) (.sl sz xs) vs0 vs->Pure P f vs r->r.flat=true->zbW P s o (.p r) [(k,.hrow e sz xs a0 c0)]
 | appH {e sz by_ k c0 sz':Nat} {x y:AOpd} {a0:Option Addr} {xs ys:List PV} {rd:List Nat} {pre:Prop}:o.op=.app e sz by_->o.args=[x,y]->o.guard=none->zL (zd s o.args)=true->(x.ev s).un=.p (.rs a0 xs.length c0)->s.look k=some (.hrow e sz xs a0 c0) ->
   zba s.look (y.ev s).un=some (pre,ys,sz',rd)->pre->(ys=[]\/sz'=sz)->oneAll ys=true->(xs.length+ys.length)*by_<=140737488355328->zbW P s o (.row k (xs++ys).length) [(k,.row e sz (xs++ys) false)]
structure Rnd (D O Bi D' O':Nat->Prop) (W W':World):Prop where
 kx:KeepX O W W'
 d1:∀ b,D' b->D b\/W.heap.size<=b\/Bi b
 d2:∀ b,D' b->b < W'.heap.size
 o1:∀ b,O' b->O b\/W.heap.size<=b
 o2:∀ b,O' b->D' b
def zga (P:Program) (y:Nat) (Bo:Nat->Prop) (no:Nat) (J:List (List PV)->(Nat->Prop)->(Nat->Prop)->World->Prop) (Jx:List (List PV)->(Nat->Prop)->World->Prop) (ts:List (List PV)):Prop:=
 ∀ (pre:List (List PV)) (t:List PV) (post:List (List PV)) (D O:Nat->Prop) (W:World) (Bi:Nat->Prop) (args:List Value),ts=pre++t::post->J pre D O W->(∀ b,Bi b->b < W.heap.size/\¬O b/\(Bo b\/no<=b))->Reps W Bi args t ->
  YieldAt Fence.wide 0 P y args.toArray W λe W'=>∃ bb:Bool,e=.returned (.bool bb)/\if bb=true then ∃ D' O',J (pre++[t]) D' O' W'/\Rnd D O Bi D' O' W W' else ∃ D',Jx (pre++[t]) D' W'/\Rnd D O Bi D' (λ_=>False) W W'
def zeU (P:Program) (X:Fx) (ts:List (List PV)):Prop:=zga P X.y X.Bo X.no X.J X.Jx ts
structure zdu (J:List (List PV)->(Nat->Prop)->(Nat->Prop)->World->Prop) (Jx:List (List PV)->(Nat->Prop)->World->Prop):Prop where
 j:∀ t D O w w',J t D O w->Kept D w w'->J t D O w'
 jx:∀ t D w w',Jx t D w->Kept D w w'->Jx t D w'
theorem zzv {l:List AOpd} (h:zao P oper=some (.mv,l)):∃ x x',(oper.op=.move x\/oper.op=.assign x)/\l=[x']/\zcw x=some x':=by
 unfold zao at h
 split at h
 all_goals first
  | (obtain ⟨x',h1,e⟩:=xab.1 h;injection e with e1 e2;cases e1;done)
  | (obtain ⟨x',h1,e⟩:=xab.1 h;injection e with e1 e2;exact ⟨_,x',.inl ‹_›,e2.symm,h1⟩)
  | (obtain ⟨x',h1,e⟩:=xab.1 h;injection e with e1 e2;exact ⟨_,x',.inr ‹_›,e2.symm,h1⟩)
  | skip
 all_goals (repeat' split at h)
 all_goals (try (rw [xao] at h;obtain ⟨_,_,h⟩:=h))
 all_goals (try (rw [xao] at h;obtain ⟨_,_,h⟩:=h))
 all_goals (repeat' split at h)
 all_goals (simp at h)
theorem zrP {l:List AOpd} (h:zao P oper=some (.pick,l)):∃ x y z,oper.op=.pick x y z/\zap [x,y,z]=some l:=by
 unfold zao at h
 split at h
 all_goals first
  | (obtain ⟨x',h1,e⟩:=xab.1 h;injection e with e1 e2;cases e1;done)
  | (obtain ⟨x',h1,e⟩:=xab.1 h;injection e with e1 e2;subst e2;exact ⟨_,_,_,‹_›,h1⟩)
  | skip
 all_goals (repeat' split at h)
 all_goals (try (rw [xao] at h;obtain ⟨_,_,h⟩:=h))
 all_goals (try (rw [xao] at h;obtain ⟨_,_,h⟩:=h))
 all_goals (repeat' split at h)
 all_goals (simp at h)
theorem zeP {f:Nat} {l:List AOpd} (h:zao P oper=some (.call f,l)):∃ args ts,oper.op=.call { callee:=.value (.func f),args:=args,argTypes:=ts }/\zap args.toList=some l:=by
 unfold zao at h
 split at h
 all_goals first
  | (obtain ⟨x',h1,e⟩:=xab.1 h;injection e with e1 e2;cases e1;done)
  | (obtain ⟨x',h1,e⟩:=xab.1 h;injection e with e1 e2;injection e1 with e1;subst e1;subst e2;exact ⟨_,_,‹_›,h1⟩)
  | skip
 all_goals (repeat' split at h)
 all_goals (try (rw [xao] at h;obtain ⟨_,_,h⟩:=h))
 all_goals (try (rw [xao] at h;obtain ⟨_,_,h⟩:=h))
 all_goals (repeat' split at h)
 all_goals (simp at h)
theorem zdL {l:List AOpd} (h:zao P oper=some (.callv,l)):∃ t args ts,oper.op=.call { callee:=.value (.tmp t),args:=args,argTypes:=ts }/\zap (.tmp t::args.toList)=some l:=by
 unfold zao at h
 split at h
 all_goals first
  | (obtain ⟨x',h1,e⟩:=xab.1 h;injection e with e1 e2;cases e1;done)
  | (obtain ⟨x',h1,e⟩:=xab.1 h;injection e with e1 e2;subst e2;exact ⟨_,_,_,‹_›,h1⟩)
  | skip
 all_goals (repeat' split at h)
 all_goals (try (rw [xao] at h;obtain ⟨_,_,h⟩:=h))
 all_goals (try (rw [xao] at h;obtain ⟨_,_,h⟩:=h))
 all_goals (repeat' split at h)
 all_goals (simp at h)
theorem zaW {r:AOp × List AOpd} (h:zao P oper=some r):∀ c,oper.op≠.defer c:=by
 intro c hc;simp [zao,hc] at h
structure ROk (P:Program) (N:Nat) (ops:Array Oper) (oper:Oper) (o:RO):Prop where
 hdst:∀ d,oper.dst=some d->d < N
 hd:o.dst=oper.dst
 hc:zao P oper=some (o.op,o.args)
 hg:(oper.guard=none/\o.guard=none)\/∃ j b t,oper.guard=some (j,b)/\(ops[j]?).bind (·.dst)=some t/\o.guard=some (t,b)/\t < GB
 ha:o.after=oper.after.toList.filterMap λe=>if Region.binds .any e then some e.on else none
theorem zas {N:Nat} {ops:Array Oper} {o:RO} (h:zcN P N ops oper=some o):ROk P N ops oper o:=by
 unfold zcN at h
 split at h
 ·rename_i hall;have hd:∀ d,oper.dst=some d->d < N:=λd hd=>by rw [hd] at hall;simpa using hall
  split at h
  ·rename_i op args hc;dsimp only at h
   split at h
   ·rename_i hg;injection h with h;subst h;exact ⟨hd,rfl,hc,.inl ⟨hg,rfl⟩,rfl⟩
   ·rename_i j b hg
    split at h
    ·rename_i t ht
     split at h
     ·rename_i hgb;injection h with h;subst h;exact ⟨hd,rfl,hc,.inr ⟨j,b,t,hg,ht,rfl,hgb⟩,rfl⟩
     ·cases h
    ·cases h
  ·cases h
 ·cases h
section
variable {X:Fx} {C:Ctx} {g:Nat->LV} {look:Nat->Option LObj} {tr:List (List PV)} {stop:Bool} {a:Act} {w:World} {P:Program} {N:Nat} {ops:Array Oper} {oper:Oper} {o:RO} {s:St}
theorem zmV (s:St):∀ (wr:Option (Nat × LObj)),(s.wrs wr.toList).look=wrL s.look wr
 | none=>rfl
 | some (k,ob)=>by funext t;simp only [Option.toList,St.wrs,St.look,St.wr,wrL,zcF];rfl
theorem zcA:∀ (wr:List (Nat × LObj)) (s:St),(s.wrs wr).get=s.get
 | [],_=>rfl
 | (k,ob)::r,s=>by rw [St.wrs,zcA r];rfl
theorem zlH (s:St) (d:Option Nat) (v:LV):(s.set d v).get=match d with|some d=>upd s.get d v|none=>s.get:=by
 cases d with
 | none=>rfl
 | some d=>funext t;simp only [St.set,St.get,zg9];rfl
theorem ziz (s:St) (d:Option Nat) (v:LV):(s.set d v).look=s.look:=by cases d<;>rfl
theorem za8:∀ (wr:List (Nat × LObj)) (s:St),(s.wrs wr).tr=s.tr/\(s.wrs wr).stop=s.stop
 | [],_=>⟨rfl,rfl⟩
 | (k,ob)::r,s=>by rw [St.wrs];exact za8 r _
theorem zV (s:St) (d:Option Nat) (v:LV):(s.set d v).tr=s.tr/\(s.set d v).stop=s.stop:=by cases d<;>exact ⟨rfl,rfl⟩
theorem zaA (h:RelC X C g look tr stop a w) (hg:g=s.get) {y:AOpd} (hx:zcw x=some y):RepL w C look (a.eval x) (y.ev s)/\LV.Sc look (y.ev s):=by
 subst hg;cases x with
 | tmp t=>
  simp only [zcw] at hx
  split at hx
  ·rename_i ht;injection hx with hx;subst hx;exact ⟨by have:=h.env t;rw [zbc ht] at this;exact this,h.envs t⟩
  ·cases hx
 | const v=>
  simp only [zcw,xab] at hx;obtain ⟨p,hp,rfl⟩:=hx;exact ⟨.p (zbf hp w C.B),.p p⟩
 | func f=>
  simp only [zcw] at hx;injection hx with hx;subst hx;exact ⟨.p (.fn rfl rfl (λj v p hv=>by simp at hv) (λj v p hv=>by simp at hv)),.p _⟩
 | global=>simp [zcw] at hx
theorem zkQ (h:RepL w C look v q) (hs:LV.Sc look q) (hc:q.cnd=true):RepL w C look v q.un/\LV.Sc look q.un:=by
 induction h with
 | g h1 h2 ih=>
  simp only [LV.cnd,xau] at hc;cases hs with
  | g hs'=>exact ih hc.1 (hs' hc.1) hc.2
 | p h=>exact ⟨.p h,.p _⟩
 | lp=>exact ⟨.lp,hs⟩
 | row h=>exact ⟨.row h,hs⟩
 | ep h=>exact ⟨.ep h,hs⟩
 | it=>exact ⟨.it,hs⟩
 | lm=>exact ⟨.lm,hs⟩
 | fn h1 h2 h3 h4=>exact ⟨.fn h1 h2 h3 h4,hs⟩
 | agg h1 h2=>exact ⟨.agg h1 h2,hs⟩
 | tup h1 h2=>exact ⟨.tup h1 h2,hs⟩
 | yield=>exact ⟨.yield,hs⟩
 | any=>exact ⟨.any _,hs⟩
theorem zf4:∀ {l:List LV},zL l=true->∀ q ∈ l,q.cnd=true
 | [],_,q,hq=>by cases hq
 | x::r,h,q,hq=>by
  simp only [zL,xau] at h
  rcases xaI.1 hq with rfl|hq
  ·exact h.1
  ·exact zf4 h.2 q hq
theorem za2 (h:RelC X C g look tr stop a w) (hg:g=s.get) {args:List AOpd} (hc:zL (zd s args)=true):zaL w C look a args λy=>(y.ev s).un:=by
 intro x y hx hy;obtain ⟨h1,h2⟩:=zaA h hg hx;exact zkQ h1 h2 (zf4 hc _ (xcd hy))
theorem zsK (h:RepL w C look v q):RepL w C look v (q.under true):=by
 cases q with
 | g c x=>simp only [LV.under,xaZ];exact h
 | _=>exact .g (λ_=>h) (λe=>by cases e)
theorem zsJ (h:LV.Sc look q):LV.Sc look (q.under c):=by
 cases q with
 | g c' x=>cases h with|g h=>exact .g λhc=>h (by simp only [xau] at hc;exact hc.2)
 | _=>exact .g λ_=>h
theorem zsL:RepL w C look undef (q.under false):=by
 cases q with
 | g c x=>simp only [LV.under,xa4];exact .g (λe=>by cases e) (λ_=>rfl)
 | _=>exact .g (λe=>by cases e) (λ_=>rfl)
theorem zkP:LV.Sc look (q.under false):=by
 cases q with
 | g c x=>simp only [LV.under,xa4];exact .g (λe=>by cases e)
 | _=>exact .g (λe=>by cases e)
theorem zdX {gd:Option (Nat × Bool)} (h:RepL w C look v q) (hs:LV.Sc look q):RepL w C look v (fin gd true q)/\LV.Sc look (fin gd true q):=by
 cases gd with
 | none=>exact ⟨h,hs⟩
 | some x=>exact ⟨zsK h,zsJ hs⟩
theorem zO (h:RelC X C s.get look tr stop a w) (hr:ROk P N ops oper o) (hc:gOf s o.guard=some c):Region.wanted oper (yielded ops a.tmps)=c:=by
 rcases hr.hg with ⟨h1,h2⟩|⟨j,b,t,h1,h2,h3,hgb⟩
 ·rw [h2] at hc;simp only [gOf] at hc;injection hc with hc;subst hc;simp [Region.wanted,h1]
 ·rw [h3] at hc;have key:∀ x,a.tmps.getD t undef=.bool x->Region.wanted oper (yielded ops a.tmps)=if b then x else !x:=λx hx=>by
   have hx':a.tmps[t]?=some (.bool x):=by
    rw [xag] at hx;cases hq:a.tmps[t]? with
    | none=>rw [hq] at hx;simp [undef] at hx
    | some v=>rw [hq] at hx;simpa using hx
   simp only [Region.wanted,h1,yielded,h2,xbN,hx'];cases b<;>cases x<;>rfl
  have key0:a.tmps.getD t undef=undef->Region.wanted oper (yielded ops a.tmps)=false:=λhx=>by
   have:yielded ops a.tmps j=none:=by
    simp only [yielded,h2,xbN];rw [xag] at hx;cases hq:a.tmps[t]? with
    | none=>rfl
    | some v=>rw [hq] at hx;simp only [xa7] at hx;subst hx;rfl
   simp [Region.wanted,h1,this]
  have he:=h.env t;rw [zbc hgb] at he;simp only [gOf] at hc
  split at hc
  ·rename_i x hx;rw [hx] at he;injection hc with hc;subst hc;have:=ze he;generalize hv:a.tmps.getD t undef=v at this;cases this;exact key x hv
  ·rename_i c0 x hx;rw [hx] at he;injection hc with hc;subst hc;cases c0 with
   | true=>
    generalize hv:a.tmps.getD t undef=v at he;cases he with
    | g h1 h2=>
     have:=ze (h1 rfl);cases this;simpa using key x hv
   | false=>
    generalize hv:a.tmps.getD t undef=v at he;cases he with
    | g h1 h2=>
     have:=h2 rfl;subst this;simpa using key0 hv
  ·cases hc
theorem zaD (h:RelC X C s.get s.look tr stop a w) {d:Option Nat} (hd:∀ k,d=some k->k < X.N) (hv:RepL w C s.look v q) (hs:LV.Sc s.look q):RelC X C (s.set d q).get (s.set d q).look tr stop (a.put d v) w:=by
 rw [zlH,ziz];cases d with
 | none=>exact h
 | some d=>exact h.put (hd d rfl) hv hs
theorem zby {ro:Option Nat} {K:Act->World->Prop} (hnd:∀ c,oper.op≠.defer c) (hr:znC P oper a w v w') (hK:K (a.put oper.dst v) w'):oper.wpIn (za4 ro) 0 P a w K Q:=by
 refine ⟨λf _=>trivial,?_⟩
 rw [Oper.semAt_eq _ _ _ hnd]
 rcases hr with hr|⟨hr,rfl⟩
 ·rw [hr];exact hK
 ·rw [hr];exact hK
theorem zeh {ro : Option Nat} {K : Act → World → Prop} {Q : Exit → Act → World → Prop} {f : Nat} {ts : Array TypeId} (ho : oper.op = .call { callee := .value (.func f), args := args, argTypes := ts }) (hf : zb3 P f)
    (hc : Calls P f (args.toList.map a.eval).toArray w fun e w' => ∃ u, e = .returned u ∧ K (a.put oper.dst u) w') : oper.wpIn (za4 ro) 0 P a w K Q := by
  refine ⟨fun f _ => trivial, ?_⟩
  rw [Oper.semAt_eq _ _ _ (by intro c; rw [ho]; exact fun e => by cases e)]
  obtain ⟨fn, c, h1, h2, h3⟩ := hf
  have hrun : (execOp a.eval oper).run P w = .ok (.enter f (args.toList.map a.eval).toArray) w := by
    have ha : args.map a.eval = (args.toList.map a.eval).toArray := by rw [← Array.toList_map]
    have h2' : ¬ fn.name = "runtime.NumGoroutine" := by simpa using h2
    simp [execOp, ho, resolve, Act.eval, Deferred.ofValue, invoke, callFunc, h1, h2', h3, ha]
  rw [hrun]
  refine ⟨fun h => by simp [za4, Fence.wide] at h, ?_⟩
  have h4 : CallsIn Fence.wide (0 - 1) P f (args.toList.map a.eval).toArray w fun e w' => ∃ u, e = .returned u ∧ K (a.put oper.dst u) w' := callsIn_wide.2 hc
  have h5 := CallsIn.mono h4 (R' := fun
      | .returned v, w'' => K (a.put oper.dst v) w''
      | .panicked chain, w'' => Q (.panic chain) a w''
      | .outgrown, _ => LetsOut Q) (fun e w' he => by obtain ⟨u, rfl, hk⟩ := he; exact hk)
  exact h5
theorem zeZ {ro : Option Nat} {K : Act → World → Prop} {Q : Exit → Act → World → Prop} {f : Nat} {t : Nat} {fs cs : Array Value} {ts : Array TypeId} (ho : oper.op = .call { callee := .value (.tmp t), args := args, argTypes := ts }) (ht : a.eval (.tmp t) = .func (.func f) fs cs) (hf : zb3 P f)
    (hc : Calls P f (fs.toList ++ args.toList.map a.eval ++ cs.toList).toArray w fun e w' => ∃ u, e = .returned u ∧ K (a.put oper.dst u) w') : oper.wpIn (za4 ro) 0 P a w K Q := by
  refine ⟨fun f _ => trivial, ?_⟩
  rw [Oper.semAt_eq _ _ _ (by intro c; rw [ho]; exact fun e => by cases e)]
  obtain ⟨fn, c, h1, h2, h3⟩ := hf
  have hrun : (execOp a.eval oper).run P w = .ok (.enter f (fs.toList ++ args.toList.map a.eval ++ cs.toList).toArray) w := by
    have ha : fs ++ args.map a.eval ++ cs = (fs.toList ++ args.toList.map a.eval ++ cs.toList).toArray := by simp
    have h2' : ¬ fn.name = "runtime.NumGoroutine" := by simpa using h2
    simp [execOp, ho, resolve, ht, Deferred.ofValue, invoke, callFunc, h1, h2', h3]
  rw [hrun]
  refine ⟨fun h => by simp [za4, Fence.wide] at h, ?_⟩
  have h4 : CallsIn Fence.wide (0 - 1) P f (fs.toList ++ args.toList.map a.eval ++ cs.toList).toArray w fun e w' => ∃ u, e = .returned u ∧ K (a.put oper.dst u) w' := callsIn_wide.2 hc
  have h5 := CallsIn.mono h4 (R' := fun
      | .returned v, w'' => K (a.put oper.dst v) w''
      | .panicked chain, w'' => Q (.panic chain) a w''
      | .outgrown, _ => LetsOut Q) (fun e w' he => by obtain ⟨u, rfl, hk⟩ := he; exact hk)
  exact h5
theorem zp7 {f:Fn} {qs:List PV} (h:Rep w B v (.fn f ps qs)):∃ fs cs:Array Value,v=.func f fs cs/\Reps w B fs.toList ps/\Reps w B cs.toList qs:=by
 cases h with
 | @fn f fs cs ps qs h1 h2 h3 h4=>exact ⟨fs,cs,rfl,⟨by simpa using h1,λj v p hv hp=>h3 j v p (by simpa using hv) hp⟩,⟨by simpa using h2,λj v p hv hp=>h4 j v p (by simpa using hv) hp⟩⟩
end
theorem zcY:∀ {l:List (Nat × LObj)} {k:Nat} {o:LObj},zm l k=some o->(k,o) ∈ l
 | [],_,_,h=>by simp [zm] at h
 | (j,u)::r,k,o,h=>by
  simp only [zm] at h
  split at h
  ·rename_i e;subst e;injection h with h;subst h;simp
  ·exact xaH _ (zcY h)
theorem zwd:∀ (wr:List (Nat × LObj)) (s:St),(wr.map (·.1)).Nodup->(∀ j o,(j,o) ∈ wr->(s.wrs wr).look j=some o)/\(∀ j,j ∉ wr.map (·.1)->(s.wrs wr).look j=s.look j)
 | [],s,_=>⟨λj o h=>(by cases h),λ_ _=>rfl⟩
 | (k,u)::r,s,hn=>by
  simp only [xaj,xbR] at hn;obtain ⟨h1,h2⟩:=zwd r (s.wr k u) hn.2;have hk:∀ j,(s.wr k u).look j=if j=k then some u else s.look j:=λj=>by
   show zm (zjU s.obj k u) j=_;rw [zcF];rfl
  refine ⟨λj o hm=>?_,λj hj=>?_⟩
  ·rcases xaI.1 hm with e|hm
   ·injection e with e1 e2;subst e1;subst e2;show ((s.wr j o).wrs r).look j=_;rw [h2 j hn.1,hk,if_pos rfl]
   ·exact h1 j o hm
  ·simp only [xaj,xaI,not_or] at hj;show ((s.wr k u).wrs r).look j=_;rw [h2 j hj.2,hk,if_neg hj.1]
theorem zgz:∀ {l:List (Nat × LObj)},(l.map λx=>m x.1).Nodup->∀ x ∈ l,∀ y ∈ l,m x.1=m y.1->x=y
 | [],_,x,hx,_,_,_=>by cases hx
 | a::r,hn,x,hx,y,hy,he=>by
  simp only [xaj,xbR,xaN,not_exists,not_and] at hn
  rcases xaI.1 hx with e1|h1<;>rcases xaI.1 hy with e2|h2
  ·exact e1.trans e2.symm
  ·subst e1;exact absurd he.symm (hn.1 y h2)
  ·subst e2;exact absurd he (hn.1 x h1)
  ·exact zgz hn.2 x h1 y h2 he
theorem zlI {o':LObj} (h:o.Follows o'):(o.ren m).Follows (o'.ren m):=by
 cases o<;>cases o'<;>simp_all [LObj.Follows,LObj.ren]
def znV (pk:Nat->Option Nat) (obj':List (Nat × LObj)) (C C':Ctx) (j:Nat):Nat:=match pk j with|some k=>(match zm obj' k with|some (.row ..)=>C.ρ j|some (.hrow ..)=>C.ρ j|_=>C'.ρ k)|none=>C.ρ j
def zoN (pk:Nat->Option Nat) (C C':Ctx) (j:Nat):Value:=match pk j with|some k=>C'.cur k|none=>C.cur j
section
variable {X:Fx} {C:Ctx} {tr:List (List PV)} {stop:Bool} {a:Act} {w:World} {P:Program} {s:St}
theorem zsg (h:RelC X C s.get s.look tr stop a w) {m:Nat->Nat} (hok:∀ k o,zm obj k=some o->LObj.Sc (zm obj) o/\o.frozen=false)
  (hold:∀ k o,zm obj k=some o->s.look (m k)=some (o.ren m)) (inj0:∀ {k o k' o'},zm obj k=some o->zm obj k'=some o'->m k=m k'->k=k'):Frag w (C.pull m) obj:=by
 have pb:∀ k o,blk C (m k) (o.ren m)=blk (C.pull m) k o:=λk o=>by cases o<;>rfl
 exact {
  blt:=h.blt
  ob:=λk o hk=>zjY hold (h.obj _ _ (hold k o hk))
  objs:=λk o hk=>(hok k o hk).1
  fz:=λk o hk=>(hok k o hk).2
  sep:=λk o b hk hb=>by
   obtain ⟨_,h2,h3,_⟩:=h.sep (m k) (o.ren m) b (hold k o hk) ((pb k o).trans hb);exact ⟨h2,h3 (by rw [LObj.ren_frozen];exact (hok k o hk).2)⟩
  dis:=λk k' o o' b hne hk hk' hb hb'=>h.dis (m k) (m k') (o.ren m) (o'.ren m) b (λe=>hne (inj0 hk hk' e)) (hold k o hk) (hold k' o' hk') ((pb k o).trans hb) ((pb k' o').trans hb') }
theorem zuF (hl:zsy s m obj obj') (hfol:∀ k o,zm obj k=some o->∃ o',zm obj' k=some o'/\o.Follows o'):∀ {k o k' o'},zm obj k=some o->zm obj k'=some o'->m k=m k'->k=k':=fun {k o k' o'} h1 h2 he=>by
 obtain ⟨p,hp,_⟩:=hfol k o h1;obtain ⟨p',hp',_⟩:=hfol k' o' h2;have:=zgz hl.nd _ (zcY hp) _ (zcY hp') he;injection this
theorem zvP (hM:X.MOk) (h:RelC X C s.get s.look tr stop a w) {m:Nat->Nat} {res:LV} {obj obj':List (Nat × LObj)} (hok:∀ k o,zm obj k=some o->LObj.Sc (zm obj) o/\o.frozen=false)
  (hfol:∀ k o,zm obj k=some o->∃ o',zm obj' k=some o'/\o.Follows o') (hl:zsy s m obj obj') {w':World} {C':Ctx} {u:Value} (he:zwc w (C.pull m) w' C' obj obj' u res) :
  ∃ C1,RelC X C1 (s.wrs (zdb m obj')).get (s.wrs (zdb m obj')).look tr stop a w'/\RepL w' C1 (s.wrs (zdb m obj')).look u (res.ren m)/\LV.Sc (s.wrs (zdb m obj')).look (res.ren m):=by
 have inj:∀ {k o k' o'},zm obj' k=some o->zm obj' k'=some o'->m k=m k'->k=k':=fun {k o k' o'} h1 h2 he=>by
  have:=zgz hl.nd _ (zcY h1) _ (zcY h2) he;injection this
 have pb:∀ k o,blk C (m k) (o.ren m)=blk (C.pull m) k o:=λk o=>by cases o<;>rfl
 let L:Nat->Prop:=λj=>∃ k o,zm obj' k=some o/\m k=j
 have pick:∀ j,∃ q:Option Nat,(∀ k,q=some k->(∃ o,zm obj' k=some o)/\m k=j)/\(q=none->¬L j):=λj=>by
  by_cases hL:L j
  ·obtain ⟨k,o,h1,h2⟩:=hL;exact ⟨some k,λk' e=>by injection e with e;subst e;exact ⟨⟨o,h1⟩,h2⟩,λe=>by cases e⟩
  ·exact ⟨none,λk e=>(by cases e),λ_=>hL⟩
 let pk:Nat->Option Nat:=λj=>(pick j).choose
 have pk1:∀ k o,zm obj' k=some o->pk (m k)=some k:=λk o hk=>by
  have hs:=(pick (m k)).choose_spec;cases e:(pick (m k)).choose with
  | none=>exact absurd ⟨k,o,hk,rfl⟩ (hs.2 e)
  | some k'=>
   obtain ⟨⟨o',g1⟩,g2⟩:=hs.1 k' e;show (pick (m k)).choose=_;rw [e,inj g1 hk g2]
 have pk0:∀ j,¬L j->pk j=none:=λj hL=>by
  have hs:=(pick j).choose_spec;cases e:(pick j).choose with
  | none=>exact e
  | some k'=>
   obtain ⟨⟨o',g1⟩,g2⟩:=hs.1 k' e;exact absurd ⟨k',o',g1,g2⟩ hL
 let C1:Ctx:={ C with
  B:=C'.B
  ρ:=znV pk obj' C C'
  cur:=zoN pk C C' }
 obtain ⟨w1,w2⟩:=zwd (zdb m obj') s (by simpa [zdb,Function.comp_def] using hl.nd)
 have lk:∀ k o,zm obj' k=some o->(s.wrs (zdb m obj')).look (m k)=some (o.ren m):=λk o hk=>w1 _ _ (xaN.2 ⟨(k,o),zcY hk,rfl⟩)
 have lk0:∀ j,¬L j->(s.wrs (zdb m obj')).look j=s.look j:=λj hL=>w2 j λhm=>by
  simp only [zdb,List.map_map,xaN,Function.comp_apply] at hm;obtain ⟨x,hx,rfl⟩:=hm;have:∃ o,zm obj' x.1=some o:=by
   have gen:∀ {l:List (Nat × LObj)},x ∈ l->∃ o,zm l x.1=some o:=by
    intro l
    induction l with
    | nil=>intro h;cases h
    | cons y r ih=>
     intro h;simp only [zm]
     split
     ·exact ⟨_,rfl⟩
     ·rename_i hne
      rcases xaI.1 h with rfl|h
      ·exact absurd rfl hne
      ·exact ih h
   exact gen hx
  obtain ⟨o,ho⟩:=this;exact hL ⟨x.1,o,ho,rfl⟩
 have td:∀ k o,zm obj' k=some o->Tied C1 (m k) C' k o:=λk o hk=>by
  have:=pk1 k o hk;cases o<;>simp only [Tied,C1,znV,zoN,this,hk]
 have was:∀ {k o' o},zm obj' k=some o'->s.look (m k)=some o->∃ o0,zm obj k=some o0/\o=o0.ren m:=fun {k o' o} h1 h2=>by
  cases e:zm obj k with
  | none=>rw [hl.new k o' h1 e] at h2;cases h2
  | some o0=>rw [hl.old k o0 e] at h2;injection h2 with h2;exact ⟨o0,rfl,h2.symm⟩
 have b1:∀ k o,zm obj' k=some o->blk C1 (m k) (o.ren m)=blk C' k o:=λk o hk=>(td k o hk).blk
 refine ⟨C1,?_,RepL.ren (C0:=C') (C1:=C1) lk (λ_ h=>h) he.y.symm td he.scr he.rp,he.scr.ren lk⟩
 rw [zcA];refine h.change L (λj o hj=>?_) lk0 (λj o hL hj=>?_) (λj o hL hj=>?_) hM he.b1 (λb hb=>(he.b2 b hb).imp id (Or.imp id λ⟨k,o,h1,h2⟩=>by
  obtain ⟨o2,f1,_⟩:=hfol k o h1;exact ⟨m k,o.ren m,⟨k,o2,f1,rfl⟩,hl.old k o h1,(pb k o).trans h2⟩)) he.fr.blt rfl rfl rfl rfl (λj o hj=>?_) (λj hL=>?_) (λj e sz xs xs' f f' hL hj hj' hlen=>?_) (he.kx.mono λb _ ⟨k,o,h1,h2⟩=>?_) (λj o hL hj=>?_) (λj o b hL hj hb=>?_) (λj j' o o' b hne hL hL' hj hj' hb hb'=>?_)
 ·by_cases hL:L j
  ·obtain ⟨k,o',h1,rfl⟩:=hL;obtain ⟨o0,g1,rfl⟩:=was h1 hj;obtain ⟨o2,f1,f2⟩:=hfol k o0 g1;exact ⟨o2.ren m,lk k o2 f1,zlI f2⟩
  ·exact ⟨o,by rw [lk0 j hL];exact hj,o.follows_refl⟩
 ·obtain ⟨k,o',h1,rfl⟩:=hL;obtain ⟨o0,g1,rfl⟩:=was h1 hj;rw [LObj.ren_frozen];exact (hok k o0 g1).2
 ·obtain ⟨k,o',h1,rfl⟩:=hL;rw [lk k o' h1] at hj;injection hj with hj;subst hj;rw [LObj.ren_frozen];exact he.fr.fz k o' h1
 ·by_cases hL:L j
  ·obtain ⟨k,o',h1,rfl⟩:=hL;obtain ⟨o0,g1,rfl⟩:=was h1 hj;have hp:=pk1 k o' h1;show znV pk obj' C C' (m k)=_;unfold znV;simp only [hp,h1];obtain ⟨o2,f1,f2⟩:=hfol k o0 g1;rw [h1] at f1;injection f1 with f1;subst f1;have ht:=he.tied k o0 o' g1 h1;cases o' with
   | row=>rfl
   | hrow=>rfl
   | _=>exact ht (λ_ _ _ _ _ e=>by cases e) (λ_ _ _ _ _ _ _ _ _ e=>by cases e)
  ·show znV pk obj' C C' j=_;unfold znV;rw [pk0 j hL]
 ·show zoN pk C C' j=_;unfold zoN;rw [pk0 j hL]
 ·obtain ⟨k,o',h1,rfl⟩:=hL;obtain ⟨o0,g1,e0⟩:=was h1 hj;rw [lk k o' h1] at hj';injection hj' with hj';have hp:=pk1 k o' h1;show zoN pk C C' (m k)=_;unfold zoN;rw [hp];have ht:=he.tied k o0 o' g1 h1;cases o0<;>simp [LObj.ren] at e0
  cases o'<;>simp [LObj.ren] at hj'
  obtain ⟨rfl,rfl,rfl,rfl⟩:=e0;obtain ⟨rfl,rfl,rfl,rfl⟩:=hj';exact ht (λ_ _ _ _ _ e=>by cases e) (λ_ _ _ _ _ _ _ _ e1 e2=>by cases e1;cases e2;exact hlen)
 ·obtain ⟨o2,f1,_⟩:=hfol k o h1;exact ⟨m k,o.ren m,⟨k,o2,f1,rfl⟩,hl.old k o h1,(pb k o).trans h2⟩
 ·obtain ⟨k,o',h1,rfl⟩:=hL;rw [lk k o' h1] at hj;injection hj with hj;subst hj;refine ⟨ObjRel.ren (C0:=C') (C1:=C1) lk (λ_ h=>h) he.y.symm td h1 (he.fr.objs k o' h1) (he.fr.ob k o' h1),?_⟩
  have:=he.fr.objs k o' h1;cases o' with
  | box cs fz=>
   intro j q hq;simp only [LObj.Sc] at this;rw [zG,xal,xab] at hq;obtain ⟨p,hp,rfl⟩:=hq;exact (this j p hp).ren lk
  | _=>trivial
 ·obtain ⟨k,o',h1,rfl⟩:=hL;rw [lk k o' h1] at hj;injection hj with hj;subst hj;rw [b1 k o' h1] at hb;obtain ⟨g1,g2⟩:=he.fr.sep k o' b h1 hb;refine ⟨g1,g2,(he.bk k o' b h1 hb).imp (λ⟨k0,o0,f1,f2⟩=>?_) id⟩
  obtain ⟨o2,f3,_⟩:=hfol k0 o0 f1;exact ⟨m k0,o0.ren m,⟨k0,o2,f3,rfl⟩,hl.old k0 o0 f1,(pb k0 o0).trans f2⟩
 ·obtain ⟨k,p,h1,rfl⟩:=hL;obtain ⟨k',p',h1',rfl⟩:=hL';rw [lk k p h1] at hj;injection hj with hj;subst hj;rw [lk k' p' h1'] at hj';injection hj' with hj';subst hj';rw [b1 k p h1] at hb;rw [b1 k' p' h1'] at hb';exact he.fr.dis k k' p p' b (λe=>hne (by rw [e])) h1 h1' hb hb'
theorem zkB (hM:X.MOk) (h:RelC X C s.get s.look tr stop a w) {m:Nat->Nat} {args:List LV} {vs:List Value} (hA:zbk P f args obj res obj')
  (hl:zsy s m obj obj') (hv:RepsL w C s.look vs (rens m args)) :
  Calls P f vs.toArray w λe w'=>∃ u C1,e=.returned u/\RelC X C1 (s.wrs (zdb m obj')).get (s.wrs (zdb m obj')).look tr stop a w'/\RepL w' C1 (s.wrs (zdb m obj')).look u (res.ren m)/\LV.Sc (s.wrs (zdb m obj')).look (res.ren m):=by
 obtain ⟨_,hok,hfol,hcall⟩:=hA;have fr:=zsg h hok hl.old (zuF hl hfol);have hlen:vs.length=args.length:=by rw [hv.1,zG,xaf]
 refine Calls.mono (hcall w (C.pull m) vs fr hlen λj v q hvj hq=>zbD hl.old _ q (xap _) (hv.2 j v _ hvj (by rw [zG,xal,hq];rfl)).1) ?_
 rintro e w' ⟨u,C',rfl,he⟩;obtain ⟨C1,h1,h2,h3⟩:=zvP hM h hok hfol hl he;exact ⟨u,C1,rfl,h1,h2,h3⟩
end
theorem zk1 {f:Fn} {ps:List LV} (h:RepL w C l v (.fn f ps qs)) (hs:LV.Sc l (.fn f ps qs)):∃ fs cs:Array Value,v=.func f fs cs/\RepsL w C l fs.toList ps/\RepsL w C l cs.toList qs:=by
 cases h with
 | @fn f fs cs ps qs h1 h2 h3 h4=>
  cases hs with
  | fn s1 s2=>exact ⟨fs,cs,rfl,⟨by simpa using h1,λj v p hv hp=>⟨h3 j v p (by simpa using hv) hp,s1 j p hp⟩⟩,⟨by simpa using h2,λj v p hv hp=>⟨h4 j v p (by simpa using hv) hp,s2 j p hp⟩⟩⟩
theorem RepsL.append {us:List Value} {ps:List LV} (h:RepsL w C l vs ps) (k:RepsL w C l us qs):RepsL w C l (vs++us) (ps++qs):=by
 refine ⟨by simp [h.1,k.1],λj v p hv hp=>?_⟩
 by_cases hj:j < vs.length
 ·rw [xaT hj] at hv;rw [xaT (by rw [<-h.1];exact hj)] at hp
  exact h.2 j v p hv hp
 ·rw [xaB (by omega)] at hv
  rw [xaB (by rw [<-h.1];omega)] at hp
  rw [<-h.1] at hp;exact k.2 _ v p hv hp
section
variable {X:Fx} {C:Ctx} {g:Nat->LV} {look:Nat->Option LObj} {tr:List (List PV)} {stop:Bool} {a:Act} {w:World} {P:Program} {N:Nat} {ops:Array Oper} {oper:Oper} {o:RO} {s:St}
theorem zbi {m:Nat} (ih:∀ {q:LV} {pre:Prop} {pv:PV} {ks:List Nat},toPV look m q=some (pre,pv,ks)->∀ k ∈ ks,∃ ob,look k=some ob/\ob.freeze.frozen=true) :
  ∀ {qs:List LV} {pre:Prop} {ps:List PV} {ks:List Nat},toPV.go look m qs=some (pre,ps,ks)->∀ k ∈ ks,∃ ob,look k=some ob/\ob.freeze.frozen=true:=by
 intro qs
 induction qs with
 | nil=>
  intro pre ps ks h k hk;simp only [toPV.go] at h;injection h with h;injection h with h1 h;injection h with h2 h3;subst h3;cases hk
 | cons q r ihr=>
  intro pre ps ks h k hk;simp only [toPV.go] at h
  split at h
  ·rename_i x y hx hy;injection h with h;injection h with h1 h;injection h with h2 h3;subst h3
   rcases xaS.1 hk with hk|hk
   ·exact ih hx k hk
   ·exact ihr hy k hk
  ·cases h
theorem zjt:∀ (m:Nat) {q:LV} {pre:Prop} {pv:PV} {ks:List Nat},toPV look m q=some (pre,pv,ks)->∀ k ∈ ks,∃ ob,look k=some ob/\ob.freeze.frozen=true:=by
 intro m
 induction m with
 | zero=>intro q pre pv ks h;simp [toPV] at h
 | succ m ih=>
  intro q pre pv ks h k hk;cases q with
  | p v=>simp only [toPV] at h;injection h with h;injection h with h1 h;injection h with h2 h3;subst h3;cases hk
  | row k' n=>
   simp only [toPV] at h
   split at h
   ·rename_i hl;injection h with h;injection h with h1 h;injection h with h2 h3;subst h3;simp at hk;subst hk;exact ⟨_,hl,rfl⟩
   ·cases h
  | lp k' off=>
   simp only [toPV] at h
   split at h
   ·rename_i hl;obtain ⟨r,hr,h⟩:=xab.1 h;injection h with h1 h;injection h with h2 h3;subst h3
    rcases xaI.1 hk with rfl|hk
    ·exact ⟨_,hl,rfl⟩
    ·exact zbi ih hr k hk
   ·cases h
  | fn f b c=>
   simp only [toPV] at h
   split at h
   ·rename_i r t hr ht;injection h with h;injection h with h1 h;injection h with h2 h3;subst h3
    rcases xaS.1 hk with hk|hk
    ·exact zbi ih hr k hk
    ·exact zbi ih ht k hk
   ·cases h
  | agg cs=>
   simp only [toPV] at h;obtain ⟨r,hr,h⟩:=xab.1 h;injection h with h1 h;injection h with h2 h3;subst h3;exact zbi ih hr k hk
  | tup cs=>
   simp only [toPV] at h;obtain ⟨r,hr,h⟩:=xab.1 h;injection h with h1 h;injection h with h2 h3;subst h3;exact zbi ih hr k hk
  | lm k'=>
   simp only [toPV] at h
   split at h
   ·rename_i hl;injection h with h;injection h with h1 h;injection h with h2 h3;subst h3;simp at hk;subst hk;exact ⟨_,hl,rfl⟩
   ·cases h
  | _=>simp [toPV] at h
theorem ze1 {pre:Prop} (h:toPVs look qs=some (pre,ps,ks)):∀ k ∈ ks,∃ ob,look k=some ob/\ob.freeze.frozen=true:=
 zbi (λhq=>zjt 4 hq) h
theorem ziV (ob:LObj):ob.freeze.freeze=ob.freeze:=by cases ob<;>rfl
theorem zgL (hM:X.MOk) (look0:Nat->Option LObj) (C0:Ctx):∀ (ks:List Nat) (s:St) (C:Ctx),RelC X C s.get s.look tr stop a w->C.cur=C0.cur->C.ρ=C0.ρ->(∀ b,C0.B b->C.B b) ->
  (∀ k,s.look k=look0 k\/∃ ob,look0 k=some ob/\s.look k=some ob.freeze)->(∀ k ∈ ks,∃ ob,look0 k=some ob/\ob.freeze.frozen=true) ->
  ∃ C',RelC X C' (s.wrs (frzs look0 ks)).get (s.wrs (frzs look0 ks)).look tr stop a w/\(∀ b,C.B b->C'.B b)/\∀ b,zbv C0 look0 ks b->C'.B b
 | [],s,C,h,_,_,_,_,_=>⟨C,h,λ_ h=>h,λb ⟨k,hk,_⟩=>by cases hk⟩
 | k::r,s,C,h,hcur,hρ,hB,hl,hk=>by
  obtain ⟨ob,hob,hfz⟩:=hk k (by simp)
  have hcurk:∃ o1,s.look k=some o1/\o1.freeze=ob.freeze:=by
   rcases hl k with e|⟨ob',e1,e2⟩
   ·exact ⟨ob,by rw [e,hob],rfl⟩
   ·rw [hob] at e1;injection e1 with e1;subst e1;exact ⟨_,e2,ziV _⟩
  obtain ⟨o1,ho1,hf1⟩:=hcurk;have h1:=h.freeze ho1 (by rw [hf1];exact hfz) hM
  have hbk:∀ o2,blk C k o2=blk C0 k o2:=λo2=>by cases o2<;>simp only [blk,hcur,hρ]
  have hbo:blk C k o1=blk C0 k ob:=by rw [<-zcO C k o1,hf1,zcO,hbk]
  have he:(s.wr k ob.freeze).look=upd s.look k (some o1.freeze):=by funext t;simp only [St.look,St.wr,zcF,hf1];rfl
  have hw:s.wrs (frzs look0 (k::r))=(s.wr k ob.freeze).wrs (frzs look0 r):=by simp only [frzs,hob,St.wrs]
  rw [hw];rw [<-he] at h1;obtain ⟨C',e1,e2,e3⟩:=zgL hM look0 C0 r (s.wr k ob.freeze) { C with B:=λb=>C.B b\/blk C k o1=some b } h1 hcur hρ (λb hb=>.inl (hB b hb)) (λj=>by
   rw [he]
   by_cases ej:j=k
   ·subst ej;rw [zk,hf1];exact .inr ⟨ob,hob,rfl⟩
   ·rw [zA _ _ ej];exact hl j) (λj hj=>hk j (by simp [hj]))
  refine ⟨C',e1,λb hb=>e2 b (.inl hb),λb ⟨j,hj,o2,ho2,hb2⟩=>?_⟩
  rcases xaI.1 hj with rfl|hj
  ·rw [hob] at ho2;injection ho2 with ho2;subst ho2;exact e2 b (.inr (by rw [hbo];exact hb2))
  ·exact e3 b ⟨j,hj,o2,ho2,hb2⟩
theorem zlM {d e sz by_ k n sz':Nat} {ys:List PV} {pre:Prop} (hk:l k=some (.row e sz xs false)) (hq:zba l q=some (pre,ys,sz',rd)) :
  zb d l (.app e sz by_) [.row k n,q]=some ((e=e/\sz=sz/\n=xs.length/\pre/\(ys=[]\/sz'=sz)/\oneAll ys=true/\(xs.length+ys.length)*by_<=140737488355328),⟨.row k (xs++ys).length,some (k,.row e sz (xs++ys) false),false,k::rd⟩):=by
 simp only [zb,hk,hq,xcn]
theorem zo1 (h:RelC X C s.get s.look tr stop a w) {e sz by_ k c0 sz':Nat} {x y:AOpd} {xs ys:List PV} {rd:List Nat} {pre:Prop} (hc:zao P oper=some (.app e sz by_,[x,y])) (hcn:zL (zd s [x,y])=true) (hx:(x.ev s).un=.p (.rs a0 xs.length c0)) (hk:s.look k=some (.hrow e sz xs a0 c0))
  (hel:zba s.look (y.ev s).un=some (pre,ys,sz',rd)) (hp:pre) (h1:ys=[]\/sz'=sz) (h2:oneAll ys=true) (h3:(xs.length+ys.length)*by_<=140737488355328) :
  ∃ u w' C',znC P oper a w u w'/\RelC X C' s.get (upd s.look k (some (.row e sz (xs++ys) false))) tr stop a w'/\RepL w' C' (upd s.look k (some (.row e sz (xs++ys) false))) u (.row k (xs++ys).length)/\LV.Sc (upd s.look k (some (.row e sz (xs++ys) false))) (.row k (xs++ys).length):=by
 classical
 have hu:=h.unh hk;have hc0:=(h.obj k _ hk).2
 let E:AOpd->LV:=λz=>if z=x then .row k xs.length else (z.ev s).un
 have hyx:y≠x:=λe=>by rw [e,hx] at hel;simp [zba] at hel
 have hel1:zba (upd s.look k (some (.row e sz xs false))) (y.ev s).un=some (pre,ys,sz',rd):=by
  rw [<-hel];generalize (y.ev s).un=q at hel;cases q with
  | p v=>cases v<;>rfl
  | row j m=>
   have hj:j≠k:=λe=>by subst e;simp [zba,hk] at hel
   simp only [zba,zA _ _ hj]
  | _=>rfl
 have hi:zaL w C (upd s.look k (some (.row e sz xs false))) a [x,y] E:=by
  intro x0 z hz hm;obtain ⟨f1,f2⟩:=zaA h rfl hz;obtain ⟨g1,g2⟩:=zkQ f1 f2 (zf4 hcn _ (xcd hm))
  by_cases e1:z=x
  ·subst e1;simp only [E,if_pos rfl];rw [hx] at g1;have:=ze g1;generalize a.eval x0=xv at this;cases this;exact ⟨zer hc0,.row (zk _ _ _) (xap _)⟩
  ·simp only [E,if_neg e1];obtain ⟨f1,f2⟩:=zaA (s:=s) hu rfl hz;exact zkQ f1 f2 (zf4 hcn _ (xcd hm))
 have he:=zlM (d:=0) (by_:=by_) (n:=xs.length) (zk s.look k (some (LObj.row e sz xs false))) hel1;have hm:[x,y].map E=[.row k xs.length,(y.ev s).un]:=by
  simp only [xaj,xaF,E,if_pos,if_neg hyx]
 rw [<-hm] at he;obtain ⟨u,w',C',e1,e2,e3,e4⟩:=zfv hu hc hi he ⟨rfl,rfl,rfl,hp,h1,h2,h3⟩ (λe=>by cases e)
 have hl:wrL (upd s.look k (some (LObj.row e sz xs false))) (some (k,.row e sz (xs++ys) false))=upd s.look k (some (.row e sz (xs++ys) false)):=by
  funext t;simp only [wrL,upd];split<;>rfl
 simp only [hl] at e2 e3 e4;exact ⟨u,w',C',e1,e2,e3,e4⟩
theorem zcX {ro:Option Nat} {v:LV} {wr:List (Nat × LObj)} (hs:zbW P s o v wr) (hc:zcN P N ops oper=some o) (hN:X.N=N) (hM:X.MOk) (h:RelC X C s.get s.look tr stop a w) {K:Act->World->Prop} {Q:Exit->Act->World->Prop}
  (hK:∀ C' a' w',RelC X C' ((s.wrs wr).set o.dst v).get ((s.wrs wr).set o.dst v).look tr stop a' w'->K a' w') :
  if Region.wanted oper (yielded ops a.tmps) then oper.wpIn (za4 ro) 0 P a w K Q else (∀ f,oper.about P w a.eval=some f->(za4 ro).fn f)/\K (a.put oper.dst undef) w:=by
 have hr:=zas hc;have hdst:∀ k,o.dst=some k->k < X.N:=λk hk=>by rw [hN];exact hr.hdst k (by rw [<-hr.hd];exact hk)
 have hnd:=zaW hr.hc;have hno:∀ (q:LV),o.guard≠none->(∀ C' a' w',RelC X C' (s.set o.dst (fin o.guard false q)).get (s.set o.dst (fin o.guard false q)).look tr stop a' w'->K a' w')->K (a.put oper.dst undef) w:=λq hgd hK'=>by
  refine hK' C _ _ ?_;rw [<-hr.hd];cases hg:o.guard with
  | none=>exact absurd hg hgd
  | some x=>exact zaD h hdst zsL zkP
 have gne:gOf s o.guard=some false->o.guard≠none:=λe1 e2=>by rw [e2] at e1;simp [gOf] at e1
 have hval:∀ {u:Value} {w':World} {C':Ctx} {s':St} {q:LV},znC P oper a w u w'->RelC X C' s'.get s'.look tr stop a w'->RepL w' C' s'.look u q->LV.Sc s'.look q ->
   (∀ C' a' w',RelC X C' (s'.set o.dst (fin o.guard true q)).get (s'.set o.dst (fin o.guard true q)).look tr stop a' w'->K a' w')->oper.wpIn (za4 ro) 0 P a w K Q:=fun {u w' C' s' q} h1 h2 h3 h4 h5=>by
  refine zby hnd h1 ?_;obtain ⟨e1,e2⟩:=zdX (gd:=o.guard) h3 h4;rw [<-hr.hd];exact h5 C' _ _ (zaD h2 hdst e1 e2)
 cases hs with
 | @mv x c ho ha hgo=>
  rw [zO h hr hgo];have hc':=hr.hc;rw [ho,ha] at hc';obtain ⟨x0,x',hop,hl,hx⟩:=zzv hc';injection hl with hl _;subst hl;cases c with
  | false=>exact ⟨λ_ _=>trivial,hno _ (gne hgo) hK⟩
  | true=>
   obtain ⟨e1,e2⟩:=zaA h rfl hx;refine hval (s':=s) (u:=a.eval x0) (.inl ?_) h e1 e2 hK
   rcases hop with hop|hop<;>simp [execOp,hop]
 | @pick x y z c pre v ho ha hgo hp hpre=>
  rw [zO h hr hgo];have hc':=hr.hc;rw [ho,ha] at hc';obtain ⟨x0,y0,z0,hop,hl⟩:=zrP hc';obtain ⟨x',y',z',hl',hx,hy,hz⟩:=zkz hl;injection hl' with e1 hl';injection hl' with e2 hl';injection hl' with e3 _;subst e1;subst e2;subst e3;cases c with
  | false=>exact ⟨λ_ _=>trivial,hno _ (gne hgo) hK⟩
  | true=>
   obtain ⟨hxc,hpre⟩:=hpre rfl;obtain ⟨rx,sx⟩:=zaA h rfl hx;obtain ⟨ry,sy⟩:=zaA h rfl hy;obtain ⟨rz,sz⟩:=zaA h rfl hz;simp only [zlm] at hp
   split at hp
   ·rename_i t u v' ht hu hv;injection hp with hp;injection hp with hp1 hp2;subst hp1;subst hp2;have kx:=(zkQ rx sx hxc).1;rw [ht] at kx;have kx:=ze kx;generalize hxv:a.eval x0=xv at kx;cases kx;refine hval (s':=s) (u:=if t then a.eval y0 else a.eval z0) (.inl ?_) h (.p ?_) (.p _) hK
    ·cases t<;>simp [execOp,hop,hxv,asBool]
    ·cases t with
     | true=>
      have:=(zkQ ry sy (hpre.1 rfl)).1;rw [hu] at this;exact ze this
     | false=>
      have:=(zkQ rz sz (hpre.2 rfl)).1;rw [hv] at this;exact ze this
   ·cases hp
 | @ev c pre eff hgo he hpre hwr hnw=>
  rw [zO h hr hgo];cases c with
  | false=>
   have:eff.wr=none:=by
    cases e:eff.wr with
    | none=>rfl
    | some x=>have:=hwr (by rw [e];rfl);cases this
   rw [this] at hK;exact ⟨λ_ _=>trivial,hno _ (gne hgo) hK⟩
  | true=>
   obtain ⟨hcn,hpre⟩:=hpre rfl;have he':zb (o.dst.getD 0) s.look o.op (o.args.map λy=>(y.ev s).un)=some (pre,eff):=by
    have:uns (zd s o.args)=o.args.map λy=>(y.ev s).un:=by simp [uns,zd]
    rw [<-this];exact he
   obtain ⟨u,w',C',e1,e2,e3,e4⟩:=zfv h hr.hc (za2 h rfl hcn) he' hpre hnw;have hl:=zmV s eff.wr;rw [<-hl] at e2 e3 e4;have hg:=zcA eff.wr.toList s;rw [<-hg] at e2;exact hval e1 e2 e3 e4 hK
 | @callA c f pre vs ks r ho hgo ht hpre hfl=>
  rw [zO h hr hgo];cases c with
  | false=>exact ⟨λ_ _=>trivial,hno _ (gne hgo) hK⟩
  | true=>
   obtain ⟨hcn,hpre,hcall,hpure⟩:=hpre rfl;have hc':=hr.hc;rw [ho] at hc';obtain ⟨args,ts,hop,hl⟩:=zeP hc';have hins:=za2 h rfl hcn;have hrs:=zbq hl (λ_ h=>h) hins
   have e0:o.args.map (λy=>(y.ev s).un)=uns (zd s o.args):=by simp [uns,zd]
   rw [e0] at hrs;have hreps:=zbm h hrs ht hpre;refine zeh hop hcall (Calls.mono (hpure w _ _ (λb hb=>?_) hreps) ?_)
   ·rcases hb with hb|⟨k,hk,ob,h1,h2⟩
    ·exact h.blt b hb
    ·exact (h.sep k ob b h1 h2).2.1
   ·rintro e w' ⟨u,rfl,hbel,hu⟩;refine ⟨u,rfl,?_⟩;rw [<-hr.hd]
    rcases hfl with hfl|hfl
    ·have h2:=h.grow hbel C.B (λ_ h=>h) (λb hb=>.inl hb)
     obtain ⟨e1,e2⟩:=zdX (gd:=o.guard) (RepL.p (C:=C) (l:=s.look) (ziX (B':=C.B) (w':=w') hu hfl)) (LV.Sc.p (l:=s.look) r);exact hK _ _ _ (zaD h2 hdst e1 e2)
    ·subst hfl;have h2:=h.grow hbel (λb=>C.B b\/(w.heap.size<=b/\b < w'.heap.size)) (λ_ h=>.inl h) (λb hb=>hb)
     have hu':Rep w' (λb=>C.B b\/(w.heap.size<=b/\b < w'.heap.size)) u r:=hu.mono (λb hb=>hb.elim (λhb=>hb.elim .inl (λ⟨k,hk,_⟩=>by cases hk)) .inr) (λ_ _=>rfl)
     obtain ⟨e1,e2⟩:=zdX (gd:=o.guard) (RepL.p (C:={ C with B:=λb=>C.B b\/(w.heap.size<=b/\b < w'.heap.size) }) (l:=s.look) hu') (LV.Sc.p (l:=s.look) r)
     exact hK _ _ _ (zaD h2 hdst e1 e2)
 | @callB f pre vs ks r ho hgo ht hcn hpre hcp=>
  rw [zO h hr hgo];obtain ⟨hcall,hpure⟩:=hcp;have hc':=hr.hc;rw [ho] at hc';obtain ⟨args,ts,hop,hl⟩:=zeP hc';have hins:=za2 h rfl hcn;have hrs:=zbq hl (λ_ h=>h) hins
  have e0:o.args.map (λy=>(y.ev s).un)=uns (zd s o.args):=by simp [uns,zd]
  rw [e0] at hrs;have hreps:=zbm h hrs ht hpre;obtain ⟨C',f1,f2,f3⟩:=zgL hM s.look C ks s C h rfl rfl (λ_ h=>h) (λ_=>.inl rfl) (ze1 ht)
  have hreps':Reps w C'.B _ vs:=hreps.mono (λb hb=>hb.elim (f2 b) (f3 b)) (λ_ _=>rfl)
  refine zeh hop hcall (Calls.mono (hpure w _ _ (λb hb=>f1.blt b hb) hreps') ?_)
  rintro e w' ⟨u,rfl,hbel,hu⟩;refine ⟨u,rfl,?_⟩;rw [<-hr.hd];have h2:=f1.grow hbel (λb=>C'.B b\/(w.heap.size<=b/\b < w'.heap.size)) (λ_ h=>.inl h) (λb hb=>hb)
  obtain ⟨e1,e2⟩:=zdX (gd:=o.guard) (RepL.p (C:={ C' with B:=λb=>C'.B b\/(w.heap.size<=b/\b < w'.heap.size) }) (l:=(s.wrs (frzs s.look ks)).look) hu) (LV.Sc.p (l:=(s.wrs (frzs s.look ks)).look) r)
  exact hK _ _ _ (zaD h2 hdst e1 e2)
 | @callH f k e sz c0 pre vs0 vs xs ks a0 r ho hg ht hcn hpre hk hm hcp hfl=>
  have hgo:gOf s o.guard=some true:=by rw [hg];rfl
  rw [zO h hr hgo];obtain ⟨hcall,hpure⟩:=hcp;have hc':=hr.hc;rw [ho] at hc';obtain ⟨args,ts,hop,hl⟩:=zeP hc';have hins:=za2 h rfl hcn;have hrs:=zbq hl (λ_ h=>h) hins
  have e0:o.args.map (λy=>(y.ev s).un)=uns (zd s o.args):=by simp [uns,zd]
  rw [e0] at hrs;have hreps:=zbm h hrs ht hpre;have hrow:=zhH h hk
  let Bz:Nat->Prop:=λb=>(C.B b\/zbv C s.look ks b)\/blk C k (.hrow e sz xs a0 c0)=some b
  have hreps2:Reps w Bz _ vs:=⟨hreps.1.trans (zgA hm).symm,λj v p hv hpj=>by
   obtain ⟨q,g1,g2⟩:=ziu hm j p hpj;exact ziv (B:=Bz) (hrow.mono (λb hb=>hb.elim (λhb=>.inl (.inl hb)) .inr) λ_ _=>rfl) g2 ((hreps.2 j v q hv g1).mono (λ_ hb=>.inl hb) λ_ _=>rfl)⟩
  refine zeh hop hcall (Calls.mono (hpure w Bz _ (λb hb=>?_) hreps2) ?_)
  ·rcases hb with (hb|⟨k2,_,ob,h1,h2⟩)|hb
   ·exact h.blt b hb
   ·exact (h.sep k2 ob b h1 h2).2.1
   ·exact (h.sep k _ b hk hb).2.1
  ·rintro ex w' ⟨u,rfl,hbel,hu⟩;refine ⟨u,rfl,?_⟩;rw [<-hr.hd];have h2:=h.grow hbel C.B (λ_ h=>h) (λb hb=>.inl hb)
   have hsame:(s.wrs [(k,.hrow e sz xs a0 c0)]).look=s.look:=by
    funext t
    show zm (zjU s.obj k _) t=_;rw [zcF]
    by_cases et:t=k
    ·subst et;rw [zk];exact hk.symm
    ·rw [zA _ _ et];rfl
   have hgs:(s.wrs [(k,.hrow e sz xs a0 c0)]).get=s.get:=zcA _ _;exact hK _ _ _ (zaD (s:=s.wrs [(k,.hrow e sz xs a0 c0)]) (by rw [hsame,hgs];exact h2) hdst (.p (ziX (B':=C.B) hu hfl)) (.p r))
 | @appH e sz by_ k c0 sz' x y a0 xs ys rd pre ho ha hg hcn hx hk hel hpre h1 h2 h3=>
  have hgo:gOf s o.guard=some true:=by rw [hg];rfl
  rw [zO h hr hgo];have hc':=hr.hc;rw [ho,ha] at hc';rw [ha] at hcn;obtain ⟨u,w',C',e1,e2,e3,e4⟩:=zo1 h hc' hcn hx hk hel hpre h1 h2 h3;have hsame:(s.wrs [(k,.row e sz (xs++ys) false)]).look=upd s.look k (some (.row e sz (xs++ys) false)):=by
   funext t
   show zm (zjU s.obj k _) t=_;rw [zcF];rfl
  have hgs:(s.wrs [(k,.row e sz (xs++ys) false)]).get=s.get:=zcA _ _;refine hval (s':=s.wrs [(k,.row e sz (xs++ys) false)]) (q:=.row k (xs++ys).length) e1 (by rw [hsame,hgs];exact e2) (by rw [hsame];exact e3) (by rw [hsame];exact e4) ?_
  rw [hg];exact hK
 | @callN q hgo=>
  rw [zO h hr hgo];exact ⟨λ_ _=>trivial,hno _ (gne hgo) hK⟩
 | @callS f m args0 obj obj' r ho hgo ha hcn hA hl=>
  rw [zO h hr hgo];have hc':=hr.hc;rw [ho] at hc';obtain ⟨args,ts,hop,hl0⟩:=zeP hc';have hrs:=zbq hl0 (λ_ h=>h) (za2 h rfl hcn)
  have e0:o.args.map (λy=>(y.ev s).un)=uns (zd s o.args):=by simp [uns,zd]
  rw [e0,ha] at hrs;refine zeh hop hA.1 (Calls.mono (zkB hM h hA hl hrs) ?_);rintro e w' ⟨u,C1,rfl,h1,h2,h3⟩;refine ⟨u,rfl,?_⟩;rw [<-hr.hd];obtain ⟨e1,e2⟩:=zdX (gd:=o.guard) h2 h3;exact hK _ _ _ (zaD h1 hdst e1 e2)
 | @callSV f m fs cs vs args0 obj obj' r ho hgo ha ha2 hcn hA hl=>
  rw [zO h hr hgo];have hc':=hr.hc;rw [ho] at hc';obtain ⟨t,args,ts,hop,hl0⟩:=zdL hc';have hrs:=zbq hl0 (λ_ h=>h) (za2 h rfl hcn)
  have e0:o.args.map (λy=>(y.ev s).un)=uns (zd s o.args):=by simp [uns,zd]
  rw [e0,ha,xaj] at hrs;obtain ⟨hf1,hf2⟩:=hrs.2 0 _ _ rfl rfl;obtain ⟨fa,ca,hfe,hfa,hca⟩:=zk1 hf1 hf2;have hrest:RepsL w C s.look (args.toList.map a.eval) vs:=⟨by simpa using hrs.1,λj v q hv hq=>hrs.2 (j+1) v q (by simpa using hv) (by simpa using hq)⟩
  have hall:=(hfa.append hrest).append hca;rw [ha2] at hall;refine zeZ hop hfe hA.1 (Calls.mono (zkB hM h hA hl hall) ?_);rintro e w' ⟨u,C1,rfl,h1,h2,h3⟩;refine ⟨u,rfl,?_⟩;rw [<-hr.hd];obtain ⟨e1,e2⟩:=zdX (gd:=o.guard) h2 h3;exact hK _ _ _ (zaD h1 hdst e1 e2)
 | @callV c f pre fs cs vs ks r ho hgo ht hpre hfl=>
  rw [zO h hr hgo];cases c with
  | false=>exact ⟨λ_ _=>trivial,hno _ (gne hgo) hK⟩
  | true=>
   obtain ⟨hcn,hpre,hcall,hpure⟩:=hpre rfl;have hc':=hr.hc;rw [ho] at hc';obtain ⟨t,args,ts,hop,hl⟩:=zdL hc';have hins:=za2 h rfl hcn;have hrs:=zbq hl (λ_ h=>h) hins
   have e0:o.args.map (λy=>(y.ev s).un)=uns (zd s o.args):=by simp [uns,zd]
   rw [e0] at hrs;have hreps:=zbm h hrs ht hpre;rw [xaj] at hreps;obtain ⟨fv,us,he,hfv,hus⟩:=hreps.cons_inv;injection he with he1 he2;subst he1;subst he2;obtain ⟨fa,ca,hfe,hfa,hca⟩:=zp7 hfv;refine zeZ hop hfe hcall (Calls.mono (hpure w _ _ (λb hb=>?_) ((hfa.append hus).append hca)) ?_)
   ·rcases hb with hb|⟨k,hk,ob,h1,h2⟩
    ·exact h.blt b hb
    ·exact (h.sep k ob b h1 h2).2.1
   ·rintro e w' ⟨u,rfl,hbel,hu⟩;refine ⟨u,rfl,?_⟩;rw [<-hr.hd]
    rcases hfl with hfl|hfl
    ·have h2:=h.grow hbel C.B (λ_ h=>h) (λb hb=>.inl hb)
     obtain ⟨e1,e2⟩:=zdX (gd:=o.guard) (RepL.p (C:=C) (l:=s.look) (ziX (B':=C.B) (w':=w') hu hfl)) (LV.Sc.p (l:=s.look) r);exact hK _ _ _ (zaD h2 hdst e1 e2)
    ·subst hfl;have h2:=h.grow hbel (λb=>C.B b\/(w.heap.size<=b/\b < w'.heap.size)) (λ_ h=>.inl h) (λb hb=>hb)
     have hu':Rep w' (λb=>C.B b\/(w.heap.size<=b/\b < w'.heap.size)) u r:=hu.mono (λb hb=>hb.elim (λhb=>hb.elim .inl (λ⟨k,hk,_⟩=>by cases hk)) .inr) (λ_ _=>rfl)
     obtain ⟨e1,e2⟩:=zdX (gd:=o.guard) (RepL.p (C:={ C with B:=λb=>C.B b\/(w.heap.size<=b/\b < w'.heap.size) }) (l:=s.look) hu') (LV.Sc.p (l:=s.look) r)
     exact hK _ _ _ (zaD h2 hdst e1 e2)
 | @callVB f pre fs cs vs ks r ho hgo ht hcn hpre hcp=>
  rw [zO h hr hgo];obtain ⟨hcall,hpure⟩:=hcp;have hc':=hr.hc;rw [ho] at hc';obtain ⟨t,args,ts,hop,hl⟩:=zdL hc';have hins:=za2 h rfl hcn;have hrs:=zbq hl (λ_ h=>h) hins
  have e0:o.args.map (λy=>(y.ev s).un)=uns (zd s o.args):=by simp [uns,zd]
  rw [e0] at hrs;have hreps:=zbm h hrs ht hpre;obtain ⟨C',f1,f2,f3⟩:=zgL hM s.look C ks s C h rfl rfl (λ_ h=>h) (λ_=>.inl rfl) (ze1 ht)
  have hreps':Reps w C'.B _ (.fn (.func f) fs cs::vs):=hreps.mono (λb hb=>hb.elim (f2 b) (f3 b)) (λ_ _=>rfl)
  rw [xaj] at hreps';obtain ⟨fv,us,he,hfv,hus⟩:=hreps'.cons_inv;injection he with he1 he2;subst he1;subst he2;obtain ⟨fa,ca,hfe,hfa,hca⟩:=zp7 hfv;refine zeZ hop hfe hcall (Calls.mono (hpure w _ _ (λb hb=>f1.blt b hb) ((hfa.append hus).append hca)) ?_)
  rintro e w' ⟨u,rfl,hbel,hu⟩;refine ⟨u,rfl,?_⟩;rw [<-hr.hd];have h2:=f1.grow hbel (λb=>C'.B b\/(w.heap.size<=b/\b < w'.heap.size)) (λ_ h=>.inl h) (λb hb=>hb)
  obtain ⟨e1,e2⟩:=zdX (gd:=o.guard) (RepL.p (C:={ C' with B:=λb=>C'.B b\/(w.heap.size<=b/\b < w'.heap.size) }) (l:=(s.wrs (frzs s.look ks)).look) hu) (LV.Sc.p (l:=(s.wrs (frzs s.look ks)).look) r)
  exact hK _ _ _ (zaD h2 hdst e1 e2)
end
def YOp (ts:List (List PV)) (s:St) (o:RO) (t:List PV) (ks:List Nat):Prop:=
 o.op=.callv/\gOf s o.guard=some true/\∃ fa rest pre,o.args=fa::rest/\((fa.ev s).un=.yield/\(fa.ev s).cnd=true)/\toPVs s.look (uns (zd s rest))=some (pre,t,ks)/\zL (zd s rest)=true/\pre/\s.stop=false/\∃ post,ts=s.tr++t::post
def ySt (s:St) (o:RO) (t:List PV) (ks:List Nat) (b:Bool):St:=
 St.set { env:=s.env,obj:=(s.wrs (frzs s.look ks)).obj,tr:=s.tr++[t],stop:=!b } o.dst (fin o.guard true (.p (.b b)))
section
variable {X:Fx} {C:Ctx} {g:Nat->LV} {look:Nat->Option LObj} {tr tr':List (List PV)} {stop stop':Bool} {a:Act} {w w':World} {P:Program} {N:Nat} {ops:Array Oper} {oper:Oper} {o:RO} {s:St}
theorem RelC.yielded {D' O':Nat->Prop} (h:RelC X C g look tr stop a w) (hr:Rnd C.dep C.own C.B D' O' w w') (hj:if stop'=true then X.Jx tr' D' w' else X.J tr' D' O' w') :
  RelC X { C with dep:=D',own:=O',n:=w'.heap.size } g look tr' stop' a w':=by
 have hsz:=hr.kx.size;have hB:∀ b,C.B b->w'.heap[b]?=w.heap[b]?:=λb hb=>hr.kx.block b (h.blt b hb) λho=>(h.ow b ho).1 hb
 have hblk:∀ k o,blk { C with dep:=D',own:=O',n:=w'.heap.size } k o=blk C k o:=λk o=>by cases o<;>rfl
 have hobj:∀ k o b,look k=some o->blk C k o=some b->w'.heap[b]?=w.heap[b]?:=λk o b hk hb=>by
  obtain ⟨h1,h2,h3,h4⟩:=h.sep k o b hk hb;cases hf:o.frozen with
  | true=>exact hB b (h4 hf)
  | false=>exact hr.kx.block b h2 λho=>h.nn k o b hk hb hf (h.ow b ho).2
 have hnD:∀ b,b < w.heap.size->¬C.B b->¬C.dep b->¬D' b:=λb h1 h2 h3 hd=>(hr.d1 b hd).elim h3 λe=>e.elim (λe=>by omega) h2
 have hrow:∀ k e sz xs fz,look k=some (.row e sz xs fz)->∃ xs' fz',look k=some (.row e sz xs' fz')/\(xs'.length=xs.length->C.cur k=C.cur k)/\xs.length<=xs'.length:=λk e sz xs fz hk=>⟨xs,fz,hk,λ_=>rfl,xap _⟩
 exact {
  kx:=⟨hr.kx.os.trans h.kx.os,hr.kx.tape.trans h.kx.tape,hr.kx.output.trans h.kx.output,xa0 h.kx.size hsz,λk hk hm=>(hr.kx.block k (xaJ hk h.kx.size) λho=>(h.oold k ho).elim (λe=>by omega) λe=>hm (.inr e)).trans (h.kx.block k hk hm)⟩
  yy:=h.yy
  b0:=h.b0
  blt:=λb hb=>xaJ (h.blt b hb) hsz
  bold:=h.bold
  borg:=h.borg
  no0:=h.no0
  tsz:=h.tsz
  ngb:=h.ngb
  env:=λt=>RepL.same (C:=C) (C':={ C with dep:=D',own:=O',n:=w'.heap.size }) (λ_ h=>h) rfl hB (λ_ _ _=>rfl) hrow (h.envs t) (h.env t)
  envs:=h.envs
  obj:=λk o hk=>ObjRel.same (C:=C) (C':={ C with dep:=D',own:=O',n:=w'.heap.size }) (λ_ h=>h) rfl hB (λ_ _ _=>rfl) hrow hk (h.objs k o hk) rfl (λb hb=>hobj k o b hk hb) (h.obj k o hk)
  objs:=h.objs
  sep:=λk o b hk hb=>by
   rw [hblk] at hb;obtain ⟨h1,h2,h3,h4⟩:=h.sep k o b hk hb;exact ⟨h1,xaJ h2 hsz,h3,h4⟩
  dis:=λk k' o o' b hne hk hk' hb hb'=>h.dis k k' o o' b hne hk hk' (by rw [hblk] at hb;exact hb) (by rw [hblk] at hb';exact hb')
  marks:=h.marks.same λr hlt hno hnb hnd hob=>⟨hr.kx.block r hlt λho=>hnd (h.ow r ho).2,hnb,hnD r hlt hnb hnd,λk o hk=>by rw [hblk];exact hob k o hk⟩
  nle:=xap _
  dn:=hr.d2
  nn:=λk o b hk hb hf=>by
   rw [hblk] at hb;obtain ⟨h1,h2,h3,h4⟩:=h.sep k o b hk hb;exact hnD b h2 (h3 hf) (h.nn k o b hk hb hf)
  ow:=λb hb=>⟨λhbb=>(hr.o1 b hb).elim (λe=>(h.ow b e).1 hbb) λe=>by have:=h.blt b hbb;omega,hr.o2 b hb⟩
  oold:=λb hb=>(hr.o1 b hb).elim (h.oold b) λe=>.inl (xa0 h.kx.size e)
  dold:=λb hd=>(hr.d1 b hd).elim (h.dold b) λe=>e.elim (λe=>.inr (.inl (xa0 h.kx.size e))) λe=>.inr (.inr e)
  jj:=.inr ⟨w',hj,Kept.refl _ _⟩ }
theorem zgc {ro : Option Nat} {t : List PV} (hs : YOp ts s o t ks) (hc : zcN P N ops oper = some o) (hN : X.N = N) (hM : X.MOk) (hy : zeU P X ts) (hj : zdu X.J X.Jx) (h : RelC X C s.get s.look s.tr s.stop a w)
    {K : Act -> World -> Prop} {Q : Exit -> Act -> World -> Prop}
    (hK : ∀ b C' a' w', RelC X C' (ySt s o t ks b).get (ySt s o t ks b).look (s.tr ++ [t]) (!b) a' w' -> K a' w') :
    if Region.wanted oper (yielded ops a.tmps) then oper.wpIn (za4 ro) 0 P a w K Q else (∀ f, oper.about P w a.eval = some f -> (za4 ro).fn f) /\ K (a.put oper.dst undef) w := by
  obtain ⟨ho, hgo, fa, rest, pre, ha, hfa, ht, hcn, hpre, hst, post, hts⟩ := hs;have hr := zas hc;have hdst : ∀ k, o.dst = some k -> k < X.N := λk hk => by rw [hN]; exact hr.hdst k (by rw [<- hr.hd]; exact hk)
  rw [zO h hr hgo, if_pos rfl];have hc' := hr.hc;rw [ho, ha] at hc';obtain ⟨tt, args, tys, hop, hl⟩ := zdL hc';have hl' := hl;simp only [zap] at hl'
  split at hl'
  case h_2 => cases hl'
  rename_i y0 ys0 hy0 hys0;injection hl' with hl'; injection hl' with e1 e2; subst e1; subst e2;have hfv0' := zaA h rfl hy0;have hfv := (zkQ hfv0'.1 hfv0'.2 hfa.2).1;rw [hfa.1] at hfv;generalize hfv0 : a.eval (.tmp tt) = fv at hfv;cases hfv;have hins : zaL w C s.look a ys0 λy => (y.ev s).un := za2 h rfl hcn
  have hrs := zbq hys0 (λ_ h => h) hins
  have e0 : ys0.map (λy => (y.ev s).un) = uns (zd s ys0) := by simp [uns, zd]
  rw [e0] at hrs;have hreps := zbm h hrs ht hpre;obtain ⟨C', f1, f2, f3⟩ := zgL hM s.look C ks s C h rfl rfl (λ_ h => h) (λ_ => .inl rfl) (ze1 ht)
  have hreps' : Reps w C'.B _ t := hreps.mono (λb hb => hb.elim (f2 b) (f3 b)) (λ_ _ => rfl)
  have hyy : C.y = X.y := h.yy;have hJ : X.J s.tr C'.dep C'.own w := by
    rcases f1.jj with hX | ⟨wy, h1, h2⟩
    · exact (hX _ _ _ _).1
    · rw [hst] at h1
      exact hj.j _ _ _ _ _ h1 h2
  obtain ⟨fn, tmps, assign, body, hrun, hround⟩ := hy s.tr t post C'.dep C'.own w C'.B (args.toList.map a.eval) hts hJ (λb hb => ⟨f1.blt b hb, λhbo => (f1.ow b hbo).1 hb, f1.borg b hb⟩) hreps'
  refine ⟨λf _ => trivial, ?_⟩
  rw [Oper.semAt_eq _ _ _ (by intro c; rw [hop]; exact λe => by cases e)]
  have hrun2 : (execOp a.eval oper).run P w = .ok (.round X.y fn tmps assign body) w := by
    have ha2 : args.map a.eval = (args.toList.map a.eval).toArray := by rw [<- Array.toList_map]
    simp only [execOp, hop, resolve, hfv0, Deferred.ofValue, Sem.run_bind, Sem.run_pure, Result.andThen_ok, invoke, ha2, hyy];simpa using hrun
  rw [hrun2];refine ⟨λh => by simp [za4, Fence.wide] at h, ?_⟩
  have h5 := RoundIn.mono hround (R' := fun
      | .returned v, w'' => K (a.put oper.dst v) w''
      | .panicked chain, w'' => Q (.panic chain) a w''
      | .outgrown, _ => LetsOut Q) ?_
  · exact h5
  rintro e w' ⟨bb, rfl, hbb⟩;show K (a.put oper.dst (.bool bb)) w';have key : ∀ D' O', Rnd C'.dep C'.own C'.B D' O' w w' -> (if (!bb) = true then X.Jx (s.tr ++ [t]) D' w' else X.J (s.tr ++ [t]) D' O' w') -> K (a.put oper.dst (.bool bb)) w' := λD' O' h1 h2 => by
    have h3 := f1.yielded (stop' := !bb) (tr' := s.tr ++ [t]) h1 h2;refine hK bb { C' with dep := D', own := O', n := w'.heap.size } _ _ ?_;rw [<- hr.hd]
    let s1 : St := { env := s.env, obj := (s.wrs (frzs s.look ks)).obj, tr := s.tr ++ [t], stop := !bb }
    have hg1 : s1.get = (s.wrs (frzs s.look ks)).get := by rw [zcA]; rfl
    have hl1 : s1.look = (s.wrs (frzs s.look ks)).look := rfl;rw [<- hg1, <- hl1] at h3;obtain ⟨e1, e2⟩ := zdX (gd := o.guard) (RepL.p (C := { C' with dep := D', own := O', n := w'.heap.size }) (l := s1.look) (Rep.b (w := w') (B := C'.B) bb)) (LV.Sc.p (l := s1.look) (.b bb));exact zaD h3 hdst e1 e2
  cases bb with
  | true => rw [if_pos rfl] at hbb; obtain ⟨D', O', h1, h2⟩ := hbb; exact key D' O' h2 h1
  | false => rw [if_neg (by simp)] at hbb; obtain ⟨D', h1, h2⟩ := hbb; exact key D' _ h2 h1
end
theorem zoR {l:List AOpd} (h:zao P oper=some (.isnil ng,l)):∃ t x y t' x' e,oper.op=.binOp (if ng then .neq else .eql) t x y t'/\P.underlying t=some (.slice e)/\zcw x=some x'/\zcw y=some (.c .nilsl)/\l=[x']:=by
 unfold zao at h
 split at h
 case h_11 op t x y t' ho=>
  split at h
  ·split at h
   all_goals try (cases h;done)
   ·split at h
    ·cases h
    ·split at h<;>cases h
   ·rename_i e hu
    split at h
    ·rename_i x' hx hy
     split at h
     ·rename_i hop;injection h with h;injection h with h1 h2;injection h1 with h1;subst h1;subst h2;subst hop;exact ⟨t,x,y,t',x',e,by simpa using ho,hu,hx,hy,rfl⟩
     ·split at h
      ·rename_i hop;injection h with h;injection h with h1 h2;injection h1 with h1;subst h1;subst h2;subst hop;exact ⟨t,x,y,t',x',e,by simpa using ho,hu,hx,hy,rfl⟩
      ·cases h
    ·cases h
   all_goals
    split at h
    ·split at h
     ·split at h
      ·cases h
      ·split at h<;>cases h
     ·cases h
    ·cases h
  ·cases h
 all_goals
  exfalso
  revert h
  (repeat' split)<;>simp [xao,xab]
  try (intro q _ h;revert h;split<;>simp)
theorem zh9 (h:RepL w C l v (.row k n)):∀ e sz xs fz,l k=some (.row e sz xs fz)->xs.length=n->v=C.cur k:=by cases h;assumption
def zzX (look:Nat->Option LObj):LV->Option (Bool->Prop)
 | .p .nilsl=>some λb=>b=true
 | .p (.sl _ xs)=>some λb=>b=true->xs=[]
 | .row k n=>match look k with
  | some (.row _ _ xs _)=>if n=xs.length then some (λb=>b=true->xs=[]) else none
  | _=>none
 | _=>none
section
variable {X:Fx} {C:Ctx} {tr:List (List PV)} {stop:Bool} {a:Act} {w:World} {P:Program} {s:St} {o:RO} {oper:Oper} {ops:Array Oper} {N:Nat}
theorem zlp (h:RelC X C s.get s.look tr stop a w) (hr:RepL w C s.look v q) (hn:zzX s.look q=some R):∃ ad n c,v=.slice ad n c/\R ad.isNone:=by
 unfold zzX at hn
 split at hn
 ·injection hn with hn;subst hn;have:=ze hr;cases this;exact ⟨none,0,0,rfl,rfl⟩
 ·injection hn with hn;subst hn;have:=ze hr;cases this
  ·exact ⟨none,0,0,rfl,λ_=>rfl⟩
  ·exact ⟨some _,_,_,rfl,λe=>by simp at e⟩
  ·exact ⟨some _,_,_,rfl,λe=>by simp at e⟩
 ·split at hn
  ·rename_i k n _ e sz xs fz hk
   split at hn
   ·rename_i hlen;injection hn with hn;subst hn;have hv:=zh9 hr e sz xs fz hk hlen.symm;obtain ⟨us,how,_⟩:=h.obj k _ hk
    rcases how.2 with ⟨f1,f2⟩|⟨gb,cap,cur,f1,_⟩
    ·exact ⟨none,0,0,by rw [hv,f1],λ_=>xay (by simpa using f2)⟩
    ·exact ⟨_,_,_,by rw [hv,f1],λe=>by simp at e⟩
   ·cases hn
  ·cases hn
 ·cases hn
theorem zoo {op:BinOp} {e:TypeId} {ad:Option Addr} {c:Nat} (ho:oper.op=.binOp op t x y t') (ht:P.underlying t=some (.slice e)) (hx:a.eval x=.slice ad n c) (hy:a.eval y=.slice none 0 0) (ng:Bool) (hop:op=if ng then .neq else .eql) :
  (execOp a.eval oper).run P w=.ok (.value (.bool (if ng then !ad.isNone else ad.isNone))) w:=by
 have hgd:(eqGuard op t x y (.slice ad n c) (.slice none 0 0)).run P w=.ok () w:=zc5 rfl;have he:=Lib.run_equalIn_slice_nil w 9999 t e ad n c 0 0 ht;subst hop;cases ng with
 | false=>
  simp only [xaD,if_false] at hgd ho ⊢;simp only [execOp,ho,hx,hy,Sem.run_bind,hgd,Result.andThen_ok,binOp,Op.equal,Op.maxDepth,he,Sem.run_pure]
 | true=>
  simp only [if_true] at hgd ho ⊢;simp only [execOp,ho,hx,hy,Sem.run_bind,hgd,Result.andThen_ok,binOp,Op.equal,Op.maxDepth,he,Sem.run_pure]
def zCE (s:St) (o:RO) (ng:Bool) (R:Bool->Prop):Prop:=∃ x,o.op=.isnil ng/\o.args=[x]/\o.guard=none/\zzX s.look (x.ev s)=some R
theorem zgJ {ro:Option Nat} (hs:zCE s o ng R) (hc:zcN P N ops oper=some o) (hN:X.N=N) (h:RelC X C s.get s.look tr stop a w) {K:Act->World->Prop} {Q:Exit->Act->World->Prop}
  (hK:∀ b,R b->∀ C' a' w',RelC X C' (s.set o.dst (.p (.b (if ng then !b else b)))).get (s.set o.dst (.p (.b (if ng then !b else b)))).look tr stop a' w'->K a' w') :
  if Region.wanted oper (yielded ops a.tmps) then oper.wpIn (za4 ro) 0 P a w K Q else (∀ f,oper.about P w a.eval=some f->(za4 ro).fn f)/\K (a.put oper.dst undef) w:=by
 obtain ⟨x,ho,ha,hg,hn⟩:=hs;have hr:=zas hc;have hdst:∀ k,o.dst=some k->k < X.N:=λk hk=>by rw [hN];exact hr.hdst k (by rw [<-hr.hd];exact hk)
 have hgo:gOf s o.guard=some true:=by rw [hg];rfl
 rw [zO h hr hgo,if_pos rfl];have hc':=hr.hc;rw [ho,ha] at hc';obtain ⟨t,x0,y0,t',x',e,hop,ht,hx,hy,hl⟩:=zoR hc';injection hl with hl _;subst hl;obtain ⟨e1,_⟩:=zaA h rfl hx;obtain ⟨ad,n,c,hv,hR⟩:=zlp h e1 hn;obtain ⟨e2,_⟩:=zaA h rfl hy;have hyv:a.eval y0=.slice none 0 0:=by
  have:=ze (show RepL w C s.look (a.eval y0) (.p .nilsl) from e2)
  generalize a.eval y0=yv at this;cases this;rfl
 refine zby (zaW hr.hc) (.inl (zoo hop ht hv hyv ng rfl)) ?_;rw [<-hr.hd];exact hK _ hR _ _ _ (zaD h hdst (.p (.b _)) (.p _))
end
inductive AExit where
 | normal
 | exit (id:Nat)
 | ret
abbrev zam:=AExit->St->Prop
structure Cfg where
 P:Program
 X:Fx
 ro:Option Nat
 ts:List (List PV)
structure Cfg.Ok (G:Cfg):Prop where
 mok:G.X.MOk
 yok:G.ts=[]\/(zeU G.P G.X G.ts/\zdu G.X.J G.X.Jx)
 lok:∀ l,G.ro=some l->∃ r,(l,Obj.loop r) ∈ G.X.K
def zCB (Q:zam):Exit->St->Prop
 | .normal,s=>Q .normal s
 | .exit id,s=>Q (.exit id) s
 | .ret,s=>Q .ret s
 | _,_=>False
def QQ (G:Cfg) (Q:zam) (e:Exit) (a:Act) (w:World):Prop:=∃ s C,RelC G.X C s.get s.look s.tr s.stop a w/\zCB Q e s
theorem zbB {k:List Item} {c:Code}:step P (lone (b.atR a (.code (.scope c)::k)) cs w)=.next (lone (b.atR a (.code c::.inScope c::k)) cs w):=
 step_lone_go (by simp [stepG,stepG.exec,Frame.atR])
theorem zh3 {k:List Item} {c:Code}:step P (lone (b.atR a (.inScope c::k)) cs w)=.next (lone (b.atR a k) cs w):=
 step_lone_go (by simp [stepG,stepG.exec,Frame.atR])
theorem zd0 {F:Fence} {c:Code} (h:c.wpIn F n P (Exit.noGoto Q) a w):(Code.scope c).wpIn F n P Q a w:=by
 intro b k cs hro hb hr;have h0:(lone (b.atR a (.code (.scope c)::k)) cs w).fenced P F:=fenced_calm hb hr rfl;obtain ⟨e,a₁,w₁,hq,harr⟩:=h b (.inScope c::k) cs hro hb hr;cases e with
 | normal=>exact ⟨.normal,a₁,w₁,hq,.head h0 zbB (StepsIn.trans harr (.one (fenced_calm hb hr rfl) zh3))⟩
 | exit id=>
  have hx:exitTo id (.inScope c::k)=exitTo id k:=by simp [exitTo]
  exact ⟨.exit id,a₁,w₁,hq,λk' hk=>.head h0 zbB (harr.1 k' (by rw [hx];exact hk)),λhr' hk=>let ⟨k₁,h1,h2⟩:=harr.2 hr' (by rw [hx];exact hk);⟨k₁,h1,.head h0 zbB h2⟩⟩
 | goto l=>exact hq.elim
 | ret=>exact ⟨_,a₁,w₁,hq,.of_steps (.one h0 zbB) harr⟩
 | panic ch=>exact ⟨_,a₁,w₁,hq,.of_steps (.one h0 zbB) harr⟩
 | outgrown=>exact ⟨_,a₁,w₁,hq,.of_steps (.one h0 zbB) harr⟩
def Run (G:Cfg) (c:AC) (s:St) (Q:zam):Prop:=
 G.Ok->∀ code,zI G.P G.X.N code=some c->∀ C a w,RelC G.X C s.get s.look s.tr s.stop a w->code.wpIn (za4 G.ro) 0 G.P (QQ G Q) a w
def zK (look:Nat->Option LObj):Nat->LV->List Nat
 | 0,_=>[]
 | m+1,q=>match q with
  | .lp k _=>k::(match look k with|some (.box cs _)=>cs.flatMap (zK look m)|_=>[])
  | .row k _=>[k]
  | .ep k _ _ _=>[k]
  | .it k=>[k]
  | .lm k=>[k]
  | .fn _ a b=>a.flatMap (zK look m)++b.flatMap (zK look m)
  | .agg cs=>cs.flatMap (zK look m)
  | .tup cs=>cs.flatMap (zK look m)
  | _=>[]
def AOpd.tmps:AOpd->List Nat
 | .t n=>[n]
 | .c _=>[]
def gTmp:Option (Nat × Bool)->List Nat
 | some (t,_)=>[t]
 | none=>[]
def rdT (o:RO):List Nat:=gTmp o.guard++o.args.flatMap AOpd.tmps
def rdO (s:St) (o:RO):List Nat:=
 match o.op with
 | .mv|.pick=>[]
 | _=>(uns (zd s o.args)).flatMap (zK s.look 5)
structure Ft where
 wt:List Nat
 rt:List Nat
 wo:List Nat
 ro:List Nat
 af:List Nat
 yl:Bool
variable {acc:List Ft} {K:St->List Ft->Prop}
def zBB (s:St) (o:RO) (wr:List (Nat × LObj)):Ft:=⟨o.dst.toList,rdT o,o.dst.getD 0::wr.map (·.1),rdO s o,o.after,false⟩
def zT (dr:Bool) (acc:List Ft) (s:St) (o:RO) (wr:List (Nat × LObj)):List Ft:=
 match dr with
 | true=>zBB s o wr::acc
 | false=>acc
def accY (dr:Bool) (acc:List Ft) (o:RO):List Ft:=
 match dr with
 | true=>⟨o.dst.toList,rdT o,[],[],o.after,true⟩::acc
 | false=>acc
def zdZ (P:Program) (s:St) (o:RO) (S:St->Prop):Prop:=
 ∀ (X:Fx) (C:Ctx) (a:Act) (w:World) (ops:Array Oper) (oper:Oper) (ro:Option Nat) (K:Act->World->Prop) (Q:Exit->Act->World->Prop),zcN P X.N ops oper=some o->X.MOk->RelC X C s.get s.look s.tr s.stop a w ->
  (∀ s' C' a' w',S s'->RelC X C' s'.get s'.look s'.tr s'.stop a' w'->K a' w') ->
  if Region.wanted oper (yielded ops a.tmps) then oper.wpIn (za4 ro) 0 P a w K Q else (∀ f,oper.about P w a.eval=some f->(za4 ro).fn f)/\K (a.put oper.dst undef) w
def zef (s:St) (S:St->Prop):Prop:=
 ∀ (X:Fx) (C:Ctx) (a:Act) (w:World),X.MOk->RelC X C s.get s.look s.tr s.stop a w->∃ s' C',S s'/\RelC X C' s'.get s'.look s'.tr s'.stop a w
theorem znG {o:RO} {v:LV} {wr:List (Nat × LObj)} (h:zbW P s o v wr):zdZ P s o λs'=>s'=(s.wrs wr).set o.dst v:=
 λX C a w ops oper ro K Q hc hM hr hK=>zcX h hc rfl hM hr λC' a' w' h'=>hK _ C' a' w' rfl (by rw [(zV _ _ _).1,(za8 _ _).1,(zV _ _ _).2,(za8 _ _).2];exact h')
theorem znH {o:RO} {S1:St->Prop} (h:zef s S1) (h1:∀ s1,S1 s1->zdZ P s1 o S):zdZ P s o S:=
 λX C a w ops oper ro K Q hc hM hr hK=>let ⟨s1,C1,g1,g2⟩:=h X C a w hM hr;h1 s1 g1 X C1 a w ops oper ro K Q hc hM g2 hK
def zp (P:Program) (ts:List (List PV)) (dr:Bool) (K:St->List Ft->Prop):List RO->St->List Ft->Prop
 | [],s,acc=>K s acc
 | o::r,s,acc=>(∃ v wr,zbW P s o v wr/\zp P ts dr K r ((s.wrs wr).set o.dst v) (zT dr acc s o wr))\/(∃ t ks,YOp ts s o t ks/\∀ b,zp P ts dr K r (ySt s o t ks b) (accY dr acc o))\/(dr=false/\∃ ng R,zCE s o ng R/\∀ b:Bool,R b->zp P ts dr K r (s.set o.dst (.p (.b (if ng then !b else b)))) acc)\/(dr=false/\∃ S,zdZ P s o S/\∀ s',S s'->zp P ts dr K r s' acc)
theorem znU:zp P ts dr K [] s acc=K s acc:=rfl
def zdm (g:Option (Nat × Bool)) (c:Bool):Option (Prop × LV × Option (Nat × LObj))->Option (Prop × LV × Option (Nat × LObj))
 | some x=>some x
 | none=>match c with
  | true=>none
  | false=>some (True,fin g false (.p (.b false)),none)
theorem zjV {o:RO} {x:Option (Prop × LV × Option (Nat × LObj))} {pre:Prop} {v:LV} (hc:gOf s o.guard=some c) (h:zdm o.guard c x=some (pre,v,wr)):x=some (pre,v,wr)\/zbW P s o v wr.toList:=by
 cases x with
 | some x=>exact .inl h
 | none=>
  cases c with
  | true=>cases h
  | false=>
   simp only [zdm] at h;injection h with h;injection h with h1 h;injection h with h2 h3;subst h2;subst h3;exact .inr (.callN hc)
def zd2 (s:St) (o:RO):Option (Prop × LV × Option (Nat × LObj)):=
 match gOf s o.guard with
 | none=>none
 | some c=>match o.op,o.args with
  | .mv,[x]=>some (True,fin o.guard c (x.ev s),none)
  | .pick,[x,y,z]=>zdm o.guard c ((zlm (x.ev s) (y.ev s) (z.ev s)).map λr=>((c=true->(x.ev s).cnd=true/\r.1),fin o.guard c (.p r.2),none))
  | _,_=>zdm o.guard c ((zb (o.dst.getD 0) s.look o.op (uns (zd s o.args))).map λr=>
    ((c=true->zL (zd s o.args)=true/\r.1)/\(r.2.wr.isSome=true->c=true)/\(r.2.nw=true->s.look (o.dst.getD 0)=none),fin o.guard c r.2.val,r.2.wr))
theorem zgh {o:RO} {pre:Prop} {v:LV} (h:zd2 s o=some (pre,v,wr)) (hp:pre):zbW P s o v wr.toList:=by
 unfold zd2 at h
 split at h
 ·cases h
 ·rename_i c hc
  split at h
  ·rename_i x ho ha;injection h with h;injection h with h1 h;injection h with h2 h3;subst h2;subst h3;exact .mv ho ha hc
  ·rename_i x y z ho ha
   rcases zjV hc h with h|h
   rotate_left
   ·exact h
   obtain ⟨r,hr,h⟩:=xab.1 h;injection h with h1 h;injection h with h2 h3;subst h1;subst h2;subst h3;exact .pick ho ha hc hr hp
  ·rcases zjV hc h with h|h
   rotate_left
   ·exact h
   obtain ⟨r,hr,h⟩:=xab.1 h;injection h with h1 h;injection h with h2 h3;subst h1;subst h2;subst h3;exact .ev hc hr hp.1 hp.2.1 hp.2.2
def zF (dr:Bool) (K:List RO->St->List Ft->Prop):List RO->St->List Ft->Prop
 | [],s,acc=>K [] s acc
 | o::r,s,acc=>match o.op with
  | .call _|.callv|.isnil _|.mit _=>K (o::r) s acc
  | _=>match zd2 s o with
   | some (pre,v,wr)=>pre/\zF dr K r ((s.wrs wr.toList).set o.dst v) (zT dr acc s o wr.toList)
   | none=>False
theorem zw:∀ {l:List RO} {s:St} {acc:List Ft},zF dr (zp P ts dr K) l s acc->zp P ts dr K l s acc
 | [],s,acc,h=>h
 | o::r,s,acc,h=>by
  unfold zF at h;have key:(match zd2 s o with|some (pre,v,wr)=>pre/\zF dr (zp P ts dr K) r ((s.wrs wr.toList).set o.dst v) (zT dr acc s o wr.toList)|none=>False)->zp P ts dr K (o::r) s acc:=λh=>by
   split at h
   ·rename_i pre v wr he;exact .inl ⟨v,wr.toList,zgh he h.1,zw h.2⟩
   ·exact h.elim
  split at h
  ·exact h
  ·exact h
  ·exact h
  ·exact h
  ·exact key h
theorem zjz (l2:List RO):∀ {l:List RO} {s:St} {acc:List Ft},zF dr (λl' s acc=>zp P ts dr K (l'++l2) s acc) l s acc->zp P ts dr K (l++l2) s acc
 | [],s,acc,h=>h
 | o::r,s,acc,h=>by
  unfold zF at h;have key:(match zd2 s o with|some (pre,v,wr)=>pre/\zF dr (λl' s acc=>zp P ts dr K (l'++l2) s acc) r ((s.wrs wr.toList).set o.dst v) (zT dr acc s o wr.toList)|none=>False)->zp P ts dr K (o::r++l2) s acc:=λh=>by
   split at h
   ·rename_i pre v wr he;exact .inl ⟨v,wr.toList,zgh he h.1,zjz l2 h.2⟩
   ·exact h.elim
  split at h
  ·exact h
  ·exact h
  ·exact h
  ·exact h
  ·exact key h
theorem zbP (n:Nat) {l:List RO} (h:zF dr (λl' s acc=>zp P ts dr K (l'++l.drop n) s acc) (l.take n) s acc):zp P ts dr K l s acc:=by
 have:=zjz (l.drop n) h
 rwa [xaq] at this
theorem zp1 {ts:List (List PV)} {dr:Bool} {K:St->List Ft->Prop} {acc:List Ft} {d:Option Nat} {f:Nat} {args:List AOpd} {gd:Option (Nat × Bool)} {af:List Nat} {r:List RO} {s:St} {vs:List PV} {res:PV} (hf:Pure P f vs res) {c:Bool} {pre:Prop} {ks:List Nat}
  (hc:gOf s gd=some c) (ht:toPVs s.look (uns (zd s args))=some (pre,vs,ks)) (hp:c=true->zL (zd s args)=true/\pre) (hfl:res.flat=true\/ks=[])
  (hn:zp P ts dr K r (s.set d (fin gd c (.p res))) (zT dr acc s ⟨d,.call f,args,gd,af⟩ [])):zp P ts dr K (⟨d,.call f,args,gd,af⟩::r) s acc:=
 .inl ⟨_,_,.callA rfl hc ht (λe=>⟨(hp e).1,(hp e).2,hf⟩) hfl,hn⟩
theorem zpZ {ts:List (List PV)} {dr:Bool} {K:St->List Ft->Prop} {acc:List Ft} {d:Option Nat} {f:Nat} {args:List AOpd} {gd:Option (Nat × Bool)} {af:List Nat} {r:List RO} {s:St} {vs:List PV} {res:PV} (hf:c=true->Pure P f vs res) {pre:Prop} {ks:List Nat}
  (hc:gOf s gd=some c) (ht:toPVs s.look (uns (zd s args))=some (pre,vs,ks)) (hp:c=true->zL (zd s args)=true/\pre) (hfl:res.flat=true\/ks=[])
  (hn:zp P ts dr K r (s.set d (fin gd c (.p res))) (zT dr acc s ⟨d,.call f,args,gd,af⟩ [])):zp P ts dr K (⟨d,.call f,args,gd,af⟩::r) s acc:=
 .inl ⟨_,_,.callA rfl hc ht (λe=>⟨(hp e).1,(hp e).2,hf e⟩) hfl,hn⟩
theorem zp0 {ts:List (List PV)} {dr:Bool} {K:St->List Ft->Prop} {acc:List Ft} {d:Option Nat} {f:Nat} {args:List AOpd} {af:List Nat} {r:List RO} {s:St} {vs:List PV} {res:PV} (hf:Pure P f vs res) {pre:Prop} {ks:List Nat}
  (ht:toPVs s.look (uns (zd s args))=some (pre,vs,ks)) (hp:zL (zd s args)=true/\pre)
  (hn:zp P ts dr K r ((s.wrs (frzs s.look ks)).set d (.p res)) (zT dr acc s ⟨d,.call f,args,none,af⟩ (frzs s.look ks))):zp P ts dr K (⟨d,.call f,args,none,af⟩::r) s acc:=
 .inl ⟨_,_,.callB rfl rfl ht hp.1 hp.2 hf,hn⟩
theorem zpY {P:Program} {ts:List (List PV)} {dr:Bool} {K:St->List Ft->Prop} {acc:List Ft} {d:Option Nat} {f:Nat} {args:List AOpd} {gd:Option (Nat × Bool)} {af:List Nat} {r:List RO} {s:St} {fs cs vs:List PV} {res:PV} {c:Bool} {pre:Prop} {ks:List Nat}
  (hc:gOf s gd=some c) (ht:toPVs s.look (uns (zd s args))=some (pre,.fn (.func f) fs cs::vs,ks)) (hp:c=true->zL (zd s args)=true/\pre/\Pure P f (fs++vs++cs) res) (hfl:res.flat=true\/ks=[])
  (hn:zp P ts dr K r (s.set d (fin gd c (.p res))) (zT dr acc s ⟨d,.callv,args,gd,af⟩ [])):zp P ts dr K (⟨d,.callv,args,gd,af⟩::r) s acc:=
 .inl ⟨_,_,.callV rfl hc ht hp hfl,hn⟩
theorem zjB {ts:List (List PV)} {dr:Bool} {K:St->List Ft->Prop} {acc:List Ft} {d:Option Nat} {f:Nat} {args:List AOpd} {af:List Nat} {r:List RO} {s:St} (m:Nat->Nat) {vs:List LV} (hf:zbk P f vs obj res obj')
  (ha:uns (zd s args)=rens m vs) (hp:zL (zd s args)=true) (hl:zsy s m obj obj')
  (hn:zp P ts dr K r ((s.wrs (zdb m obj')).set d (res.ren m)) (zT dr acc s ⟨d,.call f,args,none,af⟩ (zdb m obj'))):zp P ts dr K (⟨d,.call f,args,none,af⟩::r) s acc:=
 .inl ⟨_,_,.callS rfl rfl ha hp hf hl,hn⟩
theorem znS {ts:List (List PV)} {dr:Bool} {K:St->List Ft->Prop} {acc:List Ft} {d:Option Nat} {f:Nat} {args:List AOpd} {af:List Nat} {r:List RO} {s:St} (m:Nat->Nat) {fs cs us vs:List LV} (hf:zbk P f vs obj res obj')
  (hu:uns (zd s args)=.fn (.func f) fs cs::us) (ha:fs++us++cs=rens m vs) (hp:zL (zd s args)=true) (hl:zsy s m obj obj')
  (hn:zp P ts dr K r ((s.wrs (zdb m obj')).set d (res.ren m)) (zT dr acc s ⟨d,.callv,args,none,af⟩ (zdb m obj'))):zp P ts dr K (⟨d,.callv,args,none,af⟩::r) s acc:=
 .inl ⟨_,_,.callSV rfl rfl hu ha hp hf hl,hn⟩
theorem zbn {P:Program} {ts:List (List PV)} {dr:Bool} {K:St->List Ft->Prop} {acc:List Ft} {d:Option Nat} {args:List AOpd} {gd:Option (Nat × Bool)} {af:List Nat} {r:List RO} {s:St} (q:PV)
  (hc:gOf s gd=some false) (hn:zp P ts dr K r (s.set d (fin gd false (.p q))) (zT dr acc s ⟨d,.callv,args,gd,af⟩ [])):zp P ts dr K (⟨d,.callv,args,gd,af⟩::r) s acc:=
 .inl ⟨_,_,.callN hc,hn⟩
theorem ze5 {P:Program} {ts:List (List PV)} {dr:Bool} {K:St->List Ft->Prop} {acc:List Ft} {d:Option Nat} {fa:AOpd} {rest:List AOpd} {gd:Option (Nat × Bool)} {af:List Nat} {r:List RO} {s:St} {t:List PV} {ks:List Nat} {pre:Prop}
  (hc:gOf s gd=some true) (hfa:(fa.ev s).un=.yield/\(fa.ev s).cnd=true) (ht:toPVs s.look (uns (zd s rest))=some (pre,t,ks)) (hp:zL (zd s rest)=true/\pre) (hst:s.stop=false) (post:List (List PV)) (hts:ts=s.tr++t::post)
  (hn:∀ b,zp P ts dr K r (ySt s ⟨d,.callv,fa::rest,gd,af⟩ t ks b) (accY dr acc ⟨d,.callv,fa::rest,gd,af⟩)):zp P ts dr K (⟨d,.callv,fa::rest,gd,af⟩::r) s acc:=
 .inr (.inl ⟨t,ks,⟨rfl,hc,fa,rest,pre,rfl,hfa,ht,hp.1,hp.2,hst,post,hts⟩,hn⟩)
theorem zem {o:RO} {r:List RO} (h:zdZ P s o S) (hn:∀ s',S s'->zp P ts false K r s' acc):zp P ts false K (o::r) s acc:=
 .inr (.inr (.inr ⟨rfl,S,h,hn⟩))
section
variable {G:Cfg} {s:St} {Q:zam}
theorem zdj {ro:Option Nat} {dr:Bool} {K:St->List Ft->Prop} {QX:Exit->Act->World->Prop} {ops:Array Oper} (hM:X.MOk) (hy:ts=[]\/(zeU P X ts/\zdu X.J X.Jx))
  (hK:∀ s acc C a w,K s acc->RelC X C s.get s.look s.tr s.stop a w->QX .normal a w) :
  ∀ {os:List Oper} {l:List RO} {s:St} {acc:List Ft},zbt P X.N ops os=some l->zp P ts dr K l s acc->∀ {C:Ctx} {a:Act} {w:World},RelC X C s.get s.look s.tr s.stop a w->wpListIn (za4 ro) 0 P ops QX os a w
 | [],l,s,acc,hc,hr,C,a,w,h=>by
  simp [zbt] at hc;subst hc;exact hK s acc C a w hr h
 | o::os,l,s,acc,hc,hr,C,a,w,h=>by
  simp only [zbt] at hc
  split at hc
  ·rename_i x xs hx hxs;injection hc with hc;subst hc
   rcases hr with ⟨v,wr,hs,hr⟩|⟨t,ks,hs,hr⟩|⟨_,ng,R,hs,hr⟩|⟨_,S,hs,hr⟩
   ·refine zcX hs hx rfl hM h λC' a' w' h'=>?_
    exact zdj hM hy hK hxs hr (by rw [(zV _ _ _).1,(za8 _ _).1,(zV _ _ _).2,(za8 _ _).2];exact h')
   ·rcases hy with hy|⟨hy,hj⟩
    ·obtain ⟨_,_,_,_,_,_,_,_,_,_,_,post,hts⟩:=hs;rw [hy] at hts;simp at hts
    ·refine zgc hs hx rfl hM hy hj h λb C' a' w' h'=>?_
     refine zdj hM (.inr ⟨hy,hj⟩) hK hxs (hr b) (C:=C') ?_;have e1:(ySt s x t ks b).tr=s.tr++[t]:=(zV _ _ _).1;have e2:(ySt s x t ks b).stop=!b:=(zV _ _ _).2;rw [e1,e2];exact h'
   ·refine zgJ hs hx rfl h λb hb C' a' w' h'=>?_
    exact zdj hM hy hK hxs (hr b hb) (by rw [(zV _ _ _).1,(zV _ _ _).2];exact h')
   ·exact hs X C a w ops o ro _ _ hx hM h λs' C' a' w' g1 g2=>zdj hM hy hK hxs (hr s' g1) g2
  ·cases hc
theorem zen (h:Q .normal s):Run G .skip s Q:=by
 intro hG code hc C a w hr;cases code<;>simp only [zI,xab] at hc<;>first|(exact wpIn_skip ⟨s,C,hr,h⟩)|skip
 all_goals first|(cases hc;done)|(obtain ⟨_,_,hc⟩:=hc;cases hc;done)|(split at hc<;>cases hc;done)
def seqK (G:Cfg) (b:AC) (Q:zam):zam
 | .normal,s=>Run G b s Q
 | e,s=>Q e s
theorem zbC {x y:AC} (h:Run G x s (seqK G y Q)):Run G (.seq x y) s Q:=by
 intro hG code hc C a w hr;cases code<;>simp only [zI,xab] at hc
 case seq c1 c2=>
  split at hc
  ·rename_i x' y' h1 h2;injection hc with hc;injection hc with e1 e2;subst e1;subst e2;refine wpIn_seq (wpIn_mono (h hG c1 h1 C a w hr) ?_);rintro e a' w' ⟨s',C',hr',hq⟩;cases e with
   | normal=>exact hq hG c2 h2 C' a' w' hr'
   | exit id=>exact ⟨s',C',hr',hq⟩
   | ret=>exact ⟨s',C',hr',hq⟩
   | goto l=>exact hq.elim
   | panic c=>exact hq.elim
   | outgrown=>exact hq.elim
  ·cases hc
 all_goals first|(cases hc;done)|(obtain ⟨_,_,hc⟩:=hc;cases hc;done)|(split at hc<;>cases hc;done)
theorem ztn {x y:AC} {c:AOpd} {t:Bool} (ht:c.ev s=.p (.b t)) (h1:t=true->Run G x s Q) (h2:t=false->Run G y s Q):Run G (.cond c x y) s Q:=by
 intro hG code hc C a w hr;cases code<;>simp only [zI,xab] at hc
 case cond c0 c1 c2=>
  split at hc
  ·rename_i c' x' y' hc0 e1 e2;injection hc with hc;injection hc with f0 f1 f2;subst f0;subst f1;subst f2;have hv:=(zaA hr rfl hc0).1;rw [ht] at hv;have hv:=ze hv;generalize hxv:a.eval c0=xv at hv;cases hv;exact wpIn_cond_split hxv (λe=>h1 e hG c1 e1 C a w hr) (λe=>h2 e hG c2 e2 C a w hr)
  ·cases hc
 all_goals first|(cases hc;done)|(obtain ⟨_,_,hc⟩:=hc;cases hc;done)|(split at hc<;>cases hc;done)
def blockK (id:Nat) (Q:zam):zam
 | .normal,s=>Q .normal s
 | .exit i,s=>if i=id then Q .normal s else Q (.exit i) s
 | .ret,s=>Q .ret s
theorem zdi {x:AC} (h:Run G x s (blockK id Q)):Run G (.block id x) s Q:=by
 intro hG code hc C a w hr;cases code<;>simp only [zI,xab] at hc
 case block i c1=>
  obtain ⟨x',h1,hc⟩:=hc;injection hc with e1 e2;subst e1;subst e2;refine wpIn_block (wpIn_mono (h hG c1 h1 C a w hr) ?_);rintro e a' w' ⟨s',C',hr',hq⟩;cases e with
  | normal=>exact ⟨s',C',hr',hq⟩
  | exit j=>
   simp only [zCB,blockK] at hq;simp only [Exit.inBlock]
   split at hq
   ·rename_i e;rw [if_pos e];exact ⟨s',C',hr',hq⟩
   ·rename_i e;rw [if_neg e];exact ⟨s',C',hr',hq⟩
  | ret=>exact ⟨s',C',hr',hq⟩
  | goto l=>exact hq.elim
  | panic c=>exact hq.elim
  | outgrown=>exact hq.elim
 all_goals first|(cases hc;done)|(obtain ⟨_,_,hc⟩:=hc;cases hc;done)|(split at hc<;>cases hc;done)
theorem zcU (h:Q (.exit id) s):Run G (.exit id) s Q:=by
 intro hG code hc C a w hr;cases code<;>simp only [zI,xab] at hc
 case exit i=>
  injection hc with hc;injection hc with hc;subst hc;exact wpIn_exit ⟨s,C,hr,h⟩
 all_goals first|(cases hc;done)|(obtain ⟨_,_,hc⟩:=hc;cases hc;done)|(split at hc<;>cases hc;done)
theorem zxy (h:Q .ret s):Run G .ret s Q:=by
 intro hG code hc C a w hr;cases code<;>simp only [zI,xab] at hc<;>first|(exact wpIn_ret ⟨s,C,hr,h⟩)|skip
 all_goals first|(cases hc;done)|(obtain ⟨_,_,hc⟩:=hc;cases hc;done)|(split at hc<;>cases hc;done)
theorem zpX (h:Q .normal s):Run G .label s Q:=by
 intro hG code hc C a w hr;cases code<;>simp only [zI,xab] at hc<;>first|(exact wpIn_label ⟨s,C,hr,h⟩)|skip
 all_goals first|(cases hc;done)|(obtain ⟨_,_,hc⟩:=hc;cases hc;done)|(split at hc<;>cases hc;done)
theorem zpT {x:AC} (h:Run G x s Q):Run G (.scope x) s Q:=by
 intro hG code hc C a w hr;cases code<;>simp only [zI,xab] at hc
 case scope c1=>
  obtain ⟨x',h1,hc⟩:=hc;injection hc with e1;subst e1;refine zd0 (wpIn_mono (h hG c1 h1 C a w hr) ?_);rintro e a' w' ⟨s',C',hr',hq⟩;cases e with
  | goto l=>exact hq.elim
  | _=>exact ⟨s',C',hr',hq⟩
 all_goals first|(cases hc;done)|(obtain ⟨_,_,hc⟩:=hc;cases hc;done)|(split at hc<;>cases hc;done)
theorem zar {l:List RO} (h:zp G.P G.ts false (λs _=>Q .normal s) l s []):Run G (.ops false l) s Q:=by
 intro hG code hc C a w hr;cases code<;>simp only [zI,xab] at hc
 case region id ops draw=>
  obtain ⟨l',h1,hc⟩:=hc;injection hc with e1 e2;subst e1;subst e2;exact wpIn_region_list (zdj hG.mok hG.yok (λs' acc C' a' w' hk hr'=>⟨s',C',hr',hk⟩) h1 h hr)
 all_goals first|(cases hc;done)|(obtain ⟨_,_,hc⟩:=hc;cases hc;done)|(split at hc<;>cases hc;done)
mutual
def scP (look:Nat->Option LObj):LV->Prop
 | .p _|.yield|.any=>True
 | .g c q=>c=true->scP look q
 | .lp k _=>match look k with|some (.box _ _)=>True|_=>False
 | .row k n=>match look k with|some (.row _ _ xs _)=>n<=xs.length|_=>False
 | .ep k n _ _=>match look k with|some (.row _ _ xs _)=>n<=xs.length|_=>False
 | .it k=>match look k with|some (.sit _ _)=>True|some (.mit _ _)=>True|_=>False
 | .lm k=>match look k with|some (.mp _ _)=>True|_=>False
 | .fn _ a b=>scPs look a/\scPs look b
 | .agg cs=>scPs look cs
 | .tup cs=>scPs look cs
def scPs (look:Nat->Option LObj):List LV->Prop
 | []=>True
 | q::r=>scP look q/\scPs look r
end
theorem zel {look:Nat->Option LObj}:∀ {l:List LV},scPs look l->∀ (j:Nat) (q:LV),l[j]?=some q->scP look q
 | [],_,j,q,hq=>by simp at hq
 | x::r,h,j,q,hq=>by
  simp only [scPs] at h;cases j with
  | zero=>simp at hq;subst hq;exact h.1
  | succ j=>exact zel h.2 j q (by simpa using hq)
theorem zfp {look : Nat → Option LObj} : ∀ (n : Nat) (q : LV), SizeOf.sizeOf q ≤ n → scP look q → LV.Sc look q := by
  intro n
  induction n with
  | zero => intro q hq; cases q <;> simp at hq <;> omega
  | succ n ih =>
    intro q hq h
    have ls : ∀ {l : List LV}, SizeOf.sizeOf l ≤ n → scPs look l → ∀ (j : Nat) (q : LV), l[j]? = some q → LV.Sc look q := fun {l} hl hs j q hj => by
      have := List.sizeOf_lt_of_mem (List.mem_of_getElem? hj)
      exact ih q (by omega) (zel hs j q hj)
    cases q with
    | p v => exact .p v
    | g c v => simp only [scP] at h; exact .g fun hc => ih v (by simp at hq; omega) (h hc)
    | yield => exact .yield
    | any => exact .any
    | lp k off => simp only [scP] at h; split at h; · exact .lp ‹_›
                  · exact h.elim
    | row k m => simp only [scP] at h; split at h; · exact .row ‹_› h
                 · exact h.elim
    | ep k m i off => simp only [scP] at h; split at h; · exact .ep ‹_› h
                      · exact h.elim
    | it k => simp only [scP] at h; split at h; · exact .it ‹_›
              · exact .im ‹_›
              · exact h.elim
    | lm k => simp only [scP] at h; split at h; · exact .lm ‹_›
              · exact h.elim
    | fn f b c => simp only [scP] at h; simp at hq; exact .fn (ls (by omega) h.1) (ls (by omega) h.2)
    | agg cs => simp only [scP] at h; simp at hq; exact .agg (ls (by omega) h)
    | tup cs => simp only [scP] at h; simp at hq; exact .tup (ls (by omega) h)
def covEnv (s:St):List (Nat × LV)->Prop
 | []=>True
 | (t,v)::r=>s.get t=v/\covEnv s r
def covObj (s:St):List (Nat × LObj)->Prop
 | []=>True
 | (k,o)::r=>s.look k=some o/\covObj s r
def scEnv (look:Nat->Option LObj):List (Nat × LV)->Prop
 | []=>True
 | (_,v)::r=>scP look v/\scEnv look r
def scObj (look:Nat->Option LObj):List (Nat × LObj)->Prop
 | []=>True
 | (_,.box cs _)::r=>scPs look cs/\scObj look r
 | _::r=>scObj look r
def Cov (s s':St):Prop:=covEnv s s'.env/\covObj s s'.obj/\scEnv s'.look s'.env/\scObj s'.look s'.obj/\s'.tr=s.tr/\s'.stop=s.stop
theorem zhP:∀ {l:List (Nat × LV)},covEnv s l->∀ t,zS l t=s.get t\/zS l t=.any
 | [],_,t=>.inr rfl
 | (k,v)::r,h,t=>by
  simp only [zS]
  split
  ·rename_i e;subst e;exact .inl h.1.symm
  ·exact zhP h.2 t
theorem zgX:∀ {l:List (Nat × LObj)},covObj s l->∀ k o,zm l k=some o->s.look k=some o
 | [],_,k,o,h=>by simp [zm] at h
 | (j,u)::r,h,k,o,ho=>by
  simp only [zm] at ho
  split at ho
  ·rename_i e;subst e;injection ho with ho;subst ho;exact h.1
  ·exact zgX h.2 k o ho
theorem zdh {look:Nat->Option LObj}:∀ {l:List (Nat × LV)},scEnv look l->∀ t,LV.Sc look (zS l t)
 | [],_,t=>.any
 | (k,v)::r,h,t=>by
  simp only [zS]
  split
  ·exact zfp _ v (xap _) h.1
  ·exact zdh h.2 t
theorem zaZ {look:Nat->Option LObj}:∀ {l:List (Nat × LObj)},scObj look l->∀ k o,zm l k=some o->LObj.Sc look o
 | [],_,k,o,h=>by simp [zm] at h
 | (j,u)::r,h,k,o,ho=>by
  simp only [zm] at ho
  split at ho
  ·injection ho with ho;subst ho;cases u<;>try trivial
   exact λj q hq=>zfp _ q (xap _) (zel h.1 j q hq)
  ·refine zaZ ?_ k o ho;cases u<;>first|exact h.2|exact h
theorem zdt {s':St} (hc:Cov s s') (h:RelC X C s.get s.look s.tr s.stop a w):RelC X C s'.get s'.look s'.tr s'.stop a w:=by
 obtain ⟨h1,h2,h3,h4,h5,h6⟩:=hc;rw [h5,h6];exact (h.forget (g':=s'.get) (zhP h1)).drop (zgX h2) (zdh h3) (zaZ h4)
theorem ztl {c:AC} (s':St) (hc:Cov s s') (h:Run G c s' Q):Run G c s Q:=
 λhG code hcc C a w hr=>h hG code hcc C a w (zdt hc hr)
def loopK {κ:Type} (inv:κ->St) (ok:κ->Prop) (μ:κ->Nat) (k:κ) (Q:zam):zam
 | .normal,s=>∃ k',ok k'/\μ k' < μ k/\Cov s (inv k')
 | e,s=>Q e s
theorem zuG (S:Act->World->Nat->Prop):∃ f:Act->World->Nat,∀ a w,(∃ n,S a w n)->S a w (f a w)/\∀ n,S a w n->f a w<=n:=by
 have key:∀ a w,∃ m,(∃ n,S a w n)->S a w m/\∀ n,S a w n->m<=n:=λa w=>by
  by_cases h:∃ n,S a w n
  ·obtain ⟨n,hn⟩:=h;have:∀ n,S a w n->∃ m,S a w m/\∀ j,S a w j->m<=j:=by
    intro n
    induction n using Nat.strongRecOn with
    | _ n ih=>
     intro hn
     by_cases hl:∃ j,j < n/\S a w j
     ·obtain ⟨j,hj,hs⟩:=hl;exact ih j hj hs
     ·exact ⟨n,hn,λj hj=>Nat.not_lt.1 λhlt=>hl ⟨j,hlt,hj⟩⟩
   obtain ⟨m,hm⟩:=this n hn;exact ⟨m,λ_=>hm⟩
  ·exact ⟨0,λe=>absurd e h⟩
 exact ⟨λa w=>(key a w).choose,λa w=>(key a w).choose_spec⟩
theorem zh {κ:Type} {c:AC} (inv:κ->St) (ok:κ->Prop) (μ:κ->Nat) (k0:κ) (h0:Cov s (inv k0)) (hk0:ok k0) (hbody:∀ k,ok k->Run G c (inv k) (loopK inv ok μ k Q)):Run G (.loop c) s Q:=by
 intro hG code hc C a w hr;cases code<;>simp only [zI,xab] at hc
 case loop c1=>
  obtain ⟨x',h1,hc⟩:=hc;injection hc with e1;subst e1;obtain ⟨m,hm⟩:=zuG λa w n=>∃ k C,ok k/\μ k=n/\RelC G.X C (inv k).get (inv k).look (inv k).tr (inv k).stop a w
  refine wpIn_loop (λa w=>∃ n k C,ok k/\μ k=n/\RelC G.X C (inv k).get (inv k).look (inv k).tr (inv k).stop a w) m ⟨_,k0,C,hk0,rfl,zdt h0 hr⟩ ?_
  intro a w hI;obtain ⟨⟨k,C,hok,hμ,hr⟩,hmin⟩:=hm a w hI;refine wpIn_mono (hbody k hok hG c1 h1 C a w hr) ?_;rintro e a' w' ⟨s',C',hr',hq⟩;cases e with
  | normal=>
   obtain ⟨k',hok',hlt,hcov⟩:=hq;have hr2:=zdt hcov hr';have hex:∃ n,(λa w n=>∃ k C,ok k/\μ k=n/\RelC G.X C (inv k).get (inv k).look (inv k).tr (inv k).stop a w) a' w' n:=⟨_,k',C',hok',rfl,hr2⟩
   refine ⟨hex,?_⟩;have:=(hm a' w' hex).2 (μ k') ⟨k',C',hok',rfl,hr2⟩
   omega
  | exit id=>exact ⟨s',C',hr',hq⟩
  | ret=>exact ⟨s',C',hr',hq⟩
  | goto l=>exact hq.elim
  | panic c=>exact hq.elim
  | outgrown=>exact hq.elim
 all_goals first|(cases hc;done)|(obtain ⟨_,_,hc⟩:=hc;cases hc;done)|(split at hc<;>cases hc;done)
end
inductive RV where
 | tmp (t:Nat)
 | cell (a sz:Nat) (ag:Bool)
variable {rs:List RV}
def zaF (P:Program):List ResultVar->Option (List RV)
 | []=>some []
 | .tmp t::r=>if t < GB then (zaF P r).map (.tmp t::·) else none
 | .cell a t::r=>match zX P t,zC P t,zaF P r with
  | some sz,some ag,some l=>if a < GB then some (.cell a sz ag::l) else none
  | _,_,_=>none
def resL (s:St):List RV->Option (Prop × List LV)
 | []=>some (True,[])
 | .tmp t::r=>(resL s r).map λx=>(x.1,s.get t::x.2)
 | .cell a sz ag::r=>match s.get a with
  | .lp k off=>match s.look k with
   | some (.box cs _)=>(resL s r).map λx=>((off+sz<=cs.length/\(ag=false->sz=1))/\x.1,(if ag then packL ((cs.drop off).take sz) else (cs[off]?).getD .any)::x.2)
   | _=>none
  | _=>none
def tupOf:List PV->PV
 | [v]=>v
 | vs=>.tup vs
inductive Weak:PV->PV->Prop
 | refl (v:PV):Weak v v
 | nilsl (sz:Nat):Weak .nilsl (.sl sz [])
 | any (v:PV):Weak v .any
 | tup {xs ys:List PV}:xs.length=ys.length->(∀ (j:Nat) (x y:PV),xs[j]?=some x->ys[j]?=some y->Weak x y)->Weak (.tup xs) (.tup ys)
 | agg {xs ys:List PV}:xs.length=ys.length->(∀ (j:Nat) (x y:PV),xs[j]?=some x->ys[j]?=some y->Weak x y)->Weak (.agg xs) (.agg ys)
theorem Weak.rep {q:PV} (h:Weak p q) (hr:Rep w B v p):Rep w B v q:=by
 induction h generalizing v with
 | refl=>exact hr
 | nilsl=>cases hr;exact .sl0
 | any=>exact .any v
 | tup h1 h2 ih=>
  rename_i xs ys;cases hr with
  | tup e1 e2=>
   refine .tup (e1.trans h1) λj v y hv hy=>?_
   have hj:j < xs.length:=h1 ▸ (xaa.1 hy).1;exact ih j _ y (xac hj) hy (e2 j v _ hv (xac hj))
 | agg h1 h2 ih=>
  rename_i xs ys;cases hr with
  | agg e1 e2=>
   refine .agg (e1.trans h1) λj v y hv hy=>?_
   have hj:j < xs.length:=h1 ▸ (xaa.1 hy).1;exact ih j _ y (xac hj) hy (e2 j v _ hv (xac hj))
def RetOk (rs:List RV) (r:PV) (s:St):Prop:=
 match resL s rs with
 | some (pre,lvs)=>match toPVs s.look lvs with
  | some (pre2,vs,_)=>pre/\pre2/\Weak (tupOf vs) r
  | none=>False
 | none=>False
def retQ (rs:List RV) (r:PV):zam
 | .normal,s=>RetOk rs r s
 | .ret,s=>RetOk rs r s
 | .exit _,_=>False
section
variable {X:Fx} {C:Ctx} {g:Nat->LV} {look:Nat->Option LObj} {tr:List (List PV)} {stop:Bool} {a:Act} {w:World} {P:Program} {s:St}
theorem RelC.unmark (h:RelC X C g look tr stop a w) {d:Deferred} {ds:List Deferred} (hd:a.defers=d::ds) :
  ∃ r,d.target=.collected r/\(Instr.takeDeferred r).run P w=.ok [] (w.putObj r (.deferred none))/\RelC X C g look tr stop { a with defers:=ds } (w.putObj r (.deferred none)):=by
 have hm:=h.marks;rw [hd] at hm;obtain ⟨⟨r,h1,h2,h0,⟨h3,h4,hdd,h5⟩,h6,h8⟩,hrest⟩:=hm;refine ⟨r,h1,run_takeDeferred h2,?_⟩;have ho:∀ b,b≠r->(w.putObj r (.deferred none)).heap[b]?=w.heap[b]?:=λb hb=>World.putObj_heap_other hb
 have hB:∀ b,C.B b->(w.putObj r (.deferred none)).heap[b]?=w.heap[b]?:=λb hb=>ho b λe=>h4 (e ▸ hb)
 have hr:∀ k e sz xs fz,look k=some (.row e sz xs fz)->∃ xs' fz',look k=some (.row e sz xs' fz')/\(xs'.length=xs.length->C.cur k=C.cur k)/\xs.length<=xs'.length:=λk e sz xs fz hk=>⟨xs,fz,hk,λ_=>rfl,xap _⟩
 exact {
  kx:=h.kx.grown (w':=w.putObj r (.deferred none)) (row:=some r) ⟨rfl,rfl,rfl,by simp,λk hk hne=>ho k (λe=>hne (by rw [e]))⟩ (λk hk=>by injection hk with hk;subst hk;exact .inl h0)
  yy:=h.yy
  b0:=h.b0
  blt:=λb hb=>by simpa using h.blt b hb
  bold:=h.bold
  borg:=h.borg
  no0:=h.no0
  tsz:=h.tsz
  ngb:=h.ngb
  env:=λt=>(h.env t).same (λ_ h=>h) rfl hB (λ_ _ _=>rfl) hr (h.envs t)
  envs:=h.envs
  obj:=λk o hk=>(h.obj k o hk).same (λ_ h=>h) rfl hB (λ_ _ _=>rfl) hr hk (h.objs k o hk) rfl (λb hb=>ho b λe=>h5 k o hk (e ▸ hb))
  objs:=h.objs
  sep:=λk o b hk hb=>by simpa using h.sep k o b hk hb
  dis:=h.dis
  marks:=by
   have hne:∀ x ∈ ds,x.target≠.collected r:=h6;clear h6 hd
   induction ds with
   | nil=>exact λp hp=>⟨(ho p.1 (h8 p hp)).trans (hrest p hp).1,(hrest p hp).2⟩
   | cons x ds ih=>
    obtain ⟨⟨r',g1,g2,g0,g3,g4⟩,gr⟩:=hrest;exact ⟨⟨r',g1,(ho r' λe=>hne x (by simp) (e ▸ g1)).trans g2,g0,g3,g4⟩,ih gr λy hy=>hne y (xaH _ hy)⟩
  nle:=by simpa using h.nle
  dn:=h.dn
  nn:=h.nn
  ow:=h.ow
  oold:=h.oold
  dold:=h.dold
  jj:=h.jj.imp id λ⟨wy,j1,j2⟩=>⟨wy,j1,j2.trans ⟨rfl,rfl,rfl,by simp,λk hk=>ho k λe=>hdd (e ▸ hk)⟩⟩ }
theorem zdp {ro:Option Nat} {fn:Func} {R:Ending->World->Prop}:∀ (ds:List Deferred) (a:Act) (w:World),a.defers=ds->RelC X C g look tr stop a w ->
  (∀ w',RelC X C g look tr stop { a with defers:=[] } w'->∃ v,(results fn a.tmps).run P w'=.ok v w'/\R (.returned v) w')->LeavesInM (za4 ro) 0 P fn a.tmps R ds .returning w
 | [],a,w,hd,h,hR=>by
  have:a={ a with defers:=[] }:=by cases a;simp at hd;subst hd;rfl
  rw [this] at h;exact hR w h
 | d::ds,a,w,hd,h,hR=>by
  obtain ⟨r,h1,h2,h3⟩:=RelC.unmark (P:=P) h hd;exact ⟨by simp,.inl ⟨r,_,h1,h2,zdp ds { a with defers:=ds } _ rfl h3 hR⟩⟩
theorem zlw (h:RelC X C g look tr stop a w) {off:Nat} {fz:Bool} {cs:List LV} (hs:zX P t=some sz) (hag:zC P t=some ag) (hk:look k=some (.box cs fz)) (hl:off+sz<=cs.length) (h1:ag=false->sz=1) :
  ∃ v,(loadVar t ⟨C.ρ k,off,none⟩).run P w=.ok v w/\RepL w C look v (if ag then packL ((cs.drop off).take sz) else (cs[off]?).getD .any)/\LV.Sc look (if ag then packL ((cs.drop off).take sz) else (cs[off]?).getD .any):=by
 obtain ⟨arr,ty,hg,hr⟩:=zg3 h hk;have hlen:=hr.1;have hr2:=zdA (zdB hr off) sz;have hrun:(Instr.loadAt t (.pointer (some ⟨C.ρ k,off,none⟩))).run P w=.ok (if ag then .agg ((arr.toList.drop off).take sz).toArray else (((arr.toList.drop off).take sz)[0]?).getD undef) w:=by
  refine zcD hs hag _ (by simp at hlen ⊢;omega) (λj y hy=>?_) h1
  rw [xaQ] at hy
  split at hy
  ·rw [xaY] at hy;rw [Addr.add_lit0];simp only [World.cell?,hg];simpa using hy
  ·cases hy
 have hrun':(loadVar t ⟨C.ρ k,off,none⟩).run P w=.ok (if ag then .agg ((arr.toList.drop off).take sz).toArray else (((arr.toList.drop off).take sz)[0]?).getD undef) w:=by
  rw [<-hrun];simp [Instr.loadAt,Instr.sureAddr]
 cases ag with
 | true=>
  obtain ⟨p1,p2⟩:=zmM hr2;exact ⟨_,hrun',p1,p2⟩
 | false=>
  have hs1:=h1 rfl;subst hs1;have e1:((arr.toList.drop off).take 1)[0]?=arr.toList[off]?:=by simp
  have e2:arr.toList[off]?=some (arr.toList[off]'(by simp at hlen ⊢;omega)):=xac _
  have e3:cs[off]?=some (cs[off]'(by omega)):=xac _
  obtain ⟨p1,p2⟩:=hr.2 off _ _ e2 e3;refine ⟨arr.toList[off]'(by simp at hlen ⊢;omega),?_,?_,?_⟩
  ·rw [hrun',e1,e2];rfl
  ·rw [e3];exact p1
  ·rw [e3];exact p2
def zjH (tmps:Array Value):ResultVar->Sem Value
 | .tmp t=>pure (tmps.getD t undef)
 | .cell ad t=>do loadVar t (<-asAddr (tmps.getD ad undef))
theorem znW (fn:Func) (tmps:Array Value):results fn tmps=(do let vs <-fn.results.mapM (zjH tmps);pure (if h:vs.size=1 then vs[0] else .tuple vs)):=by
 have:(zjH tmps)=(fun|.tmp t=>pure (tmps.getD t undef)|.cell a t=>do loadVar t (<-asAddr (tmps.getD a undef))):=by
  funext x;cases x<;>rfl
 rw [this];rfl
theorem zdy (hc:zaF P fn.results.toList=some rs) (h:RelC X C s.get s.look tr stop a w) {pre:Prop} {lvs:List LV} (hl:resL s rs=some (pre,lvs)) (hp:pre) :
  ∃ vs:List Value,(results fn a.tmps).run P w=.ok (if hh:vs.toArray.size=1 then vs.toArray[0] else .tuple vs.toArray) w/\RepsL w C s.look vs lvs:=by
 have key:∀ (rv:List ResultVar) (rs:List RV) (pre:Prop) (lvs:List LV),zaF P rv=some rs->resL s rs=some (pre,lvs)->pre ->
   ∃ vs:List Value,(rv.mapM (zjH a.tmps)).run P w=.ok vs w/\RepsL w C s.look vs lvs:=by
  intro rv
  induction rv with
  | nil=>
   intro rs pre lvs hc hl hp;simp [zaF] at hc;subst hc;simp [resL] at hl;obtain ⟨_,rfl⟩:=hl;exact ⟨[],by simp,rfl,λj v q hv=>by simp at hv⟩
  | cons x rv ih=>
   intro rs pre lvs hc hl hp;have cons:∀ {v:Value} {q:LV} {vs:List Value} {qs:List LV},RepL w C s.look v q->LV.Sc s.look q->RepsL w C s.look vs qs->RepsL w C s.look (v::vs) (q::qs):=fun {v q vs qs} h1 h2 h3=>
    ⟨by simp [h3.1],λj u p hu hp=>by
     cases j with
     | zero=>simp at hu hp;subst hu;subst hp;exact ⟨h1,h2⟩
     | succ j=>exact h3.2 j u p (by simpa using hu) (by simpa using hp)⟩
   cases x with
   | tmp t=>
    simp only [zaF] at hc
    split at hc
    case isFalse=>cases hc
    rename_i htg;simp only [xab] at hc;obtain ⟨l,hc,rfl⟩:=hc;have het:=h.env t;rw [zbc htg] at het;simp only [resL,xab] at hl;obtain ⟨y,hl,he⟩:=hl;injection he with e1 e2;subst e1;subst e2;obtain ⟨vs,h1,h2⟩:=ih l y.1 y.2 hc hl hp;refine ⟨a.tmps.getD t undef::vs,?_,cons het (h.envs t) h2⟩;simp only [xch,zjH,Sem.run_bind,Sem.run_pure,Result.andThen_ok,h1]
   | cell ad t=>
    simp only [zaF] at hc
    split at hc
    ·rename_i sz ag l hsz hag hc1
     split at hc
     case isFalse=>cases hc
     rename_i hadg;injection hc with hc;subst hc;simp only [resL] at hl
     split at hl
     ·rename_i k off hk
      split at hl
      ·rename_i cs fz hk2;obtain ⟨y,hy,he⟩:=xab.1 hl;injection he with e1 e2;subst e1;subst e2;obtain ⟨vs,h1,h2⟩:=ih l y.1 y.2 hc1 hy hp.2;obtain ⟨v,g1,g2,g3⟩:=zlw h hsz hag hk2 hp.1.1 hp.1.2;have hr:=h.env ad;rw [hk,zbc hadg] at hr;generalize hxv:a.tmps.getD ad undef=xv at hr;cases hr;refine ⟨v::vs,?_,cons g2 g3 h2⟩;simp only [xch,zjH,Sem.run_bind,Sem.run_pure,Result.andThen_ok,hxv,asAddr,g1,h1]
      ·cases hl
     ·cases hl
    ·cases hc
 obtain ⟨vs,h1,h2⟩:=key fn.results.toList rs pre lvs hc hl hp;refine ⟨vs,?_,h2⟩;simp only [znW,Array.mapM_eq_mapM_toList,Sem.run_bind,map_eq_pure_bind,h1,Result.andThen_ok,Sem.run_pure]
def argSt (args:List PV):St:=⟨(args.zipIdx.map λx=>(x.2,.p x.1)),[],[],false⟩
theorem zha : ∀ (args : List PV) (n t : Nat), zS (args.zipIdx n |>.map λx => (x.2, LV.p x.1)) t = if n <= t then (match args[t - n]? with | some v => .p v | none => .any) else .any
 | [],n,t=>by simp [zS]
 | v::r,n,t=>by
  simp only [List.zipIdx_cons,xaj,zS]
  by_cases e:t=n
  ·subst e;simp
  ·rw [if_neg e,zha r (n+1) t]
   by_cases h:n<=t
   ·have h1:n+1<=t:=by omega
    rw [if_pos h1,if_pos h];have:t - n=(t - (n+1))+1:=by omega
    rw [this];rfl
   ·rw [if_neg h,if_neg (by omega)]
def zil (w:World) (B:Nat->Prop) (N:Nat):Fx:={ w0:=w,B0:=B,B1:=B,M:=λ_=>False,O0:=λ_=>False,D0:=λ_=>False,Bo:=B,no:=w.heap.size,N:=N,y:=0,J:=λ_ _ _ _=>True,Jx:=λ_ _ _=>True,gv:=λ_=>undef,K:=[] }
def RunC (G:Cfg) (code:Code) (s:St) (Q:zam):Prop:=
 G.Ok->∀ C a w,RelC G.X C s.get s.look s.tr s.stop a w->code.wpIn (za4 G.ro) 0 G.P (QQ G Q) a w
theorem zjN {rs:List RV} {args:List PV} {r:PV} (hf:P.funcs[f]?=some fn) (hb:fn.body=some body)
  (hrs:zaF P fn.results.toList=some rs) (hn:args.length<=fn.ntmps) (hgb:fn.ntmps<=GB) {w:World} {B:Nat->Prop} {vs:List Value} (hB:∀ b,B b->b < w.heap.size) (hvs:Reps w B vs args)
  (hrun:RunC ⟨P,zil w B fn.ntmps,none,[]⟩ body (argSt args) (retQ rs r)):Calls P f vs.toArray w λe w'=>∃ u,e=.returned u/\Below w.heap.size w w'/\Rep w' (λb=>B b\/(w.heap.size<=b/\b < w'.heap.size)) u r:=by
 refine callsIn_wide.1 (callsIn_of_wp_marks (F:=Fence.wide) (n:=0) hf hb trivial ?_ rfl)
 let X:=zil w B fn.ntmps
 have hX:X.Triv:=λt D o w=>⟨trivial,trivial⟩
 have hlen:=hvs.1;have hN:(vs.toArray++Array.replicate (fn.ntmps - vs.toArray.size) undef).size=fn.ntmps:=by simp;omega
 have hget:∀ t,(argSt args).get t=match args[t]? with|some v=>.p v|none=>.any:=λt=>by
  have:=zha args 0 t;simpa [argSt,St.get] using this
 have h0:RelC X { B:=B,ρ:=λ_=>0,cur:=λ_=>undef,y:=0,n:=0,dep:=λ_=>False,own:=λ_=>False } (argSt args).get (argSt args).look [] false { tmps:=vs.toArray++Array.replicate (fn.ntmps - vs.toArray.size) undef,defers:=[] } w:=
  {
   kx:=KeepX.refl _ _
   yy:=rfl
   b0:=λb h=>h
   blt:=hB
   bold:=λb h _=>h
   borg:=λb h=>.inl h
   no0:=xap _
   tsz:=hN
   ngb:=hgb
   env:=λt=>by
    rw [hget]
    split
    ·rename_i v hv;obtain ⟨u,hu,hr⟩:=hvs.get hv;rw [zbc (xaJ (xaJ (xaa.1 hv).1 hn) hgb)];have ht:t < vs.length:=(xaa.1 hu).1;have:(vs.toArray++Array.replicate (fn.ntmps - vs.toArray.size) undef).getD t undef=u:=by
      rw [xag,xbU (by simpa using ht)]
      simp [hu]
     rw [this];exact .p hr
    ·exact .any _
   envs:=λt=>by rw [hget];split<;>first|exact .p _|exact .any
   obj:=λk o hk=>by simp [argSt,St.look,zm] at hk
   objs:=λk o hk=>by simp [argSt,St.look,zm] at hk
   sep:=λk o b hk=>by simp [argSt,St.look,zm] at hk
   dis:=λk k' o o' b _ hk=>by simp [argSt,St.look,zm] at hk
   marks:=λp hp=>by cases hp
   nle:=xbk _
   dn:=λ_ h=>h.elim
   nn:=λk o b hk=>by simp [argSt,St.look,zm] at hk
   ow:=λ_ h=>h.elim
   oold:=λ_ h=>h.elim
   dold:=λ_ h=>h.elim
   jj:=.inl hX }
 refine wpIn_mono (hrun ⟨⟨λb h=>h.elim,λb h=>h.elim⟩,.inl rfl,λl h=>by cases h⟩ _ _ _ h0) ?_
 rintro e a' w' ⟨s',C',hr',hq⟩;have key:RetOk rs r s'->LeavesInM Fence.wide 0 P fn a'.tmps (λe w'=>∃ u,e=.returned u/\Below w.heap.size w w'/\Rep w' (λb=>B b\/(w.heap.size<=b/\b < w'.heap.size)) u r) a'.defers .returning w':=λhq=>by
  refine zdp (ro:=none) a'.defers a' w' rfl hr' λw2 h2=>?_
  unfold RetOk at hq
  split at hq
  ·rename_i pre lvs hl
   split at hq
   ·rename_i pre2 ps ks ht;obtain ⟨hp,hp2,hw⟩:=hq;obtain ⟨us,hrun,hus⟩:=zdy (fn:=fn) hrs h2 hl hp;refine ⟨_,hrun,_,rfl,(h2.kx.mono (M':=λ_=>False) λk _ hk=>hk.elim id id).below,?_⟩
    have hreps:=zbm h2 hus ht hp2;refine hw.rep ?_;have hmono:∀ b,(C'.B b\/zbv C' s'.look ks b)->(B b\/(w.heap.size<=b/\b < w2.heap.size)):=λb hb=>by
     rcases hb with hb|⟨k,hk,o,ho,hbk⟩
     ·by_cases hlt:b < w.heap.size
      ·exact .inl (h2.bold b hb hlt)
      ·exact .inr ⟨by omega,h2.blt b hb⟩
     ·obtain ⟨e1,e2,_,e4⟩:=h2.sep k o b ho hbk;cases hf:o.frozen with
      | false=>exact .inr ⟨(e1 hf).resolve_right (λh=>h),e2⟩
      | true=>
       by_cases hlt:b < w.heap.size
       ·exact .inl (h2.bold b (e4 hf) hlt)
       ·exact .inr ⟨by omega,e2⟩
    have hreps2:=hreps.mono hmono (λ_ _=>rfl)
    match us,ps,hreps2 with
    | [],[],_=>exact .tup rfl (λj v p hv=>by simp at hv)
    | [u],[p],h=>exact h.2 0 u p rfl rfl
    | u::v::us,p::q::ps,h=>
     have:(u::v::us).toArray.size≠1:=by simp
     rw [dif_neg this];exact .tup (by simpa using h.1) (λj x y hx hy=>h.2 j x y (by simpa using hx) hy)
    | [],_::_,h=>exact absurd h.1 (by simp)
    | _::_,[],h=>exact absurd h.1 (by simp)
    | [_],_::_::_,h=>exact absurd h.1 (by simp)
    | _::_::_,[_],h=>exact absurd h.1 (by simp)
   ·exact hq.elim
  ·exact hq.elim
 cases e with
 | normal=>exact key hq
 | ret=>exact key hq
 | exit id=>exact hq.elim
 | goto l=>exact hq.elim
 | panic c=>exact hq.elim
 | outgrown=>exact hq.elim
theorem zle {c:AC} {rs:List RV} {args:List PV} {r:PV} (hf:P.funcs[f]?=some fn) (hb:fn.body=some body)
  (hc:zI P fn.ntmps body=some c) (hrs:zaF P fn.results.toList=some rs) (hn:args.length<=fn.ntmps) (hgb:fn.ntmps<=GB) {w:World} {B:Nat->Prop} {vs:List Value} (hB:∀ b,B b->b < w.heap.size) (hvs:Reps w B vs args)
  (hrun:Run ⟨P,zil w B fn.ntmps,none,[]⟩ c (argSt args) (retQ rs r)):Calls P f vs.toArray w λe w'=>∃ u,e=.returned u/\Below w.heap.size w w'/\Rep w' (λb=>B b\/(w.heap.size<=b/\b < w'.heap.size)) u r:=zjN hf hb hrs hn hgb hB hvs λhG=>hrun hG body hc
theorem zld {c : AC} {rs : List RV} {args : List PV} {r : PV} (hf : P.funcs[f]? = some fn) (hname : (fn.name == "runtime.NumGoroutine") = false) (hb : fn.body = some body)
  (hc:zI P fn.ntmps body=some c) (hrs:zaF P fn.results.toList=some rs) (hn:args.length≤fn.ntmps) (hgb:fn.ntmps≤GB)
  (hrun:∀ X:Fx,X.N=fn.ntmps→Run ⟨P,X,none,[]⟩ c (argSt args) (retQ rs r)):Pure P f args r:=
 ⟨⟨fn,body,hf,hname,hb⟩,fun w B vs hB hvs=>zle hf hb hc hrs hn hgb hB hvs (hrun (zil w B fn.ntmps) rfl)⟩
def zc7 (P:Program) (f:FuncId):Option (AC × List RV × Nat):=
 match P.funcs[f]? with
 | some fn => if fn.name == "runtime.NumGoroutine" then none else match fn.body with
  | some b=>match zI P fn.ntmps b,zaF P fn.results.toList with
   | some c,some rs=>if fn.ntmps≤GB then some (c,rs,fn.ntmps) else none
   | _,_=>none
  | none=>none
 | none=>none
theorem zx3 {c:AC} (h:zc7 P f=some (c,rs,n)) {args:List PV} (hn:args.length<=n) (hrun:∀ X:Fx,X.N=n->Run ⟨P,X,none,[]⟩ c (argSt args) (retQ rs r)):Pure P f args r:=by
 unfold zc7 at h
 split at h
 ·rename_i fn hf
  split at h
  ·cases h
  ·rename_i hname
   split at h
   ·rename_i b hb
    split at h
    ·rename_i c' rs' hc hrs
     split at h
     case isFalse=>cases h
     rename_i hgb;injection h with h;injection h with e1 h;injection h with e2 e3;subst e1;subst e2;subst e3;exact zld hf (by simpa using hname) hb hc hrs hn hgb hrun
    ·cases h
   ·cases h
 ·cases h
def bs (l:List UInt8):ByteArray:=⟨l.toArray⟩
end
theorem zrY (cs:List PV):(PV.agg cs).cells=cs:=rfl
theorem zzG (x:Bool):(PV.b x).cells=[.b x]:=rfl
theorem zzF (k:IntKind) (n:Int):(PV.i k n).cells=[.i k n]:=rfl
theorem zzE (x:ByteArray):(PV.s x).cells=[.s x]:=rfl
theorem zrX (x:List PV):(PV.tup x).cells=[.tup x]:=rfl
theorem zl2:PV.nilsl.cells=[.nilsl]:=rfl
theorem zvB (sz:Nat) (xs:List PV):(PV.sl sz xs).cells=[.sl sz xs]:=rfl
theorem zoU:PV.nilp.cells=[.nilp]:=rfl
theorem zvD (v:PV) (o:Nat):(PV.ip v o).cells=[.ip v o]:=rfl
theorem zvE (f:Fn) (a b:List PV):(PV.fn f a b).cells=[.fn f a b]:=rfl
theorem zoV:PV.nilf.cells=[.nilf]:=rfl
theorem zvC (x:List (PV × PV)):(PV.mp x).cells=[.mp x]:=rfl
theorem zuH (v:PV):(LV.p v).cells=v.cells.map .p:=rfl
theorem zom (cs:List LV):(LV.agg cs).cells=cs:=rfl
theorem zqX (k o:Nat):(LV.lp k o).cells=[.lp k o]:=rfl
theorem zol (k n:Nat):(LV.row k n).cells=[.row k n]:=rfl
theorem zqZ (k:Nat):(LV.it k).cells=[.it k]:=rfl
theorem zq0 (f:Fn) (a b:List LV):(LV.fn f a b).cells=[.fn f a b]:=rfl
theorem zj5:LV.yield.cells=[.yield]:=rfl
theorem zq6 (cs:List PV):(PV.agg cs).isAgg=true:=rfl
theorem zyJ (x:Bool):(PV.b x).isAgg=false:=rfl
theorem zyI (k:IntKind) (n:Int):(PV.i k n).isAgg=false:=rfl
theorem zyH (x:ByteArray):(PV.s x).isAgg=false:=rfl
theorem zlE:PV.nilsl.isAgg=false:=rfl
theorem zuO (sz:Nat) (xs:List PV):(PV.sl sz xs).isAgg=false:=rfl
theorem zos:PV.nilp.isAgg=false:=rfl
theorem zuQ (v:PV) (o:Nat):(PV.ip v o).isAgg=false:=rfl
theorem zuR (f:Fn) (a b:List PV):(PV.fn f a b).isAgg=false:=rfl
theorem zot:PV.nilf.isAgg=false:=rfl
theorem zuP (x:List (PV × PV)):(PV.mp x).isAgg=false:=rfl
theorem zq5 (cs:List PV):(PV.agg cs).isAny=false:=rfl
theorem zyG (x:Bool):(PV.b x).isAny=false:=rfl
theorem zyF (k:IntKind) (n:Int):(PV.i k n).isAny=false:=rfl
theorem zyE (x:ByteArray):(PV.s x).isAny=false:=rfl
theorem zlD:PV.nilsl.isAny=false:=rfl
theorem zuK (sz:Nat) (xs:List PV):(PV.sl sz xs).isAny=false:=rfl
theorem zoq:PV.nilp.isAny=false:=rfl
theorem zuM (v:PV) (o:Nat):(PV.ip v o).isAny=false:=rfl
theorem zuN (f:Fn) (a b:List PV):(PV.fn f a b).isAny=false:=rfl
theorem zor:PV.nilf.isAny=false:=rfl
theorem zuL (x:List (PV × PV)):(PV.mp x).isAny=false:=rfl
theorem one_b (x:Bool):(PV.b x).one=true:=rfl
theorem one_i (k:IntKind) (n:Int):(PV.i k n).one=true:=rfl
theorem one_s (x:ByteArray):(PV.s x).one=true:=rfl
theorem zqC:PV.nilsl.one=true:=rfl
theorem zBe (sz:Nat) (xs:List PV):(PV.sl sz xs).one=true:=rfl
theorem zus:PV.nilp.one=true:=rfl
theorem zBf (v:PV) (o:Nat):(PV.ip v o).one=true:=rfl
theorem zBg (f:Fn) (a b:List PV):(PV.fn f a b).one=true:=rfl
theorem zut:PV.nilf.one=true:=rfl
theorem zqY (k:Nat):(LV.lm k).cells=[.lm k]:=rfl
theorem un_lm (k:Nat):(LV.lm k).un=.lm k:=rfl
theorem zCg (k:Nat):(LV.lm k).cnd=true:=rfl
theorem un_p (v:PV):(LV.p v).un=.p v:=rfl
theorem un_g (c:Bool) (q:LV):(LV.g c q).un=q.un:=rfl
theorem un_lp (k o:Nat):(LV.lp k o).un=.lp k o:=rfl
theorem zz8 (k n:Nat):(LV.row k n).un=.row k n:=rfl
theorem un_ep (k n i o:Nat):(LV.ep k n i o).un=.ep k n i o:=rfl
theorem un_it (k:Nat):(LV.it k).un=.it k:=rfl
theorem un_fn (f:Fn) (a b:List LV):(LV.fn f a b).un=.fn f a b:=rfl
theorem zz9 (cs:List LV):(LV.agg cs).un=.agg cs:=rfl
theorem zz7 (cs:List LV):(LV.tup cs).un=.tup cs:=rfl
theorem zsR:LV.yield.un=.yield:=rfl
theorem cnd_p (v:PV):(LV.p v).cnd=true:=rfl
theorem cnd_g (c:Bool) (q:LV):(LV.g c q).cnd=(c && q.cnd):=rfl
theorem zCf (k o:Nat):(LV.lp k o).cnd=true:=rfl
theorem zzB (k n:Nat):(LV.row k n).cnd=true:=rfl
theorem zCj (k n i o:Nat):(LV.ep k n i o).cnd=true:=rfl
theorem zCh (k:Nat):(LV.it k).cnd=true:=rfl
theorem zCi (f:Fn) (a b:List LV):(LV.fn f a b).cnd=true:=rfl
theorem zzC (cs:List LV):(LV.agg cs).cnd=true:=rfl
theorem zzA (cs:List LV):(LV.tup cs).cnd=true:=rfl
theorem zrT:LV.yield.cnd=true:=rfl
theorem zjo {n:Int} (h1:-9223372036854775808<=n) (h2:n<=9223372036854775807):IntKind.i64.wrap n=n:=(zbl _ _).2 ⟨h1,h2⟩
theorem zj {α:Type} {l:List α} {i:Nat} (h:i < l.length):∃ x,l[i]?=some x:=⟨l[i],xac h⟩
mutual
def PV.wf:PV->Prop
 | .i k n=>k.wrap n=n
 | .s x=>x.size<=maxLen
 | .sl _ xs=>xs.length<=maxLen/\wfs xs
 | .agg cs|.tup cs=>wfs cs
 | .fn _ a b=>wfs a/\wfs b
 | _=>True
def wfs:List PV->Prop
 | []=>True
 | v::r=>v.wf/\wfs r
end
theorem zfo:∀ {l:List PV},(∀ (j:Nat) (p:PV),l[j]?=some p->p.wf)->wfs l
 | [],_=>trivial
 | v::r,h=>⟨h 0 v rfl,zfo λj p hp=>h (j+1) p (by simpa using hp)⟩
theorem zsH {v:PV} (h:∀ (j:Nat) (p:PV),v.cells[j]?=some p->p.wf):v.wf:=by
 cases v with
 | agg cs=>exact zfo h
 | _=>exact h 0 _ rfl
theorem Rep.wf (h:Rep w B v p):p.wf:=by
 induction h with
 | i h=>exact h
 | s h=>exact h
 | @agg cs ps h1 _ ih=>
  refine zfo λj p hp=>?_
  have hj:j < cs.size:=h1 ▸ (xaa.1 hp).1;exact ih j _ p (xai hj) hp
 | @tup cs ps h1 _ ih=>
  refine zfo λj p hp=>?_
  have hj:j < cs.size:=h1 ▸ (xaa.1 hp).1;exact ih j _ p (xai hj) hp
 | sl0=>exact ⟨xbk _,trivial⟩
 | sle=>exact ⟨xbk _,trivial⟩
 | sl u h1 h2 h3 h4 h5 h6 h7 _ ih=>exact ⟨by omega,zfo λi x hx=>zsH λj p hp=>ih i x j p hx hp⟩
 | @fn f fs cs ps qs h1 h2 _ _ ih1 ih2=>
  refine ⟨zfo λj p hp=>?_,zfo λj p hp=>?_⟩
  ·have hj:j < fs.size:=h1 ▸ (xaa.1 hp).1;exact ih1 j _ p (xai hj) hp
  ·have hj:j < cs.size:=h2 ▸ (xaa.1 hp).1;exact ih2 j _ p (xai hj) hp
 | _=>trivial
theorem Reps.wf (h:Reps w B vs ps):wfs ps:=
 zfo λj p hp=>by obtain ⟨v,_,hr⟩:=h.get hp;exact hr.wf
theorem zx2 {args:List PV} (hc:zb3 P f) (h:wfs args->Pure P f args r):Pure P f args r:=
 ⟨hc,λw B vs hB hvs=>(h hvs.wf).2 w B vs hB hvs⟩
theorem zhl {x:AC × List RV × Nat} (h:zc7 P f=some x):zb3 P f:=by
 unfold zc7 at h
 split at h
 ·rename_i fn hf
  split at h
  ·cases h
  ·rename_i hname
   split at h
   ·rename_i b hb;exact ⟨fn,b,hf,by simpa using hname,hb⟩
   ·cases h
 ·cases h
theorem zqn {c:AC} (h:zc7 P f=some (c,rs,n)) {args:List PV} (hn:args.length<=n) (hrun:wfs args->∀ X:Fx,X.N=n->Run ⟨P,X,none,[]⟩ c (argSt args) (retQ rs r)):Pure P f args r:=
 zx2 (zhl h) λhw=>zx3 h hn (hrun hw)
end Go.Proofs.YtbgckikhhcbmpaaGreat
