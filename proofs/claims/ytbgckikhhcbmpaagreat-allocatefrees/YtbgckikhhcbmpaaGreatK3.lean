/- Contracts. No conditions. -/
import Derived.KernelRfl
import Derived.Test.YtbgckikhhcbmpaaGreatChecked
import Derived.Laws.RangeAny
import Derived.Shelf.SlSortCmp.NoneTotal
import Derived.Test.YtbgckikhhcbmpaaGreatK2
set_option linter.all false
set_option maxHeartbeats 8000000
set_option maxRecDepth 100000
namespace Go.Proofs.YtbgckikhhcbmpaaGreat
open Go.RowKit Tryz
variable {c y:AC} {x:AOpd} {dr:Bool} {n s:ByteArray} {G:Cfg} {fn lit:Func} {e:Int} {ts:List (List PV)} {es rem:List (PV × PV)} {acc:List Ft} {a b l:List Int} {af:List Nat} {r:List RO} {f i k:Nat} {B:Nat->Prop} {cur:Option (PV × PV)} {d:Option Nat} {q:PV} {kv:PV × PV} {P:Program} {K:St->List Ft->Prop} {u v:Value}
theorem zgQ (b:Nat):∀ {F:List MapEntry} {j:Nat} {e:MapEntry},(F.map (·.born)).Nodup->F[j]?=some e->e.born=b->F.filter (λx=>!(x.born == b))=F.eraseIdx j
 | [],j,e,_,h,_=>by simp at h
 | x::F,0,e,hn,h,hb=>by
  simp at h;subst h;have hn':=xbR.1 (show (x.born::F.map (·.born)).Nodup from hn)
  rw [xa2,if_neg (by simp [hb]),List.eraseIdx_cons_zero]
  refine List.filter_eq_self.2 λy hy=>?_
  have:¬y.born=b:=λk=>hn'.1 (by rw [hb,<-k];exact xcd hy)
  simp [this]
 | x::F,j+1,e,hn,h,hb=>by
  have hn':=xbR.1 (show (x.born::F.map (·.born)).Nodup from hn)
  have h':F[j]?=some e:=by simpa using h
  have hx:¬x.born=b:=λk=>hn'.1 (by rw [k,<-hb];exact xcd (xae h'))
  rw [xa2,if_pos (by simp [hx]),List.eraseIdx_cons_succ,zgQ b hn'.2 h' hb]
def Born.nodup {ents:Array MapEntry} {c:Nat} (h:Born ents c ents.size):(ents.toList.map (·.born)).Nodup:=by
 refine xa1.2 λi j hi hj hlt=>?_
 simp only [List.getElem_map,Array.getElem_toList];intro e;have:=h.inj i j _ _ (xai (by simpa using hi)) (xai (by simpa using hj)) e
 omega
def zqV (ents:List MapEntry) (seen:Array Nat) (b:Nat):ents.filter (λe=>!(seen.push b).contains e.born)=(ents.filter λe=>!seen.contains e.born).filter λe=>!(e.born == b):=by
 rw [List.filter_filter];refine List.filter_congr λe _=>?_
 by_cases h:e.born=b<;>simp [h,Bool.and_comm]
def zcG (s:St) (k:Nat) (o:LObj):(s.wrs [(k,o)]).look=upd s.look k (some o):=by
 have:=zmV s (some (k,o));exact this
section
variable {X:Fx} {C:Ctx} {g:Nat->LV} {look:Nat->Option LObj} {tr:List (List PV)} {stop:Bool} {a:Act} {w:World} {P:Program} {s:St}
def zty {p:PV} (h:Rep w B u p) (k:Rep w B v q):Rep w B (.tuple #[.bool true,u,v]) (.tup [.b true,p,q]):=by
 refine .tup rfl λj x y hx hy=>?_
 match j with
 | 0=>simp at hx hy;subst hx;subst hy;exact .b _
 | 1=>simp at hx hy;subst hx;subst hy;exact h
 | 2=>simp at hx hy;subst hx;subst hy;exact k
 | j+3=>simp at hx
def ztA {p:PV} (h:Rep w B u p) (k:Rep w B v q):Rep w B (.tuple #[u,v]) (.tup [p,q]):=by
 refine .tup rfl λj x y hx hy=>?_
 match j with
 | 0=>simp at hx hy;subst hx;subst hy;exact h
 | 1=>simp at hx hy;subst hx;subst hy;exact k
 | j+2=>simp at hx
def zlr (h:RelC X C g look tr stop a w) {ty:TypeId} (hx:RepL w C look v (.it k)) (hk:look k=some (.mit rem cur)) :
  (rem=[]/\(Instr.next v false ty).run P w=.ok (.tuple #[.bool false]) w) \/
  ∃ (j:Nat) (kv:PV × PV) (u:Value) (w':World),rem[j]?=some kv/\(Instr.next v false ty).run P w=.ok u w'/\RelC X C g (upd look k (some (.mit (rem.eraseIdx j) (some kv)))) tr stop a w'/\Rep w' C.B u (.tup [.b true,kv.1,kv.2]):=by
 cases hx
 rcases h.obj k _ hk with ⟨h1,h2,h3⟩|⟨r,seen,ents,clock,h1,h2,h3,h4,h5,h6,h7⟩
 ·refine .inl ⟨h2,?_⟩;simp [Instr.next,getObj,Sem.run,h1]
 ·have hold:∀ x ∈ ents.toList,x.born < clock:=λx hx=>by
   obtain ⟨i,hi⟩:=xbl.1 hx;exact h4.lt i x (by simpa using hi)
  have hll:(leftOf ents seen).toList=ents.toList.filter λe=>!seen.contains e.born:=by simp [leftOf]
  rcases run_next_at (P:=P) w ty (C.ρ k) r clock clock seen ents clock h2 h3 hold (xap _) with ⟨g1,g2⟩|⟨e,he,w1,g1,g2⟩
  ·refine .inl ⟨?_,g2⟩;rw [<-hll] at h5;exact xay (by rw [<-h5];simpa using g1)
  ·rw [hll] at he;obtain ⟨j,hj⟩:=xbl.1 he;have hjl:=(xaa.1 hj).1;obtain ⟨kv,hkv⟩:∃ kv,rem[j]?=some kv:=⟨_,xac (by omega)⟩
   have hh1:w1.heap=w.heap:=by rcases g1 with rfl|rfl<;>rfl
   have hg:w.grownBy (ChangeMaps.setBlock w1 (C.ρ k) (.mapIter (some r) clock (seen.push e.born) clock)) (some (C.ρ k)):=by
    refine ⟨?_,?_,?_,?_,λb hb hne=>?_⟩
    ·rcases g1 with rfl|rfl<;>rfl
    ·rcases g1 with rfl|rfl<;>rfl
    ·rcases g1 with rfl|rfl<;>rfl
    ·simp [ChangeMaps.setBlock,hh1]
    ·simp only [ChangeMaps.setBlock,hh1];rw [xbY (λe=>hne (by rw [e]))]
   have hB:=zes h hk rfl hg;have hit:(ChangeMaps.setBlock w1 (C.ρ k) (.mapIter (some r) clock (seen.push e.born) clock)).heap[C.ρ k]?=some (.mapIter (some r) clock (seen.push e.born) clock):=by
    have:=Mk.lt_of h2;simp [ChangeMaps.setBlock,hh1,this]
   have hrp:=h6 j e kv hj hkv;have hrp':Rep (ChangeMaps.setBlock w1 (C.ρ k) (.mapIter (some r) clock (seen.push e.born) clock)) C.B e.key kv.1/\Rep (ChangeMaps.setBlock w1 (C.ρ k) (.mapIter (some r) clock (seen.push e.born) clock)) C.B e.val kv.2:=⟨hrp.1.mono (λ_ h=>h) hB,hrp.2.mono (λ_ h=>h) hB⟩
   have hmem:e ∈ ents.toList:=(xbs.1 he).1;have hnd:((ents.toList.filter λe=>!seen.contains e.born).map (·.born)).Nodup:=h4.nodup.sublist (List.filter_sublist.map _)
   have hfil:ents.toList.filter (λx=>!(seen.push e.born).contains x.born)=(ents.toList.filter λe=>!seen.contains e.born).eraseIdx j:=by
    rw [zqV,zgQ e.born hnd hj rfl]
   refine .inr ⟨j,kv,_,_,hkv,g2,?_,zty hrp'.1 hrp'.2⟩;refine h.modify hk trivial rfl rfl rfl rfl rfl rfl rfl rfl (λ_ _=>rfl) (λ_ _ _ _ _ _ e=>by cases e) hg ?_ trivial (λb hb=>.inl hb)
   refine .inr ⟨r,seen.push e.born,ents,clock,h1,hit,(hB _ h1).trans h3,h4,?_,?_,?_⟩
   ·rw [hfil,List.length_eraseIdx_of_lt hjl,List.length_eraseIdx_of_lt (by omega),h5]
   ·intro i m kv' hm hkv';rw [hfil] at hm;rw [List.getElem?_eraseIdx] at hm hkv'
    split at hm
    ·rename_i hlt;rw [if_pos hlt] at hkv';exact ⟨(h6 i m kv' hm hkv').1.mono (λ_ h=>h) hB,(h6 i m kv' hm hkv').2.mono (λ_ h=>h) hB⟩
    ·rename_i hlt;rw [if_neg hlt] at hkv';exact ⟨(h6 _ m kv' hm hkv').1.mono (λ_ h=>h) hB,(h6 _ m kv' hm hkv').2.mono (λ_ h=>h) hB⟩
   ·intro kv' hk';injection hk' with hk';subst hk';exact ⟨e,seen,rfl,hmem,hrp'.1,hrp'.2⟩
def zj1 (h:RelC X C g look tr stop a w) (hx:RepL w C look v (.it k)) (hk:look k=some (.mit rem (some kv))) :
  ∃ u,(Instr.entry v).run P w=.ok u w/\Rep w C.B u (.tup [kv.1,kv.2]):=by
 cases hx
 rcases h.obj k _ hk with ⟨_,_,h3⟩|⟨r,seen,ents,clock,h1,h2,h3,h4,h5,h6,h7⟩
 ·cases h3
 ·obtain ⟨m,seen',rfl,a2,a3,a4⟩:=h7 kv rfl;exact ⟨_,run_entry_at w (C.ρ k) r clock seen' ents clock m h2 h3 a2 h4.nodup,ztA a3 a4⟩
def zjZ (h:RelC X C g look tr stop a w) {t kt et:TypeId} {d:Nat} (ht:P.underlying t=some (.map kt et)) (hx:Rep w C.B v (.mp es)) (hd:look d=none) :
  ∃ (fs:List (PV × PV)) (u:Value) (w':World) (C':Ctx),zkF fs es/\(Instr.range t v).run P w=.ok u w'/\RelC X C' g (upd look d (some (.mit fs none))) tr stop a w'/\RepL w' C' (upd look d (some (.mit fs none))) u (.it d):=by
 have go:∀ (fs:List (PV × PV)) (ob:Obj),(Instr.range t v).run P w=.ok (.pointer (some ⟨w.heap.size,0,none⟩)) (w.alloc ob)->MitOk w C.B (some ob) fs none ->
   ∃ (u:Value) (w':World) (C':Ctx),(Instr.range t v).run P w=.ok u w'/\RelC X C' g (upd look d (some (.mit fs none))) tr stop a w'/\RepL w' C' (upd look d (some (.mit fs none))) u (.it d):=by
  intro fs ob hrun hm;have hb:Below w.heap.size w (w.alloc ob):=(Below.refl _ _).alloc (xap _) _;have h1:=h.grow hb C.B (λ_ h=>h) (λb hb=>.inl hb)
  have hw:∀ b,C.B b->(w.alloc ob).heap[b]?=w.heap[b]?:=λb hbb=>by
   have hlt:=h.blt b hbb;show (w.heap.push ob)[b]?=w.heap[b]?;rw [Array.getElem?_push_lt hlt,xai hlt]
  refine ⟨_,_,{ C with ρ:=upd C.ρ d w.heap.size },hrun,?_,?_⟩
  ·refine h1.lay (o:=.mit fs none) hd rfl rfl rfl rfl rfl (λk hk=>zA _ _ hk) (λ_ _=>rfl) ?_ trivial rfl ?_
   ·show MitOk (w.alloc ob) C.B ((w.alloc ob).heap[upd C.ρ d w.heap.size d]?) fs none;rw [zk];exact MitOk.keep (λ_ h=>h) hw (heap_alloc_new w _) hm
   ·intro b hb2;simp only [blk,zk,xaK] at hb2;subst hb2;refine ⟨h.kx.size,by simp,λhbb=>absurd (h.blt _ hbb) (by omega),λk x hk hbk=>?_,λhx=>?_,h.nle⟩
    ·have h2:blk C k x=some w.heap.size:=by cases x<;>exact hbk
     have:=(h.sep k x _ hk h2).2.1;omega
    ·have:=h.marks.lt _ hx;omega
  ·have:=RepL.it (w:=w.alloc ob) (C:={ C with ρ:=upd C.ρ d w.heap.size }) (l:=upd look d (some (.mit fs none))) (k:=d);simp only [zk] at this;exact this
 cases hx with
 | mp0=>
  obtain ⟨u,w',C',a1,a2,a3⟩:=go [] (.mapIter none 0 #[] 0) (by simp [Instr.range,run_underlying ht,run_newObj_alloc]) (.inl ⟨rfl,rfl,rfl⟩)
  exact ⟨_,u,w',C',.inl rfl,a1,a2,a3⟩
 | @mp r ents clock _ fs h1 h2 h0 h3 h4 h5=>
  have hall:ents.toList.filter (λe=>!(#[]:Array Nat).contains e.born)=ents.toList:=List.filter_eq_self.2 λe _=>by simp
  obtain ⟨u,w',C',a1,a2,a3⟩:=go fs (.mapIter (some r) clock #[] clock) (by simp [Instr.range,run_underlying ht,run_newObj_alloc,MapKept.run_getObj_map h2])
   (.inr ⟨r,#[],ents,clock,h1,rfl,h2,by rw [h3.1];exact h3,by rw [hall];simpa using h3.1,λj m kv hm hkv=>by
    rw [hall] at hm;exact ⟨h4 j m kv (by simpa using hm) hkv,h5 j m kv (by simpa using hm) hkv⟩,λkv hk=>by cases hk⟩)
  exact ⟨fs,u,w',C',h0,a1,a2,a3⟩
def zi3 {oper:Oper} {n:Nat} {l:List AOpd} (h:zao P oper=some (.mit n,l)):∃ x x',zcw x=some x'/\l=[x'] /\
  ((n=0/\∃ t kt et,oper.op=.range t x/\P.underlying t=some (.map kt et))\/(n=1/\oper.op=.next x false)\/(n=2/\oper.op=.entry x)):=by
 unfold zao at h
 split at h
 all_goals first
  | (obtain ⟨x',h1,e⟩:=xab.1 h;injection e with e1 e2;first|(cases e1;done)|(injection e1 with e1;subst e1;subst e2;first|exact ⟨_,_,h1,rfl,.inr (.inl ⟨rfl,‹_›⟩)⟩|exact ⟨_,_,h1,rfl,.inr (.inr ⟨rfl,‹_›⟩)⟩))
  | skip
 all_goals (repeat' split at h)
 all_goals (try (rw [xao] at h;obtain ⟨_,_,h⟩:=h))
 all_goals (try (rw [xao] at h;obtain ⟨_,_,h⟩:=h))
 all_goals (repeat' split at h)
 all_goals first
  | (simp at h;done)
  | (simp only [xaK,xcf,AOp.mit.injEq] at h;obtain ⟨rfl,rfl⟩:=h;exact ⟨_,_,‹_›,rfl,.inl ⟨rfl,_,_,_,‹_›,‹_›⟩⟩)
def zjw {d:Option Nat} {af:List Nat} (hcn:zL (zd s [x])=true) (hx:uns (zd s [x])=[.it k]) (hk:s.look k=some (.mit rem cur)) :
  zdZ P s ⟨d,.mit 1,[x],none,af⟩ λs'=>(rem=[]/\s'=s.set d (.p (.tup [.b false])))\/∃ j kv,rem[j]?=some kv/\s'=(s.wrs [(k,.mit (rem.eraseIdx j) (some kv))]).set d (.p (.tup [.b true,kv.1,kv.2])):=by
 intro X C a w ops oper ro K Q hc hM h hK;have hr:=zas hc;have hdst:∀ k,d=some k->k < X.N:=λk hk=>hr.hdst k (by rw [<-hr.hd];exact hk)
 rw [zO h hr (show gOf s (none:Option (Nat × Bool))=some true from rfl),if_pos rfl]
 obtain ⟨y,y',hy,hl,ho⟩:=zi3 hr.hc;injection hl with hl;subst hl;have hop:oper.op=.next y false:=by rcases ho with ⟨h,_⟩|⟨_,h⟩|⟨h,_⟩<;>first|exact h|omega
 have hi:=(zj9 (za2 h rfl hcn) hy).1;have e0:(x.ev s).un=.it k:=by simpa [uns,zd] using hx
 rw [e0] at hi
 rcases zlr (P:=P) (ty:=oper.type) h hi hk with ⟨h1,h2⟩|⟨j,kv,u,w',h1,h2,h3,h4⟩
 ·refine zby (v:=.tuple #[.bool false]) (w':=w) (zaW hr.hc) (.inl (by simp [execOp,hop,h2])) ?_
  rw [<-hr.hd];have hv:Rep w C.B (.tuple #[.bool false]) (.tup [.b false]):=.tup rfl λj v p hv hp=>by
   match j with
   | 0=>simp at hv hp;subst hv;subst hp;exact .b _
   | j+1=>simp at hv
  exact hK _ _ _ _ (.inl ⟨h1,rfl⟩) (by rw [(zV _ _ _).1,(zV _ _ _).2];exact zaD h hdst (.p hv) (.p _))
 ·refine zby (v:=u) (w':=w') (zaW hr.hc) (.inl (by simp [execOp,hop,h2])) ?_
  rw [<-hr.hd];refine hK _ C _ _ (.inr ⟨j,kv,h1,rfl⟩) ?_;rw [(zV _ _ _).1,(zV _ _ _).2,(za8 _ _).1,(za8 _ _).2];exact zaD (s:=s.wrs [(k,.mit (rem.eraseIdx j) (some kv))]) (by rw [zcA,zcG];exact h3) hdst (.p h4) (.p _)
def zh5 {d:Option Nat} {af:List Nat} (hcn:zL (zd s [x])=true) (hx:uns (zd s [x])=[.it k]) (hk:s.look k=some (.mit rem (some kv))) :
  zdZ P s ⟨d,.mit 2,[x],none,af⟩ λs'=>s'=s.set d (.p (.tup [kv.1,kv.2])):=by
 intro X C a w ops oper ro K Q hc hM h hK;have hr:=zas hc;have hdst:∀ k,d=some k->k < X.N:=λk hk=>hr.hdst k (by rw [<-hr.hd];exact hk)
 rw [zO h hr (show gOf s (none:Option (Nat × Bool))=some true from rfl),if_pos rfl]
 obtain ⟨y,y',hy,hl,ho⟩:=zi3 hr.hc;injection hl with hl;subst hl;have hop:oper.op=.entry y:=by rcases ho with ⟨h,_⟩|⟨h,_⟩|⟨_,h⟩<;>first|exact h|omega
 have hi:=(zj9 (za2 h rfl hcn) hy).1;have e0:(x.ev s).un=.it k:=by simpa [uns,zd] using hx
 rw [e0] at hi;obtain ⟨u,h1,h2⟩:=zj1 (P:=P) h hi hk;refine zby (v:=u) (w':=w) (zaW hr.hc) (.inl (by simp [execOp,hop,h1])) ?_
 rw [<-hr.hd];exact hK _ _ _ _ rfl (by rw [(zV _ _ _).1,(zV _ _ _).2];exact zaD h hdst (.p h2) (.p _))
def zh4 {d:Nat} {af:List Nat} (hcn:zL (zd s [x])=true) (hx:uns (zd s [x])=[.p (.mp es)]) (hd:s.look d=none) :
  zdZ P s ⟨some d,.mit 0,[x],none,af⟩ λs'=>∃ fs,zkF fs es/\s'=(s.wrs [(d,.mit fs none)]).set (some d) (.it d):=by
 intro X C a w ops oper ro K Q hc hM h hK;have hr:=zas hc;have hdst:∀ k,some d=some k->k < X.N:=λk hk=>hr.hdst k (by rw [<-hr.hd];exact hk)
 rw [zO h hr (show gOf s (none:Option (Nat × Bool))=some true from rfl),if_pos rfl]
 obtain ⟨y,y',hy,hl,ho⟩:=zi3 hr.hc;injection hl with hl;subst hl;obtain ⟨t,kt,et,hop,ht⟩:∃ t kt et,oper.op=.range t y/\P.underlying t=some (.map kt et):=by rcases ho with ⟨_,h⟩|⟨h,_⟩|⟨h,_⟩<;>first|exact h|omega
 have hi:=(zj9 (za2 h rfl hcn) hy).1;have e0:(x.ev s).un=.p (.mp es):=by simpa [uns,zd] using hx
 rw [e0] at hi;obtain ⟨fs,u,w',C',h1,h2,h3,h4⟩:=zjZ (P:=P) h ht (ze hi) hd;refine zby (v:=u) (w':=w') (zaW hr.hc) (.inl (by simp [execOp,hop,h2])) ?_
 rw [<-hr.hd];refine hK _ C' _ _ ⟨fs,h1,rfl⟩ ?_;rw [(zV _ _ _).1,(zV _ _ _).2,(za8 _ _).1,(za8 _ _).2];exact zaD (s:=s.wrs [(d,.mit fs none)]) (by rw [zcA,zcG];exact h3) hdst (by rw [zcG];exact h4) (.im (by rw [zcG];exact zk _ _ _))
end
section
variable {P:Program} {ts:List (List PV)} {K:St->List Ft->Prop} {acc:List Ft} {af:List Nat} {r:List RO} {s:St} {x:AOpd}
def znQ {d:Nat} (hn:∀ fs,zkF fs es->zF false (zp P ts false K) r ((s.wrs [(d,.mit fs none)]).set (some d) (.it d)) acc)
  (hx:uns (zd s [x])=[.p (.mp es)]:=by first|exact rnE|fail) (hcn:zL (zd s [x])=true:=by first|exact rnD|fail) (hd:s.look d=none:=by first|exact rnE|fail):zp P ts false K (⟨some d,.mit 0,[x],none,af⟩::r) s acc:=
 zem (zh4 hcn hx hd) λs' ⟨fs,h1,h2⟩=>by rw [h2];exact zw (hn fs h1)
def zpW {k:Nat} {cur:Option (PV × PV)} (h0:rem=[]->zF false (zp P ts false K) r (s.set d (.p (.tup [.b false]))) acc)
  (hn:∀ j kv,rem[j]?=some kv->zF false (zp P ts false K) r ((s.wrs [(k,.mit (rem.eraseIdx j) (some kv))]).set d (.p (.tup [.b true,kv.1,kv.2]))) acc)
  (hx:uns (zd s [x])=[.it k]:=by first|exact rnE|fail) (hk:s.look k=some (.mit rem cur):=by first|exact rnE|fail) (hcn:zL (zd s [x])=true:=by first|exact rnD|fail):zp P ts false K (⟨d,.mit 1,[x],none,af⟩::r) s acc:=
 zem (zjw hcn hx hk) λs' h=>by
  rcases h with ⟨h1,h2⟩|⟨j,kv,h1,h2⟩
  ·rw [h2];exact zw (h0 h1)
  ·rw [h2];exact zw (hn j kv h1)
def znR {k:Nat} {rem:List (PV × PV)} (hn:zF false (zp P ts false K) r (s.set d (.p (.tup [kv.1,kv.2]))) acc)
  (hx:uns (zd s [x])=[.it k]:=by first|exact rnE|fail) (hk:s.look k=some (.mit rem (some kv)):=by first|exact rnE|fail) (hcn:zL (zd s [x])=true:=by first|exact rnD|fail):zp P ts false K (⟨d,.mit 2,[x],none,af⟩::r) s acc:=
 zem (zh5 hcn hx hk) λs' h=>by rw [h];exact zw hn
end
theorem zlt (key u:PV):∀ es:List (PV × PV),zfa key es < (mput key u es).length
 | []=>by simp [zfa,mput]
 | (k,w)::r=>by
  have ih:=zlt key u r;cases hc:eqCells key.cells k.cells with
  | true=>simp [zfa,mput,hc]
  | false=>simp [zfa,mput,hc,ih]
theorem zmU (key u v:PV) (h:eqCells key.cells key.cells=true):∀ es:List (PV × PV),mat (zfa key es) v (mput key u es)=mput key v es
 | []=>by simp [zfa,mput,mat]
 | (k,w)::r=>by
  have ih:=zmU key u v h r;cases hc:eqCells key.cells k.cells with
  | true=>simp [zfa,mput,mat,hc]
  | false=>
   have hlt:=zlt key u r;simp only [mat] at ih ⊢;simp only [zfa,mput,hc,xaD,if_false,xbj];rw [xac hlt] at ih ⊢;simp only [List.set_cons_succ] at ih ⊢;rw [ih]
noncomputable abbrev qP:Program:=prog
def qT:((((((zC qP 3=some false/\zC qP 46=some true)/\(zC qP 51=some true/\(zC qP 28=some false/\zC qP 61=some true)))/\((zC qP 65=some true/\(zC qP 9=some false/\zC qP 4=some false))/\(zC qP 79=some true/\(zC qP 84=some true/\zC qP 109=some false))))/\(((zC qP 113=some true/\(zC qP 44=some false/\zC qP 131=some true))/\(zC qP 137=some true/\(zC qP 23=some false/\zC qP 29=some false)))/\((zC qP 142=some false/\(zC qP 149=some true/\zC qP 152=some true))/\(zC qP 144=some false/\(zC qP 148=some true/\zC qP 165=some true)))))/\((((zC qP 32=some false/\(zC qP 184=some true/\zC qP 59=some true))/\(zC qP 194=some true/\(zC qP 210=some true/\zC qP 57=some true)))/\((zC qP 217=some true/\(zC qP 127=some true/\zC qP 171=some true))/\(zC qP 227=some false/\(zC qP 87=some false/\zC qP 175=some false))))/\(((zC qP 268=some false/\(zC qP 228=some false/\zC qP 38=some false))/\(zC qP 240=some false/\(zC qP 274=some false/\zC qP 273=some false)))/\((zC qP 314=some true/\(zC qP 187=some false/\zC qP 168=some false))/\(zC qP 336=some false/\(bytesOf qP 65=some 192/\bytesOf qP 61=some 192))))))/\(((((bytesOf qP 79=some 32/\bytesOf qP 3=some 8)/\(bytesOf qP 84=some 112/\(bytesOf qP 194=some 80/\bytesOf qP 113=some 72)))/\((bytesOf qP 9=some 16/\(bytesOf qP 137=some 40/\bytesOf qP 152=some 16))/\(bytesOf qP 171=some 16/\(bytesOf qP 131=some 112/\bytesOf qP 148=some 16))))/\(((bytesOf qP 165=some 32/\(bytesOf qP 184=some 24/\bytesOf qP 210=some 40))/\(bytesOf qP 217=some 72/\(bytesOf qP 29=some 8/\(flatK qP 10 137=some [2,1,1,1]/\qP.eqGuardType qP.depth 137=false))))/\(((flatK qP 10 79=some [2,1,0]/\qP.eqGuardType qP.depth 79=false)/\((flatK qP 10 165=some [2,1,0]/\qP.eqGuardType qP.depth 165=false)/\(flatK qP 10 194=some [1,2,2,1,1,1,2]/\qP.eqGuardType qP.depth 194=false)))/\((flatK qP 10 210=some [2,1,1,1]/\qP.eqGuardType qP.depth 210=false)/\((flatK qP 10 57=some [1,1,1]/\qP.eqGuardType qP.depth 57=false)/\(flatK qP 10 149=some [1,1]/\qP.eqGuardType qP.depth 149=false))))))/\(((((flatK qP 10 152=some [1,1]/\qP.eqGuardType qP.depth 152=false)/\((flatK qP 10 171=some [1,1]/\qP.eqGuardType qP.depth 171=false)/\zjl qP 171=some ([1,1],true)))/\(zjl qP 9=some ([2],false)/\(zjl qP 314=some ([2,2],true)/\zH qP 79 [0]=some [(0,1)])))/\((zH qP 137 [0,1,2,3]=some [(0,1),(1,1),(2,1),(3,1)]/\(zH qP 46 []=some []/\zH qP 46 [0,1,2]=some [(0,1),(1,1),(2,1)]))/\(zH qP 51 [0,1,2]=some [(0,1),(1,1),(2,1)]/\(zH qP 51 []=some []/\zH qP 149 [0,1]=some [(0,1),(1,1)]))))/\(((zH qP 165 [0]=some [(0,1)]/\(zH qP 165 [0,1,2]=some [(0,1),(1,1),(2,1)]/\zH qP 148 [0,1]=some [(0,1),(1,1)]))/\(zH qP 137 [0]=some [(0,1)]/\(zH qP 210 [0]=some [(0,1)]/\zH qP 217 [0,1,2,3,4,5]=some [(0,1),(1,1),(2,1),(3,1),(4,1),(5,1)])))/\((zH qP 127 []=some []/\(zH qP 57 [0,1,2]=some [(0,1),(1,1),(2,1)]/\zH qP 131 [0,1,3,4,5,6,7,8]=some [(0,1),(1,1),(3,1),(4,1),(5,1),(6,1),(7,3),(10,1)]))/\(zH qP 79 [0,1,2]=some [(0,1),(1,1),(2,1)]/\(zH qP 59 [0,1,2,5,6,7]=some [(0,1),(1,1),(2,1),(5,1),(6,3),(9,1)]/\zH qP 61 [0,1,2,3,4,5]=some [(0,13),(13,1),(14,1),(15,1),(16,1),(17,1)])))))))/\((((((zH qP 230 [0,1,2]=some [(0,1),(1,1),(2,1)]/\zH qP 152 [0,1]=some [(0,1),(1,1)])/\(zH qP 184 [0,1,2]=some [(0,1),(1,1),(2,1)]/\(zH qP 194 [0,1,2,3,4,5,6]=some [(0,1),(1,1),(2,1),(3,1),(4,1),(5,1),(6,1)]/\zH qP 113 [0,1,2,3,4,5]=some [(0,1),(1,1),(2,1),(3,1),(4,1),(5,1)])))/\((zH qP 171 [0,1]=some [(0,1),(1,1)]/\(zH qP 79 [0,1]=some [(0,1),(1,1)]/\zH qP 127 [0,1,2]=some [(0,1),(1,1),(2,1)]))/\(zH qP 314 [0,1]=some [(0,1),(1,1)]/\(zH qP 280 [0]=some [(0,1)]/\zX qP 3=some 1))))/\(((zX qP 46=some 4/\(zX qP 51=some 4/\zX qP 28=some 1))/\(zX qP 61=some 18/\(zX qP 65=some 18/\zX qP 59=some 13)))/\((zX qP 9=some 1/\(zX qP 79=some 3/\zX qP 4=some 1))/\(zX qP 84=some 11/\(zX qP 194=some 7/\zX qP 109=some 1)))))/\((((zX qP 113=some 6/\(zX qP 44=some 1/\zX qP 127=some 3))/\(zX qP 131=some 11/\(zX qP 137=some 4/\zX qP 23=some 1)))/\((zX qP 29=some 1/\(zX qP 142=some 1/\zX qP 144=some 1))/\(zX qP 149=some 2/\(zX qP 152=some 2/\zX qP 171=some 2))))/\(((zX qP 148=some 2/\(zX qP 165=some 3/\zX qP 32=some 1))/\(zX qP 184=some 3/\(zX qP 57=some 3/\zX qP 210=some 4)))/\((zX qP 217=some 6/\(zX qP 227=some 1/\zX qP 38=some 1))/\(zX qP 240=some 1/\(zX qP 87=some 1/\zX qP 175=some 1))))))/\(((((zX qP 268=some 1/\zX qP 280=some 1)/\(zX qP 228=some 1/\(zX qP 274=some 1/\zX qP 273=some 1)))/\((zX qP 314=some 2/\(zX qP 336=some 1/\zX qP 187=some 1))/\(zX qP 168=some 1/\(zB qP 3=some (.i .i64 0)/\zB qP 46=some (.agg [(.i .i64 0),(.i .i64 0),(.i .i64 0),.nilsl])))))/\(((zB qP 51=some (.agg [(.i .i64 0),(.i .i64 0),(.i .i64 0),.nilsl])/\(zB qP 65=some (.agg [(.s (bs [])),(.s (bs [])),(.s (bs [])),(.s (bs [])),(.s (bs [])),(.s (bs [])),(.i .i64 0),(.i .i64 0),(.i .i64 0),(.i .i64 0),(.i .i64 0),(.i .i64 0),(.i .i64 0),(.i .i64 0),(.i .i64 0),(.i .i64 0),(.i .i64 0),(.i .i64 0)])/\zB qP 61=some (.agg [(.s (bs [])),(.s (bs [])),(.s (bs [])),(.s (bs [])),(.s (bs [])),(.s (bs [])),(.i .i64 0),(.i .i64 0),(.i .i64 0),(.i .i64 0),(.i .i64 0),(.i .i64 0),(.i .i64 0),(.i .i64 0),(.i .i64 0),(.i .i64 0),(.i .i64 0),(.i .i64 0)])))/\(zB qP 79=some (.agg [(.s (bs [])),(.i .i64 0),(.b false)])/\(zB qP 84=some (.agg [(.s (bs [])),(.s (bs [])),(.s (bs [])),(.i .i64 0),(.i .i64 0),(.i .i64 0),(.i .i64 0),(.i .i64 0),(.i .i64 0),(.i .i64 0),(.i .i64 0)])/\zB qP 194=some (.agg [(.i .i64 0),(.s (bs [])),(.s (bs [])),(.i .i64 0),(.i .i64 0),(.i .i64 0),(.s (bs []))]))))/\((zB qP 113=some (.agg [(.s (bs [])),(.i .i64 0),(.i .i64 0),(.i .i64 0),(.i .i64 0),.nilsl])/\(zB qP 9=some (.s (bs []))/\zB qP 127=some (.agg [(.i .i64 0),(.i .i64 0),(.i .i64 0)])))/\(zB qP 131=some (.agg [(.s (bs [])),(.s (bs [])),(.s (bs [])),(.i .i64 0),(.i .i64 0),(.i .i64 0),(.i .i64 0),(.i .i64 0),(.i .i64 0),(.i .i64 0),(.i .i64 0)])/\(zB qP 137=some (.agg [(.s (bs [])),(.i .i64 0),(.i .i64 0),(.i .i64 0)])/\zB qP 29=some (.i .i64 0))))))/\((((zB qP 28=some .nilsl/\(zB qP 142=some .nilp/\zB qP 144=some .nilf))/\(zB qP 149=some (.agg [(.i .i64 0),(.i .i64 0)])/\(zB qP 152=some (.agg [(.i .i64 0),(.i .i64 0)])/\zB qP 171=some (.agg [(.i .i64 0),(.i .i64 0)]))))/\((zB qP 148=some (.agg [(.i .i64 0),(.i .i64 0)])/\(zB qP 165=some (.agg [(.s (bs [])),(.i .i64 0),(.b false)])/\zB qP 4=some (.b false)))/\(zB qP 184=some (.agg [(.i .i64 0),(.i .i64 0),(.i .i64 0)])/\(zB qP 59=some (.agg [(.s (bs [])),(.s (bs [])),(.s (bs [])),(.s (bs [])),(.s (bs [])),(.s (bs [])),(.i .i64 0),(.i .i64 0),(.i .i64 0),(.i .i64 0),(.i .i64 0),(.i .i64 0),(.i .i64 0)])/\zB qP 210=some (.agg [(.s (bs [])),(.i .i64 0),(.i .i64 0),(.i .i64 0)])))))/\(((zB qP 109=some .nilsl/\(zB qP 217=some (.agg [(.s (bs [])),(.i .i64 0),(.i .i64 0),(.i .i64 0),(.i .i64 0),.nilsl])/\zB qP 57=some (.agg [(.i .i64 0),(.i .i64 0),(.i .i64 0)])))/\(zB qP 230=some (.agg [.nilsl,(.mp []),(.mp [])])/\(zB qP 38=some .nilsl/\zB qP 240=some .nilf)))/\((zB qP 87=some .nilsl/\(zB qP 268=some (.mp [])/\zB qP 280=some (.agg [.nilf])))/\(zB qP 274=some .nilsl/\(zB qP 314=some (.agg [(.s (bs [])),(.s (bs []))])/\zB qP 336=some (.i .u64 0)))))))):=by repeat' first|apply And.intro|kernel_rfl
def qU:=aI (aI (aI (aI (aI @underlying38 (aI @underlying3 @underlying63)) (aI (aI @underlying26 @underlying65) (aI @underlying61 @underlying59))) (aI (aI @underlying9 (aI @underlying23 @underlying29)) (aI (aI @underlying28 @underlying79) (aI @underlying5 @underlying4)))) (aI (aI (aI @underlying22 (aI @underlying84 @underlying87)) (aI (aI @underlying111 @underlying109) (aI @underlying113 @underlying44))) (aI (aI (aI @underlying32 @underlying92) (aI @underlying137 @underlying46)) (aI (aI @underlying131 @underlying223) (aI @underlying150 @underlying153))))) (aI (aI (aI (aI @underlying160 (aI @underlying39 @underlying165)) (aI (aI @underlying149 @underlying152) (aI @underlying178 @underlying148))) (aI (aI (aI @underlying51 @underlying57) (aI @underlying96 @underlying210)) (aI (aI @underlying194 @underlying184) (aI @underlying118 @underlying217)))) (aI (aI (aI @underlying230 (aI @underlying227 @underlying171)) (aI (aI @underlying266 @underlying268) (aI @underlying282 @underlying228))) (aI (aI (aI @underlying21 @underlying301) (aI @underlying309 @underlying313)) (aI (aI @underlying274 @underlying336) (aI @underlying311 @underlying280)))))
def cI {n:Int} (h:-9223372036854775808<=n/\n<=9223372036854775807):zfh (.int .i64 n)=some (.i .i64 n):=if_pos (zjo h.1 h.2)
def cS {l:List UInt8} (h:l.length<=9223372036854775807):zfh (.string ⟨l.toArray⟩)=some (.s (bs l)):=if_pos h
def cB {x:Bool}:zfh (.bool x)=some (.b x):=rfl
def cN:zfh (.pointer none)=some .nilp:=rfl
def cL:zfh (.slice none 0 0)=some .nilsl:=rfl
def cG:zfh .nilFunc=some .nilf:=rfl
def cM:zfh (.map none)=some (.mp []):=rfl
def mG:(Region.Mode.any == Region.Mode.gc)=false:=rfl
def mT:(Region.Mode.any == Region.Mode.text)=false:=rfl
def zoS (P:Program) (fn:Func):Option (AC × List RV × Nat):=match fn.body with
 | some b=>match zI P fn.ntmps b,zaF P fn.results.toList with
  | some c,some rs=>if fn.ntmps<=GB then some (c,rs,fn.ntmps) else none
  | _,_=>none
 | none=>none
def cF {x:AC × List RV × Nat} (hf:prog.funcs[f]?=some fn) (he:fn=lit) (h:zoS prog lit=some x:=by
  (conv=>lhs;simp only [qT,qU,cI,cS,cB,cN,cL,cG,cM,zoS,zI,zbt,zcN,zao,zap,zcw,zsv,zkl,zaF,GB,Region.binds,mG,mT,Int.reduceNeg,Int.reduceLE,Nat.reduceLeDiff,Nat.reduceLT,and_self,reduceIte,xcn,Option.map_none,xbN,Option.bind_none,xaz,xbB,xaj,xaF,xb4,List.filterMap_nil,xaL,xaM,xbJ,xbj,xcl,Option.all_some,Option.all_none,decide_true,decide_eq_true_eq,xcu,Option.toList_none,PV.cells,PV.isAgg,Nat.reduceAdd,Nat.reduceMul,Nat.reducePow,reduceCtorEq,Option.isSome_some,xcj,xaD,xb3,List.size_toArray,Array.size_empty])
  try exact rfl) (hn : (fn.name == "runtime.NumGoroutine") = false := by kernel_rfl) : zc7 prog f = some x := by
 subst he
 unfold zc7
 rw [hf]
 show (if _ then _ else _)=_
 rw [hn,if_neg (by simp)]
 exact h
def pz {rs:List RV} {n:Nat} {args:List PV} {r:PV} (hf:prog.funcs[f]?=some fn) (he:fn=lit) (hrun:wfs args→∀ X:Fx,X.N=n→Run ⟨prog,X,none,[]⟩ c (argSt args) (retQ rs r)) (h:zoS prog lit=some (c,rs,n):=by
  (conv=>lhs;simp only [qT,qU,cI,cS,cB,cN,cL,cG,cM,zoS,zI,zbt,zcN,zao,zap,zcw,zsv,zkl,zaF,GB,Region.binds,mG,mT,Int.reduceNeg,Int.reduceLE,Nat.reduceLeDiff,Nat.reduceLT,and_self,reduceIte,xcn,Option.map_none,xbN,Option.bind_none,xaz,xbB,xaj,xaF,xb4,List.filterMap_nil,xaL,xaM,xbJ,xbj,xcl,Option.all_some,Option.all_none,decide_true,decide_eq_true_eq,xcu,Option.toList_none,PV.cells,PV.isAgg,Nat.reduceAdd,Nat.reduceMul,Nat.reducePow,reduceCtorEq,Option.isSome_some,xcj,xaD,xb3,List.size_toArray,Array.size_empty])
  try exact rfl) (hg : (fn.name == "runtime.NumGoroutine") = false := by kernel_rfl) (hn : args.length ≤ n := by simp) : Pure prog f args r := zqn (cF hf he h hg) hn hrun
def mixed:prog.follows .mixedOrders=true:=by kernel_rfl
instance:Mx prog:=⟨mixed⟩
def run_ownL {κ:Type} {Q:zam} {s:St} (k e sz:Nat) (inv:κ->St) (ok:κ->Prop) (μ:κ->Nat) (k0:κ) (h0:Own k e sz s (inv k0).env ((inv k0).obj.filter λx=>!(x.1 == k))/\Cov ⟨(inv k0).env,(k,.row e sz [] false)::(inv k0).obj.filter λx=>!(x.1 == k),s.tr,s.stop⟩ (inv k0)) (hk0:ok k0) (hbody:∀ k,ok k->Run G c (inv k) (loopK inv ok μ k Q)):Run G (.loop c) s Q:=
 zaB k e sz _ _ h0.1 (zh inv ok μ k0 h0.2 hk0 hbody)
def gO {p q:Prop} (hq:q) (h:p=q:=by first|(simp only [Own,za9,za3,zcg,zaT,xa2,List.filter_nil,qS,seval];done)|(simp only [Own,za9,za3,zcg,zaT,xa2,List.filter_nil,qS,seval];exact rfl)):p:=h.mpr hq
section
variable {P:Program} {ts:List (List PV)} {dr:Bool} {K:St->List Ft->Prop} {acc:List Ft} {d:Option Nat} {f:Nat} {args:List AOpd} {gd:Option (Nat × Bool)} {af:List Nat} {r:List RO} {s:St} {vs:List PV} {res:PV}
end
structure Per where
 fro:Int
 to:Int
 days:Int
variable {p:Per}
abbrev Per.pv (p:Per):PV:=.agg [.i .i64 p.fro,.i .i64 p.to,.i .i64 p.days]
def inM (mask wd:Int):Bool:=decide (mask / 2 ^ wd.toNat % 2=1)
def rng (n lo hi:Int):Int:=if n < lo\/hi < n then 3 else 0
def zzM:∀ m < 128,∀ w < 7,(decide (bits .and .i64 (Int.fdiv (Int.ofNat m) (2 ^ (min w 64))) 1=1))=inM (Int.ofNat m) (Int.ofNat w):=by decide +kernel
def zn:List Int->Int
 | []=>0
 | e::r=>if e=0 then zn r else e
def zgO:∀ {i:Nat},(∀ x ∈ l.take i,x=0)->zn l=zn (l.drop i):=by
 induction l with
 | nil=>intro i _;simp
 | cons e r ih=>
  intro i h;cases i with
  | zero=>rfl
  | succ i=>
   have he:e=0:=h e (by simp)
   subst he;simp only [zn,if_true,xbz];exact ih λx hx=>h x (by simp [hx])
def zbr {x:Int} (h:∀ x ∈ l.take i,x=0) (hx:l[i]?=some x) (hn:x≠0):zn l=x:=by
 rw [zgO h];obtain ⟨hi,rfl⟩:=xaa.1 hx;rw [xaE hi,zn,if_neg hn]
def zbj (h:∀ x ∈ l.take l.length,x=0):zn l=0:=by
 rw [zgO h,xbM];rfl
def zb0 {x:Int} (h:∀ x ∈ l.take i,x=0) (hx:l[i]?=some x) (h0:x=0):∀ x ∈ l.take (i+1),x=0:=by
 intro y hy;rw [xaW,hx] at hy
 rcases xaS.1 hy with hy|hy
 ·exact h y hy
 ·simp at hy;omega
def zbx (p:Per):Int:=zn [rng p.fro 0 99999,rng p.to 0 99999,if p.to < p.fro then 11 else 0,if 400 < p.to - p.fro then 4 else 0,rng p.days 1 127]
def zdR {n a b:Int}:rng n a b=0↔a<=n/\n<=b:=by
 unfold rng
 split
 ·rename_i h;omega
 ·rename_i h;omega
def gC {x:AC} {s:St} {Q:zam} {o:AOpd} {t:Bool} {p q:Prop} (h1:p->Run G x s Q) (h2:q->Run G y s Q) (ht:o.ev s=.p (.b t):=by simp (disch:=omega) only [qS,qe,seval]<;>rfl) (hp:(t=true)=p:=by first|(simp only [qH,zdR]<;>rfl)|rfl) (hq:(t=false)=q:=by first|(simp only [qH,zdR]<;>rfl)|rfl):Run G (.cond o x y) s Q:=by
 subst hp;subst hq;exact ztn ht h1 h2
def gG {p q:Prop} (h:q) (k:q->p:=by intro h;first|exact gS h|exact gY h|exact gZ h|exact Z _ _ h|fail):p:=k h
structure Hd (c q:Prop):Prop where
 o:c->q
structure NM (f:Nat) (q:PV):Prop where
def nm (f:Nat) (q:PV):NM f q:=⟨⟩
def run_callFX {args:List AOpd} {gd:Option (Nat × Bool)} {s:St} (h:NM f q) (hn:zF dr (zp P ts dr K) r (s.set d (fin gd false (.p q))) (zT dr acc s ⟨d,.call f,args,gd,af⟩ [])) (hc:gOf s gd=some false:=by first|rfl|(simp (disch:=omega) only [qG,qe,seval]<;>rfl)):zp P ts dr K (⟨d,.call f,args,gd,af⟩::r) s acc:=zaQ q hc (zw hn)
structure SX (l:List (Nat × Nat)) (p:Prop):Prop where
 o:p
def run_callSY {args:List AOpd} {s:St} {l:List (Nat × Nat)} {vs:List LV} {obj obj':List (Nat × LObj)} {res:LV} (hf:SX l (zbk P f vs obj res obj')) (hn:zF dr (zp P ts dr K) r ((s.wrs (zdb (rn l) obj')).set d (res.ren (rn l))) (zT dr acc s ⟨d,.call f,args,none,af⟩ (zdb (rn l) obj'))) (ha:uns (zd s args)=rens (rn l) vs:=by first|exact rnE|fail) (hp:zL (zd s args)=true:=by first|exact rnD|fail) (h1:lentO s (rn l) obj:=by first|exact rnT|fail) (h2:newO s (rn l) obj obj':=by first|exact rnO|fail) (h3:(obj'.map λx=>rn l x.1).Nodup:=by first|decide|(simp only [xaj,xaF];decide)|simp):zp P ts dr K (⟨d,.call f,args,none,af⟩::r) s acc:=zf l hf.o hn ha hp h1 h2 h3
def gD2 {p:Prop} (h:p:=by repeat' first|refine gC ?_ ?_<;>intro hc<;>try contradiction|refine za (jA ..) ?_|refine za (jB ..) ?_|refine zg (λ_=>jA ..) ?_|refine zg (λ_=>jB ..) ?_|refine zo (jA ..) ?_|refine zo (jB ..) ?_|refine zl (jA ..) ?_|refine zl (jB ..) ?_|refine run_callFX (jA ..) ?_|refine run_callFX (jB ..) ?_|refine run_callSY (jA ..) ?_|refine run_callSY (jB ..) ?_|refine gG ?_|show AK _;intro J Z|refine gJ ?_|omega|exact trivial|exact .refl _|fail):p:=h
def gE2 {p q:Prop} (a:q) (h:Hd True q->p:=by intro ha;(repeat' first|refine gC ?_ ?_<;>intro hc<;>try contradiction|refine za (jA ..) ?_|refine za (jB ..) ?_|refine zg (λ_=>jA ..) ?_|refine zg (λ_=>jB ..) ?_|refine zo (jA ..) ?_|refine zo (jB ..) ?_|refine zl (jA ..) ?_|refine zl (jB ..) ?_|refine run_callFX (jA ..) ?_|refine run_callFX (jB ..) ?_|refine run_callSY (jA ..) ?_|refine run_callSY (jB ..) ?_|refine gG ?_|show AK _;intro J Z|refine gJ ?_|omega|exact aT);exact ha.o trivial):p:=h ⟨λ_=>a⟩
def gF2 {p c q d r:Prop} (a:c->q) (b:d->r) (h:Hd c q->Hd d r->p:=by intro ha hb;(repeat' first|refine gC ?_ ?_<;>intro hc<;>try contradiction|refine za (jA ..) ?_|refine za (jB ..) ?_|refine zg (λ_=>jA ..) ?_|refine zg (λ_=>jB ..) ?_|refine zo (jA ..) ?_|refine zo (jB ..) ?_|refine zl (jA ..) ?_|refine zl (jB ..) ?_|refine run_callFX (jA ..) ?_|refine run_callFX (jB ..) ?_|refine run_callSY (jA ..) ?_|refine run_callSY (jB ..) ?_|refine gG ?_|show AK _;intro J Z|refine gJ ?_|omega|exact aT);exact ha.o hc;exact hb.o hc):p:=h ⟨a⟩ ⟨b⟩
def gD5 {p:Prop} (h:p:=by repeat' first|refine gC ?_ ?_<;>intro hc<;>try contradiction|refine za (jA ..) ?_|refine za (jB ..) ?_|refine za (jC ..) ?_|refine za (jD ..) ?_|refine za (jE ..) ?_|refine zg (λ_=>jA ..) ?_|refine zg (λ_=>jB ..) ?_|refine zg (λ_=>jC ..) ?_|refine zg (λ_=>jD ..) ?_|refine zg (λ_=>jE ..) ?_|refine zo (jA ..) ?_|refine zo (jB ..) ?_|refine zo (jC ..) ?_|refine zo (jD ..) ?_|refine zo (jE ..) ?_|refine zl (jA ..) ?_|refine zl (jB ..) ?_|refine zl (jC ..) ?_|refine zl (jD ..) ?_|refine zl (jE ..) ?_|refine run_callFX (jA ..) ?_|refine run_callFX (jB ..) ?_|refine run_callFX (jC ..) ?_|refine run_callFX (jD ..) ?_|refine run_callFX (jE ..) ?_|refine run_callSY (jA ..) ?_|refine run_callSY (jB ..) ?_|refine run_callSY (jC ..) ?_|refine run_callSY (jD ..) ?_|refine run_callSY (jE ..) ?_|refine gG ?_|show AK _;intro J Z|refine gJ ?_|omega|exact trivial|exact .refl _|fail):p:=h
def gE5 {p q:Prop} (a:q) (h:Hd True q->p:=by intro ha;(repeat' first|refine gC ?_ ?_<;>intro hc<;>try contradiction|refine za (jA ..) ?_|refine za (jB ..) ?_|refine za (jC ..) ?_|refine za (jD ..) ?_|refine za (jE ..) ?_|refine zg (λ_=>jA ..) ?_|refine zg (λ_=>jB ..) ?_|refine zg (λ_=>jC ..) ?_|refine zg (λ_=>jD ..) ?_|refine zg (λ_=>jE ..) ?_|refine zo (jA ..) ?_|refine zo (jB ..) ?_|refine zo (jC ..) ?_|refine zo (jD ..) ?_|refine zo (jE ..) ?_|refine zl (jA ..) ?_|refine zl (jB ..) ?_|refine zl (jC ..) ?_|refine zl (jD ..) ?_|refine zl (jE ..) ?_|refine run_callFX (jA ..) ?_|refine run_callFX (jB ..) ?_|refine run_callFX (jC ..) ?_|refine run_callFX (jD ..) ?_|refine run_callFX (jE ..) ?_|refine run_callSY (jA ..) ?_|refine run_callSY (jB ..) ?_|refine run_callSY (jC ..) ?_|refine run_callSY (jD ..) ?_|refine run_callSY (jE ..) ?_|refine gG ?_|show AK _;intro J Z|refine gJ ?_|omega|exact aT);exact ha.o trivial):p:=h ⟨λ_=>a⟩
def gF5 {p c q d r:Prop} (a:c->q) (b:d->r) (h:Hd c q->Hd d r->p:=by intro ha hb;(repeat' first|refine gC ?_ ?_<;>intro hc<;>try contradiction|refine za (jA ..) ?_|refine za (jB ..) ?_|refine za (jC ..) ?_|refine za (jD ..) ?_|refine za (jE ..) ?_|refine zg (λ_=>jA ..) ?_|refine zg (λ_=>jB ..) ?_|refine zg (λ_=>jC ..) ?_|refine zg (λ_=>jD ..) ?_|refine zg (λ_=>jE ..) ?_|refine zo (jA ..) ?_|refine zo (jB ..) ?_|refine zo (jC ..) ?_|refine zo (jD ..) ?_|refine zo (jE ..) ?_|refine zl (jA ..) ?_|refine zl (jB ..) ?_|refine zl (jC ..) ?_|refine zl (jD ..) ?_|refine zl (jE ..) ?_|refine run_callFX (jA ..) ?_|refine run_callFX (jB ..) ?_|refine run_callFX (jC ..) ?_|refine run_callFX (jD ..) ?_|refine run_callFX (jE ..) ?_|refine run_callSY (jA ..) ?_|refine run_callSY (jB ..) ?_|refine run_callSY (jC ..) ?_|refine run_callSY (jD ..) ?_|refine run_callSY (jE ..) ?_|refine gG ?_|show AK _;intro J Z|refine gJ ?_|omega|exact aT);exact ha.o hc;exact hb.o hc):p:=h ⟨a⟩ ⟨b⟩
def gH {p c q d r:Prop} (a:c->q) (b:d->r) (h:Hd c q->Hd d r->p:=by intro ha hb;(repeat first|refine gG ?_|show AK _;intro J Z|refine gJ ?_|omega|exact aT);(refine gC ?_ ?_<;>intro hc);exact ha.o hc;exact hb.o hc):p:=h ⟨a⟩ ⟨b⟩
def zi {r:List Int}:zn (e::r)=0↔e=0/\zn r=0:=by
 simp only [zn];split<;>simp_all
def zoz (h:zn a=0):zn (a++b)=zn b:=by
 induction a with
 | nil=>rfl
 | cons e r ih=>obtain ⟨h1,h2⟩:=zi.1 h;subst h1;simp only [xaM,zn,if_true];exact ih h2
def zlK (h:zn a≠0):zn (a++b)=zn a:=by
 induction a with
 | nil=>exact absurd rfl h
 | cons e r ih=>
  simp only [xaM,zn] at h ⊢
  split
  ·rename_i h0;rw [if_pos h0] at h;exact ih h
  ·rfl
def ziN {p:Prop} [Decidable p] (he:e≠0):(if p then e else 0)=0↔¬p:=by by_cases h:p<;>simp [h,he]
def zaI (h:zbx p=0):0<=p.fro/\p.fro<=p.to/\p.to<=99999/\p.to - p.fro<=400/\1<=p.days/\p.days<=127:=by
 unfold zbx at h;simp only [zi,zdR,ziN (show (11:Int)≠0 by decide),ziN (show (4:Int)≠0 by decide)] at h
 omega
def zBv (p:Per) (d:Int):Bool:=decide (p.fro<=d) && decide (d<=p.to) && inM p.days ((d+5) % 7)
def zaK (p:Per):List Int:=(List.range (p.to - p.fro+1).toNat).flatMap λ(k:Nat)=>if inM p.days ((p.fro+k+5) % 7) then [p.fro+k] else []
def zbg {α:Type} (f:Nat->List α) {n:Nat} (h:k < n):(List.range n).flatMap f=(List.range k).flatMap f++(f k++(List.range' (k+1) (n - (k+1))).flatMap f):=by
 have:List.range n=List.range k++(k::List.range' (k+1) (n - (k+1))):=by
  rw [List.range_eq_range',List.range_eq_range',show k::List.range' (k+1) (n - (k+1))=List.range' (0+1*k) (n - k) by rw [show n - k=(n - (k+1))+1 by omega,List.range'_succ];simp,List.range'_append,show k+(n - k)=n by omega]
 rw [this];simp
def zbE {α:Type} (f:Nat->List α) (k:Nat):(List.range (k+1)).flatMap f=(List.range k).flatMap f++f k:=by
 rw [xbd];simp
def zqq (b:Bool) (e:Int):Pure prog 250 [.b b,.i .i64 e] (.i .i64 (if b then e else 0)):=by
 refine pz func250 f250.eq_1 λhw X hX=>?_
 repeat' first|refine gC ?_ ?_<;>intro hc<;>try contradiction|refine gG ?_|show AK _;intro J Z|refine gJ ?_|omega|exact aT
 all_goals (subst hc;exact .refl _)
def zqp (n a b:Int):Pure prog 251 [.i .i64 n,.i .i64 a,.i .i64 b] (.i .i64 (rng n a b)):=by
 refine pz func251 f251.eq_1 λhw X hX=>?_
 have jA:=λu1 u2=>zqq u1 u2;refine gE2 ?_
 simp only [rng,xbg,decide_eq_true_eq];exact .refl _
def zqr (n:Int):Pure prog 249 [.i .i64 n] (.i .i64 (rng n 0 99999)):=by
 refine pz func249 f249.eq_1 λhw X hX=>?_
 have jA:=λu1 u2 u3=>zqp u1 u2 u3;exact gD2
def zif (m w:Int) (h0:0<=m) (h1:m < 128) (h2:0<=w) (h3:w < 7):Pure prog 304 [.i .i64 m,.i .i64 w] (.b (inM m w)):=by
 refine pz func304 f304.eq_1 λhw X hX=>?_
 refine gE2 ?_;have:=zzM m.toNat (by omega) w.toNat (by omega)
 simp only [Int.ofNat_eq_natCast,xbm h0,xbm h2] at this;show Weak (.b (decide (bits .and .i64 (m.fdiv (2 ^ min w.toNat 64)) 1=1))) _;rw [this];exact .refl _
def zlf (d:Int) (h0:0<=d) (h1:d<=99999):Pure prog 305 [.i .i64 d] (.i .i64 ((d+5) % 7)):=by
 refine pz func305 f305.eq_1 λhw X hX=>?_
 refine gE2 ?_;rw [xbV (by omega)]
 exact .refl _
def zlg (l:List Int):Pure prog 248 [.sl 1 (l.map (.i .i64))] (.i .i64 (zn l)):=by
 refine pz func248 f248.eq_1 λhw X hX=>?_
 simp only [wfs,PV.wf,xaf,maxLen] at hw;refine gE2 ?_;refine zh (κ:=Nat) (λi=>⟨[(5,.p (.sl 1 (l.map (.i .i64)))),(6,.p (.i .i64 l.length)),(7,.p (.i .i64 i))],[],[],false⟩) (λi=>i<=l.length/\∀ x ∈ l.take i,x=0) (λi=>l.length - i) 0 ?_ ?_ ?_
 ·exact sR
 ·simp
 ·intro i hi;refine gH (λhc=>?_) λhc=>?_
  ·obtain ⟨x,hx⟩:=zj (i:=i) (l:=l) (by omega)
   have qe:=@hx;refine gF2 (λhc=>?_) λhc=>?_
   ·rw [zbr hi.2 hx hc];exact .refl _
   ·exact ⟨i+1,⟨by omega,zb0 hi.2 hx hc⟩,by omega,by simp⟩
  ·refine gE2 ?_;have e:i=l.length:=by omega
   subst e;rw [zbj hi.2];exact .refl _
def zd4 (p:Per):Pure prog 210 [p.pv] (.i .i64 (zbx p)):=by
 refine pz func210 f210.eq_1 λhw X hX=>?_
 have qe:=@qR;repeat' first|refine gC ?_ ?_<;>intro hc<;>try contradiction|refine za (zqr _) ?_|refine za (zlg [_,_]) ?_|refine gG ?_|show AK _;intro J Z|refine gJ ?_|omega|exact aT
 ·have:zbx p=zn ([rng p.fro 0 99999,rng p.to 0 99999]++[if p.to < p.fro then 11 else 0,if 400 < p.to - p.fro then 4 else 0,rng p.days 1 127]):=rfl
  rw [this,zlK hc];exact .refl _
 ·have h1:=hc;simp only [zi,zdR] at h1;have qe:=@qR;have jA:=λu1 u2=>zqq u1 u2;have jB:=λu1 u2 u3=>zqp u1 u2 u3;have jC:=λu1 u2 u3=>zlg [u1,u2,u3];refine gE5 ?_
  have:zbx p=zn ([rng p.fro 0 99999,rng p.to 0 99999]++[if p.to < p.fro then 11 else 0,if 400 < p.to - p.fro then 4 else 0,rng p.days 1 127]):=rfl
  rw [this,zoz hc];exact .refl _
def zx4 (p:Per) (d:Int) (h0:0<=d) (h1:d<=99999) (h2:0<=p.days) (h3:p.days < 128):Pure prog 300 [p.pv,.i .i64 d] (.b (zBv p d)):=by
 refine pz func300 f300.eq_1 λhw X hX=>?_
 have qe:=@qR;repeat' first|refine gC ?_ ?_<;>intro hc<;>try contradiction|refine zg (λ_=>zlf _ h0 h1) ?_|(show zp _ _ _ _ (⟨_,.call 304,_,_,_⟩::_) _ _;refine zkX (hf:=λhc=>(by first|exact zif p.days ((d+5) % 7) h2 h3 (by omega) (by omega)|(simp only [qH,zdR] at hc;exact zif p.days ((d+5) % 7) h2 h3 (by omega) (by omega)))) (hn:=?_))|refine gG ?_|show AK _;intro J Z|refine gJ ?_|omega|exact aT
 all_goals exact .refl _
def zej {α β:Type} {l:List α} {d:α} (f:α->β) (h:l[k]?=some d):(l.take (k+1)).map f=(l.take k).map f++[f d]:=by
 rw [xaW,h];simp
def zfJ {α:Type} {l:List α} {d:α} (h:l[k]?=some d):(l.take k).length=k:=by
 have:=(xaa.1 h).1;simp;omega
def zeN (p:Per):(zaK p).length<=(p.to - p.fro+1).toNat:=by
 unfold zaK;generalize (p.to - p.fro+1).toNat=n
 induction n with
 | zero=>simp
 | succ n ih=>rw [zbE,xad];split<;>simp only [xaz,xbB]<;>omega
abbrev zpe (s:ByteArray) (i:Nat):Int:=((s[i]?.getD 0).toNat:Int)
def zyy (c:Int):Bool:=decide (65<=c) && decide (c<=90) || decide (97<=c) && decide (c<=122)
def zhz (i:Nat) (c:Int):Bool:=zyy c || !(decide (i=0)) && (decide (c=95) || decide (48<=c) && decide (c<=57))
def zcs (s:ByteArray):Bool:=!(decide (s.size=0) || decide (24 < s.size)) && (List.range s.size).all λi=>zhz i (zpe s i)
def zlC (h:(s.size:Int)=0\/24 < (s.size:Int)):zcs s=false:=by
 have:(decide (s.size=0) || decide (24 < s.size))=true:=by simp only [xbg,decide_eq_true_eq];omega
 simp only [zcs,this,xaC,xa4]
def zop (h:¬(s.size:Int)=0/\(s.size:Int)<=24) (hi:i<=s.size/\∀ j < i,zhz j (zpe s j)=true) (he:¬i < s.size):zcs s=true:=by
 have:(decide (s.size=0) || decide (24 < s.size))=false:=by simp only [xbo,decide_eq_false_iff_not];omega
 simp only [zcs,this,xax,xaZ,xaO,xaG];exact λj hj=>hi.2 j (by omega)
def zq4 (hi:i < s.size) (hn:zhz i (zpe s i)=false):zcs s=false:=by
 cases h:zcs s
 ·rfl
 ·simp only [zcs,xau,xaO,xaG] at h;rw [h.2 i hi] at hn;exact hn
def zkj (s:ByteArray) (i:Nat) (h:i < s.size):((Utf8.decode s i).1:Int)=zpe s i/\zpe s i < 128/\(Utf8.decode s i).2=1\/128<=((Utf8.decode s i).1:Int)/\128<=zpe s i/\1<=(Utf8.decode s i).2:=by
 have e:zpe s i=((s[i]'h).toNat:Int):=by simp only [zpe,getElem?_pos s i h,xa7]
 by_cases ha:(s[i]'h).toNat < 128
 ·have:=decode_ascii s i h ha
  left;rw [this,e];simp;omega
 ·have:=decode_high s i h (by omega)
  right;rw [e];omega
def zcf (x:ByteArray):Pure prog 185 [.s x] (.b (zcs x)):=by
 refine pz func185 f185.eq_1 λhw X hX=>?_
 simp only [wfs,PV.wf,maxLen] at hw;refine gF2 (λhc=>?_) λhc=>?_
 ·rw [zlC hc];exact .refl _
 refine zh (κ:=Nat) (λi=>⟨[(0,.p (.s x)),(15,.it 15)],[(15,.sit x i)],[],false⟩) (λi=>i<=x.size/\∀ j < i,zhz j (zpe x j)=true) (λi=>x.size - i) 0 ?_ ?_ ?_
 ·exact sR
 ·simp
 ·intro i hi
  by_cases hlt:i < x.size
  ·have qe:=aI @nextV.eq_1 (aI @nextP.eq_1 (aI @hlt @maxLen.eq_1));refine gF2 (λhc=>?_) λhc=>?_
   ·rw [zq4 hlt];exact .refl _;have:=zkj x i hlt;simp only [zhz,zyy,zpe] at this ⊢;simp;omega
   ·have hd:=zkj x i hlt;have h1:zpe x i < 128/\(Utf8.decode x i).2=1:=by omega
    refine ⟨i+1,⟨by omega,λj hj=>?_⟩,by omega,by rw [h1.2]⟩
    by_cases e:j=i
    ·subst e;simp only [zhz,zyy,zpe] at hd h1 ⊢;simp;omega
    ·exact hi.2 j (by omega)
  ·have qe:=aI @nextV.eq_1 (aI @nextP.eq_1 (aI @hlt @maxLen.eq_1));refine gE2 ?_;rw [zop ‹_› hi (by omega)];exact .refl _
def zzp (p:Per) (k:Nat):List (List PV):=if inM p.days ((p.fro+k+5) % 7) then [[.i .i64 (p.fro+k)]] else []
def zoL (p:Per) (n:Nat):List (List PV):=(List.range n).flatMap (zzp p)
def zvo (p:Per):zoL p (p.to - p.fro+1).toNat=(zaK p).map λd=>[.i .i64 d]:=by
 simp only [zoL,zzp,zaK,List.map_flatMap]
 congr 1;funext k;simp only [zzp];split<;>rfl
def zyC (p:Per) (h:zbx p=0):zsz prog 303 [.ip p.pv 0] ((zaK p).map λd=>[.i .i64 d]):=by
 have hp:=zaI h;rw [<-zvo];refine ziM (cF func303 f303.eq_1) (by simp) λhw X hX=>?_
 simp only [zch];refine gE2 ?_;refine zh (κ:=Nat) (λk=>⟨[(0,.yield),(1,.p (.ip p.pv 0)),(3,.p (.i .i64 (p.fro+k)))],[],zoL p k,false⟩) (λk=>k<=(p.to - p.fro+1).toNat) (λk=>(p.to - p.fro+1).toNat - k) 0 ?_ ?_ ?_
 ·refine gJ ?_;simp [zoL]
 ·simp
 ·intro k hk
  repeat' first|refine gC ?_ ?_<;>intro hc<;>try contradiction|refine gG ?_|show AK _;intro J Z|refine gJ ?_|omega|exact aT
  ·have hc':k < (p.to - p.fro+1).toNat:=by omega
   have hs:=zbg (zzp p) hc'
   by_cases hm:inM p.days ((p.fro+k+5) % 7)=true
   ·simp only [zzp,hm,if_true,List.singleton_append] at hs;have qe:=@hm;repeat' first|refine gC ?_ ?_<;>intro hc<;>try contradiction|refine zcE (hf:=zlf _ (by omega) (by omega)) (hn:=?_)|refine zcE (hf:=zif _ _ (by omega) (by omega) (by omega) (by omega)) (hn:=?_)|refine gG ?_|show AK _;intro J Z|refine gJ ?_|omega|exact aT
    have qe:=@hm;(show zp _ _ _ _ (⟨_,.callv,_,_,_⟩::_) _ _;refine ze5 (by first|rfl|(simp (disch:=omega) only [qG,qe,seval]<;>rfl)) (by simp (disch:=omega) only [qS,qe,seval]) (by simp (disch:=omega) only [qS,qe,seval]<;>rfl) (by simp (disch:=omega) only [qS,qe,seval];try trivial) rfl _ (hs) ?_;intro b;(refine zw ?_))
    have qe:=@hm;refine gF2 (λhc=>?_) λhc=>?_
    ·subst hc;exact .inl rfl
    ·subst hc;refine ⟨k+1,by omega,by omega,by simp;omega,?_,rfl⟩
     simp only [zoL,zbE,zzp,hm];simp
   ·simp only [xbq] at hm;have qe:=@hm;repeat' first|refine gC ?_ ?_<;>intro hc<;>try contradiction|refine zcE (hf:=zlf _ (by omega) (by omega)) (hn:=?_)|refine zcE (hf:=zif _ _ (by omega) (by omega) (by omega) (by omega)) (hn:=?_)|(show zp _ _ _ _ (⟨_,.callv,_,_,_⟩::_) _ _;refine zbn (q:=(.b false)) (by first|rfl|(simp (disch:=omega) only [qG,qe,seval]<;>rfl)) ?_;(try (refine zw ?_)))|refine gG ?_|show AK _;intro J Z|refine gJ ?_|omega|exact aT
    refine ⟨k+1,by omega,by omega,by simp;omega,?_⟩
    simp only [zoL,zbE,zzp,hm];simp
  ·refine gE2 ?_;have e:k=(p.to - p.fro+1).toNat:=by omega
   subst e;exact .inr rfl
def zx6 (d:Int):Pure prog 292 [.i .i64 d] (.b true):=by
 refine pz func292 f292.eq_1 λhw X hX=>?_
 exact gD2
def zx7 (p:Per):Pure prog 291 [p.pv] (.fn (.func 303) [] [.ip p.pv 0]):=by
 refine pz func291 f291.eq_1 λhw X hX=>?_
 exact gD2
def zx8 (p:Per) (h:zbx p=0):Pure prog 290 [.fn (.func 303) [] [.ip p.pv 0],.fn (.func 292) [] []] (.sl 1 ((zaK p).map (.i .i64))):=by
 refine pz func290 f290.eq_1 λhw X hX=>?_
 refine gE2 ?_;have hp:=zaI h;have hn:=zeN p;refine zaB 100 3 1 [(3,.lp 3 0),(5,.lp 5 0),(7,.p (.fn (.func 303) [] [.ip p.pv 0]))] [(3,.box [.p (.fn (.func 292) [] [])] false),(5,.box [.row 100 0] false)] ?_ ?_
 ·simp only [Own,za9,za3,zcg,zaT,qS,seval]
 refine zcb rfl (zyC p h) ?_ ?_ [(3,.lp 3 0),(5,.lp 5 0),(7,.p (.fn (.func 303) [] [.ip p.pv 0]))] (λk=>[(3,.box [.p (.fn (.func 292) [] [])] false),(5,.box [.row 100 k] false),(100,.row 3 1 (((zaK p).take k).map (.i .i64)) false)]) (λ_=>[]) ?_ ?_ ?_
 ·simp
 ·simp [hX]
 ·exact sE
 ·intro k t ht X' ro' hX';simp only [xal,xab] at ht;obtain ⟨d,hd,rfl⟩:=ht;have hl:=zfJ hd;have hk:=(xaa.1 hd).1;simp only [qS,seval];refine gE2 ?_;intro X1 hX1;have qe:=aI qR (aI @hl (zej (PV.i .i64) hd));repeat' first|refine gC ?_ ?_<;>intro hc<;>try contradiction|refine zl (zx6 _) ?_|refine gG ?_|show AK _;intro J Z|refine gJ ?_|omega|exact aT
 ·simp only [xaf];have qe:=@List.take_length.{0};exact gD2
def zdc {a b c d:PV} (h1:Weak a b) (h2:Weak c d):Weak (.tup [a,c]) (.tup [b,d]):=by
 refine .tup rfl λj x y hx hy=>?_
 match j with
 | 0=>simp at hx hy;subst hx;subst hy;exact h1
 | 1=>simp at hx hy;subst hx;subst hy;exact h2
 | j+2=>simp at hx
def zoM (p:Per):List Int:=if zbx p=0 then zaK p else []
def zyf (p:Per):Pure prog 266 [p.pv] (.tup [.sl 1 ((zoM p).map (.i .i64)),.i .i64 (zbx p)]):=by
 refine pz func266 f266.eq_1 λhw X hX=>?_
 repeat' first|refine gC ?_ ?_<;>intro hc<;>try contradiction|refine za (zd4 _) ?_|refine za (zx7 _) ?_|refine za (zx8 p hc) ?_|refine gG ?_|show AK _;intro J Z|refine gJ ?_|omega|exact aT
 ·rw [zoM,if_neg hc];exact zdc (.nilsl _) (.refl _)
 ·rw [zoM,if_pos hc,hc];exact .refl _
def zrg (p:Per) (d:Int):Int:=zn [zbx p,rng d 0 99999]
def zm8 (p:Per) (d:Int):Bool:=decide (zrg p d=0) && zBv p d
def zyc (p:Per) (d:Int):Pure prog 284 [p.pv,.i .i64 d] (.tup [.b (zm8 p d),.i .i64 (zrg p d)]):=by
 refine pz func284 f284.eq_1 λhw X hX=>?_
 have qe:=@qR;repeat' first|refine gC ?_ ?_<;>intro hc<;>try contradiction|refine za (zd4 _) ?_|refine za (zqr _) ?_|refine za (zlg [_,_]) ?_|refine gG ?_|show AK _;intro J Z|refine gJ ?_|omega|exact aT
 ·have:zrg p d≠0:=hc;simp only [zm8,this,decide_false,xa4];exact .refl _
 ·have h0:zrg p d=0:=hc;have h1:=h0;simp only [zrg,zi,zdR] at h1;have hp:=zaI h1.1;have jA:=zx4 p d (by omega) (by omega) (by omega) (by omega);refine gE2 ?_
  simp only [zm8,h0,decide_true,xaZ];exact .refl _
abbrev s0:ByteArray:=bs []
abbrev sA:ByteArray:=bs [65]
abbrev sD:ByteArray:=bs [68]
abbrev sT:ByteArray:=bs [84]
structure Lim where
 name:ByteArray
 kind:ByteArray
 term:ByteArray
 len:Int
 step:Int
 fro:Int
 to:Int
 per:Per
 most:Int
abbrev Lim.cells (l:Lim):List PV:=[.s l.name,.s l.kind,.s l.term,.i .i64 l.len,.i .i64 l.step,.i .i64 l.fro,.i .i64 l.to,.i .i64 l.per.fro,.i .i64 l.per.to,.i .i64 l.per.days,.i .i64 l.most]
abbrev Lim.pv (l:Lim):PV:=.agg l.cells
structure Mov where
 moment:Int
 kind:ByteArray
 term:ByteArray
 seats:Int
 size:Int
 noise:Int
 name:ByteArray
abbrev Mov.pv (m:Mov):PV:=.agg [.i .i64 m.moment,.s m.kind,.s m.term,.i .i64 m.seats,.i .i64 m.size,.i .i64 m.noise,.s m.name]
structure Req where
 name:ByteArray
 carrier:ByteArray
 kind:ByteArray
 term:ByteArray
 partner:ByteArray
 link:ByteArray
 per:Per
 minute:Int
 seats:Int
 size:Int
 noise:Int
abbrev Req.pv (r:Req):PV:=.agg [.s r.name,.s r.carrier,.s r.kind,.s r.term,.s r.partner,.s r.link,.i .i64 r.per.fro,.i .i64 r.per.to,.i .i64 r.per.days,.i .i64 r.minute,.i .i64 r.seats,.i .i64 r.size,.i .i64 r.noise]
structure Win where
 lim:Int
 beg:Int
 cnt:Int
abbrev Win.pv (w:Win):PV:=.agg [.i .i64 w.lim,.i .i64 w.beg,.i .i64 w.cnt]
def zgM (k:ByteArray):Int:=if ¬k=sA/\¬k=sD then 13 else 0
def zo6 (s:ByteArray):Int:=if ¬s=s0/\zcs s=false then 8 else 0
def zfA (s:ByteArray):Int:=if zcs s=false then 8 else 0
def zyv (a b c:Int):Int:=zn [rng a 0 999,rng b 0 9,rng c 0 99]
def zhS (m:Mov):Int:=zn [rng m.moment 0 143999999,zgM m.kind,zo6 m.term,zyv m.seats m.size m.noise,zfA m.name]
def zbY (r:Req):Int:=zn [zfA r.name,zgM r.kind,zo6 r.term,zbx r.per,rng r.minute 0 1439,zyv r.seats r.size r.noise]
def zon (k:ByteArray):Int:=if ¬k=sA/\¬k=sD/\¬k=sT then 13 else 0
def zr (l:Lim):Int:=zn [zfA l.name,zon l.kind,zo6 l.term,rng l.len 1 1440,rng l.step 1 1440,rng l.fro 0 1439,rng l.to 0 1439,if l.to < l.fro then 11 else 0,zbx l.per,rng l.most 0 999999999]
def zet (b:Bool) (e:Int):Pure prog 151 [.b b,.i .i64 e] (.i .i64 (if b then e else 0)):=by
 refine pz func151 f151.eq_1 λhw X hX=>?_
 repeat' first|refine gC ?_ ?_<;>intro hc<;>try contradiction|refine gG ?_|show AK _;intro J Z|refine gJ ?_|omega|exact aT
 all_goals (subst hc;exact .refl _)
def zgt (n a b:Int):Pure prog 209 [.i .i64 n,.i .i64 a,.i .i64 b] (.i .i64 (rng n a b)):=by
 refine pz func209 f209.eq_1 λhw X hX=>?_
 have jA:=λu1 u2=>zet u1 u2;refine gE2 ?_
 simp only [rng,xbg,decide_eq_true_eq];exact .refl _
def zfr (l:List Int):Pure prog 149 [.sl 1 (l.map (.i .i64))] (.i .i64 (zn l)):=by
 refine pz func149 f149.eq_1 λhw X hX=>?_
 simp only [wfs,PV.wf,xaf,maxLen] at hw;refine gE2 ?_;refine zh (κ:=Nat) (λi=>⟨[(5,.p (.sl 1 (l.map (.i .i64)))),(6,.p (.i .i64 l.length)),(7,.p (.i .i64 i))],[],[],false⟩) (λi=>i<=l.length/\∀ x ∈ l.take i,x=0) (λi=>l.length - i) 0 ?_ ?_ ?_
 ·exact sR
 ·simp
 ·intro i hi;refine gH (λhc=>?_) λhc=>?_
  ·obtain ⟨x,hx⟩:=zj (i:=i) (l:=l) (by omega)
   have qe:=@hx;refine gF2 (λhc=>?_) λhc=>?_
   ·rw [zbr hi.2 hx hc];exact .refl _
   ·exact ⟨i+1,⟨by omega,zb0 hi.2 hx hc⟩,by omega,by simp⟩
  ·refine gE2 ?_;have e:i=l.length:=by omega
   subst e;rw [zbj hi.2];exact .refl _
def zyh (s:ByteArray):Pure prog 264 [.s s] (.i .i64 (zgM s)):=by
 refine pz func264 f264.eq_1 λhw X hX=>?_
 have jA:=λu1 u2=>zet u1 u2;refine gE2 ?_
 simp only [zgM,xau,xbv,decide_eq_false_iff_not,decide_eq_true_eq];exact .refl _
def zgu (s:ByteArray):Pure prog 208 [.s s] (.i .i64 (zo6 s)):=by
 refine pz func208 f208.eq_1 λhw X hX=>?_
 have jA:=λu1=>zcf u1;have jB:=λu1 u2=>zet u1 u2;refine gE2 ?_
 simp only [zo6,xau,xbv,decide_eq_false_iff_not,decide_eq_true_eq];exact .refl _
def zyg (a b c:Int):Pure prog 265 [.i .i64 a,.i .i64 b,.i .i64 c] (.i .i64 (zyv a b c)):=by
 refine pz func265 f265.eq_1 λhw X hX=>?_
 have qe:=@qR;have jA:=λu1 u2 u3=>zgt u1 u2 u3;have jB:=λu1 u2 u3=>zfr [u1,u2,u3];exact gD2
def zA3 (r:Req):Pure prog 224 [r.pv] (.i .i64 (zbY r)):=by
 refine pz func224 f224.eq_1 λhw X hX=>?_
 have qe:=@qR;repeat' first|refine gC ?_ ?_<;>intro hc<;>try contradiction|refine za (zgt _ _ _) ?_|refine za (zyh _) ?_|refine za (zgu _) ?_|refine za (zd4 r.per) ?_|refine za (zyg _ _ _) ?_|refine za (zcf _) ?_|refine za (zet _ _) ?_|refine za (zfr [_,_,_,_,_,_]) ?_|refine gG ?_|show AK _;intro J Z|refine gJ ?_|omega|exact aT
 exact .refl _
abbrev zrk (s:ByteArray):PV:=.fn (.func 246) [] [.ip (.s s) 0]
def zx5 (s:ByteArray):Pure prog 245 [.s s] (zrk s):=by
 refine pz func245 f245.eq_1 λhw X hX=>?_
 exact gD2
def sDA:(bs [68]=bs [65])=False:=by decide
def sTA:(bs [84]=bs [65])=False:=by decide
def sTD:(bs [84]=bs [68])=False:=by decide
abbrev zBs:PV:=.mp [(.s sA,.agg [zrk sA]),(.s sD,.agg [zrk sD]),(.s sT,.agg [.fn (.func 247) [] []])]
def zig:Pure prog 207 [] zBs:=by
 refine pz func207 f207.eq_1 λhw X hX=>?_
 have qe:=aI qR (aI @sDA (aI @sTA @sTD));have jA:=λu1=>zx5 u1;exact gD2
def zyd (l:Lim) (n:ByteArray):Pure prog 212 [l.pv,.ip (.s n) 0] (.b (decide (l.name=n))):=by
 refine pz func212 f212.eq_1 λhw X hX=>?_
 exact gD2
def atL (n:ByteArray):List ByteArray->Int
 | []=>-1
 | x::r=>if x=n then 0 else if atL n r < 0 then -1 else atL n r+1
theorem zr9 (n:ByteArray):∀ l,-1<=atL n l
 | []=>by simp [atL]
 | x::r=>by have:=zr9 n r;simp only [atL];(repeat' split)<;>omega
theorem zr8:∀ {l:List ByteArray} {i:Nat},(∀ x ∈ l.take i,x≠n)->l[i]?=some n->atL n l=i
 | [],i,_,h=>by simp at h
 | x::r,0,_,h=>by simp at h;simp [atL,h]
 | x::r,i+1,h,hx=>by
  have h0:x≠n:=h x (by simp)
  have:=zr8 (l:=r) (i:=i) (λy hy=>h y (by simp [hy])) (by simpa using hx)
  simp only [atL,if_neg h0,this];rw [if_neg (by omega)];simp
theorem zsa:∀ {l:List ByteArray},(∀ x ∈ l,x≠n)->atL n l=-1
 | [],_=>rfl
 | x::r,h=>by
  have h0:x≠n:=h x (by simp)
  have:=zsa (l:=r) λy hy=>h y (by simp [hy])
  simp only [atL,if_neg h0,this];rfl
def zye (l:List Lim) (n:ByteArray):Pure prog 211 [.sl 11 (l.map Lim.pv),.fn (.func 212) [] [.ip (.s n) 0]] (.i .i64 (atL n (l.map Lim.name))):=by
 refine pz func211 f211.eq_1 λhw X hX=>?_
 simp only [wfs,PV.wf,xaf,maxLen] at hw;refine gE2 ?_;refine zh (κ:=Nat) (λi=>⟨[(0,.p (.sl 11 (l.map Lim.pv))),(1,.p (.fn (.func 212) [] [.ip (.s n) 0])),(7,.p (.i .i64 l.length)),(8,.p (.i .i64 i))],[],[],false⟩) (λi=>i<=l.length/\∀ x ∈ (l.map Lim.name).take i,x≠n) (λi=>l.length - i) 0 ?_ ?_ ?_
 ·exact sR
 ·simp
 ·intro i hi;refine gH (λhc=>?_) λhc=>?_
  ·obtain ⟨x,hx⟩:=zj (i:=i) (l:=l) (by omega)
   have qe:=@hx;have jA:=zyd x n;refine gF2 (λhc=>?_) λhc=>?_
   ·rw [zr8 hi.2 (by simp [hx,hc])];exact .refl _
   ·refine ⟨i+1,⟨by omega,λy hy=>?_⟩,by omega,by simp⟩
    rw [<-xbK,zej _ hx] at hy
    rcases xaS.1 hy with h|h
    ·exact hi.2 y (by rw [<-xbK];exact h)
    ·simp at h;subst h;exact hc
  ·refine gE2 ?_;have e:i=l.length:=by omega
   subst e;rw [zsa (λy hy=>hi.2 y (by rw [xas (by simp)];exact hy))];exact .refl _
def zA1 (l:List Lim) (n:ByteArray):Pure prog 152 [.sl 11 (l.map Lim.pv),.s n] (.i .i64 (atL n (l.map Lim.name))):=by
 refine pz func152 f152.eq_1 λhw X hX=>?_
 have jA:=zye l n;exact gD2
def zwp (l:Lim):Pure prog 150 [l.pv] (.i .i64 (zr l)):=by
 refine pz func150 f150.eq_1 λhw X hX=>?_
 have key:∀ k:Int,zon l.kind=k->zn [if zcs l.name=false then 8 else 0,k,zo6 l.term,rng l.len 1 1440,rng l.step 1 1440,rng l.fro 0 1439,rng l.to 0 1439,if l.to < l.fro then 11 else 0,zbx l.per,rng l.most 0 999999999]=zr l:=λk hk=>by subst hk;rfl
 by_cases hA:l.kind=sA
 ·have hA':=eq_true hA;have qe:=aI qR @hA';repeat' first|refine gC ?_ ?_<;>intro hc<;>try contradiction|refine za (zig) ?_|refine za (zgt _ _ _) ?_|refine za (zgu _) ?_|refine za (zd4 l.per) ?_|refine za (zcf _) ?_|refine za (zet _ _) ?_|refine za (zfr [_,_,_,_,_,_,_,_,_,_]) ?_|refine gG ?_|show AK _;intro J Z|refine gJ ?_|omega|exact aT
  rw [<-key 0 (by simp [zon,hA])];exact .refl _
 have hA':=eq_false hA
 by_cases hD:l.kind=sD
 ·have hD':=eq_true hD;have qe:=aI qR (aI @hA' @hD');repeat' first|refine gC ?_ ?_<;>intro hc<;>try contradiction|refine za (zig) ?_|refine za (zgt _ _ _) ?_|refine za (zgu _) ?_|refine za (zd4 l.per) ?_|refine za (zcf _) ?_|refine za (zet _ _) ?_|refine za (zfr [_,_,_,_,_,_,_,_,_,_]) ?_|refine gG ?_|show AK _;intro J Z|refine gJ ?_|omega|exact aT
  rw [<-key 0 (by simp [zon,hD])];exact .refl _
 have hD':=eq_false hD
 by_cases hT:l.kind=sT
 ·have hT':=eq_true hT;have qe:=aI qR (aI @hA' (aI @hD' @hT'));repeat' first|refine gC ?_ ?_<;>intro hc<;>try contradiction|refine za (zig) ?_|refine za (zgt _ _ _) ?_|refine za (zgu _) ?_|refine za (zd4 l.per) ?_|refine za (zcf _) ?_|refine za (zet _ _) ?_|refine za (zfr [_,_,_,_,_,_,_,_,_,_]) ?_|refine gG ?_|show AK _;intro J Z|refine gJ ?_|omega|exact aT
  rw [<-key 0 (by simp [zon,hT])];exact .refl _
 have hT':=eq_false hT;have qe:=aI qR (aI @hA' (aI @hD' @hT'));repeat' first|refine gC ?_ ?_<;>intro hc<;>try contradiction|refine za (zig) ?_|refine za (zgt _ _ _) ?_|refine za (zgu _) ?_|refine za (zd4 l.per) ?_|refine za (zcf _) ?_|refine za (zet _ _) ?_|refine za (zfr [_,_,_,_,_,_,_,_,_,_]) ?_|refine gG ?_|show AK _;intro J Z|refine gJ ?_|omega|exact aT
 rw [<-key 13 (by simp [zon,hA,hD,hT])];exact .refl _
def zqU (l:List Lim) (i:Nat) (x:Lim):Int:=zn [zr x,if 0<=atL x.name ((l.take i).map Lim.name) then 9 else 0]
def ziD (l:List Lim):List Int:=l.mapIdx (zqU l)
def zJ (l:List Lim):Int:=if 32 < l.length then 5 else zn (ziD l)
def zwx (l:List Mov) (i:Nat) (x:Mov):Int:=zn [zhS x,if 0 < (i:Int)/\x.moment < ((l[i - 1]?).getD x).moment then 11 else 0]
def zqL (l:List Mov):List Int:=l.mapIdx (zwx l)
def zfi (l:List Mov):Int:=if 30000 < l.length then 5 else zn (zqL l)
def zaj {α β:Type} {f:Nat->α->β} {l:List α} {x:α} (h:l[i]?=some x):(l.mapIdx f)[i]?=some (f i x):=by simp [xcp,h]
def zsU {α β:Type} (f:α->β) (l:List α) (i:Nat):(l.map f).take i=(l.take i).map f:=by rw [xbK]
def zfs (l:List Lim):Pure prog 80 [.sl 11 (l.map Lim.pv)] (.i .i64 (zJ l)):=by
 refine pz func80 f80.eq_1 λhw X hX=>?_
 simp only [wfs,PV.wf,xaf,maxLen] at hw;refine gF2 (λhc=>?_) λhc=>?_
 ·rw [zJ,if_pos (by omega)];exact .refl _
 refine zh (κ:=Nat) (λi=>⟨[(0,.p (.sl 11 (l.map Lim.pv))),(9,.p (.sl 11 (l.map Lim.pv))),(10,.p (.i .i64 l.length)),(11,.p (.i .i64 i))],[],[],false⟩) (λi=>i<=l.length/\∀ x ∈ (ziD l).take i,x=0) (λi=>l.length - i) 0 ?_ ?_ ?_
 ·exact sR
 ·simp
 ·intro i hi;refine gH (λhc=>?_) λhc=>?_
  ·obtain ⟨x,hx⟩:=zj (i:=i) (l:=l) (by omega)
   have qe:=aI qR (aI @hx @zsU);have jA:=zwp x;have jB:=zA1 (l.take i) x.name;have jC:=λu1 u2=>zet u1 u2;have jD:=λu1 u2=>zfr [u1,u2];refine gF5 (λhc=>?_) λhc=>?_
   ·have he:zJ l=zqU l i x:=by unfold zJ;rw [if_neg (by omega)];exact zbr hi.2 (zaj hx) hc
    rw [he];exact .refl _
   ·exact ⟨i+1,⟨by omega,zb0 hi.2 (zaj hx) hc⟩,by omega,by simp⟩
  ·refine gE2 ?_;have e:i=(ziD l).length:=by simp [ziD];omega
   subst e;rw [zJ,if_neg (by omega),zbj hi.2];exact .refl _
def zaa {l:Lim} (h:zr l=0):1<=l.len/\l.len<=1440/\1<=l.step/\l.step<=1440/\0<=l.fro/\l.fro<=l.to/\l.to<=1439/\zbx l.per=0/\0<=l.most/\l.most<=999999999:=by
 unfold zr at h;simp only [zi,zdR,ziN (show (11:Int)≠0 by decide)] at h
 omega
def zwo (l:Lim) (d:Int):Pure prog 252 [l.pv,.i .i64 d] (.b (zm8 l.per d)):=by
 refine pz func252 f252.eq_1 λhw X hX=>?_
 have jA:=zyc l.per d;refine gE2 ?_;have:(decide (zrg l.per d=0) && zm8 l.per d)=zm8 l.per d:=by simp only [zm8];cases decide (zrg l.per d=0)<;>rfl
 rw [this];exact .refl _
def Lim.from_ (l:Lim):Int:=(l.fro+l.step - 1) / l.step
def zkw (l:Lim):Nat:=(max 0 (l.to / l.step - l.from_+1)).toNat
def zho (l:Lim) (d:Int):Bool:=!(decide (d < l.per.fro) || decide (l.per.to < d) || !zm8 l.per d)
def zzP (l:Lim) (d:Int) (n:Nat):Int:=1440*d+l.step*(l.from_+n)
def zno (l:Lim) (d:Int) (k:Nat):List Int:=(List.range k).map (zzP l d)
def zN (l:Lim) (d:Int):List Int:=if zho l d then zno l d (zkw l) else []
abbrev zwf (d:Int):List PV:=[.i .i64 d]
def zlq {α:Type} (f:Nat->α) (k:Nat):(List.range (k+1)).map f=(List.range k).map f++[f k]:=by
 rw [xbd];simp
def zft {α:Type} (f:Nat->α) {n:Nat} (h:k < n):(List.range n).map f=(List.range k).map f++f k::(List.range' (k+1) (n - (k+1))).map f:=by
 have:=zbg (λk=>[f k]) h
 simpa [List.flatMap_singleton',<-List.map_eq_flatMap] using this
def zkv {l:Lim} (h:zr l=0) {n:Nat} (hn:n < zkw l):0<=l.from_/\l.from_<=1440/\0<=l.step*(l.from_+n)/\l.step*(l.from_+n)<=l.to/\l.fro<=l.step*(l.from_+n):=by
 have hl:=zaa h;have h1:0<=l.from_:=xbh (by omega) (by omega)
 have h2:l.from_<=l.fro+l.step - 1:=xbr _ (by omega)
 have h3:(l.from_+n)<=l.to / l.step:=by unfold zkw at hn;omega
 have h4:l.step*(l.from_+n)<=l.step*(l.to / l.step):=Int.mul_le_mul_of_nonneg_left h3 (by omega)
 have h5:l.step*(l.to / l.step)<=l.to:=Int.mul_ediv_self_le (by omega)
 have h6:l.fro+l.step - 1 < l.step*l.from_+l.step:=Int.lt_mul_ediv_self_add (by omega)
 have h7:l.step*l.from_<=l.step*(l.from_+n):=Int.mul_le_mul_of_nonneg_left (by omega) (by omega)
 have h8:0<=l.step*(l.from_+n):=Int.mul_nonneg (by omega) (by omega)
 have h9:l.from_<=1440:=by
  have:l.from_<=l.to / l.step:=by omega
  have:l.to / l.step<=l.to:=xbr _ (by omega)
  omega
 omega
def zyD (l:Lim) (d:Int) (h:zr l=0):zsz prog 282 [.ip (.i .i64 d) 0,.ip l.pv 0] ((zN l d).map zwf):=by
 have hl:=zaa h;have hp:=zaI hl.2.2.2.2.2.2.2.1;refine ziM (cF func282 f282.eq_1) (by simp) λhw X hX=>?_
 simp only [zch];have jA:=zwo l d;refine gF2 (λhc=>?_) λhc=>?_
 ·refine .inr ?_;have:zho l d=false:=by simp only [zho,xb6,xbg,decide_eq_true_eq,xbv];exact hc
  simp [zN,this]
 have hbo:zho l d=true:=by simp only [zho,xbv,xbo,decide_eq_false_iff_not,xb6];exact ⟨⟨by omega,by omega⟩,hc.2⟩
 have hq1:(l.fro+l.step - 1).tdiv l.step=l.from_:=xbp (by omega)
 have hq2:l.to.tdiv l.step=l.to / l.step:=xbp (by omega)
 have hb1:0<=l.from_:=xbh (by omega) (by omega)
 have hb2:l.from_<=l.fro+l.step - 1:=xbr _ (by omega)
 have hb3:0<=l.to / l.step:=xbh (by omega) (by omega)
 have hb4:l.to / l.step<=l.to:=xbr _ (by omega)
 have hN:max 0 (l.to / l.step - l.from_+1)=(zkw l:Int):=by unfold zkw;omega
 rw [zN,if_pos hbo];simp (disch:=omega) only [hq1,hq2,hN,qS,seval];refine zh (κ:=Nat) (λk=>⟨[(0,.yield),(1,.p (.ip (.i .i64 d) 0)),(2,.p (.ip l.pv 0)),(4,.p (.i .i64 l.from_)),(41,.p (.i .i64 (zkw l))),(42,.p (.i .i64 k))],[],(zno l d k).map zwf,false⟩) (λk=>k<=zkw l) (λk=>zkw l - k) 0 ?_ ?_ ?_
 ·refine gJ ?_;simp [zno]
 ·simp
 ·intro k hk
  repeat' first|refine gC ?_ ?_<;>intro hc<;>try contradiction|refine gG ?_|show AK _;intro J Z|refine gJ ?_|omega|exact aT
  ·have hb:=zkv h (n:=k) (by omega)
   have hs:=zft (zzP l d) (show k < zkw l by omega)
   have hs':(zno l d (zkw l)).map zwf=(zno l d k).map zwf++zwf (zzP l d k)::((List.range' (k+1) (zkw l - (k+1))).map (zzP l d)).map zwf:=by simp only [zno,hs,xa6,xaj]
   repeat' first|refine gC ?_ ?_<;>intro hc<;>try contradiction|(show zp _ _ _ _ (⟨_,.callv,_,_,_⟩::_) _ _;refine ze5 (by first|rfl|(simp (disch:=omega) only [qG,seval]<;>rfl)) (by simp (disch:=omega) only [qS,seval]) (by simp (disch:=omega) only [qS,seval]<;>rfl) (by simp (disch:=omega) only [qS,seval];try trivial) rfl _ (hs') ?_;intro b;(refine zw ?_))|refine gG ?_|show AK _;intro J Z|refine gJ ?_|omega|exact aT
   ·subst hc;exact .inl rfl
   ·subst hc;exact ⟨k+1,by omega,by omega,by simp,by simp [zno,zlq],rfl⟩
  ·refine gE2 ?_;have e:k=zkw l:=by omega
   subst e;exact .inr rfl
def zAZ (l:Lim) (d:Int):Pure prog 243 [l.pv,.i .i64 d] (.fn (.func 282) [] [.ip (.i .i64 d) 0,.ip l.pv 0]):=by
 refine pz func243 f243.eq_1 λhw X hX=>?_
 exact gD2
def winK (l:Lim) (k:Nat):List Int:=(List.range k).flatMap λ(n:Nat)=>zN l (l.per.fro+n)
def winN (l:Lim):Nat:=(l.per.to - l.per.fro+1).toNat
def zaq (l:Lim):List Int:=winK l (winN l)
def znF {α:Type} {l:List α} {j:Nat} {x:α} (h:l[j]?=some x):l=l.take j++x::l.drop (j+1):=by
 obtain ⟨hj,rfl⟩:=xaa.1 h;rw [<-xaE hj,xaq]
def zbI (l:Lim) (k t:ByteArray):Bool:=(decide (l.kind=sT) || decide (l.kind=k)) && (decide (l.term=s0) || decide (l.term=t))
def zb2 (x:Int):(decide (x=x))=true:=decide_eq_true rfl
def zya (x:Int):Pure prog 215 [.i .i64 x] (.b false):=by
 refine pz func215 f215.eq_1 λhw X hX=>?_
 have qe:=@zb2;exact gD2
def ltN (l:List Int) (x:Int):Nat:=(l.filter λy=>decide (y < x)).length
def cntW (l:List Int) (b len:Int):Int:=(ltN l (b+len):Int) - ltN l b
def ofL (l:Lim) (m:List Mov):List Int:=(m.filter λx=>zbI l x.kind x.term).map Mov.moment
def zaX {l:Lim} (h:zr l=0) {d b:Int} (hb:b ∈ zN l d):1440*d<=b/\b<=1440*d+1439/\l.per.fro<=d/\d<=l.per.to:=by
 have hl:=zaa h;unfold zN zno at hb
 split at hb
 ·rename_i ho;simp only [zho,xbv,xbo,decide_eq_false_iff_not] at ho;obtain ⟨n,hn,rfl⟩:=xaN.1 hb;have:=zkv h (xaG.1 hn);unfold zzP
  omega
 ·cases hb
def zbb (l:Lim) (m:List Mov) (b:Int):Int:=cntW (ofL l m) b l.len
def weakI {a b:Int} (h:a=b):Weak (.i .i64 a) (.i .i64 b):=h ▸ .refl _
def zhe {a b:Bool} (h:a=b):Weak (.b a) (.b b):=h ▸ .refl _
def Pure.args {f:FuncId} {args args':List PV} {r:PV} (h:Pure P f args r) (hl:args'.length=args.length) (hw:∀ (j:Nat) (x y:PV),args'[j]?=some x->args[j]?=some y->Weak x y):Pure P f args' r:=
 ⟨h.1,λw B vs hB hr=>h.2 w B vs hB ⟨hr.1.trans hl,λj v p hv hp=>by
  have hj:j < args'.length:=by rw [hl];exact (xaa.1 hp).1
  exact (hw j _ p (xac hj) hp).rep (hr.2 j v _ hv (xac hj))⟩⟩
def zbR (x:ByteArray):(decide (x=x))=true:=decide_eq_true rfl
def zio (x:Int):(x=x)=True:=eq_true rfl
def zeB (x:ByteArray):(x=x)=True:=eq_true rfl
def zA4 (l:List Int):Pure prog 44 [.sl 1 (l.map (.i .i64)),.sl 1 (l.map (.i .i64))] (.b true):=by
 refine pz func44 f44.eq_1 λhw X hX=>?_
 simp only [wfs,PV.wf,xaf,maxLen] at hw;have qe:=aI @zb2 (aI @zbR (aI @zio @zeB));refine gE2 ?_;refine zh (κ:=Nat) (λi=>⟨[(0,.p (.sl 1 (l.map (.i .i64)))),(1,.p (.sl 1 (l.map (.i .i64)))),(5,.p (.i .i64 i))],[],[],false⟩) (λi=>i<=l.length) (λi=>l.length - i) 0 ?_ ?_ ?_
 ·exact sR
 ·simp
 ·intro i hi;refine gH (λhc=>?_) λhc=>?_
  ·obtain ⟨x,hx⟩:=zj (i:=i) (l:=l) (by omega)
   have qe:=aI @hx (aI @zb2 (aI @zbR (aI @zio @zeB)));refine gE2 ?_;exact ⟨i+1,by omega,by omega,by simp⟩
  ·exact gD2
def zeM {d:Int} (h:d ∈ zaK p):p.fro<=d/\d<=p.to/\inM p.days ((d+5) % 7)=true:=by
 obtain ⟨k,hk,hd⟩:=xaw.1 h
 split at hd
 ·simp at hd;subst hd;have:=xaG.1 hk;exact ⟨by omega,by omega,by assumption⟩
 ·cases hd
def zka (h:zbx p=0) (d:Int):zm8 p d=decide (d ∈ zaK p):=by
 have hp:=zaI h
 by_cases hm:d ∈ zaK p
 ·have:=zeM hm;rw [decide_eq_true hm];have he:zrg p d=0:=by rw [zrg];simp only [zi,zdR];exact ⟨by assumption,⟨by omega,by omega⟩,rfl⟩
  simp [zm8,he,zBv,this]
 ·rw [decide_eq_false hm];cases hb:zm8 p d
  ·rfl
  ·exfalso;apply hm
   simp only [zm8,zBv,xau,decide_eq_true_eq] at hb;refine xaw.2 ⟨(d - p.fro).toNat,xaG.2 (by omega),?_⟩
   rw [xbm (by omega),show p.fro+(d - p.fro)=d by omega,if_pos hb.2.2]
   simp
theorem zcK {α β:Type} {f g:α->List β}:∀ {l:List α},(∀ x ∈ l,f x=g x)->l.flatMap f=l.flatMap g
 | [],_=>rfl
 | x::r,h=>by rw [xat,xat,h x (by simp),zcK λy hy=>h y (by simp [hy])]
def zbK {l:Lim} (h:zr l=0) (d:Int):zN l d=if d ∈ zaK l.per then zno l d (zkw l) else []:=by
 have hl:=zaa h;have hb:=zka hl.2.2.2.2.2.2.2.1 d
 by_cases hm:d ∈ zaK l.per
 ·have hd:=zeM hm;rw [zN,if_pos hm,if_pos];rw [decide_eq_true hm] at hb;simp only [zho,hb,xaC,xcs,xbv,xbo,decide_eq_false_iff_not];omega
 ·rw [zN,if_neg hm,if_neg];rw [decide_eq_false hm] at hb;simp [zho,hb]
def ze0 {l:Lim} (h:zr l=0):zaq l=(zaK l.per).flatMap λd=>zno l d (zkw l):=by
 have hl:=zaa h;have hp:=hl.2.2.2.2.2.2.2.1;unfold zaq winK winN zaK;rw [List.flatMap_assoc];refine zcK λk hk=>?_
 have hk:=xaG.1 hk;rw [zbK h];have hb:=zka hp (l.per.fro+k);have hpp:=zaI hp;have he:zrg l.per (l.per.fro+k)=0:=by rw [zrg];simp only [zi,zdR];exact ⟨by assumption,⟨by omega,by omega⟩,rfl⟩
 have hi:zm8 l.per (l.per.fro+k)=inM l.per.days ((l.per.fro+k+5) % 7):=by
  simp only [zm8,he,zBv,decide_true,xaZ,show l.per.fro<=l.per.fro+(k:Int) by omega,show l.per.fro+(k:Int)<=l.per.to by omega]
 rw [hi] at hb;rw [hb];simp only [decide_eq_true_eq]
 split<;>simp
def inW (l:Lim) (b:Int) (x:Mov):Bool:=zbI l x.kind x.term && (decide (b<=x.moment) && decide (x.moment < b+l.len))
theorem zbJ {l:Lim} (h:0<=l.len) (b:Int):∀ m:List Mov,zbb l m b=((m.filter (inW l b)).length:Int)
 | []=>by simp [zbb,cntW,ofL,ltN]
 | x::r=>by
  have ih:=zbJ h b r;simp only [zbb,cntW,ofL,xa2,inW] at ih ⊢
  by_cases hc:zbI l x.kind x.term=true
  ·simp only [hc,if_true,xaj,ltN,xa2,xaZ,decide_eq_true_eq,xau] at ih ⊢
   (repeat' split)<;>(try simp only [xaz])<;>omega
  ·simp only [xbq] at hc;simp only [hc,xaD,if_false,xa4];exact ih
def zeR {r:Req} (h:zbY r=0):zbx r.per=0/\0<=r.minute/\r.minute<=1439:=by
 unfold zbY at h;simp only [zi,zdR] at h;exact ⟨h.2.2.2.1,h.2.2.2.2.1⟩
def zj0 (r:Req) (d:Int):Mov:=⟨1440*d+r.minute,r.kind,r.term,r.seats,r.size,r.noise,r.name⟩
def zhk (r:Req):List Mov:=(zaK r.per).map (zj0 r)
def zA2 (r:Req) (h:zbY r=0):Pure prog 225 [r.pv] (.sl 7 ((zhk r).map Mov.pv)):=by
 have hr:=zeR h;have hp:=zaI hr.1;have hdl:=zeN r.per;have hdr:zoM r.per=zaK r.per:=by rw [zoM,if_pos hr.1]
 refine pz func225 f225.eq_1 λhw X hX=>?_
 have qe:=aI qR @hdr;have jA:=zyf r.per;refine gE2 ?_;refine run_ownL 100 194 7 (κ:=Nat) (λk=>⟨[(1,.lp 1 0),(5,.row 100 ((zaK r.per).take k).length),(14,.p (.sl 1 ((zaK r.per).map (.i .i64)))),(15,.p (.i .i64 (zaK r.per).length)),(16,.p (.i .i64 k))],[(1,.box ([.s r.name,.s r.carrier,.s r.kind,.s r.term,.s r.partner,.s r.link,.i .i64 r.per.fro,.i .i64 r.per.to,.i .i64 r.per.days,.i .i64 r.minute,.i .i64 r.seats,.i .i64 r.size,.i .i64 r.noise].map .p) false),(100,.row 194 7 ((((zaK r.per).take k).map (zj0 r)).map Mov.pv) false)],[],false⟩) (λk=>k<=(zaK r.per).length) (λk=>(zaK r.per).length - k) 0 ?_ ?_ ?_
 ·refine ⟨gO ?_,gO ?_⟩<;>simp
 ·simp
 ·intro k hk;refine gH (λhc=>?_) λhc=>?_
  ·obtain ⟨d,hx⟩:=zj (i:=k) (l:=zaK r.per) (by omega)
   have hdm:=zeM (xae hx);have hlt:=zfJ hx;have qe:=aI qR @hx;refine gE2 ?_;exact ⟨k+1,by omega,by omega,⟨by rw [xaW,hx,xad];rfl,by simp⟩,by rw [zej (zj0 r) hx];simp [zj0]⟩
  ·refine gE2 ?_;have e:k=(zaK r.per).length:=by omega
   subst e;rw [xah];exact .refl _
def zbF (r:Req):List Mov:=if zbY r=0 then zhk r else []
def zjP (r:Req):Pure prog 183 [r.pv] (.tup [.sl 7 ((zbF r).map Mov.pv),.i .i64 (zbY r)]):=by
 refine pz func183 f183.eq_1 λhw X hX=>?_
 have qe:=@qR;repeat' first|refine gC ?_ ?_<;>intro hc<;>try contradiction|refine za (zA3 r) ?_|refine za (zA2 r hc) ?_|refine gG ?_|show AK _;intro J Z|refine gJ ?_|omega|exact aT
 ·rw [zbF,if_neg hc];exact zdc (.nilsl _) (.refl _)
 ·rw [zbF,if_pos hc,hc];exact .refl _
def Req.at (r:Req) (n:Int):Req:={ r with minute:=n }
def Win.add (k:Int) (w:Win):Win:=⟨w.lim,w.beg,w.cnt+k⟩
def zpV {s:St} {Q Q':zam} (hm:∀ e s1,Q e s1->Q' e s1) (h:Run G c s Q):Run G c s Q':=λhG code hc C a w hr=>
 wpIn_mono (h hG code hc C a w hr) λe a1 w1 hq=>by
  obtain ⟨s1,C1,h1,h2⟩:=hq;exact ⟨s1,C1,h1,by cases e<;>first|exact hm _ _ h2|exact h2⟩
def cutS (s':St):zam
 | .normal,s=>Cov s s'
 | _,_=>False
def zdU (s s':St):cutS s' .normal s=Cov s s':=rfl
def zdx {x:AC} {s:St} {Q:zam} (s':St) (h1:Run G x s (cutS s')) (h2:Run G y s' Q):Run G x s (seqK G y Q):=
 zpV (λe s1 h=>by
  cases e with
  | normal=>exact ztl s' h h2
  | exit i=>exact h.elim
  | ret=>exact h.elim) h1
def zun (n:Int) (h0:0<=n) (h1:n < 256):Pure prog 237 [.i .u64 n] .any:=by
 refine pz func237 f237.eq_1 λhw X hX=>?_
 have hw8:IntKind.u8.wrap n=n:=by simp [IntKind.wrap,IntKind.bits,IntKind.signed];omega
 repeat' first|refine gC ?_ ?_<;>intro hc<;>try contradiction|refine gG ?_|show AK _;intro J Z|refine gJ ?_|omega|exact aT
 refine ⟨⟨by rw [hw8];exact h0,by rw [hw8];exact Int.lt_of_lt_of_le h1 (by decide +kernel)⟩,?_⟩
 refine gE2 ?_;exact .any _
def zmF (n:Int) (h0:0<=n) (h1:n < 256):Pure prog 195 [.i .u64 n] .any:=by
 refine pz func195 f195.eq_1 λhw X hX=>?_
 have jA:=zun n h0 h1;exact gD2
theorem zg5 (n:ByteArray):∀ l:List ByteArray,0<=atL n l↔n ∈ l
 | []=>by simp [atL]
 | x::r=>by
  have ih:=zg5 n r;have:=zr9 n r;simp only [atL,xaI]
  by_cases h:x=n
  ·rw [if_pos h];exact ⟨λ_=>.inl h.symm,λ_=>by omega⟩
  ·rw [if_neg h]
   by_cases h2:atL n r < 0
   ·rw [if_pos h2];exact ⟨λh3=>by omega,λh3=>h3.elim (λe=>absurd e.symm h) λe=>by have:=ih.2 e;omega⟩
   ·rw [if_neg h2];exact ⟨λ_=>.inr (ih.1 (by omega)),λ_=>by omega⟩
structure Ttl where
 car:ByteArray
 asked:Int
 gr:Int
 dis:Int
def zmg (c:ByteArray) (n:Int) (g:Bool) (d:Int) (t:Ttl):Ttl:=⟨c,t.asked+n,if g then t.gr+n else t.gr,if g then t.dis+d else t.dis⟩
def t0 (c:ByteArray):Ttl:=⟨c,0,0,0⟩
def zkT (c:ByteArray) (n:Int) (g:Bool) (d:Int):List Ttl->List Ttl
 | []=>[zmg c n g d (t0 c)]
 | t::r=>if t.car=c then zmg c n g d t::r else t::zkT c n g d r
structure Tin where
 car:ByteArray
 n:Int
 g:Bool
 d:Int
open Go.Shelf Go.Proofs
def zpy:Go.Shelf.Ren:=⟨fun|6=>156|15=>195|14=>214|28=>236|29=>237|20=>254|21=>255|22=>256|23=>257|24=>258|25=>259|26=>260|27=>261|46=>286|47=>278|48=>279|49=>287|50=>288|57=>301|n=>n,fun|22=>153|24=>171|25=>235|3=>3|39=>266|0=>0|53=>309|55=>311|4=>4|46=>302|45=>301|50=>306|5=>5|9=>9|66=>336|70=>340|76=>352|77=>353|n=>n,fun|n=>n⟩
def zAd:Go.Proofs.SlLaysF0.n6 prog zpy:={
 mixed:=by kernel_rfl
 f6:=⟨f156.name,by decide,func156.trans (congrArg some (by kernel_rfl))⟩
 f14:=⟨f214.name,by decide,func214.trans (congrArg some (by kernel_rfl))⟩
 f15:=func195.trans (congrArg some (by kernel_rfl))
 f20:=⟨f254.name,by decide,func254.trans (congrArg some (by kernel_rfl))⟩
 f21:=⟨f255.name,by decide,func255.trans (congrArg some (by kernel_rfl))⟩
 f22:=⟨f256.name,by decide,func256.trans (congrArg some (by kernel_rfl))⟩
 f23:=⟨f257.name,by decide,func257.trans (congrArg some (by kernel_rfl))⟩
 f24:=⟨f258.name,by decide,func258.trans (congrArg some (by kernel_rfl))⟩
 f25:=⟨f259.name,by decide,func259.trans (congrArg some (by kernel_rfl))⟩
 f26:=⟨f260.name,by decide,func260.trans (congrArg some (by kernel_rfl))⟩
 f27:=⟨f261.name,by decide,func261.trans (congrArg some (by kernel_rfl))⟩
 f28:=func236.trans (congrArg some (by kernel_rfl))
 f29:=func237.trans (congrArg some (by kernel_rfl))
 f46:=⟨f286.name,by decide,func286.trans (congrArg some (by kernel_rfl))⟩
 f47:=func278.trans (congrArg some (by kernel_rfl))
 f48:=func279.trans (congrArg some (by kernel_rfl))
 f49:=⟨f287.name,by decide,func287.trans (congrArg some (by kernel_rfl))⟩
 f50:=⟨f288.name,by decide,func288.trans (congrArg some (by kernel_rfl))⟩
 f57:=⟨f301.name,by decide,func301.trans (congrArg some (by kernel_rfl))⟩
 t0:=underlying0
 a0:=Tryz.isAgg0
 z0:=Tryz.sizeOf0
 v0:=Tryz.zeroValue0
 t3:=underlying3
 a3:=Tryz.isAgg3
 z3:=Tryz.sizeOf3
 v3:=Tryz.zeroValue3
 t4:=underlying4
 a4:=Tryz.isAgg4
 z4:=Tryz.sizeOf4
 v4:=Tryz.zeroValue4
 t5:=underlying5
 a5:=Tryz.isAgg5
 z5:=Tryz.sizeOf5
 v5:=Tryz.zeroValue5
 t9:=underlying9
 a9:=Tryz.isAgg9
 z9:=Tryz.sizeOf9
 v9:=Tryz.zeroValue9
 t22:=underlying153
 a22:=Tryz.isAgg153
 z22:=Tryz.sizeOf153
 v22:=Tryz.zeroValue153
 t25:=underlying235
 a25:=Tryz.isAgg235
 z25:=Tryz.sizeOf235
 v25:=Tryz.zeroValue235
 t39:=underlying266
 a39:=Tryz.isAgg266
 z39:=Tryz.sizeOf266
 v39:=Tryz.zeroValue266
 t45:=underlying301
 a45:=Tryz.isAgg301
 z45:=Tryz.sizeOf301
 v45:=Tryz.zeroValue301
 t46:=underlying302
 a46:=Tryz.isAgg302
 z46:=Tryz.sizeOf302
 v46:=Tryz.zeroValue302
 t50:=underlying306
 a50:=Tryz.isAgg306
 z50:=Tryz.sizeOf306
 v50:=Tryz.zeroValue306
 t53:=underlying309
 a53:=Tryz.isAgg309
 z53:=Tryz.sizeOf309
 v53:=Tryz.zeroValue309
 t55:=underlying311
 a55:=Tryz.isAgg311
 z55:=Tryz.sizeOf311
 v55:=Tryz.zeroValue311
 t66:=underlying336
 a66:=Tryz.isAgg336
 z66:=Tryz.sizeOf336
 v66:=Tryz.zeroValue336
 t70:=underlying340
 a70:=Tryz.isAgg340
 z70:=Tryz.sizeOf340
 v70:=Tryz.zeroValue340
 t76:=underlying352
 a76:=Tryz.isAgg352
 z76:=Tryz.sizeOf352
 v76:=Tryz.zeroValue352
 t77:=underlying353
 a77:=Tryz.isAgg353
 z77:=Tryz.sizeOf353
 v77:=Tryz.zeroValue353 }
end Go.Proofs.YtbgckikhhcbmpaaGreat
