/- Contracts of functions, for the claim. No conditions. -/
import Derived.Test.YtijgimeokgbifaaGreatK23
import Derived.Test.YtijgimeokgbifaaGreatK30
import Derived.Test.YtijgimeokgbifaaGreatK31
set_option linter.all false
set_option maxHeartbeats 8000000
set_option maxRecDepth 100000
namespace Go.Proofs.YtijgimeokgbifaaGreat
open Go.RowKit
def txQ (n c:List UInt8) (m:Int):Req:=⟨bs n,bs c,sA,s0,bs [102,97,114],s0,⟨8900,8909,127⟩,m,100,4,0⟩
def txP:Req:=txQ [112] [97,98] 600
def txO:Req:=txQ [113] [99,100] 610
def txR:Req:=txQ [114] [101,102] 620
def txH:List Lim:=[⟨bs [104,111,117,114],sT,s0,60,60,0,1380,⟨8900,8999,127⟩,2⟩]
def txB1:Bk:=⟨[zgP txP],[]⟩
def txB2:Bk:=⟨[zgP txP,zgP txO],[]⟩
def txB3:Bk:=⟨[zgP txP,zgP txO],[⟨txR,5⟩]⟩
theorem aw1:(zhk txH bk0 txP,zfN txH bk0 txP)=(txB1,0):=by kernel_rfl
theorem aw2:(zhk txH txB1 txO,zfN txH txB1 txO)=(txB2,0):=by kernel_rfl
theorem aw3:(zhk txH txB2 txR,zfN txH txB2 txR)=(bk0,14):=by kernel_rfl
theorem aw4:(zpg txB2 ⟨txR,5⟩,zmB txB2 ⟨txR,5⟩)=(txB3,0):=by kernel_rfl
theorem aw5:refL txH txB3=[⟨bs [114],0,12816600⟩]:=by kernel_rfl
def txP4:Req:={ txP with per:=⟨8900,8904,127⟩ }
def nab:ByteArray:=bs [97,98]
def ncd:ByteArray:=bs [99,100]
def ngh:ByteArray:=bs [103,104]
def np:ByteArray:=bs [112]
def nq:ByteArray:=bs [113]
def txB6:Bk:=⟨[⟨txP4,nab,[],[]⟩,zgP txO],[⟨txR,5⟩]⟩
def txB7:Bk:=⟨[zgP txO],[⟨txR,5⟩]⟩
def txB8:Bk:=⟨[zgP txO,zgP txR],[]⟩
def txB9:Bk:=⟨[⟨txP,ncd,[],[]⟩,⟨txO,nab,[],[]⟩],[]⟩
def txL:Lea:=⟨ngh,8902,8904⟩
def txL2:Lea:=⟨ngh,8904,8906⟩
def txB11:Bk:=⟨[⟨txP,nab,[txL],[]⟩,zgP txO],[]⟩
def txB16:Bk:=⟨[⟨txP,nab,[⟨ngh,8902,8902⟩],[]⟩,zgP txO],[]⟩
theorem aw6:zhl txB3 (zvN txB3 nab np 8905) (zo8 txB3 nab np 8905)=(txB6,0):=by kernel_rfl
theorem aw7:zhl txB3 (zvN txB3 nab np 8900) (zo8 txB3 nab np 8900)=(txB7,0):=by kernel_rfl
theorem aw8:(zpi txH txB7,zph txH txB7,lbE txH txB7)=(txB8,[bs [114]],0):=by kernel_rfl
theorem aw9:zhl txB2 (zpm txB2 np nq) (zpI txB2 np nq)=(txB9,0):=by kernel_rfl
theorem aw10:(zxn txB9 np,zv2 txB9 np)=(ncd,0):=by kernel_rfl
theorem aw11:zhl txB2 (lnB txB2 nab np txL) (lnC txB2 nab np txL)=(txB11,0):=by kernel_rfl
theorem aw12:zhl txB11 (lnB txB11 nab np txL2) (lnC txB11 nab np txL2)=(bk0,15):=by kernel_rfl
theorem aw13:zhl txB11 (zpm txB11 np nq) (zpI txB11 np nq)=(bk0,19):=by kernel_rfl
theorem aw14:(zjb txB11 np 8904,zpp txB11 np 8904)=(ngh,0):=by kernel_rfl
theorem aw15:(zjb txB11 np 8905,zpp txB11 np 8905)=(nab,0):=by kernel_rfl
theorem aw16:zhl txB11 (reB txB11 nab np 8903) (reC txB11 nab np 8903)=(txB16,0):=by kernel_rfl
theorem aw17:((mvE txB2).length,zF txB2)=(20,0):=by kernel_rfl
theorem aw5e:lbE txH txB3=0:=by kernel_rfl
theorem zt5 {P:Program} {f:FuncId} {ps qs:List PV} {r:PV} (h:Pure P f qs r) (hw:Wks ps qs):Pure P f ps r:=by
 obtain ⟨h1,h2⟩:=hw.at
 refine ⟨h.1,λw B vs hB hv=>h.2 w B vs hB ⟨by rw [hv.1,h1],λj v q hj hq=>?_⟩⟩
 have hlt:j < ps.length:=by rw [h1];exact (List.getElem?_eq_some_iff.1 hq).1
 exact h2 j _ q (List.getElem?_eq_getElem hlt) hq w B v (hv.2 j v _ hj (List.getElem?_eq_getElem hlt))
theorem zaD {b:Bk} (h1:b.slots.all (λs=>decide (s.ls.length<=1000) && decide (s.sh.length<=1000))=true) (h2:b.slots.length<=1000) (h3:b.wait.length<=1000):zfz b:=
 ⟨λs hs=>by have:=List.all_eq_true.1 h1 s hs;simpa [zlc] using this,h2,h3⟩
abbrev nbk:PV:=.agg [.nilsl,.nilsl]
theorem zyo:Pure Tryz.prog 26 [.sl 11 (txH.map Lim.pv),nbk,txP.pv] (.tup [txB1.pv,.i .i64 0]):=by
 have h:=zgN txH bk0 txP (λ_=>zaD rfl (by decide) (by decide))
 rw [show zhk txH bk0 txP=txB1 from congrArg (·.1) aw1,show zfN txH bk0 txP=0 from congrArg (·.2) aw1] at h
 exact zt5 h ⟨.refl _,.agg ⟨.nilsl _,.nilsl _,trivial⟩,.refl _,trivial⟩
theorem zyn:Pure Tryz.prog 26 [.sl 11 (txH.map Lim.pv),txB1.pv,txO.pv] (.tup [txB2.pv,.i .i64 0]):=by
 have h:=zgN txH txB1 txO (λ_=>zaD rfl (by decide) (by decide))
 rw [show zhk txH txB1 txO=txB2 from congrArg (·.1) aw2,show zfN txH txB1 txO=0 from congrArg (·.2) aw2] at h
 exact h
theorem zym:Pure Tryz.prog 26 [.sl 11 (txH.map Lim.pv),txB2.pv,txR.pv] (.tup [bk0.pv,.i .i64 14]):=by
 have h:=zgN txH txB2 txR (λ_=>zaD rfl (by decide) (by decide))
 rw [show zhk txH txB2 txR=bk0 from congrArg (·.1) aw3,show zfN txH txB2 txR=14 from congrArg (·.2) aw3] at h
 exact h
theorem c1018:Pure Tryz.prog 28 [txB2.pv,(⟨txR,5⟩:Wsh).pv] (.tup [txB3.pv,.i .i64 0]):=by
 have h:=zq9 txB2 ⟨txR,5⟩ (λ_=>zaD rfl (by decide) (by decide)) (by decide)
 rw [show zpg txB2 ⟨txR,5⟩=txB3 from congrArg (·.1) aw4,show zmB txB2 ⟨txR,5⟩=0 from congrArg (·.2) aw4] at h
 exact h
theorem c1022:Pure Tryz.prog 29 [.sl 11 (txH.map Lim.pv),txB3.pv] (.tup [.sl 3 [.agg [.s (bs [114]),.i .i64 0,.i .i64 12816600]],.i .i64 0]):=by
 have h:=zq7 txH txB3
 rw [aw5,aw5e] at h;exact h
theorem zyl:Pure Tryz.prog 30 [txB3.pv,.s nab,.s np,.i .i64 8905] (.tup [txB6.pv,.i .i64 0]):=by
 have h:=zko txB3 nab np 8905 (λ_=>zaD rfl (by decide) (by decide))
 rw [aw6] at h;exact h
theorem zyk:Pure Tryz.prog 30 [txB3.pv,.s nab,.s np,.i .i64 8900] (.tup [txB7.pv,.i .i64 0]):=by
 have h:=zko txB3 nab np 8900 (λ_=>zaD rfl (by decide) (by decide))
 rw [aw7] at h;exact h
theorem c1020:Pure Tryz.prog 31 [.sl 11 (txH.map Lim.pv),txB7.pv] (.tup [txB8.pv,.sl 1 (([bs [114]]:List ByteArray).map .s),.i .i64 0]):=by
 have h:=zq8 txH txB7 (λ_=>zaD rfl (by decide) (by decide))
 rw [show zpi txH txB7=txB8 from congrArg (·.1) aw8,show zph txH txB7=[bs [114]] from congrArg (·.2.1) aw8,show lbE txH txB7=0 from congrArg (·.2.2) aw8] at h
 exact h
theorem zyj:Pure Tryz.prog 33 [txB2.pv,.s np,.s nq] (.tup [txB9.pv,.i .i64 0]):=by
 have h:=zkn txB2 np nq (λ_=>zaD rfl (by decide) (by decide))
 rw [aw9] at h;exact h
theorem zyi:Pure Tryz.prog 33 [txB11.pv,.s np,.s nq] (.tup [bk0.pv,.i .i64 19]):=by
 have h:=zkn txB11 np nq (λ_=>zaD rfl (by decide) (by decide))
 rw [aw13] at h;exact h
theorem zys:Pure Tryz.prog 35 [txB2.pv,.s nab,.s np,txL.pv] (.tup [txB11.pv,.i .i64 0]):=by
 have h:=zkq txB2 nab np txL (λ_=>zaD rfl (by decide) (by decide))
 rw [aw11] at h;exact h
theorem zyr:Pure Tryz.prog 35 [txB11.pv,.s nab,.s np,txL2.pv] (.tup [bk0.pv,.i .i64 15]):=by
 have h:=zkq txB11 nab np txL2 (λ_=>zaD rfl (by decide) (by decide))
 rw [aw12] at h;exact h
theorem c1038:Pure Tryz.prog 37 [txB11.pv,.s nab,.s np,.i .i64 8903] (.tup [txB16.pv,.i .i64 0]):=by
 have h:=zq5 txB11 nab np 8903 (λ_=>zaD rfl (by decide) (by decide))
 rw [aw16] at h;exact h
theorem c1083:Pure Tryz.prog 34 [txB9.pv,.s np] (.tup [.s ncd,.i .i64 0]):=by
 have h:=zq2 txB9 np
 rw [show zxn txB9 np=ncd from congrArg (·.1) aw10,show zv2 txB9 np=0 from congrArg (·.2) aw10] at h
 exact h
theorem zyq:Pure Tryz.prog 36 [txB11.pv,.s np,.i .i64 8904] (.tup [.s ngh,.i .i64 0]):=by
 have h:=zkp txB11 np 8904
 rw [show zjb txB11 np 8904=ngh from congrArg (·.1) aw14,show zpp txB11 np 8904=0 from congrArg (·.2) aw14] at h
 exact h
theorem zyp:Pure Tryz.prog 36 [txB11.pv,.s np,.i .i64 8905] (.tup [.s nab,.i .i64 0]):=by
 have h:=zkp txB11 np 8905
 rw [show zjb txB11 np 8905=nab from congrArg (·.1) aw15,show zpp txB11 np 8905=0 from congrArg (·.2) aw15] at h
 exact h
theorem c1043:Pure Tryz.prog 38 [txB2.pv] (.tup [.sl 7 ((mvE txB2).map Mov.pv),.i .i64 0]):=by
 have h:=zq4 txB2
 rw [show zF txB2=0 from congrArg (·.2) aw17] at h
 exact h
theorem zgM (n c:List UInt8) (m:Int):Pure Tryz.prog 25 [.s (bs n),.s (bs c),.i .i64 m] (txQ n c m).pv:=by
 refine zf (cF Tryz.func25 Tryz.f25.eq_1) (by simp) λhw X hX=>?_
 have qe:=@qR;repeat' first|refine gC ?_ ?_<;>intro hc<;>try contradiction|refine gG ?_|show AK _;intro K H|refine H _ _ ?_;clear H K|refine gJ ?_;try exact trivial|omega
 exact .refl _
theorem zq3:Pure Tryz.prog 27 [] (.sl 11 (txH.map Lim.pv)):=by
 refine zf (cF Tryz.func27 Tryz.f27.eq_1) (by simp) λhw X hX=>?_
 have qe:=@qR;repeat' first|refine gC ?_ ?_<;>intro hc<;>try contradiction|refine gG ?_|show AK _;intro K H|refine H _ _ ?_;clear H K|refine gJ ?_;try exact trivial|omega
 exact .refl _
theorem ncd_e:ncd=bs [99,100]:=rfl
theorem nab_e:nab=bs [97,98]:=rfl
theorem ngh_e:ngh=bs [103,104]:=rfl
theorem sl6:txB6.slots=[⟨txP4,nab,[],[]⟩,zgP txO]:=rfl
theorem sl7:txB7.slots=[zgP txO]:=rfl
theorem sl8:txB8.slots=[zgP txO,zgP txR]:=rfl
theorem wl8:txB8.wait=[]:=rfl
theorem sl16:txB16.slots=[⟨txP,nab,[⟨ngh,8902,8902⟩],[]⟩,zgP txO]:=rfl
theorem toP4:txP4.per.to=8904:=rfl
theorem mv20:((mvE txB2).map Mov.pv).length=20:=by rw [List.length_map];exact congrArg (·.1) aw17
theorem toN0:Int.toNat 0=0:=rfl
theorem lN {α:Type} (r:List α):List.append [] r=r:=rfl
theorem lC {α:Type} (a:α) (l r:List α):List.append (a::l) r=a::List.append l r:=rfl
theorem cFb {f:Nat} {fn lit:Func} {x:AC × List RV × Nat} (hf:Tryz.prog.funcs[f]?=some fn) (he:fn=lit) (h:zr8 Tryz.prog lit=some x:=by
  (conv=>lhs;simp only [qT,qU,cI,cS,cB,cN,cL,cG,cM,zr8,zC,zaX,zcg,zak,zah,zbZ,zr0,zhg,zaI,GB,Region.binds,mG,mT,Int.reduceNeg,Int.reduceLE,Nat.reduceLeDiff,Nat.reduceLT,and_self,reduceIte,Option.map_some,Option.map_none,Option.bind_some,Option.bind_none,List.length_cons,List.length_nil,List.map_cons,List.map_nil,List.filterMap_cons,List.filterMap_nil,List.nil_append,List.cons_append,List.getElem?_cons_zero,List.getElem?_cons_succ,List.getElem?_toArray,Option.all_some,Option.all_none,decide_true,decide_eq_true_eq,Option.toList_some,Option.toList_none,PV.cells,PV.isAgg,Nat.reduceAdd,Nat.reduceMul,Nat.reducePow,reduceCtorEq,Option.isSome_some,Option.isSome_none,Bool.false_eq_true,List.length_replicate,List.size_toArray,Array.size_empty,lN,lC])
  try exact rfl) (hn : (fn.name == "runtime.NumGoroutine") = false := by kernel_rfl) : zck Tryz.prog f = some x := by
 subst he
 unfold zck
 rw [hf]
 show (if _ then _ else _)=_
 rw [hn,if_neg (by simp)]
 exact h
theorem pure1017:Pure Tryz.prog 8 [] (.b true):=by
 refine zf (cFb Tryz.func8 Tryz.f8.eq_1) (by simp) λhw X hX=>?_
 have qe:=aI qR (aI @zbb (aI @toN0 (aI @ncd_e (aI @nab_e (aI @ngh_e (aI @sl6 (aI @sl7 (aI @sl8 (aI @wl8 (aI @sl16 (aI @toP4 (aI @mv20 (aI @decide_true @decide_false)))))))))))));repeat' first|refine gC ?_ ?_<;>intro hc<;>try contradiction|refine za (zgM [112] [97,98] 600) ?_|refine za (zgM [114] [101,102] 620) ?_|refine za (zgM [113] [99,100] 610) ?_|refine za (zq3) ?_|refine za (zyo) ?_|refine za (zyn) ?_|refine za (zym) ?_|refine za (c1018) ?_|refine za (c1022) ?_|refine za (zyl) ?_|refine za (zyk) ?_|refine za (c1020) ?_|refine za (zyj) ?_|refine za (c1083) ?_|refine za (zys) ?_|refine za (zyr) ?_|refine za (zyi) ?_|refine za (zyq) ?_|refine za (zyp) ?_|refine za (c1038) ?_|refine za (c1043) ?_|refine zM (λ_=>zq6 [bs [114]] [bs [114]]) ?_|refine gG ?_|show AK _;intro K H|refine H _ _ ?_;clear H K|refine gJ ?_;try exact trivial|omega
 all_goals first|exact weakB (by decide)|decide
end Go.Proofs.YtijgimeokgbifaaGreat
