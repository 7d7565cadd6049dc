/- Contracts of functions that the proof uses, shared by the claims of this seat; no statement of its own. Part 69. No conditions. -/
import Derived.Test.YtahmdjadnlpjoaaGreatK11
import Derived.Test.YtahmdjadnlpjoaaGreatK38
import Derived.Test.YtahmdjadnlpjoaaGreatK39
set_option linter.all false
set_option maxHeartbeats 8000000
namespace Go.Proofs.YtahmdjadnlpjoaaGreat
open Go.RowKit
set_option maxRecDepth 100000
set_option linter.unusedVariables false
set_option linter.unusedSimpArgs false
set_option maxHeartbeats 8000000
def txQ (n c:List UInt8) (m:Int):Req:=⟨bs n,bs c,sA,s0,bs [102,97,114],s0,⟨8900,8909,127⟩,m,100,4,0⟩
def txP:Req:=txQ [112] [97,98] 600
def txO:Req:=txQ [113] [99,100] 610
def txR:Req:=txQ [114] [101,102] 620
def txH:List Lim:=[⟨bs [104,111,117,114],sT,s0,60,60,0,1380,⟨8900,8999,127⟩,2⟩]
def txB1:Bk:=⟨[newS txP],[]⟩
def txB2:Bk:=⟨[newS txP,newS txO],[]⟩
def txB3:Bk:=⟨[newS txP,newS txO],[⟨txR,5⟩]⟩
theorem aw1:(HoldB txH bk0 txP,HoldC txH bk0 txP)=(txB1,0):=by kernel_rfl
theorem aw2:(HoldB txH txB1 txO,HoldC txH txB1 txO)=(txB2,0):=by kernel_rfl
theorem aw3:(HoldB txH txB2 txR,HoldC txH txB2 txR)=(bk0,14):=by kernel_rfl
theorem aw4:(WaitB txB2 ⟨txR,5⟩,WaitC txB2 ⟨txR,5⟩)=(txB3,0):=by kernel_rfl
theorem aw5:refL txH txB3=[⟨bs [114],0,12816600⟩]:=by kernel_rfl
def txP4:Req:={ txP with per:=⟨8900,8904,127⟩ }
def nab:ByteArray:=bs [97,98]
def ncd:ByteArray:=bs [99,100]
def ngh:ByteArray:=bs [103,104]
def np:ByteArray:=bs [112]
def nq:ByteArray:=bs [113]
def txB6:Bk:=⟨[⟨txP4,nab,[],[]⟩,newS txO],[⟨txR,5⟩]⟩
def txB7:Bk:=⟨[newS txO],[⟨txR,5⟩]⟩
def txB8:Bk:=⟨[newS txO,newS txR],[]⟩
def txB9:Bk:=⟨[⟨txP,ncd,[],[]⟩,⟨txO,nab,[],[]⟩],[]⟩
def txL:Lea:=⟨ngh,8902,8904⟩
def txL2:Lea:=⟨ngh,8904,8906⟩
def txB11:Bk:=⟨[⟨txP,nab,[txL],[]⟩,newS txO],[]⟩
def txB16:Bk:=⟨[⟨txP,nab,[⟨ngh,8902,8902⟩],[]⟩,newS txO],[]⟩
theorem aw6:BkTo txB3 (bckB txB3 nab np 8905) (bckC txB3 nab np 8905)=(txB6,0):=by kernel_rfl
theorem aw7:BkTo txB3 (bckB txB3 nab np 8900) (bckC txB3 nab np 8900)=(txB7,0):=by kernel_rfl
theorem aw8:(ServB txH txB7,ServW txH txB7,lbE txH txB7)=(txB8,[bs [114]],0):=by kernel_rfl
theorem aw9:BkTo txB2 (swpB txB2 np nq) (swpC txB2 np nq)=(txB9,0):=by kernel_rfl
theorem aw10:(holR txB9 np,hldE txB9 np)=(ncd,0):=by kernel_rfl
theorem aw11:BkTo txB2 (lnB txB2 nab np txL) (lnC txB2 nab np txL)=(txB11,0):=by kernel_rfl
theorem aw12:BkTo txB11 (lnB txB11 nab np txL2) (lnC txB11 nab np txL2)=(bk0,15):=by kernel_rfl
theorem aw13:BkTo txB11 (swpB txB11 np nq) (swpC txB11 np nq)=(bk0,19):=by kernel_rfl
theorem aw14:(oprR txB11 np 8904,oprC txB11 np 8904)=(ngh,0):=by kernel_rfl
theorem aw15:(oprR txB11 np 8905,oprC txB11 np 8905)=(nab,0):=by kernel_rfl
theorem aw16:BkTo txB11 (reB txB11 nab np 8903) (reC txB11 nab np 8903)=(txB16,0):=by kernel_rfl
theorem aw17:((mvE txB2).length,zG txB2)=(20,0):=by kernel_rfl
theorem aw5e:lbE txH txB3=0:=by kernel_rfl
theorem pure_in {P:Program} {f:FuncId} {ps qs:List PV} {r:PV} (h:Pure P f qs r) (hw:Wks ps qs):Pure P f ps r:=by
 obtain ⟨h1,h2⟩:=hw.at
 refine ⟨h.1,fun w B vs hB hv=>h.2 w B vs hB ⟨by rw [hv.1,h1],fun j v q hj hq=>?_⟩⟩
 have hlt:j < ps.length:=by rw [h1];exact (List.getElem?_eq_some_iff.1 hq).1
 exact h2 j _ q (List.getElem?_eq_getElem hlt) hq w B v (hv.2 j v _ hj (List.getElem?_eq_getElem hlt))
theorem zaD {b:Bk} (h1:b.slots.all (fun s=>decide (s.ls.length≤1000) && decide (s.sh.length≤1000))=true) (h2:b.slots.length≤1000) (h3:b.wait.length≤1000):BkOk b:=
 ⟨fun s hs=>by have:=List.all_eq_true.1 h1 s hs;simpa [SlOk] using this,h2,h3⟩
abbrev nbk:PV:=.agg [.nilsl,.nilsl]
theorem c1042a:Pure Tryz.prog 52 [.sl 11 (txH.map Lim.pv),nbk,txP.pv] (.tup [txB1.pv,.i .i64 0]):=by
 have h:=pure1042 txH bk0 txP (fun _=>zaD rfl (by decide) (by decide))
 rw [show HoldB txH bk0 txP=txB1 from congrArg (·.1) aw1,show HoldC txH bk0 txP=0 from congrArg (·.2) aw1] at h
 exact pure_in h ⟨.refl _,.agg ⟨.nilsl _,.nilsl _,trivial⟩,.refl _,trivial⟩
theorem c1042b:Pure Tryz.prog 52 [.sl 11 (txH.map Lim.pv),txB1.pv,txO.pv] (.tup [txB2.pv,.i .i64 0]):=by
 have h:=pure1042 txH txB1 txO (fun _=>zaD rfl (by decide) (by decide))
 rw [show HoldB txH txB1 txO=txB2 from congrArg (·.1) aw2,show HoldC txH txB1 txO=0 from congrArg (·.2) aw2] at h
 exact h
theorem c1042c:Pure Tryz.prog 52 [.sl 11 (txH.map Lim.pv),txB2.pv,txR.pv] (.tup [bk0.pv,.i .i64 14]):=by
 have h:=pure1042 txH txB2 txR (fun _=>zaD rfl (by decide) (by decide))
 rw [show HoldB txH txB2 txR=bk0 from congrArg (·.1) aw3,show HoldC txH txB2 txR=14 from congrArg (·.2) aw3] at h
 exact h
theorem c1018:Pure Tryz.prog 32 [txB2.pv,(⟨txR,5⟩:Wsh).pv] (.tup [txB3.pv,.i .i64 0]):=by
 have h:=pure1018 txB2 ⟨txR,5⟩ (fun _=>zaD rfl (by decide) (by decide)) (by decide)
 rw [show WaitB txB2 ⟨txR,5⟩=txB3 from congrArg (·.1) aw4,show WaitC txB2 ⟨txR,5⟩=0 from congrArg (·.2) aw4] at h
 exact h
theorem c1022:Pure Tryz.prog 35 [.sl 11 (txH.map Lim.pv),txB3.pv] (.tup [.sl 3 [.agg [.s (bs [114]),.i .i64 0,.i .i64 12816600]],.i .i64 0]):=by
 have h:=pure1022 txH txB3
 rw [aw5,aw5e] at h;exact h
theorem c1050a:Pure Tryz.prog 59 [txB3.pv,.s nab,.s np,.i .i64 8905] (.tup [txB6.pv,.i .i64 0]):=by
 have h:=pure1050 txB3 nab np 8905 (fun _=>zaD rfl (by decide) (by decide))
 rw [aw6] at h;exact h
theorem c1050b:Pure Tryz.prog 59 [txB3.pv,.s nab,.s np,.i .i64 8900] (.tup [txB7.pv,.i .i64 0]):=by
 have h:=pure1050 txB3 nab np 8900 (fun _=>zaD rfl (by decide) (by decide))
 rw [aw7] at h;exact h
theorem c1020:Pure Tryz.prog 33 [.sl 11 (txH.map Lim.pv),txB7.pv] (.tup [txB8.pv,.sl 1 (([bs [114]]:List ByteArray).map .s),.i .i64 0]):=by
 have h:=pure1020 txH txB7 (fun _=>zaD rfl (by decide) (by decide))
 rw [show ServB txH txB7=txB8 from congrArg (·.1) aw8,show ServW txH txB7=[bs [114]] from congrArg (·.2.1) aw8,show lbE txH txB7=0 from congrArg (·.2.2) aw8] at h
 exact h
theorem c1060a:Pure Tryz.prog 69 [txB2.pv,.s np,.s nq] (.tup [txB9.pv,.i .i64 0]):=by
 have h:=pure1060 txB2 np nq (fun _=>zaD rfl (by decide) (by decide))
 rw [aw9] at h;exact h
theorem c1060b:Pure Tryz.prog 69 [txB11.pv,.s np,.s nq] (.tup [bk0.pv,.i .i64 19]):=by
 have h:=pure1060 txB11 np nq (fun _=>zaD rfl (by decide) (by decide))
 rw [aw13] at h;exact h
theorem c1035a:Pure Tryz.prog 46 [txB2.pv,.s nab,.s np,txL.pv] (.tup [txB11.pv,.i .i64 0]):=by
 have h:=pure1035 txB2 nab np txL (fun _=>zaD rfl (by decide) (by decide))
 rw [aw11] at h;exact h
theorem c1035b:Pure Tryz.prog 46 [txB11.pv,.s nab,.s np,txL2.pv] (.tup [bk0.pv,.i .i64 15]):=by
 have h:=pure1035 txB11 nab np txL2 (fun _=>zaD rfl (by decide) (by decide))
 rw [aw12] at h;exact h
theorem c1038:Pure Tryz.prog 48 [txB11.pv,.s nab,.s np,.i .i64 8903] (.tup [txB16.pv,.i .i64 0]):=by
 have h:=pure1038 txB11 nab np 8903 (fun _=>zaD rfl (by decide) (by decide))
 rw [aw16] at h;exact h
theorem c1083:Pure Tryz.prog 20 [txB9.pv,.s np] (.tup [.s ncd,.i .i64 0]):=by
 have h:=pure1083 txB9 np
 rw [show holR txB9 np=ncd from congrArg (·.1) aw10,show hldE txB9 np=0 from congrArg (·.2) aw10] at h
 exact h
theorem c1037a:Pure Tryz.prog 21 [txB11.pv,.s np,.i .i64 8904] (.tup [.s ngh,.i .i64 0]):=by
 have h:=pure1037 txB11 np 8904
 rw [show oprR txB11 np 8904=ngh from congrArg (·.1) aw14,show oprC txB11 np 8904=0 from congrArg (·.2) aw14] at h
 exact h
theorem c1037b:Pure Tryz.prog 21 [txB11.pv,.s np,.i .i64 8905] (.tup [.s nab,.i .i64 0]):=by
 have h:=pure1037 txB11 np 8905
 rw [show oprR txB11 np 8905=nab from congrArg (·.1) aw15,show oprC txB11 np 8905=0 from congrArg (·.2) aw15] at h
 exact h
theorem c1043:Pure Tryz.prog 18 [txB2.pv] (.tup [.sl 7 ((mvE txB2).map Mov.pv),.i .i64 0]):=by
 have h:=pure1043 txB2
 rw [show zG txB2=0 from congrArg (·.2) aw17] at h
 exact h
theorem pure1081 (n c:List UInt8) (m:Int):Pure Tryz.prog 86 [.s (bs n),.s (bs c),.i .i64 m] (txQ n c m).pv:=by
 refine zf (cF Tryz.func86 Tryz.f86.eq_1) (by simp) fun hw X hX=>?_
 have qe:=@qR;repeat' first|refine gC (fun hc=>?_) (fun hc=>?_)<;>try contradiction|refine gG ?_|show AK _;intro K H|refine H _ _ ?_;clear H K|refine gJ ?_;try exact trivial|omega
 exact .refl _
theorem pure1082:Pure Tryz.prog 87 [] (.sl 11 (txH.map Lim.pv)):=by
 refine zf (cF Tryz.func87 Tryz.f87.eq_1) (by simp) fun hw X hX=>?_
 have qe:=@qR;repeat' first|refine gC (fun hc=>?_) (fun hc=>?_)<;>try contradiction|refine gG ?_|show AK _;intro K H|refine H _ _ ?_;clear H K|refine gJ ?_;try exact trivial|omega
 exact .refl _
theorem ncd_e:ncd=bs [99,100]:=rfl
theorem nab_e:nab=bs [97,98]:=rfl
theorem ngh_e:ngh=bs [103,104]:=rfl
theorem sl6:txB6.slots=[⟨txP4,nab,[],[]⟩,newS txO]:=rfl
theorem sl7:txB7.slots=[newS txO]:=rfl
theorem sl8:txB8.slots=[newS txO,newS txR]:=rfl
theorem wl8:txB8.wait=[]:=rfl
theorem sl16:txB16.slots=[⟨txP,nab,[⟨ngh,8902,8902⟩],[]⟩,newS txO]:=rfl
theorem toP4:txP4.per.to=8904:=rfl
theorem mv20:((mvE txB2).map Mov.pv).length=20:=by rw [List.length_map];exact congrArg (·.1) aw17
theorem toN0:Int.toNat 0=0:=rfl
theorem lN {α:Type} (r:List α):List.append [] r=r:=rfl
theorem lC {α:Type} (a:α) (l r:List α):List.append (a::l) r=a::List.append l r:=rfl
theorem cFb {f:Nat} {fn lit:Func} {x:AC × List RV × Nat} (hf:Tryz.prog.funcs[f]?=some fn) (he:fn=lit) (h:compP Tryz.prog lit=some x:=by
  (conv=>lhs;simp only [qT,qU,cI,cS,cB,cN,cL,cG,cM,compP,zF,za5,compRO,zak,zaj,aopd,cval,cvals,zaQ,GB,Region.binds,mG,mT,Int.reduceNeg,Int.reduceLE,Nat.reduceLeDiff,Nat.reduceLT,and_self,reduceIte,Option.map_some,Option.map_none,Option.bind_some,Option.bind_none,List.length_cons,List.length_nil,List.map_cons,List.map_nil,List.filterMap_cons,List.filterMap_nil,List.nil_append,List.cons_append,List.getElem?_cons_zero,List.getElem?_cons_succ,List.getElem?_toArray,Option.all_some,Option.all_none,decide_true,decide_eq_true_eq,Option.toList_some,Option.toList_none,PV.cells,PV.isAgg,Nat.reduceAdd,Nat.reduceMul,Nat.reducePow,reduceCtorEq,Option.isSome_some,Option.isSome_none,Bool.false_eq_true,List.length_replicate,List.size_toArray,Array.size_empty,lN,lC])
  try exact rfl) (hn : (fn.name == "runtime.NumGoroutine") = false := by kernel_rfl) : compF Tryz.prog f = some x := by
 subst he
 unfold compF
 rw [hf]
 show (if _ then _ else _)=_
 rw [hn,if_neg (by simp)]
 exact h
theorem pure1017:Pure Tryz.prog 17 [] (.b true):=by
 refine zf (cFb Tryz.func17 Tryz.f17.eq_1) (by simp) fun hw X hX=>?_
 have qe:=aI qR (aI @zbb (aI @toN0 (aI @ncd_e (aI @nab_e (aI @ngh_e (aI @sl6 (aI @sl7 (aI @sl8 (aI @wl8 (aI @sl16 (aI @toP4 (aI @mv20 (aI @decide_true @decide_false)))))))))))));repeat' first|refine gC (fun hc=>?_) (fun hc=>?_)<;>try contradiction|refine za (pure1081 [112] [97,98] 600) ?_|refine za (pure1081 [114] [101,102] 620) ?_|refine za (pure1081 [113] [99,100] 610) ?_|refine za (pure1082) ?_|refine za (c1042a) ?_|refine za (c1042b) ?_|refine za (c1042c) ?_|refine za (c1018) ?_|refine za (c1022) ?_|refine za (c1050a) ?_|refine za (c1050b) ?_|refine za (c1020) ?_|refine za (c1060a) ?_|refine za (c1083) ?_|refine za (c1035a) ?_|refine za (c1035b) ?_|refine za (c1060b) ?_|refine za (c1037a) ?_|refine za (c1037b) ?_|refine za (c1038) ?_|refine za (c1043) ?_|refine zN (fun _=>pure1031 [bs [114]] [bs [114]]) ?_|refine gG ?_|show AK _;intro K H|refine H _ _ ?_;clear H K|refine gJ ?_;try exact trivial|omega
 all_goals first|exact weakB (by decide)|decide
end Go.Proofs.YtahmdjadnlpjoaaGreat
