/- Contracts of functions that the proof uses, shared by the claims of this seat; no statement of its own. Part 21. No conditions. -/
import Derived.Test.YtcfbdeghmckelaaGreatJW4
import Derived.Test.YtcfbdeghmckelaaGreatJW7
import Derived.Test.YtcfbdeghmckelaaGreatJW8
set_option linter.all false
namespace Go.Proofs.YtcfbdeghmckelaaGreat
open Go.RowKit
set_option maxRecDepth 100000
set_option linter.unusedVariables false
set_option linter.unusedSimpArgs false
set_option maxHeartbeats 2000000
def ac81 : AC := .seq (.ops false [⟨some 2,.mv,[.c (.b false)],none,[]⟩]) (.seq (.ops false [⟨some 3,.mv,[.t 0],none,[]⟩,⟨some 4,.bin .eql,[.t 3,.c (.s (bs []))],none,[0]⟩,⟨some 5,.mv,[.t 4],none,[1]⟩,⟨some 6,.mv,[.t 0],some (5,false),[2]⟩,⟨some 7,.call 70,[.t 6],some (5,false),[3,2,2]⟩,⟨some 8,.pick,[.t 5,.c (.b true),.t 7],none,[2,4]⟩,⟨some 2,.mv,[.t 8],none,[5,4,0,1,2,3,4,5]⟩]) .ret)
def rs81 : List RV := [.tmp 2]
theorem fact81 : compF Tryz.prog 81 = some (ac81,rs81,9) := by kernel_rfl
def ac33 : AC := .seq (.ops false [⟨some 6,.mv,[.c (.b false)],none,[]⟩]) (.seq (.ops false [⟨some 7,.mv,[.t 0],none,[]⟩,⟨some 8,.mv,[.t 1],none,[]⟩,⟨some 9,.bin .lss,[.t 7,.t 8],none,[0,1]⟩,⟨some 10,.mv,[.t 9],none,[2]⟩,⟨some 11,.mv,[.t 0],some (10,false),[3]⟩,⟨some 12,.mv,[.t 2],some (10,false),[3]⟩,⟨some 13,.bin .gtr,[.t 11,.t 12],some (10,false),[4,5,3]⟩,⟨some 14,.pick,[.t 10,.c (.b true),.t 13],none,[3,6]⟩,⟨some 6,.mv,[.t 14],none,[7,3,0,1,2,3,4,5,6,7]⟩]) .ret)
def rs33 : List RV := [.tmp 6]
theorem fact33 : compF Tryz.prog 33 = some (ac33,rs33,15) := by kernel_rfl
def ac31 : AC := .seq (.ops false [⟨some 1,.box,[.t 0],none,[]⟩,⟨some 2,.mv,[.c (.i .i64 0)],none,[]⟩]) (.seq (.seq (.ops false [⟨some 4,.fadr 0,[.t 1],none,[]⟩,⟨some 5,.load 1 false,[.t 4],none,[0]⟩,⟨some 6,.call 70,[.t 5],none,[1]⟩,⟨some 7,.not,[.t 6],none,[2]⟩]) (.cond (.t 7) (.seq (.ops false [⟨some 2,.mv,[.c (.i .i64 8)],none,[]⟩]) .ret) .skip)) (.seq (.seq (.ops false [⟨some 8,.fadr 1,[.t 1],none,[]⟩,⟨some 9,.load 1 false,[.t 8],none,[0]⟩,⟨some 10,.bin .neq,[.t 9,.c (.s (bs [65]))],none,[1]⟩,⟨some 11,.mv,[.t 10],none,[2]⟩,⟨some 12,.fadr 1,[.t 1],some (11,true),[3]⟩,⟨some 13,.load 1 false,[.t 12],some (11,true),[4,3]⟩,⟨some 14,.bin .neq,[.t 13,.c (.s (bs [68]))],some (11,true),[5,3]⟩,⟨some 15,.pick,[.t 11,.t 14,.c (.b false)],none,[3,6]⟩,⟨some 16,.mv,[.t 15],none,[7,3]⟩,⟨some 17,.fadr 1,[.t 1],some (16,true),[8]⟩,⟨some 18,.load 1 false,[.t 17],some (16,true),[9,8]⟩,⟨some 19,.bin .neq,[.t 18,.c (.s (bs [84]))],some (16,true),[10,8]⟩,⟨some 20,.pick,[.t 16,.t 19,.c (.b false)],none,[8,11]⟩]) (.cond (.t 20) (.seq (.ops false [⟨some 2,.mv,[.c (.i .i64 13)],none,[]⟩]) .ret) .skip)) (.seq (.seq (.ops false [⟨some 21,.fadr 2,[.t 1],none,[]⟩,⟨some 22,.load 1 false,[.t 21],none,[0]⟩,⟨some 23,.call 81,[.t 22],none,[1]⟩,⟨some 24,.not,[.t 23],none,[2]⟩]) (.cond (.t 24) (.seq (.ops false [⟨some 2,.mv,[.c (.i .i64 8)],none,[]⟩]) .ret) .skip)) (.seq (.seq (.ops false [⟨some 25,.fadr 3,[.t 1],none,[]⟩,⟨some 26,.load 1 false,[.t 25],none,[0]⟩,⟨some 27,.call 33,[.t 26,.c (.i .i64 1),.c (.i .i64 1440)],none,[1]⟩,⟨some 28,.mv,[.t 27],none,[2,2]⟩,⟨some 29,.fadr 4,[.t 1],some (28,false),[3]⟩,⟨some 30,.load 1 false,[.t 29],some (28,false),[4,3]⟩,⟨some 31,.call 33,[.t 30,.c (.i .i64 1),.c (.i .i64 1440)],some (28,false),[5,3,3]⟩,⟨some 32,.pick,[.t 28,.c (.b true),.t 31],none,[3,6]⟩,⟨some 33,.mv,[.t 32],none,[7,6]⟩,⟨some 34,.fadr 5,[.t 1],some (33,false),[8]⟩,⟨some 35,.load 1 false,[.t 34],some (33,false),[9,8]⟩,⟨some 36,.call 33,[.t 35,.c (.i .i64 0),.c (.i .i64 1439)],some (33,false),[10,8,8]⟩,⟨some 37,.pick,[.t 33,.c (.b true),.t 36],none,[8,11]⟩,⟨some 38,.mv,[.t 37],none,[12,11]⟩,⟨some 39,.fadr 6,[.t 1],some (38,false),[13]⟩,⟨some 40,.load 1 false,[.t 39],some (38,false),[14,13]⟩,⟨some 41,.call 33,[.t 40,.c (.i .i64 0),.c (.i .i64 1439)],some (38,false),[15,13,13]⟩,⟨some 42,.pick,[.t 38,.c (.b true),.t 41],none,[13,16]⟩]) (.cond (.t 42) (.seq (.ops false [⟨some 2,.mv,[.c (.i .i64 3)],none,[]⟩]) .ret) .skip)) (.seq (.seq (.ops false [⟨some 43,.fadr 5,[.t 1],none,[]⟩,⟨some 44,.load 1 false,[.t 43],none,[0]⟩,⟨some 45,.fadr 6,[.t 1],none,[]⟩,⟨some 46,.load 1 false,[.t 45],none,[2]⟩,⟨some 47,.bin .gtr,[.t 44,.t 46],none,[1,3]⟩]) (.cond (.t 47) (.seq (.ops false [⟨some 2,.mv,[.c (.i .i64 11)],none,[]⟩]) .ret) .skip)) (.seq (.seq (.ops false [⟨some 48,.fadr 7,[.t 1],none,[]⟩,⟨some 49,.load 3 true,[.t 48],none,[0]⟩,⟨some 50,.call 82,[.t 49],none,[1]⟩,⟨some 3,.mv,[.t 50],none,[2,2,0,1,2]⟩]) (.seq (.ops false [⟨some 51,.mv,[.t 3],none,[]⟩,⟨some 52,.bin .neq,[.t 51,.c (.i .i64 0)],none,[0]⟩]) (.cond (.t 52) (.seq (.ops false [⟨some 53,.mv,[.t 3],none,[]⟩,⟨some 2,.mv,[.t 53],none,[0,0]⟩]) .ret) .skip))) (.seq (.seq (.ops false [⟨some 54,.fadr 10,[.t 1],none,[]⟩,⟨some 55,.load 1 false,[.t 54],none,[0]⟩,⟨some 56,.call 33,[.t 55,.c (.i .i64 0),.c (.i .i64 999999999)],none,[1]⟩]) (.cond (.t 56) (.seq (.ops false [⟨some 2,.mv,[.c (.i .i64 3)],none,[]⟩]) .ret) .skip)) (.seq (.ops false [⟨some 2,.mv,[.c (.i .i64 0)],none,[]⟩]) .ret))))))))
def rs31 : List RV := [.tmp 2]
theorem fact31 : compF Tryz.prog 31 = some (ac31,rs31,57) := by kernel_rfl
def ac72 : AC := .seq (.ops false [⟨some 4,.mv,[.c (.i .i64 0)],none,[]⟩]) (.seq (.seq (.ops false [⟨some 5,.mv,[.c (.i .i64 0)],none,[]⟩]) (.block 0 (.loop (.seq (.seq (.ops false [⟨some 6,.mv,[.t 5],none,[]⟩,⟨some 7,.mv,[.t 0],none,[]⟩,⟨some 8,.len false,[.t 7],none,[1]⟩,⟨some 9,.bin .lss,[.t 6,.t 8],none,[0,2]⟩]) (.cond (.t 9) .skip (.exit 0))) (.seq (.block 1 (.seq (.ops false [⟨some 12,.mv,[.t 0],none,[]⟩,⟨some 13,.mv,[.t 5],none,[]⟩,⟨some 14,.iadrS 11,[.t 12,.t 13],none,[0,1]⟩,⟨some 15,.fadr 0,[.t 14],none,[2]⟩,⟨some 16,.load 1 false,[.t 15],none,[3]⟩,⟨some 17,.mv,[.t 1],none,[]⟩,⟨some 18,.bin .eql,[.t 16,.t 17],none,[4,5]⟩]) (.cond (.t 18) (.seq (.ops false [⟨some 19,.mv,[.t 5],none,[]⟩,⟨some 4,.mv,[.t 19],none,[0,0]⟩]) .ret) .skip))) (.ops false [⟨some 10,.mv,[.t 5],none,[]⟩,⟨some 11,.bin .add,[.t 10,.c (.i .i64 1)],none,[0]⟩,⟨some 5,.mv,[.t 11],none,[1,0,1]⟩])))))) (.seq (.ops false [⟨some 4,.mv,[.c (.i .i64 (-1))],none,[]⟩]) .ret))
def rs72 : List RV := [.tmp 4]
theorem fact72 : compF Tryz.prog 72 = some (ac72,rs72,20) := by kernel_rfl
def ac23 : AC := .seq (.ops false [⟨some 2,.mv,[.c (.i .i64 0)],none,[]⟩]) (.seq (.seq (.ops false [⟨some 5,.mv,[.t 0],none,[]⟩,⟨some 6,.len false,[.t 5],none,[0]⟩,⟨some 7,.bin .gtr,[.t 6,.c (.i .i64 32)],none,[1]⟩]) (.cond (.t 7) (.seq (.ops false [⟨some 2,.mv,[.c (.i .i64 5)],none,[]⟩]) .ret) .skip)) (.seq (.seq (.ops false [⟨some 3,.mv,[.c (.i .i64 0)],none,[]⟩]) (.block 0 (.loop (.seq (.seq (.ops false [⟨some 8,.mv,[.t 3],none,[]⟩,⟨some 9,.mv,[.t 0],none,[]⟩,⟨some 10,.len false,[.t 9],none,[1]⟩,⟨some 11,.bin .lss,[.t 8,.t 10],none,[0,2]⟩]) (.cond (.t 11) .skip (.exit 0))) (.seq (.block 1 (.seq (.seq (.ops false [⟨some 14,.mv,[.t 0],none,[]⟩,⟨some 15,.mv,[.t 3],none,[]⟩,⟨some 16,.iadrS 11,[.t 14,.t 15],none,[0,1]⟩,⟨some 17,.load 11 true,[.t 16],none,[2]⟩,⟨some 18,.call 31,[.t 17],none,[3]⟩,⟨some 4,.mv,[.t 18],none,[4,4,0,1,2,3,4]⟩]) (.seq (.ops false [⟨some 19,.mv,[.t 4],none,[]⟩,⟨some 20,.bin .neq,[.t 19,.c (.i .i64 0)],none,[0]⟩]) (.cond (.t 20) (.seq (.ops false [⟨some 21,.mv,[.t 4],none,[]⟩,⟨some 2,.mv,[.t 21],none,[0,0]⟩]) .ret) .skip))) (.seq (.ops true [⟨some 22,.mv,[.t 0],none,[]⟩,⟨some 23,.mv,[.t 3],none,[]⟩,⟨some 24,.sliceL 11 false true,[.t 22,.t 23],none,[0,1]⟩,⟨some 25,.mv,[.t 0],none,[]⟩,⟨some 26,.mv,[.t 3],none,[]⟩,⟨some 27,.iadrS 11,[.t 25,.t 26],none,[3,4]⟩,⟨some 28,.fadr 0,[.t 27],none,[5]⟩,⟨some 29,.load 1 false,[.t 28],none,[6]⟩,⟨some 30,.call 72,[.t 24,.t 29],none,[2,7]⟩,⟨some 31,.bin .geq,[.t 30,.c (.i .i64 0)],none,[8]⟩]) (.cond (.t 31) (.seq (.ops false [⟨some 2,.mv,[.c (.i .i64 9)],none,[]⟩]) .ret) .skip)))) (.ops false [⟨some 12,.mv,[.t 3],none,[]⟩,⟨some 13,.bin .add,[.t 12,.c (.i .i64 1)],none,[0]⟩,⟨some 3,.mv,[.t 13],none,[1,0,1]⟩])))))) (.seq (.ops false [⟨some 2,.mv,[.c (.i .i64 0)],none,[]⟩]) .ret)))
def rs23 : List RV := [.tmp 2]
theorem fact23 : compF Tryz.prog 23 = some (ac23,rs23,32) := by kernel_rfl
def ac45 : AC := .seq (.ops false [⟨some 1,.box,[.t 0],none,[]⟩,⟨some 2,.mv,[.c (.i .i64 0)],none,[]⟩]) (.seq (.seq (.ops false [⟨some 3,.fadr 0,[.t 1],none,[]⟩,⟨some 4,.load 1 false,[.t 3],none,[0]⟩,⟨some 5,.call 33,[.t 4,.c (.i .i64 0),.c (.i .i64 143999999)],none,[1]⟩]) (.cond (.t 5) (.seq (.ops false [⟨some 2,.mv,[.c (.i .i64 3)],none,[]⟩]) .ret) .skip)) (.seq (.seq (.ops false [⟨some 6,.fadr 1,[.t 1],none,[]⟩,⟨some 7,.load 1 false,[.t 6],none,[0]⟩,⟨some 8,.bin .neq,[.t 7,.c (.s (bs [65]))],none,[1]⟩,⟨some 9,.mv,[.t 8],none,[2]⟩,⟨some 10,.fadr 1,[.t 1],some (9,true),[3]⟩,⟨some 11,.load 1 false,[.t 10],some (9,true),[4,3]⟩,⟨some 12,.bin .neq,[.t 11,.c (.s (bs [68]))],some (9,true),[5,3]⟩,⟨some 13,.pick,[.t 9,.t 12,.c (.b false)],none,[3,6]⟩]) (.cond (.t 13) (.seq (.ops false [⟨some 2,.mv,[.c (.i .i64 13)],none,[]⟩]) .ret) .skip)) (.seq (.seq (.ops false [⟨some 14,.fadr 2,[.t 1],none,[]⟩,⟨some 15,.load 1 false,[.t 14],none,[0]⟩,⟨some 16,.call 81,[.t 15],none,[1]⟩,⟨some 17,.not,[.t 16],none,[2]⟩]) (.cond (.t 17) (.seq (.ops false [⟨some 2,.mv,[.c (.i .i64 8)],none,[]⟩]) .ret) .skip)) (.seq (.seq (.ops false [⟨some 18,.fadr 3,[.t 1],none,[]⟩,⟨some 19,.load 1 false,[.t 18],none,[0]⟩,⟨some 20,.call 33,[.t 19,.c (.i .i64 0),.c (.i .i64 999)],none,[1]⟩,⟨some 21,.mv,[.t 20],none,[2,2]⟩,⟨some 22,.fadr 4,[.t 1],some (21,false),[3]⟩,⟨some 23,.load 1 false,[.t 22],some (21,false),[4,3]⟩,⟨some 24,.call 33,[.t 23,.c (.i .i64 0),.c (.i .i64 9)],some (21,false),[5,3,3]⟩,⟨some 25,.pick,[.t 21,.c (.b true),.t 24],none,[3,6]⟩,⟨some 26,.mv,[.t 25],none,[7,6]⟩,⟨some 27,.fadr 5,[.t 1],some (26,false),[8]⟩,⟨some 28,.load 1 false,[.t 27],some (26,false),[9,8]⟩,⟨some 29,.call 33,[.t 28,.c (.i .i64 0),.c (.i .i64 99)],some (26,false),[10,8,8]⟩,⟨some 30,.pick,[.t 26,.c (.b true),.t 29],none,[8,11]⟩]) (.cond (.t 30) (.seq (.ops false [⟨some 2,.mv,[.c (.i .i64 3)],none,[]⟩]) .ret) .skip)) (.seq (.seq (.ops false [⟨some 31,.fadr 6,[.t 1],none,[]⟩,⟨some 32,.load 1 false,[.t 31],none,[0]⟩,⟨some 33,.call 70,[.t 32],none,[1]⟩,⟨some 34,.not,[.t 33],none,[2]⟩]) (.cond (.t 34) (.seq (.ops false [⟨some 2,.mv,[.c (.i .i64 8)],none,[]⟩]) .ret) .skip)) (.seq (.ops false [⟨some 2,.mv,[.c (.i .i64 0)],none,[]⟩]) .ret))))))
def rs45 : List RV := [.tmp 2]
theorem fact45 : compF Tryz.prog 45 = some (ac45,rs45,35) := by kernel_rfl
def ac25 : AC := .seq (.ops false [⟨some 2,.mv,[.c (.i .i64 0)],none,[]⟩]) (.seq (.seq (.ops false [⟨some 5,.mv,[.t 0],none,[]⟩,⟨some 6,.len false,[.t 5],none,[0]⟩,⟨some 7,.bin .gtr,[.t 6,.c (.i .i64 30000)],none,[1]⟩]) (.cond (.t 7) (.seq (.ops false [⟨some 2,.mv,[.c (.i .i64 5)],none,[]⟩]) .ret) .skip)) (.seq (.seq (.ops false [⟨some 3,.mv,[.c (.i .i64 0)],none,[]⟩]) (.block 0 (.loop (.seq (.seq (.ops false [⟨some 8,.mv,[.t 3],none,[]⟩,⟨some 9,.mv,[.t 0],none,[]⟩,⟨some 10,.len false,[.t 9],none,[1]⟩,⟨some 11,.bin .lss,[.t 8,.t 10],none,[0,2]⟩]) (.cond (.t 11) .skip (.exit 0))) (.seq (.block 1 (.seq (.seq (.ops false [⟨some 14,.mv,[.t 0],none,[]⟩,⟨some 15,.mv,[.t 3],none,[]⟩,⟨some 16,.iadrS 7,[.t 14,.t 15],none,[0,1]⟩,⟨some 17,.load 7 true,[.t 16],none,[2]⟩,⟨some 18,.call 45,[.t 17],none,[3]⟩,⟨some 4,.mv,[.t 18],none,[4,4,0,1,2,3,4]⟩]) (.seq (.ops false [⟨some 19,.mv,[.t 4],none,[]⟩,⟨some 20,.bin .neq,[.t 19,.c (.i .i64 0)],none,[0]⟩]) (.cond (.t 20) (.seq (.ops false [⟨some 21,.mv,[.t 4],none,[]⟩,⟨some 2,.mv,[.t 21],none,[0,0]⟩]) .ret) .skip))) (.seq (.ops true [⟨some 22,.mv,[.t 3],none,[]⟩,⟨some 23,.bin .gtr,[.t 22,.c (.i .i64 0)],none,[0]⟩,⟨some 24,.mv,[.t 23],none,[1]⟩,⟨some 25,.mv,[.t 0],some (24,true),[2]⟩,⟨some 26,.mv,[.t 3],some (24,true),[2]⟩,⟨some 27,.iadrS 7,[.t 25,.t 26],some (24,true),[3,4,2]⟩,⟨some 28,.fadr 0,[.t 27],some (24,true),[5,2]⟩,⟨some 29,.load 1 false,[.t 28],some (24,true),[6,2]⟩,⟨some 30,.mv,[.t 0],some (24,true),[2]⟩,⟨some 31,.mv,[.t 3],some (24,true),[2]⟩,⟨some 32,.bin .sub,[.t 31,.c (.i .i64 1)],some (24,true),[9,2]⟩,⟨some 33,.iadrS 7,[.t 30,.t 32],some (24,true),[8,10,2]⟩,⟨some 34,.fadr 0,[.t 33],some (24,true),[11,2]⟩,⟨some 35,.load 1 false,[.t 34],some (24,true),[12,2]⟩,⟨some 36,.bin .lss,[.t 29,.t 35],some (24,true),[7,13,2]⟩,⟨some 37,.pick,[.t 24,.t 36,.c (.b false)],none,[2,14]⟩]) (.cond (.t 37) (.seq (.ops false [⟨some 2,.mv,[.c (.i .i64 11)],none,[]⟩]) .ret) .skip)))) (.ops false [⟨some 12,.mv,[.t 3],none,[]⟩,⟨some 13,.bin .add,[.t 12,.c (.i .i64 1)],none,[0]⟩,⟨some 3,.mv,[.t 13],none,[1,0,1]⟩])))))) (.seq (.ops false [⟨some 2,.mv,[.c (.i .i64 0)],none,[]⟩]) .ret)))
def rs25 : List RV := [.tmp 2]
theorem fact25 : compF Tryz.prog 25 = some (ac25,rs25,38) := by kernel_rfl
def ac75 : AC := .seq (.ops false [⟨some 2,.box,[.t 0],none,[]⟩,⟨some 4,.mv,[.c (.b false)],none,[]⟩]) (.seq (.ops false [⟨some 5,.load 3 true,[.t 2],none,[]⟩,⟨some 6,.call 82,[.t 5],none,[0]⟩,⟨some 7,.bin .neq,[.t 6,.c (.i .i64 0)],none,[1]⟩,⟨some 8,.mv,[.t 7],none,[2,1]⟩,⟨some 9,.fadr 1,[.t 2],some (8,false),[3]⟩,⟨some 10,.load 1 false,[.t 9],some (8,false),[4,3]⟩,⟨some 11,.fadr 0,[.t 2],some (8,false),[3]⟩,⟨some 12,.load 1 false,[.t 11],some (8,false),[6,3]⟩,⟨some 13,.bin .sub,[.t 10,.t 12],some (8,false),[5,7,3]⟩,⟨some 14,.mv,[.t 1],some (8,false),[3]⟩,⟨some 15,.bin .lss,[.t 13,.t 14],some (8,false),[8,9,3]⟩,⟨some 16,.pick,[.t 8,.c (.b true),.t 15],none,[3,10]⟩,⟨some 4,.mv,[.t 16],none,[11,3,0,1,2,3,4,5,6,7,8,9,10,11]⟩]) .ret)
def rs75 : List RV := [.tmp 4]
theorem fact75 : compF Tryz.prog 75 = some (ac75,rs75,17) := by kernel_rfl
def ac76 : AC := .seq (.ops false [⟨some 1,.box,[.t 0],none,[]⟩,⟨some 2,.mv,[.c (.i .i64 0)],none,[]⟩]) (.seq (.ops true [⟨some 3,.fadr 6,[.t 1],none,[]⟩,⟨some 4,.load 1 false,[.t 3],none,[0]⟩,⟨some 5,.fadr 4,[.t 1],none,[]⟩,⟨some 6,.load 1 false,[.t 5],none,[2]⟩,⟨some 7,.bin .quo,[.t 4,.t 6],none,[1,3]⟩,⟨some 8,.fadr 5,[.t 1],none,[]⟩,⟨some 9,.load 1 false,[.t 8],none,[5]⟩,⟨some 10,.fadr 4,[.t 1],none,[]⟩,⟨some 11,.load 1 false,[.t 10],none,[7]⟩,⟨some 12,.bin .add,[.t 9,.t 11],none,[6,8]⟩,⟨some 13,.bin .sub,[.t 12,.c (.i .i64 1)],none,[9]⟩,⟨some 14,.fadr 4,[.t 1],none,[]⟩,⟨some 15,.load 1 false,[.t 14],none,[11]⟩,⟨some 16,.bin .quo,[.t 13,.t 15],none,[10,12]⟩,⟨some 17,.bin .sub,[.t 7,.t 16],none,[4,13]⟩,⟨some 18,.bin .add,[.t 17,.c (.i .i64 1)],none,[14]⟩,⟨some 2,.mv,[.t 18],none,[15,0,1,2,3,4,5,6,7,8,9,10,11,12,13,14,15]⟩]) .ret)
def rs76 : List RV := [.tmp 2]
theorem fact76 : compF Tryz.prog 76 = some (ac76,rs76,19) := by kernel_rfl
def ac42 : AC := .seq (.ops false [⟨some 1,.box,[.t 0],none,[]⟩,⟨some 2,.mv,[.c (.b false)],none,[]⟩]) (.seq (.ops false [⟨some 3,.fadr 1,[.t 1],none,[]⟩,⟨some 4,.load 1 false,[.t 3],none,[0]⟩,⟨some 5,.len true,[.t 4],none,[1]⟩,⟨some 6,.bin .leq,[.t 5,.c (.i .i64 40)],none,[2]⟩,⟨some 7,.mv,[.t 6],none,[3]⟩,⟨some 8,.fadr 2,[.t 1],some (7,true),[4]⟩,⟨some 9,.load 1 false,[.t 8],some (7,true),[5,4]⟩,⟨some 10,.len true,[.t 9],some (7,true),[6,4]⟩,⟨some 11,.bin .leq,[.t 10,.c (.i .i64 40)],some (7,true),[7,4]⟩,⟨some 12,.pick,[.t 7,.t 11,.c (.b false)],none,[4,8]⟩,⟨some 13,.mv,[.t 12],none,[9,4]⟩,⟨some 14,.fadr 6,[.t 1],some (13,true),[10]⟩,⟨some 15,.load 1 false,[.t 14],some (13,true),[11,10]⟩,⟨some 16,.len true,[.t 15],some (13,true),[12,10]⟩,⟨some 17,.bin .leq,[.t 16,.c (.i .i64 40)],some (13,true),[13,10]⟩,⟨some 18,.pick,[.t 13,.t 17,.c (.b false)],none,[10,14]⟩,⟨some 2,.mv,[.t 18],none,[15,10,0,1,2,3,4,5,6,7,8,9,10,11,12,13,14,15]⟩]) .ret)
def rs42 : List RV := [.tmp 2]
theorem fact42 : compF Tryz.prog 42 = some (ac42,rs42,19) := by kernel_rfl
def ac16 : AC := .seq (.ops false [⟨some 4,.mv,[.c (.b false)],none,[]⟩]) (.seq (.seq (.ops false [⟨some 6,.mv,[.t 0],none,[]⟩,⟨some 7,.len false,[.t 6],none,[0]⟩,⟨some 8,.mv,[.t 1],none,[]⟩,⟨some 9,.bin .gtr,[.t 7,.t 8],none,[1,2]⟩,⟨some 10,.mv,[.t 9],none,[3]⟩,⟨some 11,.mv,[.t 0],some (10,true),[4]⟩,⟨some 12,.len false,[.t 11],some (10,true),[5,4]⟩,⟨some 13,.bin .leq,[.t 12,.c (.i .i64 30000)],some (10,true),[6,4]⟩,⟨some 14,.pick,[.t 10,.t 13,.c (.b false)],none,[4,7]⟩,⟨some 15,.mv,[.t 14],none,[8,4]⟩,⟨some 16,.mv,[.t 0],some (15,false),[9]⟩,⟨some 17,.len false,[.t 16],some (15,false),[10,9]⟩,⟨some 18,.bin .gtr,[.t 17,.c (.i .i64 30002)],some (15,false),[11,9]⟩,⟨some 19,.pick,[.t 15,.c (.b true),.t 18],none,[9,12]⟩]) (.cond (.t 19) (.seq (.ops false [⟨some 4,.mv,[.c (.b false)],none,[]⟩]) .ret) .skip)) (.seq (.seq (.ops false [⟨some 5,.mv,[.c (.i .i64 0)],none,[]⟩]) (.block 0 (.loop (.seq (.seq (.ops false [⟨some 20,.mv,[.t 5],none,[]⟩,⟨some 21,.mv,[.t 0],none,[]⟩,⟨some 22,.len false,[.t 21],none,[1]⟩,⟨some 23,.bin .lss,[.t 20,.t 22],none,[0,2]⟩]) (.cond (.t 23) .skip (.exit 0))) (.seq (.block 1 (.seq (.ops false [⟨some 26,.mv,[.t 0],none,[]⟩,⟨some 27,.mv,[.t 5],none,[]⟩,⟨some 28,.iadrS 7,[.t 26,.t 27],none,[0,1]⟩,⟨some 29,.load 7 true,[.t 28],none,[2]⟩,⟨some 30,.call 42,[.t 29],none,[3]⟩,⟨some 31,.not,[.t 30],none,[4]⟩]) (.cond (.t 31) (.seq (.ops false [⟨some 4,.mv,[.c (.b false)],none,[]⟩]) .ret) .skip))) (.ops false [⟨some 24,.mv,[.t 5],none,[]⟩,⟨some 25,.bin .add,[.t 24,.c (.i .i64 1)],none,[0]⟩,⟨some 5,.mv,[.t 25],none,[1,0,1]⟩])))))) (.seq (.ops false [⟨some 4,.mv,[.c (.b true)],none,[]⟩]) .ret)))
def rs16 : List RV := [.tmp 4]
theorem fact16 : compF Tryz.prog 16 = some (ac16,rs16,32) := by kernel_rfl
theorem pure81 (s : ByteArray) : Pure Tryz.prog 81 [.s s] (.b (decide (s = s0) || isName s)) := by
  refine pure_by fact81 (by simp) fun hw X hX => ?_
  unfold ac81 rs81
  repeat' first | (show Run _ (.cond _ _ _) _ _; refine run_condX (fun hc => ?_) (fun hc => ?_) <;> (try simp only [qH, rng_0] at hc) <;> try contradiction) | (show RunOps _ _ _ _ (⟨_, .call 70, _, _, _⟩ :: _) _ _; refine run_callGX (hf := fun hc => (by first | exact pure70 _ | (simp only [qH, rng_0] at hc; exact pure70 _))) (hn := ?_)) | (first | refine Stp.h ?_ | (show ∀ K : St → List Ft → Prop, _; intro K hK) | (show runS _ _ _ _ _; first | refine qY (hq := ?_) | refine qZ (hq := ?_)) | (refine hK _ _ ?_; clear hK K) | (refine hK _ _ rfl ?_; clear hK K) | (refine qZ (hq := ?_); try exact trivial) | omega)
  exact .refl _
theorem pure33 (n a b : Int) : Pure Tryz.prog 33 [.i .i64 n, .i .i64 a, .i .i64 b] (.b (decide (n < a) || decide (b < n))) := by
  refine pure_by fact33 (by simp) fun hw X hX => ?_
  unfold ac33 rs33
  repeat' first | (show Run _ (.cond _ _ _) _ _; refine run_condX (fun hc => ?_) (fun hc => ?_) <;> (try simp only [qH, rng_0] at hc) <;> try contradiction) | (first | refine Stp.h ?_ | (show ∀ K : St → List Ft → Prop, _; intro K hK) | (show runS _ _ _ _ _; first | refine qY (hq := ?_) | refine qZ (hq := ?_)) | (refine hK _ _ ?_; clear hK K) | (refine hK _ _ rfl ?_; clear hK K) | (refine qZ (hq := ?_); try exact trivial) | omega)
  exact .refl _
theorem firstE_skip {e : Int} {r : List Int} (h : e = 0) : firstE (e :: r) = firstE r := by rw [firstE, if_pos h]
theorem firstE_stop {e : Int} {r : List Int} (h : e ≠ 0) : firstE (e :: r) = e := by rw [firstE, if_neg h]
theorem rng_3 {n a b : Int} (h : n < a ∨ b < n) : rng n a b = 3 := by rw [rng, if_pos h]
theorem nameE_0 {s : ByteArray} (h : isName s = true) : nameE s = 0 := by rw [nameE, if_neg (by simp [h])]
theorem nameE_8 {s : ByteArray} (h : isName s = false) : nameE s = 8 := by rw [nameE, if_pos h]
theorem optE_0 {s : ByteArray} (h : s = s0 ∨ isName s = true) : optE s = 0 := by rw [optE, if_neg]; rintro ⟨h1, h2⟩; rcases h with h | h <;> simp_all
theorem optE_8 {s : ByteArray} (h : ¬ s = s0 ∧ isName s = false) : optE s = 8 := by rw [optE, if_pos h]
theorem firstE_is {e k : Int} {r : List Int} (h : e = k) (hk : k ≠ 0) : firstE (e :: r) = k := by rw [firstE_stop (by rw [h]; exact hk), h]
theorem loadE_0 {a b c : Int} (h : 0 ≤ a ∧ a ≤ 999 ∧ 0 ≤ b ∧ b ≤ 9 ∧ 0 ≤ c ∧ c ≤ 99) : loadE a b c = 0 := by rw [loadE]; simp only [firstE, rng]; (repeat' split) <;> omega
theorem weakI {a b : Int} (h : a = b) : Weak (.i .i64 a) (.i .i64 b) := h ▸ .refl _
theorem weakB {a b : Bool} (h : a = b) : Weak (.b a) (.b b) := h ▸ .refl _
theorem kindE_0 {k : ByteArray} (h : ¬k = sA ∧ ¬k = sD → k = sT) : kindE k = 0 := by rw [kindE, if_neg]; rintro ⟨h1, h2, h3⟩; exact h3 (h ⟨h1, h2⟩)
theorem kindE_13 {k : ByteArray} (h : (¬k = sA ∧ ¬k = sD) ∧ ¬k = sT) : kindE k = 13 := by rw [kindE, if_pos ⟨h.1.1, h.1.2, h.2⟩]
theorem flightE_0 {k : ByteArray} (h : ¬k = sA → k = sD) : flightE k = 0 := by rw [flightE, if_neg]; rintro ⟨h1, h2⟩; exact h2 (h h1)
theorem flightE_13 {k : ByteArray} (h : ¬k = sA ∧ ¬k = sD) : flightE k = 13 := by rw [flightE, if_pos h]
theorem pure31 (l : Lim) : Pure Tryz.prog 31 [l.pv] (.i .i64 (chkLim l)) := by
  refine pure_by fact31 (by simp) fun hw X hX => ?_
  unfold ac31 rs31
  repeat' first | (show Run _ (.cond _ _ _) _ _; refine run_condX (fun hc => ?_) (fun hc => ?_) <;> (try simp only [qH, rng_0] at hc) <;> try contradiction) | (show RunOps _ _ _ _ (⟨_, .call 70, _, _, _⟩ :: _) _ _; refine run_callX (hf := pure70 _) (hn := ?_)) | (show RunOps _ _ _ _ (⟨_, .call 81, _, _, _⟩ :: _) _ _; refine run_callX (hf := pure81 _) (hn := ?_)) | (show RunOps _ _ _ _ (⟨_, .call 33, _, _, _⟩ :: _) _ _; refine run_callGX (hf := fun hc => (by first | exact pure33 _ _ _ | (simp only [qH, rng_0] at hc; exact pure33 _ _ _))) (hn := ?_)) | (show RunOps _ _ _ _ (⟨_, .call 82, _, _, _⟩ :: _) _ _; refine run_callX (hf := pure82 l.per) (hn := ?_)) | (first | refine Stp.h ?_ | (show ∀ K : St → List Ft → Prop, _; intro K hK) | (show runS _ _ _ _ _; first | refine qY (hq := ?_) | refine qZ (hq := ?_)) | (refine hK _ _ ?_; clear hK K) | (refine hK _ _ rfl ?_; clear hK K) | (refine qZ (hq := ?_); try exact trivial) | omega)
  all_goals (refine weakI (Eq.symm ?_); rw [chkLim]; (repeat refine Eq.trans (firstE_skip (by first | exact nameE_0 (by assumption) | exact kindE_0 (by assumption) | exact flightE_0 (by assumption) | exact optE_0 (by assumption) | exact rng_0.2 (by omega) | exact loadE_0 (by omega) | exact if_neg (by omega) | assumption)) ?_); first | rfl | exact firstE_is (by first | exact nameE_8 (by assumption) | exact kindE_13 (by assumption) | exact flightE_13 (by assumption) | exact optE_8 (by assumption) | exact rng_3 (by omega) | exact if_pos (by omega) | rfl) (by first | decide | assumption) | (simp only [firstE, rng, loadE]; (repeat' split) <;> omega))
theorem pure72 (l : List Lim) (n : ByteArray) : Pure Tryz.prog 72 [.sl 11 (l.map Lim.pv), .s n] (.i .i64 (atL n (l.map Lim.name))) := by
  refine pure_by fact72 (by simp) fun hw X hX => ?_
  unfold ac72 rs72
  simp only [wfs, PV.wf, List.length_map, maxLen] at hw
  repeat' first | (show Run _ (.cond _ _ _) _ _; refine run_condX (fun hc => ?_) (fun hc => ?_) <;> (try simp only [qH, rng_0] at hc) <;> try contradiction) | (first | refine Stp.h ?_ | (show ∀ K : St → List Ft → Prop, _; intro K hK) | (show runS _ _ _ _ _; first | refine qY (hq := ?_) | refine qZ (hq := ?_)) | (refine hK _ _ ?_; clear hK K) | (refine hK _ _ rfl ?_; clear hK K) | (refine qZ (hq := ?_); try exact trivial) | omega)
  refine run_loop (κ := Nat) (fun i => ⟨[(0, .p (.sl 11 (l.map Lim.pv))), (1, .p (.s n)), (5, .p (.i .i64 i))], [], [], false⟩) (fun i => i ≤ l.length ∧ ∀ x ∈ (l.map Lim.name).take i, x ≠ n) (fun i => l.length - i) 0 ?_ ?_ ?_
  · simp only [qS, Nat.reduceAdd, Nat.reduceMul, Nat.reduceEqDiff, Nat.reduceLeDiff, reduceIte, reduceCtorEq, Nat.reduceBEq, Nat.reduceLT] <;> rfl
  · simp
  · intro i hi
    repeat (first | refine Stp.h ?_ | (show ∀ K : St → List Ft → Prop, _; intro K hK) | (show runS _ _ _ _ _; first | refine qY (hq := ?_) | refine qZ (hq := ?_)) | (refine hK _ _ ?_; clear hK K) | (refine hK _ _ rfl ?_; clear hK K) | (refine qZ (hq := ?_); try exact trivial) | omega)
    (show Run _ (.cond _ _ _) _ _; refine run_condX (fun hc => ?_) (fun hc => ?_) <;> (try simp only [qH, rng_0] at hc) <;> try contradiction)
    · obtain ⟨x, hx⟩ := some_at (i := i) (l := l) (by omega)
      have qe := @hx; repeat' first | (show Run _ (.cond _ _ _) _ _; refine run_condX (fun hc => ?_) (fun hc => ?_) <;> (try simp only [qH, rng_0] at hc) <;> try contradiction) | (first | refine Stp.h ?_ | (show ∀ K : St → List Ft → Prop, _; intro K hK) | (show runS _ _ _ _ _; first | refine qY (hq := ?_) | refine qZ (hq := ?_)) | (refine hK _ _ ?_; clear hK K) | (refine hK _ _ rfl ?_; clear hK K) | (refine qZ (hq := ?_); try exact trivial) | omega)
      · rw [atL_hit hi.2 (by simp [hx, hc])]; exact .refl _
      · refine ⟨i + 1, ⟨by omega, fun y hy => ?_⟩, by omega, by simp⟩
        rw [← List.map_take, take_snoc _ hx] at hy
        rcases List.mem_append.1 hy with h | h
        · exact hi.2 y (by rw [← List.map_take]; exact h)
        · simp at h; subst h; exact hc
    · repeat' first | (show Run _ (.cond _ _ _) _ _; refine run_condX (fun hc => ?_) (fun hc => ?_) <;> (try simp only [qH, rng_0] at hc) <;> try contradiction) | (first | refine Stp.h ?_ | (show ∀ K : St → List Ft → Prop, _; intro K hK) | (show runS _ _ _ _ _; first | refine qY (hq := ?_) | refine qZ (hq := ?_)) | (refine hK _ _ ?_; clear hK K) | (refine hK _ _ rfl ?_; clear hK K) | (refine qZ (hq := ?_); try exact trivial) | omega)
      have e : i = l.length := by omega
      subst e
      rw [atL_end (fun y hy => hi.2 y (by rw [List.take_of_length_le (by simp)]; exact hy))]; exact .refl _
theorem pure23 (l : List Lim) : Pure Tryz.prog 23 [.sl 11 (l.map Lim.pv)] (.i .i64 (chkLims l)) := by
  refine pure_by fact23 (by simp) fun hw X hX => ?_
  unfold ac23 rs23
  simp only [wfs, PV.wf, List.length_map, maxLen] at hw
  repeat' first | (show Run _ (.cond _ _ _) _ _; refine run_condX (fun hc => ?_) (fun hc => ?_) <;> (try simp only [qH, rng_0] at hc) <;> try contradiction) | (first | refine Stp.h ?_ | (show ∀ K : St → List Ft → Prop, _; intro K hK) | (show runS _ _ _ _ _; first | refine qY (hq := ?_) | refine qZ (hq := ?_)) | (refine hK _ _ ?_; clear hK K) | (refine hK _ _ rfl ?_; clear hK K) | (refine qZ (hq := ?_); try exact trivial) | omega)
  · rw [chkLims, if_pos (by omega)]; exact .refl _
  refine run_loop (κ := Nat) (fun i => ⟨[(0, .p (.sl 11 (l.map Lim.pv))), (3, .p (.i .i64 i))], [], [], false⟩) (fun i => i ≤ l.length ∧ ∀ x ∈ (limErrs l).take i, x = 0) (fun i => l.length - i) 0 ?_ ?_ ?_
  · simp only [qS, Nat.reduceAdd, Nat.reduceMul, Nat.reduceEqDiff, Nat.reduceLeDiff, reduceIte, reduceCtorEq, Nat.reduceBEq, Nat.reduceLT] <;> rfl
  · simp
  · intro i hi
    repeat (first | refine Stp.h ?_ | (show ∀ K : St → List Ft → Prop, _; intro K hK) | (show runS _ _ _ _ _; first | refine qY (hq := ?_) | refine qZ (hq := ?_)) | (refine hK _ _ ?_; clear hK K) | (refine hK _ _ rfl ?_; clear hK K) | (refine qZ (hq := ?_); try exact trivial) | omega)
    (show Run _ (.cond _ _ _) _ _; refine run_condX (fun hc => ?_) (fun hc => ?_) <;> (try simp only [qH, rng_0] at hc) <;> try contradiction)
    · obtain ⟨x, hx⟩ := some_at (i := i) (l := l) (by omega)
      have key : ∀ e : Int, limErr l i x = e → e ≠ 0 → chkLims l = e := fun e he h0 => by subst he; unfold chkLims; rw [if_neg (by omega)]; exact firstE_at hi.2 (mapIdx_at hx) h0
      have qe := And.intro qR (And.intro @hx @take_map); repeat' first | (show Run _ (.cond _ _ _) _ _; refine run_condX (fun hc => ?_) (fun hc => ?_) <;> (try simp only [qH, rng_0] at hc) <;> try contradiction) | (show RunOps _ _ _ _ (⟨_, .call 31, _, _, _⟩ :: _) _ _; refine run_callX (hf := pure31 x) (hn := ?_)) | (show RunOps _ _ _ _ (⟨_, .call 72, _, _, _⟩ :: _) _ _; refine run_callX (hf := pure72 (l.take i) x.name) (hn := ?_)) | (first | refine Stp.h ?_ | (show ∀ K : St → List Ft → Prop, _; intro K hK) | (show runS _ _ _ _ _; first | refine qY (hq := ?_) | refine qZ (hq := ?_)) | (refine hK _ _ ?_; clear hK K) | (refine hK _ _ rfl ?_; clear hK K) | (refine qZ (hq := ?_); try exact trivial) | omega)
      · rw [key (chkLim x) (by rw [limErr, firstE_stop hc]) hc]; exact .refl _
      · rw [key 9 (by rw [limErr, firstE_skip (by assumption), firstE_is (if_pos hc) (by decide)]) (by decide)]; exact .refl _
      · exact ⟨i + 1, ⟨by omega, take_all hi.2 (mapIdx_at hx) (by rw [limErr, firstE_skip (by assumption), firstE_skip (if_neg (by omega)), firstE_nil])⟩, by omega, by simp⟩
    · repeat' first | (show Run _ (.cond _ _ _) _ _; refine run_condX (fun hc => ?_) (fun hc => ?_) <;> (try simp only [qH, rng_0] at hc) <;> try contradiction) | (first | refine Stp.h ?_ | (show ∀ K : St → List Ft → Prop, _; intro K hK) | (show runS _ _ _ _ _; first | refine qY (hq := ?_) | refine qZ (hq := ?_)) | (refine hK _ _ ?_; clear hK K) | (refine hK _ _ rfl ?_; clear hK K) | (refine qZ (hq := ?_); try exact trivial) | omega)
      have e : i = (limErrs l).length := by simp [limErrs]; omega
      subst e
      rw [chkLims, if_neg (by omega), firstE_end hi.2]; exact .refl _
theorem pure45 (m : Mov) : Pure Tryz.prog 45 [m.pv] (.i .i64 (chkMov m)) := by
  refine pure_by fact45 (by simp) fun hw X hX => ?_
  unfold ac45 rs45
  repeat' first | (show Run _ (.cond _ _ _) _ _; refine run_condX (fun hc => ?_) (fun hc => ?_) <;> (try simp only [qH, rng_0] at hc) <;> try contradiction) | (show RunOps _ _ _ _ (⟨_, .call 70, _, _, _⟩ :: _) _ _; refine run_callX (hf := pure70 _) (hn := ?_)) | (show RunOps _ _ _ _ (⟨_, .call 81, _, _, _⟩ :: _) _ _; refine run_callX (hf := pure81 _) (hn := ?_)) | (show RunOps _ _ _ _ (⟨_, .call 33, _, _, _⟩ :: _) _ _; refine run_callX (hf := pure33 _ _ _) (hn := ?_)) | (show RunOps _ _ _ _ (⟨_, .call 33, _, _, _⟩ :: _) _ _; refine run_callGX (hf := fun hc => (by first | exact pure33 _ _ _ | (simp only [qH, rng_0] at hc; exact pure33 _ _ _))) (hn := ?_)) | (first | refine Stp.h ?_ | (show ∀ K : St → List Ft → Prop, _; intro K hK) | (show runS _ _ _ _ _; first | refine qY (hq := ?_) | refine qZ (hq := ?_)) | (refine hK _ _ ?_; clear hK K) | (refine hK _ _ rfl ?_; clear hK K) | (refine qZ (hq := ?_); try exact trivial) | omega)
  all_goals (refine weakI (Eq.symm ?_); rw [chkMov]; (repeat refine Eq.trans (firstE_skip (by first | exact nameE_0 (by assumption) | exact kindE_0 (by assumption) | exact flightE_0 (by assumption) | exact optE_0 (by assumption) | exact rng_0.2 (by omega) | exact loadE_0 (by omega) | exact if_neg (by omega) | assumption)) ?_); first | rfl | exact firstE_is (by first | exact nameE_8 (by assumption) | exact kindE_13 (by assumption) | exact flightE_13 (by assumption) | exact optE_8 (by assumption) | exact rng_3 (by omega) | exact if_pos (by omega) | rfl) (by first | decide | assumption) | (simp only [firstE, rng, loadE]; (repeat' split) <;> omega))
theorem pure25 (l : List Mov) : Pure Tryz.prog 25 [.sl 7 (l.map Mov.pv)] (.i .i64 (chkMovs l)) := by
  refine pure_by fact25 (by simp) fun hw X hX => ?_
  unfold ac25 rs25
  simp only [wfs, PV.wf, List.length_map, maxLen] at hw
  repeat' first | (show Run _ (.cond _ _ _) _ _; refine run_condX (fun hc => ?_) (fun hc => ?_) <;> (try simp only [qH, rng_0] at hc) <;> try contradiction) | (first | refine Stp.h ?_ | (show ∀ K : St → List Ft → Prop, _; intro K hK) | (show runS _ _ _ _ _; first | refine qY (hq := ?_) | refine qZ (hq := ?_)) | (refine hK _ _ ?_; clear hK K) | (refine hK _ _ rfl ?_; clear hK K) | (refine qZ (hq := ?_); try exact trivial) | omega)
  · rw [chkMovs, if_pos (by omega)]; exact .refl _
  refine run_loop (κ := Nat) (fun i => ⟨[(0, .p (.sl 7 (l.map Mov.pv))), (3, .p (.i .i64 i))], [], [], false⟩) (fun i => i ≤ l.length ∧ ∀ x ∈ (movErrs l).take i, x = 0) (fun i => l.length - i) 0 ?_ ?_ ?_
  · simp only [qS, Nat.reduceAdd, Nat.reduceMul, Nat.reduceEqDiff, Nat.reduceLeDiff, reduceIte, reduceCtorEq, Nat.reduceBEq, Nat.reduceLT] <;> rfl
  · simp
  · intro i hi
    repeat (first | refine Stp.h ?_ | (show ∀ K : St → List Ft → Prop, _; intro K hK) | (show runS _ _ _ _ _; first | refine qY (hq := ?_) | refine qZ (hq := ?_)) | (refine hK _ _ ?_; clear hK K) | (refine hK _ _ rfl ?_; clear hK K) | (refine qZ (hq := ?_); try exact trivial) | omega)
    (show Run _ (.cond _ _ _) _ _; refine run_condX (fun hc => ?_) (fun hc => ?_) <;> (try simp only [qH, rng_0] at hc) <;> try contradiction)
    · obtain ⟨x, hx⟩ := some_at (i := i) (l := l) (by omega)
      have key : ∀ e : Int, movErr l i x = e → e ≠ 0 → chkMovs l = e := fun e he h0 => by subst he; unfold chkMovs; rw [if_neg (by omega)]; exact firstE_at hi.2 (mapIdx_at hx) h0
      obtain ⟨y, hy⟩ := some_at (i := i - 1) (l := l) (by omega)
      have e1 : ((i : Int) - 1).toNat = i - 1 := by omega
      have he : movErr l i x = firstE [chkMov x, if 0 < (i : Int) ∧ x.moment < y.moment then 11 else 0] := by rw [movErr, hy]; rfl
      have qe := And.intro qR (And.intro @hx (And.intro @hy @e1)); repeat' first | (show Run _ (.cond _ _ _) _ _; refine run_condX (fun hc => ?_) (fun hc => ?_) <;> (try simp only [qH, rng_0] at hc) <;> try contradiction) | (show RunOps _ _ _ _ (⟨_, .call 45, _, _, _⟩ :: _) _ _; refine run_callX (hf := pure45 x) (hn := ?_)) | (first | refine Stp.h ?_ | (show ∀ K : St → List Ft → Prop, _; intro K hK) | (show runS _ _ _ _ _; first | refine qY (hq := ?_) | refine qZ (hq := ?_)) | (refine hK _ _ ?_; clear hK K) | (refine hK _ _ rfl ?_; clear hK K) | (refine qZ (hq := ?_); try exact trivial) | omega)
      · rw [key (chkMov x) (by rw [he, firstE_stop hc]) hc]; exact .refl _
      · rw [key 11 (by rw [he, firstE_skip (by assumption), firstE_is (if_pos (by omega)) (by decide)]) (by decide)]; exact .refl _
      · exact ⟨i + 1, ⟨by omega, take_all hi.2 (mapIdx_at hx) (by rw [he, firstE_skip (by assumption), firstE_skip (if_neg (by omega)), firstE_nil])⟩, by omega, by simp⟩
    · repeat' first | (show Run _ (.cond _ _ _) _ _; refine run_condX (fun hc => ?_) (fun hc => ?_) <;> (try simp only [qH, rng_0] at hc) <;> try contradiction) | (first | refine Stp.h ?_ | (show ∀ K : St → List Ft → Prop, _; intro K hK) | (show runS _ _ _ _ _; first | refine qY (hq := ?_) | refine qZ (hq := ?_)) | (refine hK _ _ ?_; clear hK K) | (refine hK _ _ rfl ?_; clear hK K) | (refine qZ (hq := ?_); try exact trivial) | omega)
      have e : i = (movErrs l).length := by simp [movErrs]; omega
      subst e
      rw [chkMovs, if_neg (by omega), firstE_end hi.2]; exact .refl _
def fewB (p : Per) (n : Int) : Bool := !decide (chkPer p = 0) || decide (p.to - p.fro < n)
theorem pure75 (p : Per) (n : Int) : Pure Tryz.prog 75 [p.pv, .i .i64 n] (.b (fewB p n)) := by
  refine pure_by fact75 (by simp) fun hw X hX => ?_
  unfold ac75 rs75
  by_cases h : chkPer p = 0
  · have hp := chkPer_0 h
    have h' := eq_true h
    have qe := @h'; repeat' first | (show Run _ (.cond _ _ _) _ _; refine run_condX (fun hc => ?_) (fun hc => ?_) <;> (try simp only [qH, rng_0] at hc) <;> try contradiction) | (show RunOps _ _ _ _ (⟨_, .call 82, _, _, _⟩ :: _) _ _; refine run_callX (hf := pure82 p) (hn := ?_)) | (first | refine Stp.h ?_ | (show ∀ K : St → List Ft → Prop, _; intro K hK) | (show runS _ _ _ _ _; first | refine qY (hq := ?_) | refine qZ (hq := ?_)) | (refine hK _ _ ?_; clear hK K) | (refine hK _ _ rfl ?_; clear hK K) | (refine qZ (hq := ?_); try exact trivial) | omega)
    simp only [fewB, h', decide_true, Bool.not_true, Bool.false_or]; exact .refl _
  · have h' := eq_false h
    have qe := @h'; repeat' first | (show Run _ (.cond _ _ _) _ _; refine run_condX (fun hc => ?_) (fun hc => ?_) <;> (try simp only [qH, rng_0] at hc) <;> try contradiction) | (show RunOps _ _ _ _ (⟨_, .call 82, _, _, _⟩ :: _) _ _; refine run_callX (hf := pure82 p) (hn := ?_)) | (first | refine Stp.h ?_ | (show ∀ K : St → List Ft → Prop, _; intro K hK) | (show runS _ _ _ _ _; first | refine qY (hq := ?_) | refine qZ (hq := ?_)) | (refine hK _ _ ?_; clear hK K) | (refine hK _ _ rfl ?_; clear hK K) | (refine qZ (hq := ?_); try exact trivial) | omega)
    simp only [fewB, h', decide_false, Bool.not_false, Bool.true_or]; exact .refl _
theorem pure76 (l : Lim) (h : chkLim l = 0) : Pure Tryz.prog 76 [l.pv] (.i .i64 (begN l)) := by
  have hl := chkLim_0 h
  have hq1 : (l.fro + l.step - 1).tdiv l.step = l.from_ := Int.tdiv_eq_ediv_of_nonneg (by omega)
  have hq2 : l.to.tdiv l.step = l.to / l.step := Int.tdiv_eq_ediv_of_nonneg (by omega)
  have hb1 : 0 ≤ l.from_ := Int.ediv_nonneg (by omega) (by omega)
  have hb2 : l.from_ ≤ l.fro + l.step - 1 := Int.ediv_le_self _ (by omega)
  have hb3 : 0 ≤ l.to / l.step := Int.ediv_nonneg (by omega) (by omega)
  have hb4 : l.to / l.step ≤ l.to := Int.ediv_le_self _ (by omega)
  have hN : l.to / l.step - l.from_ + 1 = (begN l : Int) := by
    unfold begN
    have : (l.fro - 1) / l.step ≤ l.to / l.step := Int.ediv_le_ediv (by omega) (by omega)
    have e : l.from_ = (l.fro - 1) / l.step + 1 := by unfold Lim.from_; rw [show l.fro + l.step - 1 = l.fro - 1 + 1 * l.step by omega, Int.add_mul_ediv_right _ _ (by omega)]
    omega
  refine pure_by fact76 (by simp) fun hw X hX => ?_
  unfold ac76 rs76
  have qe := And.intro @hq1 @hq2; repeat' first | (show Run _ (.cond _ _ _) _ _; refine run_condX (fun hc => ?_) (fun hc => ?_) <;> (try simp only [qH, rng_0] at hc) <;> try contradiction) | (first | refine Stp.h ?_ | (show ∀ K : St → List Ft → Prop, _; intro K hK) | (show runS _ _ _ _ _; first | refine qY (hq := ?_) | refine qZ (hq := ?_)) | (refine hK _ _ ?_; clear hK K) | (refine hK _ _ rfl ?_; clear hK K) | (refine qZ (hq := ?_); try exact trivial) | omega)
  rw [hN]; exact .refl _
def shMov (m : Mov) : Bool := (decide (m.kind.size ≤ 40) && decide (m.term.size ≤ 40)) && decide (m.name.size ≤ 40)
theorem natle (n : Nat) : (decide ((n : Int) ≤ 40)) = decide (n ≤ 40) := by simp; omega
theorem pure42 (m : Mov) : Pure Tryz.prog 42 [m.pv] (.b (shMov m)) := by
  refine pure_by fact42 (by simp) fun hw X hX => ?_
  unfold ac42 rs42
  repeat' first | (show Run _ (.cond _ _ _) _ _; refine run_condX (fun hc => ?_) (fun hc => ?_) <;> (try simp only [qH, rng_0] at hc) <;> try contradiction) | (first | refine Stp.h ?_ | (show ∀ K : St → List Ft → Prop, _; intro K hK) | (show runS _ _ _ _ _; first | refine qY (hq := ?_) | refine qZ (hq := ?_)) | (refine hK _ _ ?_; clear hK K) | (refine hK _ _ rfl ?_; clear hK K) | (refine qZ (hq := ?_); try exact trivial) | omega)
  rw [shMov]; refine weakB ?_; simp only [← natle]
def shMovs (l : List Mov) (n : Int) : Bool := !((decide (n < l.length) && decide ((l.length : Int) ≤ 30000)) || decide (30002 < (l.length : Int))) && l.all shMov
theorem all_no {α : Type} {l : List α} {p : α → Bool} {i : Nat} {x : α} (hx : l[i]? = some x) (hp : p x = false) : l.all p = false := by
  cases h : l.all p
  · rfl
  · rw [List.all_eq_true] at h; rw [h x (List.mem_of_getElem? hx)] at hp; exact hp
theorem all_next {α : Type} {l : List α} {p : α → Bool} {i : Nat} {x : α} (h : ∀ y ∈ l.take i, p y = true) (hx : l[i]? = some x) (hp : p x = true) : ∀ y ∈ l.take (i + 1), p y = true := by
  intro y hy
  rw [List.take_add_one, hx] at hy
  rcases List.mem_append.1 hy with hy | hy
  · exact h y hy
  · simp at hy; subst hy; exact hp
theorem all_end {α : Type} {l : List α} {p : α → Bool} (h : ∀ y ∈ l.take l.length, p y = true) : l.all p = true := by
  rw [List.take_length] at h; rw [List.all_eq_true]; exact h
theorem pure16 (l : List Mov) (n : Int) : Pure Tryz.prog 16 [.sl 7 (l.map Mov.pv), .i .i64 n] (.b (shMovs l n)) := by
  refine pure_by fact16 (by simp) fun hw X hX => ?_
  unfold ac16 rs16
  simp only [wfs, PV.wf, List.length_map, maxLen] at hw
  repeat' first | (show Run _ (.cond _ _ _) _ _; refine run_condX (fun hc => ?_) (fun hc => ?_) <;> (try simp only [qH, rng_0] at hc) <;> try contradiction) | (first | refine Stp.h ?_ | (show ∀ K : St → List Ft → Prop, _; intro K hK) | (show runS _ _ _ _ _; first | refine qY (hq := ?_) | refine qZ (hq := ?_)) | (refine hK _ _ ?_; clear hK K) | (refine hK _ _ rfl ?_; clear hK K) | (refine qZ (hq := ?_); try exact trivial) | omega)
  · have : ((decide (n < l.length) && decide ((l.length : Int) ≤ 30000)) || decide (30002 < (l.length : Int))) = true := by simpa using hc
    rw [shMovs, this]; exact .refl _
  have hsh : ((decide (n < l.length) && decide ((l.length : Int) ≤ 30000)) || decide (30002 < (l.length : Int))) = false := by simpa using hc
  refine run_loop (κ := Nat) (fun i => ⟨[(0, .p (.sl 7 (l.map Mov.pv))), (5, .p (.i .i64 i))], [], [], false⟩) (fun i => i ≤ l.length ∧ ∀ x ∈ l.take i, shMov x = true) (fun i => l.length - i) 0 ?_ ?_ ?_
  · simp only [qS, Nat.reduceAdd, Nat.reduceMul, Nat.reduceEqDiff, Nat.reduceLeDiff, reduceIte, reduceCtorEq, Nat.reduceBEq, Nat.reduceLT] <;> rfl
  · simp
  · intro i hi
    repeat (first | refine Stp.h ?_ | (show ∀ K : St → List Ft → Prop, _; intro K hK) | (show runS _ _ _ _ _; first | refine qY (hq := ?_) | refine qZ (hq := ?_)) | (refine hK _ _ ?_; clear hK K) | (refine hK _ _ rfl ?_; clear hK K) | (refine qZ (hq := ?_); try exact trivial) | omega)
    (show Run _ (.cond _ _ _) _ _; refine run_condX (fun hc => ?_) (fun hc => ?_) <;> (try simp only [qH, rng_0] at hc) <;> try contradiction)
    · obtain ⟨x, hx⟩ := some_at (i := i) (l := l) (by omega)
      have qe := And.intro qR @hx; repeat' first | (show Run _ (.cond _ _ _) _ _; refine run_condX (fun hc => ?_) (fun hc => ?_) <;> (try simp only [qH, rng_0] at hc) <;> try contradiction) | (show RunOps _ _ _ _ (⟨_, .call 42, _, _, _⟩ :: _) _ _; refine run_callX (hf := pure42 x) (hn := ?_)) | (first | refine Stp.h ?_ | (show ∀ K : St → List Ft → Prop, _; intro K hK) | (show runS _ _ _ _ _; first | refine qY (hq := ?_) | refine qZ (hq := ?_)) | (refine hK _ _ ?_; clear hK K) | (refine hK _ _ rfl ?_; clear hK K) | (refine qZ (hq := ?_); try exact trivial) | omega)
      · rw [shMovs, hsh, all_no hx hc]; exact .refl _
      · exact ⟨i + 1, ⟨by omega, all_next hi.2 hx hc⟩, by omega, by simp⟩
    · repeat' first | (show Run _ (.cond _ _ _) _ _; refine run_condX (fun hc => ?_) (fun hc => ?_) <;> (try simp only [qH, rng_0] at hc) <;> try contradiction) | (first | refine Stp.h ?_ | (show ∀ K : St → List Ft → Prop, _; intro K hK) | (show runS _ _ _ _ _; first | refine qY (hq := ?_) | refine qZ (hq := ?_)) | (refine hK _ _ ?_; clear hK K) | (refine hK _ _ rfl ?_; clear hK K) | (refine qZ (hq := ?_); try exact trivial) | omega)
      have e : i = l.length := by omega
      subst e
      rw [shMovs, hsh, all_end hi.2]; exact .refl _
end Go.Proofs.YtcfbdeghmckelaaGreat
