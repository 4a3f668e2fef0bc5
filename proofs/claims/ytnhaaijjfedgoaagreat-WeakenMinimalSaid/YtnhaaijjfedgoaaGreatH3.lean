/- A part of the proof. -/
import Derived.Test.YtnhaaijjfedgoaaGreatH2
import Derived.Sort.Grow
import Derived.Deep.Draws
import Derived.Shelf.SlSortCmp.NoneTotal
import Derived.Lib.ItoaNum
set_option linter.unusedVariables false
set_option linter.unusedSimpArgs false
set_option maxRecDepth 100000
namespace Go.AE
@[simp] abbrev zi(n:Int):AV:=.d (.int .i64 n)
@[simp] abbrev ci(n:Int):Opd:=.c (.d (.int .i64 n))
@[simp] abbrev qo(d:Nat)(io:AO):IOp:=⟨some d,io,none,false⟩
@[simp] abbrev qp(d:Nat)(io:AO):IOp:=⟨some d,io,none,true⟩
@[simp] abbrev qn(io:AO):IOp:=⟨none,io,none,false⟩
@[simp] abbrev qm(io:AO):IOp:=⟨none,io,none,true⟩
@[simp] abbrev oM(d x:Nat):IOp:=qo d (.mov (.t x))
@[simp] abbrev oF(d k x:Nat):IOp:=qo d (.faddr k (.t x))
@[simp] abbrev oL(d x:Nat):IOp:=qo d (.load none (.t x))
@[simp] abbrev oN(d n x:Nat):IOp:=qo d (.load (some n) (.t x))
@[simp] abbrev oA(d x:Nat):IOp:=qo d (.asg (.t x))
@[simp] abbrev oB(d:Nat)(o:BinOp)(x y:Nat):IOp:=qo d (.bin o (.t x) (.t y))
@[simp] abbrev oC(d:Nat)(o:BinOp)(x:Nat)(n:Int):IOp:=qo d (.bin o (.t x) (ci n))
@[simp] abbrev oI(d e x y:Nat):IOp:=qo d (.iaddr e (.t x) (.t y))
@[simp] abbrev oE(d x:Nat):IOp:=qo d (.len (.t x))
@[simp] abbrev oX(d x i:Nat):IOp:=qo d (.ext (.t x) i)
@[simp] abbrev oK(d:Nat)(n:Int):IOp:=qo d (.asg (ci n))
@[simp] abbrev pM(d x:Nat):IOp:=qp d (.mov (.t x))
@[simp] abbrev pF(d k x:Nat):IOp:=qp d (.faddr k (.t x))
@[simp] abbrev pL(d x:Nat):IOp:=qp d (.load none (.t x))
@[simp] abbrev pN(d n x:Nat):IOp:=qp d (.load (some n) (.t x))
@[simp] abbrev pA(d x:Nat):IOp:=qp d (.asg (.t x))
@[simp] abbrev pB(d:Nat)(o:BinOp)(x y:Nat):IOp:=qp d (.bin o (.t x) (.t y))
@[simp] abbrev pC(d:Nat)(o:BinOp)(x:Nat)(n:Int):IOp:=qp d (.bin o (.t x) (ci n))
@[simp] abbrev pI(d e x y:Nat):IOp:=qp d (.iaddr e (.t x) (.t y))
@[simp] abbrev pE(d x:Nat):IOp:=qp d (.len (.t x))
@[simp] abbrev pX(d x i:Nat):IOp:=qp d (.ext (.t x) i)
@[simp] abbrev pK(d:Nat)(n:Int):IOp:=qp d (.asg (ci n))
@[simp] abbrev oS(n x y:Nat):IOp:=qn (.store n (.t x) (.t y))
@[simp] abbrev oG(d:Nat)(o:AO)(g:Nat)(w:Bool):IOp:=⟨some d,o,some (g,w),false⟩
@[simp] abbrev oH(d:Nat)(o:AO)(g:Nat)(w:Bool):IOp:=⟨some d,o,some (g,w),true⟩
abbrev oR(l:List IOp):IC:=.region l []
abbrev oQ(a b:IC):IC:=.seq a b
abbrev oT(o:IOp)(t:AT):AT:=.step o t
structure Nums where
 Yf0:Nat
 Yf1:Nat
 Yf2:Nat
 Yf3:Nat
 Yf4:Nat
 Yf5:Nat
 Yf6:Nat
 Yf7:Nat
 Yf8:Nat
 Yf9:Nat
 Yfa:Nat
 Yfb:Nat
 Yfc:Nat
 Yfd:Nat
 Yfe:Nat
 Yff:Nat
 Yfg:Nat
 Yfh:Nat
 Yfi:Nat
 Yfj:Nat
 Yfk:Nat
 Yfl:Nat
 Yfm:Nat
 Yfn:Nat
 Yfo:Nat
 Yfp:Nat
 Yfq:Nat
 Yfr:Nat
 Yfs:Nat
 Yft:Nat
 Yfu:Nat
 Yfv:Nat
 Yfw:Nat
 Yfx:Nat
 Yfy:Nat
 Yfz:Nat
 Yf10:Nat
 Yf11:Nat
 Yf12:Nat
 Yf13:Nat
 Yf14:Nat
 Yf15:Nat
 Yf16:Nat
 Yf17:Nat
 Yf18:Nat
 Yf19:Nat
 Yf1a:Nat
 Yf1b:Nat
 Yf1c:Nat
 Yf1d:Nat
 Yf1e:Nat
 Yf1f:Nat
 Yf1g:Nat
 Yf1h:Nat
 Yf1i:Nat
 Yf1j:Nat
 Yf1k:Nat
 Yf1l:Nat
 Yf1m:Nat
 Yf1n:Nat
 Yf1o:Nat
 Yf1p:Nat
 Yf1q:Nat
 Yf1r:Nat
 Yf1s:Nat
 Yf1t:Nat
 Yf1u:Nat
 Yf1v:Nat
 Yf1w:Nat
 Yf1x:Nat
 Yf1y:Nat
 Yf1z:Nat
 Yf20:Nat
 Yf21:Nat
 Yf22:Nat
 Yf23:Nat
 Yf24:Nat
 Yf25:Nat
 Yf26:Nat
 Yf27:Nat
 Yf28:Nat
 Yf29:Nat
 Yf2a:Nat
 Yf2b:Nat
 Yf2c:Nat
 Yf2d:Nat
 Yf2e:Nat
 Yf2f:Nat
 Yf2g:Nat
 Yf2h:Nat
 Yf2i:Nat
 Yf2j:Nat
 Yf2k:Nat
 Yf2l:Nat
 Yf2m:Nat
 Yf2n:Nat
 Yf2o:Nat
 Yf2p:Nat
 Yf2q:Nat
 Yf2r:Nat
 Yf2s:Nat
 Yf2t:Nat
 Yf2u:Nat
 Yf2v:Nat
 Yf2w:Nat
 Yf2x:Nat
 Yf2y:Nat
 Yf2z:Nat
 Yf30:Nat
 Yf31:Nat
 Yf32:Nat
 Yf33:Nat
 Yf34:Nat
 Yf35:Nat
 Yf36:Nat
 Yf37:Nat
 Yf38:Nat
 Yf39:Nat
 Yf3a:Nat
 Yf3b:Nat
 Yf3c:Nat
 Yf3d:Nat
 Yf3e:Nat
 Yf3f:Nat
 Yf3g:Nat
section
variable (p:Nums)
abbrev Jtwc(p:Nums):IC:=oR [qo 4 (.alloc [(zi 0),(zi 0)]),qo 5 (.asg (.c (.d (.bool false))))]
abbrev Jtwf(p:Nums):IC:=oR [oM 9 0,oE 10 9,qo 11 (.mov (ci 0))]
abbrev Jtwg(p:Nums):IC:=oR [oI 13 2 9 11,oN 14 2 13,qo 8 (.alloc [(zi 0),(zi 0)]),oS 2 8 14]
abbrev Jtwh:IC:=oR [pM 15 6,pM 16 1,pE 17 16,oB 18 .lss 15 17,oM 19 18,oH 20 (.mov (.t 1)) 19 true,oH 21 (.mov (.t 6)) 19 true,oH 22 (.iaddr 2 (.t 20) (.t 21)) 19 true,oH 23 (.load (some 2) (.t 22)) 19 true,oH 24 (.load (some 2) (.t 8)) 19 true,oG 25 (.call p.Yf8 [(.t 23),(.t 24)]) 19 true,qo 26 (.pick (.t 19) (.t 25) (.c (.d (.bool false))))]
abbrev Jtwi(p:Nums):IC:=oR [oM 27 6,oC 28 .add 27 1,oA 6 28]
abbrev Jtwj:IC:=(oQ (oQ (Jtwh p) (.cond (.t 26) .skip (.exit 2))) (.block 3 (Jtwi p)))
abbrev Jtwk(p:Nums):IC:=oR [pM 29 6,pM 30 1,pE 31 30,oB 32 .eql 29 31,oM 33 32,oH 34 (.mov (.t 1)) 33 false,oH 35 (.mov (.t 6)) 33 false,oH 36 (.iaddr 2 (.t 34) (.t 35)) 33 false,oH 37 (.load (some 2) (.t 36)) 33 false,oH 38 (.load (some 2) (.t 8)) 33 false,oG 39 (.eqs true [.int,.int] (.t 37) (.t 38)) 33 false,qo 40 (.pick (.t 33) (.c (.d (.bool true))) (.t 39))]
abbrev Jtwl(p:Nums):IC:=oR [oN 41 2 8,oS 2 4 41,qo 5 (.asg (.c (.d (.bool true))))]
abbrev Jtwm:IC:=(oQ (Jtwg p) (oQ (.block 2 (.loop (Jtwj p))) (oQ (Jtwk p) (.cond (.t 40) (oQ (Jtwl p) .ret) .skip))))
abbrev Jtwd:IC:=(oQ (oR [oB 12 .lss 11 10]) (oQ (.cond (.t 12) .skip (.exit 0)) (oQ (.block 1 (Jtwm p)) (oR [oC 42 .add 11 1,oM 11 42]))))
abbrev Jtwe(p:Nums):IC:=oR [qo 43 (.build [(zi 0),(zi 0)] []),oS 2 4 43,qo 5 (.asg (.c (.d (.bool false))))]
def Jtje:IC:=(oQ (Jtwc p) (oQ (oR [oK 6 0]) (oQ (oQ (Jtwf p) (.block 0 (.loop (Jtwd p)))) (oQ (Jtwe p) .ret))))
abbrev Jt12f(p:Nums):IC:=oR [qo 4 (.alloc [(zi 0),(zi 0)]),qo 5 (.asg (.c (.d (.bool false))))]
abbrev Jt12g(p:Nums):IC:=oR [oM 7 6,oM 8 0,oE 9 8,oB 10 .lss 7 9]
abbrev Jt12h:IC:=oR [oM 13 1,oM 14 0,oM 15 6,oI 16 2 14 15,oN 17 2 16,qo 18 (.call p.Yf5 [(.t 13),(.t 17)]),qo 19 (.un .not (.t 18))]
abbrev Jt12i(p:Nums):IC:=oR [oM 20 0,oM 21 6,oI 22 2 20 21,oN 23 2 22,oS 2 4 23,qo 5 (.asg (.c (.d (.bool true))))]
abbrev Jt12j:IC:=(oQ (Jt12h p) (.cond (.t 19) (oQ (Jt12i p) .ret) .skip))
abbrev Jt12k(p:Nums):IC:=oR [oM 11 6,oC 12 .add 11 1,oA 6 12]
abbrev Jt12l:IC:=(oQ (oQ (Jt12g p) (.cond (.t 10) .skip (.exit 0))) (oQ (.block 1 (Jt12j p)) (Jt12k p)))
abbrev Jt12m(p:Nums):IC:=oR [qo 24 (.build [(zi 0),(zi 0)] []),oS 2 4 24,qo 5 (.asg (.c (.d (.bool false))))]
def Jtjy:IC:=(oQ (Jt12f p) (oQ (oQ (oR [oK 6 0]) (.block 0 (.loop (Jt12l p)))) (oQ (Jt12m p) .ret)))
abbrev Jt12o(p:Nums):IC:=oR [oM 6 0,oE 7 6,oM 8 1,oE 9 8,oB 10 .neq 7 9]
abbrev Jt12p(p:Nums):IC:=(oQ (oR [qo 4 (.asg (.c (.d (.bool false))))]) .ret)
abbrev Jt12q(p:Nums):IC:=oR [oM 11 5,oM 12 0,oE 13 12,oB 14 .lss 11 13]
abbrev Jt12r(p:Nums):IC:=oR [pM 17 0,pM 18 5,pI 19 2 17 18,pN 20 2 19,pM 21 1,pM 22 5,pI 23 2 21 22,pN 24 2 23,qo 25 (.eqs true [.int,.int] (.t 20) (.t 24))]
abbrev Jt12s(p:Nums):IC:=(oQ (oR [qo 4 (.asg (.c (.d (.bool false))))]) .ret)
abbrev Jt12t:IC:=(oQ (Jt12r p) (.cond (.t 25) (Jt12s p) .skip))
abbrev Jt12u(p:Nums):IC:=oR [oM 15 5,oC 16 .add 15 1,oA 5 16]
abbrev Jt12v:IC:=(oQ (oQ (Jt12q p) (.cond (.t 14) .skip (.exit 0))) (oQ (.block 1 (Jt12t p)) (Jt12u p)))
def Jtjz:IC:=(oQ (oR [qo 4 (.asg (.c (.d (.bool false))))]) (oQ (oQ (Jt12o p) (.cond (.t 10) (Jt12p p) .skip)) (oQ (oQ (oR [oK 5 0]) (.block 0 (.loop (Jt12v p)))) (oQ (oR [qo 4 (.asg (.c (.d (.bool true))))]) .ret))))
abbrev Jtw7:IC:=oR [oM 4 0,qo 5 (.call p.Yff [(.t 4)]),oA 3 5]
abbrev Jtw8:IC:=oR [oM 6 3,qo 7 (.call p.Yfg [(.t 6),(.c (.fn (.func p.Yfh) [] []))])]
abbrev Jtw9:IC:=oR [oM 8 3,qo 9 (.call p.Yfi [(.t 8)]),oA 2 9]
def Jtjd:IC:=(oQ (oR [qo 2 (.asg (.c .nils))]) (oQ (Jtw7 p) (oQ (Jtw8 p) (oQ (Jtw9 p) .ret))))
abbrev Jtw1:IC:=oR [oM 6 0,oN 7 2 3,qo 8 (.call p.Yfj [(.t 6),(.t 7)]),oA 5 8]
abbrev Jtw2(p:Nums):IC:=oR [pM 9 5,pM 10 0,pE 11 10,oB 12 .lss 9 11,oM 13 12,oH 14 (.mov (.t 0)) 13 true,oH 15 (.mov (.t 5)) 13 true,oH 16 (.iaddr 2 (.t 14) (.t 15)) 13 true,oH 17 (.load (some 2) (.t 16)) 13 true,oH 18 (.load (some 2) (.t 3)) 13 true,oG 19 (.eqs false [.int,.int] (.t 17) (.t 18)) 13 true,qo 20 (.pick (.t 13) (.t 19) (.c (.d (.bool false)))),oA 4 20]
def Jtjb:IC:=(oQ (oR [qo 3 (.box (.t 1)),qo 4 (.asg (.c (.d (.bool false))))]) (oQ (Jtw1 p) (oQ (Jtw2 p) .ret)))
abbrev Jt128(p:Nums):IC:=oR [oM 6 5,oM 7 0,oE 8 7,oB 9 .lss 6 8]
abbrev Jt129(p:Nums):IC:=oR [pM 12 0,pM 13 5,pI 14 2 12 13,pN 15 2 14,pN 16 2 3,qo 17 (.eqs false [.int,.int] (.t 15) (.t 16))]
abbrev Jt12a(p:Nums):IC:=(oQ (oR [qo 4 (.asg (.c (.d (.bool true))))]) .ret)
abbrev Jt12b:IC:=(oQ (Jt129 p) (.cond (.t 17) (Jt12a p) .skip))
abbrev Jt12c(p:Nums):IC:=oR [oM 10 5,oC 11 .add 10 1,oA 5 11]
abbrev Jt12d:IC:=(oQ (oQ (Jt128 p) (.cond (.t 9) .skip (.exit 0))) (oQ (.block 1 (Jt12b p)) (Jt12c p)))
def Jtjx:IC:=(oQ (oR [qo 3 (.box (.t 1)),qo 4 (.asg (.c (.d (.bool false))))]) (oQ (oQ (oR [oK 5 0]) (.block 0 (.loop (Jt12d p)))) (oQ (oR [qo 4 (.asg (.c (.d (.bool false))))]) .ret)))
abbrev Jtvk:IC:=oR [oM 7 0,oN 8 2 3,qo 9 (.call p.Yfj [(.t 7),(.t 8)]),oA 5 9]
abbrev Jtvl(p:Nums):IC:=oR [oM 10 0,oE 11 10,oC 12 .add 11 1,qo 13 (.mkslice 2 16 [(.int .i64 0),(.int .i64 0)] (ci 0) (.t 12)),oA 6 13]
@[simp] def Jq0(p:Nums):List IOp:=[pM 14 6,pM 15 0,pM 16 5,qp 17 (.slc 2 (.t 15) none (some (.t 16))),qp 18 (.appq 2 16 (.t 14) (.t 17) 6),pN 19 2 3,qp 20 (.bslice 2 1 [(.int .i64 0),(.int .i64 0)] [(0,(.t 19))]),qo 21 (.app 2 16 (.t 18) (.t 20)),oA 6 21]
abbrev Jtvm:IC:=(.region (Jq0 p) [41])
abbrev Jtvn(p:Nums):IC:=oR [pM 22 5,pM 23 0,pE 24 23,oB 25 .lss 22 24,oM 26 25,oH 27 (.mov (.t 0)) 26 true,oH 28 (.mov (.t 5)) 26 true,oH 29 (.iaddr 2 (.t 27) (.t 28)) 26 true,oH 30 (.load (some 2) (.t 29)) 26 true,oH 31 (.load (some 2) (.t 3)) 26 true,oG 32 (.eqs false [.int,.int] (.t 30) (.t 31)) 26 true,qo 33 (.pick (.t 26) (.t 32) (.c (.d (.bool false))))]
abbrev Jtvo(p:Nums):IC:=oR [oM 34 5,oC 35 .add 34 1,oA 5 35]
abbrev Jtvp(p:Nums):IC:=oR [oM 36 6,oM 37 0,oM 38 5,qo 39 (.slc 2 (.t 37) (some (.t 38)) none),qo 40 (.app 2 16 (.t 36) (.t 39)),oA 4 40]
def Jtj6:IC:=(oQ (oR [qo 3 (.box (.t 1)),qo 4 (.asg (.c .nils))]) (oQ (Jtvk p) (oQ (Jtvl p) (oQ (Jtvm p) (oQ (oQ (Jtvn p) (.cond (.t 33) (Jtvo p) .skip)) (oQ (Jtvp p) .ret))))))
abbrev Jtwo(p:Nums):IC:=oR [oM 7 0,oE 8 7,oM 9 1,oE 10 9,oB 11 .add 8 10,qo 12 (.mkslice 2 16 [(.int .i64 0),(.int .i64 0)] (ci 0) (.t 11)),oA 5 12]
abbrev Jtwt(p:Nums):IC:=oR [oM 13 0,oE 14 13,oC 15 .gtr 14 0,oM 16 15,oG 17 (.mov (.t 1)) 16 true,oG 18 (.len (.t 17)) 16 true,oG 19 (.bin .gtr (.t 18) (ci 0)) 16 true,qo 20 (.pick (.t 16) (.t 19) (.c (.d (.bool false))))]
abbrev Jtwu(p:Nums):IC:=oR [oM 21 0,qo 22 (.iaddr 2 (.t 21) (ci 0)),oN 23 2 22,qo 6 (.alloc [(zi 0),(zi 0)]),oS 2 6 23]
abbrev Jtwv:IC:=oR [pM 24 1,qp 25 (.iaddr 2 (.t 24) (ci 0)),pN 26 2 25,pN 27 2 6,qo 28 (.call p.Yf8 [(.t 26),(.t 27)])]
abbrev Jtww(p:Nums):IC:=oR [oM 29 1,qo 30 (.iaddr 2 (.t 29) (ci 0)),oN 31 2 30,oS 2 6 31]
abbrev Jtwx(p:Nums):IC:=oR [oM 32 5,oN 33 2 6,qo 34 (.bslice 2 1 [(.int .i64 0),(.int .i64 0)] [(0,(.t 33))]),qo 35 (.app 2 16 (.t 32) (.t 34)),oA 5 35]
abbrev Jtwy(p:Nums):IC:=oR [pM 36 0,qp 37 (.iaddr 2 (.t 36) (ci 0)),pN 38 2 37,pN 39 2 6,qo 40 (.eqs false [.int,.int] (.t 38) (.t 39))]
abbrev Jtwz(p:Nums):IC:=oR [oM 41 0,qo 42 (.slc 2 (.t 41) (some (ci 1)) none),oA 0 42]
abbrev Jtx0(p:Nums):IC:=oR [pM 43 1,qp 44 (.iaddr 2 (.t 43) (ci 0)),pN 45 2 44,pN 46 2 6,qo 47 (.eqs false [.int,.int] (.t 45) (.t 46))]
abbrev Jtwp(p:Nums):IC:=oR [oM 48 1,qo 49 (.slc 2 (.t 48) (some (ci 1)) none),oA 1 49]
abbrev Jtwq:IC:=(oQ (Jtwu p) (oQ (oQ (Jtwv p) (.cond (.t 28) (Jtww p) .skip)) (oQ (Jtwx p) (oQ (oQ (Jtwy p) (.cond (.t 40) (Jtwz p) .skip)) (oQ (Jtx0 p) (.cond (.t 47) (Jtwp p) .skip))))))
abbrev Jtwr:IC:=(oQ (oQ (Jtwt p) (.cond (.t 20) .skip (.exit 0))) (.block 1 (Jtwq p)))
abbrev Jtws(p:Nums):IC:=oR [oM 50 5,oM 51 0,qo 52 (.app 2 16 (.t 50) (.t 51)),oM 53 1,qo 54 (.app 2 16 (.t 52) (.t 53)),oA 4 54]
def Jtjf:IC:=(oQ (oR [qo 4 (.asg (.c .nils))]) (oQ (Jtwo p) (oQ (.block 0 (.loop (Jtwr p))) (oQ (Jtws p) .ret))))
abbrev Jtw4(p:Nums):IC:=oR [qo 2 (.box (.t 0)),qo 3 (.box (.t 1)),qo 4 (.asg (.c (.d (.bool false))))]
abbrev Jtw5(p:Nums):IC:=oR [oF 5 0 2,oL 6 5,oF 7 0 3,oL 8 7,oB 9 .lss 6 8,oM 10 9,oG 11 (.faddr 0 (.t 2)) 10 false,oG 12 (.load none (.t 11)) 10 false,oG 13 (.faddr 0 (.t 3)) 10 false,oG 14 (.load none (.t 13)) 10 false,oG 15 (.bin .eql (.t 12) (.t 14)) 10 false,oG 16 (.mov (.t 15)) 10 false,oG 17 (.faddr 1 (.t 2)) 16 true,oG 18 (.load none (.t 17)) 16 true,oG 19 (.faddr 1 (.t 3)) 16 true,oG 20 (.load none (.t 19)) 16 true,oG 21 (.bin .lss (.t 18) (.t 20)) 16 true,oG 22 (.pick (.t 16) (.t 21) (.c (.d (.bool false)))) 10 false,qo 23 (.pick (.t 10) (.c (.d (.bool true))) (.t 22)),oA 4 23]
def Jtjc:IC:=(oQ (Jtw4 p) (oQ (Jtw5 p) .ret))
abbrev Jtzf(p:Nums):IC:=oR [oF 4 2 1,oL 5 4,oE 6 5,oC 7 .gtr 6 40,oM 8 7,oG 9 (.faddr 1 (.t 1)) 8 false,oG 10 (.load none (.t 9)) 8 false,oG 11 (.bin .gtr (.t 10) (ci 60)) 8 false,qo 12 (.pick (.t 8) (.c (.d (.bool true))) (.t 11))]
abbrev Jtzg(p:Nums):IC:=(oQ (oR [qo 2 (.asg (.c (.d (.bool false))))]) .ret)
abbrev Jtzh(p:Nums):IC:=oR [oM 13 3,oF 14 2 1,oL 15 14,oE 16 15,oB 17 .lss 13 16]
abbrev Jtzi(p:Nums):IC:=oR [oF 20 2 1,oL 21 20,oM 22 3,oI 23 5 21 22,oF 24 0 23,oL 25 24,oE 26 25,oC 27 .gtr 26 100]
abbrev Jtzj(p:Nums):IC:=(oQ (oR [qo 2 (.asg (.c (.d (.bool false))))]) .ret)
abbrev Jtzk:IC:=(oQ (Jtzi p) (.cond (.t 27) (Jtzj p) .skip))
abbrev Jtzl(p:Nums):IC:=oR [oM 18 3,oC 19 .add 18 1,oA 3 19]
abbrev Jtzm:IC:=(oQ (oQ (Jtzh p) (.cond (.t 17) .skip (.exit 0))) (oQ (.block 1 (Jtzk p)) (Jtzl p)))
abbrev Jtzn:IC:=oR [oN 28 3 1,qo 29 (.call p.Yfk [(.t 28)]),oC 30 .leq 29 300,oA 2 30]
def Jtjo:IC:=(oQ (oR [qo 1 (.box (.t 0)),qo 2 (.asg (.c (.d (.bool false))))]) (oQ (oQ (Jtzf p) (.cond (.t 12) (Jtzg p) .skip)) (oQ (oQ (oR [oK 3 0]) (.block 0 (.loop (Jtzm p)))) (oQ (Jtzn p) .ret))))
abbrev Jtyi(p:Nums):IC:=oR [oF 8 0 1,oL 9 8,oC 10 .lss 9 0,oM 11 10,oG 12 (.faddr 0 (.t 1)) 11 false,oG 13 (.load none (.t 12)) 11 false,oG 14 (.faddr 1 (.t 1)) 11 false,oG 15 (.load none (.t 14)) 11 false,oG 16 (.bin .gtr (.t 13) (.t 15)) 11 false,qo 17 (.pick (.t 11) (.c (.d (.bool true))) (.t 16))]
abbrev Jtyt(p:Nums):IC:=(oQ (oR [oK 2 9]) .ret)
abbrev Jtyw(p:Nums):IC:=oR [oF 18 1 1,oL 19 18,oC 20 .gtr 19 1048576]
abbrev Jtyx(p:Nums):IC:=(oQ (oR [oK 2 6]) .ret)
abbrev Jtyy(p:Nums):IC:=oR [oF 21 2 1,oL 22 21,oE 23 22,oC 24 .eql 23 0]
abbrev Jtyz(p:Nums):IC:=(oQ (oR [oK 2 14]) .ret)
abbrev Jtz0:IC:=oR [oF 25 2 1,oL 26 25,oE 27 26,oC 28 .gtr 27 1048576,oM 29 28,oG 30 (.load (some 3) (.t 1)) 29 false,oG 31 (.call p.Yfk [(.t 30)]) 29 false,oG 32 (.bin .gtr (.t 31) (ci 1048576)) 29 false,qo 33 (.pick (.t 29) (.c (.d (.bool true))) (.t 32))]
abbrev Jtz1(p:Nums):IC:=(oQ (oR [oK 2 6]) .ret)
abbrev Jtz2(p:Nums):IC:=oR [oM 34 3,oF 35 2 1,oL 36 35,oE 37 36,oB 38 .lss 34 37]
abbrev Jtyj(p:Nums):IC:=oR [oF 41 2 1,oL 42 41,oM 43 3,oI 44 5 42 43,oN 45 5 44,qo 4 (.alloc [.nils,(zi 0),(zi 0),(zi 0),(zi 0)]),oS 5 4 45]
abbrev Jtyk(p:Nums):IC:=oR [oM 46 5,oF 47 0 4,oL 48 47,oE 49 48,oB 50 .lss 46 49]
abbrev Jtyl:IC:=oR [pF 53 0 4,pL 54 53,pM 55 5,pI 56 5 54 55,pN 57 5 56,pF 58 1 1,pL 59 58,qo 60 (.call p.Yfl [(.t 57),(.t 59)]),oA 6 60]
abbrev Jtym(p:Nums):IC:=(oQ (oR [oM 63 6,oA 2 63]) .ret)
abbrev Jtyn:IC:=(oQ (Jtyl p) (oQ (oR [oM 61 6,oC 62 .neq 61 0]) (.cond (.t 62) (Jtym p) .skip)))
abbrev Jtyo(p:Nums):IC:=oR [oM 51 5,oC 52 .add 51 1,oA 5 52]
abbrev Jtyp:IC:=(oQ (oQ (Jtyk p) (.cond (.t 50) .skip (.exit 2))) (oQ (.block 3 (Jtyn p)) (Jtyo p)))
abbrev Jtyq:IC:=oR [oF 64 1 4,oN 65 4 64,oF 66 1 1,oL 67 66,oF 68 2 1,oL 69 68,oE 70 69,qo 71 (.call p.Yfm [(.t 65),(.t 67),(.t 70)]),oA 7 71]
abbrev Jtyr(p:Nums):IC:=(oQ (oR [oM 74 7,oA 2 74]) .ret)
abbrev Jtys:IC:=(oQ (Jtyj p) (oQ (oQ (oR [oK 5 0]) (.block 2 (.loop (Jtyp p)))) (oQ (Jtyq p) (oQ (oR [oM 72 7,oC 73 .neq 72 0]) (.cond (.t 73) (Jtyr p) .skip)))))
abbrev Jtyu(p:Nums):IC:=oR [oM 39 3,oC 40 .add 39 1,oA 3 40]
abbrev Jtyv:IC:=(oQ (oQ (Jtz2 p) (.cond (.t 38) .skip (.exit 0))) (oQ (.block 1 (Jtys p)) (Jtyu p)))
def Jtjl:IC:=(oQ (oR [qo 1 (.box (.t 0)),oK 2 0]) (oQ (oQ (Jtyi p) (.cond (.t 17) (Jtyt p) .skip)) (oQ (oQ (Jtyw p) (.cond (.t 20) (Jtyx p) .skip)) (oQ (oQ (Jtyy p) (.cond (.t 24) (Jtyz p) .skip)) (oQ (oQ (Jtz0 p) (.cond (.t 33) (Jtz1 p) .skip)) (oQ (oQ (oR [oK 3 0]) (.block 0 (.loop (Jtyv p)))) (oQ (oR [oK 2 0]) .ret)))))))
abbrev Jto2:IC:=oR [oN 6 3 1,qo 7 (.call p.Yfs [(.t 6)]),oE 8 7,qo 9 (.mov (ci 0))]
abbrev Jto3(p:Nums):IC:=oR [oI 11 1 7 9,oL 12 11,oA 5 12]
abbrev Jto4:IC:=oR [oM 13 3,oM 14 5,qo 15 (.call p.Yfr [(.t 14)]),qo 16 (.bslice 1 1 [(.sl [])] [(0,(.t 15))]),qo 17 (.app 1 24 (.t 13) (.t 16)),oA 3 17]
abbrev Jto5:IC:=(oQ (oR [oB 10 .lss 9 8]) (oQ (.cond (.t 10) .skip (.exit 0)) (oQ (.block 1 (oQ (Jto3 p) (Jto4 p))) (oR [oC 18 .add 9 1,oM 9 18]))))
def Jtih:IC:=(oQ (oR [qo 1 (.box (.t 0)),qo 2 (.asg (.c .nils))]) (oQ (oR [qo 3 (.asg (.c .nils))]) (oQ (oQ (Jto2 p) (.block 0 (.loop (Jto5 p)))) (oQ (oR [oM 19 3,oA 2 19]) .ret))))
abbrev Jtz9(p:Nums):IC:=oR [oF 5 0 1,oL 6 5,oF 7 1 1,oL 8 7,qo 9 (.build [(zi 0),(zi 0),.nils] [(0,1,(.t 6)),(1,1,(.t 8))]),qo 3 (.alloc [(zi 0),(zi 0),.nils]),oS 3 3 9]
abbrev Jtza(p:Nums):IC:=oR [oM 10 4,oF 11 2 1,oL 12 11,oE 13 12,oB 14 .lss 10 13]
abbrev Jtzb(p:Nums):IC:=oR [pF 17 2 3,pL 18 17,qp 19 (.bslice 5 0 [(.int .i64 0),(.int .i64 0),(.int .i64 0),(.int .i64 0),(.int .i64 0)] []),pF 20 2 1,pL 21 20,pM 22 4,pI 23 5 21 22,pF 24 0 23,pL 25 24,qp 26 (.app 5 40 (.t 19) (.t 25)),pF 27 2 1,pL 28 27,pM 29 4,pI 30 5 28 29,pF 31 1 30,pN 32 4 31,qp 33 (.build [.nils,(zi 0),(zi 0),(zi 0),(zi 0)] [(0,1,(.t 26)),(1,4,(.t 32))]),qp 34 (.bslice 5 1 [(.sl []),(.int .i64 0),(.int .i64 0),(.int .i64 0),(.int .i64 0)] [(0,(.t 33))]),qo 35 (.app 5 56 (.t 18) (.t 34)),oF 36 2 3,oS 1 36 35]
abbrev Jtzc(p:Nums):IC:=oR [oM 15 4,oC 16 .add 15 1,oA 4 16]
abbrev Jtzd:IC:=(oQ (oQ (Jtza p) (.cond (.t 14) .skip (.exit 0))) (oQ (.block 1 (Jtzb p)) (Jtzc p)))
def Jtjn:IC:=(oQ (oR [qo 1 (.box (.t 0)),qo 2 (.alloc [(zi 0),(zi 0),.nils])]) (oQ (Jtz9 p) (oQ (oQ (oR [oK 4 0]) (.block 0 (.loop (Jtzd p)))) (oQ (oR [oN 37 3 3,oS 3 2 37]) .ret))))
abbrev Jtvy:IC:=oR [oM 5 0,qo 6 (.mkfn (.func p.Yfv) [] [(.t 3)]),qo 7 (.call p.Yfu [(.t 5),(.t 6)]),oA 4 7]
def Jtj9:IC:=(oQ (oR [qo 3 (.box (.t 1)),qo 4 (.asg (.c .nils))]) (oQ (Jtvy p) .ret))
abbrev Jtvt:IC:=oR [oM 5 0,qo 6 (.mkfn (.func p.Yfw) [] [(.t 3)]),qo 7 (.call p.Yfu [(.t 5),(.t 6)]),oA 4 7]
def Jtj7:IC:=(oQ (oR [qo 3 (.box (.t 1)),qo 4 (.asg (.c .nils))]) (oQ (Jtvt p) .ret))
abbrev Jt18i(p:Nums):IC:=(oQ (oR [qo 2 (.asg (.c .nils))]) .ret)
abbrev Jt18j(p:Nums):IC:=oR [qo 5 (.bslice 2 0 [(.int .i64 0),(.int .i64 0)] []),oM 6 0,qo 7 (.app 2 16 (.t 5) (.t 6)),oA 2 7]
def Jtkb:IC:=(oQ (oR [qo 2 (.asg (.c .nils))]) (oQ (oQ (oR [oM 3 0,qo 4 (.isnil false (.t 3))]) (.cond (.t 4) (Jt18i p) .skip)) (oQ (Jt18j p) .ret)))
abbrev Jt18o(p:Nums):IC:=oR [oM 6 0,oE 7 6,oC 8 .lss 7 2]
abbrev Jt18y(p:Nums):IC:=(oQ (oR [oM 9 0,oA 2 9]) .ret)
abbrev Jt18z(p:Nums):IC:=oR [oM 10 3,oM 11 0,oE 12 11,oB 13 .lss 10 12]
abbrev Jt190(p:Nums):IC:=oR [pM 16 0,pM 17 3,pI 18 2 16 17,pN 19 2 18,pM 20 0,pM 21 3,pC 22 .sub 21 1,pI 23 2 20 22,pN 24 2 23,qo 25 (.eqs false [.int,.int] (.t 19) (.t 24))]
abbrev Jt191(p:Nums):IC:=oR [oM 26 0,oM 27 3,qo 28 (.slc 2 (.t 26) (some (.t 27)) none),oA 4 28]
abbrev Jt192(p:Nums):IC:=oR [oM 29 5,oM 30 4,oE 31 30,oB 32 .lss 29 31]
abbrev Jt193(p:Nums):IC:=oR [pM 35 4,pM 36 5,pI 37 2 35 36,pN 38 2 37,pM 39 4,pM 40 5,pC 41 .sub 40 1,pI 42 2 39 41,pN 43 2 42,qo 44 (.eqs true [.int,.int] (.t 38) (.t 43))]
abbrev Jt194(p:Nums):IC:=oR [oM 45 0,oM 46 3,oM 47 4,oM 48 5,oI 49 2 47 48,oN 50 2 49,oI 51 2 45 46,oS 2 51 50]
abbrev Jt195(p:Nums):IC:=oR [oM 52 3,oC 53 .add 52 1,oA 3 53]
abbrev Jt18p:IC:=(oQ (Jt193 p) (.cond (.t 44) (oQ (Jt194 p) (Jt195 p)) .skip))
abbrev Jt18q(p:Nums):IC:=oR [oM 33 5,oC 34 .add 33 1,oA 5 34]
abbrev Jt18r:IC:=(oQ (oQ (Jt192 p) (.cond (.t 32) .skip (.exit 2))) (oQ (.block 3 (Jt18p p)) (Jt18q p)))
abbrev Jt18s(p:Nums):IC:=oR [oM 54 0,oM 55 3,qo 56 (.slc 2 (.t 54) (some (.t 55)) none),qn (.clr 2 [(.int .i64 0),(.int .i64 0)] (.t 56))]
abbrev Jt18t(p:Nums):IC:=oR [oM 57 0,oM 58 3,qo 59 (.slc 2 (.t 57) none (some (.t 58))),oA 2 59]
abbrev Jt18u:IC:=(oQ (Jt191 p) (oQ (oQ (oR [oK 5 1]) (.block 2 (.loop (Jt18r p)))) (oQ (Jt18s p) (oQ (Jt18t p) .ret))))
abbrev Jt18v:IC:=(oQ (Jt190 p) (.cond (.t 25) (Jt18u p) .skip))
abbrev Jt18w(p:Nums):IC:=oR [oM 14 3,oC 15 .add 14 1,oA 3 15]
abbrev Jt18x:IC:=(oQ (oQ (Jt18z p) (.cond (.t 13) .skip (.exit 0))) (oQ (.block 1 (Jt18v p)) (Jt18w p)))
def Jtkc:IC:=(oQ (oR [qo 2 (.asg (.c .nils))]) (oQ (oQ (Jt18o p) (.cond (.t 8) (Jt18y p) .skip)) (oQ (oQ (oR [oK 3 1]) (.block 0 (.loop (Jt18x p)))) (oQ (oR [oM 60 0,oA 2 60]) .ret))))
abbrev Jtxa(p:Nums):IC:=oR [oM 8 0,oE 9 8,oK 5 0,oA 6 9]
abbrev Jtxb(p:Nums):IC:=oR [oM 10 5,oM 11 6,oB 12 .lss 10 11]
abbrev Jtxc(p:Nums):IC:=oR [oM 13 5,oM 14 6,oM 15 5,oB 16 .sub 14 15,oC 17 .quo 16 2,oB 18 .add 13 17,oA 7 18]
abbrev Jtxd:IC:=oR [pM 19 0,pM 20 7,pI 21 2 19 20,pN 22 2 21,pN 23 2 3,qo 24 (.call p.Yf8 [(.t 22),(.t 23)])]
abbrev Jtxe(p:Nums):IC:=oR [oM 25 7,oC 26 .add 25 1,oA 5 26]
abbrev Jtxf(p:Nums):IC:=oR [oM 27 7,oA 6 27]
abbrev Jtxg:IC:=(oQ (Jtxc p) (oQ (Jtxd p) (.cond (.t 24) (Jtxe p) (Jtxf p))))
abbrev Jtxh:IC:=(oQ (oQ (Jtxb p) (.cond (.t 12) .skip (.exit 0))) (.block 1 (Jtxg p)))
def Jtjh:IC:=(oQ (oR [qo 3 (.box (.t 1)),oK 4 0]) (oQ (Jtxa p) (oQ (.block 0 (.loop (Jtxh p))) (oQ (oR [oM 28 5,oA 4 28]) .ret))))
abbrev Jtz4(p:Nums):IC:=oR [oM 5 4,oF 6 2 1,oL 7 6,oE 8 7,oB 9 .lss 5 8]
abbrev Jtz5(p:Nums):IC:=oR [oM 12 3,oF 13 2 1,oL 14 13,oM 15 4,oI 16 5 14 15,oF 17 0 16,oL 18 17,oE 19 18,oB 20 .add 12 19,oA 3 20]
abbrev Jtz6(p:Nums):IC:=oR [oM 10 4,oC 11 .add 10 1,oA 4 11]
abbrev Jtz7:IC:=(oQ (oQ (Jtz4 p) (.cond (.t 9) .skip (.exit 0))) (oQ (.block 1 (Jtz5 p)) (Jtz6 p)))
def Jtjm:IC:=(oQ (oR [qo 1 (.box (.t 0)),oK 2 0]) (oQ (oR [oK 3 0]) (oQ (oQ (oR [oK 4 0]) (.block 0 (.loop (Jtz7 p)))) (oQ (oR [oM 21 3,oA 2 21]) .ret))))
abbrev Jtzp(p:Nums):IC:=oR [oF 5 0 2,oL 6 5,oC 7 .lss 6 1,oM 8 7,oG 9 (.faddr 0 (.t 2)) 8 false,oG 10 (.load none (.t 9)) 8 false,oG 11 (.bin .gtr (.t 10) (ci 17)) 8 false,qo 12 (.pick (.t 8) (.c (.d (.bool true))) (.t 11))]
abbrev Jtzq(p:Nums):IC:=(oQ (oR [oK 4 8]) .ret)
def Jtzw:IC:=(oQ (oQ (Jtzp p) .cut) (.cond (.t 12) (Jtzq p) .skip))
theorem Jtzx{p:Nums}:EqI (Jtzw p) (oQ (oQ (Jtzp p) .cut) (.cond (.t 12) (Jtzq p) .skip)):=eqi
abbrev Jtzr:IC:=oR [oF 13 0 2,oL 14 13,qo 15 (.call p.Yfp [(.t 14)]),oM 16 15,oG 17 (.faddr 1 (.t 2)) 16 true,oG 18 (.load none (.t 17)) 16 true,oG 19 (.mov (.t 1)) 16 true,oG 20 (.call p.Yfx [(.t 18),(.t 19)]) 16 true,oG 21 (.un .not (.t 20)) 16 true,qo 22 (.pick (.t 16) (.t 21) (.c (.d (.bool false)))),oM 23 22,oG 24 (.faddr 0 (.t 2)) 23 false,oG 25 (.load none (.t 24)) 23 false,oG 26 (.call p.Yfn [(.t 25)]) 23 false,oG 27 (.mov (.t 26)) 23 false,oG 28 (.faddr 2 (.t 2)) 27 true,oG 29 (.load none (.t 28)) 27 true,oG 30 (.mov (.t 1)) 27 true,oG 31 (.call p.Yfx [(.t 29),(.t 30)]) 27 true,oG 32 (.un .not (.t 31)) 27 true,oG 33 (.pick (.t 27) (.t 32) (.c (.d (.bool false)))) 23 false,qo 34 (.pick (.t 23) (.c (.d (.bool true))) (.t 33)),oM 35 34,oG 36 (.faddr 0 (.t 2)) 35 false,oG 37 (.load none (.t 36)) 35 false,oG 38 (.call p.Yfo [(.t 37)]) 35 false,oG 39 (.mov (.t 38)) 35 false,oG 40 (.faddr 3 (.t 2)) 39 true,oG 41 (.load none (.t 40)) 39 true,oG 42 (.mov (.t 1)) 39 true,oG 43 (.call p.Yfx [(.t 41),(.t 42)]) 39 true,oG 44 (.un .not (.t 43)) 39 true,oG 45 (.pick (.t 39) (.t 44) (.c (.d (.bool false)))) 35 false,qo 46 (.pick (.t 35) (.c (.d (.bool true))) (.t 45))]
abbrev Jtzs(p:Nums):IC:=(oQ (oR [oK 4 9]) .ret)
def Jtzy:IC:=(oQ (oQ (Jtzr p) .cut) (.cond (.t 46) (Jtzs p) .skip))
theorem Jtzz{p:Nums}:EqI (Jtzy p) (oQ (oQ (Jtzr p) .cut) (.cond (.t 46) (Jtzs p) .skip)):=eqi
abbrev Jtzt:IC:=oR [oF 47 0 2,oL 48 47,qo 49 (.call p.Yfp [(.t 48)]),qo 50 (.un .not (.t 49)),oM 51 50,oG 52 (.faddr 1 (.t 2)) 51 true,oG 53 (.load none (.t 52)) 51 true,oG 54 (.bin .neq (.t 53) (ci 0)) 51 true,qo 55 (.pick (.t 51) (.t 54) (.c (.d (.bool false)))),oM 56 55,oG 57 (.faddr 0 (.t 2)) 56 false,oG 58 (.load none (.t 57)) 56 false,oG 59 (.call p.Yfn [(.t 58)]) 56 false,oG 60 (.un .not (.t 59)) 56 false,oG 61 (.mov (.t 60)) 56 false,oG 62 (.faddr 2 (.t 2)) 61 true,oG 63 (.load none (.t 62)) 61 true,oG 64 (.bin .neq (.t 63) (ci 0)) 61 true,oG 65 (.pick (.t 61) (.t 64) (.c (.d (.bool false)))) 56 false,qo 66 (.pick (.t 56) (.c (.d (.bool true))) (.t 65)),oM 67 66,oG 68 (.faddr 0 (.t 2)) 67 false,oG 69 (.load none (.t 68)) 67 false,oG 70 (.call p.Yfo [(.t 69)]) 67 false,oG 71 (.un .not (.t 70)) 67 false,oG 72 (.mov (.t 71)) 67 false,oG 73 (.faddr 3 (.t 2)) 72 true,oG 74 (.load none (.t 73)) 72 true,oG 75 (.bin .neq (.t 74) (ci 0)) 72 true,oG 76 (.pick (.t 72) (.t 75) (.c (.d (.bool false)))) 67 false,qo 77 (.pick (.t 67) (.c (.d (.bool true))) (.t 76)),oM 78 77,oG 79 (.faddr 0 (.t 2)) 78 false,oG 80 (.load none (.t 79)) 78 false,oG 81 (.bin .neq (.t 80) (ci 1)) 78 false,oG 82 (.mov (.t 81)) 78 false,oG 83 (.faddr 4 (.t 2)) 82 true,oG 84 (.load none (.t 83)) 82 true,oG 85 (.bin .neq (.t 84) (ci 0)) 82 true,oG 86 (.pick (.t 82) (.t 85) (.c (.d (.bool false)))) 78 false,qo 87 (.pick (.t 78) (.c (.d (.bool true))) (.t 86))]
abbrev Jtzu(p:Nums):IC:=(oQ (oR [oK 4 12]) .ret)
def Jt100:IC:=(oQ (oQ (Jtzt p) .cut) (.cond (.t 87) (Jtzu p) .skip))
theorem Jt101{p:Nums}:EqI (Jt100 p) (oQ (oQ (Jtzt p) .cut) (.cond (.t 87) (Jtzu p) .skip)):=eqi
def Jtjp:IC:=(oQ (oR [qo 2 (.box (.t 0)),oK 4 0]) (oQ (Jtzw p) (oQ (Jtzy p) (oQ (Jt100 p) (oQ (oR [oK 4 0]) .ret)))))
abbrev Jt10i:IC:=oR [oF 11 2 3,oL 12 11,oM 13 2,qo 14 (.call p.Yfx [(.t 12),(.t 13)]),qo 15 (.un .not (.t 14))]
abbrev Jt10s(p:Nums):IC:=(oQ (oR [oK 6 11]) .ret)
abbrev Jt10t(p:Nums):IC:=oR [oF 16 1 3,oL 17 16,oC 18 .neq 17 0,oM 19 18,oG 20 (.faddr 3 (.t 3)) 19 false,oG 21 (.load none (.t 20)) 19 false,oG 22 (.bin .neq (.t 21) (ci 0)) 19 false,qo 23 (.pick (.t 19) (.c (.d (.bool true))) (.t 22))]
abbrev Jt10u(p:Nums):IC:=(oQ (oR [oK 6 12]) .ret)
abbrev Jt10v:IC:=oR [oF 26 1 3,oL 27 26,oM 28 1,qo 29 (.call p.Yfx [(.t 27),(.t 28)]),qo 30 (.un .not (.t 29))]
abbrev Jt10w(p:Nums):IC:=(oQ (oR [oK 6 9]) .ret)
abbrev Jt10x:IC:=oR [oF 31 2 3,oL 32 31,oM 33 2,qo 34 (.call p.Yfx [(.t 32),(.t 33)]),qo 35 (.un .not (.t 34)),oM 36 35,oG 37 (.faddr 3 (.t 3)) 36 false,oG 38 (.load none (.t 37)) 36 false,oG 39 (.mov (.t 2)) 36 false,oG 40 (.call p.Yfx [(.t 38),(.t 39)]) 36 false,oG 41 (.un .not (.t 40)) 36 false,qo 42 (.pick (.t 36) (.c (.d (.bool true))) (.t 41))]
abbrev Jt10y(p:Nums):IC:=(oQ (oR [oK 6 11]) .ret)
abbrev Jt10z:IC:=oR [oF 45 1 3,oL 46 45,oM 47 1,qo 48 (.call p.Yfx [(.t 46),(.t 47)]),qo 49 (.un .not (.t 48))]
abbrev Jt10j(p:Nums):IC:=(oQ (oR [oK 6 9]) .ret)
abbrev Jt10k(p:Nums):IC:=oR [oF 50 2 3,oL 51 50,oC 52 .neq 51 0,oM 53 52,oG 54 (.faddr 3 (.t 3)) 53 false,oG 55 (.load none (.t 54)) 53 false,oG 56 (.bin .neq (.t 55) (ci 0)) 53 false,qo 57 (.pick (.t 53) (.c (.d (.bool true))) (.t 56))]
abbrev Jt10l(p:Nums):IC:=(oQ (oR [oK 6 12]) .ret)
abbrev Jt10m:IC:=(oQ (oQ (Jt10z p) (.cond (.t 49) (Jt10j p) .skip)) (oQ (oQ (Jt10k p) (.cond (.t 57) (Jt10l p) .skip)) (oQ (oR [oK 6 0]) .ret)))
abbrev Jt10n:IC:=(oQ (oQ (Jt10v p) (.cond (.t 30) (Jt10w p) .skip)) (oQ (oQ (Jt10x p) (.cond (.t 42) (Jt10y p) .skip)) (oQ (oR [oK 6 0]) .ret)))
abbrev Jt10o:IC:=(oQ (oR [oC 44 .eql 8 3,oA 43 44]) (.cond (.t 43) (Jt10m p) .skip))
abbrev Jt10p:IC:=(oQ (oQ (Jt10i p) (.cond (.t 15) (Jt10s p) .skip)) (oQ (oQ (Jt10t p) (.cond (.t 23) (Jt10u p) .skip)) (oQ (oR [oK 6 0]) .ret)))
abbrev Jt10q:IC:=(oQ (oR [oC 25 .eql 8 2,oA 24 25]) (.cond (.t 24) (Jt10n p) (Jt10o p)))
abbrev Jt10r:IC:=(oQ (oR [oC 10 .eql 8 1,oA 9 10]) (.cond (.t 9) (Jt10p p) (Jt10q p)))
def Jtjr:IC:=(oQ (oR [qo 3 (.box (.t 0)),oK 6 0]) (oQ (oQ (oR [oF 7 0 3,oL 8 7]) (.block 0 (Jt10r p))) (oQ (oR [oK 6 16]) .ret)))
abbrev Jtyc(p:Nums):IC:=oR [oM 3 0,oC 4 .geq 3 2,oM 5 4,oG 6 (.mov (.t 0)) 5 true,oG 7 (.bin .leq (.t 6) (ci 17)) 5 true,qo 8 (.pick (.t 5) (.t 7) (.c (.d (.bool false)))),oA 2 8]
def Jtji:IC:=(oQ (oR [qo 2 (.asg (.c (.d (.bool false))))]) (oQ (Jtyc p) .ret))
abbrev Jtye(p:Nums):IC:=oR [oM 3 0,oC 4 .geq 3 5,oM 5 4,oG 6 (.mov (.t 0)) 5 true,oG 7 (.bin .leq (.t 6) (ci 16)) 5 true,qo 8 (.pick (.t 5) (.t 7) (.c (.d (.bool false)))),oA 2 8]
def Jtjj:IC:=(oQ (oR [qo 2 (.asg (.c (.d (.bool false))))]) (oQ (Jtye p) .ret))
abbrev Jtyg(p:Nums):IC:=oR [oM 3 0,oC 4 .geq 3 1,oM 5 4,oG 6 (.mov (.t 0)) 5 true,oG 7 (.bin .leq (.t 6) (ci 16)) 5 true,qo 8 (.pick (.t 5) (.t 7) (.c (.d (.bool false)))),oA 2 8]
def Jtjk:IC:=(oQ (oR [qo 2 (.asg (.c (.d (.bool false))))]) (oQ (Jtyg p) .ret))
abbrev Jtoj(p:Nums):IC:=oR [qo 9 (.mo .mk),qo 10 (.mo .mk),oS 1 2 9,oS 1 3 10]
abbrev Jton(p:Nums):IC:=oR [oF 12 0 1,oL 13 12,oE 14 13,qo 15 (.mov (ci 0))]
abbrev Jtoo(p:Nums):IC:=oR [oI 17 5 13 15,oN 18 5 17,qo 6 (.alloc [(zi 0),(zi 0),(zi 0),(zi 0),(zi 0)]),oS 5 6 18]
abbrev Jtop:IC:=oR [oF 20 0 6,oL 21 20,qo 22 (.call p.Yfz [(.t 21)]),oM 19 22,oX 23 19 0,oX 24 19 1,qo 7 (.alloc [(.d (.bool false)),(.d (.bool false)),(.d (.bool false)),(.d (.bool false))]),oS 4 7 23,oA 8 24]
abbrev Jtoq(p:Nums):IC:=oR [oM 27 4,oF 28 2 6,oL 29 28,qo 30 (.callv (.t 27) [(.t 29)])]
abbrev Jtor(p:Nums):IC:=oR [oM 33 4,oF 34 3 6,oL 35 34,qo 36 (.callv (.t 33) [(.t 35)])]
abbrev Jtos(p:Nums):IC:=oR [oL 39 3,oF 40 1 6,oL 41 40,qn (.mo (.set (.t 39) (.t 41) (.c (.d (.bool true)))))]
abbrev Jtot:IC:=(oQ (Jtoo p) (oQ (Jtop p) (oQ (oQ (oR [oF 25 1 7,oL 26 25]) (.cond (.t 26) (Jtoq p) .skip)) (oQ (oQ (oR [oF 31 2 7,oL 32 31]) (.cond (.t 32) (Jtor p) .skip)) (oQ (oR [oF 37 0 7,oL 38 37]) (.cond (.t 38) (Jtos p) .skip))))))
abbrev Jtou:IC:=(oQ (oR [oB 16 .lss 15 14]) (oQ (.cond (.t 16) .skip (.exit 0)) (oQ (.block 1 (Jtot p)) (oR [oC 42 .add 15 1,oM 15 42]))))
abbrev Jtok(p:Nums):IC:=oR [oF 43 1 1,oF 44 0 43,oL 45 44,oC 46 .neq 45 1]
abbrev Jtol(p:Nums):IC:=oR [oM 47 4,oF 48 1 1,oF 49 1 48,oL 50 49,qo 51 (.callv (.t 47) [(.t 50)])]
abbrev Jtom(p:Nums):IC:=oR [pL 52 2,pL 53 3,qm (.storeq 1 (.t 2) (.t 52) [(3,1)]),oS 1 3 53]
def Jtij:IC:=(oQ (oR [qo 1 (.box (.t 0)),qo 2 (.alloc [.nilm]),qo 3 (.alloc [.nilm])]) (oQ (Jtoj p) (oQ (oR [qo 11 (.mkfn (.func p.Yfy) [] [(.t 3),(.t 2)]),oA 4 11]) (oQ (oQ (Jton p) (.block 0 (.loop (Jtou p)))) (oQ (oQ (Jtok p) (.cond (.t 46) (Jtol p) .skip)) (oQ (Jtom p) .ret))))))
abbrev Jtow(p:Nums):IC:=oR [oM 5 0,qo 6 (.mo (.len (.t 5))),qo 7 (.mkslice 1 8 [(.int .i64 0)] (ci 0) (.t 6)),oA 3 7]
abbrev Jtox(p:Nums):IC:=oR [qo 12 (.mo (.ent (.t 9))),oX 13 12 0,oA 4 13]
abbrev Jtoy(p:Nums):IC:=oR [oM 14 3,oM 15 4,qo 16 (.bslice 1 1 [(.int .i64 0)] [(0,(.t 15))]),qo 17 (.app 1 8 (.t 14) (.t 16)),oA 3 17]
abbrev Jtoz:IC:=(oQ (oR [qo 10 (.mo (.nxt (.t 9))),oX 11 10 0]) (oQ (.cond (.t 11) .skip (.exit 0)) (.block 1 (oQ (Jtox p) (Jtoy p)))))
def Jtil:IC:=(oQ (oR [qo 2 (.asg (.c .nils))]) (oQ (Jtow p) (oQ (oQ (oR [oM 8 0,qo 9 (.mo (.rng (.t 8)))]) (.block 0 (.loop (Jtoz p)))) (oQ (oR [oM 18 3,qo 19 (.call p.Yf10 [(.t 18)])]) (oQ (oR [oM 20 3,oA 2 20]) .ret)))))
abbrev Jtp1(p:Nums):IC:=oR [oF 10 2 1,oL 11 10,oE 12 11,qo 13 (.mo (.mks 1 8 [.nilm] (.t 12) (.t 12))),oA 3 13]
abbrev Jtpc(p:Nums):IC:=oR [oF 14 2 1,oL 15 14,oE 16 15,qo 17 (.mo (.mks 1 8 [.nilm] (.t 16) (.t 16))),oA 4 17]
abbrev Jtpd(p:Nums):IC:=oR [oF 18 2 1,oL 19 18,oE 20 19,qo 21 (.mov (ci 0))]
abbrev Jtpe(p:Nums):IC:=oR [oM 23 21,oI 24 5 19 21,oN 25 5 24,qo 6 (.alloc [.nils,(zi 0),(zi 0),(zi 0),(zi 0)]),oA 5 23,oS 5 6 25]
abbrev Jtpf:IC:=oR [oM 27 3,oM 28 5,oM 29 4,oM 30 5,oN 31 5 6,qo 32 (.call p.Yfq [(.t 31)]),oM 26 32,oX 33 26 0,oX 34 26 1,oI 35 1 27 28,oS 1 35 33,oI 36 1 29 30,oS 1 36 34]
abbrev Jtpg:IC:=(oQ (oR [oB 22 .lss 21 20]) (oQ (.cond (.t 22) .skip (.exit 0)) (oQ (.block 1 (oQ (Jtpe p) (Jtpf p))) (oR [oC 37 .add 21 1,oM 21 37]))))
abbrev Jtph(p:Nums):IC:=oR [oF 38 2 1,oL 39 38,oE 40 39,oC 41 .sub 40 1,oA 7 41]
abbrev Jtpi(p:Nums):IC:=oR [oM 46 3,oM 47 7,oI 48 1 46 47,oL 49 48,qo 50 (.mo (.len (.t 49))),oA 8 50]
abbrev Jtpj:IC:=oR [oM 51 3,oF 52 2 1,oL 53 52,oM 54 7,oI 55 5 53 54,oN 56 5 55,qo 57 (.call p.Yft [(.t 51),(.t 56)]),qo 58 (.mo (.rng (.t 57)))]
abbrev Jtp2(p:Nums):IC:=oR [qo 61 (.mo (.ent (.t 58))),oX 62 61 0,oA 9 62]
abbrev Jtp3(p:Nums):IC:=oR [oM 63 4,oM 64 7,oI 65 1 63 64,oL 66 65,oM 67 9,qo 68 (.mo (.get (.t 66) (.t 67))),qo 69 (.un .not (.t 68))]
abbrev Jtp4(p:Nums):IC:=oR [oM 70 3,oM 71 7,oI 72 1 70 71,oL 73 72,oM 74 9,qn (.mo (.set (.t 73) (.t 74) (.c (.d (.bool true)))))]
abbrev Jtp5:IC:=(oQ (Jtp2 p) (oQ (Jtp3 p) (.cond (.t 69) (Jtp4 p) .skip)))
abbrev Jtp6:IC:=(oQ (oR [qo 59 (.mo (.nxt (.t 58))),oX 60 59 0]) (oQ (.cond (.t 60) .skip (.exit 6)) (.block 7 (Jtp5 p))))
abbrev Jtp7(p:Nums):IC:=oR [oM 75 3,oM 76 7,oI 77 1 75 76,oL 78 77,qo 79 (.mo (.len (.t 78))),oM 80 8,oB 81 .gtr 79 80]
abbrev Jtp8:IC:=(oQ (Jtpi p) (oQ (oQ (Jtpj p) (.block 6 (.loop (Jtp6 p)))) (oQ (Jtp7 p) (.cond (.t 81) (.exit 3) .skip))))
abbrev Jtp9(p:Nums):IC:=oR [oM 44 7,oC 45 .sub 44 1,oA 7 45]
abbrev Jtpa:IC:=(oQ (oQ (oR [oM 42 7,oC 43 .geq 42 0]) (.cond (.t 43) .skip (.exit 4))) (oQ (.block 5 (Jtp8 p)) (Jtp9 p)))
abbrev Jtpb:IC:=(oQ (oQ (Jtph p) (.block 4 (.loop (Jtpa p)))) (oQ (oR [oM 82 3,oA 2 82]) .ret))
def Jtim:IC:=(oQ (oR [qo 1 (.box (.t 0)),qo 2 (.asg (.c .nils))]) (oQ (Jtp1 p) (oQ (Jtpc p) (oQ (oQ (Jtpd p) (.block 0 (.loop (Jtpg p)))) (oQ .skip (.block 2 (.loop (.block 3 (Jtpb p)))))))))
abbrev Jto7:IC:=oR [oF 10 1 3,oN 11 4 10,qo 12 (.call p.Yf11 [(.t 11)]),oE 13 12,qo 14 (.mov (ci 0))]
abbrev Jto8(p:Nums):IC:=oR [oI 16 1 12 14,oL 17 16,oA 7 17]
abbrev Jto9(p:Nums):IC:=oR [oM 18 0,oM 19 7,oI 20 1 18 19,oL 21 20,qo 22 (.mo (.rng (.t 21)))]
abbrev Jtoa(p:Nums):IC:=oR [qo 25 (.mo (.ent (.t 22))),oX 26 25 0,oA 8 26]
abbrev Jtob(p:Nums):IC:=oR [oM 27 5,oM 28 8,qn (.mo (.set (.t 27) (.t 28) (.c (.d (.bool true)))))]
abbrev Jtoc:IC:=(oQ (oR [qo 23 (.mo (.nxt (.t 22))),oX 24 23 0]) (oQ (.cond (.t 24) .skip (.exit 2)) (.block 3 (oQ (Jtoa p) (Jtob p)))))
abbrev Jtod:IC:=(oQ (Jto8 p) (oQ (Jto9 p) (.block 2 (.loop (Jtoc p)))))
abbrev Jtoe:IC:=(oQ (oR [oB 15 .lss 14 13]) (oQ (.cond (.t 15) .skip (.exit 0)) (oQ (.block 1 (Jtod p)) (oR [oC 29 .add 14 1,oM 14 29]))))
def Jtii:IC:=(oQ (oR [qo 3 (.box (.t 1)),qo 4 (.asg (.c .nilm))]) (oQ (oR [qo 9 (.mo .mk),oA 5 9]) (oQ (oQ (Jto7 p) (.block 0 (.loop (Jtoe p)))) (oQ (oR [oM 30 5,oA 4 30]) .ret))))
abbrev Jtx2(p:Nums):IC:=oR [oM 8 0,oE 9 8,qo 10 (.mkslice 2 16 [(.int .i64 0),(.int .i64 0)] (ci 0) (.t 9)),qo 5 (.take (.t 10))]
abbrev Jtx3(p:Nums):IC:=oR [oM 11 0,oE 12 11,qo 13 (.mov (ci 0))]
abbrev Jtx4(p:Nums):IC:=oR [oI 15 2 11 13,oN 16 2 15,qo 7 (.alloc [(zi 0),(zi 0)]),oS 2 7 16]
abbrev Jtx5(p:Nums):IC:=oR [oM 17 1,oN 18 2 7,qo 19 (.callv (.t 17) [(.t 18)])]
abbrev Jtx6(p:Nums):IC:=oR [oM 20 5,oN 21 2 7,qo 22 (.bslice 2 1 [(.int .i64 0),(.int .i64 0)] [(0,(.t 21))]),qo 23 (.app 2 16 (.t 20) (.t 22)),qo 5 (.take (.t 23))]
abbrev Jtx7:IC:=(oQ (Jtx4 p) (oQ (Jtx5 p) (.cond (.t 19) (Jtx6 p) .skip)))
abbrev Jtx8:IC:=(oQ (oR [oB 14 .lss 13 12]) (oQ (.cond (.t 14) .skip (.exit 0)) (oQ (.block 1 (Jtx7 p)) (oR [oC 24 .add 13 1,oM 13 24]))))
def Jtjg:IC:=(oQ (oR [qo 4 (.asg (.c .nils))]) (oQ (Jtx2 p) (oQ (oQ (Jtx3 p) (.block 0 (.loop (Jtx8 p)))) (oQ (oR [oM 25 5,qo 4 (.take (.t 25))]) .ret))))
abbrev Jtvw(p:Nums):IC:=oR [oF 4 0 2,oL 5 4,oL 6 1,oB 7 .neq 5 6,oA 3 7]
def Jtja:IC:=(oQ (oR [qo 2 (.box (.t 0)),qo 3 (.asg (.c (.d (.bool false))))]) (oQ (Jtvw p) .ret))
abbrev Jtvr(p:Nums):IC:=oR [oF 4 1 2,oL 5 4,oL 6 1,oB 7 .neq 5 6,oA 3 7]
def Jtj8:IC:=(oQ (oR [qo 2 (.box (.t 0)),qo 3 (.asg (.c (.d (.bool false))))]) (oQ (Jtvr p) .ret))
abbrev Jt111(p:Nums):IC:=oR [oM 5 0,oC 6 .geq 5 0,oM 7 6,oG 8 (.mov (.t 0)) 7 true,oG 9 (.mov (.t 1)) 7 true,oG 10 (.bin .lss (.t 8) (.t 9)) 7 true,qo 11 (.pick (.t 7) (.t 10) (.c (.d (.bool false)))),oA 4 11]
def Jtjs:IC:=(oQ (oR [qo 4 (.asg (.c (.d (.bool false))))]) (oQ (Jt111 p) .ret))
abbrev Jtog(p:Nums):IC:=oR [oL 4 1,oM 5 0,qo 6 (.mo (.get (.t 4) (.t 5))),qo 7 (.un .not (.t 6))]
abbrev Jtoh(p:Nums):IC:=oR [oL 8 2,oM 9 0,qn (.mo (.set (.t 8) (.t 9) (.c (.d (.bool true)))))]
def Jtik:IC:=(oQ (Jtog p) (.cond (.t 7) (Jtoh p) .skip))
abbrev Jtup(p:Nums):IC:=oR [qo 2 (.alloc [(.d (.bool false)),(.d (.bool false)),(.d (.bool false)),(.d (.bool false))]),qo 3 (.asg (.c (.d (.bool false))))]
abbrev Jtuv:IC:=oR [oM 5 0,qo 6 (.call p.Yf12 [(.t 5)]),qo 7 (.un .not (.t 6)),oA 4 7]
abbrev Jtuw(p:Nums):IC:=oR [qo 8 (.build [(.d (.bool false)),(.d (.bool false)),(.d (.bool false)),(.d (.bool false))] []),oS 4 2 8,qo 3 (.asg (.c (.d (.bool false))))]
abbrev Jtux(p:Nums):IC:=oR [oM 10 0,oC 11 .eql 10 1,oA 9 11]
abbrev Jtuy(p:Nums):IC:=oR [qo 12 (.build [(.d (.bool false)),(.d (.bool false)),(.d (.bool false)),(.d (.bool false))] [(0,1,(.c (.d (.bool true)))),(3,1,(.c (.d (.bool true))))]),oS 4 2 12,qo 3 (.asg (.c (.d (.bool true))))]
abbrev Jtuz(p:Nums):IC:=oR [oM 14 0,oC 15 .leq 14 4,oA 13 15]
abbrev Jtv0(p:Nums):IC:=oR [qo 16 (.build [(.d (.bool false)),(.d (.bool false)),(.d (.bool false)),(.d (.bool false))] [(0,1,(.c (.d (.bool true)))),(1,1,(.c (.d (.bool true))))]),oS 4 2 16,qo 3 (.asg (.c (.d (.bool true))))]
abbrev Jtv1(p:Nums):IC:=oR [oM 18 0,oC 19 .leq 18 16,oA 17 19]
abbrev Jtv2(p:Nums):IC:=oR [qo 20 (.build [(.d (.bool false)),(.d (.bool false)),(.d (.bool false)),(.d (.bool false))] [(0,1,(.c (.d (.bool true)))),(1,1,(.c (.d (.bool true)))),(2,1,(.c (.d (.bool true))))]),oS 4 2 20,qo 3 (.asg (.c (.d (.bool true))))]
abbrev Jtuq:IC:=(oQ (Jtv1 p) (.cond (.t 17) (oQ (Jtv2 p) .ret) .skip))
abbrev Jtur:IC:=(oQ (Jtuz p) (.cond (.t 13) (oQ (Jtv0 p) .ret) (Jtuq p)))
abbrev Jtus:IC:=(oQ (Jtux p) (.cond (.t 9) (oQ (Jtuy p) .ret) (Jtur p)))
abbrev Jtut:IC:=(oQ (Jtuv p) (.cond (.t 4) (oQ (Jtuw p) .ret) (Jtus p)))
abbrev Jtuu(p:Nums):IC:=oR [oM 21 0,oC 22 .eql 21 17,qo 23 (.build [(.d (.bool false)),(.d (.bool false)),(.d (.bool false)),(.d (.bool false))] [(1,1,(.t 22))]),oS 4 2 23,qo 3 (.asg (.c (.d (.bool true))))]
def Jtj3:IC:=(oQ (Jtup p) (oQ (.block 0 (Jtut p)) (oQ (Jtuu p) .ret)))
abbrev Jt1bk(p:Nums):IC:=oR [oF 7 2 1,oL 8 7,qo 9 (.bslice 1 1 [(.int .i64 0)] [(0,(.t 8))]),oA 2 9]
abbrev Jt1bl(p:Nums):IC:=oR [oF 12 2 1,oL 13 12,oF 14 3 1,oL 15 14,qo 16 (.bslice 1 2 [(.int .i64 0)] [(0,(.t 13)),(1,(.t 15))]),oA 2 16]
abbrev Jt1bm:IC:=(oQ (oR [oC 11 .eql 4 2,oA 10 11]) (.cond (.t 10) (oQ (Jt1bl p) .ret) .skip))
abbrev Jt1bn:IC:=(oQ (oR [oC 6 .eql 4 1,oA 5 6]) (.cond (.t 5) (oQ (Jt1bk p) .ret) (Jt1bm p)))
def Jtkk:IC:=(oQ (oR [qo 1 (.box (.t 0)),qo 2 (.asg (.c .nils))]) (oQ (oQ (oR [oF 3 0 1,oL 4 3]) (.block 0 (Jt1bn p))) (oQ (oR [qo 2 (.asg (.c .nils))]) .ret)))
abbrev Jtv6(p:Nums):IC:=oR [oM 3 0,oC 4 .geq 3 1,oM 5 4,oG 6 (.mov (.t 0)) 5 true,oG 7 (.bin .leq (.t 6) (ci 18)) 5 true,qo 8 (.pick (.t 5) (.t 7) (.c (.d (.bool false)))),oA 2 8]
def Jtj5:IC:=(oQ (oR [qo 2 (.asg (.c (.d (.bool false))))]) (oQ (Jtv6 p) .ret))
abbrev Jt13t(p:Nums):IC:=oR [qo 1 (.box (.t 0)),qo 2 (.alloc [(zi 0),(zi 0),.nils,(zi 0),(zi 0),(zi 0),.nils,.nils]),oK 3 0]
abbrev Jt144:IC:=oR [oN 11 3 1,qo 12 (.call p.Yfa [(.t 11)]),oA 4 12]
abbrev Jt148(p:Nums):IC:=oR [qo 15 (.build [(zi 0),(zi 0),.nils,(zi 0),(zi 0),(zi 0),.nils,.nils] []),oM 16 4,oS 8 2 15,oA 3 16]
abbrev Jt149(p:Nums):IC:=oR [oF 17 2 1,oL 18 17,oE 19 18,oF 20 1 1,oL 21 20,oB 22 .mul 19 21,oC 23 .gtr 22 1048576]
abbrev Jt14a(p:Nums):IC:=oR [qo 24 (.build [(zi 0),(zi 0),.nils,(zi 0),(zi 0),(zi 0),.nils,.nils] []),oS 8 2 24,oK 3 6]
abbrev Jt14b:IC:=oR [pN 25 3 1,qp 26 (.call p.Yfc [(.t 25)]),pF 27 0 1,pL 28 27,pF 29 1 1,pL 30 29,qp 31 (.build [(zi 0),(zi 0),(zi 0),.nils] [(0,1,(.t 28)),(1,1,(ci 2)),(2,1,(.t 30))]),qp 32 (.build [(zi 0),(zi 0),.nils,(zi 0),(zi 0),(zi 0),.nils,.nils] [(0,3,(.t 26)),(3,4,(.t 31))]),qp 5 (.alloc [(zi 0),(zi 0),.nils,(zi 0),(zi 0),(zi 0),.nils,.nils]),oS 8 5 32]
abbrev Jt14c(p:Nums):IC:=oR [oM 33 7,oF 34 2 1,oL 35 34,oE 36 35,oB 37 .lss 33 36]
abbrev Jt14d:IC:=oR [oF 40 2 1,oL 41 40,oM 42 7,oI 43 5 41 42,oN 44 5 43,qo 45 (.call p.Yf17 [(.t 44)]),qo 8 (.alloc [.nils,(zi 0),(zi 0),(zi 0),(zi 0)]),oS 5 8 45]
abbrev Jt14e(p:Nums):IC:=oR [oF 46 3 5,oF 47 3 46,oL 48 47,oN 49 5 8,qo 50 (.bslice 5 1 [(.sl []),(.int .i64 0),(.int .i64 0),(.int .i64 0),(.int .i64 0)] [(0,(.t 49))]),qo 51 (.app 5 56 (.t 48) (.t 50)),oF 52 3 5,oF 53 3 52,oS 1 53 51]
abbrev Jt13u:IC:=oR [oM 54 6,oF 55 0 8,oL 56 55,qo 57 (.call p.Yf18 [(.t 56)]),qo 58 (.mx (.t 54) (.t 57)),oA 6 58]
abbrev Jt13v(p:Nums):IC:=oR [oM 59 10,oF 60 1 1,oL 61 60,oB 62 .lss 59 61]
abbrev Jt13w(p:Nums):IC:=oR [oM 65 9,oM 66 10,oM 67 10,qo 68 (.bin .mul (ci 2) (.t 67)),oC 69 .add 68 1,qo 70 (.build [(zi 0),(zi 0)] [(0,1,(.t 66)),(1,1,(.t 69))]),qo 71 (.bslice 2 1 [(.int .i64 0),(.int .i64 0)] [(0,(.t 70))]),qo 72 (.app 2 16 (.t 65) (.t 71)),oA 9 72]
abbrev Jt13x(p:Nums):IC:=oR [oM 63 10,oC 64 .add 63 1,oA 10 64]
abbrev Jt13y:IC:=(oQ (oQ (Jt13v p) (.cond (.t 62) .skip (.exit 2))) (oQ (.block 3 (Jt13w p)) (Jt13x p)))
abbrev Jt13z(p:Nums):IC:=oR [oF 73 7 5,oL 74 73,oM 75 9,qo 76 (.bslice 1 1 [(.sl [])] [(0,(.t 75))]),qo 77 (.app 1 24 (.t 74) (.t 76)),oF 78 7 5,oS 1 78 77]
abbrev Jt140:IC:=(oQ (Jt14d p) (oQ (Jt14e p) (oQ (Jt13u p) (oQ (oR [qo 9 (.asg (.c .nils))]) (oQ (oQ (oR [oK 10 0]) (.block 2 (.loop (Jt13y p)))) (Jt13z p))))))
abbrev Jt141(p:Nums):IC:=oR [oM 38 7,oC 39 .add 38 1,oA 7 39]
abbrev Jt142:IC:=(oQ (oQ (Jt14c p) (.cond (.t 37) .skip (.exit 0))) (oQ (.block 1 (Jt140 p)) (Jt141 p)))
abbrev Jt143:IC:=oR [oF 79 3 5,oN 80 4 79,qo 81 (.call p.Yf19 [(.t 80)]),oC 82 .gtr 81 1048576]
abbrev Jt145(p:Nums):IC:=oR [qo 83 (.build [(zi 0),(zi 0),.nils,(zi 0),(zi 0),(zi 0),.nils,.nils] []),oS 8 2 83,oK 3 6]
abbrev Jt146(p:Nums):IC:=oR [qo 86 (.build [(zi 0),(zi 0),.nils,(zi 0),(zi 0),(zi 0),.nils,.nils] []),oS 8 2 86,oK 3 15]
abbrev Jt147(p:Nums):IC:=oR [oN 87 8 5,oS 8 2 87,oK 3 0]
def Jtk3:IC:=(oQ (Jt13t p) (oQ (Jt144 p) (oQ (oQ (oR [oM 13 4,oC 14 .neq 13 0]) (.cond (.t 14) (oQ (Jt148 p) .ret) .skip)) (oQ (oQ (Jt149 p) (.cond (.t 23) (oQ (Jt14a p) .ret) .skip)) (oQ (Jt14b p) (oQ (oR [oK 6 0]) (oQ (oQ (oR [oK 7 0]) (.block 0 (.loop (Jt142 p)))) (oQ (oQ (Jt143 p) (.cond (.t 82) (oQ (Jt145 p) .ret) .skip)) (oQ (oQ (oR [oM 84 6,oC 85 .gtr 84 64]) (.cond (.t 85) (oQ (Jt146 p) .ret) .skip)) (oQ (Jt147 p) .ret))))))))))
abbrev Jt102(p:Nums):IC:=oR [qo 2 (.box (.t 0)),qo 3 (.box (.t 1)),qo 4 (.asg (.c (.d (.bool false))))]
abbrev Jt109(p:Nums):IC:=oR [oF 7 0 2,oL 8 7,oF 9 0 3,oL 10 9,oB 11 .neq 8 10,oM 12 11,oG 13 (.faddr 1 (.t 2)) 12 false,oG 14 (.load none (.t 13)) 12 false,oG 15 (.faddr 1 (.t 3)) 12 false,oG 16 (.load none (.t 15)) 12 false,oG 17 (.bin .neq (.t 14) (.t 16)) 12 false,qo 18 (.pick (.t 12) (.c (.d (.bool true))) (.t 17)),oM 19 18,oG 20 (.faddr 2 (.t 2)) 19 false,oG 21 (.load none (.t 20)) 19 false,oG 22 (.len (.t 21)) 19 false,oG 23 (.faddr 2 (.t 3)) 19 false,oG 24 (.load none (.t 23)) 19 false,oG 25 (.len (.t 24)) 19 false,oG 26 (.bin .neq (.t 22) (.t 25)) 19 false,qo 27 (.pick (.t 19) (.c (.d (.bool true))) (.t 26))]
abbrev Jt10a(p:Nums):IC:=(oQ (oR [qo 4 (.asg (.c (.d (.bool false))))]) .ret)
abbrev Jt10b(p:Nums):IC:=oR [oM 28 5,oF 29 2 2,oL 30 29,oE 31 30,oB 32 .lss 28 31]
abbrev Jt10c(p:Nums):IC:=oR [pF 35 2 2,pL 36 35,pM 37 5,pI 38 5 36 37,pF 39 1 38,pN 40 4 39,pF 41 2 3,pL 42 41,pM 43 5,pI 44 5 42 43,pF 45 1 44,pN 46 4 45,qo 47 (.eqs true [.int,.int,.int,.int] (.t 40) (.t 46)),oM 48 47,oH 49 (.faddr 2 (.t 2)) 48 false,oH 50 (.load none (.t 49)) 48 false,oH 51 (.mov (.t 5)) 48 false,oH 52 (.iaddr 5 (.t 50) (.t 51)) 48 false,oH 53 (.faddr 0 (.t 52)) 48 false,oH 54 (.load none (.t 53)) 48 false,oH 55 (.len (.t 54)) 48 false,oH 56 (.faddr 2 (.t 3)) 48 false,oH 57 (.load none (.t 56)) 48 false,oH 58 (.mov (.t 5)) 48 false,oH 59 (.iaddr 5 (.t 57) (.t 58)) 48 false,oH 60 (.faddr 0 (.t 59)) 48 false,oH 61 (.load none (.t 60)) 48 false,oH 62 (.len (.t 61)) 48 false,oG 63 (.bin .neq (.t 55) (.t 62)) 48 false,qo 64 (.pick (.t 48) (.c (.d (.bool true))) (.t 63))]
abbrev Jt10d(p:Nums):IC:=(oQ (oR [qo 4 (.asg (.c (.d (.bool false))))]) .ret)
abbrev Jt10e(p:Nums):IC:=oR [oM 65 6,oF 66 2 2,oL 67 66,oM 68 5,oI 69 5 67 68,oF 70 0 69,oL 71 70,oE 72 71,oB 73 .lss 65 72]
abbrev Jt10f(p:Nums):IC:=oR [pF 76 2 2,pL 77 76,pM 78 5,pI 79 5 77 78,pF 80 0 79,pL 81 80,pM 82 6,pI 83 5 81 82,pN 84 5 83,pF 85 2 3,pL 86 85,pM 87 5,pI 88 5 86 87,pF 89 0 88,pL 90 89,pM 91 6,pI 92 5 90 91,pN 93 5 92,qo 94 (.eqs true [.int,.int,.int,.int,.int] (.t 84) (.t 93))]
abbrev Jt10g(p:Nums):IC:=(oQ (oR [qo 4 (.asg (.c (.d (.bool false))))]) .ret)
abbrev Jt103:IC:=(oQ (Jt10f p) (.cond (.t 94) (Jt10g p) .skip))
abbrev Jt104(p:Nums):IC:=oR [oM 74 6,oC 75 .add 74 1,oA 6 75]
abbrev Jt105:IC:=(oQ (oQ (Jt10e p) (.cond (.t 73) .skip (.exit 2))) (oQ (.block 3 (Jt103 p)) (Jt104 p)))
abbrev Jt106:IC:=(oQ (oQ (Jt10c p) (.cond (.t 64) (Jt10d p) .skip)) (oQ (oR [oK 6 0]) (.block 2 (.loop (Jt105 p)))))
abbrev Jt107(p:Nums):IC:=oR [oM 33 5,oC 34 .add 33 1,oA 5 34]
abbrev Jt108:IC:=(oQ (oQ (Jt10b p) (.cond (.t 32) .skip (.exit 0))) (oQ (.block 1 (Jt106 p)) (Jt107 p)))
def Jtjq:IC:=(oQ (Jt102 p) (oQ (oQ (Jt109 p) (.cond (.t 27) (Jt10a p) .skip)) (oQ (oQ (oR [oK 5 0]) (.block 0 (.loop (Jt108 p)))) (oQ (oR [qo 4 (.asg (.c (.d (.bool true))))]) .ret))))
abbrev Jt1ak(p:Nums):IC:=oR [oF 7 0 1,oL 8 7,oC 9 .lss 8 0,oM 10 9,oG 11 (.faddr 0 (.t 1)) 10 false,oG 12 (.load none (.t 11)) 10 false,oG 13 (.faddr 1 (.t 1)) 10 false,oG 14 (.load none (.t 13)) 10 false,oG 15 (.bin .gtr (.t 12) (.t 14)) 10 false,qo 16 (.pick (.t 10) (.c (.d (.bool true))) (.t 15)),oA 6 16]
abbrev Jt1au(p:Nums):IC:=oR [oF 18 1 1,oL 19 18,oC 20 .gtr 19 1048576,oA 17 20]
abbrev Jt1av(p:Nums):IC:=oR [oF 22 2 1,oL 23 22,oE 24 23,oC 25 .eql 24 0,oA 21 25]
abbrev Jt1aw:IC:=oR [oF 27 2 1,oL 28 27,oE 29 28,oC 30 .gtr 29 1048576,oM 31 30,oG 32 (.load (some 3) (.t 1)) 31 false,oG 33 (.call p.Yf1b [(.t 32)]) 31 false,oG 34 (.bin .gtr (.t 33) (ci 1048576)) 31 false,qo 35 (.pick (.t 31) (.c (.d (.bool true))) (.t 34)),oA 26 35]
abbrev Jt1ax(p:Nums):IC:=(oQ (oR [oK 2 6]) .ret)
abbrev Jt1ay(p:Nums):IC:=(oQ (oR [oK 2 14]) .ret)
abbrev Jt1az:IC:=(oQ (Jt1aw p) (.cond (.t 26) (Jt1ax p) .skip))
abbrev Jt1b0(p:Nums):IC:=(oQ (oR [oK 2 6]) .ret)
abbrev Jt1b1:IC:=(oQ (Jt1av p) (.cond (.t 21) (Jt1ay p) (Jt1az p)))
abbrev Jt1al(p:Nums):IC:=(oQ (oR [oK 2 9]) .ret)
abbrev Jt1am:IC:=(oQ (Jt1au p) (.cond (.t 17) (Jt1b0 p) (Jt1b1 p)))
abbrev Jt1an:IC:=(oQ (Jt1ak p) (.cond (.t 6) (Jt1al p) (Jt1am p)))
abbrev Jt1ao(p:Nums):IC:=oR [oF 36 2 1,oL 37 36,oE 38 37,qo 39 (.mov (ci 0))]
abbrev Jt1ap(p:Nums):IC:=oR [oI 41 5 37 39,oN 42 5 41,qo 4 (.alloc [.nils,(zi 0),(zi 0),(zi 0),(zi 0)]),oS 5 4 42]
abbrev Jt1aq:IC:=oR [oN 43 5 4,oF 44 1 1,oL 45 44,oF 46 2 1,oL 47 46,oE 48 47,qo 49 (.call p.Yf1c [(.t 43),(.t 45),(.t 48)]),oA 5 49]
abbrev Jt1ar(p:Nums):IC:=(oQ (oR [oM 52 5,oA 2 52]) .ret)
abbrev Jt1as:IC:=(oQ (Jt1ap p) (oQ (Jt1aq p) (oQ (oR [oM 50 5,oC 51 .neq 50 0]) (.cond (.t 51) (Jt1ar p) .skip))))
abbrev Jt1at:IC:=(oQ (oR [oB 40 .lss 39 38]) (oQ (.cond (.t 40) .skip (.exit 1)) (oQ (.block 2 (Jt1as p)) (oR [oC 53 .add 39 1,oM 39 53]))))
def Jtkh:IC:=(oQ (oR [qo 1 (.box (.t 0)),oK 2 0]) (oQ (.block 0 (Jt1an p)) (oQ (oQ (Jt1ao p) (.block 1 (.loop (Jt1at p)))) (oQ (oR [oK 2 0]) .ret))))
abbrev Jt189(p:Nums):IC:=(oQ (oR [qo 2 (.asg (.c .nils))]) .ret)
abbrev Jt18a(p:Nums):IC:=oR [qo 5 (.bslice 5 0 [(.int .i64 0),(.int .i64 0),(.int .i64 0),(.int .i64 0),(.int .i64 0)] []),oM 6 0,qo 7 (.app 5 40 (.t 5) (.t 6)),oA 2 7]
def Jtk8:IC:=(oQ (oR [qo 2 (.asg (.c .nils))]) (oQ (oQ (oR [oM 3 0,qo 4 (.isnil false (.t 3))]) (.cond (.t 4) (Jt189 p) .skip)) (oQ (Jt18a p) .ret)))
abbrev Jt137(p:Nums):IC:=oR [qo 1 (.box (.t 0)),qo 2 (.alloc [.nils,(zi 0),(zi 0),(zi 0),(zi 0)])]
abbrev Jt13i(p:Nums):IC:=oR [oM 8 4,oF 9 0 1,oL 10 9,oE 11 10,oB 12 .lss 8 11]
abbrev Jt13l(p:Nums):IC:=oR [oF 15 0 1,oL 16 15,oM 17 4,oI 18 5 16 17,oN 19 5 18,qo 5 (.alloc [(zi 0),(zi 0),(zi 0),(zi 0),(zi 0)]),oS 5 5 19]
abbrev Jt13m(p:Nums):IC:=oR [oF 20 0 5,oL 21 20,oC 22 .eql 21 2]
abbrev Jt13n:IC:=oR [pM 23 3,pF 24 2 5,pL 25 24,qp 26 (.bin .mul (ci 2) (.t 25)),pC 27 .add 26 1,qp 28 (.call p.Yf1e [(ci 0),(.t 27)]),pF 29 1 5,pL 30 29,qp 31 (.bin .mul (ci 2) (.t 30)),pC 32 .add 31 1,qp 33 (.call p.Yf1e [(.t 32),(ci 0)]),qp 34 (.bslice 7 2 [(.int .i64 0),(.int .i64 0),(.int .i64 0),(.int .i64 0),(.int .i64 0),(.int .i64 0),(.int .i64 0)] [(0,(.t 28)),(1,(.t 33))]),qo 35 (.app 7 56 (.t 23) (.t 34)),oA 3 35]
abbrev Jt13o(p:Nums):IC:=oR [oF 36 0 5,oL 37 36,oF 38 4 5,oL 39 38,qo 40 (.build [(zi 0),(zi 0),(zi 0),(zi 0),(zi 0),(zi 0),(zi 0)] [(0,1,(.t 37)),(4,1,(.t 39))]),qo 6 (.alloc [(zi 0),(zi 0),(zi 0),(zi 0),(zi 0),(zi 0),(zi 0)]),oS 7 6 40]
abbrev Jt13p:IC:=oR [oF 41 0 5,oL 42 41,qo 43 (.call p.Yfn [(.t 42)])]
abbrev Jt13q:IC:=oR [oM 44 3,oF 45 2 5,oL 46 45,qo 47 (.bin .mul (ci 2) (.t 46)),oC 48 .add 47 1,qo 49 (.call p.Yf1e [(ci 0),(.t 48)]),qo 50 (.bslice 7 1 [(.int .i64 0),(.int .i64 0),(.int .i64 0),(.int .i64 0),(.int .i64 0),(.int .i64 0),(.int .i64 0)] [(0,(.t 49))]),qo 51 (.app 7 56 (.t 44) (.t 50)),oA 3 51]
abbrev Jt13r:IC:=oR [oF 52 0 5,oL 53 52,qo 54 (.call p.Yfo [(.t 53)])]
abbrev Jt138:IC:=oR [oM 55 3,oF 56 3 5,oL 57 56,qo 58 (.bin .mul (ci 2) (.t 57)),oC 59 .add 58 1,qo 60 (.call p.Yf1e [(ci 2),(.t 59)]),qo 61 (.bslice 7 1 [(.int .i64 0),(.int .i64 0),(.int .i64 0),(.int .i64 0),(.int .i64 0),(.int .i64 0),(.int .i64 0)] [(0,(.t 60))]),qo 62 (.app 7 56 (.t 55) (.t 61)),oA 3 62]
abbrev Jt139:IC:=(oQ (Jt138 p) (oR [oF 63 3 6,qn (.store 1 (.t 63) (ci 1))]))
abbrev Jt13a(p:Nums):IC:=oR [oM 64 3,oN 65 7 6,qo 66 (.bslice 7 1 [(.int .i64 0),(.int .i64 0),(.int .i64 0),(.int .i64 0),(.int .i64 0),(.int .i64 0),(.int .i64 0)] [(0,(.t 65))]),qo 67 (.app 7 56 (.t 64) (.t 66)),oA 3 67]
abbrev Jt13b:IC:=oR [oF 68 0 5,oL 69 68,qo 70 (.call p.Yfp [(.t 69)])]
abbrev Jt13c:IC:=oR [oM 71 3,oF 72 1 5,oL 73 72,qo 74 (.bin .mul (ci 2) (.t 73)),oC 75 .add 74 1,qo 76 (.call p.Yf1e [(.t 75),(ci 0)]),qo 77 (.bslice 7 1 [(.int .i64 0),(.int .i64 0),(.int .i64 0),(.int .i64 0),(.int .i64 0),(.int .i64 0),(.int .i64 0)] [(0,(.t 76))]),qo 78 (.app 7 56 (.t 71) (.t 77)),oA 3 78]
abbrev Jt13d:IC:=(oQ (Jt13l p) (oQ (oQ (Jt13m p) (.cond (.t 22) (oQ (Jt13n p) (.exit 1)) .skip)) (oQ (Jt13o p) (oQ (oQ (Jt13p p) (.cond (.t 43) (Jt13q p) .skip)) (oQ (oQ (Jt13r p) (.cond (.t 54) (Jt139 p) .skip)) (oQ (Jt13a p) (oQ (Jt13b p) (.cond (.t 70) (Jt13c p) .skip))))))))
abbrev Jt13e(p:Nums):IC:=oR [oM 13 4,oC 14 .add 13 1,oA 4 14]
abbrev Jt13f:IC:=(oQ (oQ (Jt13i p) (.cond (.t 12) .skip (.exit 0))) (oQ (.block 1 (Jt13d p)) (Jt13e p)))
abbrev Jt13g(p:Nums):IC:=oR [oF 79 1 1,oN 80 4 79,qo 7 (.alloc [(zi 0),(zi 0),(zi 0),(zi 0)]),oS 4 7 80]
abbrev Jt13h(p:Nums):IC:=oR [oF 81 0 7,oL 82 81,oC 83 .neq 82 1]
abbrev Jt13j:IC:=oR [oM 84 3,oF 85 1 7,oL 86 85,qo 87 (.bin .mul (ci 2) (.t 86)),oC 88 .add 87 1,qo 89 (.call p.Yf1e [(ci 0),(.t 88)]),qo 90 (.bslice 7 1 [(.int .i64 0),(.int .i64 0),(.int .i64 0),(.int .i64 0),(.int .i64 0),(.int .i64 0),(.int .i64 0)] [(0,(.t 89))]),qo 91 (.app 7 56 (.t 84) (.t 90)),oA 3 91]
abbrev Jt13k(p:Nums):IC:=oR [oM 93 3,oN 94 4 7,qo 95 (.build [.nils,(zi 0),(zi 0),(zi 0),(zi 0)] [(0,1,(.t 93)),(1,4,(.t 94))]),oS 5 2 95]
def Jtk2:IC:=(oQ (Jt137 p) (oQ (oR [qo 3 (.asg (.c .nils))]) (oQ (oQ (oR [oK 4 0]) (.block 0 (.loop (Jt13f p)))) (oQ (Jt13g p) (oQ (oQ (Jt13h p) (.cond (.t 83) (Jt13j p) .skip)) (oQ (oR [oF 92 1 7,qn (.store 1 (.t 92) (ci 0))]) (oQ (Jt13k p) .ret)))))))
abbrev Jt11i(p:Nums):IC:=oR [oM 6 4,oM 7 0,oE 8 7,oB 9 .lss 6 8]
abbrev Jt11j(p:Nums):IC:=oR [oM 12 4,oM 13 5,oB 14 .add 12 13,oM 15 0,oE 16 15,oB 17 .lss 14 16,oM 18 17,oG 19 (.mov (.t 0)) 18 true,oG 20 (.mov (.t 4)) 18 true,oG 21 (.mov (.t 5)) 18 true,oG 22 (.bin .add (.t 20) (.t 21)) 18 true,oG 23 (.iaddr 7 (.t 19) (.t 22)) 18 true,oG 24 (.faddr 0 (.t 23)) 18 true,oG 25 (.load none (.t 24)) 18 true,oG 26 (.bin .eql (.t 25) (ci 18)) 18 true,qo 27 (.pick (.t 18) (.t 26) (.c (.d (.bool false))))]
abbrev Jt11k(p:Nums):IC:=oR [oM 28 5,oC 29 .add 28 1,oA 5 29]
abbrev Jt11l:IC:=(oQ (oQ (Jt11j p) (.cond (.t 27) .skip (.exit 2))) (.block 3 (Jt11k p)))
abbrev Jt11m(p:Nums):IC:=oR [oM 30 5,oM 31 3,oB 32 .gtr 30 31]
abbrev Jt11n(p:Nums):IC:=oR [oM 33 5,oA 3 33]
abbrev Jt11o:IC:=(oQ (oR [oK 5 0]) (oQ (.block 2 (.loop (Jt11l p))) (oQ (Jt11m p) (.cond (.t 32) (Jt11n p) .skip))))
abbrev Jt11p(p:Nums):IC:=oR [oM 10 4,oC 11 .add 10 1,oA 4 11]
abbrev Jt11q:IC:=(oQ (oQ (Jt11i p) (.cond (.t 9) .skip (.exit 0))) (oQ (.block 1 (Jt11o p)) (Jt11p p)))
def Jtjv:IC:=(oQ (oR [oK 2 0]) (oQ (oR [oK 3 0]) (oQ (oQ (oR [oK 4 0]) (.block 0 (.loop (Jt11q p)))) (oQ (oR [oM 34 3,oA 2 34]) .ret))))
abbrev Jt113(p:Nums):IC:=oR [oM 5 4,oF 6 3 1,oL 7 6,oE 8 7,oB 9 .lss 5 8]
abbrev Jt114(p:Nums):IC:=oR [oM 12 3,oF 13 3 1,oL 14 13,oM 15 4,oI 16 5 14 15,oF 17 0 16,oL 18 17,oE 19 18,oB 20 .add 12 19,oA 3 20]
abbrev Jt115(p:Nums):IC:=oR [oM 10 4,oC 11 .add 10 1,oA 4 11]
abbrev Jt116:IC:=(oQ (oQ (Jt113 p) (.cond (.t 9) .skip (.exit 0))) (oQ (.block 1 (Jt114 p)) (Jt115 p)))
def Jtjt:IC:=(oQ (oR [qo 1 (.box (.t 0)),oK 2 0]) (oQ (oR [oK 3 0]) (oQ (oQ (oR [oK 4 0]) (.block 0 (.loop (Jt116 p)))) (oQ (oR [oM 21 3,oA 2 21]) .ret))))
abbrev Jt11s(p:Nums):IC:=oR [qo 2 (.box (.t 0)),qo 3 (.box (.t 1)),qo 4 (.asg (.c (.d (.bool false))))]
abbrev Jt11z(p:Nums):IC:=oR [oF 7 0 2,oL 8 7,oF 9 0 3,oL 10 9,oB 11 .neq 8 10,oM 12 11,oG 13 (.faddr 1 (.t 2)) 12 false,oG 14 (.load none (.t 13)) 12 false,oG 15 (.faddr 1 (.t 3)) 12 false,oG 16 (.load none (.t 15)) 12 false,oG 17 (.bin .neq (.t 14) (.t 16)) 12 false,qo 18 (.pick (.t 12) (.c (.d (.bool true))) (.t 17)),oM 19 18,oG 20 (.faddr 2 (.t 2)) 19 false,oG 21 (.load none (.t 20)) 19 false,oG 22 (.faddr 2 (.t 3)) 19 false,oG 23 (.load none (.t 22)) 19 false,oG 24 (.bin .neq (.t 21) (.t 23)) 19 false,qo 25 (.pick (.t 19) (.c (.d (.bool true))) (.t 24)),oM 26 25,oG 27 (.faddr 3 (.t 2)) 26 false,oG 28 (.load none (.t 27)) 26 false,oG 29 (.len (.t 28)) 26 false,oG 30 (.faddr 3 (.t 3)) 26 false,oG 31 (.load none (.t 30)) 26 false,oG 32 (.len (.t 31)) 26 false,oG 33 (.bin .neq (.t 29) (.t 32)) 26 false,qo 34 (.pick (.t 26) (.c (.d (.bool true))) (.t 33))]
abbrev Jt120(p:Nums):IC:=(oQ (oR [qo 4 (.asg (.c (.d (.bool false))))]) .ret)
abbrev Jt121(p:Nums):IC:=oR [oM 35 5,oF 36 3 2,oL 37 36,oE 38 37,oB 39 .lss 35 38]
abbrev Jt122(p:Nums):IC:=oR [pF 42 3 2,pL 43 42,pM 44 5,pI 45 5 43 44,pF 46 1 45,pN 47 4 46,pF 48 3 3,pL 49 48,pM 50 5,pI 51 5 49 50,pF 52 1 51,pN 53 4 52,qo 54 (.eqs true [.int,.int,.int,.int] (.t 47) (.t 53)),oM 55 54,oH 56 (.faddr 3 (.t 2)) 55 false,oH 57 (.load none (.t 56)) 55 false,oH 58 (.mov (.t 5)) 55 false,oH 59 (.iaddr 5 (.t 57) (.t 58)) 55 false,oH 60 (.faddr 0 (.t 59)) 55 false,oH 61 (.load none (.t 60)) 55 false,oH 62 (.len (.t 61)) 55 false,oH 63 (.faddr 3 (.t 3)) 55 false,oH 64 (.load none (.t 63)) 55 false,oH 65 (.mov (.t 5)) 55 false,oH 66 (.iaddr 5 (.t 64) (.t 65)) 55 false,oH 67 (.faddr 0 (.t 66)) 55 false,oH 68 (.load none (.t 67)) 55 false,oH 69 (.len (.t 68)) 55 false,oG 70 (.bin .neq (.t 62) (.t 69)) 55 false,qo 71 (.pick (.t 55) (.c (.d (.bool true))) (.t 70))]
abbrev Jt123(p:Nums):IC:=(oQ (oR [qo 4 (.asg (.c (.d (.bool false))))]) .ret)
abbrev Jt124(p:Nums):IC:=oR [oM 72 6,oF 73 3 2,oL 74 73,oM 75 5,oI 76 5 74 75,oF 77 0 76,oL 78 77,oE 79 78,oB 80 .lss 72 79]
abbrev Jt125(p:Nums):IC:=oR [pF 83 3 2,pL 84 83,pM 85 5,pI 86 5 84 85,pF 87 0 86,pL 88 87,pM 89 6,pI 90 7 88 89,pN 91 7 90,pF 92 3 3,pL 93 92,pM 94 5,pI 95 5 93 94,pF 96 0 95,pL 97 96,pM 98 6,pI 99 7 97 98,pN 100 7 99,qo 101 (.eqs true [.int,.int,.int,.int,.int,.int,.int] (.t 91) (.t 100))]
abbrev Jt126(p:Nums):IC:=(oQ (oR [qo 4 (.asg (.c (.d (.bool false))))]) .ret)
abbrev Jt11t:IC:=(oQ (Jt125 p) (.cond (.t 101) (Jt126 p) .skip))
abbrev Jt11u(p:Nums):IC:=oR [oM 81 6,oC 82 .add 81 1,oA 6 82]
abbrev Jt11v:IC:=(oQ (oQ (Jt124 p) (.cond (.t 80) .skip (.exit 2))) (oQ (.block 3 (Jt11t p)) (Jt11u p)))
abbrev Jt11w:IC:=(oQ (oQ (Jt122 p) (.cond (.t 71) (Jt123 p) .skip)) (oQ (oR [oK 6 0]) (.block 2 (.loop (Jt11v p)))))
abbrev Jt11x(p:Nums):IC:=oR [oM 40 5,oC 41 .add 40 1,oA 5 41]
abbrev Jt11y:IC:=(oQ (oQ (Jt121 p) (.cond (.t 39) .skip (.exit 0))) (oQ (.block 1 (Jt11w p)) (Jt11x p)))
def Jtjw:IC:=(oQ (Jt11s p) (oQ (oQ (Jt11z p) (.cond (.t 34) (Jt120 p) .skip)) (oQ (oQ (oR [oK 5 0]) (.block 0 (.loop (Jt11y p)))) (oQ (oR [qo 4 (.asg (.c (.d (.bool true))))]) .ret))))
abbrev Jt1b3(p:Nums):IC:=oR [oF 6 2 1,oL 7 6,oE 8 7,qo 9 (.mov (ci 0))]
abbrev Jt1b4(p:Nums):IC:=oR [oI 11 5 7 9,oN 12 5 11,qo 5 (.alloc [.nils,(zi 0),(zi 0),(zi 0),(zi 0)]),oS 5 5 12]
abbrev Jt1b5(p:Nums):IC:=oR [oM 13 3,oF 14 0 5,oL 15 14,oE 16 15,oB 17 .add 13 16,oA 3 17]
abbrev Jt1b6:IC:=(oQ (oR [oB 10 .lss 9 8]) (oQ (.cond (.t 10) .skip (.exit 0)) (oQ (.block 1 (oQ (Jt1b4 p) (Jt1b5 p))) (oR [oC 18 .add 9 1,oM 9 18]))))
def Jtki:IC:=(oQ (oR [qo 1 (.box (.t 0)),oK 2 0]) (oQ (oR [oK 3 0]) (oQ (oQ (Jt1b3 p) (.block 0 (.loop (Jt1b6 p)))) (oQ (oR [oM 19 3,oA 2 19]) .ret))))
abbrev Jt1cc(p:Nums):IC:=oR [oF 10 0 3,oL 11 10,oE 12 11,qo 13 (.mov (ci 0))]
abbrev Jt1cd(p:Nums):IC:=oR [oI 15 5 11 13,oN 16 5 15,qo 8 (.alloc [(zi 0),(zi 0),(zi 0),(zi 0),(zi 0)]),oS 5 8 16]
abbrev Jt1ce:IC:=oR [oN 17 5 8,oM 18 1,qo 19 (.call p.Yf1g [(.t 17),(.t 18)]),oA 9 19]
abbrev Jt1cf(p:Nums):IC:=(oQ (oR [oM 22 9,oA 6 22]) .ret)
abbrev Jt1cg:IC:=(oQ (Jt1cd p) (oQ (Jt1ce p) (oQ (oR [oM 20 9,oC 21 .neq 20 0]) (.cond (.t 21) (Jt1cf p) .skip))))
abbrev Jt1ch:IC:=(oQ (oR [oB 14 .lss 13 12]) (oQ (.cond (.t 14) .skip (.exit 0)) (oQ (.block 1 (Jt1cg p)) (oR [oC 23 .add 13 1,oM 13 23]))))
abbrev Jt1ci:IC:=oR [oF 24 1 3,oN 25 4 24,oM 26 1,oM 27 2,qo 28 (.call p.Yf1h [(.t 25),(.t 26),(.t 27)]),oA 6 28]
def Jtkn:IC:=(oQ (oR [qo 3 (.box (.t 0)),oK 6 0]) (oQ (oQ (Jt1cc p) (.block 0 (.loop (Jt1ch p)))) (oQ (Jt1ci p) .ret)))
abbrev Jtpx(p:Nums):IC:=oR [oM 3 0,qo 4 (.bin .mul (ci 2) (.t 3)),oC 5 .add 4 1,oA 2 5]
def Jtir:IC:=(oQ (oR [oK 2 0]) (oQ (Jtpx p) .ret))
abbrev Jt14g(p:Nums):IC:=oR [qo 4 (.alloc [(zi 0),(zi 0),(zi 0),(zi 0),(zi 0),(zi 0),(zi 0)])]
abbrev Jt14h(p:Nums):IC:=oR [oM 5 0,oM 6 1,qo 7 (.build [(zi 0),(zi 0),(zi 0),(zi 0),(zi 0),(zi 0),(zi 0)] [(0,1,(ci 18)),(5,1,(.t 5)),(6,1,(.t 6))]),oS 7 4 7]
def Jtk4:IC:=(oQ (Jt14g p) (oQ (Jt14h p) .ret))
abbrev Jtpv(p:Nums):IC:=oR [oM 3 0,qo 4 (.bin .mul (ci 2) (.t 3)),oA 2 4]
def Jtiq:IC:=(oQ (oR [oK 2 0]) (oQ (Jtpv p) .ret))
abbrev Jt1b8:IC:=oR [oF 9 0 2,oL 10 9,qo 11 (.call p.Yfz [(.t 10)]),oM 8 11,oX 12 8 0,oX 13 8 1,qo 5 (.alloc [(.d (.bool false)),(.d (.bool false)),(.d (.bool false)),(.d (.bool false))]),oS 4 5 12,oA 6 13]
abbrev Jt1bb(p:Nums):IC:=oR [oF 14 1 2,oL 15 14,oF 16 0 5,oL 17 16,oM 18 1,qo 19 (.build [(zi 0),(.d (.bool false)),(zi 0)] [(0,1,(.t 15)),(1,1,(.t 17)),(2,1,(.t 18))]),oF 20 2 2,oL 21 20,oF 22 1 5,oL 23 22,oM 24 1,qo 25 (.build [(zi 0),(.d (.bool false)),(zi 0)] [(0,1,(.t 21)),(1,1,(.t 23)),(2,1,(.t 24))]),oF 26 3 2,oL 27 26,oF 28 2 5,oL 29 28,oM 30 1,qo 31 (.build [(zi 0),(.d (.bool false)),(zi 0)] [(0,1,(.t 27)),(1,1,(.t 29)),(2,1,(.t 30))]),qo 32 (.bslice 3 3 [(.int .i64 0),(.bool false),(.int .i64 0)] [(0,(.t 19)),(1,(.t 25)),(2,(.t 31))]),oA 7 32]
abbrev Jt1bc:IC:=oR [oF 34 0 2,oL 35 34,qo 36 (.call p.Yf1i [(.t 35)]),qo 37 (.un .not (.t 36)),oA 33 37]
abbrev Jt1bd:IC:=oR [oM 39 7,qo 40 (.call p.Yf1j [(.t 39)]),qo 41 (.un .not (.t 40)),oA 38 41]
abbrev Jt1be:IC:=oR [oM 43 7,qo 44 (.call p.Yf1k [(.t 43)]),qo 45 (.un .not (.t 44)),oM 46 45,oG 47 (.faddr 3 (.t 5)) 46 false,oG 48 (.load none (.t 47)) 46 false,oG 49 (.un .not (.t 48)) 46 false,oG 50 (.mov (.t 49)) 46 false,oG 51 (.faddr 4 (.t 2)) 50 true,oG 52 (.load none (.t 51)) 50 true,oG 53 (.bin .neq (.t 52) (ci 0)) 50 true,oG 54 (.pick (.t 50) (.t 53) (.c (.d (.bool false)))) 46 false,qo 55 (.pick (.t 46) (.c (.d (.bool true))) (.t 54)),oA 42 55]
abbrev Jt1bf(p:Nums):IC:=(oQ (oR [oK 4 12]) .ret)
abbrev Jt1bg(p:Nums):IC:=(oQ (oR [oK 4 9]) .ret)
abbrev Jt1bh:IC:=(oQ (Jt1be p) (.cond (.t 42) (Jt1bf p) .skip))
abbrev Jt1bi(p:Nums):IC:=(oQ (oR [oK 4 8]) .ret)
abbrev Jt1b9:IC:=(oQ (Jt1bd p) (.cond (.t 38) (Jt1bg p) (Jt1bh p)))
abbrev Jt1ba:IC:=(oQ (Jt1bc p) (.cond (.t 33) (Jt1bi p) (Jt1b9 p)))
def Jtkj:IC:=(oQ (oR [qo 2 (.box (.t 0)),oK 4 0]) (oQ (Jt1b8 p) (oQ (Jt1bb p) (oQ (.block 0 (Jt1ba p)) (oQ (oR [oK 4 0]) .ret)))))
abbrev Jt1bp(p:Nums):IC:=oR [oF 10 1 3,oL 11 10,oF 12 0 3,oL 13 12,oC 14 .neq 13 1,oM 15 1,qo 16 (.build [(zi 0),(.d (.bool false)),(zi 0)] [(0,1,(.t 11)),(1,1,(.t 14)),(2,1,(.t 15))]),qo 7 (.alloc [(zi 0),(.d (.bool false)),(zi 0)]),oS 3 7 16]
abbrev Jt1bw(p:Nums):IC:=oR [oF 17 2 3,oL 18 17,oF 19 0 3,oL 20 19,oC 21 .neq 20 3,oM 22 2,qo 23 (.build [(zi 0),(.d (.bool false)),(zi 0)] [(0,1,(.t 18)),(1,1,(.t 21)),(2,1,(.t 22))]),qo 8 (.alloc [(zi 0),(.d (.bool false)),(zi 0)]),oS 3 8 23]
abbrev Jt1bx(p:Nums):IC:=oR [oF 24 3 3,oL 25 24,oF 26 0 3,oL 27 26,oC 28 .eql 27 2,oM 29 2,qo 30 (.build [(zi 0),(.d (.bool false)),(zi 0)] [(0,1,(.t 25)),(1,1,(.t 28)),(2,1,(.t 29))]),qo 9 (.alloc [(zi 0),(.d (.bool false)),(zi 0)]),oS 3 9 30]
abbrev Jt1by(p:Nums):IC:=oR [oF 32 0 3,oL 33 32,oC 34 .lss 33 1,oM 35 34,oG 36 (.faddr 0 (.t 3)) 35 false,oG 37 (.load none (.t 36)) 35 false,oG 38 (.bin .gtr (.t 37) (ci 3)) 35 false,qo 39 (.pick (.t 35) (.c (.d (.bool true))) (.t 38)),oA 31 39]
abbrev Jt1bz:IC:=oR [oN 41 3 7,qo 42 (.bslice 3 1 [(.int .i64 0),(.bool false),(.int .i64 0)] [(0,(.t 41))]),qo 43 (.call p.Yf1j [(.t 42)]),qo 44 (.un .not (.t 43)),oA 40 44]
abbrev Jt1c0:IC:=oR [oN 46 3 8,oN 47 3 9,qo 48 (.bslice 3 2 [(.int .i64 0),(.bool false),(.int .i64 0)] [(0,(.t 46)),(1,(.t 47))]),qo 49 (.call p.Yf1j [(.t 48)]),qo 50 (.un .not (.t 49)),oA 45 50]
abbrev Jt1c1:IC:=oR [oN 52 3 7,oN 53 3 8,oN 54 3 9,qo 55 (.bslice 3 3 [(.int .i64 0),(.bool false),(.int .i64 0)] [(0,(.t 52)),(1,(.t 53)),(2,(.t 54))]),qo 56 (.call p.Yf1k [(.t 55)]),qo 57 (.un .not (.t 56)),oA 51 57]
abbrev Jt1c2(p:Nums):IC:=(oQ (oR [oK 6 12]) .ret)
abbrev Jt1c3(p:Nums):IC:=(oQ (oR [oK 6 11]) .ret)
abbrev Jt1bq:IC:=(oQ (Jt1c1 p) (.cond (.t 51) (Jt1c2 p) .skip))
abbrev Jt1br(p:Nums):IC:=(oQ (oR [oK 6 9]) .ret)
abbrev Jt1bs:IC:=(oQ (Jt1c0 p) (.cond (.t 45) (Jt1c3 p) (Jt1bq p)))
abbrev Jt1bt(p:Nums):IC:=(oQ (oR [oK 6 16]) .ret)
abbrev Jt1bu:IC:=(oQ (Jt1bz p) (.cond (.t 40) (Jt1br p) (Jt1bs p)))
abbrev Jt1bv:IC:=(oQ (Jt1by p) (.cond (.t 31) (Jt1bt p) (Jt1bu p)))
def Jtkl:IC:=(oQ (oR [qo 3 (.box (.t 0)),oK 6 0]) (oQ (Jt1bp p) (oQ (Jt1bw p) (oQ (Jt1bx p) (oQ (.block 0 (Jt1bv p)) (oQ (oR [oK 6 0]) .ret))))))
abbrev Jtv4:IC:=oR [oM 3 0,qo 4 (.call p.Yf12 [(.t 3)]),oM 5 4,oG 6 (.mov (.t 0)) 5 true,oG 7 (.bin .neq (.t 6) (ci 18)) 5 true,qo 8 (.pick (.t 5) (.t 7) (.c (.d (.bool false)))),oA 2 8]
def Jtj4:IC:=(oQ (oR [qo 2 (.asg (.c (.d (.bool false))))]) (oQ (Jtv4 p) .ret))
abbrev Jt1cl(p:Nums):IC:=oR [oM 5 0,oE 6 5,qo 7 (.mov (ci 0))]
abbrev Jt1cm(p:Nums):IC:=oR [oI 9 3 5 7,oN 10 3 9,qo 4 (.alloc [(zi 0),(.d (.bool false)),(zi 0)]),oS 3 4 10]
abbrev Jt1cn(p:Nums):IC:=oR [oF 11 1 4,oL 12 11,oM 13 12,oG 14 (.faddr 0 (.t 4)) 13 true,oG 15 (.load none (.t 14)) 13 true,oG 16 (.bin .lss (.t 15) (ci 0)) 13 true,oG 17 (.mov (.t 16)) 13 true,oG 18 (.faddr 0 (.t 4)) 17 false,oG 19 (.load none (.t 18)) 17 false,oG 20 (.faddr 2 (.t 4)) 17 false,oG 21 (.load none (.t 20)) 17 false,oG 22 (.bin .geq (.t 19) (.t 21)) 17 false,oG 23 (.pick (.t 17) (.c (.d (.bool true))) (.t 22)) 13 true,qo 24 (.pick (.t 13) (.t 23) (.c (.d (.bool false))))]
abbrev Jt1co(p:Nums):IC:=(oQ (oR [qo 2 (.asg (.c (.d (.bool false))))]) .ret)
abbrev Jt1cp:IC:=(oQ (Jt1cm p) (oQ (Jt1cn p) (.cond (.t 24) (Jt1co p) .skip)))
abbrev Jt1cq:IC:=(oQ (oR [oB 8 .lss 7 6]) (oQ (.cond (.t 8) .skip (.exit 0)) (oQ (.block 1 (Jt1cp p)) (oR [oC 25 .add 7 1,oM 7 25]))))
def Jtko:IC:=(oQ (oR [qo 2 (.asg (.c (.d (.bool false))))]) (oQ (oQ (Jt1cl p) (.block 0 (.loop (Jt1cq p)))) (oQ (oR [qo 2 (.asg (.c (.d (.bool true))))]) .ret)))
abbrev Jt1c5(p:Nums):IC:=oR [oM 5 0,oE 6 5,qo 7 (.mov (ci 0))]
abbrev Jt1c6(p:Nums):IC:=oR [oI 9 3 5 7,oN 10 3 9,qo 4 (.alloc [(zi 0),(.d (.bool false)),(zi 0)]),oS 3 4 10]
abbrev Jt1c7(p:Nums):IC:=oR [oF 11 1 4,oL 12 11,qo 13 (.un .not (.t 12)),oM 14 13,oG 15 (.faddr 0 (.t 4)) 14 true,oG 16 (.load none (.t 15)) 14 true,oG 17 (.bin .neq (.t 16) (ci 0)) 14 true,qo 18 (.pick (.t 14) (.t 17) (.c (.d (.bool false))))]
abbrev Jt1c8(p:Nums):IC:=(oQ (oR [qo 2 (.asg (.c (.d (.bool false))))]) .ret)
abbrev Jt1c9:IC:=(oQ (Jt1c6 p) (oQ (Jt1c7 p) (.cond (.t 18) (Jt1c8 p) .skip)))
abbrev Jt1ca:IC:=(oQ (oR [oB 8 .lss 7 6]) (oQ (.cond (.t 8) .skip (.exit 0)) (oQ (.block 1 (Jt1c9 p)) (oR [oC 19 .add 7 1,oM 7 19]))))
def Jtkm:IC:=(oQ (oR [qo 2 (.asg (.c (.d (.bool false))))]) (oQ (oQ (Jt1c5 p) (.block 0 (.loop (Jt1ca p)))) (oQ (oR [qo 2 (.asg (.c (.d (.bool true))))]) .ret)))
abbrev Jtpt(p:Nums):IC:=oR [oM 3 0,oC 4 .rem 3 2,oC 5 .eql 4 1,oA 2 5]
def Jtip:IC:=(oQ (oR [qo 2 (.asg (.c (.d (.bool false))))]) (oQ (Jtpt p) .ret))
abbrev Jtpr(p:Nums):IC:=oR [oM 3 0,oC 4 .quo 3 2,oA 2 4]
def Jtio:IC:=(oQ (oR [oK 2 0]) (oQ (Jtpr p) .ret))
abbrev Jt135:IC:=oR [oF 3 0 1,oN 4 3 3,qo 5 (.call p.Yf9 [(.t 4)]),oM 6 5,oG 7 (.faddr 3 (.t 1)) 6 true,oG 8 (.load (some 4) (.t 7)) 6 true,oG 9 (.call p.Yf1q [(.t 8)]) 6 true,qo 10 (.pick (.t 6) (.t 9) (.c (.d (.bool false)))),oM 11 10,oG 12 (.faddr 7 (.t 1)) 11 true,oG 13 (.load none (.t 12)) 11 true,oG 14 (.call p.Yf1r [(.t 13)]) 11 true,qo 15 (.pick (.t 11) (.t 14) (.c (.d (.bool false)))),oA 2 15]
def Jtk1:IC:=(oQ (oR [qo 1 (.box (.t 0)),qo 2 (.asg (.c (.d (.bool false))))]) (oQ (Jt135 p) .ret))
abbrev Jtbr:IC:=oR [oF 5 0 1,oN 6 3 5,qo 7 (.call p.Yf15 [(.t 6)]),oA 3 7]
abbrev Jtbs(p:Nums):IC:=(oQ (oR [oM 10 3,oA 2 10]) .ret)
abbrev Jtbt:IC:=oR [oF 11 3 1,oN 12 4 11,qo 13 (.call p.Yf1s [(.t 12)]),oA 4 13]
abbrev Jtbu(p:Nums):IC:=(oQ (oR [oM 16 4,oA 2 16]) .ret)
abbrev Jtbv(p:Nums):IC:=oR [oF 17 0 1,oF 18 2 17,oL 19 18,oE 20 19,oF 21 3 1,oF 22 3 21,oL 23 22,oE 24 23,oB 25 .neq 20 24,oM 26 25,oG 27 (.faddr 0 (.t 1)) 26 false,oG 28 (.faddr 0 (.t 27)) 26 false,oG 29 (.load none (.t 28)) 26 false,oG 30 (.faddr 3 (.t 1)) 26 false,oG 31 (.faddr 0 (.t 30)) 26 false,oG 32 (.load none (.t 31)) 26 false,oG 33 (.bin .neq (.t 29) (.t 32)) 26 false,qo 34 (.pick (.t 26) (.c (.d (.bool true))) (.t 33))]
abbrev Jtbw(p:Nums):IC:=(oQ (oR [oK 2 14]) .ret)
abbrev Jtbx:IC:=oR [oF 35 7 1,oL 36 35,oF 37 0 1,oF 38 2 37,oL 39 38,oE 40 39,oF 41 0 1,oF 42 1 41,oL 43 42,oF 44 3 1,oF 45 1 44,oL 46 45,oF 47 3 1,oF 48 2 47,oL 49 48,qo 50 (.call p.Yf1t [(.t 36),(.t 40),(.t 43),(.t 46),(.t 49)]),oA 2 50]
def Jti6:IC:=(oQ (oR [qo 1 (.box (.t 0)),oK 2 0]) (oQ (oQ (Jtbr p) (oQ (oR [oM 8 3,oC 9 .neq 8 0]) (.cond (.t 9) (Jtbs p) .skip))) (oQ (oQ (Jtbt p) (oQ (oR [oM 14 4,oC 15 .neq 14 0]) (.cond (.t 15) (Jtbu p) .skip))) (oQ (oQ (Jtbv p) (.cond (.t 34) (Jtbw p) .skip)) (oQ (Jtbx p) .ret)))))
abbrev Jtb4(p:Nums):IC:=oR [qo 1 (.box (.t 0)),qo 2 (.alloc [(zi 0),(zi 0),(zi 0),(zi 0),(zi 0),(zi 0),(zi 0)])]
abbrev Jtbf:IC:=oR [oN 12 8 1,qo 13 (.call p.Yf1o [(.t 12)]),oA 3 13]
abbrev Jtbi(p:Nums):IC:=oR [oM 16 3,qo 17 (.build [(zi 0),(zi 0),(zi 0),(zi 0),(zi 0),(zi 0),(zi 0)] [(0,1,(.t 16))]),oS 7 2 17]
abbrev Jtbj:IC:=oR [oN 18 8 1,qo 19 (.call p.Yf1u [(.t 18)]),qo 4 (.alloc [(zi 0),(zi 0),(zi 0),(zi 0),(zi 0),(zi 0),(zi 0)]),oS 7 4 19]
abbrev Jtbk(p:Nums):IC:=oR [oF 20 0 4,oL 21 20,oC 22 .neq 21 0]
abbrev Jtbl(p:Nums):IC:=(oQ (oR [oN 23 7 4,oS 7 2 23]) .ret)
abbrev Jtbm(p:Nums):IC:=oR [oF 24 0 1,oF 25 2 24,oL 26 25,oE 27 26,qo 28 (.mov (ci 0))]
abbrev Jtbn(p:Nums):IC:=oR [oM 30 28,oI 31 5 26 28,oN 32 5 31,qo 6 (.alloc [.nils,(zi 0),(zi 0),(zi 0),(zi 0)]),oA 5 30,oS 5 6 32]
abbrev Jtbo:IC:=oR [pN 33 5 6,pF 34 3 1,pF 35 3 34,pL 36 35,pM 37 5,pI 38 5 36 37,pN 39 5 38,pF 40 7 1,pL 41 40,pM 42 5,pI 43 1 41 42,pL 44 43,qp 45 (.call p.Yf1v [(.t 33),(.t 39),(.t 44),(ci 1048576)]),qp 7 (.alloc [.nils,(zi 0),(zi 0),(zi 0),(zi 0)]),oS 5 7 45]
abbrev Jtb5(p:Nums):IC:=oR [pF 46 3 4,pL 47 46,pC 48 .add 47 1,pF 49 5 4,pL 50 49,pF 51 3 7,pL 52 51,pB 53 .add 50 52,pF 54 6 4,pL 55 54,pF 56 4 7,pL 57 56,qp 58 (.mx (.t 55) (.t 57)),pF 59 3 4,qm (.storeq 1 (.t 59) (.t 48) [(51,1),(56,1)]),pF 60 5 4,qm (.storeq 1 (.t 60) (.t 53) [(56,1)]),oF 61 6 4,oS 1 61 58]
abbrev Jtb6(p:Nums):IC:=oR [oF 62 1 7,oL 63 62,oC 64 .neq 63 0]
abbrev Jtb7(p:Nums):IC:=oR [pF 65 1 7,pL 66 65,pM 67 5,pF 68 2 7,pL 69 68,pF 70 0 4,qm (.storeq 1 (.t 70) (.t 66) [(68,1)]),pF 71 1 4,qm (.storeq 1 (.t 71) (.t 67) [(68,1)]),oF 72 2 4,oS 1 72 69]
abbrev Jtb8:IC:=oR [oF 73 1 6,oN 74 4 73,qo 75 (.call p.Yf11 [(.t 74)]),oE 76 75,qo 77 (.mov (ci 0))]
abbrev Jtb9(p:Nums):IC:=oR [oM 79 77,oI 80 1 75 77,oL 81 80,oA 8 79,oA 9 81]
abbrev Jtba(p:Nums):IC:=oR [pF 82 4 4,pL 83 82,pC 84 .add 83 1,pF 85 5 4,pL 86 85,pC 87 .add 86 1,pF 88 0 7,pL 89 88,pE 90 89,pB 91 .add 87 90,pF 92 7 1,pL 93 92,pM 94 9,pI 95 1 93 94,pL 96 95,pE 97 96,pB 98 .add 91 97,pF 99 4 4,qm (.storeq 1 (.t 99) (.t 84) [(88,1),(92,1),(95,1)]),oF 100 5 4,oS 1 100 98]
abbrev Jtbb:IC:=oR [pF 102 0 7,pL 103 102,pF 104 7 1,pL 105 104,pM 106 9,pI 107 1 105 106,pL 108 107,qp 109 (.call p.Yf1w [(.t 103),(.t 108)]),pM 101 109,pX 110 101 0,pX 111 101 1,qp 10 (.alloc [(zi 0),(zi 0)]),qm (.storeq 2 (.t 10) (.t 110) []),oA 11 111]
abbrev Jtbc(p:Nums):IC:=oR [oM 114 11,oM 115 5,oM 116 8,oF 117 0 4,oS 1 117 114,oF 118 1 4,oS 1 118 115,oF 119 2 4,oS 1 119 116]
abbrev Jtbd:IC:=(oQ (Jtb9 p) (oQ (Jtba p) (oQ (Jtbb p) (oQ (oR [oM 112 11,oC 113 .neq 112 0]) (.cond (.t 113) (oQ (Jtbc p) (.exit 0)) .skip)))))
abbrev Jtbe:IC:=(oQ (oR [oB 78 .lss 77 76]) (oQ (.cond (.t 78) .skip (.exit 2)) (oQ (.block 3 (Jtbd p)) (oR [oC 120 .add 77 1,oM 77 120]))))
abbrev Jtbg:IC:=(oQ (Jtbn p) (oQ (Jtbo p) (oQ (Jtb5 p) (oQ (oQ (Jtb6 p) (.cond (.t 64) (oQ (Jtb7 p) (.exit 0)) .skip)) (oQ (Jtb8 p) (.block 2 (.loop (Jtbe p))))))))
abbrev Jtbh:IC:=(oQ (oR [oB 29 .lss 28 27]) (oQ (.cond (.t 29) .skip (.exit 0)) (oQ (.block 1 (Jtbg p)) (oR [oC 121 .add 28 1,oM 28 121]))))
def Jti5:IC:=(oQ (Jtb4 p) (oQ (oQ (Jtbf p) (oQ (oR [oM 14 3,oC 15 .neq 14 0]) (.cond (.t 15) (oQ (Jtbi p) .ret) .skip))) (oQ (Jtbj p) (oQ (oQ (Jtbk p) (.cond (.t 22) (Jtbl p) .skip)) (oQ .skip (oQ (oQ (Jtbm p) (.block 0 (.loop (Jtbh p)))) (oQ (oR [oN 122 7 4,oS 7 2 122]) .ret)))))))
abbrev Jt118(p:Nums):IC:=oR [oF 4 3 1,oL 5 4,oE 6 5,oC 7 .gtr 6 40,oM 8 7,oG 9 (.faddr 1 (.t 1)) 8 false,oG 10 (.load none (.t 9)) 8 false,oG 11 (.bin .gtr (.t 10) (ci 60)) 8 false,qo 12 (.pick (.t 8) (.c (.d (.bool true))) (.t 11)),oM 13 12,oG 14 (.faddr 2 (.t 1)) 13 false,oG 15 (.load none (.t 14)) 13 false,oG 16 (.bin .gtr (.t 15) (ci 60)) 13 false,qo 17 (.pick (.t 13) (.c (.d (.bool true))) (.t 16))]
abbrev Jt119(p:Nums):IC:=(oQ (oR [qo 2 (.asg (.c (.d (.bool false))))]) .ret)
abbrev Jt11a(p:Nums):IC:=oR [oM 18 3,oF 19 3 1,oL 20 19,oE 21 20,oB 22 .lss 18 21]
abbrev Jt11b(p:Nums):IC:=oR [oF 25 3 1,oL 26 25,oM 27 3,oI 28 5 26 27,oF 29 0 28,oL 30 29,oE 31 30,oC 32 .gtr 31 300]
abbrev Jt11c(p:Nums):IC:=(oQ (oR [qo 2 (.asg (.c (.d (.bool false))))]) .ret)
abbrev Jt11d:IC:=(oQ (Jt11b p) (.cond (.t 32) (Jt11c p) .skip))
abbrev Jt11e(p:Nums):IC:=oR [oM 23 3,oC 24 .add 23 1,oA 3 24]
abbrev Jt11f:IC:=(oQ (oQ (Jt11a p) (.cond (.t 22) .skip (.exit 0))) (oQ (.block 1 (Jt11d p)) (Jt11e p)))
abbrev Jt11g:IC:=oR [oN 33 4 1,qo 34 (.call p.Yf19 [(.t 33)]),oC 35 .leq 34 900,oA 2 35]
def Jtju:IC:=(oQ (oR [qo 1 (.box (.t 0)),qo 2 (.asg (.c (.d (.bool false))))]) (oQ (oQ (Jt118 p) (.cond (.t 17) (Jt119 p) .skip)) (oQ (oQ (oR [oK 3 0]) (.block 0 (.loop (Jt11f p)))) (oQ (Jt11g p) .ret))))
abbrev Jt12x(p:Nums):IC:=oR [oM 4 3,oM 5 0,oE 6 5,oB 7 .lss 4 6,oM 8 7,oG 9 (.mov (.t 3)) 8 true,oG 10 (.bin .leq (.t 9) (ci 40)) 8 true,qo 11 (.pick (.t 8) (.t 10) (.c (.d (.bool false))))]
abbrev Jt12y(p:Nums):IC:=oR [oM 14 0,oM 15 3,oI 16 1 14 15,oL 17 16,oE 18 17,oC 19 .gtr 18 400]
abbrev Jt12z(p:Nums):IC:=(oQ (oR [qo 2 (.asg (.c (.d (.bool false))))]) .ret)
abbrev Jt130:IC:=(oQ (Jt12y p) (.cond (.t 19) (Jt12z p) .skip))
abbrev Jt131(p:Nums):IC:=oR [oM 12 3,oC 13 .add 12 1,oA 3 13]
abbrev Jt132:IC:=(oQ (oQ (Jt12x p) (.cond (.t 11) .skip (.exit 0))) (oQ (.block 1 (Jt130 p)) (Jt131 p)))
abbrev Jt133(p:Nums):IC:=oR [oM 20 0,oE 21 20,oC 22 .leq 21 40,oA 2 22]
def Jtk0:IC:=(oQ (oR [qo 2 (.asg (.c (.d (.bool false))))]) (oQ (oQ (oR [oK 3 0]) (.block 0 (.loop (Jt132 p)))) (oQ (Jt133 p) .ret)))
abbrev Jtq9(p:Nums):IC:=oR [oF 7 0 1,oL 8 7,oC 9 .lss 8 0,oM 10 9,oG 11 (.faddr 0 (.t 1)) 10 false,oG 12 (.load none (.t 11)) 10 false,oG 13 (.faddr 2 (.t 1)) 10 false,oG 14 (.load none (.t 13)) 10 false,oG 15 (.bin .gtr (.t 12) (.t 14)) 10 false,qo 16 (.pick (.t 10) (.c (.d (.bool true))) (.t 15)),oA 6 16]
abbrev Jtqk(p:Nums):IC:=oR [oF 18 1 1,oL 19 18,oC 20 .lss 19 0,oA 17 20]
abbrev Jtqn(p:Nums):IC:=oR [oF 22 2 1,oL 23 22,oC 24 .gtr 23 1048576,oM 25 24,oG 26 (.faddr 1 (.t 1)) 25 false,oG 27 (.load none (.t 26)) 25 false,oG 28 (.bin .gtr (.t 27) (ci 1048576)) 25 false,qo 29 (.pick (.t 25) (.c (.d (.bool true))) (.t 28)),oA 21 29]
abbrev Jtqo(p:Nums):IC:=oR [oF 31 3 1,oL 32 31,oE 33 32,oC 34 .eql 33 0,oA 30 34]
abbrev Jtqp:IC:=oR [oF 36 3 1,oL 37 36,oE 38 37,oC 39 .gtr 38 1048576,oM 40 39,oG 41 (.load (some 4) (.t 1)) 40 false,oG 42 (.call p.Yf1x [(.t 41)]) 40 false,oG 43 (.bin .gtr (.t 42) (ci 1048576)) 40 false,qo 44 (.pick (.t 40) (.c (.d (.bool true))) (.t 43)),oA 35 44]
abbrev Jtqq(p:Nums):IC:=(oQ (oR [oK 2 6]) .ret)
abbrev Jtqr(p:Nums):IC:=(oQ (oR [oK 2 14]) .ret)
abbrev Jtqs:IC:=(oQ (Jtqp p) (.cond (.t 35) (Jtqq p) .skip))
abbrev Jtqt(p:Nums):IC:=(oQ (oR [oK 2 6]) .ret)
abbrev Jtqa:IC:=(oQ (Jtqo p) (.cond (.t 30) (Jtqr p) (Jtqs p)))
abbrev Jtqb(p:Nums):IC:=(oQ (oR [oK 2 9]) .ret)
abbrev Jtqc:IC:=(oQ (Jtqn p) (.cond (.t 21) (Jtqt p) (Jtqa p)))
abbrev Jtqd(p:Nums):IC:=(oQ (oR [oK 2 10]) .ret)
abbrev Jtqe:IC:=(oQ (Jtqk p) (.cond (.t 17) (Jtqb p) (Jtqc p)))
abbrev Jtqf:IC:=(oQ (Jtq9 p) (.cond (.t 6) (Jtqd p) (Jtqe p)))
abbrev Jtqg(p:Nums):IC:=oR [oF 45 3 1,oL 46 45,oE 47 46,qo 48 (.mov (ci 0))]
abbrev Jtqh(p:Nums):IC:=oR [oI 50 5 46 48,oN 51 5 50,qo 4 (.alloc [.nils,(zi 0),(zi 0),(zi 0),(zi 0)]),oS 5 4 51]
abbrev Jtqi:IC:=oR [oN 52 4 1,oN 53 5 4,qo 54 (.call p.Yf1y [(.t 52),(.t 53)]),oA 5 54]
abbrev Jtqj(p:Nums):IC:=(oQ (oR [oM 57 5,oA 2 57]) .ret)
abbrev Jtql:IC:=(oQ (Jtqh p) (oQ (Jtqi p) (oQ (oR [oM 55 5,oC 56 .neq 55 0]) (.cond (.t 56) (Jtqj p) .skip))))
abbrev Jtqm:IC:=(oQ (oR [oB 49 .lss 48 47]) (oQ (.cond (.t 49) .skip (.exit 1)) (oQ (.block 2 (Jtql p)) (oR [oC 58 .add 48 1,oM 48 58]))))
def Jtis:IC:=(oQ (oR [qo 1 (.box (.t 0)),oK 2 0]) (oQ (.block 0 (Jtqf p)) (oQ (oQ (Jtqg p) (.block 1 (.loop (Jtqm p)))) (oQ (oR [oK 2 0]) .ret))))
abbrev Jtdz(p:Nums):IC:=oR [oM 15 0,oE 16 15,oM 17 1,oB 18 .neq 16 17,oA 14 18]
abbrev Jte3:IC:=oR [oM 20 0,qo 21 (.call p.Yf1z [(.t 20)]),oC 22 .gtr 21 1048576,oA 19 22]
abbrev Jte4(p:Nums):IC:=(oQ (oR [oK 10 6]) .ret)
abbrev Jte5(p:Nums):IC:=(oQ (oR [oK 10 14]) .ret)
abbrev Jte6:IC:=(oQ (Jte3 p) (.cond (.t 19) (Jte4 p) .skip))
abbrev Jte7:IC:=(oQ (Jtdz p) (.cond (.t 14) (Jte5 p) (Jte6 p)))
abbrev Jte8(p:Nums):IC:=oR [oM 23 0,oE 24 23,qo 25 (.mov (ci 0))]
abbrev Jte9(p:Nums):IC:=oR [oI 27 1 23 25,oL 28 27,oA 12 28]
abbrev Jtea:IC:=oR [oM 29 12,oM 30 2,oM 31 3,oM 32 4,qo 33 (.call p.Yf20 [(.t 29),(.t 30),(.t 31),(.t 32)]),oA 13 33]
abbrev Jte0(p:Nums):IC:=(oQ (oR [oM 36 13,oA 10 36]) .ret)
abbrev Jte1:IC:=(oQ (Jte9 p) (oQ (Jtea p) (oQ (oR [oM 34 13,oC 35 .neq 34 0]) (.cond (.t 35) (Jte0 p) .skip))))
abbrev Jte2:IC:=(oQ (oR [oB 26 .lss 25 24]) (oQ (.cond (.t 26) .skip (.exit 1)) (oQ (.block 2 (Jte1 p)) (oR [oC 37 .add 25 1,oM 25 37]))))
def Jtib:IC:=(oQ (oR [oK 10 0]) (oQ (.block 0 (Jte7 p)) (oQ (oQ (Jte8 p) (.block 1 (.loop (Jte2 p)))) (oQ (oR [oK 10 0]) .ret))))
abbrev Jtbz(p:Nums):IC:=oR [qo 1 (.box (.t 0)),qo 2 (.alloc [(zi 0),(zi 0),(zi 0),(zi 0),(zi 0),(zi 0),(zi 0)])]
abbrev Jtc0(p:Nums):IC:=oR [oF 6 7 1,oL 7 6,qo 8 (.iaddr 1 (.t 7) (ci 0)),oL 9 8,oE 10 9,qo 11 (.bin .add (ci 1) (.t 10)),qo 12 (.build [(zi 0),(zi 0),(zi 0),(zi 0),(zi 0),(zi 0),(zi 0)] [(5,1,(.t 11))]),qo 3 (.alloc [(zi 0),(zi 0),(zi 0),(zi 0),(zi 0),(zi 0),(zi 0)]),oS 7 3 12]
abbrev Jtc1(p:Nums):IC:=oR [oF 13 7 1,oL 14 13,oE 15 14,qo 16 (.mov (ci 0))]
abbrev Jtc2(p:Nums):IC:=oR [oI 18 1 14 16,oL 19 18,oA 5 19]
abbrev Jtc3(p:Nums):IC:=oR [oF 20 6 3,oL 21 20,oM 22 5,oE 23 22,qo 24 (.mx (.t 21) (.t 23)),oF 25 6 3,oS 1 25 24]
abbrev Jtc4:IC:=(oQ (oR [oB 17 .lss 16 15]) (oQ (.cond (.t 17) .skip (.exit 0)) (oQ (.block 1 (oQ (Jtc2 p) (Jtc3 p))) (oR [oC 26 .add 16 1,oM 16 26]))))
abbrev Jtc5:IC:=oR [pF 28 7 1,pL 29 28,qp 30 (.iaddr 1 (.t 29) (ci 0)),pL 31 30,pF 32 0 1,pF 33 0 32,pL 34 33,qo 35 (.call p.Yf21 [(.t 31),(.t 34)]),oM 27 35,pX 36 27 0,pX 37 27 1,oF 38 0 3,oS 1 38 37]
def Jti7:IC:=(oQ (Jtbz p) (oQ (Jtc0 p) (oQ (oQ (Jtc1 p) (.block 0 (.loop (Jtc4 p)))) (oQ (Jtc5 p) (oQ (oR [oN 39 7 3,oS 7 2 39]) .ret)))))
abbrev Jt88(p:Nums):IC:=oR [qo 4 (.box (.t 0)),qo 5 (.box (.t 1)),qo 8 (.alloc [.nils,(zi 0),(zi 0),(zi 0),(zi 0)])]
abbrev Jt8b(p:Nums):IC:=oR [oM 14 2,oE 15 14,oM 16 3,oB 17 .gtr 15 16]
abbrev Jt8c(p:Nums):IC:=oR [oM 18 2,oE 19 18,qo 20 (.build [.nils,(zi 0),(zi 0),(zi 0),(zi 0)] [(1,1,(ci 24)),(4,1,(.t 19))]),oS 5 8 20]
abbrev Jt8d:IC:=oR [oF 22 0 4,oL 23 22,oF 24 0 5,oL 25 24,qo 26 (.call p.Yf22 [(.t 23),(.t 25)]),oM 21 26,oX 27 21 0,oX 28 21 1,oX 29 21 2,oA 9 27,oA 10 28,oA 11 29]
abbrev Jt8e:IC:=oR [oM 30 11,oC 31 .eql 30 0,oM 32 31,oG 33 (.faddr 1 (.t 4)) 32 true,oG 34 (.load (some 4) (.t 33)) 32 true,oG 35 (.faddr 1 (.t 5)) 32 true,oG 36 (.load (some 4) (.t 35)) 32 true,oG 37 (.call p.Yf23 [(.t 34),(.t 36)]) 32 true,oG 38 (.un .not (.t 37)) 32 true,qo 39 (.pick (.t 32) (.t 38) (.c (.d (.bool false))))]
abbrev Jt8f(p:Nums):IC:=oR [oK 11 20]
abbrev Jt8g(p:Nums):IC:=oR [oM 42 11,oM 43 10,oM 44 2,oE 45 44,qo 46 (.build [.nils,(zi 0),(zi 0),(zi 0),(zi 0)] [(1,1,(.t 42)),(2,1,(.t 43)),(4,1,(.t 45))]),oS 5 8 46]
abbrev Jt8h:IC:=oR [oM 47 2,qo 48 (.call p.Yf3 [(.t 47)]),oM 49 3,oM 50 2,oE 51 50,qo 52 (.build [.nils,(zi 0),(zi 0),(zi 0)] [(0,1,(.t 48)),(1,1,(.t 49)),(3,1,(.t 51))]),qo 53 (.box (.t 52)),oA 12 53]
abbrev Jt8i:IC:=oR [oM 55 12,oN 56 5 4,oN 57 5 5,oM 58 9,qo 59 (.call p.Yf24 [(.t 55),(.t 56),(.t 57),(.t 58)]),oM 54 59,oX 60 54 0,oX 61 54 1,oA 11 60,oA 10 61]
abbrev Jt89(p:Nums):IC:=oR [pM 62 11,pM 63 10,pM 64 12,qp 65 (.nilck (.t 64)),pF 66 2 65,pL 67 66,pM 68 12,qp 69 (.nilck (.t 68)),pF 70 3 69,pL 71 70,qp 72 (.build [.nils,(zi 0),(zi 0),(zi 0),(zi 0)] [(1,1,(.t 62)),(2,1,(.t 63)),(3,1,(.t 67)),(4,1,(.t 71))]),qp 13 (.alloc [.nils,(zi 0),(zi 0),(zi 0),(zi 0)]),oS 5 13 72]
abbrev Jt8a(p:Nums):IC:=oR [oM 75 12,qo 76 (.nilck (.t 75)),oF 77 0 76,oL 78 77,oF 79 0 13,oS 1 79 78]
def Jthw:IC:=(oQ (Jt88 p) (oQ (oQ (Jt8b p) (.cond (.t 17) (oQ (Jt8c p) .ret) .skip)) (oQ (Jt8d p) (oQ (oQ (Jt8e p) (.cond (.t 39) (Jt8f p) .skip)) (oQ (oQ (oR [oM 40 11,oC 41 .neq 40 0]) (.cond (.t 41) (oQ (Jt8g p) .ret) .skip)) (oQ (Jt8h p) (oQ (Jt8i p) (oQ (Jt89 p) (oQ (oQ (oR [oM 73 11,oC 74 .eql 73 0]) (.cond (.t 74) (Jt8a p) .skip)) (oQ (oR [oN 80 5 13,oS 5 8 80]) .ret))))))))))
abbrev Jtdq(p:Nums):IC:=oR [qo 4 (.alloc [(zi 0),(zi 0)]),oK 5 0]
abbrev Jtdr:IC:=oR [oM 9 1,oM 10 0,qo 11 (.call p.Yf0 [(.t 9),(.t 10)]),oM 8 11,oX 12 8 0,oX 13 8 1,qo 6 (.alloc [(zi 0),(zi 0)]),oS 2 6 12,oA 7 13]
abbrev Jtds(p:Nums):IC:=oR [oN 15 2 6,oS 2 4 15,oK 5 22]
abbrev Jtdt(p:Nums):IC:=oR [qo 16 (.build [(zi 0),(zi 0)] []),oS 2 4 16,oK 5 0]
def Jti9:IC:=(oQ (Jtdq p) (oQ (oQ (Jtdr p) (oQ (oR [oM 14 7]) (.cond (.t 14) (oQ (Jtds p) .ret) .skip))) (oQ (Jtdt p) .ret)))
abbrev Jtqv(p:Nums):IC:=oR [oF 6 3 1,oL 7 6,oE 8 7,qo 9 (.mov (ci 0))]
abbrev Jtqw(p:Nums):IC:=oR [oI 11 5 7 9,oN 12 5 11,qo 5 (.alloc [.nils,(zi 0),(zi 0),(zi 0),(zi 0)]),oS 5 5 12]
abbrev Jtqx(p:Nums):IC:=oR [oM 13 3,oF 14 0 5,oL 15 14,oE 16 15,oB 17 .add 13 16,oA 3 17]
abbrev Jtqy:IC:=(oQ (oR [oB 10 .lss 9 8]) (oQ (.cond (.t 10) .skip (.exit 0)) (oQ (.block 1 (oQ (Jtqw p) (Jtqx p))) (oR [oC 18 .add 9 1,oM 9 18]))))
def Jtit:IC:=(oQ (oR [qo 1 (.box (.t 0)),oK 2 0]) (oQ (oR [oK 3 0]) (oQ (oQ (Jtqv p) (.block 0 (.loop (Jtqy p)))) (oQ (oR [oM 19 3,oA 2 19]) .ret))))
abbrev Jtra(p:Nums):IC:=oR [qo 2 (.box (.t 0)),qo 3 (.box (.t 1)),oK 4 0]
abbrev Jtre(p:Nums):IC:=oR [oF 9 0 3,oL 10 9,oE 11 10,qo 12 (.mov (ci 0))]
abbrev Jtrf(p:Nums):IC:=oR [oI 14 7 10 12,oN 15 7 14,qo 7 (.alloc [(zi 0),(zi 0),(zi 0),(zi 0),(zi 0),(zi 0),(zi 0)]),oS 7 7 15]
abbrev Jtrg:IC:=oR [oN 16 7 7,oF 17 1 2,oL 18 17,oF 19 2 2,oL 20 19,qo 21 (.call p.Yf25 [(.t 16),(.t 18),(.t 20)]),oA 8 21]
abbrev Jtrh(p:Nums):IC:=(oQ (oR [oM 24 8,oA 4 24]) .ret)
abbrev Jtri(p:Nums):IC:=oR [oM 25 5,oC 26 .add 25 1,oA 5 26]
abbrev Jtrj(p:Nums):IC:=oR [oF 27 0 7,oL 28 27,oC 29 .neq 28 18]
abbrev Jtrk(p:Nums):IC:=oR [oK 5 0]
abbrev Jtrl(p:Nums):IC:=(oQ (oR [oK 4 15]) .ret)
abbrev Jtrb:IC:=(oQ (Jtrf p) (oQ (oQ (Jtrg p) (oQ (oR [oM 22 8,oC 23 .neq 22 0]) (.cond (.t 23) (Jtrh p) .skip))) (oQ (Jtri p) (oQ (oQ (Jtrj p) (.cond (.t 29) (Jtrk p) .skip)) (oQ (oR [oM 30 5,oC 31 .gtr 30 64]) (.cond (.t 31) (Jtrl p) .skip))))))
abbrev Jtrc:IC:=(oQ (oR [oB 13 .lss 12 11]) (oQ (.cond (.t 13) .skip (.exit 0)) (oQ (.block 1 (Jtrb p)) (oR [oC 32 .add 12 1,oM 12 32]))))
abbrev Jtrd:IC:=oR [oF 33 1 3,oN 34 4 33,oF 35 1 2,oL 36 35,oF 37 3 2,oL 38 37,oE 39 38,qo 40 (.call p.Yf1h [(.t 34),(.t 36),(.t 39)]),oA 4 40]
def Jtiv:IC:=(oQ (Jtra p) (oQ (oR [oK 5 0]) (oQ (oQ (Jtre p) (.block 0 (.loop (Jtrc p)))) (oQ (Jtrd p) .ret))))
abbrev Jtep(p:Nums):IC:=oR [oM 6 0,oE 7 6,qo 8 (.mov (ci 0))]
abbrev Jteq(p:Nums):IC:=oR [oI 10 1 6 8,oL 11 10,oA 5 11]
abbrev Jter(p:Nums):IC:=oR [oM 12 3,oM 13 5,oE 14 13,oB 15 .add 12 14,oA 3 15]
abbrev Jtes:IC:=(oQ (oR [oB 9 .lss 8 7]) (oQ (.cond (.t 9) .skip (.exit 0)) (oQ (.block 1 (oQ (Jteq p) (Jter p))) (oR [oC 16 .add 8 1,oM 8 16]))))
def Jtid:IC:=(oQ (oR [oK 2 0]) (oQ (oR [oK 3 0]) (oQ (oQ (Jtep p) (.block 0 (.loop (Jtes p)))) (oQ (oR [oM 17 3,oA 2 17]) .ret))))
abbrev Jtec(p:Nums):IC:=oR [oM 11 0,oE 12 11,qo 13 (.mov (ci 0))]
abbrev Jteg(p:Nums):IC:=oR [oM 15 13,oI 16 2 11 13,oN 17 2 16,qo 10 (.alloc [(zi 0),(zi 0)]),oA 9 15,oS 2 10 17]
abbrev Jteh(p:Nums):IC:=oR [oF 19 0 10,oL 20 19,oC 21 .lss 20 0,oM 22 21,oG 23 (.faddr 0 (.t 10)) 22 false,oG 24 (.load none (.t 23)) 22 false,oG 25 (.mov (.t 1)) 22 false,oG 26 (.bin .geq (.t 24) (.t 25)) 22 false,qo 27 (.pick (.t 22) (.c (.d (.bool true))) (.t 26)),oA 18 27]
abbrev Jtei:IC:=oR [oF 29 1 10,oL 30 29,oM 31 2,oM 32 3,qo 33 (.call p.Yf26 [(.t 30),(.t 31),(.t 32)]),qo 34 (.un .not (.t 33)),oA 28 34]
abbrev Jtej:IC:=oR [oM 36 9,oC 37 .gtr 36 0,oM 38 37,oH 39 (.mov (.t 0)) 38 true,oH 40 (.mov (.t 9)) 38 true,oH 41 (.bin .sub (.t 40) (ci 1)) 38 true,oH 42 (.iaddr 2 (.t 39) (.t 41)) 38 true,oH 43 (.load (some 2) (.t 42)) 38 true,oH 44 (.load (some 2) (.t 10)) 38 true,oG 45 (.call p.Yf8 [(.t 43),(.t 44)]) 38 true,oG 46 (.un .not (.t 45)) 38 true,qo 47 (.pick (.t 38) (.t 46) (.c (.d (.bool false)))),oA 35 47]
abbrev Jtek(p:Nums):IC:=(oQ (oR [oK 8 13]) .ret)
abbrev Jtel(p:Nums):IC:=(oQ (oR [oK 8 10]) .ret)
abbrev Jtem:IC:=(oQ (Jtej p) (.cond (.t 35) (Jtek p) .skip))
abbrev Jten(p:Nums):IC:=(oQ (oR [oK 8 9]) .ret)
abbrev Jted:IC:=(oQ (Jtei p) (.cond (.t 28) (Jtel p) (Jtem p)))
abbrev Jtee:IC:=(oQ (Jteh p) (.cond (.t 18) (Jten p) (Jted p)))
abbrev Jtef:IC:=(oQ (oR [oB 14 .lss 13 12]) (oQ (.cond (.t 14) .skip (.exit 0)) (oQ (.block 1 (oQ (Jteg p) (.block 2 (Jtee p)))) (oR [oC 48 .add 13 1,oM 13 48]))))
def Jtic:IC:=(oQ (oR [oK 8 0]) (oQ (oQ (Jtec p) (.block 0 (.loop (Jtef p)))) (oQ (oR [oK 8 0]) .ret)))
abbrev Jtdh(p:Nums):IC:=oR [qo 4 (.alloc [(zi 0),(zi 0)]),oK 5 0]
abbrev Jtdi(p:Nums):IC:=oR [oM 8 0,oE 9 8,qo 10 (.mov (ci 0))]
abbrev Jtdj(p:Nums):IC:=oR [oI 12 2 8 10,oN 13 2 12,qo 7 (.alloc [(zi 0),(zi 0)]),oS 2 7 13]
abbrev Jtdk:IC:=oR [oN 14 2 7,oM 15 1,qo 16 (.call p.Yf27 [(.t 14),(.t 15)]),qo 17 (.un .not (.t 16))]
abbrev Jtdl(p:Nums):IC:=oR [oN 18 2 7,oS 2 4 18,oK 5 23]
abbrev Jtdm:IC:=(oQ (Jtdj p) (oQ (Jtdk p) (.cond (.t 17) (oQ (Jtdl p) .ret) .skip)))
abbrev Jtdn:IC:=(oQ (oR [oB 11 .lss 10 9]) (oQ (.cond (.t 11) .skip (.exit 0)) (oQ (.block 1 (Jtdm p)) (oR [oC 19 .add 10 1,oM 10 19]))))
abbrev Jtdo(p:Nums):IC:=oR [qo 20 (.build [(zi 0),(zi 0)] []),oS 2 4 20,oK 5 0]
def Jti8:IC:=(oQ (Jtdh p) (oQ (oQ (Jtdi p) (.block 0 (.loop (Jtdn p)))) (oQ (Jtdo p) .ret)))
abbrev Jt6n(p:Nums):IC:=oR [qo 4 (.asg (.c .nils)),oK 5 0,oK 6 0]
abbrev Jt6r:IC:=oR [oM 11 8,oM 12 0,oM 13 8,qo 14 (.call p.Yf28 [(.t 12),(.t 13),(.c (.fn (.func p.Yf29) [] []))]),oM 15 9,oM 16 1,oM 17 9,qo 18 (.call p.Yf2a [(.t 16),(.t 17),(.c (.fn (.func p.Yf2b) [] []))]),qo 19 (.build [(zi 0),(zi 0),(zi 0),(zi 0),(zi 0),(zi 0)] [(0,1,(.t 11)),(1,1,(.t 14)),(2,1,(.t 15)),(3,1,(.t 18))]),qo 10 (.alloc [(zi 0),(zi 0),(zi 0),(zi 0),(zi 0),(zi 0)]),oS 6 10 19]
abbrev Jt6s(p:Nums):IC:=oR [pF 20 1 10,pL 21 20,pF 22 3 10,pL 23 22,pA 8 21,oA 9 23]
abbrev Jt6t(p:Nums):IC:=oR [oM 24 8,oM 25 0,oE 26 25,oB 27 .eql 24 26,oM 28 27,oG 29 (.mov (.t 9)) 28 true,oG 30 (.mov (.t 1)) 28 true,oG 31 (.len (.t 30)) 28 true,oG 32 (.bin .eql (.t 29) (.t 31)) 28 true,qo 33 (.pick (.t 28) (.t 32) (.c (.d (.bool false))))]
abbrev Jt6u(p:Nums):IC:=oR [oF 34 4 10,qn (.store 1 (.t 34) (ci (-1))),oF 35 5 10,qn (.store 1 (.t 35) (ci (-1)))]
abbrev Jt6v(p:Nums):IC:=oR [oM 36 7,oN 37 6 10,qo 38 (.bslice 6 1 [(.int .i64 0),(.int .i64 0),(.int .i64 0),(.int .i64 0),(.int .i64 0),(.int .i64 0)] [(0,(.t 37))]),qo 39 (.app 6 48 (.t 36) (.t 38)),oM 40 9,oA 4 39,oA 5 40,oK 6 0]
abbrev Jt6w:IC:=oR [pM 41 8,pM 42 0,pE 43 42,oB 44 .eql 41 43,oM 45 44,oH 46 (.mov (.t 9)) 45 false,oH 47 (.mov (.t 1)) 45 false,oH 48 (.len (.t 47)) 45 false,oG 49 (.bin .eql (.t 46) (.t 48)) 45 false,qo 50 (.pick (.t 45) (.c (.d (.bool true))) (.t 49)),oM 51 50,oH 52 (.mov (.t 0)) 51 false,oH 53 (.mov (.t 8)) 51 false,oH 54 (.iaddr 5 (.t 52) (.t 53)) 51 false,oH 55 (.load (some 5) (.t 54)) 51 false,oH 56 (.mov (.t 1)) 51 false,oH 57 (.mov (.t 9)) 51 false,oH 58 (.iaddr 7 (.t 56) (.t 57)) 51 false,oH 59 (.load (some 7) (.t 58)) 51 false,oG 60 (.call p.Yf2c [(.t 55),(.t 59)]) 51 false,oG 61 (.un .not (.t 60)) 51 false,qo 62 (.pick (.t 51) (.c (.d (.bool true))) (.t 61))]
abbrev Jt6x(p:Nums):IC:=oR [oM 63 9,qo 4 (.asg (.c .nils)),oA 5 63,oK 6 20]
abbrev Jt6y(p:Nums):IC:=oR [oM 64 8,oM 65 9,oF 66 4 10,oS 1 66 64,oF 67 5 10,oS 1 67 65]
abbrev Jt6o(p:Nums):IC:=oR [oM 68 7,oN 69 6 10,qo 70 (.bslice 6 1 [(.int .i64 0),(.int .i64 0),(.int .i64 0),(.int .i64 0),(.int .i64 0),(.int .i64 0)] [(0,(.t 69))]),qo 71 (.app 6 48 (.t 68) (.t 70)),oA 7 71]
abbrev Jt6p(p:Nums):IC:=oR [oM 72 8,oC 73 .add 72 1,oM 74 9,oC 75 .add 74 1,oA 8 73,oA 9 75]
abbrev Jt6q:IC:=(oQ (Jt6r p) (oQ (Jt6s p) (oQ (oQ (Jt6t p) (.cond (.t 33) (oQ (Jt6u p) (oQ (Jt6v p) .ret)) .skip)) (oQ (oQ (Jt6w p) (.cond (.t 62) (oQ (Jt6x p) .ret) .skip)) (oQ (Jt6y p) (oQ (Jt6o p) (Jt6p p)))))))
def Jthp:IC:=(oQ (Jt6n p) (oQ (oR [qo 7 (.asg (.c .nils))]) (oQ (oR [oK 8 0,oK 9 0]) (.block 0 (.loop (.block 1 (Jt6q p)))))))
abbrev Jt73(p:Nums):IC:=oR [qo 2 (.box (.t 0)),qo 3 (.box (.t 1)),qo 4 (.asg (.c (.d (.bool false))))]
abbrev Jt74(p:Nums):IC:=oR [oF 5 0 2,oL 6 5,oF 7 0 3,oL 8 7,oB 9 .eql 6 8,oM 10 9,oG 11 (.faddr 2 (.t 2)) 10 true,oG 12 (.load none (.t 11)) 10 true,oG 13 (.faddr 2 (.t 3)) 10 true,oG 14 (.load none (.t 13)) 10 true,oG 15 (.bin .eql (.t 12) (.t 14)) 10 true,qo 16 (.pick (.t 10) (.t 15) (.c (.d (.bool false)))),oM 17 16,oG 18 (.faddr 3 (.t 2)) 17 true,oG 19 (.load none (.t 18)) 17 true,oG 20 (.faddr 3 (.t 3)) 17 true,oG 21 (.load none (.t 20)) 17 true,oG 22 (.bin .eql (.t 19) (.t 21)) 17 true,qo 23 (.pick (.t 17) (.t 22) (.c (.d (.bool false)))),oA 4 23]
def Jthr:IC:=(oQ (Jt73 p) (oQ (Jt74 p) .ret))
abbrev Jtr0:IC:=oR [oF 9 0 3,oL 10 9,qo 11 (.call p.Yf2g [(.t 10)]),qo 12 (.un .not (.t 11))]
abbrev Jtr1(p:Nums):IC:=(oQ (oR [oK 6 8]) .ret)
abbrev Jtr2:IC:=oR [qo 13 (.call p.Yf2h []),qo 7 (.alloc [.nilfn,.nilfn]),oS 2 7 13]
abbrev Jtr3(p:Nums):IC:=oR [oF 14 0 3,oL 15 14,oC 16 .eql 15 18]
abbrev Jtr4:IC:=oR [qo 17 (.call p.Yf2i []),oS 2 7 17]
abbrev Jtr5(p:Nums):IC:=oR [oF 18 0 7,oL 19 18,oN 20 7 3,oM 21 1,oM 22 2,qo 23 (.callv (.t 19) [(.t 20),(.t 21),(.t 22)]),oA 8 23]
abbrev Jtr6(p:Nums):IC:=(oQ (oR [oM 26 8,oA 6 26]) .ret)
abbrev Jtr7(p:Nums):IC:=oR [oF 27 1 7,oL 28 27,oN 29 7 3,qo 30 (.callv (.t 28) [(.t 29)]),qo 31 (.un .not (.t 30))]
abbrev Jtr8(p:Nums):IC:=(oQ (oR [oK 6 12]) .ret)
def Jtiu:IC:=(oQ (oR [qo 3 (.box (.t 0)),oK 6 0]) (oQ (oQ (Jtr0 p) (.cond (.t 12) (Jtr1 p) .skip)) (oQ (Jtr2 p) (oQ (oQ (Jtr3 p) (.cond (.t 16) (Jtr4 p) .skip)) (oQ (oQ (Jtr5 p) (oQ (oR [oM 24 8,oC 25 .neq 24 0]) (.cond (.t 25) (Jtr6 p) .skip))) (oQ (oQ (Jtr7 p) (.cond (.t 31) (Jtr8 p) .skip)) (oQ (oR [oK 6 0]) .ret)))))))
abbrev Jtpo:IC:=oR [oM 9 0,oC 10 .geq 9 0,oM 11 10,oG 12 (.mov (.t 0)) 11 true,oG 13 (.call p.Yf1m [(.t 12)]) 11 true,oG 14 (.mov (.t 2)) 11 true,oG 15 (.bin .lss (.t 13) (.t 14)) 11 true,qo 16 (.pick (.t 11) (.t 15) (.c (.d (.bool false)))),oA 6 16]
abbrev Jtpp:IC:=oR [oM 17 0,oC 18 .geq 17 0,oM 19 18,oG 20 (.mov (.t 0)) 19 true,oG 21 (.call p.Yf1m [(.t 20)]) 19 true,oG 22 (.mov (.t 1)) 19 true,oG 23 (.bin .lss (.t 21) (.t 22)) 19 true,qo 24 (.pick (.t 19) (.t 23) (.c (.d (.bool false)))),oA 6 24]
def Jtin:IC:=(oQ (oR [qo 6 (.asg (.c (.d (.bool false))))]) (oQ (oQ (oR [oM 7 0,qo 8 (.call p.Yf1l [(.t 7)])]) (.cond (.t 8) (oQ (Jtpo p) .ret) .skip)) (oQ (Jtpp p) .ret)))
abbrev Jtdv(p:Nums):IC:=oR [oF 5 0 2,oL 6 5,oM 7 1,oB 8 .lss 6 7]
abbrev Jtdw:IC:=oR [pF 9 1 2,pL 10 9,pF 11 0 2,pL 12 11,qp 13 (.call p.Yf1d [(.t 12)]),oB 14 .eql 10 13,oA 4 14]
abbrev Jtdx:IC:=oR [oF 15 1 2,oL 16 15,qo 17 (.call p.Yf1l [(.t 16)]),qo 18 (.un .not (.t 17)),oM 19 18,oG 20 (.faddr 1 (.t 2)) 19 false,oG 21 (.load none (.t 20)) 19 false,oG 22 (.call p.Yf1m [(.t 21)]) 19 false,oG 23 (.mov (.t 1)) 19 false,oG 24 (.bin .geq (.t 22) (.t 23)) 19 false,qo 25 (.pick (.t 19) (.c (.d (.bool true))) (.t 24)),oA 4 25]
def Jtia:IC:=(oQ (oR [qo 2 (.box (.t 0)),qo 4 (.asg (.c (.d (.bool false))))]) (oQ (oQ (Jtdv p) (.cond (.t 8) (oQ (Jtdw p) .ret) .skip)) (oQ (Jtdx p) .ret)))
abbrev Jt7a(p:Nums):IC:=oR [oM 7 1,oM 8 0,oE 9 8,oB 10 .lss 7 9,oM 11 10,oG 12 (.mov (.t 2)) 11 true,oG 13 (.mov (.t 0)) 11 true,oG 14 (.mov (.t 1)) 11 true,oG 15 (.iaddr 5 (.t 13) (.t 14)) 11 true,oG 16 (.load (some 5) (.t 15)) 11 true,oG 17 (.callv (.t 12) [(.t 16)]) 11 true,qo 18 (.pick (.t 11) (.t 17) (.c (.d (.bool false))))]
abbrev Jt7b(p:Nums):IC:=oR [oM 19 1,oC 20 .add 19 1,oA 1 20]
abbrev Jt7c:IC:=(oQ (oQ (Jt7a p) (.cond (.t 18) .skip (.exit 0))) (.block 1 (Jt7b p)))
def Jthu:IC:=(oQ (oR [oK 6 0]) (oQ (.block 0 (.loop (Jt7c p))) (oQ (oR [oM 21 1,oA 6 21]) .ret)))
abbrev Jt76(p:Nums):IC:=oR [oF 3 0 1,oL 4 3,oC 5 .eql 4 2,oA 2 5]
def Jths:IC:=(oQ (oR [qo 1 (.box (.t 0)),qo 2 (.asg (.c (.d (.bool false))))]) (oQ (Jt76 p) .ret))
abbrev Jt7e(p:Nums):IC:=oR [oM 7 1,oM 8 0,oE 9 8,oB 10 .lss 7 9,oM 11 10,oG 12 (.mov (.t 2)) 11 true,oG 13 (.mov (.t 0)) 11 true,oG 14 (.mov (.t 1)) 11 true,oG 15 (.iaddr 7 (.t 13) (.t 14)) 11 true,oG 16 (.load (some 7) (.t 15)) 11 true,oG 17 (.callv (.t 12) [(.t 16)]) 11 true,qo 18 (.pick (.t 11) (.t 17) (.c (.d (.bool false))))]
abbrev Jt7f(p:Nums):IC:=oR [oM 19 1,oC 20 .add 19 1,oA 1 20]
abbrev Jt7g:IC:=(oQ (oQ (Jt7e p) (.cond (.t 18) .skip (.exit 0))) (.block 1 (Jt7f p)))
def Jthv:IC:=(oQ (oR [oK 6 0]) (oQ (.block 0 (.loop (Jt7g p))) (oQ (oR [oM 21 1,oA 6 21]) .ret)))
abbrev Jt78(p:Nums):IC:=oR [oF 3 0 1,oL 4 3,oC 5 .eql 4 18,oA 2 5]
def Jtht:IC:=(oQ (oR [qo 1 (.box (.t 0)),qo 2 (.asg (.c (.d (.bool false))))]) (oQ (Jt78 p) .ret))
abbrev Jt70(p:Nums):IC:=oR [qo 2 (.box (.t 0)),qo 3 (.box (.t 1)),qo 4 (.asg (.c (.d (.bool false))))]
abbrev Jt71(p:Nums):IC:=oR [oF 5 0 2,oL 6 5,oF 7 0 3,oL 8 7,oB 9 .eql 6 8,oM 10 9,oG 11 (.faddr 4 (.t 2)) 10 true,oG 12 (.load none (.t 11)) 10 true,oG 13 (.faddr 4 (.t 3)) 10 true,oG 14 (.load none (.t 13)) 10 true,oG 15 (.bin .eql (.t 12) (.t 14)) 10 true,qo 16 (.pick (.t 10) (.t 15) (.c (.d (.bool false)))),oM 17 16,oG 18 (.faddr 0 (.t 2)) 17 true,oG 19 (.load none (.t 18)) 17 true,oG 20 (.bin .neq (.t 19) (ci 2)) 17 true,qo 21 (.pick (.t 17) (.t 20) (.c (.d (.bool false)))),oM 22 21,oG 23 (.faddr 0 (.t 2)) 22 true,oG 24 (.load none (.t 23)) 22 true,oG 25 (.bin .neq (.t 24) (ci 18)) 22 true,qo 26 (.pick (.t 22) (.t 25) (.c (.d (.bool false)))),oA 4 26]
def Jthq:IC:=(oQ (Jt70 p) (oQ (Jt71 p) .ret))
abbrev Jt8w(p:Nums):IC:=oR [oF 11 0 5,oL 12 11,oF 13 0 7,oL 14 13,oF 15 1 7,oL 16 15,qo 17 (.slc 5 (.t 12) (some (.t 14)) (some (.t 16))),oE 18 17,qo 19 (.mov (ci 0))]
abbrev Jt91(p:Nums):IC:=oR [oI 21 5 17 19,oN 22 5 21,qo 9 (.alloc [(zi 0),(zi 0),(zi 0),(zi 0),(zi 0)]),oS 5 9 22]
abbrev Jt92:IC:=oR [pM 25 0,pM 26 0,qp 27 (.nilck (.t 26)),pF 28 0 27,pL 29 28,pF 30 1 9,pL 31 30,pF 32 2 9,pL 33 32,qp 34 (.call p.Yf2l [(.t 29),(.t 31),(.t 33)]),pF 35 2 7,pL 36 35,qo 37 (.call p.Yf2k [(.t 25),(.t 34),(.t 36)])]
abbrev Jt93:IC:=(oQ (Jt91 p) (oQ (oR [oM 23 0,qo 24 (.call p.Yf2j [(.t 23)])]) (Jt92 p)))
abbrev Jt94:IC:=(oQ (oR [oB 20 .lss 19 18]) (oQ (.cond (.t 20) .skip (.exit 0)) (oQ (.block 1 (Jt93 p)) (oR [oC 38 .add 19 1,oM 19 38]))))
abbrev Jt95(p:Nums):IC:=oR [oF 39 2 7,oL 40 39,oA 10 40]
abbrev Jt96(p:Nums):IC:=oR [oM 41 10,oF 42 3 7,oL 43 42,oB 44 .lss 41 43]
abbrev Jt97:IC:=oR [pM 49 0,pM 50 0,qp 51 (.nilck (.t 50)),pF 52 0 51,pL 53 52,pF 54 0 6,pL 55 54,pM 56 10,pI 57 7 55 56,pF 58 5 57,pL 59 58,pF 60 0 6,pL 61 60,pM 62 10,pI 63 7 61 62,pF 64 6 63,pL 65 64,qp 66 (.call p.Yf2m [(.t 53),(.t 59),(.t 65)]),pM 67 10,qo 68 (.call p.Yf2k [(.t 49),(.t 66),(.t 67)])]
abbrev Jt98:IC:=(oQ (oR [oM 47 0,qo 48 (.call p.Yf2j [(.t 47)])]) (Jt97 p))
abbrev Jt8x(p:Nums):IC:=oR [oM 45 10,oC 46 .add 45 1,oA 10 46]
abbrev Jt8y:IC:=(oQ (oQ (Jt96 p) (.cond (.t 44) .skip (.exit 2))) (oQ (.block 3 (Jt98 p)) (Jt8x p)))
abbrev Jt8z(p:Nums):IC:=oR [oF 69 4 7,oL 70 69,oC 71 .geq 70 0]
abbrev Jt90:IC:=oR [pM 72 0,pF 73 0 5,pL 74 73,pF 75 4 7,pL 76 75,pI 77 5 74 76,pN 78 5 77,pF 79 0 6,pL 80 79,pF 81 5 7,pL 82 81,pI 83 7 80 82,pN 84 7 83,pF 85 5 7,pL 86 85,qo 87 (.call p.Yf2n [(.t 72),(.t 78),(.t 84),(.t 86)])]
def Jti0:IC:=(oQ (oR [qo 5 (.box (.t 1)),qo 6 (.box (.t 2)),qo 7 (.box (.t 3))]) (oQ (oQ (Jt8w p) (.block 0 (.loop (Jt94 p)))) (oQ (oQ (Jt95 p) (.block 2 (.loop (Jt8y p)))) (oQ (Jt8z p) (.cond (.t 71) (Jt90 p) .skip)))))
abbrev Jt9o:IC:=oR [pM 10 0,qp 11 (.nilck (.t 10)),pF 12 0 11,pL 13 12,pM 14 1,pM 15 2,qp 16 (.call p.Yf1f [(.t 15)]),qp 17 (.build [(zi 0),(zi 0)] [(0,1,(.t 14)),(1,1,(.t 16))]),qo 18 (.call p.Yf4 [(.t 13),(.t 17)]),qo 19 (.un .not (.t 18))]
abbrev Jt9p:IC:=oR [oM 20 3,qo 21 (.build [(zi 0),(zi 0)] [(0,1,(ci 21)),(1,1,(.t 20))]),qo 22 (.mkif p.Yf3g (.t 21)),qn (.pan (.t 22))]
def Jti4:IC:=(oQ (oR [oM 8 0,qo 9 (.call p.Yf2j [(.t 8)])]) (oQ (Jt9o p) (.cond (.t 19) (Jt9p p) .skip)))
abbrev Jtun:IC:=oR [oM 3 0,qo 4 (.call p.Yf12 [(.t 3)]),oM 5 4,oG 6 (.mov (.t 0)) 5 true,oG 7 (.bin .neq (.t 6) (ci 2)) 5 true,qo 8 (.pick (.t 5) (.t 7) (.c (.d (.bool false)))),oA 2 8]
def Jtj2:IC:=(oQ (oR [qo 2 (.asg (.c (.d (.bool false))))]) (oQ (Jtun p) .ret))
abbrev Jtrz:IC:=oR [qo 1 (.build [.nilfn,.nilfn] [(0,1,(.c (.fn (.func p.Yf2o) [] []))),(1,1,(.c (.fn (.func p.Yf2p) [] [])))]),oS 2 0 1]
def Jtiz:IC:=(oQ (oR [qo 0 (.alloc [.nilfn,.nilfn])]) (oQ (Jtrz p) .ret))
abbrev Jtrt:IC:=oR [qo 1 (.build [.nilfn,.nilfn] [(0,1,(.c (.fn (.func p.Yf2q) [] []))),(1,1,(.c (.fn (.func p.Yf2r) [] [])))]),oS 2 0 1]
def Jtiw:IC:=(oQ (oR [qo 0 (.alloc [.nilfn,.nilfn])]) (oQ (Jtrt p) .ret))
abbrev Jt8o(p:Nums):IC:=oR [pM 2 0,qp 3 (.nilck (.t 2)),pF 4 2 3,pL 5 4,pM 6 0,qp 7 (.nilck (.t 6)),pF 8 0 7,pL 9 8,pE 10 9,qp 11 (.bin .add (ci 1) (.t 10)),oB 12 .add 5 11,qo 13 (.nilck (.t 2)),oF 14 2 13,oS 1 14 12]
def Jthy:IC:=(Jt8o p)
abbrev Jt8k(p:Nums):IC:=oR [oM 6 0,oM 7 0,oM 8 1,oM 9 0,qo 10 (.nilck (.t 9)),oF 11 3 10,oL 12 11,oM 13 1,oE 14 13,qo 15 (.mx (.t 12) (.t 14)),qo 16 (.nilck (.t 6)),oF 17 0 16,oS 1 17 8,qo 18 (.nilck (.t 7)),oF 19 3 18,oS 1 19 15]
abbrev Jt8l(p:Nums):IC:=oR [oM 20 1,oE 21 20,oM 22 0,qo 23 (.nilck (.t 22)),oF 24 1 23,oL 25 24,oB 26 .gtr 21 25]
abbrev Jt8m:IC:=oR [oM 27 2,qo 28 (.build [(zi 0),(zi 0)] [(0,1,(ci 24)),(1,1,(.t 27))]),qo 29 (.mkif p.Yf3g (.t 28)),qn (.pan (.t 29))]
def Jthx:IC:=(oQ (Jt8k p) (oQ (Jt8l p) (.cond (.t 26) (Jt8m p) .skip)))
abbrev Jt1eo(p:Nums):IC:=oR [oL 7 4,oL 8 5,oB 9 .eql 7 8]
abbrev Jt1ep:IC:=oR [oM 10 0,qo 11 (.call p.Yf3 [(.t 10)]),oA 6 11]
abbrev Jt1eq:IC:=oR [oM 12 0,oL 13 4,qo 14 (.call p.Yfd [(.t 12),(.t 13)]),oM 15 0,qo 16 (.mkfn (.func p.Yf2t) [] [(.t 4),(.t 5)]),qo 17 (.call p.Yf2s [(.t 14),(.t 15),(.t 16)]),oA 6 17]
def Jtkp:IC:=(oQ (oR [qo 4 (.box (.t 1)),qo 5 (.box (.t 2)),qo 6 (.asg (.c .nils))]) (oQ (oQ (Jt1eo p) (.cond (.t 9) (oQ (Jt1ep p) .ret) .skip)) (oQ (Jt1eq p) .ret)))
abbrev Jt1ex(p:Nums):IC:=oR [oL 7 4,oL 8 5,oB 9 .eql 7 8]
abbrev Jt1ey:IC:=oR [oM 10 0,qo 11 (.call p.Yf3 [(.t 10)]),oA 6 11]
abbrev Jt1ez:IC:=oR [oM 12 0,oL 13 4,qo 14 (.call p.Yfe [(.t 12),(.t 13)]),oM 15 0,qo 16 (.mkfn (.func p.Yf2u) [] [(.t 4),(.t 5)]),qo 17 (.call p.Yf2s [(.t 14),(.t 15),(.t 16)]),oA 6 17]
def Jtkr:IC:=(oQ (oR [qo 4 (.box (.t 1)),qo 5 (.box (.t 2)),qo 6 (.asg (.c .nils))]) (oQ (oQ (Jt1ex p) (.cond (.t 9) (oQ (Jt1ey p) .ret) .skip)) (oQ (Jt1ez p) .ret)))
abbrev Jt8q:IC:=oR [oF 11 0 5,oL 12 11,qo 13 (.call p.Yfz [(.t 12)]),oM 10 13,oX 14 10 0,oX 15 10 1,qo 8 (.alloc [(.d (.bool false)),(.d (.bool false)),(.d (.bool false)),(.d (.bool false))]),oS 4 8 14,oA 9 15]
abbrev Jt8r:IC:=oR [oM 18 0,oF 19 2 5,oL 20 19,oF 21 2 6,oL 22 21,oM 23 3,qo 24 (.call p.Yf2f [(.t 18),(.t 20),(.t 22),(.t 23)])]
abbrev Jt8s:IC:=oR [oM 27 0,oF 28 3 5,oL 29 28,oF 30 3 6,oL 31 30,oM 32 3,qo 33 (.call p.Yf2f [(.t 27),(.t 29),(.t 31),(.t 32)])]
abbrev Jt8t:IC:=oR [pM 38 0,pM 39 0,qp 40 (.nilck (.t 39)),pF 41 0 40,pL 42 41,pF 43 1 5,pL 44 43,pF 45 1 6,pL 46 45,qp 47 (.call p.Yf1f [(.t 46)]),qp 48 (.call p.Yf2v [(.t 42),(.t 44),(.t 47)]),pM 49 3,qo 50 (.call p.Yf2k [(.t 38),(.t 48),(.t 49)])]
abbrev Jt8u:IC:=(oQ (oR [oM 36 0,qo 37 (.call p.Yf2j [(.t 36)])]) (Jt8t p))
def Jthz:IC:=(oQ (oR [qo 5 (.box (.t 1)),qo 6 (.box (.t 2))]) (oQ (Jt8q p) (oQ (oQ (oR [oF 16 1 8,oL 17 16]) (.cond (.t 17) (Jt8r p) .skip)) (oQ (oQ (oR [oF 25 2 8,oL 26 25]) (.cond (.t 26) (Jt8s p) .skip)) (oQ (oR [oF 34 0 8,oL 35 34]) (.cond (.t 35) (Jt8u p) .skip))))))
abbrev Jtrv:IC:=oR [oF 7 0 3,oL 8 7,oF 9 1 3,oL 10 9,oF 11 2 3,oL 12 11,oF 13 3 3,oL 14 13,oF 15 4 3,oL 16 15,qo 17 (.build [(zi 0),(zi 0),(zi 0),(zi 0),(zi 0)] [(0,1,(.t 8)),(1,1,(.t 10)),(2,1,(.t 12)),(3,1,(.t 14)),(4,1,(.t 16))]),oM 18 1,qo 19 (.call p.Yf1g [(.t 17),(.t 18)]),oA 6 19]
def Jtj0:IC:=(oQ (oR [qo 3 (.box (.t 0)),oK 6 0]) (oQ (Jtrv p) .ret))
abbrev Jtrx(p:Nums):IC:=oR [oF 3 5 1,oL 4 3,oC 5 .eql 4 0,oM 6 5,oG 7 (.faddr 6 (.t 1)) 6 true,oG 8 (.load none (.t 7)) 6 true,oG 9 (.bin .eql (.t 8) (ci 0)) 6 true,qo 10 (.pick (.t 6) (.t 9) (.c (.d (.bool false)))),oA 2 10]
def Jtj1:IC:=(oQ (oR [qo 1 (.box (.t 0)),qo 2 (.asg (.c (.d (.bool false))))]) (oQ (Jtrx p) .ret))
abbrev Jtrn:IC:=oR [oF 8 5 3,oL 9 8,qo 10 (.call p.Yf1l [(.t 9)]),oM 11 10,oG 12 (.faddr 6 (.t 3)) 11 true,oG 13 (.load none (.t 12)) 11 true,oG 14 (.call p.Yf1l [(.t 13)]) 11 true,qo 15 (.pick (.t 11) (.t 14) (.c (.d (.bool false)))),oA 7 15]
abbrev Jtro:IC:=oR [oM 16 7,oM 17 16,oG 18 (.faddr 5 (.t 3)) 17 false,oG 19 (.load none (.t 18)) 17 false,oG 20 (.mov (.t 1)) 17 false,oG 21 (.mov (.t 2)) 17 false,oG 22 (.call p.Yf26 [(.t 19),(.t 20),(.t 21)]) 17 false,oG 23 (.un .not (.t 22)) 17 false,qo 24 (.pick (.t 17) (.c (.d (.bool true))) (.t 23)),oM 25 24,oG 26 (.faddr 6 (.t 3)) 25 false,oG 27 (.load none (.t 26)) 25 false,oG 28 (.mov (.t 1)) 25 false,oG 29 (.mov (.t 2)) 25 false,oG 30 (.call p.Yf26 [(.t 27),(.t 28),(.t 29)]) 25 false,oG 31 (.un .not (.t 30)) 25 false,qo 32 (.pick (.t 25) (.c (.d (.bool true))) (.t 31))]
abbrev Jtrp(p:Nums):IC:=(oQ (oR [oK 6 10]) .ret)
def Jtix:IC:=(oQ (oR [qo 3 (.box (.t 0)),oK 6 0]) (oQ (Jtrn p) (oQ (oQ (Jtro p) (.cond (.t 32) (Jtrp p) .skip)) (oQ (oR [oK 6 0]) .ret))))
abbrev Jtrr(p:Nums):IC:=oR [oF 3 1 1,oL 4 3,oC 5 .eql 4 0,oM 6 5,oG 7 (.faddr 2 (.t 1)) 6 true,oG 8 (.load none (.t 7)) 6 true,oG 9 (.bin .eql (.t 8) (ci 0)) 6 true,qo 10 (.pick (.t 6) (.t 9) (.c (.d (.bool false)))),oM 11 10,oG 12 (.faddr 3 (.t 1)) 11 true,oG 13 (.load none (.t 12)) 11 true,oG 14 (.bin .eql (.t 13) (ci 0)) 11 true,qo 15 (.pick (.t 11) (.t 14) (.c (.d (.bool false)))),oM 16 15,oG 17 (.faddr 4 (.t 1)) 16 true,oG 18 (.load none (.t 17)) 16 true,oG 19 (.bin .eql (.t 18) (ci 0)) 16 true,qo 20 (.pick (.t 16) (.t 19) (.c (.d (.bool false)))),oA 2 20]
def Jtiy:IC:=(oQ (oR [qo 1 (.box (.t 0)),qo 2 (.asg (.c (.d (.bool false))))]) (oQ (Jtrr p) .ret))
abbrev Jt1f2(p:Nums):IC:=oR [oM 12 1,oE 13 12,qo 14 (.mov (ci 0))]
abbrev Jt1f3(p:Nums):IC:=oR [oI 16 2 12 14,oN 17 2 16,qo 9 (.alloc [(zi 0),(zi 0)]),oS 2 9 17]
abbrev Jt1f4(p:Nums):IC:=oR [oM 19 2,oN 20 2 9,qo 21 (.callv (.t 19) [(.t 20)]),oM 18 21,oX 22 18 0,oX 23 18 1,qo 10 (.alloc [(zi 0),(zi 0)]),oS 2 10 22,oA 11 23]
abbrev Jt1f5(p:Nums):IC:=oR [oM 25 7,oN 26 2 10,qo 27 (.bslice 2 1 [(.int .i64 0),(.int .i64 0)] [(0,(.t 26))]),qo 28 (.app 2 16 (.t 25) (.t 27)),oA 7 28]
abbrev Jt1f6:IC:=(oQ (Jt1f3 p) (oQ (Jt1f4 p) (oQ (oR [oM 24 11]) (.cond (.t 24) (Jt1f5 p) .skip))))
abbrev Jt1f7:IC:=(oQ (oR [oB 15 .lss 14 13]) (oQ (.cond (.t 15) .skip (.exit 0)) (oQ (.block 1 (Jt1f6 p)) (oR [oC 29 .add 14 1,oM 14 29]))))
abbrev Jt1f8:IC:=oR [oM 30 0,oM 31 7,qo 32 (.call p.Yf3 [(.t 31)]),qo 33 (.call p.Yf7 [(.t 30),(.t 32)]),oA 6 33]
def Jtks:IC:=(oQ (oR [qo 6 (.asg (.c .nils))]) (oQ (oR [qo 7 (.asg (.c .nils))]) (oQ (oQ (Jt1f2 p) (.block 0 (.loop (Jt1f7 p)))) (oQ (Jt1f8 p) .ret))))
abbrev Jt1et:IC:=oR [oM 8 0,oM 9 1,qo 10 (.call p.Yfd [(.t 8),(.t 9)]),oM 11 2,qo 12 (.call p.Yfe [(.t 10),(.t 11)]),oA 7 12]
abbrev Jt1eu:IC:=oR [oM 13 7,oM 14 1,oM 15 2,qo 16 (.build [(zi 0),(zi 0)] [(0,1,(.t 14)),(1,1,(.t 15))]),qo 17 (.call p.Yf6 [(.t 13),(.t 16)]),oA 6 17]
def Jtkq:IC:=(oQ (oR [qo 6 (.asg (.c .nils))]) (oQ (Jt1et p) (oQ (Jt1eu p) .ret)))
abbrev Jtmc:IC:=oR [qo 11 (.call p.Yf2x []),qo 12 (.un .not (.t 11)),oM 13 12,oG 14 (.load (some 8) (.t 3)) 13 false,oG 15 (.call p.Yf2y [(.t 14)]) 13 false,oG 16 (.un .not (.t 15)) 13 false,qo 17 (.pick (.t 13) (.c (.d (.bool true))) (.t 16)),oM 18 17,oG 19 (.load (some 8) (.t 3)) 18 false,oG 20 (.call p.Yf1p [(.t 19)]) 18 false,oG 21 (.fld 0 none (.t 20)) 18 false,oG 22 (.bin .neq (.t 21) (ci 0)) 18 false,qo 23 (.pick (.t 18) (.c (.d (.bool true))) (.t 22))]
abbrev Jtme:IC:=(oQ (oR [qo 24 (.call p.Yf2x []),oA 6 24]) .ret)
abbrev Jtmf:IC:=oR [oN 26 8 3,qo 27 (.call p.Yf33 [(.t 26)]),oM 25 27,oX 28 25 0,oX 29 25 1,qo 7 (.alloc [(zi 0),(zi 0),.nils,(zi 0),(zi 0),(zi 0),.nils,.nils]),oS 8 7 28,oA 8 29]
abbrev Jtmg:IC:=oR [oM 30 8,oC 31 .neq 30 0,oM 32 31,oG 33 (.load (some 8) (.t 7)) 32 false,oG 34 (.call p.Yf1p [(.t 33)]) 32 false,oG 35 (.fld 0 none (.t 34)) 32 false,oG 36 (.bin .neq (.t 35) (ci 0)) 32 false,qo 37 (.pick (.t 32) (.c (.d (.bool true))) (.t 36)),oM 38 37,oG 39 (.load (some 8) (.t 7)) 38 false,oG 40 (.load (some 8) (.t 3)) 38 false,oG 41 (.call p.Yf34 [(.t 39),(.t 40)]) 38 false,oG 42 (.un .not (.t 41)) 38 false,qo 43 (.pick (.t 38) (.c (.d (.bool true))) (.t 42)),oM 44 43,oG 45 (.faddr 7 (.t 7)) 44 false,oG 46 (.load none (.t 45)) 44 false,oG 47 (.len (.t 46)) 44 false,oG 48 (.bin .eql (.t 47) (ci 0)) 44 false,qo 49 (.pick (.t 44) (.c (.d (.bool true))) (.t 48))]
abbrev Jtmh(p:Nums):IC:=(oQ (oR [qo 6 (.asg (.c (.d (.bool false))))]) .ret)
abbrev Jtmi(p:Nums):IC:=oR [oM 50 1,qo 51 (.conv .i64 (.t 50)),oF 52 7 7,oL 53 52,oE 54 53,oB 55 .rem 51 54,oA 9 55]
abbrev Jtmj(p:Nums):IC:=oR [oF 56 7 7,oL 57 56,oM 58 9,oI 59 1 57 58,oL 60 59,oE 61 60,oC 62 .eql 61 0]
abbrev Jtmk(p:Nums):IC:=(oQ (oR [qo 6 (.asg (.c (.d (.bool true))))]) .ret)
abbrev Jtml(p:Nums):IC:=oR [oM 63 2,qo 64 (.conv .i64 (.t 63)),oF 65 7 7,oL 66 65,oM 67 9,oI 68 1 66 67,oL 69 68,oE 70 69,oB 71 .rem 64 70,oA 10 71]
abbrev Jtmd:IC:=oR [pN 72 8 7,pM 73 9,pF 74 7 7,pL 75 74,pM 76 9,pI 77 1 75 76,pL 78 77,pM 79 10,pI 80 2 78 79,pN 81 2 80,qo 82 (.call p.Yf2z [(.t 72),(.t 73),(.t 81)]),qo 83 (.call p.Yf1p [(.t 82)]),qo 84 (.fld 0 none (.t 83)),oC 85 .neq 84 0,oA 6 85]
def Jtie:IC:=(oQ (oR [qo 3 (.box (.t 0)),qo 6 (.asg (.c (.d (.bool false))))]) (oQ (oQ (Jtmc p) (.cond (.t 23) (Jtme p) .skip)) (oQ (Jtmf p) (oQ (oQ (Jtmg p) (.cond (.t 49) (Jtmh p) .skip)) (oQ (Jtmi p) (oQ (oQ (Jtmj p) (.cond (.t 62) (Jtmk p) .skip)) (oQ (Jtml p) (oQ (Jtmd p) .ret))))))))
abbrev Jtmn(p:Nums):IC:=oR [qo 10 (.build [(zi 0),(zi 0),(zi 0),(zi 0)] [(0,1,(ci 3))]),qo 11 (.build [.nils,(zi 0),(zi 0),(zi 0),(zi 0)] [(1,4,(.t 10))]),qo 12 (.bslice 5 1 [(.sl []),(.int .i64 0),(.int .i64 0),(.int .i64 0),(.int .i64 0)] [(0,(.t 11))]),qo 13 (.build [(zi 0),(zi 0),.nils] [(1,1,(ci 3)),(2,1,(.t 12))]),qo 1 (.alloc [(zi 0),(zi 0),.nils]),oS 3 1 13]
abbrev Jtmo:IC:=oR [oN 15 3 1,qo 16 (.call p.Yf13 [(.t 15)]),oM 14 16,oX 17 14 0,oX 18 14 1,qo 2 (.alloc [(zi 0),(zi 0),.nils,(zi 0),(zi 0),(zi 0),.nils,.nils]),oS 8 2 17,oA 3 18]
abbrev Jtmp:IC:=oR [oN 20 8 2,qo 21 (.call p.Yf32 [(.t 20)]),oM 19 21,oX 22 19 0,oX 23 19 1,qo 4 (.alloc [(zi 0),(zi 0),.nils,(zi 0),(zi 0),(zi 0),.nils,.nils]),oS 8 4 22,oA 5 23]
abbrev Jtmq:IC:=oR [oN 25 8 2,qo 26 (.call p.Yf33 [(.t 25)]),oM 24 26,oX 27 24 0,oX 28 24 1,qo 6 (.alloc [(zi 0),(zi 0),.nils,(zi 0),(zi 0),(zi 0),.nils,.nils]),oS 8 6 27,oA 7 28]
abbrev Jtmr:IC:=oR [qo 30 (.build [(zi 0),(zi 0),.nils,(zi 0),(zi 0),(zi 0),.nils,.nils] []),qo 31 (.call p.Yf32 [(.t 30)]),oM 29 31,oX 32 29 0,oX 33 29 1,qo 8 (.alloc [(zi 0),(zi 0),.nils,(zi 0),(zi 0),(zi 0),.nils,.nils]),oS 8 8 32,oA 9 33]
abbrev Jtms(p:Nums):IC:=oR [oF 34 7 4,oL 35 34,oE 36 35,oC 37 .neq 36 1,oM 38 37,oG 39 (.faddr 7 (.t 6)) 38 false,oG 40 (.load none (.t 39)) 38 false,oG 41 (.len (.t 40)) 38 false,oG 42 (.bin .neq (.t 41) (ci 1)) 38 false,qo 43 (.pick (.t 38) (.c (.d (.bool true))) (.t 42))]
abbrev Jtmt(p:Nums):IC:=(oQ (oR [qo 0 (.asg (.c (.d (.bool false))))]) .ret)
abbrev Jtmu:IC:=oR [oM 44 5,oC 45 .eql 44 0,oM 46 45,oG 47 (.faddr 7 (.t 4)) 46 true,oG 48 (.load none (.t 47)) 46 true,oG 49 (.iaddr 1 (.t 48) (ci 0)) 46 true,oG 50 (.load none (.t 49)) 46 true,oG 51 (.build [(zi 0),(zi 0)] [(0,1,(ci 0)),(1,1,(ci 1))]) 46 true,oG 52 (.bslice 2 1 [(.int .i64 0),(.int .i64 0)] [(0,(.t 51))]) 46 true,oG 53 (.call p.Yf2 [(.t 50),(.t 52)]) 46 true,qo 54 (.pick (.t 46) (.t 53) (.c (.d (.bool false)))),oM 55 54,oG 56 (.mov (.t 7)) 55 true,oG 57 (.bin .eql (.t 56) (ci 0)) 55 true,qo 58 (.pick (.t 55) (.t 57) (.c (.d (.bool false)))),oM 59 58,oG 60 (.faddr 7 (.t 6)) 59 true,oG 61 (.load none (.t 60)) 59 true,oG 62 (.iaddr 1 (.t 61) (ci 0)) 59 true,oG 63 (.load none (.t 62)) 59 true,oG 64 (.build [(zi 0),(zi 0)] [(0,1,(ci 0)),(1,1,(ci 1))]) 59 true,oG 65 (.bslice 2 1 [(.int .i64 0),(.int .i64 0)] [(0,(.t 64))]) 59 true,oG 66 (.call p.Yf2 [(.t 63),(.t 65)]) 59 true,qo 67 (.pick (.t 59) (.t 66) (.c (.d (.bool false)))),oM 68 67,oG 69 (.mov (.t 9)) 68 true,oG 70 (.bin .eql (.t 69) (ci 14)) 68 true,qo 71 (.pick (.t 68) (.t 70) (.c (.d (.bool false)))),oM 72 71,oG 73 (.load (some 8) (.t 2)) 72 true,oG 74 (.call p.Yf30 [(.t 73)]) 72 true,oG 75 (.bin .eql (.t 74) (ci 3)) 72 true,qo 76 (.pick (.t 72) (.t 75) (.c (.d (.bool false)))),oM 77 76,oG 78 (.load (some 8) (.t 2)) 77 true,oG 79 (.build [(zi 0),(zi 0)] [(0,1,(ci 2)),(1,1,(ci 5))]) 77 true,oG 80 (.call p.Yf2z [(.t 78),(ci 0),(.t 79)]) 77 true,oG 81 (.call p.Yf30 [(.t 80)]) 77 true,oG 82 (.bin .eql (.t 81) (ci 2)) 77 true,qo 83 (.pick (.t 77) (.t 82) (.c (.d (.bool false)))),oA 0 83]
def Jtif:IC:=(oQ (oR [qo 0 (.asg (.c (.d (.bool false))))]) (oQ (Jtmn p) (oQ (Jtmo p) (oQ (Jtmp p) (oQ (Jtmq p) (oQ (Jtmr p) (oQ (oQ (Jtms p) (.cond (.t 43) (Jtmt p) .skip)) (oQ (Jtmu p) .ret))))))))
abbrev Jt14j:IC:=oR [oN 3 8 1,qo 4 (.call p.Yf1n [(.t 3)]),oM 5 4,oG 6 (.load (some 8) (.t 1)) 5 true,oG 7 (.call p.Yf31 [(.t 6)]) 5 true,oG 8 (.bin .leq (.t 7) (ci 24)) 5 true,qo 9 (.pick (.t 5) (.t 8) (.c (.d (.bool false)))),oM 10 9,oG 11 (.faddr 7 (.t 1)) 10 true,oG 12 (.load none (.t 11)) 10 true,oG 13 (.len (.t 12)) 10 true,oG 14 (.bin .leq (.t 13) (ci 6)) 10 true,qo 15 (.pick (.t 10) (.t 14) (.c (.d (.bool false)))),oM 16 15,oG 17 (.faddr 0 (.t 1)) 16 true,oG 18 (.load (some 3) (.t 17)) 16 true,oG 19 (.call p.Yfk [(.t 18)]) 16 true,oG 20 (.bin .leq (.t 19) (ci 60)) 16 true,qo 21 (.pick (.t 16) (.t 20) (.c (.d (.bool false)))),oM 22 21,oG 23 (.faddr 3 (.t 1)) 22 true,oG 24 (.load (some 4) (.t 23)) 22 true,oG 25 (.call p.Yf19 [(.t 24)]) 22 true,oG 26 (.bin .leq (.t 25) (ci 200)) 22 true,qo 27 (.pick (.t 22) (.t 26) (.c (.d (.bool false)))),oA 2 27]
def Jtk5:IC:=(oQ (oR [qo 1 (.box (.t 0)),qo 2 (.asg (.c (.d (.bool false))))]) (oQ (Jt14j p) .ret))
abbrev Jt1gq(p:Nums):IC:=oR [qo 3 (.box (.t 0)),qo 5 (.box (.t 2)),qo 6 (.alloc [(zi 0),(zi 0),.nils,(zi 0),(zi 0),(zi 0),.nils,.nils])]
abbrev Jt1gr:IC:=oR [oN 8 8 3,qo 9 (.call p.Yf35 [(.t 8)]),qo 7 (.alloc [(zi 0),(zi 0),.nils,(zi 0),(zi 0),(zi 0),.nils,.nils]),oS 8 7 9]
abbrev Jt1gs(p:Nums):IC:=oR [oM 10 1,oC 11 .geq 10 0,oM 12 11,oG 13 (.mov (.t 1)) 12 true,oG 14 (.faddr 7 (.t 7)) 12 true,oG 15 (.load none (.t 14)) 12 true,oG 16 (.len (.t 15)) 12 true,oG 17 (.bin .lss (.t 13) (.t 16)) 12 true,qo 18 (.pick (.t 12) (.t 17) (.c (.d (.bool false))))]
abbrev Jt1gt:IC:=(oQ (.tree (oT (oF 19 7 7) (oT (oM 21 1) (oT (oF 22 7 7) (oT (oM 24 1) (.alt (oT (oL 20 19) (.alt (oT (oL 23 22) (.alt (oT (oI 25 1 23 24) (.alt (oT (oL 26 25) (oT (qo 27 (.mkfn (.func p.Yf37) [] [(.t 5)])) (oT (qo 28 (.call p.Yf36 [(.t 26),(.t 27)])) (oT (oI 29 1 20 21) (oT (oS 1 29 28) .done))))) (oT (qo 27 (.mkfn (.func p.Yf37) [] [(.t 5)])) (oT (oL 26 25) (oT (qo 28 (.call p.Yf36 [(.t 26),(.t 27)])) (oT (oI 29 1 20 21) (oT (oS 1 29 28) .done))))))) (oT (qo 27 (.mkfn (.func p.Yf37) [] [(.t 5)])) (oT (oI 25 1 23 24) (oT (oL 26 25) (oT (qo 28 (.call p.Yf36 [(.t 26),(.t 27)])) (oT (oI 29 1 20 21) (oT (oS 1 29 28) .done)))))))) (oT (qo 27 (.mkfn (.func p.Yf37) [] [(.t 5)])) (oT (oL 23 22) (oT (oI 25 1 23 24) (oT (oL 26 25) (oT (qo 28 (.call p.Yf36 [(.t 26),(.t 27)])) (oT (oI 29 1 20 21) (oT (oS 1 29 28) .done))))))))) (.alt (oT (oL 23 22) (.alt (oT (oL 20 19) (.alt (oT (oI 25 1 23 24) (.alt (oT (oL 26 25) (oT (qo 27 (.mkfn (.func p.Yf37) [] [(.t 5)])) (oT (qo 28 (.call p.Yf36 [(.t 26),(.t 27)])) (oT (oI 29 1 20 21) (oT (oS 1 29 28) .done))))) (oT (qo 27 (.mkfn (.func p.Yf37) [] [(.t 5)])) (oT (oL 26 25) (oT (qo 28 (.call p.Yf36 [(.t 26),(.t 27)])) (oT (oI 29 1 20 21) (oT (oS 1 29 28) .done))))))) (oT (qo 27 (.mkfn (.func p.Yf37) [] [(.t 5)])) (oT (oI 25 1 23 24) (oT (oL 26 25) (oT (qo 28 (.call p.Yf36 [(.t 26),(.t 27)])) (oT (oI 29 1 20 21) (oT (oS 1 29 28) .done)))))))) (.alt (oT (oI 25 1 23 24) (.alt (oT (oL 20 19) (.alt (oT (oL 26 25) (oT (qo 27 (.mkfn (.func p.Yf37) [] [(.t 5)])) (oT (qo 28 (.call p.Yf36 [(.t 26),(.t 27)])) (oT (oI 29 1 20 21) (oT (oS 1 29 28) .done))))) (oT (qo 27 (.mkfn (.func p.Yf37) [] [(.t 5)])) (oT (oL 26 25) (oT (qo 28 (.call p.Yf36 [(.t 26),(.t 27)])) (oT (oI 29 1 20 21) (oT (oS 1 29 28) .done))))))) (.alt (oT (oL 26 25) (.alt (oT (oL 20 19) (oT (qo 27 (.mkfn (.func p.Yf37) [] [(.t 5)])) (oT (qo 28 (.call p.Yf36 [(.t 26),(.t 27)])) (oT (oI 29 1 20 21) (oT (oS 1 29 28) .done))))) (oT (qo 27 (.mkfn (.func p.Yf37) [] [(.t 5)])) (.alt (oT (oL 20 19) (oT (qo 28 (.call p.Yf36 [(.t 26),(.t 27)])) (oT (oI 29 1 20 21) (oT (oS 1 29 28) .done)))) (oT (qo 28 (.call p.Yf36 [(.t 26),(.t 27)])) (oT (oL 20 19) (oT (oI 29 1 20 21) (oT (oS 1 29 28) .done)))))))) (oT (qo 27 (.mkfn (.func p.Yf37) [] [(.t 5)])) (.alt (oT (oL 20 19) (oT (oL 26 25) (oT (qo 28 (.call p.Yf36 [(.t 26),(.t 27)])) (oT (oI 29 1 20 21) (oT (oS 1 29 28) .done))))) (oT (oL 26 25) (.alt (oT (oL 20 19) (oT (qo 28 (.call p.Yf36 [(.t 26),(.t 27)])) (oT (oI 29 1 20 21) (oT (oS 1 29 28) .done)))) (oT (qo 28 (.call p.Yf36 [(.t 26),(.t 27)])) (oT (oL 20 19) (oT (oI 29 1 20 21) (oT (oS 1 29 28) .done))))))))))) (oT (qo 27 (.mkfn (.func p.Yf37) [] [(.t 5)])) (.alt (oT (oL 20 19) (oT (oI 25 1 23 24) (oT (oL 26 25) (oT (qo 28 (.call p.Yf36 [(.t 26),(.t 27)])) (oT (oI 29 1 20 21) (oT (oS 1 29 28) .done)))))) (oT (oI 25 1 23 24) (.alt (oT (oL 20 19) (oT (oL 26 25) (oT (qo 28 (.call p.Yf36 [(.t 26),(.t 27)])) (oT (oI 29 1 20 21) (oT (oS 1 29 28) .done))))) (oT (oL 26 25) (.alt (oT (oL 20 19) (oT (qo 28 (.call p.Yf36 [(.t 26),(.t 27)])) (oT (oI 29 1 20 21) (oT (oS 1 29 28) .done)))) (oT (qo 28 (.call p.Yf36 [(.t 26),(.t 27)])) (oT (oL 20 19) (oT (oI 29 1 20 21) (oT (oS 1 29 28) .done))))))))))))) (oT (qo 27 (.mkfn (.func p.Yf37) [] [(.t 5)])) (.alt (oT (oL 20 19) (oT (oL 23 22) (oT (oI 25 1 23 24) (oT (oL 26 25) (oT (qo 28 (.call p.Yf36 [(.t 26),(.t 27)])) (oT (oI 29 1 20 21) (oT (oS 1 29 28) .done))))))) (oT (oL 23 22) (.alt (oT (oL 20 19) (oT (oI 25 1 23 24) (oT (oL 26 25) (oT (qo 28 (.call p.Yf36 [(.t 26),(.t 27)])) (oT (oI 29 1 20 21) (oT (oS 1 29 28) .done)))))) (oT (oI 25 1 23 24) (.alt (oT (oL 20 19) (oT (oL 26 25) (oT (qo 28 (.call p.Yf36 [(.t 26),(.t 27)])) (oT (oI 29 1 20 21) (oT (oS 1 29 28) .done))))) (oT (oL 26 25) (.alt (oT (oL 20 19) (oT (qo 28 (.call p.Yf36 [(.t 26),(.t 27)])) (oT (oI 29 1 20 21) (oT (oS 1 29 28) .done)))) (oT (qo 28 (.call p.Yf36 [(.t 26),(.t 27)])) (oT (oL 20 19) (oT (oI 29 1 20 21) (oT (oS 1 29 28) .done))))))))))))))))))) .cut)
def Jtkx:IC:=(oQ (Jt1gq p) (oQ (Jt1gr p) (oQ (oQ (Jt1gs p) (.cond (.t 18) (Jt1gt p) .skip)) (oQ (oR [oN 30 8 7,oS 8 6 30]) .ret))))
abbrev Jt1gj(p:Nums):IC:=oR [oF 6 7 1,oL 7 6,oE 8 7,qo 9 (.mov (ci 0))]
abbrev Jt1gk(p:Nums):IC:=oR [oI 11 1 7 9,oL 12 11,oA 5 12]
abbrev Jt1gl(p:Nums):IC:=oR [oM 13 3,oM 14 5,oE 15 14,oB 16 .add 13 15,oA 3 16]
abbrev Jt1gm:IC:=(oQ (oR [oB 10 .lss 9 8]) (oQ (.cond (.t 10) .skip (.exit 0)) (oQ (.block 1 (oQ (Jt1gk p) (Jt1gl p))) (oR [oC 17 .add 9 1,oM 9 17]))))
def Jtkw:IC:=(oQ (oR [qo 1 (.box (.t 0)),oK 2 0]) (oQ (oR [oK 3 0]) (oQ (oQ (Jt1gj p) (.block 0 (.loop (Jt1gm p)))) (oQ (oR [oM 18 3,oA 2 18]) .ret))))
abbrev Jt14l(p:Nums):IC:=oR [oM 5 4,oF 6 7 1,oL 7 6,oE 8 7,oB 9 .lss 5 8]
abbrev Jt14m(p:Nums):IC:=oR [oM 12 3,oF 13 7 1,oL 14 13,oM 15 4,oI 16 1 14 15,oL 17 16,oE 18 17,oB 19 .add 12 18,oA 3 19]
abbrev Jt14n(p:Nums):IC:=oR [oM 10 4,oC 11 .add 10 1,oA 4 11]
abbrev Jt14o:IC:=(oQ (oQ (Jt14l p) (.cond (.t 9) .skip (.exit 0))) (oQ (.block 1 (Jt14m p)) (Jt14n p)))
def Jtk6:IC:=(oQ (oR [qo 1 (.box (.t 0)),oK 2 0]) (oQ (oR [oK 3 0]) (oQ (oQ (oR [oK 4 0]) (.block 0 (.loop (Jt14o p)))) (oQ (oR [oM 20 3,oA 2 20]) .ret))))
abbrev Jt1g5(p:Nums):IC:=oR [qo 1 (.box (.t 0)),qo 2 (.alloc [(zi 0),(zi 0),.nils,(zi 0),(zi 0),(zi 0),.nils,.nils]),oK 3 0]
abbrev Jt1g6:IC:=oR [oN 8 8 1,qo 9 (.call p.Yf1p [(.t 8)]),qo 10 (.fld 0 none (.t 9)),oA 4 10]
abbrev Jt1g7(p:Nums):IC:=oR [qo 13 (.build [(zi 0),(zi 0),.nils,(zi 0),(zi 0),(zi 0),.nils,.nils] []),oM 14 4,oS 8 2 13,oA 3 14]
abbrev Jt1g8:IC:=oR [oN 15 8 1,qo 16 (.call p.Yf35 [(.t 15)]),qo 5 (.alloc [(zi 0),(zi 0),.nils,(zi 0),(zi 0),(zi 0),.nils,.nils]),oS 8 5 16]
abbrev Jt1g9:IC:=oR [oF 17 0 1,oN 18 3 17,qo 19 (.call p.Yfb [(.t 18)]),oE 20 19,qo 21 (.mov (ci 0))]
abbrev Jt1ga(p:Nums):IC:=oR [oM 23 21,oI 24 1 19 21,oL 25 24,qo 7 (.alloc [.nils]),oA 6 23,oS 1 7 25]
abbrev Jt1gb:IC:=(oQ (Jt1ga p) (oQ (.tree (oT (oF 26 7 5) (oT (oM 28 6) (oT (oF 29 7 5) (oT (oM 31 6) (.alt (oT (oL 27 26) (.alt (oT (oL 30 29) (.alt (oT (oI 32 1 30 31) (.alt (oT (oL 33 32) (oT (qo 34 (.mkfn (.func p.Yf38) [] [(.t 7)])) (oT (qo 35 (.call p.Yf36 [(.t 33),(.t 34)])) (oT (oI 36 1 27 28) (oT (oS 1 36 35) .done))))) (oT (qo 34 (.mkfn (.func p.Yf38) [] [(.t 7)])) (oT (oL 33 32) (oT (qo 35 (.call p.Yf36 [(.t 33),(.t 34)])) (oT (oI 36 1 27 28) (oT (oS 1 36 35) .done))))))) (oT (qo 34 (.mkfn (.func p.Yf38) [] [(.t 7)])) (oT (oI 32 1 30 31) (oT (oL 33 32) (oT (qo 35 (.call p.Yf36 [(.t 33),(.t 34)])) (oT (oI 36 1 27 28) (oT (oS 1 36 35) .done)))))))) (oT (qo 34 (.mkfn (.func p.Yf38) [] [(.t 7)])) (oT (oL 30 29) (oT (oI 32 1 30 31) (oT (oL 33 32) (oT (qo 35 (.call p.Yf36 [(.t 33),(.t 34)])) (oT (oI 36 1 27 28) (oT (oS 1 36 35) .done))))))))) (.alt (oT (oL 30 29) (.alt (oT (oL 27 26) (.alt (oT (oI 32 1 30 31) (.alt (oT (oL 33 32) (oT (qo 34 (.mkfn (.func p.Yf38) [] [(.t 7)])) (oT (qo 35 (.call p.Yf36 [(.t 33),(.t 34)])) (oT (oI 36 1 27 28) (oT (oS 1 36 35) .done))))) (oT (qo 34 (.mkfn (.func p.Yf38) [] [(.t 7)])) (oT (oL 33 32) (oT (qo 35 (.call p.Yf36 [(.t 33),(.t 34)])) (oT (oI 36 1 27 28) (oT (oS 1 36 35) .done))))))) (oT (qo 34 (.mkfn (.func p.Yf38) [] [(.t 7)])) (oT (oI 32 1 30 31) (oT (oL 33 32) (oT (qo 35 (.call p.Yf36 [(.t 33),(.t 34)])) (oT (oI 36 1 27 28) (oT (oS 1 36 35) .done)))))))) (.alt (oT (oI 32 1 30 31) (.alt (oT (oL 27 26) (.alt (oT (oL 33 32) (oT (qo 34 (.mkfn (.func p.Yf38) [] [(.t 7)])) (oT (qo 35 (.call p.Yf36 [(.t 33),(.t 34)])) (oT (oI 36 1 27 28) (oT (oS 1 36 35) .done))))) (oT (qo 34 (.mkfn (.func p.Yf38) [] [(.t 7)])) (oT (oL 33 32) (oT (qo 35 (.call p.Yf36 [(.t 33),(.t 34)])) (oT (oI 36 1 27 28) (oT (oS 1 36 35) .done))))))) (.alt (oT (oL 33 32) (.alt (oT (oL 27 26) (oT (qo 34 (.mkfn (.func p.Yf38) [] [(.t 7)])) (oT (qo 35 (.call p.Yf36 [(.t 33),(.t 34)])) (oT (oI 36 1 27 28) (oT (oS 1 36 35) .done))))) (oT (qo 34 (.mkfn (.func p.Yf38) [] [(.t 7)])) (.alt (oT (oL 27 26) (oT (qo 35 (.call p.Yf36 [(.t 33),(.t 34)])) (oT (oI 36 1 27 28) (oT (oS 1 36 35) .done)))) (oT (qo 35 (.call p.Yf36 [(.t 33),(.t 34)])) (oT (oL 27 26) (oT (oI 36 1 27 28) (oT (oS 1 36 35) .done)))))))) (oT (qo 34 (.mkfn (.func p.Yf38) [] [(.t 7)])) (.alt (oT (oL 27 26) (oT (oL 33 32) (oT (qo 35 (.call p.Yf36 [(.t 33),(.t 34)])) (oT (oI 36 1 27 28) (oT (oS 1 36 35) .done))))) (oT (oL 33 32) (.alt (oT (oL 27 26) (oT (qo 35 (.call p.Yf36 [(.t 33),(.t 34)])) (oT (oI 36 1 27 28) (oT (oS 1 36 35) .done)))) (oT (qo 35 (.call p.Yf36 [(.t 33),(.t 34)])) (oT (oL 27 26) (oT (oI 36 1 27 28) (oT (oS 1 36 35) .done))))))))))) (oT (qo 34 (.mkfn (.func p.Yf38) [] [(.t 7)])) (.alt (oT (oL 27 26) (oT (oI 32 1 30 31) (oT (oL 33 32) (oT (qo 35 (.call p.Yf36 [(.t 33),(.t 34)])) (oT (oI 36 1 27 28) (oT (oS 1 36 35) .done)))))) (oT (oI 32 1 30 31) (.alt (oT (oL 27 26) (oT (oL 33 32) (oT (qo 35 (.call p.Yf36 [(.t 33),(.t 34)])) (oT (oI 36 1 27 28) (oT (oS 1 36 35) .done))))) (oT (oL 33 32) (.alt (oT (oL 27 26) (oT (qo 35 (.call p.Yf36 [(.t 33),(.t 34)])) (oT (oI 36 1 27 28) (oT (oS 1 36 35) .done)))) (oT (qo 35 (.call p.Yf36 [(.t 33),(.t 34)])) (oT (oL 27 26) (oT (oI 36 1 27 28) (oT (oS 1 36 35) .done))))))))))))) (oT (qo 34 (.mkfn (.func p.Yf38) [] [(.t 7)])) (.alt (oT (oL 27 26) (oT (oL 30 29) (oT (oI 32 1 30 31) (oT (oL 33 32) (oT (qo 35 (.call p.Yf36 [(.t 33),(.t 34)])) (oT (oI 36 1 27 28) (oT (oS 1 36 35) .done))))))) (oT (oL 30 29) (.alt (oT (oL 27 26) (oT (oI 32 1 30 31) (oT (oL 33 32) (oT (qo 35 (.call p.Yf36 [(.t 33),(.t 34)])) (oT (oI 36 1 27 28) (oT (oS 1 36 35) .done)))))) (oT (oI 32 1 30 31) (.alt (oT (oL 27 26) (oT (oL 33 32) (oT (qo 35 (.call p.Yf36 [(.t 33),(.t 34)])) (oT (oI 36 1 27 28) (oT (oS 1 36 35) .done))))) (oT (oL 33 32) (.alt (oT (oL 27 26) (oT (qo 35 (.call p.Yf36 [(.t 33),(.t 34)])) (oT (oI 36 1 27 28) (oT (oS 1 36 35) .done)))) (oT (qo 35 (.call p.Yf36 [(.t 33),(.t 34)])) (oT (oL 27 26) (oT (oI 36 1 27 28) (oT (oS 1 36 35) .done))))))))))))))))))) .cut))
abbrev Jt1gc:IC:=(oQ (oR [oB 22 .lss 21 20]) (oQ (.cond (.t 22) .skip (.exit 0)) (oQ (.block 1 (Jt1gb p)) (oR [oC 37 .add 21 1,oM 21 37]))))
abbrev Jt1gd(p:Nums):IC:=oR [oN 38 8 5,oS 8 2 38,oK 3 0]
def Jtkt:IC:=(oQ (Jt1g5 p) (oQ (oQ (Jt1g6 p) (oQ (oR [oM 11 4,oC 12 .neq 11 0]) (.cond (.t 12) (oQ (Jt1g7 p) .ret) .skip))) (oQ (Jt1g8 p) (oQ (oQ (Jt1g9 p) (.block 0 (.loop (Jt1gc p)))) (oQ (Jt1gd p) .ret)))))
abbrev Jt1gh(p:Nums):IC:=oR [qo 1 (.box (.t 0)),qo 2 (.alloc [(zi 0),(zi 0),.nils,(zi 0),(zi 0),(zi 0),.nils,.nils]),oK 3 0]
def Jtkv:IC:=(oQ (Jt1gh p) (.jump 1000000 (oQ (oQ (oR [oN 7 8 1,qo 8 (.call p.Yf1p [(.t 7)]),qo 9 (.fld 0 none (.t 8)),oA 4 9]) (oQ (oR [oM 10 4,oC 11 .neq 10 0]) (.cond (.t 11) (oQ (oR [qo 12 (.build [(zi 0),(zi 0),.nils,(zi 0),(zi 0),(zi 0),.nils,.nils] []),oM 13 4,oS 8 2 12,oA 3 13]) .ret) .skip))) (oQ (oR [oN 14 8 1,qo 15 (.call p.Yf35 [(.t 14)]),qo 5 (.alloc [(zi 0),(zi 0),.nils,(zi 0),(zi 0),(zi 0),.nils,.nils]),oS 8 5 15]) (oQ .skip (oQ (oR [oN 16 8 5,qo 17 (.call p.Yf30 [(.t 16)]),oA 6 17]) (oQ (oR [oN 18 8 5,qo 19 (.call p.Yf3a [(.t 18)]),oS 8 5 19]) (oQ (oQ (oR [oN 20 8 5,qo 21 (.call p.Yf30 [(.t 20)]),oM 22 6,oB 23 .lss 21 22]) (.cond (.t 23) (.exit 1000000) .skip)) (oQ (oR [oN 24 8 5,oS 8 2 24,oK 3 0]) .ret))))))) (oQ .skip (oQ (oR [oN 16 8 5,qo 17 (.call p.Yf30 [(.t 16)]),oA 6 17]) (oQ (oR [oN 18 8 5,qo 19 (.call p.Yf3a [(.t 18)]),oS 8 5 19]) (oQ (oQ (oR [oN 20 8 5,qo 21 (.call p.Yf30 [(.t 20)]),oM 22 6,oB 23 .lss 21 22]) (.cond (.t 23) (.exit 1000000) .skip)) (oQ (oR [oN 24 8 5,oS 8 2 24,oK 3 0]) .ret)))))))
abbrev Jtmw(p:Nums):IC:=oR [qo 2 (.box (.t 0)),qo 3 (.box (.t 1)),qo 4 (.asg (.c (.d (.bool false))))]
abbrev Jtmx:IC:=oR [oF 8 0 2,oN 9 3 8,oF 10 0 3,oN 11 3 10,qo 12 (.call p.Yf14 [(.t 9),(.t 11)]),qo 13 (.un .not (.t 12)),oM 14 13,oG 15 (.faddr 3 (.t 2)) 14 false,oG 16 (.load (some 4) (.t 15)) 14 false,oG 17 (.faddr 3 (.t 3)) 14 false,oG 18 (.load (some 4) (.t 17)) 14 false,oG 19 (.call p.Yf1a [(.t 16),(.t 18)]) 14 false,oG 20 (.un .not (.t 19)) 14 false,qo 21 (.pick (.t 14) (.c (.d (.bool true))) (.t 20)),oM 22 21,oG 23 (.faddr 7 (.t 2)) 22 false,oG 24 (.load none (.t 23)) 22 false,oG 25 (.len (.t 24)) 22 false,oG 26 (.faddr 7 (.t 3)) 22 false,oG 27 (.load none (.t 26)) 22 false,oG 28 (.len (.t 27)) 22 false,oG 29 (.bin .neq (.t 25) (.t 28)) 22 false,qo 30 (.pick (.t 22) (.c (.d (.bool true))) (.t 29))]
abbrev Jtmy(p:Nums):IC:=(oQ (oR [qo 4 (.asg (.c (.d (.bool false))))]) .ret)
abbrev Jtmz(p:Nums):IC:=oR [oM 31 5,oF 32 7 2,oL 33 32,oE 34 33,oB 35 .lss 31 34]
abbrev Jtn0:IC:=oR [pF 39 7 2,pL 40 39,pM 41 5,pI 42 1 40 41,pL 43 42,pF 44 7 3,pL 45 44,pM 46 5,pI 47 1 45 46,pL 48 47,qp 49 (.call p.Yf1 [(.t 43),(.t 48)]),pM 38 49,pX 50 38 0,pX 51 38 1,qp 6 (.alloc [(zi 0),(zi 0)]),qm (.storeq 2 (.t 6) (.t 50) []),oA 7 51]
abbrev Jtn1(p:Nums):IC:=(oQ (oR [qo 4 (.asg (.c (.d (.bool false))))]) .ret)
abbrev Jtn2:IC:=(oQ (Jtn0 p) (oQ (oR [oM 52 7]) (.cond (.t 52) (Jtn1 p) .skip)))
abbrev Jtn3(p:Nums):IC:=oR [oM 36 5,oC 37 .add 36 1,oA 5 37]
abbrev Jtn4:IC:=(oQ (oQ (Jtmz p) (.cond (.t 35) .skip (.exit 0))) (oQ (.block 1 (Jtn2 p)) (Jtn3 p)))
def Jtig:IC:=(oQ (Jtmw p) (oQ (oQ (Jtmx p) (.cond (.t 30) (Jtmy p) .skip)) (oQ (oQ (oR [oK 5 0]) (.block 0 (.loop (Jtn4 p)))) (oQ (oR [qo 4 (.asg (.c (.d (.bool true))))]) .ret))))
abbrev Jt1gw(p:Nums):IC:=oR [qo 1 (.box (.t 0)),qo 2 (.alloc [(zi 0),(zi 0),.nils,(zi 0),(zi 0),(zi 0),.nils,.nils])]
abbrev Jt1hd(p:Nums):AT:=(oT (oS 8 3 16) .done)
abbrev Jt1ia:AT:=(oT (qo 3 (.alloc [(zi 0),(zi 0),.nils,(zi 0),(zi 0),(zi 0),.nils,.nils])) (Jt1hd p))
abbrev Jt1il:AT:=(oT (qo 16 (.build [(zi 0),(zi 0),.nils,(zi 0),(zi 0),(zi 0),.nils,.nils] [(0,3,(.t 9)),(3,4,(.t 11)),(7,1,(.t 15))])) (Jt1ia p))
abbrev Jt1iw:AT:=(oT (qo 16 (.build [(zi 0),(zi 0),.nils,(zi 0),(zi 0),(zi 0),.nils,.nils] [(0,3,(.t 9)),(3,4,(.t 11)),(7,1,(.t 15))])) (Jt1hd p))
abbrev Jt1j7:AT:=(oT (qo 3 (.alloc [(zi 0),(zi 0),.nils,(zi 0),(zi 0),(zi 0),.nils,.nils])) (Jt1iw p))
abbrev Jt1ji:AT:=(.alt (Jt1il p) (Jt1j7 p))
abbrev Jt1jt:AT:=(oT (qo 15 (.mkslice 1 24 [(.sl [])] (.t 14) (.t 14))) (Jt1ji p))
abbrev Jt1k4:AT:=(oT (qo 15 (.mkslice 1 24 [(.sl [])] (.t 14) (.t 14))) (Jt1iw p))
abbrev Jt1kf:AT:=(oT (qo 3 (.alloc [(zi 0),(zi 0),.nils,(zi 0),(zi 0),(zi 0),.nils,.nils])) (Jt1k4 p))
abbrev Jt1he:AT:=(.alt (Jt1jt p) (Jt1kf p))
abbrev Jt1hp:AT:=(oT (oE 14 13) (Jt1he p))
abbrev Jt1i0:AT:=(oT (oE 14 13) (Jt1k4 p))
abbrev Jt1i3:AT:=(oT (qo 3 (.alloc [(zi 0),(zi 0),.nils,(zi 0),(zi 0),(zi 0),.nils,.nils])) (Jt1i0 p))
abbrev Jt1i4:AT:=(.alt (Jt1hp p) (Jt1i3 p))
abbrev Jt1i5:AT:=(oT (oL 13 12) (Jt1i4 p))
abbrev Jt1i6:AT:=(oT (oL 13 12) (Jt1i0 p))
abbrev Jt1i7:AT:=(oT (qo 3 (.alloc [(zi 0),(zi 0),.nils,(zi 0),(zi 0),(zi 0),.nils,.nils])) (Jt1i6 p))
abbrev Jt1i8:AT:=(.alt (Jt1i5 p) (Jt1i7 p))
abbrev Jt1i9:AT:=(oT (oN 11 4 10) (Jt1i8 p))
abbrev Jt1ib:AT:=(oT (oN 11 4 10) (Jt1i4 p))
abbrev Jt1ic:AT:=(oT (oN 11 4 10) (Jt1he p))
abbrev Jt1id:AT:=(oT (oN 11 4 10) (Jt1ji p))
abbrev Jt1ie:AT:=(oT (oN 11 4 10) (Jt1iw p))
abbrev Jt1if:AT:=(oT (qo 3 (.alloc [(zi 0),(zi 0),.nils,(zi 0),(zi 0),(zi 0),.nils,.nils])) (Jt1ie p))
abbrev Jt1ig:AT:=(.alt (Jt1id p) (Jt1if p))
abbrev Jt1ih:AT:=(oT (qo 15 (.mkslice 1 24 [(.sl [])] (.t 14) (.t 14))) (Jt1ig p))
abbrev Jt1ii:AT:=(oT (oN 11 4 10) (Jt1k4 p))
abbrev Jt1ij:AT:=(oT (qo 15 (.mkslice 1 24 [(.sl [])] (.t 14) (.t 14))) (Jt1ie p))
abbrev Jt1ik:AT:=(.alt (Jt1ii p) (Jt1ij p))
abbrev Jt1im:AT:=(oT (qo 3 (.alloc [(zi 0),(zi 0),.nils,(zi 0),(zi 0),(zi 0),.nils,.nils])) (Jt1ik p))
abbrev Jt1in:AT:=(.alt (Jt1ih p) (Jt1im p))
abbrev Jt1io:AT:=(.alt (Jt1ic p) (Jt1in p))
abbrev Jt1ip:AT:=(oT (oE 14 13) (Jt1io p))
abbrev Jt1iq:AT:=(oT (oN 11 4 10) (Jt1i0 p))
abbrev Jt1ir:AT:=(oT (oE 14 13) (Jt1ik p))
abbrev Jt1is:AT:=(.alt (Jt1iq p) (Jt1ir p))
abbrev Jt1it:AT:=(oT (qo 3 (.alloc [(zi 0),(zi 0),.nils,(zi 0),(zi 0),(zi 0),.nils,.nils])) (Jt1is p))
abbrev Jt1iu:AT:=(.alt (Jt1ip p) (Jt1it p))
abbrev Jt1iv:AT:=(.alt (Jt1ib p) (Jt1iu p))
abbrev Jt1ix:AT:=(oT (oL 13 12) (Jt1iv p))
abbrev Jt1iy:AT:=(oT (oN 11 4 10) (Jt1i6 p))
abbrev Jt1iz:AT:=(oT (oL 13 12) (Jt1is p))
abbrev Jt1j0:AT:=(.alt (Jt1iy p) (Jt1iz p))
abbrev Jt1j1:AT:=(oT (qo 3 (.alloc [(zi 0),(zi 0),.nils,(zi 0),(zi 0),(zi 0),.nils,.nils])) (Jt1j0 p))
abbrev Jt1j2:AT:=(.alt (Jt1ix p) (Jt1j1 p))
abbrev Jt1j3:AT:=(.alt (Jt1i9 p) (Jt1j2 p))
abbrev Jt1j4:AT:=(oT (oN 9 3 8) (Jt1j3 p))
abbrev Jt1j5:AT:=(oT (oN 9 3 8) (Jt1i8 p))
abbrev Jt1j6:AT:=(oT (oN 9 3 8) (Jt1i4 p))
abbrev Jt1j8:AT:=(oT (oN 9 3 8) (Jt1he p))
abbrev Jt1j9:AT:=(oT (oN 9 3 8) (Jt1ji p))
abbrev Jt1ja:AT:=(oT (oN 9 3 8) (Jt1iw p))
abbrev Jt1jb:AT:=(oT (qo 3 (.alloc [(zi 0),(zi 0),.nils,(zi 0),(zi 0),(zi 0),.nils,.nils])) (Jt1ja p))
abbrev Jt1jc:AT:=(.alt (Jt1j9 p) (Jt1jb p))
abbrev Jt1jd:AT:=(oT (qo 15 (.mkslice 1 24 [(.sl [])] (.t 14) (.t 14))) (Jt1jc p))
abbrev Jt1je:AT:=(oT (oN 9 3 8) (Jt1k4 p))
abbrev Jt1jf:AT:=(oT (qo 15 (.mkslice 1 24 [(.sl [])] (.t 14) (.t 14))) (Jt1ja p))
abbrev Jt1jg:AT:=(.alt (Jt1je p) (Jt1jf p))
abbrev Jt1jh:AT:=(oT (qo 3 (.alloc [(zi 0),(zi 0),.nils,(zi 0),(zi 0),(zi 0),.nils,.nils])) (Jt1jg p))
abbrev Jt1jj:AT:=(.alt (Jt1jd p) (Jt1jh p))
abbrev Jt1jk:AT:=(.alt (Jt1j8 p) (Jt1jj p))
abbrev Jt1jl:AT:=(oT (oE 14 13) (Jt1jk p))
abbrev Jt1jm:AT:=(oT (oN 9 3 8) (Jt1i0 p))
abbrev Jt1jn:AT:=(oT (oE 14 13) (Jt1jg p))
abbrev Jt1jo:AT:=(.alt (Jt1jm p) (Jt1jn p))
abbrev Jt1jp:AT:=(oT (qo 3 (.alloc [(zi 0),(zi 0),.nils,(zi 0),(zi 0),(zi 0),.nils,.nils])) (Jt1jo p))
abbrev Jt1jq:AT:=(.alt (Jt1jl p) (Jt1jp p))
abbrev Jt1jr:AT:=(.alt (Jt1j6 p) (Jt1jq p))
abbrev Jt1js:AT:=(oT (oL 13 12) (Jt1jr p))
abbrev Jt1ju:AT:=(oT (oN 9 3 8) (Jt1i6 p))
abbrev Jt1jv:AT:=(oT (oL 13 12) (Jt1jo p))
abbrev Jt1jw:AT:=(.alt (Jt1ju p) (Jt1jv p))
abbrev Jt1jx:AT:=(oT (qo 3 (.alloc [(zi 0),(zi 0),.nils,(zi 0),(zi 0),(zi 0),.nils,.nils])) (Jt1jw p))
abbrev Jt1jy:AT:=(.alt (Jt1js p) (Jt1jx p))
abbrev Jt1jz:AT:=(.alt (Jt1j5 p) (Jt1jy p))
abbrev Jt1k0:AT:=(oT (oN 11 4 10) (Jt1jz p))
abbrev Jt1k1:AT:=(oT (oN 9 3 8) (Jt1iv p))
abbrev Jt1k2:AT:=(oT (oN 11 4 10) (Jt1jr p))
abbrev Jt1k3:AT:=(oT (oN 9 3 8) (Jt1io p))
abbrev Jt1k5:AT:=(oT (oN 11 4 10) (Jt1jk p))
abbrev Jt1k6:AT:=(oT (oN 9 3 8) (Jt1ig p))
abbrev Jt1k7:AT:=(oT (oN 11 4 10) (Jt1jc p))
abbrev Jt1k8:AT:=(oT (oN 9 3 8) (Jt1ie p))
abbrev Jt1k9:AT:=(oT (oN 11 4 10) (Jt1ja p))
abbrev Jt1ka:AT:=(.alt (Jt1k8 p) (Jt1k9 p))
abbrev Jt1kb:AT:=(oT (qo 3 (.alloc [(zi 0),(zi 0),.nils,(zi 0),(zi 0),(zi 0),.nils,.nils])) (Jt1ka p))
abbrev Jt1kc:AT:=(.alt (Jt1k7 p) (Jt1kb p))
abbrev Jt1kd:AT:=(.alt (Jt1k6 p) (Jt1kc p))
abbrev Jt1ke:AT:=(oT (qo 15 (.mkslice 1 24 [(.sl [])] (.t 14) (.t 14))) (Jt1kd p))
abbrev Jt1kg:AT:=(oT (oN 9 3 8) (Jt1ik p))
abbrev Jt1kh:AT:=(oT (oN 11 4 10) (Jt1jg p))
abbrev Jt1ki:AT:=(oT (qo 15 (.mkslice 1 24 [(.sl [])] (.t 14) (.t 14))) (Jt1ka p))
abbrev Jt1kj:AT:=(.alt (Jt1kh p) (Jt1ki p))
abbrev Jt1kk:AT:=(.alt (Jt1kg p) (Jt1kj p))
abbrev Jt1kl:AT:=(oT (qo 3 (.alloc [(zi 0),(zi 0),.nils,(zi 0),(zi 0),(zi 0),.nils,.nils])) (Jt1kk p))
abbrev Jt1km:AT:=(.alt (Jt1ke p) (Jt1kl p))
abbrev Jt1kn:AT:=(.alt (Jt1k5 p) (Jt1km p))
abbrev Jt1ko:AT:=(.alt (Jt1k3 p) (Jt1kn p))
abbrev Jt1kp:AT:=(oT (oE 14 13) (Jt1ko p))
abbrev Jt1hf:AT:=(oT (oN 9 3 8) (Jt1is p))
abbrev Jt1hg:AT:=(oT (oN 11 4 10) (Jt1jo p))
abbrev Jt1hh:AT:=(oT (oE 14 13) (Jt1kk p))
abbrev Jt1hi:AT:=(.alt (Jt1hg p) (Jt1hh p))
abbrev Jt1hj:AT:=(.alt (Jt1hf p) (Jt1hi p))
abbrev Jt1hk:AT:=(oT (qo 3 (.alloc [(zi 0),(zi 0),.nils,(zi 0),(zi 0),(zi 0),.nils,.nils])) (Jt1hj p))
abbrev Jt1hl:AT:=(.alt (Jt1kp p) (Jt1hk p))
abbrev Jt1hm:AT:=(.alt (Jt1k2 p) (Jt1hl p))
abbrev Jt1hn:AT:=(.alt (Jt1k1 p) (Jt1hm p))
abbrev Jt1ho:AT:=(oT (oL 13 12) (Jt1hn p))
abbrev Jt1hq:AT:=(oT (oN 9 3 8) (Jt1j0 p))
abbrev Jt1hr:AT:=(oT (oN 11 4 10) (Jt1jw p))
abbrev Jt1hs:AT:=(oT (oL 13 12) (Jt1hj p))
abbrev Jt1ht:AT:=(.alt (Jt1hr p) (Jt1hs p))
abbrev Jt1hu:AT:=(.alt (Jt1hq p) (Jt1ht p))
abbrev Jt1hv:AT:=(oT (qo 3 (.alloc [(zi 0),(zi 0),.nils,(zi 0),(zi 0),(zi 0),.nils,.nils])) (Jt1hu p))
abbrev Jt1hw:AT:=(.alt (Jt1ho p) (Jt1hv p))
abbrev Jt1hx:AT:=(.alt (Jt1k0 p) (Jt1hw p))
abbrev Jt1hy:AT:=(.alt (Jt1j4 p) (Jt1hx p))
abbrev Jt1hz:AT:=(oT (oF 12 7 1) (Jt1hy p))
abbrev Jt1i1:AT:=(oT (oF 10 3 1) (Jt1hz p))
abbrev Jt1i2:AT:=(oT (oF 8 0 1) (Jt1i1 p))
abbrev Jt1gz(p:Nums):IC:=oR [oF 29 0 3,oF 30 2 29,oL 31 30,oE 32 31,qo 33 (.mov (ci 0))]
abbrev Jt1h0:IC:=(oQ (oR [oM 35 33,oA 4 35]) (oQ (.tree (oT (oF 36 0 3) (oT (oF 37 2 36) (oT (oM 39 4) (oT (oF 40 0 3) (oT (oF 41 2 40) (oT (oM 43 4) (.alt (oT (oL 38 37) (oT (oL 42 41) (oT (oI 44 5 42 43) (oT (oF 45 0 44) (oT (oL 46 45) (oT (qo 47 (.call p.Yf16 [(.t 46)])) (oT (oI 48 5 38 39) (oT (oF 49 0 48) (oT (oS 1 49 47) .done))))))))) (oT (oL 42 41) (.alt (oT (oL 38 37) (oT (oI 44 5 42 43) (oT (oF 45 0 44) (oT (oL 46 45) (oT (qo 47 (.call p.Yf16 [(.t 46)])) (oT (oI 48 5 38 39) (oT (oF 49 0 48) (oT (oS 1 49 47) .done)))))))) (oT (oI 44 5 42 43) (oT (oF 45 0 44) (.alt (oT (oL 38 37) (oT (oL 46 45) (oT (qo 47 (.call p.Yf16 [(.t 46)])) (oT (oI 48 5 38 39) (oT (oF 49 0 48) (oT (oS 1 49 47) .done)))))) (oT (oL 46 45) (.alt (oT (oL 38 37) (oT (qo 47 (.call p.Yf16 [(.t 46)])) (oT (oI 48 5 38 39) (oT (oF 49 0 48) (oT (oS 1 49 47) .done))))) (oT (qo 47 (.call p.Yf16 [(.t 46)])) (oT (oL 38 37) (oT (oI 48 5 38 39) (oT (oF 49 0 48) (oT (oS 1 49 47) .done)))))))))))))))))))) .cut))
abbrev Jt1h1:IC:=(oQ (oR [oB 34 .lss 33 32]) (oQ (.cond (.t 34) .skip (.exit 0)) (oQ (.block 1 (Jt1h0 p)) (oR [oC 50 .add 33 1,oM 33 50]))))
abbrev Jt1h2(p:Nums):IC:=oR [oF 51 3 3,oF 52 3 51,oL 53 52,oE 54 53,qo 55 (.mov (ci 0))]
abbrev Jt1h3:IC:=(oQ (oR [oM 57 55,oA 5 57]) (oQ (.tree (oT (oF 58 3 3) (oT (oF 59 3 58) (oT (oM 61 5) (oT (oF 62 3 3) (oT (oF 63 3 62) (oT (oM 65 5) (.alt (oT (oL 60 59) (oT (oL 64 63) (oT (oI 66 5 64 65) (oT (oF 67 0 66) (oT (oL 68 67) (oT (qo 69 (.call p.Yf3d [(.t 68)])) (oT (oI 70 5 60 61) (oT (oF 71 0 70) (oT (oS 1 71 69) .done))))))))) (oT (oL 64 63) (.alt (oT (oL 60 59) (oT (oI 66 5 64 65) (oT (oF 67 0 66) (oT (oL 68 67) (oT (qo 69 (.call p.Yf3d [(.t 68)])) (oT (oI 70 5 60 61) (oT (oF 71 0 70) (oT (oS 1 71 69) .done)))))))) (oT (oI 66 5 64 65) (oT (oF 67 0 66) (.alt (oT (oL 60 59) (oT (oL 68 67) (oT (qo 69 (.call p.Yf3d [(.t 68)])) (oT (oI 70 5 60 61) (oT (oF 71 0 70) (oT (oS 1 71 69) .done)))))) (oT (oL 68 67) (.alt (oT (oL 60 59) (oT (qo 69 (.call p.Yf3d [(.t 68)])) (oT (oI 70 5 60 61) (oT (oF 71 0 70) (oT (oS 1 71 69) .done))))) (oT (qo 69 (.call p.Yf3d [(.t 68)])) (oT (oL 60 59) (oT (oI 70 5 60 61) (oT (oF 71 0 70) (oT (oS 1 71 69) .done)))))))))))))))))))) .cut))
abbrev Jt1h4:IC:=(oQ (oR [oB 56 .lss 55 54]) (oQ (.cond (.t 56) .skip (.exit 2)) (oQ (.block 3 (Jt1h3 p)) (oR [oC 72 .add 55 1,oM 55 72]))))
abbrev Jt1h5(p:Nums):IC:=oR [oF 73 7 1,oL 74 73,oE 75 74,qo 76 (.mov (ci 0))]
abbrev Jt1h6(p:Nums):IC:=oR [oM 78 76,oI 79 1 74 76,oL 80 79,oA 6 78,oA 7 80]
abbrev Jt1gx:IC:=(oQ (Jt1h6 p) (oQ (.tree (oT (oF 81 7 3) (oT (oM 83 6) (oT (oM 84 7) (.alt (oT (oL 82 81) (oT (qo 85 (.call p.Yff [(.t 84)])) (oT (oI 86 1 82 83) (oT (oS 1 86 85) .done)))) (oT (qo 85 (.call p.Yff [(.t 84)])) (oT (oL 82 81) (oT (oI 86 1 82 83) (oT (oS 1 86 85) .done))))))))) .cut))
abbrev Jt1gy:IC:=(oQ (oR [oB 77 .lss 76 75]) (oQ (.cond (.t 77) .skip (.exit 4)) (oQ (.block 5 (Jt1gx p)) (oR [oC 87 .add 76 1,oM 76 87]))))
def Jt1h9:IC:=(oQ (oQ (.tree (oT (oF 17 0 1) (oT (oF 18 2 17) (oT (oF 21 3 1) (oT (oF 22 3 21) (.alt (oT (oL 19 18) (.alt (oT (qo 20 (.call p.Yf3b [(.t 19)])) (oT (oF 25 0 3) (oT (oF 26 2 25) (oT (oL 23 22) (oT (qo 24 (.call p.Yf3c [(.t 23)])) (oT (oS 1 26 20) (oT (oF 27 3 3) (oT (oF 28 3 27) (oT (oS 1 28 24) .done))))))))) (oT (oL 23 22) (oT (qo 20 (.call p.Yf3b [(.t 19)])) (oT (oF 25 0 3) (oT (oF 26 2 25) (oT (qo 24 (.call p.Yf3c [(.t 23)])) (oT (oS 1 26 20) (oT (oF 27 3 3) (oT (oF 28 3 27) (oT (oS 1 28 24) .done))))))))))) (oT (oL 23 22) (oT (oL 19 18) (oT (qo 20 (.call p.Yf3b [(.t 19)])) (oT (oF 25 0 3) (oT (oF 26 2 25) (oT (qo 24 (.call p.Yf3c [(.t 23)])) (oT (oS 1 26 20) (oT (oF 27 3 3) (oT (oF 28 3 27) (oT (oS 1 28 24) .done)))))))))))))))) .cut) (oQ (oQ (Jt1gz p) (.block 0 (.loop (Jt1h1 p)))) (oQ (oQ (Jt1h2 p) (.block 2 (.loop (Jt1h4 p)))) (oQ (oQ (Jt1h5 p) (.block 4 (.loop (Jt1gy p)))) (oQ (oR [oN 88 8 3,oS 8 2 88]) .ret)))))
theorem Jt1ha{p:Nums}:EqI (Jt1h9 p) (oQ (oQ (.tree (oT (oF 17 0 1) (oT (oF 18 2 17) (oT (oF 21 3 1) (oT (oF 22 3 21) (.alt (oT (oL 19 18) (.alt (oT (qo 20 (.call p.Yf3b [(.t 19)])) (oT (oF 25 0 3) (oT (oF 26 2 25) (oT (oL 23 22) (oT (qo 24 (.call p.Yf3c [(.t 23)])) (oT (oS 1 26 20) (oT (oF 27 3 3) (oT (oF 28 3 27) (oT (oS 1 28 24) .done))))))))) (oT (oL 23 22) (oT (qo 20 (.call p.Yf3b [(.t 19)])) (oT (oF 25 0 3) (oT (oF 26 2 25) (oT (qo 24 (.call p.Yf3c [(.t 23)])) (oT (oS 1 26 20) (oT (oF 27 3 3) (oT (oF 28 3 27) (oT (oS 1 28 24) .done))))))))))) (oT (oL 23 22) (oT (oL 19 18) (oT (qo 20 (.call p.Yf3b [(.t 19)])) (oT (oF 25 0 3) (oT (oF 26 2 25) (oT (qo 24 (.call p.Yf3c [(.t 23)])) (oT (oS 1 26 20) (oT (oF 27 3 3) (oT (oF 28 3 27) (oT (oS 1 28 24) .done)))))))))))))))) .cut) (oQ (oQ (Jt1gz p) (.block 0 (.loop (Jt1h1 p)))) (oQ (oQ (Jt1h2 p) (.block 2 (.loop (Jt1h4 p)))) (oQ (oQ (Jt1h5 p) (.block 4 (.loop (Jt1gy p)))) (oQ (oR [oN 88 8 3,oS 8 2 88]) .ret))))):=eqi
def Jt1hb:IC:=(oQ (oQ (.tree (Jt1i2 p)) .cut) (Jt1h9 p))
theorem Jt1hc{p:Nums}:EqI (Jt1hb p) (oQ (oQ (.tree (Jt1i2 p)) .cut) (Jt1h9 p)):=eqi
def Jtkz:IC:=(oQ (Jt1gw p) (Jt1hb p))
abbrev Jt19a:IC:=oR [oM 8 0,oM 9 1,qo 10 (.call p.Yf3e [(.t 8),(.t 9)]),oA 5 10]
abbrev Jt19g(p:Nums):IC:=(oQ (oR [oM 13 0,oA 4 13]) .ret)
abbrev Jt19h(p:Nums):IC:=oR [oM 14 5,oC 15 .add 14 1,oA 6 15]
abbrev Jt19i(p:Nums):IC:=oR [oM 16 6,oM 17 0,oE 18 17,oB 19 .lss 16 18]
abbrev Jt19j(p:Nums):IC:=oR [oM 22 0,oM 23 6,oI 24 2 22 23,oN 25 2 24,qo 7 (.alloc [(zi 0),(zi 0)]),oS 2 7 25]
abbrev Jt19k(p:Nums):IC:=oR [oM 26 1,oN 27 2 7,qo 28 (.callv (.t 26) [(.t 27)]),qo 29 (.un .not (.t 28))]
abbrev Jt19l(p:Nums):IC:=oR [oM 30 0,oM 31 5,oN 32 2 7,oI 33 2 30 31,oS 2 33 32]
abbrev Jt19m(p:Nums):IC:=oR [oM 34 5,oC 35 .add 34 1,oA 5 35]
abbrev Jt19n:IC:=(oQ (Jt19l p) (Jt19m p))
abbrev Jt19b:IC:=(oQ (Jt19j p) (oQ (Jt19k p) (.cond (.t 29) (Jt19n p) .skip)))
abbrev Jt19c(p:Nums):IC:=oR [oM 20 6,oC 21 .add 20 1,oA 6 21]
abbrev Jt19d:IC:=(oQ (oQ (Jt19i p) (.cond (.t 19) .skip (.exit 0))) (oQ (.block 1 (Jt19b p)) (Jt19c p)))
abbrev Jt19e(p:Nums):IC:=oR [oM 36 0,oM 37 5,qo 38 (.slc 2 (.t 36) (some (.t 37)) none),qn (.clr 2 [(.int .i64 0),(.int .i64 0)] (.t 38))]
abbrev Jt19f(p:Nums):IC:=oR [oM 39 0,oM 40 5,qo 41 (.slc 2 (.t 39) none (some (.t 40))),oA 4 41]
def Jtke:IC:=(oQ (oR [qo 4 (.asg (.c .nils))]) (oQ (Jt19a p) (oQ (oQ (oR [oM 11 5,oC 12 .eql 11 (-1)]) (.cond (.t 12) (Jt19g p) .skip)) (oQ (oQ (Jt19h p) (.block 0 (.loop (Jt19d p)))) (oQ (Jt19e p) (oQ (Jt19f p) .ret))))))
abbrev Jt1go(p:Nums):IC:=oR [oN 4 2 2,oN 5 2 1,qo 6 (.eqs false [.int,.int] (.t 4) (.t 5)),oA 3 6]
def Jtky:IC:=(oQ (oR [qo 2 (.box (.t 0)),qo 3 (.asg (.c (.d (.bool false))))]) (oQ (Jt1go p) .ret))
abbrev Jt1g4:IC:=oR [oL 4 1,oF 5 0 2,oL 6 5,qo 7 (.call p.Yf39 [(.t 4),(.t 6)]),qo 8 (.un .not (.t 7)),oA 3 8]
def Jtku:IC:=(oQ (oR [qo 2 (.box (.t 0)),qo 3 (.asg (.c (.d (.bool false))))]) (oQ (Jt1g4 p) .ret))
abbrev Jt198:IC:=oR [oM 5 0,oM 6 1,qo 7 (.call p.Yf3f [(.t 5),(.t 6)]),oC 8 .geq 7 0,oA 4 8]
def Jtkd:IC:=(oQ (oR [qo 4 (.asg (.c (.d (.bool false))))]) (oQ (Jt198 p) .ret))
abbrev Jt1kq(p:Nums):IC:=oR [qo 1 (.box (.t 0)),qo 2 (.alloc [(zi 0),(zi 0),.nils,(zi 0),(zi 0),(zi 0),.nils,.nils])]
abbrev Jt1kt(p:Nums):IC:=oR [oF 7 7 1,oL 8 7,oE 9 8,qo 10 (.mov (ci 0))]
abbrev Jt1ku:IC:=oR [oF 13 7 1,oL 14 13,oM 15 3,oI 16 1 14 15,oL 17 16,qo 18 (.call p.Yff [(.t 17)]),oE 19 18,qo 20 (.mov (ci 0))]
abbrev Jt1kv(p:Nums):IC:=oR [oI 22 2 18 20,oN 23 2 22,qo 5 (.alloc [(zi 0),(zi 0)]),oS 2 5 23]
abbrev Jt1kw:IC:=oR [oN 24 8 1,oM 25 3,oN 26 2 5,qo 27 (.call p.Yf2z [(.t 24),(.t 25),(.t 26)]),qo 6 (.alloc [(zi 0),(zi 0),.nils,(zi 0),(zi 0),(zi 0),.nils,.nils]),oS 8 6 27]
abbrev Jt1kx:IC:=oR [oN 28 8 6,qo 29 (.call p.Yf1p [(.t 28)]),qo 30 (.fld 0 none (.t 29)),oC 31 .eql 30 0]
abbrev Jt1ky(p:Nums):IC:=oR [oN 32 8 6,oS 8 1 32]
abbrev Jt1kz:IC:=(oQ (Jt1kv p) (oQ (Jt1kw p) (oQ (Jt1kx p) (.cond (.t 31) (Jt1ky p) .skip))))
abbrev Jt1l0:IC:=(oQ (oR [oB 21 .lss 20 19]) (oQ (.cond (.t 21) .skip (.exit 2)) (oQ (.block 3 (Jt1kz p)) (oR [oC 33 .add 20 1,oM 20 33]))))
abbrev Jt1kr:IC:=(oQ (oR [oM 12 10,oA 3 12]) (oQ (Jt1ku p) (.block 2 (.loop (Jt1l0 p)))))
abbrev Jt1ks:IC:=(oQ (oR [oB 11 .lss 10 9]) (oQ (.cond (.t 11) .skip (.exit 0)) (oQ (.block 1 (Jt1kr p)) (oR [oC 34 .add 10 1,oM 10 34]))))
def Jtl0:IC:=(oQ (Jt1kq p) (oQ (oQ (Jt1kt p) (.block 0 (.loop (Jt1ks p)))) (oQ (oR [oN 35 8 1,oS 8 2 35]) .ret)))
abbrev Jt185(p:Nums):IC:=(oQ (oR [qo 2 (.asg (.c .nils))]) .ret)
abbrev Jt186(p:Nums):IC:=oR [qo 5 (.bslice 5 0 [(.sl []),(.int .i64 0),(.int .i64 0),(.int .i64 0),(.int .i64 0)] []),oM 6 0,qo 7 (.app 5 56 (.t 5) (.t 6)),oA 2 7]
def Jtk7:IC:=(oQ (oR [qo 2 (.asg (.c .nils))]) (oQ (oQ (oR [oM 3 0,qo 4 (.isnil false (.t 3))]) (.cond (.t 4) (Jt185 p) .skip)) (oQ (Jt186 p) .ret)))
abbrev Jt18b(p:Nums):IC:=(oQ (oR [qo 2 (.asg (.c .nils))]) .ret)
abbrev Jt18c(p:Nums):IC:=oR [qo 5 (.bslice 5 0 [(.sl []),(.int .i64 0),(.int .i64 0),(.int .i64 0),(.int .i64 0)] []),oM 6 0,qo 7 (.app 5 56 (.t 5) (.t 6)),oA 2 7]
def Jtk9:IC:=(oQ (oR [qo 2 (.asg (.c .nils))]) (oQ (oQ (oR [oM 3 0,qo 4 (.isnil false (.t 3))]) (.cond (.t 4) (Jt18b p) .skip)) (oQ (Jt18c p) .ret)))
abbrev Jt18f(p:Nums):IC:=(oQ (oR [qo 2 (.asg (.c .nils))]) .ret)
abbrev Jt18g(p:Nums):IC:=oR [qo 5 (.bslice 7 0 [(.int .i64 0),(.int .i64 0),(.int .i64 0),(.int .i64 0),(.int .i64 0),(.int .i64 0),(.int .i64 0)] []),oM 6 0,qo 7 (.app 7 56 (.t 5) (.t 6)),oA 2 7]
def Jtka:IC:=(oQ (oR [qo 2 (.asg (.c .nils))]) (oQ (oQ (oR [oM 3 0,qo 4 (.isnil false (.t 3))]) (.cond (.t 4) (Jt18f p) .skip)) (oQ (Jt18g p) .ret)))
abbrev Jt19q(p:Nums):IC:=oR [oM 6 0,oE 7 6,qo 8 (.mov (ci 0))]
abbrev Jt19r(p:Nums):IC:=oR [oM 11 1,oM 12 0,oM 13 5,oI 14 2 12 13,oN 15 2 14,qo 16 (.callv (.t 11) [(.t 15)])]
abbrev Jt19s(p:Nums):IC:=(oQ (oR [oM 17 5,oA 4 17]) .ret)
abbrev Jt19t:IC:=(oQ (oR [oM 10 8,oA 5 10]) (oQ (Jt19r p) (.cond (.t 16) (Jt19s p) .skip)))
abbrev Jt19u:IC:=(oQ (oR [oB 9 .lss 8 7]) (oQ (.cond (.t 9) .skip (.exit 0)) (oQ (.block 1 (Jt19t p)) (oR [oC 18 .add 8 1,oM 8 18]))))
def Jtkf:IC:=(oQ (oR [oK 4 0]) (oQ (oQ (Jt19q p) (.block 0 (.loop (Jt19u p)))) (oQ (oR [oK 4 (-1)]) .ret)))
abbrev Jt19x(p:Nums):IC:=oR [oM 6 0,oE 7 6,qo 8 (.mov (ci 0))]
abbrev Jt19y(p:Nums):IC:=oR [oM 11 1,oM 12 0,oM 13 5,oI 14 1 12 13,oL 15 14,oB 16 .eql 11 15]
abbrev Jt19z(p:Nums):IC:=(oQ (oR [oM 17 5,oA 4 17]) .ret)
abbrev Jt1a0:IC:=(oQ (oR [oM 10 8,oA 5 10]) (oQ (Jt19y p) (.cond (.t 16) (Jt19z p) .skip)))
abbrev Jt1a1:IC:=(oQ (oR [oB 9 .lss 8 7]) (oQ (.cond (.t 9) .skip (.exit 0)) (oQ (.block 1 (Jt1a0 p)) (oR [oC 18 .add 8 1,oM 8 18]))))
def Jtkg:IC:=(oQ (oR [oK 4 0]) (oQ (oQ (Jt19x p) (.block 0 (.loop (Jt1a1 p)))) (oQ (oR [oK 4 (-1)]) .ret)))
abbrev Jt9a(p:Nums):IC:=oR [qo 5 (.box (.t 1)),qo 6 (.box (.t 2)),qo 8 (.alloc [(zi 0)]),qo 9 (.alloc [(zi 0)])]
def Jti1:IC:=(Jt9a p)
abbrev Jt9g(p:Nums):IC:=oR [oM 13 3,oE 14 13,qo 15 (.mov (ci 0))]
abbrev Jt9h(p:Nums):IC:=oR [oI 17 6 13 15,oN 18 6 17,qo 11 (.alloc [(zi 0),(zi 0),(zi 0),(zi 0),(zi 0),(zi 0)]),oS 6 11 18]
abbrev Jt9i:IC:=oR [oM 19 0,oN 20 5 5,oN 21 5 6,oN 22 6 11,qo 23 (.call p.Yf2e [(.t 19),(.t 20),(.t 21),(.t 22)])]
abbrev Jt9j:IC:=(oQ (Jt9h p) (Jt9i p))
abbrev Jt9k:IC:=(oQ (oR [oB 16 .lss 15 14]) (oQ (.cond (.t 16) .skip (.exit 0)) (oQ (.block 1 (Jt9j p)) (oR [oC 24 .add 15 1,oM 15 24]))))
abbrev Jt9l(p:Nums):IC:=oR [oF 25 1 5,oF 26 0 25,oL 27 26,oC 28 .neq 27 1]
abbrev Jt9m:IC:=oR [oM 29 0,oF 30 1 5,oF 31 1 30,oL 32 31,oF 33 1 6,oF 34 1 33,oL 35 34,oF 36 0 6,oL 37 36,oE 38 37,qo 39 (.call p.Yf2f [(.t 29),(.t 32),(.t 35),(.t 38)])]
abbrev Jt9n(p:Nums):IC:=oR [pF 40 0 6,pL 41 40,pE 42 41,qm (.storeq 1 (.t 8) (ci 0) [(40,1)]),oS 1 9 42]
def Jti3:IC:=(oQ (oQ (Jt9g p) (.block 0 (.loop (Jt9k p)))) (oQ (oQ (Jt9l p) (.cond (.t 28) (Jt9m p) .skip)) (oQ (Jt9n p) .ret)))
abbrev Jt9b:IC:=oR [oM 9 2,qo 10 (.tas p.Yf3g (.t 9)),oM 8 10,oX 11 8 0,oX 12 8 1,qo 3 (.alloc [(zi 0),(zi 0)]),oS 2 3 11,oA 4 12]
abbrev Jt9c(p:Nums):IC:=oR [oM 15 2,qn (.pan (.t 15))]
abbrev Jt9d(p:Nums):IC:=oR [pF 16 0 3,pL 17 16,pF 18 1 3,pL 19 18,qm (.storeq 1 (.t 0) (.t 17) [(18,1)]),oS 1 1 19]
abbrev Jt9e:IC:=(oQ (Jt9b p) (oQ (oQ (oR [oM 13 4,qo 14 (.un .not (.t 13))]) (.cond (.t 14) (Jt9c p) .skip)) (Jt9d p)))
def Jti2:IC:=(oQ (oR [oM 6 2,qo 7 (.isnif true (.t 6))]) (.cond (.t 7) (Jt9e p) .skip))
end
structure All (P:Program) (p:Nums):Prop where
 Yf0:Has P p.Yf0 2 [(.cell 4 (some 2)),(.tmp 5)] (Jtje p)
 Yf1:Has P p.Yf1 2 [(.cell 4 (some 2)),(.tmp 5)] (Jtjy p)
 Yf2:Has P p.Yf2 2 [(.tmp 4)] (Jtjz p)
 Yf3:Has P p.Yf3 1 [(.tmp 2)] (Jtjd p)
 Yf4:Has P p.Yf4 2 [(.tmp 4)] (Jtjb p)
 Yf5:Has P p.Yf5 2 [(.tmp 4)] (Jtjx p)
 Yf6:Has P p.Yf6 2 [(.tmp 4)] (Jtj6 p)
 Yf7:Has P p.Yf7 2 [(.tmp 4)] (Jtjf p)
 Yf8:Has P p.Yf8 2 [(.tmp 4)] (Jtjc p)
 Yf9:Has P p.Yf9 1 [(.tmp 2)] (Jtjo p)
 Yfa:Has P p.Yfa 1 [(.tmp 2)] (Jtjl p)
 Yfb:Has P p.Yfb 1 [(.tmp 2)] (Jtih p)
 Yfc:Has P p.Yfc 1 [(.cell 2 (some 3))] (Jtjn p)
 Yfd:Has P p.Yfd 2 [(.tmp 4)] (Jtj9 p)
 Yfe:Has P p.Yfe 2 [(.tmp 4)] (Jtj7 p)
 Yff:Has P p.Yff 1 [(.tmp 2)] (Jtkb p)
 Yfi:Has P p.Yfi 1 [(.tmp 2)] (Jtkc p)
 Yfj:Has P p.Yfj 2 [(.tmp 4)] (Jtjh p)
 Yfk:Has P p.Yfk 1 [(.tmp 2)] (Jtjm p)
 Yfl:Has P p.Yfl 2 [(.tmp 4)] (Jtjp p)
 Yfm:Has P p.Yfm 3 [(.tmp 6)] (Jtjr p)
 Yfn:Has P p.Yfn 1 [(.tmp 2)] (Jtji p)
 Yfo:Has P p.Yfo 1 [(.tmp 2)] (Jtjj p)
 Yfp:Has P p.Yfp 1 [(.tmp 2)] (Jtjk p)
 Yfq:Has P p.Yfq 1 [(.cell 2 none),(.cell 3 none)] (Jtij p)
 Yfr:Has P p.Yfr 1 [(.tmp 2)] (Jtil p)
 Yfs:Has P p.Yfs 1 [(.tmp 2)] (Jtim p)
 Yft:Has P p.Yft 2 [(.tmp 4)] (Jtii p)
 Yfu:Has P p.Yfu 2 [(.tmp 4)] (Jtjg p)
 Yfv:Has P p.Yfv 2 [(.tmp 3)] (Jtja p)
 Yfw:Has P p.Yfw 2 [(.tmp 3)] (Jtj8 p)
 Yfx:Has P p.Yfx 2 [(.tmp 4)] (Jtjs p)
 Yfy:Has P p.Yfy 3 [] (Jtik p)
 Yfz:Has P p.Yfz 1 [(.cell 2 (some 4)),(.tmp 3)] (Jtj3 p)
 Yf11:Has P p.Yf11 1 [(.tmp 2)] (Jtkk p)
 Yf12:Has P p.Yf12 1 [(.tmp 2)] (Jtj5 p)
 Yf13:Has P p.Yf13 1 [(.cell 2 (some 8)),(.tmp 3)] (Jtk3 p)
 Yf14:Has P p.Yf14 2 [(.tmp 4)] (Jtjq p)
 Yf15:Has P p.Yf15 1 [(.tmp 2)] (Jtkh p)
 Yf16:Has P p.Yf16 1 [(.tmp 2)] (Jtk8 p)
 Yf17:Has P p.Yf17 1 [(.cell 2 (some 5))] (Jtk2 p)
 Yf18:Has P p.Yf18 1 [(.tmp 2)] (Jtjv p)
 Yf19:Has P p.Yf19 1 [(.tmp 2)] (Jtjt p)
 Yf1a:Has P p.Yf1a 2 [(.tmp 4)] (Jtjw p)
 Yf1b:Has P p.Yf1b 1 [(.tmp 2)] (Jtki p)
 Yf1c:Has P p.Yf1c 3 [(.tmp 6)] (Jtkn p)
 Yf1d:Has P p.Yf1d 1 [(.tmp 2)] (Jtir p)
 Yf1e:Has P p.Yf1e 2 [(.cell 4 (some 7))] (Jtk4 p)
 Yf1f:Has P p.Yf1f 1 [(.tmp 2)] (Jtiq p)
 Yf1g:Has P p.Yf1g 2 [(.tmp 4)] (Jtkj p)
 Yf1h:Has P p.Yf1h 3 [(.tmp 6)] (Jtkl p)
 Yf1i:Has P p.Yf1i 1 [(.tmp 2)] (Jtj4 p)
 Yf1j:Has P p.Yf1j 1 [(.tmp 2)] (Jtko p)
 Yf1k:Has P p.Yf1k 1 [(.tmp 2)] (Jtkm p)
 Yf1l:Has P p.Yf1l 1 [(.tmp 2)] (Jtip p)
 Yf1m:Has P p.Yf1m 1 [(.tmp 2)] (Jtio p)
 Yf1n:Has P p.Yf1n 1 [(.tmp 2)] (Jtk1 p)
 Yf1o:Has P p.Yf1o 1 [(.tmp 2)] (Jti6 p)
 Yf1p:Has P p.Yf1p 1 [(.cell 2 (some 7))] (Jti5 p)
 Yf1q:Has P p.Yf1q 1 [(.tmp 2)] (Jtju p)
 Yf1r:Has P p.Yf1r 1 [(.tmp 2)] (Jtk0 p)
 Yf1s:Has P p.Yf1s 1 [(.tmp 2)] (Jtis p)
 Yf1t:Has P p.Yf1t 5 [(.tmp 10)] (Jtib p)
 Yf1u:Has P p.Yf1u 1 [(.cell 2 (some 7))] (Jti7 p)
 Yf1v:Has P p.Yf1v 4 [(.cell 8 (some 5))] (Jthw p)
 Yf1w:Has P p.Yf1w 2 [(.cell 4 (some 2)),(.tmp 5)] (Jti9 p)
 Yf1x:Has P p.Yf1x 1 [(.tmp 2)] (Jtit p)
 Yf1y:Has P p.Yf1y 2 [(.tmp 4)] (Jtiv p)
 Yf1z:Has P p.Yf1z 1 [(.tmp 2)] (Jtid p)
 Yf20:Has P p.Yf20 4 [(.tmp 8)] (Jtic p)
 Yf21:Has P p.Yf21 2 [(.cell 4 (some 2)),(.tmp 5)] (Jti8 p)
 Yf22:Has P p.Yf22 2 [(.tmp 4),(.tmp 5),(.tmp 6)] (Jthp p)
 Yf23:Has P p.Yf23 2 [(.tmp 4)] (Jthr p)
 Yf24:HasD P p.Yf24 4 [(.cell 8 none),(.cell 9 none)] (Jti1 p) (Jti3 p) 12 p.Yf2d [8,9] (Jti2 p) 5 2
 Yf25:Has P p.Yf25 3 [(.tmp 6)] (Jtiu p)
 Yf26:Has P p.Yf26 3 [(.tmp 6)] (Jtin p)
 Yf27:Has P p.Yf27 2 [(.tmp 4)] (Jtia p)
 Yf28:Has P p.Yf28 3 [(.tmp 6)] (Jthu p)
 Yf29:Has P p.Yf29 1 [(.tmp 2)] (Jths p)
 Yf2a:Has P p.Yf2a 3 [(.tmp 6)] (Jthv p)
 Yf2b:Has P p.Yf2b 1 [(.tmp 2)] (Jtht p)
 Yf2c:Has P p.Yf2c 2 [(.tmp 4)] (Jthq p)
 Yf2e:Has P p.Yf2e 4 [] (Jti0 p)
 Yf2f:Has P p.Yf2f 4 [] (Jti4 p)
 Yf2g:Has P p.Yf2g 1 [(.tmp 2)] (Jtj2 p)
 Yf2h:Has P p.Yf2h 0 [(.cell 0 (some 2))] (Jtiz p)
 Yf2i:Has P p.Yf2i 0 [(.cell 0 (some 2))] (Jtiw p)
 Yf2j:Has P p.Yf2j 1 [] (Jthy p)
 Yf2k:Has P p.Yf2k 3 [] (Jthx p)
 Yf2l:Has P p.Yf2l 3 [(.tmp 6)] (Jtkp p)
 Yf2m:Has P p.Yf2m 3 [(.tmp 6)] (Jtkr p)
 Yf2n:Has P p.Yf2n 4 [] (Jthz p)
 Yf2o:Has P p.Yf2o 3 [(.tmp 6)] (Jtj0 p)
 Yf2p:Has P p.Yf2p 1 [(.tmp 2)] (Jtj1 p)
 Yf2q:Has P p.Yf2q 3 [(.tmp 6)] (Jtix p)
 Yf2r:Has P p.Yf2r 1 [(.tmp 2)] (Jtiy p)
 Yf2s:Has P p.Yf2s 3 [(.tmp 6)] (Jtks p)
 Yf2v:Has P p.Yf2v 3 [(.tmp 6)] (Jtkq p)
 Yf2w:Has P p.Yf2w 3 [(.tmp 6)] (Jtie p)
 Yf2x:Has P p.Yf2x 0 [(.tmp 0)] (Jtif p)
 Yf2y:Has P p.Yf2y 1 [(.tmp 2)] (Jtk5 p)
 Yf2z:Has P p.Yf2z 3 [(.cell 6 (some 8))] (Jtkx p)
 Yf30:Has P p.Yf30 1 [(.tmp 2)] (Jtkw p)
 Yf31:Has P p.Yf31 1 [(.tmp 2)] (Jtk6 p)
 Yf32:Has P p.Yf32 1 [(.cell 2 (some 8)),(.tmp 3)] (Jtkt p)
 Yf33:Has P p.Yf33 1 [(.cell 2 (some 8)),(.tmp 3)] (Jtkv p)
 Yf34:Has P p.Yf34 2 [(.tmp 4)] (Jtig p)
 Yf35:Has P p.Yf35 1 [(.cell 2 (some 8))] (Jtkz p)
 Yf36:Has P p.Yf36 2 [(.tmp 4)] (Jtke p)
 Yf37:Has P p.Yf37 2 [(.tmp 3)] (Jtky p)
 Yf38:Has P p.Yf38 2 [(.tmp 3)] (Jtku p)
 Yf39:Has P p.Yf39 2 [(.tmp 4)] (Jtkd p)
 Yf3a:Has P p.Yf3a 1 [(.cell 2 (some 8))] (Jtl0 p)
 Yf3b:Has P p.Yf3b 1 [(.tmp 2)] (Jtk7 p)
 Yf3c:Has P p.Yf3c 1 [(.tmp 2)] (Jtk9 p)
 Yf3d:Has P p.Yf3d 1 [(.tmp 2)] (Jtka p)
 Yf3e:Has P p.Yf3e 2 [(.tmp 4)] (Jtkf p)
 Yf3f:Has P p.Yf3f 2 [(.tmp 4)] (Jtkg p)
def renE(ρ:Nat→Option Nat):List (Nat × AV)→Option (List (Nat × AV))
 | []=>some []
 | (t,x)::r=>match x.ren ρ,renE ρ r with | some y,some r'=>some ((t,y)::r') | _,_=>none
theorem Jt15n{ρ:Nat→Option Nat}:∀ {e e':List (Nat × AV)},renE ρ e=some e'→∀ (t:Nat) (y:AV),get e' t=some y→∃ x,get e t=some x∧x.ren ρ=some y:=by
 intro e
 induction e with
 | nil=>intro e' h t y hy;simp only [renE] at h;injection h with h;subst h;simp [get] at hy
 | cons z e ih=>
  intro e' h t y hy
  obtain ⟨s,x⟩:=z
  simp only [renE] at h
  split at h
  ·rename_i y' r' h1 h2
   injection h with h;subst h
   simp only [get] at hy ⊢
   split at hy
   ·rename_i hs;injection hy with hy;subst hy;rw [if_pos hs];exact ⟨x,rfl,h1⟩
   ·rename_i hs;rw [if_neg hs];exact ih h2 t y hy
  ·cases h
theorem Jt15i{ρ:Nat→Option Nat}:∀ {xs ys:List Blk},renB ρ xs=some ys→xs.length=ys.length∧∀ (k:Nat) (y:Blk),ys[k]?=some y→∃ x,xs[k]?=some x∧x.ren ρ=some y:=by
 intro xs
 induction xs with
 | nil=>intro ys h;simp only [renB] at h;injection h with h;subst h;exact ⟨rfl,fun k y hy=>by simp at hy⟩
 | cons x xs ih=>
  intro ys h
  simp only [renB] at h
  split at h
  ·rename_i y ys' h1 h2
   injection h with h;subst h
   obtain ⟨i1,i2⟩:=ih h2
   refine ⟨by simp [i1],fun k z hz=>?_⟩
   cases k with
   | zero=>exact ⟨x,rfl,by simp at hz;rw [←hz];exact h1⟩
   | succ k=>exact i2 k z (by simpa using hz)
  ·cases h
theorem Jt15f{ρ:Nat→Option Nat}{k k':Blk}{t t':List Blk}(h1:k.ren ρ=some k')(h2:renB ρ t=some t'):renB ρ (k::t)=some (k'::t'):=by simp only [renB,h1,h2]
theorem Mv.of{m i j:Nat}{e e':List (Nat × AV)} {H H1:List Blk} {x y:Blk} (he:renE (fun b=>some (sw i j b)) e=some e') (hH:renB (fun b=>some (sw i j b)) H=some H1) (hx:H1[i]?=some x) (hy:H1[j]?=some y) (hi:m≤i) (hj:m≤j) (hij:i≠j) :
  Mv m i j ⟨e,H⟩ ⟨e',(H1.set i y).set j x⟩:=by
 obtain ⟨l1,l2⟩:=Jt15i hH
 have li:=(lgS.1 hx).1
 have lj:=(lgS.1 hy).1
 refine ⟨hi,hj,by show i<H.length;omega,by show j<H.length;omega,fun t z hz=>Jt15n he t z hz,by simp [l1],fun b k hk=>l2 _ k ?_⟩
 simp only at hk
 by_cases hbj:b=j
 ·subst hbj
  rw [List.getElem?_set_self (by simpa using lj)] at hk
  have:sw i b b=i:=by unfold sw;rw [if_neg (Ne.symm hij),if_pos rfl]
  rw [this,hx];exact hk
 ·rw [List.getElem?_set_ne (Ne.symm hbj)] at hk
  by_cases hbi:b=i
  ·subst hbi
   rw [List.getElem?_set_self li] at hk
   have:sw b j b=j:=by unfold sw;rw [if_pos rfl]
   rw [this,hy];exact hk
  ·rw [List.getElem?_set_ne (Ne.symm hbi)] at hk
   have:sw i j b=b:=by unfold sw;rw [if_neg hbi,if_neg hbj]
   rw [this];exact hk
end Go.AE
namespace Go.AE
open Go Go.Sort
theorem Jtac{P:Program}{f:Nat}{args:List AV}{H:List Blk}{x:AV}(hx:∀ e rows,x≠.own e rows)(hxv:∀ org e rows,x≠.view org e rows)
  (hH:∀ (b:Nat) (cells:List AV) (j e:Nat) (rows:List (List D)),H[b]?=some (Blk.mem cells)→cells[j]?≠some (AV.own e rows))
  (h:∀ (g:Gh) (vs:Array Value) (w:World),vs.size=args.length→Sim args.length ⟨enum 0 args,H⟩ g ⟨vs,[]⟩ w→∃ v,(∀ F φ w,Rel F φ w x.erase v)∧Calls P f vs w fun e w'=>e=.returned v∧∃ q os,w'=grow (w.drewN q) os) :
  Jt51 P f args H fun o H'=>o=.ret x∧H'=H:=by
 intro g vs w hvs hs
 obtain ⟨v,hv,hc⟩:=h g vs w hvs hs
 refine hc.mono ?_
 rintro e w' ⟨rfl,q,os,rfl⟩
 have hheap:(grow (w.drewN q) os).heap=w.heap++os:=rfl
 have hsame:∀ r,r<w.heap.size→(grow (w.drewN q) os).heap[r]?=w.heap[r]?:=by
  intro r hr;rw [hheap,Array.getElem?_append,if_pos hr]
 have hst:Stab g.F w g.F (grow (w.drewN q) os):=by
  refine ⟨fun _ _=>Nat.le_refl _,fun r j u hj hu=>?_,Jtcv hsame⟩
  have hlt:=World.block_lt_of_cell? w ⟨r,j,none⟩ hu
  simp only [World.cell?] at hu ⊢
  rw [hsame r hlt];exact hu
 have hno:∀ p e rows,AP ⟨[(0,x)],H⟩ p≠some (.own e rows):=by
  intro p e rows hp
  cases p with
  | tmp t=>
   simp only [AP,get] at hp
   split at hp
   ·injection hp with hp;exact hx e rows hp
   ·cases hp
  | cell b j=>
   simp only [AP] at hp
   split at hp
   ·rename_i cells hb;exact hH b cells j e rows hb hp
   ·cases hp
 refine ⟨.ret x,H,g,v,⟨rfl,rfl⟩,rfl,?_,⟨rfl,rfl,rfl,?_,fun r hr _=>⟨hsame r hr,rfl⟩,hst⟩,fun _ _ _ h=>h,Nat.le_refl _,?_⟩
 ·refine { size:=by simp,env:=?_,inj:=hs.inj,lt:=?_,dom:=hs.dom,mem:=?_,iter:=?_,glob:=?_,own:=?_,excl:=?_,apart:=?_,view:=?_}
  ·intro t y hy
   simp only [AOut.val,get] at hy
   split at hy
   ·rename_i h0;subst h0;injection hy with hy;subst hy;exact hv _ _ _
   ·cases hy
  ·intro b r hb
   obtain ⟨h1,h2,h3⟩:=hs.lt b r hb
   refine ⟨?_,h2,h3⟩
   rw [hheap];simp only [Array.size_append];omega
  ·intro b cells r hb hr
   obtain ⟨c,e,h1,h2,h3⟩:=hs.mem b cells r hb hr
   refine ⟨c,e,by rw [hsame r (hs.lt b r hr).1];exact h1,h2,fun j y hy=>?_⟩
   obtain ⟨k1,u,k2,k3⟩:=h3 j y hy
   exact ⟨k1,u,k2,k3.stab hst fun _ _ h=>h⟩
  ·intro b s pos r hb hr
   rw [hsame r (hs.lt b r hr).1];exact hs.iter b s pos r hb hr
  ·intro b s pos r hb hr
   rw [hsame r (hs.lt b r hr).1];exact hs.glob b s pos r hb hr
  ·exact fun p e rows v hp _=>absurd hp (hno p e rows)
  ·rintro p p' r ⟨e,rows,_,hp,_⟩;exact absurd hp (hno p e rows)
  ·rintro p r b ⟨e,rows,_,hp,_⟩;exact absurd hp (hno p e rows)
  ·intro t org e rows hy
   simp only [AOut.val,get] at hy
   split at hy
   ·injection hy with hy;exact absurd hy (hxv org e rows)
   ·cases hy
 ·rw [hheap];simp only [Array.size_append];exact Nat.le_add_right _ _
 ·rintro r (⟨b,hb⟩ | ⟨p,e,rows,_,hp,_⟩)
  ·exact .inl (.inl ⟨b,hb⟩)
  ·exact absurd hp (hno p e rows)
abbrev I(n:Int):D:=.int .i64 n
abbrev AI(n:Int):AV:=.d (.int .i64 n)
abbrev AB(b:Bool):AV:=.d (.bool b)
structure Pair where (v l:Int)
 deriving DecidableEq,Inhabited
def Pair.row(q:Pair):List D:=[I q.v,I q.l]
def Pair.av(q:Pair):AV:=.agg [AI q.v,AI q.l]
def pairsD(l:List Pair):D:=.sl (l.map Pair.row)
theorem HasL.cons_inv{l:LT}{ls:List LT}{ds:List D}(h:HasL (l::ls) ds):∃ d ds',ds=d::ds'∧HasT l d∧HasL ls ds':=by
 obtain ⟨h1,h2⟩:=h
 cases ds with
 | nil=>simp at h1
 | cons d ds=>exact ⟨d,ds,rfl,h2 0 l d rfl rfl,by simpa using h1,fun j l' x a b=>h2 (j+1) l' x (by simpa using a) (by simpa using b)⟩
theorem HasL.nil_inv{ds:List D}(h:HasL [] ds):ds=[]:=by
 have:=h.1;simpa using this
theorem HasT.int_inv{k:IntKind}{d:D}(h:HasT (.int k) d):∃ n,d=.int k n∧(Lit.int k n).wf=true:=by
 cases h with
 | int _ n h=>exact ⟨n,rfl,h⟩
theorem HasT.sl_inv{ls:List LT}{d:D}(h:HasT (.sl ls) d):∃ rows,d=.sl rows∧rows.length≤maxLen∧∀ r∈rows,HasL ls r:=by
 cases h with
 | sl _ rows hl h0 h=>exact ⟨rows,rfl,hl,fun r hr=>⟨h0 r hr,h r hr⟩⟩
theorem Jt16v{α:Type}{g:α→List D}{Q:List D→Prop}(h:∀ r,Q r→∃ x,r=g x):∀ {rows:List (List D)},(∀ r∈rows,Q r)→∃ l:List α,rows=l.map g:=by
 intro rows
 induction rows with
 | nil=>intro _;exact ⟨[],rfl⟩
 | cons r rows ih=>
  intro hq
  obtain ⟨x,rfl⟩:=h r (hq r (by simp))
  obtain ⟨l,rfl⟩:=ih fun r hr=>hq r (by simp [hr])
  exact ⟨x::l,rfl⟩
def ltI:LT:=.int .i64
def ltPair:List LT:=[ltI,ltI]
def lessP(a b:Pair):Bool:=if a.v=b.v then decide (a.l<b.l) else decide (a.v<b.v)
theorem Jtne{a b:Pair}:lessP a b=true↔a.v<b.v∨(a.v=b.v∧a.l<b.l):=by
 unfold lessP;split<;>simp<;>omega
theorem Jtnh{a b:Pair}(h1:lessP a b=false)(h2:lessP b a=false):a=b:=by
 have h1:¬ lessP a b=true:=by simp [h1]
 have h2:¬ lessP b a=true:=by simp [h2]
 rw [Jtne] at h1 h2
 obtain ⟨a1,a2⟩:=a;obtain ⟨b1,b2⟩:=b
 simp only [Pair.mk.injEq];simp only at h1 h2;omega
theorem Jtni{a b c:Pair}(h1:lessP a b=true)(h2:lessP b c=true):lessP a c=true:=by
 rw [Jtne] at *;omega
theorem Jtnf(a:Pair):lessP a a=false:=by
 cases h:lessP a a with
 | false=>rfl
 | true=>rw [Jtne] at h;omega
theorem Jtnd{a b:Pair}(h1:lessP a b=true):lessP b a=false:=by
 cases h:lessP b a with
 | false=>rfl
 | true=>have:=Jtni h1 h;rw [Jtnf] at this;cases this
def stepA(p:Pair)(s:List Pair × Bool)(q:Pair):List Pair × Bool:=
 let s:=if s.2=false∧lessP q p=false then (s.1++[p],true) else s
 if q=p then s else (s.1++[q],s.2)
def foldA(p:Pair)(l:List Pair):List Pair × Bool:=l.foldl (stepA p) ([],false)
def addP(l:List Pair)(p:Pair):List Pair:=if (foldA p l).2=true then (foldA p l).1 else (foldA p l).1++[p]
def makeP(l:List Pair):List Pair:=l.foldl addP []
def missP(a b:List Pair):Option Pair:=a.find? fun q=>!decide (q∈b)
theorem Jtf3{a b:Pair}(h1:a.v=b.v)(h2:a.l=b.l):a=b:=by cases a;cases b;simp_all
theorem Jtvi(a b:Pair):(decide (a.v=b.v)&&decide (a.l=b.l))=decide (a=b):=by
 by_cases h:a=b
 ·subst h;simp
 ·rw [decide_eq_false h]
  cases h1:decide (a.v=b.v)<;>cases h2:decide (a.l=b.l)<;>simp_all
  exact h (Jtf3 h1 h2)
theorem Jtvh(a b:Pair):(a.v==b.v&&a.l==b.l)=decide (a=b):=by
 rw [←Jtvi];rfl
def Srt(l:List Pair):Prop:=l.Pairwise fun a b=>lessP a b=true
theorem Jt1d6{a:Pair}{l:List Pair}:Srt (a::l)↔(∀ b∈l,lessP a b=true)∧Srt l:=List.pairwise_cons
theorem Jt1db{l:List Pair}(h:Srt l){i j:Nat}(hij:i<j)(hj:j<l.length):lessP (l[i]'(by omega)) l[j]=true:=List.pairwise_iff_getElem.1 h i j (by omega) hj hij
theorem Jt1d5{l:List Pair}:Srt l↔∀ k,(h:k+1<l.length)→lessP (l[k]) (l[k+1])=true:=by
 constructor
 ·intro h k hk;exact Jt1db h (by omega) hk
 ·intro h
  refine List.pairwise_iff_getElem.2 fun i j hi hj hij=>?_
  obtain ⟨n,rfl⟩:∃ n,j=i+1+n:=⟨j-(i+1),by omega⟩
  induction n with
  | zero=>exact h i hj
  | succ n ih=>exact Jtni (ih (by omega) (by omega)) (h (i+1+n) (by omega))
theorem Jt1d9:∀ {a b:List Pair},Srt a→Srt b→(∀ q,q∈a↔q∈b)→a=b:=by
 intro a
 induction a with
 | nil=>
  intro b _ _ h
  cases b with
  | nil=>rfl
  | cons y b=>have:=(h y).2 (by simp);cases this
 | cons x a ih=>
  intro b ha hb h
  cases b with
  | nil=>have:=(h x).1 (by simp);cases this
  | cons y b=>
   rw [Jt1d6] at ha hb
   have exy:x=y:=by
    have h1:=(h x).1 (by simp)
    have h2:=(h y).2 (by simp)
    rw [List.mem_cons] at h1 h2
    rcases h1 with h1 | h1
    ·exact h1
    ·rcases h2 with h2 | h2
     ·exact h2.symm
     ·have:=Jtnd (hb.1 x h1);rw [ha.1 y h2] at this;cases this
   subst exy
   have:a=b:=by
    refine ih ha.2 hb.2 fun q=>?_
    have hq:=h q
    rw [List.mem_cons,List.mem_cons] at hq
    constructor
    ·intro hqa
     rcases hq.1 (.inr hqa) with e | e
     ·subst e;have:=ha.1 q hqa;rw [Jtnf] at this;cases this
     ·exact e
    ·intro hqb
     rcases hq.2 (.inr hqb) with e | e
     ·subst e;have:=hb.1 q hqb;rw [Jtnf] at this;cases this
     ·exact e
   rw [this]
def posP(l:List Pair)(p:Pair):Nat:=(l.takeWhile fun q=>lessP q p).length
def insP(l:List Pair)(p:Pair):List Pair:=(l.takeWhile fun q=>lessP q p)++p::(l.dropWhile fun q=>lessP q p).filter fun q=>decide (q≠p)
theorem Jtng{a b:Pair}(h:lessP a b=true):a≠b:=by rintro rfl;rw [Jtnf] at h;cases h
theorem Jtgf(p:Pair)(l out:List Pair):l.foldl (stepA p) (out,true)=(out++l.filter (fun q=>decide (q≠p)),true):=by
 induction l generalizing out with
 | nil=>simp
 | cons q l ih=>
  by_cases e:q=p
  ·simp [stepA,e,ih]
  ·simp [stepA,e,ih]
theorem Jtgg(p:Pair)(l out:List Pair):l.foldl (stepA p) (out,false)=if (l.dropWhile fun q=>lessP q p)=[] then (out++l,false) else (out++insP l p,true):=by
 induction l generalizing out with
 | nil=>simp
 | cons q l ih=>
  cases h:lessP q p with
  | true=>
   have hne:=Jtng h
   simp only [List.foldl_cons,stepA,h,hne,if_false,and_false,ih,List.dropWhile_cons,if_true,Bool.true_eq_false,insP,List.takeWhile_cons]
   split<;>simp [List.append_assoc]
  | false=>
   simp only [List.foldl_cons,stepA,h,and_self,if_true,List.dropWhile_cons,Bool.false_eq_true,if_false,reduceCtorEq,insP,List.takeWhile_cons,List.nil_append]
   by_cases e:q=p
   ·simp [e,Jtgf]
   ·simp [e,Jtgf]
theorem Jt6a(l:List Pair)(p:Pair):addP l p=insP l p:=by
 unfold addP foldA
 rw [Jtgg]
 split
 ·rename_i h
  simp only [List.nil_append,Bool.false_eq_true,if_false,insP,h,List.filter_nil]
  have:l.takeWhile (fun q=>lessP q p)=l:=by
   have e:=List.takeWhile_append_dropWhile (p:=fun q=>lessP q p) (l:=l)
   rw [h,List.append_nil] at e;exact e
  rw [this]
 ·simp
theorem Jtsk{l:List Pair}{p q:Pair}:q∈addP l p↔q=p∨q∈l:=by
 rw [Jt6a,insP]
 have e:=List.takeWhile_append_dropWhile (p:=fun q=>lessP q p) (l:=l)
 have e2:q∈l↔q∈l.takeWhile (fun q=>lessP q p)∨q∈l.dropWhile (fun q=>lessP q p):=by
  rw [←List.mem_append,e]
 simp only [List.mem_append,List.mem_cons,List.mem_filter,decide_eq_true_eq,e2]
 by_cases h:q=p<;>simp [h]
theorem Jtde{l:List Pair}{p:Pair}(h:Srt l):∀ q∈l.dropWhile (fun q=>lessP q p),lessP q p=false:=by
 induction l with
 | nil=>intro q hq;simp at hq
 | cons x l ih=>
  intro q hq
  rw [Jt1d6] at h
  cases hx:lessP x p with
  | true=>rw [List.dropWhile_cons,hx,if_pos rfl] at hq;exact ih h.2 q hq
  | false=>
   rw [List.dropWhile_cons,hx,if_neg (by simp)] at hq
   rcases List.mem_cons.1 hq with rfl | hq
   ·exact hx
   ·cases hqp:lessP q p with
    | false=>rfl
    | true=>rw [Jtni (h.1 q hq) hqp] at hx;cases hx
theorem Jt1e5{l:List Pair}{p:Pair}:∀ q∈l.takeWhile (fun q=>lessP q p),lessP q p=true:=by
 induction l with
 | nil=>intro q hq;simp at hq
 | cons x l ih=>
  intro q hq
  cases hx:lessP x p with
  | true=>
   rw [List.takeWhile_cons,hx,if_pos rfl] at hq
   rcases List.mem_cons.1 hq with rfl | hq
   ·exact hx
   ·exact ih q hq
  | false=>rw [List.takeWhile_cons,hx,if_neg (by simp)] at hq;simp at hq
theorem Jt1dg{a b:List Pair}(h:a.Sublist b)(hb:Srt b):Srt a:=List.Pairwise.sublist h hb
theorem Jt1d4{l:List Pair}{p:Pair}(h:Srt l):Srt (addP l p):=by
 rw [Jt6a,insP]
 refine List.pairwise_append.2 ⟨Jt1dg (List.takeWhile_sublist _) h,Jt1d6.2 ⟨?_,?_⟩,?_⟩
 ·intro b hb
  rw [List.mem_filter,decide_eq_true_eq] at hb
  have h1:=Jtde h b hb.1
  cases h2:lessP p b with
  | true=>rfl
  | false=>exact absurd (Jtnh h2 h1).symm hb.2
 ·exact Jt1dg (List.filter_sublist.trans (List.dropWhile_sublist _)) h
 ·intro a ha b hb
  have h1:=Jt1e5 a ha
  rcases List.mem_cons.1 hb with rfl | hb
  ·exact h1
  ·rw [List.mem_filter,decide_eq_true_eq] at hb
   have h2:=Jtde h b hb.1
   cases h3:lessP p b with
   | true=>exact Jtni h1 h3
   | false=>exact absurd (Jtnh h3 h2).symm hb.2
theorem Jts7(l:List Pair)(q:Pair):makeP (l++[q])=addP (makeP l) q:=by simp [makeP]
theorem Jts6{motive:List Pair→Prop}(h0:motive []) (h1:∀ l q,motive l→motive (l++[q])) (l:List Pair):motive l:=by
 generalize hn:l.length=n
 induction n generalizing l with
 | zero=>have:l=[]:=List.length_eq_zero_iff.1 hn;subst this;exact h0
 | succ n ih=>
  have hne:l≠[]:=by rintro rfl;simp at hn
  rw [←List.dropLast_concat_getLast hne]
  exact h1 _ _ (ih _ (by simp [hn]))
theorem Jt1dc(l:List Pair):Srt (makeP l):=by
 induction l using Jts6 with
 | h0=>exact List.Pairwise.nil
 | h1 l q ih=>rw [Jts7];exact Jt1d4 ih
theorem Jtsp{l:List Pair}{q:Pair}:q∈makeP l↔q∈l:=by
 induction l using Jts6 with
 | h0=>simp [makeP]
 | h1 l x ih=>rw [Jts7,Jtsk,ih];simp [or_comm]
theorem Jt1df{l:List Pair}(h:Srt l):l.Nodup:=List.Pairwise.imp (fun h=>Jtng h) h
theorem Jt6b(l:List Pair)(p:Pair):(addP l p).length≤l.length+1:=by
 rw [Jt6a,insP]
 have e:=congrArg List.length (List.takeWhile_append_dropWhile (p:=fun q=>lessP q p) (l:=l))
 have e2:=List.length_filter_le (fun q=>decide (q≠p)) (l.dropWhile fun q=>lessP q p)
 simp only [List.length_append,List.length_cons] at e ⊢;omega
theorem Jts5(l:List Pair):(makeP l).length≤l.length:=by
 induction l using Jts6 with
 | h0=>simp [makeP]
 | h1 l x ih=>rw [Jts7];have:=Jt6b (makeP l) x;simp only [List.length_append,List.length_cons,List.length_nil];omega
section
variable {P:Program} {p:Nums}
theorem Jt12e(A:All P p)(l:List Pair)(q:Pair)(h0:l.length<1000000000):Jt51 P p.Yf5 [.d (pairsD l),q.av] [] fun o _=>o=.ret (AB (decide (q∈l))):=by
 refine A.Yf5.run rfl fun R hR=>?_
 (simp (maxSteps:=9^6)[Jtjx,pairsD,Pair.av])
 refine Jtf (fun k:Nat=>⟨[(5,AI k),(4,AB false),(3,.ptr 0 0),(0,.d (.sl (l.map Pair.row)))],[.mem [AI q.v,AI q.l]]⟩) (fun k=>k≤l.length∧q∉l.take k) (fun k=>l.length-k) 0 (by simp) (by (exact wkA)) ?_
 rintro k ⟨hk,hz⟩ N hN
 (simp (maxSteps:=9^6)[])
 ((first|refine Xc ?_ ?_|refine Xo ?_ ?_)<;>intro h2<;>try simp only [Xz,Xy] at h2)
 ·have hkl:k<l.length:=by simpa using h2
  have hb:l[k]?=some l[k]:=by simp
  have hw:=Jt1le (k:=k) (by omega)
  (simp (maxSteps:=9^6)[h2,hb,Pair.row])
  ((first|refine Xc ?_ ?_|refine Xo ?_ ?_)<;>intro h3<;>try simp only [Xz,Xy] at h3)
  ·(simp (maxSteps:=9^6)[h3])
   have e:q=l[k]:=by cases q;cases hq:l[k];simp_all
   have:q∈l:=by rw [e];exact List.getElem_mem hkl
   (first|exact hR _ _ FrA|exact hR _ _ FnA|exact hR _ _ (Xf (hq:=by simp [AV.erase,AV.unview,this];done)))
  ·(simp (maxSteps:=9^6)[h3,hw])
   refine hN _ (k+1) ⟨hkl,?_⟩ (by (exact wkA)) (by omega)
   rw [List.take_add_one,hb]
   simp only [List.mem_append,not_or,hz,not_false_eq_true,true_and,Option.toList,List.mem_singleton]
   intro e;subst e;simp at h3
 ·have hk':k=l.length:=by simp at h2;omega
  subst hk'
  have:q∉l:=by simpa using hz
  (simp (maxSteps:=9^6)[])
  (first|exact hR _ _ FrA|exact hR _ _ FnA|exact hR _ _ (Xf (hq:=by simp [AV.erase,AV.unview,this];done)))
theorem Jt12w(A:All P p)(a b:List Pair)(h0:a.length<1000000000)(h1:b.length<1000000000):Jt51 P p.Yf2 [.d (pairsD a),.d (pairsD b)] [] fun o _=>o=.ret (AB (decide (a=b))):=by
 refine A.Yf2.run rfl fun R hR=>?_
 (simp (maxSteps:=9^6)[Jtjz,pairsD])
 ((first|refine Xc ?_ ?_|refine Xo ?_ ?_)<;>intro hl<;>try simp only [Xz,Xy] at hl)
 ·(simp (maxSteps:=9^6)[hl])
  have:a≠b:=by rintro rfl;exact hl rfl
  (first|exact hR _ _ FrA|exact hR _ _ FnA|exact hR _ _ (Xf (hq:=by simp [AV.erase,AV.unview,this];done)))
 have hl':a.length=b.length:=by omega
 (simp (maxSteps:=9^6)[hl'])
 refine Jtf (fun k:Nat=>⟨[(5,AI k),(4,AB false),(1,.d (.sl (b.map Pair.row))),(0,.d (.sl (a.map Pair.row)))],[]⟩) (fun k=>k≤a.length∧a.take k=b.take k) (fun k=>a.length-k) 0 (by simp) (by (exact wkA)) ?_
 rintro k ⟨hk,hz⟩ N hN
 (simp (maxSteps:=9^6)[])
 ((first|refine Xc ?_ ?_|refine Xo ?_ ?_)<;>intro h2<;>try simp only [Xz,Xy] at h2)
 ·have hkl:k<a.length:=by simpa using h2
  have hkl2:k<b.length:=by omega
  have hb:a[k]?=some a[k]:=by simp
  have hb2:b[k]?=some b[k]:=by simp
  have hw:=Jt1le (k:=k) (by omega)
  (simp (maxSteps:=9^6)[h2,hb,hb2,hkl2,Pair.row])
  ((first|refine Xc ?_ ?_|refine Xo ?_ ?_)<;>intro h3<;>try simp only [Xz,Xy] at h3)
  ·(simp (maxSteps:=9^6)[h3])
   have:a≠b:=by rintro rfl;simp at h3
   (first|exact hR _ _ FrA|exact hR _ _ FnA|exact hR _ _ (Xf (hq:=by simp [AV.erase,AV.unview,this];done)))
  ·(simp (maxSteps:=9^6)[h3,hw])
   refine hN _ (k+1) ⟨hkl,?_⟩ (by (exact wkA)) (by omega)
   have e:a[k]=b[k]:=by cases hq:a[k];cases hq':b[k];simp_all
   rw [List.take_add_one,List.take_add_one,hb,hb2,hz,e]
 ·have hk':k=a.length:=by simp at h2;omega
  subst hk'
  have:a=b:=by rw [List.take_length,hl',List.take_length] at hz;exact hz
  (simp (maxSteps:=9^6)[])
  (first|exact hR _ _ FrA|exact hR _ _ FnA|exact hR _ _ (Xf (hq:=by simp [AV.erase,AV.unview,this];done)))
end
section
variable {P:Program} {p:Nums}
end
def missA(a b:List Pair):AV:=.tup [((missP a b).getD ⟨0,0⟩).av,AB (missP a b).isSome]
theorem Jttb{a b:List Pair}{k:Nat}(h:k<a.length)(h1:∀ q∈a.take k,q∈b)(h2:a[k]∉b):missP a b=some a[k]:=by
 unfold missP
 have e:a=a.take k++a[k]::a.drop (k+1):=by rw [List.getElem_cons_drop,List.take_append_drop]
 have e1:(a.take k).find? (fun q=>!decide (q∈b))=none:=by
  rw [List.find?_eq_none];intro q hq;simp [h1 q hq]
 have e2:(a[k]::a.drop (k+1)).find? (fun q=>!decide (q∈b))=some a[k]:=by
  rw [List.find?_cons_of_pos (by simp [h2])]
 have e3:=congrArg (List.find? fun q=>!decide (q∈b)) e
 rw [List.find?_append,e1,e2] at e3
 exact e3
theorem Jttc{a b:List Pair}(h1:∀ q∈a,q∈b):missP a b=none:=by
 unfold missP;rw [List.find?_eq_none];intro q hq;simp [h1 q hq]
theorem Jttd{a b:List Pair}:(missP a b).isSome=false↔∀ q∈a,q∈b:=by
 unfold missP
 rw [←Bool.not_eq_true,List.find?_isSome]
 simp
section
variable {P:Program} {p:Nums}
theorem Jt12n(A:All P p)(a b:List Pair)(h0:a.length<1000000)(h1:b.length<1000000):Jt51 P p.Yf1 [.d (pairsD a),.d (pairsD b)] [] fun o _=>o=.ret (missA a b):=by
 refine A.Yf1.run rfl fun R hR=>?_
 (simp (maxSteps:=9^6)[Jtjy,pairsD])
 refine Jtf (fun k:Nat=>⟨[(6,AI k),(5,AB false),(4,.ptr 0 0),(1,.d (.sl (b.map Pair.row))),(0,.d (.sl (a.map Pair.row)))],[.mem [AI 0,AI 0]]⟩) (fun k=>k≤a.length∧∀ q∈a.take k,q∈b) (fun k=>a.length-k) 0 (by simp) (by (exact wkA)) ?_
 rintro k ⟨hk,hz⟩ N hN
 (simp (maxSteps:=9^6)[])
 ((first|refine Xc ?_ ?_|refine Xo ?_ ?_)<;>intro h2<;>try simp only [Xz,Xy] at h2)
 ·have hkl:k<a.length:=by simpa using h2
  have hb:a[k]?=some a[k]:=by simp
  have hw:=Jt1le (k:=k) (by omega)
  (simp (maxSteps:=9^6)[h2,hb,Pair.row])
  (refine Jt17 (Jt12e A b a[k] (by omega)) (by rfl) (by rfl) ?_)
  (simp (maxSteps:=9^6)[])
  ((first|refine Xc ?_ ?_|refine Xo ?_ ?_)<;>intro h3<;>try simp only [Xz,Xy] at h3)
  ·(simp (maxSteps:=9^6)[h3,hb,Pair.row])
   have:=Jttb hkl hz (by simpa using h3)
   (first|exact hR _ _ FrA|exact hR _ _ FnA|exact hR _ _ (Xf (hq:=by simp [AV.erase,AV.unview,missA,this,Pair.av];done)))
  ·(simp (maxSteps:=9^6)[h3,hw])
   refine hN _ (k+1) ⟨hkl,?_⟩ (by (exact wkA)) (by omega)
   intro q hq
   rw [List.take_add_one,hb] at hq
   rcases List.mem_append.1 hq with hq | hq
   ·exact hz q hq
   ·simp at hq;subst hq;simpa using h3
 ·have hk':k=a.length:=by simp at h2;omega
  subst hk'
  have:=Jttc (a:=a) (b:=b) (by simpa using hz)
  (simp (maxSteps:=9^6)[])
  (first|exact hR _ _ FrA|exact hR _ _ FnA|exact hR _ _ (Xf (hq:=by simp [AV.erase,AV.unview,missA,this,Pair.av];done)))
theorem Jtw6(A:All P p)(a b:Pair):Jt51 P p.Yf8 [a.av,b.av] [] fun o _=>o=.ret (AB (lessP a b)):=by
 refine A.Yf8.run rfl fun R hR=>?_
 (simp (maxSteps:=9^6)[Jtjc,Pair.av])
 ((first|refine Xc ?_ ?_|refine Xo ?_ ?_)<;>intro h<;>try simp only [Xz,Xy] at h)
 ·(simp (maxSteps:=9^6)[h])
  have e:lessP a b=true:=by rw [Jtne];omega
  (first|exact hR _ _ FrA|exact hR _ _ FnA|exact hR _ _ (Xf (hq:=by simp [AV.erase,AV.unview,e];done)))
 (simp (maxSteps:=9^6)[h])
 ((first|refine Xc ?_ ?_|refine Xo ?_ ?_)<;>intro h1<;>try simp only [Xz,Xy] at h1)
 ·(simp (maxSteps:=9^6)[h1])
  (first|exact hR _ _ FrA|exact hR _ _ FnA|exact hR _ _ (Xf (hq:=by simp [AV.erase,AV.unview,lessP,h1];done)))
 ·(simp (maxSteps:=9^6)[h1])
  have e:lessP a b=false:=by
   cases e:lessP a b with
   | false=>rfl
   | true=>rw [Jtne] at e;omega
  (first|exact hR _ _ FrA|exact hR _ _ FnA|exact hR _ _ (Xf (hq:=by simp [AV.erase,AV.unview,e];done)))
end
theorem Jt1e3{α:Type}(f:α→Bool)(l:List α):l.takeWhile f=l.take (l.takeWhile f).length:=by
 have e:=List.takeWhile_append_dropWhile (p:=f) (l:=l)
 have:=congrArg (List.take (l.takeWhile f).length) e
 rw [List.take_left'] at this
 ·exact this
 ·rfl
theorem Jtdd{α:Type}(f:α→Bool)(l:List α):l.dropWhile f=l.drop (l.takeWhile f).length:=by
 have e:=List.takeWhile_append_dropWhile (p:=f) (l:=l)
 have:=congrArg (List.drop (l.takeWhile f).length) e
 rw [List.drop_left'] at this
 ·exact this
 ·rfl
theorem Jt1e2{α:Type}(f:α→Bool)(l:List α)(i:Nat)(hi:i≤l.length)(h1:∀ j,j<i→(h:j<l.length)→f l[j]=true) (h2:(h:i<l.length)→f l[i]=false):(l.takeWhile f).length=i:=by
 induction l generalizing i with
 | nil=>simp at hi;simp [hi]
 | cons x l ih=>
  cases i with
  | zero=>have:=h2 (by simp);simp at this;simp [List.takeWhile_cons,this]
  | succ i=>
   have h0:=h1 0 (by omega) (by simp)
   simp at h0
   rw [List.takeWhile_cons,h0,if_pos rfl,List.length_cons]
   have:=ih i (by simpa using hi) (fun j hj h=>by have:=h1 (j+1) (by omega) (by simpa using h);simpa using this) (fun h=>by have:=h2 (by simpa using h);simpa using this)
   rw [this]
theorem Jtxx(l:List Pair)(p:Pair):posP l p≤l.length:=(List.takeWhile_sublist _).length_le
theorem Jtxy{l:List Pair}{p:Pair}{j:Nat}(h:j<posP l p)(hl:j<l.length):lessP l[j] p=true:=by
 have h1:(l.takeWhile fun q=>lessP q p)[j]?=some l[j]:=by
  rw [Jt1e3,List.getElem?_take];simp only [posP] at h;simp [h]
 exact Jt1e5 _ (lmG h1)
theorem Jtxw{l:List Pair}{p:Pair}(hs:Srt l){j:Nat}(h:posP l p≤j)(hl:j<l.length):lessP l[j] p=false:=by
 refine Jtde hs _ ?_
 rw [Jtdd]
 have:(l.drop (posP l p))[j-posP l p]?=some l[j]:=by rw [List.getElem?_drop];simp [Nat.add_sub_cancel' h]
 exact lmG this
theorem Jtss{l:List Pair}{p:Pair}(hs:Srt l):p∈l↔l[posP l p]?=some p:=by
 constructor
 ·intro h
  obtain ⟨j,hj,e⟩:=List.getElem_of_mem h
  have h1:posP l p≤j:=by
   rcases Nat.lt_or_ge j (posP l p) with h2 | h2
   ·have:=Jtxy h2 hj;rw [e,Jtnf] at this;cases this
   ·exact h2
  have h2:j≤posP l p:=by
   rcases Nat.lt_or_ge (posP l p) j with h2 | h2
   ·have h3:=Jt1db hs h2 hj
    rw [e,Jtxw hs (Nat.le_refl _) (by omega)] at h3;cases h3
   ·exact h2
  have:posP l p=j:=by omega
  rw [this,lgE hj,e]
 ·exact lmG
theorem Jtfu{l:List Pair}{p:Pair}(h:p∉l):l.filter (fun q=>decide (q≠p))=l:=by
 rw [List.filter_eq_self];intro a ha;simp;rintro rfl;exact h ha
theorem Jt6c{l:List Pair}{p:Pair}(hs:Srt l):addP l p=l.take (posP l p)++p::l.drop (if p∈l then posP l p+1 else posP l p):=by
 rw [Jt6a,insP,Jt1e3,Jtdd]
 show l.take (posP l p)++p::(l.drop (posP l p)).filter _=_
 congr 2
 split
 ·rename_i h
  have hp:=(Jtss hs).1 h
  have hlt:=(lgS.1 hp).1
  have he:=(lgS.1 hp).2
  have hs':Srt (l.drop (posP l p)):=Jt1dg (List.drop_sublist _ _) hs
  rw [List.drop_eq_getElem_cons hlt,he] at hs' ⊢
  rw [List.filter_cons_of_neg (by simp)]
  refine Jtfu fun hm=>?_
  have:=(Jt1d6.1 hs').1 p hm
  rw [Jtnf] at this;cases this
 ·rename_i h
  exact Jtfu fun hm=>h (List.drop_subset _ _ hm)
section
variable {P:Program} {p:Nums}
theorem Jtxi(A:All P p)(l:List Pair)(q:Pair)(h0:l.length<1000000000)(hs:Srt l):Jt51 P p.Yfj [.d (pairsD l),q.av] [] fun o _=>o=.ret (AI (posP l q)):=by
 refine A.Yfj.run rfl fun R hR=>?_
 (simp (maxSteps:=9^6)[Jtjh,pairsD,Pair.av])
 refine Jtf (fun k:Nat × Nat=>⟨[(5,AI k.1),(6,AI k.2),(4,AI 0),(3,.ptr 0 0),(0,.d (.sl (l.map Pair.row)))],[.mem [AI q.v,AI q.l]]⟩)
  (fun k=>k.1≤k.2∧k.2≤l.length∧(∀ j,j<k.1→(h:j<l.length)→lessP l[j] q=true)∧∀ j,k.2≤j→(h:j<l.length)→lessP l[j] q=false) (fun k=>k.2-k.1) (0,l.length) (by simp;intro j h1 h2;omega) (by (exact wkA)) ?_
 rintro ⟨a,b⟩ ⟨hab,hb,hlo,hhi⟩ N hN
 simp only at hab hb hlo hhi hN ⊢
 (simp (maxSteps:=9^6)[])
 ((first|refine Xc ?_ ?_|refine Xo ?_ ?_)<;>intro h2<;>try simp only [Xz,Xy] at h2)
 ·have hm:a+(b-a) / 2<l.length:=by omega
  have hma:a≤a+(b-a) / 2:=by omega
  have hmb:a+(b-a) / 2<b:=by omega
  have hw1:IntKind.i64.wrap ((b:Int)-(a:Int))=((b-a:Nat):Int):=by rw [wrap_i64 (by omega) (by omega)];omega
  have hw2:IntKind.i64.wrap (((b-a:Nat):Int) / 2)=(((b-a) / 2:Nat):Int):=by rw [wrap_i64 (by omega) (by omega)];omega
  have hw3:IntKind.i64.wrap ((a:Int)+(((b-a) / 2:Nat):Int))=((a+(b-a) / 2:Nat):Int):=by rw [wrap_i64 (by omega) (by omega)];omega
  obtain ⟨d,hd⟩:∃ d,d=b-a:=⟨_,rfl⟩
  obtain ⟨d2,hd2⟩:∃ d2,d2=d / 2:=⟨_,rfl⟩
  obtain ⟨m,hmm⟩:∃ m,m=a+d2:=⟨_,rfl⟩
  have hw:=Jt1le (k:=m) (by omega)
  simp only [←hd,←hd2,←hmm] at hm hma hmb hw1 hw2 hw3
  have hbm:l[m]?=some l[m]:=by simp
  (simp (maxSteps:=9^6)[h2,hw1])
  (simp (maxSteps:=9^6)[hw2])
  (simp (maxSteps:=9^6)[hw3,hbm,Pair.row])
  (refine Jt17 (Jtw6 A l[m] q) (by rfl) (by rfl) ?_)
  (simp (maxSteps:=9^6)[])
  ((first|refine Xc ?_ ?_|refine Xo ?_ ?_)<;>intro h3<;>try simp only [Xz,Xy] at h3)
  ·(simp (maxSteps:=9^6)[h3,hw])
   refine hN _ (m+1,b) ⟨by simp only;omega,hb,?_,hhi⟩ (by (exact wkA)) (by simp only;omega)
   intro j hj h
   simp only at hj
   by_cases e:j=m
   ·subst e;exact h3
   ·exact Jtni (Jt1db hs (by omega:j<m) hm) h3
  ·(simp (maxSteps:=9^6)[h3])
   refine hN _ (a,m) ⟨by simp only;omega,by simp only;omega,hlo,?_⟩ (by (exact wkA)) (by simp only;omega)
   intro j hj h
   simp only at hj
   cases e:lessP l[j] q with
   | false=>rfl
   | true=>
    by_cases e2:j=m
    ·subst e2;rw [e] at h3;simp at h3
    ·rw [Jtni (Jt1db hs (by omega:m<j) h) e] at h3;simp at h3
 ·have e:a=b:=by omega
  subst e
  have:posP l q=a:=Jt1e2 _ l a hb hlo fun h=>hhi a (by omega) h
  (simp (maxSteps:=9^6)[])
  (first|exact hR _ _ FrA|exact hR _ _ FnA|exact hR _ _ (Xf (hq:=by simp [AV.erase,AV.unview,this];done)))
theorem Jtw3(A:All P p)(l:List Pair)(q:Pair)(h0:l.length<1000000000)(hs:Srt l):Jt51 P p.Yf4 [.d (pairsD l),q.av] [] fun o _=>o=.ret (AB (decide (q∈l))):=by
 refine A.Yf4.run rfl fun R hR=>?_
 (simp (maxSteps:=9^6)[Jtjb,pairsD,Pair.av])
 (refine Jt17 (Jtxi A l q h0 hs) (by rfl) (by rfl) ?_)
 (simp (maxSteps:=9^6)[])
 have hp:=Jtss (p:=q) hs
 have hle:=Jtxx l q
 obtain ⟨i,hi⟩:∃ i,i=posP l q:=⟨_,rfl⟩
 rw [←hi] at hp hle ⊢
 ((first|refine Xc ?_ ?_|refine Xo ?_ ?_)<;>intro h1<;>try simp only [Xz,Xy] at h1)
 ·have hil:i<l.length:=by omega
  have hb:l[i]?=some l[i]:=by simp
  rw [hb] at hp
  (simp (maxSteps:=9^6)[h1,hb,Pair.row])
  have e:(l[i].v==q.v&&l[i].l==q.l)=decide (q∈l):=by
   rw [Jtvh];simp only [Option.some.injEq] at hp;simp [hp]
  (first|exact hR _ _ FrA|exact hR _ _ FnA|exact hR _ _ (Xf (hq:=by simp [AV.erase,AV.unview,e,Pair.row];done)))
 ·(simp (maxSteps:=9^6)[h1])
  have hb:l[i]?=none:=by simp;omega
  rw [hb] at hp
  have e:q∉l:=by simpa using hp
  (first|exact hR _ _ FrA|exact hR _ _ FnA|exact hR _ _ (Xf (hq:=by simp [AV.erase,AV.unview,e];done)))
end
section
variable {P:Program} {p:Nums}
theorem Jtvq(A:All P p)(l:List Pair)(q:Pair)(h0:l.length<1000000)(hs:Srt l):Jt51 P p.Yf6 [.d (pairsD l),q.av] [] fun o H'=>o=.ret (.own 2 ((addP l q).map Pair.row))∧H'=[]:=by
 refine A.Yf6.run rfl fun R hR=>?_
 (simp (maxSteps:=9^6)[Jtj6,pairsD,Pair.av])
 (refine Jt17 (Jtxi A l q (by omega) hs) (by rfl) (by rfl) ?_)
 have hw:=Jt1le (k:=l.length) (by omega)
 have hp:=Jtss (p:=q) hs
 have hle:=Jtxx l q
 have hadd:=Jt6c (p:=q) hs
 obtain ⟨i,hi⟩:∃ i,i=posP l q:=⟨_,rfl⟩
 rw [←hi] at hp hle hadd ⊢
 (simp (maxSteps:=9^6)[hw])
 refine Jt2o (n:=l.length+1) (by rfl) (by rfl) (by omega) (by omega) (by decide) (by rfl) ?_
 (simp (maxSteps:=9^6)[hle,Pair.row])
 have hrow:∀ m:List (List D),(∀ r∈m,r∈l.map Pair.row)→∀ r∈m,r.length=2:=fun m hm r hr=>Jt16t (f:=Pair.row) (fun _=>rfl) r (hm r hr)
 refine ⟨hrow _ fun r hr=>List.take_subset _ _ hr,by omega,by omega,?_⟩
 (refine Jt1o (by rfl) (by rfl) (by rfl) ?_ (by decide) ?_ ?_ ?_)
 ·simp
 ·simp;omega
 ·simp;omega
 (simp (maxSteps:=9^6)[])
 have hln:(l.map Pair.row).length=l.length:=by simp
 have fin:∀ j,addP l q=l.take i++q::l.drop j→(List.take i (l.map Pair.row)++[[D.int IntKind.i64 q.v,D.int IntKind.i64 q.l]])++List.drop j (List.take l.length (l.map Pair.row))=(addP l q).map Pair.row:=by
  intro j hj
  rw [hj,List.take_of_length_le (i:=l.length) (l:=l.map Pair.row) (by simp)]
  simp [Pair.row]
 ((first|refine Xc ?_ ?_|refine Xo ?_ ?_)<;>intro h1<;>try simp only [Xz,Xy] at h1)
 ·have hil:i<l.length:=by omega
  have hb:l[i]?=some l[i]:=by simp
  rw [hb,Option.some.injEq] at hp
  (simp (maxSteps:=9^6)[h1,hb,Pair.row])
  ((first|refine Xc ?_ ?_|refine Xo ?_ ?_)<;>intro h2<;>try simp only [Xz,Xy] at h2)
  ·have e:l[i]=q:=Jtf3 h2.1 h2.2
   have hm:=hp.2 e
   rw [if_pos hm] at hadd
   have hw2:=Jt1le (k:=i) (by omega)
   obtain ⟨i1,hi1⟩:∃ i1,i1=i+1:=⟨_,rfl⟩
   rw [←hi1] at hw2 hadd
   have hle1:i1≤l.length:=by omega
   (simp (maxSteps:=9^6)[hw2,h2])
   (simp (maxSteps:=9^6)[hle1,Pair.row])
   (refine Jt1o (by rfl) (by rfl) (by rfl) ?_ (by decide) ?_ ?_ ?_)
   ·exact hrow _ fun r hr=>List.take_subset _ _ (List.drop_subset _ _ hr)
   ·simp;omega
   ·simp;omega
   rw [fin i1 hadd]
   (simp (maxSteps:=9^6)[])
   exact hR _ _ (Jt55 _ _ rfl ⟨rfl,rfl⟩)
  ·have hm:q∉l:=by
    intro hm;have:=hp.1 hm
    rw [this] at h2;simp at h2
   rw [if_neg hm] at hadd
   (simp (maxSteps:=9^6)[h2,hle,Pair.row])
   (refine Jt1o (by rfl) (by rfl) (by rfl) ?_ (by decide) ?_ ?_ ?_)
   ·exact hrow _ fun r hr=>List.take_subset _ _ (List.drop_subset _ _ hr)
   ·simp;omega
   ·simp;omega
   rw [fin i hadd]
   (simp (maxSteps:=9^6)[])
   exact hR _ _ (Jt55 _ _ rfl ⟨rfl,rfl⟩)
 ·have hm:q∉l:=by
   intro hm;have:=hp.1 hm
   rw [List.getElem?_eq_none (by omega)] at this;cases this
  rw [if_neg hm] at hadd
  (simp (maxSteps:=9^6)[h1,hle,Pair.row])
  (refine Jt1o (by rfl) (by rfl) (by rfl) ?_ (by decide) ?_ ?_ ?_)
  ·exact hrow _ fun r hr=>List.take_subset _ _ (List.drop_subset _ _ hr)
  ·simp;omega
  ·simp;omega
  rw [fin i hadd]
  (simp (maxSteps:=9^6)[])
  exact hR _ _ (Jt55 _ _ rfl ⟨rfl,rfl⟩)
end
section
variable {P:Program} {p:Nums}
theorem Jtwn(A:All P p)(a b:List Pair)(h0:a.length<1000000)(h1:b.length<1000000)(ha:Srt a)(hb:Srt b):Jt51 P p.Yf0 [.d (pairsD a),.d (pairsD b)] [] fun o _=>o=.ret (missA a b):=by
 refine A.Yf0.run rfl fun R hR=>?_
 (simp (maxSteps:=9^6)[Jtje,pairsD])
 refine Jtf (fun k:Nat × Nat=>⟨[(11,AI k.1),(10,AI a.length),(9,.d (.sl (a.map Pair.row))),(6,AI k.2),(5,AB false),(4,.ptr 0 0),(1,.d (.sl (b.map Pair.row)))],[.mem [AI 0,AI 0]]⟩)
  (fun k=>k.1≤a.length∧k.2≤b.length∧(∀ q∈a.take k.1,q∈b)∧∀ j k',j<k.2→k.1≤k'→(h:j<b.length)→(h':k'<a.length)→lessP b[j] a[k']=true) (fun k=>a.length-k.1) (0,0) (by simp) (by (exact wkA)) ?_
 rintro ⟨k,i⟩ ⟨hk,hi,hz,hj⟩ N hN
 simp only at hk hi hz hj hN ⊢
 (simp (maxSteps:=9^6)[])
 ((first|refine Xc ?_ ?_|refine Xo ?_ ?_)<;>intro h2<;>try simp only [Xz,Xy] at h2)
 ·have hkl:k<a.length:=by omega
  have hbk:a[k]?=some a[k]:=by simp
  have hw:=Jt1le (k:=k) (by omega)
  (simp (maxSteps:=9^6)[h2,hbk,Pair.row])
  refine Jtf (fun i:Nat=>⟨[(8,.ptr 1 0),(11,AI k),(10,AI a.length),(9,.d (.sl (a.map Pair.row))),(6,AI i),(5,AB false),(4,.ptr 0 0),(1,.d (.sl (b.map Pair.row)))],[.mem [AI 0,AI 0],.mem [AI a[k].v,AI a[k].l]]⟩)
   (fun i=>i≤b.length∧∀ j k',j<i→k≤k'→(h:j<b.length)→(h':k'<a.length)→lessP b[j] a[k']=true) (fun i=>b.length-i) i ⟨hi,hj⟩ (by (exact wkA)) ?_
  rintro i ⟨hi,hj⟩ N2 hN2
  have stop:(i=b.length∨∃ h:i<b.length,lessP b[i] a[k]=false∧b[i]≠a[k])→a[k]∉b:=by
   intro hc hm
   obtain ⟨j,hjl,e⟩:=List.getElem_of_mem hm
   have h3:i≤j:=by
    rcases Nat.lt_or_ge j i with h | h
    ·have:=hj j k h (Nat.le_refl _) hjl hkl
     rw [e,Jtnf] at this;cases this
    ·exact h
   rcases hc with hc | ⟨h,h4,h5⟩
   ·omega
   ·rcases Nat.lt_or_eq_of_le h3 with h3 | h3
    ·have:=Jt1db hb h3 hjl
     rw [e,h4] at this;cases this
    ·subst h3;exact h5 e
  have go:∀ (h:i<b.length),b[i]=a[k]→(∀ q∈a.take (k+1),q∈b)∧∀ j k',j<i→k+1≤k'→(h:j<b.length)→(h':k'<a.length)→lessP b[j] a[k']=true:=by
   intro h e
   refine ⟨?_,fun j k' h1 h2 h3 h4=>hj j k' h1 (by omega) h3 h4⟩
   intro q hq
   rw [List.take_add_one,hbk] at hq
   rcases List.mem_append.1 hq with hq | hq
   ·exact hz q hq
   ·simp at hq;subst hq;rw [←e];exact List.getElem_mem _
  (simp (maxSteps:=9^6)[])
  ((first|refine Xc ?_ ?_|refine Xo ?_ ?_)<;>intro h3<;>try simp only [Xz,Xy] at h3)
  ·have hil:i<b.length:=by omega
   have hbi:b[i]?=some b[i]:=by simp
   (simp (maxSteps:=9^6)[h3,hbi,Pair.row])
   (refine Jt17 (Jtw6 A b[i] a[k]) (by rfl) (by rfl) ?_)
   (simp (maxSteps:=9^6)[])
   ((first|refine Xc ?_ ?_|refine Xo ?_ ?_)<;>intro h4<;>try simp only [Xz,Xy] at h4)
   ·have hwi:=Jt1le (k:=i) (by omega)
    (simp (maxSteps:=9^6)[h4,hwi])
    refine hN2 _ (i+1) ⟨hil,?_⟩ (by (exact wkA)) (by omega)
    intro j k' h5 h6 h7 h8
    by_cases e:j=i
    ·subst e
     rcases Nat.lt_or_eq_of_le h6 with h6 | h6
     ·refine Jtni (b:=a[k]) h4 (Jt1db ha h6 h8)
     ·subst h6;exact h4
    ·exact hj j k' (by omega) h6 h7 h8
   ·have hne:¬ ((i:Int)=(b.length:Int)):=by omega
    have h4':lessP b[i] a[k]=false:=by simpa using h4
    (simp (maxSteps:=9^6)[h4',hne,hbi,Pair.row])
    ((first|refine Xc ?_ ?_|refine Xo ?_ ?_)<;>intro h5<;>try simp only [Xz,Xy] at h5)
    ·have hx2:a[k]∉b:=stop (.inr ⟨hil,h4',fun e=>by rw [e] at h5;simp at h5⟩)
     have:=Jttb hkl hz hx2
     (simp (maxSteps:=9^6)[h5])
     (first|exact hR _ _ FrA|exact hR _ _ FnA|exact hR _ _ (Xf (hq:=by simp [AV.erase,AV.unview,missA,this,Pair.av];done)))
    ·have e:b[i]=a[k]:=Jtf3 (by simp at h5;exact h5.1) (by simp at h5;exact h5.2)
     have:=go hil e
     (simp (maxSteps:=9^6)[h5,hw])
     exact hN _ (k+1,i) ⟨hkl,hi,this.1,this.2⟩ (by simp only;(exact wkA)) (by simp only;omega)
  ·have e:i=b.length:=by omega
   have hx2:a[k]∉b:=stop (.inl e)
   have:=Jttb hkl hz hx2
   (simp (maxSteps:=9^6)[h3,e])
   (first|exact hR _ _ FrA|exact hR _ _ FnA|exact hR _ _ (Xf (hq:=by simp [AV.erase,AV.unview,missA,this,Pair.av];done)))
 ·have hk':k=a.length:=by omega
  subst hk'
  have:=Jttc (a:=a) (b:=b) (by simpa using hz)
  (simp (maxSteps:=9^6)[])
  (first|exact hR _ _ FrA|exact hR _ _ FnA|exact hR _ _ (Xf (hq:=by simp [AV.erase,AV.unview,missA,this,Pair.av];done)))
end
def mergeP:List Pair→List Pair→List Pair
 | [],b=>b
 | x::a,[]=>x::a
 | x::a,y::b=>if lessP y x=true then y::mergeP (x::a) b else if y=x then x::mergeP a b else x::mergeP a (y::b)
termination_by a b=>a.length+b.length
theorem Jtt0(a:List Pair):mergeP a []=a:=by cases a<;>simp [mergeP]
theorem Jtsq{a b:List Pair}{q:Pair}:q∈mergeP a b↔q∈a∨q∈b:=by
 induction a,b using mergeP.induct with
 | case1 b=>simp [mergeP]
 | case2 x a=>simp [mergeP]
 | case3 x a y b h ih=>rw [mergeP,if_pos h,List.mem_cons,ih];simp only [List.mem_cons];constructor<;>(intro h;rcases h with h | h | h<;>simp_all)
 | case4 a b x h ih=>rw [mergeP,if_neg h,if_pos rfl,List.mem_cons,ih];simp only [List.mem_cons];constructor<;>grind
 | case5 x a y b h h2 ih=>rw [mergeP,if_neg h,if_neg h2,List.mem_cons,ih];simp only [List.mem_cons];constructor<;>grind
theorem Jt1dd{a b:List Pair}(ha:Srt a)(hb:Srt b):Srt (mergeP a b):=by
 induction a,b using mergeP.induct with
 | case1 b=>simpa [mergeP] using hb
 | case2 x a=>simpa [mergeP] using ha
 | case3 x a y b h ih=>
  rw [mergeP,if_pos h]
  refine Jt1d6.2 ⟨fun q hq=>?_,ih ha (Jt1d6.1 hb).2⟩
  rw [Jtsq,List.mem_cons] at hq
  rcases hq with (rfl | hq) | hq
  ·exact h
  ·exact Jtni h ((Jt1d6.1 ha).1 q hq)
  ·exact (Jt1d6.1 hb).1 q hq
 | case4 a b x h ih=>
  rw [mergeP,if_neg h,if_pos rfl]
  refine Jt1d6.2 ⟨fun q hq=>?_,ih (Jt1d6.1 ha).2 (Jt1d6.1 hb).2⟩
  rw [Jtsq] at hq
  rcases hq with hq | hq
  ·exact (Jt1d6.1 ha).1 q hq
  ·exact (Jt1d6.1 hb).1 q hq
 | case5 x a y b h h2 ih=>
  rw [mergeP,if_neg h,if_neg h2]
  have hxy:lessP x y=true:=by
   cases e:lessP x y with
   | true=>rfl
   | false=>exact absurd (Jtnh (by simpa using h) e) h2
  refine Jt1d6.2 ⟨fun q hq=>?_,ih (Jt1d6.1 ha).2 hb⟩
  rw [Jtsq,List.mem_cons] at hq
  rcases hq with hq | rfl | hq
  ·exact (Jt1d6.1 ha).1 q hq
  ·exact hxy
  ·exact Jtni hxy ((Jt1d6.1 hb).1 q hq)
section
variable {P:Program} {p:Nums}
theorem Jtx1(A:All P p)(a b:List Pair)(h0:a.length<1000000)(h1:b.length<1000000):Jt51 P p.Yf7 [.d (pairsD a),.d (pairsD b)] [] fun o H'=>o=.ret (.own 2 ((mergeP a b).map Pair.row))∧H'=[]:=by
 refine A.Yf7.run rfl fun R hR=>?_
 have hw:IntKind.i64.wrap ((a.length:Int)+(b.length:Int))=((a.length+b.length:Nat):Int):=Jt1ld (by omega)
 obtain ⟨n,hn⟩:∃ n,n=a.length+b.length:=⟨_,rfl⟩
 rw [←hn] at hw
 (simp (maxSteps:=9^6)[Jtjf,pairsD,hw])
 refine Jt2o (n:=n) (by rfl) (by rfl) (by omega) (by omega) (by decide) (by rfl) ?_
 (simp (maxSteps:=9^6)[])
 have hrow:∀ l:List Pair,∀ r∈l.map Pair.row,r.length=2:=fun l=>Jt16t fun x=>rfl
 refine Jtf (fun s:List Pair × List Pair × List Pair=>⟨[(5,.own 2 (s.2.2.map Pair.row)),(4,.nils),(1,.d (.sl (s.2.1.map Pair.row))),(0,.d (.sl (s.1.map Pair.row)))],[]⟩)
  (fun s=>s.2.2++mergeP s.1 s.2.1=mergeP a b∧s.1.length+s.2.1.length+s.2.2.length≤n) (fun s=>s.1.length+s.2.1.length) (a,b,[]) ⟨by simp,by simp;omega⟩ (by simp only [List.map_nil];(exact wkA)) ?_
 rintro ⟨xs,ys,out⟩ ⟨hm,hlen⟩ N hN
 simp only at hm hlen hN ⊢
 have fin:xs=[]∨ys=[]→(out.map Pair.row++xs.map Pair.row)++ys.map Pair.row=(mergeP a b).map Pair.row:=by
  intro h
  rw [←hm]
  rcases h with rfl | rfl
  ·simp [mergeP]
  ·simp [Jtt0]
 cases xs with
 | nil=>
  (simp (maxSteps:=9^6)[])
  (refine Jt1o (by rfl) (by rfl) (by rfl) ?_ (by decide) ?_ ?_ ?_)
  ·simp
  ·simp;omega
  ·simp;omega
  (simp (maxSteps:=9^6)[])
  (refine Jt1o (by rfl) (by rfl) (by rfl) ?_ (by decide) ?_ ?_ ?_)
  ·exact hrow _
  ·simp at hlen ⊢;omega
  ·simp at hlen ⊢;omega
  (simp (maxSteps:=9^6)[])
  exact hR _ _ (Jt55 _ _ rfl ⟨by simp [←fin (.inl rfl)],rfl⟩)
 | cons x xs=>
  have hx0:¬ ((xs.length:Int)+1≤0):=by omega
  have hx1:(0:Int)<(xs.length:Int)+1:=by omega
  cases ys with
  | nil=>
   (simp (maxSteps:=9^6)[hx1])
   (refine Jt1o (by rfl) (by rfl) (by rfl) ?_ (by decide) ?_ ?_ ?_)
   ·simpa using hrow (x::xs)
   ·simp at hlen ⊢;omega
   ·simp at hlen ⊢;omega
   (simp (maxSteps:=9^6)[])
   (refine Jt1o (by rfl) (by rfl) (by rfl) ?_ (by decide) ?_ ?_ ?_)
   ·simp
   ·simp at hlen ⊢;omega
   ·simp at hlen ⊢;omega
   (simp (maxSteps:=9^6)[])
   have:=fin (.inr rfl)
   simp only [List.map_cons,List.map_nil,List.append_nil] at this
   exact hR _ _ (Jt55 _ _ rfl ⟨by simp [←this],rfl⟩)
  | cons y ys=>
   have hy1:(0:Int)<(ys.length:Int)+1:=by omega
   have hx2:(1:Int)≤(xs.length:Int)+1:=by omega
   have hy2:(1:Int)≤(ys.length:Int)+1:=by omega
   have htx:(xs.map Pair.row).take xs.length=xs.map Pair.row:=List.take_of_length_le (by simp)
   have hty:(ys.map Pair.row).take ys.length=ys.map Pair.row:=List.take_of_length_le (by simp)
   simp only [List.length_cons] at hlen
   rw [mergeP] at hm
   (simp (maxSteps:=9^6)[hx1,hy1,Pair.row])
   (refine Jt17 (Jtw6 A y x) (by rfl) (by rfl) ?_)
   (simp (maxSteps:=9^6)[])
   ((first|refine Xc ?_ ?_|refine Xo ?_ ?_)<;>intro h2<;>try simp only [Xz,Xy] at h2)
   ·rw [if_pos h2] at hm
    have hne:¬ x=y:=fun h=>Jtng h2 h.symm
    have hs1:IntKind.i64.wrap 1=1:=by rw [wrap_i64 (by omega) (by omega)]
    (simp (maxSteps:=9^6)[h2,Pair.row])
    (refine Jt1o (by rfl) (by rfl) (by rfl) ?_ (by decide) ?_ ?_ ?_)
    ·simp
    ·simp at hlen ⊢;omega
    ·simp at hlen ⊢;omega
    (simp (maxSteps:=9^6)[Pair.row,Jtvh,hne,hy2,hty])
    refine hN _ (x::xs,ys,out++[y]) ⟨by simp only;rw [←hm];simp,by simp;omega⟩ ?_ (by simp only [List.length_cons];omega)
    simp only [List.map_cons,List.map_append,List.map_nil,Pair.row]
    (exact wkA)
   ·have h2':lessP y x=false:=by simpa using h2
    rw [if_neg (by rw [h2'];simp)] at hm
    (simp (maxSteps:=9^6)[h2',Pair.row])
    (refine Jt1o (by rfl) (by rfl) (by rfl) ?_ (by decide) ?_ ?_ ?_)
    ·simp
    ·simp at hlen ⊢;omega
    ·simp at hlen ⊢;omega
    by_cases e:y=x
    ·rw [if_pos e] at hm
     subst e
     (simp (maxSteps:=9^6)[Pair.row,Jtvh,hx2,hy2,htx,hty])
     refine hN _ (xs,ys,out++[y]) ⟨by simp only;rw [←hm];simp,by simp;omega⟩ ?_ (by simp only [List.length_cons];omega)
     simp only [List.map_cons,List.map_append,List.map_nil,Pair.row]
     (exact wkA)
    ·rw [if_neg e] at hm
     (simp (maxSteps:=9^6)[Pair.row,Jtvh,e,hx2,htx])
     refine hN _ (xs,y::ys,out++[x]) ⟨by simp only;rw [←hm];simp,by simp;omega⟩ ?_ (by simp only [List.length_cons];omega)
     simp only [List.map_cons,List.map_append,List.map_nil,Pair.row]
     (exact wkA)
end
theorem Jt16j {rows:List (List D)} {e k:Nat} (he:∀ r∈rows,r.length=e) (hk:k<rows.length):((Jt16d rows).drop (k*e)).take e=rows[k].map AV.d:=by
 unfold Jt16d
 induction rows generalizing k with
 | nil=>simp at hk
 | cons r rows ih=>
  have h1:=he r (by simp)
  cases k with
  | zero=>simp only [Nat.zero_mul,List.drop_zero,List.flatten_cons,List.map_append,List.getElem_cons_zero];rw [List.take_left' (by simp [h1])]
  | succ k=>
   have h2:=ih (fun r hr=>he r (by simp [hr])) (k:=k) (by simpa using hk)
   simp only [List.flatten_cons,List.map_append,List.getElem_cons_succ]
   have e1:(k+1)*e=(r.map AV.d).length+k*e:=by rw [Nat.add_mul];simp [h1];omega
   rw [e1,List.drop_length_add_append];exact h2
theorem Jtvg{l:List Pair}{k:Nat}(hk:k<l.length):((Jt16d (l.map Pair.row)).drop (k*2)).take 2=[AI l[k].v,AI l[k].l]:=by
 rw [Jt16j (e:=2) (rows:=l.map Pair.row) (Jt16t (f:=Pair.row) fun _=>rfl) (by simpa using hk)];simp [Pair.row]
theorem Jt16f(l:List Pair):(Jt16d (l.map Pair.row)).length=l.length*2:=by
 rw [Jt16l (e:=2) (Jt16t fun _=>rfl)];simp
theorem Jt16k (rows:List (List D)):(Jt16d rows).map AV.erase=Jt16d rows:=by
 simp [Jt16d,AV.erase,Function.comp_def]
def ddStep(out:List Pair)(q:Pair):List Pair:=if out.getLast?=some q then out else out++[q]
def dd(l:List Pair):List Pair:=l.foldl ddStep []
theorem Jtd1(l:List Pair)(q:Pair):dd (l++[q])=ddStep (dd l) q:=by simp [dd]
theorem Jtd0(l:List Pair):(dd l).getLast?=l.getLast?:=by
 induction l using Jts6 with
 | h0=>rfl
 | h1 l q ih=>
  rw [Jtd1,ddStep]
  split
  ·rename_i h;rw [h];simp
  ·simp
theorem mem_dd{l:List Pair}{q:Pair}:q∈dd l↔q∈l:=by
 induction l using Jts6 with
 | h0=>simp [dd]
 | h1 l x ih=>
  rw [Jtd1,ddStep]
  split
  ·rename_i h
   rw [ih,List.mem_append]
   have:x∈l:=by rw [Jtd0] at h;exact List.mem_of_getLast? h
   constructor
   ·exact .inl
   ·rintro (h | h)
    ·exact h
    ·simp at h;subst h;exact this
  ·rw [List.mem_append,List.mem_append,ih]
theorem Jtd3{l:List Pair}{k:Nat}(h0:0<k)(h:k<l.length):dd (l.take (k+1))=if l[k-1]'(by omega)=l[k] then dd (l.take k) else dd (l.take k)++[l[k]]:=by
 have e:l.take (k+1)=l.take k++[l[k]]:=by rw [List.take_add_one,lgE h];rfl
 rw [e,Jtd1,ddStep,Jtd0]
 have:(l.take k).getLast?=some (l[k-1]'(by omega)):=by
  rw [List.getLast?_eq_getElem?,List.getElem?_take];simp only [List.length_take,Option.ite_none_right_eq_some];rw [show min k l.length-1=k-1 by omega,lgE (by omega)];exact ⟨by omega,rfl⟩
 rw [this];simp
def cptP(l:List Pair):List Pair:=dd l++List.replicate (l.length-(dd l).length) (⟨0,0⟩:Pair)
theorem Jtcu{l:List Pair}(h:dd l=l):cptP l=l:=by unfold cptP;rw [h];simp
theorem srt_dd{l:List Pair}(h:l.Pairwise fun a b=>lessP b a=false):Srt (dd l):=by
 induction l using Jts6 with
 | h0=>exact List.Pairwise.nil
 | h1 l x ih=>
  have h2:=List.pairwise_append.1 h
  have ih:=ih h2.1
  rw [Jtd1,ddStep]
  split
  ·exact ih
  ·rename_i hl
   refine List.pairwise_append.2 ⟨ih,List.pairwise_singleton _ _,?_⟩
   intro a ha b hb
   simp at hb;subst hb
   have hab:=h2.2.2 a (mem_dd.1 ha) b (by simp)
   cases e:lessP a b with
   | true=>rfl
   | false=>
    have eab:=Jtnh e hab
    subst eab
    obtain ⟨j,hj,ej⟩:=List.getElem_of_mem ha
    have hne:dd l≠[]:=List.ne_nil_of_mem ha
    have hjl:j<(dd l).length-1:=by
     rcases Nat.lt_or_ge j ((dd l).length-1) with h | h
     ·exact h
     ·refine absurd ?_ hl
      rw [List.getLast?_eq_getElem?,show (dd l).length-1=j by omega,lgE hj,ej]
    have h3:=Jt1db ih hjl (by omega)
    rw [ej] at h3
    have hm:(dd l)[(dd l).length-1]'(by omega)∈l:=mem_dd.1 (List.getElem_mem _)
    rw [h2.2.2 _ hm a (by simp)] at h3;cases h3
section
variable {P:Program} {p:Nums}
theorem Jt18m(A:All P p):Jt51 P p.Yff [.d (.sl [])] [] fun o H'=>o=.ret (.d (.sl []))∧H'=[]:=by
 refine A.Yff.run rfl fun R hR=>?_
 (simp (maxSteps:=9^6)[Jtkb])
 refine Jt29 (by rfl) (fun _=>?_) ?_
 ·(simp (maxSteps:=9^6)[])
  exact hR _ _ (Jt59 _ _ rfl (by (exact wkvA)) ⟨rfl,rfl⟩)
 ·(simp (maxSteps:=9^6)[])
  refine Jt1n (by rfl) (by rfl) (by simp) (by decide) (by simp) (by simp) (fun hn=>?_) fun hn=>absurd rfl hn
  (simp (maxSteps:=9^6)[])
  exact hR _ _ (Jt59 _ _ rfl (by (exact wkvA)) ⟨rfl,rfl⟩)
theorem Jt18k(A:All P p)(l:List Pair)(hl:l≠[]) (h0:l.length<1000000):Jt51 P p.Yff [.d (pairsD l)] [] fun o H'=>o=.ret (.hsl 0 0 2 l.length)∧H'=[.mem (Jt16d (l.map Pair.row))]:=by
 refine A.Yff.run rfl fun R hR=>?_
 (simp (maxSteps:=9^6)[Jtkb,pairsD])
 refine Jt29 (by rfl) (fun h=>absurd (by simpa using h) hl) ?_
 (simp (maxSteps:=9^6)[])
 refine Jt1l (.inl (by rfl)) (by rfl) (Jt16t fun _=>rfl) (by decide) (by simp;omega) (by simp;omega) (by simpa using hl) ?_
 (simp (maxSteps:=9^6)[])
 exact hR _ _ (Jt58 _ _ _ rfl (by (exact wkA)) ⟨by simp,rfl⟩)
theorem Jt197(A:All P p):Jt51 P p.Yfi [.d (.sl [])] [] fun o H'=>o=.ret (.d (.sl []))∧H'=[]:=by
 refine A.Yfi.run rfl fun R hR=>?_
 (simp (maxSteps:=9^6)[Jtkc])
 exact hR _ _ (Jt59 _ _ rfl (by (exact wkvA)) ⟨rfl,rfl⟩)
theorem Jt196(A:All P p)(l:List Pair)(hl:l≠[]) (h0:l.length<1000000):Jt51 P p.Yfi [.hsl 0 0 2 l.length] [.mem (Jt16d (l.map Pair.row))] fun o H'=>o=.ret (.hsl 0 0 2 (dd l).length)∧H'=[.mem (Jt16d ((cptP l).map Pair.row))]:=by
 refine A.Yfi.run rfl fun R hR=>?_
 (simp (maxSteps:=9^6)[Jtkc])
 have hpos:0<l.length:=List.length_pos_iff.2 hl
 have dd1:dd (l.take 1)=l.take 1:=by
  cases l with
  | nil=>exact absurd rfl hl
  | cons x l=>simp [dd,ddStep]
 have done:dd l=l→R .ret ⟨[(2,.hsl 0 0 2 l.length)],[.mem (Jt16d (l.map Pair.row))]⟩:=by
  intro e
  refine hR _ _ (Jt58 _ (.hsl 0 0 2 l.length) [.mem (Jt16d (l.map Pair.row))] rfl (by (exact wkA)) ⟨by rw [e],by rw [Jtcu e]⟩)
 ((first|refine Xc ?_ ?_|refine Xo ?_ ?_)<;>intro h1<;>try simp only [Xz,Xy] at h1)
 ·have e1:l.length=1:=by omega
  have:dd l=l:=by rw [show l.take 1=l from List.take_of_length_le (by omega)] at dd1;exact dd1
  (simp (maxSteps:=9^6)[h1])
  refine hR _ _ (Jt58 _ (.hsl 0 0 2 l.length) [.mem (Jt16d (l.map Pair.row))] rfl (by (exact wkA)) ⟨by rw [this],by rw [Jtcu this]⟩)
 (simp (maxSteps:=9^6)[h1])
 refine Jtf (fun k:Nat=>⟨[(3,AI k),(2,.nils),(0,.hsl 0 0 2 l.length)],[.mem (Jt16d (l.map Pair.row))]⟩) (fun k=>1≤k∧k≤l.length∧dd (l.take k)=l.take k) (fun k=>l.length-k) 1 ⟨by omega,by omega,dd1⟩ (by (exact wkA)) ?_
 rintro k ⟨hk1,hk,hd⟩ N hN
 have hlc:=Jt16f l
 (simp (maxSteps:=9^6)[])
 ((first|refine Xc ?_ ?_|refine Xo ?_ ?_)<;>intro h2<;>try simp only [Xz,Xy] at h2)
 ·have hkl:k<l.length:=by omega
  have hw:=Jt1le (k:=k) (by omega)
  obtain ⟨km,hkm⟩:∃ km,km=k-1:=⟨_,rfl⟩
  have hw2:IntKind.i64.wrap ((k:Int)-1)=(km:Int):=by rw [wrap_i64 (by omega) (by omega)];omega
  have hp1:=Jtvg (l:=l) (k:=km) (by omega)
  have hp2:=Jtvg (l:=l) (k:=k) hkl
  have hce:=Jt16k (l.map Pair.row)
  obtain ⟨C,hC⟩:∃ C,C=Jt16d (l.map Pair.row):=⟨_,rfl⟩
  have hkml:km<l.length:=by omega
  obtain ⟨x,hx⟩:∃ x,x=l[k]:=⟨_,rfl⟩
  obtain ⟨y,hy⟩:∃ y,y=l[km]:=⟨_,rfl⟩
  rw [←hC] at hlc hp1 hp2 hce ⊢
  rw [←hx] at hp2
  rw [←hy] at hp1
  have hl1:km*2+2≤C.length:=by omega
  have hl2:k*2+2≤C.length:=by omega
  have hk2:(km:Int)<(l.length:Int):=by omega
  (simp (maxSteps:=9^6)[h2,hw2,hk2,hl1,hl2,hp1,hp2,hce,Jtvh])
  ((first|refine Xc ?_ ?_|refine Xo ?_ ?_)<;>intro h3<;>try simp only [Xz,Xy] at h3)
  ·have hsl:IntKind.i64.wrap 1=1:=by rw [wrap_i64 (by omega) (by omega)]
   have hkle:k≤l.length:=by omega
   (simp (maxSteps:=9^6)[h3,hkle])
   have hdk:dd (l.take (k+1))=l.take k:=by
    rw [Jtd3 hk1 hkl,if_pos,hd]
    rw [←hx,h3,hy];simp only [hkm]
   refine Jtf (fun s:Nat × Nat × List Pair=>⟨[(5,AI s.1),(4,.hsl 0 (k*2) 2 (l.length-k)),(3,AI s.2.1),(2,.nils),(0,.hsl 0 0 2 l.length)],[.mem (Jt16d (s.2.2.map Pair.row))]⟩)
    (fun s=>1≤s.1∧k+s.1≤l.length∧s.2.1+1≤k+s.1∧s.2.2.length=l.length∧s.2.2.take s.2.1=dd (l.take (k+s.1))∧s.2.2.drop (k+s.1-1)=l.drop (k+s.1-1)) (fun s=>l.length-s.1) (1,k,l)
    ⟨by simp,by simp;omega,by simp,rfl,hdk.symm,rfl⟩ (by rw [hC];(exact wkA)) ?_
   rintro ⟨j,i,cur⟩ ⟨hj1,hjn,hij,hcl,hct,hcd⟩ N2 hN2
   simp only at hj1 hjn hij hcl hct hcd hN2 ⊢
   have hlc2:=Jt16f cur
   have hce2:=Jt16k (cur.map Pair.row)
   (simp (maxSteps:=9^6)[])
   ((first|refine Xc ?_ ?_|refine Xo ?_ ?_)<;>intro h4<;>try simp only [Xz,Xy] at h4)
   ·have h4':k+j<l.length:=by omega
    have hcur:∀ m,k+j-1≤m→(h:m<l.length)→cur[m]'(by omega)=l[m]:=by
     intro m h5 h6
     have e1:(cur.drop (k+j-1))[m-(k+j-1)]?=cur[m]?:=by rw [List.getElem?_drop,Nat.add_sub_cancel' h5]
     have e2:(l.drop (k+j-1))[m-(k+j-1)]?=l[m]?:=by rw [List.getElem?_drop,Nat.add_sub_cancel' h5]
     rw [hcd,e2,lgE h6,lgE (by omega)] at e1
     injection e1 with e1;exact e1.symm
    obtain ⟨jm,hjm⟩:∃ jm,jm=j-1:=⟨_,rfl⟩
    have hwj:=Jt1le (k:=j) (by omega)
    have hwi:=Jt1le (k:=i) (by omega)
    have hwjm:IntKind.i64.wrap ((j:Int)-1)=(jm:Int):=by rw [wrap_i64 (by omega) (by omega)];omega
    have hq1:=Jtvg (l:=cur) (k:=k+j) (by omega)
    have hq2:=Jtvg (l:=cur) (k:=k+jm) (by omega)
    rw [hcur _ (by omega) (by omega),Nat.add_mul] at hq1 hq2
    have hdj:=Jtd3 (l:=l) (k:=k+j) (by omega) h4'
    have ejm:k+j-1=k+jm:=by omega
    simp only [ejm] at hdj hcur hcd
    obtain ⟨u,hu⟩:∃ u,u=l[k+j]:=⟨_,rfl⟩
    obtain ⟨v,hv⟩:∃ v,v=l[k+jm]'(by omega):=⟨_,rfl⟩
    rw [←hu] at hq1 hdj
    rw [←hv] at hq2 hdj
    have hset:=Jt1cw (rows:=cur.map Pair.row) (e:=2) (k:=i) (row:=u.row) (Jt16t fun _=>rfl) rfl (by simp;omega)
    obtain ⟨E,hE⟩:∃ E,E=Jt16d (cur.map Pair.row):=⟨_,rfl⟩
    rw [←hE] at hlc2 hce2 hq1 hq2 hset ⊢
    have hm1:k*2+j*2+2≤E.length:=by omega
    have hm2:k*2+jm*2+2≤E.length:=by omega
    have hm3:i*2+2≤E.length:=by omega
    have hn1:(j:Int)<((l.length-k:Nat):Int):=by omega
    have hn2:(jm:Int)<((l.length-k:Nat):Int):=by omega
    have hn3:(i:Int)<(l.length:Int):=by omega
    have hcd':∀ c:List Pair,c.drop (k+jm)=l.drop (k+jm)→c.drop (k+j)=l.drop (k+j):=by
     intro c hc
     have:=congrArg (List.drop 1) hc
     rw [List.drop_drop,List.drop_drop] at this
     rwa [show k+jm+1=k+j by omega] at this
    (simp (maxSteps:=9^6)[h4,hwjm,hn1,hn2,hm1,hm2,hq1,hq2,hce2,Jtvh])
    ((first|refine Xc ?_ ?_|refine Xo ?_ ?_)<;>intro h5<;>try simp only [Xz,Xy] at h5)
    ·(simp (maxSteps:=9^6)[h5,hn1,hn2,hn3,hm1,hm2,hm3,hq1,hq2,hce2,hwi,hwj])
     rw [if_neg (by intro e;exact h5 e.symm)] at hdj
     have hset':List.take (i*2) E++AI u.v::AI u.l::List.drop (i*2+2) E=Jt16d ((cur.set i u).map Pair.row):=by
      rw [List.map_set,←hset];simp [spl,Pair.row]
     rw [hset']
     refine hN2 _ (j+1,i+1,cur.set i u) ⟨by simp only;omega,by simp only;omega,by simp only;omega,by simpa using hcl,?_,?_⟩ (by simp only;(exact wkA)) (by simp only;omega)
     ·simp only
      rw [←Nat.add_assoc,hdj,←hct,List.take_add_one,List.getElem?_set_self (by omega),List.take_set_of_le (by omega)];rfl
     ·simp only
      rw [show k+(j+1)-1=k+j by omega,List.drop_set_of_lt (by omega)];exact hcd' _ hcd
    ·(simp (maxSteps:=9^6)[h5,hwj])
     rw [if_pos (by simpa using Eq.symm (by simpa using h5))] at hdj
     refine hN2 _ (j+1,i,cur) ⟨by simp only;omega,by simp only;omega,by simp only;omega,hcl,?_,?_⟩ (by simp only;rw [hE];(exact wkA)) (by simp only;omega)
     ·simp only;rw [hct,←Nat.add_assoc,hdj]
     ·simp only;rw [show k+(j+1)-1=k+j by omega];exact hcd' _ hcd
   ·have hj2:k+j=l.length:=by omega
    rw [hj2,List.take_length] at hct
    have hil:i<l.length:=by omega
    have hil':i≤l.length:=by omega
    have hdl:(dd l).length=i:=by rw [←hct];simp;omega
    have hzero:¬ (l.length-i=0):=by omega
    (simp (maxSteps:=9^6)[hil'])
    refine Jt1z (by rfl) (by rfl) (by decide) (by omega) (by rfl) (by omega) ?_
    obtain ⟨T,hT⟩:∃ T:List Pair,T=List.replicate (l.length-i) (⟨0,0⟩:Pair):=⟨_,rfl⟩
    obtain ⟨U,hU⟩:∃ U:List Pair,U=dd l++T:=⟨_,rfl⟩
    have hfin:spl (Jt16d (cur.map Pair.row)) (i*2) (Jt16d (List.replicate (l.length-i) [I 0,I 0]))=Jt16d (U.map Pair.row):=by
     have h7:(Jt16d (List.replicate (l.length-i) [I 0,I 0])).length=(l.length-i)*2:=by
      rw [Jt16l (e:=2) (fun r hr=>by rw [List.eq_of_mem_replicate hr];rfl)];simp
     rw [spl,Jt16n (e:=2) (rows:=cur.map Pair.row) (Jt16t (f:=Pair.row) fun _=>rfl),h7,List.drop_of_length_le (by omega),List.append_nil,←List.map_take,hct,hU,hT]
     simp [Jt16d,Pair.row]
    rw [hfin]
    (simp (maxSteps:=9^6)[hil'])
    refine hR _ _ (Jt58 _ (.hsl 0 0 2 i) [.mem (Jt16d (U.map Pair.row))] rfl (by (exact wkA)) ⟨by rw [hdl],by rw [hU,hT,cptP,hdl]⟩)
  ·(simp (maxSteps:=9^6)[h3,hw])
   refine hN _ (k+1) ⟨by omega,hkl,?_⟩ (by rw [hC];(exact wkA)) (by omega)
   have e:¬ l[k-1]'(by omega)=l[k]:=by
    rw [←hx];intro e;apply h3;rw [←e,hy];simp only [hkm]
   rw [Jtd3 hk1 hkl,if_neg e,hd,List.take_add_one,lgE hkl];rfl
 ·have hk':k=l.length:=by omega
  subst hk'
  rw [List.take_length] at hd
  (simp (maxSteps:=9^6)[])
  refine hR _ _ (Jt58 _ (.hsl 0 0 2 l.length) [.mem (Jt16d (l.map Pair.row))] rfl (by (exact wkA)) ⟨by rw [hd],by rw [Jtcu hd]⟩)
end
end Go.AE
namespace Go.AE
open Go Go.Proofs Go.Shelf Go.Sort
def encP(x:Pair):List Value:=[.int .i64 x.v,.int .i64 x.l]
def cfP(a b:Pair):Int:=if lessP a b=true then -1 else if lessP b a=true then 1 else 0
theorem Jtq6(a b:Pair):ltOf cfP a b=lessP a b:=by
 unfold ltOf cfP
 cases h1:lessP a b<;>cases h2:lessP b a<;>simp
theorem swoP:SWO (ltOf cfP) where
 irrefl x:=by rw [Jtq6];exact Jtnf x
 trans x y z h1 h2:=by rw [Jtq6] at *;exact Jtni h1 h2
 ntrans x y z h1 h2:=by
  rw [Jtq6] at *
  have h1:¬ lessP x y=true:=by simp [h1]
  have h2:¬ lessP y z=true:=by simp [h2]
  cases h:lessP x z with
  | false=>rfl
  | true=>rw [Jtne] at *;omega
def sortP(l:List Pair):List Pair:=l.mergeSort fun x y=>!lessP y x
theorem Jt1ab(l:List Pair):(sortP l).length=l.length:=by simp [sortP]
theorem Jtg7:∀ (l:List Pair) (j:Nat) (h:j<2*l.length),(l.map Pair.row).flatten[j]?=some (if j % 2=0 then I (l[j / 2]'(by omega)).v else I (l[j / 2]'(by omega)).l):=by
 intro l
 induction l with
 | nil=>intro j h;simp at h
 | cons x l ih=>
  intro j h
  match j,h with
  | 0,h=>simp [Pair.row]
  | 1,h=>simp [Pair.row]
  | j+2,h=>
   have h':j<2*l.length:=by simp at h;omega
   have e:=ih j h'
   have e1:(j+2) / 2=j / 2+1:=by omega
   have e2:(j+2) % 2=j % 2:=by omega
   simp only [List.map_cons,List.flatten_cons,Pair.row,List.cons_append,List.nil_append,List.getElem?_cons_succ,e2]
   rw [e]
   simp only [e1,List.getElem_cons_succ]
theorem Jtg6(l:List Pair)(j:Nat)(h:j<2*l.length):∃ n:Int,(Jt16d (l.map Pair.row))[j]?=some (AI n)∧(flatK encP 2 l.toArray)[j]! = .int .i64 n:=by
 have h1:=Jtg7 l j h
 have h2:=get_flatK encP 2 l.toArray j (by simp;omega)
 have h3:l.toArray[j / 2]! = l[j / 2]'(by omega):=by
  rw [getElem!_pos _ _ (by simp;omega)];simp
 rw [h3] at h2
 rcases Nat.mod_two_eq_zero_or_one j with hm | hm
 ·refine ⟨(l[j / 2]'(by omega)).v,?_,?_⟩
  ·rw [Jt16d,lgM,h1,hm];rfl
  ·rw [h2,hm];rfl
 ·refine ⟨(l[j / 2]'(by omega)).l,?_,?_⟩
  ·rw [Jt16d,lgM,h1,hm];rfl
  ·rw [h2,hm];rfl
theorem Jt16e(l:List Pair):(Jt16d (l.map Pair.row)).length=2*l.length:=by
 rw [Jt16l (e:=2) (Jt16t fun _=>rfl)];simp;omega
section
variable {P:Program} {ρ:Ren}
theorem Jt1ah(L:SlLaysF0.n6 P ρ)(aE:∀ w,(isAgg (ρ.t 24)).run P w=.ok true w) (zE:∀ w,(Go.sizeOf (ρ.t 24)).run P w=.ok 2 w) (c:Nat) (eg:∀ args w,(callFunc c args).run P w=.ok (.enter c args) w)
  (hcmp:∀ blk off size w,CmpLays P c #[] encP 2 cfP blk off size w) (l:List Pair) (hne:l≠[]) (hlen:l.length<4611686018427387904) :
  Jt51 P (ρ.f 6) [.hsl 0 0 2 l.length,.fn (.func c) [] []] [.mem (Jt16d (l.map Pair.row))] fun o H'=>o=.ret (.tup [])∧H'=[.mem (Jt16d ((sortP l).map Pair.row))]:=by
 intro g vs w hsz hs
 have hn:l.length≠0:=by simpa using hne
 obtain ⟨vs⟩:=vs
 obtain ⟨v0,v1,rfl⟩:∃ a b,vs=[a,b]:=by
  match vs,hsz with
  | [a,b],_=>exact ⟨a,b,rfl⟩
 have e0:Rel g.F g.φ w (.hsl 0 0 2 l.length) v0:=hs.env 0 _ rfl
 have e1:Rel g.F g.φ w (.fn (.func c) [] []) v1:=hs.env 1 _ rfl
 cases e0 with
 | hsl _ _ _ _ r cap a hφ hcap ha _=>
 have ha:=ha hn;subst ha
 cases e1 with
 | fn _ _ _ us us' hl _ hl' _=>
 have:us=[]:=by simpa using hl
 subst this
 have:us'=[]:=by simpa using hl'
 subst this
 obtain ⟨cl,te,hc,hcs,hcell⟩:=hs.mem 0 _ r rfl hφ
 have hF:=(hs.lt 0 r hφ).2.1
 have hrl:=(hs.lt 0 r hφ).1
 rw [Jt16e] at hcs
 have hH:HoldsK encP 2 w r 0 l.toArray:=by
  intro j hj
  rw [size_flatK] at hj
  have hj':j<2*l.length:=by simp at hj;omega
  obtain ⟨n,h1,h2⟩:=Jtg6 l j hj'
  obtain ⟨_,u,hu,hrel⟩:=hcell j _ h1
  cases hrel with
  | d _ _ hp=>
  cases hp with
  | int k m=>
  constructor
  ·rw [h2];simp [World.cell?,hc,hu]
  ·simp [World.frozen?,hc]
 have:=AnyQ.slices_SortFunc_total L 2 aE zE encP (fun _=>rfl) (fun x v hv=>by simp [encP] at hv;rcases hv with rfl | rfl<;>rfl) cfP swoP c #[] r 0 cap l.toArray w eg (hcmp r 0 _ w) hH hrl (by simpa using hlen) (fun x y h1 h2=>by rw [Jtq6] at h1 h2;exact Jtnh h1 h2)
 refine Calls.mono (show Calls P (ρ.f 6) #[.slice (some ⟨r,0,none⟩) l.length cap,.func (.func c) #[] #[]] w _ from this) ?_
 rintro e w' ⟨rfl,n,os,hw⟩
 have hw:w'=sortWorldK encP 2 w r 0 n (sortP l).toArray os:=by
  rw [hw];simp only [Jtq6];rfl
 obtain ⟨d,hd⟩:∃ d,d=sortP l:=⟨_,rfl⟩
 have hdl:d.length=l.length:=by rw [hd,Jt1ab]
 rw [←hd] at hw
 have hheap:w'.heap=(w.heap.modify r (onCells (putCells id 0 (flatK encP 2 d.toArray))))++os:=by rw [hw];rfl
 have hother:∀ r',r'<w.heap.size→r'≠r→w'.heap[r']?=w.heap[r']?:=by
  intro r' h1 h2
  rw [hheap,Array.getElem?_append]
  simp only [Array.size_modify,h1,if_true,Array.getElem?_modify]
  rw [if_neg (Ne.symm h2)]
 have hsize:w.heap.size≤w'.heap.size:=by rw [hheap];simp
 have hpsz:(putCells id 0 (flatK encP 2 d.toArray) cl).size=cl.size:=by simp [putCells]
 have hr':w'.heap[r]?=some (.cells (putCells id 0 (flatK encP 2 d.toArray) cl) te (0,0)):=by
  rw [hheap,Array.getElem?_append]
  simp only [Array.size_modify,hrl,if_true,Array.getElem?_modify,if_true]
  rw [hc];rfl
 have hno:∀ (env:List (Nat × AV)) (cells:List D) b j e rows,AP ⟨env,[.mem (cells.map AV.d)]⟩ (.cell b j)≠some (.own e rows):=by
  intro env cells b j e rows h
  simp only [AP] at h
  cases b with
  | zero=>
   simp only [List.getElem?_cons_zero] at h
   rw [lgM] at h
   cases hx:cells[j]? with
   | none=>rw [hx] at h;cases h
   | some d=>rw [hx] at h;cases h
  | succ b=>simp at h
 have hno':∀ p e rows,AP ⟨[(0,.tup [])],[.mem (Jt16d (d.map Pair.row))]⟩ p≠some (.own e rows):=by
  intro p e rows h
  cases p with
  | tmp t=>simp only [AP,get] at h;split at h<;>cases h
  | cell b j=>exact hno _ _ _ _ _ _ h
 have hb0:∀ b r',g.φ b=some r'→b=0:=fun b r' h=>by have:=(hs.lt b r' h).2.2;simp at this;exact this
 refine ⟨.ret (.tup []),[.mem (Jt16d (d.map Pair.row))],g,.tuple #[],⟨rfl,by rw [hd]⟩,rfl,?_,?_,fun _ _ _ h=>h,by simp,?_⟩
 ·refine { size:=by simp,env:=?_,inj:=hs.inj,lt:=?_,dom:=?_,mem:=?_,iter:=?_,glob:=?_,own:=?_,excl:=?_,apart:=?_,view:=?_}
  ·intro t x hx
   simp only [get] at hx
   split at hx
   ·rename_i h;subst h;injection hx with hx;subst hx
    exact .tup [] [] rfl fun j x u h=>by simp at h
   ·cases hx
  ·intro b r' h
   obtain ⟨h1,h2,h3⟩:=hs.lt b r' h
   exact ⟨by omega,h2,by simpa using h3⟩
  ·intro b k h hk
   cases b with
   | zero=>exact ⟨r,hφ⟩
   | succ b=>simp at h
  ·intro b cells r' h hr2
   have hb:=hb0 b r' hr2
   subst hb
   rw [hφ] at hr2;injection hr2 with hr2;subst hr2
   simp at h;subst h
   refine ⟨_,te,hr',?_,?_⟩
   ·rw [Jt16e,hdl];simp [putCells];exact hcs
   ·intro j x hx
    have hj:j<2*d.length:=by
     have:=(lgS.1 hx).1
     rwa [Jt16e] at this
    obtain ⟨n,h1,h2⟩:=Jtg6 d j hj
    rw [hx] at h1;injection h1 with h1;subst h1
    refine ⟨rfl,.int .i64 n,?_,.d _ _ (.int _ _)⟩
    have hjc:j<cl.size:=by omega
    have hf:j<(flatK encP 2 d.toArray).size:=by rw [size_flatK];simp;omega
    simp only [putCells,Array.getElem?_mapIdx,hjc,Array.getElem?_eq_getElem,Option.map_some,Nat.zero_le,true_and,Nat.zero_add,hf,if_true,Nat.sub_zero,h2,id]
  ·intro b s pos r' h _
   cases b with
   | zero=>simp at h
   | succ b=>simp at h
  ·intro b s pos r' h _
   cases b with
   | zero=>simp at h
   | succ b=>simp at h
  ·intro p e rows v h;exact absurd h (hno' p e rows)
  ·rintro p p' r' ⟨e,rows,_,h,_⟩;exact absurd h (hno' p e rows)
  ·rintro p r' b ⟨e,rows,_,h,_⟩;exact absurd h (hno' p e rows)
  ·intro t org e rows h
   simp only [get] at h
   split at h<;>cases h
 ·refine ⟨by rw [hw];rfl,by rw [hw];rfl,by rw [hw];rfl,hsize,?_,?_⟩
  ·intro r' h1 h2
   refine ⟨hother r' h1 ?_,rfl⟩
   rintro rfl;exact h2 (.inl ⟨0,hφ⟩)
  ·refine ⟨fun _ _=>Nat.le_refl _,?_,fun q=>?_⟩
   rotate_left
   ·by_cases hq:q=r
    ·subst hq;rw [Jtcw hc,Jtcw hr'];exact Nat.le_of_eq hpsz.symm
    ·by_cases hql:q<w.heap.size
     ·rw [Jtcx (hother q hql hq)];exact Nat.le_refl _
     ·have:w.heap[q]?=none:=Array.getElem?_eq_none (by omega)
      simp [csize,this]
   intro r' j u hj hu
   have hne:r'≠r:=by rintro rfl;omega
   have hlt:=World.block_lt_of_cell? w ⟨r',j,none⟩ hu
   have:=hother r' hlt hne
   simp only [World.cell?] at hu ⊢
   rw [this];exact hu
 ·rintro r' (⟨b,hb⟩ | ⟨p,e,rows,_,h,_⟩)
  ·exact .inl (.inl ⟨b,hb⟩)
  ·exact absurd h (hno' p e rows)
theorem Jt1ag(L:SlLaysF0.n6 P ρ)(c:Nat)(x:AV)(hx:x=.d (.sl [])∨x=.nils∨x=.nile) :
  Jt51 P (ρ.f 6) [x,.fn (.func c) [] []] [] fun o H'=>o=.ret (.tup [])∧H'=[]:=by
 intro g vs w hsz hs
 obtain ⟨vs⟩:=vs
 obtain ⟨v0,v1,rfl⟩:∃ a b,vs=[a,b]:=by
  match vs,hsz with
  | [a,b],_=>exact ⟨a,b,rfl⟩
 have e0:Rel g.F g.φ w x.erase v0:=hs.env 0 _ rfl
 obtain ⟨a,cap,rfl⟩:∃ a cap,v0=.slice a 0 cap:=by
  rcases hx with rfl | rfl | rfl
  ·cases e0 with
   | d _ _ h=>cases h with
    | nil a cap=>exact ⟨a,cap,rfl⟩
    | sl rows ad cap esz vs h1 h2 h3 h4 h5 h6=>exact ⟨_,_,rfl⟩
  ·cases e0;exact ⟨_,_,rfl⟩
  ·cases e0;exact ⟨_,_,rfl⟩
 refine Calls.mono (AnyF.slices_SortFunc_none L a cap v1 w) ?_
 rintro e w' ⟨rfl,rfl⟩
 have hno:∀ (st:ASt) p e rows,st.H=[]→(∀ t e rows,get st.env t≠some (.own e rows))→AP st p≠some (.own e rows):=by
  intro st p e rows h1 h2 h
  cases p with
  | tmp t=>exact h2 t e rows h
  | cell b j=>simp only [AP,h1] at h;simp at h
 have hno':∀ p e rows,AP ⟨[(0,.tup [])],[]⟩ p≠some (.own e rows):=by
  intro p e rows
  refine hno _ p e rows rfl ?_
  intro t e rows h;simp only [get] at h;split at h<;>cases h
 have hb0:∀ b r,g.φ b≠some r:=fun b r h=>by have:=(hs.lt b r h).2.2;simp at this
 refine ⟨.ret (.tup []),[],g,.tuple #[],⟨rfl,rfl⟩,rfl,?_,Tr.refl _ _ _,fun _ _ _ h=>h,by simp,?_⟩
 ·refine { size:=by simp,env:=?_,inj:=hs.inj,lt:=fun b r h=>absurd h (hb0 b r),dom:=?_,mem:=?_,iter:=?_,glob:=?_,own:=?_,excl:=?_,apart:=?_,view:=?_}
  ·intro t x hx
   simp only [get] at hx
   split at hx
   ·rename_i h;subst h;injection hx with hx;subst hx
    exact .tup [] [] rfl fun j x u h=>by simp at h
   ·cases hx
  ·intro b k h;simp at h
  ·intro b cells r h;simp at h
  ·intro b s pos r h;simp at h
  ·intro b s pos r h;simp at h
  ·intro p e rows v h;exact absurd h (hno' p e rows)
  ·rintro p p' r' ⟨e,rows,_,h,_⟩;exact absurd h (hno' p e rows)
  ·rintro p r' b ⟨e,rows,_,h,_⟩;exact absurd h (hno' p e rows)
  ·intro t org e rows h;simp only [get] at h;split at h<;>cases h
 ·rintro r' (⟨b,hb⟩ | ⟨p,e,rows,_,h,_⟩)
  ·exact absurd hb (hb0 b r')
  ·exact absurd h (hno' p e rows)
end
structure SortOk (P:Program) (p:Nums):Prop where
 none:Jt51 P p.Yfg [.d (.sl []),.fn (.func p.Yfh) [] []] [] fun o H'=>o=.ret (.tup [])∧H'=[]
 some:∀ l:List Pair,l≠[]→l.length<1000000→Jt51 P p.Yfg [.hsl 0 0 2 l.length,.fn (.func p.Yfh) [] []] [.mem (Jt16d (l.map Pair.row))] fun o H'=>o=.ret (.tup [])∧H'=[.mem (Jt16d ((sortP l).map Pair.row))]
theorem Jt1ad(l:List Pair):(sortP l).Pairwise fun a b=>lessP b a=false:=by
 have:=List.pairwise_mergeSort (le:=fun x y=>!lessP y x) (fun a b c h1 h2=>?_) (fun a b=>?_) l
 ·refine List.Pairwise.imp ?_ this
  intro a b h;simpa using h
 ·simp only [Bool.not_eq_true'] at h1 h2 ⊢
  cases h:lessP c a with
  | false=>rfl
  | true=>
   cases h3:lessP b c with
   | true=>rw [Jtni h3 h] at h1;cases h1
   | false=>have:=Jtnh h3 h2;subst this;rw [h] at h1;cases h1
 ·cases h1:lessP b a with
  | false=>simp
  | true=>simp [Jtnd h1]
theorem Jtsx{l:List Pair}{q:Pair}:q∈sortP l↔q∈l:=by unfold sortP;simp
theorem Jtd2(l:List Pair):dd (sortP l)=makeP l:=
 Jt1d9 (srt_dd (Jt1ad l)) (Jt1dc l) fun q=>by rw [mem_dd,Jtsx,Jtsp]
theorem Jt1ac{l:List Pair}(h:l≠[]):sortP l≠[]:=by
 intro e;have:=Jt1ab l;rw [e] at this;exact h (List.length_eq_zero_iff.1 this.symm)
section
variable {P:Program} {p:Nums}
theorem Jtwb(A:All P p)(S:SortOk P p):Jt51 P p.Yf3 [.d (.sl [])] [] fun o H'=>o=.ret (.d (.sl []))∧H'=[]:=by
 refine A.Yf3.run rfl fun R hR=>?_
 (simp (maxSteps:=9^6)[Jtjd])
 refine Jt1b [] 0 (Jt18m A) (by decide) (by rfl) (by rfl) (by rfl) (by rfl) (by rfl) (by rfl) ?_
 (simp (maxSteps:=9^6)[])
 refine Jt1b [] 0 S.none (by decide) (by rfl) (by rfl) (by rfl) (by rfl) (by rfl) (by rfl) ?_
 (simp (maxSteps:=9^6)[])
 refine Jt1b [] 0 (Jt197 A) (by decide) (by rfl) (by rfl) (by rfl) (by rfl) (by rfl) (by rfl) ?_
 (simp (maxSteps:=9^6)[])
 exact hR _ _ (Jt59 _ _ rfl (by (exact wkvA)) ⟨rfl,rfl⟩)
theorem Jtwa(A:All P p)(S:SortOk P p)(l:List Pair)(h0:l.length<1000000):Jt51 P p.Yf3 [.d (pairsD l)] [] fun o _=>o=.ret (.d (pairsD (makeP l))):=by
 by_cases hl:l=[]
 ·subst hl
  exact (Jtwb A S).mono fun o H' h=>h.1
 ·refine A.Yf3.run rfl fun R hR=>?_
  (simp (maxSteps:=9^6)[Jtjd,pairsD])
  refine Jt1b [] 1 (Jt18k A l hl h0) (by decide) (by rfl) (by rfl) (by rfl) Jt15m (by rfl) (by rfl) ?_
  (simp (maxSteps:=9^6)[])
  refine Jt1b [0] 0 (S.some l hl h0) (by decide) (by rfl) (by rfl) Jt15m Jt15m (by rfl) (by rfl) ?_
  (simp (maxSteps:=9^6)[])
  have hs:=Jt196 A (sortP l) (Jt1ac hl) (by rw [Jt1ab];exact h0)
  rw [Jt1ab,Jtd2] at hs
  refine Jt1b [0] 0 hs (by decide) (by rfl) (by rfl) Jt15m Jt15m (by rfl) (by rfl) ?_
  obtain ⟨n,hn⟩:∃ n,n=(makeP l).length:=⟨_,rfl⟩
  obtain ⟨U,hU⟩:∃ U,U=cptP (sortP l):=⟨_,rfl⟩
  rw [←hn,←hU]
  (simp (maxSteps:=9^6)[])
  refine hR _ _ (Jt59 _ _ rfl (WkV.hsl 0 0 2 n _ ((makeP l).map Pair.row) rfl (by omega) ?_ (by rw [hn];simp) (Jt16t fun _=>rfl)) rfl)
  show ((Jt16d (U.map Pair.row)).drop 0).take (n*2)=Jt16d ((makeP l).map Pair.row)
  rw [List.drop_zero,Jt16n (e:=2) (rows:=U.map Pair.row) (Jt16t (f:=Pair.row) fun _=>rfl),←List.map_take,hU,cptP,Jtd2,hn,List.take_left']
  rfl
end
def renP(c:Pair→Bool)(f:Pair→Pair)(l:List Pair):List Pair:=(l.filter c).map f
theorem Jt15t{c:Pair→Bool}{f:Pair→Pair}{l:List Pair}{k:Nat}(h:k<l.length):renP c f (l.take (k+1))=if c l[k]=true then renP c f (l.take k)++[f l[k]] else renP c f (l.take k):=by
 unfold renP
 rw [List.take_add_one,lgE h,List.filter_append,List.map_append]
 cases hf:c l[k]<;>simp [hf]
theorem Jt15s(c:Pair→Bool)(f:Pair→Pair)(l:List Pair):(renP c f l).length≤l.length:=by
 unfold renP;rw [List.length_map];exact List.length_filter_le _ _
theorem Jtsv{c:Pair→Bool}{f:Pair→Pair}{l:List Pair}{q:Pair}:q∈renP c f l↔∃ p∈l,c p=true∧f p=q:=by
 unfold renP;simp only [List.mem_map,List.mem_filter,and_assoc]
def copyP(l:List Pair)(d a:Int):List Pair:=if d=a then makeP l else mergeP (l.filter fun x=>x.v != d) (makeP (renP (fun x=>x.v==a) (fun x=>⟨d,x.l⟩) l))
def moveP(l:List Pair)(d a:Int):List Pair:=if d=a then makeP l else mergeP (l.filter fun x=>x.l != d) (makeP (renP (fun x=>x.l==a) (fun x=>⟨x.v,d⟩) l))
def defP(l:List Pair)(d t:Int):List Pair:=addP ((l.filter fun x=>x.v != d).filter fun x=>x.l != t) ⟨d,t⟩
theorem Jt1da{l:List Pair}{f:Pair→Bool}(h:Srt l):Srt (l.filter f):=List.Pairwise.filter f h
theorem Jt1d7{l:List Pair}{d a:Int}(h:Srt l):Srt (copyP l d a):=by
 unfold copyP;split
 ·exact Jt1dc _
 ·exact Jt1dd (Jt1da h) (Jt1dc _)
theorem Jt1de{l:List Pair}{d a:Int}(h:Srt l):Srt (moveP l d a):=by
 unfold moveP;split
 ·exact Jt1dc _
 ·exact Jt1dd (Jt1da h) (Jt1dc _)
theorem Jt1d8{l:List Pair}{d t:Int}(h:Srt l):Srt (defP l d t):=Jt1d4 (Jt1da (Jt1da h))
theorem Jtsl{l:List Pair}{d a:Int}{q:Pair}:q∈copyP l d a↔(q∈l∧(d=a∨q.v≠d))∨(q.v=d∧(⟨a,q.l⟩:Pair)∈l):=by
 unfold copyP
 by_cases h:d=a
 ·subst h
  rw [if_pos rfl,Jtsp]
  constructor
  ·intro hq;exact .inl ⟨hq,.inl rfl⟩
  ·rintro (⟨hq,_⟩ | ⟨e,hq⟩)
   ·exact hq
   ·have:(⟨d,q.l⟩:Pair)=q:=Jtf3 e.symm rfl
    rw [this] at hq;exact hq
 ·rw [if_neg h,Jtsq,Jtsp,Jtsv,List.mem_filter]
  constructor
  ·rintro (⟨h1,h2⟩ | ⟨p,h1,h2,rfl⟩)
   ·exact .inl ⟨h1,.inr (by simpa using h2)⟩
   ·refine .inr ⟨rfl,?_⟩
    have e:p.v=a:=by simpa using h2
    have:(⟨a,p.l⟩:Pair)=p:=Jtf3 e.symm rfl
    simpa [this] using h1
  ·rintro (⟨h1,h2⟩ | ⟨h1,h2⟩)
   ·exact .inl ⟨h1,by simpa using h2.resolve_left h⟩
   ·exact .inr ⟨_,h2,by simp,Jtf3 h1.symm rfl⟩
theorem Jtsr{l:List Pair}{d a:Int}{q:Pair}:q∈moveP l d a↔(q∈l∧(d=a∨q.l≠d))∨(q.l=d∧(⟨q.v,a⟩:Pair)∈l):=by
 unfold moveP
 by_cases h:d=a
 ·subst h
  rw [if_pos rfl,Jtsp]
  constructor
  ·intro hq;exact .inl ⟨hq,.inl rfl⟩
  ·rintro (⟨hq,_⟩ | ⟨e,hq⟩)
   ·exact hq
   ·have:(⟨q.v,d⟩:Pair)=q:=Jtf3 rfl e.symm
    rw [this] at hq;exact hq
 ·rw [if_neg h,Jtsq,Jtsp,Jtsv,List.mem_filter]
  constructor
  ·rintro (⟨h1,h2⟩ | ⟨p,h1,h2,rfl⟩)
   ·exact .inl ⟨h1,.inr (by simpa using h2)⟩
   ·refine .inr ⟨rfl,?_⟩
    have e:p.l=a:=by simpa using h2
    have:(⟨p.v,a⟩:Pair)=p:=Jtf3 rfl e.symm
    simpa [this] using h1
  ·rintro (⟨h1,h2⟩ | ⟨h1,h2⟩)
   ·exact .inl ⟨h1,by simpa using h2.resolve_left h⟩
   ·exact .inr ⟨_,h2,by simp,Jtf3 rfl h1.symm⟩
theorem Jtsm{l:List Pair}{d t:Int}{q:Pair}:q∈defP l d t↔q=⟨d,t⟩∨(q∈l∧q.v≠d∧q.l≠t):=by
 unfold defP
 rw [Jtsk,List.mem_filter,List.mem_filter]
 simp [and_assoc]
section
variable {P:Program} {p:Nums}
end
section
variable {P:Program} {p:Nums}
end
section
variable {P:Program} {p:Nums}
end
section
variable {P:Program} {p:Nums}
end
theorem Jtfv{l:List Pair}{f:Pair→Bool}{k:Nat}(h:k<l.length):(l.take (k+1)).filter f=if f l[k]=true then (l.take k).filter f++[l[k]] else (l.take k).filter f:=by
 rw [List.take_add_one,lgE h,List.filter_append]
 cases hf:f l[k]<;>simp [hf]
section
variable {P:Program} {p:Nums}
theorem Jtvx(A:All P p)(x:Pair)(v:Int):Jt51 P p.Yfv [x.av,.ptr 0 0] [.mem [AI v]] fun o H'=>o=.ret (AB (x.v != v))∧H'=[.mem [AI v]]:=by
 refine A.Yfv.run rfl fun R hR=>?_
 (simp (maxSteps:=9^6)[Jtja,Pair.av])
 exact hR _ _ (Jt58 _ (AB (x.v != v)) [.mem [AI v]] rfl (by (exact wkA)) ⟨rfl,rfl⟩)
theorem Jtvs(A:All P p)(x:Pair)(v:Int):Jt51 P p.Yfw [x.av,.ptr 0 0] [.mem [AI v]] fun o H'=>o=.ret (AB (x.l != v))∧H'=[.mem [AI v]]:=by
 refine A.Yfw.run rfl fun R hR=>?_
 (simp (maxSteps:=9^6)[Jtj8,Pair.av])
 exact hR _ _ (Jt58 _ (AB (x.l != v)) [.mem [AI v]] rfl (by (exact wkA)) ⟨rfl,rfl⟩)
theorem Jtx9(A:All P p)(l:List Pair)(f:Nat)(v:Int)(keep:Pair→Bool)(h0:l.length<1000000)(hok:okFn P f=true)
  (hf:∀ x:Pair,Jt51 P f [x.av,.ptr 0 0] [.mem [AI v]] fun o H'=>o=.ret (AB (keep x))∧H'=[.mem [AI v]]) :
  Jt51 P p.Yfu [.d (pairsD l),.fn (.func f) [] [.ptr 0 0]] [.mem [AI v]] fun o H'=>o=.ret (.own 2 ((l.filter keep).map Pair.row))∧H'=[.mem [AI v]]:=by
 refine A.Yfu.run rfl fun R hR=>?_
 (simp (maxSteps:=9^6)[Jtjg,pairsD])
 refine Jt2o (n:=l.length) (by rfl) (by rfl) (by omega) (by omega) (by decide) (by rfl) ?_
 (simp (maxSteps:=9^6)[])
 refine Jtf (fun k:Nat=>⟨[(13,AI k),(12,AI l.length),(11,.d (.sl (l.map Pair.row))),(5,.own 2 (((l.take k).filter keep).map Pair.row)),(4,.nils),(1,.fn (.func f) [] [.ptr 0 0])],[.mem [AI v]]⟩) (fun k=>k≤l.length) (fun k=>l.length-k) 0 (by simp) (by simp only [List.take_zero,List.filter_nil,List.map_nil];(exact wkA)) ?_
 intro k hk N hN
 (simp (maxSteps:=9^6)[])
 ((first|refine Xc ?_ ?_|refine Xo ?_ ?_)<;>intro h2<;>try simp only [Xz,Xy] at h2)
 ·have hkl:k<l.length:=by omega
  have hb:l[k]?=some l[k]:=by simp
  have hw:=Jt1le (k:=k) (by omega)
  have hs:=Jtfv (f:=keep) hkl
  have hl:=List.length_filter_le keep (l.take k)
  rw [List.length_take] at hl
  obtain ⟨x,hx⟩:∃ x,x=l[k]:=⟨_,rfl⟩
  obtain ⟨F,hF⟩:∃ F,F=(l.take k).filter keep:=⟨_,rfl⟩
  have hN':=fun st' h=>hN st' (k+1) hkl h (by omega)
  rw [hs] at hN'
  rw [←hx,←hF] at hN'
  rw [←hF] at hl ⊢
  rw [←hx] at hb
  (simp (maxSteps:=9^6)[h2,hb,Pair.row])
  refine ⟨f,[],[.ptr 0 0],[.agg [AI l[k].v,AI l[k].l]],rfl,hok,rfl,?_⟩
  refine Jt19 [0] (hf l[k]) (by decide) (by rfl) (by rfl) (by rfl) (by rfl) (by rfl) (by rfl) ?_
  rw [←hx]
  (simp (maxSteps:=9^6)[])
  cases hkx:keep x with
  | true=>
   rw [hkx,if_pos rfl] at hN'
   (simp (maxSteps:=9^6)[hkx])
   (refine Jt1o (by rfl) (by rfl) (by rfl) ?_ (by decide) ?_ ?_ ?_)
   ·simp
   ·simp;omega
   ·simp;omega
   (simp (maxSteps:=9^6)[hw])
   exact hN' _ (by simp [Pair.row];(exact wkA))
  | false=>
   rw [hkx,if_neg (by simp)] at hN'
   (simp (maxSteps:=9^6)[hkx,hw])
   exact hN' _ (by (exact wkA))
 ·have hk':k=l.length:=by omega
  subst hk'
  (simp (maxSteps:=9^6)[])
  exact hR _ _ (Jt58 _ (.own 2 ((l.filter keep).map Pair.row)) [.mem [AI v]] rfl (by (exact wkA)) ⟨rfl,rfl⟩)
theorem Jtw0(A:All P p)(l:List Pair)(v:Int)(h0:l.length<1000000):Jt51 P p.Yfd [.d (pairsD l),AI v] [] fun o H'=>o=.ret (.own 2 ((l.filter fun x=>x.v != v).map Pair.row))∧H'=[]:=by
 refine A.Yfd.run rfl fun R hR=>?_
 (simp (maxSteps:=9^6)[Jtj9,pairsD])
 refine Jt19 [0] (Jtx9 A l p.Yfv v (fun x=>x.v != v) h0 A.Yfv.ok fun x=>Jtvx A x v) (by decide) (by rfl) (by rfl) (by rfl) (by rfl) (by rfl) (by rfl) ?_
 (simp (maxSteps:=9^6)[])
 exact hR _ _ (Jt55 _ _ rfl ⟨rfl,rfl⟩)
theorem Jtvv(A:All P p)(l:List Pair)(v:Int)(h0:l.length<1000000):Jt51 P p.Yfe [.d (pairsD l),AI v] [] fun o H'=>o=.ret (.own 2 ((l.filter fun x=>x.l != v).map Pair.row))∧H'=[]:=by
 refine A.Yfe.run rfl fun R hR=>?_
 (simp (maxSteps:=9^6)[Jtj7,pairsD])
 refine Jt19 [0] (Jtx9 A l p.Yfw v (fun x=>x.l != v) h0 A.Yfw.ok fun x=>Jtvs A x v) (by decide) (by rfl) (by rfl) (by rfl) (by rfl) (by rfl) (by rfl) ?_
 (simp (maxSteps:=9^6)[])
 exact hR _ _ (Jt55 _ _ rfl ⟨rfl,rfl⟩)
theorem Jtvz(A:All P p)(l:List Pair)(v:Int)(h0:l.length<1000000):Jt51 P p.Yfd [.d (pairsD l),AI v] [] fun o _=>o=.ret (.d (pairsD (l.filter fun x=>x.v != v))):=
 (Jtw0 A l v h0).unown.mono fun _ _ h=>h.1
theorem Jtvu(A:All P p)(l:List Pair)(v:Int)(h0:l.length<1000000):Jt51 P p.Yfe [.d (pairsD l),AI v] [] fun o _=>o=.ret (.d (pairsD (l.filter fun x=>x.l != v))):=
 (Jtvv A l v h0).unown.mono fun _ _ h=>h.1
end
structure ClosOk (P:Program) (p:Nums):Prop where
 ok1:okFn P p.Yf2t=true
 ok2:okFn P p.Yf2u=true
 copy:∀ (x:Pair) (d a:Int),Jt51 P p.Yf2t [x.av,.ptr 0 0,.ptr 1 0] [.mem [AI d],.mem [AI a]] fun o H'=>o=.ret (.tup [(⟨d,x.l⟩:Pair).av,AB (x.v==a)])∧H'=[.mem [AI d],.mem [AI a]]
 move:∀ (x:Pair) (d a:Int),Jt51 P p.Yf2u [x.av,.ptr 0 0,.ptr 1 0] [.mem [AI d],.mem [AI a]] fun o H'=>o=.ret (.tup [(⟨x.v,d⟩:Pair).av,AB (x.l==a)])∧H'=[.mem [AI d],.mem [AI a]]
section
variable {P:Program} {p:Nums}
theorem Jt1f9(A:All P p)(S:SortOk P p)(kept l:List Pair)(f:Nat)(d a:Int)(c:Pair→Bool)(g:Pair→Pair)(h0:kept.length<100000)(h1:l.length<100000)(hok:okFn P f=true)
  (hf:∀ x:Pair,Jt51 P f [x.av,.ptr 0 0,.ptr 1 0] [.mem [AI d],.mem [AI a]] fun o H'=>o=.ret (.tup [(g x).av,AB (c x)])∧H'=[.mem [AI d],.mem [AI a]]) :
  Jt51 P p.Yf2s [.d (pairsD kept),.d (pairsD l),.fn (.func f) [] [.ptr 0 0,.ptr 1 0]] [.mem [AI d],.mem [AI a]] fun o H'=>o=.ret (.own 2 ((mergeP kept (makeP (renP c g l))).map Pair.row))∧H'=[.mem [AI d],.mem [AI a]]:=by
 refine A.Yf2s.run rfl fun R hR=>?_
 (simp (maxSteps:=9^6)[Jtks,pairsD])
 refine Jtf (fun k:Nat=>⟨[(14,AI k),(13,AI l.length),(12,.d (.sl (l.map Pair.row))),(7,.own 2 ((renP c g (l.take k)).map Pair.row)),(6,.nils),(2,.fn (.func f) [] [.ptr 0 0,.ptr 1 0]),(0,.d (.sl (kept.map Pair.row)))],[.mem [AI d],.mem [AI a]]⟩) (fun k=>k≤l.length) (fun k=>l.length-k) 0 (by simp) (by simp only [List.take_zero,renP,List.filter_nil,List.map_nil];(exact wkA)) ?_
 intro k hk N hN
 (simp (maxSteps:=9^6)[])
 ((first|refine Xc ?_ ?_|refine Xo ?_ ?_)<;>intro h2<;>try simp only [Xz,Xy] at h2)
 ·have hkl:k<l.length:=by omega
  have hb:l[k]?=some l[k]:=by simp
  have hw:=Jt1le (k:=k) (by omega)
  have hs:=Jt15t (c:=c) (f:=g) hkl
  have hl:=Jt15s c g (l.take k)
  rw [List.length_take] at hl
  obtain ⟨x,hx⟩:∃ x,x=l[k]:=⟨_,rfl⟩
  obtain ⟨F,hF⟩:∃ F,F=renP c g (l.take k):=⟨_,rfl⟩
  have hN':=fun st' h=>hN st' (k+1) hkl h (by omega)
  rw [hs] at hN'
  rw [←hx,←hF] at hN'
  rw [←hF] at hl ⊢
  rw [←hx] at hb
  (simp (maxSteps:=9^6)[h2,hb,Pair.row])
  refine ⟨f,[],[.ptr 0 0,.ptr 1 0],[.agg [AI l[k].v,AI l[k].l]],rfl,hok,rfl,?_⟩
  refine Jt19 [0,1] (hf l[k]) (by decide) (by rfl) (by rfl) (by rfl) (by rfl) (by rfl) (by rfl) ?_
  rw [←hx]
  obtain ⟨y,hy⟩:∃ y,y=g x:=⟨_,rfl⟩
  rw [←hy] at hN' ⊢
  (simp (maxSteps:=9^6)[Pair.av])
  cases hkx:c x with
  | true=>
   rw [hkx,if_pos rfl] at hN'
   (simp (maxSteps:=9^6)[hkx,Pair.av])
   (refine Jt1o (by rfl) (by rfl) (by rfl) ?_ (by decide) ?_ ?_ ?_)
   ·simp
   ·simp;omega
   ·simp;omega
   (simp (maxSteps:=9^6)[hw])
   exact hN' _ (by simp [Pair.row];(exact wkA))
  | false=>
   rw [hkx,if_neg (by simp)] at hN'
   (simp (maxSteps:=9^6)[hkx,hw])
   exact hN' _ (by (exact wkA))
 ·have hk':k=l.length:=by omega
  subst hk'
  have hl:=Jt15s c g l
  have hm:=Jts5 (renP c g l)
  have hmk:=Jtwa A S (renP c g l) (by omega)
  have hun:=(Jtx1 A kept (makeP (renP c g l)) (by omega) (by omega)).mono fun _ _ h=>h.1
  obtain ⟨G,hG⟩:∃ G,G=renP c g l:=⟨_,rfl⟩
  obtain ⟨M,hM⟩:∃ M,M=makeP (renP c g l):=⟨_,rfl⟩
  rw [←hM,←hG] at hmk
  rw [←hM] at hun
  simp only [List.take_length]
  rw [←hG]
  (simp (maxSteps:=9^6)[])
  (refine Jt17 hmk (by rfl) (by rfl) ?_)
  (simp (maxSteps:=9^6)[pairsD])
  (refine Jt17 hun (by rfl) (by rfl) ?_)
  (simp (maxSteps:=9^6)[])
  exact hR _ _ (Jt58 _ (.own 2 ((mergeP kept M).map Pair.row)) [.mem [AI d],.mem [AI a]] rfl (by (exact wkA)) ⟨by rw [hM],rfl⟩)
theorem Jt1es(A:All P p)(S:SortOk P p)(C:ClosOk P p)(l:List Pair)(d a:Int)(h0:l.length<100000)(hne:d≠a):Jt51 P p.Yf2l [.d (pairsD l),AI d,AI a] [] fun o H'=>o=.ret (.own 2 ((copyP l d a).map Pair.row))∧H'=[]:=by
 refine A.Yf2l.run rfl fun R hR=>?_
 (simp (maxSteps:=9^6)[Jtkp,pairsD,hne])
 (refine Jt17 (Jtvz A l d (by omega)) (by rfl) (by rfl) ?_)
 have hl:=List.length_filter_le (fun x:Pair=>x.v != d) l
 have hrn:=Jt1f9 A S (l.filter fun x=>x.v != d) l p.Yf2t d a (fun x=>x.v==a) (fun x=>⟨d,x.l⟩) (by omega) h0 C.ok1 fun x=>C.copy x d a
 have hc:copyP l d a=mergeP (l.filter fun x=>x.v != d) (makeP (renP (fun x=>x.v==a) (fun x=>⟨d,x.l⟩) l)):=by unfold copyP;rw [if_neg hne]
 rw [←hc] at hrn
 obtain ⟨K,hK⟩:∃ K,K=l.filter fun x=>x.v != d:=⟨_,rfl⟩
 rw [←hK] at hrn ⊢
 (simp (maxSteps:=9^6)[pairsD])
 refine Jt19 [0,1] hrn (by decide) (by rfl) (by rfl) (by rfl) (by rfl) (by rfl) (by rfl) ?_
 (simp (maxSteps:=9^6)[])
 exact hR _ _ (Jt55 _ _ rfl ⟨rfl,rfl⟩)
theorem Jt1er(A:All P p)(S:SortOk P p)(C:ClosOk P p)(l:List Pair)(d a:Int)(h0:l.length<100000):Jt51 P p.Yf2l [.d (pairsD l),AI d,AI a] [] fun o _=>o=.ret (.d (pairsD (copyP l d a))):=by
 by_cases hne:d=a
 ·refine A.Yf2l.run rfl fun R hR=>?_
  subst hne
  (simp (maxSteps:=9^6)[Jtkp,pairsD])
  have hc:copyP l d d=makeP l:=by unfold copyP;rw [if_pos rfl]
  have hmk:=Jtwa A S l (by omega)
  rw [←hc] at hmk
  (refine Jt17 hmk (by rfl) (by rfl) ?_)
  (simp (maxSteps:=9^6)[pairsD])
  (first|exact hR _ _ FrA|exact hR _ _ FnA|exact hR _ _ (Xf (hq:=by simp [AV.erase,AV.unview,pairsD];done)))
 ·exact (Jt1es A S C l d a h0 hne).unown.mono fun _ _ h=>h.1
theorem Jt1f1(A:All P p)(S:SortOk P p)(C:ClosOk P p)(l:List Pair)(d a:Int)(h0:l.length<100000)(hne:d≠a):Jt51 P p.Yf2m [.d (pairsD l),AI d,AI a] [] fun o H'=>o=.ret (.own 2 ((moveP l d a).map Pair.row))∧H'=[]:=by
 refine A.Yf2m.run rfl fun R hR=>?_
 (simp (maxSteps:=9^6)[Jtkr,pairsD,hne])
 (refine Jt17 (Jtvu A l d (by omega)) (by rfl) (by rfl) ?_)
 have hl:=List.length_filter_le (fun x:Pair=>x.l != d) l
 have hrn:=Jt1f9 A S (l.filter fun x=>x.l != d) l p.Yf2u d a (fun x=>x.l==a) (fun x=>⟨x.v,d⟩) (by omega) h0 C.ok2 fun x=>C.move x d a
 have hc:moveP l d a=mergeP (l.filter fun x=>x.l != d) (makeP (renP (fun x=>x.l==a) (fun x=>⟨x.v,d⟩) l)):=by unfold moveP;rw [if_neg hne]
 rw [←hc] at hrn
 obtain ⟨K,hK⟩:∃ K,K=l.filter fun x=>x.l != d:=⟨_,rfl⟩
 rw [←hK] at hrn ⊢
 (simp (maxSteps:=9^6)[pairsD])
 refine Jt19 [0,1] hrn (by decide) (by rfl) (by rfl) (by rfl) (by rfl) (by rfl) (by rfl) ?_
 (simp (maxSteps:=9^6)[])
 exact hR _ _ (Jt55 _ _ rfl ⟨rfl,rfl⟩)
theorem Jt1f0(A:All P p)(S:SortOk P p)(C:ClosOk P p)(l:List Pair)(d a:Int)(h0:l.length<100000):Jt51 P p.Yf2m [.d (pairsD l),AI d,AI a] [] fun o _=>o=.ret (.d (pairsD (moveP l d a))):=by
 by_cases hne:d=a
 ·refine A.Yf2m.run rfl fun R hR=>?_
  subst hne
  (simp (maxSteps:=9^6)[Jtkr,pairsD])
  have hc:moveP l d d=makeP l:=by unfold moveP;rw [if_pos rfl]
  have hmk:=Jtwa A S l (by omega)
  rw [←hc] at hmk
  (refine Jt17 hmk (by rfl) (by rfl) ?_)
  (simp (maxSteps:=9^6)[pairsD])
  (first|exact hR _ _ FrA|exact hR _ _ FnA|exact hR _ _ (Xf (hq:=by simp [AV.erase,AV.unview,pairsD];done)))
 ·exact (Jt1f1 A S C l d a h0 hne).unown.mono fun _ _ h=>h.1
theorem Jt1ew(A:All P p)(S:SortOk P p)(l:List Pair)(d t:Int)(h0:l.length<100000)(hs:Srt l):Jt51 P p.Yf2v [.d (pairsD l),AI d,AI t] [] fun o H'=>o=.ret (.own 2 ((defP l d t).map Pair.row))∧H'=[]:=by
 refine A.Yf2v.run rfl fun R hR=>?_
 (simp (maxSteps:=9^6)[Jtkq,pairsD])
 (refine Jt17 (Jtvz A l d (by omega)) (by rfl) (by rfl) ?_)
 have hl:=List.length_filter_le (fun x:Pair=>x.v != d) l
 have hl2:=List.length_filter_le (fun x:Pair=>x.l != t) (l.filter fun x:Pair=>x.v != d)
 have h2:=Jtvu A (l.filter fun x:Pair=>x.v != d) t (by omega)
 have h3:=(Jtvq A ((l.filter fun x=>x.v != d).filter fun x=>x.l != t) ⟨d,t⟩ (by omega) (Jt1da (Jt1da hs))).mono fun _ _ h=>h.1
 have hc:addP ((l.filter fun x=>x.v != d).filter fun x=>x.l != t) ⟨d,t⟩=defP l d t:=rfl
 rw [hc] at h3
 obtain ⟨K,hK⟩:∃ K,K=l.filter fun x:Pair=>x.v != d:=⟨_,rfl⟩
 rw [←hK] at h2 h3 ⊢
 obtain ⟨K2,hK2⟩:∃ K2,K2=K.filter fun x:Pair=>x.l != t:=⟨_,rfl⟩
 rw [←hK2] at h2 h3
 (simp (maxSteps:=9^6)[pairsD])
 (refine Jt17 h2 (by rfl) (by rfl) ?_)
 (simp (maxSteps:=9^6)[pairsD])
 (refine Jt17 h3 (by rfl) (by rfl) ?_)
 (simp (maxSteps:=9^6)[])
 exact hR _ _ (Jt55 _ _ rfl ⟨rfl,rfl⟩)
theorem Jt1ev(A:All P p)(S:SortOk P p)(l:List Pair)(d t:Int)(h0:l.length<100000)(hs:Srt l):Jt51 P p.Yf2v [.d (pairsD l),AI d,AI t] [] fun o _=>o=.ret (.d (pairsD (defP l d t))):=
 (Jt1ew A S l d t h0 hs).unown.mono fun _ _ h=>h.1
end
section
variable {P:Program} {p:Nums}
end
section
variable {P:Program} {p:Nums}
end
section
variable {P:Program} {p:Nums}
end
section
variable {P:Program} {p:Nums}
end
def intRow(n:Int):List D:=[.int .i64 n]
def intsD(l:List Int):D:=.sl (l.map intRow)
section
variable {P:Program} {p:Nums}
end
section
variable {P:Program} {p:Nums}
end
def AU(n:Int):AV:=.d (.int .u8 n)
section
variable {P:Program} {p:Nums}
end
section
variable {P:Program} {p:Nums}
end
theorem Jt1ff{n:Int}(hw:(Lit.int .u8 n).wf=true):0≤n∧n<256:=by
 simp [Lit.wf,IntKind.min,IntKind.max,IntKind.signed,IntKind.bits] at hw
 omega
theorem u8_of{d:D}(h:HasT (.int .u8) d):∃ n:Int,AV.d d=AU n∧(0≤n∧n<256):=by
 obtain ⟨n,rfl,hw⟩:=h.int_inv
 exact ⟨n,rfl,Jt1ff hw⟩
def isDig(c:UInt8):Bool:=decide (48≤c.toNat)&&decide (c.toNat≤57)
def valD(ds:List UInt8):Nat:=ds.foldl (fun n c=>10*n+(c.toNat-48)) 0
def okD(ds:List UInt8):Prop:=ds≠[]∧(∀ c∈ds,isDig c=true)∧(ds.length≤1∨ds.head?≠some 48)∧valD ds<1099511627776
instance (ds:List UInt8):Decidable (okD ds):=by unfold okD;infer_instance
theorem Jt1e9(k:Nat):((k:Int)).tdiv 2=((k / 2:Nat):Int):=rfl
theorem Jt1e8(l:Int)(h0:-9223372036854775808≤l)(h1:l≤9223372036854775807):IntKind.i64.wrap (l.tdiv 2)=l.tdiv 2:=by
 rcases Int.le_total 0 l with h | h
 ·obtain ⟨k,rfl⟩:=Int.eq_ofNat_of_zero_le h
  rw [Jt1e9];exact wrap_i64 (by omega) (by omega)
 ·obtain ⟨k,hk⟩:=Int.eq_ofNat_of_zero_le (show 0≤-l by omega)
  have:l = -(k:Int):=by omega
  subst this
  rw [Int.neg_tdiv,Jt1e9];exact wrap_i64 (by omega) (by omega)
section
variable {P:Program} {p:Nums}
theorem Jtpy(A:All P p)(n:Int)(h0:-1000000000000000≤n)(h1:n≤1000000000000000):Jt51 P p.Yf1d [AI n] [] fun o _=>o=.ret (AI (2*n+1)):=by
 refine A.Yf1d.run rfl fun R hR=>?_
 have hw:IntKind.i64.wrap (2*n)=2*n:=wrap_i64 (by omega) (by omega)
 have hw2:IntKind.i64.wrap (2*n+1)=2*n+1:=wrap_i64 (by omega) (by omega)
 (simp (maxSteps:=9^6)[Jtir,hw,hw2])
 (first|exact hR _ _ FrA|exact hR _ _ FnA)
theorem Jtpu(A:All P p)(l:Int):Jt51 P p.Yf1l [AI l] [] fun o _=>o=.ret (AB (l.tmod 2==1)):=by
 refine A.Yf1l.run rfl fun R hR=>?_
 (simp (maxSteps:=9^6)[Jtip])
 (first|exact hR _ _ FrA|exact hR _ _ FnA)
theorem Jtps(A:All P p)(l:Int)(h0:-9223372036854775808≤l)(h1:l≤9223372036854775807):Jt51 P p.Yf1m [AI l] [] fun o _=>o=.ret (AI (l.tdiv 2)):=by
 refine A.Yf1m.run rfl fun R hR=>?_
 have hw:=Jt1e8 l h0 h1
 (simp (maxSteps:=9^6)[Jtio,hw])
 (first|exact hR _ _ FrA|exact hR _ _ FnA)
def rngZ(l r s:Int):Bool:=if l.tmod 2=1 then decide (0≤l)&&decide (l.tdiv 2<s) else decide (0≤l)&&decide (l.tdiv 2<r)
theorem Jtpq(A:All P p)(l r s:Int)(h0:-9223372036854775808≤l)(h1:l≤9223372036854775807):Jt51 P p.Yf26 [AI l,AI r,AI s] [] fun o _=>o=.ret (AB (rngZ l r s)):=by
 refine A.Yf26.run rfl fun R hR=>?_
 (simp (maxSteps:=9^6)[Jtin])
 (refine Jt17 (Jtpu A l) (by rfl) (by rfl) ?_)
 (simp (maxSteps:=9^6)[])
 by_cases hm:l.tmod 2=1<;>by_cases hl:0≤l
 ·(simp (maxSteps:=9^6)[hm,hl])
  (refine Jt17 (Jtps A l h0 h1) (by rfl) (by rfl) ?_)
  (simp (maxSteps:=9^6)[])
  (first|exact hR _ _ FrA|exact hR _ _ FnA|exact hR _ _ (Xf (hq:=by simp [AV.erase,AV.unview,rngZ,hm,hl];done)))
 ·(simp (maxSteps:=9^6)[hm,hl])
  (first|exact hR _ _ FrA|exact hR _ _ FnA|exact hR _ _ (Xf (hq:=by simp [AV.erase,AV.unview,rngZ,hm,hl];done)))
 ·(simp (maxSteps:=9^6)[hm,hl])
  (refine Jt17 (Jtps A l h0 h1) (by rfl) (by rfl) ?_)
  (simp (maxSteps:=9^6)[])
  (first|exact hR _ _ FrA|exact hR _ _ FnA|exact hR _ _ (Xf (hq:=by simp [AV.erase,AV.unview,rngZ,hm,hl];done)))
 ·(simp (maxSteps:=9^6)[hm,hl])
  (first|exact hR _ _ FrA|exact hR _ _ FnA|exact hR _ _ (Xf (hq:=by simp [AV.erase,AV.unview,rngZ,hm,hl];done)))
end
structure Mach where (op d a b imm dst src:Int)
 deriving DecidableEq,Inhabited
def Mach.row(m:Mach):List D:=[I m.op,I m.d,I m.a,I m.b,I m.imm,I m.dst,I m.src]
def Mach.av(m:Mach):AV:=.agg [AI m.op,AI m.d,AI m.a,AI m.b,AI m.imm,AI m.dst,AI m.src]
def regZ(n:Int):Int:=IntKind.i64.wrap (2*n)
def slotZ(n:Int):Int:=IntKind.i64.wrap (IntKind.i64.wrap (2*n)+1)
def mvM(dst src:Int):Mach:=⟨18,0,0,0,0,dst,src⟩
section
variable {P:Program} {p:Nums}
theorem Jtpw(A:All P p)(x:Int):Jt51 P p.Yf1f [AI x] [] fun o _=>o=.ret (AI (regZ x)):=by
 refine A.Yf1f.run rfl fun R hR=>?_
 (simp (maxSteps:=9^6)[Jtiq])
 (first|exact hR _ _ FrA|exact hR _ _ FnA)
theorem Jt14i(A:All P p)(x y:Int):Jt51 P p.Yf1e [AI x,AI y] [] fun o _=>o=.ret (mvM x y).av:=by
 refine A.Yf1e.run rfl fun R hR=>?_
 (simp (maxSteps:=9^6)[Jtk4])
 (first|exact hR _ _ FrA|exact hR _ _ FnA)
def knownZ(x:Int):Bool:=decide (1≤x∧x≤18)
theorem Jtv7(A:All P p)(x:Int):Jt51 P p.Yf12 [AI x] [] fun o _=>o=.ret (AB (knownZ x)):=by
 refine A.Yf12.run rfl fun R hR=>?_
 (simp (maxSteps:=9^6)[Jtj5])
 ((first|refine Xc ?_ ?_|refine Xo ?_ ?_)<;>intro hx<;>try simp only [Xz,Xy] at hx)
 ·(simp (maxSteps:=9^6)[hx])
  (first|exact hR _ _ FrA|exact hR _ _ FnA|exact hR _ _ (Xf (hq:=by simp [AV.erase,AV.unview,knownZ,hx];done)))
 ·(simp (maxSteps:=9^6)[hx])
  (first|exact hR _ _ FrA|exact hR _ _ FnA|exact hR _ _ (Xf (hq:=by simp [AV.erase,AV.unview,knownZ,hx];done)))
structure Shape where (D A B Imm:Bool)
def shapeZ(x:Int):Shape:=
 if knownZ x=false then ⟨false,false,false,false⟩ else if x=1 then ⟨true,false,false,true⟩ else if x≤4 then ⟨true,true,false,false⟩ else if x≤16 then ⟨true,true,true,false⟩ else ⟨false,x==17,false,false⟩
theorem Jtv3(A:All P p)(x:Int):Jt51 P p.Yfz [AI x] [] fun o _=>o=.ret (.tup [.agg [AB (shapeZ x).D,AB (shapeZ x).A,AB (shapeZ x).B,AB (shapeZ x).Imm],AB (knownZ x)]):=by
 refine A.Yfz.run rfl fun R hR=>?_
 (simp (maxSteps:=9^6)[Jtj3])
 (refine Jt17 (Jtv7 A _) (by rfl) (by rfl) ?_)
 (simp (maxSteps:=9^6)[])
 ((first|refine Xc ?_ ?_|refine Xo ?_ ?_)<;>intro h1<;>try simp only [Xz,Xy] at h1)
 ·(simp (maxSteps:=9^6)[h1])
  (first|exact hR _ _ FrA|exact hR _ _ FnA|exact hR _ _ (Xf (hq:=by simp [AV.erase,AV.unview,shapeZ,h1];done)))
 ·(simp (maxSteps:=9^6)[h1])
  ((first|refine Xc ?_ ?_|refine Xo ?_ ?_)<;>intro h2<;>try simp only [Xz,Xy] at h2)
  ·subst h2
   (simp (maxSteps:=9^6)[])
   (first|exact hR _ _ FrA|exact hR _ _ FnA|exact hR _ _ (Xf (hq:=by simp [AV.erase,AV.unview,shapeZ,h1];done)))
  ·(simp (maxSteps:=9^6)[h2])
   ((first|refine Xc ?_ ?_|refine Xo ?_ ?_)<;>intro h3<;>try simp only [Xz,Xy] at h3)
   ·(simp (maxSteps:=9^6)[h3])
    (first|exact hR _ _ FrA|exact hR _ _ FnA|exact hR _ _ (Xf (hq:=by simp [AV.erase,AV.unview,shapeZ,h1,h2,h3];done)))
   ·(simp (maxSteps:=9^6)[h3])
    ((first|refine Xc ?_ ?_|refine Xo ?_ ?_)<;>intro h4<;>try simp only [Xz,Xy] at h4)
    ·(simp (maxSteps:=9^6)[h4])
     (first|exact hR _ _ FrA|exact hR _ _ FnA|exact hR _ _ (Xf (hq:=by simp [AV.erase,AV.unview,shapeZ,h1,h2,h3,h4];done)))
    ·(simp (maxSteps:=9^6)[h4])
     (first|exact hR _ _ FrA|exact hR _ _ FnA|exact hR _ _ (Xf (hq:=by simp [AV.erase,AV.unview,shapeZ,h1,h2,h3,h4];done)))
def Jt1aj(x:Int):Bool:=knownZ x&&x != 18
theorem Jtv5(A:All P p)(x:Int):Jt51 P p.Yf1i [AI x] [] fun o _=>o=.ret (AB (Jt1aj x)):=by
 refine A.Yf1i.run rfl fun R hR=>?_
 (simp (maxSteps:=9^6)[Jtj4])
 (refine Jt17 (Jtv7 A _) (by rfl) (by rfl) ?_)
 (simp (maxSteps:=9^6)[])
 ((first|refine Xc ?_ ?_|refine Xo ?_ ?_)<;>intro h1<;>try simp only [Xz,Xy] at h1)
 ·(simp (maxSteps:=9^6)[h1])
  (first|exact hR _ _ FrA|exact hR _ _ FnA|exact hR _ _ (Xf (hq:=by simp [AV.erase,AV.unview,h1,Jt1aj];done)))
 ·(simp (maxSteps:=9^6)[h1])
  (first|exact hR _ _ FrA|exact hR _ _ FnA|exact hR _ _ (Xf (hq:=by simp [AV.erase,AV.unview,h1,Jt1aj];done)))
def inZ(x n:Int):Bool:=decide (0≤x∧x<n)
theorem Jt112(A:All P p)(x n:Int):Jt51 P p.Yfx [AI x,AI n] [] fun o _=>o=.ret (AB (inZ x n)):=by
 refine A.Yfx.run rfl fun R hR=>?_
 (simp (maxSteps:=9^6)[Jtjs])
 ((first|refine Xc ?_ ?_|refine Xo ?_ ?_)<;>intro h1<;>try simp only [Xz,Xy] at h1)
 ·(simp (maxSteps:=9^6)[h1])
  (first|exact hR _ _ FrA|exact hR _ _ FnA|exact hR _ _ (Xf (hq:=by simp [AV.erase,AV.unview,h1,inZ];done)))
 ·(simp (maxSteps:=9^6)[h1])
  (first|exact hR _ _ FrA|exact hR _ _ FnA|exact hR _ _ (Xf (hq:=by simp [AV.erase,AV.unview,h1,inZ];done)))
def usesA(x:Int):Bool:=decide (2≤x∧x≤17)
theorem Jtyd(A:All P p)(x:Int):Jt51 P p.Yfn [AI x] [] fun o _=>o=.ret (AB (usesA x)):=by
 refine A.Yfn.run rfl fun R hR=>?_
 (simp (maxSteps:=9^6)[Jtji])
 ((first|refine Xc ?_ ?_|refine Xo ?_ ?_)<;>intro hx<;>try simp only [Xz,Xy] at hx)
 ·(simp (maxSteps:=9^6)[hx])
  (first|exact hR _ _ FrA|exact hR _ _ FnA|exact hR _ _ (Xf (hq:=by simp [AV.erase,AV.unview,usesA,hx];done)))
 ·(simp (maxSteps:=9^6)[hx])
  (first|exact hR _ _ FrA|exact hR _ _ FnA|exact hR _ _ (Xf (hq:=by simp [AV.erase,AV.unview,usesA,hx];done)))
def usesB(x:Int):Bool:=decide (5≤x∧x≤16)
theorem Jtyf(A:All P p)(x:Int):Jt51 P p.Yfo [AI x] [] fun o _=>o=.ret (AB (usesB x)):=by
 refine A.Yfo.run rfl fun R hR=>?_
 (simp (maxSteps:=9^6)[Jtjj])
 ((first|refine Xc ?_ ?_|refine Xo ?_ ?_)<;>intro hx<;>try simp only [Xz,Xy] at hx)
 ·(simp (maxSteps:=9^6)[hx])
  (first|exact hR _ _ FrA|exact hR _ _ FnA|exact hR _ _ (Xf (hq:=by simp [AV.erase,AV.unview,usesB,hx];done)))
 ·(simp (maxSteps:=9^6)[hx])
  (first|exact hR _ _ FrA|exact hR _ _ FnA|exact hR _ _ (Xf (hq:=by simp [AV.erase,AV.unview,usesB,hx];done)))
def usesD(x:Int):Bool:=decide (1≤x∧x≤16)
theorem Jtyh(A:All P p)(x:Int):Jt51 P p.Yfp [AI x] [] fun o _=>o=.ret (AB (usesD x)):=by
 refine A.Yfp.run rfl fun R hR=>?_
 (simp (maxSteps:=9^6)[Jtjk])
 ((first|refine Xc ?_ ?_|refine Xo ?_ ?_)<;>intro hx<;>try simp only [Xz,Xy] at hx)
 ·(simp (maxSteps:=9^6)[hx])
  (first|exact hR _ _ FrA|exact hR _ _ FnA|exact hR _ _ (Xf (hq:=by simp [AV.erase,AV.unview,usesD,hx];done)))
 ·(simp (maxSteps:=9^6)[hx])
  (first|exact hR _ _ FrA|exact hR _ _ FnA|exact hR _ _ (Xf (hq:=by simp [AV.erase,AV.unview,usesD,hx];done)))
end
structure Field where (value:Int) (used:Bool) (bound:Int)
def Field.row(f:Field):List D:=[I f.value,.bool f.used,I f.bound]
def Field.bad(f:Field):Bool:=f.used&&(decide (f.value<0)||decide (f.bound≤f.value))
def Jt1l2(fs:List Field):Bool:=!fs.any Field.bad
section
variable {P:Program} {p:Nums}
theorem Jt1cr(A:All P p)(fs:List Field)(hl:fs.length<1000000):Jt51 P p.Yf1j [.d (.sl (fs.map Field.row))] [] fun o _=>o=.ret (AB (Jt1l2 fs)):=by
 refine A.Yf1j.run rfl fun R hR=>?_
 (simp (maxSteps:=9^6)[Jtko])
 refine Jtf (fun k:Nat=>⟨[(7,AI k),(6,AI fs.length),(5,.d (.sl (fs.map Field.row))),(2,AB false)],[]⟩) (fun k=>k≤fs.length∧(fs.take k).any Field.bad=false) (fun k=>fs.length-k) 0 (by simp) (by (exact wkA)) ?_
 rintro k ⟨hk,hno⟩ N hN
 (simp (maxSteps:=9^6)[])
 ((first|refine Xc ?_ ?_|refine Xo ?_ ?_)<;>intro h1<;>try simp only [Xz,Xy] at h1)
 ·have hkl:k<fs.length:=by simpa using h1
  have hf:fs[k]?=some fs[k]:=by simp [hkl]
  have hw:=Jt1le (k:=k) (by omega)
  have htk:fs.take (k+1)=fs.take k++[fs[k]]:=by rw [List.take_add_one,hf];rfl
  have hany:Jt1l2 fs=true→fs[k].bad=false:=by
   intro h;simp [Jt1l2] at h;exact h _ (List.getElem_mem hkl)
  have next:∀ env H,fs[k].bad=false→Wk 0 ⟨env,H⟩ ⟨[(7,AI ((k+1:Nat):Int)),(6,AI fs.length),(5,.d (.sl (fs.map Field.row))),(2,AB false)],[]⟩→N ⟨env,H⟩:=
   fun env H hb hw=>hN _ (k+1) ⟨hkl,by rw [htk,List.any_append,hno];simp [hb]⟩ hw (by omega)
  have stop:fs[k].bad=true→Jt1l2 fs=false:=by
   intro h;cases hz:Jt1l2 fs with
   | false=>rfl
   | true=>rw [hany hz] at h;cases h
  (simp (maxSteps:=9^6)[h1,hf,Field.row])
  ((first|refine Xc ?_ ?_|refine Xo ?_ ?_)<;>intro h2<;>try simp only [Xz,Xy] at h2)
  ·(simp (maxSteps:=9^6)[h2])
   ((first|refine Xc ?_ ?_|refine Xo ?_ ?_)<;>intro h3<;>try simp only [Xz,Xy] at h3)
   ·(simp (maxSteps:=9^6)[h2,h3])
    (first|exact hR _ _ FrA|exact hR _ _ FnA|exact hR _ _ (Xf (hq:=by simp [AV.erase,AV.unview,stop (by simp [Field.bad,h2,h3])];done)))
   ·(simp (maxSteps:=9^6)[h2,h3])
    ((first|refine Xc ?_ ?_|refine Xo ?_ ?_)<;>intro h4<;>try simp only [Xz,Xy] at h4)
    ·(simp (maxSteps:=9^6)[h2,h3,h4])
     (first|exact hR _ _ FrA|exact hR _ _ FnA|exact hR _ _ (Xf (hq:=by simp [AV.erase,AV.unview,stop (by simp [Field.bad,h2,h3,h4])];done)))
    ·(simp (maxSteps:=9^6)[h2,h3,h4,hw])
     exact next _ _ (by simp [Field.bad,h2,h3,h4]) (by (exact wkA))
  ·(simp (maxSteps:=9^6)[h2,hw])
   exact next _ _ (by simp [Field.bad,h2]) (by (exact wkA))
 ·(simp (maxSteps:=9^6)[h1])
  have hk':k=fs.length:=by simp at h1;omega
  subst hk'
  rw [List.take_length] at hno
  (first|exact hR _ _ FrA|exact hR _ _ FnA|exact hR _ _ (Xf (hq:=by simp [AV.erase,AV.unview,Jt1l2,hno];done)))
end
def Field.odd(f:Field):Bool:=!f.used&&f.value != 0
def blankZ(fs:List Field):Bool:=!fs.any Field.odd
structure Instr where (op d a b imm:Int)
 deriving DecidableEq,Inhabited
def Instr.row(i:Instr):List D:=[I i.op,I i.d,I i.a,I i.b,I i.imm]
def Instr.av(i:Instr):AV:=.agg [AI i.op,AI i.d,AI i.a,AI i.b,AI i.imm]
structure Term where (kind a to els:Int)
 deriving DecidableEq,Inhabited
def Term.row(i:Term):List D:=[I i.kind,I i.a,I i.to,I i.els]
def Term.av(i:Term):AV:=.agg [AI i.kind,AI i.a,AI i.to,AI i.els]
def flds(i:Instr)(regs:Int):List Field:=[⟨i.d,(shapeZ i.op).D,regs⟩,⟨i.a,(shapeZ i.op).A,regs⟩,⟨i.b,(shapeZ i.op).B,regs⟩]
def Jt1cz(i:Instr)(regs:Int):Int:=
 if Jt1aj i.op=false then 8 else if Jt1l2 (flds i regs)=false then 9 else if blankZ (flds i regs)=false then 12 else if (shapeZ i.op).Imm=false∧i.imm≠0 then 12 else 0
section
variable {P:Program} {p:Nums}
theorem Jt1cb(A:All P p)(fs:List Field)(hl:fs.length<1000000):Jt51 P p.Yf1k [.d (.sl (fs.map Field.row))] [] fun o _=>o=.ret (AB (blankZ fs)):=by
 refine A.Yf1k.run rfl fun R hR=>?_
 (simp (maxSteps:=9^6)[Jtkm])
 refine Jtf (fun k:Nat=>⟨[(7,AI k),(6,AI fs.length),(5,.d (.sl (fs.map Field.row))),(2,AB false)],[]⟩) (fun k=>k≤fs.length∧(fs.take k).any Field.odd=false) (fun k=>fs.length-k) 0 (by simp) (by (exact wkA)) ?_
 rintro k ⟨hk,hno⟩ N hN
 (simp (maxSteps:=9^6)[])
 ((first|refine Xc ?_ ?_|refine Xo ?_ ?_)<;>intro h1<;>try simp only [Xz,Xy] at h1)
 ·have hkl:k<fs.length:=by simpa using h1
  have hf:fs[k]?=some fs[k]:=by simp [hkl]
  have hw:=Jt1le (k:=k) (by omega)
  have htk:fs.take (k+1)=fs.take k++[fs[k]]:=by rw [List.take_add_one,hf];rfl
  have hany:blankZ fs=true→fs[k].odd=false:=by
   intro h;simp [blankZ] at h;exact h _ (List.getElem_mem hkl)
  have next:∀ env H,fs[k].odd=false→Wk 0 ⟨env,H⟩ ⟨[(7,AI ((k+1:Nat):Int)),(6,AI fs.length),(5,.d (.sl (fs.map Field.row))),(2,AB false)],[]⟩→N ⟨env,H⟩:=
   fun env H hb hw=>hN _ (k+1) ⟨hkl,by rw [htk,List.any_append,hno];simp [hb]⟩ hw (by omega)
  have stop:fs[k].odd=true→blankZ fs=false:=by
   intro h;cases hz:blankZ fs with
   | false=>rfl
   | true=>rw [hany hz] at h;cases h
  (simp (maxSteps:=9^6)[h1,hf,Field.row])
  ((first|refine Xc ?_ ?_|refine Xo ?_ ?_)<;>intro h2<;>try simp only [Xz,Xy] at h2)
  ·(simp (maxSteps:=9^6)[h2])
   ((first|refine Xc ?_ ?_|refine Xo ?_ ?_)<;>intro h3<;>try simp only [Xz,Xy] at h3)
   ·(simp (maxSteps:=9^6)[h2,h3])
    (first|exact hR _ _ FrA|exact hR _ _ FnA|exact hR _ _ (Xf (hq:=by simp [AV.erase,AV.unview,stop (by simp [Field.odd,h2,h3])];done)))
   ·(simp (maxSteps:=9^6)[h2,h3,hw])
    exact next _ _ (by simp [Field.odd,h2,h3]) (by (exact wkA))
  ·(simp (maxSteps:=9^6)[h2,hw])
   exact next _ _ (by simp [Field.odd,h2]) (by (exact wkA))
 ·(simp (maxSteps:=9^6)[h1])
  have hk':k=fs.length:=by simp at h1;omega
  subst hk'
  rw [List.take_length] at hno
  (first|exact hR _ _ FrA|exact hR _ _ FnA|exact hR _ _ (Xf (hq:=by simp [AV.erase,AV.unview,blankZ,hno];done)))
theorem Jt1bj(A:All P p)(i:Instr)(regs:Int):Jt51 P p.Yf1g [i.av,AI regs] [] fun o _=>o=.ret (AI (Jt1cz i regs)):=by
 have hflds:AV.d (.sl [[I i.d,.bool (shapeZ i.op).D,I regs],[I i.a,.bool (shapeZ i.op).A,I regs],[I i.b,.bool (shapeZ i.op).B,I regs]])=.d (.sl ((flds i regs).map Field.row)):=rfl
 refine A.Yf1g.run rfl fun R hR=>?_
 (simp (maxSteps:=9^6)[Jtkj,Instr.av])
 (refine Jt17 (Jtv3 A _) (by rfl) (by rfl) ?_)
 (simp (maxSteps:=9^6)[])
 (refine Jt17 (Jtv5 A _) (by rfl) (by rfl) ?_)
 (simp (maxSteps:=9^6)[])
 ((first|refine Xc ?_ ?_|refine Xo ?_ ?_)<;>intro h1<;>try simp only [Xz,Xy] at h1)
 ·(simp (maxSteps:=9^6)[h1])
  (first|exact hR _ _ FrA|exact hR _ _ FnA|exact hR _ _ (Xf (hq:=by simp [AV.erase,AV.unview,Jt1cz,h1];done)))
 ·(simp (maxSteps:=9^6)[h1])
  (refine Jt17 (Jt1cr A (flds i regs) (by simp [flds])) (by rfl) (by rfl) ?_)
  (simp (maxSteps:=9^6)[])
  ((first|refine Xc ?_ ?_|refine Xo ?_ ?_)<;>intro h2<;>try simp only [Xz,Xy] at h2)
  ·(simp (maxSteps:=9^6)[h2])
   (first|exact hR _ _ FrA|exact hR _ _ FnA|exact hR _ _ (Xf (hq:=by simp [AV.erase,AV.unview,Jt1cz,h1,h2];done)))
  ·(simp (maxSteps:=9^6)[h2])
   (refine Jt17 (Jt1cb A (flds i regs) (by simp [flds])) (by rfl) (by rfl) ?_)
   (simp (maxSteps:=9^6)[])
   ((first|refine Xc ?_ ?_|refine Xo ?_ ?_)<;>intro h3<;>try simp only [Xz,Xy] at h3)
   ·(simp (maxSteps:=9^6)[h3])
    (first|exact hR _ _ FrA|exact hR _ _ FnA|exact hR _ _ (Xf (hq:=by simp [AV.erase,AV.unview,Jt1cz,h1,h2,h3];done)))
   ·(simp (maxSteps:=9^6)[h3])
    ((first|refine Xc ?_ ?_|refine Xo ?_ ?_)<;>intro h4<;>try simp only [Xz,Xy] at h4)
    ·(simp (maxSteps:=9^6)[h4])
     ((first|refine Xc ?_ ?_|refine Xo ?_ ?_)<;>intro h5<;>try simp only [Xz,Xy] at h5)
     ·(simp (maxSteps:=9^6)[h5])
      (first|exact hR _ _ FrA|exact hR _ _ FnA|exact hR _ _ (Xf (hq:=by simp [AV.erase,AV.unview,Jt1cz,h1,h2,h3,h4,h5];done)))
     ·(simp (maxSteps:=9^6)[h5])
      (first|exact hR _ _ FrA|exact hR _ _ FnA|exact hR _ _ (Xf (hq:=by simp [AV.erase,AV.unview,Jt1cz,h1,h2,h3,h4,h5];done)))
    ·(simp (maxSteps:=9^6)[h4])
     (first|exact hR _ _ FrA|exact hR _ _ FnA|exact hR _ _ (Xf (hq:=by simp [AV.erase,AV.unview,Jt1cz,h1,h2,h3,h4];done)))
def fldsT(t:Term)(regs blocks:Int):List Field:=[⟨t.a,t.kind != 1,regs⟩,⟨t.to,t.kind != 3,blocks⟩,⟨t.els,t.kind==2,blocks⟩]
def Jt1d3(t:Term)(regs blocks:Int):Int:=
 if t.kind<1∨3<t.kind then 16 else if Jt1l2 ((fldsT t regs blocks).take 1)=false then 9 else if Jt1l2 ((fldsT t regs blocks).drop 1)=false then 11 else if blankZ (fldsT t regs blocks)=false then 12 else 0
theorem Jt1c4(A:All P p)(t:Term)(regs blocks:Int):Jt51 P p.Yf1h [t.av,AI regs,AI blocks] [] fun o _=>o=.ret (AI (Jt1d3 t regs blocks)):=by
 refine A.Yf1h.run rfl fun R hR=>?_
 (simp (maxSteps:=9^6)[Jtkl,Term.av])
 ((first|refine Xc ?_ ?_|refine Xo ?_ ?_)<;>intro h1<;>try simp only [Xz,Xy] at h1)
 ·(simp (maxSteps:=9^6)[h1])
  (first|exact hR _ _ FrA|exact hR _ _ FnA|exact hR _ _ (Xf (hq:=by simp [AV.erase,AV.unview,Jt1d3,h1];done)))
 ·(simp (maxSteps:=9^6)[h1])
  ((first|refine Xc ?_ ?_|refine Xo ?_ ?_)<;>intro h2<;>try simp only [Xz,Xy] at h2)
  ·(simp (maxSteps:=9^6)[h2])
   (first|exact hR _ _ FrA|exact hR _ _ FnA|exact hR _ _ (Xf (hq:=by simp [AV.erase,AV.unview,Jt1d3,h1,h2];done)))
  ·(simp (maxSteps:=9^6)[h2])
   (refine Jt17 (Jt1cr A ((fldsT t regs blocks).take 1) (by simp [fldsT])) (by rfl) (by rfl) ?_)
   (simp (maxSteps:=9^6)[])
   ((first|refine Xc ?_ ?_|refine Xo ?_ ?_)<;>intro h3<;>try simp only [Xz,Xy] at h3)
   ·(simp (maxSteps:=9^6)[h3])
    (first|exact hR _ _ FrA|exact hR _ _ FnA|exact hR _ _ (Xf (hq:=by simp [AV.erase,AV.unview,Jt1d3,h1,h2,h3];done)))
   ·(simp (maxSteps:=9^6)[h3])
    (refine Jt17 (Jt1cr A ((fldsT t regs blocks).drop 1) (by simp [fldsT])) (by rfl) (by rfl) ?_)
    (simp (maxSteps:=9^6)[])
    ((first|refine Xc ?_ ?_|refine Xo ?_ ?_)<;>intro h4<;>try simp only [Xz,Xy] at h4)
    ·(simp (maxSteps:=9^6)[h4])
     (first|exact hR _ _ FrA|exact hR _ _ FnA|exact hR _ _ (Xf (hq:=by simp [AV.erase,AV.unview,Jt1d3,h1,h2,h3,h4];done)))
    ·(simp (maxSteps:=9^6)[h4])
     (refine Jt17 (Jt1cb A (fldsT t regs blocks) (by simp [fldsT])) (by rfl) (by rfl) ?_)
     (simp (maxSteps:=9^6)[])
     ((first|refine Xc ?_ ?_|refine Xo ?_ ?_)<;>intro h5<;>try simp only [Xz,Xy] at h5)
     ·(simp (maxSteps:=9^6)[h5])
      (first|exact hR _ _ FrA|exact hR _ _ FnA|exact hR _ _ (Xf (hq:=by simp [AV.erase,AV.unview,Jt1d3,h1,h2,h3,h4,h5];done)))
     ·(simp (maxSteps:=9^6)[h5])
      (first|exact hR _ _ FrA|exact hR _ _ FnA|exact hR _ _ (Xf (hq:=by simp [AV.erase,AV.unview,Jt1d3,h1,h2,h3,h4,h5];done)))
end
structure Block where (code:List Instr) (term:Term)
 deriving Inhabited
def Block.row(b:Block):List D:=[.sl (b.code.map Instr.row),I b.term.kind,I b.term.a,I b.term.to,I b.term.els]
def Block.av(b:Block):AV:=.agg [.d (.sl (b.code.map Instr.row)),AI b.term.kind,AI b.term.a,AI b.term.to,AI b.term.els]
structure Func where (args regs:Int) (blocks:List Block)
def Func.av(f:Func):AV:=.agg [AI f.args,AI f.regs,.d (.sl (f.blocks.map Block.row))]
def codeN(bs:List Block):Nat:=(bs.map fun b=>b.code.length).sum
theorem Jtch{bs:List Block}{k:Nat}{b:Block}(h:bs[k]?=some b):codeN (bs.take (k+1))=codeN (bs.take k)+b.code.length:=by
 rw [codeN,List.take_add_one,h];simp [codeN]
theorem Jtce(a b:List Block):codeN (a++b)=codeN a+codeN b:=by simp [codeN]
theorem Jtcg(bs:List Block)(k:Nat):codeN (bs.take k)≤codeN bs:=by
 have h:=Jtce (bs.take k) (bs.drop k)
 rw [List.take_append_drop] at h;omega
def Jtfy:List Int→Int
 | []=>0
 | e::es=>if e≠0 then e else Jtfy es
theorem Jtg2{es:List Int}{k:Nat}(h:∀ e∈es.take k,e=0):Jtfy es=Jtfy (es.drop k):=by
 induction k generalizing es with
 | zero=>rfl
 | succ k ih=>
  cases es with
  | nil=>rfl
  | cons e es=>
   have:e=0:=h e (by simp)
   simp only [Jtfy,this,ne_eq,not_true_eq_false,if_false,List.drop_succ_cons]
   exact ih fun x hx=>h x (by simp [hx])
theorem Jtg1{es:List Int}{k:Nat}{e:Int}(h:∀ e∈es.take k,e=0)(hk:es[k]?=some e) (he:e≠0):Jtfy es=e:=by
 rw [Jtg2 h]
 have hlt:=(lgS.1 hk).1
 rw [List.drop_eq_getElem_cons hlt]
 have:es[k]=e:=(lgS.1 hk).2
 simp [Jtfy,this,he]
theorem Jtfz{es:List Int}(h:∀ e∈es,e=0):Jtfy es=0:=by
 rw [Jtg2 (k:=es.length) (by simpa using h)];simp [Jtfy]
def Jt1cx(b:Block)(regs blocks:Int):Int:=
 let e:=Jtfy (b.code.map (Jt1cz · regs))
 if e≠0 then e else Jt1d3 b.term regs blocks
theorem take_zero{α:Type}{f:α→Int}{l:List α}{k:Nat}{x:α}(h:∀ e∈(l.map f).take k,e=0) (hx:l[k]?=some x) (h0:f x=0):∀ e∈(l.map f).take (k+1),e=0:=by
 intro e he
 rw [List.take_add_one,List.mem_append] at he
 rcases he with he | he
 ·exact h e he
 ·rw [lgM,hx] at he;simp at he;rw [he];exact h0
section
variable {P:Program} {p:Nums}
theorem Jt1b7(A:All P p)(f:Func)(h0:f.blocks.length<1000000000)(h1:codeN f.blocks<1000000000):Jt51 P p.Yf1b [f.av] [] fun o _=>o=.ret (AI (codeN f.blocks)):=by
 refine A.Yf1b.run rfl fun R hR=>?_
 (simp (maxSteps:=9^6)[Jtki,Func.av])
 refine Jtf (fun k:Nat=>⟨[(9,AI k),(8,AI f.blocks.length),(7,.d (.sl (f.blocks.map Block.row))),(3,AI (codeN (f.blocks.take k)))],[]⟩) (fun k=>k≤f.blocks.length) (fun k=>f.blocks.length-k) 0 (by simp) (by (exact wkA)) ?_
 intro k hk N hN
 (simp (maxSteps:=9^6)[])
 ((first|refine Xc ?_ ?_|refine Xo ?_ ?_)<;>intro h2<;>try simp only [Xz,Xy] at h2)
 ·have hkl:k<f.blocks.length:=by simpa using h2
  have hb:f.blocks[k]?=some f.blocks[k]:=by simp [hkl]
  have hw:=Jt1le (k:=k) (by omega)
  have hs:=Jtch hb
  have hle:=Jtcg f.blocks (k+1)
  have hw2:=Jt1ld (a:=codeN (f.blocks.take k)) (b:=f.blocks[k].code.length) (by omega)
  rw [←hs] at hw2
  (simp (maxSteps:=9^6)[h2,lgM,hb,Block.row,hw,hw2])
  exact hN _ (k+1) hkl (by (exact wkA)) (by omega)
 ·have hk':k=f.blocks.length:=by simp at h2;omega
  subst hk'
  (simp (maxSteps:=9^6)[])
  (first|exact hR _ _ FrA|exact hR _ _ FnA|exact hR _ _ (Xf (hq:=by simp [AV.erase,AV.unview,List.take_length];done)))
theorem Jt1cj(A:All P p)(b:Block)(regs blocks:Int)(h0:b.code.length<1000000000):Jt51 P p.Yf1c [b.av,AI regs,AI blocks] [] fun o _=>o=.ret (AI (Jt1cx b regs blocks)):=by
 refine A.Yf1c.run rfl fun R hR=>?_
 (simp (maxSteps:=9^6)[Jtkn,Block.av])
 refine Jtf (fun k:Nat=>⟨[(13,AI k),(12,AI b.code.length),(11,.d (.sl (b.code.map Instr.row))),(3,.ptr 0 0),(1,AI regs),(2,AI blocks)],[.mem [.d (.sl (b.code.map Instr.row)),AI b.term.kind,AI b.term.a,AI b.term.to,AI b.term.els]]⟩)
  (fun k=>k≤b.code.length∧∀ e∈(b.code.map (Jt1cz · regs)).take k,e=0) (fun k=>b.code.length-k) 0 (by simp) (by (exact wkA)) ?_
 rintro k ⟨hk,hz⟩ N hN
 (simp (maxSteps:=9^6)[])
 ((first|refine Xc ?_ ?_|refine Xo ?_ ?_)<;>intro h2<;>try simp only [Xz,Xy] at h2)
 ·have hkl:k<b.code.length:=by simpa using h2
  have hb:b.code[k]?=some b.code[k]:=by simp [hkl]
  have hw:=Jt1le (k:=k) (by omega)
  (simp (maxSteps:=9^6)[h2,hb,Instr.row])
  (refine Jt17 (Jt1bj A b.code[k] regs) (by rfl) (by rfl) ?_)
  (simp (maxSteps:=9^6)[])
  ((first|refine Xc ?_ ?_|refine Xo ?_ ?_)<;>intro h3<;>try simp only [Xz,Xy] at h3)
  ·(simp (maxSteps:=9^6)[h3])
   have:Jtfy (b.code.map (Jt1cz · regs))=Jt1cz b.code[k] regs:=Jtg1 hz (by simp [hkl]) h3
   (first|exact hR _ _ FrA|exact hR _ _ FnA|exact hR _ _ (Xf (hq:=by simp [AV.erase,AV.unview,Jt1cx,this,h3];done)))
  ·(simp (maxSteps:=9^6)[h3,hw])
   exact hN _ (k+1) ⟨hkl,take_zero hz hb (by simpa using h3)⟩ (by (exact wkA)) (by omega)
 ·have hk':k=b.code.length:=by simp at h2;omega
  subst hk'
  have hfe:Jtfy (b.code.map (Jt1cz · regs))=0:=Jtfz (by rw [List.take_of_length_le (by simp)] at hz;exact hz)
  (simp (maxSteps:=9^6)[])
  (refine Jt17 (Jt1c4 A b.term regs blocks) (by rfl) (by rfl) ?_)
  (simp (maxSteps:=9^6)[])
  (first|exact hR _ _ FrA|exact hR _ _ FnA|exact hR _ _ (Xf (hq:=by simp [AV.erase,AV.unview,Jt1cx,hfe];done)))
def Jt1cy(f:Func):Int:=
 if f.args<0∨f.regs<f.args then 9 else if 1048576<f.regs then 6 else if f.blocks.length=0 then 14 else if 1048576<f.blocks.length∨1048576<codeN f.blocks then 6
 else Jtfy (f.blocks.map fun b=>Jt1cx b f.regs f.blocks.length)
theorem Jt1b2(A:All P p)(f:Func)(h0:f.blocks.length<1000000000)(h1:codeN f.blocks<1000000000):Jt51 P p.Yf15 [f.av] [] fun o _=>o=.ret (AI (Jt1cy f)):=by
 refine A.Yf15.run rfl fun R hR=>?_
 (simp (maxSteps:=9^6)[Jtkh,Func.av])
 ((first|refine Xc ?_ ?_|refine Xo ?_ ?_)<;>intro a1<;>try simp only [Xz,Xy] at a1)
 ·(simp (maxSteps:=9^6)[a1])
  have e:Jt1cy f=9:=by unfold Jt1cy;repeat (first | rw [if_pos (by omega)] | rw [if_neg (by omega)])
  (first|exact hR _ _ FrA|exact hR _ _ FnA|exact hR _ _ (Xf (hq:=by simp [AV.erase,AV.unview,e];done)))
 (simp (maxSteps:=9^6)[a1])
 ((first|refine Xc ?_ ?_|refine Xo ?_ ?_)<;>intro a2<;>try simp only [Xz,Xy] at a2)
 ·(simp (maxSteps:=9^6)[a2])
  have e:Jt1cy f=9:=by unfold Jt1cy;repeat (first | rw [if_pos (by omega)] | rw [if_neg (by omega)])
  (first|exact hR _ _ FrA|exact hR _ _ FnA|exact hR _ _ (Xf (hq:=by simp [AV.erase,AV.unview,e];done)))
 (simp (maxSteps:=9^6)[a2])
 ((first|refine Xc ?_ ?_|refine Xo ?_ ?_)<;>intro a3<;>try simp only [Xz,Xy] at a3)
 ·(simp (maxSteps:=9^6)[a3])
  have e:Jt1cy f=6:=by unfold Jt1cy;repeat (first | rw [if_pos (by omega)] | rw [if_neg (by omega)])
  (first|exact hR _ _ FrA|exact hR _ _ FnA|exact hR _ _ (Xf (hq:=by simp [AV.erase,AV.unview,e];done)))
 (simp (maxSteps:=9^6)[a3])
 ((first|refine Xc ?_ ?_|refine Xo ?_ ?_)<;>intro a4<;>try simp only [Xz,Xy] at a4)
 ·(simp (maxSteps:=9^6)[a4])
  have e:Jt1cy f=14:=by unfold Jt1cy;repeat (first | rw [if_pos (by omega)] | rw [if_neg (by omega)])
  (first|exact hR _ _ FrA|exact hR _ _ FnA|exact hR _ _ (Xf (hq:=by simp [AV.erase,AV.unview,e];done)))
 (simp (maxSteps:=9^6)[a4])
 ((first|refine Xc ?_ ?_|refine Xo ?_ ?_)<;>intro a5<;>try simp only [Xz,Xy] at a5)
 ·(simp (maxSteps:=9^6)[a5])
  have e:Jt1cy f=6:=by unfold Jt1cy;repeat (first | rw [if_pos (by omega)] | rw [if_neg (by omega)])
  (first|exact hR _ _ FrA|exact hR _ _ FnA|exact hR _ _ (Xf (hq:=by simp [AV.erase,AV.unview,e];done)))
 (simp (maxSteps:=9^6)[a5])
 (refine Jt17 (Jt1b7 A f h0 h1) (by rfl) (by rfl) ?_)
 (simp (maxSteps:=9^6)[])
 ((first|refine Xc ?_ ?_|refine Xo ?_ ?_)<;>intro a6<;>try simp only [Xz,Xy] at a6)
 ·(simp (maxSteps:=9^6)[a6])
  have e:Jt1cy f=6:=by unfold Jt1cy;repeat (first | rw [if_pos (by omega)] | rw [if_neg (by omega)])
  (first|exact hR _ _ FrA|exact hR _ _ FnA|exact hR _ _ (Xf (hq:=by simp [AV.erase,AV.unview,e];done)))
 (simp (maxSteps:=9^6)[a6])
 have e:Jt1cy f=Jtfy (f.blocks.map fun b=>Jt1cx b f.regs f.blocks.length):=by
  unfold Jt1cy;repeat (first | rw [if_pos (by omega)] | rw [if_neg (by omega)])
 refine Jtf (fun k:Nat=>⟨[(39,AI k),(38,AI f.blocks.length),(37,.d (.sl (f.blocks.map Block.row))),(1,.ptr 0 0)],[.mem [AI f.args,AI f.regs,.d (.sl (f.blocks.map Block.row))]]⟩)
  (fun k=>k≤f.blocks.length∧∀ e∈(f.blocks.map fun b=>Jt1cx b f.regs f.blocks.length).take k,e=0) (fun k=>f.blocks.length-k) 0 (by simp) (by (exact wkA)) ?_
 rintro k ⟨hk,hz⟩ N hN
 (simp (maxSteps:=9^6)[])
 ((first|refine Xc ?_ ?_|refine Xo ?_ ?_)<;>intro h2<;>try simp only [Xz,Xy] at h2)
 ·have hkl:k<f.blocks.length:=by simpa using h2
  have hb:f.blocks[k]?=some f.blocks[k]:=by simp [hkl]
  have hw:=Jt1le (k:=k) (by omega)
  have hbl:f.blocks[k].code.length<1000000000:=by
   have h3:=Jtch hb
   have h4:=Jtcg f.blocks (k+1)
   omega
  (simp (maxSteps:=9^6)[h2,hb,Block.row])
  (refine Jt17 (Jt1cj A f.blocks[k] f.regs f.blocks.length hbl) (by rfl) (by rfl) ?_)
  (simp (maxSteps:=9^6)[])
  ((first|refine Xc ?_ ?_|refine Xo ?_ ?_)<;>intro h3<;>try simp only [Xz,Xy] at h3)
  ·(simp (maxSteps:=9^6)[h3])
   have e2:Jtfy (f.blocks.map fun b=>Jt1cx b f.regs f.blocks.length)=Jt1cx f.blocks[k] f.regs f.blocks.length:=Jtg1 hz (by simp [hkl]) h3
   (first|exact hR _ _ FrA|exact hR _ _ FnA|exact hR _ _ (Xf (hq:=by simp [AV.erase,AV.unview,e,e2];done)))
  ·(simp (maxSteps:=9^6)[h3,hw])
   exact hN _ (k+1) ⟨hkl,take_zero hz hb (by simpa using h3)⟩ (by (exact wkA)) (by omega)
 ·have hk':k=f.blocks.length:=by simp at h2;omega
  subst hk'
  have hfe:Jtfy (f.blocks.map fun b=>Jt1cx b f.regs f.blocks.length)=0:=Jtfz (by rw [List.take_of_length_le (by simp)] at hz;exact hz)
  (simp (maxSteps:=9^6)[])
  (first|exact hR _ _ FrA|exact hR _ _ FnA|exact hR _ _ (Xf (hq:=by simp [AV.erase,AV.unview,e,hfe];done)))
end
def bad9(i:Instr)(regs:Int):Bool:=usesD i.op&&!inZ i.d regs||usesA i.op&&!inZ i.a regs||usesB i.op&&!inZ i.b regs
def bad12(i:Instr):Bool:=!usesD i.op&&i.d != 0||!usesA i.op&&i.a != 0||!usesB i.op&&i.b != 0||i.op != 1&&i.imm != 0
def Jt14t(i:Instr)(regs:Int):Int:=if i.op<1∨17<i.op then 8 else if bad9 i regs=true then 9 else if bad12 i=true then 12 else 0
def Jt14z(t:Term)(regs blocks:Int):Int:=
 if t.kind=1 then (if inZ t.to blocks=false then 11 else if t.a≠0∨t.els≠0 then 12 else 0)
 else if t.kind=2 then (if inZ t.a regs=false then 9 else if inZ t.to blocks=false∨inZ t.els blocks=false then 11 else 0)
 else if t.kind=3 then (if inZ t.a regs=false then 9 else if t.to≠0∨t.els≠0 then 12 else 0)
 else 16
section
variable {P:Program} {p:Nums}
theorem Jt110(A:All P p)(t:Term)(regs blocks:Int):Jt51 P p.Yfm [t.av,AI regs,AI blocks] [] fun o _=>o=.ret (AI (Jt14z t regs blocks)):=by
 refine A.Yfm.run rfl fun R hR=>?_
 (simp (maxSteps:=9^6)[Jtjr,Term.av])
 repeat' (first | ((refine Jt17 (Jt112 A _ _) (by rfl) (by rfl) ?_);(simp (maxSteps:=9^6)[])) | (((first|refine Xc ?_ ?_|refine Xo ?_ ?_)<;>intro hbr<;>try simp only [Xz,Xy] at hbr)<;>simp (maxSteps:=9^6)[hbr]) | ((first|refine hR _ _ (Jt57 _ rfl rfl ?_)|refine hR _ _ (Jt54 _ rfl rfl ?_));clear hR;(try simp_all [AV.erase,AV.unview,Jt14z])))
end
section
variable {P:Program} {p:Nums}
set_option maxHeartbeats 4000000 in
theorem Jtzv(A:All P p)(i:Instr)(regs:Int):Jt51 P p.Yfl [i.av,AI regs] [] fun o _=>o=.ret (AI (Jt14t i regs)):=by
 refine A.Yfl.run rfl fun R hR=>?_
 (simp (maxSteps:=9^6)[Jtjp,Instr.av])
 rw [Jtzx]
 refine Jtg ⟨[(12,AB (decide (i.op<1)||decide (17<i.op))),(2,.ptr 0 0),(4,AI 0),(1,AI regs)],[.mem [AI i.op,AI i.d,AI i.a,AI i.b,AI i.imm]]⟩ (fun N hN=>?_) ?_
 ·(simp (maxSteps:=9^6)[])
  ((first|refine Xc ?_ ?_|refine Xo ?_ ?_)<;>intro h<;>try simp only [Xz,Xy] at h)
  ·(simp (maxSteps:=9^6)[h])
   exact hN _ (by simp only [h];(exact wkA))
  ·(simp (maxSteps:=9^6)[h])
   exact hN _ (by simp only [h];(exact wkA))
 ((first|refine Xc ?_ ?_|refine Xo ?_ ?_)<;>intro h1<;>try simp only [Xz,Xy] at h1)
 ·(simp (maxSteps:=9^6)[h1])
  have e:Jt14t i regs=8:=by unfold Jt14t;rw [if_pos h1]
  (first|exact hR _ _ FrA|exact hR _ _ FnA|exact hR _ _ (Xf (hq:=by simp [AV.erase,AV.unview,e];done)))
 (simp (maxSteps:=9^6)[h1])
 rw [Jtzz]
 refine Jtg ⟨[(46,AB (bad9 i regs)),(2,.ptr 0 0),(4,AI 0),(1,AI regs)],[.mem [AI i.op,AI i.d,AI i.a,AI i.b,AI i.imm]]⟩ (fun N hN=>?_) ?_
 ·(simp (maxSteps:=9^6)[])
  cases uD:usesD i.op<;>cases uA:usesA i.op<;>cases uB:usesB i.op<;>cases nD:inZ i.d regs<;>cases nA:inZ i.a regs<;>cases nB:inZ i.b regs<;>
   (repeat' (first | ((refine Jt17 (Jt112 A _ _) (by rfl) (by rfl) ?_);(simp (maxSteps:=9^6)[nD,nA,nB])) | ((refine Jt17 (Jtyd A _) (by rfl) (by rfl) ?_);(simp (maxSteps:=9^6)[uA])) | ((refine Jt17 (Jtyf A _) (by rfl) (by rfl) ?_);(simp (maxSteps:=9^6)[uB])) | ((refine Jt17 (Jtyh A _) (by rfl) (by rfl) ?_);(simp (maxSteps:=9^6)[uD]))))<;>
   exact hN _ (by simp only [bad9,uD,uA,uB,nD,nA,nB];(exact wkA))
 ((first|refine Xc ?_ ?_|refine Xo ?_ ?_)<;>intro h2<;>try simp only [Xz,Xy] at h2)
 ·(simp (maxSteps:=9^6)[h2])
  have e:Jt14t i regs=9:=by unfold Jt14t;rw [if_neg (by simp at h1;omega),if_pos h2]
  (first|exact hR _ _ FrA|exact hR _ _ FnA|exact hR _ _ (Xf (hq:=by simp [AV.erase,AV.unview,e];done)))
 (simp (maxSteps:=9^6)[h2])
 rw [Jt101]
 refine Jtg ⟨[(87,AB (bad12 i)),(2,.ptr 0 0),(4,AI 0),(1,AI regs)],[.mem [AI i.op,AI i.d,AI i.a,AI i.b,AI i.imm]]⟩ (fun N hN=>?_) ?_
 ·clear hR h1 h2
  (simp (maxSteps:=9^6)[])
  cases uD:usesD i.op<;>cases uA:usesA i.op<;>cases uB:usesB i.op<;>
   (repeat' (first | ((refine Jt17 (Jtyd A _) (by rfl) (by rfl) ?_);(simp (maxSteps:=9^6)[uA])) | ((refine Jt17 (Jtyf A _) (by rfl) (by rfl) ?_);(simp (maxSteps:=9^6)[uB])) | ((refine Jt17 (Jtyh A _) (by rfl) (by rfl) ?_);(simp (maxSteps:=9^6)[uD])) | (((first|refine Xc ?_ ?_|refine Xo ?_ ?_)<;>intro hbr<;>try simp only [Xz,Xy] at hbr)<;>simp (maxSteps:=9^6)[hbr])))<;>
   (refine hN _ ?_;clear hN;cases hb:bad12 i)<;>(first | ((exact wkA);done) | (exfalso;simp_all [bad12];done) | (simp_all [bad12];(exact wkA);done) | (cases hi:(i.imm != 0)<;>first | ((exact wkA);done) | (simp only [*];(exact wkA);done) | (exfalso;simp_all [bad12];done)))
 ((first|refine Xc ?_ ?_|refine Xo ?_ ?_)<;>intro h3<;>try simp only [Xz,Xy] at h3)
 ·(simp (maxSteps:=9^6)[h3])
  have e:Jt14t i regs=12:=by unfold Jt14t;rw [if_neg (by simp at h1;omega),if_neg (by simpa using h2),if_pos h3]
  (first|exact hR _ _ FrA|exact hR _ _ FnA|exact hR _ _ (Xf (hq:=by simp [AV.erase,AV.unview,e];done)))
 (simp (maxSteps:=9^6)[h3])
 have e:Jt14t i regs=0:=by unfold Jt14t;rw [if_neg (by simp at h1;omega),if_neg (by simpa using h2),if_neg (by simpa using h3)]
 (first|exact hR _ _ FrA|exact hR _ _ FnA|exact hR _ _ (Xf (hq:=by simp [AV.erase,AV.unview,e];done)))
end
def few(f:Func):Bool:=decide (f.blocks.length≤40)&&decide (f.regs≤60)&&f.blocks.all (fun b=>decide (b.code.length≤100))&&decide (codeN f.blocks≤300)
def Jt14q(b:Block)(regs blocks:Int):Int:=
 let e:=Jtfy (b.code.map (Jt14t · regs))
 if e≠0 then e else Jt14z b.term regs blocks
def Jt14r(f:Func):Int:=
 if f.args<0∨f.regs<f.args then 9 else if 1048576<f.regs then 6 else if f.blocks.length=0 then 14 else if 1048576<f.blocks.length∨1048576<codeN f.blocks then 6
 else Jtfy (f.blocks.map fun b=>Jt14q b f.regs f.blocks.length)
theorem Jtcf{bs:List Block}(h:∀ b∈bs,b.code.length≤100):codeN bs≤100*bs.length:=by
 induction bs with
 | nil=>simp [codeN]
 | cons b bs ih=>
  have h1:=h b (by simp)
  have h2:=ih fun x hx=>h x (by simp [hx])
  simp only [codeN,List.map_cons,List.sum_cons,List.length_cons] at *
  omega
theorem Jtfs{f:Func}:few f=true↔f.blocks.length≤40∧f.regs≤60∧(∀ b∈f.blocks,b.code.length≤100)∧codeN f.blocks≤300:=by
 simp [few,and_assoc]
section
variable {P:Program} {p:Nums}
theorem Jtz8(A:All P p)(f:Func)(h0:f.blocks.length<1000000000)(h1:codeN f.blocks<1000000000):Jt51 P p.Yfk [f.av] [] fun o _=>o=.ret (AI (codeN f.blocks)):=by
 refine A.Yfk.run rfl fun R hR=>?_
 (simp (maxSteps:=9^6)[Jtjm,Func.av])
 refine Jtf (fun k:Nat=>⟨[(4,AI k),(1,.ptr 0 0),(3,AI (codeN (f.blocks.take k)))],[.mem [AI f.args,AI f.regs,.d (.sl (f.blocks.map Block.row))]]⟩) (fun k=>k≤f.blocks.length) (fun k=>f.blocks.length-k) 0 (by simp) (by (exact wkA)) ?_
 intro k hk N hN
 (simp (maxSteps:=9^6)[])
 ((first|refine Xc ?_ ?_|refine Xo ?_ ?_)<;>intro h2<;>try simp only [Xz,Xy] at h2)
 ·have hkl:k<f.blocks.length:=by simpa using h2
  have hb:f.blocks[k]?=some f.blocks[k]:=by simp [hkl]
  have hw:=Jt1le (k:=k) (by omega)
  have hs:=Jtch hb
  have hle:=Jtcg f.blocks (k+1)
  have hw2:=Jt1ld (a:=codeN (f.blocks.take k)) (b:=f.blocks[k].code.length) (by omega)
  rw [←hs] at hw2
  (simp (maxSteps:=9^6)[h2,lgM,hb,Block.row,hw,hw2])
  exact hN _ (k+1) hkl (by (exact wkA)) (by omega)
 ·have hk':k=f.blocks.length:=by simp at h2;omega
  subst hk'
  (simp (maxSteps:=9^6)[])
  (first|exact hR _ _ FrA|exact hR _ _ FnA|exact hR _ _ (Xf (hq:=by simp [AV.erase,AV.unview,List.take_length];done)))
theorem Jtzo(A:All P p)(f:Func):Jt51 P p.Yf9 [f.av] [] fun o _=>o=.ret (AB (few f)):=by
 refine A.Yf9.run rfl fun R hR=>?_
 (simp (maxSteps:=9^6)[Jtjo,Func.av])
 ((first|refine Xc ?_ ?_|refine Xo ?_ ?_)<;>intro a1<;>try simp only [Xz,Xy] at a1)
 ·(simp (maxSteps:=9^6)[a1])
  have e:few f=false:=by simp [few];omega
  (first|exact hR _ _ FrA|exact hR _ _ FnA|exact hR _ _ (Xf (hq:=by simp [AV.erase,AV.unview,e];done)))
 (simp (maxSteps:=9^6)[a1])
 ((first|refine Xc ?_ ?_|refine Xo ?_ ?_)<;>intro a2<;>try simp only [Xz,Xy] at a2)
 ·(simp (maxSteps:=9^6)[a2])
  have e:few f=false:=by simp [few];omega
  (first|exact hR _ _ FrA|exact hR _ _ FnA|exact hR _ _ (Xf (hq:=by simp [AV.erase,AV.unview,e];done)))
 (simp (maxSteps:=9^6)[a2])
 refine Jtf (fun k:Nat=>⟨[(3,AI k),(1,.ptr 0 0)],[.mem [AI f.args,AI f.regs,.d (.sl (f.blocks.map Block.row))]]⟩)
  (fun k=>k≤f.blocks.length∧∀ b∈f.blocks.take k,b.code.length≤100) (fun k=>f.blocks.length-k) 0 (by simp) (by (exact wkA)) ?_
 rintro k ⟨hk,hz⟩ N hN
 (simp (maxSteps:=9^6)[])
 ((first|refine Xc ?_ ?_|refine Xo ?_ ?_)<;>intro h2<;>try simp only [Xz,Xy] at h2)
 ·have hkl:k<f.blocks.length:=by simpa using h2
  have hb:f.blocks[k]?=some f.blocks[k]:=by simp [hkl]
  have hw:=Jt1le (k:=k) (by omega)
  (simp (maxSteps:=9^6)[h2,hb,Block.row])
  ((first|refine Xc ?_ ?_|refine Xo ?_ ?_)<;>intro h3<;>try simp only [Xz,Xy] at h3)
  ·(simp (maxSteps:=9^6)[h3])
   have e:few f=false:=by
    have:¬ (∀ b∈f.blocks,b.code.length≤100):=fun h=>by have:=h f.blocks[k] (by simp);omega
    simp [few];intro _ _ h;exact absurd h this
   (first|exact hR _ _ FrA|exact hR _ _ FnA|exact hR _ _ (Xf (hq:=by simp [AV.erase,AV.unview,e];done)))
  ·(simp (maxSteps:=9^6)[h3,hw])
   refine hN _ (k+1) ⟨hkl,?_⟩ (by (exact wkA)) (by omega)
   intro b hb'
   rw [List.take_add_one,hb,List.mem_append] at hb'
   rcases hb' with hb' | hb'
   ·exact hz b hb'
   ·simp at hb';subst hb';omega
 ·have hk':k=f.blocks.length:=by simp at h2;omega
  subst hk'
  (simp (maxSteps:=9^6)[])
  have hcb:codeN f.blocks≤100*f.blocks.length:=Jtcf (by rw [List.take_length] at hz;exact hz)
  (refine Jt17 (Jtz8 A f (by omega) (by omega)) (by rfl) (by rfl) ?_)
  (simp (maxSteps:=9^6)[])
  have e:few f=decide ((codeN f.blocks:Int)≤300):=by
   rw [List.take_length] at hz
   have e1:f.blocks.all (fun b=>decide (b.code.length≤100))=true:=by simpa using hz
   have e2:decide (f.blocks.length≤40)=true:=by simp;omega
   have e3:decide (f.regs≤60)=true:=by simp;omega
   simp only [few,e1,e2,e3,Bool.true_and]
   congr 1;simp;omega
  (first|exact hR _ _ FrA|exact hR _ _ FnA|exact hR _ _ (Xf (hq:=by simp [AV.erase,AV.unview,e];done)))
theorem Jtz3(A:All P p)(f:Func)(h0:f.blocks.length<1000000000)(h1:codeN f.blocks<1000000000):Jt51 P p.Yfa [f.av] [] fun o _=>o=.ret (AI (Jt14r f)):=by
 refine A.Yfa.run rfl fun R hR=>?_
 (simp (maxSteps:=9^6)[Jtjl,Func.av])
 ((first|refine Xc ?_ ?_|refine Xo ?_ ?_)<;>intro a1<;>try simp only [Xz,Xy] at a1)
 ·(simp (maxSteps:=9^6)[a1])
  have e:Jt14r f=9:=by unfold Jt14r;repeat (first | rw [if_pos (by omega)] | rw [if_neg (by omega)])
  (first|exact hR _ _ FrA|exact hR _ _ FnA|exact hR _ _ (Xf (hq:=by simp [AV.erase,AV.unview,e];done)))
 (simp (maxSteps:=9^6)[a1])
 ((first|refine Xc ?_ ?_|refine Xo ?_ ?_)<;>intro a2<;>try simp only [Xz,Xy] at a2)
 ·(simp (maxSteps:=9^6)[a2])
  have e:Jt14r f=9:=by unfold Jt14r;repeat (first | rw [if_pos (by omega)] | rw [if_neg (by omega)])
  (first|exact hR _ _ FrA|exact hR _ _ FnA|exact hR _ _ (Xf (hq:=by simp [AV.erase,AV.unview,e];done)))
 (simp (maxSteps:=9^6)[a2])
 ((first|refine Xc ?_ ?_|refine Xo ?_ ?_)<;>intro a3<;>try simp only [Xz,Xy] at a3)
 ·(simp (maxSteps:=9^6)[a3])
  have e:Jt14r f=6:=by unfold Jt14r;repeat (first | rw [if_pos (by omega)] | rw [if_neg (by omega)])
  (first|exact hR _ _ FrA|exact hR _ _ FnA|exact hR _ _ (Xf (hq:=by simp [AV.erase,AV.unview,e];done)))
 (simp (maxSteps:=9^6)[a3])
 ((first|refine Xc ?_ ?_|refine Xo ?_ ?_)<;>intro a4<;>try simp only [Xz,Xy] at a4)
 ·(simp (maxSteps:=9^6)[a4])
  have e:Jt14r f=14:=by unfold Jt14r;repeat (first | rw [if_pos (by omega)] | rw [if_neg (by omega)])
  (first|exact hR _ _ FrA|exact hR _ _ FnA|exact hR _ _ (Xf (hq:=by simp [AV.erase,AV.unview,e];done)))
 (simp (maxSteps:=9^6)[a4])
 ((first|refine Xc ?_ ?_|refine Xo ?_ ?_)<;>intro a5<;>try simp only [Xz,Xy] at a5)
 ·(simp (maxSteps:=9^6)[a5])
  have e:Jt14r f=6:=by unfold Jt14r;repeat (first | rw [if_pos (by omega)] | rw [if_neg (by omega)])
  (first|exact hR _ _ FrA|exact hR _ _ FnA|exact hR _ _ (Xf (hq:=by simp [AV.erase,AV.unview,e];done)))
 (simp (maxSteps:=9^6)[a5])
 (refine Jt17 (Jtz8 A f h0 h1) (by rfl) (by rfl) ?_)
 (simp (maxSteps:=9^6)[])
 ((first|refine Xc ?_ ?_|refine Xo ?_ ?_)<;>intro a6<;>try simp only [Xz,Xy] at a6)
 ·(simp (maxSteps:=9^6)[a6])
  have e:Jt14r f=6:=by unfold Jt14r;repeat (first | rw [if_pos (by omega)] | rw [if_neg (by omega)])
  (first|exact hR _ _ FrA|exact hR _ _ FnA|exact hR _ _ (Xf (hq:=by simp [AV.erase,AV.unview,e];done)))
 (simp (maxSteps:=9^6)[a6])
 have e:Jt14r f=Jtfy (f.blocks.map fun b=>Jt14q b f.regs f.blocks.length):=by
  unfold Jt14r;repeat (first | rw [if_pos (by omega)] | rw [if_neg (by omega)])
 refine Jtf (fun k:Nat=>⟨[(3,AI k),(2,AI 0),(1,.ptr 0 0)],[.mem [AI f.args,AI f.regs,.d (.sl (f.blocks.map Block.row))]]⟩)
  (fun k=>k≤f.blocks.length∧∀ e∈(f.blocks.map fun b=>Jt14q b f.regs f.blocks.length).take k,e=0) (fun k=>f.blocks.length-k) 0 (by simp) (by (exact wkA)) ?_
 rintro k ⟨hk,hz⟩ N hN
 (simp (maxSteps:=9^6)[])
 ((first|refine Xc ?_ ?_|refine Xo ?_ ?_)<;>intro h2<;>try simp only [Xz,Xy] at h2)
 ·have hkl:k<f.blocks.length:=by simpa using h2
  have hb:f.blocks[k]?=some f.blocks[k]:=by simp [hkl]
  have hw:=Jt1le (k:=k) (by omega)
  have hbl:f.blocks[k].code.length<1000000000:=by
   have h3:=Jtch hb
   have h4:=Jtcg f.blocks (k+1)
   omega
  (simp (maxSteps:=9^6)[h2,hb,Block.row])
  refine Jtf (fun j:Nat=>⟨[(5,AI j),(4,.ptr 1 0),(3,AI k),(2,AI 0),(1,.ptr 0 0)],[.mem [AI f.args,AI f.regs,.d (.sl (f.blocks.map Block.row))],.mem [.d (.sl (f.blocks[k].code.map Instr.row)),AI f.blocks[k].term.kind,AI f.blocks[k].term.a,AI f.blocks[k].term.to,AI f.blocks[k].term.els]]⟩)
   (fun j=>j≤f.blocks[k].code.length∧∀ e∈(f.blocks[k].code.map (Jt14t · f.regs)).take j,e=0) (fun j=>f.blocks[k].code.length-j) 0 (by simp) (by (exact wkA)) ?_
  rintro j ⟨hj,hy⟩ N' hN'
  (simp (maxSteps:=9^6)[])
  ((first|refine Xc ?_ ?_|refine Xo ?_ ?_)<;>intro h3<;>try simp only [Xz,Xy] at h3)
  ·have hjl:j<f.blocks[k].code.length:=by simpa using h3
   have hbj:f.blocks[k].code[j]?=some f.blocks[k].code[j]:=by simp [hjl]
   have hwj:=Jt1le (k:=j) (by omega)
   (simp (maxSteps:=9^6)[h3,hbj,Instr.row])
   (refine Jt17 (Jtzv A f.blocks[k].code[j] f.regs) (by rfl) (by rfl) ?_)
   (simp (maxSteps:=9^6)[])
   ((first|refine Xc ?_ ?_|refine Xo ?_ ?_)<;>intro h4<;>try simp only [Xz,Xy] at h4)
   ·(simp (maxSteps:=9^6)[h4])
    have e2:Jtfy (f.blocks[k].code.map (Jt14t · f.regs))=Jt14t f.blocks[k].code[j] f.regs:=Jtg1 hy (by simp [hjl]) h4
    have e3:Jt14q f.blocks[k] f.regs f.blocks.length=Jt14t f.blocks[k].code[j] f.regs:=by simp [Jt14q,e2,h4]
    have e4:Jtfy (f.blocks.map fun b=>Jt14q b f.regs f.blocks.length)=Jt14q f.blocks[k] f.regs f.blocks.length:=Jtg1 hz (by simp [hkl]) (by rw [e3];exact h4)
    (first|exact hR _ _ FrA|exact hR _ _ FnA|exact hR _ _ (Xf (hq:=by simp [AV.erase,AV.unview,e,e4,e3];done)))
   ·(simp (maxSteps:=9^6)[h4,hwj])
    exact hN' _ (j+1) ⟨hjl,take_zero hy hbj (by simpa using h4)⟩ (by (exact wkA)) (by omega)
  ·have hj':j=f.blocks[k].code.length:=by simp at h3;omega
   subst hj'
   have hfe:Jtfy (f.blocks[k].code.map (Jt14t · f.regs))=0:=Jtfz (by rw [List.take_of_length_le (by simp)] at hy;exact hy)
   have e3:Jt14q f.blocks[k] f.regs f.blocks.length=Jt14z f.blocks[k].term f.regs f.blocks.length:=by simp [Jt14q,hfe]
   (simp (maxSteps:=9^6)[])
   (refine Jt17 (Jt110 A f.blocks[k].term f.regs f.blocks.length) (by rfl) (by rfl) ?_)
   (simp (maxSteps:=9^6)[])
   ((first|refine Xc ?_ ?_|refine Xo ?_ ?_)<;>intro h5<;>try simp only [Xz,Xy] at h5)
   ·(simp (maxSteps:=9^6)[h5])
    have e4:Jtfy (f.blocks.map fun b=>Jt14q b f.regs f.blocks.length)=Jt14q f.blocks[k] f.regs f.blocks.length:=Jtg1 hz (by simp [hkl]) (by rw [e3];exact h5)
    (first|exact hR _ _ FrA|exact hR _ _ FnA|exact hR _ _ (Xf (hq:=by simp [AV.erase,AV.unview,e,e4,e3];done)))
   ·(simp (maxSteps:=9^6)[h5,hw])
    exact hN _ (k+1) ⟨hkl,take_zero hz hb (by rw [e3];simpa using h5)⟩ (by (exact wkA)) (by omega)
 ·have hk':k=f.blocks.length:=by simp at h2;omega
  subst hk'
  have hfe:Jtfy (f.blocks.map fun b=>Jt14q b f.regs f.blocks.length)=0:=Jtfz (by rw [List.take_of_length_le (by simp)] at hz;exact hz)
  (simp (maxSteps:=9^6)[])
  (first|exact hR _ _ FrA|exact hR _ _ FnA|exact hR _ _ (Xf (hq:=by simp [AV.erase,AV.unview,e,hfe];done)))
end
structure MBlock where (code:List Mach) (term:Term)
 deriving Inhabited
def MBlock.row(b:MBlock):List D:=[.sl (b.code.map Mach.row),I b.term.kind,I b.term.a,I b.term.to,I b.term.els]
def MBlock.av(b:MBlock):AV:=.agg [.d (.sl (b.code.map Mach.row)),AI b.term.kind,AI b.term.a,AI b.term.to,AI b.term.els]
structure MFunc where (args regs slots:Int) (blocks:List MBlock)
def MFunc.av(f:MFunc):AV:=.agg [AI f.args,AI f.regs,AI f.slots,.d (.sl (f.blocks.map MBlock.row))]
def witD (w:List (List Pair)):D:=.sl (w.map fun l=>[pairsD l])
structure Cert where (S:Func) (T:MFunc) (W:List (List Pair))
def Cert.av(c:Cert):AV:=.agg [AI c.S.args,AI c.S.regs,.d (.sl (c.S.blocks.map Block.row)),AI c.T.args,AI c.T.regs,AI c.T.slots,.d (.sl (c.T.blocks.map MBlock.row)),.d (witD c.W)]
section
variable {P:Program} {p:Nums}
theorem Jt10h(A:All P p)(f:Func)(h0:f.blocks.length<1000000000)(h1:∀ b∈f.blocks,b.code.length<1000000000):Jt51 P p.Yf14 [f.av,f.av] [] fun o _=>o=.ret (AB true):=by
 refine A.Yf14.run rfl fun R hR=>?_
 (simp (maxSteps:=9^6)[Jtjq,Func.av])
 refine Jtf (fun k:Nat=>⟨[(5,AI k),(4,AB false),(3,.ptr 1 0),(2,.ptr 0 0)],[.mem [AI f.args,AI f.regs,.d (.sl (f.blocks.map Block.row))],.mem [AI f.args,AI f.regs,.d (.sl (f.blocks.map Block.row))]]⟩) (fun k=>k≤f.blocks.length) (fun k=>f.blocks.length-k) 0 (by simp) (by (exact wkA)) ?_
 intro k hk N hN
 (simp (maxSteps:=9^6)[])
 ((first|refine Xc ?_ ?_|refine Xo ?_ ?_)<;>intro h2<;>try simp only [Xz,Xy] at h2)
 ·have hkl:k<f.blocks.length:=by simpa using h2
  have hb:f.blocks[k]?=some f.blocks[k]:=by simp [hkl]
  have hbl:=h1 f.blocks[k] (by simp)
  have hw:=Jt1le (k:=k) (by omega)
  (simp (maxSteps:=9^6)[h2,hb,Block.row])
  refine Jtf (fun j:Nat=>⟨[(6,AI j),(5,AI k),(4,AB false),(3,.ptr 1 0),(2,.ptr 0 0)],[.mem [AI f.args,AI f.regs,.d (.sl (f.blocks.map Block.row))],.mem [AI f.args,AI f.regs,.d (.sl (f.blocks.map Block.row))]]⟩) (fun j=>j≤f.blocks[k].code.length) (fun j=>f.blocks[k].code.length-j) 0 (by simp) (by (exact wkA)) ?_
  intro j hj N' hN'
  (simp (maxSteps:=9^6)[hb,Block.row])
  ((first|refine Xc ?_ ?_|refine Xo ?_ ?_)<;>intro h3<;>try simp only [Xz,Xy] at h3)
  ·have hjl:j<f.blocks[k].code.length:=by simpa using h3
   have hbj:f.blocks[k].code[j]?=some f.blocks[k].code[j]:=by simp [hjl]
   have hwj:=Jt1le (k:=j) (by omega)
   (simp (maxSteps:=9^6)[h3,hb,Block.row,hbj,Instr.row,hwj])
   exact hN' _ (j+1) hjl (by (exact wkA)) (by omega)
  ·(simp (maxSteps:=9^6)[h3,hw])
   exact hN _ (k+1) hkl (by (exact wkA)) (by omega)
 ·(simp (maxSteps:=9^6)[h2])
  (first|exact hR _ _ FrA|exact hR _ _ FnA)
theorem Jt127(A:All P p)(f:MFunc)(h0:f.blocks.length<1000000000)(h1:∀ b∈f.blocks,b.code.length<1000000000):Jt51 P p.Yf1a [f.av,f.av] [] fun o _=>o=.ret (AB true):=by
 refine A.Yf1a.run rfl fun R hR=>?_
 (simp (maxSteps:=9^6)[Jtjw,MFunc.av])
 refine Jtf (fun k:Nat=>⟨[(5,AI k),(4,AB false),(3,.ptr 1 0),(2,.ptr 0 0)],[.mem [AI f.args,AI f.regs,AI f.slots,.d (.sl (f.blocks.map MBlock.row))],.mem [AI f.args,AI f.regs,AI f.slots,.d (.sl (f.blocks.map MBlock.row))]]⟩) (fun k=>k≤f.blocks.length) (fun k=>f.blocks.length-k) 0 (by simp) (by (exact wkA)) ?_
 intro k hk N hN
 (simp (maxSteps:=9^6)[])
 ((first|refine Xc ?_ ?_|refine Xo ?_ ?_)<;>intro h2<;>try simp only [Xz,Xy] at h2)
 ·have hkl:k<f.blocks.length:=by simpa using h2
  have hb:f.blocks[k]?=some f.blocks[k]:=by simp [hkl]
  have hbl:=h1 f.blocks[k] (by simp)
  have hw:=Jt1le (k:=k) (by omega)
  (simp (maxSteps:=9^6)[h2,hb,MBlock.row])
  refine Jtf (fun j:Nat=>⟨[(6,AI j),(5,AI k),(4,AB false),(3,.ptr 1 0),(2,.ptr 0 0)],[.mem [AI f.args,AI f.regs,AI f.slots,.d (.sl (f.blocks.map MBlock.row))],.mem [AI f.args,AI f.regs,AI f.slots,.d (.sl (f.blocks.map MBlock.row))]]⟩) (fun j=>j≤f.blocks[k].code.length) (fun j=>f.blocks[k].code.length-j) 0 (by simp) (by (exact wkA)) ?_
  intro j hj N' hN'
  (simp (maxSteps:=9^6)[hb,MBlock.row])
  ((first|refine Xc ?_ ?_|refine Xo ?_ ?_)<;>intro h3<;>try simp only [Xz,Xy] at h3)
  ·have hjl:j<f.blocks[k].code.length:=by simpa using h3
   have hbj:f.blocks[k].code[j]?=some f.blocks[k].code[j]:=by simp [hjl]
   have hwj:=Jt1le (k:=j) (by omega)
   (simp (maxSteps:=9^6)[h3,hb,MBlock.row,hbj,Mach.row,hwj])
   exact hN' _ (j+1) hjl (by (exact wkA)) (by omega)
  ·(simp (maxSteps:=9^6)[h3,hw])
   exact hN _ (k+1) hkl (by (exact wkA)) (by omega)
 ·(simp (maxSteps:=9^6)[h2])
  (first|exact hR _ _ FrA|exact hR _ _ FnA)
end
def opM(i:Instr)(b:Int):Mach:=⟨i.op,0,0,b,i.imm,0,0⟩
def Jt1cs(i:Instr):List Mach:=
  (if (shapeZ i.op).A=true then [mvM (regZ 0) (slotZ i.a)] else [])++
  ((if (i.op != 2)=true then (if (shapeZ i.op).B=true then [mvM (regZ 1) (slotZ i.b),opM i 1] else [opM i 0]) else [])++
   (if (shapeZ i.op).D=true then [mvM (slotZ i.d) (regZ 0)] else []))
def spCode(l:List Instr):List Mach:=l.flatMap Jt1cs
section
variable {P:Program} {p:Nums}
end
end Go.AE
