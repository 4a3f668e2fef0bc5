/- A part of the proof: the evaluator over abstract values, its codes, the contracts of the functions. -/
import Derived.Test.YtagckbahjfhckaaGreatE3
import Derived.Sort.Grow
import Derived.Deep.Draws
import Derived.Shelf.SlSortCmp.NoneTotal
import Derived.Lib.ItoaNum
set_option linter.unusedVariables false
set_option linter.unusedSimpArgs false
set_option maxRecDepth 100000
namespace Go.AE
def Jqbv (p : Nums) : IC := (.region (Jqc5 p) [])
@[simp] theorem Jebv {p : Nums} : EqI (Jqbv p) (.region (Jqc5 p) []) := eqi
@[simp] def Jqc6 (p : Nums) : List IOp := [qo 10 (.mov (.t 0)), qo 11 (.bin .eql (.t 10) (ci 1)), qo 9 (.asg (.t 11))]
def Jqbw (p : Nums) : IC := (.region (Jqc6 p) [])
@[simp] theorem Jebw {p : Nums} : EqI (Jqbw p) (.region (Jqc6 p) []) := eqi
@[simp] def Jqc7 (p : Nums) : List IOp := [qo 12 (.build [(.d (.bool false)), (.d (.bool false)), (.d (.bool false)), (.d (.bool false))] [(0, 1, (.c (.d (.bool true)))), (3, 1, (.c (.d (.bool true))))]), qn (.store 4 (.t 2) (.t 12)), qo 3 (.asg (.c (.d (.bool true))))]
def Jqbx (p : Nums) : IC := (.region (Jqc7 p) [])
@[simp] theorem Jebx {p : Nums} : EqI (Jqbx p) (.region (Jqc7 p) []) := eqi
@[simp] def Jqc8 (p : Nums) : List IOp := [qo 14 (.mov (.t 0)), qo 15 (.bin .leq (.t 14) (ci 4)), qo 13 (.asg (.t 15))]
def Jqby (p : Nums) : IC := (.region (Jqc8 p) [])
@[simp] theorem Jeby {p : Nums} : EqI (Jqby p) (.region (Jqc8 p) []) := eqi
@[simp] def Jqc9 (p : Nums) : List IOp := [qo 16 (.build [(.d (.bool false)), (.d (.bool false)), (.d (.bool false)), (.d (.bool false))] [(0, 1, (.c (.d (.bool true)))), (1, 1, (.c (.d (.bool true))))]), qn (.store 4 (.t 2) (.t 16)), qo 3 (.asg (.c (.d (.bool true))))]
def Jqbz (p : Nums) : IC := (.region (Jqc9 p) [])
@[simp] theorem Jebz {p : Nums} : EqI (Jqbz p) (.region (Jqc9 p) []) := eqi
@[simp] def Jqca (p : Nums) : List IOp := [qo 18 (.mov (.t 0)), qo 19 (.bin .leq (.t 18) (ci 16)), qo 17 (.asg (.t 19))]
def Jqc0 (p : Nums) : IC := (.region (Jqca p) [])
@[simp] theorem Jec0 {p : Nums} : EqI (Jqc0 p) (.region (Jqca p) []) := eqi
@[simp] def Jqcb (p : Nums) : List IOp := [qo 20 (.build [(.d (.bool false)), (.d (.bool false)), (.d (.bool false)), (.d (.bool false))] [(0, 1, (.c (.d (.bool true)))), (1, 1, (.c (.d (.bool true)))), (2, 1, (.c (.d (.bool true))))]), qn (.store 4 (.t 2) (.t 20)), qo 3 (.asg (.c (.d (.bool true))))]
def Jqc1 (p : Nums) : IC := (.region (Jqcb p) [])
@[simp] theorem Jec1 {p : Nums} : EqI (Jqc1 p) (.region (Jqcb p) []) := eqi
def Jqbp (p : Nums) : IC := (.seq (Jqc0 p) (.cond (.t 17) (.seq (Jqc1 p) .ret) .skip))
@[simp] theorem Jebp {p : Nums} : EqI (Jqbp p) (.seq (Jqc0 p) (.cond (.t 17) (.seq (Jqc1 p) .ret) .skip)) := eqi
def Jqbq (p : Nums) : IC := (.seq (Jqby p) (.cond (.t 13) (.seq (Jqbz p) .ret) (Jqbp p)))
@[simp] theorem Jebq {p : Nums} : EqI (Jqbq p) (.seq (Jqby p) (.cond (.t 13) (.seq (Jqbz p) .ret) (Jqbp p))) := eqi
def Jqbr (p : Nums) : IC := (.seq (Jqbw p) (.cond (.t 9) (.seq (Jqbx p) .ret) (Jqbq p)))
@[simp] theorem Jebr {p : Nums} : EqI (Jqbr p) (.seq (Jqbw p) (.cond (.t 9) (.seq (Jqbx p) .ret) (Jqbq p))) := eqi
def Jqbs (p : Nums) : IC := (.seq (Jqbu p) (.cond (.t 4) (.seq (Jqbv p) .ret) (Jqbr p)))
@[simp] theorem Jebs {p : Nums} : EqI (Jqbs p) (.seq (Jqbu p) (.cond (.t 4) (.seq (Jqbv p) .ret) (Jqbr p))) := eqi
@[simp] def Jqc3 (p : Nums) : List IOp := [qo 21 (.mov (.t 0)), qo 22 (.bin .eql (.t 21) (ci 17)), qo 23 (.build [(.d (.bool false)), (.d (.bool false)), (.d (.bool false)), (.d (.bool false))] [(1, 1, (.t 22))]), qn (.store 4 (.t 2) (.t 23)), qo 3 (.asg (.c (.d (.bool true))))]
def Jqbt (p : Nums) : IC := (.region (Jqc3 p) [])
@[simp] theorem Jebt {p : Nums} : EqI (Jqbt p) (.region (Jqc3 p) []) := eqi
def Jtb6 (p : Nums) : IC := (.seq (Jqbo p) (.seq (.block 0 (Jqbs p)) (.seq (Jqbt p) .ret)))
@[simp] def Jq95 (p : Nums) : List IOp := [qo 3 (.mov (.t 0)), qo 4 (.bin .mul (ci 2) (.t 3)), qo 2 (.asg (.t 4))]
def Jq94 (p : Nums) : IC := (.region (Jq95 p) [])
@[simp] theorem Je94 {p : Nums} : EqI (Jq94 p) (.region (Jq95 p) []) := eqi
def Jtat (p : Nums) : IC := (.seq (.region [⟨(some 2), (.asg (.c (.d (.int .i64 0)))), none, false⟩] []) (.seq (Jq94 p) .ret))
@[simp] def Jqcd (p : Nums) : List IOp := [qo 3 (.mov (.t 0)), qo 4 (.call p.opcode_known [(.t 3)]), qo 5 (.mov (.t 4)), ⟨(some 6), (.mov (.t 0)), (some (5, true)), false⟩, ⟨(some 7), (.bin .neq (.t 6) (ci 18)), (some (5, true)), false⟩, qo 8 (.pick (.t 5) (.t 7) (.c (.d (.bool false)))), qo 2 (.asg (.t 8))]
def Jqcc (p : Nums) : IC := (.region (Jqcd p) [])
@[simp] theorem Jecc {p : Nums} : EqI (Jqcc p) (.region (Jqcd p) []) := eqi
def Jtb7 (p : Nums) : IC := (.seq (.region [⟨(some 2), (.asg (.c (.d (.bool false)))), none, false⟩] []) (.seq (Jqcc p) .ret))
@[simp] def Jqx2 (p : Nums) : List IOp := [qo 5 (.mov (.t 0)), qo 6 (.len (.t 5)), qo 7 (.mov (ci 0))]
def Jqww (p : Nums) : IC := (.region (Jqx2 p) [])
@[simp] theorem Jeww {p : Nums} : EqI (Jqww p) (.region (Jqx2 p) []) := eqi
@[simp] def Jqx3 (p : Nums) : List IOp := [qo 9 (.iaddr 3 (.t 5) (.t 7)), qo 10 (.load (some 3) (.t 9)), qo 4 (.alloc [(zi 0), (.d (.bool false)), (zi 0)]), qn (.store 3 (.t 4) (.t 10))]
def Jqwx (p : Nums) : IC := (.region (Jqx3 p) [])
@[simp] theorem Jewx {p : Nums} : EqI (Jqwx p) (.region (Jqx3 p) []) := eqi
@[simp] def Jqx4 (p : Nums) : List IOp := [qo 11 (.faddr 1 (.t 4)), qo 12 (.load none (.t 11)), qo 13 (.mov (.t 12)), ⟨(some 14), (.faddr 0 (.t 4)), (some (13, true)), false⟩, ⟨(some 15), (.load none (.t 14)), (some (13, true)), false⟩, ⟨(some 16), (.bin .lss (.t 15) (ci 0)), (some (13, true)), false⟩, ⟨(some 17), (.mov (.t 16)), (some (13, true)), false⟩, ⟨(some 18), (.faddr 0 (.t 4)), (some (17, false)), false⟩, ⟨(some 19), (.load none (.t 18)), (some (17, false)), false⟩, ⟨(some 20), (.faddr 2 (.t 4)), (some (17, false)), false⟩, ⟨(some 21), (.load none (.t 20)), (some (17, false)), false⟩, ⟨(some 22), (.bin .geq (.t 19) (.t 21)), (some (17, false)), false⟩, ⟨(some 23), (.pick (.t 17) (.c (.d (.bool true))) (.t 22)), (some (13, true)), false⟩, qo 24 (.pick (.t 13) (.t 23) (.c (.d (.bool false))))]
def Jqwy (p : Nums) : IC := (.region (Jqx4 p) [])
@[simp] theorem Jewy {p : Nums} : EqI (Jqwy p) (.region (Jqx4 p) []) := eqi
def Jqwz (p : Nums) : IC := (.seq (.region [⟨(some 2), (.asg (.c (.d (.bool false)))), none, false⟩] []) .ret)
@[simp] theorem Jewz {p : Nums} : EqI (Jqwz p) (.seq (.region [⟨(some 2), (.asg (.c (.d (.bool false)))), none, false⟩] []) .ret) := eqi
def Jqx0 (p : Nums) : IC := (.seq (Jqwx p) (.seq (Jqwy p) (.cond (.t 24) (Jqwz p) .skip)))
@[simp] theorem Jex0 {p : Nums} : EqI (Jqx0 p) (.seq (Jqwx p) (.seq (Jqwy p) (.cond (.t 24) (Jqwz p) .skip))) := eqi
def Jqx1 (p : Nums) : IC := (.seq (.region [⟨(some 8), (.bin .lss (.t 7) (.t 6)), none, false⟩] []) (.seq (.cond (.t 8) .skip (.exit 0)) (.seq (.block 1 (Jqx0 p)) (.region [⟨(some 25), (.bin .add (.t 7) (.c (.d (.int .i64 1)))), none, false⟩, ⟨(some 7), (.mov (.t 25)), none, false⟩] []))))
@[simp] theorem Jex1 {p : Nums} : EqI (Jqx1 p) (.seq (.region [⟨(some 8), (.bin .lss (.t 7) (.t 6)), none, false⟩] []) (.seq (.cond (.t 8) .skip (.exit 0)) (.seq (.block 1 (Jqx0 p)) (.region [⟨(some 25), (.bin .add (.t 7) (.c (.d (.int .i64 1)))), none, false⟩, ⟨(some 7), (.mov (.t 25)), none, false⟩] [])))) := eqi
def Jtcu (p : Nums) : IC := (.seq (.region [⟨(some 2), (.asg (.c (.d (.bool false)))), none, false⟩] []) (.seq (.seq (Jqww p) (.block 0 (.loop (Jqx1 p)))) (.seq (.region [⟨(some 2), (.asg (.c (.d (.bool true)))), none, false⟩] []) .ret)))
@[simp] def Jqwi (p : Nums) : List IOp := [qo 5 (.mov (.t 0)), qo 6 (.len (.t 5)), qo 7 (.mov (ci 0))]
def Jqwc (p : Nums) : IC := (.region (Jqwi p) [])
@[simp] theorem Jewc {p : Nums} : EqI (Jqwc p) (.region (Jqwi p) []) := eqi
@[simp] def Jqwj (p : Nums) : List IOp := [qo 9 (.iaddr 3 (.t 5) (.t 7)), qo 10 (.load (some 3) (.t 9)), qo 4 (.alloc [(zi 0), (.d (.bool false)), (zi 0)]), qn (.store 3 (.t 4) (.t 10))]
def Jqwd (p : Nums) : IC := (.region (Jqwj p) [])
@[simp] theorem Jewd {p : Nums} : EqI (Jqwd p) (.region (Jqwj p) []) := eqi
@[simp] def Jqwk (p : Nums) : List IOp := [qo 11 (.faddr 1 (.t 4)), qo 12 (.load none (.t 11)), qo 13 (.un .not (.t 12)), qo 14 (.mov (.t 13)), ⟨(some 15), (.faddr 0 (.t 4)), (some (14, true)), false⟩, ⟨(some 16), (.load none (.t 15)), (some (14, true)), false⟩, ⟨(some 17), (.bin .neq (.t 16) (ci 0)), (some (14, true)), false⟩, qo 18 (.pick (.t 14) (.t 17) (.c (.d (.bool false))))]
def Jqwe (p : Nums) : IC := (.region (Jqwk p) [])
@[simp] theorem Jewe {p : Nums} : EqI (Jqwe p) (.region (Jqwk p) []) := eqi
def Jqwf (p : Nums) : IC := (.seq (.region [⟨(some 2), (.asg (.c (.d (.bool false)))), none, false⟩] []) .ret)
@[simp] theorem Jewf {p : Nums} : EqI (Jqwf p) (.seq (.region [⟨(some 2), (.asg (.c (.d (.bool false)))), none, false⟩] []) .ret) := eqi
def Jqwg (p : Nums) : IC := (.seq (Jqwd p) (.seq (Jqwe p) (.cond (.t 18) (Jqwf p) .skip)))
@[simp] theorem Jewg {p : Nums} : EqI (Jqwg p) (.seq (Jqwd p) (.seq (Jqwe p) (.cond (.t 18) (Jqwf p) .skip))) := eqi
def Jqwh (p : Nums) : IC := (.seq (.region [⟨(some 8), (.bin .lss (.t 7) (.t 6)), none, false⟩] []) (.seq (.cond (.t 8) .skip (.exit 0)) (.seq (.block 1 (Jqwg p)) (.region [⟨(some 19), (.bin .add (.t 7) (.c (.d (.int .i64 1)))), none, false⟩, ⟨(some 7), (.mov (.t 19)), none, false⟩] []))))
@[simp] theorem Jewh {p : Nums} : EqI (Jqwh p) (.seq (.region [⟨(some 8), (.bin .lss (.t 7) (.t 6)), none, false⟩] []) (.seq (.cond (.t 8) .skip (.exit 0)) (.seq (.block 1 (Jqwg p)) (.region [⟨(some 19), (.bin .add (.t 7) (.c (.d (.int .i64 1)))), none, false⟩, ⟨(some 7), (.mov (.t 19)), none, false⟩] [])))) := eqi
def Jtcs (p : Nums) : IC := (.seq (.region [⟨(some 2), (.asg (.c (.d (.bool false)))), none, false⟩] []) (.seq (.seq (Jqwc p) (.block 0 (.loop (Jqwh p)))) (.seq (.region [⟨(some 2), (.asg (.c (.d (.bool true)))), none, false⟩] []) .ret)))
@[simp] def Jqbn (p : Nums) : List IOp := [qo 3 (.mov (.t 0)), qo 4 (.call p.opcode_known [(.t 3)]), qo 5 (.mov (.t 4)), ⟨(some 6), (.mov (.t 0)), (some (5, true)), false⟩, ⟨(some 7), (.bin .neq (.t 6) (ci 2)), (some (5, true)), false⟩, qo 8 (.pick (.t 5) (.t 7) (.c (.d (.bool false)))), qo 2 (.asg (.t 8))]
def Jqbm (p : Nums) : IC := (.region (Jqbn p) [])
@[simp] theorem Jebm {p : Nums} : EqI (Jqbm p) (.region (Jqbn p) []) := eqi
def Jtb5 (p : Nums) : IC := (.seq (.region [⟨(some 2), (.asg (.c (.d (.bool false)))), none, false⟩] []) (.seq (Jqbm p) .ret))
@[simp] def Jqbl (p : Nums) : List IOp := [qo 1 (.build [.nilfn, .nilfn] [(0, 1, (.c (.fn (.func p.machine_others_1) [] []))), (1, 1, (.c (.fn (.func p.machine_others_2) [] [])))]), qn (.store 2 (.t 0) (.t 1))]
def Jqbk (p : Nums) : IC := (.region (Jqbl p) [])
@[simp] theorem Jebk {p : Nums} : EqI (Jqbk p) (.region (Jqbl p) []) := eqi
def Jtb2 (p : Nums) : IC := (.seq (.region [⟨(some 0), (.alloc [.nilfn, .nilfn]), none, false⟩] []) (.seq (Jqbk p) .ret))
@[simp] def Jqbf (p : Nums) : List IOp := [qo 1 (.build [.nilfn, .nilfn] [(0, 1, (.c (.fn (.func p.machine_moves_1) [] []))), (1, 1, (.c (.fn (.func p.machine_moves_2) [] [])))]), qn (.store 2 (.t 0) (.t 1))]
def Jqbe (p : Nums) : IC := (.region (Jqbf p) [])
@[simp] theorem Jebe {p : Nums} : EqI (Jqbe p) (.region (Jqbf p) []) := eqi
def Jtaz (p : Nums) : IC := (.seq (.region [⟨(some 0), (.alloc [.nilfn, .nilfn]), none, false⟩] []) (.seq (Jqbe p) .ret))
@[simp] def Jq93 (p : Nums) : List IOp := [qo 3 (.mov (.t 0)), qo 4 (.bin .rem (.t 3) (ci 2)), qo 5 (.bin .eql (.t 4) (ci 1)), qo 2 (.asg (.t 5))]
def Jq92 (p : Nums) : IC := (.region (Jq93 p) [])
@[simp] theorem Je92 {p : Nums} : EqI (Jq92 p) (.region (Jq93 p) []) := eqi
def Jtas (p : Nums) : IC := (.seq (.region [⟨(some 2), (.asg (.c (.d (.bool false)))), none, false⟩] []) (.seq (Jq92 p) .ret))
@[simp] def Jq91 (p : Nums) : List IOp := [qo 3 (.mov (.t 0)), qo 4 (.bin .quo (.t 3) (ci 2)), qo 2 (.asg (.t 4))]
def Jq90 (p : Nums) : IC := (.region (Jq91 p) [])
@[simp] theorem Je90 {p : Nums} : EqI (Jq90 p) (.region (Jq91 p) []) := eqi
def Jtar (p : Nums) : IC := (.seq (.region [⟨(some 2), (.asg (.c (.d (.int .i64 0)))), none, false⟩] []) (.seq (Jq90 p) .ret))
@[simp] def Jq22 (p : Nums) : List IOp := [qp 2 (.mov (.t 0)), qp 3 (.nilck (.t 2)), qp 4 (.faddr 2 (.t 3)), qp 5 (.load none (.t 4)), qp 6 (.mov (.t 0)), qp 7 (.nilck (.t 6)), qp 8 (.faddr 0 (.t 7)), qp 9 (.load none (.t 8)), qp 10 (.len (.t 9)), qp 11 (.bin .add (ci 1) (.t 10)), qo 12 (.bin .add (.t 5) (.t 11)), qo 13 (.nilck (.t 2)), qo 14 (.faddr 2 (.t 13)), qn (.store 1 (.t 14) (.t 12))]
def Jq21 (p : Nums) : IC := (.region (Jq22 p) [])
@[simp] theorem Je21 {p : Nums} : EqI (Jq21 p) (.region (Jq22 p) []) := eqi
def Jta7 (p : Nums) : IC := (Jq21 p)
@[simp] def Jq1y (p : Nums) : List IOp := [qo 6 (.mov (.t 0)), qo 7 (.mov (.t 0)), qo 8 (.mov (.t 1)), qo 9 (.mov (.t 0)), qo 10 (.nilck (.t 9)), qo 11 (.faddr 3 (.t 10)), qo 12 (.load none (.t 11)), qo 13 (.mov (.t 1)), qo 14 (.len (.t 13)), qo 15 (.mx (.t 12) (.t 14)), qo 16 (.nilck (.t 6)), qo 17 (.faddr 0 (.t 16)), qn (.store 1 (.t 17) (.t 8)), qo 18 (.nilck (.t 7)), qo 19 (.faddr 3 (.t 18)), qn (.store 1 (.t 19) (.t 15))]
def Jq1v (p : Nums) : IC := (.region (Jq1y p) [])
@[simp] theorem Je1v {p : Nums} : EqI (Jq1v p) (.region (Jq1y p) []) := eqi
@[simp] def Jq1z (p : Nums) : List IOp := [qo 20 (.mov (.t 1)), qo 21 (.len (.t 20)), qo 22 (.mov (.t 0)), qo 23 (.nilck (.t 22)), qo 24 (.faddr 1 (.t 23)), qo 25 (.load none (.t 24)), qo 26 (.bin .gtr (.t 21) (.t 25))]
def Jq1w (p : Nums) : IC := (.region (Jq1z p) [])
@[simp] theorem Je1w {p : Nums} : EqI (Jq1w p) (.region (Jq1z p) []) := eqi
@[simp] def Jq20 (p : Nums) : List IOp := [qo 27 (.mov (.t 2)), qo 28 (.build [(zi 0), (zi 0)] [(0, 1, (ci 24)), (1, 1, (.t 27))]), qo 29 (.mkif p.ty_bcfail (.t 28)), qn (.pan (.t 29))]
def Jq1x (p : Nums) : IC := (.region (Jq20 p) [])
@[simp] theorem Je1x {p : Nums} : EqI (Jq1x p) (.region (Jq20 p) []) := eqi
def Jta6 (p : Nums) : IC := (.seq (Jq1v p) (.seq (Jq1w p) (.cond (.t 26) (Jq1x p) .skip)))
@[simp] def Jqx8 (p : Nums) : List IOp := [qo 7 (.load none (.t 4)), qo 8 (.load none (.t 5)), qo 9 (.bin .eql (.t 7) (.t 8))]
def Jqx5 (p : Nums) : IC := (.region (Jqx8 p) [])
@[simp] theorem Jex5 {p : Nums} : EqI (Jqx5 p) (.region (Jqx8 p) []) := eqi
@[simp] def Jqx9 (p : Nums) : List IOp := [qo 10 (.mov (.t 0)), qo 11 (.call p.pairset_Make [(.t 10)]), qo 6 (.asg (.t 11))]
def Jqx6 (p : Nums) : IC := (.region (Jqx9 p) [])
@[simp] theorem Jex6 {p : Nums} : EqI (Jqx6 p) (.region (Jqx9 p) []) := eqi
@[simp] def Jqxa (p : Nums) : List IOp := [qo 12 (.mov (.t 0)), qo 13 (.load none (.t 4)), qo 14 (.call p.pairset_DropV [(.t 12), (.t 13)]), qo 15 (.mov (.t 0)), qo 16 (.mkfn (.func p.transfer_Copy_1) [] [(.t 4), (.t 5)]), qo 17 (.call p.transfer_rename [(.t 14), (.t 15), (.t 16)]), qo 6 (.asg (.t 17))]
def Jqx7 (p : Nums) : IC := (.region (Jqxa p) [])
@[simp] theorem Jex7 {p : Nums} : EqI (Jqx7 p) (.region (Jqxa p) []) := eqi
def Jtcv (p : Nums) : IC := (.seq (.region [⟨(some 4), (.box (.t 1)), none, false⟩, ⟨(some 5), (.box (.t 2)), none, false⟩, ⟨(some 6), (.asg (.c .nils)), none, false⟩] []) (.seq (.seq (Jqx5 p) (.cond (.t 9) (.seq (Jqx6 p) .ret) .skip)) (.seq (Jqx7 p) .ret)))
@[simp] def Jqxi (p : Nums) : List IOp := [qo 7 (.load none (.t 4)), qo 8 (.load none (.t 5)), qo 9 (.bin .eql (.t 7) (.t 8))]
def Jqxf (p : Nums) : IC := (.region (Jqxi p) [])
@[simp] theorem Jexf {p : Nums} : EqI (Jqxf p) (.region (Jqxi p) []) := eqi
@[simp] def Jqxj (p : Nums) : List IOp := [qo 10 (.mov (.t 0)), qo 11 (.call p.pairset_Make [(.t 10)]), qo 6 (.asg (.t 11))]
def Jqxg (p : Nums) : IC := (.region (Jqxj p) [])
@[simp] theorem Jexg {p : Nums} : EqI (Jqxg p) (.region (Jqxj p) []) := eqi
@[simp] def Jqxk (p : Nums) : List IOp := [qo 12 (.mov (.t 0)), qo 13 (.load none (.t 4)), qo 14 (.call p.pairset_DropL [(.t 12), (.t 13)]), qo 15 (.mov (.t 0)), qo 16 (.mkfn (.func p.transfer_Move_1) [] [(.t 4), (.t 5)]), qo 17 (.call p.transfer_rename [(.t 14), (.t 15), (.t 16)]), qo 6 (.asg (.t 17))]
def Jqxh (p : Nums) : IC := (.region (Jqxk p) [])
@[simp] theorem Jexh {p : Nums} : EqI (Jqxh p) (.region (Jqxk p) []) := eqi
def Jtcx (p : Nums) : IC := (.seq (.region [⟨(some 4), (.box (.t 1)), none, false⟩, ⟨(some 5), (.box (.t 2)), none, false⟩, ⟨(some 6), (.asg (.c .nils)), none, false⟩] []) (.seq (.seq (Jqxf p) (.cond (.t 9) (.seq (Jqxg p) .ret) .skip)) (.seq (Jqxh p) .ret)))
@[simp] def Jq28 (p : Nums) : List IOp := [qo 11 (.faddr 0 (.t 5)), qo 12 (.load none (.t 11)), qo 13 (.call p.opcode_Of [(.t 12)]), qo 10 (.mov (.t 13)), qo 14 (.ext (.t 10) 0), qo 15 (.ext (.t 10) 1), qo 8 (.alloc [(.d (.bool false)), (.d (.bool false)), (.d (.bool false)), (.d (.bool false))]), qn (.store 4 (.t 8) (.t 14)), qo 9 (.asg (.t 15))]
def Jq23 (p : Nums) : IC := (.region (Jq28 p) [])
@[simp] theorem Je23 {p : Nums} : EqI (Jq23 p) (.region (Jq28 p) []) := eqi
@[simp] def Jq29 (p : Nums) : List IOp := [qo 18 (.mov (.t 0)), qo 19 (.faddr 2 (.t 5)), qo 20 (.load none (.t 19)), qo 21 (.faddr 2 (.t 6)), qo 22 (.load none (.t 21)), qo 23 (.mov (.t 3)), qo 24 (.call p.blockcheck_checker_use [(.t 18), (.t 20), (.t 22), (.t 23)])]
def Jq24 (p : Nums) : IC := (.region (Jq29 p) [])
@[simp] theorem Je24 {p : Nums} : EqI (Jq24 p) (.region (Jq29 p) []) := eqi
@[simp] def Jq2a (p : Nums) : List IOp := [qo 27 (.mov (.t 0)), qo 28 (.faddr 3 (.t 5)), qo 29 (.load none (.t 28)), qo 30 (.faddr 3 (.t 6)), qo 31 (.load none (.t 30)), qo 32 (.mov (.t 3)), qo 33 (.call p.blockcheck_checker_use [(.t 27), (.t 29), (.t 31), (.t 32)])]
def Jq25 (p : Nums) : IC := (.region (Jq2a p) [])
@[simp] theorem Je25 {p : Nums} : EqI (Jq25 p) (.region (Jq2a p) []) := eqi
@[simp] def Jq2b (p : Nums) : List IOp := [qp 38 (.mov (.t 0)), qp 39 (.mov (.t 0)), qp 40 (.nilck (.t 39)), qp 41 (.faddr 0 (.t 40)), qp 42 (.load none (.t 41)), qp 43 (.faddr 1 (.t 5)), qp 44 (.load none (.t 43)), qp 45 (.faddr 1 (.t 6)), qp 46 (.load none (.t 45)), qp 47 (.call p.location_Reg [(.t 46)]), qp 48 (.call p.transfer_Define [(.t 42), (.t 44), (.t 47)]), qp 49 (.mov (.t 3)), qo 50 (.call p.blockcheck_checker_become [(.t 38), (.t 48), (.t 49)])]
def Jq26 (p : Nums) : IC := (.region (Jq2b p) [])
@[simp] theorem Je26 {p : Nums} : EqI (Jq26 p) (.region (Jq2b p) []) := eqi
def Jq27 (p : Nums) : IC := (.seq (.region [⟨(some 36), (.mov (.t 0)), none, false⟩, ⟨(some 37), (.call p.blockcheck_checker_cost [(.t 36)]), none, false⟩] []) (Jq26 p))
@[simp] theorem Je27 {p : Nums} : EqI (Jq27 p) (.seq (.region [⟨(some 36), (.mov (.t 0)), none, false⟩, ⟨(some 37), (.call p.blockcheck_checker_cost [(.t 36)]), none, false⟩] []) (Jq26 p)) := eqi
def Jta8 (p : Nums) : IC := (.seq (.region [⟨(some 5), (.box (.t 1)), none, false⟩, ⟨(some 6), (.box (.t 2)), none, false⟩] []) (.seq (Jq23 p) (.seq (.seq (.region [⟨(some 16), (.faddr 1 (.t 8)), none, false⟩, ⟨(some 17), (.load none (.t 16)), none, false⟩] []) (.cond (.t 17) (Jq24 p) .skip)) (.seq (.seq (.region [⟨(some 25), (.faddr 2 (.t 8)), none, false⟩, ⟨(some 26), (.load none (.t 25)), none, false⟩] []) (.cond (.t 26) (Jq25 p) .skip)) (.seq (.region [⟨(some 34), (.faddr 0 (.t 8)), none, false⟩, ⟨(some 35), (.load none (.t 34)), none, false⟩] []) (.cond (.t 35) (Jq27 p) .skip))))))
@[simp] def Jqd2 (p : Nums) : List IOp := [qo 6 (.mov (.t 0)), qo 7 (.load (some 2) (.t 3)), qo 8 (.call p.pairset_find [(.t 6), (.t 7)]), qo 5 (.asg (.t 8))]
def Jqd0 (p : Nums) : IC := (.region (Jqd2 p) [])
@[simp] theorem Jed0 {p : Nums} : EqI (Jqd0 p) (.region (Jqd2 p) []) := eqi
@[simp] def Jqd3 (p : Nums) : List IOp := [qp 9 (.mov (.t 5)), qp 10 (.mov (.t 0)), qp 11 (.len (.t 10)), qo 12 (.bin .lss (.t 9) (.t 11)), qo 13 (.mov (.t 12)), ⟨(some 14), (.mov (.t 0)), (some (13, true)), true⟩, ⟨(some 15), (.mov (.t 5)), (some (13, true)), true⟩, ⟨(some 16), (.iaddr 2 (.t 14) (.t 15)), (some (13, true)), true⟩, ⟨(some 17), (.load (some 2) (.t 16)), (some (13, true)), true⟩, ⟨(some 18), (.load (some 2) (.t 3)), (some (13, true)), true⟩, ⟨(some 19), (.eqs false [.int, .int] (.t 17) (.t 18)), (some (13, true)), false⟩, qo 20 (.pick (.t 13) (.t 19) (.c (.d (.bool false)))), qo 4 (.asg (.t 20))]
def Jqd1 (p : Nums) : IC := (.region (Jqd3 p) [])
@[simp] theorem Jed1 {p : Nums} : EqI (Jqd1 p) (.region (Jqd3 p) []) := eqi
def Jtbe (p : Nums) : IC := (.seq (.region [⟨(some 3), (.box (.t 1)), none, false⟩, ⟨(some 4), (.asg (.c (.d (.bool false)))), none, false⟩] []) (.seq (Jqd0 p) (.seq (Jqd1 p) .ret)))
@[simp] def Jqcf (p : Nums) : List IOp := [qo 3 (.mov (.t 0)), qo 4 (.bin .geq (.t 3) (ci 1)), qo 5 (.mov (.t 4)), ⟨(some 6), (.mov (.t 0)), (some (5, true)), false⟩, ⟨(some 7), (.bin .leq (.t 6) (ci 18)), (some (5, true)), false⟩, qo 8 (.pick (.t 5) (.t 7) (.c (.d (.bool false)))), qo 2 (.asg (.t 8))]
def Jqce (p : Nums) : IC := (.region (Jqcf p) [])
@[simp] theorem Jece {p : Nums} : EqI (Jqce p) (.region (Jqcf p) []) := eqi
def Jtb8 (p : Nums) : IC := (.seq (.region [⟨(some 2), (.asg (.c (.d (.bool false)))), none, false⟩] []) (.seq (Jqce p) .ret))
@[simp] def Jqbh (p : Nums) : List IOp := [qo 7 (.faddr 0 (.t 3)), qo 8 (.load none (.t 7)), qo 9 (.faddr 1 (.t 3)), qo 10 (.load none (.t 9)), qo 11 (.faddr 2 (.t 3)), qo 12 (.load none (.t 11)), qo 13 (.faddr 3 (.t 3)), qo 14 (.load none (.t 13)), qo 15 (.faddr 4 (.t 3)), qo 16 (.load none (.t 15)), qo 17 (.build [(zi 0), (zi 0), (zi 0), (zi 0), (zi 0)] [(0, 1, (.t 8)), (1, 1, (.t 10)), (2, 1, (.t 12)), (3, 1, (.t 14)), (4, 1, (.t 16))]), qo 18 (.mov (.t 1)), qo 19 (.call p.source_Instr [(.t 17), (.t 18)]), qo 6 (.asg (.t 19))]
def Jqbg (p : Nums) : IC := (.region (Jqbh p) [])
@[simp] theorem Jebg {p : Nums} : EqI (Jqbg p) (.region (Jqbh p) []) := eqi
def Jtb3 (p : Nums) : IC := (.seq (.region [⟨(some 3), (.box (.t 0)), none, false⟩, ⟨(some 6), (.asg (.c (.d (.int .i64 0)))), none, false⟩] []) (.seq (Jqbg p) .ret))
@[simp] def Jqbj (p : Nums) : List IOp := [qo 3 (.faddr 5 (.t 1)), qo 4 (.load none (.t 3)), qo 5 (.bin .eql (.t 4) (ci 0)), qo 6 (.mov (.t 5)), ⟨(some 7), (.faddr 6 (.t 1)), (some (6, true)), false⟩, ⟨(some 8), (.load none (.t 7)), (some (6, true)), false⟩, ⟨(some 9), (.bin .eql (.t 8) (ci 0)), (some (6, true)), false⟩, qo 10 (.pick (.t 6) (.t 9) (.c (.d (.bool false)))), qo 2 (.asg (.t 10))]
def Jqbi (p : Nums) : IC := (.region (Jqbj p) [])
@[simp] theorem Jebi {p : Nums} : EqI (Jqbi p) (.region (Jqbj p) []) := eqi
def Jtb4 (p : Nums) : IC := (.seq (.region [⟨(some 1), (.box (.t 0)), none, false⟩, ⟨(some 2), (.asg (.c (.d (.bool false)))), none, false⟩] []) (.seq (Jqbi p) .ret))
@[simp] def Jqba (p : Nums) : List IOp := [qo 8 (.faddr 5 (.t 3)), qo 9 (.load none (.t 8)), qo 10 (.call p.location_IsSlot [(.t 9)]), qo 11 (.mov (.t 10)), ⟨(some 12), (.faddr 6 (.t 3)), (some (11, true)), false⟩, ⟨(some 13), (.load none (.t 12)), (some (11, true)), false⟩, ⟨(some 14), (.call p.location_IsSlot [(.t 13)]), (some (11, true)), false⟩, qo 15 (.pick (.t 11) (.t 14) (.c (.d (.bool false)))), qo 7 (.asg (.t 15))]
def Jqb7 (p : Nums) : IC := (.region (Jqba p) [])
@[simp] theorem Jeb7 {p : Nums} : EqI (Jqb7 p) (.region (Jqba p) []) := eqi
@[simp] def Jqbb (p : Nums) : List IOp := [qo 16 (.mov (.t 7)), qo 17 (.mov (.t 16)), ⟨(some 18), (.faddr 5 (.t 3)), (some (17, false)), false⟩, ⟨(some 19), (.load none (.t 18)), (some (17, false)), false⟩, ⟨(some 20), (.mov (.t 1)), (some (17, false)), false⟩, ⟨(some 21), (.mov (.t 2)), (some (17, false)), false⟩, ⟨(some 22), (.call p.location_InRange [(.t 19), (.t 20), (.t 21)]), (some (17, false)), false⟩, ⟨(some 23), (.un .not (.t 22)), (some (17, false)), false⟩, qo 24 (.pick (.t 17) (.c (.d (.bool true))) (.t 23)), qo 25 (.mov (.t 24)), ⟨(some 26), (.faddr 6 (.t 3)), (some (25, false)), false⟩, ⟨(some 27), (.load none (.t 26)), (some (25, false)), false⟩, ⟨(some 28), (.mov (.t 1)), (some (25, false)), false⟩, ⟨(some 29), (.mov (.t 2)), (some (25, false)), false⟩, ⟨(some 30), (.call p.location_InRange [(.t 27), (.t 28), (.t 29)]), (some (25, false)), false⟩, ⟨(some 31), (.un .not (.t 30)), (some (25, false)), false⟩, qo 32 (.pick (.t 25) (.c (.d (.bool true))) (.t 31))]
def Jqb8 (p : Nums) : IC := (.region (Jqbb p) [])
@[simp] theorem Jeb8 {p : Nums} : EqI (Jqb8 p) (.region (Jqbb p) []) := eqi
def Jqb9 (p : Nums) : IC := (.seq (.region [⟨(some 6), (.asg (.c (.d (.int .i64 10)))), none, false⟩] []) .ret)
@[simp] theorem Jeb9 {p : Nums} : EqI (Jqb9 p) (.seq (.region [⟨(some 6), (.asg (.c (.d (.int .i64 10)))), none, false⟩] []) .ret) := eqi
def Jtb0 (p : Nums) : IC := (.seq (.region [⟨(some 3), (.box (.t 0)), none, false⟩, ⟨(some 6), (.asg (.c (.d (.int .i64 0)))), none, false⟩] []) (.seq (Jqb7 p) (.seq (.seq (Jqb8 p) (.cond (.t 32) (Jqb9 p) .skip)) (.seq (.region [⟨(some 6), (.asg (.c (.d (.int .i64 0)))), none, false⟩] []) .ret))))
@[simp] def Jqbd (p : Nums) : List IOp := [qo 3 (.faddr 1 (.t 1)), qo 4 (.load none (.t 3)), qo 5 (.bin .eql (.t 4) (ci 0)), qo 6 (.mov (.t 5)), ⟨(some 7), (.faddr 2 (.t 1)), (some (6, true)), false⟩, ⟨(some 8), (.load none (.t 7)), (some (6, true)), false⟩, ⟨(some 9), (.bin .eql (.t 8) (ci 0)), (some (6, true)), false⟩, qo 10 (.pick (.t 6) (.t 9) (.c (.d (.bool false)))), qo 11 (.mov (.t 10)), ⟨(some 12), (.faddr 3 (.t 1)), (some (11, true)), false⟩, ⟨(some 13), (.load none (.t 12)), (some (11, true)), false⟩, ⟨(some 14), (.bin .eql (.t 13) (ci 0)), (some (11, true)), false⟩, qo 15 (.pick (.t 11) (.t 14) (.c (.d (.bool false)))), qo 16 (.mov (.t 15)), ⟨(some 17), (.faddr 4 (.t 1)), (some (16, true)), false⟩, ⟨(some 18), (.load none (.t 17)), (some (16, true)), false⟩, ⟨(some 19), (.bin .eql (.t 18) (ci 0)), (some (16, true)), false⟩, qo 20 (.pick (.t 16) (.t 19) (.c (.d (.bool false)))), qo 2 (.asg (.t 20))]
def Jqbc (p : Nums) : IC := (.region (Jqbd p) [])
@[simp] theorem Jebc {p : Nums} : EqI (Jqbc p) (.region (Jqbd p) []) := eqi
def Jtb1 (p : Nums) : IC := (.seq (.region [⟨(some 1), (.box (.t 0)), none, false⟩, ⟨(some 2), (.asg (.c (.d (.bool false)))), none, false⟩] []) (.seq (Jqbc p) .ret))
@[simp] def Jqxs (p : Nums) : List IOp := [qo 12 (.mov (.t 1)), qo 13 (.len (.t 12)), qo 14 (.mov (ci 0))]
def Jqxl (p : Nums) : IC := (.region (Jqxs p) [])
@[simp] theorem Jexl {p : Nums} : EqI (Jqxl p) (.region (Jqxs p) []) := eqi
@[simp] def Jqxt (p : Nums) : List IOp := [qo 16 (.iaddr 2 (.t 12) (.t 14)), qo 17 (.load (some 2) (.t 16)), qo 9 (.alloc [(zi 0), (zi 0)]), qn (.store 2 (.t 9) (.t 17))]
def Jqxm (p : Nums) : IC := (.region (Jqxt p) [])
@[simp] theorem Jexm {p : Nums} : EqI (Jqxm p) (.region (Jqxt p) []) := eqi
@[simp] def Jqxu (p : Nums) : List IOp := [qo 19 (.mov (.t 2)), qo 20 (.load (some 2) (.t 9)), qo 21 (.callv (.t 19) [(.t 20)]), qo 18 (.mov (.t 21)), qo 22 (.ext (.t 18) 0), qo 23 (.ext (.t 18) 1), qo 10 (.alloc [(zi 0), (zi 0)]), qn (.store 2 (.t 10) (.t 22)), qo 11 (.asg (.t 23))]
def Jqxn (p : Nums) : IC := (.region (Jqxu p) [])
@[simp] theorem Jexn {p : Nums} : EqI (Jqxn p) (.region (Jqxu p) []) := eqi
@[simp] def Jqxv (p : Nums) : List IOp := [qo 25 (.mov (.t 7)), qo 26 (.load (some 2) (.t 10)), qo 27 (.bslice 2 1 [(.int .i64 0), (.int .i64 0)] [(0, (.t 26))]), qo 28 (.app 2 16 (.t 25) (.t 27)), qo 7 (.asg (.t 28))]
def Jqxo (p : Nums) : IC := (.region (Jqxv p) [])
@[simp] theorem Jexo {p : Nums} : EqI (Jqxo p) (.region (Jqxv p) []) := eqi
def Jqxp (p : Nums) : IC := (.seq (Jqxm p) (.seq (Jqxn p) (.seq (.region [⟨(some 24), (.mov (.t 11)), none, false⟩] []) (.cond (.t 24) (Jqxo p) .skip))))
@[simp] theorem Jexp {p : Nums} : EqI (Jqxp p) (.seq (Jqxm p) (.seq (Jqxn p) (.seq (.region [⟨(some 24), (.mov (.t 11)), none, false⟩] []) (.cond (.t 24) (Jqxo p) .skip)))) := eqi
def Jqxq (p : Nums) : IC := (.seq (.region [⟨(some 15), (.bin .lss (.t 14) (.t 13)), none, false⟩] []) (.seq (.cond (.t 15) .skip (.exit 0)) (.seq (.block 1 (Jqxp p)) (.region [⟨(some 29), (.bin .add (.t 14) (.c (.d (.int .i64 1)))), none, false⟩, ⟨(some 14), (.mov (.t 29)), none, false⟩] []))))
@[simp] theorem Jexq {p : Nums} : EqI (Jqxq p) (.seq (.region [⟨(some 15), (.bin .lss (.t 14) (.t 13)), none, false⟩] []) (.seq (.cond (.t 15) .skip (.exit 0)) (.seq (.block 1 (Jqxp p)) (.region [⟨(some 29), (.bin .add (.t 14) (.c (.d (.int .i64 1)))), none, false⟩, ⟨(some 14), (.mov (.t 29)), none, false⟩] [])))) := eqi
@[simp] def Jqxw (p : Nums) : List IOp := [qo 30 (.mov (.t 0)), qo 31 (.mov (.t 7)), qo 32 (.call p.pairset_Make [(.t 31)]), qo 33 (.call p.pairset_Union [(.t 30), (.t 32)]), qo 6 (.asg (.t 33))]
def Jqxr (p : Nums) : IC := (.region (Jqxw p) [])
@[simp] theorem Jexr {p : Nums} : EqI (Jqxr p) (.region (Jqxw p) []) := eqi
def Jtcy (p : Nums) : IC := (.seq (.region [⟨(some 6), (.asg (.c .nils)), none, false⟩] []) (.seq (.region [⟨(some 7), (.asg (.c .nils)), none, false⟩] []) (.seq (.seq (Jqxl p) (.block 0 (.loop (Jqxq p)))) (.seq (Jqxr p) .ret))))
@[simp] def Jqcz (p : Nums) : List IOp := [qo 5 (.mov (.t 0)), qo 6 (.mkfn (.func p.pairset_DropV_1) [] [(.t 3)]), qo 7 (.call p.pairset_filter [(.t 5), (.t 6)]), qo 4 (.asg (.t 7))]
def Jqcy (p : Nums) : IC := (.region (Jqcz p) [])
@[simp] theorem Jecy {p : Nums} : EqI (Jqcy p) (.region (Jqcz p) []) := eqi
def Jtbc (p : Nums) : IC := (.seq (.region [⟨(some 3), (.box (.t 1)), none, false⟩, ⟨(some 4), (.asg (.c .nils)), none, false⟩] []) (.seq (Jqcy p) .ret))
@[simp] def Jqcv (p : Nums) : List IOp := [qo 5 (.mov (.t 0)), qo 6 (.mkfn (.func p.pairset_DropL_1) [] [(.t 3)]), qo 7 (.call p.pairset_filter [(.t 5), (.t 6)]), qo 4 (.asg (.t 7))]
def Jqcu (p : Nums) : IC := (.region (Jqcv p) [])
@[simp] theorem Jecu {p : Nums} : EqI (Jqcu p) (.region (Jqcv p) []) := eqi
def Jtba (p : Nums) : IC := (.seq (.region [⟨(some 3), (.box (.t 1)), none, false⟩, ⟨(some 4), (.asg (.c .nils)), none, false⟩] []) (.seq (Jqcu p) .ret))
@[simp] def Jqxd (p : Nums) : List IOp := [qo 8 (.mov (.t 0)), qo 9 (.mov (.t 1)), qo 10 (.call p.pairset_DropV [(.t 8), (.t 9)]), qo 11 (.mov (.t 2)), qo 12 (.call p.pairset_DropL [(.t 10), (.t 11)]), qo 7 (.asg (.t 12))]
def Jqxb (p : Nums) : IC := (.region (Jqxd p) [])
@[simp] theorem Jexb {p : Nums} : EqI (Jqxb p) (.region (Jqxd p) []) := eqi
@[simp] def Jqxe (p : Nums) : List IOp := [qo 13 (.mov (.t 7)), qo 14 (.mov (.t 1)), qo 15 (.mov (.t 2)), qo 16 (.build [(zi 0), (zi 0)] [(0, 1, (.t 14)), (1, 1, (.t 15))]), qo 17 (.call p.pairset_Add [(.t 13), (.t 16)]), qo 6 (.asg (.t 17))]
def Jqxc (p : Nums) : IC := (.region (Jqxe p) [])
@[simp] theorem Jexc {p : Nums} : EqI (Jqxc p) (.region (Jqxe p) []) := eqi
def Jtcw (p : Nums) : IC := (.seq (.region [⟨(some 6), (.asg (.c .nils)), none, false⟩] []) (.seq (Jqxb p) (.seq (Jqxc p) .ret)))
@[simp] def Jqf5 (p : Nums) : List IOp := [qo 8 (.mov (.t 0)), qo 9 (.len (.t 8)), qo 5 (.asg (ci 0)), qo 6 (.asg (.t 9))]
def Jqex (p : Nums) : IC := (.region (Jqf5 p) [])
@[simp] theorem Jeex {p : Nums} : EqI (Jqex p) (.region (Jqf5 p) []) := eqi
@[simp] def Jqf6 (p : Nums) : List IOp := [qo 10 (.mov (.t 5)), qo 11 (.mov (.t 6)), qo 12 (.bin .lss (.t 10) (.t 11))]
def Jqey (p : Nums) : IC := (.region (Jqf6 p) [])
@[simp] theorem Jeey {p : Nums} : EqI (Jqey p) (.region (Jqf6 p) []) := eqi
@[simp] def Jqf7 (p : Nums) : List IOp := [qo 13 (.mov (.t 5)), qo 14 (.mov (.t 6)), qo 15 (.mov (.t 5)), qo 16 (.bin .sub (.t 14) (.t 15)), qo 17 (.bin .quo (.t 16) (ci 2)), qo 18 (.bin .add (.t 13) (.t 17)), qo 7 (.asg (.t 18))]
def Jqez (p : Nums) : IC := (.region (Jqf7 p) [])
@[simp] theorem Jeez {p : Nums} : EqI (Jqez p) (.region (Jqf7 p) []) := eqi
@[simp] def Jqf8 (p : Nums) : List IOp := [qp 19 (.mov (.t 0)), qp 20 (.mov (.t 7)), qp 21 (.iaddr 2 (.t 19) (.t 20)), qp 22 (.load (some 2) (.t 21)), qp 23 (.load (some 2) (.t 3)), qo 24 (.call p.pairset_Less [(.t 22), (.t 23)])]
def Jqf0 (p : Nums) : IC := (.region (Jqf8 p) [])
@[simp] theorem Jef0 {p : Nums} : EqI (Jqf0 p) (.region (Jqf8 p) []) := eqi
@[simp] def Jqf9 (p : Nums) : List IOp := [qo 25 (.mov (.t 7)), qo 26 (.bin .add (.t 25) (ci 1)), qo 5 (.asg (.t 26))]
def Jqf1 (p : Nums) : IC := (.region (Jqf9 p) [])
@[simp] theorem Jef1 {p : Nums} : EqI (Jqf1 p) (.region (Jqf9 p) []) := eqi
@[simp] def Jqfa (p : Nums) : List IOp := [qo 27 (.mov (.t 7)), qo 6 (.asg (.t 27))]
def Jqf2 (p : Nums) : IC := (.region (Jqfa p) [])
@[simp] theorem Jef2 {p : Nums} : EqI (Jqf2 p) (.region (Jqfa p) []) := eqi
def Jqf3 (p : Nums) : IC := (.seq (Jqez p) (.seq (Jqf0 p) (.cond (.t 24) (Jqf1 p) (Jqf2 p))))
@[simp] theorem Jef3 {p : Nums} : EqI (Jqf3 p) (.seq (Jqez p) (.seq (Jqf0 p) (.cond (.t 24) (Jqf1 p) (Jqf2 p)))) := eqi
def Jqf4 (p : Nums) : IC := (.seq (.seq (Jqey p) (.cond (.t 12) .skip (.exit 0))) (.block 1 (Jqf3 p)))
@[simp] theorem Jef4 {p : Nums} : EqI (Jqf4 p) (.seq (.seq (Jqey p) (.cond (.t 12) .skip (.exit 0))) (.block 1 (Jqf3 p))) := eqi
def Jtbk (p : Nums) : IC := (.seq (.region [⟨(some 3), (.box (.t 1)), none, false⟩, ⟨(some 4), (.asg (.c (.d (.int .i64 0)))), none, false⟩] []) (.seq (Jqex p) (.seq (.block 0 (.loop (Jqf4 p))) (.seq (.region [⟨(some 28), (.mov (.t 5)), none, false⟩, ⟨(some 4), (.asg (.t 28)), none, false⟩] []) .ret))))
@[simp] def Jqea (p : Nums) : List IOp := [qo 7 (.mov (.t 0)), qo 8 (.len (.t 7)), qo 9 (.mov (.t 1)), qo 10 (.len (.t 9)), qo 11 (.bin .add (.t 8) (.t 10)), qo 12 (.mkslice 2 16 [(.int .i64 0), (.int .i64 0)] (ci 0) (.t 11)), qo 5 (.asg (.t 12))]
def Jqdx (p : Nums) : IC := (.region (Jqea p) [])
@[simp] theorem Jedx {p : Nums} : EqI (Jqdx p) (.region (Jqea p) []) := eqi
@[simp] def Jqed (p : Nums) : List IOp := [qo 13 (.mov (.t 0)), qo 14 (.len (.t 13)), qo 15 (.bin .gtr (.t 14) (ci 0)), qo 16 (.mov (.t 15)), ⟨(some 17), (.mov (.t 1)), (some (16, true)), false⟩, ⟨(some 18), (.len (.t 17)), (some (16, true)), false⟩, ⟨(some 19), (.bin .gtr (.t 18) (ci 0)), (some (16, true)), false⟩, qo 20 (.pick (.t 16) (.t 19) (.c (.d (.bool false))))]
def Jqe2 (p : Nums) : IC := (.region (Jqed p) [])
@[simp] theorem Jee2 {p : Nums} : EqI (Jqe2 p) (.region (Jqed p) []) := eqi
@[simp] def Jqee (p : Nums) : List IOp := [qo 21 (.mov (.t 0)), qo 22 (.iaddr 2 (.t 21) (ci 0)), qo 23 (.load (some 2) (.t 22)), qo 6 (.alloc [(zi 0), (zi 0)]), qn (.store 2 (.t 6) (.t 23))]
def Jqe3 (p : Nums) : IC := (.region (Jqee p) [])
@[simp] theorem Jee3 {p : Nums} : EqI (Jqe3 p) (.region (Jqee p) []) := eqi
@[simp] def Jqef (p : Nums) : List IOp := [qp 24 (.mov (.t 1)), qp 25 (.iaddr 2 (.t 24) (ci 0)), qp 26 (.load (some 2) (.t 25)), qp 27 (.load (some 2) (.t 6)), qo 28 (.call p.pairset_Less [(.t 26), (.t 27)])]
def Jqe4 (p : Nums) : IC := (.region (Jqef p) [])
@[simp] theorem Jee4 {p : Nums} : EqI (Jqe4 p) (.region (Jqef p) []) := eqi
@[simp] def Jqeg (p : Nums) : List IOp := [qo 29 (.mov (.t 1)), qo 30 (.iaddr 2 (.t 29) (ci 0)), qo 31 (.load (some 2) (.t 30)), qn (.store 2 (.t 6) (.t 31))]
def Jqe5 (p : Nums) : IC := (.region (Jqeg p) [])
@[simp] theorem Jee5 {p : Nums} : EqI (Jqe5 p) (.region (Jqeg p) []) := eqi
@[simp] def Jqeh (p : Nums) : List IOp := [qo 32 (.mov (.t 5)), qo 33 (.load (some 2) (.t 6)), qo 34 (.bslice 2 1 [(.int .i64 0), (.int .i64 0)] [(0, (.t 33))]), qo 35 (.app 2 16 (.t 32) (.t 34)), qo 5 (.asg (.t 35))]
def Jqe6 (p : Nums) : IC := (.region (Jqeh p) [])
@[simp] theorem Jee6 {p : Nums} : EqI (Jqe6 p) (.region (Jqeh p) []) := eqi
@[simp] def Jqei (p : Nums) : List IOp := [qp 36 (.mov (.t 0)), qp 37 (.iaddr 2 (.t 36) (ci 0)), qp 38 (.load (some 2) (.t 37)), qp 39 (.load (some 2) (.t 6)), qo 40 (.eqs false [.int, .int] (.t 38) (.t 39))]
def Jqe7 (p : Nums) : IC := (.region (Jqei p) [])
@[simp] theorem Jee7 {p : Nums} : EqI (Jqe7 p) (.region (Jqei p) []) := eqi
@[simp] def Jqej (p : Nums) : List IOp := [qo 41 (.mov (.t 0)), qo 42 (.slc 2 (.t 41) (some (ci 1)) none), qo 0 (.asg (.t 42))]
def Jqe8 (p : Nums) : IC := (.region (Jqej p) [])
@[simp] theorem Jee8 {p : Nums} : EqI (Jqe8 p) (.region (Jqej p) []) := eqi
@[simp] def Jqek (p : Nums) : List IOp := [qp 43 (.mov (.t 1)), qp 44 (.iaddr 2 (.t 43) (ci 0)), qp 45 (.load (some 2) (.t 44)), qp 46 (.load (some 2) (.t 6)), qo 47 (.eqs false [.int, .int] (.t 45) (.t 46))]
def Jqe9 (p : Nums) : IC := (.region (Jqek p) [])
@[simp] theorem Jee9 {p : Nums} : EqI (Jqe9 p) (.region (Jqek p) []) := eqi
@[simp] def Jqeb (p : Nums) : List IOp := [qo 48 (.mov (.t 1)), qo 49 (.slc 2 (.t 48) (some (ci 1)) none), qo 1 (.asg (.t 49))]
def Jqdy (p : Nums) : IC := (.region (Jqeb p) [])
@[simp] theorem Jedy {p : Nums} : EqI (Jqdy p) (.region (Jqeb p) []) := eqi
def Jqdz (p : Nums) : IC := (.seq (Jqe3 p) (.seq (.seq (Jqe4 p) (.cond (.t 28) (Jqe5 p) .skip)) (.seq (Jqe6 p) (.seq (.seq (Jqe7 p) (.cond (.t 40) (Jqe8 p) .skip)) (.seq (Jqe9 p) (.cond (.t 47) (Jqdy p) .skip))))))
@[simp] theorem Jedz {p : Nums} : EqI (Jqdz p) (.seq (Jqe3 p) (.seq (.seq (Jqe4 p) (.cond (.t 28) (Jqe5 p) .skip)) (.seq (Jqe6 p) (.seq (.seq (Jqe7 p) (.cond (.t 40) (Jqe8 p) .skip)) (.seq (Jqe9 p) (.cond (.t 47) (Jqdy p) .skip)))))) := eqi
def Jqe0 (p : Nums) : IC := (.seq (.seq (Jqe2 p) (.cond (.t 20) .skip (.exit 0))) (.block 1 (Jqdz p)))
@[simp] theorem Jee0 {p : Nums} : EqI (Jqe0 p) (.seq (.seq (Jqe2 p) (.cond (.t 20) .skip (.exit 0))) (.block 1 (Jqdz p))) := eqi
@[simp] def Jqec (p : Nums) : List IOp := [qo 50 (.mov (.t 5)), qo 51 (.mov (.t 0)), qo 52 (.app 2 16 (.t 50) (.t 51)), qo 53 (.mov (.t 1)), qo 54 (.app 2 16 (.t 52) (.t 53)), qo 4 (.asg (.t 54))]
def Jqe1 (p : Nums) : IC := (.region (Jqec p) [])
@[simp] theorem Jee1 {p : Nums} : EqI (Jqe1 p) (.region (Jqec p) []) := eqi
def Jtbi (p : Nums) : IC := (.seq (.region [⟨(some 4), (.asg (.c .nils)), none, false⟩] []) (.seq (Jqdx p) (.seq (.block 0 (.loop (Jqe0 p))) (.seq (Jqe1 p) .ret))))
@[simp] def Jqes (p : Nums) : List IOp := [qo 8 (.mov (.t 0)), qo 9 (.len (.t 8)), qo 10 (.mkslice 2 16 [(.int .i64 0), (.int .i64 0)] (ci 0) (.t 9)), qo 5 (.take (.t 10))]
def Jqel (p : Nums) : IC := (.region (Jqes p) [])
@[simp] theorem Jeel {p : Nums} : EqI (Jqel p) (.region (Jqes p) []) := eqi
@[simp] def Jqet (p : Nums) : List IOp := [qo 11 (.mov (.t 0)), qo 12 (.len (.t 11)), qo 13 (.mov (ci 0))]
def Jqem (p : Nums) : IC := (.region (Jqet p) [])
@[simp] theorem Jeem {p : Nums} : EqI (Jqem p) (.region (Jqet p) []) := eqi
@[simp] def Jqeu (p : Nums) : List IOp := [qo 15 (.iaddr 2 (.t 11) (.t 13)), qo 16 (.load (some 2) (.t 15)), qo 7 (.alloc [(zi 0), (zi 0)]), qn (.store 2 (.t 7) (.t 16))]
def Jqen (p : Nums) : IC := (.region (Jqeu p) [])
@[simp] theorem Jeen {p : Nums} : EqI (Jqen p) (.region (Jqeu p) []) := eqi
@[simp] def Jqev (p : Nums) : List IOp := [qo 17 (.mov (.t 1)), qo 18 (.load (some 2) (.t 7)), qo 19 (.callv (.t 17) [(.t 18)])]
def Jqeo (p : Nums) : IC := (.region (Jqev p) [])
@[simp] theorem Jeeo {p : Nums} : EqI (Jqeo p) (.region (Jqev p) []) := eqi
@[simp] def Jqew (p : Nums) : List IOp := [qo 20 (.mov (.t 5)), qo 21 (.load (some 2) (.t 7)), qo 22 (.bslice 2 1 [(.int .i64 0), (.int .i64 0)] [(0, (.t 21))]), qo 23 (.app 2 16 (.t 20) (.t 22)), qo 5 (.take (.t 23))]
def Jqep (p : Nums) : IC := (.region (Jqew p) [])
@[simp] theorem Jeep {p : Nums} : EqI (Jqep p) (.region (Jqew p) []) := eqi
def Jqeq (p : Nums) : IC := (.seq (Jqen p) (.seq (Jqeo p) (.cond (.t 19) (Jqep p) .skip)))
@[simp] theorem Jeeq {p : Nums} : EqI (Jqeq p) (.seq (Jqen p) (.seq (Jqeo p) (.cond (.t 19) (Jqep p) .skip))) := eqi
def Jqer (p : Nums) : IC := (.seq (.region [⟨(some 14), (.bin .lss (.t 13) (.t 12)), none, false⟩] []) (.seq (.cond (.t 14) .skip (.exit 0)) (.seq (.block 1 (Jqeq p)) (.region [⟨(some 24), (.bin .add (.t 13) (.c (.d (.int .i64 1)))), none, false⟩, ⟨(some 13), (.mov (.t 24)), none, false⟩] []))))
@[simp] theorem Jeer {p : Nums} : EqI (Jqer p) (.seq (.region [⟨(some 14), (.bin .lss (.t 13) (.t 12)), none, false⟩] []) (.seq (.cond (.t 14) .skip (.exit 0)) (.seq (.block 1 (Jqeq p)) (.region [⟨(some 24), (.bin .add (.t 13) (.c (.d (.int .i64 1)))), none, false⟩, ⟨(some 13), (.mov (.t 24)), none, false⟩] [])))) := eqi
def Jtbj (p : Nums) : IC := (.seq (.region [⟨(some 4), (.asg (.c .nils)), none, false⟩] []) (.seq (Jqel p) (.seq (.seq (Jqem p) (.block 0 (.loop (Jqer p)))) (.seq (.region [⟨(some 25), (.mov (.t 5)), none, false⟩, ⟨(some 4), (.take (.t 25)), none, false⟩] []) .ret))))
@[simp] def Jqcx (p : Nums) : List IOp := [qo 4 (.faddr 0 (.t 2)), qo 5 (.load none (.t 4)), qo 6 (.load none (.t 1)), qo 7 (.bin .neq (.t 5) (.t 6)), qo 3 (.asg (.t 7))]
def Jqcw (p : Nums) : IC := (.region (Jqcx p) [])
@[simp] theorem Jecw {p : Nums} : EqI (Jqcw p) (.region (Jqcx p) []) := eqi
def Jtbd (p : Nums) : IC := (.seq (.region [⟨(some 2), (.box (.t 0)), none, false⟩, ⟨(some 3), (.asg (.c (.d (.bool false)))), none, false⟩] []) (.seq (Jqcw p) .ret))
@[simp] def Jqct (p : Nums) : List IOp := [qo 4 (.faddr 1 (.t 2)), qo 5 (.load none (.t 4)), qo 6 (.load none (.t 1)), qo 7 (.bin .neq (.t 5) (.t 6)), qo 3 (.asg (.t 7))]
def Jqcs (p : Nums) : IC := (.region (Jqct p) [])
@[simp] theorem Jecs {p : Nums} : EqI (Jqcs p) (.region (Jqct p) []) := eqi
def Jtbb (p : Nums) : IC := (.seq (.region [⟨(some 2), (.box (.t 0)), none, false⟩, ⟨(some 3), (.asg (.c (.d (.bool false)))), none, false⟩] []) (.seq (Jqcs p) .ret))
@[simp] def Jqcm (p : Nums) : List IOp := [qo 7 (.mov (.t 0)), qo 8 (.load (some 2) (.t 3)), qo 9 (.call p.pairset_find [(.t 7), (.t 8)]), qo 5 (.asg (.t 9))]
def Jqcg (p : Nums) : IC := (.region (Jqcm p) [])
@[simp] theorem Jecg {p : Nums} : EqI (Jqcg p) (.region (Jqcm p) []) := eqi
@[simp] def Jqcn (p : Nums) : List IOp := [qo 10 (.mov (.t 0)), qo 11 (.len (.t 10)), qo 12 (.bin .add (.t 11) (ci 1)), qo 13 (.mkslice 2 16 [(.int .i64 0), (.int .i64 0)] (ci 0) (.t 12)), qo 6 (.asg (.t 13))]
def Jqch (p : Nums) : IC := (.region (Jqcn p) [])
@[simp] theorem Jech {p : Nums} : EqI (Jqch p) (.region (Jqcn p) []) := eqi
@[simp] def Jqco (p : Nums) : List IOp := [qp 14 (.mov (.t 6)), qp 15 (.mov (.t 0)), qp 16 (.mov (.t 5)), qp 17 (.slc 2 (.t 15) none (some (.t 16))), qp 18 (.appq 2 16 (.t 14) (.t 17) 6), qp 19 (.load (some 2) (.t 3)), qp 20 (.bslice 2 1 [(.int .i64 0), (.int .i64 0)] [(0, (.t 19))]), qo 21 (.app 2 16 (.t 18) (.t 20)), qo 6 (.asg (.t 21))]
def Jqci (p : Nums) : IC := (.region (Jqco p) [41])
@[simp] theorem Jeci {p : Nums} : EqI (Jqci p) (.region (Jqco p) [41]) := eqi
@[simp] def Jqcp (p : Nums) : List IOp := [qp 22 (.mov (.t 5)), qp 23 (.mov (.t 0)), qp 24 (.len (.t 23)), qo 25 (.bin .lss (.t 22) (.t 24)), qo 26 (.mov (.t 25)), ⟨(some 27), (.mov (.t 0)), (some (26, true)), true⟩, ⟨(some 28), (.mov (.t 5)), (some (26, true)), true⟩, ⟨(some 29), (.iaddr 2 (.t 27) (.t 28)), (some (26, true)), true⟩, ⟨(some 30), (.load (some 2) (.t 29)), (some (26, true)), true⟩, ⟨(some 31), (.load (some 2) (.t 3)), (some (26, true)), true⟩, ⟨(some 32), (.eqs false [.int, .int] (.t 30) (.t 31)), (some (26, true)), false⟩, qo 33 (.pick (.t 26) (.t 32) (.c (.d (.bool false))))]
def Jqcj (p : Nums) : IC := (.region (Jqcp p) [])
@[simp] theorem Jecj {p : Nums} : EqI (Jqcj p) (.region (Jqcp p) []) := eqi
@[simp] def Jqcq (p : Nums) : List IOp := [qo 34 (.mov (.t 5)), qo 35 (.bin .add (.t 34) (ci 1)), qo 5 (.asg (.t 35))]
def Jqck (p : Nums) : IC := (.region (Jqcq p) [])
@[simp] theorem Jeck {p : Nums} : EqI (Jqck p) (.region (Jqcq p) []) := eqi
@[simp] def Jqcr (p : Nums) : List IOp := [qo 36 (.mov (.t 6)), qo 37 (.mov (.t 0)), qo 38 (.mov (.t 5)), qo 39 (.slc 2 (.t 37) (some (.t 38)) none), qo 40 (.app 2 16 (.t 36) (.t 39)), qo 4 (.asg (.t 40))]
def Jqcl (p : Nums) : IC := (.region (Jqcr p) [])
@[simp] theorem Jecl {p : Nums} : EqI (Jqcl p) (.region (Jqcr p) []) := eqi
def Jtb9 (p : Nums) : IC := (.seq (.region [⟨(some 3), (.box (.t 1)), none, false⟩, ⟨(some 4), (.asg (.c .nils)), none, false⟩] []) (.seq (Jqcg p) (.seq (Jqch p) (.seq (Jqci p) (.seq (.seq (Jqcj p) (.cond (.t 33) (Jqck p) .skip)) (.seq (Jqcl p) .ret))))))
@[simp] def Jq2z (p : Nums) : List IOp := [qo 5 (.box (.t 1)), qo 6 (.box (.t 2)), qo 8 (.alloc [(zi 0)]), qo 9 (.alloc [(zi 0)])]
def Jq2y (p : Nums) : IC := (.region (Jq2z p) [])
@[simp] theorem Je2y {p : Nums} : EqI (Jq2y p) (.region (Jq2z p) []) := eqi
def Jtaa (p : Nums) : IC := (Jq2y p)
@[simp] def Jq3f (p : Nums) : List IOp := [qo 13 (.mov (.t 3)), qo 14 (.len (.t 13)), qo 15 (.mov (ci 0))]
def Jq37 (p : Nums) : IC := (.region (Jq3f p) [])
@[simp] theorem Je37 {p : Nums} : EqI (Jq37 p) (.region (Jq3f p) []) := eqi
@[simp] def Jq3g (p : Nums) : List IOp := [qo 17 (.iaddr 6 (.t 13) (.t 15)), qo 18 (.load (some 6) (.t 17)), qo 11 (.alloc [(zi 0), (zi 0), (zi 0), (zi 0), (zi 0), (zi 0)]), qn (.store 6 (.t 11) (.t 18))]
def Jq38 (p : Nums) : IC := (.region (Jq3g p) [])
@[simp] theorem Je38 {p : Nums} : EqI (Jq38 p) (.region (Jq3g p) []) := eqi
@[simp] def Jq3h (p : Nums) : List IOp := [qo 19 (.mov (.t 0)), qo 20 (.load (some 5) (.t 5)), qo 21 (.load (some 5) (.t 6)), qo 22 (.load (some 6) (.t 11)), qo 23 (.call p.blockcheck_checker_row [(.t 19), (.t 20), (.t 21), (.t 22)])]
def Jq39 (p : Nums) : IC := (.region (Jq3h p) [])
@[simp] theorem Je39 {p : Nums} : EqI (Jq39 p) (.region (Jq3h p) []) := eqi
def Jq3a (p : Nums) : IC := (.seq (Jq38 p) (Jq39 p))
@[simp] theorem Je3a {p : Nums} : EqI (Jq3a p) (.seq (Jq38 p) (Jq39 p)) := eqi
def Jq3b (p : Nums) : IC := (.seq (.region [⟨(some 16), (.bin .lss (.t 15) (.t 14)), none, false⟩] []) (.seq (.cond (.t 16) .skip (.exit 0)) (.seq (.block 1 (Jq3a p)) (.region [⟨(some 24), (.bin .add (.t 15) (.c (.d (.int .i64 1)))), none, false⟩, ⟨(some 15), (.mov (.t 24)), none, false⟩] []))))
@[simp] theorem Je3b {p : Nums} : EqI (Jq3b p) (.seq (.region [⟨(some 16), (.bin .lss (.t 15) (.t 14)), none, false⟩] []) (.seq (.cond (.t 16) .skip (.exit 0)) (.seq (.block 1 (Jq3a p)) (.region [⟨(some 24), (.bin .add (.t 15) (.c (.d (.int .i64 1)))), none, false⟩, ⟨(some 15), (.mov (.t 24)), none, false⟩] [])))) := eqi
@[simp] def Jq3i (p : Nums) : List IOp := [qo 25 (.faddr 1 (.t 5)), qo 26 (.faddr 0 (.t 25)), qo 27 (.load none (.t 26)), qo 28 (.bin .neq (.t 27) (ci 1))]
def Jq3c (p : Nums) : IC := (.region (Jq3i p) [])
@[simp] theorem Je3c {p : Nums} : EqI (Jq3c p) (.region (Jq3i p) []) := eqi
@[simp] def Jq3j (p : Nums) : List IOp := [qo 29 (.mov (.t 0)), qo 30 (.faddr 1 (.t 5)), qo 31 (.faddr 1 (.t 30)), qo 32 (.load none (.t 31)), qo 33 (.faddr 1 (.t 6)), qo 34 (.faddr 1 (.t 33)), qo 35 (.load none (.t 34)), qo 36 (.faddr 0 (.t 6)), qo 37 (.load none (.t 36)), qo 38 (.len (.t 37)), qo 39 (.call p.blockcheck_checker_use [(.t 29), (.t 32), (.t 35), (.t 38)])]
def Jq3d (p : Nums) : IC := (.region (Jq3j p) [])
@[simp] theorem Je3d {p : Nums} : EqI (Jq3d p) (.region (Jq3j p) []) := eqi
@[simp] def Jq3k (p : Nums) : List IOp := [qp 40 (.faddr 0 (.t 6)), qp 41 (.load none (.t 40)), qp 42 (.len (.t 41)), qm (.storeq 1 (.t 8) (ci 0) [(40, 1)]), qn (.store 1 (.t 9) (.t 42))]
def Jq3e (p : Nums) : IC := (.region (Jq3k p) [])
@[simp] theorem Je3e {p : Nums} : EqI (Jq3e p) (.region (Jq3k p) []) := eqi
def Jtac (p : Nums) : IC := (.seq (.seq (Jq37 p) (.block 0 (.loop (Jq3b p)))) (.seq (.seq (Jq3c p) (.cond (.t 28) (Jq3d p) .skip)) (.seq (Jq3e p) .ret)))
@[simp] def Jq34 (p : Nums) : List IOp := [qo 9 (.mov (.t 2)), qo 10 (.tas p.ty_bcfail (.t 9)), qo 8 (.mov (.t 10)), qo 11 (.ext (.t 8) 0), qo 12 (.ext (.t 8) 1), qo 3 (.alloc [(zi 0), (zi 0)]), qn (.store 2 (.t 3) (.t 11)), qo 4 (.asg (.t 12))]
def Jq30 (p : Nums) : IC := (.region (Jq34 p) [])
@[simp] theorem Je30 {p : Nums} : EqI (Jq30 p) (.region (Jq34 p) []) := eqi
@[simp] def Jq35 (p : Nums) : List IOp := [qo 15 (.mov (.t 2)), qn (.pan (.t 15))]
def Jq31 (p : Nums) : IC := (.region (Jq35 p) [])
@[simp] theorem Je31 {p : Nums} : EqI (Jq31 p) (.region (Jq35 p) []) := eqi
@[simp] def Jq36 (p : Nums) : List IOp := [qp 16 (.faddr 0 (.t 3)), qp 17 (.load none (.t 16)), qp 18 (.faddr 1 (.t 3)), qp 19 (.load none (.t 18)), qm (.storeq 1 (.t 0) (.t 17) [(18, 1)]), qn (.store 1 (.t 1) (.t 19))]
def Jq32 (p : Nums) : IC := (.region (Jq36 p) [])
@[simp] theorem Je32 {p : Nums} : EqI (Jq32 p) (.region (Jq36 p) []) := eqi
def Jq33 (p : Nums) : IC := (.seq (Jq30 p) (.seq (.seq (.region [⟨(some 13), (.mov (.t 4)), none, false⟩, ⟨(some 14), (.un .not (.t 13)), none, false⟩] []) (.cond (.t 14) (Jq31 p) .skip)) (Jq32 p)))
@[simp] theorem Je33 {p : Nums} : EqI (Jq33 p) (.seq (Jq30 p) (.seq (.seq (.region [⟨(some 13), (.mov (.t 4)), none, false⟩, ⟨(some 14), (.un .not (.t 13)), none, false⟩] []) (.cond (.t 14) (Jq31 p) .skip)) (Jq32 p))) := eqi
def Jtab (p : Nums) : IC := (.seq (.region [⟨(some 6), (.mov (.t 2)), none, false⟩, ⟨(some 7), (.isnif true (.t 6)), none, false⟩] []) (.cond (.t 7) (Jq33 p) .skip))
structure All (P : Program) (p : Nums) : Prop where
 law16_CheckerLocal : Has P p.law16_CheckerLocal 1 [(.tmp 2)] (Jtao p)
 law16_awake : Has P p.law16_awake 0 [(.tmp 0)] (Jtap p)
 ref16_Few : Has P p.ref16_Few 1 [(.tmp 2)] (Jtcj p)
 checker_Valid : Has P p.checker_Valid 1 [(.tmp 2)] (Jtag p)
 ref16_Valid : Has P p.ref16_Valid 1 [(.tmp 2)] (Jtck p)
 checker_Check : Has P p.checker_Check 1 [(.cell 2 (some 7))] (Jtaf p)
 ref07_Successors : Has P p.ref07_Successors 1 [(.tmp 2)] (Jtbt p)
 checker_Bound : Has P p.checker_Bound 2 [(.tmp 4)] (Jtae p)
 ref14_Check : Has P p.ref14_Check 4 [(.cell 8 (some 5))] (Jtcd p)
 ref11_Missing : Has P p.ref11_Missing 2 [(.cell 4 (some 2)), (.tmp 5)] (Jtc4 p)
 ref07_Few : Has P p.ref07_Few 1 [(.tmp 2)] (Jtbr p)
 ref07_Check : Has P p.ref07_Check 1 [(.tmp 2)] (Jtbp p)
 ref08_Few : Has P p.ref08_Few 1 [(.tmp 2)] (Jtby p)
 ref15_Few : Has P p.ref15_Few 1 [(.tmp 2)] (Jtch p)
 source_Check : Has P p.source_Check 1 [(.tmp 2)] (Jtcn p)
 machine_Check : Has P p.machine_Check 1 [(.tmp 2)] (Jtav p)
 edge_Valid : Has P p.edge_Valid 5 [(.tmp 10)] (Jtal p)
 ref08_Check : Has P p.ref08_Check 1 [(.tmp 2)] (Jtbw p)
 ref15_Valid : Has P p.ref15_Valid 5 [(.tmp 10)] (Jtci p)
 checker_begin : Has P p.checker_begin 1 [(.cell 2 (some 7))] (Jtah p)
 blockcheck_Check : Has P p.blockcheck_Check 4 [(.cell 8 (some 5))] (Jta5 p)
 source_Successors : Has P p.source_Successors 1 [(.tmp 2)] (Jtcq p)
 edge_Implies : Has P p.edge_Implies 2 [(.cell 4 (some 2)), (.tmp 5)] (Jtaj p)
 source_Code : Has P p.source_Code 1 [(.tmp 2)] (Jtco p)
 machine_Code : Has P p.machine_Code 1 [(.tmp 2)] (Jtaw p)
 ref14_fail : Has P p.ref14_fail 3 [(.cell 6 (some 5))] (Jtce p)
 ref13_Code : Has P p.ref13_Code 2 [(.tmp 4), (.tmp 5), (.tmp 6)] (Jtc8 p)
 ref13_Terms : Has P p.ref13_Terms 2 [(.tmp 4)] (Jtcc p)
 ref14_grow : Has P p.ref14_grow 4 [(.cell 8 (some 5))] (Jtcf p)
 ref12_Copy : Has P p.ref12_Copy 3 [(.tmp 6)] (Jtc5 p)
 ref12_Move : Has P p.ref12_Move 3 [(.tmp 6)] (Jtc7 p)
 ref05_UsesA : Has P p.ref05_UsesA 1 [(.tmp 2)] (Jtbm p)
 ref14_use : Has P p.ref14_use 4 [(.cell 8 (some 5))] (Jtcg p)
 ref05_UsesB : Has P p.ref05_UsesB 1 [(.tmp 2)] (Jtbn p)
 ref05_UsesD : Has P p.ref05_UsesD 1 [(.tmp 2)] (Jtbo p)
 ref12_Define : Has P p.ref12_Define 3 [(.tmp 6)] (Jtc6 p)
 ref11_Has : Has P p.ref11_Has 2 [(.tmp 4)] (Jtc2 p)
 ref07_Code : Has P p.ref07_Code 1 [(.tmp 2)] (Jtbq p)
 ref07_Instr : Has P p.ref07_Instr 2 [(.tmp 4)] (Jtbs p)
 ref07_Term : Has P p.ref07_Term 3 [(.tmp 6)] (Jtbu p)
 ref08_Code : Has P p.ref08_Code 1 [(.tmp 2)] (Jtbx p)
 source_block : Has P p.source_block 3 [(.tmp 6)] (Jtct p)
 machine_block : Has P p.machine_block 2 [(.tmp 4)] (Jtay p)
 edge_total : Has P p.edge_total 1 [(.tmp 2)] (Jtan p)
 edge_pairs : Has P p.edge_pairs 4 [(.tmp 8)] (Jtam p)
 ref08_Instr : Has P p.ref08_Instr 3 [(.tmp 6)] (Jtbz p)
 ref08_Moves : Has P p.ref08_Moves 1 [(.tmp 2)] (Jtc0 p)
 ref04_InRange : Has P p.ref04_InRange 3 [(.tmp 6)] (Jtbl p)
 ref11_Less : Has P p.ref11_Less 2 [(.tmp 4)] (Jtc3 p)
 edge_Entry : Has P p.edge_Entry 2 [(.cell 4 (some 2)), (.tmp 5)] (Jtai p)
 align_Code : Has P p.align_Code 2 [(.tmp 4), (.tmp 5), (.tmp 6)] (Jt9y p)
 align_Terms : Has P p.align_Terms 2 [(.tmp 4)] (Jta0 p)
 pairset_Make : Has P p.pairset_Make 1 [(.tmp 2)] (Jtbg p)
 blockcheck_checker_run : HasD P p.blockcheck_checker_run 4 [(.cell 8 none), (.cell 9 none)] (Jtaa p) (Jtac p) 12 p.blockcheck_checker_run_1 [8, 9] (Jtab p) 5 2
 pairset_Missing : Has P p.pairset_Missing 2 [(.cell 4 (some 2)), (.tmp 5)] (Jtbh p)
 ref13_Operations : Has P p.ref13_Operations 1 [(.tmp 2)] (Jtc9 p)
 ref13_Others : Has P p.ref13_Others 1 [(.tmp 2)] (Jtca p)
 ref13_Same : Has P p.ref13_Same 2 [(.tmp 4)] (Jtcb p)
 ref11_Add : Has P p.ref11_Add 2 [(.tmp 4)] (Jtc1 p)
 ref07_in : Has P p.ref07_in 2 [(.tmp 4)] (Jtbv p)
 location_Slot : Has P p.location_Slot 1 [(.tmp 2)] (Jtau p)
 source_Instr : Has P p.source_Instr 2 [(.tmp 4)] (Jtcp p)
 source_Term : Has P p.source_Term 3 [(.tmp 6)] (Jtcr p)
 machine_Instr : Has P p.machine_Instr 3 [(.tmp 6)] (Jtax p)
 location_InRange : Has P p.location_InRange 3 [(.tmp 6)] (Jtaq p)
 pairset_Less : Has P p.pairset_Less 2 [(.tmp 4)] (Jtbf p)
 edge_Initial : Has P p.edge_Initial 2 [(.tmp 4)] (Jtak p)
 align_skip_Instr : Has P p.align_skip_Instr 3 [(.tmp 6)] (Jta3 p)
 align_copied : Has P p.align_copied 1 [(.tmp 2)] (Jta1 p)
 align_skip_Mach : Has P p.align_skip_Mach 3 [(.tmp 6)] (Jta4 p)
 align_moved : Has P p.align_moved 1 [(.tmp 2)] (Jta2 p)
 align_Same : Has P p.align_Same 2 [(.tmp 4)] (Jt9z p)
 slices_Clone_Pair : Has P p.slices_Clone_Pair 1 [(.tmp 2)] (Jtcl p)
 slices_Compact_Pair : Has P p.slices_Compact_Pair 1 [(.tmp 2)] (Jtcm p)
 blockcheck_checker_row : Has P p.blockcheck_checker_row 4 [] (Jta9 p)
 blockcheck_checker_use : Has P p.blockcheck_checker_use 4 [] (Jtad p)
 opcode_Of : Has P p.opcode_Of 1 [(.cell 2 (some 4)), (.tmp 3)] (Jtb6 p)
 location_Reg : Has P p.location_Reg 1 [(.tmp 2)] (Jtat p)
 opcode_Source : Has P p.opcode_Source 1 [(.tmp 2)] (Jtb7 p)
 source_within : Has P p.source_within 1 [(.tmp 2)] (Jtcu p)
 source_blank : Has P p.source_blank 1 [(.tmp 2)] (Jtcs p)
 opcode_Machine : Has P p.opcode_Machine 1 [(.tmp 2)] (Jtb5 p)
 machine_others : Has P p.machine_others 0 [(.cell 0 (some 2))] (Jtb2 p)
 machine_moves : Has P p.machine_moves 0 [(.cell 0 (some 2))] (Jtaz p)
 location_IsSlot : Has P p.location_IsSlot 1 [(.tmp 2)] (Jtas p)
 location_Index : Has P p.location_Index 1 [(.tmp 2)] (Jtar p)
 blockcheck_checker_cost : Has P p.blockcheck_checker_cost 1 [] (Jta7 p)
 blockcheck_checker_become : Has P p.blockcheck_checker_become 3 [] (Jta6 p)
 transfer_Copy : Has P p.transfer_Copy 3 [(.tmp 6)] (Jtcv p)
 transfer_Move : Has P p.transfer_Move 3 [(.tmp 6)] (Jtcx p)
 blockcheck_checker_instr : Has P p.blockcheck_checker_instr 4 [] (Jta8 p)
 pairset_Has : Has P p.pairset_Has 2 [(.tmp 4)] (Jtbe p)
 opcode_known : Has P p.opcode_known 1 [(.tmp 2)] (Jtb8 p)
 machine_others_1 : Has P p.machine_others_1 3 [(.tmp 6)] (Jtb3 p)
 machine_others_2 : Has P p.machine_others_2 1 [(.tmp 2)] (Jtb4 p)
 machine_moves_1 : Has P p.machine_moves_1 3 [(.tmp 6)] (Jtb0 p)
 machine_moves_2 : Has P p.machine_moves_2 1 [(.tmp 2)] (Jtb1 p)
 transfer_rename : Has P p.transfer_rename 3 [(.tmp 6)] (Jtcy p)
 pairset_DropV : Has P p.pairset_DropV 2 [(.tmp 4)] (Jtbc p)
 pairset_DropL : Has P p.pairset_DropL 2 [(.tmp 4)] (Jtba p)
 transfer_Define : Has P p.transfer_Define 3 [(.tmp 6)] (Jtcw p)
 pairset_find : Has P p.pairset_find 2 [(.tmp 4)] (Jtbk p)
 pairset_Union : Has P p.pairset_Union 2 [(.tmp 4)] (Jtbi p)
 pairset_filter : Has P p.pairset_filter 2 [(.tmp 4)] (Jtbj p)
 pairset_DropV_1 : Has P p.pairset_DropV_1 2 [(.tmp 3)] (Jtbd p)
 pairset_DropL_1 : Has P p.pairset_DropL_1 2 [(.tmp 3)] (Jtbb p)
 pairset_Add : Has P p.pairset_Add 2 [(.tmp 4)] (Jtb9 p)
end Go.AE
namespace Go.AE
open Go Go.Sort
theorem Jt66 {P : Program} {f : Nat} {args : List AV} {H : List Blk} {x : AV} (hx : ∀ e rows, x ≠ .own e rows) (hxv : ∀ org e rows, x ≠ .view org e rows)
  (hH : ∀ (b : Nat) (cells : List AV) (j e : Nat) (rows : List (List D)), H[b]? = some (Blk.mem cells) → cells[j]? ≠ some (AV.own e rows))
  (h : ∀ (g : Gh) (vs : Array Value) (w : World), vs.size = args.length → Sim args.length ⟨enum 0 args, H⟩ g ⟨vs, []⟩ w → ∃ v, (∀ F φ w, Rel F φ w x.erase v) ∧ Calls P f vs w fun e w' => e = .returned v ∧ ∃ q os, w' = grow (w.drewN q) os) :
  Jt3o P f args H fun o H' => o = .ret x ∧ H' = H := by
 intro g vs w hvs hs
 obtain ⟨v, hv, hc⟩ := h g vs w hvs hs
 refine hc.mono ?_
 rintro e w' ⟨rfl, q, os, rfl⟩
 have hheap : (grow (w.drewN q) os).heap = w.heap ++ os := rfl
 have hsame : ∀ r, r < w.heap.size → (grow (w.drewN q) os).heap[r]? = w.heap[r]? := by
  intro r hr; rw [hheap, Array.getElem?_append, if_pos hr]
 have hst : Stab g.F w g.F (grow (w.drewN q) os) := by
  refine ⟨fun _ _ => Nat.le_refl _, fun r j u hj hu => ?_, Jt76 hsame⟩
  have hlt := World.block_lt_of_cell? w ⟨r, j, none⟩ hu
  simp only [World.cell?] at hu ⊢
  rw [hsame r hlt]; exact hu
 have hno : ∀ p e rows, AP ⟨[(0, x)], H⟩ p ≠ some (.own e rows) := by
  intro p e rows hp
  cases p with
  | tmp t =>
   simp only [AP, get] at hp
   split at hp
   ·injection hp with hp; exact hx e rows hp
   ·cases hp
  | cell b j =>
   simp only [AP] at hp
   split at hp
   ·rename_i cells hb; exact hH b cells j e rows hb hp
   ·cases hp
 refine ⟨.ret x, H, g, v, ⟨rfl, rfl⟩, rfl, ?_, ⟨rfl, rfl, rfl, ?_, fun r hr _ => ⟨hsame r hr, rfl⟩, hst⟩, fun _ _ _ h => h, Nat.le_refl _, ?_⟩
 ·refine { size := by simp, env := ?_, inj := hs.inj, lt := ?_, dom := hs.dom, mem := ?_, iter := ?_, glob := ?_, own := ?_, excl := ?_, apart := ?_, view := ?_ }
  ·intro t y hy
   simp only [AOut.val, get] at hy
   split at hy
   ·rename_i h0; subst h0; injection hy with hy; subst hy; exact hv _ _ _
   ·cases hy
  ·intro b r hb
   obtain ⟨h1, h2, h3⟩ := hs.lt b r hb
   refine ⟨?_, h2, h3⟩
   rw [hheap]; simp only [Array.size_append]; omega
  ·intro b cells r hb hr
   obtain ⟨c, e, h1, h2, h3⟩ := hs.mem b cells r hb hr
   refine ⟨c, e, by rw [hsame r (hs.lt b r hr).1]; exact h1, h2, fun j y hy => ?_⟩
   obtain ⟨k1, u, k2, k3⟩ := h3 j y hy
   exact ⟨k1, u, k2, k3.stab hst fun _ _ h => h⟩
  ·intro b s pos r hb hr
   rw [hsame r (hs.lt b r hr).1]; exact hs.iter b s pos r hb hr
  ·intro b s pos r hb hr
   rw [hsame r (hs.lt b r hr).1]; exact hs.glob b s pos r hb hr
  ·exact fun p e rows v hp _ => absurd hp (hno p e rows)
  ·rintro p p' r ⟨e, rows, _, hp, _⟩; exact absurd hp (hno p e rows)
  ·rintro p r b ⟨e, rows, _, hp, _⟩; exact absurd hp (hno p e rows)
  ·intro t org e rows hy
   simp only [AOut.val, get] at hy
   split at hy
   ·injection hy with hy; exact absurd hy (hxv org e rows)
   ·cases hy
 ·rw [hheap]; simp only [Array.size_append]; exact Nat.le_add_right _ _
 ·rintro r (⟨b, hb⟩ | ⟨p, e, rows, _, hp, _⟩)
  ·exact .inl (.inl ⟨b, hb⟩)
  ·exact absurd hp (hno p e rows)
abbrev I (n : Int) : D := .int .i64 n
abbrev AI (n : Int) : AV := .d (.int .i64 n)
abbrev AB (b : Bool) : AV := .d (.bool b)
structure Pair where (v l : Int)
 deriving DecidableEq, Inhabited
def Pair.row (q : Pair) : List D := [I q.v, I q.l]
def Pair.av (q : Pair) : AV := .agg [AI q.v, AI q.l]
def pairsD (l : List Pair) : D := .sl (l.map Pair.row)
theorem HasL.cons_inv {l : LT} {ls : List LT} {ds : List D} (h : HasL (l :: ls) ds) : ∃ d ds', ds = d :: ds' ∧ HasT l d ∧ HasL ls ds' := by
 obtain ⟨h1, h2⟩ := h
 cases ds with
 | nil => simp at h1
 | cons d ds => exact ⟨d, ds, rfl, h2 0 l d rfl rfl, by simpa using h1, fun j l' x a b => h2 (j + 1) l' x (by simpa using a) (by simpa using b)⟩
theorem HasL.nil_inv {ds : List D} (h : HasL [] ds) : ds = [] := by
 have := h.1; simpa using this
theorem HasT.int_inv {k : IntKind} {d : D} (h : HasT (.int k) d) : ∃ n, d = .int k n ∧ (Lit.int k n).wf = true := by
 cases h with
 | int _ n h => exact ⟨n, rfl, h⟩
theorem HasT.sl_inv {ls : List LT} {d : D} (h : HasT (.sl ls) d) : ∃ rows, d = .sl rows ∧ rows.length ≤ maxLen ∧ ∀ r ∈ rows, HasL ls r := by
 cases h with
 | sl _ rows hl h0 h => exact ⟨rows, rfl, hl, fun r hr => ⟨h0 r hr, h r hr⟩⟩
theorem Jtky {α : Type} {g : α → List D} {Q : List D → Prop} (h : ∀ r, Q r → ∃ x, r = g x) : ∀ {rows : List (List D)}, (∀ r ∈ rows, Q r) → ∃ l : List α, rows = l.map g := by
 intro rows
 induction rows with
 | nil => intro _; exact ⟨[], rfl⟩
 | cons r rows ih =>
  intro hq
  obtain ⟨x, rfl⟩ := h r (hq r (by simp))
  obtain ⟨l, rfl⟩ := ih fun r hr => hq r (by simp [hr])
  exact ⟨x :: l, rfl⟩
def ltI : LT := .int .i64
def ltPair : List LT := [ltI, ltI]
def lessP (a b : Pair) : Bool := if a.v = b.v then decide (a.l < b.l) else decide (a.v < b.v)
theorem Jtdy {a b : Pair} : lessP a b = true ↔ a.v < b.v ∨ (a.v = b.v ∧ a.l < b.l) := by
 unfold lessP; split <;> simp <;> omega
theorem Jte1 {a b : Pair} (h1 : lessP a b = false) (h2 : lessP b a = false) : a = b := by
 have h1 : ¬ lessP a b = true := by simp [h1]
 have h2 : ¬ lessP b a = true := by simp [h2]
 rw [Jtdy] at h1 h2
 obtain ⟨a1, a2⟩ := a; obtain ⟨b1, b2⟩ := b
 simp only [Pair.mk.injEq]; simp only at h1 h2; omega
theorem Jte2 {a b c : Pair} (h1 : lessP a b = true) (h2 : lessP b c = true) : lessP a c = true := by
 rw [Jtdy] at *; omega
theorem Jtdz (a : Pair) : lessP a a = false := by
 cases h : lessP a a with
 | false => rfl
 | true => rw [Jtdy] at h; omega
theorem Jtdx {a b : Pair} (h1 : lessP a b = true) : lessP b a = false := by
 cases h : lessP b a with
 | false => rfl
 | true => have := Jte2 h1 h; rw [Jtdz] at this; cases this
def stepA (p : Pair) (s : List Pair × Bool) (q : Pair) : List Pair × Bool :=
 let s := if s.2 = false ∧ lessP q p = false then (s.1 ++ [p], true) else s
 if q = p then s else (s.1 ++ [q], s.2)
def foldA (p : Pair) (l : List Pair) : List Pair × Bool := l.foldl (stepA p) ([], false)
def addP (l : List Pair) (p : Pair) : List Pair := if (foldA p l).2 = true then (foldA p l).1 else (foldA p l).1 ++ [p]
def makeP (l : List Pair) : List Pair := l.foldl addP []
def missP (a b : List Pair) : Option Pair := a.find? fun q => !decide (q ∈ b)
theorem Jt8v {p : Pair} {l : List Pair} {k : Nat} (h : k < l.length) : foldA p (l.take (k + 1)) = stepA p (foldA p (l.take k)) l[k] := by
 rw [foldA, foldA, List.take_add_one, List.foldl_append]; simp [h]
theorem Jtn2 (p : Pair) (s : List Pair × Bool) (q : Pair) : (stepA p s q).1.length ≤ s.1.length + 2 := by
 unfold stepA; dsimp only; split <;> split <;> simp
theorem Jt8u (p : Pair) (l : List Pair) (s : List Pair × Bool) : (l.foldl (stepA p) s).1.length ≤ s.1.length + 2 * l.length := by
 induction l generalizing s with
 | nil => simp
 | cons q l ih => have := ih (stepA p s q); have := Jtn2 p s q; simp only [List.foldl_cons, List.length_cons]; omega
theorem Jt7y {a b : Pair} (h1 : a.v = b.v) (h2 : a.l = b.l) : a = b := by cases a; cases b; simp_all
theorem Jthb (a b : Pair) : (decide (a.v = b.v) && decide (a.l = b.l)) = decide (a = b) := by
 by_cases h : a = b
 ·subst h; simp
 ·rw [decide_eq_false h]
  cases h1 : decide (a.v = b.v) <;> cases h2 : decide (a.l = b.l) <;> simp_all
  exact h (Jt7y h1 h2)
theorem Jtha (a b : Pair) : (a.v == b.v && a.l == b.l) = decide (a = b) := by
 rw [← Jthb]; rfl
def Srt (l : List Pair) : Prop := l.Pairwise fun a b => lessP a b = true
theorem Jtmn {a : Pair} {l : List Pair} : Srt (a :: l) ↔ (∀ b ∈ l, lessP a b = true) ∧ Srt l := List.pairwise_cons
theorem Jtmt {l : List Pair} (h : Srt l) {i j : Nat} (hij : i < j) (hj : j < l.length) : lessP (l[i]'(by omega)) l[j] = true := List.pairwise_iff_getElem.1 h i j (by omega) hj hij
theorem Jtmm {l : List Pair} : Srt l ↔ ∀ k, (h : k + 1 < l.length) → lessP (l[k]) (l[k+1]) = true := by
 constructor
 ·intro h k hk; exact Jtmt h (by omega) hk
 ·intro h
  refine List.pairwise_iff_getElem.2 fun i j hi hj hij => ?_
  obtain ⟨n, rfl⟩ : ∃ n, j = i + 1 + n := ⟨j - (i + 1), by omega⟩
  induction n with
  | zero => exact h i hj
  | succ n ih => exact Jte2 (ih (by omega) (by omega)) (h (i + 1 + n) (by omega))
theorem Jtmq : ∀ {a b : List Pair}, Srt a → Srt b → (∀ q, q ∈ a ↔ q ∈ b) → a = b := by
 intro a
 induction a with
 | nil =>
  intro b _ _ h
  cases b with
  | nil => rfl
  | cons y b => have := (h y).2 (by simp); cases this
 | cons x a ih =>
  intro b ha hb h
  cases b with
  | nil => have := (h x).1 (by simp); cases this
  | cons y b =>
   rw [Jtmn] at ha hb
   have exy : x = y := by
    have h1 := (h x).1 (by simp)
    have h2 := (h y).2 (by simp)
    rw [List.mem_cons] at h1 h2
    rcases h1 with h1 | h1
    ·exact h1
    ·rcases h2 with h2 | h2
     ·exact h2.symm
     ·have := Jtdx (hb.1 x h1); rw [ha.1 y h2] at this; cases this
   subst exy
   have : a = b := by
    refine ih ha.2 hb.2 fun q => ?_
    have hq := h q
    rw [List.mem_cons, List.mem_cons] at hq
    constructor
    ·intro hqa
     rcases hq.1 (.inr hqa) with e | e
     ·subst e; have := ha.1 q hqa; rw [Jtdz] at this; cases this
     ·exact e
    ·intro hqb
     rcases hq.2 (.inr hqb) with e | e
     ·subst e; have := hb.1 q hqb; rw [Jtdz] at this; cases this
     ·exact e
   rw [this]
def posP (l : List Pair) (p : Pair) : Nat := (l.takeWhile fun q => lessP q p).length
def insP (l : List Pair) (p : Pair) : List Pair := (l.takeWhile fun q => lessP q p) ++ p :: (l.dropWhile fun q => lessP q p).filter fun q => decide (q ≠ p)
theorem Jte0 {a b : Pair} (h : lessP a b = true) : a ≠ b := by rintro rfl; rw [Jtdz] at h; cases h
theorem Jt8w (p : Pair) (l out : List Pair) : l.foldl (stepA p) (out, true) = (out ++ l.filter (fun q => decide (q ≠ p)), true) := by
 induction l generalizing out with
 | nil => simp
 | cons q l ih =>
  by_cases e : q = p
  ·simp [stepA, e, ih]
  ·simp [stepA, e, ih]
theorem Jt8y (p : Pair) (l out : List Pair) : l.foldl (stepA p) (out, false) = if (l.dropWhile fun q => lessP q p) = [] then (out ++ l, false) else (out ++ insP l p, true) := by
 induction l generalizing out with
 | nil => simp
 | cons q l ih =>
  cases h : lessP q p with
  | true =>
   have hne := Jte0 h
   simp only [List.foldl_cons, stepA, h, hne, if_false, and_false, ih, List.dropWhile_cons, if_true, Bool.true_eq_false, insP, List.takeWhile_cons]
   split <;> simp [List.append_assoc]
  | false =>
   simp only [List.foldl_cons, stepA, h, and_self, if_true, List.dropWhile_cons, Bool.false_eq_true, if_false, reduceCtorEq, insP, List.takeWhile_cons, List.nil_append]
   by_cases e : q = p
   ·simp [e, Jt8w]
   ·simp [e, Jt8w]
theorem Jt4e (l : List Pair) (p : Pair) : addP l p = insP l p := by
 unfold addP foldA
 rw [Jt8y]
 split
 ·rename_i h
  simp only [List.nil_append, Bool.false_eq_true, if_false, insP, h, List.filter_nil]
  have : l.takeWhile (fun q => lessP q p) = l := by
   have e := List.takeWhile_append_dropWhile (p := fun q => lessP q p) (l := l)
   rw [h, List.append_nil] at e; exact e
  rw [this]
 ·simp
theorem Jtf9 {l : List Pair} {p q : Pair} : q ∈ addP l p ↔ q = p ∨ q ∈ l := by
 rw [Jt4e, insP]
 have e := List.takeWhile_append_dropWhile (p := fun q => lessP q p) (l := l)
 have e2 : q ∈ l ↔ q ∈ l.takeWhile (fun q => lessP q p) ∨ q ∈ l.dropWhile (fun q => lessP q p) := by
  rw [← List.mem_append, e]
 simp only [List.mem_append, List.mem_cons, List.mem_filter, decide_eq_true_eq, e2]
 by_cases h : q = p <;> simp [h]
theorem Jt7i {l : List Pair} {p : Pair} (h : Srt l) : ∀ q ∈ l.dropWhile (fun q => lessP q p), lessP q p = false := by
 induction l with
 | nil => intro q hq; simp at hq
 | cons x l ih =>
  intro q hq
  rw [Jtmn] at h
  cases hx : lessP x p with
  | true => rw [List.dropWhile_cons, hx, if_pos rfl] at hq; exact ih h.2 q hq
  | false =>
   rw [List.dropWhile_cons, hx, if_neg (by simp)] at hq
   rcases List.mem_cons.1 hq with rfl | hq
   ·exact hx
   ·cases hqp : lessP q p with
    | false => rfl
    | true => rw [Jte2 (h.1 q hq) hqp] at hx; cases hx
theorem Jtni {l : List Pair} {p : Pair} : ∀ q ∈ l.takeWhile (fun q => lessP q p), lessP q p = true := by
 induction l with
 | nil => intro q hq; simp at hq
 | cons x l ih =>
  intro q hq
  cases hx : lessP x p with
  | true =>
   rw [List.takeWhile_cons, hx, if_pos rfl] at hq
   rcases List.mem_cons.1 hq with rfl | hq
   ·exact hx
   ·exact ih q hq
  | false => rw [List.takeWhile_cons, hx, if_neg (by simp)] at hq; simp at hq
theorem Jtmy {a b : List Pair} (h : a.Sublist b) (hb : Srt b) : Srt a := List.Pairwise.sublist h hb
theorem Jtml {l : List Pair} {p : Pair} (h : Srt l) : Srt (addP l p) := by
 rw [Jt4e, insP]
 refine List.pairwise_append.2 ⟨Jtmy (List.takeWhile_sublist _) h, Jtmn.2 ⟨?_, ?_⟩, ?_⟩
 ·intro b hb
  rw [List.mem_filter, decide_eq_true_eq] at hb
  have h1 := Jt7i h b hb.1
  cases h2 : lessP p b with
  | true => rfl
  | false => exact absurd (Jte1 h2 h1).symm hb.2
 ·exact Jtmy (List.filter_sublist.trans (List.dropWhile_sublist _)) h
 ·intro a ha b hb
  have h1 := Jtni a ha
  rcases List.mem_cons.1 hb with rfl | hb
  ·exact h1
  ·rw [List.mem_filter, decide_eq_true_eq] at hb
   have h2 := Jt7i h b hb.1
   cases h3 : lessP p b with
   | true => exact Jte2 h1 h3
   | false => exact absurd (Jte1 h3 h2).symm hb.2
theorem Jtez (l : List Pair) (q : Pair) : makeP (l ++ [q]) = addP (makeP l) q := by simp [makeP]
theorem Jtey {motive : List Pair → Prop} (h0 : motive []) (h1 : ∀ l q, motive l → motive (l ++ [q])) (l : List Pair) : motive l := by
 generalize hn : l.length = n
 induction n generalizing l with
 | zero => have : l = [] := List.length_eq_zero_iff.1 hn; subst this; exact h0
 | succ n ih =>
  have hne : l ≠ [] := by rintro rfl; simp at hn
  rw [← List.dropLast_concat_getLast hne]
  exact h1 _ _ (ih _ (by simp [hn]))
theorem Jtmu (l : List Pair) : Srt (makeP l) := by
 induction l using Jtey with
 | h0 => exact List.Pairwise.nil
 | h1 l q ih => rw [Jtez]; exact Jtml ih
theorem Jtfd {l : List Pair} {q : Pair} : q ∈ makeP l ↔ q ∈ l := by
 induction l using Jtey with
 | h0 => simp [makeP]
 | h1 l x ih => rw [Jtez, Jtf9, ih]; simp [or_comm]
theorem Jtf0 {l : List Pair} (h : Srt l) : makeP l = l := Jtmq (Jtmu l) h fun q => Jtfd
theorem Jtmx {l : List Pair} (h : Srt l) : l.Nodup := List.Pairwise.imp (fun h => Jte0 h) h
theorem Jt4f (l : List Pair) (p : Pair) : (addP l p).length ≤ l.length + 1 := by
 rw [Jt4e, insP]
 have e := congrArg List.length (List.takeWhile_append_dropWhile (p := fun q => lessP q p) (l := l))
 have e2 := List.length_filter_le (fun q => decide (q ≠ p)) (l.dropWhile fun q => lessP q p)
 simp only [List.length_append, List.length_cons] at e ⊢; omega
theorem Jtex (l : List Pair) : (makeP l).length ≤ l.length := by
 induction l using Jtey with
 | h0 => simp [makeP]
 | h1 l x ih => rw [Jtez]; have := Jt4f (makeP l) x; simp only [List.length_append, List.length_cons, List.length_nil]; omega
section
theorem Jtj0 {P : Program} {p : Nums} (A : All P p) (a b : Pair) : Jt3o P p.ref11_Less [a.av, b.av] [] fun o _ => o = .ret (AB (lessP a b)) := by
 refine A.ref11_Less.run rfl fun R hR => ?_
 (simp (maxSteps := 1000000) [Jtc3, Pair.av])
 ((first | refine Xc (fun h => ?_) (fun h => ?_) | refine Xo (fun h => ?_) (fun h => ?_)) <;> (try simp only [Xz, Xy] at h))
 ·(simp (maxSteps := 1000000) [h])
  (first | exact hR _ _ FrA | exact hR _ _ FnA | exact hR _ _ (Xf (hq := by simp [AV.erase, AV.unview, lessP, h]; done)))
 ·(simp (maxSteps := 1000000) [h])
  (first | exact hR _ _ FrA | exact hR _ _ FnA | exact hR _ _ (Xf (hq := by simp [AV.erase, AV.unview, lessP, h]; done)))
theorem Jtiz {P : Program} {p : Nums} (A : All P p) (l : List Pair) (q : Pair) (h0 : l.length < 1000000000) : Jt3o P p.ref11_Has [.d (pairsD l), q.av] [] fun o _ => o = .ret (AB (decide (q ∈ l))) := by
 refine A.ref11_Has.run rfl fun R hR => ?_
 (simp (maxSteps := 1000000) [Jtc2, pairsD, Pair.av])
 refine Jt9 (fun k : Nat => ⟨[(5, AI k), (4, AB false), (3, .ptr 0 0), (0, .d (.sl (l.map Pair.row)))], [.mem [AI q.v, AI q.l]]⟩) (fun k => k ≤ l.length ∧ q ∉ l.take k) (fun k => l.length - k) 0 (by simp) (by (exact wkA)) ?_
 rintro k ⟨hk, hz⟩ N hN
 (simp (maxSteps := 1000000) [])
 ((first | refine Xc (fun h2 => ?_) (fun h2 => ?_) | refine Xo (fun h2 => ?_) (fun h2 => ?_)) <;> (try simp only [Xz, Xy] at h2))
 ·have hkl : k < l.length := by simpa using h2
  have hb : l[k]? = some l[k] := by simp
  have hw := Jtoq (k := k) (by omega)
  (simp (maxSteps := 1000000) [h2, hb, Pair.row])
  ((first | refine Xc (fun h3 => ?_) (fun h3 => ?_) | refine Xo (fun h3 => ?_) (fun h3 => ?_)) <;> (try simp only [Xz, Xy] at h3))
  ·(simp (maxSteps := 1000000) [h3])
   have e : q = l[k] := by cases q; cases hq : l[k]; simp_all
   have : q ∈ l := by rw [e]; exact List.getElem_mem hkl
   (first | exact hR _ _ FrA | exact hR _ _ FnA | exact hR _ _ (Xf (hq := by simp [AV.erase, AV.unview, this]; done)))
  ·(simp (maxSteps := 1000000) [h3, hw])
   refine hN _ (k + 1) ⟨hkl, ?_⟩ (by (exact wkA)) (by omega)
   rw [List.take_add_one, hb]
   simp only [List.mem_append, not_or, hz, not_false_eq_true, true_and, Option.toList, List.mem_singleton]
   intro e; subst e; simp at h3
 ·have hk' : k = l.length := by simp at h2; omega
  subst hk'
  have : q ∉ l := by simpa using hz
  (simp (maxSteps := 1000000) [])
  (first | exact hR _ _ FrA | exact hR _ _ FnA | exact hR _ _ (Xf (hq := by simp [AV.erase, AV.unview, this]; done)))
end
section
theorem Jtiy {P : Program} {p : Nums} (A : All P p) (l : List Pair) (q : Pair) (h0 : l.length < 1000000) : Jt3o P p.ref11_Add [.d (pairsD l), q.av] [] fun o _ => o = .ret (.d (pairsD (addP l q))) := by
 refine A.ref11_Add.run rfl fun R hR => ?_
 (simp (maxSteps := 1000000) [Jtc1, pairsD, Pair.av])
 refine Jt9 (fun k : Nat => ⟨[(7, AI k), (6, AB (foldA q (l.take k)).2), (5, .own 2 ((foldA q (l.take k)).1.map Pair.row)), (4, .nils), (3, .ptr 0 0), (0, .d (.sl (l.map Pair.row)))], [.mem [AI q.v, AI q.l]]⟩) (fun k => k ≤ l.length) (fun k => l.length - k) 0 (by simp) (by simp only [foldA, List.take_zero, List.foldl_nil, List.map_nil]; (exact wkA)) ?_
 intro k hk N hN
 have hlen := Jt8u q (l.take k) ([], false)
 obtain ⟨out, dn, hs⟩ : ∃ out dn, foldA q (l.take k) = (out, dn) := ⟨_, _, rfl⟩
 have hlen : out.length ≤ 2 * k := by
  have : (foldA q (l.take k)).1.length ≤ 0 + 2 * (l.take k).length := hlen
  rw [hs] at this; simp at this; omega
 simp only [hs]
 (simp (maxSteps := 1000000) [])
 ((first | refine Xc (fun h2 => ?_) (fun h2 => ?_) | refine Xo (fun h2 => ?_) (fun h2 => ?_)) <;> (try simp only [Xz, Xy] at h2))
 ·have hkl : k < l.length := by simpa using h2
  have hb : l[k]? = some l[k] := by simp
  have hw := Jtoq (k := k) (by omega)
  have hsn := Jt8v (p := q) hkl
  rw [hs] at hsn
  have next : ∀ st', Wk 0 st' ⟨[(7, AI ((k + 1 : Nat) : Int)), (6, AB (stepA q (out, dn) l[k]).2), (5, .own 2 ((stepA q (out, dn) l[k]).1.map Pair.row)), (4, .nils), (3, .ptr 0 0), (0, .d (.sl (l.map Pair.row)))], [.mem [AI q.v, AI q.l]]⟩ → N st' := by
   intro st' h; rw [← hsn] at h; exact hN st' (k + 1) hkl h (by omega)
  obtain ⟨x, hx⟩ : ∃ x, x = l[k] := ⟨_, rfl⟩
  rw [← hx] at hb next
  have hrow : ∀ l : List Pair, ∀ r ∈ l.map Pair.row, r.length = 2 := fun l => Jtkx fun x => rfl
  (simp (maxSteps := 1000000) [h2, hb, Pair.row])
  cases dn with
  | true =>
   (simp (maxSteps := 1000000) [hb, Pair.row])
   ((first | refine Xc (fun h3 => ?_) (fun h3 => ?_) | refine Xo (fun h3 => ?_) (fun h3 => ?_)) <;> (try simp only [Xz, Xy] at h3))
   ·have e : x ≠ q := by rintro rfl; simp at h3
    (simp (maxSteps := 1000000) [h3, hb, hw, Pair.row])
    (refine Jt16 (by rfl) (by rfl) (by rfl) ?_ (by decide) ?_ ?_ ?_)
    ·simp
    ·simp; omega
    ·simp; omega
    (simp (maxSteps := 1000000) [hw])
    exact next _ (by simp only [stepA, e]; simp [Pair.row]; (exact wkA))
   ·have e : x = q := by cases x; cases q; simp_all
    (simp (maxSteps := 1000000) [h3, hw])
    exact next _ (by simp only [stepA, e]; simp; (exact wkA))
  | false =>
   (simp (maxSteps := 1000000) [hb, Pair.row])
   (refine Jtt (Jtj0 A x q) (by rfl) (by rfl) ?_)
   (simp (maxSteps := 1000000) [])
   by_cases hl : lessP x q = true
   ·(simp (maxSteps := 1000000) [hl, hb, hw, Pair.row])
    ((first | refine Xc (fun h3 => ?_) (fun h3 => ?_) | refine Xo (fun h3 => ?_) (fun h3 => ?_)) <;> (try simp only [Xz, Xy] at h3))
    ·have e : x ≠ q := by rintro rfl; simp at h3
     (simp (maxSteps := 1000000) [h3, hb, hw, Pair.row])
     (refine Jt16 (by rfl) (by rfl) (by rfl) ?_ (by decide) ?_ ?_ ?_)
     ·simp
     ·simp; omega
     ·simp; omega
     (simp (maxSteps := 1000000) [hw])
     exact next _ (by simp only [stepA, hl, e]; simp [Pair.row]; (exact wkA))
    ·have e : x = q := by cases x; cases q; simp_all
     (simp (maxSteps := 1000000) [h3, hw])
     subst e
     exact next _ (by simp only [stepA, hl]; simp; (exact wkA))
   ·have hl : lessP x q = false := by simpa using hl
    (simp (maxSteps := 1000000) [hl, hb, hw, Pair.row])
    (refine Jt16 (by rfl) (by rfl) (by rfl) ?_ (by decide) ?_ ?_ ?_)
    ·simp
    ·simp; omega
    ·simp; omega
    (simp (maxSteps := 1000000) [hb, hw, Pair.row])
    ((first | refine Xc (fun h3 => ?_) (fun h3 => ?_) | refine Xo (fun h3 => ?_) (fun h3 => ?_)) <;> (try simp only [Xz, Xy] at h3))
    ·have e : x ≠ q := by rintro rfl; simp at h3
     (simp (maxSteps := 1000000) [h3, hb, hw, Pair.row])
     (refine Jt16 (by rfl) (by rfl) (by rfl) ?_ (by decide) ?_ ?_ ?_)
     ·simp
     ·simp; omega
     ·simp; omega
     (simp (maxSteps := 1000000) [hw])
     exact next _ (by simp only [stepA, hl, e]; simp [Pair.row]; (exact wkA))
    ·have e : x = q := by cases x; cases q; simp_all
     (simp (maxSteps := 1000000) [h3, hw])
     subst e
     exact next _ (by simp only [stepA, hl]; simp [Pair.row]; (exact wkA))
 ·have hk' : k = l.length := by simp at h2; omega
  subst hk'
  rw [List.take_length] at hs
  cases dn with
  | true =>
   (simp (maxSteps := 1000000) [])
   (first | exact hR _ _ FrA | exact hR _ _ FnA | exact hR _ _ (Xf (hq := by simp [AV.erase, AV.unview, addP, hs, pairsD]; done)))
  | false =>
   (simp (maxSteps := 1000000) [])
   (refine Jt16 (by rfl) (by rfl) (by rfl) ?_ (by decide) ?_ ?_ ?_)
   ·simp
   ·simp; omega
   ·simp; omega
   (simp (maxSteps := 1000000) [])
   (first | exact hR _ _ FrA | exact hR _ _ FnA | exact hR _ _ (Xf (hq := by simp [AV.erase, AV.unview, addP, hs, pairsD, Pair.row]; done)))
end
def missA (a b : List Pair) : AV := .tup [((missP a b).getD ⟨0, 0⟩).av, AB (missP a b).isSome]
theorem Jtfo {a b : List Pair} {k : Nat} (h : k < a.length) (h1 : ∀ q ∈ a.take k, q ∈ b) (h2 : a[k] ∉ b) : missP a b = some a[k] := by
 unfold missP
 have e : a = a.take k ++ a[k] :: a.drop (k + 1) := by rw [List.getElem_cons_drop, List.take_append_drop]
 have e1 : (a.take k).find? (fun q => !decide (q ∈ b)) = none := by
  rw [List.find?_eq_none]; intro q hq; simp [h1 q hq]
 have e2 : (a[k] :: a.drop (k + 1)).find? (fun q => !decide (q ∈ b)) = some a[k] := by
  rw [List.find?_cons_of_pos (by simp [h2])]
 have e3 := congrArg (List.find? fun q => !decide (q ∈ b)) e
 rw [List.find?_append, e1, e2] at e3
 exact e3
theorem Jtfp {a b : List Pair} (h1 : ∀ q ∈ a, q ∈ b) : missP a b = none := by
 unfold missP; rw [List.find?_eq_none]; intro q hq; simp [h1 q hq]
section
theorem Jtj1 {P : Program} {p : Nums} (A : All P p) (a b : List Pair) (h0 : a.length < 1000000) (h1 : b.length < 1000000) : Jt3o P p.ref11_Missing [.d (pairsD a), .d (pairsD b)] [] fun o _ => o = .ret (missA a b) := by
 refine A.ref11_Missing.run rfl fun R hR => ?_
 (simp (maxSteps := 1000000) [Jtc4, pairsD])
 refine Jt9 (fun k : Nat => ⟨[(6, AI k), (5, AB false), (4, .ptr 0 0), (1, .d (.sl (b.map Pair.row))), (0, .d (.sl (a.map Pair.row)))], [.mem [AI 0, AI 0]]⟩) (fun k => k ≤ a.length ∧ ∀ q ∈ a.take k, q ∈ b) (fun k => a.length - k) 0 (by simp) (by (exact wkA)) ?_
 rintro k ⟨hk, hz⟩ N hN
 (simp (maxSteps := 1000000) [])
 ((first | refine Xc (fun h2 => ?_) (fun h2 => ?_) | refine Xo (fun h2 => ?_) (fun h2 => ?_)) <;> (try simp only [Xz, Xy] at h2))
 ·have hkl : k < a.length := by simpa using h2
  have hb : a[k]? = some a[k] := by simp
  have hw := Jtoq (k := k) (by omega)
  (simp (maxSteps := 1000000) [h2, hb, Pair.row])
  (refine Jtt (Jtiz A b a[k] (by omega)) (by rfl) (by rfl) ?_)
  (simp (maxSteps := 1000000) [])
  ((first | refine Xc (fun h3 => ?_) (fun h3 => ?_) | refine Xo (fun h3 => ?_) (fun h3 => ?_)) <;> (try simp only [Xz, Xy] at h3))
  ·(simp (maxSteps := 1000000) [h3, hb, Pair.row])
   have := Jtfo hkl hz (by simpa using h3)
   (first | exact hR _ _ FrA | exact hR _ _ FnA | exact hR _ _ (Xf (hq := by simp [AV.erase, AV.unview, missA, this, Pair.av]; done)))
  ·(simp (maxSteps := 1000000) [h3, hw])
   refine hN _ (k + 1) ⟨hkl, ?_⟩ (by (exact wkA)) (by omega)
   intro q hq
   rw [List.take_add_one, hb] at hq
   rcases List.mem_append.1 hq with hq | hq
   ·exact hz q hq
   ·simp at hq; subst hq; simpa using h3
 ·have hk' : k = a.length := by simp at h2; omega
  subst hk'
  have := Jtfp (a := a) (b := b) (by simpa using hz)
  (simp (maxSteps := 1000000) [])
  (first | exact hR _ _ FrA | exact hR _ _ FnA | exact hR _ _ (Xf (hq := by simp [AV.erase, AV.unview, missA, this, Pair.av]; done)))
theorem Jthl {P : Program} {p : Nums} (A : All P p) (a b : Pair) : Jt3o P p.pairset_Less [a.av, b.av] [] fun o _ => o = .ret (AB (lessP a b)) := by
 refine A.pairset_Less.run rfl fun R hR => ?_
 (simp (maxSteps := 1000000) [Jtbf, Pair.av])
 ((first | refine Xc (fun h => ?_) (fun h => ?_) | refine Xo (fun h => ?_) (fun h => ?_)) <;> (try simp only [Xz, Xy] at h))
 ·(simp (maxSteps := 1000000) [h])
  have e : lessP a b = true := by rw [Jtdy]; omega
  (first | exact hR _ _ FrA | exact hR _ _ FnA | exact hR _ _ (Xf (hq := by simp [AV.erase, AV.unview, e]; done)))
 (simp (maxSteps := 1000000) [h])
 ((first | refine Xc (fun h1 => ?_) (fun h1 => ?_) | refine Xo (fun h1 => ?_) (fun h1 => ?_)) <;> (try simp only [Xz, Xy] at h1))
 ·(simp (maxSteps := 1000000) [h1])
  (first | exact hR _ _ FrA | exact hR _ _ FnA | exact hR _ _ (Xf (hq := by simp [AV.erase, AV.unview, lessP, h1]; done)))
 ·(simp (maxSteps := 1000000) [h1])
  have e : lessP a b = false := by
   cases e : lessP a b with
   | false => rfl
   | true => rw [Jtdy] at e; omega
  (first | exact hR _ _ FrA | exact hR _ _ FnA | exact hR _ _ (Xf (hq := by simp [AV.erase, AV.unview, e]; done)))
end
theorem Jtnh {α : Type} (f : α → Bool) (l : List α) : l.takeWhile f = l.take (l.takeWhile f).length := by
 have e := List.takeWhile_append_dropWhile (p := f) (l := l)
 have := congrArg (List.take (l.takeWhile f).length) e
 rw [List.take_left'] at this
 ·exact this
 ·rfl
theorem Jt7h {α : Type} (f : α → Bool) (l : List α) : l.dropWhile f = l.drop (l.takeWhile f).length := by
 have e := List.takeWhile_append_dropWhile (p := f) (l := l)
 have := congrArg (List.drop (l.takeWhile f).length) e
 rw [List.drop_left'] at this
 ·exact this
 ·rfl
theorem Jtng {α : Type} (f : α → Bool) (l : List α) (i : Nat) (hi : i ≤ l.length) (h1 : ∀ j, j < i → (h : j < l.length) → f l[j] = true) (h2 : (h : i < l.length) → f l[i] = false) : (l.takeWhile f).length = i := by
 induction l generalizing i with
 | nil => simp at hi; simp [hi]
 | cons x l ih =>
  cases i with
  | zero => have := h2 (by simp); simp at this; simp [List.takeWhile_cons, this]
  | succ i =>
   have h0 := h1 0 (by omega) (by simp)
   simp at h0
   rw [List.takeWhile_cons, h0, if_pos rfl, List.length_cons]
   have := ih i (by simpa using hi) (fun j hj h => by have := h1 (j + 1) (by omega) (by simpa using h); simpa using this) (fun h => by have := h2 (by simpa using h); simpa using this)
   rw [this]
theorem Jti2 (l : List Pair) (p : Pair) : posP l p ≤ l.length := (List.takeWhile_sublist _).length_le
theorem Jti3 {l : List Pair} {p : Pair} {j : Nat} (h : j < posP l p) (hl : j < l.length) : lessP l[j] p = true := by
 have h1 : (l.takeWhile fun q => lessP q p)[j]? = some l[j] := by
  rw [Jtnh, List.getElem?_take]; simp only [posP] at h; simp [h]
 exact Jtni _ (List.mem_of_getElem? h1)
theorem Jti1 {l : List Pair} {p : Pair} (hs : Srt l) {j : Nat} (h : posP l p ≤ j) (hl : j < l.length) : lessP l[j] p = false := by
 refine Jt7i hs _ ?_
 rw [Jt7h]
 have : (l.drop (posP l p))[j - posP l p]? = some l[j] := by rw [List.getElem?_drop]; simp [Nat.add_sub_cancel' h]
 exact List.mem_of_getElem? this
theorem Jtfg {l : List Pair} {p : Pair} (hs : Srt l) : p ∈ l ↔ l[posP l p]? = some p := by
 constructor
 ·intro h
  obtain ⟨j, hj, e⟩ := List.getElem_of_mem h
  have h1 : posP l p ≤ j := by
   rcases Nat.lt_or_ge j (posP l p) with h2 | h2
   ·have := Jti3 h2 hj; rw [e, Jtdz] at this; cases this
   ·exact h2
  have h2 : j ≤ posP l p := by
   rcases Nat.lt_or_ge (posP l p) j with h2 | h2
   ·have h3 := Jtmt hs h2 hj
    rw [e, Jti1 hs (Nat.le_refl _) (by omega)] at h3; cases h3
   ·exact h2
  have : posP l p = j := by omega
  rw [this, List.getElem?_eq_getElem hj, e]
 ·exact List.mem_of_getElem?
theorem Jt8d {l : List Pair} {p : Pair} (h : p ∉ l) : l.filter (fun q => decide (q ≠ p)) = l := by
 rw [List.filter_eq_self]; intro a ha; simp; rintro rfl; exact h ha
theorem Jt4g {l : List Pair} {p : Pair} (hs : Srt l) : addP l p = l.take (posP l p) ++ p :: l.drop (if p ∈ l then posP l p + 1 else posP l p) := by
 rw [Jt4e, insP, Jtnh, Jt7h]
 show l.take (posP l p) ++ p :: (l.drop (posP l p)).filter _ = _
 congr 2
 split
 ·rename_i h
  have hp := (Jtfg hs).1 h
  have hlt := (List.getElem?_eq_some_iff.1 hp).1
  have he := (List.getElem?_eq_some_iff.1 hp).2
  have hs' : Srt (l.drop (posP l p)) := Jtmy (List.drop_sublist _ _) hs
  rw [List.drop_eq_getElem_cons hlt, he] at hs' ⊢
  rw [List.filter_cons_of_neg (by simp)]
  refine Jt8d fun hm => ?_
  have := (Jtmn.1 hs').1 p hm
  rw [Jtdz] at this; cases this
 ·rename_i h
  exact Jt8d fun hm => h (List.drop_subset _ _ hm)
section
theorem Jthr {P : Program} {p : Nums} (A : All P p) (l : List Pair) (q : Pair) (h0 : l.length < 1000000000) (hs : Srt l) : Jt3o P p.pairset_find [.d (pairsD l), q.av] [] fun o _ => o = .ret (AI (posP l q)) := by
 refine A.pairset_find.run rfl fun R hR => ?_
 (simp (maxSteps := 1000000) [Jtbk, pairsD, Pair.av])
 refine Jt9 (fun k : Nat × Nat => ⟨[(5, AI k.1), (6, AI k.2), (4, AI 0), (3, .ptr 0 0), (0, .d (.sl (l.map Pair.row)))], [.mem [AI q.v, AI q.l]]⟩)
  (fun k => k.1 ≤ k.2 ∧ k.2 ≤ l.length ∧ (∀ j, j < k.1 → (h : j < l.length) → lessP l[j] q = true) ∧ ∀ j, k.2 ≤ j → (h : j < l.length) → lessP l[j] q = false) (fun k => k.2 - k.1) (0, l.length) (by simp; intro j h1 h2; omega) (by (exact wkA)) ?_
 rintro ⟨a, b⟩ ⟨hab, hb, hlo, hhi⟩ N hN
 simp only at hab hb hlo hhi hN ⊢
 (simp (maxSteps := 1000000) [])
 ((first | refine Xc (fun h2 => ?_) (fun h2 => ?_) | refine Xo (fun h2 => ?_) (fun h2 => ?_)) <;> (try simp only [Xz, Xy] at h2))
 ·have hm : a + (b - a) / 2 < l.length := by omega
  have hma : a ≤ a + (b - a) / 2 := by omega
  have hmb : a + (b - a) / 2 < b := by omega
  have hw1 : IntKind.i64.wrap ((b : Int) - (a : Int)) = ((b - a : Nat) : Int) := by rw [wrap_i64 (by omega) (by omega)]; omega
  have hw2 : IntKind.i64.wrap (((b - a : Nat) : Int) / 2) = (((b - a) / 2 : Nat) : Int) := by rw [wrap_i64 (by omega) (by omega)]; omega
  have hw3 : IntKind.i64.wrap ((a : Int) + (((b - a) / 2 : Nat) : Int)) = ((a + (b - a) / 2 : Nat) : Int) := by rw [wrap_i64 (by omega) (by omega)]; omega
  obtain ⟨d, hd⟩ : ∃ d, d = b - a := ⟨_, rfl⟩
  obtain ⟨d2, hd2⟩ : ∃ d2, d2 = d / 2 := ⟨_, rfl⟩
  obtain ⟨m, hmm⟩ : ∃ m, m = a + d2 := ⟨_, rfl⟩
  have hw := Jtoq (k := m) (by omega)
  simp only [← hd, ← hd2, ← hmm] at hm hma hmb hw1 hw2 hw3
  have hbm : l[m]? = some l[m] := by simp
  (simp (maxSteps := 1000000) [h2, hw1])
  (simp (maxSteps := 1000000) [hw2])
  (simp (maxSteps := 1000000) [hw3, hbm, Pair.row])
  (refine Jtt (Jthl A l[m] q) (by rfl) (by rfl) ?_)
  (simp (maxSteps := 1000000) [])
  ((first | refine Xc (fun h3 => ?_) (fun h3 => ?_) | refine Xo (fun h3 => ?_) (fun h3 => ?_)) <;> (try simp only [Xz, Xy] at h3))
  ·(simp (maxSteps := 1000000) [h3, hw])
   refine hN _ (m + 1, b) ⟨by simp only; omega, hb, ?_, hhi⟩ (by (exact wkA)) (by simp only; omega)
   intro j hj h
   simp only at hj
   by_cases e : j = m
   ·subst e; exact h3
   ·exact Jte2 (Jtmt hs (by omega : j < m) hm) h3
  ·(simp (maxSteps := 1000000) [h3])
   refine hN _ (a, m) ⟨by simp only; omega, by simp only; omega, hlo, ?_⟩ (by (exact wkA)) (by simp only; omega)
   intro j hj h
   simp only at hj
   cases e : lessP l[j] q with
   | false => rfl
   | true =>
    by_cases e2 : j = m
    ·subst e2; rw [e] at h3; simp at h3
    ·rw [Jte2 (Jtmt hs (by omega : m < j) h) e] at h3; simp at h3
 ·have e : a = b := by omega
  subst e
  have : posP l q = a := Jtng _ l a hb hlo fun h => hhi a (by omega) h
  (simp (maxSteps := 1000000) [])
  (first | exact hR _ _ FrA | exact hR _ _ FnA | exact hR _ _ (Xf (hq := by simp [AV.erase, AV.unview, this]; done)))
theorem Jthk {P : Program} {p : Nums} (A : All P p) (l : List Pair) (q : Pair) (h0 : l.length < 1000000000) (hs : Srt l) : Jt3o P p.pairset_Has [.d (pairsD l), q.av] [] fun o _ => o = .ret (AB (decide (q ∈ l))) := by
 refine A.pairset_Has.run rfl fun R hR => ?_
 (simp (maxSteps := 1000000) [Jtbe, pairsD, Pair.av])
 (refine Jtt (Jthr A l q h0 hs) (by rfl) (by rfl) ?_)
 (simp (maxSteps := 1000000) [])
 have hp := Jtfg (p := q) hs
 have hle := Jti2 l q
 obtain ⟨i, hi⟩ : ∃ i, i = posP l q := ⟨_, rfl⟩
 rw [← hi] at hp hle ⊢
 ((first | refine Xc (fun h1 => ?_) (fun h1 => ?_) | refine Xo (fun h1 => ?_) (fun h1 => ?_)) <;> (try simp only [Xz, Xy] at h1))
 ·have hil : i < l.length := by omega
  have hb : l[i]? = some l[i] := by simp
  rw [hb] at hp
  (simp (maxSteps := 1000000) [h1, hb, Pair.row])
  have e : (l[i].v == q.v && l[i].l == q.l) = decide (q ∈ l) := by
   rw [Jtha]; simp only [Option.some.injEq] at hp; simp [hp]
  (first | exact hR _ _ FrA | exact hR _ _ FnA | exact hR _ _ (Xf (hq := by simp [AV.erase, AV.unview, e, Pair.row]; done)))
 ·(simp (maxSteps := 1000000) [h1])
  have hb : l[i]? = none := by simp; omega
  rw [hb] at hp
  have e : q ∉ l := by simpa using hp
  (first | exact hR _ _ FrA | exact hR _ _ FnA | exact hR _ _ (Xf (hq := by simp [AV.erase, AV.unview, e]; done)))
end
section
theorem Jthd {P : Program} {p : Nums} (A : All P p) (l : List Pair) (q : Pair) (h0 : l.length < 1000000) (hs : Srt l) : Jt3o P p.pairset_Add [.d (pairsD l), q.av] [] fun o H' => o = .ret (.own 2 ((addP l q).map Pair.row)) ∧ H' = [] := by
 refine A.pairset_Add.run rfl fun R hR => ?_
 (simp (maxSteps := 1000000) [Jtb9, pairsD, Pair.av])
 (refine Jtt (Jthr A l q (by omega) hs) (by rfl) (by rfl) ?_)
 have hw := Jtoq (k := l.length) (by omega)
 have hp := Jtfg (p := q) hs
 have hle := Jti2 l q
 have hadd := Jt4g (p := q) hs
 obtain ⟨i, hi⟩ : ∃ i, i = posP l q := ⟨_, rfl⟩
 rw [← hi] at hp hle hadd ⊢
 (simp (maxSteps := 1000000) [hw])
 refine Jt1y (n := l.length + 1) (by rfl) (by rfl) (by omega) (by omega) (by decide) (by rfl) ?_
 (simp (maxSteps := 1000000) [hle, Pair.row])
 have hrow : ∀ m : List (List D), (∀ r ∈ m, r ∈ l.map Pair.row) → ∀ r ∈ m, r.length = 2 := fun m hm r hr => Jtkx (f := Pair.row) (fun _ => rfl) r (hm r hr)
 refine ⟨hrow _ fun r hr => List.take_subset _ _ hr, by omega, by omega, ?_⟩
 (refine Jt16 (by rfl) (by rfl) (by rfl) ?_ (by decide) ?_ ?_ ?_)
 ·simp
 ·simp; omega
 ·simp; omega
 (simp (maxSteps := 1000000) [])
 have hln : (l.map Pair.row).length = l.length := by simp
 have fin : ∀ j, addP l q = l.take i ++ q :: l.drop j → (List.take i (l.map Pair.row) ++ [[D.int IntKind.i64 q.v, D.int IntKind.i64 q.l]]) ++ List.drop j (List.take l.length (l.map Pair.row)) = (addP l q).map Pair.row := by
  intro j hj
  rw [hj, List.take_of_length_le (i := l.length) (l := l.map Pair.row) (by simp)]
  simp [Pair.row]
 ((first | refine Xc (fun h1 => ?_) (fun h1 => ?_) | refine Xo (fun h1 => ?_) (fun h1 => ?_)) <;> (try simp only [Xz, Xy] at h1))
 ·have hil : i < l.length := by omega
  have hb : l[i]? = some l[i] := by simp
  rw [hb, Option.some.injEq] at hp
  (simp (maxSteps := 1000000) [h1, hb, Pair.row])
  ((first | refine Xc (fun h2 => ?_) (fun h2 => ?_) | refine Xo (fun h2 => ?_) (fun h2 => ?_)) <;> (try simp only [Xz, Xy] at h2))
  ·have e : l[i] = q := Jt7y h2.1 h2.2
   have hm := hp.2 e
   rw [if_pos hm] at hadd
   have hw2 := Jtoq (k := i) (by omega)
   obtain ⟨i1, hi1⟩ : ∃ i1, i1 = i + 1 := ⟨_, rfl⟩
   rw [← hi1] at hw2 hadd
   have hle1 : i1 ≤ l.length := by omega
   (simp (maxSteps := 1000000) [hw2, h2])
   (simp (maxSteps := 1000000) [hle1, Pair.row])
   (refine Jt16 (by rfl) (by rfl) (by rfl) ?_ (by decide) ?_ ?_ ?_)
   ·exact hrow _ fun r hr => List.take_subset _ _ (List.drop_subset _ _ hr)
   ·simp; omega
   ·simp; omega
   rw [fin i1 hadd]
   (simp (maxSteps := 1000000) [])
   exact hR _ _ (Jt3q _ _ rfl ⟨rfl, rfl⟩)
  ·have hm : q ∉ l := by
    intro hm; have := hp.1 hm
    rw [this] at h2; simp at h2
   rw [if_neg hm] at hadd
   (simp (maxSteps := 1000000) [h2, hle, Pair.row])
   (refine Jt16 (by rfl) (by rfl) (by rfl) ?_ (by decide) ?_ ?_ ?_)
   ·exact hrow _ fun r hr => List.take_subset _ _ (List.drop_subset _ _ hr)
   ·simp; omega
   ·simp; omega
   rw [fin i hadd]
   (simp (maxSteps := 1000000) [])
   exact hR _ _ (Jt3q _ _ rfl ⟨rfl, rfl⟩)
 ·have hm : q ∉ l := by
   intro hm; have := hp.1 hm
   rw [List.getElem?_eq_none (by omega)] at this; cases this
  rw [if_neg hm] at hadd
  (simp (maxSteps := 1000000) [h1, hle, Pair.row])
  (refine Jt16 (by rfl) (by rfl) (by rfl) ?_ (by decide) ?_ ?_ ?_)
  ·exact hrow _ fun r hr => List.take_subset _ _ (List.drop_subset _ _ hr)
  ·simp; omega
  ·simp; omega
  rw [fin i hadd]
  (simp (maxSteps := 1000000) [])
  exact hR _ _ (Jt3q _ _ rfl ⟨rfl, rfl⟩)
end
section
theorem Jtho {P : Program} {p : Nums} (A : All P p) (a b : List Pair) (h0 : a.length < 1000000) (h1 : b.length < 1000000) (ha : Srt a) (hb : Srt b) : Jt3o P p.pairset_Missing [.d (pairsD a), .d (pairsD b)] [] fun o _ => o = .ret (missA a b) := by
 refine A.pairset_Missing.run rfl fun R hR => ?_
 (simp (maxSteps := 1000000) [Jtbh, pairsD])
 refine Jt9 (fun k : Nat × Nat => ⟨[(11, AI k.1), (10, AI a.length), (9, .d (.sl (a.map Pair.row))), (6, AI k.2), (5, AB false), (4, .ptr 0 0), (1, .d (.sl (b.map Pair.row)))], [.mem [AI 0, AI 0]]⟩)
  (fun k => k.1 ≤ a.length ∧ k.2 ≤ b.length ∧ (∀ q ∈ a.take k.1, q ∈ b) ∧ ∀ j k', j < k.2 → k.1 ≤ k' → (h : j < b.length) → (h' : k' < a.length) → lessP b[j] a[k'] = true) (fun k => a.length - k.1) (0, 0) (by simp) (by (exact wkA)) ?_
 rintro ⟨k, i⟩ ⟨hk, hi, hz, hj⟩ N hN
 simp only at hk hi hz hj hN ⊢
 (simp (maxSteps := 1000000) [])
 ((first | refine Xc (fun h2 => ?_) (fun h2 => ?_) | refine Xo (fun h2 => ?_) (fun h2 => ?_)) <;> (try simp only [Xz, Xy] at h2))
 ·have hkl : k < a.length := by omega
  have hbk : a[k]? = some a[k] := by simp
  have hw := Jtoq (k := k) (by omega)
  (simp (maxSteps := 1000000) [h2, hbk, Pair.row])
  refine Jt9 (fun i : Nat => ⟨[(8, .ptr 1 0), (11, AI k), (10, AI a.length), (9, .d (.sl (a.map Pair.row))), (6, AI i), (5, AB false), (4, .ptr 0 0), (1, .d (.sl (b.map Pair.row)))], [.mem [AI 0, AI 0], .mem [AI a[k].v, AI a[k].l]]⟩)
   (fun i => i ≤ b.length ∧ ∀ j k', j < i → k ≤ k' → (h : j < b.length) → (h' : k' < a.length) → lessP b[j] a[k'] = true) (fun i => b.length - i) i ⟨hi, hj⟩ (by (exact wkA)) ?_
  rintro i ⟨hi, hj⟩ N2 hN2
  have stop : (i = b.length ∨ ∃ h : i < b.length, lessP b[i] a[k] = false ∧ b[i] ≠ a[k]) → a[k] ∉ b := by
   intro hc hm
   obtain ⟨j, hjl, e⟩ := List.getElem_of_mem hm
   have h3 : i ≤ j := by
    rcases Nat.lt_or_ge j i with h | h
    ·have := hj j k h (Nat.le_refl _) hjl hkl
     rw [e, Jtdz] at this; cases this
    ·exact h
   rcases hc with hc | ⟨h, h4, h5⟩
   ·omega
   ·rcases Nat.lt_or_eq_of_le h3 with h3 | h3
    ·have := Jtmt hb h3 hjl
     rw [e, h4] at this; cases this
    ·subst h3; exact h5 e
  have go : ∀ (h : i < b.length), b[i] = a[k] → (∀ q ∈ a.take (k + 1), q ∈ b) ∧ ∀ j k', j < i → k + 1 ≤ k' → (h : j < b.length) → (h' : k' < a.length) → lessP b[j] a[k'] = true := by
   intro h e
   refine ⟨?_, fun j k' h1 h2 h3 h4 => hj j k' h1 (by omega) h3 h4⟩
   intro q hq
   rw [List.take_add_one, hbk] at hq
   rcases List.mem_append.1 hq with hq | hq
   ·exact hz q hq
   ·simp at hq; subst hq; rw [← e]; exact List.getElem_mem _
  (simp (maxSteps := 1000000) [])
  ((first | refine Xc (fun h3 => ?_) (fun h3 => ?_) | refine Xo (fun h3 => ?_) (fun h3 => ?_)) <;> (try simp only [Xz, Xy] at h3))
  ·have hil : i < b.length := by omega
   have hbi : b[i]? = some b[i] := by simp
   (simp (maxSteps := 1000000) [h3, hbi, Pair.row])
   (refine Jtt (Jthl A b[i] a[k]) (by rfl) (by rfl) ?_)
   (simp (maxSteps := 1000000) [])
   ((first | refine Xc (fun h4 => ?_) (fun h4 => ?_) | refine Xo (fun h4 => ?_) (fun h4 => ?_)) <;> (try simp only [Xz, Xy] at h4))
   ·have hwi := Jtoq (k := i) (by omega)
    (simp (maxSteps := 1000000) [h4, hwi])
    refine hN2 _ (i + 1) ⟨hil, ?_⟩ (by (exact wkA)) (by omega)
    intro j k' h5 h6 h7 h8
    by_cases e : j = i
    ·subst e
     rcases Nat.lt_or_eq_of_le h6 with h6 | h6
     ·refine Jte2 (b := a[k]) h4 (Jtmt ha h6 h8)
     ·subst h6; exact h4
    ·exact hj j k' (by omega) h6 h7 h8
   ·have hne : ¬ ((i : Int) = (b.length : Int)) := by omega
    have h4' : lessP b[i] a[k] = false := by simpa using h4
    (simp (maxSteps := 1000000) [h4', hne, hbi, Pair.row])
    ((first | refine Xc (fun h5 => ?_) (fun h5 => ?_) | refine Xo (fun h5 => ?_) (fun h5 => ?_)) <;> (try simp only [Xz, Xy] at h5))
    ·have hx2 : a[k] ∉ b := stop (.inr ⟨hil, h4', fun e => by rw [e] at h5; simp at h5⟩)
     have := Jtfo hkl hz hx2
     (simp (maxSteps := 1000000) [h5])
     (first | exact hR _ _ FrA | exact hR _ _ FnA | exact hR _ _ (Xf (hq := by simp [AV.erase, AV.unview, missA, this, Pair.av]; done)))
    ·have e : b[i] = a[k] := Jt7y (by simp at h5; exact h5.1) (by simp at h5; exact h5.2)
     have := go hil e
     (simp (maxSteps := 1000000) [h5, hw])
     exact hN _ (k + 1, i) ⟨hkl, hi, this.1, this.2⟩ (by simp only; (exact wkA)) (by simp only; omega)
  ·have e : i = b.length := by omega
   have hx2 : a[k] ∉ b := stop (.inl e)
   have := Jtfo hkl hz hx2
   (simp (maxSteps := 1000000) [h3, e])
   (first | exact hR _ _ FrA | exact hR _ _ FnA | exact hR _ _ (Xf (hq := by simp [AV.erase, AV.unview, missA, this, Pair.av]; done)))
 ·have hk' : k = a.length := by omega
  subst hk'
  have := Jtfp (a := a) (b := b) (by simpa using hz)
  (simp (maxSteps := 1000000) [])
  (first | exact hR _ _ FrA | exact hR _ _ FnA | exact hR _ _ (Xf (hq := by simp [AV.erase, AV.unview, missA, this, Pair.av]; done)))
end
def mergeP : List Pair → List Pair → List Pair
 | [], b => b
 | x :: a, [] => x :: a
 | x :: a, y :: b => if lessP y x = true then y :: mergeP (x :: a) b else if y = x then x :: mergeP a b else x :: mergeP a (y :: b)
termination_by a b => a.length + b.length
theorem Jtfl (a : List Pair) : mergeP a [] = a := by cases a <;> simp [mergeP]
theorem Jtfe {a b : List Pair} {q : Pair} : q ∈ mergeP a b ↔ q ∈ a ∨ q ∈ b := by
 induction a, b using mergeP.induct with
 | case1 b => simp [mergeP]
 | case2 x a => simp [mergeP]
 | case3 x a y b h ih => rw [mergeP, if_pos h, List.mem_cons, ih]; simp only [List.mem_cons]; constructor <;> (intro h; rcases h with h | h | h <;> simp_all)
 | case4 a b x h ih => rw [mergeP, if_neg h, if_pos rfl, List.mem_cons, ih]; simp only [List.mem_cons]; constructor <;> grind
 | case5 x a y b h h2 ih => rw [mergeP, if_neg h, if_neg h2, List.mem_cons, ih]; simp only [List.mem_cons]; constructor <;> grind
theorem Jtmv {a b : List Pair} (ha : Srt a) (hb : Srt b) : Srt (mergeP a b) := by
 induction a, b using mergeP.induct with
 | case1 b => simpa [mergeP] using hb
 | case2 x a => simpa [mergeP] using ha
 | case3 x a y b h ih =>
  rw [mergeP, if_pos h]
  refine Jtmn.2 ⟨fun q hq => ?_, ih ha (Jtmn.1 hb).2⟩
  rw [Jtfe, List.mem_cons] at hq
  rcases hq with (rfl | hq) | hq
  ·exact h
  ·exact Jte2 h ((Jtmn.1 ha).1 q hq)
  ·exact (Jtmn.1 hb).1 q hq
 | case4 a b x h ih =>
  rw [mergeP, if_neg h, if_pos rfl]
  refine Jtmn.2 ⟨fun q hq => ?_, ih (Jtmn.1 ha).2 (Jtmn.1 hb).2⟩
  rw [Jtfe] at hq
  rcases hq with hq | hq
  ·exact (Jtmn.1 ha).1 q hq
  ·exact (Jtmn.1 hb).1 q hq
 | case5 x a y b h h2 ih =>
  rw [mergeP, if_neg h, if_neg h2]
  have hxy : lessP x y = true := by
   cases e : lessP x y with
   | true => rfl
   | false => exact absurd (Jte1 (by simpa using h) e) h2
  refine Jtmn.2 ⟨fun q hq => ?_, ih (Jtmn.1 ha).2 hb⟩
  rw [Jtfe, List.mem_cons] at hq
  rcases hq with hq | rfl | hq
  ·exact (Jtmn.1 ha).1 q hq
  ·exact hxy
  ·exact Jte2 hxy ((Jtmn.1 hb).1 q hq)
section
theorem Jthp {P : Program} {p : Nums} (A : All P p) (a b : List Pair) (h0 : a.length < 1000000) (h1 : b.length < 1000000) : Jt3o P p.pairset_Union [.d (pairsD a), .d (pairsD b)] [] fun o H' => o = .ret (.own 2 ((mergeP a b).map Pair.row)) ∧ H' = [] := by
 refine A.pairset_Union.run rfl fun R hR => ?_
 have hw : IntKind.i64.wrap ((a.length : Int) + (b.length : Int)) = ((a.length + b.length : Nat) : Int) := Jtop (by omega)
 obtain ⟨n, hn⟩ : ∃ n, n = a.length + b.length := ⟨_, rfl⟩
 rw [← hn] at hw
 (simp (maxSteps := 1000000) [Jtbi, pairsD, hw])
 refine Jt1y (n := n) (by rfl) (by rfl) (by omega) (by omega) (by decide) (by rfl) ?_
 (simp (maxSteps := 1000000) [])
 have hrow : ∀ l : List Pair, ∀ r ∈ l.map Pair.row, r.length = 2 := fun l => Jtkx fun x => rfl
 refine Jt9 (fun s : List Pair × List Pair × List Pair => ⟨[(5, .own 2 (s.2.2.map Pair.row)), (4, .nils), (1, .d (.sl (s.2.1.map Pair.row))), (0, .d (.sl (s.1.map Pair.row)))], []⟩)
  (fun s => s.2.2 ++ mergeP s.1 s.2.1 = mergeP a b ∧ s.1.length + s.2.1.length + s.2.2.length ≤ n) (fun s => s.1.length + s.2.1.length) (a, b, []) ⟨by simp, by simp; omega⟩ (by simp only [List.map_nil]; (exact wkA)) ?_
 rintro ⟨xs, ys, out⟩ ⟨hm, hlen⟩ N hN
 simp only at hm hlen hN ⊢
 have fin : xs = [] ∨ ys = [] → (out.map Pair.row ++ xs.map Pair.row) ++ ys.map Pair.row = (mergeP a b).map Pair.row := by
  intro h
  rw [← hm]
  rcases h with rfl | rfl
  ·simp [mergeP]
  ·simp [Jtfl]
 cases xs with
 | nil =>
  (simp (maxSteps := 1000000) [])
  (refine Jt16 (by rfl) (by rfl) (by rfl) ?_ (by decide) ?_ ?_ ?_)
  ·simp
  ·simp; omega
  ·simp; omega
  (simp (maxSteps := 1000000) [])
  (refine Jt16 (by rfl) (by rfl) (by rfl) ?_ (by decide) ?_ ?_ ?_)
  ·exact hrow _
  ·simp at hlen ⊢; omega
  ·simp at hlen ⊢; omega
  (simp (maxSteps := 1000000) [])
  exact hR _ _ (Jt3q _ _ rfl ⟨by simp [← fin (.inl rfl)], rfl⟩)
 | cons x xs =>
  have hx0 : ¬ ((xs.length : Int) + 1 ≤ 0) := by omega
  have hx1 : (0 : Int) < (xs.length : Int) + 1 := by omega
  cases ys with
  | nil =>
   (simp (maxSteps := 1000000) [hx1])
   (refine Jt16 (by rfl) (by rfl) (by rfl) ?_ (by decide) ?_ ?_ ?_)
   ·simpa using hrow (x :: xs)
   ·simp at hlen ⊢; omega
   ·simp at hlen ⊢; omega
   (simp (maxSteps := 1000000) [])
   (refine Jt16 (by rfl) (by rfl) (by rfl) ?_ (by decide) ?_ ?_ ?_)
   ·simp
   ·simp at hlen ⊢; omega
   ·simp at hlen ⊢; omega
   (simp (maxSteps := 1000000) [])
   have := fin (.inr rfl)
   simp only [List.map_cons, List.map_nil, List.append_nil] at this
   exact hR _ _ (Jt3q _ _ rfl ⟨by simp [← this], rfl⟩)
  | cons y ys =>
   have hy1 : (0 : Int) < (ys.length : Int) + 1 := by omega
   have hx2 : (1 : Int) ≤ (xs.length : Int) + 1 := by omega
   have hy2 : (1 : Int) ≤ (ys.length : Int) + 1 := by omega
   have htx : (xs.map Pair.row).take xs.length = xs.map Pair.row := List.take_of_length_le (by simp)
   have hty : (ys.map Pair.row).take ys.length = ys.map Pair.row := List.take_of_length_le (by simp)
   simp only [List.length_cons] at hlen
   rw [mergeP] at hm
   (simp (maxSteps := 1000000) [hx1, hy1, Pair.row])
   (refine Jtt (Jthl A y x) (by rfl) (by rfl) ?_)
   (simp (maxSteps := 1000000) [])
   ((first | refine Xc (fun h2 => ?_) (fun h2 => ?_) | refine Xo (fun h2 => ?_) (fun h2 => ?_)) <;> (try simp only [Xz, Xy] at h2))
   ·rw [if_pos h2] at hm
    have hne : ¬ x = y := fun h => Jte0 h2 h.symm
    have hs1 : IntKind.i64.wrap 1 = 1 := by rw [wrap_i64 (by omega) (by omega)]
    (simp (maxSteps := 1000000) [h2, Pair.row])
    (refine Jt16 (by rfl) (by rfl) (by rfl) ?_ (by decide) ?_ ?_ ?_)
    ·simp
    ·simp at hlen ⊢; omega
    ·simp at hlen ⊢; omega
    (simp (maxSteps := 1000000) [Pair.row, Jtha, hne, hy2, hty])
    refine hN _ (x :: xs, ys, out ++ [y]) ⟨by simp only; rw [← hm]; simp, by simp; omega⟩ ?_ (by simp only [List.length_cons]; omega)
    simp only [List.map_cons, List.map_append, List.map_nil, Pair.row]
    (exact wkA)
   ·have h2' : lessP y x = false := by simpa using h2
    rw [if_neg (by rw [h2']; simp)] at hm
    (simp (maxSteps := 1000000) [h2', Pair.row])
    (refine Jt16 (by rfl) (by rfl) (by rfl) ?_ (by decide) ?_ ?_ ?_)
    ·simp
    ·simp at hlen ⊢; omega
    ·simp at hlen ⊢; omega
    by_cases e : y = x
    ·rw [if_pos e] at hm
     subst e
     (simp (maxSteps := 1000000) [Pair.row, Jtha, hx2, hy2, htx, hty])
     refine hN _ (xs, ys, out ++ [y]) ⟨by simp only; rw [← hm]; simp, by simp; omega⟩ ?_ (by simp only [List.length_cons]; omega)
     simp only [List.map_cons, List.map_append, List.map_nil, Pair.row]
     (exact wkA)
    ·rw [if_neg e] at hm
     (simp (maxSteps := 1000000) [Pair.row, Jtha, e, hx2, htx])
     refine hN _ (xs, y :: ys, out ++ [x]) ⟨by simp only; rw [← hm]; simp, by simp; omega⟩ ?_ (by simp only [List.length_cons]; omega)
     simp only [List.map_cons, List.map_append, List.map_nil, Pair.row]
     (exact wkA)
end
theorem Jtkq {rows : List (List D)} {e k : Nat} (he : ∀ r ∈ rows, r.length = e) (hk : k < rows.length) : ((Jtkn rows).drop (k * e)).take e = rows[k].map AV.d := by
 unfold Jtkn
 induction rows generalizing k with
 | nil => simp at hk
 | cons r rows ih =>
  have h1 := he r (by simp)
  cases k with
  | zero => simp only [Nat.zero_mul, List.drop_zero, List.flatten_cons, List.map_append, List.getElem_cons_zero]; rw [List.take_left' (by simp [h1])]
  | succ k =>
   have h2 := ih (fun r hr => he r (by simp [hr])) (k := k) (by simpa using hk)
   simp only [List.flatten_cons, List.map_append, List.getElem_cons_succ]
   have e1 : (k + 1) * e = (r.map AV.d).length + k * e := by rw [Nat.add_mul]; simp [h1]; omega
   rw [e1, List.drop_length_add_append]; exact h2
theorem Jth9 {l : List Pair} {k : Nat} (hk : k < l.length) : ((Jtkn (l.map Pair.row)).drop (k * 2)).take 2 = [AI l[k].v, AI l[k].l] := by
 rw [Jtkq (e := 2) (rows := l.map Pair.row) (Jtkx (f := Pair.row) fun _ => rfl) (by simpa using hk)]; simp [Pair.row]
theorem Jtkp (l : List Pair) : (Jtkn (l.map Pair.row)).length = l.length * 2 := by
 rw [Jtks (e := 2) (Jtkx fun _ => rfl)]; simp
theorem Jtkr (rows : List (List D)) : (Jtkn rows).map AV.erase = Jtkn rows := by
 simp [Jtkn, AV.erase, Function.comp_def]
def ddStep (out : List Pair) (q : Pair) : List Pair := if out.getLast? = some q then out else out ++ [q]
def dd (l : List Pair) : List Pair := l.foldl ddStep []
theorem Jt7c (l : List Pair) (q : Pair) : dd (l ++ [q]) = ddStep (dd l) q := by simp [dd]
theorem Jt7b (l : List Pair) : (dd l).getLast? = l.getLast? := by
 induction l using Jtey with
 | h0 => rfl
 | h1 l q ih =>
  rw [Jt7c, ddStep]
  split
  ·rename_i h; rw [h]; simp
  ·simp
theorem mem_dd {l : List Pair} {q : Pair} : q ∈ dd l ↔ q ∈ l := by
 induction l using Jtey with
 | h0 => simp [dd]
 | h1 l x ih =>
  rw [Jt7c, ddStep]
  split
  ·rename_i h
   rw [ih, List.mem_append]
   have : x ∈ l := by rw [Jt7b] at h; exact List.mem_of_getLast? h
   constructor
   ·exact .inl
   ·rintro (h | h)
    ·exact h
    ·simp at h; subst h; exact this
  ·rw [List.mem_append, List.mem_append, ih]
theorem Jt7e {l : List Pair} {k : Nat} (h0 : 0 < k) (h : k < l.length) : dd (l.take (k + 1)) = if l[k - 1]'(by omega) = l[k] then dd (l.take k) else dd (l.take k) ++ [l[k]] := by
 have e : l.take (k + 1) = l.take k ++ [l[k]] := by rw [List.take_add_one, List.getElem?_eq_getElem h]; rfl
 rw [e, Jt7c, ddStep, Jt7b]
 have : (l.take k).getLast? = some (l[k - 1]'(by omega)) := by
  rw [List.getLast?_eq_getElem?, List.getElem?_take]; simp only [List.length_take, Option.ite_none_right_eq_some]; rw [show min k l.length - 1 = k - 1 by omega, List.getElem?_eq_getElem (by omega)]; exact ⟨by omega, rfl⟩
 rw [this]; simp
def cptP (l : List Pair) : List Pair := dd l ++ List.replicate (l.length - (dd l).length) (⟨0, 0⟩ : Pair)
theorem Jt75 {l : List Pair} (h : dd l = l) : cptP l = l := by unfold cptP; rw [h]; simp
theorem srt_dd {l : List Pair} (h : l.Pairwise fun a b => lessP b a = false) : Srt (dd l) := by
 induction l using Jtey with
 | h0 => exact List.Pairwise.nil
 | h1 l x ih =>
  have h2 := List.pairwise_append.1 h
  have ih := ih h2.1
  rw [Jt7c, ddStep]
  split
  ·exact ih
  ·rename_i hl
   refine List.pairwise_append.2 ⟨ih, List.pairwise_singleton _ _, ?_⟩
   intro a ha b hb
   simp at hb; subst hb
   have hab := h2.2.2 a (mem_dd.1 ha) b (by simp)
   cases e : lessP a b with
   | true => rfl
   | false =>
    have eab := Jte1 e hab
    subst eab
    obtain ⟨j, hj, ej⟩ := List.getElem_of_mem ha
    have hne : dd l ≠ [] := List.ne_nil_of_mem ha
    have hjl : j < (dd l).length - 1 := by
     rcases Nat.lt_or_ge j ((dd l).length - 1) with h | h
     ·exact h
     ·refine absurd ?_ hl
      rw [List.getLast?_eq_getElem?, show (dd l).length - 1 = j by omega, List.getElem?_eq_getElem hj, ej]
    have h3 := Jtmt ih hjl (by omega)
    rw [ej] at h3
    have hm : (dd l)[(dd l).length - 1]'(by omega) ∈ l := mem_dd.1 (List.getElem_mem _)
    rw [h2.2.2 _ hm a (by simp)] at h3; cases h3
section
theorem Jtlr {P : Program} {p : Nums} (A : All P p) : Jt3o P p.slices_Clone_Pair [.d (.sl [])] [] fun o H' => o = .ret (.d (.sl [])) ∧ H' = [] := by
 refine A.slices_Clone_Pair.run rfl fun R hR => ?_
 (simp (maxSteps := 1000000) [Jtcl])
 refine Jt1q (by rfl) (fun _ => ?_) ?_
 ·(simp (maxSteps := 1000000) [])
  exact hR _ _ (Jt3u _ _ rfl (by (exact wkvA)) ⟨rfl, rfl⟩)
 ·(simp (maxSteps := 1000000) [])
  refine Jt15 (by rfl) (by rfl) (by simp) (by decide) (by simp) (by simp) (fun hn => ?_) fun hn => absurd rfl hn
  (simp (maxSteps := 1000000) [])
  exact hR _ _ (Jt3u _ _ rfl (by (exact wkvA)) ⟨rfl, rfl⟩)
theorem Jtlq {P : Program} {p : Nums} (A : All P p) (l : List Pair) (hl : l ≠ []) (h0 : l.length < 1000000) : Jt3o P p.slices_Clone_Pair [.d (pairsD l)] [] fun o H' => o = .ret (.hsl 0 0 2 l.length) ∧ H' = [.mem (Jtkn (l.map Pair.row))] := by
 refine A.slices_Clone_Pair.run rfl fun R hR => ?_
 (simp (maxSteps := 1000000) [Jtcl, pairsD])
 refine Jt1q (by rfl) (fun h => absurd (by simpa using h) hl) ?_
 (simp (maxSteps := 1000000) [])
 refine Jt14 (.inl (by rfl)) (by rfl) (Jtkx fun _ => rfl) (by decide) (by simp; omega) (by simp; omega) (by simpa using hl) ?_
 (simp (maxSteps := 1000000) [])
 exact hR _ _ (Jt3t _ _ _ rfl (by (exact wkA)) ⟨by simp, rfl⟩)
theorem Jtlt {P : Program} {p : Nums} (A : All P p) : Jt3o P p.slices_Compact_Pair [.d (.sl [])] [] fun o H' => o = .ret (.d (.sl [])) ∧ H' = [] := by
 refine A.slices_Compact_Pair.run rfl fun R hR => ?_
 (simp (maxSteps := 1000000) [Jtcm])
 exact hR _ _ (Jt3u _ _ rfl (by (exact wkvA)) ⟨rfl, rfl⟩)
theorem Jtls {P : Program} {p : Nums} (A : All P p) (l : List Pair) (hl : l ≠ []) (h0 : l.length < 1000000) : Jt3o P p.slices_Compact_Pair [.hsl 0 0 2 l.length] [.mem (Jtkn (l.map Pair.row))] fun o H' => o = .ret (.hsl 0 0 2 (dd l).length) ∧ H' = [.mem (Jtkn ((cptP l).map Pair.row))] := by
 refine A.slices_Compact_Pair.run rfl fun R hR => ?_
 (simp (maxSteps := 1000000) [Jtcm])
 have hpos : 0 < l.length := List.length_pos_iff.2 hl
 have dd1 : dd (l.take 1) = l.take 1 := by
  cases l with
  | nil => exact absurd rfl hl
  | cons x l => simp [dd, ddStep]
 have done : dd l = l → R .ret ⟨[(2, .hsl 0 0 2 l.length)], [.mem (Jtkn (l.map Pair.row))]⟩ := by
  intro e
  refine hR _ _ (Jt3t _ (.hsl 0 0 2 l.length) [.mem (Jtkn (l.map Pair.row))] rfl (by (exact wkA)) ⟨by rw [e], by rw [Jt75 e]⟩)
 ((first | refine Xc (fun h1 => ?_) (fun h1 => ?_) | refine Xo (fun h1 => ?_) (fun h1 => ?_)) <;> (try simp only [Xz, Xy] at h1))
 ·have e1 : l.length = 1 := by omega
  have : dd l = l := by rw [show l.take 1 = l from List.take_of_length_le (by omega)] at dd1; exact dd1
  (simp (maxSteps := 1000000) [h1])
  refine hR _ _ (Jt3t _ (.hsl 0 0 2 l.length) [.mem (Jtkn (l.map Pair.row))] rfl (by (exact wkA)) ⟨by rw [this], by rw [Jt75 this]⟩)
 (simp (maxSteps := 1000000) [h1])
 refine Jt9 (fun k : Nat => ⟨[(3, AI k), (2, .nils), (0, .hsl 0 0 2 l.length)], [.mem (Jtkn (l.map Pair.row))]⟩) (fun k => 1 ≤ k ∧ k ≤ l.length ∧ dd (l.take k) = l.take k) (fun k => l.length - k) 1 ⟨by omega, by omega, dd1⟩ (by (exact wkA)) ?_
 rintro k ⟨hk1, hk, hd⟩ N hN
 have hlc := Jtkp l
 (simp (maxSteps := 1000000) [])
 ((first | refine Xc (fun h2 => ?_) (fun h2 => ?_) | refine Xo (fun h2 => ?_) (fun h2 => ?_)) <;> (try simp only [Xz, Xy] at h2))
 ·have hkl : k < l.length := by omega
  have hw := Jtoq (k := k) (by omega)
  obtain ⟨km, hkm⟩ : ∃ km, km = k - 1 := ⟨_, rfl⟩
  have hw2 : IntKind.i64.wrap ((k : Int) - 1) = (km : Int) := by rw [wrap_i64 (by omega) (by omega)]; omega
  have hp1 := Jth9 (l := l) (k := km) (by omega)
  have hp2 := Jth9 (l := l) (k := k) hkl
  have hce := Jtkr (l.map Pair.row)
  obtain ⟨C, hC⟩ : ∃ C, C = Jtkn (l.map Pair.row) := ⟨_, rfl⟩
  have hkml : km < l.length := by omega
  obtain ⟨x, hx⟩ : ∃ x, x = l[k] := ⟨_, rfl⟩
  obtain ⟨y, hy⟩ : ∃ y, y = l[km] := ⟨_, rfl⟩
  rw [← hC] at hlc hp1 hp2 hce ⊢
  rw [← hx] at hp2
  rw [← hy] at hp1
  have hl1 : km * 2 + 2 ≤ C.length := by omega
  have hl2 : k * 2 + 2 ≤ C.length := by omega
  have hk2 : (km : Int) < (l.length : Int) := by omega
  (simp (maxSteps := 1000000) [h2, hw2, hk2, hl1, hl2, hp1, hp2, hce, Jtha])
  ((first | refine Xc (fun h3 => ?_) (fun h3 => ?_) | refine Xo (fun h3 => ?_) (fun h3 => ?_)) <;> (try simp only [Xz, Xy] at h3))
  ·have hsl : IntKind.i64.wrap 1 = 1 := by rw [wrap_i64 (by omega) (by omega)]
   have hkle : k ≤ l.length := by omega
   (simp (maxSteps := 1000000) [h3, hkle])
   have hdk : dd (l.take (k + 1)) = l.take k := by
    rw [Jt7e hk1 hkl, if_pos, hd]
    rw [← hx, h3, hy]; simp only [hkm]
   refine Jt9 (fun s : Nat × Nat × List Pair => ⟨[(5, AI s.1), (4, .hsl 0 (k * 2) 2 (l.length - k)), (3, AI s.2.1), (2, .nils), (0, .hsl 0 0 2 l.length)], [.mem (Jtkn (s.2.2.map Pair.row))]⟩)
    (fun s => 1 ≤ s.1 ∧ k + s.1 ≤ l.length ∧ s.2.1 + 1 ≤ k + s.1 ∧ s.2.2.length = l.length ∧ s.2.2.take s.2.1 = dd (l.take (k + s.1)) ∧ s.2.2.drop (k + s.1 - 1) = l.drop (k + s.1 - 1)) (fun s => l.length - s.1) (1, k, l)
    ⟨by simp, by simp; omega, by simp, rfl, hdk.symm, rfl⟩ (by rw [hC]; (exact wkA)) ?_
   rintro ⟨j, i, cur⟩ ⟨hj1, hjn, hij, hcl, hct, hcd⟩ N2 hN2
   simp only at hj1 hjn hij hcl hct hcd hN2 ⊢
   have hlc2 := Jtkp cur
   have hce2 := Jtkr (cur.map Pair.row)
   (simp (maxSteps := 1000000) [])
   ((first | refine Xc (fun h4 => ?_) (fun h4 => ?_) | refine Xo (fun h4 => ?_) (fun h4 => ?_)) <;> (try simp only [Xz, Xy] at h4))
   ·have h4' : k + j < l.length := by omega
    have hcur : ∀ m, k + j - 1 ≤ m → (h : m < l.length) → cur[m]'(by omega) = l[m] := by
     intro m h5 h6
     have e1 : (cur.drop (k + j - 1))[m - (k + j - 1)]? = cur[m]? := by rw [List.getElem?_drop, Nat.add_sub_cancel' h5]
     have e2 : (l.drop (k + j - 1))[m - (k + j - 1)]? = l[m]? := by rw [List.getElem?_drop, Nat.add_sub_cancel' h5]
     rw [hcd, e2, List.getElem?_eq_getElem h6, List.getElem?_eq_getElem (by omega)] at e1
     injection e1 with e1; exact e1.symm
    obtain ⟨jm, hjm⟩ : ∃ jm, jm = j - 1 := ⟨_, rfl⟩
    have hwj := Jtoq (k := j) (by omega)
    have hwi := Jtoq (k := i) (by omega)
    have hwjm : IntKind.i64.wrap ((j : Int) - 1) = (jm : Int) := by rw [wrap_i64 (by omega) (by omega)]; omega
    have hq1 := Jth9 (l := cur) (k := k + j) (by omega)
    have hq2 := Jth9 (l := cur) (k := k + jm) (by omega)
    rw [hcur _ (by omega) (by omega), Nat.add_mul] at hq1 hq2
    have hdj := Jt7e (l := l) (k := k + j) (by omega) h4'
    have ejm : k + j - 1 = k + jm := by omega
    simp only [ejm] at hdj hcur hcd
    obtain ⟨u, hu⟩ : ∃ u, u = l[k + j] := ⟨_, rfl⟩
    obtain ⟨v, hv⟩ : ∃ v, v = l[k + jm]'(by omega) := ⟨_, rfl⟩
    rw [← hu] at hq1 hdj
    rw [← hv] at hq2 hdj
    have hset := Jtmd (rows := cur.map Pair.row) (e := 2) (k := i) (row := u.row) (Jtkx fun _ => rfl) rfl (by simp; omega)
    obtain ⟨E, hE⟩ : ∃ E, E = Jtkn (cur.map Pair.row) := ⟨_, rfl⟩
    rw [← hE] at hlc2 hce2 hq1 hq2 hset ⊢
    have hm1 : k * 2 + j * 2 + 2 ≤ E.length := by omega
    have hm2 : k * 2 + jm * 2 + 2 ≤ E.length := by omega
    have hm3 : i * 2 + 2 ≤ E.length := by omega
    have hn1 : (j : Int) < ((l.length - k : Nat) : Int) := by omega
    have hn2 : (jm : Int) < ((l.length - k : Nat) : Int) := by omega
    have hn3 : (i : Int) < (l.length : Int) := by omega
    have hcd' : ∀ c : List Pair, c.drop (k + jm) = l.drop (k + jm) → c.drop (k + j) = l.drop (k + j) := by
     intro c hc
     have := congrArg (List.drop 1) hc
     rw [List.drop_drop, List.drop_drop] at this
     rwa [show k + jm + 1 = k + j by omega] at this
    (simp (maxSteps := 1000000) [h4, hwjm, hn1, hn2, hm1, hm2, hq1, hq2, hce2, Jtha])
    ((first | refine Xc (fun h5 => ?_) (fun h5 => ?_) | refine Xo (fun h5 => ?_) (fun h5 => ?_)) <;> (try simp only [Xz, Xy] at h5))
    ·(simp (maxSteps := 1000000) [h5, hn1, hn2, hn3, hm1, hm2, hm3, hq1, hq2, hce2, hwi, hwj])
     rw [if_neg (by intro e; exact h5 e.symm)] at hdj
     have hset' : List.take (i * 2) E ++ AI u.v :: AI u.l :: List.drop (i * 2 + 2) E = Jtkn ((cur.set i u).map Pair.row) := by
      rw [List.map_set, ← hset]; simp [spl, Pair.row]
     rw [hset']
     refine hN2 _ (j + 1, i + 1, cur.set i u) ⟨by simp only; omega, by simp only; omega, by simp only; omega, by simpa using hcl, ?_, ?_⟩ (by simp only; (exact wkA)) (by simp only; omega)
     ·simp only
      rw [← Nat.add_assoc, hdj, ← hct, List.take_add_one, List.getElem?_set_self (by omega), List.take_set_of_le (by omega)]; rfl
     ·simp only
      rw [show k + (j + 1) - 1 = k + j by omega, List.drop_set_of_lt (by omega)]; exact hcd' _ hcd
    ·(simp (maxSteps := 1000000) [h5, hwj])
     rw [if_pos (by simpa using Eq.symm (by simpa using h5))] at hdj
     refine hN2 _ (j + 1, i, cur) ⟨by simp only; omega, by simp only; omega, by simp only; omega, hcl, ?_, ?_⟩ (by simp only; rw [hE]; (exact wkA)) (by simp only; omega)
     ·simp only; rw [hct, ← Nat.add_assoc, hdj]
     ·simp only; rw [show k + (j + 1) - 1 = k + j by omega]; exact hcd' _ hcd
   ·have hj2 : k + j = l.length := by omega
    rw [hj2, List.take_length] at hct
    have hil : i < l.length := by omega
    have hil' : i ≤ l.length := by omega
    have hdl : (dd l).length = i := by rw [← hct]; simp; omega
    have hzero : ¬ (l.length - i = 0) := by omega
    (simp (maxSteps := 1000000) [hil'])
    refine Jt1g (by rfl) (by rfl) (by decide) (by omega) (by rfl) (by omega) ?_
    obtain ⟨T, hT⟩ : ∃ T : List Pair, T = List.replicate (l.length - i) (⟨0, 0⟩ : Pair) := ⟨_, rfl⟩
    obtain ⟨U, hU⟩ : ∃ U : List Pair, U = dd l ++ T := ⟨_, rfl⟩
    have hfin : spl (Jtkn (cur.map Pair.row)) (i * 2) (Jtkn (List.replicate (l.length - i) [I 0, I 0])) = Jtkn (U.map Pair.row) := by
     have h7 : (Jtkn (List.replicate (l.length - i) [I 0, I 0])).length = (l.length - i) * 2 := by
      rw [Jtks (e := 2) (fun r hr => by rw [List.eq_of_mem_replicate hr]; rfl)]; simp
     rw [spl, Jtkt (e := 2) (rows := cur.map Pair.row) (Jtkx (f := Pair.row) fun _ => rfl), h7, List.drop_of_length_le (by omega), List.append_nil, ← List.map_take, hct, hU, hT]
     simp [Jtkn, Pair.row]
    rw [hfin]
    (simp (maxSteps := 1000000) [hil'])
    refine hR _ _ (Jt3t _ (.hsl 0 0 2 i) [.mem (Jtkn (U.map Pair.row))] rfl (by (exact wkA)) ⟨by rw [hdl], by rw [hU, hT, cptP, hdl]⟩)
  ·(simp (maxSteps := 1000000) [h3, hw])
   refine hN _ (k + 1) ⟨by omega, hkl, ?_⟩ (by rw [hC]; (exact wkA)) (by omega)
   have e : ¬ l[k - 1]'(by omega) = l[k] := by
    rw [← hx]; intro e; apply h3; rw [← e, hy]; simp only [hkm]
   rw [Jt7e hk1 hkl, if_neg e, hd, List.take_add_one, List.getElem?_eq_getElem hkl]; rfl
 ·have hk' : k = l.length := by omega
  subst hk'
  rw [List.take_length] at hd
  (simp (maxSteps := 1000000) [])
  refine hR _ _ (Jt3t _ (.hsl 0 0 2 l.length) [.mem (Jtkn (l.map Pair.row))] rfl (by (exact wkA)) ⟨by rw [hd], by rw [Jt75 hd]⟩)
end
end Go.AE
namespace Go.AE
open Go Go.Proofs Go.Shelf Go.Sort
def encP (x : Pair) : List Value := [.int .i64 x.v, .int .i64 x.l]
def cfP (a b : Pair) : Int := if lessP a b = true then -1 else if lessP b a = true then 1 else 0
theorem Jtej (a b : Pair) : ltOf cfP a b = lessP a b := by
 unfold ltOf cfP
 cases h1 : lessP a b <;> cases h2 : lessP b a <;> simp
theorem swoP : SWO (ltOf cfP) where
 irrefl x := by rw [Jtej]; exact Jtdz x
 trans x y z h1 h2 := by rw [Jtej] at *; exact Jte2 h1 h2
 ntrans x y z h1 h2 := by
  rw [Jtej] at *
  have h1 : ¬ lessP x y = true := by simp [h1]
  have h2 : ¬ lessP y z = true := by simp [h2]
  cases h : lessP x z with
  | false => rfl
  | true => rw [Jtdy] at *; omega
def sortP (l : List Pair) : List Pair := l.mergeSort fun x y => !lessP y x
theorem Jtlu (l : List Pair) : (sortP l).length = l.length := by simp [sortP]
theorem Jt8o : ∀ (l : List Pair) (j : Nat) (h : j < 2 * l.length), (l.map Pair.row).flatten[j]? = some (if j % 2 = 0 then I (l[j / 2]'(by omega)).v else I (l[j / 2]'(by omega)).l) := by
 intro l
 induction l with
 | nil => intro j h; simp at h
 | cons x l ih =>
  intro j h
  match j, h with
  | 0, h => simp [Pair.row]
  | 1, h => simp [Pair.row]
  | j + 2, h =>
   have h' : j < 2 * l.length := by simp at h; omega
   have e := ih j h'
   have e1 : (j + 2) / 2 = j / 2 + 1 := by omega
   have e2 : (j + 2) % 2 = j % 2 := by omega
   simp only [List.map_cons, List.flatten_cons, Pair.row, List.cons_append, List.nil_append, List.getElem?_cons_succ, e2]
   rw [e]
   simp only [e1, List.getElem_cons_succ]
theorem Jt8n (l : List Pair) (j : Nat) (h : j < 2 * l.length) : ∃ n : Int, (Jtkn (l.map Pair.row))[j]? = some (AI n) ∧ (flatK encP 2 l.toArray)[j]! = .int .i64 n := by
 have h1 := Jt8o l j h
 have h2 := get_flatK encP 2 l.toArray j (by simp; omega)
 have h3 : l.toArray[j / 2]! = l[j / 2]'(by omega) := by
  rw [getElem!_pos _ _ (by simp; omega)]; simp
 rw [h3] at h2
 rcases Nat.mod_two_eq_zero_or_one j with hm | hm
 ·refine ⟨(l[j / 2]'(by omega)).v, ?_, ?_⟩
  ·rw [Jtkn, List.getElem?_map, h1, hm]; rfl
  ·rw [h2, hm]; rfl
 ·refine ⟨(l[j / 2]'(by omega)).l, ?_, ?_⟩
  ·rw [Jtkn, List.getElem?_map, h1, hm]; rfl
  ·rw [h2, hm]; rfl
theorem Jtko (l : List Pair) : (Jtkn (l.map Pair.row)).length = 2 * l.length := by
 rw [Jtks (e := 2) (Jtkx fun _ => rfl)]; simp; omega
section
variable {P : Program} {ρ : Ren}
theorem Jtm0 (L : SlLaysF0.n6 P ρ) (aE : ∀ w, (isAgg (ρ.t 24)).run P w = .ok true w) (zE : ∀ w, (Go.sizeOf (ρ.t 24)).run P w = .ok 2 w) (c : Nat) (eg : ∀ args w, (callFunc c args).run P w = .ok (.enter c args) w)
  (hcmp : ∀ blk off size w, CmpLays P c #[] encP 2 cfP blk off size w) (l : List Pair) (hne : l ≠ []) (hlen : l.length < 4611686018427387904) :
  Jt3o P (ρ.f 6) [.hsl 0 0 2 l.length, .fn (.func c) [] []] [.mem (Jtkn (l.map Pair.row))] fun o H' => o = .ret (.tup []) ∧ H' = [.mem (Jtkn ((sortP l).map Pair.row))] := by
 intro g vs w hsz hs
 have hn : l.length ≠ 0 := by simpa using hne
 obtain ⟨vs⟩ := vs
 obtain ⟨v0, v1, rfl⟩ : ∃ a b, vs = [a, b] := by
  match vs, hsz with
  | [a, b], _ => exact ⟨a, b, rfl⟩
 have e0 : Rel g.F g.φ w (.hsl 0 0 2 l.length) v0 := hs.env 0 _ rfl
 have e1 : Rel g.F g.φ w (.fn (.func c) [] []) v1 := hs.env 1 _ rfl
 cases e0 with
 | hsl _ _ _ _ r cap a hφ hcap ha _ =>
 have ha := ha hn; subst ha
 cases e1 with
 | fn _ _ _ us us' hl _ hl' _ =>
 have : us = [] := by simpa using hl
 subst this
 have : us' = [] := by simpa using hl'
 subst this
 obtain ⟨cl, te, hc, hcs, hcell⟩ := hs.mem 0 _ r rfl hφ
 have hF := (hs.lt 0 r hφ).2.1
 have hrl := (hs.lt 0 r hφ).1
 rw [Jtko] at hcs
 have hH : HoldsK encP 2 w r 0 l.toArray := by
  intro j hj
  rw [size_flatK] at hj
  have hj' : j < 2 * l.length := by simp at hj; omega
  obtain ⟨n, h1, h2⟩ := Jt8n l j hj'
  obtain ⟨_, u, hu, hrel⟩ := hcell j _ h1
  cases hrel with
  | d _ _ hp =>
  cases hp with
  | int k m =>
  constructor
  ·rw [h2]; simp [World.cell?, hc, hu]
  ·simp [World.frozen?, hc]
 have := AnyQ.slices_SortFunc_total L 2 aE zE encP (fun _ => rfl) (fun x v hv => by simp [encP] at hv; rcases hv with rfl | rfl <;> rfl) cfP swoP c #[] r 0 cap l.toArray w eg (hcmp r 0 _ w) hH hrl (by simpa using hlen) (fun x y h1 h2 => by rw [Jtej] at h1 h2; exact Jte1 h1 h2)
 refine Calls.mono (show Calls P (ρ.f 6) #[.slice (some ⟨r, 0, none⟩) l.length cap, .func (.func c) #[] #[]] w _ from this) ?_
 rintro e w' ⟨rfl, n, os, hw⟩
 have hw : w' = sortWorldK encP 2 w r 0 n (sortP l).toArray os := by
  rw [hw]; simp only [Jtej]; rfl
 obtain ⟨d, hd⟩ : ∃ d, d = sortP l := ⟨_, rfl⟩
 have hdl : d.length = l.length := by rw [hd, Jtlu]
 rw [← hd] at hw
 have hheap : w'.heap = (w.heap.modify r (onCells (putCells id 0 (flatK encP 2 d.toArray)))) ++ os := by rw [hw]; rfl
 have hother : ∀ r', r' < w.heap.size → r' ≠ r → w'.heap[r']? = w.heap[r']? := by
  intro r' h1 h2
  rw [hheap, Array.getElem?_append]
  simp only [Array.size_modify, h1, if_true, Array.getElem?_modify]
  rw [if_neg (Ne.symm h2)]
 have hsize : w.heap.size ≤ w'.heap.size := by rw [hheap]; simp
 have hpsz : (putCells id 0 (flatK encP 2 d.toArray) cl).size = cl.size := by simp [putCells]
 have hr' : w'.heap[r]? = some (.cells (putCells id 0 (flatK encP 2 d.toArray) cl) te (0, 0)) := by
  rw [hheap, Array.getElem?_append]
  simp only [Array.size_modify, hrl, if_true, Array.getElem?_modify, if_true]
  rw [hc]; rfl
 have hno : ∀ (env : List (Nat × AV)) (cells : List D) b j e rows, AP ⟨env, [.mem (cells.map AV.d)]⟩ (.cell b j) ≠ some (.own e rows) := by
  intro env cells b j e rows h
  simp only [AP] at h
  cases b with
  | zero =>
   simp only [List.getElem?_cons_zero] at h
   rw [List.getElem?_map] at h
   cases hx : cells[j]? with
   | none => rw [hx] at h; cases h
   | some d => rw [hx] at h; cases h
  | succ b => simp at h
 have hno' : ∀ p e rows, AP ⟨[(0, .tup [])], [.mem (Jtkn (d.map Pair.row))]⟩ p ≠ some (.own e rows) := by
  intro p e rows h
  cases p with
  | tmp t => simp only [AP, get] at h; split at h <;> cases h
  | cell b j => exact hno _ _ _ _ _ _ h
 have hb0 : ∀ b r', g.φ b = some r' → b = 0 := fun b r' h => by have := (hs.lt b r' h).2.2; simp at this; exact this
 refine ⟨.ret (.tup []), [.mem (Jtkn (d.map Pair.row))], g, .tuple #[], ⟨rfl, by rw [hd]⟩, rfl, ?_, ?_, fun _ _ _ h => h, by simp, ?_⟩
 ·refine { size := by simp, env := ?_, inj := hs.inj, lt := ?_, dom := ?_, mem := ?_, iter := ?_, glob := ?_, own := ?_, excl := ?_, apart := ?_, view := ?_ }
  ·intro t x hx
   simp only [get] at hx
   split at hx
   ·rename_i h; subst h; injection hx with hx; subst hx
    exact .tup [] [] rfl fun j x u h => by simp at h
   ·cases hx
  ·intro b r' h
   obtain ⟨h1, h2, h3⟩ := hs.lt b r' h
   exact ⟨by omega, h2, by simpa using h3⟩
  ·intro b k h hk
   cases b with
   | zero => exact ⟨r, hφ⟩
   | succ b => simp at h
  ·intro b cells r' h hr2
   have hb := hb0 b r' hr2
   subst hb
   rw [hφ] at hr2; injection hr2 with hr2; subst hr2
   simp at h; subst h
   refine ⟨_, te, hr', ?_, ?_⟩
   ·rw [Jtko, hdl]; simp [putCells]; exact hcs
   ·intro j x hx
    have hj : j < 2 * d.length := by
     have := (List.getElem?_eq_some_iff.1 hx).1
     rwa [Jtko] at this
    obtain ⟨n, h1, h2⟩ := Jt8n d j hj
    rw [hx] at h1; injection h1 with h1; subst h1
    refine ⟨rfl, .int .i64 n, ?_, .d _ _ (.int _ _)⟩
    have hjc : j < cl.size := by omega
    have hf : j < (flatK encP 2 d.toArray).size := by rw [size_flatK]; simp; omega
    simp only [putCells, Array.getElem?_mapIdx, hjc, Array.getElem?_eq_getElem, Option.map_some, Nat.zero_le, true_and, Nat.zero_add, hf, if_true, Nat.sub_zero, h2, id]
  ·intro b s pos r' h _
   cases b with
   | zero => simp at h
   | succ b => simp at h
  ·intro b s pos r' h _
   cases b with
   | zero => simp at h
   | succ b => simp at h
  ·intro p e rows v h; exact absurd h (hno' p e rows)
  ·rintro p p' r' ⟨e, rows, _, h, _⟩; exact absurd h (hno' p e rows)
  ·rintro p r' b ⟨e, rows, _, h, _⟩; exact absurd h (hno' p e rows)
  ·intro t org e rows h
   simp only [get] at h
   split at h <;> cases h
 ·refine ⟨by rw [hw]; rfl, by rw [hw]; rfl, by rw [hw]; rfl, hsize, ?_, ?_⟩
  ·intro r' h1 h2
   refine ⟨hother r' h1 ?_, rfl⟩
   rintro rfl; exact h2 (.inl ⟨0, hφ⟩)
  ·refine ⟨fun _ _ => Nat.le_refl _, ?_, fun q => ?_⟩
   rotate_left
   ·by_cases hq : q = r
    ·subst hq; rw [Jt77 hc, Jt77 hr']; exact Nat.le_of_eq hpsz.symm
    ·by_cases hql : q < w.heap.size
     ·rw [Jt78 (hother q hql hq)]; exact Nat.le_refl _
     ·have : w.heap[q]? = none := Array.getElem?_eq_none (by omega)
      simp [csize, this]
   intro r' j u hj hu
   have hne : r' ≠ r := by rintro rfl; omega
   have hlt := World.block_lt_of_cell? w ⟨r', j, none⟩ hu
   have := hother r' hlt hne
   simp only [World.cell?] at hu ⊢
   rw [this]; exact hu
 ·rintro r' (⟨b, hb⟩ | ⟨p, e, rows, _, h, _⟩)
  ·exact .inl (.inl ⟨b, hb⟩)
  ·exact absurd h (hno' p e rows)
theorem Jtlz (L : SlLaysF0.n6 P ρ) (c : Nat) (x : AV) (hx : x = .d (.sl []) ∨ x = .nils ∨ x = .nile) :
  Jt3o P (ρ.f 6) [x, .fn (.func c) [] []] [] fun o H' => o = .ret (.tup []) ∧ H' = [] := by
 intro g vs w hsz hs
 obtain ⟨vs⟩ := vs
 obtain ⟨v0, v1, rfl⟩ : ∃ a b, vs = [a, b] := by
  match vs, hsz with
  | [a, b], _ => exact ⟨a, b, rfl⟩
 have e0 : Rel g.F g.φ w x.erase v0 := hs.env 0 _ rfl
 obtain ⟨a, cap, rfl⟩ : ∃ a cap, v0 = .slice a 0 cap := by
  rcases hx with rfl | rfl | rfl
  ·cases e0 with
   | d _ _ h => cases h with
    | nil a cap => exact ⟨a, cap, rfl⟩
    | sl rows ad cap esz vs h1 h2 h3 h4 h5 h6 => exact ⟨_, _, rfl⟩
  ·cases e0; exact ⟨_, _, rfl⟩
  ·cases e0; exact ⟨_, _, rfl⟩
 refine Calls.mono (AnyF.slices_SortFunc_none L a cap v1 w) ?_
 rintro e w' ⟨rfl, rfl⟩
 have hno : ∀ (st : ASt) p e rows, st.H = [] → (∀ t e rows, get st.env t ≠ some (.own e rows)) → AP st p ≠ some (.own e rows) := by
  intro st p e rows h1 h2 h
  cases p with
  | tmp t => exact h2 t e rows h
  | cell b j => simp only [AP, h1] at h; simp at h
 have hno' : ∀ p e rows, AP ⟨[(0, .tup [])], []⟩ p ≠ some (.own e rows) := by
  intro p e rows
  refine hno _ p e rows rfl ?_
  intro t e rows h; simp only [get] at h; split at h <;> cases h
 have hb0 : ∀ b r, g.φ b ≠ some r := fun b r h => by have := (hs.lt b r h).2.2; simp at this
 refine ⟨.ret (.tup []), [], g, .tuple #[], ⟨rfl, rfl⟩, rfl, ?_, Tr.refl _ _ _, fun _ _ _ h => h, by simp, ?_⟩
 ·refine { size := by simp, env := ?_, inj := hs.inj, lt := fun b r h => absurd h (hb0 b r), dom := ?_, mem := ?_, iter := ?_, glob := ?_, own := ?_, excl := ?_, apart := ?_, view := ?_ }
  ·intro t x hx
   simp only [get] at hx
   split at hx
   ·rename_i h; subst h; injection hx with hx; subst hx
    exact .tup [] [] rfl fun j x u h => by simp at h
   ·cases hx
  ·intro b k h; simp at h
  ·intro b cells r h; simp at h
  ·intro b s pos r h; simp at h
  ·intro b s pos r h; simp at h
  ·intro p e rows v h; exact absurd h (hno' p e rows)
  ·rintro p p' r' ⟨e, rows, _, h, _⟩; exact absurd h (hno' p e rows)
  ·rintro p r' b ⟨e, rows, _, h, _⟩; exact absurd h (hno' p e rows)
  ·intro t org e rows h; simp only [get] at h; split at h <;> cases h
 ·rintro r' (⟨b, hb⟩ | ⟨p, e, rows, _, h, _⟩)
  ·exact absurd hb (hb0 b r')
  ·exact absurd h (hno' p e rows)
end
structure SortOk (P : Program) (p : Nums) : Prop where
 none : Jt3o P p.slices_SortFunc_Pair [.d (.sl []), .fn (.func p.pairset_compare) [] []] [] fun o H' => o = .ret (.tup []) ∧ H' = []
 some : ∀ l : List Pair, l ≠ [] → l.length < 1000000 → Jt3o P p.slices_SortFunc_Pair [.hsl 0 0 2 l.length, .fn (.func p.pairset_compare) [] []] [.mem (Jtkn (l.map Pair.row))] fun o H' => o = .ret (.tup []) ∧ H' = [.mem (Jtkn ((sortP l).map Pair.row))]
theorem Jtlw (l : List Pair) : (sortP l).Pairwise fun a b => lessP b a = false := by
 have := List.pairwise_mergeSort (le := fun x y => !lessP y x) (fun a b c h1 h2 => ?_) (fun a b => ?_) l
 ·refine List.Pairwise.imp ?_ this
  intro a b h; simpa using h
 ·simp only [Bool.not_eq_true'] at h1 h2 ⊢
  cases h : lessP c a with
  | false => rfl
  | true =>
   cases h3 : lessP b c with
   | true => rw [Jte2 h3 h] at h1; cases h1
   | false => have := Jte1 h3 h2; subst this; rw [h] at h1; cases h1
 ·cases h1 : lessP b a with
  | false => simp
  | true => simp [Jtdx h1]
theorem Jtfk {l : List Pair} {q : Pair} : q ∈ sortP l ↔ q ∈ l := by unfold sortP; simp
theorem Jt7d (l : List Pair) : dd (sortP l) = makeP l :=
 Jtmq (srt_dd (Jtlw l)) (Jtmu l) fun q => by rw [mem_dd, Jtfk, Jtfd]
theorem Jtlv {l : List Pair} (h : l ≠ []) : sortP l ≠ [] := by
 intro e; have := Jtlu l; rw [e] at this; exact h (List.length_eq_zero_iff.1 this.symm)
section
theorem Jthn {P : Program} {p : Nums} (A : All P p) (S : SortOk P p) : Jt3o P p.pairset_Make [.d (.sl [])] [] fun o H' => o = .ret (.d (.sl [])) ∧ H' = [] := by
 refine A.pairset_Make.run rfl fun R hR => ?_
 (simp (maxSteps := 1000000) [Jtbg])
 refine Jtw [] 0 (Jtlr A) (by decide) (by rfl) (by rfl) (by rfl) (by rfl) (by rfl) (by rfl) ?_
 (simp (maxSteps := 1000000) [])
 refine Jtw [] 0 S.none (by decide) (by rfl) (by rfl) (by rfl) (by rfl) (by rfl) (by rfl) ?_
 (simp (maxSteps := 1000000) [])
 refine Jtw [] 0 (Jtlt A) (by decide) (by rfl) (by rfl) (by rfl) (by rfl) (by rfl) (by rfl) ?_
 (simp (maxSteps := 1000000) [])
 exact hR _ _ (Jt3u _ _ rfl (by (exact wkvA)) ⟨rfl, rfl⟩)
theorem Jthm {P : Program} {p : Nums} (A : All P p) (S : SortOk P p) (l : List Pair) (h0 : l.length < 1000000) : Jt3o P p.pairset_Make [.d (pairsD l)] [] fun o _ => o = .ret (.d (pairsD (makeP l))) := by
 by_cases hl : l = []
 ·subst hl
  exact (Jthn A S).mono fun o H' h => h.1
 ·refine A.pairset_Make.run rfl fun R hR => ?_
  (simp (maxSteps := 1000000) [Jtbg, pairsD])
  refine Jtw [] 1 (Jtlq A l hl h0) (by decide) (by rfl) (by rfl) (by rfl) Jtk1 (by rfl) (by rfl) ?_
  (simp (maxSteps := 1000000) [])
  refine Jtw [0] 0 (S.some l hl h0) (by decide) (by rfl) (by rfl) Jtk1 Jtk1 (by rfl) (by rfl) ?_
  (simp (maxSteps := 1000000) [])
  have hs := Jtls A (sortP l) (Jtlv hl) (by rw [Jtlu]; exact h0)
  rw [Jtlu, Jt7d] at hs
  refine Jtw [0] 0 hs (by decide) (by rfl) (by rfl) Jtk1 Jtk1 (by rfl) (by rfl) ?_
  obtain ⟨n, hn⟩ : ∃ n, n = (makeP l).length := ⟨_, rfl⟩
  obtain ⟨U, hU⟩ : ∃ U, U = cptP (sortP l) := ⟨_, rfl⟩
  rw [← hn, ← hU]
  (simp (maxSteps := 1000000) [])
  refine hR _ _ (Jt3u _ _ rfl (WkV.hsl 0 0 2 n _ ((makeP l).map Pair.row) rfl (by omega) ?_ (by rw [hn]; simp) (Jtkx fun _ => rfl)) rfl)
  show ((Jtkn (U.map Pair.row)).drop 0).take (n * 2) = Jtkn ((makeP l).map Pair.row)
  rw [List.drop_zero, Jtkt (e := 2) (rows := U.map Pair.row) (Jtkx (f := Pair.row) fun _ => rfl), ← List.map_take, hU, cptP, Jt7d, hn, List.take_left']
  rfl
end
def renP (c : Pair → Bool) (f : Pair → Pair) (l : List Pair) : List Pair := (l.filter c).map f
theorem Jtk5 {c : Pair → Bool} {f : Pair → Pair} {l : List Pair} {k : Nat} (h : k < l.length) : renP c f (l.take (k + 1)) = if c l[k] = true then renP c f (l.take k) ++ [f l[k]] else renP c f (l.take k) := by
 unfold renP
 rw [List.take_add_one, List.getElem?_eq_getElem h, List.filter_append, List.map_append]
 cases hf : c l[k] <;> simp [hf]
theorem Jtk4 (c : Pair → Bool) (f : Pair → Pair) (l : List Pair) : (renP c f l).length ≤ l.length := by
 unfold renP; rw [List.length_map]; exact List.length_filter_le _ _
theorem Jtfj {c : Pair → Bool} {f : Pair → Pair} {l : List Pair} {q : Pair} : q ∈ renP c f l ↔ ∃ p ∈ l, c p = true ∧ f p = q := by
 unfold renP; simp only [List.mem_map, List.mem_filter, and_assoc]
def copyP (l : List Pair) (d a : Int) : List Pair := if d = a then makeP l else mergeP (l.filter fun x => x.v != d) (makeP (renP (fun x => x.v == a) (fun x => ⟨d, x.l⟩) l))
def moveP (l : List Pair) (d a : Int) : List Pair := if d = a then makeP l else mergeP (l.filter fun x => x.l != d) (makeP (renP (fun x => x.l == a) (fun x => ⟨x.v, d⟩) l))
def defP (l : List Pair) (d t : Int) : List Pair := addP ((l.filter fun x => x.v != d).filter fun x => x.l != t) ⟨d, t⟩
theorem Jtmr {l : List Pair} {f : Pair → Bool} (h : Srt l) : Srt (l.filter f) := List.Pairwise.filter f h
theorem Jtmo {l : List Pair} {d a : Int} (h : Srt l) : Srt (copyP l d a) := by
 unfold copyP; split
 ·exact Jtmu _
 ·exact Jtmv (Jtmr h) (Jtmu _)
theorem Jtmw {l : List Pair} {d a : Int} (h : Srt l) : Srt (moveP l d a) := by
 unfold moveP; split
 ·exact Jtmu _
 ·exact Jtmv (Jtmr h) (Jtmu _)
theorem Jtmp {l : List Pair} {d t : Int} (h : Srt l) : Srt (defP l d t) := Jtml (Jtmr (Jtmr h))
theorem Jtfa {l : List Pair} {d a : Int} {q : Pair} : q ∈ copyP l d a ↔ (q ∈ l ∧ (d = a ∨ q.v ≠ d)) ∨ (q.v = d ∧ (⟨a, q.l⟩ : Pair) ∈ l) := by
 unfold copyP
 by_cases h : d = a
 ·subst h
  rw [if_pos rfl, Jtfd]
  constructor
  ·intro hq; exact .inl ⟨hq, .inl rfl⟩
  ·rintro (⟨hq, _⟩ | ⟨e, hq⟩)
   ·exact hq
   ·have : (⟨d, q.l⟩ : Pair) = q := Jt7y e.symm rfl
    rw [this] at hq; exact hq
 ·rw [if_neg h, Jtfe, Jtfd, Jtfj, List.mem_filter]
  constructor
  ·rintro (⟨h1, h2⟩ | ⟨p, h1, h2, rfl⟩)
   ·exact .inl ⟨h1, .inr (by simpa using h2)⟩
   ·refine .inr ⟨rfl, ?_⟩
    have e : p.v = a := by simpa using h2
    have : (⟨a, p.l⟩ : Pair) = p := Jt7y e.symm rfl
    simpa [this] using h1
  ·rintro (⟨h1, h2⟩ | ⟨h1, h2⟩)
   ·exact .inl ⟨h1, by simpa using h2.resolve_left h⟩
   ·exact .inr ⟨_, h2, by simp, Jt7y h1.symm rfl⟩
theorem Jtff {l : List Pair} {d a : Int} {q : Pair} : q ∈ moveP l d a ↔ (q ∈ l ∧ (d = a ∨ q.l ≠ d)) ∨ (q.l = d ∧ (⟨q.v, a⟩ : Pair) ∈ l) := by
 unfold moveP
 by_cases h : d = a
 ·subst h
  rw [if_pos rfl, Jtfd]
  constructor
  ·intro hq; exact .inl ⟨hq, .inl rfl⟩
  ·rintro (⟨hq, _⟩ | ⟨e, hq⟩)
   ·exact hq
   ·have : (⟨q.v, d⟩ : Pair) = q := Jt7y rfl e.symm
    rw [this] at hq; exact hq
 ·rw [if_neg h, Jtfe, Jtfd, Jtfj, List.mem_filter]
  constructor
  ·rintro (⟨h1, h2⟩ | ⟨p, h1, h2, rfl⟩)
   ·exact .inl ⟨h1, .inr (by simpa using h2)⟩
   ·refine .inr ⟨rfl, ?_⟩
    have e : p.l = a := by simpa using h2
    have : (⟨p.v, a⟩ : Pair) = p := Jt7y rfl e.symm
    simpa [this] using h1
  ·rintro (⟨h1, h2⟩ | ⟨h1, h2⟩)
   ·exact .inl ⟨h1, by simpa using h2.resolve_left h⟩
   ·exact .inr ⟨_, h2, by simp, Jt7y rfl h1.symm⟩
theorem Jtfb {l : List Pair} {d t : Int} {q : Pair} : q ∈ defP l d t ↔ q = ⟨d, t⟩ ∨ (q ∈ l ∧ q.v ≠ d ∧ q.l ≠ t) := by
 unfold defP
 rw [Jtf9, List.mem_filter, List.mem_filter]
 simp [and_assoc]
def rcStep (d a : Int) (out : List Pair) (x : Pair) : List Pair :=
 if x.v = a then addP (if d = a ∨ x.v ≠ d then addP out x else out) ⟨d, x.l⟩ else (if d = a ∨ x.v ≠ d then addP out x else out)
theorem Jtic {d a : Int} {out : List Pair} {x : Pair} (h3 : x.v = a) (h2 : d = a ∨ x.v ≠ d) : rcStep d a out x = addP (addP out x) ⟨d, x.l⟩ := by unfold rcStep; rw [if_pos h3, if_pos h2]
theorem Jtib {d a : Int} {out : List Pair} {x : Pair} (h3 : x.v = a) (h2 : ¬ (d = a ∨ x.v ≠ d)) : rcStep d a out x = addP out ⟨d, x.l⟩ := by unfold rcStep; rw [if_pos h3, if_neg h2]
theorem Jti9 {d a : Int} {out : List Pair} {x : Pair} (h3 : ¬ x.v = a) (h2 : d = a ∨ x.v ≠ d) : rcStep d a out x = addP out x := by unfold rcStep; rw [if_neg h3, if_pos h2]
theorem Jti8 {d a : Int} {out : List Pair} {x : Pair} (h3 : ¬ x.v = a) (h2 : ¬ (d = a ∨ x.v ≠ d)) : rcStep d a out x = out := by unfold rcStep; rw [if_neg h3, if_neg h2]
def rcopyP (l : List Pair) (d a : Int) : List Pair := l.foldl (rcStep d a) []
def rmStep (d a : Int) (out : List Pair) (x : Pair) : List Pair :=
 if x.l = a then addP (if d = a ∨ x.l ≠ d then addP out x else out) ⟨x.v, d⟩ else (if d = a ∨ x.l ≠ d then addP out x else out)
theorem Jtki {d a : Int} {out : List Pair} {x : Pair} (h3 : x.l = a) (h2 : d = a ∨ x.l ≠ d) : rmStep d a out x = addP (addP out x) ⟨x.v, d⟩ := by unfold rmStep; rw [if_pos h3, if_pos h2]
theorem Jtkh {d a : Int} {out : List Pair} {x : Pair} (h3 : x.l = a) (h2 : ¬ (d = a ∨ x.l ≠ d)) : rmStep d a out x = addP out ⟨x.v, d⟩ := by unfold rmStep; rw [if_pos h3, if_neg h2]
theorem Jtkf {d a : Int} {out : List Pair} {x : Pair} (h3 : ¬ x.l = a) (h2 : d = a ∨ x.l ≠ d) : rmStep d a out x = addP out x := by unfold rmStep; rw [if_neg h3, if_pos h2]
theorem Jtke {d a : Int} {out : List Pair} {x : Pair} (h3 : ¬ x.l = a) (h2 : ¬ (d = a ∨ x.l ≠ d)) : rmStep d a out x = out := by unfold rmStep; rw [if_neg h3, if_neg h2]
def rmoveP (l : List Pair) (d a : Int) : List Pair := l.foldl (rmStep d a) []
def rdStep (d t : Int) (out : List Pair) (x : Pair) : List Pair := if x.v ≠ d ∧ x.l ≠ t then addP out x else out
def rdefP (l : List Pair) (d t : Int) : List Pair := l.foldl (rdStep d t) [⟨d, t⟩]
theorem Jt90 {α β : Type} {f : β → α → β} {l : List α} {z : β} {k : Nat} (h : k < l.length) : (l.take (k + 1)).foldl f z = f ((l.take k).foldl f z) l[k] := by
 rw [List.take_add_one, List.getElem?_eq_getElem h, List.foldl_append]; rfl
theorem Jtia (d a : Int) (out : List Pair) (x : Pair) : (rcStep d a out x).length ≤ out.length + 2 := by
 have h1 := Jt4f out x
 have h5 := Jt4f (addP out x) ⟨d, x.l⟩
 have h6 := Jt4f out ⟨d, x.l⟩
 by_cases h2 : d = a ∨ x.v ≠ d <;> by_cases h3 : x.v = a
 ·rw [Jtic h3 h2]; omega
 ·rw [Jti9 h3 h2]; omega
 ·rw [Jtib h3 h2]; omega
 ·rw [Jti8 h3 h2]; omega
theorem Jtkg (d a : Int) (out : List Pair) (x : Pair) : (rmStep d a out x).length ≤ out.length + 2 := by
 have h1 := Jt4f out x
 have h5 := Jt4f (addP out x) ⟨x.v, d⟩
 have h6 := Jt4f out ⟨x.v, d⟩
 by_cases h2 : d = a ∨ x.l ≠ d <;> by_cases h3 : x.l = a
 ·rw [Jtki h3 h2]; omega
 ·rw [Jtkf h3 h2]; omega
 ·rw [Jtkh h3 h2]; omega
 ·rw [Jtke h3 h2]; omega
theorem Jt8x {f : List Pair → Pair → List Pair} (hf : ∀ o x, (f o x).length ≤ o.length + 2) (l z : List Pair) : (l.foldl f z).length ≤ z.length + 2 * l.length := by
 induction l generalizing z with
 | nil => simp
 | cons x l ih => have h1 := ih (f z x); have h2 := hf z x; simp only [List.foldl_cons, List.length_cons]; omega
theorem Jtms {f : List Pair → Pair → List Pair} (hf : ∀ o x, Srt o → Srt (f o x)) (l z : List Pair) (hz : Srt z) : Srt (l.foldl f z) := by
 induction l generalizing z with
 | nil => exact hz
 | cons x l ih => exact ih _ (hf z x hz)
theorem Jtfc {f : List Pair → Pair → List Pair} {R : Pair → Pair → Prop} (hf : ∀ o x q, q ∈ f o x ↔ q ∈ o ∨ R x q) (l z : List Pair) (q : Pair) : q ∈ l.foldl f z ↔ q ∈ z ∨ ∃ x ∈ l, R x q := by
 induction l generalizing z with
 | nil => simp
 | cons x l ih => rw [List.foldl_cons, ih, hf]; simp [or_assoc]
theorem Jtid {l : List Pair} {d a : Int} (h : Srt l) : rcopyP l d a = copyP l d a := by
 refine Jtmq (Jtms (fun o x ho => ?_) l [] List.Pairwise.nil) (Jtmo h) fun q => ?_
 ·have h1 := Jtml (p := x) ho
  by_cases h2 : d = a ∨ x.v ≠ d <;> by_cases h3 : x.v = a
  ·rw [Jtic h3 h2]; exact Jtml h1
  ·rw [Jti9 h3 h2]; exact h1
  ·rw [Jtib h3 h2]; exact Jtml ho
  ·rw [Jti8 h3 h2]; exact ho
 ·unfold rcopyP
  rw [Jtfc (R := fun x q => ((d = a ∨ x.v ≠ d) ∧ q = x) ∨ (x.v = a ∧ q = ⟨d, x.l⟩)) (fun o x q => ?_), Jtfa]
  ·simp only [List.not_mem_nil, false_or]
   constructor
   ·rintro ⟨x, hx, ⟨h1, rfl⟩ | ⟨h1, rfl⟩⟩
    ·exact .inl ⟨hx, h1⟩
    ·exact .inr ⟨rfl, by rw [show (⟨a, x.l⟩ : Pair) = x from Jt7y h1.symm rfl]; exact hx⟩
   ·rintro (⟨h1, h2⟩ | ⟨h1, h2⟩)
    ·exact ⟨q, h1, .inl ⟨h2, rfl⟩⟩
    ·exact ⟨_, h2, .inr ⟨rfl, Jt7y h1 rfl⟩⟩
  ·by_cases h2 : d = a ∨ x.v ≠ d <;> by_cases h3 : x.v = a
   ·rw [Jtic h3 h2, Jtf9, Jtf9, eq_true h2, eq_true h3, true_and, true_and]
    constructor <;> rintro (h | h | h) <;> simp [h]
   ·rw [Jti9 h3 h2, Jtf9, eq_true h2, eq_false h3, true_and, false_and, or_false, or_comm]
   ·rw [Jtib h3 h2, Jtf9, eq_false h2, eq_true h3, true_and, false_and, false_or, or_comm]
   ·rw [Jti8 h3 h2, eq_false h2, eq_false h3, false_and, false_and, false_or, or_false]
theorem Jtkj {l : List Pair} {d a : Int} (h : Srt l) : rmoveP l d a = moveP l d a := by
 refine Jtmq (Jtms (fun o x ho => ?_) l [] List.Pairwise.nil) (Jtmw h) fun q => ?_
 ·have h1 := Jtml (p := x) ho
  by_cases h2 : d = a ∨ x.l ≠ d <;> by_cases h3 : x.l = a
  ·rw [Jtki h3 h2]; exact Jtml h1
  ·rw [Jtkf h3 h2]; exact h1
  ·rw [Jtkh h3 h2]; exact Jtml ho
  ·rw [Jtke h3 h2]; exact ho
 ·unfold rmoveP
  rw [Jtfc (R := fun x q => ((d = a ∨ x.l ≠ d) ∧ q = x) ∨ (x.l = a ∧ q = ⟨x.v, d⟩)) (fun o x q => ?_), Jtff]
  ·simp only [List.not_mem_nil, false_or]
   constructor
   ·rintro ⟨x, hx, ⟨h1, rfl⟩ | ⟨h1, rfl⟩⟩
    ·exact .inl ⟨hx, h1⟩
    ·exact .inr ⟨rfl, by rw [show (⟨x.v, a⟩ : Pair) = x from Jt7y rfl h1.symm]; exact hx⟩
   ·rintro (⟨h1, h2⟩ | ⟨h1, h2⟩)
    ·exact ⟨q, h1, .inl ⟨h2, rfl⟩⟩
    ·exact ⟨_, h2, .inr ⟨rfl, Jt7y rfl h1⟩⟩
  ·by_cases h2 : d = a ∨ x.l ≠ d <;> by_cases h3 : x.l = a
   ·rw [Jtki h3 h2, Jtf9, Jtf9, eq_true h2, eq_true h3, true_and, true_and]
    constructor <;> rintro (h | h | h) <;> simp [h]
   ·rw [Jtkf h3 h2, Jtf9, eq_true h2, eq_false h3, true_and, false_and, or_false, or_comm]
   ·rw [Jtkh h3 h2, Jtf9, eq_false h2, eq_true h3, true_and, false_and, false_or, or_comm]
   ·rw [Jtke h3 h2, eq_false h2, eq_false h3, false_and, false_and, false_or, or_false]
theorem Jtif {l : List Pair} {d t : Int} (h : Srt l) : rdefP l d t = defP l d t := by
 refine Jtmq (Jtms (fun o x ho => ?_) l _ (List.pairwise_singleton _ _)) (Jtmp h) fun q => ?_
 ·unfold rdStep; split
  ·exact Jtml ho
  ·exact ho
 ·unfold rdefP
  rw [Jtfc (R := fun x q => (x.v ≠ d ∧ x.l ≠ t) ∧ q = x) (fun o x q => ?_), Jtfb, List.mem_singleton]
  ·constructor
   ·rintro (h1 | ⟨x, hx, h1, rfl⟩)
    ·exact .inl h1
    ·exact .inr ⟨hx, h1⟩
   ·rintro (h1 | ⟨h1, h2⟩)
    ·exact .inl h1
    ·exact .inr ⟨q, h1, h2, rfl⟩
  ·unfold rdStep
   by_cases h2 : x.v ≠ d ∧ x.l ≠ t <;> simp only [h2, if_true, if_false, Jtf9, true_and, false_and, or_false, and_self, not_false_eq_true, ne_eq]
   constructor <;> (intro hh; rcases hh with hh | hh <;> simp_all)
section
end
section
end
section
end
section
end
theorem Jt8e {l : List Pair} {f : Pair → Bool} {k : Nat} (h : k < l.length) : (l.take (k + 1)).filter f = if f l[k] = true then (l.take k).filter f ++ [l[k]] else (l.take k).filter f := by
 rw [List.take_add_one, List.getElem?_eq_getElem h, List.filter_append]
 cases hf : f l[k] <;> simp [hf]
section
theorem Jthh {P : Program} {p : Nums} (A : All P p) (x : Pair) (v : Int) : Jt3o P p.pairset_DropV_1 [x.av, .ptr 0 0] [.mem [AI v]] fun o H' => o = .ret (AB (x.v != v)) ∧ H' = [.mem [AI v]] := by
 refine A.pairset_DropV_1.run rfl fun R hR => ?_
 (simp (maxSteps := 1000000) [Jtbd, Pair.av])
 exact hR _ _ (Jt3t _ (AB (x.v != v)) [.mem [AI v]] rfl (by (exact wkA)) ⟨rfl, rfl⟩)
theorem Jthe {P : Program} {p : Nums} (A : All P p) (x : Pair) (v : Int) : Jt3o P p.pairset_DropL_1 [x.av, .ptr 0 0] [.mem [AI v]] fun o H' => o = .ret (AB (x.l != v)) ∧ H' = [.mem [AI v]] := by
 refine A.pairset_DropL_1.run rfl fun R hR => ?_
 (simp (maxSteps := 1000000) [Jtbb, Pair.av])
 exact hR _ _ (Jt3t _ (AB (x.l != v)) [.mem [AI v]] rfl (by (exact wkA)) ⟨rfl, rfl⟩)
theorem Jthq {P : Program} {p : Nums} (A : All P p) (l : List Pair) (f : Nat) (v : Int) (keep : Pair → Bool) (h0 : l.length < 1000000) (hok : okFn P f = true)
  (hf : ∀ x : Pair, Jt3o P f [x.av, .ptr 0 0] [.mem [AI v]] fun o H' => o = .ret (AB (keep x)) ∧ H' = [.mem [AI v]]) :
  Jt3o P p.pairset_filter [.d (pairsD l), .fn (.func f) [] [.ptr 0 0]] [.mem [AI v]] fun o H' => o = .ret (.own 2 ((l.filter keep).map Pair.row)) ∧ H' = [.mem [AI v]] := by
 refine A.pairset_filter.run rfl fun R hR => ?_
 (simp (maxSteps := 1000000) [Jtbj, pairsD])
 refine Jt1y (n := l.length) (by rfl) (by rfl) (by omega) (by omega) (by decide) (by rfl) ?_
 (simp (maxSteps := 1000000) [])
 refine Jt9 (fun k : Nat => ⟨[(13, AI k), (12, AI l.length), (11, .d (.sl (l.map Pair.row))), (5, .own 2 (((l.take k).filter keep).map Pair.row)), (4, .nils), (1, .fn (.func f) [] [.ptr 0 0])], [.mem [AI v]]⟩) (fun k => k ≤ l.length) (fun k => l.length - k) 0 (by simp) (by simp only [List.take_zero, List.filter_nil, List.map_nil]; (exact wkA)) ?_
 intro k hk N hN
 (simp (maxSteps := 1000000) [])
 ((first | refine Xc (fun h2 => ?_) (fun h2 => ?_) | refine Xo (fun h2 => ?_) (fun h2 => ?_)) <;> (try simp only [Xz, Xy] at h2))
 ·have hkl : k < l.length := by omega
  have hb : l[k]? = some l[k] := by simp
  have hw := Jtoq (k := k) (by omega)
  have hs := Jt8e (f := keep) hkl
  have hl := List.length_filter_le keep (l.take k)
  rw [List.length_take] at hl
  obtain ⟨x, hx⟩ : ∃ x, x = l[k] := ⟨_, rfl⟩
  obtain ⟨F, hF⟩ : ∃ F, F = (l.take k).filter keep := ⟨_, rfl⟩
  have hN' := fun st' h => hN st' (k + 1) hkl h (by omega)
  rw [hs] at hN'
  rw [← hx, ← hF] at hN'
  rw [← hF] at hl ⊢
  rw [← hx] at hb
  (simp (maxSteps := 1000000) [h2, hb, Pair.row])
  refine ⟨f, [], [.ptr 0 0], [.agg [AI l[k].v, AI l[k].l]], rfl, hok, rfl, ?_⟩
  refine Jtv [0] (hf l[k]) (by decide) (by rfl) (by rfl) (by rfl) (by rfl) (by rfl) (by rfl) ?_
  rw [← hx]
  (simp (maxSteps := 1000000) [])
  cases hkx : keep x with
  | true =>
   rw [hkx, if_pos rfl] at hN'
   (simp (maxSteps := 1000000) [hkx])
   (refine Jt16 (by rfl) (by rfl) (by rfl) ?_ (by decide) ?_ ?_ ?_)
   ·simp
   ·simp; omega
   ·simp; omega
   (simp (maxSteps := 1000000) [hw])
   exact hN' _ (by simp [Pair.row]; (exact wkA))
  | false =>
   rw [hkx, if_neg (by simp)] at hN'
   (simp (maxSteps := 1000000) [hkx, hw])
   exact hN' _ (by (exact wkA))
 ·have hk' : k = l.length := by omega
  subst hk'
  (simp (maxSteps := 1000000) [])
  exact hR _ _ (Jt3t _ (.own 2 ((l.filter keep).map Pair.row)) [.mem [AI v]] rfl (by (exact wkA)) ⟨rfl, rfl⟩)
theorem Jthj {P : Program} {p : Nums} (A : All P p) (l : List Pair) (v : Int) (h0 : l.length < 1000000) : Jt3o P p.pairset_DropV [.d (pairsD l), AI v] [] fun o H' => o = .ret (.own 2 ((l.filter fun x => x.v != v).map Pair.row)) ∧ H' = [] := by
 refine A.pairset_DropV.run rfl fun R hR => ?_
 (simp (maxSteps := 1000000) [Jtbc, pairsD])
 refine Jtv [0] (Jthq A l p.pairset_DropV_1 v (fun x => x.v != v) h0 A.pairset_DropV_1.ok fun x => Jthh A x v) (by decide) (by rfl) (by rfl) (by rfl) (by rfl) (by rfl) (by rfl) ?_
 (simp (maxSteps := 1000000) [])
 exact hR _ _ (Jt3q _ _ rfl ⟨rfl, rfl⟩)
theorem Jthg {P : Program} {p : Nums} (A : All P p) (l : List Pair) (v : Int) (h0 : l.length < 1000000) : Jt3o P p.pairset_DropL [.d (pairsD l), AI v] [] fun o H' => o = .ret (.own 2 ((l.filter fun x => x.l != v).map Pair.row)) ∧ H' = [] := by
 refine A.pairset_DropL.run rfl fun R hR => ?_
 (simp (maxSteps := 1000000) [Jtba, pairsD])
 refine Jtv [0] (Jthq A l p.pairset_DropL_1 v (fun x => x.l != v) h0 A.pairset_DropL_1.ok fun x => Jthe A x v) (by decide) (by rfl) (by rfl) (by rfl) (by rfl) (by rfl) (by rfl) ?_
 (simp (maxSteps := 1000000) [])
 exact hR _ _ (Jt3q _ _ rfl ⟨rfl, rfl⟩)
theorem Jthi {P : Program} {p : Nums} (A : All P p) (l : List Pair) (v : Int) (h0 : l.length < 1000000) : Jt3o P p.pairset_DropV [.d (pairsD l), AI v] [] fun o _ => o = .ret (.d (pairsD (l.filter fun x => x.v != v))) :=
 (Jthj A l v h0).unown.mono fun _ _ h => h.1
theorem Jthf {P : Program} {p : Nums} (A : All P p) (l : List Pair) (v : Int) (h0 : l.length < 1000000) : Jt3o P p.pairset_DropL [.d (pairsD l), AI v] [] fun o _ => o = .ret (.d (pairsD (l.filter fun x => x.l != v))) :=
 (Jthg A l v h0).unown.mono fun _ _ h => h.1
end
structure ClosOk (P : Program) (p : Nums) : Prop where
 ok1 : okFn P p.transfer_Copy_1 = true
 ok2 : okFn P p.transfer_Move_1 = true
 copy : ∀ (x : Pair) (d a : Int), Jt3o P p.transfer_Copy_1 [x.av, .ptr 0 0, .ptr 1 0] [.mem [AI d], .mem [AI a]] fun o H' => o = .ret (.tup [(⟨d, x.l⟩ : Pair).av, AB (x.v == a)]) ∧ H' = [.mem [AI d], .mem [AI a]]
 move : ∀ (x : Pair) (d a : Int), Jt3o P p.transfer_Move_1 [x.av, .ptr 0 0, .ptr 1 0] [.mem [AI d], .mem [AI a]] fun o H' => o = .ret (.tup [(⟨x.v, d⟩ : Pair).av, AB (x.l == a)]) ∧ H' = [.mem [AI d], .mem [AI a]]
section
theorem Jto4 {P : Program} {p : Nums} (A : All P p) (S : SortOk P p) (kept l : List Pair) (f : Nat) (d a : Int) (c : Pair → Bool) (g : Pair → Pair) (h0 : kept.length < 100000) (h1 : l.length < 100000) (hok : okFn P f = true)
  (hf : ∀ x : Pair, Jt3o P f [x.av, .ptr 0 0, .ptr 1 0] [.mem [AI d], .mem [AI a]] fun o H' => o = .ret (.tup [(g x).av, AB (c x)]) ∧ H' = [.mem [AI d], .mem [AI a]]) :
  Jt3o P p.transfer_rename [.d (pairsD kept), .d (pairsD l), .fn (.func f) [] [.ptr 0 0, .ptr 1 0]] [.mem [AI d], .mem [AI a]] fun o H' => o = .ret (.own 2 ((mergeP kept (makeP (renP c g l))).map Pair.row)) ∧ H' = [.mem [AI d], .mem [AI a]] := by
 refine A.transfer_rename.run rfl fun R hR => ?_
 (simp (maxSteps := 1000000) [Jtcy, pairsD])
 refine Jt9 (fun k : Nat => ⟨[(14, AI k), (13, AI l.length), (12, .d (.sl (l.map Pair.row))), (7, .own 2 ((renP c g (l.take k)).map Pair.row)), (6, .nils), (2, .fn (.func f) [] [.ptr 0 0, .ptr 1 0]), (0, .d (.sl (kept.map Pair.row)))], [.mem [AI d], .mem [AI a]]⟩) (fun k => k ≤ l.length) (fun k => l.length - k) 0 (by simp) (by simp only [List.take_zero, renP, List.filter_nil, List.map_nil]; (exact wkA)) ?_
 intro k hk N hN
 (simp (maxSteps := 1000000) [])
 ((first | refine Xc (fun h2 => ?_) (fun h2 => ?_) | refine Xo (fun h2 => ?_) (fun h2 => ?_)) <;> (try simp only [Xz, Xy] at h2))
 ·have hkl : k < l.length := by omega
  have hb : l[k]? = some l[k] := by simp
  have hw := Jtoq (k := k) (by omega)
  have hs := Jtk5 (c := c) (f := g) hkl
  have hl := Jtk4 c g (l.take k)
  rw [List.length_take] at hl
  obtain ⟨x, hx⟩ : ∃ x, x = l[k] := ⟨_, rfl⟩
  obtain ⟨F, hF⟩ : ∃ F, F = renP c g (l.take k) := ⟨_, rfl⟩
  have hN' := fun st' h => hN st' (k + 1) hkl h (by omega)
  rw [hs] at hN'
  rw [← hx, ← hF] at hN'
  rw [← hF] at hl ⊢
  rw [← hx] at hb
  (simp (maxSteps := 1000000) [h2, hb, Pair.row])
  refine ⟨f, [], [.ptr 0 0, .ptr 1 0], [.agg [AI l[k].v, AI l[k].l]], rfl, hok, rfl, ?_⟩
  refine Jtv [0, 1] (hf l[k]) (by decide) (by rfl) (by rfl) (by rfl) (by rfl) (by rfl) (by rfl) ?_
  rw [← hx]
  obtain ⟨y, hy⟩ : ∃ y, y = g x := ⟨_, rfl⟩
  rw [← hy] at hN' ⊢
  (simp (maxSteps := 1000000) [Pair.av])
  cases hkx : c x with
  | true =>
   rw [hkx, if_pos rfl] at hN'
   (simp (maxSteps := 1000000) [hkx, Pair.av])
   (refine Jt16 (by rfl) (by rfl) (by rfl) ?_ (by decide) ?_ ?_ ?_)
   ·simp
   ·simp; omega
   ·simp; omega
   (simp (maxSteps := 1000000) [hw])
   exact hN' _ (by simp [Pair.row]; (exact wkA))
  | false =>
   rw [hkx, if_neg (by simp)] at hN'
   (simp (maxSteps := 1000000) [hkx, hw])
   exact hN' _ (by (exact wkA))
 ·have hk' : k = l.length := by omega
  subst hk'
  have hl := Jtk4 c g l
  have hm := Jtex (renP c g l)
  have hmk := Jthm A S (renP c g l) (by omega)
  have hun := (Jthp A kept (makeP (renP c g l)) (by omega) (by omega)).mono fun _ _ h => h.1
  obtain ⟨G, hG⟩ : ∃ G, G = renP c g l := ⟨_, rfl⟩
  obtain ⟨M, hM⟩ : ∃ M, M = makeP (renP c g l) := ⟨_, rfl⟩
  rw [← hM, ← hG] at hmk
  rw [← hM] at hun
  simp only [List.take_length]
  rw [← hG]
  (simp (maxSteps := 1000000) [])
  (refine Jtt hmk (by rfl) (by rfl) ?_)
  (simp (maxSteps := 1000000) [pairsD])
  (refine Jtt hun (by rfl) (by rfl) ?_)
  (simp (maxSteps := 1000000) [])
  exact hR _ _ (Jt3t _ (.own 2 ((mergeP kept M).map Pair.row)) [.mem [AI d], .mem [AI a]] rfl (by (exact wkA)) ⟨by rw [hM], rfl⟩)
theorem Jtnz {P : Program} {p : Nums} (A : All P p) (S : SortOk P p) (C : ClosOk P p) (l : List Pair) (d a : Int) (h0 : l.length < 100000) (hne : d ≠ a) : Jt3o P p.transfer_Copy [.d (pairsD l), AI d, AI a] [] fun o H' => o = .ret (.own 2 ((copyP l d a).map Pair.row)) ∧ H' = [] := by
 refine A.transfer_Copy.run rfl fun R hR => ?_
 (simp (maxSteps := 1000000) [Jtcv, pairsD, hne])
 (refine Jtt (Jthi A l d (by omega)) (by rfl) (by rfl) ?_)
 have hl := List.length_filter_le (fun x : Pair => x.v != d) l
 have hrn := Jto4 A S (l.filter fun x => x.v != d) l p.transfer_Copy_1 d a (fun x => x.v == a) (fun x => ⟨d, x.l⟩) (by omega) h0 C.ok1 fun x => C.copy x d a
 have hc : copyP l d a = mergeP (l.filter fun x => x.v != d) (makeP (renP (fun x => x.v == a) (fun x => ⟨d, x.l⟩) l)) := by unfold copyP; rw [if_neg hne]
 rw [← hc] at hrn
 obtain ⟨K, hK⟩ : ∃ K, K = l.filter fun x => x.v != d := ⟨_, rfl⟩
 rw [← hK] at hrn ⊢
 (simp (maxSteps := 1000000) [pairsD])
 refine Jtv [0, 1] hrn (by decide) (by rfl) (by rfl) (by rfl) (by rfl) (by rfl) (by rfl) ?_
 (simp (maxSteps := 1000000) [])
 exact hR _ _ (Jt3q _ _ rfl ⟨rfl, rfl⟩)
theorem Jtny {P : Program} {p : Nums} (A : All P p) (S : SortOk P p) (C : ClosOk P p) (l : List Pair) (d a : Int) (h0 : l.length < 100000) : Jt3o P p.transfer_Copy [.d (pairsD l), AI d, AI a] [] fun o _ => o = .ret (.d (pairsD (copyP l d a))) := by
 by_cases hne : d = a
 ·refine A.transfer_Copy.run rfl fun R hR => ?_
  subst hne
  (simp (maxSteps := 1000000) [Jtcv, pairsD])
  have hc : copyP l d d = makeP l := by unfold copyP; rw [if_pos rfl]
  have hmk := Jthm A S l (by omega)
  rw [← hc] at hmk
  (refine Jtt hmk (by rfl) (by rfl) ?_)
  (simp (maxSteps := 1000000) [pairsD])
  (first | exact hR _ _ FrA | exact hR _ _ FnA | exact hR _ _ (Xf (hq := by simp [AV.erase, AV.unview, pairsD]; done)))
 ·exact (Jtnz A S C l d a h0 hne).unown.mono fun _ _ h => h.1
theorem Jto3 {P : Program} {p : Nums} (A : All P p) (S : SortOk P p) (C : ClosOk P p) (l : List Pair) (d a : Int) (h0 : l.length < 100000) (hne : d ≠ a) : Jt3o P p.transfer_Move [.d (pairsD l), AI d, AI a] [] fun o H' => o = .ret (.own 2 ((moveP l d a).map Pair.row)) ∧ H' = [] := by
 refine A.transfer_Move.run rfl fun R hR => ?_
 (simp (maxSteps := 1000000) [Jtcx, pairsD, hne])
 (refine Jtt (Jthf A l d (by omega)) (by rfl) (by rfl) ?_)
 have hl := List.length_filter_le (fun x : Pair => x.l != d) l
 have hrn := Jto4 A S (l.filter fun x => x.l != d) l p.transfer_Move_1 d a (fun x => x.l == a) (fun x => ⟨x.v, d⟩) (by omega) h0 C.ok2 fun x => C.move x d a
 have hc : moveP l d a = mergeP (l.filter fun x => x.l != d) (makeP (renP (fun x => x.l == a) (fun x => ⟨x.v, d⟩) l)) := by unfold moveP; rw [if_neg hne]
 rw [← hc] at hrn
 obtain ⟨K, hK⟩ : ∃ K, K = l.filter fun x => x.l != d := ⟨_, rfl⟩
 rw [← hK] at hrn ⊢
 (simp (maxSteps := 1000000) [pairsD])
 refine Jtv [0, 1] hrn (by decide) (by rfl) (by rfl) (by rfl) (by rfl) (by rfl) (by rfl) ?_
 (simp (maxSteps := 1000000) [])
 exact hR _ _ (Jt3q _ _ rfl ⟨rfl, rfl⟩)
theorem Jto2 {P : Program} {p : Nums} (A : All P p) (S : SortOk P p) (C : ClosOk P p) (l : List Pair) (d a : Int) (h0 : l.length < 100000) : Jt3o P p.transfer_Move [.d (pairsD l), AI d, AI a] [] fun o _ => o = .ret (.d (pairsD (moveP l d a))) := by
 by_cases hne : d = a
 ·refine A.transfer_Move.run rfl fun R hR => ?_
  subst hne
  (simp (maxSteps := 1000000) [Jtcx, pairsD])
  have hc : moveP l d d = makeP l := by unfold moveP; rw [if_pos rfl]
  have hmk := Jthm A S l (by omega)
  rw [← hc] at hmk
  (refine Jtt hmk (by rfl) (by rfl) ?_)
  (simp (maxSteps := 1000000) [pairsD])
  (first | exact hR _ _ FrA | exact hR _ _ FnA | exact hR _ _ (Xf (hq := by simp [AV.erase, AV.unview, pairsD]; done)))
 ·exact (Jto3 A S C l d a h0 hne).unown.mono fun _ _ h => h.1
theorem Jto1 {P : Program} {p : Nums} (A : All P p) (S : SortOk P p) (l : List Pair) (d t : Int) (h0 : l.length < 100000) (hs : Srt l) : Jt3o P p.transfer_Define [.d (pairsD l), AI d, AI t] [] fun o H' => o = .ret (.own 2 ((defP l d t).map Pair.row)) ∧ H' = [] := by
 refine A.transfer_Define.run rfl fun R hR => ?_
 (simp (maxSteps := 1000000) [Jtcw, pairsD])
 (refine Jtt (Jthi A l d (by omega)) (by rfl) (by rfl) ?_)
 have hl := List.length_filter_le (fun x : Pair => x.v != d) l
 have hl2 := List.length_filter_le (fun x : Pair => x.l != t) (l.filter fun x : Pair => x.v != d)
 have h2 := Jthf A (l.filter fun x : Pair => x.v != d) t (by omega)
 have h3 := (Jthd A ((l.filter fun x => x.v != d).filter fun x => x.l != t) ⟨d, t⟩ (by omega) (Jtmr (Jtmr hs))).mono fun _ _ h => h.1
 have hc : addP ((l.filter fun x => x.v != d).filter fun x => x.l != t) ⟨d, t⟩ = defP l d t := rfl
 rw [hc] at h3
 obtain ⟨K, hK⟩ : ∃ K, K = l.filter fun x : Pair => x.v != d := ⟨_, rfl⟩
 rw [← hK] at h2 h3 ⊢
 obtain ⟨K2, hK2⟩ : ∃ K2, K2 = K.filter fun x : Pair => x.l != t := ⟨_, rfl⟩
 rw [← hK2] at h2 h3
 (simp (maxSteps := 1000000) [pairsD])
 (refine Jtt h2 (by rfl) (by rfl) ?_)
 (simp (maxSteps := 1000000) [pairsD])
 (refine Jtt h3 (by rfl) (by rfl) ?_)
 (simp (maxSteps := 1000000) [])
 exact hR _ _ (Jt3q _ _ rfl ⟨rfl, rfl⟩)
theorem Jto0 {P : Program} {p : Nums} (A : All P p) (S : SortOk P p) (l : List Pair) (d t : Int) (h0 : l.length < 100000) (hs : Srt l) : Jt3o P p.transfer_Define [.d (pairsD l), AI d, AI t] [] fun o _ => o = .ret (.d (pairsD (defP l d t))) :=
 (Jto1 A S l d t h0 hs).unown.mono fun _ _ h => h.1
end
theorem Jtie (d t : Int) (out : List Pair) (x : Pair) : (rdStep d t out x).length ≤ out.length + 2 := by
 have := Jt4f out x
 unfold rdStep; split <;> omega
section
theorem Jtj2 {P : Program} {p : Nums} (A : All P p) (l : List Pair) (d a : Int) (h0 : l.length < 100000) : Jt3o P p.ref12_Copy [.d (pairsD l), AI d, AI a] [] fun o _ => o = .ret (.d (pairsD (rcopyP l d a))) := by
 refine A.ref12_Copy.run rfl fun R hR => ?_
 (simp (maxSteps := 1000000) [Jtc5, pairsD])
 refine Jt9 (fun k : Nat => ⟨[(8, AI k), (7, .d (.sl ((rcopyP (l.take k) d a).map Pair.row))), (6, .nils), (2, AI a), (1, AI d), (0, .d (.sl (l.map Pair.row)))], []⟩) (fun k => k ≤ l.length) (fun k => l.length - k) 0 (by simp) (by simp only [List.take_zero, rcopyP, List.foldl_nil, List.map_nil]; (exact wkA)) ?_
 intro k hk N hN
 (simp (maxSteps := 1000000) [])
 ((first | refine Xc (fun h2 => ?_) (fun h2 => ?_) | refine Xo (fun h2 => ?_) (fun h2 => ?_)) <;> (try simp only [Xz, Xy] at h2))
 ·have hkl : k < l.length := by simpa using h2
  have hb : l[k]? = some l[k] := by simp
  have hw := Jtoq (k := k) (by omega)
  have hs : rcopyP (l.take (k + 1)) d a = rcStep d a (rcopyP (l.take k) d a) l[k] := Jt90 hkl
  have hl : (rcopyP (l.take k) d a).length ≤ 2 * l.length := by
   have := Jt8x (Jtia d a) (l.take k) []; simp only [List.length_take, List.length_nil] at this; unfold rcopyP; omega
  have hN' := fun st' h => hN st' (k + 1) hkl h (by omega)
  rw [hs] at hN'
  obtain ⟨F, hF⟩ : ∃ F, F = rcopyP (l.take k) d a := ⟨_, rfl⟩
  rw [← hF] at hN' hl ⊢
  have hF1 := Jt4f F l[k]
  by_cases e1 : d = a
  ·subst e1
   (simp (maxSteps := 1000000) [h2, hb, Pair.row])
   (refine Jtt (Jtiy A F l[k] (by omega)) (by rfl) (by rfl) ?_)
   (simp (maxSteps := 1000000) [pairsD, hb, Pair.row])
   by_cases h3 : l[k].v = d
   ·rw [Jtic h3 (.inl rfl)] at hN'
    (simp (maxSteps := 1000000) [h3, hb, Pair.row])
    (refine Jtt (Jtiy A (addP F l[k]) ⟨d, l[k].l⟩ (by omega)) (by rfl) (by rfl) ?_)
    (simp (maxSteps := 1000000) [pairsD, hw])
    exact hN' _ (by (exact wkA))
   ·rw [Jti9 h3 (.inl rfl)] at hN'
    (simp (maxSteps := 1000000) [h3, hw])
    exact hN' _ (by (exact wkA))
  ·by_cases h4 : l[k].v = d
   ·have h3 : ¬ l[k].v = a := fun h => e1 (h4.symm.trans h)
    have h5 : ¬ (d = a ∨ l[k].v ≠ d) := by rintro (h | h); exact e1 h; exact h h4
    rw [Jti8 h3 h5] at hN'
    (simp (maxSteps := 1000000) [h2, e1, h4, h3, hb, Pair.row, hw])
    exact hN' _ (by (exact wkA))
   ·have h5 : d = a ∨ l[k].v ≠ d := .inr h4
    (simp (maxSteps := 1000000) [h2, e1, h4, hb, Pair.row])
    (refine Jtt (Jtiy A F l[k] (by omega)) (by rfl) (by rfl) ?_)
    (simp (maxSteps := 1000000) [pairsD, hb, Pair.row])
    by_cases h3 : l[k].v = a
    ·rw [Jtic h3 h5] at hN'
     (simp (maxSteps := 1000000) [h3, hb, Pair.row])
     (refine Jtt (Jtiy A (addP F l[k]) ⟨d, l[k].l⟩ (by omega)) (by rfl) (by rfl) ?_)
     (simp (maxSteps := 1000000) [pairsD, hw])
     exact hN' _ (by (exact wkA))
    ·rw [Jti9 h3 h5] at hN'
     (simp (maxSteps := 1000000) [h3, hw])
     exact hN' _ (by (exact wkA))
 ·have hk' : k = l.length := by simp at h2; omega
  subst hk'
  (simp (maxSteps := 1000000) [])
  (first | exact hR _ _ FrA | exact hR _ _ FnA | exact hR _ _ (Xf (hq := by simp [AV.erase, AV.unview, List.take_length, pairsD]; done)))
theorem Jtj4 {P : Program} {p : Nums} (A : All P p) (l : List Pair) (d a : Int) (h0 : l.length < 100000) : Jt3o P p.ref12_Move [.d (pairsD l), AI d, AI a] [] fun o _ => o = .ret (.d (pairsD (rmoveP l d a))) := by
 refine A.ref12_Move.run rfl fun R hR => ?_
 (simp (maxSteps := 1000000) [Jtc7, pairsD])
 refine Jt9 (fun k : Nat => ⟨[(8, AI k), (7, .d (.sl ((rmoveP (l.take k) d a).map Pair.row))), (6, .nils), (2, AI a), (1, AI d), (0, .d (.sl (l.map Pair.row)))], []⟩) (fun k => k ≤ l.length) (fun k => l.length - k) 0 (by simp) (by simp only [List.take_zero, rmoveP, List.foldl_nil, List.map_nil]; (exact wkA)) ?_
 intro k hk N hN
 (simp (maxSteps := 1000000) [])
 ((first | refine Xc (fun h2 => ?_) (fun h2 => ?_) | refine Xo (fun h2 => ?_) (fun h2 => ?_)) <;> (try simp only [Xz, Xy] at h2))
 ·have hkl : k < l.length := by simpa using h2
  have hb : l[k]? = some l[k] := by simp
  have hw := Jtoq (k := k) (by omega)
  have hs : rmoveP (l.take (k + 1)) d a = rmStep d a (rmoveP (l.take k) d a) l[k] := Jt90 hkl
  have hl : (rmoveP (l.take k) d a).length ≤ 2 * l.length := by
   have := Jt8x (Jtkg d a) (l.take k) []; simp only [List.length_take, List.length_nil] at this; unfold rmoveP; omega
  have hN' := fun st' h => hN st' (k + 1) hkl h (by omega)
  rw [hs] at hN'
  obtain ⟨F, hF⟩ : ∃ F, F = rmoveP (l.take k) d a := ⟨_, rfl⟩
  rw [← hF] at hN' hl ⊢
  have hF1 := Jt4f F l[k]
  by_cases e1 : d = a
  ·subst e1
   (simp (maxSteps := 1000000) [h2, hb, Pair.row])
   (refine Jtt (Jtiy A F l[k] (by omega)) (by rfl) (by rfl) ?_)
   (simp (maxSteps := 1000000) [pairsD, hb, Pair.row])
   by_cases h3 : l[k].l = d
   ·rw [Jtki h3 (.inl rfl)] at hN'
    (simp (maxSteps := 1000000) [h3, hb, Pair.row])
    (refine Jtt (Jtiy A (addP F l[k]) ⟨l[k].v, d⟩ (by omega)) (by rfl) (by rfl) ?_)
    (simp (maxSteps := 1000000) [pairsD, hw])
    exact hN' _ (by (exact wkA))
   ·rw [Jtkf h3 (.inl rfl)] at hN'
    (simp (maxSteps := 1000000) [h3, hw])
    exact hN' _ (by (exact wkA))
  ·by_cases h4 : l[k].l = d
   ·have h3 : ¬ l[k].l = a := fun h => e1 (h4.symm.trans h)
    have h5 : ¬ (d = a ∨ l[k].l ≠ d) := by rintro (h | h); exact e1 h; exact h h4
    rw [Jtke h3 h5] at hN'
    (simp (maxSteps := 1000000) [h2, e1, h4, h3, hb, Pair.row, hw])
    exact hN' _ (by (exact wkA))
   ·have h5 : d = a ∨ l[k].l ≠ d := .inr h4
    (simp (maxSteps := 1000000) [h2, e1, h4, hb, Pair.row])
    (refine Jtt (Jtiy A F l[k] (by omega)) (by rfl) (by rfl) ?_)
    (simp (maxSteps := 1000000) [pairsD, hb, Pair.row])
    by_cases h3 : l[k].l = a
    ·rw [Jtki h3 h5] at hN'
     (simp (maxSteps := 1000000) [h3, hb, Pair.row])
     (refine Jtt (Jtiy A (addP F l[k]) ⟨l[k].v, d⟩ (by omega)) (by rfl) (by rfl) ?_)
     (simp (maxSteps := 1000000) [pairsD, hw])
     exact hN' _ (by (exact wkA))
    ·rw [Jtkf h3 h5] at hN'
     (simp (maxSteps := 1000000) [h3, hw])
     exact hN' _ (by (exact wkA))
 ·have hk' : k = l.length := by simp at h2; omega
  subst hk'
  (simp (maxSteps := 1000000) [])
  (first | exact hR _ _ FrA | exact hR _ _ FnA | exact hR _ _ (Xf (hq := by simp [AV.erase, AV.unview, List.take_length, pairsD]; done)))
theorem Jtj3 {P : Program} {p : Nums} (A : All P p) (l : List Pair) (d t : Int) (h0 : l.length < 100000) : Jt3o P p.ref12_Define [.d (pairsD l), AI d, AI t] [] fun o _ => o = .ret (.d (pairsD (rdefP l d t))) := by
 refine A.ref12_Define.run rfl fun R hR => ?_
 (simp (maxSteps := 1000000) [Jtc6, pairsD])
 refine Jt9 (fun k : Nat => ⟨[(8, AI k), (7, .d (.sl ((rdefP (l.take k) d t).map Pair.row))), (6, .nils), (2, AI t), (1, AI d), (0, .d (.sl (l.map Pair.row)))], []⟩) (fun k => k ≤ l.length) (fun k => l.length - k) 0 (by simp) (by simp only [List.take_zero, rdefP, List.foldl_nil, List.map_nil, List.map_cons, Pair.row]; (exact wkA)) ?_
 intro k hk N hN
 (simp (maxSteps := 1000000) [])
 ((first | refine Xc (fun h2 => ?_) (fun h2 => ?_) | refine Xo (fun h2 => ?_) (fun h2 => ?_)) <;> (try simp only [Xz, Xy] at h2))
 ·have hkl : k < l.length := by simpa using h2
  have hb : l[k]? = some l[k] := by simp
  have hw := Jtoq (k := k) (by omega)
  have hs : rdefP (l.take (k + 1)) d t = rdStep d t (rdefP (l.take k) d t) l[k] := Jt90 hkl
  have hl : (rdefP (l.take k) d t).length ≤ 2 * l.length + 1 := by
   have := Jt8x (Jtie d t) (l.take k) [⟨d, t⟩]; simp only [List.length_take, List.length_cons, List.length_nil] at this; unfold rdefP; omega
  have hN' := fun st' h => hN st' (k + 1) hkl h (by omega)
  rw [hs] at hN'
  obtain ⟨F, hF⟩ : ∃ F, F = rdefP (l.take k) d t := ⟨_, rfl⟩
  rw [← hF] at hN' hl ⊢
  by_cases h4 : l[k].v = d
  ·have h5 : ¬ (l[k].v ≠ d ∧ l[k].l ≠ t) := fun h => h.1 h4
   rw [rdStep, if_neg h5] at hN'
   (simp (maxSteps := 1000000) [h2, h4, hb, Pair.row, hw])
   exact hN' _ (by (exact wkA))
  ·by_cases h3 : l[k].l = t
   ·have h5 : ¬ (l[k].v ≠ d ∧ l[k].l ≠ t) := fun h => h.2 h3
    rw [rdStep, if_neg h5] at hN'
    (simp (maxSteps := 1000000) [h2, h4, h3, hb, Pair.row, hw])
    exact hN' _ (by (exact wkA))
   ·rw [rdStep, if_pos ⟨h4, h3⟩] at hN'
    (simp (maxSteps := 1000000) [h2, h4, h3, hb, Pair.row])
    (refine Jtt (Jtiy A F l[k] (by omega)) (by rfl) (by rfl) ?_)
    (simp (maxSteps := 1000000) [pairsD, hw])
    exact hN' _ (by (exact wkA))
 ·have hk' : k = l.length := by simp at h2; omega
  subst hk'
  (simp (maxSteps := 1000000) [])
  (first | exact hR _ _ FrA | exact hR _ _ FnA | exact hR _ _ (Xf (hq := by simp [AV.erase, AV.unview, List.take_length, pairsD]; done)))
end
section
end
section
end
section
end
section
end
section
end
section
end
section
end
def isDig (c : UInt8) : Bool := decide (48 ≤ c.toNat) && decide (c.toNat ≤ 57)
def valD (ds : List UInt8) : Nat := ds.foldl (fun n c => 10 * n + (c.toNat - 48)) 0
def okD (ds : List UInt8) : Prop := ds ≠ [] ∧ (∀ c ∈ ds, isDig c = true) ∧ (ds.length ≤ 1 ∨ ds.head? ≠ some 48) ∧ valD ds < 1099511627776
instance (ds : List UInt8) : Decidable (okD ds) := by unfold okD; infer_instance
theorem Jtnl (k : Nat) : ((k : Int)).tdiv 2 = ((k / 2 : Nat) : Int) := rfl
theorem Jtnk (l : Int) (h0 : -9223372036854775808 ≤ l) (h1 : l ≤ 9223372036854775807) : IntKind.i64.wrap (l.tdiv 2) = l.tdiv 2 := by
 rcases Int.le_total 0 l with h | h
 ·obtain ⟨k, rfl⟩ := Int.eq_ofNat_of_zero_le h
  rw [Jtnl]; exact wrap_i64 (by omega) (by omega)
 ·obtain ⟨k, hk⟩ := Int.eq_ofNat_of_zero_le (show 0 ≤ -l by omega)
  have : l = -(k : Int) := by omega
  subst this
  rw [Int.neg_tdiv, Jtnl]; exact wrap_i64 (by omega) (by omega)
section
theorem Jteb {P : Program} {p : Nums} (A : All P p) (n : Int) (h0 : -1000000000000000 ≤ n) (h1 : n ≤ 1000000000000000) : Jt3o P p.location_Slot [AI n] [] fun o _ => o = .ret (AI (2 * n + 1)) := by
 refine A.location_Slot.run rfl fun R hR => ?_
 have hw : IntKind.i64.wrap (2 * n) = 2 * n := wrap_i64 (by omega) (by omega)
 have hw2 : IntKind.i64.wrap (2 * n + 1) = 2 * n + 1 := wrap_i64 (by omega) (by omega)
 (simp (maxSteps := 1000000) [Jtau, hw, hw2])
 (first | exact hR _ _ FrA | exact hR _ _ FnA)
theorem Jte9 {P : Program} {p : Nums} (A : All P p) (l : Int) : Jt3o P p.location_IsSlot [AI l] [] fun o _ => o = .ret (AB (l.tmod 2 == 1)) := by
 refine A.location_IsSlot.run rfl fun R hR => ?_
 (simp (maxSteps := 1000000) [Jtas])
 (first | exact hR _ _ FrA | exact hR _ _ FnA)
theorem Jte8 {P : Program} {p : Nums} (A : All P p) (l : Int) (h0 : -9223372036854775808 ≤ l) (h1 : l ≤ 9223372036854775807) : Jt3o P p.location_Index [AI l] [] fun o _ => o = .ret (AI (l.tdiv 2)) := by
 refine A.location_Index.run rfl fun R hR => ?_
 have hw := Jtnk l h0 h1
 (simp (maxSteps := 1000000) [Jtar, hw])
 (first | exact hR _ _ FrA | exact hR _ _ FnA)
def rngZ (l r s : Int) : Bool := if l.tmod 2 = 1 then decide (0 ≤ l) && decide (l.tdiv 2 < s) else decide (0 ≤ l) && decide (l.tdiv 2 < r)
theorem Jte7 {P : Program} {p : Nums} (A : All P p) (l r s : Int) (h0 : -9223372036854775808 ≤ l) (h1 : l ≤ 9223372036854775807) : Jt3o P p.location_InRange [AI l, AI r, AI s] [] fun o _ => o = .ret (AB (rngZ l r s)) := by
 refine A.location_InRange.run rfl fun R hR => ?_
 (simp (maxSteps := 1000000) [Jtaq])
 (refine Jtt (Jte9 A l) (by rfl) (by rfl) ?_)
 (simp (maxSteps := 1000000) [])
 by_cases hm : l.tmod 2 = 1 <;> by_cases hl : 0 ≤ l
 ·(simp (maxSteps := 1000000) [hm, hl])
  (refine Jtt (Jte8 A l h0 h1) (by rfl) (by rfl) ?_)
  (simp (maxSteps := 1000000) [])
  (first | exact hR _ _ FrA | exact hR _ _ FnA | exact hR _ _ (Xf (hq := by simp [AV.erase, AV.unview, rngZ, hm, hl]; done)))
 ·(simp (maxSteps := 1000000) [hm, hl])
  (first | exact hR _ _ FrA | exact hR _ _ FnA | exact hR _ _ (Xf (hq := by simp [AV.erase, AV.unview, rngZ, hm, hl]; done)))
 ·(simp (maxSteps := 1000000) [hm, hl])
  (refine Jtt (Jte8 A l h0 h1) (by rfl) (by rfl) ?_)
  (simp (maxSteps := 1000000) [])
  (first | exact hR _ _ FrA | exact hR _ _ FnA | exact hR _ _ (Xf (hq := by simp [AV.erase, AV.unview, rngZ, hm, hl]; done)))
 ·(simp (maxSteps := 1000000) [hm, hl])
  (first | exact hR _ _ FrA | exact hR _ _ FnA | exact hR _ _ (Xf (hq := by simp [AV.erase, AV.unview, rngZ, hm, hl]; done)))
theorem Jtii {P : Program} {p : Nums} (A : All P p) (l r s : Int) (h0 : -9223372036854775808 ≤ l) (h1 : l ≤ 9223372036854775807) : Jt3o P p.ref04_InRange [AI l, AI r, AI s] [] fun o _ => o = .ret (AB (rngZ l r s)) := by
 refine A.ref04_InRange.run rfl fun R hR => ?_
 have hw := Jtnk l h0 h1
 (simp (maxSteps := 1000000) [Jtbl, hw])
 by_cases hl : l < 0
 ·have hl' : ¬ 0 ≤ l := by omega
  (simp (maxSteps := 1000000) [hl])
  (first | exact hR _ _ FrA | exact hR _ _ FnA | exact hR _ _ (Xf (hq := by simp [AV.erase, AV.unview, rngZ, hl']; done)))
 ·have hl' : 0 ≤ l := by omega
  by_cases hm : l.tmod 2 = 1
  ·(simp (maxSteps := 1000000) [hm, hl, hw])
   (first | exact hR _ _ FrA | exact hR _ _ FnA | exact hR _ _ (Xf (hq := by simp [AV.erase, AV.unview, rngZ, hm, hl', hw]; done)))
  ·(simp (maxSteps := 1000000) [hm, hl, hw])
   (first | exact hR _ _ FrA | exact hR _ _ FnA | exact hR _ _ (Xf (hq := by simp [AV.erase, AV.unview, rngZ, hm, hl', hw]; done)))
end
structure Mach where (op d a b imm dst src : Int)
 deriving DecidableEq, Inhabited
def Mach.row (m : Mach) : List D := [I m.op, I m.d, I m.a, I m.b, I m.imm, I m.dst, I m.src]
def Mach.av (m : Mach) : AV := .agg [AI m.op, AI m.d, AI m.a, AI m.b, AI m.imm, AI m.dst, AI m.src]
def regZ (n : Int) : Int := IntKind.i64.wrap (2 * n)
section
theorem Jtea {P : Program} {p : Nums} (A : All P p) (x : Int) : Jt3o P p.location_Reg [AI x] [] fun o _ => o = .ret (AI (regZ x)) := by
 refine A.location_Reg.run rfl fun R hR => ?_
 (simp (maxSteps := 1000000) [Jtat])
 (first | exact hR _ _ FrA | exact hR _ _ FnA)
def knownZ (x : Int) : Bool := decide (1 ≤ x ∧ x ≤ 18)
theorem Jth2 {P : Program} {p : Nums} (A : All P p) (x : Int) : Jt3o P p.opcode_known [AI x] [] fun o _ => o = .ret (AB (knownZ x)) := by
 refine A.opcode_known.run rfl fun R hR => ?_
 (simp (maxSteps := 1000000) [Jtb8])
 ((first | refine Xc (fun hx => ?_) (fun hx => ?_) | refine Xo (fun hx => ?_) (fun hx => ?_)) <;> (try simp only [Xz, Xy] at hx))
 ·(simp (maxSteps := 1000000) [hx])
  (first | exact hR _ _ FrA | exact hR _ _ FnA | exact hR _ _ (Xf (hq := by simp [AV.erase, AV.unview, knownZ, hx]; done)))
 ·(simp (maxSteps := 1000000) [hx])
  (first | exact hR _ _ FrA | exact hR _ _ FnA | exact hR _ _ (Xf (hq := by simp [AV.erase, AV.unview, knownZ, hx]; done)))
structure Shape where (D A B Imm : Bool)
def shapeZ (x : Int) : Shape :=
 if knownZ x = false then ⟨false, false, false, false⟩ else if x = 1 then ⟨true, false, false, true⟩ else if x ≤ 4 then ⟨true, true, false, false⟩ else if x ≤ 16 then ⟨true, true, true, false⟩ else ⟨false, x == 17, false, false⟩
theorem Jth0 {P : Program} {p : Nums} (A : All P p) (x : Int) : Jt3o P p.opcode_Of [AI x] [] fun o _ => o = .ret (.tup [.agg [AB (shapeZ x).D, AB (shapeZ x).A, AB (shapeZ x).B, AB (shapeZ x).Imm], AB (knownZ x)]) := by
 refine A.opcode_Of.run rfl fun R hR => ?_
 (simp (maxSteps := 1000000) [Jtb6])
 (refine Jtt (Jth2 A _) (by rfl) (by rfl) ?_)
 (simp (maxSteps := 1000000) [])
 ((first | refine Xc (fun h1 => ?_) (fun h1 => ?_) | refine Xo (fun h1 => ?_) (fun h1 => ?_)) <;> (try simp only [Xz, Xy] at h1))
 ·(simp (maxSteps := 1000000) [h1])
  (first | exact hR _ _ FrA | exact hR _ _ FnA | exact hR _ _ (Xf (hq := by simp [AV.erase, AV.unview, shapeZ, h1]; done)))
 ·(simp (maxSteps := 1000000) [h1])
  ((first | refine Xc (fun h2 => ?_) (fun h2 => ?_) | refine Xo (fun h2 => ?_) (fun h2 => ?_)) <;> (try simp only [Xz, Xy] at h2))
  ·subst h2
   (simp (maxSteps := 1000000) [])
   (first | exact hR _ _ FrA | exact hR _ _ FnA | exact hR _ _ (Xf (hq := by simp [AV.erase, AV.unview, shapeZ, h1]; done)))
  ·(simp (maxSteps := 1000000) [h2])
   ((first | refine Xc (fun h3 => ?_) (fun h3 => ?_) | refine Xo (fun h3 => ?_) (fun h3 => ?_)) <;> (try simp only [Xz, Xy] at h3))
   ·(simp (maxSteps := 1000000) [h3])
    (first | exact hR _ _ FrA | exact hR _ _ FnA | exact hR _ _ (Xf (hq := by simp [AV.erase, AV.unview, shapeZ, h1, h2, h3]; done)))
   ·(simp (maxSteps := 1000000) [h3])
    ((first | refine Xc (fun h4 => ?_) (fun h4 => ?_) | refine Xo (fun h4 => ?_) (fun h4 => ?_)) <;> (try simp only [Xz, Xy] at h4))
    ·(simp (maxSteps := 1000000) [h4])
     (first | exact hR _ _ FrA | exact hR _ _ FnA | exact hR _ _ (Xf (hq := by simp [AV.erase, AV.unview, shapeZ, h1, h2, h3, h4]; done)))
    ·(simp (maxSteps := 1000000) [h4])
     (first | exact hR _ _ FrA | exact hR _ _ FnA | exact hR _ _ (Xf (hq := by simp [AV.erase, AV.unview, shapeZ, h1, h2, h3, h4]; done)))
def Jtm1 (x : Int) : Bool := knownZ x && x != 18
theorem Jth1 {P : Program} {p : Nums} (A : All P p) (x : Int) : Jt3o P p.opcode_Source [AI x] [] fun o _ => o = .ret (AB (Jtm1 x)) := by
 refine A.opcode_Source.run rfl fun R hR => ?_
 (simp (maxSteps := 1000000) [Jtb7])
 (refine Jtt (Jth2 A _) (by rfl) (by rfl) ?_)
 (simp (maxSteps := 1000000) [])
 ((first | refine Xc (fun h1 => ?_) (fun h1 => ?_) | refine Xo (fun h1 => ?_) (fun h1 => ?_)) <;> (try simp only [Xz, Xy] at h1))
 ·(simp (maxSteps := 1000000) [h1])
  (first | exact hR _ _ FrA | exact hR _ _ FnA | exact hR _ _ (Xf (hq := by simp [AV.erase, AV.unview, h1, Jtm1]; done)))
 ·(simp (maxSteps := 1000000) [h1])
  (first | exact hR _ _ FrA | exact hR _ _ FnA | exact hR _ _ (Xf (hq := by simp [AV.erase, AV.unview, h1, Jtm1]; done)))
def inZ (x n : Int) : Bool := decide (0 ≤ x ∧ x < n)
theorem Jtis {P : Program} {p : Nums} (A : All P p) (x n : Int) : Jt3o P p.ref07_in [AI x, AI n] [] fun o _ => o = .ret (AB (inZ x n)) := by
 refine A.ref07_in.run rfl fun R hR => ?_
 (simp (maxSteps := 1000000) [Jtbv])
 ((first | refine Xc (fun h1 => ?_) (fun h1 => ?_) | refine Xo (fun h1 => ?_) (fun h1 => ?_)) <;> (try simp only [Xz, Xy] at h1))
 ·(simp (maxSteps := 1000000) [h1])
  (first | exact hR _ _ FrA | exact hR _ _ FnA | exact hR _ _ (Xf (hq := by simp [AV.erase, AV.unview, h1, inZ]; done)))
 ·(simp (maxSteps := 1000000) [h1])
  (first | exact hR _ _ FrA | exact hR _ _ FnA | exact hR _ _ (Xf (hq := by simp [AV.erase, AV.unview, h1, inZ]; done)))
def usesA (x : Int) : Bool := decide (2 ≤ x ∧ x ≤ 17)
theorem Jtij {P : Program} {p : Nums} (A : All P p) (x : Int) : Jt3o P p.ref05_UsesA [AI x] [] fun o _ => o = .ret (AB (usesA x)) := by
 refine A.ref05_UsesA.run rfl fun R hR => ?_
 (simp (maxSteps := 1000000) [Jtbm])
 ((first | refine Xc (fun hx => ?_) (fun hx => ?_) | refine Xo (fun hx => ?_) (fun hx => ?_)) <;> (try simp only [Xz, Xy] at hx))
 ·(simp (maxSteps := 1000000) [hx])
  (first | exact hR _ _ FrA | exact hR _ _ FnA | exact hR _ _ (Xf (hq := by simp [AV.erase, AV.unview, usesA, hx]; done)))
 ·(simp (maxSteps := 1000000) [hx])
  (first | exact hR _ _ FrA | exact hR _ _ FnA | exact hR _ _ (Xf (hq := by simp [AV.erase, AV.unview, usesA, hx]; done)))
def usesB (x : Int) : Bool := decide (5 ≤ x ∧ x ≤ 16)
theorem Jtik {P : Program} {p : Nums} (A : All P p) (x : Int) : Jt3o P p.ref05_UsesB [AI x] [] fun o _ => o = .ret (AB (usesB x)) := by
 refine A.ref05_UsesB.run rfl fun R hR => ?_
 (simp (maxSteps := 1000000) [Jtbn])
 ((first | refine Xc (fun hx => ?_) (fun hx => ?_) | refine Xo (fun hx => ?_) (fun hx => ?_)) <;> (try simp only [Xz, Xy] at hx))
 ·(simp (maxSteps := 1000000) [hx])
  (first | exact hR _ _ FrA | exact hR _ _ FnA | exact hR _ _ (Xf (hq := by simp [AV.erase, AV.unview, usesB, hx]; done)))
 ·(simp (maxSteps := 1000000) [hx])
  (first | exact hR _ _ FrA | exact hR _ _ FnA | exact hR _ _ (Xf (hq := by simp [AV.erase, AV.unview, usesB, hx]; done)))
def usesD (x : Int) : Bool := decide (1 ≤ x ∧ x ≤ 16)
theorem Jtil {P : Program} {p : Nums} (A : All P p) (x : Int) : Jt3o P p.ref05_UsesD [AI x] [] fun o _ => o = .ret (AB (usesD x)) := by
 refine A.ref05_UsesD.run rfl fun R hR => ?_
 (simp (maxSteps := 1000000) [Jtbo])
 ((first | refine Xc (fun hx => ?_) (fun hx => ?_) | refine Xo (fun hx => ?_) (fun hx => ?_)) <;> (try simp only [Xz, Xy] at hx))
 ·(simp (maxSteps := 1000000) [hx])
  (first | exact hR _ _ FrA | exact hR _ _ FnA | exact hR _ _ (Xf (hq := by simp [AV.erase, AV.unview, usesD, hx]; done)))
 ·(simp (maxSteps := 1000000) [hx])
  (first | exact hR _ _ FrA | exact hR _ _ FnA | exact hR _ _ (Xf (hq := by simp [AV.erase, AV.unview, usesD, hx]; done)))
end
structure Field where (value : Int) (used : Bool) (bound : Int)
def Field.row (f : Field) : List D := [I f.value, .bool f.used, I f.bound]
def Field.bad (f : Field) : Bool := f.used && (decide (f.value < 0) || decide (f.bound ≤ f.value))
def Jtog (fs : List Field) : Bool := !fs.any Field.bad
section
theorem Jtma {P : Program} {p : Nums} (A : All P p) (fs : List Field) (hl : fs.length < 1000000) : Jt3o P p.source_within [.d (.sl (fs.map Field.row))] [] fun o _ => o = .ret (AB (Jtog fs)) := by
 refine A.source_within.run rfl fun R hR => ?_
 (simp (maxSteps := 1000000) [Jtcu])
 refine Jt9 (fun k : Nat => ⟨[(7, AI k), (6, AI fs.length), (5, .d (.sl (fs.map Field.row))), (2, AB false)], []⟩) (fun k => k ≤ fs.length ∧ (fs.take k).any Field.bad = false) (fun k => fs.length - k) 0 (by simp) (by (exact wkA)) ?_
 rintro k ⟨hk, hno⟩ N hN
 (simp (maxSteps := 1000000) [])
 ((first | refine Xc (fun h1 => ?_) (fun h1 => ?_) | refine Xo (fun h1 => ?_) (fun h1 => ?_)) <;> (try simp only [Xz, Xy] at h1))
 ·have hkl : k < fs.length := by simpa using h1
  have hf : fs[k]? = some fs[k] := by simp [hkl]
  have hw := Jtoq (k := k) (by omega)
  have htk : fs.take (k + 1) = fs.take k ++ [fs[k]] := by rw [List.take_add_one, hf]; rfl
  have hany : Jtog fs = true → fs[k].bad = false := by
   intro h; simp [Jtog] at h; exact h _ (List.getElem_mem hkl)
  have next : ∀ env H, fs[k].bad = false → Wk 0 ⟨env, H⟩ ⟨[(7, AI ((k + 1 : Nat) : Int)), (6, AI fs.length), (5, .d (.sl (fs.map Field.row))), (2, AB false)], []⟩ → N ⟨env, H⟩ :=
   fun env H hb hw => hN _ (k + 1) ⟨hkl, by rw [htk, List.any_append, hno]; simp [hb]⟩ hw (by omega)
  have stop : fs[k].bad = true → Jtog fs = false := by
   intro h; cases hz : Jtog fs with
   | false => rfl
   | true => rw [hany hz] at h; cases h
  (simp (maxSteps := 1000000) [h1, hf, Field.row])
  ((first | refine Xc (fun h2 => ?_) (fun h2 => ?_) | refine Xo (fun h2 => ?_) (fun h2 => ?_)) <;> (try simp only [Xz, Xy] at h2))
  ·(simp (maxSteps := 1000000) [h2])
   ((first | refine Xc (fun h3 => ?_) (fun h3 => ?_) | refine Xo (fun h3 => ?_) (fun h3 => ?_)) <;> (try simp only [Xz, Xy] at h3))
   ·(simp (maxSteps := 1000000) [h2, h3])
    (first | exact hR _ _ FrA | exact hR _ _ FnA | exact hR _ _ (Xf (hq := by simp [AV.erase, AV.unview, stop (by simp [Field.bad, h2, h3])]; done)))
   ·(simp (maxSteps := 1000000) [h2, h3])
    ((first | refine Xc (fun h4 => ?_) (fun h4 => ?_) | refine Xo (fun h4 => ?_) (fun h4 => ?_)) <;> (try simp only [Xz, Xy] at h4))
    ·(simp (maxSteps := 1000000) [h2, h3, h4])
     (first | exact hR _ _ FrA | exact hR _ _ FnA | exact hR _ _ (Xf (hq := by simp [AV.erase, AV.unview, stop (by simp [Field.bad, h2, h3, h4])]; done)))
    ·(simp (maxSteps := 1000000) [h2, h3, h4, hw])
     exact next _ _ (by simp [Field.bad, h2, h3, h4]) (by (exact wkA))
  ·(simp (maxSteps := 1000000) [h2, hw])
   exact next _ _ (by simp [Field.bad, h2]) (by (exact wkA))
 ·(simp (maxSteps := 1000000) [h1])
  have hk' : k = fs.length := by simp at h1; omega
  subst hk'
  rw [List.take_length] at hno
  (first | exact hR _ _ FrA | exact hR _ _ FnA | exact hR _ _ (Xf (hq := by simp [AV.erase, AV.unview, Jtog, hno]; done)))
end
def Field.odd (f : Field) : Bool := !f.used && f.value != 0
def blankZ (fs : List Field) : Bool := !fs.any Field.odd
structure Instr where (op d a b imm : Int)
 deriving DecidableEq, Inhabited
def Instr.row (i : Instr) : List D := [I i.op, I i.d, I i.a, I i.b, I i.imm]
def Instr.av (i : Instr) : AV := .agg [AI i.op, AI i.d, AI i.a, AI i.b, AI i.imm]
structure Term where (kind a to els : Int)
 deriving DecidableEq, Inhabited
def Term.row (i : Term) : List D := [I i.kind, I i.a, I i.to, I i.els]
def Term.av (i : Term) : AV := .agg [AI i.kind, AI i.a, AI i.to, AI i.els]
def flds (i : Instr) (regs : Int) : List Field := [⟨i.d, (shapeZ i.op).D, regs⟩, ⟨i.a, (shapeZ i.op).A, regs⟩, ⟨i.b, (shapeZ i.op).B, regs⟩]
def Jtmg (i : Instr) (regs : Int) : Int :=
 if Jtm1 i.op = false then 8 else if Jtog (flds i regs) = false then 9 else if blankZ (flds i regs) = false then 12 else if (shapeZ i.op).Imm = false ∧ i.imm ≠ 0 then 12 else 0
section
theorem Jtm7 {P : Program} {p : Nums} (A : All P p) (fs : List Field) (hl : fs.length < 1000000) : Jt3o P p.source_blank [.d (.sl (fs.map Field.row))] [] fun o _ => o = .ret (AB (blankZ fs)) := by
 refine A.source_blank.run rfl fun R hR => ?_
 (simp (maxSteps := 1000000) [Jtcs])
 refine Jt9 (fun k : Nat => ⟨[(7, AI k), (6, AI fs.length), (5, .d (.sl (fs.map Field.row))), (2, AB false)], []⟩) (fun k => k ≤ fs.length ∧ (fs.take k).any Field.odd = false) (fun k => fs.length - k) 0 (by simp) (by (exact wkA)) ?_
 rintro k ⟨hk, hno⟩ N hN
 (simp (maxSteps := 1000000) [])
 ((first | refine Xc (fun h1 => ?_) (fun h1 => ?_) | refine Xo (fun h1 => ?_) (fun h1 => ?_)) <;> (try simp only [Xz, Xy] at h1))
 ·have hkl : k < fs.length := by simpa using h1
  have hf : fs[k]? = some fs[k] := by simp [hkl]
  have hw := Jtoq (k := k) (by omega)
  have htk : fs.take (k + 1) = fs.take k ++ [fs[k]] := by rw [List.take_add_one, hf]; rfl
  have hany : blankZ fs = true → fs[k].odd = false := by
   intro h; simp [blankZ] at h; exact h _ (List.getElem_mem hkl)
  have next : ∀ env H, fs[k].odd = false → Wk 0 ⟨env, H⟩ ⟨[(7, AI ((k + 1 : Nat) : Int)), (6, AI fs.length), (5, .d (.sl (fs.map Field.row))), (2, AB false)], []⟩ → N ⟨env, H⟩ :=
   fun env H hb hw => hN _ (k + 1) ⟨hkl, by rw [htk, List.any_append, hno]; simp [hb]⟩ hw (by omega)
  have stop : fs[k].odd = true → blankZ fs = false := by
   intro h; cases hz : blankZ fs with
   | false => rfl
   | true => rw [hany hz] at h; cases h
  (simp (maxSteps := 1000000) [h1, hf, Field.row])
  ((first | refine Xc (fun h2 => ?_) (fun h2 => ?_) | refine Xo (fun h2 => ?_) (fun h2 => ?_)) <;> (try simp only [Xz, Xy] at h2))
  ·(simp (maxSteps := 1000000) [h2])
   ((first | refine Xc (fun h3 => ?_) (fun h3 => ?_) | refine Xo (fun h3 => ?_) (fun h3 => ?_)) <;> (try simp only [Xz, Xy] at h3))
   ·(simp (maxSteps := 1000000) [h2, h3])
    (first | exact hR _ _ FrA | exact hR _ _ FnA | exact hR _ _ (Xf (hq := by simp [AV.erase, AV.unview, stop (by simp [Field.odd, h2, h3])]; done)))
   ·(simp (maxSteps := 1000000) [h2, h3, hw])
    exact next _ _ (by simp [Field.odd, h2, h3]) (by (exact wkA))
  ·(simp (maxSteps := 1000000) [h2, hw])
   exact next _ _ (by simp [Field.odd, h2]) (by (exact wkA))
 ·(simp (maxSteps := 1000000) [h1])
  have hk' : k = fs.length := by simp at h1; omega
  subst hk'
  rw [List.take_length] at hno
  (first | exact hR _ _ FrA | exact hR _ _ FnA | exact hR _ _ (Xf (hq := by simp [AV.erase, AV.unview, blankZ, hno]; done)))
theorem Jtm4 {P : Program} {p : Nums} (A : All P p) (i : Instr) (regs : Int) : Jt3o P p.source_Instr [i.av, AI regs] [] fun o _ => o = .ret (AI (Jtmg i regs)) := by
 have hflds : AV.d (.sl [[I i.d, .bool (shapeZ i.op).D, I regs], [I i.a, .bool (shapeZ i.op).A, I regs], [I i.b, .bool (shapeZ i.op).B, I regs]]) = .d (.sl ((flds i regs).map Field.row)) := rfl
 refine A.source_Instr.run rfl fun R hR => ?_
 (simp (maxSteps := 1000000) [Jtcp, Instr.av])
 (refine Jtt (Jth0 A _) (by rfl) (by rfl) ?_)
 (simp (maxSteps := 1000000) [])
 (refine Jtt (Jth1 A _) (by rfl) (by rfl) ?_)
 (simp (maxSteps := 1000000) [])
 ((first | refine Xc (fun h1 => ?_) (fun h1 => ?_) | refine Xo (fun h1 => ?_) (fun h1 => ?_)) <;> (try simp only [Xz, Xy] at h1))
 ·(simp (maxSteps := 1000000) [h1])
  (first | exact hR _ _ FrA | exact hR _ _ FnA | exact hR _ _ (Xf (hq := by simp [AV.erase, AV.unview, Jtmg, h1]; done)))
 ·(simp (maxSteps := 1000000) [h1])
  (refine Jtt (Jtma A (flds i regs) (by simp [flds])) (by rfl) (by rfl) ?_)
  (simp (maxSteps := 1000000) [])
  ((first | refine Xc (fun h2 => ?_) (fun h2 => ?_) | refine Xo (fun h2 => ?_) (fun h2 => ?_)) <;> (try simp only [Xz, Xy] at h2))
  ·(simp (maxSteps := 1000000) [h2])
   (first | exact hR _ _ FrA | exact hR _ _ FnA | exact hR _ _ (Xf (hq := by simp [AV.erase, AV.unview, Jtmg, h1, h2]; done)))
  ·(simp (maxSteps := 1000000) [h2])
   (refine Jtt (Jtm7 A (flds i regs) (by simp [flds])) (by rfl) (by rfl) ?_)
   (simp (maxSteps := 1000000) [])
   ((first | refine Xc (fun h3 => ?_) (fun h3 => ?_) | refine Xo (fun h3 => ?_) (fun h3 => ?_)) <;> (try simp only [Xz, Xy] at h3))
   ·(simp (maxSteps := 1000000) [h3])
    (first | exact hR _ _ FrA | exact hR _ _ FnA | exact hR _ _ (Xf (hq := by simp [AV.erase, AV.unview, Jtmg, h1, h2, h3]; done)))
   ·(simp (maxSteps := 1000000) [h3])
    ((first | refine Xc (fun h4 => ?_) (fun h4 => ?_) | refine Xo (fun h4 => ?_) (fun h4 => ?_)) <;> (try simp only [Xz, Xy] at h4))
    ·(simp (maxSteps := 1000000) [h4])
     ((first | refine Xc (fun h5 => ?_) (fun h5 => ?_) | refine Xo (fun h5 => ?_) (fun h5 => ?_)) <;> (try simp only [Xz, Xy] at h5))
     ·(simp (maxSteps := 1000000) [h5])
      (first | exact hR _ _ FrA | exact hR _ _ FnA | exact hR _ _ (Xf (hq := by simp [AV.erase, AV.unview, Jtmg, h1, h2, h3, h4, h5]; done)))
     ·(simp (maxSteps := 1000000) [h5])
      (first | exact hR _ _ FrA | exact hR _ _ FnA | exact hR _ _ (Xf (hq := by simp [AV.erase, AV.unview, Jtmg, h1, h2, h3, h4, h5]; done)))
    ·(simp (maxSteps := 1000000) [h4])
     (first | exact hR _ _ FrA | exact hR _ _ FnA | exact hR _ _ (Xf (hq := by simp [AV.erase, AV.unview, Jtmg, h1, h2, h3, h4]; done)))
def fldsT (t : Term) (regs blocks : Int) : List Field := [⟨t.a, t.kind != 1, regs⟩, ⟨t.to, t.kind != 3, blocks⟩, ⟨t.els, t.kind == 2, blocks⟩]
def Jtmk (t : Term) (regs blocks : Int) : Int :=
 if t.kind < 1 ∨ 3 < t.kind then 16 else if Jtog ((fldsT t regs blocks).take 1) = false then 9 else if Jtog ((fldsT t regs blocks).drop 1) = false then 11 else if blankZ (fldsT t regs blocks) = false then 12 else 0
theorem Jtm6 {P : Program} {p : Nums} (A : All P p) (t : Term) (regs blocks : Int) : Jt3o P p.source_Term [t.av, AI regs, AI blocks] [] fun o _ => o = .ret (AI (Jtmk t regs blocks)) := by
 refine A.source_Term.run rfl fun R hR => ?_
 (simp (maxSteps := 1000000) [Jtcr, Term.av])
 ((first | refine Xc (fun h1 => ?_) (fun h1 => ?_) | refine Xo (fun h1 => ?_) (fun h1 => ?_)) <;> (try simp only [Xz, Xy] at h1))
 ·(simp (maxSteps := 1000000) [h1])
  (first | exact hR _ _ FrA | exact hR _ _ FnA | exact hR _ _ (Xf (hq := by simp [AV.erase, AV.unview, Jtmk, h1]; done)))
 ·(simp (maxSteps := 1000000) [h1])
  ((first | refine Xc (fun h2 => ?_) (fun h2 => ?_) | refine Xo (fun h2 => ?_) (fun h2 => ?_)) <;> (try simp only [Xz, Xy] at h2))
  ·(simp (maxSteps := 1000000) [h2])
   (first | exact hR _ _ FrA | exact hR _ _ FnA | exact hR _ _ (Xf (hq := by simp [AV.erase, AV.unview, Jtmk, h1, h2]; done)))
  ·(simp (maxSteps := 1000000) [h2])
   (refine Jtt (Jtma A ((fldsT t regs blocks).take 1) (by simp [fldsT])) (by rfl) (by rfl) ?_)
   (simp (maxSteps := 1000000) [])
   ((first | refine Xc (fun h3 => ?_) (fun h3 => ?_) | refine Xo (fun h3 => ?_) (fun h3 => ?_)) <;> (try simp only [Xz, Xy] at h3))
   ·(simp (maxSteps := 1000000) [h3])
    (first | exact hR _ _ FrA | exact hR _ _ FnA | exact hR _ _ (Xf (hq := by simp [AV.erase, AV.unview, Jtmk, h1, h2, h3]; done)))
   ·(simp (maxSteps := 1000000) [h3])
    (refine Jtt (Jtma A ((fldsT t regs blocks).drop 1) (by simp [fldsT])) (by rfl) (by rfl) ?_)
    (simp (maxSteps := 1000000) [])
    ((first | refine Xc (fun h4 => ?_) (fun h4 => ?_) | refine Xo (fun h4 => ?_) (fun h4 => ?_)) <;> (try simp only [Xz, Xy] at h4))
    ·(simp (maxSteps := 1000000) [h4])
     (first | exact hR _ _ FrA | exact hR _ _ FnA | exact hR _ _ (Xf (hq := by simp [AV.erase, AV.unview, Jtmk, h1, h2, h3, h4]; done)))
    ·(simp (maxSteps := 1000000) [h4])
     (refine Jtt (Jtm7 A (fldsT t regs blocks) (by simp [fldsT])) (by rfl) (by rfl) ?_)
     (simp (maxSteps := 1000000) [])
     ((first | refine Xc (fun h5 => ?_) (fun h5 => ?_) | refine Xo (fun h5 => ?_) (fun h5 => ?_)) <;> (try simp only [Xz, Xy] at h5))
     ·(simp (maxSteps := 1000000) [h5])
      (first | exact hR _ _ FrA | exact hR _ _ FnA | exact hR _ _ (Xf (hq := by simp [AV.erase, AV.unview, Jtmk, h1, h2, h3, h4, h5]; done)))
     ·(simp (maxSteps := 1000000) [h5])
      (first | exact hR _ _ FrA | exact hR _ _ FnA | exact hR _ _ (Xf (hq := by simp [AV.erase, AV.unview, Jtmk, h1, h2, h3, h4, h5]; done)))
end
structure Block where (code : List Instr) (term : Term)
 deriving Inhabited
def Block.row (b : Block) : List D := [.sl (b.code.map Instr.row), I b.term.kind, I b.term.a, I b.term.to, I b.term.els]
def Block.av (b : Block) : AV := .agg [.d (.sl (b.code.map Instr.row)), AI b.term.kind, AI b.term.a, AI b.term.to, AI b.term.els]
structure Func where (args regs : Int) (blocks : List Block)
def Func.av (f : Func) : AV := .agg [AI f.args, AI f.regs, .d (.sl (f.blocks.map Block.row))]
def codeN (bs : List Block) : Nat := (bs.map fun b => b.code.length).sum
theorem Jt6t {bs : List Block} {k : Nat} {b : Block} (h : bs[k]? = some b) : codeN (bs.take (k + 1)) = codeN (bs.take k) + b.code.length := by
 rw [codeN, List.take_add_one, h]; simp [codeN]
theorem Jt6q (a b : List Block) : codeN (a ++ b) = codeN a + codeN b := by simp [codeN]
theorem Jt6s (bs : List Block) (k : Nat) : codeN (bs.take k) ≤ codeN bs := by
 have h := Jt6q (bs.take k) (bs.drop k)
 rw [List.take_append_drop] at h; omega
def Jt8f : List Int → Int
 | [] => 0
 | e :: es => if e ≠ 0 then e else Jt8f es
theorem Jt8j {es : List Int} {k : Nat} (h : ∀ e ∈ es.take k, e = 0) : Jt8f es = Jt8f (es.drop k) := by
 induction k generalizing es with
 | zero => rfl
 | succ k ih =>
  cases es with
  | nil => rfl
  | cons e es =>
   have : e = 0 := h e (by simp)
   simp only [Jt8f, this, ne_eq, not_true_eq_false, if_false, List.drop_succ_cons]
   exact ih fun x hx => h x (by simp [hx])
theorem Jt8i {es : List Int} {k : Nat} {e : Int} (h : ∀ e ∈ es.take k, e = 0) (hk : es[k]? = some e) (he : e ≠ 0) : Jt8f es = e := by
 rw [Jt8j h]
 have hlt := (List.getElem?_eq_some_iff.1 hk).1
 rw [List.drop_eq_getElem_cons hlt]
 have : es[k] = e := (List.getElem?_eq_some_iff.1 hk).2
 simp [Jt8f, this, he]
theorem Jt8g {es : List Int} (h : ∀ e ∈ es, e = 0) : Jt8f es = 0 := by
 rw [Jt8j (k := es.length) (by simpa using h)]; simp [Jt8f]
def Jtme (b : Block) (regs blocks : Int) : Int :=
 let e := Jt8f (b.code.map (Jtmg · regs))
 if e ≠ 0 then e else Jtmk b.term regs blocks
theorem take_zero {α : Type} {f : α → Int} {l : List α} {k : Nat} {x : α} (h : ∀ e ∈ (l.map f).take k, e = 0) (hx : l[k]? = some x) (h0 : f x = 0) : ∀ e ∈ (l.map f).take (k + 1), e = 0 := by
 intro e he
 rw [List.take_add_one, List.mem_append] at he
 rcases he with he | he
 ·exact h e he
 ·rw [List.getElem?_map, hx] at he; simp at he; rw [he]; exact h0
section
theorem Jtm3 {P : Program} {p : Nums} (A : All P p) (f : Func) (h0 : f.blocks.length < 1000000000) (h1 : codeN f.blocks < 1000000000) : Jt3o P p.source_Code [f.av] [] fun o _ => o = .ret (AI (codeN f.blocks)) := by
 refine A.source_Code.run rfl fun R hR => ?_
 (simp (maxSteps := 1000000) [Jtco, Func.av])
 refine Jt9 (fun k : Nat => ⟨[(9, AI k), (8, AI f.blocks.length), (7, .d (.sl (f.blocks.map Block.row))), (3, AI (codeN (f.blocks.take k)))], []⟩) (fun k => k ≤ f.blocks.length) (fun k => f.blocks.length - k) 0 (by simp) (by (exact wkA)) ?_
 intro k hk N hN
 (simp (maxSteps := 1000000) [])
 ((first | refine Xc (fun h2 => ?_) (fun h2 => ?_) | refine Xo (fun h2 => ?_) (fun h2 => ?_)) <;> (try simp only [Xz, Xy] at h2))
 ·have hkl : k < f.blocks.length := by simpa using h2
  have hb : f.blocks[k]? = some f.blocks[k] := by simp [hkl]
  have hw := Jtoq (k := k) (by omega)
  have hs := Jt6t hb
  have hle := Jt6s f.blocks (k + 1)
  have hw2 := Jtop (a := codeN (f.blocks.take k)) (b := f.blocks[k].code.length) (by omega)
  rw [← hs] at hw2
  (simp (maxSteps := 1000000) [h2, List.getElem?_map, hb, Block.row, hw, hw2])
  exact hN _ (k + 1) hkl (by (exact wkA)) (by omega)
 ·have hk' : k = f.blocks.length := by simp at h2; omega
  subst hk'
  (simp (maxSteps := 1000000) [])
  (first | exact hR _ _ FrA | exact hR _ _ FnA | exact hR _ _ (Xf (hq := by simp [AV.erase, AV.unview, List.take_length]; done)))
theorem Jtm8 {P : Program} {p : Nums} (A : All P p) (b : Block) (regs blocks : Int) (h0 : b.code.length < 1000000000) : Jt3o P p.source_block [b.av, AI regs, AI blocks] [] fun o _ => o = .ret (AI (Jtme b regs blocks)) := by
 refine A.source_block.run rfl fun R hR => ?_
 (simp (maxSteps := 1000000) [Jtct, Block.av])
 refine Jt9 (fun k : Nat => ⟨[(13, AI k), (12, AI b.code.length), (11, .d (.sl (b.code.map Instr.row))), (3, .ptr 0 0), (1, AI regs), (2, AI blocks)], [.mem [.d (.sl (b.code.map Instr.row)), AI b.term.kind, AI b.term.a, AI b.term.to, AI b.term.els]]⟩)
  (fun k => k ≤ b.code.length ∧ ∀ e ∈ (b.code.map (Jtmg · regs)).take k, e = 0) (fun k => b.code.length - k) 0 (by simp) (by (exact wkA)) ?_
 rintro k ⟨hk, hz⟩ N hN
 (simp (maxSteps := 1000000) [])
 ((first | refine Xc (fun h2 => ?_) (fun h2 => ?_) | refine Xo (fun h2 => ?_) (fun h2 => ?_)) <;> (try simp only [Xz, Xy] at h2))
 ·have hkl : k < b.code.length := by simpa using h2
  have hb : b.code[k]? = some b.code[k] := by simp [hkl]
  have hw := Jtoq (k := k) (by omega)
  (simp (maxSteps := 1000000) [h2, hb, Instr.row])
  (refine Jtt (Jtm4 A b.code[k] regs) (by rfl) (by rfl) ?_)
  (simp (maxSteps := 1000000) [])
  ((first | refine Xc (fun h3 => ?_) (fun h3 => ?_) | refine Xo (fun h3 => ?_) (fun h3 => ?_)) <;> (try simp only [Xz, Xy] at h3))
  ·(simp (maxSteps := 1000000) [h3])
   have : Jt8f (b.code.map (Jtmg · regs)) = Jtmg b.code[k] regs := Jt8i hz (by simp [hkl]) h3
   (first | exact hR _ _ FrA | exact hR _ _ FnA | exact hR _ _ (Xf (hq := by simp [AV.erase, AV.unview, Jtme, this, h3]; done)))
  ·(simp (maxSteps := 1000000) [h3, hw])
   exact hN _ (k + 1) ⟨hkl, take_zero hz hb (by simpa using h3)⟩ (by (exact wkA)) (by omega)
 ·have hk' : k = b.code.length := by simp at h2; omega
  subst hk'
  have hfe : Jt8f (b.code.map (Jtmg · regs)) = 0 := Jt8g (by rw [List.take_of_length_le (by simp)] at hz; exact hz)
  (simp (maxSteps := 1000000) [])
  (refine Jtt (Jtm6 A b.term regs blocks) (by rfl) (by rfl) ?_)
  (simp (maxSteps := 1000000) [])
  (first | exact hR _ _ FrA | exact hR _ _ FnA | exact hR _ _ (Xf (hq := by simp [AV.erase, AV.unview, Jtme, hfe]; done)))
def Jtmf (f : Func) : Int :=
 if f.args < 0 ∨ f.regs < f.args then 9 else if 1048576 < f.regs then 6 else if f.blocks.length = 0 then 14 else if 1048576 < f.blocks.length ∨ 1048576 < codeN f.blocks then 6
 else Jt8f (f.blocks.map fun b => Jtme b f.regs f.blocks.length)
theorem Jtm2 {P : Program} {p : Nums} (A : All P p) (f : Func) (h0 : f.blocks.length < 1000000000) (h1 : codeN f.blocks < 1000000000) : Jt3o P p.source_Check [f.av] [] fun o _ => o = .ret (AI (Jtmf f)) := by
 refine A.source_Check.run rfl fun R hR => ?_
 (simp (maxSteps := 1000000) [Jtcn, Func.av])
 ((first | refine Xc (fun a1 => ?_) (fun a1 => ?_) | refine Xo (fun a1 => ?_) (fun a1 => ?_)) <;> (try simp only [Xz, Xy] at a1))
 ·(simp (maxSteps := 1000000) [a1])
  have e : Jtmf f = 9 := by unfold Jtmf; repeat (first | rw [if_pos (by omega)] | rw [if_neg (by omega)])
  (first | exact hR _ _ FrA | exact hR _ _ FnA | exact hR _ _ (Xf (hq := by simp [AV.erase, AV.unview, e]; done)))
 (simp (maxSteps := 1000000) [a1])
 ((first | refine Xc (fun a2 => ?_) (fun a2 => ?_) | refine Xo (fun a2 => ?_) (fun a2 => ?_)) <;> (try simp only [Xz, Xy] at a2))
 ·(simp (maxSteps := 1000000) [a2])
  have e : Jtmf f = 9 := by unfold Jtmf; repeat (first | rw [if_pos (by omega)] | rw [if_neg (by omega)])
  (first | exact hR _ _ FrA | exact hR _ _ FnA | exact hR _ _ (Xf (hq := by simp [AV.erase, AV.unview, e]; done)))
 (simp (maxSteps := 1000000) [a2])
 ((first | refine Xc (fun a3 => ?_) (fun a3 => ?_) | refine Xo (fun a3 => ?_) (fun a3 => ?_)) <;> (try simp only [Xz, Xy] at a3))
 ·(simp (maxSteps := 1000000) [a3])
  have e : Jtmf f = 6 := by unfold Jtmf; repeat (first | rw [if_pos (by omega)] | rw [if_neg (by omega)])
  (first | exact hR _ _ FrA | exact hR _ _ FnA | exact hR _ _ (Xf (hq := by simp [AV.erase, AV.unview, e]; done)))
 (simp (maxSteps := 1000000) [a3])
 ((first | refine Xc (fun a4 => ?_) (fun a4 => ?_) | refine Xo (fun a4 => ?_) (fun a4 => ?_)) <;> (try simp only [Xz, Xy] at a4))
 ·(simp (maxSteps := 1000000) [a4])
  have e : Jtmf f = 14 := by unfold Jtmf; repeat (first | rw [if_pos (by omega)] | rw [if_neg (by omega)])
  (first | exact hR _ _ FrA | exact hR _ _ FnA | exact hR _ _ (Xf (hq := by simp [AV.erase, AV.unview, e]; done)))
 (simp (maxSteps := 1000000) [a4])
 ((first | refine Xc (fun a5 => ?_) (fun a5 => ?_) | refine Xo (fun a5 => ?_) (fun a5 => ?_)) <;> (try simp only [Xz, Xy] at a5))
 ·(simp (maxSteps := 1000000) [a5])
  have e : Jtmf f = 6 := by unfold Jtmf; repeat (first | rw [if_pos (by omega)] | rw [if_neg (by omega)])
  (first | exact hR _ _ FrA | exact hR _ _ FnA | exact hR _ _ (Xf (hq := by simp [AV.erase, AV.unview, e]; done)))
 (simp (maxSteps := 1000000) [a5])
 (refine Jtt (Jtm3 A f h0 h1) (by rfl) (by rfl) ?_)
 (simp (maxSteps := 1000000) [])
 ((first | refine Xc (fun a6 => ?_) (fun a6 => ?_) | refine Xo (fun a6 => ?_) (fun a6 => ?_)) <;> (try simp only [Xz, Xy] at a6))
 ·(simp (maxSteps := 1000000) [a6])
  have e : Jtmf f = 6 := by unfold Jtmf; repeat (first | rw [if_pos (by omega)] | rw [if_neg (by omega)])
  (first | exact hR _ _ FrA | exact hR _ _ FnA | exact hR _ _ (Xf (hq := by simp [AV.erase, AV.unview, e]; done)))
 (simp (maxSteps := 1000000) [a6])
 have e : Jtmf f = Jt8f (f.blocks.map fun b => Jtme b f.regs f.blocks.length) := by
  unfold Jtmf; repeat (first | rw [if_pos (by omega)] | rw [if_neg (by omega)])
 refine Jt9 (fun k : Nat => ⟨[(39, AI k), (38, AI f.blocks.length), (37, .d (.sl (f.blocks.map Block.row))), (1, .ptr 0 0)], [.mem [AI f.args, AI f.regs, .d (.sl (f.blocks.map Block.row))]]⟩)
  (fun k => k ≤ f.blocks.length ∧ ∀ e ∈ (f.blocks.map fun b => Jtme b f.regs f.blocks.length).take k, e = 0) (fun k => f.blocks.length - k) 0 (by simp) (by (exact wkA)) ?_
 rintro k ⟨hk, hz⟩ N hN
 (simp (maxSteps := 1000000) [])
 ((first | refine Xc (fun h2 => ?_) (fun h2 => ?_) | refine Xo (fun h2 => ?_) (fun h2 => ?_)) <;> (try simp only [Xz, Xy] at h2))
 ·have hkl : k < f.blocks.length := by simpa using h2
  have hb : f.blocks[k]? = some f.blocks[k] := by simp [hkl]
  have hw := Jtoq (k := k) (by omega)
  have hbl : f.blocks[k].code.length < 1000000000 := by
   have h3 := Jt6t hb
   have h4 := Jt6s f.blocks (k + 1)
   omega
  (simp (maxSteps := 1000000) [h2, hb, Block.row])
  (refine Jtt (Jtm8 A f.blocks[k] f.regs f.blocks.length hbl) (by rfl) (by rfl) ?_)
  (simp (maxSteps := 1000000) [])
  ((first | refine Xc (fun h3 => ?_) (fun h3 => ?_) | refine Xo (fun h3 => ?_) (fun h3 => ?_)) <;> (try simp only [Xz, Xy] at h3))
  ·(simp (maxSteps := 1000000) [h3])
   have e2 : Jt8f (f.blocks.map fun b => Jtme b f.regs f.blocks.length) = Jtme f.blocks[k] f.regs f.blocks.length := Jt8i hz (by simp [hkl]) h3
   (first | exact hR _ _ FrA | exact hR _ _ FnA | exact hR _ _ (Xf (hq := by simp [AV.erase, AV.unview, e, e2]; done)))
  ·(simp (maxSteps := 1000000) [h3, hw])
   exact hN _ (k + 1) ⟨hkl, take_zero hz hb (by simpa using h3)⟩ (by (exact wkA)) (by omega)
 ·have hk' : k = f.blocks.length := by simp at h2; omega
  subst hk'
  have hfe : Jt8f (f.blocks.map fun b => Jtme b f.regs f.blocks.length) = 0 := Jt8g (by rw [List.take_of_length_le (by simp)] at hz; exact hz)
  (simp (maxSteps := 1000000) [])
  (first | exact hR _ _ FrA | exact hR _ _ FnA | exact hR _ _ (Xf (hq := by simp [AV.erase, AV.unview, e, hfe]; done)))
end
def bad9 (i : Instr) (regs : Int) : Bool := usesD i.op && !inZ i.d regs || usesA i.op && !inZ i.a regs || usesB i.op && !inZ i.b regs
def bad12 (i : Instr) : Bool := !usesD i.op && i.d != 0 || !usesA i.op && i.a != 0 || !usesB i.op && i.b != 0 || i.op != 1 && i.imm != 0
def Jtjm (i : Instr) (regs : Int) : Int := if i.op < 1 ∨ 17 < i.op then 8 else if bad9 i regs = true then 9 else if bad12 i = true then 12 else 0
def Jtjs (t : Term) (regs blocks : Int) : Int :=
 if t.kind = 1 then (if inZ t.to blocks = false then 11 else if t.a ≠ 0 ∨ t.els ≠ 0 then 12 else 0)
 else if t.kind = 2 then (if inZ t.a regs = false then 9 else if inZ t.to blocks = false ∨ inZ t.els blocks = false then 11 else 0)
 else if t.kind = 3 then (if inZ t.a regs = false then 9 else if t.to ≠ 0 ∨ t.els ≠ 0 then 12 else 0)
 else 16
section
theorem Jtir {P : Program} {p : Nums} (A : All P p) (t : Term) (regs blocks : Int) : Jt3o P p.ref07_Term [t.av, AI regs, AI blocks] [] fun o _ => o = .ret (AI (Jtjs t regs blocks)) := by
 refine A.ref07_Term.run rfl fun R hR => ?_
 (simp (maxSteps := 1000000) [Jtbu, Term.av])
 repeat' (first | ((refine Jtt (Jtis A _ _) (by rfl) (by rfl) ?_); (simp (maxSteps := 1000000) [])) | (((first | refine Xc (fun hbr => ?_) (fun hbr => ?_) | refine Xo (fun hbr => ?_) (fun hbr => ?_)) <;> (try simp only [Xz, Xy] at hbr)) <;> simp (maxSteps := 1000000) [hbr]) | ((first | refine hR _ _ (Jt3s _ rfl rfl ?_) | refine hR _ _ (Jt3p _ rfl rfl ?_)); clear hR; (try simp_all [AV.erase, AV.unview, Jtjs])))
end
section
set_option maxHeartbeats 4000000 in
theorem Jtip {P : Program} {p : Nums} (A : All P p) (i : Instr) (regs : Int) : Jt3o P p.ref07_Instr [i.av, AI regs] [] fun o _ => o = .ret (AI (Jtjm i regs)) := by
 refine A.ref07_Instr.run rfl fun R hR => ?_
 (simp (maxSteps := 1000000) [Jtbs, Instr.av])
 rw [Jehb]
 refine Jta ⟨[(12, AB (decide (i.op < 1) || decide (17 < i.op))), (2, .ptr 0 0), (4, AI 0), (1, AI regs)], [.mem [AI i.op, AI i.d, AI i.a, AI i.b, AI i.imm]]⟩ (fun N hN => ?_) ?_
 ·(simp (maxSteps := 1000000) [])
  ((first | refine Xc (fun h => ?_) (fun h => ?_) | refine Xo (fun h => ?_) (fun h => ?_)) <;> (try simp only [Xz, Xy] at h))
  ·(simp (maxSteps := 1000000) [h])
   exact hN _ (by simp only [h]; (exact wkA))
  ·(simp (maxSteps := 1000000) [h])
   exact hN _ (by simp only [h]; (exact wkA))
 ((first | refine Xc (fun h1 => ?_) (fun h1 => ?_) | refine Xo (fun h1 => ?_) (fun h1 => ?_)) <;> (try simp only [Xz, Xy] at h1))
 ·(simp (maxSteps := 1000000) [h1])
  have e : Jtjm i regs = 8 := by unfold Jtjm; rw [if_pos h1]
  (first | exact hR _ _ FrA | exact hR _ _ FnA | exact hR _ _ (Xf (hq := by simp [AV.erase, AV.unview, e]; done)))
 (simp (maxSteps := 1000000) [h1])
 rw [Jehc]
 refine Jta ⟨[(46, AB (bad9 i regs)), (2, .ptr 0 0), (4, AI 0), (1, AI regs)], [.mem [AI i.op, AI i.d, AI i.a, AI i.b, AI i.imm]]⟩ (fun N hN => ?_) ?_
 ·(simp (maxSteps := 1000000) [])
  cases uD : usesD i.op <;> cases uA : usesA i.op <;> cases uB : usesB i.op <;> cases nD : inZ i.d regs <;> cases nA : inZ i.a regs <;> cases nB : inZ i.b regs <;>
   (repeat' (first | ((refine Jtt (Jtis A _ _) (by rfl) (by rfl) ?_); (simp (maxSteps := 1000000) [nD, nA, nB])) | ((refine Jtt (Jtij A _) (by rfl) (by rfl) ?_); (simp (maxSteps := 1000000) [uA])) | ((refine Jtt (Jtik A _) (by rfl) (by rfl) ?_); (simp (maxSteps := 1000000) [uB])) | ((refine Jtt (Jtil A _) (by rfl) (by rfl) ?_); (simp (maxSteps := 1000000) [uD])))) <;>
   exact hN _ (by simp only [bad9, uD, uA, uB, nD, nA, nB]; (exact wkA))
 ((first | refine Xc (fun h2 => ?_) (fun h2 => ?_) | refine Xo (fun h2 => ?_) (fun h2 => ?_)) <;> (try simp only [Xz, Xy] at h2))
 ·(simp (maxSteps := 1000000) [h2])
  have e : Jtjm i regs = 9 := by unfold Jtjm; rw [if_neg (by simp at h1; omega), if_pos h2]
  (first | exact hR _ _ FrA | exact hR _ _ FnA | exact hR _ _ (Xf (hq := by simp [AV.erase, AV.unview, e]; done)))
 (simp (maxSteps := 1000000) [h2])
 rw [Jehd]
 refine Jta ⟨[(87, AB (bad12 i)), (2, .ptr 0 0), (4, AI 0), (1, AI regs)], [.mem [AI i.op, AI i.d, AI i.a, AI i.b, AI i.imm]]⟩ (fun N hN => ?_) ?_
 ·clear hR h1 h2
  (simp (maxSteps := 1000000) [])
  cases uD : usesD i.op <;> cases uA : usesA i.op <;> cases uB : usesB i.op <;>
   (repeat' (first | ((refine Jtt (Jtij A _) (by rfl) (by rfl) ?_); (simp (maxSteps := 1000000) [uA])) | ((refine Jtt (Jtik A _) (by rfl) (by rfl) ?_); (simp (maxSteps := 1000000) [uB])) | ((refine Jtt (Jtil A _) (by rfl) (by rfl) ?_); (simp (maxSteps := 1000000) [uD])) | (((first | refine Xc (fun hbr => ?_) (fun hbr => ?_) | refine Xo (fun hbr => ?_) (fun hbr => ?_)) <;> (try simp only [Xz, Xy] at hbr)) <;> simp (maxSteps := 1000000) [hbr]))) <;>
   (refine hN _ ?_; clear hN; cases hb : bad12 i) <;> (first | ((exact wkA); done) | (exfalso; simp_all [bad12]; done) | (simp_all [bad12]; (exact wkA); done) | (cases hi : (i.imm != 0) <;> first | ((exact wkA); done) | (simp only [*]; (exact wkA); done) | (exfalso; simp_all [bad12]; done)))
 ((first | refine Xc (fun h3 => ?_) (fun h3 => ?_) | refine Xo (fun h3 => ?_) (fun h3 => ?_)) <;> (try simp only [Xz, Xy] at h3))
 ·(simp (maxSteps := 1000000) [h3])
  have e : Jtjm i regs = 12 := by unfold Jtjm; rw [if_neg (by simp at h1; omega), if_neg (by simpa using h2), if_pos h3]
  (first | exact hR _ _ FrA | exact hR _ _ FnA | exact hR _ _ (Xf (hq := by simp [AV.erase, AV.unview, e]; done)))
 (simp (maxSteps := 1000000) [h3])
 have e : Jtjm i regs = 0 := by unfold Jtjm; rw [if_neg (by simp at h1; omega), if_neg (by simpa using h2), if_neg (by simpa using h3)]
 (first | exact hR _ _ FrA | exact hR _ _ FnA | exact hR _ _ (Xf (hq := by simp [AV.erase, AV.unview, e]; done)))
end
def few (f : Func) : Bool := decide (f.blocks.length ≤ 40) && decide (f.regs ≤ 60) && f.blocks.all (fun b => decide (b.code.length ≤ 100)) && decide (codeN f.blocks ≤ 300)
def Jtjk (b : Block) (regs blocks : Int) : Int :=
 let e := Jt8f (b.code.map (Jtjm · regs))
 if e ≠ 0 then e else Jtjs b.term regs blocks
def Jtjl (f : Func) : Int :=
 if f.args < 0 ∨ f.regs < f.args then 9 else if 1048576 < f.regs then 6 else if f.blocks.length = 0 then 14 else if 1048576 < f.blocks.length ∨ 1048576 < codeN f.blocks then 6
 else Jt8f (f.blocks.map fun b => Jtjk b f.regs f.blocks.length)
theorem Jt6r {bs : List Block} (h : ∀ b ∈ bs, b.code.length ≤ 100) : codeN bs ≤ 100 * bs.length := by
 induction bs with
 | nil => simp [codeN]
 | cons b bs ih =>
  have h1 := h b (by simp)
  have h2 := ih fun x hx => h x (by simp [hx])
  simp only [codeN, List.map_cons, List.sum_cons, List.length_cons] at *
  omega
section
theorem Jtin {P : Program} {p : Nums} (A : All P p) (f : Func) (h0 : f.blocks.length < 1000000000) (h1 : codeN f.blocks < 1000000000) : Jt3o P p.ref07_Code [f.av] [] fun o _ => o = .ret (AI (codeN f.blocks)) := by
 refine A.ref07_Code.run rfl fun R hR => ?_
 (simp (maxSteps := 1000000) [Jtbq, Func.av])
 refine Jt9 (fun k : Nat => ⟨[(4, AI k), (1, .ptr 0 0), (3, AI (codeN (f.blocks.take k)))], [.mem [AI f.args, AI f.regs, .d (.sl (f.blocks.map Block.row))]]⟩) (fun k => k ≤ f.blocks.length) (fun k => f.blocks.length - k) 0 (by simp) (by (exact wkA)) ?_
 intro k hk N hN
 (simp (maxSteps := 1000000) [])
 ((first | refine Xc (fun h2 => ?_) (fun h2 => ?_) | refine Xo (fun h2 => ?_) (fun h2 => ?_)) <;> (try simp only [Xz, Xy] at h2))
 ·have hkl : k < f.blocks.length := by simpa using h2
  have hb : f.blocks[k]? = some f.blocks[k] := by simp [hkl]
  have hw := Jtoq (k := k) (by omega)
  have hs := Jt6t hb
  have hle := Jt6s f.blocks (k + 1)
  have hw2 := Jtop (a := codeN (f.blocks.take k)) (b := f.blocks[k].code.length) (by omega)
  rw [← hs] at hw2
  (simp (maxSteps := 1000000) [h2, List.getElem?_map, hb, Block.row, hw, hw2])
  exact hN _ (k + 1) hkl (by (exact wkA)) (by omega)
 ·have hk' : k = f.blocks.length := by simp at h2; omega
  subst hk'
  (simp (maxSteps := 1000000) [])
  (first | exact hR _ _ FrA | exact hR _ _ FnA | exact hR _ _ (Xf (hq := by simp [AV.erase, AV.unview, List.take_length]; done)))
theorem Jtio {P : Program} {p : Nums} (A : All P p) (f : Func) : Jt3o P p.ref07_Few [f.av] [] fun o _ => o = .ret (AB (few f)) := by
 refine A.ref07_Few.run rfl fun R hR => ?_
 (simp (maxSteps := 1000000) [Jtbr, Func.av])
 ((first | refine Xc (fun a1 => ?_) (fun a1 => ?_) | refine Xo (fun a1 => ?_) (fun a1 => ?_)) <;> (try simp only [Xz, Xy] at a1))
 ·(simp (maxSteps := 1000000) [a1])
  have e : few f = false := by simp [few]; omega
  (first | exact hR _ _ FrA | exact hR _ _ FnA | exact hR _ _ (Xf (hq := by simp [AV.erase, AV.unview, e]; done)))
 (simp (maxSteps := 1000000) [a1])
 ((first | refine Xc (fun a2 => ?_) (fun a2 => ?_) | refine Xo (fun a2 => ?_) (fun a2 => ?_)) <;> (try simp only [Xz, Xy] at a2))
 ·(simp (maxSteps := 1000000) [a2])
  have e : few f = false := by simp [few]; omega
  (first | exact hR _ _ FrA | exact hR _ _ FnA | exact hR _ _ (Xf (hq := by simp [AV.erase, AV.unview, e]; done)))
 (simp (maxSteps := 1000000) [a2])
 refine Jt9 (fun k : Nat => ⟨[(3, AI k), (1, .ptr 0 0)], [.mem [AI f.args, AI f.regs, .d (.sl (f.blocks.map Block.row))]]⟩)
  (fun k => k ≤ f.blocks.length ∧ ∀ b ∈ f.blocks.take k, b.code.length ≤ 100) (fun k => f.blocks.length - k) 0 (by simp) (by (exact wkA)) ?_
 rintro k ⟨hk, hz⟩ N hN
 (simp (maxSteps := 1000000) [])
 ((first | refine Xc (fun h2 => ?_) (fun h2 => ?_) | refine Xo (fun h2 => ?_) (fun h2 => ?_)) <;> (try simp only [Xz, Xy] at h2))
 ·have hkl : k < f.blocks.length := by simpa using h2
  have hb : f.blocks[k]? = some f.blocks[k] := by simp [hkl]
  have hw := Jtoq (k := k) (by omega)
  (simp (maxSteps := 1000000) [h2, hb, Block.row])
  ((first | refine Xc (fun h3 => ?_) (fun h3 => ?_) | refine Xo (fun h3 => ?_) (fun h3 => ?_)) <;> (try simp only [Xz, Xy] at h3))
  ·(simp (maxSteps := 1000000) [h3])
   have e : few f = false := by
    have : ¬ (∀ b ∈ f.blocks, b.code.length ≤ 100) := fun h => by have := h f.blocks[k] (by simp); omega
    simp [few]; intro _ _ h; exact absurd h this
   (first | exact hR _ _ FrA | exact hR _ _ FnA | exact hR _ _ (Xf (hq := by simp [AV.erase, AV.unview, e]; done)))
  ·(simp (maxSteps := 1000000) [h3, hw])
   refine hN _ (k + 1) ⟨hkl, ?_⟩ (by (exact wkA)) (by omega)
   intro b hb'
   rw [List.take_add_one, hb, List.mem_append] at hb'
   rcases hb' with hb' | hb'
   ·exact hz b hb'
   ·simp at hb'; subst hb'; omega
 ·have hk' : k = f.blocks.length := by simp at h2; omega
  subst hk'
  (simp (maxSteps := 1000000) [])
  have hcb : codeN f.blocks ≤ 100 * f.blocks.length := Jt6r (by rw [List.take_length] at hz; exact hz)
  (refine Jtt (Jtin A f (by omega) (by omega)) (by rfl) (by rfl) ?_)
  (simp (maxSteps := 1000000) [])
  have e : few f = decide ((codeN f.blocks : Int) ≤ 300) := by
   rw [List.take_length] at hz
   have e1 : f.blocks.all (fun b => decide (b.code.length ≤ 100)) = true := by simpa using hz
   have e2 : decide (f.blocks.length ≤ 40) = true := by simp; omega
   have e3 : decide (f.regs ≤ 60) = true := by simp; omega
   simp only [few, e1, e2, e3, Bool.true_and]
   congr 1; simp; omega
  (first | exact hR _ _ FrA | exact hR _ _ FnA | exact hR _ _ (Xf (hq := by simp [AV.erase, AV.unview, e]; done)))
theorem Jtim {P : Program} {p : Nums} (A : All P p) (f : Func) (h0 : f.blocks.length < 1000000000) (h1 : codeN f.blocks < 1000000000) : Jt3o P p.ref07_Check [f.av] [] fun o _ => o = .ret (AI (Jtjl f)) := by
 refine A.ref07_Check.run rfl fun R hR => ?_
 (simp (maxSteps := 1000000) [Jtbp, Func.av])
 ((first | refine Xc (fun a1 => ?_) (fun a1 => ?_) | refine Xo (fun a1 => ?_) (fun a1 => ?_)) <;> (try simp only [Xz, Xy] at a1))
 ·(simp (maxSteps := 1000000) [a1])
  have e : Jtjl f = 9 := by unfold Jtjl; repeat (first | rw [if_pos (by omega)] | rw [if_neg (by omega)])
  (first | exact hR _ _ FrA | exact hR _ _ FnA | exact hR _ _ (Xf (hq := by simp [AV.erase, AV.unview, e]; done)))
 (simp (maxSteps := 1000000) [a1])
 ((first | refine Xc (fun a2 => ?_) (fun a2 => ?_) | refine Xo (fun a2 => ?_) (fun a2 => ?_)) <;> (try simp only [Xz, Xy] at a2))
 ·(simp (maxSteps := 1000000) [a2])
  have e : Jtjl f = 9 := by unfold Jtjl; repeat (first | rw [if_pos (by omega)] | rw [if_neg (by omega)])
  (first | exact hR _ _ FrA | exact hR _ _ FnA | exact hR _ _ (Xf (hq := by simp [AV.erase, AV.unview, e]; done)))
 (simp (maxSteps := 1000000) [a2])
 ((first | refine Xc (fun a3 => ?_) (fun a3 => ?_) | refine Xo (fun a3 => ?_) (fun a3 => ?_)) <;> (try simp only [Xz, Xy] at a3))
 ·(simp (maxSteps := 1000000) [a3])
  have e : Jtjl f = 6 := by unfold Jtjl; repeat (first | rw [if_pos (by omega)] | rw [if_neg (by omega)])
  (first | exact hR _ _ FrA | exact hR _ _ FnA | exact hR _ _ (Xf (hq := by simp [AV.erase, AV.unview, e]; done)))
 (simp (maxSteps := 1000000) [a3])
 ((first | refine Xc (fun a4 => ?_) (fun a4 => ?_) | refine Xo (fun a4 => ?_) (fun a4 => ?_)) <;> (try simp only [Xz, Xy] at a4))
 ·(simp (maxSteps := 1000000) [a4])
  have e : Jtjl f = 14 := by unfold Jtjl; repeat (first | rw [if_pos (by omega)] | rw [if_neg (by omega)])
  (first | exact hR _ _ FrA | exact hR _ _ FnA | exact hR _ _ (Xf (hq := by simp [AV.erase, AV.unview, e]; done)))
 (simp (maxSteps := 1000000) [a4])
 ((first | refine Xc (fun a5 => ?_) (fun a5 => ?_) | refine Xo (fun a5 => ?_) (fun a5 => ?_)) <;> (try simp only [Xz, Xy] at a5))
 ·(simp (maxSteps := 1000000) [a5])
  have e : Jtjl f = 6 := by unfold Jtjl; repeat (first | rw [if_pos (by omega)] | rw [if_neg (by omega)])
  (first | exact hR _ _ FrA | exact hR _ _ FnA | exact hR _ _ (Xf (hq := by simp [AV.erase, AV.unview, e]; done)))
 (simp (maxSteps := 1000000) [a5])
 (refine Jtt (Jtin A f h0 h1) (by rfl) (by rfl) ?_)
 (simp (maxSteps := 1000000) [])
 ((first | refine Xc (fun a6 => ?_) (fun a6 => ?_) | refine Xo (fun a6 => ?_) (fun a6 => ?_)) <;> (try simp only [Xz, Xy] at a6))
 ·(simp (maxSteps := 1000000) [a6])
  have e : Jtjl f = 6 := by unfold Jtjl; repeat (first | rw [if_pos (by omega)] | rw [if_neg (by omega)])
  (first | exact hR _ _ FrA | exact hR _ _ FnA | exact hR _ _ (Xf (hq := by simp [AV.erase, AV.unview, e]; done)))
 (simp (maxSteps := 1000000) [a6])
 have e : Jtjl f = Jt8f (f.blocks.map fun b => Jtjk b f.regs f.blocks.length) := by
  unfold Jtjl; repeat (first | rw [if_pos (by omega)] | rw [if_neg (by omega)])
 refine Jt9 (fun k : Nat => ⟨[(3, AI k), (2, AI 0), (1, .ptr 0 0)], [.mem [AI f.args, AI f.regs, .d (.sl (f.blocks.map Block.row))]]⟩)
  (fun k => k ≤ f.blocks.length ∧ ∀ e ∈ (f.blocks.map fun b => Jtjk b f.regs f.blocks.length).take k, e = 0) (fun k => f.blocks.length - k) 0 (by simp) (by (exact wkA)) ?_
 rintro k ⟨hk, hz⟩ N hN
 (simp (maxSteps := 1000000) [])
 ((first | refine Xc (fun h2 => ?_) (fun h2 => ?_) | refine Xo (fun h2 => ?_) (fun h2 => ?_)) <;> (try simp only [Xz, Xy] at h2))
 ·have hkl : k < f.blocks.length := by simpa using h2
  have hb : f.blocks[k]? = some f.blocks[k] := by simp [hkl]
  have hw := Jtoq (k := k) (by omega)
  have hbl : f.blocks[k].code.length < 1000000000 := by
   have h3 := Jt6t hb
   have h4 := Jt6s f.blocks (k + 1)
   omega
  (simp (maxSteps := 1000000) [h2, hb, Block.row])
  refine Jt9 (fun j : Nat => ⟨[(5, AI j), (4, .ptr 1 0), (3, AI k), (2, AI 0), (1, .ptr 0 0)], [.mem [AI f.args, AI f.regs, .d (.sl (f.blocks.map Block.row))], .mem [.d (.sl (f.blocks[k].code.map Instr.row)), AI f.blocks[k].term.kind, AI f.blocks[k].term.a, AI f.blocks[k].term.to, AI f.blocks[k].term.els]]⟩)
   (fun j => j ≤ f.blocks[k].code.length ∧ ∀ e ∈ (f.blocks[k].code.map (Jtjm · f.regs)).take j, e = 0) (fun j => f.blocks[k].code.length - j) 0 (by simp) (by (exact wkA)) ?_
  rintro j ⟨hj, hy⟩ N' hN'
  (simp (maxSteps := 1000000) [])
  ((first | refine Xc (fun h3 => ?_) (fun h3 => ?_) | refine Xo (fun h3 => ?_) (fun h3 => ?_)) <;> (try simp only [Xz, Xy] at h3))
  ·have hjl : j < f.blocks[k].code.length := by simpa using h3
   have hbj : f.blocks[k].code[j]? = some f.blocks[k].code[j] := by simp [hjl]
   have hwj := Jtoq (k := j) (by omega)
   (simp (maxSteps := 1000000) [h3, hbj, Instr.row])
   (refine Jtt (Jtip A f.blocks[k].code[j] f.regs) (by rfl) (by rfl) ?_)
   (simp (maxSteps := 1000000) [])
   ((first | refine Xc (fun h4 => ?_) (fun h4 => ?_) | refine Xo (fun h4 => ?_) (fun h4 => ?_)) <;> (try simp only [Xz, Xy] at h4))
   ·(simp (maxSteps := 1000000) [h4])
    have e2 : Jt8f (f.blocks[k].code.map (Jtjm · f.regs)) = Jtjm f.blocks[k].code[j] f.regs := Jt8i hy (by simp [hjl]) h4
    have e3 : Jtjk f.blocks[k] f.regs f.blocks.length = Jtjm f.blocks[k].code[j] f.regs := by simp [Jtjk, e2, h4]
    have e4 : Jt8f (f.blocks.map fun b => Jtjk b f.regs f.blocks.length) = Jtjk f.blocks[k] f.regs f.blocks.length := Jt8i hz (by simp [hkl]) (by rw [e3]; exact h4)
    (first | exact hR _ _ FrA | exact hR _ _ FnA | exact hR _ _ (Xf (hq := by simp [AV.erase, AV.unview, e, e4, e3]; done)))
   ·(simp (maxSteps := 1000000) [h4, hwj])
    exact hN' _ (j + 1) ⟨hjl, take_zero hy hbj (by simpa using h4)⟩ (by (exact wkA)) (by omega)
  ·have hj' : j = f.blocks[k].code.length := by simp at h3; omega
   subst hj'
   have hfe : Jt8f (f.blocks[k].code.map (Jtjm · f.regs)) = 0 := Jt8g (by rw [List.take_of_length_le (by simp)] at hy; exact hy)
   have e3 : Jtjk f.blocks[k] f.regs f.blocks.length = Jtjs f.blocks[k].term f.regs f.blocks.length := by simp [Jtjk, hfe]
   (simp (maxSteps := 1000000) [])
   (refine Jtt (Jtir A f.blocks[k].term f.regs f.blocks.length) (by rfl) (by rfl) ?_)
   (simp (maxSteps := 1000000) [])
   ((first | refine Xc (fun h5 => ?_) (fun h5 => ?_) | refine Xo (fun h5 => ?_) (fun h5 => ?_)) <;> (try simp only [Xz, Xy] at h5))
   ·(simp (maxSteps := 1000000) [h5])
    have e4 : Jt8f (f.blocks.map fun b => Jtjk b f.regs f.blocks.length) = Jtjk f.blocks[k] f.regs f.blocks.length := Jt8i hz (by simp [hkl]) (by rw [e3]; exact h5)
    (first | exact hR _ _ FrA | exact hR _ _ FnA | exact hR _ _ (Xf (hq := by simp [AV.erase, AV.unview, e, e4, e3]; done)))
   ·(simp (maxSteps := 1000000) [h5, hw])
    exact hN _ (k + 1) ⟨hkl, take_zero hz hb (by rw [e3]; simpa using h5)⟩ (by (exact wkA)) (by omega)
 ·have hk' : k = f.blocks.length := by simp at h2; omega
  subst hk'
  have hfe : Jt8f (f.blocks.map fun b => Jtjk b f.regs f.blocks.length) = 0 := Jt8g (by rw [List.take_of_length_le (by simp)] at hz; exact hz)
  (simp (maxSteps := 1000000) [])
  (first | exact hR _ _ FrA | exact hR _ _ FnA | exact hR _ _ (Xf (hq := by simp [AV.erase, AV.unview, e, hfe]; done)))
end
structure MBlock where (code : List Mach) (term : Term)
 deriving Inhabited
def MBlock.row (b : MBlock) : List D := [.sl (b.code.map Mach.row), I b.term.kind, I b.term.a, I b.term.to, I b.term.els]
def MBlock.av (b : MBlock) : AV := .agg [.d (.sl (b.code.map Mach.row)), AI b.term.kind, AI b.term.a, AI b.term.to, AI b.term.els]
structure MFunc where (args regs slots : Int) (blocks : List MBlock)
def MFunc.av (f : MFunc) : AV := .agg [AI f.args, AI f.regs, AI f.slots, .d (.sl (f.blocks.map MBlock.row))]
def witD (w : List (List Pair)) : D := .sl (w.map fun l => [pairsD l])
structure Cert where (S : Func) (T : MFunc) (W : List (List Pair))
def Cert.av (c : Cert) : AV := .agg [AI c.S.args, AI c.S.regs, .d (.sl (c.S.blocks.map Block.row)), AI c.T.args, AI c.T.regs, AI c.T.slots, .d (.sl (c.T.blocks.map MBlock.row)), .d (witD c.W)]
section
end
section
end
section
end
def mcodeN (bs : List MBlock) : Nat := (bs.map fun b => b.code.length).sum
theorem Jtf8 {bs : List MBlock} {k : Nat} {b : MBlock} (h : bs[k]? = some b) : mcodeN (bs.take (k + 1)) = mcodeN (bs.take k) + b.code.length := by
 rw [mcodeN, List.take_add_one, h]; simp [mcodeN]
theorem Jtf5 (a b : List MBlock) : mcodeN (a ++ b) = mcodeN a + mcodeN b := by simp [mcodeN]
theorem Jtf7 (bs : List MBlock) (k : Nat) : mcodeN (bs.take k) ≤ mcodeN bs := by
 have h := Jtf5 (bs.take k) (bs.drop k)
 rw [List.take_append_drop] at h; omega
def mostN (l : List Nat) : Nat := l.foldl max 0
theorem Jtfu {l : List Nat} {k x : Nat} (h : l[k]? = some x) : mostN (l.take (k + 1)) = max (mostN (l.take k)) x := by
 rw [mostN, List.take_add_one, h]; simp [mostN]
theorem Jt8h {es : List Int} (h : Jt8f es = 0) : ∀ e ∈ es, e = 0 := by
 induction es with
 | nil => intro e he; simp at he
 | cons e es ih =>
  simp only [Jt8f] at h
  intro x hx
  split at h
  ·exact absurd h ‹_›
  ·rcases List.mem_cons.1 hx with rfl | hx
   ·simp_all
   ·exact ih h x hx
section
end
def lead : List Mach → Nat
 | [] => 0
 | m :: l => if (m.op == 18) = true then lead l + 1 else 0
def Jtjq (l : List Mach) : Nat := mostN ((List.range l.length).map fun i => lead (l.drop i))
theorem Jtdt (l : List Mach) : lead l ≤ l.length := by
 induction l with
 | nil => simp [lead]
 | cons m l ih => simp only [lead, List.length_cons]; split <;> omega
theorem Jtds {l : List Mach} {i : Nat} {m : Mach} (h : l[i]? = some m) : lead (l.drop i) = if (m.op == 18) = true then lead (l.drop (i + 1)) + 1 else 0 := by
 have hlt := (List.getElem?_eq_some_iff.1 h).1
 rw [List.drop_eq_getElem_cons hlt, (List.getElem?_eq_some_iff.1 h).2]; rfl
def mxAt (l : List Mach) (k : Nat) : Nat := mostN ((List.range k).map fun i => lead (l.drop i))
theorem Jtg5 (l : List Mach) (k : Nat) : mxAt l (k + 1) = max (mxAt l k) (lead (l.drop k)) := by
 simp [mxAt, mostN, List.range_succ]
section
theorem Jtiu {P : Program} {p : Nums} (A : All P p) (f : MFunc) (h0 : f.blocks.length < 1000000000) (h1 : mcodeN f.blocks < 1000000000) : Jt3o P p.ref08_Code [f.av] [] fun o _ => o = .ret (AI (mcodeN f.blocks)) := by
 refine A.ref08_Code.run rfl fun R hR => ?_
 (simp (maxSteps := 1000000) [Jtbx, MFunc.av])
 refine Jt9 (fun k : Nat => ⟨[(4, AI k), (1, .ptr 0 0), (3, AI (mcodeN (f.blocks.take k)))], [.mem [AI f.args, AI f.regs, AI f.slots, .d (.sl (f.blocks.map MBlock.row))]]⟩) (fun k => k ≤ f.blocks.length) (fun k => f.blocks.length - k) 0 (by simp) (by (exact wkA)) ?_
 intro k hk N hN
 (simp (maxSteps := 1000000) [])
 ((first | refine Xc (fun h2 => ?_) (fun h2 => ?_) | refine Xo (fun h2 => ?_) (fun h2 => ?_)) <;> (try simp only [Xz, Xy] at h2))
 ·have hkl : k < f.blocks.length := by simpa using h2
  have hb : f.blocks[k]? = some f.blocks[k] := by simp [hkl]
  have hw := Jtoq (k := k) (by omega)
  have hs := Jtf8 hb
  have hle := Jtf7 f.blocks (k + 1)
  have hw2 := Jtop (a := mcodeN (f.blocks.take k)) (b := f.blocks[k].code.length) (by omega)
  rw [← hs] at hw2
  (simp (maxSteps := 1000000) [h2, List.getElem?_map, hb, MBlock.row, hw, hw2])
  exact hN _ (k + 1) hkl (by (exact wkA)) (by omega)
 ·have hk' : k = f.blocks.length := by simp at h2; omega
  subst hk'
  (simp (maxSteps := 1000000) [])
  (first | exact hR _ _ FrA | exact hR _ _ FnA | exact hR _ _ (Xf (hq := by simp [AV.erase, AV.unview, List.take_length]; done)))
theorem Jtix {P : Program} {p : Nums} (A : All P p) (l : List Mach) (h0 : l.length < 1000000000) : Jt3o P p.ref08_Moves [.d (.sl (l.map Mach.row))] [] fun o _ => o = .ret (AI (Jtjq l)) := by
 refine A.ref08_Moves.run rfl fun R hR => ?_
 (simp (maxSteps := 1000000) [Jtc0])
 refine Jt9 (fun k : Nat => ⟨[(4, AI k), (3, AI (mxAt l k)), (2, AI 0), (0, .d (.sl (l.map Mach.row)))], []⟩) (fun k => k ≤ l.length) (fun k => l.length - k) 0 (by simp) (by (exact wkA)) ?_
 intro k hk N hN
 (simp (maxSteps := 1000000) [])
 ((first | refine Xc (fun h2 => ?_) (fun h2 => ?_) | refine Xo (fun h2 => ?_) (fun h2 => ?_)) <;> (try simp only [Xz, Xy] at h2))
 ·have hkl : k < l.length := by simpa using h2
  have hw := Jtoq (k := k) (by omega)
  (simp (maxSteps := 1000000) [h2])
  refine Jt9 (fun n : Nat => ⟨[(5, AI n), (4, AI k), (3, AI (mxAt l k)), (2, AI 0), (0, .d (.sl (l.map Mach.row)))], []⟩)
   (fun n => k + n ≤ l.length ∧ lead (l.drop k) = n + lead (l.drop (k + n))) (fun n => l.length - n) 0 (by simp; omega) (by (exact wkA)) ?_
  rintro n ⟨hn, hld⟩ N' hN'
  have hw2 := Jtop (a := k) (b := n) (by omega)
  have hw3 := Jtoq (k := n) (by omega)
  have hms := Jtg5 l k
  (simp (maxSteps := 1000000) [hw2])
  have hnn : (0 : Int) ≤ (k : Int) + n := by omega
  have htn : ((k : Int) + n).toNat = k + n := by omega
  ((first | refine Xc (fun h3 => ?_) (fun h3 => ?_) | refine Xo (fun h3 => ?_) (fun h3 => ?_)) <;> (try simp only [Xz, Xy] at h3))
  ·have hkn : k + n < l.length := by omega
   have hb : l[k + n]? = some l[k + n] := by simp [hkn]
   have hla := Jtds hb
   (simp (maxSteps := 1000000) [h3, hw2, hnn, htn, hb, Mach.row, hkn])
   ((first | refine Xc (fun h4 => ?_) (fun h4 => ?_) | refine Xo (fun h4 => ?_) (fun h4 => ?_)) <;> (try simp only [Xz, Xy] at h4))
   ·(simp (maxSteps := 1000000) [h4, hw3])
    rw [if_pos (by simp [h4])] at hla
    exact hN' _ (n + 1) ⟨hkn, by rw [hld, hla, Nat.add_assoc]; omega⟩ (by (exact wkA)) (by omega)
   ·(simp (maxSteps := 1000000) [h4])
    rw [if_neg (by simp [h4])] at hla
    ((first | refine Xc (fun h5 => ?_) (fun h5 => ?_) | refine Xo (fun h5 => ?_) (fun h5 => ?_)) <;> (try simp only [Xz, Xy] at h5))
    ·(simp (maxSteps := 1000000) [h5, hw])
     exact hN _ (k + 1) hkl (by rw [hms, hld, hla, show max (mxAt l k) (n + 0) = n by omega]; (exact wkA)) (by omega)
    ·(simp (maxSteps := 1000000) [h5, hw])
     exact hN _ (k + 1) hkl (by rw [hms, hld, hla, show max (mxAt l k) (n + 0) = mxAt l k by omega]; (exact wkA)) (by omega)
  ·have hla : lead (l.drop (k + n)) = 0 := by rw [List.drop_of_length_le (by omega)]; rfl
   (simp (maxSteps := 1000000) [h3])
   ((first | refine Xc (fun h5 => ?_) (fun h5 => ?_) | refine Xo (fun h5 => ?_) (fun h5 => ?_)) <;> (try simp only [Xz, Xy] at h5))
   ·(simp (maxSteps := 1000000) [h5, hw])
    exact hN _ (k + 1) hkl (by rw [hms, hld, hla, show max (mxAt l k) (n + 0) = n by omega]; (exact wkA)) (by omega)
   ·(simp (maxSteps := 1000000) [h5, hw])
    exact hN _ (k + 1) hkl (by rw [hms, hld, hla, show max (mxAt l k) (n + 0) = mxAt l k by omega]; (exact wkA)) (by omega)
 ·have hk' : k = l.length := by simp at h2; omega
  subst hk'
  (simp (maxSteps := 1000000) [])
  (first | exact hR _ _ FrA | exact hR _ _ FnA | exact hR _ _ (Xf (hq := by simp [AV.erase, AV.unview, Jtjq, mxAt]; done)))
end
theorem Jtgc {α : Type} [DecidableEq α] : ∀ {l m : List α}, l.Nodup → (∀ x ∈ l, x ∈ m) → l.length ≤ m.length := by
 intro l
 induction l with
 | nil => intro m _ _; simp
 | cons x l ih =>
  intro m hn hs
  rw [List.nodup_cons] at hn
  have hx := hs x (by simp)
  have := ih (m := m.erase x) hn.2 fun y hy => (List.mem_erase_of_ne (by rintro rfl; exact hn.1 hy)).2 (hs y (by simp [hy]))
  rw [List.length_erase_of_mem hx] at this
  have := List.length_pos_of_mem hx
  simp only [List.length_cons]; omega
def prodP (V L : List Int) : List Pair := V.flatMap fun v => L.map fun l => (⟨v, l⟩ : Pair)
theorem Jti4 (V L : List Int) : (prodP V L).length = V.length * L.length := by
 unfold prodP
 induction V with
 | nil => simp
 | cons v V ih => simp only [List.flatMap_cons, List.length_append, List.length_map, List.length_cons, ih, Nat.add_mul]; omega
theorem Jtfh {V L : List Int} {q : Pair} : q ∈ prodP V L ↔ q.v ∈ V ∧ q.l ∈ L := by
 unfold prodP
 simp only [List.mem_flatMap, List.mem_map]
 constructor
 ·rintro ⟨v, hv, l, hl, rfl⟩; exact ⟨hv, hl⟩
 ·rintro ⟨hv, hl⟩; exact ⟨q.v, hv, q.l, hl, rfl⟩
structure Over (V L : List Int) (l : List Pair) : Prop where
 srt : Srt l
 mem : ∀ q ∈ l, q.v ∈ V ∧ q.l ∈ L
theorem Over.len {V L : List Int} {l : List Pair} (h : Over V L l) : l.length ≤ V.length * L.length := by
 rw [← Jti4]
 exact Jtgc (Jtmx h.srt) fun q hq => Jtfh.2 (h.mem q hq)
theorem Over.copy {V L : List Int} {l : List Pair} (h : Over V L l) {d a : Int} (hd : d ∈ V) : Over V L (copyP l d a) := by
 refine ⟨Jtmo h.srt, fun q hq => ?_⟩
 rcases Jtfa.1 hq with ⟨h1, _⟩ | ⟨h1, h2⟩
 ·exact h.mem q h1
 ·exact ⟨by rw [h1]; exact hd, (h.mem _ h2).2⟩
theorem Over.move {V L : List Int} {l : List Pair} (h : Over V L l) {d a : Int} (hd : d ∈ L) : Over V L (moveP l d a) := by
 refine ⟨Jtmw h.srt, fun q hq => ?_⟩
 rcases Jtff.1 hq with ⟨h1, _⟩ | ⟨h1, h2⟩
 ·exact h.mem q h1
 ·exact ⟨(h.mem _ h2).1, by rw [h1]; exact hd⟩
theorem Over.define {V L : List Int} {l : List Pair} (h : Over V L l) {d t : Int} (hd : d ∈ V) (ht : t ∈ L) : Over V L (defP l d t) := by
 refine ⟨Jtmp h.srt, fun q hq => ?_⟩
 rcases Jtfb.1 hq with rfl | ⟨h1, _⟩
 ·exact ⟨hd, ht⟩
 ·exact h.mem q h1
structure CS where (set : List Pair) (steps largest : Nat)
abbrev CR := CS × Option (Int × Int)
def costC (s : CS) : CS := ⟨s.set, s.steps + 1 + s.set.length, s.largest⟩
def Jt5a (most : Int) (s : CS) (l : List Pair) (at_ : Int) : CR := (⟨l, s.steps, max s.largest l.length⟩, if (l.length : Int) > most then some (24, at_) else none)
def useC (s : CS) (v t at_ : Int) : CR := (costC s, if (⟨v, t⟩ : Pair) ∈ s.set then none else some (21, at_))
def thenC (r : CR) (f : CS → CR) : CR := match r.2 with
 | none => f r.1
 | some e => (r.1, some e)
theorem Jtnq {s : CS} {f : CS → CR} : thenC (s, none) f = f s := rfl
theorem Jtnr {s : CS} {e : Int × Int} {f : CS → CR} : thenC (s, some e) f = (s, some e) := rfl
structure Room (V L : List Int) (s : CS) (n : Nat) : Prop where
 over : Over V L s.set
 few : V.length * L.length < 100000
 steps : s.steps + 100001 * n < 1000000000000000000
 lg : s.largest < 100000
theorem Room.len {V L : List Int} {s : CS} {n : Nat} (h : Room V L s n) : s.set.length < 100000 := Nat.lt_of_le_of_lt h.over.len h.few
theorem Room.mono {V L : List Int} {s : CS} {n m : Nat} (h : Room V L s n) (hm : m ≤ n) : Room V L s m := ⟨h.over, h.few, by have := h.steps; omega, h.lg⟩
theorem Room.cost {V L : List Int} {s : CS} {n : Nat} (h : Room V L s (n + 1)) : Room V L (costC s) n :=
 ⟨h.over, h.few, by have := h.steps; have := h.len; simp only [costC]; omega, h.lg⟩
theorem Room.become {V L : List Int} {s : CS} {n : Nat} (h : Room V L s n) {l : List Pair} (hl : Over V L l) (most at_ : Int) : Room V L (Jt5a most s l at_).1 n := by
 refine ⟨hl, h.few, h.steps, ?_⟩
 have := h.lg
 have := Nat.lt_of_le_of_lt hl.len h.few
 simp only [Jt5a]; omega
theorem Room.use {V L : List Int} {s : CS} {n : Nat} (h : Room V L s (n + 1)) (v t at_ : Int) : Room V L (useC s v t at_).1 n := h.cost
section
variable {P : Program} {m : Nat} {Q : AExit → ASt → Prop} {st : ASt} {K : ASt → Prop} {QP : AV → ASt → Prop} {dst : Option Nat}
theorem Jtx (bs : List Nat) {f : Nat} {args cargs : List AV} {Hp Hc Hc' Hb : List Blk} {x y : AV} (h : Jt3o P f cargs Hc fun o H' => o = .pan x ∧ H' = Hc')
  (hnd : bs.Nodup) (ha : renL (idx bs) args = some cargs) (hp : picks st.H bs = some Hp) (hc : renB (idx bs) Hp = some Hc) (hb : renB (back bs st.H.length 0) Hc' = some Hb)
  (hl : Hc'.length = bs.length) (hx : x.ren (back bs st.H.length 0) = some y) (hK : QP y ⟨unview st.env, wback st.H bs Hb⟩) : AWcall P false f args dst K QP st := by
 refine .inr ⟨rfl, .inr ⟨bs, hnd, cargs, Hp, Hc, ha, hp, hc, h.mono ?_⟩⟩
 rintro o H' ⟨rfl, he⟩
 subst he
 have ht : H'.take (bs.length + 0) = H' := by rw [Nat.add_zero, ← hl, List.take_length]
 refine ⟨0, Hb, y, by rw [ht]; exact hb, by omega, hx, ?_⟩
 have e : Hb.length = bs.length := by rw [Jtk0 hb, hl]
 rw [← e, List.take_length, List.drop_length, List.append_nil]
 exact hK
theorem Jt3r {rs : List RV} {m : Nat} {Q : AOut → List Blk → Prop} {st : ASt} (x x' : AV) (H' : List Blk) (hw : Wk m ⟨[(0, x.erase)], st.H⟩ ⟨[(0, x')], H'⟩) (hq : Q (.pan x') H') : Fin rs m Q (.panic x) st := ⟨x', H', hw, hq⟩
attribute [simp] panEnd
end
def failV (p : Nums) (e : Int × Int) : AV := .iface p.ty_bcfail (.agg [AI e.1, AI e.2])
def outR (p : Nums) : Option (Int × Int) → AOut
 | none => .ret (.tup [])
 | some e => .pan (failV p e)
def ckB (most : Int) (s : CS) : Blk := .mem [.d (pairsD s.set), AI most, AI s.steps, AI s.largest]
theorem wrapN {n : Nat} (h : n < 4611686018427387904) : IntKind.i64.wrap (n : Int) = (n : Int) := by
 have := Jtop (a := n) (b := 0) (by omega); simpa using this
section
theorem Jt5i {P : Program} {p : Nums} (A : All P p) (s : CS) (most : Int) (h0 : s.set.length < 100000) (h1 : s.steps < 1000000000000000000) : Jt3o P p.blockcheck_checker_cost [.ptr 0 0] [ckB most s] fun o H' => o = .ret (.tup []) ∧ H' = [ckB most (costC s)] := by
 refine A.blockcheck_checker_cost.run rfl fun R hR => ?_
 obtain ⟨l, n, g⟩ := s
 have e1 : IntKind.i64.wrap (1 + (l.length : Int)) = 1 + (l.length : Int) := by have := wrapN (n := 1 + l.length) (by simp at h0; omega); simpa using this
 have e2 : IntKind.i64.wrap ((n : Int) + (1 + (l.length : Int))) = (n : Int) + (1 + (l.length : Int)) := by have := wrapN (n := n + (1 + l.length)) (by simp at h0 h1; omega); simpa using this
 have e3 : ((n + 1 + l.length : Nat) : Int) = (n : Int) + (1 + (l.length : Int)) := by omega
 (simp (maxSteps := 1000000) [Jta7, ckB, pairsD, e1, e2])
 exact hR _ _ (Fin_wk (.tup []) (.tup []) [.mem [.d (pairsD l), AI most, AI ((n : Int) + (1 + (l.length : Int))), AI g]] rfl (by simp only [pairsD]; (exact wkA)) ⟨rfl, by simp only [ckB, costC, e3]⟩)
theorem Jt5h {P : Program} {p : Nums} (A : All P p) (s : CS) (most : Int) (l : List Pair) (at_ : Int) (h0 : l.length < 100000) (h1 : s.largest < 1000000000000000000) :
  Jt3o P p.blockcheck_checker_become [.ptr 0 0, .d (pairsD l), AI at_] [ckB most s] fun o H' => o = outR p (Jt5a most s l at_).2 ∧ H' = [ckB most (Jt5a most s l at_).1] := by
 refine A.blockcheck_checker_become.run rfl fun R hR => ?_
 obtain ⟨u, n, g⟩ := s
 obtain ⟨mx, hmx⟩ : ∃ mx, mx = max g l.length := ⟨_, rfl⟩
 have e1 : (if g < l.length then (l.length : Int) else (g : Int)) = (mx : Int) := by split <;> omega
 (simp (maxSteps := 1000000) [Jta6, ckB, pairsD, e1])
 ((first | refine Xc (fun h2 => ?_) (fun h2 => ?_) | refine Xo (fun h2 => ?_) (fun h2 => ?_)) <;> (try simp only [Xz, Xy] at h2))
 ·(simp (maxSteps := 1000000) [h2])
  refine hR _ _ (Jt3r _ (failV p (24, at_)) [.mem [.d (pairsD l), AI most, AI n, AI mx]] (by simp only [pairsD, failV]; (exact wkA)) ⟨?_, by simp only [ckB, Jt5a, hmx]⟩)
  simp [outR, Jt5a, h2]
 ·(simp (maxSteps := 1000000) [h2])
  refine hR _ _ (Fin_wk (.tup []) (.tup []) [.mem [.d (pairsD l), AI most, AI n, AI mx]] rfl (by simp only [pairsD]; (exact wkA)) ⟨?_, by simp only [ckB, Jt5a, hmx]⟩)
  simp [outR, Jt5a, h2]
end
def instrC (most : Int) (s : CS) (i : Instr) (m : Mach) (at_ : Int) : CR :=
 thenC (if usesA i.op = true then useC s i.a (regZ m.a) at_ else (s, none)) fun s =>
  thenC (if usesB i.op = true then useC s i.b (regZ m.b) at_ else (s, none)) fun s =>
   if usesD i.op = true then Jt5a most (costC s) (defP s.set i.d (regZ m.d)) at_ else (s, none)
theorem Jtle (x : Int) : (shapeZ x).D = usesD x := by
 unfold shapeZ usesD knownZ
 by_cases h1 : 1 ≤ x ∧ x ≤ 18
 ·by_cases h2 : x = 1
  ·subst h2; decide
  ·by_cases h3 : x ≤ 4
   ·simp [h1, h2, h3]; omega
   ·by_cases h4 : x ≤ 16
    ·simp [h1, h2, h3, h4]
    ·simp [h1, h2, h3, h4]
 ·simp [h1]; omega
theorem Jtlc (x : Int) : (shapeZ x).A = usesA x := by
 unfold shapeZ usesA knownZ
 by_cases h1 : 1 ≤ x ∧ x ≤ 18
 ·by_cases h2 : x = 1
  ·subst h2; decide
  ·by_cases h3 : x ≤ 4
   ·simp [h1, h2, h3]; omega
   ·by_cases h4 : x ≤ 16
    ·simp [h1, h2, h3, h4]; omega
    ·simp only [h1, h2, h3, h4, and_self, decide_true, Bool.true_eq_false, if_false]; by_cases h5 : x = 17
     ·subst h5; decide
     ·have : x = 18 := by omega
      subst this; decide
 ·simp [h1]; omega
theorem Jtld (x : Int) : (shapeZ x).B = usesB x := by
 unfold shapeZ usesB knownZ
 by_cases h1 : 1 ≤ x ∧ x ≤ 18
 ·by_cases h2 : x = 1
  ·subst h2; decide
  ·by_cases h3 : x ≤ 4
   ·simp [h1, h2, h3]; omega
   ·by_cases h4 : x ≤ 16
    ·simp [h1, h2, h3, h4]; omega
    ·simp [h1, h2, h3, h4]
 ·simp [h1]; omega
section
theorem Jt5m {P : Program} {p : Nums} (A : All P p) (s : CS) (most v reg at_ : Int) (h0 : s.set.length < 100000) (h1 : s.steps < 1000000000000000000) (hs : Srt s.set) :
  Jt3o P p.blockcheck_checker_use [.ptr 0 0, AI v, AI reg, AI at_] [ckB most s] fun o H' => o = outR p (useC s v (regZ reg) at_).2 ∧ H' = [ckB most (useC s v (regZ reg) at_).1] := by
 refine A.blockcheck_checker_use.run rfl fun R hR => ?_
 have hH := Jthk A s.set ⟨v, regZ reg⟩ (by omega) hs
 have hc := Jt5i A s most h0 h1
 have e0 : (useC s v (regZ reg) at_).1 = costC s := rfl
 obtain ⟨C, hC⟩ : ∃ C, C = ckB most (costC s) := ⟨_, rfl⟩
 have hCm : C = .mem [.d (pairsD s.set), AI most, AI (costC s).steps, AI s.largest] := hC
 obtain ⟨B, hB⟩ : ∃ B, B = ckB most s := ⟨_, rfl⟩
 rw [← hC] at hc
 rw [← hB] at hc ⊢
 (simp (maxSteps := 1000000) [Jtad])
 refine Jtv [0] hc (by decide) (by rfl) (by rfl) (by rw [hB]; rfl) (by rw [hCm]; rfl) (by rfl) (by rfl) ?_
 (simp (maxSteps := 1000000) [hCm])
 (refine Jtt (Jtea A reg) (by rfl) (by rfl) ?_)
 (simp (maxSteps := 1000000) [])
 (refine Jtt hH (by rfl) (by rfl) ?_)
 by_cases hm : (⟨v, regZ reg⟩ : Pair) ∈ s.set
 ·(simp (maxSteps := 1000000) [hm])
  refine hR _ _ (Fin_wk (.tup []) (.tup []) [C] rfl (by rw [hCm]; (exact wkA)) ⟨?_, by rw [hC]; rfl⟩)
  simp [useC, hm, outR]
 ·(simp (maxSteps := 1000000) [hm])
  refine hR _ _ (Jt3r _ (failV p (21, at_)) [C] (by rw [hCm]; simp only [failV]; (exact wkA)) ⟨?_, by rw [hC]; rfl⟩)
  simp [useC, hm, outR]
end
theorem Jtda {V L : List Int} {most : Int} {s : CS} {n : Nat} {i : Instr} {m : Mach} {at_ : Int} (h : Room V L s (n + 3)) (hd : usesD i.op = true → i.d ∈ V ∧ regZ m.d ∈ L) : Room V L (instrC most s i m at_).1 n := by
 unfold instrC
 have h2 : Room V L (if usesA i.op = true then useC s i.a (regZ m.a) at_ else (s, none)).1 (n + 2) := by split <;> first | exact h.use _ _ _ | exact h.mono (by omega)
 generalize (if usesA i.op = true then useC s i.a (regZ m.a) at_ else (s, none)) = r at h2
 obtain ⟨s1, e⟩ := r
 cases e with
 | some e => rw [Jtnr]; exact h2.mono (by omega)
 | none =>
  rw [Jtnq]
  have h3 : Room V L (if usesB i.op = true then useC s1 i.b (regZ m.b) at_ else (s1, none)).1 (n + 1) := by split <;> first | exact h2.use _ _ _ | exact h2.mono (by omega)
  generalize (if usesB i.op = true then useC s1 i.b (regZ m.b) at_ else (s1, none)) = r at h3
  obtain ⟨s2, e⟩ := r
  cases e with
  | some e => rw [Jtnr]; exact h3.mono (by omega)
  | none =>
   rw [Jtnq]
   split
   ·rename_i hu
    obtain ⟨k1, k2⟩ := hd hu
    exact h3.cost.become (h3.over.define k1 k2) _ _
   ·exact h3.mono (by omega)
section
theorem Jt5j {P : Program} {p : Nums} (A : All P p) (S : SortOk P p) {V L : List Int} (s : CS) (most : Int) (i : Instr) (m : Mach) (at_ : Int) (h : Room V L s 3) (hd : usesD i.op = true → i.d ∈ V ∧ regZ m.d ∈ L) :
  Jt3o P p.blockcheck_checker_instr [.ptr 0 0, i.av, m.av, AI at_] [ckB most s] fun o H' => o = outR p (instrC most s i m at_).2 ∧ H' = [ckB most (instrC most s i m at_).1] := by
 refine A.blockcheck_checker_instr.run rfl fun R hR => ?_
 have r1 := h.cost
 have r2 := r1.cost
 have l0 := h.len
 have l1 := r1.len
 have l2 := r2.len
 have t0 := h.steps
 have t1 := r1.steps
 have t2 := r2.steps
 have g2 := r2.cost
 have q0 := h.over.srt
 obtain ⟨s1, hs1⟩ : ∃ s1, s1 = costC s := ⟨_, rfl⟩
 obtain ⟨s2, hs2⟩ : ∃ s2, s2 = costC s1 := ⟨_, rfl⟩
 obtain ⟨s3, hs3⟩ : ∃ s3, s3 = costC s2 := ⟨_, rfl⟩
 have q1 : Srt s1.set := by rw [hs1]; exact q0
 have q2 : Srt s2.set := by rw [hs2]; exact q1
 rw [← hs1] at r1 r2 l1 l2 t1 t2 g2
 rw [← hs2] at r2 l2 t2 g2
 rw [← hs3] at g2
 (simp (maxSteps := 1000000) [Jta8, Instr.av, Mach.av])
 (refine Jtt (Jth0 A i.op) (by rfl) (by rfl) ?_)
 (simp (maxSteps := 1000000) [Jtlc, Jtld, Jtle])
 have hspec : instrC most s i m at_ = instrC most s i m at_ := rfl
 conv at hspec => rhs; unfold instrC
 cases hA : usesA i.op <;> cases hB : usesB i.op <;> cases hD : usesD i.op <;> simp only [hA, hB, hD, if_true, if_false, Bool.false_eq_true, Jtnq] at hspec
 ·(simp (maxSteps := 1000000) [hA, hB, hD])
  exact hR _ _ (Fin_wk (.tup []) (.tup []) [ckB most s] rfl (by simp only [ckB]; (exact wkA)) ⟨by rw [hspec]; rfl, by rw [hspec]⟩)
 ·(simp (maxSteps := 1000000) [hA, hB, hD])
  have hc := Jt5i A s most (by omega) (by omega)
  rw [← hs1] at hc hspec
  have hV := hd hD
  have ho : Over V L (defP s.set i.d (regZ m.d)) := (h).over.define hV.1 hV.2
  have hl := Nat.lt_of_le_of_lt ho.len h.few
  have hset : s1.set = s.set := by rw [hs1]; rfl
  have hb := Jt5h A s1 most (defP s.set i.d (regZ m.d)) at_ hl (by have := (r1).lg; omega)
  have hdf : Jt3o P p.transfer_Define [.d (pairsD s1.set), AI i.d, AI (regZ m.d)] [] fun o _ => o = .ret (.d (pairsD (defP s.set i.d (regZ m.d)))) := by rw [hset]; exact Jto0 A S s.set i.d (regZ m.d) (by omega) q0
  obtain ⟨dl, hdl⟩ : ∃ dl, dl = defP s.set i.d (regZ m.d) := ⟨_, rfl⟩
  rw [← hdl] at hb hdf hspec
  obtain ⟨⟨s9, e9⟩, h9⟩ : ∃ r, r = Jt5a most s1 dl at_ := ⟨_, rfl⟩
  rw [← h9] at hb hspec
  refine Jtv [0] (x := .tup []) hc (by decide) (by rfl) (by rfl) (by rfl) (by rfl) (by rfl) (by rfl) ?_
  (simp (maxSteps := 1000000) [])
  (refine Jtt (Jtea A m.d) (by rfl) (by rfl) ?_)
  (simp (maxSteps := 1000000) [])
  (refine Jtt hdf (by rfl) (by rfl) ?_)
  (simp (maxSteps := 1000000) [])
  cases e9 with
  | none =>
   refine Jtv [0] (x := .tup []) hb (by decide) (by rfl) (by rfl) (by rfl) (by rfl) (by rfl) (by rfl) ?_
   (simp (maxSteps := 1000000) [])
   exact hR _ _ (Fin_wk (.tup []) (.tup []) [ckB most s9] rfl (by simp only [ckB]; (exact wkA)) ⟨by rw [hspec]; rfl, by rw [hspec]⟩)
  | some e =>
   refine Jtx [0] (x := failV p e) hb (by decide) (by rfl) (by rfl) (by rfl) (by rfl) (by rfl) (by rfl) ?_
   (simp (maxSteps := 1000000) [])
   exact hR _ _ (Jt3r _ (failV p e) [ckB most s9] (by simp only [ckB, failV]; (exact wkA)) ⟨by rw [hspec]; rfl, by rw [hspec]⟩)
 ·(simp (maxSteps := 1000000) [hA, hB, hD])
  have eB : (useC s i.b (regZ m.b) at_).1 = s1 := by rw [hs1]; rfl
  have huB := (Jt5m A s most i.b m.b at_ (by omega) (by omega) q0)
  rw [eB] at huB
  rcases hrB : (useC s i.b (regZ m.b) at_).2 with _ | e
  ·rw [hrB] at huB
   rw [show useC s i.b (regZ m.b) at_ = (s1, none) from Prod.ext eB hrB, Jtnq] at hspec
   refine Jtv [0] (x := .tup []) huB (by decide) (by rfl) (by rfl) (by rfl) (by rfl) (by rfl) (by rfl) ?_
   (simp (maxSteps := 1000000) [hA, hB, hD])
   exact hR _ _ (Fin_wk (.tup []) (.tup []) [ckB most s1] rfl (by simp only [ckB]; (exact wkA)) ⟨by rw [hspec]; rfl, by rw [hspec]⟩)
  ·rw [hrB] at huB
   rw [show useC s i.b (regZ m.b) at_ = (s1, some e) from Prod.ext eB hrB, Jtnr] at hspec
   refine Jtx [0] (x := failV p e) huB (by decide) (by rfl) (by rfl) (by rfl) (by rfl) (by rfl) (by rfl) ?_
   (simp (maxSteps := 1000000) [])
   exact hR _ _ (Jt3r _ (failV p e) [ckB most s1] (by simp only [ckB, failV]; (exact wkA)) ⟨by rw [hspec]; rfl, by rw [hspec]⟩)
 ·(simp (maxSteps := 1000000) [hA, hB, hD])
  have eB : (useC s i.b (regZ m.b) at_).1 = s1 := by rw [hs1]; rfl
  have huB := (Jt5m A s most i.b m.b at_ (by omega) (by omega) q0)
  rw [eB] at huB
  rcases hrB : (useC s i.b (regZ m.b) at_).2 with _ | e
  ·rw [hrB] at huB
   rw [show useC s i.b (regZ m.b) at_ = (s1, none) from Prod.ext eB hrB, Jtnq] at hspec
   refine Jtv [0] (x := .tup []) huB (by decide) (by rfl) (by rfl) (by rfl) (by rfl) (by rfl) (by rfl) ?_
   (simp (maxSteps := 1000000) [hA, hB, hD])
   have hc := Jt5i A s1 most (by omega) (by omega)
   rw [← hs2] at hc hspec
   have hV := hd hD
   have ho : Over V L (defP s1.set i.d (regZ m.d)) := (r1).over.define hV.1 hV.2
   have hl := Nat.lt_of_le_of_lt ho.len h.few
   have hset : s2.set = s1.set := by rw [hs2]; rfl
   have hb := Jt5h A s2 most (defP s1.set i.d (regZ m.d)) at_ hl (by have := (r2).lg; omega)
   have hdf : Jt3o P p.transfer_Define [.d (pairsD s2.set), AI i.d, AI (regZ m.d)] [] fun o _ => o = .ret (.d (pairsD (defP s1.set i.d (regZ m.d)))) := by rw [hset]; exact Jto0 A S s1.set i.d (regZ m.d) (by omega) q1
   obtain ⟨dl, hdl⟩ : ∃ dl, dl = defP s1.set i.d (regZ m.d) := ⟨_, rfl⟩
   rw [← hdl] at hb hdf hspec
   obtain ⟨⟨s9, e9⟩, h9⟩ : ∃ r, r = Jt5a most s2 dl at_ := ⟨_, rfl⟩
   rw [← h9] at hb hspec
   refine Jtv [0] (x := .tup []) hc (by decide) (by rfl) (by rfl) (by rfl) (by rfl) (by rfl) (by rfl) ?_
   (simp (maxSteps := 1000000) [])
   (refine Jtt (Jtea A m.d) (by rfl) (by rfl) ?_)
   (simp (maxSteps := 1000000) [])
   (refine Jtt hdf (by rfl) (by rfl) ?_)
   (simp (maxSteps := 1000000) [])
   cases e9 with
   | none =>
    refine Jtv [0] (x := .tup []) hb (by decide) (by rfl) (by rfl) (by rfl) (by rfl) (by rfl) (by rfl) ?_
    (simp (maxSteps := 1000000) [])
    exact hR _ _ (Fin_wk (.tup []) (.tup []) [ckB most s9] rfl (by simp only [ckB]; (exact wkA)) ⟨by rw [hspec]; rfl, by rw [hspec]⟩)
   | some e =>
    refine Jtx [0] (x := failV p e) hb (by decide) (by rfl) (by rfl) (by rfl) (by rfl) (by rfl) (by rfl) ?_
    (simp (maxSteps := 1000000) [])
    exact hR _ _ (Jt3r _ (failV p e) [ckB most s9] (by simp only [ckB, failV]; (exact wkA)) ⟨by rw [hspec]; rfl, by rw [hspec]⟩)
  ·rw [hrB] at huB
   rw [show useC s i.b (regZ m.b) at_ = (s1, some e) from Prod.ext eB hrB, Jtnr] at hspec
   refine Jtx [0] (x := failV p e) huB (by decide) (by rfl) (by rfl) (by rfl) (by rfl) (by rfl) (by rfl) ?_
   (simp (maxSteps := 1000000) [])
   exact hR _ _ (Jt3r _ (failV p e) [ckB most s1] (by simp only [ckB, failV]; (exact wkA)) ⟨by rw [hspec]; rfl, by rw [hspec]⟩)
 ·(simp (maxSteps := 1000000) [hA, hB, hD])
  have eA : (useC s i.a (regZ m.a) at_).1 = s1 := by rw [hs1]; rfl
  have huA := (Jt5m A s most i.a m.a at_ (by omega) (by omega) q0)
  rw [eA] at huA
  rcases hrA : (useC s i.a (regZ m.a) at_).2 with _ | e
  ·rw [hrA] at huA
   rw [show useC s i.a (regZ m.a) at_ = (s1, none) from Prod.ext eA hrA, Jtnq] at hspec
   refine Jtv [0] (x := .tup []) huA (by decide) (by rfl) (by rfl) (by rfl) (by rfl) (by rfl) (by rfl) ?_
   (simp (maxSteps := 1000000) [hA, hB, hD])
   exact hR _ _ (Fin_wk (.tup []) (.tup []) [ckB most s1] rfl (by simp only [ckB]; (exact wkA)) ⟨by rw [hspec]; rfl, by rw [hspec]⟩)
  ·rw [hrA] at huA
   rw [show useC s i.a (regZ m.a) at_ = (s1, some e) from Prod.ext eA hrA, Jtnr] at hspec
   refine Jtx [0] (x := failV p e) huA (by decide) (by rfl) (by rfl) (by rfl) (by rfl) (by rfl) (by rfl) ?_
   (simp (maxSteps := 1000000) [])
   exact hR _ _ (Jt3r _ (failV p e) [ckB most s1] (by simp only [ckB, failV]; (exact wkA)) ⟨by rw [hspec]; rfl, by rw [hspec]⟩)
 ·(simp (maxSteps := 1000000) [hA, hB, hD])
  have eA : (useC s i.a (regZ m.a) at_).1 = s1 := by rw [hs1]; rfl
  have huA := (Jt5m A s most i.a m.a at_ (by omega) (by omega) q0)
  rw [eA] at huA
  rcases hrA : (useC s i.a (regZ m.a) at_).2 with _ | e
  ·rw [hrA] at huA
   rw [show useC s i.a (regZ m.a) at_ = (s1, none) from Prod.ext eA hrA, Jtnq] at hspec
   refine Jtv [0] (x := .tup []) huA (by decide) (by rfl) (by rfl) (by rfl) (by rfl) (by rfl) (by rfl) ?_
   (simp (maxSteps := 1000000) [hA, hB, hD])
   have hc := Jt5i A s1 most (by omega) (by omega)
   rw [← hs2] at hc hspec
   have hV := hd hD
   have ho : Over V L (defP s1.set i.d (regZ m.d)) := (r1).over.define hV.1 hV.2
   have hl := Nat.lt_of_le_of_lt ho.len h.few
   have hset : s2.set = s1.set := by rw [hs2]; rfl
   have hb := Jt5h A s2 most (defP s1.set i.d (regZ m.d)) at_ hl (by have := (r2).lg; omega)
   have hdf : Jt3o P p.transfer_Define [.d (pairsD s2.set), AI i.d, AI (regZ m.d)] [] fun o _ => o = .ret (.d (pairsD (defP s1.set i.d (regZ m.d)))) := by rw [hset]; exact Jto0 A S s1.set i.d (regZ m.d) (by omega) q1
   obtain ⟨dl, hdl⟩ : ∃ dl, dl = defP s1.set i.d (regZ m.d) := ⟨_, rfl⟩
   rw [← hdl] at hb hdf hspec
   obtain ⟨⟨s9, e9⟩, h9⟩ : ∃ r, r = Jt5a most s2 dl at_ := ⟨_, rfl⟩
   rw [← h9] at hb hspec
   refine Jtv [0] (x := .tup []) hc (by decide) (by rfl) (by rfl) (by rfl) (by rfl) (by rfl) (by rfl) ?_
   (simp (maxSteps := 1000000) [])
   (refine Jtt (Jtea A m.d) (by rfl) (by rfl) ?_)
   (simp (maxSteps := 1000000) [])
   (refine Jtt hdf (by rfl) (by rfl) ?_)
   (simp (maxSteps := 1000000) [])
   cases e9 with
   | none =>
    refine Jtv [0] (x := .tup []) hb (by decide) (by rfl) (by rfl) (by rfl) (by rfl) (by rfl) (by rfl) ?_
    (simp (maxSteps := 1000000) [])
    exact hR _ _ (Fin_wk (.tup []) (.tup []) [ckB most s9] rfl (by simp only [ckB]; (exact wkA)) ⟨by rw [hspec]; rfl, by rw [hspec]⟩)
   | some e =>
    refine Jtx [0] (x := failV p e) hb (by decide) (by rfl) (by rfl) (by rfl) (by rfl) (by rfl) (by rfl) ?_
    (simp (maxSteps := 1000000) [])
    exact hR _ _ (Jt3r _ (failV p e) [ckB most s9] (by simp only [ckB, failV]; (exact wkA)) ⟨by rw [hspec]; rfl, by rw [hspec]⟩)
  ·rw [hrA] at huA
   rw [show useC s i.a (regZ m.a) at_ = (s1, some e) from Prod.ext eA hrA, Jtnr] at hspec
   refine Jtx [0] (x := failV p e) huA (by decide) (by rfl) (by rfl) (by rfl) (by rfl) (by rfl) (by rfl) ?_
   (simp (maxSteps := 1000000) [])
   exact hR _ _ (Jt3r _ (failV p e) [ckB most s1] (by simp only [ckB, failV]; (exact wkA)) ⟨by rw [hspec]; rfl, by rw [hspec]⟩)
 ·(simp (maxSteps := 1000000) [hA, hB, hD])
  have eA : (useC s i.a (regZ m.a) at_).1 = s1 := by rw [hs1]; rfl
  have huA := (Jt5m A s most i.a m.a at_ (by omega) (by omega) q0)
  rw [eA] at huA
  rcases hrA : (useC s i.a (regZ m.a) at_).2 with _ | e
  ·rw [hrA] at huA
   rw [show useC s i.a (regZ m.a) at_ = (s1, none) from Prod.ext eA hrA, Jtnq] at hspec
   refine Jtv [0] (x := .tup []) huA (by decide) (by rfl) (by rfl) (by rfl) (by rfl) (by rfl) (by rfl) ?_
   (simp (maxSteps := 1000000) [hA, hB, hD])
   have eB : (useC s1 i.b (regZ m.b) at_).1 = s2 := by rw [hs2]; rfl
   have huB := (Jt5m A s1 most i.b m.b at_ (by omega) (by omega) q1)
   rw [eB] at huB
   rcases hrB : (useC s1 i.b (regZ m.b) at_).2 with _ | e
   ·rw [hrB] at huB
    rw [show useC s1 i.b (regZ m.b) at_ = (s2, none) from Prod.ext eB hrB, Jtnq] at hspec
    refine Jtv [0] (x := .tup []) huB (by decide) (by rfl) (by rfl) (by rfl) (by rfl) (by rfl) (by rfl) ?_
    (simp (maxSteps := 1000000) [hA, hB, hD])
    exact hR _ _ (Fin_wk (.tup []) (.tup []) [ckB most s2] rfl (by simp only [ckB]; (exact wkA)) ⟨by rw [hspec]; rfl, by rw [hspec]⟩)
   ·rw [hrB] at huB
    rw [show useC s1 i.b (regZ m.b) at_ = (s2, some e) from Prod.ext eB hrB, Jtnr] at hspec
    refine Jtx [0] (x := failV p e) huB (by decide) (by rfl) (by rfl) (by rfl) (by rfl) (by rfl) (by rfl) ?_
    (simp (maxSteps := 1000000) [])
    exact hR _ _ (Jt3r _ (failV p e) [ckB most s2] (by simp only [ckB, failV]; (exact wkA)) ⟨by rw [hspec]; rfl, by rw [hspec]⟩)
  ·rw [hrA] at huA
   rw [show useC s i.a (regZ m.a) at_ = (s1, some e) from Prod.ext eA hrA, Jtnr] at hspec
   refine Jtx [0] (x := failV p e) huA (by decide) (by rfl) (by rfl) (by rfl) (by rfl) (by rfl) (by rfl) ?_
   (simp (maxSteps := 1000000) [])
   exact hR _ _ (Jt3r _ (failV p e) [ckB most s1] (by simp only [ckB, failV]; (exact wkA)) ⟨by rw [hspec]; rfl, by rw [hspec]⟩)
 ·(simp (maxSteps := 1000000) [hA, hB, hD])
  have eA : (useC s i.a (regZ m.a) at_).1 = s1 := by rw [hs1]; rfl
  have huA := (Jt5m A s most i.a m.a at_ (by omega) (by omega) q0)
  rw [eA] at huA
  rcases hrA : (useC s i.a (regZ m.a) at_).2 with _ | e
  ·rw [hrA] at huA
   rw [show useC s i.a (regZ m.a) at_ = (s1, none) from Prod.ext eA hrA, Jtnq] at hspec
   refine Jtv [0] (x := .tup []) huA (by decide) (by rfl) (by rfl) (by rfl) (by rfl) (by rfl) (by rfl) ?_
   (simp (maxSteps := 1000000) [hA, hB, hD])
   have eB : (useC s1 i.b (regZ m.b) at_).1 = s2 := by rw [hs2]; rfl
   have huB := (Jt5m A s1 most i.b m.b at_ (by omega) (by omega) q1)
   rw [eB] at huB
   rcases hrB : (useC s1 i.b (regZ m.b) at_).2 with _ | e
   ·rw [hrB] at huB
    rw [show useC s1 i.b (regZ m.b) at_ = (s2, none) from Prod.ext eB hrB, Jtnq] at hspec
    refine Jtv [0] (x := .tup []) huB (by decide) (by rfl) (by rfl) (by rfl) (by rfl) (by rfl) (by rfl) ?_
    (simp (maxSteps := 1000000) [hA, hB, hD])
    have hc := Jt5i A s2 most (by omega) (by omega)
    rw [← hs3] at hc hspec
    have hV := hd hD
    have ho : Over V L (defP s2.set i.d (regZ m.d)) := (r2).over.define hV.1 hV.2
    have hl := Nat.lt_of_le_of_lt ho.len h.few
    have hset : s3.set = s2.set := by rw [hs3]; rfl
    have hb := Jt5h A s3 most (defP s2.set i.d (regZ m.d)) at_ hl (by have := (g2).lg; omega)
    have hdf : Jt3o P p.transfer_Define [.d (pairsD s3.set), AI i.d, AI (regZ m.d)] [] fun o _ => o = .ret (.d (pairsD (defP s2.set i.d (regZ m.d)))) := by rw [hset]; exact Jto0 A S s2.set i.d (regZ m.d) (by omega) q2
    obtain ⟨dl, hdl⟩ : ∃ dl, dl = defP s2.set i.d (regZ m.d) := ⟨_, rfl⟩
    rw [← hdl] at hb hdf hspec
    obtain ⟨⟨s9, e9⟩, h9⟩ : ∃ r, r = Jt5a most s3 dl at_ := ⟨_, rfl⟩
    rw [← h9] at hb hspec
    refine Jtv [0] (x := .tup []) hc (by decide) (by rfl) (by rfl) (by rfl) (by rfl) (by rfl) (by rfl) ?_
    (simp (maxSteps := 1000000) [])
    (refine Jtt (Jtea A m.d) (by rfl) (by rfl) ?_)
    (simp (maxSteps := 1000000) [])
    (refine Jtt hdf (by rfl) (by rfl) ?_)
    (simp (maxSteps := 1000000) [])
    cases e9 with
    | none =>
     refine Jtv [0] (x := .tup []) hb (by decide) (by rfl) (by rfl) (by rfl) (by rfl) (by rfl) (by rfl) ?_
     (simp (maxSteps := 1000000) [])
     exact hR _ _ (Fin_wk (.tup []) (.tup []) [ckB most s9] rfl (by simp only [ckB]; (exact wkA)) ⟨by rw [hspec]; rfl, by rw [hspec]⟩)
    | some e =>
     refine Jtx [0] (x := failV p e) hb (by decide) (by rfl) (by rfl) (by rfl) (by rfl) (by rfl) (by rfl) ?_
     (simp (maxSteps := 1000000) [])
     exact hR _ _ (Jt3r _ (failV p e) [ckB most s9] (by simp only [ckB, failV]; (exact wkA)) ⟨by rw [hspec]; rfl, by rw [hspec]⟩)
   ·rw [hrB] at huB
    rw [show useC s1 i.b (regZ m.b) at_ = (s2, some e) from Prod.ext eB hrB, Jtnr] at hspec
    refine Jtx [0] (x := failV p e) huB (by decide) (by rfl) (by rfl) (by rfl) (by rfl) (by rfl) (by rfl) ?_
    (simp (maxSteps := 1000000) [])
    exact hR _ _ (Jt3r _ (failV p e) [ckB most s2] (by simp only [ckB, failV]; (exact wkA)) ⟨by rw [hspec]; rfl, by rw [hspec]⟩)
  ·rw [hrA] at huA
   rw [show useC s i.a (regZ m.a) at_ = (s1, some e) from Prod.ext eA hrA, Jtnr] at hspec
   refine Jtx [0] (x := failV p e) huA (by decide) (by rfl) (by rfl) (by rfl) (by rfl) (by rfl) (by rfl) ?_
   (simp (maxSteps := 1000000) [])
   exact hR _ _ (Jt3r _ (failV p e) [ckB most s1] (by simp only [ckB, failV]; (exact wkA)) ⟨by rw [hspec]; rfl, by rw [hspec]⟩)
end
structure ARow where (cf ct mf mt : Nat) (src mach : Int)
def ARow.row (r : ARow) : List D := [I r.cf, I r.ct, I r.mf, I r.mt, I r.src, I r.mach]
def ARow.av (r : ARow) : AV := .agg [AI r.cf, AI r.ct, AI r.mf, AI r.mt, AI r.src, AI r.mach]
def copyC (most at_ : Int) : List Instr → CS → CR
 | [], s => (s, none)
 | i :: is, s => thenC (Jt5a most (costC s) (copyP s.set i.d i.a) at_) (copyC most at_ is)
def moveC (most : Int) : Nat → List Mach → CS → CR
 | _, [], s => (s, none)
 | k, m :: ms, s => thenC (Jt5a most (costC s) (moveP s.set m.dst m.src) k) (moveC most (k + 1) ms)
def lastC (most : Int) (b : List Instr) (m : List Mach) (r : ARow) (s : CS) : CR :=
 if 0 ≤ r.src then match b[r.src.toNat]?, m[r.mach.toNat]? with
  | some i, some x => instrC most s i x r.mach
  | _, _ => (s, none)
 else (s, none)
def rowC (most : Int) (b : List Instr) (m : List Mach) (r : ARow) (s : CS) : CR :=
 thenC (copyC most r.mf ((b.take r.ct).drop r.cf) s) fun s => thenC (moveC most r.mf ((m.take r.mt).drop r.mf) s) (lastC most b m r)
structure RowOk (b : List Instr) (m : List Mach) (r : ARow) : Prop where
 hc : r.cf ≤ r.ct ∧ r.ct ≤ b.length
 hm : r.mf ≤ r.mt ∧ r.mt ≤ m.length
 hs : 0 ≤ r.src → r.src < b.length ∧ 0 ≤ r.mach ∧ r.mach < m.length
structure VLOk (V L : List Int) (b : List Instr) (m : List Mach) : Prop where
 v : ∀ i ∈ b, i.d ∈ V
 l : ∀ x ∈ m, x.dst ∈ L ∧ regZ x.d ∈ L
theorem Room.copyStep {V L : List Int} {s : CS} {n : Nat} (h : Room V L s (n + 1)) {d a : Int} (hd : d ∈ V) (most at_ : Int) : Room V L (Jt5a most (costC s) (copyP s.set d a) at_).1 n := h.cost.become (h.over.copy hd) _ _
theorem Room.moveStep {V L : List Int} {s : CS} {n : Nat} (h : Room V L s (n + 1)) {d a : Int} (hd : d ∈ L) (most at_ : Int) : Room V L (Jt5a most (costC s) (moveP s.set d a) at_).1 n := h.cost.become (h.over.move hd) _ _
theorem Jt73 {V L : List Int} {most at_ : Int} : ∀ {l : List Instr} {s : CS} {n : Nat}, Room V L s (n + l.length) → (∀ i ∈ l, i.d ∈ V) → Room V L (copyC most at_ l s).1 n := by
 intro l
 induction l with
 | nil => intro s n h _; exact h
 | cons i l ih =>
  intro s n h hv
  have h1 := Room.copyStep (n := n + l.length) (by simpa [Nat.add_assoc] using h) (hv i (by simp)) most at_ (a := i.a)
  simp only [copyC]
  generalize Jt5a most (costC s) (copyP s.set i.d i.a) at_ = r at h1
  obtain ⟨s1, e⟩ := r
  cases e with
  | some e => rw [Jtnr]; exact h1.mono (by omega)
  | none => rw [Jtnq]; exact ih h1 fun j hj => hv j (by simp [hj])
theorem Jtg2 {V L : List Int} {most : Int} : ∀ {l : List Mach} {k : Nat} {s : CS} {n : Nat}, Room V L s (n + l.length) → (∀ x ∈ l, x.dst ∈ L) → Room V L (moveC most k l s).1 n := by
 intro l
 induction l with
 | nil => intro k s n h _; exact h
 | cons i l ih =>
  intro k s n h hv
  have h1 := Room.moveStep (n := n + l.length) (by simpa [Nat.add_assoc] using h) (hv i (by simp)) most k (a := i.src)
  simp only [moveC]
  generalize Jt5a most (costC s) (moveP s.set i.dst i.src) k = r at h1
  obtain ⟨s1, e⟩ := r
  cases e with
  | some e => rw [Jtnr]; exact h1.mono (by omega)
  | none => rw [Jtnq]; exact ih h1 fun j hj => hv j (by simp [hj])
theorem Jtdn {V L : List Int} {most : Int} {b : List Instr} {m : List Mach} {r : ARow} {s : CS} {n : Nat} (h : Room V L s (n + 3)) (hv : VLOk V L b m) : Room V L (lastC most b m r s).1 n := by
 unfold lastC
 split
 ·split
  ·rename_i i x h1 h2
   exact Jtda h fun _ => ⟨hv.v i (List.mem_of_getElem? h1), (hv.l x (List.mem_of_getElem? h2)).2⟩
  ·exact h.mono (by omega)
 ·exact h.mono (by omega)
theorem Jtkm {V L : List Int} {most : Int} {b : List Instr} {m : List Mach} {r : ARow} {s : CS} {n : Nat} (h : Room V L s (n + 3 + ((m.take r.mt).drop r.mf).length + ((b.take r.ct).drop r.cf).length)) (hv : VLOk V L b m) : Room V L (rowC most b m r s).1 n := by
 unfold rowC
 have h1 := Jt73 (most := most) (at_ := r.mf) h fun i hi => hv.v i (List.mem_of_mem_take (List.mem_of_mem_drop hi))
 generalize copyC most r.mf ((b.take r.ct).drop r.cf) s = q at h1
 obtain ⟨s1, e⟩ := q
 cases e with
 | some e => rw [Jtnr]; exact h1.mono (by omega)
 | none =>
  rw [Jtnq]
  have h2 := Jtg2 (most := most) (k := r.mf) h1 fun i hi => (hv.l i (List.mem_of_mem_take (List.mem_of_mem_drop hi))).1
  generalize moveC most r.mf ((m.take r.mt).drop r.mf) s1 = q at h2
  obtain ⟨s2, e⟩ := q
  cases e with
  | some e => rw [Jtnr]; exact h2.mono (by omega)
  | none => rw [Jtnq]; exact Jtdn h2 hv
theorem Jtdf (i : Instr) : i.row.length = 5 := rfl
theorem Jtg4 (i : Mach) : i.row.length = 7 := rfl
theorem Jt7j {α : Type} {l : List α} {j : Nat} (h : j < l.length) : l.drop j = l[j] :: l.drop (j + 1) := List.drop_eq_getElem_cons h
section
theorem Jt5k {P : Program} {p : Nums} (A : All P p) (S : SortOk P p) (C : ClosOk P p) {V L : List Int} (s : CS) (most : Int) (b : Block) (m : MBlock) (r : ARow) {n1 n2 : Nat} (hn1 : n1 = r.ct - r.cf) (hn2 : n2 = r.mt - r.mf) (h : Room V L s (3 + n2 + n1)) (hv : VLOk V L b.code m.code) (hr : RowOk b.code m.code r)
  (hb0 : b.code.length < 1000000) (hm0 : m.code.length < 1000000) :
  Jt3o P p.blockcheck_checker_row [.ptr 0 0, b.av, m.av, r.av] [ckB most s] fun o H' => o = outR p (rowC most b.code m.code r s).2 ∧ H' = [ckB most (rowC most b.code m.code r s).1] := by
 refine A.blockcheck_checker_row.run rfl fun R hR => ?_
 obtain ⟨code, kind, ta, to, els⟩ := b
 obtain ⟨mcode, mkind, mta, mto, mels⟩ := m
 obtain ⟨cf, ct, mf, mt, src, mach⟩ := r
 obtain ⟨⟨hc1, hc2⟩, ⟨hm1, hm2⟩, hsr⟩ := hr
 simp only at hc1 hc2 hm1 hm2 hsr hn1 hn2 hb0 hm0 hv
 obtain ⟨sub, hsub⟩ : ∃ l, l = (code.take ct).drop cf := ⟨_, rfl⟩
 obtain ⟨msub, hmsub⟩ : ∃ l, l = (mcode.take mt).drop mf := ⟨_, rfl⟩
 have hsl : sub.length = n1 := by rw [hsub, hn1]; simp; omega
 have hml : msub.length = n2 := by rw [hmsub, hn2]; simp; omega
 have hsv : ∀ i ∈ sub, i.d ∈ V := fun i hi => hv.v i (by rw [hsub] at hi; exact List.mem_of_mem_take (List.mem_of_mem_drop hi))
 have hml' : ∀ x ∈ msub, x.dst ∈ L := fun x hx => (hv.l x (by rw [hmsub] at hx; exact List.mem_of_mem_take (List.mem_of_mem_drop hx))).1
 have hspec : rowC most code mcode ⟨cf, ct, mf, mt, src, mach⟩ s = thenC (copyC most mf sub s) fun s => thenC (moveC most mf msub s) (lastC most code mcode ⟨cf, ct, mf, mt, src, mach⟩) := by rw [hsub, hmsub]; rfl
 obtain ⟨bB, hbB⟩ : ∃ x, x = Blk.mem [.d (.sl (code.map Instr.row)), AI kind, AI ta, AI to, AI els] := ⟨_, rfl⟩
 have i1 : (cf : Int) ≤ (ct : Int) := by omega
 have i2 : (ct : Int) ≤ (code.length : Int) := by omega
 have hrows : ((code.map Instr.row).take ct).drop cf = sub.map Instr.row := by rw [hsub, List.map_drop, List.map_take]
 obtain ⟨T1, hT1⟩ : ∃ T, T = copyC most mf sub s := ⟨_, rfl⟩
 rw [← hT1] at hspec
 (simp (maxSteps := 1000000) [Jta9, Block.av, MBlock.av, ARow.av, i1, i2, hrows, Jtdf])
 refine Jt9 (fun x : Nat × CS => ⟨[(19, AI x.1), (18, AI sub.length), (17, .d (.sl (sub.map Instr.row))), (7, .ptr 3 0), (6, .ptr 2 0), (5, .ptr 1 0), (0, .ptr 0 0)],
  [ckB most x.2, .mem [.d (.sl (code.map Instr.row)), AI kind, AI ta, AI to, AI els], .mem [.d (.sl (mcode.map Mach.row)), AI mkind, AI mta, AI mto, AI mels], .mem [AI cf, AI ct, AI mf, AI mt, AI src, AI mach]]⟩)
  (fun x => x.1 ≤ sub.length ∧ copyC most mf (sub.drop x.1) x.2 = T1 ∧ Room V L x.2 (3 + n2 + (n1 - x.1))) (fun x => sub.length - x.1) (0, s) (by simp [hT1]; exact h) (by simp only [ckB]; (exact wkA)) ?_
 rintro ⟨j, t⟩ ⟨hj, hT, hR1⟩ N hN
 simp only at hj hT hR1
 (simp (maxSteps := 1000000) [])
 ((first | refine Xc (fun h2 => ?_) (fun h2 => ?_) | refine Xo (fun h2 => ?_) (fun h2 => ?_)) <;> (try simp only [Xz, Xy] at h2))
 ·have hjl : j < sub.length := by simpa using h2
  have hji : sub[j]? = some sub[j] := by simp [hjl]
  have hw := Jtoq (k := j) (by omega)
  rw [Jt7j hjl] at hT
  simp only [copyC] at hT
  obtain ⟨t1, ht1⟩ : ∃ t1, t1 = costC t := ⟨_, rfl⟩
  have hxv : sub[j].d ∈ V := hsv _ (List.getElem_mem hjl)
  rw [← ht1] at hT
  have e0 : n1 - j = (n1 - (j + 1)) + 1 := by omega
  rw [e0, ← Nat.add_assoc] at hR1
  have hR2 := hR1.copyStep hxv most mf (a := sub[j].a)
  have hl0 := hR1.len
  have hst := hR1.steps
  have hlg := hR1.lg
  have hcost := Jt5i A t most hl0 (by omega)
  have hol := Nat.lt_of_le_of_lt (hR1.over.copy hxv (a := sub[j].a)).len hR1.few
  have hset : t1.set = t.set := by rw [ht1]; rfl
  have hlg1 : t1.largest = t.largest := by rw [ht1]; rfl
  rw [← ht1] at hcost hR2
  have hcp : Jt3o P p.transfer_Copy [.d (pairsD t1.set), AI sub[j].d, AI sub[j].a] [] fun o _ => o = .ret (.d (pairsD (copyP t.set sub[j].d sub[j].a))) := by rw [hset]; exact Jtny A S C t.set sub[j].d sub[j].a hl0
  obtain ⟨cl, hcl⟩ : ∃ cl, cl = copyP t.set sub[j].d sub[j].a := ⟨_, rfl⟩
  rw [← hcl] at hT hR2 hcp hol
  have hbec := Jt5h A t1 most cl mf hol (by omega)
  obtain ⟨⟨t2, e2⟩, h2r⟩ : ∃ r, r = Jt5a most t1 cl mf := ⟨_, rfl⟩
  rw [← h2r] at hbec hT hR2
  (simp (maxSteps := 1000000) [h2, List.getElem?_map, hji, Instr.row, hw])
  refine Jtv [0] (x := .tup []) hcost (by decide) (by rfl) (by rfl) (by rfl) (by rfl) (by rfl) (by rfl) ?_
  (simp (maxSteps := 1000000) [ckB])
  (refine Jtt hcp (by rfl) (by rfl) ?_)
  (simp (maxSteps := 1000000) [])
  cases e2 with
  | none =>
   rw [Jtnq] at hT
   refine Jtv [0] (x := .tup []) hbec (by decide) (by rfl) (by rfl) (by rfl) (by rfl) (by rfl) (by rfl) ?_
   (simp (maxSteps := 1000000) [ckB, hw])
   exact hN _ (j + 1, t2) ⟨hjl, hT, hR2⟩ (by simp only [ckB]; (exact wkA)) (by simp only; omega)
  | some e =>
   rw [Jtnr] at hT
   refine Jtx [0] (x := failV p e) hbec (by decide) (by rfl) (by rfl) (by rfl) (by rfl) (by rfl) (by rfl) ?_
   (simp (maxSteps := 1000000) [ckB])
   rw [← hT, Jtnr] at hspec
   exact hR _ _ (Jt3r _ (failV p e) [ckB most t2] (by simp only [ckB, failV]; (exact wkA)) ⟨by rw [hspec]; rfl, by rw [hspec]⟩)
 ·have hjl : j = sub.length := by simp at h2; omega
  subst hjl
  have hT' : T1 = (t, none) := by rw [← hT, List.drop_length]; rfl
  rw [hT', Jtnq] at hspec
  have e0 : n1 - sub.length = 0 := by omega
  rw [e0, Nat.add_zero] at hR1
  obtain ⟨T2, hT2⟩ : ∃ T, T = moveC most mf msub t := ⟨_, rfl⟩
  rw [← hT2] at hspec
  (simp (maxSteps := 1000000) [])
  refine Jt9 (fun x : Nat × CS => ⟨[(10, AI x.1), (7, .ptr 3 0), (6, .ptr 2 0), (5, .ptr 1 0), (0, .ptr 0 0)],
   [ckB most x.2, .mem [.d (.sl (code.map Instr.row)), AI kind, AI ta, AI to, AI els], .mem [.d (.sl (mcode.map Mach.row)), AI mkind, AI mta, AI mto, AI mels], .mem [AI cf, AI ct, AI mf, AI mt, AI src, AI mach]]⟩)
   (fun x => mf ≤ x.1 ∧ x.1 ≤ mt ∧ moveC most x.1 (msub.drop (x.1 - mf)) x.2 = T2 ∧ Room V L x.2 (3 + (mt - x.1))) (fun x => mt - x.1) (mf, t) (by simp [hT2]; exact ⟨hm1, by rw [← hn2]; exact hR1⟩) (by simp only [ckB]; (exact wkA)) ?_
  rintro ⟨k, u⟩ ⟨hk0, hk1, hTm, hR2⟩ N hN
  simp only at hk0 hk1 hTm hR2
  (simp (maxSteps := 1000000) [])
  ((first | refine Xc (fun h3 => ?_) (fun h3 => ?_) | refine Xo (fun h3 => ?_) (fun h3 => ?_)) <;> (try simp only [Xz, Xy] at h3))
  ·have hkl : k < mt := by simpa using h3
   have hkm : k < mcode.length := by omega
   have hjl : k - mf < msub.length := by omega
   have hmj : msub[k - mf] = mcode[k] := by simp [hmsub]; congr 1; omega
   have hw := Jtoq (k := k) (by omega)
   have hmi : mcode[k]? = some mcode[k] := by simp [hkm]
   rw [Jt7j hjl, hmj] at hTm
   simp only [moveC] at hTm
   have e1 : k - mf + 1 = k + 1 - mf := by omega
   rw [e1] at hTm
   obtain ⟨t1, ht1⟩ : ∃ t1, t1 = costC u := ⟨_, rfl⟩
   have hxv : mcode[k].dst ∈ L := (hv.l _ (List.getElem_mem hkm)).1
   rw [← ht1] at hTm
   have e0 : mt - k = (mt - (k + 1)) + 1 := by omega
   rw [e0, ← Nat.add_assoc] at hR2
   have hR3 := hR2.moveStep hxv most k (a := mcode[k].src)
   have hl0 := hR2.len
   have hst := hR2.steps
   have hlg := hR2.lg
   have hcost := Jt5i A u most hl0 (by omega)
   have hol := Nat.lt_of_le_of_lt (hR2.over.move hxv (a := mcode[k].src)).len hR2.few
   have hset : t1.set = u.set := by rw [ht1]; rfl
   have hlg1 : t1.largest = u.largest := by rw [ht1]; rfl
   rw [← ht1] at hcost hR3
   have hcp : Jt3o P p.transfer_Move [.d (pairsD t1.set), AI mcode[k].dst, AI mcode[k].src] [] fun o _ => o = .ret (.d (pairsD (moveP u.set mcode[k].dst mcode[k].src))) := by rw [hset]; exact Jto2 A S C u.set mcode[k].dst mcode[k].src hl0
   obtain ⟨cl, hcl⟩ : ∃ cl, cl = moveP u.set mcode[k].dst mcode[k].src := ⟨_, rfl⟩
   rw [← hcl] at hTm hR3 hcp hol
   have hbec := Jt5h A t1 most cl k hol (by omega)
   obtain ⟨⟨t2, e2⟩, h2r⟩ : ∃ r, r = Jt5a most t1 cl k := ⟨_, rfl⟩
   rw [← h2r] at hbec hTm hR3
   (simp (maxSteps := 1000000) [h3, List.getElem?_map, hmi, Mach.row, hw])
   refine Jtv [0] (x := .tup []) hcost (by decide) (by rfl) (by rfl) (by rfl) (by rfl) (by rfl) (by rfl) ?_
   (simp (maxSteps := 1000000) [ckB, List.getElem?_map, hmi, Mach.row])
   (refine Jtt hcp (by rfl) (by rfl) ?_)
   (simp (maxSteps := 1000000) [])
   cases e2 with
   | none =>
    rw [Jtnq] at hTm
    refine Jtv [0] (x := .tup []) hbec (by decide) (by rfl) (by rfl) (by rfl) (by rfl) (by rfl) (by rfl) ?_
    (simp (maxSteps := 1000000) [ckB, hw])
    exact hN _ (k + 1, t2) ⟨by simp only; omega, hkl, hTm, hR3⟩ (by simp only [ckB]; (exact wkA)) (by simp only; omega)
   | some e =>
    rw [Jtnr] at hTm
    refine Jtx [0] (x := failV p e) hbec (by decide) (by rfl) (by rfl) (by rfl) (by rfl) (by rfl) (by rfl) ?_
    (simp (maxSteps := 1000000) [ckB])
    rw [← hTm, Jtnr] at hspec
    exact hR _ _ (Jt3r _ (failV p e) [ckB most t2] (by simp only [ckB, failV]; (exact wkA)) ⟨by rw [hspec]; rfl, by rw [hspec]⟩)
  ·have hkl : k = mt := by simp at h3; omega
   subst hkl
   have hT'' : T2 = (u, none) := by rw [← hTm, List.drop_eq_nil_of_le (by omega)]; rfl
   rw [hT'', Jtnq] at hspec
   rw [Nat.sub_self, Nat.add_zero] at hR2
   (simp (maxSteps := 1000000) [])
   ((first | refine Xc (fun h4 => ?_) (fun h4 => ?_) | refine Xo (fun h4 => ?_) (fun h4 => ?_)) <;> (try simp only [Xz, Xy] at h4))
   ·obtain ⟨h5, h6, h7⟩ := hsr h4
    have hi1 : src.toNat < code.length := by omega
    have hi2 : mach.toNat < mcode.length := by omega
    have hci : code[src.toNat]? = some code[src.toNat] := by simp [hi1]
    have hmi : mcode[mach.toNat]? = some mcode[mach.toNat] := by simp [hi2]
    have hl : lastC most code mcode ⟨cf, ct, mf, k, src, mach⟩ u = instrC most u code[src.toNat] mcode[mach.toNat] mach := by
     simp only [lastC, h4, if_true, hci, hmi]
    rw [hl] at hspec
    have hins := Jt5j A S u most code[src.toNat] mcode[mach.toNat] mach hR2 (fun _ => ⟨hv.v _ (List.getElem_mem hi1), (hv.l _ (List.getElem_mem hi2)).2⟩)
    obtain ⟨⟨t2, e2⟩, h2r⟩ : ∃ r, r = instrC most u code[src.toNat] mcode[mach.toNat] mach := ⟨_, rfl⟩
    rw [← h2r] at hins hspec
    (simp (maxSteps := 1000000) [h4, h6, List.getElem?_map, hci, hmi, Instr.row, Mach.row])
    cases e2 with
    | none =>
     refine Jtv [0] (x := .tup []) hins (by decide) (by rfl) (by rfl) (by rfl) (by rfl) (by rfl) (by rfl) ?_
     (simp (maxSteps := 1000000) [ckB])
     exact hR _ _ (Fin_wk (.tup []) (.tup []) [ckB most t2] rfl (by simp only [ckB]; (exact wkA)) ⟨by rw [hspec]; rfl, by rw [hspec]⟩)
    | some e =>
     refine Jtx [0] (x := failV p e) hins (by decide) (by rfl) (by rfl) (by rfl) (by rfl) (by rfl) (by rfl) ?_
     (simp (maxSteps := 1000000) [ckB])
     exact hR _ _ (Jt3r _ (failV p e) [ckB most t2] (by simp only [ckB, failV]; (exact wkA)) ⟨by rw [hspec]; rfl, by rw [hspec]⟩)
   ·have hl : lastC most code mcode ⟨cf, ct, mf, k, src, mach⟩ u = (u, none) := by
     unfold lastC; rw [if_neg h4]
    rw [hl] at hspec
    (simp (maxSteps := 1000000) [h4])
    exact hR _ _ (Fin_wk (.tup []) (.tup []) [ckB most u] rfl (by simp only [ckB]; (exact wkA)) ⟨by rw [hspec]; rfl, by rw [hspec]⟩)
end
end Go.AE
