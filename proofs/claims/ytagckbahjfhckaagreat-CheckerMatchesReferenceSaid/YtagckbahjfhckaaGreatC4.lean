/- A part of the proof: the evaluator over abstract values, its codes, the contracts of the functions. -/
import Derived.Test.YtagckbahjfhckaaGreatC3
import Derived.Sort.Grow
import Derived.Deep.Draws
import Derived.Shelf.SlSortCmp.NoneTotal
import Derived.Lib.ItoaNum
set_option linter.unusedVariables false
set_option linter.unusedSimpArgs false
set_option maxRecDepth 100000
namespace Go.AE
def Jqva (p : Nums) : IC := (.region (Jqvm p) [])
@[simp] theorem Jeva {p : Nums} : EqI (Jqva p) (.region (Jqvm p) []) := eqi
@[simp] def Jqvn (p : Nums) : List IOp := [qp 16 (.mov (.t 0)), qp 17 (.mov (.t 3)), qp 18 (.iaddr 2 (.t 16) (.t 17)), qp 19 (.load (some 2) (.t 18)), qp 20 (.mov (.t 0)), qp 21 (.mov (.t 3)), qp 22 (.bin .sub (.t 21) (ci 1)), qp 23 (.iaddr 2 (.t 20) (.t 22)), qp 24 (.load (some 2) (.t 23)), qo 25 (.eqs false [.int, .int] (.t 19) (.t 24))]
def Jqvb (p : Nums) : IC := (.region (Jqvn p) [])
@[simp] theorem Jevb {p : Nums} : EqI (Jqvb p) (.region (Jqvn p) []) := eqi
@[simp] def Jqvo (p : Nums) : List IOp := [qo 26 (.mov (.t 0)), qo 27 (.mov (.t 3)), qo 28 (.slc 2 (.t 26) (some (.t 27)) none), qo 4 (.asg (.t 28))]
def Jqvc (p : Nums) : IC := (.region (Jqvo p) [])
@[simp] theorem Jevc {p : Nums} : EqI (Jqvc p) (.region (Jqvo p) []) := eqi
@[simp] def Jqvp (p : Nums) : List IOp := [qo 29 (.mov (.t 5)), qo 30 (.mov (.t 4)), qo 31 (.len (.t 30)), qo 32 (.bin .lss (.t 29) (.t 31))]
def Jqvd (p : Nums) : IC := (.region (Jqvp p) [])
@[simp] theorem Jevd {p : Nums} : EqI (Jqvd p) (.region (Jqvp p) []) := eqi
@[simp] def Jqvq (p : Nums) : List IOp := [qp 35 (.mov (.t 4)), qp 36 (.mov (.t 5)), qp 37 (.iaddr 2 (.t 35) (.t 36)), qp 38 (.load (some 2) (.t 37)), qp 39 (.mov (.t 4)), qp 40 (.mov (.t 5)), qp 41 (.bin .sub (.t 40) (ci 1)), qp 42 (.iaddr 2 (.t 39) (.t 41)), qp 43 (.load (some 2) (.t 42)), qo 44 (.eqs true [.int, .int] (.t 38) (.t 43))]
def Jqve (p : Nums) : IC := (.region (Jqvq p) [])
@[simp] theorem Jeve {p : Nums} : EqI (Jqve p) (.region (Jqvq p) []) := eqi
@[simp] def Jqvr (p : Nums) : List IOp := [qo 45 (.mov (.t 0)), qo 46 (.mov (.t 3)), qo 47 (.mov (.t 4)), qo 48 (.mov (.t 5)), qo 49 (.iaddr 2 (.t 47) (.t 48)), qo 50 (.load (some 2) (.t 49)), qo 51 (.iaddr 2 (.t 45) (.t 46)), qn (.store 2 (.t 51) (.t 50))]
def Jqvf (p : Nums) : IC := (.region (Jqvr p) [])
@[simp] theorem Jevf {p : Nums} : EqI (Jqvf p) (.region (Jqvr p) []) := eqi
@[simp] def Jqvs (p : Nums) : List IOp := [qo 52 (.mov (.t 3)), qo 53 (.bin .add (.t 52) (ci 1)), qo 3 (.asg (.t 53))]
def Jqvg (p : Nums) : IC := (.region (Jqvs p) [])
@[simp] theorem Jevg {p : Nums} : EqI (Jqvg p) (.region (Jqvs p) []) := eqi
def Jqv0 (p : Nums) : IC := (.seq (Jqve p) (.cond (.t 44) (.seq (Jqvf p) (Jqvg p)) .skip))
@[simp] theorem Jev0 {p : Nums} : EqI (Jqv0 p) (.seq (Jqve p) (.cond (.t 44) (.seq (Jqvf p) (Jqvg p)) .skip)) := eqi
@[simp] def Jqvi (p : Nums) : List IOp := [qo 33 (.mov (.t 5)), qo 34 (.bin .add (.t 33) (ci 1)), qo 5 (.asg (.t 34))]
def Jqv1 (p : Nums) : IC := (.region (Jqvi p) [])
@[simp] theorem Jev1 {p : Nums} : EqI (Jqv1 p) (.region (Jqvi p) []) := eqi
def Jqv2 (p : Nums) : IC := (.seq (.seq (Jqvd p) (.cond (.t 32) .skip (.exit 2))) (.seq (.block 3 (Jqv0 p)) (Jqv1 p)))
@[simp] theorem Jev2 {p : Nums} : EqI (Jqv2 p) (.seq (.seq (Jqvd p) (.cond (.t 32) .skip (.exit 2))) (.seq (.block 3 (Jqv0 p)) (Jqv1 p))) := eqi
@[simp] def Jqvj (p : Nums) : List IOp := [qo 54 (.mov (.t 0)), qo 55 (.mov (.t 3)), qo 56 (.slc 2 (.t 54) (some (.t 55)) none), qn (.clr 2 [(.int .i64 0), (.int .i64 0)] (.t 56))]
def Jqv3 (p : Nums) : IC := (.region (Jqvj p) [])
@[simp] theorem Jev3 {p : Nums} : EqI (Jqv3 p) (.region (Jqvj p) []) := eqi
@[simp] def Jqvk (p : Nums) : List IOp := [qo 57 (.mov (.t 0)), qo 58 (.mov (.t 3)), qo 59 (.slc 2 (.t 57) none (some (.t 58))), qo 2 (.asg (.t 59))]
def Jqv4 (p : Nums) : IC := (.region (Jqvk p) [])
@[simp] theorem Jev4 {p : Nums} : EqI (Jqv4 p) (.region (Jqvk p) []) := eqi
def Jqv5 (p : Nums) : IC := (.seq (Jqvc p) (.seq (.seq (.region [⟨(some 5), (.asg (.c (.d (.int .i64 1)))), none, false⟩] []) (.block 2 (.loop (Jqv2 p)))) (.seq (Jqv3 p) (.seq (Jqv4 p) .ret))))
@[simp] theorem Jev5 {p : Nums} : EqI (Jqv5 p) (.seq (Jqvc p) (.seq (.seq (.region [⟨(some 5), (.asg (.c (.d (.int .i64 1)))), none, false⟩] []) (.block 2 (.loop (Jqv2 p)))) (.seq (Jqv3 p) (.seq (Jqv4 p) .ret)))) := eqi
def Jqv6 (p : Nums) : IC := (.seq (Jqvb p) (.cond (.t 25) (Jqv5 p) .skip))
@[simp] theorem Jev6 {p : Nums} : EqI (Jqv6 p) (.seq (Jqvb p) (.cond (.t 25) (Jqv5 p) .skip)) := eqi
@[simp] def Jqvl (p : Nums) : List IOp := [qo 14 (.mov (.t 3)), qo 15 (.bin .add (.t 14) (ci 1)), qo 3 (.asg (.t 15))]
def Jqv7 (p : Nums) : IC := (.region (Jqvl p) [])
@[simp] theorem Jev7 {p : Nums} : EqI (Jqv7 p) (.region (Jqvl p) []) := eqi
def Jqv8 (p : Nums) : IC := (.seq (.seq (Jqva p) (.cond (.t 13) .skip (.exit 0))) (.seq (.block 1 (Jqv6 p)) (Jqv7 p)))
@[simp] theorem Jev8 {p : Nums} : EqI (Jqv8 p) (.seq (.seq (Jqva p) (.cond (.t 13) .skip (.exit 0))) (.seq (.block 1 (Jqv6 p)) (Jqv7 p))) := eqi
def Jtci (p : Nums) : IC := (.seq (.region [⟨(some 2), (.asg (.c .nils)), none, false⟩] []) (.seq (.seq (Jquz p) (.cond (.t 8) (Jqv9 p) .skip)) (.seq (.seq (.region [⟨(some 3), (.asg (.c (.d (.int .i64 1)))), none, false⟩] []) (.block 0 (.loop (Jqv8 p)))) (.seq (.region [⟨(some 60), (.mov (.t 0)), none, false⟩, ⟨(some 2), (.asg (.t 60)), none, false⟩] []) .ret))))
@[simp] def Jq2p (p : Nums) : List IOp := [qo 11 (.faddr 0 (.t 5)), qo 12 (.load none (.t 11)), qo 13 (.faddr 0 (.t 7)), qo 14 (.load none (.t 13)), qo 15 (.faddr 1 (.t 7)), qo 16 (.load none (.t 15)), qo 17 (.slc 5 (.t 12) (some (.t 14)) (some (.t 16))), qo 18 (.len (.t 17)), qo 19 (.mov (ci 0))]
def Jq2c (p : Nums) : IC := (.region (Jq2p p) [])
@[simp] theorem Je2c {p : Nums} : EqI (Jq2c p) (.region (Jq2p p) []) := eqi
@[simp] def Jq2t (p : Nums) : List IOp := [qo 21 (.iaddr 5 (.t 17) (.t 19)), qo 22 (.load (some 5) (.t 21)), qo 9 (.alloc [(zi 0), (zi 0), (zi 0), (zi 0), (zi 0)]), qn (.store 5 (.t 9) (.t 22))]
def Jq2h (p : Nums) : IC := (.region (Jq2t p) [])
@[simp] theorem Je2h {p : Nums} : EqI (Jq2h p) (.region (Jq2t p) []) := eqi
@[simp] def Jq2u (p : Nums) : List IOp := [qp 25 (.mov (.t 0)), qp 26 (.mov (.t 0)), qp 27 (.nilck (.t 26)), qp 28 (.faddr 0 (.t 27)), qp 29 (.load none (.t 28)), qp 30 (.faddr 1 (.t 9)), qp 31 (.load none (.t 30)), qp 32 (.faddr 2 (.t 9)), qp 33 (.load none (.t 32)), qp 34 (.call p.transfer_Copy [(.t 29), (.t 31), (.t 33)]), qp 35 (.faddr 2 (.t 7)), qp 36 (.load none (.t 35)), qo 37 (.call p.blockcheck_checker_become [(.t 25), (.t 34), (.t 36)])]
def Jq2i (p : Nums) : IC := (.region (Jq2u p) [])
@[simp] theorem Je2i {p : Nums} : EqI (Jq2i p) (.region (Jq2u p) []) := eqi
def Jq2j (p : Nums) : IC := (.seq (Jq2h p) (.seq (.region [⟨(some 23), (.mov (.t 0)), none, false⟩, ⟨(some 24), (.call p.blockcheck_checker_cost [(.t 23)]), none, false⟩] []) (Jq2i p)))
@[simp] theorem Je2j {p : Nums} : EqI (Jq2j p) (.seq (Jq2h p) (.seq (.region [⟨(some 23), (.mov (.t 0)), none, false⟩, ⟨(some 24), (.call p.blockcheck_checker_cost [(.t 23)]), none, false⟩] []) (Jq2i p))) := eqi
def Jq2k (p : Nums) : IC := (.seq (.region [⟨(some 20), (.bin .lss (.t 19) (.t 18)), none, false⟩] []) (.seq (.cond (.t 20) .skip (.exit 0)) (.seq (.block 1 (Jq2j p)) (.region [⟨(some 38), (.bin .add (.t 19) (.c (.d (.int .i64 1)))), none, false⟩, ⟨(some 19), (.mov (.t 38)), none, false⟩] []))))
@[simp] theorem Je2k {p : Nums} : EqI (Jq2k p) (.seq (.region [⟨(some 20), (.bin .lss (.t 19) (.t 18)), none, false⟩] []) (.seq (.cond (.t 20) .skip (.exit 0)) (.seq (.block 1 (Jq2j p)) (.region [⟨(some 38), (.bin .add (.t 19) (.c (.d (.int .i64 1)))), none, false⟩, ⟨(some 19), (.mov (.t 38)), none, false⟩] [])))) := eqi
@[simp] def Jq2v (p : Nums) : List IOp := [qo 39 (.faddr 2 (.t 7)), qo 40 (.load none (.t 39)), qo 10 (.asg (.t 40))]
def Jq2l (p : Nums) : IC := (.region (Jq2v p) [])
@[simp] theorem Je2l {p : Nums} : EqI (Jq2l p) (.region (Jq2v p) []) := eqi
@[simp] def Jq2w (p : Nums) : List IOp := [qo 41 (.mov (.t 10)), qo 42 (.faddr 3 (.t 7)), qo 43 (.load none (.t 42)), qo 44 (.bin .lss (.t 41) (.t 43))]
def Jq2m (p : Nums) : IC := (.region (Jq2w p) [])
@[simp] theorem Je2m {p : Nums} : EqI (Jq2m p) (.region (Jq2w p) []) := eqi
@[simp] def Jq2x (p : Nums) : List IOp := [qp 49 (.mov (.t 0)), qp 50 (.mov (.t 0)), qp 51 (.nilck (.t 50)), qp 52 (.faddr 0 (.t 51)), qp 53 (.load none (.t 52)), qp 54 (.faddr 0 (.t 6)), qp 55 (.load none (.t 54)), qp 56 (.mov (.t 10)), qp 57 (.iaddr 7 (.t 55) (.t 56)), qp 58 (.faddr 5 (.t 57)), qp 59 (.load none (.t 58)), qp 60 (.faddr 0 (.t 6)), qp 61 (.load none (.t 60)), qp 62 (.mov (.t 10)), qp 63 (.iaddr 7 (.t 61) (.t 62)), qp 64 (.faddr 6 (.t 63)), qp 65 (.load none (.t 64)), qp 66 (.call p.transfer_Move [(.t 53), (.t 59), (.t 65)]), qp 67 (.mov (.t 10)), qo 68 (.call p.blockcheck_checker_become [(.t 49), (.t 66), (.t 67)])]
def Jq2n (p : Nums) : IC := (.region (Jq2x p) [])
@[simp] theorem Je2n {p : Nums} : EqI (Jq2n p) (.region (Jq2x p) []) := eqi
def Jq2o (p : Nums) : IC := (.seq (.region [⟨(some 47), (.mov (.t 0)), none, false⟩, ⟨(some 48), (.call p.blockcheck_checker_cost [(.t 47)]), none, false⟩] []) (Jq2n p))
@[simp] theorem Je2o {p : Nums} : EqI (Jq2o p) (.seq (.region [⟨(some 47), (.mov (.t 0)), none, false⟩, ⟨(some 48), (.call p.blockcheck_checker_cost [(.t 47)]), none, false⟩] []) (Jq2n p)) := eqi
@[simp] def Jq2q (p : Nums) : List IOp := [qo 45 (.mov (.t 10)), qo 46 (.bin .add (.t 45) (ci 1)), qo 10 (.asg (.t 46))]
def Jq2d (p : Nums) : IC := (.region (Jq2q p) [])
@[simp] theorem Je2d {p : Nums} : EqI (Jq2d p) (.region (Jq2q p) []) := eqi
def Jq2e (p : Nums) : IC := (.seq (.seq (Jq2m p) (.cond (.t 44) .skip (.exit 2))) (.seq (.block 3 (Jq2o p)) (Jq2d p)))
@[simp] theorem Je2e {p : Nums} : EqI (Jq2e p) (.seq (.seq (Jq2m p) (.cond (.t 44) .skip (.exit 2))) (.seq (.block 3 (Jq2o p)) (Jq2d p))) := eqi
@[simp] def Jq2r (p : Nums) : List IOp := [qo 69 (.faddr 4 (.t 7)), qo 70 (.load none (.t 69)), qo 71 (.bin .geq (.t 70) (ci 0))]
def Jq2f (p : Nums) : IC := (.region (Jq2r p) [])
@[simp] theorem Je2f {p : Nums} : EqI (Jq2f p) (.region (Jq2r p) []) := eqi
@[simp] def Jq2s (p : Nums) : List IOp := [qp 72 (.mov (.t 0)), qp 73 (.faddr 0 (.t 5)), qp 74 (.load none (.t 73)), qp 75 (.faddr 4 (.t 7)), qp 76 (.load none (.t 75)), qp 77 (.iaddr 5 (.t 74) (.t 76)), qp 78 (.load (some 5) (.t 77)), qp 79 (.faddr 0 (.t 6)), qp 80 (.load none (.t 79)), qp 81 (.faddr 5 (.t 7)), qp 82 (.load none (.t 81)), qp 83 (.iaddr 7 (.t 80) (.t 82)), qp 84 (.load (some 7) (.t 83)), qp 85 (.faddr 5 (.t 7)), qp 86 (.load none (.t 85)), qo 87 (.call p.blockcheck_checker_instr [(.t 72), (.t 78), (.t 84), (.t 86)])]
def Jq2g (p : Nums) : IC := (.region (Jq2s p) [])
@[simp] theorem Je2g {p : Nums} : EqI (Jq2g p) (.region (Jq2s p) []) := eqi
def Jta3 (p : Nums) : IC := (.seq (.region [⟨(some 5), (.box (.t 1)), none, false⟩, ⟨(some 6), (.box (.t 2)), none, false⟩, ⟨(some 7), (.box (.t 3)), none, false⟩] []) (.seq (.seq (Jq2c p) (.block 0 (.loop (Jq2k p)))) (.seq (.seq (Jq2l p) (.block 2 (.loop (Jq2e p)))) (.seq (Jq2f p) (.cond (.t 71) (Jq2g p) .skip)))))
@[simp] def Jq3n (p : Nums) : List IOp := [qp 10 (.mov (.t 0)), qp 11 (.nilck (.t 10)), qp 12 (.faddr 0 (.t 11)), qp 13 (.load none (.t 12)), qp 14 (.mov (.t 1)), qp 15 (.mov (.t 2)), qp 16 (.call p.location_Reg [(.t 15)]), qp 17 (.build [(zi 0), (zi 0)] [(0, 1, (.t 14)), (1, 1, (.t 16))]), qo 18 (.call p.pairset_Has [(.t 13), (.t 17)]), qo 19 (.un .not (.t 18))]
def Jq3l (p : Nums) : IC := (.region (Jq3n p) [])
@[simp] theorem Je3l {p : Nums} : EqI (Jq3l p) (.region (Jq3n p) []) := eqi
@[simp] def Jq3o (p : Nums) : List IOp := [qo 20 (.mov (.t 3)), qo 21 (.build [(zi 0), (zi 0)] [(0, 1, (ci 21)), (1, 1, (.t 20))]), qo 22 (.mkif p.ty_bcfail (.t 21)), qn (.pan (.t 22))]
def Jq3m (p : Nums) : IC := (.region (Jq3o p) [])
@[simp] theorem Je3m {p : Nums} : EqI (Jq3m p) (.region (Jq3o p) []) := eqi
def Jta7 (p : Nums) : IC := (.seq (.region [⟨(some 8), (.mov (.t 0)), none, false⟩, ⟨(some 9), (.call p.blockcheck_checker_cost [(.t 8)]), none, false⟩] []) (.seq (Jq3l p) (.cond (.t 19) (Jq3m p) .skip)))
@[simp] def Jqbb (p : Nums) : List IOp := [qo 2 (.alloc [(.d (.bool false)), (.d (.bool false)), (.d (.bool false)), (.d (.bool false))]), qo 3 (.asg (.c (.d (.bool false))))]
def Jqax (p : Nums) : IC := (.region (Jqbb p) [])
@[simp] theorem Jeax {p : Nums} : EqI (Jqax p) (.region (Jqbb p) []) := eqi
@[simp] def Jqbd (p : Nums) : List IOp := [qo 5 (.mov (.t 0)), qo 6 (.call p.opcode_known [(.t 5)]), qo 7 (.un .not (.t 6)), qo 4 (.asg (.t 7))]
def Jqb3 (p : Nums) : IC := (.region (Jqbd p) [])
@[simp] theorem Jeb3 {p : Nums} : EqI (Jqb3 p) (.region (Jqbd p) []) := eqi
@[simp] def Jqbe (p : Nums) : List IOp := [qo 8 (.build [(.d (.bool false)), (.d (.bool false)), (.d (.bool false)), (.d (.bool false))] []), qn (.store 4 (.t 2) (.t 8)), qo 3 (.asg (.c (.d (.bool false))))]
def Jqb4 (p : Nums) : IC := (.region (Jqbe p) [])
@[simp] theorem Jeb4 {p : Nums} : EqI (Jqb4 p) (.region (Jqbe p) []) := eqi
@[simp] def Jqbf (p : Nums) : List IOp := [qo 10 (.mov (.t 0)), qo 11 (.bin .eql (.t 10) (ci 1)), qo 9 (.asg (.t 11))]
def Jqb5 (p : Nums) : IC := (.region (Jqbf p) [])
@[simp] theorem Jeb5 {p : Nums} : EqI (Jqb5 p) (.region (Jqbf p) []) := eqi
@[simp] def Jqbg (p : Nums) : List IOp := [qo 12 (.build [(.d (.bool false)), (.d (.bool false)), (.d (.bool false)), (.d (.bool false))] [(0, 1, (.c (.d (.bool true)))), (3, 1, (.c (.d (.bool true))))]), qn (.store 4 (.t 2) (.t 12)), qo 3 (.asg (.c (.d (.bool true))))]
def Jqb6 (p : Nums) : IC := (.region (Jqbg p) [])
@[simp] theorem Jeb6 {p : Nums} : EqI (Jqb6 p) (.region (Jqbg p) []) := eqi
@[simp] def Jqbh (p : Nums) : List IOp := [qo 14 (.mov (.t 0)), qo 15 (.bin .leq (.t 14) (ci 4)), qo 13 (.asg (.t 15))]
def Jqb7 (p : Nums) : IC := (.region (Jqbh p) [])
@[simp] theorem Jeb7 {p : Nums} : EqI (Jqb7 p) (.region (Jqbh p) []) := eqi
@[simp] def Jqbi (p : Nums) : List IOp := [qo 16 (.build [(.d (.bool false)), (.d (.bool false)), (.d (.bool false)), (.d (.bool false))] [(0, 1, (.c (.d (.bool true)))), (1, 1, (.c (.d (.bool true))))]), qn (.store 4 (.t 2) (.t 16)), qo 3 (.asg (.c (.d (.bool true))))]
def Jqb8 (p : Nums) : IC := (.region (Jqbi p) [])
@[simp] theorem Jeb8 {p : Nums} : EqI (Jqb8 p) (.region (Jqbi p) []) := eqi
@[simp] def Jqbj (p : Nums) : List IOp := [qo 18 (.mov (.t 0)), qo 19 (.bin .leq (.t 18) (ci 16)), qo 17 (.asg (.t 19))]
def Jqb9 (p : Nums) : IC := (.region (Jqbj p) [])
@[simp] theorem Jeb9 {p : Nums} : EqI (Jqb9 p) (.region (Jqbj p) []) := eqi
@[simp] def Jqbk (p : Nums) : List IOp := [qo 20 (.build [(.d (.bool false)), (.d (.bool false)), (.d (.bool false)), (.d (.bool false))] [(0, 1, (.c (.d (.bool true)))), (1, 1, (.c (.d (.bool true)))), (2, 1, (.c (.d (.bool true))))]), qn (.store 4 (.t 2) (.t 20)), qo 3 (.asg (.c (.d (.bool true))))]
def Jqba (p : Nums) : IC := (.region (Jqbk p) [])
@[simp] theorem Jeba {p : Nums} : EqI (Jqba p) (.region (Jqbk p) []) := eqi
def Jqay (p : Nums) : IC := (.seq (Jqb9 p) (.cond (.t 17) (.seq (Jqba p) .ret) .skip))
@[simp] theorem Jeay {p : Nums} : EqI (Jqay p) (.seq (Jqb9 p) (.cond (.t 17) (.seq (Jqba p) .ret) .skip)) := eqi
def Jqaz (p : Nums) : IC := (.seq (Jqb7 p) (.cond (.t 13) (.seq (Jqb8 p) .ret) (Jqay p)))
@[simp] theorem Jeaz {p : Nums} : EqI (Jqaz p) (.seq (Jqb7 p) (.cond (.t 13) (.seq (Jqb8 p) .ret) (Jqay p))) := eqi
def Jqb0 (p : Nums) : IC := (.seq (Jqb5 p) (.cond (.t 9) (.seq (Jqb6 p) .ret) (Jqaz p)))
@[simp] theorem Jeb0 {p : Nums} : EqI (Jqb0 p) (.seq (Jqb5 p) (.cond (.t 9) (.seq (Jqb6 p) .ret) (Jqaz p))) := eqi
def Jqb1 (p : Nums) : IC := (.seq (Jqb3 p) (.cond (.t 4) (.seq (Jqb4 p) .ret) (Jqb0 p)))
@[simp] theorem Jeb1 {p : Nums} : EqI (Jqb1 p) (.seq (Jqb3 p) (.cond (.t 4) (.seq (Jqb4 p) .ret) (Jqb0 p))) := eqi
@[simp] def Jqbc (p : Nums) : List IOp := [qo 21 (.mov (.t 0)), qo 22 (.bin .eql (.t 21) (ci 17)), qo 23 (.build [(.d (.bool false)), (.d (.bool false)), (.d (.bool false)), (.d (.bool false))] [(1, 1, (.t 22))]), qn (.store 4 (.t 2) (.t 23)), qo 3 (.asg (.c (.d (.bool true))))]
def Jqb2 (p : Nums) : IC := (.region (Jqbc p) [])
@[simp] theorem Jeb2 {p : Nums} : EqI (Jqb2 p) (.region (Jqbc p) []) := eqi
def Jtb0 (p : Nums) : IC := (.seq (Jqax p) (.seq (.block 0 (Jqb1 p)) (.seq (Jqb2 p) .ret)))
@[simp] def Jq8e (p : Nums) : List IOp := [qo 3 (.mov (.t 0)), qo 4 (.bin .mul (ci 2) (.t 3)), qo 2 (.asg (.t 4))]
def Jq8d (p : Nums) : IC := (.region (Jq8e p) [])
@[simp] theorem Je8d {p : Nums} : EqI (Jq8d p) (.region (Jq8e p) []) := eqi
def Jtan (p : Nums) : IC := (.seq (.region [⟨(some 2), (.asg (.c (.d (.int .i64 0)))), none, false⟩] []) (.seq (Jq8d p) .ret))
@[simp] def Jqbm (p : Nums) : List IOp := [qo 3 (.mov (.t 0)), qo 4 (.call p.opcode_known [(.t 3)]), qo 5 (.mov (.t 4)), ⟨(some 6), (.mov (.t 0)), (some (5, true)), false⟩, ⟨(some 7), (.bin .neq (.t 6) (ci 18)), (some (5, true)), false⟩, qo 8 (.pick (.t 5) (.t 7) (.c (.d (.bool false)))), qo 2 (.asg (.t 8))]
def Jqbl (p : Nums) : IC := (.region (Jqbm p) [])
@[simp] theorem Jebl {p : Nums} : EqI (Jqbl p) (.region (Jqbm p) []) := eqi
def Jtb1 (p : Nums) : IC := (.seq (.region [⟨(some 2), (.asg (.c (.d (.bool false)))), none, false⟩] []) (.seq (Jqbl p) .ret))
@[simp] def Jqyn (p : Nums) : List IOp := [qo 5 (.mov (.t 0)), qo 6 (.len (.t 5)), qo 7 (.mov (ci 0))]
def Jqyh (p : Nums) : IC := (.region (Jqyn p) [])
@[simp] theorem Jeyh {p : Nums} : EqI (Jqyh p) (.region (Jqyn p) []) := eqi
@[simp] def Jqyo (p : Nums) : List IOp := [qo 9 (.iaddr 3 (.t 5) (.t 7)), qo 10 (.load (some 3) (.t 9)), qo 4 (.alloc [(zi 0), (.d (.bool false)), (zi 0)]), qn (.store 3 (.t 4) (.t 10))]
def Jqyi (p : Nums) : IC := (.region (Jqyo p) [])
@[simp] theorem Jeyi {p : Nums} : EqI (Jqyi p) (.region (Jqyo p) []) := eqi
@[simp] def Jqyp (p : Nums) : List IOp := [qo 11 (.faddr 1 (.t 4)), qo 12 (.load none (.t 11)), qo 13 (.mov (.t 12)), ⟨(some 14), (.faddr 0 (.t 4)), (some (13, true)), false⟩, ⟨(some 15), (.load none (.t 14)), (some (13, true)), false⟩, ⟨(some 16), (.bin .lss (.t 15) (ci 0)), (some (13, true)), false⟩, ⟨(some 17), (.mov (.t 16)), (some (13, true)), false⟩, ⟨(some 18), (.faddr 0 (.t 4)), (some (17, false)), false⟩, ⟨(some 19), (.load none (.t 18)), (some (17, false)), false⟩, ⟨(some 20), (.faddr 2 (.t 4)), (some (17, false)), false⟩, ⟨(some 21), (.load none (.t 20)), (some (17, false)), false⟩, ⟨(some 22), (.bin .geq (.t 19) (.t 21)), (some (17, false)), false⟩, ⟨(some 23), (.pick (.t 17) (.c (.d (.bool true))) (.t 22)), (some (13, true)), false⟩, qo 24 (.pick (.t 13) (.t 23) (.c (.d (.bool false))))]
def Jqyj (p : Nums) : IC := (.region (Jqyp p) [])
@[simp] theorem Jeyj {p : Nums} : EqI (Jqyj p) (.region (Jqyp p) []) := eqi
def Jqyk (p : Nums) : IC := (.seq (.region [⟨(some 2), (.asg (.c (.d (.bool false)))), none, false⟩] []) .ret)
@[simp] theorem Jeyk {p : Nums} : EqI (Jqyk p) (.seq (.region [⟨(some 2), (.asg (.c (.d (.bool false)))), none, false⟩] []) .ret) := eqi
def Jqyl (p : Nums) : IC := (.seq (Jqyi p) (.seq (Jqyj p) (.cond (.t 24) (Jqyk p) .skip)))
@[simp] theorem Jeyl {p : Nums} : EqI (Jqyl p) (.seq (Jqyi p) (.seq (Jqyj p) (.cond (.t 24) (Jqyk p) .skip))) := eqi
def Jqym (p : Nums) : IC := (.seq (.region [⟨(some 8), (.bin .lss (.t 7) (.t 6)), none, false⟩] []) (.seq (.cond (.t 8) .skip (.exit 0)) (.seq (.block 1 (Jqyl p)) (.region [⟨(some 25), (.bin .add (.t 7) (.c (.d (.int .i64 1)))), none, false⟩, ⟨(some 7), (.mov (.t 25)), none, false⟩] []))))
@[simp] theorem Jeym {p : Nums} : EqI (Jqym p) (.seq (.region [⟨(some 8), (.bin .lss (.t 7) (.t 6)), none, false⟩] []) (.seq (.cond (.t 8) .skip (.exit 0)) (.seq (.block 1 (Jqyl p)) (.region [⟨(some 25), (.bin .add (.t 7) (.c (.d (.int .i64 1)))), none, false⟩, ⟨(some 7), (.mov (.t 25)), none, false⟩] [])))) := eqi
def Jtcq (p : Nums) : IC := (.seq (.region [⟨(some 2), (.asg (.c (.d (.bool false)))), none, false⟩] []) (.seq (.seq (Jqyh p) (.block 0 (.loop (Jqym p)))) (.seq (.region [⟨(some 2), (.asg (.c (.d (.bool true)))), none, false⟩] []) .ret)))
@[simp] def Jqy3 (p : Nums) : List IOp := [qo 5 (.mov (.t 0)), qo 6 (.len (.t 5)), qo 7 (.mov (ci 0))]
def Jqxx (p : Nums) : IC := (.region (Jqy3 p) [])
@[simp] theorem Jexx {p : Nums} : EqI (Jqxx p) (.region (Jqy3 p) []) := eqi
@[simp] def Jqy4 (p : Nums) : List IOp := [qo 9 (.iaddr 3 (.t 5) (.t 7)), qo 10 (.load (some 3) (.t 9)), qo 4 (.alloc [(zi 0), (.d (.bool false)), (zi 0)]), qn (.store 3 (.t 4) (.t 10))]
def Jqxy (p : Nums) : IC := (.region (Jqy4 p) [])
@[simp] theorem Jexy {p : Nums} : EqI (Jqxy p) (.region (Jqy4 p) []) := eqi
@[simp] def Jqy5 (p : Nums) : List IOp := [qo 11 (.faddr 1 (.t 4)), qo 12 (.load none (.t 11)), qo 13 (.un .not (.t 12)), qo 14 (.mov (.t 13)), ⟨(some 15), (.faddr 0 (.t 4)), (some (14, true)), false⟩, ⟨(some 16), (.load none (.t 15)), (some (14, true)), false⟩, ⟨(some 17), (.bin .neq (.t 16) (ci 0)), (some (14, true)), false⟩, qo 18 (.pick (.t 14) (.t 17) (.c (.d (.bool false))))]
def Jqxz (p : Nums) : IC := (.region (Jqy5 p) [])
@[simp] theorem Jexz {p : Nums} : EqI (Jqxz p) (.region (Jqy5 p) []) := eqi
def Jqy0 (p : Nums) : IC := (.seq (.region [⟨(some 2), (.asg (.c (.d (.bool false)))), none, false⟩] []) .ret)
@[simp] theorem Jey0 {p : Nums} : EqI (Jqy0 p) (.seq (.region [⟨(some 2), (.asg (.c (.d (.bool false)))), none, false⟩] []) .ret) := eqi
def Jqy1 (p : Nums) : IC := (.seq (Jqxy p) (.seq (Jqxz p) (.cond (.t 18) (Jqy0 p) .skip)))
@[simp] theorem Jey1 {p : Nums} : EqI (Jqy1 p) (.seq (Jqxy p) (.seq (Jqxz p) (.cond (.t 18) (Jqy0 p) .skip))) := eqi
def Jqy2 (p : Nums) : IC := (.seq (.region [⟨(some 8), (.bin .lss (.t 7) (.t 6)), none, false⟩] []) (.seq (.cond (.t 8) .skip (.exit 0)) (.seq (.block 1 (Jqy1 p)) (.region [⟨(some 19), (.bin .add (.t 7) (.c (.d (.int .i64 1)))), none, false⟩, ⟨(some 7), (.mov (.t 19)), none, false⟩] []))))
@[simp] theorem Jey2 {p : Nums} : EqI (Jqy2 p) (.seq (.region [⟨(some 8), (.bin .lss (.t 7) (.t 6)), none, false⟩] []) (.seq (.cond (.t 8) .skip (.exit 0)) (.seq (.block 1 (Jqy1 p)) (.region [⟨(some 19), (.bin .add (.t 7) (.c (.d (.int .i64 1)))), none, false⟩, ⟨(some 7), (.mov (.t 19)), none, false⟩] [])))) := eqi
def Jtco (p : Nums) : IC := (.seq (.region [⟨(some 2), (.asg (.c (.d (.bool false)))), none, false⟩] []) (.seq (.seq (Jqxx p) (.block 0 (.loop (Jqy2 p)))) (.seq (.region [⟨(some 2), (.asg (.c (.d (.bool true)))), none, false⟩] []) .ret)))
@[simp] def Jqaw (p : Nums) : List IOp := [qo 3 (.mov (.t 0)), qo 4 (.call p.opcode_known [(.t 3)]), qo 5 (.mov (.t 4)), ⟨(some 6), (.mov (.t 0)), (some (5, true)), false⟩, ⟨(some 7), (.bin .neq (.t 6) (ci 2)), (some (5, true)), false⟩, qo 8 (.pick (.t 5) (.t 7) (.c (.d (.bool false)))), qo 2 (.asg (.t 8))]
def Jqav (p : Nums) : IC := (.region (Jqaw p) [])
@[simp] theorem Jeav {p : Nums} : EqI (Jqav p) (.region (Jqaw p) []) := eqi
def Jtaz (p : Nums) : IC := (.seq (.region [⟨(some 2), (.asg (.c (.d (.bool false)))), none, false⟩] []) (.seq (Jqav p) .ret))
@[simp] def Jqau (p : Nums) : List IOp := [qo 1 (.build [.nilfn, .nilfn] [(0, 1, (.c (.fn (.func p.machine_others_1) [] []))), (1, 1, (.c (.fn (.func p.machine_others_2) [] [])))]), qn (.store 2 (.t 0) (.t 1))]
def Jqat (p : Nums) : IC := (.region (Jqau p) [])
@[simp] theorem Jeat {p : Nums} : EqI (Jqat p) (.region (Jqau p) []) := eqi
def Jtaw (p : Nums) : IC := (.seq (.region [⟨(some 0), (.alloc [.nilfn, .nilfn]), none, false⟩] []) (.seq (Jqat p) .ret))
@[simp] def Jqao (p : Nums) : List IOp := [qo 1 (.build [.nilfn, .nilfn] [(0, 1, (.c (.fn (.func p.machine_moves_1) [] []))), (1, 1, (.c (.fn (.func p.machine_moves_2) [] [])))]), qn (.store 2 (.t 0) (.t 1))]
def Jqan (p : Nums) : IC := (.region (Jqao p) [])
@[simp] theorem Jean {p : Nums} : EqI (Jqan p) (.region (Jqao p) []) := eqi
def Jtat (p : Nums) : IC := (.seq (.region [⟨(some 0), (.alloc [.nilfn, .nilfn]), none, false⟩] []) (.seq (Jqan p) .ret))
@[simp] def Jq8c (p : Nums) : List IOp := [qo 3 (.mov (.t 0)), qo 4 (.bin .rem (.t 3) (ci 2)), qo 5 (.bin .eql (.t 4) (ci 1)), qo 2 (.asg (.t 5))]
def Jq8b (p : Nums) : IC := (.region (Jq8c p) [])
@[simp] theorem Je8b {p : Nums} : EqI (Jq8b p) (.region (Jq8c p) []) := eqi
def Jtam (p : Nums) : IC := (.seq (.region [⟨(some 2), (.asg (.c (.d (.bool false)))), none, false⟩] []) (.seq (Jq8b p) .ret))
@[simp] def Jq8a (p : Nums) : List IOp := [qo 3 (.mov (.t 0)), qo 4 (.bin .quo (.t 3) (ci 2)), qo 2 (.asg (.t 4))]
def Jq89 (p : Nums) : IC := (.region (Jq8a p) [])
@[simp] theorem Je89 {p : Nums} : EqI (Jq89 p) (.region (Jq8a p) []) := eqi
def Jtal (p : Nums) : IC := (.seq (.region [⟨(some 2), (.asg (.c (.d (.int .i64 0)))), none, false⟩] []) (.seq (Jq89 p) .ret))
@[simp] def Jq22 (p : Nums) : List IOp := [qp 2 (.mov (.t 0)), qp 3 (.nilck (.t 2)), qp 4 (.faddr 2 (.t 3)), qp 5 (.load none (.t 4)), qp 6 (.mov (.t 0)), qp 7 (.nilck (.t 6)), qp 8 (.faddr 0 (.t 7)), qp 9 (.load none (.t 8)), qp 10 (.len (.t 9)), qp 11 (.bin .add (ci 1) (.t 10)), qo 12 (.bin .add (.t 5) (.t 11)), qo 13 (.nilck (.t 2)), qo 14 (.faddr 2 (.t 13)), qn (.store 1 (.t 14) (.t 12))]
def Jq21 (p : Nums) : IC := (.region (Jq22 p) [])
@[simp] theorem Je21 {p : Nums} : EqI (Jq21 p) (.region (Jq22 p) []) := eqi
def Jta1 (p : Nums) : IC := (Jq21 p)
@[simp] def Jq1y (p : Nums) : List IOp := [qo 6 (.mov (.t 0)), qo 7 (.mov (.t 0)), qo 8 (.mov (.t 1)), qo 9 (.mov (.t 0)), qo 10 (.nilck (.t 9)), qo 11 (.faddr 3 (.t 10)), qo 12 (.load none (.t 11)), qo 13 (.mov (.t 1)), qo 14 (.len (.t 13)), qo 15 (.mx (.t 12) (.t 14)), qo 16 (.nilck (.t 6)), qo 17 (.faddr 0 (.t 16)), qn (.store 1 (.t 17) (.t 8)), qo 18 (.nilck (.t 7)), qo 19 (.faddr 3 (.t 18)), qn (.store 1 (.t 19) (.t 15))]
def Jq1v (p : Nums) : IC := (.region (Jq1y p) [])
@[simp] theorem Je1v {p : Nums} : EqI (Jq1v p) (.region (Jq1y p) []) := eqi
@[simp] def Jq1z (p : Nums) : List IOp := [qo 20 (.mov (.t 1)), qo 21 (.len (.t 20)), qo 22 (.mov (.t 0)), qo 23 (.nilck (.t 22)), qo 24 (.faddr 1 (.t 23)), qo 25 (.load none (.t 24)), qo 26 (.bin .gtr (.t 21) (.t 25))]
def Jq1w (p : Nums) : IC := (.region (Jq1z p) [])
@[simp] theorem Je1w {p : Nums} : EqI (Jq1w p) (.region (Jq1z p) []) := eqi
@[simp] def Jq20 (p : Nums) : List IOp := [qo 27 (.mov (.t 2)), qo 28 (.build [(zi 0), (zi 0)] [(0, 1, (ci 24)), (1, 1, (.t 27))]), qo 29 (.mkif p.ty_bcfail (.t 28)), qn (.pan (.t 29))]
def Jq1x (p : Nums) : IC := (.region (Jq20 p) [])
@[simp] theorem Je1x {p : Nums} : EqI (Jq1x p) (.region (Jq20 p) []) := eqi
def Jta0 (p : Nums) : IC := (.seq (Jq1v p) (.seq (Jq1w p) (.cond (.t 26) (Jq1x p) .skip)))
@[simp] def Jqyt (p : Nums) : List IOp := [qo 7 (.load none (.t 4)), qo 8 (.load none (.t 5)), qo 9 (.bin .eql (.t 7) (.t 8))]
def Jqyq (p : Nums) : IC := (.region (Jqyt p) [])
@[simp] theorem Jeyq {p : Nums} : EqI (Jqyq p) (.region (Jqyt p) []) := eqi
@[simp] def Jqyu (p : Nums) : List IOp := [qo 10 (.mov (.t 0)), qo 11 (.call p.pairset_Make [(.t 10)]), qo 6 (.asg (.t 11))]
def Jqyr (p : Nums) : IC := (.region (Jqyu p) [])
@[simp] theorem Jeyr {p : Nums} : EqI (Jqyr p) (.region (Jqyu p) []) := eqi
@[simp] def Jqyv (p : Nums) : List IOp := [qo 12 (.mov (.t 0)), qo 13 (.load none (.t 4)), qo 14 (.call p.pairset_DropV [(.t 12), (.t 13)]), qo 15 (.mov (.t 0)), qo 16 (.mkfn (.func p.transfer_Copy_1) [] [(.t 4), (.t 5)]), qo 17 (.call p.transfer_rename [(.t 14), (.t 15), (.t 16)]), qo 6 (.asg (.t 17))]
def Jqys (p : Nums) : IC := (.region (Jqyv p) [])
@[simp] theorem Jeys {p : Nums} : EqI (Jqys p) (.region (Jqyv p) []) := eqi
def Jtcr (p : Nums) : IC := (.seq (.region [⟨(some 4), (.box (.t 1)), none, false⟩, ⟨(some 5), (.box (.t 2)), none, false⟩, ⟨(some 6), (.asg (.c .nils)), none, false⟩] []) (.seq (.seq (Jqyq p) (.cond (.t 9) (.seq (Jqyr p) .ret) .skip)) (.seq (Jqys p) .ret)))
@[simp] def Jqz3 (p : Nums) : List IOp := [qo 7 (.load none (.t 4)), qo 8 (.load none (.t 5)), qo 9 (.bin .eql (.t 7) (.t 8))]
def Jqz0 (p : Nums) : IC := (.region (Jqz3 p) [])
@[simp] theorem Jez0 {p : Nums} : EqI (Jqz0 p) (.region (Jqz3 p) []) := eqi
@[simp] def Jqz4 (p : Nums) : List IOp := [qo 10 (.mov (.t 0)), qo 11 (.call p.pairset_Make [(.t 10)]), qo 6 (.asg (.t 11))]
def Jqz1 (p : Nums) : IC := (.region (Jqz4 p) [])
@[simp] theorem Jez1 {p : Nums} : EqI (Jqz1 p) (.region (Jqz4 p) []) := eqi
@[simp] def Jqz5 (p : Nums) : List IOp := [qo 12 (.mov (.t 0)), qo 13 (.load none (.t 4)), qo 14 (.call p.pairset_DropL [(.t 12), (.t 13)]), qo 15 (.mov (.t 0)), qo 16 (.mkfn (.func p.transfer_Move_1) [] [(.t 4), (.t 5)]), qo 17 (.call p.transfer_rename [(.t 14), (.t 15), (.t 16)]), qo 6 (.asg (.t 17))]
def Jqz2 (p : Nums) : IC := (.region (Jqz5 p) [])
@[simp] theorem Jez2 {p : Nums} : EqI (Jqz2 p) (.region (Jqz5 p) []) := eqi
def Jtct (p : Nums) : IC := (.seq (.region [⟨(some 4), (.box (.t 1)), none, false⟩, ⟨(some 5), (.box (.t 2)), none, false⟩, ⟨(some 6), (.asg (.c .nils)), none, false⟩] []) (.seq (.seq (Jqz0 p) (.cond (.t 9) (.seq (Jqz1 p) .ret) .skip)) (.seq (Jqz2 p) .ret)))
@[simp] def Jq28 (p : Nums) : List IOp := [qo 11 (.faddr 0 (.t 5)), qo 12 (.load none (.t 11)), qo 13 (.call p.opcode_Of [(.t 12)]), qo 10 (.mov (.t 13)), qo 14 (.ext (.t 10) 0), qo 15 (.ext (.t 10) 1), qo 8 (.alloc [(.d (.bool false)), (.d (.bool false)), (.d (.bool false)), (.d (.bool false))]), qn (.store 4 (.t 8) (.t 14)), qo 9 (.asg (.t 15))]
def Jq23 (p : Nums) : IC := (.region (Jq28 p) [])
@[simp] theorem Je23 {p : Nums} : EqI (Jq23 p) (.region (Jq28 p) []) := eqi
@[simp] def Jq29 (p : Nums) : List IOp := [qo 18 (.mov (.t 0)), qo 19 (.faddr 2 (.t 5)), qo 20 (.load none (.t 19)), qo 21 (.faddr 2 (.t 6)), qo 22 (.load none (.t 21)), qo 23 (.mov (.t 3)), qo 24 (.call p.blockcheck_checker_use [(.t 18), (.t 20), (.t 22), (.t 23)])]
def Jq24 (p : Nums) : IC := (.region (Jq29 p) [])
@[simp] theorem Je24 {p : Nums} : EqI (Jq24 p) (.region (Jq29 p) []) := eqi
@[simp] def Jq2a (p : Nums) : List IOp := [qo 27 (.mov (.t 0)), qo 28 (.faddr 3 (.t 5)), qo 29 (.load none (.t 28)), qo 30 (.faddr 3 (.t 6)), qo 31 (.load none (.t 30)), qo 32 (.mov (.t 3)), qo 33 (.call p.blockcheck_checker_use [(.t 27), (.t 29), (.t 31), (.t 32)])]
def Jq25 (p : Nums) : IC := (.region (Jq2a p) [])
@[simp] theorem Je25 {p : Nums} : EqI (Jq25 p) (.region (Jq2a p) []) := eqi
@[simp] def Jq2b (p : Nums) : List IOp := [qp 38 (.mov (.t 0)), qp 39 (.mov (.t 0)), qp 40 (.nilck (.t 39)), qp 41 (.faddr 0 (.t 40)), qp 42 (.load none (.t 41)), qp 43 (.faddr 1 (.t 5)), qp 44 (.load none (.t 43)), qp 45 (.faddr 1 (.t 6)), qp 46 (.load none (.t 45)), qp 47 (.call p.location_Reg [(.t 46)]), qp 48 (.call p.transfer_Define [(.t 42), (.t 44), (.t 47)]), qp 49 (.mov (.t 3)), qo 50 (.call p.blockcheck_checker_become [(.t 38), (.t 48), (.t 49)])]
def Jq26 (p : Nums) : IC := (.region (Jq2b p) [])
@[simp] theorem Je26 {p : Nums} : EqI (Jq26 p) (.region (Jq2b p) []) := eqi
def Jq27 (p : Nums) : IC := (.seq (.region [⟨(some 36), (.mov (.t 0)), none, false⟩, ⟨(some 37), (.call p.blockcheck_checker_cost [(.t 36)]), none, false⟩] []) (Jq26 p))
@[simp] theorem Je27 {p : Nums} : EqI (Jq27 p) (.seq (.region [⟨(some 36), (.mov (.t 0)), none, false⟩, ⟨(some 37), (.call p.blockcheck_checker_cost [(.t 36)]), none, false⟩] []) (Jq26 p)) := eqi
def Jta2 (p : Nums) : IC := (.seq (.region [⟨(some 5), (.box (.t 1)), none, false⟩, ⟨(some 6), (.box (.t 2)), none, false⟩] []) (.seq (Jq23 p) (.seq (.seq (.region [⟨(some 16), (.faddr 1 (.t 8)), none, false⟩, ⟨(some 17), (.load none (.t 16)), none, false⟩] []) (.cond (.t 17) (Jq24 p) .skip)) (.seq (.seq (.region [⟨(some 25), (.faddr 2 (.t 8)), none, false⟩, ⟨(some 26), (.load none (.t 25)), none, false⟩] []) (.cond (.t 26) (Jq25 p) .skip)) (.seq (.region [⟨(some 34), (.faddr 0 (.t 8)), none, false⟩, ⟨(some 35), (.load none (.t 34)), none, false⟩] []) (.cond (.t 35) (Jq27 p) .skip))))))
@[simp] def Jqcb (p : Nums) : List IOp := [qo 6 (.mov (.t 0)), qo 7 (.load (some 2) (.t 3)), qo 8 (.call p.pairset_find [(.t 6), (.t 7)]), qo 5 (.asg (.t 8))]
def Jqc9 (p : Nums) : IC := (.region (Jqcb p) [])
@[simp] theorem Jec9 {p : Nums} : EqI (Jqc9 p) (.region (Jqcb p) []) := eqi
@[simp] def Jqcc (p : Nums) : List IOp := [qp 9 (.mov (.t 5)), qp 10 (.mov (.t 0)), qp 11 (.len (.t 10)), qo 12 (.bin .lss (.t 9) (.t 11)), qo 13 (.mov (.t 12)), ⟨(some 14), (.mov (.t 0)), (some (13, true)), true⟩, ⟨(some 15), (.mov (.t 5)), (some (13, true)), true⟩, ⟨(some 16), (.iaddr 2 (.t 14) (.t 15)), (some (13, true)), true⟩, ⟨(some 17), (.load (some 2) (.t 16)), (some (13, true)), true⟩, ⟨(some 18), (.load (some 2) (.t 3)), (some (13, true)), true⟩, ⟨(some 19), (.eqs false [.int, .int] (.t 17) (.t 18)), (some (13, true)), false⟩, qo 20 (.pick (.t 13) (.t 19) (.c (.d (.bool false)))), qo 4 (.asg (.t 20))]
def Jqca (p : Nums) : IC := (.region (Jqcc p) [])
@[simp] theorem Jeca {p : Nums} : EqI (Jqca p) (.region (Jqcc p) []) := eqi
def Jtb8 (p : Nums) : IC := (.seq (.region [⟨(some 3), (.box (.t 1)), none, false⟩, ⟨(some 4), (.asg (.c (.d (.bool false)))), none, false⟩] []) (.seq (Jqc9 p) (.seq (Jqca p) .ret)))
@[simp] def Jqbo (p : Nums) : List IOp := [qo 3 (.mov (.t 0)), qo 4 (.bin .geq (.t 3) (ci 1)), qo 5 (.mov (.t 4)), ⟨(some 6), (.mov (.t 0)), (some (5, true)), false⟩, ⟨(some 7), (.bin .leq (.t 6) (ci 18)), (some (5, true)), false⟩, qo 8 (.pick (.t 5) (.t 7) (.c (.d (.bool false)))), qo 2 (.asg (.t 8))]
def Jqbn (p : Nums) : IC := (.region (Jqbo p) [])
@[simp] theorem Jebn {p : Nums} : EqI (Jqbn p) (.region (Jqbo p) []) := eqi
def Jtb2 (p : Nums) : IC := (.seq (.region [⟨(some 2), (.asg (.c (.d (.bool false)))), none, false⟩] []) (.seq (Jqbn p) .ret))
@[simp] def Jqaq (p : Nums) : List IOp := [qo 7 (.faddr 0 (.t 3)), qo 8 (.load none (.t 7)), qo 9 (.faddr 1 (.t 3)), qo 10 (.load none (.t 9)), qo 11 (.faddr 2 (.t 3)), qo 12 (.load none (.t 11)), qo 13 (.faddr 3 (.t 3)), qo 14 (.load none (.t 13)), qo 15 (.faddr 4 (.t 3)), qo 16 (.load none (.t 15)), qo 17 (.build [(zi 0), (zi 0), (zi 0), (zi 0), (zi 0)] [(0, 1, (.t 8)), (1, 1, (.t 10)), (2, 1, (.t 12)), (3, 1, (.t 14)), (4, 1, (.t 16))]), qo 18 (.mov (.t 1)), qo 19 (.call p.source_Instr [(.t 17), (.t 18)]), qo 6 (.asg (.t 19))]
def Jqap (p : Nums) : IC := (.region (Jqaq p) [])
@[simp] theorem Jeap {p : Nums} : EqI (Jqap p) (.region (Jqaq p) []) := eqi
def Jtax (p : Nums) : IC := (.seq (.region [⟨(some 3), (.box (.t 0)), none, false⟩, ⟨(some 6), (.asg (.c (.d (.int .i64 0)))), none, false⟩] []) (.seq (Jqap p) .ret))
@[simp] def Jqas (p : Nums) : List IOp := [qo 3 (.faddr 5 (.t 1)), qo 4 (.load none (.t 3)), qo 5 (.bin .eql (.t 4) (ci 0)), qo 6 (.mov (.t 5)), ⟨(some 7), (.faddr 6 (.t 1)), (some (6, true)), false⟩, ⟨(some 8), (.load none (.t 7)), (some (6, true)), false⟩, ⟨(some 9), (.bin .eql (.t 8) (ci 0)), (some (6, true)), false⟩, qo 10 (.pick (.t 6) (.t 9) (.c (.d (.bool false)))), qo 2 (.asg (.t 10))]
def Jqar (p : Nums) : IC := (.region (Jqas p) [])
@[simp] theorem Jear {p : Nums} : EqI (Jqar p) (.region (Jqas p) []) := eqi
def Jtay (p : Nums) : IC := (.seq (.region [⟨(some 1), (.box (.t 0)), none, false⟩, ⟨(some 2), (.asg (.c (.d (.bool false)))), none, false⟩] []) (.seq (Jqar p) .ret))
@[simp] def Jqaj (p : Nums) : List IOp := [qo 8 (.faddr 5 (.t 3)), qo 9 (.load none (.t 8)), qo 10 (.call p.location_IsSlot [(.t 9)]), qo 11 (.mov (.t 10)), ⟨(some 12), (.faddr 6 (.t 3)), (some (11, true)), false⟩, ⟨(some 13), (.load none (.t 12)), (some (11, true)), false⟩, ⟨(some 14), (.call p.location_IsSlot [(.t 13)]), (some (11, true)), false⟩, qo 15 (.pick (.t 11) (.t 14) (.c (.d (.bool false)))), qo 7 (.asg (.t 15))]
def Jqag (p : Nums) : IC := (.region (Jqaj p) [])
@[simp] theorem Jeag {p : Nums} : EqI (Jqag p) (.region (Jqaj p) []) := eqi
@[simp] def Jqak (p : Nums) : List IOp := [qo 16 (.mov (.t 7)), qo 17 (.mov (.t 16)), ⟨(some 18), (.faddr 5 (.t 3)), (some (17, false)), false⟩, ⟨(some 19), (.load none (.t 18)), (some (17, false)), false⟩, ⟨(some 20), (.mov (.t 1)), (some (17, false)), false⟩, ⟨(some 21), (.mov (.t 2)), (some (17, false)), false⟩, ⟨(some 22), (.call p.location_InRange [(.t 19), (.t 20), (.t 21)]), (some (17, false)), false⟩, ⟨(some 23), (.un .not (.t 22)), (some (17, false)), false⟩, qo 24 (.pick (.t 17) (.c (.d (.bool true))) (.t 23)), qo 25 (.mov (.t 24)), ⟨(some 26), (.faddr 6 (.t 3)), (some (25, false)), false⟩, ⟨(some 27), (.load none (.t 26)), (some (25, false)), false⟩, ⟨(some 28), (.mov (.t 1)), (some (25, false)), false⟩, ⟨(some 29), (.mov (.t 2)), (some (25, false)), false⟩, ⟨(some 30), (.call p.location_InRange [(.t 27), (.t 28), (.t 29)]), (some (25, false)), false⟩, ⟨(some 31), (.un .not (.t 30)), (some (25, false)), false⟩, qo 32 (.pick (.t 25) (.c (.d (.bool true))) (.t 31))]
def Jqah (p : Nums) : IC := (.region (Jqak p) [])
@[simp] theorem Jeah {p : Nums} : EqI (Jqah p) (.region (Jqak p) []) := eqi
def Jqai (p : Nums) : IC := (.seq (.region [⟨(some 6), (.asg (.c (.d (.int .i64 10)))), none, false⟩] []) .ret)
@[simp] theorem Jeai {p : Nums} : EqI (Jqai p) (.seq (.region [⟨(some 6), (.asg (.c (.d (.int .i64 10)))), none, false⟩] []) .ret) := eqi
def Jtau (p : Nums) : IC := (.seq (.region [⟨(some 3), (.box (.t 0)), none, false⟩, ⟨(some 6), (.asg (.c (.d (.int .i64 0)))), none, false⟩] []) (.seq (Jqag p) (.seq (.seq (Jqah p) (.cond (.t 32) (Jqai p) .skip)) (.seq (.region [⟨(some 6), (.asg (.c (.d (.int .i64 0)))), none, false⟩] []) .ret))))
@[simp] def Jqam (p : Nums) : List IOp := [qo 3 (.faddr 1 (.t 1)), qo 4 (.load none (.t 3)), qo 5 (.bin .eql (.t 4) (ci 0)), qo 6 (.mov (.t 5)), ⟨(some 7), (.faddr 2 (.t 1)), (some (6, true)), false⟩, ⟨(some 8), (.load none (.t 7)), (some (6, true)), false⟩, ⟨(some 9), (.bin .eql (.t 8) (ci 0)), (some (6, true)), false⟩, qo 10 (.pick (.t 6) (.t 9) (.c (.d (.bool false)))), qo 11 (.mov (.t 10)), ⟨(some 12), (.faddr 3 (.t 1)), (some (11, true)), false⟩, ⟨(some 13), (.load none (.t 12)), (some (11, true)), false⟩, ⟨(some 14), (.bin .eql (.t 13) (ci 0)), (some (11, true)), false⟩, qo 15 (.pick (.t 11) (.t 14) (.c (.d (.bool false)))), qo 16 (.mov (.t 15)), ⟨(some 17), (.faddr 4 (.t 1)), (some (16, true)), false⟩, ⟨(some 18), (.load none (.t 17)), (some (16, true)), false⟩, ⟨(some 19), (.bin .eql (.t 18) (ci 0)), (some (16, true)), false⟩, qo 20 (.pick (.t 16) (.t 19) (.c (.d (.bool false)))), qo 2 (.asg (.t 20))]
def Jqal (p : Nums) : IC := (.region (Jqam p) [])
@[simp] theorem Jeal {p : Nums} : EqI (Jqal p) (.region (Jqam p) []) := eqi
def Jtav (p : Nums) : IC := (.seq (.region [⟨(some 1), (.box (.t 0)), none, false⟩, ⟨(some 2), (.asg (.c (.d (.bool false)))), none, false⟩] []) (.seq (Jqal p) .ret))
@[simp] def Jqzd (p : Nums) : List IOp := [qo 12 (.mov (.t 1)), qo 13 (.len (.t 12)), qo 14 (.mov (ci 0))]
def Jqz6 (p : Nums) : IC := (.region (Jqzd p) [])
@[simp] theorem Jez6 {p : Nums} : EqI (Jqz6 p) (.region (Jqzd p) []) := eqi
@[simp] def Jqze (p : Nums) : List IOp := [qo 16 (.iaddr 2 (.t 12) (.t 14)), qo 17 (.load (some 2) (.t 16)), qo 9 (.alloc [(zi 0), (zi 0)]), qn (.store 2 (.t 9) (.t 17))]
def Jqz7 (p : Nums) : IC := (.region (Jqze p) [])
@[simp] theorem Jez7 {p : Nums} : EqI (Jqz7 p) (.region (Jqze p) []) := eqi
@[simp] def Jqzf (p : Nums) : List IOp := [qo 19 (.mov (.t 2)), qo 20 (.load (some 2) (.t 9)), qo 21 (.callv (.t 19) [(.t 20)]), qo 18 (.mov (.t 21)), qo 22 (.ext (.t 18) 0), qo 23 (.ext (.t 18) 1), qo 10 (.alloc [(zi 0), (zi 0)]), qn (.store 2 (.t 10) (.t 22)), qo 11 (.asg (.t 23))]
def Jqz8 (p : Nums) : IC := (.region (Jqzf p) [])
@[simp] theorem Jez8 {p : Nums} : EqI (Jqz8 p) (.region (Jqzf p) []) := eqi
@[simp] def Jqzg (p : Nums) : List IOp := [qo 25 (.mov (.t 7)), qo 26 (.load (some 2) (.t 10)), qo 27 (.bslice 2 1 [(.int .i64 0), (.int .i64 0)] [(0, (.t 26))]), qo 28 (.app 2 16 (.t 25) (.t 27)), qo 7 (.asg (.t 28))]
def Jqz9 (p : Nums) : IC := (.region (Jqzg p) [])
@[simp] theorem Jez9 {p : Nums} : EqI (Jqz9 p) (.region (Jqzg p) []) := eqi
def Jqza (p : Nums) : IC := (.seq (Jqz7 p) (.seq (Jqz8 p) (.seq (.region [⟨(some 24), (.mov (.t 11)), none, false⟩] []) (.cond (.t 24) (Jqz9 p) .skip))))
@[simp] theorem Jeza {p : Nums} : EqI (Jqza p) (.seq (Jqz7 p) (.seq (Jqz8 p) (.seq (.region [⟨(some 24), (.mov (.t 11)), none, false⟩] []) (.cond (.t 24) (Jqz9 p) .skip)))) := eqi
def Jqzb (p : Nums) : IC := (.seq (.region [⟨(some 15), (.bin .lss (.t 14) (.t 13)), none, false⟩] []) (.seq (.cond (.t 15) .skip (.exit 0)) (.seq (.block 1 (Jqza p)) (.region [⟨(some 29), (.bin .add (.t 14) (.c (.d (.int .i64 1)))), none, false⟩, ⟨(some 14), (.mov (.t 29)), none, false⟩] []))))
@[simp] theorem Jezb {p : Nums} : EqI (Jqzb p) (.seq (.region [⟨(some 15), (.bin .lss (.t 14) (.t 13)), none, false⟩] []) (.seq (.cond (.t 15) .skip (.exit 0)) (.seq (.block 1 (Jqza p)) (.region [⟨(some 29), (.bin .add (.t 14) (.c (.d (.int .i64 1)))), none, false⟩, ⟨(some 14), (.mov (.t 29)), none, false⟩] [])))) := eqi
@[simp] def Jqzh (p : Nums) : List IOp := [qo 30 (.mov (.t 0)), qo 31 (.mov (.t 7)), qo 32 (.call p.pairset_Make [(.t 31)]), qo 33 (.call p.pairset_Union [(.t 30), (.t 32)]), qo 6 (.asg (.t 33))]
def Jqzc (p : Nums) : IC := (.region (Jqzh p) [])
@[simp] theorem Jezc {p : Nums} : EqI (Jqzc p) (.region (Jqzh p) []) := eqi
def Jtcu (p : Nums) : IC := (.seq (.region [⟨(some 6), (.asg (.c .nils)), none, false⟩] []) (.seq (.region [⟨(some 7), (.asg (.c .nils)), none, false⟩] []) (.seq (.seq (Jqz6 p) (.block 0 (.loop (Jqzb p)))) (.seq (Jqzc p) .ret))))
@[simp] def Jqc8 (p : Nums) : List IOp := [qo 5 (.mov (.t 0)), qo 6 (.mkfn (.func p.pairset_DropV_1) [] [(.t 3)]), qo 7 (.call p.pairset_filter [(.t 5), (.t 6)]), qo 4 (.asg (.t 7))]
def Jqc7 (p : Nums) : IC := (.region (Jqc8 p) [])
@[simp] theorem Jec7 {p : Nums} : EqI (Jqc7 p) (.region (Jqc8 p) []) := eqi
def Jtb6 (p : Nums) : IC := (.seq (.region [⟨(some 3), (.box (.t 1)), none, false⟩, ⟨(some 4), (.asg (.c .nils)), none, false⟩] []) (.seq (Jqc7 p) .ret))
@[simp] def Jqc4 (p : Nums) : List IOp := [qo 5 (.mov (.t 0)), qo 6 (.mkfn (.func p.pairset_DropL_1) [] [(.t 3)]), qo 7 (.call p.pairset_filter [(.t 5), (.t 6)]), qo 4 (.asg (.t 7))]
def Jqc3 (p : Nums) : IC := (.region (Jqc4 p) [])
@[simp] theorem Jec3 {p : Nums} : EqI (Jqc3 p) (.region (Jqc4 p) []) := eqi
def Jtb4 (p : Nums) : IC := (.seq (.region [⟨(some 3), (.box (.t 1)), none, false⟩, ⟨(some 4), (.asg (.c .nils)), none, false⟩] []) (.seq (Jqc3 p) .ret))
@[simp] def Jqyy (p : Nums) : List IOp := [qo 8 (.mov (.t 0)), qo 9 (.mov (.t 1)), qo 10 (.call p.pairset_DropV [(.t 8), (.t 9)]), qo 11 (.mov (.t 2)), qo 12 (.call p.pairset_DropL [(.t 10), (.t 11)]), qo 7 (.asg (.t 12))]
def Jqyw (p : Nums) : IC := (.region (Jqyy p) [])
@[simp] theorem Jeyw {p : Nums} : EqI (Jqyw p) (.region (Jqyy p) []) := eqi
@[simp] def Jqyz (p : Nums) : List IOp := [qo 13 (.mov (.t 7)), qo 14 (.mov (.t 1)), qo 15 (.mov (.t 2)), qo 16 (.build [(zi 0), (zi 0)] [(0, 1, (.t 14)), (1, 1, (.t 15))]), qo 17 (.call p.pairset_Add [(.t 13), (.t 16)]), qo 6 (.asg (.t 17))]
def Jqyx (p : Nums) : IC := (.region (Jqyz p) [])
@[simp] theorem Jeyx {p : Nums} : EqI (Jqyx p) (.region (Jqyz p) []) := eqi
def Jtcs (p : Nums) : IC := (.seq (.region [⟨(some 6), (.asg (.c .nils)), none, false⟩] []) (.seq (Jqyw p) (.seq (Jqyx p) .ret)))
@[simp] def Jqee (p : Nums) : List IOp := [qo 8 (.mov (.t 0)), qo 9 (.len (.t 8)), qo 5 (.asg (ci 0)), qo 6 (.asg (.t 9))]
def Jqe6 (p : Nums) : IC := (.region (Jqee p) [])
@[simp] theorem Jee6 {p : Nums} : EqI (Jqe6 p) (.region (Jqee p) []) := eqi
@[simp] def Jqef (p : Nums) : List IOp := [qo 10 (.mov (.t 5)), qo 11 (.mov (.t 6)), qo 12 (.bin .lss (.t 10) (.t 11))]
def Jqe7 (p : Nums) : IC := (.region (Jqef p) [])
@[simp] theorem Jee7 {p : Nums} : EqI (Jqe7 p) (.region (Jqef p) []) := eqi
@[simp] def Jqeg (p : Nums) : List IOp := [qo 13 (.mov (.t 5)), qo 14 (.mov (.t 6)), qo 15 (.mov (.t 5)), qo 16 (.bin .sub (.t 14) (.t 15)), qo 17 (.bin .quo (.t 16) (ci 2)), qo 18 (.bin .add (.t 13) (.t 17)), qo 7 (.asg (.t 18))]
def Jqe8 (p : Nums) : IC := (.region (Jqeg p) [])
@[simp] theorem Jee8 {p : Nums} : EqI (Jqe8 p) (.region (Jqeg p) []) := eqi
@[simp] def Jqeh (p : Nums) : List IOp := [qp 19 (.mov (.t 0)), qp 20 (.mov (.t 7)), qp 21 (.iaddr 2 (.t 19) (.t 20)), qp 22 (.load (some 2) (.t 21)), qp 23 (.load (some 2) (.t 3)), qo 24 (.call p.pairset_Less [(.t 22), (.t 23)])]
def Jqe9 (p : Nums) : IC := (.region (Jqeh p) [])
@[simp] theorem Jee9 {p : Nums} : EqI (Jqe9 p) (.region (Jqeh p) []) := eqi
@[simp] def Jqei (p : Nums) : List IOp := [qo 25 (.mov (.t 7)), qo 26 (.bin .add (.t 25) (ci 1)), qo 5 (.asg (.t 26))]
def Jqea (p : Nums) : IC := (.region (Jqei p) [])
@[simp] theorem Jeea {p : Nums} : EqI (Jqea p) (.region (Jqei p) []) := eqi
@[simp] def Jqej (p : Nums) : List IOp := [qo 27 (.mov (.t 7)), qo 6 (.asg (.t 27))]
def Jqeb (p : Nums) : IC := (.region (Jqej p) [])
@[simp] theorem Jeeb {p : Nums} : EqI (Jqeb p) (.region (Jqej p) []) := eqi
def Jqec (p : Nums) : IC := (.seq (Jqe8 p) (.seq (Jqe9 p) (.cond (.t 24) (Jqea p) (Jqeb p))))
@[simp] theorem Jeec {p : Nums} : EqI (Jqec p) (.seq (Jqe8 p) (.seq (Jqe9 p) (.cond (.t 24) (Jqea p) (Jqeb p)))) := eqi
def Jqed (p : Nums) : IC := (.seq (.seq (Jqe7 p) (.cond (.t 12) .skip (.exit 0))) (.block 1 (Jqec p)))
@[simp] theorem Jeed {p : Nums} : EqI (Jqed p) (.seq (.seq (Jqe7 p) (.cond (.t 12) .skip (.exit 0))) (.block 1 (Jqec p))) := eqi
def Jtbe (p : Nums) : IC := (.seq (.region [⟨(some 3), (.box (.t 1)), none, false⟩, ⟨(some 4), (.asg (.c (.d (.int .i64 0)))), none, false⟩] []) (.seq (Jqe6 p) (.seq (.block 0 (.loop (Jqed p))) (.seq (.region [⟨(some 28), (.mov (.t 5)), none, false⟩, ⟨(some 4), (.asg (.t 28)), none, false⟩] []) .ret))))
@[simp] def Jqdj (p : Nums) : List IOp := [qo 7 (.mov (.t 0)), qo 8 (.len (.t 7)), qo 9 (.mov (.t 1)), qo 10 (.len (.t 9)), qo 11 (.bin .add (.t 8) (.t 10)), qo 12 (.mkslice 2 16 [(.int .i64 0), (.int .i64 0)] (ci 0) (.t 11)), qo 5 (.asg (.t 12))]
def Jqd6 (p : Nums) : IC := (.region (Jqdj p) [])
@[simp] theorem Jed6 {p : Nums} : EqI (Jqd6 p) (.region (Jqdj p) []) := eqi
@[simp] def Jqdm (p : Nums) : List IOp := [qo 13 (.mov (.t 0)), qo 14 (.len (.t 13)), qo 15 (.bin .gtr (.t 14) (ci 0)), qo 16 (.mov (.t 15)), ⟨(some 17), (.mov (.t 1)), (some (16, true)), false⟩, ⟨(some 18), (.len (.t 17)), (some (16, true)), false⟩, ⟨(some 19), (.bin .gtr (.t 18) (ci 0)), (some (16, true)), false⟩, qo 20 (.pick (.t 16) (.t 19) (.c (.d (.bool false))))]
def Jqdb (p : Nums) : IC := (.region (Jqdm p) [])
@[simp] theorem Jedb {p : Nums} : EqI (Jqdb p) (.region (Jqdm p) []) := eqi
@[simp] def Jqdn (p : Nums) : List IOp := [qo 21 (.mov (.t 0)), qo 22 (.iaddr 2 (.t 21) (ci 0)), qo 23 (.load (some 2) (.t 22)), qo 6 (.alloc [(zi 0), (zi 0)]), qn (.store 2 (.t 6) (.t 23))]
def Jqdc (p : Nums) : IC := (.region (Jqdn p) [])
@[simp] theorem Jedc {p : Nums} : EqI (Jqdc p) (.region (Jqdn p) []) := eqi
@[simp] def Jqdo (p : Nums) : List IOp := [qp 24 (.mov (.t 1)), qp 25 (.iaddr 2 (.t 24) (ci 0)), qp 26 (.load (some 2) (.t 25)), qp 27 (.load (some 2) (.t 6)), qo 28 (.call p.pairset_Less [(.t 26), (.t 27)])]
def Jqdd (p : Nums) : IC := (.region (Jqdo p) [])
@[simp] theorem Jedd {p : Nums} : EqI (Jqdd p) (.region (Jqdo p) []) := eqi
@[simp] def Jqdp (p : Nums) : List IOp := [qo 29 (.mov (.t 1)), qo 30 (.iaddr 2 (.t 29) (ci 0)), qo 31 (.load (some 2) (.t 30)), qn (.store 2 (.t 6) (.t 31))]
def Jqde (p : Nums) : IC := (.region (Jqdp p) [])
@[simp] theorem Jede {p : Nums} : EqI (Jqde p) (.region (Jqdp p) []) := eqi
@[simp] def Jqdq (p : Nums) : List IOp := [qo 32 (.mov (.t 5)), qo 33 (.load (some 2) (.t 6)), qo 34 (.bslice 2 1 [(.int .i64 0), (.int .i64 0)] [(0, (.t 33))]), qo 35 (.app 2 16 (.t 32) (.t 34)), qo 5 (.asg (.t 35))]
def Jqdf (p : Nums) : IC := (.region (Jqdq p) [])
@[simp] theorem Jedf {p : Nums} : EqI (Jqdf p) (.region (Jqdq p) []) := eqi
@[simp] def Jqdr (p : Nums) : List IOp := [qp 36 (.mov (.t 0)), qp 37 (.iaddr 2 (.t 36) (ci 0)), qp 38 (.load (some 2) (.t 37)), qp 39 (.load (some 2) (.t 6)), qo 40 (.eqs false [.int, .int] (.t 38) (.t 39))]
def Jqdg (p : Nums) : IC := (.region (Jqdr p) [])
@[simp] theorem Jedg {p : Nums} : EqI (Jqdg p) (.region (Jqdr p) []) := eqi
@[simp] def Jqds (p : Nums) : List IOp := [qo 41 (.mov (.t 0)), qo 42 (.slc 2 (.t 41) (some (ci 1)) none), qo 0 (.asg (.t 42))]
def Jqdh (p : Nums) : IC := (.region (Jqds p) [])
@[simp] theorem Jedh {p : Nums} : EqI (Jqdh p) (.region (Jqds p) []) := eqi
@[simp] def Jqdt (p : Nums) : List IOp := [qp 43 (.mov (.t 1)), qp 44 (.iaddr 2 (.t 43) (ci 0)), qp 45 (.load (some 2) (.t 44)), qp 46 (.load (some 2) (.t 6)), qo 47 (.eqs false [.int, .int] (.t 45) (.t 46))]
def Jqdi (p : Nums) : IC := (.region (Jqdt p) [])
@[simp] theorem Jedi {p : Nums} : EqI (Jqdi p) (.region (Jqdt p) []) := eqi
@[simp] def Jqdk (p : Nums) : List IOp := [qo 48 (.mov (.t 1)), qo 49 (.slc 2 (.t 48) (some (ci 1)) none), qo 1 (.asg (.t 49))]
def Jqd7 (p : Nums) : IC := (.region (Jqdk p) [])
@[simp] theorem Jed7 {p : Nums} : EqI (Jqd7 p) (.region (Jqdk p) []) := eqi
def Jqd8 (p : Nums) : IC := (.seq (Jqdc p) (.seq (.seq (Jqdd p) (.cond (.t 28) (Jqde p) .skip)) (.seq (Jqdf p) (.seq (.seq (Jqdg p) (.cond (.t 40) (Jqdh p) .skip)) (.seq (Jqdi p) (.cond (.t 47) (Jqd7 p) .skip))))))
@[simp] theorem Jed8 {p : Nums} : EqI (Jqd8 p) (.seq (Jqdc p) (.seq (.seq (Jqdd p) (.cond (.t 28) (Jqde p) .skip)) (.seq (Jqdf p) (.seq (.seq (Jqdg p) (.cond (.t 40) (Jqdh p) .skip)) (.seq (Jqdi p) (.cond (.t 47) (Jqd7 p) .skip)))))) := eqi
def Jqd9 (p : Nums) : IC := (.seq (.seq (Jqdb p) (.cond (.t 20) .skip (.exit 0))) (.block 1 (Jqd8 p)))
@[simp] theorem Jed9 {p : Nums} : EqI (Jqd9 p) (.seq (.seq (Jqdb p) (.cond (.t 20) .skip (.exit 0))) (.block 1 (Jqd8 p))) := eqi
@[simp] def Jqdl (p : Nums) : List IOp := [qo 50 (.mov (.t 5)), qo 51 (.mov (.t 0)), qo 52 (.app 2 16 (.t 50) (.t 51)), qo 53 (.mov (.t 1)), qo 54 (.app 2 16 (.t 52) (.t 53)), qo 4 (.asg (.t 54))]
def Jqda (p : Nums) : IC := (.region (Jqdl p) [])
@[simp] theorem Jeda {p : Nums} : EqI (Jqda p) (.region (Jqdl p) []) := eqi
def Jtbc (p : Nums) : IC := (.seq (.region [⟨(some 4), (.asg (.c .nils)), none, false⟩] []) (.seq (Jqd6 p) (.seq (.block 0 (.loop (Jqd9 p))) (.seq (Jqda p) .ret))))
@[simp] def Jqe1 (p : Nums) : List IOp := [qo 8 (.mov (.t 0)), qo 9 (.len (.t 8)), qo 10 (.mkslice 2 16 [(.int .i64 0), (.int .i64 0)] (ci 0) (.t 9)), qo 5 (.take (.t 10))]
def Jqdu (p : Nums) : IC := (.region (Jqe1 p) [])
@[simp] theorem Jedu {p : Nums} : EqI (Jqdu p) (.region (Jqe1 p) []) := eqi
@[simp] def Jqe2 (p : Nums) : List IOp := [qo 11 (.mov (.t 0)), qo 12 (.len (.t 11)), qo 13 (.mov (ci 0))]
def Jqdv (p : Nums) : IC := (.region (Jqe2 p) [])
@[simp] theorem Jedv {p : Nums} : EqI (Jqdv p) (.region (Jqe2 p) []) := eqi
@[simp] def Jqe3 (p : Nums) : List IOp := [qo 15 (.iaddr 2 (.t 11) (.t 13)), qo 16 (.load (some 2) (.t 15)), qo 7 (.alloc [(zi 0), (zi 0)]), qn (.store 2 (.t 7) (.t 16))]
def Jqdw (p : Nums) : IC := (.region (Jqe3 p) [])
@[simp] theorem Jedw {p : Nums} : EqI (Jqdw p) (.region (Jqe3 p) []) := eqi
@[simp] def Jqe4 (p : Nums) : List IOp := [qo 17 (.mov (.t 1)), qo 18 (.load (some 2) (.t 7)), qo 19 (.callv (.t 17) [(.t 18)])]
def Jqdx (p : Nums) : IC := (.region (Jqe4 p) [])
@[simp] theorem Jedx {p : Nums} : EqI (Jqdx p) (.region (Jqe4 p) []) := eqi
@[simp] def Jqe5 (p : Nums) : List IOp := [qo 20 (.mov (.t 5)), qo 21 (.load (some 2) (.t 7)), qo 22 (.bslice 2 1 [(.int .i64 0), (.int .i64 0)] [(0, (.t 21))]), qo 23 (.app 2 16 (.t 20) (.t 22)), qo 5 (.take (.t 23))]
def Jqdy (p : Nums) : IC := (.region (Jqe5 p) [])
@[simp] theorem Jedy {p : Nums} : EqI (Jqdy p) (.region (Jqe5 p) []) := eqi
def Jqdz (p : Nums) : IC := (.seq (Jqdw p) (.seq (Jqdx p) (.cond (.t 19) (Jqdy p) .skip)))
@[simp] theorem Jedz {p : Nums} : EqI (Jqdz p) (.seq (Jqdw p) (.seq (Jqdx p) (.cond (.t 19) (Jqdy p) .skip))) := eqi
def Jqe0 (p : Nums) : IC := (.seq (.region [⟨(some 14), (.bin .lss (.t 13) (.t 12)), none, false⟩] []) (.seq (.cond (.t 14) .skip (.exit 0)) (.seq (.block 1 (Jqdz p)) (.region [⟨(some 24), (.bin .add (.t 13) (.c (.d (.int .i64 1)))), none, false⟩, ⟨(some 13), (.mov (.t 24)), none, false⟩] []))))
@[simp] theorem Jee0 {p : Nums} : EqI (Jqe0 p) (.seq (.region [⟨(some 14), (.bin .lss (.t 13) (.t 12)), none, false⟩] []) (.seq (.cond (.t 14) .skip (.exit 0)) (.seq (.block 1 (Jqdz p)) (.region [⟨(some 24), (.bin .add (.t 13) (.c (.d (.int .i64 1)))), none, false⟩, ⟨(some 13), (.mov (.t 24)), none, false⟩] [])))) := eqi
def Jtbd (p : Nums) : IC := (.seq (.region [⟨(some 4), (.asg (.c .nils)), none, false⟩] []) (.seq (Jqdu p) (.seq (.seq (Jqdv p) (.block 0 (.loop (Jqe0 p)))) (.seq (.region [⟨(some 25), (.mov (.t 5)), none, false⟩, ⟨(some 4), (.take (.t 25)), none, false⟩] []) .ret))))
@[simp] def Jqc6 (p : Nums) : List IOp := [qo 4 (.faddr 0 (.t 2)), qo 5 (.load none (.t 4)), qo 6 (.load none (.t 1)), qo 7 (.bin .neq (.t 5) (.t 6)), qo 3 (.asg (.t 7))]
def Jqc5 (p : Nums) : IC := (.region (Jqc6 p) [])
@[simp] theorem Jec5 {p : Nums} : EqI (Jqc5 p) (.region (Jqc6 p) []) := eqi
def Jtb7 (p : Nums) : IC := (.seq (.region [⟨(some 2), (.box (.t 0)), none, false⟩, ⟨(some 3), (.asg (.c (.d (.bool false)))), none, false⟩] []) (.seq (Jqc5 p) .ret))
@[simp] def Jqc2 (p : Nums) : List IOp := [qo 4 (.faddr 1 (.t 2)), qo 5 (.load none (.t 4)), qo 6 (.load none (.t 1)), qo 7 (.bin .neq (.t 5) (.t 6)), qo 3 (.asg (.t 7))]
def Jqc1 (p : Nums) : IC := (.region (Jqc2 p) [])
@[simp] theorem Jec1 {p : Nums} : EqI (Jqc1 p) (.region (Jqc2 p) []) := eqi
def Jtb5 (p : Nums) : IC := (.seq (.region [⟨(some 2), (.box (.t 0)), none, false⟩, ⟨(some 3), (.asg (.c (.d (.bool false)))), none, false⟩] []) (.seq (Jqc1 p) .ret))
@[simp] def Jqbv (p : Nums) : List IOp := [qo 7 (.mov (.t 0)), qo 8 (.load (some 2) (.t 3)), qo 9 (.call p.pairset_find [(.t 7), (.t 8)]), qo 5 (.asg (.t 9))]
def Jqbp (p : Nums) : IC := (.region (Jqbv p) [])
@[simp] theorem Jebp {p : Nums} : EqI (Jqbp p) (.region (Jqbv p) []) := eqi
@[simp] def Jqbw (p : Nums) : List IOp := [qo 10 (.mov (.t 0)), qo 11 (.len (.t 10)), qo 12 (.bin .add (.t 11) (ci 1)), qo 13 (.mkslice 2 16 [(.int .i64 0), (.int .i64 0)] (ci 0) (.t 12)), qo 6 (.asg (.t 13))]
def Jqbq (p : Nums) : IC := (.region (Jqbw p) [])
@[simp] theorem Jebq {p : Nums} : EqI (Jqbq p) (.region (Jqbw p) []) := eqi
@[simp] def Jqbx (p : Nums) : List IOp := [qp 14 (.mov (.t 6)), qp 15 (.mov (.t 0)), qp 16 (.mov (.t 5)), qp 17 (.slc 2 (.t 15) none (some (.t 16))), qp 18 (.appq 2 16 (.t 14) (.t 17) 6), qp 19 (.load (some 2) (.t 3)), qp 20 (.bslice 2 1 [(.int .i64 0), (.int .i64 0)] [(0, (.t 19))]), qo 21 (.app 2 16 (.t 18) (.t 20)), qo 6 (.asg (.t 21))]
def Jqbr (p : Nums) : IC := (.region (Jqbx p) [41])
@[simp] theorem Jebr {p : Nums} : EqI (Jqbr p) (.region (Jqbx p) [41]) := eqi
@[simp] def Jqby (p : Nums) : List IOp := [qp 22 (.mov (.t 5)), qp 23 (.mov (.t 0)), qp 24 (.len (.t 23)), qo 25 (.bin .lss (.t 22) (.t 24)), qo 26 (.mov (.t 25)), ⟨(some 27), (.mov (.t 0)), (some (26, true)), true⟩, ⟨(some 28), (.mov (.t 5)), (some (26, true)), true⟩, ⟨(some 29), (.iaddr 2 (.t 27) (.t 28)), (some (26, true)), true⟩, ⟨(some 30), (.load (some 2) (.t 29)), (some (26, true)), true⟩, ⟨(some 31), (.load (some 2) (.t 3)), (some (26, true)), true⟩, ⟨(some 32), (.eqs false [.int, .int] (.t 30) (.t 31)), (some (26, true)), false⟩, qo 33 (.pick (.t 26) (.t 32) (.c (.d (.bool false))))]
def Jqbs (p : Nums) : IC := (.region (Jqby p) [])
@[simp] theorem Jebs {p : Nums} : EqI (Jqbs p) (.region (Jqby p) []) := eqi
@[simp] def Jqbz (p : Nums) : List IOp := [qo 34 (.mov (.t 5)), qo 35 (.bin .add (.t 34) (ci 1)), qo 5 (.asg (.t 35))]
def Jqbt (p : Nums) : IC := (.region (Jqbz p) [])
@[simp] theorem Jebt {p : Nums} : EqI (Jqbt p) (.region (Jqbz p) []) := eqi
@[simp] def Jqc0 (p : Nums) : List IOp := [qo 36 (.mov (.t 6)), qo 37 (.mov (.t 0)), qo 38 (.mov (.t 5)), qo 39 (.slc 2 (.t 37) (some (.t 38)) none), qo 40 (.app 2 16 (.t 36) (.t 39)), qo 4 (.asg (.t 40))]
def Jqbu (p : Nums) : IC := (.region (Jqc0 p) [])
@[simp] theorem Jebu {p : Nums} : EqI (Jqbu p) (.region (Jqc0 p) []) := eqi
def Jtb3 (p : Nums) : IC := (.seq (.region [⟨(some 3), (.box (.t 1)), none, false⟩, ⟨(some 4), (.asg (.c .nils)), none, false⟩] []) (.seq (Jqbp p) (.seq (Jqbq p) (.seq (Jqbr p) (.seq (.seq (Jqbs p) (.cond (.t 33) (Jqbt p) .skip)) (.seq (Jqbu p) .ret))))))
@[simp] def Jq2z (p : Nums) : List IOp := [qo 5 (.box (.t 1)), qo 6 (.box (.t 2)), qo 8 (.alloc [(zi 0)]), qo 9 (.alloc [(zi 0)])]
def Jq2y (p : Nums) : IC := (.region (Jq2z p) [])
@[simp] theorem Je2y {p : Nums} : EqI (Jq2y p) (.region (Jq2z p) []) := eqi
def Jta4 (p : Nums) : IC := (Jq2y p)
@[simp] def Jq3f (p : Nums) : List IOp := [qo 13 (.mov (.t 3)), qo 14 (.len (.t 13)), qo 15 (.mov (ci 0))]
def Jq37 (p : Nums) : IC := (.region (Jq3f p) [])
@[simp] theorem Je37 {p : Nums} : EqI (Jq37 p) (.region (Jq3f p) []) := eqi
@[simp] def Jq3g (p : Nums) : List IOp := [qo 17 (.iaddr 6 (.t 13) (.t 15)), qo 18 (.load (some 6) (.t 17)), qo 11 (.alloc [(zi 0), (zi 0), (zi 0), (zi 0), (zi 0), (zi 0)]), qn (.store 6 (.t 11) (.t 18))]
def Jq38 (p : Nums) : IC := (.region (Jq3g p) [])
@[simp] theorem Je38 {p : Nums} : EqI (Jq38 p) (.region (Jq3g p) []) := eqi
@[simp] def Jq3h (p : Nums) : List IOp := [qo 19 (.mov (.t 0)), qo 20 (.load (some 5) (.t 5)), qo 21 (.load (some 5) (.t 6)), qo 22 (.load (some 6) (.t 11)), qo 23 (.call p.blockcheck_checker_row [(.t 19), (.t 20), (.t 21), (.t 22)])]
def Jq39 (p : Nums) : IC := (.region (Jq3h p) [])
@[simp] theorem Je39 {p : Nums} : EqI (Jq39 p) (.region (Jq3h p) []) := eqi
def Jq3a (p : Nums) : IC := (.seq (Jq38 p) (Jq39 p))
@[simp] theorem Je3a {p : Nums} : EqI (Jq3a p) (.seq (Jq38 p) (Jq39 p)) := eqi
def Jq3b (p : Nums) : IC := (.seq (.region [⟨(some 16), (.bin .lss (.t 15) (.t 14)), none, false⟩] []) (.seq (.cond (.t 16) .skip (.exit 0)) (.seq (.block 1 (Jq3a p)) (.region [⟨(some 24), (.bin .add (.t 15) (.c (.d (.int .i64 1)))), none, false⟩, ⟨(some 15), (.mov (.t 24)), none, false⟩] []))))
@[simp] theorem Je3b {p : Nums} : EqI (Jq3b p) (.seq (.region [⟨(some 16), (.bin .lss (.t 15) (.t 14)), none, false⟩] []) (.seq (.cond (.t 16) .skip (.exit 0)) (.seq (.block 1 (Jq3a p)) (.region [⟨(some 24), (.bin .add (.t 15) (.c (.d (.int .i64 1)))), none, false⟩, ⟨(some 15), (.mov (.t 24)), none, false⟩] [])))) := eqi
@[simp] def Jq3i (p : Nums) : List IOp := [qo 25 (.faddr 1 (.t 5)), qo 26 (.faddr 0 (.t 25)), qo 27 (.load none (.t 26)), qo 28 (.bin .neq (.t 27) (ci 1))]
def Jq3c (p : Nums) : IC := (.region (Jq3i p) [])
@[simp] theorem Je3c {p : Nums} : EqI (Jq3c p) (.region (Jq3i p) []) := eqi
@[simp] def Jq3j (p : Nums) : List IOp := [qo 29 (.mov (.t 0)), qo 30 (.faddr 1 (.t 5)), qo 31 (.faddr 1 (.t 30)), qo 32 (.load none (.t 31)), qo 33 (.faddr 1 (.t 6)), qo 34 (.faddr 1 (.t 33)), qo 35 (.load none (.t 34)), qo 36 (.faddr 0 (.t 6)), qo 37 (.load none (.t 36)), qo 38 (.len (.t 37)), qo 39 (.call p.blockcheck_checker_use [(.t 29), (.t 32), (.t 35), (.t 38)])]
def Jq3d (p : Nums) : IC := (.region (Jq3j p) [])
@[simp] theorem Je3d {p : Nums} : EqI (Jq3d p) (.region (Jq3j p) []) := eqi
@[simp] def Jq3k (p : Nums) : List IOp := [qp 40 (.faddr 0 (.t 6)), qp 41 (.load none (.t 40)), qp 42 (.len (.t 41)), qm (.storeq 1 (.t 8) (ci 0) [(40, 1)]), qn (.store 1 (.t 9) (.t 42))]
def Jq3e (p : Nums) : IC := (.region (Jq3k p) [])
@[simp] theorem Je3e {p : Nums} : EqI (Jq3e p) (.region (Jq3k p) []) := eqi
def Jta6 (p : Nums) : IC := (.seq (.seq (Jq37 p) (.block 0 (.loop (Jq3b p)))) (.seq (.seq (Jq3c p) (.cond (.t 28) (Jq3d p) .skip)) (.seq (Jq3e p) .ret)))
@[simp] def Jq34 (p : Nums) : List IOp := [qo 9 (.mov (.t 2)), qo 10 (.tas p.ty_bcfail (.t 9)), qo 8 (.mov (.t 10)), qo 11 (.ext (.t 8) 0), qo 12 (.ext (.t 8) 1), qo 3 (.alloc [(zi 0), (zi 0)]), qn (.store 2 (.t 3) (.t 11)), qo 4 (.asg (.t 12))]
def Jq30 (p : Nums) : IC := (.region (Jq34 p) [])
@[simp] theorem Je30 {p : Nums} : EqI (Jq30 p) (.region (Jq34 p) []) := eqi
@[simp] def Jq35 (p : Nums) : List IOp := [qo 15 (.mov (.t 2)), qn (.pan (.t 15))]
def Jq31 (p : Nums) : IC := (.region (Jq35 p) [])
@[simp] theorem Je31 {p : Nums} : EqI (Jq31 p) (.region (Jq35 p) []) := eqi
@[simp] def Jq36 (p : Nums) : List IOp := [qp 16 (.faddr 0 (.t 3)), qp 17 (.load none (.t 16)), qp 18 (.faddr 1 (.t 3)), qp 19 (.load none (.t 18)), qm (.storeq 1 (.t 0) (.t 17) [(18, 1)]), qn (.store 1 (.t 1) (.t 19))]
def Jq32 (p : Nums) : IC := (.region (Jq36 p) [])
@[simp] theorem Je32 {p : Nums} : EqI (Jq32 p) (.region (Jq36 p) []) := eqi
def Jq33 (p : Nums) : IC := (.seq (Jq30 p) (.seq (.seq (.region [⟨(some 13), (.mov (.t 4)), none, false⟩, ⟨(some 14), (.un .not (.t 13)), none, false⟩] []) (.cond (.t 14) (Jq31 p) .skip)) (Jq32 p)))
@[simp] theorem Je33 {p : Nums} : EqI (Jq33 p) (.seq (Jq30 p) (.seq (.seq (.region [⟨(some 13), (.mov (.t 4)), none, false⟩, ⟨(some 14), (.un .not (.t 13)), none, false⟩] []) (.cond (.t 14) (Jq31 p) .skip)) (Jq32 p))) := eqi
def Jta5 (p : Nums) : IC := (.seq (.region [⟨(some 6), (.mov (.t 2)), none, false⟩, ⟨(some 7), (.isnif true (.t 6)), none, false⟩] []) (.cond (.t 7) (Jq33 p) .skip))
structure All (P : Program) (p : Nums) : Prop where
 law16_CheckerMatchesReference : Has P p.law16_CheckerMatchesReference 1 [(.tmp 2)] (Jtai p)
 law16_awake : Has P p.law16_awake 0 [(.tmp 0)] (Jtaj p)
 ref16_Few : Has P p.ref16_Few 1 [(.tmp 2)] (Jtcf p)
 checker_Valid : Has P p.checker_Valid 1 [(.tmp 2)] (Jtaa p)
 ref16_Valid : Has P p.ref16_Valid 1 [(.tmp 2)] (Jtcg p)
 checker_Check : Has P p.checker_Check 1 [(.cell 2 (some 7))] (Jta9 p)
 ref16_Check : Has P p.ref16_Check 1 [(.cell 2 (some 7))] (Jtce p)
 ref07_Successors : Has P p.ref07_Successors 1 [(.tmp 2)] (Jtbn p)
 checker_Bound : Has P p.checker_Bound 2 [(.tmp 4)] (Jta8 p)
 ref14_Check : Has P p.ref14_Check 4 [(.cell 8 (some 5))] (Jtc7 p)
 ref11_Missing : Has P p.ref11_Missing 2 [(.cell 4 (some 2)), (.tmp 5)] (Jtby p)
 ref07_Few : Has P p.ref07_Few 1 [(.tmp 2)] (Jtbl p)
 ref07_Check : Has P p.ref07_Check 1 [(.tmp 2)] (Jtbj p)
 ref08_Few : Has P p.ref08_Few 1 [(.tmp 2)] (Jtbs p)
 ref15_Few : Has P p.ref15_Few 1 [(.tmp 2)] (Jtcb p)
 source_Check : Has P p.source_Check 1 [(.tmp 2)] (Jtcj p)
 machine_Check : Has P p.machine_Check 1 [(.tmp 2)] (Jtap p)
 edge_Valid : Has P p.edge_Valid 5 [(.tmp 10)] (Jtaf p)
 ref08_Check : Has P p.ref08_Check 1 [(.tmp 2)] (Jtbq p)
 ref15_Valid : Has P p.ref15_Valid 5 [(.tmp 10)] (Jtcd p)
 checker_begin : Has P p.checker_begin 1 [(.cell 2 (some 7))] (Jtab p)
 blockcheck_Check : Has P p.blockcheck_Check 4 [(.cell 8 (some 5))] (Jt9z p)
 source_Successors : Has P p.source_Successors 1 [(.tmp 2)] (Jtcm p)
 edge_Implies : Has P p.edge_Implies 2 [(.cell 4 (some 2)), (.tmp 5)] (Jtad p)
 ref15_Initial : Has P p.ref15_Initial 2 [(.tmp 4)] (Jtcc p)
 source_Code : Has P p.source_Code 1 [(.tmp 2)] (Jtck p)
 machine_Code : Has P p.machine_Code 1 [(.tmp 2)] (Jtaq p)
 ref14_fail : Has P p.ref14_fail 3 [(.cell 6 (some 5))] (Jtc8 p)
 ref13_Code : Has P p.ref13_Code 2 [(.tmp 4), (.tmp 5), (.tmp 6)] (Jtc2 p)
 ref13_Terms : Has P p.ref13_Terms 2 [(.tmp 4)] (Jtc6 p)
 ref14_grow : Has P p.ref14_grow 4 [(.cell 8 (some 5))] (Jtc9 p)
 ref12_Copy : Has P p.ref12_Copy 3 [(.tmp 6)] (Jtbz p)
 ref12_Move : Has P p.ref12_Move 3 [(.tmp 6)] (Jtc1 p)
 ref05_UsesA : Has P p.ref05_UsesA 1 [(.tmp 2)] (Jtbg p)
 ref14_use : Has P p.ref14_use 4 [(.cell 8 (some 5))] (Jtca p)
 ref05_UsesB : Has P p.ref05_UsesB 1 [(.tmp 2)] (Jtbh p)
 ref05_UsesD : Has P p.ref05_UsesD 1 [(.tmp 2)] (Jtbi p)
 ref12_Define : Has P p.ref12_Define 3 [(.tmp 6)] (Jtc0 p)
 ref11_Has : Has P p.ref11_Has 2 [(.tmp 4)] (Jtbw p)
 ref07_Code : Has P p.ref07_Code 1 [(.tmp 2)] (Jtbk p)
 ref07_Instr : Has P p.ref07_Instr 2 [(.tmp 4)] (Jtbm p)
 ref07_Term : Has P p.ref07_Term 3 [(.tmp 6)] (Jtbo p)
 ref08_Code : Has P p.ref08_Code 1 [(.tmp 2)] (Jtbr p)
 source_block : Has P p.source_block 3 [(.tmp 6)] (Jtcp p)
 machine_block : Has P p.machine_block 2 [(.tmp 4)] (Jtas p)
 edge_total : Has P p.edge_total 1 [(.tmp 2)] (Jtah p)
 edge_pairs : Has P p.edge_pairs 4 [(.tmp 8)] (Jtag p)
 ref08_Instr : Has P p.ref08_Instr 3 [(.tmp 6)] (Jtbt p)
 ref08_Moves : Has P p.ref08_Moves 1 [(.tmp 2)] (Jtbu p)
 ref04_InRange : Has P p.ref04_InRange 3 [(.tmp 6)] (Jtbf p)
 ref11_Less : Has P p.ref11_Less 2 [(.tmp 4)] (Jtbx p)
 edge_Entry : Has P p.edge_Entry 2 [(.cell 4 (some 2)), (.tmp 5)] (Jtac p)
 align_Code : Has P p.align_Code 2 [(.tmp 4), (.tmp 5), (.tmp 6)] (Jt9s p)
 align_Terms : Has P p.align_Terms 2 [(.tmp 4)] (Jt9u p)
 pairset_Make : Has P p.pairset_Make 1 [(.tmp 2)] (Jtba p)
 blockcheck_checker_run : HasD P p.blockcheck_checker_run 4 [(.cell 8 none), (.cell 9 none)] (Jta4 p) (Jta6 p) 12 p.blockcheck_checker_run_1 [8, 9] (Jta5 p) 5 2
 pairset_Missing : Has P p.pairset_Missing 2 [(.cell 4 (some 2)), (.tmp 5)] (Jtbb p)
 ref13_Operations : Has P p.ref13_Operations 1 [(.tmp 2)] (Jtc3 p)
 ref13_Others : Has P p.ref13_Others 1 [(.tmp 2)] (Jtc4 p)
 ref13_Same : Has P p.ref13_Same 2 [(.tmp 4)] (Jtc5 p)
 ref11_Add : Has P p.ref11_Add 2 [(.tmp 4)] (Jtbv p)
 ref07_in : Has P p.ref07_in 2 [(.tmp 4)] (Jtbp p)
 location_Slot : Has P p.location_Slot 1 [(.tmp 2)] (Jtao p)
 source_Instr : Has P p.source_Instr 2 [(.tmp 4)] (Jtcl p)
 source_Term : Has P p.source_Term 3 [(.tmp 6)] (Jtcn p)
 machine_Instr : Has P p.machine_Instr 3 [(.tmp 6)] (Jtar p)
 location_InRange : Has P p.location_InRange 3 [(.tmp 6)] (Jtak p)
 pairset_Less : Has P p.pairset_Less 2 [(.tmp 4)] (Jtb9 p)
 edge_Initial : Has P p.edge_Initial 2 [(.tmp 4)] (Jtae p)
 align_skip_Instr : Has P p.align_skip_Instr 3 [(.tmp 6)] (Jt9x p)
 align_copied : Has P p.align_copied 1 [(.tmp 2)] (Jt9v p)
 align_skip_Mach : Has P p.align_skip_Mach 3 [(.tmp 6)] (Jt9y p)
 align_moved : Has P p.align_moved 1 [(.tmp 2)] (Jt9w p)
 align_Same : Has P p.align_Same 2 [(.tmp 4)] (Jt9t p)
 slices_Clone_Pair : Has P p.slices_Clone_Pair 1 [(.tmp 2)] (Jtch p)
 slices_Compact_Pair : Has P p.slices_Compact_Pair 1 [(.tmp 2)] (Jtci p)
 blockcheck_checker_row : Has P p.blockcheck_checker_row 4 [] (Jta3 p)
 blockcheck_checker_use : Has P p.blockcheck_checker_use 4 [] (Jta7 p)
 opcode_Of : Has P p.opcode_Of 1 [(.cell 2 (some 4)), (.tmp 3)] (Jtb0 p)
 location_Reg : Has P p.location_Reg 1 [(.tmp 2)] (Jtan p)
 opcode_Source : Has P p.opcode_Source 1 [(.tmp 2)] (Jtb1 p)
 source_within : Has P p.source_within 1 [(.tmp 2)] (Jtcq p)
 source_blank : Has P p.source_blank 1 [(.tmp 2)] (Jtco p)
 opcode_Machine : Has P p.opcode_Machine 1 [(.tmp 2)] (Jtaz p)
 machine_others : Has P p.machine_others 0 [(.cell 0 (some 2))] (Jtaw p)
 machine_moves : Has P p.machine_moves 0 [(.cell 0 (some 2))] (Jtat p)
 location_IsSlot : Has P p.location_IsSlot 1 [(.tmp 2)] (Jtam p)
 location_Index : Has P p.location_Index 1 [(.tmp 2)] (Jtal p)
 blockcheck_checker_cost : Has P p.blockcheck_checker_cost 1 [] (Jta1 p)
 blockcheck_checker_become : Has P p.blockcheck_checker_become 3 [] (Jta0 p)
 transfer_Copy : Has P p.transfer_Copy 3 [(.tmp 6)] (Jtcr p)
 transfer_Move : Has P p.transfer_Move 3 [(.tmp 6)] (Jtct p)
 blockcheck_checker_instr : Has P p.blockcheck_checker_instr 4 [] (Jta2 p)
 pairset_Has : Has P p.pairset_Has 2 [(.tmp 4)] (Jtb8 p)
 opcode_known : Has P p.opcode_known 1 [(.tmp 2)] (Jtb2 p)
 machine_others_1 : Has P p.machine_others_1 3 [(.tmp 6)] (Jtax p)
 machine_others_2 : Has P p.machine_others_2 1 [(.tmp 2)] (Jtay p)
 machine_moves_1 : Has P p.machine_moves_1 3 [(.tmp 6)] (Jtau p)
 machine_moves_2 : Has P p.machine_moves_2 1 [(.tmp 2)] (Jtav p)
 transfer_rename : Has P p.transfer_rename 3 [(.tmp 6)] (Jtcu p)
 pairset_DropV : Has P p.pairset_DropV 2 [(.tmp 4)] (Jtb6 p)
 pairset_DropL : Has P p.pairset_DropL 2 [(.tmp 4)] (Jtb4 p)
 transfer_Define : Has P p.transfer_Define 3 [(.tmp 6)] (Jtcs p)
 pairset_find : Has P p.pairset_find 2 [(.tmp 4)] (Jtbe p)
 pairset_Union : Has P p.pairset_Union 2 [(.tmp 4)] (Jtbc p)
 pairset_filter : Has P p.pairset_filter 2 [(.tmp 4)] (Jtbd p)
 pairset_DropV_1 : Has P p.pairset_DropV_1 2 [(.tmp 3)] (Jtb7 p)
 pairset_DropL_1 : Has P p.pairset_DropL_1 2 [(.tmp 3)] (Jtb5 p)
 pairset_Add : Has P p.pairset_Add 2 [(.tmp 4)] (Jtb3 p)
end Go.AE
namespace Go.AE
open Go Go.Sort
theorem Jt63 {P : Program} {f : Nat} {args : List AV} {H : List Blk} {x : AV} (hx : ∀ e rows, x ≠ .own e rows) (hxv : ∀ org e rows, x ≠ .view org e rows)
  (hH : ∀ (b : Nat) (cells : List AV) (j e : Nat) (rows : List (List D)), H[b]? = some (Blk.mem cells) → cells[j]? ≠ some (AV.own e rows))
  (h : ∀ (g : Gh) (vs : Array Value) (w : World), vs.size = args.length → Sim args.length ⟨enum 0 args, H⟩ g ⟨vs, []⟩ w → ∃ v, (∀ F φ w, Rel F φ w x.erase v) ∧ Calls P f vs w fun e w' => e = .returned v ∧ ∃ q os, w' = grow (w.drewN q) os) :
  Jt3o P f args H fun o H' => o = .ret x ∧ H' = H := by
 intro g vs w hvs hs
 obtain ⟨v, hv, hc⟩ := h g vs w hvs hs
 refine hc.mono ?_
 rintro e w' ⟨rfl, q, os, rfl⟩
 have hheap : (grow (w.drewN q) os).heap = w.heap ++ os := rfl
 have hsame : ∀ r, r < w.heap.size → (grow (w.drewN q) os).heap[r]? = w.heap[r]? := by
  intro r hr; rw [hheap, Array.getElem?_append, if_pos hr]
 have hst : Stab g.F w g.F (grow (w.drewN q) os) := by
  refine ⟨fun _ _ => Nat.le_refl _, fun r j u hj hu => ?_, Jt71 hsame⟩
  have hlt := World.block_lt_of_cell? w ⟨r, j, none⟩ hu
  simp only [World.cell?] at hu ⊢
  rw [hsame r hlt]; exact hu
 have hno : ∀ p e rows, AP ⟨[(0, x)], H⟩ p ≠ some (.own e rows) := by
  intro p e rows hp
  cases p with
  | tmp t =>
   simp only [AP, get] at hp
   split at hp
   ·injection hp with hp; exact hx e rows hp
   ·cases hp
  | cell b j =>
   simp only [AP] at hp
   split at hp
   ·rename_i cells hb; exact hH b cells j e rows hb hp
   ·cases hp
 refine ⟨.ret x, H, g, v, ⟨rfl, rfl⟩, rfl, ?_, ⟨rfl, rfl, rfl, ?_, fun r hr _ => ⟨hsame r hr, rfl⟩, hst⟩, fun _ _ _ h => h, Nat.le_refl _, ?_⟩
 ·refine { size := by simp, env := ?_, inj := hs.inj, lt := ?_, dom := hs.dom, mem := ?_, iter := ?_, glob := ?_, own := ?_, excl := ?_, apart := ?_, view := ?_ }
  ·intro t y hy
   simp only [AOut.val, get] at hy
   split at hy
   ·rename_i h0; subst h0; injection hy with hy; subst hy; exact hv _ _ _
   ·cases hy
  ·intro b r hb
   obtain ⟨h1, h2, h3⟩ := hs.lt b r hb
   refine ⟨?_, h2, h3⟩
   rw [hheap]; simp only [Array.size_append]; omega
  ·intro b cells r hb hr
   obtain ⟨c, e, h1, h2, h3⟩ := hs.mem b cells r hb hr
   refine ⟨c, e, by rw [hsame r (hs.lt b r hr).1]; exact h1, h2, fun j y hy => ?_⟩
   obtain ⟨k1, u, k2, k3⟩ := h3 j y hy
   exact ⟨k1, u, k2, k3.stab hst fun _ _ h => h⟩
  ·intro b s pos r hb hr
   rw [hsame r (hs.lt b r hr).1]; exact hs.iter b s pos r hb hr
  ·intro b s pos r hb hr
   rw [hsame r (hs.lt b r hr).1]; exact hs.glob b s pos r hb hr
  ·exact fun p e rows v hp _ => absurd hp (hno p e rows)
  ·rintro p p' r ⟨e, rows, _, hp, _⟩; exact absurd hp (hno p e rows)
  ·rintro p r b ⟨e, rows, _, hp, _⟩; exact absurd hp (hno p e rows)
  ·intro t org e rows hy
   simp only [AOut.val, get] at hy
   split at hy
   ·injection hy with hy; exact absurd hy (hxv org e rows)
   ·cases hy
 ·rw [hheap]; simp only [Array.size_append]; exact Nat.le_add_right _ _
 ·rintro r (⟨b, hb⟩ | ⟨p, e, rows, _, hp, _⟩)
  ·exact .inl (.inl ⟨b, hb⟩)
  ·exact absurd hp (hno p e rows)
abbrev I (n : Int) : D := .int .i64 n
abbrev AI (n : Int) : AV := .d (.int .i64 n)
abbrev AB (b : Bool) : AV := .d (.bool b)
structure Pair where (v l : Int)
 deriving DecidableEq, Inhabited
def Pair.row (q : Pair) : List D := [I q.v, I q.l]
def Pair.av (q : Pair) : AV := .agg [AI q.v, AI q.l]
def pairsD (l : List Pair) : D := .sl (l.map Pair.row)
theorem HasL.cons_inv {l : LT} {ls : List LT} {ds : List D} (h : HasL (l :: ls) ds) : ∃ d ds', ds = d :: ds' ∧ HasT l d ∧ HasL ls ds' := by
 obtain ⟨h1, h2⟩ := h
 cases ds with
 | nil => simp at h1
 | cons d ds => exact ⟨d, ds, rfl, h2 0 l d rfl rfl, by simpa using h1, fun j l' x a b => h2 (j + 1) l' x (by simpa using a) (by simpa using b)⟩
theorem HasL.nil_inv {ds : List D} (h : HasL [] ds) : ds = [] := by
 have := h.1; simpa using this
theorem HasT.int_inv {k : IntKind} {d : D} (h : HasT (.int k) d) : ∃ n, d = .int k n ∧ (Lit.int k n).wf = true := by
 cases h with
 | int _ n h => exact ⟨n, rfl, h⟩
theorem HasT.sl_inv {ls : List LT} {d : D} (h : HasT (.sl ls) d) : ∃ rows, d = .sl rows ∧ rows.length ≤ maxLen ∧ ∀ r ∈ rows, HasL ls r := by
 cases h with
 | sl _ rows hl h0 h => exact ⟨rows, rfl, hl, fun r hr => ⟨h0 r hr, h r hr⟩⟩
theorem Jtkp {α : Type} {g : α → List D} {Q : List D → Prop} (h : ∀ r, Q r → ∃ x, r = g x) : ∀ {rows : List (List D)}, (∀ r ∈ rows, Q r) → ∃ l : List α, rows = l.map g := by
 intro rows
 induction rows with
 | nil => intro _; exact ⟨[], rfl⟩
 | cons r rows ih =>
  intro hq
  obtain ⟨x, rfl⟩ := h r (hq r (by simp))
  obtain ⟨l, rfl⟩ := ih fun r hr => hq r (by simp [hr])
  exact ⟨x :: l, rfl⟩
def ltI : LT := .int .i64
def ltPair : List LT := [ltI, ltI]
def lessP (a b : Pair) : Bool := if a.v = b.v then decide (a.l < b.l) else decide (a.v < b.v)
theorem Jtdt {a b : Pair} : lessP a b = true ↔ a.v < b.v ∨ (a.v = b.v ∧ a.l < b.l) := by
 unfold lessP; split <;> simp <;> omega
theorem Jtdw {a b : Pair} (h1 : lessP a b = false) (h2 : lessP b a = false) : a = b := by
 have h1 : ¬ lessP a b = true := by simp [h1]
 have h2 : ¬ lessP b a = true := by simp [h2]
 rw [Jtdt] at h1 h2
 obtain ⟨a1, a2⟩ := a; obtain ⟨b1, b2⟩ := b
 simp only [Pair.mk.injEq]; simp only at h1 h2; omega
theorem Jtdx {a b c : Pair} (h1 : lessP a b = true) (h2 : lessP b c = true) : lessP a c = true := by
 rw [Jtdt] at *; omega
theorem Jtdu (a : Pair) : lessP a a = false := by
 cases h : lessP a a with
 | false => rfl
 | true => rw [Jtdt] at h; omega
theorem Jtds {a b : Pair} (h1 : lessP a b = true) : lessP b a = false := by
 cases h : lessP b a with
 | false => rfl
 | true => have := Jtdx h1 h; rw [Jtdu] at this; cases this
def stepA (p : Pair) (s : List Pair × Bool) (q : Pair) : List Pair × Bool :=
 let s := if s.2 = false ∧ lessP q p = false then (s.1 ++ [p], true) else s
 if q = p then s else (s.1 ++ [q], s.2)
def foldA (p : Pair) (l : List Pair) : List Pair × Bool := l.foldl (stepA p) ([], false)
def addP (l : List Pair) (p : Pair) : List Pair := if (foldA p l).2 = true then (foldA p l).1 else (foldA p l).1 ++ [p]
def makeP (l : List Pair) : List Pair := l.foldl addP []
def missP (a b : List Pair) : Option Pair := a.find? fun q => !decide (q ∈ b)
theorem Jt8p {p : Pair} {l : List Pair} {k : Nat} (h : k < l.length) : foldA p (l.take (k + 1)) = stepA p (foldA p (l.take k)) l[k] := by
 rw [foldA, foldA, List.take_add_one, List.foldl_append]; simp [h]
theorem Jtms (p : Pair) (s : List Pair × Bool) (q : Pair) : (stepA p s q).1.length ≤ s.1.length + 2 := by
 unfold stepA; dsimp only; split <;> split <;> simp
theorem Jt8o (p : Pair) (l : List Pair) (s : List Pair × Bool) : (l.foldl (stepA p) s).1.length ≤ s.1.length + 2 * l.length := by
 induction l generalizing s with
 | nil => simp
 | cons q l ih => have := ih (stepA p s q); have := Jtms p s q; simp only [List.foldl_cons, List.length_cons]; omega
theorem Jt7s {a b : Pair} (h1 : a.v = b.v) (h2 : a.l = b.l) : a = b := by cases a; cases b; simp_all
theorem Jth2 (a b : Pair) : (decide (a.v = b.v) && decide (a.l = b.l)) = decide (a = b) := by
 by_cases h : a = b
 ·subst h; simp
 ·rw [decide_eq_false h]
  cases h1 : decide (a.v = b.v) <;> cases h2 : decide (a.l = b.l) <;> simp_all
  exact h (Jt7s h1 h2)
theorem Jth1 (a b : Pair) : (a.v == b.v && a.l == b.l) = decide (a = b) := by
 rw [← Jth2]; rfl
def Srt (l : List Pair) : Prop := l.Pairwise fun a b => lessP a b = true
theorem Jtmd {a : Pair} {l : List Pair} : Srt (a :: l) ↔ (∀ b ∈ l, lessP a b = true) ∧ Srt l := List.pairwise_cons
theorem Jtmj {l : List Pair} (h : Srt l) {i j : Nat} (hij : i < j) (hj : j < l.length) : lessP (l[i]'(by omega)) l[j] = true := List.pairwise_iff_getElem.1 h i j (by omega) hj hij
theorem Jtmc {l : List Pair} : Srt l ↔ ∀ k, (h : k + 1 < l.length) → lessP (l[k]) (l[k+1]) = true := by
 constructor
 ·intro h k hk; exact Jtmj h (by omega) hk
 ·intro h
  refine List.pairwise_iff_getElem.2 fun i j hi hj hij => ?_
  obtain ⟨n, rfl⟩ : ∃ n, j = i + 1 + n := ⟨j - (i + 1), by omega⟩
  induction n with
  | zero => exact h i hj
  | succ n ih => exact Jtdx (ih (by omega) (by omega)) (h (i + 1 + n) (by omega))
theorem Jtmg : ∀ {a b : List Pair}, Srt a → Srt b → (∀ q, q ∈ a ↔ q ∈ b) → a = b := by
 intro a
 induction a with
 | nil =>
  intro b _ _ h
  cases b with
  | nil => rfl
  | cons y b => have := (h y).2 (by simp); cases this
 | cons x a ih =>
  intro b ha hb h
  cases b with
  | nil => have := (h x).1 (by simp); cases this
  | cons y b =>
   rw [Jtmd] at ha hb
   have exy : x = y := by
    have h1 := (h x).1 (by simp)
    have h2 := (h y).2 (by simp)
    rw [List.mem_cons] at h1 h2
    rcases h1 with h1 | h1
    ·exact h1
    ·rcases h2 with h2 | h2
     ·exact h2.symm
     ·have := Jtds (hb.1 x h1); rw [ha.1 y h2] at this; cases this
   subst exy
   have : a = b := by
    refine ih ha.2 hb.2 fun q => ?_
    have hq := h q
    rw [List.mem_cons, List.mem_cons] at hq
    constructor
    ·intro hqa
     rcases hq.1 (.inr hqa) with e | e
     ·subst e; have := ha.1 q hqa; rw [Jtdu] at this; cases this
     ·exact e
    ·intro hqb
     rcases hq.2 (.inr hqb) with e | e
     ·subst e; have := hb.1 q hqb; rw [Jtdu] at this; cases this
     ·exact e
   rw [this]
def posP (l : List Pair) (p : Pair) : Nat := (l.takeWhile fun q => lessP q p).length
def insP (l : List Pair) (p : Pair) : List Pair := (l.takeWhile fun q => lessP q p) ++ p :: (l.dropWhile fun q => lessP q p).filter fun q => decide (q ≠ p)
theorem Jtdv {a b : Pair} (h : lessP a b = true) : a ≠ b := by rintro rfl; rw [Jtdu] at h; cases h
theorem Jt8q (p : Pair) (l out : List Pair) : l.foldl (stepA p) (out, true) = (out ++ l.filter (fun q => decide (q ≠ p)), true) := by
 induction l generalizing out with
 | nil => simp
 | cons q l ih =>
  by_cases e : q = p
  ·simp [stepA, e, ih]
  ·simp [stepA, e, ih]
theorem Jt8s (p : Pair) (l out : List Pair) : l.foldl (stepA p) (out, false) = if (l.dropWhile fun q => lessP q p) = [] then (out ++ l, false) else (out ++ insP l p, true) := by
 induction l generalizing out with
 | nil => simp
 | cons q l ih =>
  cases h : lessP q p with
  | true =>
   have hne := Jtdv h
   simp only [List.foldl_cons, stepA, h, hne, if_false, and_false, ih, List.dropWhile_cons, if_true, Bool.true_eq_false, insP, List.takeWhile_cons]
   split <;> simp [List.append_assoc]
  | false =>
   simp only [List.foldl_cons, stepA, h, and_self, if_true, List.dropWhile_cons, Bool.false_eq_true, if_false, reduceCtorEq, insP, List.takeWhile_cons, List.nil_append]
   by_cases e : q = p
   ·simp [e, Jt8q]
   ·simp [e, Jt8q]
theorem Jt4e (l : List Pair) (p : Pair) : addP l p = insP l p := by
 unfold addP foldA
 rw [Jt8s]
 split
 ·rename_i h
  simp only [List.nil_append, Bool.false_eq_true, if_false, insP, h, List.filter_nil]
  have : l.takeWhile (fun q => lessP q p) = l := by
   have e := List.takeWhile_append_dropWhile (p := fun q => lessP q p) (l := l)
   rw [h, List.append_nil] at e; exact e
  rw [this]
 ·simp
theorem Jtf3 {l : List Pair} {p q : Pair} : q ∈ addP l p ↔ q = p ∨ q ∈ l := by
 rw [Jt4e, insP]
 have e := List.takeWhile_append_dropWhile (p := fun q => lessP q p) (l := l)
 have e2 : q ∈ l ↔ q ∈ l.takeWhile (fun q => lessP q p) ∨ q ∈ l.dropWhile (fun q => lessP q p) := by
  rw [← List.mem_append, e]
 simp only [List.mem_append, List.mem_cons, List.mem_filter, decide_eq_true_eq, e2]
 by_cases h : q = p <;> simp [h]
theorem Jt7d {l : List Pair} {p : Pair} (h : Srt l) : ∀ q ∈ l.dropWhile (fun q => lessP q p), lessP q p = false := by
 induction l with
 | nil => intro q hq; simp at hq
 | cons x l ih =>
  intro q hq
  rw [Jtmd] at h
  cases hx : lessP x p with
  | true => rw [List.dropWhile_cons, hx, if_pos rfl] at hq; exact ih h.2 q hq
  | false =>
   rw [List.dropWhile_cons, hx, if_neg (by simp)] at hq
   rcases List.mem_cons.1 hq with rfl | hq
   ·exact hx
   ·cases hqp : lessP q p with
    | false => rfl
    | true => rw [Jtdx (h.1 q hq) hqp] at hx; cases hx
theorem Jtn8 {l : List Pair} {p : Pair} : ∀ q ∈ l.takeWhile (fun q => lessP q p), lessP q p = true := by
 induction l with
 | nil => intro q hq; simp at hq
 | cons x l ih =>
  intro q hq
  cases hx : lessP x p with
  | true =>
   rw [List.takeWhile_cons, hx, if_pos rfl] at hq
   rcases List.mem_cons.1 hq with rfl | hq
   ·exact hx
   ·exact ih q hq
  | false => rw [List.takeWhile_cons, hx, if_neg (by simp)] at hq; simp at hq
theorem Jtmo {a b : List Pair} (h : a.Sublist b) (hb : Srt b) : Srt a := List.Pairwise.sublist h hb
theorem Jtmb {l : List Pair} {p : Pair} (h : Srt l) : Srt (addP l p) := by
 rw [Jt4e, insP]
 refine List.pairwise_append.2 ⟨Jtmo (List.takeWhile_sublist _) h, Jtmd.2 ⟨?_, ?_⟩, ?_⟩
 ·intro b hb
  rw [List.mem_filter, decide_eq_true_eq] at hb
  have h1 := Jt7d h b hb.1
  cases h2 : lessP p b with
  | true => rfl
  | false => exact absurd (Jtdw h2 h1).symm hb.2
 ·exact Jtmo (List.filter_sublist.trans (List.dropWhile_sublist _)) h
 ·intro a ha b hb
  have h1 := Jtn8 a ha
  rcases List.mem_cons.1 hb with rfl | hb
  ·exact h1
  ·rw [List.mem_filter, decide_eq_true_eq] at hb
   have h2 := Jt7d h b hb.1
   cases h3 : lessP p b with
   | true => exact Jtdx h1 h3
   | false => exact absurd (Jtdw h3 h2).symm hb.2
theorem Jtet (l : List Pair) (q : Pair) : makeP (l ++ [q]) = addP (makeP l) q := by simp [makeP]
theorem Jtes {motive : List Pair → Prop} (h0 : motive []) (h1 : ∀ l q, motive l → motive (l ++ [q])) (l : List Pair) : motive l := by
 generalize hn : l.length = n
 induction n generalizing l with
 | zero => have : l = [] := List.length_eq_zero_iff.1 hn; subst this; exact h0
 | succ n ih =>
  have hne : l ≠ [] := by rintro rfl; simp at hn
  rw [← List.dropLast_concat_getLast hne]
  exact h1 _ _ (ih _ (by simp [hn]))
theorem Jtmk (l : List Pair) : Srt (makeP l) := by
 induction l using Jtes with
 | h0 => exact List.Pairwise.nil
 | h1 l q ih => rw [Jtet]; exact Jtmb ih
theorem Jtf7 {l : List Pair} {q : Pair} : q ∈ makeP l ↔ q ∈ l := by
 induction l using Jtes with
 | h0 => simp [makeP]
 | h1 l x ih => rw [Jtet, Jtf3, ih]; simp [or_comm]
theorem Jteu {l : List Pair} (h : Srt l) : makeP l = l := Jtmg (Jtmk l) h fun q => Jtf7
theorem Jtmn {l : List Pair} (h : Srt l) : l.Nodup := List.Pairwise.imp (fun h => Jtdv h) h
theorem Jt4f (l : List Pair) (p : Pair) : (addP l p).length ≤ l.length + 1 := by
 rw [Jt4e, insP]
 have e := congrArg List.length (List.takeWhile_append_dropWhile (p := fun q => lessP q p) (l := l))
 have e2 := List.length_filter_le (fun q => decide (q ≠ p)) (l.dropWhile fun q => lessP q p)
 simp only [List.length_append, List.length_cons] at e ⊢; omega
theorem Jter (l : List Pair) : (makeP l).length ≤ l.length := by
 induction l using Jtes with
 | h0 => simp [makeP]
 | h1 l x ih => rw [Jtet]; have := Jt4f (makeP l) x; simp only [List.length_append, List.length_cons, List.length_nil]; omega
section
theorem Jtir {P : Program} {p : Nums} (A : All P p) (a b : Pair) : Jt3o P p.ref11_Less [a.av, b.av] [] fun o _ => o = .ret (AB (lessP a b)) := by
 refine A.ref11_Less.run rfl fun R hR => ?_
 (simp (maxSteps := 1000000) [Jtbx, Pair.av])
 ((first | refine Xc (fun h => ?_) (fun h => ?_) | refine Xo (fun h => ?_) (fun h => ?_)) <;> (try simp only [Xz, Xy] at h))
 ·(simp (maxSteps := 1000000) [h])
  (first | exact hR _ _ FrA | exact hR _ _ FnA | exact hR _ _ (Xf (hq := by simp [AV.erase, AV.unview, lessP, h]; done)))
 ·(simp (maxSteps := 1000000) [h])
  (first | exact hR _ _ FrA | exact hR _ _ FnA | exact hR _ _ (Xf (hq := by simp [AV.erase, AV.unview, lessP, h]; done)))
theorem Jtiq {P : Program} {p : Nums} (A : All P p) (l : List Pair) (q : Pair) (h0 : l.length < 1000000000) : Jt3o P p.ref11_Has [.d (pairsD l), q.av] [] fun o _ => o = .ret (AB (decide (q ∈ l))) := by
 refine A.ref11_Has.run rfl fun R hR => ?_
 (simp (maxSteps := 1000000) [Jtbw, pairsD, Pair.av])
 refine Jt9 (fun k : Nat => ⟨[(5, AI k), (4, AB false), (3, .ptr 0 0), (0, .d (.sl (l.map Pair.row)))], [.mem [AI q.v, AI q.l]]⟩) (fun k => k ≤ l.length ∧ q ∉ l.take k) (fun k => l.length - k) 0 (by simp) (by (exact wkA)) ?_
 rintro k ⟨hk, hz⟩ N hN
 (simp (maxSteps := 1000000) [])
 ((first | refine Xc (fun h2 => ?_) (fun h2 => ?_) | refine Xo (fun h2 => ?_) (fun h2 => ?_)) <;> (try simp only [Xz, Xy] at h2))
 ·have hkl : k < l.length := by simpa using h2
  have hb : l[k]? = some l[k] := by simp
  have hw := Jtog (k := k) (by omega)
  (simp (maxSteps := 1000000) [h2, hb, Pair.row])
  ((first | refine Xc (fun h3 => ?_) (fun h3 => ?_) | refine Xo (fun h3 => ?_) (fun h3 => ?_)) <;> (try simp only [Xz, Xy] at h3))
  ·(simp (maxSteps := 1000000) [h3])
   have e : q = l[k] := by cases q; cases hq : l[k]; simp_all
   have : q ∈ l := by rw [e]; exact List.getElem_mem hkl
   (first | exact hR _ _ FrA | exact hR _ _ FnA | exact hR _ _ (Xf (hq := by simp [AV.erase, AV.unview, this]; done)))
  ·(simp (maxSteps := 1000000) [h3, hw])
   refine hN _ (k + 1) ⟨hkl, ?_⟩ (by (exact wkA)) (by omega)
   rw [List.take_add_one, hb]
   simp only [List.mem_append, not_or, hz, not_false_eq_true, true_and, Option.toList, List.mem_singleton]
   intro e; subst e; simp at h3
 ·have hk' : k = l.length := by simp at h2; omega
  subst hk'
  have : q ∉ l := by simpa using hz
  (simp (maxSteps := 1000000) [])
  (first | exact hR _ _ FrA | exact hR _ _ FnA | exact hR _ _ (Xf (hq := by simp [AV.erase, AV.unview, this]; done)))
end
section
theorem Jtip {P : Program} {p : Nums} (A : All P p) (l : List Pair) (q : Pair) (h0 : l.length < 1000000) : Jt3o P p.ref11_Add [.d (pairsD l), q.av] [] fun o _ => o = .ret (.d (pairsD (addP l q))) := by
 refine A.ref11_Add.run rfl fun R hR => ?_
 (simp (maxSteps := 1000000) [Jtbv, pairsD, Pair.av])
 refine Jt9 (fun k : Nat => ⟨[(7, AI k), (6, AB (foldA q (l.take k)).2), (5, .own 2 ((foldA q (l.take k)).1.map Pair.row)), (4, .nils), (3, .ptr 0 0), (0, .d (.sl (l.map Pair.row)))], [.mem [AI q.v, AI q.l]]⟩) (fun k => k ≤ l.length) (fun k => l.length - k) 0 (by simp) (by simp only [foldA, List.take_zero, List.foldl_nil, List.map_nil]; (exact wkA)) ?_
 intro k hk N hN
 have hlen := Jt8o q (l.take k) ([], false)
 obtain ⟨out, dn, hs⟩ : ∃ out dn, foldA q (l.take k) = (out, dn) := ⟨_, _, rfl⟩
 have hlen : out.length ≤ 2 * k := by
  have : (foldA q (l.take k)).1.length ≤ 0 + 2 * (l.take k).length := hlen
  rw [hs] at this; simp at this; omega
 simp only [hs]
 (simp (maxSteps := 1000000) [])
 ((first | refine Xc (fun h2 => ?_) (fun h2 => ?_) | refine Xo (fun h2 => ?_) (fun h2 => ?_)) <;> (try simp only [Xz, Xy] at h2))
 ·have hkl : k < l.length := by simpa using h2
  have hb : l[k]? = some l[k] := by simp
  have hw := Jtog (k := k) (by omega)
  have hsn := Jt8p (p := q) hkl
  rw [hs] at hsn
  have next : ∀ st', Wk 0 st' ⟨[(7, AI ((k + 1 : Nat) : Int)), (6, AB (stepA q (out, dn) l[k]).2), (5, .own 2 ((stepA q (out, dn) l[k]).1.map Pair.row)), (4, .nils), (3, .ptr 0 0), (0, .d (.sl (l.map Pair.row)))], [.mem [AI q.v, AI q.l]]⟩ → N st' := by
   intro st' h; rw [← hsn] at h; exact hN st' (k + 1) hkl h (by omega)
  obtain ⟨x, hx⟩ : ∃ x, x = l[k] := ⟨_, rfl⟩
  rw [← hx] at hb next
  have hrow : ∀ l : List Pair, ∀ r ∈ l.map Pair.row, r.length = 2 := fun l => Jtko fun x => rfl
  (simp (maxSteps := 1000000) [h2, hb, Pair.row])
  cases dn with
  | true =>
   (simp (maxSteps := 1000000) [hb, Pair.row])
   ((first | refine Xc (fun h3 => ?_) (fun h3 => ?_) | refine Xo (fun h3 => ?_) (fun h3 => ?_)) <;> (try simp only [Xz, Xy] at h3))
   ·have e : x ≠ q := by rintro rfl; simp at h3
    (simp (maxSteps := 1000000) [h3, hb, hw, Pair.row])
    (refine Jt16 (by rfl) (by rfl) (by rfl) ?_ (by decide) ?_ ?_ ?_)
    ·simp
    ·simp; omega
    ·simp; omega
    (simp (maxSteps := 1000000) [hw])
    exact next _ (by simp only [stepA, e]; simp [Pair.row]; (exact wkA))
   ·have e : x = q := by cases x; cases q; simp_all
    (simp (maxSteps := 1000000) [h3, hw])
    exact next _ (by simp only [stepA, e]; simp; (exact wkA))
  | false =>
   (simp (maxSteps := 1000000) [hb, Pair.row])
   (refine Jtt (Jtir A x q) (by rfl) (by rfl) ?_)
   (simp (maxSteps := 1000000) [])
   by_cases hl : lessP x q = true
   ·(simp (maxSteps := 1000000) [hl, hb, hw, Pair.row])
    ((first | refine Xc (fun h3 => ?_) (fun h3 => ?_) | refine Xo (fun h3 => ?_) (fun h3 => ?_)) <;> (try simp only [Xz, Xy] at h3))
    ·have e : x ≠ q := by rintro rfl; simp at h3
     (simp (maxSteps := 1000000) [h3, hb, hw, Pair.row])
     (refine Jt16 (by rfl) (by rfl) (by rfl) ?_ (by decide) ?_ ?_ ?_)
     ·simp
     ·simp; omega
     ·simp; omega
     (simp (maxSteps := 1000000) [hw])
     exact next _ (by simp only [stepA, hl, e]; simp [Pair.row]; (exact wkA))
    ·have e : x = q := by cases x; cases q; simp_all
     (simp (maxSteps := 1000000) [h3, hw])
     subst e
     exact next _ (by simp only [stepA, hl]; simp; (exact wkA))
   ·have hl : lessP x q = false := by simpa using hl
    (simp (maxSteps := 1000000) [hl, hb, hw, Pair.row])
    (refine Jt16 (by rfl) (by rfl) (by rfl) ?_ (by decide) ?_ ?_ ?_)
    ·simp
    ·simp; omega
    ·simp; omega
    (simp (maxSteps := 1000000) [hb, hw, Pair.row])
    ((first | refine Xc (fun h3 => ?_) (fun h3 => ?_) | refine Xo (fun h3 => ?_) (fun h3 => ?_)) <;> (try simp only [Xz, Xy] at h3))
    ·have e : x ≠ q := by rintro rfl; simp at h3
     (simp (maxSteps := 1000000) [h3, hb, hw, Pair.row])
     (refine Jt16 (by rfl) (by rfl) (by rfl) ?_ (by decide) ?_ ?_ ?_)
     ·simp
     ·simp; omega
     ·simp; omega
     (simp (maxSteps := 1000000) [hw])
     exact next _ (by simp only [stepA, hl, e]; simp [Pair.row]; (exact wkA))
    ·have e : x = q := by cases x; cases q; simp_all
     (simp (maxSteps := 1000000) [h3, hw])
     subst e
     exact next _ (by simp only [stepA, hl]; simp [Pair.row]; (exact wkA))
 ·have hk' : k = l.length := by simp at h2; omega
  subst hk'
  rw [List.take_length] at hs
  cases dn with
  | true =>
   (simp (maxSteps := 1000000) [])
   (first | exact hR _ _ FrA | exact hR _ _ FnA | exact hR _ _ (Xf (hq := by simp [AV.erase, AV.unview, addP, hs, pairsD]; done)))
  | false =>
   (simp (maxSteps := 1000000) [])
   (refine Jt16 (by rfl) (by rfl) (by rfl) ?_ (by decide) ?_ ?_ ?_)
   ·simp
   ·simp; omega
   ·simp; omega
   (simp (maxSteps := 1000000) [])
   (first | exact hR _ _ FrA | exact hR _ _ FnA | exact hR _ _ (Xf (hq := by simp [AV.erase, AV.unview, addP, hs, pairsD, Pair.row]; done)))
end
def missA (a b : List Pair) : AV := .tup [((missP a b).getD ⟨0, 0⟩).av, AB (missP a b).isSome]
theorem Jtfi {a b : List Pair} {k : Nat} (h : k < a.length) (h1 : ∀ q ∈ a.take k, q ∈ b) (h2 : a[k] ∉ b) : missP a b = some a[k] := by
 unfold missP
 have e : a = a.take k ++ a[k] :: a.drop (k + 1) := by rw [List.getElem_cons_drop, List.take_append_drop]
 have e1 : (a.take k).find? (fun q => !decide (q ∈ b)) = none := by
  rw [List.find?_eq_none]; intro q hq; simp [h1 q hq]
 have e2 : (a[k] :: a.drop (k + 1)).find? (fun q => !decide (q ∈ b)) = some a[k] := by
  rw [List.find?_cons_of_pos (by simp [h2])]
 have e3 := congrArg (List.find? fun q => !decide (q ∈ b)) e
 rw [List.find?_append, e1, e2] at e3
 exact e3
theorem Jtfj {a b : List Pair} (h1 : ∀ q ∈ a, q ∈ b) : missP a b = none := by
 unfold missP; rw [List.find?_eq_none]; intro q hq; simp [h1 q hq]
section
theorem Jtis {P : Program} {p : Nums} (A : All P p) (a b : List Pair) (h0 : a.length < 1000000) (h1 : b.length < 1000000) : Jt3o P p.ref11_Missing [.d (pairsD a), .d (pairsD b)] [] fun o _ => o = .ret (missA a b) := by
 refine A.ref11_Missing.run rfl fun R hR => ?_
 (simp (maxSteps := 1000000) [Jtby, pairsD])
 refine Jt9 (fun k : Nat => ⟨[(6, AI k), (5, AB false), (4, .ptr 0 0), (1, .d (.sl (b.map Pair.row))), (0, .d (.sl (a.map Pair.row)))], [.mem [AI 0, AI 0]]⟩) (fun k => k ≤ a.length ∧ ∀ q ∈ a.take k, q ∈ b) (fun k => a.length - k) 0 (by simp) (by (exact wkA)) ?_
 rintro k ⟨hk, hz⟩ N hN
 (simp (maxSteps := 1000000) [])
 ((first | refine Xc (fun h2 => ?_) (fun h2 => ?_) | refine Xo (fun h2 => ?_) (fun h2 => ?_)) <;> (try simp only [Xz, Xy] at h2))
 ·have hkl : k < a.length := by simpa using h2
  have hb : a[k]? = some a[k] := by simp
  have hw := Jtog (k := k) (by omega)
  (simp (maxSteps := 1000000) [h2, hb, Pair.row])
  (refine Jtt (Jtiq A b a[k] (by omega)) (by rfl) (by rfl) ?_)
  (simp (maxSteps := 1000000) [])
  ((first | refine Xc (fun h3 => ?_) (fun h3 => ?_) | refine Xo (fun h3 => ?_) (fun h3 => ?_)) <;> (try simp only [Xz, Xy] at h3))
  ·(simp (maxSteps := 1000000) [h3, hb, Pair.row])
   have := Jtfi hkl hz (by simpa using h3)
   (first | exact hR _ _ FrA | exact hR _ _ FnA | exact hR _ _ (Xf (hq := by simp [AV.erase, AV.unview, missA, this, Pair.av]; done)))
  ·(simp (maxSteps := 1000000) [h3, hw])
   refine hN _ (k + 1) ⟨hkl, ?_⟩ (by (exact wkA)) (by omega)
   intro q hq
   rw [List.take_add_one, hb] at hq
   rcases List.mem_append.1 hq with hq | hq
   ·exact hz q hq
   ·simp at hq; subst hq; simpa using h3
 ·have hk' : k = a.length := by simp at h2; omega
  subst hk'
  have := Jtfj (a := a) (b := b) (by simpa using hz)
  (simp (maxSteps := 1000000) [])
  (first | exact hR _ _ FrA | exact hR _ _ FnA | exact hR _ _ (Xf (hq := by simp [AV.erase, AV.unview, missA, this, Pair.av]; done)))
theorem Jthc {P : Program} {p : Nums} (A : All P p) (a b : Pair) : Jt3o P p.pairset_Less [a.av, b.av] [] fun o _ => o = .ret (AB (lessP a b)) := by
 refine A.pairset_Less.run rfl fun R hR => ?_
 (simp (maxSteps := 1000000) [Jtb9, Pair.av])
 ((first | refine Xc (fun h => ?_) (fun h => ?_) | refine Xo (fun h => ?_) (fun h => ?_)) <;> (try simp only [Xz, Xy] at h))
 ·(simp (maxSteps := 1000000) [h])
  have e : lessP a b = true := by rw [Jtdt]; omega
  (first | exact hR _ _ FrA | exact hR _ _ FnA | exact hR _ _ (Xf (hq := by simp [AV.erase, AV.unview, e]; done)))
 (simp (maxSteps := 1000000) [h])
 ((first | refine Xc (fun h1 => ?_) (fun h1 => ?_) | refine Xo (fun h1 => ?_) (fun h1 => ?_)) <;> (try simp only [Xz, Xy] at h1))
 ·(simp (maxSteps := 1000000) [h1])
  (first | exact hR _ _ FrA | exact hR _ _ FnA | exact hR _ _ (Xf (hq := by simp [AV.erase, AV.unview, lessP, h1]; done)))
 ·(simp (maxSteps := 1000000) [h1])
  have e : lessP a b = false := by
   cases e : lessP a b with
   | false => rfl
   | true => rw [Jtdt] at e; omega
  (first | exact hR _ _ FrA | exact hR _ _ FnA | exact hR _ _ (Xf (hq := by simp [AV.erase, AV.unview, e]; done)))
end
theorem Jtn7 {α : Type} (f : α → Bool) (l : List α) : l.takeWhile f = l.take (l.takeWhile f).length := by
 have e := List.takeWhile_append_dropWhile (p := f) (l := l)
 have := congrArg (List.take (l.takeWhile f).length) e
 rw [List.take_left'] at this
 ·exact this
 ·rfl
theorem Jt7c {α : Type} (f : α → Bool) (l : List α) : l.dropWhile f = l.drop (l.takeWhile f).length := by
 have e := List.takeWhile_append_dropWhile (p := f) (l := l)
 have := congrArg (List.drop (l.takeWhile f).length) e
 rw [List.drop_left'] at this
 ·exact this
 ·rfl
theorem Jtn6 {α : Type} (f : α → Bool) (l : List α) (i : Nat) (hi : i ≤ l.length) (h1 : ∀ j, j < i → (h : j < l.length) → f l[j] = true) (h2 : (h : i < l.length) → f l[i] = false) : (l.takeWhile f).length = i := by
 induction l generalizing i with
 | nil => simp at hi; simp [hi]
 | cons x l ih =>
  cases i with
  | zero => have := h2 (by simp); simp at this; simp [List.takeWhile_cons, this]
  | succ i =>
   have h0 := h1 0 (by omega) (by simp)
   simp at h0
   rw [List.takeWhile_cons, h0, if_pos rfl, List.length_cons]
   have := ih i (by simpa using hi) (fun j hj h => by have := h1 (j + 1) (by omega) (by simpa using h); simpa using this) (fun h => by have := h2 (by simpa using h); simpa using this)
   rw [this]
theorem Jtht (l : List Pair) (p : Pair) : posP l p ≤ l.length := (List.takeWhile_sublist _).length_le
theorem Jthu {l : List Pair} {p : Pair} {j : Nat} (h : j < posP l p) (hl : j < l.length) : lessP l[j] p = true := by
 have h1 : (l.takeWhile fun q => lessP q p)[j]? = some l[j] := by
  rw [Jtn7, List.getElem?_take]; simp only [posP] at h; simp [h]
 exact Jtn8 _ (List.mem_of_getElem? h1)
theorem Jths {l : List Pair} {p : Pair} (hs : Srt l) {j : Nat} (h : posP l p ≤ j) (hl : j < l.length) : lessP l[j] p = false := by
 refine Jt7d hs _ ?_
 rw [Jt7c]
 have : (l.drop (posP l p))[j - posP l p]? = some l[j] := by rw [List.getElem?_drop]; simp [Nat.add_sub_cancel' h]
 exact List.mem_of_getElem? this
theorem Jtfa {l : List Pair} {p : Pair} (hs : Srt l) : p ∈ l ↔ l[posP l p]? = some p := by
 constructor
 ·intro h
  obtain ⟨j, hj, e⟩ := List.getElem_of_mem h
  have h1 : posP l p ≤ j := by
   rcases Nat.lt_or_ge j (posP l p) with h2 | h2
   ·have := Jthu h2 hj; rw [e, Jtdu] at this; cases this
   ·exact h2
  have h2 : j ≤ posP l p := by
   rcases Nat.lt_or_ge (posP l p) j with h2 | h2
   ·have h3 := Jtmj hs h2 hj
    rw [e, Jths hs (Nat.le_refl _) (by omega)] at h3; cases h3
   ·exact h2
  have : posP l p = j := by omega
  rw [this, List.getElem?_eq_getElem hj, e]
 ·exact List.mem_of_getElem?
theorem Jt87 {l : List Pair} {p : Pair} (h : p ∉ l) : l.filter (fun q => decide (q ≠ p)) = l := by
 rw [List.filter_eq_self]; intro a ha; simp; rintro rfl; exact h ha
theorem Jt4g {l : List Pair} {p : Pair} (hs : Srt l) : addP l p = l.take (posP l p) ++ p :: l.drop (if p ∈ l then posP l p + 1 else posP l p) := by
 rw [Jt4e, insP, Jtn7, Jt7c]
 show l.take (posP l p) ++ p :: (l.drop (posP l p)).filter _ = _
 congr 2
 split
 ·rename_i h
  have hp := (Jtfa hs).1 h
  have hlt := (List.getElem?_eq_some_iff.1 hp).1
  have he := (List.getElem?_eq_some_iff.1 hp).2
  have hs' : Srt (l.drop (posP l p)) := Jtmo (List.drop_sublist _ _) hs
  rw [List.drop_eq_getElem_cons hlt, he] at hs' ⊢
  rw [List.filter_cons_of_neg (by simp)]
  refine Jt87 fun hm => ?_
  have := (Jtmd.1 hs').1 p hm
  rw [Jtdu] at this; cases this
 ·rename_i h
  exact Jt87 fun hm => h (List.drop_subset _ _ hm)
section
theorem Jthi {P : Program} {p : Nums} (A : All P p) (l : List Pair) (q : Pair) (h0 : l.length < 1000000000) (hs : Srt l) : Jt3o P p.pairset_find [.d (pairsD l), q.av] [] fun o _ => o = .ret (AI (posP l q)) := by
 refine A.pairset_find.run rfl fun R hR => ?_
 (simp (maxSteps := 1000000) [Jtbe, pairsD, Pair.av])
 refine Jt9 (fun k : Nat × Nat => ⟨[(5, AI k.1), (6, AI k.2), (4, AI 0), (3, .ptr 0 0), (0, .d (.sl (l.map Pair.row)))], [.mem [AI q.v, AI q.l]]⟩)
  (fun k => k.1 ≤ k.2 ∧ k.2 ≤ l.length ∧ (∀ j, j < k.1 → (h : j < l.length) → lessP l[j] q = true) ∧ ∀ j, k.2 ≤ j → (h : j < l.length) → lessP l[j] q = false) (fun k => k.2 - k.1) (0, l.length) (by simp; intro j h1 h2; omega) (by (exact wkA)) ?_
 rintro ⟨a, b⟩ ⟨hab, hb, hlo, hhi⟩ N hN
 simp only at hab hb hlo hhi hN ⊢
 (simp (maxSteps := 1000000) [])
 ((first | refine Xc (fun h2 => ?_) (fun h2 => ?_) | refine Xo (fun h2 => ?_) (fun h2 => ?_)) <;> (try simp only [Xz, Xy] at h2))
 ·have hm : a + (b - a) / 2 < l.length := by omega
  have hma : a ≤ a + (b - a) / 2 := by omega
  have hmb : a + (b - a) / 2 < b := by omega
  have hw1 : IntKind.i64.wrap ((b : Int) - (a : Int)) = ((b - a : Nat) : Int) := by rw [wrap_i64 (by omega) (by omega)]; omega
  have hw2 : IntKind.i64.wrap (((b - a : Nat) : Int) / 2) = (((b - a) / 2 : Nat) : Int) := by rw [wrap_i64 (by omega) (by omega)]; omega
  have hw3 : IntKind.i64.wrap ((a : Int) + (((b - a) / 2 : Nat) : Int)) = ((a + (b - a) / 2 : Nat) : Int) := by rw [wrap_i64 (by omega) (by omega)]; omega
  obtain ⟨d, hd⟩ : ∃ d, d = b - a := ⟨_, rfl⟩
  obtain ⟨d2, hd2⟩ : ∃ d2, d2 = d / 2 := ⟨_, rfl⟩
  obtain ⟨m, hmm⟩ : ∃ m, m = a + d2 := ⟨_, rfl⟩
  have hw := Jtog (k := m) (by omega)
  simp only [← hd, ← hd2, ← hmm] at hm hma hmb hw1 hw2 hw3
  have hbm : l[m]? = some l[m] := by simp
  (simp (maxSteps := 1000000) [h2, hw1])
  (simp (maxSteps := 1000000) [hw2])
  (simp (maxSteps := 1000000) [hw3, hbm, Pair.row])
  (refine Jtt (Jthc A l[m] q) (by rfl) (by rfl) ?_)
  (simp (maxSteps := 1000000) [])
  ((first | refine Xc (fun h3 => ?_) (fun h3 => ?_) | refine Xo (fun h3 => ?_) (fun h3 => ?_)) <;> (try simp only [Xz, Xy] at h3))
  ·(simp (maxSteps := 1000000) [h3, hw])
   refine hN _ (m + 1, b) ⟨by simp only; omega, hb, ?_, hhi⟩ (by (exact wkA)) (by simp only; omega)
   intro j hj h
   simp only at hj
   by_cases e : j = m
   ·subst e; exact h3
   ·exact Jtdx (Jtmj hs (by omega : j < m) hm) h3
  ·(simp (maxSteps := 1000000) [h3])
   refine hN _ (a, m) ⟨by simp only; omega, by simp only; omega, hlo, ?_⟩ (by (exact wkA)) (by simp only; omega)
   intro j hj h
   simp only at hj
   cases e : lessP l[j] q with
   | false => rfl
   | true =>
    by_cases e2 : j = m
    ·subst e2; rw [e] at h3; simp at h3
    ·rw [Jtdx (Jtmj hs (by omega : m < j) h) e] at h3; simp at h3
 ·have e : a = b := by omega
  subst e
  have : posP l q = a := Jtn6 _ l a hb hlo fun h => hhi a (by omega) h
  (simp (maxSteps := 1000000) [])
  (first | exact hR _ _ FrA | exact hR _ _ FnA | exact hR _ _ (Xf (hq := by simp [AV.erase, AV.unview, this]; done)))
theorem Jthb {P : Program} {p : Nums} (A : All P p) (l : List Pair) (q : Pair) (h0 : l.length < 1000000000) (hs : Srt l) : Jt3o P p.pairset_Has [.d (pairsD l), q.av] [] fun o _ => o = .ret (AB (decide (q ∈ l))) := by
 refine A.pairset_Has.run rfl fun R hR => ?_
 (simp (maxSteps := 1000000) [Jtb8, pairsD, Pair.av])
 (refine Jtt (Jthi A l q h0 hs) (by rfl) (by rfl) ?_)
 (simp (maxSteps := 1000000) [])
 have hp := Jtfa (p := q) hs
 have hle := Jtht l q
 obtain ⟨i, hi⟩ : ∃ i, i = posP l q := ⟨_, rfl⟩
 rw [← hi] at hp hle ⊢
 ((first | refine Xc (fun h1 => ?_) (fun h1 => ?_) | refine Xo (fun h1 => ?_) (fun h1 => ?_)) <;> (try simp only [Xz, Xy] at h1))
 ·have hil : i < l.length := by omega
  have hb : l[i]? = some l[i] := by simp
  rw [hb] at hp
  (simp (maxSteps := 1000000) [h1, hb, Pair.row])
  have e : (l[i].v == q.v && l[i].l == q.l) = decide (q ∈ l) := by
   rw [Jth1]; simp only [Option.some.injEq] at hp; simp [hp]
  (first | exact hR _ _ FrA | exact hR _ _ FnA | exact hR _ _ (Xf (hq := by simp [AV.erase, AV.unview, e, Pair.row]; done)))
 ·(simp (maxSteps := 1000000) [h1])
  have hb : l[i]? = none := by simp; omega
  rw [hb] at hp
  have e : q ∉ l := by simpa using hp
  (first | exact hR _ _ FrA | exact hR _ _ FnA | exact hR _ _ (Xf (hq := by simp [AV.erase, AV.unview, e]; done)))
end
section
theorem Jth4 {P : Program} {p : Nums} (A : All P p) (l : List Pair) (q : Pair) (h0 : l.length < 1000000) (hs : Srt l) : Jt3o P p.pairset_Add [.d (pairsD l), q.av] [] fun o H' => o = .ret (.own 2 ((addP l q).map Pair.row)) ∧ H' = [] := by
 refine A.pairset_Add.run rfl fun R hR => ?_
 (simp (maxSteps := 1000000) [Jtb3, pairsD, Pair.av])
 (refine Jtt (Jthi A l q (by omega) hs) (by rfl) (by rfl) ?_)
 have hw := Jtog (k := l.length) (by omega)
 have hp := Jtfa (p := q) hs
 have hle := Jtht l q
 have hadd := Jt4g (p := q) hs
 obtain ⟨i, hi⟩ : ∃ i, i = posP l q := ⟨_, rfl⟩
 rw [← hi] at hp hle hadd ⊢
 (simp (maxSteps := 1000000) [hw])
 refine Jt1y (n := l.length + 1) (by rfl) (by rfl) (by omega) (by omega) (by decide) (by rfl) ?_
 (simp (maxSteps := 1000000) [hle, Pair.row])
 have hrow : ∀ m : List (List D), (∀ r ∈ m, r ∈ l.map Pair.row) → ∀ r ∈ m, r.length = 2 := fun m hm r hr => Jtko (f := Pair.row) (fun _ => rfl) r (hm r hr)
 refine ⟨hrow _ fun r hr => List.take_subset _ _ hr, by omega, by omega, ?_⟩
 (refine Jt16 (by rfl) (by rfl) (by rfl) ?_ (by decide) ?_ ?_ ?_)
 ·simp
 ·simp; omega
 ·simp; omega
 (simp (maxSteps := 1000000) [])
 have hln : (l.map Pair.row).length = l.length := by simp
 have fin : ∀ j, addP l q = l.take i ++ q :: l.drop j → (List.take i (l.map Pair.row) ++ [[D.int IntKind.i64 q.v, D.int IntKind.i64 q.l]]) ++ List.drop j (List.take l.length (l.map Pair.row)) = (addP l q).map Pair.row := by
  intro j hj
  rw [hj, List.take_of_length_le (i := l.length) (l := l.map Pair.row) (by simp)]
  simp [Pair.row]
 ((first | refine Xc (fun h1 => ?_) (fun h1 => ?_) | refine Xo (fun h1 => ?_) (fun h1 => ?_)) <;> (try simp only [Xz, Xy] at h1))
 ·have hil : i < l.length := by omega
  have hb : l[i]? = some l[i] := by simp
  rw [hb, Option.some.injEq] at hp
  (simp (maxSteps := 1000000) [h1, hb, Pair.row])
  ((first | refine Xc (fun h2 => ?_) (fun h2 => ?_) | refine Xo (fun h2 => ?_) (fun h2 => ?_)) <;> (try simp only [Xz, Xy] at h2))
  ·have e : l[i] = q := Jt7s h2.1 h2.2
   have hm := hp.2 e
   rw [if_pos hm] at hadd
   have hw2 := Jtog (k := i) (by omega)
   obtain ⟨i1, hi1⟩ : ∃ i1, i1 = i + 1 := ⟨_, rfl⟩
   rw [← hi1] at hw2 hadd
   have hle1 : i1 ≤ l.length := by omega
   (simp (maxSteps := 1000000) [hw2, h2])
   (simp (maxSteps := 1000000) [hle1, Pair.row])
   (refine Jt16 (by rfl) (by rfl) (by rfl) ?_ (by decide) ?_ ?_ ?_)
   ·exact hrow _ fun r hr => List.take_subset _ _ (List.drop_subset _ _ hr)
   ·simp; omega
   ·simp; omega
   rw [fin i1 hadd]
   (simp (maxSteps := 1000000) [])
   exact hR _ _ (Jt3q _ _ rfl ⟨rfl, rfl⟩)
  ·have hm : q ∉ l := by
    intro hm; have := hp.1 hm
    rw [this] at h2; simp at h2
   rw [if_neg hm] at hadd
   (simp (maxSteps := 1000000) [h2, hle, Pair.row])
   (refine Jt16 (by rfl) (by rfl) (by rfl) ?_ (by decide) ?_ ?_ ?_)
   ·exact hrow _ fun r hr => List.take_subset _ _ (List.drop_subset _ _ hr)
   ·simp; omega
   ·simp; omega
   rw [fin i hadd]
   (simp (maxSteps := 1000000) [])
   exact hR _ _ (Jt3q _ _ rfl ⟨rfl, rfl⟩)
 ·have hm : q ∉ l := by
   intro hm; have := hp.1 hm
   rw [List.getElem?_eq_none (by omega)] at this; cases this
  rw [if_neg hm] at hadd
  (simp (maxSteps := 1000000) [h1, hle, Pair.row])
  (refine Jt16 (by rfl) (by rfl) (by rfl) ?_ (by decide) ?_ ?_ ?_)
  ·exact hrow _ fun r hr => List.take_subset _ _ (List.drop_subset _ _ hr)
  ·simp; omega
  ·simp; omega
  rw [fin i hadd]
  (simp (maxSteps := 1000000) [])
  exact hR _ _ (Jt3q _ _ rfl ⟨rfl, rfl⟩)
end
section
theorem Jthf {P : Program} {p : Nums} (A : All P p) (a b : List Pair) (h0 : a.length < 1000000) (h1 : b.length < 1000000) (ha : Srt a) (hb : Srt b) : Jt3o P p.pairset_Missing [.d (pairsD a), .d (pairsD b)] [] fun o _ => o = .ret (missA a b) := by
 refine A.pairset_Missing.run rfl fun R hR => ?_
 (simp (maxSteps := 1000000) [Jtbb, pairsD])
 refine Jt9 (fun k : Nat × Nat => ⟨[(11, AI k.1), (10, AI a.length), (9, .d (.sl (a.map Pair.row))), (6, AI k.2), (5, AB false), (4, .ptr 0 0), (1, .d (.sl (b.map Pair.row)))], [.mem [AI 0, AI 0]]⟩)
  (fun k => k.1 ≤ a.length ∧ k.2 ≤ b.length ∧ (∀ q ∈ a.take k.1, q ∈ b) ∧ ∀ j k', j < k.2 → k.1 ≤ k' → (h : j < b.length) → (h' : k' < a.length) → lessP b[j] a[k'] = true) (fun k => a.length - k.1) (0, 0) (by simp) (by (exact wkA)) ?_
 rintro ⟨k, i⟩ ⟨hk, hi, hz, hj⟩ N hN
 simp only at hk hi hz hj hN ⊢
 (simp (maxSteps := 1000000) [])
 ((first | refine Xc (fun h2 => ?_) (fun h2 => ?_) | refine Xo (fun h2 => ?_) (fun h2 => ?_)) <;> (try simp only [Xz, Xy] at h2))
 ·have hkl : k < a.length := by omega
  have hbk : a[k]? = some a[k] := by simp
  have hw := Jtog (k := k) (by omega)
  (simp (maxSteps := 1000000) [h2, hbk, Pair.row])
  refine Jt9 (fun i : Nat => ⟨[(8, .ptr 1 0), (11, AI k), (10, AI a.length), (9, .d (.sl (a.map Pair.row))), (6, AI i), (5, AB false), (4, .ptr 0 0), (1, .d (.sl (b.map Pair.row)))], [.mem [AI 0, AI 0], .mem [AI a[k].v, AI a[k].l]]⟩)
   (fun i => i ≤ b.length ∧ ∀ j k', j < i → k ≤ k' → (h : j < b.length) → (h' : k' < a.length) → lessP b[j] a[k'] = true) (fun i => b.length - i) i ⟨hi, hj⟩ (by (exact wkA)) ?_
  rintro i ⟨hi, hj⟩ N2 hN2
  have stop : (i = b.length ∨ ∃ h : i < b.length, lessP b[i] a[k] = false ∧ b[i] ≠ a[k]) → a[k] ∉ b := by
   intro hc hm
   obtain ⟨j, hjl, e⟩ := List.getElem_of_mem hm
   have h3 : i ≤ j := by
    rcases Nat.lt_or_ge j i with h | h
    ·have := hj j k h (Nat.le_refl _) hjl hkl
     rw [e, Jtdu] at this; cases this
    ·exact h
   rcases hc with hc | ⟨h, h4, h5⟩
   ·omega
   ·rcases Nat.lt_or_eq_of_le h3 with h3 | h3
    ·have := Jtmj hb h3 hjl
     rw [e, h4] at this; cases this
    ·subst h3; exact h5 e
  have go : ∀ (h : i < b.length), b[i] = a[k] → (∀ q ∈ a.take (k + 1), q ∈ b) ∧ ∀ j k', j < i → k + 1 ≤ k' → (h : j < b.length) → (h' : k' < a.length) → lessP b[j] a[k'] = true := by
   intro h e
   refine ⟨?_, fun j k' h1 h2 h3 h4 => hj j k' h1 (by omega) h3 h4⟩
   intro q hq
   rw [List.take_add_one, hbk] at hq
   rcases List.mem_append.1 hq with hq | hq
   ·exact hz q hq
   ·simp at hq; subst hq; rw [← e]; exact List.getElem_mem _
  (simp (maxSteps := 1000000) [])
  ((first | refine Xc (fun h3 => ?_) (fun h3 => ?_) | refine Xo (fun h3 => ?_) (fun h3 => ?_)) <;> (try simp only [Xz, Xy] at h3))
  ·have hil : i < b.length := by omega
   have hbi : b[i]? = some b[i] := by simp
   (simp (maxSteps := 1000000) [h3, hbi, Pair.row])
   (refine Jtt (Jthc A b[i] a[k]) (by rfl) (by rfl) ?_)
   (simp (maxSteps := 1000000) [])
   ((first | refine Xc (fun h4 => ?_) (fun h4 => ?_) | refine Xo (fun h4 => ?_) (fun h4 => ?_)) <;> (try simp only [Xz, Xy] at h4))
   ·have hwi := Jtog (k := i) (by omega)
    (simp (maxSteps := 1000000) [h4, hwi])
    refine hN2 _ (i + 1) ⟨hil, ?_⟩ (by (exact wkA)) (by omega)
    intro j k' h5 h6 h7 h8
    by_cases e : j = i
    ·subst e
     rcases Nat.lt_or_eq_of_le h6 with h6 | h6
     ·refine Jtdx (b := a[k]) h4 (Jtmj ha h6 h8)
     ·subst h6; exact h4
    ·exact hj j k' (by omega) h6 h7 h8
   ·have hne : ¬ ((i : Int) = (b.length : Int)) := by omega
    have h4' : lessP b[i] a[k] = false := by simpa using h4
    (simp (maxSteps := 1000000) [h4', hne, hbi, Pair.row])
    ((first | refine Xc (fun h5 => ?_) (fun h5 => ?_) | refine Xo (fun h5 => ?_) (fun h5 => ?_)) <;> (try simp only [Xz, Xy] at h5))
    ·have hx2 : a[k] ∉ b := stop (.inr ⟨hil, h4', fun e => by rw [e] at h5; simp at h5⟩)
     have := Jtfi hkl hz hx2
     (simp (maxSteps := 1000000) [h5])
     (first | exact hR _ _ FrA | exact hR _ _ FnA | exact hR _ _ (Xf (hq := by simp [AV.erase, AV.unview, missA, this, Pair.av]; done)))
    ·have e : b[i] = a[k] := Jt7s (by simp at h5; exact h5.1) (by simp at h5; exact h5.2)
     have := go hil e
     (simp (maxSteps := 1000000) [h5, hw])
     exact hN _ (k + 1, i) ⟨hkl, hi, this.1, this.2⟩ (by simp only; (exact wkA)) (by simp only; omega)
  ·have e : i = b.length := by omega
   have hx2 : a[k] ∉ b := stop (.inl e)
   have := Jtfi hkl hz hx2
   (simp (maxSteps := 1000000) [h3, e])
   (first | exact hR _ _ FrA | exact hR _ _ FnA | exact hR _ _ (Xf (hq := by simp [AV.erase, AV.unview, missA, this, Pair.av]; done)))
 ·have hk' : k = a.length := by omega
  subst hk'
  have := Jtfj (a := a) (b := b) (by simpa using hz)
  (simp (maxSteps := 1000000) [])
  (first | exact hR _ _ FrA | exact hR _ _ FnA | exact hR _ _ (Xf (hq := by simp [AV.erase, AV.unview, missA, this, Pair.av]; done)))
end
def mergeP : List Pair → List Pair → List Pair
 | [], b => b
 | x :: a, [] => x :: a
 | x :: a, y :: b => if lessP y x = true then y :: mergeP (x :: a) b else if y = x then x :: mergeP a b else x :: mergeP a (y :: b)
termination_by a b => a.length + b.length
theorem Jtff (a : List Pair) : mergeP a [] = a := by cases a <;> simp [mergeP]
theorem Jtf8 {a b : List Pair} {q : Pair} : q ∈ mergeP a b ↔ q ∈ a ∨ q ∈ b := by
 induction a, b using mergeP.induct with
 | case1 b => simp [mergeP]
 | case2 x a => simp [mergeP]
 | case3 x a y b h ih => rw [mergeP, if_pos h, List.mem_cons, ih]; simp only [List.mem_cons]; constructor <;> (intro h; rcases h with h | h | h <;> simp_all)
 | case4 a b x h ih => rw [mergeP, if_neg h, if_pos rfl, List.mem_cons, ih]; simp only [List.mem_cons]; constructor <;> grind
 | case5 x a y b h h2 ih => rw [mergeP, if_neg h, if_neg h2, List.mem_cons, ih]; simp only [List.mem_cons]; constructor <;> grind
theorem Jtml {a b : List Pair} (ha : Srt a) (hb : Srt b) : Srt (mergeP a b) := by
 induction a, b using mergeP.induct with
 | case1 b => simpa [mergeP] using hb
 | case2 x a => simpa [mergeP] using ha
 | case3 x a y b h ih =>
  rw [mergeP, if_pos h]
  refine Jtmd.2 ⟨fun q hq => ?_, ih ha (Jtmd.1 hb).2⟩
  rw [Jtf8, List.mem_cons] at hq
  rcases hq with (rfl | hq) | hq
  ·exact h
  ·exact Jtdx h ((Jtmd.1 ha).1 q hq)
  ·exact (Jtmd.1 hb).1 q hq
 | case4 a b x h ih =>
  rw [mergeP, if_neg h, if_pos rfl]
  refine Jtmd.2 ⟨fun q hq => ?_, ih (Jtmd.1 ha).2 (Jtmd.1 hb).2⟩
  rw [Jtf8] at hq
  rcases hq with hq | hq
  ·exact (Jtmd.1 ha).1 q hq
  ·exact (Jtmd.1 hb).1 q hq
 | case5 x a y b h h2 ih =>
  rw [mergeP, if_neg h, if_neg h2]
  have hxy : lessP x y = true := by
   cases e : lessP x y with
   | true => rfl
   | false => exact absurd (Jtdw (by simpa using h) e) h2
  refine Jtmd.2 ⟨fun q hq => ?_, ih (Jtmd.1 ha).2 hb⟩
  rw [Jtf8, List.mem_cons] at hq
  rcases hq with hq | rfl | hq
  ·exact (Jtmd.1 ha).1 q hq
  ·exact hxy
  ·exact Jtdx hxy ((Jtmd.1 hb).1 q hq)
section
theorem Jthg {P : Program} {p : Nums} (A : All P p) (a b : List Pair) (h0 : a.length < 1000000) (h1 : b.length < 1000000) : Jt3o P p.pairset_Union [.d (pairsD a), .d (pairsD b)] [] fun o H' => o = .ret (.own 2 ((mergeP a b).map Pair.row)) ∧ H' = [] := by
 refine A.pairset_Union.run rfl fun R hR => ?_
 have hw : IntKind.i64.wrap ((a.length : Int) + (b.length : Int)) = ((a.length + b.length : Nat) : Int) := Jtof (by omega)
 obtain ⟨n, hn⟩ : ∃ n, n = a.length + b.length := ⟨_, rfl⟩
 rw [← hn] at hw
 (simp (maxSteps := 1000000) [Jtbc, pairsD, hw])
 refine Jt1y (n := n) (by rfl) (by rfl) (by omega) (by omega) (by decide) (by rfl) ?_
 (simp (maxSteps := 1000000) [])
 have hrow : ∀ l : List Pair, ∀ r ∈ l.map Pair.row, r.length = 2 := fun l => Jtko fun x => rfl
 refine Jt9 (fun s : List Pair × List Pair × List Pair => ⟨[(5, .own 2 (s.2.2.map Pair.row)), (4, .nils), (1, .d (.sl (s.2.1.map Pair.row))), (0, .d (.sl (s.1.map Pair.row)))], []⟩)
  (fun s => s.2.2 ++ mergeP s.1 s.2.1 = mergeP a b ∧ s.1.length + s.2.1.length + s.2.2.length ≤ n) (fun s => s.1.length + s.2.1.length) (a, b, []) ⟨by simp, by simp; omega⟩ (by simp only [List.map_nil]; (exact wkA)) ?_
 rintro ⟨xs, ys, out⟩ ⟨hm, hlen⟩ N hN
 simp only at hm hlen hN ⊢
 have fin : xs = [] ∨ ys = [] → (out.map Pair.row ++ xs.map Pair.row) ++ ys.map Pair.row = (mergeP a b).map Pair.row := by
  intro h
  rw [← hm]
  rcases h with rfl | rfl
  ·simp [mergeP]
  ·simp [Jtff]
 cases xs with
 | nil =>
  (simp (maxSteps := 1000000) [])
  (refine Jt16 (by rfl) (by rfl) (by rfl) ?_ (by decide) ?_ ?_ ?_)
  ·simp
  ·simp; omega
  ·simp; omega
  (simp (maxSteps := 1000000) [])
  (refine Jt16 (by rfl) (by rfl) (by rfl) ?_ (by decide) ?_ ?_ ?_)
  ·exact hrow _
  ·simp at hlen ⊢; omega
  ·simp at hlen ⊢; omega
  (simp (maxSteps := 1000000) [])
  exact hR _ _ (Jt3q _ _ rfl ⟨by simp [← fin (.inl rfl)], rfl⟩)
 | cons x xs =>
  have hx0 : ¬ ((xs.length : Int) + 1 ≤ 0) := by omega
  have hx1 : (0 : Int) < (xs.length : Int) + 1 := by omega
  cases ys with
  | nil =>
   (simp (maxSteps := 1000000) [hx1])
   (refine Jt16 (by rfl) (by rfl) (by rfl) ?_ (by decide) ?_ ?_ ?_)
   ·simpa using hrow (x :: xs)
   ·simp at hlen ⊢; omega
   ·simp at hlen ⊢; omega
   (simp (maxSteps := 1000000) [])
   (refine Jt16 (by rfl) (by rfl) (by rfl) ?_ (by decide) ?_ ?_ ?_)
   ·simp
   ·simp at hlen ⊢; omega
   ·simp at hlen ⊢; omega
   (simp (maxSteps := 1000000) [])
   have := fin (.inr rfl)
   simp only [List.map_cons, List.map_nil, List.append_nil] at this
   exact hR _ _ (Jt3q _ _ rfl ⟨by simp [← this], rfl⟩)
  | cons y ys =>
   have hy1 : (0 : Int) < (ys.length : Int) + 1 := by omega
   have hx2 : (1 : Int) ≤ (xs.length : Int) + 1 := by omega
   have hy2 : (1 : Int) ≤ (ys.length : Int) + 1 := by omega
   have htx : (xs.map Pair.row).take xs.length = xs.map Pair.row := List.take_of_length_le (by simp)
   have hty : (ys.map Pair.row).take ys.length = ys.map Pair.row := List.take_of_length_le (by simp)
   simp only [List.length_cons] at hlen
   rw [mergeP] at hm
   (simp (maxSteps := 1000000) [hx1, hy1, Pair.row])
   (refine Jtt (Jthc A y x) (by rfl) (by rfl) ?_)
   (simp (maxSteps := 1000000) [])
   ((first | refine Xc (fun h2 => ?_) (fun h2 => ?_) | refine Xo (fun h2 => ?_) (fun h2 => ?_)) <;> (try simp only [Xz, Xy] at h2))
   ·rw [if_pos h2] at hm
    have hne : ¬ x = y := fun h => Jtdv h2 h.symm
    have hs1 : IntKind.i64.wrap 1 = 1 := by rw [wrap_i64 (by omega) (by omega)]
    (simp (maxSteps := 1000000) [h2, Pair.row])
    (refine Jt16 (by rfl) (by rfl) (by rfl) ?_ (by decide) ?_ ?_ ?_)
    ·simp
    ·simp at hlen ⊢; omega
    ·simp at hlen ⊢; omega
    (simp (maxSteps := 1000000) [Pair.row, Jth1, hne, hy2, hty])
    refine hN _ (x :: xs, ys, out ++ [y]) ⟨by simp only; rw [← hm]; simp, by simp; omega⟩ ?_ (by simp only [List.length_cons]; omega)
    simp only [List.map_cons, List.map_append, List.map_nil, Pair.row]
    (exact wkA)
   ·have h2' : lessP y x = false := by simpa using h2
    rw [if_neg (by rw [h2']; simp)] at hm
    (simp (maxSteps := 1000000) [h2', Pair.row])
    (refine Jt16 (by rfl) (by rfl) (by rfl) ?_ (by decide) ?_ ?_ ?_)
    ·simp
    ·simp at hlen ⊢; omega
    ·simp at hlen ⊢; omega
    by_cases e : y = x
    ·rw [if_pos e] at hm
     subst e
     (simp (maxSteps := 1000000) [Pair.row, Jth1, hx2, hy2, htx, hty])
     refine hN _ (xs, ys, out ++ [y]) ⟨by simp only; rw [← hm]; simp, by simp; omega⟩ ?_ (by simp only [List.length_cons]; omega)
     simp only [List.map_cons, List.map_append, List.map_nil, Pair.row]
     (exact wkA)
    ·rw [if_neg e] at hm
     (simp (maxSteps := 1000000) [Pair.row, Jth1, e, hx2, htx])
     refine hN _ (xs, y :: ys, out ++ [x]) ⟨by simp only; rw [← hm]; simp, by simp; omega⟩ ?_ (by simp only [List.length_cons]; omega)
     simp only [List.map_cons, List.map_append, List.map_nil, Pair.row]
     (exact wkA)
end
theorem Jtki {rows : List (List D)} {e k : Nat} (he : ∀ r ∈ rows, r.length = e) (hk : k < rows.length) : ((Jtkf rows).drop (k * e)).take e = rows[k].map AV.d := by
 unfold Jtkf
 induction rows generalizing k with
 | nil => simp at hk
 | cons r rows ih =>
  have h1 := he r (by simp)
  cases k with
  | zero => simp only [Nat.zero_mul, List.drop_zero, List.flatten_cons, List.map_append, List.getElem_cons_zero]; rw [List.take_left' (by simp [h1])]
  | succ k =>
   have h2 := ih (fun r hr => he r (by simp [hr])) (k := k) (by simpa using hk)
   simp only [List.flatten_cons, List.map_append, List.getElem_cons_succ]
   have e1 : (k + 1) * e = (r.map AV.d).length + k * e := by rw [Nat.add_mul]; simp [h1]; omega
   rw [e1, List.drop_length_add_append]; exact h2
theorem Jth0 {l : List Pair} {k : Nat} (hk : k < l.length) : ((Jtkf (l.map Pair.row)).drop (k * 2)).take 2 = [AI l[k].v, AI l[k].l] := by
 rw [Jtki (e := 2) (rows := l.map Pair.row) (Jtko (f := Pair.row) fun _ => rfl) (by simpa using hk)]; simp [Pair.row]
theorem Jtkh (l : List Pair) : (Jtkf (l.map Pair.row)).length = l.length * 2 := by
 rw [Jtkk (e := 2) (Jtko fun _ => rfl)]; simp
theorem Jtkj (rows : List (List D)) : (Jtkf rows).map AV.erase = Jtkf rows := by
 simp [Jtkf, AV.erase, Function.comp_def]
def ddStep (out : List Pair) (q : Pair) : List Pair := if out.getLast? = some q then out else out ++ [q]
def dd (l : List Pair) : List Pair := l.foldl ddStep []
theorem Jt77 (l : List Pair) (q : Pair) : dd (l ++ [q]) = ddStep (dd l) q := by simp [dd]
theorem Jt76 (l : List Pair) : (dd l).getLast? = l.getLast? := by
 induction l using Jtes with
 | h0 => rfl
 | h1 l q ih =>
  rw [Jt77, ddStep]
  split
  ·rename_i h; rw [h]; simp
  ·simp
theorem mem_dd {l : List Pair} {q : Pair} : q ∈ dd l ↔ q ∈ l := by
 induction l using Jtes with
 | h0 => simp [dd]
 | h1 l x ih =>
  rw [Jt77, ddStep]
  split
  ·rename_i h
   rw [ih, List.mem_append]
   have : x ∈ l := by rw [Jt76] at h; exact List.mem_of_getLast? h
   constructor
   ·exact .inl
   ·rintro (h | h)
    ·exact h
    ·simp at h; subst h; exact this
  ·rw [List.mem_append, List.mem_append, ih]
theorem Jt79 {l : List Pair} {k : Nat} (h0 : 0 < k) (h : k < l.length) : dd (l.take (k + 1)) = if l[k - 1]'(by omega) = l[k] then dd (l.take k) else dd (l.take k) ++ [l[k]] := by
 have e : l.take (k + 1) = l.take k ++ [l[k]] := by rw [List.take_add_one, List.getElem?_eq_getElem h]; rfl
 rw [e, Jt77, ddStep, Jt76]
 have : (l.take k).getLast? = some (l[k - 1]'(by omega)) := by
  rw [List.getLast?_eq_getElem?, List.getElem?_take]; simp only [List.length_take, Option.ite_none_right_eq_some]; rw [show min k l.length - 1 = k - 1 by omega, List.getElem?_eq_getElem (by omega)]; exact ⟨by omega, rfl⟩
 rw [this]; simp
def cptP (l : List Pair) : List Pair := dd l ++ List.replicate (l.length - (dd l).length) (⟨0, 0⟩ : Pair)
theorem Jt70 {l : List Pair} (h : dd l = l) : cptP l = l := by unfold cptP; rw [h]; simp
theorem srt_dd {l : List Pair} (h : l.Pairwise fun a b => lessP b a = false) : Srt (dd l) := by
 induction l using Jtes with
 | h0 => exact List.Pairwise.nil
 | h1 l x ih =>
  have h2 := List.pairwise_append.1 h
  have ih := ih h2.1
  rw [Jt77, ddStep]
  split
  ·exact ih
  ·rename_i hl
   refine List.pairwise_append.2 ⟨ih, List.pairwise_singleton _ _, ?_⟩
   intro a ha b hb
   simp at hb; subst hb
   have hab := h2.2.2 a (mem_dd.1 ha) b (by simp)
   cases e : lessP a b with
   | true => rfl
   | false =>
    have eab := Jtdw e hab
    subst eab
    obtain ⟨j, hj, ej⟩ := List.getElem_of_mem ha
    have hne : dd l ≠ [] := List.ne_nil_of_mem ha
    have hjl : j < (dd l).length - 1 := by
     rcases Nat.lt_or_ge j ((dd l).length - 1) with h | h
     ·exact h
     ·refine absurd ?_ hl
      rw [List.getLast?_eq_getElem?, show (dd l).length - 1 = j by omega, List.getElem?_eq_getElem hj, ej]
    have h3 := Jtmj ih hjl (by omega)
    rw [ej] at h3
    have hm : (dd l)[(dd l).length - 1]'(by omega) ∈ l := mem_dd.1 (List.getElem_mem _)
    rw [h2.2.2 _ hm a (by simp)] at h3; cases h3
section
theorem Jtlh {P : Program} {p : Nums} (A : All P p) : Jt3o P p.slices_Clone_Pair [.d (.sl [])] [] fun o H' => o = .ret (.d (.sl [])) ∧ H' = [] := by
 refine A.slices_Clone_Pair.run rfl fun R hR => ?_
 (simp (maxSteps := 1000000) [Jtch])
 refine Jt1q (by rfl) (fun _ => ?_) ?_
 ·(simp (maxSteps := 1000000) [])
  exact hR _ _ (Jt3u _ _ rfl (by (exact wkvA)) ⟨rfl, rfl⟩)
 ·(simp (maxSteps := 1000000) [])
  refine Jt15 (by rfl) (by rfl) (by simp) (by decide) (by simp) (by simp) (fun hn => ?_) fun hn => absurd rfl hn
  (simp (maxSteps := 1000000) [])
  exact hR _ _ (Jt3u _ _ rfl (by (exact wkvA)) ⟨rfl, rfl⟩)
theorem Jtlg {P : Program} {p : Nums} (A : All P p) (l : List Pair) (hl : l ≠ []) (h0 : l.length < 1000000) : Jt3o P p.slices_Clone_Pair [.d (pairsD l)] [] fun o H' => o = .ret (.hsl 0 0 2 l.length) ∧ H' = [.mem (Jtkf (l.map Pair.row))] := by
 refine A.slices_Clone_Pair.run rfl fun R hR => ?_
 (simp (maxSteps := 1000000) [Jtch, pairsD])
 refine Jt1q (by rfl) (fun h => absurd (by simpa using h) hl) ?_
 (simp (maxSteps := 1000000) [])
 refine Jt14 (.inl (by rfl)) (by rfl) (Jtko fun _ => rfl) (by decide) (by simp; omega) (by simp; omega) (by simpa using hl) ?_
 (simp (maxSteps := 1000000) [])
 exact hR _ _ (Jt3t _ _ _ rfl (by (exact wkA)) ⟨by simp, rfl⟩)
theorem Jtlj {P : Program} {p : Nums} (A : All P p) : Jt3o P p.slices_Compact_Pair [.d (.sl [])] [] fun o H' => o = .ret (.d (.sl [])) ∧ H' = [] := by
 refine A.slices_Compact_Pair.run rfl fun R hR => ?_
 (simp (maxSteps := 1000000) [Jtci])
 exact hR _ _ (Jt3u _ _ rfl (by (exact wkvA)) ⟨rfl, rfl⟩)
theorem Jtli {P : Program} {p : Nums} (A : All P p) (l : List Pair) (hl : l ≠ []) (h0 : l.length < 1000000) : Jt3o P p.slices_Compact_Pair [.hsl 0 0 2 l.length] [.mem (Jtkf (l.map Pair.row))] fun o H' => o = .ret (.hsl 0 0 2 (dd l).length) ∧ H' = [.mem (Jtkf ((cptP l).map Pair.row))] := by
 refine A.slices_Compact_Pair.run rfl fun R hR => ?_
 (simp (maxSteps := 1000000) [Jtci])
 have hpos : 0 < l.length := List.length_pos_iff.2 hl
 have dd1 : dd (l.take 1) = l.take 1 := by
  cases l with
  | nil => exact absurd rfl hl
  | cons x l => simp [dd, ddStep]
 have done : dd l = l → R .ret ⟨[(2, .hsl 0 0 2 l.length)], [.mem (Jtkf (l.map Pair.row))]⟩ := by
  intro e
  refine hR _ _ (Jt3t _ (.hsl 0 0 2 l.length) [.mem (Jtkf (l.map Pair.row))] rfl (by (exact wkA)) ⟨by rw [e], by rw [Jt70 e]⟩)
 ((first | refine Xc (fun h1 => ?_) (fun h1 => ?_) | refine Xo (fun h1 => ?_) (fun h1 => ?_)) <;> (try simp only [Xz, Xy] at h1))
 ·have e1 : l.length = 1 := by omega
  have : dd l = l := by rw [show l.take 1 = l from List.take_of_length_le (by omega)] at dd1; exact dd1
  (simp (maxSteps := 1000000) [h1])
  refine hR _ _ (Jt3t _ (.hsl 0 0 2 l.length) [.mem (Jtkf (l.map Pair.row))] rfl (by (exact wkA)) ⟨by rw [this], by rw [Jt70 this]⟩)
 (simp (maxSteps := 1000000) [h1])
 refine Jt9 (fun k : Nat => ⟨[(3, AI k), (2, .nils), (0, .hsl 0 0 2 l.length)], [.mem (Jtkf (l.map Pair.row))]⟩) (fun k => 1 ≤ k ∧ k ≤ l.length ∧ dd (l.take k) = l.take k) (fun k => l.length - k) 1 ⟨by omega, by omega, dd1⟩ (by (exact wkA)) ?_
 rintro k ⟨hk1, hk, hd⟩ N hN
 have hlc := Jtkh l
 (simp (maxSteps := 1000000) [])
 ((first | refine Xc (fun h2 => ?_) (fun h2 => ?_) | refine Xo (fun h2 => ?_) (fun h2 => ?_)) <;> (try simp only [Xz, Xy] at h2))
 ·have hkl : k < l.length := by omega
  have hw := Jtog (k := k) (by omega)
  obtain ⟨km, hkm⟩ : ∃ km, km = k - 1 := ⟨_, rfl⟩
  have hw2 : IntKind.i64.wrap ((k : Int) - 1) = (km : Int) := by rw [wrap_i64 (by omega) (by omega)]; omega
  have hp1 := Jth0 (l := l) (k := km) (by omega)
  have hp2 := Jth0 (l := l) (k := k) hkl
  have hce := Jtkj (l.map Pair.row)
  obtain ⟨C, hC⟩ : ∃ C, C = Jtkf (l.map Pair.row) := ⟨_, rfl⟩
  have hkml : km < l.length := by omega
  obtain ⟨x, hx⟩ : ∃ x, x = l[k] := ⟨_, rfl⟩
  obtain ⟨y, hy⟩ : ∃ y, y = l[km] := ⟨_, rfl⟩
  rw [← hC] at hlc hp1 hp2 hce ⊢
  rw [← hx] at hp2
  rw [← hy] at hp1
  have hl1 : km * 2 + 2 ≤ C.length := by omega
  have hl2 : k * 2 + 2 ≤ C.length := by omega
  have hk2 : (km : Int) < (l.length : Int) := by omega
  (simp (maxSteps := 1000000) [h2, hw2, hk2, hl1, hl2, hp1, hp2, hce, Jth1])
  ((first | refine Xc (fun h3 => ?_) (fun h3 => ?_) | refine Xo (fun h3 => ?_) (fun h3 => ?_)) <;> (try simp only [Xz, Xy] at h3))
  ·have hsl : IntKind.i64.wrap 1 = 1 := by rw [wrap_i64 (by omega) (by omega)]
   have hkle : k ≤ l.length := by omega
   (simp (maxSteps := 1000000) [h3, hkle])
   have hdk : dd (l.take (k + 1)) = l.take k := by
    rw [Jt79 hk1 hkl, if_pos, hd]
    rw [← hx, h3, hy]; simp only [hkm]
   refine Jt9 (fun s : Nat × Nat × List Pair => ⟨[(5, AI s.1), (4, .hsl 0 (k * 2) 2 (l.length - k)), (3, AI s.2.1), (2, .nils), (0, .hsl 0 0 2 l.length)], [.mem (Jtkf (s.2.2.map Pair.row))]⟩)
    (fun s => 1 ≤ s.1 ∧ k + s.1 ≤ l.length ∧ s.2.1 + 1 ≤ k + s.1 ∧ s.2.2.length = l.length ∧ s.2.2.take s.2.1 = dd (l.take (k + s.1)) ∧ s.2.2.drop (k + s.1 - 1) = l.drop (k + s.1 - 1)) (fun s => l.length - s.1) (1, k, l)
    ⟨by simp, by simp; omega, by simp, rfl, hdk.symm, rfl⟩ (by rw [hC]; (exact wkA)) ?_
   rintro ⟨j, i, cur⟩ ⟨hj1, hjn, hij, hcl, hct, hcd⟩ N2 hN2
   simp only at hj1 hjn hij hcl hct hcd hN2 ⊢
   have hlc2 := Jtkh cur
   have hce2 := Jtkj (cur.map Pair.row)
   (simp (maxSteps := 1000000) [])
   ((first | refine Xc (fun h4 => ?_) (fun h4 => ?_) | refine Xo (fun h4 => ?_) (fun h4 => ?_)) <;> (try simp only [Xz, Xy] at h4))
   ·have h4' : k + j < l.length := by omega
    have hcur : ∀ m, k + j - 1 ≤ m → (h : m < l.length) → cur[m]'(by omega) = l[m] := by
     intro m h5 h6
     have e1 : (cur.drop (k + j - 1))[m - (k + j - 1)]? = cur[m]? := by rw [List.getElem?_drop, Nat.add_sub_cancel' h5]
     have e2 : (l.drop (k + j - 1))[m - (k + j - 1)]? = l[m]? := by rw [List.getElem?_drop, Nat.add_sub_cancel' h5]
     rw [hcd, e2, List.getElem?_eq_getElem h6, List.getElem?_eq_getElem (by omega)] at e1
     injection e1 with e1; exact e1.symm
    obtain ⟨jm, hjm⟩ : ∃ jm, jm = j - 1 := ⟨_, rfl⟩
    have hwj := Jtog (k := j) (by omega)
    have hwi := Jtog (k := i) (by omega)
    have hwjm : IntKind.i64.wrap ((j : Int) - 1) = (jm : Int) := by rw [wrap_i64 (by omega) (by omega)]; omega
    have hq1 := Jth0 (l := cur) (k := k + j) (by omega)
    have hq2 := Jth0 (l := cur) (k := k + jm) (by omega)
    rw [hcur _ (by omega) (by omega), Nat.add_mul] at hq1 hq2
    have hdj := Jt79 (l := l) (k := k + j) (by omega) h4'
    have ejm : k + j - 1 = k + jm := by omega
    simp only [ejm] at hdj hcur hcd
    obtain ⟨u, hu⟩ : ∃ u, u = l[k + j] := ⟨_, rfl⟩
    obtain ⟨v, hv⟩ : ∃ v, v = l[k + jm]'(by omega) := ⟨_, rfl⟩
    rw [← hu] at hq1 hdj
    rw [← hv] at hq2 hdj
    have hset := Jtm3 (rows := cur.map Pair.row) (e := 2) (k := i) (row := u.row) (Jtko fun _ => rfl) rfl (by simp; omega)
    obtain ⟨E, hE⟩ : ∃ E, E = Jtkf (cur.map Pair.row) := ⟨_, rfl⟩
    rw [← hE] at hlc2 hce2 hq1 hq2 hset ⊢
    have hm1 : k * 2 + j * 2 + 2 ≤ E.length := by omega
    have hm2 : k * 2 + jm * 2 + 2 ≤ E.length := by omega
    have hm3 : i * 2 + 2 ≤ E.length := by omega
    have hn1 : (j : Int) < ((l.length - k : Nat) : Int) := by omega
    have hn2 : (jm : Int) < ((l.length - k : Nat) : Int) := by omega
    have hn3 : (i : Int) < (l.length : Int) := by omega
    have hcd' : ∀ c : List Pair, c.drop (k + jm) = l.drop (k + jm) → c.drop (k + j) = l.drop (k + j) := by
     intro c hc
     have := congrArg (List.drop 1) hc
     rw [List.drop_drop, List.drop_drop] at this
     rwa [show k + jm + 1 = k + j by omega] at this
    (simp (maxSteps := 1000000) [h4, hwjm, hn1, hn2, hm1, hm2, hq1, hq2, hce2, Jth1])
    ((first | refine Xc (fun h5 => ?_) (fun h5 => ?_) | refine Xo (fun h5 => ?_) (fun h5 => ?_)) <;> (try simp only [Xz, Xy] at h5))
    ·(simp (maxSteps := 1000000) [h5, hn1, hn2, hn3, hm1, hm2, hm3, hq1, hq2, hce2, hwi, hwj])
     rw [if_neg (by intro e; exact h5 e.symm)] at hdj
     have hset' : List.take (i * 2) E ++ AI u.v :: AI u.l :: List.drop (i * 2 + 2) E = Jtkf ((cur.set i u).map Pair.row) := by
      rw [List.map_set, ← hset]; simp [spl, Pair.row]
     rw [hset']
     refine hN2 _ (j + 1, i + 1, cur.set i u) ⟨by simp only; omega, by simp only; omega, by simp only; omega, by simpa using hcl, ?_, ?_⟩ (by simp only; (exact wkA)) (by simp only; omega)
     ·simp only
      rw [← Nat.add_assoc, hdj, ← hct, List.take_add_one, List.getElem?_set_self (by omega), List.take_set_of_le (by omega)]; rfl
     ·simp only
      rw [show k + (j + 1) - 1 = k + j by omega, List.drop_set_of_lt (by omega)]; exact hcd' _ hcd
    ·(simp (maxSteps := 1000000) [h5, hwj])
     rw [if_pos (by simpa using Eq.symm (by simpa using h5))] at hdj
     refine hN2 _ (j + 1, i, cur) ⟨by simp only; omega, by simp only; omega, by simp only; omega, hcl, ?_, ?_⟩ (by simp only; rw [hE]; (exact wkA)) (by simp only; omega)
     ·simp only; rw [hct, ← Nat.add_assoc, hdj]
     ·simp only; rw [show k + (j + 1) - 1 = k + j by omega]; exact hcd' _ hcd
   ·have hj2 : k + j = l.length := by omega
    rw [hj2, List.take_length] at hct
    have hil : i < l.length := by omega
    have hil' : i ≤ l.length := by omega
    have hdl : (dd l).length = i := by rw [← hct]; simp; omega
    have hzero : ¬ (l.length - i = 0) := by omega
    (simp (maxSteps := 1000000) [hil'])
    refine Jt1g (by rfl) (by rfl) (by decide) (by omega) (by rfl) (by omega) ?_
    obtain ⟨T, hT⟩ : ∃ T : List Pair, T = List.replicate (l.length - i) (⟨0, 0⟩ : Pair) := ⟨_, rfl⟩
    obtain ⟨U, hU⟩ : ∃ U : List Pair, U = dd l ++ T := ⟨_, rfl⟩
    have hfin : spl (Jtkf (cur.map Pair.row)) (i * 2) (Jtkf (List.replicate (l.length - i) [I 0, I 0])) = Jtkf (U.map Pair.row) := by
     have h7 : (Jtkf (List.replicate (l.length - i) [I 0, I 0])).length = (l.length - i) * 2 := by
      rw [Jtkk (e := 2) (fun r hr => by rw [List.eq_of_mem_replicate hr]; rfl)]; simp
     rw [spl, Jtkl (e := 2) (rows := cur.map Pair.row) (Jtko (f := Pair.row) fun _ => rfl), h7, List.drop_of_length_le (by omega), List.append_nil, ← List.map_take, hct, hU, hT]
     simp [Jtkf, Pair.row]
    rw [hfin]
    (simp (maxSteps := 1000000) [hil'])
    refine hR _ _ (Jt3t _ (.hsl 0 0 2 i) [.mem (Jtkf (U.map Pair.row))] rfl (by (exact wkA)) ⟨by rw [hdl], by rw [hU, hT, cptP, hdl]⟩)
  ·(simp (maxSteps := 1000000) [h3, hw])
   refine hN _ (k + 1) ⟨by omega, hkl, ?_⟩ (by rw [hC]; (exact wkA)) (by omega)
   have e : ¬ l[k - 1]'(by omega) = l[k] := by
    rw [← hx]; intro e; apply h3; rw [← e, hy]; simp only [hkm]
   rw [Jt79 hk1 hkl, if_neg e, hd, List.take_add_one, List.getElem?_eq_getElem hkl]; rfl
 ·have hk' : k = l.length := by omega
  subst hk'
  rw [List.take_length] at hd
  (simp (maxSteps := 1000000) [])
  refine hR _ _ (Jt3t _ (.hsl 0 0 2 l.length) [.mem (Jtkf (l.map Pair.row))] rfl (by (exact wkA)) ⟨by rw [hd], by rw [Jt70 hd]⟩)
end
end Go.AE
namespace Go.AE
open Go Go.Proofs Go.Shelf Go.Sort
def encP (x : Pair) : List Value := [.int .i64 x.v, .int .i64 x.l]
def cfP (a b : Pair) : Int := if lessP a b = true then -1 else if lessP b a = true then 1 else 0
theorem Jted (a b : Pair) : ltOf cfP a b = lessP a b := by
 unfold ltOf cfP
 cases h1 : lessP a b <;> cases h2 : lessP b a <;> simp
theorem swoP : SWO (ltOf cfP) where
 irrefl x := by rw [Jted]; exact Jtdu x
 trans x y z h1 h2 := by rw [Jted] at *; exact Jtdx h1 h2
 ntrans x y z h1 h2 := by
  rw [Jted] at *
  have h1 : ¬ lessP x y = true := by simp [h1]
  have h2 : ¬ lessP y z = true := by simp [h2]
  cases h : lessP x z with
  | false => rfl
  | true => rw [Jtdt] at *; omega
def sortP (l : List Pair) : List Pair := l.mergeSort fun x y => !lessP y x
theorem Jtlk (l : List Pair) : (sortP l).length = l.length := by simp [sortP]
theorem Jt8i : ∀ (l : List Pair) (j : Nat) (h : j < 2 * l.length), (l.map Pair.row).flatten[j]? = some (if j % 2 = 0 then I (l[j / 2]'(by omega)).v else I (l[j / 2]'(by omega)).l) := by
 intro l
 induction l with
 | nil => intro j h; simp at h
 | cons x l ih =>
  intro j h
  match j, h with
  | 0, h => simp [Pair.row]
  | 1, h => simp [Pair.row]
  | j + 2, h =>
   have h' : j < 2 * l.length := by simp at h; omega
   have e := ih j h'
   have e1 : (j + 2) / 2 = j / 2 + 1 := by omega
   have e2 : (j + 2) % 2 = j % 2 := by omega
   simp only [List.map_cons, List.flatten_cons, Pair.row, List.cons_append, List.nil_append, List.getElem?_cons_succ, e2]
   rw [e]
   simp only [e1, List.getElem_cons_succ]
theorem Jt8h (l : List Pair) (j : Nat) (h : j < 2 * l.length) : ∃ n : Int, (Jtkf (l.map Pair.row))[j]? = some (AI n) ∧ (flatK encP 2 l.toArray)[j]! = .int .i64 n := by
 have h1 := Jt8i l j h
 have h2 := get_flatK encP 2 l.toArray j (by simp; omega)
 have h3 : l.toArray[j / 2]! = l[j / 2]'(by omega) := by
  rw [getElem!_pos _ _ (by simp; omega)]; simp
 rw [h3] at h2
 rcases Nat.mod_two_eq_zero_or_one j with hm | hm
 ·refine ⟨(l[j / 2]'(by omega)).v, ?_, ?_⟩
  ·rw [Jtkf, List.getElem?_map, h1, hm]; rfl
  ·rw [h2, hm]; rfl
 ·refine ⟨(l[j / 2]'(by omega)).l, ?_, ?_⟩
  ·rw [Jtkf, List.getElem?_map, h1, hm]; rfl
  ·rw [h2, hm]; rfl
theorem Jtkg (l : List Pair) : (Jtkf (l.map Pair.row)).length = 2 * l.length := by
 rw [Jtkk (e := 2) (Jtko fun _ => rfl)]; simp; omega
section
variable {P : Program} {ρ : Ren}
theorem Jtlq (L : SlLaysF0.n6 P ρ) (aE : ∀ w, (isAgg (ρ.t 24)).run P w = .ok true w) (zE : ∀ w, (Go.sizeOf (ρ.t 24)).run P w = .ok 2 w) (c : Nat) (eg : ∀ args w, (callFunc c args).run P w = .ok (.enter c args) w)
  (hcmp : ∀ blk off size w, CmpLays P c #[] encP 2 cfP blk off size w) (l : List Pair) (hne : l ≠ []) (hlen : l.length < 4611686018427387904) :
  Jt3o P (ρ.f 6) [.hsl 0 0 2 l.length, .fn (.func c) [] []] [.mem (Jtkf (l.map Pair.row))] fun o H' => o = .ret (.tup []) ∧ H' = [.mem (Jtkf ((sortP l).map Pair.row))] := by
 intro g vs w hsz hs
 have hn : l.length ≠ 0 := by simpa using hne
 obtain ⟨vs⟩ := vs
 obtain ⟨v0, v1, rfl⟩ : ∃ a b, vs = [a, b] := by
  match vs, hsz with
  | [a, b], _ => exact ⟨a, b, rfl⟩
 have e0 : Rel g.F g.φ w (.hsl 0 0 2 l.length) v0 := hs.env 0 _ rfl
 have e1 : Rel g.F g.φ w (.fn (.func c) [] []) v1 := hs.env 1 _ rfl
 cases e0 with
 | hsl _ _ _ _ r cap a hφ hcap ha _ =>
 have ha := ha hn; subst ha
 cases e1 with
 | fn _ _ _ us us' hl _ hl' _ =>
 have : us = [] := by simpa using hl
 subst this
 have : us' = [] := by simpa using hl'
 subst this
 obtain ⟨cl, te, hc, hcs, hcell⟩ := hs.mem 0 _ r rfl hφ
 have hF := (hs.lt 0 r hφ).2.1
 have hrl := (hs.lt 0 r hφ).1
 rw [Jtkg] at hcs
 have hH : HoldsK encP 2 w r 0 l.toArray := by
  intro j hj
  rw [size_flatK] at hj
  have hj' : j < 2 * l.length := by simp at hj; omega
  obtain ⟨n, h1, h2⟩ := Jt8h l j hj'
  obtain ⟨_, u, hu, hrel⟩ := hcell j _ h1
  cases hrel with
  | d _ _ hp =>
  cases hp with
  | int k m =>
  constructor
  ·rw [h2]; simp [World.cell?, hc, hu]
  ·simp [World.frozen?, hc]
 have := AnyQ.slices_SortFunc_total L 2 aE zE encP (fun _ => rfl) (fun x v hv => by simp [encP] at hv; rcases hv with rfl | rfl <;> rfl) cfP swoP c #[] r 0 cap l.toArray w eg (hcmp r 0 _ w) hH hrl (by simpa using hlen) (fun x y h1 h2 => by rw [Jted] at h1 h2; exact Jtdw h1 h2)
 refine Calls.mono (show Calls P (ρ.f 6) #[.slice (some ⟨r, 0, none⟩) l.length cap, .func (.func c) #[] #[]] w _ from this) ?_
 rintro e w' ⟨rfl, n, os, hw⟩
 have hw : w' = sortWorldK encP 2 w r 0 n (sortP l).toArray os := by
  rw [hw]; simp only [Jted]; rfl
 obtain ⟨d, hd⟩ : ∃ d, d = sortP l := ⟨_, rfl⟩
 have hdl : d.length = l.length := by rw [hd, Jtlk]
 rw [← hd] at hw
 have hheap : w'.heap = (w.heap.modify r (onCells (putCells id 0 (flatK encP 2 d.toArray)))) ++ os := by rw [hw]; rfl
 have hother : ∀ r', r' < w.heap.size → r' ≠ r → w'.heap[r']? = w.heap[r']? := by
  intro r' h1 h2
  rw [hheap, Array.getElem?_append]
  simp only [Array.size_modify, h1, if_true, Array.getElem?_modify]
  rw [if_neg (Ne.symm h2)]
 have hsize : w.heap.size ≤ w'.heap.size := by rw [hheap]; simp
 have hpsz : (putCells id 0 (flatK encP 2 d.toArray) cl).size = cl.size := by simp [putCells]
 have hr' : w'.heap[r]? = some (.cells (putCells id 0 (flatK encP 2 d.toArray) cl) te (0, 0)) := by
  rw [hheap, Array.getElem?_append]
  simp only [Array.size_modify, hrl, if_true, Array.getElem?_modify, if_true]
  rw [hc]; rfl
 have hno : ∀ (env : List (Nat × AV)) (cells : List D) b j e rows, AP ⟨env, [.mem (cells.map AV.d)]⟩ (.cell b j) ≠ some (.own e rows) := by
  intro env cells b j e rows h
  simp only [AP] at h
  cases b with
  | zero =>
   simp only [List.getElem?_cons_zero] at h
   rw [List.getElem?_map] at h
   cases hx : cells[j]? with
   | none => rw [hx] at h; cases h
   | some d => rw [hx] at h; cases h
  | succ b => simp at h
 have hno' : ∀ p e rows, AP ⟨[(0, .tup [])], [.mem (Jtkf (d.map Pair.row))]⟩ p ≠ some (.own e rows) := by
  intro p e rows h
  cases p with
  | tmp t => simp only [AP, get] at h; split at h <;> cases h
  | cell b j => exact hno _ _ _ _ _ _ h
 have hb0 : ∀ b r', g.φ b = some r' → b = 0 := fun b r' h => by have := (hs.lt b r' h).2.2; simp at this; exact this
 refine ⟨.ret (.tup []), [.mem (Jtkf (d.map Pair.row))], g, .tuple #[], ⟨rfl, by rw [hd]⟩, rfl, ?_, ?_, fun _ _ _ h => h, by simp, ?_⟩
 ·refine { size := by simp, env := ?_, inj := hs.inj, lt := ?_, dom := ?_, mem := ?_, iter := ?_, glob := ?_, own := ?_, excl := ?_, apart := ?_, view := ?_ }
  ·intro t x hx
   simp only [get] at hx
   split at hx
   ·rename_i h; subst h; injection hx with hx; subst hx
    exact .tup [] [] rfl fun j x u h => by simp at h
   ·cases hx
  ·intro b r' h
   obtain ⟨h1, h2, h3⟩ := hs.lt b r' h
   exact ⟨by omega, h2, by simpa using h3⟩
  ·intro b k h hk
   cases b with
   | zero => exact ⟨r, hφ⟩
   | succ b => simp at h
  ·intro b cells r' h hr2
   have hb := hb0 b r' hr2
   subst hb
   rw [hφ] at hr2; injection hr2 with hr2; subst hr2
   simp at h; subst h
   refine ⟨_, te, hr', ?_, ?_⟩
   ·rw [Jtkg, hdl]; simp [putCells]; exact hcs
   ·intro j x hx
    have hj : j < 2 * d.length := by
     have := (List.getElem?_eq_some_iff.1 hx).1
     rwa [Jtkg] at this
    obtain ⟨n, h1, h2⟩ := Jt8h d j hj
    rw [hx] at h1; injection h1 with h1; subst h1
    refine ⟨rfl, .int .i64 n, ?_, .d _ _ (.int _ _)⟩
    have hjc : j < cl.size := by omega
    have hf : j < (flatK encP 2 d.toArray).size := by rw [size_flatK]; simp; omega
    simp only [putCells, Array.getElem?_mapIdx, hjc, Array.getElem?_eq_getElem, Option.map_some, Nat.zero_le, true_and, Nat.zero_add, hf, if_true, Nat.sub_zero, h2, id]
  ·intro b s pos r' h _
   cases b with
   | zero => simp at h
   | succ b => simp at h
  ·intro b s pos r' h _
   cases b with
   | zero => simp at h
   | succ b => simp at h
  ·intro p e rows v h; exact absurd h (hno' p e rows)
  ·rintro p p' r' ⟨e, rows, _, h, _⟩; exact absurd h (hno' p e rows)
  ·rintro p r' b ⟨e, rows, _, h, _⟩; exact absurd h (hno' p e rows)
  ·intro t org e rows h
   simp only [get] at h
   split at h <;> cases h
 ·refine ⟨by rw [hw]; rfl, by rw [hw]; rfl, by rw [hw]; rfl, hsize, ?_, ?_⟩
  ·intro r' h1 h2
   refine ⟨hother r' h1 ?_, rfl⟩
   rintro rfl; exact h2 (.inl ⟨0, hφ⟩)
  ·refine ⟨fun _ _ => Nat.le_refl _, ?_, fun q => ?_⟩
   rotate_left
   ·by_cases hq : q = r
    ·subst hq; rw [Jt72 hc, Jt72 hr']; exact Nat.le_of_eq hpsz.symm
    ·by_cases hql : q < w.heap.size
     ·rw [Jt73 (hother q hql hq)]; exact Nat.le_refl _
     ·have : w.heap[q]? = none := Array.getElem?_eq_none (by omega)
      simp [csize, this]
   intro r' j u hj hu
   have hne : r' ≠ r := by rintro rfl; omega
   have hlt := World.block_lt_of_cell? w ⟨r', j, none⟩ hu
   have := hother r' hlt hne
   simp only [World.cell?] at hu ⊢
   rw [this]; exact hu
 ·rintro r' (⟨b, hb⟩ | ⟨p, e, rows, _, h, _⟩)
  ·exact .inl (.inl ⟨b, hb⟩)
  ·exact absurd h (hno' p e rows)
theorem Jtlp (L : SlLaysF0.n6 P ρ) (c : Nat) (x : AV) (hx : x = .d (.sl []) ∨ x = .nils ∨ x = .nile) :
  Jt3o P (ρ.f 6) [x, .fn (.func c) [] []] [] fun o H' => o = .ret (.tup []) ∧ H' = [] := by
 intro g vs w hsz hs
 obtain ⟨vs⟩ := vs
 obtain ⟨v0, v1, rfl⟩ : ∃ a b, vs = [a, b] := by
  match vs, hsz with
  | [a, b], _ => exact ⟨a, b, rfl⟩
 have e0 : Rel g.F g.φ w x.erase v0 := hs.env 0 _ rfl
 obtain ⟨a, cap, rfl⟩ : ∃ a cap, v0 = .slice a 0 cap := by
  rcases hx with rfl | rfl | rfl
  ·cases e0 with
   | d _ _ h => cases h with
    | nil a cap => exact ⟨a, cap, rfl⟩
    | sl rows ad cap esz vs h1 h2 h3 h4 h5 h6 => exact ⟨_, _, rfl⟩
  ·cases e0; exact ⟨_, _, rfl⟩
  ·cases e0; exact ⟨_, _, rfl⟩
 refine Calls.mono (AnyF.slices_SortFunc_none L a cap v1 w) ?_
 rintro e w' ⟨rfl, rfl⟩
 have hno : ∀ (st : ASt) p e rows, st.H = [] → (∀ t e rows, get st.env t ≠ some (.own e rows)) → AP st p ≠ some (.own e rows) := by
  intro st p e rows h1 h2 h
  cases p with
  | tmp t => exact h2 t e rows h
  | cell b j => simp only [AP, h1] at h; simp at h
 have hno' : ∀ p e rows, AP ⟨[(0, .tup [])], []⟩ p ≠ some (.own e rows) := by
  intro p e rows
  refine hno _ p e rows rfl ?_
  intro t e rows h; simp only [get] at h; split at h <;> cases h
 have hb0 : ∀ b r, g.φ b ≠ some r := fun b r h => by have := (hs.lt b r h).2.2; simp at this
 refine ⟨.ret (.tup []), [], g, .tuple #[], ⟨rfl, rfl⟩, rfl, ?_, Tr.refl _ _ _, fun _ _ _ h => h, by simp, ?_⟩
 ·refine { size := by simp, env := ?_, inj := hs.inj, lt := fun b r h => absurd h (hb0 b r), dom := ?_, mem := ?_, iter := ?_, glob := ?_, own := ?_, excl := ?_, apart := ?_, view := ?_ }
  ·intro t x hx
   simp only [get] at hx
   split at hx
   ·rename_i h; subst h; injection hx with hx; subst hx
    exact .tup [] [] rfl fun j x u h => by simp at h
   ·cases hx
  ·intro b k h; simp at h
  ·intro b cells r h; simp at h
  ·intro b s pos r h; simp at h
  ·intro b s pos r h; simp at h
  ·intro p e rows v h; exact absurd h (hno' p e rows)
  ·rintro p p' r' ⟨e, rows, _, h, _⟩; exact absurd h (hno' p e rows)
  ·rintro p r' b ⟨e, rows, _, h, _⟩; exact absurd h (hno' p e rows)
  ·intro t org e rows h; simp only [get] at h; split at h <;> cases h
 ·rintro r' (⟨b, hb⟩ | ⟨p, e, rows, _, h, _⟩)
  ·exact absurd hb (hb0 b r')
  ·exact absurd h (hno' p e rows)
end
structure SortOk (P : Program) (p : Nums) : Prop where
 none : Jt3o P p.slices_SortFunc_Pair [.d (.sl []), .fn (.func p.pairset_compare) [] []] [] fun o H' => o = .ret (.tup []) ∧ H' = []
 some : ∀ l : List Pair, l ≠ [] → l.length < 1000000 → Jt3o P p.slices_SortFunc_Pair [.hsl 0 0 2 l.length, .fn (.func p.pairset_compare) [] []] [.mem (Jtkf (l.map Pair.row))] fun o H' => o = .ret (.tup []) ∧ H' = [.mem (Jtkf ((sortP l).map Pair.row))]
theorem Jtlm (l : List Pair) : (sortP l).Pairwise fun a b => lessP b a = false := by
 have := List.pairwise_mergeSort (le := fun x y => !lessP y x) (fun a b c h1 h2 => ?_) (fun a b => ?_) l
 ·refine List.Pairwise.imp ?_ this
  intro a b h; simpa using h
 ·simp only [Bool.not_eq_true'] at h1 h2 ⊢
  cases h : lessP c a with
  | false => rfl
  | true =>
   cases h3 : lessP b c with
   | true => rw [Jtdx h3 h] at h1; cases h1
   | false => have := Jtdw h3 h2; subst this; rw [h] at h1; cases h1
 ·cases h1 : lessP b a with
  | false => simp
  | true => simp [Jtds h1]
theorem Jtfe {l : List Pair} {q : Pair} : q ∈ sortP l ↔ q ∈ l := by unfold sortP; simp
theorem Jt78 (l : List Pair) : dd (sortP l) = makeP l :=
 Jtmg (srt_dd (Jtlm l)) (Jtmk l) fun q => by rw [mem_dd, Jtfe, Jtf7]
theorem Jtll {l : List Pair} (h : l ≠ []) : sortP l ≠ [] := by
 intro e; have := Jtlk l; rw [e] at this; exact h (List.length_eq_zero_iff.1 this.symm)
section
theorem Jthe {P : Program} {p : Nums} (A : All P p) (S : SortOk P p) : Jt3o P p.pairset_Make [.d (.sl [])] [] fun o H' => o = .ret (.d (.sl [])) ∧ H' = [] := by
 refine A.pairset_Make.run rfl fun R hR => ?_
 (simp (maxSteps := 1000000) [Jtba])
 refine Jtw [] 0 (Jtlh A) (by decide) (by rfl) (by rfl) (by rfl) (by rfl) (by rfl) (by rfl) ?_
 (simp (maxSteps := 1000000) [])
 refine Jtw [] 0 S.none (by decide) (by rfl) (by rfl) (by rfl) (by rfl) (by rfl) (by rfl) ?_
 (simp (maxSteps := 1000000) [])
 refine Jtw [] 0 (Jtlj A) (by decide) (by rfl) (by rfl) (by rfl) (by rfl) (by rfl) (by rfl) ?_
 (simp (maxSteps := 1000000) [])
 exact hR _ _ (Jt3u _ _ rfl (by (exact wkvA)) ⟨rfl, rfl⟩)
theorem Jthd {P : Program} {p : Nums} (A : All P p) (S : SortOk P p) (l : List Pair) (h0 : l.length < 1000000) : Jt3o P p.pairset_Make [.d (pairsD l)] [] fun o _ => o = .ret (.d (pairsD (makeP l))) := by
 by_cases hl : l = []
 ·subst hl
  exact (Jthe A S).mono fun o H' h => h.1
 ·refine A.pairset_Make.run rfl fun R hR => ?_
  (simp (maxSteps := 1000000) [Jtba, pairsD])
  refine Jtw [] 1 (Jtlg A l hl h0) (by decide) (by rfl) (by rfl) (by rfl) Jtju (by rfl) (by rfl) ?_
  (simp (maxSteps := 1000000) [])
  refine Jtw [0] 0 (S.some l hl h0) (by decide) (by rfl) (by rfl) Jtju Jtju (by rfl) (by rfl) ?_
  (simp (maxSteps := 1000000) [])
  have hs := Jtli A (sortP l) (Jtll hl) (by rw [Jtlk]; exact h0)
  rw [Jtlk, Jt78] at hs
  refine Jtw [0] 0 hs (by decide) (by rfl) (by rfl) Jtju Jtju (by rfl) (by rfl) ?_
  obtain ⟨n, hn⟩ : ∃ n, n = (makeP l).length := ⟨_, rfl⟩
  obtain ⟨U, hU⟩ : ∃ U, U = cptP (sortP l) := ⟨_, rfl⟩
  rw [← hn, ← hU]
  (simp (maxSteps := 1000000) [])
  refine hR _ _ (Jt3u _ _ rfl (WkV.hsl 0 0 2 n _ ((makeP l).map Pair.row) rfl (by omega) ?_ (by rw [hn]; simp) (Jtko fun _ => rfl)) rfl)
  show ((Jtkf (U.map Pair.row)).drop 0).take (n * 2) = Jtkf ((makeP l).map Pair.row)
  rw [List.drop_zero, Jtkl (e := 2) (rows := U.map Pair.row) (Jtko (f := Pair.row) fun _ => rfl), ← List.map_take, hU, cptP, Jt78, hn, List.take_left']
  rfl
end
def renP (c : Pair → Bool) (f : Pair → Pair) (l : List Pair) : List Pair := (l.filter c).map f
theorem Jtjy {c : Pair → Bool} {f : Pair → Pair} {l : List Pair} {k : Nat} (h : k < l.length) : renP c f (l.take (k + 1)) = if c l[k] = true then renP c f (l.take k) ++ [f l[k]] else renP c f (l.take k) := by
 unfold renP
 rw [List.take_add_one, List.getElem?_eq_getElem h, List.filter_append, List.map_append]
 cases hf : c l[k] <;> simp [hf]
theorem Jtjx (c : Pair → Bool) (f : Pair → Pair) (l : List Pair) : (renP c f l).length ≤ l.length := by
 unfold renP; rw [List.length_map]; exact List.length_filter_le _ _
theorem Jtfd {c : Pair → Bool} {f : Pair → Pair} {l : List Pair} {q : Pair} : q ∈ renP c f l ↔ ∃ p ∈ l, c p = true ∧ f p = q := by
 unfold renP; simp only [List.mem_map, List.mem_filter, and_assoc]
def copyP (l : List Pair) (d a : Int) : List Pair := if d = a then makeP l else mergeP (l.filter fun x => x.v != d) (makeP (renP (fun x => x.v == a) (fun x => ⟨d, x.l⟩) l))
def moveP (l : List Pair) (d a : Int) : List Pair := if d = a then makeP l else mergeP (l.filter fun x => x.l != d) (makeP (renP (fun x => x.l == a) (fun x => ⟨x.v, d⟩) l))
def defP (l : List Pair) (d t : Int) : List Pair := addP ((l.filter fun x => x.v != d).filter fun x => x.l != t) ⟨d, t⟩
theorem Jtmh {l : List Pair} {f : Pair → Bool} (h : Srt l) : Srt (l.filter f) := List.Pairwise.filter f h
theorem Jtme {l : List Pair} {d a : Int} (h : Srt l) : Srt (copyP l d a) := by
 unfold copyP; split
 ·exact Jtmk _
 ·exact Jtml (Jtmh h) (Jtmk _)
theorem Jtmm {l : List Pair} {d a : Int} (h : Srt l) : Srt (moveP l d a) := by
 unfold moveP; split
 ·exact Jtmk _
 ·exact Jtml (Jtmh h) (Jtmk _)
theorem Jtmf {l : List Pair} {d t : Int} (h : Srt l) : Srt (defP l d t) := Jtmb (Jtmh (Jtmh h))
theorem Jtf4 {l : List Pair} {d a : Int} {q : Pair} : q ∈ copyP l d a ↔ (q ∈ l ∧ (d = a ∨ q.v ≠ d)) ∨ (q.v = d ∧ (⟨a, q.l⟩ : Pair) ∈ l) := by
 unfold copyP
 by_cases h : d = a
 ·subst h
  rw [if_pos rfl, Jtf7]
  constructor
  ·intro hq; exact .inl ⟨hq, .inl rfl⟩
  ·rintro (⟨hq, _⟩ | ⟨e, hq⟩)
   ·exact hq
   ·have : (⟨d, q.l⟩ : Pair) = q := Jt7s e.symm rfl
    rw [this] at hq; exact hq
 ·rw [if_neg h, Jtf8, Jtf7, Jtfd, List.mem_filter]
  constructor
  ·rintro (⟨h1, h2⟩ | ⟨p, h1, h2, rfl⟩)
   ·exact .inl ⟨h1, .inr (by simpa using h2)⟩
   ·refine .inr ⟨rfl, ?_⟩
    have e : p.v = a := by simpa using h2
    have : (⟨a, p.l⟩ : Pair) = p := Jt7s e.symm rfl
    simpa [this] using h1
  ·rintro (⟨h1, h2⟩ | ⟨h1, h2⟩)
   ·exact .inl ⟨h1, by simpa using h2.resolve_left h⟩
   ·exact .inr ⟨_, h2, by simp, Jt7s h1.symm rfl⟩
theorem Jtf9 {l : List Pair} {d a : Int} {q : Pair} : q ∈ moveP l d a ↔ (q ∈ l ∧ (d = a ∨ q.l ≠ d)) ∨ (q.l = d ∧ (⟨q.v, a⟩ : Pair) ∈ l) := by
 unfold moveP
 by_cases h : d = a
 ·subst h
  rw [if_pos rfl, Jtf7]
  constructor
  ·intro hq; exact .inl ⟨hq, .inl rfl⟩
  ·rintro (⟨hq, _⟩ | ⟨e, hq⟩)
   ·exact hq
   ·have : (⟨q.v, d⟩ : Pair) = q := Jt7s rfl e.symm
    rw [this] at hq; exact hq
 ·rw [if_neg h, Jtf8, Jtf7, Jtfd, List.mem_filter]
  constructor
  ·rintro (⟨h1, h2⟩ | ⟨p, h1, h2, rfl⟩)
   ·exact .inl ⟨h1, .inr (by simpa using h2)⟩
   ·refine .inr ⟨rfl, ?_⟩
    have e : p.l = a := by simpa using h2
    have : (⟨p.v, a⟩ : Pair) = p := Jt7s rfl e.symm
    simpa [this] using h1
  ·rintro (⟨h1, h2⟩ | ⟨h1, h2⟩)
   ·exact .inl ⟨h1, by simpa using h2.resolve_left h⟩
   ·exact .inr ⟨_, h2, by simp, Jt7s rfl h1.symm⟩
theorem Jtf5 {l : List Pair} {d t : Int} {q : Pair} : q ∈ defP l d t ↔ q = ⟨d, t⟩ ∨ (q ∈ l ∧ q.v ≠ d ∧ q.l ≠ t) := by
 unfold defP
 rw [Jtf3, List.mem_filter, List.mem_filter]
 simp [and_assoc]
def rcStep (d a : Int) (out : List Pair) (x : Pair) : List Pair :=
 if x.v = a then addP (if d = a ∨ x.v ≠ d then addP out x else out) ⟨d, x.l⟩ else (if d = a ∨ x.v ≠ d then addP out x else out)
theorem Jti3 {d a : Int} {out : List Pair} {x : Pair} (h3 : x.v = a) (h2 : d = a ∨ x.v ≠ d) : rcStep d a out x = addP (addP out x) ⟨d, x.l⟩ := by unfold rcStep; rw [if_pos h3, if_pos h2]
theorem Jti2 {d a : Int} {out : List Pair} {x : Pair} (h3 : x.v = a) (h2 : ¬ (d = a ∨ x.v ≠ d)) : rcStep d a out x = addP out ⟨d, x.l⟩ := by unfold rcStep; rw [if_pos h3, if_neg h2]
theorem Jti0 {d a : Int} {out : List Pair} {x : Pair} (h3 : ¬ x.v = a) (h2 : d = a ∨ x.v ≠ d) : rcStep d a out x = addP out x := by unfold rcStep; rw [if_neg h3, if_pos h2]
theorem Jthz {d a : Int} {out : List Pair} {x : Pair} (h3 : ¬ x.v = a) (h2 : ¬ (d = a ∨ x.v ≠ d)) : rcStep d a out x = out := by unfold rcStep; rw [if_neg h3, if_neg h2]
def rcopyP (l : List Pair) (d a : Int) : List Pair := l.foldl (rcStep d a) []
def rmStep (d a : Int) (out : List Pair) (x : Pair) : List Pair :=
 if x.l = a then addP (if d = a ∨ x.l ≠ d then addP out x else out) ⟨x.v, d⟩ else (if d = a ∨ x.l ≠ d then addP out x else out)
theorem Jtkb {d a : Int} {out : List Pair} {x : Pair} (h3 : x.l = a) (h2 : d = a ∨ x.l ≠ d) : rmStep d a out x = addP (addP out x) ⟨x.v, d⟩ := by unfold rmStep; rw [if_pos h3, if_pos h2]
theorem Jtka {d a : Int} {out : List Pair} {x : Pair} (h3 : x.l = a) (h2 : ¬ (d = a ∨ x.l ≠ d)) : rmStep d a out x = addP out ⟨x.v, d⟩ := by unfold rmStep; rw [if_pos h3, if_neg h2]
theorem Jtk8 {d a : Int} {out : List Pair} {x : Pair} (h3 : ¬ x.l = a) (h2 : d = a ∨ x.l ≠ d) : rmStep d a out x = addP out x := by unfold rmStep; rw [if_neg h3, if_pos h2]
theorem Jtk7 {d a : Int} {out : List Pair} {x : Pair} (h3 : ¬ x.l = a) (h2 : ¬ (d = a ∨ x.l ≠ d)) : rmStep d a out x = out := by unfold rmStep; rw [if_neg h3, if_neg h2]
def rmoveP (l : List Pair) (d a : Int) : List Pair := l.foldl (rmStep d a) []
def rdStep (d t : Int) (out : List Pair) (x : Pair) : List Pair := if x.v ≠ d ∧ x.l ≠ t then addP out x else out
def rdefP (l : List Pair) (d t : Int) : List Pair := l.foldl (rdStep d t) [⟨d, t⟩]
theorem Jt8u {α β : Type} {f : β → α → β} {l : List α} {z : β} {k : Nat} (h : k < l.length) : (l.take (k + 1)).foldl f z = f ((l.take k).foldl f z) l[k] := by
 rw [List.take_add_one, List.getElem?_eq_getElem h, List.foldl_append]; rfl
theorem Jti1 (d a : Int) (out : List Pair) (x : Pair) : (rcStep d a out x).length ≤ out.length + 2 := by
 have h1 := Jt4f out x
 have h5 := Jt4f (addP out x) ⟨d, x.l⟩
 have h6 := Jt4f out ⟨d, x.l⟩
 by_cases h2 : d = a ∨ x.v ≠ d <;> by_cases h3 : x.v = a
 ·rw [Jti3 h3 h2]; omega
 ·rw [Jti0 h3 h2]; omega
 ·rw [Jti2 h3 h2]; omega
 ·rw [Jthz h3 h2]; omega
theorem Jtk9 (d a : Int) (out : List Pair) (x : Pair) : (rmStep d a out x).length ≤ out.length + 2 := by
 have h1 := Jt4f out x
 have h5 := Jt4f (addP out x) ⟨x.v, d⟩
 have h6 := Jt4f out ⟨x.v, d⟩
 by_cases h2 : d = a ∨ x.l ≠ d <;> by_cases h3 : x.l = a
 ·rw [Jtkb h3 h2]; omega
 ·rw [Jtk8 h3 h2]; omega
 ·rw [Jtka h3 h2]; omega
 ·rw [Jtk7 h3 h2]; omega
theorem Jt8r {f : List Pair → Pair → List Pair} (hf : ∀ o x, (f o x).length ≤ o.length + 2) (l z : List Pair) : (l.foldl f z).length ≤ z.length + 2 * l.length := by
 induction l generalizing z with
 | nil => simp
 | cons x l ih => have h1 := ih (f z x); have h2 := hf z x; simp only [List.foldl_cons, List.length_cons]; omega
theorem Jtmi {f : List Pair → Pair → List Pair} (hf : ∀ o x, Srt o → Srt (f o x)) (l z : List Pair) (hz : Srt z) : Srt (l.foldl f z) := by
 induction l generalizing z with
 | nil => exact hz
 | cons x l ih => exact ih _ (hf z x hz)
theorem Jtf6 {f : List Pair → Pair → List Pair} {R : Pair → Pair → Prop} (hf : ∀ o x q, q ∈ f o x ↔ q ∈ o ∨ R x q) (l z : List Pair) (q : Pair) : q ∈ l.foldl f z ↔ q ∈ z ∨ ∃ x ∈ l, R x q := by
 induction l generalizing z with
 | nil => simp
 | cons x l ih => rw [List.foldl_cons, ih, hf]; simp [or_assoc]
theorem Jti4 {l : List Pair} {d a : Int} (h : Srt l) : rcopyP l d a = copyP l d a := by
 refine Jtmg (Jtmi (fun o x ho => ?_) l [] List.Pairwise.nil) (Jtme h) fun q => ?_
 ·have h1 := Jtmb (p := x) ho
  by_cases h2 : d = a ∨ x.v ≠ d <;> by_cases h3 : x.v = a
  ·rw [Jti3 h3 h2]; exact Jtmb h1
  ·rw [Jti0 h3 h2]; exact h1
  ·rw [Jti2 h3 h2]; exact Jtmb ho
  ·rw [Jthz h3 h2]; exact ho
 ·unfold rcopyP
  rw [Jtf6 (R := fun x q => ((d = a ∨ x.v ≠ d) ∧ q = x) ∨ (x.v = a ∧ q = ⟨d, x.l⟩)) (fun o x q => ?_), Jtf4]
  ·simp only [List.not_mem_nil, false_or]
   constructor
   ·rintro ⟨x, hx, ⟨h1, rfl⟩ | ⟨h1, rfl⟩⟩
    ·exact .inl ⟨hx, h1⟩
    ·exact .inr ⟨rfl, by rw [show (⟨a, x.l⟩ : Pair) = x from Jt7s h1.symm rfl]; exact hx⟩
   ·rintro (⟨h1, h2⟩ | ⟨h1, h2⟩)
    ·exact ⟨q, h1, .inl ⟨h2, rfl⟩⟩
    ·exact ⟨_, h2, .inr ⟨rfl, Jt7s h1 rfl⟩⟩
  ·by_cases h2 : d = a ∨ x.v ≠ d <;> by_cases h3 : x.v = a
   ·rw [Jti3 h3 h2, Jtf3, Jtf3, eq_true h2, eq_true h3, true_and, true_and]
    constructor <;> rintro (h | h | h) <;> simp [h]
   ·rw [Jti0 h3 h2, Jtf3, eq_true h2, eq_false h3, true_and, false_and, or_false, or_comm]
   ·rw [Jti2 h3 h2, Jtf3, eq_false h2, eq_true h3, true_and, false_and, false_or, or_comm]
   ·rw [Jthz h3 h2, eq_false h2, eq_false h3, false_and, false_and, false_or, or_false]
theorem Jtkc {l : List Pair} {d a : Int} (h : Srt l) : rmoveP l d a = moveP l d a := by
 refine Jtmg (Jtmi (fun o x ho => ?_) l [] List.Pairwise.nil) (Jtmm h) fun q => ?_
 ·have h1 := Jtmb (p := x) ho
  by_cases h2 : d = a ∨ x.l ≠ d <;> by_cases h3 : x.l = a
  ·rw [Jtkb h3 h2]; exact Jtmb h1
  ·rw [Jtk8 h3 h2]; exact h1
  ·rw [Jtka h3 h2]; exact Jtmb ho
  ·rw [Jtk7 h3 h2]; exact ho
 ·unfold rmoveP
  rw [Jtf6 (R := fun x q => ((d = a ∨ x.l ≠ d) ∧ q = x) ∨ (x.l = a ∧ q = ⟨x.v, d⟩)) (fun o x q => ?_), Jtf9]
  ·simp only [List.not_mem_nil, false_or]
   constructor
   ·rintro ⟨x, hx, ⟨h1, rfl⟩ | ⟨h1, rfl⟩⟩
    ·exact .inl ⟨hx, h1⟩
    ·exact .inr ⟨rfl, by rw [show (⟨x.v, a⟩ : Pair) = x from Jt7s rfl h1.symm]; exact hx⟩
   ·rintro (⟨h1, h2⟩ | ⟨h1, h2⟩)
    ·exact ⟨q, h1, .inl ⟨h2, rfl⟩⟩
    ·exact ⟨_, h2, .inr ⟨rfl, Jt7s rfl h1⟩⟩
  ·by_cases h2 : d = a ∨ x.l ≠ d <;> by_cases h3 : x.l = a
   ·rw [Jtkb h3 h2, Jtf3, Jtf3, eq_true h2, eq_true h3, true_and, true_and]
    constructor <;> rintro (h | h | h) <;> simp [h]
   ·rw [Jtk8 h3 h2, Jtf3, eq_true h2, eq_false h3, true_and, false_and, or_false, or_comm]
   ·rw [Jtka h3 h2, Jtf3, eq_false h2, eq_true h3, true_and, false_and, false_or, or_comm]
   ·rw [Jtk7 h3 h2, eq_false h2, eq_false h3, false_and, false_and, false_or, or_false]
theorem Jti6 {l : List Pair} {d t : Int} (h : Srt l) : rdefP l d t = defP l d t := by
 refine Jtmg (Jtmi (fun o x ho => ?_) l _ (List.pairwise_singleton _ _)) (Jtmf h) fun q => ?_
 ·unfold rdStep; split
  ·exact Jtmb ho
  ·exact ho
 ·unfold rdefP
  rw [Jtf6 (R := fun x q => (x.v ≠ d ∧ x.l ≠ t) ∧ q = x) (fun o x q => ?_), Jtf5, List.mem_singleton]
  ·constructor
   ·rintro (h1 | ⟨x, hx, h1, rfl⟩)
    ·exact .inl h1
    ·exact .inr ⟨hx, h1⟩
   ·rintro (h1 | ⟨h1, h2⟩)
    ·exact .inl h1
    ·exact .inr ⟨q, h1, h2, rfl⟩
  ·unfold rdStep
   by_cases h2 : x.v ≠ d ∧ x.l ≠ t <;> simp only [h2, if_true, if_false, Jtf3, true_and, false_and, or_false, and_self, not_false_eq_true, ne_eq]
   constructor <;> (intro hh; rcases hh with hh | hh <;> simp_all)
section
end
section
end
section
end
section
end
theorem Jt88 {l : List Pair} {f : Pair → Bool} {k : Nat} (h : k < l.length) : (l.take (k + 1)).filter f = if f l[k] = true then (l.take k).filter f ++ [l[k]] else (l.take k).filter f := by
 rw [List.take_add_one, List.getElem?_eq_getElem h, List.filter_append]
 cases hf : f l[k] <;> simp [hf]
section
theorem Jth8 {P : Program} {p : Nums} (A : All P p) (x : Pair) (v : Int) : Jt3o P p.pairset_DropV_1 [x.av, .ptr 0 0] [.mem [AI v]] fun o H' => o = .ret (AB (x.v != v)) ∧ H' = [.mem [AI v]] := by
 refine A.pairset_DropV_1.run rfl fun R hR => ?_
 (simp (maxSteps := 1000000) [Jtb7, Pair.av])
 exact hR _ _ (Jt3t _ (AB (x.v != v)) [.mem [AI v]] rfl (by (exact wkA)) ⟨rfl, rfl⟩)
theorem Jth5 {P : Program} {p : Nums} (A : All P p) (x : Pair) (v : Int) : Jt3o P p.pairset_DropL_1 [x.av, .ptr 0 0] [.mem [AI v]] fun o H' => o = .ret (AB (x.l != v)) ∧ H' = [.mem [AI v]] := by
 refine A.pairset_DropL_1.run rfl fun R hR => ?_
 (simp (maxSteps := 1000000) [Jtb5, Pair.av])
 exact hR _ _ (Jt3t _ (AB (x.l != v)) [.mem [AI v]] rfl (by (exact wkA)) ⟨rfl, rfl⟩)
theorem Jthh {P : Program} {p : Nums} (A : All P p) (l : List Pair) (f : Nat) (v : Int) (keep : Pair → Bool) (h0 : l.length < 1000000) (hok : okFn P f = true)
  (hf : ∀ x : Pair, Jt3o P f [x.av, .ptr 0 0] [.mem [AI v]] fun o H' => o = .ret (AB (keep x)) ∧ H' = [.mem [AI v]]) :
  Jt3o P p.pairset_filter [.d (pairsD l), .fn (.func f) [] [.ptr 0 0]] [.mem [AI v]] fun o H' => o = .ret (.own 2 ((l.filter keep).map Pair.row)) ∧ H' = [.mem [AI v]] := by
 refine A.pairset_filter.run rfl fun R hR => ?_
 (simp (maxSteps := 1000000) [Jtbd, pairsD])
 refine Jt1y (n := l.length) (by rfl) (by rfl) (by omega) (by omega) (by decide) (by rfl) ?_
 (simp (maxSteps := 1000000) [])
 refine Jt9 (fun k : Nat => ⟨[(13, AI k), (12, AI l.length), (11, .d (.sl (l.map Pair.row))), (5, .own 2 (((l.take k).filter keep).map Pair.row)), (4, .nils), (1, .fn (.func f) [] [.ptr 0 0])], [.mem [AI v]]⟩) (fun k => k ≤ l.length) (fun k => l.length - k) 0 (by simp) (by simp only [List.take_zero, List.filter_nil, List.map_nil]; (exact wkA)) ?_
 intro k hk N hN
 (simp (maxSteps := 1000000) [])
 ((first | refine Xc (fun h2 => ?_) (fun h2 => ?_) | refine Xo (fun h2 => ?_) (fun h2 => ?_)) <;> (try simp only [Xz, Xy] at h2))
 ·have hkl : k < l.length := by omega
  have hb : l[k]? = some l[k] := by simp
  have hw := Jtog (k := k) (by omega)
  have hs := Jt88 (f := keep) hkl
  have hl := List.length_filter_le keep (l.take k)
  rw [List.length_take] at hl
  obtain ⟨x, hx⟩ : ∃ x, x = l[k] := ⟨_, rfl⟩
  obtain ⟨F, hF⟩ : ∃ F, F = (l.take k).filter keep := ⟨_, rfl⟩
  have hN' := fun st' h => hN st' (k + 1) hkl h (by omega)
  rw [hs] at hN'
  rw [← hx, ← hF] at hN'
  rw [← hF] at hl ⊢
  rw [← hx] at hb
  (simp (maxSteps := 1000000) [h2, hb, Pair.row])
  refine ⟨f, [], [.ptr 0 0], [.agg [AI l[k].v, AI l[k].l]], rfl, hok, rfl, ?_⟩
  refine Jtv [0] (hf l[k]) (by decide) (by rfl) (by rfl) (by rfl) (by rfl) (by rfl) (by rfl) ?_
  rw [← hx]
  (simp (maxSteps := 1000000) [])
  cases hkx : keep x with
  | true =>
   rw [hkx, if_pos rfl] at hN'
   (simp (maxSteps := 1000000) [hkx])
   (refine Jt16 (by rfl) (by rfl) (by rfl) ?_ (by decide) ?_ ?_ ?_)
   ·simp
   ·simp; omega
   ·simp; omega
   (simp (maxSteps := 1000000) [hw])
   exact hN' _ (by simp [Pair.row]; (exact wkA))
  | false =>
   rw [hkx, if_neg (by simp)] at hN'
   (simp (maxSteps := 1000000) [hkx, hw])
   exact hN' _ (by (exact wkA))
 ·have hk' : k = l.length := by omega
  subst hk'
  (simp (maxSteps := 1000000) [])
  exact hR _ _ (Jt3t _ (.own 2 ((l.filter keep).map Pair.row)) [.mem [AI v]] rfl (by (exact wkA)) ⟨rfl, rfl⟩)
theorem Jtha {P : Program} {p : Nums} (A : All P p) (l : List Pair) (v : Int) (h0 : l.length < 1000000) : Jt3o P p.pairset_DropV [.d (pairsD l), AI v] [] fun o H' => o = .ret (.own 2 ((l.filter fun x => x.v != v).map Pair.row)) ∧ H' = [] := by
 refine A.pairset_DropV.run rfl fun R hR => ?_
 (simp (maxSteps := 1000000) [Jtb6, pairsD])
 refine Jtv [0] (Jthh A l p.pairset_DropV_1 v (fun x => x.v != v) h0 A.pairset_DropV_1.ok fun x => Jth8 A x v) (by decide) (by rfl) (by rfl) (by rfl) (by rfl) (by rfl) (by rfl) ?_
 (simp (maxSteps := 1000000) [])
 exact hR _ _ (Jt3q _ _ rfl ⟨rfl, rfl⟩)
theorem Jth7 {P : Program} {p : Nums} (A : All P p) (l : List Pair) (v : Int) (h0 : l.length < 1000000) : Jt3o P p.pairset_DropL [.d (pairsD l), AI v] [] fun o H' => o = .ret (.own 2 ((l.filter fun x => x.l != v).map Pair.row)) ∧ H' = [] := by
 refine A.pairset_DropL.run rfl fun R hR => ?_
 (simp (maxSteps := 1000000) [Jtb4, pairsD])
 refine Jtv [0] (Jthh A l p.pairset_DropL_1 v (fun x => x.l != v) h0 A.pairset_DropL_1.ok fun x => Jth5 A x v) (by decide) (by rfl) (by rfl) (by rfl) (by rfl) (by rfl) (by rfl) ?_
 (simp (maxSteps := 1000000) [])
 exact hR _ _ (Jt3q _ _ rfl ⟨rfl, rfl⟩)
theorem Jth9 {P : Program} {p : Nums} (A : All P p) (l : List Pair) (v : Int) (h0 : l.length < 1000000) : Jt3o P p.pairset_DropV [.d (pairsD l), AI v] [] fun o _ => o = .ret (.d (pairsD (l.filter fun x => x.v != v))) :=
 (Jtha A l v h0).unown.mono fun _ _ h => h.1
theorem Jth6 {P : Program} {p : Nums} (A : All P p) (l : List Pair) (v : Int) (h0 : l.length < 1000000) : Jt3o P p.pairset_DropL [.d (pairsD l), AI v] [] fun o _ => o = .ret (.d (pairsD (l.filter fun x => x.l != v))) :=
 (Jth7 A l v h0).unown.mono fun _ _ h => h.1
end
structure ClosOk (P : Program) (p : Nums) : Prop where
 ok1 : okFn P p.transfer_Copy_1 = true
 ok2 : okFn P p.transfer_Move_1 = true
 copy : ∀ (x : Pair) (d a : Int), Jt3o P p.transfer_Copy_1 [x.av, .ptr 0 0, .ptr 1 0] [.mem [AI d], .mem [AI a]] fun o H' => o = .ret (.tup [(⟨d, x.l⟩ : Pair).av, AB (x.v == a)]) ∧ H' = [.mem [AI d], .mem [AI a]]
 move : ∀ (x : Pair) (d a : Int), Jt3o P p.transfer_Move_1 [x.av, .ptr 0 0, .ptr 1 0] [.mem [AI d], .mem [AI a]] fun o H' => o = .ret (.tup [(⟨x.v, d⟩ : Pair).av, AB (x.l == a)]) ∧ H' = [.mem [AI d], .mem [AI a]]
section
theorem Jtnu {P : Program} {p : Nums} (A : All P p) (S : SortOk P p) (kept l : List Pair) (f : Nat) (d a : Int) (c : Pair → Bool) (g : Pair → Pair) (h0 : kept.length < 100000) (h1 : l.length < 100000) (hok : okFn P f = true)
  (hf : ∀ x : Pair, Jt3o P f [x.av, .ptr 0 0, .ptr 1 0] [.mem [AI d], .mem [AI a]] fun o H' => o = .ret (.tup [(g x).av, AB (c x)]) ∧ H' = [.mem [AI d], .mem [AI a]]) :
  Jt3o P p.transfer_rename [.d (pairsD kept), .d (pairsD l), .fn (.func f) [] [.ptr 0 0, .ptr 1 0]] [.mem [AI d], .mem [AI a]] fun o H' => o = .ret (.own 2 ((mergeP kept (makeP (renP c g l))).map Pair.row)) ∧ H' = [.mem [AI d], .mem [AI a]] := by
 refine A.transfer_rename.run rfl fun R hR => ?_
 (simp (maxSteps := 1000000) [Jtcu, pairsD])
 refine Jt9 (fun k : Nat => ⟨[(14, AI k), (13, AI l.length), (12, .d (.sl (l.map Pair.row))), (7, .own 2 ((renP c g (l.take k)).map Pair.row)), (6, .nils), (2, .fn (.func f) [] [.ptr 0 0, .ptr 1 0]), (0, .d (.sl (kept.map Pair.row)))], [.mem [AI d], .mem [AI a]]⟩) (fun k => k ≤ l.length) (fun k => l.length - k) 0 (by simp) (by simp only [List.take_zero, renP, List.filter_nil, List.map_nil]; (exact wkA)) ?_
 intro k hk N hN
 (simp (maxSteps := 1000000) [])
 ((first | refine Xc (fun h2 => ?_) (fun h2 => ?_) | refine Xo (fun h2 => ?_) (fun h2 => ?_)) <;> (try simp only [Xz, Xy] at h2))
 ·have hkl : k < l.length := by omega
  have hb : l[k]? = some l[k] := by simp
  have hw := Jtog (k := k) (by omega)
  have hs := Jtjy (c := c) (f := g) hkl
  have hl := Jtjx c g (l.take k)
  rw [List.length_take] at hl
  obtain ⟨x, hx⟩ : ∃ x, x = l[k] := ⟨_, rfl⟩
  obtain ⟨F, hF⟩ : ∃ F, F = renP c g (l.take k) := ⟨_, rfl⟩
  have hN' := fun st' h => hN st' (k + 1) hkl h (by omega)
  rw [hs] at hN'
  rw [← hx, ← hF] at hN'
  rw [← hF] at hl ⊢
  rw [← hx] at hb
  (simp (maxSteps := 1000000) [h2, hb, Pair.row])
  refine ⟨f, [], [.ptr 0 0, .ptr 1 0], [.agg [AI l[k].v, AI l[k].l]], rfl, hok, rfl, ?_⟩
  refine Jtv [0, 1] (hf l[k]) (by decide) (by rfl) (by rfl) (by rfl) (by rfl) (by rfl) (by rfl) ?_
  rw [← hx]
  obtain ⟨y, hy⟩ : ∃ y, y = g x := ⟨_, rfl⟩
  rw [← hy] at hN' ⊢
  (simp (maxSteps := 1000000) [Pair.av])
  cases hkx : c x with
  | true =>
   rw [hkx, if_pos rfl] at hN'
   (simp (maxSteps := 1000000) [hkx, Pair.av])
   (refine Jt16 (by rfl) (by rfl) (by rfl) ?_ (by decide) ?_ ?_ ?_)
   ·simp
   ·simp; omega
   ·simp; omega
   (simp (maxSteps := 1000000) [hw])
   exact hN' _ (by simp [Pair.row]; (exact wkA))
  | false =>
   rw [hkx, if_neg (by simp)] at hN'
   (simp (maxSteps := 1000000) [hkx, hw])
   exact hN' _ (by (exact wkA))
 ·have hk' : k = l.length := by omega
  subst hk'
  have hl := Jtjx c g l
  have hm := Jter (renP c g l)
  have hmk := Jthd A S (renP c g l) (by omega)
  have hun := (Jthg A kept (makeP (renP c g l)) (by omega) (by omega)).mono fun _ _ h => h.1
  obtain ⟨G, hG⟩ : ∃ G, G = renP c g l := ⟨_, rfl⟩
  obtain ⟨M, hM⟩ : ∃ M, M = makeP (renP c g l) := ⟨_, rfl⟩
  rw [← hM, ← hG] at hmk
  rw [← hM] at hun
  simp only [List.take_length]
  rw [← hG]
  (simp (maxSteps := 1000000) [])
  (refine Jtt hmk (by rfl) (by rfl) ?_)
  (simp (maxSteps := 1000000) [pairsD])
  (refine Jtt hun (by rfl) (by rfl) ?_)
  (simp (maxSteps := 1000000) [])
  exact hR _ _ (Jt3t _ (.own 2 ((mergeP kept M).map Pair.row)) [.mem [AI d], .mem [AI a]] rfl (by (exact wkA)) ⟨by rw [hM], rfl⟩)
theorem Jtnp {P : Program} {p : Nums} (A : All P p) (S : SortOk P p) (C : ClosOk P p) (l : List Pair) (d a : Int) (h0 : l.length < 100000) (hne : d ≠ a) : Jt3o P p.transfer_Copy [.d (pairsD l), AI d, AI a] [] fun o H' => o = .ret (.own 2 ((copyP l d a).map Pair.row)) ∧ H' = [] := by
 refine A.transfer_Copy.run rfl fun R hR => ?_
 (simp (maxSteps := 1000000) [Jtcr, pairsD, hne])
 (refine Jtt (Jth9 A l d (by omega)) (by rfl) (by rfl) ?_)
 have hl := List.length_filter_le (fun x : Pair => x.v != d) l
 have hrn := Jtnu A S (l.filter fun x => x.v != d) l p.transfer_Copy_1 d a (fun x => x.v == a) (fun x => ⟨d, x.l⟩) (by omega) h0 C.ok1 fun x => C.copy x d a
 have hc : copyP l d a = mergeP (l.filter fun x => x.v != d) (makeP (renP (fun x => x.v == a) (fun x => ⟨d, x.l⟩) l)) := by unfold copyP; rw [if_neg hne]
 rw [← hc] at hrn
 obtain ⟨K, hK⟩ : ∃ K, K = l.filter fun x => x.v != d := ⟨_, rfl⟩
 rw [← hK] at hrn ⊢
 (simp (maxSteps := 1000000) [pairsD])
 refine Jtv [0, 1] hrn (by decide) (by rfl) (by rfl) (by rfl) (by rfl) (by rfl) (by rfl) ?_
 (simp (maxSteps := 1000000) [])
 exact hR _ _ (Jt3q _ _ rfl ⟨rfl, rfl⟩)
theorem Jtno {P : Program} {p : Nums} (A : All P p) (S : SortOk P p) (C : ClosOk P p) (l : List Pair) (d a : Int) (h0 : l.length < 100000) : Jt3o P p.transfer_Copy [.d (pairsD l), AI d, AI a] [] fun o _ => o = .ret (.d (pairsD (copyP l d a))) := by
 by_cases hne : d = a
 ·refine A.transfer_Copy.run rfl fun R hR => ?_
  subst hne
  (simp (maxSteps := 1000000) [Jtcr, pairsD])
  have hc : copyP l d d = makeP l := by unfold copyP; rw [if_pos rfl]
  have hmk := Jthd A S l (by omega)
  rw [← hc] at hmk
  (refine Jtt hmk (by rfl) (by rfl) ?_)
  (simp (maxSteps := 1000000) [pairsD])
  (first | exact hR _ _ FrA | exact hR _ _ FnA | exact hR _ _ (Xf (hq := by simp [AV.erase, AV.unview, pairsD]; done)))
 ·exact (Jtnp A S C l d a h0 hne).unown.mono fun _ _ h => h.1
theorem Jtnt {P : Program} {p : Nums} (A : All P p) (S : SortOk P p) (C : ClosOk P p) (l : List Pair) (d a : Int) (h0 : l.length < 100000) (hne : d ≠ a) : Jt3o P p.transfer_Move [.d (pairsD l), AI d, AI a] [] fun o H' => o = .ret (.own 2 ((moveP l d a).map Pair.row)) ∧ H' = [] := by
 refine A.transfer_Move.run rfl fun R hR => ?_
 (simp (maxSteps := 1000000) [Jtct, pairsD, hne])
 (refine Jtt (Jth6 A l d (by omega)) (by rfl) (by rfl) ?_)
 have hl := List.length_filter_le (fun x : Pair => x.l != d) l
 have hrn := Jtnu A S (l.filter fun x => x.l != d) l p.transfer_Move_1 d a (fun x => x.l == a) (fun x => ⟨x.v, d⟩) (by omega) h0 C.ok2 fun x => C.move x d a
 have hc : moveP l d a = mergeP (l.filter fun x => x.l != d) (makeP (renP (fun x => x.l == a) (fun x => ⟨x.v, d⟩) l)) := by unfold moveP; rw [if_neg hne]
 rw [← hc] at hrn
 obtain ⟨K, hK⟩ : ∃ K, K = l.filter fun x => x.l != d := ⟨_, rfl⟩
 rw [← hK] at hrn ⊢
 (simp (maxSteps := 1000000) [pairsD])
 refine Jtv [0, 1] hrn (by decide) (by rfl) (by rfl) (by rfl) (by rfl) (by rfl) (by rfl) ?_
 (simp (maxSteps := 1000000) [])
 exact hR _ _ (Jt3q _ _ rfl ⟨rfl, rfl⟩)
theorem Jtns {P : Program} {p : Nums} (A : All P p) (S : SortOk P p) (C : ClosOk P p) (l : List Pair) (d a : Int) (h0 : l.length < 100000) : Jt3o P p.transfer_Move [.d (pairsD l), AI d, AI a] [] fun o _ => o = .ret (.d (pairsD (moveP l d a))) := by
 by_cases hne : d = a
 ·refine A.transfer_Move.run rfl fun R hR => ?_
  subst hne
  (simp (maxSteps := 1000000) [Jtct, pairsD])
  have hc : moveP l d d = makeP l := by unfold moveP; rw [if_pos rfl]
  have hmk := Jthd A S l (by omega)
  rw [← hc] at hmk
  (refine Jtt hmk (by rfl) (by rfl) ?_)
  (simp (maxSteps := 1000000) [pairsD])
  (first | exact hR _ _ FrA | exact hR _ _ FnA | exact hR _ _ (Xf (hq := by simp [AV.erase, AV.unview, pairsD]; done)))
 ·exact (Jtnt A S C l d a h0 hne).unown.mono fun _ _ h => h.1
theorem Jtnr {P : Program} {p : Nums} (A : All P p) (S : SortOk P p) (l : List Pair) (d t : Int) (h0 : l.length < 100000) (hs : Srt l) : Jt3o P p.transfer_Define [.d (pairsD l), AI d, AI t] [] fun o H' => o = .ret (.own 2 ((defP l d t).map Pair.row)) ∧ H' = [] := by
 refine A.transfer_Define.run rfl fun R hR => ?_
 (simp (maxSteps := 1000000) [Jtcs, pairsD])
 (refine Jtt (Jth9 A l d (by omega)) (by rfl) (by rfl) ?_)
 have hl := List.length_filter_le (fun x : Pair => x.v != d) l
 have hl2 := List.length_filter_le (fun x : Pair => x.l != t) (l.filter fun x : Pair => x.v != d)
 have h2 := Jth6 A (l.filter fun x : Pair => x.v != d) t (by omega)
 have h3 := (Jth4 A ((l.filter fun x => x.v != d).filter fun x => x.l != t) ⟨d, t⟩ (by omega) (Jtmh (Jtmh hs))).mono fun _ _ h => h.1
 have hc : addP ((l.filter fun x => x.v != d).filter fun x => x.l != t) ⟨d, t⟩ = defP l d t := rfl
 rw [hc] at h3
 obtain ⟨K, hK⟩ : ∃ K, K = l.filter fun x : Pair => x.v != d := ⟨_, rfl⟩
 rw [← hK] at h2 h3 ⊢
 obtain ⟨K2, hK2⟩ : ∃ K2, K2 = K.filter fun x : Pair => x.l != t := ⟨_, rfl⟩
 rw [← hK2] at h2 h3
 (simp (maxSteps := 1000000) [pairsD])
 (refine Jtt h2 (by rfl) (by rfl) ?_)
 (simp (maxSteps := 1000000) [pairsD])
 (refine Jtt h3 (by rfl) (by rfl) ?_)
 (simp (maxSteps := 1000000) [])
 exact hR _ _ (Jt3q _ _ rfl ⟨rfl, rfl⟩)
theorem Jtnq {P : Program} {p : Nums} (A : All P p) (S : SortOk P p) (l : List Pair) (d t : Int) (h0 : l.length < 100000) (hs : Srt l) : Jt3o P p.transfer_Define [.d (pairsD l), AI d, AI t] [] fun o _ => o = .ret (.d (pairsD (defP l d t))) :=
 (Jtnr A S l d t h0 hs).unown.mono fun _ _ h => h.1
end
theorem Jti5 (d t : Int) (out : List Pair) (x : Pair) : (rdStep d t out x).length ≤ out.length + 2 := by
 have := Jt4f out x
 unfold rdStep; split <;> omega
section
theorem Jtit {P : Program} {p : Nums} (A : All P p) (l : List Pair) (d a : Int) (h0 : l.length < 100000) : Jt3o P p.ref12_Copy [.d (pairsD l), AI d, AI a] [] fun o _ => o = .ret (.d (pairsD (rcopyP l d a))) := by
 refine A.ref12_Copy.run rfl fun R hR => ?_
 (simp (maxSteps := 1000000) [Jtbz, pairsD])
 refine Jt9 (fun k : Nat => ⟨[(8, AI k), (7, .d (.sl ((rcopyP (l.take k) d a).map Pair.row))), (6, .nils), (2, AI a), (1, AI d), (0, .d (.sl (l.map Pair.row)))], []⟩) (fun k => k ≤ l.length) (fun k => l.length - k) 0 (by simp) (by simp only [List.take_zero, rcopyP, List.foldl_nil, List.map_nil]; (exact wkA)) ?_
 intro k hk N hN
 (simp (maxSteps := 1000000) [])
 ((first | refine Xc (fun h2 => ?_) (fun h2 => ?_) | refine Xo (fun h2 => ?_) (fun h2 => ?_)) <;> (try simp only [Xz, Xy] at h2))
 ·have hkl : k < l.length := by simpa using h2
  have hb : l[k]? = some l[k] := by simp
  have hw := Jtog (k := k) (by omega)
  have hs : rcopyP (l.take (k + 1)) d a = rcStep d a (rcopyP (l.take k) d a) l[k] := Jt8u hkl
  have hl : (rcopyP (l.take k) d a).length ≤ 2 * l.length := by
   have := Jt8r (Jti1 d a) (l.take k) []; simp only [List.length_take, List.length_nil] at this; unfold rcopyP; omega
  have hN' := fun st' h => hN st' (k + 1) hkl h (by omega)
  rw [hs] at hN'
  obtain ⟨F, hF⟩ : ∃ F, F = rcopyP (l.take k) d a := ⟨_, rfl⟩
  rw [← hF] at hN' hl ⊢
  have hF1 := Jt4f F l[k]
  by_cases e1 : d = a
  ·subst e1
   (simp (maxSteps := 1000000) [h2, hb, Pair.row])
   (refine Jtt (Jtip A F l[k] (by omega)) (by rfl) (by rfl) ?_)
   (simp (maxSteps := 1000000) [pairsD, hb, Pair.row])
   by_cases h3 : l[k].v = d
   ·rw [Jti3 h3 (.inl rfl)] at hN'
    (simp (maxSteps := 1000000) [h3, hb, Pair.row])
    (refine Jtt (Jtip A (addP F l[k]) ⟨d, l[k].l⟩ (by omega)) (by rfl) (by rfl) ?_)
    (simp (maxSteps := 1000000) [pairsD, hw])
    exact hN' _ (by (exact wkA))
   ·rw [Jti0 h3 (.inl rfl)] at hN'
    (simp (maxSteps := 1000000) [h3, hw])
    exact hN' _ (by (exact wkA))
  ·by_cases h4 : l[k].v = d
   ·have h3 : ¬ l[k].v = a := fun h => e1 (h4.symm.trans h)
    have h5 : ¬ (d = a ∨ l[k].v ≠ d) := by rintro (h | h); exact e1 h; exact h h4
    rw [Jthz h3 h5] at hN'
    (simp (maxSteps := 1000000) [h2, e1, h4, h3, hb, Pair.row, hw])
    exact hN' _ (by (exact wkA))
   ·have h5 : d = a ∨ l[k].v ≠ d := .inr h4
    (simp (maxSteps := 1000000) [h2, e1, h4, hb, Pair.row])
    (refine Jtt (Jtip A F l[k] (by omega)) (by rfl) (by rfl) ?_)
    (simp (maxSteps := 1000000) [pairsD, hb, Pair.row])
    by_cases h3 : l[k].v = a
    ·rw [Jti3 h3 h5] at hN'
     (simp (maxSteps := 1000000) [h3, hb, Pair.row])
     (refine Jtt (Jtip A (addP F l[k]) ⟨d, l[k].l⟩ (by omega)) (by rfl) (by rfl) ?_)
     (simp (maxSteps := 1000000) [pairsD, hw])
     exact hN' _ (by (exact wkA))
    ·rw [Jti0 h3 h5] at hN'
     (simp (maxSteps := 1000000) [h3, hw])
     exact hN' _ (by (exact wkA))
 ·have hk' : k = l.length := by simp at h2; omega
  subst hk'
  (simp (maxSteps := 1000000) [])
  (first | exact hR _ _ FrA | exact hR _ _ FnA | exact hR _ _ (Xf (hq := by simp [AV.erase, AV.unview, List.take_length, pairsD]; done)))
theorem Jtiv {P : Program} {p : Nums} (A : All P p) (l : List Pair) (d a : Int) (h0 : l.length < 100000) : Jt3o P p.ref12_Move [.d (pairsD l), AI d, AI a] [] fun o _ => o = .ret (.d (pairsD (rmoveP l d a))) := by
 refine A.ref12_Move.run rfl fun R hR => ?_
 (simp (maxSteps := 1000000) [Jtc1, pairsD])
 refine Jt9 (fun k : Nat => ⟨[(8, AI k), (7, .d (.sl ((rmoveP (l.take k) d a).map Pair.row))), (6, .nils), (2, AI a), (1, AI d), (0, .d (.sl (l.map Pair.row)))], []⟩) (fun k => k ≤ l.length) (fun k => l.length - k) 0 (by simp) (by simp only [List.take_zero, rmoveP, List.foldl_nil, List.map_nil]; (exact wkA)) ?_
 intro k hk N hN
 (simp (maxSteps := 1000000) [])
 ((first | refine Xc (fun h2 => ?_) (fun h2 => ?_) | refine Xo (fun h2 => ?_) (fun h2 => ?_)) <;> (try simp only [Xz, Xy] at h2))
 ·have hkl : k < l.length := by simpa using h2
  have hb : l[k]? = some l[k] := by simp
  have hw := Jtog (k := k) (by omega)
  have hs : rmoveP (l.take (k + 1)) d a = rmStep d a (rmoveP (l.take k) d a) l[k] := Jt8u hkl
  have hl : (rmoveP (l.take k) d a).length ≤ 2 * l.length := by
   have := Jt8r (Jtk9 d a) (l.take k) []; simp only [List.length_take, List.length_nil] at this; unfold rmoveP; omega
  have hN' := fun st' h => hN st' (k + 1) hkl h (by omega)
  rw [hs] at hN'
  obtain ⟨F, hF⟩ : ∃ F, F = rmoveP (l.take k) d a := ⟨_, rfl⟩
  rw [← hF] at hN' hl ⊢
  have hF1 := Jt4f F l[k]
  by_cases e1 : d = a
  ·subst e1
   (simp (maxSteps := 1000000) [h2, hb, Pair.row])
   (refine Jtt (Jtip A F l[k] (by omega)) (by rfl) (by rfl) ?_)
   (simp (maxSteps := 1000000) [pairsD, hb, Pair.row])
   by_cases h3 : l[k].l = d
   ·rw [Jtkb h3 (.inl rfl)] at hN'
    (simp (maxSteps := 1000000) [h3, hb, Pair.row])
    (refine Jtt (Jtip A (addP F l[k]) ⟨l[k].v, d⟩ (by omega)) (by rfl) (by rfl) ?_)
    (simp (maxSteps := 1000000) [pairsD, hw])
    exact hN' _ (by (exact wkA))
   ·rw [Jtk8 h3 (.inl rfl)] at hN'
    (simp (maxSteps := 1000000) [h3, hw])
    exact hN' _ (by (exact wkA))
  ·by_cases h4 : l[k].l = d
   ·have h3 : ¬ l[k].l = a := fun h => e1 (h4.symm.trans h)
    have h5 : ¬ (d = a ∨ l[k].l ≠ d) := by rintro (h | h); exact e1 h; exact h h4
    rw [Jtk7 h3 h5] at hN'
    (simp (maxSteps := 1000000) [h2, e1, h4, h3, hb, Pair.row, hw])
    exact hN' _ (by (exact wkA))
   ·have h5 : d = a ∨ l[k].l ≠ d := .inr h4
    (simp (maxSteps := 1000000) [h2, e1, h4, hb, Pair.row])
    (refine Jtt (Jtip A F l[k] (by omega)) (by rfl) (by rfl) ?_)
    (simp (maxSteps := 1000000) [pairsD, hb, Pair.row])
    by_cases h3 : l[k].l = a
    ·rw [Jtkb h3 h5] at hN'
     (simp (maxSteps := 1000000) [h3, hb, Pair.row])
     (refine Jtt (Jtip A (addP F l[k]) ⟨l[k].v, d⟩ (by omega)) (by rfl) (by rfl) ?_)
     (simp (maxSteps := 1000000) [pairsD, hw])
     exact hN' _ (by (exact wkA))
    ·rw [Jtk8 h3 h5] at hN'
     (simp (maxSteps := 1000000) [h3, hw])
     exact hN' _ (by (exact wkA))
 ·have hk' : k = l.length := by simp at h2; omega
  subst hk'
  (simp (maxSteps := 1000000) [])
  (first | exact hR _ _ FrA | exact hR _ _ FnA | exact hR _ _ (Xf (hq := by simp [AV.erase, AV.unview, List.take_length, pairsD]; done)))
theorem Jtiu {P : Program} {p : Nums} (A : All P p) (l : List Pair) (d t : Int) (h0 : l.length < 100000) : Jt3o P p.ref12_Define [.d (pairsD l), AI d, AI t] [] fun o _ => o = .ret (.d (pairsD (rdefP l d t))) := by
 refine A.ref12_Define.run rfl fun R hR => ?_
 (simp (maxSteps := 1000000) [Jtc0, pairsD])
 refine Jt9 (fun k : Nat => ⟨[(8, AI k), (7, .d (.sl ((rdefP (l.take k) d t).map Pair.row))), (6, .nils), (2, AI t), (1, AI d), (0, .d (.sl (l.map Pair.row)))], []⟩) (fun k => k ≤ l.length) (fun k => l.length - k) 0 (by simp) (by simp only [List.take_zero, rdefP, List.foldl_nil, List.map_nil, List.map_cons, Pair.row]; (exact wkA)) ?_
 intro k hk N hN
 (simp (maxSteps := 1000000) [])
 ((first | refine Xc (fun h2 => ?_) (fun h2 => ?_) | refine Xo (fun h2 => ?_) (fun h2 => ?_)) <;> (try simp only [Xz, Xy] at h2))
 ·have hkl : k < l.length := by simpa using h2
  have hb : l[k]? = some l[k] := by simp
  have hw := Jtog (k := k) (by omega)
  have hs : rdefP (l.take (k + 1)) d t = rdStep d t (rdefP (l.take k) d t) l[k] := Jt8u hkl
  have hl : (rdefP (l.take k) d t).length ≤ 2 * l.length + 1 := by
   have := Jt8r (Jti5 d t) (l.take k) [⟨d, t⟩]; simp only [List.length_take, List.length_cons, List.length_nil] at this; unfold rdefP; omega
  have hN' := fun st' h => hN st' (k + 1) hkl h (by omega)
  rw [hs] at hN'
  obtain ⟨F, hF⟩ : ∃ F, F = rdefP (l.take k) d t := ⟨_, rfl⟩
  rw [← hF] at hN' hl ⊢
  by_cases h4 : l[k].v = d
  ·have h5 : ¬ (l[k].v ≠ d ∧ l[k].l ≠ t) := fun h => h.1 h4
   rw [rdStep, if_neg h5] at hN'
   (simp (maxSteps := 1000000) [h2, h4, hb, Pair.row, hw])
   exact hN' _ (by (exact wkA))
  ·by_cases h3 : l[k].l = t
   ·have h5 : ¬ (l[k].v ≠ d ∧ l[k].l ≠ t) := fun h => h.2 h3
    rw [rdStep, if_neg h5] at hN'
    (simp (maxSteps := 1000000) [h2, h4, h3, hb, Pair.row, hw])
    exact hN' _ (by (exact wkA))
   ·rw [rdStep, if_pos ⟨h4, h3⟩] at hN'
    (simp (maxSteps := 1000000) [h2, h4, h3, hb, Pair.row])
    (refine Jtt (Jtip A F l[k] (by omega)) (by rfl) (by rfl) ?_)
    (simp (maxSteps := 1000000) [pairsD, hw])
    exact hN' _ (by (exact wkA))
 ·have hk' : k = l.length := by simp at h2; omega
  subst hk'
  (simp (maxSteps := 1000000) [])
  (first | exact hR _ _ FrA | exact hR _ _ FnA | exact hR _ _ (Xf (hq := by simp [AV.erase, AV.unview, List.take_length, pairsD]; done)))
end
section
end
section
end
section
end
section
end
section
end
section
end
section
end
def isDig (c : UInt8) : Bool := decide (48 ≤ c.toNat) && decide (c.toNat ≤ 57)
def valD (ds : List UInt8) : Nat := ds.foldl (fun n c => 10 * n + (c.toNat - 48)) 0
def okD (ds : List UInt8) : Prop := ds ≠ [] ∧ (∀ c ∈ ds, isDig c = true) ∧ (ds.length ≤ 1 ∨ ds.head? ≠ some 48) ∧ valD ds < 1099511627776
instance (ds : List UInt8) : Decidable (okD ds) := by unfold okD; infer_instance
theorem Jtnb (k : Nat) : ((k : Int)).tdiv 2 = ((k / 2 : Nat) : Int) := rfl
theorem Jtna (l : Int) (h0 : -9223372036854775808 ≤ l) (h1 : l ≤ 9223372036854775807) : IntKind.i64.wrap (l.tdiv 2) = l.tdiv 2 := by
 rcases Int.le_total 0 l with h | h
 ·obtain ⟨k, rfl⟩ := Int.eq_ofNat_of_zero_le h
  rw [Jtnb]; exact wrap_i64 (by omega) (by omega)
 ·obtain ⟨k, hk⟩ := Int.eq_ofNat_of_zero_le (show 0 ≤ -l by omega)
  have : l = -(k : Int) := by omega
  subst this
  rw [Int.neg_tdiv, Jtnb]; exact wrap_i64 (by omega) (by omega)
section
theorem Jte5 {P : Program} {p : Nums} (A : All P p) (n : Int) (h0 : -1000000000000000 ≤ n) (h1 : n ≤ 1000000000000000) : Jt3o P p.location_Slot [AI n] [] fun o _ => o = .ret (AI (2 * n + 1)) := by
 refine A.location_Slot.run rfl fun R hR => ?_
 have hw : IntKind.i64.wrap (2 * n) = 2 * n := wrap_i64 (by omega) (by omega)
 have hw2 : IntKind.i64.wrap (2 * n + 1) = 2 * n + 1 := wrap_i64 (by omega) (by omega)
 (simp (maxSteps := 1000000) [Jtao, hw, hw2])
 (first | exact hR _ _ FrA | exact hR _ _ FnA)
theorem Jte3 {P : Program} {p : Nums} (A : All P p) (l : Int) : Jt3o P p.location_IsSlot [AI l] [] fun o _ => o = .ret (AB (l.tmod 2 == 1)) := by
 refine A.location_IsSlot.run rfl fun R hR => ?_
 (simp (maxSteps := 1000000) [Jtam])
 (first | exact hR _ _ FrA | exact hR _ _ FnA)
theorem Jte2 {P : Program} {p : Nums} (A : All P p) (l : Int) (h0 : -9223372036854775808 ≤ l) (h1 : l ≤ 9223372036854775807) : Jt3o P p.location_Index [AI l] [] fun o _ => o = .ret (AI (l.tdiv 2)) := by
 refine A.location_Index.run rfl fun R hR => ?_
 have hw := Jtna l h0 h1
 (simp (maxSteps := 1000000) [Jtal, hw])
 (first | exact hR _ _ FrA | exact hR _ _ FnA)
def rngZ (l r s : Int) : Bool := if l.tmod 2 = 1 then decide (0 ≤ l) && decide (l.tdiv 2 < s) else decide (0 ≤ l) && decide (l.tdiv 2 < r)
theorem Jte1 {P : Program} {p : Nums} (A : All P p) (l r s : Int) (h0 : -9223372036854775808 ≤ l) (h1 : l ≤ 9223372036854775807) : Jt3o P p.location_InRange [AI l, AI r, AI s] [] fun o _ => o = .ret (AB (rngZ l r s)) := by
 refine A.location_InRange.run rfl fun R hR => ?_
 (simp (maxSteps := 1000000) [Jtak])
 (refine Jtt (Jte3 A l) (by rfl) (by rfl) ?_)
 (simp (maxSteps := 1000000) [])
 by_cases hm : l.tmod 2 = 1 <;> by_cases hl : 0 ≤ l
 ·(simp (maxSteps := 1000000) [hm, hl])
  (refine Jtt (Jte2 A l h0 h1) (by rfl) (by rfl) ?_)
  (simp (maxSteps := 1000000) [])
  (first | exact hR _ _ FrA | exact hR _ _ FnA | exact hR _ _ (Xf (hq := by simp [AV.erase, AV.unview, rngZ, hm, hl]; done)))
 ·(simp (maxSteps := 1000000) [hm, hl])
  (first | exact hR _ _ FrA | exact hR _ _ FnA | exact hR _ _ (Xf (hq := by simp [AV.erase, AV.unview, rngZ, hm, hl]; done)))
 ·(simp (maxSteps := 1000000) [hm, hl])
  (refine Jtt (Jte2 A l h0 h1) (by rfl) (by rfl) ?_)
  (simp (maxSteps := 1000000) [])
  (first | exact hR _ _ FrA | exact hR _ _ FnA | exact hR _ _ (Xf (hq := by simp [AV.erase, AV.unview, rngZ, hm, hl]; done)))
 ·(simp (maxSteps := 1000000) [hm, hl])
  (first | exact hR _ _ FrA | exact hR _ _ FnA | exact hR _ _ (Xf (hq := by simp [AV.erase, AV.unview, rngZ, hm, hl]; done)))
theorem Jti9 {P : Program} {p : Nums} (A : All P p) (l r s : Int) (h0 : -9223372036854775808 ≤ l) (h1 : l ≤ 9223372036854775807) : Jt3o P p.ref04_InRange [AI l, AI r, AI s] [] fun o _ => o = .ret (AB (rngZ l r s)) := by
 refine A.ref04_InRange.run rfl fun R hR => ?_
 have hw := Jtna l h0 h1
 (simp (maxSteps := 1000000) [Jtbf, hw])
 by_cases hl : l < 0
 ·have hl' : ¬ 0 ≤ l := by omega
  (simp (maxSteps := 1000000) [hl])
  (first | exact hR _ _ FrA | exact hR _ _ FnA | exact hR _ _ (Xf (hq := by simp [AV.erase, AV.unview, rngZ, hl']; done)))
 ·have hl' : 0 ≤ l := by omega
  by_cases hm : l.tmod 2 = 1
  ·(simp (maxSteps := 1000000) [hm, hl, hw])
   (first | exact hR _ _ FrA | exact hR _ _ FnA | exact hR _ _ (Xf (hq := by simp [AV.erase, AV.unview, rngZ, hm, hl', hw]; done)))
  ·(simp (maxSteps := 1000000) [hm, hl, hw])
   (first | exact hR _ _ FrA | exact hR _ _ FnA | exact hR _ _ (Xf (hq := by simp [AV.erase, AV.unview, rngZ, hm, hl', hw]; done)))
end
structure Mach where (op d a b imm dst src : Int)
 deriving DecidableEq, Inhabited
def Mach.row (m : Mach) : List D := [I m.op, I m.d, I m.a, I m.b, I m.imm, I m.dst, I m.src]
def Mach.av (m : Mach) : AV := .agg [AI m.op, AI m.d, AI m.a, AI m.b, AI m.imm, AI m.dst, AI m.src]
def regZ (n : Int) : Int := IntKind.i64.wrap (2 * n)
section
theorem Jte4 {P : Program} {p : Nums} (A : All P p) (x : Int) : Jt3o P p.location_Reg [AI x] [] fun o _ => o = .ret (AI (regZ x)) := by
 refine A.location_Reg.run rfl fun R hR => ?_
 (simp (maxSteps := 1000000) [Jtan])
 (first | exact hR _ _ FrA | exact hR _ _ FnA)
def knownZ (x : Int) : Bool := decide (1 ≤ x ∧ x ≤ 18)
theorem Jtgt {P : Program} {p : Nums} (A : All P p) (x : Int) : Jt3o P p.opcode_known [AI x] [] fun o _ => o = .ret (AB (knownZ x)) := by
 refine A.opcode_known.run rfl fun R hR => ?_
 (simp (maxSteps := 1000000) [Jtb2])
 ((first | refine Xc (fun hx => ?_) (fun hx => ?_) | refine Xo (fun hx => ?_) (fun hx => ?_)) <;> (try simp only [Xz, Xy] at hx))
 ·(simp (maxSteps := 1000000) [hx])
  (first | exact hR _ _ FrA | exact hR _ _ FnA | exact hR _ _ (Xf (hq := by simp [AV.erase, AV.unview, knownZ, hx]; done)))
 ·(simp (maxSteps := 1000000) [hx])
  (first | exact hR _ _ FrA | exact hR _ _ FnA | exact hR _ _ (Xf (hq := by simp [AV.erase, AV.unview, knownZ, hx]; done)))
structure Shape where (D A B Imm : Bool)
def shapeZ (x : Int) : Shape :=
 if knownZ x = false then ⟨false, false, false, false⟩ else if x = 1 then ⟨true, false, false, true⟩ else if x ≤ 4 then ⟨true, true, false, false⟩ else if x ≤ 16 then ⟨true, true, true, false⟩ else ⟨false, x == 17, false, false⟩
theorem Jtgr {P : Program} {p : Nums} (A : All P p) (x : Int) : Jt3o P p.opcode_Of [AI x] [] fun o _ => o = .ret (.tup [.agg [AB (shapeZ x).D, AB (shapeZ x).A, AB (shapeZ x).B, AB (shapeZ x).Imm], AB (knownZ x)]) := by
 refine A.opcode_Of.run rfl fun R hR => ?_
 (simp (maxSteps := 1000000) [Jtb0])
 (refine Jtt (Jtgt A _) (by rfl) (by rfl) ?_)
 (simp (maxSteps := 1000000) [])
 ((first | refine Xc (fun h1 => ?_) (fun h1 => ?_) | refine Xo (fun h1 => ?_) (fun h1 => ?_)) <;> (try simp only [Xz, Xy] at h1))
 ·(simp (maxSteps := 1000000) [h1])
  (first | exact hR _ _ FrA | exact hR _ _ FnA | exact hR _ _ (Xf (hq := by simp [AV.erase, AV.unview, shapeZ, h1]; done)))
 ·(simp (maxSteps := 1000000) [h1])
  ((first | refine Xc (fun h2 => ?_) (fun h2 => ?_) | refine Xo (fun h2 => ?_) (fun h2 => ?_)) <;> (try simp only [Xz, Xy] at h2))
  ·subst h2
   (simp (maxSteps := 1000000) [])
   (first | exact hR _ _ FrA | exact hR _ _ FnA | exact hR _ _ (Xf (hq := by simp [AV.erase, AV.unview, shapeZ, h1]; done)))
  ·(simp (maxSteps := 1000000) [h2])
   ((first | refine Xc (fun h3 => ?_) (fun h3 => ?_) | refine Xo (fun h3 => ?_) (fun h3 => ?_)) <;> (try simp only [Xz, Xy] at h3))
   ·(simp (maxSteps := 1000000) [h3])
    (first | exact hR _ _ FrA | exact hR _ _ FnA | exact hR _ _ (Xf (hq := by simp [AV.erase, AV.unview, shapeZ, h1, h2, h3]; done)))
   ·(simp (maxSteps := 1000000) [h3])
    ((first | refine Xc (fun h4 => ?_) (fun h4 => ?_) | refine Xo (fun h4 => ?_) (fun h4 => ?_)) <;> (try simp only [Xz, Xy] at h4))
    ·(simp (maxSteps := 1000000) [h4])
     (first | exact hR _ _ FrA | exact hR _ _ FnA | exact hR _ _ (Xf (hq := by simp [AV.erase, AV.unview, shapeZ, h1, h2, h3, h4]; done)))
    ·(simp (maxSteps := 1000000) [h4])
     (first | exact hR _ _ FrA | exact hR _ _ FnA | exact hR _ _ (Xf (hq := by simp [AV.erase, AV.unview, shapeZ, h1, h2, h3, h4]; done)))
def Jtlr (x : Int) : Bool := knownZ x && x != 18
theorem Jtgs {P : Program} {p : Nums} (A : All P p) (x : Int) : Jt3o P p.opcode_Source [AI x] [] fun o _ => o = .ret (AB (Jtlr x)) := by
 refine A.opcode_Source.run rfl fun R hR => ?_
 (simp (maxSteps := 1000000) [Jtb1])
 (refine Jtt (Jtgt A _) (by rfl) (by rfl) ?_)
 (simp (maxSteps := 1000000) [])
 ((first | refine Xc (fun h1 => ?_) (fun h1 => ?_) | refine Xo (fun h1 => ?_) (fun h1 => ?_)) <;> (try simp only [Xz, Xy] at h1))
 ·(simp (maxSteps := 1000000) [h1])
  (first | exact hR _ _ FrA | exact hR _ _ FnA | exact hR _ _ (Xf (hq := by simp [AV.erase, AV.unview, h1, Jtlr]; done)))
 ·(simp (maxSteps := 1000000) [h1])
  (first | exact hR _ _ FrA | exact hR _ _ FnA | exact hR _ _ (Xf (hq := by simp [AV.erase, AV.unview, h1, Jtlr]; done)))
def inZ (x n : Int) : Bool := decide (0 ≤ x ∧ x < n)
theorem Jtij {P : Program} {p : Nums} (A : All P p) (x n : Int) : Jt3o P p.ref07_in [AI x, AI n] [] fun o _ => o = .ret (AB (inZ x n)) := by
 refine A.ref07_in.run rfl fun R hR => ?_
 (simp (maxSteps := 1000000) [Jtbp])
 ((first | refine Xc (fun h1 => ?_) (fun h1 => ?_) | refine Xo (fun h1 => ?_) (fun h1 => ?_)) <;> (try simp only [Xz, Xy] at h1))
 ·(simp (maxSteps := 1000000) [h1])
  (first | exact hR _ _ FrA | exact hR _ _ FnA | exact hR _ _ (Xf (hq := by simp [AV.erase, AV.unview, h1, inZ]; done)))
 ·(simp (maxSteps := 1000000) [h1])
  (first | exact hR _ _ FrA | exact hR _ _ FnA | exact hR _ _ (Xf (hq := by simp [AV.erase, AV.unview, h1, inZ]; done)))
def usesA (x : Int) : Bool := decide (2 ≤ x ∧ x ≤ 17)
theorem Jtia {P : Program} {p : Nums} (A : All P p) (x : Int) : Jt3o P p.ref05_UsesA [AI x] [] fun o _ => o = .ret (AB (usesA x)) := by
 refine A.ref05_UsesA.run rfl fun R hR => ?_
 (simp (maxSteps := 1000000) [Jtbg])
 ((first | refine Xc (fun hx => ?_) (fun hx => ?_) | refine Xo (fun hx => ?_) (fun hx => ?_)) <;> (try simp only [Xz, Xy] at hx))
 ·(simp (maxSteps := 1000000) [hx])
  (first | exact hR _ _ FrA | exact hR _ _ FnA | exact hR _ _ (Xf (hq := by simp [AV.erase, AV.unview, usesA, hx]; done)))
 ·(simp (maxSteps := 1000000) [hx])
  (first | exact hR _ _ FrA | exact hR _ _ FnA | exact hR _ _ (Xf (hq := by simp [AV.erase, AV.unview, usesA, hx]; done)))
def usesB (x : Int) : Bool := decide (5 ≤ x ∧ x ≤ 16)
theorem Jtib {P : Program} {p : Nums} (A : All P p) (x : Int) : Jt3o P p.ref05_UsesB [AI x] [] fun o _ => o = .ret (AB (usesB x)) := by
 refine A.ref05_UsesB.run rfl fun R hR => ?_
 (simp (maxSteps := 1000000) [Jtbh])
 ((first | refine Xc (fun hx => ?_) (fun hx => ?_) | refine Xo (fun hx => ?_) (fun hx => ?_)) <;> (try simp only [Xz, Xy] at hx))
 ·(simp (maxSteps := 1000000) [hx])
  (first | exact hR _ _ FrA | exact hR _ _ FnA | exact hR _ _ (Xf (hq := by simp [AV.erase, AV.unview, usesB, hx]; done)))
 ·(simp (maxSteps := 1000000) [hx])
  (first | exact hR _ _ FrA | exact hR _ _ FnA | exact hR _ _ (Xf (hq := by simp [AV.erase, AV.unview, usesB, hx]; done)))
def usesD (x : Int) : Bool := decide (1 ≤ x ∧ x ≤ 16)
theorem Jtic {P : Program} {p : Nums} (A : All P p) (x : Int) : Jt3o P p.ref05_UsesD [AI x] [] fun o _ => o = .ret (AB (usesD x)) := by
 refine A.ref05_UsesD.run rfl fun R hR => ?_
 (simp (maxSteps := 1000000) [Jtbi])
 ((first | refine Xc (fun hx => ?_) (fun hx => ?_) | refine Xo (fun hx => ?_) (fun hx => ?_)) <;> (try simp only [Xz, Xy] at hx))
 ·(simp (maxSteps := 1000000) [hx])
  (first | exact hR _ _ FrA | exact hR _ _ FnA | exact hR _ _ (Xf (hq := by simp [AV.erase, AV.unview, usesD, hx]; done)))
 ·(simp (maxSteps := 1000000) [hx])
  (first | exact hR _ _ FrA | exact hR _ _ FnA | exact hR _ _ (Xf (hq := by simp [AV.erase, AV.unview, usesD, hx]; done)))
end
structure Field where (value : Int) (used : Bool) (bound : Int)
def Field.row (f : Field) : List D := [I f.value, .bool f.used, I f.bound]
def Field.bad (f : Field) : Bool := f.used && (decide (f.value < 0) || decide (f.bound ≤ f.value))
def Jto6 (fs : List Field) : Bool := !fs.any Field.bad
section
theorem Jtm0 {P : Program} {p : Nums} (A : All P p) (fs : List Field) (hl : fs.length < 1000000) : Jt3o P p.source_within [.d (.sl (fs.map Field.row))] [] fun o _ => o = .ret (AB (Jto6 fs)) := by
 refine A.source_within.run rfl fun R hR => ?_
 (simp (maxSteps := 1000000) [Jtcq])
 refine Jt9 (fun k : Nat => ⟨[(7, AI k), (6, AI fs.length), (5, .d (.sl (fs.map Field.row))), (2, AB false)], []⟩) (fun k => k ≤ fs.length ∧ (fs.take k).any Field.bad = false) (fun k => fs.length - k) 0 (by simp) (by (exact wkA)) ?_
 rintro k ⟨hk, hno⟩ N hN
 (simp (maxSteps := 1000000) [])
 ((first | refine Xc (fun h1 => ?_) (fun h1 => ?_) | refine Xo (fun h1 => ?_) (fun h1 => ?_)) <;> (try simp only [Xz, Xy] at h1))
 ·have hkl : k < fs.length := by simpa using h1
  have hf : fs[k]? = some fs[k] := by simp [hkl]
  have hw := Jtog (k := k) (by omega)
  have htk : fs.take (k + 1) = fs.take k ++ [fs[k]] := by rw [List.take_add_one, hf]; rfl
  have hany : Jto6 fs = true → fs[k].bad = false := by
   intro h; simp [Jto6] at h; exact h _ (List.getElem_mem hkl)
  have next : ∀ env H, fs[k].bad = false → Wk 0 ⟨env, H⟩ ⟨[(7, AI ((k + 1 : Nat) : Int)), (6, AI fs.length), (5, .d (.sl (fs.map Field.row))), (2, AB false)], []⟩ → N ⟨env, H⟩ :=
   fun env H hb hw => hN _ (k + 1) ⟨hkl, by rw [htk, List.any_append, hno]; simp [hb]⟩ hw (by omega)
  have stop : fs[k].bad = true → Jto6 fs = false := by
   intro h; cases hz : Jto6 fs with
   | false => rfl
   | true => rw [hany hz] at h; cases h
  (simp (maxSteps := 1000000) [h1, hf, Field.row])
  ((first | refine Xc (fun h2 => ?_) (fun h2 => ?_) | refine Xo (fun h2 => ?_) (fun h2 => ?_)) <;> (try simp only [Xz, Xy] at h2))
  ·(simp (maxSteps := 1000000) [h2])
   ((first | refine Xc (fun h3 => ?_) (fun h3 => ?_) | refine Xo (fun h3 => ?_) (fun h3 => ?_)) <;> (try simp only [Xz, Xy] at h3))
   ·(simp (maxSteps := 1000000) [h2, h3])
    (first | exact hR _ _ FrA | exact hR _ _ FnA | exact hR _ _ (Xf (hq := by simp [AV.erase, AV.unview, stop (by simp [Field.bad, h2, h3])]; done)))
   ·(simp (maxSteps := 1000000) [h2, h3])
    ((first | refine Xc (fun h4 => ?_) (fun h4 => ?_) | refine Xo (fun h4 => ?_) (fun h4 => ?_)) <;> (try simp only [Xz, Xy] at h4))
    ·(simp (maxSteps := 1000000) [h2, h3, h4])
     (first | exact hR _ _ FrA | exact hR _ _ FnA | exact hR _ _ (Xf (hq := by simp [AV.erase, AV.unview, stop (by simp [Field.bad, h2, h3, h4])]; done)))
    ·(simp (maxSteps := 1000000) [h2, h3, h4, hw])
     exact next _ _ (by simp [Field.bad, h2, h3, h4]) (by (exact wkA))
  ·(simp (maxSteps := 1000000) [h2, hw])
   exact next _ _ (by simp [Field.bad, h2]) (by (exact wkA))
 ·(simp (maxSteps := 1000000) [h1])
  have hk' : k = fs.length := by simp at h1; omega
  subst hk'
  rw [List.take_length] at hno
  (first | exact hR _ _ FrA | exact hR _ _ FnA | exact hR _ _ (Xf (hq := by simp [AV.erase, AV.unview, Jto6, hno]; done)))
end
def Field.odd (f : Field) : Bool := !f.used && f.value != 0
def blankZ (fs : List Field) : Bool := !fs.any Field.odd
structure Instr where (op d a b imm : Int)
 deriving DecidableEq, Inhabited
def Instr.row (i : Instr) : List D := [I i.op, I i.d, I i.a, I i.b, I i.imm]
def Instr.av (i : Instr) : AV := .agg [AI i.op, AI i.d, AI i.a, AI i.b, AI i.imm]
structure Term where (kind a to els : Int)
 deriving DecidableEq, Inhabited
def Term.row (i : Term) : List D := [I i.kind, I i.a, I i.to, I i.els]
def Term.av (i : Term) : AV := .agg [AI i.kind, AI i.a, AI i.to, AI i.els]
def flds (i : Instr) (regs : Int) : List Field := [⟨i.d, (shapeZ i.op).D, regs⟩, ⟨i.a, (shapeZ i.op).A, regs⟩, ⟨i.b, (shapeZ i.op).B, regs⟩]
def Jtm6 (i : Instr) (regs : Int) : Int :=
 if Jtlr i.op = false then 8 else if Jto6 (flds i regs) = false then 9 else if blankZ (flds i regs) = false then 12 else if (shapeZ i.op).Imm = false ∧ i.imm ≠ 0 then 12 else 0
section
theorem Jtlx {P : Program} {p : Nums} (A : All P p) (fs : List Field) (hl : fs.length < 1000000) : Jt3o P p.source_blank [.d (.sl (fs.map Field.row))] [] fun o _ => o = .ret (AB (blankZ fs)) := by
 refine A.source_blank.run rfl fun R hR => ?_
 (simp (maxSteps := 1000000) [Jtco])
 refine Jt9 (fun k : Nat => ⟨[(7, AI k), (6, AI fs.length), (5, .d (.sl (fs.map Field.row))), (2, AB false)], []⟩) (fun k => k ≤ fs.length ∧ (fs.take k).any Field.odd = false) (fun k => fs.length - k) 0 (by simp) (by (exact wkA)) ?_
 rintro k ⟨hk, hno⟩ N hN
 (simp (maxSteps := 1000000) [])
 ((first | refine Xc (fun h1 => ?_) (fun h1 => ?_) | refine Xo (fun h1 => ?_) (fun h1 => ?_)) <;> (try simp only [Xz, Xy] at h1))
 ·have hkl : k < fs.length := by simpa using h1
  have hf : fs[k]? = some fs[k] := by simp [hkl]
  have hw := Jtog (k := k) (by omega)
  have htk : fs.take (k + 1) = fs.take k ++ [fs[k]] := by rw [List.take_add_one, hf]; rfl
  have hany : blankZ fs = true → fs[k].odd = false := by
   intro h; simp [blankZ] at h; exact h _ (List.getElem_mem hkl)
  have next : ∀ env H, fs[k].odd = false → Wk 0 ⟨env, H⟩ ⟨[(7, AI ((k + 1 : Nat) : Int)), (6, AI fs.length), (5, .d (.sl (fs.map Field.row))), (2, AB false)], []⟩ → N ⟨env, H⟩ :=
   fun env H hb hw => hN _ (k + 1) ⟨hkl, by rw [htk, List.any_append, hno]; simp [hb]⟩ hw (by omega)
  have stop : fs[k].odd = true → blankZ fs = false := by
   intro h; cases hz : blankZ fs with
   | false => rfl
   | true => rw [hany hz] at h; cases h
  (simp (maxSteps := 1000000) [h1, hf, Field.row])
  ((first | refine Xc (fun h2 => ?_) (fun h2 => ?_) | refine Xo (fun h2 => ?_) (fun h2 => ?_)) <;> (try simp only [Xz, Xy] at h2))
  ·(simp (maxSteps := 1000000) [h2])
   ((first | refine Xc (fun h3 => ?_) (fun h3 => ?_) | refine Xo (fun h3 => ?_) (fun h3 => ?_)) <;> (try simp only [Xz, Xy] at h3))
   ·(simp (maxSteps := 1000000) [h2, h3])
    (first | exact hR _ _ FrA | exact hR _ _ FnA | exact hR _ _ (Xf (hq := by simp [AV.erase, AV.unview, stop (by simp [Field.odd, h2, h3])]; done)))
   ·(simp (maxSteps := 1000000) [h2, h3, hw])
    exact next _ _ (by simp [Field.odd, h2, h3]) (by (exact wkA))
  ·(simp (maxSteps := 1000000) [h2, hw])
   exact next _ _ (by simp [Field.odd, h2]) (by (exact wkA))
 ·(simp (maxSteps := 1000000) [h1])
  have hk' : k = fs.length := by simp at h1; omega
  subst hk'
  rw [List.take_length] at hno
  (first | exact hR _ _ FrA | exact hR _ _ FnA | exact hR _ _ (Xf (hq := by simp [AV.erase, AV.unview, blankZ, hno]; done)))
theorem Jtlu {P : Program} {p : Nums} (A : All P p) (i : Instr) (regs : Int) : Jt3o P p.source_Instr [i.av, AI regs] [] fun o _ => o = .ret (AI (Jtm6 i regs)) := by
 have hflds : AV.d (.sl [[I i.d, .bool (shapeZ i.op).D, I regs], [I i.a, .bool (shapeZ i.op).A, I regs], [I i.b, .bool (shapeZ i.op).B, I regs]]) = .d (.sl ((flds i regs).map Field.row)) := rfl
 refine A.source_Instr.run rfl fun R hR => ?_
 (simp (maxSteps := 1000000) [Jtcl, Instr.av])
 (refine Jtt (Jtgr A _) (by rfl) (by rfl) ?_)
 (simp (maxSteps := 1000000) [])
 (refine Jtt (Jtgs A _) (by rfl) (by rfl) ?_)
 (simp (maxSteps := 1000000) [])
 ((first | refine Xc (fun h1 => ?_) (fun h1 => ?_) | refine Xo (fun h1 => ?_) (fun h1 => ?_)) <;> (try simp only [Xz, Xy] at h1))
 ·(simp (maxSteps := 1000000) [h1])
  (first | exact hR _ _ FrA | exact hR _ _ FnA | exact hR _ _ (Xf (hq := by simp [AV.erase, AV.unview, Jtm6, h1]; done)))
 ·(simp (maxSteps := 1000000) [h1])
  (refine Jtt (Jtm0 A (flds i regs) (by simp [flds])) (by rfl) (by rfl) ?_)
  (simp (maxSteps := 1000000) [])
  ((first | refine Xc (fun h2 => ?_) (fun h2 => ?_) | refine Xo (fun h2 => ?_) (fun h2 => ?_)) <;> (try simp only [Xz, Xy] at h2))
  ·(simp (maxSteps := 1000000) [h2])
   (first | exact hR _ _ FrA | exact hR _ _ FnA | exact hR _ _ (Xf (hq := by simp [AV.erase, AV.unview, Jtm6, h1, h2]; done)))
  ·(simp (maxSteps := 1000000) [h2])
   (refine Jtt (Jtlx A (flds i regs) (by simp [flds])) (by rfl) (by rfl) ?_)
   (simp (maxSteps := 1000000) [])
   ((first | refine Xc (fun h3 => ?_) (fun h3 => ?_) | refine Xo (fun h3 => ?_) (fun h3 => ?_)) <;> (try simp only [Xz, Xy] at h3))
   ·(simp (maxSteps := 1000000) [h3])
    (first | exact hR _ _ FrA | exact hR _ _ FnA | exact hR _ _ (Xf (hq := by simp [AV.erase, AV.unview, Jtm6, h1, h2, h3]; done)))
   ·(simp (maxSteps := 1000000) [h3])
    ((first | refine Xc (fun h4 => ?_) (fun h4 => ?_) | refine Xo (fun h4 => ?_) (fun h4 => ?_)) <;> (try simp only [Xz, Xy] at h4))
    ·(simp (maxSteps := 1000000) [h4])
     ((first | refine Xc (fun h5 => ?_) (fun h5 => ?_) | refine Xo (fun h5 => ?_) (fun h5 => ?_)) <;> (try simp only [Xz, Xy] at h5))
     ·(simp (maxSteps := 1000000) [h5])
      (first | exact hR _ _ FrA | exact hR _ _ FnA | exact hR _ _ (Xf (hq := by simp [AV.erase, AV.unview, Jtm6, h1, h2, h3, h4, h5]; done)))
     ·(simp (maxSteps := 1000000) [h5])
      (first | exact hR _ _ FrA | exact hR _ _ FnA | exact hR _ _ (Xf (hq := by simp [AV.erase, AV.unview, Jtm6, h1, h2, h3, h4, h5]; done)))
    ·(simp (maxSteps := 1000000) [h4])
     (first | exact hR _ _ FrA | exact hR _ _ FnA | exact hR _ _ (Xf (hq := by simp [AV.erase, AV.unview, Jtm6, h1, h2, h3, h4]; done)))
def fldsT (t : Term) (regs blocks : Int) : List Field := [⟨t.a, t.kind != 1, regs⟩, ⟨t.to, t.kind != 3, blocks⟩, ⟨t.els, t.kind == 2, blocks⟩]
def Jtma (t : Term) (regs blocks : Int) : Int :=
 if t.kind < 1 ∨ 3 < t.kind then 16 else if Jto6 ((fldsT t regs blocks).take 1) = false then 9 else if Jto6 ((fldsT t regs blocks).drop 1) = false then 11 else if blankZ (fldsT t regs blocks) = false then 12 else 0
theorem Jtlw {P : Program} {p : Nums} (A : All P p) (t : Term) (regs blocks : Int) : Jt3o P p.source_Term [t.av, AI regs, AI blocks] [] fun o _ => o = .ret (AI (Jtma t regs blocks)) := by
 refine A.source_Term.run rfl fun R hR => ?_
 (simp (maxSteps := 1000000) [Jtcn, Term.av])
 ((first | refine Xc (fun h1 => ?_) (fun h1 => ?_) | refine Xo (fun h1 => ?_) (fun h1 => ?_)) <;> (try simp only [Xz, Xy] at h1))
 ·(simp (maxSteps := 1000000) [h1])
  (first | exact hR _ _ FrA | exact hR _ _ FnA | exact hR _ _ (Xf (hq := by simp [AV.erase, AV.unview, Jtma, h1]; done)))
 ·(simp (maxSteps := 1000000) [h1])
  ((first | refine Xc (fun h2 => ?_) (fun h2 => ?_) | refine Xo (fun h2 => ?_) (fun h2 => ?_)) <;> (try simp only [Xz, Xy] at h2))
  ·(simp (maxSteps := 1000000) [h2])
   (first | exact hR _ _ FrA | exact hR _ _ FnA | exact hR _ _ (Xf (hq := by simp [AV.erase, AV.unview, Jtma, h1, h2]; done)))
  ·(simp (maxSteps := 1000000) [h2])
   (refine Jtt (Jtm0 A ((fldsT t regs blocks).take 1) (by simp [fldsT])) (by rfl) (by rfl) ?_)
   (simp (maxSteps := 1000000) [])
   ((first | refine Xc (fun h3 => ?_) (fun h3 => ?_) | refine Xo (fun h3 => ?_) (fun h3 => ?_)) <;> (try simp only [Xz, Xy] at h3))
   ·(simp (maxSteps := 1000000) [h3])
    (first | exact hR _ _ FrA | exact hR _ _ FnA | exact hR _ _ (Xf (hq := by simp [AV.erase, AV.unview, Jtma, h1, h2, h3]; done)))
   ·(simp (maxSteps := 1000000) [h3])
    (refine Jtt (Jtm0 A ((fldsT t regs blocks).drop 1) (by simp [fldsT])) (by rfl) (by rfl) ?_)
    (simp (maxSteps := 1000000) [])
    ((first | refine Xc (fun h4 => ?_) (fun h4 => ?_) | refine Xo (fun h4 => ?_) (fun h4 => ?_)) <;> (try simp only [Xz, Xy] at h4))
    ·(simp (maxSteps := 1000000) [h4])
     (first | exact hR _ _ FrA | exact hR _ _ FnA | exact hR _ _ (Xf (hq := by simp [AV.erase, AV.unview, Jtma, h1, h2, h3, h4]; done)))
    ·(simp (maxSteps := 1000000) [h4])
     (refine Jtt (Jtlx A (fldsT t regs blocks) (by simp [fldsT])) (by rfl) (by rfl) ?_)
     (simp (maxSteps := 1000000) [])
     ((first | refine Xc (fun h5 => ?_) (fun h5 => ?_) | refine Xo (fun h5 => ?_) (fun h5 => ?_)) <;> (try simp only [Xz, Xy] at h5))
     ·(simp (maxSteps := 1000000) [h5])
      (first | exact hR _ _ FrA | exact hR _ _ FnA | exact hR _ _ (Xf (hq := by simp [AV.erase, AV.unview, Jtma, h1, h2, h3, h4, h5]; done)))
     ·(simp (maxSteps := 1000000) [h5])
      (first | exact hR _ _ FrA | exact hR _ _ FnA | exact hR _ _ (Xf (hq := by simp [AV.erase, AV.unview, Jtma, h1, h2, h3, h4, h5]; done)))
end
structure Block where (code : List Instr) (term : Term)
 deriving Inhabited
def Block.row (b : Block) : List D := [.sl (b.code.map Instr.row), I b.term.kind, I b.term.a, I b.term.to, I b.term.els]
def Block.av (b : Block) : AV := .agg [.d (.sl (b.code.map Instr.row)), AI b.term.kind, AI b.term.a, AI b.term.to, AI b.term.els]
structure Func where (args regs : Int) (blocks : List Block)
def Func.av (f : Func) : AV := .agg [AI f.args, AI f.regs, .d (.sl (f.blocks.map Block.row))]
def codeN (bs : List Block) : Nat := (bs.map fun b => b.code.length).sum
theorem Jt6p {bs : List Block} {k : Nat} {b : Block} (h : bs[k]? = some b) : codeN (bs.take (k + 1)) = codeN (bs.take k) + b.code.length := by
 rw [codeN, List.take_add_one, h]; simp [codeN]
theorem Jt6m (a b : List Block) : codeN (a ++ b) = codeN a + codeN b := by simp [codeN]
theorem Jt6o (bs : List Block) (k : Nat) : codeN (bs.take k) ≤ codeN bs := by
 have h := Jt6m (bs.take k) (bs.drop k)
 rw [List.take_append_drop] at h; omega
def Jt89 : List Int → Int
 | [] => 0
 | e :: es => if e ≠ 0 then e else Jt89 es
theorem Jt8d {es : List Int} {k : Nat} (h : ∀ e ∈ es.take k, e = 0) : Jt89 es = Jt89 (es.drop k) := by
 induction k generalizing es with
 | zero => rfl
 | succ k ih =>
  cases es with
  | nil => rfl
  | cons e es =>
   have : e = 0 := h e (by simp)
   simp only [Jt89, this, ne_eq, not_true_eq_false, if_false, List.drop_succ_cons]
   exact ih fun x hx => h x (by simp [hx])
theorem Jt8c {es : List Int} {k : Nat} {e : Int} (h : ∀ e ∈ es.take k, e = 0) (hk : es[k]? = some e) (he : e ≠ 0) : Jt89 es = e := by
 rw [Jt8d h]
 have hlt := (List.getElem?_eq_some_iff.1 hk).1
 rw [List.drop_eq_getElem_cons hlt]
 have : es[k] = e := (List.getElem?_eq_some_iff.1 hk).2
 simp [Jt89, this, he]
theorem Jt8a {es : List Int} (h : ∀ e ∈ es, e = 0) : Jt89 es = 0 := by
 rw [Jt8d (k := es.length) (by simpa using h)]; simp [Jt89]
def Jtm4 (b : Block) (regs blocks : Int) : Int :=
 let e := Jt89 (b.code.map (Jtm6 · regs))
 if e ≠ 0 then e else Jtma b.term regs blocks
theorem take_zero {α : Type} {f : α → Int} {l : List α} {k : Nat} {x : α} (h : ∀ e ∈ (l.map f).take k, e = 0) (hx : l[k]? = some x) (h0 : f x = 0) : ∀ e ∈ (l.map f).take (k + 1), e = 0 := by
 intro e he
 rw [List.take_add_one, List.mem_append] at he
 rcases he with he | he
 ·exact h e he
 ·rw [List.getElem?_map, hx] at he; simp at he; rw [he]; exact h0
section
theorem Jtlt {P : Program} {p : Nums} (A : All P p) (f : Func) (h0 : f.blocks.length < 1000000000) (h1 : codeN f.blocks < 1000000000) : Jt3o P p.source_Code [f.av] [] fun o _ => o = .ret (AI (codeN f.blocks)) := by
 refine A.source_Code.run rfl fun R hR => ?_
 (simp (maxSteps := 1000000) [Jtck, Func.av])
 refine Jt9 (fun k : Nat => ⟨[(9, AI k), (8, AI f.blocks.length), (7, .d (.sl (f.blocks.map Block.row))), (3, AI (codeN (f.blocks.take k)))], []⟩) (fun k => k ≤ f.blocks.length) (fun k => f.blocks.length - k) 0 (by simp) (by (exact wkA)) ?_
 intro k hk N hN
 (simp (maxSteps := 1000000) [])
 ((first | refine Xc (fun h2 => ?_) (fun h2 => ?_) | refine Xo (fun h2 => ?_) (fun h2 => ?_)) <;> (try simp only [Xz, Xy] at h2))
 ·have hkl : k < f.blocks.length := by simpa using h2
  have hb : f.blocks[k]? = some f.blocks[k] := by simp [hkl]
  have hw := Jtog (k := k) (by omega)
  have hs := Jt6p hb
  have hle := Jt6o f.blocks (k + 1)
  have hw2 := Jtof (a := codeN (f.blocks.take k)) (b := f.blocks[k].code.length) (by omega)
  rw [← hs] at hw2
  (simp (maxSteps := 1000000) [h2, List.getElem?_map, hb, Block.row, hw, hw2])
  exact hN _ (k + 1) hkl (by (exact wkA)) (by omega)
 ·have hk' : k = f.blocks.length := by simp at h2; omega
  subst hk'
  (simp (maxSteps := 1000000) [])
  (first | exact hR _ _ FrA | exact hR _ _ FnA | exact hR _ _ (Xf (hq := by simp [AV.erase, AV.unview, List.take_length]; done)))
theorem Jtly {P : Program} {p : Nums} (A : All P p) (b : Block) (regs blocks : Int) (h0 : b.code.length < 1000000000) : Jt3o P p.source_block [b.av, AI regs, AI blocks] [] fun o _ => o = .ret (AI (Jtm4 b regs blocks)) := by
 refine A.source_block.run rfl fun R hR => ?_
 (simp (maxSteps := 1000000) [Jtcp, Block.av])
 refine Jt9 (fun k : Nat => ⟨[(13, AI k), (12, AI b.code.length), (11, .d (.sl (b.code.map Instr.row))), (3, .ptr 0 0), (1, AI regs), (2, AI blocks)], [.mem [.d (.sl (b.code.map Instr.row)), AI b.term.kind, AI b.term.a, AI b.term.to, AI b.term.els]]⟩)
  (fun k => k ≤ b.code.length ∧ ∀ e ∈ (b.code.map (Jtm6 · regs)).take k, e = 0) (fun k => b.code.length - k) 0 (by simp) (by (exact wkA)) ?_
 rintro k ⟨hk, hz⟩ N hN
 (simp (maxSteps := 1000000) [])
 ((first | refine Xc (fun h2 => ?_) (fun h2 => ?_) | refine Xo (fun h2 => ?_) (fun h2 => ?_)) <;> (try simp only [Xz, Xy] at h2))
 ·have hkl : k < b.code.length := by simpa using h2
  have hb : b.code[k]? = some b.code[k] := by simp [hkl]
  have hw := Jtog (k := k) (by omega)
  (simp (maxSteps := 1000000) [h2, hb, Instr.row])
  (refine Jtt (Jtlu A b.code[k] regs) (by rfl) (by rfl) ?_)
  (simp (maxSteps := 1000000) [])
  ((first | refine Xc (fun h3 => ?_) (fun h3 => ?_) | refine Xo (fun h3 => ?_) (fun h3 => ?_)) <;> (try simp only [Xz, Xy] at h3))
  ·(simp (maxSteps := 1000000) [h3])
   have : Jt89 (b.code.map (Jtm6 · regs)) = Jtm6 b.code[k] regs := Jt8c hz (by simp [hkl]) h3
   (first | exact hR _ _ FrA | exact hR _ _ FnA | exact hR _ _ (Xf (hq := by simp [AV.erase, AV.unview, Jtm4, this, h3]; done)))
  ·(simp (maxSteps := 1000000) [h3, hw])
   exact hN _ (k + 1) ⟨hkl, take_zero hz hb (by simpa using h3)⟩ (by (exact wkA)) (by omega)
 ·have hk' : k = b.code.length := by simp at h2; omega
  subst hk'
  have hfe : Jt89 (b.code.map (Jtm6 · regs)) = 0 := Jt8a (by rw [List.take_of_length_le (by simp)] at hz; exact hz)
  (simp (maxSteps := 1000000) [])
  (refine Jtt (Jtlw A b.term regs blocks) (by rfl) (by rfl) ?_)
  (simp (maxSteps := 1000000) [])
  (first | exact hR _ _ FrA | exact hR _ _ FnA | exact hR _ _ (Xf (hq := by simp [AV.erase, AV.unview, Jtm4, hfe]; done)))
def Jtm5 (f : Func) : Int :=
 if f.args < 0 ∨ f.regs < f.args then 9 else if 1048576 < f.regs then 6 else if f.blocks.length = 0 then 14 else if 1048576 < f.blocks.length ∨ 1048576 < codeN f.blocks then 6
 else Jt89 (f.blocks.map fun b => Jtm4 b f.regs f.blocks.length)
theorem Jtls {P : Program} {p : Nums} (A : All P p) (f : Func) (h0 : f.blocks.length < 1000000000) (h1 : codeN f.blocks < 1000000000) : Jt3o P p.source_Check [f.av] [] fun o _ => o = .ret (AI (Jtm5 f)) := by
 refine A.source_Check.run rfl fun R hR => ?_
 (simp (maxSteps := 1000000) [Jtcj, Func.av])
 ((first | refine Xc (fun a1 => ?_) (fun a1 => ?_) | refine Xo (fun a1 => ?_) (fun a1 => ?_)) <;> (try simp only [Xz, Xy] at a1))
 ·(simp (maxSteps := 1000000) [a1])
  have e : Jtm5 f = 9 := by unfold Jtm5; repeat (first | rw [if_pos (by omega)] | rw [if_neg (by omega)])
  (first | exact hR _ _ FrA | exact hR _ _ FnA | exact hR _ _ (Xf (hq := by simp [AV.erase, AV.unview, e]; done)))
 (simp (maxSteps := 1000000) [a1])
 ((first | refine Xc (fun a2 => ?_) (fun a2 => ?_) | refine Xo (fun a2 => ?_) (fun a2 => ?_)) <;> (try simp only [Xz, Xy] at a2))
 ·(simp (maxSteps := 1000000) [a2])
  have e : Jtm5 f = 9 := by unfold Jtm5; repeat (first | rw [if_pos (by omega)] | rw [if_neg (by omega)])
  (first | exact hR _ _ FrA | exact hR _ _ FnA | exact hR _ _ (Xf (hq := by simp [AV.erase, AV.unview, e]; done)))
 (simp (maxSteps := 1000000) [a2])
 ((first | refine Xc (fun a3 => ?_) (fun a3 => ?_) | refine Xo (fun a3 => ?_) (fun a3 => ?_)) <;> (try simp only [Xz, Xy] at a3))
 ·(simp (maxSteps := 1000000) [a3])
  have e : Jtm5 f = 6 := by unfold Jtm5; repeat (first | rw [if_pos (by omega)] | rw [if_neg (by omega)])
  (first | exact hR _ _ FrA | exact hR _ _ FnA | exact hR _ _ (Xf (hq := by simp [AV.erase, AV.unview, e]; done)))
 (simp (maxSteps := 1000000) [a3])
 ((first | refine Xc (fun a4 => ?_) (fun a4 => ?_) | refine Xo (fun a4 => ?_) (fun a4 => ?_)) <;> (try simp only [Xz, Xy] at a4))
 ·(simp (maxSteps := 1000000) [a4])
  have e : Jtm5 f = 14 := by unfold Jtm5; repeat (first | rw [if_pos (by omega)] | rw [if_neg (by omega)])
  (first | exact hR _ _ FrA | exact hR _ _ FnA | exact hR _ _ (Xf (hq := by simp [AV.erase, AV.unview, e]; done)))
 (simp (maxSteps := 1000000) [a4])
 ((first | refine Xc (fun a5 => ?_) (fun a5 => ?_) | refine Xo (fun a5 => ?_) (fun a5 => ?_)) <;> (try simp only [Xz, Xy] at a5))
 ·(simp (maxSteps := 1000000) [a5])
  have e : Jtm5 f = 6 := by unfold Jtm5; repeat (first | rw [if_pos (by omega)] | rw [if_neg (by omega)])
  (first | exact hR _ _ FrA | exact hR _ _ FnA | exact hR _ _ (Xf (hq := by simp [AV.erase, AV.unview, e]; done)))
 (simp (maxSteps := 1000000) [a5])
 (refine Jtt (Jtlt A f h0 h1) (by rfl) (by rfl) ?_)
 (simp (maxSteps := 1000000) [])
 ((first | refine Xc (fun a6 => ?_) (fun a6 => ?_) | refine Xo (fun a6 => ?_) (fun a6 => ?_)) <;> (try simp only [Xz, Xy] at a6))
 ·(simp (maxSteps := 1000000) [a6])
  have e : Jtm5 f = 6 := by unfold Jtm5; repeat (first | rw [if_pos (by omega)] | rw [if_neg (by omega)])
  (first | exact hR _ _ FrA | exact hR _ _ FnA | exact hR _ _ (Xf (hq := by simp [AV.erase, AV.unview, e]; done)))
 (simp (maxSteps := 1000000) [a6])
 have e : Jtm5 f = Jt89 (f.blocks.map fun b => Jtm4 b f.regs f.blocks.length) := by
  unfold Jtm5; repeat (first | rw [if_pos (by omega)] | rw [if_neg (by omega)])
 refine Jt9 (fun k : Nat => ⟨[(39, AI k), (38, AI f.blocks.length), (37, .d (.sl (f.blocks.map Block.row))), (1, .ptr 0 0)], [.mem [AI f.args, AI f.regs, .d (.sl (f.blocks.map Block.row))]]⟩)
  (fun k => k ≤ f.blocks.length ∧ ∀ e ∈ (f.blocks.map fun b => Jtm4 b f.regs f.blocks.length).take k, e = 0) (fun k => f.blocks.length - k) 0 (by simp) (by (exact wkA)) ?_
 rintro k ⟨hk, hz⟩ N hN
 (simp (maxSteps := 1000000) [])
 ((first | refine Xc (fun h2 => ?_) (fun h2 => ?_) | refine Xo (fun h2 => ?_) (fun h2 => ?_)) <;> (try simp only [Xz, Xy] at h2))
 ·have hkl : k < f.blocks.length := by simpa using h2
  have hb : f.blocks[k]? = some f.blocks[k] := by simp [hkl]
  have hw := Jtog (k := k) (by omega)
  have hbl : f.blocks[k].code.length < 1000000000 := by
   have h3 := Jt6p hb
   have h4 := Jt6o f.blocks (k + 1)
   omega
  (simp (maxSteps := 1000000) [h2, hb, Block.row])
  (refine Jtt (Jtly A f.blocks[k] f.regs f.blocks.length hbl) (by rfl) (by rfl) ?_)
  (simp (maxSteps := 1000000) [])
  ((first | refine Xc (fun h3 => ?_) (fun h3 => ?_) | refine Xo (fun h3 => ?_) (fun h3 => ?_)) <;> (try simp only [Xz, Xy] at h3))
  ·(simp (maxSteps := 1000000) [h3])
   have e2 : Jt89 (f.blocks.map fun b => Jtm4 b f.regs f.blocks.length) = Jtm4 f.blocks[k] f.regs f.blocks.length := Jt8c hz (by simp [hkl]) h3
   (first | exact hR _ _ FrA | exact hR _ _ FnA | exact hR _ _ (Xf (hq := by simp [AV.erase, AV.unview, e, e2]; done)))
  ·(simp (maxSteps := 1000000) [h3, hw])
   exact hN _ (k + 1) ⟨hkl, take_zero hz hb (by simpa using h3)⟩ (by (exact wkA)) (by omega)
 ·have hk' : k = f.blocks.length := by simp at h2; omega
  subst hk'
  have hfe : Jt89 (f.blocks.map fun b => Jtm4 b f.regs f.blocks.length) = 0 := Jt8a (by rw [List.take_of_length_le (by simp)] at hz; exact hz)
  (simp (maxSteps := 1000000) [])
  (first | exact hR _ _ FrA | exact hR _ _ FnA | exact hR _ _ (Xf (hq := by simp [AV.erase, AV.unview, e, hfe]; done)))
end
def bad9 (i : Instr) (regs : Int) : Bool := usesD i.op && !inZ i.d regs || usesA i.op && !inZ i.a regs || usesB i.op && !inZ i.b regs
def bad12 (i : Instr) : Bool := !usesD i.op && i.d != 0 || !usesA i.op && i.a != 0 || !usesB i.op && i.b != 0 || i.op != 1 && i.imm != 0
def Jtjf (i : Instr) (regs : Int) : Int := if i.op < 1 ∨ 17 < i.op then 8 else if bad9 i regs = true then 9 else if bad12 i = true then 12 else 0
def Jtjl (t : Term) (regs blocks : Int) : Int :=
 if t.kind = 1 then (if inZ t.to blocks = false then 11 else if t.a ≠ 0 ∨ t.els ≠ 0 then 12 else 0)
 else if t.kind = 2 then (if inZ t.a regs = false then 9 else if inZ t.to blocks = false ∨ inZ t.els blocks = false then 11 else 0)
 else if t.kind = 3 then (if inZ t.a regs = false then 9 else if t.to ≠ 0 ∨ t.els ≠ 0 then 12 else 0)
 else 16
section
theorem Jtii {P : Program} {p : Nums} (A : All P p) (t : Term) (regs blocks : Int) : Jt3o P p.ref07_Term [t.av, AI regs, AI blocks] [] fun o _ => o = .ret (AI (Jtjl t regs blocks)) := by
 refine A.ref07_Term.run rfl fun R hR => ?_
 (simp (maxSteps := 1000000) [Jtbo, Term.av])
 repeat' (first | ((refine Jtt (Jtij A _ _) (by rfl) (by rfl) ?_); (simp (maxSteps := 1000000) [])) | (((first | refine Xc (fun hbr => ?_) (fun hbr => ?_) | refine Xo (fun hbr => ?_) (fun hbr => ?_)) <;> (try simp only [Xz, Xy] at hbr)) <;> simp (maxSteps := 1000000) [hbr]) | ((first | refine hR _ _ (Jt3s _ rfl rfl ?_) | refine hR _ _ (Jt3p _ rfl rfl ?_)); clear hR; (try simp_all [AV.erase, AV.unview, Jtjl])))
end
section
set_option maxHeartbeats 4000000 in
theorem Jtig {P : Program} {p : Nums} (A : All P p) (i : Instr) (regs : Int) : Jt3o P p.ref07_Instr [i.av, AI regs] [] fun o _ => o = .ret (AI (Jtjf i regs)) := by
 refine A.ref07_Instr.run rfl fun R hR => ?_
 (simp (maxSteps := 1000000) [Jtbm, Instr.av])
 rw [Jegk]
 refine Jta ⟨[(12, AB (decide (i.op < 1) || decide (17 < i.op))), (2, .ptr 0 0), (4, AI 0), (1, AI regs)], [.mem [AI i.op, AI i.d, AI i.a, AI i.b, AI i.imm]]⟩ (fun N hN => ?_) ?_
 ·(simp (maxSteps := 1000000) [])
  ((first | refine Xc (fun h => ?_) (fun h => ?_) | refine Xo (fun h => ?_) (fun h => ?_)) <;> (try simp only [Xz, Xy] at h))
  ·(simp (maxSteps := 1000000) [h])
   exact hN _ (by simp only [h]; (exact wkA))
  ·(simp (maxSteps := 1000000) [h])
   exact hN _ (by simp only [h]; (exact wkA))
 ((first | refine Xc (fun h1 => ?_) (fun h1 => ?_) | refine Xo (fun h1 => ?_) (fun h1 => ?_)) <;> (try simp only [Xz, Xy] at h1))
 ·(simp (maxSteps := 1000000) [h1])
  have e : Jtjf i regs = 8 := by unfold Jtjf; rw [if_pos h1]
  (first | exact hR _ _ FrA | exact hR _ _ FnA | exact hR _ _ (Xf (hq := by simp [AV.erase, AV.unview, e]; done)))
 (simp (maxSteps := 1000000) [h1])
 rw [Jegl]
 refine Jta ⟨[(46, AB (bad9 i regs)), (2, .ptr 0 0), (4, AI 0), (1, AI regs)], [.mem [AI i.op, AI i.d, AI i.a, AI i.b, AI i.imm]]⟩ (fun N hN => ?_) ?_
 ·(simp (maxSteps := 1000000) [])
  cases uD : usesD i.op <;> cases uA : usesA i.op <;> cases uB : usesB i.op <;> cases nD : inZ i.d regs <;> cases nA : inZ i.a regs <;> cases nB : inZ i.b regs <;>
   (repeat' (first | ((refine Jtt (Jtij A _ _) (by rfl) (by rfl) ?_); (simp (maxSteps := 1000000) [nD, nA, nB])) | ((refine Jtt (Jtia A _) (by rfl) (by rfl) ?_); (simp (maxSteps := 1000000) [uA])) | ((refine Jtt (Jtib A _) (by rfl) (by rfl) ?_); (simp (maxSteps := 1000000) [uB])) | ((refine Jtt (Jtic A _) (by rfl) (by rfl) ?_); (simp (maxSteps := 1000000) [uD])))) <;>
   exact hN _ (by simp only [bad9, uD, uA, uB, nD, nA, nB]; (exact wkA))
 ((first | refine Xc (fun h2 => ?_) (fun h2 => ?_) | refine Xo (fun h2 => ?_) (fun h2 => ?_)) <;> (try simp only [Xz, Xy] at h2))
 ·(simp (maxSteps := 1000000) [h2])
  have e : Jtjf i regs = 9 := by unfold Jtjf; rw [if_neg (by simp at h1; omega), if_pos h2]
  (first | exact hR _ _ FrA | exact hR _ _ FnA | exact hR _ _ (Xf (hq := by simp [AV.erase, AV.unview, e]; done)))
 (simp (maxSteps := 1000000) [h2])
 rw [Jegm]
 refine Jta ⟨[(87, AB (bad12 i)), (2, .ptr 0 0), (4, AI 0), (1, AI regs)], [.mem [AI i.op, AI i.d, AI i.a, AI i.b, AI i.imm]]⟩ (fun N hN => ?_) ?_
 ·clear hR h1 h2
  (simp (maxSteps := 1000000) [])
  cases uD : usesD i.op <;> cases uA : usesA i.op <;> cases uB : usesB i.op <;>
   (repeat' (first | ((refine Jtt (Jtia A _) (by rfl) (by rfl) ?_); (simp (maxSteps := 1000000) [uA])) | ((refine Jtt (Jtib A _) (by rfl) (by rfl) ?_); (simp (maxSteps := 1000000) [uB])) | ((refine Jtt (Jtic A _) (by rfl) (by rfl) ?_); (simp (maxSteps := 1000000) [uD])) | (((first | refine Xc (fun hbr => ?_) (fun hbr => ?_) | refine Xo (fun hbr => ?_) (fun hbr => ?_)) <;> (try simp only [Xz, Xy] at hbr)) <;> simp (maxSteps := 1000000) [hbr]))) <;>
   (refine hN _ ?_; clear hN; cases hb : bad12 i) <;> (first | ((exact wkA); done) | (exfalso; simp_all [bad12]; done) | (simp_all [bad12]; (exact wkA); done) | (cases hi : (i.imm != 0) <;> first | ((exact wkA); done) | (simp only [*]; (exact wkA); done) | (exfalso; simp_all [bad12]; done)))
 ((first | refine Xc (fun h3 => ?_) (fun h3 => ?_) | refine Xo (fun h3 => ?_) (fun h3 => ?_)) <;> (try simp only [Xz, Xy] at h3))
 ·(simp (maxSteps := 1000000) [h3])
  have e : Jtjf i regs = 12 := by unfold Jtjf; rw [if_neg (by simp at h1; omega), if_neg (by simpa using h2), if_pos h3]
  (first | exact hR _ _ FrA | exact hR _ _ FnA | exact hR _ _ (Xf (hq := by simp [AV.erase, AV.unview, e]; done)))
 (simp (maxSteps := 1000000) [h3])
 have e : Jtjf i regs = 0 := by unfold Jtjf; rw [if_neg (by simp at h1; omega), if_neg (by simpa using h2), if_neg (by simpa using h3)]
 (first | exact hR _ _ FrA | exact hR _ _ FnA | exact hR _ _ (Xf (hq := by simp [AV.erase, AV.unview, e]; done)))
end
def few (f : Func) : Bool := decide (f.blocks.length ≤ 40) && decide (f.regs ≤ 60) && f.blocks.all (fun b => decide (b.code.length ≤ 100)) && decide (codeN f.blocks ≤ 300)
def Jtjd (b : Block) (regs blocks : Int) : Int :=
 let e := Jt89 (b.code.map (Jtjf · regs))
 if e ≠ 0 then e else Jtjl b.term regs blocks
def Jtje (f : Func) : Int :=
 if f.args < 0 ∨ f.regs < f.args then 9 else if 1048576 < f.regs then 6 else if f.blocks.length = 0 then 14 else if 1048576 < f.blocks.length ∨ 1048576 < codeN f.blocks then 6
 else Jt89 (f.blocks.map fun b => Jtjd b f.regs f.blocks.length)
theorem Jt6n {bs : List Block} (h : ∀ b ∈ bs, b.code.length ≤ 100) : codeN bs ≤ 100 * bs.length := by
 induction bs with
 | nil => simp [codeN]
 | cons b bs ih =>
  have h1 := h b (by simp)
  have h2 := ih fun x hx => h x (by simp [hx])
  simp only [codeN, List.map_cons, List.sum_cons, List.length_cons] at *
  omega
section
theorem Jtie {P : Program} {p : Nums} (A : All P p) (f : Func) (h0 : f.blocks.length < 1000000000) (h1 : codeN f.blocks < 1000000000) : Jt3o P p.ref07_Code [f.av] [] fun o _ => o = .ret (AI (codeN f.blocks)) := by
 refine A.ref07_Code.run rfl fun R hR => ?_
 (simp (maxSteps := 1000000) [Jtbk, Func.av])
 refine Jt9 (fun k : Nat => ⟨[(4, AI k), (1, .ptr 0 0), (3, AI (codeN (f.blocks.take k)))], [.mem [AI f.args, AI f.regs, .d (.sl (f.blocks.map Block.row))]]⟩) (fun k => k ≤ f.blocks.length) (fun k => f.blocks.length - k) 0 (by simp) (by (exact wkA)) ?_
 intro k hk N hN
 (simp (maxSteps := 1000000) [])
 ((first | refine Xc (fun h2 => ?_) (fun h2 => ?_) | refine Xo (fun h2 => ?_) (fun h2 => ?_)) <;> (try simp only [Xz, Xy] at h2))
 ·have hkl : k < f.blocks.length := by simpa using h2
  have hb : f.blocks[k]? = some f.blocks[k] := by simp [hkl]
  have hw := Jtog (k := k) (by omega)
  have hs := Jt6p hb
  have hle := Jt6o f.blocks (k + 1)
  have hw2 := Jtof (a := codeN (f.blocks.take k)) (b := f.blocks[k].code.length) (by omega)
  rw [← hs] at hw2
  (simp (maxSteps := 1000000) [h2, List.getElem?_map, hb, Block.row, hw, hw2])
  exact hN _ (k + 1) hkl (by (exact wkA)) (by omega)
 ·have hk' : k = f.blocks.length := by simp at h2; omega
  subst hk'
  (simp (maxSteps := 1000000) [])
  (first | exact hR _ _ FrA | exact hR _ _ FnA | exact hR _ _ (Xf (hq := by simp [AV.erase, AV.unview, List.take_length]; done)))
theorem Jtif {P : Program} {p : Nums} (A : All P p) (f : Func) : Jt3o P p.ref07_Few [f.av] [] fun o _ => o = .ret (AB (few f)) := by
 refine A.ref07_Few.run rfl fun R hR => ?_
 (simp (maxSteps := 1000000) [Jtbl, Func.av])
 ((first | refine Xc (fun a1 => ?_) (fun a1 => ?_) | refine Xo (fun a1 => ?_) (fun a1 => ?_)) <;> (try simp only [Xz, Xy] at a1))
 ·(simp (maxSteps := 1000000) [a1])
  have e : few f = false := by simp [few]; omega
  (first | exact hR _ _ FrA | exact hR _ _ FnA | exact hR _ _ (Xf (hq := by simp [AV.erase, AV.unview, e]; done)))
 (simp (maxSteps := 1000000) [a1])
 ((first | refine Xc (fun a2 => ?_) (fun a2 => ?_) | refine Xo (fun a2 => ?_) (fun a2 => ?_)) <;> (try simp only [Xz, Xy] at a2))
 ·(simp (maxSteps := 1000000) [a2])
  have e : few f = false := by simp [few]; omega
  (first | exact hR _ _ FrA | exact hR _ _ FnA | exact hR _ _ (Xf (hq := by simp [AV.erase, AV.unview, e]; done)))
 (simp (maxSteps := 1000000) [a2])
 refine Jt9 (fun k : Nat => ⟨[(3, AI k), (1, .ptr 0 0)], [.mem [AI f.args, AI f.regs, .d (.sl (f.blocks.map Block.row))]]⟩)
  (fun k => k ≤ f.blocks.length ∧ ∀ b ∈ f.blocks.take k, b.code.length ≤ 100) (fun k => f.blocks.length - k) 0 (by simp) (by (exact wkA)) ?_
 rintro k ⟨hk, hz⟩ N hN
 (simp (maxSteps := 1000000) [])
 ((first | refine Xc (fun h2 => ?_) (fun h2 => ?_) | refine Xo (fun h2 => ?_) (fun h2 => ?_)) <;> (try simp only [Xz, Xy] at h2))
 ·have hkl : k < f.blocks.length := by simpa using h2
  have hb : f.blocks[k]? = some f.blocks[k] := by simp [hkl]
  have hw := Jtog (k := k) (by omega)
  (simp (maxSteps := 1000000) [h2, hb, Block.row])
  ((first | refine Xc (fun h3 => ?_) (fun h3 => ?_) | refine Xo (fun h3 => ?_) (fun h3 => ?_)) <;> (try simp only [Xz, Xy] at h3))
  ·(simp (maxSteps := 1000000) [h3])
   have e : few f = false := by
    have : ¬ (∀ b ∈ f.blocks, b.code.length ≤ 100) := fun h => by have := h f.blocks[k] (by simp); omega
    simp [few]; intro _ _ h; exact absurd h this
   (first | exact hR _ _ FrA | exact hR _ _ FnA | exact hR _ _ (Xf (hq := by simp [AV.erase, AV.unview, e]; done)))
  ·(simp (maxSteps := 1000000) [h3, hw])
   refine hN _ (k + 1) ⟨hkl, ?_⟩ (by (exact wkA)) (by omega)
   intro b hb'
   rw [List.take_add_one, hb, List.mem_append] at hb'
   rcases hb' with hb' | hb'
   ·exact hz b hb'
   ·simp at hb'; subst hb'; omega
 ·have hk' : k = f.blocks.length := by simp at h2; omega
  subst hk'
  (simp (maxSteps := 1000000) [])
  have hcb : codeN f.blocks ≤ 100 * f.blocks.length := Jt6n (by rw [List.take_length] at hz; exact hz)
  (refine Jtt (Jtie A f (by omega) (by omega)) (by rfl) (by rfl) ?_)
  (simp (maxSteps := 1000000) [])
  have e : few f = decide ((codeN f.blocks : Int) ≤ 300) := by
   rw [List.take_length] at hz
   have e1 : f.blocks.all (fun b => decide (b.code.length ≤ 100)) = true := by simpa using hz
   have e2 : decide (f.blocks.length ≤ 40) = true := by simp; omega
   have e3 : decide (f.regs ≤ 60) = true := by simp; omega
   simp only [few, e1, e2, e3, Bool.true_and]
   congr 1; simp; omega
  (first | exact hR _ _ FrA | exact hR _ _ FnA | exact hR _ _ (Xf (hq := by simp [AV.erase, AV.unview, e]; done)))
theorem Jtid {P : Program} {p : Nums} (A : All P p) (f : Func) (h0 : f.blocks.length < 1000000000) (h1 : codeN f.blocks < 1000000000) : Jt3o P p.ref07_Check [f.av] [] fun o _ => o = .ret (AI (Jtje f)) := by
 refine A.ref07_Check.run rfl fun R hR => ?_
 (simp (maxSteps := 1000000) [Jtbj, Func.av])
 ((first | refine Xc (fun a1 => ?_) (fun a1 => ?_) | refine Xo (fun a1 => ?_) (fun a1 => ?_)) <;> (try simp only [Xz, Xy] at a1))
 ·(simp (maxSteps := 1000000) [a1])
  have e : Jtje f = 9 := by unfold Jtje; repeat (first | rw [if_pos (by omega)] | rw [if_neg (by omega)])
  (first | exact hR _ _ FrA | exact hR _ _ FnA | exact hR _ _ (Xf (hq := by simp [AV.erase, AV.unview, e]; done)))
 (simp (maxSteps := 1000000) [a1])
 ((first | refine Xc (fun a2 => ?_) (fun a2 => ?_) | refine Xo (fun a2 => ?_) (fun a2 => ?_)) <;> (try simp only [Xz, Xy] at a2))
 ·(simp (maxSteps := 1000000) [a2])
  have e : Jtje f = 9 := by unfold Jtje; repeat (first | rw [if_pos (by omega)] | rw [if_neg (by omega)])
  (first | exact hR _ _ FrA | exact hR _ _ FnA | exact hR _ _ (Xf (hq := by simp [AV.erase, AV.unview, e]; done)))
 (simp (maxSteps := 1000000) [a2])
 ((first | refine Xc (fun a3 => ?_) (fun a3 => ?_) | refine Xo (fun a3 => ?_) (fun a3 => ?_)) <;> (try simp only [Xz, Xy] at a3))
 ·(simp (maxSteps := 1000000) [a3])
  have e : Jtje f = 6 := by unfold Jtje; repeat (first | rw [if_pos (by omega)] | rw [if_neg (by omega)])
  (first | exact hR _ _ FrA | exact hR _ _ FnA | exact hR _ _ (Xf (hq := by simp [AV.erase, AV.unview, e]; done)))
 (simp (maxSteps := 1000000) [a3])
 ((first | refine Xc (fun a4 => ?_) (fun a4 => ?_) | refine Xo (fun a4 => ?_) (fun a4 => ?_)) <;> (try simp only [Xz, Xy] at a4))
 ·(simp (maxSteps := 1000000) [a4])
  have e : Jtje f = 14 := by unfold Jtje; repeat (first | rw [if_pos (by omega)] | rw [if_neg (by omega)])
  (first | exact hR _ _ FrA | exact hR _ _ FnA | exact hR _ _ (Xf (hq := by simp [AV.erase, AV.unview, e]; done)))
 (simp (maxSteps := 1000000) [a4])
 ((first | refine Xc (fun a5 => ?_) (fun a5 => ?_) | refine Xo (fun a5 => ?_) (fun a5 => ?_)) <;> (try simp only [Xz, Xy] at a5))
 ·(simp (maxSteps := 1000000) [a5])
  have e : Jtje f = 6 := by unfold Jtje; repeat (first | rw [if_pos (by omega)] | rw [if_neg (by omega)])
  (first | exact hR _ _ FrA | exact hR _ _ FnA | exact hR _ _ (Xf (hq := by simp [AV.erase, AV.unview, e]; done)))
 (simp (maxSteps := 1000000) [a5])
 (refine Jtt (Jtie A f h0 h1) (by rfl) (by rfl) ?_)
 (simp (maxSteps := 1000000) [])
 ((first | refine Xc (fun a6 => ?_) (fun a6 => ?_) | refine Xo (fun a6 => ?_) (fun a6 => ?_)) <;> (try simp only [Xz, Xy] at a6))
 ·(simp (maxSteps := 1000000) [a6])
  have e : Jtje f = 6 := by unfold Jtje; repeat (first | rw [if_pos (by omega)] | rw [if_neg (by omega)])
  (first | exact hR _ _ FrA | exact hR _ _ FnA | exact hR _ _ (Xf (hq := by simp [AV.erase, AV.unview, e]; done)))
 (simp (maxSteps := 1000000) [a6])
 have e : Jtje f = Jt89 (f.blocks.map fun b => Jtjd b f.regs f.blocks.length) := by
  unfold Jtje; repeat (first | rw [if_pos (by omega)] | rw [if_neg (by omega)])
 refine Jt9 (fun k : Nat => ⟨[(3, AI k), (2, AI 0), (1, .ptr 0 0)], [.mem [AI f.args, AI f.regs, .d (.sl (f.blocks.map Block.row))]]⟩)
  (fun k => k ≤ f.blocks.length ∧ ∀ e ∈ (f.blocks.map fun b => Jtjd b f.regs f.blocks.length).take k, e = 0) (fun k => f.blocks.length - k) 0 (by simp) (by (exact wkA)) ?_
 rintro k ⟨hk, hz⟩ N hN
 (simp (maxSteps := 1000000) [])
 ((first | refine Xc (fun h2 => ?_) (fun h2 => ?_) | refine Xo (fun h2 => ?_) (fun h2 => ?_)) <;> (try simp only [Xz, Xy] at h2))
 ·have hkl : k < f.blocks.length := by simpa using h2
  have hb : f.blocks[k]? = some f.blocks[k] := by simp [hkl]
  have hw := Jtog (k := k) (by omega)
  have hbl : f.blocks[k].code.length < 1000000000 := by
   have h3 := Jt6p hb
   have h4 := Jt6o f.blocks (k + 1)
   omega
  (simp (maxSteps := 1000000) [h2, hb, Block.row])
  refine Jt9 (fun j : Nat => ⟨[(5, AI j), (4, .ptr 1 0), (3, AI k), (2, AI 0), (1, .ptr 0 0)], [.mem [AI f.args, AI f.regs, .d (.sl (f.blocks.map Block.row))], .mem [.d (.sl (f.blocks[k].code.map Instr.row)), AI f.blocks[k].term.kind, AI f.blocks[k].term.a, AI f.blocks[k].term.to, AI f.blocks[k].term.els]]⟩)
   (fun j => j ≤ f.blocks[k].code.length ∧ ∀ e ∈ (f.blocks[k].code.map (Jtjf · f.regs)).take j, e = 0) (fun j => f.blocks[k].code.length - j) 0 (by simp) (by (exact wkA)) ?_
  rintro j ⟨hj, hy⟩ N' hN'
  (simp (maxSteps := 1000000) [])
  ((first | refine Xc (fun h3 => ?_) (fun h3 => ?_) | refine Xo (fun h3 => ?_) (fun h3 => ?_)) <;> (try simp only [Xz, Xy] at h3))
  ·have hjl : j < f.blocks[k].code.length := by simpa using h3
   have hbj : f.blocks[k].code[j]? = some f.blocks[k].code[j] := by simp [hjl]
   have hwj := Jtog (k := j) (by omega)
   (simp (maxSteps := 1000000) [h3, hbj, Instr.row])
   (refine Jtt (Jtig A f.blocks[k].code[j] f.regs) (by rfl) (by rfl) ?_)
   (simp (maxSteps := 1000000) [])
   ((first | refine Xc (fun h4 => ?_) (fun h4 => ?_) | refine Xo (fun h4 => ?_) (fun h4 => ?_)) <;> (try simp only [Xz, Xy] at h4))
   ·(simp (maxSteps := 1000000) [h4])
    have e2 : Jt89 (f.blocks[k].code.map (Jtjf · f.regs)) = Jtjf f.blocks[k].code[j] f.regs := Jt8c hy (by simp [hjl]) h4
    have e3 : Jtjd f.blocks[k] f.regs f.blocks.length = Jtjf f.blocks[k].code[j] f.regs := by simp [Jtjd, e2, h4]
    have e4 : Jt89 (f.blocks.map fun b => Jtjd b f.regs f.blocks.length) = Jtjd f.blocks[k] f.regs f.blocks.length := Jt8c hz (by simp [hkl]) (by rw [e3]; exact h4)
    (first | exact hR _ _ FrA | exact hR _ _ FnA | exact hR _ _ (Xf (hq := by simp [AV.erase, AV.unview, e, e4, e3]; done)))
   ·(simp (maxSteps := 1000000) [h4, hwj])
    exact hN' _ (j + 1) ⟨hjl, take_zero hy hbj (by simpa using h4)⟩ (by (exact wkA)) (by omega)
  ·have hj' : j = f.blocks[k].code.length := by simp at h3; omega
   subst hj'
   have hfe : Jt89 (f.blocks[k].code.map (Jtjf · f.regs)) = 0 := Jt8a (by rw [List.take_of_length_le (by simp)] at hy; exact hy)
   have e3 : Jtjd f.blocks[k] f.regs f.blocks.length = Jtjl f.blocks[k].term f.regs f.blocks.length := by simp [Jtjd, hfe]
   (simp (maxSteps := 1000000) [])
   (refine Jtt (Jtii A f.blocks[k].term f.regs f.blocks.length) (by rfl) (by rfl) ?_)
   (simp (maxSteps := 1000000) [])
   ((first | refine Xc (fun h5 => ?_) (fun h5 => ?_) | refine Xo (fun h5 => ?_) (fun h5 => ?_)) <;> (try simp only [Xz, Xy] at h5))
   ·(simp (maxSteps := 1000000) [h5])
    have e4 : Jt89 (f.blocks.map fun b => Jtjd b f.regs f.blocks.length) = Jtjd f.blocks[k] f.regs f.blocks.length := Jt8c hz (by simp [hkl]) (by rw [e3]; exact h5)
    (first | exact hR _ _ FrA | exact hR _ _ FnA | exact hR _ _ (Xf (hq := by simp [AV.erase, AV.unview, e, e4, e3]; done)))
   ·(simp (maxSteps := 1000000) [h5, hw])
    exact hN _ (k + 1) ⟨hkl, take_zero hz hb (by rw [e3]; simpa using h5)⟩ (by (exact wkA)) (by omega)
 ·have hk' : k = f.blocks.length := by simp at h2; omega
  subst hk'
  have hfe : Jt89 (f.blocks.map fun b => Jtjd b f.regs f.blocks.length) = 0 := Jt8a (by rw [List.take_of_length_le (by simp)] at hz; exact hz)
  (simp (maxSteps := 1000000) [])
  (first | exact hR _ _ FrA | exact hR _ _ FnA | exact hR _ _ (Xf (hq := by simp [AV.erase, AV.unview, e, hfe]; done)))
end
structure MBlock where (code : List Mach) (term : Term)
 deriving Inhabited
def MBlock.row (b : MBlock) : List D := [.sl (b.code.map Mach.row), I b.term.kind, I b.term.a, I b.term.to, I b.term.els]
def MBlock.av (b : MBlock) : AV := .agg [.d (.sl (b.code.map Mach.row)), AI b.term.kind, AI b.term.a, AI b.term.to, AI b.term.els]
structure MFunc where (args regs slots : Int) (blocks : List MBlock)
def MFunc.av (f : MFunc) : AV := .agg [AI f.args, AI f.regs, AI f.slots, .d (.sl (f.blocks.map MBlock.row))]
def witD (w : List (List Pair)) : D := .sl (w.map fun l => [pairsD l])
structure Cert where (S : Func) (T : MFunc) (W : List (List Pair))
def Cert.av (c : Cert) : AV := .agg [AI c.S.args, AI c.S.regs, .d (.sl (c.S.blocks.map Block.row)), AI c.T.args, AI c.T.regs, AI c.T.slots, .d (.sl (c.T.blocks.map MBlock.row)), .d (witD c.W)]
section
end
section
end
section
end
def mcodeN (bs : List MBlock) : Nat := (bs.map fun b => b.code.length).sum
theorem Jtf2 {bs : List MBlock} {k : Nat} {b : MBlock} (h : bs[k]? = some b) : mcodeN (bs.take (k + 1)) = mcodeN (bs.take k) + b.code.length := by
 rw [mcodeN, List.take_add_one, h]; simp [mcodeN]
theorem Jtez (a b : List MBlock) : mcodeN (a ++ b) = mcodeN a + mcodeN b := by simp [mcodeN]
theorem Jtf1 (bs : List MBlock) (k : Nat) : mcodeN (bs.take k) ≤ mcodeN bs := by
 have h := Jtez (bs.take k) (bs.drop k)
 rw [List.take_append_drop] at h; omega
def mostN (l : List Nat) : Nat := l.foldl max 0
theorem Jtfo {l : List Nat} {k x : Nat} (h : l[k]? = some x) : mostN (l.take (k + 1)) = max (mostN (l.take k)) x := by
 rw [mostN, List.take_add_one, h]; simp [mostN]
theorem Jt8b {es : List Int} (h : Jt89 es = 0) : ∀ e ∈ es, e = 0 := by
 induction es with
 | nil => intro e he; simp at he
 | cons e es ih =>
  simp only [Jt89] at h
  intro x hx
  split at h
  ·exact absurd h ‹_›
  ·rcases List.mem_cons.1 hx with rfl | hx
   ·simp_all
   ·exact ih h x hx
section
end
def lead : List Mach → Nat
 | [] => 0
 | m :: l => if (m.op == 18) = true then lead l + 1 else 0
def Jtjj (l : List Mach) : Nat := mostN ((List.range l.length).map fun i => lead (l.drop i))
theorem Jtdo (l : List Mach) : lead l ≤ l.length := by
 induction l with
 | nil => simp [lead]
 | cons m l ih => simp only [lead, List.length_cons]; split <;> omega
theorem Jtdn {l : List Mach} {i : Nat} {m : Mach} (h : l[i]? = some m) : lead (l.drop i) = if (m.op == 18) = true then lead (l.drop (i + 1)) + 1 else 0 := by
 have hlt := (List.getElem?_eq_some_iff.1 h).1
 rw [List.drop_eq_getElem_cons hlt, (List.getElem?_eq_some_iff.1 h).2]; rfl
def mxAt (l : List Mach) (k : Nat) : Nat := mostN ((List.range k).map fun i => lead (l.drop i))
theorem Jtfy (l : List Mach) (k : Nat) : mxAt l (k + 1) = max (mxAt l k) (lead (l.drop k)) := by
 simp [mxAt, mostN, List.range_succ]
section
theorem Jtil {P : Program} {p : Nums} (A : All P p) (f : MFunc) (h0 : f.blocks.length < 1000000000) (h1 : mcodeN f.blocks < 1000000000) : Jt3o P p.ref08_Code [f.av] [] fun o _ => o = .ret (AI (mcodeN f.blocks)) := by
 refine A.ref08_Code.run rfl fun R hR => ?_
 (simp (maxSteps := 1000000) [Jtbr, MFunc.av])
 refine Jt9 (fun k : Nat => ⟨[(4, AI k), (1, .ptr 0 0), (3, AI (mcodeN (f.blocks.take k)))], [.mem [AI f.args, AI f.regs, AI f.slots, .d (.sl (f.blocks.map MBlock.row))]]⟩) (fun k => k ≤ f.blocks.length) (fun k => f.blocks.length - k) 0 (by simp) (by (exact wkA)) ?_
 intro k hk N hN
 (simp (maxSteps := 1000000) [])
 ((first | refine Xc (fun h2 => ?_) (fun h2 => ?_) | refine Xo (fun h2 => ?_) (fun h2 => ?_)) <;> (try simp only [Xz, Xy] at h2))
 ·have hkl : k < f.blocks.length := by simpa using h2
  have hb : f.blocks[k]? = some f.blocks[k] := by simp [hkl]
  have hw := Jtog (k := k) (by omega)
  have hs := Jtf2 hb
  have hle := Jtf1 f.blocks (k + 1)
  have hw2 := Jtof (a := mcodeN (f.blocks.take k)) (b := f.blocks[k].code.length) (by omega)
  rw [← hs] at hw2
  (simp (maxSteps := 1000000) [h2, List.getElem?_map, hb, MBlock.row, hw, hw2])
  exact hN _ (k + 1) hkl (by (exact wkA)) (by omega)
 ·have hk' : k = f.blocks.length := by simp at h2; omega
  subst hk'
  (simp (maxSteps := 1000000) [])
  (first | exact hR _ _ FrA | exact hR _ _ FnA | exact hR _ _ (Xf (hq := by simp [AV.erase, AV.unview, List.take_length]; done)))
theorem Jtio {P : Program} {p : Nums} (A : All P p) (l : List Mach) (h0 : l.length < 1000000000) : Jt3o P p.ref08_Moves [.d (.sl (l.map Mach.row))] [] fun o _ => o = .ret (AI (Jtjj l)) := by
 refine A.ref08_Moves.run rfl fun R hR => ?_
 (simp (maxSteps := 1000000) [Jtbu])
 refine Jt9 (fun k : Nat => ⟨[(4, AI k), (3, AI (mxAt l k)), (2, AI 0), (0, .d (.sl (l.map Mach.row)))], []⟩) (fun k => k ≤ l.length) (fun k => l.length - k) 0 (by simp) (by (exact wkA)) ?_
 intro k hk N hN
 (simp (maxSteps := 1000000) [])
 ((first | refine Xc (fun h2 => ?_) (fun h2 => ?_) | refine Xo (fun h2 => ?_) (fun h2 => ?_)) <;> (try simp only [Xz, Xy] at h2))
 ·have hkl : k < l.length := by simpa using h2
  have hw := Jtog (k := k) (by omega)
  (simp (maxSteps := 1000000) [h2])
  refine Jt9 (fun n : Nat => ⟨[(5, AI n), (4, AI k), (3, AI (mxAt l k)), (2, AI 0), (0, .d (.sl (l.map Mach.row)))], []⟩)
   (fun n => k + n ≤ l.length ∧ lead (l.drop k) = n + lead (l.drop (k + n))) (fun n => l.length - n) 0 (by simp; omega) (by (exact wkA)) ?_
  rintro n ⟨hn, hld⟩ N' hN'
  have hw2 := Jtof (a := k) (b := n) (by omega)
  have hw3 := Jtog (k := n) (by omega)
  have hms := Jtfy l k
  (simp (maxSteps := 1000000) [hw2])
  have hnn : (0 : Int) ≤ (k : Int) + n := by omega
  have htn : ((k : Int) + n).toNat = k + n := by omega
  ((first | refine Xc (fun h3 => ?_) (fun h3 => ?_) | refine Xo (fun h3 => ?_) (fun h3 => ?_)) <;> (try simp only [Xz, Xy] at h3))
  ·have hkn : k + n < l.length := by omega
   have hb : l[k + n]? = some l[k + n] := by simp [hkn]
   have hla := Jtdn hb
   (simp (maxSteps := 1000000) [h3, hw2, hnn, htn, hb, Mach.row, hkn])
   ((first | refine Xc (fun h4 => ?_) (fun h4 => ?_) | refine Xo (fun h4 => ?_) (fun h4 => ?_)) <;> (try simp only [Xz, Xy] at h4))
   ·(simp (maxSteps := 1000000) [h4, hw3])
    rw [if_pos (by simp [h4])] at hla
    exact hN' _ (n + 1) ⟨hkn, by rw [hld, hla, Nat.add_assoc]; omega⟩ (by (exact wkA)) (by omega)
   ·(simp (maxSteps := 1000000) [h4])
    rw [if_neg (by simp [h4])] at hla
    ((first | refine Xc (fun h5 => ?_) (fun h5 => ?_) | refine Xo (fun h5 => ?_) (fun h5 => ?_)) <;> (try simp only [Xz, Xy] at h5))
    ·(simp (maxSteps := 1000000) [h5, hw])
     exact hN _ (k + 1) hkl (by rw [hms, hld, hla, show max (mxAt l k) (n + 0) = n by omega]; (exact wkA)) (by omega)
    ·(simp (maxSteps := 1000000) [h5, hw])
     exact hN _ (k + 1) hkl (by rw [hms, hld, hla, show max (mxAt l k) (n + 0) = mxAt l k by omega]; (exact wkA)) (by omega)
  ·have hla : lead (l.drop (k + n)) = 0 := by rw [List.drop_of_length_le (by omega)]; rfl
   (simp (maxSteps := 1000000) [h3])
   ((first | refine Xc (fun h5 => ?_) (fun h5 => ?_) | refine Xo (fun h5 => ?_) (fun h5 => ?_)) <;> (try simp only [Xz, Xy] at h5))
   ·(simp (maxSteps := 1000000) [h5, hw])
    exact hN _ (k + 1) hkl (by rw [hms, hld, hla, show max (mxAt l k) (n + 0) = n by omega]; (exact wkA)) (by omega)
   ·(simp (maxSteps := 1000000) [h5, hw])
    exact hN _ (k + 1) hkl (by rw [hms, hld, hla, show max (mxAt l k) (n + 0) = mxAt l k by omega]; (exact wkA)) (by omega)
 ·have hk' : k = l.length := by simp at h2; omega
  subst hk'
  (simp (maxSteps := 1000000) [])
  (first | exact hR _ _ FrA | exact hR _ _ FnA | exact hR _ _ (Xf (hq := by simp [AV.erase, AV.unview, Jtjj, mxAt]; done)))
end
theorem Jtg5 {α : Type} [DecidableEq α] : ∀ {l m : List α}, l.Nodup → (∀ x ∈ l, x ∈ m) → l.length ≤ m.length := by
 intro l
 induction l with
 | nil => intro m _ _; simp
 | cons x l ih =>
  intro m hn hs
  rw [List.nodup_cons] at hn
  have hx := hs x (by simp)
  have := ih (m := m.erase x) hn.2 fun y hy => (List.mem_erase_of_ne (by rintro rfl; exact hn.1 hy)).2 (hs y (by simp [hy]))
  rw [List.length_erase_of_mem hx] at this
  have := List.length_pos_of_mem hx
  simp only [List.length_cons]; omega
def prodP (V L : List Int) : List Pair := V.flatMap fun v => L.map fun l => (⟨v, l⟩ : Pair)
theorem Jthv (V L : List Int) : (prodP V L).length = V.length * L.length := by
 unfold prodP
 induction V with
 | nil => simp
 | cons v V ih => simp only [List.flatMap_cons, List.length_append, List.length_map, List.length_cons, ih, Nat.add_mul]; omega
theorem Jtfb {V L : List Int} {q : Pair} : q ∈ prodP V L ↔ q.v ∈ V ∧ q.l ∈ L := by
 unfold prodP
 simp only [List.mem_flatMap, List.mem_map]
 constructor
 ·rintro ⟨v, hv, l, hl, rfl⟩; exact ⟨hv, hl⟩
 ·rintro ⟨hv, hl⟩; exact ⟨q.v, hv, q.l, hl, rfl⟩
structure Over (V L : List Int) (l : List Pair) : Prop where
 srt : Srt l
 mem : ∀ q ∈ l, q.v ∈ V ∧ q.l ∈ L
theorem Over.len {V L : List Int} {l : List Pair} (h : Over V L l) : l.length ≤ V.length * L.length := by
 rw [← Jthv]
 exact Jtg5 (Jtmn h.srt) fun q hq => Jtfb.2 (h.mem q hq)
theorem Over.copy {V L : List Int} {l : List Pair} (h : Over V L l) {d a : Int} (hd : d ∈ V) : Over V L (copyP l d a) := by
 refine ⟨Jtme h.srt, fun q hq => ?_⟩
 rcases Jtf4.1 hq with ⟨h1, _⟩ | ⟨h1, h2⟩
 ·exact h.mem q h1
 ·exact ⟨by rw [h1]; exact hd, (h.mem _ h2).2⟩
theorem Over.move {V L : List Int} {l : List Pair} (h : Over V L l) {d a : Int} (hd : d ∈ L) : Over V L (moveP l d a) := by
 refine ⟨Jtmm h.srt, fun q hq => ?_⟩
 rcases Jtf9.1 hq with ⟨h1, _⟩ | ⟨h1, h2⟩
 ·exact h.mem q h1
 ·exact ⟨(h.mem _ h2).1, by rw [h1]; exact hd⟩
theorem Over.define {V L : List Int} {l : List Pair} (h : Over V L l) {d t : Int} (hd : d ∈ V) (ht : t ∈ L) : Over V L (defP l d t) := by
 refine ⟨Jtmf h.srt, fun q hq => ?_⟩
 rcases Jtf5.1 hq with rfl | ⟨h1, _⟩
 ·exact ⟨hd, ht⟩
 ·exact h.mem q h1
structure CS where (set : List Pair) (steps largest : Nat)
abbrev CR := CS × Option (Int × Int)
def costC (s : CS) : CS := ⟨s.set, s.steps + 1 + s.set.length, s.largest⟩
def Jt59 (most : Int) (s : CS) (l : List Pair) (at_ : Int) : CR := (⟨l, s.steps, max s.largest l.length⟩, if (l.length : Int) > most then some (24, at_) else none)
def useC (s : CS) (v t at_ : Int) : CR := (costC s, if (⟨v, t⟩ : Pair) ∈ s.set then none else some (21, at_))
def thenC (r : CR) (f : CS → CR) : CR := match r.2 with
 | none => f r.1
 | some e => (r.1, some e)
theorem Jtng {s : CS} {f : CS → CR} : thenC (s, none) f = f s := rfl
theorem Jtnh {s : CS} {e : Int × Int} {f : CS → CR} : thenC (s, some e) f = (s, some e) := rfl
structure Room (V L : List Int) (s : CS) (n : Nat) : Prop where
 over : Over V L s.set
 few : V.length * L.length < 100000
 steps : s.steps + 100001 * n < 1000000000000000000
 lg : s.largest < 100000
theorem Room.len {V L : List Int} {s : CS} {n : Nat} (h : Room V L s n) : s.set.length < 100000 := Nat.lt_of_le_of_lt h.over.len h.few
theorem Room.mono {V L : List Int} {s : CS} {n m : Nat} (h : Room V L s n) (hm : m ≤ n) : Room V L s m := ⟨h.over, h.few, by have := h.steps; omega, h.lg⟩
theorem Room.cost {V L : List Int} {s : CS} {n : Nat} (h : Room V L s (n + 1)) : Room V L (costC s) n :=
 ⟨h.over, h.few, by have := h.steps; have := h.len; simp only [costC]; omega, h.lg⟩
theorem Room.become {V L : List Int} {s : CS} {n : Nat} (h : Room V L s n) {l : List Pair} (hl : Over V L l) (most at_ : Int) : Room V L (Jt59 most s l at_).1 n := by
 refine ⟨hl, h.few, h.steps, ?_⟩
 have := h.lg
 have := Nat.lt_of_le_of_lt hl.len h.few
 simp only [Jt59]; omega
theorem Room.use {V L : List Int} {s : CS} {n : Nat} (h : Room V L s (n + 1)) (v t at_ : Int) : Room V L (useC s v t at_).1 n := h.cost
section
variable {P : Program} {m : Nat} {Q : AExit → ASt → Prop} {st : ASt} {K : ASt → Prop} {QP : AV → ASt → Prop} {dst : Option Nat}
theorem Jtx (bs : List Nat) {f : Nat} {args cargs : List AV} {Hp Hc Hc' Hb : List Blk} {x y : AV} (h : Jt3o P f cargs Hc fun o H' => o = .pan x ∧ H' = Hc')
  (hnd : bs.Nodup) (ha : renL (idx bs) args = some cargs) (hp : picks st.H bs = some Hp) (hc : renB (idx bs) Hp = some Hc) (hb : renB (back bs st.H.length 0) Hc' = some Hb)
  (hl : Hc'.length = bs.length) (hx : x.ren (back bs st.H.length 0) = some y) (hK : QP y ⟨unview st.env, wback st.H bs Hb⟩) : AWcall P false f args dst K QP st := by
 refine .inr ⟨rfl, .inr ⟨bs, hnd, cargs, Hp, Hc, ha, hp, hc, h.mono ?_⟩⟩
 rintro o H' ⟨rfl, he⟩
 subst he
 have ht : H'.take (bs.length + 0) = H' := by rw [Nat.add_zero, ← hl, List.take_length]
 refine ⟨0, Hb, y, by rw [ht]; exact hb, by omega, hx, ?_⟩
 have e : Hb.length = bs.length := by rw [Jtjt hb, hl]
 rw [← e, List.take_length, List.drop_length, List.append_nil]
 exact hK
theorem Jt3r {rs : List RV} {m : Nat} {Q : AOut → List Blk → Prop} {st : ASt} (x x' : AV) (H' : List Blk) (hw : Wk m ⟨[(0, x.erase)], st.H⟩ ⟨[(0, x')], H'⟩) (hq : Q (.pan x') H') : Fin rs m Q (.panic x) st := ⟨x', H', hw, hq⟩
attribute [simp] panEnd
end
def failV (p : Nums) (e : Int × Int) : AV := .iface p.ty_bcfail (.agg [AI e.1, AI e.2])
def outR (p : Nums) : Option (Int × Int) → AOut
 | none => .ret (.tup [])
 | some e => .pan (failV p e)
def ckB (most : Int) (s : CS) : Blk := .mem [.d (pairsD s.set), AI most, AI s.steps, AI s.largest]
theorem wrapN {n : Nat} (h : n < 4611686018427387904) : IntKind.i64.wrap (n : Int) = (n : Int) := by
 have := Jtof (a := n) (b := 0) (by omega); simpa using this
section
theorem Jt5g {P : Program} {p : Nums} (A : All P p) (s : CS) (most : Int) (h0 : s.set.length < 100000) (h1 : s.steps < 1000000000000000000) : Jt3o P p.blockcheck_checker_cost [.ptr 0 0] [ckB most s] fun o H' => o = .ret (.tup []) ∧ H' = [ckB most (costC s)] := by
 refine A.blockcheck_checker_cost.run rfl fun R hR => ?_
 obtain ⟨l, n, g⟩ := s
 have e1 : IntKind.i64.wrap (1 + (l.length : Int)) = 1 + (l.length : Int) := by have := wrapN (n := 1 + l.length) (by simp at h0; omega); simpa using this
 have e2 : IntKind.i64.wrap ((n : Int) + (1 + (l.length : Int))) = (n : Int) + (1 + (l.length : Int)) := by have := wrapN (n := n + (1 + l.length)) (by simp at h0 h1; omega); simpa using this
 have e3 : ((n + 1 + l.length : Nat) : Int) = (n : Int) + (1 + (l.length : Int)) := by omega
 (simp (maxSteps := 1000000) [Jta1, ckB, pairsD, e1, e2])
 exact hR _ _ (Fin_wk (.tup []) (.tup []) [.mem [.d (pairsD l), AI most, AI ((n : Int) + (1 + (l.length : Int))), AI g]] rfl (by simp only [pairsD]; (exact wkA)) ⟨rfl, by simp only [ckB, costC, e3]⟩)
theorem Jt5f {P : Program} {p : Nums} (A : All P p) (s : CS) (most : Int) (l : List Pair) (at_ : Int) (h0 : l.length < 100000) (h1 : s.largest < 1000000000000000000) :
  Jt3o P p.blockcheck_checker_become [.ptr 0 0, .d (pairsD l), AI at_] [ckB most s] fun o H' => o = outR p (Jt59 most s l at_).2 ∧ H' = [ckB most (Jt59 most s l at_).1] := by
 refine A.blockcheck_checker_become.run rfl fun R hR => ?_
 obtain ⟨u, n, g⟩ := s
 obtain ⟨mx, hmx⟩ : ∃ mx, mx = max g l.length := ⟨_, rfl⟩
 have e1 : (if g < l.length then (l.length : Int) else (g : Int)) = (mx : Int) := by split <;> omega
 (simp (maxSteps := 1000000) [Jta0, ckB, pairsD, e1])
 ((first | refine Xc (fun h2 => ?_) (fun h2 => ?_) | refine Xo (fun h2 => ?_) (fun h2 => ?_)) <;> (try simp only [Xz, Xy] at h2))
 ·(simp (maxSteps := 1000000) [h2])
  refine hR _ _ (Jt3r _ (failV p (24, at_)) [.mem [.d (pairsD l), AI most, AI n, AI mx]] (by simp only [pairsD, failV]; (exact wkA)) ⟨?_, by simp only [ckB, Jt59, hmx]⟩)
  simp [outR, Jt59, h2]
 ·(simp (maxSteps := 1000000) [h2])
  refine hR _ _ (Fin_wk (.tup []) (.tup []) [.mem [.d (pairsD l), AI most, AI n, AI mx]] rfl (by simp only [pairsD]; (exact wkA)) ⟨?_, by simp only [ckB, Jt59, hmx]⟩)
  simp [outR, Jt59, h2]
end
def instrC (most : Int) (s : CS) (i : Instr) (m : Mach) (at_ : Int) : CR :=
 thenC (if usesA i.op = true then useC s i.a (regZ m.a) at_ else (s, none)) fun s =>
  thenC (if usesB i.op = true then useC s i.b (regZ m.b) at_ else (s, none)) fun s =>
   if usesD i.op = true then Jt59 most (costC s) (defP s.set i.d (regZ m.d)) at_ else (s, none)
theorem Jtl4 (x : Int) : (shapeZ x).D = usesD x := by
 unfold shapeZ usesD knownZ
 by_cases h1 : 1 ≤ x ∧ x ≤ 18
 ·by_cases h2 : x = 1
  ·subst h2; decide
  ·by_cases h3 : x ≤ 4
   ·simp [h1, h2, h3]; omega
   ·by_cases h4 : x ≤ 16
    ·simp [h1, h2, h3, h4]
    ·simp [h1, h2, h3, h4]
 ·simp [h1]; omega
theorem Jtl2 (x : Int) : (shapeZ x).A = usesA x := by
 unfold shapeZ usesA knownZ
 by_cases h1 : 1 ≤ x ∧ x ≤ 18
 ·by_cases h2 : x = 1
  ·subst h2; decide
  ·by_cases h3 : x ≤ 4
   ·simp [h1, h2, h3]; omega
   ·by_cases h4 : x ≤ 16
    ·simp [h1, h2, h3, h4]; omega
    ·simp only [h1, h2, h3, h4, and_self, decide_true, Bool.true_eq_false, if_false]; by_cases h5 : x = 17
     ·subst h5; decide
     ·have : x = 18 := by omega
      subst this; decide
 ·simp [h1]; omega
theorem Jtl3 (x : Int) : (shapeZ x).B = usesB x := by
 unfold shapeZ usesB knownZ
 by_cases h1 : 1 ≤ x ∧ x ≤ 18
 ·by_cases h2 : x = 1
  ·subst h2; decide
  ·by_cases h3 : x ≤ 4
   ·simp [h1, h2, h3]; omega
   ·by_cases h4 : x ≤ 16
    ·simp [h1, h2, h3, h4]; omega
    ·simp [h1, h2, h3, h4]
 ·simp [h1]; omega
section
theorem Jt5k {P : Program} {p : Nums} (A : All P p) (s : CS) (most v reg at_ : Int) (h0 : s.set.length < 100000) (h1 : s.steps < 1000000000000000000) (hs : Srt s.set) :
  Jt3o P p.blockcheck_checker_use [.ptr 0 0, AI v, AI reg, AI at_] [ckB most s] fun o H' => o = outR p (useC s v (regZ reg) at_).2 ∧ H' = [ckB most (useC s v (regZ reg) at_).1] := by
 refine A.blockcheck_checker_use.run rfl fun R hR => ?_
 have hH := Jthb A s.set ⟨v, regZ reg⟩ (by omega) hs
 have hc := Jt5g A s most h0 h1
 have e0 : (useC s v (regZ reg) at_).1 = costC s := rfl
 obtain ⟨C, hC⟩ : ∃ C, C = ckB most (costC s) := ⟨_, rfl⟩
 have hCm : C = .mem [.d (pairsD s.set), AI most, AI (costC s).steps, AI s.largest] := hC
 obtain ⟨B, hB⟩ : ∃ B, B = ckB most s := ⟨_, rfl⟩
 rw [← hC] at hc
 rw [← hB] at hc ⊢
 (simp (maxSteps := 1000000) [Jta7])
 refine Jtv [0] hc (by decide) (by rfl) (by rfl) (by rw [hB]; rfl) (by rw [hCm]; rfl) (by rfl) (by rfl) ?_
 (simp (maxSteps := 1000000) [hCm])
 (refine Jtt (Jte4 A reg) (by rfl) (by rfl) ?_)
 (simp (maxSteps := 1000000) [])
 (refine Jtt hH (by rfl) (by rfl) ?_)
 by_cases hm : (⟨v, regZ reg⟩ : Pair) ∈ s.set
 ·(simp (maxSteps := 1000000) [hm])
  refine hR _ _ (Fin_wk (.tup []) (.tup []) [C] rfl (by rw [hCm]; (exact wkA)) ⟨?_, by rw [hC]; rfl⟩)
  simp [useC, hm, outR]
 ·(simp (maxSteps := 1000000) [hm])
  refine hR _ _ (Jt3r _ (failV p (21, at_)) [C] (by rw [hCm]; simp only [failV]; (exact wkA)) ⟨?_, by rw [hC]; rfl⟩)
  simp [useC, hm, outR]
end
theorem Jtd5 {V L : List Int} {most : Int} {s : CS} {n : Nat} {i : Instr} {m : Mach} {at_ : Int} (h : Room V L s (n + 3)) (hd : usesD i.op = true → i.d ∈ V ∧ regZ m.d ∈ L) : Room V L (instrC most s i m at_).1 n := by
 unfold instrC
 have h2 : Room V L (if usesA i.op = true then useC s i.a (regZ m.a) at_ else (s, none)).1 (n + 2) := by split <;> first | exact h.use _ _ _ | exact h.mono (by omega)
 generalize (if usesA i.op = true then useC s i.a (regZ m.a) at_ else (s, none)) = r at h2
 obtain ⟨s1, e⟩ := r
 cases e with
 | some e => rw [Jtnh]; exact h2.mono (by omega)
 | none =>
  rw [Jtng]
  have h3 : Room V L (if usesB i.op = true then useC s1 i.b (regZ m.b) at_ else (s1, none)).1 (n + 1) := by split <;> first | exact h2.use _ _ _ | exact h2.mono (by omega)
  generalize (if usesB i.op = true then useC s1 i.b (regZ m.b) at_ else (s1, none)) = r at h3
  obtain ⟨s2, e⟩ := r
  cases e with
  | some e => rw [Jtnh]; exact h3.mono (by omega)
  | none =>
   rw [Jtng]
   split
   ·rename_i hu
    obtain ⟨k1, k2⟩ := hd hu
    exact h3.cost.become (h3.over.define k1 k2) _ _
   ·exact h3.mono (by omega)
section
theorem Jt5h {P : Program} {p : Nums} (A : All P p) (S : SortOk P p) {V L : List Int} (s : CS) (most : Int) (i : Instr) (m : Mach) (at_ : Int) (h : Room V L s 3) (hd : usesD i.op = true → i.d ∈ V ∧ regZ m.d ∈ L) :
  Jt3o P p.blockcheck_checker_instr [.ptr 0 0, i.av, m.av, AI at_] [ckB most s] fun o H' => o = outR p (instrC most s i m at_).2 ∧ H' = [ckB most (instrC most s i m at_).1] := by
 refine A.blockcheck_checker_instr.run rfl fun R hR => ?_
 have r1 := h.cost
 have r2 := r1.cost
 have l0 := h.len
 have l1 := r1.len
 have l2 := r2.len
 have t0 := h.steps
 have t1 := r1.steps
 have t2 := r2.steps
 have g2 := r2.cost
 have q0 := h.over.srt
 obtain ⟨s1, hs1⟩ : ∃ s1, s1 = costC s := ⟨_, rfl⟩
 obtain ⟨s2, hs2⟩ : ∃ s2, s2 = costC s1 := ⟨_, rfl⟩
 obtain ⟨s3, hs3⟩ : ∃ s3, s3 = costC s2 := ⟨_, rfl⟩
 have q1 : Srt s1.set := by rw [hs1]; exact q0
 have q2 : Srt s2.set := by rw [hs2]; exact q1
 rw [← hs1] at r1 r2 l1 l2 t1 t2 g2
 rw [← hs2] at r2 l2 t2 g2
 rw [← hs3] at g2
 (simp (maxSteps := 1000000) [Jta2, Instr.av, Mach.av])
 (refine Jtt (Jtgr A i.op) (by rfl) (by rfl) ?_)
 (simp (maxSteps := 1000000) [Jtl2, Jtl3, Jtl4])
 have hspec : instrC most s i m at_ = instrC most s i m at_ := rfl
 conv at hspec => rhs; unfold instrC
 cases hA : usesA i.op <;> cases hB : usesB i.op <;> cases hD : usesD i.op <;> simp only [hA, hB, hD, if_true, if_false, Bool.false_eq_true, Jtng] at hspec
 ·(simp (maxSteps := 1000000) [hA, hB, hD])
  exact hR _ _ (Fin_wk (.tup []) (.tup []) [ckB most s] rfl (by simp only [ckB]; (exact wkA)) ⟨by rw [hspec]; rfl, by rw [hspec]⟩)
 ·(simp (maxSteps := 1000000) [hA, hB, hD])
  have hc := Jt5g A s most (by omega) (by omega)
  rw [← hs1] at hc hspec
  have hV := hd hD
  have ho : Over V L (defP s.set i.d (regZ m.d)) := (h).over.define hV.1 hV.2
  have hl := Nat.lt_of_le_of_lt ho.len h.few
  have hset : s1.set = s.set := by rw [hs1]; rfl
  have hb := Jt5f A s1 most (defP s.set i.d (regZ m.d)) at_ hl (by have := (r1).lg; omega)
  have hdf : Jt3o P p.transfer_Define [.d (pairsD s1.set), AI i.d, AI (regZ m.d)] [] fun o _ => o = .ret (.d (pairsD (defP s.set i.d (regZ m.d)))) := by rw [hset]; exact Jtnq A S s.set i.d (regZ m.d) (by omega) q0
  obtain ⟨dl, hdl⟩ : ∃ dl, dl = defP s.set i.d (regZ m.d) := ⟨_, rfl⟩
  rw [← hdl] at hb hdf hspec
  obtain ⟨⟨s9, e9⟩, h9⟩ : ∃ r, r = Jt59 most s1 dl at_ := ⟨_, rfl⟩
  rw [← h9] at hb hspec
  refine Jtv [0] (x := .tup []) hc (by decide) (by rfl) (by rfl) (by rfl) (by rfl) (by rfl) (by rfl) ?_
  (simp (maxSteps := 1000000) [])
  (refine Jtt (Jte4 A m.d) (by rfl) (by rfl) ?_)
  (simp (maxSteps := 1000000) [])
  (refine Jtt hdf (by rfl) (by rfl) ?_)
  (simp (maxSteps := 1000000) [])
  cases e9 with
  | none =>
   refine Jtv [0] (x := .tup []) hb (by decide) (by rfl) (by rfl) (by rfl) (by rfl) (by rfl) (by rfl) ?_
   (simp (maxSteps := 1000000) [])
   exact hR _ _ (Fin_wk (.tup []) (.tup []) [ckB most s9] rfl (by simp only [ckB]; (exact wkA)) ⟨by rw [hspec]; rfl, by rw [hspec]⟩)
  | some e =>
   refine Jtx [0] (x := failV p e) hb (by decide) (by rfl) (by rfl) (by rfl) (by rfl) (by rfl) (by rfl) ?_
   (simp (maxSteps := 1000000) [])
   exact hR _ _ (Jt3r _ (failV p e) [ckB most s9] (by simp only [ckB, failV]; (exact wkA)) ⟨by rw [hspec]; rfl, by rw [hspec]⟩)
 ·(simp (maxSteps := 1000000) [hA, hB, hD])
  have eB : (useC s i.b (regZ m.b) at_).1 = s1 := by rw [hs1]; rfl
  have huB := (Jt5k A s most i.b m.b at_ (by omega) (by omega) q0)
  rw [eB] at huB
  rcases hrB : (useC s i.b (regZ m.b) at_).2 with _ | e
  ·rw [hrB] at huB
   rw [show useC s i.b (regZ m.b) at_ = (s1, none) from Prod.ext eB hrB, Jtng] at hspec
   refine Jtv [0] (x := .tup []) huB (by decide) (by rfl) (by rfl) (by rfl) (by rfl) (by rfl) (by rfl) ?_
   (simp (maxSteps := 1000000) [hA, hB, hD])
   exact hR _ _ (Fin_wk (.tup []) (.tup []) [ckB most s1] rfl (by simp only [ckB]; (exact wkA)) ⟨by rw [hspec]; rfl, by rw [hspec]⟩)
  ·rw [hrB] at huB
   rw [show useC s i.b (regZ m.b) at_ = (s1, some e) from Prod.ext eB hrB, Jtnh] at hspec
   refine Jtx [0] (x := failV p e) huB (by decide) (by rfl) (by rfl) (by rfl) (by rfl) (by rfl) (by rfl) ?_
   (simp (maxSteps := 1000000) [])
   exact hR _ _ (Jt3r _ (failV p e) [ckB most s1] (by simp only [ckB, failV]; (exact wkA)) ⟨by rw [hspec]; rfl, by rw [hspec]⟩)
 ·(simp (maxSteps := 1000000) [hA, hB, hD])
  have eB : (useC s i.b (regZ m.b) at_).1 = s1 := by rw [hs1]; rfl
  have huB := (Jt5k A s most i.b m.b at_ (by omega) (by omega) q0)
  rw [eB] at huB
  rcases hrB : (useC s i.b (regZ m.b) at_).2 with _ | e
  ·rw [hrB] at huB
   rw [show useC s i.b (regZ m.b) at_ = (s1, none) from Prod.ext eB hrB, Jtng] at hspec
   refine Jtv [0] (x := .tup []) huB (by decide) (by rfl) (by rfl) (by rfl) (by rfl) (by rfl) (by rfl) ?_
   (simp (maxSteps := 1000000) [hA, hB, hD])
   have hc := Jt5g A s1 most (by omega) (by omega)
   rw [← hs2] at hc hspec
   have hV := hd hD
   have ho : Over V L (defP s1.set i.d (regZ m.d)) := (r1).over.define hV.1 hV.2
   have hl := Nat.lt_of_le_of_lt ho.len h.few
   have hset : s2.set = s1.set := by rw [hs2]; rfl
   have hb := Jt5f A s2 most (defP s1.set i.d (regZ m.d)) at_ hl (by have := (r2).lg; omega)
   have hdf : Jt3o P p.transfer_Define [.d (pairsD s2.set), AI i.d, AI (regZ m.d)] [] fun o _ => o = .ret (.d (pairsD (defP s1.set i.d (regZ m.d)))) := by rw [hset]; exact Jtnq A S s1.set i.d (regZ m.d) (by omega) q1
   obtain ⟨dl, hdl⟩ : ∃ dl, dl = defP s1.set i.d (regZ m.d) := ⟨_, rfl⟩
   rw [← hdl] at hb hdf hspec
   obtain ⟨⟨s9, e9⟩, h9⟩ : ∃ r, r = Jt59 most s2 dl at_ := ⟨_, rfl⟩
   rw [← h9] at hb hspec
   refine Jtv [0] (x := .tup []) hc (by decide) (by rfl) (by rfl) (by rfl) (by rfl) (by rfl) (by rfl) ?_
   (simp (maxSteps := 1000000) [])
   (refine Jtt (Jte4 A m.d) (by rfl) (by rfl) ?_)
   (simp (maxSteps := 1000000) [])
   (refine Jtt hdf (by rfl) (by rfl) ?_)
   (simp (maxSteps := 1000000) [])
   cases e9 with
   | none =>
    refine Jtv [0] (x := .tup []) hb (by decide) (by rfl) (by rfl) (by rfl) (by rfl) (by rfl) (by rfl) ?_
    (simp (maxSteps := 1000000) [])
    exact hR _ _ (Fin_wk (.tup []) (.tup []) [ckB most s9] rfl (by simp only [ckB]; (exact wkA)) ⟨by rw [hspec]; rfl, by rw [hspec]⟩)
   | some e =>
    refine Jtx [0] (x := failV p e) hb (by decide) (by rfl) (by rfl) (by rfl) (by rfl) (by rfl) (by rfl) ?_
    (simp (maxSteps := 1000000) [])
    exact hR _ _ (Jt3r _ (failV p e) [ckB most s9] (by simp only [ckB, failV]; (exact wkA)) ⟨by rw [hspec]; rfl, by rw [hspec]⟩)
  ·rw [hrB] at huB
   rw [show useC s i.b (regZ m.b) at_ = (s1, some e) from Prod.ext eB hrB, Jtnh] at hspec
   refine Jtx [0] (x := failV p e) huB (by decide) (by rfl) (by rfl) (by rfl) (by rfl) (by rfl) (by rfl) ?_
   (simp (maxSteps := 1000000) [])
   exact hR _ _ (Jt3r _ (failV p e) [ckB most s1] (by simp only [ckB, failV]; (exact wkA)) ⟨by rw [hspec]; rfl, by rw [hspec]⟩)
 ·(simp (maxSteps := 1000000) [hA, hB, hD])
  have eA : (useC s i.a (regZ m.a) at_).1 = s1 := by rw [hs1]; rfl
  have huA := (Jt5k A s most i.a m.a at_ (by omega) (by omega) q0)
  rw [eA] at huA
  rcases hrA : (useC s i.a (regZ m.a) at_).2 with _ | e
  ·rw [hrA] at huA
   rw [show useC s i.a (regZ m.a) at_ = (s1, none) from Prod.ext eA hrA, Jtng] at hspec
   refine Jtv [0] (x := .tup []) huA (by decide) (by rfl) (by rfl) (by rfl) (by rfl) (by rfl) (by rfl) ?_
   (simp (maxSteps := 1000000) [hA, hB, hD])
   exact hR _ _ (Fin_wk (.tup []) (.tup []) [ckB most s1] rfl (by simp only [ckB]; (exact wkA)) ⟨by rw [hspec]; rfl, by rw [hspec]⟩)
  ·rw [hrA] at huA
   rw [show useC s i.a (regZ m.a) at_ = (s1, some e) from Prod.ext eA hrA, Jtnh] at hspec
   refine Jtx [0] (x := failV p e) huA (by decide) (by rfl) (by rfl) (by rfl) (by rfl) (by rfl) (by rfl) ?_
   (simp (maxSteps := 1000000) [])
   exact hR _ _ (Jt3r _ (failV p e) [ckB most s1] (by simp only [ckB, failV]; (exact wkA)) ⟨by rw [hspec]; rfl, by rw [hspec]⟩)
 ·(simp (maxSteps := 1000000) [hA, hB, hD])
  have eA : (useC s i.a (regZ m.a) at_).1 = s1 := by rw [hs1]; rfl
  have huA := (Jt5k A s most i.a m.a at_ (by omega) (by omega) q0)
  rw [eA] at huA
  rcases hrA : (useC s i.a (regZ m.a) at_).2 with _ | e
  ·rw [hrA] at huA
   rw [show useC s i.a (regZ m.a) at_ = (s1, none) from Prod.ext eA hrA, Jtng] at hspec
   refine Jtv [0] (x := .tup []) huA (by decide) (by rfl) (by rfl) (by rfl) (by rfl) (by rfl) (by rfl) ?_
   (simp (maxSteps := 1000000) [hA, hB, hD])
   have hc := Jt5g A s1 most (by omega) (by omega)
   rw [← hs2] at hc hspec
   have hV := hd hD
   have ho : Over V L (defP s1.set i.d (regZ m.d)) := (r1).over.define hV.1 hV.2
   have hl := Nat.lt_of_le_of_lt ho.len h.few
   have hset : s2.set = s1.set := by rw [hs2]; rfl
   have hb := Jt5f A s2 most (defP s1.set i.d (regZ m.d)) at_ hl (by have := (r2).lg; omega)
   have hdf : Jt3o P p.transfer_Define [.d (pairsD s2.set), AI i.d, AI (regZ m.d)] [] fun o _ => o = .ret (.d (pairsD (defP s1.set i.d (regZ m.d)))) := by rw [hset]; exact Jtnq A S s1.set i.d (regZ m.d) (by omega) q1
   obtain ⟨dl, hdl⟩ : ∃ dl, dl = defP s1.set i.d (regZ m.d) := ⟨_, rfl⟩
   rw [← hdl] at hb hdf hspec
   obtain ⟨⟨s9, e9⟩, h9⟩ : ∃ r, r = Jt59 most s2 dl at_ := ⟨_, rfl⟩
   rw [← h9] at hb hspec
   refine Jtv [0] (x := .tup []) hc (by decide) (by rfl) (by rfl) (by rfl) (by rfl) (by rfl) (by rfl) ?_
   (simp (maxSteps := 1000000) [])
   (refine Jtt (Jte4 A m.d) (by rfl) (by rfl) ?_)
   (simp (maxSteps := 1000000) [])
   (refine Jtt hdf (by rfl) (by rfl) ?_)
   (simp (maxSteps := 1000000) [])
   cases e9 with
   | none =>
    refine Jtv [0] (x := .tup []) hb (by decide) (by rfl) (by rfl) (by rfl) (by rfl) (by rfl) (by rfl) ?_
    (simp (maxSteps := 1000000) [])
    exact hR _ _ (Fin_wk (.tup []) (.tup []) [ckB most s9] rfl (by simp only [ckB]; (exact wkA)) ⟨by rw [hspec]; rfl, by rw [hspec]⟩)
   | some e =>
    refine Jtx [0] (x := failV p e) hb (by decide) (by rfl) (by rfl) (by rfl) (by rfl) (by rfl) (by rfl) ?_
    (simp (maxSteps := 1000000) [])
    exact hR _ _ (Jt3r _ (failV p e) [ckB most s9] (by simp only [ckB, failV]; (exact wkA)) ⟨by rw [hspec]; rfl, by rw [hspec]⟩)
  ·rw [hrA] at huA
   rw [show useC s i.a (regZ m.a) at_ = (s1, some e) from Prod.ext eA hrA, Jtnh] at hspec
   refine Jtx [0] (x := failV p e) huA (by decide) (by rfl) (by rfl) (by rfl) (by rfl) (by rfl) (by rfl) ?_
   (simp (maxSteps := 1000000) [])
   exact hR _ _ (Jt3r _ (failV p e) [ckB most s1] (by simp only [ckB, failV]; (exact wkA)) ⟨by rw [hspec]; rfl, by rw [hspec]⟩)
 ·(simp (maxSteps := 1000000) [hA, hB, hD])
  have eA : (useC s i.a (regZ m.a) at_).1 = s1 := by rw [hs1]; rfl
  have huA := (Jt5k A s most i.a m.a at_ (by omega) (by omega) q0)
  rw [eA] at huA
  rcases hrA : (useC s i.a (regZ m.a) at_).2 with _ | e
  ·rw [hrA] at huA
   rw [show useC s i.a (regZ m.a) at_ = (s1, none) from Prod.ext eA hrA, Jtng] at hspec
   refine Jtv [0] (x := .tup []) huA (by decide) (by rfl) (by rfl) (by rfl) (by rfl) (by rfl) (by rfl) ?_
   (simp (maxSteps := 1000000) [hA, hB, hD])
   have eB : (useC s1 i.b (regZ m.b) at_).1 = s2 := by rw [hs2]; rfl
   have huB := (Jt5k A s1 most i.b m.b at_ (by omega) (by omega) q1)
   rw [eB] at huB
   rcases hrB : (useC s1 i.b (regZ m.b) at_).2 with _ | e
   ·rw [hrB] at huB
    rw [show useC s1 i.b (regZ m.b) at_ = (s2, none) from Prod.ext eB hrB, Jtng] at hspec
    refine Jtv [0] (x := .tup []) huB (by decide) (by rfl) (by rfl) (by rfl) (by rfl) (by rfl) (by rfl) ?_
    (simp (maxSteps := 1000000) [hA, hB, hD])
    exact hR _ _ (Fin_wk (.tup []) (.tup []) [ckB most s2] rfl (by simp only [ckB]; (exact wkA)) ⟨by rw [hspec]; rfl, by rw [hspec]⟩)
   ·rw [hrB] at huB
    rw [show useC s1 i.b (regZ m.b) at_ = (s2, some e) from Prod.ext eB hrB, Jtnh] at hspec
    refine Jtx [0] (x := failV p e) huB (by decide) (by rfl) (by rfl) (by rfl) (by rfl) (by rfl) (by rfl) ?_
    (simp (maxSteps := 1000000) [])
    exact hR _ _ (Jt3r _ (failV p e) [ckB most s2] (by simp only [ckB, failV]; (exact wkA)) ⟨by rw [hspec]; rfl, by rw [hspec]⟩)
  ·rw [hrA] at huA
   rw [show useC s i.a (regZ m.a) at_ = (s1, some e) from Prod.ext eA hrA, Jtnh] at hspec
   refine Jtx [0] (x := failV p e) huA (by decide) (by rfl) (by rfl) (by rfl) (by rfl) (by rfl) (by rfl) ?_
   (simp (maxSteps := 1000000) [])
   exact hR _ _ (Jt3r _ (failV p e) [ckB most s1] (by simp only [ckB, failV]; (exact wkA)) ⟨by rw [hspec]; rfl, by rw [hspec]⟩)
 ·(simp (maxSteps := 1000000) [hA, hB, hD])
  have eA : (useC s i.a (regZ m.a) at_).1 = s1 := by rw [hs1]; rfl
  have huA := (Jt5k A s most i.a m.a at_ (by omega) (by omega) q0)
  rw [eA] at huA
  rcases hrA : (useC s i.a (regZ m.a) at_).2 with _ | e
  ·rw [hrA] at huA
   rw [show useC s i.a (regZ m.a) at_ = (s1, none) from Prod.ext eA hrA, Jtng] at hspec
   refine Jtv [0] (x := .tup []) huA (by decide) (by rfl) (by rfl) (by rfl) (by rfl) (by rfl) (by rfl) ?_
   (simp (maxSteps := 1000000) [hA, hB, hD])
   have eB : (useC s1 i.b (regZ m.b) at_).1 = s2 := by rw [hs2]; rfl
   have huB := (Jt5k A s1 most i.b m.b at_ (by omega) (by omega) q1)
   rw [eB] at huB
   rcases hrB : (useC s1 i.b (regZ m.b) at_).2 with _ | e
   ·rw [hrB] at huB
    rw [show useC s1 i.b (regZ m.b) at_ = (s2, none) from Prod.ext eB hrB, Jtng] at hspec
    refine Jtv [0] (x := .tup []) huB (by decide) (by rfl) (by rfl) (by rfl) (by rfl) (by rfl) (by rfl) ?_
    (simp (maxSteps := 1000000) [hA, hB, hD])
    have hc := Jt5g A s2 most (by omega) (by omega)
    rw [← hs3] at hc hspec
    have hV := hd hD
    have ho : Over V L (defP s2.set i.d (regZ m.d)) := (r2).over.define hV.1 hV.2
    have hl := Nat.lt_of_le_of_lt ho.len h.few
    have hset : s3.set = s2.set := by rw [hs3]; rfl
    have hb := Jt5f A s3 most (defP s2.set i.d (regZ m.d)) at_ hl (by have := (g2).lg; omega)
    have hdf : Jt3o P p.transfer_Define [.d (pairsD s3.set), AI i.d, AI (regZ m.d)] [] fun o _ => o = .ret (.d (pairsD (defP s2.set i.d (regZ m.d)))) := by rw [hset]; exact Jtnq A S s2.set i.d (regZ m.d) (by omega) q2
    obtain ⟨dl, hdl⟩ : ∃ dl, dl = defP s2.set i.d (regZ m.d) := ⟨_, rfl⟩
    rw [← hdl] at hb hdf hspec
    obtain ⟨⟨s9, e9⟩, h9⟩ : ∃ r, r = Jt59 most s3 dl at_ := ⟨_, rfl⟩
    rw [← h9] at hb hspec
    refine Jtv [0] (x := .tup []) hc (by decide) (by rfl) (by rfl) (by rfl) (by rfl) (by rfl) (by rfl) ?_
    (simp (maxSteps := 1000000) [])
    (refine Jtt (Jte4 A m.d) (by rfl) (by rfl) ?_)
    (simp (maxSteps := 1000000) [])
    (refine Jtt hdf (by rfl) (by rfl) ?_)
    (simp (maxSteps := 1000000) [])
    cases e9 with
    | none =>
     refine Jtv [0] (x := .tup []) hb (by decide) (by rfl) (by rfl) (by rfl) (by rfl) (by rfl) (by rfl) ?_
     (simp (maxSteps := 1000000) [])
     exact hR _ _ (Fin_wk (.tup []) (.tup []) [ckB most s9] rfl (by simp only [ckB]; (exact wkA)) ⟨by rw [hspec]; rfl, by rw [hspec]⟩)
    | some e =>
     refine Jtx [0] (x := failV p e) hb (by decide) (by rfl) (by rfl) (by rfl) (by rfl) (by rfl) (by rfl) ?_
     (simp (maxSteps := 1000000) [])
     exact hR _ _ (Jt3r _ (failV p e) [ckB most s9] (by simp only [ckB, failV]; (exact wkA)) ⟨by rw [hspec]; rfl, by rw [hspec]⟩)
   ·rw [hrB] at huB
    rw [show useC s1 i.b (regZ m.b) at_ = (s2, some e) from Prod.ext eB hrB, Jtnh] at hspec
    refine Jtx [0] (x := failV p e) huB (by decide) (by rfl) (by rfl) (by rfl) (by rfl) (by rfl) (by rfl) ?_
    (simp (maxSteps := 1000000) [])
    exact hR _ _ (Jt3r _ (failV p e) [ckB most s2] (by simp only [ckB, failV]; (exact wkA)) ⟨by rw [hspec]; rfl, by rw [hspec]⟩)
  ·rw [hrA] at huA
   rw [show useC s i.a (regZ m.a) at_ = (s1, some e) from Prod.ext eA hrA, Jtnh] at hspec
   refine Jtx [0] (x := failV p e) huA (by decide) (by rfl) (by rfl) (by rfl) (by rfl) (by rfl) (by rfl) ?_
   (simp (maxSteps := 1000000) [])
   exact hR _ _ (Jt3r _ (failV p e) [ckB most s1] (by simp only [ckB, failV]; (exact wkA)) ⟨by rw [hspec]; rfl, by rw [hspec]⟩)
end
structure ARow where (cf ct mf mt : Nat) (src mach : Int)
def ARow.row (r : ARow) : List D := [I r.cf, I r.ct, I r.mf, I r.mt, I r.src, I r.mach]
def ARow.av (r : ARow) : AV := .agg [AI r.cf, AI r.ct, AI r.mf, AI r.mt, AI r.src, AI r.mach]
def copyC (most at_ : Int) : List Instr → CS → CR
 | [], s => (s, none)
 | i :: is, s => thenC (Jt59 most (costC s) (copyP s.set i.d i.a) at_) (copyC most at_ is)
def moveC (most : Int) : Nat → List Mach → CS → CR
 | _, [], s => (s, none)
 | k, m :: ms, s => thenC (Jt59 most (costC s) (moveP s.set m.dst m.src) k) (moveC most (k + 1) ms)
def lastC (most : Int) (b : List Instr) (m : List Mach) (r : ARow) (s : CS) : CR :=
 if 0 ≤ r.src then match b[r.src.toNat]?, m[r.mach.toNat]? with
  | some i, some x => instrC most s i x r.mach
  | _, _ => (s, none)
 else (s, none)
def rowC (most : Int) (b : List Instr) (m : List Mach) (r : ARow) (s : CS) : CR :=
 thenC (copyC most r.mf ((b.take r.ct).drop r.cf) s) fun s => thenC (moveC most r.mf ((m.take r.mt).drop r.mf) s) (lastC most b m r)
structure RowOk (b : List Instr) (m : List Mach) (r : ARow) : Prop where
 hc : r.cf ≤ r.ct ∧ r.ct ≤ b.length
 hm : r.mf ≤ r.mt ∧ r.mt ≤ m.length
 hs : 0 ≤ r.src → r.src < b.length ∧ 0 ≤ r.mach ∧ r.mach < m.length
structure VLOk (V L : List Int) (b : List Instr) (m : List Mach) : Prop where
 v : ∀ i ∈ b, i.d ∈ V
 l : ∀ x ∈ m, x.dst ∈ L ∧ regZ x.d ∈ L
theorem Room.copyStep {V L : List Int} {s : CS} {n : Nat} (h : Room V L s (n + 1)) {d a : Int} (hd : d ∈ V) (most at_ : Int) : Room V L (Jt59 most (costC s) (copyP s.set d a) at_).1 n := h.cost.become (h.over.copy hd) _ _
theorem Room.moveStep {V L : List Int} {s : CS} {n : Nat} (h : Room V L s (n + 1)) {d a : Int} (hd : d ∈ L) (most at_ : Int) : Room V L (Jt59 most (costC s) (moveP s.set d a) at_).1 n := h.cost.become (h.over.move hd) _ _
theorem Jt6y {V L : List Int} {most at_ : Int} : ∀ {l : List Instr} {s : CS} {n : Nat}, Room V L s (n + l.length) → (∀ i ∈ l, i.d ∈ V) → Room V L (copyC most at_ l s).1 n := by
 intro l
 induction l with
 | nil => intro s n h _; exact h
 | cons i l ih =>
  intro s n h hv
  have h1 := Room.copyStep (n := n + l.length) (by simpa [Nat.add_assoc] using h) (hv i (by simp)) most at_ (a := i.a)
  simp only [copyC]
  generalize Jt59 most (costC s) (copyP s.set i.d i.a) at_ = r at h1
  obtain ⟨s1, e⟩ := r
  cases e with
  | some e => rw [Jtnh]; exact h1.mono (by omega)
  | none => rw [Jtng]; exact ih h1 fun j hj => hv j (by simp [hj])
theorem Jtfv {V L : List Int} {most : Int} : ∀ {l : List Mach} {k : Nat} {s : CS} {n : Nat}, Room V L s (n + l.length) → (∀ x ∈ l, x.dst ∈ L) → Room V L (moveC most k l s).1 n := by
 intro l
 induction l with
 | nil => intro k s n h _; exact h
 | cons i l ih =>
  intro k s n h hv
  have h1 := Room.moveStep (n := n + l.length) (by simpa [Nat.add_assoc] using h) (hv i (by simp)) most k (a := i.src)
  simp only [moveC]
  generalize Jt59 most (costC s) (moveP s.set i.dst i.src) k = r at h1
  obtain ⟨s1, e⟩ := r
  cases e with
  | some e => rw [Jtnh]; exact h1.mono (by omega)
  | none => rw [Jtng]; exact ih h1 fun j hj => hv j (by simp [hj])
theorem Jtdi {V L : List Int} {most : Int} {b : List Instr} {m : List Mach} {r : ARow} {s : CS} {n : Nat} (h : Room V L s (n + 3)) (hv : VLOk V L b m) : Room V L (lastC most b m r s).1 n := by
 unfold lastC
 split
 ·split
  ·rename_i i x h1 h2
   exact Jtd5 h fun _ => ⟨hv.v i (List.mem_of_getElem? h1), (hv.l x (List.mem_of_getElem? h2)).2⟩
  ·exact h.mono (by omega)
 ·exact h.mono (by omega)
theorem Jtke {V L : List Int} {most : Int} {b : List Instr} {m : List Mach} {r : ARow} {s : CS} {n : Nat} (h : Room V L s (n + 3 + ((m.take r.mt).drop r.mf).length + ((b.take r.ct).drop r.cf).length)) (hv : VLOk V L b m) : Room V L (rowC most b m r s).1 n := by
 unfold rowC
 have h1 := Jt6y (most := most) (at_ := r.mf) h fun i hi => hv.v i (List.mem_of_mem_take (List.mem_of_mem_drop hi))
 generalize copyC most r.mf ((b.take r.ct).drop r.cf) s = q at h1
 obtain ⟨s1, e⟩ := q
 cases e with
 | some e => rw [Jtnh]; exact h1.mono (by omega)
 | none =>
  rw [Jtng]
  have h2 := Jtfv (most := most) (k := r.mf) h1 fun i hi => (hv.l i (List.mem_of_mem_take (List.mem_of_mem_drop hi))).1
  generalize moveC most r.mf ((m.take r.mt).drop r.mf) s1 = q at h2
  obtain ⟨s2, e⟩ := q
  cases e with
  | some e => rw [Jtnh]; exact h2.mono (by omega)
  | none => rw [Jtng]; exact Jtdi h2 hv
end Go.AE
