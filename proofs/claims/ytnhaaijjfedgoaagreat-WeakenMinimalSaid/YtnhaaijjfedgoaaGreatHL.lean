/- Weaker invariants: Minimize -/
import Derived.Test.YtnhaaijjfedgoaaGreatH5
import Derived.Test.YtnhaaijjfedgoaaGreatProg
import Derived.Test.YtnhaaijjfedgoaaGreatRows
set_option linter.unusedVariables false
set_option linter.unusedSimpArgs false
namespace Go.Proofs.YtnhaaijjfedgoaaGreat
open Go Go.AE Go.Proofs
set_option maxRecDepth 100000
noncomputable def nums:Nums:={Yf0:=127,Yf1:=70,Yf2:=58,Yf3:=125,Yf4:=197,Yf5:=118,Yf6:=258,Yf7:=254,Yf8:=171,Yf9:=11,Yfa:=52,Yfb:=44,Yfc:=12,Yfd:=235,Yfe:=237,Yff:=102,Yfg:=165,Yfh:=166,Yfi:=167,Yfj:=240,Yfk:=41,Yfl:=92,Yfm:=93,Yfn:=113,Yfo:=115,Yfp:=116,Yfq:=131,Yfr:=84,Yfs:=83,Yft:=85,Yfu:=255,Yfv:=256,Yfw:=257,Yfx:=141,Yfy:=175,Yfz:=135,Yf10:=132,Yf11:=78,Yf12:=181,Yf13:=57,Yf14:=15,Yf15:=42,Yf16:=48,Yf17:=81,Yf18:=98,Yf19:=59,Yf1a:=50,Yf1b:=43,Yf1c:=82,Yf1d:=91,Yf1e:=128,Yf1f:=139,Yf1g:=129,Yf1h:=130,Yf1i:=172,Yf1j:=173,Yf1k:=174,Yf1l:=189,Yf1m:=190,Yf1n:=32,Yf1o:=75,Yf1p:=33,Yf1q:=73,Yf1r:=74,Yf1s:=120,Yf1t:=121,Yf1u:=76,Yf1v:=77,Yf1w:=79,Yf1x:=155,Yf1y:=156,Yf1z:=157,Yf20:=158,Yf21:=122,Yf22:=123,Yf23:=124,Yf24:=126,Yf25:=187,Yf26:=188,Yf27:=159,Yf28:=160,Yf29:=161,Yf2a:=162,Yf2b:=163,Yf2c:=164,Yf2d:=168,Yf2e:=169,Yf2f:=170,Yf2g:=223,Yf2h:=224,Yf2i:=225,Yf2j:=192,Yf2k:=193,Yf2l:=194,Yf2m:=195,Yf2n:=196,Yf2o:=247,Yf2p:=248,Yf2q:=249,Yf2r:=250,Yf2s:=234,Yf2t:=236,Yf2u:=238,Yf2v:=239,Yf2w:=7,Yf2x:=21,Yf2y:=22,Yf2z:=23,Yf30:=25,Yf31:=26,Yf32:=27,Yf33:=28,Yf34:=34,Yf35:=60,Yf36:=61,Yf37:=62,Yf38:=63,Yf39:=64,Yf3a:=65,Yf3b:=99,Yf3c:=100,Yf3d:=101,Yf3e:=103,Yf3f:=104,Yf3g:=215}
theorem HasK (kills:List (List Nat)) {P:Program} {n k:Nat} {rs:List RV} {ic:IC} (hm:P.follows .mixedOrders=true) (ok:okFn P n=true:=by kernel_rfl) (h1:((P.funcs[n]?).bind fun fn=>fn.body.bind fun c=>comp P fn.ntmps kills c)=some ic:=by kernel_rfl) (h2:((P.funcs[n]?).bind fun fn=>cRes P fn.results.toList)=some rs:=by kernel_rfl) (h3:((P.funcs[n]?).map fun fn=>decide (k≤fn.ntmps))=some true:=by kernel_rfl):Has P n k rs ic:=.of kills hm ok h1 h2 h3
theorem follows:Tryz.prog.follows .mixedOrders=true:=by kernel_rfl
theorem all:All Tryz.prog nums where
 Yf0:=HasK [] follows
 Yf1:=HasK [] follows
 Yf2:=HasK [] follows
 Yf3:=HasK [] follows
 Yf4:=HasK [] follows
 Yf5:=HasK [] follows
 Yf6:=HasK [] follows
 Yf7:=HasK [] follows
 Yf8:=HasK [] follows
 Yf9:=HasK [] follows
 Yfa:=HasK [] follows
 Yfb:=HasK [] follows
 Yfc:=HasK [] follows
 Yfd:=HasK [] follows
 Yfe:=HasK [] follows
 Yff:=HasK [] follows
 Yfi:=HasK [] follows
 Yfj:=HasK [] follows
 Yfk:=HasK [] follows
 Yfl:=HasK [[],[0],[],[0],[],[0]] follows
 Yfm:=HasK [] follows
 Yfn:=HasK [] follows
 Yfo:=HasK [] follows
 Yfp:=HasK [] follows
 Yfq:=HasK [] follows
 Yfr:=HasK [] follows
 Yfs:=HasK [] follows
 Yft:=HasK [] follows
 Yfu:=HasK [[1],[1],[1],[1],[1],[1],[1],[1],[1]] follows
 Yfv:=HasK [] follows
 Yfw:=HasK [] follows
 Yfx:=HasK [] follows
 Yfy:=HasK [] follows
 Yfz:=HasK [] follows
 Yf11:=HasK [] follows
 Yf12:=HasK [] follows
 Yf13:=HasK [] follows
 Yf14:=HasK [] follows
 Yf15:=HasK [] follows
 Yf16:=HasK [] follows
 Yf17:=HasK [] follows
 Yf18:=HasK [] follows
 Yf19:=HasK [] follows
 Yf1a:=HasK [] follows
 Yf1b:=HasK [] follows
 Yf1c:=HasK [] follows
 Yf1d:=HasK [] follows
 Yf1e:=HasK [] follows
 Yf1f:=HasK [] follows
 Yf1g:=HasK [] follows
 Yf1h:=HasK [] follows
 Yf1i:=HasK [] follows
 Yf1j:=HasK [] follows
 Yf1k:=HasK [] follows
 Yf1l:=HasK [] follows
 Yf1m:=HasK [] follows
 Yf1n:=HasK [] follows
 Yf1o:=HasK [] follows
 Yf1p:=HasK [] follows
 Yf1q:=HasK [] follows
 Yf1r:=HasK [] follows
 Yf1s:=HasK [] follows
 Yf1t:=HasK [] follows
 Yf1u:=HasK [] follows
 Yf1v:=HasK [] follows
 Yf1w:=HasK [] follows
 Yf1x:=HasK [] follows
 Yf1y:=HasK [] follows
 Yf1z:=HasK [] follows
 Yf20:=HasK [] follows
 Yf21:=HasK [] follows
 Yf22:=HasK [] follows
 Yf23:=HasK [] follows
 Yf24:=.of [] [] follows (by kernel_rfl) (by kernel_rfl) (by kernel_rfl) (by kernel_rfl) (by kernel_rfl) (by kernel_rfl) (by kernel_rfl)
 Yf25:=HasK [] follows
 Yf26:=HasK [] follows
 Yf27:=HasK [] follows
 Yf28:=HasK [] follows
 Yf29:=HasK [] follows
 Yf2a:=HasK [] follows
 Yf2b:=HasK [] follows
 Yf2c:=HasK [] follows
 Yf2e:=HasK [] follows
 Yf2f:=HasK [] follows
 Yf2g:=HasK [] follows
 Yf2h:=HasK [] follows
 Yf2i:=HasK [] follows
 Yf2j:=HasK [] follows
 Yf2k:=HasK [] follows
 Yf2l:=HasK [] follows
 Yf2m:=HasK [] follows
 Yf2n:=HasK [] follows
 Yf2o:=HasK [] follows
 Yf2p:=HasK [] follows
 Yf2q:=HasK [] follows
 Yf2r:=HasK [] follows
 Yf2s:=HasK [] follows
 Yf2v:=HasK [] follows
 Yf2w:=HasK [] follows
 Yf2x:=HasK [] follows
 Yf2y:=HasK [] follows
 Yf2z:=HasK [[],[],[],[0,3]] follows
 Yf30:=HasK [] follows
 Yf31:=HasK [] follows
 Yf32:=HasK [[],[],[],[],[],[],[],[],[0,3]] follows
 Yf33:=HasK [] follows
 Yf34:=HasK [] follows
 Yf35:=HasK [[],[0,3],[0,3],[],[],[],[0,3],[],[],[],[],[0,3],[],[],[],[],[0,3]] follows
 Yf36:=HasK [] follows
 Yf37:=HasK [] follows
 Yf38:=HasK [] follows
 Yf39:=HasK [] follows
 Yf3a:=HasK [] follows
 Yf3b:=HasK [] follows
 Yf3c:=HasK [] follows
 Yf3d:=HasK [] follows
 Yf3e:=HasK [] follows
 Yf3f:=HasK [] follows
end Go.Proofs.YtnhaaijjfedgoaaGreat
namespace Go.AE
open Go Go.Proofs Go.Shelf Go.Sort Go.RowKit Go.Lib
def objP(x:Pair):Obj:=.cells #[.int .i64 x.v,.int .i64 x.l] 58
set_option maxHeartbeats 1000000 in
theorem Jtnj(x y:Pair)(W:World):Calls Tryz.prog 171 #[.agg #[.int .i64 x.v,.int .i64 x.l],.agg #[.int .i64 y.v,.int .i64 y.l]] W fun e w'=>e=.returned (.bool (lessP x y))∧w'=(W.alloc (.cells #[.int .i64 x.v,.int .i64 x.l] 58)).alloc (.cells #[.int .i64 y.v,.int .i64 y.l] 58):=by
 go_enter Tryz.func171,Tryz.ntmps171
 go_wp2<;>go_ret<;>refine ⟨?_,?_⟩
 all_goals first | (unfold lessP;congr 2;(repeat' split)<;>(first | (simp;omega) | (simp;done)|omega);done) | (first|rfl | (simp_all;done))
set_option maxHeartbeats 1000000 in
theorem Jtcj(x y:Pair)(W:World):Calls Tryz.prog 166 #[.agg #[.int .i64 x.v,.int .i64 x.l],.agg #[.int .i64 y.v,.int .i64 y.l]] W fun e w'=>e=.returned (.int .i64 (cfP x y))∧∃ q os',w'=grow (W.drewN q) os':=by
 unfold cfP
 have hl:∀ x1 x2 y1 y2 W,Calls Tryz.prog 171 #[.agg #[.int .i64 x1,.int .i64 x2],.agg #[.int .i64 y1,.int .i64 y2]] W fun e w'=>e=.returned (.bool (lessP ⟨x1,x2⟩ ⟨y1,y2⟩))∧w'=(W.alloc (.cells #[.int .i64 x1,.int .i64 x2] 58)).alloc (.cells #[.int .i64 y1,.int .i64 y2] 58):=fun x1 x2 y1 y2 W=>Jtnj ⟨x1,x2⟩ ⟨y1,y2⟩ W
 obtain ⟨x1,x2⟩:=x
 obtain ⟨y1,y2⟩:=y
 obtain ⟨f,hf⟩:∃ f:Int→Int→Int→Int→Bool,f=fun x1 x2 y1 y2=>lessP ⟨x1,x2⟩ ⟨y1,y2⟩:=⟨_,rfl⟩
 have hf':∀ x1 x2 y1 y2,lessP ⟨x1,x2⟩ ⟨y1,y2⟩=f x1 x2 y1 y2:=fun _ _ _ _=>by rw [hf]
 simp only [hf'] at hl ⊢
 clear hf hf'
 go_enter Tryz.func166,Tryz.ntmps166
 go_wp2_with (go_at_call 171;refine (hl _ _ _ _ _).mono ?_;rintro e w' ⟨rfl,rfl⟩)
 all_goals go_ret
 all_goals refine ⟨by simp,0,_,by simp only [alloc_eq_grow,grow_grow];rfl⟩
theorem Jtcd(blk off size:Nat)(w:World):CmpLays Tryz.prog 166 #[] encP 2 cfP blk off size w:=
 fun _ _ _ _ x y=>Jtcj x y _
def Jt1af:Go.Shelf.Ren:=⟨fun | 6=>165 | 15=>177 | 14=>191 | 28=>207 | 29=>208 | 20=>226 | 21=>227 | 22=>228 | 23=>229 | 24=>230 | 25=>231 | 26=>232 | 27=>233 | 46=>251 | 47=>242 | 48=>243 | 49=>252 | 50=>253 | 57=>260 | n=>n,fun | 22=>68 | 24=>58 | 25=>213 | 3=>3 | 39=>225 | 0=>0 | 53=>254 | 55=>256 | 4=>4 | 46=>247 | 45=>246 | 50=>251 | 5=>5 | 9=>9 | 66=>273 | 70=>277 | 76=>282 | 77=>283 | n=>n,fun | n=>n⟩
theorem Jt1ae:Go.Proofs.SlLaysF0.n6 Tryz.prog Jt1af:={
 mixed:=by kernel_rfl,
 f6:=⟨Tryz.f165.name,by decide,Tryz.func165.trans (congrArg some (by kernel_rfl))⟩,
 f14:=⟨Tryz.f191.name,by decide,Tryz.func191.trans (congrArg some (by kernel_rfl))⟩,
 f15:=Tryz.func177.trans (congrArg some (by kernel_rfl)),
 f20:=⟨Tryz.f226.name,by decide,Tryz.func226.trans (congrArg some (by kernel_rfl))⟩,
 f21:=⟨Tryz.f227.name,by decide,Tryz.func227.trans (congrArg some (by kernel_rfl))⟩,
 f22:=⟨Tryz.f228.name,by decide,Tryz.func228.trans (congrArg some (by kernel_rfl))⟩,
 f23:=⟨Tryz.f229.name,by decide,Tryz.func229.trans (congrArg some (by kernel_rfl))⟩,
 f24:=⟨Tryz.f230.name,by decide,Tryz.func230.trans (congrArg some (by kernel_rfl))⟩,
 f25:=⟨Tryz.f231.name,by decide,Tryz.func231.trans (congrArg some (by kernel_rfl))⟩,
 f26:=⟨Tryz.f232.name,by decide,Tryz.func232.trans (congrArg some (by kernel_rfl))⟩,
 f27:=⟨Tryz.f233.name,by decide,Tryz.func233.trans (congrArg some (by kernel_rfl))⟩,
 f28:=Tryz.func207.trans (congrArg some (by kernel_rfl)),
 f29:=Tryz.func208.trans (congrArg some (by kernel_rfl)),
 f46:=⟨Tryz.f251.name,by decide,Tryz.func251.trans (congrArg some (by kernel_rfl))⟩,
 f47:=Tryz.func242.trans (congrArg some (by kernel_rfl)),
 f48:=Tryz.func243.trans (congrArg some (by kernel_rfl)),
 f49:=⟨Tryz.f252.name,by decide,Tryz.func252.trans (congrArg some (by kernel_rfl))⟩,
 f50:=⟨Tryz.f253.name,by decide,Tryz.func253.trans (congrArg some (by kernel_rfl))⟩,
 f57:=⟨Tryz.f260.name,by decide,Tryz.func260.trans (congrArg some (by kernel_rfl))⟩,
 t0:=Tryz.underlying0,
 a0:=Tryz.isAgg0,
 z0:=Tryz.sizeOf0,
 v0:=Tryz.zeroValue0,
 t3:=Tryz.underlying3,
 a3:=Tryz.isAgg3,
 z3:=Tryz.sizeOf3,
 v3:=Tryz.zeroValue3,
 t4:=Tryz.underlying4,
 a4:=Tryz.isAgg4,
 z4:=Tryz.sizeOf4,
 v4:=Tryz.zeroValue4,
 t5:=Tryz.underlying5,
 a5:=Tryz.isAgg5,
 z5:=Tryz.sizeOf5,
 v5:=Tryz.zeroValue5,
 t9:=Tryz.underlying9,
 a9:=Tryz.isAgg9,
 z9:=Tryz.sizeOf9,
 v9:=Tryz.zeroValue9,
 t22:=Tryz.underlying68,
 a22:=Tryz.isAgg68,
 z22:=Tryz.sizeOf68,
 v22:=Tryz.zeroValue68,
 t25:=Tryz.underlying213,
 a25:=Tryz.isAgg213,
 z25:=Tryz.sizeOf213,
 v25:=Tryz.zeroValue213,
 t39:=Tryz.underlying225,
 a39:=Tryz.isAgg225,
 z39:=Tryz.sizeOf225,
 v39:=Tryz.zeroValue225,
 t45:=Tryz.underlying246,
 a45:=Tryz.isAgg246,
 z45:=Tryz.sizeOf246,
 v45:=Tryz.zeroValue246,
 t46:=Tryz.underlying247,
 a46:=Tryz.isAgg247,
 z46:=Tryz.sizeOf247,
 v46:=Tryz.zeroValue247,
 t50:=Tryz.underlying251,
 a50:=Tryz.isAgg251,
 z50:=Tryz.sizeOf251,
 v50:=Tryz.zeroValue251,
 t53:=Tryz.underlying254,
 a53:=Tryz.isAgg254,
 z53:=Tryz.sizeOf254,
 v53:=Tryz.zeroValue254,
 t55:=Tryz.underlying256,
 a55:=Tryz.isAgg256,
 z55:=Tryz.sizeOf256,
 v55:=Tryz.zeroValue256,
 t66:=Tryz.underlying273,
 a66:=Tryz.isAgg273,
 z66:=Tryz.sizeOf273,
 v66:=Tryz.zeroValue273,
 t70:=Tryz.underlying277,
 a70:=Tryz.isAgg277,
 z70:=Tryz.sizeOf277,
 v70:=Tryz.zeroValue277,
 t76:=Tryz.underlying282,
 a76:=Tryz.isAgg282,
 z76:=Tryz.sizeOf282,
 v76:=Tryz.zeroValue282,
 t77:=Tryz.underlying283,
 a77:=Tryz.isAgg283,
 z77:=Tryz.sizeOf283,
 v77:=Tryz.zeroValue283}
theorem Jtf0:∀ args w,(callFunc 166 args).run Tryz.prog w=.ok (.enter 166 args) w:=enters_of Tryz.func166 (by kernel_rfl) rfl
theorem sortOk(p:Nums)(h1:p.Yfg=165)(h2:p.Yfh=166):SortOk Tryz.prog p:=by
 refine ⟨?_,?_⟩
 ·rw [h1,h2]
  exact Jt1ag Jt1ae 166 _ (.inl rfl)
 ·intro l hl h0
  rw [h1,h2]
  exact Jt1ah Jt1ae Tryz.isAgg58 Tryz.sizeOf58 166 Jtf0 Jtcd l hl (by omega)
end Go.AE
namespace Go.AE
open Go Go.Proofs Go.Shelf Go.Sort Go.RowKit Go.Lib
theorem push2{α:Type}(l:Array α)(x y:α):((l.push x).push y)[l.size+1]?=some y:=by
 rw [show l.size+1=(l.push x).size by simp,Array.getElem?_push_size]
theorem Jt156{F φ w}{x:Pair}{v:Value}(h:Rel F φ w (AV.erase x.av) v):v=.agg #[.int .i64 x.v,.int .i64 x.l]:=by
 cases h with
 | agg xs vs hlen hr=>
  match vs,hlen with
  | [u0,u1],_=>
   have k0:=hr 0 _ u0 rfl rfl
   have k1:=hr 1 _ u1 rfl rfl
   cases k0 with
   | d _ _ h0=>cases h0;cases k1 with
    | d _ _ h1=>cases h1;rfl
theorem Jt158{F φ w}{b:Nat}{v:Value}(h:Rel F φ w (AV.erase (.ptr b 0)) v):∃ r,φ b=some r∧v=.pointer (some ⟨r,0,none⟩):=by
 cases h with
 | ptr _ _ r h=>exact ⟨r,h,rfl⟩
theorem Jt157{F φ w}(a b:Int)(c:Bool):Rel F φ w (AV.erase (.tup [(⟨a,b⟩:Pair).av,AB c])) (.tuple #[.agg #[.int .i64 a,.int .i64 b],.bool c]):=by
 refine .tup _ _ rfl fun j x u hx hu=>?_
 match j with
 | 0=>
  simp at hx hu;subst hx;subst hu
  refine .agg _ _ rfl fun j x u hx hu=>?_
  match j with
  | 0=>simp at hx hu;subst hx;subst hu;exact .d _ _ (.int _ _)
  | 1=>simp at hx hu;subst hx;subst hu;exact .d _ _ (.int _ _)
  | j+2=>simp at hx
 | 1=>simp at hx hu;subst hx;subst hu;exact .d _ _ (.bool _)
 | j+2=>simp at hx
theorem Jtag{N st g a w}(hs:Sim N st g a w){b r:Nat}{n:Int}(hb:st.H[b]?=some (.mem [AI n])) (hr:g.φ b=some r):w.cell? ⟨r,0,none⟩=some (.int .i64 n):=by
 obtain ⟨c,e,h1,h2,h3,h4⟩:=hs.block hb hr
 obtain ⟨_,u,hu,hrel⟩:=h3 0 _ rfl
 rw [h4,hu]
 cases hrel with
 | d _ _ h=>cases h;rfl
set_option maxHeartbeats 1000000 in
theorem Jtcp(x1 x2 d a:Int)(r0 r1:Nat)(W:World)(h0:W.cell? ⟨r0,0,none⟩=some (.int .i64 d)) (h1:W.cell? ⟨r1,0,none⟩=some (.int .i64 a)):Calls Tryz.prog 236 #[.agg #[.int .i64 x1,.int .i64 x2],.pointer (some ⟨r0,0,none⟩),.pointer (some ⟨r1,0,none⟩)] W fun e w'=>e=.returned (.tuple #[.agg #[.int .i64 d,.int .i64 x2],.bool (x1==a)])∧∃ q os',w'=grow (W.drewN q) os':=by
 have l0:=World.block_lt_of_cell? W ⟨r0,0,none⟩ h0
 have l1:=World.block_lt_of_cell? W ⟨r1,0,none⟩ h1
 go_enter Tryz.func236,Tryz.ntmps236
 go_wp2
 go_region
 go_wp2
 (try simp only [Exit.inBlock,Exit.then])
 refine bodyPost_ret (v:=.tuple #[.agg #[.int .i64 d,.int .i64 x2],.bool (x1==a)]) ?_ rfl ?_
 ·have e:(results Tryz.f236)=fun tmps=>(do let vs ←(#[ResultVar.cell 4 58,ResultVar.tmp 5]:Array ResultVar).mapM (rd tmps);pure (if h:vs.size=1 then vs[0] else .tuple vs)):=rfl
  rw [e]
  have l:=run_loadVar_row (P:=Tryz.prog) ((W.alloc (Obj.cells #[Value.int IntKind.i64 x1,Value.int IntKind.i64 x2] 58)).alloc (Obj.cells #[Value.int IntKind.i64 d,Value.int IntKind.i64 x2] 58)).drew (W.heap.size+1) 58 58 #[Value.int IntKind.i64 d,Value.int IntKind.i64 x2] (0,0) _ (push2 _ _ _) Tryz.underlying58 rfl (by kernel_rfl)
  simp [rd,asAddr,l]
 refine ⟨rfl,1,#[.cells #[Value.int IntKind.i64 x1,Value.int IntKind.i64 x2] 58,.cells #[Value.int IntKind.i64 d,Value.int IntKind.i64 x2] 58],?_⟩
 simp only [alloc_eq_grow,grow_grow];rfl
theorem Jtco(x:Pair)(d a:Int):Jt51 Tryz.prog 236 [x.av,.ptr 0 0,.ptr 1 0] [.mem [AI d],.mem [AI a]] fun o H'=>o=.ret (.tup [(⟨d,x.l⟩:Pair).av,AB (x.v==a)])∧H'=[.mem [AI d],.mem [AI a]]:=by
 refine Jtac (fun _ _ h=>by cases h) (fun _ _ _ h=>by cases h) (fun b cells j e rows hb hc=>?_) fun g vs w hsz hs=>?_
 ·match b with
  | 0=>simp at hb;subst hb;match j with
   | 0=>simp at hc
   | j+1=>simp at hc
  | 1=>simp at hb;subst hb;match j with
   | 0=>simp at hc
   | j+1=>simp at hc
  | b+2=>simp at hb
 ·obtain ⟨v0,v1,v2,rfl⟩:∃ a b c,vs=#[a,b,c]:=by
   obtain ⟨vs⟩:=vs
   match vs,hsz with
   | [a,b,c],_=>exact ⟨a,b,c,rfl⟩
  have e0:=hs.env 0 _ rfl
  have e1:=hs.env 1 _ rfl
  have e2:=hs.env 2 _ rfl
  obtain rfl:=Jt156 e0
  obtain ⟨r0,hr0,rfl⟩:=Jt158 e1
  obtain ⟨r1,hr1,rfl⟩:=Jt158 e2
  refine ⟨.tuple #[.agg #[.int .i64 d,.int .i64 x.l],.bool (x.v==a)],fun F φ w=>Jt157 _ _ _,Jtcp x.v x.l d a r0 r1 w (Jtag hs rfl hr0) (Jtag hs rfl hr1)⟩
set_option maxHeartbeats 1000000 in
theorem Jttp(x1 x2 d a:Int)(r0 r1:Nat)(W:World)(h0:W.cell? ⟨r0,0,none⟩=some (.int .i64 d)) (h1:W.cell? ⟨r1,0,none⟩=some (.int .i64 a)):Calls Tryz.prog 238 #[.agg #[.int .i64 x1,.int .i64 x2],.pointer (some ⟨r0,0,none⟩),.pointer (some ⟨r1,0,none⟩)] W fun e w'=>e=.returned (.tuple #[.agg #[.int .i64 x1,.int .i64 d],.bool (x2==a)])∧∃ q os',w'=grow (W.drewN q) os':=by
 have l0:=World.block_lt_of_cell? W ⟨r0,0,none⟩ h0
 have l1:=World.block_lt_of_cell? W ⟨r1,0,none⟩ h1
 go_enter Tryz.func238,Tryz.ntmps238
 go_wp2
 go_region
 go_wp2
 (try simp only [Exit.inBlock,Exit.then])
 refine bodyPost_ret (v:=.tuple #[.agg #[.int .i64 x1,.int .i64 d],.bool (x2==a)]) ?_ rfl ?_
 ·have e:(results Tryz.f238)=fun tmps=>(do let vs ←(#[ResultVar.cell 4 58,ResultVar.tmp 5]:Array ResultVar).mapM (rd tmps);pure (if h:vs.size=1 then vs[0] else .tuple vs)):=rfl
  rw [e]
  have l:=run_loadVar_row (P:=Tryz.prog) ((W.alloc (Obj.cells #[Value.int IntKind.i64 x1,Value.int IntKind.i64 x2] 58)).alloc (Obj.cells #[Value.int IntKind.i64 x1,Value.int IntKind.i64 d] 58)).drew (W.heap.size+1) 58 58 #[Value.int IntKind.i64 x1,Value.int IntKind.i64 d] (0,0) _ (push2 _ _ _) Tryz.underlying58 rfl (by kernel_rfl)
  simp [rd,asAddr,l]
 refine ⟨rfl,1,#[.cells #[Value.int IntKind.i64 x1,Value.int IntKind.i64 x2] 58,.cells #[Value.int IntKind.i64 x1,Value.int IntKind.i64 d] 58],?_⟩
 simp only [alloc_eq_grow,grow_grow];rfl
theorem Jtto(x:Pair)(d a:Int):Jt51 Tryz.prog 238 [x.av,.ptr 0 0,.ptr 1 0] [.mem [AI d],.mem [AI a]] fun o H'=>o=.ret (.tup [(⟨x.v,d⟩:Pair).av,AB (x.l==a)])∧H'=[.mem [AI d],.mem [AI a]]:=by
 refine Jtac (fun _ _ h=>by cases h) (fun _ _ _ h=>by cases h) (fun b cells j e rows hb hc=>?_) fun g vs w hsz hs=>?_
 ·match b with
  | 0=>simp at hb;subst hb;match j with
   | 0=>simp at hc
   | j+1=>simp at hc
  | 1=>simp at hb;subst hb;match j with
   | 0=>simp at hc
   | j+1=>simp at hc
  | b+2=>simp at hb
 ·obtain ⟨v0,v1,v2,rfl⟩:∃ a b c,vs=#[a,b,c]:=by
   obtain ⟨vs⟩:=vs
   match vs,hsz with
   | [a,b,c],_=>exact ⟨a,b,c,rfl⟩
  have e0:=hs.env 0 _ rfl
  have e1:=hs.env 1 _ rfl
  have e2:=hs.env 2 _ rfl
  obtain rfl:=Jt156 e0
  obtain ⟨r0,hr0,rfl⟩:=Jt158 e1
  obtain ⟨r1,hr1,rfl⟩:=Jt158 e2
  refine ⟨.tuple #[.agg #[.int .i64 x.v,.int .i64 d],.bool (x.l==a)],fun F φ w=>Jt157 _ _ _,Jttp x.v x.l d a r0 r1 w (Jtag hs rfl hr0) (Jtag hs rfl hr1)⟩
theorem clos(p:Nums)(h1:p.Yf2t=236)(h2:p.Yf2u=238):ClosOk Tryz.prog p:=by
 refine ⟨?_,?_,?_,?_⟩
 ·rw [h1];kernel_rfl
 ·rw [h2];kernel_rfl
 ·rw [h1];exact Jtco
 ·rw [h2];exact Jtto
end Go.AE
namespace Go.AE
open Go Go.Proofs Go.Shelf Go.Sort Go.RowKit Go.Lib
def Jt1aa:Go.Shelf.Ren:=⟨fun | 189=>132 | 125=>177 | 257=>176 | 128=>207 | 129=>208 | 294=>198 | 295=>199 | 296=>200 | 297=>201 | 298=>202 | 299=>203 | 216=>204 | 300=>205 | 301=>206 | 328=>241 | 329=>242 | 330=>243 | 331=>244 | 332=>245 | 215=>246 | 343=>259 | n=>n,fun | 28=>83 | 3=>3 | 46=>225 | 0=>0 | 51=>254 | 53=>256 | 4=>4 | 183=>247 | 182=>246 | 131=>251 | 5=>5 | 9=>9 | 218=>273 | 222=>277 | 228=>282 | 229=>283 | n=>n,fun | n=>n⟩
theorem Jt1a9:Go.Proofs.Lays.n189 Tryz.prog Jt1aa:={
 mixed:=by kernel_rfl,
 f125:=Tryz.func177.trans (congrArg some (by kernel_rfl)),
 f128:=Tryz.func207.trans (congrArg some (by kernel_rfl)),
 f129:=Tryz.func208.trans (congrArg some (by kernel_rfl)),
 f189:=Tryz.func132.trans (congrArg some (by kernel_rfl)),
 f215:=Tryz.func246.trans (congrArg some (by kernel_rfl)),
 f216:=Tryz.func204.trans (congrArg some (by kernel_rfl)),
 f257:=Tryz.func176.trans (congrArg some (by kernel_rfl)),
 f294:=Tryz.func198.trans (congrArg some (by kernel_rfl)),
 f295:=Tryz.func199.trans (congrArg some (by kernel_rfl)),
 f296:=Tryz.func200.trans (congrArg some (by kernel_rfl)),
 f297:=Tryz.func201.trans (congrArg some (by kernel_rfl)),
 f298:=Tryz.func202.trans (congrArg some (by kernel_rfl)),
 f299:=Tryz.func203.trans (congrArg some (by kernel_rfl)),
 f300:=Tryz.func205.trans (congrArg some (by kernel_rfl)),
 f301:=Tryz.func206.trans (congrArg some (by kernel_rfl)),
 f328:=Tryz.func241.trans (congrArg some (by kernel_rfl)),
 f329:=Tryz.func242.trans (congrArg some (by kernel_rfl)),
 f330:=Tryz.func243.trans (congrArg some (by kernel_rfl)),
 f331:=Tryz.func244.trans (congrArg some (by kernel_rfl)),
 f332:=Tryz.func245.trans (congrArg some (by kernel_rfl)),
 f343:=Tryz.func259.trans (congrArg some (by kernel_rfl)),
 t0:=Tryz.underlying0,
 a0:=Tryz.isAgg0,
 z0:=Tryz.sizeOf0,
 v0:=Tryz.zeroValue0,
 t3:=Tryz.underlying3,
 a3:=Tryz.isAgg3,
 z3:=Tryz.sizeOf3,
 v3:=Tryz.zeroValue3,
 t4:=Tryz.underlying4,
 a4:=Tryz.isAgg4,
 z4:=Tryz.sizeOf4,
 v4:=Tryz.zeroValue4,
 t5:=Tryz.underlying5,
 a5:=Tryz.isAgg5,
 z5:=Tryz.sizeOf5,
 v5:=Tryz.zeroValue5,
 t9:=Tryz.underlying9,
 a9:=Tryz.isAgg9,
 z9:=Tryz.sizeOf9,
 v9:=Tryz.zeroValue9,
 t28:=Tryz.underlying83,
 a28:=Tryz.isAgg83,
 z28:=Tryz.sizeOf83,
 v28:=Tryz.zeroValue83,
 t46:=Tryz.underlying225,
 a46:=Tryz.isAgg225,
 z46:=Tryz.sizeOf225,
 v46:=Tryz.zeroValue225,
 t51:=Tryz.underlying254,
 a51:=Tryz.isAgg254,
 z51:=Tryz.sizeOf254,
 v51:=Tryz.zeroValue254,
 t53:=Tryz.underlying256,
 a53:=Tryz.isAgg256,
 z53:=Tryz.sizeOf256,
 v53:=Tryz.zeroValue256,
 t131:=Tryz.underlying251,
 a131:=Tryz.isAgg251,
 z131:=Tryz.sizeOf251,
 v131:=Tryz.zeroValue251,
 t182:=Tryz.underlying246,
 a182:=Tryz.isAgg246,
 z182:=Tryz.sizeOf246,
 v182:=Tryz.zeroValue246,
 t183:=Tryz.underlying247,
 a183:=Tryz.isAgg247,
 z183:=Tryz.sizeOf247,
 v183:=Tryz.zeroValue247,
 t218:=Tryz.underlying273,
 a218:=Tryz.isAgg273,
 z218:=Tryz.sizeOf273,
 v218:=Tryz.zeroValue273,
 t222:=Tryz.underlying277,
 a222:=Tryz.isAgg277,
 z222:=Tryz.sizeOf277,
 v222:=Tryz.zeroValue277,
 t228:=Tryz.underlying282,
 a228:=Tryz.isAgg282,
 z228:=Tryz.sizeOf282,
 v228:=Tryz.zeroValue282,
 t229:=Tryz.underlying283,
 a229:=Tryz.isAgg283,
 z229:=Tryz.sizeOf283,
 v229:=Tryz.zeroValue283}
theorem siok(p:Nums)(h:p.Yf10=132):SortIOk Tryz.prog p:=SortIOk.of Jt1a9 p h
end Go.AE
namespace Go.Proofs.YtnhaaijjfedgoaaGreat
open Go Go.AE Go.ChangeShapes Go.WideShapes Go.ChangeAt Go.RowKit
theorem own:ownKnob Tryz.prog.godebug=none:=by kernel_rfl
theorem Jtma:laidOutB Tryz.prog=true:=by kernel_rfl
theorem flat33:flatT Tryz.prog 8 33=some ltCert:=by kernel_rfl
theorem flat5:flatT Tryz.prog 8 5=some [.int .u8]:=by kernel_rfl
theorem sok:SortOk Tryz.prog nums:=sortOk nums rfl rfl
theorem cok:ClosOk Tryz.prog nums:=clos nums rfl rfl
theorem sio:SortIOk Tryz.prog nums:=siok nums rfl
set_option maxRecDepth 100000 in
theorem lifted(os:Os)(started:os.Started)(H:Type)(enc:TypeId × Value→H):
  ReturnsInHanded {} Tryz.checked os 7 .any (Rows.weakenMinimalSpec.pre6 enc Tryz.prog Tryz.f7 Rows.weakenMinimalRow.domain false) (Rows.weakenMinimalSpec.post enc Tryz.prog Tryz.f7 false true false false):=by
 refine returnsInHanded_of_change (C:=Tryz.checked) own started (by kernel_rfl) Tryz.func7
  (ChangeSpec.witness6 (enc:=enc) (C:=Tryz.checked) false ⟨#[],#[.agg #[.int .i64 0,.int .i64 0,.slice none 0 0,.int .i64 0,.int .i64 0,.int .i64 0,.slice none 0 0,.slice none 0 0],.int .u8 0,.int .u8 0],[]⟩ 8 (by kernel_rfl) (by kernel_rfl) (by kernel_rfl) (by kernel_rfl)) ?_
 intro W base args ds gs before hval0 hW hcnd _
 have hval:∀ (j:Nat) t v,Tryz.f7.params[j]?=some t→args[j]?=some v→Value.okWide Tryz.prog W .any base t v:=hval0
 have hW':=hW
 obtain ⟨p,q,hA0,hV,rfl,hfz,hnd⟩:=hW
 have hA:DataW.TrodAll enc Tryz.prog W 0 (fun _=>true) true Tryz.f7.params.toList args.toList ds p:=hA0
 rw [Tryz.params7] at hA hval
 obtain ⟨v0,vs0,d0,ds0,p0,q0,e0a,e0b,rfl,h0,r0⟩:=trodAll_cons hA
 obtain ⟨v1,vs1,d1,ds1,p1,q1,e1a,e1b,rfl,h1,r1⟩:=trodAll_cons r0
 obtain ⟨v2,vs2,d2,ds2,p2,q2,e2a,e2b,rfl,h2,r2⟩:=trodAll_cons r1
 obtain ⟨e3a,e3b,rfl⟩:=trodAll_nil r2
 subst e3a e3b
 subst e2a e2b
 subst e1a e1b
 obtain rfl:args=#[v0,v1,v2]:=by cases args;simp_all
 subst e0b
 obtain ⟨rfl,rfl⟩:=trodVars_none hV
 have hv0:=hval 0 33 v0 rfl rfl
 have k0:=h0
 obtain ⟨n0,hn0⟩:=h0
 obtain ⟨cs0,rfl⟩:=Jt1dv Tryz.underlying33 hv0
 obtain ⟨es0,hes0,hrel0⟩:=Jt154 (cs:=cs0) (reads (w:=W) n0 8 33 _ _ _ hn0 flat33)
 obtain ⟨x0,hx0,hk0⟩:=Jtat hes0
 rw [hx0] at hrel0
 have hv1:=hval 1 5 v1 rfl rfl
 have k1:=h1
 obtain ⟨n1,hn1⟩:=h1
 obtain ⟨a1,rfl⟩:=okWide_int Tryz.underlying5 hv1
 obtain ⟨es1,hes1,hrel1⟩:=Jt155 (reads (w:=W) n1 8 5 _ _ _ hn1 flat5)
 obtain ⟨x1,hx1,hb1⟩:=u8_of hes1
 rw [hx1] at hrel1
 have hv2:=hval 2 5 v2 rfl rfl
 have k2:=h2
 obtain ⟨n2,hn2⟩:=h2
 obtain ⟨a2,rfl⟩:=okWide_int Tryz.underlying5 hv2
 obtain ⟨es2,hes2,hrel2⟩:=Jt155 (reads (w:=W) n2 8 5 _ _ _ hn2 flat5)
 obtain ⟨x2,hx2,hb2⟩:=u8_of hes2
 rw [hx2] at hrel2
 have lt0:∀ x∈p0,x.block<W.heap.size:=fun x hx=>DataW.trod_lt n0 _ _ _ hn0 x hx
 have lt1:∀ x∈p1,x.block<W.heap.size:=fun x hx=>DataW.trod_lt n1 _ _ _ hn1 x hx
 have lt2:∀ x∈p2,x.block<W.heap.size:=fun x hx=>DataW.trod_lt n2 _ _ _ hn2 x hx
 refine ((Jtmm all sok cok sio x0 x1 x2 hk0.1 hk0.2 hb1 hb2).law (w:=W) (vs:=#[.agg cs0,.int .u8 a1,.int .u8 a2]) rfl (by simp [AV.plain,Pair.av,Cert.av,AU]) ?_).mono fun e W' ⟨he,bel⟩=>?_
 ·intro j x v hx hv
  cases j with
  | zero=>simp at hx hv;subst hx;subst hv;exact hrel0
  | succ j=>
   cases j with
   | zero=>simp at hx hv;subst hx;subst hv;exact hrel1
   | succ j=>
    cases j with
    | zero=>simp at hx hv;subst hx;subst hv;exact hrel2
    | succ j=>
     simp at hx
 subst he
 exact ⟨_,rfl,_,_,_,[],_,[],hW',trodAll_mk1 (shut_bool Tryz.underlying4 _),(Jt1fc (Below.trod Jtma (by kernel_rfl) (of_decide_eq_true (by kernel_rfl)) k0 bel lt0) (Jt1fc (Below.trod Jtma (by kernel_rfl) (of_decide_eq_true (by kernel_rfl)) k1 bel lt1) (Jt1fc (Below.trod Jtma (by kernel_rfl) (of_decide_eq_true (by kernel_rfl)) k2 bel lt2) trodAll_mk0))),rfl,bel.frame _,fun h=>by cases h⟩
theorem weakenMinimal_holds:Rows.WeakenMinimalSaid:=
 OpenClaim.holds_of_wide 7 Tryz.f7 rfl rfl rfl rfl rfl rfl rfl ⟨rfl,rfl,rfl,rfl,rfl⟩ rfl rfl rfl rfl rfl (by kernel_rfl) Tryz.func7 (by kernel_rfl)
  (of_decide_eq_true (by kernel_rfl)) (by unfold Func.isWrapper;first | (rw [if_pos (by decide +kernel)];kernel_rfl) | (rw [if_neg (by decide +kernel)];exact ⟨rfl,rfl⟩))
  (fun os started H enc _=>lifted os started H enc)
#print axioms weakenMinimal_holds
end Go.Proofs.YtnhaaijjfedgoaaGreat
