/- A part of the proof. -/
import Derived.Test.YtnhaaijjfedgoaaGreatH3
import Derived.Shelf.Sort.Plain
import Derived.Sort.OwnSortedInts
set_option linter.unusedVariables false
set_option linter.unusedSimpArgs false
namespace Go.AE
open Go
def spInv(n:Nat):List Pair:=(List.range n).map fun (v:Nat)=>⟨(v:Int),slotZ v⟩
section
variable {P:Program} {p:Nums}
end
def mcodeN(bs:List MBlock):Nat:=(bs.map fun b=>b.code.length).sum
theorem Jtsi{bs:List MBlock}{k:Nat}{b:MBlock}(h:bs[k]?=some b):mcodeN (bs.take (k+1))=mcodeN (bs.take k)+b.code.length:=by
 rw [mcodeN,List.take_add_one,h];simp [mcodeN]
theorem Jtse(a b:List MBlock):mcodeN (a++b)=mcodeN a+mcodeN b:=by simp [mcodeN]
theorem Jtsg(bs:List MBlock)(k:Nat):mcodeN (bs.take k)≤mcodeN bs:=by
 have h:=Jtse (bs.take k) (bs.drop k)
 rw [List.take_append_drop] at h;omega
def mostN(l:List Nat):Nat:=l.foldl max 0
theorem Jttk{l:List Nat}{k x:Nat}(h:l[k]?=some x):mostN (l.take (k+1))=max (mostN (l.take k)) x:=by
 rw [mostN,List.take_add_one,h];simp [mostN]
def Jtas:Cert:=⟨⟨0,0,[]⟩,⟨0,0,0,[]⟩,[]⟩
def prodZ(f:Func):Int:=IntKind.i64.wrap (f.blocks.length*f.regs)
theorem Jtg0{es:List Int}(h:Jtfy es=0):∀ e∈es,e=0:=by
 induction es with
 | nil=>intro e he;simp at he
 | cons e es ih=>
  simp only [Jtfy] at h
  intro x hx
  split at h
  ·exact absurd h ‹_›
  ·rcases List.mem_cons.1 hx with rfl | hx
   ·simp_all
   ·exact ih h x hx
theorem Jt1e6{α:Type}{l:List α}{k:Nat}{x:α}(h:l[k]?=some x):l.take (k+1)=l.take k++[x]:=by rw [List.take_add_one,h];rfl
section
variable {P:Program} {p:Nums}
theorem Jt18n(A:All P p)(l:List Instr)(h0:l.length≤1000000000):Jt51 P p.Yf16 [.d (.sl (l.map Instr.row))] [] fun o _=>o=.ret (.d (.sl (l.map Instr.row))):=by
 refine A.Yf16.run rfl fun R hR=>?_
 (simp (maxSteps:=9^6)[Jtk8])
 refine Jt29 (by rfl) (fun hn=>?_) ?_
 ·have hl:l=[]:=by simpa using hn
  subst hl
  (simp (maxSteps:=9^6)[])
  exact hR _ _ (Jt59 _ _ rfl (by (exact wkvA)) rfl)
 ·(simp (maxSteps:=9^6)[])
  refine Jt1n (by rfl) (by rfl) (Jt16t fun _=>rfl) (by decide) (by simp;omega) (by simp;omega) (fun hn=>?_) fun hn=>?_
  ·have hl:l=[]:=by simpa using hn
   subst hl
   (simp (maxSteps:=9^6)[])
   exact hR _ _ (Jt59 _ _ rfl (by (exact wkvA)) rfl)
  ·(simp (maxSteps:=9^6)[])
   exact hR _ _ (Jt59 _ _ rfl (by (exact wkvA)) rfl)
end
def lead:List Mach→Nat
 | []=>0
 | m::l=>if (m.op==18)=true then lead l+1 else 0
def Jt14x(l:List Mach):Nat:=mostN ((List.range l.length).map fun i=>lead (l.drop i))
theorem Jtn9(l:List Mach):lead l≤l.length:=by
 induction l with
 | nil=>simp [lead]
 | cons m l ih=>simp only [lead,List.length_cons];split<;>omega
theorem Jtn8{l:List Mach}{i:Nat}{m:Mach}(h:l[i]?=some m):lead (l.drop i)=if (m.op==18)=true then lead (l.drop (i+1))+1 else 0:=by
 have hlt:=(lgS.1 h).1
 rw [List.drop_eq_getElem_cons hlt,(lgS.1 h).2];rfl
def mxAt(l:List Mach)(k:Nat):Nat:=mostN ((List.range k).map fun i=>lead (l.drop i))
theorem Jttw(l:List Mach)(k:Nat):mxAt l (k+1)=max (mxAt l k) (lead (l.drop k)):=by
 simp [mxAt,mostN,List.range_succ]
section
variable {P:Program} {p:Nums}
theorem Jt117(A:All P p)(f:MFunc)(h0:f.blocks.length<1000000000)(h1:mcodeN f.blocks<1000000000):Jt51 P p.Yf19 [f.av] [] fun o _=>o=.ret (AI (mcodeN f.blocks)):=by
 refine A.Yf19.run rfl fun R hR=>?_
 (simp (maxSteps:=9^6)[Jtjt,MFunc.av])
 refine Jtf (fun k:Nat=>⟨[(4,AI k),(1,.ptr 0 0),(3,AI (mcodeN (f.blocks.take k)))],[.mem [AI f.args,AI f.regs,AI f.slots,.d (.sl (f.blocks.map MBlock.row))]]⟩) (fun k=>k≤f.blocks.length) (fun k=>f.blocks.length-k) 0 (by simp) (by (exact wkA)) ?_
 intro k hk N hN
 (simp (maxSteps:=9^6)[])
 ((first|refine Xc ?_ ?_|refine Xo ?_ ?_)<;>intro h2<;>try simp only [Xz,Xy] at h2)
 ·have hkl:k<f.blocks.length:=by simpa using h2
  have hb:f.blocks[k]?=some f.blocks[k]:=by simp [hkl]
  have hw:=Jt1le (k:=k) (by omega)
  have hs:=Jtsi hb
  have hle:=Jtsg f.blocks (k+1)
  have hw2:=Jt1ld (a:=mcodeN (f.blocks.take k)) (b:=f.blocks[k].code.length) (by omega)
  rw [←hs] at hw2
  (simp (maxSteps:=9^6)[h2,lgM,hb,MBlock.row,hw,hw2])
  exact hN _ (k+1) hkl (by (exact wkA)) (by omega)
 ·have hk':k=f.blocks.length:=by simp at h2;omega
  subst hk'
  (simp (maxSteps:=9^6)[])
  (first|exact hR _ _ FrA|exact hR _ _ FnA|exact hR _ _ (Xf (hq:=by simp [AV.erase,AV.unview,List.take_length];done)))
theorem Jt11r(A:All P p)(l:List Mach)(h0:l.length<1000000000):Jt51 P p.Yf18 [.d (.sl (l.map Mach.row))] [] fun o _=>o=.ret (AI (Jt14x l)):=by
 refine A.Yf18.run rfl fun R hR=>?_
 (simp (maxSteps:=9^6)[Jtjv])
 refine Jtf (fun k:Nat=>⟨[(4,AI k),(3,AI (mxAt l k)),(2,AI 0),(0,.d (.sl (l.map Mach.row)))],[]⟩) (fun k=>k≤l.length) (fun k=>l.length-k) 0 (by simp) (by (exact wkA)) ?_
 intro k hk N hN
 (simp (maxSteps:=9^6)[])
 ((first|refine Xc ?_ ?_|refine Xo ?_ ?_)<;>intro h2<;>try simp only [Xz,Xy] at h2)
 ·have hkl:k<l.length:=by simpa using h2
  have hw:=Jt1le (k:=k) (by omega)
  (simp (maxSteps:=9^6)[h2])
  refine Jtf (fun n:Nat=>⟨[(5,AI n),(4,AI k),(3,AI (mxAt l k)),(2,AI 0),(0,.d (.sl (l.map Mach.row)))],[]⟩)
   (fun n=>k+n≤l.length∧lead (l.drop k)=n+lead (l.drop (k+n))) (fun n=>l.length-n) 0 (by simp;omega) (by (exact wkA)) ?_
  rintro n ⟨hn,hld⟩ N' hN'
  have hw2:=Jt1ld (a:=k) (b:=n) (by omega)
  have hw3:=Jt1le (k:=n) (by omega)
  have hms:=Jttw l k
  (simp (maxSteps:=9^6)[hw2])
  have hnn:(0:Int)≤(k:Int)+n:=by omega
  have htn:((k:Int)+n).toNat=k+n:=by omega
  ((first|refine Xc ?_ ?_|refine Xo ?_ ?_)<;>intro h3<;>try simp only [Xz,Xy] at h3)
  ·have hkn:k+n<l.length:=by omega
   have hb:l[k+n]?=some l[k+n]:=by simp [hkn]
   have hla:=Jtn8 hb
   (simp (maxSteps:=9^6)[h3,hw2,hnn,htn,hb,Mach.row,hkn])
   ((first|refine Xc ?_ ?_|refine Xo ?_ ?_)<;>intro h4<;>try simp only [Xz,Xy] at h4)
   ·(simp (maxSteps:=9^6)[h4,hw3])
    rw [if_pos (by simp [h4])] at hla
    exact hN' _ (n+1) ⟨hkn,by rw [hld,hla,Nat.add_assoc];omega⟩ (by (exact wkA)) (by omega)
   ·(simp (maxSteps:=9^6)[h4])
    rw [if_neg (by simp [h4])] at hla
    ((first|refine Xc ?_ ?_|refine Xo ?_ ?_)<;>intro h5<;>try simp only [Xz,Xy] at h5)
    ·(simp (maxSteps:=9^6)[h5,hw])
     exact hN _ (k+1) hkl (by rw [hms,hld,hla,show max (mxAt l k) (n+0)=n by omega];(exact wkA)) (by omega)
    ·(simp (maxSteps:=9^6)[h5,hw])
     exact hN _ (k+1) hkl (by rw [hms,hld,hla,show max (mxAt l k) (n+0)=mxAt l k by omega];(exact wkA)) (by omega)
  ·have hla:lead (l.drop (k+n))=0:=by rw [List.drop_of_length_le (by omega)];rfl
   (simp (maxSteps:=9^6)[h3])
   ((first|refine Xc ?_ ?_|refine Xo ?_ ?_)<;>intro h5<;>try simp only [Xz,Xy] at h5)
   ·(simp (maxSteps:=9^6)[h5,hw])
    exact hN _ (k+1) hkl (by rw [hms,hld,hla,show max (mxAt l k) (n+0)=n by omega];(exact wkA)) (by omega)
   ·(simp (maxSteps:=9^6)[h5,hw])
    exact hN _ (k+1) hkl (by rw [hms,hld,hla,show max (mxAt l k) (n+0)=mxAt l k by omega];(exact wkA)) (by omega)
 ·have hk':k=l.length:=by simp at h2;omega
  subst hk'
  (simp (maxSteps:=9^6)[])
  (first|exact hR _ _ FrA|exact hR _ _ FnA|exact hR _ _ (Xf (hq:=by simp [AV.erase,AV.unview,Jt14x,mxAt];done)))
end
def Jt165(i:Instr):List Mach:=
 if (i.op==2)=true then [mvM 0 (slotZ i.a),mvM (slotZ i.d) 0] else
 (if usesA i.op=true then [mvM 0 (slotZ i.a)] else [])++((if usesB i.op=true then [mvM 2 (slotZ i.b),opM i 1] else [opM i 0])++(if usesD i.op=true then [mvM (slotZ i.d) 0] else []))
def rfCode(l:List Instr):List Mach:=l.flatMap Jt165
def Jt161(b:Block):MBlock:=⟨rfCode b.code++(if (b.term.kind != 1)=true then [mvM 0 (slotZ b.term.a)] else []),{ b.term with a:=0}⟩
theorem Jt166(i:Instr):(Jt165 i).length≤4:=by
 unfold Jt165
 split
 ·simp
 ·split<;>split<;>split<;>simp
theorem Jt164(l:List Instr):(rfCode l).length≤4*l.length:=by
 induction l with
 | nil=>simp [rfCode]
 | cons i l ih=>
  have:=Jt166 i
  simp only [rfCode,List.flatMap_cons,List.length_append,List.length_cons] at *
  omega
theorem Jt162(b:Block):(Jt161 b).code.length≤4*b.code.length+1:=by
 have:=Jt164 b.code
 simp only [Jt161,List.length_append]
 split<;>simp<;>omega
section
variable {P:Program} {p:Nums}
theorem Jtze(A:All P p)(f:Func)(h0:f.blocks.length≤1000000)(h1:codeN f.blocks≤1000000):Jt51 P p.Yfc [f.av] [] fun o _=>o=.ret f.av:=by
 refine A.Yfc.run rfl fun R hR=>?_
 (simp (maxSteps:=9^6)[Jtjn,Func.av])
 obtain ⟨sR,hsR⟩:∃ x,x=f.blocks.map Block.row:=⟨_,rfl⟩
 rw [←hsR]
 refine Jtf (fun k:Nat=>⟨[(4,AI k),(1,.ptr 0 0),(2,.ptr 1 0),(3,.ptr 2 0)],[.mem [AI f.args,AI f.regs,.d (.sl sR)],.mem [AI 0,AI 0,.nils],.mem [AI f.args,AI f.regs,.own 5 (sR.take k)]]⟩)
  (fun k=>k≤f.blocks.length) (fun k=>f.blocks.length-k) 0 (by simp) (by (exact wkA)) ?_
 have hsl:sR.length=f.blocks.length:=by rw [hsR];simp
 intro k hk N hN
 (simp (maxSteps:=9^6)[])
 ((first|refine Xc ?_ ?_|refine Xo ?_ ?_)<;>intro h2<;>try simp only [Xz,Xy] at h2)
 ·have hkl:k<f.blocks.length:=by omega
  have hb:f.blocks[k]?=some f.blocks[k]:=by simp [hkl]
  have hsk:sR[k]?=some f.blocks[k].row:=by rw [hsR,lgM,hb];rfl
  have hw:=Jt1le (k:=k) (by omega)
  have hcl:f.blocks[k].code.length≤1000000:=by
   have h3:=Jtch hb
   have h4:=Jtcg f.blocks (k+1)
   omega
  have hl1:=List.length_take_le k sR
  have ess:sR.take k++[f.blocks[k].row]=sR.take (k+1):=(Jt1e6 hsk).symm
  simp only [Block.row] at hsk ess
  have hsk':sR[k]'h2=[.sl (f.blocks[k].code.map Instr.row),I f.blocks[k].term.kind,I f.blocks[k].term.a,I f.blocks[k].term.to,I f.blocks[k].term.els]:=(lgS.1 hsk).2
  (simp (maxSteps:=9^6)[h2,hsk'])
  refine Jt1n (by rfl) (by rfl) (Jt16t fun _=>rfl) (by decide) (by simp;omega) (by simp;omega) (fun hn=>?_) fun hn=>?_
  ·have hl:f.blocks[k].code=[]:=by simpa using hn
   (simp (maxSteps:=9^6)[h2,hsk'])
   (refine Jt1o (by rfl) (by rfl) (by rfl) ?_ (by decide) ?_ ?_ ?_)
   ·simp
   ·simp;omega
   ·simp;omega
   rw [hl,List.map_nil] at ess
   (simp (maxSteps:=9^6)[ess,hw])
   exact hN _ (k+1) hkl (by (exact wkA)) (by omega)
  ·(simp (maxSteps:=9^6)[h2,hsk'])
   (refine Jt1o (by rfl) (by rfl) (by rfl) ?_ (by decide) ?_ ?_ ?_)
   ·simp
   ·simp;omega
   ·simp;omega
   (simp (maxSteps:=9^6)[ess,hw])
   exact hN _ (k+1) hkl (by (exact wkA)) (by omega)
 ·have hk':k=f.blocks.length:=by omega
  subst hk'
  rw [List.take_of_length_le (by omega)]
  (simp (maxSteps:=9^6)[])
  (first|exact hR _ _ FrA|exact hR _ _ FnA|exact hR _ _ (Xf (hq:=by simp [AV.erase,AV.unview,hsR,Func.av];done)))
set_option maxHeartbeats 4000000 in
theorem Jt13s(A:All P p)(b:Block)(h0:b.code.length≤10000000):Jt51 P p.Yf17 [b.av] [] fun o _=>o=.ret (Jt161 b).av:=by
 refine A.Yf17.run rfl fun R hR=>?_
 (simp (maxSteps:=9^6)[Jtk2,Block.av])
 refine Jtf (fun k:Nat=>⟨[(4,AI k),(3,.own 7 ((rfCode (b.code.take k)).map Mach.row)),(2,.ptr 1 0),(1,.ptr 0 0)],
  [.mem [.d (.sl (b.code.map Instr.row)),AI b.term.kind,AI b.term.a,AI b.term.to,AI b.term.els],.mem [.nils,AI 0,AI 0,AI 0,AI 0]]⟩)
  (fun k=>k≤b.code.length) (fun k=>b.code.length-k) 0 (by simp) (by (exact wkA)) ?_
 intro k hk N hN
 have hle:=Jt164 (b.code.take k)
 have hl2:=List.length_take_le k b.code
 obtain ⟨rows,hrows⟩:∃ x,x=(rfCode (b.code.take k)).map Mach.row:=⟨_,rfl⟩
 have hrl:rows.length≤4*k:=by rw [hrows,List.length_map];omega
 rw [←hrows]
 (simp (maxSteps:=9^6)[])
 ((first|refine Xc ?_ ?_|refine Xo ?_ ?_)<;>intro h2<;>try simp only [Xz,Xy] at h2)
 ·have hkl:k<b.code.length:=by simpa using h2
  have hb:b.code[k]?=some b.code[k]:=by simp [hkl]
  have hw:=Jt1le (k:=k) (by omega)
  have hs:(rfCode (b.code.take (k+1))).map Mach.row=rows++(Jt165 b.code[k]).map Mach.row:=by
   rw [List.take_add_one,hb,hrows];simp only [rfCode,Option.toList_some,List.flatMap_append,List.flatMap_cons,List.flatMap_nil,List.append_nil,List.map_append]
  conv at hs=>rhs;unfold Jt165
  (simp (maxSteps:=9^6)[h2,hb,Instr.row])
  ((first|refine Xc ?_ ?_|refine Xo ?_ ?_)<;>intro h3<;>try simp only [Xz,Xy] at h3)
  ·(simp (maxSteps:=9^6)[h3])
   (refine Jt17 (Jt14i A _ _) (by rfl) (by rfl) ?_)
   (simp (maxSteps:=9^6)[])
   (refine Jt17 (Jt14i A _ _) (by rfl) (by rfl) ?_)
   (simp (maxSteps:=9^6)[Mach.av,mvM])
   (refine Jt1o (by rfl) (by rfl) (by rfl) ?_ (by decide) ?_ ?_ ?_)
   ·simp
   ·simp;omega
   ·simp;omega
   (simp (maxSteps:=9^6)[hw])
   rw [if_pos (by simp [h3])] at hs
   exact hN _ (k+1) hkl (by rw [hs];simp [Mach.row,mvM,slotZ];(exact wkA)) (by omega)
  ·(simp (maxSteps:=9^6)[h3])
   rw [if_neg (by simp [h3])] at hs
   cases hA:usesA b.code[k].op<;>cases hB:usesB b.code[k].op<;>cases hD:usesD b.code[k].op<;>
    simp only [hA,hB,hD,if_true,if_false,List.nil_append,List.append_nil,List.cons_append,reduceCtorEq] at hs<;>
    (repeat' (first
     | ((refine Jt17 (Jtyd A _) (by rfl) (by rfl) ?_);(simp (maxSteps:=9^6)[hA]))
     | ((refine Jt17 (Jtyf A _) (by rfl) (by rfl) ?_);(simp (maxSteps:=9^6)[hB]))
     | ((refine Jt17 (Jtyh A _) (by rfl) (by rfl) ?_);(simp (maxSteps:=9^6)[hD,hw]))
     | ((refine Jt17 (Jt14i A _ _) (by rfl) (by rfl) ?_);(simp (maxSteps:=9^6)[Mach.av,mvM]))
     | ((refine Jt1o (by rfl) (by rfl) (by rfl) ?_ (by decide) ?_ ?_ ?_);(focus (simp;done));(focus (simp;omega));(focus (simp;omega));(simp (maxSteps:=9^6)[hw]))))<;>
    (refine hN _ (k+1) hkl ?_ (by omega);rw [hs];simp [Mach.row,mvM,opM,slotZ];(exact wkA))
 ·have hk':k=b.code.length:=by simp at h2;omega
  subst hk'
  have hle:=Jt164 b.code
  (simp (maxSteps:=9^6)[])
  ((first|refine Xc ?_ ?_|refine Xo ?_ ?_)<;>intro h3<;>try simp only [Xz,Xy] at h3)
  ·(simp (maxSteps:=9^6)[h3])
   (refine Jt17 (Jt14i A _ _) (by rfl) (by rfl) ?_)
   (simp (maxSteps:=9^6)[Mach.av,mvM])
   (refine Jt1o (by rfl) (by rfl) (by rfl) ?_ (by decide) ?_ ?_ ?_)
   ·simp
   ·simp;omega
   ·simp;omega
   (simp (maxSteps:=9^6)[])
   (first|exact hR _ _ FrA|exact hR _ _ FnA|exact hR _ _ (Xf (hq:=by simp [AV.erase,AV.unview,MBlock.av,Jt161,h3,Mach.row,mvM,slotZ,hrows];done)))
  ·(simp (maxSteps:=9^6)[h3])
   (first|exact hR _ _ FrA|exact hR _ _ FnA|exact hR _ _ (Xf (hq:=by simp [AV.erase,AV.unview,MBlock.av,Jt161,h3,Mach.row,mvM,hrows];done)))
end
def rfCert(f:Func):Cert:=⟨f,⟨f.args,2,f.regs,f.blocks.map Jt161⟩,List.replicate f.blocks.length (spInv f.regs.toNat)⟩
def Jt167(b:Block):Nat:=Jt14x (Jt161 b).code
def rfRun(f:Func):Nat:=mostN (f.blocks.map Jt167)
def Jt163(f:Func):Cert × Int:=
 if Jt14r f≠0 then (Jtas,Jt14r f) else if prodZ f>1048576 then (Jtas,6) else if mcodeN (f.blocks.map Jt161)>1048576 then (Jtas,6) else if rfRun f>64 then (Jtas,15) else (rfCert f,0)
theorem Jt14s{f:Func}(h:Jt14r f=0):0≤f.args∧f.args≤f.regs∧f.regs≤1048576∧0<f.blocks.length∧f.blocks.length≤1048576∧codeN f.blocks≤1048576:=by
 unfold Jt14r at h
 split at h
 ·cases h
 split at h
 ·cases h
 split at h
 ·cases h
 split at h
 ·cases h
 omega
theorem Jtsh(bs:List Block):mcodeN (bs.map Jt161)≤4*codeN bs+bs.length:=by
 induction bs with
 | nil=>simp [mcodeN]
 | cons b bs ih=>
  have:=Jt162 b
  simp only [mcodeN,codeN,List.map_cons,List.sum_cons,List.length_cons] at *
  omega
theorem Jt1ct(k:Nat):(spInv (k+1)).map Pair.row=(spInv k).map Pair.row++[[I k,I (slotZ k)]]:=by simp [spInv,List.range_succ,Pair.row]
section
variable {P:Program} {p:Nums}
set_option maxHeartbeats 1000000 in
theorem Jt14f(A:All P p)(f:Func)(h0:f.blocks.length≤1000000)(h1:codeN f.blocks≤1000000):Jt51 P p.Yf13 [f.av] [] fun o _=>o=.ret (.tup [(Jt163 f).1.av,AI (Jt163 f).2]):=by
 refine A.Yf13.run rfl fun R hR=>?_
 (simp (maxSteps:=9^6)[Jtk3,Func.av])
 (refine Jt17 (Jtz3 A f (by omega) (by omega)) (by rfl) (by rfl) ?_)
 (simp (maxSteps:=9^6)[])
 ((first|refine Xc ?_ ?_|refine Xo ?_ ?_)<;>intro a1<;>try simp only [Xz,Xy] at a1)
 ·(simp (maxSteps:=9^6)[a1])
  have e:Jt163 f=(Jtas,Jt14r f):=by unfold Jt163;rw [if_pos a1]
  exact hR _ _ (Jt59 _ _ rfl (by rw [e];(exact wkvA)) rfl)
 have hok:=Jt14s (by simpa using a1)
 (simp (maxSteps:=9^6)[a1])
 ((first|refine Xc ?_ ?_|refine Xo ?_ ?_)<;>intro a2<;>try simp only [Xz,Xy] at a2)
 ·(simp (maxSteps:=9^6)[a2])
  have e:Jt163 f=(Jtas,6):=by unfold Jt163;rw [if_neg (by simpa using a1),if_pos (by simpa [prodZ] using a2)]
  exact hR _ _ (Jt59 _ _ rfl (by rw [e];(exact wkvA)) rfl)
 (simp (maxSteps:=9^6)[a2])
 (refine Jt17 (Jtze A f (by omega) (by omega)) (by rfl) (by rfl) ?_)
 (simp (maxSteps:=9^6)[Func.av])
 obtain ⟨sR,hsR⟩:∃ x,x=f.blocks.map Block.row:=⟨_,rfl⟩
 obtain ⟨tB,htB⟩:∃ x,x=f.blocks.map Jt161:=⟨_,rfl⟩
 obtain ⟨tR,htR⟩:∃ x,x=tB.map MBlock.row:=⟨_,rfl⟩
 obtain ⟨mB,hmB⟩:∃ x,x=f.blocks.map Jt167:=⟨_,rfl⟩
 obtain ⟨n,hn⟩:∃ n:Nat,f.regs=n:=⟨f.regs.toNat,by omega⟩
 have hmc:=Jtsh f.blocks
 rw [←htB] at hmc
 have hsl:sR.length=f.blocks.length:=by rw [hsR];simp
 have htl:tR.length=f.blocks.length:=by rw [htR,htB];simp
 rw [←hsR,hn]
 refine Jtf (fun k:Nat=>⟨[(7,AI k),(6,AI (mostN (mB.take k))),(1,.ptr 0 0),(2,.ptr 1 0),(3,AI 0),(5,.ptr 2 0)],
  [.mem [AI f.args,AI n,.d (.sl sR)],.mem [AI 0,AI 0,.nils,AI 0,AI 0,AI 0,.nils,.nils],
   .mem [AI f.args,AI n,.d (.sl sR),AI f.args,AI 2,AI n,.own 5 (tR.take k),.own 1 (List.replicate k [pairsD (spInv n)])]]⟩)
  (fun k=>k≤f.blocks.length) (fun k=>f.blocks.length-k) 0 (by simp) (by (exact wkA)) ?_
 intro k hk N hN
 (simp (maxSteps:=9^6)[])
 ((first|refine Xc ?_ ?_|refine Xo ?_ ?_)<;>intro h2<;>try simp only [Xz,Xy] at h2)
 ·have hkl:k<f.blocks.length:=by omega
  have hb:f.blocks[k]?=some f.blocks[k]:=by simp [hkl]
  have hsk:sR[k]?=some f.blocks[k].row:=by rw [hsR,lgM,hb];rfl
  have htBk:tB[k]?=some (Jt161 f.blocks[k]):=by rw [htB,lgM,hb];rfl
  have htk:tR[k]?=some (Jt161 f.blocks[k]).row:=by rw [htR,lgM,htBk];rfl
  have hmk:mB[k]?=some (Jt167 f.blocks[k]):=by rw [hmB,lgM,hb];rfl
  have hw:=Jt1le (k:=k) (by omega)
  have hcl:f.blocks[k].code.length≤1000000:=by
   have h3:=Jtch hb
   have h4:=Jtcg f.blocks (k+1)
   omega
  have hbl:=Jt162 f.blocks[k]
  have hl2:=List.length_take_le k tR
  have ets:tR.take k++[(Jt161 f.blocks[k]).row]=tR.take (k+1):=(Jt1e6 htk).symm
  have emx:(if mostN (mB.take k)<Jt167 f.blocks[k] then ((Jt167 f.blocks[k]:Nat):Int) else ((mostN (mB.take k):Nat):Int))=((mostN (mB.take (k+1)):Nat):Int):=by
   rw [Jttk hmk];split<;>omega
  have hsk':sR[k]'h2=[.sl (f.blocks[k].code.map Instr.row),I f.blocks[k].term.kind,I f.blocks[k].term.a,I f.blocks[k].term.to,I f.blocks[k].term.els]:=(lgS.1 hsk).2
  simp only [MBlock.row] at ets
  (simp (maxSteps:=9^6)[h2,hsk'])
  (refine Jt17 (Jt13s A f.blocks[k] (by omega)) (by rfl) (by rfl) ?_)
  (simp (maxSteps:=9^6)[MBlock.av])
  (refine Jt1o (by rfl) (by rfl) (by rfl) ?_ (by decide) ?_ ?_ ?_)
  ·simp
  ·simp;omega
  ·simp;omega
  (simp (maxSteps:=9^6)[ets])
  (refine Jt17 (Jt11r A (Jt161 f.blocks[k]).code (by omega)) (by rfl) (by rfl) ?_)
  (simp (maxSteps:=9^6)[show Jt14x (Jt161 f.blocks[k]).code=Jt167 f.blocks[k] from rfl])
  rw [emx]
  refine Jtf (fun v:Nat=>⟨[(10,AI v),(9,.own 2 ((spInv v).map Pair.row)),(7,AI k),(6,AI (mostN (mB.take (k+1)))),(1,.ptr 0 0),(2,.ptr 1 0),(3,AI 0),(5,.ptr 2 0)],
   [.mem [AI f.args,AI n,.d (.sl sR)],.mem [AI 0,AI 0,.nils,AI 0,AI 0,AI 0,.nils,.nils],
    .mem [AI f.args,AI n,.d (.sl sR),AI f.args,AI 2,AI n,.own 5 (tR.take (k+1)),.own 1 (List.replicate k [pairsD (spInv n)])]]⟩)
   (fun v=>v≤n) (fun v=>n-v) 0 (by simp) (by (exact wkA)) ?_
  intro v hv N' hN'
  (simp (maxSteps:=9^6)[])
  ((first|refine Xc ?_ ?_|refine Xo ?_ ?_)<;>intro h3<;>try simp only [Xz,Xy] at h3)
  ·have hvl:v<n:=by omega
   have hwv:=Jt1le (k:=v) (by omega)
   have hsv:=Jt1ct v
   obtain ⟨vr,hvr⟩:∃ x,x=(spInv v).map Pair.row:=⟨_,rfl⟩
   have hvrl:vr.length=v:=by rw [hvr];simp [spInv]
   rw [←hvr] at hsv ⊢
   (simp (maxSteps:=9^6)[h3])
   (refine Jt1o (by rfl) (by rfl) (by rfl) ?_ (by decide) ?_ ?_ ?_)
   ·simp
   ·simp;omega
   ·simp;omega
   (simp (maxSteps:=9^6)[hwv])
   exact hN' _ (v+1) hvl (by rw [hsv];(exact wkA)) (by omega)
  ·have hv':v=n:=by omega
   subst hv'
   (simp (maxSteps:=9^6)[h3])
   (refine Jt1o (by rfl) (by rfl) (by rfl) ?_ (by decide) ?_ ?_ ?_)
   ·simp
   ·simp;omega
   ·simp;omega
   have ers:List.replicate k [pairsD (spInv v)]++[[D.sl ((spInv v).map Pair.row)]]=List.replicate (k+1) [pairsD (spInv v)]:=List.replicate_succ'.symm
   (simp (maxSteps:=9^6)[hw])
   exact hN _ (k+1) hkl (by rw [ers];(exact wkA)) (by omega)
 ·have hk':k=f.blocks.length:=by omega
  subst hk'
  have e2:tR.take f.blocks.length=tR:=List.take_of_length_le (by omega)
  have e4:mB.take f.blocks.length=mB:=List.take_of_length_le (by rw [hmB];simp)
  rw [e2,e4]
  (simp (maxSteps:=9^6)[h2])
  have hcode:=Jt117 A ⟨f.args,2,n,tB⟩ (by simp [htB];omega) (by simp;omega)
  rw [MFunc.av,←htR] at hcode
  (refine Jt17 hcode (by rfl) (by rfl) ?_)
  (simp (maxSteps:=9^6)[])
  ((first|refine Xc ?_ ?_|refine Xo ?_ ?_)<;>intro b1<;>try simp only [Xz,Xy] at b1)
  ·(simp (maxSteps:=9^6)[b1])
   have e:Jt163 f=(Jtas,6):=by unfold Jt163;rw [if_neg (by simpa using a1),if_neg (by simpa [prodZ] using a2),if_pos (by rw [←htB];omega)]
   exact hR _ _ (Jt59 _ _ rfl (by rw [e];(exact wkvA)) rfl)
  (simp (maxSteps:=9^6)[b1])
  ((first|refine Xc ?_ ?_|refine Xo ?_ ?_)<;>intro b2<;>try simp only [Xz,Xy] at b2)
  ·(simp (maxSteps:=9^6)[b2])
   have e:Jt163 f=(Jtas,15):=by unfold Jt163;rw [if_neg (by simpa using a1),if_neg (by simpa [prodZ] using a2),if_neg (by rw [←htB];omega),if_pos (by rw [rfRun,←hmB];omega)]
   exact hR _ _ (Jt59 _ _ rfl (by rw [e];(exact wkvA)) rfl)
  (simp (maxSteps:=9^6)[b2])
  have e:Jt163 f=(rfCert f,0):=by unfold Jt163;rw [if_neg (by simpa using a1),if_neg (by simpa [prodZ] using a2),if_neg (by rw [←htB];omega),if_neg (by rw [rfRun,←hmB];omega)]
  refine hR _ _ (Jt59 _ _ rfl (by rw [e,hsR,htR,htB,rfCert,Cert.av,witD,List.map_replicate];simp only [hn,Int.toNat_natCast];(exact wkvA)) rfl)
end
theorem Jtu3{α:Type}[DecidableEq α]:∀ {l m:List α},l.Nodup→(∀ x∈l,x∈m)→l.length≤m.length:=by
 intro l
 induction l with
 | nil=>intro m _ _;simp
 | cons x l ih=>
  intro m hn hs
  rw [List.nodup_cons] at hn
  have hx:=hs x (by simp)
  have:=ih (m:=m.erase x) hn.2 fun y hy=>(List.mem_erase_of_ne (by rintro rfl;exact hn.1 hy)).2 (hs y (by simp [hy]))
  rw [List.length_erase_of_mem hx] at this
  have:=List.length_pos_of_mem hx
  simp only [List.length_cons];omega
def prodP(V L:List Int):List Pair:=V.flatMap fun v=>L.map fun l=>(⟨v,l⟩:Pair)
theorem Jty0(V L:List Int):(prodP V L).length=V.length*L.length:=by
 unfold prodP
 induction V with
 | nil=>simp
 | cons v V ih=>simp only [List.flatMap_cons,List.length_append,List.length_map,List.length_cons,ih,Nat.add_mul];omega
theorem Jtst{V L:List Int}{q:Pair}:q∈prodP V L↔q.v∈V∧q.l∈L:=by
 unfold prodP
 simp only [List.mem_flatMap,List.mem_map]
 constructor
 ·rintro ⟨v,hv,l,hl,rfl⟩;exact ⟨hv,hl⟩
 ·rintro ⟨hv,hl⟩;exact ⟨q.v,hv,q.l,hl,rfl⟩
structure Over (V L:List Int) (l:List Pair):Prop where
 srt:Srt l
 mem:∀ q∈l,q.v∈V∧q.l∈L
theorem Over.len{V L:List Int}{l:List Pair}(h:Over V L l):l.length≤V.length*L.length:=by
 rw [←Jty0]
 exact Jtu3 (Jt1df h.srt) fun q hq=>Jtst.2 (h.mem q hq)
theorem Over.copy{V L:List Int}{l:List Pair}(h:Over V L l){d a:Int}(hd:d∈V):Over V L (copyP l d a):=by
 refine ⟨Jt1d7 h.srt,fun q hq=>?_⟩
 rcases Jtsl.1 hq with ⟨h1,_⟩ | ⟨h1,h2⟩
 ·exact h.mem q h1
 ·exact ⟨by rw [h1];exact hd,(h.mem _ h2).2⟩
theorem Over.move{V L:List Int}{l:List Pair}(h:Over V L l){d a:Int}(hd:d∈L):Over V L (moveP l d a):=by
 refine ⟨Jt1de h.srt,fun q hq=>?_⟩
 rcases Jtsr.1 hq with ⟨h1,_⟩ | ⟨h1,h2⟩
 ·exact h.mem q h1
 ·exact ⟨(h.mem _ h2).1,by rw [h1];exact hd⟩
theorem Over.define{V L:List Int}{l:List Pair}(h:Over V L l){d t:Int}(hd:d∈V)(ht:t∈L):Over V L (defP l d t):=by
 refine ⟨Jt1d8 h.srt,fun q hq=>?_⟩
 rcases Jtsm.1 hq with rfl | ⟨h1,_⟩
 ·exact ⟨hd,ht⟩
 ·exact h.mem q h1
structure CS where (set:List Pair) (steps largest:Nat)
abbrev CR:=CS × Option (Int × Int)
def costC(s:CS):CS:=⟨s.set,s.steps+1+s.set.length,s.largest⟩
def Jt7w(most:Int)(s:CS)(l:List Pair)(at_:Int):CR:=(⟨l,s.steps,max s.largest l.length⟩,if (l.length:Int)>most then some (24,at_) else none)
def useC(s:CS)(v t at_:Int):CR:=(costC s,if (⟨v,t⟩:Pair)∈s.set then none else some (21,at_))
def thenC(r:CR)(f:CS→CR):CR:=match r.2 with
 | none=>f r.1
 | some e=>(r.1,some e)
theorem Jt1ee{s:CS}{f:CS→CR}:thenC (s,none) f=f s:=rfl
theorem Jt1ef{s:CS}{e:Int × Int}{f:CS→CR}:thenC (s,some e) f=(s,some e):=rfl
structure Room (V L:List Int) (s:CS) (n:Nat):Prop where
 over:Over V L s.set
 few:V.length*L.length<100000
 steps:s.steps+100001*n<1000000000000000000
 lg:s.largest<100000
theorem Room.len{V L:List Int}{s:CS}{n:Nat}(h:Room V L s n):s.set.length<100000:=Nat.lt_of_le_of_lt h.over.len h.few
theorem Room.mono{V L:List Int}{s:CS}{n m:Nat}(h:Room V L s n)(hm:m≤n):Room V L s m:=⟨h.over,h.few,by have:=h.steps;omega,h.lg⟩
theorem Room.cost{V L:List Int}{s:CS}{n:Nat}(h:Room V L s (n+1)):Room V L (costC s) n:=
 ⟨h.over,h.few,by have:=h.steps;have:=h.len;simp only [costC];omega,h.lg⟩
theorem Room.become{V L:List Int}{s:CS}{n:Nat}(h:Room V L s n){l:List Pair}(hl:Over V L l)(most at_:Int):Room V L (Jt7w most s l at_).1 n:=by
 refine ⟨hl,h.few,h.steps,?_⟩
 have:=h.lg
 have:=Nat.lt_of_le_of_lt hl.len h.few
 simp only [Jt7w];omega
theorem Room.use{V L:List Int}{s:CS}{n:Nat}(h:Room V L s (n+1)) (v t at_:Int):Room V L (useC s v t at_).1 n:=h.cost
section
variable {P:Program} {m:Nat} {Q:AExit→ASt→Prop} {st:ASt} {K:ASt→Prop} {QP:AV→ASt→Prop} {dst:Option Nat}
theorem Jt1c(bs:List Nat){f:Nat}{args cargs:List AV}{Hp Hc Hc' Hb:List Blk}{x y:AV}(h:Jt51 P f cargs Hc fun o H'=>o=.pan x∧H'=Hc')
  (hnd:bs.Nodup) (ha:renL (idx bs) args=some cargs) (hp:picks st.H bs=some Hp) (hc:renB (idx bs) Hp=some Hc) (hb:renB (back bs st.H.length 0) Hc'=some Hb)
  (hl:Hc'.length=bs.length) (hx:x.ren (back bs st.H.length 0)=some y) (hK:QP y ⟨unview st.env,wback st.H bs Hb⟩):AWcall P false f args dst K QP st:=by
 refine .inr ⟨rfl,.inr ⟨bs,hnd,cargs,Hp,Hc,ha,hp,hc,h.mono ?_⟩⟩
 rintro o H' ⟨rfl,he⟩
 subst he
 have ht:H'.take (bs.length+0)=H':=by rw [Nat.add_zero,←hl,List.take_length]
 refine ⟨0,Hb,y,by rw [ht];exact hb,by omega,hx,?_⟩
 have e:Hb.length=bs.length:=by rw [Jt15l hb,hl]
 rw [←e,List.take_length,List.drop_length,List.append_nil]
 exact hK
theorem Jt56{rs:List RV}{m:Nat}{Q:AOut→List Blk→Prop}{st:ASt}(x x':AV)(H':List Blk)(hw:Wk m ⟨[(0,x.erase)],st.H⟩ ⟨[(0,x')],H'⟩) (hq:Q (.pan x') H'):Fin rs m Q (.panic x) st:=⟨x',H',hw,hq⟩
attribute [simp] panEnd
end
def failV(p:Nums)(e:Int × Int):AV:=.iface p.Yf3g (.agg [AI e.1,AI e.2])
def outR(p:Nums):Option (Int × Int)→AOut
 | none=>.ret (.tup [])
 | some e=>.pan (failV p e)
def ckB(most:Int)(s:CS):Blk:=.mem [.d (pairsD s.set),AI most,AI s.steps,AI s.largest]
theorem wrapN{n:Nat}(h:n<4611686018427387904):IntKind.i64.wrap (n:Int)=(n:Int):=by
 have:=Jt1ld (a:=n) (b:=0) (by omega);simpa using this
section
variable {P:Program} {p:Nums}
theorem Jt8p(A:All P p)(s:CS)(most:Int)(h0:s.set.length<100000)(h1:s.steps<1000000000000000000):Jt51 P p.Yf2j [.ptr 0 0] [ckB most s] fun o H'=>o=.ret (.tup [])∧H'=[ckB most (costC s)]:=by
 refine A.Yf2j.run rfl fun R hR=>?_
 obtain ⟨l,n,g⟩:=s
 have e1:IntKind.i64.wrap (1+(l.length:Int))=1+(l.length:Int):=by have:=wrapN (n:=1+l.length) (by simp at h0;omega);simpa using this
 have e2:IntKind.i64.wrap ((n:Int)+(1+(l.length:Int)))=(n:Int)+(1+(l.length:Int)):=by have:=wrapN (n:=n+(1+l.length)) (by simp at h0 h1;omega);simpa using this
 have e3:((n+1+l.length:Nat):Int)=(n:Int)+(1+(l.length:Int)):=by omega
 (simp (maxSteps:=9^6)[Jthy,ckB,pairsD,e1,e2])
 exact hR _ _ (Fin_wk (.tup []) (.tup []) [.mem [.d (pairsD l),AI most,AI ((n:Int)+(1+(l.length:Int))),AI g]] rfl (by simp only [pairsD];(exact wkA)) ⟨rfl,by simp only [ckB,costC,e3]⟩)
theorem Jt8n(A:All P p)(s:CS)(most:Int)(l:List Pair)(at_:Int)(h0:l.length<100000)(h1:s.largest<1000000000000000000):
  Jt51 P p.Yf2k [.ptr 0 0,.d (pairsD l),AI at_] [ckB most s] fun o H'=>o=outR p (Jt7w most s l at_).2∧H'=[ckB most (Jt7w most s l at_).1]:=by
 refine A.Yf2k.run rfl fun R hR=>?_
 obtain ⟨u,n,g⟩:=s
 obtain ⟨mx,hmx⟩:∃ mx,mx=max g l.length:=⟨_,rfl⟩
 have e1:(if g<l.length then (l.length:Int) else (g:Int))=(mx:Int):=by split<;>omega
 (simp (maxSteps:=9^6)[Jthx,ckB,pairsD,e1])
 ((first|refine Xc ?_ ?_|refine Xo ?_ ?_)<;>intro h2<;>try simp only [Xz,Xy] at h2)
 ·(simp (maxSteps:=9^6)[h2])
  refine hR _ _ (Jt56 _ (failV p (24,at_)) [.mem [.d (pairsD l),AI most,AI n,AI mx]] (by simp only [pairsD,failV];(exact wkA)) ⟨?_,by simp only [ckB,Jt7w,hmx]⟩)
  simp [outR,Jt7w,h2]
 ·(simp (maxSteps:=9^6)[h2])
  refine hR _ _ (Fin_wk (.tup []) (.tup []) [.mem [.d (pairsD l),AI most,AI n,AI mx]] rfl (by simp only [pairsD];(exact wkA)) ⟨?_,by simp only [ckB,Jt7w,hmx]⟩)
  simp [outR,Jt7w,h2]
end
def instrC(most:Int)(s:CS)(i:Instr)(m:Mach)(at_:Int):CR:=
 thenC (if usesA i.op=true then useC s i.a (regZ m.a) at_ else (s,none)) fun s=>
  thenC (if usesB i.op=true then useC s i.b (regZ m.b) at_ else (s,none)) fun s=>
   if usesD i.op=true then Jt7w most (costC s) (defP s.set i.d (regZ m.d)) at_ else (s,none)
theorem Jt17r(x:Int):(shapeZ x).D=usesD x:=by
 unfold shapeZ usesD knownZ
 by_cases h1:1≤x∧x≤18
 ·by_cases h2:x=1
  ·subst h2;decide
  ·by_cases h3:x≤4
   ·simp [h1,h2,h3];omega
   ·by_cases h4:x≤16
    ·simp [h1,h2,h3,h4]
    ·simp [h1,h2,h3,h4]
 ·simp [h1];omega
theorem Jt17p(x:Int):(shapeZ x).A=usesA x:=by
 unfold shapeZ usesA knownZ
 by_cases h1:1≤x∧x≤18
 ·by_cases h2:x=1
  ·subst h2;decide
  ·by_cases h3:x≤4
   ·simp [h1,h2,h3];omega
   ·by_cases h4:x≤16
    ·simp [h1,h2,h3,h4];omega
    ·simp only [h1,h2,h3,h4,and_self,decide_true,Bool.true_eq_false,if_false];by_cases h5:x=17
     ·subst h5;decide
     ·have:x=18:=by omega
      subst this;decide
 ·simp [h1];omega
theorem Jt17q(x:Int):(shapeZ x).B=usesB x:=by
 unfold shapeZ usesB knownZ
 by_cases h1:1≤x∧x≤18
 ·by_cases h2:x=1
  ·subst h2;decide
  ·by_cases h3:x≤4
   ·simp [h1,h2,h3];omega
   ·by_cases h4:x≤16
    ·simp [h1,h2,h3,h4];omega
    ·simp [h1,h2,h3,h4]
 ·simp [h1];omega
section
variable {P:Program} {p:Nums}
theorem Jt9q(A:All P p)(s:CS)(most v reg at_:Int)(h0:s.set.length<100000)(h1:s.steps<1000000000000000000)(hs:Srt s.set):
  Jt51 P p.Yf2f [.ptr 0 0,AI v,AI reg,AI at_] [ckB most s] fun o H'=>o=outR p (useC s v (regZ reg) at_).2∧H'=[ckB most (useC s v (regZ reg) at_).1]:=by
 refine A.Yf2f.run rfl fun R hR=>?_
 have hH:=Jtw3 A s.set ⟨v,regZ reg⟩ (by omega) hs
 have hc:=Jt8p A s most h0 h1
 have e0:(useC s v (regZ reg) at_).1=costC s:=rfl
 obtain ⟨C,hC⟩:∃ C,C=ckB most (costC s):=⟨_,rfl⟩
 have hCm:C=.mem [.d (pairsD s.set),AI most,AI (costC s).steps,AI s.largest]:=hC
 obtain ⟨B,hB⟩:∃ B,B=ckB most s:=⟨_,rfl⟩
 rw [←hC] at hc
 rw [←hB] at hc ⊢
 (simp (maxSteps:=9^6)[Jti4])
 refine Jt19 [0] hc (by decide) (by rfl) (by rfl) (by rw [hB];rfl) (by rw [hCm];rfl) (by rfl) (by rfl) ?_
 (simp (maxSteps:=9^6)[hCm])
 (refine Jt17 (Jtpw A reg) (by rfl) (by rfl) ?_)
 (simp (maxSteps:=9^6)[])
 (refine Jt17 hH (by rfl) (by rfl) ?_)
 by_cases hm:(⟨v,regZ reg⟩:Pair)∈s.set
 ·(simp (maxSteps:=9^6)[hm])
  refine hR _ _ (Fin_wk (.tup []) (.tup []) [C] rfl (by rw [hCm];(exact wkA)) ⟨?_,by rw [hC];rfl⟩)
  simp [useC,hm,outR]
 ·(simp (maxSteps:=9^6)[hm])
  refine hR _ _ (Jt56 _ (failV p (21,at_)) [C] (by rw [hCm];simp only [failV];(exact wkA)) ⟨?_,by rw [hC];rfl⟩)
  simp [useC,hm,outR]
end
theorem Jtlc{V L:List Int}{most:Int}{s:CS}{n:Nat}{i:Instr}{m:Mach}{at_:Int}(h:Room V L s (n+3)) (hd:usesD i.op=true→i.d∈V∧regZ m.d∈L):Room V L (instrC most s i m at_).1 n:=by
 unfold instrC
 have h2:Room V L (if usesA i.op=true then useC s i.a (regZ m.a) at_ else (s,none)).1 (n+2):=by split<;>first|exact h.use _ _ _|exact h.mono (by omega)
 generalize (if usesA i.op=true then useC s i.a (regZ m.a) at_ else (s,none))=r at h2
 obtain ⟨s1,e⟩:=r
 cases e with
 | some e=>rw [Jt1ef];exact h2.mono (by omega)
 | none=>
  rw [Jt1ee]
  have h3:Room V L (if usesB i.op=true then useC s1 i.b (regZ m.b) at_ else (s1,none)).1 (n+1):=by split<;>first|exact h2.use _ _ _|exact h2.mono (by omega)
  generalize (if usesB i.op=true then useC s1 i.b (regZ m.b) at_ else (s1,none))=r at h3
  obtain ⟨s2,e⟩:=r
  cases e with
  | some e=>rw [Jt1ef];exact h3.mono (by omega)
  | none=>
   rw [Jt1ee]
   split
   ·rename_i hu
    obtain ⟨k1,k2⟩:=hd hu
    exact h3.cost.become (h3.over.define k1 k2) _ _
   ·exact h3.mono (by omega)
section
variable {P:Program} {p:Nums}
theorem Jt8v(A:All P p)(S:SortOk P p){V L:List Int}(s:CS)(most:Int)(i:Instr)(m:Mach)(at_:Int)(h:Room V L s 3)(hd:usesD i.op=true→i.d∈V∧regZ m.d∈L):
  Jt51 P p.Yf2n [.ptr 0 0,i.av,m.av,AI at_] [ckB most s] fun o H'=>o=outR p (instrC most s i m at_).2∧H'=[ckB most (instrC most s i m at_).1]:=by
 refine A.Yf2n.run rfl fun R hR=>?_
 have r1:=h.cost
 have r2:=r1.cost
 have l0:=h.len
 have l1:=r1.len
 have l2:=r2.len
 have t0:=h.steps
 have t1:=r1.steps
 have t2:=r2.steps
 have g2:=r2.cost
 have q0:=h.over.srt
 obtain ⟨s1,hs1⟩:∃ s1,s1=costC s:=⟨_,rfl⟩
 obtain ⟨s2,hs2⟩:∃ s2,s2=costC s1:=⟨_,rfl⟩
 obtain ⟨s3,hs3⟩:∃ s3,s3=costC s2:=⟨_,rfl⟩
 have q1:Srt s1.set:=by rw [hs1];exact q0
 have q2:Srt s2.set:=by rw [hs2];exact q1
 rw [←hs1] at r1 r2 l1 l2 t1 t2 g2
 rw [←hs2] at r2 l2 t2 g2
 rw [←hs3] at g2
 (simp (maxSteps:=9^6)[Jthz,Instr.av,Mach.av])
 (refine Jt17 (Jtv3 A i.op) (by rfl) (by rfl) ?_)
 (simp (maxSteps:=9^6)[Jt17p,Jt17q,Jt17r])
 have hspec:instrC most s i m at_=instrC most s i m at_:=rfl
 conv at hspec=>rhs;unfold instrC
 cases hA:usesA i.op<;>cases hB:usesB i.op<;>cases hD:usesD i.op<;>simp only [hA,hB,hD,if_true,if_false,Bool.false_eq_true,Jt1ee] at hspec
 ·(simp (maxSteps:=9^6)[hA,hB,hD])
  exact hR _ _ (Fin_wk (.tup []) (.tup []) [ckB most s] rfl (by simp only [ckB];(exact wkA)) ⟨by rw [hspec];rfl,by rw [hspec]⟩)
 ·(simp (maxSteps:=9^6)[hA,hB,hD])
  have hc:=Jt8p A s most (by omega) (by omega)
  rw [←hs1] at hc hspec
  have hV:=hd hD
  have ho:Over V L (defP s.set i.d (regZ m.d)):=(h).over.define hV.1 hV.2
  have hl:=Nat.lt_of_le_of_lt ho.len h.few
  have hset:s1.set=s.set:=by rw [hs1];rfl
  have hb:=Jt8n A s1 most (defP s.set i.d (regZ m.d)) at_ hl (by have:=(r1).lg;omega)
  have hdf:Jt51 P p.Yf2v [.d (pairsD s1.set),AI i.d,AI (regZ m.d)] [] fun o _=>o=.ret (.d (pairsD (defP s.set i.d (regZ m.d)))):=by rw [hset];exact Jt1ev A S s.set i.d (regZ m.d) (by omega) q0
  obtain ⟨dl,hdl⟩:∃ dl,dl=defP s.set i.d (regZ m.d):=⟨_,rfl⟩
  rw [←hdl] at hb hdf hspec
  obtain ⟨⟨s9,e9⟩,h9⟩:∃ r,r=Jt7w most s1 dl at_:=⟨_,rfl⟩
  rw [←h9] at hb hspec
  refine Jt19 [0] (x:=.tup []) hc (by decide) (by rfl) (by rfl) (by rfl) (by rfl) (by rfl) (by rfl) ?_
  (simp (maxSteps:=9^6)[])
  (refine Jt17 (Jtpw A m.d) (by rfl) (by rfl) ?_)
  (simp (maxSteps:=9^6)[])
  (refine Jt17 hdf (by rfl) (by rfl) ?_)
  (simp (maxSteps:=9^6)[])
  cases e9 with
  | none=>
   refine Jt19 [0] (x:=.tup []) hb (by decide) (by rfl) (by rfl) (by rfl) (by rfl) (by rfl) (by rfl) ?_
   (simp (maxSteps:=9^6)[])
   exact hR _ _ (Fin_wk (.tup []) (.tup []) [ckB most s9] rfl (by simp only [ckB];(exact wkA)) ⟨by rw [hspec];rfl,by rw [hspec]⟩)
  | some e=>
   refine Jt1c [0] (x:=failV p e) hb (by decide) (by rfl) (by rfl) (by rfl) (by rfl) (by rfl) (by rfl) ?_
   (simp (maxSteps:=9^6)[])
   exact hR _ _ (Jt56 _ (failV p e) [ckB most s9] (by simp only [ckB,failV];(exact wkA)) ⟨by rw [hspec];rfl,by rw [hspec]⟩)
 ·(simp (maxSteps:=9^6)[hA,hB,hD])
  have eB:(useC s i.b (regZ m.b) at_).1=s1:=by rw [hs1];rfl
  have huB:=(Jt9q A s most i.b m.b at_ (by omega) (by omega) q0)
  rw [eB] at huB
  rcases hrB:(useC s i.b (regZ m.b) at_).2 with _ | e
  ·rw [hrB] at huB
   rw [show useC s i.b (regZ m.b) at_=(s1,none) from Prod.ext eB hrB,Jt1ee] at hspec
   refine Jt19 [0] (x:=.tup []) huB (by decide) (by rfl) (by rfl) (by rfl) (by rfl) (by rfl) (by rfl) ?_
   (simp (maxSteps:=9^6)[hA,hB,hD])
   exact hR _ _ (Fin_wk (.tup []) (.tup []) [ckB most s1] rfl (by simp only [ckB];(exact wkA)) ⟨by rw [hspec];rfl,by rw [hspec]⟩)
  ·rw [hrB] at huB
   rw [show useC s i.b (regZ m.b) at_=(s1,some e) from Prod.ext eB hrB,Jt1ef] at hspec
   refine Jt1c [0] (x:=failV p e) huB (by decide) (by rfl) (by rfl) (by rfl) (by rfl) (by rfl) (by rfl) ?_
   (simp (maxSteps:=9^6)[])
   exact hR _ _ (Jt56 _ (failV p e) [ckB most s1] (by simp only [ckB,failV];(exact wkA)) ⟨by rw [hspec];rfl,by rw [hspec]⟩)
 ·(simp (maxSteps:=9^6)[hA,hB,hD])
  have eB:(useC s i.b (regZ m.b) at_).1=s1:=by rw [hs1];rfl
  have huB:=(Jt9q A s most i.b m.b at_ (by omega) (by omega) q0)
  rw [eB] at huB
  rcases hrB:(useC s i.b (regZ m.b) at_).2 with _ | e
  ·rw [hrB] at huB
   rw [show useC s i.b (regZ m.b) at_=(s1,none) from Prod.ext eB hrB,Jt1ee] at hspec
   refine Jt19 [0] (x:=.tup []) huB (by decide) (by rfl) (by rfl) (by rfl) (by rfl) (by rfl) (by rfl) ?_
   (simp (maxSteps:=9^6)[hA,hB,hD])
   have hc:=Jt8p A s1 most (by omega) (by omega)
   rw [←hs2] at hc hspec
   have hV:=hd hD
   have ho:Over V L (defP s1.set i.d (regZ m.d)):=(r1).over.define hV.1 hV.2
   have hl:=Nat.lt_of_le_of_lt ho.len h.few
   have hset:s2.set=s1.set:=by rw [hs2];rfl
   have hb:=Jt8n A s2 most (defP s1.set i.d (regZ m.d)) at_ hl (by have:=(r2).lg;omega)
   have hdf:Jt51 P p.Yf2v [.d (pairsD s2.set),AI i.d,AI (regZ m.d)] [] fun o _=>o=.ret (.d (pairsD (defP s1.set i.d (regZ m.d)))):=by rw [hset];exact Jt1ev A S s1.set i.d (regZ m.d) (by omega) q1
   obtain ⟨dl,hdl⟩:∃ dl,dl=defP s1.set i.d (regZ m.d):=⟨_,rfl⟩
   rw [←hdl] at hb hdf hspec
   obtain ⟨⟨s9,e9⟩,h9⟩:∃ r,r=Jt7w most s2 dl at_:=⟨_,rfl⟩
   rw [←h9] at hb hspec
   refine Jt19 [0] (x:=.tup []) hc (by decide) (by rfl) (by rfl) (by rfl) (by rfl) (by rfl) (by rfl) ?_
   (simp (maxSteps:=9^6)[])
   (refine Jt17 (Jtpw A m.d) (by rfl) (by rfl) ?_)
   (simp (maxSteps:=9^6)[])
   (refine Jt17 hdf (by rfl) (by rfl) ?_)
   (simp (maxSteps:=9^6)[])
   cases e9 with
   | none=>
    refine Jt19 [0] (x:=.tup []) hb (by decide) (by rfl) (by rfl) (by rfl) (by rfl) (by rfl) (by rfl) ?_
    (simp (maxSteps:=9^6)[])
    exact hR _ _ (Fin_wk (.tup []) (.tup []) [ckB most s9] rfl (by simp only [ckB];(exact wkA)) ⟨by rw [hspec];rfl,by rw [hspec]⟩)
   | some e=>
    refine Jt1c [0] (x:=failV p e) hb (by decide) (by rfl) (by rfl) (by rfl) (by rfl) (by rfl) (by rfl) ?_
    (simp (maxSteps:=9^6)[])
    exact hR _ _ (Jt56 _ (failV p e) [ckB most s9] (by simp only [ckB,failV];(exact wkA)) ⟨by rw [hspec];rfl,by rw [hspec]⟩)
  ·rw [hrB] at huB
   rw [show useC s i.b (regZ m.b) at_=(s1,some e) from Prod.ext eB hrB,Jt1ef] at hspec
   refine Jt1c [0] (x:=failV p e) huB (by decide) (by rfl) (by rfl) (by rfl) (by rfl) (by rfl) (by rfl) ?_
   (simp (maxSteps:=9^6)[])
   exact hR _ _ (Jt56 _ (failV p e) [ckB most s1] (by simp only [ckB,failV];(exact wkA)) ⟨by rw [hspec];rfl,by rw [hspec]⟩)
 ·(simp (maxSteps:=9^6)[hA,hB,hD])
  have eA:(useC s i.a (regZ m.a) at_).1=s1:=by rw [hs1];rfl
  have huA:=(Jt9q A s most i.a m.a at_ (by omega) (by omega) q0)
  rw [eA] at huA
  rcases hrA:(useC s i.a (regZ m.a) at_).2 with _ | e
  ·rw [hrA] at huA
   rw [show useC s i.a (regZ m.a) at_=(s1,none) from Prod.ext eA hrA,Jt1ee] at hspec
   refine Jt19 [0] (x:=.tup []) huA (by decide) (by rfl) (by rfl) (by rfl) (by rfl) (by rfl) (by rfl) ?_
   (simp (maxSteps:=9^6)[hA,hB,hD])
   exact hR _ _ (Fin_wk (.tup []) (.tup []) [ckB most s1] rfl (by simp only [ckB];(exact wkA)) ⟨by rw [hspec];rfl,by rw [hspec]⟩)
  ·rw [hrA] at huA
   rw [show useC s i.a (regZ m.a) at_=(s1,some e) from Prod.ext eA hrA,Jt1ef] at hspec
   refine Jt1c [0] (x:=failV p e) huA (by decide) (by rfl) (by rfl) (by rfl) (by rfl) (by rfl) (by rfl) ?_
   (simp (maxSteps:=9^6)[])
   exact hR _ _ (Jt56 _ (failV p e) [ckB most s1] (by simp only [ckB,failV];(exact wkA)) ⟨by rw [hspec];rfl,by rw [hspec]⟩)
 ·(simp (maxSteps:=9^6)[hA,hB,hD])
  have eA:(useC s i.a (regZ m.a) at_).1=s1:=by rw [hs1];rfl
  have huA:=(Jt9q A s most i.a m.a at_ (by omega) (by omega) q0)
  rw [eA] at huA
  rcases hrA:(useC s i.a (regZ m.a) at_).2 with _ | e
  ·rw [hrA] at huA
   rw [show useC s i.a (regZ m.a) at_=(s1,none) from Prod.ext eA hrA,Jt1ee] at hspec
   refine Jt19 [0] (x:=.tup []) huA (by decide) (by rfl) (by rfl) (by rfl) (by rfl) (by rfl) (by rfl) ?_
   (simp (maxSteps:=9^6)[hA,hB,hD])
   have hc:=Jt8p A s1 most (by omega) (by omega)
   rw [←hs2] at hc hspec
   have hV:=hd hD
   have ho:Over V L (defP s1.set i.d (regZ m.d)):=(r1).over.define hV.1 hV.2
   have hl:=Nat.lt_of_le_of_lt ho.len h.few
   have hset:s2.set=s1.set:=by rw [hs2];rfl
   have hb:=Jt8n A s2 most (defP s1.set i.d (regZ m.d)) at_ hl (by have:=(r2).lg;omega)
   have hdf:Jt51 P p.Yf2v [.d (pairsD s2.set),AI i.d,AI (regZ m.d)] [] fun o _=>o=.ret (.d (pairsD (defP s1.set i.d (regZ m.d)))):=by rw [hset];exact Jt1ev A S s1.set i.d (regZ m.d) (by omega) q1
   obtain ⟨dl,hdl⟩:∃ dl,dl=defP s1.set i.d (regZ m.d):=⟨_,rfl⟩
   rw [←hdl] at hb hdf hspec
   obtain ⟨⟨s9,e9⟩,h9⟩:∃ r,r=Jt7w most s2 dl at_:=⟨_,rfl⟩
   rw [←h9] at hb hspec
   refine Jt19 [0] (x:=.tup []) hc (by decide) (by rfl) (by rfl) (by rfl) (by rfl) (by rfl) (by rfl) ?_
   (simp (maxSteps:=9^6)[])
   (refine Jt17 (Jtpw A m.d) (by rfl) (by rfl) ?_)
   (simp (maxSteps:=9^6)[])
   (refine Jt17 hdf (by rfl) (by rfl) ?_)
   (simp (maxSteps:=9^6)[])
   cases e9 with
   | none=>
    refine Jt19 [0] (x:=.tup []) hb (by decide) (by rfl) (by rfl) (by rfl) (by rfl) (by rfl) (by rfl) ?_
    (simp (maxSteps:=9^6)[])
    exact hR _ _ (Fin_wk (.tup []) (.tup []) [ckB most s9] rfl (by simp only [ckB];(exact wkA)) ⟨by rw [hspec];rfl,by rw [hspec]⟩)
   | some e=>
    refine Jt1c [0] (x:=failV p e) hb (by decide) (by rfl) (by rfl) (by rfl) (by rfl) (by rfl) (by rfl) ?_
    (simp (maxSteps:=9^6)[])
    exact hR _ _ (Jt56 _ (failV p e) [ckB most s9] (by simp only [ckB,failV];(exact wkA)) ⟨by rw [hspec];rfl,by rw [hspec]⟩)
  ·rw [hrA] at huA
   rw [show useC s i.a (regZ m.a) at_=(s1,some e) from Prod.ext eA hrA,Jt1ef] at hspec
   refine Jt1c [0] (x:=failV p e) huA (by decide) (by rfl) (by rfl) (by rfl) (by rfl) (by rfl) (by rfl) ?_
   (simp (maxSteps:=9^6)[])
   exact hR _ _ (Jt56 _ (failV p e) [ckB most s1] (by simp only [ckB,failV];(exact wkA)) ⟨by rw [hspec];rfl,by rw [hspec]⟩)
 ·(simp (maxSteps:=9^6)[hA,hB,hD])
  have eA:(useC s i.a (regZ m.a) at_).1=s1:=by rw [hs1];rfl
  have huA:=(Jt9q A s most i.a m.a at_ (by omega) (by omega) q0)
  rw [eA] at huA
  rcases hrA:(useC s i.a (regZ m.a) at_).2 with _ | e
  ·rw [hrA] at huA
   rw [show useC s i.a (regZ m.a) at_=(s1,none) from Prod.ext eA hrA,Jt1ee] at hspec
   refine Jt19 [0] (x:=.tup []) huA (by decide) (by rfl) (by rfl) (by rfl) (by rfl) (by rfl) (by rfl) ?_
   (simp (maxSteps:=9^6)[hA,hB,hD])
   have eB:(useC s1 i.b (regZ m.b) at_).1=s2:=by rw [hs2];rfl
   have huB:=(Jt9q A s1 most i.b m.b at_ (by omega) (by omega) q1)
   rw [eB] at huB
   rcases hrB:(useC s1 i.b (regZ m.b) at_).2 with _ | e
   ·rw [hrB] at huB
    rw [show useC s1 i.b (regZ m.b) at_=(s2,none) from Prod.ext eB hrB,Jt1ee] at hspec
    refine Jt19 [0] (x:=.tup []) huB (by decide) (by rfl) (by rfl) (by rfl) (by rfl) (by rfl) (by rfl) ?_
    (simp (maxSteps:=9^6)[hA,hB,hD])
    exact hR _ _ (Fin_wk (.tup []) (.tup []) [ckB most s2] rfl (by simp only [ckB];(exact wkA)) ⟨by rw [hspec];rfl,by rw [hspec]⟩)
   ·rw [hrB] at huB
    rw [show useC s1 i.b (regZ m.b) at_=(s2,some e) from Prod.ext eB hrB,Jt1ef] at hspec
    refine Jt1c [0] (x:=failV p e) huB (by decide) (by rfl) (by rfl) (by rfl) (by rfl) (by rfl) (by rfl) ?_
    (simp (maxSteps:=9^6)[])
    exact hR _ _ (Jt56 _ (failV p e) [ckB most s2] (by simp only [ckB,failV];(exact wkA)) ⟨by rw [hspec];rfl,by rw [hspec]⟩)
  ·rw [hrA] at huA
   rw [show useC s i.a (regZ m.a) at_=(s1,some e) from Prod.ext eA hrA,Jt1ef] at hspec
   refine Jt1c [0] (x:=failV p e) huA (by decide) (by rfl) (by rfl) (by rfl) (by rfl) (by rfl) (by rfl) ?_
   (simp (maxSteps:=9^6)[])
   exact hR _ _ (Jt56 _ (failV p e) [ckB most s1] (by simp only [ckB,failV];(exact wkA)) ⟨by rw [hspec];rfl,by rw [hspec]⟩)
 ·(simp (maxSteps:=9^6)[hA,hB,hD])
  have eA:(useC s i.a (regZ m.a) at_).1=s1:=by rw [hs1];rfl
  have huA:=(Jt9q A s most i.a m.a at_ (by omega) (by omega) q0)
  rw [eA] at huA
  rcases hrA:(useC s i.a (regZ m.a) at_).2 with _ | e
  ·rw [hrA] at huA
   rw [show useC s i.a (regZ m.a) at_=(s1,none) from Prod.ext eA hrA,Jt1ee] at hspec
   refine Jt19 [0] (x:=.tup []) huA (by decide) (by rfl) (by rfl) (by rfl) (by rfl) (by rfl) (by rfl) ?_
   (simp (maxSteps:=9^6)[hA,hB,hD])
   have eB:(useC s1 i.b (regZ m.b) at_).1=s2:=by rw [hs2];rfl
   have huB:=(Jt9q A s1 most i.b m.b at_ (by omega) (by omega) q1)
   rw [eB] at huB
   rcases hrB:(useC s1 i.b (regZ m.b) at_).2 with _ | e
   ·rw [hrB] at huB
    rw [show useC s1 i.b (regZ m.b) at_=(s2,none) from Prod.ext eB hrB,Jt1ee] at hspec
    refine Jt19 [0] (x:=.tup []) huB (by decide) (by rfl) (by rfl) (by rfl) (by rfl) (by rfl) (by rfl) ?_
    (simp (maxSteps:=9^6)[hA,hB,hD])
    have hc:=Jt8p A s2 most (by omega) (by omega)
    rw [←hs3] at hc hspec
    have hV:=hd hD
    have ho:Over V L (defP s2.set i.d (regZ m.d)):=(r2).over.define hV.1 hV.2
    have hl:=Nat.lt_of_le_of_lt ho.len h.few
    have hset:s3.set=s2.set:=by rw [hs3];rfl
    have hb:=Jt8n A s3 most (defP s2.set i.d (regZ m.d)) at_ hl (by have:=(g2).lg;omega)
    have hdf:Jt51 P p.Yf2v [.d (pairsD s3.set),AI i.d,AI (regZ m.d)] [] fun o _=>o=.ret (.d (pairsD (defP s2.set i.d (regZ m.d)))):=by rw [hset];exact Jt1ev A S s2.set i.d (regZ m.d) (by omega) q2
    obtain ⟨dl,hdl⟩:∃ dl,dl=defP s2.set i.d (regZ m.d):=⟨_,rfl⟩
    rw [←hdl] at hb hdf hspec
    obtain ⟨⟨s9,e9⟩,h9⟩:∃ r,r=Jt7w most s3 dl at_:=⟨_,rfl⟩
    rw [←h9] at hb hspec
    refine Jt19 [0] (x:=.tup []) hc (by decide) (by rfl) (by rfl) (by rfl) (by rfl) (by rfl) (by rfl) ?_
    (simp (maxSteps:=9^6)[])
    (refine Jt17 (Jtpw A m.d) (by rfl) (by rfl) ?_)
    (simp (maxSteps:=9^6)[])
    (refine Jt17 hdf (by rfl) (by rfl) ?_)
    (simp (maxSteps:=9^6)[])
    cases e9 with
    | none=>
     refine Jt19 [0] (x:=.tup []) hb (by decide) (by rfl) (by rfl) (by rfl) (by rfl) (by rfl) (by rfl) ?_
     (simp (maxSteps:=9^6)[])
     exact hR _ _ (Fin_wk (.tup []) (.tup []) [ckB most s9] rfl (by simp only [ckB];(exact wkA)) ⟨by rw [hspec];rfl,by rw [hspec]⟩)
    | some e=>
     refine Jt1c [0] (x:=failV p e) hb (by decide) (by rfl) (by rfl) (by rfl) (by rfl) (by rfl) (by rfl) ?_
     (simp (maxSteps:=9^6)[])
     exact hR _ _ (Jt56 _ (failV p e) [ckB most s9] (by simp only [ckB,failV];(exact wkA)) ⟨by rw [hspec];rfl,by rw [hspec]⟩)
   ·rw [hrB] at huB
    rw [show useC s1 i.b (regZ m.b) at_=(s2,some e) from Prod.ext eB hrB,Jt1ef] at hspec
    refine Jt1c [0] (x:=failV p e) huB (by decide) (by rfl) (by rfl) (by rfl) (by rfl) (by rfl) (by rfl) ?_
    (simp (maxSteps:=9^6)[])
    exact hR _ _ (Jt56 _ (failV p e) [ckB most s2] (by simp only [ckB,failV];(exact wkA)) ⟨by rw [hspec];rfl,by rw [hspec]⟩)
  ·rw [hrA] at huA
   rw [show useC s i.a (regZ m.a) at_=(s1,some e) from Prod.ext eA hrA,Jt1ef] at hspec
   refine Jt1c [0] (x:=failV p e) huA (by decide) (by rfl) (by rfl) (by rfl) (by rfl) (by rfl) (by rfl) ?_
   (simp (maxSteps:=9^6)[])
   exact hR _ _ (Jt56 _ (failV p e) [ckB most s1] (by simp only [ckB,failV];(exact wkA)) ⟨by rw [hspec];rfl,by rw [hspec]⟩)
end
structure ARow where (cf ct mf mt:Nat) (src mach:Int)
def ARow.row(r:ARow):List D:=[I r.cf,I r.ct,I r.mf,I r.mt,I r.src,I r.mach]
def ARow.av(r:ARow):AV:=.agg [AI r.cf,AI r.ct,AI r.mf,AI r.mt,AI r.src,AI r.mach]
def copyC(most at_:Int):List Instr→CS→CR
 | [],s=>(s,none)
 | i::is,s=>thenC (Jt7w most (costC s) (copyP s.set i.d i.a) at_) (copyC most at_ is)
def moveC(most:Int):Nat→List Mach→CS→CR
 | _,[],s=>(s,none)
 | k,m::ms,s=>thenC (Jt7w most (costC s) (moveP s.set m.dst m.src) k) (moveC most (k+1) ms)
def lastC(most:Int)(b:List Instr)(m:List Mach)(r:ARow)(s:CS):CR:=
 if 0≤r.src then match b[r.src.toNat]?,m[r.mach.toNat]? with
  | some i,some x=>instrC most s i x r.mach
  | _,_=>(s,none)
 else (s,none)
def rowC(most:Int)(b:List Instr)(m:List Mach)(r:ARow)(s:CS):CR:=
 thenC (copyC most r.mf ((b.take r.ct).drop r.cf) s) fun s=>thenC (moveC most r.mf ((m.take r.mt).drop r.mf) s) (lastC most b m r)
structure RowOk (b:List Instr) (m:List Mach) (r:ARow):Prop where
 hc:r.cf≤r.ct∧r.ct≤b.length
 hm:r.mf≤r.mt∧r.mt≤m.length
 hs:0≤r.src→r.src<b.length∧0≤r.mach∧r.mach<m.length
structure VLOk (V L:List Int) (b:List Instr) (m:List Mach):Prop where
 v:∀ i∈b,i.d∈V
 l:∀ x∈m,x.dst∈L∧regZ x.d∈L
theorem Room.copyStep{V L:List Int}{s:CS}{n:Nat}(h:Room V L s (n+1)) {d a:Int} (hd:d∈V) (most at_:Int):Room V L (Jt7w most (costC s) (copyP s.set d a) at_).1 n:=h.cost.become (h.over.copy hd) _ _
theorem Room.moveStep{V L:List Int}{s:CS}{n:Nat}(h:Room V L s (n+1)) {d a:Int} (hd:d∈L) (most at_:Int):Room V L (Jt7w most (costC s) (moveP s.set d a) at_).1 n:=h.cost.become (h.over.move hd) _ _
theorem Jtcs{V L:List Int}{most at_:Int}:∀ {l:List Instr} {s:CS} {n:Nat},Room V L s (n+l.length)→(∀ i∈l,i.d∈V)→Room V L (copyC most at_ l s).1 n:=by
 intro l
 induction l with
 | nil=>intro s n h _;exact h
 | cons i l ih=>
  intro s n h hv
  have h1:=Room.copyStep (n:=n+l.length) (by simpa [Nat.add_assoc] using h) (hv i (by simp)) most at_ (a:=i.a)
  simp only [copyC]
  generalize Jt7w most (costC s) (copyP s.set i.d i.a) at_=r at h1
  obtain ⟨s1,e⟩:=r
  cases e with
  | some e=>rw [Jt1ef];exact h1.mono (by omega)
  | none=>rw [Jt1ee];exact ih h1 fun j hj=>hv j (by simp [hj])
theorem Jtts{V L:List Int}{most:Int}:∀ {l:List Mach} {k:Nat} {s:CS} {n:Nat},Room V L s (n+l.length)→(∀ x∈l,x.dst∈L)→Room V L (moveC most k l s).1 n:=by
 intro l
 induction l with
 | nil=>intro k s n h _;exact h
 | cons i l ih=>
  intro k s n h hv
  have h1:=Room.moveStep (n:=n+l.length) (by simpa [Nat.add_assoc] using h) (hv i (by simp)) most k (a:=i.src)
  simp only [moveC]
  generalize Jt7w most (costC s) (moveP s.set i.dst i.src) k=r at h1
  obtain ⟨s1,e⟩:=r
  cases e with
  | some e=>rw [Jt1ef];exact h1.mono (by omega)
  | none=>rw [Jt1ee];exact ih h1 fun j hj=>hv j (by simp [hj])
theorem Jtmb{V L:List Int}{most:Int}{b:List Instr}{m:List Mach}{r:ARow}{s:CS}{n:Nat}(h:Room V L s (n+3)) (hv:VLOk V L b m):Room V L (lastC most b m r s).1 n:=by
 unfold lastC
 split
 ·split
  ·rename_i i x h1 h2
   exact Jtlc h fun _=>⟨hv.v i (lmG h1),(hv.l x (lmG h2)).2⟩
  ·exact h.mono (by omega)
 ·exact h.mono (by omega)
theorem Jt16c{V L:List Int}{most:Int}{b:List Instr}{m:List Mach}{r:ARow}{s:CS}{n:Nat}(h:Room V L s (n+3+((m.take r.mt).drop r.mf).length+((b.take r.ct).drop r.cf).length)) (hv:VLOk V L b m):Room V L (rowC most b m r s).1 n:=by
 unfold rowC
 have h1:=Jtcs (most:=most) (at_:=r.mf) h fun i hi=>hv.v i (List.mem_of_mem_take (List.mem_of_mem_drop hi))
 generalize copyC most r.mf ((b.take r.ct).drop r.cf) s=q at h1
 obtain ⟨s1,e⟩:=q
 cases e with
 | some e=>rw [Jt1ef];exact h1.mono (by omega)
 | none=>
  rw [Jt1ee]
  have h2:=Jtts (most:=most) (k:=r.mf) h1 fun i hi=>(hv.l i (List.mem_of_mem_take (List.mem_of_mem_drop hi))).1
  generalize moveC most r.mf ((m.take r.mt).drop r.mf) s1=q at h2
  obtain ⟨s2,e⟩:=q
  cases e with
  | some e=>rw [Jt1ef];exact h2.mono (by omega)
  | none=>rw [Jt1ee];exact Jtmb h2 hv
theorem Jtlk(i:Instr):i.row.length=5:=rfl
theorem Jtdf{α:Type}{l:List α}{j:Nat}(h:j<l.length):l.drop j=l[j]::l.drop (j+1):=List.drop_eq_getElem_cons h
section
variable {P:Program} {p:Nums}
theorem Jt99(A:All P p)(S:SortOk P p)(C:ClosOk P p){V L:List Int}(s:CS)(most:Int)(b:Block)(m:MBlock)(r:ARow){n1 n2:Nat}(hn1:n1=r.ct-r.cf)(hn2:n2=r.mt-r.mf)(h:Room V L s (3+n2+n1)) (hv:VLOk V L b.code m.code) (hr:RowOk b.code m.code r)
  (hb0:b.code.length<1000000) (hm0:m.code.length<1000000) :
  Jt51 P p.Yf2e [.ptr 0 0,b.av,m.av,r.av] [ckB most s] fun o H'=>o=outR p (rowC most b.code m.code r s).2∧H'=[ckB most (rowC most b.code m.code r s).1]:=by
 refine A.Yf2e.run rfl fun R hR=>?_
 obtain ⟨code,kind,ta,to,els⟩:=b
 obtain ⟨mcode,mkind,mta,mto,mels⟩:=m
 obtain ⟨cf,ct,mf,mt,src,mach⟩:=r
 obtain ⟨⟨hc1,hc2⟩,⟨hm1,hm2⟩,hsr⟩:=hr
 simp only at hc1 hc2 hm1 hm2 hsr hn1 hn2 hb0 hm0 hv
 obtain ⟨sub,hsub⟩:∃ l,l=(code.take ct).drop cf:=⟨_,rfl⟩
 obtain ⟨msub,hmsub⟩:∃ l,l=(mcode.take mt).drop mf:=⟨_,rfl⟩
 have hsl:sub.length=n1:=by rw [hsub,hn1];simp;omega
 have hml:msub.length=n2:=by rw [hmsub,hn2];simp;omega
 have hsv:∀ i∈sub,i.d∈V:=fun i hi=>hv.v i (by rw [hsub] at hi;exact List.mem_of_mem_take (List.mem_of_mem_drop hi))
 have hml':∀ x∈msub,x.dst∈L:=fun x hx=>(hv.l x (by rw [hmsub] at hx;exact List.mem_of_mem_take (List.mem_of_mem_drop hx))).1
 have hspec:rowC most code mcode ⟨cf,ct,mf,mt,src,mach⟩ s=thenC (copyC most mf sub s) fun s=>thenC (moveC most mf msub s) (lastC most code mcode ⟨cf,ct,mf,mt,src,mach⟩):=by rw [hsub,hmsub];rfl
 obtain ⟨bB,hbB⟩:∃ x,x=Blk.mem [.d (.sl (code.map Instr.row)),AI kind,AI ta,AI to,AI els]:=⟨_,rfl⟩
 have i1:(cf:Int)≤(ct:Int):=by omega
 have i2:(ct:Int)≤(code.length:Int):=by omega
 have hrows:((code.map Instr.row).take ct).drop cf=sub.map Instr.row:=by rw [hsub,List.map_drop,List.map_take]
 obtain ⟨T1,hT1⟩:∃ T,T=copyC most mf sub s:=⟨_,rfl⟩
 rw [←hT1] at hspec
 (simp (maxSteps:=9^6)[Jti0,Block.av,MBlock.av,ARow.av,i1,i2,hrows,Jtlk])
 refine Jtf (fun x:Nat × CS=>⟨[(19,AI x.1),(18,AI sub.length),(17,.d (.sl (sub.map Instr.row))),(7,.ptr 3 0),(6,.ptr 2 0),(5,.ptr 1 0),(0,.ptr 0 0)],
  [ckB most x.2,.mem [.d (.sl (code.map Instr.row)),AI kind,AI ta,AI to,AI els],.mem [.d (.sl (mcode.map Mach.row)),AI mkind,AI mta,AI mto,AI mels],.mem [AI cf,AI ct,AI mf,AI mt,AI src,AI mach]]⟩)
  (fun x=>x.1≤sub.length∧copyC most mf (sub.drop x.1) x.2=T1∧Room V L x.2 (3+n2+(n1-x.1))) (fun x=>sub.length-x.1) (0,s) (by simp [hT1];exact h) (by simp only [ckB];(exact wkA)) ?_
 rintro ⟨j,t⟩ ⟨hj,hT,hR1⟩ N hN
 simp only at hj hT hR1
 (simp (maxSteps:=9^6)[])
 ((first|refine Xc ?_ ?_|refine Xo ?_ ?_)<;>intro h2<;>try simp only [Xz,Xy] at h2)
 ·have hjl:j<sub.length:=by simpa using h2
  have hji:sub[j]?=some sub[j]:=by simp [hjl]
  have hw:=Jt1le (k:=j) (by omega)
  rw [Jtdf hjl] at hT
  simp only [copyC] at hT
  obtain ⟨t1,ht1⟩:∃ t1,t1=costC t:=⟨_,rfl⟩
  have hxv:sub[j].d∈V:=hsv _ (List.getElem_mem hjl)
  rw [←ht1] at hT
  have e0:n1-j=(n1-(j+1))+1:=by omega
  rw [e0,←Nat.add_assoc] at hR1
  have hR2:=hR1.copyStep hxv most mf (a:=sub[j].a)
  have hl0:=hR1.len
  have hst:=hR1.steps
  have hlg:=hR1.lg
  have hcost:=Jt8p A t most hl0 (by omega)
  have hol:=Nat.lt_of_le_of_lt (hR1.over.copy hxv (a:=sub[j].a)).len hR1.few
  have hset:t1.set=t.set:=by rw [ht1];rfl
  have hlg1:t1.largest=t.largest:=by rw [ht1];rfl
  rw [←ht1] at hcost hR2
  have hcp:Jt51 P p.Yf2l [.d (pairsD t1.set),AI sub[j].d,AI sub[j].a] [] fun o _=>o=.ret (.d (pairsD (copyP t.set sub[j].d sub[j].a))):=by rw [hset];exact Jt1er A S C t.set sub[j].d sub[j].a hl0
  obtain ⟨cl,hcl⟩:∃ cl,cl=copyP t.set sub[j].d sub[j].a:=⟨_,rfl⟩
  rw [←hcl] at hT hR2 hcp hol
  have hbec:=Jt8n A t1 most cl mf hol (by omega)
  obtain ⟨⟨t2,e2⟩,h2r⟩:∃ r,r=Jt7w most t1 cl mf:=⟨_,rfl⟩
  rw [←h2r] at hbec hT hR2
  (simp (maxSteps:=9^6)[h2,lgM,hji,Instr.row,hw])
  refine Jt19 [0] (x:=.tup []) hcost (by decide) (by rfl) (by rfl) (by rfl) (by rfl) (by rfl) (by rfl) ?_
  (simp (maxSteps:=9^6)[ckB])
  (refine Jt17 hcp (by rfl) (by rfl) ?_)
  (simp (maxSteps:=9^6)[])
  cases e2 with
  | none=>
   rw [Jt1ee] at hT
   refine Jt19 [0] (x:=.tup []) hbec (by decide) (by rfl) (by rfl) (by rfl) (by rfl) (by rfl) (by rfl) ?_
   (simp (maxSteps:=9^6)[ckB,hw])
   exact hN _ (j+1,t2) ⟨hjl,hT,hR2⟩ (by simp only [ckB];(exact wkA)) (by simp only;omega)
  | some e=>
   rw [Jt1ef] at hT
   refine Jt1c [0] (x:=failV p e) hbec (by decide) (by rfl) (by rfl) (by rfl) (by rfl) (by rfl) (by rfl) ?_
   (simp (maxSteps:=9^6)[ckB])
   rw [←hT,Jt1ef] at hspec
   exact hR _ _ (Jt56 _ (failV p e) [ckB most t2] (by simp only [ckB,failV];(exact wkA)) ⟨by rw [hspec];rfl,by rw [hspec]⟩)
 ·have hjl:j=sub.length:=by simp at h2;omega
  subst hjl
  have hT':T1=(t,none):=by rw [←hT,List.drop_length];rfl
  rw [hT',Jt1ee] at hspec
  have e0:n1-sub.length=0:=by omega
  rw [e0,Nat.add_zero] at hR1
  obtain ⟨T2,hT2⟩:∃ T,T=moveC most mf msub t:=⟨_,rfl⟩
  rw [←hT2] at hspec
  (simp (maxSteps:=9^6)[])
  refine Jtf (fun x:Nat × CS=>⟨[(10,AI x.1),(7,.ptr 3 0),(6,.ptr 2 0),(5,.ptr 1 0),(0,.ptr 0 0)],
   [ckB most x.2,.mem [.d (.sl (code.map Instr.row)),AI kind,AI ta,AI to,AI els],.mem [.d (.sl (mcode.map Mach.row)),AI mkind,AI mta,AI mto,AI mels],.mem [AI cf,AI ct,AI mf,AI mt,AI src,AI mach]]⟩)
   (fun x=>mf≤x.1∧x.1≤mt∧moveC most x.1 (msub.drop (x.1-mf)) x.2=T2∧Room V L x.2 (3+(mt-x.1))) (fun x=>mt-x.1) (mf,t) (by simp [hT2];exact ⟨hm1,by rw [←hn2];exact hR1⟩) (by simp only [ckB];(exact wkA)) ?_
  rintro ⟨k,u⟩ ⟨hk0,hk1,hTm,hR2⟩ N hN
  simp only at hk0 hk1 hTm hR2
  (simp (maxSteps:=9^6)[])
  ((first|refine Xc ?_ ?_|refine Xo ?_ ?_)<;>intro h3<;>try simp only [Xz,Xy] at h3)
  ·have hkl:k<mt:=by simpa using h3
   have hkm:k<mcode.length:=by omega
   have hjl:k-mf<msub.length:=by omega
   have hmj:msub[k-mf]=mcode[k]:=by simp [hmsub];congr 1;omega
   have hw:=Jt1le (k:=k) (by omega)
   have hmi:mcode[k]?=some mcode[k]:=by simp [hkm]
   rw [Jtdf hjl,hmj] at hTm
   simp only [moveC] at hTm
   have e1:k-mf+1=k+1-mf:=by omega
   rw [e1] at hTm
   obtain ⟨t1,ht1⟩:∃ t1,t1=costC u:=⟨_,rfl⟩
   have hxv:mcode[k].dst∈L:=(hv.l _ (List.getElem_mem hkm)).1
   rw [←ht1] at hTm
   have e0:mt-k=(mt-(k+1))+1:=by omega
   rw [e0,←Nat.add_assoc] at hR2
   have hR3:=hR2.moveStep hxv most k (a:=mcode[k].src)
   have hl0:=hR2.len
   have hst:=hR2.steps
   have hlg:=hR2.lg
   have hcost:=Jt8p A u most hl0 (by omega)
   have hol:=Nat.lt_of_le_of_lt (hR2.over.move hxv (a:=mcode[k].src)).len hR2.few
   have hset:t1.set=u.set:=by rw [ht1];rfl
   have hlg1:t1.largest=u.largest:=by rw [ht1];rfl
   rw [←ht1] at hcost hR3
   have hcp:Jt51 P p.Yf2m [.d (pairsD t1.set),AI mcode[k].dst,AI mcode[k].src] [] fun o _=>o=.ret (.d (pairsD (moveP u.set mcode[k].dst mcode[k].src))):=by rw [hset];exact Jt1f0 A S C u.set mcode[k].dst mcode[k].src hl0
   obtain ⟨cl,hcl⟩:∃ cl,cl=moveP u.set mcode[k].dst mcode[k].src:=⟨_,rfl⟩
   rw [←hcl] at hTm hR3 hcp hol
   have hbec:=Jt8n A t1 most cl k hol (by omega)
   obtain ⟨⟨t2,e2⟩,h2r⟩:∃ r,r=Jt7w most t1 cl k:=⟨_,rfl⟩
   rw [←h2r] at hbec hTm hR3
   (simp (maxSteps:=9^6)[h3,lgM,hmi,Mach.row,hw])
   refine Jt19 [0] (x:=.tup []) hcost (by decide) (by rfl) (by rfl) (by rfl) (by rfl) (by rfl) (by rfl) ?_
   (simp (maxSteps:=9^6)[ckB,lgM,hmi,Mach.row])
   (refine Jt17 hcp (by rfl) (by rfl) ?_)
   (simp (maxSteps:=9^6)[])
   cases e2 with
   | none=>
    rw [Jt1ee] at hTm
    refine Jt19 [0] (x:=.tup []) hbec (by decide) (by rfl) (by rfl) (by rfl) (by rfl) (by rfl) (by rfl) ?_
    (simp (maxSteps:=9^6)[ckB,hw])
    exact hN _ (k+1,t2) ⟨by simp only;omega,hkl,hTm,hR3⟩ (by simp only [ckB];(exact wkA)) (by simp only;omega)
   | some e=>
    rw [Jt1ef] at hTm
    refine Jt1c [0] (x:=failV p e) hbec (by decide) (by rfl) (by rfl) (by rfl) (by rfl) (by rfl) (by rfl) ?_
    (simp (maxSteps:=9^6)[ckB])
    rw [←hTm,Jt1ef] at hspec
    exact hR _ _ (Jt56 _ (failV p e) [ckB most t2] (by simp only [ckB,failV];(exact wkA)) ⟨by rw [hspec];rfl,by rw [hspec]⟩)
  ·have hkl:k=mt:=by simp at h3;omega
   subst hkl
   have hT'':T2=(u,none):=by rw [←hTm,List.drop_eq_nil_of_le (by omega)];rfl
   rw [hT'',Jt1ee] at hspec
   rw [Nat.sub_self,Nat.add_zero] at hR2
   (simp (maxSteps:=9^6)[])
   ((first|refine Xc ?_ ?_|refine Xo ?_ ?_)<;>intro h4<;>try simp only [Xz,Xy] at h4)
   ·obtain ⟨h5,h6,h7⟩:=hsr h4
    have hi1:src.toNat<code.length:=by omega
    have hi2:mach.toNat<mcode.length:=by omega
    have hci:code[src.toNat]?=some code[src.toNat]:=by simp [hi1]
    have hmi:mcode[mach.toNat]?=some mcode[mach.toNat]:=by simp [hi2]
    have hl:lastC most code mcode ⟨cf,ct,mf,k,src,mach⟩ u=instrC most u code[src.toNat] mcode[mach.toNat] mach:=by
     simp only [lastC,h4,if_true,hci,hmi]
    rw [hl] at hspec
    have hins:=Jt8v A S u most code[src.toNat] mcode[mach.toNat] mach hR2 (fun _=>⟨hv.v _ (List.getElem_mem hi1),(hv.l _ (List.getElem_mem hi2)).2⟩)
    obtain ⟨⟨t2,e2⟩,h2r⟩:∃ r,r=instrC most u code[src.toNat] mcode[mach.toNat] mach:=⟨_,rfl⟩
    rw [←h2r] at hins hspec
    (simp (maxSteps:=9^6)[h4,h6,lgM,hci,hmi,Instr.row,Mach.row])
    cases e2 with
    | none=>
     refine Jt19 [0] (x:=.tup []) hins (by decide) (by rfl) (by rfl) (by rfl) (by rfl) (by rfl) (by rfl) ?_
     (simp (maxSteps:=9^6)[ckB])
     exact hR _ _ (Fin_wk (.tup []) (.tup []) [ckB most t2] rfl (by simp only [ckB];(exact wkA)) ⟨by rw [hspec];rfl,by rw [hspec]⟩)
    | some e=>
     refine Jt1c [0] (x:=failV p e) hins (by decide) (by rfl) (by rfl) (by rfl) (by rfl) (by rfl) (by rfl) ?_
     (simp (maxSteps:=9^6)[ckB])
     exact hR _ _ (Jt56 _ (failV p e) [ckB most t2] (by simp only [ckB,failV];(exact wkA)) ⟨by rw [hspec];rfl,by rw [hspec]⟩)
   ·have hl:lastC most code mcode ⟨cf,ct,mf,k,src,mach⟩ u=(u,none):=by
     unfold lastC;rw [if_neg h4]
    rw [hl] at hspec
    (simp (maxSteps:=9^6)[h4])
    exact hR _ _ (Fin_wk (.tup []) (.tup []) [ckB most u] rfl (by simp only [ckB];(exact wkA)) ⟨by rw [hspec];rfl,by rw [hspec]⟩)
end
def rowsC(most:Int)(b:List Instr)(m:List Mach):List ARow→CS→CR
 | [],s=>(s,none)
 | r::rs,s=>thenC (rowC most b m r s) (rowsC most b m rs)
def runC(most:Int)(b:Block)(m:MBlock)(rows:List ARow)(s:CS):CR:=
 thenC (rowsC most b.code m.code rows s) fun s=>if b.term.kind=1 then (s,none) else useC s b.term.a (regZ m.term.a) m.code.length
def runE(m:MBlock):Option (Int × Int)→Int × Int
 | none=>(0,m.code.length)
 | some e=>e
def needR(r:ARow):Nat:=3+(r.mt-r.mf)+(r.ct-r.cf)
def needRs(rs:List ARow):Nat:=(rs.map needR).sum
section
variable {P:Program} {p:Nums}
theorem Jt17a{s:CS}{most:Int}{e:Int × Int}{b m:List AV}{E:List (Nat × AV)} (h8:get E 8=some (.ptr 3 0)) (h9:get E 9=some (.ptr 4 0)) {Q:AOut→List Blk→Prop} (hQ:Q (.ret (.tup [AI e.1,AI e.2])) [ckB most s]) :
  FinD P [.cell 8 none,.cell 9 none] 1 (Jti2 p) [8,9] 5 2 [.ptr 3 0,.ptr 4 0] Q (.panic (failV p e)) ⟨E,[ckB most s,.mem b,.mem m,.mem [AI 0],.mem [AI 0]]⟩:=by
 refine ⟨fun j c hj=>?_,?_⟩
 ·match j with
  | 0=>simp at hj;subst hj;exact h8
  | 1=>simp at hj;subst hj;exact h9
  | j+2=>simp at hj
 ·obtain ⟨c,hc⟩:∃ c,c=ckB most s:=⟨_,rfl⟩
  have hcm:c=.mem [.d (pairsD s.set),AI most,AI s.steps,AI s.largest]:=hc
  rw [←hc] at hQ ⊢
  (simp (maxSteps:=9^6)[Jti2,panV,failV])
  exact ⟨_,rfl,.tup [AI e.1,AI e.2],[c],by rw [hcm];(exact wkA),hQ⟩
theorem Jt17b{x0:Blk}{s:CS}{most:Int}{e:Int × Int}{b m:List AV}{E:List (Nat × AV)} (h8:get E 8=some (.ptr 3 0)) (h9:get E 9=some (.ptr 4 0)) {Q:AOut→List Blk→Prop} (hQ:Q (.ret (.tup [AI e.1,AI e.2])) [ckB most s]) :
  FinD P [.cell 8 none,.cell 9 none] 1 (Jti2 p) [8,9] 5 2 [.ptr 3 0,.ptr 4 0] Q (.panic (failV p e)) ⟨E,[ckB most s,.mem b,.mem m,.mem [AI 0],.mem [AI 0],x0]⟩:=by
 refine ⟨fun j c hj=>?_,?_⟩
 ·match j with
  | 0=>simp at hj;subst hj;exact h8
  | 1=>simp at hj;subst hj;exact h9
  | j+2=>simp at hj
 ·obtain ⟨c,hc⟩:∃ c,c=ckB most s:=⟨_,rfl⟩
  have hcm:c=.mem [.d (pairsD s.set),AI most,AI s.steps,AI s.largest]:=hc
  rw [←hc] at hQ ⊢
  (simp (maxSteps:=9^6)[Jti2,panV,failV])
  exact ⟨_,rfl,.tup [AI e.1,AI e.2],[c],by rw [hcm];(exact wkA),hQ⟩
theorem Jt17d{s:CS}{most:Int}{e:Int × Int}{b m:List AV}{E:List (Nat × AV)} (h8:get E 8=some (.ptr 3 0)) (h9:get E 9=some (.ptr 4 0)) {Q:AOut→List Blk→Prop} (hQ:Q (.ret (.tup [AI e.1,AI e.2])) [ckB most s]) :
  FinD P [.cell 8 none,.cell 9 none] 1 (Jti2 p) [8,9] 5 2 [.ptr 3 0,.ptr 4 0] Q .ret ⟨E,[ckB most s,.mem b,.mem m,.mem [AI e.1],.mem [AI e.2]]⟩:=by
 refine ⟨fun j c hj=>?_,?_⟩
 ·match j with
  | 0=>simp at hj;subst hj;exact h8
  | 1=>simp at hj;subst hj;exact h9
  | j+2=>simp at hj
 ·obtain ⟨c,hc⟩:∃ c,c=ckB most s:=⟨_,rfl⟩
  have hcm:c=.mem [.d (pairsD s.set),AI most,AI s.steps,AI s.largest]:=hc
  rw [←hc] at hQ ⊢
  (simp (maxSteps:=9^6)[Jti2,panV])
  exact ⟨_,rfl,.tup [AI e.1,AI e.2],[c],by rw [hcm];(exact wkA),hQ⟩
end
theorem Jtty(r:ARow)(rs:List ARow):needRs (r::rs)=needR r+needRs rs:=by simp [needRs]
section
variable {P:Program} {p:Nums}
theorem Jt9f(A:All P p)(S:SortOk P p)(C:ClosOk P p){V L:List Int}(s:CS)(most:Int)(b:Block)(m:MBlock)(rows:List ARow)(h:Room V L s (needRs rows+1)) (hv:VLOk V L b.code m.code) (hr:∀ r∈rows,RowOk b.code m.code r)
  (hb0:b.code.length<1000000) (hm0:m.code.length<1000000) (hrl:rows.length<1000000) :
  Jt51 P p.Yf24 [.ptr 0 0,b.av,m.av,.d (.sl (rows.map ARow.row))] [ckB most s]
   fun o H'=>o=.ret (.tup [AI (runE m (runC most b m rows s).2).1,AI (runE m (runC most b m rows s).2).2])∧H'=[ckB most (runC most b m rows s).1]:=by
 obtain ⟨Q,hQ⟩:∃ Q:AOut→List Blk→Prop,Q=fun o H'=>o=.ret (.tup [AI (runE m (runC most b m rows s).2).1,AI (runE m (runC most b m rows s).2).2])∧H'=[ckB most (runC most b m rows s).1]:=⟨_,rfl⟩
 rw [←hQ]
 refine A.Yf24.calls rfl ?_
 obtain ⟨code,kind,ta,to,els⟩:=b
 obtain ⟨mcode,mkind,mta,mto,mels⟩:=m
 obtain ⟨total,htot⟩:∃ T,T=runC most ⟨code,kind,ta,to,els⟩ ⟨mcode,mkind,mta,mto,mels⟩ rows s:=⟨_,rfl⟩
 rw [←htot] at hQ
 have fin:∀ s' e,total=(s',e)→Q (.ret (.tup [AI (runE ⟨mcode,mkind,mta,mto,mels⟩ e).1,AI (runE ⟨mcode,mkind,mta,mto,mels⟩ e).2])) [ckB most s']:=by
  intro s' e he
  rw [hQ,he];exact ⟨rfl,rfl⟩
 obtain ⟨T1,hT1⟩:∃ T,T=rowsC most code mcode rows s:=⟨_,rfl⟩
 have hspec:total=thenC T1 fun s=>if kind=1 then (s,none) else useC s ta (regZ mta) mcode.length:=by rw [htot,hT1];rfl
 simp only at hb0 hm0 hv hr
 (simp (maxSteps:=9^6)[Jti1,Block.av,MBlock.av])
 refine ⟨[.ptr 3 0,.ptr 4 0],rfl,fun j c hj=>?_,fun x hx=>by simp at hx;rcases hx with rfl | rfl<;>rfl,?_⟩
 ·match j with
  | 0=>simp at hj;subst hj;rfl
  | 1=>simp at hj;subst hj;rfl
  | j+2=>simp at hj
 (simp (maxSteps:=9^6)[Jti3])
 refine Jtf (fun x:Nat × CS=>⟨[(15,AI x.1),(14,AI rows.length),(13,.d (.sl (rows.map ARow.row))),(9,.ptr 4 0),(8,.ptr 3 0),(6,.ptr 2 0),(5,.ptr 1 0),(0,.ptr 0 0)],
  [ckB most x.2,.mem [.d (.sl (code.map Instr.row)),AI kind,AI ta,AI to,AI els],.mem [.d (.sl (mcode.map Mach.row)),AI mkind,AI mta,AI mto,AI mels],.mem [AI 0],.mem [AI 0]]⟩)
  (fun x=>x.1≤rows.length∧rowsC most code mcode (rows.drop x.1) x.2=T1∧Room V L x.2 (needRs (rows.drop x.1)+1)) (fun x=>rows.length-x.1) (0,s) (by simp [hT1];exact h) (by simp only [ckB];(exact wkA)) ?_
 rintro ⟨j,t⟩ ⟨hj,hT,hR1⟩ N hN
 simp only at hj hT hR1
 (simp (maxSteps:=9^6)[])
 ((first|refine Xc ?_ ?_|refine Xo ?_ ?_)<;>intro h2<;>try simp only [Xz,Xy] at h2)
 ·have hjl:j<rows.length:=by simpa using h2
  have hji:rows[j]?=some rows[j]:=by simp [hjl]
  have hw:=Jt1le (k:=j) (by omega)
  rw [Jtdf hjl] at hT hR1
  rw [Jtty] at hR1
  simp only [rowsC] at hT
  have hro:=hr _ (List.getElem_mem hjl)
  have hrow:=Jt99 A S C t most ⟨code,kind,ta,to,els⟩ ⟨mcode,mkind,mta,mto,mels⟩ rows[j] (n1:=rows[j].ct-rows[j].cf) (n2:=rows[j].mt-rows[j].mf) rfl rfl (hR1.mono (by unfold needR;omega)) hv hro hb0 hm0
  have hl1:((mcode.take rows[j].mt).drop rows[j].mf).length=rows[j].mt-rows[j].mf:=by have:=hro.hm;simp;omega
  have hl2:((code.take rows[j].ct).drop rows[j].cf).length=rows[j].ct-rows[j].cf:=by have:=hro.hc;simp;omega
  have hR2:=Jt16c (n:=needRs (rows.drop (j+1))+1) (most:=most) (r:=rows[j]) (hR1.mono (by rw [hl1,hl2];unfold needR;omega)) hv
  simp only at hrow
  obtain ⟨⟨t2,e2⟩,h2r⟩:∃ r,r=rowC most code mcode rows[j] t:=⟨_,rfl⟩
  rw [←h2r] at hrow hT hR2
  (simp (maxSteps:=9^6)[h2,lgM,hji,ARow.row,hw])
  cases e2 with
  | none=>
   rw [Jt1ee] at hT
   refine Jt19 [0] (x:=.tup []) hrow (by decide) (by rfl) (by rfl) (by rfl) (by rfl) (by rfl) (by rfl) ?_
   (simp (maxSteps:=9^6)[ckB,hw])
   exact hN _ (j+1,t2) ⟨hjl,hT,hR2⟩ (by simp only [ckB];(exact wkA)) (by simp only;omega)
  | some e=>
   rw [Jt1ef] at hT
   refine Jt1c [0] (x:=failV p e) hrow (by decide) (by rfl) (by rfl) (by rfl) (by rfl) (by rfl) (by rfl) ?_
   rw [←hT,Jt1ef] at hspec
   have hq:=fin _ _ hspec
   (simp (maxSteps:=9^6)[])
   exact Jt17b (s:=t2) (e:=e) rfl rfl hq
 ·have hjl:j=rows.length:=by simp at h2;omega
  subst hjl
  have hT':T1=(t,none):=by rw [←hT,List.drop_length];rfl
  rw [hT',Jt1ee] at hspec
  rw [List.drop_length] at hR1
  (simp (maxSteps:=9^6)[])
  ((first|refine Xc ?_ ?_|refine Xo ?_ ?_)<;>intro h3<;>try simp only [Xz,Xy] at h3)
  ·rw [if_neg h3] at hspec
   have hl0:=hR1.len
   have hst:t.steps<1000000000000000000:=Nat.lt_of_le_of_lt (Nat.le_add_right _ _) hR1.steps
   have hu:=Jt9q A t most ta mta mcode.length hl0 hst hR1.over.srt
   obtain ⟨⟨t2,e2⟩,h2r⟩:∃ r,r=useC t ta (regZ mta) mcode.length:=⟨_,rfl⟩
   rw [←h2r] at hu hspec
   have hq:=fin _ _ hspec
   (simp (maxSteps:=9^6)[h3])
   cases e2 with
   | none=>
    refine Jt19 [0] (x:=.tup []) hu (by decide) (by rfl) (by rfl) (by rfl) (by rfl) (by rfl) (by rfl) ?_
    (simp (maxSteps:=9^6)[ckB])
    exact Jt17d (s:=t2) (e:=(0,mcode.length)) rfl rfl hq
   | some e=>
    refine Jt1c [0] (x:=failV p e) hu (by decide) (by rfl) (by rfl) (by rfl) (by rfl) (by rfl) (by rfl) ?_
    (simp (maxSteps:=9^6)[])
    exact Jt17a (s:=t2) (e:=e) rfl rfl hq
  ·have h3':kind=1:=by simpa using h3
   rw [if_pos h3'] at hspec
   have hq:=fin _ _ hspec
   (simp (maxSteps:=9^6)[h3])
   exact Jt17d (e:=(0,mcode.length)) rfl rfl hq
end
def isCopy(i:Instr):Bool:=i.op==2
def isMove(m:Mach):Bool:=m.op==18
def skipW{α:Type}(f:α→Bool)(l:List α)(i:Nat):Nat:=i+((l.drop i).takeWhile f).length
theorem Jt17x{α:Type}(f:α→Bool)(l:List α)(i:Nat):i≤skipW f l i:=Nat.le_add_right _ _
theorem Jt17y{α:Type}{f:α→Bool}{l:List α}{i:Nat}(h:i≤l.length):skipW f l i≤l.length:=by
 have:=(List.takeWhile_prefix f (l:=l.drop i)).length_le
 rw [List.length_drop] at this
 unfold skipW;omega
theorem Jt17z{α:Type}{f:α→Bool}{l:List α}{i:Nat}(h:i<l.length)(hf:f l[i]=true):skipW f l i=skipW f l (i+1):=by
 unfold skipW
 rw [List.drop_eq_getElem_cons h,List.takeWhile_cons,if_pos hf,List.length_cons];omega
theorem Jt17w{α:Type}{f:α→Bool}{l:List α}{i:Nat}(h:i<l.length)(hf:f l[i]=false):skipW f l i=i:=by
 unfold skipW
 rw [List.drop_eq_getElem_cons h,List.takeWhile_cons,hf];simp
theorem Jt17v{α:Type}{f:α→Bool}{l:List α}{i:Nat}(h:l.length≤i):skipW f l i=i:=by
 unfold skipW
 rw [List.drop_eq_nil_of_le h];simp
def sameI(i:Instr)(m:Mach):Bool:=i.op==m.op&&i.imm==m.imm&&i.op != 2&&i.op != 18
def termsZ(a b:Term):Bool:=a.kind==b.kind&&a.to==b.to&&a.els==b.els
def alignS(code:List Instr)(mach:List Mach):Nat→Nat→Nat→List ARow→List ARow × Nat × Int
 | 0,_,k,_=>([],k,20)
 | f+1,i,k,rows=>
  if skipW isCopy code i=code.length∧skipW isMove mach k=mach.length then (rows++[⟨i,skipW isCopy code i,k,skipW isMove mach k,-1,-1⟩],skipW isMove mach k,0)
  else match code[skipW isCopy code i]?,mach[skipW isMove mach k]? with
   | some x,some y=>if sameI x y=true then alignS code mach f (skipW isCopy code i+1) (skipW isMove mach k+1) (rows++[⟨i,skipW isCopy code i,k,skipW isMove mach k,skipW isCopy code i,skipW isMove mach k⟩]) else ([],skipW isMove mach k,20)
   | _,_=>([],skipW isMove mach k,20)
def alignZ(code:List Instr)(mach:List Mach):List ARow × Nat × Int:=alignS code mach (code.length+1) 0 0 []
section
variable {P:Program} {p:Nums}
theorem Jt77(A:All P p)(i:Instr):Jt51 P p.Yf29 [i.av] [] fun o _=>o=.ret (AB (isCopy i)):=by
 refine A.Yf29.run rfl fun R hR=>?_
 (simp (maxSteps:=9^6)[Jths,Instr.av])
 (first|exact hR _ _ FrA|exact hR _ _ FnA|exact hR _ _ (Xf (hq:=by simp [AV.erase,AV.unview,isCopy];done)))
theorem Jt79(A:All P p)(m:Mach):Jt51 P p.Yf2b [m.av] [] fun o _=>o=.ret (AB (isMove m)):=by
 refine A.Yf2b.run rfl fun R hR=>?_
 (simp (maxSteps:=9^6)[Jtht,Mach.av])
 (first|exact hR _ _ FrA|exact hR _ _ FnA|exact hR _ _ (Xf (hq:=by simp [AV.erase,AV.unview,isMove];done)))
theorem Jt72(A:All P p)(i:Instr)(m:Mach):Jt51 P p.Yf2c [i.av,m.av] [] fun o _=>o=.ret (AB (sameI i m)):=by
 refine A.Yf2c.run rfl fun R hR=>?_
 have hs:sameI i m=sameI i m:=rfl
 conv at hs=>rhs;unfold sameI
 cases h1:i.op==m.op<;>cases h2:i.imm==m.imm<;>cases h3:i.op != 2<;>cases h4:i.op != 18<;>simp only [h1,h2,h3,h4,Bool.and_true,Bool.and_false,Bool.false_and,Bool.and_self] at hs<;>
  (simp (maxSteps:=9^6)[Jthq,Instr.av,Mach.av,h1,h2,h3,h4])<;>(first|exact hR _ _ FrA|exact hR _ _ FnA|exact hR _ _ (Xf (hq:=by simp [AV.erase,AV.unview,hs];done)))
theorem Jt75(A:All P p)(a b:Term):Jt51 P p.Yf23 [a.av,b.av] [] fun o _=>o=.ret (AB (termsZ a b)):=by
 refine A.Yf23.run rfl fun R hR=>?_
 have hs:termsZ a b=termsZ a b:=rfl
 conv at hs=>rhs;unfold termsZ
 cases h1:a.kind==b.kind<;>cases h2:a.to==b.to<;>cases h3:a.els==b.els<;>simp only [h1,h2,h3,Bool.and_true,Bool.and_false,Bool.false_and,Bool.and_self] at hs<;>
  (simp (maxSteps:=9^6)[Jthr,Term.av,h1,h2,h3])<;>(first|exact hR _ _ FrA|exact hR _ _ FnA|exact hR _ _ (Xf (hq:=by simp [AV.erase,AV.unview,hs];done)))
theorem Jt7d(A:All P p)(l:List Instr)(i:Nat)(h0:l.length<1000000)(h1:i<1000000):Jt51 P p.Yf28 [.d (.sl (l.map Instr.row)),AI i,.fn (.func p.Yf29) [] []] [] fun o _=>o=.ret (AI (skipW isCopy l i)):=by
 refine A.Yf28.run rfl fun R hR=>?_
 (simp (maxSteps:=9^6)[Jthu])
 refine Jtf (fun k:Nat=>⟨[(1,AI k),(2,.fn (.func p.Yf29) [] []),(0,.d (.sl (l.map Instr.row)))],[]⟩) (fun k=>k<1000000+l.length∧skipW isCopy l k=skipW isCopy l i) (fun k=>l.length-k) i (by simp;omega) (by (exact wkA)) ?_
 rintro k ⟨hk,hs⟩ N hN
 (simp (maxSteps:=9^6)[])
 ((first|refine Xc ?_ ?_|refine Xo ?_ ?_)<;>intro h2<;>try simp only [Xz,Xy] at h2)
 ·have hkl:k<l.length:=by simpa using h2
  have hki:l[k]?=some l[k]:=by simp [hkl]
  have hw:=Jt1le (k:=k) (by omega)
  (simp (maxSteps:=9^6)[h2,lgM,hki,Instr.row])
  refine ⟨_,[],[],_,rfl,A.Yf29.ok,rfl,?_⟩
  (refine Jt17 (Jt77 A l[k]) (by rfl) (by rfl) ?_)
  cases hc:isCopy l[k] with
  | true=>
   (simp (maxSteps:=9^6)[h2,hc,hw])
   exact hN _ (k+1) ⟨by omega,by rw [←Jt17z hkl hc];exact hs⟩ (by (exact wkA)) (by omega)
  | false=>
   rw [Jt17w hkl hc] at hs
   (simp (maxSteps:=9^6)[h2,hc])
   (first|exact hR _ _ FrA|exact hR _ _ FnA|exact hR _ _ (Xf (hq:=by simp [AV.erase,AV.unview,hs];done)))
 ·have hkl:l.length≤k:=by simpa using h2
  rw [Jt17v hkl] at hs
  (simp (maxSteps:=9^6)[h2])
  (first|exact hR _ _ FrA|exact hR _ _ FnA|exact hR _ _ (Xf (hq:=by simp [AV.erase,AV.unview,hs];done)))
theorem Jt7h(A:All P p)(l:List Mach)(i:Nat)(h0:l.length<1000000)(h1:i<1000000):Jt51 P p.Yf2a [.d (.sl (l.map Mach.row)),AI i,.fn (.func p.Yf2b) [] []] [] fun o _=>o=.ret (AI (skipW isMove l i)):=by
 refine A.Yf2a.run rfl fun R hR=>?_
 (simp (maxSteps:=9^6)[Jthv])
 refine Jtf (fun k:Nat=>⟨[(1,AI k),(2,.fn (.func p.Yf2b) [] []),(0,.d (.sl (l.map Mach.row)))],[]⟩) (fun k=>k<1000000+l.length∧skipW isMove l k=skipW isMove l i) (fun k=>l.length-k) i (by simp;omega) (by (exact wkA)) ?_
 rintro k ⟨hk,hs⟩ N hN
 (simp (maxSteps:=9^6)[])
 ((first|refine Xc ?_ ?_|refine Xo ?_ ?_)<;>intro h2<;>try simp only [Xz,Xy] at h2)
 ·have hkl:k<l.length:=by simpa using h2
  have hki:l[k]?=some l[k]:=by simp [hkl]
  have hw:=Jt1le (k:=k) (by omega)
  (simp (maxSteps:=9^6)[h2,lgM,hki,Mach.row])
  refine ⟨_,[],[],_,rfl,A.Yf2b.ok,rfl,?_⟩
  (refine Jt17 (Jt79 A l[k]) (by rfl) (by rfl) ?_)
  cases hc:isMove l[k] with
  | true=>
   (simp (maxSteps:=9^6)[h2,hc,hw])
   exact hN _ (k+1) ⟨by omega,by rw [←Jt17z hkl hc];exact hs⟩ (by (exact wkA)) (by omega)
  | false=>
   rw [Jt17w hkl hc] at hs
   (simp (maxSteps:=9^6)[h2,hc])
   (first|exact hR _ _ FrA|exact hR _ _ FnA|exact hR _ _ (Xf (hq:=by simp [AV.erase,AV.unview,hs];done)))
 ·have hkl:l.length≤k:=by simpa using h2
  rw [Jt17v hkl] at hs
  (simp (maxSteps:=9^6)[h2])
  (first|exact hR _ _ FrA|exact hR _ _ FnA|exact hR _ _ (Xf (hq:=by simp [AV.erase,AV.unview,hs];done)))
end
section
variable {P:Program} {p:Nums}
theorem Jt6z(A:All P p)(code:List Instr)(mach:List Mach)(h0:code.length<500000)(h1:mach.length<500000):Jt51 P p.Yf22 [.d (.sl (code.map Instr.row)),.d (.sl (mach.map Mach.row))] []
  fun o _=>o=.ret (.tup [.d (.sl ((alignZ code mach).1.map ARow.row)),AI (alignZ code mach).2.1,AI (alignZ code mach).2.2]):=by
 refine A.Yf22.run rfl fun R hR=>?_
 obtain ⟨T,hT⟩:∃ T,T=alignZ code mach:=⟨_,rfl⟩
 rw [←hT] at hR
 (simp (maxSteps:=9^6)[Jthp])
 refine Jtf (fun x:Nat × Nat × Nat × List ARow=>⟨[(7,.own 6 (x.2.2.2.map ARow.row)),(8,AI x.2.1),(9,AI x.2.2.1),(0,.d (.sl (code.map Instr.row))),(1,.d (.sl (mach.map Mach.row)))],[]⟩)
  (fun x=>x.2.1≤code.length∧x.2.2.1≤mach.length∧code.length+1≤x.1+x.2.1∧x.2.2.2.length≤x.2.1∧alignS code mach x.1 x.2.1 x.2.2.1 x.2.2.2=T) (fun x=>code.length+1-x.2.1) (code.length+1,0,0,[]) (by simp [hT,alignZ]) (by simp only [List.map_nil];(exact wkA)) ?_
 rintro ⟨f,i,k,rows⟩ ⟨hi,hk,hf,hrl,hal⟩ N hN
 simp only at hi hk hf hrl hal
 obtain ⟨f,rfl⟩:∃ g,f=g+1:=⟨f-1,by omega⟩
 have hsi:=Jt7d A code i (by omega) (by omega)
 have hsk:=Jt7h A mach k (by omega) (by omega)
 have hile:=Jt17y (f:=isCopy) hi
 have hkle:=Jt17y (f:=isMove) hk
 have hige:=Jt17x isCopy code i
 simp only [alignS] at hal
 obtain ⟨si,hsie⟩:∃ x,x=skipW isCopy code i:=⟨_,rfl⟩
 obtain ⟨sk,hske⟩:∃ x,x=skipW isMove mach k:=⟨_,rfl⟩
 rw [←hsie] at hsi hal hile hige
 rw [←hske] at hsk hal hkle
 (simp (maxSteps:=9^6)[])
 (refine Jt17 hsi (by rfl) (by rfl) ?_)
 (simp (maxSteps:=9^6)[])
 (refine Jt17 hsk (by rfl) (by rfl) ?_)
 obtain ⟨F,hF⟩:∃ F,F=rows.map ARow.row:=⟨_,rfl⟩
 have hFl:F.length=rows.length:=by rw [hF];simp
 rw [←hF]
 by_cases h2:si=code.length
 ·by_cases h3:sk=mach.length
  ·rw [if_pos ⟨h2,h3⟩] at hal
   (simp (maxSteps:=9^6)[h2,h3])
   (refine Jt1o (by rfl) (by rfl) (by rfl) ?_ (by decide) ?_ ?_ ?_)
   ·simp
   ·simp;omega
   ·simp;omega
   (simp (maxSteps:=9^6)[])
   refine hR _ _ (Jt59 _ _ rfl (by (exact wkvA)) ?_)
   rw [←hal]
   simp [hF,ARow.row,h2,h3]
  ·rw [if_neg (fun h=>h3 h.2)] at hal
   have hb3:((sk:Int)==(mach.length:Int))=false:=by simp;omega
   have hc:code[si]?=none:=List.getElem?_eq_none (by omega)
   rw [hc] at hal
   simp only at hal
   (simp (maxSteps:=9^6)[h2,h3,hb3])
   refine hR _ _ (Jt59 (.tup [.nils,AI sk,AI 20]) (.tup [.d (.sl []),AI sk,AI 20]) rfl (by (exact wkvA)) ?_)
   rw [←hal];rfl
 ·have hb2:((si:Int)==(code.length:Int))=false:=by simp;omega
  rw [if_neg (fun h=>h2 h.1)] at hal
  have hcl:si<code.length:=by omega
  have hci:code[si]?=some code[si]:=by simp [hcl]
  by_cases h3:sk=mach.length
  ·have hc:mach[sk]?=none:=List.getElem?_eq_none (by omega)
   rw [hci,hc] at hal
   simp only at hal
   (simp (maxSteps:=9^6)[h2,h3,hb2])
   refine hR _ _ (Jt59 (.tup [.nils,AI mach.length,AI 20]) (.tup [.d (.sl []),AI mach.length,AI 20]) rfl (by (exact wkvA)) ?_)
   rw [←hal];simp [h3]
  ·have hkl:sk<mach.length:=by omega
   have hki:mach[sk]?=some mach[sk]:=by simp [hkl]
   rw [hci,hki] at hal
   simp only at hal
   have hb3:((sk:Int)==(mach.length:Int))=false:=by simp;omega
   (simp (maxSteps:=9^6)[h2,h3,hb2,hb3,lgM,hci,hki,Instr.row,Mach.row])
   (refine Jt17 (Jt72 A code[si] mach[sk]) (by rfl) (by rfl) ?_)
   cases hs:sameI code[si] mach[sk] with
   | false=>
    rw [hs] at hal
    simp only [Bool.false_eq_true,if_false] at hal
    (simp (maxSteps:=9^6)[hs])
    refine hR _ _ (Jt59 (.tup [.nils,AI sk,AI 20]) (.tup [.d (.sl []),AI sk,AI 20]) rfl (by (exact wkvA)) ?_)
    rw [←hal];rfl
   | true=>
    rw [hs,if_pos rfl] at hal
    have hw1:=Jt1le (k:=si) (by omega)
    have hw2:=Jt1le (k:=sk) (by omega)
    (simp (maxSteps:=9^6)[hs])
    (refine Jt1o (by rfl) (by rfl) (by rfl) ?_ (by decide) ?_ ?_ ?_)
    ·simp
    ·simp;omega
    ·simp;omega
    (simp (maxSteps:=9^6)[hw1,hw2])
    exact hN _ (f,si+1,sk+1,rows++[⟨i,si,k,sk,si,sk⟩]) ⟨hcl,hkl,by simp only;omega,by simp only [List.length_append,List.length_singleton];omega,hal⟩ (by simp only [List.map_append,List.map_cons,List.map_nil,←hF,ARow.row];(exact wkA)) (by simp only;omega)
end
theorem Jt6i{code:List Instr}{mach:List Mach}:∀ (f i k:Nat) (rows:List ARow),i≤code.length→k≤mach.length→(∀ r∈rows,RowOk code mach r)→rows.length≤i→
  (∀ r∈(alignS code mach f i k rows).1,RowOk code mach r)∧(alignS code mach f i k rows).1.length≤code.length+1∧(alignS code mach f i k rows).2.1≤mach.length:=by
 intro f
 induction f with
 | zero=>intro i k rows hi hk h hl;exact ⟨fun r hr=>by simp [alignS] at hr,by simp [alignS],by simpa [alignS] using hk⟩
 | succ f ih=>
  intro i k rows hi hk h hl
  have h1:=Jt17y (f:=isCopy) hi
  have h2:=Jt17y (f:=isMove) hk
  have h3:=Jt17x isCopy code i
  have h4:=Jt17x isMove mach k
  simp only [alignS]
  split
  ·refine ⟨fun r hr=>?_,by simp;omega,h2⟩
   rcases List.mem_append.1 hr with hr | hr
   ·exact h r hr
   ·simp only [List.mem_singleton] at hr
    subst hr
    exact ⟨⟨h3,h1⟩,⟨h4,h2⟩,fun h=>by simp at h⟩
  ·split
   ·rename_i x y hx hy
    have hx':=(lgS.1 hx).1
    have hy':=(lgS.1 hy).1
    split
    ·refine ih _ _ _ hx' hy' (fun r hr=>?_) (by simp only [List.length_append,List.length_singleton];omega)
     rcases List.mem_append.1 hr with hr | hr
     ·exact h r hr
     ·simp only [List.mem_singleton] at hr
      subst hr
      exact ⟨⟨h3,h1⟩,⟨h4,h2⟩,fun _=>⟨by simp;omega,by simp,by simp;omega⟩⟩
    ·exact ⟨fun r hr=>by simp at hr,by simp,h2⟩
   ·exact ⟨fun r hr=>by simp at hr,by simp,h2⟩
theorem Jt6l(code:List Instr)(mach:List Mach):(∀ r∈(alignZ code mach).1,RowOk code mach r)∧(alignZ code mach).1.length≤code.length+1∧(alignZ code mach).2.1≤mach.length:=
 Jt6i _ 0 0 [] (Nat.zero_le _) (Nat.zero_le _) (fun r hr=>by simp at hr) (Nat.le_refl _)
theorem Jttz{code:List Instr}{mach:List Mach}{rows:List ARow}(h:∀ r∈rows,RowOk code mach r):needRs rows≤rows.length*(3+mach.length+code.length):=by
 induction rows with
 | nil=>simp [needRs]
 | cons r rows ih=>
  have h1:=h r (by simp)
  have h2:=ih fun r hr=>h r (by simp [hr])
  rw [Jtty,List.length_cons,Nat.add_mul,Nat.one_mul]
  have:=h1.hc
  have:=h1.hm
  unfold needR;omega
structure Res where (out:List Pair) (err at_:Int) (steps largest:Nat)
 deriving DecidableEq
def Res.av(r:Res):AV:=.agg [.d (pairsD r.out),AI r.err,AI r.at_,AI r.steps,AI r.largest]
def checkZ(b:Block)(m:MBlock)(l:List Pair)(most:Int):Res:=
 if (l.length:Int)>most then ⟨[],24,0,0,l.length⟩
 else
  let a:=alignZ b.code m.code
  let why:=if a.2.2=0∧termsZ b.term m.term=false then 20 else a.2.2
  if why≠0 then ⟨[],why,a.2.1,0,l.length⟩
  else
   let r:=runC most b m a.1 ⟨makeP l,0,l.length⟩
   ⟨if (runE m r.2).1=0 then r.1.set else [],(runE m r.2).1,(runE m r.2).2,r.1.steps,r.1.largest⟩
section
variable {P:Program} {p:Nums}
theorem Jt8j(A:All P p)(S:SortOk P p)(C:ClosOk P p){V L:List Int}(b:Block)(m:MBlock)(l:List Pair)(most:Int)(hl:∀ q∈l,q.v∈V∧q.l∈L)(hv:VLOk V L b.code m.code)(few:V.length*L.length<100000)(hl0:l.length<100000)
  (hb0:b.code.length≤1000) (hm0:m.code.length≤1000):Jt51 P p.Yf1v [b.av,m.av,.d (pairsD l),AI most] [] fun o _=>o=.ret (checkZ b m l most).av:=by
 refine A.Yf1v.run rfl fun R hR=>?_
 obtain ⟨T,hT⟩:∃ T,T=checkZ b m l most:=⟨_,rfl⟩
 rw [←hT] at hR
 have hspec:T=checkZ b m l most:=hT
 unfold checkZ at hspec
 obtain ⟨ha1,ha2,ha3⟩:=Jt6l b.code m.code
 have hal:=Jt6z A b.code m.code (by omega) (by omega)
 have htm:=Jt75 A b.term m.term
 have hmk:=Jtwa A S l (by omega)
 have hover:Over V L (makeP l):=⟨Jt1dc l,fun q hq=>hl q (Jtsp.1 hq)⟩
 have hroom:Room V L ⟨makeP l,0,l.length⟩ (needRs (alignZ b.code m.code).1+1):=by
  refine ⟨hover,few,?_,by simp only;omega⟩
  have h1:=Jttz ha1
  have h2:(alignZ b.code m.code).1.length*(3+m.code.length+b.code.length)≤1001*2003:=Nat.mul_le_mul (by omega) (by omega)
  simp only
  omega
 have hrun:=Jt9f A S C ⟨makeP l,0,l.length⟩ most b m (alignZ b.code m.code).1 hroom hv ha1 (by omega) (by omega) (by omega)
 obtain ⟨al,hale⟩:∃ a,a=alignZ b.code m.code:=⟨_,rfl⟩
 rw [←hale] at hal hrun hspec
 obtain ⟨rows,at_,why⟩:=al
 obtain ⟨⟨t,e⟩,hre⟩:∃ r,r=runC most b m rows ⟨makeP l,0,l.length⟩:=⟨_,rfl⟩
 simp only at hal hrun hspec
 rw [←hre] at hrun hspec
 obtain ⟨re,hree⟩:∃ x,x=runE m e:=⟨_,rfl⟩
 simp only at hrun hspec
 rw [←hree] at hrun hspec
 obtain ⟨mk,hmke⟩:∃ x,x=makeP l:=⟨_,rfl⟩
 rw [←hmke] at hmk hrun
 obtain ⟨tz,htz⟩:∃ x,x=termsZ b.term m.term:=⟨_,rfl⟩
 rw [←htz] at htm hspec
 obtain ⟨code,kind,ta,to,els⟩:=b
 obtain ⟨mcode,mkind,mta,mto,mels⟩:=m
 simp only [Block.av,MBlock.av,Term.av] at hal hrun htm ⊢
 by_cases h1:most<(l.length:Int)
 ·rw [if_pos h1] at hspec
  (simp (maxSteps:=9^6)[Jthw,pairsD,h1])
  refine hR _ _ (Jt59 (.agg [.nils,AI 24,AI 0,AI 0,AI l.length]) (.agg [.d (.sl []),AI 24,AI 0,AI 0,AI l.length]) rfl (by (exact wkvA)) ?_)
  rw [hspec];rfl
 ·rw [if_neg h1] at hspec
  (simp (maxSteps:=9^6)[Jthw,pairsD,h1])
  (refine Jt17 hal (by rfl) (by rfl) ?_)
  by_cases hw:why=0
  ·subst hw
   (simp (maxSteps:=9^6)[])
   (refine Jt17 htm (by rfl) (by rfl) ?_)
   cases tz with
   | false=>
    simp only [and_self,if_true,ne_eq,reduceCtorEq,not_false_eq_true,Int.reduceEq] at hspec
    (simp (maxSteps:=9^6)[])
    refine hR _ _ (Jt59 (.agg [.nils,AI 20,AI at_,AI 0,AI l.length]) (.agg [.d (.sl []),AI 20,AI at_,AI 0,AI l.length]) rfl (by (exact wkvA)) ?_)
    rw [hspec];rfl
   | true=>
    simp only [Bool.true_eq_false,and_false,if_false,ne_eq,not_true_eq_false] at hspec
    (simp (maxSteps:=9^6)[pairsD])
    (refine Jt17 hmk (by rfl) (by rfl) ?_)
    (simp (maxSteps:=9^6)[pairsD])
    refine Jt19 [3] hrun (by decide) (by rfl) (by rfl) (by rfl) (by rfl) (by rfl) (by rfl) ?_
    (simp (maxSteps:=9^6)[ckB])
    by_cases hz:re.1=0
    ·rw [if_pos hz] at hspec
     (simp (maxSteps:=9^6)[hz,pairsD])
     refine hR _ _ (Jt59 (.agg [.d (.sl (t.set.map Pair.row)),AI 0,AI re.2,AI t.steps,AI t.largest]) _ rfl (by (exact wkvA)) ?_)
     rw [hspec,hz];rfl
    ·rw [if_neg hz] at hspec
     have hzb:(re.1==0)=false:=by simpa using hz
     (simp (maxSteps:=9^6)[hz,hzb,pairsD])
     refine hR _ _ (Jt59 (.agg [.nils,AI re.1,AI re.2,AI t.steps,AI t.largest]) (.agg [.d (.sl []),AI re.1,AI re.2,AI t.steps,AI t.largest]) rfl (by (exact wkvA)) ?_)
     rw [hspec];rfl
  ·have hwb:(why==0)=false:=by simpa using hw
   simp only [hw,false_and,if_false,ne_eq,not_false_eq_true,if_true] at hspec
   (simp (maxSteps:=9^6)[hw,hwb])
   refine hR _ _ (Jt59 (.agg [.nils,AI why,AI at_,AI 0,AI l.length]) (.agg [.d (.sl []),AI why,AI at_,AI 0,AI l.length]) rfl (by (exact wkvA)) ?_)
   rw [hspec];rfl
end
def okZ(n:Int):Prop:=-9223372036854775808≤n∧n≤9223372036854775807
def Jt14w(i:Mach)(regs slots:Int):Int:=
 if i.op<1∨18<i.op∨i.op=2 then 8
 else if i.op=18 then
  if rngZ i.dst regs slots=false∨rngZ i.src regs slots=false∨(i.dst.tmod 2=1∧i.src.tmod 2=1) then 10
  else if i.d≠0∨i.a≠0∨i.b≠0∨i.imm≠0 then 12 else 0
 else if Jt14t ⟨i.op,i.d,i.a,i.b,i.imm⟩ regs=0∧(i.dst≠0∨i.src≠0) then 12 else Jt14t ⟨i.op,i.d,i.a,i.b,i.imm⟩ regs
section
variable {P:Program} {p:Nums}
end
def mErr(code:List Mach)(regs slots:Int)(j:Nat):Int:=match code[j]? with
 | none=>0
 | some x=>if Jt14w x regs slots≠0 then Jt14w x regs slots else if 64≤j∧64<Jt14x ((code.take (j+1)).drop (j-64)) then 15 else 0
def mErrs(code:List Mach)(regs slots:Int):Int:=Jtfy ((List.range code.length).map (mErr code regs slots))
def Jt14u(b:MBlock)(regs slots blocks:Int):Int:=if mErrs b.code regs slots≠0 then mErrs b.code regs slots else Jt14z b.term regs blocks
def Jt14v(f:MFunc):Int:=
 if f.args<0∨f.slots<f.args then 10 else if f.regs<0 then 9 else if 1048576<f.slots∨1048576<f.regs then 6 else if f.blocks.length=0 then 14 else if 1048576<f.blocks.length∨1048576<mcodeN f.blocks then 6
 else Jtfy (f.blocks.map fun b=>Jt14u b f.regs f.slots f.blocks.length)
def okM(b:MBlock):Prop:=∀ x∈b.code,okZ x.dst∧okZ x.src
section
variable {P:Program} {p:Nums}
end
structure Bd (most:Int) (m n:Nat) (s:CS) (r:CR):Prop where
 steps:r.1.steps≤s.steps+n*(r.1.largest+1)
 lg:s.largest≤r.1.largest
 set:r.1.set.length≤r.1.largest
 most:r.2=none→(s.largest:Int)≤most→(r.1.largest:Int)≤most
 fail:∀ e,r.2=some e→e.1≠0∧0≤e.2∧e.2≤m
section
variable {most:Int} {m:Nat} {s:CS}
theorem Bd.refl(h:s.set.length≤s.largest):Bd most m 0 s (s,none):=⟨by simp,Nat.le_refl _,h,fun _ h=>h,fun e h=>by cases h⟩
theorem Bd.mono{n n':Nat}{r:CR}(h:Bd most m n s r)(hn:n≤n'):Bd most m n' s r:=
 ⟨Nat.le_trans h.steps (Nat.add_le_add_left (Nat.mul_le_mul_right _ hn) _),h.lg,h.set,h.most,h.fail⟩
theorem Bd.then{n1 n2:Nat}{r:CR}{f:CS→CR}(h:Bd most m n1 s r)(hf:∀ s1,r=(s1,none)→Bd most m n2 s1 (f s1)):Bd most m (n1+n2) s (thenC r f):=by
 obtain ⟨s1,e⟩:=r
 cases e with
 | some e=>rw [Jt1ef];exact h.mono (by omega)
 | none=>
  rw [Jt1ee]
  have h2:=hf s1 rfl
  refine ⟨?_,Nat.le_trans h.lg h2.lg,h2.set,fun hn hm=>h2.most hn (h.most rfl hm),h2.fail⟩
  have k1:=h.steps
  have k2:=h2.steps
  have k3:=h2.lg
  simp only at k1 k3
  have k4:n1*(s1.largest+1)≤n1*((f s1).1.largest+1):=Nat.mul_le_mul_left _ (by omega)
  rw [Nat.add_mul]
  omega
theorem Bd.use{v t at_:Int}(h:s.set.length≤s.largest)(h0:0≤at_)(h1:at_≤m):Bd most m 1 s (useC s v t at_):=by
 refine ⟨?_,Nat.le_refl _,h,fun _ h=>h,fun e he=>?_⟩
 ·simp only [useC,costC];omega
 ·simp only [useC] at he
  split at he
  ·cases he
  ·injection he with he;subst he;exact ⟨by simp,h0,h1⟩
theorem Bd.step{l:List Pair}{at_:Int}(h:s.set.length≤s.largest)(h0:0≤at_)(h1:at_≤m):Bd most m 1 s (Jt7w most (costC s) l at_):=by
 refine ⟨?_,?_,?_,fun hn hm=>?_,fun e he=>?_⟩
 ·simp only [Jt7w,costC];omega
 ·simp only [Jt7w,costC];omega
 ·simp only [Jt7w,costC];omega
 ·simp only [Jt7w,costC] at hn ⊢
  split at hn
  ·cases hn
  ·omega
 ·simp only [Jt7w] at he
  split at he
  ·injection he with he;subst he;exact ⟨by simp,h0,h1⟩
  ·cases he
theorem Jtcr{at_:Int}(h0:0≤at_)(h1:at_≤m):∀ {l:List Instr} {s:CS},s.set.length≤s.largest→Bd most m l.length s (copyC most at_ l s):=by
 intro l
 induction l with
 | nil=>intro s h;exact .refl h
 | cons i l ih=>
  intro s h
  simp only [copyC,List.length_cons]
  rw [Nat.add_comm]
  refine (Bd.step h h0 h1).then fun s1 hs1=>ih ?_
  have:=(Bd.step (most:=most) (m:=m) (l:=copyP s.set i.d i.a) h h0 h1).set
  rw [hs1] at this;exact this
theorem Jttr:∀ {l:List Mach} {k:Nat} {s:CS},k+l.length≤m→s.set.length≤s.largest→Bd most m l.length s (moveC most k l s):=by
 intro l
 induction l with
 | nil=>intro k s _ h;exact .refl h
 | cons i l ih=>
  intro k s hk h
  simp only [moveC,List.length_cons] at hk ⊢
  rw [Nat.add_comm l.length 1]
  have hst:=Bd.step (most:=most) (m:=m) (l:=moveP s.set i.dst i.src) (at_:=k) h (by omega) (by omega)
  refine hst.then fun s1 hs1=>ih (by omega) ?_
  have:=hst.set
  rw [hs1] at this;exact this
theorem Jtlb{i:Instr}{x:Mach}{at_:Int}(h:s.set.length≤s.largest)(h0:0≤at_)(h1:at_≤m):Bd most m 3 s (instrC most s i x at_):=by
 unfold instrC
 refine Bd.then (n1:=1) (n2:=2) ?_ fun s1 hs1=>Bd.then (n1:=1) (n2:=1) ?_ fun s2 hs2=>?_
 ·split
  ·exact .use h h0 h1
  ·exact (Bd.refl h).mono (by omega)
 ·have k1:s1.set.length≤s1.largest:=by
   split at hs1
   ·have:=(Bd.use (most:=most) (m:=m) (v:=i.a) (t:=regZ x.a) h h0 h1).set;rw [hs1] at this;exact this
   ·injection hs1 with hs1;subst hs1;exact h
  split
  ·exact .use k1 h0 h1
  ·exact (Bd.refl k1).mono (by omega)
 ·have k1:s1.set.length≤s1.largest:=by
   split at hs1
   ·have:=(Bd.use (most:=most) (m:=m) (v:=i.a) (t:=regZ x.a) h h0 h1).set;rw [hs1] at this;exact this
   ·injection hs1 with hs1;subst hs1;exact h
  have k2:s2.set.length≤s2.largest:=by
   split at hs2
   ·have:=(Bd.use (most:=most) (m:=m) (v:=i.b) (t:=regZ x.b) k1 h0 h1).set;rw [hs2] at this;exact this
   ·injection hs2 with hs2;subst hs2;exact k1
  split
  ·exact .step k2 h0 h1
  ·exact (Bd.refl k2).mono (by omega)
end
def costR(r:ARow):Nat:=(r.ct-r.cf)+(r.mt-r.mf)+if 0≤r.src then 3 else 0
theorem Jt16a{most:Int}{b:List Instr}{mc:List Mach}{r:ARow}{s:CS}(h:s.set.length≤s.largest)(hr:RowOk b mc r):Bd most mc.length (costR r) s (rowC most b mc r s):=by
 unfold rowC costR
 have hl1:((b.take r.ct).drop r.cf).length=r.ct-r.cf:=by have:=hr.hc;simp;omega
 have hl2:((mc.take r.mt).drop r.mf).length=r.mt-r.mf:=by have:=hr.hm;simp;omega
 have b1:=Jtcr (most:=most) (m:=mc.length) (at_:=r.mf) (by omega) (by have:=hr.hm;omega) (l:=(b.take r.ct).drop r.cf) h
 rw [hl1] at b1
 rw [Nat.add_assoc]
 refine b1.then fun s1 hs1=>?_
 have k1:=b1.set
 rw [hs1] at k1
 have b2:=Jttr (most:=most) (m:=mc.length) (k:=r.mf) (l:=(mc.take r.mt).drop r.mf) (s:=s1) (by have:=hr.hm;rw [hl2];omega) k1
 rw [hl2] at b2
 refine b2.then fun s2 hs2=>?_
 have k2:=b2.set
 rw [hs2] at k2
 unfold lastC
 split
 ·rename_i h0
  obtain ⟨q1,q2,q3⟩:=hr.hs h0
  split
  ·exact Jtlb k2 q2 (by omega)
  ·exact (Bd.refl k2).mono (by omega)
 ·exact (Bd.refl k2).mono (by omega)
def costRs(rs:List ARow):Nat:=(rs.map costR).sum
theorem Jt16r{most:Int}{b:List Instr}{mc:List Mach}:∀ {rs:List ARow} {s:CS},s.set.length≤s.largest→(∀ r∈rs,RowOk b mc r)→Bd most mc.length (costRs rs) s (rowsC most b mc rs s):=by
 intro rs
 induction rs with
 | nil=>intro s h _;exact .refl h
 | cons r rs ih=>
  intro s h hr
  have b1:=Jt16a (most:=most) h (hr r (by simp))
  have e:costRs (r::rs)=costR r+costRs rs:=by simp [costRs]
  rw [e]
  refine b1.then fun s1 hs1=>ih ?_ fun r hr'=>hr r (by simp [hr'])
  have:=b1.set
  rw [hs1] at this;exact this
theorem Jt171{most:Int}{b:Block}{m:MBlock}{rs:List ARow}{s:CS}(h:s.set.length≤s.largest)(hr:∀ r∈rs,RowOk b.code m.code r):Bd most m.code.length (costRs rs+1) s (runC most b m rs s):=by
 unfold runC
 have b1:=Jt16r (most:=most) h hr
 refine b1.then fun s1 hs1=>?_
 have k1:=b1.set
 rw [hs1] at k1
 split
 ·exact (Bd.refl k1).mono (by omega)
 ·exact .use k1 (by omega) (by omega)
theorem Jtct(a b:List ARow):costRs (a++b)=costRs a+costRs b:=by simp [costRs]
theorem Jt6h{code:List Instr}{mach:List Mach}:∀ (f i k:Nat) (rows:List ARow),i≤code.length→k≤mach.length→costRs rows≤i+3*k→
  costRs (alignS code mach f i k rows).1≤code.length+3*mach.length:=by
 intro f
 induction f with
 | zero=>intro i k rows hi hk h;simp [alignS,costRs]
 | succ f ih=>
  intro i k rows hi hk h
  have h1:=Jt17y (f:=isCopy) hi
  have h2:=Jt17y (f:=isMove) hk
  have h3:=Jt17x isCopy code i
  have h4:=Jt17x isMove mach k
  simp only [alignS]
  split
  ·rename_i hc
   rw [Jtct]
   simp only [costRs,List.map_cons,List.map_nil,List.sum_cons,List.sum_nil,costR] at h ⊢
   rw [if_neg (by omega)]
   omega
  ·split
   ·rename_i x y hx hy
    have hx':=(lgS.1 hx).1
    have hy':=(lgS.1 hy).1
    split
    ·refine ih _ _ _ hx' hy' ?_
     rw [Jtct]
     simp only [costRs,List.map_cons,List.map_nil,List.sum_cons,List.sum_nil,costR] at h ⊢
     rw [if_pos (by omega)]
     omega
    ·simp [costRs]
   ·simp [costRs]
theorem Jt6k(code:List Instr)(mach:List Mach):costRs (alignZ code mach).1≤code.length+3*mach.length:=Jt6h _ 0 0 [] (Nat.zero_le _) (Nat.zero_le _) (by simp [costRs])
theorem Jtaw(b:Block)(m:MBlock)(l:List Pair)(most:Int)(hl:(makeP l).length≤l.length):(checkZ b m l most).steps≤(3*m.code.length+b.code.length+1)*((checkZ b m l most).largest+1)∧l.length≤(checkZ b m l most).largest∧
  (checkZ b m l most).out.length≤(checkZ b m l most).largest∧((checkZ b m l most).err=0→((checkZ b m l most).largest:Int)≤most)∧0≤(checkZ b m l most).at_∧(checkZ b m l most).at_≤m.code.length:=by
 obtain ⟨a1,a2,a3⟩:=Jt6l b.code m.code
 have hc:=Jt6k b.code m.code
 unfold checkZ
 split
 ·exact ⟨Nat.zero_le _,Nat.le_refl _,Nat.zero_le _,fun h=>by simp at h,by simp,by simp⟩
 ·rename_i h1
  by_cases h2:(if (alignZ b.code m.code).2.2=0∧termsZ b.term m.term=false then 20 else (alignZ b.code m.code).2.2)≠0
  ·simp only [if_pos h2]
   exact ⟨Nat.zero_le _,Nat.le_refl _,Nat.zero_le _,fun h=>absurd h h2,by simp,by simpa using a3⟩
  ·simp only [if_neg h2]
   have hb:=Jt171 (most:=most) (b:=b) (m:=m) (rs:=(alignZ b.code m.code).1) (s:=⟨makeP l,0,l.length⟩) hl a1
   generalize runC most b m (alignZ b.code m.code).1 ⟨makeP l,0,l.length⟩=r at hb
   obtain ⟨t,e⟩:=r
   obtain ⟨k1,k2,k3,k4,k5⟩:=hb
   simp only at k1 k2 k3 k4 k5 ⊢
   refine ⟨?_,k2,?_,fun h=>?_,?_,?_⟩
   ·have:(costRs (alignZ b.code m.code).1+1)*(t.largest+1)≤(3*m.code.length+b.code.length+1)*(t.largest+1):=Nat.mul_le_mul_right _ (by omega)
    omega
   ·split
    ·exact k3
    ·simp
   ·cases e with
    | none=>exact k4 rfl (by omega)
    | some e=>exact absurd h (k5 e rfl).1
   ·cases e with
    | none=>simp [runE]
    | some e=>exact (k5 e rfl).2.1
   ·cases e with
    | none=>simp [runE]
    | some e=>exact (k5 e rfl).2.2
def retB:Block:=⟨[],⟨3,0,0,0⟩⟩
def retM:MBlock:=⟨[],⟨3,0,0,0⟩⟩
theorem Jt61{H:List Blk}{b m n e:Nat}{rows:List (List D)} (hb:H[b]?=some (.mem (Jt16d rows))) (hm:m≤b) (hl:rows.length=n) (he:∀ r∈rows,r.length=e):WkT H m (.hsl b 0 e n) (.d (.sl rows)):=by
 refine .inl (.hsl b 0 e n (Jt16d rows) rows hb hm ?_ hl he)
 rw [List.drop_zero,List.take_of_length_le (by rw [Jt16l he,hl];exact Nat.le_refl _)];rfl
def smallZ(b:Block)(m:MBlock)(regs slots:Int):Prop:=
 ¬ (60:Int)<(b.code.length:Int)∧¬ (200:Int)<(m.code.length:Int)∧¬ 20<regs∧¬ 20<slots∧¬ 30<b.term.to∧¬ 30<b.term.els∧¬ 30<m.term.to∧¬ 30<m.term.els∧¬ b.term.to<0∧¬ b.term.els<0
instance (b:Block) (m:MBlock) (regs slots:Int):Decidable (smallZ b m regs slots):=by unfold smallZ;infer_instance
def fnB(b:Block):Func:=⟨0,20,b::List.replicate 30 retB⟩
def fnM(m:MBlock)(regs slots:Int):MFunc:=⟨0,regs,slots,m::List.replicate 30 retM⟩
section
variable {P:Program} {p:Nums}
end
section
variable {P:Program} {p:Nums}
end
section
variable {P:Program} {p:Nums}
end
section
variable {P:Program} {p:Nums}
end
def okC(r:CR):Prop:=∀ e,r.2=some e→e.1≠0
theorem okC.then{r:CR}{f:CS→CR}(h:okC r)(hf:∀ s,okC (f s)):okC (thenC r f):=by
 obtain ⟨s,e⟩:=r
 cases e with
 | none=>exact hf s
 | some e=>exact h
structure Inv14 (V L:List Int) (most:Int) (code:List Instr) (mcode:List Mach) (rows:List ARow) (T:CR) (x:Nat × CR):Prop where
 le:x.1≤rows.length
 eq:thenC x.2 (rowsC most code mcode (rows.drop x.1))=T
 ok:okC x.2
 room:x.2.2=none→Room V L x.2.1 (1+needRs (rows.drop x.1))
section
variable {P:Program} {p:Nums}
end
section
variable {P:Program} {p:Nums}
end
theorem Jt16s{V L:List Int}{most:Int}{b:List Instr}{m:List Mach}(hv:VLOk V L b m):∀ {rs:List ARow} {s:CS} {n:Nat},Room V L s (n+needRs rs)→(∀ r∈rs,RowOk b m r)→Room V L (rowsC most b m rs s).1 n:=by
 intro rs
 induction rs with
 | nil=>intro s n h _;simpa [needRs,rowsC] using h
 | cons r rs ih=>
  intro s n h hr
  rw [Jtty] at h
  have hro:=hr r (by simp)
  have hl1:((m.take r.mt).drop r.mf).length=r.mt-r.mf:=by have:=hro.hm;simp;omega
  have hl2:((b.take r.ct).drop r.cf).length=r.ct-r.cf:=by have:=hro.hc;simp;omega
  have h1:=Jt16c (n:=n+needRs rs) (most:=most) (r:=r) (h.mono (by rw [hl1,hl2];unfold needR;omega)) hv
  simp only [rowsC]
  generalize rowC most b m r s=q at h1
  obtain ⟨s1,e⟩:=q
  cases e with
  | some e=>rw [Jt1ef];exact h1.mono (by omega)
  | none=>rw [Jt1ee];exact ih h1 fun r hr'=>hr r (by simp [hr'])
theorem Jt172{V L:List Int}{most:Int}{b:Block}{m:MBlock}(hv:VLOk V L b.code m.code){rs:List ARow}{s:CS}{n:Nat}(h:Room V L s (n+1+needRs rs)) (hr:∀ r∈rs,RowOk b.code m.code r):Room V L (runC most b m rs s).1 n:=by
 unfold runC
 have h1:=Jt16s (most:=most) hv h hr
 generalize rowsC most b.code m.code rs s=q at h1
 obtain ⟨s1,e⟩:=q
 cases e with
 | some e=>rw [Jt1ef];exact h1.mono (by omega)
 | none=>
  rw [Jt1ee]
  split
  ·exact h1.mono (by omega)
  ·exact h1.use _ _ _
theorem Jtb0{V L:List Int}{b:Block}{m:MBlock}{l:List Pair}{most:Int}(hl:∀ q∈l,q.v∈V∧q.l∈L)(hv:VLOk V L b.code m.code)(few:V.length*L.length<100000)(hl0:l.length<100000)
  (hb0:b.code.length≤1000) (hm0:m.code.length≤1000):(checkZ b m l most).largest<100000∧∀ q∈(checkZ b m l most).out,q.v∈V∧q.l∈L:=by
 obtain ⟨a1,a2,a3⟩:=Jt6l b.code m.code
 unfold checkZ
 split
 ·exact ⟨hl0,fun q hq=>by simp at hq⟩
 ·by_cases h2:(if (alignZ b.code m.code).2.2=0∧termsZ b.term m.term=false then 20 else (alignZ b.code m.code).2.2)≠0
  ·simp only [if_pos h2];exact ⟨hl0,fun q hq=>by simp at hq⟩
  ·simp only [if_neg h2]
   have hover:Over V L (makeP l):=⟨Jt1dc l,fun q hq=>hl q (Jtsp.1 hq)⟩
   have hroom:Room V L ⟨makeP l,0,l.length⟩ (0+1+needRs (alignZ b.code m.code).1):=by
    refine ⟨hover,few,?_,by simp only;omega⟩
    have h1:=Jttz a1
    have h2:(alignZ b.code m.code).1.length*(3+m.code.length+b.code.length)≤1001*2003:=Nat.mul_le_mul (by omega) (by omega)
    simp only
    omega
   have hr:=Jt172 (most:=most) hv hroom a1
   generalize runC most b m (alignZ b.code m.code).1 ⟨makeP l,0,l.length⟩=r at hr
   obtain ⟨t,e⟩:=r
   refine ⟨hr.lg,fun q hq=>?_⟩
   simp only at hq
   split at hq
   ·exact hr.over.mem q hq
   ·simp at hq
section
variable {P:Program} {p:Nums}
end
section
variable {P:Program} {p:Nums}
end
def Jtq4:List LT:=[ltI,ltI,ltI,ltI,ltI]
def Jtq3:List LT:=[.sl Jtq4,ltI,ltI,ltI,ltI]
theorem Jtlh{r:List D}(h:HasL Jtq4 r):∃ i:Instr,r=i.row:=by
 obtain ⟨_,_,rfl,h0,h⟩:=h.cons_inv
 obtain ⟨_,_,rfl,h1,h⟩:=h.cons_inv
 obtain ⟨_,_,rfl,h2,h⟩:=h.cons_inv
 obtain ⟨_,_,rfl,h3,h⟩:=h.cons_inv
 obtain ⟨_,_,rfl,h4,h⟩:=h.cons_inv
 obtain rfl:=h.nil_inv
 obtain ⟨a,rfl,_⟩:=h0.int_inv
 obtain ⟨b,rfl,_⟩:=h1.int_inv
 obtain ⟨c,rfl,_⟩:=h2.int_inv
 obtain ⟨d,rfl,_⟩:=h3.int_inv
 obtain ⟨e,rfl,_⟩:=h4.int_inv
 exact ⟨⟨a,b,c,d,e⟩,rfl⟩
theorem Jt87{r:List D}(h:HasL Jtq3 r):∃ b:Block,r=b.row:=by
 obtain ⟨_,_,rfl,h0,h⟩:=h.cons_inv
 obtain ⟨_,_,rfl,h1,h⟩:=h.cons_inv
 obtain ⟨_,_,rfl,h2,h⟩:=h.cons_inv
 obtain ⟨_,_,rfl,h3,h⟩:=h.cons_inv
 obtain ⟨_,_,rfl,h4,h⟩:=h.cons_inv
 obtain rfl:=h.nil_inv
 obtain ⟨rows,rfl,_,hr⟩:=h0.sl_inv
 obtain ⟨code,rfl⟩:=Jt16v (fun r hr=>Jtlh hr) hr
 obtain ⟨b,rfl,_⟩:=h1.int_inv
 obtain ⟨c,rfl,_⟩:=h2.int_inv
 obtain ⟨d,rfl,_⟩:=h3.int_inv
 obtain ⟨e,rfl,_⟩:=h4.int_inv
 exact ⟨⟨code,⟨b,c,d,e⟩⟩,rfl⟩
def ltMach:List LT:=[ltI,ltI,ltI,ltI,ltI,ltI,ltI]
def Jtq5:List LT:=[.sl ltMach,ltI,ltI,ltI,ltI]
theorem Jtli{d:D}(h:HasT ltI d):∃ n,d=I n∧okZ n:=by
 obtain ⟨n,rfl,hw⟩:=h.int_inv
 refine ⟨n,rfl,?_⟩
 simp [Lit.wf,IntKind.min,IntKind.max,IntKind.signed,IntKind.bits] at hw
 exact ⟨by omega,by omega⟩
theorem Jtq8{r:List D}(h:HasL ltMach r):∃ i:Mach,r=i.row∧okZ i.dst∧okZ i.src:=by
 obtain ⟨_,_,rfl,h0,h⟩:=h.cons_inv
 obtain ⟨_,_,rfl,h1,h⟩:=h.cons_inv
 obtain ⟨_,_,rfl,h2,h⟩:=h.cons_inv
 obtain ⟨_,_,rfl,h3,h⟩:=h.cons_inv
 obtain ⟨_,_,rfl,h4,h⟩:=h.cons_inv
 obtain ⟨_,_,rfl,h5,h⟩:=h.cons_inv
 obtain ⟨_,_,rfl,h6,h⟩:=h.cons_inv
 obtain rfl:=h.nil_inv
 obtain ⟨a,rfl,_⟩:=h0.int_inv
 obtain ⟨b,rfl,_⟩:=h1.int_inv
 obtain ⟨c,rfl,_⟩:=h2.int_inv
 obtain ⟨d,rfl,_⟩:=h3.int_inv
 obtain ⟨e,rfl,_⟩:=h4.int_inv
 obtain ⟨f,rfl,o5⟩:=Jtli h5
 obtain ⟨g,rfl,o6⟩:=Jtli h6
 exact ⟨⟨a,b,c,d,e,f,g⟩,rfl,o5,o6⟩
theorem Jts1 {rows:List (List D)} (h:∀ r∈rows,HasL ltMach r):∃ l:List Mach,rows=l.map Mach.row∧∀ x∈l,okZ x.dst∧okZ x.src:=by
 induction rows with
 | nil=>exact ⟨[],rfl,by simp⟩
 | cons r rows ih=>
  obtain ⟨a,rfl,ha⟩:=Jtq8 (h r (by simp))
  obtain ⟨l,rfl,hb⟩:=ih fun r hr=>h r (by simp [hr])
  refine ⟨a::l,rfl,fun n hn=>?_⟩
  rcases List.mem_cons.1 hn with rfl | hn
  ·exact ha
  ·exact hb n hn
theorem Jtsb{r:List D}(h:HasL Jtq5 r):∃ b:MBlock,r=b.row∧okM b:=by
 obtain ⟨_,_,rfl,h0,h⟩:=h.cons_inv
 obtain ⟨_,_,rfl,h1,h⟩:=h.cons_inv
 obtain ⟨_,_,rfl,h2,h⟩:=h.cons_inv
 obtain ⟨_,_,rfl,h3,h⟩:=h.cons_inv
 obtain ⟨_,_,rfl,h4,h⟩:=h.cons_inv
 obtain rfl:=h.nil_inv
 obtain ⟨rows,rfl,_,hr⟩:=h0.sl_inv
 obtain ⟨code,rfl,hok⟩:=Jts1 hr
 obtain ⟨b,rfl,_⟩:=h1.int_inv
 obtain ⟨c,rfl,_⟩:=h2.int_inv
 obtain ⟨d,rfl,_⟩:=h3.int_inv
 obtain ⟨e,rfl,_⟩:=h4.int_inv
 exact ⟨⟨code,⟨b,c,d,e⟩⟩,rfl,hok⟩
def divsZ:Nat→Int→Int
 | 0,n=>n
 | k+1,n=>divsZ k (IntKind.u64.wrap (n.tdiv 2))
def bitZ(n:Int)(k:Nat):Bool:=(divsZ k n).tmod 2==1
def truthZ(b:Bool):Int:=if b=true then 1 else 0
def halfZ(a:Int):Int:=if a<0∧a.tmod 2≠0 then IntKind.i64.wrap (IntKind.i64.wrap (a.tdiv 2)-1) else IntKind.i64.wrap (a.tdiv 2)
def ixZ(a b:Int)(i:Nat):Nat:=(if bitZ (IntKind.u64.wrap a) i=true then 2 else 0)+if bitZ (IntKind.u64.wrap b) i=true then 1 else 0
def bitsZ(a b:Int)(t:Nat→Bool):Nat→Nat→Int→Int→Int
 | 0,i,out,p=>IntKind.i64.wrap out
 | r+1,i,out,p=>bitsZ a b t r (i+1) (if t (ixZ a b i)=true then IntKind.u64.wrap (out+p) else out) (IntKind.u64.wrap (p*2))
def shZ(op:Int):Nat→Int→Int
 | 0,a=>a
 | k+1,a=>shZ op k (if op=13 then IntKind.i64.wrap (a*2) else halfZ a)
section
variable {P:Program} {p:Nums}
end
def tAnd:Nat→Bool:=fun n=>n==3
def tOr:Nat→Bool:=fun n=>n != 0
def tXor:Nat→Bool:=fun n=>n==1||n==2
def quoZ(a b:Int):Int:=if b = -1 then IntKind.i64.wrap (0-a) else IntKind.i64.wrap (a.tdiv b)
def cntZ(b:Int):Int:=IntKind.i64.wrap ((IntKind.u64.wrap b).tmod 64)
def evalZ(op a b imm:Int):Int × Bool:=
 if op=1 then (imm,true) else if op=2 then (a,true) else if op=3 then (IntKind.i64.wrap (0-a),true) else if op=4 then (IntKind.i64.wrap (IntKind.i64.wrap (0-a)-1),true)
 else if op=5 then (IntKind.i64.wrap (a+b),true) else if op=6 then (IntKind.i64.wrap (a-b),true) else if op=7 then (IntKind.i64.wrap (a*b),true)
 else if op=8 then (if b=0 then (0,false) else (quoZ a b,true)) else if op=9 then (if b=0 then (0,false) else (IntKind.i64.wrap (a-IntKind.i64.wrap (b*quoZ a b)),true))
 else if op=10 then (bitsZ a b tAnd 64 0 0 1,true) else if op=11 then (bitsZ a b tOr 64 0 0 1,true) else if op=12 then (bitsZ a b tXor 64 0 0 1,true)
 else if op=13 then (shZ 13 (cntZ b).toNat a,true) else if op=14 then (shZ 14 (cntZ b).toNat a,true) else if op=15 then (truthZ (a==b),true) else if op=16 then (truthZ (decide (a<b)),true) else (0,false)
section
variable {P:Program} {p:Nums}
end
theorem Jt17s{x:Int}(h1:1≤x)(h2:x≤17):(shapeZ x).D=usesD x∧(shapeZ x).A=usesA x∧(shapeZ x).B=usesB x∧(shapeZ x).Imm=(x==1):=by
 have:x=1∨x=2∨x=3∨x=4∨x=5∨x=6∨x=7∨x=8∨x=9∨x=10∨x=11∨x=12∨x=13∨x=14∨x=15∨x=16∨x=17:=by omega
 rcases this with h | h | h | h | h | h | h | h | h | h | h | h | h | h | h | h | h<;>subst h<;>decide
theorem Jt1ck(x:Int):Jt1aj x=decide (1≤x∧x≤17):=by
 rw [Bool.eq_iff_iff];simp only [Jt1aj,knownZ,Bool.and_eq_true,decide_eq_true_eq,bne_iff_ne,ne_eq];omega
theorem out_eq(u:Bool)(v n:Int):(u&&(decide (v<0)||decide (n≤v)))=(u&&!inZ v n):=by
 cases u
 ·rfl
 ·rw [Bool.eq_iff_iff];simp [inZ]
theorem Jtle(i:Instr)(regs:Int):Jt1cz i regs=Jt14t i regs:=by
 unfold Jt1cz Jt14t
 by_cases h:i.op<1∨17<i.op
 ·rw [if_pos h,if_pos (by rw [Jt1ck];simp only [decide_eq_false_iff_not];omega)]
 ·obtain ⟨hD,hA,hB,hI⟩:=Jt17s (x:=i.op) (by omega) (by omega)
  rw [if_neg h,if_neg (by rw [Jt1ck];simp only [decide_eq_false_iff_not];omega)]
  have e1:Jt1l2 (flds i regs)=!bad9 i regs:=by
   simp only [Jt1l2,flds,bad9,List.any_cons,List.any_nil,Field.bad,hD,hA,hB,out_eq,Bool.or_false,Bool.or_assoc]
  have e2:blankZ (flds i regs)=!(!usesD i.op&&i.d != 0||!usesA i.op&&i.a != 0||!usesB i.op&&i.b != 0):=by
   simp only [blankZ,flds,List.any_cons,List.any_nil,Field.odd,hD,hA,hB,Bool.or_false,Bool.or_assoc]
  have e3:bad12 i=((!usesD i.op&&i.d != 0||!usesA i.op&&i.a != 0||!usesB i.op&&i.b != 0)||i.op != 1&&i.imm != 0):=rfl
  rw [e1,e2,e3,hI]
  generalize bad9 i regs=p1
  generalize (!usesD i.op&&i.d != 0||!usesA i.op&&i.a != 0||!usesB i.op&&i.b != 0)=p2
  cases p1
  ·cases p2
   ·by_cases c1:i.op=1<;>by_cases c2:i.imm=0<;>simp [c1,c2]
   ·simp
  ·simp
theorem Jt1eb(t:Term)(regs blocks:Int):Jt1d3 t regs blocks=Jt14z t regs blocks:=by
 unfold Jt1d3 Jt14z
 by_cases h:t.kind<1∨3<t.kind
 ·rw [if_pos h,if_neg (by omega),if_neg (by omega),if_neg (by omega)]
 ·rw [if_neg h]
  have hk:t.kind=1∨t.kind=2∨t.kind=3:=by omega
  have e1:Jt1l2 ((fldsT t regs blocks).take 1)=!((t.kind != 1)&&!inZ t.a regs):=by
   simp only [Jt1l2,fldsT,List.take_succ_cons,List.take_zero,List.any_cons,List.any_nil,Field.bad,out_eq,Bool.or_false]
  have e2:Jt1l2 ((fldsT t regs blocks).drop 1)=!((t.kind != 3)&&!inZ t.to blocks||(t.kind==2)&&!inZ t.els blocks):=by
   simp only [Jt1l2,fldsT,List.drop_succ_cons,List.drop_zero,List.any_cons,List.any_nil,Field.bad,out_eq,Bool.or_false]
  have e3:blankZ (fldsT t regs blocks)=!((!(t.kind != 1)&&t.a != 0)||(!(t.kind != 3)&&t.to != 0)||(!(t.kind==2)&&t.els != 0)):=by
   simp only [blankZ,fldsT,List.any_cons,List.any_nil,Field.odd,Bool.or_false,Bool.or_assoc]
  rw [e1,e2,e3]
  rcases hk with hk | hk | hk<;>rw [hk]<;>cases inZ t.a regs<;>cases inZ t.to blocks<;>cases inZ t.els blocks<;>by_cases ca:t.a=0<;>by_cases ct:t.to=0<;>by_cases ce:t.els=0<;>simp [ca,ct,ce]
theorem Jtb2(f:Func):Jt1cy f=Jt14r f:=by
 have e:∀ b:Block,Jt1cx b f.regs f.blocks.length=Jt14q b f.regs f.blocks.length:=by
  intro b
  simp only [Jt1cx,Jt14q,Jtle,Jt1eb]
 simp only [Jt1cy,Jt14r,e]
section
variable {P:Program} {q:Bool} {K:ASt→Prop} {QP:AV→ASt→Prop} {dst:Option Nat} {st:ASt}
@[simp] def goCV(K:ASt→Prop)(dst:Option Nat)(st:ASt)(P:Program)(q:Bool)(QP:AV→ASt→Prop):Option AV→Option (List AV)→Prop
 | some (.fn (.func f) xs bs),some cs=>okFn P f=true∧AWcall P q f (xs++cs++bs) dst K QP st
 | _,_=>False
@[simp] theorem Jt1y{x:Opd}{args:List Opd}:AWio P q (.callv x args) dst K QP st↔goCV K dst st P q QP (evr st.env x) (evs st.env args):=by
 constructor
 ·rintro ⟨f,xs,bs,cs,h1,h2,h3,h4⟩;rw [h1,h3];exact ⟨h2,h4⟩
 ·intro h
  unfold goCV at h
  split at h
  ·rename_i f xs bs cs h1 h3;exact ⟨f,xs,bs,cs,h1,h.1,h3,h.2⟩
  ·exact h.elim
end
def runN(n:Nat)(m:Mach):Nat:=if m.op=18 then n+1 else 0
def runF(l:List Mach):Nat:=l.foldl runN 0
theorem Jt175{l:List Mach}{j:Nat}(h:j<l.length):runF (l.take (j+1))=runN (runF (l.take j)) l[j]:=by
 unfold runF
 rw [List.take_succ_eq_append_getElem h,List.foldl_append]
 rfl
theorem Jt173{l:List Mach}:∀ {j k:Nat},j≤l.length→(k≤runF (l.take j)↔k≤j∧∀ i x,j-k≤i→i<j→l[i]?=some x→x.op=18):=by
 intro j
 induction j with
 | zero=>
  intro k _
  simp only [List.take_zero,runF,List.foldl_nil]
  constructor
  ·intro h;exact ⟨h,fun i x _ h2=>by omega⟩
  ·intro h;exact h.1
 | succ j ih=>
  intro k hj
  have hjl:j<l.length:=by omega
  have hji:l[j]?=some l[j]:=by simp [hjl]
  rw [Jt175 hjl]
  unfold runN
  by_cases h18:l[j].op=18
  ·rw [if_pos h18]
   cases k with
   | zero=>simp only [Nat.zero_le,true_and,true_iff];intro i x h1 h2;omega
   | succ k=>
    have:=ih (k:=k) (by omega)
    constructor
    ·intro h
     obtain ⟨e1,e2⟩:=this.1 (by omega)
     refine ⟨by omega,fun i x h1 h2 hx=>?_⟩
     by_cases hi:i=j
     ·subst hi;rw [hji] at hx;injection hx with hx;subst hx;exact h18
     ·exact e2 i x (by omega) (by omega) hx
    ·rintro ⟨e1,e2⟩
     have:=this.2 ⟨by omega,fun i x h1 h2 hx=>e2 i x (by omega) (by omega) hx⟩
     omega
  ·rw [if_neg h18]
   cases k with
   | zero=>simp only [Nat.le_refl,Nat.zero_le,true_and,true_iff];intro i x h1 h2;omega
   | succ k=>
    constructor
    ·intro h;omega
    ·rintro ⟨e1,e2⟩
     exact absurd (e2 j _ (by omega) (by omega) hji) h18
theorem Jtn7{w:List Mach}:w.length≤lead w↔∀ x∈w,x.op=18:=by
 induction w with
 | nil=>simp [lead]
 | cons m w ih=>
  simp only [lead,List.length_cons,List.mem_cons,forall_eq_or_imp]
  by_cases h:m.op=18
  ·simp only [h,beq_self_eq_true,if_true,true_and]
   rw [←ih];omega
  ·have hb:(m.op==18)=false:=by simpa using h
   simp only [hb,Bool.false_eq_true,if_false,h,false_and,iff_false];omega
theorem Jttj{l:List Nat}{k:Nat}:k<mostN l↔∃ x∈l,k<x:=by
 have key:∀ (l:List Nat) (n:Nat),k<l.foldl max n↔k<n∨∃ x∈l,k<x:=by
  intro l
  induction l with
  | nil=>intro n;simp
  | cons x l ih=>
   intro n
   simp only [List.foldl_cons,ih,List.mem_cons,exists_eq_or_imp]
   constructor
   ·rintro (h | h)
    ·by_cases hx:k<x
     ·exact .inr (.inl hx)
     ·exact .inl (by omega)
    ·exact .inr (.inr h)
   ·rintro (h | h | h)
    ·exact .inl (by omega)
    ·exact .inl (by omega)
    ·exact .inr h
 have:=key l 0
 unfold mostN
 rw [this];simp
theorem Jt14y{w:List Mach}(hw:w.length=65):64<Jt14x w↔∀ x∈w,x.op=18:=by
 rw [←Jtn7]
 unfold Jt14x
 rw [Jttj]
 constructor
 ·rintro ⟨x,hx,h⟩
  rw [List.mem_map] at hx
  obtain ⟨i,hi,rfl⟩:=hx
  have h1:=Jtn9 (w.drop i)
  rw [List.length_drop] at h1
  have hi0:i=0:=by omega
  subst hi0
  rw [List.drop_zero] at h
  omega
 ·intro h
  exact ⟨lead (w.drop 0),List.mem_map.2 ⟨0,by simp;omega,rfl⟩,by rw [List.drop_zero];omega⟩
theorem Jttt{l:List Mach}{j:Nat}(h:j<l.length):64<runF (l.take (j+1))↔(64≤j∧64<Jt14x ((l.take (j+1)).drop (j-64))):=by
 have h1:=Jt173 (l:=l) (j:=j+1) (k:=65) (by omega)
 constructor
 ·intro h2
  obtain ⟨e1,e2⟩:=h1.1 h2
  have hw:((l.take (j+1)).drop (j-64)).length=65:=by rw [List.length_drop,List.length_take];omega
  refine ⟨by omega,(Jt14y hw).2 fun x hx=>?_⟩
  obtain ⟨i,hi⟩:=List.getElem?_of_mem hx
  rw [List.getElem?_drop,List.getElem?_take] at hi
  split at hi
  ·exact e2 _ x (by omega) (by omega) hi
  ·cases hi
 ·rintro ⟨e1,e2⟩
  have hw:((l.take (j+1)).drop (j-64)).length=65:=by rw [List.length_drop,List.length_take];omega
  have e3:=(Jt14y hw).1 e2
  have:=h1.2 ⟨by omega,fun i x k1 k2 hx=>e3 x (List.mem_iff_getElem?.2 ⟨i-(j-64),by rw [List.getElem?_drop,List.getElem?_take,if_pos (by omega),show j-64+(i-(j-64))=i by omega];exact hx⟩)⟩
  omega
def wTotal (w:List (List Pair)):Nat:=(w.map List.length).sum
def pErr(l:List Pair)(vregs regs slots:Int)(k:Nat):Int:=match l[k]? with
 | none=>0
 | some q=>if q.v<0∨vregs≤q.v then 9 else if rngZ q.l regs slots=false then 10 else if 0<k∧(match l[k-1]? with | some q0=>lessP q0 q | none=>true)=false then 13 else 0
def pErrs(l:List Pair)(vregs regs slots:Int):Int:=Jtfy ((List.range l.length).map (pErr l vregs regs slots))
def Jtdg (w:List (List Pair)) (blocks vregs regs slots:Int):Int:=if (w.length:Int)≠blocks then 14 else if 1048576<wTotal w then 6 else Jtfy (w.map fun l=>pErrs l vregs regs slots)
def okW (w:List (List Pair)):Prop:=∀ l∈w,∀ q∈l,okZ q.l
def validZ(c:Cert):Int:=if Jt14r c.S≠0 then Jt14r c.S else if Jt14v c.T≠0 then Jt14v c.T else if c.S.blocks.length≠c.T.blocks.length∨c.S.args≠c.T.args then 14 else Jtdg c.W c.S.blocks.length c.S.regs c.T.regs c.T.slots
def fewM(f:MFunc):Bool:=decide (f.blocks.length≤40)&&decide (f.regs≤60)&&decide (f.slots≤60)&&f.blocks.all (fun b=>decide (b.code.length≤300))&&decide (mcodeN f.blocks≤900)
def fewW (w:List (List Pair)):Bool:=decide (w.length≤40)&&w.all (fun l=>decide (l.length≤400))
def fewC(c:Cert):Bool:=few c.S&&fewM c.T&&fewW c.W
def succsZ(t:Term):List Int:=if t.kind=1 then [t.to] else if t.kind=2 then [t.to,t.els] else []
def initZ(q:Pair)(args:Int):Bool:=if q.v<args then decide (q.l.tmod 2=1)&&decide (q.l.tdiv 2=q.v) else !decide (q.l.tmod 2=1)||decide (args≤q.l.tdiv 2)
structure Rep where (err block at_:Int) (blocks edges steps largest:Nat)
 deriving DecidableEq
def Rep.av(r:Rep):AV:=.agg [AI r.err,AI r.block,AI r.at_,AI r.blocks,AI r.edges,AI r.steps,AI r.largest]
def edgesC (w:List (List Pair)) (out:List Pair) (i:Nat):List Int→Nat→Rep→Rep × Bool
 | [],_,r=>(r,false)
 | to::ts,k,r=>
  if (missP ((w[to.toNat]?).getD []) out).isSome=true then ({ r with edges:=r.edges+1,steps:=r.steps+1+out.length+((w[to.toNat]?).getD []).length,err:=22,block:=i,at_:=k},true)
  else edgesC w out i ts (k+1) { r with edges:=r.edges+1,steps:=r.steps+1+out.length+((w[to.toNat]?).getD []).length}
def blockC(c:Cert)(i:Nat)(r:Rep):Rep × Bool:=match c.S.blocks[i]?,c.T.blocks[i]?,c.W[i]? with
 | some b,some m,some l=>
  if (checkZ b m l 1048576).err≠0 then ({ r with blocks:=r.blocks+1,steps:=r.steps+(checkZ b m l 1048576).steps,largest:=max r.largest (checkZ b m l 1048576).largest,err:=(checkZ b m l 1048576).err,block:=i,at_:=(checkZ b m l 1048576).at_},true)
  else edgesC c.W (checkZ b m l 1048576).out i (succsZ b.term) 0 { r with blocks:=r.blocks+1,steps:=r.steps+(checkZ b m l 1048576).steps,largest:=max r.largest (checkZ b m l 1048576).largest}
 | _,_,_=>(r,true)
def Jt9r(c:Cert):Nat→Nat→Rep→Rep
 | 0,_,r=>r
 | n+1,i,r=>match blockC c i r with
  | (r,true)=>r
  | (r,false)=>Jt9r c n (i+1) r
def mostW (w:List (List Pair)):Nat:=mostN (w.map List.length)
def w0(c:Cert):List Pair:=(c.W[0]?).getD []
def rep0(c:Cert):Rep:=⟨0,0,0,0,0,1+(w0 c).length,mostW c.W⟩
def Jt15v(c:Cert):Rep:=if validZ c≠0 then ⟨validZ c,0,0,0,0,0,0⟩ else if ((w0 c).all fun q=>initZ q c.S.args)=false then { rep0 c with err:=23} else Jt9r c c.S.blocks.length 0 (rep0 c)
theorem Jtsf{bs:List MBlock}(h:∀ b∈bs,b.code.length≤300):mcodeN bs≤300*bs.length:=by
 induction bs with
 | nil=>simp [mcodeN]
 | cons b bs ih=>
  have h1:=h b (by simp)
  have h2:=ih fun b hb=>h b (by simp [hb])
  simp only [mcodeN,List.map_cons,List.sum_cons,List.length_cons] at *
  omega
theorem Jt1fy {w:List (List Pair)} {k:Nat} {l:List Pair} (h:w[k]?=some l):wTotal (w.take (k+1))=wTotal (w.take k)+l.length:=by
 rw [List.take_add_one,h];simp [wTotal]
theorem Jt1fw (w:List (List Pair)) (k:Nat):wTotal (w.take k)≤wTotal w:=by
 have h:wTotal (w.take k)+wTotal (w.drop k)=wTotal w:=by
  unfold wTotal
  rw [←List.sum_append,←List.map_append,List.take_append_drop]
 omega
section
variable {P:Program} {p:Nums}
theorem Jt11h(A:All P p)(f:MFunc):Jt51 P p.Yf1q [f.av] [] fun o _=>o=.ret (AB (fewM f)):=by
 refine A.Yf1q.run rfl fun R hR=>?_
 (simp (maxSteps:=9^6)[Jtju,MFunc.av])
 ((first|refine Xc ?_ ?_|refine Xo ?_ ?_)<;>intro a1<;>try simp only [Xz,Xy] at a1)
 ·(simp (maxSteps:=9^6)[a1])
  have e:fewM f=false:=by simp [fewM];omega
  (first|exact hR _ _ FrA|exact hR _ _ FnA|exact hR _ _ (Xf (hq:=by simp [AV.erase,AV.unview,e];done)))
 (simp (maxSteps:=9^6)[a1])
 ((first|refine Xc ?_ ?_|refine Xo ?_ ?_)<;>intro a2<;>try simp only [Xz,Xy] at a2)
 ·(simp (maxSteps:=9^6)[a2])
  have e:fewM f=false:=by simp [fewM];omega
  (first|exact hR _ _ FrA|exact hR _ _ FnA|exact hR _ _ (Xf (hq:=by simp [AV.erase,AV.unview,e];done)))
 (simp (maxSteps:=9^6)[a2])
 ((first|refine Xc ?_ ?_|refine Xo ?_ ?_)<;>intro a3<;>try simp only [Xz,Xy] at a3)
 ·(simp (maxSteps:=9^6)[a3])
  have e:fewM f=false:=by simp [fewM];omega
  (first|exact hR _ _ FrA|exact hR _ _ FnA|exact hR _ _ (Xf (hq:=by simp [AV.erase,AV.unview,e];done)))
 (simp (maxSteps:=9^6)[a3])
 refine Jtf (fun k:Nat=>⟨[(3,AI k),(1,.ptr 0 0)],[.mem [AI f.args,AI f.regs,AI f.slots,.d (.sl (f.blocks.map MBlock.row))]]⟩)
  (fun k=>k≤f.blocks.length∧∀ b∈f.blocks.take k,b.code.length≤300) (fun k=>f.blocks.length-k) 0 (by simp) (by (exact wkA)) ?_
 rintro k ⟨hk,hz⟩ N hN
 (simp (maxSteps:=9^6)[])
 ((first|refine Xc ?_ ?_|refine Xo ?_ ?_)<;>intro h2<;>try simp only [Xz,Xy] at h2)
 ·have hkl:k<f.blocks.length:=by simpa using h2
  have hb:f.blocks[k]?=some f.blocks[k]:=by simp [hkl]
  have hw:=Jt1le (k:=k) (by omega)
  (simp (maxSteps:=9^6)[h2,hb,MBlock.row])
  ((first|refine Xc ?_ ?_|refine Xo ?_ ?_)<;>intro h3<;>try simp only [Xz,Xy] at h3)
  ·(simp (maxSteps:=9^6)[h3])
   have e:fewM f=false:=by
    have:¬ (∀ b∈f.blocks,b.code.length≤300):=fun h=>by have:=h f.blocks[k] (by simp);omega
    simp [fewM];intro _ _ _ h;exact absurd h this
   (first|exact hR _ _ FrA|exact hR _ _ FnA|exact hR _ _ (Xf (hq:=by simp [AV.erase,AV.unview,e];done)))
  ·(simp (maxSteps:=9^6)[h3,hw])
   refine hN _ (k+1) ⟨hkl,?_⟩ (by (exact wkA)) (by omega)
   intro b hb'
   rw [List.take_add_one,hb,List.mem_append] at hb'
   rcases hb' with hb' | hb'
   ·exact hz b hb'
   ·simp at hb';subst hb';omega
 ·have hk':k=f.blocks.length:=by simp at h2;omega
  subst hk'
  (simp (maxSteps:=9^6)[])
  have hcb:mcodeN f.blocks≤300*f.blocks.length:=Jtsf (by rw [List.take_length] at hz;exact hz)
  (refine Jt17 (Jt117 A f (by omega) (by omega)) (by rfl) (by rfl) ?_)
  (simp (maxSteps:=9^6)[])
  have e:fewM f=decide ((mcodeN f.blocks:Int)≤900):=by
   rw [List.take_length] at hz
   have e1:f.blocks.all (fun b=>decide (b.code.length≤300))=true:=by simpa using hz
   have e2:decide (f.blocks.length≤40)=true:=by simp;omega
   have e3:decide (f.regs≤60)=true:=by simp;omega
   have e4:decide (f.slots≤60)=true:=by simp;omega
   simp only [fewM,e1,e2,e3,e4,Bool.true_and]
   congr 1;simp;omega
  (first|exact hR _ _ FrA|exact hR _ _ FnA|exact hR _ _ (Xf (hq:=by simp [AV.erase,AV.unview,e];done)))
theorem Jt134(A:All P p)(w:List (List Pair)):Jt51 P p.Yf1r [.d (witD w)] [] fun o _=>o=.ret (AB (fewW w)):=by
 refine A.Yf1r.run rfl fun R hR=>?_
 (simp (maxSteps:=9^6)[Jtk0,witD])
 refine Jtf (fun k:Nat=>⟨[(3,AI k),(0,.d (.sl (w.map fun l=>[pairsD l])))],[]⟩)
  (fun k=>k≤w.length∧k≤41∧∀ l∈w.take k,l.length≤400) (fun k=>w.length-k) 0 (by simp) (by (exact wkA)) ?_
 rintro k ⟨hk,hk41,hz⟩ N hN
 (simp (maxSteps:=9^6)[])
 ((first|refine Xc ?_ ?_|refine Xo ?_ ?_)<;>intro h2<;>try simp only [Xz,Xy] at h2)
 ·have hkl:k<w.length:=by simpa using h2
  have hb:w[k]?=some w[k]:=by simp [hkl]
  have hw:=Jt1le (k:=k) (by omega)
  (simp (maxSteps:=9^6)[h2,hb])
  ((first|refine Xc ?_ ?_|refine Xo ?_ ?_)<;>intro h3<;>try simp only [Xz,Xy] at h3)
  ·(simp (maxSteps:=9^6)[h3,hb,pairsD])
   ((first|refine Xc ?_ ?_|refine Xo ?_ ?_)<;>intro h4<;>try simp only [Xz,Xy] at h4)
   ·(simp (maxSteps:=9^6)[h4])
    have e:fewW w=false:=by
     simp [fewW];intro _;exact ⟨w[k],List.getElem_mem hkl,by omega⟩
    (first|exact hR _ _ FrA|exact hR _ _ FnA|exact hR _ _ (Xf (hq:=by simp [AV.erase,AV.unview,e];done)))
   ·(simp (maxSteps:=9^6)[h4,hw])
    refine hN _ (k+1) ⟨hkl,by omega,?_⟩ (by (exact wkA)) (by omega)
    intro l hl
    rw [List.take_add_one,hb,List.mem_append] at hl
    rcases hl with hl | hl
    ·exact hz l hl
    ·simp at hl;subst hl;omega
  ·(simp (maxSteps:=9^6)[h3])
   have e:fewW w=false:=by simp [fewW];intro h;omega
   have e2:40<(w.length:Int):=by omega
   (first|exact hR _ _ FrA|exact hR _ _ FnA|exact hR _ _ (Xf (hq:=by simp [AV.erase,AV.unview,e,e2];done)))
 ·have hk':k=w.length:=by simp at h2;omega
  subst hk'
  (simp (maxSteps:=9^6)[])
  have e:fewW w=decide ((w.length:Int)≤40):=by
   rw [List.take_length] at hz
   have e1:w.all (fun l=>decide (l.length≤400))=true:=by simpa using hz
   simp only [fewW,e1,Bool.and_true]
   congr 1;simp;omega
  (first|exact hR _ _ FrA|exact hR _ _ FnA|exact hR _ _ (Xf (hq:=by simp [AV.erase,AV.unview,e];done)))
theorem Jt136(A:All P p)(c:Cert):Jt51 P p.Yf1n [c.av] [] fun o _=>o=.ret (AB (fewC c)):=by
 refine A.Yf1n.run rfl fun R hR=>?_
 (simp (maxSteps:=9^6)[Jtk1,Cert.av])
 (refine Jt17 (Jtzo A c.S) (by rfl) (by rfl) ?_)
 (simp (maxSteps:=9^6)[])
 ((first|refine Xc ?_ ?_|refine Xo ?_ ?_)<;>intro h1<;>try simp only [Xz,Xy] at h1)
 ·(simp (maxSteps:=9^6)[h1])
  (refine Jt17 (Jt11h A c.T) (by rfl) (by rfl) ?_)
  (simp (maxSteps:=9^6)[])
  ((first|refine Xc ?_ ?_|refine Xo ?_ ?_)<;>intro h2<;>try simp only [Xz,Xy] at h2)
  ·(simp (maxSteps:=9^6)[h2])
   (refine Jt17 (Jt134 A c.W) (by rfl) (by rfl) ?_)
   (simp (maxSteps:=9^6)[])
   (first|exact hR _ _ FrA|exact hR _ _ FnA|exact hR _ _ (Xf (hq:=by simp [AV.erase,AV.unview,fewC,h1,h2];done)))
  ·(simp (maxSteps:=9^6)[h2])
   (first|exact hR _ _ FrA|exact hR _ _ FnA|exact hR _ _ (Xf (hq:=by simp [AV.erase,AV.unview,fewC,h1,h2];done)))
 ·(simp (maxSteps:=9^6)[h1])
  (first|exact hR _ _ FrA|exact hR _ _ FnA|exact hR _ _ (Xf (hq:=by simp [AV.erase,AV.unview,fewC,h1];done)))
theorem Jtqz(A:All P p)(f:MFunc)(h0:f.blocks.length<1000000000)(h1:mcodeN f.blocks<1000000000):Jt51 P p.Yf1x [f.av] [] fun o _=>o=.ret (AI (mcodeN f.blocks)):=by
 refine A.Yf1x.run rfl fun R hR=>?_
 (simp (maxSteps:=9^6)[Jtit,MFunc.av])
 refine Jtf (fun k:Nat=>⟨[(9,AI k),(8,AI f.blocks.length),(7,.d (.sl (f.blocks.map MBlock.row))),(3,AI (mcodeN (f.blocks.take k)))],[]⟩) (fun k=>k≤f.blocks.length) (fun k=>f.blocks.length-k) 0 (by simp) (by (exact wkA)) ?_
 intro k hk N hN
 (simp (maxSteps:=9^6)[])
 ((first|refine Xc ?_ ?_|refine Xo ?_ ?_)<;>intro h2<;>try simp only [Xz,Xy] at h2)
 ·have hkl:k<f.blocks.length:=by simpa using h2
  have hb:f.blocks[k]?=some f.blocks[k]:=by simp [hkl]
  have hw:=Jt1le (k:=k) (by omega)
  have hs:=Jtsi hb
  have hle:=Jtsg f.blocks (k+1)
  have hw2:=Jt1ld (a:=mcodeN (f.blocks.take k)) (b:=f.blocks[k].code.length) (by omega)
  rw [←hs] at hw2
  (simp (maxSteps:=9^6)[h2,lgM,hb,MBlock.row,hw,hw2])
  exact hN _ (k+1) hkl (by (exact wkA)) (by omega)
 ·have hk':k=f.blocks.length:=by simp at h2;omega
  subst hk'
  (simp (maxSteps:=9^6)[])
  (first|exact hR _ _ FrA|exact hR _ _ FnA|exact hR _ _ (Xf (hq:=by simp [AV.erase,AV.unview,List.take_length];done)))
theorem Jtet(A:All P p)(w:List (List Pair)) (h0:w.length<1000000000) (h1:wTotal w<1000000000):Jt51 P p.Yf1z [.d (witD w)] [] fun o _=>o=.ret (AI (wTotal w)):=by
 refine A.Yf1z.run rfl fun R hR=>?_
 (simp (maxSteps:=9^6)[Jtid,witD])
 refine Jtf (fun k:Nat=>⟨[(8,AI k),(7,AI w.length),(6,.d (.sl (w.map fun l=>[pairsD l]))),(3,AI (wTotal (w.take k)))],[]⟩) (fun k=>k≤w.length) (fun k=>w.length-k) 0 (by simp) (by (exact wkA)) ?_
 intro k hk N hN
 (simp (maxSteps:=9^6)[])
 ((first|refine Xc ?_ ?_|refine Xo ?_ ?_)<;>intro h2<;>try simp only [Xz,Xy] at h2)
 ·have hkl:k<w.length:=by simpa using h2
  have hb:w[k]?=some w[k]:=by simp [hkl]
  have hw:=Jt1le (k:=k) (by omega)
  have hs:=Jt1fy hb
  have hle:=Jt1fw w (k+1)
  have hw2:=Jt1ld (a:=wTotal (w.take k)) (b:=w[k].length) (by omega)
  rw [←hs] at hw2
  (simp (maxSteps:=9^6)[h2,hb,pairsD,hw,hw2])
  exact hN _ (k+1) hkl (by (exact wkA)) (by omega)
 ·have hk':k=w.length:=by simp at h2;omega
  subst hk'
  (simp (maxSteps:=9^6)[])
  (first|exact hR _ _ FrA|exact hR _ _ FnA|exact hR _ _ (Xf (hq:=by simp [AV.erase,AV.unview,List.take_length];done)))
theorem Jtuo(A:All P p)(x:Int):Jt51 P p.Yf2g [AI x] [] fun o _=>o=.ret (AB (knownZ x&&x != 2)):=by
 refine A.Yf2g.run rfl fun R hR=>?_
 (simp (maxSteps:=9^6)[Jtj2])
 (refine Jt17 (Jtv7 A x) (by rfl) (by rfl) ?_)
 (simp (maxSteps:=9^6)[])
 ((first|refine Xc ?_ ?_|refine Xo ?_ ?_)<;>intro h1<;>try simp only [Xz,Xy] at h1)
 ·(simp (maxSteps:=9^6)[h1])
  (first|exact hR _ _ FrA|exact hR _ _ FnA|exact hR _ _ (Xf (hq:=by simp [AV.erase,AV.unview,h1,bne];done)))
 ·(simp (maxSteps:=9^6)[h1])
  (first|exact hR _ _ FrA|exact hR _ _ FnA|exact hR _ _ (Xf (hq:=by simp [AV.erase,AV.unview,h1];done)))
end
def clearM(i:Mach):Bool:=(i.d==0)&&(i.a==0)&&(i.b==0)&&(i.imm==0)
def clearO(i:Mach):Bool:=(i.dst==0)&&(i.src==0)
def movZ(i:Mach)(regs slots:Int):Int:=if (i.dst.tmod 2=1∧i.src.tmod 2=1)∨rngZ i.dst regs slots=false∨rngZ i.src regs slots=false then 10 else 0
def Mach.instr(i:Mach):Instr:=⟨i.op,i.d,i.a,i.b,i.imm⟩
section
variable {P:Program} {p:Nums}
theorem Jtrw(A:All P p)(i:Mach)(regs slots:Int):Jt51 P p.Yf2o [i.av,AI regs,AI slots] [] fun o _=>o=.ret (AI (Jt1cz i.instr regs)):=by
 refine A.Yf2o.run rfl fun R hR=>?_
 (simp (maxSteps:=9^6)[Jtj0,Mach.av])
 (refine Jt17 (Jt1bj A i.instr regs) (by rfl) (by rfl) ?_)
 (simp (maxSteps:=9^6)[])
 (first|exact hR _ _ FrA|exact hR _ _ FnA)
theorem Jtry(A:All P p)(i:Mach):Jt51 P p.Yf2p [i.av] [] fun o _=>o=.ret (AB (clearO i)):=by
 refine A.Yf2p.run rfl fun R hR=>?_
 (simp (maxSteps:=9^6)[Jtj1,Mach.av])
 ((first|refine Xc ?_ ?_|refine Xo ?_ ?_)<;>intro h1<;>try simp only [Xz,Xy] at h1)
 ·(simp (maxSteps:=9^6)[h1])
  (first|exact hR _ _ FrA|exact hR _ _ FnA|exact hR _ _ (Xf (hq:=by simp [AV.erase,AV.unview,clearO,h1];done)))
 ·(simp (maxSteps:=9^6)[h1])
  (first|exact hR _ _ FrA|exact hR _ _ FnA|exact hR _ _ (Xf (hq:=by simp [AV.erase,AV.unview,clearO,h1];done)))
theorem Jtrs(A:All P p)(i:Mach):Jt51 P p.Yf2r [i.av] [] fun o _=>o=.ret (AB (clearM i)):=by
 refine A.Yf2r.run rfl fun R hR=>?_
 (simp (maxSteps:=9^6)[Jtiy,Mach.av])
 ((first|refine Xc ?_ ?_|refine Xo ?_ ?_)<;>intro h1<;>try simp only [Xz,Xy] at h1)
 ·(simp (maxSteps:=9^6)[h1])
  ((first|refine Xc ?_ ?_|refine Xo ?_ ?_)<;>intro h2<;>try simp only [Xz,Xy] at h2)
  ·(simp (maxSteps:=9^6)[h2])
   ((first|refine Xc ?_ ?_|refine Xo ?_ ?_)<;>intro h3<;>try simp only [Xz,Xy] at h3)
   ·(simp (maxSteps:=9^6)[h3])
    (first|exact hR _ _ FrA|exact hR _ _ FnA|exact hR _ _ (Xf (hq:=by simp [AV.erase,AV.unview,clearM,h1,h2,h3];done)))
   ·(simp (maxSteps:=9^6)[h3])
    (first|exact hR _ _ FrA|exact hR _ _ FnA|exact hR _ _ (Xf (hq:=by simp [AV.erase,AV.unview,clearM,h1,h2,h3];done)))
  ·(simp (maxSteps:=9^6)[h2])
   (first|exact hR _ _ FrA|exact hR _ _ FnA|exact hR _ _ (Xf (hq:=by simp [AV.erase,AV.unview,clearM,h1,h2];done)))
 ·(simp (maxSteps:=9^6)[h1])
  (first|exact hR _ _ FrA|exact hR _ _ FnA|exact hR _ _ (Xf (hq:=by simp [AV.erase,AV.unview,clearM,h1];done)))
theorem Jtrq(A:All P p)(i:Mach)(regs slots:Int)(g1:okZ i.dst)(g2:okZ i.src):Jt51 P p.Yf2q [i.av,AI regs,AI slots] [] fun o _=>o=.ret (AI (movZ i regs slots)):=by
 refine A.Yf2q.run rfl fun R hR=>?_
 (simp (maxSteps:=9^6)[Jtix,Mach.av])
 (refine Jt17 (Jtpu A i.dst) (by rfl) (by rfl) ?_)
 (simp (maxSteps:=9^6)[])
 have rest:∀ both:Bool,both=decide (i.dst.tmod 2=1∧i.src.tmod 2=1)→movZ i regs slots=if both=true then 10 else if rngZ i.dst regs slots=false then 10 else if rngZ i.src regs slots=false then 10 else 0:=by
  intro both hb
  subst hb
  unfold movZ
  by_cases c1:i.dst.tmod 2=1∧i.src.tmod 2=1<;>cases rngZ i.dst regs slots<;>cases rngZ i.src regs slots<;>simp [c1]
 ((first|refine Xc ?_ ?_|refine Xo ?_ ?_)<;>intro h1<;>try simp only [Xz,Xy] at h1)
 ·(simp (maxSteps:=9^6)[h1])
  (refine Jt17 (Jtpu A i.src) (by rfl) (by rfl) ?_)
  (simp (maxSteps:=9^6)[])
  ((first|refine Xc ?_ ?_|refine Xo ?_ ?_)<;>intro h2<;>try simp only [Xz,Xy] at h2)
  ·(simp (maxSteps:=9^6)[h2])
   have e:=rest true (by simp [h1,h2])
   (first|exact hR _ _ FrA|exact hR _ _ FnA|exact hR _ _ (Xf (hq:=by simp [AV.erase,AV.unview,e];done)))
  ·have b2:(i.src.tmod 2==1)=false:=by simp [h2]
   (simp (maxSteps:=9^6)[h2,b2])
   have e:=rest false (by simp [h1,h2])
   (refine Jt17 (Jtpq A i.dst regs slots g1.1 g1.2) (by rfl) (by rfl) ?_)
   (simp (maxSteps:=9^6)[])
   ((first|refine Xc ?_ ?_|refine Xo ?_ ?_)<;>intro h3<;>try simp only [Xz,Xy] at h3)
   ·(simp (maxSteps:=9^6)[h3])
    (first|exact hR _ _ FrA|exact hR _ _ FnA|exact hR _ _ (Xf (hq:=by simp [AV.erase,AV.unview,e,h3];done)))
   (simp (maxSteps:=9^6)[h3])
   (refine Jt17 (Jtpq A i.src regs slots g2.1 g2.2) (by rfl) (by rfl) ?_)
   (simp (maxSteps:=9^6)[])
   ((first|refine Xc ?_ ?_|refine Xo ?_ ?_)<;>intro h4<;>try simp only [Xz,Xy] at h4)
   ·(simp (maxSteps:=9^6)[h4])
    (first|exact hR _ _ FrA|exact hR _ _ FnA|exact hR _ _ (Xf (hq:=by simp [AV.erase,AV.unview,e,h3,h4];done)))
   (simp (maxSteps:=9^6)[h4])
   (first|exact hR _ _ FrA|exact hR _ _ FnA|exact hR _ _ (Xf (hq:=by simp [AV.erase,AV.unview,e,h3,h4];done)))
 ·have b1:(i.dst.tmod 2==1)=false:=by simp [h1]
  (simp (maxSteps:=9^6)[h1,b1])
  have e:=rest false (by simp [h1])
  (refine Jt17 (Jtpq A i.dst regs slots g1.1 g1.2) (by rfl) (by rfl) ?_)
  (simp (maxSteps:=9^6)[])
  ((first|refine Xc ?_ ?_|refine Xo ?_ ?_)<;>intro h3<;>try simp only [Xz,Xy] at h3)
  ·(simp (maxSteps:=9^6)[h3])
   (first|exact hR _ _ FrA|exact hR _ _ FnA|exact hR _ _ (Xf (hq:=by simp [AV.erase,AV.unview,e,h3];done)))
  (simp (maxSteps:=9^6)[h3])
  (refine Jt17 (Jtpq A i.src regs slots g2.1 g2.2) (by rfl) (by rfl) ?_)
  (simp (maxSteps:=9^6)[])
  ((first|refine Xc ?_ ?_|refine Xo ?_ ?_)<;>intro h4<;>try simp only [Xz,Xy] at h4)
  ·(simp (maxSteps:=9^6)[h4])
   (first|exact hR _ _ FrA|exact hR _ _ FnA|exact hR _ _ (Xf (hq:=by simp [AV.erase,AV.unview,e,h3,h4];done)))
  (simp (maxSteps:=9^6)[h4])
  (first|exact hR _ _ FrA|exact hR _ _ FnA|exact hR _ _ (Xf (hq:=by simp [AV.erase,AV.unview,e,h3,h4];done)))
theorem Jts0(A:All P p):Jt51 P p.Yf2h [] [] fun o _=>o=.ret (.agg [.fn (.func p.Yf2o) [] [],.fn (.func p.Yf2p) [] []]):=by
 refine A.Yf2h.run rfl fun R hR=>?_
 (simp (maxSteps:=9^6)[Jtiz])
 (first|exact hR _ _ FrA|exact hR _ _ FnA)
theorem Jtru(A:All P p):Jt51 P p.Yf2i [] [] fun o _=>o=.ret (.agg [.fn (.func p.Yf2q) [] [],.fn (.func p.Yf2r) [] []]):=by
 refine A.Yf2i.run rfl fun R hR=>?_
 (simp (maxSteps:=9^6)[Jtiw])
 (first|exact hR _ _ FrA|exact hR _ _ FnA)
end
def Jt1d2(i:Mach)(regs slots:Int):Int:=
 if (knownZ i.op&&i.op != 2)=false then 8
 else if i.op=18 then (if movZ i regs slots≠0 then movZ i regs slots else if clearM i=false then 12 else 0)
 else (if Jt1cz i.instr regs≠0 then Jt1cz i.instr regs else if clearO i=false then 12 else 0)
def sbErr(code:List Mach)(regs slots:Int)(k:Nat):Int:=match code[k]? with
 | none=>0
 | some x=>if Jt1d2 x regs slots≠0 then Jt1d2 x regs slots else if 64<runF (code.take (k+1)) then 15 else 0
def sbErrs(code:List Mach)(regs slots:Int):Int:=Jtfy ((List.range code.length).map (sbErr code regs slots))
def Jt1d0(b:MBlock)(regs slots blocks:Int):Int:=if sbErrs b.code regs slots≠0 then sbErrs b.code regs slots else Jt1d3 b.term regs blocks
def Jt1d1(f:MFunc):Int:=
 if f.args<0∨f.slots<f.args then 10 else if f.regs<0 then 9 else if 1048576<f.slots∨1048576<f.regs then 6 else if f.blocks.length=0 then 14 else if 1048576<f.blocks.length∨1048576<mcodeN f.blocks then 6
 else Jtfy (f.blocks.map fun b=>Jt1d0 b f.regs f.slots f.blocks.length)
theorem Jt174(l:List Mach):∀ k,k≤l.length→runF (l.take k)≤k:=by
 intro k
 induction k with
 | zero=>intro _;simp [runF]
 | succ k ih=>
  intro h
  rw [Jt175 (by omega)]
  have:=ih (by omega)
  unfold runN;split<;>omega
section
variable {P:Program} {p:Nums}
theorem Jtr9(A:All P p)(i:Mach)(regs slots:Int)(g1:okZ i.dst)(g2:okZ i.src):Jt51 P p.Yf25 [i.av,AI regs,AI slots] [] fun o _=>o=.ret (AI (Jt1d2 i regs slots)):=by
 refine A.Yf25.run rfl fun R hR=>?_
 obtain ⟨T,hT⟩:∃ T,T=Jt1d2 i regs slots:=⟨_,rfl⟩
 rw [←hT] at hR
 unfold Jt1d2 at hT
 have c:=Jtuo A i.op
 obtain ⟨km,hkm⟩:∃ b,b=(knownZ i.op&&i.op != 2):=⟨_,rfl⟩
 rw [←hkm] at c hT
 (simp (maxSteps:=9^6)[Jtiu,Mach.av])
 (refine Jt17 c (by rfl) (by rfl) ?_)
 (simp (maxSteps:=9^6)[])
 ((first|refine Xc ?_ ?_|refine Xo ?_ ?_)<;>intro h1<;>try simp only [Xz,Xy] at h1)
 ·(simp (maxSteps:=9^6)[h1])
  rw [if_pos h1] at hT
  (first|exact hR _ _ FrA|exact hR _ _ FnA|exact hR _ _ (Xf (hq:=by simp [AV.erase,AV.unview,hT];done)))
 rw [if_neg (by simp [h1])] at hT
 (simp (maxSteps:=9^6)[h1])
 (refine Jt17 (Jts0 A) (by rfl) (by rfl) ?_)
 (simp (maxSteps:=9^6)[])
 ((first|refine Xc ?_ ?_|refine Xo ?_ ?_)<;>intro h2<;>try simp only [Xz,Xy] at h2)
 ·rw [if_pos h2] at hT
  (simp (maxSteps:=9^6)[])
  (refine Jt17 (Jtru A) (by rfl) (by rfl) ?_)
  (simp (maxSteps:=9^6)[])
  refine ⟨A.Yf2q.ok,?_⟩
  (refine Jt17 (Jtrq A i regs slots g1 g2) (by rfl) (by rfl) ?_)
  (simp (maxSteps:=9^6)[])
  ((first|refine Xc ?_ ?_|refine Xo ?_ ?_)<;>intro h3<;>try simp only [Xz,Xy] at h3)
  ·rw [if_pos h3] at hT
   (simp (maxSteps:=9^6)[h3])
   (first|exact hR _ _ FrA|exact hR _ _ FnA|exact hR _ _ (Xf (hq:=by simp [AV.erase,AV.unview,hT];done)))
  rw [if_neg (by simpa using h3)] at hT
  (simp (maxSteps:=9^6)[h3])
  refine ⟨A.Yf2r.ok,?_⟩
  (refine Jt17 (Jtrs A i) (by rfl) (by rfl) ?_)
  (simp (maxSteps:=9^6)[])
  ((first|refine Xc ?_ ?_|refine Xo ?_ ?_)<;>intro h4<;>try simp only [Xz,Xy] at h4)
  ·rw [if_pos h4] at hT
   (simp (maxSteps:=9^6)[h4])
   (first|exact hR _ _ FrA|exact hR _ _ FnA|exact hR _ _ (Xf (hq:=by simp [AV.erase,AV.unview,hT];done)))
  rw [if_neg (by simp [h4])] at hT
  (simp (maxSteps:=9^6)[h4])
  (first|exact hR _ _ FrA|exact hR _ _ FnA|exact hR _ _ (Xf (hq:=by simp [AV.erase,AV.unview,hT];done)))
 ·rw [if_neg h2] at hT
  (simp (maxSteps:=9^6)[])
  refine ⟨A.Yf2o.ok,?_⟩
  (refine Jt17 (Jtrw A i regs slots) (by rfl) (by rfl) ?_)
  (simp (maxSteps:=9^6)[])
  ((first|refine Xc ?_ ?_|refine Xo ?_ ?_)<;>intro h3<;>try simp only [Xz,Xy] at h3)
  ·rw [if_pos h3] at hT
   (simp (maxSteps:=9^6)[h3])
   (first|exact hR _ _ FrA|exact hR _ _ FnA|exact hR _ _ (Xf (hq:=by simp [AV.erase,AV.unview,hT];done)))
  rw [if_neg (by simpa using h3)] at hT
  (simp (maxSteps:=9^6)[h3])
  refine ⟨A.Yf2p.ok,?_⟩
  (refine Jt17 (Jtry A i) (by rfl) (by rfl) ?_)
  (simp (maxSteps:=9^6)[])
  ((first|refine Xc ?_ ?_|refine Xo ?_ ?_)<;>intro h4<;>try simp only [Xz,Xy] at h4)
  ·rw [if_pos h4] at hT
   (simp (maxSteps:=9^6)[h4])
   (first|exact hR _ _ FrA|exact hR _ _ FnA|exact hR _ _ (Xf (hq:=by simp [AV.erase,AV.unview,hT];done)))
  rw [if_neg (by simp [h4])] at hT
  (simp (maxSteps:=9^6)[h4])
  (first|exact hR _ _ FrA|exact hR _ _ FnA|exact hR _ _ (Xf (hq:=by simp [AV.erase,AV.unview,hT];done)))
theorem Jtrm(A:All P p)(f:MFunc)(b:MBlock)(h0:b.code.length<1000000000)(hok:okM b):Jt51 P p.Yf1y [f.av,b.av] [] fun o _=>o=.ret (AI (Jt1d0 b f.regs f.slots f.blocks.length)):=by
 refine A.Yf1y.run rfl fun R hR=>?_
 (simp (maxSteps:=9^6)[Jtiv,MBlock.av,MFunc.av])
 refine Jtf (fun k:Nat=>⟨[(12,AI k),(11,AI b.code.length),(10,.d (.sl (b.code.map Mach.row))),(5,AI (runF (b.code.take k))),(2,.ptr 0 0),(3,.ptr 1 0)],[.mem [AI f.args,AI f.regs,AI f.slots,.d (.sl (f.blocks.map MBlock.row))],.mem [.d (.sl (b.code.map Mach.row)),AI b.term.kind,AI b.term.a,AI b.term.to,AI b.term.els]]⟩)
  (fun k=>k≤b.code.length∧∀ e∈((List.range b.code.length).map (sbErr b.code f.regs f.slots)).take k,e=0) (fun k=>b.code.length-k) 0 (by simp) (by (exact wkA)) ?_
 rintro k ⟨hk,hz⟩ N hN
 (simp (maxSteps:=9^6)[])
 ((first|refine Xc ?_ ?_|refine Xo ?_ ?_)<;>intro h2<;>try simp only [Xz,Xy] at h2)
 ·have hkl:k<b.code.length:=by simpa using h2
  have hb:b.code[k]?=some b.code[k]:=by simp [hkl]
  have hr:(List.range b.code.length)[k]?=some k:=by simp [hkl]
  have hw:=Jt1le (k:=k) (by omega)
  have hle:=Jt174 b.code k (by omega)
  have hw2:=Jt1le (k:=runF (b.code.take k)) (by omega)
  have hsu:=Jt175 hkl
  obtain ⟨g1,g2⟩:=hok _ (List.getElem_mem hkl)
  (simp (maxSteps:=9^6)[h2,hb,Mach.row])
  (refine Jt17 (Jtr9 A b.code[k] f.regs f.slots g1 g2) (by rfl) (by rfl) ?_)
  (simp (maxSteps:=9^6)[])
  ((first|refine Xc ?_ ?_|refine Xo ?_ ?_)<;>intro h3<;>try simp only [Xz,Xy] at h3)
  ·(simp (maxSteps:=9^6)[h3])
   have e1:sbErr b.code f.regs f.slots k=Jt1d2 b.code[k] f.regs f.slots:=by unfold sbErr;rw [hb];simp only;rw [if_pos h3]
   have e2:sbErrs b.code f.regs f.slots=Jt1d2 b.code[k] f.regs f.slots:=by rw [←e1];exact Jtg1 hz (by simp [hkl]) (by rw [e1];exact h3)
   (first|exact hR _ _ FrA|exact hR _ _ FnA|exact hR _ _ (Xf (hq:=by simp [AV.erase,AV.unview,Jt1d0,e2,h3];done)))
  ·(simp (maxSteps:=9^6)[h3,hw2])
   have e1:sbErr b.code f.regs f.slots k=if 64<runF (b.code.take (k+1)) then 15 else 0:=by unfold sbErr;rw [hb];simp only;rw [if_neg (by simpa using h3)]
   ((first|refine Xc ?_ ?_|refine Xo ?_ ?_)<;>intro h4<;>try simp only [Xz,Xy] at h4)
   ·have hrn:runF (b.code.take (k+1))=0:=by rw [hsu];unfold runN;rw [if_neg (by simpa using h4)]
    rw [hrn] at e1
    (simp (maxSteps:=9^6)[h4,hw])
    exact hN _ (k+1) ⟨hkl,take_zero hz hr (by rw [e1];rfl)⟩ (by rw [hrn];(exact wkA)) (by omega)
   ·have hrn:runF (b.code.take (k+1))=runF (b.code.take k)+1:=by rw [hsu];unfold runN;rw [if_pos (by simpa using h4)]
    (simp (maxSteps:=9^6)[h4])
    ((first|refine Xc ?_ ?_|refine Xo ?_ ?_)<;>intro h5<;>try simp only [Xz,Xy] at h5)
    ·(simp (maxSteps:=9^6)[h5])
     rw [if_pos (by omega)] at e1
     have e2:sbErrs b.code f.regs f.slots=15:=by rw [←e1];exact Jtg1 hz (by simp [hkl]) (by rw [e1];decide)
     (first|exact hR _ _ FrA|exact hR _ _ FnA|exact hR _ _ (Xf (hq:=by simp [AV.erase,AV.unview,Jt1d0,e2];done)))
    ·(simp (maxSteps:=9^6)[h5,hw])
     rw [if_neg (by omega)] at e1
     exact hN _ (k+1) ⟨hkl,take_zero hz hr e1⟩ (by rw [hrn];(exact wkA)) (by omega)
 ·have hk':k=b.code.length:=by simp at h2;omega
  subst hk'
  have hfe:sbErrs b.code f.regs f.slots=0:=Jtfz (by rw [List.take_of_length_le (by simp)] at hz;exact hz)
  (simp (maxSteps:=9^6)[])
  (refine Jt17 (Jt1c4 A b.term f.regs f.blocks.length) (by rfl) (by rfl) ?_)
  (simp (maxSteps:=9^6)[])
  (first|exact hR _ _ FrA|exact hR _ _ FnA|exact hR _ _ (Xf (hq:=by simp [AV.erase,AV.unview,Jt1d0,hfe];done)))
theorem Jtqu(A:All P p)(f:MFunc)(h0:f.blocks.length<1000000000)(h1:mcodeN f.blocks<1000000000)(hok:∀ b∈f.blocks,okM b):Jt51 P p.Yf1s [f.av] [] fun o _=>o=.ret (AI (Jt1d1 f)):=by
 refine A.Yf1s.run rfl fun R hR=>?_
 (simp (maxSteps:=9^6)[Jtis,MFunc.av])
 ((first|refine Xc ?_ ?_|refine Xo ?_ ?_)<;>intro a1<;>try simp only [Xz,Xy] at a1)
 ·(simp (maxSteps:=9^6)[a1])
  have e:Jt1d1 f=10:=by unfold Jt1d1;repeat (first | rw [if_pos (by omega)] | rw [if_neg (by omega)])
  (first|exact hR _ _ FrA|exact hR _ _ FnA|exact hR _ _ (Xf (hq:=by simp [AV.erase,AV.unview,e];done)))
 (simp (maxSteps:=9^6)[a1])
 ((first|refine Xc ?_ ?_|refine Xo ?_ ?_)<;>intro a2<;>try simp only [Xz,Xy] at a2)
 ·(simp (maxSteps:=9^6)[a2])
  have e:Jt1d1 f=10:=by unfold Jt1d1;repeat (first | rw [if_pos (by omega)] | rw [if_neg (by omega)])
  (first|exact hR _ _ FrA|exact hR _ _ FnA|exact hR _ _ (Xf (hq:=by simp [AV.erase,AV.unview,e];done)))
 (simp (maxSteps:=9^6)[a2])
 ((first|refine Xc ?_ ?_|refine Xo ?_ ?_)<;>intro a3<;>try simp only [Xz,Xy] at a3)
 ·(simp (maxSteps:=9^6)[a3])
  have e:Jt1d1 f=9:=by unfold Jt1d1;repeat (first | rw [if_pos (by omega)] | rw [if_neg (by omega)])
  (first|exact hR _ _ FrA|exact hR _ _ FnA|exact hR _ _ (Xf (hq:=by simp [AV.erase,AV.unview,e];done)))
 (simp (maxSteps:=9^6)[a3])
 ((first|refine Xc ?_ ?_|refine Xo ?_ ?_)<;>intro a4<;>try simp only [Xz,Xy] at a4)
 ·(simp (maxSteps:=9^6)[a4])
  have e:Jt1d1 f=6:=by unfold Jt1d1;repeat (first | rw [if_pos (by omega)] | rw [if_neg (by omega)])
  (first|exact hR _ _ FrA|exact hR _ _ FnA|exact hR _ _ (Xf (hq:=by simp [AV.erase,AV.unview,e];done)))
 (simp (maxSteps:=9^6)[a4])
 ((first|refine Xc ?_ ?_|refine Xo ?_ ?_)<;>intro a5<;>try simp only [Xz,Xy] at a5)
 ·(simp (maxSteps:=9^6)[a5])
  have e:Jt1d1 f=6:=by unfold Jt1d1;repeat (first | rw [if_pos (by omega)] | rw [if_neg (by omega)])
  (first|exact hR _ _ FrA|exact hR _ _ FnA|exact hR _ _ (Xf (hq:=by simp [AV.erase,AV.unview,e];done)))
 (simp (maxSteps:=9^6)[a5])
 ((first|refine Xc ?_ ?_|refine Xo ?_ ?_)<;>intro a6<;>try simp only [Xz,Xy] at a6)
 ·(simp (maxSteps:=9^6)[a6])
  have e:Jt1d1 f=14:=by unfold Jt1d1;repeat (first | rw [if_pos (by omega)] | rw [if_neg (by omega)])
  (first|exact hR _ _ FrA|exact hR _ _ FnA|exact hR _ _ (Xf (hq:=by simp [AV.erase,AV.unview,e];done)))
 (simp (maxSteps:=9^6)[a6])
 ((first|refine Xc ?_ ?_|refine Xo ?_ ?_)<;>intro a7<;>try simp only [Xz,Xy] at a7)
 ·(simp (maxSteps:=9^6)[a7])
  have e:Jt1d1 f=6:=by unfold Jt1d1;repeat (first | rw [if_pos (by omega)] | rw [if_neg (by omega)])
  (first|exact hR _ _ FrA|exact hR _ _ FnA|exact hR _ _ (Xf (hq:=by simp [AV.erase,AV.unview,e];done)))
 (simp (maxSteps:=9^6)[a7])
 (refine Jt17 (Jtqz A f h0 h1) (by rfl) (by rfl) ?_)
 (simp (maxSteps:=9^6)[])
 ((first|refine Xc ?_ ?_|refine Xo ?_ ?_)<;>intro a8<;>try simp only [Xz,Xy] at a8)
 ·(simp (maxSteps:=9^6)[a8])
  have e:Jt1d1 f=6:=by unfold Jt1d1;repeat (first | rw [if_pos (by omega)] | rw [if_neg (by omega)])
  (first|exact hR _ _ FrA|exact hR _ _ FnA|exact hR _ _ (Xf (hq:=by simp [AV.erase,AV.unview,e];done)))
 (simp (maxSteps:=9^6)[a8])
 have e:Jt1d1 f=Jtfy (f.blocks.map fun b=>Jt1d0 b f.regs f.slots f.blocks.length):=by
  unfold Jt1d1;repeat (first | rw [if_pos (by omega)] | rw [if_neg (by omega)])
 refine Jtf (fun k:Nat=>⟨[(48,AI k),(47,AI f.blocks.length),(46,.d (.sl (f.blocks.map MBlock.row))),(1,.ptr 0 0)],[.mem [AI f.args,AI f.regs,AI f.slots,.d (.sl (f.blocks.map MBlock.row))]]⟩)
  (fun k=>k≤f.blocks.length∧∀ e∈(f.blocks.map fun b=>Jt1d0 b f.regs f.slots f.blocks.length).take k,e=0) (fun k=>f.blocks.length-k) 0 (by simp) (by (exact wkA)) ?_
 rintro k ⟨hk,hz⟩ N hN
 (simp (maxSteps:=9^6)[])
 ((first|refine Xc ?_ ?_|refine Xo ?_ ?_)<;>intro h2<;>try simp only [Xz,Xy] at h2)
 ·have hkl:k<f.blocks.length:=by simpa using h2
  have hb:f.blocks[k]?=some f.blocks[k]:=by simp [hkl]
  have hw:=Jt1le (k:=k) (by omega)
  have hbl:f.blocks[k].code.length<1000000000:=by
   have h3:=Jtsi hb
   have h4:=Jtsg f.blocks (k+1)
   omega
  (simp (maxSteps:=9^6)[h2,hb,MBlock.row])
  (refine Jt17 (Jtrm A f f.blocks[k] hbl (hok _ (List.getElem_mem hkl))) (by rfl) (by rfl) ?_)
  (simp (maxSteps:=9^6)[])
  ((first|refine Xc ?_ ?_|refine Xo ?_ ?_)<;>intro h3<;>try simp only [Xz,Xy] at h3)
  ·(simp (maxSteps:=9^6)[h3])
   have e2:Jtfy (f.blocks.map fun b=>Jt1d0 b f.regs f.slots f.blocks.length)=Jt1d0 f.blocks[k] f.regs f.slots f.blocks.length:=Jtg1 hz (by simp [hkl]) h3
   (first|exact hR _ _ FrA|exact hR _ _ FnA|exact hR _ _ (Xf (hq:=by simp [AV.erase,AV.unview,e,e2];done)))
  ·(simp (maxSteps:=9^6)[h3,hw])
   exact hN _ (k+1) ⟨hkl,take_zero hz hb (by simpa using h3)⟩ (by (exact wkA)) (by omega)
 ·have hk':k=f.blocks.length:=by simp at h2;omega
  subst hk'
  have hfe:Jtfy (f.blocks.map fun b=>Jt1d0 b f.regs f.slots f.blocks.length)=0:=Jtfz (by rw [List.take_of_length_le (by simp)] at hz;exact hz)
  (simp (maxSteps:=9^6)[])
  (first|exact hR _ _ FrA|exact hR _ _ FnA|exact hR _ _ (Xf (hq:=by simp [AV.erase,AV.unview,e,hfe];done)))
end
theorem Jtvb{l:List Pair}{vregs regs slots:Int}{k:Nat}(hz:∀ e∈((List.range l.length).map (pErr l vregs regs slots)).take k,e=0) (hk:k<l.length) (h:pErr l vregs regs slots k≠0):pErrs l vregs regs slots=pErr l vregs regs slots k:=
 Jtg1 hz (by simp [hk]) h
theorem ibeq(a b:Int):(a==b)=decide (a=b):=by rw [Bool.eq_iff_iff];simp
def entA(w:List Pair)(args:Int):AV:=.tup [((w.find? fun q=>!initZ q args).getD ⟨0,0⟩).av,AI (if (w.all fun q=>initZ q args)=true then 0 else 23)]
def impA(out w:List Pair):AV:=.tup [((missP w out).getD ⟨0,0⟩).av,AI (if (missP w out).isSome=true then 22 else 0)]
theorem ent_at{w:List Pair}{args:Int}{k:Nat}(h:k<w.length)(h1:∀ q∈w.take k,initZ q args=true)(h2:initZ w[k] args=false):w.find? (fun q=>!initZ q args)=some w[k]∧(w.all fun q=>initZ q args)=false:=by
 constructor
 ·have e:w=w.take k++w[k]::w.drop (k+1):=by rw [List.getElem_cons_drop,List.take_append_drop]
  have e1:(w.take k).find? (fun q=>!initZ q args)=none:=by
   rw [List.find?_eq_none];intro q hq;simp [h1 q hq]
  have e2:(w[k]::w.drop (k+1)).find? (fun q=>!initZ q args)=some w[k]:=by
   rw [List.find?_cons_of_pos (by simp [h2])]
  have e3:=congrArg (List.find? fun q=>!initZ q args) e
  rw [List.find?_append,e1,e2] at e3
  exact e3
 ·rw [←Bool.not_eq_true,List.all_eq_true]
  intro h'
  have:=h' w[k] (List.getElem_mem h)
  rw [h2] at this;cases this
section
variable {P:Program} {p:Nums}
theorem Jt1bo(A:All P p)(t:Term):Jt51 P p.Yf11 [t.av] [] fun o _=>o=.ret (.d (.sl ((succsZ t).map fun x=>[I x]))):=by
 refine A.Yf11.run rfl fun R hR=>?_
 (simp (maxSteps:=9^6)[Jtkk,Term.av])
 ((first|refine Xc ?_ ?_|refine Xo ?_ ?_)<;>intro h1<;>try simp only [Xz,Xy] at h1)
 ·(simp (maxSteps:=9^6)[h1])
  (first|exact hR _ _ FrA|exact hR _ _ FnA|exact hR _ _ (Xf (hq:=by simp [AV.erase,AV.unview,succsZ,h1];done)))
 (simp (maxSteps:=9^6)[h1])
 ((first|refine Xc ?_ ?_|refine Xo ?_ ?_)<;>intro h2<;>try simp only [Xz,Xy] at h2)
 ·(simp (maxSteps:=9^6)[h2])
  (first|exact hR _ _ FrA|exact hR _ _ FnA|exact hR _ _ (Xf (hq:=by simp [AV.erase,AV.unview,succsZ,h1,h2];done)))
 (simp (maxSteps:=9^6)[h2])
 exact hR _ _ (Jt58 .nils (.d (.sl ((succsZ t).map fun x=>[I x]))) [] rfl (by simp only [succsZ,if_neg h1,if_neg h2,List.map_nil];(exact wkA)) rfl)
theorem Jtdy(A:All P p)(q:Pair)(args:Int)(h0:0≤q.l)(h1:q.l≤9223372036854775807)(h2:0≤q.v)(h3:q.v≤1000000000000000):Jt51 P p.Yf27 [q.av,AI args] [] fun o _=>o=.ret (AB (initZ q args)):=by
 have em:q.l.tmod 2=q.l % 2:=Int.tmod_eq_emod_of_nonneg h0
 have ed:q.l.tdiv 2=q.l / 2:=Int.tdiv_eq_ediv_of_nonneg h0
 refine A.Yf27.run rfl fun R hR=>?_
 (simp (maxSteps:=9^6)[Jtia,Pair.av])
 ((first|refine Xc ?_ ?_|refine Xo ?_ ?_)<;>intro h4<;>try simp only [Xz,Xy] at h4)
 ·(simp (maxSteps:=9^6)[h4])
  (refine Jt17 (Jtpy A q.v (by omega) (by omega)) (by rfl) (by rfl) ?_)
  (simp (maxSteps:=9^6)[])
  have e:initZ q args=decide (q.l=2*q.v+1):=by
   unfold initZ;rw [if_pos h4,em,ed,Bool.eq_iff_iff];simp;omega
  (first|exact hR _ _ FrA|exact hR _ _ FnA|exact hR _ _ (Xf (hq:=by simp [AV.erase,AV.unview,e,ibeq];done)))
 ·(simp (maxSteps:=9^6)[h4])
  (refine Jt17 (Jtpu A q.l) (by rfl) (by rfl) ?_)
  (simp (maxSteps:=9^6)[])
  ((first|refine Xc ?_ ?_|refine Xo ?_ ?_)<;>intro h5<;>try simp only [Xz,Xy] at h5)
  ·(simp (maxSteps:=9^6)[h5])
   have e:initZ q args=true:=by unfold initZ;rw [if_neg h4];simp [h5]
   (first|exact hR _ _ FrA|exact hR _ _ FnA|exact hR _ _ (Xf (hq:=by simp [AV.erase,AV.unview,e];done)))
  ·(simp (maxSteps:=9^6)[h5])
   (refine Jt17 (Jtps A q.l (by omega) (by omega)) (by rfl) (by rfl) ?_)
   (simp (maxSteps:=9^6)[])
   have e:initZ q args=decide (args≤q.l.tdiv 2):=by unfold initZ;rw [if_neg h4];simp [h5]
   (first|exact hR _ _ FrA|exact hR _ _ FnA|exact hR _ _ (Xf (hq:=by simp [AV.erase,AV.unview,e];done)))
theorem Jtdp(A:All P p)(w:List Pair)(args:Int)(h0:w.length<1000000)(hw:∀ q∈w,0≤q.l∧q.l≤9223372036854775807∧0≤q.v∧q.v≤1000000000000000):Jt51 P p.Yf21 [.d (pairsD w),AI args] [] fun o _=>o=.ret (entA w args):=by
 refine A.Yf21.run rfl fun R hR=>?_
 (simp (maxSteps:=9^6)[Jti8,pairsD])
 refine Jtf (fun k:Nat=>⟨[(10,AI k),(9,AI w.length),(8,.d (.sl (w.map Pair.row))),(5,AI 0),(4,.ptr 0 0),(1,AI args)],[.mem [AI 0,AI 0]]⟩) (fun k=>k≤w.length∧∀ q∈w.take k,initZ q args=true) (fun k=>w.length-k) 0 (by simp) (by (exact wkA)) ?_
 rintro k ⟨hk,hz⟩ N hN
 (simp (maxSteps:=9^6)[])
 ((first|refine Xc ?_ ?_|refine Xo ?_ ?_)<;>intro h2<;>try simp only [Xz,Xy] at h2)
 ·have hkl:k<w.length:=by simpa using h2
  have hb:w[k]?=some w[k]:=by simp
  have hw1:=Jt1le (k:=k) (by omega)
  obtain ⟨g1,g2,g3,g4⟩:=hw w[k] (List.getElem_mem hkl)
  (simp (maxSteps:=9^6)[h2,hb,Pair.row])
  (refine Jt17 (Jtdy A w[k] args g1 g2 g3 g4) (by rfl) (by rfl) ?_)
  (simp (maxSteps:=9^6)[])
  ((first|refine Xc ?_ ?_|refine Xo ?_ ?_)<;>intro h3<;>try simp only [Xz,Xy] at h3)
  ·(simp (maxSteps:=9^6)[h3])
   obtain ⟨e1,e2⟩:=ent_at hkl hz (by simpa using h3)
   (first|exact hR _ _ FrA|exact hR _ _ FnA|exact hR _ _ (Xf (hq:=by simp [AV.erase,AV.unview,entA,e1,e2,Pair.av];done)))
  ·(simp (maxSteps:=9^6)[h3,hw1])
   refine hN _ (k+1) ⟨hkl,?_⟩ (by (exact wkA)) (by omega)
   intro q hq
   rw [List.take_add_one,hb] at hq
   rcases List.mem_append.1 hq with hq | hq
   ·exact hz q hq
   ·simp at hq;subst hq;simpa using h3
 ·have hk':k=w.length:=by simp at h2;omega
  subst hk'
  rw [List.take_length] at hz
  have e1:(w.all fun q=>initZ q args)=true:=by rw [List.all_eq_true];exact hz
  have e2:w.find? (fun q=>!initZ q args)=none:=by rw [List.find?_eq_none];intro q hq;simp [hz q hq]
  (simp (maxSteps:=9^6)[])
  (first|exact hR _ _ FrA|exact hR _ _ FnA|exact hR _ _ (Xf (hq:=by simp [AV.erase,AV.unview,entA,e1,e2,Pair.av];done)))
theorem Jtdu(A:All P p)(out w:List Pair)(h0:out.length<1000000)(h1:w.length<1000000)(ho:Srt out)(hw:Srt w):Jt51 P p.Yf1w [.d (pairsD out),.d (pairsD w)] [] fun o _=>o=.ret (impA out w):=by
 refine A.Yf1w.run rfl fun R hR=>?_
 (simp (maxSteps:=9^6)[Jti9])
 (refine Jt17 (Jtwn A w out h1 h0 hw ho) (by rfl) (by rfl) ?_)
 (simp (maxSteps:=9^6)[missA,Pair.av])
 ((first|refine Xc ?_ ?_|refine Xo ?_ ?_)<;>intro h2<;>try simp only [Xz,Xy] at h2)
 ·(simp (maxSteps:=9^6)[h2])
  (first|exact hR _ _ FrA|exact hR _ _ FnA|exact hR _ _ (Xf (hq:=by simp [AV.erase,AV.unview,impA,h2,Pair.av];done)))
 ·(simp (maxSteps:=9^6)[h2])
  have e:missP w out=none:=by simpa using h2
  (first|exact hR _ _ FrA|exact hR _ _ FnA|exact hR _ _ (Xf (hq:=by simp [AV.erase,AV.unview,impA,e,Pair.av];done)))
end
theorem Jtva{l:List Pair}{k:Nat}(hk:k<l.length)(vregs regs slots:Int):pErr l vregs regs slots k=if l[k].v<0∨vregs≤l[k].v then 9 else if rngZ l[k].l regs slots=false then 10 else if 0<k∧(match l[k-1]? with | some q0=>lessP q0 l[k] | none=>true)=false then 13 else 0:=by
 unfold pErr;rw [lgE hk];try rfl
section
variable {P:Program} {p:Nums}
theorem Jteo(A:All P p)(l:List Pair)(vregs regs slots:Int)(h0:l.length<1000000000)(hok:∀ q∈l,okZ q.l):Jt51 P p.Yf20 [.d (pairsD l),AI vregs,AI regs,AI slots] [] fun o _=>o=.ret (AI (pErrs l vregs regs slots)):=by
 refine A.Yf20.run rfl fun R hR=>?_
 (simp (maxSteps:=9^6)[Jtic,pairsD])
 refine Jtf (fun k:Nat=>⟨[(13,AI k),(12,AI l.length),(11,.d (.sl (l.map Pair.row))),(0,.d (.sl (l.map Pair.row))),(1,AI vregs),(2,AI regs),(3,AI slots)],[]⟩)
  (fun k=>k≤l.length∧∀ e∈((List.range l.length).map (pErr l vregs regs slots)).take k,e=0) (fun k=>l.length-k) 0 (by simp) (by (exact wkA)) ?_
 rintro k ⟨hk,hz⟩ N hN
 (simp (maxSteps:=9^6)[])
 ((first|refine Xc ?_ ?_|refine Xo ?_ ?_)<;>intro h2<;>try simp only [Xz,Xy] at h2)
 ·have hkl:k<l.length:=by simpa using h2
  have hb:l[k]?=some l[k]:=by simp
  have hr:(List.range l.length)[k]?=some k:=by simp [hkl]
  have hw:=Jt1le (k:=k) (by omega)
  obtain ⟨g1,g2⟩:=hok _ (List.getElem_mem hkl)
  have hv:=Jtva hkl vregs regs slots
  (simp (maxSteps:=9^6)[h2,hb,Pair.row])
  ((first|refine Xc ?_ ?_|refine Xo ?_ ?_)<;>intro h3<;>try simp only [Xz,Xy] at h3)
  ·(simp (maxSteps:=9^6)[h3])
   rw [if_pos (.inl h3)] at hv
   have e:=Jtvb hz hkl (by rw [hv];decide)
   (first|exact hR _ _ FrA|exact hR _ _ FnA|exact hR _ _ (Xf (hq:=by simp [AV.erase,AV.unview,e,hv];done)))
  (simp (maxSteps:=9^6)[h3])
  ((first|refine Xc ?_ ?_|refine Xo ?_ ?_)<;>intro h4<;>try simp only [Xz,Xy] at h4)
  ·(simp (maxSteps:=9^6)[h4])
   rw [if_pos (.inr h4)] at hv
   have e:=Jtvb hz hkl (by rw [hv];decide)
   (first|exact hR _ _ FrA|exact hR _ _ FnA|exact hR _ _ (Xf (hq:=by simp [AV.erase,AV.unview,e,hv];done)))
  (simp (maxSteps:=9^6)[h4])
  rw [if_neg (by omega)] at hv
  (refine Jt17 (Jtpq A l[k].l regs slots g1 g2) (by rfl) (by rfl) ?_)
  (simp (maxSteps:=9^6)[])
  ((first|refine Xc ?_ ?_|refine Xo ?_ ?_)<;>intro h5<;>try simp only [Xz,Xy] at h5)
  ·(simp (maxSteps:=9^6)[h5])
   rw [if_pos h5] at hv
   have e:=Jtvb hz hkl (by rw [hv];decide)
   (first|exact hR _ _ FrA|exact hR _ _ FnA|exact hR _ _ (Xf (hq:=by simp [AV.erase,AV.unview,e,hv];done)))
  rw [if_neg (by simp [h5])] at hv
  (simp (maxSteps:=9^6)[h5])
  ((first|refine Xc ?_ ?_|refine Xo ?_ ?_)<;>intro h6<;>try simp only [Xz,Xy] at h6)
  ·obtain ⟨lo,hlo⟩:∃ x,x=k-1:=⟨_,rfl⟩
   have hk0:0<k:=by omega
   have hll:lo<l.length:=by omega
   have hbl:l[lo]?=some l[lo]:=by simp
   have hwl:IntKind.i64.wrap ((k:Int)-1)=(lo:Int):=by
    have e1:(k:Int)-1=(lo:Int):=by omega
    rw [e1];exact wrapN (by omega)
   rw [←hlo,hbl] at hv
   simp only [hk0,true_and] at hv
   have c:=Jtw6 A l[lo] l[k]
   obtain ⟨b,hbe⟩:∃ b,b=lessP l[lo] l[k]:=⟨_,rfl⟩
   rw [←hbe] at hv c
   (simp (maxSteps:=9^6)[h6,hwl,hbl,Pair.row])
   (refine Jt17 c (by rfl) (by rfl) ?_)
   (simp (maxSteps:=9^6)[])
   ((first|refine Xc ?_ ?_|refine Xo ?_ ?_)<;>intro h7<;>try simp only [Xz,Xy] at h7)
   ·(simp (maxSteps:=9^6)[h7])
    rw [if_pos h7] at hv
    have e:=Jtvb hz hkl (by rw [hv];decide)
    (first|exact hR _ _ FrA|exact hR _ _ FnA|exact hR _ _ (Xf (hq:=by simp [AV.erase,AV.unview,e,hv];done)))
   ·rw [if_neg (by simp [h7])] at hv
    (simp (maxSteps:=9^6)[h7,hw])
    exact hN _ (k+1) ⟨hkl,take_zero hz hr hv⟩ (by (exact wkA)) (by omega)
  ·rw [if_neg (by omega)] at hv
   (simp (maxSteps:=9^6)[h6,hw])
   exact hN _ (k+1) ⟨hkl,take_zero hz hr hv⟩ (by (exact wkA)) (by omega)
 ·have hk':k=l.length:=by simp at h2;omega
  subst hk'
  have hfe:pErrs l vregs regs slots=0:=Jtfz (by rw [List.take_of_length_le (by simp)] at hz;exact hz)
  (simp (maxSteps:=9^6)[])
  (first|exact hR _ _ FrA|exact hR _ _ FnA|exact hR _ _ (Xf (hq:=by simp [AV.erase,AV.unview,hfe];done)))
theorem Jteb(A:All P p)(w:List (List Pair)) (blocks vregs regs slots:Int) (h0:w.length<1000000000) (h1:wTotal w<1000000000) (hl:∀ l∈w,l.length<1000000000) (hok:okW w) :
  Jt51 P p.Yf1t [.d (witD w),AI blocks,AI vregs,AI regs,AI slots] [] fun o _=>o=.ret (AI (Jtdg w blocks vregs regs slots)):=by
 refine A.Yf1t.run rfl fun R hR=>?_
 (simp (maxSteps:=9^6)[Jtib,witD])
 ((first|refine Xc ?_ ?_|refine Xo ?_ ?_)<;>intro a1<;>try simp only [Xz,Xy] at a1)
 ·(simp (maxSteps:=9^6)[a1])
  have e:Jtdg w blocks vregs regs slots=14:=by unfold Jtdg;rw [if_pos a1]
  (first|exact hR _ _ FrA|exact hR _ _ FnA|exact hR _ _ (Xf (hq:=by simp [AV.erase,AV.unview,e];done)))
 (simp (maxSteps:=9^6)[a1])
 (refine Jt17 (Jtet A w h0 h1) (by rfl) (by rfl) ?_)
 (simp (maxSteps:=9^6)[])
 ((first|refine Xc ?_ ?_|refine Xo ?_ ?_)<;>intro a2<;>try simp only [Xz,Xy] at a2)
 ·(simp (maxSteps:=9^6)[a2])
  have e:Jtdg w blocks vregs regs slots=6:=by unfold Jtdg;rw [if_neg (fun h=>h a1),if_pos (by omega)]
  (first|exact hR _ _ FrA|exact hR _ _ FnA|exact hR _ _ (Xf (hq:=by simp [AV.erase,AV.unview,e];done)))
 (simp (maxSteps:=9^6)[a2])
 have e:Jtdg w blocks vregs regs slots=Jtfy (w.map fun l=>pErrs l vregs regs slots):=by unfold Jtdg;rw [if_neg (fun h=>h a1),if_neg (by omega)]
 refine Jtf (fun k:Nat=>⟨[(25,AI k),(24,AI w.length),(23,.d (.sl (w.map fun l=>[pairsD l]))),(2,AI vregs),(3,AI regs),(4,AI slots)],[]⟩)
  (fun k=>k≤w.length∧∀ e∈(w.map fun l=>pErrs l vregs regs slots).take k,e=0) (fun k=>w.length-k) 0 (by simp) (by (exact wkA)) ?_
 rintro k ⟨hk,hz⟩ N hN
 (simp (maxSteps:=9^6)[])
 ((first|refine Xc ?_ ?_|refine Xo ?_ ?_)<;>intro h2<;>try simp only [Xz,Xy] at h2)
 ·have hkl:k<w.length:=by simpa using h2
  have hb:w[k]?=some w[k]:=by simp
  have hw:=Jt1le (k:=k) (by omega)
  (simp (maxSteps:=9^6)[h2,hb])
  (refine Jt17 (Jteo A w[k] vregs regs slots (hl _ (List.getElem_mem hkl)) (hok _ (List.getElem_mem hkl))) (by rfl) (by rfl) ?_)
  (simp (maxSteps:=9^6)[])
  ((first|refine Xc ?_ ?_|refine Xo ?_ ?_)<;>intro h3<;>try simp only [Xz,Xy] at h3)
  ·(simp (maxSteps:=9^6)[h3])
   have e2:Jtfy (w.map fun l=>pErrs l vregs regs slots)=pErrs w[k] vregs regs slots:=Jtg1 hz (by simp [hkl]) h3
   (first|exact hR _ _ FrA|exact hR _ _ FnA|exact hR _ _ (Xf (hq:=by simp [AV.erase,AV.unview,e,e2];done)))
  ·(simp (maxSteps:=9^6)[h3,hw])
   exact hN _ (k+1) ⟨hkl,take_zero hz hb (by simpa using h3)⟩ (by (exact wkA)) (by omega)
 ·have hk':k=w.length:=by simp at h2;omega
  subst hk'
  have hfe:Jtfy (w.map fun l=>pErrs l vregs regs slots)=0:=Jtfz (by rw [List.take_of_length_le (by simp)] at hz;exact hz)
  (simp (maxSteps:=9^6)[])
  (first|exact hR _ _ FrA|exact hR _ _ FnA|exact hR _ _ (Xf (hq:=by simp [AV.erase,AV.unview,e,hfe];done)))
end
theorem Jtt9(i:Mach)(regs slots:Int):Jt1d2 i regs slots=Jt14w i regs slots:=by
 have hk:(knownZ i.op&&i.op != 2)=false↔(i.op<1∨18<i.op∨i.op=2):=by
  rw [←Bool.not_eq_true,Bool.and_eq_true]
  simp only [knownZ,decide_eq_true_eq,bne_iff_ne,ne_eq]
  omega
 unfold Jt1d2 Jt14w
 by_cases h1:i.op<1∨18<i.op∨i.op=2
 ·rw [if_pos (hk.2 h1),if_pos h1]
 ·rw [if_neg (fun h=>h1 (hk.1 h)),if_neg h1]
  by_cases h2:i.op=18
  ·rw [if_pos h2,if_pos h2]
   have hc:clearM i=false↔(i.d≠0∨i.a≠0∨i.b≠0∨i.imm≠0):=by
    rw [←Bool.not_eq_true];unfold clearM;simp only [Bool.and_eq_true,beq_iff_eq];omega
   by_cases hA:rngZ i.dst regs slots=false∨rngZ i.src regs slots=false∨(i.dst.tmod 2=1∧i.src.tmod 2=1)
   ·have e:movZ i regs slots=10:=by
     unfold movZ
     rw [if_pos]
     rcases hA with h | h | h
     ·exact .inr (.inl h)
     ·exact .inr (.inr h)
     ·exact .inl h
    rw [e,if_pos (by decide),if_pos hA]
   ·have e:movZ i regs slots=0:=by
     unfold movZ
     rw [if_neg]
     rintro (h | h | h)
     ·exact hA (.inr (.inr h))
     ·exact hA (.inl h)
     ·exact hA (.inr (.inl h))
    rw [e,if_neg (by decide),if_neg hA]
    by_cases hd:clearM i=false
    ·rw [if_pos hd,if_pos (hc.1 hd)]
    ·rw [if_neg hd,if_neg (fun h=>hd (hc.2 h))]
  ·rw [if_neg h2,if_neg h2,Jtle]
   have hc:clearO i=false↔(i.dst≠0∨i.src≠0):=by
    rw [←Bool.not_eq_true];unfold clearO;simp only [Bool.and_eq_true,beq_iff_eq];omega
   show (if Jt14t i.instr regs≠0 then Jt14t i.instr regs else if clearO i=false then 12 else 0)=if Jt14t i.instr regs=0∧(i.dst≠0∨i.src≠0) then 12 else Jt14t i.instr regs
   by_cases he:Jt14t i.instr regs=0
   ·rw [if_neg (fun h=>h he)]
    by_cases hd:clearO i=false
    ·rw [if_pos hd,if_pos ⟨he,hc.1 hd⟩]
    ·rw [if_neg hd,if_neg (fun h=>hd (hc.2 h.2)),he]
   ·rw [if_pos he,if_neg (fun h=>he h.1)]
theorem sb_eq(code:List Mach)(regs slots:Int)(k:Nat):sbErr code regs slots k=mErr code regs slots k:=by
 unfold sbErr mErr
 cases hk:code[k]? with
 | none=>rfl
 | some x=>
  have hlt:=(lgS.1 hk).1
  simp only [Jtt9]
  by_cases h:64<runF (code.take (k+1))
  ·rw [if_pos h,if_pos ((Jttt hlt).1 h)]
  ·rw [if_neg h,if_neg (fun h'=>h ((Jttt hlt).2 h'))]
theorem Jtsd(f:MFunc):Jt1d1 f=Jt14v f:=by
 have e:∀ b:MBlock,Jt1d0 b f.regs f.slots f.blocks.length=Jt14u b f.regs f.slots f.blocks.length:=by
  intro b
  have e1:sbErr b.code f.regs f.slots=mErr b.code f.regs f.slots:=funext (sb_eq _ _ _)
  unfold Jt1d0 Jt14u sbErrs mErrs
  rw [e1,Jt1eb]
 simp only [Jt1d1,Jt14v,e]
structure okCert (c:Cert):Prop where
 s0:c.S.blocks.length<1000000000
 s1:codeN c.S.blocks<1000000000
 t0:c.T.blocks.length<1000000000
 t1:mcodeN c.T.blocks<1000000000
 t2:∀ b∈c.T.blocks,okM b
 w0:c.W.length<1000000000
 w1:wTotal c.W<1000000000
 w2:okW c.W
theorem okCert.w3{c:Cert}(h:okCert c):∀ l∈c.W,l.length<1000000000:=by
 intro l hl
 obtain ⟨k,hk⟩:=List.getElem?_of_mem hl
 have h1:=Jt1fy hk
 have h2:=Jt1fw c.W (k+1)
 have:=h.w1
 omega
section
variable {P:Program} {p:Nums}
theorem Jtby(A:All P p)(c:Cert)(ok:okCert c):Jt51 P p.Yf1o [c.av] [] fun o _=>o=.ret (AI (validZ c)):=by
 obtain ⟨T,hT⟩:∃ T,T=validZ c:=⟨_,rfl⟩
 refine A.Yf1o.run rfl fun R hR=>?_
 rw [←hT] at hR
 unfold validZ at hT
 have c1:=Jt1b2 A c.S ok.s0 ok.s1
 have c2:=Jtqu A c.T ok.t0 ok.t1 ok.t2
 have c3:=Jteb A c.W c.S.blocks.length c.S.regs c.T.regs c.T.slots ok.w0 ok.w1 ok.w3 ok.w2
 rw [Jtb2] at c1
 rw [Jtsd] at c2
 obtain ⟨e1,he1⟩:∃ e,e=Jt14r c.S:=⟨_,rfl⟩
 obtain ⟨e2,he2⟩:∃ e,e=Jt14v c.T:=⟨_,rfl⟩
 obtain ⟨e3,he3⟩:∃ e,e=Jtdg c.W c.S.blocks.length c.S.regs c.T.regs c.T.slots:=⟨_,rfl⟩
 rw [←he1] at hT c1
 rw [←he2] at hT c2
 rw [←he3] at hT c3
 (simp (maxSteps:=9^6)[Jti6,Cert.av])
 (refine Jt17 c1 (by rfl) (by rfl) ?_)
 (simp (maxSteps:=9^6)[])
 ((first|refine Xc ?_ ?_|refine Xo ?_ ?_)<;>intro h1<;>try simp only [Xz,Xy] at h1)
 ·rw [if_pos h1] at hT
  (simp (maxSteps:=9^6)[h1])
  (first|exact hR _ _ FrA|exact hR _ _ FnA|exact hR _ _ (Xf (hq:=by simp [AV.erase,AV.unview,hT];done)))
 rw [if_neg (by simpa using h1)] at hT
 (simp (maxSteps:=9^6)[h1])
 (refine Jt17 c2 (by rfl) (by rfl) ?_)
 (simp (maxSteps:=9^6)[])
 ((first|refine Xc ?_ ?_|refine Xo ?_ ?_)<;>intro h2<;>try simp only [Xz,Xy] at h2)
 ·rw [if_pos h2] at hT
  (simp (maxSteps:=9^6)[h2])
  (first|exact hR _ _ FrA|exact hR _ _ FnA|exact hR _ _ (Xf (hq:=by simp [AV.erase,AV.unview,hT];done)))
 rw [if_neg (by simpa using h2)] at hT
 (simp (maxSteps:=9^6)[h2])
 ((first|refine Xc ?_ ?_|refine Xo ?_ ?_)<;>intro h3<;>try simp only [Xz,Xy] at h3)
 ·rw [if_pos (.inl (by omega))] at hT
  (simp (maxSteps:=9^6)[h3])
  (first|exact hR _ _ FrA|exact hR _ _ FnA|exact hR _ _ (Xf (hq:=by simp [AV.erase,AV.unview,hT];done)))
 (simp (maxSteps:=9^6)[h3])
 ((first|refine Xc ?_ ?_|refine Xo ?_ ?_)<;>intro h4<;>try simp only [Xz,Xy] at h4)
 ·rw [if_pos (.inr h4)] at hT
  (simp (maxSteps:=9^6)[h4])
  (first|exact hR _ _ FrA|exact hR _ _ FnA|exact hR _ _ (Xf (hq:=by simp [AV.erase,AV.unview,hT];done)))
 rw [if_neg (by omega)] at hT
 (simp (maxSteps:=9^6)[h4])
 (refine Jt17 c3 (by rfl) (by rfl) ?_)
 (simp (maxSteps:=9^6)[])
 (first|exact hR _ _ FrA|exact hR _ _ FnA|exact hR _ _ (Xf (hq:=by simp [AV.erase,AV.unview,hT];done)))
end
def VS:List Int:=(List.range 61).map fun n:Nat=>(n:Int)
def LS:List Int:=(List.range 122).map fun n:Nat=>(n:Int)
theorem mem_VS{x:Int}(h0:0≤x)(h1:x≤60):x∈VS:=List.mem_map.2 ⟨x.toNat,List.mem_range.2 (by omega),by omega⟩
theorem mem_LS{x:Int}(h0:0≤x)(h1:x≤121):x∈LS:=List.mem_map.2 ⟨x.toNat,List.mem_range.2 (by omega),by omega⟩
theorem VL_few:VS.length*LS.length<100000:=by decide
theorem src_ok{f:Func}(h:Jt14r f=0):0≤f.args∧f.args≤f.regs∧0<f.blocks.length∧∀ b∈f.blocks,(∀ i∈b.code,Jt14t i f.regs=0)∧Jt14z b.term f.regs f.blocks.length=0:=by
 unfold Jt14r at h
 split at h
 ·cases h
 split at h
 ·cases h
 split at h
 ·cases h
 split at h
 ·cases h
 refine ⟨by omega,by omega,by omega,fun b hb=>?_⟩
 have h3:=Jtg0 h _ (List.mem_map_of_mem hb)
 simp only [Jt14q] at h3
 split at h3
 ·rename_i h5;exact absurd h3 h5
 ·rename_i h5
  exact ⟨fun i hi=>Jtg0 (es:=b.code.map (Jt14t · f.regs)) (by simpa using h5) _ (List.mem_map_of_mem hi),h3⟩
theorem Jtld{i:Instr}{regs:Int}(h:Jt14t i regs=0)(h0:0≤regs)(h1:regs≤60):i.d∈VS:=by
 unfold Jt14t at h
 split at h
 ·cases h
 split at h
 ·cases h
 rename_i h9
 split at h
 ·cases h
 rename_i h12
 cases hu:usesD i.op with
 | true=>
  simp only [bad9,hu,Bool.true_and,Bool.or_eq_true,not_or,Bool.not_eq_true',inZ] at h9
  have:=h9.1.1
  simp at this
  exact mem_VS this.1 (by omega)
 | false=>
  simp only [bad12,hu,Bool.not_false,Bool.true_and,Bool.or_eq_true,not_or,bne_iff_ne,ne_eq,Decidable.not_not] at h12
  rw [h12.1.1.1];exact mem_VS (by omega) (by omega)
theorem Jt1ec{t:Term}{regs blocks:Int}(h:Jt14z t regs blocks=0):∀ x∈succsZ t,0≤x∧x<blocks:=by
 unfold Jt14z at h
 unfold succsZ
 intro x hx
 split at h
 ·rename_i k1
  rw [if_pos k1] at hx
  simp only [List.mem_singleton] at hx
  split at h
  ·cases h
  ·rename_i k2
   subst hx;simpa [inZ] using k2
 ·rename_i k1
  rw [if_neg k1] at hx
  split at h
  ·rename_i k3
   rw [if_pos k3] at hx
   split at h
   ·cases h
   split at h
   ·cases h
   rename_i k4 k5
   simp only [not_or] at k5
   simp only [List.mem_cons,List.not_mem_nil,or_false] at hx
   rcases hx with rfl | rfl
   ·simpa [inZ] using k5.1
   ·simpa [inZ] using k5.2
  ·rename_i k3
   rw [if_neg k3] at hx;simp at hx
theorem mac_ok{f:MFunc}(h:Jt14v f=0):0≤f.args∧f.args≤f.slots∧0≤f.regs∧∀ b∈f.blocks,∀ x∈b.code,Jt14w x f.regs f.slots=0:=by
 unfold Jt14v at h
 split at h
 ·cases h
 split at h
 ·cases h
 split at h
 ·cases h
 split at h
 ·cases h
 split at h
 ·cases h
 refine ⟨by omega,by omega,by omega,fun b hb x hx=>?_⟩
 have h3:=Jtg0 h _ (List.mem_map_of_mem hb)
 unfold Jt14u at h3
 split at h3
 ·rename_i h5;exact absurd h3 h5
 ·rename_i h5
  have h6:mErrs b.code f.regs f.slots=0:=by simpa using h5
  obtain ⟨k,hk⟩:=List.getElem?_of_mem hx
  have hlt:=(lgS.1 hk).1
  have h7:=Jtg0 h6 (mErr b.code f.regs f.slots k) (List.mem_map.2 ⟨k,List.mem_range.2 hlt,rfl⟩)
  unfold mErr at h7
  rw [hk] at h7
  simp only at h7
  split at h7
  ·rename_i h8;exact absurd h7 h8
  ·rename_i h8;simpa using h8
theorem rng_ok{l r s:Int}(h:rngZ l r s=true)(hr:r≤60)(hs:s≤60):0≤l∧l≤121:=by
 unfold rngZ at h
 split at h
 ·rename_i h1
  simp only [Bool.and_eq_true,decide_eq_true_eq] at h
  have:=Int.tdiv_eq_ediv_of_nonneg (b:=2) h.1
  omega
 ·rename_i h1
  simp only [Bool.and_eq_true,decide_eq_true_eq] at h
  have:=Int.tdiv_eq_ediv_of_nonneg (b:=2) h.1
  omega
theorem Jtta{x:Mach}{regs slots:Int}(h:Jt14w x regs slots=0)(h0:0≤regs)(h1:regs≤60)(h2:slots≤60):x.dst∈LS∧regZ x.d∈LS:=by
 unfold Jt14w at h
 have hz:∀ d:Int,0≤d→d≤60→regZ d∈LS:=by
  intro d k0 k1
  have:regZ d=2*d:=by unfold regZ;exact wrap_i64 (by omega) (by omega)
  rw [this];exact mem_LS (by omega) (by omega)
 split at h
 ·cases h
 split at h
 ·split at h
  ·cases h
  rename_i k1
  split at h
  ·cases h
  rename_i k2
  simp only [not_or,Bool.not_eq_false] at k1
  obtain ⟨g0,g1⟩:=rng_ok k1.1 h1 h2
  refine ⟨mem_LS g0 g1,?_⟩
  have:x.d=0:=by simp only [not_or,Decidable.not_not,ne_eq] at k2;exact k2.1
  rw [this];exact hz 0 (by omega) (by omega)
 ·split at h
  ·cases h
  rename_i k1
  have e:x.dst=0:=by
   rw [h] at k1
   simp only [true_and,not_or,ne_eq,Decidable.not_not] at k1
   exact k1.1
  have hd:=Jtld h h0 h1
  obtain ⟨n,hn,hd⟩:=List.mem_map.1 hd
  simp only at hd
  have:=List.mem_range.1 hn
  refine ⟨by rw [e];exact mem_LS (by omega) (by omega),hz _ (by omega) (by omega)⟩
theorem Jtvj{l:List Pair}{vregs regs slots:Int}(h:pErrs l vregs regs slots=0)(hv:vregs≤60)(hr:regs≤60)(hs:slots≤60):Srt l∧∀ q∈l,0≤q.v∧q.v≤60∧0≤q.l∧q.l≤121:=by
 have key:∀ k (hk:k<l.length),0≤l[k].v∧l[k].v<vregs∧rngZ l[k].l regs slots=true∧(0<k→∀ q0,l[k-1]?=some q0→lessP q0 l[k]=true):=by
  intro k hk
  have h7:=Jtg0 h (pErr l vregs regs slots k) (List.mem_map.2 ⟨k,List.mem_range.2 hk,rfl⟩)
  rw [Jtva hk] at h7
  split at h7
  ·cases h7
  rename_i a1
  split at h7
  ·cases h7
  rename_i a2
  refine ⟨by omega,by omega,by simpa using a2,fun h0 q0 hq0=>?_⟩
  rw [hq0] at h7
  cases hx:lessP q0 l[k] with
  | true=>rfl
  | false=>
   simp only [hx,h0,and_self,if_true] at h7
   cases h7
 refine ⟨Jt1d5.2 fun k hk=>?_,fun q hq=>?_⟩
 ·exact (key (k+1) hk).2.2.2 (by omega) l[k] (by simp)
 ·obtain ⟨k,hk⟩:=List.getElem?_of_mem hq
  obtain ⟨hlt,rfl⟩:=lgS.1 hk
  obtain ⟨a1,a2,a3,_⟩:=key k hlt
  obtain ⟨a4,a5⟩:=rng_ok a3 hr hs
  exact ⟨a1,by omega,a4,a5⟩
structure Fit (c:Cert):Prop where
 lenT:c.T.blocks.length=c.S.blocks.length
 lenW:c.W.length=c.S.blocks.length
 pos:0<c.S.blocks.length
 few:c.S.blocks.length≤40
 w:∀ l∈c.W,Srt l∧l.length≤400∧∀ q∈l,0≤q.v∧q.v≤60∧0≤q.l∧q.l≤121
 vl:∀ b∈c.S.blocks,∀ m∈c.T.blocks,VLOk VS LS b.code m.code
 cs:∀ b∈c.S.blocks,b.code.length≤100
 ct:∀ m∈c.T.blocks,m.code.length≤900
 to:∀ b∈c.S.blocks,∀ x∈succsZ b.term,0≤x∧x<c.S.blocks.length
 ars:0≤c.S.args∧c.S.args≤60
theorem fit_of{c:Cert}(h:validZ c=0)(hf:fewC c=true):Fit c:=by
 unfold validZ at h
 split at h
 ·rename_i g;exact absurd h g
 rename_i g1
 split at h
 ·rename_i g;exact absurd h g
 rename_i g2
 split at h
 ·cases h
 rename_i g3
 have v1:Jt14r c.S=0:=by simpa using g1
 have v2:Jt14v c.T=0:=by simpa using g2
 unfold Jtdg at h
 split at h
 ·cases h
 rename_i g4
 split at h
 ·cases h
 rename_i g5
 simp only [fewC,few,fewM,fewW,Bool.and_eq_true,decide_eq_true_eq,List.all_eq_true] at hf
 obtain ⟨⟨⟨⟨⟨f1,f2⟩,f3⟩,f4⟩,⟨⟨⟨⟨f5,f6⟩,f7⟩,f8⟩,f9⟩⟩,f10,f11⟩:=hf
 obtain ⟨s1,s2,s3,s4⟩:=src_ok v1
 obtain ⟨t1,t2,t3,t4⟩:=mac_ok v2
 exact {
  lenT:=by omega
  lenW:=by omega
  pos:=s3
  few:=f1
  w:=fun l hl=>by
   obtain ⟨p1,p2⟩:=Jtvj (Jtg0 h _ (List.mem_map_of_mem hl)) f2 f6 f7
   exact ⟨p1,f11 l hl,p2⟩
  vl:=fun b hb m hm=>⟨fun i hi=>Jtld ((s4 b hb).1 i hi) (by omega) f2,fun x hx=>Jtta (t4 m hm x hx) t3 f6 f7⟩
  cs:=f3
  ct:=fun m hm=>Nat.le_trans (f8 m hm) (by decide)
  to:=fun b hb x hx=>Jt1ec (s4 b hb).2 x hx
  ars:=⟨s1,by omega⟩}
structure Good (r:Res):Prop where
 srt:Srt r.out
 len:r.out.length<100000
 steps:r.steps≤1000000000
 lg:r.largest<100000
theorem Jtb1{V L:List Int}{b:Block}{m:MBlock}{l:List Pair}{most:Int}(hl:∀ q∈l,q.v∈V∧q.l∈L)(hv:VLOk V L b.code m.code)(few:V.length*L.length<100000)(hl0:l.length<100000)
  (hb0:b.code.length≤1000) (hm0:m.code.length≤1000):Over V L (checkZ b m l most).out:=by
 have hnil:Over V L []:=⟨List.Pairwise.nil,fun q hq=>by simp at hq⟩
 obtain ⟨a1,a2,a3⟩:=Jt6l b.code m.code
 unfold checkZ
 split
 ·exact hnil
 ·by_cases h2:(if (alignZ b.code m.code).2.2=0∧termsZ b.term m.term=false then 20 else (alignZ b.code m.code).2.2)≠0
  ·simp only [if_pos h2];exact hnil
  ·simp only [if_neg h2]
   have hover:Over V L (makeP l):=⟨Jt1dc l,fun q hq=>hl q (Jtsp.1 hq)⟩
   have hroom:Room V L ⟨makeP l,0,l.length⟩ (0+1+needRs (alignZ b.code m.code).1):=by
    refine ⟨hover,few,?_,by simp only;omega⟩
    have h1:=Jttz a1
    have h2:(alignZ b.code m.code).1.length*(3+m.code.length+b.code.length)≤1001*2003:=Nat.mul_le_mul (by omega) (by omega)
    simp only
    omega
   have hr:=Jt172 (most:=most) hv hroom a1
   generalize runC most b m (alignZ b.code m.code).1 ⟨makeP l,0,l.length⟩=r at hr
   obtain ⟨t,e⟩:=r
   simp only
   split
   ·exact hr.over
   ·exact hnil
theorem Fit.good{c:Cert}(h:Fit c){b:Block}{m:MBlock}{l:List Pair}(hb:b∈c.S.blocks)(hm:m∈c.T.blocks)(hl:l∈c.W)(most:Int):Good (checkZ b m l most):=by
 obtain ⟨w1,w2,w3⟩:=h.w l hl
 have k1:∀ q∈l,q.v∈VS∧q.l∈LS:=fun q hq=>by
  obtain ⟨a1,a2,a3,a4⟩:=w3 q hq
  exact ⟨mem_VS a1 a2,mem_LS a3 a4⟩
 have c1:=h.cs b hb
 have c2:=h.ct m hm
 have o:=Jtb1 (most:=most) k1 (h.vl b hb m hm) VL_few (by omega) (by omega) (by omega)
 obtain ⟨r1,r2⟩:=Jtb0 (most:=most) k1 (h.vl b hb m hm) VL_few (by omega) (by omega) (by omega)
 have bd:=(Jtaw b m l most (Jts5 l)).1
 refine ⟨o.srt,Nat.lt_of_le_of_lt o.len VL_few,?_,r1⟩
 have:(3*m.code.length+b.code.length+1)*((checkZ b m l most).largest+1)≤3001*100000:=Nat.mul_le_mul (by omega) (by omega)
 omega
theorem fit_w0{c:Cert}(h:Fit c):c.W[0]?=some (w0 c):=by
 have:=h.lenW;have:=h.pos
 unfold w0
 rw [lgE (by omega)];rfl
theorem Jtg3{c:Cert}(h:Fit c):w0 c∈c.W:=lmG (fit_w0 h)
theorem Jttl {w:List (List Pair)} {k:Nat} {l:List Pair} (h:w[k]?=some l):mostW (w.take (k+1))=max (mostW (w.take k)) l.length:=by
 unfold mostW
 rw [List.map_take,List.map_take]
 exact Jttk (by rw [lgM,h];rfl)
theorem Jttm {w:List (List Pair)} {n:Nat} (h:∀ l∈w,l.length≤n):mostW w≤n:=by
 apply Nat.le_of_not_lt
 intro hlt
 obtain ⟨x,hx,hn⟩:=Jttj.1 hlt
 obtain ⟨l,hl,rfl⟩:=List.mem_map.1 hx
 have:=h l hl
 omega
def begC(c:Cert):Rep:={ rep0 c with err:=if ((w0 c).all fun q=>initZ q c.S.args)=true then 0 else 23}
section
variable {P:Program} {p:Nums}
theorem Jtc6(A:All P p)(c:Cert)(h:Fit c):Jt51 P p.Yf1u [c.av] [] fun o _=>o=.ret (begC c).av:=by
 have hw0:=fit_w0 h
 obtain ⟨z1,z2,z3⟩:=h.w _ (Jtg3 h)
 have hlenW:=h.lenW
 have hfew:=h.few
 have hen:=Jtdp A (w0 c) c.S.args (by omega) (fun q hq=>by obtain ⟨a1,a2,a3,a4⟩:=z3 q hq;exact ⟨by omega,by omega,by omega,by omega⟩)
 obtain ⟨er,her⟩:∃ e,e=(if ((w0 c).all fun q=>initZ q c.S.args)=true then (0:Int) else 23):=⟨_,rfl⟩
 have hbg:begC c=⟨er,0,0,0,0,1+(w0 c).length,mostW c.W⟩:=by rw [her];rfl
 rw [hbg]
 unfold entA at hen
 rw [←her] at hen
 obtain ⟨pr,hpr⟩:∃ x,x=((w0 c).find? fun q=>!initZ q c.S.args).getD ⟨0,0⟩:=⟨_,rfl⟩
 rw [←hpr] at hen
 obtain ⟨wz,hwz⟩:∃ x,x=w0 c:=⟨_,rfl⟩
 rw [←hwz] at hen hw0 z2 ⊢
 obtain ⟨S,T,W⟩:=c
 obtain ⟨sa,sr,sb⟩:=S
 obtain ⟨ta,tr,ts,tb⟩:=T
 simp only at hen hw0 hlenW hfew h ⊢
 obtain ⟨sR,hsR⟩:∃ x,x=sb.map Block.row:=⟨_,rfl⟩
 obtain ⟨tR,htR⟩:∃ x,x=tb.map MBlock.row:=⟨_,rfl⟩
 refine A.Yf1u.run rfl fun R hR=>?_
 simp only [Cert.av,witD,←hsR,←htR]
 have w1:IntKind.i64.wrap (1+(wz.length:Int))=((1+wz.length:Nat):Int):=by rw [wrap_i64 (by omega) (by omega)];omega
 (simp (maxSteps:=9^6)[Jti7,hw0,pairsD,w1])
 refine Jtf (fun k:Nat=>⟨[(16,AI k),(15,AI W.length),(14,.d (.sl (W.map fun l=>[pairsD l]))),(1,.ptr 0 0),(2,.ptr 1 0),(3,.ptr 2 0)],
  [.mem [AI sa,AI sr,.d (.sl sR),AI ta,AI tr,AI ts,.d (.sl tR),.d (.sl (W.map fun l=>[pairsD l]))],.mem [AI 0,AI 0,AI 0,AI 0,AI 0,AI 0,AI 0],.mem [AI 0,AI 0,AI 0,AI 0,AI 0,AI ((1+wz.length:Nat):Int),AI (mostW (W.take k))]]⟩)
  (fun k=>k≤W.length) (fun k=>W.length-k) 0 (by simp) (by (exact wkA)) ?_
 intro k hk N hN
 (simp (maxSteps:=9^6)[])
 ((first|refine Xc ?_ ?_|refine Xo ?_ ?_)<;>intro h2<;>try simp only [Xz,Xy] at h2)
 ·have hkl:k<W.length:=by simpa using h2
  have hb:W[k]?=some W[k]:=by simp
  have hw:=Jt1le (k:=k) (by omega)
  have hm:=Jttl hb
  have emx:(if mostW (W.take k)<W[k].length then ((W[k].length:Nat):Int) else ((mostW (W.take k):Nat):Int))=((mostW (W.take (k+1)):Nat):Int):=by
   rw [hm];split<;>omega
  (simp (maxSteps:=9^6)[h2,hb,pairsD,hw,emx])
  exact hN _ (k+1) hkl (by (exact wkA)) (by omega)
 ·have hk':k=W.length:=by simp at h2;omega
  subst hk'
  (simp (maxSteps:=9^6)[hw0])
  (refine Jt17 hen (by rfl) (by rfl) ?_)
  (simp (maxSteps:=9^6)[])
  (first|exact hR _ _ FrA|exact hR _ _ FnA|exact hR _ _ (Xf (hq:=by simp [AV.erase,AV.unview,Rep.av,List.take_length];done)))
end
end Go.AE
set_option maxRecDepth 4000
namespace Go.AE
open Go
structure RepOk (i:Nat) (r:Rep):Prop where
 blocks:r.blocks≤i
 edges:r.edges≤2*i
 steps:r.steps≤1000+2000000000*i
 lg:r.largest<100000
def edgeR (w:List (List Pair)) (out:List Pair) (to:Nat) (r:Rep):Rep:={ r with edges:=r.edges+1,steps:=r.steps+1+out.length+((w[to]?).getD []).length}
structure RepIn (i k:Nat) (r:Rep):Prop where
 blocks:r.blocks≤i+1
 edges:r.edges≤2*i+k
 steps:r.steps≤1000+2000000000*i+1000000000+200000*k
 lg:r.largest<100000
theorem RepIn.out{i k:Nat}{r:Rep}(h:RepIn i k r)(hk:k≤2):RepOk (i+1) r:=⟨h.blocks,by have:=h.edges;omega,by have:=h.steps;omega,h.lg⟩
theorem RepIn.edge {w:List (List Pair)} {out wt:List Pair} {i k to:Nat} {r:Rep} (h:RepIn i k r) (ho:out.length<100000) (hw:w[to]?=some wt) (hwl:wt.length≤400):RepIn i (k+1) (edgeR w out to r):=by
 have:=h.blocks;have:=h.edges;have:=h.steps;have:=h.lg
 refine ⟨by simpa [edgeR] using h.blocks,by simp only [edgeR];omega,?_,by simpa [edgeR] using h.lg⟩
 simp only [edgeR,hw,Option.getD_some];omega
theorem Jt1dz(t:Term):(succsZ t).length≤2:=by
 unfold succsZ;split
 ·simp
 ·split<;>simp
def Rep.cells(r:Rep):List AV:=[AI r.err,AI r.block,AI r.at_,AI r.blocks,AI r.edges,AI r.steps,AI r.largest]
theorem Jteu (w:List (List Pair)) (out:List Pair) (i:Nat) (to:Nat) (ts:List Int) (k:Nat) (r:Rep):edgesC w out i ((to:Int)::ts) k r =
  if (missP ((w[to]?).getD []) out).isSome=true then ({ edgeR w out to r with err:=22,block:=i,at_:=k},true) else edgesC w out i ts (k+1) (edgeR w out to r):=rfl
def blockR(x:Res)(r:Rep):Rep:={ r with blocks:=r.blocks+1,steps:=r.steps+x.steps,largest:=max r.largest x.largest}
theorem Jt86{c:Cert}{i:Nat}{b:Block}{m:MBlock}{l:List Pair}(hb:c.S.blocks[i]?=some b) (hm:c.T.blocks[i]?=some m) (hl:c.W[i]?=some l) (r:Rep):blockC c i r =
  if (checkZ b m l 1048576).err≠0 then ({ blockR (checkZ b m l 1048576) r with err:=(checkZ b m l 1048576).err,block:=i,at_:=(checkZ b m l 1048576).at_},true)
  else edgesC c.W (checkZ b m l 1048576).out i (succsZ b.term) 0 (blockR (checkZ b m l 1048576) r):=by
 unfold blockC;rw [hb,hm,hl];rfl
section
variable {P:Program} {p:Nums}
theorem Jtbq(A:All P p)(S:SortOk P p)(C:ClosOk P p)(c:Cert)(ok:okCert c)(hfit:validZ c=0→Fit c):Jt51 P p.Yf1p [c.av] [] fun o _=>o=.ret (Jt15v c).av:=by
 obtain ⟨T,hT⟩:∃ T,T=Jt15v c:=⟨_,rfl⟩
 rw [←hT]
 unfold Jt15v at hT
 have cv:=Jtby A c ok
 have cb:=Jtc6 A c
 obtain ⟨v,hv⟩:∃ v,v=validZ c:=⟨_,rfl⟩
 rw [←hv] at cv hT hfit
 obtain ⟨sR,hsR⟩:∃ x,x=c.S.blocks.map Block.row:=⟨_,rfl⟩
 obtain ⟨tR,htR⟩:∃ x,x=c.T.blocks.map MBlock.row:=⟨_,rfl⟩
 obtain ⟨wR,hwR⟩:∃ x,x=c.W.map fun l=>[pairsD l]:=⟨_,rfl⟩
 refine A.Yf1p.run rfl fun R hR=>?_
 simp only [Cert.av,witD,←hsR,←htR,←hwR] at cv cb ⊢
 (simp (maxSteps:=9^6)[Jti5])
 (refine Jt17 cv (by rfl) (by rfl) ?_)
 (simp (maxSteps:=9^6)[])
 ((first|refine Xc ?_ ?_|refine Xo ?_ ?_)<;>intro h1<;>try simp only [Xz,Xy] at h1)
 ·rw [if_pos h1] at hT
  (simp (maxSteps:=9^6)[h1])
  (first|exact hR _ _ FrA|exact hR _ _ FnA|exact hR _ _ (Xf (hq:=by simp [AV.erase,AV.unview,hT,Rep.av];done)))
 have h1':v=0:=by simpa using h1
 have h:=hfit h1'
 rw [if_neg (by simpa using h1)] at hT
 (simp (maxSteps:=9^6)[h1])
 (refine Jt17 (cb h) (by rfl) (by rfl) ?_)
 obtain ⟨r0,hr0⟩:∃ r,r=begC c:=⟨_,rfl⟩
 rw [←hr0]
 (simp (maxSteps:=9^6)[Rep.av])
 ((first|refine Xc ?_ ?_|refine Xo ?_ ?_)<;>intro h2<;>try simp only [Xz,Xy] at h2)
 ·have e:((w0 c).all fun q=>initZ q c.S.args)=false:=by
   cases hx:(w0 c).all fun q=>initZ q c.S.args with
   | false=>rfl
   | true=>exfalso;apply h2;rw [hr0];simp only [begC,hx,if_true]
  have hT2:T=r0:=by rw [hT,if_pos e,hr0];simp only [begC,e];rfl
  (simp (maxSteps:=9^6)[h2])
  (first|exact hR _ _ FrA|exact hR _ _ FnA|exact hR _ _ (Xf (hq:=by simp [AV.erase,AV.unview,hT2,Rep.av];done)))
 have e:((w0 c).all fun q=>initZ q c.S.args)=true:=by
  cases hx:(w0 c).all fun q=>initZ q c.S.args with
  | true=>rfl
  | false=>exfalso;rw [hr0] at h2;simp [begC,hx] at h2
 have hr0':r0=rep0 c:=by rw [hr0];unfold begC;rw [if_pos e];rfl
 rw [if_neg (by simp [e]),←hr0'] at hT
 have hsl:sR.length=c.S.blocks.length:=by rw [hsR];simp
 have htl:tR.length=c.S.blocks.length:=by rw [htR];simp [h.lenT]
 have hwl:wR.length=c.S.blocks.length:=by rw [hwR];simp [h.lenW]
 obtain ⟨z1,z2,z3⟩:=h.w _ (Jtg3 h)
 have hrok:RepOk 0 r0:=by
  rw [hr0']
  have:=Jttm (w:=c.W) (n:=400) (fun l hl=>(h.w l hl).2.1)
  exact ⟨Nat.le_refl _,Nat.le_refl _,by simp only [rep0];omega,by simp only [rep0];omega⟩
 have few:=h.few
 (simp (maxSteps:=9^6)[hsl])
 obtain ⟨n,hn⟩:∃ n,n=c.S.blocks.length:=⟨_,rfl⟩
 rw [←hn] at hsl htl hwl hT few ⊢
 refine Jtf (fun s:Nat × Rep=>⟨[(28,AI s.1),(27,AI n),(26,.d (.sl sR)),(1,.ptr 0 0),(2,.ptr 1 0),(4,.ptr 2 0)],
  [.mem [AI c.S.args,AI c.S.regs,.d (.sl sR),AI c.T.args,AI c.T.regs,AI c.T.slots,.d (.sl tR),.d (.sl wR)],.mem [AI 0,AI 0,AI 0,AI 0,AI 0,AI 0,AI 0],.mem [AI s.2.err,AI s.2.block,AI s.2.at_,AI s.2.blocks,AI s.2.edges,AI s.2.steps,AI s.2.largest]]⟩)
  (fun s=>s.1≤n∧RepOk s.1 s.2∧T=Jt9r c (n-s.1) s.1 s.2) (fun s=>n-s.1) (0,r0) ⟨by omega,hrok,hT⟩ (by (exact wkA)) ?_
 rintro ⟨i,r⟩ ⟨hi,hok,hTi⟩ N hN
 simp only at hi hok hTi hN
 (simp (maxSteps:=9^6)[])
 ((first|refine Xc ?_ ?_|refine Xo ?_ ?_)<;>intro h3<;>try simp only [Xz,Xy] at h3)
 ·have hil:i<n:=by omega
  have hb:c.S.blocks[i]?=some c.S.blocks[i]:=by simp
  have hm:c.T.blocks[i]?=some (c.T.blocks[i]'(by rw [h.lenT];omega)):=by simp
  have hl:c.W[i]?=some (c.W[i]'(by rw [h.lenW];omega)):=by simp
  obtain ⟨b,hbe⟩:∃ b,b=c.S.blocks[i]:=⟨_,rfl⟩
  obtain ⟨m,hme⟩:∃ m,m=c.T.blocks[i]'(by rw [h.lenT];omega):=⟨_,rfl⟩
  obtain ⟨l,hle⟩:∃ l,l=c.W[i]'(by rw [h.lenW];omega):=⟨_,rfl⟩
  rw [←hbe] at hb
  rw [←hme] at hm
  rw [←hle] at hl
  have mb:=lmG hb
  have mm:=lmG hm
  have ml:=lmG hl
  have hbR:sR[i]?=some b.row:=by rw [hsR,lgM,hb];rfl
  have hmR:tR[i]?=some m.row:=by rw [htR,lgM,hm];rfl
  have hlR:wR[i]?=some [pairsD l]:=by rw [hwR,lgM,hl];rfl
  have gd:=h.good mb mm ml 1048576
  obtain ⟨l1,l2,l3⟩:=h.w l ml
  have ck:=Jt8j A S C (V:=VS) (L:=LS) b m l 1048576 (fun q hq=>by obtain ⟨a1,a2,a3,a4⟩:=l3 q hq;exact ⟨mem_VS a1 a2,mem_LS a3 a4⟩) (h.vl b mb m mm) VL_few (by omega)
   (by have:=h.cs b mb;omega) (by have:=h.ct m mm;omega)
  have hbc:=Jt86 hb hm hl r
  obtain ⟨x,hx⟩:∃ x,x=checkZ b m l 1048576:=⟨_,rfl⟩
  rw [←hx] at ck gd hbc
  have hTs:T=match blockC c i r with | (r,true)=>r | (r,false)=>Jt9r c (n-(i+1)) (i+1) r:=by
   rw [hTi,show n-i=(n-(i+1))+1 by omega];rfl
  rw [hbc] at hTs
  have hw:=Jt1le (k:=i) (by omega)
  have k1:=hok.blocks
  have k2:=hok.edges
  have k3:=hok.steps
  have k4:=hok.lg
  have g1:=gd.len
  have g2:=gd.steps
  have g3:=gd.lg
  obtain ⟨r1,hr1⟩:∃ r1,r1=blockR x r:=⟨_,rfl⟩
  rw [←hr1] at hTs
  have q1:IntKind.i64.wrap ((r.blocks:Int)+1)=(r1.blocks:Int):=by rw [hr1];exact Jt1le (by omega)
  have q2:IntKind.i64.wrap ((r.steps:Int)+(x.steps:Int))=(r1.steps:Int):=by rw [hr1];exact Jt1ld (by omega)
  have q3:(if r.largest<x.largest then ((x.largest:Nat):Int) else ((r.largest:Nat):Int))=(r1.largest:Int):=by rw [hr1];simp only [blockR];split<;>omega
  have q4:r1.err=r.err:=by rw [hr1];rfl
  have q5:r1.block=r.block:=by rw [hr1];rfl
  have q6:r1.at_=r.at_:=by rw [hr1];rfl
  have q7:r1.edges=r.edges:=by rw [hr1];rfl
  have rin:RepIn i 0 r1:=by
   rw [hr1]
   exact ⟨by simp only [blockR];omega,by simp only [blockR];omega,by simp only [blockR];omega,by simp only [blockR];omega⟩
  obtain ⟨oR,hoR⟩:∃ y,y=x.out.map Pair.row:=⟨_,rfl⟩
  have hol:oR.length=x.out.length:=by rw [hoR];simp
  simp only [pairsD] at hlR
  simp only [Res.av,pairsD,←hoR] at ck
  (simp (maxSteps:=9^6)[h3,hbR,hmR,hlR,Block.row,MBlock.row])
  (refine Jt17 ck (by rfl) (by rfl) ?_)
  (simp (maxSteps:=9^6)[q1,q2,q3])
  ((first|refine Xc ?_ ?_|refine Xo ?_ ?_)<;>intro h4<;>try simp only [Xz,Xy] at h4)
  ·rw [if_pos h4] at hTs
   simp only at hTs
   (simp (maxSteps:=9^6)[])
   (first|exact hR _ _ FrA|exact hR _ _ FnA|exact hR _ _ (Xf (hq:=by simp [AV.erase,AV.unview,hTs,Rep.av,q4,q5,q6,q7];done)))
  rw [if_neg (by simpa using h4)] at hTs
  have cs:=Jt1bo A b.term
  have hto:=h.to b mb
  have htl2:=Jt1dz b.term
  obtain ⟨ts,hts⟩:∃ t,t=succsZ b.term:=⟨_,rfl⟩
  rw [←hts] at cs hTs hto htl2
  rw [←hn] at hto
  (simp (maxSteps:=9^6)[])
  (refine Jt17 cs (by rfl) (by rfl) ?_)
  (simp (maxSteps:=9^6)[])
  refine Jtf (fun s:Nat × Rep=>⟨[(77,AI s.1),(76,AI ts.length),(75,.d (.sl (ts.map fun x=>[I x]))),(5,AI i),(7,.ptr 4 0),(28,AI i),(27,AI n),(26,.d (.sl sR)),(1,.ptr 0 0),(2,.ptr 1 0),(4,.ptr 2 0)],
   [.mem [AI c.S.args,AI c.S.regs,.d (.sl sR),AI c.T.args,AI c.T.regs,AI c.T.slots,.d (.sl tR),.d (.sl wR)],.mem [AI 0,AI 0,AI 0,AI 0,AI 0,AI 0,AI 0],.mem [AI s.2.err,AI s.2.block,AI s.2.at_,AI s.2.blocks,AI s.2.edges,AI s.2.steps,AI s.2.largest],.dead,.mem [.d (.sl oR),AI x.err,AI x.at_,AI x.steps,AI x.largest]]⟩)
   (fun s=>s.1≤ts.length∧RepIn i s.1 s.2∧T=match edgesC c.W x.out i (ts.drop s.1) s.1 s.2 with | (r,true)=>r | (r,false)=>Jt9r c (n-(i+1)) (i+1) r) (fun s=>ts.length-s.1) (0,r1) ⟨by omega,rin,hTs⟩ (by simp only [q4,q5,q6,q7];(exact wkA)) ?_
  rintro ⟨k,t⟩ ⟨hk,hin,hTk⟩ N' hN'
  simp only at hk hin hTk hN'
  (simp (maxSteps:=9^6)[])
  ((first|refine Xc ?_ ?_|refine Xo ?_ ?_)<;>intro h5<;>try simp only [Xz,Xy] at h5)
  ·have hkl:k<ts.length:=by simpa using h5
   have ht:ts[k]?=some ts[k]:=by simp
   obtain ⟨d1,d2⟩:=hto _ (List.getElem_mem hkl)
   have hdrop:ts.drop k=ts[k]::ts.drop (k+1):=List.drop_eq_getElem_cons hkl
   obtain ⟨tn,htn⟩:∃ tn:Nat,ts[k]=(tn:Int):=⟨ts[k].toNat,by omega⟩
   rw [htn] at ht hdrop d2
   have hWt:c.W[tn]?=some (c.W[tn]'(by rw [h.lenW];omega)):=by simp
   obtain ⟨wt,hwt⟩:∃ w,w=c.W[tn]'(by rw [h.lenW];omega):=⟨_,rfl⟩
   rw [←hwt] at hWt
   obtain ⟨y1,y2,y3⟩:=h.w wt (lmG hWt)
   have hwtR:wR[tn]?=some [.sl (wt.map Pair.row)]:=by rw [hwR,lgM,hWt];rfl
   have hgd:(c.W[tn]?).getD []=wt:=by rw [hWt];rfl
   have ci:=Jtdu A x.out wt (by omega) (by omega) gd.srt y1
   rw [hdrop,Jteu,hgd] at hTk
   have hin2:=hin.edge (out:=x.out) (by omega) hWt y2
   obtain ⟨t2,ht2⟩:∃ t2,t2=edgeR c.W x.out tn t:=⟨_,rfl⟩
   rw [←ht2] at hTk hin2
   obtain ⟨b1,hb1⟩:∃ b,b=(missP wt x.out).isSome:=⟨_,rfl⟩
   obtain ⟨pr,hpr⟩:∃ y,y=(missP wt x.out).getD ⟨0,0⟩:=⟨_,rfl⟩
   obtain ⟨mv,hmv⟩:∃ y:Int,y=if b1=true then 22 else 0:=⟨_,rfl⟩
   simp only [impA,←hb1,←hpr,←hmv,pairsD,←hoR,Pair.av] at ci
   rw [←hb1] at hTk
   obtain ⟨s1,hs1⟩:∃ y,y=t.steps+1:=⟨_,rfl⟩
   obtain ⟨s2,hs2⟩:∃ y,y=s1+x.out.length:=⟨_,rfl⟩
   have j1:=hin.edges
   have j2:=hin.steps
   have p1:IntKind.i64.wrap ((t.edges:Int)+1)=(t2.edges:Int):=by rw [ht2];exact Jt1le (by omega)
   have p2:IntKind.i64.wrap ((t.steps:Int)+1)=(s1:Int):=by rw [hs1];exact Jt1le (by omega)
   have p3:IntKind.i64.wrap ((s1:Int)+(x.out.length:Int))=(s2:Int):=by rw [hs2];exact Jt1ld (by omega)
   have p4:IntKind.i64.wrap ((s2:Int)+(wt.length:Int))=(t2.steps:Int):=by rw [ht2];simp only [edgeR,hgd];rw [hs2,hs1];exact Jt1ld (by omega)
   have p5:t2.err=t.err:=by rw [ht2];rfl
   have p6:t2.block=t.block:=by rw [ht2];rfl
   have p7:t2.at_=t.at_:=by rw [ht2];rfl
   have p8:t2.blocks=t.blocks:=by rw [ht2];rfl
   have p9:t2.largest=t.largest:=by rw [ht2];rfl
   have hwk:=Jt1le (k:=k) (by omega)
   (simp (maxSteps:=9^6)[h5,ht,htn,hwtR,hol,p1,p2,p3,p4])
   (refine Jt17 ci (by rfl) (by rfl) ?_)
   (simp (maxSteps:=9^6)[])
   ((first|refine Xc ?_ ?_|refine Xo ?_ ?_)<;>intro h6<;>try simp only [Xz,Xy] at h6)
   ·have hb1t:b1=true:=by
     cases b1 with
     | true=>rfl
     | false=>exfalso;apply h6;rw [hmv];rfl
    rw [hb1t] at hmv hTk
    simp only [if_true] at hmv hTk
    rw [hmv]
    (simp (maxSteps:=9^6)[])
    (first|exact hR _ _ FrA|exact hR _ _ FnA|exact hR _ _ (Xf (hq:=by simp [AV.erase,AV.unview,hTk,Rep.av,p5,p6,p7,p8,p9];done)))
   ·have hb1f:b1=false:=by
     cases b1 with
     | false=>rfl
     | true=>exfalso;rw [hmv] at h6;simp at h6
    rw [hb1f] at hTk
    simp only [Bool.false_eq_true,if_false] at hTk
    (simp (maxSteps:=9^6)[hwk])
    exact hN' _ (k+1,t2) ⟨hkl,hin2,hTk⟩ (by simp only [p5,p6,p7,p8,p9];(exact wkA)) (by simp only;omega)
  ·have hkl:k=ts.length:=by simp at h5;omega
   subst hkl
   rw [List.drop_length] at hTk
   have hTk':T=Jt9r c (n-(i+1)) (i+1) t:=hTk
   (simp (maxSteps:=9^6)[hw])
   exact hN _ (i+1,t) ⟨hil,hin.out htl2,hTk'⟩ (by (exact wkA)) (by simp only;omega)
 ·have hk:i=n:=by simp at h3;omega
  subst hk
  rw [Nat.sub_self] at hTi
  have hTi':T=r:=hTi
  (simp (maxSteps:=9^6)[])
  (first|exact hR _ _ FrA|exact hR _ _ FnA|exact hR _ _ (Xf (hq:=by simp [AV.erase,AV.unview,hTi',Rep.av];done)))
theorem Jtbp(A:All P p)(S:SortOk P p)(C:ClosOk P p)(c:Cert)(ok:okCert c)(hf:fewC c=true):Jt51 P p.Yf1p [c.av] [] fun o _=>o=.ret (Jt15v c).av:=
 Jtbq A S C c ok fun h=>fit_of h hf
end
end Go.AE
set_option maxRecDepth 4000
namespace Go.AE
open Go
section
variable {P:Program} {p:Nums}
end
end Go.AE
set_option maxRecDepth 4000
namespace Go.AE
open Go
def succN(bs:List Block):Nat:=(bs.map fun b=>(succsZ b.term).length).sum
def boundN(c:Cert):Nat:=codeN c.S.blocks+mcodeN c.T.blocks+c.S.blocks.length+1+succN c.S.blocks
theorem Jtug{c:Cert}(hf:fewC c=true)(h2:∀ b∈c.T.blocks,okM b)(hw:okW c.W):okCert c:=by
 simp only [fewC,few,fewM,fewW,Bool.and_eq_true,decide_eq_true_eq,List.all_eq_true] at hf
 obtain ⟨⟨⟨⟨⟨f1,f2⟩,f3⟩,f4⟩,⟨⟨⟨⟨f5,f6⟩,f7⟩,f8⟩,f9⟩⟩,f10,f11⟩:=hf
 have hwt:∀ w:List (List Pair),(∀ l∈w,l.length≤400)→wTotal w≤400*w.length:=by
  intro w
  induction w with
  | nil=>intro _;simp [wTotal]
  | cons l w ih=>
   intro h
   have h1:=h l (by simp)
   have h3:=ih fun l hl=>h l (by simp [hl])
   simp only [wTotal,List.map_cons,List.sum_cons,List.length_cons] at *
   omega
 have:=hwt c.W f11
 exact ⟨by omega,by omega,by omega,by omega,h2,by omega,by omega,hw⟩
section
variable {P:Program} {p:Nums}
end
section
variable {P:Program} {p:Nums}
end
end Go.AE
set_option maxRecDepth 4000
namespace Go.AE
open Go
section
variable {P:Program} {p:Nums}
end
def ltCert:List LT:=[ltI,ltI,.sl Jtq3,ltI,ltI,ltI,.sl Jtq5,.sl [.sl ltPair]]
theorem Jtsc {rows:List (List D)} (h:∀ r∈rows,HasL Jtq5 r):∃ l:List MBlock,rows=l.map MBlock.row∧∀ x∈l,okM x:=by
 induction rows with
 | nil=>exact ⟨[],rfl,by simp⟩
 | cons r rows ih=>
  obtain ⟨a,rfl,ha⟩:=Jtsb (h r (by simp))
  obtain ⟨l,rfl,hb⟩:=ih fun r hr=>h r (by simp [hr])
  refine ⟨a::l,rfl,fun n hn=>?_⟩
  rcases List.mem_cons.1 hn with rfl | hn
  ·exact ha
  ·exact hb n hn
theorem Jtve{r:List D}(h:HasL ltPair r):∃ q:Pair,r=q.row∧okZ q.l:=by
 obtain ⟨_,_,rfl,h0,h⟩:=h.cons_inv
 obtain ⟨_,_,rfl,h1,h⟩:=h.cons_inv
 obtain rfl:=h.nil_inv
 obtain ⟨a,rfl,_⟩:=h0.int_inv
 obtain ⟨b,rfl,o1⟩:=Jtli h1
 exact ⟨⟨a,b⟩,rfl,o1⟩
theorem Jtvf {rows:List (List D)} (h:∀ r∈rows,HasL ltPair r):∃ l:List Pair,rows=l.map Pair.row∧∀ x∈l,okZ x.l:=by
 induction rows with
 | nil=>exact ⟨[],rfl,by simp⟩
 | cons r rows ih=>
  obtain ⟨a,rfl,ha⟩:=Jtve (h r (by simp))
  obtain ⟨l,rfl,hb⟩:=ih fun r hr=>h r (by simp [hr])
  refine ⟨a::l,rfl,fun n hn=>?_⟩
  rcases List.mem_cons.1 hn with rfl | hn
  ·exact ha
  ·exact hb n hn
theorem Jt1l3 {rows:List (List D)} (h:∀ r∈rows,HasL [.sl ltPair] r):∃ w:List (List Pair),rows=w.map (fun l=>[pairsD l])∧okW w:=by
 induction rows with
 | nil=>exact ⟨[],rfl,by intro l hl;simp at hl⟩
 | cons r rows ih=>
  obtain ⟨_,_,rfl,h0,h1⟩:=(h r (by simp)).cons_inv
  obtain rfl:=h1.nil_inv
  obtain ⟨rs,rfl,_,hr⟩:=h0.sl_inv
  obtain ⟨l,rfl,hok⟩:=Jtvf hr
  obtain ⟨w,rfl,hb⟩:=ih fun r hr=>h r (by simp [hr])
  refine ⟨l::w,rfl,fun n hn=>?_⟩
  rcases List.mem_cons.1 hn with rfl | hn
  ·exact hok
  ·exact hb n hn
theorem Jtat{ds:List D}(h:HasL ltCert ds):∃ c:Cert,.agg (ds.map AV.d)=c.av∧((∀ b∈c.T.blocks,okM b)∧okW c.W):=by
 obtain ⟨_,_,rfl,h0,h⟩:=h.cons_inv
 obtain ⟨_,_,rfl,h1,h⟩:=h.cons_inv
 obtain ⟨_,_,rfl,h2,h⟩:=h.cons_inv
 obtain ⟨_,_,rfl,h3,h⟩:=h.cons_inv
 obtain ⟨_,_,rfl,h4,h⟩:=h.cons_inv
 obtain ⟨_,_,rfl,h5,h⟩:=h.cons_inv
 obtain ⟨_,_,rfl,h6,h⟩:=h.cons_inv
 obtain ⟨_,_,rfl,h7,h⟩:=h.cons_inv
 obtain rfl:=h.nil_inv
 obtain ⟨sa,rfl,_⟩:=h0.int_inv
 obtain ⟨sr,rfl,_⟩:=h1.int_inv
 obtain ⟨rows,rfl,_,hr⟩:=h2.sl_inv
 obtain ⟨sb,rfl⟩:=Jt16v (fun r hr=>Jt87 hr) hr
 obtain ⟨ta,rfl,_⟩:=h3.int_inv
 obtain ⟨tr,rfl,_⟩:=h4.int_inv
 obtain ⟨ts,rfl,_⟩:=h5.int_inv
 obtain ⟨rows,rfl,_,hr⟩:=h6.sl_inv
 obtain ⟨tb,rfl,hm⟩:=Jtsc hr
 obtain ⟨rows,rfl,_,hr⟩:=h7.sl_inv
 obtain ⟨w,rfl,hw⟩:=Jt1l3 hr
 exact ⟨⟨⟨sa,sr,sb⟩,⟨ta,tr,ts,tb⟩,w⟩,rfl,hm,hw⟩
end Go.AE
set_option maxRecDepth 4000
namespace Go.AE
open Go
structure EdgeT (r:Rep) (n A:Nat) (R:Rep × Bool):Prop where
 blocks:R.1.blocks=r.blocks
 lg:R.1.largest=r.largest
 edges:R.1.edges≤r.edges+n
 steps:R.1.steps≤(A+2*R.1.edges)*(R.1.largest+1)
 bad:R.2=true→R.1.err≠0
 good:R.2=false→R.1.edges=r.edges+n∧R.1.err=0
def costN(c:Cert)(i:Nat):Nat:=1+3*mcodeN (c.T.blocks.take i)+codeN (c.S.blocks.take i)+i
structure OnceI (c:Cert) (i:Nat) (r:Rep):Prop where
 blocks:r.blocks=i
 edges:r.edges=succN (c.S.blocks.take i)
 steps:r.steps≤(costN c i+2*r.edges)*(r.largest+1)
 lg:mostW c.W≤r.largest
 lg2:r.largest<100000
 err:r.err=0
structure OnceT (c:Cert) (T:Rep):Prop where
 blocks:T.blocks≤c.S.blocks.length
 edges:T.edges≤succN c.S.blocks
 steps:T.steps≤3*boundN c*(T.largest+1)
 lg:T.largest<100000
 done:T.err=0→T.blocks=c.S.blocks.length∧T.edges=succN c.S.blocks
end Go.AE
set_option maxRecDepth 4000
namespace Go.AE
open Go
def N23(r:CR):Prop:=∀ e,r.2=some e→e.1≠23
theorem N23.same{s:CS}:N23 (s,none):=fun e he=>by cases he
theorem N23.then{r:CR}{f:CS→CR}(h:N23 r)(hf:∀ s,N23 (f s)):N23 (thenC r f):=by
 obtain ⟨s,e⟩:=r
 cases e with
 | some e=>exact h
 | none=>exact hf s
theorem N23.become{most:Int}{s:CS}{l:List Pair}{at_:Int}:N23 (Jt7w most s l at_):=by
 intro e he
 unfold Jt7w at he
 simp only at he
 split at he
 ·injection he with he;subst he;simp
 ·cases he
theorem N23.use{s:CS}{v t at_:Int}:N23 (useC s v t at_):=by
 intro e he
 unfold useC at he
 simp only at he
 split at he
 ·cases he
 ·injection he with he;subst he;simp
theorem Jtcq{most at_:Int}:∀ {l:List Instr} {s:CS},N23 (copyC most at_ l s):=by
 intro l
 induction l with
 | nil=>intro s;exact .same
 | cons i l ih=>intro s;exact N23.then .become fun s=>ih
theorem Jttq{most:Int}:∀ {l:List Mach} {k:Nat} {s:CS},N23 (moveC most k l s):=by
 intro l
 induction l with
 | nil=>intro k s;exact .same
 | cons i l ih=>intro k s;exact N23.then .become fun s=>ih
theorem Jtla{most:Int}{i:Instr}{x:Mach}{at_:Int}{s:CS}:N23 (instrC most s i x at_):=by
 unfold instrC
 refine N23.then ?_ fun s=>N23.then ?_ fun s=>?_
 ·split
  ·exact .use
  ·exact .same
 ·split
  ·exact .use
  ·exact .same
 ·split
  ·exact .become
  ·exact .same
theorem Jt169{most:Int}{b:List Instr}{m:List Mach}{r:ARow}{s:CS}:N23 (rowC most b m r s):=by
 unfold rowC
 refine N23.then Jtcq fun s=>N23.then Jttq fun s=>?_
 unfold lastC
 split
 ·split
  ·exact Jtla
  ·exact .same
 ·exact .same
theorem Jt16q{most:Int}{b:List Instr}{m:List Mach}:∀ {rs:List ARow} {s:CS},N23 (rowsC most b m rs s):=by
 intro rs
 induction rs with
 | nil=>intro s;exact .same
 | cons r rs ih=>intro s;exact N23.then Jt169 fun s=>ih
theorem Jt170{most:Int}{b:Block}{m:MBlock}{rs:List ARow}{s:CS}:N23 (runC most b m rs s):=by
 unfold runC
 refine N23.then Jt16q fun s=>?_
 split
 ·exact .same
 ·exact .use
theorem Jt6g{code:List Instr}{mach:List Mach}:∀ {f i k:Nat} {rows:List ARow},(alignS code mach f i k rows).2.2=0∨(alignS code mach f i k rows).2.2=20:=by
 intro f
 induction f with
 | zero=>intro i k rows;exact .inr rfl
 | succ f ih=>
  intro i k rows
  unfold alignS
  split
  ·exact .inl rfl
  ·split
   ·split
    ·exact ih
    ·exact .inr rfl
   ·exact .inr rfl
theorem Jtav(b:Block)(m:MBlock)(l:List Pair)(most:Int):(checkZ b m l most).err≠23:=by
 unfold checkZ
 split
 ·show (24:Int)≠23;decide
 ·have ha:(alignZ b.code m.code).2.2=0∨(alignZ b.code m.code).2.2=20:=Jt6g
  by_cases h2:(if (alignZ b.code m.code).2.2=0∧termsZ b.term m.term=false then 20 else (alignZ b.code m.code).2.2)≠0
  ·simp only [if_pos h2]
   split
   ·decide
   ·rcases ha with h | h<;>rw [h]<;>decide
  ·simp only [if_neg h2]
   have hr:=Jt170 (most:=most) (b:=b) (m:=m) (rs:=(alignZ b.code m.code).1) (s:=⟨makeP l,0,l.length⟩)
   generalize runC most b m (alignZ b.code m.code).1 ⟨makeP l,0,l.length⟩=r at hr
   obtain ⟨t,e⟩:=r
   cases e with
   | none=>show (0:Int)≠23;decide
   | some e=>exact hr e rfl
def hasE (w:List (List Pair)) (out:List Pair) (to:Int):Bool:=!(missP ((w[to.toNat]?).getD []) out).isSome
def blkOk(c:Cert)(i:Nat):Bool:=match c.S.blocks[i]?,c.T.blocks[i]?,c.W[i]? with
 | some b,some m,some l=>decide ((checkZ b m l 1048576).err=0)&&(succsZ b.term).all (hasE c.W (checkZ b m l 1048576).out)
 | _,_,_=>false
def okTo(c:Cert)(i:Nat):Bool:=(List.range i).all (blkOk c)
theorem Jtui(c:Cert)(i:Nat):okTo c (i+1)=(okTo c i&&blkOk c i):=by simp [okTo,List.range_succ]
theorem Jtuh{c:Cert}{i n:Nat}(h:blkOk c i=false)(hi:i<n):okTo c n=false:=by
 rw [←Bool.not_eq_true];unfold okTo;rw [List.all_eq_true]
 intro h'
 have:=h' i (List.mem_range.2 hi)
 rw [h] at this;cases this
theorem Jt80{c:Cert}{i:Nat}{b:Block}{m:MBlock}{l:List Pair}(hb:c.S.blocks[i]?=some b) (hm:c.T.blocks[i]?=some m) (hl:c.W[i]?=some l):blkOk c i=(decide ((checkZ b m l 1048576).err=0)&&(succsZ b.term).all (hasE c.W (checkZ b m l 1048576).out)):=by
 unfold blkOk;rw [hb,hm,hl]
theorem Jtex {w:List (List Pair)} {out:List Pair} {i:Nat}:∀ {ts:List Int} {k:Nat} {r:Rep},(∀ x∈ts,0≤x)→r.err=0→
  (edgesC w out i ts k r).2=!ts.all (hasE w out)∧((edgesC w out i ts k r).2=true→(edgesC w out i ts k r).1.err=22)∧((edgesC w out i ts k r).2=false→(edgesC w out i ts k r).1.err=0):=by
 intro ts
 induction ts with
 | nil=>intro k r _ h;exact ⟨rfl,fun h=>(by cases h),fun _=>h⟩
 | cons t ts ih=>
  intro k r h1 h2
  have ht:=h1 t (by simp)
  obtain ⟨tn,rfl⟩:∃ n:Nat,t=(n:Int):=⟨t.toNat,by omega⟩
  rw [Jteu]
  have e:hasE w out (tn:Int)=!(missP ((w[tn]?).getD []) out).isSome:=rfl
  rw [List.all_cons,e]
  cases hx:(missP ((w[tn]?).getD []) out).isSome with
  | true=>exact ⟨rfl,fun _=>rfl,fun h=>(by cases h)⟩
  | false=>simpa using ih (k:=k+1) (r:=edgeR w out tn r) (fun x hx=>h1 x (by simp [hx])) h2
theorem Jt9s{c:Cert}(h:Fit c):∀ (n i:Nat) (r:Rep),i+n=c.S.blocks.length→r.err=0→okTo c i=true→(Jt9r c n i r).err≠23∧((Jt9r c n i r).err=0↔okTo c c.S.blocks.length=true):=by
 intro n
 induction n with
 | zero=>
  intro i r hi hr ho
  have hi':i=c.S.blocks.length:=by omega
  subst hi'
  exact ⟨by show r.err≠23;rw [hr];decide,fun _=>ho,fun _=>hr⟩
 | succ n ih=>
  intro i r hi hr ho
  have hlT:=h.lenT
  have hlW:=h.lenW
  obtain ⟨b,hb⟩:∃ b,c.S.blocks[i]?=some b:=⟨_,lgE (by omega)⟩
  obtain ⟨m,hm⟩:∃ b,c.T.blocks[i]?=some b:=⟨_,lgE (by omega)⟩
  obtain ⟨l,hl⟩:∃ b,c.W[i]?=some b:=⟨_,lgE (by omega)⟩
  have hbc:=Jt86 hb hm hl r
  have hbo:=Jt80 hb hm hl
  have h23:=Jtav b m l 1048576
  have hto:=h.to b (lmG hb)
  obtain ⟨x,hx⟩:∃ x,x=checkZ b m l 1048576:=⟨_,rfl⟩
  rw [←hx] at hbc hbo h23
  have hT:Jt9r c (n+1) i r=match blockC c i r with | (r,true)=>r | (r,false)=>Jt9r c n (i+1) r:=rfl
  rw [hT,hbc]
  by_cases hxe:x.err≠0
  ·rw [if_pos hxe]
   have hof:okTo c c.S.blocks.length=false:=Jtuh (i:=i) (by rw [hbo];simp [hxe]) (by omega)
   exact ⟨h23,fun h0=>absurd h0 hxe,fun h0=>by rw [hof] at h0;cases h0⟩
  ·rw [if_neg hxe]
   have hx0:x.err=0:=by simpa using hxe
   have et:=Jtex (w:=c.W) (out:=x.out) (i:=i) (ts:=succsZ b.term) (k:=0) (r:=blockR x r) (fun y hy=>(hto y hy).1) hr
   obtain ⟨R,hR⟩:∃ R,R=edgesC c.W x.out i (succsZ b.term) 0 (blockR x r):=⟨_,rfl⟩
   rw [←hR] at et ⊢
   obtain ⟨t,bad⟩:=R
   obtain ⟨t1,t2,t3⟩:=et
   simp only at t1 t2 t3
   cases bad with
   | true=>
    have ha:(succsZ b.term).all (hasE c.W x.out)=false:=by rw [←Bool.not_eq_true'];exact t1.symm
    have hof:okTo c c.S.blocks.length=false:=Jtuh (i:=i) (by rw [hbo,ha,Bool.and_false]) (by omega)
    have e22:=t2 rfl
    exact ⟨by show t.err≠23;rw [e22];decide,fun h0=>(by have:t.err=0:=h0;rw [e22] at this;cases this),fun h0=>by rw [hof] at h0;cases h0⟩
   | false=>
    have ha:(succsZ b.term).all (hasE c.W x.out)=true:=by rw [←Bool.not_eq_false'];exact t1.symm
    exact ih (i+1) t (by omega) (t3 rfl) (by rw [Jtui,ho,hbo,ha,hx0];rfl)
theorem Jtpn{c:Cert}(h:Fit c)(hv:validZ c=0):((Jt15v c).err=23→(Jt15v c).blocks=0)∧((Jt15v c).err≠23→((Jt15v c).err=0↔okTo c c.S.blocks.length=true)):=by
 unfold Jt15v
 rw [if_neg (by simp [hv])]
 by_cases h1:((w0 c).all fun q=>initZ q c.S.args)=false
 ·rw [if_pos h1];exact ⟨fun _=>rfl,fun h=>absurd rfl h⟩
 ·rw [if_neg h1]
  obtain ⟨a1,a2⟩:=Jt9s h c.S.blocks.length 0 (rep0 c) (by omega) rfl rfl
  exact ⟨fun h=>absurd h a1,fun _=>a2⟩
structure Nums2 (V L:List Int) (s:CS) (σ τ:Int→Nat) (N:Nat):Prop where
 over:Over V L s.set
 σb:∀ v,σ v<N
 τb:∀ x,τ x<N
 all:∀ v∈V,∀ x∈L,σ v=τ x→(⟨v,x⟩:Pair)∈s.set
def upd(f:Int→Nat)(d:Int)(n:Nat):Int→Nat:=fun x=>if x=d then n else f x
theorem Jt1fk{f:Int→Nat}{d:Int}{n:Nat}:upd f d n d=n:=by simp [upd]
theorem upd_ne{f:Int→Nat}{d x:Int}{n:Nat}(h:x≠d):upd f d n x=f x:=by simp [upd,h]
def runCv(σ:Int→Nat):List Instr→Int→Nat
 | []=>σ
 | i::is=>runCv (upd σ i.d (σ i.a)) is
def runMv(τ:Int→Nat):List Mach→Int→Nat
 | []=>τ
 | m::ms=>runMv (upd τ m.dst (τ m.src)) ms
theorem Jt176{τ:Int→Nat}:∀ {a b:List Mach},runMv τ (a++b)=runMv (runMv τ a) b:=by
 intro a
 induction a generalizing τ with
 | nil=>intro b;rfl
 | cons m a ih=>intro b;exact ih
section
variable {V L:List Int} {most:Int}
theorem fits(few:V.length*L.length<100000)(hm:100000≤most){l:List Pair}(h:Over V L l):¬ ((l.length:Int)>most):=by
 have:=h.len
 omega
theorem Nums2.copy(few:V.length*L.length<100000)(hm:100000≤most){s:CS}{σ τ:Int→Nat}{N:Nat}(h:Nums2 V L s σ τ N){d a:Int}(hd:d∈V)(ha:a∈V)(at_:Int):
  ∃ s',Jt7w most (costC s) (copyP s.set d a) at_=(s',none)∧Nums2 V L s' (upd σ d (σ a)) τ N:=by
 have ho:=h.over.copy (a:=a) hd
 refine ⟨_,by unfold Jt7w;rw [if_neg (fits few hm ho)],⟨ho,fun v=>?_,h.τb,fun v hv x hx hvx=>?_⟩⟩
 ·unfold upd;split
  ·exact h.σb a
  ·exact h.σb v
 ·show (⟨v,x⟩:Pair)∈copyP s.set d a
  rw [Jtsl]
  by_cases hvd:v=d
  ·subst hvd
   rw [Jt1fk] at hvx
   exact .inr ⟨rfl,h.all a ha x hx hvx⟩
  ·rw [upd_ne hvd] at hvx
   exact .inl ⟨h.all v hv x hx hvx,.inr hvd⟩
theorem Nums2.move(few:V.length*L.length<100000)(hm:100000≤most){s:CS}{σ τ:Int→Nat}{N:Nat}(h:Nums2 V L s σ τ N){d a:Int}(hd:d∈L)(ha:a∈L)(at_:Int):
  ∃ s',Jt7w most (costC s) (moveP s.set d a) at_=(s',none)∧Nums2 V L s' σ (upd τ d (τ a)) N:=by
 have ho:=h.over.move (a:=a) hd
 refine ⟨_,by unfold Jt7w;rw [if_neg (fits few hm ho)],⟨ho,h.σb,fun v=>?_,fun v hv x hx hvx=>?_⟩⟩
 ·unfold upd;split
  ·exact h.τb a
  ·exact h.τb v
 ·show (⟨v,x⟩:Pair)∈moveP s.set d a
  rw [Jtsr]
  by_cases hxd:x=d
  ·subst hxd
   rw [Jt1fk] at hvx
   exact .inr ⟨rfl,h.all v hv a ha hvx⟩
  ·rw [upd_ne hxd] at hvx
   exact .inl ⟨h.all v hv x hx hvx,.inr hxd⟩
theorem Nums2.define(few:V.length*L.length<100000)(hm:100000≤most){s:CS}{σ τ:Int→Nat}{N:Nat}(h:Nums2 V L s σ τ N){d t:Int}(hd:d∈V)(ht:t∈L)(at_:Int):
  ∃ s',Jt7w most (costC s) (defP s.set d t) at_=(s',none)∧Nums2 V L s' (upd σ d N) (upd τ t N) (N+1):=by
 have ho:=h.over.define hd ht
 refine ⟨_,by unfold Jt7w;rw [if_neg (fits few hm ho)],⟨ho,fun v=>?_,fun v=>?_,fun v hv x hx hvx=>?_⟩⟩
 ·unfold upd;split
  ·omega
  ·have:=h.σb v;omega
 ·unfold upd;split
  ·omega
  ·have:=h.τb v;omega
 ·show (⟨v,x⟩:Pair)∈defP s.set d t
  rw [Jtsm]
  by_cases hvd:v=d
  ·subst hvd
   rw [Jt1fk] at hvx
   by_cases hxt:x=t
   ·subst hxt;exact .inl rfl
   ·rw [upd_ne hxt] at hvx;have:=h.τb x;omega
  ·rw [upd_ne hvd] at hvx
   by_cases hxt:x=t
   ·subst hxt;rw [Jt1fk] at hvx;have:=h.σb v;omega
   ·rw [upd_ne hxt] at hvx
    exact .inr ⟨h.all v hv x hx hvx,hvd,hxt⟩
theorem Nums2.use{s:CS}{σ τ:Int→Nat}{N:Nat}(h:Nums2 V L s σ τ N){v t:Int}(hv:v∈V)(ht:t∈L)(he:σ v=τ t)(at_:Int):∃ s',useC s v t at_=(s',none)∧Nums2 V L s' σ τ N:=
 ⟨costC s,by unfold useC;rw [if_pos (h.all v hv t ht he)],⟨h.over,h.σb,h.τb,h.all⟩⟩
theorem Nums2.copies(few:V.length*L.length<100000)(hm:100000≤most){τ:Int→Nat}{N:Nat}{at_:Int}:∀ {l:List Instr},(∀ i∈l,i.d∈V∧i.a∈V)→∀ {s:CS} {σ:Int→Nat},Nums2 V L s σ τ N→
  ∃ s',copyC most at_ l s=(s',none)∧Nums2 V L s' (runCv σ l) τ N:=by
 intro l
 induction l with
 | nil=>intro _ s σ h;exact ⟨s,rfl,h⟩
 | cons i l ih=>
  intro hl s σ h
  obtain ⟨s1,e1,h1⟩:=h.copy few hm (hl i (by simp)).1 (hl i (by simp)).2 at_
  obtain ⟨s2,e2,h2⟩:=ih (fun x hx=>hl x (by simp [hx])) h1
  exact ⟨s2,by show thenC (Jt7w most (costC s) (copyP s.set i.d i.a) at_) (copyC most at_ l)=_;rw [e1];exact e2,h2⟩
theorem Nums2.moves(few:V.length*L.length<100000)(hm:100000≤most){σ:Int→Nat}{N:Nat}:∀ {l:List Mach},(∀ i∈l,i.dst∈L∧i.src∈L)→∀ {k:Nat} {s:CS} {τ:Int→Nat},Nums2 V L s σ τ N→
  ∃ s',moveC most k l s=(s',none)∧Nums2 V L s' σ (runMv τ l) N:=by
 intro l
 induction l with
 | nil=>intro _ k s τ h;exact ⟨s,rfl,h⟩
 | cons i l ih=>
  intro hl k s τ h
  obtain ⟨s1,e1,h1⟩:=h.move few hm (hl i (by simp)).1 (hl i (by simp)).2 k
  obtain ⟨s2,e2,h2⟩:=ih (fun x hx=>hl x (by simp [hx])) (k:=k+1) h1
  exact ⟨s2,by show thenC (Jt7w most (costC s) (moveP s.set i.dst i.src) k) (moveC most (k+1) l)=_;rw [e1];exact e2,h2⟩
end
def Sy(n:Nat)(σ τ:Int→Nat):Prop:=∀ v:Int,0≤v→v<n→σ v=τ (2*v+1)
theorem Sy.load{n:Nat}{σ τ:Int→Nat}(h:Sy n σ τ){r:Int}(hr:r=0∨r=2)(x:Nat):Sy n σ (upd τ r x):=by
 intro v h0 h1
 rw [upd_ne (by omega)];exact h v h0 h1
theorem Sy.store{n:Nat}{σ τ:Int→Nat}(h:Sy n σ τ){d:Int}(x:Nat):Sy n (upd σ d x) (upd τ (2*d+1) x):=by
 intro v h0 h1
 by_cases hd:v=d
 ·subst hd;rw [Jt1fk,Jt1fk]
 ·rw [upd_ne hd,upd_ne (by omega)];exact h v h0 h1
theorem Sy.copies{n:Nat}:∀ {l:List Instr} {σ τ:Int→Nat},(∀ i∈l,i.op=2∧(0≤i.a∧i.a<n)∧slotZ i.a=2*i.a+1∧slotZ i.d=2*i.d+1)→Sy n σ τ→Sy n (runCv σ l) (runMv τ (spCode l)):=by
 intro l
 induction l with
 | nil=>intro σ τ _ h;exact h
 | cons i l ih=>
  intro σ τ hl h
  obtain ⟨h1,⟨h2,h3⟩,h4,h5⟩:=hl i (by simp)
  have e:spCode (i::l)=[mvM (regZ 0) (slotZ i.a),mvM (slotZ i.d) (regZ 0)]++spCode l:=by
   simp only [spCode,List.flatMap_cons,Jt1cs,h1]
   rfl
  rw [e,Jt176]
  refine ih (fun x hx=>hl x (by simp [hx])) ?_
  have r0:regZ 0=0:=by decide
  show Sy n (upd σ i.d (σ i.a)) (upd (upd τ (regZ 0) (τ (slotZ i.a))) (slotZ i.d) (upd τ (regZ 0) (τ (slotZ i.a)) (regZ 0)))
  rw [Jt1fk,h4,h5,r0,←h i.a h2 h3]
  exact (h.load (.inl rfl) _).store _
structure InOk (n:Nat) (i:Instr):Prop where
 a:usesA i.op=true→(0≤i.a∧i.a<n)∧slotZ i.a=2*i.a+1
 b:usesB i.op=true→(0≤i.b∧i.b<n)∧slotZ i.b=2*i.b+1
 d:usesD i.op=true→(0≤i.d∧i.d<n)∧slotZ i.d=2*i.d+1
theorem r0e:regZ 0=0:=by decide
end Go.AE
set_option maxRecDepth 4000
namespace Go.AE
open Go
end Go.AE
set_option maxRecDepth 4000
namespace Go.AE
open Go
section
variable {P:Program} {p:Nums}
end
section
variable {P:Program} {p:Nums}
end
@[simp] theorem Jtgw{K:ASt→Prop}{st:ASt}{n b off:Nat}{cells:List AV}{v:Opd}{b' o' e' l':Nat}:goS3 K st n b off cells v (some (.hsl b' o' e' l'))↔1=n∧off+n≤cells.length∧K ⟨unview st.env,st.H.set b (.mem (spl cells off [.hsl b' o' e' l']))⟩:=by
 cases v<;>simp [goS3,AV.erase,AV.cells,AV.leaf]
@[simp] theorem Jth1{K:ASt→Prop}{st:ASt}{n b off:Nat}{cells:List AV}{v:Opd}{q:Place}{e:Nat}{rows:List (List D)}:goS3 K st n b off cells v (some (.view q e rows))↔1=n∧off+n≤cells.length∧K ⟨unview st.env,st.H.set b (.mem (spl cells off [.d (.sl rows)]))⟩:=by
 cases v<;>simp [goS3,AV.erase,AV.cells,AV.leaf]
theorem Jt16i (a b:List (List D)):Jt16d (a++b)=Jt16d a++b.flatten.map AV.d:=by simp [Jt16d]
theorem Jt1m{P:Program}{K:ASt→Prop}{QP:AV→ASt→Prop}{dst:Option Nat}{st:ASt}{esz bytes:Nat}{x y:Opd}{b len:Nat}{rows ys:List (List D)} (h:evr st.env x=some (.hsl b 0 esz len)) (hb:st.H[b]?=some (.mem (Jt16d rows))) (hrl:rows.length=len)
  (hre:∀ r∈rows,r.length=esz) (h0:0<len) (hy:Jt7n st.env y=some ys) (hr:∀ r∈ys,r.length=esz) (hz:0<esz) (hne:ys≠[]) (hn:len+ys.length≤1000000000000000000) (hbt:(len+ys.length)*bytes≤140737488355328)
  (hK:K (put dst (.hsl b 0 esz (len+ys.length)) ⟨unview st.env,st.H.set b (.mem (Jt16d (rows++ys)))⟩)) (hK':K (put dst (.hsl st.H.length 0 esz (len+ys.length)) ⟨st.env,st.H++[.mem (Jt16d (rows++ys))]⟩)) :
  AWio P false (.app esz bytes x y) dst K QP st:=by
 simp only [AWio,h]
 rw [Jt16i] at hK hK'
 refine ⟨trivial,b,len,Jt16d rows,ys,h,hb,by rw [Jt16l hre,hrl],h0,?_,hy,hr,hz,hne,hn,hbt,hK,hK'⟩
 rw [List.all_eq_true]
 intro x hx
 unfold Jt16d at hx
 rw [List.mem_map] at hx
 obtain ⟨d,_,rfl⟩:=hx
 rfl
end Go.AE
set_option maxRecDepth 4000
namespace Go.AE
open Go
theorem Jtvc{l:List Pair}{vregs regs slots:Int}(h:pErrs l vregs regs slots=0):Srt l∧∀ q∈l,0≤q.v∧q.v<vregs∧rngZ q.l regs slots=true:=by
 have key:∀ k (hk:k<l.length),0≤l[k].v∧l[k].v<vregs∧rngZ l[k].l regs slots=true∧(0<k→∀ q0,l[k-1]?=some q0→lessP q0 l[k]=true):=by
  intro k hk
  have h7:=Jtg0 h (pErr l vregs regs slots k) (List.mem_map.2 ⟨k,List.mem_range.2 hk,rfl⟩)
  rw [Jtva hk] at h7
  split at h7
  ·cases h7
  rename_i a1
  split at h7
  ·cases h7
  rename_i a2
  refine ⟨by omega,by omega,by simpa using a2,fun h0 q0 hq0=>?_⟩
  rw [hq0] at h7
  cases hx:lessP q0 l[k] with
  | true=>rfl
  | false=>
   simp only [hx,h0,and_self,if_true] at h7
   cases h7
 refine ⟨Jt1d5.2 fun k hk=>?_,fun q hq=>?_⟩
 ·exact (key (k+1) hk).2.2.2 (by omega) l[k] (by simp)
 ·obtain ⟨k,hk⟩:=List.getElem?_of_mem hq
  obtain ⟨hlt,rfl⟩:=lgS.1 hk
  obtain ⟨a1,a2,a3,_⟩:=key k hlt
  exact ⟨a1,a2,a3⟩
theorem Jtvd{l L:List Pair}{vregs regs slots:Int}(h:pErrs L vregs regs slots=0)(hs:l.Sublist L):pErrs l vregs regs slots=0:=by
 obtain ⟨h1,h2⟩:=Jtvc h
 have h3:Srt l:=List.Pairwise.sublist hs h1
 unfold pErrs
 refine Jtfz fun e he=>?_
 obtain ⟨k,hk,rfl⟩:=List.mem_map.1 he
 have hk:=List.mem_range.1 hk
 obtain ⟨a1,a2,a3⟩:=h2 l[k] (hs.subset (List.getElem_mem hk))
 rw [Jtva hk,if_neg (by omega),if_neg (by rw [a3];simp),if_neg]
 rintro ⟨h0,h4⟩
 have e:l[k-1]?=some (l[k-1]'(by omega)):=by rw [lgE]
 rw [e] at h4
 simp only at h4
 have:=Jt1db h3 (i:=k-1) (j:=k) (by omega) hk
 rw [h4] at this;cases this
def subC(c:Cert)(k:Nat)(l:List Pair):Cert:=⟨c.S,c.T,c.W.set k l⟩
theorem Jtsw{α:Type}{w:List α}{k:Nat}{l x:α}(h:x∈w.set k l):x=l∨x∈w:=by
 rcases List.mem_or_eq_of_mem_set h with h | h
 ·exact .inr h
 ·exact .inl h
theorem Jt1fx (w:List (List Pair)) (k:Nat) (l:List Pair) (h:∀ L,w[k]?=some L→l.length≤L.length):wTotal (w.set k l)≤wTotal w:=by
 induction w generalizing k with
 | nil=>simp [wTotal]
 | cons a w ih=>
  cases k with
  | zero=>
   have:=h a (by simp)
   simp only [List.set_cons_zero,wTotal,List.map_cons,List.sum_cons];omega
  | succ k=>
   have:=ih k fun L hL=>h L (by simpa using hL)
   simp only [List.set_cons_succ,wTotal,List.map_cons,List.sum_cons] at *;omega
section
variable {c:Cert} {k:Nat} {l L:List Pair}
theorem Jt1dx(hv:validZ c=0)(hL:c.W[k]?=some L) (hs:l.Sublist L):validZ (subC c k l)=0:=by
 unfold validZ at hv ⊢
 split at hv
 ·rename_i g;exact absurd hv g
 rename_i g1
 split at hv
 ·rename_i g;exact absurd hv g
 rename_i g2
 split at hv
 ·cases hv
 rename_i g3
 unfold Jtdg at hv
 split at hv
 ·cases hv
 rename_i g4
 split at hv
 ·cases hv
 rename_i g5
 show (if Jt14r c.S≠0 then Jt14r c.S else if Jt14v c.T≠0 then Jt14v c.T else if c.S.blocks.length≠c.T.blocks.length∨c.S.args≠c.T.args then 14 else Jtdg (c.W.set k l) c.S.blocks.length c.S.regs c.T.regs c.T.slots)=0
 rw [if_neg g1,if_neg g2,if_neg g3]
 unfold Jtdg
 have ht:=Jt1fx c.W k l fun L' hL'=>by rw [hL] at hL';injection hL' with hL';subst hL';exact hs.length_le
 rw [if_neg (by rw [List.length_set];exact g4),if_neg (by omega)]
 refine Jtfz fun e he=>?_
 obtain ⟨x,hx,rfl⟩:=List.mem_map.1 he
 rcases Jtsw hx with rfl | hx
 ·exact Jtvd (Jtg0 hv _ (List.mem_map_of_mem (lmG hL))) hs
 ·exact Jtg0 hv _ (List.mem_map_of_mem hx)
theorem Jt1dw(h:Fit c)(hL:c.W[k]?=some L) (hs:l.Sublist L):Fit (subC c k l) where
 lenT:=h.lenT
 lenW:=by show (c.W.set k l).length=_;rw [List.length_set];exact h.lenW
 pos:=h.pos
 few:=h.few
 w:=fun x hx=>by
  have hx:x∈c.W.set k l:=hx
  rcases Jtsw hx with rfl | hx
  ·obtain ⟨h1,h2,h3⟩:=h.w L (lmG hL)
   exact ⟨List.Pairwise.sublist hs h1,Nat.le_trans hs.length_le h2,fun q hq=>h3 q (hs.subset hq)⟩
  ·exact h.w x hx
 vl:=h.vl
 cs:=h.cs
 ct:=h.ct
 to:=h.to
 ars:=h.ars
theorem Jt68(hv:validZ c=0)(he:(Jt15v c).err=0):((w0 c).all fun q=>initZ q c.S.args)=true:=by
 unfold Jt15v at he
 rw [if_neg (by simp [hv])] at he
 split at he
 ·cases he
 ·rename_i h1;simpa using h1
theorem acc_ok(h:Fit c)(hv:validZ c=0)(he:(Jt15v c).err=0):∀ i,i<c.S.blocks.length→blkOk c i=true:=by
 have h1:=((Jtpn h hv).2 (by rw [he];decide)).1 he
 unfold okTo at h1
 intro i hi
 exact List.all_eq_true.1 h1 i (List.mem_range.2 hi)
end
def shN(b:Int):Nat:=(IntKind.u64.wrap (bits .and .i64 b 63)).toNat
def aluB(op a b:Int):Int:=
 if op=5 then IntKind.i64.wrap (a+b)
 else if op=6 then IntKind.i64.wrap (a-b)
 else if op=7 then IntKind.i64.wrap (a*b)
 else if op=8 then IntKind.i64.wrap (a.tdiv b)
 else if op=9 then a.tmod b
 else if op=10 then bits .and .i64 a b
 else if op=11 then bits .or .i64 a b
 else if op=12 then bits .xor .i64 a b
 else if op=13 then IntKind.i64.wrap (a*2 ^ min (shN b) 64)
 else if op=14 then a.fdiv (2 ^ min (shN b) 64)
 else if op=15 then (if a=b then 1 else 0)
 else if op=16 then (if a<b then 1 else 0)
 else 0
def aluZ(op a b imm:Int):Int × Bool:=
 if op=1 then (imm,true) else if op=2 then (a,true) else if op=3 then (IntKind.i64.wrap (0-a),true) else if op=4 then (bits .xor .i64 (-1) a,true)
 else if 5≤op∧op<17 then (if (op=8∨op=9)∧b=0 then (0,false) else (aluB op a b,true)) else (0,false)
section
variable {P:Program} {p:Nums}
end
structure RunZ where (state:Int) (block at_:Nat) (value:Int) (regs slots trace:List Int) (steps:Nat)
def RunZ.av(r:RunZ):AV:=.agg [AI r.state,AI r.block,AI r.at_,AI r.value,.d (intsD r.regs),.d (intsD r.slots),.d (intsD r.trace),AI r.steps]
def gI(l:List Int)(n:Int):Int:=l.getD n.toNat 0
def setI(l:List Int)(n v:Int):List Int:=l.set n.toNat v
def stepI(i:Instr)(r:RunZ):RunZ:=
 if i.op=17 then { r with trace:=r.trace++[gI r.regs i.a],at_:=r.at_+1,steps:=r.steps+1}
 else if (aluZ i.op (gI r.regs i.a) (gI r.regs i.b) i.imm).2=true then { r with regs:=setI r.regs i.d (aluZ i.op (gI r.regs i.a) (gI r.regs i.b) i.imm).1,at_:=r.at_+1,steps:=r.steps+1}
 else { r with state:=2}
theorem Jt17m(l:List Int)(n v:Int):(setI l n v).length=l.length:=by simp [setI]
section
variable {P:Program} {p:Nums}
end
end Go.AE
set_option maxRecDepth 4000
namespace Go.AE
open Go
section
variable {P:Program} {p:Nums}
end
end Go.AE
set_option maxRecDepth 4000
namespace Go.AE
open Go
structure OkT (t:Term) (n k:Nat):Prop where
 kind:t.kind=1∨t.kind=2∨t.kind=3
 a:t.kind≠1→0≤t.a∧t.a<n
 to:t.kind=1∨t.kind=2→0≤t.to∧t.to<k
 els:t.kind=2→0≤t.els∧t.els<k
structure OkF (f:Func) (n:Nat):Prop where
 code:∀ b∈f.blocks,∀ i∈b.code,(0≤i.a∧i.a<n)∧(0≤i.b∧i.b<n)∧(0≤i.d∧i.d<n)
 term:∀ b∈f.blocks,OkT b.term n f.blocks.length
structure OkR (f:Func) (n:Nat) (r:RunZ):Prop where
 regs:r.regs.length=n
 block:r.block<f.blocks.length
 at_:∀ b,f.blocks[r.block]?=some b→r.at_≤b.code.length
section
variable {P:Program} {p:Nums}
end
end Go.AE
set_option maxRecDepth 4000
namespace Go.AE
open Go
section
variable {P:Program} {K:ASt→Prop} {QP:AV→ASt→Prop} {dst:Option Nat} {st:ASt}
end
section
variable {P:Program} {p:Nums}
end
end Go.AE
set_option maxRecDepth 4000
namespace Go.AE
open Go
def readL(m:RunZ)(l:Int):Int:=if l.tmod 2=1 then gI m.slots (l.tdiv 2) else gI m.regs (l.tdiv 2)
def writeL(m:RunZ)(l v:Int):RunZ:=if l.tmod 2=1 then { m with slots:=setI m.slots (l.tdiv 2) v} else { m with regs:=setI m.regs (l.tdiv 2) v}
def stepMI(x:Mach)(m:RunZ):RunZ:=
 if x.op=18 then { writeL m x.dst (readL m x.src) with at_:=m.at_+1,steps:=m.steps+1}
 else if x.op=17 then { m with trace:=m.trace++[gI m.regs x.a],at_:=m.at_+1,steps:=m.steps+1}
 else if (aluZ x.op (gI m.regs x.a) (gI m.regs x.b) x.imm).2=true then { m with regs:=setI m.regs x.d (aluZ x.op (gI m.regs x.a) (gI m.regs x.b) x.imm).1,at_:=m.at_+1,steps:=m.steps+1}
 else { m with state:=2}
def stepMT(t:Term)(r:RunZ):RunZ:=
 if t.kind=3 then { r with steps:=r.steps+1,state:=1,value:=gI r.regs t.a}
 else if t.kind=1 then { r with steps:=r.steps+1,block:=t.to.toNat,at_:=0}
 else if gI r.regs t.a=0 then { r with steps:=r.steps+1,block:=t.els.toNat,at_:=0}
 else { r with steps:=r.steps+1,block:=t.to.toNat,at_:=0}
def stepM(g:MFunc)(m:RunZ):RunZ:=match g.blocks[m.block]? with
 | none=>m
 | some b=>match b.code[m.at_]? with
  | some x=>stepMI x m
  | none=>stepMT b.term m
def LocOk(m:RunZ)(l:Int):Prop:=-9223372036854775808≤l∧l≤9223372036854775807∧0≤l.tdiv 2∧(l.tmod 2=1→l.tdiv 2<m.slots.length)∧(l.tmod 2≠1→l.tdiv 2<m.regs.length)
section
variable {P:Program} {p:Nums}
end
end Go.AE
set_option maxRecDepth 4000
namespace Go.AE
open Go
section
variable {P:Program} {p:Nums}
end
end Go.AE
set_option maxRecDepth 4000
namespace Go.AE
open Go
structure OkX (m:RunZ) (x:Mach):Prop where
 mv:x.op=18→LocOk m x.dst∧LocOk m x.src
 em:x.op=17→0≤x.a∧x.a<m.regs.length
 op:x.op≠18→x.op≠17→(0≤x.a∧x.a<m.regs.length)∧(0≤x.b∧x.b<m.regs.length)∧(0≤x.d∧x.d<m.regs.length)
section
variable {P:Program} {p:Nums}
end
end Go.AE
set_option maxRecDepth 4000
namespace Go.AE
open Go
structure OkG (g:MFunc) (n1 n2:Nat):Prop where
 code:∀ b∈g.blocks,∀ x∈b.code,∀ m:RunZ,m.regs.length=n1→m.slots.length=n2→OkX m x
 term:∀ b∈g.blocks,OkT b.term n1 g.blocks.length
structure OkRM (g:MFunc) (n1 n2:Nat) (m:RunZ):Prop where
 regs:m.regs.length=n1
 slots:m.slots.length=n2
 block:m.block<g.blocks.length
 at_:∀ b,g.blocks[m.block]?=some b→m.at_≤b.code.length
theorem Jt1lf(m:RunZ)(l v:Int):(writeL m l v).regs.length=m.regs.length∧(writeL m l v).slots.length=m.slots.length∧(writeL m l v).block=m.block∧(writeL m l v).state=m.state∧(writeL m l v).trace=m.trace:=by
 unfold writeL;split
 ·exact ⟨rfl,by simp [setI],rfl,rfl,rfl⟩
 ·exact ⟨by simp [setI],rfl,rfl,rfl,rfl⟩
section
variable {P:Program} {p:Nums}
end
end Go.AE
set_option maxRecDepth 4000
namespace Go.AE
open Go
section
variable {P:Program} {p:Nums}
end
end Go.AE
set_option maxRecDepth 4000
namespace Go.AE
open Go
def Reach(g:MFunc):Nat→RunZ→RunZ→Prop
 | 0,m,m'=>m=m'
 | j+1,m,m'=>m.state=0∧Reach g j (stepM g m) m'
theorem Reach.trans{g:MFunc}:∀ {j k:Nat} {a b c:RunZ},Reach g j a b→Reach g k b c→Reach g (j+k) a c:=by
 intro j
 induction j with
 | zero=>intro k a b c h1 h2;unfold Reach at h1;subst h1;rw [Nat.zero_add];exact h2
 | succ j ih=>
  intro k a b c h1 h2
  rw [Nat.succ_add]
  exact ⟨h1.1,ih h1.2 h2⟩
def foldM:List Mach→RunZ→RunZ
 | [],m=>m
 | x::xs,m=>foldM xs (stepMI x m)
def goodM:List Mach→RunZ→Prop
 | [],_=>True
 | x::xs,m=>m.state=0∧goodM xs (stepMI x m)
theorem Jt1dk{x:Mach}{m:RunZ}(h:(stepMI x m).state=0):(stepMI x m).at_=m.at_+1:=by
 unfold stepMI at h ⊢
 split at h
 ·rename_i h1;rw [if_pos h1]
 ·rename_i h1
  rw [if_neg h1]
  split at h
  ·rename_i h2;rw [if_pos h2]
  ·rename_i h2
   rw [if_neg h2]
   split at h
   ·rename_i h3;rw [if_pos h3]
   ·cases h
theorem Jtgj{l:List Int}{n v:Int}(h0:0≤n)(h1:n<l.length):gI (setI l n v) n=v:=by
 have h:n.toNat<l.length:=by omega
 simp [gI,setI,List.getD_eq_getElem?_getD,h]
theorem Jtgi{l:List Int}{n k v:Int}(h0:0≤n)(h1:0≤k)(hne:n≠k):gI (setI l n v) k=gI l k:=by
 have h:n.toNat≠k.toNat:=by omega
 simp [gI,setI,List.getD_eq_getElem?_getD,List.getElem?_set_ne h]
theorem aluZ_a{op a a' b imm:Int}(h:usesA op=false)(h17:op≠17):aluZ op a b imm=aluZ op a' b imm:=by
 unfold aluZ
 by_cases h1:op=1
 ·rw [if_pos h1,if_pos h1]
 ·have hA:¬ (2≤op∧op≤17):=by
   intro hc
   rw [←Bool.not_eq_true] at h
   apply h
   simp only [usesA,decide_eq_true_eq]
   first|omega|exact hc
  rw [if_neg h1,if_neg h1,if_neg (by omega),if_neg (by omega),if_neg (by omega),if_neg (by omega),if_neg (by omega),if_neg (by omega),if_neg (by omega),if_neg (by omega)]
theorem aluZ_b{op a b b' imm:Int}(h:usesB op=false):aluZ op a b imm=aluZ op a b' imm:=by
 unfold aluZ
 have hB:¬ (5≤op∧op<17):=by
  intro hc
  rw [←Bool.not_eq_true] at h
  apply h
  simp only [usesB,decide_eq_true_eq]
  omega
 rw [if_neg hB,if_neg hB]
end Go.AE
set_option maxRecDepth 4000
namespace Go.AE
open Go
structure RelS (f:Func) (n:Nat) (r m:RunZ):Prop where
 run:r.state=0
 runm:m.state=0
 block:m.block=r.block
 at_:∀ b,f.blocks[r.block]?=some b→m.at_=(spCode (b.code.take r.at_)).length
 slots:m.slots=r.regs
 trace:m.trace=r.trace
 value:m.value=r.value
 two:m.regs.length=2
 len:r.regs.length=n
end Go.AE
set_option maxRecDepth 4000
namespace Go.AE
open Go
structure SrcOk (f:Func) (n:Nat):Prop where
 code:∀ b∈f.blocks,∀ i∈b.code,(1≤i.op∧i.op≤17)∧InOk n i
 term:∀ b∈f.blocks,OkT b.term n f.blocks.length∧(b.term.kind≠1→slotZ b.term.a=2*b.term.a+1)
structure EndS (r m:RunZ):Prop where
 state:m.state=1
 value:m.value=r.value
 block:m.block=r.block
 slots:m.slots=r.regs
 trace:m.trace=r.trace
end Go.AE
set_option maxRecDepth 4000
namespace Go.AE
open Go
structure JumpF (f:Func):Prop where
 code:∀ b∈f.blocks,b.code=[]∧b.term.kind=1∧0≤b.term.to∧b.term.to<f.blocks.length
section
variable {P:Program} {K:ASt→Prop} {QP:AV→ASt→Prop} {dst:Option Nat} {st:ASt}
end
section
variable {P:Program} {p:Nums}
end
end Go.AE
set_option maxRecDepth 4000
namespace Go.AE
open Go
theorem Jtlf{i:Instr}{n:Nat}(h:Jt14t i (n:Int)=0) (h0:0<n):(0≤i.a∧i.a<n)∧(0≤i.b∧i.b<n)∧(0≤i.d∧i.d<n):=by
 unfold Jt14t at h
 split at h
 ·cases h
 split at h
 ·cases h
 rename_i h9
 split at h
 ·cases h
 rename_i h12
 simp only [bad9,Bool.or_eq_true,Bool.and_eq_true,not_or,not_and,Bool.not_eq_true',Bool.not_eq_false,inZ,decide_eq_true_eq] at h9
 simp only [bad12,Bool.or_eq_true,Bool.and_eq_true,not_or,not_and,Bool.not_eq_true',bne_iff_ne,ne_eq,Decidable.not_not] at h12
 obtain ⟨⟨d,a⟩,b⟩:=h9
 obtain ⟨⟨⟨d2,a2⟩,b2⟩,_⟩:=h12
 have one:∀ (u:Bool) (x:Int),(u=true→0≤x∧x<(n:Int))→(u=false→x=0)→0≤x∧x<(n:Int):=by
  intro u x h1 h2
  cases u with
  | true=>exact h1 rfl
  | false=>rw [h2 rfl];omega
 exact ⟨one _ _ a a2,one _ _ b b2,one _ _ d d2⟩
section
variable {P:Program} {p:Nums}
end
end Go.AE
set_option maxRecDepth 4000
namespace Go.AE
open Go
structure Inv (n n1 n2:Nat) (s:List Pair) (r m:RunZ):Prop where
 pos:∀ q∈s,0≤q.v∧0≤q.l
 val:∀ q∈s,gI r.regs q.v=readL m q.l
 trace:m.trace=r.trace
 block:m.block=r.block
 run:r.state=0
 runm:m.state=0
 len:r.regs.length=n
 len1:m.regs.length=n1
 len2:m.slots.length=n2
theorem Jt1ed{r:CR}{f:CS→CR}{s':CS}(h:thenC r f=(s',none)):r.2=none∧f r.1=(s',none):=by
 unfold thenC at h
 cases hr:r.2 with
 | none=>rw [hr] at h;exact ⟨rfl,h⟩
 | some e=>rw [hr] at h;cases h
theorem par_eq{a b:Int}(ha:0≤a)(hb:0≤b)(h1:a.tmod 2=1↔b.tmod 2=1)(h2:a.tdiv 2=b.tdiv 2):a=b:=by
 have m1:=Int.tmod_eq_emod_of_nonneg (b:=2) ha
 have m2:=Int.tmod_eq_emod_of_nonneg (b:=2) hb
 have d1:=Int.tdiv_eq_ediv_of_nonneg (b:=2) ha
 have d2:=Int.tdiv_eq_ediv_of_nonneg (b:=2) hb
 omega
theorem Jt1ea{a:Int}(ha:0≤a):0≤a.tdiv 2:=by
 have d1:=Int.tdiv_eq_ediv_of_nonneg (b:=2) ha
 omega
theorem Jty9{m:RunZ}{d l v:Int}(hd:LocOk m d)(h0:0≤d)(hl:0≤l):readL (writeL m d v) l=if l=d then v else readL m l:=by
 obtain ⟨_,_,d0,d1,d2⟩:=hd
 have l0:=Jt1ea hl
 by_cases hs:d.tmod 2=1
 ·have e:writeL m d v={ m with slots:=setI m.slots (d.tdiv 2) v}:=by unfold writeL;rw [if_pos hs]
  rw [e]
  by_cases hs2:l.tmod 2=1
  ·have e1:readL { m with slots:=setI m.slots (d.tdiv 2) v} l=gI (setI m.slots (d.tdiv 2) v) (l.tdiv 2):=by unfold readL;rw [if_pos hs2]
   have e2:readL m l=gI m.slots (l.tdiv 2):=by unfold readL;rw [if_pos hs2]
   rw [e1,e2]
   by_cases he:l=d
   ·subst he;rw [if_pos rfl];exact Jtgj d0 (d1 hs)
   ·rw [if_neg he]
    exact Jtgi d0 l0 fun h=>he (par_eq hl h0 (by simp [hs,hs2]) h.symm)
  ·have e1:readL { m with slots:=setI m.slots (d.tdiv 2) v} l=gI m.regs (l.tdiv 2):=by unfold readL;rw [if_neg hs2]
   have e2:readL m l=gI m.regs (l.tdiv 2):=by unfold readL;rw [if_neg hs2]
   rw [e1,e2,if_neg (by rintro rfl;exact hs2 hs)]
 ·have e:writeL m d v={ m with regs:=setI m.regs (d.tdiv 2) v}:=by unfold writeL;rw [if_neg hs]
  rw [e]
  by_cases hs2:l.tmod 2=1
  ·have e1:readL { m with regs:=setI m.regs (d.tdiv 2) v} l=gI m.slots (l.tdiv 2):=by unfold readL;rw [if_pos hs2]
   have e2:readL m l=gI m.slots (l.tdiv 2):=by unfold readL;rw [if_pos hs2]
   rw [e1,e2,if_neg (by rintro rfl;exact hs hs2)]
  ·have e1:readL { m with regs:=setI m.regs (d.tdiv 2) v} l=gI (setI m.regs (d.tdiv 2) v) (l.tdiv 2):=by unfold readL;rw [if_neg hs2]
   have e2:readL m l=gI m.regs (l.tdiv 2):=by unfold readL;rw [if_neg hs2]
   rw [e1,e2]
   by_cases he:l=d
   ·subst he;rw [if_pos rfl];exact Jtgj d0 (d2 hs)
   ·rw [if_neg he]
    exact Jtgi d0 l0 fun h=>he (par_eq hl h0 (by simp [hs,hs2]) h.symm)
theorem Jt1dl{i:Instr}{r:RunZ}(hc:i.op=2):stepI i r={ r with regs:=setI r.regs i.d (gI r.regs i.a),at_:=r.at_+1,steps:=r.steps+1}:=by
 unfold stepI
 have hz:∀ b,aluZ i.op (gI r.regs i.a) b i.imm=(gI r.regs i.a,true):=fun b=>by unfold aluZ;rw [hc,if_neg (by decide),if_pos rfl]
 rw [if_neg (by rw [hc];decide),hz,if_pos rfl]
section
variable {n n1 n2:Nat} {s:List Pair} {r m:RunZ}
theorem Inv.copy{i:Instr}(h:Inv n n1 n2 s r m)(hc:i.op=2)(hd:0≤i.d∧i.d<n)(ha:0≤i.a):Inv n n1 n2 (copyP s i.d i.a) (stepI i r) m:=by
 rw [Jt1dl hc]
 have hl:i.d<(r.regs.length:Int):=by rw [h.len];exact hd.2
 refine ⟨fun q hq=>?_,fun q hq=>?_,h.trace,h.block,h.run,h.runm,by show (setI _ _ _).length=n;rw [Jt17m];exact h.len,h.len1,h.len2⟩
 ·rcases Jtsl.1 hq with ⟨k1,_⟩ | ⟨k1,k2⟩
  ·exact h.pos q k1
  ·exact ⟨by rw [k1];exact hd.1,(h.pos _ k2).2⟩
 ·show gI (setI r.regs i.d (gI r.regs i.a)) q.v=readL m q.l
  rcases Jtsl.1 hq with ⟨k1,k2⟩ | ⟨k1,k2⟩
  ·have p:=h.pos q k1
   rcases k2 with k2 | k2
   ·by_cases he:q.v=i.d
    ·have v:=h.val q k1
     rw [he] at v ⊢
     rw [Jtgj hd.1 hl,←k2];exact v
    ·rw [Jtgi hd.1 p.1 (fun h=>he h.symm)];exact h.val q k1
   ·rw [Jtgi hd.1 p.1 (fun h=>k2 h.symm)];exact h.val q k1
  ·rw [k1,Jtgj hd.1 hl]
   exact h.val _ k2
theorem Inv.move{x:Mach}(h:Inv n n1 n2 s r m)(hc:x.op=18)(ok:OkX m x)(h0:0≤x.dst):Inv n n1 n2 (moveP s x.dst x.src) r (stepMI x m):=by
 obtain ⟨o1,o2⟩:=ok.mv hc
 have e:stepMI x m={ writeL m x.dst (readL m x.src) with at_:=m.at_+1,steps:=m.steps+1}:=by unfold stepMI;rw [if_pos hc]
 obtain ⟨w1,w2,w3,w4,w5⟩:=Jt1lf m x.dst (readL m x.src)
 rw [e]
 have rd:∀ l:Int,0≤l→readL { writeL m x.dst (readL m x.src) with at_:=m.at_+1,steps:=m.steps+1} l=if l=x.dst then readL m x.src else readL m l:=fun l hl=>Jty9 o1 h0 hl
 refine ⟨fun q hq=>?_,fun q hq=>?_,by show (writeL m _ _).trace=_;rw [w5];exact h.trace,by show (writeL m _ _).block=_;rw [w3];exact h.block,h.run,by show (writeL m _ _).state=_;rw [w4];exact h.runm,h.len,
  by show (writeL m _ _).regs.length=_;rw [w1];exact h.len1,by show (writeL m _ _).slots.length=_;rw [w2];exact h.len2⟩
 ·rcases Jtsr.1 hq with ⟨k1,_⟩ | ⟨k1,k2⟩
  ·exact h.pos q k1
  ·exact ⟨(h.pos _ k2).1,by rw [k1];exact h0⟩
 ·rcases Jtsr.1 hq with ⟨k1,k2⟩ | ⟨k1,k2⟩
  ·rw [rd _ (h.pos q k1).2]
   by_cases he:q.l=x.dst
   ·rw [if_pos he]
    rcases k2 with k2 | k2
    ·have v:=h.val q k1
     rw [v,he,k2]
    ·exact absurd he k2
   ·rw [if_neg he];exact h.val q k1
  ·rw [rd _ (by rw [k1];exact h0),if_pos k1]
   exact h.val _ k2
theorem Inv.moves{most:Int}{ok:Mach→Prop}(hok:∀ x,ok x→x.op=18∧0≤x.dst∧∀ m:RunZ,m.regs.length=n1→m.slots.length=n2→OkX m x):
  ∀ {l:List Mach} {k:Nat} {s s':CS} {m:RunZ},moveC most k l s=(s',none)→(∀ x∈l,ok x)→Inv n n1 n2 s.set r m→
   goodM l m∧Inv n n1 n2 s'.set r (foldM l m)∧(foldM l m).at_=m.at_+l.length∧(foldM l m).value=m.value:=by
 intro l
 induction l with
 | nil=>
  intro k s s' m h _ hi
  unfold moveC at h
  injection h with h;subst h
  exact ⟨trivial,hi,rfl,rfl⟩
 | cons x l ih=>
  intro k s s' m h hl hi
  unfold moveC at h
  obtain ⟨_,h2⟩:=Jt1ed h
  obtain ⟨x1,x2,x3⟩:=hok x (hl x (by simp))
  have hi1:=hi.move x1 (x3 m hi.len1 hi.len2) x2
  obtain ⟨g1,g2,g3,g4⟩:=ih h2 (fun y hy=>hl y (by simp [hy])) hi1
  refine ⟨⟨hi.runm,g1⟩,g2,?_,?_⟩
  ·show (foldM l (stepMI x m)).at_=_
   rw [g3,Jt1dk hi1.runm,List.length_cons];omega
  ·show (foldM l (stepMI x m)).value=_
   rw [g4]
   unfold stepMI;rw [if_pos x1]
   show (writeL m x.dst (readL m x.src)).value=_
   unfold writeL;split<;>rfl
end
theorem Jt1fo{s s':CS}{v t a:Int}(h:useC s v t a=(s',none)):(⟨v,t⟩:Pair)∈s.set∧s'.set=s.set:=by
 unfold useC at h
 split at h
 ·rename_i hm;injection h with h1 h2;subst h1;exact ⟨hm,rfl⟩
 ·injection h with h1 h2;cases h2
theorem Jtlg{most at_:Int}{s s':CS}{i:Instr}{x:Mach}(h:instrC most s i x at_=(s',none)) :
  (usesA i.op=true→(⟨i.a,regZ x.a⟩:Pair)∈s.set)∧(usesB i.op=true→(⟨i.b,regZ x.b⟩:Pair)∈s.set)∧s'.set=if usesD i.op=true then defP s.set i.d (regZ x.d) else s.set:=by
 unfold instrC at h
 obtain ⟨h1,h⟩:=Jt1ed h
 obtain ⟨h2,h⟩:=Jt1ed h
 have a1:(usesA i.op=true→(⟨i.a,regZ x.a⟩:Pair)∈s.set)∧(if usesA i.op=true then useC s i.a (regZ x.a) at_ else (s,none)).1.set=s.set:=by
  by_cases hu:usesA i.op=true
  ·rw [if_pos hu] at h1 ⊢
   have:=Jt1fo (s':=(useC s i.a (regZ x.a) at_).1) (by rw [←h1])
   exact ⟨fun _=>this.1,this.2⟩
  ·rw [if_neg hu];exact ⟨fun h=>absurd h hu,rfl⟩
 obtain ⟨s1,hs1⟩:∃ s1,s1=(if usesA i.op=true then useC s i.a (regZ x.a) at_ else (s,none)).1:=⟨_,rfl⟩
 rw [←hs1] at h h2 a1
 have a2:(usesB i.op=true→(⟨i.b,regZ x.b⟩:Pair)∈s.set)∧(if usesB i.op=true then useC s1 i.b (regZ x.b) at_ else (s1,none)).1.set=s.set:=by
  by_cases hu:usesB i.op=true
  ·rw [if_pos hu] at h2 ⊢
   have:=Jt1fo (s':=(useC s1 i.b (regZ x.b) at_).1) (by rw [←h2])
   exact ⟨fun _=>by rw [←a1.2];exact this.1,by rw [this.2,a1.2]⟩
  ·rw [if_neg hu];exact ⟨fun h=>absurd h hu,a1.2⟩
 obtain ⟨s2,hs2⟩:∃ s2,s2=(if usesB i.op=true then useC s1 i.b (regZ x.b) at_ else (s1,none)).1:=⟨_,rfl⟩
 rw [←hs2] at h a2
 refine ⟨a1.1,a2.1,?_⟩
 by_cases hu:usesD i.op=true
 ·rw [if_pos hu] at h ⊢
  have:s'=(Jt7w most (costC s2) (defP s2.set i.d (regZ x.d)) at_).1:=by rw [h]
  rw [this,←a2.2];rfl
 ·rw [if_neg hu] at h ⊢
  injection h with h;rw [←h];exact a2.2
theorem Jt151{v:Int}(h0:0≤v)(h1:v≤1000000):regZ v=2*v:=by unfold regZ;exact wrap_i64 (by omega) (by omega)
theorem Jty8{m:RunZ}{v:Int}(h0:0≤v)(h1:v≤1000000):readL m (regZ v)=gI m.regs v:=by
 rw [Jt151 h0 h1]
 have m1:=Int.tmod_eq_emod_of_nonneg (a:=2*v) (b:=2) (by omega)
 have d1:=Int.tdiv_eq_ediv_of_nonneg (a:=2*v) (b:=2) (by omega)
 unfold readL
 rw [if_neg (by omega),show (2*v).tdiv 2=v by omega]
section
variable {n n1 n2:Nat} {r m:RunZ}
theorem Inv.instr{most at_:Int}{s s':CS}{i:Instr}{x:Mach}(h:Inv n n1 n2 s.set r m)(hC:instrC most s i x at_=(s',none)) (hs:sameI i x=true) (hop:1≤i.op∧i.op≤17) (hd0:i.op≠17→0≤i.d∧i.d<n) (ok:OkX m x) (hn1:n1≤1000000) :
  (stepI i r).state=2∨((stepI i r).state=0∧goodM [x] m∧Inv n n1 n2 s'.set (stepI i r) (stepMI x m)∧(stepMI x m).at_=m.at_+1∧(stepMI x m).value=m.value∧(stepI i r).value=r.value):=by
 obtain ⟨uA,uB,hset⟩:=Jtlg hC
 simp only [sameI,Bool.and_eq_true,beq_iff_eq,bne_iff_ne,ne_eq] at hs
 obtain ⟨⟨⟨so,si⟩,s2⟩,s18⟩:=hs
 have x18:¬ x.op=18:=by rw [←so];exact s18
 by_cases h17:i.op=17
 ·have x17:x.op=17:=by rw [←so];exact h17
  have xa:=ok.em x17
  rw [h.len1] at xa
  have va:gI m.regs x.a=gI r.regs i.a:=by
   have:=h.val _ (uA (by simp [usesA,h17]))
   rw [Jty8 xa.1 (by omega)] at this;exact this.symm
  have e1:stepI i r={ r with trace:=r.trace++[gI r.regs i.a],at_:=r.at_+1,steps:=r.steps+1}:=by unfold stepI;rw [if_pos h17]
  have e2:stepMI x m={ m with trace:=m.trace++[gI r.regs i.a],at_:=m.at_+1,steps:=m.steps+1}:=by unfold stepMI;rw [if_neg x18,if_pos x17,va]
  have hD:¬ usesD i.op=true:=by simp [usesD,h17]
  rw [if_neg hD] at hset
  right
  rw [e1,e2,hset]
  exact ⟨h.run,⟨h.runm,trivial⟩,⟨h.pos,h.val,by show m.trace++_=r.trace++_;rw [h.trace],h.block,h.run,h.runm,h.len,h.len1,h.len2⟩,rfl,rfl,rfl⟩
 ·have hd:=hd0 h17
  have x17:¬ x.op=17:=by rw [←so];exact h17
  obtain ⟨xa,xb,xd⟩:=ok.op x18 x17
  rw [h.len1] at xa xb xd
  have e:aluZ x.op (gI m.regs x.a) (gI m.regs x.b) x.imm=aluZ i.op (gI r.regs i.a) (gI r.regs i.b) i.imm:=by
   rw [←so,←si]
   have ea:aluZ i.op (gI m.regs x.a) (gI m.regs x.b) i.imm=aluZ i.op (gI r.regs i.a) (gI m.regs x.b) i.imm:=by
    cases hA:usesA i.op with
    | true=>
     have:=h.val _ (uA hA)
     rw [Jty8 xa.1 (by omega)] at this;rw [this]
    | false=>exact aluZ_a hA h17
   rw [ea]
   cases hB:usesB i.op with
   | true=>
    have:=h.val _ (uB hB)
    rw [Jty8 xb.1 (by omega)] at this;rw [this]
   | false=>exact aluZ_b hB
  obtain ⟨z,hz⟩:∃ z,z=aluZ i.op (gI r.regs i.a) (gI r.regs i.b) i.imm:=⟨_,rfl⟩
  rw [←hz] at e
  by_cases hok:z.2=true
  ·right
   have hD:usesD i.op=true:=by simp only [usesD,decide_eq_true_eq];omega
   rw [if_pos hD] at hset
   have e1:stepI i r={ r with regs:=setI r.regs i.d z.1,at_:=r.at_+1,steps:=r.steps+1}:=by unfold stepI;rw [←hz,if_neg h17,if_pos hok]
   have e2:stepMI x m={ m with regs:=setI m.regs x.d z.1,at_:=m.at_+1,steps:=m.steps+1}:=by unfold stepMI;rw [if_neg x18,if_neg x17,e,if_pos hok]
   have hl:i.d<(r.regs.length:Int):=by rw [h.len];exact hd.2
   have hl2:x.d<(m.regs.length:Int):=by rw [h.len1];exact xd.2
   have rz:=Jt151 xd.1 (by omega)
   rw [e1,e2,hset]
   refine ⟨h.run,⟨h.runm,trivial⟩,⟨fun q hq=>?_,fun q hq=>?_,h.trace,h.block,h.run,h.runm,by show (setI _ _ _).length=n;rw [Jt17m];exact h.len,by show (setI _ _ _).length=n1;rw [Jt17m];exact h.len1,h.len2⟩,rfl,rfl,rfl⟩
   ·rcases Jtsm.1 hq with rfl | ⟨k1,_⟩
    ·exact ⟨hd.1,by show 0≤regZ x.d;rw [rz];omega⟩
    ·exact h.pos q k1
   ·rcases Jtsm.1 hq with rfl | ⟨k1,k2,k3⟩
    ·show gI (setI r.regs i.d z.1) i.d=readL _ (regZ x.d)
     rw [Jty8 xd.1 (by omega),Jtgj hd.1 hl]
     exact (Jtgj xd.1 hl2).symm
    ·have p:=h.pos q k1
     show gI (setI r.regs i.d z.1) q.v=readL { m with regs:=setI m.regs x.d z.1,at_:=m.at_+1,steps:=m.steps+1} q.l
     rw [Jtgi hd.1 p.1 (fun h=>k2 h.symm),h.val q k1]
     unfold readL
     by_cases hp:q.l.tmod 2=1
     ·rw [if_pos hp,if_pos hp]
     ·rw [if_neg hp,if_neg hp]
      refine (Jtgi xd.1 (Jt1ea p.2) fun hne=>k3 ?_).symm
      rw [rz]
      have m1:=Int.tmod_eq_emod_of_nonneg (b:=2) p.2
      have d1:=Int.tdiv_eq_ediv_of_nonneg (b:=2) p.2
      omega
  ·left
   unfold stepI;rw [←hz,if_neg h17,if_neg hok]
end
end Go.AE
set_option maxRecDepth 4000
namespace Go.AE
open Go
inductive RowsF (code:List Instr) (mach:List Mach):Nat→Nat→List ARow→Prop
 | last {i k:Nat}:skipW isCopy code i=code.length→skipW isMove mach k=mach.length→RowsF code mach i k [⟨i,skipW isCopy code i,k,skipW isMove mach k,-1,-1⟩]
 | next {i k:Nat} {x:Instr} {y:Mach} {rest:List ARow}:code[skipW isCopy code i]?=some x→mach[skipW isMove mach k]?=some y→sameI x y=true→RowsF code mach (skipW isCopy code i+1) (skipW isMove mach k+1) rest→
   RowsF code mach i k (⟨i,skipW isCopy code i,k,skipW isMove mach k,skipW isCopy code i,skipW isMove mach k⟩::rest)
theorem Jt6j{code:List Instr}{mach:List Mach}:∀ (f i k:Nat) (acc:List ARow),(alignS code mach f i k acc).2.2=0→∃ rest,(alignS code mach f i k acc).1=acc++rest∧RowsF code mach i k rest:=by
 intro f
 induction f with
 | zero=>intro i k acc h;cases h
 | succ f ih=>
  intro i k acc h
  unfold alignS at h ⊢
  by_cases h1:skipW isCopy code i=code.length∧skipW isMove mach k=mach.length
  ·rw [if_pos h1]
   exact ⟨_,rfl,.last h1.1 h1.2⟩
  ·rw [if_neg h1] at h ⊢
   cases hx:code[skipW isCopy code i]? with
   | none=>rw [hx] at h;cases h
   | some x=>
    cases hy:mach[skipW isMove mach k]? with
    | none=>rw [hx,hy] at h;cases h
    | some y=>
     rw [hx,hy] at h
     simp only at h ⊢
     by_cases hs:sameI x y=true
     ·rw [if_pos hs] at h ⊢
      obtain ⟨rest,e,hr⟩:=ih _ _ _ h
      exact ⟨_,by rw [e,List.append_assoc];rfl,.next hx hy hs hr⟩
     ·rw [if_neg hs] at h;cases h
theorem Jt6m{code:List Instr}{mach:List Mach}(h:(alignZ code mach).2.2=0):RowsF code mach 0 0 (alignZ code mach).1:=by
 obtain ⟨rest,e,hr⟩:=Jt6j _ 0 0 [] h
 have:(alignZ code mach).1=rest:=e
 rw [this];exact hr
theorem Jt181{α:Type}(f:α→Bool)(l:List α)(i:Nat):(l.take (skipW f l i)).drop i=(l.drop i).takeWhile f:=by
 rw [List.drop_take]
 unfold skipW
 rw [Nat.add_sub_cancel_left]
 exact (List.prefix_iff_eq_take.1 (List.takeWhile_prefix f)).symm
theorem Jt180{α:Type}{f:α→Bool}{l:List α}{i:Nat}:∀ x∈(l.take (skipW f l i)).drop i,f x=true∧x∈l:=by
 intro x hx
 rw [Jt181] at hx
 exact ⟨List.all_eq_true.1 List.all_takeWhile x hx,List.mem_of_mem_drop ((List.takeWhile_prefix f).subset hx)⟩
end Go.AE
set_option maxRecDepth 4000
namespace Go.AE
open Go
structure Acc (c:Cert) (n n1 n2:Nat):Prop where
 src:∀ b∈c.S.blocks,∀ i∈b.code,(1≤i.op∧i.op≤17)∧InOk n i
 sterm:∀ b∈c.S.blocks,OkT b.term n c.S.blocks.length
 mac:OkG c.T n1 n2
 dst:∀ b∈c.T.blocks,∀ x∈b.code,0≤x.dst
 runs:∀ b∈c.T.blocks,∀ j,j<b.code.length→¬ 64<runF (b.code.take (j+1))
 small:n1≤1000000
 lenT:c.T.blocks.length=c.S.blocks.length
 lenW:c.W.length=c.S.blocks.length
 w:∀ l∈c.W,Srt l∧∀ q∈l,0≤q.v∧0≤q.l
 blk:∀ i,i<c.S.blocks.length→blkOk c i=true
end Go.AE
set_option maxRecDepth 4000
namespace Go.AE
open Go
structure EndC (r m:RunZ):Prop where
 state:m.state=1
 value:m.value=r.value
 trace:m.trace=r.trace
end Go.AE
set_option maxRecDepth 4000
namespace Go.AE
open Go
end Go.AE
set_option maxRecDepth 4000
namespace Go.AE
open Go
section
variable {P:Program} {p:Nums}
end
section
variable {P:Program} {p:Nums}
end
end Go.AE
set_option maxRecDepth 8000
namespace Go.AE
open Go
structure InB (b:Block) (nr:Nat):Prop where
 emit:∀ i∈b.code,i.op=17→0≤i.a∧i.a<nr
 ops:∀ i∈b.code,i.op≠17→(0≤i.a∧i.a<nr)∧(0≤i.b∧i.b<nr)∧(0≤i.d∧i.d<nr)
 term:b.term.kind≠1→0≤b.term.a∧b.term.a<nr
 to:0≤b.term.to∧0≤b.term.els
def evI(i:Instr)(l:List Int):Int × Bool:=evalZ i.op (gI l i.a) (gI l i.b) i.imm
def stepB(b:Block)(r:RunZ):RunZ:=
 if r.at_=b.code.length then
  if b.term.kind=3 then { r with state:=1,value:=gI r.regs b.term.a,steps:=r.steps+1}
  else { r with block:=(if b.term.kind=2∧gI r.regs b.term.a=0 then b.term.els else b.term.to).toNat,at_:=0,steps:=r.steps+1}
 else match b.code[r.at_]? with
  | none=>r
  | some i=>if i.op=17 then { r with trace:=r.trace++[gI r.regs i.a],at_:=r.at_+1,steps:=r.steps+1}
   else if (evI i r.regs).2=true then { r with regs:=r.regs.set i.d.toNat (evI i r.regs).1,at_:=r.at_+1,steps:=r.steps+1}
   else { r with state:=2}
def stepZ(f:Func)(r:RunZ):RunZ:=if r.state≠0 then r else match f.blocks[r.block]? with
 | some b=>stepB b r
 | none=>r
structure Small (r:RunZ):Prop where
 regs:r.regs.length<100000000
 slots:r.slots.length<100000000
 trace:r.trace.length<100000000
 steps:r.steps<1000000000
section
variable {P:Program} {p:Nums}
end
end Go.AE
set_option maxRecDepth 8000
namespace Go.AE
open Go
structure InBM (b:MBlock) (r:RunZ):Prop where
 mv:∀ x∈b.code,x.op=18→(LocOk r x.dst∧0≤x.dst)∧LocOk r x.src∧0≤x.src
 emit:∀ i∈b.code,i.op=17→0≤i.a∧i.a<r.regs.length
 ops:∀ i∈b.code,i.op≠18→i.op≠17→(0≤i.a∧i.a<r.regs.length)∧(0≤i.b∧i.b<r.regs.length)∧(0≤i.d∧i.d<r.regs.length)
 term:b.term.kind≠1→0≤b.term.a∧b.term.a<r.regs.length
 to:0≤b.term.to∧0≤b.term.els
section
variable {P:Program} {p:Nums}
end
end Go.AE
set_option maxRecDepth 4000
namespace Go.AE
open Go
theorem Jtfa{op a a' b imm:Int}(h:usesA op=false)(h17:op≠17):evalZ op a b imm=evalZ op a' b imm:=by
 have hA:¬ (2≤op∧op≤17):=by
  intro hc
  rw [←Bool.not_eq_true] at h
  exact h (by simp only [usesA,decide_eq_true_eq];exact hc)
 unfold evalZ
 by_cases h1:op=1
 ·rw [if_pos h1,if_pos h1]
 ·iterate 2 rw [if_neg h1,if_neg (by omega),if_neg (by omega),if_neg (by omega),if_neg (by omega),if_neg (by omega),if_neg (by omega),if_neg (by omega),if_neg (by omega),if_neg (by omega),if_neg (by omega),if_neg (by omega),if_neg (by omega),if_neg (by omega),if_neg (by omega),if_neg (by omega)]
theorem Jtfb{op a b b' imm:Int}(h:usesB op=false):evalZ op a b imm=evalZ op a b' imm:=by
 have hB:¬ (5≤op∧op<17):=by
  intro hc
  rw [←Bool.not_eq_true] at h
  exact h (by simp only [usesB,decide_eq_true_eq];omega)
 unfold evalZ
 by_cases h1:op=1
 ·rw [if_pos h1,if_pos h1]
 by_cases h2:op=2
 ·rw [if_neg h1,if_pos h2,if_neg h1,if_pos h2]
 by_cases h3:op=3
 ·rw [if_neg h1,if_neg h2,if_pos h3,if_neg h1,if_neg h2,if_pos h3]
 by_cases h4:op=4
 ·rw [if_neg h1,if_neg h2,if_neg h3,if_pos h4,if_neg h1,if_neg h2,if_neg h3,if_pos h4]
 ·iterate 2 rw [if_neg h1,if_neg h2,if_neg h3,if_neg h4,if_neg (by omega),if_neg (by omega),if_neg (by omega),if_neg (by omega),if_neg (by omega),if_neg (by omega),if_neg (by omega),if_neg (by omega),if_neg (by omega),if_neg (by omega),if_neg (by omega),if_neg (by omega)]
section
variable {n n1 n2:Nat} {m:RunZ}
end
end Go.AE
set_option maxRecDepth 4000
namespace Go.AE
open Go
theorem Jt16b{most:Int}{b:List Instr}{k:List Mach}{row:ARow}{s s':CS}(h:rowC most b k row s=(s',none)) :
  ∃ s1 s2,copyC most row.mf ((b.take row.ct).drop row.cf) s=(s1,none)∧moveC most row.mf ((k.take row.mt).drop row.mf) s1=(s2,none)∧lastC most b k row s2=(s',none):=by
 unfold rowC at h
 obtain ⟨h1,h2⟩:=Jt1ed h
 obtain ⟨h3,h4⟩:=Jt1ed h2
 exact ⟨_,_,by rw [←h1],by rw [←h3],h4⟩
theorem Jtax{b:Block}{m:MBlock}{l:List Pair}{most:Int}(h:(checkZ b m l most).err=0) :
  ∃ s',RowsF b.code m.code 0 0 (alignZ b.code m.code).1∧termsZ b.term m.term=true∧runC most b m (alignZ b.code m.code).1 ⟨makeP l,0,l.length⟩=(s',none)∧(checkZ b m l most).out=s'.set:=by
 obtain ⟨a1,a2,a3⟩:=Jt6l b.code m.code
 unfold checkZ at h ⊢
 split at h
 ·cases h
 rename_i h1
 rw [if_neg h1]
 by_cases h2:(if (alignZ b.code m.code).2.2=0∧termsZ b.term m.term=false then 20 else (alignZ b.code m.code).2.2)≠0
 ·simp only [if_pos h2] at h;exact absurd h h2
 ·simp only [if_neg h2] at h ⊢
  have h3:(alignZ b.code m.code).2.2=0∧termsZ b.term m.term=true:=by
   split at h2
   ·exact absurd (by decide) h2
   ·rename_i h4
    have e:(alignZ b.code m.code).2.2=0:=by simpa using h2
    refine ⟨e,?_⟩
    cases ht:termsZ b.term m.term with
    | true=>rfl
    | false=>exact absurd ⟨e,ht⟩ h4
  have hb:=Jt171 (most:=most) (b:=b) (m:=m) (rs:=(alignZ b.code m.code).1) (s:=⟨makeP l,0,l.length⟩) (Jts5 l) a1
  generalize runC most b m (alignZ b.code m.code).1 ⟨makeP l,0,l.length⟩=r at hb h ⊢
  obtain ⟨t,e⟩:=r
  cases e with
  | none=>exact ⟨t,Jt6m h3.1,h3.2,rfl,by simp [runE]⟩
  | some e=>exact absurd h (hb.fail e rfl).1
end Go.AE
set_option maxRecDepth 4000
namespace Go.AE
open Go
structure OkW (f:Func) (n k:Nat) (r:RunZ):Prop where
 regs:r.regs.length=n
 slots:r.slots=[]
 block:r.block<f.blocks.length
 at_:∀ b,f.blocks[r.block]?=some b→r.at_≤b.code.length
 steps:r.steps≤k
 trace:r.trace.length≤k
structure OkWM (g:MFunc) (n1 n2 k:Nat) (r:RunZ):Prop where
 regs:r.regs.length=n1
 slots:r.slots.length=n2
 block:r.block<g.blocks.length
 at_:∀ b,g.blocks[r.block]?=some b→r.at_≤b.code.length
 steps:r.steps≤k
 trace:r.trace.length≤k
theorem OkT.step{t:Term}{n k:Nat}(h:OkT t n k)(h3:t.kind≠3)(c:Prop)[Decidable c]:(if t.kind=2∧c then t.els else t.to).toNat<k:=by
 split
 ·rename_i h2
  have:=h.els h2.1
  omega
 ·have:=h.to (by have:=h.kind;omega)
  omega
def VB:List Int:=(List.range 20).map fun n:Nat=>(n:Int)
def LB(n1 n2:Nat):List Int:=((List.range n1).map fun n:Nat=>2*(n:Int))++(List.range n2).map fun n:Nat=>2*(n:Int)+1
theorem mem_VB{x:Int}:x∈VB↔0≤x∧x<20:=by
 unfold VB
 simp only [List.mem_map,List.mem_range]
 constructor
 ·rintro ⟨n,h,rfl⟩;omega
 ·rintro ⟨h0,h1⟩;exact ⟨x.toNat,by omega,by omega⟩
def LocB(n1 n2:Nat)(l:Int):Prop:=0≤l∧(l.tmod 2=1→l.tdiv 2<n2)∧(l.tmod 2≠1→l.tdiv 2<n1)
theorem mem_LB{n1 n2:Nat}{l:Int}:l∈LB n1 n2↔LocB n1 n2 l:=by
 unfold LB LocB
 simp only [List.mem_append,List.mem_map,List.mem_range]
 constructor
 ·rintro (⟨n,h,rfl⟩ | ⟨n,h,rfl⟩)
  ·have m1:=Int.tmod_eq_emod_of_nonneg (a:=2*(n:Int)) (b:=2) (by omega)
   have d1:=Int.tdiv_eq_ediv_of_nonneg (a:=2*(n:Int)) (b:=2) (by omega)
   refine ⟨by omega,fun _=>by omega,fun _=>by omega⟩
  ·have m1:=Int.tmod_eq_emod_of_nonneg (a:=2*(n:Int)+1) (b:=2) (by omega)
   have d1:=Int.tdiv_eq_ediv_of_nonneg (a:=2*(n:Int)+1) (b:=2) (by omega)
   refine ⟨by omega,fun _=>by omega,fun _=>by omega⟩
 ·rintro ⟨h0,h1,h2⟩
  have m1:=Int.tmod_eq_emod_of_nonneg (b:=2) h0
  have d1:=Int.tdiv_eq_ediv_of_nonneg (b:=2) h0
  by_cases hs:l.tmod 2=1
  ·have:=h1 hs;exact .inr ⟨(l.tdiv 2).toNat,by omega,by omega⟩
  ·have:=h2 hs;exact .inl ⟨(l.tdiv 2).toNat,by omega,by omega⟩
theorem LocB.ok{n1 n2:Nat}{l:Int}(h:LocB n1 n2 l)(q1:n1≤1000)(q2:n2≤1000){m:RunZ}(h1:m.regs.length=n1)(h2:m.slots.length=n2):LocOk m l:=by
 obtain ⟨a,b,c⟩:=h
 have m1:=Int.tmod_eq_emod_of_nonneg (b:=2) a
 have d1:=Int.tdiv_eq_ediv_of_nonneg (b:=2) a
 have:l≤100000:=by
  by_cases hs:l.tmod 2=1
  ·have:=b hs;omega
  ·have:=c hs;omega
 exact ⟨by omega,by omega,by omega,fun h=>by rw [h2];exact b h,fun h=>by rw [h1];exact c h⟩
theorem Jt168{n1 n2:Nat}{l:Int}(h:rngZ l (n1:Int) (n2:Int)=true):LocB n1 n2 l:=by
 unfold rngZ at h
 split at h
 ·rename_i k
  simp only [Bool.and_eq_true,decide_eq_true_eq] at h
  exact ⟨h.1,fun _=>h.2,fun h'=>absurd k h'⟩
 ·rename_i k
  simp only [Bool.and_eq_true,decide_eq_true_eq] at h
  exact ⟨h.1,fun h'=>absurd h' k,fun _=>h.2⟩
structure RightB (b:Block) (m:MBlock) (n1 n2:Nat):Prop where
 l1:n1≤20
 l2:n2≤20
 bl:b.code.length≤60
 ml:m.code.length≤200
 src:∀ i∈b.code,Jt14t i 20=0
 sterm:∀ x∈(fnB b).blocks,OkT x.term 20 (fnB b).blocks.length∧0≤x.term.to∧0≤x.term.els
 mac:∀ x∈m.code,Jt14w x n1 n2=0
 mterm:∀ x∈(fnM m n1 n2).blocks,OkT x.term n1 (fnM m n1 n2).blocks.length∧0≤x.term.to∧0≤x.term.els
theorem Jttv{x:Mach}{n1 n2:Nat}(h:Jt14w x (n1:Int) (n2:Int)=0) (h18:x.op=18):LocB n1 n2 x.dst∧LocB n1 n2 x.src:=by
 unfold Jt14w at h
 split at h
 ·cases h
 split at h
 ·cases h
 rename_i k
 simp only [not_or,Bool.not_eq_false] at k
 exact ⟨Jt168 k.1,Jt168 k.2.1⟩
theorem RightB.vl{b:Block}{m:MBlock}{n1 n2:Nat}(h:RightB b m n1 n2)(hp:0<n1):VLOk VB (LB n1 n2) b.code m.code:=by
 have z:LocB n1 n2 0:=⟨by omega,fun h=>by simp at h,fun _=>by simp;omega⟩
 refine ⟨fun i hi=>mem_VB.2 (Jtlf (n:=20) (h.src i hi) (by decide)).2.2,fun x hx=>?_⟩
 have hv:=h.mac x hx
 have q1:=h.l1
 by_cases h18:x.op=18
 ·refine ⟨mem_LB.2 (Jttv hv h18).1,?_⟩
  unfold Jt14w at hv
  split at hv
  ·cases hv
  split at hv
  ·cases hv
  split at hv
  ·cases hv
  rename_i k
  have:x.d=0:=by omega
  rw [this,show regZ 0=0 from r0e];exact mem_LB.2 z
 ·unfold Jt14w at hv
  split at hv
  ·cases hv
  split at hv
  ·cases hv
  rename_i k
  have hd:x.dst=0:=by
   rcases Decidable.em (x.dst=0) with h0 | h0
   ·exact h0
   ·exact absurd ⟨hv,.inl h0⟩ k
  have hi:=(Jtlf hv hp).2.2
  simp only at hi
  refine ⟨by rw [hd];exact mem_LB.2 z,?_⟩
  rw [Jt151 hi.1 (by omega)]
  exact mem_LB.2 (by
   have m1:=Int.tmod_eq_emod_of_nonneg (a:=2*x.d) (b:=2) (by omega)
   have d1:=Int.tdiv_eq_ediv_of_nonneg (a:=2*x.d) (b:=2) (by omega)
   exact ⟨by omega,fun h=>by omega,fun _=>by omega⟩)
end Go.AE
set_option maxRecDepth 4000
namespace Go.AE
open Go
def defAt(b:Block)(v:Int)(k:Nat):Bool:=(b.code.take k).any fun i=>usesD i.op&&i.d==v
def useI(i:Instr)(v:Int):Bool:=(usesA i.op&&i.a==v)||(usesB i.op&&i.b==v)
def usedC(b:Block)(v:Int)(k:Nat):Bool:=(List.range k).any fun j=>match b.code[j]? with
 | some i=>useI i v&&!defAt b v j
 | none=>false
def usedZ(b:Block)(v:Int):Bool:=usedC b v b.code.length||(b.term.kind != 1&&b.term.a==v&&!defAt b v b.code.length)
theorem Jtd5{b:Block}{v:Int}{k:Nat}{i:Instr}(h:b.code[k]?=some i):defAt b v (k+1)=(defAt b v k||(usesD i.op&&i.d==v)):=by
 unfold defAt
 rw [List.take_add_one,h,List.any_append];simp
theorem Jt1fq{b:Block}{v:Int}{k:Nat}{i:Instr}(h:b.code[k]?=some i):usedC b v (k+1)=(usedC b v k||(useI i v&&!defAt b v k)):=by
 unfold usedC
 rw [List.range_succ,List.any_append]
 simp [h]
section
variable {P:Program} {p:Nums}
def listsD (l:List (List Int)):D:=.sl (l.map fun x=>[intsD x])
end
end Go.AE
set_option maxRecDepth 4000
namespace Go.AE
open Go
theorem Jt1a{P:Program}{K:ASt→Prop}{QP:AV→ASt→Prop}{dst:Option Nat}{st:ASt}{ι:Type}(bs:List Nat)(e:Nat){f:Nat}{args cargs:List AV}{Hp Hc:List Blk}{C Hb:ι→List Blk}{X Y:ι→AV}{Pr:ι→Prop}
  (h:Jt51 P f cargs Hc fun o H'=>∃ i,Pr i∧o=.ret (X i)∧H'=C i)
  (hnd:bs.Nodup) (ha:renL (idx bs) args=some cargs) (hp:picks st.H bs=some Hp) (hc:renB (idx bs) Hp=some Hc) (hb:∀ i,renB (back bs st.H.length e) (C i)=some (Hb i))
  (hl:∀ i,(C i).length=bs.length+e) (hx:∀ i,(X i).ren (back bs st.H.length e)=some (Y i)) (hK:∀ i,Pr i→K (put dst (Y i) ⟨unview st.env,wback st.H bs ((Hb i).take bs.length)++(Hb i).drop bs.length⟩)):AWcall P false f args dst K QP st:=by
 refine .inr ⟨rfl,.inr ⟨bs,hnd,cargs,Hp,Hc,ha,hp,hc,h.mono ?_⟩⟩
 rintro o H' ⟨i,hi,rfl,rfl⟩
 have ht:(C i).take (bs.length+e)=C i:=by rw [←hl i,List.take_length]
 exact ⟨e,Hb i,Y i,by rw [ht];exact hb i,by rw [hl i];exact Nat.le_refl _,hx i,hK i hi⟩
def mpK(ks:List Int):Obj:=mpO ks.zipIdx ks.length
def madd(ks:List Int)(n:Int):List Int:=if n∈ks then ks else ks++[n]
theorem Jt1ll(ks:List Int):ks.zipIdx.map Prod.fst=ks:=by simp
theorem Jttu(ks:List Int)(n:Int):mpO (mputE ks.zipIdx ks.length n) (mputC ks.zipIdx ks.length n)=mpK (madd ks n):=by
 unfold mputE mputC madd mpK
 rw [Jt1ll]
 split
 ·rfl
 ·rw [List.zipIdx_append];simp
theorem Jtso{ks:List Int}{n v:Int}:v∈madd ks n↔v∈ks∨v=n:=by
 unfold madd
 split
 ·rename_i h;exact ⟨.inl,fun h'=>h'.elim id fun e=>e▸h⟩
 ·simp
theorem Jts3{ks:List Int}{n:Int}(h:ks.Nodup):(madd ks n).Nodup:=by
 unfold madd
 split
 ·exact h
 ·rename_i hn
  rw [List.nodup_append]
  exact ⟨h,by simp,fun a ha b hb=>by simp at hb;subst hb;rintro rfl;exact hn ha⟩
theorem Jts2{ks:List Int}{n:Int}:(madd ks n).length≤ks.length+1:=by unfold madd;split<;>simp
section
variable {P:Program} {K:ASt→Prop} {QP:AV→ASt→Prop} {dst:Option Nat} {st:ASt}
theorem Jt2k (h:∀ r,K (put dst (.mp r) ⟨st.env,st.H++[.glob r (mpK [])]⟩)):AWio P false (.mo .mk) dst K QP st:=Jt2j h
theorem Jt31{x k v:Opd}{r b:Nat}{n:Int}{ks:List Int}(hx:evr st.env x=some (.mp r)) (hk:evr st.env k=some (.d (.int .i64 n))) (hv:evr st.env v=some (.d (.bool true))) (hb:st.H[b]?=some (.glob r (mpK ks)))
  (h:K ⟨unview st.env,st.H.set b (.glob r (mpK (madd ks n)))⟩):AWio P false (.mo (.set x k v)) none K QP st:=Jt30 hx hk hv hb (by rw [Jttu];exact h)
theorem Jt2i{x k:Opd}{r b:Nat}{n:Int}{ks:List Int}(hx:evr st.env x=some (.mp r)) (hk:evr st.env k=some (.d (.int .i64 n))) (hb:st.H[b]?=some (.glob r (mpK ks)))
  (h:K (put dst (.d (.bool (decide (n∈ks)))) st)):AWio P false (.mo (.get x k)) dst K QP st:=Jt2h hx hk hb (by rw [Jt1ll];exact h)
theorem Jt2s{x:Opd}{r b:Nat}{ks:List Int}(hx:evr st.env x=some (.mp r)) (hb:st.H[b]?=some (.glob r (mpK ks))) (h:K (put dst (.d (.int .i64 ks.length)) st)):AWio P false (.mo (.len x)) dst K QP st:=
 Jt2r hx hb (by rw [List.length_zipIdx];exact h)
theorem Jt2z{x:Opd}{r b:Nat}{ks:List Int}(hx:evr st.env x=some (.mp r)) (hb:st.H[b]?=some (.glob r (mpK ks)))
  (h:∀ r',K (put dst (.ptr st.H.length 0) ⟨st.env,st.H++[.glob r' (itO r ks.length [])]⟩)):AWio P false (.mo (.rng x)) dst K QP st:=Jt2y hx hb h
theorem Jtsz{ks:List Int}{e:Int × Nat}:e∈ks.zipIdx↔ks[e.2]?=some e.1:=by
 rw [List.mem_zipIdx_iff_getElem?]
theorem Jt2v{x:Opd}{bi r' r b:Nat}{ks:List Int}{seen:List Nat}(hx:evr st.env x=some (.ptr bi 0)) (hi:st.H[bi]?=some (.glob r' (itO r ks.length seen))) (hb:st.H[b]?=some (.glob r (mpK ks)))
  (h1:∀ i k,ks[i]?=some k→i∉seen→K (put dst (.tup [.d (.bool true),.d (.int .i64 k),.d (.bool true)]) ⟨unview st.env,st.H.set bi (.glob r' (itO r ks.length (seen++[i])))⟩))
  (h2:(∀ i,i<ks.length→i∈seen)→K (put dst (.tup [.d (.bool false)]) ⟨unview st.env,st.H⟩)):AWio P false (.mo (.nxt x)) dst K QP st:=by
 refine Jt2u hx hi hb (fun e he=>(lgS.1 (Jtsz.1 he)).1) (fun e he hs=>h1 e.2 e.1 (Jtsz.1 he) hs) (fun hs=>h2 fun i hi=>?_)
 exact hs (ks[i],i) (Jtsz.2 (by simp [hi]))
theorem Jt2g{x:Opd}{bi r' r b i:Nat}{k:Int}{ks:List Int}{seen:List Nat}(hx:evr st.env x=some (.ptr bi 0)) (hi:st.H[bi]?=some (.glob r' (itO r ks.length (seen++[i])))) (hb:st.H[b]?=some (.glob r (mpK ks))) (hk:ks[i]?=some k)
  (h:K (put dst (.tup [.d (.int .i64 k),.d (.bool true)]) st)):AWio P false (.mo (.ent x)) dst K QP st:=
 Jt2f (k,i) hx hi hb (Jtsz.2 hk) (by rw [List.zipIdx_map_snd];exact List.nodup_range' ..) h
end
end Go.AE
set_option maxRecDepth 4000
namespace Go.AE
open Go
def useS(us ds:List Int)(v:Int):List Int:=if v∈ds then us else madd us v
def scanI(s:List Int × List Int)(i:Instr):List Int × List Int:=
 let u1:=if usesA i.op=true then useS s.1 s.2 i.a else s.1
 let u2:=if usesB i.op=true then useS u1 s.2 i.b else u1
 (u2,if usesD i.op=true then madd s.2 i.d else s.2)
def scanC(l:List Instr):List Int × List Int:=l.foldl scanI ([],[])
def scanZ(b:Block):List Int × List Int:=
 (if b.term.kind≠1 then useS (scanC b.code).1 (scanC b.code).2 b.term.a else (scanC b.code).1,(scanC b.code).2)
theorem Jt17k{l:List Instr}{k:Nat}{i:Instr}(h:l[k]?=some i):scanC (l.take (k+1))=scanI (scanC (l.take k)) i:=by
 unfold scanC;rw [List.take_add_one,h,List.foldl_append];rfl
theorem Jtsy{us ds:List Int}{v x:Int}:x∈useS us ds v↔x∈us∨(x=v∧v∉ds):=by
 unfold useS
 split
 ·rename_i h;exact ⟨.inl,fun h'=>h'.elim id fun e=>absurd h e.2⟩
 ·rename_i h;rw [Jtso];exact ⟨fun h'=>h'.imp id fun e=>⟨e,h⟩,fun h'=>h'.imp id fun e=>e.1⟩
theorem Jt1fn{us ds:List Int}{v:Int}(h:us.Nodup):(useS us ds v).Nodup:=by unfold useS;split;exact h;exact Jts3 h
theorem Jt1fm{us ds:List Int}{v:Int}:(useS us ds v).length≤us.length+1:=by unfold useS;split;omega;exact Jts2
theorem Jt17j(b:Block):∀ k,k≤b.code.length→(∀ v,v∈(scanC (b.code.take k)).2↔defAt b v k=true)∧(∀ v,v∈(scanC (b.code.take k)).1↔usedC b v k=true)∧(scanC (b.code.take k)).1.Nodup∧(scanC (b.code.take k)).2.Nodup∧(scanC (b.code.take k)).1.length≤2*k∧(scanC (b.code.take k)).2.length≤k:=by
 intro k
 induction k with
 | zero=>intro _;refine ⟨fun v=>?_,fun v=>?_,by simp [scanC],by simp [scanC],by simp [scanC],by simp [scanC]⟩<;>simp [scanC,defAt,usedC]
 | succ k ih=>
  intro hk
  obtain ⟨h1,h2,h3,h4,h5,h6⟩:=ih (by omega)
  have hb:b.code[k]?=some b.code[k]:=by simp [show k<b.code.length by omega]
  obtain ⟨i,hi⟩:∃ i,i=b.code[k]:=⟨_,rfl⟩
  rw [←hi] at hb
  rw [Jt17k hb]
  obtain ⟨s,hs⟩:∃ s,s=scanC (b.code.take k):=⟨_,rfl⟩
  rw [←hs] at h1 h2 h3 h4 h5 h6 ⊢
  unfold scanI
  simp only
  refine ⟨fun v=>?_,fun v=>?_,?_,?_,?_,?_⟩
  ·rw [Jtd5 hb]
   by_cases hd:usesD i.op=true
   ·rw [if_pos hd,Jtso,h1,Bool.or_eq_true,Bool.and_eq_true,beq_iff_eq];exact or_congr Iff.rfl ⟨fun e=>⟨hd,e.symm⟩,fun e=>e.2.symm⟩
   ·rw [if_neg hd,h1,Bool.or_eq_true];simp [hd]
  ·have key:usedC b v (k+1)=true↔v∈s.1∨(((usesA i.op=true∧i.a=v)∨(usesB i.op=true∧i.b=v))∧v∉s.2):=by
    rw [Jt1fq hb,Bool.or_eq_true,Bool.and_eq_true,h2,h1]
    unfold useI
    rw [Bool.or_eq_true,Bool.and_eq_true,Bool.and_eq_true,beq_iff_eq,beq_iff_eq]
    cases defAt b v k<;>simp
   rw [key]
   have e1:∀ us:List Int,∀ c:Bool,∀ y:Int,v∈(if c=true then useS us s.2 y else us)↔v∈us∨((c=true∧y=v)∧v∉s.2):=by
    intro us c y
    cases c with
    | true=>
     rw [if_pos rfl,Jtsy]
     exact or_congr Iff.rfl ⟨fun ⟨e,h⟩=>⟨⟨rfl,e.symm⟩,e▸h⟩,fun ⟨⟨_,e⟩,h⟩=>⟨e.symm,e▸h⟩⟩
    | false=>simp
   rw [e1,e1]
   constructor
   ·rintro ((h | ⟨h,h'⟩) | ⟨h,h'⟩)
    ·exact .inl h
    ·exact .inr ⟨.inl h,h'⟩
    ·exact .inr ⟨.inr h,h'⟩
   ·rintro (h | ⟨h | h,h'⟩)
    ·exact .inl (.inl h)
    ·exact .inl (.inr ⟨h,h'⟩)
    ·exact .inr ⟨h,h'⟩
  ·split<;>split<;>first|exact Jt1fn (Jt1fn h3)|exact Jt1fn h3|exact h3
  ·split;exact Jts3 h4;exact h4
  ·have l1:(if usesA i.op=true then useS s.1 s.2 i.a else s.1).length≤s.1.length+1:=by split;exact Jt1fm;omega
   generalize (if usesA i.op=true then useS s.1 s.2 i.a else s.1)=u1 at l1 ⊢
   have l2:(if usesB i.op=true then useS u1 s.2 i.b else u1).length≤u1.length+1:=by split;exact Jt1fm;omega
   omega
  ·have:(if usesD i.op=true then madd s.2 i.d else s.2).length≤s.2.length+1:=by split;exact Jts2;omega
   omega
theorem Jt17l(b:Block):(∀ v,v∈(scanZ b).2↔defAt b v b.code.length=true)∧(∀ v,v∈(scanZ b).1↔usedZ b v=true)∧(scanZ b).1.Nodup∧(scanZ b).2.Nodup∧(scanZ b).1.length≤2*b.code.length+1∧(scanZ b).2.length≤b.code.length:=by
 have h:=Jt17j b b.code.length (Nat.le_refl _)
 rw [List.take_length] at h
 obtain ⟨h1,h2,h3,h4,h5,h6⟩:=h
 refine ⟨h1,fun v=>?_,?_,h4,?_,h6⟩
 ·unfold scanZ usedZ
  by_cases hk:b.term.kind=1
  ·simp [hk,h2]
  ·simp only [ne_eq,hk,not_false_eq_true,if_true,Jtsy,h2,h1]
   simp only [Bool.or_eq_true,Bool.and_eq_true,bne_iff_ne,ne_eq,hk,not_false_eq_true,true_and,beq_iff_eq,Bool.not_eq_true',Bool.not_eq_true]
   exact or_congr Iff.rfl ⟨fun ⟨e,h⟩=>⟨e.symm,e▸h⟩,fun ⟨e,h⟩=>⟨e.symm,e▸h⟩⟩
 ·show (if b.term.kind≠1 then _ else _:List Int).Nodup
  split;exact Jt1fn h3;exact h3
 ·show (if b.term.kind≠1 then _ else _:List Int).length≤_
  split
  ·have:=Jt1fm (us:=(scanC b.code).1) (ds:=(scanC b.code).2) (v:=b.term.a);omega
  ·omega
inductive LiveAt (f:Func) (v:Int):Nat→Prop where
 | use (i:Nat) (b:Block) (h:f.blocks[i]?=some b) (hu:usedZ b v=true):LiveAt f v i
 | next (i:Nat) (b:Block) (t:Int) (h:f.blocks[i]?=some b) (ht:t∈succsZ b.term) (hl:LiveAt f v t.toNat) (hd:defAt b v b.code.length=false):LiveAt f v i
structure OkL (f:Func):Prop where
 succ:∀ b∈f.blocks,∀ t∈succsZ b.term,0≤t∧t<f.blocks.length
 bl:f.blocks.length≤1000
 cl:∀ b∈f.blocks,b.code.length≤10000
theorem LiveAt.lt{f:Func}{v:Int}{i:Nat}(h:LiveAt f v i):i<f.blocks.length:=by
 cases h with
 | use _ b h _=>exact (lgS.1 h).1
 | next _ b t h _ _ _=>exact (lgS.1 h).1
theorem LiveAt.closed{f:Func}{v:Int}{S:Nat→Prop}(hu:∀ i b,f.blocks[i]?=some b→usedZ b v=true→S i) (hn:∀ i b t,f.blocks[i]?=some b→t∈succsZ b.term→S t.toNat→defAt b v b.code.length=false→S i) {i:Nat} (h:LiveAt f v i):S i:=by
 induction h with
 | use i b h h2=>exact hu i b h h2
 | next i b t h h2 _ h3 ih=>exact hn i b t h h2 ih h3
end Go.AE
set_option maxRecDepth 4000
namespace Go.AE
open Go
section
variable {P:Program} {p:Nums}
theorem Jtoi(A:All P p)(v:Int)(us ds:List Int)(ru rd:Nat):Jt51 P p.Yfy [AI v,.ptr 0 0,.ptr 1 0] [.mem [.mp rd],.mem [.mp ru],.glob rd (mpK ds),.glob ru (mpK us)]
  fun o H'=>o=.ret (.tup [])∧H'=[.mem [.mp rd],.mem [.mp ru],.glob rd (mpK ds),.glob ru (mpK (useS us ds v))]:=by
 refine A.Yfy.run rfl fun R hR=>?_
 obtain ⟨T,hT⟩:∃ T,T=useS us ds v:=⟨_,rfl⟩
 rw [←hT] at hR
 unfold useS at hT
 (simp (maxSteps:=9^6)[Jtik])
 refine Jt2i (b:=2) (by rfl) (by rfl) (by rfl) ?_
 by_cases hv:v∈ds
 ·rw [if_pos hv] at hT
  (simp (maxSteps:=9^6)[hv])
  exact hR _ _ (Fin_wk (.tup []) (.tup []) [.mem [.mp rd],.mem [.mp ru],.glob rd (mpK ds),.glob ru (mpK us)] (by rfl) (by (exact wkA)) ⟨rfl,by rw [hT]⟩)
 ·rw [if_neg hv] at hT
  (simp (maxSteps:=9^6)[hv])
  refine Jt31 (b:=3) (by rfl) (by rfl) (by rfl) (by rfl) ?_
  (simp (maxSteps:=9^6)[])
  exact hR _ _ (Fin_wk (.tup []) (.tup []) [.mem [.mp rd],.mem [.mp ru],.glob rd (mpK ds),.glob ru (mpK (madd us v))] (by rfl) (by (exact wkA)) ⟨rfl,by rw [hT]⟩)
set_option maxHeartbeats 1000000 in
theorem Jtov(A:All P p)(b:Block)(h0:b.code.length≤1000000):Jt51 P p.Yfq [b.av] [] fun o H'=>∃ r:Nat × Nat,True∧o=.ret (.tup [.mp r.1,.mp r.2])∧H'=[.dead,.dead,.dead,.glob r.1 (mpK (scanZ b).1),.glob r.2 (mpK (scanZ b).2)]:=by
 refine A.Yfq.run rfl fun R hR=>?_
 obtain ⟨T,hT⟩:∃ T,T=scanZ b:=⟨_,rfl⟩
 rw [←hT] at hR
 unfold scanZ at hT
 have c1:=fun v us ds ru rd=>Jtoi A v us ds ru rd
 have ok1:=A.Yfy.ok
 have hsc:=fun k i=>@Jt17k b.code k i
 obtain ⟨F,hF⟩:∃ F:Nat→List Int × List Int,F=fun k=>scanC (b.code.take k):=⟨_,rfl⟩
 have eF:∀ k,scanC (b.code.take k)=F k:=fun k=>by rw [hF]
 have F0:F 0=([],[]):=by rw [hF];rfl
 have Fn:scanC b.code=F b.code.length:=by rw [hF];simp
 simp only [eF] at hsc
 rw [Fn] at hT
 clear hF eF Fn
 obtain ⟨code,kind,ta,to,els⟩:=b
 simp only at h0 hsc hT
 (simp (maxSteps:=9^6)[Jtij,Block.av])
 refine Jt2k fun ru=>?_
 (simp (maxSteps:=9^6)[])
 refine Jt2k fun rd=>?_
 (simp (maxSteps:=9^6)[])
 refine Jtf (fun k:Nat=>⟨[(15,AI k),(14,AI (code.length:Int)),(13,.d (.sl (code.map Instr.row))),(4,.fn (.func p.Yfy) [] [.ptr 2 0,.ptr 1 0]),(3,.ptr 2 0),(2,.ptr 1 0),(1,.ptr 0 0)],
  [.mem [.d (.sl (code.map Instr.row)),AI kind,AI ta,AI to,AI els],.mem [.mp ru],.mem [.mp rd],.glob ru (mpK (F k).1),.glob rd (mpK (F k).2)]⟩) (fun k=>k≤code.length) (fun k=>code.length-k) 0 (by simp) (by rw [F0];(exact wkA)) ?_
 intro k hk N hN
 (simp (maxSteps:=9^6)[])
 by_cases h2:k<code.length
 ·have h2i:(k:Int)<(code.length:Int):=by omega
  have hb:code[k]?=some code[k]:=by simp [h2]
  obtain ⟨i,hi⟩:∃ i,i=code[k]:=⟨_,rfl⟩
  rw [←hi] at hb
  have hs:=hsc k i hb
  have hw:=Jt1le (k:=k) (by omega)
  obtain ⟨⟨us,ds⟩,hu⟩:∃ x,x=F k:=⟨_,rfl⟩
  rw [←hu] at hs ⊢
  have next:∀ st',Wk 0 st' ⟨[(15,AI ((k+1:Nat):Int)),(14,AI (code.length:Int)),(13,.d (.sl (code.map Instr.row))),(4,.fn (.func p.Yfy) [] [.ptr 2 0,.ptr 1 0]),(3,.ptr 2 0),(2,.ptr 1 0),(1,.ptr 0 0)],
    [.mem [.d (.sl (code.map Instr.row)),AI kind,AI ta,AI to,AI els],.mem [.mp ru],.mem [.mp rd],.glob ru (mpK (scanI (us,ds) i).1),.glob rd (mpK (scanI (us,ds) i).2)]⟩→N st':=fun st' h=>hN st' (k+1) h2 (by rw [hs];exact h) (by omega)
  unfold scanI at next
  simp only at next
  (simp (maxSteps:=9^6)[h2,lgM,hb,Instr.row])
  simp only [←hi]
  (refine Jt17 (Jtv3 A i.op) (by rfl) (by rfl) ?_)
  rw [Jt17r,Jt17p,Jt17q]
  (simp (maxSteps:=9^6)[])
  have w1:∀ st' us' ds',us'=(if usesB i.op=true then useS (if usesA i.op=true then useS us ds i.a else us) ds i.b else (if usesA i.op=true then useS us ds i.a else us))→ds'=(if usesD i.op=true then madd ds i.d else ds)→
    Wk 0 st' ⟨[(15,AI ((k+1:Nat):Int)),(14,AI (code.length:Int)),(13,.d (.sl (code.map Instr.row))),(4,.fn (.func p.Yfy) [] [.ptr 2 0,.ptr 1 0]),(3,.ptr 2 0),(2,.ptr 1 0),(1,.ptr 0 0)],
    [.mem [.d (.sl (code.map Instr.row)),AI kind,AI ta,AI to,AI els],.mem [.mp ru],.mem [.mp rd],.glob ru (mpK us'),.glob rd (mpK ds')]⟩→N st':=fun st' us' ds' e1 e2 h=>next st' (by rw [←e1,←e2];exact h)
  clear next
  cases hA:usesA i.op with
  | true=>
   rw [hA] at w1
   (simp (maxSteps:=9^6)[])
   refine ⟨ok1,Jt19 [2,1,4,3] (c1 i.a us ds ru rd) (by decide) (by rfl) (by rfl) (by rfl) (by rfl) (by rfl) (by rfl) ?_⟩
   obtain ⟨u1,hu1⟩:∃ x,x=useS us ds i.a:=⟨_,rfl⟩
   simp only [←hu1,if_true] at w1 ⊢
   (simp (maxSteps:=9^6)[])
   cases hB:usesB i.op with
   | true=>
    rw [hB] at w1
    (simp (maxSteps:=9^6)[])
    refine ⟨ok1,Jt19 [2,1,4,3] (c1 i.b u1 ds ru rd) (by decide) (by rfl) (by rfl) (by rfl) (by rfl) (by rfl) (by rfl) ?_⟩
    obtain ⟨u2,hu2⟩:∃ x,x=useS u1 ds i.b:=⟨_,rfl⟩
    simp only [←hu2,if_true] at w1 ⊢
    (simp (maxSteps:=9^6)[])
    cases hD:usesD i.op with
    | true=>
     rw [hD] at w1
     (simp (maxSteps:=9^6)[])
     refine Jt31 (b:=4) (by rfl) (by rfl) (by rfl) (by rfl) ?_
     (simp (maxSteps:=9^6)[hw])
     exact w1 _ u2 (madd ds i.d) rfl (by simp) (by (exact wkA))
    | false=>
     rw [hD] at w1
     (simp (maxSteps:=9^6)[hw])
     exact w1 _ u2 (ds) rfl (by simp) (by (exact wkA))
   | false=>
    rw [hB] at w1
    obtain ⟨u2,hu2⟩:∃ x,x=u1:=⟨_,rfl⟩
    simp only [←hu2,Bool.false_eq_true,if_false] at w1 ⊢
    (simp (maxSteps:=9^6)[])
    cases hD:usesD i.op with
    | true=>
     rw [hD] at w1
     (simp (maxSteps:=9^6)[])
     refine Jt31 (b:=4) (by rfl) (by rfl) (by rfl) (by rfl) ?_
     (simp (maxSteps:=9^6)[hw])
     exact w1 _ u2 (madd ds i.d) rfl (by simp) (by (exact wkA))
    | false=>
     rw [hD] at w1
     (simp (maxSteps:=9^6)[hw])
     exact w1 _ u2 (ds) rfl (by simp) (by (exact wkA))
  | false=>
   rw [hA] at w1
   obtain ⟨u1,hu1⟩:∃ x,x=us:=⟨_,rfl⟩
   simp only [←hu1,Bool.false_eq_true,if_false] at w1 ⊢
   (simp (maxSteps:=9^6)[])
   cases hB:usesB i.op with
   | true=>
    rw [hB] at w1
    (simp (maxSteps:=9^6)[])
    refine ⟨ok1,Jt19 [2,1,4,3] (c1 i.b u1 ds ru rd) (by decide) (by rfl) (by rfl) (by rfl) (by rfl) (by rfl) (by rfl) ?_⟩
    obtain ⟨u2,hu2⟩:∃ x,x=useS u1 ds i.b:=⟨_,rfl⟩
    simp only [←hu2,if_true] at w1 ⊢
    (simp (maxSteps:=9^6)[])
    cases hD:usesD i.op with
    | true=>
     rw [hD] at w1
     (simp (maxSteps:=9^6)[])
     refine Jt31 (b:=4) (by rfl) (by rfl) (by rfl) (by rfl) ?_
     (simp (maxSteps:=9^6)[hw])
     exact w1 _ u2 (madd ds i.d) rfl (by simp) (by (exact wkA))
    | false=>
     rw [hD] at w1
     (simp (maxSteps:=9^6)[hw])
     exact w1 _ u2 (ds) rfl (by simp) (by (exact wkA))
   | false=>
    rw [hB] at w1
    obtain ⟨u2,hu2⟩:∃ x,x=u1:=⟨_,rfl⟩
    simp only [←hu2,Bool.false_eq_true,if_false] at w1 ⊢
    (simp (maxSteps:=9^6)[])
    cases hD:usesD i.op with
    | true=>
     rw [hD] at w1
     (simp (maxSteps:=9^6)[])
     refine Jt31 (b:=4) (by rfl) (by rfl) (by rfl) (by rfl) ?_
     (simp (maxSteps:=9^6)[hw])
     exact w1 _ u2 (madd ds i.d) rfl (by simp) (by (exact wkA))
    | false=>
     rw [hD] at w1
     (simp (maxSteps:=9^6)[hw])
     exact w1 _ u2 (ds) rfl (by simp) (by (exact wkA))
 ·have ek:k=code.length:=by omega
  subst ek
  (simp (maxSteps:=9^6)[])
  obtain ⟨⟨us,ds⟩,hu⟩:∃ x,x=F code.length:=⟨_,rfl⟩
  rw [←hu] at hT ⊢
  simp only at hT
  by_cases hk1:kind=1
  ·rw [if_neg (fun h=>h hk1)] at hT
   (simp (maxSteps:=9^6)[hk1])
   exact hR _ _ (Jt58 (.tup [.mp ru,.mp rd]) (.tup [.mp ru,.mp rd]) [.dead,.dead,.dead,.glob ru (mpK us),.glob rd (mpK ds)] (by rfl) (by (exact wkA)) ⟨(ru,rd),trivial,rfl,by rw [hT]⟩)
  ·rw [if_pos hk1] at hT
   (simp (maxSteps:=9^6)[hk1])
   refine ⟨ok1,Jt19 [2,1,4,3] (c1 ta us ds ru rd) (by decide) (by rfl) (by rfl) (by rfl) (by rfl) (by rfl) (by rfl) ?_⟩
   obtain ⟨u1,hu1⟩:∃ x,x=useS us ds ta:=⟨_,rfl⟩
   simp only [←hu1] at hT ⊢
   (simp (maxSteps:=9^6)[])
   exact hR _ _ (Jt58 (.tup [.mp ru,.mp rd]) (.tup [.mp ru,.mp rd]) [.dead,.dead,.dead,.glob ru (mpK u1),.glob rd (mpK ds)] (by rfl) (by (exact wkA)) ⟨(ru,rd),trivial,rfl,by rw [hT]⟩)
end
end Go.AE
namespace Go.AE
open Go Go.Proofs Go.Shelf Go.Sort Go.RowKit
def sortI(l:List Int):List Int:=l.mergeSort fun x y=>decide (x≤y)
theorem Jt1a6(l:List Int):(sortI l).length=l.length:=by simp [sortI]
theorem Jt16h(l:List Int):(Jt16d (l.map intRow)).length=l.length:=by
 rw [Jt16l (e:=1) (Jt16t fun _=>rfl)];simp
theorem Jt16g:∀ (l:List Int) (j:Nat),(Jt16d (l.map intRow))[j]?=l[j]?.map AI:=by
 intro l
 induction l with
 | nil=>intro j;simp [Jt16d]
 | cons x l ih=>
  intro j
  cases j with
  | zero=>rfl
  | succ j=>simpa [Jt16d,intRow] using ih j
section
variable {P:Program} {ρ:Ren}
theorem Jt1a5(L:Lays.n189 P ρ)(arg:AV)(l:List Int)(hv:∀ (g:Gh) (w:World) (v0:Value),Rel g.F g.φ w arg.erase v0→∃ r cap,g.φ 0=some r∧v0=.slice (some ⟨r,0,none⟩) l.length cap) (hlen:l.length<4611686018427387904) :
  Jt51 P (ρ.f 189) [arg] [.mem (Jt16d (l.map intRow))] fun o H'=>o=.ret (.tup [])∧H'=[.mem (Jt16d ((sortI l).map intRow))]:=by
 intro g vs w hsz hs
 obtain ⟨vs⟩:=vs
 obtain ⟨v0,rfl⟩:∃ a,vs=[a]:=by
  match vs,hsz with
  | [a],_=>exact ⟨a,rfl⟩
 have e0:Rel g.F g.φ w arg.erase v0:=hs.env 0 _ rfl
 obtain ⟨r,cap,hφ,rfl⟩:=hv g w v0 e0
 obtain ⟨cl,te,hc,hcs,hcell⟩:=hs.mem 0 _ r rfl hφ
 have hF:=(hs.lt 0 r hφ).2.1
 have hrl:=(hs.lt 0 r hφ).1
 rw [Jt16h] at hcs
 have hH:Holds (Value.int .i64) w r 0 l.toArray:=by
  intro j hj
  have hj':j<l.length:=by simpa using hj
  obtain ⟨_,u,hu,hrel⟩:=hcell j (AI l[j]) (by rw [Jt16g];simp [hj'])
  cases hrel with
  | d _ _ hp=>
  cases hp with
  | int k m=>
  constructor
  ·simp [World.cell?,hc,hu,hj']
  ·simp [World.frozen?,hc]
 have:=Any.slices_Sort_int L r 0 cap l w hH hrl hlen
 refine Calls.mono this ?_
 rintro e w' ⟨rfl,n,os,hw⟩
 obtain ⟨d,hd⟩:∃ d,d=sortI l:=⟨_,rfl⟩
 have hdl:d.length=l.length:=by rw [hd,Jt1a6]
 have hw:w'=grow (putRow (Value.int .i64) (Sort.ahead w n) r 0 d.toArray) os:=by rw [hw,hd];rfl
 have hheap:w'.heap=(w.heap.modify r (onCells (putCells (Value.int .i64) 0 d.toArray)))++os:=by rw [hw];rfl
 have hother:∀ r',r'<w.heap.size→r'≠r→w'.heap[r']?=w.heap[r']?:=by
  intro r' h1 h2
  rw [hheap,Array.getElem?_append]
  simp only [Array.size_modify,h1,if_true,Array.getElem?_modify]
  rw [if_neg (Ne.symm h2)]
 have hsize:w.heap.size≤w'.heap.size:=by rw [hheap];simp
 have hpsz:(putCells (Value.int .i64) 0 d.toArray cl).size=cl.size:=by simp [putCells]
 have hr':w'.heap[r]?=some (.cells (putCells (Value.int .i64) 0 d.toArray cl) te (0,0)):=by
  rw [hheap,Array.getElem?_append]
  simp only [Array.size_modify,hrl,if_true,Array.getElem?_modify,if_true]
  rw [hc];rfl
 have hno:∀ (env:List (Nat × AV)) (cells:List D) b j e rows,AP ⟨env,[.mem (cells.map AV.d)]⟩ (.cell b j)≠some (.own e rows):=by
  intro env cells b j e rows h
  simp only [AP] at h
  cases b with
  | zero=>
   simp only [List.getElem?_cons_zero] at h
   rw [lgM] at h
   cases hx:cells[j]? with
   | none=>rw [hx] at h;cases h
   | some d=>rw [hx] at h;cases h
  | succ b=>simp at h
 have hno':∀ p e rows,AP ⟨[(0,.tup [])],[.mem (Jt16d (d.map intRow))]⟩ p≠some (.own e rows):=by
  intro p e rows h
  cases p with
  | tmp t=>simp only [AP,get] at h;split at h<;>cases h
  | cell b j=>exact hno _ _ _ _ _ _ h
 have hb0:∀ b r',g.φ b=some r'→b=0:=fun b r' h=>by have:=(hs.lt b r' h).2.2;simp at this;exact this
 refine ⟨.ret (.tup []),[.mem (Jt16d (d.map intRow))],g,.tuple #[],⟨rfl,by rw [hd]⟩,rfl,?_,?_,fun _ _ _ h=>h,by simp,?_⟩
 ·refine { size:=by simp,env:=?_,inj:=hs.inj,lt:=?_,dom:=?_,mem:=?_,iter:=?_,glob:=?_,own:=?_,excl:=?_,apart:=?_,view:=?_}
  ·intro t x hx
   simp only [get] at hx
   split at hx
   ·rename_i h;subst h;injection hx with hx;subst hx
    exact .tup [] [] rfl fun j x u h=>by simp at h
   ·cases hx
  ·intro b r' h
   obtain ⟨h1,h2,h3⟩:=hs.lt b r' h
   exact ⟨by omega,h2,by simpa using h3⟩
  ·intro b k h hk
   cases b with
   | zero=>exact ⟨r,hφ⟩
   | succ b=>simp at h
  ·intro b cells r' h hr2
   have hb:=hb0 b r' hr2
   subst hb
   rw [hφ] at hr2;injection hr2 with hr2;subst hr2
   simp at h;subst h
   refine ⟨_,te,hr',?_,?_⟩
   ·rw [Jt16h,hdl];simp [putCells];exact hcs
   ·intro j x hx
    rw [Jt16g] at hx
    cases hdj:d[j]? with
    | none=>rw [hdj] at hx;cases hx
    | some n=>
     rw [hdj] at hx;injection hx with hx;subst hx
     have hj:=(lgS.1 hdj).1
     refine ⟨rfl,.int .i64 n,?_,.d _ _ (.int _ _)⟩
     have hjc:j<cl.size:=by omega
     have hn:d[j]=n:=(lgS.1 hdj).2
     simp [putCells,Array.getElem?_mapIdx,hjc,hj,hn]
  ·intro b s pos r' h _
   cases b with
   | zero=>simp at h
   | succ b=>simp at h
  ·intro b s pos r' h _
   cases b with
   | zero=>simp at h
   | succ b=>simp at h
  ·intro p e rows v h;exact absurd h (hno' p e rows)
  ·rintro p p' r' ⟨e,rows,_,h,_⟩;exact absurd h (hno' p e rows)
  ·rintro p r' b ⟨e,rows,_,h,_⟩;exact absurd h (hno' p e rows)
  ·intro t org e rows h
   simp only [get] at h
   split at h<;>cases h
 ·refine ⟨by rw [hw];rfl,by rw [hw];rfl,by rw [hw];rfl,hsize,?_,?_⟩
  ·intro r' h1 h2
   refine ⟨hother r' h1 ?_,rfl⟩
   rintro rfl;exact h2 (.inl ⟨0,hφ⟩)
  ·refine ⟨fun _ _=>Nat.le_refl _,?_,fun q=>?_⟩
   rotate_left
   ·by_cases hq:q=r
    ·subst hq;rw [Jtcw hc,Jtcw hr'];exact Nat.le_of_eq hpsz.symm
    ·by_cases hql:q<w.heap.size
     ·rw [Jtcx (hother q hql hq)];exact Nat.le_refl _
     ·have:w.heap[q]?=none:=Array.getElem?_eq_none (by omega)
      simp [csize,this]
   intro r' j u hj hu
   have hne:r'≠r:=by rintro rfl;omega
   have hlt:=World.block_lt_of_cell? w ⟨r',j,none⟩ hu
   have:=hother r' hlt hne
   simp only [World.cell?] at hu ⊢
   rw [this];exact hu
 ·rintro r' (⟨b,hb⟩ | ⟨p,e,rows,_,h,_⟩)
  ·exact .inl (.inl ⟨b,hb⟩)
  ·exact absurd h (hno' p e rows)
structure SortIOk (P:Program) (p:Nums):Prop where
 some:∀ l:List Int,l≠[]→l.length<1000000000→Jt51 P p.Yf10 [.hsl 0 0 1 l.length] [.mem (Jt16d (l.map intRow))] fun o H'=>o=.ret (.tup [])∧H'=[.mem (Jt16d ((sortI l).map intRow))]
 none:Jt51 P p.Yf10 [.hsl0 0 1] [.mem []] fun o H'=>o=.ret (.tup [])∧H'=[.mem []]
theorem SortIOk.of(L:Lays.n189 P ρ)(p:Nums)(h:p.Yf10=ρ.f 189):SortIOk P p:=by
 refine ⟨fun l hl h0=>?_,?_⟩
 ·rw [h]
  refine Jt1a5 L _ l (fun g w v0 hr=>?_) (by omega)
  have hr:Rel g.F g.φ w (.hsl 0 0 1 l.length) v0:=hr
  have hn:l.length≠0:=by simpa using hl
  cases hr with
  | hsl _ _ _ _ r cap a hφ hcap ha _=>
  have ha:=ha hn;subst ha
  exact ⟨r,cap,hφ,rfl⟩
 ·rw [h]
  have e:Jt16d ((sortI []).map intRow)=[]:=by simp [sortI,Jt16d]
  have:=Jt1a5 L (.hsl0 0 1) [] (fun g w v0 hr=>by
   have hr:Rel g.F g.φ w (.hsl0 0 1) v0:=hr
   cases hr with
   | hsl0 _ _ r cap hφ _=>exact ⟨r,cap,hφ,rfl⟩) (by simp)
  rw [e] at this
  exact this
end
end Go.AE
