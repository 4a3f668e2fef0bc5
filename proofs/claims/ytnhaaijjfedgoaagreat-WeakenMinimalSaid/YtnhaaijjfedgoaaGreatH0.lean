/- A part of the proof. -/
import Derived.Orders
import Derived.Laws.AppendOwn
import Derived.Laws.OwnMore
import Derived.Laws.MakeOwn
import Derived.DeepKeys
import Derived.WalkKit
import Derived.Laws.Cover4
import Derived.Laws.BytesString
import Derived.Lib.Strings
import Derived.Laws.StructEq
set_option linter.unusedVariables false
set_option linter.unusedSimpArgs false
namespace Go.AE
theorem lgS {α : Type _} {l : List α} {i : Nat} {a : α} : l[i]? = some a ↔ ∃ h : i < l.length, l[i] = a := List.getElem?_eq_some_iff
theorem lgE {α : Type _} {l : List α} {i : Nat} (h : i < l.length) : l[i]? = some l[i] := List.getElem?_eq_getElem h
theorem lmG {α : Type _} {l : List α} {i : Nat} {a : α} (e : l[i]? = some a) : a ∈ l := List.mem_of_getElem? e
theorem lgM {α β : Type _} {f : α → β} {l : List α} {i : Nat} : (l.map f)[i]? = Option.map f l[i]? := List.getElem?_map
theorem lgA {α : Type _} {a b : List α} {i : Nat} (h : i < a.length) : (a ++ b)[i]? = a[i]? := List.getElem?_append_left h
theorem omS {α β : Type _} {x : Option α} {f : α → β} {b : β} : x.map f = some b ↔ ∃ a, x = some a ∧ f a = b := Option.map_eq_some_iff
inductive D where
 | int (k:IntKind) (n:Int)
 | bool (b:Bool)
 | str (s:List UInt8)
 | sl (rows:List (List D))
 deriving Inhabited,Repr
inductive Place where
 | tmp (t:Nat)
 | cell (b j:Nat)
 deriving DecidableEq,Repr
inductive AV where
 | d (x:D)
 | nils
 | nile
 | own (esz:Nat) (rows:List (List D))
 | view (org:Place) (esz:Nat) (rows:List (List D))
 | ptr (b off:Nat)
 | nilp
 | rptr (cells:List D)
 | agg (cells:List AV)
 | tup (vs:List AV)
 | fn (f:Fn) (first caps:List AV)
 | nilfn
 | hsl (b off esz len:Nat)
 | iface (t:Nat) (v:AV)
 | nilif
 | mp (r:Nat)
 | nilm
 | hsl0 (b esz:Nat)
 deriving Inhabited,Repr
def AV.erase:AV→AV
 | .own _ rows=>.d (.sl rows)
 | .view _ _ rows=>.d (.sl rows)
 | x=>x
inductive Blk where
 | mem (cells:List AV)
 | iter (s:List UInt8) (pos:Nat)
 | glob (r:Nat) (o:Obj)
 | dead
 deriving Inhabited
def get:List (Nat × AV)→Nat→Option AV
 | [],_=>none
 | (s,x)::r,t=>if s=t then some x else get r t
structure ASt where
 env:List (Nat × AV)
 H:List Blk
structure Gh where
 φ:Nat→Option Nat
 F:Nat→Nat
def Jtah(w:World)(ad:Addr)(vs:List Value):Prop:=∀ j u,vs[j]?=some u→w.cell? (ad.add j)=some u
def Jtg4(F:Nat→Nat)(ad:Addr)(n:Nat):Prop:=∀ j,j<n→ad.off+j<F ad.block
inductive PRel (F:Nat→Nat) (w:World):D→Value→Prop where
 | int (k:IntKind) (n:Int):PRel F w (.int k n) (.int k n)
 | bool (b:Bool):PRel F w (.bool b) (.bool b)
 | str (s:List UInt8):PRel F w (.str s) (.string ⟨s.toArray⟩)
 | nil (a:Option Addr) (cap:Nat):PRel F w (.sl []) (.slice a 0 cap)
 | sl (rows:List (List D)) (ad:Addr) (cap esz:Nat) (vs:List Value) (hesz:∀ r∈rows,r.length=esz) (hlen:vs.length=rows.length*esz)
   (hcap:rows.length≤cap) (hfix:Jtg4 F ad vs.length) (hc:Jtah w ad vs)
   (hr:∀ (j:Nat) (x:D) (u:Value),rows.flatten[j]?=some x→vs[j]?=some u→PRel F w x u):PRel F w (.sl rows) (.slice (some ad) rows.length cap)
def csize(w:World)(r:Nat):Nat:=match w.heap[r]? with | some (.cells c _ _)=>c.size | _=>0
theorem Jtcw{w:World}{r:Nat}{c:Array Value}{e:TypeId}{fr:Nat × Nat}(h:w.heap[r]?=some (.cells c e fr)):csize w r=c.size:=by simp [csize,h]
theorem Jtcx{w w':World}{r:Nat}(h:w'.heap[r]?=w.heap[r]?):csize w' r=csize w r:=by simp [csize,h]
theorem Jtcv{w w':World}(h:∀ r,r<w.heap.size→w'.heap[r]?=w.heap[r]?) (r:Nat):csize w r≤csize w' r:=by
 by_cases hr:r<w.heap.size
 ·rw [Jtcx (h r hr)];exact Nat.le_refl _
 ·have:w.heap[r]?=none:=Array.getElem?_eq_none (by omega)
  simp [csize,this]
inductive Rel (F:Nat→Nat) (φ:Nat→Option Nat) (w:World):AV→Value→Prop where
 | d (x:D) (v:Value) (h:PRel F w x v):Rel F φ w (.d x) v
 | nils:Rel F φ w .nils (.slice none 0 0)
 | nile (a:Option Addr):Rel F φ w .nile (.slice a 0 0)
 | ptr (b off r:Nat) (h:φ b=some r):Rel F φ w (.ptr b off) (.pointer (some ⟨r,off,none⟩))
 | nilp:Rel F φ w .nilp (.pointer none)
 | rptr (cells:List D) (ad:Addr) (vs:List Value) (hlen:vs.length=cells.length) (hfix:Jtg4 F ad vs.length) (hc:Jtah w ad vs)
   (hr:∀ (j:Nat) (x:D) (u:Value),cells[j]?=some x→vs[j]?=some u→PRel F w x u):Rel F φ w (.rptr cells) (.pointer (some ad))
 | agg (as:List AV) (vs:List Value) (hlen:vs.length=as.length) (hr:∀ (j:Nat) (x:AV) (u:Value),as[j]?=some x→vs[j]?=some u→Rel F φ w x u):Rel F φ w (.agg as) (.agg ⟨vs⟩)
 | tup (as:List AV) (vs:List Value) (hlen:vs.length=as.length) (hr:∀ (j:Nat) (x:AV) (u:Value),as[j]?=some x→vs[j]?=some u→Rel F φ w x u):Rel F φ w (.tup as) (.tuple ⟨vs⟩)
 | fn (f:Fn) (as bs:List AV) (vs us:List Value) (hlen:vs.length=as.length) (hr:∀ (j:Nat) (x:AV) (u:Value),as[j]?=some x→vs[j]?=some u→Rel F φ w x u)
   (hlen':us.length=bs.length) (hr':∀ (j:Nat) (x:AV) (u:Value),bs[j]?=some x→us[j]?=some u→Rel F φ w x u):Rel F φ w (.fn f as bs) (.func f ⟨vs⟩ ⟨us⟩)
 | nilfn:Rel F φ w .nilfn .nilFunc
 | hsl (b off esz len r cap:Nat) (a:Option Addr) (h:φ b=some r) (hcap:len≤cap) (ha:len≠0→a=some ⟨r,off,none⟩) (hroom:len≠0→off+cap*esz≤csize w r):Rel F φ w (.hsl b off esz len) (.slice a len cap)
 | iface (t:Nat) (x:AV) (u:Value) (h:Rel F φ w x u):Rel F φ w (.iface t x) (.iface t u)
 | nilif:Rel F φ w .nilif .nilIface
 | mp (r:Nat):Rel F φ w (.mp r) (.map (some r))
 | nilm:Rel F φ w .nilm (.map none)
 | hsl0 (b esz r cap:Nat) (h:φ b=some r) (hroom:cap*esz≤csize w r):Rel F φ w (.hsl0 b esz) (.slice (some ⟨r,0,none⟩) 0 cap)
structure Stab (F:Nat→Nat) (w:World) (F':Nat→Nat) (w':World):Prop where
 le:∀ r,r<w.heap.size→F r≤F' r
 cell:∀ r j u,j<F r→w.cell? ⟨r,j,none⟩=some u→w'.cell? ⟨r,j,none⟩=some u
 size:∀ r,csize w r≤csize w' r
theorem Jtae{w:World}{ad:Addr}{j:Nat}{u:Value}(h:w.cell? (ad.add j)=some u):ad.add j=⟨ad.block,ad.off+j,none⟩∧ad.block<w.heap.size:=by
 have hb:=World.block_lt_of_cell? w (ad.add j) h
 have hbl:(ad.add j).block=ad.block:=by unfold Addr.add;split<;>rfl
 refine ⟨?_,by rw [hbl] at hb;exact hb⟩
 unfold Addr.add at h ⊢
 split
 ·rename_i hj
  subst hj
  simp only [if_true] at h
  obtain ⟨b,o,s⟩:=ad
  cases s with
  | none=>rfl
  | some s=>
   unfold World.cell? at h
   split at h<;>simp_all
 ·rfl
theorem Jtah.stab{F F':Nat→Nat}{w w':World}{ad:Addr}{vs:List Value}(hs:Stab F w F' w')(hf:Jtg4 F ad vs.length)(hc:Jtah w ad vs):
  Jtah w' ad vs:=by
 intro j u hu
 have h:=hc j u hu
 have hj:j<vs.length:=(lgS.1 hu).1
 obtain ⟨he,_⟩:=Jtae h
 rw [he] at h ⊢
 exact hs.cell _ _ _ (hf j hj) h
theorem Jtg4.stab{F F':Nat→Nat}{w w':World}{ad:Addr}{vs:List Value}(hs:Stab F w F' w')(hf:Jtg4 F ad vs.length)(hc:Jtah w ad vs):
  Jtg4 F' ad vs.length:=by
 intro j hj
 have h:=hc j vs[j] (by simp [hj])
 exact Nat.lt_of_lt_of_le (hf j hj) (hs.le _ (Jtae h).2)
theorem PRel.stab{F F':Nat→Nat}{w w':World}(hs:Stab F w F' w'){x:D}{v:Value}(h:PRel F w x v):PRel F' w' x v:=by
 induction h with
 | int k n=>exact .int k n
 | bool b=>exact .bool b
 | str s=>exact .str s
 | nil a cap=>exact .nil a cap
 | sl rows ad cap esz vs hesz hlen hcap hfix hc hr ih=>exact .sl rows ad cap esz vs hesz hlen hcap (hfix.stab hs hc) (hc.stab hs hfix) ih
theorem Rel.stab{F F':Nat→Nat}{φ φ':Nat→Option Nat}{w w':World}(hs:Stab F w F' w')(hφ:∀ b r,φ b=some r→φ' b=some r){x:AV}{v:Value}
  (h:Rel F φ w x v):Rel F' φ' w' x v:=by
 induction h with
 | d x v h=>exact .d x v (h.stab hs)
 | nils=>exact .nils
 | nile a=>exact .nile a
 | ptr b off r h=>exact .ptr b off r (hφ _ _ h)
 | nilp=>exact .nilp
 | rptr cells ad vs hlen hfix hc hr=>exact .rptr cells ad vs hlen (hfix.stab hs hc) (hc.stab hs hfix) fun j x u hx hu=>(hr j x u hx hu).stab hs
 | agg as vs hlen hr ih=>exact .agg as vs hlen ih
 | tup as vs hlen hr ih=>exact .tup as vs hlen ih
 | fn f as bs vs us hlen hr hlen' hr' ih ih'=>exact .fn f as bs vs us hlen ih hlen' ih'
 | nilfn=>exact .nilfn
 | hsl b off esz len r cap a h hcap ha hroom=>exact .hsl b off esz len r cap a (hφ _ _ h) hcap ha fun h0=>Nat.le_trans (hroom h0) (hs.size r)
 | iface t x u h ih=>exact .iface t x u ih
 | nilif=>exact .nilif
 | mp r=>exact .mp r
 | nilm=>exact .nilm
 | hsl0 b esz r cap h hroom=>exact .hsl0 b esz r cap (hφ _ _ h) (Nat.le_trans hroom (hs.size r))
theorem Stab.refl(F:Nat→Nat)(w:World):Stab F w F w:=⟨fun _ _=>Nat.le_refl _,fun _ _ _ _ h=>h,fun _=>Nat.le_refl _⟩
theorem Stab.trans{F F1 F2:Nat→Nat}{w w1 w2:World}(h:Stab F w F1 w1)(h1:Stab F1 w1 F2 w2)(hz:w.heap.size≤w1.heap.size):Stab F w F2 w2:=
 ⟨fun r hr=>Nat.le_trans (h.le r hr) (h1.le r (by omega)),fun r j u hj hu=>h1.cell r j u (Nat.lt_of_lt_of_le hj (h.le r (World.block_lt_of_cell? w ⟨r,j,none⟩ hu))) (h.cell r j u hj hu),fun r=>Nat.le_trans (h.size r) (h1.size r)⟩
def AP(st:ASt):Place→Option AV
 | .tmp t=>get st.env t
 | .cell b j=>match st.H[b]? with | some (.mem cells)=>cells[j]? | _=>none
def RP(φ:Nat→Option Nat)(a:Act)(w:World):Place→Option Value
 | .tmp t=>some (a.tmps.getD t undef)
 | .cell b j=>(φ b).bind fun r=>w.cell? ⟨r,j,none⟩
def Owner(st:ASt)(φ:Nat→Option Nat)(a:Act)(w:World)(p:Place)(r:Nat):Prop:=
 ∃ esz rows v,AP st p=some (.own esz rows)∧RP φ a w p=some v∧∃ n cap,v=.slice (some ⟨r,0,none⟩) n cap
def AV.leaf:AV→Bool
 | .agg _ | .tup _=>false
 | _=>true
def OwnAt(F:Nat→Nat)(w:World)(esz:Nat)(rows:List (List D)) (v:Value):Prop:=
 (v=.slice none 0 0∧rows=[])∨∃ r cap c e,v=.slice (some ⟨r,0,none⟩) rows.length cap∧w.heap[r]?=some (.cells c e (0,0))∧F r=rows.length*esz∧rows.length≤cap∧cap≤maxLen∧
  c.size=cap*esz∧(∀ x∈rows,x.length=esz)
structure Sim (N:Nat) (st:ASt) (g:Gh) (a:Act) (w:World):Prop where
 size:N≤a.tmps.size
 env:∀ t x,get st.env t=some x→Rel g.F g.φ w x.erase (a.tmps.getD t undef)
 inj:∀ b b' r,g.φ b=some r→g.φ b'=some r→b=b'
 lt:∀ b r,g.φ b=some r→r<w.heap.size∧g.F r=0∧b<st.H.length
 dom:∀ b k,st.H[b]?=some k→k≠.dead→∃ r,g.φ b=some r
 mem:∀ b cells r,st.H[b]?=some (.mem cells)→g.φ b=some r→∃ c e,w.heap[r]?=some (.cells c e (0,0))∧cells.length≤c.size∧
  ∀ (j:Nat) (x:AV),cells[j]?=some x→x.leaf=true∧∃ u,c[j]?=some u∧Rel g.F g.φ w x.erase u
 iter:∀ b s pos r,st.H[b]?=some (.iter s pos)→g.φ b=some r→w.heap[r]?=some (.stringIter ⟨s.toArray⟩ pos)
 glob:∀ b r0 o r,st.H[b]?=some (.glob r0 o)→g.φ b=some r→r=r0∧w.heap[r]?=some o
 own:∀ p esz rows v,AP st p=some (.own esz rows)→RP g.φ a w p=some v→OwnAt g.F w esz rows v
 excl:∀ p p' r,Owner st g.φ a w p r→Owner st g.φ a w p' r→p=p'
 apart:∀ p r b,Owner st g.φ a w p r→g.φ b≠some r
 view:∀ t org esz rows,get st.env t=some (.view org esz rows)→AP st org=some (.own esz rows)∧RP g.φ a w org=some (a.tmps.getD t undef)
def Mine(st:ASt)(g:Gh)(a:Act)(w:World)(r:Nat):Prop:=(∃ b,g.φ b=some r)∨∃ p,Owner st g.φ a w p r
inductive AOut where
 | ret (x:AV)
 | pan (x:AV)
def AOut.val:AOut→AV
 | .ret x=>x
 | .pan x=>x
def AOut.ending(v:Value):AOut→Ending
 | .ret _=>.returned v
 | .pan _=>.panicked [{ v,recovered:=false}]
structure Tr (O:Nat→Prop) (g:Gh) (w:World) (g':Gh) (w':World):Prop where
 os:w'.os=w.os
 tape:w'.tape=w.tape
 output:w'.output=w.output
 size:w.heap.size≤w'.heap.size
 other:∀ r,r<w.heap.size→¬ O r→w'.heap[r]?=w.heap[r]?∧g'.F r=g.F r
 stab:Stab g.F w g'.F w'
theorem Tr.refl(O:Nat→Prop)(g:Gh)(w:World):Tr O g w g w:=⟨rfl,rfl,rfl,Nat.le_refl _,fun _ _ _=>⟨rfl,rfl⟩,Stab.refl _ _⟩
theorem Tr.trans{O O1:Nat→Prop}{g g1 g2:Gh}{w w1 w2:World}(h:Tr O g w g1 w1)(h1:Tr O1 g1 w1 g2 w2)(hO:∀ r,O1 r→O r∨w.heap.size≤r):Tr O g w g2 w2:=
 ⟨h1.os.trans h.os,h1.tape.trans h.tape,h1.output.trans h.output,Nat.le_trans h.size h1.size,fun r hr hn=>by
  have h2:=h.other r hr hn
  have h3:=h1.other r (Nat.lt_of_lt_of_le hr h.size) (fun ho=>(hO r ho).elim hn (fun hle=>by omega))
  exact ⟨h3.1.trans h2.1,h3.2.trans h2.2⟩,h.stab.trans h1.stab h.size⟩
theorem Tr.mono{O O1:Nat→Prop}{g g1:Gh}{w w1:World}(h:Tr O g w g1 w1)(hO:∀ r,O r→O1 r):Tr O1 g w g1 w1:=
 ⟨h.os,h.tape,h.output,h.size,fun r hr hn=>h.other r hr fun ho=>hn (hO r ho),h.stab⟩
def enum:Nat→List AV→List (Nat × AV)
 | _,[]=>[]
 | n,x::xs=>(n,x)::enum (n+1) xs
def Jt51(P:Program)(f:Nat)(args:List AV)(H:List Blk)(Q:AOut→List Blk→Prop):Prop:=
 ∀ (g:Gh) (vs:Array Value) (w:World),vs.size=args.length→Sim args.length ⟨enum 0 args,H⟩ g ⟨vs,[]⟩ w→
  Calls P f vs w fun e w'=>∃ o H' g' v,Q o H'∧e=AOut.ending v o∧Sim 1 ⟨[(0,o.val)],H'⟩ g' ⟨#[v],[]⟩ w'∧Tr (Mine ⟨enum 0 args,H⟩ g ⟨vs,[]⟩ w) g w g' w'∧
   (∀ b r,b<H.length→g.φ b=some r→g'.φ b=some r)∧H.length≤H'.length∧
   (∀ r,Mine ⟨[(0,o.val)],H'⟩ g' ⟨#[v],[]⟩ w' r→Mine ⟨enum 0 args,H⟩ g ⟨vs,[]⟩ w r∨w.heap.size≤r)
theorem Jt51.mono{P:Program}{f:Nat}{args:List AV}{H:List Blk}{Q Q':AOut→List Blk→Prop}(h:Jt51 P f args H Q)(hq:∀ o H',Q o H'→Q' o H'):
  Jt51 P f args H Q':=fun g vs w hs hsim=>(h g vs w hs hsim).mono fun _ _ ⟨o,H',g',v,q,rest⟩=>⟨o,H',g',v,hq _ _ q,rest⟩
end Go.AE
namespace Go.AE
inductive Opd where
 | t (i:Nat)
 | c (x:AV)
 deriving Inhabited,Repr
inductive LK where
 | int | bool | str
 deriving DecidableEq,Inhabited,Repr
inductive MO where
 | mk
 | set (x k v:Opd)
 | del (x k:Opd)
 | get (x k:Opd)
 | len (x:Opd)
 | rng (x:Opd)
 | nxt (x:Opd)
 | ent (x:Opd)
 | mks (esz bytes:Nat) (z:List AV) (l c:Opd)
 deriving Inhabited,Repr
inductive AO where
 | mov (x:Opd)
 | asg (x:Opd)
 | take (x:Opd)
 | rng (x:Opd)
 | nxt (x:Opd)
 | pick (c a b:Opd)
 | box (x:Opd)
 | alloc (z:List AV)
 | build (z:List AV) (parts:List (Nat × Nat × Opd))
 | bslice (esz len:Nat) (z:List D) (parts:List (Nat × Opd))
 | load (n:Option Nat) (x:Opd)
 | store (n:Nat) (x v:Opd)
 | storeq (n:Nat) (x v:Opd) (ls:List (Nat × Nat))
 | pan (x:Opd)
 | mkif (t:Nat) (x:Opd)
 | isnif (neg:Bool) (x:Opd)
 | tas (t:Nat) (x:Opd)
 | nilck (x:Opd)
 | bin (op:BinOp) (x y:Opd)
 | eqs (neg:Bool) (ks:List LK) (x y:Opd)
 | eqb (neg:Bool) (x y:Opd)
 | un (op:UnOp) (x:Opd)
 | conv (k:IntKind) (x:Opd)
 | runeS (x:Opd)
 | runesS (x:Opd)
 | bytesS (x:Opd)
 | faddr (off:Nat) (x:Opd)
 | fld (off:Nat) (n:Option Nat) (x:Opd)
 | iaddr (esz:Nat) (x i:Opd)
 | iaddrA (len esz:Nat) (x i:Opd)
 | ixA (len esz:Nat) (n:Option Nat) (x i:Opd)
 | ixS (x i:Opd)
 | slc (esz:Nat) (x:Opd) (lo hi:Option Opd)
 | slcS (x:Opd) (lo hi:Option Opd)
 | slc0 (x:Opd)
 | isnil (neg:Bool) (x:Opd)
 | ext (x:Opd) (i:Nat)
 | len (x:Opd)
 | lenS (x:Opd)
 | mx (x y:Opd)
 | mn (x y:Opd)
 | mkfn (f:Fn) (first caps:List Opd)
 | app (esz bytes:Nat) (x y:Opd)
 | appq (esz bytes:Nat) (x y:Opd) (i:Nat)
 | mkslice (esz bytes:Nat) (z:List D) (l c:Opd)
 | clr (esz:Nat) (z:List D) (x:Opd)
 | cpy (esz:Nat) (x y:Opd)
 | call (f:Nat) (args:List Opd)
 | callv (x:Opd) (args:List Opd)
 | mo (m:MO)
 deriving Inhabited,Repr
structure IOp where
 dst:Option Nat
 io:AO
 guard:Option (Nat × Bool):=none
 q:Bool:=false
 deriving Inhabited,Repr
inductive AT where
 | done
 | step (o:IOp) (t:AT)
 | alt (a b:AT)
 deriving Inhabited,Repr
inductive IC where
 | skip
 | region (ops:List IOp) (kill:List Nat)
 | seq (a b:IC)
 | cond (c:Opd) (a b:IC)
 | block (id:Nat) (c:IC)
 | loop (c:IC)
 | exit (id:Nat)
 | ret
 | cut
 | tree (t:AT)
 | jump (id:Nat) (a b:IC)
 deriving Inhabited,Repr
def gB:Nat:=1000000
def ev (env:List (Nat × AV)):Opd→Option AV
 | .t i=>get env i
 | .c x=>some x
def evr (env:List (Nat × AV)) (x:Opd):Option AV:=(ev env x).map AV.erase
def evs (env:List (Nat × AV)):List Opd→Option (List AV)
 | []=>some []
 | x::xs=>match evr env x,evs env xs with
  | some y,some ys=>some (y::ys)
  | _,_=>none
def AV.toD:AV→Option D
 | .d x=>some x
 | .nils=>some (.sl [])
 | .nile=>some (.sl [])
 | _=>none
def toDs:List AV→Option (List D)
 | []=>some []
 | x::xs=>match x.erase.toD,toDs xs with
  | some y,some ys=>some (y::ys)
  | _,_=>none
def AV.cells:AV→List AV
 | .agg as=>as
 | x=>[x.erase]
def spl{α:Type}(cs:List α)(off:Nat)(xs:List α):List α:=cs.take off++xs++cs.drop (off+xs.length)
def AV.unview:AV→AV
 | .view _ _ rows=>.d (.sl rows)
 | x=>x
def unview:List (Nat × AV)→List (Nat × AV)
 | []=>[]
 | (t,x)::r=>(t,x.unview)::unview r
def kill(ks:List Nat):List (Nat × AV)→List (Nat × AV)
 | []=>[]
 | (t,x)::r=>if ks.contains t then kill ks r else (t,x)::kill ks r
def binD:BinOp→D→D→Option D
 | .add,.int k a,.int k' b=>if k=k' then some (.int k (k.wrap (a+b))) else none
 | .sub,.int k a,.int k' b=>if k=k' then some (.int k (k.wrap (a-b))) else none
 | .mul,.int k a,.int k' b=>if k=k' then some (.int k (k.wrap (a*b))) else none
 | .quo,.int k a,.int k' b=>if k=k' then if b=0 then none else some (.int k (k.wrap (a.tdiv b))) else none
 | .rem,.int k a,.int k' b=>if k=k' then if b=0 then none else some (.int k (a.tmod b)) else none
 | .and,.int k a,.int k' b=>if k=k' then some (.int k (bits .and k a b)) else none
 | .or,.int k a,.int k' b=>if k=k' then some (.int k (bits .or k a b)) else none
 | .xor,.int k a,.int k' b=>if k=k' then some (.int k (bits .xor k a b)) else none
 | .shl,.int k a,.int _ b=>if b<0 then none else some (.int k (k.wrap (a*2 ^ min b.toNat k.bits)))
 | .shr,.int k a,.int _ b=>if b<0 then none else some (.int k (a.fdiv (2 ^ min b.toNat k.bits)))
 | .eql,.int k a,.int k' b=>if k=k' then some (.bool (a==b)) else none
 | .neq,.int k a,.int k' b=>if k=k' then some (.bool (a != b)) else none
 | .lss,.int k a,.int k' b=>if k=k' then some (.bool (decide (a<b))) else none
 | .leq,.int k a,.int k' b=>if k=k' then some (.bool (decide (a≤b))) else none
 | .gtr,.int k a,.int k' b=>if k=k' then some (.bool (decide (a>b))) else none
 | .geq,.int k a,.int k' b=>if k=k' then some (.bool (decide (a≥b))) else none
 | .eql,.str a,.str b=>some (.bool (a==b))
 | .neq,.str a,.str b=>some (.bool (a != b))
 | .add,.str a,.str b=>if a.length+b.length≤9223372036854775807 then some (.str (a++b)) else none
 | _,_,_=>none
def unD:UnOp→D→Option D
 | .neg,.int k n=>some (.int k (k.wrap (0-n)))
 | .xor,.int k n=>some (.int k (bits .xor k (if k.signed then -1 else k.max) n))
 | .not,.bool b=>some (.bool !b)
 | _,_=>none
def encL(n:Int):List UInt8:=(Utf8.encode n).data.toList
def intsOf(k:IntKind):List (List D)→Option (List Int)
 | []=>some []
 | [.int k' n]::r=>if k=k' then (intsOf k r).map (n::·) else none
 | _=>none
def strOf(k:IntKind)(f:List Int→List UInt8):Option AV→Option AV
 | some (.d (.sl rows))=>(intsOf k rows).map fun ns=>.d (.str (f ns))
 | some .nils=>some (.d (.str []))
 | some .nile=>some (.d (.str []))
 | _=>none
def eqD:List LK→List AV→List AV→Option Bool
 | [],[],[]=>some true
 | .int::ks,.d (.int k a)::r,.d (.int k' b)::s=>if k=k' then (eqD ks r s).map (a==b&&·) else none
 | .bool::ks,.d (.bool a)::r,.d (.bool b)::s=>(eqD ks r s).map (a==b&&·)
 | .str::ks,.d (.str a)::r,.d (.str b)::s=>(eqD ks r s).map (a==b&&·)
 | _,_,_=>none
def asIx (env:List (Nat × AV)) (x:Opd):Option Int:=
 match evr env x with
 | some (.d (.int _ n))=>some n
 | _=>none
def bnds (env:List (Nat × AV)) (n:Nat) (lo hi:Option Opd):Option (Nat × Nat):=
 match (match lo with | none=>some (0:Int) | some x=>asIx env x),(match hi with | none=>some (n:Int) | some x=>asIx env x) with
 | some l,some h=>if 0≤l∧l≤h∧h≤n then some (l.toNat,h.toNat) else none
 | _,_=>none
def place(z:List AV)(env:List (Nat × AV)):List (Nat × Nat × Opd)→Option (List AV)
 | []=>some z
 | (off,n,x)::r=>match evr env x with
  | some y=>if y.cells.length=n∧off+n≤z.length then place (spl z off y.cells) env r else none
  | none=>none
def Jtxq (rows:List (List D)) (esz:Nat) (env:List (Nat × AV)):List (Nat × Opd)→Option (List (List D))
 | []=>some rows
 | (i,x)::r=>match evr env x with
  | some y=>match toDs y.cells with
   | some row=>if row.length=esz∧i<rows.length then Jtxq (rows.set i row) esz env r else none
   | none=>none
  | none=>none
def partV(as:List AV)(off:Nat):Option Nat→Option AV
 | none=>(as[off]?).map AV.erase
 | some n=>if off+n≤as.length then some (.agg ((as.drop off).take n)) else none
def opV(st:ASt):AO→Option AV
 | .mov (.t i)=>match get st.env i with
  | some (.own e rows)=>some (.view (.tmp i) e rows)
  | r=>r
 | .mov (.c x)=>some x.erase
 | .asg x=>match ev st.env x with
  | some (.own ..)=>none
  | some y=>some y.erase
  | none=>none
 | .pick c a b=>match evr st.env c with
  | some (.d (.bool c))=>if c=true then evr st.env a else evr st.env b
  | _=>none
 | .build z parts=>(place z st.env parts).map .agg
 | .load n x=>match evr st.env x with
  | some (.ptr b off)=>match st.H[b]? with
   | some (.mem cells)=>match n with
    | none=>match cells[off]? with
     | some (.own e rows)=>some (.view (.cell b off) e rows)
     | some y=>some y.erase
     | none=>none
    | some n=>if off+n≤cells.length then some (.agg (((cells.drop off).take n).map AV.erase)) else none
   | _=>none
  | some (.rptr cells)=>match n with
   | none=>(cells[0]?).map .d
   | some n=>if n≤cells.length then some (.agg ((cells.take n).map .d)) else none
  | _=>none
 | .nilck x=>match evr st.env x with
  | some (.ptr b off)=>some (.ptr b off)
  | some (.rptr cells)=>some (.rptr cells)
  | some (.fn (.func f) as bs)=>some (.fn (.func f) as bs)
  | _=>none
 | .bin op x y=>match evr st.env x,evr st.env y with
  | some (.d a),some (.d b)=>(binD op a b).map .d
  | _,_=>none
 | .eqs neg ks x y=>match evr st.env x,evr st.env y with
  | some (.agg as),some (.agg bs)=>(eqD ks as bs).map fun b=>.d (.bool (b != neg))
  | _,_=>none
 | .eqb neg x y=>match evr st.env x,evr st.env y with
  | some (.d (.bool a)),some (.d (.bool b))=>some (.d (.bool ((a==b) != neg)))
  | _,_=>none
 | .un op x=>match evr st.env x with
  | some (.d a)=>(unD op a).map .d
  | _=>none
 | .conv k x=>match evr st.env x with
  | some (.d (.int _ n))=>some (.d (.int k (k.wrap n)))
  | _=>none
 | .runeS x=>match evr st.env x with
  | some (.d (.int _ n))=>some (.d (.str (encL n)))
  | _=>none
 | .runesS x=>strOf .i32 (fun ns=>ns.flatMap encL) (evr st.env x)
 | .bytesS x=>strOf .u8 (fun ns=>ns.map fun n=>UInt8.ofNat n.toNat) (evr st.env x)
 | .faddr off x=>match evr st.env x with
  | some (.ptr b o)=>some (.ptr b (o+off))
  | some (.rptr cells)=>some (.rptr (cells.drop off))
  | _=>none
 | .fld off n x=>match evr st.env x with
  | some (.agg as)=>partV as off n
  | _=>none
 | .iaddr esz x i=>match evr st.env x,asIx st.env i with
  | some (.d (.sl rows)),some n=>if 0≤n then match rows[n.toNat]? with
    | some row=>if row.length=esz then some (.rptr row) else none
    | none=>none
   else none
  | some (.hsl b off e len),some n=>if e=esz∧0≤n∧n<len then some (.ptr b (off+n.toNat*esz)) else none
  | _,_=>none
 | .iaddrA len esz x i=>match evr st.env x,asIx st.env i with
  | some (.ptr b off),some n=>if 0≤n∧n<len then some (.ptr b (off+n.toNat*esz)) else none
  | some (.rptr cells),some n=>if 0≤n∧n<len then some (.rptr (cells.drop (n.toNat*esz))) else none
  | _,_=>none
 | .ixA len esz n x i=>match evr st.env x,asIx st.env i with
  | some (.agg as),some ix=>if 0≤ix∧ix<len then partV as (ix.toNat*esz) n else none
  | _,_=>none
 | .ixS x i=>match evr st.env x,asIx st.env i with
  | some (.d (.str s)),some n=>if 0≤n then (s[n.toNat]?).map fun b=>.d (.int .u8 b.toNat) else none
  | _,_=>none
 | .slc esz x lo hi=>match evr st.env x with
  | some (.d (.sl rows))=>match bnds st.env rows.length lo hi with
   | some (l,h)=>if ∀ r∈rows,r.length=esz then some (.d (.sl ((rows.take h).drop l))) else none
   | none=>none
  | some (.hsl b off e len)=>match bnds st.env len lo hi with
   | some (l,h)=>if e=esz then some (.hsl b (off+l*esz) e (h-l)) else none
   | none=>none
  | _=>none
 | .slcS x lo hi=>match evr st.env x with
  | some (.d (.str s))=>match bnds st.env s.length lo hi with
   | some (l,h)=>some (.d (.str ((s.take h).drop l)))
   | none=>none
  | _=>none
 | .slc0 x=>match evr st.env x with
  | some (.d (.sl _))=>some .nile
  | some .nils=>some .nile
  | some .nile=>some .nile
  | _=>none
 | .ext x i=>match evr st.env x with
  | some (.tup vs)=>(vs[i]?).map AV.erase
  | _=>none
 | .len x=>match evr st.env x with
  | some (.d (.sl rows))=>some (.d (.int .i64 rows.length))
  | some (.hsl _ _ _ len)=>some (.d (.int .i64 len))
  | some (.hsl0 _ _)=>some (.d (.int .i64 0))
  | some .nils=>some (.d (.int .i64 0))
  | some .nile=>some (.d (.int .i64 0))
  | _=>none
 | .lenS x=>match evr st.env x with
  | some (.d (.str s))=>some (.d (.int .i64 s.length))
  | _=>none
 | .mx x y=>match evr st.env x,evr st.env y with
  | some (.d (.int k a)),some (.d (.int k' b))=>if k=k' then some (.d (.int k (if b>a then b else a))) else none
  | _,_=>none
 | .mn x y=>match evr st.env x,evr st.env y with
  | some (.d (.int k a)),some (.d (.int k' b))=>if k=k' then some (.d (.int k (if b<a then b else a))) else none
  | _,_=>none
 | .mkfn f first caps=>match evs st.env first,evs st.env caps with
  | some as,some bs=>some (.fn f as bs)
  | _,_=>none
 | .mkif t x=>(evr st.env x).map (.iface t)
 | .isnif neg x=>match evr st.env x with
  | some (.iface _ _)=>some (.d (.bool neg))
  | some .nilif=>some (.d (.bool !neg))
  | _=>none
 | .tas t x=>match evr st.env x with
  | some (.iface t' y)=>if t'=t then some (.tup [y,.d (.bool true)]) else none
  | _=>none
 | _=>none
def opB(st:ASt):AO→Option Blk
 | .box x=>match evr st.env x with
  | some y=>if y.cells.all AV.leaf then some (.mem y.cells) else none
  | none=>none
 | .alloc z=>if z.all AV.leaf then some (.mem z) else none
 | _=>none
def put(dst:Option Nat)(x:AV)(st:ASt):ASt:=
 match dst with
 | none=>st
 | some d=>match get st.env d with
  | some (.own ..)=>⟨(d,x.unview)::unview st.env,st.H⟩
  | _=>⟨(d,x)::st.env,st.H⟩
inductive AExit where
 | normal
 | exit (id:Nat)
 | ret
 | panic (x:AV)
end Go.AE
namespace Go.AE
mutual
def AV.ren(ρ:Nat→Option Nat):AV→Option AV
 | .ptr b off=>match ρ b with | some b'=>some (.ptr b' off) | none=>none
 | .hsl b off e n=>match ρ b with | some b'=>some (.hsl b' off e n) | none=>none
 | .agg as=>match renL ρ as with | some bs=>some (.agg bs) | none=>none
 | .tup as=>match renL ρ as with | some bs=>some (.tup bs) | none=>none
 | .fn f as bs=>match renL ρ as,renL ρ bs with | some cs,some ds=>some (.fn f cs ds) | _,_=>none
 | .iface t x=>match x.ren ρ with | some y=>some (.iface t y) | none=>none
 | .view _ _ rows=>some (.d (.sl rows))
 | .d x=>some (.d x)
 | .nils=>some .nils
 | .nile=>some .nile
 | .own e rows=>some (.own e rows)
 | .nilp=>some .nilp
 | .rptr cells=>some (.rptr cells)
 | .nilfn=>some .nilfn
 | .nilif=>some .nilif
 | .mp r=>some (.mp r)
 | .nilm=>some .nilm
 | .hsl0 b e=>match ρ b with | some b'=>some (.hsl0 b' e) | none=>none
def renL(ρ:Nat→Option Nat):List AV→Option (List AV)
 | []=>some []
 | x::xs=>match x.ren ρ,renL ρ xs with | some y,some ys=>some (y::ys) | _,_=>none
end
def none1:Nat→Option Nat:=fun _=>none
def AV.closed(x:AV):Prop:=x.ren none1=some x
def Blk.ren(ρ:Nat→Option Nat):Blk→Option Blk
 | .mem cells=>match renL ρ cells with | some cs=>some (.mem cs) | none=>none
 | .iter s p=>some (.iter s p)
 | .glob r o=>some (.glob r o)
 | .dead=>some .dead
def renB(ρ:Nat→Option Nat):List Blk→Option (List Blk)
 | []=>some []
 | x::xs=>match x.ren ρ,renB ρ xs with | some y,some ys=>some (y::ys) | _,_=>none
def idx:List Nat→Nat→Option Nat
 | [],_=>none
 | b::bs,c=>if b=c then some 0 else (idx bs c).map (·+1)
def back(bs:List Nat)(n e:Nat)(i:Nat):Option Nat:=
 if i<bs.length then bs[i]? else if i<bs.length+e then some (n+(i-bs.length)) else none
def picks(H:List Blk):List Nat→Option (List Blk)
 | []=>some []
 | b::bs=>match H[b]?,picks H bs with | some k,some ks=>some (k::ks) | _,_=>none
def wback(H:List Blk):List Nat→List Blk→List Blk
 | b::bs,k::ks=>wback (H.set b k) bs ks
 | _,_=>H
inductive WkV (H:List Blk) (n:Nat):AV→AV→Prop where
 | refl (x:AV) (h:x.ren (fun b=>if b<n then some b else none)=some x):WkV H n x x
 | erase (x:AV) (h:x.erase.ren (fun b=>if b<n then some b else none)=some x.erase):WkV H n x x.erase
 | nild:WkV H n .nils (.d (.sl []))
 | nile:WkV H n .nile (.d (.sl []))
 | hsl0 (b e:Nat):WkV H n (.hsl0 b e) (.d (.sl []))
 | hsle (b off e len:Nat) (cells:List AV) (rows:List (List D)) (hb:H[b]?=some (.mem cells)) (hn:n≤b) (hc:((cells.drop off).take (len*e)).map (fun x=>x.erase.toD)=rows.flatten.map some)
   (hl:rows.length=len) (he:∀ r∈rows,r.length=e):WkV H n (.hsl b off e len) (.d (.sl rows))
 | hsl (b off e len:Nat) (cells:List AV) (rows:List (List D)) (hb:H[b]?=some (.mem cells)) (hn:n≤b) (hc:(cells.drop off).take (len*e)=rows.flatten.map AV.d)
   (hl:rows.length=len) (he:∀ r∈rows,r.length=e):WkV H n (.hsl b off e len) (.d (.sl rows))
 | agg (as bs:List AV) (hl:as.length=bs.length) (h:∀ (j:Nat) (x y:AV),as[j]?=some x→bs[j]?=some y→WkV H n x y):WkV H n (.agg as) (.agg bs)
 | tup (as bs:List AV) (hl:as.length=bs.length) (h:∀ (j:Nat) (x y:AV),as[j]?=some x→bs[j]?=some y→WkV H n x y):WkV H n (.tup as) (.tup bs)
def WkT(H:List Blk)(n:Nat)(x y:AV):Prop:=WkV H n x y∨(x=.nils∧∃ e,y=.own e [])
inductive WkB (H:List Blk) (n:Nat):Blk→Blk→Prop where
 | mem (as bs:List AV) (hl:as.length=bs.length) (h:∀ (j:Nat) (x y:AV),as[j]?=some x→bs[j]?=some y→WkT H n x y):WkB H n (.mem as) (.mem bs)
 | iter (s:List UInt8) (p:Nat):WkB H n (.iter s p) (.iter s p)
 | glob (r:Nat) (o:Obj):WkB H n (.glob r o) (.glob r o)
 | dead (b:Blk):WkB H n b .dead
structure Wk (m:Nat) (st st':ASt):Prop where
 env:∀ p∈st'.env,∃ x,get st.env p.1=some x∧WkT st.H st'.H.length x p.2
 len:st'.H.length≤st.H.length
 ge:m≤st'.H.length
 H:∀ (b:Nat) (k:Blk),st'.H[b]?=some k→∃ k0,st.H[b]?=some k0∧WkB st.H st'.H.length k0 k
def sw(i j b:Nat):Nat:=if b=i then j else if b=j then i else b
structure Mv (m i j:Nat) (st st':ASt):Prop where
 mi:m≤i
 mj:m≤j
 li:i<st.H.length
 lj:j<st.H.length
 env:∀ t y,get st'.env t=some y→∃ x,get st.env t=some x∧x.ren (fun b=>some (sw i j b))=some y
 len:st'.H.length=st.H.length
 H:∀ b k,st'.H[b]?=some k→∃ k0,st.H[sw i j b]?=some k0∧k0.ren (fun b=>some (sw i j b))=some k
def dropOwn(org:Place)(rows:List (List D)) (st:ASt):ASt:=
 match org with
 | .tmp t=>⟨(t,.d (.sl rows))::unview st.env,st.H⟩
 | .cell b j=>match st.H[b]? with
  | some (.mem cells)=>⟨unview st.env,st.H.set b (.mem (cells.set j (.d (.sl rows))))⟩
  | _=>st
def Jth4 (env:List (Nat × AV)):Opd→Option (Option Place × Nat × List (List D))
 | .t i=>match get env i with
  | some (.own e rows)=>some (some (.tmp i),e,rows)
  | some (.view org e rows)=>some (some org,e,rows)
  | some .nils=>some (none,0,[])
  | _=>none
 | .c .nils=>some (none,0,[])
 | .c _=>none
def okFn(P:Program)(f:Nat):Bool:=match P.funcs[f]? with
 | some fn => fn.body.isSome && fn.name != "runtime.NumGoroutine"
 | none=>false
def Jt7n (env:List (Nat × AV)) (y:Opd):Option (List (List D)):=
 match evr env y with
 | some (.d (.sl ys))=>some ys
 | some .nils=>some []
 | some .nile=>some []
 | _=>none
section
variable (P:Program)
def AWpure(f:Nat)(args:List AV)(dst:Option Nat)(K:ASt→Prop)(QP:AV→ASt→Prop)(st:ASt):Prop:=
 ∃ cargs,renL none1 args=some cargs∧Jt51 P f cargs [] fun o _=>o.val.closed∧match o with
  | .ret x=>K (put dst x st)
  | .pan x=>QP x st
def Jt3m(f:Nat)(args:List AV)(dst:Option Nat)(K:ASt→Prop)(QP:AV→ASt→Prop)(st:ASt):Prop:=
 ∃ bs:List Nat,bs.Nodup∧∃ cargs Hp Hc,renL (idx bs) args=some cargs∧picks st.H bs=some Hp∧renB (idx bs) Hp=some Hc∧
  Jt51 P f cargs Hc fun o H'=>∃ e Hb y,renB (back bs st.H.length e) (H'.take (bs.length+e))=some Hb∧bs.length+e≤H'.length∧
   o.val.ren (back bs st.H.length e)=some y∧match o with
    | .ret _=>K (put dst y ⟨unview st.env,wback st.H bs (Hb.take bs.length)++Hb.drop bs.length⟩)
    | .pan _=>QP y ⟨unview st.env,wback st.H bs (Hb.take bs.length)++Hb.drop bs.length⟩
def decS(s:List UInt8)(pos:Nat):Nat × Nat:=Utf8.decode ⟨s.toArray⟩ pos
def AWrng(x:Opd)(dst:Option Nat)(K:ASt→Prop)(st:ASt):Prop:=
 match evr st.env x with
 | some (.d (.str s))=>K (put dst (.ptr st.H.length 0) ⟨st.env,st.H++[.iter s 0]⟩)
 | _=>False
def AWnxt(x:Opd)(dst:Option Nat)(K:ASt→Prop)(st:ASt):Prop:=
 match evr st.env x with
 | some (.ptr b 0)=>match st.H[b]? with
  | some (.iter s pos)=>(pos<s.length→K (put dst (.tup [.d (.bool true),.d (.int .i64 pos),.d (.int .i32 (decS s pos).1)]) ⟨unview st.env,st.H.set b (.iter s (pos+(decS s pos).2))⟩))∧(¬ pos<s.length→K (put dst (.tup [.d (.bool false)]) ⟨unview st.env,st.H⟩))
  | _=>False
 | _=>False
def AWdet(f:Nat)(args:List AV)(dst:Option Nat)(K:ASt→Prop)(st:ASt):Prop:=
 ∃ cargs x,renL none1 args=some cargs∧Jt51 P f cargs [] (fun o _=>o=.ret x)∧x.closed∧K (put dst x st)
def AWcall(q:Bool)(f:Nat)(args:List AV)(dst:Option Nat)(K:ASt→Prop)(QP:AV→ASt→Prop)(st:ASt):Prop:=
 AWdet P f args dst K st∨(q=false∧(AWpure P f args dst K QP st∨Jt3m P f args dst K QP st))
def AWval(io:AO)(dst:Option Nat)(K:ASt→Prop)(st:ASt):Prop:=∃ x,opV st io=some x∧K (put dst x st)
def AWapp(esz bytes:Nat)(x y:Opd)(dst:Option Nat)(K:ASt→Prop)(st:ASt):Prop:=
 ∃ org e rows ys,Jth4 st.env x=some (org,e,rows)∧Jt7n st.env y=some ys∧(org.isSome→e=esz)∧(∀ r∈ys,r.length=esz)∧0<esz∧
  rows.length+ys.length≤1000000000000000000∧(rows.length+ys.length)*bytes≤140737488355328∧
  K (put dst (.own esz (rows++ys)) (match org with | some p=>dropOwn p rows st | none=>st))
def AWapp0(esz bytes:Nat)(y:Opd)(dst:Option Nat)(K:ASt→Prop)(st:ASt):Prop:=
 ∃ ys,Jt7n st.env y=some ys∧(∀ r∈ys,r.length=esz)∧0<esz∧ys.length≤1000000000000000000∧ys.length*bytes≤140737488355328∧
  (ys=[]→K (put dst .nile st))∧(ys≠[]→K (put dst (.own esz ys) st))
def Jts(esz bytes:Nat)(y:Opd)(dst:Option Nat)(K:ASt→Prop)(st:ASt):Prop:=
 ∃ ys,Jt7n st.env y=some ys∧(∀ r∈ys,r.length=esz)∧0<esz∧ys.length≤1000000000000000000∧ys.length*bytes≤140737488355328∧ys≠[]∧
  K (put dst (.hsl st.H.length 0 esz ys.length) ⟨st.env,st.H++[.mem (ys.flatten.map AV.d)]⟩)
def AWapph(esz bytes:Nat)(x y:Opd)(dst:Option Nat)(K:ASt→Prop)(st:ASt):Prop:=
 ∃ b len cells ys,evr st.env x=some (.hsl b 0 esz len)∧st.H[b]?=some (.mem cells)∧cells.length=len*esz∧0<len∧cells.all (fun x=>match x with | .own ..=>false | .view ..=>false | _=>true)=true∧Jt7n st.env y=some ys∧(∀ r∈ys,r.length=esz)∧0<esz∧
  ys≠[]∧len+ys.length≤1000000000000000000∧(len+ys.length)*bytes≤140737488355328∧
  K (put dst (.hsl b 0 esz (len+ys.length)) ⟨unview st.env,st.H.set b (.mem (cells++ys.flatten.map AV.d))⟩)∧
  K (put dst (.hsl st.H.length 0 esz (len+ys.length)) ⟨st.env,st.H++[.mem (cells++ys.flatten.map AV.d)]⟩)
def Jtw(esz bytes:Nat)(x y:Opd)(dst:Option Nat)(K:ASt→Prop)(st:ASt):Prop:=
 ∃ b ys,evr st.env x=some (.hsl0 b esz)∧st.H[b]?=some (.mem [])∧Jt7n st.env y=some ys∧(∀ r∈ys,r.length=esz)∧0<esz∧
  ys≠[]∧ys.length≤1000000000000000000∧ys.length*bytes≤140737488355328∧
  K (put dst (.hsl b 0 esz ys.length) ⟨unview st.env,st.H.set b (.mem (ys.flatten.map AV.d))⟩)∧
  K (put dst (.hsl st.H.length 0 esz ys.length) ⟨st.env,st.H++[.mem (ys.flatten.map AV.d)]⟩)
def NV(a i:Nat)(env:List (Nat × AV)):Prop:=∀ t e rows,t≠a→get env t≠some (.view (.tmp i) e rows)
def AWappq(esz bytes a i:Nat)(rows:List (List D)) (y:Opd) (dst:Option Nat) (K:ASt→Prop) (st:ASt):Prop:=
 get st.env i=some (.own esz rows)∧a≠i∧NV a i st.env∧∃ d ys,dst=some d∧d≠a∧d≠i∧(∀ e r,get st.env d≠some (.own e r))∧Jt7n st.env y=some ys∧(∀ r∈ys,r.length=esz)∧0<esz∧
  rows.length+ys.length≤1000000000000000000∧(rows.length+ys.length)*bytes≤140737488355328∧
  K ⟨(d,.own esz (rows++ys))::(a,.d (.sl rows))::(i,.d (.sl rows))::st.env,st.H⟩
def Jt3k(neg:Bool)(x:Opd)(dst:Option Nat)(K:ASt→Prop)(st:ASt):Prop:=
 match evr st.env x with
 | some .nils=>K (put dst (.d (.bool !neg)) st)
 | some .nile=>K (put dst (.d (.bool !neg)) st)∧K (put dst (.d (.bool neg)) st)
 | some (.d (.sl rows))=>(rows=[]→K (put dst (.d (.bool !neg)) st))∧K (put dst (.d (.bool neg)) st)
 | _=>False
def nilsOf:D→AV
 | .sl []=>.nils
 | x=>.d x
def AWmks(esz bytes:Nat)(z:List D)(l c:Opd)(dst:Option Nat)(K:ASt→Prop)(st:ASt):Prop:=
  ∃ l' c':Nat,asIx st.env l=some (l':Int)∧asIx st.env c=some (c':Int)∧c'≤1000000000000000000∧c'*bytes≤140737488355328∧0<esz∧z.length=esz∧
    ((l'=0∧(K (put dst (.own esz []) st)∨K (put dst (.hsl0 st.H.length esz) ⟨st.env,st.H++[.mem []]⟩)))∨
     (l'=c'∧(K (put dst (.hsl st.H.length 0 esz c') ⟨st.env,st.H++[.mem ((List.replicate c' z).flatten.map AV.d)]⟩)∨
       K (put dst (.hsl st.H.length 0 esz c') ⟨st.env,st.H++[.mem (List.replicate c' (z.map nilsOf)).flatten]⟩))))
def AWwr(esz:Nat)(rows:List (List D)) (b off:Nat) (dst:Option Nat) (v:AV) (K:ASt→Prop) (st:ASt):Prop:=
 ∃ cells,st.H[b]?=some (.mem cells)∧off+rows.length*esz≤cells.length∧(∀ r∈rows,r.length=esz)∧
  K (put dst v ⟨unview st.env,st.H.set b (.mem (spl cells off (rows.flatten.map AV.d)))⟩)
def AWclr(esz:Nat)(z:List D)(x:Opd)(dst:Option Nat)(K:ASt→Prop)(st:ASt):Prop:=
 z.length=esz∧0<esz∧match evr st.env x with
  | some (.hsl b off e len)=>e=esz∧0<len∧AWwr esz (List.replicate len z) b off dst (.tup []) K st
  | _=>False
def AWcpy(esz:Nat)(x y:Opd)(dst:Option Nat)(K:ASt→Prop)(st:ASt):Prop:=
 ∃ ys,Jt7n st.env y=some ys∧(∀ r∈ys,r.length=esz)∧match evr st.env x with
  | some (.hsl b off e len)=>e=esz∧ys.length≤len∧(ys=[]→K (put dst (.d (.int .i64 0)) st))∧(ys≠[]→AWwr esz ys b off dst (.d (.int .i64 ys.length)) K st)
  | some (.d (.sl []))=>K (put dst (.d (.int .i64 0)) st)
  | some .nils=>K (put dst (.d (.int .i64 0)) st)
  | some .nile=>K (put dst (.d (.int .i64 0)) st)
  | _=>False
def Jt4q(n:Nat)(x v:Opd)(K:ASt→Prop)(st:ASt):Prop:=
 ∃ b off cells,evr st.env x=some (.ptr b off)∧st.H[b]?=some (.mem cells)∧
  match v,ev st.env v with
  | .t i,some (.own e rows)=>n=1∧off<cells.length∧K ⟨(i,.d (.sl rows))::unview st.env,st.H.set b (.mem (cells.set off (.own e rows)))⟩
  | _,some y=>y.erase.cells.length=n∧off+n≤cells.length∧y.erase.cells.all AV.leaf=true∧K ⟨unview st.env,st.H.set b (.mem (spl cells off y.erase.cells))⟩
  | _,none=>False
def AV.notOwn:AV→Bool
 | .own ..=>false
 | _=>true
def awayL (env:List (Nat × AV)) (b off n:Nat) (p:Nat × Nat):Bool:=
 match evr env (.t p.1) with
 | some (.ptr b' off')=>b' != b||decide (off'+p.2≤off)||decide (off+n≤off')
 | some (.rptr _)=>true
 | _=>false
def Jt4s(n:Nat)(x v:Opd)(ls:List (Nat × Nat)) (K:ASt→Prop) (st:ASt):Prop:=
 ∃ b off cells y,evr st.env x=some (.ptr b off)∧st.H[b]?=some (.mem cells)∧evr st.env v=some y∧y.cells.length=n∧off+n≤cells.length∧y.cells.all AV.leaf=true∧y.cells.all AV.notOwn=true∧
  ((cells.drop off).take n).all AV.notOwn=true∧ls.all (awayL st.env b off n)=true∧K ⟨st.env,st.H.set b (.mem (spl cells off y.cells))⟩
def mpO (es:List (Int × Nat)) (c:Nat):Obj:=.map (es.map fun p=>({ key:=.int .i64 p.1,val:=.bool true,born:=p.2}:MapEntry)).toArray c
def itO(r c:Nat)(seen:List Nat):Obj:=.mapIter (some r) c seen.toArray c
def mputE (es:List (Int × Nat)) (c:Nat) (n:Int):List (Int × Nat):=if n∈es.map Prod.fst then es else es++[(n,c)]
def mputC (es:List (Int × Nat)) (c:Nat) (n:Int):Nat:=if n∈es.map Prod.fst then c else c+1
def AWmo(m:MO)(dst:Option Nat)(K:ASt→Prop)(st:ASt):Prop:=
 match m with
 | .mk=>∀ r,K (put dst (.mp r) ⟨st.env,st.H++[.glob r (mpO [] 0)]⟩)
 | .set x k v=>dst=none∧∃ (r:Nat) (n:Int) (b:Nat) (es:List (Int × Nat)) (c:Nat),evr st.env x=some (.mp r)∧evr st.env k=some (.d (.int .i64 n))∧evr st.env v=some (.d (.bool true))∧st.H[b]?=some (.glob r (mpO es c))∧
   K ⟨unview st.env,st.H.set b (.glob r (mpO (mputE es c n) (mputC es c n)))⟩
 | .del _ _=>False
 | .get x k=>∃ (r:Nat) (n:Int) (b:Nat) (es:List (Int × Nat)) (c:Nat),evr st.env x=some (.mp r)∧evr st.env k=some (.d (.int .i64 n))∧st.H[b]?=some (.glob r (mpO es c))∧K (put dst (.d (.bool (decide (n∈es.map Prod.fst)))) st)
 | .len x=>∃ (r b:Nat) (es:List (Int × Nat)) (c:Nat),evr st.env x=some (.mp r)∧st.H[b]?=some (.glob r (mpO es c))∧K (put dst (.d (.int .i64 es.length)) st)
 | .rng x=>∃ (r b:Nat) (es:List (Int × Nat)) (c:Nat),evr st.env x=some (.mp r)∧st.H[b]?=some (.glob r (mpO es c))∧∀ r',K (put dst (.ptr st.H.length 0) ⟨st.env,st.H++[.glob r' (itO r c [])]⟩)
 | .nxt x=>∃ (bi r' r b:Nat) (es:List (Int × Nat)) (c:Nat) (seen:List Nat),evr st.env x=some (.ptr bi 0)∧st.H[bi]?=some (.glob r' (itO r c seen))∧st.H[b]?=some (.glob r (mpO es c))∧(∀ e∈es,e.2<c)∧
   (∀ e∈es,e.2∉seen→K (put dst (.tup [.d (.bool true),.d (.int .i64 e.1),.d (.bool true)]) ⟨unview st.env,st.H.set bi (.glob r' (itO r c (seen++[e.2])))⟩))∧
   ((∀ e∈es,e.2∈seen)→K (put dst (.tup [.d (.bool false)]) ⟨unview st.env,st.H⟩))
 | .ent x=>∃ (bi r' r b:Nat) (es:List (Int × Nat)) (c:Nat) (seen:List Nat) (e:Int × Nat),evr st.env x=some (.ptr bi 0)∧st.H[bi]?=some (.glob r' (itO r c (seen++[e.2])))∧st.H[b]?=some (.glob r (mpO es c))∧e∈es∧(es.map Prod.snd).Nodup∧
   K (put dst (.tup [.d (.int .i64 e.1),.d (.bool true)]) st)
 | .mks esz bytes z l c=>∃ n:Nat,asIx st.env l=some (n:Int)∧asIx st.env c=some (n:Int)∧n≤1000000000000000000∧n*bytes≤140737488355328∧0<esz∧z.length=esz∧z.all AV.leaf=true∧z.all AV.notOwn=true∧
   K (put dst (.hsl st.H.length 0 esz n) ⟨st.env,st.H++[.mem (List.replicate n z).flatten]⟩)
def AWio(q:Bool)(io:AO)(dst:Option Nat)(K:ASt→Prop)(QP:AV→ASt→Prop)(st:ASt):Prop:=
 match io with
 | .asg (.t i)=>match get st.env i with
  | some (.own e rows)=>q=false∧∃ d,dst=some d∧d≠i∧K ⟨(d,.own e rows)::(i,.d (.sl rows))::unview st.env,st.H⟩
  | _=>AWval (.asg (.t i)) dst K st
 | .take x=>match x with
  | .t i=>(match get st.env i with
   | some (.own e rows)=>q=false∧∃ d,dst=some d∧d≠i∧K ⟨(d,.own e rows)::(i,.d (.sl rows))::unview st.env,st.H⟩
   | some (.view (.tmp j) e rows)=>q=false∧∃ d,dst=some d∧d≠j∧K ⟨(d,.own e rows)::(j,.d (.sl rows))::unview st.env,st.H⟩
   | _=>AWval (.asg (.t i)) dst K st)
  | .c y=>AWval (.asg (.c y)) dst K st
 | .rng x=>q=false∧AWrng x dst K st
 | .nxt x=>q=false∧AWnxt x dst K st
 | .box x=>q=false∧∃ k,opB st (.box x)=some k∧K (put dst (.ptr st.H.length 0) ⟨st.env,st.H++[k]⟩)
 | .alloc z=>∃ k,opB st (.alloc z)=some k∧K (put dst (.ptr st.H.length 0) ⟨st.env,st.H++[k]⟩)
 | .isnil neg x=>q=false∧Jt3k neg x dst K st
 | .bslice esz len z parts=>if len=0 then K (put dst .nile st) else 0<esz∧z.length=esz∧len*esz≤16777216∧∃ rows,Jtxq (List.replicate len z) esz st.env parts=some rows∧K (put dst (.own esz rows) st)
 | .store n x v=>q=false∧Jt4q n x v K st
 | .storeq n x v ls=>q=true∧Jt4s n x v ls K st
 | .pan x=>q=false∧∃ t y,evr st.env x=some (.iface t y)∧QP (.iface t y) st
 | .app esz bytes x y=>match evr st.env x with
  | some .nile=>AWapp0 esz bytes y dst K st∨(q=false∧Jts esz bytes y dst K st)
  | some .nils=>(q=true∧AWapp0 esz bytes y dst K st)∨(q=false∧(AWapp esz bytes x y dst K st∨Jts esz bytes y dst K st))
  | some (.hsl ..)=>q=false∧AWapph esz bytes x y dst K st
  | some (.hsl0 ..)=>q=false∧Jtw esz bytes x y dst K st
  | _=>q=false∧AWapp esz bytes x y dst K st
 | .appq esz bytes x y i=>q=true∧match x with
  | .t a=>(match get st.env a with
   | some (.view (.tmp i') e rows)=>i'=i∧e=esz∧AWappq esz bytes a i rows y dst K st
   | some .nils=>AWapp0 esz bytes y dst K st
   | some .nile=>AWapp0 esz bytes y dst K st
   | _=>False)
  | .c _=>False
 | .mkslice esz bytes z l c=>q=false∧AWmks esz bytes z l c dst K st
 | .clr esz z x=>q=false∧AWclr esz z x dst K st
 | .cpy esz x y=>q=false∧AWcpy esz x y dst K st
 | .call f args=>∃ as,evs st.env args=some as∧AWcall P q f as dst K QP st
 | .callv x args=>∃ f as bs cs,evr st.env x=some (.fn (.func f) as bs)∧okFn P f=true∧evs st.env args=some cs∧AWcall P q f (as++cs++bs) dst K QP st
 | .mo m=>q=false∧AWmo m dst K st
 | io=>AWval io dst K st
def qOk(q:Bool)(dst:Option Nat)(st:ASt):Prop:=
 q=false∨match dst with
  | none=>True
  | some d=>match get st.env d with
   | some (.own ..)=>False
   | _=>True
def AWop(o:IOp)(K:ASt→Prop)(QP:AV→ASt→Prop)(st:ASt):Prop:=
 qOk o.q o.dst st∧match o.guard with
 | none=>AWio P o.q o.io o.dst K QP st
 | some (t,want)=>match get st.env t with
  | some (.d (.bool b))=>(b=want→AWio P o.q o.io o.dst K QP st)∧(b≠want→K (put o.dst (.tup []) st))
  | some (.tup [])=>K (put o.dst (.tup []) st)
  | _=>False
def AWops(QP:AV→ASt→Prop):List IOp→(ASt→Prop)→ASt→Prop
 | [],K=>K
 | o::os,K=>AWop P o (AWops QP os K) QP
def AWT(QP:AV→ASt→Prop):AT→(ASt→Prop)→ASt→Prop
 | .done,K=>K
 | .step o t,K=>AWop P o (AWT QP t K) QP
 | .alt a b,K=>fun st=>AWT QP a K st∧AWT QP b K st
def Jt1dh:List Nat→ASt→ASt
 | [],st=>st
 | _::_,st=>⟨unview st.env,st.H⟩
def AExit.then(next:ASt→Prop)(Q:AExit→ASt→Prop):AExit→ASt→Prop
 | .normal,st=>next st
 | e,st=>Q e st
def AExit.inBlock(id:Nat)(Q:AExit→ASt→Prop):AExit→ASt→Prop
 | .exit i,st=>if i=id then Q .normal st else Q (.exit i) st
 | e,st=>Q e st
def AExit.jump(id:Nat)(J:ASt→Prop)(Q:AExit→ASt→Prop):AExit→ASt→Prop
 | .exit i,st=>if gB≤i then i=id∧J st else Q (.exit i) st
 | e,st=>Q e st
def AW(m:Nat):IC→(AExit→ASt→Prop)→ASt→Prop
 | .skip,Q=>Q .normal
 | .region ops ks,Q=>fun st=>AWops P (fun x st=>Q (.panic x) st) ops (fun st=>Q .normal ⟨unview (kill ks st.env),st.H⟩) (Jt1dh ks st)
 | .seq a b,Q=>AW m a (AExit.then (AW m b Q) Q)
 | .cond c a b,Q=>fun st=>∃ t,evr st.env c=some (.d (.bool t))∧(t=true→AW m a Q st)∧(t=false→AW m b Q st)
 | .block id c,Q=>AW m c (AExit.inBlock id Q)
 | .loop c,Q=>fun st=>∃ (S:Type) (I:S→ASt→Prop) (μ:S→Nat),(∃ s st0,Wk m st st0∧I s st0)∧
   ∀ s st,I s st→AW m c (AExit.then (fun st'=>∃ s' st2,Wk m st' st2∧I s' st2∧μ s'<μ s) Q) st
 | .exit id,Q=>Q (.exit id)
 | .ret,Q=>Q .ret
 | .cut,Q=>fun st=>Q .normal st∨∃ st2,Wk m st st2∧(Q .normal st2∨∃ i j st3 st4,Mv m i j st2 st3∧Wk m st3 st4∧Q .normal st4)
 | .jump id a b,Q=>fun st=>∃ (S:Type) (I:S→ASt→Prop) (μ:S→Nat),AW m a (AExit.jump id (fun st'=>∃ s st2,Wk m st' st2∧I s st2) Q) st∧
   ∀ s st,I s st→AW m b (AExit.jump id (fun st'=>∃ s' st2,Wk m st' st2∧I s' st2∧μ s'<μ s) Q) st
 | .tree t,Q=>fun st=>AWT P (fun _ _=>False) t (fun st=>Q .normal ⟨unview (kill [] st.env),st.H⟩) st
end
end Go.AE
namespace Go.AE
def ofLeaf:Value→Option AV
 | .int k n=>some (.d (.int k n))
 | .bool b=>some (.d (.bool b))
 | .string s=>some (.d (.str s.data.toList))
 | .pointer none=>some .nilp
 | .slice none 0 0=>some .nils
 | .nilFunc=>some .nilfn
 | .nilIface=>some .nilif
 | .map none=>some .nilm
 | _=>none
def Jtuc:List Value→Option (List AV)
 | []=>some []
 | v::vs=>match ofLeaf v,Jtuc vs with | some x,some xs=>some (x::xs) | _,_=>none
def ofVal:Value→Option AV
 | .agg cs=>match Jtuc cs.toList with | some xs=>some (.agg xs) | none=>none
 | v=>ofLeaf v
def cOpd:Operand→Option Opd
 | .tmp t=>some (.t t)
 | .const v=>match ofVal v with | some x=>some (.c x) | none=>none
 | .func f=>some (.c (.fn (.func f) [] []))
 | .global _=>none
def cOpds:List Operand→Option (List Opd)
 | []=>some []
 | x::xs=>match cOpd x,cOpds xs with | some y,some ys=>some (y::ys) | _,_=>none
def cOpt:Option Operand→Option (Option Opd)
 | none=>some none
 | some x=>match cOpd x with | some y=>some (some y) | none=>none
section
variable (P:Program)
def ldN(t:TypeId):Option (Option Nat):=
 match P.underlying t,P.info? t with
 | some (.struct _),some i=>some (some i.size)
 | some (.array _ _),some i=>some (some i.size)
 | some _,some _=>some none
 | _,_=>none
def szOf(t:TypeId):Option Nat:=match P.info? t with | some i=>some i.size | none=>none
def byOf(t:TypeId):Option Nat:=match P.info? t with | some i=>some i.bytes | none=>none
def zeroOf(t:TypeId):Option (List AV):=match P.info? t with
 | some i=>match i.zero with
  | some z=>Jtuc z.cells.toList
  | none=>none
 | none=>none
def zeroD(t:TypeId):Option (List D):=match zeroOf P t with | some z=>toDs z | none=>none
def Jtft(s:TypeId)(f:Nat):Option Field:=match P.underlying s with
 | some (.struct fs)=>fs[f]?
 | _=>none
def Jtxv(t:TypeId):Option (Nat→Option (Nat × Nat)):=match P.underlying t with
 | some (.struct fs)=>match fs.toList.mapM (fun f=>(P.info? f.type).map fun i=>(f.offset,i.size)) with
  | some ps=>some (fun i=>ps.toArray[i]?)
  | none=>none
 | some (.array _ e)=>match P.info? e with
  | some i=>some (fun k=>some (k*i.size,i.size))
  | none=>none
 | _=>none
def flat:Nat→TypeId→Option (List LK)
 | 0,_=>none
 | d+1,t=>match P.underlying t with
  | some (.int _)=>some [.int]
  | some .bool=>some [.bool]
  | some .string=>some [.str]
  | some (.struct fs)=>if P.stoodInHeld t then none else fs.toList.foldlM (fun acc f=>
    if f.name ≠ "_" ∧ f.offset = acc.length then match flat d f.type, szOf P f.type with
     | some n,some m=>if n.length=m then some (acc++n) else none
     | _,_=>none
    else none) []
  | _=>none
def cParts (pl:Nat→Option (Nat × Nat)):List (Nat × Operand)→Option (List (Nat × Nat × Opd))
 | []=>some []
 | (i,x)::r=>match cOpd x,cParts pl r,pl i with
  | some y,some ys,some (off,n)=>some ((off,n,y)::ys)
  | _,_,_=>none
def Jtaa:List (Nat × Operand)→Option (List (Nat × Opd))
 | []=>some []
 | (i,x)::r=>match cOpd x,Jtaa r with | some y,some ys=>some ((i,y)::ys) | _,_=>none
def cmp2(f:Opd→Opd→AO)(x y:Operand):Option AO:=match cOpd x,cOpd y with | some a,some b=>some (f a b) | _,_=>none
def cmp1(f:Opd→AO)(x:Operand):Option AO:=match cOpd x with | some a=>some (f a) | none=>none
def mapOk(k e:TypeId):Bool:=match P.underlying k,P.underlying e,P.info? e with
 | some (.int .i64),some .bool,some i=>(match i.zero with | some (.bool false)=>true | _=>false)
 | _,_,_=>false
def cCall(c:Call):Option AO:=
 match c.callee with
 | .value (.func f)=>match cOpds c.args.toList,P.funcs[f]? with
  | some as,_=>if okFn P f=true then some (.call f as) else none
  | _,_=>none
 | .value x=>match cOpd x,cOpds c.args.toList with | some y,some as=>some (.callv y as) | _,_=>none
 | .builtin .len=>match c.args.toList,c.argTypes.toList with
  | [x],[t]=>match P.underlying t with
   | some (.slice _)=>cmp1 .len x
   | some .string=>cmp1 .lenS x
   | some (.array n _)=>some (.mov (.c (.d (.int .i64 n))))
   | some (.map kt et)=>if mapOk P kt et=true then cmp1 (fun y=>.mo (.len y)) x else none
   | _=>none
  | _,_=>none
 | .builtin .max=>match c.args.toList with
  | [x,y]=>cmp2 .mx x y
  | _=>none
 | .builtin .min=>match c.args.toList with
  | [x,y]=>cmp2 .mn x y
  | _=>none
 | .builtin .clear=>match c.args.toList,c.argTypes.toList with
  | [x],[t]=>match P.underlying t with
   | some (.slice e)=>match szOf P e,zeroD P e with | some n,some z=>cmp1 (.clr n z) x | _,_=>none
   | _=>none
  | _,_=>none
 | .builtin .copy=>match c.args.toList,c.argTypes.toList with
  | [x,y],[t,u]=>if t=u then match P.underlying t with
    | some (.slice e)=>match szOf P e with | some n=>cmp2 (.cpy n) x y | none=>none
    | _=>none
   else none
  | _,_=>none
 | .builtin .append=>match c.args.toList,c.argTypes.toList with
  | [x,y],[t,u]=>if t=u then match P.underlying t with
    | some (.slice e)=>match szOf P e,byOf P e,zeroOf P e with
     | some n,some b,some z=>if z.length=n then cmp2 (.app n b) x y else none
     | _,_,_=>none
    | _=>none
   else none
  | _,_=>none
 | _=>none
def isZ:Option Operand→Bool
 | some (.const (.int _ n))=>n==0
 | _=>false
theorem Jtlp{o:Option Operand}(h:isZ o=true):∃ k,o=some (.const (.int k 0)):=by
 unfold isZ at h
 split at h
 ·rename_i k n;simp at h;subst h;exact ⟨k,rfl⟩
 ·cases h
instance (o:Option Operand):Decidable (o=none):=by cases o<;>simp<;>infer_instance
def cOp:Op→Option AO
 | .move x=>cmp1 .mov x
 | .assign x=>cmp1 .asg x
 | .range t x=>match P.underlying t with
  | some .string=>cmp1 .rng x
  | some (.map k e)=>if mapOk P k e=true then cmp1 (fun y=>.mo (.rng y)) x else none
  | _=>none
 | .next x s=>if s=true then cmp1 .nxt x else cmp1 (fun y=>.mo (.nxt y)) x
 | .entry x=>cmp1 (fun y=>.mo (.ent y)) x
 | .makeMap t none=>match P.underlying t with
  | some (.map k e)=>if mapOk P k e=true then some (.mo .mk) else none
  | _=>none
 | .mapUpdate t m k v=>match P.underlying t,cOpd m,cOpd k,cOpd v with
  | some (.map kt et),some x,some y,some z=>if mapOk P kt et=true then some (.mo (.set x y z)) else none
  | _,_,_,_=>none
 | .lookup t m k false=>match P.underlying t with
  | some (.map kt et)=>if mapOk P kt et=true then cmp2 (fun x y=>.mo (.get x y)) m k else none
  | _=>none
 | .pick c a b=>match cOpd c,cOpd a,cOpd b with | some x,some y,some z=>some (.pick x y z) | _,_,_=>none
 | .alloc t=>match zeroOf P t with | some z=>some (.alloc z) | none=>none
 | .box _ x=>cmp1 .box x
 | .build t ps=>match zeroOf P t,Jtxv P t with
  | some z,some pl=>match cParts pl ps.toList with
   | some qs=>some (.build z qs)
   | none=>none
  | _,_=>none
 | .buildSlice t len ps=>match P.underlying t with
  | some (.slice e)=>match szOf P e,zeroD P e,Jtaa ps.toList with | some n,some z,some qs=>if len=0∧ps.toList.isEmpty=false then none else some (.bslice n len z qs) | _,_,_=>none
  | _=>none
 | .load t x=>match ldN P t with | some n=>cmp1 (.load n) x | none=>none
 | .store t x v=>match szOf P t with | some n=>cmp2 (.store n) x v | none=>none
 | .nilCheck x=>cmp1 .nilck x
 | .binOp op t x y _=>match op,P.underlying t,szOf P t with
  | .eql,some (.slice _),_=>match y with | .const (.slice none 0 0)=>cmp1 (.isnil false) x | _=>none
  | .neq,some (.slice _),_=>match y with | .const (.slice none 0 0)=>cmp1 (.isnil true) x | _=>none
  | .eql,some (.struct _),_=>match flat P 20 t,P.eqGuardType P.depth t with
   | some ks,false=>cmp2 (.eqs false ks) x y
   | _,_=>none
  | .neq,some (.struct _),_=>match flat P 20 t,P.eqGuardType P.depth t with
   | some ks,false=>cmp2 (.eqs true ks) x y
   | _,_=>none
  | .eql,some (.interface _),_=>match y with | .const .nilIface=>cmp1 (.isnif false) x | _=>none
  | .neq,some (.interface _),_=>match y with | .const .nilIface=>cmp1 (.isnif true) x | _=>none
  | .eql,some .bool,_=>cmp2 (.eqb false) x y
  | .neq,some .bool,_=>cmp2 (.eqb true) x y
  | op,some (.int _),_=>cmp2 (.bin op) x y
  | op,some .string,_=>cmp2 (.bin op) x y
  | _,_,_=>none
 | .unOp op _ x=>cmp1 (.un op) x
 | .convert s t x=>match P.underlying s,P.underlying t with
  | some (.int _),some (.int k)=>cmp1 (.conv k) x
  | some (.int _),some .string=>cmp1 .runeS x
  | some (.slice e),some .string=>match P.underlying e with
   | some (.int .i32)=>cmp1 .runesS x
   | some (.int .u8)=>cmp1 .bytesS x
   | _=>none
  | _,_=>none
 | .fieldAddr s x f=>match Jtft P s f with
  | some fd=>match szOf P fd.type with | some n=>if n=0 then none else cmp1 (.faddr fd.offset) x | none=>none
  | none=>none
 | .field s x f=>match Jtft P s f with
  | some fd=>match ldN P fd.type with | some n=>cmp1 (.fld fd.offset n) x | none=>none
  | none=>none
 | .indexAddr t x i=>match P.underlying t with
  | some (.slice e)=>match szOf P e with | some n=>cmp2 (.iaddr n) x i | none=>none
  | some (.array len e)=>match szOf P e with | some n=>cmp2 (.iaddrA len n) x i | none=>none
  | _=>none
 | .index t x i=>match P.underlying t with
  | some (.array len e)=>match szOf P e,ldN P e with | some n,some l=>cmp2 (.ixA len n l) x i | _,_=>none
  | some .string=>cmp2 .ixS x i
  | _=>none
 | .slice t x lo hi none=>match P.underlying t,cOpd x,cOpt lo,cOpt hi with
  | some (.slice e),some y,some l,some h=>match szOf P e with | some n=>some (.slc n y l h) | none=>none
  | some .string,some y,some l,some h=>some (.slcS y l h)
  | _,_,_,_=>none
 | .slice t x lo hi (some m)=>if isZ hi=true∧isZ (some m)=true∧(lo=none∨isZ lo=true) then match P.underlying t with
   | some (.slice e)=>match szOf P e with | some _=>cmp1 .slc0 x | none=>none
   | _=>none
  else none
 | .extract x i=>cmp1 (.ext · i) x
 | .makeFunc fn first caps=>match cOpds first.toList,cOpds caps.toList with | some as,some bs=>some (.mkfn fn as bs) | _,_=>none
 | .makeSlice t l c=>match P.underlying t with
  | some (.slice e)=>match szOf P e,byOf P e,zeroD P e with
   | some n,some b,some z=>cmp2 (.mkslice n b z) l c
   | some n,some b,none=>(match zeroOf P e with | some z=>cmp2 (fun x y=>.mo (.mks n b z x y)) l c | none=>none)
   | _,_,_=>none
  | _=>none
 | .call c=>cCall P c
 | .panic x=>cmp1 .pan x
 | .typeAssert x _ t ok=>if ok=true then match P.underlying t with
   | some (.interface _)=>none
   | some _=>cmp1 (.tas t) x
   | none=>none
  else none
 | .makeInterface t x=>match P.underlying t with
  | some (.interface _)=>none
  | some _=>cmp1 (.mkif t) x
  | none=>none
 | _=>none
def dstOk(N:Nat)(dst:Option Nat)(io:AO):Bool:=
 (match dst with | some d=>decide (d<N) | none=>true)&&(match io with | .store ..=>dst.isNone | _=>true)
def cOper(N:Nat)(ops:Array Oper)(o:Oper):Option IOp:=
 match cOp P o.op with
 | none=>none
 | some io=>
  if dstOk N o.dst io=true then
   match o.guard with
   | none=>some ⟨o.dst,io,none,false⟩
   | some (j,want)=>match (ops[j]?).bind (·.dst) with
    | some t=>some ⟨o.dst,io,some (t,want),false⟩
    | none=>none
  else none
def cOpers(N:Nat)(ops:Array Oper):List Oper→Option (List IOp)
 | []=>some []
 | o::os=>match cOper P N ops o,cOpers N ops os with | some x,some xs=>some (x::xs) | _,_=>none
def Opd.tmps:Opd→List Nat
 | .t i=>[i]
 | .c _=>[]
def Jtv8:Option Opd→List Nat
 | some x=>x.tmps
 | none=>[]
def MO.tmps:MO→List Nat
 | .mk=>[]
 | .set x k v=>x.tmps++k.tmps++v.tmps
 | .del x k | .get x k=>x.tmps++k.tmps
 | .len x | .rng x | .nxt x | .ent x=>x.tmps
 | .mks _ _ _ l c=>l.tmps++c.tmps
def AO.tmps:AO→List Nat
 | .mov x | .asg x | .take x | .rng x | .nxt x | .box x | .load _ x | .nilck x | .un _ x | .conv _ x | .runeS x | .runesS x | .bytesS x | .slc0 x | .isnil _ x | .faddr _ x | .fld _ _ x | .ext x _ | .len x | .lenS x | .clr _ _ x | .pan x | .mkif _ x | .isnif _ x | .tas _ x=>x.tmps
 | .appq _ _ x y i=>x.tmps++y.tmps++[i]
 | .pick c a b=>c.tmps++a.tmps++b.tmps
 | .alloc _=>[]
 | .build _ ps=>ps.flatMap fun p=>p.2.2.tmps
 | .bslice _ _ _ ps=>ps.flatMap fun p=>p.2.tmps
 | .store _ x y | .storeq _ x y _ | .bin _ x y | .eqs _ _ x y | .eqb _ x y | .iaddr _ x y | .iaddrA _ _ x y | .ixA _ _ _ x y | .ixS x y | .mx x y | .mn x y | .app _ _ x y | .mkslice _ _ _ x y | .cpy _ x y=>x.tmps++y.tmps
 | .slc _ x l h | .slcS x l h=>x.tmps++Jtv8 l++Jtv8 h
 | .mkfn _ xs ys=>xs.flatMap Opd.tmps++ys.flatMap Opd.tmps
 | .call _ xs=>xs.flatMap Opd.tmps
 | .callv x xs=>x.tmps++xs.flatMap Opd.tmps
 | .mo m=>m.tmps
def IOp.names(o:IOp):List Nat:=o.io.tmps++(match o.guard with | some (t,_)=>[t] | none=>[])++o.dst.toList
def IOp.writes(o:IOp):List Nat:=o.dst.toList++(match o.io with | .appq _ _ x _ i=>x.tmps++[i] | _=>[])
def quiet(o:IOp):Bool:=
 match o.io with
 | .pan _ | .store .. | .mkslice .. | .box .. | .isnil .. | .clr .. | .cpy .. | .take .. | .rng .. | .nxt .. | .mo ..=>false
 | .load _ (.c _)=>false
 | .appq _ _ x _ _=>o.guard.isNone&&o.dst.isSome&&(match x with | .t _=>true | _=>false)
 | .alloc _=>o.guard.isNone&&o.dst.isSome
 | .storeq _ x _ _=>o.guard.isNone&&o.dst.isNone&&(match x with | .t _=>true | _=>false)
 | _=>true
def Jtll(o:IOp):Bool:=
 match o.io with
 | .alloc _=>true
 | _=>false
def ancs:List Oper→List (List Nat)→List (List Nat)
 | [],acc=>acc
 | o::os,acc=>ancs os (acc++[((o.after.toList.filter (fun e=>Region.binds .any e)).flatMap fun e=>e.on::acc.getD e.on []).eraseDups])
def Jt7u (A:List (List Nat)) (n j:Nat):Bool:=
 (List.range n).all fun i=>if i<j then (A.getD j []).contains i else if j<i then (A.getD i []).contains j else true
def Jtck(x y:IOp):Bool:=x.writes.any (y.names.contains ·)||y.writes.any (x.names.contains ·)
def depOk(ios:List IOp)(A:List (List Nat)):Bool:=
 (List.range ios.length).all fun j=>(List.range j).all fun i=>
  match ios[i]?,ios[j]? with
  | some x,some y=>!Jtck x y||(A.getD j []).contains i
  | _,_=>true
def Jtev(ops:List Oper):Bool:=
 (List.range ops.length).all fun j=>match ops[j]? with
  | some o=>o.after.all fun e=>!Region.binds .any e||decide (e.on<j)
  | none=>true
def Jth8 (A:List (List Nat)) (ios:List IOp):Bool:=
 (List.range ios.length).all fun h=>match ios[h]? with
  | some ⟨_,.appq _ _ x _ i,_,_⟩=>
   ((List.range ios.length).all fun m=>match ios[m]? with
    | some o=>(match o.io with | .appq ..=>m==h | _=>true)&&(!(decide (m<h))||!Jt7u A ios.length m) &&
      (match o.io with | .mov (.t u)=>!(A.getD h []).contains m||((u != i||(match o.dst with | some d=>x.tmps==[d] | none=>true))&&!x.tmps.contains u) | _=>true)
    | none=>true)
  | _=>true
def stqOk (A:List (List Nat)) (ios:List IOp):Bool:=
 (List.range ios.length).all fun h=>match ios[h]? with
  | some ⟨_,.storeq _ _ _ ls,_,_⟩=>
   ((List.range ios.length).all fun m=>match ios[m]? with
    | some o=>(match o.io with
     | .appq ..=>false
     | .alloc _=>Jt7u A ios.length m||(A.getD h []).contains m
     | .storeq ..=>!(decide (h<m))||(A.getD m []).contains h
     | .load k (.t y)=>if m<h then (A.getD h []).contains m||(ls.contains (y,k.getD 1)&&(List.range ios.length).all fun p=>!(decide (m≤p∧p<h))||(match ios[p]? with | some o'=>!(o'.writes.contains y) | none=>true)) else (A.getD m []).contains h
     | _=>true)
    | none=>true)
  | _=>true
def drawOk(ops:List Oper)(ios:List IOp):Bool:=
 let A:=ancs ops []
 stqOk A ios&&Jth8 A ios&&!((List.range ios.length).any fun h=>match ios[h]? with | some ⟨_,.appq ..,_,_⟩=>Jt7u A ios.length h | some ⟨_,.storeq ..,_,_⟩=>Jt7u A ios.length h | _=>false) &&
 Jtev ops&&depOk ios A &&
  ((List.range ops.length).all fun j=>match ios[j]? with
   | some o=>quiet o||Jt7u A ops.length j
   | none=>false) &&
  ((List.range ops.length).filter fun j=>match ios[j]? with
   | some o=>Jtll o&&!Jt7u A ops.length j
   | none=>false).length≤1
def marked (A:List (List Nat)) (n:Nat):Nat→List IOp→List IOp
 | _,[]=>[]
 | j,o::os=>{ o with q:=!Jt7u A n j}::marked A n (j+1) os
def srcOf(ios:List IOp)(a:Nat):Option Nat:=ios.findSome? fun o=>match o with
 | ⟨some d,.mov (.t i),none,_⟩=>if d=a then some i else none
 | _=>none
def Jth9 (A:List (List Nat)) (ios:List IOp):List IOp:=
 (List.range ios.length).filterMap fun j=>(ios[j]?).map fun o=>match o with
  | ⟨some d,.app e b (.t a) y,none,q⟩=>if Jt7u A ios.length j=true then o else (match srcOf ios a with | some i=>⟨some d,.appq e b (.t a) y i,none,q⟩ | none=>o)
  | o=>o
def ldSlot:IOp→Option (Nat × Nat)
 | ⟨_,.load k (.t y),_,_⟩=>some (y,k.getD 1)
 | _=>none
def lsOf (A:List (List Nat)) (ios:List IOp) (j:Nat):List (Nat × Nat):=
 (List.range j).filterMap fun i=>if (A.getD j []).contains i=true then none else (ios[i]?).bind ldSlot
def Jt1dn (A:List (List Nat)) (ios:List IOp):List IOp:=
 (List.range ios.length).filterMap fun j=>(ios[j]?).map fun o=>match o with
  | ⟨none,.store n x v,none,q⟩=>if Jt7u A ios.length j=true then o else ⟨none,.storeq n x v (lsOf A ios j),none,q⟩
  | o=>o
def Jth6(ios:List IOp):Bool:=ios.any fun o=>match o.io with | .appq ..=>true | _=>false
def takeOp(o:IOp):IOp:=match o.io with
 | .asg (.t i)=>{ o with io:=.take (.t i)}
 | _=>o
def takeIf(ks:List Nat)(ios:List IOp):List IOp:=if ks.contains 1=true then ios.map takeOp else ios
def cutIf(ks:List Nat)(r:IC):IC:=if ks.contains 0=true then .seq r .cut else r
def linkO(j:Nat)(o:Oper):Oper:=if j=0 then o else { o with after:=o.after.push ⟨0,.data⟩}
def Jtnm(ops:Array Oper):Array Oper:=(ops.toList.mapIdx linkO).toArray
def Jtlm:Op→Bool
 | .move _=>true
 | _=>false
def noPan(o:IOp):Bool:=match o.io with
 | .pan _ | .call .. | .callv ..=>false
 | _=>true
def Jthc(ops:Array Oper)(jos:List IOp):Bool:=
 Region.noSelect ops&&Region.free .any ops (Array.replicate ops.size false) 0&&(Region.ready .any ops (Array.replicate ops.size false)).contains 0 &&
 (match ops[0]? with | some o=>Jtlm o.op&&o.guard.isNone&&o.dst.isSome | none=>false)&&jos.all noPan
def Jthb(N:Nat)(ks:List Nat)(ops:Array Oper)(draw:Bool):Option IC:=
 if draw=true∧ks.contains 2=true then
  (match cOpers P N (Jtnm ops) (Jtnm ops).toList with
  | some jos=>if Jthc ops jos=true∧drawOk (Jtnm ops).toList jos=true then some (.region (marked (ancs (Jtnm ops).toList []) jos.length 0 jos) []) else none
  | none=>none)
 else none
def Jtln:Op→Bool
 | .move _=>true
 | .fieldAddr ..=>true
 | _=>false
def Jtlo:Op→Bool
 | .move _=>true
 | .fieldAddr ..=>true
 | .indexAddr ..=>true
 | _=>false
def takeOk(tk:Op→Bool)(ops:Array Oper)(listed:Array Bool)(j:Nat):Bool:=
 Region.free .any ops listed j&&(match ops[j]? with | some o=>tk o.op&&o.guard.isNone&&o.dst.isSome | none=>false)
def altL(f:Nat→Option AT):List Nat→Option AT
 | []=>none
 | [j]=>f j
 | j::k::l=>match f j,altL f (k::l) with
  | some a,some b=>some (.alt a b)
  | _,_=>none
def mkTree(tk:Op→Bool)(ops:Array Oper)(jos:List IOp):Nat→Array Bool→Option AT
 | 0,listed=>if (Region.ready .any ops listed).isEmpty=true then some .done else none
 | n+1,listed=>
  if (Region.ready .any ops listed).isEmpty=true then some .done
  else match (Region.ready .any ops listed).find? (takeOk tk ops listed) with
   | some j=>(match jos[j]?,mkTree tk ops jos n (listed.setIfInBounds j true) with | some o,some t=>some (.step o t) | _,_=>none)
   | none=>altL (fun j=>match jos[j]?,mkTree tk ops jos n (listed.setIfInBounds j true) with | some o,some t=>some (.step o t) | _,_=>none) (Region.ready .any ops listed)
def treeIC(N:Nat)(ks:List Nat)(ops:Array Oper)(draw:Bool):Option IC:=
 if draw=true∧ks.contains 3=true∧Region.noSelect ops=true then
  (match cOpers P N ops ops.toList with
  | some jos=>(mkTree Jtln ops jos ops.size (Array.replicate ops.size false)).map .tree
  | none=>none)
 else if draw=true∧ks.contains 4=true∧Region.noSelect ops=true then
  (match cOpers P N ops ops.toList with
  | some jos=>(mkTree Jtlo ops jos ops.size (Array.replicate ops.size false)).map .tree
  | none=>none)
 else none
def specIC(N:Nat)(ks:List Nat)(ops:Array Oper)(draw:Bool):Option IC:=
 match Jthb P N ks ops draw with
 | some r=>some r
 | none=>treeIC P N ks ops draw
def gotos:Code→List Nat
 | .seq a b=>gotos a++gotos b
 | .cond _ a b=>gotos a++gotos b
 | .block _ c=>gotos c
 | .loop c=>gotos c
 | .scope c=>gotos c
 | .goto l=>[l]
 | _=>[]
mutual
def comp(N:Nat)(kills:List (List Nat)):Code→Option IC
 | .skip=>some .skip
 | .region id ops draw=>match specIC P N (kills.getD id []) ops draw with
  | some r=>some (cutIf (kills.getD id []) r)
  | none=>match cOpers P N ops ops.toList with
  | some ios=>if draw=true then
    if Jth6 (Jth9 (ancs ops.toList []) ios)=true∧drawOk ops.toList (Jth9 (ancs ops.toList []) ios)=true then some (cutIf (kills.getD id []) (.region (marked (ancs ops.toList []) (Jth9 (ancs ops.toList []) ios).length 0 (Jth9 (ancs ops.toList []) ios)) [N]))
    else if drawOk ops.toList ios=true then some (cutIf (kills.getD id []) (.region (marked (ancs ops.toList []) ios.length 0 ios) []))
    else if drawOk ops.toList (Jt1dn (ancs ops.toList []) ios)=true then some (cutIf (kills.getD id []) (.region (marked (ancs ops.toList []) (Jt1dn (ancs ops.toList []) ios).length 0 (Jt1dn (ancs ops.toList []) ios)) [])) else none
   else some (cutIf (kills.getD id []) (.region (takeIf (kills.getD id []) ios) []))
  | none=>none
 | .seq a b=>match comp N kills a,comp N kills b with | some x,some y=>some (.seq x y) | _,_=>none
 | .cond c a b=>match cOpd c,comp N kills a,comp N kills b with | some x,some y,some z=>some (.cond x y z) | _,_,_=>none
 | .block id c=>if id<gB then match comp N kills c with | some x=>some (.block id x) | none=>none else none
 | .loop c=>match comp N kills c with | some x=>some (.loop x) | none=>none
 | .scope c=>match (gotos c).find? (fun l=>(findLabel c l).isSome) with
  | none=>comp N kills c
  | some l=>match comp N kills c,restIC N kills c l with | some x,some y=>some (.jump (gB+l) x y) | _,_=>none
 | .label _=>some .skip
 | .exit id=>if id<gB then some (.exit id) else none
 | .goto l=>some (.exit (gB+l))
 | .ret=>some .ret
 | _=>none
def restIC(N:Nat)(kills:List (List Nat)):Code→Nat→Option IC
 | .seq a b,l=>match restIC N kills a l with
  | some r=>match comp N kills b with | some y=>some (.seq r y) | none=>none
  | none=>match findLabel a l with | some _=>none | none=>restIC N kills b l
 | .label l',l=>if l'==l then some .skip else none
 | _,_=>none
end
end
section inv
variable {F:Nat→Nat} {φ:Nat→Option Nat} {w:World}
theorem Rel.d_inv{x:D}{v:Value}(h:Rel F φ w (.d x) v):PRel F w x v:=by cases h;assumption
theorem PRel.int_inv{k:IntKind}{n:Int}{v:Value}(h:PRel F w (.int k n) v):v=.int k n:=by cases h;rfl
theorem PRel.bool_inv{b:Bool}{v:Value}(h:PRel F w (.bool b) v):v=.bool b:=by cases h;rfl
theorem PRel.str_inv{s:List UInt8}{v:Value}(h:PRel F w (.str s) v):v=.string ⟨s.toArray⟩:=by cases h;rfl
theorem Rel.int_inv{k:IntKind}{n:Int}{v:Value}(h:Rel F φ w (.d (.int k n)) v):v=.int k n:=h.d_inv.int_inv
theorem Rel.bool_inv{b:Bool}{v:Value}(h:Rel F φ w (.d (.bool b)) v):v=.bool b:=h.d_inv.bool_inv
theorem Rel.str_inv{s:List UInt8}{v:Value}(h:Rel F φ w (.d (.str s)) v):v=.string ⟨s.toArray⟩:=h.d_inv.str_inv
theorem PRel.sl_inv {rows:List (List D)} {v:Value} (h:PRel F w (.sl rows) v):∃ a cap,v=.slice a rows.length cap∧(rows=[]∨∃ ad esz vs,a=some ad∧rows.length≤cap∧
  (∀ r∈rows,r.length=esz)∧vs.length=rows.length*esz∧Jtg4 F ad vs.length∧Jtah w ad vs∧
  ∀ (j:Nat) (x:D) (u:Value),rows.flatten[j]?=some x→vs[j]?=some u→PRel F w x u):=by
 cases h with
 | nil a cap=>exact ⟨a,cap,rfl,.inl rfl⟩
 | sl _ ad cap esz vs h1 h2 h3 h4 h5 h6=>exact ⟨some ad,cap,rfl,.inr ⟨ad,esz,vs,rfl,h3,h1,h2,h4,h5,h6⟩⟩
theorem Rel.ptr_inv{b off:Nat}{v:Value}(h:Rel F φ w (.ptr b off) v):∃ r,φ b=some r∧v=.pointer (some ⟨r,off,none⟩):=by
 cases h with | ptr _ _ r h=>exact ⟨r,h,rfl⟩
theorem Rel.rptr_inv{cells:List D}{v:Value}(h:Rel F φ w (.rptr cells) v):∃ ad vs,v=.pointer (some ad)∧vs.length=cells.length∧Jtg4 F ad vs.length∧Jtah w ad vs∧
  ∀ (j:Nat) (x:D) (u:Value),cells[j]?=some x→vs[j]?=some u→PRel F w x u:=by
 cases h with | rptr _ ad vs h1 h2 h3 h4=>exact ⟨ad,vs,rfl,h1,h2,h3,h4⟩
theorem Rel.agg_inv{as:List AV}{v:Value}(h:Rel F φ w (.agg as) v):∃ vs:List Value,v=.agg ⟨vs⟩∧vs.length=as.length∧
  ∀ (j:Nat) (x:AV) (u:Value),as[j]?=some x→vs[j]?=some u→Rel F φ w x u:=by
 cases h with | agg _ vs h1 h2=>exact ⟨vs,rfl,h1,h2⟩
theorem Rel.tup_inv{as:List AV}{v:Value}(h:Rel F φ w (.tup as) v):∃ vs:List Value,v=.tuple ⟨vs⟩∧vs.length=as.length∧
  ∀ (j:Nat) (x:AV) (u:Value),as[j]?=some x→vs[j]?=some u→Rel F φ w x u:=by
 cases h with | tup _ vs h1 h2=>exact ⟨vs,rfl,h1,h2⟩
theorem Rel.fn_inv{f:Fn}{as bs:List AV}{v:Value}(h:Rel F φ w (.fn f as bs) v):∃ vs us:List Value,v=.func f ⟨vs⟩ ⟨us⟩∧vs.length=as.length∧us.length=bs.length∧
  (∀ (j:Nat) (x:AV) (u:Value),as[j]?=some x→vs[j]?=some u→Rel F φ w x u)∧(∀ (j:Nat) (x:AV) (u:Value),bs[j]?=some x→us[j]?=some u→Rel F φ w x u):=by
 cases h with | fn _ _ _ vs us h1 h2 h3 h4=>exact ⟨vs,us,rfl,h1,h3,h2,h4⟩
theorem Rel.hsl_inv{b off e len:Nat}{v:Value}(h:Rel F φ w (.hsl b off e len) v):∃ r cap a,φ b=some r∧v=.slice a len cap∧len≤cap∧(len≠0→a=some ⟨r,off,none⟩)∧(len≠0→off+cap*e≤csize w r):=by
 cases h with | hsl _ _ _ _ r cap a h1 h2 h3 h4=>exact ⟨r,cap,a,h1,rfl,h2,h3,h4⟩
theorem Rel.hsl0_inv{b e:Nat}{v:Value}(h:Rel F φ w (.hsl0 b e) v):∃ r cap,φ b=some r∧v=.slice (some ⟨r,0,none⟩) 0 cap∧cap*e≤csize w r:=by
 cases h with | hsl0 _ _ r cap h1 h2=>exact ⟨r,cap,h1,rfl,h2⟩
theorem Rel.nile_inv{v:Value}(h:Rel F φ w .nile v):∃ a,v=.slice a 0 0:=by cases h with | nile a=>exact ⟨a,rfl⟩
theorem Rel.nils_inv{v:Value}(h:Rel F φ w .nils v):v=.slice none 0 0:=by cases h;rfl
theorem Rel.er{x:AV}{v:Value}(h:Rel F φ w x v):x.erase=x:=by cases h<;>rfl
theorem Rel.one{x:AV}{v:Value}(h:Rel F φ w x v)(hl:x.leaf=true):v.oneCell'=true:=by
 cases h with
 | d x v h=>cases h<;>rfl
 | agg=>simp [AV.leaf] at hl
 | tup=>simp [AV.leaf] at hl
 | _=>rfl
theorem PRel.one{x:D}{v:Value}(h:PRel F w x v):v.oneCell'=true:=by cases h<;>rfl
theorem Jtuj{v:Value}(h:v.oneCell'=true):v.cells=#[v]:=by cases v<;>first|rfl|simp [Value.oneCell'] at h
theorem Rel.cells{x:AV}{v:Value}(h:Rel F φ w x v)(he:x.erase=x):v.cells.toList.length=x.cells.length∧
  ∀ (j:Nat) (y:AV) (u:Value),x.cells[j]?=some y→v.cells.toList[j]?=some u→Rel F φ w y u:=by
 by_cases hl:x.leaf=true
 ·have h1:=Jtuj (h.one hl)
  have h2:x.cells=[x]:=by
   cases x with
   | agg=>simp [AV.leaf] at hl
   | tup=>simp [AV.leaf] at hl
   | _=>exact congrArg (fun z=>[z]) he
  rw [h1,h2]
  refine ⟨rfl,fun j y u hy hu=>?_⟩
  cases j with
  | zero=>simp at hy hu;subst hy;subst hu;exact h
  | succ j=>simp at hy
 ·cases h with
  | agg as vs h1 h2=>exact ⟨h1,fun j y u hy hu=>h2 j y u hy hu⟩
  | tup as vs h1 h2=>
   refine ⟨rfl,fun j y u hy hu=>?_⟩
   cases j with
   | zero=>simp [AV.cells,AV.erase] at hy;simp [Value.cells] at hu;subst hy;subst hu;exact .tup as vs h1 h2
   | succ j=>simp [AV.cells] at hy
  | _=>exact absurd rfl hl
end inv
theorem Jtf7(x:AV):x.erase.erase=x.erase:=by cases x<;>rfl
theorem Jtub{F:Nat→Nat}{φ:Nat→Option Nat}{w:World}{v:Value}{x:AV}(h:ofLeaf v=some x):Rel F φ w x v∧x.erase=x:=by
 unfold ofLeaf at h
 split at h<;>first | (cases h;done) | skip
 all_goals (injection h with h;subst h)
 ·exact ⟨.d _ _ (.int _ _),rfl⟩
 ·exact ⟨.d _ _ (.bool _),rfl⟩
 ·rename_i s;exact ⟨.d _ _ (by have:=PRel.str (F:=F) (w:=w) s.data.toList;simpa using this),rfl⟩
 ·exact ⟨.nilp,rfl⟩
 ·exact ⟨.nils,rfl⟩
 ·exact ⟨.nilfn,rfl⟩
 ·exact ⟨.nilif,rfl⟩
 ·exact ⟨.nilm,rfl⟩
theorem Jtue{F:Nat→Nat}{φ:Nat→Option Nat}{w:World}:∀ {vs:List Value} {xs:List AV},Jtuc vs=some xs→vs.length=xs.length∧
  ∀ (j:Nat) (x:AV) (u:Value),xs[j]?=some x→vs[j]?=some u→Rel F φ w x u∧x.erase=x:=by
 intro vs
 induction vs with
 | nil=>intro xs h;simp [Jtuc] at h;subst h;exact ⟨rfl,fun j x u hx=>by simp at hx⟩
 | cons v vs ih=>
  intro xs h
  simp only [Jtuc] at h
  split at h
  ·rename_i x xs' hx hxs
   injection h with h;subst h
   obtain ⟨h1,h2⟩:=ih hxs
   refine ⟨by simp [h1],fun j y u hy hu=>?_⟩
   cases j with
   | zero=>simp at hy hu;subst hy;subst hu;exact Jtub hx
   | succ j=>simp at hy hu;exact h2 j y u hy hu
  ·cases h
theorem Jtuf{F:Nat→Nat}{φ:Nat→Option Nat}{w:World}{v:Value}{x:AV}(h:ofVal v=some x):Rel F φ w x v∧x.erase=x:=by
 unfold ofVal at h
 split at h
 ·rename_i cs
  split at h
  ·rename_i xs hx
   injection h with h;subst h
   obtain ⟨h1,h2⟩:=Jtue (F:=F) (φ:=φ) (w:=w) hx
   refine ⟨?_,rfl⟩
   have:=Rel.agg (F:=F) (φ:=φ) (w:=w) xs cs.toList h1 fun j x u hx hu=>(h2 j x u hx hu).1
   simpa using this
  ·cases h
 ·exact Jtub h
section
variable {N:Nat} {st:ASt} {g:Gh} {a:Act} {w:World}
theorem Jtfd(hs:Sim N st g a w){x:Operand}{y:Opd}{z:AV}(hc:cOpd x=some y)(hz:evr st.env y=some z):Rel g.F g.φ w z (a.eval x)∧z.erase=z:=by
 unfold cOpd at hc
 split at hc
 ·injection hc with hc;subst hc
  simp only [evr,ev,omS] at hz
  obtain ⟨z0,h0,rfl⟩:=hz
  exact ⟨hs.env _ _ h0,Jtf7 _⟩
 ·split at hc
  ·rename_i v x hx
   injection hc with hc;subst hc
   simp only [evr,ev,Option.map_some,Option.some.injEq] at hz
   obtain ⟨h1,h2⟩:=Jtuf (F:=g.F) (φ:=g.φ) (w:=w) hx
   subst hz
   rw [h2]
   exact ⟨h1,h2⟩
  ·cases hc
 ·injection hc with hc;subst hc
  simp only [evr,ev,Option.map_some,Option.some.injEq] at hz
  subst hz
  exact ⟨.fn _ [] [] [] [] rfl (fun _ _ _ h=>by simp at h) rfl (fun _ _ _ h=>by simp at h),rfl⟩
 ·cases hc
theorem Jt7q(hs:Sim N st g a w){x:Operand}{y:Opd}{n:Int}(hc:cOpd x=some y)(hz:asIx st.env y=some n):∃ k,a.eval x=.int k n:=by
 unfold asIx at hz
 split at hz
 ·rename_i k m h
  injection hz with hz;subst hz
  exact ⟨k,(Jtfd hs hc h).1.int_inv⟩
 ·cases hz
theorem Jtcb{f:Opd→AO}{x:Operand}{io:AO}(h:cmp1 f x=some io):∃ y,cOpd x=some y∧io=f y:=by
 unfold cmp1 at h;split at h
 ·rename_i y hy;injection h with h;exact ⟨y,hy,h.symm⟩
 ·cases h
theorem Jtcc{f:Opd→Opd→AO}{x y:Operand}{io:AO}(h:cmp2 f x y=some io):∃ x' y',cOpd x=some x'∧cOpd y=some y'∧io=f x' y':=by
 unfold cmp2 at h;split at h
 ·rename_i x' y' hx hy;injection h with h;exact ⟨x',y',hx,hy,h.symm⟩
 ·cases h
theorem Jta9{x:Option Operand}{y:Option Opd}(h:cOpt x=some y):(x=none∧y=none)∨∃ x' y',x=some x'∧y=some y'∧cOpd x'=some y':=by
 unfold cOpt at h;split at h
 ·injection h with h;exact .inl ⟨rfl,h.symm⟩
 ·rename_i x'
  split at h
  ·rename_i y' hy;injection h with h;exact .inr ⟨x',y',rfl,h.symm,hy⟩
  ·cases h
end
theorem Jt17f{P:Program}{t:TypeId}{i:TypeInfo}(h:P.info? t=some i)(w:World):(sizeOf t).run P w=.ok i.size w:=by
 simp [sizeOf,typeInfo,h]
theorem Jt1e1{P:Program}{t:TypeId}{n:Nat}(h:szOf P t=some n):∃ i,P.info? t=some i∧i.size=n:=by
 unfold szOf at h;split at h
 ·rename_i i hi;injection h with h;exact ⟨i,hi,h⟩
 ·cases h
theorem Jtn6{P:Program}{t:TypeId}{n:Option Nat}(h:ldN P t=some n):∃ d i,P.underlying t=some d∧P.info? t=some i∧
  ((n=some i.size∧∀ w,(isAgg t).run P w=.ok true w)∨(n=none∧∀ w,(isAgg t).run P w=.ok false w)):=by
 unfold ldN at h
 split at h
 ·rename_i fs i h1 h2;injection h with h;exact ⟨_,i,h1,h2,.inl ⟨h.symm,fun w=>by simp [isAgg,run_underlying h1]⟩⟩
 ·rename_i n e i h1 h2;injection h with h;exact ⟨_,i,h1,h2,.inl ⟨h.symm,fun w=>by simp [isAgg,run_underlying h1]⟩⟩
 ·rename_i d i hn1 hn2 h1 h2;injection h with h
  refine ⟨_,i,h1,h2,.inr ⟨h.symm,fun w=>?_⟩⟩
  cases d<;>first|exact absurd rfl (hn1 _)|exact absurd rfl (hn2 _ _)|simp [isAgg,run_underlying h1]
 ·cases h
def ViewOk(st:ASt)(g:Gh)(a:Act)(w:World)(x:AV)(v:Value):Prop:=
 ∀ org e rows,x=.view org e rows→AP st org=some (.own e rows)∧RP g.φ a w org=some v
def NotOwn(x:AV):Prop:=∀ e rows,x≠.own e rows
def VOk(P:Program)(st:ASt)(g:Gh)(a:Act)(w:World)(o:Oper)(x:AV):Prop:=
 ∃ v,(execOp a.eval o).run P w=.ok (.value v) w∧Rel g.F g.φ w x.erase v∧ViewOk st g a w x v∧NotOwn x
theorem Jtu8(x:AV):∀ org e rows,x.erase≠.view org e rows:=by intro org e rows h;cases x<;>simp [AV.erase] at h
theorem Jtu7(x:AV):NotOwn x.erase:=by intro e rows h;cases x<;>simp [AV.erase] at h
section
variable {P:Program} {N:Nat} {st:ASt} {g:Gh} {a:Act} {w:World}
theorem VOk.mk{o:Oper}{x:AV}{v:Value}(hr:(execOp a.eval o).run P w=.ok (.value v) w) (hx:Rel g.F g.φ w x v) (he:x.erase=x):VOk P st g a w o x:=
 ⟨v,hr,by rw [he];exact hx,fun org e rows h=>by rw [←he] at h;exact absurd h (Jtu8 x org e rows),by rw [←he];exact Jtu7 x⟩
theorem Jttn(hs:Sim N st g a w){o:Oper}{x:Operand}{y:Opd}{z:AV}(ho:o.op=.move x)(hc:cOpd x=some y)(hv:opV st (.mov y)=some z):VOk P st g a w o z:=by
 have hr:∀ v,a.eval x=v→(execOp a.eval o).run P w=.ok (.value v) w:=fun v h=>by unfold execOp;simp [ho,h]
 cases y with
 | t i=>
  have hx:x=.tmp i:=by
   unfold cOpd at hc;split at hc
   ·injection hc with hc;injection hc with hc;rw [hc]
   ·split at hc<;>cases hc
   ·cases hc
   ·cases hc
  subst hx
  simp only [opV] at hv
  split at hv
  ·rename_i e rows hg
   injection hv with hv;subst hv
   refine ⟨_,hr _ rfl,?_,?_,fun e' rows' h=>by cases h⟩
   ·have:=hs.env _ _ hg;exact this
   ·intro org e' rows' h
    injection h with h1 h2 h3
    subst h1;subst h2;subst h3
    exact ⟨hg,rfl⟩
  ·rename_i hn
   refine ⟨_,hr _ rfl,hs.env _ _ hv,?_,fun e rows h=>hn e rows (h▸hv)⟩
   intro org e rows h
   subst h
   exact hs.view _ _ _ _ hv
 | c y=>
  simp only [opV] at hv
  injection hv with hv;subst hv
  have h:=Jtfd (z:=y.erase) hs hc rfl
  exact VOk.mk (hr _ rfl) h.1 h.2
theorem Jt7r(hs:Sim N st g a w){o:Oper}{x:Operand}{y:Opd}{z:AV}(ho:o.op=.assign x)(hc:cOpd x=some y)(hv:opV st (.asg y)=some z):VOk P st g a w o z:=by
 simp only [opV] at hv
 split at hv
 ·cases hv
 ·rename_i y' hn hy
  injection hv with hv;subst hv
  have h:=Jtfd (z:=y'.erase) hs hc (by simp [evr,hy])
  exact VOk.mk (v:=a.eval x) (by unfold execOp;simp [ho]) h.1 h.2
 ·cases hv
theorem Jtxn(hs:Sim N st g a w){o:Oper}{x1 x2 x3:Operand}{y1 y2 y3:Opd}{z:AV}(ho:o.op=.pick x1 x2 x3)(h1:cOpd x1=some y1)(h2:cOpd x2=some y2)
  (h3:cOpd x3=some y3) (hv:opV st (.pick y1 y2 y3)=some z):VOk P st g a w o z:=by
 simp only [opV] at hv
 split at hv
 ·rename_i c hcv
  have hb:=(Jtfd hs h1 hcv).1.bool_inv
  cases c with
  | true=>
   simp only [if_true] at hv
   have h:=Jtfd hs h2 hv
   exact VOk.mk (v:=a.eval x2) (by unfold execOp;simp [ho,hb,asBool]) h.1 h.2
  | false=>
   simp only [Bool.false_eq_true,if_false] at hv
   have h:=Jtfd hs h3 hv
   exact VOk.mk (v:=a.eval x3) (by unfold execOp;simp [ho,hb,asBool]) h.1 h.2
 ·cases hv
theorem go_str(l:List UInt8):(ByteArray.mk l.toArray).toList=l:=by rw [ByteArray.toList_eq]
theorem Jt9z(l:List UInt8):(ByteArray.mk l.toArray).size=l.length:=by simp [ByteArray.size]
theorem Jt9x(l m:List UInt8):ByteArray.mk l.toArray++ByteArray.mk m.toArray=ByteArray.mk (l++m).toArray:=by
 apply ByteArray.ext;simp
theorem Jtf4(hs:Sim N st g a w){o:Oper}{neg:Bool}{t u:TypeId}{x1 x2:Operand}{y1 y2:Opd}{z:AV}(ho:o.op=.binOp (if neg then .neq else .eql) t x1 x2 u) (hu:P.underlying t=some .bool) (h1:cOpd x1=some y1) (h2:cOpd x2=some y2)
  (hv:opV st (.eqb neg y1 y2)=some z):VOk P st g a w o z:=by
 simp only [opV] at hv
 split at hv
 ·rename_i p q hp hq
  injection hv with hv;subst hv
  have k1:=(Jtfd hs h1 hp).1.d_inv.bool_inv
  have k2:=(Jtfd hs h2 hq).1.d_inv.bool_inv
  have key:(Op.equal t (.bool p) (.bool q)).run P w=.ok (p==q) w:=by
   have:∀ d,0<d→(Op.equalIn d t (.bool p) (.bool q)).run P w=.ok (p==q) w:=by
    intro d hd
    obtain ⟨d,rfl⟩:∃ d',d=d'+1:=⟨d-1,by omega⟩
    unfold Op.equalIn
    rw [Sem.run_bind,run_underlying hu]
    rfl
   exact this _ (by unfold Op.maxDepth;omega)
  have hb1:(binOp .eql t (.bool p) (.bool q)).run P w=.ok (.bool (p==q)) w:=by
   have:binOp .eql t (.bool p) (.bool q)=(do pure (.bool (←Op.equal t (.bool p) (.bool q)))):=rfl
   rw [this,Sem.run_bind,key];rfl
  have hb2:(binOp .neq t (.bool p) (.bool q)).run P w=.ok (.bool !(p==q)) w:=by
   have:binOp .neq t (.bool p) (.bool q)=(do pure (.bool (!(←Op.equal t (.bool p) (.bool q))))):=rfl
   rw [this,Sem.run_bind,key];rfl
  refine VOk.mk (v:=.bool ((p==q) != neg)) ?_ (.d _ _ (.bool _)) rfl
  unfold execOp
  cases neg
  ·simp only [ho,k1,k2,Sem.run_bind,Bool.false_eq_true,if_false]
   simp [eqGuard,hb1]
  ·simp only [ho,k1,k2,Sem.run_bind,if_true]
   simp [eqGuard,hb2]
 ·cases hv
theorem Jt7z(hs:Sim N st g a w){o:Oper}{op:BinOp}{t u:TypeId}{x1 x2:Operand}{y1 y2:Opd}{z:AV}(ho:o.op=.binOp op t x1 x2 u)(h1:cOpd x1=some y1)(h2:cOpd x2=some y2)
  (hv:opV st (.bin op y1 y2)=some z):VOk P st g a w o z:=by
 simp only [opV] at hv
 split at hv
 ·rename_i p q hp hq
  rw [omS] at hv
  obtain ⟨r,hr,rfl⟩:=hv
  have k1:=(Jtfd hs h1 hp).1.d_inv
  have k2:=(Jtfd hs h2 hq).1.d_inv
  suffices h:∃ v,(execOp a.eval o).run P w=.ok (.value v) w∧PRel g.F w r v from let ⟨v,e1,e2⟩:=h;VOk.mk e1 (.d _ _ e2) rfl
  unfold execOp
  simp only [ho]
  unfold binD at hr
  split at hr<;>first | (cases hr;done) | skip
  all_goals first | (have e1:=k1.int_inv;have e2:=k2.int_inv) | (have e1:=k1.str_inv;have e2:=k2.str_inv)
  all_goals rw [e1,e2]
  all_goals first
   | (injection hr with hr;subst hr;refine ⟨_,?_,.bool _⟩;simp [eqGuard,binOp,Op.stringOp,go_str,bne];done)
   | skip
  all_goals (split at hr<;>first | (cases hr;done) | skip)
  all_goals first
   | (rename_i hk;subst hk;injection hr with hr;subst hr;refine ⟨_,?_,.int _ _⟩;simp [eqGuard,binOp,Op.intArith];done)
   | (rename_i hk;subst hk;injection hr with hr;subst hr;refine ⟨_,?_,.bool _⟩;simp [eqGuard,binOp,Op.intCmp];done)
   | (rename_i hk;subst hk;injection hr with hr;subst hr;refine ⟨_,?_,.int _ _⟩;simp only [eqGuard,binOp,ne_eq,not_true_eq_false,if_false];rfl)
   | skip
  all_goals first
   | (rename_i hk;subst hk;split at hr<;>first | (cases hr;done) | skip;rename_i hz;injection hr with hr;subst hr;refine ⟨_,?_,.int _ _⟩;simp [eqGuard,binOp,Op.intDiv,hz];done)
   | (rename_i hz;injection hr with hr;subst hr;refine ⟨_,?_,.int _ _⟩;simp [eqGuard,binOp,Op.shift,hz];done)
   | (rename_i hz;injection hr with hr;subst hr;refine ⟨_,?_,.str _⟩;simp [eqGuard,binOp,Op.stringOp,Jt9z,IntKind.max_i64,Jt9x];omega)
 ·cases hv
end
theorem add_add(ad:Addr)(m n:Nat):(ad.add m).add n=ad.add (m+n):=by
 unfold Addr.add
 by_cases hm:m=0
 ·subst hm;simp
 ·by_cases hn:n=0
  ·subst hn;simp [hm]
  ·simp [hm,hn,Nat.add_assoc]
theorem Jt6d(ad:Addr)(m:Nat):(ad.add m).block=ad.block:=by unfold Addr.add;split<;>rfl
theorem Jt6f(ad:Addr)(m:Nat):(ad.add m).off=ad.off+m:=by unfold Addr.add;split<;>simp_all
theorem Jtah.drop{w:World}{ad:Addr}{vs:List Value}(h:Jtah w ad vs)(m:Nat):Jtah w (ad.add m) (vs.drop m):=by
 intro j u hu
 rw [add_add]
 exact h _ _ (by simpa using hu)
theorem Jtah.take{w:World}{ad:Addr}{vs:List Value}(h:Jtah w ad vs)(m:Nat):Jtah w ad (vs.take m):=by
 intro j u hu
 rw [List.getElem?_take] at hu
 split at hu
 ·exact h _ _ hu
 ·cases hu
theorem Jtg4.drop{F:Nat→Nat}{ad:Addr}{n:Nat}(h:Jtg4 F ad n)(m:Nat):Jtg4 F (ad.add m) (n-m):=by
 intro j hj
 rw [Jt6d,Jt6f]
 have:=h (m+j) (by omega)
 omega
theorem Jtg4.mono{F:Nat→Nat}{ad:Addr}{n k:Nat}(h:Jtg4 F ad n)(hk:k≤n):Jtg4 F ad k:=fun j hj=>h j (by omega)
theorem Rel.rptr_drop{F:Nat→Nat}{φ:Nat→Option Nat}{w:World}{cells:List D}{ad:Addr}(h:Rel F φ w (.rptr cells) (.pointer (some ad))) (m:Nat) :
  Rel F φ w (.rptr (cells.drop m)) (.pointer (some (ad.add m))):=by
 obtain ⟨ad',vs,he,hl,hf,hc,hr⟩:=h.rptr_inv
 injection he with he;injection he with he;subst he
 refine .rptr _ _ (vs.drop m) (by simp [hl]) (by rw [List.length_drop];exact hf.drop m) (hc.drop m) ?_
 intro j x u hx hu
 exact hr _ _ _ (by simpa using hx) (by simpa using hu)
section
variable {P:Program} {N:Nat} {st:ASt} {g:Gh} {a:Act} {w:World}
theorem Sim.block(hs:Sim N st g a w){b r:Nat}{cells:List AV}(hb:st.H[b]?=some (.mem cells)) (hr:g.φ b=some r) :
  ∃ c e,w.heap[r]?=some (.cells c e (0,0))∧cells.length≤c.size∧(∀ (j:Nat) (x:AV),cells[j]?=some x→x.leaf=true∧∃ u,c[j]?=some u∧Rel g.F g.φ w x.erase u)∧
   ∀ j,w.cell? ⟨r,j,none⟩=c[j]?:=by
 obtain ⟨c,e,h1,h2,h3⟩:=hs.mem b cells r hb hr
 exact ⟨c,e,h1,h2,h3,fun j=>cell_of_row w r j c e (0,0) h1⟩
theorem Jtpm(hs:Sim N st g a w){o:Oper}{t:TypeId}{x:Operand}{y:Opd}{n:Option Nat}{z:AV}(ho:o.op=.load t x)(hn:ldN P t=some n)(hc:cOpd x=some y)
  (hv:opV st (.load n y)=some z):VOk P st g a w o z:=by
 obtain ⟨d,i,hd,hi,hcase⟩:=Jtn6 hn
 have hex:∀ ad v,a.eval x=.pointer (some ad)→(loadVar t ad).run P w=.ok v w→(execOp a.eval o).run P w=.ok (.value v) w:=by
  intro ad v h1 h2
  unfold execOp
  simp only [ho,Instr.loadAt,h1,Instr.sureAddr,Sem.run_bind,Sem.run_pure,Result.andThen_ok,h2]
 have one:∀ ad u,(∀ w,(isAgg t).run P w=.ok false w)→w.cell? ad=some u→(loadVar t ad).run P w=.ok u w:=by
  intro ad u h1 h2
  simp only [loadVar,Sem.run_bind,h1,Result.andThen_ok,Bool.false_eq_true,if_false,run_load,h2]
 have many:∀ ad cs,(∀ w,(isAgg t).run P w=.ok true w)→cs.length=i.size→Jtah w ad cs→(loadVar t ad).run P w=.ok (.agg cs.toArray) w:=by
  intro ad cs h1 h2 h3
  have:=run_loadCells_list (P:=P) w ad cs h3
  simp only [loadVar,Sem.run_bind,h1,Result.andThen_ok,if_true,Jt17f hi,←h2,this,Sem.run_pure]
 simp only [opV] at hv
 split at hv
 ·rename_i b off hy
  obtain ⟨r,hr,hp⟩:=(Jtfd hs hc hy).1.ptr_inv
  split at hv
  ·rename_i cells hb
   obtain ⟨c,e,h1,h2,h3,h4⟩:=hs.block hb hr
   rcases hcase with ⟨rfl,hag⟩ | ⟨rfl,hag⟩
   ·simp only at hv
    split at hv
    ·rename_i hle
     injection hv with hv;subst hv
     have hl:((c.toList.drop off).take i.size).length=i.size:=by simp;omega
     refine VOk.mk (hex _ _ hp (many _ ((c.toList.drop off).take i.size) hag hl ?_)) (.agg _ _ (by simp;omega) ?_) rfl
     ·intro j u hu
      rw [List.getElem?_take] at hu
      split at hu
      ·rw [Addr.add_lit,h4];simpa using hu
      ·cases hu
     ·intro j x' u hx' hu
      rw [lgM,List.getElem?_take] at hx'
      rw [List.getElem?_take] at hu
      split at hx'
      ·rename_i hj
       rw [if_pos hj] at hu
       rw [omS] at hx'
       obtain ⟨x0,hx0,rfl⟩:=hx'
       rw [List.getElem?_drop] at hx0 hu
       obtain ⟨_,u',hu',hrel⟩:=h3 _ _ hx0
       have:u=u':=by rw [Array.getElem?_toList] at hu;rw [hu'] at hu;injection hu with hu;exact hu.symm
       subst this
       exact hrel
      ·simp at hx'
    ·cases hv
   ·simp only at hv
    split at hv
    ·rename_i e' rows hcell
     injection hv with hv;subst hv
     obtain ⟨_,u,hu,hrel⟩:=h3 _ _ hcell
     have hcu:w.cell? ⟨r,off,none⟩=some u:=by rw [h4,hu]
     refine ⟨u,hex _ _ hp (one _ _ hag hcu),hrel,?_,fun e2 r2 h=>by cases h⟩
     intro org e2 rows2 h
     injection h with k1 k2 k3
     subst k1;subst k2;subst k3
     exact ⟨by simp only [AP,hb,hcell],by simp only [RP,hr,Option.bind_some,hcu]⟩
    ·rename_i y' hno hcell
     injection hv with hv;subst hv
     obtain ⟨_,u,hu,hrel⟩:=h3 _ _ hcell
     exact VOk.mk (hex _ _ hp (one _ _ hag (by rw [h4,hu]))) hrel (Jtf7 _)
    ·cases hv
  ·cases hv
 ·rename_i cells hy
  obtain ⟨ad,vs,hp,hl,hf,hca,hre⟩:=(Jtfd hs hc hy).1.rptr_inv
  rcases hcase with ⟨rfl,hag⟩ | ⟨rfl,hag⟩
  ·simp only at hv
   split at hv
   ·rename_i hle
    injection hv with hv;subst hv
    refine VOk.mk (hex _ _ hp (many _ (vs.take i.size) hag (by simp;omega) (hca.take _))) (.agg _ _ (by simp;omega) ?_) rfl
    intro j x' u hx' hu
    rw [lgM,List.getElem?_take] at hx'
    rw [List.getElem?_take] at hu
    split at hx'
    ·rename_i hj
     rw [if_pos hj] at hu
     rw [omS] at hx'
     obtain ⟨x0,hx0,rfl⟩:=hx'
     exact .d _ _ (hre _ _ _ hx0 hu)
    ·simp at hx'
   ·cases hv
  ·simp only at hv
   rw [omS] at hv
   obtain ⟨x0,hx0,rfl⟩:=hv
   have hlt:0<vs.length:=by rw [hl];exact (lgS.1 hx0).1
   have hu:vs[0]?=some vs[0]:=by simp [hlt]
   have hcu:=hca _ _ hu
   rw [Addr.add_zero'] at hcu
   exact VOk.mk (hex _ _ hp (one _ _ hag hcu)) (.d _ _ (hre _ _ _ hx0 hu)) rfl
 ·cases hv
theorem Jtu0(hs:Sim N st g a w){o:Oper}{x:Operand}{y:Opd}{z:AV}(ho:o.op=.nilCheck x)(hc:cOpd x=some y)(hv:opV st (.nilck y)=some z):VOk P st g a w o z:=by
 simp only [opV] at hv
 split at hv
 ·rename_i b off hy
  injection hv with hv;subst hv
  have h:=(Jtfd hs hc hy).1
  obtain ⟨r,hr,hp⟩:=h.ptr_inv
  exact VOk.mk (v:=a.eval x) (by unfold execOp;simp [ho,hp]) h rfl
 ·rename_i cells hy
  injection hv with hv;subst hv
  have h:=(Jtfd hs hc hy).1
  obtain ⟨ad,vs,hp,_⟩:=h.rptr_inv
  exact VOk.mk (v:=a.eval x) (by unfold execOp;simp [ho,hp]) h rfl
 ·rename_i f as bs hy
  injection hv with hv;subst hv
  have h:=(Jtfd hs hc hy).1
  obtain ⟨vs,us,hp,_⟩:=h.fn_inv
  exact VOk.mk (v:=a.eval x) (by unfold execOp;simp [ho,hp]) h rfl
 ·cases hv
theorem Jt1fg(hs:Sim N st g a w){o:Oper}{op:UnOp}{t:TypeId}{x:Operand}{y:Opd}{z:AV}(ho:o.op=.unOp op t x)(hc:cOpd x=some y)(hv:opV st (.un op y)=some z) :
  VOk P st g a w o z:=by
 simp only [opV] at hv
 split at hv
 ·rename_i p hp
  rw [omS] at hv
  obtain ⟨q,hq,rfl⟩:=hv
  have h:=(Jtfd hs hc hp).1.d_inv
  unfold unD at hq
  split at hq<;>first | (cases hq;done) | skip
  all_goals (injection hq with hq;subst hq)
  ·exact VOk.mk (by unfold execOp;simp only [ho,h.int_inv];rfl) (.d _ _ (.int _ _)) rfl
  ·exact VOk.mk (by unfold execOp;simp only [ho,h.int_inv];rfl) (.d _ _ (.int _ _)) rfl
  ·exact VOk.mk (by unfold execOp;simp only [ho,h.bool_inv];rfl) (.d _ _ (.bool _)) rfl
 ·cases hv
theorem Jtcn(hs:Sim N st g a w){o:Oper}{s t:TypeId}{k k':IntKind}{x:Operand}{y:Opd}{z:AV}(ho:o.op=.convert s t x)(h1:P.underlying s=some (.int k'))
  (h2:P.underlying t=some (.int k)) (hc:cOpd x=some y) (hv:opV st (.conv k y)=some z):VOk P st g a w o z:=by
 simp only [opV] at hv
 split at hv
 ·rename_i k2 n hy
  injection hv with hv;subst hv
  have h:=(Jtfd hs hc hy).1.int_inv
  exact VOk.mk (by unfold execOp;simp only [ho,h,convert,Sem.run_bind,run_underlying h1,run_underlying h2,Result.andThen_ok,Conv.intToInt,Sem.run_pure]) (.d _ _ (.int _ _)) rfl
 ·cases hv
theorem Jt17g(hs:Sim N st g a w){o:Oper}{s t:TypeId}{k':IntKind}{x:Operand}{y:Opd}{z:AV}(ho:o.op=.convert s t x)(h1:P.underlying s=some (.int k'))
  (h2:P.underlying t=some .string) (hc:cOpd x=some y) (hv:opV st (.runeS y)=some z):VOk P st g a w o z:=by
 simp only [opV] at hv
 split at hv
 ·rename_i k2 n hy
  injection hv with hv;subst hv
  have h:=(Jtfd hs hc hy).1.int_inv
  refine VOk.mk (v:=.string ⟨(encL n).toArray⟩) ?_ (.d _ _ (.str _)) rfl
  unfold execOp;simp only [ho,h,convert,Sem.run_bind,run_underlying h1,run_underlying h2,Result.andThen_ok,Conv.intToString,Sem.run_pure,encL]
 ·cases hv
theorem Jtlj{k:IntKind}:∀ {rows:List (List D)} {ns:List Int},intsOf k rows=some ns→rows=ns.map fun n=>[D.int k n]:=by
 intro rows
 induction rows with
 | nil=>intro ns h;simp [intsOf] at h;subst h;rfl
 | cons r rows ih=>
  intro ns h
  unfold intsOf at h
  split at h
  ·cases ‹_=[]›
  ·rename_i k' n r' he
   injection he with h1 h2;subst h1;subst h2
   split at h
   ·rename_i hk;subst hk
    rw [omS] at h
    obtain ⟨ms,hm,rfl⟩:=h
    rw [ih hm];rfl
   ·cases h
  ·cases h
theorem Jtgd(k:IntKind)(ns:List Int):(ns.map fun n=>[D.int k n]).flatten=ns.map fun n=>D.int k n:=by
 induction ns with
 | nil=>rfl
 | cons n ns ih=>simp only [List.map_cons,List.flatten_cons,ih];rfl
theorem Jt1dq(hs:Sim N st g a w){k:IntKind}{f:List Int→List UInt8}{x:Operand}{y:Opd}{z:AV}(hc:cOpd x=some y)(hv:strOf k f (evr st.env y)=some z) (hf0:f []=[]) :
  ∃ (A:Option Addr) (cap:Nat) (ns:List Int),a.eval x=.slice A ns.length cap∧z=.d (.str (f ns))∧(A=none→ns=[])∧(∀ ad,A=some ad→(loadCells ad ns.length).run P w=.ok (ns.map (Value.int k)).toArray w):=by
 unfold strOf at hv
 split at hv
 ·rename_i rows hy
  rw [omS] at hv
  obtain ⟨ns,hns,rfl⟩:=hv
  have hrw:=Jtlj hns
  obtain ⟨A,cap,hA,hcs⟩:=(Jtfd hs hc hy).1.d_inv.sl_inv
  have hlen:rows.length=ns.length:=by rw [hrw];simp
  refine ⟨A,cap,ns,by rw [hA,hlen],rfl,?_,?_⟩
  ·intro hA0
   rcases hcs with h0 | ⟨ad,esz,vs,h1,_⟩
   ·rw [h0] at hrw;cases ns with
    | nil=>rfl
    | cons n ns=>simp at hrw
   ·rw [hA0] at h1;cases h1
  ·intro ad hAd
   rcases hcs with h0 | ⟨ad',esz,vs,h1,_,hesz,hvl,hf,hca,hre⟩
   ·rw [h0] at hrw
    cases ns with
    | nil=>simp [loadCells,loadCellsFrom]
    | cons n ns=>simp at hrw
   ·rw [h1] at hAd;injection hAd with hAd;subst hAd
    cases hn:ns with
    | nil=>simp [loadCells,loadCellsFrom]
    | cons n0 ns0=>
     rw [←hn]
     have he:esz=1:=by
      have:=hesz [D.int k n0] (by rw [hrw,hn];simp)
      simpa using this.symm
     subst he
     have hfl:rows.flatten=ns.map fun n=>D.int k n:=by rw [hrw];exact Jtgd k ns
     have hvs:vs=ns.map (Value.int k):=by
      apply List.ext_getElem?
      intro j
      by_cases hj:j<ns.length
      ·have hjv:j<vs.length:=by rw [hvl,hlen];omega
       rw [lgE hjv,lgM,lgE hj]
       have:=hre j (D.int k ns[j]) vs[j] (by rw [hfl,lgM,lgE hj];rfl) (lgE hjv)
       rw [this.int_inv];rfl
      ·rw [List.getElem?_eq_none (by rw [hvl,hlen];omega),List.getElem?_eq_none (by simp;omega)]
     have:=run_loadCells_list (P:=P) (w:=w) ad' vs (fun j v h=>hca j v h)
     rw [hvs] at this
     simpa using this
 ·rename_i hy
  injection hv with hv;subst hv
  have:=(Jtfd hs hc hy).1.nils_inv
  exact ⟨none,0,[],this,by rw [hf0],fun _=>rfl,fun ad h=>by cases h⟩
 ·rename_i hy
  injection hv with hv;subst hv
  obtain ⟨a',this⟩:=(Jtfd hs hc hy).1.nile_inv
  exact ⟨a',0,[],this,by rw [hf0],fun _=>rfl,fun ad _=>by simp [loadCells,loadCellsFrom]⟩
 ·cases hv
theorem Jt17h(ns:List Int):runesBytes ns=⟨(ns.flatMap encL).toArray⟩:=by
 have key:∀ (ns:List Int) (s:ByteArray),(ns.foldl (fun r n=>r++Utf8.encode n) s).data.toList=s.data.toList++ns.flatMap encL:=by
  intro ns
  induction ns with
  | nil=>intro s;simp
  | cons n ns ih=>intro s;simp only [List.foldl_cons,ih,List.flatMap_cons,encL];simp
 have:=key ns ByteArray.empty
 unfold runesBytes
 apply ByteArray.ext
 rw [←Array.toList_inj]
 simpa using this
theorem Jt9y(ns:List Int):ns.foldl (fun r n=>r.push (UInt8.ofNat n.toNat)) ByteArray.empty=⟨(ns.map fun n=>UInt8.ofNat n.toNat).toArray⟩:=by
 have key:∀ (ns:List Int) (s:ByteArray),(ns.foldl (fun r n=>r.push (UInt8.ofNat n.toNat)) s).data.toList=s.data.toList++ns.map fun n=>UInt8.ofNat n.toNat:=by
  intro ns
  induction ns with
  | nil=>intro s;simp
  | cons n ns ih=>intro s;simp only [List.foldl_cons,ih,List.map_cons];simp [ByteArray.push]
 have:=key ns ByteArray.empty
 apply ByteArray.ext
 rw [←Array.toList_inj]
 simpa using this
theorem Jt17i(hs:Sim N st g a w){o:Oper}{s t e:TypeId}{x:Operand}{y:Opd}{z:AV}(ho:o.op=.convert s t x)(h1:P.underlying s=some (.slice e)) (he:P.underlying e=some (.int .i32))
  (h2:P.underlying t=some .string) (hc:cOpd x=some y) (hv:opV st (.runesS y)=some z):VOk P st g a w o z:=by
 obtain ⟨A,cap,ns,hA,rfl,hn,hl⟩:=Jt1dq (P:=P) hs hc hv rfl
 refine VOk.mk (v:=.string ⟨(ns.flatMap encL).toArray⟩) ?_ (.d _ _ (.str _)) rfl
 have hr:=run_convert_runes_string (P:=P) w s t e A ns.length cap h1 he h2
 unfold execOp;simp only [ho,hA,Sem.run_bind,hr]
 cases A with
 | none=>have:=hn rfl;subst this;simp [Conv.runesToString];rfl
 | some ad=>rw [run_runesToString w ad ns.length cap ns (hl ad rfl)];simp [Jt17h]
theorem Jt9w(hs:Sim N st g a w){o:Oper}{s t e:TypeId}{x:Operand}{y:Opd}{z:AV}(ho:o.op=.convert s t x)(h1:P.underlying s=some (.slice e)) (he:P.underlying e=some (.int .u8))
  (h2:P.underlying t=some .string) (hc:cOpd x=some y) (hv:opV st (.bytesS y)=some z):VOk P st g a w o z:=by
 obtain ⟨A,cap,ns,hA,rfl,hn,hl⟩:=Jt1dq (P:=P) hs hc hv rfl
 refine VOk.mk (v:=.string ⟨(ns.map fun n=>UInt8.ofNat n.toNat).toArray⟩) ?_ (.d _ _ (.str _)) rfl
 have hr:(convert s t (.slice A ns.length cap)).run P w=(Conv.bytesToString (.slice A ns.length cap)).run P w:=by
  simp [convert,run_underlying h1,run_underlying h2,run_underlying he]
 unfold execOp;simp only [ho,hA,Sem.run_bind,hr]
 cases A with
 | none=>have:=hn rfl;subst this;simp [Conv.bytesToString];rfl
 | some ad=>rw [run_bytesToString w ad ns.length cap ns (hl ad rfl)];simp [Jt9y]
theorem Jtfp(hs:Sim N st g a w){o:Oper}{s:TypeId}{f:Nat}{fd:Field}{n:Nat}{x:Operand}{y:Opd}{z:AV}(ho:o.op=.fieldAddr s x f)(hf:Jtft P s f=some fd)
  (hn:szOf P fd.type=some n) (hn0:n≠0) (hc:cOpd x=some y) (hv:opV st (.faddr fd.offset y)=some z):VOk P st g a w o z:=by
 obtain ⟨i,hi,rfl⟩:=Jt1e1 hn
 have hex:∀ ad,a.eval x=.pointer (some ad)→(execOp a.eval o).run P w=.ok (.value (.pointer (some (ad.add fd.offset)))) w:=by
  intro ad h
  unfold Jtft at hf
  split at hf
  ·rename_i fs hu
   unfold execOp
   simp [ho,Instr.fieldAt,run_underlying hu,hf,h,Instr.sureAddr,fieldPlace,Jt17f hi,hn0]
  ·cases hf
 simp only [opV] at hv
 split at hv
 ·rename_i b off hy
  injection hv with hv;subst hv
  obtain ⟨r,hr,hp⟩:=(Jtfd hs hc hy).1.ptr_inv
  exact VOk.mk (hex _ hp) (by rw [Addr.add_lit];exact .ptr _ _ _ hr) rfl
 ·rename_i cells hy
  injection hv with hv;subst hv
  have h:=(Jtfd hs hc hy).1
  obtain ⟨ad,vs,hp,_⟩:=h.rptr_inv
  rw [hp] at h
  exact VOk.mk (hex _ hp) (h.rptr_drop _) rfl
 ·cases hv
end
theorem Jtg9{α:Type}:∀ (rows:List (List α)) (n:Nat),(∀ r∈rows,r.length=n)→∀ i j,j<n→rows.flatten[i*n+j]?=(rows[i]?).bind (·[j]?):=by
 intro rows
 induction rows with
 | nil=>intro n _ i j _;simp
 | cons r rows ih=>
  intro n hn i j hj
  have hr:r.length=n:=hn r (by simp)
  have hrs:∀ x∈rows,x.length=n:=fun x hx=>hn x (by simp [hx])
  cases i with
  | zero=>simp only [List.flatten_cons,Nat.zero_mul,Nat.zero_add];rw [lgA (by omega)];simp
  | succ i=>
   simp only [List.flatten_cons,List.getElem?_cons_succ]
   rw [List.getElem?_append_right (by rw [Nat.succ_mul];omega),hr]
   rw [show (i+1)*n+j-n=i*n+j by rw [Nat.succ_mul];omega]
   exact ih n hrs i j hj
section
variable {P:Program} {N:Nat} {st:ASt} {g:Gh} {a:Act} {w:World}
theorem Jtxj{F:Nat→Nat}{φ:Nat→Option Nat}{t:TypeId}{n:Option Nat}{as:List AV}{vs:List Value}{off:Nat}{z:AV}(hn:ldN P t=some n)(hl:vs.length=as.length)
  (hr:∀ (j:Nat) (x:AV) (u:Value),as[j]?=some x→vs[j]?=some u→Rel F φ w x u)
  (hz:partV as off n=some z) :
  ∃ v,(part t ⟨vs⟩ off).run P w=.ok v w∧Rel F φ w z v:=by
 obtain ⟨d,i,hd,hi,hcase⟩:=Jtn6 hn
 rcases hcase with ⟨rfl,hag⟩ | ⟨rfl,hag⟩
 ·simp only [partV] at hz
  split at hz
  ·rename_i hle
   injection hz with hz;subst hz
   refine ⟨.agg ⟨(vs.drop off).take i.size⟩,?_,.agg _ _ (by simp;omega) ?_⟩
   ·simp only [part,Sem.run_bind,hag,Result.andThen_ok,if_true,Jt17f hi,Sem.run_pure]
    congr 2
    rw [List.extract_toArray]
    simp [List.extract]
   ·intro j x u hx hu
    rw [List.getElem?_take] at hx hu
    split at hx
    ·rename_i hj
     rw [if_pos hj] at hu
     rw [List.getElem?_drop] at hx hu
     exact hr _ _ _ hx hu
    ·cases hx
  ·cases hz
 ·simp only [partV,omS] at hz
  obtain ⟨z0,hz,rfl⟩:=hz
  have hlt:off<vs.length:=by rw [hl];exact (lgS.1 hz).1
  have h2:=hr _ _ _ hz (show vs[off]?=some vs[off] by simp [hlt])
  refine ⟨vs[off],?_,by rw [h2.er];exact h2⟩
  simp [part,hag,hlt]
theorem Jtge(hs:Sim N st g a w){o:Oper}{s:TypeId}{f:Nat}{fd:Field}{n:Option Nat}{x:Operand}{y:Opd}{z:AV}(ho:o.op=.field s x f)(hf:Jtft P s f=some fd)
  (hn:ldN P fd.type=some n) (hc:cOpd x=some y) (hv:opV st (.fld fd.offset n y)=some z):VOk P st g a w o z:=by
 simp only [opV] at hv
 split at hv
 ·rename_i as hy
  obtain ⟨vs,hp,hl,hr⟩:=(Jtfd hs hc hy).1.agg_inv
  obtain ⟨v,h1,h2⟩:=Jtxj (P:=P) hn hl hr hv
  refine VOk.mk (v:=v) ?_ h2 h2.er
  unfold Jtft at hf
  split at hf
  ·rename_i fs hu
   unfold execOp
   simp [ho,Instr.field,run_underlying hu,hf,hp,asAgg,h1]
  ·cases hf
 ·cases hv
theorem Jtho(hs:Sim N st g a w){o:Oper}{t e:TypeId}{n:Nat}{x i:Operand}{y k:Opd}{z:AV}(ho:o.op=.indexAddr t x i)(hu:P.underlying t=some (.slice e))
  (hn:szOf P e=some n) (hc:cOpd x=some y) (hi:cOpd i=some k) (hv:opV st (.iaddr n y k)=some z):VOk P st g a w o z:=by
 obtain ⟨inf,hinf,rfl⟩:=Jt1e1 hn
 have hex:∀ (ad:Addr) (len cap:Nat) kk ix,a.eval x=.slice (some ad) len cap→a.eval i=.int kk ix→0≤ix→ix<len→
   (execOp a.eval o).run P w=.ok (.value (.pointer (some (ad.add (ix.toNat*inf.size))))) w:=by
  intro ad len cap kk ix h1 h2 h3 h4
  unfold execOp
  simp [ho,h1,h2,Instr.indexAt,asIntOf,run_underlying hu,h3,h4,Jt17f hinf]
 simp only [opV] at hv
 split at hv
 ·rename_i rows ix hy hk
  obtain ⟨kk,hki⟩:=Jt7q hs hi hk
  obtain ⟨A,cap,hA,hcs⟩:=(Jtfd hs hc hy).1.d_inv.sl_inv
  split at hv
  ·rename_i h0
   split at hv
   ·rename_i row hrow
    split at hv
    ·rename_i hlen
     injection hv with hv;subst hv
     have hlt:ix.toNat<rows.length:=(lgS.1 hrow).1
     rcases hcs with rfl | ⟨ad,esz,vs,rfl,hcap,hesz,hvl,hf,hca,hre⟩
     ·simp at hlt
     ·have he:esz=inf.size:=by rw [←hlen];exact (hesz row (lmG hrow)).symm
      subst he
      have hmul:ix.toNat*inf.size+inf.size≤rows.length*inf.size:=by
       rw [←Nat.succ_mul];exact Nat.mul_le_mul_right _ hlt
      refine VOk.mk (hex _ _ _ _ _ hA hki h0 (by omega)) (.rptr _ _ ((vs.drop (ix.toNat*inf.size)).take inf.size) ?_ ?_ ?_ ?_) rfl
      ·simp;omega
      ·have h9:=hf.drop (ix.toNat*inf.size)
       exact h9.mono (by simp;omega)
      ·exact (hca.drop _).take _
      ·intro j x' u hx' hu'
       rw [List.getElem?_take] at hu'
       split at hu'
       ·rename_i hj
        rw [List.getElem?_drop] at hu'
        refine hre (ix.toNat*inf.size+j) x' u ?_ hu'
        rw [Jtg9 rows inf.size hesz _ _ hj,hrow]
        exact hx'
       ·cases hu'
    ·cases hv
   ·cases hv
  ·cases hv
 ·rename_i b off e' len ix hy hk
  obtain ⟨kk,hki⟩:=Jt7q hs hi hk
  obtain ⟨r,cap,A,hr,hA,hcap,hne,hroom⟩:=(Jtfd hs hc hy).1.hsl_inv
  split at hv
  ·rename_i h
   injection hv with hv;subst hv
   have hA2:=hne (by omega)
   subst hA2
   exact VOk.mk (hex _ _ _ _ _ hA hki h.2.1 h.2.2) (by rw [Addr.add_lit];exact .ptr _ _ _ hr) rfl
  ·cases hv
 ·cases hv
theorem Jthm(hs:Sim N st g a w){o:Oper}{t e:TypeId}{n len:Nat}{x i:Operand}{y k:Opd}{z:AV}(ho:o.op=.indexAddr t x i)(hu:P.underlying t=some (.array len e))
  (hn:szOf P e=some n) (hc:cOpd x=some y) (hi:cOpd i=some k) (hv:opV st (.iaddrA len n y k)=some z):VOk P st g a w o z:=by
 obtain ⟨inf,hinf,rfl⟩:=Jt1e1 hn
 have hex:∀ (ad:Addr) kk ix,a.eval x=.pointer (some ad)→a.eval i=.int kk ix→0≤ix→ix<len→
   (execOp a.eval o).run P w=.ok (.value (.pointer (some (ad.add (ix.toNat*inf.size))))) w:=by
  intro ad kk ix h1 h2 h3 h4
  unfold execOp
  simp [ho,h1,h2,Instr.indexAt,asIntOf,run_underlying hu,h3,h4,Jt17f hinf,Instr.sureAddr]
 simp only [opV] at hv
 split at hv
 ·rename_i b off ix hy hk
  obtain ⟨kk,hki⟩:=Jt7q hs hi hk
  obtain ⟨r,hr,hp⟩:=(Jtfd hs hc hy).1.ptr_inv
  split at hv
  ·rename_i h
   injection hv with hv;subst hv
   exact VOk.mk (hex _ _ _ hp hki h.1 h.2) (by rw [Addr.add_lit];exact .ptr _ _ _ hr) rfl
  ·cases hv
 ·rename_i cells ix hy hk
  obtain ⟨kk,hki⟩:=Jt7q hs hi hk
  have hrel:=(Jtfd hs hc hy).1
  obtain ⟨ad,vs,hp,_⟩:=hrel.rptr_inv
  rw [hp] at hrel
  split at hv
  ·rename_i h
   injection hv with hv;subst hv
   exact VOk.mk (hex _ _ _ hp hki h.1 h.2) (hrel.rptr_drop _) rfl
  ·cases hv
 ·cases hv
theorem Jtlr(hs:Sim N st g a w){o:Oper}{t e:TypeId}{n len:Nat}{l:Option Nat}{x i:Operand}{y k:Opd}{z:AV}(ho:o.op=.index t x i)(hu:P.underlying t=some (.array len e))
  (hn:szOf P e=some n) (hl:ldN P e=some l) (hc:cOpd x=some y) (hi:cOpd i=some k) (hv:opV st (.ixA len n l y k)=some z):VOk P st g a w o z:=by
 obtain ⟨inf,hinf,rfl⟩:=Jt1e1 hn
 simp only [opV] at hv
 split at hv
 ·rename_i as ix hy hk
  obtain ⟨kk,hki⟩:=Jt7q hs hi hk
  obtain ⟨vs,hp,hlen,hr⟩:=(Jtfd hs hc hy).1.agg_inv
  split at hv
  ·rename_i h
   obtain ⟨v,h1,h2⟩:=Jtxj (P:=P) hl hlen hr hv
   refine VOk.mk (v:=v) ?_ h2 h2.er
   unfold execOp
   simp [ho,hp,hki,Instr.index,asIntOf,run_underlying hu,h.1,h.2,Jt17f hinf,h1]
  ·cases hv
 ·cases hv
theorem Jtls(hs:Sim N st g a w){o:Oper}{t:TypeId}{x i:Operand}{y k:Opd}{z:AV}(ho:o.op=.index t x i)(hu:P.underlying t=some .string)
  (hc:cOpd x=some y) (hi:cOpd i=some k) (hv:opV st (.ixS y k)=some z):VOk P st g a w o z:=by
 simp only [opV] at hv
 split at hv
 ·rename_i s ix hy hk
  obtain ⟨kk,hki⟩:=Jt7q hs hi hk
  have hp:=(Jtfd hs hc hy).1.str_inv
  split at hv
  ·rename_i h0
   rw [omS] at hv
   obtain ⟨b,hb,rfl⟩:=hv
   refine VOk.mk ?_ (.d _ _ (.int _ _)) rfl
   have hget:(⟨s.toArray⟩:ByteArray)[ix.toNat]?=some b:=by
    have hlt:=(lgS.1 hb)
    obtain ⟨h1,h2⟩:=hlt
    have hsz:ix.toNat<(⟨s.toArray⟩:ByteArray).size:=by rw [Jt9z];exact h1
    rw [getElem?_pos (⟨s.toArray⟩:ByteArray) ix.toNat hsz]
    congr 1
   unfold execOp
   simp [ho,hp,hki,Instr.index,asIntOf,run_underlying hu,h0,hget]
  ·cases hv
 ·cases hv
theorem Jtfg(hs:Sim N st g a w){o:Oper}{x:Operand}{i:Nat}{y:Opd}{z:AV}(ho:o.op=.extract x i)(hc:cOpd x=some y)(hv:opV st (.ext y i)=some z):VOk P st g a w o z:=by
 simp only [opV] at hv
 split at hv
 ·rename_i as hy
  rw [omS] at hv
  obtain ⟨z0,hv,rfl⟩:=hv
  obtain ⟨vs,hp,hl,hr⟩:=(Jtfd hs hc hy).1.tup_inv
  have hlt:i<vs.length:=by rw [hl];exact (lgS.1 hv).1
  have h2:=hr _ _ _ hv (show vs[i]?=some vs[i] by simp [hlt])
  rw [h2.er]
  refine VOk.mk (v:=vs[i]) ?_ h2 h2.er
  unfold execOp
  simp [ho,hp,Instr.extract,hlt]
 ·cases hv
theorem Jtnc(hs:Sim N st g a w){o:Oper}{c:Call}{t e:TypeId}{x:Operand}{y:Opd}{z:AV}(ho:o.op=.call c)(hcal:c.callee=.builtin .len)(hargs:c.args.toList=[x])
  (hts:c.argTypes.toList=[t]) (hu:P.underlying t=some (.slice e)) (hc:cOpd x=some y) (hv:opV st (.len y)=some z):VOk P st g a w o z:=by
 have e1:c.args=#[x]:=by rw [←hargs]
 have e2:c.argTypes=#[t]:=by rw [←hts]
 have slice:∀ A n cap,a.eval x=.slice A n cap→(execOp a.eval o).run P w=.ok (.value (.int .i64 (n:Int))) w:=by
  intro A n cap hx
  unfold execOp
  simp [ho,resolve,hcal,e1,e2,invoke,builtin,Builtin.len_,run_underlying hu,hx,goInt]
 simp only [opV] at hv
 split at hv
 ·rename_i rows hy
  injection hv with hv;subst hv
  obtain ⟨A,cap,hA,_⟩:=(Jtfd hs hc hy).1.d_inv.sl_inv
  exact VOk.mk (slice _ _ _ hA) (.d _ _ (.int _ _)) rfl
 ·rename_i b off e len hy
  injection hv with hv;subst hv
  obtain ⟨r,cap,A,hr,hA,hcap,hne,hroom⟩:=(Jtfd hs hc hy).1.hsl_inv
  exact VOk.mk (slice _ _ _ hA) (.d _ _ (.int _ _)) rfl
 ·rename_i b e hy
  injection hv with hv;subst hv
  obtain ⟨r,cap,hr,hA,hroom⟩:=(Jtfd hs hc hy).1.hsl0_inv
  exact VOk.mk (slice _ 0 _ hA) (.d _ _ (.int _ _)) rfl
 ·rename_i hy
  injection hv with hv;subst hv
  have hA:=(Jtfd hs hc hy).1.nils_inv
  exact VOk.mk (slice _ _ _ hA) (.d _ _ (.int _ _)) rfl
 ·rename_i hy
  injection hv with hv;subst hv
  obtain ⟨a',hA⟩:=(Jtfd hs hc hy).1.nile_inv
  exact VOk.mk (slice _ _ _ hA) (.d _ _ (.int _ _)) rfl
 ·cases hv
theorem Jtnb(hs:Sim N st g a w){o:Oper}{c:Call}{t:TypeId}{x:Operand}{y:Opd}{z:AV}(ho:o.op=.call c)(hcal:c.callee=.builtin .len)(hargs:c.args.toList=[x])
  (hts:c.argTypes.toList=[t]) (hu:P.underlying t=some .string) (hc:cOpd x=some y) (hv:opV st (.lenS y)=some z):VOk P st g a w o z:=by
 have e1:c.args=#[x]:=by rw [←hargs]
 have e2:c.argTypes=#[t]:=by rw [←hts]
 simp only [opV] at hv
 split at hv
 ·rename_i s hy
  injection hv with hv;subst hv
  have hA:=(Jtfd hs hc hy).1.str_inv
  refine VOk.mk ?_ (.d _ _ (.int _ _)) rfl
  unfold execOp
  simp [ho,resolve,hcal,e1,e2,invoke,builtin,Builtin.len_,run_underlying hu,hA,goInt,Jt9z]
 ·cases hv
theorem Jttx(hs:Sim N st g a w){o:Oper}{c:Call}{x1 x2:Operand}{y1 y2:Opd}{z:AV}(ho:o.op=.call c)(hcal:c.callee=.builtin .max)(hargs:c.args.toList=[x1,x2])
  (h1:cOpd x1=some y1) (h2:cOpd x2=some y2) (hv:opV st (.mx y1 y2)=some z):VOk P st g a w o z:=by
 have e1:c.args=#[x1,x2]:=by rw [←hargs]
 simp only [opV] at hv
 split at hv
 ·rename_i k p k' q hp hq
  split at hv
  ·injection hv with hv;subst hv
   refine VOk.mk ?_ (.d _ _ (.int _ _)) rfl
   unfold execOp
   simp [ho,resolve,hcal,e1,invoke,builtin,Builtin.max_,(Jtfd hs h1 hp).1.int_inv,(Jtfd hs h2 hq).1.int_inv,Builtin.max2]
  ·cases hv
 ·cases hv
theorem Jtti(hs:Sim N st g a w){o:Oper}{c:Call}{x1 x2:Operand}{y1 y2:Opd}{z:AV}(ho:o.op=.call c)(hcal:c.callee=.builtin .min)(hargs:c.args.toList=[x1,x2])
  (h1:cOpd x1=some y1) (h2:cOpd x2=some y2) (hv:opV st (.mn y1 y2)=some z):VOk P st g a w o z:=by
 have e1:c.args=#[x1,x2]:=by rw [←hargs]
 simp only [opV] at hv
 split at hv
 ·rename_i k p k' q hp hq
  split at hv
  ·injection hv with hv;subst hv
   refine VOk.mk ?_ (.d _ _ (.int _ _)) rfl
   unfold execOp
   simp [ho,resolve,hcal,e1,invoke,builtin,Builtin.min_,(Jtfd hs h1 hp).1.int_inv,(Jtfd hs h2 hq).1.int_inv,Builtin.min2]
  ·cases hv
 ·cases hv
theorem Jtff(hs:Sim N st g a w):∀ {xs:List Operand} {ys:List Opd} {zs:List AV},cOpds xs=some ys→evs st.env ys=some zs→xs.length=zs.length∧
  ∀ (j:Nat) (x:AV) (u:Value),zs[j]?=some x→(xs.map a.eval)[j]?=some u→Rel g.F g.φ w x u:=by
 intro xs
 induction xs with
 | nil=>intro ys zs h1 h2;simp [cOpds] at h1;subst h1;simp [evs] at h2;subst h2;exact ⟨rfl,fun j x u h=>by simp at h⟩
 | cons x xs ih=>
  intro ys zs h1 h2
  simp only [cOpds] at h1
  split at h1
  ·rename_i y ys' hy hys
   injection h1 with h1;subst h1
   simp only [evs] at h2
   split at h2
   ·rename_i z zs' hz hzs
    injection h2 with h2;subst h2
    obtain ⟨i1,i2⟩:=ih hys hzs
    refine ⟨by simp [i1],fun j p u hp hu=>?_⟩
    cases j with
    | zero=>simp at hp hu;subst hp;subst hu;exact (Jtfd hs hy hz).1
    | succ j=>simp only [List.getElem?_cons_succ,List.map_cons] at hp hu;exact i2 j p u hp hu
   ·cases h2
  ·cases h1
theorem Jttf(hs:Sim N st g a w){o:Oper}{f:Fn}{first caps:Array Operand}{as bs:List Opd}{z:AV}(ho:o.op=.makeFunc f first caps)(h1:cOpds first.toList=some as)
  (h2:cOpds caps.toList=some bs) (hv:opV st (.mkfn f as bs)=some z):VOk P st g a w o z:=by
 simp only [opV] at hv
 split at hv
 ·rename_i cs ds hcs hds
  injection hv with hv;subst hv
  obtain ⟨i1,i2⟩:=Jtff hs h1 hcs
  obtain ⟨j1,j2⟩:=Jtff hs h2 hds
  refine VOk.mk (v:=.func f ⟨first.toList.map a.eval⟩ ⟨caps.toList.map a.eval⟩) ?_ (.fn f cs ds _ _ (by rw [List.length_map];exact i1) i2 (by rw [List.length_map];exact j1) j2) rfl
  unfold execOp
  simp only [ho,Instr.makeFunc,Sem.run_bind,Sem.run_pure,Result.andThen_ok]
  congr 3<;>(apply Array.ext';simp)
 ·cases hv
end
theorem Jt1cv{α:Type}(cs:List α)(off:Nat)(xs:List α)(h:off+xs.length≤cs.length):(spl cs off xs).length=cs.length:=by simp [spl];omega
theorem Jt1cu{α:Type}(cs:List α)(off:Nat)(xs:List α)(h:off+xs.length≤cs.length)(j:Nat):
  (spl cs off xs)[j]?=if off≤j∧j<off+xs.length then xs[j-off]? else cs[j]?:=by
 unfold spl
 split
 ·rename_i hj
  rw [List.append_assoc,List.getElem?_append_right (by simp;omega),lgA (by simp;omega)]
  congr 1
  simp;omega
 ·rename_i hj
  by_cases h1:j<off
  ·rw [List.append_assoc,lgA (by simp;omega),List.getElem?_take,if_pos h1]
  ·rw [List.getElem?_append_right (by simp;omega),List.getElem?_drop]
   congr 1
   simp;omega
theorem Jtgh(off:Nat):∀ (l:List Value) (k:Nat) (cs:Array Value),off+k+l.length≤cs.size→
  ((l.zipIdx k).foldl (fun (cs:Array Value) (p:Value × Nat)=>cs.setIfInBounds (off+p.2) p.1) cs).toList=spl cs.toList (off+k) l:=by
 intro l
 induction l with
 | nil=>intro k cs h;simp [spl]
 | cons v l ih=>
  intro k cs h
  simp only [List.zipIdx_cons,List.foldl_cons]
  simp only [List.length_cons] at h
  rw [ih (k+1) _ (by simp;omega)]
  apply List.ext_getElem?
  intro j
  rw [Jt1cu _ _ _ (by simp;omega),Jt1cu _ _ _ (by simp;omega)]
  simp only [Array.toList_setIfInBounds,List.length_cons]
  by_cases h1:j=off+k
  ·subst h1
   rw [if_neg (by omega),if_pos (by omega),List.getElem?_set]
   simp
   omega
  ·by_cases h2:off+(k+1)≤j∧j<off+(k+1)+l.length
   ·rw [if_pos h2,if_pos (by omega),show j-(off+k)=(j-(off+(k+1)))+1 by omega]
    simp
   ·rw [if_neg h2,if_neg (by omega),List.getElem?_set,if_neg (by omega)]
section
variable {P:Program} {N:Nat} {st:ASt} {g:Gh} {a:Act} {w:World}
def RelL(F:Nat→Nat)(φ:Nat→Option Nat)(w:World)(as:List AV)(vs:List Value):Prop:=
 vs.length=as.length∧∀ (j:Nat) (x:AV) (u:Value),as[j]?=some x→vs[j]?=some u→Rel F φ w x u
theorem RelL.spl{F:Nat→Nat}{φ:Nat→Option Nat}{as bs:List AV}{vs us:List Value}(h:RelL F φ w as vs)(h':RelL F φ w bs us){off:Nat}(hle:off+bs.length≤as.length):
  RelL F φ w (spl as off bs) (spl vs off us):=by
 have h1:=h.1
 have h2:=h'.1
 refine ⟨by rw [Jt1cv _ _ _ (by omega),Jt1cv _ _ _ hle];exact h1,fun j x u hx hu=>?_⟩
 rw [Jt1cu _ _ _ hle] at hx
 rw [Jt1cu _ _ _ (by omega)] at hu
 rw [h2] at hu
 split at hx
 ·rename_i hj;rw [if_pos hj] at hu;exact h'.2 _ _ _ hx hu
 ·rename_i hj;rw [if_neg hj] at hu;exact h.2 _ _ _ hx hu
theorem Jtxu(hs:Sim N st g a w)(pl:Nat→Option (Nat × Nat)):∀ {ps:List (Nat × Operand)} {qs:List (Nat × Nat × Opd)} {z z':List AV} {zs:Array Value},cParts pl ps=some qs→
  RelL g.F g.φ w z zs.toList→place z st.env qs=some z'→∃ cs,Instr.fill pl zs (ps.map fun p=>(p.1,a.eval p.2))=some cs∧RelL g.F g.φ w z' cs.toList:=by
 intro ps
 induction ps with
 | nil=>intro qs z z' zs h1 h2 h3;simp [cParts] at h1;subst h1;simp [place] at h3;subst h3;exact ⟨zs,rfl,h2⟩
 | cons p ps ih=>
  intro qs z z' zs h1 h2 h3
  obtain ⟨i,x⟩:=p
  simp only [cParts] at h1
  split at h1
  ·rename_i y ys off n hy hys hpl
   injection h1 with h1;subst h1
   simp only [place] at h3
   split at h3
   ·rename_i v hv
    split at h3
    ·rename_i hle
     have hr:=Jtfd hs hy hv
     obtain ⟨c1,c2⟩:=hr.1.cells hr.2
     have hsz:(a.eval x).cells.size=n:=by rw [←hle.1,←c1];simp
     have hz:=h2.1
     have hsp:=h2.spl ⟨c1,c2⟩ (by rw [hle.1];exact hle.2)
     have hfold:((a.eval x).cells.zipIdx.foldl (fun cs (c,j)=>cs.setIfInBounds (off+j) c) zs).toList=spl zs.toList off (a.eval x).cells.toList:=by
      have:=Jtgh off (a.eval x).cells.toList 0 zs (by simp at hz ⊢;omega)
      rw [Nat.add_zero] at this
      rw [←this,←Array.foldl_toList,Array.toList_zipIdx]
     obtain ⟨cs,e1,e2⟩:=ih hys (zs:=(a.eval x).cells.zipIdx.foldl (fun cs (c,j)=>cs.setIfInBounds (off+j) c) zs) (by rw [hfold];exact hsp) h3
     refine ⟨cs,?_,e2⟩
     simp only [List.map_cons,Instr.fill,hpl]
     rw [if_neg]
     ·exact e1
     ·simp only [Bool.or_eq_true,decide_eq_true_eq,bne_iff_ne,ne_eq,not_or]
      simp at hz
      omega
    ·cases h3
   ·cases h3
  ·cases h1
theorem Jt9v(hs:Sim N st g a w){o:Oper}{t:TypeId}{ps:Array (Nat × Operand)} {z:List AV} {pl:Nat→Option (Nat × Nat)} {qs:List (Nat × Nat × Opd)} {r:AV} (ho:o.op=.build t ps)
  (hz:zeroOf P t=some z) (hp:Jtxv P t=some pl) (hq:cParts pl ps.toList=some qs) (hv:opV st (.build z qs)=some r):VOk P st g a w o r:=by
 simp only [opV,omS] at hv
 obtain ⟨z',hz',rfl⟩:=hv
 unfold zeroOf at hz
 split at hz
 ·rename_i i hi
  split at hz
  ·rename_i zv hzv
   obtain ⟨k1,k2⟩:=Jtue (F:=g.F) (φ:=g.φ) (w:=w) hz
   obtain ⟨cs,e1,e2⟩:=Jtxu (zs:=zv.cells) hs pl hq ⟨k1,fun j x u hx hu=>(k2 j x u hx hu).1⟩ hz'
   have hb:P.built t (ps.map fun (i,x)=>(i,a.eval x)).toList=some cs:=by
    unfold Jtxv at hp
    unfold Program.built
    split at hp
    ·rename_i fs hu
     split at hp
     ·rename_i pls hpls
      injection hp with hp;subst hp
      simp only [hi,hu,hzv,hpls]
      simpa using e1
     ·cases hp
    ·rename_i n e hu
     split at hp
     ·rename_i ie hie
      injection hp with hp;subst hp
      simp only [hi,hu,hzv,hie]
      simpa using e1
     ·cases hp
    ·cases hp
   refine VOk.mk (v:=.agg cs) ?_ ?_ rfl
   ·unfold execOp
    simp only [ho,Sem.run_bind,run_build w t _ cs hb,Result.andThen_ok,Sem.run_pure]
   ·have:=Rel.agg (F:=g.F) (φ:=g.φ) (w:=w) z' cs.toList e2.1 e2.2
    simpa using this
  ·cases hz
 ·cases hz
theorem Jt9u(hs:Sim N st g a w){n cap:Nat}{isS:Bool}{lo hi:Option Operand}{lo' hi':Option Opd}{l h:Nat}(h1:cOpt lo=some lo')(h2:cOpt hi=some hi')
  (hb:bnds st.env n lo' hi'=some (l,h)) (hn:n≤cap):(Instr.sliceBounds isS n cap (lo.map a.eval) (hi.map a.eval) none).run P w=.ok (l,h,cap) w∧l≤h∧h≤n:=by
 unfold bnds at hb
 split at hb
 ·rename_i li hii hl hh
  split at hb
  ·rename_i hc
   injection hb with hb;injection hb with hb1 hb2;subst hb1;subst hb2
   refine ⟨?_,by omega,by omega⟩
   have hz:∀ (k:IntKind) (i:Int) (y:Nat) (c:BoundsCode),0≤i→i≤y→(Instr.sliceBound (.int k i) y c).run P w=.ok i.toNat w:=by
    intro k i y c h0 h9
    simp [Instr.sliceBound,asIntOf,h0,h9]
   unfold Instr.sliceBounds
   rcases Jta9 h1 with ⟨rfl,rfl⟩ | ⟨x,y,rfl,rfl,hxy⟩<;>rcases Jta9 h2 with ⟨rfl,rfl⟩ | ⟨x',y',rfl,rfl,hxy'⟩
   ·simp only [Option.some.injEq] at hl hh;subst hl;subst hh;simp
   ·simp only [Option.some.injEq] at hl;subst hl
    obtain ⟨k,hk⟩:=Jt7q hs hxy' hh
    simp only [Option.map_some,Option.map_none,Sem.run_bind,Sem.run_pure,Result.andThen_ok,hk,hz k hii cap _ (by omega) (by omega)]
    simp
   ·simp only [Option.some.injEq] at hh;subst hh
    obtain ⟨k,hk⟩:=Jt7q hs hxy hl
    simp only [Option.map_some,Option.map_none,Sem.run_bind,Sem.run_pure,Result.andThen_ok,hk,hz k li n _ (by omega) (by omega)]
    simp
   ·obtain ⟨k,hk⟩:=Jt7q hs hxy hl
    obtain ⟨k',hk'⟩:=Jt7q hs hxy' hh
    simp only [Option.map_some,Sem.run_bind,Sem.run_pure,Result.andThen_ok,hk,hk',hz k' hii cap _ (by omega) (by omega),hz k li hii.toNat _ (by omega) (by omega)]
  ·cases hb
 ·cases hb
theorem Jt184(hs:Sim N st g a w){o:Oper}{t e:TypeId}{x:Operand}{lo hi:Option Operand}{y:Opd}{lo' hi':Option Opd}{n:Nat}{z:AV}(ho:o.op=.slice t x lo hi none)
  (hu:P.underlying t=some (.slice e)) (hn:szOf P e=some n) (hc:cOpd x=some y) (h1:cOpt lo=some lo') (h2:cOpt hi=some hi') (hv:opV st (.slc n y lo' hi')=some z) :
  VOk P st g a w o z:=by
 obtain ⟨inf,hinf,rfl⟩:=Jt1e1 hn
 have hex:∀ A len cap l h,a.eval x=.slice A len cap→bnds st.env len lo' hi'=some (l,h)→len≤cap→l≤h∧h≤len∧
   (execOp a.eval o).run P w=.ok (.value (.slice (if cap=l then A else A.map (·.add (l*inf.size))) (h-l) (cap-l))) w:=by
  intro A len cap l h hx hb hcap
  obtain ⟨b1,b2,b3⟩:=Jt9u (P:=P) (isS:=true) hs h1 h2 hb hcap
  refine ⟨b2,b3,?_⟩
  unfold execOp
  simp [ho,Instr.sliceAt,run_underlying hu,Instr.slice,hx,b1,Jt17f hinf]
 simp only [opV] at hv
 split at hv
 ·rename_i rows hy
  obtain ⟨A,cap,hA,hcs⟩:=(Jtfd hs hc hy).1.d_inv.sl_inv
  split at hv
  ·rename_i l h hb
   split at hv
   ·rename_i hall
    injection hv with hv;subst hv
    have hcap0:rows.length≤cap:=by
     rcases hcs with rfl | ⟨ad,esz,vs,rfl,hcap,_⟩
     ·simp
     ·exact hcap
    rcases hcs with rfl | ⟨ad,esz,vs,rfl,hcap,hesz,hvl,hf,hca,hre⟩
    ·obtain ⟨b2,b3,hrun⟩:=hex _ _ _ _ _ hA hb hcap0
     have e1:l=0:=by simp at b3;omega
     have e2:h=0:=by simp at b3;omega
     subst e1;subst e2
     refine VOk.mk hrun (.d _ _ ?_) rfl
     exact .nil _ _
    ·obtain ⟨b2,b3,hrun⟩:=hex _ _ _ _ _ hA hb hcap
     by_cases hlh:l=h
     ·subst hlh
      refine VOk.mk hrun (.d _ _ ?_) rfl
      have:(rows.take l).drop l=[]:=by apply List.eq_nil_of_length_eq_zero;simp
      rw [this,Nat.sub_self]
      exact .nil _ _
     ·have hcl:cap≠l:=by omega
      rw [if_neg hcl] at hrun
      have hlen:((rows.take h).drop l).length=h-l:=by simp;omega
      have hm1:h*inf.size≤rows.length*inf.size:=Nat.mul_le_mul_right _ b3
      have hm2:l*inf.size≤h*inf.size:=Nat.mul_le_mul_right _ b2
      have hesz2:esz=inf.size∨rows=[]:=by
       cases rows with
       | nil=>exact .inr rfl
       | cons r rs=>exact .inl ((hesz r (by simp)).symm.trans (hall r (by simp)))
      rcases hesz2 with rfl | rfl
      case inr=>simp at b3;omega
      refine VOk.mk hrun (.d _ _ ?_) rfl
      have hmem:∀ r∈(rows.take h).drop l,r.length=inf.size:=fun r hr=>hesz r (List.mem_of_mem_take (List.mem_of_mem_drop hr))
      rw [←hlen]
      refine .sl _ _ _ inf.size ((vs.drop (l*inf.size)).take ((h-l)*inf.size)) hmem ?_ (by rw [hlen];omega) ?_ ?_ ?_
      ·rw [hlen,List.length_take,List.length_drop,hvl,Nat.sub_mul];omega
      ·have:=hf.drop (l*inf.size)
       exact this.mono (by simp;omega)
      ·exact (hca.drop _).take _
      ·intro j x' u hx' hu'
       rw [List.getElem?_take] at hu'
       split at hu'
       ·rename_i hj
        rw [List.getElem?_drop] at hu'
        refine hre _ x' u ?_ hu'
        have hpos:0<inf.size:=by
         rcases Nat.eq_zero_or_pos inf.size with h0 | h0
         ·rw [h0] at hj;simp at hj
         ·exact h0
        have hdm:j=(j / inf.size)*inf.size+j % inf.size:=by rw [Nat.mul_comm];exact (Nat.div_add_mod j inf.size).symm
        have hmod:j % inf.size<inf.size:=Nat.mod_lt _ hpos
        have hdiv:j / inf.size<h-l:=by rw [Nat.div_lt_iff_lt_mul hpos];exact hj
        rw [hdm,Jtg9 _ inf.size hmem _ _ hmod] at hx'
        rw [hdm,←Nat.add_assoc,←Nat.add_mul,Jtg9 rows inf.size hesz _ _ hmod]
        rw [List.getElem?_drop,List.getElem?_take,if_pos (by omega)] at hx'
        exact hx'
       ·cases hu'
   ·cases hv
  ·cases hv
 ·rename_i b off e' len hy
  obtain ⟨r,cap,A,hr,hA,hcap,hne,hroom⟩:=(Jtfd hs hc hy).1.hsl_inv
  split at hv
  ·rename_i l h hb
   split at hv
   ·rename_i he
    subst he
    injection hv with hv;subst hv
    obtain ⟨b2,b3,hrun⟩:=hex _ _ _ _ _ hA hb hcap
    refine VOk.mk hrun (.hsl _ _ _ _ r _ _ hr (by omega) ?_ ?_) rfl
    ·intro hnz
     rw [if_neg (by omega),hne (by omega)]
     simp [Addr.add_lit]
    ·intro hnz
     have h1:=hroom (by omega)
     have h2:l*inf.size+(cap-l)*inf.size=cap*inf.size:=by rw [←Nat.add_mul];congr 1;omega
     omega
   ·cases hv
  ·cases hv
 ·cases hv
theorem Jt182(hs:Sim N st g a w){o:Oper}{t e:TypeId}{x:Operand}{lo:Option Operand}{k1 k2:IntKind}{y:Opd}{n:Nat}{z:AV}(ho:o.op=.slice t x lo (some (.const (.int k1 0))) (some (.const (.int k2 0))))
  (hlo:lo=none∨∃ k,lo=some (.const (.int k 0))) (hu:P.underlying t=some (.slice e)) (hn:szOf P e=some n) (hc:cOpd x=some y) (hv:opV st (.slc0 y)=some z):VOk P st g a w o z:=by
 obtain ⟨inf,hinf,rfl⟩:=Jt1e1 hn
 have hex:∀ A len cap,a.eval x=.slice A len cap→(execOp a.eval o).run P w=.ok (.value (.slice A 0 0)) w:=by
  intro A len cap hx
  have ec:∀ v,a.eval (.const v)=v:=fun _=>rfl
  unfold execOp
  rcases hlo with rfl | ⟨k,rfl⟩
  ·simp [ho,Instr.sliceAt,run_underlying hu,Instr.slice,hx,Instr.sliceBounds,Instr.sliceBound,asIntOf,ec,Jt17f hinf]
  ·simp [ho,Instr.sliceAt,run_underlying hu,Instr.slice,hx,Instr.sliceBounds,Instr.sliceBound,asIntOf,ec,Jt17f hinf]
 simp only [opV] at hv
 split at hv
 ·rename_i rows hy
  injection hv with hv;subst hv
  obtain ⟨A,cap,hA,_⟩:=(Jtfd hs hc hy).1.d_inv.sl_inv
  exact VOk.mk (hex _ _ _ hA) (.nile _) rfl
 ·rename_i hy
  injection hv with hv;subst hv
  exact VOk.mk (hex _ _ _ (Jtfd hs hc hy).1.nils_inv) (.nile _) rfl
 ·rename_i hy
  injection hv with hv;subst hv
  obtain ⟨a',hA⟩:=(Jtfd hs hc hy).1.nile_inv
  exact VOk.mk (hex _ _ _ hA) (.nile _) rfl
 ·cases hv
theorem Jt183(hs:Sim N st g a w){o:Oper}{t:TypeId}{x:Operand}{lo hi:Option Operand}{y:Opd}{lo' hi':Option Opd}{z:AV}(ho:o.op=.slice t x lo hi none)
  (hu:P.underlying t=some .string) (hc:cOpd x=some y) (h1:cOpt lo=some lo') (h2:cOpt hi=some hi') (hv:opV st (.slcS y lo' hi')=some z):VOk P st g a w o z:=by
 simp only [opV] at hv
 split at hv
 ·rename_i s hy
  have hA:=(Jtfd hs hc hy).1.str_inv
  split at hv
  ·rename_i l h hb
   injection hv with hv;subst hv
   obtain ⟨b1,b2,b3⟩:=Jt9u (P:=P) (cap:=s.length) (isS:=false) hs h1 h2 hb (Nat.le_refl _)
   refine VOk.mk (v:=.string ((⟨s.toArray⟩:ByteArray).extract l h)) ?_ (.d _ _ ?_) rfl
   ·unfold execOp
    simp [ho,Instr.sliceAt,run_underlying hu,Instr.slice,hA,Jt9z,b1]
   ·have:(⟨s.toArray⟩:ByteArray).extract l h=⟨((s.take h).drop l).toArray⟩:=by
     apply ByteArray.ext
     apply Array.ext'
     rw [Lib.extract_data]
     simp [List.drop_take]
    rw [this]
    exact .str _
  ·cases hv
 ·cases hv
end
theorem Jtf1:∀ (ks ks2:List LK) (as bs as2 bs2:List AV),as.length=ks.length→bs.length=ks.length→
  eqD (ks++ks2) (as++as2) (bs++bs2)=(eqD ks as bs).bind fun x=>(eqD ks2 as2 bs2).map (x&&·):=by
 intro ks
 induction ks with
 | nil=>
  intro ks2 as bs as2 bs2 h h'
  obtain rfl:=List.eq_nil_of_length_eq_zero h
  obtain rfl:=List.eq_nil_of_length_eq_zero h'
  simp [eqD]
 | cons k ks ih=>
  intro ks2 as bs as2 bs2 h h'
  cases as with
  | nil=>simp at h
  | cons x as=>
  cases bs with
  | nil=>simp at h'
  | cons y bs=>
   have key:∀ b:Bool,(eqD (ks++ks2) (as++as2) (bs++bs2)).map (b&&·)=((eqD ks as bs).map (b&&·)).bind fun x=>(eqD ks2 as2 bs2).map (x&&·):=by
    intro b
    rw [ih ks2 as bs as2 bs2 (by simpa using h) (by simpa using h')]
    cases eqD ks as bs with
    | none=>rfl
    | some p=>
     cases eqD ks2 as2 bs2 with
     | none=>rfl
     | some q=>simp [Bool.and_assoc]
   cases k<;>(cases x with
    | d x=>cases y with
     | d y=>cases x<;>cases y<;>simp only [List.cons_append,eqD,Option.bind_none]<;>first|exact key _ | (split<;>first|exact key _|rfl)
     | _=>simp [eqD]
    | _=>simp [eqD])
theorem Jtf2:∀ {ks:List LK} {as bs:List AV} {b:Bool},eqD ks as bs=some b→as.length=ks.length∧bs.length=ks.length:=by
 intro ks
 induction ks with
 | nil=>intro as bs b h;cases as<;>cases bs<;>simp [eqD] at h ⊢
 | cons k ks ih=>
  intro as bs b h
  have key:∀ as bs (p:Bool),(eqD ks as bs).map (p&&·)=some b→as.length=ks.length∧bs.length=ks.length:=by
   intro as bs p h
   rw [omS] at h
   obtain ⟨q,hq,_⟩:=h
   exact ih hq
  cases as with
  | nil=>cases k<;>simp [eqD] at h
  | cons x as=>
  cases bs with
  | nil=>cases k<;>(cases x<;>simp [eqD] at h)
  | cons y bs=>
   cases k<;>(cases x with
    | d x=>cases y with
     | d y=>cases x<;>cases y<;>simp only [eqD] at h<;>first | (cases h;done) | (have:=key _ _ _ h;simpa using this) | (split at h<;>first | (cases h;done) | (have:=key _ _ _ h;simpa using this))
     | _=>simp [eqD] at h
    | _=>simp [eqD] at h)
section
variable {P:Program} {w:World} {F:Nat→Nat} {φ:Nat→Option Nat}
def Jtu9(P:Program)(t:TypeId)(vs:List Value):Value:=match P.underlying t with
 | some (.struct _)=>.agg ⟨vs⟩
 | _=>vs.headD undef
theorem Jtg8{d:Nat}{t:TypeId}{n:List LK}(h:flat P d t=some n):(∃ fs,P.underlying t=some (.struct fs))∨
  ((n=[.int]∧∃ k,P.underlying t=some (.int k))∨(n=[.bool]∧P.underlying t=some .bool)∨(n=[.str]∧P.underlying t=some .string)):=by
 cases d with
 | zero=>simp [flat] at h
 | succ d=>
  unfold flat at h
  split at h
  ·rename_i k hu;injection h with h;exact .inr (.inl ⟨h.symm,k,hu⟩)
  ·rename_i hu;injection h with h;exact .inr (.inr (.inl ⟨h.symm,hu⟩))
  ·rename_i hu;injection h with h;exact .inr (.inr (.inr ⟨h.symm,hu⟩))
  ·rename_i fs hu;exact .inl ⟨fs,hu⟩
  ·cases h
theorem Jt17c{t:TypeId}{i:TypeInfo}{d off:Nat}{n:List LK}{vs:List Value}(hf:flat P d t=some n)(hi:P.info? t=some i)(hn:n.length=i.size)(hle:off+n.length≤vs.length):
  (part t ⟨vs⟩ off).run P w=.ok (Jtu9 P t ((vs.drop off).take n.length)) w:=by
 rcases Jtg8 hf with ⟨fs,hu⟩ | hu
 ·simp only [part,isAgg,Sem.run_bind,run_underlying hu,Result.andThen_ok,Sem.run_pure,if_true,Jt17f hi,←hn,Jtu9,hu]
  congr 2
  rw [List.extract_toArray]
  simp [List.extract]
 ·have h1:n.length=1:=by rcases hu with ⟨rfl,_⟩ | ⟨rfl,_⟩ | ⟨rfl,_⟩<;>rfl
  rw [h1] at hle ⊢
  have hlt:off<vs.length:=by omega
  have hh:((vs.drop off).take 1).headD undef=vs[off]:=by
   rw [List.headD_eq_head?_getD,List.head?_take,if_neg (by omega),List.head?_drop]
   simp [hlt]
  have ho:Jtu9 P t ((vs.drop off).take 1)=vs[off]:=by
   rw [←hh];unfold Jtu9
   rcases hu with ⟨_,k,hu⟩ | ⟨_,hu⟩ | ⟨_,hu⟩<;>simp [hu]
  rw [ho]
  rcases hu with ⟨_,k,hu⟩ | ⟨_,hu⟩ | ⟨_,hu⟩<;>simp [part,isAgg,run_underlying hu,hlt]
theorem RelL.drop{as:List AV}{vs:List Value}(h:RelL F φ w as vs)(m:Nat):RelL F φ w (as.drop m) (vs.drop m):=
 ⟨by simp [h.1],fun j x u hx hu=>h.2 _ _ _ (by simpa using hx) (by simpa using hu)⟩
theorem RelL.take{as:List AV}{vs:List Value}(h:RelL F φ w as vs)(m:Nat):RelL F φ w (as.take m) (vs.take m):=by
 refine ⟨by simp [h.1],fun j x u hx hu=>?_⟩
 rw [List.getElem?_take] at hx hu
 split at hx
 ·rename_i hj;rw [if_pos hj] at hu;exact h.2 _ _ _ hx hu
 ·cases hx
theorem one_eq{k:LK}{as bs:List AV}{vs us:List Value}{b:Bool}(hva:RelL F φ w as vs)(hub:RelL F φ w bs us)(heq:eqD [k] as bs=some b) :
  ∃ v u,vs=[v]∧us=[u]∧((k=.int∧∃ q m n,v=.int q m∧u=.int q n∧b=(m==n))∨(k=.bool∧∃ m n,v=.bool m∧u=.bool n∧b=(m==n))∨
   (k=.str∧∃ m n:List UInt8,v=.string ⟨m.toArray⟩∧u=.string ⟨n.toArray⟩∧b=(m==n))):=by
 obtain ⟨h1,h2⟩:=Jtf2 heq
 obtain ⟨x,rfl⟩:=List.length_eq_one_iff.1 h1
 obtain ⟨y,rfl⟩:=List.length_eq_one_iff.1 h2
 obtain ⟨v,rfl⟩:=List.length_eq_one_iff.1 (hva.1.trans h1)
 obtain ⟨u,rfl⟩:=List.length_eq_one_iff.1 (hub.1.trans h2)
 have hv:=hva.2 0 x v rfl rfl
 have hu:=hub.2 0 y u rfl rfl
 refine ⟨v,u,rfl,rfl,?_⟩
 cases k<;>(cases x with
  | d x=>cases y with
   | d y=>cases x<;>cases y<;>simp only [eqD,Option.map_some,Bool.and_true,Option.some.injEq] at heq<;>first
     | (cases heq;done)
     | (split at heq<;>first | (cases heq;done) | (rename_i hk;subst hk;injection heq with heq;exact .inl ⟨rfl,_,_,_,hv.int_inv,hu.int_inv,heq.symm⟩))
     | exact .inr (.inl ⟨rfl,_,_,hv.bool_inv,hu.bool_inv,heq.symm⟩)
     | exact .inr (.inr ⟨rfl,_,_,hv.str_inv,hu.str_inv,heq.symm⟩)
   | _=>simp [eqD] at heq
  | _=>simp [eqD] at heq)
theorem Jtf6:∀ (d dd:Nat) (t:TypeId) (n:List LK) (as bs:List AV) (vs us:List Value) (b:Bool),d≤dd→flat P d t=some n→
  RelL F φ w as vs→RelL F φ w bs us→eqD n as bs=some b→(Op.equalIn dd t (Jtu9 P t vs) (Jtu9 P t us)).run P w=.ok b w:=by
 intro d
 induction d with
 | zero=>intro dd t n as bs vs us b _ h;simp [flat] at h
 | succ d ih=>
  intro dd t n as bs vs us b hdd hf hva hub heq
  obtain ⟨dd,rfl⟩:∃ m,dd=m+1:=⟨dd-1,by omega⟩
  unfold flat at hf
  split at hf
  ·rename_i k hu
   injection hf with hf;subst hf
   obtain ⟨v,u,rfl,rfl,h⟩:=one_eq hva hub heq
   rcases h with ⟨_,q,m,n,rfl,rfl,rfl⟩ | ⟨h,_⟩ | ⟨h,_⟩
   ·simp only [Jtu9,hu,List.headD_cons];exact run_equalIn_int w dd t q k m n hu
   ·cases h
   ·cases h
  ·rename_i hu
   injection hf with hf;subst hf
   obtain ⟨v,u,rfl,rfl,h⟩:=one_eq hva hub heq
   rcases h with ⟨h,_⟩ | ⟨_,m,n,rfl,rfl,rfl⟩ | ⟨h,_⟩
   ·cases h
   ·simp only [Jtu9,hu,List.headD_cons];exact run_equalIn_bool w dd t m n hu
   ·cases h
  ·rename_i hu
   injection hf with hf;subst hf
   obtain ⟨v,u,rfl,rfl,h⟩:=one_eq hva hub heq
   rcases h with ⟨h,_⟩ | ⟨h,_⟩ | ⟨_,m,n,rfl,rfl,rfl⟩
   ·cases h
   ·cases h
   ·simp only [Jtu9,hu,List.headD_cons]
    rw [run_equalIn_string w dd t _ _ hu,go_str,go_str]
  ·rename_i fs hu
   split at hf
   ·cases hf
   rename_i hst
   have hfo:P.fieldsOf t=fs:=by simp [Program.fieldsOf,hu]
   simp only [Jtu9,hu]
   rw [run_equalIn_struct (P:=P) w dd t _ _ (by rw [hfo];exact hu) (by simpa using hst),hfo]
   suffices H:∀ (l:List Field) (acc:List LK),l.foldlM (fun acc f=>
     if f.name ≠ "_" ∧ f.offset = acc.length then match flat P d f.type, szOf P f.type with
      | some n,some m=>if n.length=m then some (acc++n) else none
      | _,_=>none
     else none) acc=some n→∃ ks,n=acc++ks∧∀ b,eqD ks (as.drop acc.length) (bs.drop acc.length)=some b→(Op.eqFields dd ⟨vs⟩ ⟨us⟩ l).run P w=.ok b w by
    obtain ⟨ks,hk,hb⟩:=H fs.toList [] hf
    simp only [List.nil_append] at hk
    subst hk
    exact hb b (by simpa using heq)
   intro l
   induction l with
   | nil=>
    intro acc hl
    simp only [List.foldlM_nil,Option.pure_def,Option.some.injEq] at hl
    subst hl
    refine ⟨[],by simp,fun b hb=>?_⟩
    have:b=true:=by
     generalize as.drop acc.length=p at hb
     generalize bs.drop acc.length=q at hb
     cases p<;>cases q<;>simp [eqD] at hb
     exact hb
    subst this
    simp [Op.eqFields]
   | cons f l ihl=>
    intro acc hl
    simp only [List.foldlM_cons,Option.bind_eq_bind] at hl
    rw [Option.bind_eq_some_iff] at hl
    obtain ⟨acc',h1,h2⟩:=hl
    split at h1
    ·rename_i hname
     split at h1
     ·rename_i kf m hkf hm
      split at h1
      ·rename_i hlen
       injection h1 with h1;subst h1
       obtain ⟨inf,hinf,rfl⟩:=Jt1e1 hm
       obtain ⟨ks,hks,hb⟩:=ihl _ h2
       refine ⟨kf++ks,by rw [hks,List.append_assoc],fun b hb2=>?_⟩
       obtain ⟨l1,l2⟩:=Jtf2 hb2
       simp only [List.length_drop,List.length_append] at l1 l2
       have ea:as.drop acc.length=(as.drop acc.length).take kf.length++as.drop (acc++kf).length:=by
        rw [List.length_append,←List.drop_drop,List.take_append_drop]
       have eb:bs.drop acc.length=(bs.drop acc.length).take kf.length++bs.drop (acc++kf).length:=by
        rw [List.length_append,←List.drop_drop,List.take_append_drop]
       rw [ea,eb,Jtf1 _ _ _ _ _ _ (by simp;omega) (by simp;omega)] at hb2
       rw [Option.bind_eq_some_iff] at hb2
       obtain ⟨p,hp,hq⟩:=hb2
       rw [omS] at hq
       obtain ⟨q,hq,rfl⟩:=hq
       have g1:=hva.1
       have g2:=hub.1
       obtain ⟨t1,t2⟩:=Jtf2 heq
       rw [hks] at t1 t2
       simp only [List.length_append] at t1 t2
       have e1:=Jt17c (P:=P) (w:=w) (off:=acc.length) (vs:=vs) hkf hinf hlen (by omega)
       have e2:=Jt17c (P:=P) (w:=w) (off:=acc.length) (vs:=us) hkf hinf hlen (by omega)
       have e3:=ih dd f.type kf _ _ _ _ p (by omega) hkf ((hva.drop acc.length).take kf.length) ((hub.drop acc.length).take kf.length) hp
       have e4:=hb q hq
       simp only [Op.eqFields,if_pos hname.1,Sem.run_bind,hname.2,e1,e2,e3,Result.andThen_ok]
       cases p
       ·simp
       ·simpa using e4
      ·cases h1
     ·cases h1
    ·cases h1
  ·cases hf
theorem Jtf5{N:Nat}{st:ASt}{g:Gh}{a:Act}(hs:Sim N st g a w){o:Oper}{neg:Bool}{t u:TypeId}{ks:List LK}{x1 x2:Operand}{y1 y2:Opd}{z:AV}
  (ho:o.op=.binOp (if neg then .neq else .eql) t x1 x2 u) (hfl:flat P 20 t=some ks) (hg:P.eqGuardType P.depth t=false) (hst:∃ fs,P.underlying t=some (.struct fs))
  (h1:cOpd x1=some y1) (h2:cOpd x2=some y2) (hv:opV st (.eqs neg ks y1 y2)=some z):VOk P st g a w o z:=by
 simp only [opV] at hv
 split at hv
 ·rename_i as bs hp hq
  rw [omS] at hv
  obtain ⟨b,hb,rfl⟩:=hv
  obtain ⟨vs,e1,l1,r1⟩:=(Jtfd hs h1 hp).1.agg_inv
  obtain ⟨us,e2,l2,r2⟩:=(Jtfd hs h2 hq).1.agg_inv
  obtain ⟨fs,hu⟩:=hst
  have h:=Jtf6 (P:=P) (w:=w) 20 Op.maxDepth t ks as bs vs us b (by unfold Op.maxDepth;omega) hfl ⟨l1,r1⟩ ⟨l2,r2⟩ hb
  simp only [Jtu9,hu] at h
  have hgd:(eqGuard (if neg then .neq else .eql) t x1 x2 (.agg ⟨vs⟩) (.agg ⟨us⟩)).run P w=.ok () w:=by
   unfold eqGuard
   cases neg<;>simp [hg]
  refine VOk.mk (v:=.bool (b != neg)) ?_ (.d _ _ (.bool _)) rfl
  unfold execOp
  simp only [ho,e1,e2,Sem.run_bind,hgd,Result.andThen_ok]
  cases neg with
  | false=>
   have:(binOp .eql t (.agg ⟨vs⟩) (.agg ⟨us⟩)).run P w=.ok (.bool b) w:=by
    simp only [binOp,Op.equal,Sem.run_bind,h,Result.andThen_ok,Sem.run_pure]
   simp [this]
  | true=>
   have:(binOp .neq t (.agg ⟨vs⟩) (.agg ⟨us⟩)).run P w=.ok (.bool !b) w:=by
    simp only [binOp,Op.equal,Sem.run_bind,h,Result.andThen_ok,Sem.run_pure]
   simp [this]
 ·cases hv
end
section
variable {P:Program} {N:Nat} {st:ASt} {g:Gh} {a:Act} {w:World}
theorem Jta0(hs:Sim N st g a w){o:Oper}{c:Call}{io:AO}{x:AV}(ho:o.op=.call c)(hc:cCall P c=some io)(hv:opV st io=some x):VOk P st g a w o x:=by
 unfold cCall at hc
 split at hc
 ·split at hc
  ·split at hc
   ·injection hc with hc;subst hc;simp [opV] at hv
   ·cases hc
  ·cases hc
 ·split at hc
  ·injection hc with hc;subst hc;simp [opV] at hv
  ·cases hc
 ·rename_i hcal
  split at hc
  ·rename_i y t hargs hts
   split at hc
   ·rename_i e hu
    obtain ⟨y',hy,rfl⟩:=Jtcb hc
    exact Jtnc hs ho hcal hargs hts hu hy hv
   ·rename_i hu
    obtain ⟨y',hy,rfl⟩:=Jtcb hc
    exact Jtnb hs ho hcal hargs hts hu hy hv
   ·rename_i n e hu
    injection hc with hc;subst hc
    simp only [opV] at hv
    injection hv with hv;subst hv
    have e1:c.args=#[y]:=by rw [←hargs]
    have e2:c.argTypes=#[t]:=by rw [←hts]
    refine VOk.mk (v:=.int .i64 n) ?_ (.d _ _ (.int _ _)) rfl
    unfold execOp
    simp [ho,resolve,hcal,e1,e2,invoke,builtin,Builtin.len_,run_underlying hu,goInt]
   ·split at hc
    ·obtain ⟨z,hz,rfl⟩:=Jtcb hc;simp [opV] at hv
    ·cases hc
   ·cases hc
  ·cases hc
 ·rename_i hcal
  split at hc
  ·rename_i y1 y2 hargs
   obtain ⟨z1,z2,h1,h2,rfl⟩:=Jtcc hc
   exact Jttx hs ho hcal hargs h1 h2 hv
  ·cases hc
 ·rename_i hcal
  split at hc
  ·rename_i y1 y2 hargs
   obtain ⟨z1,z2,h1,h2,rfl⟩:=Jtcc hc
   exact Jtti hs ho hcal hargs h1 h2 hv
  ·cases hc
 ·split at hc
  ·split at hc
   ·split at hc
    ·obtain ⟨z1,h1,rfl⟩:=Jtcb hc
     simp [opV] at hv
    ·cases hc
   ·cases hc
  ·cases hc
 ·split at hc
  ·split at hc
   ·split at hc
    ·split at hc
     ·obtain ⟨z1,z2,h1,h2,rfl⟩:=Jtcc hc
      simp [opV] at hv
     ·cases hc
    ·cases hc
   ·cases hc
  ·cases hc
 ·split at hc
  ·split at hc
   ·split at hc
    ·split at hc
     ·split at hc
      ·obtain ⟨z1,z2,h1,h2,rfl⟩:=Jtcc hc
       simp [opV] at hv
      ·cases hc
     ·cases hc
    ·cases hc
   ·cases hc
  ·cases hc
 ·cases hc
theorem Jttg(hs:Sim N st g a w){o:Oper}{t:TypeId}{u:TypeDesc}{x:Operand}{y:Opd}{z:AV}(ho:o.op=.makeInterface t x)(hu:P.underlying t=some u)(hni:∀ ms,u≠.interface ms)(hc:cOpd x=some y)
  (hv:opV st (.mkif t y)=some z):VOk P st g a w o z:=by
 simp only [opV,omS] at hv
 obtain ⟨p,hp,rfl⟩:=hv
 refine VOk.mk (v:=.iface t (a.eval x)) ?_ (.iface t p _ (Jtfd hs hc hp).1) rfl
 unfold execOp
 simp only [ho,Instr.makeInterface,Sem.run_bind,run_underlying hu,Result.andThen_ok]
 cases u<;>first|rfl|exact absurd rfl (hni _)
theorem Jtlq(hs:Sim N st g a w){o:Oper}{t:TypeId}{ms:Array (String × TypeId)} {op:BinOp} {neg:Bool} {x:Operand} {y:Opd} {z:AV} {yt:TypeId} (hop:op=if neg then .neq else .eql) (ho:o.op=.binOp op t x (.const .nilIface) yt) (hu:P.underlying t=some (.interface ms)) (hc:cOpd x=some y)
  (hv:opV st (.isnif neg y)=some z):VOk P st g a w o z:=by
 subst hop
 have hm:P.underlying t=some (.interface (P.methodsAt t)):=by
  have:P.methodsAt t=ms:=by simp [Program.methodsAt,hu]
  rw [this];exact hu
 have hcn:a.eval (.const .nilIface)=.nilIface:=rfl
 simp only [opV] at hv
 split at hv
 ·rename_i u p hp
  injection hv with hv;subst hv
  have hr:=(Jtfd hs hc hp).1
  have hx:∃ q,a.eval x=.iface u q:=by
   generalize a.eval x=q at hr
   cases hr with
   | iface _ _ q h=>exact ⟨q,rfl⟩
  obtain ⟨q,hq⟩:=hx
  refine VOk.mk (v:=.bool neg) ?_ (.d _ _ (.bool _)) rfl
  unfold execOp
  cases neg<;>simp [ho,hq,hcn,eqGuard,run_eql_held_nil w t u q hm,run_neq_held_nil w t u q hm]
 ·rename_i hp
  injection hv with hv;subst hv
  have hr:=(Jtfd hs hc hp).1
  have hq:a.eval x=.nilIface:=by
   generalize a.eval x=q at hr
   cases hr;rfl
  refine VOk.mk (v:=.bool !neg) ?_ (.d _ _ (.bool _)) rfl
  unfold execOp
  cases neg<;>simp [ho,hq,hcn,eqGuard,run_eql_nil_nil w t hm,run_neq_nil_nil w t hm]
 ·cases hv
theorem Jt1e7(hs:Sim N st g a w){o:Oper}{xt t:TypeId}{u:TypeDesc}{x:Operand}{y:Opd}{z:AV}(ho:o.op=.typeAssert x xt t true)(hu:P.underlying t=some u)(hni:∀ ms,u≠.interface ms)(hc:cOpd x=some y)
  (hv:opV st (.tas t y)=some z):VOk P st g a w o z:=by
 simp only [opV] at hv
 split at hv
 ·rename_i t' p hp
  split at hv
  ·rename_i ht
   subst ht
   injection hv with hv;subst hv
   have hr:=(Jtfd hs hc hp).1
   have hx:∃ q,a.eval x=.iface t' q∧Rel g.F g.φ w p q:=by
    generalize a.eval x=q at hr
    cases hr with
    | iface _ _ q h=>exact ⟨q,rfl,h⟩
   obtain ⟨q,hq,hpq⟩:=hx
   refine VOk.mk (v:=.tuple #[q,.bool true]) ?_ (.tup [p,.d (.bool true)] [q,.bool true] rfl fun j z v hz hv=>?_) rfl
   ·unfold execOp
    simp only [ho,hq,Instr.typeAssert,Sem.run_bind,run_underlying hu,Result.andThen_ok]
    cases u<;>first | (simp;done)|exact absurd rfl (hni _)
   ·match j with
    | 0=>simp at hz hv;subst hz;subst hv;exact hpq
    | 1=>simp at hz hv;subst hz;subst hv;exact .d _ _ (.bool _)
    | j+2=>simp at hz
  ·cases hv
 ·cases hv
theorem Jtul(hs:Sim N st g a w){o:Oper}{io:AO}{x:AV}(hc:cOp P o.op=some io)(hv:opV st io=some x):VOk P st g a w o x:=by
 cases hop:o.op<;>simp only [hop,cOp] at hc<;>first | (cases hc;done) | skip
 case move y=>obtain ⟨z,hz,rfl⟩:=Jtcb hc;exact Jttn hs hop hz hv
 case assign y=>obtain ⟨z,hz,rfl⟩:=Jtcb hc;exact Jt7r hs hop hz hv
 case pick c p q=>
  split at hc
  ·rename_i h1 h2 h3;injection hc with hc;subst hc;exact Jtxn hs hop h1 h2 h3 hv
  ·cases hc
 case alloc t=>
  split at hc
  ·injection hc with hc;subst hc;simp [opV] at hv
  ·cases hc
 case box t y=>obtain ⟨z,hz,rfl⟩:=Jtcb hc;simp [opV] at hv
 case range t y=>
  split at hc
  ·obtain ⟨z,hz,rfl⟩:=Jtcb hc;simp [opV] at hv
  ·split at hc
   ·obtain ⟨z,hz,rfl⟩:=Jtcb hc;simp [opV] at hv
   ·cases hc
  ·cases hc
 case next y s=>
  split at hc
  ·obtain ⟨z,hz,rfl⟩:=Jtcb hc;simp [opV] at hv
  ·obtain ⟨z,hz,rfl⟩:=Jtcb hc;simp [opV] at hv
 case entry y=>obtain ⟨z,hz,rfl⟩:=Jtcb hc;simp [opV] at hv
 case makeMap t rv=>
  cases rv with
  | some _=>cases hc
  | none=>
   simp only at hc
   split at hc
   ·split at hc
    ·injection hc with hc;subst hc;simp [opV] at hv
    ·cases hc
   ·cases hc
 case mapUpdate t m k v=>
  split at hc
  ·split at hc
   ·injection hc with hc;subst hc;simp [opV] at hv
   ·cases hc
  ·cases hc
 case lookup t m k ok=>
  cases ok with
  | true=>cases hc
  | false=>
   simp only at hc
   split at hc
   ·split at hc
    ·obtain ⟨z1,z2,h1,h2,rfl⟩:=Jtcc hc;simp [opV] at hv
    ·cases hc
   ·cases hc
 case build t ps=>
  split at hc
  ·rename_i hz hp
   split at hc
   ·rename_i hq;injection hc with hc;subst hc;exact Jt9v hs hop hz hp hq hv
   ·cases hc
  ·cases hc
 case buildSlice t n ps=>
  split at hc
  ·split at hc
   ·split at hc
    ·cases hc
    ·injection hc with hc;subst hc;simp [opV] at hv
   ·cases hc
  ·cases hc
 case load t y=>
  split at hc
  ·rename_i hn;obtain ⟨z,hz,rfl⟩:=Jtcb hc;exact Jtpm hs hop hn hz hv
  ·cases hc
 case store t y z=>
  split at hc
  ·obtain ⟨z1,z2,h1,h2,rfl⟩:=Jtcc hc;simp [opV] at hv
  ·cases hc
 case nilCheck y=>obtain ⟨z,hz,rfl⟩:=Jtcb hc;exact Jtu0 hs hop hz hv
 case binOp op t y z u=>
  split at hc
  ·split at hc
   ·obtain ⟨z1,h1,rfl⟩:=Jtcb hc;simp [opV] at hv
   ·cases hc
  ·split at hc
   ·obtain ⟨z1,h1,rfl⟩:=Jtcb hc;simp [opV] at hv
   ·cases hc
  ·rename_i fs hu
   split at hc
   ·rename_i ks hf hg;obtain ⟨z1,z2,h1,h2,rfl⟩:=Jtcc hc;exact Jtf5 (neg:=false) hs hop hf hg ⟨fs,hu⟩ h1 h2 hv
   ·cases hc
  ·rename_i fs hu
   split at hc
   ·rename_i ks hf hg;obtain ⟨z1,z2,h1,h2,rfl⟩:=Jtcc hc;exact Jtf5 (neg:=true) hs hop hf hg ⟨fs,hu⟩ h1 h2 hv
   ·cases hc
  ·rename_i ms hu
   split at hc
   ·obtain ⟨z1,h1,rfl⟩:=Jtcb hc;exact Jtlq (neg:=false) hs rfl hop hu h1 hv
   ·cases hc
  ·rename_i ms hu
   split at hc
   ·obtain ⟨z1,h1,rfl⟩:=Jtcb hc;exact Jtlq (neg:=true) hs rfl hop hu h1 hv
   ·cases hc
  ·rename_i hu;obtain ⟨z1,z2,h1,h2,rfl⟩:=Jtcc hc;exact Jtf4 (neg:=false) hs hop hu h1 h2 hv
  ·rename_i hu;obtain ⟨z1,z2,h1,h2,rfl⟩:=Jtcc hc;exact Jtf4 (neg:=true) hs hop hu h1 h2 hv
  ·obtain ⟨z1,z2,h1,h2,rfl⟩:=Jtcc hc;exact Jt7z hs hop h1 h2 hv
  ·obtain ⟨z1,z2,h1,h2,rfl⟩:=Jtcc hc;exact Jt7z hs hop h1 h2 hv
  ·cases hc
 case unOp op t y=>obtain ⟨z,hz,rfl⟩:=Jtcb hc;exact Jt1fg hs hop hz hv
 case convert s t y=>
  split at hc
  ·rename_i k' k h1 h2;obtain ⟨z,hz,rfl⟩:=Jtcb hc;exact Jtcn hs hop h1 h2 hz hv
  ·rename_i k' h1 h2;obtain ⟨z,hz,rfl⟩:=Jtcb hc;exact Jt17g hs hop h1 h2 hz hv
  ·rename_i e h1 h2
   split at hc
   ·rename_i he;obtain ⟨z,hz,rfl⟩:=Jtcb hc;exact Jt17i hs hop h1 he h2 hz hv
   ·rename_i he;obtain ⟨z,hz,rfl⟩:=Jtcb hc;exact Jt9w hs hop h1 he h2 hz hv
   ·cases hc
  ·cases hc
 case fieldAddr s y f=>
  split at hc
  ·rename_i fd hf
   split at hc
   ·rename_i n hn
    split at hc
    ·cases hc
    ·rename_i hn0;obtain ⟨z,hz,rfl⟩:=Jtcb hc;exact Jtfp hs hop hf hn hn0 hz hv
   ·cases hc
  ·cases hc
 case field s y f=>
  split at hc
  ·rename_i fd hf
   split at hc
   ·rename_i n hn;obtain ⟨z,hz,rfl⟩:=Jtcb hc;exact Jtge hs hop hf hn hz hv
   ·cases hc
  ·cases hc
 case indexAddr t y i=>
  split at hc
  ·rename_i e hu
   split at hc
   ·rename_i n hn;obtain ⟨z1,z2,h1,h2,rfl⟩:=Jtcc hc;exact Jtho hs hop hu hn h1 h2 hv
   ·cases hc
  ·rename_i len e hu
   split at hc
   ·rename_i n hn;obtain ⟨z1,z2,h1,h2,rfl⟩:=Jtcc hc;exact Jthm hs hop hu hn h1 h2 hv
   ·cases hc
  ·cases hc
 case index t y i=>
  split at hc
  ·rename_i len e hu
   split at hc
   ·rename_i n l hn hl;obtain ⟨z1,z2,h1,h2,rfl⟩:=Jtcc hc;exact Jtlr hs hop hu hn hl h1 h2 hv
   ·cases hc
  ·rename_i hu;obtain ⟨z1,z2,h1,h2,rfl⟩:=Jtcc hc;exact Jtls hs hop hu h1 h2 hv
  ·cases hc
 case slice t y lo hi mx=>
  cases mx with
  | some m=>
   change (if isZ hi=true∧isZ (some m)=true∧(lo=none∨isZ lo=true) then _ else none)=some io at hc
   split at hc
   ·rename_i hz
    obtain ⟨k1,rfl⟩:=Jtlp hz.1
    obtain ⟨k2,hk2⟩:=Jtlp hz.2.1
    injection hk2 with hk2;subst hk2
    have hlo:lo=none∨∃ k,lo=some (.const (.int k 0)):=hz.2.2.imp id Jtlp
    split at hc
    ·rename_i e hu
     split at hc
     ·rename_i n hn;obtain ⟨z1,h1,rfl⟩:=Jtcb hc;exact Jt182 hs hop hlo hu hn h1 hv
     ·cases hc
    ·cases hc
   ·cases hc
  | none=>
   simp only at hc
   split at hc
   ·rename_i e y' l h hu hy hl hh
    split at hc
    ·rename_i n hn;injection hc with hc;subst hc;exact Jt184 hs hop hu hn hy hl hh hv
    ·cases hc
   ·rename_i y' l h hu hy hl hh;injection hc with hc;subst hc;exact Jt183 hs hop hu hy hl hh hv
   ·cases hc
 case extract y i=>obtain ⟨z,hz,rfl⟩:=Jtcb hc;exact Jtfg hs hop hz hv
 case makeFunc f p q=>
  split at hc
  ·rename_i h1 h2;injection hc with hc;subst hc;exact Jttf hs hop h1 h2 hv
  ·cases hc
 case makeSlice t l c=>
  split at hc
  ·split at hc
   ·obtain ⟨z1,z2,h1,h2,rfl⟩:=Jtcc hc;simp [opV] at hv
   ·split at hc
    ·obtain ⟨z1,z2,h1,h2,rfl⟩:=Jtcc hc;simp [opV] at hv
    ·cases hc
   ·cases hc
  ·cases hc
 case typeAssert y xt t ok=>
  split at hc
  ·rename_i hok
   subst hok
   split at hc
   ·cases hc
   ·rename_i u hni hu;obtain ⟨z,hz,rfl⟩:=Jtcb hc;exact Jt1e7 hs hop hu (fun ms h=>hni ms h) hz hv
   ·cases hc
  ·cases hc
 case panic y=>obtain ⟨z,hz,rfl⟩:=Jtcb hc;simp [opV] at hv
 case makeInterface t y=>
  split at hc
  ·cases hc
  ·rename_i u hni hu;obtain ⟨z,hz,rfl⟩:=Jtcb hc;exact Jttg hs hop hu (fun ms h=>hni ms h) hz hv
  ·cases hc
 case call c=>exact Jta0 hs hop hc hv
end
theorem Jtgt:∀ (env:List (Nat × AV)) (t:Nat),get (unview env) t=(get env t).map AV.unview:=by
 intro env t
 induction env with
 | nil=>rfl
 | cons p r ih=>
  obtain ⟨s,x⟩:=p
  simp only [unview,get]
  split
  ·rfl
  ·exact ih
theorem Jt1fh(x:AV):x.unview.erase=x.erase:=by cases x<;>rfl
theorem Jt1fj{x:AV}{e:Nat}{rows:List (List D)}:x.unview=.own e rows↔x=.own e rows:=by cases x<;>simp [AV.unview]
theorem Jt1fi(x:AV)(org:Place)(e:Nat)(rows:List (List D)):x.unview≠.view org e rows:=by cases x<;>simp [AV.unview]
theorem Jtgk{a:Act}{d t:Nat}{v:Value}(hd:d<a.tmps.size):(a.put (some d) v).tmps.getD t undef=if t=d then v else a.tmps.getD t undef:=by
 simp only [Act.put]
 by_cases h:t=d
 ·subst h;simp [hd]
 ·rw [if_neg h]
  simp [Array.getElem?_setIfInBounds_ne (Ne.symm h)]
section
variable {N:Nat} {st:ASt} {g:Gh} {a:Act} {w:World}
theorem Jt2{p:Place}{e:Nat}{rows:List (List D)}:AP ⟨unview st.env,st.H⟩ p=some (.own e rows)↔AP st p=some (.own e rows):=by
 cases p with
 | tmp t=>
  simp only [AP,Jtgt]
  cases get st.env t with
  | none=>simp
  | some x=>simp [Jt1fj]
 | cell b j=>rfl
theorem Jt5f{φ:Nat→Option Nat}{p:Place}{r:Nat}:Owner ⟨unview st.env,st.H⟩ φ a w p r↔Owner st φ a w p r:=by
 simp only [Owner,Jt2]
theorem Jt5b{r:Nat}:Mine ⟨unview st.env,st.H⟩ g a w r↔Mine st g a w r:=by
 simp only [Mine,Jt5f]
theorem Sim.unview(hs:Sim N st g a w):Sim N ⟨unview st.env,st.H⟩ g a w where
 size:=hs.size
 env:=by
  intro t x h
  simp only [Jtgt,omS] at h
  obtain ⟨y,hy,rfl⟩:=h
  rw [Jt1fh]
  exact hs.env t y hy
 inj:=hs.inj
 lt:=hs.lt
 dom:=hs.dom
 mem:=hs.mem
 iter:=hs.iter
 glob:=hs.glob
 own:=fun p e rows v h=>hs.own p e rows v (Jt2.1 h)
 excl:=fun p p' r h h'=>hs.excl p p' r (Jt5f.1 h) (Jt5f.1 h')
 apart:=fun p r b h=>hs.apart p r b (Jt5f.1 h)
 view:=by
  intro t org e rows h
  simp only [Jtgt,omS] at h
  obtain ⟨y,hy,h⟩:=h
  exact absurd h (Jt1fi y org e rows)
theorem Jt1{d:Nat}{x:AV}{env:List (Nat × AV)} {H:List Blk} {p:Place}:AP ⟨(d,x)::env,H⟩ p=if p=.tmp d then some x else AP ⟨env,H⟩ p:=by
 cases p with
 | tmp t=>
  simp only [AP,get,Place.tmp.injEq]
  by_cases h:d=t
  ·rw [if_pos h,if_pos h.symm]
  ·rw [if_neg h,if_neg (Ne.symm h)]
 | cell b j=>simp [AP]
theorem RP_put{φ:Nat→Option Nat}{d:Nat}{v:Value}(hd:d<a.tmps.size){p:Place}:RP φ (a.put (some d) v) w p=if p=.tmp d then some v else RP φ a w p:=by
 cases p with
 | tmp t=>
  simp only [RP,Jtgk hd,Place.tmp.injEq]
  split<;>rfl
 | cell b j=>simp [RP]
theorem put_eq(d:Nat)(x:AV)(st:ASt):∃ y E,put (some d) x st=⟨(d,y)::E,st.H⟩∧y.erase=x.erase∧((y=x∧E=st.env∧∀ e rows,get st.env d≠some (.own e rows))∨(y=x.unview∧E=unview st.env)):=by
 simp only [put]
 split
 ·exact ⟨_,_,rfl,Jt1fh x,.inr ⟨rfl,rfl⟩⟩
 ·rename_i h;exact ⟨_,_,rfl,rfl,.inl ⟨rfl,rfl,fun e rows h'=>h e rows h'⟩⟩
theorem Sim.put{P:Program}(hs:Sim N st g a w){dst:Option Nat}{x:AV}{v:Value}(hd:∀ d,dst=some d→d<N)(hx:Rel g.F g.φ w x.erase v)(hv:ViewOk st g a w x v)(hno:NotOwn x):
  Sim N (put dst x st) g (a.put dst v) w∧∀ r,Mine (Go.AE.put dst x st) g (a.put dst v) w r→Mine st g a w r:=by
 cases dst with
 | none=>exact ⟨hs,fun r h=>h⟩
 | some d=>
  have hdN:=hd d rfl
  have hda:d<a.tmps.size:=Nat.lt_of_lt_of_le hdN hs.size
  obtain ⟨y,E,he,hye,hcase⟩:=put_eq d x st
  rw [he]
  have hsE:Sim N ⟨E,st.H⟩ g a w∧(∀ p e rows,AP ⟨E,st.H⟩ p=some (.own e rows)→AP st p=some (.own e rows)):=by
   rcases hcase with ⟨_,rfl,_⟩ | ⟨_,rfl⟩
   ·exact ⟨hs,fun _ _ _ h=>h⟩
   ·exact ⟨hs.unview,fun _ _ _ h=>Jt2.1 h⟩
  have hyno:∀ e rows,y≠.own e rows:=by
   rcases hcase with ⟨rfl,_⟩ | ⟨rfl,_⟩
   ·exact hno
   ·intro e rows h;exact hno e rows (Jt1fj.1 h)
  have hviews:∀ t org e rows,t≠d→get E t=some (.view org e rows)→org≠.tmp d:=by
   intro t org e rows ht hg ho
   rcases hcase with ⟨_,rfl,hn⟩ | ⟨_,rfl⟩
   ·have:=(hs.view t org e rows hg).1
    rw [ho] at this
    exact hn e rows this
   ·simp only [Jtgt,omS] at hg
    obtain ⟨z,_,hz⟩:=hg
    exact Jt1fi z _ _ _ hz
  have hap:∀ p e rows,AP ⟨(d,y)::E,st.H⟩ p=some (.own e rows)→p≠.tmp d∧AP ⟨E,st.H⟩ p=some (.own e rows):=by
   intro p e rows h
   rw [Jt1] at h
   split at h
   ·injection h with h;exact absurd h (hyno e rows)
   ·rename_i hp;exact ⟨hp,h⟩
  have hown:∀ p r,Owner ⟨(d,y)::E,st.H⟩ g.φ (a.put (some d) v) w p r→Owner ⟨E,st.H⟩ g.φ a w p r:=by
   rintro p r ⟨e,rows,u,h1,h2,h3⟩
   obtain ⟨hp,h1'⟩:=hap p e rows h1
   rw [RP_put hda,if_neg hp] at h2
   exact ⟨e,rows,u,h1',h2,h3⟩
  refine ⟨{ size:=?_,env:=?_,inj:=hs.inj,lt:=hs.lt,dom:=hs.dom,mem:=hs.mem,iter:=hs.iter,glob:=hs.glob,own:=?_,excl:=?_,apart:=?_,view:=?_},?_⟩
  ·simp [Act.put];exact hs.size
  ·intro t z hz
   rw [Jtgk hda]
   simp only [get] at hz
   by_cases ht:t=d
   ·subst ht
    rw [if_pos rfl] at hz ⊢
    injection hz with hz;subst hz
    rw [hye];exact hx
   ·rw [if_neg ht];rw [if_neg (Ne.symm ht)] at hz
    exact hsE.1.env t z hz
  ·intro p e rows u h1 h2
   obtain ⟨hp,h1'⟩:=hap p e rows h1
   rw [RP_put hda,if_neg hp] at h2
   exact hsE.1.own p e rows u h1' h2
  ·exact fun p p' r h h'=>hsE.1.excl p p' r (hown p r h) (hown p' r h')
  ·exact fun p r b h=>hsE.1.apart p r b (hown p r h)
  ·intro t org e rows h
   simp only [get] at h
   by_cases ht:t=d
   ·subst ht
    rw [if_pos rfl] at h
    injection h with h
    rcases hcase with ⟨rfl,rfl,hn⟩ | ⟨rfl,rfl⟩
    ·obtain ⟨k1,k2⟩:=hv org e rows h
     have hne:org≠.tmp t:=fun ho=>hn e rows (by rw [ho] at k1;exact k1)
     rw [Jt1,if_neg hne,RP_put hda,if_neg hne,Jtgk hda,if_pos rfl]
     exact ⟨k1,k2⟩
    ·exact absurd h (Jt1fi x org e rows)
   ·rw [if_neg (Ne.symm ht)] at h
    obtain ⟨k1,k2⟩:=hsE.1.view t org e rows h
    have hne:=hviews t org e rows ht h
    rw [Jt1,if_neg hne,RP_put hda,if_neg hne,Jtgk hda,if_neg ht]
    exact ⟨k1,k2⟩
  ·rintro r (⟨b,hb⟩ | ⟨p,hp⟩)
   ·exact .inl ⟨b,hb⟩
   ·obtain ⟨e,rows,u,h1,h2,h3⟩:=hown p r hp
    exact .inr ⟨p,e,rows,u,hsE.2 p e rows h1,h2,h3⟩
end
section
variable {N:Nat} {st:ASt} {g:Gh} {a:Act} {w:World}
structure Grew (M:Nat→Prop) (g:Gh) (w:World) (F':Nat→Nat) (w':World):Prop where
 os:w'.os=w.os
 tape:w'.tape=w.tape
 output:w'.output=w.output
 size:w.heap.size≤w'.heap.size
 block:∀ r,r<w.heap.size→M r→w'.heap[r]?=w.heap[r]?∧F' r=g.F r
 stab:Stab g.F w F' w'
theorem Grew.cell{M:Nat→Prop}{F':Nat→Nat}{w':World}(h:Grew M g w F' w'){r:Nat}(hr:r<w.heap.size)(hM:M r)(j:Nat):w'.cell? ⟨r,j,none⟩=w.cell? ⟨r,j,none⟩:=
 World.cell?_of_block (h.block r hr hM).1
theorem Jt5h{F':Nat→Nat}{w':World}(hs:Sim N st g a w)(h:Grew (Mine st g a w) g w F' w') (p:Place):RP g.φ a w' p=RP g.φ a w p:=by
 cases p with
 | tmp t=>rfl
 | cell b j=>
  simp only [RP]
  cases hb:g.φ b with
  | none=>rfl
  | some r=>simp only [Option.bind_some];exact h.cell (hs.lt b r hb).1 (.inl ⟨b,hb⟩) j
theorem Jt5e{F':Nat→Nat}{w':World}(hs:Sim N st g a w)(h:Grew (Mine st g a w) g w F' w') {p:Place} {r:Nat}:Owner st g.φ a w' p r↔Owner st g.φ a w p r:=by
 simp only [Owner,Jt5h hs h]
theorem Sim.grew{F':Nat→Nat}{w':World}(hs:Sim N st g a w)(h:Grew (Mine st g a w) g w F' w'):Sim N st ⟨g.φ,F'⟩ a w' where
 size:=hs.size
 env:=fun t x hx=>(hs.env t x hx).stab h.stab (fun _ _ h=>h)
 inj:=hs.inj
 lt:=fun b r hb=>by
  obtain ⟨h1,h2,h3⟩:=hs.lt b r hb
  exact ⟨Nat.lt_of_lt_of_le h1 h.size,by show F' r=0;rw [(h.block r h1 (.inl ⟨b,hb⟩)).2];exact h2,h3⟩
 dom:=hs.dom
 mem:=fun b cells r hb hr=>by
  obtain ⟨c,e,h1,h2,h3⟩:=hs.mem b cells r hb hr
  refine ⟨c,e,by rw [(h.block r (hs.lt b r hr).1 (.inl ⟨b,hr⟩)).1];exact h1,h2,fun j x hx=>?_⟩
  obtain ⟨k1,u,k2,k3⟩:=h3 j x hx
  exact ⟨k1,u,k2,k3.stab h.stab (fun _ _ h=>h)⟩
 iter:=fun b s pos r hb hr=>by rw [(h.block r (hs.lt b r hr).1 (.inl ⟨b,hr⟩)).1];exact hs.iter b s pos r hb hr
 glob:=fun b r0 o r hb hr=>by rw [(h.block r (hs.lt b r hr).1 (.inl ⟨b,hr⟩)).1];exact hs.glob b r0 o r hb hr
 own:=fun p e rows v h1 h2=>by
  rw [show RP (Gh.φ ⟨g.φ,F'⟩) a w' p=RP g.φ a w p from Jt5h hs h p] at h2
  rcases hs.own p e rows v h1 h2 with hn | ⟨r,cap,c,el,k1,k2,k3,k4⟩
  ·exact .inl hn
  ·have hlt:r<w.heap.size:=(Array.getElem?_eq_some_iff.1 k2).1
   have hM:Mine st g a w r:=.inr ⟨p,e,rows,v,h1,h2,_,_,k1⟩
   exact .inr ⟨r,cap,c,el,k1,by rw [(h.block r hlt hM).1];exact k2,by show F' r=_;rw [(h.block r hlt hM).2];exact k3,k4⟩
 excl:=fun p p' r h1 h2=>hs.excl p p' r ((Jt5e hs h).1 h1) ((Jt5e hs h).1 h2)
 apart:=fun p r b h1=>hs.apart p r b ((Jt5e hs h).1 h1)
 view:=fun t org e rows hg=>by
  obtain ⟨k1,k2⟩:=hs.view t org e rows hg
  exact ⟨k1,by rw [show RP (Gh.φ ⟨g.φ,F'⟩) a w' org=RP g.φ a w org from Jt5h hs h org];exact k2⟩
theorem Jt5a{F':Nat→Nat}{w':World}(hs:Sim N st g a w)(h:Grew (Mine st g a w) g w F' w') {r:Nat}:Mine st ⟨g.φ,F'⟩ a w' r↔Mine st g a w r:=by
 simp only [Mine,show ∀ p r,Owner st (Gh.φ ⟨g.φ,F'⟩) a w' p r↔Owner st g.φ a w p r from fun p r=>Jt5e hs h]
theorem Sim.owner_lt(hs:Sim N st g a w){p:Place}{r:Nat}(h:Owner st g.φ a w p r):r<w.heap.size:=by
 obtain ⟨e,rows,v,h1,h2,n,cap,rfl⟩:=h
 rcases hs.own p e rows _ h1 h2 with ⟨h3,_⟩ | ⟨r',cap',c,el,k1,k2,_⟩
 ·cases h3
 ·injection k1 with k1;injection k1 with k1;injection k1 with k1;subst k1
  exact (Array.getElem?_eq_some_iff.1 k2).1
def Gh.add(g:Gh)(n r:Nat):Gh:=⟨fun b=>if b=n then some r else g.φ b,g.F⟩
theorem φ_len(hs:Sim N st g a w):g.φ st.H.length=none:=by
 cases h:g.φ st.H.length with
 | none=>rfl
 | some r=>exact absurd (hs.lt _ _ h).2.2 (Nat.lt_irrefl _)
theorem Jt6e(hs:Sim N st g a w)(r:Nat):∀ b q,g.φ b=some q→(g.add st.H.length r).φ b=some q:=by
 intro b q h
 simp only [Gh.add]
 rw [if_neg]
 ·exact h
 ·rintro rfl;rw [φ_len hs] at h;cases h
theorem AP_app{k:Blk}(hb:∀ cells,k=.mem cells→∀ (x:AV),x∈cells→∀ e rows,x≠.own e rows) {p:Place} {e:Nat} {rows:List (List D)} :
  AP ⟨st.env,st.H++[k]⟩ p=some (.own e rows)↔AP st p=some (.own e rows):=by
 cases p with
 | tmp t=>rfl
 | cell b j=>
  simp only [AP]
  by_cases h1:b<st.H.length
  ·rw [lgA h1]
  ·rw [List.getElem?_eq_none (Nat.le_of_not_lt h1)]
   by_cases h2:b=st.H.length
   ·subst h2
    simp only [List.getElem?_append_right (Nat.le_refl _),Nat.sub_self,List.getElem?_cons_zero]
    constructor
    ·cases k with
     | mem cells=>intro h;exact absurd rfl (hb cells rfl _ (lmG h) e rows)
     | _=>intro h;cases h
    ·intro h;cases h
   ·rw [List.getElem?_eq_none (by simp;omega)]
theorem Sim.addBlk(hs:Sim N st g a w){k:Blk}{r:Nat}(hr:r<w.heap.size)(hF:g.F r=0)(hφ:∀ b,g.φ b≠some r)(ho:∀ p,¬ Owner st g.φ a w p r)
  (hno:∀ cells,k=.mem cells→∀ (x:AV),x∈cells→∀ e rows,x≠.own e rows)
  (hm:∀ cells,k=.mem cells→∃ c e,w.heap[r]?=some (.cells c e (0,0))∧cells.length≤c.size∧∀ (j:Nat) (x:AV),cells[j]?=some x→x.leaf=true∧∃ u,c[j]?=some u∧Rel g.F g.φ w x.erase u)
  (hi:∀ s pos,k=.iter s pos→w.heap[r]?=some (.stringIter ⟨s.toArray⟩ pos)) (hgl:∀ r0 o,k=.glob r0 o→r=r0∧w.heap[r]?=some o:=by intro _ _ h;cases h) :
  Sim N ⟨st.env,st.H++[k]⟩ (g.add st.H.length r) a w∧∀ q,Mine ⟨st.env,st.H++[k]⟩ (g.add st.H.length r) a w q→Mine st g a w q∨q=r:=by
 have hext:=Jt6e hs r
 have hrel:∀ {x:AV} {u:Value},Rel g.F g.φ w x u→Rel (g.add st.H.length r).F (g.add st.H.length r).φ w x u:=fun h=>h.stab (Stab.refl _ _) hext
 have hRP:∀ p e rows,AP st p=some (.own e rows)→RP (g.add st.H.length r).φ a w p=RP g.φ a w p:=by
  intro p e rows h
  cases p with
  | tmp t=>rfl
  | cell b j=>
   simp only [AP] at h
   have hb:b<st.H.length:=by
    by_cases hb:b<st.H.length
    ·exact hb
    ·rw [List.getElem?_eq_none (Nat.le_of_not_lt hb)] at h;cases h
   simp only [RP,Gh.add]
   rw [if_neg (by omega)]
 have hown:∀ p q,Owner ⟨st.env,st.H++[k]⟩ (g.add st.H.length r).φ a w p q↔Owner st g.φ a w p q:=by
  intro p q
  constructor
  ·rintro ⟨e,rows,v,h1,h2,h3⟩
   have h1':=(AP_app hno).1 h1
   exact ⟨e,rows,v,h1',by rw [←hRP p e rows h1'];exact h2,h3⟩
  ·rintro ⟨e,rows,v,h1,h2,h3⟩
   exact ⟨e,rows,v,(AP_app hno).2 h1,by rw [hRP p e rows h1];exact h2,h3⟩
 have hget:∀ b k',(st.H++[k])[b]?=some k'→(b<st.H.length∧st.H[b]?=some k')∨(b=st.H.length∧k'=k):=by
  intro b k' h
  by_cases h1:b<st.H.length
  ·rw [lgA h1] at h;exact .inl ⟨h1,h⟩
  ·have h2:b<st.H.length+1:=by have:=(lgS.1 h).1;simpa using this
   have h3:b=st.H.length:=by omega
   subst h3
   simp at h
   exact .inr ⟨rfl,h.symm⟩
 refine ⟨{ size:=hs.size,env:=fun t x hx=>hrel (hs.env t x hx),inj:=?_,lt:=?_,dom:=?_,mem:=?_,iter:=?_,glob:=?_,own:=?_,excl:=?_,apart:=?_,view:=?_},?_⟩
 ·intro b b' q h h'
  simp only [Gh.add] at h h'
  split at h<;>split at h'
  ·rename_i h1 h2;rw [h1,h2]
  ·injection h with h;subst h;exact absurd h' (hφ b')
  ·injection h' with h';subst h';exact absurd h (hφ b)
  ·exact hs.inj b b' q h h'
 ·intro b q h
  simp only [Gh.add] at h
  split at h
  ·injection h with h;subst h;rename_i hb;exact ⟨hr,hF,by simp;omega⟩
  ·obtain ⟨h1,h2,h3⟩:=hs.lt b q h;exact ⟨h1,h2,by simp;omega⟩
 ·intro b k' h hk
  rcases hget b k' h with ⟨h1,h2⟩ | ⟨rfl,rfl⟩
  ·obtain ⟨q,hq⟩:=hs.dom b k' h2 hk;exact ⟨q,hext b q hq⟩
  ·exact ⟨r,by simp [Gh.add]⟩
 ·intro b cells q h hq
  rcases hget b _ h with ⟨h1,h2⟩ | ⟨rfl,hk⟩
  ·simp only [Gh.add] at hq
   rw [if_neg (by omega)] at hq
   obtain ⟨c,e,k1,k2,k3⟩:=hs.mem b cells q h2 hq
   refine ⟨c,e,k1,k2,fun j x hx=>?_⟩
   obtain ⟨m1,u,m2,m3⟩:=k3 j x hx
   exact ⟨m1,u,m2,hrel m3⟩
  ·simp only [Gh.add,if_true] at hq
   injection hq with hq;subst hq
   obtain ⟨c,e,k1,k2,k3⟩:=hm cells hk.symm
   refine ⟨c,e,k1,k2,fun j x hx=>?_⟩
   obtain ⟨m1,u,m2,m3⟩:=k3 j x hx
   exact ⟨m1,u,m2,hrel m3⟩
 ·intro b s pos q h hq
  rcases hget b _ h with ⟨h1,h2⟩ | ⟨rfl,hk⟩
  ·simp only [Gh.add] at hq
   rw [if_neg (by omega)] at hq
   exact hs.iter b s pos q h2 hq
  ·simp only [Gh.add,if_true] at hq
   injection hq with hq;subst hq
   exact hi s pos hk.symm
 ·intro b r0 o q h hq
  rcases hget b _ h with ⟨h1,h2⟩ | ⟨rfl,hk⟩
  ·simp only [Gh.add] at hq
   rw [if_neg (by omega)] at hq
   exact hs.glob b r0 o q h2 hq
  ·simp only [Gh.add,if_true] at hq
   injection hq with hq;subst hq
   exact hgl r0 o hk.symm
 ·intro p e rows v h1 h2
  have h1':=(AP_app hno).1 h1
  exact hs.own p e rows v h1' (by rw [←hRP p e rows h1'];exact h2)
 ·exact fun p p' q h h'=>hs.excl p p' q ((hown p q).1 h) ((hown p' q).1 h')
 ·intro p q b h hb
  have h':=(hown p q).1 h
  simp only [Gh.add] at hb
  split at hb
  ·injection hb with hb;subst hb;exact ho p h'
  ·exact hs.apart p q b h' hb
 ·intro t org e rows h
  obtain ⟨k1,k2⟩:=hs.view t org e rows h
  exact ⟨(AP_app hno).2 k1,by rw [hRP org e rows k1];exact k2⟩
 ·rintro q (⟨b,hb⟩ | ⟨p,hp⟩)
  ·simp only [Gh.add] at hb
   split at hb
   ·injection hb with hb;exact .inr hb.symm
   ·exact .inl (.inl ⟨b,hb⟩)
  ·exact .inl (.inr ⟨p,(hown p q).1 hp⟩)
theorem Sim.putOwn(hs:Sim N st g a w){d:Nat}{e:Nat}{rows:List (List D)} {v:Value} (hd:d<N) (hviews:∀ t org e rows,t≠d→get st.env t=some (.view org e rows)→org≠.tmp d) (hx:Rel g.F g.φ w (.d (.sl rows)) v)
  (hv:OwnAt g.F w e rows v) (hfree:∀ r n cap,v=.slice (some ⟨r,0,none⟩) n cap→(∀ b,g.φ b≠some r)∧∀ p,p≠.tmp d→¬ Owner st g.φ a w p r) :
  Sim N ⟨(d,.own e rows)::st.env,st.H⟩ g (a.put (some d) v) w∧∀ r,Mine ⟨(d,.own e rows)::st.env,st.H⟩ g (a.put (some d) v) w r→Mine st g a w r∨∃ n cap,v=.slice (some ⟨r,0,none⟩) n cap:=by
 have hda:d<a.tmps.size:=Nat.lt_of_lt_of_le hd hs.size
 have hcase:∀ p r,Owner ⟨(d,.own e rows)::st.env,st.H⟩ g.φ (a.put (some d) v) w p r→(p=.tmp d∧∃ n cap,v=.slice (some ⟨r,0,none⟩) n cap)∨(p≠.tmp d∧Owner st g.φ a w p r):=by
  rintro p r ⟨e',rows',u,h1,h2,h3⟩
  rw [Jt1] at h1
  rw [RP_put hda] at h2
  split at h1
  ·rename_i hp
   rw [if_pos hp] at h2
   injection h2 with h2;subst h2
   exact .inl ⟨hp,h3⟩
  ·rename_i hp
   rw [if_neg hp] at h2
   exact .inr ⟨hp,e',rows',u,h1,h2,h3⟩
 refine ⟨{ size:=?_,env:=?_,inj:=hs.inj,lt:=hs.lt,dom:=hs.dom,mem:=hs.mem,iter:=hs.iter,glob:=hs.glob,own:=?_,excl:=?_,apart:=?_,view:=?_},?_⟩
 ·simp [Act.put];exact hs.size
 ·intro t z hz
  rw [Jtgk hda]
  simp only [get] at hz
  by_cases ht:t=d
  ·subst ht
   rw [if_pos rfl] at hz ⊢
   injection hz with hz;subst hz
   exact hx
  ·rw [if_neg ht];rw [if_neg (Ne.symm ht)] at hz
   exact hs.env t z hz
 ·intro p e' rows' u h1 h2
  rw [Jt1] at h1
  rw [RP_put hda] at h2
  split at h1
  ·rename_i hp
   rw [if_pos hp] at h2
   injection h1 with h1;injection h1 with h1 h1';subst h1;subst h1'
   injection h2 with h2;subst h2
   exact hv
  ·rename_i hp
   rw [if_neg hp] at h2
   exact hs.own p e' rows' u h1 h2
 ·intro p p' r h h'
  rcases hcase p r h with ⟨rfl,n,cap,h1⟩ | ⟨h1,h2⟩<;>rcases hcase p' r h' with ⟨rfl,n',cap',h1'⟩ | ⟨h1',h2'⟩
  ·rfl
  ·exact absurd h2' ((hfree r n cap h1).2 p' h1')
  ·exact absurd h2 ((hfree r n' cap' h1').2 p h1)
  ·exact hs.excl p p' r h2 h2'
 ·intro p r b h
  rcases hcase p r h with ⟨rfl,n,cap,h1⟩ | ⟨h1,h2⟩
  ·exact (hfree r n cap h1).1 b
  ·exact hs.apart p r b h2
 ·intro t org e' rows' h
  simp only [get] at h
  by_cases ht:t=d
  ·subst ht
   rw [if_pos rfl] at h
   injection h with h;cases h
  ·rw [if_neg (Ne.symm ht)] at h
   obtain ⟨k1,k2⟩:=hs.view t org e' rows' h
   have hne:=hviews t org e' rows' ht h
   rw [Jt1,if_neg hne,RP_put hda,if_neg hne,Jtgk hda,if_neg ht]
   exact ⟨k1,k2⟩
 ·rintro r (⟨b,hb⟩ | ⟨p,hp⟩)
  ·exact .inl (.inl ⟨b,hb⟩)
  ·rcases hcase p r hp with ⟨_,h⟩ | ⟨_,h⟩
   ·exact .inr h
   ·exact .inl (.inr ⟨p,h⟩)
theorem Sim.dropTmp(hs:Sim N st g a w){i e:Nat}{rows:List (List D)} (hi:get st.env i=some (.own e rows)) :
  Sim N ⟨(i,.d (.sl rows))::Go.AE.unview st.env,st.H⟩ g a w∧(∀ p r,Owner ⟨(i,.d (.sl rows))::Go.AE.unview st.env,st.H⟩ g.φ a w p r→p≠.tmp i∧Owner st g.φ a w p r):=by
 have hu:=hs.unview
 have hap:∀ p e rows',AP ⟨(i,.d (.sl rows))::Go.AE.unview st.env,st.H⟩ p=some (.own e rows')→p≠.tmp i∧AP st p=some (.own e rows'):=by
  intro p e rows' h
  rw [Jt1] at h
  split at h
  ·injection h with h;cases h
  ·rename_i hp;exact ⟨hp,Jt2.1 h⟩
 have hown:∀ p r,Owner ⟨(i,.d (.sl rows))::Go.AE.unview st.env,st.H⟩ g.φ a w p r→p≠.tmp i∧Owner st g.φ a w p r:=by
  rintro p r ⟨e,rows,u,h1,h2,h3⟩
  obtain ⟨hp,h1'⟩:=hap p e rows h1
  exact ⟨hp,e,rows,u,h1',h2,h3⟩
 refine ⟨{ size:=hs.size,env:=?_,inj:=hs.inj,lt:=hs.lt,dom:=hs.dom,mem:=hs.mem,iter:=hs.iter,glob:=hs.glob,own:=?_,excl:=?_,apart:=?_,view:=?_},hown⟩
 ·intro t z hz
  simp only [get] at hz
  split at hz
  ·rename_i ht;subst ht;injection hz with hz;subst hz;have:=hs.env i _ hi;exact this
  ·exact hu.env t z hz
 ·exact fun p e rows' v h1 h2=>hs.own p e rows' v (hap p e rows' h1).2 h2
 ·exact fun p p' r h h'=>hs.excl p p' r (hown p r h).2 (hown p' r h').2
 ·exact fun p r b h=>hs.apart p r b (hown p r h).2
 ·intro t org e' rows' h
  simp only [get] at h
  split at h
  ·injection h with h;cases h
  ·rw [Jtgt,omS] at h
   obtain ⟨z,_,hz⟩:=h
   exact absurd hz (Jt1fi z _ _ _)
theorem Sim.dropTmp1(hs:Sim N st g a w){i a0 e:Nat}{rows:List (List D)} (hi:get st.env i=some (.own e rows)) (ha:get st.env a0=some (.view (.tmp i) e rows)) (hnv:∀ t e rows,t≠a0→get st.env t≠some (.view (.tmp i) e rows)) :
  Sim N ⟨(a0,.d (.sl rows))::(i,.d (.sl rows))::st.env,st.H⟩ g a w∧(∀ p r,Owner ⟨(a0,.d (.sl rows))::(i,.d (.sl rows))::st.env,st.H⟩ g.φ a w p r→p≠.tmp i∧Owner st g.φ a w p r):=by
 have hne:a0≠i:=by rintro rfl;rw [hi] at ha;injection ha with ha;cases ha
 have hap:∀ p e rows',AP ⟨(a0,.d (.sl rows))::(i,.d (.sl rows))::st.env,st.H⟩ p=some (.own e rows')→p≠.tmp i∧AP st p=some (.own e rows'):=by
  intro p e rows' h
  rw [Jt1] at h
  split at h
  ·injection h with h;cases h
  ·rw [Jt1] at h
   split at h
   ·injection h with h;cases h
   ·rename_i hp;exact ⟨hp,h⟩
 have hown:∀ p r,Owner ⟨(a0,.d (.sl rows))::(i,.d (.sl rows))::st.env,st.H⟩ g.φ a w p r→p≠.tmp i∧Owner st g.φ a w p r:=by
  rintro p r ⟨e,rows,u,h1,h2,h3⟩
  obtain ⟨hp,h1'⟩:=hap p e rows h1
  exact ⟨hp,e,rows,u,h1',h2,h3⟩
 refine ⟨{ size:=hs.size,env:=?_,inj:=hs.inj,lt:=hs.lt,dom:=hs.dom,mem:=hs.mem,iter:=hs.iter,glob:=hs.glob,own:=?_,excl:=?_,apart:=?_,view:=?_},hown⟩
 ·intro t z hz
  simp only [get] at hz
  split at hz
  ·rename_i ht;subst ht;injection hz with hz;subst hz;have:=hs.env _ _ ha;exact this
  ·split at hz
   ·rename_i ht;subst ht;injection hz with hz;subst hz;have:=hs.env _ _ hi;exact this
   ·exact hs.env t z hz
 ·exact fun p e rows' v h1 h2=>hs.own p e rows' v (hap p e rows' h1).2 h2
 ·exact fun p p' r h h'=>hs.excl p p' r (hown p r h).2 (hown p' r h').2
 ·exact fun p r b h=>hs.apart p r b (hown p r h).2
 ·intro t org e' rows' h
  simp only [get] at h
  split at h
  ·injection h with h;cases h
  ·split at h
   ·injection h with h;cases h
   ·rename_i h1 h2
    obtain ⟨k1,k2⟩:=hs.view t org e' rows' h
    have ho1:org≠.tmp i:=by
     rintro rfl
     exact hnv t e' rows' (fun he=>h1 he.symm) h
    have ho2:org≠.tmp a0:=by
     rintro rfl
     have:get st.env a0=some (.own e' rows'):=k1
     rw [ha] at this;injection this with this;cases this
    refine ⟨?_,k2⟩
    rw [Jt1,if_neg ho2,Jt1,if_neg ho1]
    exact k1
theorem Sim.memUpdL(hs:Sim N st g a w){b r:Nat}{cells cells':List AV}{c c':Array Value}{e:TypeId}(j0:Nat)
  (hnv:∀ t org e rows,get st.env t=some (.view org e rows)→AP ⟨st.env,st.H.set b (.mem cells')⟩ org=some (.own e rows)∧RP g.φ a (w.setRow r c') org=some (a.tmps.getD t undef))
  (hb:st.H[b]?=some (.mem cells)) (hr:g.φ b=some r) (hc:w.heap[r]?=some (.cells c e (0,0))) (hlen:cells'.length≤c.size) (hsz:c'.size=c.size)
  (hrel:∀ (j:Nat) (x:AV),cells'[j]?=some x→x.leaf=true∧∃ u,c'[j]?=some u∧Rel g.F g.φ w x.erase u)
  (hold:∀ j e rows,j≠j0→cells'[j]?=some (.own e rows)→cells[j]?=some (.own e rows)∧c'[j]?=c[j]?)
  (hnew:∀ e rows,cells'[j0]?=some (.own e rows)→∃ v,c'[j0]?=some v∧OwnAt g.F w e rows v∧
   ∀ q n cap,v=.slice (some ⟨q,0,none⟩) n cap→(∀ b,g.φ b≠some q)∧∀ p,¬ Owner st g.φ a w p q) :
  Sim N ⟨st.env,st.H.set b (.mem cells')⟩ g a (w.setRow r c')∧
   (∀ q,Mine ⟨st.env,st.H.set b (.mem cells')⟩ g a (w.setRow r c') q→Mine st g a w q∨∃ e rows v n cap,cells'[j0]?=some (.own e rows)∧c'[j0]?=some v∧v=.slice (some ⟨q,0,none⟩) n cap)∧
   Tr (Mine st g a w) g w g (w.setRow r c'):=by
 have hcsz:cells.length≤c.size:=by
  obtain ⟨c1,e1,k1,k2,_⟩:=hs.block hb hr
  rw [hc] at k1
  injection k1 with k1;injection k1 with k1
  rw [k1];exact k2
 have hblt:b<st.H.length:=(lgS.1 hb).1
 have hset:∀ b',(st.H.set b (.mem cells'))[b']?=if b'=b then some (.mem cells') else st.H[b']?:=by
  intro b'
  rw [List.getElem?_set]
  by_cases h:b'=b
  ·subst h;simp [hblt]
  ·rw [if_neg (Ne.symm h),if_neg h]
 have hothr:∀ q,q≠r→(w.setRow r c').heap[q]?=w.heap[q]?:=fun q hq=>setRow_other w r q c' hq
 have hsame:(w.setRow r c').heap[r]?=some (.cells c' e (0,0)):=setRow_heap w r c c' e _ hc
 have hF:g.F r=0:=(hs.lt b r hr).2.1
 have hst:Stab g.F w g.F (w.setRow r c'):=⟨fun _ _=>Nat.le_refl _,fun q j u hj hu=>by
  by_cases hq:q=r
  ·subst hq;omega
  ·rw [World.cell?_of_block (a:=⟨q,j,none⟩) (hothr q hq)];exact hu,fun q=>by
  by_cases hq:q=r
  ·subst hq;rw [Jtcw hc,Jtcw hsame,hsz];exact Nat.le_refl _
  ·rw [Jtcx (hothr q hq)];exact Nat.le_refl _⟩
 have hrel':∀ {x:AV} {u:Value},Rel g.F g.φ w x u→Rel g.F g.φ (w.setRow r c') x u:=fun h=>h.stab hst (fun _ _ h=>h)
 have hcell:∀ j,(w.setRow r c').cell? ⟨r,j,none⟩=c'[j]?:=fun j=>cell_of_row _ r j c' e (0,0) hsame
 have hcell0:∀ j,w.cell? ⟨r,j,none⟩=c[j]?:=fun j=>cell_of_row _ r j c e (0,0) hc
 have hAP:∀ p e rows,AP ⟨st.env,st.H.set b (.mem cells')⟩ p=some (.own e rows)→(p=.cell b j0∧cells'[j0]?=some (.own e rows))∨(p≠.cell b j0∧AP st p=some (.own e rows)∧RP g.φ a (w.setRow r c') p=RP g.φ a w p):=by
  intro p e rows h
  cases p with
  | tmp t=>exact .inr ⟨by simp,h,rfl⟩
  | cell b' j=>
   simp only [AP,hset] at h
   by_cases hb':b'=b
   ·subst hb'
    rw [if_pos rfl] at h
    by_cases hj:j=j0
    ·subst hj;exact .inl ⟨rfl,h⟩
    ·obtain ⟨h1,h2⟩:=hold j e rows hj h
     refine .inr ⟨by simp [hj],by simp only [AP,hb,h1],?_⟩
     simp only [RP,hr,Option.bind_some,hcell,hcell0,h2]
   ·rw [if_neg hb'] at h
    refine .inr ⟨by simp [hb'],h,?_⟩
    simp only [RP]
    cases hq:g.φ b' with
    | none=>rfl
    | some q=>
     simp only [Option.bind_some]
     exact World.cell?_of_block (a:=⟨q,j,none⟩) (hothr q (fun he=>hb' (hs.inj _ _ q hq (by rw [he];exact hr))))
 have hO:∀ p q,Owner ⟨st.env,st.H.set b (.mem cells')⟩ g.φ a (w.setRow r c') p q→(p=.cell b j0∧∃ e rows v n cap,cells'[j0]?=some (.own e rows)∧c'[j0]?=some v∧v=.slice (some ⟨q,0,none⟩) n cap)∨
   (p≠.cell b j0∧Owner st g.φ a w p q):=by
  rintro p q ⟨e,rows,v,h1,h2,n,cap,h3⟩
  rcases hAP p e rows h1 with ⟨rfl,h⟩ | ⟨hp,h,h'⟩
  ·simp only [RP,hr,Option.bind_some,hcell] at h2
   exact .inl ⟨rfl,e,rows,v,n,cap,h,h2,h3⟩
  ·rw [h'] at h2
   exact .inr ⟨hp,e,rows,v,h,h2,n,cap,h3⟩
 have hfree:∀ q,(∃ e rows v n cap,cells'[j0]?=some (.own e rows)∧c'[j0]?=some v∧v=.slice (some ⟨q,0,none⟩) n cap)→(∀ b,g.φ b≠some q)∧∀ p,¬ Owner st g.φ a w p q:=by
  rintro q ⟨e,rows,v,n,cap,h1,h2,h3⟩
  obtain ⟨v',k1,_,k3⟩:=hnew e rows h1
  rw [h2] at k1;injection k1 with k1;subst k1
  exact k3 q n cap h3
 refine ⟨{ size:=hs.size,env:=fun t x hx=>hrel' (hs.env t x hx),inj:=hs.inj,lt:=?_,dom:=?_,mem:=?_,iter:=?_,glob:=?_,own:=?_,excl:=?_,apart:=?_,view:=?_},?_,?_⟩
 ·intro b' q h
  obtain ⟨h1,h2,h3⟩:=hs.lt b' q h
  exact ⟨by simpa using h1,h2,by simpa using h3⟩
 ·intro b' k h hk
  rw [hset] at h
  split at h
  ·rename_i hb';subst hb';exact ⟨r,hr⟩
  ·exact hs.dom b' k h hk
 ·intro b' cs q h hq
  rw [hset] at h
  split at h
  ·rename_i hb';subst hb'
   injection h with h;injection h with h;subst h
   have:q=r:=by rw [hr] at hq;injection hq with hq;exact hq.symm
   subst this
   refine ⟨c',e,hsame,by rw [hsz];exact hlen,fun j x hx=>?_⟩
   obtain ⟨k1,u,k2,k3⟩:=hrel j x hx
   exact ⟨k1,u,k2,hrel' k3⟩
  ·rename_i hb'
   obtain ⟨c1,e1,k1,k2,k3⟩:=hs.mem b' cs q h hq
   refine ⟨c1,e1,by rw [hothr q (fun he=>hb' (hs.inj _ _ q hq (by rw [he];exact hr)))];exact k1,k2,fun j x hx=>?_⟩
   obtain ⟨m1,u,m2,m3⟩:=k3 j x hx
   exact ⟨m1,u,m2,hrel' m3⟩
 ·intro b' s pos q h hq
  rw [hset] at h
  split at h
  ·cases h
  ·rename_i hb'
   rw [hothr q (fun he=>hb' (hs.inj _ _ q hq (by rw [he];exact hr)))]
   exact hs.iter b' s pos q h hq
 ·intro b' r0 o q h hq
  rw [hset] at h
  split at h
  ·cases h
  ·rename_i hb'
   rw [hothr q (fun he=>hb' (hs.inj _ _ q hq (by rw [he];exact hr)))]
   exact hs.glob b' r0 o q h hq
 ·intro p e' rows v h1 h2
  have keep:OwnAt g.F w e' rows v→(∀ q n cap,v=.slice (some ⟨q,0,none⟩) n cap→q≠r)→OwnAt g.F (w.setRow r c') e' rows v:=by
   rintro (h | ⟨q,cap,c1,e1,k1,k2,k3⟩) hq
   ·exact .inl h
   ·exact .inr ⟨q,cap,c1,e1,k1,by rw [hothr q (hq q _ _ k1)];exact k2,k3⟩
  rcases hAP p e' rows h1 with ⟨rfl,h⟩ | ⟨hp,h,h'⟩
  ·simp only [RP,hr,Option.bind_some,hcell] at h2
   obtain ⟨v',k1,k2,k3⟩:=hnew e' rows h
   rw [h2] at k1;injection k1 with k1;subst k1
   exact keep k2 fun q n cap hv he=>(k3 q n cap hv).1 b (by rw [he];exact hr)
  ·rw [h'] at h2
   exact keep (hs.own p e' rows v h h2) fun q n cap hv he=>hs.apart p q b ⟨e',rows,v,h,h2,n,cap,hv⟩ (by rw [he];exact hr)
 ·intro p p' q h h'
  rcases hO p q h with ⟨rfl,k⟩ | ⟨hp,k⟩<;>rcases hO p' q h' with ⟨rfl,k'⟩ | ⟨hp',k'⟩
  ·rfl
  ·exact absurd k' ((hfree q k).2 p')
  ·exact absurd k ((hfree q k').2 p)
  ·exact hs.excl p p' q k k'
 ·intro p q b' h
  rcases hO p q h with ⟨rfl,k⟩ | ⟨hp,k⟩
  ·exact (hfree q k).1 b'
  ·exact hs.apart p q b' k
 ·intro t org e' rows h
  exact hnv t org e' rows h
 ·rintro q (⟨b',hb'⟩ | ⟨p,hp⟩)
  ·exact .inl (.inl ⟨b',hb'⟩)
  ·rcases hO p q hp with ⟨_,k⟩ | ⟨_,k⟩
   ·exact .inr k
   ·exact .inl (.inr ⟨p,k⟩)
 ·exact ⟨rfl,rfl,rfl,by simp,fun q hq hn=>⟨hothr q (fun he=>hn (.inl ⟨b,by rw [he];exact hr⟩)),rfl⟩,hst⟩
theorem Sim.memUpd'(hs:Sim N st g a w){b r:Nat}{cells cells':List AV}{c c':Array Value}{e:TypeId}(j0:Nat)
  (hnv:∀ t org e rows,get st.env t=some (.view org e rows)→AP ⟨st.env,st.H.set b (.mem cells')⟩ org=some (.own e rows)∧RP g.φ a (w.setRow r c') org=some (a.tmps.getD t undef))
  (hb:st.H[b]?=some (.mem cells)) (hr:g.φ b=some r) (hc:w.heap[r]?=some (.cells c e (0,0))) (hlen:cells'.length=cells.length) (hsz:c'.size=c.size)
  (hrel:∀ (j:Nat) (x:AV),cells'[j]?=some x→x.leaf=true∧∃ u,c'[j]?=some u∧Rel g.F g.φ w x.erase u)
  (hold:∀ j e rows,j≠j0→cells'[j]?=some (.own e rows)→cells[j]?=some (.own e rows)∧c'[j]?=c[j]?)
  (hnew:∀ e rows,cells'[j0]?=some (.own e rows)→∃ v,c'[j0]?=some v∧OwnAt g.F w e rows v∧
   ∀ q n cap,v=.slice (some ⟨q,0,none⟩) n cap→(∀ b,g.φ b≠some q)∧∀ p,¬ Owner st g.φ a w p q) :
  Sim N ⟨st.env,st.H.set b (.mem cells')⟩ g a (w.setRow r c')∧
   (∀ q,Mine ⟨st.env,st.H.set b (.mem cells')⟩ g a (w.setRow r c') q→Mine st g a w q∨∃ e rows v n cap,cells'[j0]?=some (.own e rows)∧c'[j0]?=some v∧v=.slice (some ⟨q,0,none⟩) n cap)∧
   Tr (Mine st g a w) g w g (w.setRow r c'):=
 hs.memUpdL j0 hnv hb hr hc (by
  obtain ⟨c1,e1,k1,k2,_⟩:=hs.block hb hr
  rw [hc] at k1;injection k1 with k1;injection k1 with k1
  rw [hlen,k1];exact k2) hsz hrel hold hnew
theorem Sim.memUpd(hs:Sim N st g a w)(hnv:∀ t org e rows,get st.env t≠some (.view org e rows)) {b r:Nat} {cells cells':List AV} {c c':Array Value} {e:TypeId} (j0:Nat)
  (hb:st.H[b]?=some (.mem cells)) (hr:g.φ b=some r) (hc:w.heap[r]?=some (.cells c e (0,0))) (hlen:cells'.length=cells.length) (hsz:c'.size=c.size)
  (hrel:∀ (j:Nat) (x:AV),cells'[j]?=some x→x.leaf=true∧∃ u,c'[j]?=some u∧Rel g.F g.φ w x.erase u)
  (hold:∀ j e rows,j≠j0→cells'[j]?=some (.own e rows)→cells[j]?=some (.own e rows)∧c'[j]?=c[j]?)
  (hnew:∀ e rows,cells'[j0]?=some (.own e rows)→∃ v,c'[j0]?=some v∧OwnAt g.F w e rows v∧
   ∀ q n cap,v=.slice (some ⟨q,0,none⟩) n cap→(∀ b,g.φ b≠some q)∧∀ p,¬ Owner st g.φ a w p q) :
  Sim N ⟨st.env,st.H.set b (.mem cells')⟩ g a (w.setRow r c')∧
   (∀ q,Mine ⟨st.env,st.H.set b (.mem cells')⟩ g a (w.setRow r c') q→Mine st g a w q∨∃ e rows v n cap,cells'[j0]?=some (.own e rows)∧c'[j0]?=some v∧v=.slice (some ⟨q,0,none⟩) n cap)∧
   Tr (Mine st g a w) g w g (w.setRow r c'):=
 hs.memUpd' j0 (fun t org e rows h=>absurd h (hnv t org e rows)) hb hr hc hlen hsz hrel hold hnew
end
structure Step (st:ASt) (g:Gh) (a:Act) (w:World) (st':ASt) (g':Gh) (a':Act) (w':World):Prop where
 tr:Tr (Mine st g a w) g w g' w'
 mine:∀ r,Mine st' g' a' w' r→Mine st g a w r∨w.heap.size≤r
 φ:∀ b r,g.φ b=some r→g'.φ b=some r
 H:st.H.length≤st'.H.length
 df:a'.defers=a.defers
theorem Jty1(a:Act)(dst:Option Nat)(v:Value):(a.put dst v).defers=a.defers:=by cases dst<;>rfl
section
variable {N:Nat} {st:ASt} {g:Gh} {a:Act} {w:World}
theorem Step.trans{st1 st2:ASt}{g1 g2:Gh}{a1 a2:Act}{w1 w2:World}(h:Step st g a w st1 g1 a1 w1)(h':Step st1 g1 a1 w1 st2 g2 a2 w2):Step st g a w st2 g2 a2 w2 where
 tr:=h.tr.trans h'.tr h.mine
 mine:=fun r hr=>by
  rcases h'.mine r hr with h1 | h1
  ·exact h.mine r h1
  ·exact .inr (Nat.le_trans h.tr.size h1)
 φ:=fun b r hb=>h'.φ b r (h.φ b r hb)
 H:=Nat.le_trans h.H h'.H
 df:=h'.df.trans h.df
theorem Step.same{st':ASt}{a':Act}(hm:∀ r,Mine st' g a' w r→Mine st g a w r)(hH:st'.H=st.H)(hd:a'.defers=a.defers:=by first|rfl|exact Jty1 _ _ _):Step st g a w st' g a' w:=
 ⟨Tr.refl _ _ _,fun r hr=>.inl (hm r hr),fun _ _ h=>h,by rw [hH];exact Nat.le_refl _,hd⟩
def Gh.setF(g:Gh)(r n:Nat):Gh:=⟨g.φ,fun q=>if q=r then n else g.F q⟩
theorem Jth3(M:Nat→Prop)(o:Obj)(n:Nat):Grew M g w (g.setF w.heap.size n).F (w.alloc o) where
 os:=rfl
 tape:=rfl
 output:=rfl
 size:=by simp
 block:=fun r hr _=>⟨heap_alloc_old w o hr,by simp only [Gh.setF];rw [if_neg (by omega)]⟩
 stab:=⟨fun r hr=>by simp only [Gh.setF];rw [if_neg (by omega)];exact Nat.le_refl _,fun r j u _ hu=>by
  rw [World.cell?_of_block (a:=⟨r,j,none⟩) (heap_alloc_old w o (World.block_lt_of_cell? w ⟨r,j,none⟩ hu))];exact hu,Jtcv fun r hr=>heap_alloc_old w o hr⟩
theorem Sim.fresh(hs:Sim N st g a w):(∀ b,g.φ b≠some w.heap.size)∧∀ p,¬ Owner st g.φ a w p w.heap.size:=
 ⟨fun b h=>Nat.lt_irrefl _ (hs.lt b _ h).1,fun p h=>Nat.lt_irrefl _ (hs.owner_lt h)⟩
theorem Sim.newBlkW(hs:Sim N st g a w){cells:List AV}{c:Array Value}{e:TypeId}(hsz:cells.length≤c.size)(hr:∀ (j:Nat) (x:AV) (u:Value),cells[j]?=some x→c[j]?=some u→Rel g.F g.φ w x u) (hl:cells.all AV.leaf=true) (hno:∀ x∈cells,∀ e rows,x≠AV.own e rows) :
  ∃ g',Sim N ⟨st.env,st.H++[.mem cells]⟩ g' a (w.alloc (.cells c e))∧Step st g a w ⟨st.env,st.H++[.mem cells]⟩ g' a (w.alloc (.cells c e))∧
   Rel g'.F g'.φ (w.alloc (.cells c e)) (.ptr st.H.length 0) (.pointer (some ⟨w.heap.size,0,none⟩)):=by
 have hg:=Jth3 (g:=g) (w:=w) (Mine st g a w) (.cells c e) 0
 have hs1:=hs.grew hg
 have hfresh:=hs.fresh
 have hs2:=hs1.addBlk (k:=.mem cells) (r:=w.heap.size) (by simp) (by simp [Gh.setF]) hfresh.1
  (fun p h=>hfresh.2 p ((Jt5e hs hg).1 h)) (fun cs h x hx e rows=>by injection h with h;subst h;exact hno x hx e rows)
  (fun cs h=>by
   injection h with h;subst h
   refine ⟨c,e,heap_alloc_new w _,hsz,fun j x hx=>?_⟩
   have hlt:j<c.size:=Nat.lt_of_lt_of_le (lgS.1 hx).1 hsz
   have hu:c[j]?=some c[j]:=by simp [hlt]
   have hrel:=hr j x _ hx hu
   refine ⟨List.all_eq_true.1 hl x (lmG hx),c[j],hu,?_⟩
   rw [hrel.er]
   exact hrel.stab hg.stab (fun _ _ h=>h)) (fun s p h=>by cases h)
 refine ⟨_,hs2.1,⟨⟨rfl,rfl,rfl,by simp,fun r hr _=>⟨heap_alloc_old w _ hr,by simp only [Gh.add,Gh.setF];rw [if_neg (by omega)]⟩,hg.stab⟩,fun r h=>?_,fun b r h=>?_,by simp,rfl⟩,?_⟩
 ·rcases hs2.2 r h with h1 | h1
  ·exact .inl ((Jt5a hs hg).1 h1)
  ·exact .inr (by omega)
 ·exact Jt6e hs1 _ b r h
 ·exact .ptr _ _ _ (by simp [Gh.add])
theorem Sim.newBlk(hs:Sim N st g a w){cells:List AV}{c:Array Value}{e:TypeId}(hr:RelL g.F g.φ w cells c.toList)(hl:cells.all AV.leaf=true)(hno:∀ x∈cells,∀ e rows,x≠AV.own e rows):
  ∃ g',Sim N ⟨st.env,st.H++[.mem cells]⟩ g' a (w.alloc (.cells c e))∧Step st g a w ⟨st.env,st.H++[.mem cells]⟩ g' a (w.alloc (.cells c e))∧
   Rel g'.F g'.φ (w.alloc (.cells c e)) (.ptr st.H.length 0) (.pointer (some ⟨w.heap.size,0,none⟩)):=
 hs.newBlkW (by have:=hr.1;simp at this;omega) (fun j x u hx hu=>hr.2 j x u hx (by rw [Array.getElem?_toList];exact hu)) hl hno
theorem Sim.putO(hs:Sim N st g a w){d:Nat}{e:Nat}{rows:List (List D)} {v:Value} (hd:d<N) (hx:Rel g.F g.φ w (.d (.sl rows)) v)
  (hv:OwnAt g.F w e rows v) (hfree:∀ r n cap,v=.slice (some ⟨r,0,none⟩) n cap→(∀ b,g.φ b≠some r)∧∀ p,p≠.tmp d→¬ Owner st g.φ a w p r) :
  Sim N (Go.AE.put (some d) (.own e rows) st) g (a.put (some d) v) w∧
   ∀ r,Mine (Go.AE.put (some d) (.own e rows) st) g (a.put (some d) v) w r→Mine st g a w r∨∃ n cap,v=.slice (some ⟨r,0,none⟩) n cap:=by
 simp only [Go.AE.put]
 split
 ·have hu:=hs.unview
  have h:=hu.putOwn hd (fun t org e rows _ hg=>by
   rw [Jtgt,omS] at hg
   obtain ⟨z,_,hz⟩:=hg
   exact absurd hz (Jt1fi z _ _ _)) hx hv (fun r n cap h=>⟨(hfree r n cap h).1,fun p hp ho=>(hfree r n cap h).2 p hp (Jt5f.1 ho)⟩)
  refine ⟨h.1,fun r hr=>?_⟩
  rcases h.2 r hr with h1 | h1
  ·exact .inl (Jt5b.1 h1)
  ·exact .inr h1
 ·rename_i hno
  exact hs.putOwn hd (fun t org e rows _ hg ho=>by
   have:=(hs.view t org e rows hg).1
   rw [ho] at this
   exact hno e rows this) hx hv hfree
theorem Sim.newOwn(hs:Sim N st g a w){dst:Option Nat}(hd:∀ d,dst=some d→d<N){e:TypeId}{esz n cap:Nat}{rows:List (List D)} {c:Array Value} (hn:rows.length=n)
  (hesz:∀ r∈rows,r.length=esz) (hsz:c.size=cap*esz) (hcap:n≤cap) (hm:cap≤maxLen) (hr:∀ (j:Nat) (x:D) (u:Value),rows.flatten[j]?=some x→c[j]?=some u→PRel g.F w x u) :
  ∃ g',Sim N (Go.AE.put dst (.own esz rows) st) g' (a.put dst (.slice (some ⟨w.heap.size,0,none⟩) n cap)) (w.alloc (.cells c e))∧
   Step st g a w (Go.AE.put dst (.own esz rows) st) g' (a.put dst (.slice (some ⟨w.heap.size,0,none⟩) n cap)) (w.alloc (.cells c e))∧g'.φ=g.φ:=by
 subst hn
 have hg:=Jth3 (g:=g) (w:=w) (Mine st g a w) (.cells c e) (rows.length*esz)
 have hs1:=hs.grew hg
 have hfresh:=hs.fresh
 have htr:Tr (Mine st g a w) g w ⟨g.φ,(g.setF w.heap.size (rows.length*esz)).F⟩ (w.alloc (.cells c e)):=
  ⟨rfl,rfl,rfl,by simp,fun r hr _=>⟨heap_alloc_old w _ hr,by simp only [Gh.setF];rw [if_neg (by omega)]⟩,hg.stab⟩
 have hle:rows.length*esz≤c.size:=by rw [hsz];exact Nat.mul_le_mul_right _ hcap
 have hrel:Rel (g.setF w.heap.size (rows.length*esz)).F g.φ (w.alloc (.cells c e)) (.d (.sl rows)) (.slice (some ⟨w.heap.size,0,none⟩) rows.length cap):=by
  refine .d _ _ (.sl rows ⟨w.heap.size,0,none⟩ cap esz (c.toList.take (rows.length*esz)) hesz (by simp;omega) hcap ?_ ?_ ?_)
  ·intro j hj
   simp only [Gh.setF,if_true]
   simp at hj
   omega
  ·intro j u hu
   rw [List.getElem?_take] at hu
   split at hu
   ·rw [Addr.add_lit,Nat.zero_add,World.cell?_alloc_new]
    rw [Array.getElem?_toList] at hu;exact hu
   ·cases hu
  ·intro j x u hx hu
   rw [List.getElem?_take] at hu
   split at hu
   ·rw [Array.getElem?_toList] at hu
    exact (hr j x u hx hu).stab hg.stab
   ·cases hu
 cases dst with
 | none=>exact ⟨_,hs1,⟨htr,fun r h=>.inl ((Jt5a hs hg).1 h),fun _ _ h=>h,Nat.le_refl _,rfl⟩,rfl⟩
 | some d=>
  have h:=hs1.putO (e:=esz) (v:=.slice (some ⟨w.heap.size,0,none⟩) rows.length cap) (hd d rfl) hrel
   (.inr ⟨_,cap,c,e,rfl,heap_alloc_new w _,by simp [Gh.setF],hcap,hm,hsz,hesz⟩)
   (fun r n cap' h=>by
    injection h with h;injection h with h;injection h with h;subst h
    exact ⟨hfresh.1,fun p _ ho=>hfresh.2 p ((Jt5e hs hg).1 ho)⟩)
  refine ⟨_,h.1,⟨htr,fun r hr=>?_,fun _ _ h=>h,?_,Jty1 _ _ _⟩,rfl⟩
  ·rcases h.2 r hr with h1 | ⟨n,cap',h1⟩
   ·exact .inl ((Jt5a hs hg).1 h1)
   ·injection h1 with h1;injection h1 with h1;injection h1 with h1
    exact .inr (by omega)
  ·obtain ⟨y,E,he,_⟩:=put_eq d (.own esz rows) st
   rw [he];exact Nat.le_refl _
end
section
variable {P:Program} {N:Nat} {st:ASt} {g:Gh} {a:Act} {w:World}
theorem Jt177(t ty e te:TypeId)(i:TypeInfo)(ht:P.underlying t=some (.slice e)) (hi:P.info? e=some i)
  (r sLen sCap:Nat) (cur:Array Value) (hg:w.heap[r]?=some (.cells cur te (0,0)))
  (A:Option Addr) (m c:Nat) (news:List Value) (hl:news.length=m*i.size) (hnews:news=[]∨∃ ad,A=some ad∧Jtah w ad news) (hm:A=none→m=0) (h1:∀ u∈news,u.oneCell'=true)
  (hroom:sLen+m≤sCap) (hfit:sLen*i.size+news.length≤cur.size) :
  (Builtin.append_ #[t,t] ty #[.slice (some ⟨r,0,none⟩) sLen sCap,.slice A m c]).run P w =
   .ok (.slice (some ⟨r,0,none⟩) (sLen+m) sCap) (w.setRow r (cur.toList.take (sLen*i.size)++news++cur.toList.drop (sLen*i.size+news.length)).toArray):=by
 have hf:(Builtin.firstCells i.size m (.slice A m c)).run P w=.ok news.toArray w:=by
  cases A with
  | none=>
   have:=hm rfl
   subst this
   have:news=[]:=List.eq_nil_of_length_eq_zero (by simpa using hl)
   subst this
   simp [Builtin.firstCells]
  | some ad=>
   rcases hnews with rfl | ⟨ad',h,hca⟩
   ·have hz:m*i.size=0:=by simpa using hl.symm
    simp [Builtin.firstCells,hz,loadCells,loadCellsFrom]
   ·injection h with h;subst h
    exact run_firstCells_some w i.size m ad m c news hl hca
 have hst:=run_storeCells_at P r (sLen*i.size) te news 0 cur w hg (by simpa using hfit) h1
 simp only [Nat.add_zero] at hst
 simp [Builtin.append_,run_underlying ht,sizeOf,typeInfo,hi,Builtin.lenOf,hroom,hf,Addr.add_lit,hst]
theorem Sim.dropOwn(hs:Sim N st g a w){org:Place}{e:Nat}{rows:List (List D)} (ho:AP st org=some (.own e rows)) :
  Sim N (Go.AE.dropOwn org rows st) g a w∧(∀ p r,Owner (Go.AE.dropOwn org rows st) g.φ a w p r→p≠org∧Owner st g.φ a w p r)∧
   (∀ t o e rows',get (Go.AE.dropOwn org rows st).env t≠some (.view o e rows'))∧(Go.AE.dropOwn org rows st).H.length=st.H.length:=by
 cases org with
 | tmp t=>
  obtain ⟨h1,h2⟩:=hs.dropTmp ho
  refine ⟨h1,h2,?_,rfl⟩
  intro t' o e' rows' h
  simp only [Go.AE.dropOwn,get] at h
  split at h
  ·injection h with h;cases h
  ·rw [Jtgt,omS] at h
   obtain ⟨z,_,hz⟩:=h
   exact Jt1fi z _ _ _ hz
 | cell b j=>
  simp only [AP] at ho
  split at ho
  ·rename_i cells hb
   obtain ⟨r,hr⟩:=hs.dom b _ hb (by simp)
   obtain ⟨c,te,hc,hsz,hrel,hcell⟩:=hs.block hb hr
   have hu:=hs.unview
   have hjl:j<cells.length:=(lgS.1 ho).1
   have hnv:∀ t o e rows',get (Go.AE.unview st.env) t≠some (.view o e rows'):=by
    intro t o e' rows' h
    rw [Jtgt,omS] at h
    obtain ⟨z,_,hz⟩:=h
    exact Jt1fi z _ _ _ hz
   have hself:w.setRow r c=w:=setRow_self w r c te (0,0) hc
   have h:=hu.memUpd (b:=b) (r:=r) (cells:=cells) (cells':=cells.set j (.d (.sl rows))) (c:=c) (c':=c) (e:=te) hnv j hb hr hc (by simp) rfl
    (by
     intro k x hx
     rw [List.getElem?_set] at hx
     split at hx
     ·rename_i hk
      subst hk
      first | rw [if_pos hjl] at hx | skip
      injection hx with hx;subst hx
      obtain ⟨_,u,hu',hru⟩:=hrel j _ ho
      exact ⟨rfl,u,hu',hru⟩
     ·exact hrel k x hx)
    (by
     intro k e' rows' hk hx
     rw [List.getElem?_set_ne (Ne.symm hk)] at hx
     exact ⟨hx,rfl⟩)
    (by
     intro e' rows' hx
     rw [List.getElem?_set] at hx
     simp [hjl] at hx)
   rw [hself] at h
   simp only [Go.AE.dropOwn,hb]
   refine ⟨h.1,?_,hnv,by simp⟩
   rintro p q ⟨e',rows',v,h1,h2,h3⟩
   have hap:p≠.cell b j∧AP st p=some (.own e' rows'):=by
    cases p with
    | tmp t=>exact ⟨by simp,Jt2.1 (by simpa [AP] using h1)⟩
    | cell b' j'=>
     simp only [AP] at h1
     rw [List.getElem?_set] at h1
     by_cases hbb:b=b'
     ·subst hbb
      simp only [(lgS.1 hb).1,if_true] at h1
      rw [List.getElem?_set] at h1
      split at h1
      ·rename_i hjj;subst hjj;simp [hjl] at h1
      ·rename_i hjj;exact ⟨by simp [Ne.symm hjj],by simp only [AP,hb,h1]⟩
     ·rw [if_neg hbb] at h1
      exact ⟨by simp [Ne.symm hbb],by simp only [AP];exact h1⟩
   exact ⟨hap.1,e',rows',v,hap.2,h2,h3⟩
  ·cases ho
theorem Jth5(hs:Sim N st g a w){x:Operand}{y:Opd}{org:Option Place}{e:Nat}{rows:List (List D)} (hc:cOpd x=some y) (hgr:Jth4 st.env y=some (org,e,rows)) :
  (org=none∧rows=[]∧a.eval x=.slice none 0 0)∨∃ p,org=some p∧AP st p=some (.own e rows)∧RP g.φ a w p=some (a.eval x)∧PRel g.F w (.sl rows) (a.eval x):=by
 unfold Jth4 at hgr
 split at hgr
 ·rename_i i
  have hx:x=.tmp i:=by
   unfold cOpd at hc;split at hc
   ·injection hc with hc;injection hc with hc;rw [hc]
   ·split at hc<;>cases hc
   ·cases hc
   ·cases hc
  subst hx
  split at hgr
  ·rename_i e' rows' hg
   injection hgr with hgr;injection hgr with h1 h2;injection h2 with h2 h3
   subst h1;subst h2;subst h3
   have:=hs.env i _ hg
   exact .inr ⟨_,rfl,hg,rfl,this.d_inv⟩
  ·rename_i org' e' rows' hg
   injection hgr with hgr;injection hgr with h1 h2;injection h2 with h2 h3
   subst h1;subst h2;subst h3
   have:=hs.env i _ hg
   obtain ⟨k1,k2⟩:=hs.view i _ _ _ hg
   exact .inr ⟨_,rfl,k1,k2,this.d_inv⟩
  ·rename_i hg
   injection hgr with hgr;injection hgr with h1 h2;injection h2 with h2 h3
   subst h1;subst h2;subst h3
   exact .inl ⟨rfl,rfl,(hs.env i _ hg).nils_inv⟩
  ·cases hgr
 ·injection hgr with hgr;injection hgr with h1 h2;injection h2 with h2 h3
  subst h1;subst h2;subst h3
  have:=(Jtfd (z:=.nils) hs hc rfl).1.nils_inv
  exact .inl ⟨rfl,rfl,this⟩
 ·cases hgr
theorem Jt7o(hs:Sim N st g a w){x:Operand}{y:Opd}{ys:List (List D)} {n:Nat} (hc:cOpd x=some y) (hy:Jt7n st.env y=some ys) (hn:∀ r∈ys,r.length=n) :
  ∃ A cap news,a.eval x=.slice A ys.length cap∧news.length=ys.length*n∧(news=[]∨∃ ad,A=some ad∧Jtah w ad news)∧(A=none→ys.length=0)∧
   ∀ (j:Nat) (z:D) (u:Value),ys.flatten[j]?=some z→news[j]?=some u→PRel g.F w z u:=by
 unfold Jt7n at hy
 split at hy
 ·rename_i ys' h
  injection hy with hy;subst hy
  obtain ⟨A,cap,hA,hcs⟩:=(Jtfd hs hc h).1.d_inv.sl_inv
  rcases hcs with rfl | ⟨ad,esz,vs,rfl,hcap,hesz,hvl,hf,hca,hre⟩
  ·exact ⟨A,cap,[],hA,by simp,.inl rfl,fun _=>rfl,fun j z u h=>by simp at h⟩
  ·refine ⟨some ad,cap,vs,hA,?_,.inr ⟨ad,rfl,hca⟩,fun h=>(by cases h),hre⟩
   cases ys' with
   | nil=>simpa using hvl
   | cons r rs=>rw [hvl];congr 1;exact (hesz r (by simp)).symm.trans (hn r (by simp))
 ·rename_i h
  injection hy with hy;subst hy
  have:=(Jtfd hs hc h).1.nils_inv
  exact ⟨none,0,[],this,by simp,.inl rfl,fun _=>rfl,fun j z u h=>by simp at h⟩
 ·rename_i h
  injection hy with hy;subst hy
  obtain ⟨a',this⟩:=(Jtfd hs hc h).1.nile_inv
  exact ⟨a',0,[],this,by simp,.inl rfl,fun _=>rfl,fun j z u h=>by simp at h⟩
 ·cases hy
theorem Jtgb (rows:List (List D)) (n:Nat) (h:∀ r∈rows,r.length=n):rows.flatten.length=rows.length*n:=by
 induction rows with
 | nil=>simp
 | cons r rs ih=>
  simp only [List.flatten_cons,List.length_append,List.length_cons]
  rw [ih fun x hx=>h x (by simp [hx]),h r (by simp),Nat.succ_mul]
  omega
theorem Jtv9{F:Nat→Nat}{rows:List (List D)} {r n cap esz:Nat} {c:Array Value} {te:TypeId} (hp:PRel F w (.sl rows) (.slice (some ⟨r,0,none⟩) n cap)) (hc:w.heap[r]?=some (.cells c te (0,0)))
  (hesz:∀ x∈rows,x.length=esz):∀ (j:Nat) (x:D) (u:Value),rows.flatten[j]?=some x→c[j]?=some u→PRel F w x u:=by
 obtain ⟨A,cap',hA,hcs⟩:=hp.sl_inv
 injection hA with hA _ _
 rcases hcs with rfl | ⟨ad,esz',vs,h,hcap,hesz',hvl,hf,hca,hre⟩
 ·intro j x u h;simp at h
 ·subst h
  injection hA with hA;subst hA
  intro j x u hx hu
  have hlt:j<vs.length:=by
   have h1:=(lgS.1 hx).1
   rw [Jtgb rows esz' hesz'] at h1
   omega
  have hv:vs[j]?=some vs[j]:=by simp [hlt]
  have h2:=hca j _ hv
  rw [Addr.add_lit,Nat.zero_add,cell_of_row w r j c te (0,0) hc,hu] at h2
  injection h2 with h2
  rw [h2]
  exact hre j x _ hx hv
end
section
variable {P:Program} {N:Nat} {st:ASt} {g:Gh} {a:Act} {w:World}
theorem Sim.drew(hs:Sim N st g a w):Sim N st g a w.drew∧(∀ r,Mine st g a w.drew r↔Mine st g a w r):=by
 have hg:Grew (Mine st g a w) g w g.F w.drew:=⟨rfl,rfl,rfl,Nat.le_refl _,fun r _ _=>⟨rfl,rfl⟩,⟨fun _ _=>Nat.le_refl _,fun _ _ _ _ h=>h,fun _=>Nat.le_refl _⟩⟩
 exact ⟨hs.grew hg,fun r=>Jt5a hs hg⟩
theorem Jtgn{α:Type}(xs ys:List α)(zs:Array α)(j:Nat)(u:α)(h:(xs.toArray++ys.toArray++zs)[j]?=some u) (hj:j<xs.length+ys.length):(xs++ys)[j]?=some u:=by
 rw [←Array.getElem?_toList] at h
 simp only [Array.toList_append] at h
 rw [lgA (by simp;omega)] at h
 exact h
theorem Jt7m(hs:Sim N st g a w){O:Nat→Prop}(hO:∀ r,Mine st g a w r→O r){dst:Option Nat}(hd:∀ d,dst=some d→d<N){t ty e:TypeId}{i:TypeInfo}{z:Value}{esz:Nat}
  (ht:P.underlying t=some (.slice e)) (hi:P.info? e=some i) (hz:i.zero=some z) (hzs:z.cells.size=i.size) (hes:i.size=esz) (hpos:0<esz)
  {rows ys:List (List D)} {v0:Value} (hrows:(∃ a0,v0=.slice a0 0 0∧rows=[]∧(a0=none∨ys≠[]))∨(∃ r,(∃ cap c te,v0=.slice (some ⟨r,0,none⟩) rows.length cap∧w.heap[r]?=some (.cells c te (0,0))∧
   g.F r=rows.length*esz∧rows.length≤cap∧cap≤maxLen∧c.size=cap*esz∧(∀ x∈rows,x.length=esz))∧PRel g.F w (.sl rows) v0∧O r∧∀ q,Mine st g a w q→q≠r))
  {A:Option Addr} {cy:Nat} {news:List Value} (hl:news.length=ys.length*esz) (hnews:news=[]∨∃ ad,A=some ad∧Jtah w ad news) (hA:A=none→ys.length=0)
  (hys:∀ r∈ys,r.length=esz) (hnr:∀ (j:Nat) (z:D) (u:Value),ys.flatten[j]?=some z→news[j]?=some u→PRel g.F w z u)
  (hsmall:rows.length+ys.length≤1000000000000000000) (hbytes:(rows.length+ys.length)*i.bytes≤140737488355328) :
  ∃ v w' g',(Builtin.append_ #[t,t] ty #[v0,.slice A ys.length cy]).run P w=.ok v w'∧Sim N (Go.AE.put dst (.own esz (rows++ys)) st) g' (a.put dst v) w'∧
   Tr O g w g' w'∧(∀ r,Mine (Go.AE.put dst (.own esz (rows++ys)) st) g' (a.put dst v) w' r→O r∨w.heap.size≤r)∧g'.φ=g.φ:=by
 subst hes
 have h1:∀ u∈news,u.oneCell'=true:=by
  intro u hu
  obtain ⟨j,hj⟩:=List.getElem?_of_mem hu
  have hlt:j<ys.flatten.length:=by
   rw [Jtgb ys i.size hys,←hl]
   exact (lgS.1 hj).1
  exact (hnr j ys.flatten[j] u (by simp [hlt]) hj).one
 have hml:rows.length+ys.length≤maxLen:=by unfold maxLen;omega
 have grown:∀ (olds:List Value) (old:Nat),olds.length=rows.length*i.size→(∀ x∈rows,x.length=i.size)→(∀ (j:Nat) (x:D) (u:Value),rows.flatten[j]?=some x→olds[j]?=some u→PRel g.F w x u)→
   ∃ g',Sim N (Go.AE.put dst (.own i.size (rows++ys)) st) g' (a.put dst (.slice (some ⟨w.heap.size,0,none⟩) (rows.length+ys.length) (grownCap w (rows.length+ys.length) old e)))
     (w.drew.alloc (.cells (olds.toArray++news.toArray++Builtin.zeroCells z.cells (grownCap w (rows.length+ys.length) old e-(rows.length+ys.length))) e))∧
    Step st g a w.drew (Go.AE.put dst (.own i.size (rows++ys)) st) g' (a.put dst (.slice (some ⟨w.heap.size,0,none⟩) (rows.length+ys.length) (grownCap w (rows.length+ys.length) old e)))
     (w.drew.alloc (.cells (olds.toArray++news.toArray++Builtin.zeroCells z.cells (grownCap w (rows.length+ys.length) old e-(rows.length+ys.length))) e))∧g'.φ=g.φ:=by
  intro olds old ho hrz hor
  have hge:=grownCap_ge w (rows.length+ys.length) old e
  have hle:=grownCap_le_maxLen w (rows.length+ys.length) old e hml
  have hsd:=hs.drew.1
  have h:=hsd.newOwn (dst:=dst) hd (e:=e) (esz:=i.size) (n:=rows.length+ys.length) (cap:=grownCap w (rows.length+ys.length) old e) (rows:=rows++ys)
   (c:=olds.toArray++news.toArray++Builtin.zeroCells z.cells (grownCap w (rows.length+ys.length) old e-(rows.length+ys.length))) (by simp)
   (fun r hr=>(List.mem_append.1 hr).elim (hrz r) (hys r))
   (by
    simp only [Array.size_append,List.size_toArray,size_zeroCells,hzs,ho,hl,←Nat.add_mul]
    congr 1
    omega) hge hle
   (by
    intro j x u hx hu
    rw [List.flatten_append] at hx
    have hlen:(rows.flatten++ys.flatten).length=rows.length*i.size+ys.length*i.size:=by
     rw [List.length_append,Jtgb rows _ hrz,Jtgb ys _ hys]
    have hj:=(lgS.1 hx).1
    rw [hlen] at hj
    have hu':=Jtgn _ _ _ _ _ hu (by rw [ho,hl];exact hj)
    have hst:PRel g.F w x u:=by
     by_cases hjr:j<rows.length*i.size
     ·rw [lgA (by rw [ho];exact hjr)] at hu'
      rw [lgA (by rw [Jtgb rows _ hrz];exact hjr)] at hx
      exact hor j x u hx hu'
     ·rw [List.getElem?_append_right (by rw [ho];omega),ho] at hu'
      rw [List.getElem?_append_right (by rw [Jtgb rows _ hrz];omega),Jtgb rows _ hrz] at hx
      exact hnr _ x u hx hu'
    exact PRel.stab (F:=g.F) (w:=w) (F':=g.F) (w':=w.drew) ⟨fun _ _=>Nat.le_refl _,fun _ _ _ _ h=>h,fun _=>Nat.le_refl _⟩ hst)
  obtain ⟨g',k1,k2,k3⟩:=h
  exact ⟨g',k1,k2,k3⟩
 have fin:∀ v w' g',(Builtin.append_ #[t,t] ty #[v0,.slice A ys.length cy]).run P w=.ok v w'→Sim N (Go.AE.put dst (.own i.size (rows++ys)) st) g' (a.put dst v) w'→
   Step st g a w.drew (Go.AE.put dst (.own i.size (rows++ys)) st) g' (a.put dst v) w'→g'.φ=g.φ→
   ∃ v w' g',(Builtin.append_ #[t,t] ty #[v0,.slice A ys.length cy]).run P w=.ok v w'∧Sim N (Go.AE.put dst (.own i.size (rows++ys)) st) g' (a.put dst v) w'∧
   Tr O g w g' w'∧(∀ r,Mine (Go.AE.put dst (.own i.size (rows++ys)) st) g' (a.put dst v) w' r→O r∨w.heap.size≤r)∧g'.φ=g.φ:=by
  intro v w' g' k1 k2 k3 k4
  have htr:Tr (Mine st g a w.drew) g w g' w':=⟨k3.tr.os,k3.tr.tape,k3.tr.output,k3.tr.size,k3.tr.other,⟨k3.tr.stab.le,k3.tr.stab.cell,k3.tr.stab.size⟩⟩
  refine ⟨v,w',g',k1,k2,htr.mono fun r hr=>hO r ((hs.drew.2 r).1 hr),fun r hr=>?_,k4⟩
  rcases k3.mine r hr with h | h
  ·exact .inl (hO r ((hs.drew.2 r).1 h))
  ·exact .inr h
 rcases hrows with ⟨a0,rfl,rfl,ha0⟩ | ⟨r,⟨cap,c,te,rfl,hc,hF,hcap,hcm,hcs,hrz⟩,hp,hOr,hne⟩
 ·by_cases hy0:ys.length=0
  ·have hye:ys=[]:=List.eq_nil_of_length_eq_zero hy0
   subst hye
   obtain rfl:a0=none:=ha0.resolve_right (fun h=>h rfl)
   have hnil:news=[]:=List.eq_nil_of_length_eq_zero (by simpa using hl)
   have hrun:(Builtin.append_ #[t,t] ty #[.slice none 0 0,.slice A 0 cy]).run P w=.ok (.slice none 0 0) w:=by
    cases A<;>simp [Builtin.append_,run_underlying ht,sizeOf,typeInfo,hi,Builtin.lenOf,Builtin.firstCells,loadCells,loadCellsFrom]
   refine ⟨.slice none 0 0,w,g,hrun,?_⟩
   simp only [List.append_nil]
   cases dst with
   | none=>exact ⟨hs,Tr.refl _ _ _,fun r hr=>.inl (hO r hr),by trivial⟩
   | some d=>
    have h:=hs.putO (e:=i.size) (rows:=[]) (v:=.slice none 0 0) (hd d rfl) (.d _ _ (.nil _ _)) (.inl ⟨rfl,rfl⟩) (fun r n cap h=>by cases h)
    refine ⟨h.1,Tr.refl _ _ _,fun r hr=>?_,by trivial⟩
    rcases h.2 r hr with h1 | ⟨n,cap,h1⟩
    ·exact .inl (hO r h1)
    ·cases h1
  ·cases A with
   | none=>exact absurd (hA rfl) hy0
   | some ad=>
    have hca:Jtah w ad news:=by
     rcases hnews with rfl | ⟨ad',h,hca⟩
     ·exact fun j u h=>by simp at h
     ·injection h with h;subst h;exact hca
    simp only [List.length_nil,Nat.zero_add] at grown hsmall hbytes
    have hrun:(Builtin.append_ #[t,t] ty #[.slice a0 0 0,.slice (some ad) ys.length cy]).run P w =
      .ok (.slice (some ⟨w.heap.size,0,none⟩) ys.length (grownCap w ys.length 0 e)) (w.drew.alloc (.cells (news.toArray++Builtin.zeroCells z.cells (grownCap w ys.length 0 e-ys.length)) e)):=by
     cases a0 with
     | none=>exact run_append_nil (P:=P) w t ty e i z ht hi hz ad ys.length cy news hl hca (by omega) (by omega) (by omega)
     | some b0=>
      have:=run_append_grow (P:=P) w t ty e i z ht hi hz b0 0 0 [] (by simp) (fun j v h=>by simp at h) ad ys.length cy news hl hca (by omega) (by omega) (by rw [Nat.zero_add,nextslicecap_zero (by omega)];omega)
      simpa using this
    obtain ⟨g',k1,k2,k3⟩:=grown [] 0 (by simp) (by simp) (fun j x u h=>by simp at h)
    simp only [Array.empty_append,List.nil_append] at k1 k2
    exact fin _ _ g' hrun k1 k2 k3
 ·have hmul:rows.length*i.size≤cap*i.size:=Nat.mul_le_mul_right _ hcap
  by_cases hroom:rows.length+ys.length≤cap
  ·have hfit:rows.length*i.size+news.length≤c.size:=by rw [hl,hcs,←Nat.add_mul];exact Nat.mul_le_mul_right _ hroom
   have hrun:=Jt177 (P:=P) (w:=w) t ty e te i ht hi r rows.length cap c hc A ys.length cy news hl hnews hA h1 hroom hfit
   have hothr:∀ q,q≠r→(w.setRow r (c.toList.take (rows.length*i.size)++news++c.toList.drop (rows.length*i.size+news.length)).toArray).heap[q]?=w.heap[q]?:=fun q hq=>setRow_other w r q _ hq
   have hsame:=setRow_heap w r c (c.toList.take (rows.length*i.size)++news++c.toList.drop (rows.length*i.size+news.length)).toArray te _ hc
   have hrlt:r<w.heap.size:=(Array.getElem?_eq_some_iff.1 hc).1
   generalize hW:w.setRow r (c.toList.take (rows.length*i.size)++news++c.toList.drop (rows.length*i.size+news.length)).toArray=W at *
   have hWs:W.heap.size=w.heap.size:=by rw [←hW];simp
   have hget:∀ j,j<rows.length*i.size→(c.toList.take (rows.length*i.size)++news++c.toList.drop (rows.length*i.size+news.length)).toArray[j]?=c[j]?:=by
    intro j hj
    simp only [List.getElem?_toArray]
    rw [List.append_assoc,lgA (by simp;omega),List.getElem?_take,if_pos hj,Array.getElem?_toList]
   have hcellr:∀ j,W.cell? ⟨r,j,none⟩=(c.toList.take (rows.length*i.size)++news++c.toList.drop (rows.length*i.size+news.length)).toArray[j]?:=fun j=>cell_of_row W r j _ te (0,0) hsame
   have hstab:Stab g.F w (g.setF r ((rows.length+ys.length)*i.size)).F W:=by
    constructor
    ·intro q hq
     simp only [Gh.setF]
     split
     ·rename_i hqr;subst hqr;rw [hF];exact Nat.mul_le_mul_right _ (by omega)
     ·exact Nat.le_refl _
    ·intro q j u hj hu
     by_cases hqr:q=r
     ·subst hqr
      rw [hF] at hj
      rw [hcellr,hget j hj,←cell_of_row w q j c te (0,0) hc];exact hu
     ·rw [World.cell?_of_block (a:=⟨q,j,none⟩) (hothr q hqr)];exact hu
    ·intro q
     by_cases hqr:q=r
     ·subst hqr
      rw [Jtcw hc,Jtcw hsame];simp;omega
     ·rw [Jtcx (hothr q hqr)];exact Nat.le_refl _
   have hg:Grew (Mine st g a w) g w (g.setF r ((rows.length+ys.length)*i.size)).F W:=
    ⟨by rw [←hW];rfl,by rw [←hW];rfl,by rw [←hW];rfl,by omega,fun q _ hq=>⟨hothr q (hne q hq),by simp only [Gh.setF];rw [if_neg (hne q hq)]⟩,hstab⟩
   have hs1:=hs.grew hg
   have htr:Tr O g w ⟨g.φ,(g.setF r ((rows.length+ys.length)*i.size)).F⟩ W:=
    ⟨hg.os,hg.tape,hg.output,hg.size,fun q hq hn=>by
     have hqr:q≠r:=fun h=>hn (by rw [h];exact hOr)
     exact ⟨hothr q hqr,by simp only [Gh.setF];rw [if_neg hqr]⟩,hstab⟩
   have hmm:∀ q,Mine st ⟨g.φ,(g.setF r ((rows.length+ys.length)*i.size)).F⟩ a W q→O q:=fun q hq=>hO q ((Jt5a hs hg).1 hq)
   have hold:=Jtv9 hp hc hrz
   have hys':∀ x∈rows++ys,x.length=i.size:=fun x hx=>(List.mem_append.1 hx).elim (hrz x) (hys x)
   have hrel:Rel (g.setF r ((rows.length+ys.length)*i.size)).F g.φ W (.d (.sl (rows++ys))) (.slice (some ⟨r,0,none⟩) (rows.length+ys.length) cap):=by
    have hlen:(rows++ys).length=rows.length+ys.length:=by simp
    rw [←hlen]
    refine .d _ _ (.sl _ ⟨r,0,none⟩ cap i.size (c.toList.take (rows.length*i.size)++news) hys' ?_ (by omega) ?_ ?_ ?_)
    ·have hcl:c.toList.length=c.size:=Array.length_toList
     rw [hlen,List.length_append,List.length_take,hl,Nat.add_mul,hcl];omega
    ·intro j hj
     simp only [Gh.setF,if_true,Nat.zero_add]
     have hcl:c.toList.length=c.size:=Array.length_toList
     rw [List.length_append,List.length_take,hl,hcl] at hj
     rw [hlen,Nat.add_mul];omega
    ·intro j u hu
     rw [Addr.add_lit,Nat.zero_add,hcellr]
     simp only [List.getElem?_toArray]
     rw [lgA (lgS.1 hu).1]
     exact hu
    ·intro j x u hx hu
     rw [List.flatten_append] at hx
     have hrf:=Jtgb rows _ hrz
     have:PRel g.F w x u:=by
      by_cases hjr:j<rows.length*i.size
      ·rw [lgA (by simp;omega),List.getElem?_take,if_pos hjr,Array.getElem?_toList] at hu
       rw [lgA (by omega)] at hx
       exact hold j x u hx hu
      ·have htl:(c.toList.take (rows.length*i.size)).length=rows.length*i.size:=by simp;omega
       rw [List.getElem?_append_right (by omega),htl] at hu
       rw [List.getElem?_append_right (by omega),hrf] at hx
       exact hnr _ x u hx hu
     rw [hlen];exact this.stab hstab
   refine ⟨_,W,⟨g.φ,(g.setF r ((rows.length+ys.length)*i.size)).F⟩,hrun,?_⟩
   cases dst with
   | none=>exact ⟨hs1,htr,fun q hq=>.inl (hmm q hq),rfl⟩
   | some d=>
    have hown:OwnAt (g.setF r ((rows.length+ys.length)*i.size)).F W i.size (rows++ys) (.slice (some ⟨r,0,none⟩) (rows.length+ys.length) cap):=by
     refine .inr ⟨r,cap,_,te,by rw [List.length_append],hsame,by simp [Gh.setF],by simpa using hroom,hcm,?_,hys'⟩
     simp only [List.size_toArray,List.length_append,List.length_take,List.length_drop,Array.length_toList]
     omega
    have h:=hs1.putO (e:=i.size) (rows:=rows++ys) (v:=.slice (some ⟨r,0,none⟩) (rows.length+ys.length) cap) (hd d rfl) hrel hown
     (fun q n cap' h=>by
      injection h with h;injection h with h;injection h with h;subst h
      refine ⟨fun b hb=>hne r (.inl ⟨b,hb⟩) rfl,fun p _ ho=>hne r (.inr ⟨p,(Jt5e hs hg).1 ho⟩) rfl⟩)
    refine ⟨h.1,htr,fun q hq=>?_,rfl⟩
    rcases h.2 q hq with h1 | ⟨n,cap',h1⟩
    ·exact .inl (hmm q h1)
    ·injection h1 with h1;injection h1 with h1;injection h1 with h1;subst h1
     exact .inl hOr
  ·cases A with
   | none=>exact absurd (hA rfl) (by omega)
   | some ad=>
    have hca:Jtah w ad news:=by
     rcases hnews with rfl | ⟨ad',h,hca⟩
     ·exact fun j u h=>by simp at h
     ·injection h with h;subst h;exact hca
    have holds:∀ j v,(c.toList.take (rows.length*i.size))[j]?=some v→w.cell? ((⟨r,0,none⟩:Addr).add j)=some v:=by
     intro j v hv
     rw [List.getElem?_take] at hv
     split at hv
     ·rw [Addr.add_lit,Nat.zero_add,cell_of_row w r j c te (0,0) hc]
      rw [Array.getElem?_toList] at hv;exact hv
     ·cases hv
    have hlo:(c.toList.take (rows.length*i.size)).length=rows.length*i.size:=by simp;omega
    have hrun:=run_append_grow (P:=P) w t ty e i z ht hi hz ⟨r,0,none⟩ rows.length cap _ hlo holds ad ys.length cy news hl hca (by omega) (by omega) (growslice_fits (by omega) hbytes)
    have hold:=Jtv9 hp hc hrz
    obtain ⟨g',k1,k2,k3⟩:=grown (c.toList.take (rows.length*i.size)) cap hlo hrz (fun j x u hx hu=>by
     rw [List.getElem?_take] at hu
     split at hu
     ·rw [Array.getElem?_toList] at hu;exact hold j x u hx hu
     ·cases hu)
    exact fin _ _ g' hrun k1 k2 k3
end
theorem Jt15p{ρ:Nat→Option Nat}:∀ {as bs:List AV},renL ρ as=some bs→as.length=bs.length∧∀ (j:Nat) (x:AV),as[j]?=some x→∃ y,bs[j]?=some y∧x.ren ρ=some y:=by
 intro as
 induction as with
 | nil=>intro bs h;simp [renL] at h;subst h;exact ⟨rfl,fun j x h=>by simp at h⟩
 | cons a as ih=>
  intro bs h
  simp only [renL] at h
  split at h
  ·rename_i y ys hy hys
   injection h with h;subst h
   obtain ⟨h1,h2⟩:=ih hys
   refine ⟨by simp [h1],fun j x hx=>?_⟩
   cases j with
   | zero=>simp at hx;subst hx;exact ⟨y,by simp,hy⟩
   | succ j=>simp at hx;simpa using h2 j x hx
  ·cases h
theorem Jt15q{ρ:Nat→Option Nat}{as bs:List AV}(h:renL ρ as=some bs)(j:Nat)(y:AV)(hy:bs[j]?=some y):∃ x,as[j]?=some x∧x.ren ρ=some y:=by
 obtain ⟨h1,h2⟩:=Jt15p h
 have hlt:j<as.length:=by rw [h1];exact (lgS.1 hy).1
 obtain ⟨z,hz,hr⟩:=h2 j as[j] (by simp [hlt])
 rw [hy] at hz;injection hz with hz;subst hz
 exact ⟨as[j],by simp [hlt],hr⟩
theorem Rel.ren{F:Nat→Nat}{φ φ':Nat→Option Nat}{w:World}{ρ:Nat→Option Nat}(hρ:∀ b b' r,ρ b=some b'→φ b=some r→φ' b'=some r){x:AV}{v:Value}(h:Rel F φ w x v):
  ∀ y,x.ren ρ=some y→Rel F φ' w y v:=by
 induction h with
 | d x v h=>intro y hy;simp [AV.ren] at hy;subst hy;exact .d _ _ h
 | nils=>intro y hy;simp [AV.ren] at hy;subst hy;exact .nils
 | nile a=>intro y hy;simp [AV.ren] at hy;subst hy;exact .nile a
 | ptr b off r h=>
  intro y hy;simp only [AV.ren] at hy
  split at hy
  ·rename_i b' hb;injection hy with hy;subst hy;exact .ptr _ _ _ (hρ b b' r hb h)
  ·cases hy
 | nilp=>intro y hy;simp [AV.ren] at hy;subst hy;exact .nilp
 | rptr cells ad vs h1 h2 h3 h4=>intro y hy;simp [AV.ren] at hy;subst hy;exact .rptr cells ad vs h1 h2 h3 h4
 | agg as vs hl hr ih=>
  intro y hy;simp only [AV.ren] at hy
  split at hy
  ·rename_i bs hbs
   injection hy with hy;subst hy
   obtain ⟨e1,e2⟩:=Jt15p hbs
   refine .agg _ _ (by omega) fun j z u hz hu=>?_
   obtain ⟨x,hx,hxr⟩:=Jt15q hbs j z hz
   exact ih j x u hx hu z hxr
  ·cases hy
 | tup as vs hl hr ih=>
  intro y hy;simp only [AV.ren] at hy
  split at hy
  ·rename_i bs hbs
   injection hy with hy;subst hy
   obtain ⟨e1,e2⟩:=Jt15p hbs
   refine .tup _ _ (by omega) fun j z u hz hu=>?_
   obtain ⟨x,hx,hxr⟩:=Jt15q hbs j z hz
   exact ih j x u hx hu z hxr
  ·cases hy
 | fn f as bs vs us hl hr hl' hr' ih ih'=>
  intro y hy;simp only [AV.ren] at hy
  split at hy
  ·rename_i cs ds hcs hds
   injection hy with hy;subst hy
   obtain ⟨e1,_⟩:=Jt15p hcs
   obtain ⟨e2,_⟩:=Jt15p hds
   refine .fn _ _ _ _ _ (by omega) (fun j z u hz hu=>?_) (by omega) (fun j z u hz hu=>?_)
   ·obtain ⟨x,hx,hxr⟩:=Jt15q hcs j z hz
    exact ih j x u hx hu z hxr
   ·obtain ⟨x,hx,hxr⟩:=Jt15q hds j z hz
    exact ih' j x u hx hu z hxr
  ·cases hy
 | nilfn=>intro y hy;simp [AV.ren] at hy;subst hy;exact .nilfn
 | hsl b off e n r cap a h h1 h2 h3=>
  intro y hy;simp only [AV.ren] at hy
  split at hy
  ·rename_i b' hb;injection hy with hy;subst hy;exact .hsl _ _ _ _ _ _ _ (hρ b b' r hb h) h1 h2 h3
  ·cases hy
 | iface t x u h ih=>
  intro y hy;simp only [AV.ren] at hy
  split at hy
  ·rename_i z hz;injection hy with hy;subst hy;exact .iface _ _ _ (ih z hz)
  ·cases hy
 | nilif=>intro y hy;simp [AV.ren] at hy;subst hy;exact .nilif
 | mp r=>intro y hy;simp [AV.ren] at hy;subst hy;exact .mp r
 | nilm=>intro y hy;simp [AV.ren] at hy;subst hy;exact .nilm
 | hsl0 b e r cap h h1=>
  intro y hy;simp only [AV.ren] at hy
  split at hy
  ·rename_i b' hb;injection hy with hy;subst hy;exact .hsl0 _ _ _ _ (hρ b b' r hb h) h1
  ·cases hy
theorem ren_erase{ρ:Nat→Option Nat}{x y:AV}(h:x.ren ρ=some y):x.erase.ren ρ=some y.erase:=by
 cases x<;>simp only [AV.ren,AV.erase] at h ⊢<;>first
  | (injection h with h;subst h;rfl)
  | (split at h<;>first | (cases h;done) | (injection h with h;subst h;simp_all [AV.erase]))
theorem ren_leaf{ρ:Nat→Option Nat}{x y:AV}(h:x.ren ρ=some y):y.leaf=x.leaf:=by
 cases x<;>simp only [AV.ren] at h<;>first
  | (injection h with h;subst h;rfl)
  | (split at h<;>first | (cases h;done) | (injection h with h;subst h;rfl))
theorem ren_own{ρ:Nat→Option Nat}{x:AV}{e:Nat}{rows:List (List D)} (h:x.ren ρ=some (.own e rows)):x=.own e rows:=by
 cases x<;>simp only [AV.ren] at h<;>first
  | (cases h<;>rfl)
  | (split at h<;>first | (cases h;done) | (injection h with h;cases h))
theorem Jtgp:∀ (xs:List AV) (n t:Nat),get (enum n xs) (n+t)=xs[t]?:=by
 intro xs
 induction xs with
 | nil=>intro n t;simp [enum,get]
 | cons x xs ih=>
  intro n t
  simp only [enum,get]
  cases t with
  | zero=>simp
  | succ t=>
   rw [if_neg (by omega)]
   have:=ih (n+1) t
   rw [show n+1+t=n+(t+1) by omega] at this
   simpa using this
theorem Jtgq(xs:List AV)(t:Nat):get (enum 0 xs) t=xs[t]?:=by have:=Jtgp xs 0 t;simpa using this
theorem Jtl5:∀ {bs:List Nat} {b i:Nat},idx bs b=some i→bs[i]?=some b:=by
 intro bs
 induction bs with
 | nil=>intro b i h;simp [idx] at h
 | cons c bs ih=>
  intro b i h
  simp only [idx] at h
  split at h
  ·rename_i hc;injection h with h;subst h;subst hc;simp
  ·rw [omS] at h
   obtain ⟨k,hk,rfl⟩:=h
   simpa using ih hk
theorem Jtxo{H:List Blk}:∀ {bs:List Nat} {Hp:List Blk},picks H bs=some Hp→Hp.length=bs.length∧∀ (i b:Nat),bs[i]?=some b→∃ k,H[b]?=some k∧Hp[i]?=some k:=by
 intro bs
 induction bs with
 | nil=>intro Hp h;simp [picks] at h;subst h;exact ⟨rfl,fun i b h=>by simp at h⟩
 | cons c bs ih=>
  intro Hp h
  simp only [picks] at h
  split at h
  ·rename_i k ks hk hks
   injection h with h;subst h
   obtain ⟨h1,h2⟩:=ih hks
   refine ⟨by simp [h1],fun i b hb=>?_⟩
   cases i with
   | zero=>simp at hb;subst hb;exact ⟨k,hk,by simp⟩
   | succ i=>simp at hb;simpa using h2 i b hb
  ·cases h
theorem Jt15g{ρ:Nat→Option Nat}:∀ {xs ys:List Blk},renB ρ xs=some ys→xs.length=ys.length∧∀ (i:Nat) (x:Blk),xs[i]?=some x→∃ y,ys[i]?=some y∧x.ren ρ=some y:=by
 intro xs
 induction xs with
 | nil=>intro ys h;simp [renB] at h;subst h;exact ⟨rfl,fun i b h=>by simp at h⟩
 | cons c xs ih=>
  intro ys h
  simp only [renB] at h
  split at h
  ·rename_i k ks hk hks
   injection h with h;subst h
   obtain ⟨h1,h2⟩:=ih hks
   refine ⟨by simp [h1],fun i b hb=>?_⟩
   cases i with
   | zero=>simp at hb;subst hb;exact ⟨k,by simp,hk⟩
   | succ i=>simp at hb;simpa using h2 i b hb
  ·cases h
theorem Jt15h{ρ:Nat→Option Nat}{xs ys:List Blk}(h:renB ρ xs=some ys)(i:Nat)(y:Blk)(hy:ys[i]?=some y):∃ x,xs[i]?=some x∧x.ren ρ=some y:=by
 obtain ⟨h1,h2⟩:=Jt15g h
 have hlt:i<xs.length:=by rw [h1];exact (lgS.1 hy).1
 obtain ⟨z,hz,hr⟩:=h2 i xs[i] (by simp [hlt])
 rw [hy] at hz;injection hz with hz;subst hz
 exact ⟨xs[i],by simp [hlt],hr⟩
section
variable {P:Program} {N:Nat} {st:ASt} {g:Gh} {a:Act} {w:World}
def Gh.of(g:Gh)(bs:List Nat):Gh:=⟨fun i=>(bs[i]?).bind g.φ,g.F⟩
theorem idx_of(bs:List Nat)(b b' r:Nat)(h:idx bs b=some b')(hr:g.φ b=some r):(g.of bs).φ b'=some r:=by
 simp [Gh.of,Jtl5 h,hr]
theorem Sim.call(hs:Sim N st g a w){bs:List Nat}(hnd:bs.Nodup){args cargs:List AV}{vs:Array Value}{Hp Hc:List Blk}(hr:RelL g.F g.φ w args vs.toList)(ha:renL (idx bs) args=some cargs)
  (hp:picks st.H bs=some Hp) (hc:renB (idx bs) Hp=some Hc) :
  Sim cargs.length ⟨enum 0 cargs,Hc⟩ (g.of bs) ⟨vs,[]⟩ w∧(∀ r,Mine ⟨enum 0 cargs,Hc⟩ (g.of bs) ⟨vs,[]⟩ w r→(∃ b∈bs,g.φ b=some r)∨∃ b∈bs,∃ j,Owner st g.φ a w (.cell b j) r):=by
 obtain ⟨la,_⟩:=Jt15p ha
 obtain ⟨lp,hpick⟩:=Jtxo hp
 obtain ⟨lc,_⟩:=Jt15g hc
 have hblk:∀ (i:Nat) (k:Blk),Hc[i]?=some k→∃ b k0,bs[i]?=some b∧st.H[b]?=some k0∧k0.ren (idx bs)=some k:=by
  intro i k hk
  obtain ⟨k0,hk0,hren⟩:=Jt15h hc i k hk
  have hlt:i<bs.length:=by rw [←lp];exact (lgS.1 hk0).1
  obtain ⟨k1,h1,h2⟩:=hpick i bs[i] (by simp [hlt])
  rw [hk0] at h2;injection h2 with h2;subst h2
  exact ⟨bs[i],k0,by simp [hlt],h1,hren⟩
 have hφ:∀ i r,(g.of bs).φ i=some r→∃ b,bs[i]?=some b∧g.φ b=some r:=by
  intro i r h
  simp only [Gh.of,Option.bind_eq_some_iff] at h
  exact h
 have hrel:∀ {x y:AV} {u:Value},Rel g.F g.φ w x u→x.ren (idx bs)=some y→Rel (g.of bs).F (g.of bs).φ w y u:=fun h hy=>h.ren (idx_of bs) _ hy
 have hargs:∀ t x,cargs[t]?=some x→Rel (g.of bs).F (g.of bs).φ w x (vs.getD t undef):=by
  intro t x hx
  obtain ⟨y,hy,hren⟩:=Jt15q ha t x hx
  have hlt:t<vs.toList.length:=by rw [hr.1];exact (lgS.1 hy).1
  have hu:vs.toList[t]?=some (vs.getD t undef):=by
   have:t<vs.size:=by simpa using hlt
   simp [this]
  exact hrel (hr.2 t y _ hy hu) hren
 have hcells:∀ (i:Nat) (cells:List AV),Hc[i]?=some (.mem cells)→∃ b cells0,bs[i]?=some b∧st.H[b]?=some (.mem cells0)∧renL (idx bs) cells0=some cells:=by
  intro i cells hk
  obtain ⟨b,k0,h1,h2,h3⟩:=hblk i _ hk
  cases k0 with
  | mem cells0=>
   simp only [Blk.ren] at h3
   split at h3
   ·rename_i cs hcs;injection h3 with h3;injection h3 with h3;subst h3;exact ⟨b,cells0,h1,h2,hcs⟩
   ·cases h3
  | iter s p=>simp [Blk.ren] at h3
  | glob s p=>simp [Blk.ren] at h3
  | dead=>simp [Blk.ren] at h3
 have hAP:∀ p e rows,AP ⟨enum 0 cargs,Hc⟩ p=some (.own e rows)→∃ i b j,p=.cell i j∧bs[i]?=some b∧AP st (.cell b j)=some (.own e rows)∧RP (g.of bs).φ ⟨vs,[]⟩ w p=RP g.φ a w (.cell b j):=by
  intro p e rows h
  cases p with
  | tmp t=>
   simp only [AP,Jtgq] at h
   have:=(hargs t _ h).er
   simp [AV.erase] at this
  | cell i j=>
   simp only [AP] at h
   split at h
   ·rename_i cells hk
    obtain ⟨b,cells0,h1,h2,h3⟩:=hcells i cells hk
    obtain ⟨x,hx,hren⟩:=Jt15q h3 j _ h
    have:=ren_own hren
    subst this
    refine ⟨i,b,j,rfl,h1,by simp only [AP,h2,hx],?_⟩
    simp [RP,Gh.of,h1]
   ·cases h
 have hO:∀ p r,Owner ⟨enum 0 cargs,Hc⟩ (g.of bs).φ ⟨vs,[]⟩ w p r→∃ i b j,p=.cell i j∧bs[i]?=some b∧Owner st g.φ a w (.cell b j) r:=by
  rintro p r ⟨e,rows,v,h1,h2,h3⟩
  obtain ⟨i,b,j,k1,k2,k3,k4⟩:=hAP p e rows h1
  exact ⟨i,b,j,k1,k2,e,rows,v,k3,by rw [←k4];exact h2,h3⟩
 have hinj:∀ (i i' b:Nat),bs[i]?=some b→bs[i']?=some b→i=i':=by
  intro i i' b h h'
  obtain ⟨h1,h2⟩:=lgS.1 h
  obtain ⟨h1',h2'⟩:=lgS.1 h'
  exact (List.getElem_inj hnd).1 (h2.trans h2'.symm)
 refine ⟨{ size:=?_,env:=?_,inj:=?_,lt:=?_,dom:=?_,mem:=?_,iter:=?_,glob:=?_,own:=?_,excl:=?_,apart:=?_,view:=?_},?_⟩
 ·have:=hr.1;simp at this;show cargs.length≤vs.size;omega
 ·intro t x hx
  rw [Jtgq] at hx
  have h:=hargs t x hx
  rw [h.er];exact h
 ·intro i i' r h h'
  obtain ⟨b,k1,k2⟩:=hφ i r h
  obtain ⟨b',k1',k2'⟩:=hφ i' r h'
  have:=hs.inj b b' r k2 k2'
  subst this
  exact hinj i i' b k1 k1'
 ·intro i r h
  obtain ⟨b,k1,k2⟩:=hφ i r h
  obtain ⟨h1,h2,_⟩:=hs.lt b r k2
  exact ⟨h1,h2,by show i<Hc.length;rw [←lc,lp];exact (lgS.1 k1).1⟩
 ·intro i k hk hne
  obtain ⟨b,k0,h1,h2,h3⟩:=hblk i k hk
  obtain ⟨r,hr⟩:=hs.dom b k0 h2 (fun h=>by subst h;simp [Blk.ren] at h3;exact hne h3.symm)
  exact ⟨r,by simp [Gh.of,h1,hr]⟩
 ·intro i cells r hk hr
  obtain ⟨b,cells0,h1,h2,h3⟩:=hcells i cells hk
  obtain ⟨b',k1,k2⟩:=hφ i r hr
  rw [h1] at k1;injection k1 with k1;subst k1
  obtain ⟨c,e,m1,m2,m3⟩:=hs.mem b cells0 r h2 k2
  refine ⟨c,e,m1,by have:=(Jt15p h3).1;omega,fun j x hx=>?_⟩
  obtain ⟨x0,hx0,hren⟩:=Jt15q h3 j x hx
  obtain ⟨n1,u,n2,n3⟩:=m3 j x0 hx0
  exact ⟨by rw [ren_leaf hren];exact n1,u,n2,hrel n3 (ren_erase hren)⟩
 ·intro i s p r hk hr
  obtain ⟨b,k0,h1,h2,h3⟩:=hblk i _ hk
  obtain ⟨b',k1,k2⟩:=hφ i r hr
  rw [h1] at k1;injection k1 with k1;subst k1
  cases k0 with
  | mem cells0=>simp only [Blk.ren] at h3;split at h3<;>cases h3
  | iter s' p'=>simp only [Blk.ren] at h3;injection h3 with h3;injection h3 with e1 e2;subst e1;subst e2;exact hs.iter b _ _ r h2 k2
  | glob s' p'=>simp [Blk.ren] at h3
  | dead=>simp [Blk.ren] at h3
 ·intro i s p r hk hr
  obtain ⟨b,k0,h1,h2,h3⟩:=hblk i _ hk
  obtain ⟨b',k1,k2⟩:=hφ i r hr
  rw [h1] at k1;injection k1 with k1;subst k1
  cases k0 with
  | mem cells0=>simp only [Blk.ren] at h3;split at h3<;>cases h3
  | glob s' p'=>simp only [Blk.ren] at h3;injection h3 with h3;injection h3 with e1 e2;subst e1;subst e2;exact hs.glob b _ _ r h2 k2
  | iter s' p'=>simp [Blk.ren] at h3
  | dead=>simp [Blk.ren] at h3
 ·intro p e rows v h1 h2
  obtain ⟨i,b,j,k1,k2,k3,k4⟩:=hAP p e rows h1
  exact hs.own _ e rows v k3 (by rw [←k4];exact h2)
 ·intro p p' r h h'
  obtain ⟨i,b,j,k1,k2,k3⟩:=hO p r h
  obtain ⟨i',b',j',k1',k2',k3'⟩:=hO p' r h'
  have:=hs.excl _ _ r k3 k3'
  injection this with e1 e2
  subst e1;subst e2
  rw [k1,k1',hinj i i' b k2 k2']
 ·intro p r i h hi
  obtain ⟨i',b,j,k1,k2,k3⟩:=hO p r h
  obtain ⟨b',m1,m2⟩:=hφ i r hi
  exact hs.apart _ r b' k3 m2
 ·intro t org e rows h
  rw [Jtgq] at h
  have:=(hargs t _ h).er
  simp [AV.erase] at this
 ·rintro r (⟨i,hi⟩ | ⟨p,hp⟩)
  ·obtain ⟨b,k1,k2⟩:=hφ i r hi
   exact .inl ⟨b,lmG k1,k2⟩
  ·obtain ⟨i,b,j,k1,k2,k3⟩:=hO p r hp
   exact .inr ⟨b,lmG k2,j,k3⟩
end
section
variable {P:Program} {N:Nat} {st:ASt} {g:Gh} {a:Act} {w:World}
def GoesOn(N:Nat)(st:ASt)(g:Gh)(a:Act)(w:World)(K:ASt→Prop)(QP:AV→ASt→Prop)(next:Act→World→Prop)(Q:Exit→Act→World→Prop):Prop:=
 (∀ st' g' a' w',K st'→Sim N st' g' a' w'→Step st g a w st' g' a' w'→next a' w')∧
 (∀ x v st' g' a' w',QP x st'→Sim N st' g' a' w'→Rel g'.F g'.φ w' x.erase v→Step st g a w st' g' a' w'→Q (.panic [{ v,recovered:=false}]) a' w')
theorem Jt1lb{o:Oper}{v:Value}{w':World}{next:Act→World→Prop}{Q:Exit→Act→World→Prop}(h:(execOp a.eval o).run P w=.ok (.value v) w') (hn:next (a.put o.dst v) w'):o.wp P a w next Q:=by
 unfold Oper.wp;rw [h];exact hn
theorem Jt4y(hs:Sim N st g a w){o:Oper}{io:AO}{K:ASt→Prop}{QP:AV→ASt→Prop}{next:Act→World→Prop}{Q:Exit→Act→World→Prop}(hc:cOp P o.op=some io)
  (hd:∀ d,o.dst=some d→d<N) (h:AWval io o.dst K st) (hg:GoesOn N st g a w K QP next Q):o.wp P a w next Q:=by
 obtain ⟨x,hx,hK⟩:=h
 obtain ⟨v,h1,h2,h3,h4⟩:=Jtul hs hc hx
 refine Jt1lb h1 ?_
 have hp:=hs.put (P:=P) hd h2 h3 h4
 exact hg.1 _ _ _ _ hK hp.1 (Step.same hp.2 (by
  cases hdst:o.dst with
  | none=>rfl
  | some d=>obtain ⟨y,E,he,_⟩:=put_eq d x st;rw [he]))
theorem put_H(dst:Option Nat)(x:AV)(st:ASt):(Go.AE.put dst x st).H=st.H:=by
 cases dst with
 | none=>rfl
 | some d=>obtain ⟨y,E,he,_⟩:=put_eq d x st;rw [he]
theorem putPtr{st1:ASt}{g1:Gh}{w1:World}(hs1:Sim N st1 g1 a w1)(h1:Step st g a w st1 g1 a w1){dst:Option Nat}(hd:∀ d,dst=some d→d<N){b off:Nat}{v:Value}
  (hr:Rel g1.F g1.φ w1 (.ptr b off) v):Sim N (Go.AE.put dst (.ptr b off) st1) g1 (a.put dst v) w1∧Step st g a w (Go.AE.put dst (.ptr b off) st1) g1 (a.put dst v) w1:=by
 have hp:=hs1.put (P:=default) hd (x:=.ptr b off) hr (fun org e rows h=>by cases h) (fun e rows h=>by cases h)
 exact ⟨hp.1,h1.trans (Step.same hp.2 (put_H _ _ _))⟩
theorem Jtna{F:Nat→Nat}{φ:Nat→Option Nat}{as:List AV}{vs:List Value}(h:RelL F φ w as vs):∀ x∈as,∀ e rows,x≠AV.own e rows:=by
 intro x hx e rows he
 obtain ⟨j,hj⟩:=List.getElem?_of_mem hx
 have hlt:j<vs.length:=by rw [h.1];exact (lgS.1 hj).1
 have:=(h.2 j x vs[j] hj (by simp [hlt])).er
 rw [he] at this
 simp [AV.erase] at this
theorem Jt1lk{F:Nat→Nat}{φ:Nat→Option Nat}{t:TypeId}{z:List AV}(h:zeroOf P t=some z):∃ i zv,P.info? t=some i∧i.zero=some zv∧RelL F φ w z zv.cells.toList:=by
 unfold zeroOf at h
 split at h
 ·rename_i i hi
  split at h
  ·rename_i zv hzv
   obtain ⟨k1,k2⟩:=Jtue (F:=F) (φ:=φ) (w:=w) h
   exact ⟨i,zv,hi,hzv,k1,fun j x u hx hu=>(k2 j x u hx hu).1⟩
  ·cases h
 ·cases h
theorem Jtp(hs:Sim N st g a w){o:Oper}{t:TypeId}{z:List AV}{K:ASt→Prop}{QP:AV→ASt→Prop}{next:Act→World→Prop}{Q:Exit→Act→World→Prop}(ho:o.op=.alloc t)
  (hz:zeroOf P t=some z) (hd:∀ d,o.dst=some d→d<N) {k:Blk} (hk:opB st (.alloc z)=some k) (hK:K (Go.AE.put o.dst (.ptr st.H.length 0) ⟨st.env,st.H++[k]⟩))
  (hg:GoesOn N st g a w K QP next Q):o.wp P a w next Q:=by
 obtain ⟨i,zv,hi,hzv,hr⟩:=Jt1lk (P:=P) (F:=g.F) (φ:=g.φ) (w:=w) hz
 simp only [opB] at hk
 split at hk
 ·rename_i hl
  injection hk with hk;subst hk
  obtain ⟨g1,k1,k2,k3⟩:=hs.newBlk (e:=t) hr hl (Jtna hr)
  obtain ⟨m1,m2⟩:=putPtr k1 k2 hd k3
  refine Jt1lb (v:=.pointer (some ⟨w.heap.size,0,none⟩)) (w':=w.alloc (.cells zv.cells t)) ?_ (hg.1 _ _ _ _ hK m1 m2)
  unfold execOp
  simp [ho,Instr.alloc,zeroValue,typeInfo,hi,hzv,newVar,newRow]
 ·cases hk
theorem Jt13(hs:Sim N st g a w){o:Oper}{t:TypeId}{x:Operand}{y:Opd}{K:ASt→Prop}{QP:AV→ASt→Prop}{next:Act→World→Prop}{Q:Exit→Act→World→Prop}(ho:o.op=.box t x)
  (hc:cOpd x=some y) (hd:∀ d,o.dst=some d→d<N) {k:Blk} (hk:opB st (.box y)=some k) (hK:K (Go.AE.put o.dst (.ptr st.H.length 0) ⟨st.env,st.H++[k]⟩))
  (hg:GoesOn N st g a w K QP next Q):o.wp P a w next Q:=by
 simp only [opB] at hk
 split at hk
 ·rename_i v hv
  split at hk
  ·rename_i hl
   injection hk with hk;subst hk
   have hr:=Jtfd hs hc hv
   have hcl:RelL g.F g.φ w v.cells (a.eval x).cells.toList:=hr.1.cells hr.2
   obtain ⟨g1,k1,k2,k3⟩:=hs.newBlk (e:=t) hcl hl (Jtna hcl)
   obtain ⟨m1,m2⟩:=putPtr k1 k2 hd k3
   refine Jt1lb (v:=.pointer (some ⟨w.heap.size,0,none⟩)) (w':=w.alloc (.cells (a.eval x).cells t)) ?_ (hg.1 _ _ _ _ hK m1 m2)
   unfold execOp
   simp [ho,Instr.box,newVar,newRow]
  ·cases hk
 ·cases hk
theorem Jt1en{F:Nat→Nat}{φ:Nat→Option Nat}:∀ {as:List AV} {ds:List D} {vs:List Value},toDs as=some ds→RelL F φ w as vs→ds.length=as.length∧
  ∀ (j:Nat) (x:D) (u:Value),ds[j]?=some x→vs[j]?=some u→PRel F w x u:=by
 intro as
 induction as with
 | nil=>intro ds vs h hr;simp [toDs] at h;subst h;exact ⟨rfl,fun j x u h=>by simp at h⟩
 | cons a as ih=>
  intro ds vs h hr
  simp only [toDs] at h
  split at h
  ·rename_i y ys hy hys
   injection h with h;subst h
   cases vs with
   | nil=>have:=hr.1;simp at this
   | cons v vs=>
    obtain ⟨h1,h2⟩:=ih hys (vs:=vs) ⟨by have:=hr.1;simpa using this,fun j x u hx hu=>hr.2 (j+1) x u (by simpa using hx) (by simpa using hu)⟩
    refine ⟨by simp [h1],fun j x u hx hu=>?_⟩
    cases j with
    | zero=>
     simp at hx hu;subst hx;subst hu
     have hra:=hr.2 0 a v rfl rfl
     rw [hra.er] at hy
     cases a<;>simp only [AV.toD] at hy<;>first | (cases hy;done) | (injection hy with hy;subst hy)
     ·exact hra.d_inv
     ·rw [hra.nils_inv];exact .nil _ _
     ·obtain ⟨a',ha'⟩:=hra.nile_inv;rw [ha'];exact .nil _ _
    | succ j=>simp at hx hu;exact h2 j x u hx hu
  ·cases h
theorem Jt1lj{F:Nat→Nat}{t:TypeId}{z:List D}(h:zeroD P t=some z):∃ i zv,P.info? t=some i∧i.zero=some zv∧zv.cells.size=z.length∧
  ∀ (j:Nat) (x:D) (u:Value),z[j]?=some x→zv.cells.toList[j]?=some u→PRel F w x u:=by
 unfold zeroD at h
 split at h
 ·rename_i z0 hz0
  obtain ⟨i,zv,hi,hzv,hr⟩:=Jt1lk (P:=P) (F:=F) (φ:=fun _=>none) (w:=w) hz0
  obtain ⟨h1,h2⟩:=Jt1en h hr
  have:=hr.1
  exact ⟨i,zv,hi,hzv,by rw [h1,←this];simp,h2⟩
 ·cases h
def RelR(F:Nat→Nat)(w:World)(esz:Nat)(rows:List (List D)) (vs:List Value):Prop:=
 (∀ r∈rows,r.length=esz)∧vs.length=rows.length*esz∧∀ (j:Nat) (x:D) (u:Value),rows.flatten[j]?=some x→vs[j]?=some u→PRel F w x u
theorem RelR.set{F:Nat→Nat}{esz:Nat}{rows:List (List D)} {vs us:List Value} {row:List D} {i:Nat} (h:RelR F w esz rows vs) (hpos:0<esz) (hi:i<rows.length) (hl:row.length=esz) (hu:us.length=esz)
  (hr:∀ (j:Nat) (x:D) (u:Value),row[j]?=some x→us[j]?=some u→PRel F w x u):RelR F w esz (rows.set i row) (spl vs (i*esz) us):=by
 obtain ⟨h1,h2,h3⟩:=h
 have hle:i*esz+esz≤rows.length*esz:=by rw [←Nat.succ_mul];exact Nat.mul_le_mul_right _ hi
 have hset:∀ r∈rows.set i row,r.length=esz:=fun r hr=>(List.mem_or_eq_of_mem_set hr).elim (h1 r) (fun h=>by rw [h];exact hl)
 refine ⟨hset,by rw [Jt1cv _ _ _ (by omega),List.length_set];exact h2,fun j x u hx hu'=>?_⟩
 have hmod:j % esz<esz:=Nat.mod_lt _ hpos
 have hdm:j=(j / esz)*esz+j % esz:=by rw [Nat.mul_comm];exact (Nat.div_add_mod j esz).symm
 rw [Jt1cu _ _ _ (by omega),hu] at hu'
 rw [hdm,Jtg9 _ esz hset _ _ hmod] at hx
 rw [List.getElem?_set] at hx
 by_cases hij:i=j / esz
 ·subst hij
  rw [if_pos rfl,if_pos hi] at hx
  rw [if_pos (by omega)] at hu'
  simp only [Option.bind_some] at hx
  exact hr _ x u hx (by rw [←hu'];congr 1;omega)
 ·rw [if_neg hij] at hx
  rw [if_neg (by
   intro hc
   apply hij
   have h4:i≤j / esz:=(Nat.le_div_iff_mul_le hpos).2 hc.1
   have h5:j / esz<i+1:=(Nat.div_lt_iff_lt_mul hpos).2 (by rw [Nat.succ_mul];omega)
   omega)] at hu'
  refine h3 j x u ?_ hu'
  rw [hdm,Jtg9 _ esz h1 _ _ hmod]
  exact hx
theorem Jtxs(hs:Sim N st g a w){esz:Nat}(hpos:0<esz):∀ {ps:List (Nat × Operand)} {qs:List (Nat × Opd)} {rows rows':List (List D)} {zs:Array Value},Jtaa ps=some qs→
  RelR g.F w esz rows zs.toList→Jtxq rows esz st.env qs=some rows'→
  ∃ cs,Instr.fill (fun i=>some (i*esz,esz)) zs (ps.map fun p=>(p.1,a.eval p.2))=some cs∧RelR g.F w esz rows' cs.toList∧rows'.length=rows.length:=by
 intro ps
 induction ps with
 | nil=>intro qs rows rows' zs h1 h2 h3;simp [Jtaa] at h1;subst h1;simp [Jtxq] at h3;subst h3;exact ⟨zs,rfl,h2,rfl⟩
 | cons p ps ih=>
  intro qs rows rows' zs h1 h2 h3
  obtain ⟨i,x⟩:=p
  simp only [Jtaa] at h1
  split at h1
  ·rename_i y ys hy hys
   injection h1 with h1;subst h1
   simp only [Jtxq] at h3
   split at h3
   ·rename_i v hv
    split at h3
    ·rename_i row hrow
     split at h3
     ·rename_i hle
      have hr:=Jtfd hs hy hv
      have hcl:RelL g.F g.φ w v.cells (a.eval x).cells.toList:=hr.1.cells hr.2
      obtain ⟨r1,r2⟩:=Jt1en hrow hcl
      have hsz:(a.eval x).cells.toList.length=esz:=by rw [hcl.1,←r1];exact hle.1
      have hz2:=h2.2.1
      have hmul:i*esz+esz≤rows.length*esz:=by rw [←Nat.succ_mul];exact Nat.mul_le_mul_right _ hle.2
      have hsp:=h2.set hpos hle.2 hle.1 hsz r2
      have hfold:((a.eval x).cells.zipIdx.foldl (fun cs (c,j)=>cs.setIfInBounds (i*esz+j) c) zs).toList=spl zs.toList (i*esz) (a.eval x).cells.toList:=by
       have:=Jtgh (i*esz) (a.eval x).cells.toList 0 zs (by simp at hz2 hsz ⊢;omega)
       rw [Nat.add_zero] at this
       rw [←this,←Array.foldl_toList,Array.toList_zipIdx]
      obtain ⟨cs,e1,e2,e3⟩:=ih hys (zs:=(a.eval x).cells.zipIdx.foldl (fun cs (c,j)=>cs.setIfInBounds (i*esz+j) c) zs) (by rw [hfold];exact hsp) h3
      refine ⟨cs,?_,e2,by rw [e3];simp⟩
      simp only [List.map_cons,Instr.fill]
      rw [if_neg]
      ·exact e1
      ·simp only [Bool.or_eq_true,decide_eq_true_eq,bne_iff_ne,ne_eq,not_or]
       simp at hz2 hsz
       omega
     ·cases h3
    ·cases h3
   ·cases h3
  ·cases h1
theorem Jt15(hs:Sim N st g a w){o:Oper}{t e:TypeId}{len n:Nat}{ps:Array (Nat × Operand)} {qs:List (Nat × Opd)} {z:List D} {rows:List (List D)} {K:ASt→Prop} {QP:AV→ASt→Prop}
  {next:Act→World→Prop} {Q:Exit→Act→World→Prop} (ho:o.op=.buildSlice t len ps) (hu:P.underlying t=some (.slice e)) (hn:szOf P e=some n) (hz:zeroD P e=some z) (hq:Jtaa ps.toList=some qs)
  (hd:∀ d,o.dst=some d→d<N) (hpos:0<n) (hzl:z.length=n) (hsm:len*n≤16777216) (hrows:Jtxq (List.replicate len z) n st.env qs=some rows) (hK:K (Go.AE.put o.dst (.own n rows) st))
  (hg:GoesOn N st g a w K QP next Q):o.wp P a w next Q:=by
 obtain ⟨inf,hinf,rfl⟩:=Jt1e1 hn
 obtain ⟨i,zv,hi,hzv,hzs,hzr⟩:=Jt1lj (P:=P) (F:=g.F) (w:=w) hz
 rw [hi] at hinf;injection hinf with hinf;subst hinf
 have h0:RelR g.F w i.size (List.replicate len z) ((Array.range (len*i.size)).map (zv.cells[· % zv.cells.size]!)).toList:=by
  have hrep:∀ r∈List.replicate len z,r.length=i.size:=fun r hr=>by rw [(List.mem_replicate.1 hr).2];exact hzl
  refine ⟨hrep,by simp,fun j x u hx hu'=>?_⟩
  have hmod:j % i.size<i.size:=Nat.mod_lt _ hpos
  have hdm:j=(j / i.size)*i.size+j % i.size:=by rw [Nat.mul_comm];exact (Nat.div_add_mod j i.size).symm
  rw [hdm,Jtg9 _ i.size hrep _ _ hmod] at hx
  have hzs':zv.cells.size=i.size:=by rw [hzs,hzl]
  have hx2:z[j % i.size]?=some x:=by
   rw [List.getElem?_replicate] at hx
   split at hx
   ·simpa using hx
   ·cases hx
  refine hzr (j % i.size) x u hx2 ?_
  simp only [Array.toList_map,Array.toList_range,lgM,omS] at hu'
  obtain ⟨k,hk,rfl⟩:=hu'
  rw [List.getElem?_range] at hk
  ·injection hk with hk;subst hk
   rw [hzs',Array.getElem?_toList,getElem!_pos zv.cells (j % i.size) (by omega)]
   simp [show j % i.size<zv.cells.size by omega]
  ·by_cases hjl:j<len*i.size
   ·exact hjl
   ·rw [List.getElem?_eq_none (by simp;omega)] at hk;cases hk
 obtain ⟨cs,e1,e2,e3⟩:=Jtxs hs hpos hq h0 hrows
 have hlen:rows.length=len:=by rw [e3];simp
 obtain ⟨r1,r2,r3⟩:=e2
 obtain ⟨g',k1,k2,k3⟩:=hs.newOwn (dst:=o.dst) hd (e:=e) (esz:=i.size) (n:=len) (cap:=len) (rows:=rows) (c:=cs) hlen r1 (by rw [←Array.length_toList,r2,hlen]) (Nat.le_refl _)
  (by
   have:=Nat.le_mul_of_pos_right len hpos
   unfold maxLen;omega) (fun j x u hx hu'=>r3 j x u hx (by rw [Array.getElem?_toList];exact hu'))
 refine Jt1lb (v:=.slice (some ⟨w.heap.size,0,none⟩) len len) (w':=w.alloc (.cells cs e)) ?_ (hg.1 _ _ _ _ hK k1 k2)
 unfold execOp
 have hsm':¬ (len*i.size>2 ^ 24):=by omega
 have hf:Instr.fill (fun k=>some (k*i.size,i.size)) ((Array.range (len*i.size)).map (zv.cells[· % zv.cells.size]!)) (ps.map fun (k,x)=>(k,a.eval x)).toList=some cs:=by
  rw [←e1];congr 1;simp
 by_cases hl0:len*i.size=0
 ·have hnil:(Array.range (len*i.size)).map (zv.cells[· % zv.cells.size]!)=#[]:=by rw [hl0];simp [Array.range_zero']
  have hf':Instr.fill (fun k=>some (k*i.size,i.size)) #[] (List.map (fun x=>(x.1,a.eval x.2)) ps.toList)=some cs:=by rw [←hnil];exact e1
  simp only [ho,Instr.buildSlice,Sem.run_bind,run_underlying hu,Result.andThen_ok,Jt17f hi,hl0]
  simp [Array.range_zero',hf',newRow]
 ·simp only [ho,Instr.buildSlice,Sem.run_bind,run_underlying hu,Result.andThen_ok,Jt17f hi,if_neg hsm',if_neg hl0,zeroValue,typeInfo,run_program,hi,hzv,Sem.run_pure,hf,newRow,run_newObj]
  rfl
theorem Jt14(hs:Sim N st g a w){o:Oper}{t e:TypeId}{n:Nat}{ps:Array (Nat × Operand)} {qs:List (Nat × Opd)} {z:List D} {K:ASt→Prop} {QP:AV→ASt→Prop}
  {next:Act→World→Prop} {Q:Exit→Act→World→Prop} (ho:o.op=.buildSlice t 0 ps) (hu:P.underlying t=some (.slice e)) (hn:szOf P e=some n) (hz:zeroD P e=some z) (hq:Jtaa ps.toList=some qs)
  (hd:∀ d,o.dst=some d→d<N) (hps:ps=#[]) (hK:K (Go.AE.put o.dst .nile st)) (hg:GoesOn N st g a w K QP next Q):o.wp P a w next Q:=by
 obtain ⟨inf,hinf,rfl⟩:=Jt1e1 hn
 obtain ⟨i,zv,hi,hzv,hzs,hzr⟩:=Jt1lj (P:=P) (F:=g.F) (w:=w) hz
 rw [hi] at hinf;injection hinf with hinf;subst hinf
 subst hps
 have hgr:=Jth3 (g:=g) (w:=w) (Mine st g a w) (.cells #[] e) 0
 have hs1:=hs.grew hgr
 have hp:=hs1.put (P:=P) (dst:=o.dst) hd (x:=.nile) (v:=.slice (some ⟨w.heap.size,0,none⟩) 0 0) (.nile _) (fun org e rows h=>by cases h) (fun e rows h=>by cases h)
 refine Jt1lb (v:=.slice (some ⟨w.heap.size,0,none⟩) 0 0) (w':=w.alloc (.cells #[] e)) ?_ (hg.1 _ _ _ _ hK hp.1
  ⟨⟨rfl,rfl,rfl,by simp,fun r hr _=>⟨heap_alloc_old w _ hr,by simp only [Gh.setF];rw [if_neg (by omega)]⟩,hgr.stab⟩,fun r hr=>.inl ((Jt5a hs hgr).1 (hp.2 r hr)),fun _ _ h=>h,by rw [put_H];exact Nat.le_refl _,Jty1 _ _ _⟩)
 unfold execOp
 simp only [ho,Instr.buildSlice,Sem.run_bind,run_underlying hu,Result.andThen_ok,Jt17f hi,Nat.zero_mul]
 simp [Array.range_zero',newRow,Instr.fill]
end
end Go.AE
